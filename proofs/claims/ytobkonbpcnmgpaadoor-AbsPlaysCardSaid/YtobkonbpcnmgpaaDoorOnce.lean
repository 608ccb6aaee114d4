/- The law AbsOnce, walked. -/
import Derived.Test.YtobkonbpcnmgpaaDoorSem
namespace Go.Proofs.YtobkonbpcnmgpaaDoor
open Go.RowKit
set_option linter.unusedVariables false
set_option linter.unusedSimpArgs false
set_option maxRecDepth 100000 in
set_option maxHeartbeats 8000000 in
theorem once_walk (V : Option Addr) (nc cc : Nat) (f : Nat → Int) (w : World) (hV : U8s w V nc f) (hN : NmW w) : Calls Tryd.prog 8 #[.slice V nc cc] w fun e w' => e = .returned (.bool true) ∧ Below w.heap.size w w' := by
  by_cases hl : 200 < nc
  · have hl' : 200 < (nc : Int) := by omega
    go_enter Tryd.func8, Tryd.ntmps8
    go_wp2_with fail
    refine (awake w hN).mono ?_
    rintro e w1 ⟨rfl, hb1⟩
    go_wp2_with fail
    refine (awake w1 (hN.below hb1)).mono ?_
    rintro e w2 ⟨rfl, hb2⟩
    go_wp2
    go_ret
    exact ⟨rfl, hb1.trans (hb2.mono hb1.size)⟩
  have hl' : ¬ (200 < (nc : Int)) := by omega
  have hrb : rb ⟨15, 0, 0, 0⟩ 4 = true := by rfl
  go_enter Tryd.func8, Tryd.ntmps8
  go_wp2_with fail
  refine (awake w hN).mono ?_
  rintro e w1 ⟨rfl, hb1⟩
  go_wp2_with fail
  have hb2 := (Below.refl w1.heap.size w1).alloc (Nat.le_refl _) (.cells #[.int .i64 15, .int .i64 0, .int .i64 0, .int .i64 0] 48)
  have hO := objs1 w1 ⟨15, 0, 0, 0⟩
  have hal := hb1.trans (hb2.mono hb1.size)
  refine (new1 ⟨15, 0, 0, 0⟩ 4 hrb (by omega) _ 1 _ hO (hN.below hal)).mono ?_
  rintro e w3 ⟨bM, g, cap, rfl, hM, hgM, hzM, hbn⟩
  have hz : w.heap.size ≤ g := by have := hb1.size; simp at hzM; omega
  replace hal := hal.trans (hbn.mono hal.size)
  clear hb1 hb2 hO hzM hbn
  go_upto_region 8 with (fail)
  go_loopw [5, 6, 7] (fun v d u wr => ∃ (i : Nat) (W : Int) (D : Bool), u = .int .i64 i ∧ v = .int .i64 W ∧ d = .bool D ∧ i ≤ nc ∧ -1 ≤ W ∧ Mac wr bM g 1 cap 4 (fun _ => { initS ⟨15, 0, 0, 0⟩ with owner := (if D = true then -1 else W), done := D }) ∧ Below w.heap.size w wr) (fun _ _ u _ => nc - (intOf u).toNat)
  case atStart => exact ⟨0, -1, false, rfl, rfl, rfl, Nat.zero_le _, by omega, hM, hal⟩
  case round =>
    obtain ⟨i, W, D, rfl, rfl, rfl, hi, hW, hM, hal⟩ := hrel
    by_cases hlt : i < nc
    case neg =>
      obtain rfl : i = nc := by omega
      have hl1 : ¬ ((i : Int) < i) := by omega
      go_wp2
      go_ret
      exact ⟨rfl, hal⟩
    have hl0 : (0 : Int) ≤ i := by omega
    have hl1 : (i : Int) < nc := by omega
    obtain ⟨bV, oV, rfl⟩ := u8_ptr hV (by omega)
    obtain ⟨_, hx0, hx1⟩ := at_u8 (hV.below hal) hlt
    have hcV := fun w' (h' : Below wr.heap.size wr w') => (at_u8 ((hV.below hal).below h') hlt).1
    generalize f i = xv at *
    go_upto_region 10 with (fail)
    obtain ⟨d, u, e2, d1, d2, d3, d4, d5, hu0, hu1, he0, he1⟩ := ask_nums xv 2 4 2 ⟨hx0, hx1⟩ (by omega) (by omega) (by omega)
    obtain ⟨c, hc⟩ : ∃ c, IntKind.i64.wrap (9 + e2) = c := ⟨_, rfl⟩
    have hc' : c = 9 ∨ c = 10 := by rw [← hc]; simp only [IntKind.wrap_i64]; omega
    refine grow_head 15 (fun w' => Below wr.heap.size wr w') (by kernel_rfl) (by kernel_rfl) (by decide) (by kernel_rfl) ?_
    simp only [List.take_succ_cons, List.take_zero]
    refine g_run rfl ?_ (fun w' h' => ga_value ?_) (fun K hK => ?_)
    rotate_left
    · go_simp; try with_reducible rfl
    go_simp
    refine hK _ ?_
    clear hK K
    refine g_run rfl ?_ (fun w' h' => ga_value ?_) (fun K hK => ?_)
    rotate_left
    · go_simp; try with_reducible rfl
    go_simp
    refine hK _ ?_
    clear hK K
    refine g_run rfl ?_ (fun w' h' => ga_value ?_) (fun K hK => ?_)
    rotate_left
    · go_simp; try with_reducible rfl
    go_simp
    refine hK _ ?_
    clear hK K
    refine g_run rfl ?_ (fun w' h' => ga_value ?_) (fun K hK => ?_)
    rotate_left
    · have c := hcV w' h'; go_simp; try with_reducible rfl
    go_simp
    refine hK _ ?_
    clear hK K
    refine g_run rfl ?_ (fun w' h' => ga_value ?_) (fun K hK => ?_)
    rotate_left
    · go_simp; try with_reducible rfl
    go_simp
    refine hK _ ?_
    clear hK K
    refine g_run rfl ?_ (fun w' h' => ga_value ?_) (fun K hK => ?_)
    rotate_left
    · go_simp; try with_reducible rfl
    go_simp
    refine hK _ ?_
    clear hK K
    refine g_run rfl ?_ (fun w' h' => ga_value ?_) (fun K hK => ?_)
    rotate_left
    · go_simp; try with_reducible rfl
    go_simp
    refine hK _ ?_
    clear hK K
    refine g_run rfl ?_ (fun w' h' => ga_value ?_) (fun K hK => ?_)
    rotate_left
    · go_simp; try with_reducible rfl
    go_simp
    refine hK _ ?_
    clear hK K
    refine g_run rfl ?_ (fun w' h' => ga_value ?_) (fun K hK => ?_)
    rotate_left
    · go_simp; try with_reducible rfl
    go_simp
    refine hK _ ?_
    clear hK K
    refine g_run rfl ?_ (fun w' h' => ga_value ?_) (fun K hK => ?_)
    rotate_left
    · go_simp; try with_reducible rfl
    go_simp
    refine hK _ ?_
    clear hK K
    refine g_run rfl ?_ (fun w' h' => ga_value ?_) (fun K hK => ?_)
    rotate_left
    · have c := hcV w' h'; go_simp; try with_reducible rfl
    go_simp
    refine hK _ ?_
    clear hK K
    refine g_run rfl ?_ (fun w' h' => ga_value ?_) (fun K hK => ?_)
    rotate_left
    · go_simp; try with_reducible rfl
    go_simp
    refine hK _ ?_
    clear hK K
    refine g_run rfl ?_ (fun w' h' => ga_value ?_) (fun K hK => ?_)
    rotate_left
    · go_simp; try with_reducible rfl
    go_simp
    refine hK _ ?_
    clear hK K
    refine g_run rfl ?_ (fun w' h' => ga_value ?_) (fun K hK => ?_)
    rotate_left
    · go_simp; try with_reducible rfl
    go_simp
    refine hK _ ?_
    clear hK K
    refine g_run rfl ?_ (fun w' h' => ga_value ?_) (fun K hK => ?_)
    rotate_left
    · go_simp; try with_reducible rfl
    go_simp
    refine hK _ ?_
    clear hK K
    refine g_nil ?_
    show anyG _ _ _ _ _ _ _ _ _
    have q0 : Below wr.heap.size wr wr.drew := Below.drew (Below.refl _ _)
    refine anyG_ready [15] (by kernel_rfl) (by simp) (fun v1 r1 => ⟨q0.trans (r1.mono q0.size), ?_⟩)
    have q1 := q0.trans (r1.mono q0.size)
    intro j hj
    simp only [List.mem_cons, List.not_mem_nil, or_false] at hj
    subst hj
    refine op_alloc rfl rfl 34 rfl (.agg #[.int .i64 0, .int .i64 0, .int .i64 0, .int .i64 0, .int .u32 0, .int .u32 0]) #[.int .i64 0, .int .i64 0, .int .i64 0, .int .i64 0, .int .u32 0, .int .u32 0] (fun w => by kernel_rfl) rfl (fun v2 b12 X12 l1 f1 => ?_)
    have zb : wr.heap.size ≤ b12 := by have := q1.size; have := f1.out; omega
    have q2 := q1.trans (l1.mono q1.size)
    refine anyG_ready [16] (by kernel_rfl) (by simp) (fun v3 r3 => ⟨q2.trans (r3.mono q2.size), ?_⟩)
    have q3 := q2.trans (r3.mono q2.size)
    replace X12 := keep X12 r3
    intro j hj
    simp only [List.mem_cons, List.not_mem_nil, or_false] at hj
    subst hj
    trace_state
    refine op_store rfl rfl 34 (.tmp 8) (.tmp 53) rfl b12 #[.int .i64 u, .int .i64 0, .int .i64 c, .int .i64 0, .int .u32 0, .int .u32 0] rfl rfl 34 _ X12 (by kernel_rfl) rfl (by simp [Value.oneCell']) (fun v4 p1 m1 p2 => ?_)
    have q4 := q3.trans (p2 _ zb)
    refine anyG_end (by kernel_rfl) (fun w5 r5 => ⟨q4.trans (r5.mono q4.size), ?_⟩)
    have hbg := q4.trans (r5.mono q4.size)
    replace X12 := keep p1 r5
    clear q0 q1 q2 q3 q4 l1 f1 r1 r3 r5 p1 p2 m1 zb
    clear d1 d2 d3 d4 d5 hc hcV hx0 hx1
    replace hM := hM.below hbg
    replace hal := hal.trans (hbg.mono hal.size)
    have hn12 : b12 ≠ g := by intro e; subst e; obtain ⟨cs, h5, _⟩ := hM.row; rw [h5] at X12; simp at X12
    clear hbg
    have hmay : mayS ⟨15, 0, 0, 0⟩ c 4 u = true := by
      unfold mayS
      rw [if_pos ⟨hu0, hu1, hrb⟩]
      show may 15 c = true
      rcases hc' with rfl | rfl <;> decide
    go_upto_region 11 with (fail)
    rcases hc' with rfl | rfl
    · cases D
      · by_cases hwu : W = u
        · have hgo : goP 4 { initS ⟨15, 0, 0, 0⟩ with owner := (if false = true then -1 else W), done := false } ⟨u, 0, 9, 0, 0, 0⟩ = ⟨{ initS ⟨15, 0, 0, 0⟩ with owner := (if false = true then -1 else W), done := false }, 1, true⟩ := by
            rw [go15 rfl hmay rfl]
            unfold onceP
            rw [if_neg (show ¬ (9 : Int) = 10 by omega), if_pos (show (if false = true then (-1 : Int) else W) = u from hwu)]
          have q1 : (W == u) = true := by simp [hwu]
          clear hwu
          clear hmay
          refine wp_region_lit ?_
          iterate 1
            refine wl_val rfl ?_ ?_ ?_
            rotate_left
            · go_simp; try with_reducible rfl
            intro K hK
            go_simp
            refine hK _ _ ?_
            clear hK K
          refine wl_load rfl 34 (.tmp 8) rfl _ rfl _ _ _ _ X12 Tryd.underlying34 rfl (by kernel_rfl) ?_
          intro K hK
          go_simp
          refine hK _ _ ?_
          clear hK K
          have hcall := do1 ({ initS ⟨15, 0, 0, 0⟩ with owner := (if false = true then -1 else W), done := false }) bM g cap 4 (by omega) ⟨u, 0, 9, 0, 0, 0⟩ rfl (by simp) (by simp [initS]) w5 hM
          rw [hgo] at hcall
          refine wl_call rfl 14 #[.pointer (some ⟨bM, 0, none⟩), akV ⟨u, 0, 9, 0, 0, 0⟩] (ansV 1 none 0 0 true) _ ?_ hcall (fun w6 h6 => ?_)
          · unfold akV akC; first | (go_simp; done) | (go_simp; rfl)
          intro K hK
          go_simp
          refine hK _ _ ?_
          clear hK K
          clear hcall
          unfold ansV
          obtain ⟨hM6, hE6⟩ := h6
          simp only at hM6
          iterate 3
            refine wl_val rfl ?_ ?_ ?_
            rotate_left
            · go_simp; try with_reducible rfl
            intro K hK
            go_simp
            refine hK _ _ ?_
            clear hK K
          refine wl_alloc rfl 38 rfl (.agg #[.int .u32 0, .slice none 0 0]) #[.int .u32 0, .slice none 0 0] (fun w => by kernel_rfl) rfl (fun w7 b13 X13 l7 f7 => ?_)
          intro K hK
          go_simp
          refine hK _ _ ?_
          clear hK K
          refine wl_store rfl 38 (.tmp 9) (.tmp 58) rfl b13 #[.int .u32 1, .slice none 0 0] rfl rfl 38 _ X13 (by kernel_rfl) rfl (by simp [Value.oneCell']) (fun w8 k1 k2 k3 k4 => ?_)
          intro K hK
          go_simp
          refine hK _ _ ?_
          clear hK K
          refine wl_val rfl (.bool true) ?_ ?_
          · go_simp
          intro K hK
          go_simp
          refine hK _ _ ?_
          clear hK K
          have hb8 : Below w6.heap.size w6 w8 := l7.trans (k3 _ (by simp only [Hid] at f7; omega))
          clear X13 l7 f7 k2 k3 k4
          replace X12 := keep ((hE6.blk b12 (blk_lt X12) hn12).trans X12) hb8
          have hM8 := hM6.below hb8
          replace hal := hal.trans (hE6.low _ hz hal.size)
          replace hal := hal.trans (hb8.mono hal.size)
          clear hM6 hE6 hb8 hM hgo
          have y12 := cell_of_row w8 b12 2 _ 34 _ X12
          have y120 := cell_of_row w8 b12 0 _ 34 _ X12
          have y13 := cell_of_row w8 b13 0 _ 38 _ k1
          go_wp2
          go_roundw
          case rel => exact ⟨i + 1, W, false, by go_num, rfl, rfl, by omega, by omega, hM8, hal⟩
          case measure => simp [intOf]; omega
        · by_cases hw0 : 0 ≤ W
          · have hgo : goP 4 { initS ⟨15, 0, 0, 0⟩ with owner := (if false = true then -1 else W), done := false } ⟨u, 0, 9, 0, 0, 0⟩ = ⟨{ initS ⟨15, 0, 0, 0⟩ with owner := (if false = true then -1 else W), done := false }, 0, false⟩ := by
              rw [go15 rfl hmay rfl]
              unfold onceP
              rw [if_neg (show ¬ (9 : Int) = 10 by omega), if_neg (show ¬ (if false = true then (-1 : Int) else W) = u from hwu), if_neg (show ¬ false = true from Bool.false_ne_true), if_pos (show 0 ≤ (if false = true then (-1 : Int) else W) from hw0)]
            have q1 : (W == u) = false := by simp [hwu]
            clear hwu
            clear hmay
            refine wp_region_lit ?_
            iterate 1
              refine wl_val rfl ?_ ?_ ?_
              rotate_left
              · go_simp; try with_reducible rfl
              intro K hK
              go_simp
              refine hK _ _ ?_
              clear hK K
            refine wl_load rfl 34 (.tmp 8) rfl _ rfl _ _ _ _ X12 Tryd.underlying34 rfl (by kernel_rfl) ?_
            intro K hK
            go_simp
            refine hK _ _ ?_
            clear hK K
            have hcall := do1 ({ initS ⟨15, 0, 0, 0⟩ with owner := (if false = true then -1 else W), done := false }) bM g cap 4 (by omega) ⟨u, 0, 9, 0, 0, 0⟩ rfl (by simp) (by simp [initS]) w5 hM
            rw [hgo] at hcall
            refine wl_call rfl 14 #[.pointer (some ⟨bM, 0, none⟩), akV ⟨u, 0, 9, 0, 0, 0⟩] (ansV 0 none 0 0 false) _ ?_ hcall (fun w6 h6 => ?_)
            · unfold akV akC; first | (go_simp; done) | (go_simp; rfl)
            intro K hK
            go_simp
            refine hK _ _ ?_
            clear hK K
            clear hcall
            unfold ansV
            obtain ⟨hM6, hE6⟩ := h6
            simp only at hM6
            iterate 3
              refine wl_val rfl ?_ ?_ ?_
              rotate_left
              · go_simp; try with_reducible rfl
              intro K hK
              go_simp
              refine hK _ _ ?_
              clear hK K
            refine wl_alloc rfl 38 rfl (.agg #[.int .u32 0, .slice none 0 0]) #[.int .u32 0, .slice none 0 0] (fun w => by kernel_rfl) rfl (fun w7 b13 X13 l7 f7 => ?_)
            intro K hK
            go_simp
            refine hK _ _ ?_
            clear hK K
            refine wl_store rfl 38 (.tmp 9) (.tmp 58) rfl b13 #[.int .u32 0, .slice none 0 0] rfl rfl 38 _ X13 (by kernel_rfl) rfl (by simp [Value.oneCell']) (fun w8 k1 k2 k3 k4 => ?_)
            intro K hK
            go_simp
            refine hK _ _ ?_
            clear hK K
            refine wl_val rfl (.bool false) ?_ ?_
            · go_simp
            intro K hK
            go_simp
            refine hK _ _ ?_
            clear hK K
            have hb8 : Below w6.heap.size w6 w8 := l7.trans (k3 _ (by simp only [Hid] at f7; omega))
            clear X13 l7 f7 k2 k3 k4
            replace X12 := keep ((hE6.blk b12 (blk_lt X12) hn12).trans X12) hb8
            have hM8 := hM6.below hb8
            replace hal := hal.trans (hE6.low _ hz hal.size)
            replace hal := hal.trans (hb8.mono hal.size)
            clear hM6 hE6 hb8 hM hgo
            have y12 := cell_of_row w8 b12 2 _ 34 _ X12
            have y120 := cell_of_row w8 b12 0 _ 34 _ X12
            have y13 := cell_of_row w8 b13 0 _ 38 _ k1
            go_wp2
            go_roundw
            case rel => exact ⟨i + 1, W, false, by go_num, rfl, rfl, by omega, by omega, hM8, hal⟩
            case measure => simp [intOf]; omega
          · have hgo : goP 4 { initS ⟨15, 0, 0, 0⟩ with owner := (if false = true then -1 else W), done := false } ⟨u, 0, 9, 0, 0, 0⟩ = ⟨{ initS ⟨15, 0, 0, 0⟩ with owner := (if false = true then -1 else u), done := false }, 5, true⟩ := by
              rw [go15 rfl hmay rfl]
              unfold onceP
              rw [if_neg (show ¬ (9 : Int) = 10 by omega), if_neg (show ¬ (if false = true then (-1 : Int) else W) = u from hwu), if_neg (show ¬ false = true from Bool.false_ne_true), if_neg (show ¬ 0 ≤ (if false = true then (-1 : Int) else W) from hw0)]; rfl
            have q1 : (W == u) = false := by simp [hwu]
            clear hwu
            clear hmay
            refine wp_region_lit ?_
            iterate 1
              refine wl_val rfl ?_ ?_ ?_
              rotate_left
              · go_simp; try with_reducible rfl
              intro K hK
              go_simp
              refine hK _ _ ?_
              clear hK K
            refine wl_load rfl 34 (.tmp 8) rfl _ rfl _ _ _ _ X12 Tryd.underlying34 rfl (by kernel_rfl) ?_
            intro K hK
            go_simp
            refine hK _ _ ?_
            clear hK K
            have hcall := do1 ({ initS ⟨15, 0, 0, 0⟩ with owner := (if false = true then -1 else W), done := false }) bM g cap 4 (by omega) ⟨u, 0, 9, 0, 0, 0⟩ rfl (by simp) (by simp [initS]) w5 hM
            rw [hgo] at hcall
            refine wl_call rfl 14 #[.pointer (some ⟨bM, 0, none⟩), akV ⟨u, 0, 9, 0, 0, 0⟩] (ansV 5 none 0 0 true) _ ?_ hcall (fun w6 h6 => ?_)
            · unfold akV akC; first | (go_simp; done) | (go_simp; rfl)
            intro K hK
            go_simp
            refine hK _ _ ?_
            clear hK K
            clear hcall
            unfold ansV
            obtain ⟨hM6, hE6⟩ := h6
            simp only at hM6
            iterate 3
              refine wl_val rfl ?_ ?_ ?_
              rotate_left
              · go_simp; try with_reducible rfl
              intro K hK
              go_simp
              refine hK _ _ ?_
              clear hK K
            refine wl_alloc rfl 38 rfl (.agg #[.int .u32 0, .slice none 0 0]) #[.int .u32 0, .slice none 0 0] (fun w => by kernel_rfl) rfl (fun w7 b13 X13 l7 f7 => ?_)
            intro K hK
            go_simp
            refine hK _ _ ?_
            clear hK K
            refine wl_store rfl 38 (.tmp 9) (.tmp 58) rfl b13 #[.int .u32 5, .slice none 0 0] rfl rfl 38 _ X13 (by kernel_rfl) rfl (by simp [Value.oneCell']) (fun w8 k1 k2 k3 k4 => ?_)
            intro K hK
            go_simp
            refine hK _ _ ?_
            clear hK K
            refine wl_val rfl (.bool true) ?_ ?_
            · go_simp
            intro K hK
            go_simp
            refine hK _ _ ?_
            clear hK K
            have hb8 : Below w6.heap.size w6 w8 := l7.trans (k3 _ (by simp only [Hid] at f7; omega))
            clear X13 l7 f7 k2 k3 k4
            replace X12 := keep ((hE6.blk b12 (blk_lt X12) hn12).trans X12) hb8
            have hM8 := hM6.below hb8
            replace hal := hal.trans (hE6.low _ hz hal.size)
            replace hal := hal.trans (hb8.mono hal.size)
            clear hM6 hE6 hb8 hM hgo
            have y12 := cell_of_row w8 b12 2 _ 34 _ X12
            have y120 := cell_of_row w8 b12 0 _ 34 _ X12
            have y13 := cell_of_row w8 b13 0 _ 38 _ k1
            go_wp2
            go_roundw
            case rel => exact ⟨i + 1, u, false, by go_num, rfl, rfl, by omega, by omega, hM8, hal⟩
            case measure => simp [intOf]; omega
      · have hgo : goP 4 { initS ⟨15, 0, 0, 0⟩ with owner := (if true = true then -1 else W), done := true } ⟨u, 0, 9, 0, 0, 0⟩ = ⟨{ initS ⟨15, 0, 0, 0⟩ with owner := (if true = true then -1 else W), done := true }, 0, true⟩ := by
          rw [go15 rfl hmay rfl]
          unfold onceP
          rw [if_neg (show ¬ (9 : Int) = 10 by omega), if_neg (show ¬ (if true = true then (-1 : Int) else W) = u from by rw [if_pos rfl]; omega), if_pos rfl]
        clear hmay
        refine wp_region_lit ?_
        iterate 1
          refine wl_val rfl ?_ ?_ ?_
          rotate_left
          · go_simp; try with_reducible rfl
          intro K hK
          go_simp
          refine hK _ _ ?_
          clear hK K
        refine wl_load rfl 34 (.tmp 8) rfl _ rfl _ _ _ _ X12 Tryd.underlying34 rfl (by kernel_rfl) ?_
        intro K hK
        go_simp
        refine hK _ _ ?_
        clear hK K
        have hcall := do1 ({ initS ⟨15, 0, 0, 0⟩ with owner := (if true = true then -1 else W), done := true }) bM g cap 4 (by omega) ⟨u, 0, 9, 0, 0, 0⟩ rfl (by simp) (by simp [initS]) w5 hM
        rw [hgo] at hcall
        refine wl_call rfl 14 #[.pointer (some ⟨bM, 0, none⟩), akV ⟨u, 0, 9, 0, 0, 0⟩] (ansV 0 none 0 0 true) _ ?_ hcall (fun w6 h6 => ?_)
        · unfold akV akC; first | (go_simp; done) | (go_simp; rfl)
        intro K hK
        go_simp
        refine hK _ _ ?_
        clear hK K
        clear hcall
        unfold ansV
        obtain ⟨hM6, hE6⟩ := h6
        simp only at hM6
        iterate 3
          refine wl_val rfl ?_ ?_ ?_
          rotate_left
          · go_simp; try with_reducible rfl
          intro K hK
          go_simp
          refine hK _ _ ?_
          clear hK K
        refine wl_alloc rfl 38 rfl (.agg #[.int .u32 0, .slice none 0 0]) #[.int .u32 0, .slice none 0 0] (fun w => by kernel_rfl) rfl (fun w7 b13 X13 l7 f7 => ?_)
        intro K hK
        go_simp
        refine hK _ _ ?_
        clear hK K
        refine wl_store rfl 38 (.tmp 9) (.tmp 58) rfl b13 #[.int .u32 0, .slice none 0 0] rfl rfl 38 _ X13 (by kernel_rfl) rfl (by simp [Value.oneCell']) (fun w8 k1 k2 k3 k4 => ?_)
        intro K hK
        go_simp
        refine hK _ _ ?_
        clear hK K
        refine wl_val rfl (.bool true) ?_ ?_
        · go_simp
        intro K hK
        go_simp
        refine hK _ _ ?_
        clear hK K
        have hb8 : Below w6.heap.size w6 w8 := l7.trans (k3 _ (by simp only [Hid] at f7; omega))
        clear X13 l7 f7 k2 k3 k4
        replace X12 := keep ((hE6.blk b12 (blk_lt X12) hn12).trans X12) hb8
        have hM8 := hM6.below hb8
        replace hal := hal.trans (hE6.low _ hz hal.size)
        replace hal := hal.trans (hb8.mono hal.size)
        clear hM6 hE6 hb8 hM hgo
        have y12 := cell_of_row w8 b12 2 _ 34 _ X12
        have y120 := cell_of_row w8 b12 0 _ 34 _ X12
        have y13 := cell_of_row w8 b13 0 _ 38 _ k1
        go_wp2
        go_roundw
        case rel => exact ⟨i + 1, W, true, by go_num, rfl, rfl, by omega, by omega, hM8, hal⟩
        case measure => simp [intOf]; omega
    · cases D
      · by_cases hwu : W = u
        · have hgo : goP 4 { initS ⟨15, 0, 0, 0⟩ with owner := (if false = true then -1 else W), done := false } ⟨u, 0, 10, 0, 0, 0⟩ = ⟨{ initS ⟨15, 0, 0, 0⟩ with owner := (if true = true then -1 else W), done := true }, 0, true⟩ := by
            rw [go15 rfl hmay rfl]
            unfold onceP
            rw [if_pos rfl, if_pos (show (if false = true then (-1 : Int) else W) = u from hwu)]; rfl
          have q1 : (W == u) = true := by simp [hwu]
          clear hwu
          clear hmay
          refine wp_region_lit ?_
          iterate 1
            refine wl_val rfl ?_ ?_ ?_
            rotate_left
            · go_simp; try with_reducible rfl
            intro K hK
            go_simp
            refine hK _ _ ?_
            clear hK K
          refine wl_load rfl 34 (.tmp 8) rfl _ rfl _ _ _ _ X12 Tryd.underlying34 rfl (by kernel_rfl) ?_
          intro K hK
          go_simp
          refine hK _ _ ?_
          clear hK K
          have hcall := do1 ({ initS ⟨15, 0, 0, 0⟩ with owner := (if false = true then -1 else W), done := false }) bM g cap 4 (by omega) ⟨u, 0, 10, 0, 0, 0⟩ rfl (by simp) (by simp [initS]) w5 hM
          rw [hgo] at hcall
          refine wl_call rfl 14 #[.pointer (some ⟨bM, 0, none⟩), akV ⟨u, 0, 10, 0, 0, 0⟩] (ansV 0 none 0 0 true) _ ?_ hcall (fun w6 h6 => ?_)
          · unfold akV akC; first | (go_simp; done) | (go_simp; rfl)
          intro K hK
          go_simp
          refine hK _ _ ?_
          clear hK K
          clear hcall
          unfold ansV
          obtain ⟨hM6, hE6⟩ := h6
          simp only at hM6
          iterate 3
            refine wl_val rfl ?_ ?_ ?_
            rotate_left
            · go_simp; try with_reducible rfl
            intro K hK
            go_simp
            refine hK _ _ ?_
            clear hK K
          refine wl_alloc rfl 38 rfl (.agg #[.int .u32 0, .slice none 0 0]) #[.int .u32 0, .slice none 0 0] (fun w => by kernel_rfl) rfl (fun w7 b13 X13 l7 f7 => ?_)
          intro K hK
          go_simp
          refine hK _ _ ?_
          clear hK K
          refine wl_store rfl 38 (.tmp 9) (.tmp 58) rfl b13 #[.int .u32 0, .slice none 0 0] rfl rfl 38 _ X13 (by kernel_rfl) rfl (by simp [Value.oneCell']) (fun w8 k1 k2 k3 k4 => ?_)
          intro K hK
          go_simp
          refine hK _ _ ?_
          clear hK K
          refine wl_val rfl (.bool true) ?_ ?_
          · go_simp
          intro K hK
          go_simp
          refine hK _ _ ?_
          clear hK K
          have hb8 : Below w6.heap.size w6 w8 := l7.trans (k3 _ (by simp only [Hid] at f7; omega))
          clear X13 l7 f7 k2 k3 k4
          replace X12 := keep ((hE6.blk b12 (blk_lt X12) hn12).trans X12) hb8
          have hM8 := hM6.below hb8
          replace hal := hal.trans (hE6.low _ hz hal.size)
          replace hal := hal.trans (hb8.mono hal.size)
          clear hM6 hE6 hb8 hM hgo
          have y12 := cell_of_row w8 b12 2 _ 34 _ X12
          have y120 := cell_of_row w8 b12 0 _ 34 _ X12
          have y13 := cell_of_row w8 b13 0 _ 38 _ k1
          go_wp2
          go_roundw
          case rel => exact ⟨i + 1, W, true, by go_num, rfl, rfl, by omega, by omega, hM8, hal⟩
          case measure => simp [intOf]; omega
        · have hgo : goP 4 { initS ⟨15, 0, 0, 0⟩ with owner := (if false = true then -1 else W), done := false } ⟨u, 0, 10, 0, 0, 0⟩ = ⟨{ initS ⟨15, 0, 0, 0⟩ with owner := (if false = true then -1 else W), done := false }, 2, true⟩ := by
            rw [go15 rfl hmay rfl]
            unfold onceP
            rw [if_pos rfl, if_neg (show ¬ (if false = true then (-1 : Int) else W) = u from hwu)]
          have q1 : (W == u) = false := by simp [hwu]
          clear hwu
          clear hmay
          refine wp_region_lit ?_
          iterate 1
            refine wl_val rfl ?_ ?_ ?_
            rotate_left
            · go_simp; try with_reducible rfl
            intro K hK
            go_simp
            refine hK _ _ ?_
            clear hK K
          refine wl_load rfl 34 (.tmp 8) rfl _ rfl _ _ _ _ X12 Tryd.underlying34 rfl (by kernel_rfl) ?_
          intro K hK
          go_simp
          refine hK _ _ ?_
          clear hK K
          have hcall := do1 ({ initS ⟨15, 0, 0, 0⟩ with owner := (if false = true then -1 else W), done := false }) bM g cap 4 (by omega) ⟨u, 0, 10, 0, 0, 0⟩ rfl (by simp) (by simp [initS]) w5 hM
          rw [hgo] at hcall
          refine wl_call rfl 14 #[.pointer (some ⟨bM, 0, none⟩), akV ⟨u, 0, 10, 0, 0, 0⟩] (ansV 2 none 0 0 true) _ ?_ hcall (fun w6 h6 => ?_)
          · unfold akV akC; first | (go_simp; done) | (go_simp; rfl)
          intro K hK
          go_simp
          refine hK _ _ ?_
          clear hK K
          clear hcall
          unfold ansV
          obtain ⟨hM6, hE6⟩ := h6
          simp only at hM6
          iterate 3
            refine wl_val rfl ?_ ?_ ?_
            rotate_left
            · go_simp; try with_reducible rfl
            intro K hK
            go_simp
            refine hK _ _ ?_
            clear hK K
          refine wl_alloc rfl 38 rfl (.agg #[.int .u32 0, .slice none 0 0]) #[.int .u32 0, .slice none 0 0] (fun w => by kernel_rfl) rfl (fun w7 b13 X13 l7 f7 => ?_)
          intro K hK
          go_simp
          refine hK _ _ ?_
          clear hK K
          refine wl_store rfl 38 (.tmp 9) (.tmp 58) rfl b13 #[.int .u32 2, .slice none 0 0] rfl rfl 38 _ X13 (by kernel_rfl) rfl (by simp [Value.oneCell']) (fun w8 k1 k2 k3 k4 => ?_)
          intro K hK
          go_simp
          refine hK _ _ ?_
          clear hK K
          refine wl_val rfl (.bool true) ?_ ?_
          · go_simp
          intro K hK
          go_simp
          refine hK _ _ ?_
          clear hK K
          have hb8 : Below w6.heap.size w6 w8 := l7.trans (k3 _ (by simp only [Hid] at f7; omega))
          clear X13 l7 f7 k2 k3 k4
          replace X12 := keep ((hE6.blk b12 (blk_lt X12) hn12).trans X12) hb8
          have hM8 := hM6.below hb8
          replace hal := hal.trans (hE6.low _ hz hal.size)
          replace hal := hal.trans (hb8.mono hal.size)
          clear hM6 hE6 hb8 hM hgo
          have y12 := cell_of_row w8 b12 2 _ 34 _ X12
          have y120 := cell_of_row w8 b12 0 _ 34 _ X12
          have y13 := cell_of_row w8 b13 0 _ 38 _ k1
          go_wp2
          go_roundw
          case rel => exact ⟨i + 1, W, false, by go_num, rfl, rfl, by omega, by omega, hM8, hal⟩
          case measure => simp [intOf]; omega
      · have hgo : goP 4 { initS ⟨15, 0, 0, 0⟩ with owner := (if true = true then -1 else W), done := true } ⟨u, 0, 10, 0, 0, 0⟩ = ⟨{ initS ⟨15, 0, 0, 0⟩ with owner := (if true = true then -1 else W), done := true }, 2, true⟩ := by
          rw [go15 rfl hmay rfl]
          unfold onceP
          rw [if_pos rfl, if_neg (show ¬ (if true = true then (-1 : Int) else W) = u from by rw [if_pos rfl]; omega)]
        clear hmay
        refine wp_region_lit ?_
        iterate 1
          refine wl_val rfl ?_ ?_ ?_
          rotate_left
          · go_simp; try with_reducible rfl
          intro K hK
          go_simp
          refine hK _ _ ?_
          clear hK K
        refine wl_load rfl 34 (.tmp 8) rfl _ rfl _ _ _ _ X12 Tryd.underlying34 rfl (by kernel_rfl) ?_
        intro K hK
        go_simp
        refine hK _ _ ?_
        clear hK K
        have hcall := do1 ({ initS ⟨15, 0, 0, 0⟩ with owner := (if true = true then -1 else W), done := true }) bM g cap 4 (by omega) ⟨u, 0, 10, 0, 0, 0⟩ rfl (by simp) (by simp [initS]) w5 hM
        rw [hgo] at hcall
        refine wl_call rfl 14 #[.pointer (some ⟨bM, 0, none⟩), akV ⟨u, 0, 10, 0, 0, 0⟩] (ansV 2 none 0 0 true) _ ?_ hcall (fun w6 h6 => ?_)
        · unfold akV akC; first | (go_simp; done) | (go_simp; rfl)
        intro K hK
        go_simp
        refine hK _ _ ?_
        clear hK K
        clear hcall
        unfold ansV
        obtain ⟨hM6, hE6⟩ := h6
        simp only at hM6
        iterate 3
          refine wl_val rfl ?_ ?_ ?_
          rotate_left
          · go_simp; try with_reducible rfl
          intro K hK
          go_simp
          refine hK _ _ ?_
          clear hK K
        refine wl_alloc rfl 38 rfl (.agg #[.int .u32 0, .slice none 0 0]) #[.int .u32 0, .slice none 0 0] (fun w => by kernel_rfl) rfl (fun w7 b13 X13 l7 f7 => ?_)
        intro K hK
        go_simp
        refine hK _ _ ?_
        clear hK K
        refine wl_store rfl 38 (.tmp 9) (.tmp 58) rfl b13 #[.int .u32 2, .slice none 0 0] rfl rfl 38 _ X13 (by kernel_rfl) rfl (by simp [Value.oneCell']) (fun w8 k1 k2 k3 k4 => ?_)
        intro K hK
        go_simp
        refine hK _ _ ?_
        clear hK K
        refine wl_val rfl (.bool true) ?_ ?_
        · go_simp
        intro K hK
        go_simp
        refine hK _ _ ?_
        clear hK K
        have hb8 : Below w6.heap.size w6 w8 := l7.trans (k3 _ (by simp only [Hid] at f7; omega))
        clear X13 l7 f7 k2 k3 k4
        replace X12 := keep ((hE6.blk b12 (blk_lt X12) hn12).trans X12) hb8
        have hM8 := hM6.below hb8
        replace hal := hal.trans (hE6.low _ hz hal.size)
        replace hal := hal.trans (hb8.mono hal.size)
        clear hM6 hE6 hb8 hM hgo
        have y12 := cell_of_row w8 b12 2 _ 34 _ X12
        have y120 := cell_of_row w8 b12 0 _ 34 _ X12
        have y13 := cell_of_row w8 b13 0 _ 38 _ k1
        go_wp2
        go_roundw
        case rel => exact ⟨i + 1, W, true, by go_num, rfl, rfl, by omega, by omega, hM8, hal⟩
        case measure => simp [intOf]; omega
end Go.Proofs.YtobkonbpcnmgpaaDoor
