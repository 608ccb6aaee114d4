/- The law AbsMany, walked. -/
import Derived.Test.YtobkonbpcnmgpaaDoorMeets
namespace Go.Proofs.YtobkonbpcnmgpaaDoor
open Go.RowKit
set_option linter.unusedVariables false
set_option linter.unusedSimpArgs false
def md (ow : Int) (rd : Nat → Bool) (t : Nat) : Int := if ow = t then 2 else if rd t = true then 1 else 0
theorem md_ne {ow : Int} {rd : Nat → Bool} {t : Nat} (h : ow ≠ (t : Int)) : md ow rd t = if rd t = true then 1 else 0 := if_neg h
theorem a4_congr {m m' : Nat → Int} (h : ∀ t, t < 4 → m t = m' t) : A4 m = A4 m' := by
  unfold A4; rw [h 0 (by omega), h 1 (by omega), h 2 (by omega), h 3 (by omega)]
/-- how many others are in a mode -/
def cnt (m : Nat → Int) (u : Nat) (v : Int) : Nat → Int
  | 0 => 0
  | k + 1 => cnt m u v k + (if k ≠ u ∧ m k = v then 1 else 0)
theorem cnt_nn (m : Nat → Int) (u : Nat) (v : Int) : ∀ k, 0 ≤ cnt m u v k ∧ cnt m u v k ≤ k
  | 0 => by simp [cnt]
  | k + 1 => by have := cnt_nn m u v k; unfold cnt; split <;> omega
theorem cnt_z (m : Nat → Int) (u : Nat) (v : Int) : ∀ k, cnt m u v k = 0 ↔ ∀ t, t < k → t ≠ u → m t ≠ v
  | 0 => by simp [cnt]
  | k + 1 => by
    have h1 := cnt_nn m u v k
    have ih := cnt_z m u v k
    unfold cnt
    constructor
    · intro h t ht hne
      split at h
      · omega
      · rename_i hh
        by_cases e : t = k
        · subst e; exact fun e => hh ⟨hne, e⟩
        · exact ih.1 (by omega) t (by omega) hne
    · intro h
      rw [if_neg (fun hh => h k (by omega) hh.1 hh.2), ih.2 (fun t ht => h t (by omega))]
      rfl
set_option maxRecDepth 100000 in
set_option maxHeartbeats 8000000 in
theorem many_walk (V : Option Addr) (nc cc : Nat) (f : Nat → Int) (w : World) (hV : U8s w V nc f) (hN : NmW w) : Calls Tryd.prog 7 #[.slice V nc cc] w fun e w' => e = .returned (.bool true) ∧ Below w.heap.size w w' := by
  by_cases hl : 200 < nc
  · have hl' : 200 < (nc : Int) := by omega
    go_enter Tryd.func7, Tryd.ntmps7
    go_wp2_with fail
    refine (awake w hN).mono ?_
    rintro e w1 ⟨rfl, hb1⟩
    go_wp2_with fail
    refine (awake w1 (hN.below hb1)).mono ?_
    rintro e w2 ⟨rfl, hb2⟩
    go_wp2
    go_ret
    exact ⟨rfl, hb1.trans (hb2.mono hb1.size)⟩
  have hl' : ¬ (200 < (nc : Int)) := by omega
  have hrb : rb ⟨14, 0, 0, 0⟩ 4 = true := by rfl
  go_enter Tryd.func7, Tryd.ntmps7
  go_wp2_with fail
  refine (awake w hN).mono ?_
  rintro e w1 ⟨rfl, hb1⟩
  go_wp2_with fail
  have hb2 := (Below.refl w1.heap.size w1).alloc (Nat.le_refl _) (.cells #[.int .i64 14, .int .i64 0, .int .i64 0, .int .i64 0] 48)
  have hO := objs1 w1 ⟨14, 0, 0, 0⟩
  have hal := hb1.trans (hb2.mono hb1.size)
  refine (new1 ⟨14, 0, 0, 0⟩ 4 hrb (by omega) _ 1 _ hO (hN.below hal)).mono ?_
  rintro e w3 ⟨bM, g, cap, rfl, hM, hgM, hzM, hbn⟩
  have hz : w.heap.size ≤ g := by have := hb1.size; simp at hzM; omega
  replace hal := hal.trans (hbn.mono hal.size)
  clear hb1 hb2 hO hzM hbn
  go_upto_region 8 with (fail)
  obtain ⟨W, b5, e0, e1, X5, hbz⟩ := box1 w3 (A4 fun _ => 0) 53
  have hg3 := hM.row.lt
  have hz5 : w.heap.size ≤ b5 := by have := hal.size; omega
  have hn5 : b5 ≠ g := by omega
  have h5M : bM ≠ b5 := by have := blk_lt hM.mac; omega
  unfold A4 at e0
  rw [e0, e1]
  clear e0 e1 hg3
  replace hM := hM.below hbz
  replace hal := hal.trans (hbz.mono hal.size)
  clear hbz
  go_loopw [6] (fun v wr => ∃ (i : Nat) (ow : Int) (rd : Nat → Bool), v = .int .i64 i ∧ i ≤ nc ∧ -1 ≤ ow ∧ ow < 4 ∧ (0 ≤ ow → ∀ t, t < 8 → rd t = false) ∧ (∀ t, 4 ≤ t → t < 8 → rd t = false) ∧ Mac wr bM g 1 cap 4 (fun _ => { initS ⟨14, 0, 0, 0⟩ with owner := ow, readers := rd }) ∧ wr.heap[b5]? = some (.cells (A4 (md ow rd)) 53 (0, 0)) ∧ Below w.heap.size w wr) (fun v _ => nc - (intOf v).toNat)
  case atStart => exact ⟨0, -1, fun _ => false, rfl, Nat.zero_le _, by omega, by omega, fun _ _ _ => rfl, fun _ _ _ => rfl, hM, X5, hal⟩
  case round =>
    obtain ⟨i, ow, rd, rfl, hi, ho0, ho4, hex, hrd8, hM, X5, hal⟩ := hrel
    by_cases hlt : i < nc
    case neg =>
      obtain rfl : i = nc := by omega
      have hl1 : ¬ ((i : Int) < i) := by omega
      go_wp2
      go_ret
      exact ⟨rfl, hal⟩
    have hl0 : (0 : Int) ≤ i := by omega
    have hl1 : (i : Int) < nc := by omega
    obtain ⟨bV, oV, rfl⟩ := u8_ptr hV (by omega)
    obtain ⟨_, hx0, hx1⟩ := at_u8 (hV.below hal) hlt
    have hcV := fun w' (h' : Below wr.heap.size wr w') => (at_u8 ((hV.below hal).below h') hlt).1
    generalize f i = xv at *
    go_upto_region 10 with (fail)
    obtain ⟨d, u, e2, d1, d2, d3, d4, d5, hu0, hu1, he0, he1⟩ := ask_nums xv 3 4 3 ⟨hx0, hx1⟩ (by omega) (by omega) (by omega)
    obtain ⟨q, rfl⟩ : ∃ q : Nat, u = q := ⟨u.toNat, by omega⟩
    have hq : q < 4 := by omega
    obtain ⟨c, hc⟩ : ∃ c, IntKind.i64.wrap (1 + e2) = c := ⟨_, rfl⟩
    have hc' : c = 1 ∨ c = 2 ∨ c = 3 := by rw [← hc]; simp only [IntKind.wrap_i64]; omega
    refine grow_head 15 (fun w' => Below wr.heap.size wr w') (by kernel_rfl) (by kernel_rfl) (by decide) (by kernel_rfl) ?_
    simp only [List.take_succ_cons, List.take_zero]
    refine g_run rfl ?_ (fun w' h' => ga_value ?_) (fun K hK => ?_)
    rotate_left
    · go_simp; try with_reducible rfl
    go_simp
    refine hK _ ?_
    clear hK K
    refine g_run rfl ?_ (fun w' h' => ga_value ?_) (fun K hK => ?_)
    rotate_left
    · go_simp; try with_reducible rfl
    go_simp
    refine hK _ ?_
    clear hK K
    refine g_run rfl ?_ (fun w' h' => ga_value ?_) (fun K hK => ?_)
    rotate_left
    · go_simp; try with_reducible rfl
    go_simp
    refine hK _ ?_
    clear hK K
    refine g_run rfl ?_ (fun w' h' => ga_value ?_) (fun K hK => ?_)
    rotate_left
    · have c := hcV w' h'; go_simp; try with_reducible rfl
    go_simp
    refine hK _ ?_
    clear hK K
    refine g_run rfl ?_ (fun w' h' => ga_value ?_) (fun K hK => ?_)
    rotate_left
    · go_simp; try with_reducible rfl
    go_simp
    refine hK _ ?_
    clear hK K
    refine g_run rfl ?_ (fun w' h' => ga_value ?_) (fun K hK => ?_)
    rotate_left
    · go_simp; try with_reducible rfl
    go_simp
    refine hK _ ?_
    clear hK K
    refine g_run rfl ?_ (fun w' h' => ga_value ?_) (fun K hK => ?_)
    rotate_left
    · go_simp; try with_reducible rfl
    go_simp
    refine hK _ ?_
    clear hK K
    refine g_run rfl ?_ (fun w' h' => ga_value ?_) (fun K hK => ?_)
    rotate_left
    · go_simp; try with_reducible rfl
    go_simp
    refine hK _ ?_
    clear hK K
    refine g_run rfl ?_ (fun w' h' => ga_value ?_) (fun K hK => ?_)
    rotate_left
    · go_simp; try with_reducible rfl
    go_simp
    refine hK _ ?_
    clear hK K
    refine g_run rfl ?_ (fun w' h' => ga_value ?_) (fun K hK => ?_)
    rotate_left
    · go_simp; try with_reducible rfl
    go_simp
    refine hK _ ?_
    clear hK K
    refine g_run rfl ?_ (fun w' h' => ga_value ?_) (fun K hK => ?_)
    rotate_left
    · have c := hcV w' h'; go_simp; try with_reducible rfl
    go_simp
    refine hK _ ?_
    clear hK K
    refine g_run rfl ?_ (fun w' h' => ga_value ?_) (fun K hK => ?_)
    rotate_left
    · go_simp; try with_reducible rfl
    go_simp
    refine hK _ ?_
    clear hK K
    refine g_run rfl ?_ (fun w' h' => ga_value ?_) (fun K hK => ?_)
    rotate_left
    · go_simp; try with_reducible rfl
    go_simp
    refine hK _ ?_
    clear hK K
    refine g_run rfl ?_ (fun w' h' => ga_value ?_) (fun K hK => ?_)
    rotate_left
    · go_simp; try with_reducible rfl
    go_simp
    refine hK _ ?_
    clear hK K
    refine g_run rfl ?_ (fun w' h' => ga_value ?_) (fun K hK => ?_)
    rotate_left
    · go_simp; try with_reducible rfl
    go_simp
    refine hK _ ?_
    clear hK K
    refine g_nil ?_
    show anyG _ _ _ _ _ _ _ _ _
    have q0 : Below wr.heap.size wr wr.drew := Below.drew (Below.refl _ _)
    refine anyG_ready [15] (by kernel_rfl) (by simp) (fun v1 r1 => ⟨q0.trans (r1.mono q0.size), ?_⟩)
    have q1 := q0.trans (r1.mono q0.size)
    intro j hj
    simp only [List.mem_cons, List.not_mem_nil, or_false] at hj
    subst hj
    refine op_alloc rfl rfl 34 rfl (.agg #[.int .i64 0, .int .i64 0, .int .i64 0, .int .i64 0, .int .u32 0, .int .u32 0]) #[.int .i64 0, .int .i64 0, .int .i64 0, .int .i64 0, .int .u32 0, .int .u32 0] (fun w => by kernel_rfl) rfl (fun v2 b12 X12 l1 f1 => ?_)
    have zb : wr.heap.size ≤ b12 := by have := q1.size; have := f1.out; omega
    have q2 := q1.trans (l1.mono q1.size)
    refine anyG_ready [16] (by kernel_rfl) (by simp) (fun v3 r3 => ⟨q2.trans (r3.mono q2.size), ?_⟩)
    have q3 := q2.trans (r3.mono q2.size)
    replace X12 := keep X12 r3
    intro j hj
    simp only [List.mem_cons, List.not_mem_nil, or_false] at hj
    subst hj
    trace_state
    refine op_store rfl rfl 34 (.tmp 7) (.tmp 53) rfl b12 #[.int .i64 q, .int .i64 0, .int .i64 c, .int .i64 0, .int .u32 0, .int .u32 0] rfl rfl 34 _ X12 (by kernel_rfl) rfl (by simp [Value.oneCell']) (fun v4 p1 m1 p2 => ?_)
    have q4 := q3.trans (p2 _ zb)
    refine anyG_end (by kernel_rfl) (fun w5 r5 => ⟨q4.trans (r5.mono q4.size), ?_⟩)
    have hbg := q4.trans (r5.mono q4.size)
    replace X12 := keep p1 r5
    clear q0 q1 q2 q3 q4 l1 f1 r1 r3 r5 p1 p2 m1 zb
    clear d1 d2 d3 d4 d5 hc hcV hx0 hx1
    replace hM := hM.below hbg
    replace X5 := keep X5 hbg
    replace hal := hal.trans (hbg.mono hal.size)
    have hn12 : b12 ≠ g := by intro e; subst e; obtain ⟨cs, h5, _⟩ := hM.row; rw [h5] at X12; simp at X12
    clear hbg
    have hmay : mayS ⟨14, 0, 0, 0⟩ c 4 q = true := by
      unfold mayS
      rw [if_pos ⟨hu0, hu1, hrb⟩]
      show may 14 c = true
      rcases hc' with rfl | rfl | rfl <;> decide
    have hgo : goP 4 { initS ⟨14, 0, 0, 0⟩ with owner := ow, readers := rd } ⟨q, 0, c, 0, 0, 0⟩ = rwP { initS ⟨14, 0, 0, 0⟩ with owner := ow, readers := rd } q c := by
      rw [go14 rfl hmay rfl]; simp only [Int.toNat_natCast]
    clear hmay
    go_upto_region 11 with (fail)
    obtain ⟨p, hp⟩ : ∃ p, Hid (p = rwP { initS ⟨14, 0, 0, 0⟩ with owner := ow, readers := rd } q c) := ⟨_, rfl⟩
    rw [← hp.out] at hgo
    refine wp_region_lit ?_
    iterate 1
      refine wl_val rfl ?_ ?_ ?_
      rotate_left
      · go_simp; try with_reducible rfl
      intro K hK
      go_simp
      refine hK _ _ ?_
      clear hK K
    refine wl_load rfl 34 (.tmp 7) rfl _ rfl _ _ _ _ X12 Tryd.underlying34 rfl (by kernel_rfl) ?_
    intro K hK
    go_simp
    refine hK _ _ ?_
    clear hK K
    have hcall := do1 ({ initS ⟨14, 0, 0, 0⟩ with owner := ow, readers := rd }) bM g cap 4 (by omega) ⟨q, 0, c, 0, 0, 0⟩ rfl (by simp) (by simp [initS]) w5 hM
    rw [hgo] at hcall
    refine wl_call rfl 14 #[.pointer (some ⟨bM, 0, none⟩), akV ⟨q, 0, c, 0, 0, 0⟩] (ansV p.r none 0 0 p.ok) _ ?_ hcall (fun w6 h6 => ?_)
    · unfold akV akC; first | (go_simp; done) | (go_simp; rfl)
    intro K hK
    go_simp
    refine hK _ _ ?_
    clear hK K
    clear hcall
    unfold ansV
    obtain ⟨hM6, hE6⟩ := h6
    try simp only at hM6
    iterate 3
      refine wl_val rfl ?_ ?_ ?_
      rotate_left
      · go_simp; try with_reducible rfl
      intro K hK
      go_simp
      refine hK _ _ ?_
      clear hK K
    refine wl_alloc rfl 38 rfl (.agg #[.int .u32 0, .slice none 0 0]) #[.int .u32 0, .slice none 0 0] (fun w => by kernel_rfl) rfl (fun w7 b13 X13 l7 f7 => ?_)
    intro K hK
    go_simp
    refine hK _ _ ?_
    clear hK K
    refine wl_store rfl 38 (.tmp 8) (.tmp 58) rfl b13 #[.int .u32 p.r, .slice none 0 0] rfl rfl 38 _ X13 (by kernel_rfl) rfl (by simp [Value.oneCell']) (fun w8 k1 k2 k3 k4 => ?_)
    intro K hK
    go_simp
    refine hK _ _ ?_
    clear hK K
    refine wl_val rfl (.bool p.ok) ?_ ?_
    · go_simp
    intro K hK
    go_simp
    refine hK _ _ ?_
    clear hK K
    have hb8 : Below w6.heap.size w6 w8 := l7.trans (k3 _ (by simp only [Hid] at f7; omega))
    clear X13 l7 f7 k2 k3 k4
    replace X5 := keep ((hE6.blk b5 (blk_lt X5) hn5).trans X5) hb8
    replace X12 := keep ((hE6.blk b12 (blk_lt X12) hn12).trans X12) hb8
    replace hM := hM6.below hb8
    replace hal := hal.trans (hE6.low _ hz hal.size)
    replace hal := hal.trans (hb8.mono hal.size)
    clear hM6 hE6 hb8 hgo
    go_upto_region 14 with (fail)
    obtain ⟨v0, ev0⟩ : ∃ x, x = w8 := ⟨_, rfl⟩
    subst ev0
    go_loopw [10, 11, 12] (fun a b v wr => ∃ k : Nat, v = .int .i64 k ∧ a = .int .i64 (cnt (md ow rd) q 2 k) ∧ b = .int .i64 (cnt (md ow rd) q 1 k) ∧ k ≤ 4 ∧ wr = v0) (fun _ _ v _ => 4 - (intOf v).toNat)
    case atStart => exact ⟨0, rfl, rfl, rfl, by omega, rfl⟩
    case round =>
      obtain ⟨k, rfl, rfl, rfl, hk, rfl⟩ := hrel
      have y120 := cell_of_row wr b12 0 _ 34 _ X12
      have y122 := cell_of_row wr b12 2 _ 34 _ X12
      have y13 := cell_of_row wr b13 0 _ 38 _ k1
      by_cases hlt3 : k < 4
      · have hl2 : (k : Int) < 4 := by omega
        have hl3 : (0 : Int) ≤ k := by omega
        have y5 := a4_cell X5 hlt3
        have e2 : Hid (cnt (md ow rd) q 2 (k + 1) = cnt (md ow rd) q 2 k + (if k ≠ q ∧ md ow rd k = 2 then 1 else 0)) := rfl
        have e1 : Hid (cnt (md ow rd) q 1 (k + 1) = cnt (md ow rd) q 1 k + (if k ≠ q ∧ md ow rd k = 1 then 1 else 0)) := rfl
        have n2 := cnt_nn (md ow rd) q 2 k
        have n1 := cnt_nn (md ow rd) q 1 k
        have hv : md ow rd k = 2 ∨ md ow rd k = 1 ∨ md ow rd k = 0 := by
          unfold md
          split
          · omega
          · split <;> omega
        obtain ⟨C2, hC2⟩ : ∃ x, Hid (x = cnt (md ow rd) q 2 (k + 1)) := ⟨_, rfl⟩
        obtain ⟨C1, hC1⟩ : ∃ x, Hid (x = cnt (md ow rd) q 1 (k + 1)) := ⟨_, rfl⟩
        rw [← hC2.out] at e2
        rw [← hC1.out] at e1
        have hw2 : IntKind.i64.wrap (cnt (md ow rd) q 2 k + 1) = cnt (md ow rd) q 2 k + 1 := by simp only [IntKind.wrap_i64]; omega
        have hw1 : IntKind.i64.wrap (cnt (md ow rd) q 1 k + 1) = cnt (md ow rd) q 1 k + 1 := by simp only [IntKind.wrap_i64]; omega
        by_cases hkq : k = q
        · have qk : ((k : Int) != q) = false := by simp; omega
          have f2 : Hid (C2 = cnt (md ow rd) q 2 k) := by show C2 = _; rw [e2.out, if_neg (fun h => h.1 hkq)]; omega
          have f1 : Hid (C1 = cnt (md ow rd) q 1 k) := by show C1 = _; rw [e1.out, if_neg (fun h => h.1 hkq)]; omega
          clear hkq hv e1 e2 n1 n2
          go_wp2
          go_roundw
          case rel => exact ⟨k + 1, by go_num, by rw [← hC2.out, f2.out], by rw [← hC1.out, f1.out], by omega, by first | rfl | trivial⟩
          case measure => simp [intOf]; omega
        · have qk : ((k : Int) != q) = true := by simp; omega
          rcases hv with hv | hv | hv
          · have f2 : Hid (C2 = cnt (md ow rd) q 2 k + 1) := by show C2 = _; rw [e2.out, if_pos ⟨hkq, hv⟩]
            have f1 : Hid (C1 = cnt (md ow rd) q 1 k) := by show C1 = _; rw [e1.out, if_neg (fun h => by have := h.2; omega)]; omega
            rw [hv] at y5
            clear hkq hv e1 e2 n1 n2
            go_wp2
            go_roundw
            case rel => exact ⟨k + 1, by go_num, by rw [← hC2.out, f2.out], by rw [← hC1.out, f1.out], by omega, by first | rfl | trivial⟩
            case measure => simp [intOf]; omega
          · have f2 : Hid (C2 = cnt (md ow rd) q 2 k) := by show C2 = _; rw [e2.out, if_neg (fun h => by have := h.2; omega)]; omega
            have f1 : Hid (C1 = cnt (md ow rd) q 1 k + 1) := by show C1 = _; rw [e1.out, if_pos ⟨hkq, hv⟩]
            rw [hv] at y5
            clear hkq hv e1 e2 n1 n2
            go_wp2
            go_roundw
            case rel => exact ⟨k + 1, by go_num, by rw [← hC2.out, f2.out], by rw [← hC1.out, f1.out], by omega, by first | rfl | trivial⟩
            case measure => simp [intOf]; omega
          · have f2 : Hid (C2 = cnt (md ow rd) q 2 k) := by show C2 = _; rw [e2.out, if_neg (fun h => by have := h.2; omega)]; omega
            have f1 : Hid (C1 = cnt (md ow rd) q 1 k) := by show C1 = _; rw [e1.out, if_neg (fun h => by have := h.2; omega)]; omega
            rw [hv] at y5
            clear hkq hv e1 e2 n1 n2
            go_wp2
            go_roundw
            case rel => exact ⟨k + 1, by go_num, by rw [← hC2.out, f2.out], by rw [← hC1.out, f1.out], by omega, by first | rfl | trivial⟩
            case measure => simp [intOf]; omega
      have hk4 : k = 4 := by omega
      have hl2 : ¬ ((k : Int) < 4) := by omega
      subst hk4
      have z2 := cnt_z (md ow rd) q 2 4
      have z1 := cnt_z (md ow rd) q 1 4
      have n2 := cnt_nn (md ow rd) q 2 4
      have n1 := cnt_nn (md ow rd) q 1 4
      generalize cnt (md ow rd) q 2 4 = C2 at *
      generalize cnt (md ow rd) q 1 4 = C1 at *
      obtain ⟨w77, e77⟩ : ∃ x, x = wr := ⟨_, rfl⟩
      subst e77
      have y5 := a4_cell X5 hq
      have hw12 : IntKind.i64.wrap (C2 + C1) = C2 + C1 := by simp only [IntKind.wrap_i64]; omega
      rcases hc' with rfl | rfl | rfl
      · by_cases co : ow = (q : Int)
        · have hmd : md ow rd q = 2 := by unfold md; rw [if_pos co]
          rw [hmd] at y5
          clear hmd
          obtain rfl : p = ⟨{ initS ⟨14, 0, 0, 0⟩ with owner := ow, readers := rd }, 1, true⟩ := by
            rw [hp.out]; unfold rwP; rw [if_neg (by omega), if_pos (.inl (show ow = (q : Int) from co))]
          clear hp
          simp only at hM
          go_wp2
          go_roundw
          case rel => exact ⟨i + 1, ow, rd, by go_num, by omega, by omega, by omega, hex, hrd8, hM, X5, hal⟩
          case measure => simp [intOf]; omega
        · by_cases cr : rd q = true
          · have hmd : md ow rd q = 1 := by unfold md; rw [if_neg co, if_pos cr]
            rw [hmd] at y5
            clear hmd
            obtain rfl : p = ⟨{ initS ⟨14, 0, 0, 0⟩ with owner := ow, readers := rd }, 1, true⟩ := by
              rw [hp.out]; unfold rwP; rw [if_neg (by omega), if_pos (.inr (show rd q = true from cr))]
            clear hp
            simp only at hM
            go_wp2
            go_roundw
            case rel => exact ⟨i + 1, ow, rd, by go_num, by omega, by omega, by omega, hex, hrd8, hM, X5, hal⟩
            case measure => simp [intOf]; omega
          · by_cases cg : 0 ≤ ow
            · have hmd : md ow rd q = 0 := by unfold md; rw [if_neg co, if_neg cr]
              rw [hmd] at y5
              have hB : ¬ C2 = 0 := fun h => z2.1 h ow.toNat (by omega) (by omega) (by unfold md; rw [if_pos (by omega)])
              have qq : (C2 + C1 == 0) = false := by simp; omega
              clear hmd hB z2 z1
              obtain rfl : p = ⟨{ initS ⟨14, 0, 0, 0⟩ with owner := ow, readers := rd }, 0, false⟩ := by
                rw [hp.out]; unfold rwP; rw [if_neg (by omega), if_neg (fun h : ow = (q : Int) ∨ rd q = true => h.elim co cr), if_pos (show 0 ≤ ow from cg)]
              clear hp
              simp only at hM
              go_wp2
              go_roundw
              case rel => exact ⟨i + 1, ow, rd, by go_num, by omega, by omega, by omega, hex, hrd8, hM, X5, hal⟩
              case measure => simp [intOf]; omega
            · by_cases ca : anyR rd = true
              · have hmd : md ow rd q = 0 := by unfold md; rw [if_neg co, if_neg cr]
                rw [hmd] at y5
                have hB : ¬ C1 = 0 := fun h => by
                  have hno : ∀ t, t < 8 → rd t = false := fun t ht => by
                    by_cases h4 : t < 4
                    · by_cases e : t = q
                      · subst e; simpa using cr
                      · have := z1.1 h t h4 e
                        cases hr : rd t
                        · rfl
                        · exact absurd (by unfold md; rw [if_neg (by omega), if_pos hr]) this
                    · exact hrd8 t (by omega) ht
                  unfold anyR at ca
                  simp [hno 0 (by omega), hno 1 (by omega), hno 2 (by omega), hno 3 (by omega), hno 4 (by omega), hno 5 (by omega), hno 6 (by omega), hno 7 (by omega)] at ca
                have qq : (C2 + C1 == 0) = false := by simp; omega
                clear hmd hB z2 z1
                obtain rfl : p = ⟨{ initS ⟨14, 0, 0, 0⟩ with owner := ow, readers := rd }, 0, false⟩ := by
                  rw [hp.out]; unfold rwP; rw [if_neg (by omega), if_neg (fun h : ow = (q : Int) ∨ rd q = true => h.elim co cr), if_neg (show ¬ 0 ≤ ow from cg), if_pos rfl, if_pos (show anyR rd = true from ca)]
                clear hp
                simp only at hM
                go_wp2
                go_roundw
                case rel => exact ⟨i + 1, ow, rd, by go_num, by omega, by omega, by omega, hex, hrd8, hM, X5, hal⟩
                case measure => simp [intOf]; omega
              · have hmd : md ow rd q = 0 := by unfold md; rw [if_neg co, if_neg cr]
                rw [hmd] at y5
                have hnr : ∀ t, t < 8 → rd t = false := fun t ht => by
                  simp only [anyR, Bool.or_eq_true, not_or, Bool.not_eq_true] at ca
                  obtain ⟨⟨⟨⟨⟨⟨⟨a0, a1⟩, a2⟩, a3⟩, a4⟩, a5⟩, a6⟩, a7⟩ := ca
                  have : t = 0 ∨ t = 1 ∨ t = 2 ∨ t = 3 ∨ t = 4 ∨ t = 5 ∨ t = 6 ∨ t = 7 := by omega
                  rcases this with rfl | rfl | rfl | rfl | rfl | rfl | rfl | rfl <;> assumption
                have h0 : ∀ t, t < 4 → md ow rd t = 0 := fun t ht => by unfold md; rw [if_neg (by omega), if_neg (by rw [hnr t (by omega)]; exact Bool.false_ne_true)]
                have hC2 : C2 = 0 := z2.2 (fun t ht _ => by rw [h0 t ht]; omega)
                have hC1 : C1 = 0 := z1.2 (fun t ht _ => by rw [h0 t ht]; omega)
                subst hC2
                subst hC1
                clear z2 z1 n1 n2
                obtain rfl : p = ⟨{ initS ⟨14, 0, 0, 0⟩ with owner := q, readers := rd }, 0, true⟩ := by
                  rw [hp.out]; unfold rwP; rw [if_neg (by omega), if_neg (fun h : ow = (q : Int) ∨ rd q = true => h.elim co cr), if_neg (show ¬ 0 ≤ ow from cg), if_pos rfl, if_neg (show ¬ anyR rd = true from ca)]
                clear hp
                simp only at hM
                go_upto_region 35 with (fail)
                refine wp_region_lit ?_
                iterate 3
                  refine wl_val rfl ?_ ?_ ?_
                  rotate_left
                  · go_simp; try with_reducible rfl
                  intro K hK
                  go_simp
                  refine hK _ _ ?_
                  clear hK K
                refine wl_a4 rfl (.tmp 152) (.const (.int .i64 2)) rfl b5 q (md ow rd) 2 hq rfl rfl X5 (fun w9 m1 m2 m3 => ?_)
                intro K hK
                go_simp
                refine hK _ _ ?_
                clear hK K
                replace X5 : w9.heap[b5]? = some (.cells (A4 (md (q : Int) rd)) 53 (0, 0)) := by
                  rw [m1]; congr 2; exact a4_congr (fun t ht => by
                    by_cases e : t = q
                    · subst e; rw [upF_at]; unfold md; rw [if_pos rfl]
                    · rw [upF_ne e, h0 t ht]; unfold md; rw [if_neg (by omega), if_neg (by rw [hnr t (by omega)]; exact Bool.false_ne_true)])
                replace hM : Mac w9 bM g 1 cap 4 (fun _ => { initS ⟨14, 0, 0, 0⟩ with owner := (q : Int), readers := rd }) := ⟨(m2 bM h5M).trans hM.mac, hM.row.keep (m2 g (fun e => hn5 e.symm)), hM.ne, hM.g0, nm_keep hM.names (m2 0 (by have := hN.pos; omega))⟩
                replace hal := hal.trans (m3 _ hz5)
                clear m1 m2 m3 y120 y122 y13 y5
                go_wp2
                go_roundw
                case rel => exact ⟨i + 1, (q : Int), rd, by go_num, by omega, by omega, by omega, fun _ t ht => hnr t ht, hrd8, hM, X5, hal⟩
                case measure => simp [intOf]; omega
      · by_cases co : ow = (q : Int)
        · have hmd : md ow rd q = 2 := by unfold md; rw [if_pos co]
          rw [hmd] at y5
          obtain rfl : p = ⟨{ initS ⟨14, 0, 0, 0⟩ with owner := -1, readers := upF rd q false }, 0, true⟩ := by
            rw [hp.out]; unfold rwP; rw [if_pos rfl, if_pos (show ow = (q : Int) from co)]; try rfl
          clear hp
          simp only at hM
          go_upto_region 25 with (fail)
          clear y120 y122 y13 y5
          refine quiet_all (fun w' => Below w77.heap.size w77 w') (by kernel_rfl) (by kernel_rfl) (Below.drew (Below.refl _ _)) ?_
          refine q_run rfl (fun K hK => ?_)
          refine q_value ?_ (fun w' h' => ?_) ?_
          rotate_left
          · go_simp; try with_reducible rfl
          go_simp
          refine hK _ ?_
          clear hK K
          refine q_run rfl (fun K hK => ?_)
          refine q_value ?_ (fun w' h' => ?_) ?_
          rotate_left
          · go_simp; try with_reducible rfl
          go_simp
          refine hK _ ?_
          clear hK K
          refine q_run rfl (fun K hK => ?_)
          refine q_value ?_ (fun w' h' => ?_) ?_
          rotate_left
          · go_simp; try with_reducible rfl
          go_simp
          refine hK _ ?_
          clear hK K
          refine q_run rfl (fun K hK => ?_)
          refine q_value ?_ (fun w' h' => ?_) ?_
          rotate_left
          · go_simp; try with_reducible rfl
          go_simp
          refine hK _ ?_
          clear hK K
          refine q_run rfl (fun K hK => ?_)
          refine q_value ?_ (fun w' h' => ?_) ?_
          rotate_left
          · have c := cell_of_row w' b13 0 _ 38 _ (keep k1 h'); go_simp; try with_reducible rfl
          go_simp
          refine hK _ ?_
          clear hK K
          refine q_run rfl (fun K hK => ?_)
          refine q_value ?_ (fun w' h' => ?_) ?_
          rotate_left
          · go_simp; try with_reducible rfl
          go_simp
          refine hK _ ?_
          clear hK K
          refine q_run rfl (fun K hK => ?_)
          refine q_value ?_ (fun w' h' => ?_) ?_
          rotate_left
          · go_simp; try with_reducible rfl
          go_simp
          refine hK _ ?_
          clear hK K
          refine q_run rfl (fun K hK => ?_)
          refine q_value ?_ (fun w' h' => ?_) ?_
          rotate_left
          · have c := cell_of_row w' b12 0 _ 34 _ (keep X12 h'); go_simp; try with_reducible rfl
          go_simp
          refine hK _ ?_
          clear hK K
          refine q_run rfl (fun K hK => ?_)
          refine q_value ?_ (fun w' h' => ?_) ?_
          rotate_left
          · go_simp; try with_reducible rfl
          go_simp
          refine hK _ ?_
          clear hK K
          refine q_run rfl (fun K hK => ?_)
          refine q_value ?_ (fun w' h' => ?_) ?_
          rotate_left
          · have c := a4_cell (keep X5 h') hq; rw [hmd] at c; go_simp; try with_reducible rfl
          go_simp
          refine hK _ ?_
          clear hK K
          refine q_run rfl (fun K hK => ?_)
          refine q_value ?_ (fun w' h' => ?_) ?_
          rotate_left
          · go_simp; try with_reducible rfl
          go_simp
          refine hK _ ?_
          clear hK K
          refine q_run rfl (fun K hK => ?_)
          refine q_value ?_ (fun w' h' => ?_) ?_
          rotate_left
          · go_simp; try with_reducible rfl
          go_simp
          refine hK _ ?_
          clear hK K
          refine q_run rfl (fun K hK => ?_)
          refine q_value ?_ (fun w' h' => ?_) ?_
          rotate_left
          · go_simp; try with_reducible rfl
          go_simp
          refine hK _ ?_
          clear hK K
          refine qd_nil ?_
          intro y1 hy1
          replace X5 := keep X5 hy1
          replace X12 := keep X12 hy1
          replace k1 := keep k1 hy1
          replace hM := hM.below hy1
          replace hal := hal.trans (hy1.mono hal.size)
          clear hy1
          have y120 := cell_of_row y1 b12 0 _ 34 _ X12
          have y122 := y120
          have y13 := y120
          have y5 := y120
          go_upto_region 27 with (fail)
          refine wp_region_lit ?_
          iterate 3
            refine wl_val rfl ?_ ?_ ?_
            rotate_left
            · go_simp; try with_reducible rfl
            intro K hK
            go_simp
            refine hK _ _ ?_
            clear hK K
          refine wl_a4 rfl (.tmp 120) (.const (.int .i64 0)) rfl b5 q (md ow rd) 0 hq rfl rfl X5 (fun w9 m1 m2 m3 => ?_)
          intro K hK
          go_simp
          refine hK _ _ ?_
          clear hK K
          replace X5 : w9.heap[b5]? = some (.cells (A4 (md (-1) (upF rd q false))) 53 (0, 0)) := by
            rw [m1]; congr 2; exact a4_congr (fun t ht => by
              have hx := hex (by omega) t (by omega)
              by_cases e : t = q
              · subst e; rw [upF_at]; unfold md; rw [if_neg (by omega), upF_at, if_neg Bool.false_ne_true]
              · rw [upF_ne e, md_ne (by omega), md_ne (by omega), upF_ne e])
          replace hM : Mac w9 bM g 1 cap 4 (fun _ => { initS ⟨14, 0, 0, 0⟩ with owner := (-1), readers := (upF rd q false) }) := ⟨(m2 bM h5M).trans hM.mac, hM.row.keep (m2 g (fun e => hn5 e.symm)), hM.ne, hM.g0, nm_keep hM.names (m2 0 (by have := hN.pos; omega))⟩
          replace hal := hal.trans (m3 _ hz5)
          clear m1 m2 m3 y120 y122 y13 y5
          go_wp2
          go_roundw
          case rel => exact ⟨i + 1, (-1), (upF rd q false), by go_num, by omega, by omega, by omega, fun h => absurd h (by omega), fun t h4 h8 => by rw [upF_ne (by omega)]; exact hrd8 t h4 h8, hM, X5, hal⟩
          case measure => simp [intOf]; omega
        · by_cases cr : rd q = true
          · have hown : ow = -1 := by
              by_cases h : 0 ≤ ow
              · have := hex h q (by omega); rw [this] at cr; cases cr
              · omega
            subst hown
            have hmd : md (-1) rd q = 1 := by unfold md; rw [if_neg (by omega), if_pos cr]
            rw [hmd] at y5
            obtain rfl : p = ⟨{ initS ⟨14, 0, 0, 0⟩ with owner := -1, readers := upF rd q false }, 0, true⟩ := by
              rw [hp.out]; unfold rwP; rw [if_pos rfl, if_neg (show ¬ (-1 : Int) = (q : Int) by omega), if_pos (show rd q = true from cr)]; try rfl
            clear hp
            simp only at hM
            go_upto_region 25 with (fail)
            clear y120 y122 y13 y5
            refine quiet_all (fun w' => Below w77.heap.size w77 w') (by kernel_rfl) (by kernel_rfl) (Below.drew (Below.refl _ _)) ?_
            refine q_run rfl (fun K hK => ?_)
            refine q_value ?_ (fun w' h' => ?_) ?_
            rotate_left
            · go_simp; try with_reducible rfl
            go_simp
            refine hK _ ?_
            clear hK K
            refine q_run rfl (fun K hK => ?_)
            refine q_value ?_ (fun w' h' => ?_) ?_
            rotate_left
            · go_simp; try with_reducible rfl
            go_simp
            refine hK _ ?_
            clear hK K
            refine q_run rfl (fun K hK => ?_)
            refine q_value ?_ (fun w' h' => ?_) ?_
            rotate_left
            · go_simp; try with_reducible rfl
            go_simp
            refine hK _ ?_
            clear hK K
            refine q_run rfl (fun K hK => ?_)
            refine q_value ?_ (fun w' h' => ?_) ?_
            rotate_left
            · go_simp; try with_reducible rfl
            go_simp
            refine hK _ ?_
            clear hK K
            refine q_run rfl (fun K hK => ?_)
            refine q_value ?_ (fun w' h' => ?_) ?_
            rotate_left
            · have c := cell_of_row w' b13 0 _ 38 _ (keep k1 h'); go_simp; try with_reducible rfl
            go_simp
            refine hK _ ?_
            clear hK K
            refine q_run rfl (fun K hK => ?_)
            refine q_value ?_ (fun w' h' => ?_) ?_
            rotate_left
            · go_simp; try with_reducible rfl
            go_simp
            refine hK _ ?_
            clear hK K
            refine q_run rfl (fun K hK => ?_)
            refine q_value ?_ (fun w' h' => ?_) ?_
            rotate_left
            · go_simp; try with_reducible rfl
            go_simp
            refine hK _ ?_
            clear hK K
            refine q_run rfl (fun K hK => ?_)
            refine q_value ?_ (fun w' h' => ?_) ?_
            rotate_left
            · have c := cell_of_row w' b12 0 _ 34 _ (keep X12 h'); go_simp; try with_reducible rfl
            go_simp
            refine hK _ ?_
            clear hK K
            refine q_run rfl (fun K hK => ?_)
            refine q_value ?_ (fun w' h' => ?_) ?_
            rotate_left
            · go_simp; try with_reducible rfl
            go_simp
            refine hK _ ?_
            clear hK K
            refine q_run rfl (fun K hK => ?_)
            refine q_value ?_ (fun w' h' => ?_) ?_
            rotate_left
            · have c := a4_cell (keep X5 h') hq; rw [hmd] at c; go_simp; try with_reducible rfl
            go_simp
            refine hK _ ?_
            clear hK K
            refine q_run rfl (fun K hK => ?_)
            refine q_value ?_ (fun w' h' => ?_) ?_
            rotate_left
            · go_simp; try with_reducible rfl
            go_simp
            refine hK _ ?_
            clear hK K
            refine q_run rfl (fun K hK => ?_)
            refine q_value ?_ (fun w' h' => ?_) ?_
            rotate_left
            · go_simp; try with_reducible rfl
            go_simp
            refine hK _ ?_
            clear hK K
            refine q_run rfl (fun K hK => ?_)
            refine q_value ?_ (fun w' h' => ?_) ?_
            rotate_left
            · go_simp; try with_reducible rfl
            go_simp
            refine hK _ ?_
            clear hK K
            refine qd_nil ?_
            intro y2 hy2
            replace X5 := keep X5 hy2
            replace X12 := keep X12 hy2
            replace k1 := keep k1 hy2
            replace hM := hM.below hy2
            replace hal := hal.trans (hy2.mono hal.size)
            clear hy2
            have y120 := cell_of_row y2 b12 0 _ 34 _ X12
            have y122 := y120
            have y13 := y120
            have y5 := y120
            go_upto_region 27 with (fail)
            refine wp_region_lit ?_
            iterate 3
              refine wl_val rfl ?_ ?_ ?_
              rotate_left
              · go_simp; try with_reducible rfl
              intro K hK
              go_simp
              refine hK _ _ ?_
              clear hK K
            refine wl_a4 rfl (.tmp 120) (.const (.int .i64 0)) rfl b5 q (md (-1) rd) 0 hq rfl rfl X5 (fun w9 m1 m2 m3 => ?_)
            intro K hK
            go_simp
            refine hK _ _ ?_
            clear hK K
            replace X5 : w9.heap[b5]? = some (.cells (A4 (md (-1) (upF rd q false))) 53 (0, 0)) := by
              rw [m1]; congr 2; exact a4_congr (fun t ht => by
                by_cases e : t = q
                · subst e; rw [upF_at]; unfold md; rw [if_neg (by omega), upF_at, if_neg Bool.false_ne_true]
                · rw [upF_ne e, md_ne (by omega), md_ne (by omega), upF_ne e])
            replace hM : Mac w9 bM g 1 cap 4 (fun _ => { initS ⟨14, 0, 0, 0⟩ with owner := (-1), readers := (upF rd q false) }) := ⟨(m2 bM h5M).trans hM.mac, hM.row.keep (m2 g (fun e => hn5 e.symm)), hM.ne, hM.g0, nm_keep hM.names (m2 0 (by have := hN.pos; omega))⟩
            replace hal := hal.trans (m3 _ hz5)
            clear m1 m2 m3 y120 y122 y13 y5
            go_wp2
            go_roundw
            case rel => exact ⟨i + 1, (-1), (upF rd q false), by go_num, by omega, by omega, by omega, fun h => absurd h (by omega), fun t h4 h8 => by rw [upF_ne (by omega)]; exact hrd8 t h4 h8, hM, X5, hal⟩
            case measure => simp [intOf]; omega
          · have hmd : md ow rd q = 0 := by unfold md; rw [if_neg co, if_neg cr]
            rw [hmd] at y5
            obtain rfl : p = ⟨{ initS ⟨14, 0, 0, 0⟩ with owner := ow, readers := rd }, 2, true⟩ := by
              rw [hp.out]; unfold rwP; rw [if_pos rfl, if_neg (show ¬ ow = (q : Int) from co), if_neg (show ¬ rd q = true from cr)]
            clear hp
            simp only at hM
            go_upto_region 25 with (fail)
            clear y120 y122 y13 y5
            refine quiet_all (fun w' => Below w77.heap.size w77 w') (by kernel_rfl) (by kernel_rfl) (Below.drew (Below.refl _ _)) ?_
            refine q_run rfl (fun K hK => ?_)
            refine q_value ?_ (fun w' h' => ?_) ?_
            rotate_left
            · go_simp; try with_reducible rfl
            go_simp
            refine hK _ ?_
            clear hK K
            refine q_run rfl (fun K hK => ?_)
            refine q_value ?_ (fun w' h' => ?_) ?_
            rotate_left
            · go_simp; try with_reducible rfl
            go_simp
            refine hK _ ?_
            clear hK K
            refine q_run rfl (fun K hK => ?_)
            refine q_value ?_ (fun w' h' => ?_) ?_
            rotate_left
            · go_simp; try with_reducible rfl
            go_simp
            refine hK _ ?_
            clear hK K
            refine q_run rfl (fun K hK => ?_)
            refine q_value ?_ (fun w' h' => ?_) ?_
            rotate_left
            · go_simp; try with_reducible rfl
            go_simp
            refine hK _ ?_
            clear hK K
            refine q_run rfl (fun K hK => ?_)
            refine q_value ?_ (fun w' h' => ?_) ?_
            rotate_left
            · have c := cell_of_row w' b13 0 _ 38 _ (keep k1 h'); go_simp; try with_reducible rfl
            go_simp
            refine hK _ ?_
            clear hK K
            refine q_run rfl (fun K hK => ?_)
            refine q_value ?_ (fun w' h' => ?_) ?_
            rotate_left
            · go_simp; try with_reducible rfl
            go_simp
            refine hK _ ?_
            clear hK K
            refine q_run rfl (fun K hK => ?_)
            refine q_value ?_ (fun w' h' => ?_) ?_
            rotate_left
            · go_simp; try with_reducible rfl
            go_simp
            refine hK _ ?_
            clear hK K
            refine q_run rfl (fun K hK => ?_)
            refine q_value ?_ (fun w' h' => ?_) ?_
            rotate_left
            · have c := cell_of_row w' b12 0 _ 34 _ (keep X12 h'); go_simp; try with_reducible rfl
            go_simp
            refine hK _ ?_
            clear hK K
            refine q_run rfl (fun K hK => ?_)
            refine q_value ?_ (fun w' h' => ?_) ?_
            rotate_left
            · go_simp; try with_reducible rfl
            go_simp
            refine hK _ ?_
            clear hK K
            refine q_run rfl (fun K hK => ?_)
            refine q_value ?_ (fun w' h' => ?_) ?_
            rotate_left
            · have c := a4_cell (keep X5 h') hq; rw [hmd] at c; go_simp; try with_reducible rfl
            go_simp
            refine hK _ ?_
            clear hK K
            refine q_run rfl (fun K hK => ?_)
            refine q_value ?_ (fun w' h' => ?_) ?_
            rotate_left
            · go_simp; try with_reducible rfl
            go_simp
            refine hK _ ?_
            clear hK K
            refine q_run rfl (fun K hK => ?_)
            refine q_value ?_ (fun w' h' => ?_) ?_
            rotate_left
            · go_simp; try with_reducible rfl
            go_simp
            refine hK _ ?_
            clear hK K
            refine q_run rfl (fun K hK => ?_)
            refine q_value ?_ (fun w' h' => ?_) ?_
            rotate_left
            · go_simp; try with_reducible rfl
            go_simp
            refine hK _ ?_
            clear hK K
            refine qd_nil ?_
            intro y3 hy3
            replace X5 := keep X5 hy3
            replace X12 := keep X12 hy3
            replace k1 := keep k1 hy3
            replace hM := hM.below hy3
            replace hal := hal.trans (hy3.mono hal.size)
            clear hy3
            have y120 := cell_of_row y3 b12 0 _ 34 _ X12
            have y122 := y120
            have y13 := y120
            have y5 := y120
            go_upto_region 27 with (fail)
            refine wp_region_lit ?_
            iterate 3
              refine wl_val rfl ?_ ?_ ?_
              rotate_left
              · go_simp; try with_reducible rfl
              intro K hK
              go_simp
              refine hK _ _ ?_
              clear hK K
            refine wl_a4 rfl (.tmp 120) (.const (.int .i64 0)) rfl b5 q (md ow rd) 0 hq rfl rfl X5 (fun w9 m1 m2 m3 => ?_)
            intro K hK
            go_simp
            refine hK _ _ ?_
            clear hK K
            replace X5 : w9.heap[b5]? = some (.cells (A4 (md ow rd)) 53 (0, 0)) := by
              rw [m1]; congr 2; exact a4_congr (fun t ht => by
                by_cases e : t = q
                · subst e; rw [upF_at]; exact hmd.symm
                · rw [upF_ne e])
            replace hM : Mac w9 bM g 1 cap 4 (fun _ => { initS ⟨14, 0, 0, 0⟩ with owner := ow, readers := rd }) := ⟨(m2 bM h5M).trans hM.mac, hM.row.keep (m2 g (fun e => hn5 e.symm)), hM.ne, hM.g0, nm_keep hM.names (m2 0 (by have := hN.pos; omega))⟩
            replace hal := hal.trans (m3 _ hz5)
            clear m1 m2 m3 y120 y122 y13 y5
            go_wp2
            go_roundw
            case rel => exact ⟨i + 1, ow, rd, by go_num, by omega, by omega, by omega, hex, hrd8, hM, X5, hal⟩
            case measure => simp [intOf]; omega
      · by_cases co : ow = (q : Int)
        · have hmd : md ow rd q = 2 := by unfold md; rw [if_pos co]
          rw [hmd] at y5
          clear hmd
          obtain rfl : p = ⟨{ initS ⟨14, 0, 0, 0⟩ with owner := ow, readers := rd }, 1, true⟩ := by
            rw [hp.out]; unfold rwP; rw [if_neg (by omega), if_pos (.inl (show ow = (q : Int) from co))]
          clear hp
          simp only at hM
          go_wp2
          go_roundw
          case rel => exact ⟨i + 1, ow, rd, by go_num, by omega, by omega, by omega, hex, hrd8, hM, X5, hal⟩
          case measure => simp [intOf]; omega
        · by_cases cr : rd q = true
          · have hmd : md ow rd q = 1 := by unfold md; rw [if_neg co, if_pos cr]
            rw [hmd] at y5
            clear hmd
            obtain rfl : p = ⟨{ initS ⟨14, 0, 0, 0⟩ with owner := ow, readers := rd }, 1, true⟩ := by
              rw [hp.out]; unfold rwP; rw [if_neg (by omega), if_pos (.inr (show rd q = true from cr))]
            clear hp
            simp only at hM
            go_wp2
            go_roundw
            case rel => exact ⟨i + 1, ow, rd, by go_num, by omega, by omega, by omega, hex, hrd8, hM, X5, hal⟩
            case measure => simp [intOf]; omega
          · by_cases cg : 0 ≤ ow
            · have hmd : md ow rd q = 0 := by unfold md; rw [if_neg co, if_neg cr]
              rw [hmd] at y5
              have hB : ¬ C2 = 0 := fun h => z2.1 h ow.toNat (by omega) (by omega) (by unfold md; rw [if_pos (by omega)])
              have qq : (C2 == 0) = false := by simp; omega
              clear hmd hB z2 z1
              obtain rfl : p = ⟨{ initS ⟨14, 0, 0, 0⟩ with owner := ow, readers := rd }, 0, false⟩ := by
                rw [hp.out]; unfold rwP; rw [if_neg (by omega), if_neg (fun h : ow = (q : Int) ∨ rd q = true => h.elim co cr), if_pos (show 0 ≤ ow from cg)]
              clear hp
              simp only at hM
              go_wp2
              go_roundw
              case rel => exact ⟨i + 1, ow, rd, by go_num, by omega, by omega, by omega, hex, hrd8, hM, X5, hal⟩
              case measure => simp [intOf]; omega
            · have hmd : md ow rd q = 0 := by unfold md; rw [if_neg co, if_neg cr]
              rw [hmd] at y5
              have hC2 : C2 = 0 := z2.2 (fun t ht _ => by unfold md; rw [if_neg (by omega)]; split <;> omega)
              subst hC2
              clear z2 z1
              obtain rfl : p = ⟨{ initS ⟨14, 0, 0, 0⟩ with owner := ow, readers := upF rd q true }, 0, true⟩ := by
                rw [hp.out]; unfold rwP; rw [if_neg (by omega), if_neg (fun h : ow = (q : Int) ∨ rd q = true => h.elim co cr), if_neg (show ¬ 0 ≤ ow from cg), if_neg (by omega)]; try rfl
              clear hp
              simp only at hM
              go_upto_region 23 with (fail)
              refine wp_region_lit ?_
              iterate 3
                refine wl_val rfl ?_ ?_ ?_
                rotate_left
                · go_simp; try with_reducible rfl
                intro K hK
                go_simp
                refine hK _ _ ?_
                clear hK K
              refine wl_a4 rfl (.tmp 100) (.const (.int .i64 1)) rfl b5 q (md ow rd) 1 hq rfl rfl X5 (fun w9 m1 m2 m3 => ?_)
              intro K hK
              go_simp
              refine hK _ _ ?_
              clear hK K
              replace X5 : w9.heap[b5]? = some (.cells (A4 (md ow (upF rd q true))) 53 (0, 0)) := by
                rw [m1]; congr 2; exact a4_congr (fun t ht => by
                  by_cases e : t = q
                  · subst e; rw [upF_at]; unfold md; rw [if_neg co, upF_at, if_pos rfl]
                  · rw [upF_ne e]; unfold md; rw [upF_ne e])
              replace hM : Mac w9 bM g 1 cap 4 (fun _ => { initS ⟨14, 0, 0, 0⟩ with owner := ow, readers := (upF rd q true) }) := ⟨(m2 bM h5M).trans hM.mac, hM.row.keep (m2 g (fun e => hn5 e.symm)), hM.ne, hM.g0, nm_keep hM.names (m2 0 (by have := hN.pos; omega))⟩
              replace hal := hal.trans (m3 _ hz5)
              clear m1 m2 m3 y120 y122 y13 y5
              go_wp2
              go_roundw
              case rel => exact ⟨i + 1, ow, (upF rd q true), by go_num, by omega, by omega, by omega, fun h => absurd h cg, fun t h4 h8 => by rw [upF_ne (by omega)]; exact hrd8 t h4 h8, hM, X5, hal⟩
              case measure => simp [intOf]; omega
end Go.Proofs.YtobkonbpcnmgpaaDoor
