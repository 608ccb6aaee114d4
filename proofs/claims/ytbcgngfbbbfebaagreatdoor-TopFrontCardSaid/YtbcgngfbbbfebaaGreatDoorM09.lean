/- obj.First: the words at first; the words of a queue whose tail is nobody's. -/
import Derived.Test.YtbcgngfbbbfebaaGreatDoorM08
namespace Go.Proofs.YtbcgngfbbbfebaaGreatDoor
open Go.RowKit
set_option maxRecDepth 100000
set_option maxHeartbeats 32000000
set_option linter.unusedVariables false
set_option linter.unusedSimpArgs false
def lettersOf : Nat → List Nat
 | 0 => []
 | 1 => [111]
 | 2 => [111]
 | 3 => [110, 115, 111]
 | 4 => [116, 111, 78, 87]
 | 5 => [116, 111, 70, 102, 77, 80]
 | 6 => [97, 98, 117, 111]
 | 7 => [102, 115, 111]
 | 8 => [98, 114, 108, 111]
 | 9 => [115, 111]
 | 10 => [115, 111]
 | 11 => [99]
 | 12 => [115, 78]
 | 13 => [99, 112]
 | 14 => [115, 77]
 | 15 => [115, 111]
 | _ => []
def isGreat (c : Nat) : Bool := decide (65 ≤ c) && decide (c ≤ 90)
def letterV (k n : Int) (t c j : Nat) : Int := if k = 11 then n else if k = 5 ∧ c = 77 then j else if k = 5 ∧ c = 116 then t else 0
def letterW (k n : Int) (t c : Nat) : List Int := (List.range (if isGreat c then t else 1)).map fun j => letterV k n t c j
def firstL (x : O) (t : Nat) : List Int := (lettersOf x.k.toNat).flatMap (letterW x.k x.n t) ++ (if x.k = 9 then List.replicate x.n.toNat 0 else [])
def clhP (t i j : Nat) : Int := if j = 0 then t else if 3 + t ≤ j ∧ j < 3 + t + i then ((j - 3 - t : Nat) : Int) else 0
theorem fl1 : ∀ t, t ≤ 8 → firstL ⟨1, 0, 0, 0⟩ t = List.replicate 1 0 := by decide +kernel
theorem fl2 : ∀ t, t ≤ 8 → firstL ⟨2, 0, 0, 0⟩ t = List.replicate 1 0 := by decide +kernel
theorem fl3 : ∀ t, t ≤ 8 → firstL ⟨3, 0, 0, 0⟩ t = List.replicate 3 0 := by decide +kernel
theorem fl4 : ∀ t, t ≤ 8 → firstL ⟨4, 0, 0, 0⟩ t = List.replicate (2 + 2 * t) 0 := by decide +kernel
theorem fl5 : ∀ t, t ≤ 8 → (firstL ⟨5, 0, 0, 0⟩ t).length = 3 + 3 * t ∧ ∀ j, j < 3 + 3 * t → clhP t t j = pt (firstL ⟨5, 0, 0, 0⟩ t) j := by decide +kernel
theorem fl6 (a b : Int) (t : Nat) : firstL ⟨6, 0, a, b⟩ t = List.replicate 4 0 := rfl
theorem fl7 (a b : Int) (t : Nat) : firstL ⟨7, 0, a, b⟩ t = List.replicate 3 0 := rfl
theorem fl8 (a b : Int) (t : Nat) : firstL ⟨8, 0, a, b⟩ t = List.replicate 4 0 := rfl
theorem fl9 (n : Nat) (a b : Int) (t : Nat) : firstL ⟨9, n, a, b⟩ t = List.replicate (2 + n) 0 := by
 show [(0 : Int), 0] ++ List.replicate n 0 = _; rw [Nat.add_comm]; rfl
theorem fl10 : ∀ t, t ≤ 8 → firstL ⟨10, 0, 0, 0⟩ t = List.replicate 2 0 := by decide +kernel
theorem fl12 : ∀ t, t ≤ 8 → firstL ⟨12, 0, 0, 0⟩ t = List.replicate (1 + t) 0 := by decide +kernel
theorem fl13 (n a b : Int) (t : Nat) : firstL ⟨13, n, a, b⟩ t = List.replicate 2 0 := rfl
theorem fl14 : ∀ t, t ≤ 8 → firstL ⟨14, 0, 0, 0⟩ t = List.replicate (1 + t) 0 := by decide +kernel
theorem fl15 : ∀ t, t ≤ 8 → firstL ⟨15, 0, 0, 0⟩ t = List.replicate 2 0 := by decide +kernel
theorem pt_zero (n i : Nat) : pt (List.replicate n 0) i = 0 := by
 unfold pt
 rw [List.getD_eq_getElem?_getD, List.getElem?_replicate]; split <;> rfl
theorem clhP_set (t i : Nat) : (fun y => if y = 3 + t + i then (i : Int) else clhP t i y) = clhP t (i + 1) := by
 funext y
 unfold clhP
 by_cases e : y = 3 + t + i
 ·subst e
  rw [if_pos rfl, if_neg (by omega), if_pos (by omega)]; congr 1; omega
 ·rw [if_neg e]
  by_cases h0 : y = 0
  ·simp [h0]
  ·rw [if_neg h0, if_neg h0]
   by_cases h1 : 3 + t ≤ y ∧ y < 3 + t + i
   ·rw [if_pos h1, if_pos (by omega)]
   ·rw [if_neg h1, if_neg (by omega)]
theorem clhP_zero (t : Nat) : (fun y => if y = 0 then (t : Int) else 0) = clhP t 0 := by
 funext y
 unfold clhP
 by_cases e : y = 0
 ·simp [e]
 ·rw [if_neg e, if_neg e, if_neg (by omega)]
theorem clh (t : Nat) (ht1 : 1 ≤ t) (ht8 : t ≤ 8) (w : World) : Calls Tryz.prog 55 #[.int .i64 t] w fun e w' => ∃ V c, e = .returned (.slice V (3 + 3 * t) c) ∧ Wd w' V (3 + 3 * t) (clhP t t) ∧ Below w.heap.size w w' := by
 have hwt : IntKind.u32.wrap (t : Int) = t := by simp [IntKind.wrap, IntKind.bits, IntKind.signed]; omega
 go_enter Tryz.func55, Tryz.ntmps55; go_upto_region 1 with (fail); refine wp_region_lit ?_
 iterate 3 refine Zv ?_
 refine wl_mku rfl (.tmp 7) (.tmp 7) rfl (3 + 3 * t) (by omega) (by go_simp; simp only [IntKind.wrap_i64]; omega) (by go_simp; simp only [IntKind.wrap_i64]; omega) (fun w1 r X1 h1 f1 => ?_); refine Zk ?_; refine wl_val rfl (.slice (some ⟨r, 0, none⟩) (3 + 3 * t) (3 + 3 * t)) ?_ ?_
 ·go_simp
 refine Zk ?_
 have hr : w.heap.size ≤ r := by simp only [Hid] at f1; omega
 clear f1; go_upto_region 2 with (fail); refine wp_region_lit ?_
 iterate 2 refine Zv ?_
 refine wl_val rfl (.int .u32 t) ?_ ?_
 ·go_simp; try rw [hwt]
 refine Zk ?_; refine wl_val rfl (.pointer (some ⟨r, 0, none⟩)) ?_ ?_
 ·go_simp; try omega
 refine Zk ?_; refine wl_stu rfl (.tmp 12) (.tmp 11) rfl r 0 (3 + 3 * t) t _ rfl rfl X1 (by omega) (fun w2 X2 q2 => ?_); refine Zk ?_; have hb2 : Below w.heap.size w w2 := h1.trans (q2 _ hr); rw [clhP_zero] at X2; clear X1 q2 h1; go_upto_region 4 with (fail); go_loopw [14] (fun i wr => ∃ k : Nat, k ≤ t ∧ i = .int .i64 k ∧ wr.heap[r]? = some (.cells (urow (3 + 3 * t) (clhP t k)) 33 (0, 0)) ∧ Below w.heap.size w wr) (fun i _ => t - (intOf i).toNat)
 case atStart => exact ⟨0, by omega, rfl, X2, hb2⟩
 case round =>
  clear X2 hb2; obtain ⟨k, hk, rfl, X, hb⟩ := hrel
  by_cases hlt : k < t
  ·have hl : (k : Int) < t := by omega
   have hl0 : (0 : Int) ≤ k := by omega
   have hwk : IntKind.u32.wrap (k : Int) = k := by simp [IntKind.wrap, IntKind.bits, IntKind.signed]; omega
   go_upto_region 6 with (fail); refine wp_region_lit ?_; obtain ⟨q, hqh⟩ : ∃ q : Nat, Hid (q = 3 + t + k) := ⟨_, rfl⟩; have hq := hqh.out
   have hq0 : (0 : Int) ≤ q := by omega
   have hq1 : (q : Int) < ((3 + 3 * t : Nat) : Int) := by omega
   have hq2 : (q : Int) < 3 + 3 * (t : Int) := by omega
   clear hq
   iterate 2 refine Zv ?_
   refine wl_val rfl (.int .i64 (3 + t)) ?_ ?_
   ·go_simp; try (simp only [IntKind.wrap_i64]; omega)
   refine Zk ?_; refine Zv ?_; refine wl_val rfl (.int .i64 q) ?_ ?_
   ·go_simp; try (have hq := hqh.out; simp only [IntKind.wrap_i64]; omega)
   refine Zk ?_; refine Zv ?_; refine wl_val rfl (.int .u32 k) ?_ ?_
   ·go_simp; try rw [hwk]
   refine Zk ?_; refine wl_val rfl (.pointer (some ⟨r, q, none⟩)) ?_ ?_
   ·go_simp
   refine Zk ?_; refine wl_stu rfl (.tmp 24) (.tmp 23) rfl r q (3 + 3 * t) k _ rfl rfl X (by have := hqh.out; omega) (fun w3 X3 q3 => ?_); refine Zk ?_; rw [hqh.out, clhP_set] at X3; replace hb := hb.trans (q3 _ hr); go_wp2; go_roundw
   case rel => exact ⟨k + 1, by omega, by go_num, X3, hb⟩
   case measure => simp [intOf]; omega
  ·have hl : ¬ (k : Int) < t := by omega
   have hkn : k = t := by omega
   subst hkn; go_wp2; go_ret; exact ⟨_, ⟨_, rfl⟩, Wd.row X, hb⟩
theorem first_k1  (t : Nat) (hR : RP ⟨1, 0, 0, 0⟩ t) (w : World) (h : NmW w) : Calls Tryz.prog 25 #[ov ⟨1, 0, 0, 0⟩, .int .i64 t] w fun e w' => ∃ V c, e = .returned (.slice V (firstL ⟨1, 0, 0, 0⟩ t).length c) ∧ Wd w' V (firstL ⟨1, 0, 0, 0⟩ t).length (pt (firstL ⟨1, 0, 0, 0⟩ t)) ∧ Below w.heap.size w w' := by
 have hr := rb_t hR
 have ht : 1 ≤ t ∧ t ≤ 8 := by have h1 := hR.1; have h2 := hR.2.1; omega
 have hO := objRight ⟨1, 0, 0, 0⟩ t; unfold ov at *; go_enter Tryz.func25, Tryz.ntmps25; go_wp2_with fail; refine (hO _ (h.below ((Below.refl _ _).alloc (Nat.le_refl _) _))).mono ?_; rintro e w1 ⟨rfl, hb1⟩; rw [hr]; clear hO hr hR; have X := keep (heap_alloc_new w (.cells #[.int .i64 1, .int .i64 0, .int .i64 0, .int .i64 0] 38)) hb1; have hB : Below w.heap.size w w1 := ((Below.refl _ _).alloc (Nat.le_refl _) _).trans (hb1.mono (by simp)); obtain ⟨x0, x1⟩ := cl2 X; clear hb1 X; have hfl := fl1 t (by omega)
 have hlen : (firstL ⟨1, 0, 0, 0⟩ t).length = 1 := by rw [hfl]; simp
 go_upto_region 29 with (fail); refine wp_region_lit ?_; refine Zv ?_; refine wl_mku rfl (.tmp 50) (.tmp 50) rfl 1 (by omega) (by go_simp; try (simp only [IntKind.wrap_i64]; omega)) (by go_simp; try (simp only [IntKind.wrap_i64]; omega)) (fun w4 r X4 h4 f4 => ?_); refine Zk ?_; refine wl_val rfl (.slice (some ⟨r, 0, none⟩) 1 1) ?_ ?_
 ·go_simp
 refine Zk ?_; go_wp2_with (fail); go_ret; exact ⟨_, _, by rw [hlen]; rfl, by rw [hlen]; exact (Wd.row X4).congr fun i _ => by rw [hfl, pt_zero], hB.trans (h4.mono hB.size)⟩
theorem first_k2  (t : Nat) (hR : RP ⟨2, 0, 0, 0⟩ t) (w : World) (h : NmW w) : Calls Tryz.prog 25 #[ov ⟨2, 0, 0, 0⟩, .int .i64 t] w fun e w' => ∃ V c, e = .returned (.slice V (firstL ⟨2, 0, 0, 0⟩ t).length c) ∧ Wd w' V (firstL ⟨2, 0, 0, 0⟩ t).length (pt (firstL ⟨2, 0, 0, 0⟩ t)) ∧ Below w.heap.size w w' := by
 have hr := rb_t hR
 have ht : 1 ≤ t ∧ t ≤ 8 := by have h1 := hR.1; have h2 := hR.2.1; omega
 have hO := objRight ⟨2, 0, 0, 0⟩ t; unfold ov at *; go_enter Tryz.func25, Tryz.ntmps25; go_wp2_with fail; refine (hO _ (h.below ((Below.refl _ _).alloc (Nat.le_refl _) _))).mono ?_; rintro e w1 ⟨rfl, hb1⟩; rw [hr]; clear hO hr hR; have X := keep (heap_alloc_new w (.cells #[.int .i64 2, .int .i64 0, .int .i64 0, .int .i64 0] 38)) hb1; have hB : Below w.heap.size w w1 := ((Below.refl _ _).alloc (Nat.le_refl _) _).trans (hb1.mono (by simp)); obtain ⟨x0, x1⟩ := cl2 X; clear hb1 X; have hfl := fl2 t (by omega)
 have hlen : (firstL ⟨2, 0, 0, 0⟩ t).length = 1 := by rw [hfl]; simp
 go_upto_region 29 with (fail); refine wp_region_lit ?_; refine Zv ?_; refine wl_mku rfl (.tmp 50) (.tmp 50) rfl 1 (by omega) (by go_simp; try (simp only [IntKind.wrap_i64]; omega)) (by go_simp; try (simp only [IntKind.wrap_i64]; omega)) (fun w4 r X4 h4 f4 => ?_); refine Zk ?_; refine wl_val rfl (.slice (some ⟨r, 0, none⟩) 1 1) ?_ ?_
 ·go_simp
 refine Zk ?_; go_wp2_with (fail); go_ret; exact ⟨_, _, by rw [hlen]; rfl, by rw [hlen]; exact (Wd.row X4).congr fun i _ => by rw [hfl, pt_zero], hB.trans (h4.mono hB.size)⟩
theorem first_k3  (t : Nat) (hR : RP ⟨3, 0, 0, 0⟩ t) (w : World) (h : NmW w) : Calls Tryz.prog 25 #[ov ⟨3, 0, 0, 0⟩, .int .i64 t] w fun e w' => ∃ V c, e = .returned (.slice V (firstL ⟨3, 0, 0, 0⟩ t).length c) ∧ Wd w' V (firstL ⟨3, 0, 0, 0⟩ t).length (pt (firstL ⟨3, 0, 0, 0⟩ t)) ∧ Below w.heap.size w w' := by
 have hr := rb_t hR
 have ht : 1 ≤ t ∧ t ≤ 8 := by have h1 := hR.1; have h2 := hR.2.1; omega
 have hO := objRight ⟨3, 0, 0, 0⟩ t; unfold ov at *; go_enter Tryz.func25, Tryz.ntmps25; go_wp2_with fail; refine (hO _ (h.below ((Below.refl _ _).alloc (Nat.le_refl _) _))).mono ?_; rintro e w1 ⟨rfl, hb1⟩; rw [hr]; clear hO hr hR; have X := keep (heap_alloc_new w (.cells #[.int .i64 3, .int .i64 0, .int .i64 0, .int .i64 0] 38)) hb1; have hB : Below w.heap.size w w1 := ((Below.refl _ _).alloc (Nat.le_refl _) _).trans (hb1.mono (by simp)); obtain ⟨x0, x1⟩ := cl2 X; clear hb1 X; have hfl := fl3 t (by omega)
 have hlen : (firstL ⟨3, 0, 0, 0⟩ t).length = 3 := by rw [hfl]; simp
 go_upto_region 29 with (fail); refine wp_region_lit ?_; refine Zv ?_; refine wl_mku rfl (.tmp 50) (.tmp 50) rfl 3 (by omega) (by go_simp; try (simp only [IntKind.wrap_i64]; omega)) (by go_simp; try (simp only [IntKind.wrap_i64]; omega)) (fun w4 r X4 h4 f4 => ?_); refine Zk ?_; refine wl_val rfl (.slice (some ⟨r, 0, none⟩) 3 3) ?_ ?_
 ·go_simp
 refine Zk ?_; go_wp2_with (fail); go_ret; exact ⟨_, _, by rw [hlen]; rfl, by rw [hlen]; exact (Wd.row X4).congr fun i _ => by rw [hfl, pt_zero], hB.trans (h4.mono hB.size)⟩
theorem first_k4  (t : Nat) (hR : RP ⟨4, 0, 0, 0⟩ t) (w : World) (h : NmW w) : Calls Tryz.prog 25 #[ov ⟨4, 0, 0, 0⟩, .int .i64 t] w fun e w' => ∃ V c, e = .returned (.slice V (firstL ⟨4, 0, 0, 0⟩ t).length c) ∧ Wd w' V (firstL ⟨4, 0, 0, 0⟩ t).length (pt (firstL ⟨4, 0, 0, 0⟩ t)) ∧ Below w.heap.size w w' := by
 have hr := rb_t hR
 have ht : 1 ≤ t ∧ t ≤ 8 := by have h1 := hR.1; have h2 := hR.2.1; omega
 have hO := objRight ⟨4, 0, 0, 0⟩ t; unfold ov at *; go_enter Tryz.func25, Tryz.ntmps25; go_wp2_with fail; refine (hO _ (h.below ((Below.refl _ _).alloc (Nat.le_refl _) _))).mono ?_; rintro e w1 ⟨rfl, hb1⟩; rw [hr]; clear hO hr hR; have X := keep (heap_alloc_new w (.cells #[.int .i64 4, .int .i64 0, .int .i64 0, .int .i64 0] 38)) hb1; have hB : Below w.heap.size w w1 := ((Below.refl _ _).alloc (Nat.le_refl _) _).trans (hb1.mono (by simp)); obtain ⟨x0, x1⟩ := cl2 X; clear hb1 X; have hfl := fl4 t (by omega)
 have hlen : (firstL ⟨4, 0, 0, 0⟩ t).length = (2 + 2 * t) := by rw [hfl]; simp
 go_upto_region 29 with (fail); refine wp_region_lit ?_; refine Zv ?_; refine wl_mku rfl (.tmp 50) (.tmp 50) rfl (2 + 2 * t) (by omega) (by go_simp; try (simp only [IntKind.wrap_i64]; omega)) (by go_simp; try (simp only [IntKind.wrap_i64]; omega)) (fun w4 r X4 h4 f4 => ?_); refine Zk ?_; refine wl_val rfl (.slice (some ⟨r, 0, none⟩) (2 + 2 * t) (2 + 2 * t)) ?_ ?_
 ·go_simp
 refine Zk ?_; go_wp2_with (fail); go_ret; exact ⟨_, _, by rw [hlen]; rfl, by rw [hlen]; exact (Wd.row X4).congr fun i _ => by rw [hfl, pt_zero], hB.trans (h4.mono hB.size)⟩
theorem first_k5  (t : Nat) (hR : RP ⟨5, 0, 0, 0⟩ t) (w : World) (h : NmW w) : Calls Tryz.prog 25 #[ov ⟨5, 0, 0, 0⟩, .int .i64 t] w fun e w' => ∃ V c, e = .returned (.slice V (firstL ⟨5, 0, 0, 0⟩ t).length c) ∧ Wd w' V (firstL ⟨5, 0, 0, 0⟩ t).length (pt (firstL ⟨5, 0, 0, 0⟩ t)) ∧ Below w.heap.size w w' := by
 have hr := rb_t hR
 have ht : 1 ≤ t ∧ t ≤ 8 := by have h1 := hR.1; have h2 := hR.2.1; omega
 have hO := objRight ⟨5, 0, 0, 0⟩ t; unfold ov at *; go_enter Tryz.func25, Tryz.ntmps25; go_wp2_with fail; refine (hO _ (h.below ((Below.refl _ _).alloc (Nat.le_refl _) _))).mono ?_; rintro e w1 ⟨rfl, hb1⟩; rw [hr]; clear hO hr hR; have X := keep (heap_alloc_new w (.cells #[.int .i64 5, .int .i64 0, .int .i64 0, .int .i64 0] 38)) hb1; have hB : Below w.heap.size w w1 := ((Below.refl _ _).alloc (Nat.le_refl _) _).trans (hb1.mono (by simp)); obtain ⟨x0, x1⟩ := cl2 X; clear hb1 X; have hfl := fl5 t (by omega); go_wp2_with fail; refine (clh t ht.1 ht.2 w1).mono ?_; rintro e w2 ⟨V, c, rfl, hW, hb2⟩; go_wp2; go_ret; exact ⟨V, c, by rw [hfl.1]; rfl, by rw [hfl.1]; exact hW.congr hfl.2, hB.trans (hb2.mono hB.size)⟩
theorem first_k6 (a b : Int) (t : Nat) (hR : RP ⟨6, 0, a, b⟩ t) (w : World) (h : NmW w) : Calls Tryz.prog 25 #[ov ⟨6, 0, a, b⟩, .int .i64 t] w fun e w' => ∃ V c, e = .returned (.slice V (firstL ⟨6, 0, a, b⟩ t).length c) ∧ Wd w' V (firstL ⟨6, 0, a, b⟩ t).length (pt (firstL ⟨6, 0, a, b⟩ t)) ∧ Below w.heap.size w w' := by
 have hr := rb_t hR
 have ht : 1 ≤ t ∧ t ≤ 8 := by have h1 := hR.1; have h2 := hR.2.1; omega
 have hO := objRight ⟨6, 0, a, b⟩ t; unfold ov at *; go_enter Tryz.func25, Tryz.ntmps25; go_wp2_with fail; refine (hO _ (h.below ((Below.refl _ _).alloc (Nat.le_refl _) _))).mono ?_; rintro e w1 ⟨rfl, hb1⟩; rw [hr]; clear hO hr hR; have X := keep (heap_alloc_new w (.cells #[.int .i64 6, .int .i64 0, .int .i64 a, .int .i64 b] 38)) hb1; have hB : Below w.heap.size w w1 := ((Below.refl _ _).alloc (Nat.le_refl _) _).trans (hb1.mono (by simp)); obtain ⟨x0, x1⟩ := cl2 X; clear hb1 X; have hfl := fl6 a b t
 have hlen : (firstL ⟨6, 0, a, b⟩ t).length = 4 := by rw [hfl]; simp
 go_upto_region 29 with (fail); refine wp_region_lit ?_; refine Zv ?_; refine wl_mku rfl (.tmp 50) (.tmp 50) rfl 4 (by omega) (by go_simp; try (simp only [IntKind.wrap_i64]; omega)) (by go_simp; try (simp only [IntKind.wrap_i64]; omega)) (fun w4 r X4 h4 f4 => ?_); refine Zk ?_; refine wl_val rfl (.slice (some ⟨r, 0, none⟩) 4 4) ?_ ?_
 ·go_simp
 refine Zk ?_; go_wp2_with (fail); go_ret; exact ⟨_, _, by rw [hlen]; rfl, by rw [hlen]; exact (Wd.row X4).congr fun i _ => by rw [hfl, pt_zero], hB.trans (h4.mono hB.size)⟩
theorem first_k7 (a b : Int) (t : Nat) (hR : RP ⟨7, 0, a, b⟩ t) (w : World) (h : NmW w) : Calls Tryz.prog 25 #[ov ⟨7, 0, a, b⟩, .int .i64 t] w fun e w' => ∃ V c, e = .returned (.slice V (firstL ⟨7, 0, a, b⟩ t).length c) ∧ Wd w' V (firstL ⟨7, 0, a, b⟩ t).length (pt (firstL ⟨7, 0, a, b⟩ t)) ∧ Below w.heap.size w w' := by
 have hr := rb_t hR
 have ht : 1 ≤ t ∧ t ≤ 8 := by have h1 := hR.1; have h2 := hR.2.1; omega
 have hO := objRight ⟨7, 0, a, b⟩ t; unfold ov at *; go_enter Tryz.func25, Tryz.ntmps25; go_wp2_with fail; refine (hO _ (h.below ((Below.refl _ _).alloc (Nat.le_refl _) _))).mono ?_; rintro e w1 ⟨rfl, hb1⟩; rw [hr]; clear hO hr hR; have X := keep (heap_alloc_new w (.cells #[.int .i64 7, .int .i64 0, .int .i64 a, .int .i64 b] 38)) hb1; have hB : Below w.heap.size w w1 := ((Below.refl _ _).alloc (Nat.le_refl _) _).trans (hb1.mono (by simp)); obtain ⟨x0, x1⟩ := cl2 X; clear hb1 X; have hfl := fl7 a b t
 have hlen : (firstL ⟨7, 0, a, b⟩ t).length = 3 := by rw [hfl]; simp
 go_upto_region 29 with (fail); refine wp_region_lit ?_; refine Zv ?_; refine wl_mku rfl (.tmp 50) (.tmp 50) rfl 3 (by omega) (by go_simp; try (simp only [IntKind.wrap_i64]; omega)) (by go_simp; try (simp only [IntKind.wrap_i64]; omega)) (fun w4 r X4 h4 f4 => ?_); refine Zk ?_; refine wl_val rfl (.slice (some ⟨r, 0, none⟩) 3 3) ?_ ?_
 ·go_simp
 refine Zk ?_; go_wp2_with (fail); go_ret; exact ⟨_, _, by rw [hlen]; rfl, by rw [hlen]; exact (Wd.row X4).congr fun i _ => by rw [hfl, pt_zero], hB.trans (h4.mono hB.size)⟩
theorem first_k8 (a b : Int) (t : Nat) (hR : RP ⟨8, 0, a, b⟩ t) (w : World) (h : NmW w) : Calls Tryz.prog 25 #[ov ⟨8, 0, a, b⟩, .int .i64 t] w fun e w' => ∃ V c, e = .returned (.slice V (firstL ⟨8, 0, a, b⟩ t).length c) ∧ Wd w' V (firstL ⟨8, 0, a, b⟩ t).length (pt (firstL ⟨8, 0, a, b⟩ t)) ∧ Below w.heap.size w w' := by
 have hr := rb_t hR
 have ht : 1 ≤ t ∧ t ≤ 8 := by have h1 := hR.1; have h2 := hR.2.1; omega
 have hO := objRight ⟨8, 0, a, b⟩ t; unfold ov at *; go_enter Tryz.func25, Tryz.ntmps25; go_wp2_with fail; refine (hO _ (h.below ((Below.refl _ _).alloc (Nat.le_refl _) _))).mono ?_; rintro e w1 ⟨rfl, hb1⟩; rw [hr]; clear hO hr hR; have X := keep (heap_alloc_new w (.cells #[.int .i64 8, .int .i64 0, .int .i64 a, .int .i64 b] 38)) hb1; have hB : Below w.heap.size w w1 := ((Below.refl _ _).alloc (Nat.le_refl _) _).trans (hb1.mono (by simp)); obtain ⟨x0, x1⟩ := cl2 X; clear hb1 X; have hfl := fl8 a b t
 have hlen : (firstL ⟨8, 0, a, b⟩ t).length = 4 := by rw [hfl]; simp
 go_upto_region 29 with (fail); refine wp_region_lit ?_; refine Zv ?_; refine wl_mku rfl (.tmp 50) (.tmp 50) rfl 4 (by omega) (by go_simp; try (simp only [IntKind.wrap_i64]; omega)) (by go_simp; try (simp only [IntKind.wrap_i64]; omega)) (fun w4 r X4 h4 f4 => ?_); refine Zk ?_; refine wl_val rfl (.slice (some ⟨r, 0, none⟩) 4 4) ?_ ?_
 ·go_simp
 refine Zk ?_; go_wp2_with (fail); go_ret; exact ⟨_, _, by rw [hlen]; rfl, by rw [hlen]; exact (Wd.row X4).congr fun i _ => by rw [hfl, pt_zero], hB.trans (h4.mono hB.size)⟩
theorem first_k9 (n : Nat) (a b : Int) (t : Nat) (hR : RP ⟨9, n, a, b⟩ t) (w : World) (h : NmW w) : Calls Tryz.prog 25 #[ov ⟨9, n, a, b⟩, .int .i64 t] w fun e w' => ∃ V c, e = .returned (.slice V (firstL ⟨9, n, a, b⟩ t).length c) ∧ Wd w' V (firstL ⟨9, n, a, b⟩ t).length (pt (firstL ⟨9, n, a, b⟩ t)) ∧ Below w.heap.size w w' := by
 have hr := rb_t hR
 have ht : 1 ≤ t ∧ t ≤ 8 := by have h1 := hR.1; have h2 := hR.2.1; omega
 have hn : 1 ≤ n ∧ n ≤ 3 := by have h3 := hR.2.2; simp only at h3; omega
 have hO := objRight ⟨9, n, a, b⟩ t; unfold ov at *; go_enter Tryz.func25, Tryz.ntmps25; go_wp2_with fail; refine (hO _ (h.below ((Below.refl _ _).alloc (Nat.le_refl _) _))).mono ?_; rintro e w1 ⟨rfl, hb1⟩; rw [hr]; clear hO hr hR; have X := keep (heap_alloc_new w (.cells #[.int .i64 9, .int .i64 n, .int .i64 a, .int .i64 b] 38)) hb1; have hB : Below w.heap.size w w1 := ((Below.refl _ _).alloc (Nat.le_refl _) _).trans (hb1.mono (by simp)); obtain ⟨x0, x1⟩ := cl2 X; clear hb1 X; have hfl := fl9 n a b t
 have hlen : (firstL ⟨9, n, a, b⟩ t).length = (2 + n) := by rw [hfl]; simp
 go_upto_region 29 with (fail); refine wp_region_lit ?_; refine Zv ?_; refine wl_mku rfl (.tmp 50) (.tmp 50) rfl (2 + n) (by omega) (by go_simp; try (simp only [IntKind.wrap_i64]; omega)) (by go_simp; try (simp only [IntKind.wrap_i64]; omega)) (fun w4 r X4 h4 f4 => ?_); refine Zk ?_; refine wl_val rfl (.slice (some ⟨r, 0, none⟩) (2 + n) (2 + n)) ?_ ?_
 ·go_simp
 refine Zk ?_; go_wp2_with (fail); go_ret; exact ⟨_, _, by rw [hlen]; rfl, by rw [hlen]; exact (Wd.row X4).congr fun i _ => by rw [hfl, pt_zero], hB.trans (h4.mono hB.size)⟩
theorem first_k10  (t : Nat) (hR : RP ⟨10, 0, 0, 0⟩ t) (w : World) (h : NmW w) : Calls Tryz.prog 25 #[ov ⟨10, 0, 0, 0⟩, .int .i64 t] w fun e w' => ∃ V c, e = .returned (.slice V (firstL ⟨10, 0, 0, 0⟩ t).length c) ∧ Wd w' V (firstL ⟨10, 0, 0, 0⟩ t).length (pt (firstL ⟨10, 0, 0, 0⟩ t)) ∧ Below w.heap.size w w' := by
 have hr := rb_t hR
 have ht : 1 ≤ t ∧ t ≤ 8 := by have h1 := hR.1; have h2 := hR.2.1; omega
 have hO := objRight ⟨10, 0, 0, 0⟩ t; unfold ov at *; go_enter Tryz.func25, Tryz.ntmps25; go_wp2_with fail; refine (hO _ (h.below ((Below.refl _ _).alloc (Nat.le_refl _) _))).mono ?_; rintro e w1 ⟨rfl, hb1⟩; rw [hr]; clear hO hr hR; have X := keep (heap_alloc_new w (.cells #[.int .i64 10, .int .i64 0, .int .i64 0, .int .i64 0] 38)) hb1; have hB : Below w.heap.size w w1 := ((Below.refl _ _).alloc (Nat.le_refl _) _).trans (hb1.mono (by simp)); obtain ⟨x0, x1⟩ := cl2 X; clear hb1 X; have hfl := fl10 t (by omega)
 have hlen : (firstL ⟨10, 0, 0, 0⟩ t).length = 2 := by rw [hfl]; simp
 go_upto_region 29 with (fail); refine wp_region_lit ?_; refine Zv ?_; refine wl_mku rfl (.tmp 50) (.tmp 50) rfl 2 (by omega) (by go_simp; try (simp only [IntKind.wrap_i64]; omega)) (by go_simp; try (simp only [IntKind.wrap_i64]; omega)) (fun w4 r X4 h4 f4 => ?_); refine Zk ?_; refine wl_val rfl (.slice (some ⟨r, 0, none⟩) 2 2) ?_ ?_
 ·go_simp
 refine Zk ?_; go_wp2_with (fail); go_ret; exact ⟨_, _, by rw [hlen]; rfl, by rw [hlen]; exact (Wd.row X4).congr fun i _ => by rw [hfl, pt_zero], hB.trans (h4.mono hB.size)⟩
theorem first_k11 (n a b : Int) (t : Nat) (hR : RP ⟨11, n, a, b⟩ t) (w : World) (h : NmW w) : Calls Tryz.prog 25 #[ov ⟨11, n, a, b⟩, .int .i64 t] w fun e w' => ∃ V c, e = .returned (.slice V (firstL ⟨11, n, a, b⟩ t).length c) ∧ Wd w' V (firstL ⟨11, n, a, b⟩ t).length (pt (firstL ⟨11, n, a, b⟩ t)) ∧ Below w.heap.size w w' := by
 have hr := rb_t hR
 have ht : 1 ≤ t ∧ t ≤ 8 := by have h1 := hR.1; have h2 := hR.2.1; omega
 have hn : 0 ≤ n ∧ n ≤ 1000 := by have h3 := hR.2.2; simp only at h3; omega
 have hwn : IntKind.u32.wrap n = n := by simp [IntKind.wrap, IntKind.bits, IntKind.signed]; omega
 have hO := objRight ⟨11, n, a, b⟩ t; unfold ov at *; go_enter Tryz.func25, Tryz.ntmps25; go_wp2_with fail; refine (hO _ (h.below ((Below.refl _ _).alloc (Nat.le_refl _) _))).mono ?_; rintro e w1 ⟨rfl, hb1⟩; rw [hr]; clear hO hr hR; have X := keep (heap_alloc_new w (.cells #[.int .i64 11, .int .i64 n, .int .i64 a, .int .i64 b] 38)) hb1; have hB : Below w.heap.size w w1 := ((Below.refl _ _).alloc (Nat.le_refl _) _).trans (hb1.mono (by simp)); obtain ⟨x0, x1⟩ := cl2 X; clear hb1 X; go_upto_region 21 with (fail); refine wp_region_lit ?_
 iterate 2 refine Zv ?_
 refine wl_val rfl (.int .u32 n) ?_ ?_
 ·go_simp; try rw [hwn]
 refine Zk ?_; refine wl_bu rfl (.tmp 39) rfl n rfl (fun w4 r X4 h4 => ?_); refine Zk ?_; refine wl_val rfl (.slice (some ⟨r, 0, none⟩) 1 1) ?_ ?_
 ·go_simp
 refine Zk ?_; go_wp2_with (fail); go_ret; exact ⟨_, _, rfl, Wd.row (w := w4) (b := r) (n := 1) (p := pt [n]) (by exact X4), hB.trans (h4.mono hB.size)⟩
theorem first_k12  (t : Nat) (hR : RP ⟨12, 0, 0, 0⟩ t) (w : World) (h : NmW w) : Calls Tryz.prog 25 #[ov ⟨12, 0, 0, 0⟩, .int .i64 t] w fun e w' => ∃ V c, e = .returned (.slice V (firstL ⟨12, 0, 0, 0⟩ t).length c) ∧ Wd w' V (firstL ⟨12, 0, 0, 0⟩ t).length (pt (firstL ⟨12, 0, 0, 0⟩ t)) ∧ Below w.heap.size w w' := by
 have hr := rb_t hR
 have ht : 1 ≤ t ∧ t ≤ 8 := by have h1 := hR.1; have h2 := hR.2.1; omega
 have hO := objRight ⟨12, 0, 0, 0⟩ t; unfold ov at *; go_enter Tryz.func25, Tryz.ntmps25; go_wp2_with fail; refine (hO _ (h.below ((Below.refl _ _).alloc (Nat.le_refl _) _))).mono ?_; rintro e w1 ⟨rfl, hb1⟩; rw [hr]; clear hO hr hR; have X := keep (heap_alloc_new w (.cells #[.int .i64 12, .int .i64 0, .int .i64 0, .int .i64 0] 38)) hb1; have hB : Below w.heap.size w w1 := ((Below.refl _ _).alloc (Nat.le_refl _) _).trans (hb1.mono (by simp)); obtain ⟨x0, x1⟩ := cl2 X; clear hb1 X; have hfl := fl12 t (by omega)
 have hlen : (firstL ⟨12, 0, 0, 0⟩ t).length = (1 + t) := by rw [hfl]; simp
 go_upto_region 29 with (fail); refine wp_region_lit ?_; refine Zv ?_; refine wl_mku rfl (.tmp 50) (.tmp 50) rfl (1 + t) (by omega) (by go_simp; try (simp only [IntKind.wrap_i64]; omega)) (by go_simp; try (simp only [IntKind.wrap_i64]; omega)) (fun w4 r X4 h4 f4 => ?_); refine Zk ?_; refine wl_val rfl (.slice (some ⟨r, 0, none⟩) (1 + t) (1 + t)) ?_ ?_
 ·go_simp
 refine Zk ?_; go_wp2_with (fail); go_ret; exact ⟨_, _, by rw [hlen]; rfl, by rw [hlen]; exact (Wd.row X4).congr fun i _ => by rw [hfl, pt_zero], hB.trans (h4.mono hB.size)⟩
theorem first_k13 (n a b : Int) (t : Nat) (hR : RP ⟨13, n, a, b⟩ t) (w : World) (h : NmW w) : Calls Tryz.prog 25 #[ov ⟨13, n, a, b⟩, .int .i64 t] w fun e w' => ∃ V c, e = .returned (.slice V (firstL ⟨13, n, a, b⟩ t).length c) ∧ Wd w' V (firstL ⟨13, n, a, b⟩ t).length (pt (firstL ⟨13, n, a, b⟩ t)) ∧ Below w.heap.size w w' := by
 have hr := rb_t hR
 have ht : 1 ≤ t ∧ t ≤ 8 := by have h1 := hR.1; have h2 := hR.2.1; omega
 have hO := objRight ⟨13, n, a, b⟩ t; unfold ov at *; go_enter Tryz.func25, Tryz.ntmps25; go_wp2_with fail; refine (hO _ (h.below ((Below.refl _ _).alloc (Nat.le_refl _) _))).mono ?_; rintro e w1 ⟨rfl, hb1⟩; rw [hr]; clear hO hr hR; have X := keep (heap_alloc_new w (.cells #[.int .i64 13, .int .i64 n, .int .i64 a, .int .i64 b] 38)) hb1; have hB : Below w.heap.size w w1 := ((Below.refl _ _).alloc (Nat.le_refl _) _).trans (hb1.mono (by simp)); obtain ⟨x0, x1⟩ := cl2 X; clear hb1 X; have hfl := fl13 n a b t
 have hlen : (firstL ⟨13, n, a, b⟩ t).length = 2 := by rw [hfl]; simp
 go_upto_region 29 with (fail); refine wp_region_lit ?_; refine Zv ?_; refine wl_mku rfl (.tmp 50) (.tmp 50) rfl 2 (by omega) (by go_simp; try (simp only [IntKind.wrap_i64]; omega)) (by go_simp; try (simp only [IntKind.wrap_i64]; omega)) (fun w4 r X4 h4 f4 => ?_); refine Zk ?_; refine wl_val rfl (.slice (some ⟨r, 0, none⟩) 2 2) ?_ ?_
 ·go_simp
 refine Zk ?_; go_wp2_with (fail); go_ret; exact ⟨_, _, by rw [hlen]; rfl, by rw [hlen]; exact (Wd.row X4).congr fun i _ => by rw [hfl, pt_zero], hB.trans (h4.mono hB.size)⟩
theorem first_k14  (t : Nat) (hR : RP ⟨14, 0, 0, 0⟩ t) (w : World) (h : NmW w) : Calls Tryz.prog 25 #[ov ⟨14, 0, 0, 0⟩, .int .i64 t] w fun e w' => ∃ V c, e = .returned (.slice V (firstL ⟨14, 0, 0, 0⟩ t).length c) ∧ Wd w' V (firstL ⟨14, 0, 0, 0⟩ t).length (pt (firstL ⟨14, 0, 0, 0⟩ t)) ∧ Below w.heap.size w w' := by
 have hr := rb_t hR
 have ht : 1 ≤ t ∧ t ≤ 8 := by have h1 := hR.1; have h2 := hR.2.1; omega
 have hO := objRight ⟨14, 0, 0, 0⟩ t; unfold ov at *; go_enter Tryz.func25, Tryz.ntmps25; go_wp2_with fail; refine (hO _ (h.below ((Below.refl _ _).alloc (Nat.le_refl _) _))).mono ?_; rintro e w1 ⟨rfl, hb1⟩; rw [hr]; clear hO hr hR; have X := keep (heap_alloc_new w (.cells #[.int .i64 14, .int .i64 0, .int .i64 0, .int .i64 0] 38)) hb1; have hB : Below w.heap.size w w1 := ((Below.refl _ _).alloc (Nat.le_refl _) _).trans (hb1.mono (by simp)); obtain ⟨x0, x1⟩ := cl2 X; clear hb1 X; have hfl := fl14 t (by omega)
 have hlen : (firstL ⟨14, 0, 0, 0⟩ t).length = (1 + t) := by rw [hfl]; simp
 go_upto_region 29 with (fail); refine wp_region_lit ?_; refine Zv ?_; refine wl_mku rfl (.tmp 50) (.tmp 50) rfl (1 + t) (by omega) (by go_simp; try (simp only [IntKind.wrap_i64]; omega)) (by go_simp; try (simp only [IntKind.wrap_i64]; omega)) (fun w4 r X4 h4 f4 => ?_); refine Zk ?_; refine wl_val rfl (.slice (some ⟨r, 0, none⟩) (1 + t) (1 + t)) ?_ ?_
 ·go_simp
 refine Zk ?_; go_wp2_with (fail); go_ret; exact ⟨_, _, by rw [hlen]; rfl, by rw [hlen]; exact (Wd.row X4).congr fun i _ => by rw [hfl, pt_zero], hB.trans (h4.mono hB.size)⟩
theorem first_k15  (t : Nat) (hR : RP ⟨15, 0, 0, 0⟩ t) (w : World) (h : NmW w) : Calls Tryz.prog 25 #[ov ⟨15, 0, 0, 0⟩, .int .i64 t] w fun e w' => ∃ V c, e = .returned (.slice V (firstL ⟨15, 0, 0, 0⟩ t).length c) ∧ Wd w' V (firstL ⟨15, 0, 0, 0⟩ t).length (pt (firstL ⟨15, 0, 0, 0⟩ t)) ∧ Below w.heap.size w w' := by
 have hr := rb_t hR
 have ht : 1 ≤ t ∧ t ≤ 8 := by have h1 := hR.1; have h2 := hR.2.1; omega
 have hO := objRight ⟨15, 0, 0, 0⟩ t; unfold ov at *; go_enter Tryz.func25, Tryz.ntmps25; go_wp2_with fail; refine (hO _ (h.below ((Below.refl _ _).alloc (Nat.le_refl _) _))).mono ?_; rintro e w1 ⟨rfl, hb1⟩; rw [hr]; clear hO hr hR; have X := keep (heap_alloc_new w (.cells #[.int .i64 15, .int .i64 0, .int .i64 0, .int .i64 0] 38)) hb1; have hB : Below w.heap.size w w1 := ((Below.refl _ _).alloc (Nat.le_refl _) _).trans (hb1.mono (by simp)); obtain ⟨x0, x1⟩ := cl2 X; clear hb1 X; have hfl := fl15 t (by omega)
 have hlen : (firstL ⟨15, 0, 0, 0⟩ t).length = 2 := by rw [hfl]; simp
 go_upto_region 29 with (fail); refine wp_region_lit ?_; refine Zv ?_; refine wl_mku rfl (.tmp 50) (.tmp 50) rfl 2 (by omega) (by go_simp; try (simp only [IntKind.wrap_i64]; omega)) (by go_simp; try (simp only [IntKind.wrap_i64]; omega)) (fun w4 r X4 h4 f4 => ?_); refine Zk ?_; refine wl_val rfl (.slice (some ⟨r, 0, none⟩) 2 2) ?_ ?_
 ·go_simp
 refine Zk ?_; go_wp2_with (fail); go_ret; exact ⟨_, _, by rw [hlen]; rfl, by rw [hlen]; exact (Wd.row X4).congr fun i _ => by rw [hfl, pt_zero], hB.trans (h4.mono hB.size)⟩
theorem objFirst (x : O) (t : Nat) (hR : RP x t) (w : World) (h : NmW w) : Calls Tryz.prog 25 #[ov x, .int .i64 t] w fun e w' => ∃ V c, e = .returned (.slice V (firstL x t).length c) ∧ Wd w' V (firstL x t).length (pt (firstL x t)) ∧ Below w.heap.size w w' := by
 obtain ⟨k, n, a, b⟩ := x; have h3 := hR.2.2; simp only at h3
 by_cases e1 : k = 1
 ·subst e1
  obtain rfl : n = 0 := by omega
  obtain rfl : a = 0 := by omega
  obtain rfl : b = 0 := by omega
  exact first_k1 t hR w h
 by_cases e2 : k = 2
 ·subst e2
  obtain rfl : n = 0 := by omega
  obtain rfl : a = 0 := by omega
  obtain rfl : b = 0 := by omega
  exact first_k2 t hR w h
 by_cases e3 : k = 3
 ·subst e3
  obtain rfl : n = 0 := by omega
  obtain rfl : a = 0 := by omega
  obtain rfl : b = 0 := by omega
  exact first_k3 t hR w h
 by_cases e4 : k = 4
 ·subst e4
  obtain rfl : n = 0 := by omega
  obtain rfl : a = 0 := by omega
  obtain rfl : b = 0 := by omega
  exact first_k4 t hR w h
 by_cases e5 : k = 5
 ·subst e5
  obtain rfl : n = 0 := by omega
  obtain rfl : a = 0 := by omega
  obtain rfl : b = 0 := by omega
  exact first_k5 t hR w h
 by_cases e6 : k = 6
 ·subst e6
  obtain rfl : n = 0 := by omega
  exact first_k6 a b t hR w h
 by_cases e7 : k = 7
 ·subst e7
  obtain rfl : n = 0 := by omega
  exact first_k7 a b t hR w h
 by_cases e8 : k = 8
 ·subst e8
  obtain rfl : n = 0 := by omega
  exact first_k8 a b t hR w h
 by_cases e9 : k = 9
 ·subst e9
  obtain ⟨n, rfl⟩ : ∃ j : Nat, n = j := ⟨n.toNat, by omega⟩; exact first_k9 n a b t hR w h
 by_cases e10 : k = 10
 ·subst e10
  obtain rfl : n = 0 := by omega
  obtain rfl : a = 0 := by omega
  obtain rfl : b = 0 := by omega
  exact first_k10 t hR w h
 by_cases e11 : k = 11
 ·subst e11
  exact first_k11 n a b t hR w h
 by_cases e12 : k = 12
 ·subst e12
  obtain rfl : n = 0 := by omega
  obtain rfl : a = 0 := by omega
  obtain rfl : b = 0 := by omega
  exact first_k12 t hR w h
 by_cases e13 : k = 13
 ·subst e13
  exact first_k13 n a b t hR w h
 by_cases e14 : k = 14
 ·subst e14
  obtain rfl : n = 0 := by omega
  obtain rfl : a = 0 := by omega
  obtain rfl : b = 0 := by omega
  exact first_k14 t hR w h
 by_cases e15 : k = 15
 ·subst e15
  obtain rfl : n = 0 := by omega
  obtain rfl : a = 0 := by omega
  obtain rfl : b = 0 := by omega
  exact first_k15 t hR w h
 omega
end Go.Proofs.YtbcgngfbbbfebaaGreatDoor
