/- What instructions there are: the tables in memory; Name, Jumps, Asks, Drains, Right. -/
import Derived.Test.YtbcgngfbbbfebaaGreatDoorM04
namespace Go.Proofs.YtbcgngfbbbfebaaGreatDoor
open Go.RowKit Go.Maps
set_option maxRecDepth 100000
set_option maxHeartbeats 32000000
set_option linter.unusedVariables false
set_option linter.unusedSimpArgs false
def useN : Nat → Int
 | 0 => 0
 | 1 => 17
 | 2 => 3
 | 3 => 7
 | 4 => 7
 | 5 => 7
 | 6 => 7
 | 7 => 7
 | 8 => 7
 | 9 => 7
 | 10 => 7
 | 11 => 7
 | 12 => 7
 | 13 => 32
 | 14 => 33
 | 15 => 33
 | 16 => 25
 | 17 => 25
 | 18 => 0
 | 19 => 25
 | 20 => 25
 | 21 => 29
 | 22 => 1
 | 23 => 25
 | 24 => 25
 | 25 => 0
 | 26 => 0
 | 27 => 17
 | _ => 0
def isaB : Nat → ByteArray
 | 0 => ⟨#[104, 97, 108, 116]⟩
 | 1 => ⟨#[115, 101, 116]⟩
 | 2 => ⟨#[109, 111, 118, 101]⟩
 | 3 => ⟨#[97, 100, 100]⟩
 | 4 => ⟨#[115, 117, 98]⟩
 | 5 => ⟨#[109, 117, 108]⟩
 | 6 => ⟨#[97, 110, 100]⟩
 | 7 => ⟨#[111, 114]⟩
 | 8 => ⟨#[120, 111, 114]⟩
 | 9 => ⟨#[115, 104, 108]⟩
 | 10 => ⟨#[115, 104, 114]⟩
 | 11 => ⟨#[108, 101, 115, 115]⟩
 | 12 => ⟨#[115, 97, 109, 101]⟩
 | 13 => ⟨#[106, 117, 109, 112]⟩
 | 14 => ⟨#[122, 101, 114, 111]⟩
 | 15 => ⟨#[115, 111, 109, 101]⟩
 | 16 => ⟨#[108, 111, 97, 100]⟩
 | 17 => ⟨#[115, 116, 111, 114, 101]⟩
 | 18 => ⟨#[102, 101, 110, 99, 101]⟩
 | 19 => ⟨#[115, 119, 97, 112]⟩
 | 20 => ⟨#[102, 101, 116, 99, 104]⟩
 | 21 => ⟨#[99, 97, 115]⟩
 | 22 => ⟨#[111, 117, 116]⟩
 | 23 => ⟨#[119, 97, 105, 116]⟩
 | 24 => ⟨#[119, 97, 107, 101]⟩
 | 25 => ⟨#[114, 101, 109, 111, 116, 101]⟩
 | 26 => ⟨#[121, 105, 101, 108, 100]⟩
 | 27 => ⟨#[109, 97, 114, 107]⟩
 | _ => ⟨#[]⟩
structure IsaW (w : World) : Prop where
 us : ∀ i : Nat, i < 28 → w.cell? ⟨0, i, none⟩ = some (.int .i64 (useN i))
 nm : ∀ i : Nat, i < 28 → w.cell? ⟨2, i, none⟩ = some (.string (isaB i))
theorem cell_lt {w : World} {b j : Nat} {v : Value} (h : w.cell? ⟨b, j, none⟩ = some v) : b < w.heap.size := by
 unfold World.cell? at h
 split at h
 ·rename_i h'; exact (Array.getElem?_eq_some_iff.1 h').1
 ·cases h
theorem IsaW.below {w w' : World} (h : IsaW w) (hb : Below w.heap.size w w') : IsaW w' :=
 ⟨fun i hi => (hb.cell (p := ⟨0, i, none⟩) (cell_lt (h.us 0 (by omega)))).trans (h.us i hi), fun i hi => (hb.cell (p := ⟨2, i, none⟩) (cell_lt (h.nm 0 (by omega)))).trans (h.nm i hi)⟩
theorem IsaW.pos {w : World} (h : IsaW w) : 2 < w.heap.size := cell_lt (h.nm 0 (by omega))
def isaName (op : Int) : ByteArray := if 0 ≤ op ∧ op < 28 then isaB op.toNat else ⟨#[]⟩
theorem nameC (op : Int) (w : World) (hW : IsaW w) : Calls Tryz.prog 78 #[.int .i64 op] w fun e w' => e = .returned (.string (isaName op)) ∧ w' = w := by
 unfold isaName
 by_cases h0 : op < 0
 ·rw [if_neg (by omega)]
  go_enter Tryz.func78, Tryz.ntmps78; go_wp2; go_ret; exact ⟨rfl, rfl⟩
 by_cases h1 : 28 ≤ op
 ·rw [if_neg (by omega)]
  go_enter Tryz.func78, Tryz.ntmps78; go_wp2; go_ret; exact ⟨rfl, rfl⟩
 rw [if_pos (by omega)]; obtain ⟨i, rfl⟩ : ∃ i : Nat, op = i := ⟨op.toNat, by omega⟩
 have hl0 : (0 : Int) ≤ i := by omega
 have hl1 : (i : Int) < 28 := by omega
 have c := hW.nm i (by omega); go_enter Tryz.func78, Tryz.ntmps78; go_wp2; go_ret; exact ⟨rfl, rfl⟩
def jumpB (op : Int) : Bool := decide (op = 13 ∨ op = 14 ∨ op = 15)
def asksB (op : Int) : Bool := decide (op = 16 ∨ op = 17 ∨ op = 19 ∨ op = 20 ∨ op = 21 ∨ op = 23 ∨ op = 24)
def drainB (op : Int) : Bool := decide (op = 18 ∨ op = 19 ∨ op = 20 ∨ op = 21 ∨ op = 23 ∨ op = 24 ∨ op = 25)
theorem jumpsC (op : Int) (w : World) (hW : IsaW w) : Calls Tryz.prog 94 #[.int .i64 op] w fun e w' => e = .returned (.bool (jumpB op)) ∧ w' = w := by
 by_cases h : 0 ≤ op ∧ op < 28
 ·obtain ⟨i, rfl⟩ : ∃ i : Nat, op = i := ⟨op.toNat, by omega⟩
  have hi : i = 0 ∨ i = 1 ∨ i = 2 ∨ i = 3 ∨ i = 4 ∨ i = 5 ∨ i = 6 ∨ i = 7 ∨ i = 8 ∨ i = 9 ∨ i = 10 ∨ i = 11 ∨ i = 12 ∨ i = 13 ∨ i = 14 ∨ i = 15 ∨ i = 16 ∨ i = 17 ∨ i = 18 ∨ i = 19 ∨ i = 20 ∨ i = 21 ∨ i = 22 ∨ i = 23 ∨ i = 24 ∨ i = 25 ∨ i = 26 ∨ i = 27 := by omega
  rcases hi with rfl | rfl | rfl | rfl | rfl | rfl | rfl | rfl | rfl | rfl | rfl | rfl | rfl | rfl | rfl | rfl | rfl | rfl | rfl | rfl | rfl | rfl | rfl | rfl | rfl | rfl | rfl | rfl
  ·show Calls Tryz.prog 94 #[.int .i64 0] w fun e w' => e = .returned (.bool false) ∧ w' = w
   have hn := nameC 0 w hW; have c := hW.us 0 (by omega); rw [show isaName 0 = ⟨#[104, 97, 108, 116]⟩ from rfl] at hn; rw [show useN 0 = 0 from rfl] at c; go_enter Tryz.func94, Tryz.ntmps94; go_wp2_with fail; refine hn.mono ?_; rintro e w' ⟨rfl, rfl⟩; go_wp2; go_ret; exact ⟨rfl, rfl⟩
  ·show Calls Tryz.prog 94 #[.int .i64 1] w fun e w' => e = .returned (.bool false) ∧ w' = w
   have hn := nameC 1 w hW; have c := hW.us 1 (by omega); rw [show isaName 1 = ⟨#[115, 101, 116]⟩ from rfl] at hn; rw [show useN 1 = 17 from rfl] at c; go_enter Tryz.func94, Tryz.ntmps94; go_wp2_with fail; refine hn.mono ?_; rintro e w' ⟨rfl, rfl⟩; go_wp2; go_ret; exact ⟨rfl, rfl⟩
  ·show Calls Tryz.prog 94 #[.int .i64 2] w fun e w' => e = .returned (.bool false) ∧ w' = w
   have hn := nameC 2 w hW; have c := hW.us 2 (by omega); rw [show isaName 2 = ⟨#[109, 111, 118, 101]⟩ from rfl] at hn; rw [show useN 2 = 3 from rfl] at c; go_enter Tryz.func94, Tryz.ntmps94; go_wp2_with fail; refine hn.mono ?_; rintro e w' ⟨rfl, rfl⟩; go_wp2; go_ret; exact ⟨rfl, rfl⟩
  ·show Calls Tryz.prog 94 #[.int .i64 3] w fun e w' => e = .returned (.bool false) ∧ w' = w
   have hn := nameC 3 w hW; have c := hW.us 3 (by omega); rw [show isaName 3 = ⟨#[97, 100, 100]⟩ from rfl] at hn; rw [show useN 3 = 7 from rfl] at c; go_enter Tryz.func94, Tryz.ntmps94; go_wp2_with fail; refine hn.mono ?_; rintro e w' ⟨rfl, rfl⟩; go_wp2; go_ret; exact ⟨rfl, rfl⟩
  ·show Calls Tryz.prog 94 #[.int .i64 4] w fun e w' => e = .returned (.bool false) ∧ w' = w
   have hn := nameC 4 w hW; have c := hW.us 4 (by omega); rw [show isaName 4 = ⟨#[115, 117, 98]⟩ from rfl] at hn; rw [show useN 4 = 7 from rfl] at c; go_enter Tryz.func94, Tryz.ntmps94; go_wp2_with fail; refine hn.mono ?_; rintro e w' ⟨rfl, rfl⟩; go_wp2; go_ret; exact ⟨rfl, rfl⟩
  ·show Calls Tryz.prog 94 #[.int .i64 5] w fun e w' => e = .returned (.bool false) ∧ w' = w
   have hn := nameC 5 w hW; have c := hW.us 5 (by omega); rw [show isaName 5 = ⟨#[109, 117, 108]⟩ from rfl] at hn; rw [show useN 5 = 7 from rfl] at c; go_enter Tryz.func94, Tryz.ntmps94; go_wp2_with fail; refine hn.mono ?_; rintro e w' ⟨rfl, rfl⟩; go_wp2; go_ret; exact ⟨rfl, rfl⟩
  ·show Calls Tryz.prog 94 #[.int .i64 6] w fun e w' => e = .returned (.bool false) ∧ w' = w
   have hn := nameC 6 w hW; have c := hW.us 6 (by omega); rw [show isaName 6 = ⟨#[97, 110, 100]⟩ from rfl] at hn; rw [show useN 6 = 7 from rfl] at c; go_enter Tryz.func94, Tryz.ntmps94; go_wp2_with fail; refine hn.mono ?_; rintro e w' ⟨rfl, rfl⟩; go_wp2; go_ret; exact ⟨rfl, rfl⟩
  ·show Calls Tryz.prog 94 #[.int .i64 7] w fun e w' => e = .returned (.bool false) ∧ w' = w
   have hn := nameC 7 w hW; have c := hW.us 7 (by omega); rw [show isaName 7 = ⟨#[111, 114]⟩ from rfl] at hn; rw [show useN 7 = 7 from rfl] at c; go_enter Tryz.func94, Tryz.ntmps94; go_wp2_with fail; refine hn.mono ?_; rintro e w' ⟨rfl, rfl⟩; go_wp2; go_ret; exact ⟨rfl, rfl⟩
  ·show Calls Tryz.prog 94 #[.int .i64 8] w fun e w' => e = .returned (.bool false) ∧ w' = w
   have hn := nameC 8 w hW; have c := hW.us 8 (by omega); rw [show isaName 8 = ⟨#[120, 111, 114]⟩ from rfl] at hn; rw [show useN 8 = 7 from rfl] at c; go_enter Tryz.func94, Tryz.ntmps94; go_wp2_with fail; refine hn.mono ?_; rintro e w' ⟨rfl, rfl⟩; go_wp2; go_ret; exact ⟨rfl, rfl⟩
  ·show Calls Tryz.prog 94 #[.int .i64 9] w fun e w' => e = .returned (.bool false) ∧ w' = w
   have hn := nameC 9 w hW; have c := hW.us 9 (by omega); rw [show isaName 9 = ⟨#[115, 104, 108]⟩ from rfl] at hn; rw [show useN 9 = 7 from rfl] at c; go_enter Tryz.func94, Tryz.ntmps94; go_wp2_with fail; refine hn.mono ?_; rintro e w' ⟨rfl, rfl⟩; go_wp2; go_ret; exact ⟨rfl, rfl⟩
  ·show Calls Tryz.prog 94 #[.int .i64 10] w fun e w' => e = .returned (.bool false) ∧ w' = w
   have hn := nameC 10 w hW; have c := hW.us 10 (by omega); rw [show isaName 10 = ⟨#[115, 104, 114]⟩ from rfl] at hn; rw [show useN 10 = 7 from rfl] at c; go_enter Tryz.func94, Tryz.ntmps94; go_wp2_with fail; refine hn.mono ?_; rintro e w' ⟨rfl, rfl⟩; go_wp2; go_ret; exact ⟨rfl, rfl⟩
  ·show Calls Tryz.prog 94 #[.int .i64 11] w fun e w' => e = .returned (.bool false) ∧ w' = w
   have hn := nameC 11 w hW; have c := hW.us 11 (by omega); rw [show isaName 11 = ⟨#[108, 101, 115, 115]⟩ from rfl] at hn; rw [show useN 11 = 7 from rfl] at c; go_enter Tryz.func94, Tryz.ntmps94; go_wp2_with fail; refine hn.mono ?_; rintro e w' ⟨rfl, rfl⟩; go_wp2; go_ret; exact ⟨rfl, rfl⟩
  ·show Calls Tryz.prog 94 #[.int .i64 12] w fun e w' => e = .returned (.bool false) ∧ w' = w
   have hn := nameC 12 w hW; have c := hW.us 12 (by omega); rw [show isaName 12 = ⟨#[115, 97, 109, 101]⟩ from rfl] at hn; rw [show useN 12 = 7 from rfl] at c; go_enter Tryz.func94, Tryz.ntmps94; go_wp2_with fail; refine hn.mono ?_; rintro e w' ⟨rfl, rfl⟩; go_wp2; go_ret; exact ⟨rfl, rfl⟩
  ·show Calls Tryz.prog 94 #[.int .i64 13] w fun e w' => e = .returned (.bool true) ∧ w' = w
   have hn := nameC 13 w hW; have c := hW.us 13 (by omega); rw [show isaName 13 = ⟨#[106, 117, 109, 112]⟩ from rfl] at hn; rw [show useN 13 = 32 from rfl] at c; go_enter Tryz.func94, Tryz.ntmps94; go_wp2_with fail; refine hn.mono ?_; rintro e w' ⟨rfl, rfl⟩; go_wp2; go_ret; exact ⟨rfl, rfl⟩
  ·show Calls Tryz.prog 94 #[.int .i64 14] w fun e w' => e = .returned (.bool true) ∧ w' = w
   have hn := nameC 14 w hW; have c := hW.us 14 (by omega); rw [show isaName 14 = ⟨#[122, 101, 114, 111]⟩ from rfl] at hn; rw [show useN 14 = 33 from rfl] at c; go_enter Tryz.func94, Tryz.ntmps94; go_wp2_with fail; refine hn.mono ?_; rintro e w' ⟨rfl, rfl⟩; go_wp2; go_ret; exact ⟨rfl, rfl⟩
  ·show Calls Tryz.prog 94 #[.int .i64 15] w fun e w' => e = .returned (.bool true) ∧ w' = w
   have hn := nameC 15 w hW; have c := hW.us 15 (by omega); rw [show isaName 15 = ⟨#[115, 111, 109, 101]⟩ from rfl] at hn; rw [show useN 15 = 33 from rfl] at c; go_enter Tryz.func94, Tryz.ntmps94; go_wp2_with fail; refine hn.mono ?_; rintro e w' ⟨rfl, rfl⟩; go_wp2; go_ret; exact ⟨rfl, rfl⟩
  ·show Calls Tryz.prog 94 #[.int .i64 16] w fun e w' => e = .returned (.bool false) ∧ w' = w
   have hn := nameC 16 w hW; have c := hW.us 16 (by omega); rw [show isaName 16 = ⟨#[108, 111, 97, 100]⟩ from rfl] at hn; rw [show useN 16 = 25 from rfl] at c; go_enter Tryz.func94, Tryz.ntmps94; go_wp2_with fail; refine hn.mono ?_; rintro e w' ⟨rfl, rfl⟩; go_wp2; go_ret; exact ⟨rfl, rfl⟩
  ·show Calls Tryz.prog 94 #[.int .i64 17] w fun e w' => e = .returned (.bool false) ∧ w' = w
   have hn := nameC 17 w hW; have c := hW.us 17 (by omega); rw [show isaName 17 = ⟨#[115, 116, 111, 114, 101]⟩ from rfl] at hn; rw [show useN 17 = 25 from rfl] at c; go_enter Tryz.func94, Tryz.ntmps94; go_wp2_with fail; refine hn.mono ?_; rintro e w' ⟨rfl, rfl⟩; go_wp2; go_ret; exact ⟨rfl, rfl⟩
  ·show Calls Tryz.prog 94 #[.int .i64 18] w fun e w' => e = .returned (.bool false) ∧ w' = w
   have hn := nameC 18 w hW; have c := hW.us 18 (by omega); rw [show isaName 18 = ⟨#[102, 101, 110, 99, 101]⟩ from rfl] at hn; rw [show useN 18 = 0 from rfl] at c; go_enter Tryz.func94, Tryz.ntmps94; go_wp2_with fail; refine hn.mono ?_; rintro e w' ⟨rfl, rfl⟩; go_wp2; go_ret; exact ⟨rfl, rfl⟩
  ·show Calls Tryz.prog 94 #[.int .i64 19] w fun e w' => e = .returned (.bool false) ∧ w' = w
   have hn := nameC 19 w hW; have c := hW.us 19 (by omega); rw [show isaName 19 = ⟨#[115, 119, 97, 112]⟩ from rfl] at hn; rw [show useN 19 = 25 from rfl] at c; go_enter Tryz.func94, Tryz.ntmps94; go_wp2_with fail; refine hn.mono ?_; rintro e w' ⟨rfl, rfl⟩; go_wp2; go_ret; exact ⟨rfl, rfl⟩
  ·show Calls Tryz.prog 94 #[.int .i64 20] w fun e w' => e = .returned (.bool false) ∧ w' = w
   have hn := nameC 20 w hW; have c := hW.us 20 (by omega); rw [show isaName 20 = ⟨#[102, 101, 116, 99, 104]⟩ from rfl] at hn; rw [show useN 20 = 25 from rfl] at c; go_enter Tryz.func94, Tryz.ntmps94; go_wp2_with fail; refine hn.mono ?_; rintro e w' ⟨rfl, rfl⟩; go_wp2; go_ret; exact ⟨rfl, rfl⟩
  ·show Calls Tryz.prog 94 #[.int .i64 21] w fun e w' => e = .returned (.bool false) ∧ w' = w
   have hn := nameC 21 w hW; have c := hW.us 21 (by omega); rw [show isaName 21 = ⟨#[99, 97, 115]⟩ from rfl] at hn; rw [show useN 21 = 29 from rfl] at c; go_enter Tryz.func94, Tryz.ntmps94; go_wp2_with fail; refine hn.mono ?_; rintro e w' ⟨rfl, rfl⟩; go_wp2; go_ret; exact ⟨rfl, rfl⟩
  ·show Calls Tryz.prog 94 #[.int .i64 22] w fun e w' => e = .returned (.bool false) ∧ w' = w
   have hn := nameC 22 w hW; have c := hW.us 22 (by omega); rw [show isaName 22 = ⟨#[111, 117, 116]⟩ from rfl] at hn; rw [show useN 22 = 1 from rfl] at c; go_enter Tryz.func94, Tryz.ntmps94; go_wp2_with fail; refine hn.mono ?_; rintro e w' ⟨rfl, rfl⟩; go_wp2; go_ret; exact ⟨rfl, rfl⟩
  ·show Calls Tryz.prog 94 #[.int .i64 23] w fun e w' => e = .returned (.bool false) ∧ w' = w
   have hn := nameC 23 w hW; have c := hW.us 23 (by omega); rw [show isaName 23 = ⟨#[119, 97, 105, 116]⟩ from rfl] at hn; rw [show useN 23 = 25 from rfl] at c; go_enter Tryz.func94, Tryz.ntmps94; go_wp2_with fail; refine hn.mono ?_; rintro e w' ⟨rfl, rfl⟩; go_wp2; go_ret; exact ⟨rfl, rfl⟩
  ·show Calls Tryz.prog 94 #[.int .i64 24] w fun e w' => e = .returned (.bool false) ∧ w' = w
   have hn := nameC 24 w hW; have c := hW.us 24 (by omega); rw [show isaName 24 = ⟨#[119, 97, 107, 101]⟩ from rfl] at hn; rw [show useN 24 = 25 from rfl] at c; go_enter Tryz.func94, Tryz.ntmps94; go_wp2_with fail; refine hn.mono ?_; rintro e w' ⟨rfl, rfl⟩; go_wp2; go_ret; exact ⟨rfl, rfl⟩
  ·show Calls Tryz.prog 94 #[.int .i64 25] w fun e w' => e = .returned (.bool false) ∧ w' = w
   have hn := nameC 25 w hW; have c := hW.us 25 (by omega); rw [show isaName 25 = ⟨#[114, 101, 109, 111, 116, 101]⟩ from rfl] at hn; rw [show useN 25 = 0 from rfl] at c; go_enter Tryz.func94, Tryz.ntmps94; go_wp2_with fail; refine hn.mono ?_; rintro e w' ⟨rfl, rfl⟩; go_wp2; go_ret; exact ⟨rfl, rfl⟩
  ·show Calls Tryz.prog 94 #[.int .i64 26] w fun e w' => e = .returned (.bool false) ∧ w' = w
   have hn := nameC 26 w hW; have c := hW.us 26 (by omega); rw [show isaName 26 = ⟨#[121, 105, 101, 108, 100]⟩ from rfl] at hn; rw [show useN 26 = 0 from rfl] at c; go_enter Tryz.func94, Tryz.ntmps94; go_wp2_with fail; refine hn.mono ?_; rintro e w' ⟨rfl, rfl⟩; go_wp2; go_ret; exact ⟨rfl, rfl⟩
  ·show Calls Tryz.prog 94 #[.int .i64 27] w fun e w' => e = .returned (.bool false) ∧ w' = w
   have hn := nameC 27 w hW; have c := hW.us 27 (by omega); rw [show isaName 27 = ⟨#[109, 97, 114, 107]⟩ from rfl] at hn; rw [show useN 27 = 17 from rfl] at c; go_enter Tryz.func94, Tryz.ntmps94; go_wp2_with fail; refine hn.mono ?_; rintro e w' ⟨rfl, rfl⟩; go_wp2; go_ret; exact ⟨rfl, rfl⟩
 ·have e : jumpB op = false := by unfold jumpB; rw [decide_eq_false]; omega
  rw [e]; have hn := nameC op w hW; rw [show isaName op = ⟨#[]⟩ from if_neg h] at hn; clear h e; go_enter Tryz.func94, Tryz.ntmps94; go_wp2_with fail; refine hn.mono ?_; rintro e w' ⟨rfl, rfl⟩; go_wp2; go_ret; exact ⟨rfl, rfl⟩
theorem asksC (op : Int) (w : World) (hW : IsaW w) : Calls Tryz.prog 98 #[.int .i64 op] w fun e w' => e = .returned (.bool (asksB op)) ∧ w' = w := by
 by_cases h : 0 ≤ op ∧ op < 28
 ·obtain ⟨i, rfl⟩ : ∃ i : Nat, op = i := ⟨op.toNat, by omega⟩
  have hi : i = 0 ∨ i = 1 ∨ i = 2 ∨ i = 3 ∨ i = 4 ∨ i = 5 ∨ i = 6 ∨ i = 7 ∨ i = 8 ∨ i = 9 ∨ i = 10 ∨ i = 11 ∨ i = 12 ∨ i = 13 ∨ i = 14 ∨ i = 15 ∨ i = 16 ∨ i = 17 ∨ i = 18 ∨ i = 19 ∨ i = 20 ∨ i = 21 ∨ i = 22 ∨ i = 23 ∨ i = 24 ∨ i = 25 ∨ i = 26 ∨ i = 27 := by omega
  rcases hi with rfl | rfl | rfl | rfl | rfl | rfl | rfl | rfl | rfl | rfl | rfl | rfl | rfl | rfl | rfl | rfl | rfl | rfl | rfl | rfl | rfl | rfl | rfl | rfl | rfl | rfl | rfl | rfl
  ·show Calls Tryz.prog 98 #[.int .i64 0] w fun e w' => e = .returned (.bool false) ∧ w' = w
   have hn := nameC 0 w hW; have c := hW.us 0 (by omega); rw [show isaName 0 = ⟨#[104, 97, 108, 116]⟩ from rfl] at hn; rw [show useN 0 = 0 from rfl] at c; go_enter Tryz.func98, Tryz.ntmps98; go_wp2_with fail; refine hn.mono ?_; rintro e w' ⟨rfl, rfl⟩; go_wp2; go_ret; exact ⟨rfl, rfl⟩
  ·show Calls Tryz.prog 98 #[.int .i64 1] w fun e w' => e = .returned (.bool false) ∧ w' = w
   have hn := nameC 1 w hW; have c := hW.us 1 (by omega); rw [show isaName 1 = ⟨#[115, 101, 116]⟩ from rfl] at hn; rw [show useN 1 = 17 from rfl] at c; go_enter Tryz.func98, Tryz.ntmps98; go_wp2_with fail; refine hn.mono ?_; rintro e w' ⟨rfl, rfl⟩; go_wp2; go_ret; exact ⟨rfl, rfl⟩
  ·show Calls Tryz.prog 98 #[.int .i64 2] w fun e w' => e = .returned (.bool false) ∧ w' = w
   have hn := nameC 2 w hW; have c := hW.us 2 (by omega); rw [show isaName 2 = ⟨#[109, 111, 118, 101]⟩ from rfl] at hn; rw [show useN 2 = 3 from rfl] at c; go_enter Tryz.func98, Tryz.ntmps98; go_wp2_with fail; refine hn.mono ?_; rintro e w' ⟨rfl, rfl⟩; go_wp2; go_ret; exact ⟨rfl, rfl⟩
  ·show Calls Tryz.prog 98 #[.int .i64 3] w fun e w' => e = .returned (.bool false) ∧ w' = w
   have hn := nameC 3 w hW; have c := hW.us 3 (by omega); rw [show isaName 3 = ⟨#[97, 100, 100]⟩ from rfl] at hn; rw [show useN 3 = 7 from rfl] at c; go_enter Tryz.func98, Tryz.ntmps98; go_wp2_with fail; refine hn.mono ?_; rintro e w' ⟨rfl, rfl⟩; go_wp2; go_ret; exact ⟨rfl, rfl⟩
  ·show Calls Tryz.prog 98 #[.int .i64 4] w fun e w' => e = .returned (.bool false) ∧ w' = w
   have hn := nameC 4 w hW; have c := hW.us 4 (by omega); rw [show isaName 4 = ⟨#[115, 117, 98]⟩ from rfl] at hn; rw [show useN 4 = 7 from rfl] at c; go_enter Tryz.func98, Tryz.ntmps98; go_wp2_with fail; refine hn.mono ?_; rintro e w' ⟨rfl, rfl⟩; go_wp2; go_ret; exact ⟨rfl, rfl⟩
  ·show Calls Tryz.prog 98 #[.int .i64 5] w fun e w' => e = .returned (.bool false) ∧ w' = w
   have hn := nameC 5 w hW; have c := hW.us 5 (by omega); rw [show isaName 5 = ⟨#[109, 117, 108]⟩ from rfl] at hn; rw [show useN 5 = 7 from rfl] at c; go_enter Tryz.func98, Tryz.ntmps98; go_wp2_with fail; refine hn.mono ?_; rintro e w' ⟨rfl, rfl⟩; go_wp2; go_ret; exact ⟨rfl, rfl⟩
  ·show Calls Tryz.prog 98 #[.int .i64 6] w fun e w' => e = .returned (.bool false) ∧ w' = w
   have hn := nameC 6 w hW; have c := hW.us 6 (by omega); rw [show isaName 6 = ⟨#[97, 110, 100]⟩ from rfl] at hn; rw [show useN 6 = 7 from rfl] at c; go_enter Tryz.func98, Tryz.ntmps98; go_wp2_with fail; refine hn.mono ?_; rintro e w' ⟨rfl, rfl⟩; go_wp2; go_ret; exact ⟨rfl, rfl⟩
  ·show Calls Tryz.prog 98 #[.int .i64 7] w fun e w' => e = .returned (.bool false) ∧ w' = w
   have hn := nameC 7 w hW; have c := hW.us 7 (by omega); rw [show isaName 7 = ⟨#[111, 114]⟩ from rfl] at hn; rw [show useN 7 = 7 from rfl] at c; go_enter Tryz.func98, Tryz.ntmps98; go_wp2_with fail; refine hn.mono ?_; rintro e w' ⟨rfl, rfl⟩; go_wp2; go_ret; exact ⟨rfl, rfl⟩
  ·show Calls Tryz.prog 98 #[.int .i64 8] w fun e w' => e = .returned (.bool false) ∧ w' = w
   have hn := nameC 8 w hW; have c := hW.us 8 (by omega); rw [show isaName 8 = ⟨#[120, 111, 114]⟩ from rfl] at hn; rw [show useN 8 = 7 from rfl] at c; go_enter Tryz.func98, Tryz.ntmps98; go_wp2_with fail; refine hn.mono ?_; rintro e w' ⟨rfl, rfl⟩; go_wp2; go_ret; exact ⟨rfl, rfl⟩
  ·show Calls Tryz.prog 98 #[.int .i64 9] w fun e w' => e = .returned (.bool false) ∧ w' = w
   have hn := nameC 9 w hW; have c := hW.us 9 (by omega); rw [show isaName 9 = ⟨#[115, 104, 108]⟩ from rfl] at hn; rw [show useN 9 = 7 from rfl] at c; go_enter Tryz.func98, Tryz.ntmps98; go_wp2_with fail; refine hn.mono ?_; rintro e w' ⟨rfl, rfl⟩; go_wp2; go_ret; exact ⟨rfl, rfl⟩
  ·show Calls Tryz.prog 98 #[.int .i64 10] w fun e w' => e = .returned (.bool false) ∧ w' = w
   have hn := nameC 10 w hW; have c := hW.us 10 (by omega); rw [show isaName 10 = ⟨#[115, 104, 114]⟩ from rfl] at hn; rw [show useN 10 = 7 from rfl] at c; go_enter Tryz.func98, Tryz.ntmps98; go_wp2_with fail; refine hn.mono ?_; rintro e w' ⟨rfl, rfl⟩; go_wp2; go_ret; exact ⟨rfl, rfl⟩
  ·show Calls Tryz.prog 98 #[.int .i64 11] w fun e w' => e = .returned (.bool false) ∧ w' = w
   have hn := nameC 11 w hW; have c := hW.us 11 (by omega); rw [show isaName 11 = ⟨#[108, 101, 115, 115]⟩ from rfl] at hn; rw [show useN 11 = 7 from rfl] at c; go_enter Tryz.func98, Tryz.ntmps98; go_wp2_with fail; refine hn.mono ?_; rintro e w' ⟨rfl, rfl⟩; go_wp2; go_ret; exact ⟨rfl, rfl⟩
  ·show Calls Tryz.prog 98 #[.int .i64 12] w fun e w' => e = .returned (.bool false) ∧ w' = w
   have hn := nameC 12 w hW; have c := hW.us 12 (by omega); rw [show isaName 12 = ⟨#[115, 97, 109, 101]⟩ from rfl] at hn; rw [show useN 12 = 7 from rfl] at c; go_enter Tryz.func98, Tryz.ntmps98; go_wp2_with fail; refine hn.mono ?_; rintro e w' ⟨rfl, rfl⟩; go_wp2; go_ret; exact ⟨rfl, rfl⟩
  ·show Calls Tryz.prog 98 #[.int .i64 13] w fun e w' => e = .returned (.bool false) ∧ w' = w
   have hn := nameC 13 w hW; have c := hW.us 13 (by omega); rw [show isaName 13 = ⟨#[106, 117, 109, 112]⟩ from rfl] at hn; rw [show useN 13 = 32 from rfl] at c; go_enter Tryz.func98, Tryz.ntmps98; go_wp2_with fail; refine hn.mono ?_; rintro e w' ⟨rfl, rfl⟩; go_wp2; go_ret; exact ⟨rfl, rfl⟩
  ·show Calls Tryz.prog 98 #[.int .i64 14] w fun e w' => e = .returned (.bool false) ∧ w' = w
   have hn := nameC 14 w hW; have c := hW.us 14 (by omega); rw [show isaName 14 = ⟨#[122, 101, 114, 111]⟩ from rfl] at hn; rw [show useN 14 = 33 from rfl] at c; go_enter Tryz.func98, Tryz.ntmps98; go_wp2_with fail; refine hn.mono ?_; rintro e w' ⟨rfl, rfl⟩; go_wp2; go_ret; exact ⟨rfl, rfl⟩
  ·show Calls Tryz.prog 98 #[.int .i64 15] w fun e w' => e = .returned (.bool false) ∧ w' = w
   have hn := nameC 15 w hW; have c := hW.us 15 (by omega); rw [show isaName 15 = ⟨#[115, 111, 109, 101]⟩ from rfl] at hn; rw [show useN 15 = 33 from rfl] at c; go_enter Tryz.func98, Tryz.ntmps98; go_wp2_with fail; refine hn.mono ?_; rintro e w' ⟨rfl, rfl⟩; go_wp2; go_ret; exact ⟨rfl, rfl⟩
  ·show Calls Tryz.prog 98 #[.int .i64 16] w fun e w' => e = .returned (.bool true) ∧ w' = w
   have hn := nameC 16 w hW; have c := hW.us 16 (by omega); rw [show isaName 16 = ⟨#[108, 111, 97, 100]⟩ from rfl] at hn; rw [show useN 16 = 25 from rfl] at c; go_enter Tryz.func98, Tryz.ntmps98; go_wp2_with fail; refine hn.mono ?_; rintro e w' ⟨rfl, rfl⟩; go_wp2; go_ret; exact ⟨rfl, rfl⟩
  ·show Calls Tryz.prog 98 #[.int .i64 17] w fun e w' => e = .returned (.bool true) ∧ w' = w
   have hn := nameC 17 w hW; have c := hW.us 17 (by omega); rw [show isaName 17 = ⟨#[115, 116, 111, 114, 101]⟩ from rfl] at hn; rw [show useN 17 = 25 from rfl] at c; go_enter Tryz.func98, Tryz.ntmps98; go_wp2_with fail; refine hn.mono ?_; rintro e w' ⟨rfl, rfl⟩; go_wp2; go_ret; exact ⟨rfl, rfl⟩
  ·show Calls Tryz.prog 98 #[.int .i64 18] w fun e w' => e = .returned (.bool false) ∧ w' = w
   have hn := nameC 18 w hW; have c := hW.us 18 (by omega); rw [show isaName 18 = ⟨#[102, 101, 110, 99, 101]⟩ from rfl] at hn; rw [show useN 18 = 0 from rfl] at c; go_enter Tryz.func98, Tryz.ntmps98; go_wp2_with fail; refine hn.mono ?_; rintro e w' ⟨rfl, rfl⟩; go_wp2; go_ret; exact ⟨rfl, rfl⟩
  ·show Calls Tryz.prog 98 #[.int .i64 19] w fun e w' => e = .returned (.bool true) ∧ w' = w
   have hn := nameC 19 w hW; have c := hW.us 19 (by omega); rw [show isaName 19 = ⟨#[115, 119, 97, 112]⟩ from rfl] at hn; rw [show useN 19 = 25 from rfl] at c; go_enter Tryz.func98, Tryz.ntmps98; go_wp2_with fail; refine hn.mono ?_; rintro e w' ⟨rfl, rfl⟩; go_wp2; go_ret; exact ⟨rfl, rfl⟩
  ·show Calls Tryz.prog 98 #[.int .i64 20] w fun e w' => e = .returned (.bool true) ∧ w' = w
   have hn := nameC 20 w hW; have c := hW.us 20 (by omega); rw [show isaName 20 = ⟨#[102, 101, 116, 99, 104]⟩ from rfl] at hn; rw [show useN 20 = 25 from rfl] at c; go_enter Tryz.func98, Tryz.ntmps98; go_wp2_with fail; refine hn.mono ?_; rintro e w' ⟨rfl, rfl⟩; go_wp2; go_ret; exact ⟨rfl, rfl⟩
  ·show Calls Tryz.prog 98 #[.int .i64 21] w fun e w' => e = .returned (.bool true) ∧ w' = w
   have hn := nameC 21 w hW; have c := hW.us 21 (by omega); rw [show isaName 21 = ⟨#[99, 97, 115]⟩ from rfl] at hn; rw [show useN 21 = 29 from rfl] at c; go_enter Tryz.func98, Tryz.ntmps98; go_wp2_with fail; refine hn.mono ?_; rintro e w' ⟨rfl, rfl⟩; go_wp2; go_ret; exact ⟨rfl, rfl⟩
  ·show Calls Tryz.prog 98 #[.int .i64 22] w fun e w' => e = .returned (.bool false) ∧ w' = w
   have hn := nameC 22 w hW; have c := hW.us 22 (by omega); rw [show isaName 22 = ⟨#[111, 117, 116]⟩ from rfl] at hn; rw [show useN 22 = 1 from rfl] at c; go_enter Tryz.func98, Tryz.ntmps98; go_wp2_with fail; refine hn.mono ?_; rintro e w' ⟨rfl, rfl⟩; go_wp2; go_ret; exact ⟨rfl, rfl⟩
  ·show Calls Tryz.prog 98 #[.int .i64 23] w fun e w' => e = .returned (.bool true) ∧ w' = w
   have hn := nameC 23 w hW; have c := hW.us 23 (by omega); rw [show isaName 23 = ⟨#[119, 97, 105, 116]⟩ from rfl] at hn; rw [show useN 23 = 25 from rfl] at c; go_enter Tryz.func98, Tryz.ntmps98; go_wp2_with fail; refine hn.mono ?_; rintro e w' ⟨rfl, rfl⟩; go_wp2; go_ret; exact ⟨rfl, rfl⟩
  ·show Calls Tryz.prog 98 #[.int .i64 24] w fun e w' => e = .returned (.bool true) ∧ w' = w
   have hn := nameC 24 w hW; have c := hW.us 24 (by omega); rw [show isaName 24 = ⟨#[119, 97, 107, 101]⟩ from rfl] at hn; rw [show useN 24 = 25 from rfl] at c; go_enter Tryz.func98, Tryz.ntmps98; go_wp2_with fail; refine hn.mono ?_; rintro e w' ⟨rfl, rfl⟩; go_wp2; go_ret; exact ⟨rfl, rfl⟩
  ·show Calls Tryz.prog 98 #[.int .i64 25] w fun e w' => e = .returned (.bool false) ∧ w' = w
   have hn := nameC 25 w hW; have c := hW.us 25 (by omega); rw [show isaName 25 = ⟨#[114, 101, 109, 111, 116, 101]⟩ from rfl] at hn; rw [show useN 25 = 0 from rfl] at c; go_enter Tryz.func98, Tryz.ntmps98; go_wp2_with fail; refine hn.mono ?_; rintro e w' ⟨rfl, rfl⟩; go_wp2; go_ret; exact ⟨rfl, rfl⟩
  ·show Calls Tryz.prog 98 #[.int .i64 26] w fun e w' => e = .returned (.bool false) ∧ w' = w
   have hn := nameC 26 w hW; have c := hW.us 26 (by omega); rw [show isaName 26 = ⟨#[121, 105, 101, 108, 100]⟩ from rfl] at hn; rw [show useN 26 = 0 from rfl] at c; go_enter Tryz.func98, Tryz.ntmps98; go_wp2_with fail; refine hn.mono ?_; rintro e w' ⟨rfl, rfl⟩; go_wp2; go_ret; exact ⟨rfl, rfl⟩
  ·show Calls Tryz.prog 98 #[.int .i64 27] w fun e w' => e = .returned (.bool false) ∧ w' = w
   have hn := nameC 27 w hW; have c := hW.us 27 (by omega); rw [show isaName 27 = ⟨#[109, 97, 114, 107]⟩ from rfl] at hn; rw [show useN 27 = 17 from rfl] at c; go_enter Tryz.func98, Tryz.ntmps98; go_wp2_with fail; refine hn.mono ?_; rintro e w' ⟨rfl, rfl⟩; go_wp2; go_ret; exact ⟨rfl, rfl⟩
 ·have e : asksB op = false := by unfold asksB; rw [decide_eq_false]; omega
  rw [e]; have hn := nameC op w hW; rw [show isaName op = ⟨#[]⟩ from if_neg h] at hn; clear h e; go_enter Tryz.func98, Tryz.ntmps98; go_wp2_with fail; refine hn.mono ?_; rintro e w' ⟨rfl, rfl⟩; go_wp2; go_ret; exact ⟨rfl, rfl⟩
theorem drainsC (op : Int) (w : World) : Calls Tryz.prog 100 #[.int .i64 op] w fun e w' => e = .returned (.bool (drainB op)) ∧ w' = w := by
 by_cases h18 : op = 18
 ·subst h18
  show Calls Tryz.prog 100 #[.int .i64 18] w fun e w' => e = .returned (.bool true) ∧ w' = w; go_enter Tryz.func100, Tryz.ntmps100; go_wp2; go_ret; exact ⟨rfl, rfl⟩
 ·by_cases h19 : op = 19
  ·subst h19
   show Calls Tryz.prog 100 #[.int .i64 19] w fun e w' => e = .returned (.bool true) ∧ w' = w; go_enter Tryz.func100, Tryz.ntmps100; go_wp2; go_ret; exact ⟨rfl, rfl⟩
  ·by_cases h20 : op = 20
   ·subst h20
    show Calls Tryz.prog 100 #[.int .i64 20] w fun e w' => e = .returned (.bool true) ∧ w' = w; go_enter Tryz.func100, Tryz.ntmps100; go_wp2; go_ret; exact ⟨rfl, rfl⟩
   ·by_cases h21 : op = 21
    ·subst h21
     show Calls Tryz.prog 100 #[.int .i64 21] w fun e w' => e = .returned (.bool true) ∧ w' = w; go_enter Tryz.func100, Tryz.ntmps100; go_wp2; go_ret; exact ⟨rfl, rfl⟩
    ·by_cases h23 : op = 23
     ·subst h23
      show Calls Tryz.prog 100 #[.int .i64 23] w fun e w' => e = .returned (.bool true) ∧ w' = w; go_enter Tryz.func100, Tryz.ntmps100; go_wp2; go_ret; exact ⟨rfl, rfl⟩
     ·by_cases h24 : op = 24
      ·subst h24
       show Calls Tryz.prog 100 #[.int .i64 24] w fun e w' => e = .returned (.bool true) ∧ w' = w; go_enter Tryz.func100, Tryz.ntmps100; go_wp2; go_ret; exact ⟨rfl, rfl⟩
      ·by_cases h25 : op = 25
       ·subst h25
        show Calls Tryz.prog 100 #[.int .i64 25] w fun e w' => e = .returned (.bool true) ∧ w' = w; go_enter Tryz.func100, Tryz.ntmps100; go_wp2; go_ret; exact ⟨rfl, rfl⟩
       ·have e : drainB op = false := by unfold drainB; rw [decide_eq_false]; omega
        rw [e]
        have q18 : (op == 18) = false := by simp [h18]
        have q19 : (op == 19) = false := by simp [h19]
        have q20 : (op == 20) = false := by simp [h20]
        have q21 : (op == 21) = false := by simp [h21]
        have q23 : (op == 23) = false := by simp [h23]
        have q24 : (op == 24) = false := by simp [h24]
        have q25 : (op == 25) = false := by simp [h25]
        clear e h18 h19 h20 h21 h23 h24 h25; go_enter Tryz.func100, Tryz.ntmps100; go_wp2; go_ret; exact ⟨rfl, rfl⟩
end Go.Proofs.YtbcgngfbbbfebaaGreatDoor
