/- Right: may an instruction be. Words: what an operation makes of two. -/
import Derived.Test.YtbcgngfbbbfebaaGreatDoorM05
namespace Go.Proofs.YtbcgngfbbbfebaaGreatDoor
open Go.RowKit Go.Maps
set_option maxRecDepth 100000
set_option maxHeartbeats 32000000
set_option linter.unusedVariables false
set_option linter.unusedSimpArgs false
def fldB (n : Int) (used : Bool) (most : Int) : Bool := if used = true then decide (0 ≤ n ∧ n ≤ most) else n == 0
theorem fieldC (n : Int) (used : Bool) (most : Int) (w : World) : Calls Tryz.prog 79 #[.int .i64 n, .bool used, .int .i64 most] w fun e w' => e = .returned (.bool (fldB n used most)) ∧ w' = w := by
 unfold fldB; cases used
 ·rw [if_neg Bool.false_ne_true]
  go_enter Tryz.func79, Tryz.ntmps79; go_wp2; go_ret; exact ⟨rfl, rfl⟩
 rw [if_pos rfl]
 by_cases h0 : 0 ≤ n
 ·by_cases h1 : n ≤ most
  ·rw [decide_eq_true (⟨h0, h1⟩ : 0 ≤ n ∧ n ≤ most)]
   go_enter Tryz.func79, Tryz.ntmps79; go_wp2; go_ret; exact ⟨rfl, rfl⟩
  ·rw [decide_eq_false (fun h => h1 h.2 : ¬ (0 ≤ n ∧ n ≤ most))]
   go_enter Tryz.func79, Tryz.ntmps79; go_wp2; go_ret; exact ⟨rfl, rfl⟩
 ·rw [decide_eq_false (fun h => h0 h.1 : ¬ (0 ≤ n ∧ n ≤ most))]
  go_enter Tryz.func79, Tryz.ntmps79; go_wp2; go_ret; exact ⟨rfl, rfl⟩
def tb (u : Int) (k : Nat) : Bool := u.toNat.testBit k
def rightU (u a b c k size : Int) : Bool := fldB a (tb u 0) 7 && (fldB b (tb u 1 || tb u 3) (if tb u 3 = true then 8 else 7) && (fldB c (tb u 2) 7 && (if tb u 5 = true then decide (k ≤ size) else (tb u 4 || k == 0))))
def rightB (x : Ins) (size : Int) : Bool := if 0 ≤ x.op ∧ x.op < 28 then rightU (useN x.op.toNat) x.a x.b x.c x.k size else false
theorem use_vals : ∀ i, i < 28 → useN i = 0 ∨ useN i = 17 ∨ useN i = 3 ∨ useN i = 7 ∨ useN i = 32 ∨ useN i = 33 ∨ useN i = 25 ∨ useN i = 29 ∨ useN i = 1 := by decide
theorem isa_list : ∀ i, i < 28 → (isaB i).toList.isEmpty = false
 | 0, _ => by kernel_rfl
 | 1, _ => by kernel_rfl
 | 2, _ => by kernel_rfl
 | 3, _ => by kernel_rfl
 | 4, _ => by kernel_rfl
 | 5, _ => by kernel_rfl
 | 6, _ => by kernel_rfl
 | 7, _ => by kernel_rfl
 | 8, _ => by kernel_rfl
 | 9, _ => by kernel_rfl
 | 10, _ => by kernel_rfl
 | 11, _ => by kernel_rfl
 | 12, _ => by kernel_rfl
 | 13, _ => by kernel_rfl
 | 14, _ => by kernel_rfl
 | 15, _ => by kernel_rfl
 | 16, _ => by kernel_rfl
 | 17, _ => by kernel_rfl
 | 18, _ => by kernel_rfl
 | 19, _ => by kernel_rfl
 | 20, _ => by kernel_rfl
 | 21, _ => by kernel_rfl
 | 22, _ => by kernel_rfl
 | 23, _ => by kernel_rfl
 | 24, _ => by kernel_rfl
 | 25, _ => by kernel_rfl
 | 26, _ => by kernel_rfl
 | 27, _ => by kernel_rfl
 | i + 28, h => absurd h (by omega)
theorem isaRight (x : Ins) (size : Int) (hk : 0 ≤ x.k ∧ x.k < 4294967296) (hs : 0 ≤ size ∧ size ≤ 1000000) (w : World) (hW : IsaW w) : Calls Tryz.prog 58 #[insV x, .int .i64 size] w fun e w' => e = .returned (.bool (rightB x size)) ∧ Below w.heap.size w w' := by
 obtain ⟨op, a, b, c, k⟩ := x; simp only at hk; obtain ⟨k0, k1⟩ := hk; obtain ⟨s0, s1⟩ := hs; unfold insV insC
 by_cases h : 0 ≤ op ∧ op < 28
 case neg =>
  rw [show rightB ⟨op, a, b, c, k⟩ size = false from if_neg h]; have hn := fun w' (hb : Below w.heap.size w w') => nameC op w' (hW.below hb); rw [show isaName op = ⟨#[]⟩ from if_neg h] at hn; clear h; go_enter Tryz.func58, Tryz.ntmps58; go_upto_region 1 with (fail); obtain ⟨W, b2, e0, e1, X2, hal⟩ := box1 w #[.int .i64 op, .int .i64 a, .int .i64 b, .int .i64 c, .int .u32 k] 114; rw [e0, e1]; clear e0 e1; have y0 := cell_of_row W b2 0 _ 114 _ X2; go_wp2_with fail; refine (hn W hal).mono ?_; rintro e w' ⟨rfl, rfl⟩; go_wp2; go_ret; exact ⟨rfl, hal⟩
 rw [show rightB ⟨op, a, b, c, k⟩ size = rightU (useN op.toNat) a b c k size from if_pos h]; obtain ⟨i, rfl⟩ : ∃ i : Nat, op = i := ⟨op.toNat, by omega⟩; rw [Int.toNat_natCast]
 have hl0 : (0 : Int) ≤ i := by omega
 have hl1 : (i : Int) < 28 := by omega
 have hi : i < 28 := by omega
 have hn := fun w' (hb : Below w.heap.size w w') => nameC i w' (hW.below hb); rw [show isaName i = isaB i from if_pos h] at hn; have hnn := isa_list i hi; generalize isaB i = nm at *
 have hnn2 : ¬ nm.toList = [] := fun e => by rw [e] at hnn; cases hnn
 have hu := use_vals i hi; have hcell := fun w' (hb : Below w.heap.size w w') => (hW.below hb).us i hi; generalize useN i = u at *; obtain ⟨Bv, hBv⟩ : ∃ B, Hid (B = rightU u a b c k size) := ⟨_, rfl⟩; rw [← hBv.out]; clear h; go_enter Tryz.func58, Tryz.ntmps58; go_upto_region 1 with (fail); obtain ⟨W, b2, e0, e1, X2, hal⟩ := box1 w #[.int .i64 i, .int .i64 a, .int .i64 b, .int .i64 c, .int .u32 k] 114; rw [e0, e1]; clear e0 e1; obtain ⟨y0, y1, y2, y3, y4⟩ := cl5 X2; have yu := hcell W hal; go_wp2_with fail; refine (hn W hal).mono ?_; rintro e w' ⟨rfl, rfl⟩; clear hn hcell hW hi; rcases hu with rfl | rfl | rfl | rfl | rfl | rfl | rfl | rfl | rfl
 ·replace hBv : Hid (Bv = (fldB a false 7 && (fldB b false 7 && (fldB c false 7 && (k == 0))))) := hBv.out
  have fa := fun w => fieldC a false 7 w
  have fb := fun w => fieldC b false 7 w
  have fc := fun w => fieldC c false 7 w
  generalize fldB a false 7 = ra at *; generalize fldB b false 7 = rb' at *; generalize fldB c false 7 = rc at *; go_wp2_with fail; refine (fa _).mono ?_; rintro e w' ⟨rfl, rfl⟩; cases ra
  ·obtain rfl : Bv = false := hBv.out
   clear hBv; go_wp2; go_ret; exact ⟨rfl, hal⟩
  go_wp2_with fail; refine (fb _).mono ?_; rintro e w' ⟨rfl, rfl⟩
  cases rb'
  ·obtain rfl : Bv = false := hBv.out
   clear hBv; go_wp2; go_ret; exact ⟨rfl, hal⟩
  go_wp2_with fail; refine (fc _).mono ?_; rintro e w' ⟨rfl, rfl⟩; cases rc
  ·obtain rfl : Bv = false := hBv.out
   clear hBv; go_wp2; go_ret; exact ⟨rfl, hal⟩
  by_cases hk : k = 0
  ·subst hk
   obtain rfl : Bv = true := hBv.out; clear hBv; go_wp2; go_ret; exact ⟨rfl, hal⟩
  ·have qk : (k == 0) = false := by simp [hk]
   obtain rfl : Bv = false := hBv.out.trans qk; clear hBv; go_wp2; go_ret; exact ⟨rfl, hal⟩
 ·replace hBv : Hid (Bv = (fldB a true 7 && (fldB b false 7 && (fldB c false 7 && (true))))) := hBv.out
  have fa := fun w => fieldC a true 7 w
  have fb := fun w => fieldC b false 7 w
  have fc := fun w => fieldC c false 7 w
  generalize fldB a true 7 = ra at *; generalize fldB b false 7 = rb' at *; generalize fldB c false 7 = rc at *; go_wp2_with fail; refine (fa _).mono ?_; rintro e w' ⟨rfl, rfl⟩; cases ra
  ·obtain rfl : Bv = false := hBv.out
   clear hBv; go_wp2; go_ret; exact ⟨rfl, hal⟩
  go_wp2_with fail; refine (fb _).mono ?_; rintro e w' ⟨rfl, rfl⟩
  cases rb'
  ·obtain rfl : Bv = false := hBv.out
   clear hBv; go_wp2; go_ret; exact ⟨rfl, hal⟩
  go_wp2_with fail; refine (fc _).mono ?_; rintro e w' ⟨rfl, rfl⟩; cases rc
  ·obtain rfl : Bv = false := hBv.out
   clear hBv; go_wp2; go_ret; exact ⟨rfl, hal⟩
  obtain rfl : Bv = true := hBv.out; clear hBv; go_wp2; go_ret; exact ⟨rfl, hal⟩
 ·replace hBv : Hid (Bv = (fldB a true 7 && (fldB b true 7 && (fldB c false 7 && (k == 0))))) := hBv.out
  have fa := fun w => fieldC a true 7 w
  have fb := fun w => fieldC b true 7 w
  have fc := fun w => fieldC c false 7 w
  generalize fldB a true 7 = ra at *; generalize fldB b true 7 = rb' at *; generalize fldB c false 7 = rc at *; go_wp2_with fail; refine (fa _).mono ?_; rintro e w' ⟨rfl, rfl⟩; cases ra
  ·obtain rfl : Bv = false := hBv.out
   clear hBv; go_wp2; go_ret; exact ⟨rfl, hal⟩
  go_wp2_with fail; refine (fb _).mono ?_; rintro e w' ⟨rfl, rfl⟩
  cases rb'
  ·obtain rfl : Bv = false := hBv.out
   clear hBv; go_wp2; go_ret; exact ⟨rfl, hal⟩
  go_wp2_with fail; refine (fc _).mono ?_; rintro e w' ⟨rfl, rfl⟩; cases rc
  ·obtain rfl : Bv = false := hBv.out
   clear hBv; go_wp2; go_ret; exact ⟨rfl, hal⟩
  by_cases hk : k = 0
  ·subst hk
   obtain rfl : Bv = true := hBv.out; clear hBv; go_wp2; go_ret; exact ⟨rfl, hal⟩
  ·have qk : (k == 0) = false := by simp [hk]
   obtain rfl : Bv = false := hBv.out.trans qk; clear hBv; go_wp2; go_ret; exact ⟨rfl, hal⟩
 ·replace hBv : Hid (Bv = (fldB a true 7 && (fldB b true 7 && (fldB c true 7 && (k == 0))))) := hBv.out
  have fa := fun w => fieldC a true 7 w
  have fb := fun w => fieldC b true 7 w
  have fc := fun w => fieldC c true 7 w
  generalize fldB a true 7 = ra at *; generalize fldB b true 7 = rb' at *; generalize fldB c true 7 = rc at *; go_wp2_with fail; refine (fa _).mono ?_; rintro e w' ⟨rfl, rfl⟩; cases ra
  ·obtain rfl : Bv = false := hBv.out
   clear hBv; go_wp2; go_ret; exact ⟨rfl, hal⟩
  go_wp2_with fail; refine (fb _).mono ?_; rintro e w' ⟨rfl, rfl⟩
  cases rb'
  ·obtain rfl : Bv = false := hBv.out
   clear hBv; go_wp2; go_ret; exact ⟨rfl, hal⟩
  go_wp2_with fail; refine (fc _).mono ?_; rintro e w' ⟨rfl, rfl⟩; cases rc
  ·obtain rfl : Bv = false := hBv.out
   clear hBv; go_wp2; go_ret; exact ⟨rfl, hal⟩
  by_cases hk : k = 0
  ·subst hk
   obtain rfl : Bv = true := hBv.out; clear hBv; go_wp2; go_ret; exact ⟨rfl, hal⟩
  ·have qk : (k == 0) = false := by simp [hk]
   obtain rfl : Bv = false := hBv.out.trans qk; clear hBv; go_wp2; go_ret; exact ⟨rfl, hal⟩
 ·replace hBv : Hid (Bv = (fldB a false 7 && (fldB b false 7 && (fldB c false 7 && (decide (k ≤ size)))))) := hBv.out
  have fa := fun w => fieldC a false 7 w
  have fb := fun w => fieldC b false 7 w
  have fc := fun w => fieldC c false 7 w
  generalize fldB a false 7 = ra at *; generalize fldB b false 7 = rb' at *; generalize fldB c false 7 = rc at *; go_wp2_with fail; refine (fa _).mono ?_; rintro e w' ⟨rfl, rfl⟩; cases ra
  ·obtain rfl : Bv = false := hBv.out
   clear hBv; go_wp2; go_ret; exact ⟨rfl, hal⟩
  go_wp2_with fail; refine (fb _).mono ?_; rintro e w' ⟨rfl, rfl⟩
  cases rb'
  ·obtain rfl : Bv = false := hBv.out
   clear hBv; go_wp2; go_ret; exact ⟨rfl, hal⟩
  go_wp2_with fail; refine (fc _).mono ?_; rintro e w' ⟨rfl, rfl⟩; cases rc
  ·obtain rfl : Bv = false := hBv.out
   clear hBv; go_wp2; go_ret; exact ⟨rfl, hal⟩
  by_cases hk : k ≤ size
  ·obtain rfl : Bv = true := hBv.out.trans (decide_eq_true hk)
   clear hBv; go_wp2; go_ret; exact ⟨rfl, hal⟩
  ·obtain rfl : Bv = false := hBv.out.trans (decide_eq_false hk)
   have hk2 : size < k := by omega
   have hk3 : decide (k ≤ size) = false := decide_eq_false hk; clear hBv; go_wp2; go_ret; exact ⟨rfl, hal⟩
 ·replace hBv : Hid (Bv = (fldB a true 7 && (fldB b false 7 && (fldB c false 7 && (decide (k ≤ size)))))) := hBv.out
  have fa := fun w => fieldC a true 7 w
  have fb := fun w => fieldC b false 7 w
  have fc := fun w => fieldC c false 7 w
  generalize fldB a true 7 = ra at *; generalize fldB b false 7 = rb' at *; generalize fldB c false 7 = rc at *; go_wp2_with fail; refine (fa _).mono ?_; rintro e w' ⟨rfl, rfl⟩; cases ra
  ·obtain rfl : Bv = false := hBv.out
   clear hBv; go_wp2; go_ret; exact ⟨rfl, hal⟩
  go_wp2_with fail; refine (fb _).mono ?_; rintro e w' ⟨rfl, rfl⟩
  cases rb'
  ·obtain rfl : Bv = false := hBv.out
   clear hBv; go_wp2; go_ret; exact ⟨rfl, hal⟩
  go_wp2_with fail; refine (fc _).mono ?_; rintro e w' ⟨rfl, rfl⟩; cases rc
  ·obtain rfl : Bv = false := hBv.out
   clear hBv; go_wp2; go_ret; exact ⟨rfl, hal⟩
  by_cases hk : k ≤ size
  ·obtain rfl : Bv = true := hBv.out.trans (decide_eq_true hk)
   clear hBv; go_wp2; go_ret; exact ⟨rfl, hal⟩
  ·obtain rfl : Bv = false := hBv.out.trans (decide_eq_false hk)
   have hk2 : size < k := by omega
   have hk3 : decide (k ≤ size) = false := decide_eq_false hk; clear hBv; go_wp2; go_ret; exact ⟨rfl, hal⟩
 ·replace hBv : Hid (Bv = (fldB a true 7 && (fldB b true 8 && (fldB c false 7 && (true))))) := hBv.out
  have fa := fun w => fieldC a true 7 w
  have fb := fun w => fieldC b true 8 w
  have fc := fun w => fieldC c false 7 w
  generalize fldB a true 7 = ra at *; generalize fldB b true 8 = rb' at *; generalize fldB c false 7 = rc at *; go_wp2_with fail; refine (fa _).mono ?_; rintro e w' ⟨rfl, rfl⟩; cases ra
  ·obtain rfl : Bv = false := hBv.out
   clear hBv; go_wp2; go_ret; exact ⟨rfl, hal⟩
  go_wp2_with fail; refine (fb _).mono ?_; rintro e w' ⟨rfl, rfl⟩
  cases rb'
  ·obtain rfl : Bv = false := hBv.out
   clear hBv; go_wp2; go_ret; exact ⟨rfl, hal⟩
  go_wp2_with fail; refine (fc _).mono ?_; rintro e w' ⟨rfl, rfl⟩; cases rc
  ·obtain rfl : Bv = false := hBv.out
   clear hBv; go_wp2; go_ret; exact ⟨rfl, hal⟩
  obtain rfl : Bv = true := hBv.out; clear hBv; go_wp2; go_ret; exact ⟨rfl, hal⟩
 ·replace hBv : Hid (Bv = (fldB a true 7 && (fldB b true 8 && (fldB c true 7 && (true))))) := hBv.out
  have fa := fun w => fieldC a true 7 w
  have fb := fun w => fieldC b true 8 w
  have fc := fun w => fieldC c true 7 w
  generalize fldB a true 7 = ra at *; generalize fldB b true 8 = rb' at *; generalize fldB c true 7 = rc at *; go_wp2_with fail; refine (fa _).mono ?_; rintro e w' ⟨rfl, rfl⟩; cases ra
  ·obtain rfl : Bv = false := hBv.out
   clear hBv; go_wp2; go_ret; exact ⟨rfl, hal⟩
  go_wp2_with fail; refine (fb _).mono ?_; rintro e w' ⟨rfl, rfl⟩
  cases rb'
  ·obtain rfl : Bv = false := hBv.out
   clear hBv; go_wp2; go_ret; exact ⟨rfl, hal⟩
  go_wp2_with fail; refine (fc _).mono ?_; rintro e w' ⟨rfl, rfl⟩; cases rc
  ·obtain rfl : Bv = false := hBv.out
   clear hBv; go_wp2; go_ret; exact ⟨rfl, hal⟩
  obtain rfl : Bv = true := hBv.out; clear hBv; go_wp2; go_ret; exact ⟨rfl, hal⟩
 ·replace hBv : Hid (Bv = (fldB a true 7 && (fldB b false 7 && (fldB c false 7 && (k == 0))))) := hBv.out
  have fa := fun w => fieldC a true 7 w
  have fb := fun w => fieldC b false 7 w
  have fc := fun w => fieldC c false 7 w
  generalize fldB a true 7 = ra at *; generalize fldB b false 7 = rb' at *; generalize fldB c false 7 = rc at *; go_wp2_with fail; refine (fa _).mono ?_; rintro e w' ⟨rfl, rfl⟩; cases ra
  ·obtain rfl : Bv = false := hBv.out
   clear hBv; go_wp2; go_ret; exact ⟨rfl, hal⟩
  go_wp2_with fail; refine (fb _).mono ?_; rintro e w' ⟨rfl, rfl⟩
  cases rb'
  ·obtain rfl : Bv = false := hBv.out
   clear hBv; go_wp2; go_ret; exact ⟨rfl, hal⟩
  go_wp2_with fail; refine (fc _).mono ?_; rintro e w' ⟨rfl, rfl⟩; cases rc
  ·obtain rfl : Bv = false := hBv.out
   clear hBv; go_wp2; go_ret; exact ⟨rfl, hal⟩
  by_cases hk : k = 0
  ·subst hk
   obtain rfl : Bv = true := hBv.out; clear hBv; go_wp2; go_ret; exact ⟨rfl, hal⟩
  ·have qk : (k == 0) = false := by simp [hk]
   obtain rfl : Bv = false := hBv.out.trans qk; clear hBv; go_wp2; go_ret; exact ⟨rfl, hal⟩
end Go.Proofs.YtbcgngfbbbfebaaGreatDoor
namespace Go.Proofs.YtbcgngfbbbfebaaGreatDoor
open Go.RowKit Go.Maps
set_option maxRecDepth 100000
set_option maxHeartbeats 32000000
set_option linter.unusedVariables false
set_option linter.unusedSimpArgs false
theorem addW (a b : Int) (w : World) : Calls Tryz.prog 152 #[.int .u32 a, .int .u32 b] w fun e w' => e = .returned (.int .u32 ((a + b) % 4294967296)) ∧ w' = w := by
 go_enter Tryz.func152, Tryz.ntmps152; go_wp2; go_ret
 exact ⟨by first | rfl | (congr 2; first | omega | (simp only [IntKind.wrap_u32]; omega)), rfl⟩
theorem subW (a b : Int) (w : World) : Calls Tryz.prog 153 #[.int .u32 a, .int .u32 b] w fun e w' => e = .returned (.int .u32 ((a - b) % 4294967296)) ∧ w' = w := by
 go_enter Tryz.func153, Tryz.ntmps153; go_wp2; go_ret
 exact ⟨by first | rfl | (congr 2; first | omega | (simp only [IntKind.wrap_u32]; omega)), rfl⟩
theorem mulW (a b : Int) (w : World) : Calls Tryz.prog 154 #[.int .u32 a, .int .u32 b] w fun e w' => e = .returned (.int .u32 ((a * b) % 4294967296)) ∧ w' = w := by
 go_enter Tryz.func154, Tryz.ntmps154; go_wp2; go_ret
 exact ⟨by first | rfl | (congr 2; first | omega | (simp only [IntKind.wrap_u32]; omega)), rfl⟩
theorem bitT (w : World) : Calls Tryz.prog 202 #[.bool true] w fun e w' => e = .returned (.int .u32 1) ∧ w' = w := by
 go_enter Tryz.func202, Tryz.ntmps202; go_wp2; go_ret; exact ⟨rfl, rfl⟩
theorem bitF (w : World) : Calls Tryz.prog 202 #[.bool false] w fun e w' => e = .returned (.int .u32 0) ∧ w' = w := by
 go_enter Tryz.func202, Tryz.ntmps202; go_wp2; go_ret; exact ⟨rfl, rfl⟩
theorem lessW (a b : Int) (w : World) : Calls Tryz.prog 160 #[.int .u32 a, .int .u32 b] w fun e w' => e = .returned (.int .u32 (if a < b then 1 else 0)) ∧ w' = w := by
 by_cases h : a < b
 ·rw [if_pos h]
  go_enter Tryz.func160, Tryz.ntmps160; go_wp2_with fail; refine (bitT w).mono ?_; rintro e w' ⟨rfl, rfl⟩; go_wp2; go_ret; exact ⟨rfl, rfl⟩
 ·rw [if_neg h]
  go_enter Tryz.func160, Tryz.ntmps160; go_wp2_with fail; refine (bitF w).mono ?_; rintro e w' ⟨rfl, rfl⟩; go_wp2; go_ret; exact ⟨rfl, rfl⟩
theorem sameW (a b : Int) (w : World) : Calls Tryz.prog 161 #[.int .u32 a, .int .u32 b] w fun e w' => e = .returned (.int .u32 (if a = b then 1 else 0)) ∧ w' = w := by
 by_cases h : a = b
 ·rw [if_pos h]
  subst h; go_enter Tryz.func161, Tryz.ntmps161; go_wp2_with fail; refine (bitT w).mono ?_; rintro e w' ⟨rfl, rfl⟩; go_wp2; go_ret; exact ⟨rfl, rfl⟩
 ·rw [if_neg h]
  have hq : (a == b) = false := by simp [h]
  go_enter Tryz.func161, Tryz.ntmps161; go_wp2_with fail; refine (bitF w).mono ?_; rintro e w' ⟨rfl, rfl⟩; go_wp2; go_ret; exact ⟨rfl, rfl⟩
theorem andW (a b : Int) (ha : 0 ≤ a ∧ a < 4294967296) (hb : 0 ≤ b ∧ b < 4294967296) (w : World) : Calls Tryz.prog 155 #[.int .u32 a, .int .u32 b] w fun e w' => e = .returned (.int .u32 (bits BinOp.and IntKind.u32 a b)) ∧ w' = w := by
 obtain ⟨a0, a1⟩ := ha; obtain ⟨b0, b1⟩ := hb; go_enter Tryz.func155, Tryz.ntmps155; go_wp2; go_ret; exact ⟨rfl, rfl⟩
theorem orW (a b : Int) (ha : 0 ≤ a ∧ a < 4294967296) (hb : 0 ≤ b ∧ b < 4294967296) (w : World) : Calls Tryz.prog 156 #[.int .u32 a, .int .u32 b] w fun e w' => e = .returned (.int .u32 (bits BinOp.or IntKind.u32 a b)) ∧ w' = w := by
 obtain ⟨a0, a1⟩ := ha; obtain ⟨b0, b1⟩ := hb; go_enter Tryz.func156, Tryz.ntmps156; go_wp2; go_ret; exact ⟨rfl, rfl⟩
theorem xorW (a b : Int) (ha : 0 ≤ a ∧ a < 4294967296) (hb : 0 ≤ b ∧ b < 4294967296) (w : World) : Calls Tryz.prog 157 #[.int .u32 a, .int .u32 b] w fun e w' => e = .returned (.int .u32 (bits BinOp.xor IntKind.u32 a b)) ∧ w' = w := by
 obtain ⟨a0, a1⟩ := ha; obtain ⟨b0, b1⟩ := hb; go_enter Tryz.func157, Tryz.ntmps157; go_wp2; go_ret; exact ⟨rfl, rfl⟩
theorem shlW (a b : Int) (ha : 0 ≤ a ∧ a < 4294967296) (hb : 0 ≤ b ∧ b < 4294967296) (w : World) : Calls Tryz.prog 158 #[.int .u32 a, .int .u32 b] w fun e w' => e = .returned (.int .u32 (a * 2 ^ (b % 32).toNat % 4294967296)) ∧ w' = w := by
 obtain ⟨a0, a1⟩ := ha; obtain ⟨b0, b1⟩ := hb; go_enter Tryz.func158, Tryz.ntmps158; go_wp2; go_ret; exact ⟨rfl, rfl⟩
theorem shrW (a b : Int) (ha : 0 ≤ a ∧ a < 4294967296) (hb : 0 ≤ b ∧ b < 4294967296) (w : World) : Calls Tryz.prog 159 #[.int .u32 a, .int .u32 b] w fun e w' => e = .returned (.int .u32 (a / 2 ^ (b % 32).toNat)) ∧ w' = w := by
 obtain ⟨a0, a1⟩ := ha; obtain ⟨b0, b1⟩ := hb; go_enter Tryz.func159, Tryz.ntmps159; go_wp2; go_ret; exact ⟨rfl, rfl⟩
def aluF (op a b : Int) : Int :=
 if op = 3 then (a + b) % 4294967296 else if op = 4 then (a - b) % 4294967296 else if op = 5 then (a * b) % 4294967296
 else if op = 6 then bits BinOp.and IntKind.u32 a b else if op = 7 then bits BinOp.or IntKind.u32 a b else if op = 8 then bits BinOp.xor IntKind.u32 a b
 else if op = 9 then a * 2 ^ (b % 32).toNat % 4294967296 else if op = 10 then a / 2 ^ (b % 32).toNat else if op = 11 then (if a < b then 1 else 0) else if op = 12 then (if a = b then 1 else 0) else 0
theorem isC (op : Int) (w : World) : Calls Tryz.prog 151 #[.int .i64 op] w fun e w' => e = .returned (.bool (decide (3 ≤ op ∧ op ≤ 12))) ∧ w' = w := by
 by_cases h0 : 3 ≤ op
 ·by_cases h1 : op ≤ 12
  ·rw [decide_eq_true (⟨h0, h1⟩ : 3 ≤ op ∧ op ≤ 12)]
   go_enter Tryz.func151, Tryz.ntmps151; go_wp2; go_ret; exact ⟨rfl, rfl⟩
  ·rw [decide_eq_false (fun h => h1 h.2 : ¬ (3 ≤ op ∧ op ≤ 12))]
   go_enter Tryz.func151, Tryz.ntmps151; go_wp2; go_ret; exact ⟨rfl, rfl⟩
 ·rw [decide_eq_false (fun h => h0 h.1 : ¬ (3 ≤ op ∧ op ≤ 12))]
  go_enter Tryz.func151, Tryz.ntmps151; go_wp2; go_ret; exact ⟨rfl, rfl⟩
theorem aluC' (op a b : Int) (ha : 0 ≤ a ∧ a < 4294967296) (hb : 0 ≤ b ∧ b < 4294967296) (w : World) : Calls Tryz.prog 95 #[.int .i64 op, .int .u32 a, .int .u32 b] w fun e w' => e = .returned (.tuple #[.int .u32 (aluF op a b), .bool (decide (3 ≤ op ∧ op ≤ 12))]) ∧ Below w.heap.size w w' := by
 by_cases h : 3 ≤ op ∧ op ≤ 12
 case neg =>
  rw [decide_eq_false h, show aluF op a b = 0 from by unfold aluF; simp only [show ¬ op = 3 by omega, show ¬ op = 4 by omega, show ¬ op = 5 by omega, show ¬ op = 6 by omega, show ¬ op = 7 by omega, show ¬ op = 8 by omega, show ¬ op = 9 by omega, show ¬ op = 10 by omega, show ¬ op = 11 by omega, show ¬ op = 12 by omega, if_false]]; have hi := isC op w; rw [decide_eq_false h] at hi; go_enter Tryz.func95, Tryz.ntmps95; go_wp2_with fail; refine hi.mono ?_; rintro e w' ⟨rfl, rfl⟩; go_wp2; go_ret2; exact ⟨rfl, Below.refl _ _⟩
 rw [decide_eq_true h]
 have ho : op = 3 ∨ op = 4 ∨ op = 5 ∨ op = 6 ∨ op = 7 ∨ op = 8 ∨ op = 9 ∨ op = 10 ∨ op = 11 ∨ op = 12 := by omega
 clear h; rcases ho with rfl | rfl | rfl | rfl | rfl | rfl | rfl | rfl | rfl | rfl
 ·have hi := isC 3 w
  rw [show decide ((3 : Int) ≤ 3 ∧ (3 : Int) ≤ 12) = true from rfl] at hi; rw [show aluF 3 a b = ((a + b) % 4294967296) from rfl]
  have hv := fun w => addW a b w
  generalize ((a + b) % 4294967296 : Int) = r at *; go_enter Tryz.func95, Tryz.ntmps95; go_wp2_with fail; refine hi.mono ?_; rintro e w' ⟨rfl, rfl⟩; go_upto_region 3 with (fail); refine wp_region_lit ?_; refine wl_val rfl (.agg #[.func (.func 152) #[] #[], .func (.func 153) #[] #[], .func (.func 154) #[] #[], .func (.func 155) #[] #[], .func (.func 156) #[] #[], .func (.func 157) #[] #[], .func (.func 158) #[] #[], .func (.func 159) #[] #[], .func (.func 160) #[] #[], .func (.func 161) #[] #[]]) ?_ ?_
  ·go_simp
  refine Zk ?_; refine wl_alloc rfl 230 rfl (.agg #[.nilFunc, .nilFunc, .nilFunc, .nilFunc, .nilFunc, .nilFunc, .nilFunc, .nilFunc, .nilFunc, .nilFunc]) #[.nilFunc, .nilFunc, .nilFunc, .nilFunc, .nilFunc, .nilFunc, .nilFunc, .nilFunc, .nilFunc, .nilFunc] (fun w => by kernel_rfl) rfl (fun w2 b8 X8 l8 f8 => ?_); refine Zk ?_; refine wl_store rfl 230 (.tmp 8) (.tmp 12) rfl b8 #[.func (.func 152) #[] #[], .func (.func 153) #[] #[], .func (.func 154) #[] #[], .func (.func 155) #[] #[], .func (.func 156) #[] #[], .func (.func 157) #[] #[], .func (.func 158) #[] #[], .func (.func 159) #[] #[], .func (.func 160) #[] #[], .func (.func 161) #[] #[]] rfl rfl 230 _ X8 (by kernel_rfl) rfl (by simp [Value.oneCell']) (fun w3 g1 g2 g3 g4 => ?_); refine Zk ?_; have hal : Below w'.heap.size w' w3 := l8.trans (g3 _ (by simp only [Hid] at f8; omega)); clear X8 f8 g2 g3 g4; have yy := cell_of_row w3 b8 0 _ 230 _ g1; clear g1; go_wp2_with fail; refine (hv _).mono ?_; rintro e w1 ⟨rfl, rfl⟩; go_wp2; go_ret2; exact ⟨rfl, hal⟩
 ·have hi := isC 4 w
  rw [show decide ((3 : Int) ≤ 4 ∧ (4 : Int) ≤ 12) = true from rfl] at hi; rw [show aluF 4 a b = ((a - b) % 4294967296) from rfl]
  have hv := fun w => subW a b w
  generalize ((a - b) % 4294967296 : Int) = r at *; go_enter Tryz.func95, Tryz.ntmps95; go_wp2_with fail; refine hi.mono ?_; rintro e w' ⟨rfl, rfl⟩; go_upto_region 3 with (fail); refine wp_region_lit ?_; refine wl_val rfl (.agg #[.func (.func 152) #[] #[], .func (.func 153) #[] #[], .func (.func 154) #[] #[], .func (.func 155) #[] #[], .func (.func 156) #[] #[], .func (.func 157) #[] #[], .func (.func 158) #[] #[], .func (.func 159) #[] #[], .func (.func 160) #[] #[], .func (.func 161) #[] #[]]) ?_ ?_
  ·go_simp
  refine Zk ?_; refine wl_alloc rfl 230 rfl (.agg #[.nilFunc, .nilFunc, .nilFunc, .nilFunc, .nilFunc, .nilFunc, .nilFunc, .nilFunc, .nilFunc, .nilFunc]) #[.nilFunc, .nilFunc, .nilFunc, .nilFunc, .nilFunc, .nilFunc, .nilFunc, .nilFunc, .nilFunc, .nilFunc] (fun w => by kernel_rfl) rfl (fun w2 b8 X8 l8 f8 => ?_); refine Zk ?_; refine wl_store rfl 230 (.tmp 8) (.tmp 12) rfl b8 #[.func (.func 152) #[] #[], .func (.func 153) #[] #[], .func (.func 154) #[] #[], .func (.func 155) #[] #[], .func (.func 156) #[] #[], .func (.func 157) #[] #[], .func (.func 158) #[] #[], .func (.func 159) #[] #[], .func (.func 160) #[] #[], .func (.func 161) #[] #[]] rfl rfl 230 _ X8 (by kernel_rfl) rfl (by simp [Value.oneCell']) (fun w3 g1 g2 g3 g4 => ?_); refine Zk ?_; have hal : Below w'.heap.size w' w3 := l8.trans (g3 _ (by simp only [Hid] at f8; omega)); clear X8 f8 g2 g3 g4; have yy := cell_of_row w3 b8 1 _ 230 _ g1; clear g1; go_wp2_with fail; refine (hv _).mono ?_; rintro e w1 ⟨rfl, rfl⟩; go_wp2; go_ret2; exact ⟨rfl, hal⟩
 ·have hi := isC 5 w
  rw [show decide ((3 : Int) ≤ 5 ∧ (5 : Int) ≤ 12) = true from rfl] at hi; rw [show aluF 5 a b = ((a * b) % 4294967296) from rfl]
  have hv := fun w => mulW a b w
  generalize ((a * b) % 4294967296 : Int) = r at *; go_enter Tryz.func95, Tryz.ntmps95; go_wp2_with fail; refine hi.mono ?_; rintro e w' ⟨rfl, rfl⟩; go_upto_region 3 with (fail); refine wp_region_lit ?_; refine wl_val rfl (.agg #[.func (.func 152) #[] #[], .func (.func 153) #[] #[], .func (.func 154) #[] #[], .func (.func 155) #[] #[], .func (.func 156) #[] #[], .func (.func 157) #[] #[], .func (.func 158) #[] #[], .func (.func 159) #[] #[], .func (.func 160) #[] #[], .func (.func 161) #[] #[]]) ?_ ?_
  ·go_simp
  refine Zk ?_; refine wl_alloc rfl 230 rfl (.agg #[.nilFunc, .nilFunc, .nilFunc, .nilFunc, .nilFunc, .nilFunc, .nilFunc, .nilFunc, .nilFunc, .nilFunc]) #[.nilFunc, .nilFunc, .nilFunc, .nilFunc, .nilFunc, .nilFunc, .nilFunc, .nilFunc, .nilFunc, .nilFunc] (fun w => by kernel_rfl) rfl (fun w2 b8 X8 l8 f8 => ?_); refine Zk ?_; refine wl_store rfl 230 (.tmp 8) (.tmp 12) rfl b8 #[.func (.func 152) #[] #[], .func (.func 153) #[] #[], .func (.func 154) #[] #[], .func (.func 155) #[] #[], .func (.func 156) #[] #[], .func (.func 157) #[] #[], .func (.func 158) #[] #[], .func (.func 159) #[] #[], .func (.func 160) #[] #[], .func (.func 161) #[] #[]] rfl rfl 230 _ X8 (by kernel_rfl) rfl (by simp [Value.oneCell']) (fun w3 g1 g2 g3 g4 => ?_); refine Zk ?_; have hal : Below w'.heap.size w' w3 := l8.trans (g3 _ (by simp only [Hid] at f8; omega)); clear X8 f8 g2 g3 g4; have yy := cell_of_row w3 b8 2 _ 230 _ g1; clear g1; go_wp2_with fail; refine (hv _).mono ?_; rintro e w1 ⟨rfl, rfl⟩; go_wp2; go_ret2; exact ⟨rfl, hal⟩
 ·have hi := isC 6 w
  rw [show decide ((3 : Int) ≤ 6 ∧ (6 : Int) ≤ 12) = true from rfl] at hi; rw [show aluF 6 a b = (bits BinOp.and IntKind.u32 a b) from rfl]
  have hv := fun w => andW a b ha hb w
  generalize (bits BinOp.and IntKind.u32 a b : Int) = r at *; go_enter Tryz.func95, Tryz.ntmps95; go_wp2_with fail; refine hi.mono ?_; rintro e w' ⟨rfl, rfl⟩; go_upto_region 3 with (fail); refine wp_region_lit ?_; refine wl_val rfl (.agg #[.func (.func 152) #[] #[], .func (.func 153) #[] #[], .func (.func 154) #[] #[], .func (.func 155) #[] #[], .func (.func 156) #[] #[], .func (.func 157) #[] #[], .func (.func 158) #[] #[], .func (.func 159) #[] #[], .func (.func 160) #[] #[], .func (.func 161) #[] #[]]) ?_ ?_
  ·go_simp
  refine Zk ?_; refine wl_alloc rfl 230 rfl (.agg #[.nilFunc, .nilFunc, .nilFunc, .nilFunc, .nilFunc, .nilFunc, .nilFunc, .nilFunc, .nilFunc, .nilFunc]) #[.nilFunc, .nilFunc, .nilFunc, .nilFunc, .nilFunc, .nilFunc, .nilFunc, .nilFunc, .nilFunc, .nilFunc] (fun w => by kernel_rfl) rfl (fun w2 b8 X8 l8 f8 => ?_); refine Zk ?_; refine wl_store rfl 230 (.tmp 8) (.tmp 12) rfl b8 #[.func (.func 152) #[] #[], .func (.func 153) #[] #[], .func (.func 154) #[] #[], .func (.func 155) #[] #[], .func (.func 156) #[] #[], .func (.func 157) #[] #[], .func (.func 158) #[] #[], .func (.func 159) #[] #[], .func (.func 160) #[] #[], .func (.func 161) #[] #[]] rfl rfl 230 _ X8 (by kernel_rfl) rfl (by simp [Value.oneCell']) (fun w3 g1 g2 g3 g4 => ?_); refine Zk ?_; have hal : Below w'.heap.size w' w3 := l8.trans (g3 _ (by simp only [Hid] at f8; omega)); clear X8 f8 g2 g3 g4; have yy := cell_of_row w3 b8 3 _ 230 _ g1; clear g1; go_wp2_with fail; refine (hv _).mono ?_; rintro e w1 ⟨rfl, rfl⟩; go_wp2; go_ret2; exact ⟨rfl, hal⟩
 ·have hi := isC 7 w
  rw [show decide ((3 : Int) ≤ 7 ∧ (7 : Int) ≤ 12) = true from rfl] at hi; rw [show aluF 7 a b = (bits BinOp.or IntKind.u32 a b) from rfl]
  have hv := fun w => orW a b ha hb w
  generalize (bits BinOp.or IntKind.u32 a b : Int) = r at *; go_enter Tryz.func95, Tryz.ntmps95; go_wp2_with fail; refine hi.mono ?_; rintro e w' ⟨rfl, rfl⟩; go_upto_region 3 with (fail); refine wp_region_lit ?_; refine wl_val rfl (.agg #[.func (.func 152) #[] #[], .func (.func 153) #[] #[], .func (.func 154) #[] #[], .func (.func 155) #[] #[], .func (.func 156) #[] #[], .func (.func 157) #[] #[], .func (.func 158) #[] #[], .func (.func 159) #[] #[], .func (.func 160) #[] #[], .func (.func 161) #[] #[]]) ?_ ?_
  ·go_simp
  refine Zk ?_; refine wl_alloc rfl 230 rfl (.agg #[.nilFunc, .nilFunc, .nilFunc, .nilFunc, .nilFunc, .nilFunc, .nilFunc, .nilFunc, .nilFunc, .nilFunc]) #[.nilFunc, .nilFunc, .nilFunc, .nilFunc, .nilFunc, .nilFunc, .nilFunc, .nilFunc, .nilFunc, .nilFunc] (fun w => by kernel_rfl) rfl (fun w2 b8 X8 l8 f8 => ?_); refine Zk ?_; refine wl_store rfl 230 (.tmp 8) (.tmp 12) rfl b8 #[.func (.func 152) #[] #[], .func (.func 153) #[] #[], .func (.func 154) #[] #[], .func (.func 155) #[] #[], .func (.func 156) #[] #[], .func (.func 157) #[] #[], .func (.func 158) #[] #[], .func (.func 159) #[] #[], .func (.func 160) #[] #[], .func (.func 161) #[] #[]] rfl rfl 230 _ X8 (by kernel_rfl) rfl (by simp [Value.oneCell']) (fun w3 g1 g2 g3 g4 => ?_); refine Zk ?_; have hal : Below w'.heap.size w' w3 := l8.trans (g3 _ (by simp only [Hid] at f8; omega)); clear X8 f8 g2 g3 g4; have yy := cell_of_row w3 b8 4 _ 230 _ g1; clear g1; go_wp2_with fail; refine (hv _).mono ?_; rintro e w1 ⟨rfl, rfl⟩; go_wp2; go_ret2; exact ⟨rfl, hal⟩
 ·have hi := isC 8 w
  rw [show decide ((3 : Int) ≤ 8 ∧ (8 : Int) ≤ 12) = true from rfl] at hi; rw [show aluF 8 a b = (bits BinOp.xor IntKind.u32 a b) from rfl]
  have hv := fun w => xorW a b ha hb w
  generalize (bits BinOp.xor IntKind.u32 a b : Int) = r at *; go_enter Tryz.func95, Tryz.ntmps95; go_wp2_with fail; refine hi.mono ?_; rintro e w' ⟨rfl, rfl⟩; go_upto_region 3 with (fail); refine wp_region_lit ?_; refine wl_val rfl (.agg #[.func (.func 152) #[] #[], .func (.func 153) #[] #[], .func (.func 154) #[] #[], .func (.func 155) #[] #[], .func (.func 156) #[] #[], .func (.func 157) #[] #[], .func (.func 158) #[] #[], .func (.func 159) #[] #[], .func (.func 160) #[] #[], .func (.func 161) #[] #[]]) ?_ ?_
  ·go_simp
  refine Zk ?_; refine wl_alloc rfl 230 rfl (.agg #[.nilFunc, .nilFunc, .nilFunc, .nilFunc, .nilFunc, .nilFunc, .nilFunc, .nilFunc, .nilFunc, .nilFunc]) #[.nilFunc, .nilFunc, .nilFunc, .nilFunc, .nilFunc, .nilFunc, .nilFunc, .nilFunc, .nilFunc, .nilFunc] (fun w => by kernel_rfl) rfl (fun w2 b8 X8 l8 f8 => ?_); refine Zk ?_; refine wl_store rfl 230 (.tmp 8) (.tmp 12) rfl b8 #[.func (.func 152) #[] #[], .func (.func 153) #[] #[], .func (.func 154) #[] #[], .func (.func 155) #[] #[], .func (.func 156) #[] #[], .func (.func 157) #[] #[], .func (.func 158) #[] #[], .func (.func 159) #[] #[], .func (.func 160) #[] #[], .func (.func 161) #[] #[]] rfl rfl 230 _ X8 (by kernel_rfl) rfl (by simp [Value.oneCell']) (fun w3 g1 g2 g3 g4 => ?_); refine Zk ?_; have hal : Below w'.heap.size w' w3 := l8.trans (g3 _ (by simp only [Hid] at f8; omega)); clear X8 f8 g2 g3 g4; have yy := cell_of_row w3 b8 5 _ 230 _ g1; clear g1; go_wp2_with fail; refine (hv _).mono ?_; rintro e w1 ⟨rfl, rfl⟩; go_wp2; go_ret2; exact ⟨rfl, hal⟩
 ·have hi := isC 9 w
  rw [show decide ((3 : Int) ≤ 9 ∧ (9 : Int) ≤ 12) = true from rfl] at hi; rw [show aluF 9 a b = (a * 2 ^ (b % 32).toNat % 4294967296) from rfl]
  have hv := fun w => shlW a b ha hb w
  generalize (a * 2 ^ (b % 32).toNat % 4294967296 : Int) = r at *; go_enter Tryz.func95, Tryz.ntmps95; go_wp2_with fail; refine hi.mono ?_; rintro e w' ⟨rfl, rfl⟩; go_upto_region 3 with (fail); refine wp_region_lit ?_; refine wl_val rfl (.agg #[.func (.func 152) #[] #[], .func (.func 153) #[] #[], .func (.func 154) #[] #[], .func (.func 155) #[] #[], .func (.func 156) #[] #[], .func (.func 157) #[] #[], .func (.func 158) #[] #[], .func (.func 159) #[] #[], .func (.func 160) #[] #[], .func (.func 161) #[] #[]]) ?_ ?_
  ·go_simp
  refine Zk ?_; refine wl_alloc rfl 230 rfl (.agg #[.nilFunc, .nilFunc, .nilFunc, .nilFunc, .nilFunc, .nilFunc, .nilFunc, .nilFunc, .nilFunc, .nilFunc]) #[.nilFunc, .nilFunc, .nilFunc, .nilFunc, .nilFunc, .nilFunc, .nilFunc, .nilFunc, .nilFunc, .nilFunc] (fun w => by kernel_rfl) rfl (fun w2 b8 X8 l8 f8 => ?_); refine Zk ?_; refine wl_store rfl 230 (.tmp 8) (.tmp 12) rfl b8 #[.func (.func 152) #[] #[], .func (.func 153) #[] #[], .func (.func 154) #[] #[], .func (.func 155) #[] #[], .func (.func 156) #[] #[], .func (.func 157) #[] #[], .func (.func 158) #[] #[], .func (.func 159) #[] #[], .func (.func 160) #[] #[], .func (.func 161) #[] #[]] rfl rfl 230 _ X8 (by kernel_rfl) rfl (by simp [Value.oneCell']) (fun w3 g1 g2 g3 g4 => ?_); refine Zk ?_; have hal : Below w'.heap.size w' w3 := l8.trans (g3 _ (by simp only [Hid] at f8; omega)); clear X8 f8 g2 g3 g4; have yy := cell_of_row w3 b8 6 _ 230 _ g1; clear g1; go_wp2_with fail; refine (hv _).mono ?_; rintro e w1 ⟨rfl, rfl⟩; go_wp2; go_ret2; exact ⟨rfl, hal⟩
 ·have hi := isC 10 w
  rw [show decide ((3 : Int) ≤ 10 ∧ (10 : Int) ≤ 12) = true from rfl] at hi; rw [show aluF 10 a b = (a / 2 ^ (b % 32).toNat) from rfl]
  have hv := fun w => shrW a b ha hb w
  generalize (a / 2 ^ (b % 32).toNat : Int) = r at *; go_enter Tryz.func95, Tryz.ntmps95; go_wp2_with fail; refine hi.mono ?_; rintro e w' ⟨rfl, rfl⟩; go_upto_region 3 with (fail); refine wp_region_lit ?_; refine wl_val rfl (.agg #[.func (.func 152) #[] #[], .func (.func 153) #[] #[], .func (.func 154) #[] #[], .func (.func 155) #[] #[], .func (.func 156) #[] #[], .func (.func 157) #[] #[], .func (.func 158) #[] #[], .func (.func 159) #[] #[], .func (.func 160) #[] #[], .func (.func 161) #[] #[]]) ?_ ?_
  ·go_simp
  refine Zk ?_; refine wl_alloc rfl 230 rfl (.agg #[.nilFunc, .nilFunc, .nilFunc, .nilFunc, .nilFunc, .nilFunc, .nilFunc, .nilFunc, .nilFunc, .nilFunc]) #[.nilFunc, .nilFunc, .nilFunc, .nilFunc, .nilFunc, .nilFunc, .nilFunc, .nilFunc, .nilFunc, .nilFunc] (fun w => by kernel_rfl) rfl (fun w2 b8 X8 l8 f8 => ?_); refine Zk ?_; refine wl_store rfl 230 (.tmp 8) (.tmp 12) rfl b8 #[.func (.func 152) #[] #[], .func (.func 153) #[] #[], .func (.func 154) #[] #[], .func (.func 155) #[] #[], .func (.func 156) #[] #[], .func (.func 157) #[] #[], .func (.func 158) #[] #[], .func (.func 159) #[] #[], .func (.func 160) #[] #[], .func (.func 161) #[] #[]] rfl rfl 230 _ X8 (by kernel_rfl) rfl (by simp [Value.oneCell']) (fun w3 g1 g2 g3 g4 => ?_); refine Zk ?_; have hal : Below w'.heap.size w' w3 := l8.trans (g3 _ (by simp only [Hid] at f8; omega)); clear X8 f8 g2 g3 g4; have yy := cell_of_row w3 b8 7 _ 230 _ g1; clear g1; go_wp2_with fail; refine (hv _).mono ?_; rintro e w1 ⟨rfl, rfl⟩; go_wp2; go_ret2; exact ⟨rfl, hal⟩
 ·have hi := isC 11 w
  rw [show decide ((3 : Int) ≤ 11 ∧ (11 : Int) ≤ 12) = true from rfl] at hi; rw [show aluF 11 a b = (if a < b then 1 else 0) from rfl]
  have hv := fun w => lessW a b w
  generalize (if a < b then 1 else 0 : Int) = r at *; go_enter Tryz.func95, Tryz.ntmps95; go_wp2_with fail; refine hi.mono ?_; rintro e w' ⟨rfl, rfl⟩; go_upto_region 3 with (fail); refine wp_region_lit ?_; refine wl_val rfl (.agg #[.func (.func 152) #[] #[], .func (.func 153) #[] #[], .func (.func 154) #[] #[], .func (.func 155) #[] #[], .func (.func 156) #[] #[], .func (.func 157) #[] #[], .func (.func 158) #[] #[], .func (.func 159) #[] #[], .func (.func 160) #[] #[], .func (.func 161) #[] #[]]) ?_ ?_
  ·go_simp
  refine Zk ?_; refine wl_alloc rfl 230 rfl (.agg #[.nilFunc, .nilFunc, .nilFunc, .nilFunc, .nilFunc, .nilFunc, .nilFunc, .nilFunc, .nilFunc, .nilFunc]) #[.nilFunc, .nilFunc, .nilFunc, .nilFunc, .nilFunc, .nilFunc, .nilFunc, .nilFunc, .nilFunc, .nilFunc] (fun w => by kernel_rfl) rfl (fun w2 b8 X8 l8 f8 => ?_); refine Zk ?_; refine wl_store rfl 230 (.tmp 8) (.tmp 12) rfl b8 #[.func (.func 152) #[] #[], .func (.func 153) #[] #[], .func (.func 154) #[] #[], .func (.func 155) #[] #[], .func (.func 156) #[] #[], .func (.func 157) #[] #[], .func (.func 158) #[] #[], .func (.func 159) #[] #[], .func (.func 160) #[] #[], .func (.func 161) #[] #[]] rfl rfl 230 _ X8 (by kernel_rfl) rfl (by simp [Value.oneCell']) (fun w3 g1 g2 g3 g4 => ?_); refine Zk ?_; have hal : Below w'.heap.size w' w3 := l8.trans (g3 _ (by simp only [Hid] at f8; omega)); clear X8 f8 g2 g3 g4; have yy := cell_of_row w3 b8 8 _ 230 _ g1; clear g1; go_wp2_with fail; refine (hv _).mono ?_; rintro e w1 ⟨rfl, rfl⟩; go_wp2; go_ret2; exact ⟨rfl, hal⟩
 ·have hi := isC 12 w
  rw [show decide ((3 : Int) ≤ 12 ∧ (12 : Int) ≤ 12) = true from rfl] at hi; rw [show aluF 12 a b = (if a = b then 1 else 0) from rfl]
  have hv := fun w => sameW a b w
  generalize (if a = b then 1 else 0 : Int) = r at *; go_enter Tryz.func95, Tryz.ntmps95; go_wp2_with fail; refine hi.mono ?_; rintro e w' ⟨rfl, rfl⟩; go_upto_region 3 with (fail); refine wp_region_lit ?_; refine wl_val rfl (.agg #[.func (.func 152) #[] #[], .func (.func 153) #[] #[], .func (.func 154) #[] #[], .func (.func 155) #[] #[], .func (.func 156) #[] #[], .func (.func 157) #[] #[], .func (.func 158) #[] #[], .func (.func 159) #[] #[], .func (.func 160) #[] #[], .func (.func 161) #[] #[]]) ?_ ?_
  ·go_simp
  refine Zk ?_; refine wl_alloc rfl 230 rfl (.agg #[.nilFunc, .nilFunc, .nilFunc, .nilFunc, .nilFunc, .nilFunc, .nilFunc, .nilFunc, .nilFunc, .nilFunc]) #[.nilFunc, .nilFunc, .nilFunc, .nilFunc, .nilFunc, .nilFunc, .nilFunc, .nilFunc, .nilFunc, .nilFunc] (fun w => by kernel_rfl) rfl (fun w2 b8 X8 l8 f8 => ?_); refine Zk ?_; refine wl_store rfl 230 (.tmp 8) (.tmp 12) rfl b8 #[.func (.func 152) #[] #[], .func (.func 153) #[] #[], .func (.func 154) #[] #[], .func (.func 155) #[] #[], .func (.func 156) #[] #[], .func (.func 157) #[] #[], .func (.func 158) #[] #[], .func (.func 159) #[] #[], .func (.func 160) #[] #[], .func (.func 161) #[] #[]] rfl rfl 230 _ X8 (by kernel_rfl) rfl (by simp [Value.oneCell']) (fun w3 g1 g2 g3 g4 => ?_); refine Zk ?_; have hal : Below w'.heap.size w' w3 := l8.trans (g3 _ (by simp only [Hid] at f8; omega)); clear X8 f8 g2 g3 g4; have yy := cell_of_row w3 b8 9 _ 230 _ g1; clear g1; go_wp2_with fail; refine (hv _).mono ?_; rintro e w1 ⟨rfl, rfl⟩; go_wp2; go_ret2; exact ⟨rfl, hal⟩
end Go.Proofs.YtbcgngfbbbfebaaGreatDoor
