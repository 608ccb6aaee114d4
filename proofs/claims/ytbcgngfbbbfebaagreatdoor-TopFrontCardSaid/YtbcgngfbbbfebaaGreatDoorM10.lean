/- obj.Size; lists of objects. Where objects stand: the program's answer and the document's. What may be asked of a kind: the program's list, and the document's answer. May a thread ask: spin.May. The builder's helpers of spin. -/
import Derived.Test.YtbcgngfbbbfebaaGreatDoorM09
import Derived.Test.YtbcgngfbbbfebaaGreatDoorM08
import Derived.Test.YtbcgngfbbbfebaaGreatDoorM02
import Derived.Test.YtbcgngfbbbfebaaGreatDoorM04
namespace Go.Proofs.YtbcgngfbbbfebaaGreatDoor
open Go.RowKit
set_option maxRecDepth 100000
set_option maxHeartbeats 32000000
set_option linter.unusedVariables false
set_option linter.unusedSimpArgs false
theorem objFirstN (x : O) (t : Int) (hR : ¬ RP x t) (w : World) (h : NmW w) : Calls Tryz.prog 25 #[ov x, .int .i64 t] w fun e w' => e = .returned (.slice none 0 0) ∧ Below w.heap.size w w' := by
 have hr := rb_f hR; unfold ov at *; go_enter Tryz.func25, Tryz.ntmps25; go_wp2_with fail; refine (objRight x t _ (h.below ((Below.refl _ _).alloc (Nat.le_refl _) _))).mono ?_; rintro e w1 ⟨rfl, hb1⟩; rw [hr]; go_wp2; go_ret; exact ⟨rfl, ((Below.refl _ _).alloc (Nat.le_refl _) _).trans (hb1.mono (by simp))⟩
def szP (x : O) (t : Int) : Nat := if RP x t then (firstL x t.toNat).length else 0
theorem letterW_le (k n : Int) (t c : Nat) (ht : t ≤ 8) : (letterW k n t c).length ≤ 8 := by
 unfold letterW; rw [List.length_map, List.length_range]; split <;> omega
theorem flat_le (k n : Int) (t : Nat) (ht : t ≤ 8) : ∀ l : List Nat, (l.flatMap (letterW k n t)).length ≤ 8 * l.length
 | [] => by simp
 | c :: l => by
  rw [List.flatMap_cons, List.length_append, List.length_cons]; have := letterW_le k n t c ht; have := flat_le k n t ht l; omega
theorem ltr_le : ∀ k, k ≤ 15 → (lettersOf k).length ≤ 6 := by decide +kernel
theorem szP_le (x : O) (t : Int) : szP x t ≤ 60 := by
 unfold szP
 split
 ·rename_i hR
  have h3 := hR.2.2; have h1 := hR.1; have h2 := hR.2.1; have hl := ltr_le x.k.toNat (by omega); have hf := flat_le x.k x.n t.toNat (by omega) (lettersOf x.k.toNat); unfold firstL; rw [List.length_append]
  split
  ·rename_i h9
   rw [List.length_replicate]; omega
  ·simp only [List.length_nil]; omega
 ·omega
theorem objSize (x : O) (t : Int) (w : World) (h : NmW w) : Calls Tryz.prog 46 #[ov x, .int .i64 t] w fun e w' => e = .returned (.int .i64 (szP x t)) ∧ Below w.heap.size w w' := by
 have hw := (Below.refl w.heap.size w).alloc (Nat.le_refl _) (.cells #[.int .i64 x.k, .int .i64 x.n, .int .i64 x.a, .int .i64 x.b] 38)
 by_cases hR : RP x t
 ·have h1 := hR.1
  obtain ⟨t, rfl⟩ : ∃ j : Nat, t = j := ⟨t.toNat, by omega⟩
  have hs : szP x t = (firstL x t).length := by unfold szP; rw [if_pos hR, Int.toNat_natCast]
  have hF := objFirst x t hR _ (h.below hw); rw [hs]; unfold ov at *; go_enter Tryz.func46, Tryz.ntmps46; go_wp2_with fail; refine hF.mono ?_; rintro e w1 ⟨V, c, rfl, _, hb1⟩; go_wp2; go_ret; exact ⟨rfl, hw.trans (hb1.mono (by simp))⟩
 ·have hs : szP x t = 0 := by unfold szP; rw [if_neg hR]
  have hF := objFirstN x t hR _ (h.below hw); rw [hs]; unfold ov at *; go_enter Tryz.func46, Tryz.ntmps46; go_wp2_with fail; refine hF.mono ?_; rintro e w1 ⟨rfl, hb1⟩; go_wp2; go_ret; exact ⟨rfl, hw.trans (hb1.mono (by simp))⟩
def Objs (w : World) (A : Option Addr) (n : Nat) (f : Nat → O) : Prop :=
 0 < n → ∃ b off, A = some ⟨b, off, none⟩ ∧ b < w.heap.size ∧ ∀ i, i < n → w.cell? ⟨b, off + i * 4, none⟩ = some (.int .i64 (f i).k) ∧ w.cell? ⟨b, off + i * 4 + 1, none⟩ = some (.int .i64 (f i).n) ∧ w.cell? ⟨b, off + i * 4 + 2, none⟩ = some (.int .i64 (f i).a) ∧ w.cell? ⟨b, off + i * 4 + 3, none⟩ = some (.int .i64 (f i).b)
theorem Objs.below {w w' : World} {A : Option Addr} {n : Nat} {f : Nat → O} (h : Objs w A n f) (hb : Below w.heap.size w w') : Objs w' A n f := fun hn => by
 obtain ⟨b, off, e, hlt, hc⟩ := h hn; refine ⟨b, off, e, Nat.lt_of_lt_of_le hlt hb.size, fun i hi => ?_⟩; rw [hb.cell (p := ⟨b, off + i * 4, none⟩) hlt, hb.cell (p := ⟨b, off + i * 4 + 1, none⟩) hlt, hb.cell (p := ⟨b, off + i * 4 + 2, none⟩) hlt, hb.cell (p := ⟨b, off + i * 4 + 3, none⟩) hlt]; exact hc i hi
theorem objs_ptr {w : World} {A : Option Addr} {n : Nat} {f : Nat → O} (h : Objs w A n f) (hn : 0 < n) : ∃ b off, A = some ⟨b, off, none⟩ := by
 obtain ⟨b, off, e, _⟩ := h hn; exact ⟨b, off, e⟩
theorem at_obj {w w' : World} {b off n : Nat} {f : Nat → O} {i : Nat} (h : Objs w (some ⟨b, off, none⟩) n f) (hb : Below w.heap.size w w') (hi : i < n) :
  w'.cell? ⟨b, off + i * 4, none⟩ = some (.int .i64 (f i).k) ∧ w'.cell? ⟨b, off + i * 4 + 1, none⟩ = some (.int .i64 (f i).n) ∧ w'.cell? ⟨b, off + i * 4 + 2, none⟩ = some (.int .i64 (f i).a) ∧ w'.cell? ⟨b, off + i * 4 + 3, none⟩ = some (.int .i64 (f i).b) := by
 obtain ⟨b', off', e, _, hc⟩ := h.below hb (by omega); injection e with e; injection e with e1 e2; subst e1 e2; exact hc i hi
theorem run_ldobj {o : Oper} {a : Act} {w w0 : World} {n : Nat} {f : Nat → O} (y : Operand) (ho : o.op = .load 38 y) (b off i : Nat) (hA : Objs w0 (some ⟨b, off, none⟩) n f) (hb : Below w0.heap.size w0 w) (hi : i < n) (hx : a.eval y = .pointer (some ⟨b, off + i * 4, none⟩)) : (execOp a.eval o).run Tryz.prog w = .ok (.value (ov (f i))) w := by
 obtain ⟨h0, h1, h2, h3⟩ := at_obj hA hb hi
 have hl : (loadCells ⟨b, off + i * 4, none⟩ 4).run Tryz.prog w = .ok #[.int .i64 (f i).k, .int .i64 (f i).n, .int .i64 (f i).a, .int .i64 (f i).b] w := by
  have := run_loadCells_list (P := Tryz.prog) w ⟨b, off + i * 4, none⟩ [.int .i64 (f i).k, .int .i64 (f i).n, .int .i64 (f i).a, .int .i64 (f i).b] (fun j v hv => by
   rw [add_off]
   match j, hv with
   | 0, hv => simp at hv; rw [← hv]; exact h0
   | 1, hv => simp at hv; rw [← hv]; exact h1
   | 2, hv => simp at hv; rw [← hv]; exact h2
   | 3, hv => simp at hv; rw [← hv]; exact h3
   | j + 4, hv => simp at hv)
  exact this
 have e1 := Tryz.isAgg38; have e2 := Tryz.sizeOf38; unfold execOp; simp only [ho, hx, Instr.loadAt, Instr.sureAddr, Sem.run_bind, Sem.run_pure, Result.andThen_ok]; unfold loadVar; simp only [Sem.run_bind, e1, e2, Result.andThen_ok, if_true, hl, Sem.run_pure]; rfl
def bsP (f : Nat → O) (t : Int) : Nat → Nat
 | 0 => 16
 | k + 1 => bsP f t k + szP (f k) t
theorem bsP_le (f : Nat → O) (t : Int) : ∀ k, bsP f t k ≤ 16 + 60 * k
 | 0 => by simp [bsP]
 | k + 1 => by have := bsP_le f t k; have := szP_le (f k) t; simp only [bsP]; omega
def upTo (n : Nat) (i : Int) : Nat := min i.toNat n
end Go.Proofs.YtbcgngfbbbfebaaGreatDoor
namespace Go.Proofs.YtbcgngfbbbfebaaGreatDoor
open Go.RowKit
set_option maxRecDepth 100000
set_option maxHeartbeats 32000000
set_option linter.unusedVariables false
set_option linter.unusedSimpArgs false
section
variable {ops : Array Oper} {Q : Exit → Act → World → Prop}
end
section
variable {ops : Array Oper} {Q : Exit → Act → World → Prop}
end
theorem objBase (A : Option Addr) (n cn : Nat) (hcn : n ≤ cn) (f : Nat → O) (hn : n ≤ 4000) (t i : Int) (w : World) (hA : Objs w A n f) (h : NmW w) :
  Calls Tryz.prog 20 #[.slice A n cn, .int .i64 t, .int .i64 i] w fun e w' => e = .returned (.int .i64 (bsP f t (upTo n i))) ∧ Below w.heap.size w w' := by
 obtain ⟨m, hm⟩ : ∃ m, Hid (upTo n i = m) := ⟨_, rfl⟩
 have hmn : m ≤ n := by have := hm.out; unfold upTo at this; omega
 rw [hm.out]; go_enter Tryz.func20, Tryz.ntmps20; go_upto_region 2 with (fail); go_cut [16, 17, 18] (fun s16 s17 s18 wx => s16 = .slice A m cn ∧ s17 = .int .i64 m ∧ s18 = .int .i64 0 ∧ wx = w)
 case first =>
  have hm' := hm.out; unfold upTo at hm'
  by_cases h1 : i < 0
  ·obtain rfl : m = 0 := by omega
   clear hm' hm
   have l0 : (0 : Int) ≤ cn := by omega
   have l1 : ¬ (n : Int) < i := by omega
   have e1 : min i (n : Int) = i := by omega
   have e2 : max i 0 = 0 := by omega
   go_wp2_with (fail); go_meet; exact ⟨rfl, rfl, rfl, rfl⟩
  ·obtain ⟨j, rfl⟩ : ∃ j : Nat, i = j := ⟨i.toNat, by omega⟩
   by_cases h2 : j ≤ n
   ·obtain rfl : m = j := by omega
    clear hm' hm h1
    have l0 : (m : Int) ≤ cn := by omega
    have l1 : (0 : Int) ≤ m := by omega
    have e1 : min (m : Int) (n : Int) = m := by omega
    have e2 : max (m : Int) 0 = m := by omega
    go_wp2_with (fail); go_meet; exact ⟨rfl, rfl, rfl, rfl⟩
   ·obtain rfl : m = n := by omega
    clear hm' hm h1
    have l0 : (m : Int) ≤ cn := by omega
    have l1 : (0 : Int) ≤ m := by omega
    have e1 : min (j : Int) (m : Int) = m := by omega
    have e2 : max (m : Int) 0 = m := by omega
    go_wp2_with (fail); go_meet; exact ⟨rfl, rfl, rfl, rfl⟩
 case rest =>
  obtain ⟨rfl, rfl, rfl, hwx⟩ := hcut; obtain ⟨w0, hw0⟩ : ∃ x, x = wc := ⟨_, rfl⟩; subst hw0; subst hwx; go_upto_region 3 with (fail); go_loopw [7, 18] (fun s k wr => ∃ k' : Nat, k' ≤ m ∧ k = .int .i64 k' ∧ s = .int .i64 (bsP f t k') ∧ Below w0.heap.size w0 wr) (fun _ k _ => m - (intOf k).toNat)
  case atStart => exact ⟨0, by omega, rfl, rfl, Below.refl _ _⟩
  case round =>
   obtain ⟨k, hk, rfl, rfl, hb⟩ := hrel
   by_cases hlt : k < m
   ·have hl : (k : Int) < m := by omega
    have hl0 : (0 : Int) ≤ k := by omega
    have hln : (k : Int) < n := by omega
    have hkn : k < n := by omega
    obtain ⟨b, off, rfl⟩ := objs_ptr hA (by omega); have hs1 := bsP_le f t k; have hs2 := szP_le (f k) t; go_upto_region 4 with (fail); refine wp_region_lit ?_; refine wl_val rfl (.pointer (some ⟨b, off + k * 4, none⟩)) ?_ ?_
    ·go_simp
    refine Zk ?_; refine wl_val rfl (ov (f k)) (run_ldobj (.tmp 20) rfl b off k hA hb hkn rfl) ?_; refine Zk ?_; refine wl_alloc rfl 38 rfl (.agg #[.int .i64 0, .int .i64 0, .int .i64 0, .int .i64 0]) #[.int .i64 0, .int .i64 0, .int .i64 0, .int .i64 0] (fun w => by kernel_rfl) rfl (fun w4 b9 X4 l4 f4 => ?_); refine Zk ?_; refine wl_store rfl 38 (.tmp 9) (.tmp 21) rfl b9 #[.int .i64 (f k).k, .int .i64 (f k).n, .int .i64 (f k).a, .int .i64 (f k).b] rfl rfl 38 _ X4 (by kernel_rfl) rfl (by simp [Value.oneCell']) (fun w5 g1 g2 g3 f5 => ?_); refine Zk ?_; have hb5 : Below w0.heap.size w0 w5 := (hb.trans (l4.mono hb.size)).trans (g3 _ (by simp only [Hid] at f4; have := hb.size; omega)); clear X4 l4 f4 g2 g3 f5; go_upto_region 5 with (fail); refine wp_region_lit ?_; refine wl_val rfl (.int .i64 (bsP f t k)) ?_ ?_
    ·go_simp
    refine Zk ?_
    have hlo : ∀ (a : Act) (o : Oper), o.op = .load 38 (.tmp 9) → a.eval (.tmp 9) = .pointer (some ⟨b9, 0, none⟩) → (execOp a.eval o).run Tryz.prog w5 = .ok (.value (ov (f k))) w5 := fun a o ho hx => by
     unfold execOp; simp only [ho, hx, Instr.loadAt, Instr.sureAddr, Sem.run_bind, Sem.run_pure, Result.andThen_ok, run_loadVar_row w5 b9 38 38 _ _ _ g1 Tryz.underlying38 rfl (by kernel_rfl)]; rfl
    refine wl_val rfl (ov (f k)) (hlo _ _ rfl rfl) ?_; refine Zk ?_; refine wl_val rfl (.int .i64 t) ?_ ?_
    ·go_simp
    refine Zk ?_; refine Zc 46 #[ov (f k), .int .i64 t] (.int .i64 (szP (f k) t)) (objSize (f k) t w5 (h.below hb5)) (fun w6 hb6 => ?_); replace hb5 := hb5.trans (hb6.mono hb5.size); clear hlo g1 hb6; refine wl_val rfl (.int .i64 (bsP f t (k + 1))) ?_ ?_
    ·go_simp; try (simp only [bsP, IntKind.wrap_i64]; omega)
    refine Zk ?_; refine wl_val rfl (.int .i64 (bsP f t (k + 1))) ?_ ?_
    ·go_simp
    refine Zk ?_; go_wp2; go_roundw
    case rel => exact ⟨k + 1, by omega, by go_num, rfl, hb5⟩
    case measure => simp [intOf]; omega
   ·have hl : ¬ (k : Int) < m := by omega
    have hkm : k = m := by omega
    subst hkm; go_wp2; go_ret; exact ⟨rfl, hb⟩
end Go.Proofs.YtbcgngfbbbfebaaGreatDoor
namespace Go.Proofs.YtbcgngfbbbfebaaGreatDoor
open Go.RowKit
set_option maxRecDepth 100000
set_option maxHeartbeats 32000000
set_option linter.unusedVariables false
set_option linter.unusedSimpArgs false
def kdN (n : Int) : Nat := if 1 ≤ n ∧ n ≤ 15 then n.toNat else 0
def callsN : Nat → List Nat
 | 0 => []
 | 1 => [1, 2]
 | 2 => [1, 2]
 | 3 => [1, 2]
 | 4 => [1, 2]
 | 5 => [1, 2]
 | 6 => [1, 2]
 | 7 => [1, 2]
 | 8 => [1, 2]
 | 9 => [1, 2, 3, 4]
 | 10 => [1, 2]
 | 11 => [1, 2]
 | 12 => [5, 6, 7, 8]
 | 13 => [9]
 | 14 => [1, 2, 3]
 | 15 => [9, 10]
 | _ => []
theorem kdN_lt (n : Int) : kdN n < 16 := by unfold kdN; split <;> omega
def Ints (w : World) (V : Option Addr) (n : Nat) (l : List Nat) : Prop :=
 0 < n → ∃ b off, V = some ⟨b, off, none⟩ ∧ b < w.heap.size ∧ ∀ i, i < n → w.cell? ⟨b, off + i, none⟩ = some (.int .i64 (l.getD i 0))
theorem ints_row {w : World} {b : Nat} {t : TypeId} {cs : Array Value} (l : List Nat) (h : w.heap[b]? = some (.cells cs t (0, 0))) (hcs : cs = (l.map fun x : Nat => Value.int .i64 (x : Int)).toArray) : Ints w (some ⟨b, 0, none⟩) l.length l := fun _ => ⟨b, 0, rfl, blk_lt h, fun i hi => by
 rw [cell_of_row w b _ cs t _ h, hcs, Nat.zero_add]; simp [hi]⟩
theorem objCalls (n : Int) (w : World) (h : NmW w) : Calls Tryz.prog 66 #[.int .i64 n] w fun e w' => ∃ V c, e = .returned (.slice V (callsN (kdN n)).length c) ∧ Ints w' V (callsN (kdN n)).length (callsN (kdN n)) ∧ Below w.heap.size w w' := by
 obtain ⟨L, hL⟩ : ∃ L, Hid (callsN (kdN n) = L) := ⟨_, rfl⟩; rw [hL.out]
 by_cases e9 : n = 9
 ·subst e9
  obtain rfl : L = [1, 2, 3, 4] := hL.out.symm; go_enter Tryz.func66, Tryz.ntmps66; go_wp2; go_ret
  first | exact ⟨_, _, rfl, ints_row [1, 2, 3, 4] (heap_alloc_new w _) rfl, (Below.refl _ _).alloc (Nat.le_refl _) _⟩ | exact ⟨_, ⟨_, rfl⟩, ints_row [1, 2, 3, 4] (heap_alloc_new w _) rfl, (Below.refl _ _).alloc (Nat.le_refl _) _⟩
 by_cases e12 : n = 12
 ·subst e12
  obtain rfl : L = [5, 6, 7, 8] := hL.out.symm; go_enter Tryz.func66, Tryz.ntmps66; go_wp2; go_ret
  first | exact ⟨_, _, rfl, ints_row [5, 6, 7, 8] (heap_alloc_new w _) rfl, (Below.refl _ _).alloc (Nat.le_refl _) _⟩ | exact ⟨_, ⟨_, rfl⟩, ints_row [5, 6, 7, 8] (heap_alloc_new w _) rfl, (Below.refl _ _).alloc (Nat.le_refl _) _⟩
 by_cases e13 : n = 13
 ·subst e13
  obtain rfl : L = [9] := hL.out.symm; go_enter Tryz.func66, Tryz.ntmps66; go_wp2; go_ret
  first | exact ⟨_, _, rfl, ints_row [9] (heap_alloc_new w _) rfl, (Below.refl _ _).alloc (Nat.le_refl _) _⟩ | exact ⟨_, ⟨_, rfl⟩, ints_row [9] (heap_alloc_new w _) rfl, (Below.refl _ _).alloc (Nat.le_refl _) _⟩
 by_cases e14 : n = 14
 ·subst e14
  obtain rfl : L = [1, 2, 3] := hL.out.symm; go_enter Tryz.func66, Tryz.ntmps66; go_wp2; go_ret
  first | exact ⟨_, _, rfl, ints_row [1, 2, 3] (heap_alloc_new w _) rfl, (Below.refl _ _).alloc (Nat.le_refl _) _⟩ | exact ⟨_, ⟨_, rfl⟩, ints_row [1, 2, 3] (heap_alloc_new w _) rfl, (Below.refl _ _).alloc (Nat.le_refl _) _⟩
 by_cases e15 : n = 15
 ·subst e15
  obtain rfl : L = [9, 10] := hL.out.symm; go_enter Tryz.func66, Tryz.ntmps66; go_wp2; go_ret
  first | exact ⟨_, _, rfl, ints_row [9, 10] (heap_alloc_new w _) rfl, (Below.refl _ _).alloc (Nat.le_refl _) _⟩ | exact ⟨_, ⟨_, rfl⟩, ints_row [9, 10] (heap_alloc_new w _) rfl, (Below.refl _ _).alloc (Nat.le_refl _) _⟩
 have q9 : (n == 9) = false := by simp [e9]
 have q12 : (n == 12) = false := by simp [e12]
 have q13 : (n == 13) = false := by simp [e13]
 have q14 : (n == 14) = false := by simp [e14]
 have q15 : (n == 15) = false := by simp [e15]
 by_cases hk : 1 ≤ n ∧ n ≤ 15
 ·obtain rfl : L = [1, 2] := hL.out.symm.trans (by
   unfold kdN; rw [if_pos hk]; obtain ⟨j, rfl⟩ : ∃ j : Nat, n = j := ⟨n.toNat, by omega⟩
   have : j = 1 ∨ j = 2 ∨ j = 3 ∨ j = 4 ∨ j = 5 ∨ j = 6 ∨ j = 7 ∨ j = 8 ∨ j = 10 ∨ j = 11 := by omega
   rcases this with rfl | rfl | rfl | rfl | rfl | rfl | rfl | rfl | rfl | rfl <;> rfl)
  have hne : (nmOf n).toList.isEmpty = false := nm_ne hk; clear e9 e12 e13 e14 e15; go_enter Tryz.func66, Tryz.ntmps66; go_wp2_with fail; refine (objName n _ h).mono ?_; rintro e w1 ⟨rfl, hw1⟩; subst hw1; go_wp2; go_ret
  first | exact ⟨_, _, rfl, ints_row [1, 2] (heap_alloc_new w1 _) rfl, (Below.refl _ _).alloc (Nat.le_refl _) _⟩ | exact ⟨_, ⟨_, rfl⟩, ints_row [1, 2] (heap_alloc_new w1 _) rfl, (Below.refl _ _).alloc (Nat.le_refl _) _⟩
 ·obtain rfl : L = [] := hL.out.symm.trans (by unfold kdN; rw [if_neg hk]; rfl)
  have hne : (nmOf n).toList.isEmpty = true := nm_eq hk; clear e9 e12 e13 e14 e15; go_enter Tryz.func66, Tryz.ntmps66; go_wp2_with fail; refine (objName n _ h).mono ?_; rintro e w1 ⟨rfl, hw1⟩; subst hw1; go_wp2; go_ret
  first | exact ⟨_, _, rfl, fun h0 => absurd h0 (by simp), Below.refl _ _⟩ | exact ⟨_, ⟨_, rfl⟩, fun h0 => absurd h0 (by simp), Below.refl _ _⟩
end Go.Proofs.YtbcgngfbbbfebaaGreatDoor
namespace Go.Proofs.YtbcgngfbbbfebaaGreatDoor
open Go.RowKit
set_option maxRecDepth 100000
set_option maxHeartbeats 32000000
set_option linter.unusedVariables false
set_option linter.unusedSimpArgs false
def IntsF (w : World) (A : Option Addr) (n : Nat) (f : Nat → Int) : Prop :=
 0 < n → ∃ b off, A = some ⟨b, off, none⟩ ∧ b < w.heap.size ∧ ∀ i, i < n → w.cell? ⟨b, off + i, none⟩ = some (.int .i64 (f i))
theorem IntsF.below {w w' : World} {A : Option Addr} {n : Nat} {f : Nat → Int} (h : IntsF w A n f) (hb : Below w.heap.size w w') : IntsF w' A n f := fun hn => by
 obtain ⟨b, off, e, hlt, hc⟩ := h hn; exact ⟨b, off, e, Nat.lt_of_lt_of_le hlt hb.size, fun i hi => (hb.cell (p := ⟨b, off + i, none⟩) hlt).trans (hc i hi)⟩
theorem ints_ptr {w : World} {A : Option Addr} {n : Nat} {f : Nat → Int} (h : IntsF w A n f) (hn : 0 < n) : ∃ b off, A = some ⟨b, off, none⟩ := by
 obtain ⟨b, off, e, _⟩ := h hn; exact ⟨b, off, e⟩
theorem at_int {w : World} {b off n : Nat} {f : Nat → Int} {i : Nat} (h : IntsF w (some ⟨b, off, none⟩) n f) (hi : i < n) : w.cell? ⟨b, off + i, none⟩ = some (.int .i64 (f i)) := by
 obtain ⟨b', off', e, hlt, hc⟩ := h (by omega); cases e; exact hc i hi
def may (k c : Int) : Bool := (callsN (kdN k)).any fun j => (j : Int) == c
def gF (L : List Nat) (i : Nat) : Int := ((L.getD i 0 : Nat) : Int)
theorem ints_of {w : World} {V : Option Addr} {n : Nat} {l : List Nat} (h : Ints w V n l) : IntsF w V n (gF l) := h
theorem may_t {k c : Int} {i : Nat} (h : i < (callsN (kdN k)).length) (e : gF (callsN (kdN k)) i = c) : may k c = true := by
 unfold may; rw [List.any_eq_true]; refine ⟨(callsN (kdN k))[i], List.getElem_mem h, ?_⟩; unfold gF at e; rw [List.getD_eq_getElem?_getD, List.getElem?_eq_getElem h, Option.getD_some] at e; simp [e]
theorem may_f {k c : Int} (h : ∀ i, i < (callsN (kdN k)).length → gF (callsN (kdN k)) i ≠ c) : may k c = false := by
 unfold may; rw [List.any_eq_false]; intro x hx; obtain ⟨i, hi, rfl⟩ := List.getElem_of_mem hx; have := h i hi; unfold gF at this; rw [List.getD_eq_getElem?_getD, List.getElem?_eq_getElem hi, Option.getD_some] at this
 simpa using this
theorem callsN_le : ∀ k, k < 16 → (callsN k).length ≤ 4 := by decide +kernel
def mayS (o : O) (call threads who : Int) : Bool := if 0 ≤ who ∧ who < threads ∧ rb o threads = true then may o.k call else false
theorem spinMay (o : O) (call threads who : Int) (w : World) (hN : NmW w) : Calls Tryz.prog 37 #[ov o, .int .i64 call, .int .i64 threads, .int .i64 who] w fun e w' => e = .returned (.bool (mayS o call threads who)) ∧ Below w.heap.size w w' := by
 obtain ⟨ok, on, oa, ob⟩ := o
 by_cases h0 : who < 0
 ·rw [show mayS ⟨ok, on, oa, ob⟩ call threads who = false from if_neg (by omega)]
  unfold ov; have hal := (Below.refl w.heap.size w).alloc (Nat.le_refl _) (.cells #[.int .i64 ok, .int .i64 on, .int .i64 oa, .int .i64 ob] 38); go_enter Tryz.func37, Tryz.ntmps37; go_wp2; go_ret; exact ⟨rfl, hal⟩
 by_cases h1 : threads ≤ who
 ·rw [show mayS ⟨ok, on, oa, ob⟩ call threads who = false from if_neg (by omega)]
  unfold ov; have hal := (Below.refl w.heap.size w).alloc (Nat.le_refl _) (.cells #[.int .i64 ok, .int .i64 on, .int .i64 oa, .int .i64 ob] 38); go_enter Tryz.func37, Tryz.ntmps37; go_wp2; go_ret; exact ⟨rfl, hal⟩
 obtain ⟨B, hB⟩ : ∃ B, Hid (mayS ⟨ok, on, oa, ob⟩ call threads who = B) := ⟨_, rfl⟩; rw [hB.out]
 have hB : Hid (B = if rb ⟨ok, on, oa, ob⟩ threads = true then may ok call else false) := by
  show B = _; rw [← hB.out]; unfold mayS
  by_cases hr : rb ⟨ok, on, oa, ob⟩ threads = true
  ·rw [if_pos ⟨by omega, by omega, hr⟩, if_pos hr]
  ·rw [if_neg (fun h => hr h.2.2), if_neg hr]
 have hR := fun w' (hh : Below w.heap.size w w') => objRight ⟨ok, on, oa, ob⟩ threads w' (hN.below hh); have hmt := fun j hj hb => may_t (k := ok) (c := call) (i := j) hj hb; have hmf := may_f (k := ok) (c := call); have hle := callsN_le (kdN ok) (kdN_lt _); generalize may ok call = q at *; generalize rb ⟨ok, on, oa, ob⟩ threads = rbv at *; unfold ov at *; go_enter Tryz.func37, Tryz.ntmps37; go_upto_region 1 with (fail); obtain ⟨W, b1, e0, e1, X1, hal⟩ := box1 w #[.int .i64 ok, .int .i64 on, .int .i64 oa, .int .i64 ob] 38; rw [e0, e1]; clear e0 e1; obtain ⟨y0, y1, y2, y3⟩ := cl4 X1; go_wp2_with fail; refine (hR W hal).mono ?_; rintro e w1 ⟨rfl, hb1⟩; clear y0 y1 y2 y3 hR; replace X1 := keep X1 hb1; replace hal := hal.trans (hb1.mono hal.size); have y0 := cell_of_row w1 b1 0 _ 38 _ X1; cases rbv
 ·obtain rfl : B = false := hB.out
  clear hmt hmf hB; go_wp2; go_ret; exact ⟨rfl, hal⟩
 obtain rfl : B = q := hB.out; clear hB; go_wp2_with fail; refine (objCalls ok w1 (hN.below hal)).mono ?_; rintro e w6 ⟨Vp, cp, rfl, hI, hb6⟩; have hal6 := hal.trans (hb6.mono hal.size); replace hI := ints_of hI; generalize callsN (kdN ok) = L at *; generalize gF L = gg at *; generalize hm : L.length = m at *; clear y0 hb6 X1 hal; go_upto_region 4 with (fail); go_loopw [28] (fun v wr => ∃ j : Nat, v = .int .i64 j ∧ j ≤ m ∧ (∀ p, p < j → gg p ≠ call) ∧ wr = w6) (fun v _ => m - (intOf v).toNat)
 case atStart => exact ⟨0, rfl, Nat.zero_le _, fun p hp => absurd hp (by omega), rfl⟩
 case round =>
  obtain ⟨j, rfl, hj, hno, rfl⟩ := hrel
  by_cases hlt : j < m
  ·have hj0 : (0 : Int) ≤ j := by omega
   have hj1 : (j : Int) < m := by omega
   obtain ⟨bV, oV, rfl, hV, hcV⟩ := hI (by omega); have c := hcV j hlt
   by_cases he : gg j = call
   ·obtain rfl : B = true := hmt j hlt he
    have qe : (gg j == call) = true := by simp [he]
    clear hmt hmf hI hcV hno he; go_wp2; go_ret; exact ⟨rfl, hal6⟩
   ·have qe : (gg j == call) = false := by simp [he]
    have hno' : ∀ p, p < j + 1 → gg p ≠ call := fun p hp => by
     rcases Nat.lt_succ_iff_lt_or_eq.1 hp with h | rfl
     ·exact hno p h
     ·exact he
    clear hmt hmf he hno; go_wp2; go_roundw
    case rel => exact ⟨j + 1, by go_num, by omega, show (∀ p, p < j + 1 → gg p ≠ call) from hno', by first | rfl | trivial⟩
    case measure => simp [intOf]; omega
  ·obtain rfl : j = m := by omega
   obtain rfl : B = false := hmf hno; clear hmt hmf hno
   have hj1 : ¬ (j : Int) < j := by omega
   go_wp2; go_ret; exact ⟨rfl, hal6⟩
end Go.Proofs.YtbcgngfbbbfebaaGreatDoor
namespace Go.Proofs.YtbcgngfbbbfebaaGreatDoor
open Go.RowKit Go.Maps
set_option maxRecDepth 100000
set_option maxHeartbeats 32000000
set_option linter.unusedVariables false
set_option linter.unusedSimpArgs false
attribute [local simp] sz_alu sz_ask sz_cas sz_emit sz_go sz_place sz_set
abbrev s_spin : ByteArray := ⟨#[115, 112, 105, 110]⟩
abbrev s_free : ByteArray := ⟨#[102, 114, 101, 101]⟩
abbrev s_end : ByteArray := ⟨#[101, 110, 100]⟩
abbrev s_mine : ByteArray := ⟨#[109, 105, 110, 101]⟩
abbrev s_got : ByteArray := ⟨#[103, 111, 116]⟩
abbrev s_again : ByteArray := ⟨#[97, 103, 97, 105, 110]⟩
abbrev s_wait : ByteArray := ⟨#[119, 97, 105, 116]⟩
abbrev s_done : ByteArray := ⟨#[100, 111, 110, 101]⟩
abbrev s_look : ByteArray := ⟨#[108, 111, 111, 107]⟩
abbrev s_pass : ByteArray := ⟨#[112, 97, 115, 115]⟩
abbrev s_slow : ByteArray := ⟨#[115, 108, 111, 119]⟩
abbrev s_try : ByteArray := ⟨#[116, 114, 121]⟩
abbrev s_over : ByteArray := ⟨#[111, 118, 101, 114]⟩
abbrev s_yours : ByteArray := ⟨#[121, 111, 117, 114, 115]⟩
abbrev s_reader : ByteArray := ⟨#[114, 101, 97, 100, 101, 114]⟩
abbrev s_sleep : ByteArray := ⟨#[115, 108, 101, 101, 112]⟩
abbrev s_wake : ByteArray := ⟨#[119, 97, 107, 101]⟩
def zeroS (st : BS) (addr : Int) : BS := ((st.set 4 0).ask 17 4 addr)
@[simp] theorem sz_zeroS (st : BS) (addr : Int) : (zeroS st addr).sz = st.sz + 2 := by
 unfold zeroS; simp
theorem zeroC {b : Nat} {F : Nat → Prop} {st : BS} {addr : Int} {w : World} (hB : BMem w b F st) (hs : st.sz ≤ 3900 := by first | omega | (simp <;> omega)) : Calls Tryz.prog 123 #[.pointer (some ⟨b, 0, none⟩), .int .u32 addr] w fun e w' => e = .returned (.tuple #[]) ∧ ∃ F', BMem w' b F' (zeroS st addr) ∧ Upd F F' w w' := by
 go_enter Tryz.func123, Tryz.ntmps123; have hU := Upd.refl F w; go_wp2_with fail; refine (Zx hU (setC hB)).mono ?_; rintro e w' ⟨rfl, F', hB, hU⟩; go_wp2_with fail; refine (Zx hU (askC hB)).mono ?_; rintro e w' ⟨rfl, F', hB, hU⟩; go_wp2; go_end0; exact ⟨rfl, _, hB, hU⟩
def mineS (st : BS) (own t : Int) : BS := (((st.ask 16 4 own).set 5 ((t + 1) % 4294967296)).alu 12 6 4 5)
@[simp] theorem sz_mineS (st : BS) (own t : Int) : (mineS st own t).sz = st.sz + 3 := by
 unfold mineS; simp
theorem mineC {b : Nat} {F : Nat → Prop} {st : BS} {own t : Int} {w : World} (hB : BMem w b F st) (hs : st.sz ≤ 3900 := by first | omega | (simp <;> omega)) : Calls Tryz.prog 172 #[.pointer (some ⟨b, 0, none⟩), .int .u32 own, .int .i64 t] w fun e w' => e = .returned (.tuple #[]) ∧ ∃ F', BMem w' b F' (mineS st own t) ∧ Upd F F' w w' := by
 go_enter Tryz.func172, Tryz.ntmps172; have hU := Upd.refl F w; go_wp2_with fail; refine (Zx hU (askC hB)).mono ?_; rintro e w' ⟨rfl, F', hB, hU⟩; go_wp2_with fail; refine (Zx hU (setC hB)).mono ?_; rintro e w' ⟨rfl, F', hB, hU⟩; go_wp2_with fail; refine (Zx hU (aluC hB)).mono ?_; rintro e w' ⟨rfl, F', hB, hU⟩; go_wp2; go_end0; exact ⟨rfl, _, hB, hU⟩
def claimS (st : BS) (own t : Int) : BS := (((((mineS st own t).go 14 6 s_free).set 7 1).go 13 0 s_end).place s_free)
@[simp] theorem sz_claimS (st : BS) (own t : Int) : (claimS st own t).sz = st.sz + 9 := by
 unfold claimS; simp
theorem claimC {b : Nat} {F : Nat → Prop} {st : BS} {own t : Int} {w : World} (hB : BMem w b F st) (hs : st.sz ≤ 3800 := by first | omega | (simp <;> omega)) : Calls Tryz.prog 117 #[.pointer (some ⟨b, 0, none⟩), .int .u32 own, .int .i64 t] w fun e w' => e = .returned (.tuple #[]) ∧ ∃ F', BMem w' b F' (claimS st own t) ∧ Upd F F' w w' := by
 go_enter Tryz.func117, Tryz.ntmps117; have hU := Upd.refl F w; go_wp2_with fail; refine (Zx hU (mineC hB)).mono ?_; rintro e w' ⟨rfl, F', hB, hU⟩; go_wp2_with fail; refine (Zx hU (goC hB)).mono ?_; rintro e w' ⟨rfl, F', hB, hU⟩; go_wp2_with fail; refine (Zx hU (setC hB)).mono ?_; rintro e w' ⟨rfl, F', hB, hU⟩; go_wp2_with fail; refine (Zx hU (goC hB)).mono ?_; rintro e w' ⟨rfl, F', hB, hU⟩; go_wp2_with fail
 refine (Zx hU (placeC hB nm_free (by decide) (by first | omega | (simp <;> omega)))).mono ?_
 rintro e w' ⟨rfl, F', hB, hU⟩; go_wp2; go_end0; exact ⟨rfl, _, hB, hU⟩
def proveS (st : BS) (own t : Int) : BS := (((((mineS st own t).go 15 6 s_mine).set 7 2).go 13 0 s_end).place s_mine)
@[simp] theorem sz_proveS (st : BS) (own t : Int) : (proveS st own t).sz = st.sz + 9 := by
 unfold proveS; simp
theorem proveC {b : Nat} {F : Nat → Prop} {st : BS} {own t : Int} {w : World} (hB : BMem w b F st) (hs : st.sz ≤ 3800 := by first | omega | (simp <;> omega)) : Calls Tryz.prog 121 #[.pointer (some ⟨b, 0, none⟩), .int .u32 own, .int .i64 t] w fun e w' => e = .returned (.tuple #[]) ∧ ∃ F', BMem w' b F' (proveS st own t) ∧ Upd F F' w w' := by
 go_enter Tryz.func121, Tryz.ntmps121; have hU := Upd.refl F w; go_wp2_with fail; refine (Zx hU (mineC hB)).mono ?_; rintro e w' ⟨rfl, F', hB, hU⟩; go_wp2_with fail; refine (Zx hU (goC hB)).mono ?_; rintro e w' ⟨rfl, F', hB, hU⟩; go_wp2_with fail; refine (Zx hU (setC hB)).mono ?_; rintro e w' ⟨rfl, F', hB, hU⟩; go_wp2_with fail; refine (Zx hU (goC hB)).mono ?_; rintro e w' ⟨rfl, F', hB, hU⟩; go_wp2_with fail
 refine (Zx hU (placeC hB nm_mine (by decide) (by first | omega | (simp <;> omega)))).mono ?_
 rintro e w' ⟨rfl, F', hB, hU⟩; go_wp2; go_end0; exact ⟨rfl, _, hB, hU⟩
def closeS (st : BS) : BS := ((st.set 7 0).place s_end)
@[simp] theorem sz_closeS (st : BS) : (closeS st).sz = st.sz + 2 := by
 unfold closeS; simp
theorem closeC {b : Nat} {F : Nat → Prop} {st : BS}  {w : World} (hB : BMem w b F st) (hs : st.sz ≤ 3900 := by first | omega | (simp <;> omega)) : Calls Tryz.prog 124 #[.pointer (some ⟨b, 0, none⟩)] w fun e w' => e = .returned (.tuple #[]) ∧ ∃ F', BMem w' b F' (closeS st) ∧ Upd F F' w w' := by
 go_enter Tryz.func124, Tryz.ntmps124; have hU := Upd.refl F w; go_wp2_with fail; refine (Zx hU (setC hB)).mono ?_; rintro e w' ⟨rfl, F', hB, hU⟩; go_wp2_with fail
 refine (Zx hU (placeC hB nm_end (by decide) (by first | omega | (simp <;> omega)))).mono ?_
 rintro e w' ⟨rfl, F', hB, hU⟩; go_wp2; go_end0; exact ⟨rfl, _, hB, hU⟩
def tasS (st : BS) (base : Int) : BS := ((((st.place s_spin).set 4 0).cas 4 5 base).go 15 4 s_spin)
@[simp] theorem sz_tasS (st : BS) (base : Int) : (tasS st base).sz = st.sz + 5 := by
 unfold tasS; simp
theorem tasC {b : Nat} {F : Nat → Prop} {st : BS} {base : Int} {w : World} (hB : BMem w b F st) (hs : st.sz ≤ 3800 := by first | omega | (simp <;> omega)) : Calls Tryz.prog 118 #[.pointer (some ⟨b, 0, none⟩), .int .u32 base] w fun e w' => e = .returned (.tuple #[]) ∧ ∃ F', BMem w' b F' (tasS st base) ∧ Upd F F' w w' := by
 go_enter Tryz.func118, Tryz.ntmps118; have hU := Upd.refl F w; go_wp2_with fail
 refine (Zx hU (placeC hB nm_spin (by decide) (by first | omega | (simp <;> omega)))).mono ?_
 rintro e w' ⟨rfl, F', hB, hU⟩; go_wp2_with fail; refine (Zx hU (setC hB)).mono ?_; rintro e w' ⟨rfl, F', hB, hU⟩; go_wp2_with fail; refine (Zx hU (casC hB)).mono ?_; rintro e w' ⟨rfl, F', hB, hU⟩; go_wp2_with fail; refine (Zx hU (goC hB)).mono ?_; rintro e w' ⟨rfl, F', hB, hU⟩; go_wp2; go_end0; exact ⟨rfl, _, hB, hU⟩
def ttasS (st : BS) (base : Int) : BS := (((((st.place s_spin).ask 16 4 base).go 15 4 s_spin).cas 4 5 base).go 15 4 s_spin)
@[simp] theorem sz_ttasS (st : BS) (base : Int) : (ttasS st base).sz = st.sz + 7 := by
 unfold ttasS; simp
theorem ttasC {b : Nat} {F : Nat → Prop} {st : BS} {base : Int} {w : World} (hB : BMem w b F st) (hs : st.sz ≤ 3800 := by first | omega | (simp <;> omega)) : Calls Tryz.prog 119 #[.pointer (some ⟨b, 0, none⟩), .int .u32 base] w fun e w' => e = .returned (.tuple #[]) ∧ ∃ F', BMem w' b F' (ttasS st base) ∧ Upd F F' w w' := by
 go_enter Tryz.func119, Tryz.ntmps119; have hU := Upd.refl F w; go_wp2_with fail
 refine (Zx hU (placeC hB nm_spin (by decide) (by first | omega | (simp <;> omega)))).mono ?_
 rintro e w' ⟨rfl, F', hB, hU⟩; go_wp2_with fail; refine (Zx hU (askC hB)).mono ?_; rintro e w' ⟨rfl, F', hB, hU⟩; go_wp2_with fail; refine (Zx hU (goC hB)).mono ?_; rintro e w' ⟨rfl, F', hB, hU⟩; go_wp2_with fail; refine (Zx hU (casC hB)).mono ?_; rintro e w' ⟨rfl, F', hB, hU⟩; go_wp2_with fail; refine (Zx hU (goC hB)).mono ?_; rintro e w' ⟨rfl, F', hB, hU⟩; go_wp2; go_end0; exact ⟨rfl, _, hB, hU⟩
def ticketS (st : BS) (base : Int) : BS := (((((((st.set 4 1).ask 20 4 (base % 4294967296)).place s_spin).ask 16 6 ((base + 1) % 4294967296)).alu 12 6 6 4).go 14 6 s_spin).ask 17 5 ((base + 2) % 4294967296))
@[simp] theorem sz_ticketS (st : BS) (base : Int) : (ticketS st base).sz = st.sz + 8 := by
 unfold ticketS; simp
theorem ticketC {b : Nat} {F : Nat → Prop} {st : BS} {base : Int} {w : World} (hB : BMem w b F st) (hs : st.sz ≤ 3800 := by first | omega | (simp <;> omega)) : Calls Tryz.prog 120 #[.pointer (some ⟨b, 0, none⟩), .int .u32 base] w fun e w' => e = .returned (.tuple #[]) ∧ ∃ F', BMem w' b F' (ticketS st base) ∧ Upd F F' w w' := by
 go_enter Tryz.func120, Tryz.ntmps120; have hU := Upd.refl F w; go_wp2_with fail; refine (Zx hU (setC hB)).mono ?_; rintro e w' ⟨rfl, F', hB, hU⟩; go_wp2_with fail; refine (Zx hU (askC hB)).mono ?_; rintro e w' ⟨rfl, F', hB, hU⟩; go_wp2_with fail
 refine (Zx hU (placeC hB nm_spin (by decide) (by first | omega | (simp <;> omega)))).mono ?_
 rintro e w' ⟨rfl, F', hB, hU⟩; go_wp2_with fail; refine (Zx hU (askC hB)).mono ?_; rintro e w' ⟨rfl, F', hB, hU⟩; go_wp2_with fail; refine (Zx hU (aluC hB)).mono ?_; rintro e w' ⟨rfl, F', hB, hU⟩; go_wp2_with fail; refine (Zx hU (goC hB)).mono ?_; rintro e w' ⟨rfl, F', hB, hU⟩; go_wp2_with fail; refine (Zx hU (askC hB)).mono ?_; rintro e w' ⟨rfl, F', hB, hU⟩; go_wp2; go_end0; exact ⟨rfl, _, hB, hU⟩
def passS (st : BS) (base : Int) : BS := (((((zeroS st ((base + 2) % 4294967296)).ask 16 4 ((base + 1) % 4294967296)).set 6 1).alu 3 4 4 6).ask 17 4 ((base + 1) % 4294967296))
@[simp] theorem sz_passS (st : BS) (base : Int) : (passS st base).sz = st.sz + 6 := by
 unfold passS; simp
theorem passC {b : Nat} {F : Nat → Prop} {st : BS} {base : Int} {w : World} (hB : BMem w b F st) (hs : st.sz ≤ 3800 := by first | omega | (simp <;> omega)) : Calls Tryz.prog 122 #[.pointer (some ⟨b, 0, none⟩), .int .u32 base] w fun e w' => e = .returned (.tuple #[]) ∧ ∃ F', BMem w' b F' (passS st base) ∧ Upd F F' w w' := by
 go_enter Tryz.func122, Tryz.ntmps122; have hU := Upd.refl F w; go_wp2_with fail; refine (Zx hU (zeroC hB)).mono ?_; rintro e w' ⟨rfl, F', hB, hU⟩; go_wp2_with fail; refine (Zx hU (askC hB)).mono ?_; rintro e w' ⟨rfl, F', hB, hU⟩; go_wp2_with fail; refine (Zx hU (setC hB)).mono ?_; rintro e w' ⟨rfl, F', hB, hU⟩; go_wp2_with fail; refine (Zx hU (aluC hB)).mono ?_; rintro e w' ⟨rfl, F', hB, hU⟩; go_wp2_with fail; refine (Zx hU (askC hB)).mono ?_; rintro e w' ⟨rfl, F', hB, hU⟩; go_wp2; go_end0; exact ⟨rfl, _, hB, hU⟩
end Go.Proofs.YtbcgngfbbbfebaaGreatDoor
