/- The anchor; how long a client is; Keeps and Rises. -/
import Derived.Test.YtlcoealfnlakhaaDoorWalk
import Derived.Test.YtlcoealfnlakhaaDoorWalk28
namespace Go.Proofs.YtlcoealfnlakhaaDoor
open Go.RowKit
set_option linter.unusedVariables false
set_option linter.unusedSimpArgs false
def cl0 (A W T : Option Addr) (tp : Nat → Option Addr) : Cl := ⟨A, 1, 1, fun _ => ⟨1, 0, 0, 0⟩, 0, W, 0, 0, fun _ => 0, 1, T, 1, 1, tp, fun _ => 2, fun _ => 2, fun _ _ => ⟨7, 0, 1, 0⟩⟩
theorem kp_awake (A W T : Option Addr) (tp : Nat → Option Addr) : kp false (cl0 A W T tp) = (0, 1, 7) := by rfl
set_option maxRecDepth 100000 in
theorem clKeeps (C : Cl) (w : World) (hM : MemC w C) (hN : NmW w) : Calls Tryd.prog 14 #[C.v] w fun e w' => e = .returned (r3 (kp false C)) ∧ Below w.heap.size w w' := by
  have hal := (Below.refl w.heap.size w).alloc (Nat.le_refl _) (.cells #[.slice C.A C.no C.ca, .int .i64 C.vars, .slice C.W C.nw C.cw, .int .i64 C.room, .slice C.T C.nt C.ct] 26)
  have hc := walk24 C _ (hM.below hal) (hN.below hal)
  generalize kp false C = p at *
  unfold Cl.v r3 at *
  go_enter Tryd.func14, Tryd.ntmps14
  go_wp2_with fail
  refine hc.mono ?_
  rintro e w1 ⟨rfl, hb1⟩
  go_wp2
  go_ret3
  exact ⟨rfl, hal.trans (hb1.mono hal.size)⟩
set_option maxRecDepth 100000 in
theorem clRises (C : Cl) (w : World) (hM : MemC w C) (hN : NmW w) : Calls Tryd.prog 16 #[C.v] w fun e w' => e = .returned (r3 (kp true C)) ∧ Below w.heap.size w w' := by
  have hal := (Below.refl w.heap.size w).alloc (Nat.le_refl _) (.cells #[.slice C.A C.no C.ca, .int .i64 C.vars, .slice C.W C.nw C.cw, .int .i64 C.room, .slice C.T C.nt C.ct] 26)
  have hc := walk28 C _ (hM.below hal) (hN.below hal)
  generalize kp true C = p at *
  unfold Cl.v r3 at *
  go_enter Tryd.func16, Tryd.ntmps16
  go_wp2_with fail
  refine hc.mono ?_
  rintro e w1 ⟨rfl, hb1⟩
  go_wp2
  go_ret3
  exact ⟨rfl, hal.trans (hb1.mono hal.size)⟩
theorem awake_mem (w : World) : MemC ((((w.alloc (.cells #[.int .i64 7, .int .i64 0, .int .i64 1, .int .u32 0] 37)).alloc (.cells #[.int .i64 1, .int .i64 0, .int .i64 0, .int .i64 0] 43)).alloc (.cells #[.int .i64 7, .int .i64 0, .int .i64 1, .int .u32 0, .int .i64 7, .int .i64 0, .int .i64 1, .int .u32 0] 37)).alloc (.cells #[.slice (some ⟨w.heap.size + 1 + 1, 0, none⟩) 2 2] 40))
    (cl0 (some ⟨w.heap.size + 1, 0, none⟩) none (some ⟨w.heap.size + 1 + 1 + 1, 0, none⟩) fun _ => some ⟨w.heap.size + 1 + 1, 0, none⟩) := by
  have e1 : (w.alloc (.cells #[.int .i64 7, .int .i64 0, .int .i64 1, .int .u32 0] 37)).heap.size = w.heap.size + 1 := by simp
  generalize (w.alloc (.cells #[.int .i64 7, .int .i64 0, .int .i64 1, .int .u32 0] 37)) = w1 at *
  rw [← e1]
  have e2 : (w1.alloc (.cells #[.int .i64 1, .int .i64 0, .int .i64 0, .int .i64 0] 43)).heap.size = w1.heap.size + 1 := by simp
  have h2 := heap_alloc_new w1 (.cells #[.int .i64 1, .int .i64 0, .int .i64 0, .int .i64 0] 43)
  generalize (w1.alloc (.cells #[.int .i64 1, .int .i64 0, .int .i64 0, .int .i64 0] 43)) = w2 at *
  rw [← e2]
  have e3 : (w2.alloc (.cells #[.int .i64 7, .int .i64 0, .int .i64 1, .int .u32 0, .int .i64 7, .int .i64 0, .int .i64 1, .int .u32 0] 37)).heap.size = w2.heap.size + 1 := by simp
  have h3 := heap_alloc_new w2 (.cells #[.int .i64 7, .int .i64 0, .int .i64 1, .int .u32 0, .int .i64 7, .int .i64 0, .int .i64 1, .int .u32 0] 37)
  replace h2 := keep h2 ((Below.refl _ _).alloc (Nat.le_refl _) (.cells #[.int .i64 7, .int .i64 0, .int .i64 1, .int .u32 0, .int .i64 7, .int .i64 0, .int .i64 1, .int .u32 0] 37))
  generalize (w2.alloc (.cells #[.int .i64 7, .int .i64 0, .int .i64 1, .int .u32 0, .int .i64 7, .int .i64 0, .int .i64 1, .int .u32 0] 37)) = w3 at *
  rw [← e3]
  have h4 := heap_alloc_new w3 (.cells #[.slice (some ⟨w2.heap.size, 0, none⟩) 2 2] 40)
  replace h2 := keep h2 ((Below.refl _ _).alloc (Nat.le_refl _) (.cells #[.slice (some ⟨w2.heap.size, 0, none⟩) 2 2] 40))
  replace h3 := keep h3 ((Below.refl _ _).alloc (Nat.le_refl _) (.cells #[.slice (some ⟨w2.heap.size, 0, none⟩) 2 2] 40))
  generalize (w3.alloc (.cells #[.slice (some ⟨w2.heap.size, 0, none⟩) 2 2] 40)) = w4 at *
  refine ⟨fun _ => ⟨_, _, rfl, blk_lt h2, fun i hi => ?_⟩, fun h => absurd h (by simp [cl0]), fun _ => ⟨_, _, rfl, blk_lt h4, fun i hi => ?_⟩, fun t ht _ => ⟨_, _, rfl, blk_lt h3, fun i hi => ?_⟩, Nat.le_refl _, Nat.le_refl _, Nat.le_refl _, fun _ _ => Nat.le_refl _, fun _ _ => by simp [cl0], fun _ _ _ _ => by simp [cl0]⟩
  · have hi' : i < 1 := hi
    obtain rfl : i = 0 := by omega
    simp only [cell_of_row w4 w1.heap.size _ _ 43 _ h2]
    exact ⟨rfl, rfl, rfl, rfl⟩
  · have hi' : i < 1 := hi
    obtain rfl : i = 0 := by omega
    rw [cell_of_row w4 w3.heap.size _ _ 40 _ h4]
    rfl
  · have hi' : i < 2 := hi
    have : i = 0 ∨ i = 1 := by omega
    simp only [cell_of_row w4 w2.heap.size _ _ 37 _ h3]
    rcases this with rfl | rfl <;> exact ⟨rfl, rfl, rfl, rfl⟩
set_option maxRecDepth 100000 in
theorem awake (w : World) (hN : NmW w) : Calls Tryd.prog 8 #[] w fun e w' => e = .returned (.bool true) ∧ Below w.heap.size w w' := by
  have hal := ((((Below.refl w.heap.size w).alloc (Nat.le_refl _) (.cells #[.int .i64 7, .int .i64 0, .int .i64 1, .int .u32 0] 37)).alloc (by simp) (.cells #[.int .i64 1, .int .i64 0, .int .i64 0, .int .i64 0] 43)).alloc (by simp; omega) (.cells #[.int .i64 7, .int .i64 0, .int .i64 1, .int .u32 0, .int .i64 7, .int .i64 0, .int .i64 1, .int .u32 0] 37)).alloc (by simp; omega) (.cells #[.slice (some ⟨w.heap.size + 1 + 1, 0, none⟩) 2 2] 40)
  have hc := clKeeps _ _ (awake_mem w) (hN.below hal)
  rw [kp_awake] at hc
  go_enter Tryd.func8, Tryd.ntmps8
  go_wp2_with fail
  refine hc.mono ?_
  rintro e w1 ⟨rfl, hb1⟩
  unfold r3
  go_wp2
  go_ret
  exact ⟨rfl, hal.trans (hb1.mono hal.size)⟩
def longB (C : Cl) : Bool := decide (600 < C.nw) || decide (40 < C.nt) || decide (40 < C.no) || (List.range C.nt).any fun t => decide (100 < C.len t)
def lgI (C : Cl) : Int := if longB C = true then 1 else 0
set_option maxRecDepth 100000 in
set_option maxHeartbeats 2000000 in
theorem longC (C : Cl) (w : World) (hM : MemC w C) : Calls Tryd.prog 9 #[C.v] w fun e w' => e = .returned (.int .i64 (lgI C)) ∧ Below w.heap.size w w' := by
  have hal := (Below.refl w.heap.size w).alloc (Nat.le_refl _) (.cells #[.slice C.A C.no C.ca, .int .i64 C.vars, .slice C.W C.nw C.cw, .int .i64 C.room, .slice C.T C.nt C.ct] 26)
  have lt : longB C = true → lgI C = 1 := fun h => if_pos h
  have lf : longB C = false → lgI C = 0 := fun h => if_neg (by rw [h]; exact Bool.false_ne_true)
  generalize lgI C = res at *
  by_cases h1 : 600 < C.nw
  · obtain rfl : res = 1 := lt (by simp [longB, h1])
    have h1' : 600 < (C.nw : Int) := by omega
    clear lt lf
    unfold Cl.v
    go_enter Tryd.func9, Tryd.ntmps9
    go_wp2
    go_ret
    exact ⟨rfl, hal⟩
  have h1' : ¬ (600 < (C.nw : Int)) := by omega
  by_cases h2 : 40 < C.nt
  · obtain rfl : res = 1 := lt (by simp [longB, h2])
    have h2' : 40 < (C.nt : Int) := by omega
    clear lt lf
    unfold Cl.v
    go_enter Tryd.func9, Tryd.ntmps9
    go_wp2
    go_ret
    exact ⟨rfl, hal⟩
  have h2' : ¬ (40 < (C.nt : Int)) := by omega
  by_cases h3 : 40 < C.no
  · obtain rfl : res = 1 := lt (by simp [longB, h3])
    have h3' : 40 < (C.no : Int) := by omega
    clear lt lf
    unfold Cl.v
    go_enter Tryd.func9, Tryd.ntmps9
    go_wp2
    go_ret
    exact ⟨rfl, hal⟩
  have h3' : ¬ (40 < (C.no : Int)) := by omega
  have lt' : ∀ t, t < C.nt → 100 < C.len t → res = 1 := fun t ht hl => lt (by
    unfold longB
    rw [Bool.or_eq_true]; right
    rw [List.any_eq_true]
    exact ⟨t, List.mem_range.2 ht, decide_eq_true hl⟩)
  have lf' : (∀ t, t < C.nt → ¬ 100 < C.len t) → res = 0 := fun hh => lf (by
    unfold longB
    rw [decide_eq_false h1, decide_eq_false h2, decide_eq_false h3, Bool.false_or, Bool.false_or, Bool.false_or, List.any_eq_false]
    intro t ht
    simpa using hh t (List.mem_range.1 ht))
  clear lt lf hal
  unfold Cl.v
  go_enter Tryd.func9, Tryd.ntmps9
  go_upto_region 5 with (fail)
  obtain ⟨W, b1, e0, e1, X1, hal⟩ := box1 w #[.slice C.A C.no C.ca, .int .i64 C.vars, .slice C.W C.nw C.cw, .int .i64 C.room, .slice C.T C.nt C.ct] 26
  rw [e0, e1]
  clear e0 e1
  have y4 := cell_of_row W b1 4 _ 26 _ X1
  go_loopw [4] (fun v wr => ∃ k : Nat, v = .int .i64 k ∧ k ≤ C.nt ∧ (∀ j, j < k → ¬ 100 < C.len j) ∧ wr = W) (fun v _ => C.nt - (intOf v).toNat)
  case atStart => exact ⟨0, rfl, Nat.zero_le _, fun p hp => absurd hp (by omega), rfl⟩
  case round =>
    obtain ⟨k, rfl, hk, hpre, rfl⟩ := hrel
    by_cases hlt : k < C.nt
    case neg =>
      have hkn : k = C.nt := by omega
      have hl1 : ¬ ((k : Int) < C.nt) := by omega
      rw [hkn] at hpre
      obtain rfl : res = 0 := lf' hpre
      clear lt' lf' hpre hkn
      go_wp2
      go_ret
      exact ⟨rfl, hal⟩
    have hl0 : (0 : Int) ≤ k := by omega
    have hl1 : (k : Int) < C.nt := by omega
    obtain ⟨bA, oA, eA⟩ := thr_ptr hM.thr (by omega)
    have hA := hM.thr
    rw [eA] at hA y4
    try rw [eA]
    have cA := at_thr (hA.below hal) hlt
    by_cases hlen : 100 < C.len k
    · have hlen' : 100 < (C.len k : Int) := by omega
      obtain rfl : res = 1 := lt' k hlt hlen
      clear lt' lf' hpre
      go_wp2
      go_ret
      exact ⟨rfl, hal⟩
    · have hlen' : ¬ (100 < (C.len k : Int)) := by omega
      have hpre' : ∀ p, p < k + 1 → ¬ 100 < C.len p := fun p hp => by
        rcases Nat.lt_succ_iff_lt_or_eq.1 hp with h | rfl
        · exact hpre p h
        · exact hlen
      clear lt' lf' hpre
      go_wp2
      go_roundw
      case rel => exact ⟨k + 1, by go_num, by omega, hpre', by first | rfl | trivial⟩
      case measure => simp [intOf]; omega
end Go.Proofs.YtlcoealfnlakhaaDoor
