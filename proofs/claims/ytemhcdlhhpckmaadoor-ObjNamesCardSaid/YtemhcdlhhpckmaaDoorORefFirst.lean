/- The reference's First: letter by letter. -/
import Derived.Test.YtemhcdlhhpckmaaDoorOFirst
namespace Go.Proofs.YtemhcdlhhpckmaaDoor
open Go.RowKit
set_option linter.unusedVariables false
set_option linter.unusedSimpArgs false
def wsB : Nat → ByteArray
  | 0 => ⟨#[]⟩
  | 1 => ⟨#[111]⟩
  | 2 => ⟨#[111]⟩
  | 3 => ⟨#[110, 115, 111]⟩
  | 4 => ⟨#[116, 111, 78, 87]⟩
  | 5 => ⟨#[116, 111, 70, 102, 77, 80]⟩
  | 6 => ⟨#[97, 98, 117, 111]⟩
  | 7 => ⟨#[102, 115, 111]⟩
  | 8 => ⟨#[98, 114, 108, 111]⟩
  | 9 => ⟨#[115, 111]⟩
  | 10 => ⟨#[115, 111]⟩
  | 11 => ⟨#[99]⟩
  | 12 => ⟨#[115, 78]⟩
  | 13 => ⟨#[99, 112]⟩
  | 14 => ⟨#[115, 77]⟩
  | 15 => ⟨#[115, 111]⟩
  | _ => ⟨#[]⟩
set_option maxRecDepth 100000 in
set_option maxHeartbeats 4000000 in
theorem refWords (k : Nat) (hk : k ≤ 15) (w : World) : Calls Tryd.prog 27 #[.int .i64 k] w fun e w' => e = .returned (.string (wsB k)) ∧ Below w.heap.size w w' := by
  have : k = 0 ∨ k = 1 ∨ k = 2 ∨ k = 3 ∨ k = 4 ∨ k = 5 ∨ k = 6 ∨ k = 7 ∨ k = 8 ∨ k = 9 ∨ k = 10 ∨ k = 11 ∨ k = 12 ∨ k = 13 ∨ k = 14 ∨ k = 15 := by omega
  rcases this with rfl | rfl | rfl | rfl | rfl | rfl | rfl | rfl | rfl | rfl | rfl | rfl | rfl | rfl | rfl | rfl
  all_goals
    go_enter Tryd.func27, Tryd.ntmps27
    go_wp2
    go_ret
    exact ⟨rfl, (Below.refl _ _).alloc (Nat.le_refl _) _⟩
theorem ws_size : ∀ k, k ≤ 15 → (wsB k).size = (lettersOf k).length ∧ (lettersOf k).length ≤ 6 := by decide +kernel
theorem ws_at : ∀ k, k ≤ 15 → ∀ i, i < (lettersOf k).length → ((wsB k).data.getD i 0).toNat = (lettersOf k).getD i 0 := by decide +kernel
theorem ws_get {k i : Nat} (hk : k ≤ 15) (hi : i < (wsB k).size) : (wsB k)[i].toNat = (lettersOf k).getD i 0 := by
  rw [← ws_at k hk i (by rw [← (ws_size k hk).1]; exact hi)]
  congr 1
  have h : i < (wsB k).data.size := hi
  simp [Array.getD, h, ByteArray.getElem_eq_getElem_data]
  intro h'
  exact absurd hi (by omega)
def preL (k n : Int) (t : Nat) (i : Nat) : List Int := (List.range i).flatMap fun j => letterW k n t ((lettersOf k.toNat).getD j 0)
theorem preL_succ (k n : Int) (t i : Nat) : preL k n t (i + 1) = preL k n t i ++ letterW k n t ((lettersOf k.toNat).getD i 0) := by simp [preL, List.range_succ]
theorem range_getD {α β : Type} (f : α → List β) (d : α) : ∀ l : List α, ((List.range l.length).flatMap fun j => f (l.getD j d)) = l.flatMap f
  | [] => rfl
  | x :: l => by
    have ih := range_getD f d l
    rw [List.length_cons, List.range_succ_eq_map, List.flatMap_cons, List.flatMap_map, List.flatMap_cons]
    congr 1
theorem preL_all (k n : Int) (t : Nat) : preL k n t (lettersOf k.toNat).length = (lettersOf k.toNat).flatMap (letterW k n t) := range_getD _ _ _
theorem lv_succ (k n : Int) (t c q : Nat) : (List.range (q + 1)).map (letterV k n t c) = (List.range q).map (letterV k n t c) ++ [letterV k n t c q] := by simp [List.range_succ]
set_option maxRecDepth 100000 in
set_option maxHeartbeats 8000000 in
theorem refFirst (x : O) (t : Nat) (hR : RP x t) (w : World) : Calls Tryd.prog 16 #[ov x, .int .i64 t] w fun e w' => ∃ V c, e = .returned (.slice V (firstL x t).length c) ∧ Wd w' V (firstL x t).length (pt (firstL x t)) ∧ Below w.heap.size w w' := by
  obtain ⟨k, n, a, b⟩ := x
  have ht : 1 ≤ t ∧ t ≤ 8 := by have h1 := hR.1; have h2 := hR.2.1; omega
  have h3 := hR.2.2
  simp only at h3
  obtain ⟨k, rfl⟩ : ∃ j : Nat, k = j := ⟨k.toNat, by omega⟩
  have hk : 1 ≤ k ∧ k ≤ 15 := by omega
  have hn0 : 0 ≤ n ∧ n ≤ 1000 := by omega
  have hn9 : k = 9 → n ≤ 3 := by omega
  obtain ⟨n, rfl⟩ : ∃ j : Nat, n = j := ⟨n.toNat, by omega⟩
  have hwn : IntKind.u32.wrap (n : Int) = n := by simp [IntKind.wrap, IntKind.bits, IntKind.signed]; omega
  have hwt : IntKind.u32.wrap (t : Int) = t := by simp [IntKind.wrap, IntKind.bits, IntKind.signed]; omega
  clear h3 hR
  obtain ⟨hsz, hm6⟩ := ws_size k hk.2
  have hfl : firstL ⟨k, n, a, b⟩ t = preL k n t (lettersOf k).length ++ (if k = 9 then List.replicate n 0 else []) := by
    unfold firstL
    simp only [Int.toNat_natCast]
    rw [show preL (k : Int) n t (lettersOf k).length = (lettersOf k).flatMap (letterW k n t) from preL_all k n t]
    congr 1
    by_cases e : k = 9
    · subst e; rfl
    · rw [if_neg e, if_neg (by omega)]
  obtain ⟨Lz, hLz⟩ : ∃ L : List Int, Hid ((if k = 9 then List.replicate n 0 else []) = L) := ⟨_, rfl⟩
  rw [hLz.out] at hfl
  rw [hfl]
  clear hfl
  obtain ⟨FL, hFL⟩ : ∃ L, Hid (preL (k : Int) n t (lettersOf k).length ++ Lz = L) := ⟨_, rfl⟩
  rw [hFL.out]
  obtain ⟨NL, hNL⟩ : ∃ N, Hid (FL.length = N) := ⟨_, rfl⟩
  rw [hNL.out]
  have hW := refWords k hk.2
  obtain ⟨m, hm⟩ : ∃ m, (lettersOf k).length = m := ⟨_, rfl⟩
  rw [hm] at hsz hm6 hFL
  have hget : ∀ i, (h : i < (wsB k).size) → (wsB k)[i].toNat = (lettersOf k).getD i 0 := fun i h => ws_get hk.2 h
  generalize wsB k = s at *
  unfold ov
  go_enter Tryd.func16, Tryd.ntmps16
  go_wp2_with fail
  refine (hW _).mono ?_
  rintro e w1 ⟨rfl, hb1⟩
  have X := keep (heap_alloc_new w (.cells #[.int .i64 k, .int .i64 n, .int .i64 a, .int .i64 b] 27)) hb1
  have hB : Below w.heap.size w w1 := ((Below.refl _ _).alloc (Nat.le_refl _) _).trans (hb1.mono (by simp))
  clear hb1 hW
  go_upto_region 4 with (fail)
  go_loopw [5, 7] (fun v i wr => ∃ i' : Nat, i' ≤ m ∧ i = .int .i64 i' ∧ OwnU wr w1.heap.size v (preL k n t i') ∧ (preL k n t i').length ≤ 8 * i' ∧ Below w1.heap.size w1 wr) (fun _ i _ => m - (intOf i).toNat)
  case atStart => exact ⟨0, by omega, rfl, World.ownsRow_nil _ _ _ _, by simp [preL], Below.refl _ _⟩
  case round =>
    obtain ⟨i, hi, rfl, hO, hlen, hb⟩ := hrel
    by_cases hlt : i < m
    · have hl : (i : Int) < m := by omega
      have hl0 : (0 : Int) ≤ i := by omega
      have his : i < s.size := by omega
      have hc := hget i his
      obtain ⟨c, hcc⟩ : ∃ c, (lettersOf k).getD i 0 = c := ⟨_, rfl⟩
      rw [hcc] at hc
      have hpre := preL_succ k n t i
      rw [Int.toNat_natCast, hcc] at hpre
      unfold letterW at hpre
      clear hget hcc
      obtain ⟨wi, ewi⟩ : ∃ x, x = wr := ⟨_, rfl⟩
      subst ewi
      have hOi := hO
      clear hO
      by_cases g1 : 65 ≤ c
      · have g1' : (65 : Int) ≤ c := by omega
        by_cases g2 : c ≤ 90
        · have g2' : (c : Int) ≤ 90 := by omega
          have hM : isGreat c = true := by simp [isGreat, g1, g2]
          rw [hM, if_pos rfl] at hpre
          obtain ⟨M, hMt⟩ : ∃ M, Hid (t = M) := ⟨_, rfl⟩
          have hM8 : M ≤ 8 := by have := hMt.out; omega
          rw [show List.range t = List.range M by rw [hMt.out]] at hpre
          go_upto_region 10 with (fail)
          go_loopw [5, 9] (fun v q wr => ∃ q' : Nat, q' ≤ M ∧ q = .int .i64 q' ∧ OwnU wr w1.heap.size v (preL k n t i ++ (List.range q').map (letterV k n t c)) ∧ Below w1.heap.size w1 wr) (fun _ q _ => M - (intOf q).toNat)
          case atStart => exact ⟨0, by omega, rfl, by rw [List.range_zero, List.map_nil, List.append_nil]; exact hOi, hb⟩
          case round =>
            clear hOi hb
            obtain ⟨q, hq, rfl, hO, hb⟩ := hrel
            by_cases hqM : q < M
            · have lq : (q : Int) < t := by have := hMt.out; omega
              have lq0 : (0 : Int) ≤ q := by omega
              have hwq : IntKind.u32.wrap (q : Int) = q := by simp [IntKind.wrap, IntKind.bits, IntKind.signed]; omega
              have Xr := keep X hb
              have x0 := cell_of_row wr _ 0 _ 27 _ Xr
              have x1 := cell_of_row wr _ 1 _ 27 _ Xr
              have hll : (preL (↑k) (↑n) t i ++ (List.range q).map (letterV (↑k) (↑n) t c)).length ≤ 4000 := by simp; omega
              by_cases k11 : k = 11
              · have hv : letterV k n t c q = n := by simp [letterV, k11]
                have k11t : ((k : Int) == 11) = true := by simp; omega
                have k11f : ((k : Int) == 5) = false := by simp; omega
                clear k11
                go_upto_region 19 with (fail)
                refine wp_region_lit ?_
                iterate 2
                  refine wl_val rfl ?_ ?_ ?_
                  rotate_left
                  · go_simp; try with_reducible rfl
                  intro K hK
                  go_simp
                  refine hK _ _ ?_
                  clear hK K
                refine wl_bu rfl (.tmp 66) rfl n rfl (fun w4 b4 X4 h4 => ?_)
                intro K hK
                go_simp
                refine hK _ _ ?_
                clear hK K
                refine wl_apu rfl (.tmp 65) (.tmp 67) rfl w1.heap.size _ _ rfl (ownU_keep hO h4) b4 n rfl X4 hll (Nat.le_trans hb.size h4.size) (fun v5 w5 O5 g5 => ?_)
                have hb5 : Below w1.heap.size w1 w5 := (hb.trans (h4.mono hb.size)).grown g5 (Nat.le_trans hb.size h4.size) (ownU_lt (ownU_keep hO h4))
                replace O5 : OwnU w5 w1.heap.size v5 (preL k n t i ++ (List.range (q + 1)).map (letterV k n t c)) := by rw [lv_succ, hv, ← List.append_assoc]; exact O5
                intro K hK
                go_simp
                refine hK _ _ ?_
                clear hK K
                refine wl_val rfl v5 ?_ ?_
                · go_simp
                intro K hK
                go_simp
                refine hK _ _ ?_
                clear hK K
                go_wp2
                go_roundw
                case rel => exact ⟨q + 1, by omega, by go_num, O5, hb5⟩
                case measure => simp [intOf]; omega
              · have k11' : ((k : Int) == 11) = false := by simp; omega
                have k11i : ¬ ((k : Int) = 11) := by omega
                by_cases k5 : k = 5
                · by_cases c116 : c = 116
                  · have hv : letterV k n t c q = t := by simp [letterV, k5, c116]
                    have k5t : ((k : Int) == 5) = true := by simp; omega
                    have ct : ((c : Int) == 116) = true := by simp; omega
                    have cf : ((c : Int) == 77) = false := by simp; omega
                    clear k5 c116
                    go_upto_region 19 with (fail)
                    refine wp_region_lit ?_
                    iterate 2
                      refine wl_val rfl ?_ ?_ ?_
                      rotate_left
                      · go_simp; try with_reducible rfl
                      intro K hK
                      go_simp
                      refine hK _ _ ?_
                      clear hK K
                    refine wl_bu rfl (.tmp 66) rfl t rfl (fun w4 b4 X4 h4 => ?_)
                    intro K hK
                    go_simp
                    refine hK _ _ ?_
                    clear hK K
                    refine wl_apu rfl (.tmp 65) (.tmp 67) rfl w1.heap.size _ _ rfl (ownU_keep hO h4) b4 t rfl X4 hll (Nat.le_trans hb.size h4.size) (fun v5 w5 O5 g5 => ?_)
                    have hb5 : Below w1.heap.size w1 w5 := (hb.trans (h4.mono hb.size)).grown g5 (Nat.le_trans hb.size h4.size) (ownU_lt (ownU_keep hO h4))
                    replace O5 : OwnU w5 w1.heap.size v5 (preL k n t i ++ (List.range (q + 1)).map (letterV k n t c)) := by rw [lv_succ, hv, ← List.append_assoc]; exact O5
                    intro K hK
                    go_simp
                    refine hK _ _ ?_
                    clear hK K
                    refine wl_val rfl v5 ?_ ?_
                    · go_simp
                    intro K hK
                    go_simp
                    refine hK _ _ ?_
                    clear hK K
                    go_wp2
                    go_roundw
                    case rel => exact ⟨q + 1, by omega, by go_num, O5, hb5⟩
                    case measure => simp [intOf]; omega
                  · have c116' : ((c : Int) == 116) = false := by simp; omega
                    by_cases c77 : c = 77
                    · have hv : letterV k n t c q = q := by simp [letterV, k5, c77]
                      have k5t : ((k : Int) == 5) = true := by simp; omega
                      have ct : ((c : Int) == 77) = true := by simp; omega
                      clear k5 c77
                      go_upto_region 19 with (fail)
                      refine wp_region_lit ?_
                      iterate 2
                        refine wl_val rfl ?_ ?_ ?_
                        rotate_left
                        · go_simp; try with_reducible rfl
                        intro K hK
                        go_simp
                        refine hK _ _ ?_
                        clear hK K
                      refine wl_bu rfl (.tmp 66) rfl q rfl (fun w4 b4 X4 h4 => ?_)
                      intro K hK
                      go_simp
                      refine hK _ _ ?_
                      clear hK K
                      refine wl_apu rfl (.tmp 65) (.tmp 67) rfl w1.heap.size _ _ rfl (ownU_keep hO h4) b4 q rfl X4 hll (Nat.le_trans hb.size h4.size) (fun v5 w5 O5 g5 => ?_)
                      have hb5 : Below w1.heap.size w1 w5 := (hb.trans (h4.mono hb.size)).grown g5 (Nat.le_trans hb.size h4.size) (ownU_lt (ownU_keep hO h4))
                      replace O5 : OwnU w5 w1.heap.size v5 (preL k n t i ++ (List.range (q + 1)).map (letterV k n t c)) := by rw [lv_succ, hv, ← List.append_assoc]; exact O5
                      intro K hK
                      go_simp
                      refine hK _ _ ?_
                      clear hK K
                      refine wl_val rfl v5 ?_ ?_
                      · go_simp
                      intro K hK
                      go_simp
                      refine hK _ _ ?_
                      clear hK K
                      go_wp2
                      go_roundw
                      case rel => exact ⟨q + 1, by omega, by go_num, O5, hb5⟩
                      case measure => simp [intOf]; omega
                    · have c77' : ((c : Int) == 77) = false := by simp; omega
                      have hv : letterV k n t c q = 0 := by simp [letterV, k5, c77, c116]
                      have k5t : ((k : Int) == 5) = true := by simp; omega
                      clear k5
                      go_upto_region 19 with (fail)
                      refine wp_region_lit ?_
                      iterate 2
                        refine wl_val rfl ?_ ?_ ?_
                        rotate_left
                        · go_simp; try with_reducible rfl
                        intro K hK
                        go_simp
                        refine hK _ _ ?_
                        clear hK K
                      refine wl_bu rfl (.tmp 66) rfl 0 rfl (fun w4 b4 X4 h4 => ?_)
                      intro K hK
                      go_simp
                      refine hK _ _ ?_
                      clear hK K
                      refine wl_apu rfl (.tmp 65) (.tmp 67) rfl w1.heap.size _ _ rfl (ownU_keep hO h4) b4 0 rfl X4 hll (Nat.le_trans hb.size h4.size) (fun v5 w5 O5 g5 => ?_)
                      have hb5 : Below w1.heap.size w1 w5 := (hb.trans (h4.mono hb.size)).grown g5 (Nat.le_trans hb.size h4.size) (ownU_lt (ownU_keep hO h4))
                      replace O5 : OwnU w5 w1.heap.size v5 (preL k n t i ++ (List.range (q + 1)).map (letterV k n t c)) := by rw [lv_succ, hv, ← List.append_assoc]; exact O5
                      intro K hK
                      go_simp
                      refine hK _ _ ?_
                      clear hK K
                      refine wl_val rfl v5 ?_ ?_
                      · go_simp
                      intro K hK
                      go_simp
                      refine hK _ _ ?_
                      clear hK K
                      go_wp2
                      go_roundw
                      case rel => exact ⟨q + 1, by omega, by go_num, O5, hb5⟩
                      case measure => simp [intOf]; omega
                · have k5' : ((k : Int) == 5) = false := by simp; omega
                  have k5i : ¬ ((k : Int) = 5) := by omega
                  have hv : letterV k n t c q = 0 := by simp [letterV, k5i, k11i]
                  go_upto_region 19 with (fail)
                  refine wp_region_lit ?_
                  iterate 2
                    refine wl_val rfl ?_ ?_ ?_
                    rotate_left
                    · go_simp; try with_reducible rfl
                    intro K hK
                    go_simp
                    refine hK _ _ ?_
                    clear hK K
                  refine wl_bu rfl (.tmp 66) rfl 0 rfl (fun w4 b4 X4 h4 => ?_)
                  intro K hK
                  go_simp
                  refine hK _ _ ?_
                  clear hK K
                  refine wl_apu rfl (.tmp 65) (.tmp 67) rfl w1.heap.size _ _ rfl (ownU_keep hO h4) b4 0 rfl X4 hll (Nat.le_trans hb.size h4.size) (fun v5 w5 O5 g5 => ?_)
                  have hb5 : Below w1.heap.size w1 w5 := (hb.trans (h4.mono hb.size)).grown g5 (Nat.le_trans hb.size h4.size) (ownU_lt (ownU_keep hO h4))
                  replace O5 : OwnU w5 w1.heap.size v5 (preL k n t i ++ (List.range (q + 1)).map (letterV k n t c)) := by rw [lv_succ, hv, ← List.append_assoc]; exact O5
                  intro K hK
                  go_simp
                  refine hK _ _ ?_
                  clear hK K
                  refine wl_val rfl v5 ?_ ?_
                  · go_simp
                  intro K hK
                  go_simp
                  refine hK _ _ ?_
                  clear hK K
                  go_wp2
                  go_roundw
                  case rel => exact ⟨q + 1, by omega, by go_num, O5, hb5⟩
                  case measure => simp [intOf]; omega
            · have lq : ¬ (q : Int) < t := by have := hMt.out; omega
              have hqq : q = M := by omega
              rw [hqq] at hO
              go_wp2
              go_roundw
              case rel => exact ⟨i + 1, by omega, by go_num, by rw [hpre]; exact hO, by rw [hpre]; simp; omega, hb⟩
              case measure => simp [intOf]; omega
        · have g2' : ¬ (c : Int) ≤ 90 := by omega
          have hM : isGreat c = false := by simp [isGreat, g2]
          rw [hM, if_neg (by simp)] at hpre
          go_upto_region 10 with (fail)
          go_loopw [5, 9] (fun v q wr => ∃ q' : Nat, q' ≤ 1 ∧ q = .int .i64 q' ∧ OwnU wr w1.heap.size v (preL k n t i ++ (List.range q').map (letterV k n t c)) ∧ Below w1.heap.size w1 wr) (fun _ q _ => 1 - (intOf q).toNat)
          case atStart => exact ⟨0, by omega, rfl, by rw [List.range_zero, List.map_nil, List.append_nil]; exact hOi, hb⟩
          case round =>
            clear hOi hb
            obtain ⟨q, hq, rfl, hO, hb⟩ := hrel
            by_cases hqM : q < 1
            · have lq : (q : Int) < 1 := by omega
              have lq0 : (0 : Int) ≤ q := by omega
              have hwq : IntKind.u32.wrap (q : Int) = q := by simp [IntKind.wrap, IntKind.bits, IntKind.signed]; omega
              have Xr := keep X hb
              have x0 := cell_of_row wr _ 0 _ 27 _ Xr
              have x1 := cell_of_row wr _ 1 _ 27 _ Xr
              have hll : (preL (↑k) (↑n) t i ++ (List.range q).map (letterV (↑k) (↑n) t c)).length ≤ 4000 := by simp; omega
              by_cases k11 : k = 11
              · have hv : letterV k n t c q = n := by simp [letterV, k11]
                have k11t : ((k : Int) == 11) = true := by simp; omega
                have k11f : ((k : Int) == 5) = false := by simp; omega
                clear k11
                go_upto_region 19 with (fail)
                refine wp_region_lit ?_
                iterate 2
                  refine wl_val rfl ?_ ?_ ?_
                  rotate_left
                  · go_simp; try with_reducible rfl
                  intro K hK
                  go_simp
                  refine hK _ _ ?_
                  clear hK K
                refine wl_bu rfl (.tmp 66) rfl n rfl (fun w4 b4 X4 h4 => ?_)
                intro K hK
                go_simp
                refine hK _ _ ?_
                clear hK K
                refine wl_apu rfl (.tmp 65) (.tmp 67) rfl w1.heap.size _ _ rfl (ownU_keep hO h4) b4 n rfl X4 hll (Nat.le_trans hb.size h4.size) (fun v5 w5 O5 g5 => ?_)
                have hb5 : Below w1.heap.size w1 w5 := (hb.trans (h4.mono hb.size)).grown g5 (Nat.le_trans hb.size h4.size) (ownU_lt (ownU_keep hO h4))
                replace O5 : OwnU w5 w1.heap.size v5 (preL k n t i ++ (List.range (q + 1)).map (letterV k n t c)) := by rw [lv_succ, hv, ← List.append_assoc]; exact O5
                intro K hK
                go_simp
                refine hK _ _ ?_
                clear hK K
                refine wl_val rfl v5 ?_ ?_
                · go_simp
                intro K hK
                go_simp
                refine hK _ _ ?_
                clear hK K
                go_wp2
                go_roundw
                case rel => exact ⟨q + 1, by omega, by go_num, O5, hb5⟩
                case measure => simp [intOf]; omega
              · have k11' : ((k : Int) == 11) = false := by simp; omega
                have k11i : ¬ ((k : Int) = 11) := by omega
                by_cases k5 : k = 5
                · by_cases c116 : c = 116
                  · have hv : letterV k n t c q = t := by simp [letterV, k5, c116]
                    have k5t : ((k : Int) == 5) = true := by simp; omega
                    have ct : ((c : Int) == 116) = true := by simp; omega
                    have cf : ((c : Int) == 77) = false := by simp; omega
                    clear k5 c116
                    go_upto_region 19 with (fail)
                    refine wp_region_lit ?_
                    iterate 2
                      refine wl_val rfl ?_ ?_ ?_
                      rotate_left
                      · go_simp; try with_reducible rfl
                      intro K hK
                      go_simp
                      refine hK _ _ ?_
                      clear hK K
                    refine wl_bu rfl (.tmp 66) rfl t rfl (fun w4 b4 X4 h4 => ?_)
                    intro K hK
                    go_simp
                    refine hK _ _ ?_
                    clear hK K
                    refine wl_apu rfl (.tmp 65) (.tmp 67) rfl w1.heap.size _ _ rfl (ownU_keep hO h4) b4 t rfl X4 hll (Nat.le_trans hb.size h4.size) (fun v5 w5 O5 g5 => ?_)
                    have hb5 : Below w1.heap.size w1 w5 := (hb.trans (h4.mono hb.size)).grown g5 (Nat.le_trans hb.size h4.size) (ownU_lt (ownU_keep hO h4))
                    replace O5 : OwnU w5 w1.heap.size v5 (preL k n t i ++ (List.range (q + 1)).map (letterV k n t c)) := by rw [lv_succ, hv, ← List.append_assoc]; exact O5
                    intro K hK
                    go_simp
                    refine hK _ _ ?_
                    clear hK K
                    refine wl_val rfl v5 ?_ ?_
                    · go_simp
                    intro K hK
                    go_simp
                    refine hK _ _ ?_
                    clear hK K
                    go_wp2
                    go_roundw
                    case rel => exact ⟨q + 1, by omega, by go_num, O5, hb5⟩
                    case measure => simp [intOf]; omega
                  · have c116' : ((c : Int) == 116) = false := by simp; omega
                    by_cases c77 : c = 77
                    · have hv : letterV k n t c q = q := by simp [letterV, k5, c77]
                      have k5t : ((k : Int) == 5) = true := by simp; omega
                      have ct : ((c : Int) == 77) = true := by simp; omega
                      clear k5 c77
                      go_upto_region 19 with (fail)
                      refine wp_region_lit ?_
                      iterate 2
                        refine wl_val rfl ?_ ?_ ?_
                        rotate_left
                        · go_simp; try with_reducible rfl
                        intro K hK
                        go_simp
                        refine hK _ _ ?_
                        clear hK K
                      refine wl_bu rfl (.tmp 66) rfl q rfl (fun w4 b4 X4 h4 => ?_)
                      intro K hK
                      go_simp
                      refine hK _ _ ?_
                      clear hK K
                      refine wl_apu rfl (.tmp 65) (.tmp 67) rfl w1.heap.size _ _ rfl (ownU_keep hO h4) b4 q rfl X4 hll (Nat.le_trans hb.size h4.size) (fun v5 w5 O5 g5 => ?_)
                      have hb5 : Below w1.heap.size w1 w5 := (hb.trans (h4.mono hb.size)).grown g5 (Nat.le_trans hb.size h4.size) (ownU_lt (ownU_keep hO h4))
                      replace O5 : OwnU w5 w1.heap.size v5 (preL k n t i ++ (List.range (q + 1)).map (letterV k n t c)) := by rw [lv_succ, hv, ← List.append_assoc]; exact O5
                      intro K hK
                      go_simp
                      refine hK _ _ ?_
                      clear hK K
                      refine wl_val rfl v5 ?_ ?_
                      · go_simp
                      intro K hK
                      go_simp
                      refine hK _ _ ?_
                      clear hK K
                      go_wp2
                      go_roundw
                      case rel => exact ⟨q + 1, by omega, by go_num, O5, hb5⟩
                      case measure => simp [intOf]; omega
                    · have c77' : ((c : Int) == 77) = false := by simp; omega
                      have hv : letterV k n t c q = 0 := by simp [letterV, k5, c77, c116]
                      have k5t : ((k : Int) == 5) = true := by simp; omega
                      clear k5
                      go_upto_region 19 with (fail)
                      refine wp_region_lit ?_
                      iterate 2
                        refine wl_val rfl ?_ ?_ ?_
                        rotate_left
                        · go_simp; try with_reducible rfl
                        intro K hK
                        go_simp
                        refine hK _ _ ?_
                        clear hK K
                      refine wl_bu rfl (.tmp 66) rfl 0 rfl (fun w4 b4 X4 h4 => ?_)
                      intro K hK
                      go_simp
                      refine hK _ _ ?_
                      clear hK K
                      refine wl_apu rfl (.tmp 65) (.tmp 67) rfl w1.heap.size _ _ rfl (ownU_keep hO h4) b4 0 rfl X4 hll (Nat.le_trans hb.size h4.size) (fun v5 w5 O5 g5 => ?_)
                      have hb5 : Below w1.heap.size w1 w5 := (hb.trans (h4.mono hb.size)).grown g5 (Nat.le_trans hb.size h4.size) (ownU_lt (ownU_keep hO h4))
                      replace O5 : OwnU w5 w1.heap.size v5 (preL k n t i ++ (List.range (q + 1)).map (letterV k n t c)) := by rw [lv_succ, hv, ← List.append_assoc]; exact O5
                      intro K hK
                      go_simp
                      refine hK _ _ ?_
                      clear hK K
                      refine wl_val rfl v5 ?_ ?_
                      · go_simp
                      intro K hK
                      go_simp
                      refine hK _ _ ?_
                      clear hK K
                      go_wp2
                      go_roundw
                      case rel => exact ⟨q + 1, by omega, by go_num, O5, hb5⟩
                      case measure => simp [intOf]; omega
                · have k5' : ((k : Int) == 5) = false := by simp; omega
                  have k5i : ¬ ((k : Int) = 5) := by omega
                  have hv : letterV k n t c q = 0 := by simp [letterV, k5i, k11i]
                  go_upto_region 19 with (fail)
                  refine wp_region_lit ?_
                  iterate 2
                    refine wl_val rfl ?_ ?_ ?_
                    rotate_left
                    · go_simp; try with_reducible rfl
                    intro K hK
                    go_simp
                    refine hK _ _ ?_
                    clear hK K
                  refine wl_bu rfl (.tmp 66) rfl 0 rfl (fun w4 b4 X4 h4 => ?_)
                  intro K hK
                  go_simp
                  refine hK _ _ ?_
                  clear hK K
                  refine wl_apu rfl (.tmp 65) (.tmp 67) rfl w1.heap.size _ _ rfl (ownU_keep hO h4) b4 0 rfl X4 hll (Nat.le_trans hb.size h4.size) (fun v5 w5 O5 g5 => ?_)
                  have hb5 : Below w1.heap.size w1 w5 := (hb.trans (h4.mono hb.size)).grown g5 (Nat.le_trans hb.size h4.size) (ownU_lt (ownU_keep hO h4))
                  replace O5 : OwnU w5 w1.heap.size v5 (preL k n t i ++ (List.range (q + 1)).map (letterV k n t c)) := by rw [lv_succ, hv, ← List.append_assoc]; exact O5
                  intro K hK
                  go_simp
                  refine hK _ _ ?_
                  clear hK K
                  refine wl_val rfl v5 ?_ ?_
                  · go_simp
                  intro K hK
                  go_simp
                  refine hK _ _ ?_
                  clear hK K
                  go_wp2
                  go_roundw
                  case rel => exact ⟨q + 1, by omega, by go_num, O5, hb5⟩
                  case measure => simp [intOf]; omega
            · have lq : ¬ (q : Int) < 1 := by omega
              have hqq : q = 1 := by omega
              rw [hqq] at hO
              go_wp2
              go_roundw
              case rel => exact ⟨i + 1, by omega, by go_num, by rw [hpre]; exact hO, by rw [hpre]; simp; omega, hb⟩
              case measure => simp [intOf]; omega
      · have g1' : ¬ (65 : Int) ≤ c := by omega
        have hM : isGreat c = false := by simp [isGreat, g1]
        rw [hM, if_neg (by simp)] at hpre
        go_upto_region 10 with (fail)
        go_loopw [5, 9] (fun v q wr => ∃ q' : Nat, q' ≤ 1 ∧ q = .int .i64 q' ∧ OwnU wr w1.heap.size v (preL k n t i ++ (List.range q').map (letterV k n t c)) ∧ Below w1.heap.size w1 wr) (fun _ q _ => 1 - (intOf q).toNat)
        case atStart => exact ⟨0, by omega, rfl, by rw [List.range_zero, List.map_nil, List.append_nil]; exact hOi, hb⟩
        case round =>
          clear hOi hb
          obtain ⟨q, hq, rfl, hO, hb⟩ := hrel
          by_cases hqM : q < 1
          · have lq : (q : Int) < 1 := by omega
            have lq0 : (0 : Int) ≤ q := by omega
            have hwq : IntKind.u32.wrap (q : Int) = q := by simp [IntKind.wrap, IntKind.bits, IntKind.signed]; omega
            have Xr := keep X hb
            have x0 := cell_of_row wr _ 0 _ 27 _ Xr
            have x1 := cell_of_row wr _ 1 _ 27 _ Xr
            have hll : (preL (↑k) (↑n) t i ++ (List.range q).map (letterV (↑k) (↑n) t c)).length ≤ 4000 := by simp; omega
            by_cases k11 : k = 11
            · have hv : letterV k n t c q = n := by simp [letterV, k11]
              have k11t : ((k : Int) == 11) = true := by simp; omega
              have k11f : ((k : Int) == 5) = false := by simp; omega
              clear k11
              go_upto_region 19 with (fail)
              refine wp_region_lit ?_
              iterate 2
                refine wl_val rfl ?_ ?_ ?_
                rotate_left
                · go_simp; try with_reducible rfl
                intro K hK
                go_simp
                refine hK _ _ ?_
                clear hK K
              refine wl_bu rfl (.tmp 66) rfl n rfl (fun w4 b4 X4 h4 => ?_)
              intro K hK
              go_simp
              refine hK _ _ ?_
              clear hK K
              refine wl_apu rfl (.tmp 65) (.tmp 67) rfl w1.heap.size _ _ rfl (ownU_keep hO h4) b4 n rfl X4 hll (Nat.le_trans hb.size h4.size) (fun v5 w5 O5 g5 => ?_)
              have hb5 : Below w1.heap.size w1 w5 := (hb.trans (h4.mono hb.size)).grown g5 (Nat.le_trans hb.size h4.size) (ownU_lt (ownU_keep hO h4))
              replace O5 : OwnU w5 w1.heap.size v5 (preL k n t i ++ (List.range (q + 1)).map (letterV k n t c)) := by rw [lv_succ, hv, ← List.append_assoc]; exact O5
              intro K hK
              go_simp
              refine hK _ _ ?_
              clear hK K
              refine wl_val rfl v5 ?_ ?_
              · go_simp
              intro K hK
              go_simp
              refine hK _ _ ?_
              clear hK K
              go_wp2
              go_roundw
              case rel => exact ⟨q + 1, by omega, by go_num, O5, hb5⟩
              case measure => simp [intOf]; omega
            · have k11' : ((k : Int) == 11) = false := by simp; omega
              have k11i : ¬ ((k : Int) = 11) := by omega
              by_cases k5 : k = 5
              · by_cases c116 : c = 116
                · have hv : letterV k n t c q = t := by simp [letterV, k5, c116]
                  have k5t : ((k : Int) == 5) = true := by simp; omega
                  have ct : ((c : Int) == 116) = true := by simp; omega
                  have cf : ((c : Int) == 77) = false := by simp; omega
                  clear k5 c116
                  go_upto_region 19 with (fail)
                  refine wp_region_lit ?_
                  iterate 2
                    refine wl_val rfl ?_ ?_ ?_
                    rotate_left
                    · go_simp; try with_reducible rfl
                    intro K hK
                    go_simp
                    refine hK _ _ ?_
                    clear hK K
                  refine wl_bu rfl (.tmp 66) rfl t rfl (fun w4 b4 X4 h4 => ?_)
                  intro K hK
                  go_simp
                  refine hK _ _ ?_
                  clear hK K
                  refine wl_apu rfl (.tmp 65) (.tmp 67) rfl w1.heap.size _ _ rfl (ownU_keep hO h4) b4 t rfl X4 hll (Nat.le_trans hb.size h4.size) (fun v5 w5 O5 g5 => ?_)
                  have hb5 : Below w1.heap.size w1 w5 := (hb.trans (h4.mono hb.size)).grown g5 (Nat.le_trans hb.size h4.size) (ownU_lt (ownU_keep hO h4))
                  replace O5 : OwnU w5 w1.heap.size v5 (preL k n t i ++ (List.range (q + 1)).map (letterV k n t c)) := by rw [lv_succ, hv, ← List.append_assoc]; exact O5
                  intro K hK
                  go_simp
                  refine hK _ _ ?_
                  clear hK K
                  refine wl_val rfl v5 ?_ ?_
                  · go_simp
                  intro K hK
                  go_simp
                  refine hK _ _ ?_
                  clear hK K
                  go_wp2
                  go_roundw
                  case rel => exact ⟨q + 1, by omega, by go_num, O5, hb5⟩
                  case measure => simp [intOf]; omega
                · have c116' : ((c : Int) == 116) = false := by simp; omega
                  by_cases c77 : c = 77
                  · have hv : letterV k n t c q = q := by simp [letterV, k5, c77]
                    have k5t : ((k : Int) == 5) = true := by simp; omega
                    have ct : ((c : Int) == 77) = true := by simp; omega
                    clear k5 c77
                    go_upto_region 19 with (fail)
                    refine wp_region_lit ?_
                    iterate 2
                      refine wl_val rfl ?_ ?_ ?_
                      rotate_left
                      · go_simp; try with_reducible rfl
                      intro K hK
                      go_simp
                      refine hK _ _ ?_
                      clear hK K
                    refine wl_bu rfl (.tmp 66) rfl q rfl (fun w4 b4 X4 h4 => ?_)
                    intro K hK
                    go_simp
                    refine hK _ _ ?_
                    clear hK K
                    refine wl_apu rfl (.tmp 65) (.tmp 67) rfl w1.heap.size _ _ rfl (ownU_keep hO h4) b4 q rfl X4 hll (Nat.le_trans hb.size h4.size) (fun v5 w5 O5 g5 => ?_)
                    have hb5 : Below w1.heap.size w1 w5 := (hb.trans (h4.mono hb.size)).grown g5 (Nat.le_trans hb.size h4.size) (ownU_lt (ownU_keep hO h4))
                    replace O5 : OwnU w5 w1.heap.size v5 (preL k n t i ++ (List.range (q + 1)).map (letterV k n t c)) := by rw [lv_succ, hv, ← List.append_assoc]; exact O5
                    intro K hK
                    go_simp
                    refine hK _ _ ?_
                    clear hK K
                    refine wl_val rfl v5 ?_ ?_
                    · go_simp
                    intro K hK
                    go_simp
                    refine hK _ _ ?_
                    clear hK K
                    go_wp2
                    go_roundw
                    case rel => exact ⟨q + 1, by omega, by go_num, O5, hb5⟩
                    case measure => simp [intOf]; omega
                  · have c77' : ((c : Int) == 77) = false := by simp; omega
                    have hv : letterV k n t c q = 0 := by simp [letterV, k5, c77, c116]
                    have k5t : ((k : Int) == 5) = true := by simp; omega
                    clear k5
                    go_upto_region 19 with (fail)
                    refine wp_region_lit ?_
                    iterate 2
                      refine wl_val rfl ?_ ?_ ?_
                      rotate_left
                      · go_simp; try with_reducible rfl
                      intro K hK
                      go_simp
                      refine hK _ _ ?_
                      clear hK K
                    refine wl_bu rfl (.tmp 66) rfl 0 rfl (fun w4 b4 X4 h4 => ?_)
                    intro K hK
                    go_simp
                    refine hK _ _ ?_
                    clear hK K
                    refine wl_apu rfl (.tmp 65) (.tmp 67) rfl w1.heap.size _ _ rfl (ownU_keep hO h4) b4 0 rfl X4 hll (Nat.le_trans hb.size h4.size) (fun v5 w5 O5 g5 => ?_)
                    have hb5 : Below w1.heap.size w1 w5 := (hb.trans (h4.mono hb.size)).grown g5 (Nat.le_trans hb.size h4.size) (ownU_lt (ownU_keep hO h4))
                    replace O5 : OwnU w5 w1.heap.size v5 (preL k n t i ++ (List.range (q + 1)).map (letterV k n t c)) := by rw [lv_succ, hv, ← List.append_assoc]; exact O5
                    intro K hK
                    go_simp
                    refine hK _ _ ?_
                    clear hK K
                    refine wl_val rfl v5 ?_ ?_
                    · go_simp
                    intro K hK
                    go_simp
                    refine hK _ _ ?_
                    clear hK K
                    go_wp2
                    go_roundw
                    case rel => exact ⟨q + 1, by omega, by go_num, O5, hb5⟩
                    case measure => simp [intOf]; omega
              · have k5' : ((k : Int) == 5) = false := by simp; omega
                have k5i : ¬ ((k : Int) = 5) := by omega
                have hv : letterV k n t c q = 0 := by simp [letterV, k5i, k11i]
                go_upto_region 19 with (fail)
                refine wp_region_lit ?_
                iterate 2
                  refine wl_val rfl ?_ ?_ ?_
                  rotate_left
                  · go_simp; try with_reducible rfl
                  intro K hK
                  go_simp
                  refine hK _ _ ?_
                  clear hK K
                refine wl_bu rfl (.tmp 66) rfl 0 rfl (fun w4 b4 X4 h4 => ?_)
                intro K hK
                go_simp
                refine hK _ _ ?_
                clear hK K
                refine wl_apu rfl (.tmp 65) (.tmp 67) rfl w1.heap.size _ _ rfl (ownU_keep hO h4) b4 0 rfl X4 hll (Nat.le_trans hb.size h4.size) (fun v5 w5 O5 g5 => ?_)
                have hb5 : Below w1.heap.size w1 w5 := (hb.trans (h4.mono hb.size)).grown g5 (Nat.le_trans hb.size h4.size) (ownU_lt (ownU_keep hO h4))
                replace O5 : OwnU w5 w1.heap.size v5 (preL k n t i ++ (List.range (q + 1)).map (letterV k n t c)) := by rw [lv_succ, hv, ← List.append_assoc]; exact O5
                intro K hK
                go_simp
                refine hK _ _ ?_
                clear hK K
                refine wl_val rfl v5 ?_ ?_
                · go_simp
                intro K hK
                go_simp
                refine hK _ _ ?_
                clear hK K
                go_wp2
                go_roundw
                case rel => exact ⟨q + 1, by omega, by go_num, O5, hb5⟩
                case measure => simp [intOf]; omega
          · have lq : ¬ (q : Int) < 1 := by omega
            have hqq : q = 1 := by omega
            rw [hqq] at hO
            go_wp2
            go_roundw
            case rel => exact ⟨i + 1, by omega, by go_num, by rw [hpre]; exact hO, by rw [hpre]; simp; omega, hb⟩
            case measure => simp [intOf]; omega
    · have hl : ¬ (i : Int) < m := by omega
      have him : i = m := by omega
      subst him
      have Xr := keep X hb
      have x0 := cell_of_row wr _ 0 _ 27 _ Xr
      have x1 := cell_of_row wr _ 1 _ 27 _ Xr
      obtain ⟨wi, ewi⟩ : ∃ x, x = wr := ⟨_, rfl⟩
      subst ewi
      have hOi := hO
      clear hO
      by_cases k9 : k = 9
      · obtain rfl : Lz = List.replicate n 0 := hLz.out.symm.trans (if_pos k9)
        have hn3 := hn9 k9
        have k9' : ((k : Int) == 9) = true := by simp; omega
        clear k9
        go_upto_region 21 with (fail)
        go_loopw [5, 11] (fun v j wr => ∃ j' : Nat, j' ≤ n ∧ j = .int .i64 j' ∧ OwnU wr w1.heap.size v (preL k n t i ++ List.replicate j' 0) ∧ Below w1.heap.size w1 wr) (fun _ j _ => n - (intOf j).toNat)
        case atStart => exact ⟨0, by omega, rfl, by rw [List.replicate_zero, List.append_nil]; exact hOi, hb⟩
        case round =>
          clear x0 x1 Xr hOi hb
          obtain ⟨j, hj, rfl, hO, hb⟩ := hrel
          have Xr := keep X hb
          have x0 := cell_of_row wr _ 0 _ 27 _ Xr
          have x1 := cell_of_row wr _ 1 _ 27 _ Xr
          by_cases hjn : j < n
          · have lj : (j : Int) < n := by omega
            have lj0 : (0 : Int) ≤ j := by omega
            go_upto_region 23 with (fail)
            refine wp_region_lit ?_
            iterate 1
              refine wl_val rfl ?_ ?_ ?_
              rotate_left
              · go_simp; try with_reducible rfl
              intro K hK
              go_simp
              refine hK _ _ ?_
              clear hK K
            refine wl_bu rfl (.const (.int .u32 0)) rfl 0 rfl (fun w4 b4 X4 h4 => ?_)
            intro K hK
            go_simp
            refine hK _ _ ?_
            clear hK K
            refine wl_apu rfl (.tmp 80) (.tmp 81) rfl w1.heap.size _ _ rfl (ownU_keep hO h4) b4 0 rfl X4 (by simp; omega) (Nat.le_trans hb.size h4.size) (fun v5 w5 O5 g5 => ?_)
            have hb5 : Below w1.heap.size w1 w5 := (hb.trans (h4.mono hb.size)).grown g5 (Nat.le_trans hb.size h4.size) (ownU_lt (ownU_keep hO h4))
            intro K hK
            go_simp
            refine hK _ _ ?_
            clear hK K
            refine wl_val rfl v5 ?_ ?_
            · go_simp
            intro K hK
            go_simp
            refine hK _ _ ?_
            clear hK K
            go_wp2
            go_roundw
            case rel => exact ⟨j + 1, by omega, by go_num, by rw [List.append_assoc] at O5; rw [List.replicate_succ']; exact O5, hb5⟩
            case measure => simp [intOf]; omega
          · have lj : ¬ (j : Int) < n := by omega
            have hjj : j = n := by omega
            subst hjj
            have hO' : OwnU wr w1.heap.size u5 FL := by rw [← hFL.out]; exact hO
            obtain ⟨V, cv, hv, hV⟩ := ownU_wd hO' hNL.out
            subst hv
            clear hO hO'
            go_wp2_with (fail)
            go_ret
            first | exact ⟨V, cv, rfl, hV, hB.trans (hb.mono hB.size)⟩ | exact ⟨V, ⟨cv, rfl⟩, hV, hB.trans (hb.mono hB.size)⟩
      · obtain rfl : Lz = [] := hLz.out.symm.trans (if_neg k9)
        replace hOi : OwnU wi w1.heap.size u5 FL := by rw [← hFL.out, List.append_nil]; exact hOi
        have k9' : ((k : Int) == 9) = false := by simp; omega
        obtain ⟨V, cv, hv, hV⟩ := ownU_wd hOi hNL.out
        subst hv
        clear hOi
        by_cases hnp : 0 < n
        · have lp : (0 : Int) < n := by omega
          go_wp2_with (fail)
          refine wp_loop_rounds 1 ?_
          rw [rounds_succ]
          go_wp2_with (fail)
          go_ret
          first | exact ⟨V, cv, rfl, hV, hB.trans (hb.mono hB.size)⟩ | exact ⟨V, ⟨cv, rfl⟩, hV, hB.trans (hb.mono hB.size)⟩
        · have lp : ¬ (0 : Int) < n := by omega
          go_wp2_with (fail)
          refine wp_loop_rounds 1 ?_
          rw [rounds_succ]
          go_wp2_with (fail)
          go_ret
          first | exact ⟨V, cv, rfl, hV, hB.trans (hb.mono hB.size)⟩ | exact ⟨V, ⟨cv, rfl⟩, hV, hB.trans (hb.mono hB.size)⟩
end Go.Proofs.YtemhcdlhhpckmaaDoor
