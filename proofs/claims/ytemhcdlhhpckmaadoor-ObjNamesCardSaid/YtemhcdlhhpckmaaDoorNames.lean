/- The law ObjNames: the walk. -/
import Derived.Test.YtemhcdlhhpckmaaDoorOCalls
namespace Go.Proofs.YtemhcdlhhpckmaaDoor
open Go.RowKit
set_option linter.unusedVariables false
set_option linter.unusedSimpArgs false
theorem calls_le : ∀ k, k < 16 → (callsN k).length ≤ 4 := by decide +kernel
theorem pl_ex (g : Nat → ByteArray) (n : Nat) (s : ByteArray) (hn : 0 < n) (hg : ∀ i, i < n → ∀ j, j < n → g i = g j → i = j) : ∃ W, Pl g n s W := by
  by_cases h : ∃ i, i < n ∧ g i = s
  · obtain ⟨i, h1, h2⟩ := h
    exact ⟨i, h1, fun k _ hk2 => ⟨fun hk => hg k hk2 i h1 (hk.trans h2.symm), fun hk => by rw [hk]; exact h2⟩⟩
  · exact ⟨0, hn, fun k hk1 hk2 => ⟨fun hk => absurd ⟨k, hk2, hk⟩ h, fun hk => by omega⟩⟩
theorem pl_uniq {g : Nat → ByteArray} {n : Nat} {s : ByteArray} {W W' : Nat} (h : Pl g n s W) (h' : Pl g n s W') : W = W' := by
  by_cases h0 : 1 ≤ W
  · exact (h'.2 W h0 h.1).1 ((h.2 W h0 h.1).2 rfl)
  · by_cases h1 : 1 ≤ W'
    · exact ((h.2 W' h1 h'.1).1 ((h'.2 W' h1 h'.1).2 rfl)).symm
    · omega
def wnt (W k : Nat) : Nat := if W < k then W else 0
theorem wnt_hit {W k : Nat} (h : k = W) : wnt W (k + 1) = k := by unfold wnt; rw [if_pos (by omega)]; omega
theorem wnt_miss {W k : Nat} (h : k ≠ W) : wnt W (k + 1) = wnt W k := by unfold wnt; by_cases e : W < k; rw [if_pos (by omega), if_pos e]; rw [if_neg (by omega), if_neg e]
theorem wnt_end {W n : Nat} (h : W < n) : wnt W n = W := by unfold wnt; rw [if_pos h]
theorem wnt_one (W : Nat) : wnt W 1 = 0 := by unfold wnt; split <;> omega
set_option maxRecDepth 100000 in
set_option maxHeartbeats 8000000 in
theorem names_walk (n : Int) (s : ByteArray) (w : World) (h : NmW w) (hc : CmW w) :
    Calls Tryd.prog 5 #[.int .i64 n, .string s] w fun e w' => e = .returned (.bool true) ∧ Below w.heap.size w w' := by
  obtain ⟨W1, hP1⟩ := pl_ex nmB 16 s (by omega) nm_inj
  obtain ⟨W2, hP2⟩ := pl_ex cmB 11 s (by omega) cm_inj
  go_enter Tryd.func5, Tryd.ntmps5
  go_wp2_with fail
  refine (awake _ h).mono ?_
  rintro e w1 ⟨rfl, hb1⟩
  replace h := h.below hb1
  replace hc := hc.below hb1
  go_wp2_with fail
  refine (refKinds _).mono ?_
  rintro e w2 ⟨V1, c1, rfl, hS1, hb2⟩
  replace h := h.below hb2
  replace hc := hc.below hb2
  replace hb1 : Below w.heap.size w w2 := hb1.trans (hb2.mono hb1.size)
  clear hb2
  go_wp2_with fail
  refine (refCalls _).mono ?_
  rintro e w3 ⟨V2, c2, rfl, hS2, hb3⟩
  replace h := h.below hb3
  replace hc := hc.below hb3
  replace hS1 := hS1.below hb3
  replace hb1 : Below w.heap.size w w3 := hb1.trans (hb3.mono hb1.size)
  clear hb3
  go_upto_region 5 with (fail)
  go_cut [31] (fun s31 wx => s31 = .bool (decide (0 ≤ n ∧ n < 16)) ∧ wx = w3)
  case first =>
    by_cases p0 : 0 ≤ n
    · by_cases p1 : n < 16
      · go_wp2_with (fail)
        go_meet
        exact ⟨by rw [decide_eq_true (show 0 ≤ n ∧ n < 16 from ⟨p0, p1⟩)], rfl⟩
      · go_wp2_with (fail)
        go_meet
        exact ⟨by rw [decide_eq_false (show ¬ (0 ≤ n ∧ n < 16) by omega)], rfl⟩
    · go_wp2_with (fail)
      go_meet
      exact ⟨by rw [decide_eq_false (show ¬ (0 ≤ n ∧ n < 16) by omega)], rfl⟩
  case rest =>
    obtain ⟨rfl, hwx⟩ := hcut
    subst hwx
    go_upto_if 31 with (fail)
    go_cut [7] (fun s7 wx => s7 = .string (nmOf n) ∧ wx = wc)
    case first =>
      by_cases p : 0 ≤ n ∧ n < 16
      · have hd : decide (0 ≤ n ∧ n < 16) = true := decide_eq_true p
        obtain ⟨k, rfl⟩ : ∃ j : Nat, n = j := ⟨n.toNat, by omega⟩
        have hk : k < 16 := by omega
        have l0 : (0 : Int) ≤ k := by omega
        have l1 : (k : Int) < 16 := by omega
        obtain ⟨b, off, rfl, hbl, hcl⟩ := hS1 (by omega)
        have cc := hcl k hk
        have hv : nmOf (k : Int) = nmB k := by
          unfold nmOf
          by_cases e : 1 ≤ (k : Int) ∧ (k : Int) ≤ 15
          · rw [if_pos e]; rfl
          · rw [if_neg e]; obtain rfl : k = 0 := by omega
            rfl
        clear hcl
        go_wp2_with (fail)
        go_meet
        exact ⟨by rw [hv], rfl⟩
      · have hd : decide (0 ≤ n ∧ n < 16) = false := decide_eq_false p
        have hv : nmOf n = ⟨#[]⟩ := by unfold nmOf; rw [if_neg (by omega)]
        go_wp2_with (fail)
        go_meet
        exact ⟨by rw [hv], rfl⟩
    case rest =>
      obtain ⟨rfl, hwx⟩ := hcut
      obtain ⟨w4, hx4⟩ : ∃ x, x = wc := ⟨_, rfl⟩
      subst hx4
      subst hwx
      go_upto_region 7 with (fail)
      go_cut [43] (fun s43 wx => s43 = .bool (decide (0 ≤ n ∧ n < 11)) ∧ wx = w4)
      case first =>
        by_cases p0 : 0 ≤ n
        · by_cases p1 : n < 11
          · go_wp2_with (fail)
            go_meet
            exact ⟨by rw [decide_eq_true (show 0 ≤ n ∧ n < 11 from ⟨p0, p1⟩)], rfl⟩
          · go_wp2_with (fail)
            go_meet
            exact ⟨by rw [decide_eq_false (show ¬ (0 ≤ n ∧ n < 11) by omega)], rfl⟩
        · go_wp2_with (fail)
          go_meet
          exact ⟨by rw [decide_eq_false (show ¬ (0 ≤ n ∧ n < 11) by omega)], rfl⟩
      case rest =>
        obtain ⟨rfl, hwx⟩ := hcut
        obtain ⟨w5, hx5⟩ : ∃ x, x = wc := ⟨_, rfl⟩
        subst hx5
        subst hwx
        go_upto_if 43 with (fail)
        go_cut [8] (fun s8 wx => s8 = .string (cmOf n) ∧ wx = w5)
        case first =>
          by_cases p : 0 ≤ n ∧ n < 11
          · have hd : decide (0 ≤ n ∧ n < 11) = true := decide_eq_true p
            obtain ⟨k, rfl⟩ : ∃ j : Nat, n = j := ⟨n.toNat, by omega⟩
            have hk : k < 11 := by omega
            have l0 : (0 : Int) ≤ k := by omega
            have l1 : (k : Int) < 11 := by omega
            obtain ⟨b, off, rfl, hbl, hcl⟩ := hS2 (by omega)
            have cc := hcl k hk
            have hv : cmOf (k : Int) = cmB k := by
              unfold cmOf
              by_cases e : 1 ≤ (k : Int) ∧ (k : Int) ≤ 10
              · rw [if_pos e]; rfl
              · rw [if_neg e]; obtain rfl : k = 0 := by omega
                rfl
            clear hcl
            go_wp2_with (fail)
            go_meet
            exact ⟨by rw [hv], rfl⟩
          · have hd : decide (0 ≤ n ∧ n < 11) = false := decide_eq_false p
            have hv : cmOf n = ⟨#[]⟩ := by unfold cmOf; rw [if_neg (by omega)]
            go_wp2_with (fail)
            go_meet
            exact ⟨by rw [hv], rfl⟩
        case rest =>
          obtain ⟨rfl, hwx⟩ := hcut
          obtain ⟨w6, hx6⟩ : ∃ x, x = wc := ⟨_, rfl⟩
          subst hx6
          subst hwx
          go_wp2_with fail
          refine (objName n _ h).mono ?_
          rintro e w7 ⟨rfl, hw7⟩
          subst hw7
          have hne1 : ((nmOf n).toList != (nmOf n).toList) = false := by simp
          go_wp2_with fail
          refine (objCallName n _ hc).mono ?_
          rintro e w8 ⟨rfl, hw8⟩
          subst hw8
          have hne2 : ((cmOf n).toList != (cmOf n).toList) = false := by simp
          go_upto_region 13 with (fail)
          clear hne1 hne2
          go_loopw [9, 11] (fun v i wr => ∃ k : Nat, 1 ≤ k ∧ k ≤ 16 ∧ i = .int .i64 k ∧ v = .int .i64 (wnt W1 k) ∧ Below w8.heap.size w8 wr) (fun _ i _ => 16 - (intOf i).toNat)
          case atStart => exact ⟨1, by omega, by omega, rfl, by rw [wnt_one]; rfl, Below.refl _ _⟩
          case round =>
            obtain ⟨k, hk1, hk, rfl, rfl, hb⟩ := hrel
            by_cases hlt : k < 16
            · have hl : (k : Int) < 16 := by omega
              have hl0 : (0 : Int) ≤ k := by omega
              obtain ⟨b, off, rfl, hbl, hcl⟩ := hS1 (by omega)
              have cc := (hb.cell (p := ⟨b, off + k, none⟩) hbl).trans (hcl k hlt)
              clear hcl
              by_cases he : nmB k = s
              · have hW := wnt_hit ((hP1.2 k hk1 hlt).1 he)
                rw [he] at cc
                clear he
                go_wp2
                go_roundw
                case rel => exact ⟨k + 1, by omega, by omega, by go_num, by rw [hW], hb⟩
                case measure => simp [intOf]; omega
              · have hW := wnt_miss (W := W1) (k := k) (fun e => he ((hP1.2 k hk1 hlt).2 e))
                obtain ⟨gk, hgk⟩ : ∃ x, nmB k = x := ⟨_, rfl⟩
                rw [hgk] at cc he
                have he2 := str_ne he
                clear he hgk
                go_wp2
                go_roundw
                case rel => exact ⟨k + 1, by omega, by omega, by go_num, by rw [hW], hb⟩
                case measure => simp [intOf]; omega
            · have hl : ¬ (k : Int) < 16 := by omega
              obtain rfl : k = 16 := by omega
              rw [wnt_end hP1.1]
              obtain ⟨wa, hxa⟩ : ∃ x, x = wr := ⟨_, rfl⟩
              subst hxa
              have hba := hb
              clear hb
              go_upto_region 18 with (fail)
              go_loopw [10, 12] (fun v i wr => ∃ k : Nat, 1 ≤ k ∧ k ≤ 11 ∧ i = .int .i64 k ∧ v = .int .i64 (wnt W2 k) ∧ Below w8.heap.size w8 wr) (fun _ i _ => 11 - (intOf i).toNat)
              case atStart => exact ⟨1, by omega, by omega, rfl, by rw [wnt_one]; rfl, hba⟩
              case round =>
                obtain ⟨k, hk1, hk, rfl, rfl, hb⟩ := hrel
                by_cases hlt : k < 11
                · have hl : (k : Int) < 11 := by omega
                  have hl0 : (0 : Int) ≤ k := by omega
                  obtain ⟨b, off, rfl, hbl, hcl⟩ := hS2 (by omega)
                  have cc := (hb.cell (p := ⟨b, off + k, none⟩) hbl).trans (hcl k hlt)
                  clear hcl
                  by_cases he : cmB k = s
                  · have hW := wnt_hit ((hP2.2 k hk1 hlt).1 he)
                    rw [he] at cc
                    clear he
                    go_wp2
                    go_roundw
                    case rel => exact ⟨k + 1, by omega, by omega, by go_num, by rw [hW], hb⟩
                    case measure => simp [intOf]; omega
                  · have hW := wnt_miss (W := W2) (k := k) (fun e => he ((hP2.2 k hk1 hlt).2 e))
                    obtain ⟨gk, hgk⟩ : ∃ x, cmB k = x := ⟨_, rfl⟩
                    rw [hgk] at cc he
                    have he2 := str_ne he
                    clear he hgk
                    go_wp2
                    go_roundw
                    case rel => exact ⟨k + 1, by omega, by omega, by go_num, by rw [hW], hb⟩
                    case measure => simp [intOf]; omega
                · have hl2 : ¬ (k : Int) < 11 := by omega
                  obtain rfl : k = 11 := by omega
                  rw [wnt_end hP2.1]
                  obtain ⟨wb, hxb⟩ : ∃ x, x = wr := ⟨_, rfl⟩
                  subst hxb
                  have hn1 := h.below hb
                  have hc1 := hc.below hb
                  have hB := hb1.trans (hb.mono hb1.size)
                  clear hba hb h hc hS1 hS2 hl2 hlt hk hk1
                  go_wp2_with fail
                  refine (objKind s _ hn1).mono ?_
                  rintro e x1 ⟨W1', rfl, hq1, hx1⟩
                  obtain rfl := pl_uniq hP1 hq1
                  replace hn1 := hn1.below hx1
                  replace hc1 := hc1.below hx1
                  replace hB := hB.trans (hx1.mono hB.size)
                  clear hx1 hq1 hP1
                  go_wp2_with fail
                  refine (objCall s _ hc1).mono ?_
                  rintro e x2 ⟨W2', rfl, hq2, hx2⟩
                  obtain rfl := pl_uniq hP2 hq2
                  replace hn1 := hn1.below hx2
                  replace hB := hB.trans (hx2.mono hB.size)
                  clear hx2 hq2 hP2 hc1
                  have e1 : ((W1 : Int) != W1) = false := by simp
                  have e2 : ((W2 : Int) != W2) = false := by simp
                  have e3 : (decide (0 < W1) != decide (0 < W1)) = false := by simp
                  have e4 : (decide (0 < W2) != decide (0 < W2)) = false := by simp
                  go_wp2_with fail
                  refine (objCalls n _ hn1).mono ?_
                  rintro e x3 ⟨V3, c3, rfl, hI, hx3⟩
                  replace hB := hB.trans (hx3.mono hB.size)
                  clear hx3 hn1 e1 e2 e3 e4
                  have hK := kdN_lt n
                  obtain ⟨ca1, ca2⟩ := cnt_all (kdN n) hK
                  have hL4 := calls_le (kdN n) hK
                  obtain ⟨L, hL⟩ : ∃ L, (callsN (kdN n)).length = L := ⟨_, rfl⟩
                  rw [hL] at hI ca1 hL4 ⊢
                  go_upto_region 29 with (fail)
                  go_loopw [18, 19] (fun v i wr => ∃ c q : Nat, 1 ≤ c ∧ c ≤ 11 ∧ i = .int .i64 c ∧ v = .int .i64 q ∧ q = cntN (kdN n) c ∧ q ≤ 2 * c ∧ Below x3.heap.size x3 wr) (fun _ i _ => 11 - (intOf i).toNat)
                  case atStart => exact ⟨1, 0, by omega, by omega, rfl, rfl, ca2.symm, by omega, Below.refl _ _⟩
                  case round =>
                    obtain ⟨c, q, hc1, hc2, rfl, rfl, hq, hqc, hb⟩ := hrel
                    by_cases hlt : c ≤ 10
                    · have hl : (c : Int) ≤ 10 := by omega
                      have hl0 : (0 : Int) ≤ q := by omega
                      have hst := cnt_step (kdN n) hK c hlt hc1
                      rw [← hq] at hst
                      go_wp2_with fail
                      refine (refMay n c ⟨hc1, hlt⟩ _).mono ?_
                      rintro e y1 ⟨rfl, hy1⟩
                      replace hb := hb.trans (hy1.mono hb.size)
                      clear hy1
                      cases hm : mayN (kdN n) c
                      · rw [hm, if_neg (by simp)] at hst
                        clear hq hm
                        go_wp2
                        go_roundw
                        case rel => exact ⟨c + 1, q, by omega, by omega, by go_num, rfl, hst.symm, by omega, hb⟩
                        case measure => simp [intOf]; omega
                      · obtain ⟨i1, i2⟩ := cnt_in (kdN n) hK c hlt hm
                        rw [hm, if_pos rfl] at hst
                        rw [← hq] at i1 i2
                        rw [hL] at i1
                        obtain ⟨b, off, rfl, hbl, hcl⟩ := hI (by omega)
                        have cc := (hb.cell (p := ⟨b, off + q, none⟩) hbl).trans (hcl q i1)
                        rw [i2] at cc
                        clear hcl i2 hq hm
                        have hl1 : (q : Int) < L := by omega
                        have hne : ((c : Int) != c) = false := by simp
                        go_wp2
                        go_roundw
                        case rel => exact ⟨c + 1, q + 1, by omega, by omega, by go_num, by go_num, hst.symm, by omega, hb⟩
                        case measure => simp [intOf]; omega
                    · have hl : ¬ (c : Int) ≤ 10 := by omega
                      obtain rfl : c = 11 := by omega
                      rw [ca1] at hq
                      subst hq
                      have hee : ((q : Int) == q) = true := by simp
                      go_wp2
                      go_ret
                      exact ⟨rfl, hB.trans (hb.mono hB.size)⟩
end Go.Proofs.YtemhcdlhhpckmaaDoor
