/- The laws RaceFinds and RaceOrders: the walks. -/
import Derived.Test.YtnchafbaipeagaaRefFind
namespace Go.Proofs.Ytnchafbaipeagaa
open Go.RowKit
set_option linter.unusedVariables false
set_option linter.unusedSimpArgs false
set_option maxRecDepth 100000 in
set_option maxHeartbeats 4000000 in
theorem finds_walk (A : Option Addr) (n cn : Nat) (f : Nat → Plain.A) (w : World) (hA : Acts w A n f) :
    Calls Try.prog 3 #[.slice A n cn] w fun e w' => e = .returned (.bool true) ∧ Below w.heap.size w w' := by
  by_cases hn : 80 < n
  · have hn' : (80 : Int) < n := by omega
    go_enter Try.func3, Try.ntmps3
    go_wp2_with fail
    refine (awake _).mono ?_
    rintro e w1 ⟨rfl, hb1⟩
    go_wp2_with fail
    refine (awake _).mono ?_
    rintro e w2 ⟨rfl, hb2⟩
    go_wp2
    go_ret
    exact ⟨rfl, hb1.trans (hb2.mono hb1.size)⟩
  have hn' : ¬ (80 : Int) < n := by omega
  go_enter Try.func3, Try.ntmps3
  go_wp2_with fail
  refine (awake _).mono ?_
  rintro e w1 ⟨rfl, hb1⟩
  replace hA := hA.below hb1
  go_wp2_with fail
  refine (Find A n cn f (by omega) _ hA).mono ?_
  rintro e w2 ⟨rfl, hb2⟩
  replace hA := hA.below hb2
  replace hb1 : Below w.heap.size w w2 := hb1.trans (hb2.mono hb1.size)
  clear hb2
  rw [Plain.find_same]
  obtain ⟨p1, p2, p3, hp⟩ : ∃ p1 p2 p3 : Value, foundV (Plain.findR (Plain.raceK f) n) = .tuple #[p1, p2, p3] := by cases Plain.findR (Plain.raceK f) n <;> exact ⟨_, _, _, rfl⟩
  rw [hp]
  go_wp2_with fail
  refine (Of A n cn f (by omega) _ hA).mono ?_
  rintro e w3 ⟨V, cv, rfl, hV, hb3⟩
  replace hb1 : Below w.heap.size w w3 := hb1.trans (hb3.mono hb1.size)
  clear hb3
  go_wp2_with fail
  refine (refFind V n cv f (by omega) _ hV).mono ?_
  rintro e w4 ⟨rfl, hb4⟩
  replace hb1 : Below w.heap.size w w4 := hb1.trans (hb4.mono hb1.size)
  clear hb4
  cases hr : Plain.findR (Plain.raceK f) n with
  | none =>
    rw [hr] at hp
    obtain ⟨rfl, rfl, rfl⟩ : p1 = .int .i64 0 ∧ p2 = .int .i64 0 ∧ p3 = .bool false := by simpa [foundV, eq_comm] using hp
    simp only [foundR]
    go_wp2
    go_ret
    exact ⟨rfl, hb1⟩
  | some r =>
    rw [hr] at hp
    obtain ⟨rfl, rfl, rfl⟩ : p1 = .int .i64 r.1 ∧ p2 = .int .i64 r.2 ∧ p3 = .bool true := by simpa [foundV, eq_comm] using hp
    simp only [foundR]
    have e1 : ((r.1 : Int) == r.1) = true := by simp
    have e2 : ((r.2 : Int) == r.2) = true := by simp
    go_wp2
    go_ret
    exact ⟨rfl, hb1⟩
set_option maxRecDepth 100000 in
set_option maxHeartbeats 4000000 in
theorem orders_walk (A : Option Addr) (n cn : Nat) (f : Nat → Plain.A) (i k : Int) (w : World) (hA : Acts w A n f) :
    Calls Try.prog 6 #[.slice A n cn, .int .i64 i, .int .i64 k] w fun e w' => e = .returned (.bool true) ∧ Below w.heap.size w w' := by
  by_cases hn : 80 < n
  · have hn' : (80 : Int) < n := by omega
    go_enter Try.func6, Try.ntmps6
    go_wp2_with fail
    refine (awake _).mono ?_
    rintro e w1 ⟨rfl, hb1⟩
    go_wp2_with fail
    refine (awake _).mono ?_
    rintro e w2 ⟨rfl, hb2⟩
    go_wp2
    go_ret
    exact ⟨rfl, hb1.trans (hb2.mono hb1.size)⟩
  have hn' : ¬ (80 : Int) < n := by omega
  go_enter Try.func6, Try.ntmps6
  go_wp2_with fail
  refine (awake _).mono ?_
  rintro e w1 ⟨rfl, hb1⟩
  replace hA := hA.below hb1
  go_wp2_with fail
  refine (Of A n cn f (by omega) _ hA).mono ?_
  rintro e w2 ⟨V, cv, rfl, hV, hb2⟩
  replace hA := hA.below hb2
  replace hb1 : Below w.heap.size w w2 := hb1.trans (hb2.mono hb1.size)
  clear hb2
  go_wp2_with fail
  refine (refKnown V n cv f (by omega) _ hV).mono ?_
  rintro e w3 ⟨O, co, rfl, hK1, hb3⟩
  replace hA := hA.below hb3
  replace hb1 : Below w.heap.size w w3 := hb1.trans (hb3.mono hb1.size)
  clear hb3 hV
  go_upto_region 4 with (fail)
  go_cut [8] (fun s8 wx => s8 = .bool (Plain.ordC f n i k) ∧ wx = w3)
  case first =>
    by_cases h1 : 0 ≤ i
    · by_cases h2 : 0 ≤ k
      · by_cases h3 : i < n
        · by_cases h4 : k < n
          · by_cases h5 : i < k
            · obtain ⟨i, rfl⟩ : ∃ j : Nat, i = j := ⟨i.toNat, by omega⟩
              obtain ⟨k, rfl⟩ : ∃ j : Nat, k = j := ⟨k.toNat, by omega⟩
              have hi : i < n := by omega
              have hk : k < n := by omega
              obtain ⟨g, R, rfl, hKA⟩ := krows_at hK1 (by omega)
              have c0 := (hKA.2 k hk).1
              have c1 := (hKA.2 k hk).2.2 i hi
              unfold rowV at c0
              have hres : Plain.ordC f n i k = kn f i k := by rw [Bool.eq_iff_iff, Plain.ordC_iff hi hk, kn_iff]
              go_wp2_with (fail)
              go_meet
              exact ⟨by rw [hres], rfl⟩
            · have hres : Plain.ordC f n i k = false := by simp [Plain.ordC, h5]
              go_wp2_with (fail)
              go_meet
              exact ⟨by rw [hres], rfl⟩
          · have hres : Plain.ordC f n i k = false := by simp [Plain.ordC, h4]
            go_wp2_with (fail)
            go_meet
            exact ⟨by rw [hres], rfl⟩
        · have hres : Plain.ordC f n i k = false := by simp [Plain.ordC, h3]
          go_wp2_with (fail)
          go_meet
          exact ⟨by rw [hres], rfl⟩
      · have hres : Plain.ordC f n i k = false := by simp [Plain.ordC, h2]
        go_wp2_with (fail)
        go_meet
        exact ⟨by rw [hres], rfl⟩
    · have hres : Plain.ordC f n i k = false := by simp [Plain.ordC, h1]
      go_wp2_with (fail)
      go_meet
      exact ⟨by rw [hres], rfl⟩
  case rest =>
    obtain ⟨rfl, hwx⟩ := hcut
    obtain ⟨w4, hx4⟩ : ∃ x, x = wc := ⟨_, rfl⟩
    subst hx4
    subst hwx
    clear hK1
    go_upto_region 6 with (fail)
    go_loopw [9] (fun j wr => ∃ j' : Nat, j' ≤ n ∧ j = .int .i64 j' ∧ Below w4.heap.size w4 wr) (fun j _ => n - (intOf j).toNat)
    case atStart => exact ⟨0, by omega, rfl, Below.refl _ _⟩
    case round =>
      obtain ⟨j, hj, rfl, hb⟩ := hrel
      by_cases hlt : j < n
      · have hl : (j : Int) < n := by omega
        have hl0 : (0 : Int) ≤ j := by omega
        have hAr := hA.below hb
        obtain ⟨b, off, rfl⟩ := acts_ptr hA (by omega)
        have hR1 := Right (f j)
        have hR2 := refRight (f j)
        unfold act at hR2
        have hbb : (Plain.right (f j) == Plain.right (f j)) = true := by simp
        have hbn : (Plain.right (f j) != Plain.right (f j)) = false := by simp
        go_upto_region 8 with (fail)
        refine quiet_all (fun w' => Below wr.heap.size wr w') (by kernel_rfl) (by kernel_rfl) (Below.drew (Below.refl _ _)) ?_
        refine q_run rfl (fun K hK => ?_)
        refine q_value ?_ (fun w' h' => ?_) ?_
        rotate_left
        · go_simp; try with_reducible rfl
        go_simp
        refine hK _ ?_
        clear hK K
        refine q_run rfl (fun K hK => ?_)
        refine q_value ?_ (fun w' h' => ?_) ?_
        rotate_left
        · go_simp; try with_reducible rfl
        go_simp
        refine hK _ ?_
        clear hK K
        refine q_run rfl (fun K hK => ?_)
        refine q_value ?_ (fun w' h' => ?_) ?_
        rotate_left
        · go_simp; try with_reducible rfl
        go_simp
        refine hK _ ?_
        clear hK K
        refine q_run rfl (fun K hK => ?_)
        refine q_value (act (f j)) (fun w' h' => ?_) ?_
        · obtain ⟨c0, c1, c2⟩ := at_act hAr h' hlt; exact run_ldact (.tmp 61) rfl b (off + j * 3) (f j) rfl c0 c1 c2
        go_simp
        refine hK _ ?_
        clear hK K
        refine q_run rfl (fun K hK => ?_)
        refine q_call (Nat.le_refl _) hR1 (fun w' => ?_) ?_
        · first | (go_simp; done) | (go_simp; rfl)
        go_simp
        refine hK _ ?_
        clear hK K
        refine q_run rfl (fun K hK => ?_)
        refine q_value ?_ (fun w' h' => ?_) ?_
        rotate_left
        · go_simp; try with_reducible rfl
        go_simp
        refine hK _ ?_
        clear hK K
        refine q_run rfl (fun K hK => ?_)
        refine q_value ?_ (fun w' h' => ?_) ?_
        rotate_left
        · go_simp; try with_reducible rfl
        go_simp
        refine hK _ ?_
        clear hK K
        refine q_run rfl (fun K hK => ?_)
        refine q_value ?_ (fun w' h' => ?_) ?_
        rotate_left
        · go_simp; try with_reducible rfl
        go_simp
        refine hK _ ?_
        clear hK K
        refine q_run rfl (fun K hK => ?_)
        refine q_value ?_ (fun w' h' => ?_) ?_
        rotate_left
        · go_simp; try with_reducible rfl
        go_simp
        refine hK _ ?_
        clear hK K
        refine q_run rfl (fun K hK => ?_)
        refine q_value ?_ (fun w' h' => ?_) ?_
        rotate_left
        · obtain ⟨c0, c1, c2⟩ := at_act hAr h' hlt; go_simp; try with_reducible rfl
        go_simp
        refine hK _ ?_
        clear hK K
        refine q_run rfl (fun K hK => ?_)
        refine q_value ?_ (fun w' h' => ?_) ?_
        rotate_left
        · go_simp; try with_reducible rfl
        go_simp
        refine hK _ ?_
        clear hK K
        refine q_run rfl (fun K hK => ?_)
        refine q_value ?_ (fun w' h' => ?_) ?_
        rotate_left
        · go_simp; try with_reducible rfl
        go_simp
        refine hK _ ?_
        clear hK K
        refine q_run rfl (fun K hK => ?_)
        refine q_value ?_ (fun w' h' => ?_) ?_
        rotate_left
        · go_simp; try with_reducible rfl
        go_simp
        refine hK _ ?_
        clear hK K
        refine q_run rfl (fun K hK => ?_)
        refine q_value ?_ (fun w' h' => ?_) ?_
        rotate_left
        · go_simp; try with_reducible rfl
        go_simp
        refine hK _ ?_
        clear hK K
        refine q_run rfl (fun K hK => ?_)
        refine q_value ?_ (fun w' h' => ?_) ?_
        rotate_left
        · obtain ⟨c0, c1, c2⟩ := at_act hAr h' hlt; go_simp; try with_reducible rfl
        go_simp
        refine hK _ ?_
        clear hK K
        refine q_run rfl (fun K hK => ?_)
        refine q_value ?_ (fun w' h' => ?_) ?_
        rotate_left
        · go_simp; try with_reducible rfl
        go_simp
        refine hK _ ?_
        clear hK K
        refine q_run rfl (fun K hK => ?_)
        refine q_value ?_ (fun w' h' => ?_) ?_
        rotate_left
        · go_simp; try with_reducible rfl
        go_simp
        refine hK _ ?_
        clear hK K
        refine q_run rfl (fun K hK => ?_)
        refine q_value ?_ (fun w' h' => ?_) ?_
        rotate_left
        · go_simp; try with_reducible rfl
        go_simp
        refine hK _ ?_
        clear hK K
        refine q_run rfl (fun K hK => ?_)
        refine q_value ?_ (fun w' h' => ?_) ?_
        rotate_left
        · go_simp; try with_reducible rfl
        go_simp
        refine hK _ ?_
        clear hK K
        refine q_run rfl (fun K hK => ?_)
        refine q_value ?_ (fun w' h' => ?_) ?_
        rotate_left
        · obtain ⟨c0, c1, c2⟩ := at_act hAr h' hlt; go_simp; try with_reducible rfl
        go_simp
        refine hK _ ?_
        clear hK K
        refine q_run rfl (fun K hK => ?_)
        refine q_value ?_ (fun w' h' => ?_) ?_
        rotate_left
        · go_simp; try with_reducible rfl
        go_simp
        refine hK _ ?_
        clear hK K
        refine q_run rfl (fun K hK => ?_)
        refine q_call (Nat.le_refl _) hR2 (fun w' => ?_) ?_
        · first | (go_simp; done) | (go_simp; rfl)
        go_simp
        refine hK _ ?_
        clear hK K
        refine q_run rfl (fun K hK => ?_)
        refine q_value ?_ (fun w' h' => ?_) ?_
        rotate_left
        · go_simp; try with_reducible rfl
        go_simp
        refine hK _ ?_
        clear hK K
        refine qd_nil ?_
        intro w7 h7
        replace hb := hb.trans (h7.mono hb.size)
        clear h7 hR1 hR2
        go_wp2
        go_roundw
        case rel => exact ⟨j + 1, by omega, by go_num, hb⟩
        case measure => simp [intOf]; omega
      · have hl : ¬ (j : Int) < n := by omega
        have hjn : j = n := by omega
        subst hjn
        go_wp2_with fail
        refine (Ordered A j cn f (by omega) i k _ (hA.below hb)).mono ?_
        rintro e w8 ⟨rfl, hb8⟩
        have hbb : (Plain.ordC f j i k == Plain.ordC f j i k) = true := by simp
        go_wp2
        go_ret
        exact ⟨rfl, (hb1.trans (hb.mono hb1.size)).trans (hb8.mono (Nat.le_trans hb1.size hb.size))⟩
end Go.Proofs.Ytnchafbaipeagaa
