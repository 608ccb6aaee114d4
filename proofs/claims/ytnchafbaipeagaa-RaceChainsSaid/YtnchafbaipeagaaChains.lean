/- The law RaceChains: what is known is known further on: the walk. -/
import Derived.Test.YtnchafbaipeagaaAwake
import Derived.Deep.DeepCutAuto
namespace Go.Proofs.Ytnchafbaipeagaa
open Go.RowKit
set_option linter.unusedVariables false
set_option linter.unusedSimpArgs false
theorem tmod_nat {x : Int} (hx : 0 ≤ x ∧ x ≤ 255) {n : Nat} (hn : 0 < n) : ∃ a : Nat, (IntKind.i64.wrap x).tmod n = a ∧ a < n := by
  have h1 : IntKind.i64.wrap x = x := by simp [IntKind.wrap, IntKind.bits]; omega
  refine ⟨x.toNat % n, ?_, Nat.mod_lt _ hn⟩
  rw [h1, Int.tmod_eq_emod_of_nonneg hx.1]
  have : x = x.toNat := by omega
  rw [this]; simp
set_option maxRecDepth 100000 in
set_option maxHeartbeats 4000000 in
theorem chains_walk (A : Option Addr) (n cn : Nat) (f : Nat → Plain.A) (x y z : Int) (hx : 0 ≤ x ∧ x ≤ 255) (hy : 0 ≤ y ∧ y ≤ 255) (hz : 0 ≤ z ∧ z ≤ 255) (w : World) (hA : Acts w A n f) :
    Calls Try.prog 7 #[.slice A n cn, .int .u8 x, .int .u8 y, .int .u8 z] w fun e w' => e = .returned (.bool true) ∧ Below w.heap.size w w' := by
  by_cases hn : 80 < n
  · have hn' : (80 : Int) < n := by omega
    go_enter Try.func7, Try.ntmps7
    go_wp2_with fail
    refine (awake _).mono ?_
    rintro e w1 ⟨rfl, hb1⟩
    go_wp2_with fail
    refine (awake _).mono ?_
    rintro e w2 ⟨rfl, hb2⟩
    go_wp2
    go_ret
    exact ⟨rfl, hb1.trans (hb2.mono hb1.size)⟩
  have hn' : ¬ (80 : Int) < n := by omega
  by_cases hn0 : n = 0
  · subst hn0
    go_enter Try.func7, Try.ntmps7
    go_wp2_with fail
    refine (awake _).mono ?_
    rintro e w1 ⟨rfl, hb1⟩
    go_wp2_with fail
    refine (awake _).mono ?_
    rintro e w2 ⟨rfl, hb2⟩
    go_wp2
    go_ret
    exact ⟨rfl, hb1.trans (hb2.mono hb1.size)⟩
  have hn1 : ((n : Int) == 0) = false := by simp; omega
  have hn2 : (n : Int) ≠ 0 := by omega
  go_enter Try.func7, Try.ntmps7
  go_wp2_with fail
  refine (awake _).mono ?_
  rintro e w1 ⟨rfl, hb1⟩
  go_upto_region 3 with (fail)
  refine quiet_all (fun w' => Below w1.heap.size w1 w') (by kernel_rfl) (by kernel_rfl) (Below.drew (Below.refl _ _)) ?_
  iterate 18
    refine q_run rfl (fun K hK => ?_)
    refine q_value ?_ (fun w' h' => ?_) ?_
    rotate_left
    · go_simp; try with_reducible rfl
    go_simp
    refine hK _ ?_
    clear hK K
  refine qd_nil ?_
  intro w2 hb2
  obtain ⟨p, ep, hp⟩ := tmod_nat hx (n := n) (by omega)
  obtain ⟨q, eq, hq⟩ := tmod_nat hy (n := n) (by omega)
  obtain ⟨r, er, hr⟩ := tmod_nat hz (n := n) (by omega)
  simp only [ep, eq, er]
  clear ep eq er
  have hAr := (hA.below hb1).below hb2
  obtain ⟨b, off, rfl⟩ := acts_ptr hA (by omega)
  have hp0 : (0 : Int) ≤ p := by omega
  have hq0 : (0 : Int) ≤ q := by omega
  have hr0 : (0 : Int) ≤ r := by omega
  have hp1 : (p : Int) < n := by omega
  have hq1 : (q : Int) < n := by omega
  have hr1 : (r : Int) < n := by omega
  go_upto_region 4 with (fail)
  go_cut [76] (fun s76 wx => s76 = .bool false ∧ Below w2.heap.size w2 wx)
  case first =>
    by_cases hpq : p < q
    · have hl : (p : Int) < q := by omega
      have hR1 := Right (f p)
      have hR2 := Right (f q)
      cases e1 : Plain.right (f p)
      · rw [e1] at hR1
        refine quiet_all (fun w' => Below w2.heap.size w2 w') (by kernel_rfl) (by kernel_rfl) (Below.drew (Below.refl _ _)) ?_
        refine q_run rfl (fun K hK => ?_)
        refine q_value ?_ (fun w' h' => ?_) ?_
        rotate_left
        · go_simp; try with_reducible rfl
        go_simp
        refine hK _ ?_
        clear hK K
        refine q_run rfl (fun K hK => ?_)
        refine q_value ?_ (fun w' h' => ?_) ?_
        rotate_left
        · go_simp; try with_reducible rfl
        go_simp
        refine hK _ ?_
        clear hK K
        refine q_run rfl (fun K hK => ?_)
        refine q_value ?_ (fun w' h' => ?_) ?_
        rotate_left
        · go_simp; try with_reducible rfl
        go_simp
        refine hK _ ?_
        clear hK K
        refine q_run rfl (fun K hK => ?_)
        refine q_value ?_ (fun w' h' => ?_) ?_
        rotate_left
        · go_simp; try with_reducible rfl
        go_simp
        refine hK _ ?_
        clear hK K
        refine q_run rfl (fun K hK => ?_)
        refine q_value ?_ (fun w' h' => ?_) ?_
        rotate_left
        · go_simp; try with_reducible rfl
        go_simp
        refine hK _ ?_
        clear hK K
        refine q_run rfl (fun K hK => ?_)
        refine q_value ?_ (fun w' h' => ?_) ?_
        rotate_left
        · go_simp; try with_reducible rfl
        go_simp
        refine hK _ ?_
        clear hK K
        refine q_run rfl (fun K hK => ?_)
        refine q_value ?_ (fun w' h' => ?_) ?_
        rotate_left
        · go_simp; try with_reducible rfl
        go_simp
        refine hK _ ?_
        clear hK K
        refine q_run rfl (fun K hK => ?_)
        refine q_value (act (f p)) (fun w' h' => ?_) ?_
        · obtain ⟨c0, c1, c2⟩ := at_act hAr h' hp; exact run_ldact (.tmp 46) rfl b (off + p * 3) (f p) rfl c0 c1 c2
        go_simp
        refine hK _ ?_
        clear hK K
        refine q_run rfl (fun K hK => ?_)
        refine q_call (Nat.le_refl _) hR1 (fun w' => ?_) ?_
        · first | (go_simp; done) | (go_simp; rfl)
        go_simp
        refine hK _ ?_
        clear hK K
        refine q_run rfl (fun K hK => ?_)
        refine q_value ?_ (fun w' h' => ?_) ?_
        rotate_left
        · go_simp; try with_reducible rfl
        go_simp
        refine hK _ ?_
        clear hK K
        refine q_run rfl (fun K hK => ?_)
        refine q_value ?_ (fun w' h' => ?_) ?_
        rotate_left
        · go_simp; try with_reducible rfl
        go_simp
        refine hK _ ?_
        clear hK K
        refine q_skip rfl (fun K hK => ?_)
        go_simp
        refine hK _ ?_
        clear hK K
        refine q_skip rfl (fun K hK => ?_)
        go_simp
        refine hK _ ?_
        clear hK K
        refine q_skip rfl (fun K hK => ?_)
        go_simp
        refine hK _ ?_
        clear hK K
        refine q_skip rfl (fun K hK => ?_)
        go_simp
        refine hK _ ?_
        clear hK K
        refine q_skip rfl (fun K hK => ?_)
        go_simp
        refine hK _ ?_
        clear hK K
        refine q_run rfl (fun K hK => ?_)
        refine q_value ?_ (fun w' h' => ?_) ?_
        rotate_left
        · go_simp; try with_reducible rfl
        go_simp
        refine hK _ ?_
        clear hK K
        refine q_run rfl (fun K hK => ?_)
        refine q_value ?_ (fun w' h' => ?_) ?_
        rotate_left
        · go_simp; try with_reducible rfl
        go_simp
        refine hK _ ?_
        clear hK K
        refine q_skip rfl (fun K hK => ?_)
        go_simp
        refine hK _ ?_
        clear hK K
        refine q_skip rfl (fun K hK => ?_)
        go_simp
        refine hK _ ?_
        clear hK K
        refine q_skip rfl (fun K hK => ?_)
        go_simp
        refine hK _ ?_
        clear hK K
        refine q_skip rfl (fun K hK => ?_)
        go_simp
        refine hK _ ?_
        clear hK K
        refine q_skip rfl (fun K hK => ?_)
        go_simp
        refine hK _ ?_
        clear hK K
        refine q_skip rfl (fun K hK => ?_)
        go_simp
        refine hK _ ?_
        clear hK K
        refine q_skip rfl (fun K hK => ?_)
        go_simp
        refine hK _ ?_
        clear hK K
        refine q_skip rfl (fun K hK => ?_)
        go_simp
        refine hK _ ?_
        clear hK K
        refine q_skip rfl (fun K hK => ?_)
        go_simp
        refine hK _ ?_
        clear hK K
        refine q_skip rfl (fun K hK => ?_)
        go_simp
        refine hK _ ?_
        clear hK K
        refine q_skip rfl (fun K hK => ?_)
        go_simp
        refine hK _ ?_
        clear hK K
        refine q_run rfl (fun K hK => ?_)
        refine q_value ?_ (fun w' h' => ?_) ?_
        rotate_left
        · go_simp; try with_reducible rfl
        go_simp
        refine hK _ ?_
        clear hK K
        refine q_run rfl (fun K hK => ?_)
        refine q_value ?_ (fun w' h' => ?_) ?_
        rotate_left
        · go_simp; try with_reducible rfl
        go_simp
        refine hK _ ?_
        clear hK K
        refine q_skip rfl (fun K hK => ?_)
        go_simp
        refine hK _ ?_
        clear hK K
        refine q_skip rfl (fun K hK => ?_)
        go_simp
        refine hK _ ?_
        clear hK K
        refine q_skip rfl (fun K hK => ?_)
        go_simp
        refine hK _ ?_
        clear hK K
        refine q_skip rfl (fun K hK => ?_)
        go_simp
        refine hK _ ?_
        clear hK K
        refine q_skip rfl (fun K hK => ?_)
        go_simp
        refine hK _ ?_
        clear hK K
        refine q_run rfl (fun K hK => ?_)
        refine q_value ?_ (fun w' h' => ?_) ?_
        rotate_left
        · go_simp; try with_reducible rfl
        go_simp
        refine hK _ ?_
        clear hK K
        refine qd_nil ?_
        intro w3 hb3
        go_wp2_with (fail)
        go_meet
        exact ⟨rfl, hb3⟩
      · rw [e1] at hR1
        cases e2 : Plain.right (f q)
        · rw [e2] at hR2
          refine quiet_all (fun w' => Below w2.heap.size w2 w') (by kernel_rfl) (by kernel_rfl) (Below.drew (Below.refl _ _)) ?_
          refine q_run rfl (fun K hK => ?_)
          refine q_value ?_ (fun w' h' => ?_) ?_
          rotate_left
          · go_simp; try with_reducible rfl
          go_simp
          refine hK _ ?_
          clear hK K
          refine q_run rfl (fun K hK => ?_)
          refine q_value ?_ (fun w' h' => ?_) ?_
          rotate_left
          · go_simp; try with_reducible rfl
          go_simp
          refine hK _ ?_
          clear hK K
          refine q_run rfl (fun K hK => ?_)
          refine q_value ?_ (fun w' h' => ?_) ?_
          rotate_left
          · go_simp; try with_reducible rfl
          go_simp
          refine hK _ ?_
          clear hK K
          refine q_run rfl (fun K hK => ?_)
          refine q_value ?_ (fun w' h' => ?_) ?_
          rotate_left
          · go_simp; try with_reducible rfl
          go_simp
          refine hK _ ?_
          clear hK K
          refine q_run rfl (fun K hK => ?_)
          refine q_value ?_ (fun w' h' => ?_) ?_
          rotate_left
          · go_simp; try with_reducible rfl
          go_simp
          refine hK _ ?_
          clear hK K
          refine q_run rfl (fun K hK => ?_)
          refine q_value ?_ (fun w' h' => ?_) ?_
          rotate_left
          · go_simp; try with_reducible rfl
          go_simp
          refine hK _ ?_
          clear hK K
          refine q_run rfl (fun K hK => ?_)
          refine q_value ?_ (fun w' h' => ?_) ?_
          rotate_left
          · go_simp; try with_reducible rfl
          go_simp
          refine hK _ ?_
          clear hK K
          refine q_run rfl (fun K hK => ?_)
          refine q_value (act (f p)) (fun w' h' => ?_) ?_
          · obtain ⟨c0, c1, c2⟩ := at_act hAr h' hp; exact run_ldact (.tmp 46) rfl b (off + p * 3) (f p) rfl c0 c1 c2
          go_simp
          refine hK _ ?_
          clear hK K
          refine q_run rfl (fun K hK => ?_)
          refine q_call (Nat.le_refl _) hR1 (fun w' => ?_) ?_
          · first | (go_simp; done) | (go_simp; rfl)
          go_simp
          refine hK _ ?_
          clear hK K
          refine q_run rfl (fun K hK => ?_)
          refine q_value ?_ (fun w' h' => ?_) ?_
          rotate_left
          · go_simp; try with_reducible rfl
          go_simp
          refine hK _ ?_
          clear hK K
          refine q_run rfl (fun K hK => ?_)
          refine q_value ?_ (fun w' h' => ?_) ?_
          rotate_left
          · go_simp; try with_reducible rfl
          go_simp
          refine hK _ ?_
          clear hK K
          refine q_run rfl (fun K hK => ?_)
          refine q_value ?_ (fun w' h' => ?_) ?_
          rotate_left
          · go_simp; try with_reducible rfl
          go_simp
          refine hK _ ?_
          clear hK K
          refine q_run rfl (fun K hK => ?_)
          refine q_value ?_ (fun w' h' => ?_) ?_
          rotate_left
          · go_simp; try with_reducible rfl
          go_simp
          refine hK _ ?_
          clear hK K
          refine q_run rfl (fun K hK => ?_)
          refine q_value ?_ (fun w' h' => ?_) ?_
          rotate_left
          · go_simp; try with_reducible rfl
          go_simp
          refine hK _ ?_
          clear hK K
          refine q_run rfl (fun K hK => ?_)
          refine q_value (act (f q)) (fun w' h' => ?_) ?_
          · obtain ⟨c0, c1, c2⟩ := at_act hAr h' hq; exact run_ldact (.tmp 53) rfl b (off + q * 3) (f q) rfl c0 c1 c2
          go_simp
          refine hK _ ?_
          clear hK K
          refine q_run rfl (fun K hK => ?_)
          refine q_call (Nat.le_refl _) hR2 (fun w' => ?_) ?_
          · first | (go_simp; done) | (go_simp; rfl)
          go_simp
          refine hK _ ?_
          clear hK K
          refine q_run rfl (fun K hK => ?_)
          refine q_value ?_ (fun w' h' => ?_) ?_
          rotate_left
          · go_simp; try with_reducible rfl
          go_simp
          refine hK _ ?_
          clear hK K
          refine q_run rfl (fun K hK => ?_)
          refine q_value ?_ (fun w' h' => ?_) ?_
          rotate_left
          · go_simp; try with_reducible rfl
          go_simp
          refine hK _ ?_
          clear hK K
          refine q_skip rfl (fun K hK => ?_)
          go_simp
          refine hK _ ?_
          clear hK K
          refine q_skip rfl (fun K hK => ?_)
          go_simp
          refine hK _ ?_
          clear hK K
          refine q_skip rfl (fun K hK => ?_)
          go_simp
          refine hK _ ?_
          clear hK K
          refine q_skip rfl (fun K hK => ?_)
          go_simp
          refine hK _ ?_
          clear hK K
          refine q_skip rfl (fun K hK => ?_)
          go_simp
          refine hK _ ?_
          clear hK K
          refine q_skip rfl (fun K hK => ?_)
          go_simp
          refine hK _ ?_
          clear hK K
          refine q_skip rfl (fun K hK => ?_)
          go_simp
          refine hK _ ?_
          clear hK K
          refine q_skip rfl (fun K hK => ?_)
          go_simp
          refine hK _ ?_
          clear hK K
          refine q_skip rfl (fun K hK => ?_)
          go_simp
          refine hK _ ?_
          clear hK K
          refine q_skip rfl (fun K hK => ?_)
          go_simp
          refine hK _ ?_
          clear hK K
          refine q_skip rfl (fun K hK => ?_)
          go_simp
          refine hK _ ?_
          clear hK K
          refine q_run rfl (fun K hK => ?_)
          refine q_value ?_ (fun w' h' => ?_) ?_
          rotate_left
          · go_simp; try with_reducible rfl
          go_simp
          refine hK _ ?_
          clear hK K
          refine q_run rfl (fun K hK => ?_)
          refine q_value ?_ (fun w' h' => ?_) ?_
          rotate_left
          · go_simp; try with_reducible rfl
          go_simp
          refine hK _ ?_
          clear hK K
          refine q_skip rfl (fun K hK => ?_)
          go_simp
          refine hK _ ?_
          clear hK K
          refine q_skip rfl (fun K hK => ?_)
          go_simp
          refine hK _ ?_
          clear hK K
          refine q_skip rfl (fun K hK => ?_)
          go_simp
          refine hK _ ?_
          clear hK K
          refine q_skip rfl (fun K hK => ?_)
          go_simp
          refine hK _ ?_
          clear hK K
          refine q_skip rfl (fun K hK => ?_)
          go_simp
          refine hK _ ?_
          clear hK K
          refine q_run rfl (fun K hK => ?_)
          refine q_value ?_ (fun w' h' => ?_) ?_
          rotate_left
          · go_simp; try with_reducible rfl
          go_simp
          refine hK _ ?_
          clear hK K
          refine qd_nil ?_
          intro w3 hb3
          go_wp2_with (fail)
          go_meet
          exact ⟨rfl, hb3⟩
        · rw [e2] at hR2
          by_cases hwho : (f p).who = (f q).who
          · have hw1 : ((f p).who == (f q).who) = true := by simp [hwho]
            have ho : Plain.ordC f n p q = true := (Plain.ordC_iff hp hq).2 (.base hpq ⟨e1, e2, .inl hwho⟩)
            refine quiet_all (fun w' => Below w2.heap.size w2 w') (by kernel_rfl) (by kernel_rfl) (Below.drew (Below.refl _ _)) ?_
            refine q_run rfl (fun K hK => ?_)
            refine q_value ?_ (fun w' h' => ?_) ?_
            rotate_left
            · go_simp; try with_reducible rfl
            go_simp
            refine hK _ ?_
            clear hK K
            refine q_run rfl (fun K hK => ?_)
            refine q_value ?_ (fun w' h' => ?_) ?_
            rotate_left
            · go_simp; try with_reducible rfl
            go_simp
            refine hK _ ?_
            clear hK K
            refine q_run rfl (fun K hK => ?_)
            refine q_value ?_ (fun w' h' => ?_) ?_
            rotate_left
            · go_simp; try with_reducible rfl
            go_simp
            refine hK _ ?_
            clear hK K
            refine q_run rfl (fun K hK => ?_)
            refine q_value ?_ (fun w' h' => ?_) ?_
            rotate_left
            · go_simp; try with_reducible rfl
            go_simp
            refine hK _ ?_
            clear hK K
            refine q_run rfl (fun K hK => ?_)
            refine q_value ?_ (fun w' h' => ?_) ?_
            rotate_left
            · go_simp; try with_reducible rfl
            go_simp
            refine hK _ ?_
            clear hK K
            refine q_run rfl (fun K hK => ?_)
            refine q_value ?_ (fun w' h' => ?_) ?_
            rotate_left
            · go_simp; try with_reducible rfl
            go_simp
            refine hK _ ?_
            clear hK K
            refine q_run rfl (fun K hK => ?_)
            refine q_value ?_ (fun w' h' => ?_) ?_
            rotate_left
            · go_simp; try with_reducible rfl
            go_simp
            refine hK _ ?_
            clear hK K
            refine q_run rfl (fun K hK => ?_)
            refine q_value (act (f p)) (fun w' h' => ?_) ?_
            · obtain ⟨c0, c1, c2⟩ := at_act hAr h' hp; exact run_ldact (.tmp 46) rfl b (off + p * 3) (f p) rfl c0 c1 c2
            go_simp
            refine hK _ ?_
            clear hK K
            refine q_run rfl (fun K hK => ?_)
            refine q_call (Nat.le_refl _) hR1 (fun w' => ?_) ?_
            · first | (go_simp; done) | (go_simp; rfl)
            go_simp
            refine hK _ ?_
            clear hK K
            refine q_run rfl (fun K hK => ?_)
            refine q_value ?_ (fun w' h' => ?_) ?_
            rotate_left
            · go_simp; try with_reducible rfl
            go_simp
            refine hK _ ?_
            clear hK K
            refine q_run rfl (fun K hK => ?_)
            refine q_value ?_ (fun w' h' => ?_) ?_
            rotate_left
            · go_simp; try with_reducible rfl
            go_simp
            refine hK _ ?_
            clear hK K
            refine q_run rfl (fun K hK => ?_)
            refine q_value ?_ (fun w' h' => ?_) ?_
            rotate_left
            · go_simp; try with_reducible rfl
            go_simp
            refine hK _ ?_
            clear hK K
            refine q_run rfl (fun K hK => ?_)
            refine q_value ?_ (fun w' h' => ?_) ?_
            rotate_left
            · go_simp; try with_reducible rfl
            go_simp
            refine hK _ ?_
            clear hK K
            refine q_run rfl (fun K hK => ?_)
            refine q_value ?_ (fun w' h' => ?_) ?_
            rotate_left
            · go_simp; try with_reducible rfl
            go_simp
            refine hK _ ?_
            clear hK K
            refine q_run rfl (fun K hK => ?_)
            refine q_value (act (f q)) (fun w' h' => ?_) ?_
            · obtain ⟨c0, c1, c2⟩ := at_act hAr h' hq; exact run_ldact (.tmp 53) rfl b (off + q * 3) (f q) rfl c0 c1 c2
            go_simp
            refine hK _ ?_
            clear hK K
            refine q_run rfl (fun K hK => ?_)
            refine q_call (Nat.le_refl _) hR2 (fun w' => ?_) ?_
            · first | (go_simp; done) | (go_simp; rfl)
            go_simp
            refine hK _ ?_
            clear hK K
            refine q_run rfl (fun K hK => ?_)
            refine q_value ?_ (fun w' h' => ?_) ?_
            rotate_left
            · go_simp; try with_reducible rfl
            go_simp
            refine hK _ ?_
            clear hK K
            refine q_run rfl (fun K hK => ?_)
            refine q_value ?_ (fun w' h' => ?_) ?_
            rotate_left
            · go_simp; try with_reducible rfl
            go_simp
            refine hK _ ?_
            clear hK K
            refine q_run rfl (fun K hK => ?_)
            refine q_value ?_ (fun w' h' => ?_) ?_
            rotate_left
            · go_simp; try with_reducible rfl
            go_simp
            refine hK _ ?_
            clear hK K
            refine q_run rfl (fun K hK => ?_)
            refine q_value ?_ (fun w' h' => ?_) ?_
            rotate_left
            · go_simp; try with_reducible rfl
            go_simp
            refine hK _ ?_
            clear hK K
            refine q_run rfl (fun K hK => ?_)
            refine q_value ?_ (fun w' h' => ?_) ?_
            rotate_left
            · go_simp; try with_reducible rfl
            go_simp
            refine hK _ ?_
            clear hK K
            refine q_run rfl (fun K hK => ?_)
            refine q_value ?_ (fun w' h' => ?_) ?_
            rotate_left
            · go_simp; try with_reducible rfl
            go_simp
            refine hK _ ?_
            clear hK K
            refine q_run rfl (fun K hK => ?_)
            refine q_value ?_ (fun w' h' => ?_) ?_
            rotate_left
            · obtain ⟨c0, c1, c2⟩ := at_act hAr h' hp; go_simp; try with_reducible rfl
            go_simp
            refine hK _ ?_
            clear hK K
            refine q_run rfl (fun K hK => ?_)
            refine q_value ?_ (fun w' h' => ?_) ?_
            rotate_left
            · go_simp; try with_reducible rfl
            go_simp
            refine hK _ ?_
            clear hK K
            refine q_run rfl (fun K hK => ?_)
            refine q_value ?_ (fun w' h' => ?_) ?_
            rotate_left
            · go_simp; try with_reducible rfl
            go_simp
            refine hK _ ?_
            clear hK K
            refine q_run rfl (fun K hK => ?_)
            refine q_value ?_ (fun w' h' => ?_) ?_
            rotate_left
            · go_simp; try with_reducible rfl
            go_simp
            refine hK _ ?_
            clear hK K
            refine q_run rfl (fun K hK => ?_)
            refine q_value ?_ (fun w' h' => ?_) ?_
            rotate_left
            · go_simp; try with_reducible rfl
            go_simp
            refine hK _ ?_
            clear hK K
            refine q_run rfl (fun K hK => ?_)
            refine q_value ?_ (fun w' h' => ?_) ?_
            rotate_left
            · obtain ⟨c0, c1, c2⟩ := at_act hAr h' hq; go_simp; try with_reducible rfl
            go_simp
            refine hK _ ?_
            clear hK K
            refine q_run rfl (fun K hK => ?_)
            refine q_value ?_ (fun w' h' => ?_) ?_
            rotate_left
            · go_simp; try with_reducible rfl
            go_simp
            refine hK _ ?_
            clear hK K
            refine q_run rfl (fun K hK => ?_)
            refine q_value ?_ (fun w' h' => ?_) ?_
            rotate_left
            · go_simp; try with_reducible rfl
            go_simp
            refine hK _ ?_
            clear hK K
            refine q_run rfl (fun K hK => ?_)
            refine q_value ?_ (fun w' h' => ?_) ?_
            rotate_left
            · go_simp; try with_reducible rfl
            go_simp
            refine hK _ ?_
            clear hK K
            refine q_run rfl (fun K hK => ?_)
            refine q_value ?_ (fun w' h' => ?_) ?_
            rotate_left
            · go_simp; try with_reducible rfl
            go_simp
            refine hK _ ?_
            clear hK K
            refine q_run rfl (fun K hK => ?_)
            refine q_value ?_ (fun w' h' => ?_) ?_
            rotate_left
            · go_simp; try with_reducible rfl
            go_simp
            refine hK _ ?_
            clear hK K
            refine q_run rfl (fun K hK => ?_)
            refine q_value ?_ (fun w' h' => ?_) ?_
            rotate_left
            · go_simp; try with_reducible rfl
            go_simp
            refine hK _ ?_
            clear hK K
            refine q_run rfl (fun K hK => ?_)
            refine q_enter 15 #[.slice (some ⟨b, off, none⟩) n cn, .int .i64 p, .int .i64 q] (.bool true) (fun w' => ?_) (fun w' h' => ?_) ?_
            · first | (go_simp; done) | (go_simp; rfl)
            · exact (Ordered _ n cn f (by omega) p q w' (hAr.below h')).mono fun e w'' hh => ⟨by rw [← ho]; exact hh.1, h'.trans (hh.2.mono h'.size)⟩
            go_simp
            refine hK _ ?_
            clear hK K
            refine q_run rfl (fun K hK => ?_)
            refine q_value ?_ (fun w' h' => ?_) ?_
            rotate_left
            · go_simp; try with_reducible rfl
            go_simp
            refine hK _ ?_
            clear hK K
            refine q_run rfl (fun K hK => ?_)
            refine q_value ?_ (fun w' h' => ?_) ?_
            rotate_left
            · go_simp; try with_reducible rfl
            go_simp
            refine hK _ ?_
            clear hK K
            refine qd_nil ?_
            intro w3 hb3
            go_wp2_with (fail)
            go_meet
            exact ⟨rfl, hb3⟩
          · have hw1 : ((f p).who == (f q).who) = false := by simp [hwho]
            refine quiet_all (fun w' => Below w2.heap.size w2 w') (by kernel_rfl) (by kernel_rfl) (Below.drew (Below.refl _ _)) ?_
            refine q_run rfl (fun K hK => ?_)
            refine q_value ?_ (fun w' h' => ?_) ?_
            rotate_left
            · go_simp; try with_reducible rfl
            go_simp
            refine hK _ ?_
            clear hK K
            refine q_run rfl (fun K hK => ?_)
            refine q_value ?_ (fun w' h' => ?_) ?_
            rotate_left
            · go_simp; try with_reducible rfl
            go_simp
            refine hK _ ?_
            clear hK K
            refine q_run rfl (fun K hK => ?_)
            refine q_value ?_ (fun w' h' => ?_) ?_
            rotate_left
            · go_simp; try with_reducible rfl
            go_simp
            refine hK _ ?_
            clear hK K
            refine q_run rfl (fun K hK => ?_)
            refine q_value ?_ (fun w' h' => ?_) ?_
            rotate_left
            · go_simp; try with_reducible rfl
            go_simp
            refine hK _ ?_
            clear hK K
            refine q_run rfl (fun K hK => ?_)
            refine q_value ?_ (fun w' h' => ?_) ?_
            rotate_left
            · go_simp; try with_reducible rfl
            go_simp
            refine hK _ ?_
            clear hK K
            refine q_run rfl (fun K hK => ?_)
            refine q_value ?_ (fun w' h' => ?_) ?_
            rotate_left
            · go_simp; try with_reducible rfl
            go_simp
            refine hK _ ?_
            clear hK K
            refine q_run rfl (fun K hK => ?_)
            refine q_value ?_ (fun w' h' => ?_) ?_
            rotate_left
            · go_simp; try with_reducible rfl
            go_simp
            refine hK _ ?_
            clear hK K
            refine q_run rfl (fun K hK => ?_)
            refine q_value (act (f p)) (fun w' h' => ?_) ?_
            · obtain ⟨c0, c1, c2⟩ := at_act hAr h' hp; exact run_ldact (.tmp 46) rfl b (off + p * 3) (f p) rfl c0 c1 c2
            go_simp
            refine hK _ ?_
            clear hK K
            refine q_run rfl (fun K hK => ?_)
            refine q_call (Nat.le_refl _) hR1 (fun w' => ?_) ?_
            · first | (go_simp; done) | (go_simp; rfl)
            go_simp
            refine hK _ ?_
            clear hK K
            refine q_run rfl (fun K hK => ?_)
            refine q_value ?_ (fun w' h' => ?_) ?_
            rotate_left
            · go_simp; try with_reducible rfl
            go_simp
            refine hK _ ?_
            clear hK K
            refine q_run rfl (fun K hK => ?_)
            refine q_value ?_ (fun w' h' => ?_) ?_
            rotate_left
            · go_simp; try with_reducible rfl
            go_simp
            refine hK _ ?_
            clear hK K
            refine q_run rfl (fun K hK => ?_)
            refine q_value ?_ (fun w' h' => ?_) ?_
            rotate_left
            · go_simp; try with_reducible rfl
            go_simp
            refine hK _ ?_
            clear hK K
            refine q_run rfl (fun K hK => ?_)
            refine q_value ?_ (fun w' h' => ?_) ?_
            rotate_left
            · go_simp; try with_reducible rfl
            go_simp
            refine hK _ ?_
            clear hK K
            refine q_run rfl (fun K hK => ?_)
            refine q_value ?_ (fun w' h' => ?_) ?_
            rotate_left
            · go_simp; try with_reducible rfl
            go_simp
            refine hK _ ?_
            clear hK K
            refine q_run rfl (fun K hK => ?_)
            refine q_value (act (f q)) (fun w' h' => ?_) ?_
            · obtain ⟨c0, c1, c2⟩ := at_act hAr h' hq; exact run_ldact (.tmp 53) rfl b (off + q * 3) (f q) rfl c0 c1 c2
            go_simp
            refine hK _ ?_
            clear hK K
            refine q_run rfl (fun K hK => ?_)
            refine q_call (Nat.le_refl _) hR2 (fun w' => ?_) ?_
            · first | (go_simp; done) | (go_simp; rfl)
            go_simp
            refine hK _ ?_
            clear hK K
            refine q_run rfl (fun K hK => ?_)
            refine q_value ?_ (fun w' h' => ?_) ?_
            rotate_left
            · go_simp; try with_reducible rfl
            go_simp
            refine hK _ ?_
            clear hK K
            refine q_run rfl (fun K hK => ?_)
            refine q_value ?_ (fun w' h' => ?_) ?_
            rotate_left
            · go_simp; try with_reducible rfl
            go_simp
            refine hK _ ?_
            clear hK K
            refine q_run rfl (fun K hK => ?_)
            refine q_value ?_ (fun w' h' => ?_) ?_
            rotate_left
            · go_simp; try with_reducible rfl
            go_simp
            refine hK _ ?_
            clear hK K
            refine q_run rfl (fun K hK => ?_)
            refine q_value ?_ (fun w' h' => ?_) ?_
            rotate_left
            · go_simp; try with_reducible rfl
            go_simp
            refine hK _ ?_
            clear hK K
            refine q_run rfl (fun K hK => ?_)
            refine q_value ?_ (fun w' h' => ?_) ?_
            rotate_left
            · go_simp; try with_reducible rfl
            go_simp
            refine hK _ ?_
            clear hK K
            refine q_run rfl (fun K hK => ?_)
            refine q_value ?_ (fun w' h' => ?_) ?_
            rotate_left
            · go_simp; try with_reducible rfl
            go_simp
            refine hK _ ?_
            clear hK K
            refine q_run rfl (fun K hK => ?_)
            refine q_value ?_ (fun w' h' => ?_) ?_
            rotate_left
            · obtain ⟨c0, c1, c2⟩ := at_act hAr h' hp; go_simp; try with_reducible rfl
            go_simp
            refine hK _ ?_
            clear hK K
            refine q_run rfl (fun K hK => ?_)
            refine q_value ?_ (fun w' h' => ?_) ?_
            rotate_left
            · go_simp; try with_reducible rfl
            go_simp
            refine hK _ ?_
            clear hK K
            refine q_run rfl (fun K hK => ?_)
            refine q_value ?_ (fun w' h' => ?_) ?_
            rotate_left
            · go_simp; try with_reducible rfl
            go_simp
            refine hK _ ?_
            clear hK K
            refine q_run rfl (fun K hK => ?_)
            refine q_value ?_ (fun w' h' => ?_) ?_
            rotate_left
            · go_simp; try with_reducible rfl
            go_simp
            refine hK _ ?_
            clear hK K
            refine q_run rfl (fun K hK => ?_)
            refine q_value ?_ (fun w' h' => ?_) ?_
            rotate_left
            · go_simp; try with_reducible rfl
            go_simp
            refine hK _ ?_
            clear hK K
            refine q_run rfl (fun K hK => ?_)
            refine q_value ?_ (fun w' h' => ?_) ?_
            rotate_left
            · obtain ⟨c0, c1, c2⟩ := at_act hAr h' hq; go_simp; try with_reducible rfl
            go_simp
            refine hK _ ?_
            clear hK K
            refine q_run rfl (fun K hK => ?_)
            refine q_value ?_ (fun w' h' => ?_) ?_
            rotate_left
            · go_simp; try with_reducible rfl
            go_simp
            refine hK _ ?_
            clear hK K
            refine q_run rfl (fun K hK => ?_)
            refine q_value ?_ (fun w' h' => ?_) ?_
            rotate_left
            · go_simp; try with_reducible rfl
            go_simp
            refine hK _ ?_
            clear hK K
            refine q_run rfl (fun K hK => ?_)
            refine q_value ?_ (fun w' h' => ?_) ?_
            rotate_left
            · go_simp; try with_reducible rfl
            go_simp
            refine hK _ ?_
            clear hK K
            refine q_skip rfl (fun K hK => ?_)
            go_simp
            refine hK _ ?_
            clear hK K
            refine q_skip rfl (fun K hK => ?_)
            go_simp
            refine hK _ ?_
            clear hK K
            refine q_skip rfl (fun K hK => ?_)
            go_simp
            refine hK _ ?_
            clear hK K
            refine q_skip rfl (fun K hK => ?_)
            go_simp
            refine hK _ ?_
            clear hK K
            refine q_skip rfl (fun K hK => ?_)
            go_simp
            refine hK _ ?_
            clear hK K
            refine q_run rfl (fun K hK => ?_)
            refine q_value ?_ (fun w' h' => ?_) ?_
            rotate_left
            · go_simp; try with_reducible rfl
            go_simp
            refine hK _ ?_
            clear hK K
            refine qd_nil ?_
            intro w3 hb3
            go_wp2_with (fail)
            go_meet
            exact ⟨rfl, hb3⟩
    · have hl : ¬ (p : Int) < q := by omega
      refine quiet_all (fun w' => Below w2.heap.size w2 w') (by kernel_rfl) (by kernel_rfl) (Below.drew (Below.refl _ _)) ?_
      refine q_run rfl (fun K hK => ?_)
      refine q_value ?_ (fun w' h' => ?_) ?_
      rotate_left
      · go_simp; try with_reducible rfl
      go_simp
      refine hK _ ?_
      clear hK K
      refine q_run rfl (fun K hK => ?_)
      refine q_value ?_ (fun w' h' => ?_) ?_
      rotate_left
      · go_simp; try with_reducible rfl
      go_simp
      refine hK _ ?_
      clear hK K
      refine q_run rfl (fun K hK => ?_)
      refine q_value ?_ (fun w' h' => ?_) ?_
      rotate_left
      · go_simp; try with_reducible rfl
      go_simp
      refine hK _ ?_
      clear hK K
      refine q_run rfl (fun K hK => ?_)
      refine q_value ?_ (fun w' h' => ?_) ?_
      rotate_left
      · go_simp; try with_reducible rfl
      go_simp
      refine hK _ ?_
      clear hK K
      refine q_skip rfl (fun K hK => ?_)
      go_simp
      refine hK _ ?_
      clear hK K
      refine q_skip rfl (fun K hK => ?_)
      go_simp
      refine hK _ ?_
      clear hK K
      refine q_skip rfl (fun K hK => ?_)
      go_simp
      refine hK _ ?_
      clear hK K
      refine q_skip rfl (fun K hK => ?_)
      go_simp
      refine hK _ ?_
      clear hK K
      refine q_skip rfl (fun K hK => ?_)
      go_simp
      refine hK _ ?_
      clear hK K
      refine q_run rfl (fun K hK => ?_)
      refine q_value ?_ (fun w' h' => ?_) ?_
      rotate_left
      · go_simp; try with_reducible rfl
      go_simp
      refine hK _ ?_
      clear hK K
      refine q_run rfl (fun K hK => ?_)
      refine q_value ?_ (fun w' h' => ?_) ?_
      rotate_left
      · go_simp; try with_reducible rfl
      go_simp
      refine hK _ ?_
      clear hK K
      refine q_skip rfl (fun K hK => ?_)
      go_simp
      refine hK _ ?_
      clear hK K
      refine q_skip rfl (fun K hK => ?_)
      go_simp
      refine hK _ ?_
      clear hK K
      refine q_skip rfl (fun K hK => ?_)
      go_simp
      refine hK _ ?_
      clear hK K
      refine q_skip rfl (fun K hK => ?_)
      go_simp
      refine hK _ ?_
      clear hK K
      refine q_skip rfl (fun K hK => ?_)
      go_simp
      refine hK _ ?_
      clear hK K
      refine q_run rfl (fun K hK => ?_)
      refine q_value ?_ (fun w' h' => ?_) ?_
      rotate_left
      · go_simp; try with_reducible rfl
      go_simp
      refine hK _ ?_
      clear hK K
      refine q_run rfl (fun K hK => ?_)
      refine q_value ?_ (fun w' h' => ?_) ?_
      rotate_left
      · go_simp; try with_reducible rfl
      go_simp
      refine hK _ ?_
      clear hK K
      refine q_skip rfl (fun K hK => ?_)
      go_simp
      refine hK _ ?_
      clear hK K
      refine q_skip rfl (fun K hK => ?_)
      go_simp
      refine hK _ ?_
      clear hK K
      refine q_skip rfl (fun K hK => ?_)
      go_simp
      refine hK _ ?_
      clear hK K
      refine q_skip rfl (fun K hK => ?_)
      go_simp
      refine hK _ ?_
      clear hK K
      refine q_skip rfl (fun K hK => ?_)
      go_simp
      refine hK _ ?_
      clear hK K
      refine q_skip rfl (fun K hK => ?_)
      go_simp
      refine hK _ ?_
      clear hK K
      refine q_skip rfl (fun K hK => ?_)
      go_simp
      refine hK _ ?_
      clear hK K
      refine q_skip rfl (fun K hK => ?_)
      go_simp
      refine hK _ ?_
      clear hK K
      refine q_skip rfl (fun K hK => ?_)
      go_simp
      refine hK _ ?_
      clear hK K
      refine q_skip rfl (fun K hK => ?_)
      go_simp
      refine hK _ ?_
      clear hK K
      refine q_skip rfl (fun K hK => ?_)
      go_simp
      refine hK _ ?_
      clear hK K
      refine q_run rfl (fun K hK => ?_)
      refine q_value ?_ (fun w' h' => ?_) ?_
      rotate_left
      · go_simp; try with_reducible rfl
      go_simp
      refine hK _ ?_
      clear hK K
      refine q_run rfl (fun K hK => ?_)
      refine q_value ?_ (fun w' h' => ?_) ?_
      rotate_left
      · go_simp; try with_reducible rfl
      go_simp
      refine hK _ ?_
      clear hK K
      refine q_skip rfl (fun K hK => ?_)
      go_simp
      refine hK _ ?_
      clear hK K
      refine q_skip rfl (fun K hK => ?_)
      go_simp
      refine hK _ ?_
      clear hK K
      refine q_skip rfl (fun K hK => ?_)
      go_simp
      refine hK _ ?_
      clear hK K
      refine q_skip rfl (fun K hK => ?_)
      go_simp
      refine hK _ ?_
      clear hK K
      refine q_skip rfl (fun K hK => ?_)
      go_simp
      refine hK _ ?_
      clear hK K
      refine q_run rfl (fun K hK => ?_)
      refine q_value ?_ (fun w' h' => ?_) ?_
      rotate_left
      · go_simp; try with_reducible rfl
      go_simp
      refine hK _ ?_
      clear hK K
      refine qd_nil ?_
      intro w3 hb3
      go_wp2_with (fail)
      go_meet
      exact ⟨rfl, hb3⟩
  case rest =>
    obtain ⟨rfl, hb3⟩ := hcut
    obtain ⟨w3, hx3⟩ : ∃ x, x = wc := ⟨_, rfl⟩
    subst hx3
    have hAs := hAr.below hb3
    replace hb1 : Below w.heap.size w w3 := (hb1.trans (hb2.mono hb1.size)).trans (hb3.mono (Nat.le_trans hb1.size hb2.size))
    clear hb2 hb3 hAr
    cases o1 : Plain.ordC f n p q
    · go_wp2_with fail
      refine (Ordered _ n cn f (by omega) _ _ _ hAs).mono ?_
      rintro e v1 ⟨rfl, hv1⟩
      rw [o1]
      replace hAs := hAs.below hv1
      replace hb1 := hb1.trans (hv1.mono hb1.size)
      clear hv1
      go_wp2_with fail
      refine (Ordered _ n cn f (by omega) _ _ _ hAs).mono ?_
      rintro e v2 ⟨rfl, hv2⟩
      rw [o1]
      replace hAs := hAs.below hv2
      replace hb1 := hb1.trans (hv2.mono hb1.size)
      clear hv2
      go_wp2
      go_ret
      exact ⟨rfl, hb1⟩
    · have hpq : (p : Int) < q := by have := ((Plain.ordC_iff hp hq).1 o1).lt; omega
      cases o2 : Plain.ordC f n q r
      · go_wp2_with fail
        refine (Ordered _ n cn f (by omega) _ _ _ hAs).mono ?_
        rintro e v1 ⟨rfl, hv1⟩
        rw [o1]
        replace hAs := hAs.below hv1
        replace hb1 := hb1.trans (hv1.mono hb1.size)
        clear hv1
        go_wp2_with fail
        refine (Ordered _ n cn f (by omega) _ _ _ hAs).mono ?_
        rintro e v2 ⟨rfl, hv2⟩
        rw [o2]
        replace hAs := hAs.below hv2
        replace hb1 := hb1.trans (hv2.mono hb1.size)
        clear hv2
        go_wp2_with fail
        refine (Ordered _ n cn f (by omega) _ _ _ hAs).mono ?_
        rintro e v3 ⟨rfl, hv3⟩
        rw [o1]
        replace hAs := hAs.below hv3
        replace hb1 := hb1.trans (hv3.mono hb1.size)
        clear hv3
        go_wp2
        go_ret
        exact ⟨rfl, hb1⟩
      · have o3 : Plain.ordC f n p r = true := (Plain.ordC_iff hp hr).2 (((Plain.ordC_iff hp hq).1 o1).trans ((Plain.ordC_iff hq hr).1 o2))
        go_wp2_with fail
        refine (Ordered _ n cn f (by omega) _ _ _ hAs).mono ?_
        rintro e v1 ⟨rfl, hv1⟩
        rw [o1]
        replace hAs := hAs.below hv1
        replace hb1 := hb1.trans (hv1.mono hb1.size)
        clear hv1
        go_wp2_with fail
        refine (Ordered _ n cn f (by omega) _ _ _ hAs).mono ?_
        rintro e v2 ⟨rfl, hv2⟩
        rw [o2]
        replace hAs := hAs.below hv2
        replace hb1 := hb1.trans (hv2.mono hb1.size)
        clear hv2
        go_wp2_with fail
        refine (Ordered _ n cn f (by omega) _ _ _ hAs).mono ?_
        rintro e v3 ⟨rfl, hv3⟩
        rw [o3]
        replace hAs := hAs.below hv3
        replace hb1 := hb1.trans (hv3.mono hb1.size)
        clear hv3
        go_wp2_with fail
        refine (Ordered _ n cn f (by omega) _ _ _ hAs).mono ?_
        rintro e v4 ⟨rfl, hv4⟩
        rw [o1]
        replace hAs := hAs.below hv4
        replace hb1 := hb1.trans (hv4.mono hb1.size)
        clear hv4
        go_wp2
        go_ret
        exact ⟨rfl, hb1⟩
end Go.Proofs.Ytnchafbaipeagaa
