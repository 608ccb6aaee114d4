/- Does an op behind others keep the rules: the document's answer. -/
import Derived.Test.YtlcoealfnlakhaaDoorRefHas
namespace Go.Proofs.YtlcoealfnlakhaaDoor
open Go.RowKit
set_option linter.unusedVariables false
set_option linter.unusedSimpArgs false
set_option maxRecDepth 100000 in
set_option maxHeartbeats 8000000 in
theorem refKeepsOp (C : Cl) (hC : OkC C) (t : Nat) (ht : t < C.nt) (l : Nat → X) (P : Option Addr) (n cp : Nat) (hn : n ≤ 4000) (x : X) (hX : OkX C x) (w : World) (hM : MemC w C) (hL : Ops w P n l) :
    Calls Tryd.prog 25 #[C.v, .int .i64 t, .slice P n cp, xv x] w fun e w' => e = .returned (.bool (kpR C t (fun o => hasP C l o n) x)) ∧ Below w.heap.size w w' := by
  obtain ⟨k, a, b, K⟩ := x
  have hnt := hC.nt
  by_cases e34 : k = 3 ∨ k = 4
  · have hb := hX.hb e34
    simp only at hb
    obtain ⟨i, rfl⟩ : ∃ i : Nat, b = i := ⟨b.toNat, by omega⟩
    have hi : i < C.nw := by omega
    obtain ⟨hO1, hO2⟩ := hC.own i hi
    obtain ⟨bW, oW, eW⟩ := ints_ptr hM.own (by omega)
    have hW := hM.own
    rw [eW] at hW
    have hi0 : (0 : Int) ≤ i := by omega
    have hi1 : (i : Int) < C.nw := by omega
    have hkp : kpR C t (fun o => hasP C l o n) ⟨k, a, i, K⟩ = if C.own i < 0 then (C.own i == -1 - (t : Int)) else lockB (C.f (C.own i).toNat).k && (hasP C l (C.own i).toNat n == 2 || (hasP C l (C.own i).toNat n == 1 && k == 3)) := by
      unfold kpR; rw [if_pos e34]; rfl
    rw [hkp]
    clear hkp hb
    by_cases hneg : C.own i < 0
    · rw [if_pos hneg]
      have hc0 := fun w' (hh : Below w.heap.size w w') => at_int (hW.below hh) hi
      generalize C.own i = v at *
      have hwr : IntKind.i64.wrap (-1 - (t : Int)) = -1 - (t : Int) := by simp only [IntKind.wrap_i64]; omega
      rcases e34 with rfl | rfl
      all_goals
        unfold Cl.v xv
        rw [eW]
        go_enter Tryd.func25, Tryd.ntmps25
        go_upto_region 1 with (fail)
        obtain ⟨W, b1, b2, e0, e1, e2, X1, X2, hal⟩ := box2 w #[.slice C.A C.no C.ca, .int .i64 C.vars, .slice (some ⟨bW, oW, none⟩) C.nw C.cw, .int .i64 C.room, .slice C.T C.nt C.ct] #[.int .i64 _, .int .i64 a, .int .i64 i, .int .u32 K] 26 37
        rw [e0, e2, e1]
        clear e0 e2 e1
        have y2 := cell_of_row W b1 2 _ 26 _ X1
        have z0 := cell_of_row W b2 0 _ 37 _ X2
        have z2 := cell_of_row W b2 2 _ 37 _ X2
        have c := hc0 _ hal
        clear hc0
        go_wp2
        go_ret
        exact ⟨rfl, hal⟩
    rw [if_neg hneg]
    obtain ⟨q, hq⟩ : ∃ q : Nat, C.own i = q := ⟨(C.own i).toNat, by omega⟩
    have hqo : q < C.no := by omega
    obtain ⟨bA, oA, eA⟩ := objs_ptr hM.objs (by omega)
    have hA := hM.objs
    rw [eA] at hA
    have hc0 : ∀ w', Below w.heap.size w w' → w'.cell? ⟨bW, oW + i, none⟩ = some (.int .i64 q) := fun w' hh => by rw [at_int (hW.below hh) hi, hq]
    have hc0 : Hid (∀ w', Below w.heap.size w w' → w'.cell? ⟨bW, oW + i, none⟩ = some (.int .i64 q)) := hc0
    rw [hq, Int.toNat_natCast]
    have hn0 : (0 : Int) ≤ q := by omega
    have hn1 : (q : Int) < C.no := by omega
    have hn2 : ¬ ((q : Int) < 0) := by omega
    clear hq hneg hO1 hO2
    obtain ⟨B, hB⟩ : ∃ B, Hid ((lockB (C.f q).k && (hasP C l q n == 2 || (hasP C l q n == 1 && k == 3))) = B) := ⟨_, rfl⟩
    rw [hB.out]
    have hB := hB.out
    have hHas := fun w' (hh : Below w.heap.size w w') => refHas C l P n cp q hqo hn w' (hM.below hh) (hL.below hh)
    have hHas : Hid (∀ w', Below w.heap.size w w' → _) := hHas
    generalize hasP C l q n = v at *
    rcases e34 with rfl | rfl
    all_goals
      unfold Cl.v xv
      rw [eA, eW]
      go_enter Tryd.func25, Tryd.ntmps25
      go_upto_region 1 with (fail)
      obtain ⟨W, b1, b2, e0, e1, e2, X1, X2, hal⟩ := box2 w #[.slice (some ⟨bA, oA, none⟩) C.no C.ca, .int .i64 C.vars, .slice (some ⟨bW, oW, none⟩) C.nw C.cw, .int .i64 C.room, .slice C.T C.nt C.ct] #[.int .i64 _, .int .i64 a, .int .i64 i, .int .u32 K] 26 37
      rw [e0, e2, e1]
      clear e0 e2 e1
      have y2 := cell_of_row W b1 2 _ 26 _ X1
      have z0 := cell_of_row W b2 0 _ 37 _ X2
      have z2 := cell_of_row W b2 2 _ 37 _ X2
      have c := hc0.out _ hal
      clear hc0
      go_upto_region 5 with (fail)
      refine wp_region_lit ?_
      refine wl_load rfl 26 (.tmp 4) rfl _ rfl _ _ _ _ X1 Tryd.underlying26 rfl (by kernel_rfl) ?_
      intro K hK
      go_simp
      refine hK _ _ ?_
      clear hK K
      iterate 2
        refine wl_val rfl ?_ ?_ ?_
        rotate_left
        · go_simp; try with_reducible rfl
        intro K hK
        go_simp
        refine hK _ _ ?_
        clear hK K
      refine wl_call rfl 27 #[C.v, .slice P n cp, .int .i64 q] (.int .i64 v) _ ?_ (hHas.out W hal) (fun w6 hb6 => ?_)
      · unfold Cl.v; rw [eA, eW]; first | (go_simp; done) | (go_simp; rfl)
      intro K hK
      go_simp
      refine hK _ _ ?_
      clear hK K
      replace X1 := keep X1 hb6
      replace X2 := keep X2 hb6
      replace hal := hal.trans (hb6.mono hal.size)
      clear hHas hb6 y2 z0 z2 c eA eW
      have y0 := cell_of_row w6 b1 0 _ 26 _ X1
      have z0 := cell_of_row w6 b2 0 _ 37 _ X2
      have ck := (obj_at (hA.below hal) hqo).1
      generalize (C.f q).k = kd at *
      cases hLk : lockB kd
      · rw [hLk, Bool.false_and] at hB
        subst hB
        go_wp2_with fail
        refine (refLockC _ _).mono ?_
        rintro e w1 ⟨rfl, rfl⟩
        rw [hLk]
        go_wp2
        go_ret
        exact ⟨rfl, hal⟩
      rw [hLk, Bool.true_and] at hB
      by_cases h2 : v = 2
      · have q2 : (v == 2) = true := by simp [h2]
        rw [q2, Bool.true_or] at hB
        subst hB
        clear h2
        go_wp2_with fail
        refine (refLockC _ _).mono ?_
        rintro e w1 ⟨rfl, rfl⟩
        rw [hLk]
        go_wp2
        go_ret
        exact ⟨rfl, hal⟩
      have q2 : (v == 2) = false := by simp [h2]
      rw [q2, Bool.false_or] at hB
      clear h2
      by_cases h1 : v = 1
      · have q1 : (v == 1) = true := by simp [h1]
        rw [q1, Bool.true_and] at hB
        subst hB
        clear h1
        go_wp2_with fail
        refine (refLockC _ _).mono ?_
        rintro e w1 ⟨rfl, rfl⟩
        rw [hLk]
        go_wp2
        go_ret
        exact ⟨rfl, hal⟩
      · have q1 : (v == 1) = false := by simp [h1]
        rw [q1, Bool.false_and] at hB
        subst hB
        clear h1
        go_wp2_with fail
        refine (refLockC _ _).mono ?_
        rintro e w1 ⟨rfl, rfl⟩
        rw [hLk]
        go_wp2
        go_ret
        exact ⟨rfl, hal⟩
  have q3 : (k == 3) = false := by simp; omega
  have q4 : (k == 4) = false := by simp; omega
  by_cases e7 : k = 7
  case neg =>
    rw [show kpR C t (fun o => hasP C l o n) ⟨k, a, b, K⟩ = true from by unfold kpR; rw [if_neg e34, if_neg e7]]
    have q7 : (k != 7) = true := by simp [e7]
    have hal := ((Below.refl w.heap.size w).alloc (Nat.le_refl _) (.cells #[.slice C.A C.no C.ca, .int .i64 C.vars, .slice C.W C.nw C.cw, .int .i64 C.room, .slice C.T C.nt C.ct] 26)).alloc (by simp) (.cells #[.int .i64 k, .int .i64 a, .int .i64 b, .int .u32 K] 37)
    clear e34 e7
    unfold Cl.v xv
    go_enter Tryd.func25, Tryd.ntmps25
    go_wp2
    go_ret
    exact ⟨rfl, hal⟩
  subst e7
  clear q3 q4
  have ha := hX.ha rfl
  simp only at ha
  obtain ⟨i, rfl⟩ : ∃ i : Nat, a = i := ⟨a.toNat, by omega⟩
  have hi : i < C.no := by omega
  have hl0 : (0 : Int) ≤ i := by omega
  have hl1 : (i : Int) < C.no := by omega
  have hbar := hC.bar i hi
  have hK := hX.hK
  simp only at hK
  obtain ⟨bA, oA, eA⟩ := objs_ptr hM.objs (by omega)
  have hA := hM.objs
  rw [eA] at hA
  have hkp : kpR C t (fun o => hasP C l o n) ⟨7, i, b, K⟩ = (if (C.f i).k = 11 ∨ (C.f i).k = 12 then true
     else if (C.f i).k = 13 then decide ((t : Int) < (C.f i).n) && decide (K ≤ 8) && (K == (C.f i).n)
     else if ((C.f i).k = 6 ∨ (C.f i).k = 7) ∧ (t : Int) ≠ (C.f i).a ∧ (t : Int) ≠ (C.f i).b then false
     else if (C.f i).k = 15 then (b == 9 && hasP C l i n == 0) || (b == 10 && hasP C l i n == 3)
     else if b = 2 then hasP C l i n == 1 || hasP C l i n == 2
     else if b = 4 then hasP C l i n == 2
     else hasP C l i n == 0) := rfl
  generalize kpR C t (fun o => hasP C l o n) ⟨7, i, b, K⟩ = B at *
  have hk' : Hid (B = _) := hkp
  clear hkp e34
  have hHas := fun w' (hh : Below w.heap.size w w') => refHas C l P n cp i hi hn w' (hM.below hh) (hL.below hh)
  have hHas : Hid (∀ w', Below w.heap.size w w' → _) := hHas
  generalize hasP C l i n = v at *
  unfold Cl.v xv
  rw [eA]
  go_enter Tryd.func25, Tryd.ntmps25
  go_upto_region 9 with (fail)
  obtain ⟨W, b1, b2, e0, e1, e2, X1, X2, hal⟩ := box2 w #[.slice (some ⟨bA, oA, none⟩) C.no C.ca, .int .i64 C.vars, .slice C.W C.nw C.cw, .int .i64 C.room, .slice C.T C.nt C.ct] #[.int .i64 7, .int .i64 i, .int .i64 b, .int .u32 K] 26 37
  rw [e0, e2, e1]
  clear e0 e2 e1
  have y0 := cell_of_row W b1 0 _ 26 _ X1
  have z1 := cell_of_row W b2 1 _ 37 _ X2
  refine wp_region_lit ?_
  iterate 4
    refine wl_val rfl ?_ ?_ ?_
    rotate_left
    · go_simp; try with_reducible rfl
    intro K hK
    go_simp
    refine hK _ _ ?_
    clear hK K
  refine wl_val rfl (.pointer (some ⟨bA, oA + i * 4, none⟩)) ?_ ?_
  · go_simp
  intro K hK
  go_simp
  refine hK _ _ ?_
  clear hK K
  refine wl_val rfl (ov (C.f i)) (run_ldobj (.tmp 64) rfl bA oA i hA hal hi rfl) ?_
  intro K hK
  go_simp
  refine hK _ _ ?_
  clear hK K
  refine wl_alloc rfl 43 rfl (.agg #[.int .i64 0, .int .i64 0, .int .i64 0, .int .i64 0]) #[.int .i64 0, .int .i64 0, .int .i64 0, .int .i64 0] (fun w => by kernel_rfl) rfl (fun w4 b9 X4 l4 f4 => ?_)
  intro K hK
  go_simp
  refine hK _ _ ?_
  clear hK K
  refine wl_store rfl 43 (.tmp 11) (.tmp 65) rfl b9 #[.int .i64 (C.f i).k, .int .i64 (C.f i).n, .int .i64 (C.f i).a, .int .i64 (C.f i).b] rfl rfl 43 _ X4 (by kernel_rfl) rfl (by simp [Value.oneCell']) (fun w5 g1 g2 g3 g4 => ?_)
  intro K hK
  go_simp
  refine hK _ _ ?_
  clear hK K
  have hb5 : Below W.heap.size W w5 := l4.trans (g3 _ (by simp only [Hid] at f4; omega))
  replace X1 := keep X1 hb5
  replace X2 := keep X2 hb5
  have hal5 := hal.trans (hb5.mono hal.size)
  clear X4 l4 f4 g2 g3 g4 y0 z1 hb5
  have z1 := cell_of_row w5 b2 1 _ 37 _ X2
  go_upto_region 10 with (fail)
  refine wp_region_lit ?_
  refine wl_load rfl 26 (.tmp 4) rfl _ rfl _ _ _ _ X1 Tryd.underlying26 rfl (by kernel_rfl) ?_
  intro K hK
  go_simp
  refine hK _ _ ?_
  clear hK K
  iterate 3
    refine wl_val rfl ?_ ?_ ?_
    rotate_left
    · go_simp; try with_reducible rfl
    intro K hK
    go_simp
    refine hK _ _ ?_
    clear hK K
  refine wl_call rfl 27 #[C.v, .slice P n cp, .int .i64 i] (.int .i64 v) _ ?_ (hHas.out w5 hal5) (fun w6 hb6 => ?_)
  · unfold Cl.v; rw [eA]; first | (go_simp; done) | (go_simp; rfl)
  intro K hK
  go_simp
  refine hK _ _ ?_
  clear hK K
  replace X2 := keep X2 hb6
  have G := keep g1 hb6
  have hal6 := hal5.trans (hb6.mono hal5.size)
  clear z1 hb6 hHas X1 g1 hal hal5 hA hM hX hC
  have g0 := cell_of_row w6 b9 0 _ 43 _ G
  have g1 := cell_of_row w6 b9 1 _ 43 _ G
  have g2 := cell_of_row w6 b9 2 _ 43 _ G
  have g3 := cell_of_row w6 b9 3 _ 43 _ G
  have z2 := cell_of_row w6 b2 2 _ 37 _ X2
  have z3 := cell_of_row w6 b2 3 _ 37 _ X2
  clear G X2 eA
  generalize C.f i = o at *
  obtain ⟨kd, on, oa, ob⟩ := o
  simp only at g0 g1 g2 g3 hbar
  by_cases e11 : kd = 11
  · subst e11
    obtain rfl : B = true := by rw [hk'.out]; simp
    clear hk' hbar
    go_wp2
    go_ret
    exact ⟨rfl, hal6⟩
  by_cases e12 : kd = 12
  · subst e12
    obtain rfl : B = true := by rw [hk'.out]; simp
    clear hk' hbar
    go_wp2
    go_ret
    exact ⟨rfl, hal6⟩
  by_cases e13 : kd = 13
  · subst e13
    have hB : B = (decide ((t : Int) < on) && decide (K ≤ 8) && (K == on)) := by rw [hk'.out]; simp
    have hcv : IntKind.i64.wrap K = K := by simp only [IntKind.wrap_i64]; omega
    clear hk' hbar
    by_cases c1 : (t : Int) < on
    · by_cases c2 : K ≤ 8
      · rw [decide_eq_true c1, decide_eq_true c2, Bool.true_and, Bool.true_and] at hB
        subst hB
        go_wp2
        go_ret
        exact ⟨rfl, hal6⟩
      · rw [decide_eq_true c1, decide_eq_false c2, Bool.true_and, Bool.false_and] at hB
        subst hB
        go_wp2
        go_ret
        exact ⟨rfl, hal6⟩
    · rw [decide_eq_false c1, Bool.false_and, Bool.false_and] at hB
      subst hB
      go_wp2
      go_ret
      exact ⟨rfl, hal6⟩
  by_cases e6 : kd = 6
  · subst e6
    by_cases ca : (t : Int) = oa
    · have qa : ((t : Int) != oa) = false := by simp [ca]
      have hca : ¬ ((t : Int) ≠ oa ∧ (t : Int) ≠ ob) := fun h => h.1 ca
      have hk2 : Hid (B = (if b = 2 then v == 1 || v == 2 else if b = 4 then v == 2 else v == 0)) := by show B = _; rw [hk'.out]; simp [hca]
      clear ca hca hk'
      have hk' := hk2
      clear hk2
      by_cases f2 : b = 2
      · subst f2
        have hB : B = (v == 1 || v == 2) := by rw [hk'.out]; simp [if_true]
        clear hk' hbar
        by_cases v1 : v = 1
        · have qv : (v == 1) = true := by simp [v1]
          rw [qv, Bool.true_or] at hB
          clear v1
          subst hB
          go_wp2
          go_ret
          exact ⟨rfl, hal6⟩
        · have qv : (v == 1) = false := by simp [v1]
          rw [qv, Bool.false_or] at hB
          clear v1
          subst hB
          go_wp2
          go_ret
          exact ⟨rfl, hal6⟩
      by_cases f4 : b = 4
      · subst f4
        obtain rfl : B = (v == 2) := by rw [hk'.out]; simp [if_true]
        clear hk' hbar
        go_wp2
        go_ret
        exact ⟨rfl, hal6⟩
      obtain rfl : B = (v == 0) := by rw [hk'.out]; simp [if_true, f2, f4]
      have qb2 : (b == 2) = false := by simp [f2]
      have qb4 : (b == 4) = false := by simp [f4]
      clear hk' hbar f2 f4
      go_wp2
      go_ret
      exact ⟨rfl, hal6⟩
    · have qa : ((t : Int) != oa) = true := by simp [ca]
      by_cases cb : (t : Int) = ob
      · have qb : ((t : Int) != ob) = false := by simp [cb]
        have hca : ¬ ((t : Int) ≠ oa ∧ (t : Int) ≠ ob) := fun h => h.2 cb
        have hk2 : Hid (B = (if b = 2 then v == 1 || v == 2 else if b = 4 then v == 2 else v == 0)) := by show B = _; rw [hk'.out]; simp [hca]
        clear ca cb hca hk'
        have hk' := hk2
        clear hk2
        by_cases f2 : b = 2
        · subst f2
          have hB : B = (v == 1 || v == 2) := by rw [hk'.out]; simp [if_true]
          clear hk' hbar
          by_cases v1 : v = 1
          · have qv : (v == 1) = true := by simp [v1]
            rw [qv, Bool.true_or] at hB
            clear v1
            subst hB
            go_wp2
            go_ret
            exact ⟨rfl, hal6⟩
          · have qv : (v == 1) = false := by simp [v1]
            rw [qv, Bool.false_or] at hB
            clear v1
            subst hB
            go_wp2
            go_ret
            exact ⟨rfl, hal6⟩
        by_cases f4 : b = 4
        · subst f4
          obtain rfl : B = (v == 2) := by rw [hk'.out]; simp [if_true]
          clear hk' hbar
          go_wp2
          go_ret
          exact ⟨rfl, hal6⟩
        obtain rfl : B = (v == 0) := by rw [hk'.out]; simp [if_true, f2, f4]
        have qb2 : (b == 2) = false := by simp [f2]
        have qb4 : (b == 4) = false := by simp [f4]
        clear hk' hbar f2 f4
        go_wp2
        go_ret
        exact ⟨rfl, hal6⟩
      · have qb : ((t : Int) != ob) = true := by simp [cb]
        obtain rfl : B = false := by rw [hk'.out]; simp [ca, cb]
        clear ca cb hk' hbar
        go_wp2
        go_ret
        exact ⟨rfl, hal6⟩
  by_cases e7 : kd = 7
  · subst e7
    by_cases ca : (t : Int) = oa
    · have qa : ((t : Int) != oa) = false := by simp [ca]
      have hca : ¬ ((t : Int) ≠ oa ∧ (t : Int) ≠ ob) := fun h => h.1 ca
      have hk2 : Hid (B = (if b = 2 then v == 1 || v == 2 else if b = 4 then v == 2 else v == 0)) := by show B = _; rw [hk'.out]; simp [hca]
      clear ca hca hk'
      have hk' := hk2
      clear hk2
      by_cases f2 : b = 2
      · subst f2
        have hB : B = (v == 1 || v == 2) := by rw [hk'.out]; simp [if_true]
        clear hk' hbar
        by_cases v1 : v = 1
        · have qv : (v == 1) = true := by simp [v1]
          rw [qv, Bool.true_or] at hB
          clear v1
          subst hB
          go_wp2
          go_ret
          exact ⟨rfl, hal6⟩
        · have qv : (v == 1) = false := by simp [v1]
          rw [qv, Bool.false_or] at hB
          clear v1
          subst hB
          go_wp2
          go_ret
          exact ⟨rfl, hal6⟩
      by_cases f4 : b = 4
      · subst f4
        obtain rfl : B = (v == 2) := by rw [hk'.out]; simp [if_true]
        clear hk' hbar
        go_wp2
        go_ret
        exact ⟨rfl, hal6⟩
      obtain rfl : B = (v == 0) := by rw [hk'.out]; simp [if_true, f2, f4]
      have qb2 : (b == 2) = false := by simp [f2]
      have qb4 : (b == 4) = false := by simp [f4]
      clear hk' hbar f2 f4
      go_wp2
      go_ret
      exact ⟨rfl, hal6⟩
    · have qa : ((t : Int) != oa) = true := by simp [ca]
      by_cases cb : (t : Int) = ob
      · have qb : ((t : Int) != ob) = false := by simp [cb]
        have hca : ¬ ((t : Int) ≠ oa ∧ (t : Int) ≠ ob) := fun h => h.2 cb
        have hk2 : Hid (B = (if b = 2 then v == 1 || v == 2 else if b = 4 then v == 2 else v == 0)) := by show B = _; rw [hk'.out]; simp [hca]
        clear ca cb hca hk'
        have hk' := hk2
        clear hk2
        by_cases f2 : b = 2
        · subst f2
          have hB : B = (v == 1 || v == 2) := by rw [hk'.out]; simp [if_true]
          clear hk' hbar
          by_cases v1 : v = 1
          · have qv : (v == 1) = true := by simp [v1]
            rw [qv, Bool.true_or] at hB
            clear v1
            subst hB
            go_wp2
            go_ret
            exact ⟨rfl, hal6⟩
          · have qv : (v == 1) = false := by simp [v1]
            rw [qv, Bool.false_or] at hB
            clear v1
            subst hB
            go_wp2
            go_ret
            exact ⟨rfl, hal6⟩
        by_cases f4 : b = 4
        · subst f4
          obtain rfl : B = (v == 2) := by rw [hk'.out]; simp [if_true]
          clear hk' hbar
          go_wp2
          go_ret
          exact ⟨rfl, hal6⟩
        obtain rfl : B = (v == 0) := by rw [hk'.out]; simp [if_true, f2, f4]
        have qb2 : (b == 2) = false := by simp [f2]
        have qb4 : (b == 4) = false := by simp [f4]
        clear hk' hbar f2 f4
        go_wp2
        go_ret
        exact ⟨rfl, hal6⟩
      · have qb : ((t : Int) != ob) = true := by simp [cb]
        obtain rfl : B = false := by rw [hk'.out]; simp [ca, cb]
        clear ca cb hk' hbar
        go_wp2
        go_ret
        exact ⟨rfl, hal6⟩
  by_cases e15 : kd = 15
  · subst e15
    have hB : B = ((b == 9 && v == 0) || (b == 10 && v == 3)) := by rw [hk'.out]; simp
    clear hk' hbar
    by_cases f9 : b = 9
    · subst f9
      obtain rfl : B = (v == 0) := by rw [hB]; simp
      clear hB
      by_cases v0 : v = 0
      · have qv : (v == 0) = true := by simp [v0]
        clear v0
        go_wp2
        go_ret
        exact ⟨by first | rfl | (rw [qv]; rfl), hal6⟩
      · have qv : (v == 0) = false := by simp [v0]
        clear v0
        go_wp2
        go_ret
        exact ⟨by first | rfl | (rw [qv]; rfl), hal6⟩
    · have q9 : (b == 9) = false := by simp [f9]
      rw [q9, Bool.false_and, Bool.false_or] at hB
      by_cases f10 : b = 10
      · have q10 : (b == 10) = true := by simp [f10]
        rw [q10, Bool.true_and] at hB
        clear f9 f10
        subst hB
        go_wp2
        go_ret
        exact ⟨rfl, hal6⟩
      · have q10 : (b == 10) = false := by simp [f10]
        rw [q10, Bool.false_and] at hB
        clear f9 f10
        subst hB
        go_wp2
        go_ret
        exact ⟨rfl, hal6⟩
  have q11 : (kd == 11) = false := by simp [e11]
  have q12 : (kd == 12) = false := by simp [e12]
  have q13 : (kd == 13) = false := by simp [e13]
  have q6 : (kd == 6) = false := by simp [e6]
  have q7 : (kd == 7) = false := by simp [e7]
  have q15 : (kd == 15) = false := by simp [e15]
  have hk2 : Hid (B = (if b = 2 then v == 1 || v == 2 else if b = 4 then v == 2 else v == 0)) := by show B = _; rw [hk'.out]; simp [e6, e7, e11, e12, e13, e15]
  clear hk' e6 e7 e11 e12 e13 e15
  have hk' := hk2
  clear hk2
  by_cases f2 : b = 2
  · subst f2
    have hB : B = (v == 1 || v == 2) := by rw [hk'.out]; simp [if_true]
    clear hk' hbar
    by_cases v1 : v = 1
    · have qv : (v == 1) = true := by simp [v1]
      rw [qv, Bool.true_or] at hB
      clear v1
      subst hB
      go_wp2
      go_ret
      exact ⟨rfl, hal6⟩
    · have qv : (v == 1) = false := by simp [v1]
      rw [qv, Bool.false_or] at hB
      clear v1
      subst hB
      go_wp2
      go_ret
      exact ⟨rfl, hal6⟩
  by_cases f4 : b = 4
  · subst f4
    obtain rfl : B = (v == 2) := by rw [hk'.out]; simp [if_true]
    clear hk' hbar
    go_wp2
    go_ret
    exact ⟨rfl, hal6⟩
  obtain rfl : B = (v == 0) := by rw [hk'.out]; simp [if_true, f2, f4]
  have qb2 : (b == 2) = false := by simp [f2]
  have qb4 : (b == 4) = false := by simp [f4]
  clear hk' hbar f2 f4
  go_wp2
  go_ret
  exact ⟨rfl, hal6⟩
end Go.Proofs.YtlcoealfnlakhaaDoor
