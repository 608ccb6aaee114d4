/- Where a client breaks a rule first: the document's answer. -/
import Derived.Test.YtlcoealfnlakhaaDoorRefKeepsOp
import Derived.Test.YtlcoealfnlakhaaDoorRefRises
namespace Go.Proofs.YtlcoealfnlakhaaDoor
open Go.RowKit
set_option linter.unusedVariables false
set_option linter.unusedSimpArgs false
theorem zero_congr {n : Nat} {h h' : Nat → Int} (e : ∀ o, o < n → h o = h' o) : zeroB n h = zeroB n h' := by
  unfold zeroB
  rw [Bool.eq_iff_iff, List.all_eq_true, List.all_eq_true]
  constructor
  · intro hh o ho; rw [← e o (List.mem_range.1 ho)]; exact hh o ho
  · intro hh o ho; rw [e o (List.mem_range.1 ho)]; exact hh o ho
theorem kpP_congr {C : Cl} (hC : OkC C) {t : Int} {h h' : Nat → Int} {x : X} (hX : OkX C x) (e : ∀ o, o < C.no → h o = h' o) : kpP C t h x = kpP C t h' x := by
  unfold kpP
  by_cases e7 : x.k = 7
  · have ha := hX.ha e7
    rw [if_pos e7, if_pos e7, e x.a.toNat (by omega)]
  · rw [if_neg e7, if_neg e7]
    by_cases e34 : x.k = 3 ∨ x.k = 4
    · have hb := hX.hb e34
      have ho := hC.own x.b.toNat (by omega)
      rw [if_pos e34, if_pos e34]
      unfold touchB
      by_cases hneg : C.own x.b.toNat < 0
      · rw [if_pos hneg, if_pos hneg]
      · rw [if_neg hneg, if_neg hneg, e (C.own x.b.toNat).toNat (by omega)]
    · rw [if_neg e34, if_neg e34]
theorem risesB_congr {C : Cl} {h h' : Nat → Int} {x : X} (e : ∀ o, o < C.no → h o = h' o) : risesB C h x = risesB C h' x := by
  unfold risesB aboveB
  rw [zero_congr (h := fun o => h (x.a.toNat + o)) (h' := fun o => h' (x.a.toNat + o)) (n := C.no - x.a.toNat) (fun o ho => e _ (by omega))]
theorem ref_kp {C : Cl} (hK : OkK C) {t i : Nat} (ht : t < C.nt) (hi : i < C.len t) (hX : OkX C (C.op t i)) : kpR C t (fun o => hasP C (C.op t) o i) (C.op t i) = kpP C t (stP C (C.op t) i) (C.op t i) := by
  have hr := fun j (hj : j < C.len t) => hK.op t j ht hj
  rw [kp_same hK (hr i hi) (fun o ho => st_val hr ho i (by omega))]
  exact kpP_congr hK.okC hX (fun o ho => (has_same hr ho i (by omega)).symm)
theorem ref_rs {C : Cl} (hK : OkK C) {t i : Nat} (ht : t < C.nt) (hi : i < C.len t) : risesB C (fun o => hasP C (C.op t) o i) (C.op t i) = risesB C (stP C (C.op t) i) (C.op t i) :=
  risesB_congr (fun o ho => (has_same (fun j (hj : j < C.len t) => hK.op t j ht hj) ho i (by omega)).symm)
theorem Ops.le {w : World} {A : Option Addr} {n n' : Nat} {f : Nat → X} (h : Ops w A n f) (hn : n' ≤ n) : Ops w A n' f := fun h0 => by
  obtain ⟨b, off, e, hlt, hc⟩ := h (by omega)
  exact ⟨b, off, e, hlt, fun i hi => hc i (by omega)⟩
set_option maxRecDepth 100000 in
set_option maxHeartbeats 8000000 in
theorem refKeeps_false (C : Cl) (w : World) (hM : MemC w C) : Calls Tryd.prog 15 #[C.v, .bool false] w fun e w' => e = .returned (r3 (kp false C)) ∧ Below w.heap.size w w' := by
  obtain ⟨⟨p1, p2, p3⟩, hp⟩ : ∃ p, p = chk C := ⟨_, rfl⟩
  have hck := fun w hM => refCheck C w hM
  rw [← hp] at hck
  have kE : p3 ≠ 0 → kp false C = (p1, p2, p3) := fun h => by rw [hp]; exact kp_err (by rw [← hp]; exact h)
  have kT := fun (h : p3 = 0) {t r} => kp_thr (rise := false) (C := C) (by rw [← hp]; exact h) (t := t) (r := r)
  have kF := fun (h : p3 = 0) => kp_fine (rise := false) (C := C) (by rw [← hp]; exact h)
  have kO : p3 = 0 → OkK C := fun h => chk_ok (by rw [← hp]; exact h)
  clear hp
  generalize kp false C = res at *
  unfold Cl.v
  go_enter Tryd.func15, Tryd.ntmps15
  go_upto_region 1 with (fail)
  obtain ⟨W, b1, e0, e1, X1, halW⟩ := box1 w #[.slice C.A C.no C.ca, .int .i64 C.vars, .slice C.W C.nw C.cw, .int .i64 C.room, .slice C.T C.nt C.ct] 26
  rw [e0, e1]
  clear e0 e1
  refine wp_region_lit ?_
  refine wl_load rfl 26 (.tmp 2) rfl _ rfl _ _ _ _ X1 Tryd.underlying26 rfl (by kernel_rfl) ?_
  intro K hK
  go_simp
  refine hK _ _ ?_
  clear hK K
  refine wl_call rfl 11 #[C.v] (r3 (p1, p2, p3)) _ ?_ (hck W (hM.below halW)) (fun w6 hb6 => ?_)
  · unfold Cl.v; first | (go_simp; done) | (go_simp; rfl)
  intro K hK
  go_simp
  refine hK _ _ ?_
  clear hK K
  unfold r3
  replace X1 := keep X1 hb6
  replace halW := halW.trans (hb6.mono halW.size)
  clear hck hb6
  by_cases h3 : p3 = 0
  case neg =>
    have hk := kE h3
    have q3 : (p3 != 0) = true := by simp [h3]
    clear kE kT kF kO h3
    subst hk
    go_wp2
    go_ret3
    exact ⟨rfl, halW⟩
  replace kT := fun {t r} => kT h3 (t := t) (r := r)
  replace kF := kF h3
  have hK := kO h3
  subst h3
  clear kE kO
  have hC := hK.okC
  have hMW := hM.below halW
  have hno := hC.no
  have hnt := hC.nt
  go_upto_region 5 with (fail)
  go_loopw [10] (fun v wr => ∃ k : Nat, v = .int .i64 k ∧ k ≤ C.nt ∧ (∀ j, j < k → thrK false C j = none) ∧ Below w6.heap.size w6 wr) (fun v _ => C.nt - (intOf v).toNat)
  case atStart => exact ⟨0, rfl, Nat.zero_le _, fun p hp => absurd hp (by omega), Below.refl _ _⟩
  case round =>
    obtain ⟨t, rfl, hk, hpre, hb⟩ := hrel
    have X2 := keep X1 hb
    have y4 := cell_of_row wr b1 4 _ 26 _ X2
    by_cases hlt : t < C.nt
    case neg =>
      have hkn : t = C.nt := by omega
      have hl1 : ¬ ((t : Int) < C.nt) := by omega
      rw [hkn] at hpre
      have hc := kF hpre
      clear kT kF hpre hkn
      go_wp2
      go_ret3
      exact ⟨by first | rfl | (rw [hc]; rfl), halW.trans (hb.mono halW.size)⟩
    clear y4
    have hl0 : (0 : Int) ≤ t := by omega
    have hl1 : (t : Int) < C.nt := by omega
    obtain ⟨bA, oA, eA⟩ := thr_ptr hMW.thr (by omega)
    have hA := hMW.thr
    have hO := hMW.ops t hlt
    have hKt := fun i hi => hMW.hK t i hlt hi
    have hcap := hMW.hl t hlt
    have hlen := hK.len t hlt
    rw [eA] at hA X2
    try rw [eA]
    have y4 := cell_of_row wr b1 4 _ 26 _ X2
    have cA := at_thr (hA.below hb) hlt
    have tO := fun {i} => thrK_op (rise := false) (C := C) (t := t) (i := i)
    have tE := thrK_end (rise := false) (C := C) (t := t)
    have tK := thrK_ok (rise := false) (C := C) (t := t)
    have hct := fun {r} => kT (t := t) (r := r) hlt hpre
    generalize hth : thrK false C t = th at *
    clear kT
    generalize C.tp t = At at *
    go_upto_region 9 with (fail)
    obtain ⟨v1, ev1⟩ : ∃ x, x = wr := ⟨_, rfl⟩
    subst ev1
    clear cA y4
    go_loopw [12] (fun v wr => ∃ i : Nat, v = .int .i64 i ∧ i ≤ C.len t ∧ (∀ j, j < i → badP false C t j = false) ∧ Below v1.heap.size v1 wr) (fun v _ => C.len t - (intOf v).toNat)
    case atStart => exact ⟨0, rfl, Nat.zero_le _, fun p hp => absurd hp (by omega), Below.refl _ _⟩
    case round =>
      obtain ⟨i, rfl, hi, hpre2, hb2⟩ := hrel
      have X3 := keep X2 hb2
      have hb3 := hb.trans (hb2.mono hb.size)
      by_cases hlt2 : i < C.len t
      case neg =>
        have hkn : i = C.len t := by omega
        have hl2 : ¬ ((i : Int) < C.len t) := by omega
        rw [hkn] at hpre2
        replace tE := tE hpre2
        replace tK := tK hpre2
        have hz0 : zeroB C.no (stP C (C.op t) (C.len t)) = zeroB C.no (fun o => hasP C (C.op t) o (C.len t)) := zero_congr fun o ho => has_same (fun j hj => hK.op t j hlt hj) ho (C.len t) (Nat.le_refl _)
        rw [hz0] at tE tK
        have zt := zero_t (n := C.no) (h := fun o => hasP C (C.op t) o (C.len t))
        have zf := fun {o} => zero_f (n := C.no) (h := fun o => hasP C (C.op t) o (C.len t)) (o := o)
        generalize zeroB C.no (fun o => hasP C (C.op t) o (C.len t)) = z at *
        clear tO hpre2 hz0 hkn
        go_upto_region 14 with (fail)
        obtain ⟨v2, ev2⟩ : ∃ x, x = wr := ⟨_, rfl⟩
        subst ev2
        go_loopw [13] (fun v wr => ∃ j : Nat, v = .int .i64 j ∧ j ≤ C.no ∧ (∀ p, p < j → hasP C (C.op t) p (C.len t) = 0) ∧ Below v2.heap.size v2 wr) (fun v _ => C.no - (intOf v).toNat)
        case atStart => exact ⟨0, rfl, Nat.zero_le _, fun p hp => absurd hp (by omega), Below.refl _ _⟩
        case round =>
          obtain ⟨j, rfl, hj, hpre3, hb4⟩ := hrel
          have X4 := keep X3 hb4
          have hb5 := hb3.trans (hb4.mono hb3.size)
          have y0 := cell_of_row wr b1 0 _ 26 _ X4
          by_cases hlt3 : j < C.no
          case neg =>
            have hjn : j = C.no := by omega
            have hl3 : ¬ ((j : Int) < C.no) := by omega
            rw [hjn] at hpre3
            obtain rfl : z = true := zt hpre3
            have hpre' : ∀ p, p < t + 1 → thrK false C p = none := fun p hp => by
              rcases Nat.lt_succ_iff_lt_or_eq.1 hp with h | rfl
              · exact hpre p h
              · rw [hth]; exact tK rfl
            clear tE tK hct hpre kF zt zf hpre3 hjn
            go_wp2
            go_roundw
            case rel => exact ⟨t + 1, by go_num, by omega, hpre', hb5⟩
            case measure => simp [intOf]; omega
          have hl3 : (j : Int) < C.no := by omega
          go_upto_region 16 with (fail)
          refine wp_region_lit ?_
          refine wl_load rfl 26 (.tmp 2) rfl _ rfl _ _ _ _ X4 Tryd.underlying26 rfl (by kernel_rfl) ?_
          intro K hK
          go_simp
          refine hK _ _ ?_
          clear hK K
          iterate 2
            refine wl_val rfl ?_ ?_ ?_
            rotate_left
            · go_simp; try with_reducible rfl
            intro K hK
            go_simp
            refine hK _ _ ?_
            clear hK K
          refine wl_call rfl 27 #[C.v, .slice At (C.len t) (C.tc t), .int .i64 j] (.int .i64 (hasP C (C.op t) j (C.len t))) _ ?_ (refHas C (C.op t) At (C.len t) (C.tc t) j hlt3 (by omega) wr (hMW.below hb5) (hO.below hb5)) (fun w8 hb8 => ?_)
          · unfold Cl.v; rw [eA]; first | (go_simp; done) | (go_simp; rfl)
          intro K hK
          go_simp
          refine hK _ _ ?_
          clear hK K
          have hb9 := hb4.trans (hb8.mono hb4.size)
          clear hb8
          by_cases hz : hasP C (C.op t) j (C.len t) = 0
          · have hpre' : ∀ p, p < j + 1 → hasP C (C.op t) p (C.len t) = 0 := fun p hp => by
              rcases Nat.lt_succ_iff_lt_or_eq.1 hp with h | rfl
              · exact hpre3 p h
              · exact hz
            have q' : (hasP C (C.op t) j (C.len t) != 0) = false := by simp [hz]
            generalize hasP C (C.op t) j (C.len t) = v at *
            clear tE tK hct hpre kF zt zf hpre3 hz
            go_wp2
            go_roundw
            case rel => exact ⟨j + 1, by go_num, by omega, hpre', hb9⟩
            case measure => simp [intOf]; omega
          · have hr := hct (tE (zf hlt3 hz))
            have q' : (hasP C (C.op t) j (C.len t) != 0) = true := by simp [hz]
            generalize hasP C (C.op t) j (C.len t) = v at *
            subst hr
            clear tE tK hct hpre kF zt zf hpre3 hz
            go_wp2
            go_ret3
            exact ⟨rfl, halW.trans ((hb3.trans (hb9.mono hb3.size)).mono halW.size)⟩
      have hl2 : (0 : Int) ≤ i := by omega
      have hl3 : (i : Int) < C.len t := by omega
      have hl4 : (i : Int) ≤ C.tc t := by omega
      obtain ⟨bO, oO, rfl⟩ := ops_ptr hO (by omega)
      have hXX := hK.okX hlt hlt2 (hKt i hlt2)
      have hk1 : Hid (∀ w', Below w6.heap.size w6 w' → Calls Tryd.prog 25 #[C.v, .int .i64 t, .slice (some ⟨bO, oO, none⟩) i (C.tc t), xv (C.op t i)] w' fun e w'' => e = .returned (.bool (kpP C t (stP C (C.op t) i) (C.op t i))) ∧ Below w'.heap.size w' w'') := fun w' hh => by
        rw [← ref_kp hK hlt hlt2 hXX]
        exact refKeepsOp C hC t hlt (C.op t) (some ⟨bO, oO, none⟩) i (C.tc t) (by omega) (C.op t i) hXX w' (hMW.below hh) ((hO.below hh).le (by omega))
      have hbad : badP false C t i = ((false && !risesB C (stP C (C.op t) i) (C.op t i)) || !kpP C t (stP C (C.op t) i) (C.op t i)) := rfl
      generalize kpP C t (stP C (C.op t) i) (C.op t i) = kb at *
      generalize risesB C (stP C (C.op t) i) (C.op t i) = rb' at *
      generalize hbp : badP false C t i = bd at *
      have tO' := fun h => hct (tO hlt2 hpre2 (hbp.trans h))
      have hpre' : bd = false → ∀ p, p < i + 1 → badP false C t p = false := fun e p hp => by
        rcases Nat.lt_succ_iff_lt_or_eq.1 hp with h | rfl
        · exact hpre2 p h
        · exact hbp.trans e
      clear hpre2 tO tE tK hct hpre kF hbp hK hXX hKt
      go_upto_region 11 with (fail)
      cases kb
      · have hr := tO' (by rw [hbad]; simp)
        clear tO' hpre' hbad
        subst hr
        refine quiet_all (fun w' => Below wr.heap.size wr w') (by kernel_rfl) (by kernel_rfl) (Below.drew (Below.refl _ _)) ?_
        refine q_run rfl (fun K hK => ?_)
        refine q_load 26 (.tmp 2) rfl _ rfl _ _ (0, 0) _ (fun w' h' => keep X3 h') Tryd.underlying26 rfl (by kernel_rfl) ?_
        go_simp
        refine hK _ ?_
        clear hK K
        refine q_run rfl (fun K hK => ?_)
        refine q_value ?_ (fun w' h' => ?_) ?_
        rotate_left
        · go_simp; try with_reducible rfl
        go_simp
        refine hK _ ?_
        clear hK K
        refine q_run rfl (fun K hK => ?_)
        refine q_value ?_ (fun w' h' => ?_) ?_
        rotate_left
        · go_simp; try with_reducible rfl
        go_simp
        refine hK _ ?_
        clear hK K
        refine q_run rfl (fun K hK => ?_)
        refine q_value ?_ (fun w' h' => ?_) ?_
        rotate_left
        · go_simp; try with_reducible rfl
        go_simp
        refine hK _ ?_
        clear hK K
        refine q_run rfl (fun K hK => ?_)
        refine q_value (.slice (some ⟨bO, oO, none⟩) i (C.tc t)) (fun w' h' => by go_simp; try with_reducible rfl) ?_
        go_simp
        refine hK _ ?_
        clear hK K
        refine q_run rfl (fun K hK => ?_)
        refine q_value ?_ (fun w' h' => ?_) ?_
        rotate_left
        · go_simp; try with_reducible rfl
        go_simp
        refine hK _ ?_
        clear hK K
        refine q_run rfl (fun K hK => ?_)
        refine q_value ?_ (fun w' h' => ?_) ?_
        rotate_left
        · go_simp; try with_reducible rfl
        go_simp
        refine hK _ ?_
        clear hK K
        refine q_run rfl (fun K hK => ?_)
        refine q_value ?_ (fun w' h' => ?_) ?_
        rotate_left
        · go_simp; try with_reducible rfl
        go_simp
        refine hK _ ?_
        clear hK K
        refine q_run rfl (fun K hK => ?_)
        refine q_value (xv (C.op t i)) (fun w' h' => run_ldop (.tmp 50) rfl bO oO i hO (hb3.trans (Below.mono h' hb3.size)) hlt2 rfl) ?_
        go_simp
        refine hK _ ?_
        clear hK K
        refine q_run rfl (fun K hK => ?_)
        refine q_enter 25 #[C.v, .int .i64 t, .slice (some ⟨bO, oO, none⟩) i (C.tc t), xv (C.op t i)] (.bool false) (fun w' => by unfold Cl.v xv; rw [eA]; first | (go_simp; done) | (go_simp; rfl)) (fun w' h' => (hk1.out w' (hb3.trans (Below.mono h' hb3.size))).mono fun e w'' hh => ⟨hh.1, Below.trans h' (hh.2.mono (Below.size h'))⟩) ?_
        go_simp
        refine hK _ ?_
        clear hK K
        refine q_run rfl (fun K hK => ?_)
        refine q_value ?_ (fun w' h' => ?_) ?_
        rotate_left
        · go_simp; try with_reducible rfl
        go_simp
        refine hK _ ?_
        clear hK K
        refine q_run rfl (fun K hK => ?_)
        refine q_value ?_ (fun w' h' => ?_) ?_
        rotate_left
        · go_simp; try with_reducible rfl
        go_simp
        refine hK _ ?_
        clear hK K
        refine q_skip rfl (fun K hK => ?_)
        go_simp
        refine hK _ ?_
        clear hK K
        refine q_skip rfl (fun K hK => ?_)
        go_simp
        refine hK _ ?_
        clear hK K
        refine q_skip rfl (fun K hK => ?_)
        go_simp
        refine hK _ ?_
        clear hK K
        refine q_skip rfl (fun K hK => ?_)
        go_simp
        refine hK _ ?_
        clear hK K
        refine q_skip rfl (fun K hK => ?_)
        go_simp
        refine hK _ ?_
        clear hK K
        refine q_skip rfl (fun K hK => ?_)
        go_simp
        refine hK _ ?_
        clear hK K
        refine q_skip rfl (fun K hK => ?_)
        go_simp
        refine hK _ ?_
        clear hK K
        refine q_skip rfl (fun K hK => ?_)
        go_simp
        refine hK _ ?_
        clear hK K
        refine q_skip rfl (fun K hK => ?_)
        go_simp
        refine hK _ ?_
        clear hK K
        refine q_skip rfl (fun K hK => ?_)
        go_simp
        refine hK _ ?_
        clear hK K
        refine q_skip rfl (fun K hK => ?_)
        go_simp
        refine hK _ ?_
        clear hK K
        refine q_skip rfl (fun K hK => ?_)
        go_simp
        refine hK _ ?_
        clear hK K
        refine q_skip rfl (fun K hK => ?_)
        go_simp
        refine hK _ ?_
        clear hK K
        refine q_run rfl (fun K hK => ?_)
        refine q_value ?_ (fun w' h' => ?_) ?_
        rotate_left
        · go_simp; try with_reducible rfl
        go_simp
        refine hK _ ?_
        clear hK K
        refine qd_nil ?_
        intro w8 hq
        clear hk1 
        have hb9 := hb3.trans (hq.mono hb3.size)
        go_wp2
        go_ret3
        exact ⟨rfl, halW.trans (hb9.mono halW.size)⟩
      · replace hpre' := hpre' (by rw [hbad]; rfl)
        clear tO' hbad
        refine quiet_all (fun w' => Below wr.heap.size wr w') (by kernel_rfl) (by kernel_rfl) (Below.drew (Below.refl _ _)) ?_
        refine q_run rfl (fun K hK => ?_)
        refine q_load 26 (.tmp 2) rfl _ rfl _ _ (0, 0) _ (fun w' h' => keep X3 h') Tryd.underlying26 rfl (by kernel_rfl) ?_
        go_simp
        refine hK _ ?_
        clear hK K
        refine q_run rfl (fun K hK => ?_)
        refine q_value ?_ (fun w' h' => ?_) ?_
        rotate_left
        · go_simp; try with_reducible rfl
        go_simp
        refine hK _ ?_
        clear hK K
        refine q_run rfl (fun K hK => ?_)
        refine q_value ?_ (fun w' h' => ?_) ?_
        rotate_left
        · go_simp; try with_reducible rfl
        go_simp
        refine hK _ ?_
        clear hK K
        refine q_run rfl (fun K hK => ?_)
        refine q_value ?_ (fun w' h' => ?_) ?_
        rotate_left
        · go_simp; try with_reducible rfl
        go_simp
        refine hK _ ?_
        clear hK K
        refine q_run rfl (fun K hK => ?_)
        refine q_value (.slice (some ⟨bO, oO, none⟩) i (C.tc t)) (fun w' h' => by go_simp; try with_reducible rfl) ?_
        go_simp
        refine hK _ ?_
        clear hK K
        refine q_run rfl (fun K hK => ?_)
        refine q_value ?_ (fun w' h' => ?_) ?_
        rotate_left
        · go_simp; try with_reducible rfl
        go_simp
        refine hK _ ?_
        clear hK K
        refine q_run rfl (fun K hK => ?_)
        refine q_value ?_ (fun w' h' => ?_) ?_
        rotate_left
        · go_simp; try with_reducible rfl
        go_simp
        refine hK _ ?_
        clear hK K
        refine q_run rfl (fun K hK => ?_)
        refine q_value ?_ (fun w' h' => ?_) ?_
        rotate_left
        · go_simp; try with_reducible rfl
        go_simp
        refine hK _ ?_
        clear hK K
        refine q_run rfl (fun K hK => ?_)
        refine q_value (xv (C.op t i)) (fun w' h' => run_ldop (.tmp 50) rfl bO oO i hO (hb3.trans (Below.mono h' hb3.size)) hlt2 rfl) ?_
        go_simp
        refine hK _ ?_
        clear hK K
        refine q_run rfl (fun K hK => ?_)
        refine q_enter 25 #[C.v, .int .i64 t, .slice (some ⟨bO, oO, none⟩) i (C.tc t), xv (C.op t i)] (.bool true) (fun w' => by unfold Cl.v xv; rw [eA]; first | (go_simp; done) | (go_simp; rfl)) (fun w' h' => (hk1.out w' (hb3.trans (Below.mono h' hb3.size))).mono fun e w'' hh => ⟨hh.1, Below.trans h' (hh.2.mono (Below.size h'))⟩) ?_
        go_simp
        refine hK _ ?_
        clear hK K
        refine q_run rfl (fun K hK => ?_)
        refine q_value ?_ (fun w' h' => ?_) ?_
        rotate_left
        · go_simp; try with_reducible rfl
        go_simp
        refine hK _ ?_
        clear hK K
        refine q_run rfl (fun K hK => ?_)
        refine q_value ?_ (fun w' h' => ?_) ?_
        rotate_left
        · go_simp; try with_reducible rfl
        go_simp
        refine hK _ ?_
        clear hK K
        refine q_run rfl (fun K hK => ?_)
        refine q_value ?_ (fun w' h' => ?_) ?_
        rotate_left
        · go_simp; try with_reducible rfl
        go_simp
        refine hK _ ?_
        clear hK K
        refine q_run rfl (fun K hK => ?_)
        refine q_value ?_ (fun w' h' => ?_) ?_
        rotate_left
        · go_simp; try with_reducible rfl
        go_simp
        refine hK _ ?_
        clear hK K
        refine q_skip rfl (fun K hK => ?_)
        go_simp
        refine hK _ ?_
        clear hK K
        refine q_skip rfl (fun K hK => ?_)
        go_simp
        refine hK _ ?_
        clear hK K
        refine q_skip rfl (fun K hK => ?_)
        go_simp
        refine hK _ ?_
        clear hK K
        refine q_skip rfl (fun K hK => ?_)
        go_simp
        refine hK _ ?_
        clear hK K
        refine q_skip rfl (fun K hK => ?_)
        go_simp
        refine hK _ ?_
        clear hK K
        refine q_skip rfl (fun K hK => ?_)
        go_simp
        refine hK _ ?_
        clear hK K
        refine q_skip rfl (fun K hK => ?_)
        go_simp
        refine hK _ ?_
        clear hK K
        refine q_skip rfl (fun K hK => ?_)
        go_simp
        refine hK _ ?_
        clear hK K
        refine q_skip rfl (fun K hK => ?_)
        go_simp
        refine hK _ ?_
        clear hK K
        refine q_skip rfl (fun K hK => ?_)
        go_simp
        refine hK _ ?_
        clear hK K
        refine q_run rfl (fun K hK => ?_)
        refine q_value ?_ (fun w' h' => ?_) ?_
        rotate_left
        · go_simp; try with_reducible rfl
        go_simp
        refine hK _ ?_
        clear hK K
        refine q_run rfl (fun K hK => ?_)
        refine q_value ?_ (fun w' h' => ?_) ?_
        rotate_left
        · go_simp; try with_reducible rfl
        go_simp
        refine hK _ ?_
        clear hK K
        refine qd_nil ?_
        intro w8 hq
        clear hk1
        have hb9 := hb2.trans (hq.mono hb2.size)
        go_wp2
        go_roundw
        case rel => exact ⟨i + 1, by go_num, by omega, hpre', hb9⟩
        case measure => simp [intOf]; omega
end Go.Proofs.YtlcoealfnlakhaaDoor
