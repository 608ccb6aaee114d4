/- The way through all threads' ops. -/
import Derived.Test.YtlcoealfnlakhaaDoorKOps
namespace Go.Proofs.YtlcoealfnlakhaaDoor
open Go.RowKit
set_option linter.unusedVariables false
set_option linter.unusedSimpArgs false
set_option maxRecDepth 100000 in
set_option maxHeartbeats 8000000 in
theorem walk24 (C : Cl) (w : World) (hM : MemC w C) (hN : NmW w) : Calls Tryd.prog 23 #[C.v, .func (.func 24) #[] #[]] w fun e w' => e = .returned (r3 (kp false C)) ∧ Below w.heap.size w w' := by
  obtain ⟨⟨p1, p2, p3⟩, hp⟩ : ∃ p, p = chk C := ⟨_, rfl⟩
  have hck := fun w hM hN => clCheck C w hM hN
  rw [← hp] at hck
  have kE : p3 ≠ 0 → kp false C = (p1, p2, p3) := fun h => by rw [hp]; exact kp_err (by rw [← hp]; exact h)
  have kT := fun (h : p3 = 0) {t r} => kp_thr (rise := false) (C := C) (by rw [← hp]; exact h) (t := t) (r := r)
  have kF := fun (h : p3 = 0) => kp_fine (rise := false) (C := C) (by rw [← hp]; exact h)
  have kO : p3 = 0 → OkK C := fun h => chk_ok (by rw [← hp]; exact h)
  clear hp
  generalize kp false C = res at *
  unfold Cl.v
  go_enter Tryd.func23, Tryd.ntmps23
  go_upto_region 1 with (fail)
  obtain ⟨W, b1, e0, e1, X1, halW⟩ := box1 w #[.slice C.A C.no C.ca, .int .i64 C.vars, .slice C.W C.nw C.cw, .int .i64 C.room, .slice C.T C.nt C.ct] 26
  rw [e0, e1]
  clear e0 e1
  refine wp_region_lit ?_
  refine wl_load rfl 26 (.tmp 2) rfl _ rfl _ _ _ _ X1 Tryd.underlying26 rfl (by kernel_rfl) ?_
  intro K hK
  go_simp
  refine hK _ _ ?_
  clear hK K
  refine wl_call rfl 10 #[C.v] (r3 (p1, p2, p3)) _ ?_ (hck W (hM.below halW) (hN.below halW)) (fun w6 hb6 => ?_)
  · unfold Cl.v; first | (go_simp; done) | (go_simp; rfl)
  intro K hK
  go_simp
  refine hK _ _ ?_
  clear hK K
  unfold r3
  replace X1 := keep X1 hb6
  replace halW := halW.trans (hb6.mono halW.size)
  clear hck hb6
  by_cases h3 : p3 = 0
  case neg =>
    have hk := kE h3
    have q3 : (p3 != 0) = true := by simp [h3]
    clear kE kT kF kO h3
    subst hk
    go_wp2
    go_ret3
    exact ⟨rfl, halW⟩
  replace kT := fun {t r} => kT h3 (t := t) (r := r)
  replace kF := kF h3
  have hK := kO h3
  subst h3
  clear kE kO
  have hC := hK.okC
  have hMW := hM.below halW
  have hNW := hN.below halW
  have hno := hC.no
  have hnt := hC.nt
  have y4 := cell_of_row w6 b1 4 _ 26 _ X1
  go_upto_region 5 with (fail)
  clear y4
  go_loopw [29] (fun v wr => ∃ k : Nat, v = .int .i64 k ∧ k ≤ C.nt ∧ (∀ j, j < k → thrK false C j = none) ∧ Below w6.heap.size w6 wr) (fun v _ => C.nt - (intOf v).toNat)
  case atStart => exact ⟨0, rfl, Nat.zero_le _, fun p hp => absurd hp (by omega), Below.refl _ _⟩
  case round =>
    obtain ⟨t, rfl, hk, hpre, hb⟩ := hrel
    have X2 := keep X1 hb
    by_cases hlt : t < C.nt
    case neg =>
      have hkn : t = C.nt := by omega
      have hl1 : ¬ ((t : Int) < C.nt) := by omega
      rw [hkn] at hpre
      have hc := kF hpre
      clear kT kF hpre hkn
      go_wp2
      go_ret3
      exact ⟨by first | rfl | (rw [hc]; rfl), halW.trans (hb.mono halW.size)⟩
    have hl0 : (0 : Int) ≤ t := by omega
    have hl1 : (t : Int) < C.nt := by omega
    obtain ⟨bA, oA, eA⟩ := thr_ptr hMW.thr (by omega)
    have hA := hMW.thr
    have hO := hMW.ops t hlt
    have hKt := fun i hi => hMW.hK t i hlt hi
    have hlen := hK.len t hlt
    rw [eA] at hA X2
    try rw [eA]
    have cA := at_thr (hA.below hb) hlt
    have tO := fun {i} => thrK_op (rise := false) (C := C) (t := t) (i := i)
    have tE := thrK_end (rise := false) (C := C) (t := t)
    have tK := thrK_ok (rise := false) (C := C) (t := t)
    have hct := fun {r} => kT (t := t) (r := r) hlt hpre
    generalize hth : thrK false C t = th at *
    clear kT
    go_upto_region 7 with (fail)
    have hv0 : ∃ v, Hid (v = wr) := ⟨_, rfl⟩
    obtain ⟨v0, hv0⟩ := hv0
    have hv0 := hv0.out
    subst hv0
    clear cA
    go_cut [12, 39, 40] (fun s12 s39 s40 wx => ∃ m bK : Nat, s12 = .pointer (some ⟨bK, 0, none⟩) ∧ s39 = .slice (some ⟨m, 0, none⟩) C.no C.no ∧ s40 = .agg #[.slice C.A C.no C.ca, .int .i64 C.vars, .slice C.W C.nw C.cw, .int .i64 C.room, .slice (some ⟨bA, oA, none⟩) C.nt C.ct, .int .i64 t, .slice (some ⟨m, 0, none⟩) C.no C.no] ∧ Row wx m C.no (fun _ => 0) ∧ wx.heap[bK]? = some (.cells #[.slice C.A C.no C.ca, .int .i64 C.vars, .slice C.W C.nw C.cw, .int .i64 C.room, .slice (some ⟨bA, oA, none⟩) C.nt C.ct, .int .i64 t, .slice (some ⟨m, 0, none⟩) C.no C.no] 49 (0, 0)) ∧ m ≠ bK ∧ v0.heap.size ≤ m ∧ v0.heap.size ≤ bK ∧ Below v0.heap.size v0 wx)
    case first =>
      refine grow_head 5 (fun w' => Below v0.heap.size v0 w') (by kernel_rfl) (by kernel_rfl) (by decide) (by kernel_rfl) ?_
      simp only [List.take_succ_cons, List.take_zero]
      refine g_run rfl _ (fun w' h' => ga_load 26 (.tmp 2) rfl _ rfl _ _ (0, 0) _ (keep X2 h') Tryd.underlying26 rfl (by kernel_rfl)) (fun K hK => ?_)
      go_simp
      refine hK _ ?_
      clear hK K
      refine g_run rfl ?_ (fun w' h' => ga_value ?_) (fun K hK => ?_)
      rotate_left
      · go_simp; try with_reducible rfl
      go_simp
      refine hK _ ?_
      clear hK K
      refine g_run rfl ?_ (fun w' h' => ga_value ?_) (fun K hK => ?_)
      rotate_left
      · go_simp; try with_reducible rfl
      go_simp
      refine hK _ ?_
      clear hK K
      refine g_run rfl ?_ (fun w' h' => ga_value ?_) (fun K hK => ?_)
      rotate_left
      · have c := cell_of_row w' b1 0 _ 26 _ (keep X2 h'); go_simp; try with_reducible rfl
      go_simp
      refine hK _ ?_
      clear hK K
      refine g_run rfl ?_ (fun w' h' => ga_value ?_) (fun K hK => ?_)
      rotate_left
      · go_simp; try with_reducible rfl
      go_simp
      refine hK _ ?_
      clear hK K
      refine g_nil ?_
      show anyG _ _ _ _ _ _ _ _ _
      have q0 : Below v0.heap.size v0 v0.drew := Below.drew (Below.refl _ _)
      refine anyG_ready [5, 7] (by kernel_rfl) (by simp) (fun v1 g1 => ⟨q0.trans (g1.mono q0.size), ?_⟩)
      have r1 := q0.trans (g1.mono q0.size)
      intro j hj
      simp only [List.mem_cons, List.not_mem_nil, or_false] at hj
      rcases hj with rfl | rfl
      · refine op_makeI rfl rfl (.tmp 38) (.tmp 38) rfl C.no (by omega) rfl rfl (fun u2 m M2 l2 f2 => ?_)
        have zm : v0.heap.size ≤ m := by have := r1.size; have := f2.out; omega
        have r2 := r1.trans (l2.mono r1.size)
        refine anyG_ready [6, 7] (by kernel_rfl) (by simp) (fun v3 g3 => ⟨r2.trans (g3.mono r2.size), ?_⟩)
        have r3 := r2.trans (g3.mono r2.size)
        have Rm3 := keep M2 g3
        intro j hj
        simp only [List.mem_cons, List.not_mem_nil, or_false] at hj
        rcases hj with rfl | rfl
        · refine op_value rfl rfl (.agg #[.slice C.A C.no C.ca, .int .i64 C.vars, .slice C.W C.nw C.cw, .int .i64 C.room, .slice (some ⟨bA, oA, none⟩) C.nt C.ct, .int .i64 t, .slice (some ⟨m, 0, none⟩) C.no C.no]) ?_ ?_
          · go_simp; try with_reducible rfl
          refine anyG_ready [7] (by kernel_rfl) (by simp) (fun v4 g4 => ⟨r3.trans (g4.mono r3.size), ?_⟩)
          have r4 := r3.trans (g4.mono r3.size)
          have Rm4 := keep Rm3 g4
          intro j hj
          simp only [List.mem_cons, List.not_mem_nil, or_false] at hj
          subst hj
          refine op_alloc rfl rfl 49 rfl (.agg #[.slice none 0 0, .int .i64 0, .slice none 0 0, .int .i64 0, .slice none 0 0, .int .i64 0, .slice none 0 0]) #[.slice none 0 0, .int .i64 0, .slice none 0 0, .int .i64 0, .slice none 0 0, .int .i64 0, .slice none 0 0] (fun w => by kernel_rfl) rfl (fun u5 bK B5 l5 f5 => ?_)
          have zk : v0.heap.size ≤ bK := by have := r4.size; have := f5.out; omega
          have hne : m ≠ bK := by have := f5.out; have := blk_lt Rm4; omega
          have Rm5 := keep Rm4 l5
          have r5 := r4.trans (l5.mono r4.size)
          refine anyG_ready [8] (by kernel_rfl) (by simp) (fun v6 g6 => ⟨r5.trans (g6.mono r5.size), ?_⟩)
          have r6 := r5.trans (g6.mono r5.size)
          have Rm6 := keep Rm5 g6
          have Rk6 := keep B5 g6
          intro j hj
          simp only [List.mem_cons, List.not_mem_nil, or_false] at hj
          subst hj
          refine op_store rfl rfl 49 (.tmp 12) (.tmp 40) rfl bK #[.slice C.A C.no C.ca, .int .i64 C.vars, .slice C.W C.nw C.cw, .int .i64 C.room, .slice (some ⟨bA, oA, none⟩) C.nt C.ct, .int .i64 t, .slice (some ⟨m, 0, none⟩) C.no C.no] rfl rfl 49 _ Rk6 (by kernel_rfl) rfl (by simp [Value.oneCell']) (fun u7 p7 m7 q7 => ?_)
          have S7 := (m7 _ hne).trans Rm6
          have r7 := r6.trans (q7 _ zk)
          refine anyG_end (by kernel_rfl) (fun v8 g8 => ⟨r7.trans (g8.mono r7.size), ?_⟩)
          have r8 := r7.trans (g8.mono r7.size)
          have Sm := keep S7 g8
          have Sk := keep p7 g8
          go_wp2_with (fail)
          go_meet
          exact ⟨m, bK, rfl, rfl, rfl, Sm, Sk, hne, zm, zk, r8⟩
        · refine op_alloc rfl rfl 49 rfl (.agg #[.slice none 0 0, .int .i64 0, .slice none 0 0, .int .i64 0, .slice none 0 0, .int .i64 0, .slice none 0 0]) #[.slice none 0 0, .int .i64 0, .slice none 0 0, .int .i64 0, .slice none 0 0, .int .i64 0, .slice none 0 0] (fun w => by kernel_rfl) rfl (fun u9 bK B9 l9 f9 => ?_)
          have zk : v0.heap.size ≤ bK := by have := r3.size; have := f9.out; omega
          have hne : m ≠ bK := by have := f9.out; have := blk_lt Rm3; omega
          have Rm9 := keep Rm3 l9
          have r9 := r3.trans (l9.mono r3.size)
          refine anyG_ready [6] (by kernel_rfl) (by simp) (fun v10 g10 => ⟨r9.trans (g10.mono r9.size), ?_⟩)
          have r10 := r9.trans (g10.mono r9.size)
          have Rm10 := keep Rm9 g10
          have Rk10 := keep B9 g10
          intro j hj
          simp only [List.mem_cons, List.not_mem_nil, or_false] at hj
          subst hj
          refine op_value rfl rfl (.agg #[.slice C.A C.no C.ca, .int .i64 C.vars, .slice C.W C.nw C.cw, .int .i64 C.room, .slice (some ⟨bA, oA, none⟩) C.nt C.ct, .int .i64 t, .slice (some ⟨m, 0, none⟩) C.no C.no]) ?_ ?_
          · go_simp; try with_reducible rfl
          refine anyG_ready [8] (by kernel_rfl) (by simp) (fun v11 g11 => ⟨r10.trans (g11.mono r10.size), ?_⟩)
          have r11 := r10.trans (g11.mono r10.size)
          have Rm11 := keep Rm10 g11
          have Rk11 := keep Rk10 g11
          intro j hj
          simp only [List.mem_cons, List.not_mem_nil, or_false] at hj
          subst hj
          refine op_store rfl rfl 49 (.tmp 12) (.tmp 40) rfl bK #[.slice C.A C.no C.ca, .int .i64 C.vars, .slice C.W C.nw C.cw, .int .i64 C.room, .slice (some ⟨bA, oA, none⟩) C.nt C.ct, .int .i64 t, .slice (some ⟨m, 0, none⟩) C.no C.no] rfl rfl 49 _ Rk11 (by kernel_rfl) rfl (by simp [Value.oneCell']) (fun u12 p12 m12 q12 => ?_)
          have S12 := (m12 _ hne).trans Rm11
          have r12 := r11.trans (q12 _ zk)
          refine anyG_end (by kernel_rfl) (fun v13 g13 => ⟨r12.trans (g13.mono r12.size), ?_⟩)
          have r13 := r12.trans (g13.mono r12.size)
          have Sm := keep S12 g13
          have Sk := keep p12 g13
          go_wp2_with (fail)
          go_meet
          exact ⟨m, bK, rfl, rfl, rfl, Sm, Sk, hne, zm, zk, r13⟩
      · refine op_alloc rfl rfl 49 rfl (.agg #[.slice none 0 0, .int .i64 0, .slice none 0 0, .int .i64 0, .slice none 0 0, .int .i64 0, .slice none 0 0]) #[.slice none 0 0, .int .i64 0, .slice none 0 0, .int .i64 0, .slice none 0 0, .int .i64 0, .slice none 0 0] (fun w => by kernel_rfl) rfl (fun u14 bK B14 l14 f14 => ?_)
        have zk : v0.heap.size ≤ bK := by have := r1.size; have := f14.out; omega
        have r14 := r1.trans (l14.mono r1.size)
        refine anyG_ready [5] (by kernel_rfl) (by simp) (fun v15 g15 => ⟨r14.trans (g15.mono r14.size), ?_⟩)
        have r15 := r14.trans (g15.mono r14.size)
        have Rk15 := keep B14 g15
        intro j hj
        simp only [List.mem_cons, List.not_mem_nil, or_false] at hj
        subst hj
        refine op_makeI rfl rfl (.tmp 38) (.tmp 38) rfl C.no (by omega) rfl rfl (fun u16 m M16 l16 f16 => ?_)
        have zm : v0.heap.size ≤ m := by have := r15.size; have := f16.out; omega
        have hne : m ≠ bK := by have := f16.out; have := blk_lt Rk15; omega
        have Rk16 := keep Rk15 l16
        have r16 := r15.trans (l16.mono r15.size)
        refine anyG_ready [6] (by kernel_rfl) (by simp) (fun v17 g17 => ⟨r16.trans (g17.mono r16.size), ?_⟩)
        have r17 := r16.trans (g17.mono r16.size)
        have Rm17 := keep M16 g17
        have Rk17 := keep Rk16 g17
        intro j hj
        simp only [List.mem_cons, List.not_mem_nil, or_false] at hj
        subst hj
        refine op_value rfl rfl (.agg #[.slice C.A C.no C.ca, .int .i64 C.vars, .slice C.W C.nw C.cw, .int .i64 C.room, .slice (some ⟨bA, oA, none⟩) C.nt C.ct, .int .i64 t, .slice (some ⟨m, 0, none⟩) C.no C.no]) ?_ ?_
        · go_simp; try with_reducible rfl
        refine anyG_ready [8] (by kernel_rfl) (by simp) (fun v18 g18 => ⟨r17.trans (g18.mono r17.size), ?_⟩)
        have r18 := r17.trans (g18.mono r17.size)
        have Rm18 := keep Rm17 g18
        have Rk18 := keep Rk17 g18
        intro j hj
        simp only [List.mem_cons, List.not_mem_nil, or_false] at hj
        subst hj
        refine op_store rfl rfl 49 (.tmp 12) (.tmp 40) rfl bK #[.slice C.A C.no C.ca, .int .i64 C.vars, .slice C.W C.nw C.cw, .int .i64 C.room, .slice (some ⟨bA, oA, none⟩) C.nt C.ct, .int .i64 t, .slice (some ⟨m, 0, none⟩) C.no C.no] rfl rfl 49 _ Rk18 (by kernel_rfl) rfl (by simp [Value.oneCell']) (fun u19 p19 m19 q19 => ?_)
        have S19 := (m19 _ hne).trans Rm18
        have r19 := r18.trans (q19 _ zk)
        refine anyG_end (by kernel_rfl) (fun v20 g20 => ⟨r19.trans (g20.mono r19.size), ?_⟩)
        have r20 := r19.trans (g20.mono r19.size)
        have Sm := keep S19 g20
        have Sk := keep p19 g20
        go_wp2_with (fail)
        go_meet
        exact ⟨m, bK, rfl, rfl, rfl, Sm, Sk, hne, zm, zk, r20⟩
    case rest =>
      obtain ⟨m, bK, rfl, rfl, rfl, hRow, hBox, hne, zm, zk, hbc⟩ := hcut
      obtain ⟨v1, ev1⟩ : ∃ x, x = wc := ⟨_, rfl⟩
      subst ev1
      have X3 := keep X2 hbc
      have hb1 := hb.trans (hbc.mono hb.size)
      have zm6 : w6.heap.size ≤ m := Nat.le_trans hb.size zm
      clear hbc zk
      generalize C.tp t = At at *
      go_upto_region 9 with (fail)
      go_loopw [43] (fun v wr => ∃ i : Nat, v = .int .i64 i ∧ i ≤ C.len t ∧ (∀ j, j < i → badP false C t j = false) ∧ Row wr m C.no (stP C (C.op t) i) ∧ wr.heap[bK]? = some (.cells #[.slice C.A C.no C.ca, .int .i64 C.vars, .slice C.W C.nw C.cw, .int .i64 C.room, .slice (some ⟨bA, oA, none⟩) C.nt C.ct, .int .i64 t, .slice (some ⟨m, 0, none⟩) C.no C.no] 49 (0, 0)) ∧ Below w6.heap.size w6 wr) (fun v _ => C.len t - (intOf v).toNat)
      case atStart => exact ⟨0, rfl, Nat.zero_le _, fun p hp => absurd hp (by omega), hRow, hBox, hb1⟩
      case round =>
        obtain ⟨i, rfl, hi, hpre2, hRow2, hBox2, hb2⟩ := hrel
        by_cases hlt2 : i < C.len t
        case neg =>
          have hkn : i = C.len t := by omega
          have hl2 : ¬ ((i : Int) < C.len t) := by omega
          rw [hkn] at hpre2 hRow2
          go_upto_region 14 with (fail)
          refine wp_region_lit ?_
          refine wl_load rfl 49 (.tmp 12) rfl _ rfl _ _ _ _ hBox2 Tryd.underlying49 rfl (by kernel_rfl) ?_
          intro K hK
          go_simp
          refine hK _ _ ?_
          clear hK K
          refine wl_call rfl 33 #[kv C t m] (.bool (zeroB C.no (stP C (C.op t) (C.len t)))) _ ?_ (freeC C t m _ wr hno hRow2) (fun w7 hb7 => ?_)
          · unfold kv; rw [eA]; first | (go_simp; done) | (go_simp; rfl)
          intro K hK
          go_simp
          refine hK _ _ ?_
          clear hK K
          have hb8 := hb2.trans (hb7.mono hb2.size)
          cases hz : zeroB C.no (stP C (C.op t) (C.len t))
          · have hr := hct (tE hpre2 hz)
            subst hr
            clear tO tE tK hct hpre hpre2 kF hkn
            go_wp2
            go_ret3
            exact ⟨rfl, halW.trans (hb8.mono halW.size)⟩
          · have hr := tK hpre2 hz
            have hpre' : ∀ p, p < t + 1 → thrK false C p = none := fun p hp => by
              rcases Nat.lt_succ_iff_lt_or_eq.1 hp with h | rfl
              · exact hpre p h
              · rw [hth]; exact hr
            clear tO tE tK hct hpre hpre2 kF hkn hr
            go_wp2
            go_roundw
            case rel => exact ⟨t + 1, by go_num, by omega, hpre', hb8⟩
            case measure => simp [intOf]; omega
        have hl2 : (0 : Int) ≤ i := by omega
        have hl3 : (i : Int) < C.len t := by omega
        obtain ⟨bO, oO, rfl⟩ := ops_ptr hO (by omega)
        have hOK := hKt i hlt2
        have hXX := hK.okX hlt hlt2 hOK
        go_upto_region 10 with (fail)
        refine wp_region_lit ?_
        iterate 1
          refine wl_val rfl ?_ ?_ ?_
          rotate_left
          · go_simp; try with_reducible rfl
          intro K hK
          go_simp
          refine hK _ _ ?_
          clear hK K
        refine wl_val rfl (.pointer (some ⟨bO, oO + i * 4, none⟩)) ?_ ?_
        · go_simp
        intro K hK
        go_simp
        refine hK _ _ ?_
        clear hK K
        refine wl_val rfl (xv (C.op t i)) (run_ldop (.tmp 46) rfl bO oO i hO hb2 hlt2 rfl) ?_
        intro K hK
        go_simp
        refine hK _ _ ?_
        clear hK K
        refine wl_alloc rfl 37 rfl (.agg #[.int .i64 0, .int .i64 0, .int .i64 0, .int .u32 0]) #[.int .i64 0, .int .i64 0, .int .i64 0, .int .u32 0] (fun w => by kernel_rfl) rfl (fun w4 b9 X4 l4 f4 => ?_)
        intro K hK
        go_simp
        refine hK _ _ ?_
        clear hK K
        refine wl_val rfl (.int .i64 i) ?_ ?_
        · go_simp
        intro K hK
        go_simp
        refine hK _ _ ?_
        clear hK K
        refine wl_store rfl 37 (.tmp 14) (.tmp 47) rfl b9 #[.int .i64 (C.op t i).k, .int .i64 (C.op t i).a, .int .i64 (C.op t i).b, .int .u32 (C.op t i).K] rfl rfl 37 _ X4 (by kernel_rfl) rfl (by simp [Value.oneCell']) (fun w5 g1 g2 g3 g4 => ?_)
        intro K hK
        go_simp
        refine hK _ _ ?_
        clear hK K
        have hbn : Below wr.heap.size wr w5 := l4.trans (g3 _ (by simp only [Hid] at f4; omega))
        have hm9 : b9 ≠ m := by have := blk_lt hRow2; have := f4.out; omega
        clear X4 l4 f4 g2 g3 g4
        have hRow5 : Row w5 m C.no (stP C (C.op t) i) := keep hRow2 hbn
        have hBox5 := keep hBox2 hbn
        have hb5 := hb2.trans (hbn.mono hb2.size)
        clear hbn
        go_upto_region 11 with (fail)
        refine wp_region_lit ?_
        iterate 1
          refine wl_val rfl ?_ ?_ ?_
          rotate_left
          · go_simp; try with_reducible rfl
          intro K hK
          go_simp
          refine hK _ _ ?_
          clear hK K
        refine wl_load rfl 49 (.tmp 12) rfl _ rfl _ _ _ _ hBox5 Tryd.underlying49 rfl (by kernel_rfl) ?_
        intro K hK
        go_simp
        refine hK _ _ ?_
        clear hK K
        refine wl_load rfl 37 (.tmp 14) rfl _ rfl _ _ _ _ g1 Tryd.underlying37 rfl (by kernel_rfl) ?_
        intro K hK
        go_simp
        refine hK _ _ ?_
        clear hK K
        refine wl_call rfl 24 #[kv C t m, xv (C.op t i)] (.bool true) _ ?_ (askC C t m (stP C (C.op t) i) (C.op t i) w5) (fun w7 hb7 => ?_)
        · unfold kv xv; rw [eA]; first | (go_simp; done) | (go_simp; rfl)
        intro K hK
        go_simp
        refine hK _ _ ?_
        clear hK K
        have hRow7 : Row w7 m C.no (stP C (C.op t) i) := keep hRow5 hb7
        have hBox7 := keep hBox5 hb7
        have G7 := keep g1 hb7
        have hb8 := hb5.trans (hb7.mono hb5.size)
        clear hRow5 hBox5 g1 hb7 hb5
        iterate 2
          refine wl_val rfl ?_ ?_ ?_
          rotate_left
          · go_simp; try with_reducible rfl
          intro K hK
          go_simp
          refine hK _ _ ?_
          clear hK K
        refine wg_load rfl 49 (.tmp 12) rfl _ rfl _ _ _ _ hBox7 Tryd.underlying49 rfl (by kernel_rfl) ?_
        intro K hK
        go_simp
        refine hK _ _ ?_
        clear hK K
        refine wg_load rfl 37 (.tmp 14) rfl _ rfl _ _ _ _ G7 Tryd.underlying37 rfl (by kernel_rfl) ?_
        intro K hK
        go_simp
        refine hK _ _ ?_
        clear hK K
        refine wg_call rfl 32 #[kv C t m, xv (C.op t i)] (.bool (kpP C t (stP C (C.op t) i) (C.op t i))) (fun w9 => (kpP C t (stP C (C.op t) i) (C.op t i) = true → Row w9 m C.no (nxP C (stP C (C.op t) i) (C.op t i))) ∧ Exc m w7 w9) ?_ (keepsC C hC t m (stP C (C.op t) i) (C.op t i) hXX w7 (hMW.below hb8) hRow7) (fun w9 hw9 => ?_)
        · unfold kv xv; rw [eA]; first | (go_simp; done) | (go_simp; rfl)
        intro K hK
        go_simp
        refine hK _ _ ?_
        clear hK K
        have hex := hw9.2
        have hrw := hw9.1
        have hb9 : Below w6.heap.size w6 w9 := hb8.trans (hex.low _ zm6 hb8.size)
        have hBox9 := (hex.blk bK (blk_lt hBox7) (fun e => hne e.symm)).trans hBox7
        clear hw9 hex hBox7 G7
        cases hkp : kpP C t (stP C (C.op t) i) (C.op t i)
        · have hr := hct (tO hlt2 hpre2 (by unfold badP; rw [hkp]; simp))
          subst hr
          clear tO tE tK hct hpre hpre2 kF hrw hkp
          go_wp2
          go_ret3
          exact ⟨rfl, halW.trans (hb9.mono halW.size)⟩
        · have hRow9 := hrw hkp
          have hpre' : ∀ p, p < i + 1 → badP false C t p = false := fun p hp => by
            rcases Nat.lt_succ_iff_lt_or_eq.1 hp with h | rfl
            · exact hpre2 p h
            · unfold badP; rw [hkp]; rfl
          clear tO tE tK hct hpre hpre2 kF hrw hkp
          go_wp2
          go_roundw
          case rel => exact ⟨i + 1, by go_num, by omega, hpre', hRow9, hBox9, hb9⟩
          case measure => simp [intOf]; omega
end Go.Proofs.YtlcoealfnlakhaaDoor
