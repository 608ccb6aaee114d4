/- What is wrong with a client first: the document's answer. -/
import Derived.Test.YtlcoealfnlakhaaDoorChk
namespace Go.Proofs.YtlcoealfnlakhaaDoor
open Go.RowKit
set_option linter.unusedVariables false
set_option linter.unusedSimpArgs false
set_option maxRecDepth 100000 in
set_option maxHeartbeats 4000000 in
theorem refCheck (C : Cl) (w : World) (hM : MemC w C) : Calls Tryd.prog 11 #[C.v] w fun e w' => e = .returned (r3 (chk C)) ∧ Below w.heap.size w w' := by
  have hal := (Below.refl w.heap.size w).alloc (Nat.le_refl _) (.cells #[.slice C.A C.no C.ca, .int .i64 C.vars, .slice C.W C.nw C.cw, .int .i64 C.room, .slice C.T C.nt C.ct] 26)
  by_cases h1 : C.nt < 1
  · have hc := chk_bad (C := C) (.inl h1)
    have h1' : (C.nt : Int) < 1 := by omega
    unfold Cl.v
    go_enter Tryd.func11, Tryd.ntmps11
    go_wp2
    go_ret3
    exact ⟨by first | rfl | (rw [hc]; rfl), hal⟩
  have h1' : ¬ ((C.nt : Int) < 1) := by omega
  by_cases h2 : 8 < C.nt
  · have hc := chk_bad (C := C) (.inr (.inl h2))
    have h2' : 8 < (C.nt : Int) := by omega
    unfold Cl.v
    go_enter Tryd.func11, Tryd.ntmps11
    go_wp2
    go_ret3
    exact ⟨by first | rfl | (rw [hc]; rfl), hal⟩
  have h2' : ¬ (8 < (C.nt : Int)) := by omega
  by_cases h3 : C.room < 1
  · have hc := chk_bad (C := C) (.inr (.inr (.inl h3)))
    unfold Cl.v
    go_enter Tryd.func11, Tryd.ntmps11
    go_wp2
    go_ret3
    exact ⟨by first | rfl | (rw [hc]; rfl), hal⟩
  by_cases h4 : 16 < C.room
  · have hc := chk_bad (C := C) (.inr (.inr (.inr (.inl h4))))
    unfold Cl.v
    go_enter Tryd.func11, Tryd.ntmps11
    go_wp2
    go_ret3
    exact ⟨by first | rfl | (rw [hc]; rfl), hal⟩
  by_cases h5 : C.vars < 0
  · have hc := chk_bad (C := C) (.inr (.inr (.inr (.inr (.inl h5)))))
    unfold Cl.v
    go_enter Tryd.func11, Tryd.ntmps11
    go_wp2
    go_ret3
    exact ⟨by first | rfl | (rw [hc]; rfl), hal⟩
  by_cases h6 : 16 < C.vars
  · have hc := chk_bad (C := C) (.inr (.inr (.inr (.inr (.inr (.inl h6))))))
    unfold Cl.v
    go_enter Tryd.func11, Tryd.ntmps11
    go_wp2
    go_ret3
    exact ⟨by first | rfl | (rw [hc]; rfl), hal⟩
  by_cases hv : (C.nw : Int) = C.vars
  case neg =>
    have hc := chk_bad (C := C) (.inr (.inr (.inr (.inr (.inr (.inr hv))))))
    have hv' : ((C.nw : Int) != C.vars) = true := by simp [hv]
    unfold Cl.v
    go_enter Tryd.func11, Tryd.ntmps11
    go_wp2
    go_ret3
    exact ⟨by first | rfl | (rw [hc]; rfl), hal⟩
  have hbad : ¬ badC C := by rintro (h | h | h | h | h | h | h) <;> first | exact h1 h | exact h2 h | exact h3 h | exact h4 h | exact h5 h | exact h6 h | exact h hv
  have hv' : ((C.nw : Int) != C.vars) = false := by simp [hv]
  have hnw : C.nw ≤ 16 := by omega
  have hnt : C.nt ≤ 8 := by omega
  clear hv
  by_cases h8 : 8 < C.no
  · have hc := chk_long hbad h8
    have h8' : 8 < (C.no : Int) := by omega
    unfold Cl.v
    go_enter Tryd.func11, Tryd.ntmps11
    go_wp2
    go_ret3
    exact ⟨by first | rfl | (rw [hc]; rfl), hal⟩
  have h8' : ¬ (8 < (C.no : Int)) := by omega
  have cO := fun {k} => chk_obj (C := C) (k := k) hbad h8
  have cW := fun {k} => chk_own (C := C) (k := k) hbad h8
  have cT := fun {t r} => chk_thr (C := C) (t := t) (r := r) hbad h8
  have cF := chk_fine (C := C) hbad h8
  have hno : C.no ≤ 8 := by omega
  generalize chk C = res at *
  unfold Cl.v
  go_enter Tryd.func11, Tryd.ntmps11
  go_upto_region 7 with (fail)
  obtain ⟨W, b1, e0, e1, X1, halW⟩ := box1 w #[.slice C.A C.no C.ca, .int .i64 C.vars, .slice C.W C.nw C.cw, .int .i64 C.room, .slice C.T C.nt C.ct] 26
  rw [e0, e1]
  clear e0 e1 h1 h2 h3 h4 h5 h6 h1' h2' h8' hv' hal h8 hbad
  have hMW := hM.below halW
  go_loopw [6] (fun v wr => ∃ k : Nat, v = .int .i64 k ∧ k ≤ C.no ∧ (∀ j, j < k → rb (C.f j) C.nt = true) ∧ Below W.heap.size W wr) (fun v _ => C.no - (intOf v).toNat)
  case atStart => exact ⟨0, rfl, Nat.zero_le _, fun p hp => absurd hp (by omega), Below.refl _ _⟩
  case round =>
    obtain ⟨k, rfl, hk, hpre, hb⟩ := hrel
    have X := keep X1 hb
    by_cases hlt : k < C.no
    · have hl0 : (0 : Int) ≤ k := by omega
      have hl1 : (k : Int) < C.no := by omega
      obtain ⟨bA, oA, eA⟩ := objs_ptr hMW.objs (by omega)
      have hA := hMW.objs
      rw [eA] at hA X
      have y0 := cell_of_row wr b1 0 _ 26 _ X
      try rw [eA]
      go_upto_region 9 with (fail)
      refine wp_region_lit ?_
      iterate 3
        refine wl_val rfl ?_ ?_ ?_
        rotate_left
        · go_simp; try with_reducible rfl
        intro K hK
        go_simp
        refine hK _ _ ?_
        clear hK K
      refine wl_val rfl (.pointer (some ⟨bA, oA + k * 4, none⟩)) ?_ ?_
      · go_simp
      intro K hK
      go_simp
      refine hK _ _ ?_
      clear hK K
      refine wl_val rfl (ov (C.f k)) (run_ldobj (.tmp 61) rfl bA oA k hA hb hlt rfl) ?_
      intro K hK
      go_simp
      refine hK _ _ ?_
      clear hK K
      refine wl_val rfl (.int .i64 C.nt) ?_ ?_
      · go_simp
      intro K hK
      go_simp
      refine hK _ _ ?_
      clear hK K
      refine wl_call rfl 18 #[ov (C.f k), .int .i64 C.nt] (.bool (rb (C.f k) C.nt)) _ ?_ (refRight (C.f k) C.nt wr) (fun w6 hb6 => ?_)
      · first | (go_simp; done) | (go_simp; rfl)
      intro K hK
      go_simp
      refine hK _ _ ?_
      clear hK K
      have hb7 : Below W.heap.size W w6 := hb.trans (hb6.mono hb.size)
      clear hb6 y0 X
      by_cases hrb : rb (C.f k) C.nt = true
      · rw [hrb]
        go_wp2
        go_roundw
        case rel => exact ⟨k + 1, by go_num, by omega, show (∀ p, p < k + 1 → rb (C.f p) C.nt = true) from fun p hp => by
          rcases Nat.lt_succ_iff_lt_or_eq.1 hp with h | rfl
          · exact hpre p h
          · exact hrb, hb7⟩
        case measure => simp [intOf]; omega
      · have hrb' : rb (C.f k) C.nt = false := by simpa using hrb
        have hc := cO hlt hpre hrb'
        rw [hrb']
        clear cO cW cT cF hpre
        go_wp2
        go_ret3
        exact ⟨by first | rfl | (rw [hc]; rfl), halW.trans (hb7.mono halW.size)⟩
    have hkn : k = C.no := by omega
    have hl1 : ¬ ((k : Int) < C.no) := by omega
    rw [hkn] at hpre
    replace cW := fun {k} => cW (k := k) hpre
    replace cT := fun {t r} => cT (t := t) (r := r) hpre
    replace cF := cF hpre
    clear cO hpre hkn
    have y0 := cell_of_row wr b1 0 _ 26 _ X
    have y2 := cell_of_row wr b1 2 _ 26 _ X
    go_upto_region 12 with (fail)
    obtain ⟨v0, ev0⟩ : ∃ x, x = wr := ⟨_, rfl⟩
    subst ev0
    clear hl1 y2 y0 hlt hk
    go_loopw [7] (fun v wr => ∃ k : Nat, v = .int .i64 k ∧ k ≤ C.nw ∧ (∀ j, j < k → ¬ ((C.no : Int) ≤ C.own j ∨ C.own j < -(C.nt : Int))) ∧ Below v0.heap.size v0 wr) (fun v _ => C.nw - (intOf v).toNat)
    case atStart => exact ⟨0, rfl, Nat.zero_le _, fun p hp => absurd hp (by omega), Below.refl _ _⟩
    case round =>
      obtain ⟨k2, rfl, hk, hpre, hb2⟩ := hrel
      have hb3 := hb.trans (hb2.mono hb.size)
      have X' := keep X1 hb3
      by_cases hlt : k2 < C.nw
      · have hl0 : (0 : Int) ≤ k2 := by omega
        have hl1 : (k2 : Int) < C.nw := by omega
        obtain ⟨bA, oA, eA⟩ := ints_ptr hMW.own (by omega)
        have hA := hMW.own
        rw [eA] at hA X'
        have y0 := cell_of_row wr b1 0 _ 26 _ X'
        have y2 := cell_of_row wr b1 2 _ 26 _ X'
        have cA := at_int (hA.below hb3) hlt
        try rw [eA]
        have hng : IntKind.i64.wrap (-(C.nt : Int)) = -(C.nt : Int) := by simp only [IntKind.wrap_i64]; omega
        clear cT cF
        by_cases g1 : (C.no : Int) ≤ C.own k2
        · have hc := cW hlt hpre (.inl g1)
          clear cW hpre
          go_upto_region 14 with (fail)
          refine quiet_all (fun w' => Below wr.heap.size wr w') (by kernel_rfl) (by kernel_rfl) (Below.drew (Below.refl _ _)) ?_
          refine q_run rfl (fun K hK => ?_)
          refine q_value ?_ (fun w' h' => ?_) ?_
          rotate_left
          · go_simp; try with_reducible rfl
          go_simp
          refine hK _ ?_
          clear hK K
          refine q_run rfl (fun K hK => ?_)
          refine q_value ?_ (fun w' h' => ?_) ?_
          rotate_left
          · have y2 := cell_of_row w' b1 2 _ 26 _ (keep X' h'); go_simp; try with_reducible rfl
          go_simp
          refine hK _ ?_
          clear hK K
          refine q_run rfl (fun K hK => ?_)
          refine q_value ?_ (fun w' h' => ?_) ?_
          rotate_left
          · go_simp; try with_reducible rfl
          go_simp
          refine hK _ ?_
          clear hK K
          refine q_run rfl (fun K hK => ?_)
          refine q_value ?_ (fun w' h' => ?_) ?_
          rotate_left
          · go_simp; try with_reducible rfl
          go_simp
          refine hK _ ?_
          clear hK K
          refine q_run rfl (fun K hK => ?_)
          refine q_value ?_ (fun w' h' => ?_) ?_
          rotate_left
          · have c := at_int (hA.below (hb3.trans (h'.mono hb3.size))) hlt; have y2 := cell_of_row w' b1 2 _ 26 _ (keep X' h'); go_simp; try with_reducible rfl
          go_simp
          refine hK _ ?_
          clear hK K
          refine q_run rfl (fun K hK => ?_)
          refine q_value ?_ (fun w' h' => ?_) ?_
          rotate_left
          · go_simp; try with_reducible rfl
          go_simp
          refine hK _ ?_
          clear hK K
          refine q_run rfl (fun K hK => ?_)
          refine q_value ?_ (fun w' h' => ?_) ?_
          rotate_left
          · have y2 := cell_of_row w' b1 0 _ 26 _ (keep X' h'); go_simp; try with_reducible rfl
          go_simp
          refine hK _ ?_
          clear hK K
          refine q_run rfl (fun K hK => ?_)
          refine q_value ?_ (fun w' h' => ?_) ?_
          rotate_left
          · go_simp; try with_reducible rfl
          go_simp
          refine hK _ ?_
          clear hK K
          refine q_run rfl (fun K hK => ?_)
          refine q_value ?_ (fun w' h' => ?_) ?_
          rotate_left
          · go_simp; try with_reducible rfl
          go_simp
          refine hK _ ?_
          clear hK K
          refine q_run rfl (fun K hK => ?_)
          refine q_value ?_ (fun w' h' => ?_) ?_
          rotate_left
          · go_simp; try with_reducible rfl
          go_simp
          refine hK _ ?_
          clear hK K
          refine q_skip rfl (fun K hK => ?_)
          go_simp
          refine hK _ ?_
          clear hK K
          refine q_skip rfl (fun K hK => ?_)
          go_simp
          refine hK _ ?_
          clear hK K
          refine q_skip rfl (fun K hK => ?_)
          go_simp
          refine hK _ ?_
          clear hK K
          refine q_skip rfl (fun K hK => ?_)
          go_simp
          refine hK _ ?_
          clear hK K
          refine q_skip rfl (fun K hK => ?_)
          go_simp
          refine hK _ ?_
          clear hK K
          refine q_skip rfl (fun K hK => ?_)
          go_simp
          refine hK _ ?_
          clear hK K
          refine q_skip rfl (fun K hK => ?_)
          go_simp
          refine hK _ ?_
          clear hK K
          refine q_skip rfl (fun K hK => ?_)
          go_simp
          refine hK _ ?_
          clear hK K
          refine q_run rfl (fun K hK => ?_)
          refine q_value ?_ (fun w' h' => ?_) ?_
          rotate_left
          · go_simp; try with_reducible rfl
          go_simp
          refine hK _ ?_
          clear hK K
          refine qd_nil ?_
          intro w3 h3
          have hb4 := hb2.trans (h3.mono hb2.size)
          go_wp2
          go_ret3
          exact ⟨by first | rfl | (rw [hc]; rfl), halW.trans ((hb.trans (hb4.mono hb.size)).mono halW.size)⟩
        · by_cases g2 : C.own k2 < -(C.nt : Int)
          · have hc := cW hlt hpre (.inr g2)
            clear cW hpre
            go_upto_region 14 with (fail)
            refine quiet_all (fun w' => Below wr.heap.size wr w') (by kernel_rfl) (by kernel_rfl) (Below.drew (Below.refl _ _)) ?_
            refine q_run rfl (fun K hK => ?_)
            refine q_value ?_ (fun w' h' => ?_) ?_
            rotate_left
            · go_simp; try with_reducible rfl
            go_simp
            refine hK _ ?_
            clear hK K
            refine q_run rfl (fun K hK => ?_)
            refine q_value ?_ (fun w' h' => ?_) ?_
            rotate_left
            · have y2 := cell_of_row w' b1 2 _ 26 _ (keep X' h'); go_simp; try with_reducible rfl
            go_simp
            refine hK _ ?_
            clear hK K
            refine q_run rfl (fun K hK => ?_)
            refine q_value ?_ (fun w' h' => ?_) ?_
            rotate_left
            · go_simp; try with_reducible rfl
            go_simp
            refine hK _ ?_
            clear hK K
            refine q_run rfl (fun K hK => ?_)
            refine q_value ?_ (fun w' h' => ?_) ?_
            rotate_left
            · go_simp; try with_reducible rfl
            go_simp
            refine hK _ ?_
            clear hK K
            refine q_run rfl (fun K hK => ?_)
            refine q_value ?_ (fun w' h' => ?_) ?_
            rotate_left
            · have c := at_int (hA.below (hb3.trans (h'.mono hb3.size))) hlt; have y2 := cell_of_row w' b1 2 _ 26 _ (keep X' h'); go_simp; try with_reducible rfl
            go_simp
            refine hK _ ?_
            clear hK K
            refine q_run rfl (fun K hK => ?_)
            refine q_value ?_ (fun w' h' => ?_) ?_
            rotate_left
            · go_simp; try with_reducible rfl
            go_simp
            refine hK _ ?_
            clear hK K
            refine q_run rfl (fun K hK => ?_)
            refine q_value ?_ (fun w' h' => ?_) ?_
            rotate_left
            · have y2 := cell_of_row w' b1 0 _ 26 _ (keep X' h'); go_simp; try with_reducible rfl
            go_simp
            refine hK _ ?_
            clear hK K
            refine q_run rfl (fun K hK => ?_)
            refine q_value ?_ (fun w' h' => ?_) ?_
            rotate_left
            · go_simp; try with_reducible rfl
            go_simp
            refine hK _ ?_
            clear hK K
            refine q_run rfl (fun K hK => ?_)
            refine q_value ?_ (fun w' h' => ?_) ?_
            rotate_left
            · go_simp; try with_reducible rfl
            go_simp
            refine hK _ ?_
            clear hK K
            refine q_run rfl (fun K hK => ?_)
            refine q_value ?_ (fun w' h' => ?_) ?_
            rotate_left
            · go_simp; try with_reducible rfl
            go_simp
            refine hK _ ?_
            clear hK K
            refine q_run rfl (fun K hK => ?_)
            refine q_value ?_ (fun w' h' => ?_) ?_
            rotate_left
            · go_simp; try with_reducible rfl
            go_simp
            refine hK _ ?_
            clear hK K
            refine q_run rfl (fun K hK => ?_)
            refine q_value ?_ (fun w' h' => ?_) ?_
            rotate_left
            · have y2 := cell_of_row w' b1 2 _ 26 _ (keep X' h'); go_simp; try with_reducible rfl
            go_simp
            refine hK _ ?_
            clear hK K
            refine q_run rfl (fun K hK => ?_)
            refine q_value ?_ (fun w' h' => ?_) ?_
            rotate_left
            · go_simp; try with_reducible rfl
            go_simp
            refine hK _ ?_
            clear hK K
            refine q_run rfl (fun K hK => ?_)
            refine q_value ?_ (fun w' h' => ?_) ?_
            rotate_left
            · go_simp; try with_reducible rfl
            go_simp
            refine hK _ ?_
            clear hK K
            refine q_run rfl (fun K hK => ?_)
            refine q_value ?_ (fun w' h' => ?_) ?_
            rotate_left
            · have c := at_int (hA.below (hb3.trans (h'.mono hb3.size))) hlt; go_simp; try with_reducible rfl
            go_simp
            refine hK _ ?_
            clear hK K
            refine q_run rfl (fun K hK => ?_)
            refine q_value ?_ (fun w' h' => ?_) ?_
            rotate_left
            · go_simp; try with_reducible rfl
            go_simp
            refine hK _ ?_
            clear hK K
            refine q_run rfl (fun K hK => ?_)
            refine q_value ?_ (fun w' h' => ?_) ?_
            rotate_left
            · go_simp; try with_reducible rfl
            go_simp
            refine hK _ ?_
            clear hK K
            refine q_run rfl (fun K hK => ?_)
            refine q_value ?_ (fun w' h' => ?_) ?_
            rotate_left
            · go_simp; try with_reducible rfl
            go_simp
            refine hK _ ?_
            clear hK K
            refine q_run rfl (fun K hK => ?_)
            refine q_value ?_ (fun w' h' => ?_) ?_
            rotate_left
            · go_simp; try with_reducible rfl
            go_simp
            refine hK _ ?_
            clear hK K
            refine qd_nil ?_
            intro w3 h3
            have hb4 := hb2.trans (h3.mono hb2.size)
            go_wp2
            go_ret3
            exact ⟨by first | rfl | (rw [hc]; rfl), halW.trans ((hb.trans (hb4.mono hb.size)).mono halW.size)⟩
          · have hpre' : ∀ p, p < k2 + 1 → ¬ ((C.no : Int) ≤ C.own p ∨ C.own p < -(C.nt : Int)) := fun p hp => by
              rcases Nat.lt_succ_iff_lt_or_eq.1 hp with h | rfl
              · exact hpre p h
              · exact fun h => h.elim g1 g2
            clear cW hpre
            go_upto_region 14 with (fail)
            refine quiet_all (fun w' => Below wr.heap.size wr w') (by kernel_rfl) (by kernel_rfl) (Below.drew (Below.refl _ _)) ?_
            refine q_run rfl (fun K hK => ?_)
            refine q_value ?_ (fun w' h' => ?_) ?_
            rotate_left
            · go_simp; try with_reducible rfl
            go_simp
            refine hK _ ?_
            clear hK K
            refine q_run rfl (fun K hK => ?_)
            refine q_value ?_ (fun w' h' => ?_) ?_
            rotate_left
            · have y2 := cell_of_row w' b1 2 _ 26 _ (keep X' h'); go_simp; try with_reducible rfl
            go_simp
            refine hK _ ?_
            clear hK K
            refine q_run rfl (fun K hK => ?_)
            refine q_value ?_ (fun w' h' => ?_) ?_
            rotate_left
            · go_simp; try with_reducible rfl
            go_simp
            refine hK _ ?_
            clear hK K
            refine q_run rfl (fun K hK => ?_)
            refine q_value ?_ (fun w' h' => ?_) ?_
            rotate_left
            · go_simp; try with_reducible rfl
            go_simp
            refine hK _ ?_
            clear hK K
            refine q_run rfl (fun K hK => ?_)
            refine q_value ?_ (fun w' h' => ?_) ?_
            rotate_left
            · have c := at_int (hA.below (hb3.trans (h'.mono hb3.size))) hlt; have y2 := cell_of_row w' b1 2 _ 26 _ (keep X' h'); go_simp; try with_reducible rfl
            go_simp
            refine hK _ ?_
            clear hK K
            refine q_run rfl (fun K hK => ?_)
            refine q_value ?_ (fun w' h' => ?_) ?_
            rotate_left
            · go_simp; try with_reducible rfl
            go_simp
            refine hK _ ?_
            clear hK K
            refine q_run rfl (fun K hK => ?_)
            refine q_value ?_ (fun w' h' => ?_) ?_
            rotate_left
            · have y2 := cell_of_row w' b1 0 _ 26 _ (keep X' h'); go_simp; try with_reducible rfl
            go_simp
            refine hK _ ?_
            clear hK K
            refine q_run rfl (fun K hK => ?_)
            refine q_value ?_ (fun w' h' => ?_) ?_
            rotate_left
            · go_simp; try with_reducible rfl
            go_simp
            refine hK _ ?_
            clear hK K
            refine q_run rfl (fun K hK => ?_)
            refine q_value ?_ (fun w' h' => ?_) ?_
            rotate_left
            · go_simp; try with_reducible rfl
            go_simp
            refine hK _ ?_
            clear hK K
            refine q_run rfl (fun K hK => ?_)
            refine q_value ?_ (fun w' h' => ?_) ?_
            rotate_left
            · go_simp; try with_reducible rfl
            go_simp
            refine hK _ ?_
            clear hK K
            refine q_run rfl (fun K hK => ?_)
            refine q_value ?_ (fun w' h' => ?_) ?_
            rotate_left
            · go_simp; try with_reducible rfl
            go_simp
            refine hK _ ?_
            clear hK K
            refine q_run rfl (fun K hK => ?_)
            refine q_value ?_ (fun w' h' => ?_) ?_
            rotate_left
            · have y2 := cell_of_row w' b1 2 _ 26 _ (keep X' h'); go_simp; try with_reducible rfl
            go_simp
            refine hK _ ?_
            clear hK K
            refine q_run rfl (fun K hK => ?_)
            refine q_value ?_ (fun w' h' => ?_) ?_
            rotate_left
            · go_simp; try with_reducible rfl
            go_simp
            refine hK _ ?_
            clear hK K
            refine q_run rfl (fun K hK => ?_)
            refine q_value ?_ (fun w' h' => ?_) ?_
            rotate_left
            · go_simp; try with_reducible rfl
            go_simp
            refine hK _ ?_
            clear hK K
            refine q_run rfl (fun K hK => ?_)
            refine q_value ?_ (fun w' h' => ?_) ?_
            rotate_left
            · have c := at_int (hA.below (hb3.trans (h'.mono hb3.size))) hlt; go_simp; try with_reducible rfl
            go_simp
            refine hK _ ?_
            clear hK K
            refine q_run rfl (fun K hK => ?_)
            refine q_value ?_ (fun w' h' => ?_) ?_
            rotate_left
            · go_simp; try with_reducible rfl
            go_simp
            refine hK _ ?_
            clear hK K
            refine q_run rfl (fun K hK => ?_)
            refine q_value ?_ (fun w' h' => ?_) ?_
            rotate_left
            · go_simp; try with_reducible rfl
            go_simp
            refine hK _ ?_
            clear hK K
            refine q_run rfl (fun K hK => ?_)
            refine q_value ?_ (fun w' h' => ?_) ?_
            rotate_left
            · go_simp; try with_reducible rfl
            go_simp
            refine hK _ ?_
            clear hK K
            refine q_run rfl (fun K hK => ?_)
            refine q_value ?_ (fun w' h' => ?_) ?_
            rotate_left
            · go_simp; try with_reducible rfl
            go_simp
            refine hK _ ?_
            clear hK K
            refine qd_nil ?_
            intro w3 h3
            have hb4 := hb2.trans (h3.mono hb2.size)
            go_wp2
            go_roundw
            case rel => exact ⟨k2 + 1, by go_num, by omega, hpre', hb4⟩
            case measure => simp [intOf]; omega
      have hkn : k2 = C.nw := by omega
      have hl1 : ¬ ((k2 : Int) < C.nw) := by omega
      rw [hkn] at hpre
      replace cT := fun {t r} => cT (t := t) (r := r) hpre
      replace cF := cF hpre
      clear cW hpre hkn
      have y2 := cell_of_row wr b1 2 _ 26 _ X'
      have y4 := cell_of_row wr b1 4 _ 26 _ X'
      go_upto_region 17 with (fail)
      obtain ⟨v1, ev1⟩ : ∃ x, x = wr := ⟨_, rfl⟩
      subst ev1
      clear hl1 y2 y4 hlt hk
      go_loopw [8] (fun v wr => ∃ k : Nat, v = .int .i64 k ∧ k ≤ C.nt ∧ (∀ j, j < k → thrE C j = none) ∧ Below v1.heap.size v1 wr) (fun v _ => C.nt - (intOf v).toNat)
      case atStart => exact ⟨0, rfl, Nat.zero_le _, fun p hp => absurd hp (by omega), Below.refl _ _⟩
      case round =>
        obtain ⟨t, rfl, hk, hpre, hb4⟩ := hrel
        have hb5 := hb3.trans (hb4.mono hb3.size)
        have X2 := keep X1 hb5
        by_cases hlt : t < C.nt
        case neg =>
          have hkn : t = C.nt := by omega
          have hl1 : ¬ ((t : Int) < C.nt) := by omega
          rw [hkn] at hpre
          have hc := cF hpre
          clear cT cF hpre hkn
          go_wp2
          go_ret3
          exact ⟨by first | rfl | (rw [hc]; rfl), halW.trans (hb5.mono halW.size)⟩
        have hl0 : (0 : Int) ≤ t := by omega
        have hl1 : (t : Int) < C.nt := by omega
        obtain ⟨bA, oA, eA⟩ := thr_ptr hMW.thr (by omega)
        have hA := hMW.thr
        have hO := hMW.ops t hlt
        have hKt := fun i hi => hMW.hK t i hlt hi
        rw [eA] at hA X2
        try rw [eA]
        have y4 := cell_of_row wr b1 4 _ 26 _ X2
        have cA := at_thr (hA.below hb5) hlt
        have tL := thr_long (C := C) (t := t)
        have tO := fun {k} => thr_op (C := C) (t := t) (k := k)
        have tF := thr_fine (C := C) (t := t)
        have hct := fun {r} => cT (t := t) (r := r) hlt hpre
        by_cases hlen : 60 < C.len t
        · have hlen' : 60 < (C.len t : Int) := by omega
          have hc := hct (tL hlen)
          clear cT cF hpre tL tO tF hct
          go_wp2
          go_ret3
          exact ⟨by first | rfl | (rw [hc]; rfl), halW.trans (hb5.mono halW.size)⟩
        have hlen' : ¬ (60 < (C.len t : Int)) := by omega
        replace tO := fun {k} => tO (k := k) hlen
        replace tF := tF hlen
        have hln : C.len t ≤ 60 := by omega
        clear tL hlen
        have hT : Hid (∀ w', Below W.heap.size W w' → w'.cell? ⟨bA, oA + t, none⟩ = some (.slice (C.tp t) (C.len t) (C.tc t))) := fun w' h => at_thr (hA.below h) hlt
        generalize C.tp t = At at *
        go_upto_region 22 with (fail)
        obtain ⟨v2, ev2⟩ : ∃ x, x = wr := ⟨_, rfl⟩
        subst ev2
        go_loopw [9] (fun v wr => ∃ k : Nat, v = .int .i64 k ∧ k ≤ C.len t ∧ (∀ j, j < k → rgt C (C.op t j) = true) ∧ Below v2.heap.size v2 wr) (fun v _ => C.len t - (intOf v).toNat)
        case atStart => exact ⟨0, rfl, Nat.zero_le _, fun p hp => absurd hp (by omega), Below.refl _ _⟩
        case round =>
          obtain ⟨k, rfl, hk', hpre4, hb6⟩ := hrel
          have hb7 := hb5.trans (hb6.mono hb5.size)
          have hb8 := hb4.trans (hb6.mono hb4.size)
          have X3 := keep X2 hb6
          have y5 := cell_of_row wr b1 4 _ 26 _ X3
          have cA' := hT.out _ hb7
          by_cases hlt4 : k < C.len t
          case neg =>
            have hkn : k = C.len t := by omega
            have hl2 : ¬ ((k : Int) < C.len t) := by omega
            rw [hkn] at hpre4
            have hth := tF hpre4
            have hpre' : ∀ p, p < t + 1 → thrE C p = none := fun p hp => by
              rcases Nat.lt_succ_iff_lt_or_eq.1 hp with h | rfl
              · exact hpre p h
              · exact hth
            clear cT cF hpre tO tF hct hpre4 hkn hth
            go_wp2
            go_roundw
            case rel => exact ⟨t + 1, by go_num, by omega, hpre', hb8⟩
            case measure => simp [intOf]; omega
          have hl2 : (0 : Int) ≤ k := by omega
          have hl3 : (k : Int) < C.len t := by omega
          obtain ⟨bO, oO, rfl⟩ := ops_ptr hO (by omega)
          have hOK := hKt k hlt4
          clear hKt
          go_upto_region 24 with (fail)
          refine quiet_all (fun w' => Below wr.heap.size wr w') (by kernel_rfl) (by kernel_rfl) (Below.drew (Below.refl _ _)) ?_
          refine q_run rfl (fun K hK => ?_)
          refine q_load 26 (.tmp 1) rfl _ rfl _ _ (0, 0) _ (fun w' h' => keep X3 h') Tryd.underlying26 rfl (by kernel_rfl) ?_
          go_simp
          refine hK _ ?_
          clear hK K
          refine q_run rfl (fun K hK => ?_)
          refine q_value ?_ (fun w' h' => ?_) ?_
          rotate_left
          · go_simp; try with_reducible rfl
          go_simp
          refine hK _ ?_
          clear hK K
          refine q_run rfl (fun K hK => ?_)
          refine q_value ?_ (fun w' h' => ?_) ?_
          rotate_left
          · have y4 := cell_of_row w' b1 4 _ 26 _ (keep X3 h'); go_simp; try with_reducible rfl
          go_simp
          refine hK _ ?_
          clear hK K
          refine q_run rfl (fun K hK => ?_)
          refine q_value ?_ (fun w' h' => ?_) ?_
          rotate_left
          · go_simp; try with_reducible rfl
          go_simp
          refine hK _ ?_
          clear hK K
          refine q_run rfl (fun K hK => ?_)
          refine q_value ?_ (fun w' h' => ?_) ?_
          rotate_left
          · go_simp; try with_reducible rfl
          go_simp
          refine hK _ ?_
          clear hK K
          refine q_run rfl (fun K hK => ?_)
          refine q_value ?_ (fun w' h' => ?_) ?_
          rotate_left
          · have c := hT.out _ (hb7.trans (Below.mono h' hb7.size)); go_simp; try with_reducible rfl
          go_simp
          refine hK _ ?_
          clear hK K
          refine q_run rfl (fun K hK => ?_)
          refine q_value ?_ (fun w' h' => ?_) ?_
          rotate_left
          · go_simp; try with_reducible rfl
          go_simp
          refine hK _ ?_
          clear hK K
          refine q_run rfl (fun K hK => ?_)
          refine q_value ?_ (fun w' h' => ?_) ?_
          rotate_left
          · go_simp; try with_reducible rfl
          go_simp
          refine hK _ ?_
          clear hK K
          refine q_run rfl (fun K hK => ?_)
          refine q_value (xv (C.op t k)) (fun w' h' => run_ldop (.tmp 124) rfl bO oO k hO (hb7.trans (Below.mono h' hb7.size)) hlt4 rfl) ?_
          go_simp
          refine hK _ ?_
          clear hK K
          refine q_run rfl (fun K hK => ?_)
          refine q_enter 13 #[C.v, xv (C.op t k)] (.bool (rgt C (C.op t k))) (fun w' => by unfold Cl.v xv; rw [eA]; first | (go_simp; done) | (go_simp; rfl)) (fun w' h' => (refRgt C (C.op t k) hOK w' (hMW.below (hb7.trans (Below.mono h' hb7.size)))).mono fun e w'' hh => ⟨hh.1, Below.trans h' (hh.2.mono (Below.size h'))⟩) ?_
          go_simp
          refine hK _ ?_
          clear hK K
          refine q_run rfl (fun K hK => ?_)
          refine q_value ?_ (fun w' h' => ?_) ?_
          rotate_left
          · go_simp; try with_reducible rfl
          go_simp
          refine hK _ ?_
          clear hK K
          refine qd_nil ?_
          intro w6 hq
          have hb9 : Below v2.heap.size v2 w6 := hb6.trans (hq.mono hb6.size)
          clear hq X3
          by_cases hrg : rgt C (C.op t k) = true
          · rw [hrg]
            have hpre' : ∀ p, p < k + 1 → rgt C (C.op t p) = true := fun p hp => by
              rcases Nat.lt_succ_iff_lt_or_eq.1 hp with h | rfl
              · exact hpre4 p h
              · exact hrg
            clear cT cF hpre tO tF hct hpre4
            go_wp2
            go_roundw
            case rel => exact ⟨k + 1, by go_num, by omega, hpre', hb9⟩
            case measure => simp [intOf]; omega
          · have hrg' : rgt C (C.op t k) = false := by simpa using hrg
            have hc := hct (tO hlt4 hpre4 hrg')
            rw [hrg']
            clear cT cF hpre tO tF hct hpre4
            go_wp2
            go_ret3
            exact ⟨by first | rfl | (rw [hc]; rfl), halW.trans ((hb5.trans (hb9.mono hb5.size)).mono halW.size)⟩
end Go.Proofs.YtlcoealfnlakhaaDoor
