/- The laws of the chapter, walked: Checks, Rights, Keeps, Rises. -/
import Derived.Test.YtlcoealfnlakhaaDoorLaws
import Derived.Test.YtlcoealfnlakhaaDoorRefKeeps
import Derived.Test.YtlcoealfnlakhaaDoorRefKeepsR
namespace Go.Proofs.YtlcoealfnlakhaaDoor
open Go.RowKit
set_option linter.unusedVariables false
set_option linter.unusedSimpArgs false
set_option maxRecDepth 100000 in
set_option maxHeartbeats 4000000 in
theorem checks_walk (C : Cl) (w : World) (hM : MemC w C) (hN : NmW w) : Calls Tryd.prog 3 #[C.v] w fun e w' => e = .returned (.bool true) ∧ Below w.heap.size w w' := by
  have h1 := fun w hM hN => clCheck C w hM hN
  have h2 := fun w hM => refCheck C w hM
  obtain ⟨⟨p1, p2, p3⟩, hp⟩ : ∃ p, p = chk C := ⟨_, rfl⟩
  rw [← hp] at h1 h2
  clear hp
  unfold Cl.v
  go_enter Tryd.func3, Tryd.ntmps3
  go_upto_region 1 with (fail)
  obtain ⟨W, b1, e0, e1, X1, hal⟩ := box1 w #[.slice C.A C.no C.ca, .int .i64 C.vars, .slice C.W C.nw C.cw, .int .i64 C.room, .slice C.T C.nt C.ct] 26
  rw [e0, e1]
  clear e0 e1
  refine wp_region_lit ?_
  refine wl_call rfl 8 #[] (.bool true) _ ?_ (awake W (hN.below hal)) (fun w2 hb2 => ?_)
  · skip; first | (go_simp; done) | (go_simp; rfl)
  intro K hK
  go_simp
  refine hK _ _ ?_
  clear hK K
  replace X1 := keep X1 hb2
  replace hal := hal.trans (hb2.mono hal.size)
  clear hb2
  iterate 2
    refine wl_val rfl ?_ ?_ ?_
    rotate_left
    · go_simp; try with_reducible rfl
    intro K hK
    go_simp
    refine hK _ _ ?_
    clear hK K
  refine wg_load rfl 26 (.tmp 1) rfl _ rfl _ _ _ _ X1 Tryd.underlying26 rfl (by kernel_rfl) ?_
  intro K hK
  go_simp
  refine hK _ _ ?_
  clear hK K
  refine wg_call rfl 9 #[C.v] (.int .i64 (lgI C)) _ ?_ (longC C w2 (hM.below hal)) (fun w3 hb3 => ?_)
  · unfold Cl.v; first | (go_simp; done) | (go_simp; rfl)
  intro K hK
  go_simp
  refine hK _ _ ?_
  clear hK K
  replace X1 := keep X1 hb3
  replace hal := hal.trans (hb3.mono hal.size)
  clear hb3
  unfold lgI
  cases hlg : longB C
  case true =>
    rw [if_pos rfl]
    go_wp2_with fail
    refine (awake _ (hN.below hal)).mono ?_
    rintro e w4 ⟨rfl, hb4⟩
    go_wp2
    go_ret
    exact ⟨rfl, hal.trans (hb4.mono hal.size)⟩
  rw [if_neg Bool.false_ne_true]
  go_upto_region 3 with (fail)
  refine wp_region_lit ?_
  refine wl_load rfl 26 (.tmp 1) rfl _ rfl _ _ _ _ X1 Tryd.underlying26 rfl (by kernel_rfl) ?_
  intro K hK
  go_simp
  refine hK _ _ ?_
  clear hK K
  refine wl_call rfl 10 #[C.v] (r3 (p1, p2, p3)) _ ?_ (h1 w3 (hM.below hal) (hN.below hal)) (fun w5 hb5 => ?_)
  · unfold Cl.v; first | (go_simp; done) | (go_simp; rfl)
  intro K hK
  go_simp
  refine hK _ _ ?_
  clear hK K
  unfold r3
  replace X1 := keep X1 hb5
  replace hal := hal.trans (hb5.mono hal.size)
  clear hb5
  go_upto_region 4 with (fail)
  refine wp_region_lit ?_
  refine wl_load rfl 26 (.tmp 1) rfl _ rfl _ _ _ _ X1 Tryd.underlying26 rfl (by kernel_rfl) ?_
  intro K hK
  go_simp
  refine hK _ _ ?_
  clear hK K
  refine wl_call rfl 11 #[C.v] (r3 (p1, p2, p3)) _ ?_ (h2 w5 (hM.below hal)) (fun w6 hb6 => ?_)
  · unfold Cl.v; first | (go_simp; done) | (go_simp; rfl)
  intro K hK
  go_simp
  refine hK _ _ ?_
  clear hK K
  unfold r3
  replace X1 := keep X1 hb6
  replace hal := hal.trans (hb6.mono hal.size)
  clear hb6
  clear h1 h2
  go_wp2
  go_ret
  exact ⟨rfl, hal⟩
set_option maxRecDepth 100000 in
set_option maxHeartbeats 4000000 in
theorem keeps_walk (C : Cl) (w : World) (hM : MemC w C) (hN : NmW w) : Calls Tryd.prog 5 #[C.v] w fun e w' => e = .returned (.bool true) ∧ Below w.heap.size w w' := by
  have h1 := fun w hM hN => clKeeps C w hM hN
  have h2 := fun w hM => refKeeps_false C w hM
  obtain ⟨⟨p1, p2, p3⟩, hp⟩ : ∃ p, p = kp false C := ⟨_, rfl⟩
  rw [← hp] at h1 h2
  clear hp
  unfold Cl.v
  go_enter Tryd.func5, Tryd.ntmps5
  go_upto_region 1 with (fail)
  obtain ⟨W, b1, e0, e1, X1, hal⟩ := box1 w #[.slice C.A C.no C.ca, .int .i64 C.vars, .slice C.W C.nw C.cw, .int .i64 C.room, .slice C.T C.nt C.ct] 26
  rw [e0, e1]
  clear e0 e1
  refine wp_region_lit ?_
  refine wl_call rfl 8 #[] (.bool true) _ ?_ (awake W (hN.below hal)) (fun w2 hb2 => ?_)
  · skip; first | (go_simp; done) | (go_simp; rfl)
  intro K hK
  go_simp
  refine hK _ _ ?_
  clear hK K
  replace X1 := keep X1 hb2
  replace hal := hal.trans (hb2.mono hal.size)
  clear hb2
  iterate 2
    refine wl_val rfl ?_ ?_ ?_
    rotate_left
    · go_simp; try with_reducible rfl
    intro K hK
    go_simp
    refine hK _ _ ?_
    clear hK K
  refine wg_load rfl 26 (.tmp 1) rfl _ rfl _ _ _ _ X1 Tryd.underlying26 rfl (by kernel_rfl) ?_
  intro K hK
  go_simp
  refine hK _ _ ?_
  clear hK K
  refine wg_call rfl 9 #[C.v] (.int .i64 (lgI C)) _ ?_ (longC C w2 (hM.below hal)) (fun w3 hb3 => ?_)
  · unfold Cl.v; first | (go_simp; done) | (go_simp; rfl)
  intro K hK
  go_simp
  refine hK _ _ ?_
  clear hK K
  replace X1 := keep X1 hb3
  replace hal := hal.trans (hb3.mono hal.size)
  clear hb3
  unfold lgI
  cases hlg : longB C
  case true =>
    rw [if_pos rfl]
    go_wp2_with fail
    refine (awake _ (hN.below hal)).mono ?_
    rintro e w4 ⟨rfl, hb4⟩
    go_wp2
    go_ret
    exact ⟨rfl, hal.trans (hb4.mono hal.size)⟩
  rw [if_neg Bool.false_ne_true]
  go_upto_region 3 with (fail)
  refine wp_region_lit ?_
  refine wl_load rfl 26 (.tmp 1) rfl _ rfl _ _ _ _ X1 Tryd.underlying26 rfl (by kernel_rfl) ?_
  intro K hK
  go_simp
  refine hK _ _ ?_
  clear hK K
  refine wl_call rfl 14 #[C.v] (r3 (p1, p2, p3)) _ ?_ (h1 w3 (hM.below hal) (hN.below hal)) (fun w5 hb5 => ?_)
  · unfold Cl.v; first | (go_simp; done) | (go_simp; rfl)
  intro K hK
  go_simp
  refine hK _ _ ?_
  clear hK K
  unfold r3
  replace X1 := keep X1 hb5
  replace hal := hal.trans (hb5.mono hal.size)
  clear hb5
  go_upto_region 4 with (fail)
  refine wp_region_lit ?_
  refine wl_load rfl 26 (.tmp 1) rfl _ rfl _ _ _ _ X1 Tryd.underlying26 rfl (by kernel_rfl) ?_
  intro K hK
  go_simp
  refine hK _ _ ?_
  clear hK K
  refine wl_call rfl 15 #[C.v, .bool false] (r3 (p1, p2, p3)) _ ?_ (h2 w5 (hM.below hal)) (fun w6 hb6 => ?_)
  · unfold Cl.v; first | (go_simp; done) | (go_simp; rfl)
  intro K hK
  go_simp
  refine hK _ _ ?_
  clear hK K
  unfold r3
  replace X1 := keep X1 hb6
  replace hal := hal.trans (hb6.mono hal.size)
  clear hb6
  clear h1 h2
  go_wp2
  go_ret
  exact ⟨rfl, hal⟩
theorem scan_weak {R S : Type} {g : Nat → Option R} {g' : Nat → Option S} {n : Nat} (h : scan g n = none) (hh : ∀ j, j < n → g j = none → g' j = none) : scan g' n = none :=
  scan_none fun j hj => hh j hj (scan_no h j hj)
theorem kp_weak {C : Cl} (h : (kp true C).2.2 = 0) : (kp false C).2.2 = 0 := by
  by_cases hc : (chk C).2.2 = 0
  · have hn : ∀ j, j < C.nt → thrK true C j = none := by
      by_cases hs : scan (thrK true C) C.nt = none
      · exact scan_no hs
      · exfalso
        obtain ⟨r, hr⟩ := Option.ne_none_iff_exists'.1 hs
        obtain ⟨k, hk, e, hp⟩ := scan_get hr
        rw [kp_thr hc hk hp e] at h
        unfold thrK at e
        cases e1 : scan (fun i => if badP true C k i then some (((k : Int), (i : Int), 7) : T3) else none) (C.len k) with
        | some r' =>
          rw [e1] at e
          obtain ⟨i, _, e', _⟩ := scan_get e1
          simp only [Option.some_or, Option.some.injEq] at e
          subst e
          split at e'
          · cases e'; simp at h
          · cases e'
        | none =>
          rw [e1, Option.none_or] at e
          split at e
          · cases e
          · cases e; simp at h
    have hn' : ∀ j, j < C.nt → thrK false C j = none := fun j hj => by
      have := hn j hj
      unfold thrK at this ⊢
      rw [Option.or_eq_none_iff] at this ⊢
      refine ⟨scan_weak this.1 fun i hi e => ?_, this.2⟩
      split at e
      · cases e
      · rename_i hb
        rw [if_neg]
        intro hf
        apply hb
        unfold badP at hf ⊢
        rw [Bool.false_and, Bool.false_or] at hf
        rw [hf, Bool.or_true]
    rw [kp_fine hc hn']
  · rw [kp_err hc] at h
    exact absurd h hc
set_option maxRecDepth 100000 in
set_option maxHeartbeats 4000000 in
theorem rises_walk (C : Cl) (w : World) (hM : MemC w C) (hN : NmW w) : Calls Tryd.prog 7 #[C.v] w fun e w' => e = .returned (.bool true) ∧ Below w.heap.size w w' := by
  have h1 := fun w hM hN => clRises C w hM hN
  have h2 := fun w hM => refKeeps_true C w hM
  have h3 := fun w hM hN => clKeeps C w hM hN
  have hw := kp_weak (C := C)
  obtain ⟨⟨p1, p2, p3⟩, hp⟩ : ∃ p, p = kp true C := ⟨_, rfl⟩
  obtain ⟨⟨r1, r2, r3'⟩, hr⟩ : ∃ p, p = kp false C := ⟨_, rfl⟩
  rw [← hp] at h1 h2 hw
  rw [← hr] at h3 hw
  simp only at hw
  clear hp hr
  unfold Cl.v
  go_enter Tryd.func7, Tryd.ntmps7
  go_upto_region 1 with (fail)
  obtain ⟨W, b1, e0, e1, X1, hal⟩ := box1 w #[.slice C.A C.no C.ca, .int .i64 C.vars, .slice C.W C.nw C.cw, .int .i64 C.room, .slice C.T C.nt C.ct] 26
  rw [e0, e1]
  clear e0 e1
  refine wp_region_lit ?_
  refine wl_call rfl 8 #[] (.bool true) _ ?_ (awake W (hN.below hal)) (fun w2 hb2 => ?_)
  · skip; first | (go_simp; done) | (go_simp; rfl)
  intro K hK
  go_simp
  refine hK _ _ ?_
  clear hK K
  replace X1 := keep X1 hb2
  replace hal := hal.trans (hb2.mono hal.size)
  clear hb2
  iterate 2
    refine wl_val rfl ?_ ?_ ?_
    rotate_left
    · go_simp; try with_reducible rfl
    intro K hK
    go_simp
    refine hK _ _ ?_
    clear hK K
  refine wg_load rfl 26 (.tmp 1) rfl _ rfl _ _ _ _ X1 Tryd.underlying26 rfl (by kernel_rfl) ?_
  intro K hK
  go_simp
  refine hK _ _ ?_
  clear hK K
  refine wg_call rfl 9 #[C.v] (.int .i64 (lgI C)) _ ?_ (longC C w2 (hM.below hal)) (fun w3 hb3 => ?_)
  · unfold Cl.v; first | (go_simp; done) | (go_simp; rfl)
  intro K hK
  go_simp
  refine hK _ _ ?_
  clear hK K
  replace X1 := keep X1 hb3
  replace hal := hal.trans (hb3.mono hal.size)
  clear hb3
  unfold lgI
  cases hlg : longB C
  case true =>
    rw [if_pos rfl]
    go_wp2_with fail
    refine (awake _ (hN.below hal)).mono ?_
    rintro e w4 ⟨rfl, hb4⟩
    go_wp2
    go_ret
    exact ⟨rfl, hal.trans (hb4.mono hal.size)⟩
  rw [if_neg Bool.false_ne_true]
  go_upto_region 3 with (fail)
  refine wp_region_lit ?_
  refine wl_load rfl 26 (.tmp 1) rfl _ rfl _ _ _ _ X1 Tryd.underlying26 rfl (by kernel_rfl) ?_
  intro K hK
  go_simp
  refine hK _ _ ?_
  clear hK K
  refine wl_call rfl 16 #[C.v] (r3 (p1, p2, p3)) _ ?_ (h1 w3 (hM.below hal) (hN.below hal)) (fun w5 hb5 => ?_)
  · unfold Cl.v; first | (go_simp; done) | (go_simp; rfl)
  intro K hK
  go_simp
  refine hK _ _ ?_
  clear hK K
  unfold r3
  replace X1 := keep X1 hb5
  replace hal := hal.trans (hb5.mono hal.size)
  clear hb5
  go_upto_region 4 with (fail)
  refine wp_region_lit ?_
  refine wl_load rfl 26 (.tmp 1) rfl _ rfl _ _ _ _ X1 Tryd.underlying26 rfl (by kernel_rfl) ?_
  intro K hK
  go_simp
  refine hK _ _ ?_
  clear hK K
  refine wl_call rfl 15 #[C.v, .bool true] (r3 (p1, p2, p3)) _ ?_ (h2 w5 (hM.below hal)) (fun w6 hb6 => ?_)
  · unfold Cl.v; first | (go_simp; done) | (go_simp; rfl)
  intro K hK
  go_simp
  refine hK _ _ ?_
  clear hK K
  unfold r3
  replace X1 := keep X1 hb6
  replace hal := hal.trans (hb6.mono hal.size)
  clear hb6
  go_upto_region 5 with (fail)
  refine wp_region_lit ?_
  refine wl_load rfl 26 (.tmp 1) rfl _ rfl _ _ _ _ X1 Tryd.underlying26 rfl (by kernel_rfl) ?_
  intro K hK
  go_simp
  refine hK _ _ ?_
  clear hK K
  refine wl_call rfl 14 #[C.v] (r3 (r1, r2, r3')) _ ?_ (h3 w6 (hM.below hal) (hN.below hal)) (fun w7 hb7 => ?_)
  · unfold Cl.v; first | (go_simp; done) | (go_simp; rfl)
  intro K hK
  go_simp
  refine hK _ _ ?_
  clear hK K
  unfold r3
  replace X1 := keep X1 hb7
  replace hal := hal.trans (hb7.mono hal.size)
  clear hb7
  clear h1 h2 h3
  by_cases h0 : p3 = 0
  · obtain rfl : r3' = 0 := hw h0
    have q0 : (p3 != 0) = false := by simp [h0]
    clear hw h0
    go_wp2
    go_ret
    exact ⟨rfl, hal⟩
  · have q0 : (p3 != 0) = true := by simp [h0]
    clear hw h0
    go_wp2
    go_ret
    exact ⟨rfl, hal⟩
set_option maxRecDepth 100000 in
set_option maxHeartbeats 4000000 in
theorem rights_walk (C : Cl) (x : X) (hx : 0 ≤ x.K ∧ x.K < 4294967296) (w : World) (hM : MemC w C) (hN : NmW w) : Calls Tryd.prog 4 #[C.v, xv x] w fun e w' => e = .returned (.bool true) ∧ Below w.heap.size w w' := by
  unfold Cl.v xv
  go_enter Tryd.func4, Tryd.ntmps4
  go_upto_region 1 with (fail)
  obtain ⟨W, b1, b2, e0, e1, e2, X1, X2, hal⟩ := box2 w #[.slice C.A C.no C.ca, .int .i64 C.vars, .slice C.W C.nw C.cw, .int .i64 C.room, .slice C.T C.nt C.ct] #[.int .i64 x.k, .int .i64 x.a, .int .i64 x.b, .int .u32 x.K] 26 37
  rw [e0, e2, e1]
  clear e0 e2 e1
  refine wp_region_lit ?_
  refine wl_call rfl 8 #[] (.bool true) _ ?_ (awake W (hN.below hal)) (fun w2 hb2 => ?_)
  · skip; first | (go_simp; done) | (go_simp; rfl)
  intro K hK
  go_simp
  refine hK _ _ ?_
  clear hK K
  replace X1 := keep X1 hb2
  replace X2 := keep X2 hb2
  replace hal := hal.trans (hb2.mono hal.size)
  clear hb2
  iterate 2
    refine wl_val rfl ?_ ?_ ?_
    rotate_left
    · go_simp; try with_reducible rfl
    intro K hK
    go_simp
    refine hK _ _ ?_
    clear hK K
  refine wg_load rfl 26 (.tmp 2) rfl _ rfl _ _ _ _ X1 Tryd.underlying26 rfl (by kernel_rfl) ?_
  intro K hK
  go_simp
  refine hK _ _ ?_
  clear hK K
  refine wg_call rfl 9 #[C.v] (.int .i64 (lgI C)) _ ?_ (longC C w2 (hM.below hal)) (fun w3 hb3 => ?_)
  · unfold Cl.v; first | (go_simp; done) | (go_simp; rfl)
  intro K hK
  go_simp
  refine hK _ _ ?_
  clear hK K
  replace X1 := keep X1 hb3
  replace X2 := keep X2 hb3
  replace hal := hal.trans (hb3.mono hal.size)
  clear hb3
  unfold lgI
  cases hlg : longB C
  case true =>
    rw [if_pos rfl]
    go_wp2_with fail
    refine (awake _ (hN.below hal)).mono ?_
    rintro e w4 ⟨rfl, hb4⟩
    go_wp2
    go_ret
    exact ⟨rfl, hal.trans (hb4.mono hal.size)⟩
  rw [if_neg Bool.false_ne_true]
  go_upto_region 3 with (fail)
  refine quiet_all (fun w' => Below w3.heap.size w3 w') (by kernel_rfl) (by kernel_rfl) (Below.drew (Below.refl _ _)) ?_
  refine q_run rfl (fun K hK => ?_)
  refine q_load 26 (.tmp 2) rfl _ rfl _ _ (0, 0) _ (fun w' h' => keep X1 h') Tryd.underlying26 rfl (by kernel_rfl) ?_
  go_simp
  refine hK _ ?_
  clear hK K
  refine q_run rfl (fun K hK => ?_)
  refine q_load 37 (.tmp 3) rfl _ rfl _ _ (0, 0) _ (fun w' h' => keep X2 h') Tryd.underlying37 rfl (by kernel_rfl) ?_
  go_simp
  refine hK _ ?_
  clear hK K
  refine q_run rfl (fun K hK => ?_)
  refine q_enter 12 #[C.v, xv x] (.bool (rgt C x)) (fun w' => by unfold Cl.v xv; first | (go_simp; done) | (go_simp; rfl)) (fun w' h' => (clRight C x hx w' (hM.below (hal.trans (Below.mono h' hal.size))) (hN.below (hal.trans (Below.mono h' hal.size)))).mono fun e w'' hh => ⟨hh.1, Below.trans h' (hh.2.mono (Below.size h'))⟩) ?_
  go_simp
  refine hK _ ?_
  clear hK K
  refine q_run rfl (fun K hK => ?_)
  refine q_load 26 (.tmp 2) rfl _ rfl _ _ (0, 0) _ (fun w' h' => keep X1 h') Tryd.underlying26 rfl (by kernel_rfl) ?_
  go_simp
  refine hK _ ?_
  clear hK K
  refine q_run rfl (fun K hK => ?_)
  refine q_load 37 (.tmp 3) rfl _ rfl _ _ (0, 0) _ (fun w' h' => keep X2 h') Tryd.underlying37 rfl (by kernel_rfl) ?_
  go_simp
  refine hK _ ?_
  clear hK K
  refine q_run rfl (fun K hK => ?_)
  refine q_enter 13 #[C.v, xv x] (.bool (rgt C x)) (fun w' => by unfold Cl.v xv; first | (go_simp; done) | (go_simp; rfl)) (fun w' h' => (refRgt C x hx w' (hM.below (hal.trans (Below.mono h' hal.size)))).mono fun e w'' hh => ⟨hh.1, Below.trans h' (hh.2.mono (Below.size h'))⟩) ?_
  go_simp
  refine hK _ ?_
  clear hK K
  refine q_run rfl (fun K hK => ?_)
  refine q_value ?_ (fun w' h' => ?_) ?_
  rotate_left
  · go_simp; try with_reducible rfl
  go_simp
  refine hK _ ?_
  clear hK K
  refine q_run rfl (fun K hK => ?_)
  refine q_value ?_ (fun w' h' => ?_) ?_
  rotate_left
  · go_simp; try with_reducible rfl
  go_simp
  refine hK _ ?_
  clear hK K
  refine qd_nil ?_
  intro w6 hq
  go_wp2
  go_ret
  exact ⟨rfl, hal.trans (hq.mono hal.size)⟩
end Go.Proofs.YtlcoealfnlakhaaDoor
