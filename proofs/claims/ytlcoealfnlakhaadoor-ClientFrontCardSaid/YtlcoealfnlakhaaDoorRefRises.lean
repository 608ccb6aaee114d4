/- Does an op rise: the document's answer. -/
import Derived.Test.YtlcoealfnlakhaaDoorRefHas
namespace Go.Proofs.YtlcoealfnlakhaaDoor
open Go.RowKit
set_option linter.unusedVariables false
set_option linter.unusedSimpArgs false
set_option maxRecDepth 100000 in
set_option maxHeartbeats 8000000 in
theorem refRisesOp (C : Cl) (hno : C.no ≤ 8) (l : Nat → X) (P : Option Addr) (n cp : Nat) (hn : n ≤ 4000) (x : X) (hx : x.k = 7 → 0 ≤ x.a ∧ x.a < C.no) (w : World) (hM : MemC w C) (hL : Ops w P n l) :
    Calls Tryd.prog 26 #[C.v, .slice P n cp, xv x] w fun e w' => e = .returned (.bool (risesB C (fun o => hasP C l o n) x)) ∧ Below w.heap.size w w' := by
  obtain ⟨k, a, b, K⟩ := x
  by_cases e7 : k = 7
  case neg =>
    rw [show risesB C (fun o => hasP C l o n) ⟨k, a, b, K⟩ = true from if_neg e7]
    have q : (k != 7) = true := by simp [e7]
    clear e7 hx
    have hal := ((Below.refl w.heap.size w).alloc (Nat.le_refl _) (.cells #[.slice C.A C.no C.ca, .int .i64 C.vars, .slice C.W C.nw C.cw, .int .i64 C.room, .slice C.T C.nt C.ct] 26)).alloc (by simp) (.cells #[.int .i64 k, .int .i64 a, .int .i64 b, .int .u32 K] 37)
    unfold Cl.v xv
    go_enter Tryd.func26, Tryd.ntmps26
    go_wp2
    go_ret
    exact ⟨rfl, hal⟩
  subst e7
  have ha := hx rfl
  simp only at ha
  obtain ⟨i, rfl⟩ : ∃ i : Nat, a = i := ⟨a.toNat, by omega⟩
  have hi : i < C.no := by omega
  have hl0 : (0 : Int) ≤ i := by omega
  have hl1 : (i : Int) < C.no := by omega
  obtain ⟨bA, oA, eA⟩ := objs_ptr hM.objs (by omega)
  have hA := hM.objs
  rw [eA] at hA
  rw [show risesB C (fun o => hasP C l o n) ⟨7, i, b, K⟩ = (if waitB b = true then lockB (C.f i).k && aboveB i C.no (fun o => hasP C l o n) else true) from by simp [risesB]]
  have zt := zero_t (n := C.no - i) (h := fun o => hasP C l (i + o) n)
  have zf := fun {o} => zero_f (n := C.no - i) (h := fun o => hasP C l (i + o) n) (o := o)
  unfold aboveB
  generalize zeroB (C.no - i) (fun o => hasP C l (i + o) n) = z at *
  by_cases hw : b = 1 ∨ b = 3 ∨ b = 6 ∨ b = 9
  case neg =>
    rw [if_neg (show ¬ waitB b = true by unfold waitB; rw [decide_eq_false hw]; exact Bool.false_ne_true)]
    have q1 : (b != 1) = true := by simp; omega
    have q3 : (b != 3) = true := by simp; omega
    have q6 : (b != 6) = true := by simp; omega
    have q9 : (b != 9) = true := by simp; omega
    have hal := ((Below.refl w.heap.size w).alloc (Nat.le_refl _) (.cells #[.slice (some ⟨bA, oA, none⟩) C.no C.ca, .int .i64 C.vars, .slice C.W C.nw C.cw, .int .i64 C.room, .slice C.T C.nt C.ct] 26)).alloc (by simp) (.cells #[.int .i64 7, .int .i64 i, .int .i64 b, .int .u32 K] 37)
    clear hw zt zf
    unfold Cl.v xv
    rw [eA]
    go_enter Tryd.func26, Tryd.ntmps26
    go_wp2
    go_ret
    exact ⟨rfl, hal⟩
  rw [if_pos (show waitB b = true by unfold waitB; rw [decide_eq_true hw])]
  obtain ⟨B, hB⟩ : ∃ B, Hid ((lockB (C.f i).k && z) = B) := ⟨_, rfl⟩
  rw [hB.out]
  have hB := hB.out
  rcases hw with rfl | rfl | rfl | rfl
  all_goals
    unfold Cl.v xv
    rw [eA]
    go_enter Tryd.func26, Tryd.ntmps26
    go_upto_region 3 with (fail)
    obtain ⟨W, b1, b2, e0, e1, e2, X1, X2, hal⟩ := box2 w #[.slice (some ⟨bA, oA, none⟩) C.no C.ca, .int .i64 C.vars, .slice C.W C.nw C.cw, .int .i64 C.room, .slice C.T C.nt C.ct] #[.int .i64 7, .int .i64 i, .int .i64 _, .int .u32 K] 26 37
    rw [e0, e2, e1]
    clear e0 e2 e1
    have y0 := cell_of_row W b1 0 _ 26 _ X1
    have z1 := cell_of_row W b2 1 _ 37 _ X2
    have ck := (obj_at (hA.below hal) hi).1
    go_wp2_with fail
    refine (refLockC _ _).mono ?_
    rintro e w1 ⟨rfl, rfl⟩
    generalize (C.f i).k = kd at *
    cases hLk : lockB kd
    · rw [hLk, Bool.false_and] at hB
      subst hB
      clear zt zf
      go_wp2
      go_ret
      exact ⟨rfl, hal⟩
    rw [hLk, Bool.true_and] at hB
    subst hB
    go_upto_region 6 with (fail)
    obtain ⟨v0, ev0⟩ : ∃ x, x = w1 := ⟨_, rfl⟩
    subst ev0
    clear y0 z1 ck
    go_loopw [7] (fun v wr => ∃ j : Nat, v = .int .i64 j ∧ i ≤ j ∧ j ≤ C.no ∧ (∀ p, p < j - i → hasP C l (i + p) n = 0) ∧ Below v0.heap.size v0 wr) (fun v _ => C.no - (intOf v).toNat)
    case atStart => exact ⟨i, rfl, Nat.le_refl _, by omega, fun p hp => absurd hp (by omega), Below.refl _ _⟩
    case round =>
      obtain ⟨j, rfl, hij, hj, hpre, hb⟩ := hrel
      have X3 := keep X1 hb
      have hal2 := hal.trans (hb.mono hal.size)
      have y0 := cell_of_row wr b1 0 _ 26 _ X3
      by_cases hlt : j < C.no
      case neg =>
        have hl2 : ¬ ((j : Int) < C.no) := by omega
        have hjn : j = C.no := by omega
        rw [hjn] at hpre
        obtain rfl : z = true := zt hpre
        clear zt zf hpre hjn
        go_wp2
        go_ret
        exact ⟨rfl, hal2⟩
      have hl2 : (j : Int) < C.no := by omega
      go_upto_region 8 with (fail)
      refine wp_region_lit ?_
      refine wl_load rfl 26 (.tmp 3) rfl _ rfl _ _ _ _ X3 Tryd.underlying26 rfl (by kernel_rfl) ?_
      intro K hK
      go_simp
      refine hK _ _ ?_
      clear hK K
      iterate 2
        refine wl_val rfl ?_ ?_ ?_
        rotate_left
        · go_simp; try with_reducible rfl
        intro K hK
        go_simp
        refine hK _ _ ?_
        clear hK K
      refine wl_call rfl 27 #[C.v, .slice P n cp, .int .i64 j] (.int .i64 (hasP C l j n)) _ ?_ (refHas C l P n cp j hlt hn wr (hM.below hal2) (hL.below hal2)) (fun w6 hb6 => ?_)
      · unfold Cl.v; rw [eA]; first | (go_simp; done) | (go_simp; rfl)
      intro K hK
      go_simp
      refine hK _ _ ?_
      clear hK K
      have hb7 := hb.trans (hb6.mono hb.size)
      by_cases hz : hasP C l j n = 0
      · have hpre' : ∀ p, p < j + 1 - i → hasP C l (i + p) n = 0 := fun p hp => by
          by_cases hpj : i + p = j
          · rw [hpj]; exact hz
          · exact hpre p (by omega)
        have q' : (hasP C l j n != 0) = false := by simp [hz]
        generalize hasP C l j n = v at *
        clear zt zf hz hpre
        go_wp2
        go_roundw
        case rel => exact ⟨j + 1, by go_num, by omega, by omega, hpre', hb7⟩
        case measure => simp [intOf]; omega
      · obtain rfl : z = false := zf (o := j - i) (by omega) (by rw [show i + (j - i) = j by omega]; exact hz)
        have q' : (hasP C l j n != 0) = true := by simp [hz]
        generalize hasP C l j n = v at *
        clear zt zf hz hpre
        go_wp2
        go_ret
        exact ⟨rfl, hal.trans (hb7.mono hal.size)⟩
end Go.Proofs.YtlcoealfnlakhaaDoor
