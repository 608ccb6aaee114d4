/- A barrier's call. -/
import Derived.Test.YtobkonbpcnmgpaaDoorKinds
namespace Go.Proofs.YtobkonbpcnmgpaaDoor
open Go.RowKit
set_option linter.unusedVariables false
set_option linter.unusedSimpArgs false
def closedB (s : St) : Bool := (List.range s.o.n.toNat).any fun t => decide (s.come t ≤ s.opened)
theorem closed_t {s : St} {t : Nat} (ht : (t : Int) < s.o.n) (h : s.come t ≤ s.opened) : closedB s = true := by
  unfold closedB; rw [List.any_eq_true]; exact ⟨t, List.mem_range.2 (by omega), decide_eq_true h⟩
theorem closed_f {s : St} (h : ∀ t : Nat, (t : Int) < s.o.n → ¬ s.come t ≤ s.opened) : closedB s = false := by
  unfold closedB; rw [List.any_eq_false]; intro t ht; have := h t (by have := List.mem_range.1 ht; omega); simpa using this
def barP (s : St) (q : Nat) (part arg : Int) : Out :=
  if s.o.n ≤ q then ⟨s, 4, true⟩ else if ¬ arg = s.o.n then ⟨s, 3, true⟩
  else if part = 1 then (if s.left q < s.come q then ⟨s, 0, false⟩ else ⟨{ s with come := upF s.come q (IntKind.i64.wrap (s.come q + 1)) }, 0, true⟩)
  else if part = 2 then (if closedB s = true then ⟨s, 0, false⟩ else ⟨{ s with opened := IntKind.i64.wrap (s.opened + 1) }, 0, true⟩)
  else if part = 3 then (if s.come q = s.left q then ⟨s, 0, false⟩ else if s.opened < s.come q then ⟨s, 0, false⟩ else ⟨{ s with left := upF s.left q (IntKind.i64.wrap (s.left q + 1)) }, 0, true⟩)
  else ⟨s, 0, false⟩
set_option maxRecDepth 100000 in
set_option maxHeartbeats 8000000 in
theorem barC (S : Nat → St) (g n i off : Nat) (hi : i < n) (hoff : Hid (off = i * 38)) (q : Nat) (hq : q < 8) (xo xc xp xa xv : Int) (hn : 0 ≤ (S i).o.n ∧ (S i).o.n ≤ 8) (hxa : 0 ≤ xa ∧ xa < 4294967296) (w0 : World) (hR : Row w0 g n S) : Calls Tryd.prog 24 #[.pointer (some ⟨g, off, none⟩), akV ⟨q, xo, xc, xp, xa, xv⟩] w0 fun e w' => e = .returned (ansV (barP (S i) q xp xa).r none 0 0 (barP (S i) q xp xa).ok) ∧ Row w' g n (updS S i (barP (S i) q xp xa).s) ∧ Exc g w0 w' := by
  obtain ⟨p, hp⟩ : ∃ p, Hid (p = barP (S i) q xp xa) := ⟨_, rfl⟩
  rw [← hp.out]
  have hq0 : (0 : Int) ≤ q := by omega
  have hq8 : (q : Int) < 8 := by omega
  unfold akV akC
  go_enter Tryd.func24, Tryd.ntmps24
  go_upto_region 1 with (fail)
  obtain ⟨W, b3, b4, e0, e1, e2, X3, X4, hal⟩ := box2 w0 #[.int .i64 q, .int .i64 xo, .int .i64 xc, .int .i64 xp, .int .u32 xa, .int .u32 xv] #[.int .u32 0, .slice none 0 0] 34 38
  rw [e0, e2, e1]
  have z3 : w0.heap.size ≤ b3 := Nat.le_of_eq e1
  have z4 : w0.heap.size ≤ b4 := by omega
  have hgl := hR.lt
  have hn3 : g ≠ b3 := by omega
  have hn4 : g ≠ b4 := by omega
  clear e0 e2 e1
  have R := hR.below hal
  have E : Exc g w0 W := Exc.of_below hal
  clear hal
  by_cases cn : (S i).o.n ≤ (q : Int)
  · obtain rfl : p = ⟨S i, 4, true⟩ := by
      rw [hp.out]; unfold barP; rw [if_pos cn]
    clear hp
    go_upto_region 1 with (fail)
    refine quiet_all (fun w' => Below W.heap.size W w') (by kernel_rfl) (by kernel_rfl) (Below.drew (Below.refl _ _)) ?_
    refine q_run rfl (fun K hK => ?_)
    refine q_value ?_ (fun w' h' => ?_) ?_
    rotate_left
    · go_simp; try with_reducible rfl
    go_simp
    refine hK _ ?_
    clear hK K
    refine q_run rfl (fun K hK => ?_)
    refine q_value ?_ (fun w' h' => ?_) ?_
    rotate_left
    · have c := cell_of_row w' b3 0 _ 34 _ (keep X3 h'); go_simp; try with_reducible rfl
    go_simp
    refine hK _ ?_
    clear hK K
    refine q_run rfl (fun K hK => ?_)
    refine q_value ?_ (fun w' h' => ?_) ?_
    rotate_left
    · go_simp; try with_reducible rfl
    go_simp
    refine hK _ ?_
    clear hK K
    refine q_run rfl (fun K hK => ?_)
    refine q_value ?_ (fun w' h' => ?_) ?_
    rotate_left
    · go_simp; try with_reducible rfl
    go_simp
    refine hK _ ?_
    clear hK K
    refine q_run rfl (fun K hK => ?_)
    refine q_value ?_ (fun w' h' => ?_) ?_
    rotate_left
    · go_simp; try with_reducible rfl
    go_simp
    refine hK _ ?_
    clear hK K
    refine q_run rfl (fun K hK => ?_)
    refine q_value ?_ (fun w' h' => ?_) ?_
    rotate_left
    · go_simp; try with_reducible rfl
    go_simp
    refine hK _ ?_
    clear hK K
    refine q_run rfl (fun K hK => ?_)
    refine q_value ?_ (fun w' h' => ?_) ?_
    rotate_left
    · have c := (R.below h').nn hi hoff.out; go_simp; try with_reducible rfl
    go_simp
    refine hK _ ?_
    clear hK K
    refine q_run rfl (fun K hK => ?_)
    refine q_value ?_ (fun w' h' => ?_) ?_
    rotate_left
    · go_simp; try with_reducible rfl
    go_simp
    refine hK _ ?_
    clear hK K
    refine q_run rfl (fun K hK => ?_)
    refine q_value ?_ (fun w' h' => ?_) ?_
    rotate_left
    · go_simp; try with_reducible rfl
    go_simp
    refine hK _ ?_
    clear hK K
    refine qd_nil ?_
    intro w1 h2
    replace X3 := keep X3 h2
    replace X4 := keep X4 h2
    replace R := R.below h2
    replace E := E.below h2
    clear h2
    go_upto_region 2 with (fail)
    refine wp_region_lit ?_
    refine wl_call rfl 38 #[.int .u32 4] (ansV 4 none 0 0 true) _ ?_ (toldC 4 w1) (fun w3 hd => ?_)
    · first | (go_simp; done) | (go_simp; rfl)
    intro K hK
    go_simp
    refine hK _ _ ?_
    clear hK K
    unfold ansV
    iterate 2
      refine wl_val rfl ?_ ?_ ?_
      rotate_left
      · go_simp; try with_reducible rfl
      intro K hK
      go_simp
      refine hK _ _ ?_
      clear hK K
    refine wl_store rfl 38 (.tmp 4) (.tmp 17) rfl b4 #[.int .u32 4, .slice none 0 0] rfl rfl 38 _ (keep X4 hd) (by kernel_rfl) rfl (by simp [Value.oneCell']) (fun w4 m1 m2 m3 m4 => ?_)
    intro K hK
    go_simp
    refine hK _ _ ?_
    clear hK K
    refine wl_val rfl (.bool true) ?_ ?_
    · go_simp
    intro K hK
    go_simp
    refine hK _ _ ?_
    clear hK K
    have Rf := (R.below hd).keep (m2 g hn4)
    have Ef := (E.below hd).put z4 m2 m3
    go_wp2
    exact ret_ans rfl b4 _ _ _ _ _ rfl rfl rfl m1 ⟨rfl, by rw [updS_same]; exact Rf, Ef⟩
  · by_cases ca : xa = (S i).o.n
    · by_cases p1 : xp = 1
      · by_cases cl : (S i).left q < (S i).come q
        · obtain rfl : p = ⟨S i, 0, false⟩ := by
            rw [hp.out]; unfold barP; rw [if_neg cn, if_neg (not_not_intro ca), if_pos p1, if_pos cl]
          clear hp
          subst p1
          have hw1 : IntKind.u64.wrap (S i).o.n = (S i).o.n := by simp [IntKind.wrap, IntKind.bits, IntKind.signed]; omega
          have hw2 : IntKind.u64.wrap xa = xa := by simp [IntKind.wrap, IntKind.bits, IntKind.signed]; omega
          have qa : (xa != (S i).o.n) = false := by simp [ca]
          clear ca
          go_upto_region 1 with (fail)
          refine quiet_all (fun w' => Below W.heap.size W w') (by kernel_rfl) (by kernel_rfl) (Below.drew (Below.refl _ _)) ?_
          refine q_run rfl (fun K hK => ?_)
          refine q_value ?_ (fun w' h' => ?_) ?_
          rotate_left
          · go_simp; try with_reducible rfl
          go_simp
          refine hK _ ?_
          clear hK K
          refine q_run rfl (fun K hK => ?_)
          refine q_value ?_ (fun w' h' => ?_) ?_
          rotate_left
          · have c := cell_of_row w' b3 0 _ 34 _ (keep X3 h'); go_simp; try with_reducible rfl
          go_simp
          refine hK _ ?_
          clear hK K
          refine q_run rfl (fun K hK => ?_)
          refine q_value ?_ (fun w' h' => ?_) ?_
          rotate_left
          · go_simp; try with_reducible rfl
          go_simp
          refine hK _ ?_
          clear hK K
          refine q_run rfl (fun K hK => ?_)
          refine q_value ?_ (fun w' h' => ?_) ?_
          rotate_left
          · go_simp; try with_reducible rfl
          go_simp
          refine hK _ ?_
          clear hK K
          refine q_run rfl (fun K hK => ?_)
          refine q_value ?_ (fun w' h' => ?_) ?_
          rotate_left
          · go_simp; try with_reducible rfl
          go_simp
          refine hK _ ?_
          clear hK K
          refine q_run rfl (fun K hK => ?_)
          refine q_value ?_ (fun w' h' => ?_) ?_
          rotate_left
          · go_simp; try with_reducible rfl
          go_simp
          refine hK _ ?_
          clear hK K
          refine q_run rfl (fun K hK => ?_)
          refine q_value ?_ (fun w' h' => ?_) ?_
          rotate_left
          · have c := (R.below h').nn hi hoff.out; go_simp; try with_reducible rfl
          go_simp
          refine hK _ ?_
          clear hK K
          refine q_run rfl (fun K hK => ?_)
          refine q_value ?_ (fun w' h' => ?_) ?_
          rotate_left
          · go_simp; try with_reducible rfl
          go_simp
          refine hK _ ?_
          clear hK K
          refine q_run rfl (fun K hK => ?_)
          refine q_value ?_ (fun w' h' => ?_) ?_
          rotate_left
          · go_simp; try with_reducible rfl
          go_simp
          refine hK _ ?_
          clear hK K
          refine qd_nil ?_
          intro w5 h6
          replace X3 := keep X3 h6
          replace X4 := keep X4 h6
          replace R := R.below h6
          replace E := E.below h6
          clear h6
          go_upto_region 3 with (fail)
          refine quiet_all (fun w' => Below w5.heap.size w5 w') (by kernel_rfl) (by kernel_rfl) (Below.drew (Below.refl _ _)) ?_
          refine q_run rfl (fun K hK => ?_)
          refine q_value ?_ (fun w' h' => ?_) ?_
          rotate_left
          · go_simp; try with_reducible rfl
          go_simp
          refine hK _ ?_
          clear hK K
          refine q_run rfl (fun K hK => ?_)
          refine q_value ?_ (fun w' h' => ?_) ?_
          rotate_left
          · have c := cell_of_row w' b3 4 _ 34 _ (keep X3 h'); go_simp; try with_reducible rfl
          go_simp
          refine hK _ ?_
          clear hK K
          refine q_run rfl (fun K hK => ?_)
          refine q_value ?_ (fun w' h' => ?_) ?_
          rotate_left
          · go_simp; try with_reducible rfl
          go_simp
          refine hK _ ?_
          clear hK K
          refine q_run rfl (fun K hK => ?_)
          refine q_value ?_ (fun w' h' => ?_) ?_
          rotate_left
          · go_simp; try with_reducible rfl
          go_simp
          refine hK _ ?_
          clear hK K
          refine q_run rfl (fun K hK => ?_)
          refine q_value ?_ (fun w' h' => ?_) ?_
          rotate_left
          · go_simp; try with_reducible rfl
          go_simp
          refine hK _ ?_
          clear hK K
          refine q_run rfl (fun K hK => ?_)
          refine q_value ?_ (fun w' h' => ?_) ?_
          rotate_left
          · go_simp; try with_reducible rfl
          go_simp
          refine hK _ ?_
          clear hK K
          refine q_run rfl (fun K hK => ?_)
          refine q_value ?_ (fun w' h' => ?_) ?_
          rotate_left
          · go_simp; try with_reducible rfl
          go_simp
          refine hK _ ?_
          clear hK K
          refine q_run rfl (fun K hK => ?_)
          refine q_value ?_ (fun w' h' => ?_) ?_
          rotate_left
          · have c := (R.below h').nn hi hoff.out; go_simp; try with_reducible rfl
          go_simp
          refine hK _ ?_
          clear hK K
          refine q_run rfl (fun K hK => ?_)
          refine q_value ?_ (fun w' h' => ?_) ?_
          rotate_left
          · go_simp; try with_reducible rfl
          go_simp
          refine hK _ ?_
          clear hK K
          refine q_run rfl (fun K hK => ?_)
          refine q_value ?_ (fun w' h' => ?_) ?_
          rotate_left
          · go_simp; try with_reducible rfl
          go_simp
          refine hK _ ?_
          clear hK K
          refine q_run rfl (fun K hK => ?_)
          refine q_value ?_ (fun w' h' => ?_) ?_
          rotate_left
          · go_simp; try with_reducible rfl
          go_simp
          refine hK _ ?_
          clear hK K
          refine qd_nil ?_
          intro w7 h8
          replace X3 := keep X3 h8
          replace X4 := keep X4 h8
          replace R := R.below h8
          replace E := E.below h8
          clear h8
          have y3 := cell_of_row w7 b3 3 _ 34 _ X3
          go_upto_region 7 with (fail)
          refine quiet_all (fun w' => Below w7.heap.size w7 w') (by kernel_rfl) (by kernel_rfl) (Below.drew (Below.refl _ _)) ?_
          refine q_run rfl (fun K hK => ?_)
          refine q_value ?_ (fun w' h' => ?_) ?_
          rotate_left
          · go_simp; try with_reducible rfl
          go_simp
          refine hK _ ?_
          clear hK K
          refine q_run rfl (fun K hK => ?_)
          refine q_value ?_ (fun w' h' => ?_) ?_
          rotate_left
          · go_simp; try with_reducible rfl
          go_simp
          refine hK _ ?_
          clear hK K
          refine q_run rfl (fun K hK => ?_)
          refine q_value ?_ (fun w' h' => ?_) ?_
          rotate_left
          · have c := cell_of_row w' b3 0 _ 34 _ (keep X3 h'); go_simp; try with_reducible rfl
          go_simp
          refine hK _ ?_
          clear hK K
          refine q_run rfl (fun K hK => ?_)
          refine q_value ?_ (fun w' h' => ?_) ?_
          rotate_left
          · go_simp; try with_reducible rfl
          go_simp
          refine hK _ ?_
          clear hK K
          refine q_run rfl (fun K hK => ?_)
          refine q_value ?_ (fun w' h' => ?_) ?_
          rotate_left
          · go_simp; try with_reducible rfl
          go_simp
          refine hK _ ?_
          clear hK K
          refine q_run rfl (fun K hK => ?_)
          refine q_value ?_ (fun w' h' => ?_) ?_
          rotate_left
          · go_simp; try with_reducible rfl
          go_simp
          refine hK _ ?_
          clear hK K
          refine q_run rfl (fun K hK => ?_)
          refine q_value ?_ (fun w' h' => ?_) ?_
          rotate_left
          · have c := (R.below h').cm hi hoff.out hq; go_simp; try with_reducible rfl
          go_simp
          refine hK _ ?_
          clear hK K
          refine q_run rfl (fun K hK => ?_)
          refine q_value ?_ (fun w' h' => ?_) ?_
          rotate_left
          · go_simp; try with_reducible rfl
          go_simp
          refine hK _ ?_
          clear hK K
          refine q_run rfl (fun K hK => ?_)
          refine q_value ?_ (fun w' h' => ?_) ?_
          rotate_left
          · go_simp; try with_reducible rfl
          go_simp
          refine hK _ ?_
          clear hK K
          refine q_run rfl (fun K hK => ?_)
          refine q_value ?_ (fun w' h' => ?_) ?_
          rotate_left
          · have c := cell_of_row w' b3 0 _ 34 _ (keep X3 h'); go_simp; try with_reducible rfl
          go_simp
          refine hK _ ?_
          clear hK K
          refine q_run rfl (fun K hK => ?_)
          refine q_value ?_ (fun w' h' => ?_) ?_
          rotate_left
          · go_simp; try with_reducible rfl
          go_simp
          refine hK _ ?_
          clear hK K
          refine q_run rfl (fun K hK => ?_)
          refine q_value ?_ (fun w' h' => ?_) ?_
          rotate_left
          · go_simp; try with_reducible rfl
          go_simp
          refine hK _ ?_
          clear hK K
          refine q_run rfl (fun K hK => ?_)
          refine q_value ?_ (fun w' h' => ?_) ?_
          rotate_left
          · go_simp; try with_reducible rfl
          go_simp
          refine hK _ ?_
          clear hK K
          refine q_run rfl (fun K hK => ?_)
          refine q_value ?_ (fun w' h' => ?_) ?_
          rotate_left
          · have c := (R.below h').lf hi hoff.out hq; go_simp; try with_reducible rfl
          go_simp
          refine hK _ ?_
          clear hK K
          refine q_run rfl (fun K hK => ?_)
          refine q_value ?_ (fun w' h' => ?_) ?_
          rotate_left
          · go_simp; try with_reducible rfl
          go_simp
          refine hK _ ?_
          clear hK K
          refine qd_nil ?_
          intro w9 h10
          replace X3 := keep X3 h10
          replace X4 := keep X4 h10
          replace R := R.below h10
          replace E := E.below h10
          clear h10
          go_upto_region 8 with (fail)
          refine wp_region_lit ?_
          refine wl_call rfl 18 #[] (ansV 0 none 0 0 false) _ ?_ (notC w9) (fun w11 hd => ?_)
          · first | (go_simp; done) | (go_simp; rfl)
          intro K hK
          go_simp
          refine hK _ _ ?_
          clear hK K
          unfold ansV
          iterate 2
            refine wl_val rfl ?_ ?_ ?_
            rotate_left
            · go_simp; try with_reducible rfl
            intro K hK
            go_simp
            refine hK _ _ ?_
            clear hK K
          refine wl_store rfl 38 (.tmp 4) (.tmp 53) rfl b4 #[.int .u32 0, .slice none 0 0] rfl rfl 38 _ (keep X4 hd) (by kernel_rfl) rfl (by simp [Value.oneCell']) (fun w12 m1 m2 m3 m4 => ?_)
          intro K hK
          go_simp
          refine hK _ _ ?_
          clear hK K
          refine wl_val rfl (.bool false) ?_ ?_
          · go_simp
          intro K hK
          go_simp
          refine hK _ _ ?_
          clear hK K
          have Rf := (R.below hd).keep (m2 g hn4)
          have Ef := (E.below hd).put z4 m2 m3
          go_wp2
          exact ret_ans rfl b4 _ _ _ _ _ rfl rfl rfl m1 ⟨rfl, by rw [updS_same]; exact Rf, Ef⟩
        · obtain rfl : p = ⟨{ S i with come := upF (S i).come q (IntKind.i64.wrap ((S i).come q + 1)) }, 0, true⟩ := by
            rw [hp.out]; unfold barP; rw [if_neg cn, if_neg (not_not_intro ca), if_pos p1, if_neg cl]
          clear hp
          subst p1
          have hw1 : IntKind.u64.wrap (S i).o.n = (S i).o.n := by simp [IntKind.wrap, IntKind.bits, IntKind.signed]; omega
          have hw2 : IntKind.u64.wrap xa = xa := by simp [IntKind.wrap, IntKind.bits, IntKind.signed]; omega
          have qa : (xa != (S i).o.n) = false := by simp [ca]
          clear ca
          go_upto_region 1 with (fail)
          refine quiet_all (fun w' => Below W.heap.size W w') (by kernel_rfl) (by kernel_rfl) (Below.drew (Below.refl _ _)) ?_
          refine q_run rfl (fun K hK => ?_)
          refine q_value ?_ (fun w' h' => ?_) ?_
          rotate_left
          · go_simp; try with_reducible rfl
          go_simp
          refine hK _ ?_
          clear hK K
          refine q_run rfl (fun K hK => ?_)
          refine q_value ?_ (fun w' h' => ?_) ?_
          rotate_left
          · have c := cell_of_row w' b3 0 _ 34 _ (keep X3 h'); go_simp; try with_reducible rfl
          go_simp
          refine hK _ ?_
          clear hK K
          refine q_run rfl (fun K hK => ?_)
          refine q_value ?_ (fun w' h' => ?_) ?_
          rotate_left
          · go_simp; try with_reducible rfl
          go_simp
          refine hK _ ?_
          clear hK K
          refine q_run rfl (fun K hK => ?_)
          refine q_value ?_ (fun w' h' => ?_) ?_
          rotate_left
          · go_simp; try with_reducible rfl
          go_simp
          refine hK _ ?_
          clear hK K
          refine q_run rfl (fun K hK => ?_)
          refine q_value ?_ (fun w' h' => ?_) ?_
          rotate_left
          · go_simp; try with_reducible rfl
          go_simp
          refine hK _ ?_
          clear hK K
          refine q_run rfl (fun K hK => ?_)
          refine q_value ?_ (fun w' h' => ?_) ?_
          rotate_left
          · go_simp; try with_reducible rfl
          go_simp
          refine hK _ ?_
          clear hK K
          refine q_run rfl (fun K hK => ?_)
          refine q_value ?_ (fun w' h' => ?_) ?_
          rotate_left
          · have c := (R.below h').nn hi hoff.out; go_simp; try with_reducible rfl
          go_simp
          refine hK _ ?_
          clear hK K
          refine q_run rfl (fun K hK => ?_)
          refine q_value ?_ (fun w' h' => ?_) ?_
          rotate_left
          · go_simp; try with_reducible rfl
          go_simp
          refine hK _ ?_
          clear hK K
          refine q_run rfl (fun K hK => ?_)
          refine q_value ?_ (fun w' h' => ?_) ?_
          rotate_left
          · go_simp; try with_reducible rfl
          go_simp
          refine hK _ ?_
          clear hK K
          refine qd_nil ?_
          intro w13 h14
          replace X3 := keep X3 h14
          replace X4 := keep X4 h14
          replace R := R.below h14
          replace E := E.below h14
          clear h14
          go_upto_region 3 with (fail)
          refine quiet_all (fun w' => Below w13.heap.size w13 w') (by kernel_rfl) (by kernel_rfl) (Below.drew (Below.refl _ _)) ?_
          refine q_run rfl (fun K hK => ?_)
          refine q_value ?_ (fun w' h' => ?_) ?_
          rotate_left
          · go_simp; try with_reducible rfl
          go_simp
          refine hK _ ?_
          clear hK K
          refine q_run rfl (fun K hK => ?_)
          refine q_value ?_ (fun w' h' => ?_) ?_
          rotate_left
          · have c := cell_of_row w' b3 4 _ 34 _ (keep X3 h'); go_simp; try with_reducible rfl
          go_simp
          refine hK _ ?_
          clear hK K
          refine q_run rfl (fun K hK => ?_)
          refine q_value ?_ (fun w' h' => ?_) ?_
          rotate_left
          · go_simp; try with_reducible rfl
          go_simp
          refine hK _ ?_
          clear hK K
          refine q_run rfl (fun K hK => ?_)
          refine q_value ?_ (fun w' h' => ?_) ?_
          rotate_left
          · go_simp; try with_reducible rfl
          go_simp
          refine hK _ ?_
          clear hK K
          refine q_run rfl (fun K hK => ?_)
          refine q_value ?_ (fun w' h' => ?_) ?_
          rotate_left
          · go_simp; try with_reducible rfl
          go_simp
          refine hK _ ?_
          clear hK K
          refine q_run rfl (fun K hK => ?_)
          refine q_value ?_ (fun w' h' => ?_) ?_
          rotate_left
          · go_simp; try with_reducible rfl
          go_simp
          refine hK _ ?_
          clear hK K
          refine q_run rfl (fun K hK => ?_)
          refine q_value ?_ (fun w' h' => ?_) ?_
          rotate_left
          · go_simp; try with_reducible rfl
          go_simp
          refine hK _ ?_
          clear hK K
          refine q_run rfl (fun K hK => ?_)
          refine q_value ?_ (fun w' h' => ?_) ?_
          rotate_left
          · have c := (R.below h').nn hi hoff.out; go_simp; try with_reducible rfl
          go_simp
          refine hK _ ?_
          clear hK K
          refine q_run rfl (fun K hK => ?_)
          refine q_value ?_ (fun w' h' => ?_) ?_
          rotate_left
          · go_simp; try with_reducible rfl
          go_simp
          refine hK _ ?_
          clear hK K
          refine q_run rfl (fun K hK => ?_)
          refine q_value ?_ (fun w' h' => ?_) ?_
          rotate_left
          · go_simp; try with_reducible rfl
          go_simp
          refine hK _ ?_
          clear hK K
          refine q_run rfl (fun K hK => ?_)
          refine q_value ?_ (fun w' h' => ?_) ?_
          rotate_left
          · go_simp; try with_reducible rfl
          go_simp
          refine hK _ ?_
          clear hK K
          refine qd_nil ?_
          intro w15 h16
          replace X3 := keep X3 h16
          replace X4 := keep X4 h16
          replace R := R.below h16
          replace E := E.below h16
          clear h16
          have y3 := cell_of_row w15 b3 3 _ 34 _ X3
          go_upto_region 7 with (fail)
          refine quiet_all (fun w' => Below w15.heap.size w15 w') (by kernel_rfl) (by kernel_rfl) (Below.drew (Below.refl _ _)) ?_
          refine q_run rfl (fun K hK => ?_)
          refine q_value ?_ (fun w' h' => ?_) ?_
          rotate_left
          · go_simp; try with_reducible rfl
          go_simp
          refine hK _ ?_
          clear hK K
          refine q_run rfl (fun K hK => ?_)
          refine q_value ?_ (fun w' h' => ?_) ?_
          rotate_left
          · go_simp; try with_reducible rfl
          go_simp
          refine hK _ ?_
          clear hK K
          refine q_run rfl (fun K hK => ?_)
          refine q_value ?_ (fun w' h' => ?_) ?_
          rotate_left
          · have c := cell_of_row w' b3 0 _ 34 _ (keep X3 h'); go_simp; try with_reducible rfl
          go_simp
          refine hK _ ?_
          clear hK K
          refine q_run rfl (fun K hK => ?_)
          refine q_value ?_ (fun w' h' => ?_) ?_
          rotate_left
          · go_simp; try with_reducible rfl
          go_simp
          refine hK _ ?_
          clear hK K
          refine q_run rfl (fun K hK => ?_)
          refine q_value ?_ (fun w' h' => ?_) ?_
          rotate_left
          · go_simp; try with_reducible rfl
          go_simp
          refine hK _ ?_
          clear hK K
          refine q_run rfl (fun K hK => ?_)
          refine q_value ?_ (fun w' h' => ?_) ?_
          rotate_left
          · go_simp; try with_reducible rfl
          go_simp
          refine hK _ ?_
          clear hK K
          refine q_run rfl (fun K hK => ?_)
          refine q_value ?_ (fun w' h' => ?_) ?_
          rotate_left
          · have c := (R.below h').cm hi hoff.out hq; go_simp; try with_reducible rfl
          go_simp
          refine hK _ ?_
          clear hK K
          refine q_run rfl (fun K hK => ?_)
          refine q_value ?_ (fun w' h' => ?_) ?_
          rotate_left
          · go_simp; try with_reducible rfl
          go_simp
          refine hK _ ?_
          clear hK K
          refine q_run rfl (fun K hK => ?_)
          refine q_value ?_ (fun w' h' => ?_) ?_
          rotate_left
          · go_simp; try with_reducible rfl
          go_simp
          refine hK _ ?_
          clear hK K
          refine q_run rfl (fun K hK => ?_)
          refine q_value ?_ (fun w' h' => ?_) ?_
          rotate_left
          · have c := cell_of_row w' b3 0 _ 34 _ (keep X3 h'); go_simp; try with_reducible rfl
          go_simp
          refine hK _ ?_
          clear hK K
          refine q_run rfl (fun K hK => ?_)
          refine q_value ?_ (fun w' h' => ?_) ?_
          rotate_left
          · go_simp; try with_reducible rfl
          go_simp
          refine hK _ ?_
          clear hK K
          refine q_run rfl (fun K hK => ?_)
          refine q_value ?_ (fun w' h' => ?_) ?_
          rotate_left
          · go_simp; try with_reducible rfl
          go_simp
          refine hK _ ?_
          clear hK K
          refine q_run rfl (fun K hK => ?_)
          refine q_value ?_ (fun w' h' => ?_) ?_
          rotate_left
          · go_simp; try with_reducible rfl
          go_simp
          refine hK _ ?_
          clear hK K
          refine q_run rfl (fun K hK => ?_)
          refine q_value ?_ (fun w' h' => ?_) ?_
          rotate_left
          · have c := (R.below h').lf hi hoff.out hq; go_simp; try with_reducible rfl
          go_simp
          refine hK _ ?_
          clear hK K
          refine q_run rfl (fun K hK => ?_)
          refine q_value ?_ (fun w' h' => ?_) ?_
          rotate_left
          · go_simp; try with_reducible rfl
          go_simp
          refine hK _ ?_
          clear hK K
          refine qd_nil ?_
          intro w17 h18
          replace X3 := keep X3 h18
          replace X4 := keep X4 h18
          replace R := R.below h18
          replace E := E.below h18
          clear h18
          go_upto_region 9 with (fail)
          refine quiet_tail 11 (fun w' => Below w17.heap.size w17 w') (by kernel_rfl) (by kernel_rfl) (Below.drew (Below.refl _ _)) ?_
          simp only [List.take_succ_cons, List.take_zero, List.drop_succ_cons, List.drop_zero]
          refine q_run rfl (fun K hK => ?_)
          refine q_value ?_ (fun w' h' => ?_) ?_
          rotate_left
          · go_simp; try with_reducible rfl
          go_simp
          refine hK _ ?_
          clear hK K
          refine q_run rfl (fun K hK => ?_)
          refine q_value ?_ (fun w' h' => ?_) ?_
          rotate_left
          · go_simp; try with_reducible rfl
          go_simp
          refine hK _ ?_
          clear hK K
          refine q_run rfl (fun K hK => ?_)
          refine q_value ?_ (fun w' h' => ?_) ?_
          rotate_left
          · have c := cell_of_row w' b3 0 _ 34 _ (keep X3 h'); go_simp; try with_reducible rfl
          go_simp
          refine hK _ ?_
          clear hK K
          refine q_run rfl (fun K hK => ?_)
          refine q_value ?_ (fun w' h' => ?_) ?_
          rotate_left
          · go_simp; try with_reducible rfl
          go_simp
          refine hK _ ?_
          clear hK K
          refine q_run rfl (fun K hK => ?_)
          refine q_value ?_ (fun w' h' => ?_) ?_
          rotate_left
          · go_simp; try with_reducible rfl
          go_simp
          refine hK _ ?_
          clear hK K
          refine q_run rfl (fun K hK => ?_)
          refine q_value ?_ (fun w' h' => ?_) ?_
          rotate_left
          · go_simp; try with_reducible rfl
          go_simp
          refine hK _ ?_
          clear hK K
          refine q_run rfl (fun K hK => ?_)
          refine q_value ?_ (fun w' h' => ?_) ?_
          rotate_left
          · have c := (R.below h').cm hi hoff.out hq; go_simp; try with_reducible rfl
          go_simp
          refine hK _ ?_
          clear hK K
          refine q_run rfl (fun K hK => ?_)
          refine q_value ?_ (fun w' h' => ?_) ?_
          rotate_left
          · go_simp; try with_reducible rfl
          go_simp
          refine hK _ ?_
          clear hK K
          refine q_run rfl (fun K hK => ?_)
          refine q_value ?_ (fun w' h' => ?_) ?_
          rotate_left
          · go_simp; try with_reducible rfl
          go_simp
          refine hK _ ?_
          clear hK K
          refine q_run rfl (fun K hK => ?_)
          refine q_value ?_ (fun w' h' => ?_) ?_
          rotate_left
          · go_simp; try with_reducible rfl
          go_simp
          refine hK _ ?_
          clear hK K
          refine q_run rfl (fun K hK => ?_)
          refine q_value ?_ (fun w' h' => ?_) ?_
          rotate_left
          · go_simp; try with_reducible rfl
          go_simp
          refine hK _ ?_
          clear hK K
          refine qd_nil ?_
          intro w19 h20
          replace X3 := keep X3 h20
          replace X4 := keep X4 h20
          replace R := R.below h20
          replace E := E.below h20
          clear h20
          refine wl_cell rfl 3 (.tmp 65) (.tmp 62) rfl g n i (21 + q) off S { S i with come := upF (S i).come q (IntKind.i64.wrap ((S i).come q + 1)) } (.int .i64 (IntKind.i64.wrap ((S i).come q + 1))) rfl Tryd.sizeOf3 (st_int _) hi (by omega) hoff.out (by rw [← Nat.add_assoc]; rfl) rfl R (cs_cm (S i) hq _) (fun w21 R' E' => ?_)
          intro K hK
          go_simp
          refine hK _ _ ?_
          clear hK K
          replace X3 := (E'.blk b3 (blk_lt X3) (fun e => hn3 e.symm)).trans X3
          replace X4 := (E'.blk b4 (blk_lt X4) (fun e => hn4 e.symm)).trans X4
          replace E := E.trans E'
          replace R := R'
          clear R' E'
          go_upto_region 10 with (fail)
          refine wp_region_lit ?_
          refine wl_call rfl 39 #[] (ansV 0 none 0 0 true) _ ?_ (fineC w21) (fun w22 hd => ?_)
          · first | (go_simp; done) | (go_simp; rfl)
          intro K hK
          go_simp
          refine hK _ _ ?_
          clear hK K
          unfold ansV
          iterate 2
            refine wl_val rfl ?_ ?_ ?_
            rotate_left
            · go_simp; try with_reducible rfl
            intro K hK
            go_simp
            refine hK _ _ ?_
            clear hK K
          refine wl_store rfl 38 (.tmp 4) (.tmp 67) rfl b4 #[.int .u32 0, .slice none 0 0] rfl rfl 38 _ (keep X4 hd) (by kernel_rfl) rfl (by simp [Value.oneCell']) (fun w23 m1 m2 m3 m4 => ?_)
          intro K hK
          go_simp
          refine hK _ _ ?_
          clear hK K
          refine wl_val rfl (.bool true) ?_ ?_
          · go_simp
          intro K hK
          go_simp
          refine hK _ _ ?_
          clear hK K
          have Rf := (R.below hd).keep (m2 g hn4)
          have Ef := (E.below hd).put z4 m2 m3
          go_wp2
          exact ret_ans rfl b4 _ _ _ _ _ rfl rfl rfl m1 ⟨rfl, Rf, Ef⟩
      · by_cases p2 : xp = 2
        · have hB : Hid (p = (if closedB (S i) = true then ⟨S i, 0, false⟩ else ⟨{ S i with opened := IntKind.i64.wrap ((S i).opened + 1) }, 0, true⟩)) := by
            show p = _
            rw [hp.out]; unfold barP; rw [if_neg cn, if_neg (not_not_intro ca), if_neg p1, if_pos p2]
          clear hp
          have ct := fun {t} => closed_t (s := S i) (t := t)
          have cf := closed_f (s := S i)
          generalize closedB (S i) = cb at *
          have q1 : (xp == 1) = false := by simp [p1]
          subst p2
          clear p1 q1
          have hw1 : IntKind.u64.wrap (S i).o.n = (S i).o.n := by simp [IntKind.wrap, IntKind.bits, IntKind.signed]; omega
          have hw2 : IntKind.u64.wrap xa = xa := by simp [IntKind.wrap, IntKind.bits, IntKind.signed]; omega
          have qa : (xa != (S i).o.n) = false := by simp [ca]
          clear ca
          go_upto_region 1 with (fail)
          refine quiet_all (fun w' => Below W.heap.size W w') (by kernel_rfl) (by kernel_rfl) (Below.drew (Below.refl _ _)) ?_
          refine q_run rfl (fun K hK => ?_)
          refine q_value ?_ (fun w' h' => ?_) ?_
          rotate_left
          · go_simp; try with_reducible rfl
          go_simp
          refine hK _ ?_
          clear hK K
          refine q_run rfl (fun K hK => ?_)
          refine q_value ?_ (fun w' h' => ?_) ?_
          rotate_left
          · have c := cell_of_row w' b3 0 _ 34 _ (keep X3 h'); go_simp; try with_reducible rfl
          go_simp
          refine hK _ ?_
          clear hK K
          refine q_run rfl (fun K hK => ?_)
          refine q_value ?_ (fun w' h' => ?_) ?_
          rotate_left
          · go_simp; try with_reducible rfl
          go_simp
          refine hK _ ?_
          clear hK K
          refine q_run rfl (fun K hK => ?_)
          refine q_value ?_ (fun w' h' => ?_) ?_
          rotate_left
          · go_simp; try with_reducible rfl
          go_simp
          refine hK _ ?_
          clear hK K
          refine q_run rfl (fun K hK => ?_)
          refine q_value ?_ (fun w' h' => ?_) ?_
          rotate_left
          · go_simp; try with_reducible rfl
          go_simp
          refine hK _ ?_
          clear hK K
          refine q_run rfl (fun K hK => ?_)
          refine q_value ?_ (fun w' h' => ?_) ?_
          rotate_left
          · go_simp; try with_reducible rfl
          go_simp
          refine hK _ ?_
          clear hK K
          refine q_run rfl (fun K hK => ?_)
          refine q_value ?_ (fun w' h' => ?_) ?_
          rotate_left
          · have c := (R.below h').nn hi hoff.out; go_simp; try with_reducible rfl
          go_simp
          refine hK _ ?_
          clear hK K
          refine q_run rfl (fun K hK => ?_)
          refine q_value ?_ (fun w' h' => ?_) ?_
          rotate_left
          · go_simp; try with_reducible rfl
          go_simp
          refine hK _ ?_
          clear hK K
          refine q_run rfl (fun K hK => ?_)
          refine q_value ?_ (fun w' h' => ?_) ?_
          rotate_left
          · go_simp; try with_reducible rfl
          go_simp
          refine hK _ ?_
          clear hK K
          refine qd_nil ?_
          intro w24 h25
          replace X3 := keep X3 h25
          replace X4 := keep X4 h25
          replace R := R.below h25
          replace E := E.below h25
          clear h25
          go_upto_region 3 with (fail)
          refine quiet_all (fun w' => Below w24.heap.size w24 w') (by kernel_rfl) (by kernel_rfl) (Below.drew (Below.refl _ _)) ?_
          refine q_run rfl (fun K hK => ?_)
          refine q_value ?_ (fun w' h' => ?_) ?_
          rotate_left
          · go_simp; try with_reducible rfl
          go_simp
          refine hK _ ?_
          clear hK K
          refine q_run rfl (fun K hK => ?_)
          refine q_value ?_ (fun w' h' => ?_) ?_
          rotate_left
          · have c := cell_of_row w' b3 4 _ 34 _ (keep X3 h'); go_simp; try with_reducible rfl
          go_simp
          refine hK _ ?_
          clear hK K
          refine q_run rfl (fun K hK => ?_)
          refine q_value ?_ (fun w' h' => ?_) ?_
          rotate_left
          · go_simp; try with_reducible rfl
          go_simp
          refine hK _ ?_
          clear hK K
          refine q_run rfl (fun K hK => ?_)
          refine q_value ?_ (fun w' h' => ?_) ?_
          rotate_left
          · go_simp; try with_reducible rfl
          go_simp
          refine hK _ ?_
          clear hK K
          refine q_run rfl (fun K hK => ?_)
          refine q_value ?_ (fun w' h' => ?_) ?_
          rotate_left
          · go_simp; try with_reducible rfl
          go_simp
          refine hK _ ?_
          clear hK K
          refine q_run rfl (fun K hK => ?_)
          refine q_value ?_ (fun w' h' => ?_) ?_
          rotate_left
          · go_simp; try with_reducible rfl
          go_simp
          refine hK _ ?_
          clear hK K
          refine q_run rfl (fun K hK => ?_)
          refine q_value ?_ (fun w' h' => ?_) ?_
          rotate_left
          · go_simp; try with_reducible rfl
          go_simp
          refine hK _ ?_
          clear hK K
          refine q_run rfl (fun K hK => ?_)
          refine q_value ?_ (fun w' h' => ?_) ?_
          rotate_left
          · have c := (R.below h').nn hi hoff.out; go_simp; try with_reducible rfl
          go_simp
          refine hK _ ?_
          clear hK K
          refine q_run rfl (fun K hK => ?_)
          refine q_value ?_ (fun w' h' => ?_) ?_
          rotate_left
          · go_simp; try with_reducible rfl
          go_simp
          refine hK _ ?_
          clear hK K
          refine q_run rfl (fun K hK => ?_)
          refine q_value ?_ (fun w' h' => ?_) ?_
          rotate_left
          · go_simp; try with_reducible rfl
          go_simp
          refine hK _ ?_
          clear hK K
          refine q_run rfl (fun K hK => ?_)
          refine q_value ?_ (fun w' h' => ?_) ?_
          rotate_left
          · go_simp; try with_reducible rfl
          go_simp
          refine hK _ ?_
          clear hK K
          refine qd_nil ?_
          intro w26 h27
          replace X3 := keep X3 h27
          replace X4 := keep X4 h27
          replace R := R.below h27
          replace E := E.below h27
          clear h27
          have y3 := cell_of_row w26 b3 3 _ 34 _ X3
          have yn := R.nn hi hoff.out
          go_upto_region 13 with (fail)
          clear y3 yn
          obtain ⟨N, hN⟩ : ∃ N : Nat, (S i).o.n = N := ⟨(S i).o.n.toNat, by omega⟩
          rw [hN]
          have hN8 : N ≤ 8 := by omega
          rw [hN] at ct cf
          clear hN hw1 hw2 qa cn
          obtain ⟨v0, ev0⟩ : ∃ x, x = w26 := ⟨_, rfl⟩
          subst ev0
          go_loopw [76] (fun v wr => ∃ k : Nat, v = .int .i64 k ∧ k ≤ N ∧ (∀ j : Nat, j < k → ¬ (S i).come j ≤ (S i).opened) ∧ Below v0.heap.size v0 wr) (fun v _ => N - (intOf v).toNat)
          case atStart => exact ⟨0, rfl, Nat.zero_le _, fun p hp => absurd hp (by omega), Below.refl _ _⟩
          case round =>
            obtain ⟨k, rfl, hk, hpre, hb⟩ := hrel
            replace X3 := keep X3 hb
            replace X4 := keep X4 hb
            replace R := R.below hb
            replace E := E.below hb
            obtain ⟨w77, e77⟩ : ∃ x, x = wr := ⟨_, rfl⟩
            subst e77
            by_cases hlt : k < N
            case neg =>
              have hkn : k = N := by omega
              have hl1 : ¬ ((k : Int) < N) := by omega
              rw [hkn] at hpre
              obtain rfl : cb = false := cf (fun t ht => by have := hpre t (by omega); omega)
              obtain rfl : p = ⟨{ S i with opened := IntKind.i64.wrap ((S i).opened + 1) }, 0, true⟩ := hB.out
              clear ct cf hB hpre
              have yp := R.op hi hoff.out
              go_upto_region 18 with (fail)
              refine wp_region_lit ?_
              iterate 7
                refine wl_val rfl ?_ ?_ ?_
                rotate_left
                · go_simp; try with_reducible rfl
                intro K hK
                go_simp
                refine hK _ _ ?_
                clear hK K
              refine wl_cell rfl 3 (.tmp 100) (.tmp 98) rfl g n i 29 off S { S i with opened := IntKind.i64.wrap ((S i).opened + 1) } (.int .i64 (IntKind.i64.wrap ((S i).opened + 1))) rfl Tryd.sizeOf3 (st_int _) hi (by omega) hoff.out rfl rfl R (cs_op (S i) _) (fun w28 R' E' => ?_)
              intro K hK
              go_simp
              refine hK _ _ ?_
              clear hK K
              replace X3 := (E'.blk b3 (blk_lt X3) (fun e => hn3 e.symm)).trans X3
              replace X4 := (E'.blk b4 (blk_lt X4) (fun e => hn4 e.symm)).trans X4
              replace E := E.trans E'
              replace R := R'
              clear R' E'
              go_upto_region 19 with (fail)
              refine wp_region_lit ?_
              refine wl_call rfl 39 #[] (ansV 0 none 0 0 true) _ ?_ (fineC w28) (fun w29 hd => ?_)
              · first | (go_simp; done) | (go_simp; rfl)
              intro K hK
              go_simp
              refine hK _ _ ?_
              clear hK K
              unfold ansV
              iterate 2
                refine wl_val rfl ?_ ?_ ?_
                rotate_left
                · go_simp; try with_reducible rfl
                intro K hK
                go_simp
                refine hK _ _ ?_
                clear hK K
              refine wl_store rfl 38 (.tmp 4) (.tmp 102) rfl b4 #[.int .u32 0, .slice none 0 0] rfl rfl 38 _ (keep X4 hd) (by kernel_rfl) rfl (by simp [Value.oneCell']) (fun w30 m1 m2 m3 m4 => ?_)
              intro K hK
              go_simp
              refine hK _ _ ?_
              clear hK K
              refine wl_val rfl (.bool true) ?_ ?_
              · go_simp
              intro K hK
              go_simp
              refine hK _ _ ?_
              clear hK K
              have Rf := (R.below hd).keep (m2 g hn4)
              have Ef := (E.below hd).put z4 m2 m3
              go_wp2
              exact ret_ans rfl b4 _ _ _ _ _ rfl rfl rfl m1 ⟨rfl, Rf, Ef⟩
            have hl0 : (0 : Int) ≤ k := by omega
            have hl1 : (k : Int) < N := by omega
            have hl8 : (k : Int) < 8 := by omega
            have hk8 : k < 8 := by omega
            by_cases hc : (S i).come k ≤ (S i).opened
            · obtain rfl : cb = true := ct (t := k) hl1 hc
              obtain rfl : p = ⟨S i, 0, false⟩ := hB.out
              clear ct cf hB hpre
              go_upto_region 15 with (fail)
              refine quiet_all (fun w' => Below w77.heap.size w77 w') (by kernel_rfl) (by kernel_rfl) (Below.drew (Below.refl _ _)) ?_
              refine q_run rfl (fun K hK => ?_)
              refine q_value ?_ (fun w' h' => ?_) ?_
              rotate_left
              · go_simp; try with_reducible rfl
              go_simp
              refine hK _ ?_
              clear hK K
              refine q_run rfl (fun K hK => ?_)
              refine q_value ?_ (fun w' h' => ?_) ?_
              rotate_left
              · go_simp; try with_reducible rfl
              go_simp
              refine hK _ ?_
              clear hK K
              refine q_run rfl (fun K hK => ?_)
              refine q_value ?_ (fun w' h' => ?_) ?_
              rotate_left
              · go_simp; try with_reducible rfl
              go_simp
              refine hK _ ?_
              clear hK K
              refine q_run rfl (fun K hK => ?_)
              refine q_value ?_ (fun w' h' => ?_) ?_
              rotate_left
              · go_simp; try with_reducible rfl
              go_simp
              refine hK _ ?_
              clear hK K
              refine q_run rfl (fun K hK => ?_)
              refine q_value ?_ (fun w' h' => ?_) ?_
              rotate_left
              · go_simp; try with_reducible rfl
              go_simp
              refine hK _ ?_
              clear hK K
              refine q_run rfl (fun K hK => ?_)
              refine q_value ?_ (fun w' h' => ?_) ?_
              rotate_left
              · have c := (R.below h').cm hi hoff.out hk8; go_simp; try with_reducible rfl
              go_simp
              refine hK _ ?_
              clear hK K
              refine q_run rfl (fun K hK => ?_)
              refine q_value ?_ (fun w' h' => ?_) ?_
              rotate_left
              · go_simp; try with_reducible rfl
              go_simp
              refine hK _ ?_
              clear hK K
              refine q_run rfl (fun K hK => ?_)
              refine q_value ?_ (fun w' h' => ?_) ?_
              rotate_left
              · go_simp; try with_reducible rfl
              go_simp
              refine hK _ ?_
              clear hK K
              refine q_run rfl (fun K hK => ?_)
              refine q_value ?_ (fun w' h' => ?_) ?_
              rotate_left
              · go_simp; try with_reducible rfl
              go_simp
              refine hK _ ?_
              clear hK K
              refine q_run rfl (fun K hK => ?_)
              refine q_value ?_ (fun w' h' => ?_) ?_
              rotate_left
              · have c := (R.below h').op hi hoff.out; go_simp; try with_reducible rfl
              go_simp
              refine hK _ ?_
              clear hK K
              refine q_run rfl (fun K hK => ?_)
              refine q_value ?_ (fun w' h' => ?_) ?_
              rotate_left
              · go_simp; try with_reducible rfl
              go_simp
              refine hK _ ?_
              clear hK K
              refine qd_nil ?_
              intro w31 h32
              replace X3 := keep X3 h32
              replace X4 := keep X4 h32
              replace R := R.below h32
              replace E := E.below h32
              clear h32
              go_upto_region 16 with (fail)
              refine wp_region_lit ?_
              refine wl_call rfl 18 #[] (ansV 0 none 0 0 false) _ ?_ (notC w31) (fun w33 hd => ?_)
              · first | (go_simp; done) | (go_simp; rfl)
              intro K hK
              go_simp
              refine hK _ _ ?_
              clear hK K
              unfold ansV
              iterate 2
                refine wl_val rfl ?_ ?_ ?_
                rotate_left
                · go_simp; try with_reducible rfl
                intro K hK
                go_simp
                refine hK _ _ ?_
                clear hK K
              refine wl_store rfl 38 (.tmp 4) (.tmp 91) rfl b4 #[.int .u32 0, .slice none 0 0] rfl rfl 38 _ (keep X4 hd) (by kernel_rfl) rfl (by simp [Value.oneCell']) (fun w34 m1 m2 m3 m4 => ?_)
              intro K hK
              go_simp
              refine hK _ _ ?_
              clear hK K
              refine wl_val rfl (.bool false) ?_ ?_
              · go_simp
              intro K hK
              go_simp
              refine hK _ _ ?_
              clear hK K
              have Rf := (R.below hd).keep (m2 g hn4)
              have Ef := (E.below hd).put z4 m2 m3
              go_wp2
              exact ret_ans rfl b4 _ _ _ _ _ rfl rfl rfl m1 ⟨rfl, by rw [updS_same]; exact Rf, Ef⟩
            · have hpre' : ∀ j : Nat, j < k + 1 → ¬ (S i).come j ≤ (S i).opened := fun j hj => by
                rcases Nat.lt_succ_iff_lt_or_eq.1 hj with h | rfl
                · exact hpre j h
                · exact hc
              clear ct cf hpre
              go_upto_region 15 with (fail)
              refine quiet_all (fun w' => Below w77.heap.size w77 w') (by kernel_rfl) (by kernel_rfl) (Below.drew (Below.refl _ _)) ?_
              refine q_run rfl (fun K hK => ?_)
              refine q_value ?_ (fun w' h' => ?_) ?_
              rotate_left
              · go_simp; try with_reducible rfl
              go_simp
              refine hK _ ?_
              clear hK K
              refine q_run rfl (fun K hK => ?_)
              refine q_value ?_ (fun w' h' => ?_) ?_
              rotate_left
              · go_simp; try with_reducible rfl
              go_simp
              refine hK _ ?_
              clear hK K
              refine q_run rfl (fun K hK => ?_)
              refine q_value ?_ (fun w' h' => ?_) ?_
              rotate_left
              · go_simp; try with_reducible rfl
              go_simp
              refine hK _ ?_
              clear hK K
              refine q_run rfl (fun K hK => ?_)
              refine q_value ?_ (fun w' h' => ?_) ?_
              rotate_left
              · go_simp; try with_reducible rfl
              go_simp
              refine hK _ ?_
              clear hK K
              refine q_run rfl (fun K hK => ?_)
              refine q_value ?_ (fun w' h' => ?_) ?_
              rotate_left
              · go_simp; try with_reducible rfl
              go_simp
              refine hK _ ?_
              clear hK K
              refine q_run rfl (fun K hK => ?_)
              refine q_value ?_ (fun w' h' => ?_) ?_
              rotate_left
              · have c := (R.below h').cm hi hoff.out hk8; go_simp; try with_reducible rfl
              go_simp
              refine hK _ ?_
              clear hK K
              refine q_run rfl (fun K hK => ?_)
              refine q_value ?_ (fun w' h' => ?_) ?_
              rotate_left
              · go_simp; try with_reducible rfl
              go_simp
              refine hK _ ?_
              clear hK K
              refine q_run rfl (fun K hK => ?_)
              refine q_value ?_ (fun w' h' => ?_) ?_
              rotate_left
              · go_simp; try with_reducible rfl
              go_simp
              refine hK _ ?_
              clear hK K
              refine q_run rfl (fun K hK => ?_)
              refine q_value ?_ (fun w' h' => ?_) ?_
              rotate_left
              · go_simp; try with_reducible rfl
              go_simp
              refine hK _ ?_
              clear hK K
              refine q_run rfl (fun K hK => ?_)
              refine q_value ?_ (fun w' h' => ?_) ?_
              rotate_left
              · have c := (R.below h').op hi hoff.out; go_simp; try with_reducible rfl
              go_simp
              refine hK _ ?_
              clear hK K
              refine q_run rfl (fun K hK => ?_)
              refine q_value ?_ (fun w' h' => ?_) ?_
              rotate_left
              · go_simp; try with_reducible rfl
              go_simp
              refine hK _ ?_
              clear hK K
              refine qd_nil ?_
              intro w35 h36
              replace X3 := keep X3 h36
              replace X4 := keep X4 h36
              replace R := R.below h36
              replace E := E.below h36
              replace hb := hb.trans (h36.mono hb.size)
              clear h36
              go_wp2
              go_roundw
              case rel => exact ⟨k + 1, by go_num, by omega, fun j hj => by have := hpre' j hj; omega, hb⟩
              case measure => simp [intOf]; omega
        · by_cases p3 : xp = 3
          · by_cases ce : (S i).come q = (S i).left q
            · obtain rfl : p = ⟨S i, 0, false⟩ := by
                rw [hp.out]; unfold barP; rw [if_neg cn, if_neg (not_not_intro ca), if_neg p1, if_neg p2, if_pos p3, if_pos ce]
              clear hp
              have q1 : (xp == 1) = false := by simp [p1]
              have q2 : (xp == 2) = false := by simp [p2]
              subst p3
              clear p1 p2 q1 q2
              have qe : ((S i).come q == (S i).left q) = true := by simp [ce]
              clear ce
              have hw1 : IntKind.u64.wrap (S i).o.n = (S i).o.n := by simp [IntKind.wrap, IntKind.bits, IntKind.signed]; omega
              have hw2 : IntKind.u64.wrap xa = xa := by simp [IntKind.wrap, IntKind.bits, IntKind.signed]; omega
              have qa : (xa != (S i).o.n) = false := by simp [ca]
              clear ca
              go_upto_region 1 with (fail)
              refine quiet_all (fun w' => Below W.heap.size W w') (by kernel_rfl) (by kernel_rfl) (Below.drew (Below.refl _ _)) ?_
              refine q_run rfl (fun K hK => ?_)
              refine q_value ?_ (fun w' h' => ?_) ?_
              rotate_left
              · go_simp; try with_reducible rfl
              go_simp
              refine hK _ ?_
              clear hK K
              refine q_run rfl (fun K hK => ?_)
              refine q_value ?_ (fun w' h' => ?_) ?_
              rotate_left
              · have c := cell_of_row w' b3 0 _ 34 _ (keep X3 h'); go_simp; try with_reducible rfl
              go_simp
              refine hK _ ?_
              clear hK K
              refine q_run rfl (fun K hK => ?_)
              refine q_value ?_ (fun w' h' => ?_) ?_
              rotate_left
              · go_simp; try with_reducible rfl
              go_simp
              refine hK _ ?_
              clear hK K
              refine q_run rfl (fun K hK => ?_)
              refine q_value ?_ (fun w' h' => ?_) ?_
              rotate_left
              · go_simp; try with_reducible rfl
              go_simp
              refine hK _ ?_
              clear hK K
              refine q_run rfl (fun K hK => ?_)
              refine q_value ?_ (fun w' h' => ?_) ?_
              rotate_left
              · go_simp; try with_reducible rfl
              go_simp
              refine hK _ ?_
              clear hK K
              refine q_run rfl (fun K hK => ?_)
              refine q_value ?_ (fun w' h' => ?_) ?_
              rotate_left
              · go_simp; try with_reducible rfl
              go_simp
              refine hK _ ?_
              clear hK K
              refine q_run rfl (fun K hK => ?_)
              refine q_value ?_ (fun w' h' => ?_) ?_
              rotate_left
              · have c := (R.below h').nn hi hoff.out; go_simp; try with_reducible rfl
              go_simp
              refine hK _ ?_
              clear hK K
              refine q_run rfl (fun K hK => ?_)
              refine q_value ?_ (fun w' h' => ?_) ?_
              rotate_left
              · go_simp; try with_reducible rfl
              go_simp
              refine hK _ ?_
              clear hK K
              refine q_run rfl (fun K hK => ?_)
              refine q_value ?_ (fun w' h' => ?_) ?_
              rotate_left
              · go_simp; try with_reducible rfl
              go_simp
              refine hK _ ?_
              clear hK K
              refine qd_nil ?_
              intro w37 h38
              replace X3 := keep X3 h38
              replace X4 := keep X4 h38
              replace R := R.below h38
              replace E := E.below h38
              clear h38
              go_upto_region 3 with (fail)
              refine quiet_all (fun w' => Below w37.heap.size w37 w') (by kernel_rfl) (by kernel_rfl) (Below.drew (Below.refl _ _)) ?_
              refine q_run rfl (fun K hK => ?_)
              refine q_value ?_ (fun w' h' => ?_) ?_
              rotate_left
              · go_simp; try with_reducible rfl
              go_simp
              refine hK _ ?_
              clear hK K
              refine q_run rfl (fun K hK => ?_)
              refine q_value ?_ (fun w' h' => ?_) ?_
              rotate_left
              · have c := cell_of_row w' b3 4 _ 34 _ (keep X3 h'); go_simp; try with_reducible rfl
              go_simp
              refine hK _ ?_
              clear hK K
              refine q_run rfl (fun K hK => ?_)
              refine q_value ?_ (fun w' h' => ?_) ?_
              rotate_left
              · go_simp; try with_reducible rfl
              go_simp
              refine hK _ ?_
              clear hK K
              refine q_run rfl (fun K hK => ?_)
              refine q_value ?_ (fun w' h' => ?_) ?_
              rotate_left
              · go_simp; try with_reducible rfl
              go_simp
              refine hK _ ?_
              clear hK K
              refine q_run rfl (fun K hK => ?_)
              refine q_value ?_ (fun w' h' => ?_) ?_
              rotate_left
              · go_simp; try with_reducible rfl
              go_simp
              refine hK _ ?_
              clear hK K
              refine q_run rfl (fun K hK => ?_)
              refine q_value ?_ (fun w' h' => ?_) ?_
              rotate_left
              · go_simp; try with_reducible rfl
              go_simp
              refine hK _ ?_
              clear hK K
              refine q_run rfl (fun K hK => ?_)
              refine q_value ?_ (fun w' h' => ?_) ?_
              rotate_left
              · go_simp; try with_reducible rfl
              go_simp
              refine hK _ ?_
              clear hK K
              refine q_run rfl (fun K hK => ?_)
              refine q_value ?_ (fun w' h' => ?_) ?_
              rotate_left
              · have c := (R.below h').nn hi hoff.out; go_simp; try with_reducible rfl
              go_simp
              refine hK _ ?_
              clear hK K
              refine q_run rfl (fun K hK => ?_)
              refine q_value ?_ (fun w' h' => ?_) ?_
              rotate_left
              · go_simp; try with_reducible rfl
              go_simp
              refine hK _ ?_
              clear hK K
              refine q_run rfl (fun K hK => ?_)
              refine q_value ?_ (fun w' h' => ?_) ?_
              rotate_left
              · go_simp; try with_reducible rfl
              go_simp
              refine hK _ ?_
              clear hK K
              refine q_run rfl (fun K hK => ?_)
              refine q_value ?_ (fun w' h' => ?_) ?_
              rotate_left
              · go_simp; try with_reducible rfl
              go_simp
              refine hK _ ?_
              clear hK K
              refine qd_nil ?_
              intro w39 h40
              replace X3 := keep X3 h40
              replace X4 := keep X4 h40
              replace R := R.below h40
              replace E := E.below h40
              clear h40
              have y3 := cell_of_row w39 b3 3 _ 34 _ X3
              go_upto_region 21 with (fail)
              refine quiet_all (fun w' => Below w39.heap.size w39 w') (by kernel_rfl) (by kernel_rfl) (Below.drew (Below.refl _ _)) ?_
              refine q_run rfl (fun K hK => ?_)
              refine q_value ?_ (fun w' h' => ?_) ?_
              rotate_left
              · go_simp; try with_reducible rfl
              go_simp
              refine hK _ ?_
              clear hK K
              refine q_run rfl (fun K hK => ?_)
              refine q_value ?_ (fun w' h' => ?_) ?_
              rotate_left
              · go_simp; try with_reducible rfl
              go_simp
              refine hK _ ?_
              clear hK K
              refine q_run rfl (fun K hK => ?_)
              refine q_value ?_ (fun w' h' => ?_) ?_
              rotate_left
              · have c := cell_of_row w' b3 0 _ 34 _ (keep X3 h'); go_simp; try with_reducible rfl
              go_simp
              refine hK _ ?_
              clear hK K
              refine q_run rfl (fun K hK => ?_)
              refine q_value ?_ (fun w' h' => ?_) ?_
              rotate_left
              · go_simp; try with_reducible rfl
              go_simp
              refine hK _ ?_
              clear hK K
              refine q_run rfl (fun K hK => ?_)
              refine q_value ?_ (fun w' h' => ?_) ?_
              rotate_left
              · go_simp; try with_reducible rfl
              go_simp
              refine hK _ ?_
              clear hK K
              refine q_run rfl (fun K hK => ?_)
              refine q_value ?_ (fun w' h' => ?_) ?_
              rotate_left
              · go_simp; try with_reducible rfl
              go_simp
              refine hK _ ?_
              clear hK K
              refine q_run rfl (fun K hK => ?_)
              refine q_value ?_ (fun w' h' => ?_) ?_
              rotate_left
              · have c := (R.below h').cm hi hoff.out hq; go_simp; try with_reducible rfl
              go_simp
              refine hK _ ?_
              clear hK K
              refine q_run rfl (fun K hK => ?_)
              refine q_value ?_ (fun w' h' => ?_) ?_
              rotate_left
              · go_simp; try with_reducible rfl
              go_simp
              refine hK _ ?_
              clear hK K
              refine q_run rfl (fun K hK => ?_)
              refine q_value ?_ (fun w' h' => ?_) ?_
              rotate_left
              · go_simp; try with_reducible rfl
              go_simp
              refine hK _ ?_
              clear hK K
              refine q_run rfl (fun K hK => ?_)
              refine q_value ?_ (fun w' h' => ?_) ?_
              rotate_left
              · have c := cell_of_row w' b3 0 _ 34 _ (keep X3 h'); go_simp; try with_reducible rfl
              go_simp
              refine hK _ ?_
              clear hK K
              refine q_run rfl (fun K hK => ?_)
              refine q_value ?_ (fun w' h' => ?_) ?_
              rotate_left
              · go_simp; try with_reducible rfl
              go_simp
              refine hK _ ?_
              clear hK K
              refine q_run rfl (fun K hK => ?_)
              refine q_value ?_ (fun w' h' => ?_) ?_
              rotate_left
              · go_simp; try with_reducible rfl
              go_simp
              refine hK _ ?_
              clear hK K
              refine q_run rfl (fun K hK => ?_)
              refine q_value ?_ (fun w' h' => ?_) ?_
              rotate_left
              · go_simp; try with_reducible rfl
              go_simp
              refine hK _ ?_
              clear hK K
              refine q_run rfl (fun K hK => ?_)
              refine q_value ?_ (fun w' h' => ?_) ?_
              rotate_left
              · have c := (R.below h').lf hi hoff.out hq; go_simp; try with_reducible rfl
              go_simp
              refine hK _ ?_
              clear hK K
              refine q_run rfl (fun K hK => ?_)
              refine q_value ?_ (fun w' h' => ?_) ?_
              rotate_left
              · go_simp; try with_reducible rfl
              go_simp
              refine hK _ ?_
              clear hK K
              refine q_run rfl (fun K hK => ?_)
              refine q_value ?_ (fun w' h' => ?_) ?_
              rotate_left
              · go_simp; try with_reducible rfl
              go_simp
              refine hK _ ?_
              clear hK K
              refine q_skip rfl (fun K hK => ?_)
              go_simp
              refine hK _ ?_
              clear hK K
              refine q_skip rfl (fun K hK => ?_)
              go_simp
              refine hK _ ?_
              clear hK K
              refine q_skip rfl (fun K hK => ?_)
              go_simp
              refine hK _ ?_
              clear hK K
              refine q_skip rfl (fun K hK => ?_)
              go_simp
              refine hK _ ?_
              clear hK K
              refine q_skip rfl (fun K hK => ?_)
              go_simp
              refine hK _ ?_
              clear hK K
              refine q_skip rfl (fun K hK => ?_)
              go_simp
              refine hK _ ?_
              clear hK K
              refine q_skip rfl (fun K hK => ?_)
              go_simp
              refine hK _ ?_
              clear hK K
              refine q_skip rfl (fun K hK => ?_)
              go_simp
              refine hK _ ?_
              clear hK K
              refine q_skip rfl (fun K hK => ?_)
              go_simp
              refine hK _ ?_
              clear hK K
              refine q_skip rfl (fun K hK => ?_)
              go_simp
              refine hK _ ?_
              clear hK K
              refine q_skip rfl (fun K hK => ?_)
              go_simp
              refine hK _ ?_
              clear hK K
              refine q_skip rfl (fun K hK => ?_)
              go_simp
              refine hK _ ?_
              clear hK K
              refine q_run rfl (fun K hK => ?_)
              refine q_value ?_ (fun w' h' => ?_) ?_
              rotate_left
              · go_simp; try with_reducible rfl
              go_simp
              refine hK _ ?_
              clear hK K
              refine qd_nil ?_
              intro w41 h42
              replace X3 := keep X3 h42
              replace X4 := keep X4 h42
              replace R := R.below h42
              replace E := E.below h42
              clear h42
              go_upto_region 22 with (fail)
              refine wp_region_lit ?_
              refine wl_call rfl 18 #[] (ansV 0 none 0 0 false) _ ?_ (notC w41) (fun w43 hd => ?_)
              · first | (go_simp; done) | (go_simp; rfl)
              intro K hK
              go_simp
              refine hK _ _ ?_
              clear hK K
              unfold ansV
              iterate 2
                refine wl_val rfl ?_ ?_ ?_
                rotate_left
                · go_simp; try with_reducible rfl
                intro K hK
                go_simp
                refine hK _ _ ?_
                clear hK K
              refine wl_store rfl 38 (.tmp 4) (.tmp 136) rfl b4 #[.int .u32 0, .slice none 0 0] rfl rfl 38 _ (keep X4 hd) (by kernel_rfl) rfl (by simp [Value.oneCell']) (fun w44 m1 m2 m3 m4 => ?_)
              intro K hK
              go_simp
              refine hK _ _ ?_
              clear hK K
              refine wl_val rfl (.bool false) ?_ ?_
              · go_simp
              intro K hK
              go_simp
              refine hK _ _ ?_
              clear hK K
              have Rf := (R.below hd).keep (m2 g hn4)
              have Ef := (E.below hd).put z4 m2 m3
              go_wp2
              exact ret_ans rfl b4 _ _ _ _ _ rfl rfl rfl m1 ⟨rfl, by rw [updS_same]; exact Rf, Ef⟩
            · by_cases cu : (S i).opened < (S i).come q
              · obtain rfl : p = ⟨S i, 0, false⟩ := by
                  rw [hp.out]; unfold barP; rw [if_neg cn, if_neg (not_not_intro ca), if_neg p1, if_neg p2, if_pos p3, if_neg ce, if_pos cu]
                clear hp
                have q1 : (xp == 1) = false := by simp [p1]
                have q2 : (xp == 2) = false := by simp [p2]
                subst p3
                clear p1 p2 q1 q2
                have qe : ((S i).come q == (S i).left q) = false := by simp [ce]
                clear ce
                have hw1 : IntKind.u64.wrap (S i).o.n = (S i).o.n := by simp [IntKind.wrap, IntKind.bits, IntKind.signed]; omega
                have hw2 : IntKind.u64.wrap xa = xa := by simp [IntKind.wrap, IntKind.bits, IntKind.signed]; omega
                have qa : (xa != (S i).o.n) = false := by simp [ca]
                clear ca
                go_upto_region 1 with (fail)
                refine quiet_all (fun w' => Below W.heap.size W w') (by kernel_rfl) (by kernel_rfl) (Below.drew (Below.refl _ _)) ?_
                refine q_run rfl (fun K hK => ?_)
                refine q_value ?_ (fun w' h' => ?_) ?_
                rotate_left
                · go_simp; try with_reducible rfl
                go_simp
                refine hK _ ?_
                clear hK K
                refine q_run rfl (fun K hK => ?_)
                refine q_value ?_ (fun w' h' => ?_) ?_
                rotate_left
                · have c := cell_of_row w' b3 0 _ 34 _ (keep X3 h'); go_simp; try with_reducible rfl
                go_simp
                refine hK _ ?_
                clear hK K
                refine q_run rfl (fun K hK => ?_)
                refine q_value ?_ (fun w' h' => ?_) ?_
                rotate_left
                · go_simp; try with_reducible rfl
                go_simp
                refine hK _ ?_
                clear hK K
                refine q_run rfl (fun K hK => ?_)
                refine q_value ?_ (fun w' h' => ?_) ?_
                rotate_left
                · go_simp; try with_reducible rfl
                go_simp
                refine hK _ ?_
                clear hK K
                refine q_run rfl (fun K hK => ?_)
                refine q_value ?_ (fun w' h' => ?_) ?_
                rotate_left
                · go_simp; try with_reducible rfl
                go_simp
                refine hK _ ?_
                clear hK K
                refine q_run rfl (fun K hK => ?_)
                refine q_value ?_ (fun w' h' => ?_) ?_
                rotate_left
                · go_simp; try with_reducible rfl
                go_simp
                refine hK _ ?_
                clear hK K
                refine q_run rfl (fun K hK => ?_)
                refine q_value ?_ (fun w' h' => ?_) ?_
                rotate_left
                · have c := (R.below h').nn hi hoff.out; go_simp; try with_reducible rfl
                go_simp
                refine hK _ ?_
                clear hK K
                refine q_run rfl (fun K hK => ?_)
                refine q_value ?_ (fun w' h' => ?_) ?_
                rotate_left
                · go_simp; try with_reducible rfl
                go_simp
                refine hK _ ?_
                clear hK K
                refine q_run rfl (fun K hK => ?_)
                refine q_value ?_ (fun w' h' => ?_) ?_
                rotate_left
                · go_simp; try with_reducible rfl
                go_simp
                refine hK _ ?_
                clear hK K
                refine qd_nil ?_
                intro w45 h46
                replace X3 := keep X3 h46
                replace X4 := keep X4 h46
                replace R := R.below h46
                replace E := E.below h46
                clear h46
                go_upto_region 3 with (fail)
                refine quiet_all (fun w' => Below w45.heap.size w45 w') (by kernel_rfl) (by kernel_rfl) (Below.drew (Below.refl _ _)) ?_
                refine q_run rfl (fun K hK => ?_)
                refine q_value ?_ (fun w' h' => ?_) ?_
                rotate_left
                · go_simp; try with_reducible rfl
                go_simp
                refine hK _ ?_
                clear hK K
                refine q_run rfl (fun K hK => ?_)
                refine q_value ?_ (fun w' h' => ?_) ?_
                rotate_left
                · have c := cell_of_row w' b3 4 _ 34 _ (keep X3 h'); go_simp; try with_reducible rfl
                go_simp
                refine hK _ ?_
                clear hK K
                refine q_run rfl (fun K hK => ?_)
                refine q_value ?_ (fun w' h' => ?_) ?_
                rotate_left
                · go_simp; try with_reducible rfl
                go_simp
                refine hK _ ?_
                clear hK K
                refine q_run rfl (fun K hK => ?_)
                refine q_value ?_ (fun w' h' => ?_) ?_
                rotate_left
                · go_simp; try with_reducible rfl
                go_simp
                refine hK _ ?_
                clear hK K
                refine q_run rfl (fun K hK => ?_)
                refine q_value ?_ (fun w' h' => ?_) ?_
                rotate_left
                · go_simp; try with_reducible rfl
                go_simp
                refine hK _ ?_
                clear hK K
                refine q_run rfl (fun K hK => ?_)
                refine q_value ?_ (fun w' h' => ?_) ?_
                rotate_left
                · go_simp; try with_reducible rfl
                go_simp
                refine hK _ ?_
                clear hK K
                refine q_run rfl (fun K hK => ?_)
                refine q_value ?_ (fun w' h' => ?_) ?_
                rotate_left
                · go_simp; try with_reducible rfl
                go_simp
                refine hK _ ?_
                clear hK K
                refine q_run rfl (fun K hK => ?_)
                refine q_value ?_ (fun w' h' => ?_) ?_
                rotate_left
                · have c := (R.below h').nn hi hoff.out; go_simp; try with_reducible rfl
                go_simp
                refine hK _ ?_
                clear hK K
                refine q_run rfl (fun K hK => ?_)
                refine q_value ?_ (fun w' h' => ?_) ?_
                rotate_left
                · go_simp; try with_reducible rfl
                go_simp
                refine hK _ ?_
                clear hK K
                refine q_run rfl (fun K hK => ?_)
                refine q_value ?_ (fun w' h' => ?_) ?_
                rotate_left
                · go_simp; try with_reducible rfl
                go_simp
                refine hK _ ?_
                clear hK K
                refine q_run rfl (fun K hK => ?_)
                refine q_value ?_ (fun w' h' => ?_) ?_
                rotate_left
                · go_simp; try with_reducible rfl
                go_simp
                refine hK _ ?_
                clear hK K
                refine qd_nil ?_
                intro w47 h48
                replace X3 := keep X3 h48
                replace X4 := keep X4 h48
                replace R := R.below h48
                replace E := E.below h48
                clear h48
                have y3 := cell_of_row w47 b3 3 _ 34 _ X3
                go_upto_region 21 with (fail)
                refine quiet_all (fun w' => Below w47.heap.size w47 w') (by kernel_rfl) (by kernel_rfl) (Below.drew (Below.refl _ _)) ?_
                refine q_run rfl (fun K hK => ?_)
                refine q_value ?_ (fun w' h' => ?_) ?_
                rotate_left
                · go_simp; try with_reducible rfl
                go_simp
                refine hK _ ?_
                clear hK K
                refine q_run rfl (fun K hK => ?_)
                refine q_value ?_ (fun w' h' => ?_) ?_
                rotate_left
                · go_simp; try with_reducible rfl
                go_simp
                refine hK _ ?_
                clear hK K
                refine q_run rfl (fun K hK => ?_)
                refine q_value ?_ (fun w' h' => ?_) ?_
                rotate_left
                · have c := cell_of_row w' b3 0 _ 34 _ (keep X3 h'); go_simp; try with_reducible rfl
                go_simp
                refine hK _ ?_
                clear hK K
                refine q_run rfl (fun K hK => ?_)
                refine q_value ?_ (fun w' h' => ?_) ?_
                rotate_left
                · go_simp; try with_reducible rfl
                go_simp
                refine hK _ ?_
                clear hK K
                refine q_run rfl (fun K hK => ?_)
                refine q_value ?_ (fun w' h' => ?_) ?_
                rotate_left
                · go_simp; try with_reducible rfl
                go_simp
                refine hK _ ?_
                clear hK K
                refine q_run rfl (fun K hK => ?_)
                refine q_value ?_ (fun w' h' => ?_) ?_
                rotate_left
                · go_simp; try with_reducible rfl
                go_simp
                refine hK _ ?_
                clear hK K
                refine q_run rfl (fun K hK => ?_)
                refine q_value ?_ (fun w' h' => ?_) ?_
                rotate_left
                · have c := (R.below h').cm hi hoff.out hq; go_simp; try with_reducible rfl
                go_simp
                refine hK _ ?_
                clear hK K
                refine q_run rfl (fun K hK => ?_)
                refine q_value ?_ (fun w' h' => ?_) ?_
                rotate_left
                · go_simp; try with_reducible rfl
                go_simp
                refine hK _ ?_
                clear hK K
                refine q_run rfl (fun K hK => ?_)
                refine q_value ?_ (fun w' h' => ?_) ?_
                rotate_left
                · go_simp; try with_reducible rfl
                go_simp
                refine hK _ ?_
                clear hK K
                refine q_run rfl (fun K hK => ?_)
                refine q_value ?_ (fun w' h' => ?_) ?_
                rotate_left
                · have c := cell_of_row w' b3 0 _ 34 _ (keep X3 h'); go_simp; try with_reducible rfl
                go_simp
                refine hK _ ?_
                clear hK K
                refine q_run rfl (fun K hK => ?_)
                refine q_value ?_ (fun w' h' => ?_) ?_
                rotate_left
                · go_simp; try with_reducible rfl
                go_simp
                refine hK _ ?_
                clear hK K
                refine q_run rfl (fun K hK => ?_)
                refine q_value ?_ (fun w' h' => ?_) ?_
                rotate_left
                · go_simp; try with_reducible rfl
                go_simp
                refine hK _ ?_
                clear hK K
                refine q_run rfl (fun K hK => ?_)
                refine q_value ?_ (fun w' h' => ?_) ?_
                rotate_left
                · go_simp; try with_reducible rfl
                go_simp
                refine hK _ ?_
                clear hK K
                refine q_run rfl (fun K hK => ?_)
                refine q_value ?_ (fun w' h' => ?_) ?_
                rotate_left
                · have c := (R.below h').lf hi hoff.out hq; go_simp; try with_reducible rfl
                go_simp
                refine hK _ ?_
                clear hK K
                refine q_run rfl (fun K hK => ?_)
                refine q_value ?_ (fun w' h' => ?_) ?_
                rotate_left
                · go_simp; try with_reducible rfl
                go_simp
                refine hK _ ?_
                clear hK K
                refine q_run rfl (fun K hK => ?_)
                refine q_value ?_ (fun w' h' => ?_) ?_
                rotate_left
                · go_simp; try with_reducible rfl
                go_simp
                refine hK _ ?_
                clear hK K
                refine q_run rfl (fun K hK => ?_)
                refine q_value ?_ (fun w' h' => ?_) ?_
                rotate_left
                · go_simp; try with_reducible rfl
                go_simp
                refine hK _ ?_
                clear hK K
                refine q_run rfl (fun K hK => ?_)
                refine q_value ?_ (fun w' h' => ?_) ?_
                rotate_left
                · go_simp; try with_reducible rfl
                go_simp
                refine hK _ ?_
                clear hK K
                refine q_run rfl (fun K hK => ?_)
                refine q_value ?_ (fun w' h' => ?_) ?_
                rotate_left
                · go_simp; try with_reducible rfl
                go_simp
                refine hK _ ?_
                clear hK K
                refine q_run rfl (fun K hK => ?_)
                refine q_value ?_ (fun w' h' => ?_) ?_
                rotate_left
                · have c := (R.below h').op hi hoff.out; go_simp; try with_reducible rfl
                go_simp
                refine hK _ ?_
                clear hK K
                refine q_run rfl (fun K hK => ?_)
                refine q_value ?_ (fun w' h' => ?_) ?_
                rotate_left
                · go_simp; try with_reducible rfl
                go_simp
                refine hK _ ?_
                clear hK K
                refine q_run rfl (fun K hK => ?_)
                refine q_value ?_ (fun w' h' => ?_) ?_
                rotate_left
                · go_simp; try with_reducible rfl
                go_simp
                refine hK _ ?_
                clear hK K
                refine q_run rfl (fun K hK => ?_)
                refine q_value ?_ (fun w' h' => ?_) ?_
                rotate_left
                · have c := cell_of_row w' b3 0 _ 34 _ (keep X3 h'); go_simp; try with_reducible rfl
                go_simp
                refine hK _ ?_
                clear hK K
                refine q_run rfl (fun K hK => ?_)
                refine q_value ?_ (fun w' h' => ?_) ?_
                rotate_left
                · go_simp; try with_reducible rfl
                go_simp
                refine hK _ ?_
                clear hK K
                refine q_run rfl (fun K hK => ?_)
                refine q_value ?_ (fun w' h' => ?_) ?_
                rotate_left
                · go_simp; try with_reducible rfl
                go_simp
                refine hK _ ?_
                clear hK K
                refine q_run rfl (fun K hK => ?_)
                refine q_value ?_ (fun w' h' => ?_) ?_
                rotate_left
                · go_simp; try with_reducible rfl
                go_simp
                refine hK _ ?_
                clear hK K
                refine q_run rfl (fun K hK => ?_)
                refine q_value ?_ (fun w' h' => ?_) ?_
                rotate_left
                · have c := (R.below h').cm hi hoff.out hq; go_simp; try with_reducible rfl
                go_simp
                refine hK _ ?_
                clear hK K
                refine q_run rfl (fun K hK => ?_)
                refine q_value ?_ (fun w' h' => ?_) ?_
                rotate_left
                · go_simp; try with_reducible rfl
                go_simp
                refine hK _ ?_
                clear hK K
                refine q_run rfl (fun K hK => ?_)
                refine q_value ?_ (fun w' h' => ?_) ?_
                rotate_left
                · go_simp; try with_reducible rfl
                go_simp
                refine hK _ ?_
                clear hK K
                refine qd_nil ?_
                intro w49 h50
                replace X3 := keep X3 h50
                replace X4 := keep X4 h50
                replace R := R.below h50
                replace E := E.below h50
                clear h50
                go_upto_region 22 with (fail)
                refine wp_region_lit ?_
                refine wl_call rfl 18 #[] (ansV 0 none 0 0 false) _ ?_ (notC w49) (fun w51 hd => ?_)
                · first | (go_simp; done) | (go_simp; rfl)
                intro K hK
                go_simp
                refine hK _ _ ?_
                clear hK K
                unfold ansV
                iterate 2
                  refine wl_val rfl ?_ ?_ ?_
                  rotate_left
                  · go_simp; try with_reducible rfl
                  intro K hK
                  go_simp
                  refine hK _ _ ?_
                  clear hK K
                refine wl_store rfl 38 (.tmp 4) (.tmp 136) rfl b4 #[.int .u32 0, .slice none 0 0] rfl rfl 38 _ (keep X4 hd) (by kernel_rfl) rfl (by simp [Value.oneCell']) (fun w52 m1 m2 m3 m4 => ?_)
                intro K hK
                go_simp
                refine hK _ _ ?_
                clear hK K
                refine wl_val rfl (.bool false) ?_ ?_
                · go_simp
                intro K hK
                go_simp
                refine hK _ _ ?_
                clear hK K
                have Rf := (R.below hd).keep (m2 g hn4)
                have Ef := (E.below hd).put z4 m2 m3
                go_wp2
                exact ret_ans rfl b4 _ _ _ _ _ rfl rfl rfl m1 ⟨rfl, by rw [updS_same]; exact Rf, Ef⟩
              · obtain rfl : p = ⟨{ S i with left := upF (S i).left q (IntKind.i64.wrap ((S i).left q + 1)) }, 0, true⟩ := by
                  rw [hp.out]; unfold barP; rw [if_neg cn, if_neg (not_not_intro ca), if_neg p1, if_neg p2, if_pos p3, if_neg ce, if_neg cu]
                clear hp
                have q1 : (xp == 1) = false := by simp [p1]
                have q2 : (xp == 2) = false := by simp [p2]
                subst p3
                clear p1 p2 q1 q2
                have qe : ((S i).come q == (S i).left q) = false := by simp [ce]
                clear ce
                have hw1 : IntKind.u64.wrap (S i).o.n = (S i).o.n := by simp [IntKind.wrap, IntKind.bits, IntKind.signed]; omega
                have hw2 : IntKind.u64.wrap xa = xa := by simp [IntKind.wrap, IntKind.bits, IntKind.signed]; omega
                have qa : (xa != (S i).o.n) = false := by simp [ca]
                clear ca
                go_upto_region 1 with (fail)
                refine quiet_all (fun w' => Below W.heap.size W w') (by kernel_rfl) (by kernel_rfl) (Below.drew (Below.refl _ _)) ?_
                refine q_run rfl (fun K hK => ?_)
                refine q_value ?_ (fun w' h' => ?_) ?_
                rotate_left
                · go_simp; try with_reducible rfl
                go_simp
                refine hK _ ?_
                clear hK K
                refine q_run rfl (fun K hK => ?_)
                refine q_value ?_ (fun w' h' => ?_) ?_
                rotate_left
                · have c := cell_of_row w' b3 0 _ 34 _ (keep X3 h'); go_simp; try with_reducible rfl
                go_simp
                refine hK _ ?_
                clear hK K
                refine q_run rfl (fun K hK => ?_)
                refine q_value ?_ (fun w' h' => ?_) ?_
                rotate_left
                · go_simp; try with_reducible rfl
                go_simp
                refine hK _ ?_
                clear hK K
                refine q_run rfl (fun K hK => ?_)
                refine q_value ?_ (fun w' h' => ?_) ?_
                rotate_left
                · go_simp; try with_reducible rfl
                go_simp
                refine hK _ ?_
                clear hK K
                refine q_run rfl (fun K hK => ?_)
                refine q_value ?_ (fun w' h' => ?_) ?_
                rotate_left
                · go_simp; try with_reducible rfl
                go_simp
                refine hK _ ?_
                clear hK K
                refine q_run rfl (fun K hK => ?_)
                refine q_value ?_ (fun w' h' => ?_) ?_
                rotate_left
                · go_simp; try with_reducible rfl
                go_simp
                refine hK _ ?_
                clear hK K
                refine q_run rfl (fun K hK => ?_)
                refine q_value ?_ (fun w' h' => ?_) ?_
                rotate_left
                · have c := (R.below h').nn hi hoff.out; go_simp; try with_reducible rfl
                go_simp
                refine hK _ ?_
                clear hK K
                refine q_run rfl (fun K hK => ?_)
                refine q_value ?_ (fun w' h' => ?_) ?_
                rotate_left
                · go_simp; try with_reducible rfl
                go_simp
                refine hK _ ?_
                clear hK K
                refine q_run rfl (fun K hK => ?_)
                refine q_value ?_ (fun w' h' => ?_) ?_
                rotate_left
                · go_simp; try with_reducible rfl
                go_simp
                refine hK _ ?_
                clear hK K
                refine qd_nil ?_
                intro w53 h54
                replace X3 := keep X3 h54
                replace X4 := keep X4 h54
                replace R := R.below h54
                replace E := E.below h54
                clear h54
                go_upto_region 3 with (fail)
                refine quiet_all (fun w' => Below w53.heap.size w53 w') (by kernel_rfl) (by kernel_rfl) (Below.drew (Below.refl _ _)) ?_
                refine q_run rfl (fun K hK => ?_)
                refine q_value ?_ (fun w' h' => ?_) ?_
                rotate_left
                · go_simp; try with_reducible rfl
                go_simp
                refine hK _ ?_
                clear hK K
                refine q_run rfl (fun K hK => ?_)
                refine q_value ?_ (fun w' h' => ?_) ?_
                rotate_left
                · have c := cell_of_row w' b3 4 _ 34 _ (keep X3 h'); go_simp; try with_reducible rfl
                go_simp
                refine hK _ ?_
                clear hK K
                refine q_run rfl (fun K hK => ?_)
                refine q_value ?_ (fun w' h' => ?_) ?_
                rotate_left
                · go_simp; try with_reducible rfl
                go_simp
                refine hK _ ?_
                clear hK K
                refine q_run rfl (fun K hK => ?_)
                refine q_value ?_ (fun w' h' => ?_) ?_
                rotate_left
                · go_simp; try with_reducible rfl
                go_simp
                refine hK _ ?_
                clear hK K
                refine q_run rfl (fun K hK => ?_)
                refine q_value ?_ (fun w' h' => ?_) ?_
                rotate_left
                · go_simp; try with_reducible rfl
                go_simp
                refine hK _ ?_
                clear hK K
                refine q_run rfl (fun K hK => ?_)
                refine q_value ?_ (fun w' h' => ?_) ?_
                rotate_left
                · go_simp; try with_reducible rfl
                go_simp
                refine hK _ ?_
                clear hK K
                refine q_run rfl (fun K hK => ?_)
                refine q_value ?_ (fun w' h' => ?_) ?_
                rotate_left
                · go_simp; try with_reducible rfl
                go_simp
                refine hK _ ?_
                clear hK K
                refine q_run rfl (fun K hK => ?_)
                refine q_value ?_ (fun w' h' => ?_) ?_
                rotate_left
                · have c := (R.below h').nn hi hoff.out; go_simp; try with_reducible rfl
                go_simp
                refine hK _ ?_
                clear hK K
                refine q_run rfl (fun K hK => ?_)
                refine q_value ?_ (fun w' h' => ?_) ?_
                rotate_left
                · go_simp; try with_reducible rfl
                go_simp
                refine hK _ ?_
                clear hK K
                refine q_run rfl (fun K hK => ?_)
                refine q_value ?_ (fun w' h' => ?_) ?_
                rotate_left
                · go_simp; try with_reducible rfl
                go_simp
                refine hK _ ?_
                clear hK K
                refine q_run rfl (fun K hK => ?_)
                refine q_value ?_ (fun w' h' => ?_) ?_
                rotate_left
                · go_simp; try with_reducible rfl
                go_simp
                refine hK _ ?_
                clear hK K
                refine qd_nil ?_
                intro w55 h56
                replace X3 := keep X3 h56
                replace X4 := keep X4 h56
                replace R := R.below h56
                replace E := E.below h56
                clear h56
                have y3 := cell_of_row w55 b3 3 _ 34 _ X3
                go_upto_region 21 with (fail)
                refine quiet_all (fun w' => Below w55.heap.size w55 w') (by kernel_rfl) (by kernel_rfl) (Below.drew (Below.refl _ _)) ?_
                refine q_run rfl (fun K hK => ?_)
                refine q_value ?_ (fun w' h' => ?_) ?_
                rotate_left
                · go_simp; try with_reducible rfl
                go_simp
                refine hK _ ?_
                clear hK K
                refine q_run rfl (fun K hK => ?_)
                refine q_value ?_ (fun w' h' => ?_) ?_
                rotate_left
                · go_simp; try with_reducible rfl
                go_simp
                refine hK _ ?_
                clear hK K
                refine q_run rfl (fun K hK => ?_)
                refine q_value ?_ (fun w' h' => ?_) ?_
                rotate_left
                · have c := cell_of_row w' b3 0 _ 34 _ (keep X3 h'); go_simp; try with_reducible rfl
                go_simp
                refine hK _ ?_
                clear hK K
                refine q_run rfl (fun K hK => ?_)
                refine q_value ?_ (fun w' h' => ?_) ?_
                rotate_left
                · go_simp; try with_reducible rfl
                go_simp
                refine hK _ ?_
                clear hK K
                refine q_run rfl (fun K hK => ?_)
                refine q_value ?_ (fun w' h' => ?_) ?_
                rotate_left
                · go_simp; try with_reducible rfl
                go_simp
                refine hK _ ?_
                clear hK K
                refine q_run rfl (fun K hK => ?_)
                refine q_value ?_ (fun w' h' => ?_) ?_
                rotate_left
                · go_simp; try with_reducible rfl
                go_simp
                refine hK _ ?_
                clear hK K
                refine q_run rfl (fun K hK => ?_)
                refine q_value ?_ (fun w' h' => ?_) ?_
                rotate_left
                · have c := (R.below h').cm hi hoff.out hq; go_simp; try with_reducible rfl
                go_simp
                refine hK _ ?_
                clear hK K
                refine q_run rfl (fun K hK => ?_)
                refine q_value ?_ (fun w' h' => ?_) ?_
                rotate_left
                · go_simp; try with_reducible rfl
                go_simp
                refine hK _ ?_
                clear hK K
                refine q_run rfl (fun K hK => ?_)
                refine q_value ?_ (fun w' h' => ?_) ?_
                rotate_left
                · go_simp; try with_reducible rfl
                go_simp
                refine hK _ ?_
                clear hK K
                refine q_run rfl (fun K hK => ?_)
                refine q_value ?_ (fun w' h' => ?_) ?_
                rotate_left
                · have c := cell_of_row w' b3 0 _ 34 _ (keep X3 h'); go_simp; try with_reducible rfl
                go_simp
                refine hK _ ?_
                clear hK K
                refine q_run rfl (fun K hK => ?_)
                refine q_value ?_ (fun w' h' => ?_) ?_
                rotate_left
                · go_simp; try with_reducible rfl
                go_simp
                refine hK _ ?_
                clear hK K
                refine q_run rfl (fun K hK => ?_)
                refine q_value ?_ (fun w' h' => ?_) ?_
                rotate_left
                · go_simp; try with_reducible rfl
                go_simp
                refine hK _ ?_
                clear hK K
                refine q_run rfl (fun K hK => ?_)
                refine q_value ?_ (fun w' h' => ?_) ?_
                rotate_left
                · go_simp; try with_reducible rfl
                go_simp
                refine hK _ ?_
                clear hK K
                refine q_run rfl (fun K hK => ?_)
                refine q_value ?_ (fun w' h' => ?_) ?_
                rotate_left
                · have c := (R.below h').lf hi hoff.out hq; go_simp; try with_reducible rfl
                go_simp
                refine hK _ ?_
                clear hK K
                refine q_run rfl (fun K hK => ?_)
                refine q_value ?_ (fun w' h' => ?_) ?_
                rotate_left
                · go_simp; try with_reducible rfl
                go_simp
                refine hK _ ?_
                clear hK K
                refine q_run rfl (fun K hK => ?_)
                refine q_value ?_ (fun w' h' => ?_) ?_
                rotate_left
                · go_simp; try with_reducible rfl
                go_simp
                refine hK _ ?_
                clear hK K
                refine q_run rfl (fun K hK => ?_)
                refine q_value ?_ (fun w' h' => ?_) ?_
                rotate_left
                · go_simp; try with_reducible rfl
                go_simp
                refine hK _ ?_
                clear hK K
                refine q_run rfl (fun K hK => ?_)
                refine q_value ?_ (fun w' h' => ?_) ?_
                rotate_left
                · go_simp; try with_reducible rfl
                go_simp
                refine hK _ ?_
                clear hK K
                refine q_run rfl (fun K hK => ?_)
                refine q_value ?_ (fun w' h' => ?_) ?_
                rotate_left
                · go_simp; try with_reducible rfl
                go_simp
                refine hK _ ?_
                clear hK K
                refine q_run rfl (fun K hK => ?_)
                refine q_value ?_ (fun w' h' => ?_) ?_
                rotate_left
                · have c := (R.below h').op hi hoff.out; go_simp; try with_reducible rfl
                go_simp
                refine hK _ ?_
                clear hK K
                refine q_run rfl (fun K hK => ?_)
                refine q_value ?_ (fun w' h' => ?_) ?_
                rotate_left
                · go_simp; try with_reducible rfl
                go_simp
                refine hK _ ?_
                clear hK K
                refine q_run rfl (fun K hK => ?_)
                refine q_value ?_ (fun w' h' => ?_) ?_
                rotate_left
                · go_simp; try with_reducible rfl
                go_simp
                refine hK _ ?_
                clear hK K
                refine q_run rfl (fun K hK => ?_)
                refine q_value ?_ (fun w' h' => ?_) ?_
                rotate_left
                · have c := cell_of_row w' b3 0 _ 34 _ (keep X3 h'); go_simp; try with_reducible rfl
                go_simp
                refine hK _ ?_
                clear hK K
                refine q_run rfl (fun K hK => ?_)
                refine q_value ?_ (fun w' h' => ?_) ?_
                rotate_left
                · go_simp; try with_reducible rfl
                go_simp
                refine hK _ ?_
                clear hK K
                refine q_run rfl (fun K hK => ?_)
                refine q_value ?_ (fun w' h' => ?_) ?_
                rotate_left
                · go_simp; try with_reducible rfl
                go_simp
                refine hK _ ?_
                clear hK K
                refine q_run rfl (fun K hK => ?_)
                refine q_value ?_ (fun w' h' => ?_) ?_
                rotate_left
                · go_simp; try with_reducible rfl
                go_simp
                refine hK _ ?_
                clear hK K
                refine q_run rfl (fun K hK => ?_)
                refine q_value ?_ (fun w' h' => ?_) ?_
                rotate_left
                · have c := (R.below h').cm hi hoff.out hq; go_simp; try with_reducible rfl
                go_simp
                refine hK _ ?_
                clear hK K
                refine q_run rfl (fun K hK => ?_)
                refine q_value ?_ (fun w' h' => ?_) ?_
                rotate_left
                · go_simp; try with_reducible rfl
                go_simp
                refine hK _ ?_
                clear hK K
                refine q_run rfl (fun K hK => ?_)
                refine q_value ?_ (fun w' h' => ?_) ?_
                rotate_left
                · go_simp; try with_reducible rfl
                go_simp
                refine hK _ ?_
                clear hK K
                refine qd_nil ?_
                intro w57 h58
                replace X3 := keep X3 h58
                replace X4 := keep X4 h58
                replace R := R.below h58
                replace E := E.below h58
                clear h58
                go_upto_region 23 with (fail)
                refine quiet_tail 11 (fun w' => Below w57.heap.size w57 w') (by kernel_rfl) (by kernel_rfl) (Below.drew (Below.refl _ _)) ?_
                simp only [List.take_succ_cons, List.take_zero, List.drop_succ_cons, List.drop_zero]
                refine q_run rfl (fun K hK => ?_)
                refine q_value ?_ (fun w' h' => ?_) ?_
                rotate_left
                · go_simp; try with_reducible rfl
                go_simp
                refine hK _ ?_
                clear hK K
                refine q_run rfl (fun K hK => ?_)
                refine q_value ?_ (fun w' h' => ?_) ?_
                rotate_left
                · go_simp; try with_reducible rfl
                go_simp
                refine hK _ ?_
                clear hK K
                refine q_run rfl (fun K hK => ?_)
                refine q_value ?_ (fun w' h' => ?_) ?_
                rotate_left
                · have c := cell_of_row w' b3 0 _ 34 _ (keep X3 h'); go_simp; try with_reducible rfl
                go_simp
                refine hK _ ?_
                clear hK K
                refine q_run rfl (fun K hK => ?_)
                refine q_value ?_ (fun w' h' => ?_) ?_
                rotate_left
                · go_simp; try with_reducible rfl
                go_simp
                refine hK _ ?_
                clear hK K
                refine q_run rfl (fun K hK => ?_)
                refine q_value ?_ (fun w' h' => ?_) ?_
                rotate_left
                · go_simp; try with_reducible rfl
                go_simp
                refine hK _ ?_
                clear hK K
                refine q_run rfl (fun K hK => ?_)
                refine q_value ?_ (fun w' h' => ?_) ?_
                rotate_left
                · go_simp; try with_reducible rfl
                go_simp
                refine hK _ ?_
                clear hK K
                refine q_run rfl (fun K hK => ?_)
                refine q_value ?_ (fun w' h' => ?_) ?_
                rotate_left
                · have c := (R.below h').lf hi hoff.out hq; go_simp; try with_reducible rfl
                go_simp
                refine hK _ ?_
                clear hK K
                refine q_run rfl (fun K hK => ?_)
                refine q_value ?_ (fun w' h' => ?_) ?_
                rotate_left
                · go_simp; try with_reducible rfl
                go_simp
                refine hK _ ?_
                clear hK K
                refine q_run rfl (fun K hK => ?_)
                refine q_value ?_ (fun w' h' => ?_) ?_
                rotate_left
                · go_simp; try with_reducible rfl
                go_simp
                refine hK _ ?_
                clear hK K
                refine q_run rfl (fun K hK => ?_)
                refine q_value ?_ (fun w' h' => ?_) ?_
                rotate_left
                · go_simp; try with_reducible rfl
                go_simp
                refine hK _ ?_
                clear hK K
                refine q_run rfl (fun K hK => ?_)
                refine q_value ?_ (fun w' h' => ?_) ?_
                rotate_left
                · go_simp; try with_reducible rfl
                go_simp
                refine hK _ ?_
                clear hK K
                refine qd_nil ?_
                intro w59 h60
                replace X3 := keep X3 h60
                replace X4 := keep X4 h60
                replace R := R.below h60
                replace E := E.below h60
                clear h60
                refine wl_cell rfl 3 (.tmp 148) (.tmp 145) rfl g n i (30 + q) off S { S i with left := upF (S i).left q (IntKind.i64.wrap ((S i).left q + 1)) } (.int .i64 (IntKind.i64.wrap ((S i).left q + 1))) rfl Tryd.sizeOf3 (st_int _) hi (by omega) hoff.out (by rw [← Nat.add_assoc]; rfl) rfl R (cs_lf (S i) hq _) (fun w61 R' E' => ?_)
                intro K hK
                go_simp
                refine hK _ _ ?_
                clear hK K
                replace X3 := (E'.blk b3 (blk_lt X3) (fun e => hn3 e.symm)).trans X3
                replace X4 := (E'.blk b4 (blk_lt X4) (fun e => hn4 e.symm)).trans X4
                replace E := E.trans E'
                replace R := R'
                clear R' E'
                go_upto_region 24 with (fail)
                refine wp_region_lit ?_
                refine wl_call rfl 39 #[] (ansV 0 none 0 0 true) _ ?_ (fineC w61) (fun w62 hd => ?_)
                · first | (go_simp; done) | (go_simp; rfl)
                intro K hK
                go_simp
                refine hK _ _ ?_
                clear hK K
                unfold ansV
                iterate 2
                  refine wl_val rfl ?_ ?_ ?_
                  rotate_left
                  · go_simp; try with_reducible rfl
                  intro K hK
                  go_simp
                  refine hK _ _ ?_
                  clear hK K
                refine wl_store rfl 38 (.tmp 4) (.tmp 150) rfl b4 #[.int .u32 0, .slice none 0 0] rfl rfl 38 _ (keep X4 hd) (by kernel_rfl) rfl (by simp [Value.oneCell']) (fun w63 m1 m2 m3 m4 => ?_)
                intro K hK
                go_simp
                refine hK _ _ ?_
                clear hK K
                refine wl_val rfl (.bool true) ?_ ?_
                · go_simp
                intro K hK
                go_simp
                refine hK _ _ ?_
                clear hK K
                have Rf := (R.below hd).keep (m2 g hn4)
                have Ef := (E.below hd).put z4 m2 m3
                go_wp2
                exact ret_ans rfl b4 _ _ _ _ _ rfl rfl rfl m1 ⟨rfl, Rf, Ef⟩
          · obtain rfl : p = ⟨S i, 0, false⟩ := by
              rw [hp.out]; unfold barP; rw [if_neg cn, if_neg (not_not_intro ca), if_neg p1, if_neg p2, if_neg p3]
            clear hp
            have q1 : (xp == 1) = false := by simp [p1]
            have q2 : (xp == 2) = false := by simp [p2]
            have q3 : (xp == 3) = false := by simp [p3]
            clear p1 p2 p3
            have hw1 : IntKind.u64.wrap (S i).o.n = (S i).o.n := by simp [IntKind.wrap, IntKind.bits, IntKind.signed]; omega
            have hw2 : IntKind.u64.wrap xa = xa := by simp [IntKind.wrap, IntKind.bits, IntKind.signed]; omega
            have qa : (xa != (S i).o.n) = false := by simp [ca]
            clear ca
            go_upto_region 1 with (fail)
            refine quiet_all (fun w' => Below W.heap.size W w') (by kernel_rfl) (by kernel_rfl) (Below.drew (Below.refl _ _)) ?_
            refine q_run rfl (fun K hK => ?_)
            refine q_value ?_ (fun w' h' => ?_) ?_
            rotate_left
            · go_simp; try with_reducible rfl
            go_simp
            refine hK _ ?_
            clear hK K
            refine q_run rfl (fun K hK => ?_)
            refine q_value ?_ (fun w' h' => ?_) ?_
            rotate_left
            · have c := cell_of_row w' b3 0 _ 34 _ (keep X3 h'); go_simp; try with_reducible rfl
            go_simp
            refine hK _ ?_
            clear hK K
            refine q_run rfl (fun K hK => ?_)
            refine q_value ?_ (fun w' h' => ?_) ?_
            rotate_left
            · go_simp; try with_reducible rfl
            go_simp
            refine hK _ ?_
            clear hK K
            refine q_run rfl (fun K hK => ?_)
            refine q_value ?_ (fun w' h' => ?_) ?_
            rotate_left
            · go_simp; try with_reducible rfl
            go_simp
            refine hK _ ?_
            clear hK K
            refine q_run rfl (fun K hK => ?_)
            refine q_value ?_ (fun w' h' => ?_) ?_
            rotate_left
            · go_simp; try with_reducible rfl
            go_simp
            refine hK _ ?_
            clear hK K
            refine q_run rfl (fun K hK => ?_)
            refine q_value ?_ (fun w' h' => ?_) ?_
            rotate_left
            · go_simp; try with_reducible rfl
            go_simp
            refine hK _ ?_
            clear hK K
            refine q_run rfl (fun K hK => ?_)
            refine q_value ?_ (fun w' h' => ?_) ?_
            rotate_left
            · have c := (R.below h').nn hi hoff.out; go_simp; try with_reducible rfl
            go_simp
            refine hK _ ?_
            clear hK K
            refine q_run rfl (fun K hK => ?_)
            refine q_value ?_ (fun w' h' => ?_) ?_
            rotate_left
            · go_simp; try with_reducible rfl
            go_simp
            refine hK _ ?_
            clear hK K
            refine q_run rfl (fun K hK => ?_)
            refine q_value ?_ (fun w' h' => ?_) ?_
            rotate_left
            · go_simp; try with_reducible rfl
            go_simp
            refine hK _ ?_
            clear hK K
            refine qd_nil ?_
            intro w64 h65
            replace X3 := keep X3 h65
            replace X4 := keep X4 h65
            replace R := R.below h65
            replace E := E.below h65
            clear h65
            go_upto_region 3 with (fail)
            refine quiet_all (fun w' => Below w64.heap.size w64 w') (by kernel_rfl) (by kernel_rfl) (Below.drew (Below.refl _ _)) ?_
            refine q_run rfl (fun K hK => ?_)
            refine q_value ?_ (fun w' h' => ?_) ?_
            rotate_left
            · go_simp; try with_reducible rfl
            go_simp
            refine hK _ ?_
            clear hK K
            refine q_run rfl (fun K hK => ?_)
            refine q_value ?_ (fun w' h' => ?_) ?_
            rotate_left
            · have c := cell_of_row w' b3 4 _ 34 _ (keep X3 h'); go_simp; try with_reducible rfl
            go_simp
            refine hK _ ?_
            clear hK K
            refine q_run rfl (fun K hK => ?_)
            refine q_value ?_ (fun w' h' => ?_) ?_
            rotate_left
            · go_simp; try with_reducible rfl
            go_simp
            refine hK _ ?_
            clear hK K
            refine q_run rfl (fun K hK => ?_)
            refine q_value ?_ (fun w' h' => ?_) ?_
            rotate_left
            · go_simp; try with_reducible rfl
            go_simp
            refine hK _ ?_
            clear hK K
            refine q_run rfl (fun K hK => ?_)
            refine q_value ?_ (fun w' h' => ?_) ?_
            rotate_left
            · go_simp; try with_reducible rfl
            go_simp
            refine hK _ ?_
            clear hK K
            refine q_run rfl (fun K hK => ?_)
            refine q_value ?_ (fun w' h' => ?_) ?_
            rotate_left
            · go_simp; try with_reducible rfl
            go_simp
            refine hK _ ?_
            clear hK K
            refine q_run rfl (fun K hK => ?_)
            refine q_value ?_ (fun w' h' => ?_) ?_
            rotate_left
            · go_simp; try with_reducible rfl
            go_simp
            refine hK _ ?_
            clear hK K
            refine q_run rfl (fun K hK => ?_)
            refine q_value ?_ (fun w' h' => ?_) ?_
            rotate_left
            · have c := (R.below h').nn hi hoff.out; go_simp; try with_reducible rfl
            go_simp
            refine hK _ ?_
            clear hK K
            refine q_run rfl (fun K hK => ?_)
            refine q_value ?_ (fun w' h' => ?_) ?_
            rotate_left
            · go_simp; try with_reducible rfl
            go_simp
            refine hK _ ?_
            clear hK K
            refine q_run rfl (fun K hK => ?_)
            refine q_value ?_ (fun w' h' => ?_) ?_
            rotate_left
            · go_simp; try with_reducible rfl
            go_simp
            refine hK _ ?_
            clear hK K
            refine q_run rfl (fun K hK => ?_)
            refine q_value ?_ (fun w' h' => ?_) ?_
            rotate_left
            · go_simp; try with_reducible rfl
            go_simp
            refine hK _ ?_
            clear hK K
            refine qd_nil ?_
            intro w66 h67
            replace X3 := keep X3 h67
            replace X4 := keep X4 h67
            replace R := R.below h67
            replace E := E.below h67
            clear h67
            have y3 := cell_of_row w66 b3 3 _ 34 _ X3
            go_upto_region 25 with (fail)
            refine wp_region_lit ?_
            refine wl_call rfl 18 #[] (ansV 0 none 0 0 false) _ ?_ (notC w66) (fun w68 hd => ?_)
            · first | (go_simp; done) | (go_simp; rfl)
            intro K hK
            go_simp
            refine hK _ _ ?_
            clear hK K
            unfold ansV
            iterate 2
              refine wl_val rfl ?_ ?_ ?_
              rotate_left
              · go_simp; try with_reducible rfl
              intro K hK
              go_simp
              refine hK _ _ ?_
              clear hK K
            refine wl_store rfl 38 (.tmp 4) (.tmp 153) rfl b4 #[.int .u32 0, .slice none 0 0] rfl rfl 38 _ (keep X4 hd) (by kernel_rfl) rfl (by simp [Value.oneCell']) (fun w69 m1 m2 m3 m4 => ?_)
            intro K hK
            go_simp
            refine hK _ _ ?_
            clear hK K
            refine wl_val rfl (.bool false) ?_ ?_
            · go_simp
            intro K hK
            go_simp
            refine hK _ _ ?_
            clear hK K
            have Rf := (R.below hd).keep (m2 g hn4)
            have Ef := (E.below hd).put z4 m2 m3
            go_wp2
            exact ret_ans rfl b4 _ _ _ _ _ rfl rfl rfl m1 ⟨rfl, by rw [updS_same]; exact Rf, Ef⟩
    · obtain rfl : p = ⟨S i, 3, true⟩ := by
        rw [hp.out]; unfold barP; rw [if_neg cn, if_pos ca]
      clear hp
      have hw1 : IntKind.u64.wrap (S i).o.n = (S i).o.n := by simp [IntKind.wrap, IntKind.bits, IntKind.signed]; omega
      have hw2 : IntKind.u64.wrap xa = xa := by simp [IntKind.wrap, IntKind.bits, IntKind.signed]; omega
      have qa : (xa != (S i).o.n) = true := by simp [ca]
      clear ca
      go_upto_region 1 with (fail)
      refine quiet_all (fun w' => Below W.heap.size W w') (by kernel_rfl) (by kernel_rfl) (Below.drew (Below.refl _ _)) ?_
      refine q_run rfl (fun K hK => ?_)
      refine q_value ?_ (fun w' h' => ?_) ?_
      rotate_left
      · go_simp; try with_reducible rfl
      go_simp
      refine hK _ ?_
      clear hK K
      refine q_run rfl (fun K hK => ?_)
      refine q_value ?_ (fun w' h' => ?_) ?_
      rotate_left
      · have c := cell_of_row w' b3 0 _ 34 _ (keep X3 h'); go_simp; try with_reducible rfl
      go_simp
      refine hK _ ?_
      clear hK K
      refine q_run rfl (fun K hK => ?_)
      refine q_value ?_ (fun w' h' => ?_) ?_
      rotate_left
      · go_simp; try with_reducible rfl
      go_simp
      refine hK _ ?_
      clear hK K
      refine q_run rfl (fun K hK => ?_)
      refine q_value ?_ (fun w' h' => ?_) ?_
      rotate_left
      · go_simp; try with_reducible rfl
      go_simp
      refine hK _ ?_
      clear hK K
      refine q_run rfl (fun K hK => ?_)
      refine q_value ?_ (fun w' h' => ?_) ?_
      rotate_left
      · go_simp; try with_reducible rfl
      go_simp
      refine hK _ ?_
      clear hK K
      refine q_run rfl (fun K hK => ?_)
      refine q_value ?_ (fun w' h' => ?_) ?_
      rotate_left
      · go_simp; try with_reducible rfl
      go_simp
      refine hK _ ?_
      clear hK K
      refine q_run rfl (fun K hK => ?_)
      refine q_value ?_ (fun w' h' => ?_) ?_
      rotate_left
      · have c := (R.below h').nn hi hoff.out; go_simp; try with_reducible rfl
      go_simp
      refine hK _ ?_
      clear hK K
      refine q_run rfl (fun K hK => ?_)
      refine q_value ?_ (fun w' h' => ?_) ?_
      rotate_left
      · go_simp; try with_reducible rfl
      go_simp
      refine hK _ ?_
      clear hK K
      refine q_run rfl (fun K hK => ?_)
      refine q_value ?_ (fun w' h' => ?_) ?_
      rotate_left
      · go_simp; try with_reducible rfl
      go_simp
      refine hK _ ?_
      clear hK K
      refine qd_nil ?_
      intro w70 h71
      replace X3 := keep X3 h71
      replace X4 := keep X4 h71
      replace R := R.below h71
      replace E := E.below h71
      clear h71
      go_upto_region 3 with (fail)
      refine quiet_all (fun w' => Below w70.heap.size w70 w') (by kernel_rfl) (by kernel_rfl) (Below.drew (Below.refl _ _)) ?_
      refine q_run rfl (fun K hK => ?_)
      refine q_value ?_ (fun w' h' => ?_) ?_
      rotate_left
      · go_simp; try with_reducible rfl
      go_simp
      refine hK _ ?_
      clear hK K
      refine q_run rfl (fun K hK => ?_)
      refine q_value ?_ (fun w' h' => ?_) ?_
      rotate_left
      · have c := cell_of_row w' b3 4 _ 34 _ (keep X3 h'); go_simp; try with_reducible rfl
      go_simp
      refine hK _ ?_
      clear hK K
      refine q_run rfl (fun K hK => ?_)
      refine q_value ?_ (fun w' h' => ?_) ?_
      rotate_left
      · go_simp; try with_reducible rfl
      go_simp
      refine hK _ ?_
      clear hK K
      refine q_run rfl (fun K hK => ?_)
      refine q_value ?_ (fun w' h' => ?_) ?_
      rotate_left
      · go_simp; try with_reducible rfl
      go_simp
      refine hK _ ?_
      clear hK K
      refine q_run rfl (fun K hK => ?_)
      refine q_value ?_ (fun w' h' => ?_) ?_
      rotate_left
      · go_simp; try with_reducible rfl
      go_simp
      refine hK _ ?_
      clear hK K
      refine q_run rfl (fun K hK => ?_)
      refine q_value ?_ (fun w' h' => ?_) ?_
      rotate_left
      · go_simp; try with_reducible rfl
      go_simp
      refine hK _ ?_
      clear hK K
      refine q_run rfl (fun K hK => ?_)
      refine q_value ?_ (fun w' h' => ?_) ?_
      rotate_left
      · go_simp; try with_reducible rfl
      go_simp
      refine hK _ ?_
      clear hK K
      refine q_run rfl (fun K hK => ?_)
      refine q_value ?_ (fun w' h' => ?_) ?_
      rotate_left
      · have c := (R.below h').nn hi hoff.out; go_simp; try with_reducible rfl
      go_simp
      refine hK _ ?_
      clear hK K
      refine q_run rfl (fun K hK => ?_)
      refine q_value ?_ (fun w' h' => ?_) ?_
      rotate_left
      · go_simp; try with_reducible rfl
      go_simp
      refine hK _ ?_
      clear hK K
      refine q_run rfl (fun K hK => ?_)
      refine q_value ?_ (fun w' h' => ?_) ?_
      rotate_left
      · go_simp; try with_reducible rfl
      go_simp
      refine hK _ ?_
      clear hK K
      refine q_run rfl (fun K hK => ?_)
      refine q_value ?_ (fun w' h' => ?_) ?_
      rotate_left
      · go_simp; try with_reducible rfl
      go_simp
      refine hK _ ?_
      clear hK K
      refine qd_nil ?_
      intro w72 h73
      replace X3 := keep X3 h73
      replace X4 := keep X4 h73
      replace R := R.below h73
      replace E := E.below h73
      clear h73
      go_upto_region 4 with (fail)
      refine wp_region_lit ?_
      refine wl_call rfl 38 #[.int .u32 3] (ansV 3 none 0 0 true) _ ?_ (toldC 3 w72) (fun w74 hd => ?_)
      · first | (go_simp; done) | (go_simp; rfl)
      intro K hK
      go_simp
      refine hK _ _ ?_
      clear hK K
      unfold ansV
      iterate 2
        refine wl_val rfl ?_ ?_ ?_
        rotate_left
        · go_simp; try with_reducible rfl
        intro K hK
        go_simp
        refine hK _ _ ?_
        clear hK K
      refine wl_store rfl 38 (.tmp 4) (.tmp 31) rfl b4 #[.int .u32 3, .slice none 0 0] rfl rfl 38 _ (keep X4 hd) (by kernel_rfl) rfl (by simp [Value.oneCell']) (fun w75 m1 m2 m3 m4 => ?_)
      intro K hK
      go_simp
      refine hK _ _ ?_
      clear hK K
      refine wl_val rfl (.bool true) ?_ ?_
      · go_simp
      intro K hK
      go_simp
      refine hK _ _ ?_
      clear hK K
      have Rf := (R.below hd).keep (m2 g hn4)
      have Ef := (E.below hd).put z4 m2 m3
      go_wp2
      exact ret_ans rfl b4 _ _ _ _ _ rfl rfl rfl m1 ⟨rfl, by rw [updS_same]; exact Rf, Ef⟩
end Go.Proofs.YtobkonbpcnmgpaaDoor
