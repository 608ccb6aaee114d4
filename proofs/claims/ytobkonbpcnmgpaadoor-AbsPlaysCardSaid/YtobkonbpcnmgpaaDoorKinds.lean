/- The calls of the other kinds: duo, semaphore, condition, once. -/
import Derived.Test.YtobkonbpcnmgpaaDoorLock
namespace Go.Proofs.YtobkonbpcnmgpaaDoor
open Go.RowKit
set_option linter.unusedVariables false
set_option linter.unusedSimpArgs false
def duoP (s : St) (x : Ak) : Out := if x.who = s.o.a ∨ x.who = s.o.b then lockP s x else ⟨s, 4, true⟩
set_option maxRecDepth 100000 in
set_option maxHeartbeats 8000000 in
theorem duoC (S : Nat → St) (g n i off : Nat) (hi : i < n) (hoff : Hid (off = i * 38)) (x : Ak) (w0 : World) (hR : Row w0 g n S) : Calls Tryd.prog 20 #[.pointer (some ⟨g, off, none⟩), akV x] w0 fun e w' => e = .returned (ansV (duoP (S i) x).r none 0 0 (duoP (S i) x).ok) ∧ Row w' g n (updS S i (duoP (S i) x).s) ∧ Exc g w0 w' := by
  obtain ⟨p, hp⟩ : ∃ p, Hid (p = duoP (S i) x) := ⟨_, rfl⟩
  rw [← hp.out]
  unfold akV akC
  go_enter Tryd.func20, Tryd.ntmps20
  go_upto_region 1 with (fail)
  obtain ⟨W, b3, b4, e0, e1, e2, X3, X4, hal⟩ := box2 w0 #[.int .i64 x.who, .int .i64 x.obj, .int .i64 x.call, .int .i64 x.part, .int .u32 x.arg, .int .u32 x.val] #[.int .u32 0, .slice none 0 0] 34 38
  rw [e0, e2, e1]
  have z3 : w0.heap.size ≤ b3 := Nat.le_of_eq e1
  have z4 : w0.heap.size ≤ b4 := by omega
  have hgl := hR.lt
  have hn3 : g ≠ b3 := by omega
  have hn4 : g ≠ b4 := by omega
  clear e0 e2 e1
  have R := hR.below hal
  have E : Exc g w0 W := Exc.of_below hal
  clear hal
  by_cases ca : x.who = (S i).o.a
  · obtain rfl : p = lockP (S i) x := by
      rw [hp.out]; unfold duoP; rw [if_pos (.inl ca)]
    clear hp
    have qa : (x.who != (S i).o.a) = false := by simp [ca]
    clear ca
    go_upto_region 1 with (fail)
    refine quiet_all (fun w' => Below W.heap.size W w') (by kernel_rfl) (by kernel_rfl) (Below.drew (Below.refl _ _)) ?_
    refine q_run rfl (fun K hK => ?_)
    refine q_value ?_ (fun w' h' => ?_) ?_
    rotate_left
    · go_simp; try with_reducible rfl
    go_simp
    refine hK _ ?_
    clear hK K
    refine q_run rfl (fun K hK => ?_)
    refine q_value ?_ (fun w' h' => ?_) ?_
    rotate_left
    · have c := cell_of_row w' b3 0 _ 34 _ (keep X3 h'); go_simp; try with_reducible rfl
    go_simp
    refine hK _ ?_
    clear hK K
    refine q_run rfl (fun K hK => ?_)
    refine q_value ?_ (fun w' h' => ?_) ?_
    rotate_left
    · go_simp; try with_reducible rfl
    go_simp
    refine hK _ ?_
    clear hK K
    refine q_run rfl (fun K hK => ?_)
    refine q_value ?_ (fun w' h' => ?_) ?_
    rotate_left
    · go_simp; try with_reducible rfl
    go_simp
    refine hK _ ?_
    clear hK K
    refine q_run rfl (fun K hK => ?_)
    refine q_value ?_ (fun w' h' => ?_) ?_
    rotate_left
    · go_simp; try with_reducible rfl
    go_simp
    refine hK _ ?_
    clear hK K
    refine q_run rfl (fun K hK => ?_)
    refine q_value ?_ (fun w' h' => ?_) ?_
    rotate_left
    · go_simp; try with_reducible rfl
    go_simp
    refine hK _ ?_
    clear hK K
    refine q_run rfl (fun K hK => ?_)
    refine q_value ?_ (fun w' h' => ?_) ?_
    rotate_left
    · have c := (R.below h').aa hi hoff.out; go_simp; try with_reducible rfl
    go_simp
    refine hK _ ?_
    clear hK K
    refine q_run rfl (fun K hK => ?_)
    refine q_value ?_ (fun w' h' => ?_) ?_
    rotate_left
    · go_simp; try with_reducible rfl
    go_simp
    refine hK _ ?_
    clear hK K
    refine q_run rfl (fun K hK => ?_)
    refine q_value ?_ (fun w' h' => ?_) ?_
    rotate_left
    · go_simp; try with_reducible rfl
    go_simp
    refine hK _ ?_
    clear hK K
    refine q_skip rfl (fun K hK => ?_)
    go_simp
    refine hK _ ?_
    clear hK K
    refine q_skip rfl (fun K hK => ?_)
    go_simp
    refine hK _ ?_
    clear hK K
    refine q_skip rfl (fun K hK => ?_)
    go_simp
    refine hK _ ?_
    clear hK K
    refine q_skip rfl (fun K hK => ?_)
    go_simp
    refine hK _ ?_
    clear hK K
    refine q_skip rfl (fun K hK => ?_)
    go_simp
    refine hK _ ?_
    clear hK K
    refine q_skip rfl (fun K hK => ?_)
    go_simp
    refine hK _ ?_
    clear hK K
    refine q_skip rfl (fun K hK => ?_)
    go_simp
    refine hK _ ?_
    clear hK K
    refine q_skip rfl (fun K hK => ?_)
    go_simp
    refine hK _ ?_
    clear hK K
    refine q_run rfl (fun K hK => ?_)
    refine q_value ?_ (fun w' h' => ?_) ?_
    rotate_left
    · go_simp; try with_reducible rfl
    go_simp
    refine hK _ ?_
    clear hK K
    refine qd_nil ?_
    intro w1 h2
    replace X3 := keep X3 h2
    replace X4 := keep X4 h2
    replace R := R.below h2
    replace E := E.below h2
    clear h2
    go_upto_region 3 with (fail)
    refine wp_region_lit ?_
    iterate 1
      refine wl_val rfl ?_ ?_ ?_
      rotate_left
      · go_simp; try with_reducible rfl
      intro K hK
      go_simp
      refine hK _ _ ?_
      clear hK K
    refine wl_load rfl 34 (.tmp 3) rfl _ rfl _ _ _ _ X3 Tryd.underlying34 rfl (by kernel_rfl) ?_
    intro K hK
    go_simp
    refine hK _ _ ?_
    clear hK K
    refine wl_call rfl 27 #[.pointer (some ⟨g, off, none⟩), akV x] (ansV (lockP (S i) x).r none 0 0 (lockP (S i) x).ok) _ ?_ (lockC S g n i off hi hoff x w1 R) (fun w3 hd => ?_)
    · unfold akV akC; first | (go_simp; done) | (go_simp; rfl)
    intro K hK
    go_simp
    refine hK _ _ ?_
    clear hK K
    have Rd := hd.1
    have Ed := E.trans hd.2
    have X4d := (hd.2.blk b4 (blk_lt X4) (fun e => hn4 e.symm)).trans X4
    clear hd
    unfold ansV
    iterate 2
      refine wl_val rfl ?_ ?_ ?_
      rotate_left
      · go_simp; try with_reducible rfl
      intro K hK
      go_simp
      refine hK _ _ ?_
      clear hK K
    refine wl_store rfl 38 (.tmp 4) (.tmp 30) rfl b4 #[.int .u32 (lockP (S i) x).r, .slice none 0 0] rfl rfl 38 _ X4d (by kernel_rfl) rfl (by simp [Value.oneCell']) (fun w4 m1 m2 m3 m4 => ?_)
    intro K hK
    go_simp
    refine hK _ _ ?_
    clear hK K
    refine wl_val rfl (.bool (lockP (S i) x).ok) ?_ ?_
    · go_simp
    intro K hK
    go_simp
    refine hK _ _ ?_
    clear hK K
    have Rf := Rd.keep (m2 g hn4)
    have Ef := Ed.put z4 m2 m3
    go_wp2
    exact ret_ans rfl b4 _ _ _ _ _ rfl rfl rfl m1 ⟨rfl, Rf, Ef⟩
  · by_cases cb : x.who = (S i).o.b
    · obtain rfl : p = lockP (S i) x := by
        rw [hp.out]; unfold duoP; rw [if_pos (.inr cb)]
      clear hp
      have qa : (x.who != (S i).o.a) = true := by simp [ca]
      have qb : (x.who != (S i).o.b) = false := by simp [cb]
      clear ca cb
      go_upto_region 1 with (fail)
      refine quiet_all (fun w' => Below W.heap.size W w') (by kernel_rfl) (by kernel_rfl) (Below.drew (Below.refl _ _)) ?_
      refine q_run rfl (fun K hK => ?_)
      refine q_value ?_ (fun w' h' => ?_) ?_
      rotate_left
      · go_simp; try with_reducible rfl
      go_simp
      refine hK _ ?_
      clear hK K
      refine q_run rfl (fun K hK => ?_)
      refine q_value ?_ (fun w' h' => ?_) ?_
      rotate_left
      · have c := cell_of_row w' b3 0 _ 34 _ (keep X3 h'); go_simp; try with_reducible rfl
      go_simp
      refine hK _ ?_
      clear hK K
      refine q_run rfl (fun K hK => ?_)
      refine q_value ?_ (fun w' h' => ?_) ?_
      rotate_left
      · go_simp; try with_reducible rfl
      go_simp
      refine hK _ ?_
      clear hK K
      refine q_run rfl (fun K hK => ?_)
      refine q_value ?_ (fun w' h' => ?_) ?_
      rotate_left
      · go_simp; try with_reducible rfl
      go_simp
      refine hK _ ?_
      clear hK K
      refine q_run rfl (fun K hK => ?_)
      refine q_value ?_ (fun w' h' => ?_) ?_
      rotate_left
      · go_simp; try with_reducible rfl
      go_simp
      refine hK _ ?_
      clear hK K
      refine q_run rfl (fun K hK => ?_)
      refine q_value ?_ (fun w' h' => ?_) ?_
      rotate_left
      · go_simp; try with_reducible rfl
      go_simp
      refine hK _ ?_
      clear hK K
      refine q_run rfl (fun K hK => ?_)
      refine q_value ?_ (fun w' h' => ?_) ?_
      rotate_left
      · have c := (R.below h').aa hi hoff.out; go_simp; try with_reducible rfl
      go_simp
      refine hK _ ?_
      clear hK K
      refine q_run rfl (fun K hK => ?_)
      refine q_value ?_ (fun w' h' => ?_) ?_
      rotate_left
      · go_simp; try with_reducible rfl
      go_simp
      refine hK _ ?_
      clear hK K
      refine q_run rfl (fun K hK => ?_)
      refine q_value ?_ (fun w' h' => ?_) ?_
      rotate_left
      · go_simp; try with_reducible rfl
      go_simp
      refine hK _ ?_
      clear hK K
      refine q_run rfl (fun K hK => ?_)
      refine q_value ?_ (fun w' h' => ?_) ?_
      rotate_left
      · go_simp; try with_reducible rfl
      go_simp
      refine hK _ ?_
      clear hK K
      refine q_run rfl (fun K hK => ?_)
      refine q_value ?_ (fun w' h' => ?_) ?_
      rotate_left
      · have c := cell_of_row w' b3 0 _ 34 _ (keep X3 h'); go_simp; try with_reducible rfl
      go_simp
      refine hK _ ?_
      clear hK K
      refine q_run rfl (fun K hK => ?_)
      refine q_value ?_ (fun w' h' => ?_) ?_
      rotate_left
      · go_simp; try with_reducible rfl
      go_simp
      refine hK _ ?_
      clear hK K
      refine q_run rfl (fun K hK => ?_)
      refine q_value ?_ (fun w' h' => ?_) ?_
      rotate_left
      · go_simp; try with_reducible rfl
      go_simp
      refine hK _ ?_
      clear hK K
      refine q_run rfl (fun K hK => ?_)
      refine q_value ?_ (fun w' h' => ?_) ?_
      rotate_left
      · go_simp; try with_reducible rfl
      go_simp
      refine hK _ ?_
      clear hK K
      refine q_run rfl (fun K hK => ?_)
      refine q_value ?_ (fun w' h' => ?_) ?_
      rotate_left
      · go_simp; try with_reducible rfl
      go_simp
      refine hK _ ?_
      clear hK K
      refine q_run rfl (fun K hK => ?_)
      refine q_value ?_ (fun w' h' => ?_) ?_
      rotate_left
      · have c := (R.below h').bb hi hoff.out; go_simp; try with_reducible rfl
      go_simp
      refine hK _ ?_
      clear hK K
      refine q_run rfl (fun K hK => ?_)
      refine q_value ?_ (fun w' h' => ?_) ?_
      rotate_left
      · go_simp; try with_reducible rfl
      go_simp
      refine hK _ ?_
      clear hK K
      refine q_run rfl (fun K hK => ?_)
      refine q_value ?_ (fun w' h' => ?_) ?_
      rotate_left
      · go_simp; try with_reducible rfl
      go_simp
      refine hK _ ?_
      clear hK K
      refine qd_nil ?_
      intro w5 h6
      replace X3 := keep X3 h6
      replace X4 := keep X4 h6
      replace R := R.below h6
      replace E := E.below h6
      clear h6
      go_upto_region 3 with (fail)
      refine wp_region_lit ?_
      iterate 1
        refine wl_val rfl ?_ ?_ ?_
        rotate_left
        · go_simp; try with_reducible rfl
        intro K hK
        go_simp
        refine hK _ _ ?_
        clear hK K
      refine wl_load rfl 34 (.tmp 3) rfl _ rfl _ _ _ _ X3 Tryd.underlying34 rfl (by kernel_rfl) ?_
      intro K hK
      go_simp
      refine hK _ _ ?_
      clear hK K
      refine wl_call rfl 27 #[.pointer (some ⟨g, off, none⟩), akV x] (ansV (lockP (S i) x).r none 0 0 (lockP (S i) x).ok) _ ?_ (lockC S g n i off hi hoff x w5 R) (fun w7 hd => ?_)
      · unfold akV akC; first | (go_simp; done) | (go_simp; rfl)
      intro K hK
      go_simp
      refine hK _ _ ?_
      clear hK K
      have Rd := hd.1
      have Ed := E.trans hd.2
      have X4d := (hd.2.blk b4 (blk_lt X4) (fun e => hn4 e.symm)).trans X4
      clear hd
      unfold ansV
      iterate 2
        refine wl_val rfl ?_ ?_ ?_
        rotate_left
        · go_simp; try with_reducible rfl
        intro K hK
        go_simp
        refine hK _ _ ?_
        clear hK K
      refine wl_store rfl 38 (.tmp 4) (.tmp 30) rfl b4 #[.int .u32 (lockP (S i) x).r, .slice none 0 0] rfl rfl 38 _ X4d (by kernel_rfl) rfl (by simp [Value.oneCell']) (fun w8 m1 m2 m3 m4 => ?_)
      intro K hK
      go_simp
      refine hK _ _ ?_
      clear hK K
      refine wl_val rfl (.bool (lockP (S i) x).ok) ?_ ?_
      · go_simp
      intro K hK
      go_simp
      refine hK _ _ ?_
      clear hK K
      have Rf := Rd.keep (m2 g hn4)
      have Ef := Ed.put z4 m2 m3
      go_wp2
      exact ret_ans rfl b4 _ _ _ _ _ rfl rfl rfl m1 ⟨rfl, Rf, Ef⟩
    · obtain rfl : p = ⟨S i, 4, true⟩ := by
        rw [hp.out]; unfold duoP; rw [if_neg (fun h => h.elim ca cb)]
      clear hp
      have qa : (x.who != (S i).o.a) = true := by simp [ca]
      have qb : (x.who != (S i).o.b) = true := by simp [cb]
      clear ca cb
      go_upto_region 1 with (fail)
      refine quiet_all (fun w' => Below W.heap.size W w') (by kernel_rfl) (by kernel_rfl) (Below.drew (Below.refl _ _)) ?_
      refine q_run rfl (fun K hK => ?_)
      refine q_value ?_ (fun w' h' => ?_) ?_
      rotate_left
      · go_simp; try with_reducible rfl
      go_simp
      refine hK _ ?_
      clear hK K
      refine q_run rfl (fun K hK => ?_)
      refine q_value ?_ (fun w' h' => ?_) ?_
      rotate_left
      · have c := cell_of_row w' b3 0 _ 34 _ (keep X3 h'); go_simp; try with_reducible rfl
      go_simp
      refine hK _ ?_
      clear hK K
      refine q_run rfl (fun K hK => ?_)
      refine q_value ?_ (fun w' h' => ?_) ?_
      rotate_left
      · go_simp; try with_reducible rfl
      go_simp
      refine hK _ ?_
      clear hK K
      refine q_run rfl (fun K hK => ?_)
      refine q_value ?_ (fun w' h' => ?_) ?_
      rotate_left
      · go_simp; try with_reducible rfl
      go_simp
      refine hK _ ?_
      clear hK K
      refine q_run rfl (fun K hK => ?_)
      refine q_value ?_ (fun w' h' => ?_) ?_
      rotate_left
      · go_simp; try with_reducible rfl
      go_simp
      refine hK _ ?_
      clear hK K
      refine q_run rfl (fun K hK => ?_)
      refine q_value ?_ (fun w' h' => ?_) ?_
      rotate_left
      · go_simp; try with_reducible rfl
      go_simp
      refine hK _ ?_
      clear hK K
      refine q_run rfl (fun K hK => ?_)
      refine q_value ?_ (fun w' h' => ?_) ?_
      rotate_left
      · have c := (R.below h').aa hi hoff.out; go_simp; try with_reducible rfl
      go_simp
      refine hK _ ?_
      clear hK K
      refine q_run rfl (fun K hK => ?_)
      refine q_value ?_ (fun w' h' => ?_) ?_
      rotate_left
      · go_simp; try with_reducible rfl
      go_simp
      refine hK _ ?_
      clear hK K
      refine q_run rfl (fun K hK => ?_)
      refine q_value ?_ (fun w' h' => ?_) ?_
      rotate_left
      · go_simp; try with_reducible rfl
      go_simp
      refine hK _ ?_
      clear hK K
      refine q_run rfl (fun K hK => ?_)
      refine q_value ?_ (fun w' h' => ?_) ?_
      rotate_left
      · go_simp; try with_reducible rfl
      go_simp
      refine hK _ ?_
      clear hK K
      refine q_run rfl (fun K hK => ?_)
      refine q_value ?_ (fun w' h' => ?_) ?_
      rotate_left
      · have c := cell_of_row w' b3 0 _ 34 _ (keep X3 h'); go_simp; try with_reducible rfl
      go_simp
      refine hK _ ?_
      clear hK K
      refine q_run rfl (fun K hK => ?_)
      refine q_value ?_ (fun w' h' => ?_) ?_
      rotate_left
      · go_simp; try with_reducible rfl
      go_simp
      refine hK _ ?_
      clear hK K
      refine q_run rfl (fun K hK => ?_)
      refine q_value ?_ (fun w' h' => ?_) ?_
      rotate_left
      · go_simp; try with_reducible rfl
      go_simp
      refine hK _ ?_
      clear hK K
      refine q_run rfl (fun K hK => ?_)
      refine q_value ?_ (fun w' h' => ?_) ?_
      rotate_left
      · go_simp; try with_reducible rfl
      go_simp
      refine hK _ ?_
      clear hK K
      refine q_run rfl (fun K hK => ?_)
      refine q_value ?_ (fun w' h' => ?_) ?_
      rotate_left
      · go_simp; try with_reducible rfl
      go_simp
      refine hK _ ?_
      clear hK K
      refine q_run rfl (fun K hK => ?_)
      refine q_value ?_ (fun w' h' => ?_) ?_
      rotate_left
      · have c := (R.below h').bb hi hoff.out; go_simp; try with_reducible rfl
      go_simp
      refine hK _ ?_
      clear hK K
      refine q_run rfl (fun K hK => ?_)
      refine q_value ?_ (fun w' h' => ?_) ?_
      rotate_left
      · go_simp; try with_reducible rfl
      go_simp
      refine hK _ ?_
      clear hK K
      refine q_run rfl (fun K hK => ?_)
      refine q_value ?_ (fun w' h' => ?_) ?_
      rotate_left
      · go_simp; try with_reducible rfl
      go_simp
      refine hK _ ?_
      clear hK K
      refine qd_nil ?_
      intro w9 h10
      replace X3 := keep X3 h10
      replace X4 := keep X4 h10
      replace R := R.below h10
      replace E := E.below h10
      clear h10
      go_upto_region 2 with (fail)
      refine wp_region_lit ?_
      refine wl_call rfl 38 #[.int .u32 4] (ansV 4 none 0 0 true) _ ?_ (toldC 4 w9) (fun w11 hd => ?_)
      · first | (go_simp; done) | (go_simp; rfl)
      intro K hK
      go_simp
      refine hK _ _ ?_
      clear hK K
      unfold ansV
      iterate 2
        refine wl_val rfl ?_ ?_ ?_
        rotate_left
        · go_simp; try with_reducible rfl
        intro K hK
        go_simp
        refine hK _ _ ?_
        clear hK K
      refine wl_store rfl 38 (.tmp 4) (.tmp 25) rfl b4 #[.int .u32 4, .slice none 0 0] rfl rfl 38 _ (keep X4 hd) (by kernel_rfl) rfl (by simp [Value.oneCell']) (fun w12 m1 m2 m3 m4 => ?_)
      intro K hK
      go_simp
      refine hK _ _ ?_
      clear hK K
      refine wl_val rfl (.bool true) ?_ ?_
      · go_simp
      intro K hK
      go_simp
      refine hK _ _ ?_
      clear hK K
      have Rf := (R.below hd).keep (m2 g hn4)
      have Ef := (E.below hd).put z4 m2 m3
      go_wp2
      exact ret_ans rfl b4 _ _ _ _ _ rfl rfl rfl m1 ⟨rfl, by rw [updS_same]; exact Rf, Ef⟩
def semP (s : St) (x : Ak) : Out :=
  if x.call = 2 then (if s.count = s.o.a then ⟨s, 3, true⟩ else ⟨{ s with count := IntKind.i64.wrap (s.count + 1) }, 0, true⟩)
  else if s.count = 0 then ⟨s, 0, false⟩ else ⟨{ s with count := IntKind.i64.wrap (s.count - 1) }, 0, true⟩
set_option maxRecDepth 100000 in
set_option maxHeartbeats 8000000 in
theorem semC (S : Nat → St) (g n i off : Nat) (hi : i < n) (hoff : Hid (off = i * 38)) (x : Ak) (w0 : World) (hR : Row w0 g n S) : Calls Tryd.prog 22 #[.pointer (some ⟨g, off, none⟩), akV x] w0 fun e w' => e = .returned (ansV (semP (S i) x).r none 0 0 (semP (S i) x).ok) ∧ Row w' g n (updS S i (semP (S i) x).s) ∧ Exc g w0 w' := by
  obtain ⟨p, hp⟩ : ∃ p, Hid (p = semP (S i) x) := ⟨_, rfl⟩
  rw [← hp.out]
  unfold akV akC
  go_enter Tryd.func22, Tryd.ntmps22
  go_upto_region 1 with (fail)
  obtain ⟨W, b3, b4, e0, e1, e2, X3, X4, hal⟩ := box2 w0 #[.int .i64 x.who, .int .i64 x.obj, .int .i64 x.call, .int .i64 x.part, .int .u32 x.arg, .int .u32 x.val] #[.int .u32 0, .slice none 0 0] 34 38
  rw [e0, e2, e1]
  have z3 : w0.heap.size ≤ b3 := Nat.le_of_eq e1
  have z4 : w0.heap.size ≤ b4 := by omega
  have hgl := hR.lt
  have hn3 : g ≠ b3 := by omega
  have hn4 : g ≠ b4 := by omega
  clear e0 e2 e1
  have R := hR.below hal
  have E : Exc g w0 W := Exc.of_below hal
  clear hal
  by_cases c2 : x.call = 2
  · by_cases ca : (S i).count = (S i).o.a
    · obtain rfl : p = ⟨S i, 3, true⟩ := by
        rw [hp.out]; unfold semP; rw [if_pos c2, if_pos ca]
      clear hp
      have q2 : (x.call == 2) = true := by simp [c2]
      have qa : ((S i).count == (S i).o.a) = true := by simp [ca]
      clear c2 ca
      go_upto_region 1 with (fail)
      refine quiet_all (fun w' => Below W.heap.size W w') (by kernel_rfl) (by kernel_rfl) (Below.drew (Below.refl _ _)) ?_
      refine q_run rfl (fun K hK => ?_)
      refine q_value ?_ (fun w' h' => ?_) ?_
      rotate_left
      · go_simp; try with_reducible rfl
      go_simp
      refine hK _ ?_
      clear hK K
      refine q_run rfl (fun K hK => ?_)
      refine q_value ?_ (fun w' h' => ?_) ?_
      rotate_left
      · have c := cell_of_row w' b3 2 _ 34 _ (keep X3 h'); go_simp; try with_reducible rfl
      go_simp
      refine hK _ ?_
      clear hK K
      refine q_run rfl (fun K hK => ?_)
      refine q_value ?_ (fun w' h' => ?_) ?_
      rotate_left
      · go_simp; try with_reducible rfl
      go_simp
      refine hK _ ?_
      clear hK K
      refine q_run rfl (fun K hK => ?_)
      refine q_value ?_ (fun w' h' => ?_) ?_
      rotate_left
      · go_simp; try with_reducible rfl
      go_simp
      refine hK _ ?_
      clear hK K
      refine q_run rfl (fun K hK => ?_)
      refine q_value ?_ (fun w' h' => ?_) ?_
      rotate_left
      · go_simp; try with_reducible rfl
      go_simp
      refine hK _ ?_
      clear hK K
      refine q_run rfl (fun K hK => ?_)
      refine q_value ?_ (fun w' h' => ?_) ?_
      rotate_left
      · go_simp; try with_reducible rfl
      go_simp
      refine hK _ ?_
      clear hK K
      refine q_run rfl (fun K hK => ?_)
      refine q_value ?_ (fun w' h' => ?_) ?_
      rotate_left
      · go_simp; try with_reducible rfl
      go_simp
      refine hK _ ?_
      clear hK K
      refine q_run rfl (fun K hK => ?_)
      refine q_value ?_ (fun w' h' => ?_) ?_
      rotate_left
      · have c := (R.below h').ct hi hoff.out; go_simp; try with_reducible rfl
      go_simp
      refine hK _ ?_
      clear hK K
      refine q_run rfl (fun K hK => ?_)
      refine q_value ?_ (fun w' h' => ?_) ?_
      rotate_left
      · go_simp; try with_reducible rfl
      go_simp
      refine hK _ ?_
      clear hK K
      refine q_run rfl (fun K hK => ?_)
      refine q_value ?_ (fun w' h' => ?_) ?_
      rotate_left
      · go_simp; try with_reducible rfl
      go_simp
      refine hK _ ?_
      clear hK K
      refine q_run rfl (fun K hK => ?_)
      refine q_value ?_ (fun w' h' => ?_) ?_
      rotate_left
      · go_simp; try with_reducible rfl
      go_simp
      refine hK _ ?_
      clear hK K
      refine q_run rfl (fun K hK => ?_)
      refine q_value ?_ (fun w' h' => ?_) ?_
      rotate_left
      · go_simp; try with_reducible rfl
      go_simp
      refine hK _ ?_
      clear hK K
      refine q_run rfl (fun K hK => ?_)
      refine q_value ?_ (fun w' h' => ?_) ?_
      rotate_left
      · have c := (R.below h').aa hi hoff.out; go_simp; try with_reducible rfl
      go_simp
      refine hK _ ?_
      clear hK K
      refine q_run rfl (fun K hK => ?_)
      refine q_value ?_ (fun w' h' => ?_) ?_
      rotate_left
      · go_simp; try with_reducible rfl
      go_simp
      refine hK _ ?_
      clear hK K
      refine q_run rfl (fun K hK => ?_)
      refine q_value ?_ (fun w' h' => ?_) ?_
      rotate_left
      · go_simp; try with_reducible rfl
      go_simp
      refine hK _ ?_
      clear hK K
      refine q_run rfl (fun K hK => ?_)
      refine q_value ?_ (fun w' h' => ?_) ?_
      rotate_left
      · go_simp; try with_reducible rfl
      go_simp
      refine hK _ ?_
      clear hK K
      refine qd_nil ?_
      intro w13 h14
      replace X3 := keep X3 h14
      replace X4 := keep X4 h14
      replace R := R.below h14
      replace E := E.below h14
      clear h14
      go_upto_region 2 with (fail)
      refine wp_region_lit ?_
      refine wl_call rfl 38 #[.int .u32 3] (ansV 3 none 0 0 true) _ ?_ (toldC 3 w13) (fun w15 hd => ?_)
      · first | (go_simp; done) | (go_simp; rfl)
      intro K hK
      go_simp
      refine hK _ _ ?_
      clear hK K
      unfold ansV
      iterate 2
        refine wl_val rfl ?_ ?_ ?_
        rotate_left
        · go_simp; try with_reducible rfl
        intro K hK
        go_simp
        refine hK _ _ ?_
        clear hK K
      refine wl_store rfl 38 (.tmp 4) (.tmp 23) rfl b4 #[.int .u32 3, .slice none 0 0] rfl rfl 38 _ (keep X4 hd) (by kernel_rfl) rfl (by simp [Value.oneCell']) (fun w16 m1 m2 m3 m4 => ?_)
      intro K hK
      go_simp
      refine hK _ _ ?_
      clear hK K
      refine wl_val rfl (.bool true) ?_ ?_
      · go_simp
      intro K hK
      go_simp
      refine hK _ _ ?_
      clear hK K
      have Rf := (R.below hd).keep (m2 g hn4)
      have Ef := (E.below hd).put z4 m2 m3
      go_wp2
      exact ret_ans rfl b4 _ _ _ _ _ rfl rfl rfl m1 ⟨rfl, by rw [updS_same]; exact Rf, Ef⟩
    · obtain rfl : p = ⟨{ S i with count := IntKind.i64.wrap ((S i).count + 1) }, 0, true⟩ := by
        rw [hp.out]; unfold semP; rw [if_pos c2, if_neg ca]
      clear hp
      have q2 : (x.call == 2) = true := by simp [c2]
      have qa : ((S i).count == (S i).o.a) = false := by simp [ca]
      clear c2 ca
      go_upto_region 1 with (fail)
      refine quiet_all (fun w' => Below W.heap.size W w') (by kernel_rfl) (by kernel_rfl) (Below.drew (Below.refl _ _)) ?_
      refine q_run rfl (fun K hK => ?_)
      refine q_value ?_ (fun w' h' => ?_) ?_
      rotate_left
      · go_simp; try with_reducible rfl
      go_simp
      refine hK _ ?_
      clear hK K
      refine q_run rfl (fun K hK => ?_)
      refine q_value ?_ (fun w' h' => ?_) ?_
      rotate_left
      · have c := cell_of_row w' b3 2 _ 34 _ (keep X3 h'); go_simp; try with_reducible rfl
      go_simp
      refine hK _ ?_
      clear hK K
      refine q_run rfl (fun K hK => ?_)
      refine q_value ?_ (fun w' h' => ?_) ?_
      rotate_left
      · go_simp; try with_reducible rfl
      go_simp
      refine hK _ ?_
      clear hK K
      refine q_run rfl (fun K hK => ?_)
      refine q_value ?_ (fun w' h' => ?_) ?_
      rotate_left
      · go_simp; try with_reducible rfl
      go_simp
      refine hK _ ?_
      clear hK K
      refine q_run rfl (fun K hK => ?_)
      refine q_value ?_ (fun w' h' => ?_) ?_
      rotate_left
      · go_simp; try with_reducible rfl
      go_simp
      refine hK _ ?_
      clear hK K
      refine q_run rfl (fun K hK => ?_)
      refine q_value ?_ (fun w' h' => ?_) ?_
      rotate_left
      · go_simp; try with_reducible rfl
      go_simp
      refine hK _ ?_
      clear hK K
      refine q_run rfl (fun K hK => ?_)
      refine q_value ?_ (fun w' h' => ?_) ?_
      rotate_left
      · go_simp; try with_reducible rfl
      go_simp
      refine hK _ ?_
      clear hK K
      refine q_run rfl (fun K hK => ?_)
      refine q_value ?_ (fun w' h' => ?_) ?_
      rotate_left
      · have c := (R.below h').ct hi hoff.out; go_simp; try with_reducible rfl
      go_simp
      refine hK _ ?_
      clear hK K
      refine q_run rfl (fun K hK => ?_)
      refine q_value ?_ (fun w' h' => ?_) ?_
      rotate_left
      · go_simp; try with_reducible rfl
      go_simp
      refine hK _ ?_
      clear hK K
      refine q_run rfl (fun K hK => ?_)
      refine q_value ?_ (fun w' h' => ?_) ?_
      rotate_left
      · go_simp; try with_reducible rfl
      go_simp
      refine hK _ ?_
      clear hK K
      refine q_run rfl (fun K hK => ?_)
      refine q_value ?_ (fun w' h' => ?_) ?_
      rotate_left
      · go_simp; try with_reducible rfl
      go_simp
      refine hK _ ?_
      clear hK K
      refine q_run rfl (fun K hK => ?_)
      refine q_value ?_ (fun w' h' => ?_) ?_
      rotate_left
      · go_simp; try with_reducible rfl
      go_simp
      refine hK _ ?_
      clear hK K
      refine q_run rfl (fun K hK => ?_)
      refine q_value ?_ (fun w' h' => ?_) ?_
      rotate_left
      · have c := (R.below h').aa hi hoff.out; go_simp; try with_reducible rfl
      go_simp
      refine hK _ ?_
      clear hK K
      refine q_run rfl (fun K hK => ?_)
      refine q_value ?_ (fun w' h' => ?_) ?_
      rotate_left
      · go_simp; try with_reducible rfl
      go_simp
      refine hK _ ?_
      clear hK K
      refine q_run rfl (fun K hK => ?_)
      refine q_value ?_ (fun w' h' => ?_) ?_
      rotate_left
      · go_simp; try with_reducible rfl
      go_simp
      refine hK _ ?_
      clear hK K
      refine q_run rfl (fun K hK => ?_)
      refine q_value ?_ (fun w' h' => ?_) ?_
      rotate_left
      · go_simp; try with_reducible rfl
      go_simp
      refine hK _ ?_
      clear hK K
      refine qd_nil ?_
      intro w17 h18
      replace X3 := keep X3 h18
      replace X4 := keep X4 h18
      replace R := R.below h18
      replace E := E.below h18
      clear h18
      have y2 := cell_of_row w17 b3 2 _ 34 _ X3
      have yc := R.ct hi hoff.out
      go_upto_region 4 with (fail)
      refine wp_region_lit ?_
      iterate 7
        refine wl_val rfl ?_ ?_ ?_
        rotate_left
        · go_simp; try with_reducible rfl
        intro K hK
        go_simp
        refine hK _ _ ?_
        clear hK K
      refine wl_cell rfl 3 (.tmp 35) (.tmp 33) rfl g n i 19 off S { S i with count := IntKind.i64.wrap ((S i).count + 1) } (.int .i64 (IntKind.i64.wrap ((S i).count + 1))) rfl Tryd.sizeOf3 (st_int _) hi (by omega) hoff.out rfl rfl R (cs_cnt (S i) _) (fun w19 R' E' => ?_)
      intro K hK
      go_simp
      refine hK _ _ ?_
      clear hK K
      replace X3 := (E'.blk b3 (blk_lt X3) (fun e => hn3 e.symm)).trans X3
      replace X4 := (E'.blk b4 (blk_lt X4) (fun e => hn4 e.symm)).trans X4
      replace E := E.trans E'
      replace R := R'
      clear R' E'
      go_upto_region 5 with (fail)
      refine wp_region_lit ?_
      refine wl_call rfl 39 #[] (ansV 0 none 0 0 true) _ ?_ (fineC w19) (fun w20 hd => ?_)
      · first | (go_simp; done) | (go_simp; rfl)
      intro K hK
      go_simp
      refine hK _ _ ?_
      clear hK K
      unfold ansV
      iterate 2
        refine wl_val rfl ?_ ?_ ?_
        rotate_left
        · go_simp; try with_reducible rfl
        intro K hK
        go_simp
        refine hK _ _ ?_
        clear hK K
      refine wl_store rfl 38 (.tmp 4) (.tmp 37) rfl b4 #[.int .u32 0, .slice none 0 0] rfl rfl 38 _ (keep X4 hd) (by kernel_rfl) rfl (by simp [Value.oneCell']) (fun w21 m1 m2 m3 m4 => ?_)
      intro K hK
      go_simp
      refine hK _ _ ?_
      clear hK K
      refine wl_val rfl (.bool true) ?_ ?_
      · go_simp
      intro K hK
      go_simp
      refine hK _ _ ?_
      clear hK K
      have Rf := (R.below hd).keep (m2 g hn4)
      have Ef := (E.below hd).put z4 m2 m3
      go_wp2
      exact ret_ans rfl b4 _ _ _ _ _ rfl rfl rfl m1 ⟨rfl, Rf, Ef⟩
  · by_cases ca : (S i).count = 0
    · obtain rfl : p = ⟨S i, 0, false⟩ := by
        rw [hp.out]; unfold semP; rw [if_neg c2, if_pos ca]
      clear hp
      have q2 : (x.call == 2) = false := by simp [c2]
      have qa : ((S i).count == 0) = true := by simp [ca]
      clear c2 ca
      go_upto_region 1 with (fail)
      refine quiet_all (fun w' => Below W.heap.size W w') (by kernel_rfl) (by kernel_rfl) (Below.drew (Below.refl _ _)) ?_
      refine q_run rfl (fun K hK => ?_)
      refine q_value ?_ (fun w' h' => ?_) ?_
      rotate_left
      · go_simp; try with_reducible rfl
      go_simp
      refine hK _ ?_
      clear hK K
      refine q_run rfl (fun K hK => ?_)
      refine q_value ?_ (fun w' h' => ?_) ?_
      rotate_left
      · have c := cell_of_row w' b3 2 _ 34 _ (keep X3 h'); go_simp; try with_reducible rfl
      go_simp
      refine hK _ ?_
      clear hK K
      refine q_run rfl (fun K hK => ?_)
      refine q_value ?_ (fun w' h' => ?_) ?_
      rotate_left
      · go_simp; try with_reducible rfl
      go_simp
      refine hK _ ?_
      clear hK K
      refine q_run rfl (fun K hK => ?_)
      refine q_value ?_ (fun w' h' => ?_) ?_
      rotate_left
      · go_simp; try with_reducible rfl
      go_simp
      refine hK _ ?_
      clear hK K
      refine q_skip rfl (fun K hK => ?_)
      go_simp
      refine hK _ ?_
      clear hK K
      refine q_skip rfl (fun K hK => ?_)
      go_simp
      refine hK _ ?_
      clear hK K
      refine q_skip rfl (fun K hK => ?_)
      go_simp
      refine hK _ ?_
      clear hK K
      refine q_skip rfl (fun K hK => ?_)
      go_simp
      refine hK _ ?_
      clear hK K
      refine q_skip rfl (fun K hK => ?_)
      go_simp
      refine hK _ ?_
      clear hK K
      refine q_skip rfl (fun K hK => ?_)
      go_simp
      refine hK _ ?_
      clear hK K
      refine q_skip rfl (fun K hK => ?_)
      go_simp
      refine hK _ ?_
      clear hK K
      refine q_skip rfl (fun K hK => ?_)
      go_simp
      refine hK _ ?_
      clear hK K
      refine q_skip rfl (fun K hK => ?_)
      go_simp
      refine hK _ ?_
      clear hK K
      refine q_skip rfl (fun K hK => ?_)
      go_simp
      refine hK _ ?_
      clear hK K
      refine q_run rfl (fun K hK => ?_)
      refine q_value ?_ (fun w' h' => ?_) ?_
      rotate_left
      · go_simp; try with_reducible rfl
      go_simp
      refine hK _ ?_
      clear hK K
      refine q_run rfl (fun K hK => ?_)
      refine q_value ?_ (fun w' h' => ?_) ?_
      rotate_left
      · go_simp; try with_reducible rfl
      go_simp
      refine hK _ ?_
      clear hK K
      refine qd_nil ?_
      intro w22 h23
      replace X3 := keep X3 h23
      replace X4 := keep X4 h23
      replace R := R.below h23
      replace E := E.below h23
      clear h23
      have y2 := cell_of_row w22 b3 2 _ 34 _ X3
      have yc := R.ct hi hoff.out
      go_upto_region 7 with (fail)
      refine wp_region_lit ?_
      refine wl_call rfl 18 #[] (ansV 0 none 0 0 false) _ ?_ (notC w22) (fun w24 hd => ?_)
      · first | (go_simp; done) | (go_simp; rfl)
      intro K hK
      go_simp
      refine hK _ _ ?_
      clear hK K
      unfold ansV
      iterate 2
        refine wl_val rfl ?_ ?_ ?_
        rotate_left
        · go_simp; try with_reducible rfl
        intro K hK
        go_simp
        refine hK _ _ ?_
        clear hK K
      refine wl_store rfl 38 (.tmp 4) (.tmp 46) rfl b4 #[.int .u32 0, .slice none 0 0] rfl rfl 38 _ (keep X4 hd) (by kernel_rfl) rfl (by simp [Value.oneCell']) (fun w25 m1 m2 m3 m4 => ?_)
      intro K hK
      go_simp
      refine hK _ _ ?_
      clear hK K
      refine wl_val rfl (.bool false) ?_ ?_
      · go_simp
      intro K hK
      go_simp
      refine hK _ _ ?_
      clear hK K
      have Rf := (R.below hd).keep (m2 g hn4)
      have Ef := (E.below hd).put z4 m2 m3
      go_wp2
      exact ret_ans rfl b4 _ _ _ _ _ rfl rfl rfl m1 ⟨rfl, by rw [updS_same]; exact Rf, Ef⟩
    · obtain rfl : p = ⟨{ S i with count := IntKind.i64.wrap ((S i).count - 1) }, 0, true⟩ := by
        rw [hp.out]; unfold semP; rw [if_neg c2, if_neg ca]
      clear hp
      have q2 : (x.call == 2) = false := by simp [c2]
      have qa : ((S i).count == 0) = false := by simp [ca]
      clear c2 ca
      go_upto_region 1 with (fail)
      refine quiet_all (fun w' => Below W.heap.size W w') (by kernel_rfl) (by kernel_rfl) (Below.drew (Below.refl _ _)) ?_
      refine q_run rfl (fun K hK => ?_)
      refine q_value ?_ (fun w' h' => ?_) ?_
      rotate_left
      · go_simp; try with_reducible rfl
      go_simp
      refine hK _ ?_
      clear hK K
      refine q_run rfl (fun K hK => ?_)
      refine q_value ?_ (fun w' h' => ?_) ?_
      rotate_left
      · have c := cell_of_row w' b3 2 _ 34 _ (keep X3 h'); go_simp; try with_reducible rfl
      go_simp
      refine hK _ ?_
      clear hK K
      refine q_run rfl (fun K hK => ?_)
      refine q_value ?_ (fun w' h' => ?_) ?_
      rotate_left
      · go_simp; try with_reducible rfl
      go_simp
      refine hK _ ?_
      clear hK K
      refine q_run rfl (fun K hK => ?_)
      refine q_value ?_ (fun w' h' => ?_) ?_
      rotate_left
      · go_simp; try with_reducible rfl
      go_simp
      refine hK _ ?_
      clear hK K
      refine q_skip rfl (fun K hK => ?_)
      go_simp
      refine hK _ ?_
      clear hK K
      refine q_skip rfl (fun K hK => ?_)
      go_simp
      refine hK _ ?_
      clear hK K
      refine q_skip rfl (fun K hK => ?_)
      go_simp
      refine hK _ ?_
      clear hK K
      refine q_skip rfl (fun K hK => ?_)
      go_simp
      refine hK _ ?_
      clear hK K
      refine q_skip rfl (fun K hK => ?_)
      go_simp
      refine hK _ ?_
      clear hK K
      refine q_skip rfl (fun K hK => ?_)
      go_simp
      refine hK _ ?_
      clear hK K
      refine q_skip rfl (fun K hK => ?_)
      go_simp
      refine hK _ ?_
      clear hK K
      refine q_skip rfl (fun K hK => ?_)
      go_simp
      refine hK _ ?_
      clear hK K
      refine q_skip rfl (fun K hK => ?_)
      go_simp
      refine hK _ ?_
      clear hK K
      refine q_skip rfl (fun K hK => ?_)
      go_simp
      refine hK _ ?_
      clear hK K
      refine q_run rfl (fun K hK => ?_)
      refine q_value ?_ (fun w' h' => ?_) ?_
      rotate_left
      · go_simp; try with_reducible rfl
      go_simp
      refine hK _ ?_
      clear hK K
      refine q_run rfl (fun K hK => ?_)
      refine q_value ?_ (fun w' h' => ?_) ?_
      rotate_left
      · go_simp; try with_reducible rfl
      go_simp
      refine hK _ ?_
      clear hK K
      refine qd_nil ?_
      intro w26 h27
      replace X3 := keep X3 h27
      replace X4 := keep X4 h27
      replace R := R.below h27
      replace E := E.below h27
      clear h27
      have y2 := cell_of_row w26 b3 2 _ 34 _ X3
      have yc := R.ct hi hoff.out
      go_upto_region 8 with (fail)
      refine wp_region_lit ?_
      iterate 7
        refine wl_val rfl ?_ ?_ ?_
        rotate_left
        · go_simp; try with_reducible rfl
        intro K hK
        go_simp
        refine hK _ _ ?_
        clear hK K
      refine wl_cell rfl 3 (.tmp 54) (.tmp 52) rfl g n i 19 off S { S i with count := IntKind.i64.wrap ((S i).count - 1) } (.int .i64 (IntKind.i64.wrap ((S i).count - 1))) rfl Tryd.sizeOf3 (st_int _) hi (by omega) hoff.out rfl rfl R (cs_cnt (S i) _) (fun w28 R' E' => ?_)
      intro K hK
      go_simp
      refine hK _ _ ?_
      clear hK K
      replace X3 := (E'.blk b3 (blk_lt X3) (fun e => hn3 e.symm)).trans X3
      replace X4 := (E'.blk b4 (blk_lt X4) (fun e => hn4 e.symm)).trans X4
      replace E := E.trans E'
      replace R := R'
      clear R' E'
      go_upto_region 9 with (fail)
      refine wp_region_lit ?_
      refine wl_call rfl 39 #[] (ansV 0 none 0 0 true) _ ?_ (fineC w28) (fun w29 hd => ?_)
      · first | (go_simp; done) | (go_simp; rfl)
      intro K hK
      go_simp
      refine hK _ _ ?_
      clear hK K
      unfold ansV
      iterate 2
        refine wl_val rfl ?_ ?_ ?_
        rotate_left
        · go_simp; try with_reducible rfl
        intro K hK
        go_simp
        refine hK _ _ ?_
        clear hK K
      refine wl_store rfl 38 (.tmp 4) (.tmp 56) rfl b4 #[.int .u32 0, .slice none 0 0] rfl rfl 38 _ (keep X4 hd) (by kernel_rfl) rfl (by simp [Value.oneCell']) (fun w30 m1 m2 m3 m4 => ?_)
      intro K hK
      go_simp
      refine hK _ _ ?_
      clear hK K
      refine wl_val rfl (.bool true) ?_ ?_
      · go_simp
      intro K hK
      go_simp
      refine hK _ _ ?_
      clear hK K
      have Rf := (R.below hd).keep (m2 g hn4)
      have Ef := (E.below hd).put z4 m2 m3
      go_wp2
      exact ret_ans rfl b4 _ _ _ _ _ rfl rfl rfl m1 ⟨rfl, Rf, Ef⟩
set_option maxRecDepth 100000 in
set_option maxHeartbeats 8000000 in
theorem condC (S : Nat → St) (g n i off : Nat) (hi : i < n) (hoff : Hid (off = i * 38)) (x : Ak) (w0 : World) (hR : Row w0 g n S) : Calls Tryd.prog 23 #[.pointer (some ⟨g, off, none⟩), akV x] w0 fun e w' => e = .returned (ansV ((⟨S i, 0, true⟩ : Out)).r none 0 0 ((⟨S i, 0, true⟩ : Out)).ok) ∧ Row w' g n (updS S i ((⟨S i, 0, true⟩ : Out)).s) ∧ Exc g w0 w' := by
  obtain ⟨p, hp⟩ : ∃ p, Hid (p = (⟨S i, 0, true⟩ : Out)) := ⟨_, rfl⟩
  rw [← hp.out]
  unfold akV akC
  go_enter Tryd.func23, Tryd.ntmps23
  go_upto_region 1 with (fail)
  obtain ⟨W, b3, b4, e0, e1, e2, X3, X4, hal⟩ := box2 w0 #[.int .i64 x.who, .int .i64 x.obj, .int .i64 x.call, .int .i64 x.part, .int .u32 x.arg, .int .u32 x.val] #[.int .u32 0, .slice none 0 0] 34 38
  rw [e0, e2, e1]
  have z3 : w0.heap.size ≤ b3 := Nat.le_of_eq e1
  have z4 : w0.heap.size ≤ b4 := by omega
  have hgl := hR.lt
  have hn3 : g ≠ b3 := by omega
  have hn4 : g ≠ b4 := by omega
  clear e0 e2 e1
  have R := hR.below hal
  have E : Exc g w0 W := Exc.of_below hal
  clear hal
  obtain rfl : p = ⟨S i, 0, true⟩ := hp.out
  clear hp
  go_upto_region 1 with (fail)
  refine wp_region_lit ?_
  refine wl_call rfl 39 #[] (ansV 0 none 0 0 true) _ ?_ (fineC W) (fun w31 hd => ?_)
  · first | (go_simp; done) | (go_simp; rfl)
  intro K hK
  go_simp
  refine hK _ _ ?_
  clear hK K
  unfold ansV
  iterate 2
    refine wl_val rfl ?_ ?_ ?_
    rotate_left
    · go_simp; try with_reducible rfl
    intro K hK
    go_simp
    refine hK _ _ ?_
    clear hK K
  refine wl_store rfl 38 (.tmp 4) (.tmp 7) rfl b4 #[.int .u32 0, .slice none 0 0] rfl rfl 38 _ (keep X4 hd) (by kernel_rfl) rfl (by simp [Value.oneCell']) (fun w32 m1 m2 m3 m4 => ?_)
  intro K hK
  go_simp
  refine hK _ _ ?_
  clear hK K
  refine wl_val rfl (.bool true) ?_ ?_
  · go_simp
  intro K hK
  go_simp
  refine hK _ _ ?_
  clear hK K
  have Rf := (R.below hd).keep (m2 g hn4)
  have Ef := (E.below hd).put z4 m2 m3
  go_wp2
  exact ret_ans rfl b4 _ _ _ _ _ rfl rfl rfl m1 ⟨rfl, by rw [updS_same]; exact Rf, Ef⟩
def onceP (s : St) (x : Ak) : Out :=
  if x.call = 10 then (if s.owner = x.who then ⟨{ s with owner := -1, done := true }, 0, true⟩ else ⟨s, 2, true⟩)
  else if s.owner = x.who then ⟨s, 1, true⟩ else if s.done = true then ⟨s, 0, true⟩ else if 0 ≤ s.owner then ⟨s, 0, false⟩ else ⟨{ s with owner := x.who }, 5, true⟩
set_option maxRecDepth 100000 in
set_option maxHeartbeats 8000000 in
theorem onceC (S : Nat → St) (g n i off : Nat) (hi : i < n) (hoff : Hid (off = i * 38)) (x : Ak) (w0 : World) (hR : Row w0 g n S) : Calls Tryd.prog 26 #[.pointer (some ⟨g, off, none⟩), akV x] w0 fun e w' => e = .returned (ansV (onceP (S i) x).r none 0 0 (onceP (S i) x).ok) ∧ Row w' g n (updS S i (onceP (S i) x).s) ∧ Exc g w0 w' := by
  obtain ⟨p, hp⟩ : ∃ p, Hid (p = onceP (S i) x) := ⟨_, rfl⟩
  rw [← hp.out]
  unfold akV akC
  go_enter Tryd.func26, Tryd.ntmps26
  go_upto_region 1 with (fail)
  obtain ⟨W, b3, b4, e0, e1, e2, X3, X4, hal⟩ := box2 w0 #[.int .i64 x.who, .int .i64 x.obj, .int .i64 x.call, .int .i64 x.part, .int .u32 x.arg, .int .u32 x.val] #[.int .u32 0, .slice none 0 0] 34 38
  rw [e0, e2, e1]
  have z3 : w0.heap.size ≤ b3 := Nat.le_of_eq e1
  have z4 : w0.heap.size ≤ b4 := by omega
  have hgl := hR.lt
  have hn3 : g ≠ b3 := by omega
  have hn4 : g ≠ b4 := by omega
  clear e0 e2 e1
  have R := hR.below hal
  have E : Exc g w0 W := Exc.of_below hal
  clear hal
  by_cases c2 : x.call = 10
  · by_cases co : (S i).owner = x.who
    · obtain rfl : p = ⟨{ S i with owner := -1, done := true }, 0, true⟩ := by
        rw [hp.out]; unfold onceP; rw [if_pos c2, if_pos co]
      clear hp
      have q2 : (x.call == 10) = true := by simp [c2]
      have qo : ((S i).owner == x.who) = true := by simp [co]
      clear c2 co
      go_upto_region 1 with (fail)
      refine quiet_all (fun w' => Below W.heap.size W w') (by kernel_rfl) (by kernel_rfl) (Below.drew (Below.refl _ _)) ?_
      refine q_run rfl (fun K hK => ?_)
      refine q_value ?_ (fun w' h' => ?_) ?_
      rotate_left
      · go_simp; try with_reducible rfl
      go_simp
      refine hK _ ?_
      clear hK K
      refine q_run rfl (fun K hK => ?_)
      refine q_value ?_ (fun w' h' => ?_) ?_
      rotate_left
      · go_simp; try with_reducible rfl
      go_simp
      refine hK _ ?_
      clear hK K
      refine q_run rfl (fun K hK => ?_)
      refine q_value ?_ (fun w' h' => ?_) ?_
      rotate_left
      · go_simp; try with_reducible rfl
      go_simp
      refine hK _ ?_
      clear hK K
      refine q_run rfl (fun K hK => ?_)
      refine q_value ?_ (fun w' h' => ?_) ?_
      rotate_left
      · have c := (R.below h').own hi hoff.out; go_simp; try with_reducible rfl
      go_simp
      refine hK _ ?_
      clear hK K
      refine q_run rfl (fun K hK => ?_)
      refine q_value ?_ (fun w' h' => ?_) ?_
      rotate_left
      · go_simp; try with_reducible rfl
      go_simp
      refine hK _ ?_
      clear hK K
      refine q_run rfl (fun K hK => ?_)
      refine q_value ?_ (fun w' h' => ?_) ?_
      rotate_left
      · have c := cell_of_row w' b3 0 _ 34 _ (keep X3 h'); go_simp; try with_reducible rfl
      go_simp
      refine hK _ ?_
      clear hK K
      refine q_run rfl (fun K hK => ?_)
      refine q_value ?_ (fun w' h' => ?_) ?_
      rotate_left
      · go_simp; try with_reducible rfl
      go_simp
      refine hK _ ?_
      clear hK K
      refine q_run rfl (fun K hK => ?_)
      refine q_value ?_ (fun w' h' => ?_) ?_
      rotate_left
      · go_simp; try with_reducible rfl
      go_simp
      refine hK _ ?_
      clear hK K
      refine qd_nil ?_
      intro w33 h34
      replace X3 := keep X3 h34
      replace X4 := keep X4 h34
      replace R := R.below h34
      replace E := E.below h34
      clear h34
      have y2 := cell_of_row w33 b3 2 _ 34 _ X3
      go_upto_region 5 with (fail)
      refine wp_region_lit ?_
      iterate 4
        refine wl_val rfl ?_ ?_ ?_
        rotate_left
        · go_simp; try with_reducible rfl
        intro K hK
        go_simp
        refine hK _ _ ?_
        clear hK K
      refine wl_cell rfl 3 (.tmp 32) (.const (.int .i64 (-1))) rfl g n i 4 off S { S i with owner := -1 } (.int .i64 (-1)) rfl Tryd.sizeOf3 (st_int (-1)) hi (by omega) hoff.out rfl rfl R (cs_own (S i) (-1)) (fun w35 R' E' => ?_)
      intro K hK
      go_simp
      refine hK _ _ ?_
      clear hK K
      replace X3 := (E'.blk b3 (blk_lt X3) (fun e => hn3 e.symm)).trans X3
      replace X4 := (E'.blk b4 (blk_lt X4) (fun e => hn4 e.symm)).trans X4
      replace E := E.trans E'
      replace R := R'
      clear R' E'
      iterate 2
        refine wl_val rfl ?_ ?_ ?_
        rotate_left
        · go_simp; try with_reducible rfl
        intro K hK
        go_simp
        refine hK _ _ ?_
        clear hK K
      refine wl_cell rfl 4 (.tmp 34) (.const (.bool true)) rfl g n i 20 off (updS S i { S i with owner := -1 }) { S i with owner := -1, done := true } (.bool true) rfl Tryd.sizeOf4 (st_bool true) hi (by omega) hoff.out rfl rfl R (by rw [updS_at]; exact (cs_dn { S i with owner := -1 } true)) (fun w36 R' E' => ?_)
      intro K hK
      go_simp
      refine hK _ _ ?_
      clear hK K
      replace X3 := (E'.blk b3 (blk_lt X3) (fun e => hn3 e.symm)).trans X3
      replace X4 := (E'.blk b4 (blk_lt X4) (fun e => hn4 e.symm)).trans X4
      replace E := E.trans E'
      rw [updS_updS] at R'
      replace R := R'
      clear R' E'
      go_upto_region 6 with (fail)
      refine wp_region_lit ?_
      refine wl_call rfl 39 #[] (ansV 0 none 0 0 true) _ ?_ (fineC w36) (fun w37 hd => ?_)
      · first | (go_simp; done) | (go_simp; rfl)
      intro K hK
      go_simp
      refine hK _ _ ?_
      clear hK K
      unfold ansV
      iterate 2
        refine wl_val rfl ?_ ?_ ?_
        rotate_left
        · go_simp; try with_reducible rfl
        intro K hK
        go_simp
        refine hK _ _ ?_
        clear hK K
      refine wl_store rfl 38 (.tmp 4) (.tmp 36) rfl b4 #[.int .u32 0, .slice none 0 0] rfl rfl 38 _ (keep X4 hd) (by kernel_rfl) rfl (by simp [Value.oneCell']) (fun w38 m1 m2 m3 m4 => ?_)
      intro K hK
      go_simp
      refine hK _ _ ?_
      clear hK K
      refine wl_val rfl (.bool true) ?_ ?_
      · go_simp
      intro K hK
      go_simp
      refine hK _ _ ?_
      clear hK K
      have Rf := (R.below hd).keep (m2 g hn4)
      have Ef := (E.below hd).put z4 m2 m3
      go_wp2
      exact ret_ans rfl b4 _ _ _ _ _ rfl rfl rfl m1 ⟨rfl, Rf, Ef⟩
    · obtain rfl : p = ⟨S i, 2, true⟩ := by
        rw [hp.out]; unfold onceP; rw [if_pos c2, if_neg co]
      clear hp
      have q2 : (x.call == 10) = true := by simp [c2]
      have qo : ((S i).owner == x.who) = false := by simp [co]
      clear c2 co
      go_upto_region 1 with (fail)
      refine quiet_all (fun w' => Below W.heap.size W w') (by kernel_rfl) (by kernel_rfl) (Below.drew (Below.refl _ _)) ?_
      refine q_run rfl (fun K hK => ?_)
      refine q_value ?_ (fun w' h' => ?_) ?_
      rotate_left
      · go_simp; try with_reducible rfl
      go_simp
      refine hK _ ?_
      clear hK K
      refine q_run rfl (fun K hK => ?_)
      refine q_value ?_ (fun w' h' => ?_) ?_
      rotate_left
      · go_simp; try with_reducible rfl
      go_simp
      refine hK _ ?_
      clear hK K
      refine q_run rfl (fun K hK => ?_)
      refine q_value ?_ (fun w' h' => ?_) ?_
      rotate_left
      · go_simp; try with_reducible rfl
      go_simp
      refine hK _ ?_
      clear hK K
      refine q_run rfl (fun K hK => ?_)
      refine q_value ?_ (fun w' h' => ?_) ?_
      rotate_left
      · have c := (R.below h').own hi hoff.out; go_simp; try with_reducible rfl
      go_simp
      refine hK _ ?_
      clear hK K
      refine q_run rfl (fun K hK => ?_)
      refine q_value ?_ (fun w' h' => ?_) ?_
      rotate_left
      · go_simp; try with_reducible rfl
      go_simp
      refine hK _ ?_
      clear hK K
      refine q_run rfl (fun K hK => ?_)
      refine q_value ?_ (fun w' h' => ?_) ?_
      rotate_left
      · have c := cell_of_row w' b3 0 _ 34 _ (keep X3 h'); go_simp; try with_reducible rfl
      go_simp
      refine hK _ ?_
      clear hK K
      refine q_run rfl (fun K hK => ?_)
      refine q_value ?_ (fun w' h' => ?_) ?_
      rotate_left
      · go_simp; try with_reducible rfl
      go_simp
      refine hK _ ?_
      clear hK K
      refine q_run rfl (fun K hK => ?_)
      refine q_value ?_ (fun w' h' => ?_) ?_
      rotate_left
      · go_simp; try with_reducible rfl
      go_simp
      refine hK _ ?_
      clear hK K
      refine qd_nil ?_
      intro w39 h40
      replace X3 := keep X3 h40
      replace X4 := keep X4 h40
      replace R := R.below h40
      replace E := E.below h40
      clear h40
      have y2 := cell_of_row w39 b3 2 _ 34 _ X3
      go_upto_region 3 with (fail)
      refine wp_region_lit ?_
      refine wl_call rfl 38 #[.int .u32 2] (ansV 2 none 0 0 true) _ ?_ (toldC 2 w39) (fun w41 hd => ?_)
      · first | (go_simp; done) | (go_simp; rfl)
      intro K hK
      go_simp
      refine hK _ _ ?_
      clear hK K
      unfold ansV
      iterate 2
        refine wl_val rfl ?_ ?_ ?_
        rotate_left
        · go_simp; try with_reducible rfl
        intro K hK
        go_simp
        refine hK _ _ ?_
        clear hK K
      refine wl_store rfl 38 (.tmp 4) (.tmp 23) rfl b4 #[.int .u32 2, .slice none 0 0] rfl rfl 38 _ (keep X4 hd) (by kernel_rfl) rfl (by simp [Value.oneCell']) (fun w42 m1 m2 m3 m4 => ?_)
      intro K hK
      go_simp
      refine hK _ _ ?_
      clear hK K
      refine wl_val rfl (.bool true) ?_ ?_
      · go_simp
      intro K hK
      go_simp
      refine hK _ _ ?_
      clear hK K
      have Rf := (R.below hd).keep (m2 g hn4)
      have Ef := (E.below hd).put z4 m2 m3
      go_wp2
      exact ret_ans rfl b4 _ _ _ _ _ rfl rfl rfl m1 ⟨rfl, by rw [updS_same]; exact Rf, Ef⟩
  · by_cases co : (S i).owner = x.who
    · obtain rfl : p = ⟨S i, 1, true⟩ := by
        rw [hp.out]; unfold onceP; rw [if_neg c2, if_pos co]
      clear hp
      have q2 : (x.call == 10) = false := by simp [c2]
      have qo : ((S i).owner == x.who) = true := by simp [co]
      clear c2 co
      go_upto_region 1 with (fail)
      refine quiet_all (fun w' => Below W.heap.size W w') (by kernel_rfl) (by kernel_rfl) (Below.drew (Below.refl _ _)) ?_
      refine q_run rfl (fun K hK => ?_)
      refine q_value ?_ (fun w' h' => ?_) ?_
      rotate_left
      · go_simp; try with_reducible rfl
      go_simp
      refine hK _ ?_
      clear hK K
      refine q_run rfl (fun K hK => ?_)
      refine q_value ?_ (fun w' h' => ?_) ?_
      rotate_left
      · go_simp; try with_reducible rfl
      go_simp
      refine hK _ ?_
      clear hK K
      refine q_run rfl (fun K hK => ?_)
      refine q_value ?_ (fun w' h' => ?_) ?_
      rotate_left
      · go_simp; try with_reducible rfl
      go_simp
      refine hK _ ?_
      clear hK K
      refine q_run rfl (fun K hK => ?_)
      refine q_value ?_ (fun w' h' => ?_) ?_
      rotate_left
      · have c := (R.below h').own hi hoff.out; go_simp; try with_reducible rfl
      go_simp
      refine hK _ ?_
      clear hK K
      refine q_run rfl (fun K hK => ?_)
      refine q_value ?_ (fun w' h' => ?_) ?_
      rotate_left
      · go_simp; try with_reducible rfl
      go_simp
      refine hK _ ?_
      clear hK K
      refine q_run rfl (fun K hK => ?_)
      refine q_value ?_ (fun w' h' => ?_) ?_
      rotate_left
      · have c := cell_of_row w' b3 0 _ 34 _ (keep X3 h'); go_simp; try with_reducible rfl
      go_simp
      refine hK _ ?_
      clear hK K
      refine q_run rfl (fun K hK => ?_)
      refine q_value ?_ (fun w' h' => ?_) ?_
      rotate_left
      · go_simp; try with_reducible rfl
      go_simp
      refine hK _ ?_
      clear hK K
      refine q_run rfl (fun K hK => ?_)
      refine q_value ?_ (fun w' h' => ?_) ?_
      rotate_left
      · go_simp; try with_reducible rfl
      go_simp
      refine hK _ ?_
      clear hK K
      refine qd_nil ?_
      intro w43 h44
      replace X3 := keep X3 h44
      replace X4 := keep X4 h44
      replace R := R.below h44
      replace E := E.below h44
      clear h44
      have y2 := cell_of_row w43 b3 2 _ 34 _ X3
      go_upto_region 8 with (fail)
      refine wp_region_lit ?_
      refine wl_call rfl 38 #[.int .u32 1] (ansV 1 none 0 0 true) _ ?_ (toldC 1 w43) (fun w45 hd => ?_)
      · first | (go_simp; done) | (go_simp; rfl)
      intro K hK
      go_simp
      refine hK _ _ ?_
      clear hK K
      unfold ansV
      iterate 2
        refine wl_val rfl ?_ ?_ ?_
        rotate_left
        · go_simp; try with_reducible rfl
        intro K hK
        go_simp
        refine hK _ _ ?_
        clear hK K
      refine wl_store rfl 38 (.tmp 4) (.tmp 41) rfl b4 #[.int .u32 1, .slice none 0 0] rfl rfl 38 _ (keep X4 hd) (by kernel_rfl) rfl (by simp [Value.oneCell']) (fun w46 m1 m2 m3 m4 => ?_)
      intro K hK
      go_simp
      refine hK _ _ ?_
      clear hK K
      refine wl_val rfl (.bool true) ?_ ?_
      · go_simp
      intro K hK
      go_simp
      refine hK _ _ ?_
      clear hK K
      have Rf := (R.below hd).keep (m2 g hn4)
      have Ef := (E.below hd).put z4 m2 m3
      go_wp2
      exact ret_ans rfl b4 _ _ _ _ _ rfl rfl rfl m1 ⟨rfl, by rw [updS_same]; exact Rf, Ef⟩
    · by_cases cd : (S i).done = true
      · obtain rfl : p = ⟨S i, 0, true⟩ := by
          rw [hp.out]; unfold onceP; rw [if_neg c2, if_neg co, if_pos cd]
        clear hp
        have q2 : (x.call == 10) = false := by simp [c2]
        have qo : ((S i).owner == x.who) = false := by simp [co]
        clear c2 co
        go_upto_region 1 with (fail)
        refine quiet_all (fun w' => Below W.heap.size W w') (by kernel_rfl) (by kernel_rfl) (Below.drew (Below.refl _ _)) ?_
        refine q_run rfl (fun K hK => ?_)
        refine q_value ?_ (fun w' h' => ?_) ?_
        rotate_left
        · go_simp; try with_reducible rfl
        go_simp
        refine hK _ ?_
        clear hK K
        refine q_run rfl (fun K hK => ?_)
        refine q_value ?_ (fun w' h' => ?_) ?_
        rotate_left
        · go_simp; try with_reducible rfl
        go_simp
        refine hK _ ?_
        clear hK K
        refine q_run rfl (fun K hK => ?_)
        refine q_value ?_ (fun w' h' => ?_) ?_
        rotate_left
        · go_simp; try with_reducible rfl
        go_simp
        refine hK _ ?_
        clear hK K
        refine q_run rfl (fun K hK => ?_)
        refine q_value ?_ (fun w' h' => ?_) ?_
        rotate_left
        · have c := (R.below h').own hi hoff.out; go_simp; try with_reducible rfl
        go_simp
        refine hK _ ?_
        clear hK K
        refine q_run rfl (fun K hK => ?_)
        refine q_value ?_ (fun w' h' => ?_) ?_
        rotate_left
        · go_simp; try with_reducible rfl
        go_simp
        refine hK _ ?_
        clear hK K
        refine q_run rfl (fun K hK => ?_)
        refine q_value ?_ (fun w' h' => ?_) ?_
        rotate_left
        · have c := cell_of_row w' b3 0 _ 34 _ (keep X3 h'); go_simp; try with_reducible rfl
        go_simp
        refine hK _ ?_
        clear hK K
        refine q_run rfl (fun K hK => ?_)
        refine q_value ?_ (fun w' h' => ?_) ?_
        rotate_left
        · go_simp; try with_reducible rfl
        go_simp
        refine hK _ ?_
        clear hK K
        refine q_run rfl (fun K hK => ?_)
        refine q_value ?_ (fun w' h' => ?_) ?_
        rotate_left
        · go_simp; try with_reducible rfl
        go_simp
        refine hK _ ?_
        clear hK K
        refine qd_nil ?_
        intro w47 h48
        replace X3 := keep X3 h48
        replace X4 := keep X4 h48
        replace R := R.below h48
        replace E := E.below h48
        clear h48
        have y2 := cell_of_row w47 b3 2 _ 34 _ X3
        have yd := R.dn hi hoff.out
        rw [cd] at yd
        clear cd
        go_upto_region 10 with (fail)
        refine wp_region_lit ?_
        refine wl_call rfl 39 #[] (ansV 0 none 0 0 true) _ ?_ (fineC w47) (fun w49 hd => ?_)
        · first | (go_simp; done) | (go_simp; rfl)
        intro K hK
        go_simp
        refine hK _ _ ?_
        clear hK K
        unfold ansV
        iterate 2
          refine wl_val rfl ?_ ?_ ?_
          rotate_left
          · go_simp; try with_reducible rfl
          intro K hK
          go_simp
          refine hK _ _ ?_
          clear hK K
        refine wl_store rfl 38 (.tmp 4) (.tmp 49) rfl b4 #[.int .u32 0, .slice none 0 0] rfl rfl 38 _ (keep X4 hd) (by kernel_rfl) rfl (by simp [Value.oneCell']) (fun w50 m1 m2 m3 m4 => ?_)
        intro K hK
        go_simp
        refine hK _ _ ?_
        clear hK K
        refine wl_val rfl (.bool true) ?_ ?_
        · go_simp
        intro K hK
        go_simp
        refine hK _ _ ?_
        clear hK K
        have Rf := (R.below hd).keep (m2 g hn4)
        have Ef := (E.below hd).put z4 m2 m3
        go_wp2
        exact ret_ans rfl b4 _ _ _ _ _ rfl rfl rfl m1 ⟨rfl, by rw [updS_same]; exact Rf, Ef⟩
      · by_cases cg : 0 ≤ (S i).owner
        · obtain rfl : p = ⟨S i, 0, false⟩ := by
            rw [hp.out]; unfold onceP; rw [if_neg c2, if_neg co, if_neg cd, if_pos cg]
          clear hp
          have q2 : (x.call == 10) = false := by simp [c2]
          have qo : ((S i).owner == x.who) = false := by simp [co]
          clear c2 co
          go_upto_region 1 with (fail)
          refine quiet_all (fun w' => Below W.heap.size W w') (by kernel_rfl) (by kernel_rfl) (Below.drew (Below.refl _ _)) ?_
          refine q_run rfl (fun K hK => ?_)
          refine q_value ?_ (fun w' h' => ?_) ?_
          rotate_left
          · go_simp; try with_reducible rfl
          go_simp
          refine hK _ ?_
          clear hK K
          refine q_run rfl (fun K hK => ?_)
          refine q_value ?_ (fun w' h' => ?_) ?_
          rotate_left
          · go_simp; try with_reducible rfl
          go_simp
          refine hK _ ?_
          clear hK K
          refine q_run rfl (fun K hK => ?_)
          refine q_value ?_ (fun w' h' => ?_) ?_
          rotate_left
          · go_simp; try with_reducible rfl
          go_simp
          refine hK _ ?_
          clear hK K
          refine q_run rfl (fun K hK => ?_)
          refine q_value ?_ (fun w' h' => ?_) ?_
          rotate_left
          · have c := (R.below h').own hi hoff.out; go_simp; try with_reducible rfl
          go_simp
          refine hK _ ?_
          clear hK K
          refine q_run rfl (fun K hK => ?_)
          refine q_value ?_ (fun w' h' => ?_) ?_
          rotate_left
          · go_simp; try with_reducible rfl
          go_simp
          refine hK _ ?_
          clear hK K
          refine q_run rfl (fun K hK => ?_)
          refine q_value ?_ (fun w' h' => ?_) ?_
          rotate_left
          · have c := cell_of_row w' b3 0 _ 34 _ (keep X3 h'); go_simp; try with_reducible rfl
          go_simp
          refine hK _ ?_
          clear hK K
          refine q_run rfl (fun K hK => ?_)
          refine q_value ?_ (fun w' h' => ?_) ?_
          rotate_left
          · go_simp; try with_reducible rfl
          go_simp
          refine hK _ ?_
          clear hK K
          refine q_run rfl (fun K hK => ?_)
          refine q_value ?_ (fun w' h' => ?_) ?_
          rotate_left
          · go_simp; try with_reducible rfl
          go_simp
          refine hK _ ?_
          clear hK K
          refine qd_nil ?_
          intro w51 h52
          replace X3 := keep X3 h52
          replace X4 := keep X4 h52
          replace R := R.below h52
          replace E := E.below h52
          clear h52
          have y2 := cell_of_row w51 b3 2 _ 34 _ X3
          have yd := R.dn hi hoff.out
          have yo := R.own hi hoff.out
          rw [Bool.eq_false_iff.2 cd] at yd
          clear cd
          go_upto_region 12 with (fail)
          refine wp_region_lit ?_
          refine wl_call rfl 18 #[] (ansV 0 none 0 0 false) _ ?_ (notC w51) (fun w53 hd => ?_)
          · first | (go_simp; done) | (go_simp; rfl)
          intro K hK
          go_simp
          refine hK _ _ ?_
          clear hK K
          unfold ansV
          iterate 2
            refine wl_val rfl ?_ ?_ ?_
            rotate_left
            · go_simp; try with_reducible rfl
            intro K hK
            go_simp
            refine hK _ _ ?_
            clear hK K
          refine wl_store rfl 38 (.tmp 4) (.tmp 58) rfl b4 #[.int .u32 0, .slice none 0 0] rfl rfl 38 _ (keep X4 hd) (by kernel_rfl) rfl (by simp [Value.oneCell']) (fun w54 m1 m2 m3 m4 => ?_)
          intro K hK
          go_simp
          refine hK _ _ ?_
          clear hK K
          refine wl_val rfl (.bool false) ?_ ?_
          · go_simp
          intro K hK
          go_simp
          refine hK _ _ ?_
          clear hK K
          have Rf := (R.below hd).keep (m2 g hn4)
          have Ef := (E.below hd).put z4 m2 m3
          go_wp2
          exact ret_ans rfl b4 _ _ _ _ _ rfl rfl rfl m1 ⟨rfl, by rw [updS_same]; exact Rf, Ef⟩
        · obtain rfl : p = ⟨{ S i with owner := x.who }, 5, true⟩ := by
            rw [hp.out]; unfold onceP; rw [if_neg c2, if_neg co, if_neg cd, if_neg cg]
          clear hp
          have q2 : (x.call == 10) = false := by simp [c2]
          have qo : ((S i).owner == x.who) = false := by simp [co]
          clear c2 co
          go_upto_region 1 with (fail)
          refine quiet_all (fun w' => Below W.heap.size W w') (by kernel_rfl) (by kernel_rfl) (Below.drew (Below.refl _ _)) ?_
          refine q_run rfl (fun K hK => ?_)
          refine q_value ?_ (fun w' h' => ?_) ?_
          rotate_left
          · go_simp; try with_reducible rfl
          go_simp
          refine hK _ ?_
          clear hK K
          refine q_run rfl (fun K hK => ?_)
          refine q_value ?_ (fun w' h' => ?_) ?_
          rotate_left
          · go_simp; try with_reducible rfl
          go_simp
          refine hK _ ?_
          clear hK K
          refine q_run rfl (fun K hK => ?_)
          refine q_value ?_ (fun w' h' => ?_) ?_
          rotate_left
          · go_simp; try with_reducible rfl
          go_simp
          refine hK _ ?_
          clear hK K
          refine q_run rfl (fun K hK => ?_)
          refine q_value ?_ (fun w' h' => ?_) ?_
          rotate_left
          · have c := (R.below h').own hi hoff.out; go_simp; try with_reducible rfl
          go_simp
          refine hK _ ?_
          clear hK K
          refine q_run rfl (fun K hK => ?_)
          refine q_value ?_ (fun w' h' => ?_) ?_
          rotate_left
          · go_simp; try with_reducible rfl
          go_simp
          refine hK _ ?_
          clear hK K
          refine q_run rfl (fun K hK => ?_)
          refine q_value ?_ (fun w' h' => ?_) ?_
          rotate_left
          · have c := cell_of_row w' b3 0 _ 34 _ (keep X3 h'); go_simp; try with_reducible rfl
          go_simp
          refine hK _ ?_
          clear hK K
          refine q_run rfl (fun K hK => ?_)
          refine q_value ?_ (fun w' h' => ?_) ?_
          rotate_left
          · go_simp; try with_reducible rfl
          go_simp
          refine hK _ ?_
          clear hK K
          refine q_run rfl (fun K hK => ?_)
          refine q_value ?_ (fun w' h' => ?_) ?_
          rotate_left
          · go_simp; try with_reducible rfl
          go_simp
          refine hK _ ?_
          clear hK K
          refine qd_nil ?_
          intro w55 h56
          replace X3 := keep X3 h56
          replace X4 := keep X4 h56
          replace R := R.below h56
          replace E := E.below h56
          clear h56
          have y2 := cell_of_row w55 b3 2 _ 34 _ X3
          have yd := R.dn hi hoff.out
          have yo := R.own hi hoff.out
          have y0 := cell_of_row w55 b3 0 _ 34 _ X3
          rw [Bool.eq_false_iff.2 cd] at yd
          clear cd
          go_upto_region 13 with (fail)
          refine wp_region_lit ?_
          iterate 5
            refine wl_val rfl ?_ ?_ ?_
            rotate_left
            · go_simp; try with_reducible rfl
            intro K hK
            go_simp
            refine hK _ _ ?_
            clear hK K
          refine wl_cell rfl 3 (.tmp 64) (.tmp 62) rfl g n i 4 off S { S i with owner := x.who } (.int .i64 x.who) rfl Tryd.sizeOf3 (st_int x.who) hi (by omega) hoff.out rfl rfl R (cs_own (S i) x.who) (fun w57 R' E' => ?_)
          intro K hK
          go_simp
          refine hK _ _ ?_
          clear hK K
          replace X3 := (E'.blk b3 (blk_lt X3) (fun e => hn3 e.symm)).trans X3
          replace X4 := (E'.blk b4 (blk_lt X4) (fun e => hn4 e.symm)).trans X4
          replace E := E.trans E'
          replace R := R'
          clear R' E'
          go_upto_region 14 with (fail)
          refine wp_region_lit ?_
          refine wl_call rfl 38 #[.int .u32 5] (ansV 5 none 0 0 true) _ ?_ (toldC 5 w57) (fun w58 hd => ?_)
          · first | (go_simp; done) | (go_simp; rfl)
          intro K hK
          go_simp
          refine hK _ _ ?_
          clear hK K
          unfold ansV
          iterate 2
            refine wl_val rfl ?_ ?_ ?_
            rotate_left
            · go_simp; try with_reducible rfl
            intro K hK
            go_simp
            refine hK _ _ ?_
            clear hK K
          refine wl_store rfl 38 (.tmp 4) (.tmp 66) rfl b4 #[.int .u32 5, .slice none 0 0] rfl rfl 38 _ (keep X4 hd) (by kernel_rfl) rfl (by simp [Value.oneCell']) (fun w59 m1 m2 m3 m4 => ?_)
          intro K hK
          go_simp
          refine hK _ _ ?_
          clear hK K
          refine wl_val rfl (.bool true) ?_ ?_
          · go_simp
          intro K hK
          go_simp
          refine hK _ _ ?_
          clear hK K
          have Rf := (R.below hd).keep (m2 g hn4)
          have Ef := (E.below hd).put z4 m2 m3
          go_wp2
          exact ret_ans rfl b4 _ _ _ _ _ rfl rfl rfl m1 ⟨rfl, Rf, Ef⟩
end Go.Proofs.YtobkonbpcnmgpaaDoor
