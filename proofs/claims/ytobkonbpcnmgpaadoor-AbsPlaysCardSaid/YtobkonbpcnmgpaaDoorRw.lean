/- A lock that many may read. -/
import Derived.Test.YtobkonbpcnmgpaaDoorKinds
import Derived.KernelRfl
namespace Go.Proofs.YtobkonbpcnmgpaaDoor
open Go.RowKit
set_option linter.unusedVariables false
set_option linter.unusedSimpArgs false
def anyR (f : Nat → Bool) : Bool := f 0 || f 1 || f 2 || f 3 || f 4 || f 5 || f 6 || f 7
theorem eq8b (b0 b1 b2 b3 b4 b5 b6 b7 : Bool) (w : World) : (Op.equalIn 10000 60 (.agg #[.bool b0, .bool b1, .bool b2, .bool b3, .bool b4, .bool b5, .bool b6, .bool b7]) (.agg #[.bool false, .bool false, .bool false, .bool false, .bool false, .bool false, .bool false, .bool false])).run Tryd.prog w = .ok (!(b0 || b1 || b2 || b3 || b4 || b5 || b6 || b7)) w := by
  cases b0 <;> cases b1 <;> cases b2 <;> cases b3 <;> cases b4 <;> cases b5 <;> cases b6 <;> cases b7 <;> kernel_rfl
theorem eq8 (f : Nat → Bool) (w : World) : (Op.equalIn 10000 60 (.agg #[.bool (f 0), .bool (f 1), .bool (f 2), .bool (f 3), .bool (f 4), .bool (f 5), .bool (f 6), .bool (f 7)]) (.agg #[.bool false, .bool false, .bool false, .bool false, .bool false, .bool false, .bool false, .bool false])).run Tryd.prog w = .ok (!anyR f) w := eq8b _ _ _ _ _ _ _ _ w
def rwP (s : St) (q : Nat) (call : Int) : Out :=
  if call = 2 then (if s.owner = q then ⟨{ s with readers := upF s.readers q false, owner := -1 }, 0, true⟩ else if s.readers q = true then ⟨{ s with readers := upF s.readers q false }, 0, true⟩ else ⟨s, 2, true⟩)
  else if s.owner = q ∨ s.readers q = true then ⟨s, 1, true⟩
  else if 0 ≤ s.owner then ⟨s, 0, false⟩
  else if call = 1 then (if anyR s.readers = true then ⟨s, 0, false⟩ else ⟨{ s with owner := q }, 0, true⟩)
  else ⟨{ s with readers := upF s.readers q true }, 0, true⟩
set_option maxRecDepth 100000 in
set_option maxHeartbeats 8000000 in
theorem rwC (S : Nat → St) (g n i off : Nat) (hi : i < n) (hoff : Hid (off = i * 38)) (q : Nat) (hq : q < 8) (xo xc xp xa xv : Int) (w0 : World) (hR : Row w0 g n S) : Calls Tryd.prog 25 #[.pointer (some ⟨g, off, none⟩), akV ⟨q, xo, xc, xp, xa, xv⟩] w0 fun e w' => e = .returned (ansV (rwP (S i) q xc).r none 0 0 (rwP (S i) q xc).ok) ∧ Row w' g n (updS S i (rwP (S i) q xc).s) ∧ Exc g w0 w' := by
  obtain ⟨p, hp⟩ : ∃ p, Hid (p = rwP (S i) q xc) := ⟨_, rfl⟩
  rw [← hp.out]
  have hq0 : (0 : Int) ≤ q := by omega
  have hq8 : (q : Int) < 8 := by omega
  unfold akV akC
  go_enter Tryd.func25, Tryd.ntmps25
  go_upto_region 1 with (fail)
  obtain ⟨W, b3, b4, e0, e1, e2, X3, X4, hal⟩ := box2 w0 #[.int .i64 q, .int .i64 xo, .int .i64 xc, .int .i64 xp, .int .u32 xa, .int .u32 xv] #[.int .u32 0, .slice none 0 0] 34 38
  rw [e0, e2, e1]
  have z3 : w0.heap.size ≤ b3 := Nat.le_of_eq e1
  have z4 : w0.heap.size ≤ b4 := by omega
  have hgl := hR.lt
  have hn3 : g ≠ b3 := by omega
  have hn4 : g ≠ b4 := by omega
  clear e0 e2 e1
  have R := hR.below hal
  have E : Exc g w0 W := Exc.of_below hal
  clear hal
  by_cases co : (S i).owner = (q : Int)
  · by_cases c2 : xc = 2
    · obtain rfl : p = ⟨{ S i with readers := upF (S i).readers q false, owner := -1 }, 0, true⟩ := by
        rw [hp.out]; unfold rwP; rw [if_pos c2, if_pos co]
      clear hp
      have q2 : (xc == 2) = true := by simp [c2]
      have qo : ((S i).owner == (q : Int)) = true := by simp [co]
      clear c2 co
      go_upto_region 1 with (fail)
      refine quiet_all (fun w' => Below W.heap.size W w') (by kernel_rfl) (by kernel_rfl) (Below.drew (Below.refl _ _)) ?_
      refine q_run rfl (fun K hK => ?_)
      refine q_value ?_ (fun w' h' => ?_) ?_
      rotate_left
      · go_simp; try with_reducible rfl
      go_simp
      refine hK _ ?_
      clear hK K
      refine q_run rfl (fun K hK => ?_)
      refine q_value ?_ (fun w' h' => ?_) ?_
      rotate_left
      · go_simp; try with_reducible rfl
      go_simp
      refine hK _ ?_
      clear hK K
      refine q_run rfl (fun K hK => ?_)
      refine q_value ?_ (fun w' h' => ?_) ?_
      rotate_left
      · go_simp; try with_reducible rfl
      go_simp
      refine hK _ ?_
      clear hK K
      refine q_run rfl (fun K hK => ?_)
      refine q_value ?_ (fun w' h' => ?_) ?_
      rotate_left
      · have c := (R.below h').own hi hoff.out; go_simp; try with_reducible rfl
      go_simp
      refine hK _ ?_
      clear hK K
      refine q_run rfl (fun K hK => ?_)
      refine q_value ?_ (fun w' h' => ?_) ?_
      rotate_left
      · go_simp; try with_reducible rfl
      go_simp
      refine hK _ ?_
      clear hK K
      refine q_run rfl (fun K hK => ?_)
      refine q_value ?_ (fun w' h' => ?_) ?_
      rotate_left
      · have c := cell_of_row w' b3 0 _ 34 _ (keep X3 h'); go_simp; try with_reducible rfl
      go_simp
      refine hK _ ?_
      clear hK K
      refine q_run rfl (fun K hK => ?_)
      refine q_value ?_ (fun w' h' => ?_) ?_
      rotate_left
      · go_simp; try with_reducible rfl
      go_simp
      refine hK _ ?_
      clear hK K
      refine q_run rfl (fun K hK => ?_)
      refine q_value ?_ (fun w' h' => ?_) ?_
      rotate_left
      · go_simp; try with_reducible rfl
      go_simp
      refine hK _ ?_
      clear hK K
      refine q_skip rfl (fun K hK => ?_)
      go_simp
      refine hK _ ?_
      clear hK K
      refine q_skip rfl (fun K hK => ?_)
      go_simp
      refine hK _ ?_
      clear hK K
      refine q_skip rfl (fun K hK => ?_)
      go_simp
      refine hK _ ?_
      clear hK K
      refine q_skip rfl (fun K hK => ?_)
      go_simp
      refine hK _ ?_
      clear hK K
      refine q_skip rfl (fun K hK => ?_)
      go_simp
      refine hK _ ?_
      clear hK K
      refine q_skip rfl (fun K hK => ?_)
      go_simp
      refine hK _ ?_
      clear hK K
      refine q_skip rfl (fun K hK => ?_)
      go_simp
      refine hK _ ?_
      clear hK K
      refine q_run rfl (fun K hK => ?_)
      refine q_value ?_ (fun w' h' => ?_) ?_
      rotate_left
      · go_simp; try with_reducible rfl
      go_simp
      refine hK _ ?_
      clear hK K
      refine q_run rfl (fun K hK => ?_)
      refine q_value ?_ (fun w' h' => ?_) ?_
      rotate_left
      · go_simp; try with_reducible rfl
      go_simp
      refine hK _ ?_
      clear hK K
      refine qd_nil ?_
      intro w1 h2
      replace X3 := keep X3 h2
      replace X4 := keep X4 h2
      replace R := R.below h2
      replace E := E.below h2
      clear h2
      have y2 := cell_of_row w1 b3 2 _ 34 _ X3
      go_upto_region 6 with (fail)
      refine quiet_tail 6 (fun w' => Below w1.heap.size w1 w') (by kernel_rfl) (by kernel_rfl) (Below.drew (Below.refl _ _)) ?_
      simp only [List.take_succ_cons, List.take_zero, List.drop_succ_cons, List.drop_zero]
      refine q_run rfl (fun K hK => ?_)
      refine q_value ?_ (fun w' h' => ?_) ?_
      rotate_left
      · go_simp; try with_reducible rfl
      go_simp
      refine hK _ ?_
      clear hK K
      refine q_run rfl (fun K hK => ?_)
      refine q_value ?_ (fun w' h' => ?_) ?_
      rotate_left
      · go_simp; try with_reducible rfl
      go_simp
      refine hK _ ?_
      clear hK K
      refine q_run rfl (fun K hK => ?_)
      refine q_value ?_ (fun w' h' => ?_) ?_
      rotate_left
      · have c := cell_of_row w' b3 0 _ 34 _ (keep X3 h'); go_simp; try with_reducible rfl
      go_simp
      refine hK _ ?_
      clear hK K
      refine q_run rfl (fun K hK => ?_)
      refine q_value ?_ (fun w' h' => ?_) ?_
      rotate_left
      · go_simp; try with_reducible rfl
      go_simp
      refine hK _ ?_
      clear hK K
      refine q_run rfl (fun K hK => ?_)
      refine q_value ?_ (fun w' h' => ?_) ?_
      rotate_left
      · go_simp; try with_reducible rfl
      go_simp
      refine hK _ ?_
      clear hK K
      refine q_run rfl (fun K hK => ?_)
      refine q_value ?_ (fun w' h' => ?_) ?_
      rotate_left
      · go_simp; try with_reducible rfl
      go_simp
      refine hK _ ?_
      clear hK K
      refine qd_nil ?_
      intro w3 h4
      replace X3 := keep X3 h4
      replace X4 := keep X4 h4
      replace R := R.below h4
      replace E := E.below h4
      clear h4
      refine wl_cell rfl 4 (.tmp 49) (.const (.bool false)) rfl g n i (5 + q) off S { S i with readers := upF (S i).readers q false } (.bool false) rfl Tryd.sizeOf4 (st_bool false) hi (by omega) hoff.out (by rw [← Nat.add_assoc]; rfl) rfl R (cs_rd (S i) hq false) (fun w5 R' E' => ?_)
      intro K hK
      go_simp
      refine hK _ _ ?_
      clear hK K
      replace X3 := (E'.blk b3 (blk_lt X3) (fun e => hn3 e.symm)).trans X3
      replace X4 := (E'.blk b4 (blk_lt X4) (fun e => hn4 e.symm)).trans X4
      replace E := E.trans E'
      replace R := R'
      clear R' E'
      go_upto_region 7 with (fail)
      refine quiet_all (fun w' => Below w5.heap.size w5 w') (by kernel_rfl) (by kernel_rfl) (Below.drew (Below.refl _ _)) ?_
      refine q_run rfl (fun K hK => ?_)
      refine q_value ?_ (fun w' h' => ?_) ?_
      rotate_left
      · go_simp; try with_reducible rfl
      go_simp
      refine hK _ ?_
      clear hK K
      refine q_run rfl (fun K hK => ?_)
      refine q_value ?_ (fun w' h' => ?_) ?_
      rotate_left
      · go_simp; try with_reducible rfl
      go_simp
      refine hK _ ?_
      clear hK K
      refine q_run rfl (fun K hK => ?_)
      refine q_value ?_ (fun w' h' => ?_) ?_
      rotate_left
      · go_simp; try with_reducible rfl
      go_simp
      refine hK _ ?_
      clear hK K
      refine q_run rfl (fun K hK => ?_)
      refine q_value ?_ (fun w' h' => ?_) ?_
      rotate_left
      · have c := (R.below h').own hi hoff.out; rw [updS_at] at c; go_simp; try with_reducible rfl
      go_simp
      refine hK _ ?_
      clear hK K
      refine q_run rfl (fun K hK => ?_)
      refine q_value ?_ (fun w' h' => ?_) ?_
      rotate_left
      · go_simp; try with_reducible rfl
      go_simp
      refine hK _ ?_
      clear hK K
      refine q_run rfl (fun K hK => ?_)
      refine q_value ?_ (fun w' h' => ?_) ?_
      rotate_left
      · have c := cell_of_row w' b3 0 _ 34 _ (keep X3 h'); go_simp; try with_reducible rfl
      go_simp
      refine hK _ ?_
      clear hK K
      refine q_run rfl (fun K hK => ?_)
      refine q_value ?_ (fun w' h' => ?_) ?_
      rotate_left
      · go_simp; try with_reducible rfl
      go_simp
      refine hK _ ?_
      clear hK K
      refine qd_nil ?_
      intro w6 h7
      replace X3 := keep X3 h7
      replace X4 := keep X4 h7
      replace R := R.below h7
      replace E := E.below h7
      clear h7
      go_upto_region 8 with (fail)
      refine wp_region_lit ?_
      iterate 3
        refine wl_val rfl ?_ ?_ ?_
        rotate_left
        · go_simp; try with_reducible rfl
        intro K hK
        go_simp
        refine hK _ _ ?_
        clear hK K
      refine wl_cell rfl 3 (.tmp 59) (.const (.int .i64 (-1))) rfl g n i 4 off (updS S i { S i with readers := upF (S i).readers q false }) { S i with readers := upF (S i).readers q false, owner := -1 } (.int .i64 (-1)) rfl Tryd.sizeOf3 (st_int (-1)) hi (by omega) hoff.out rfl rfl R (by rw [updS_at]; exact (cs_own { S i with readers := upF (S i).readers q false } (-1))) (fun w8 R' E' => ?_)
      intro K hK
      go_simp
      refine hK _ _ ?_
      clear hK K
      replace X3 := (E'.blk b3 (blk_lt X3) (fun e => hn3 e.symm)).trans X3
      replace X4 := (E'.blk b4 (blk_lt X4) (fun e => hn4 e.symm)).trans X4
      replace E := E.trans E'
      rw [updS_updS] at R'
      replace R := R'
      clear R' E'
      go_upto_region 9 with (fail)
      refine wp_region_lit ?_
      refine wl_call rfl 39 #[] (ansV 0 none 0 0 true) _ ?_ (fineC w8) (fun w9 hd => ?_)
      · first | (go_simp; done) | (go_simp; rfl)
      intro K hK
      go_simp
      refine hK _ _ ?_
      clear hK K
      unfold ansV
      iterate 2
        refine wl_val rfl ?_ ?_ ?_
        rotate_left
        · go_simp; try with_reducible rfl
        intro K hK
        go_simp
        refine hK _ _ ?_
        clear hK K
      refine wl_store rfl 38 (.tmp 4) (.tmp 61) rfl b4 #[.int .u32 0, .slice none 0 0] rfl rfl 38 _ (keep X4 hd) (by kernel_rfl) rfl (by simp [Value.oneCell']) (fun w10 m1 m2 m3 m4 => ?_)
      intro K hK
      go_simp
      refine hK _ _ ?_
      clear hK K
      refine wl_val rfl (.bool true) ?_ ?_
      · go_simp
      intro K hK
      go_simp
      refine hK _ _ ?_
      clear hK K
      have Rf := (R.below hd).keep (m2 g hn4)
      have Ef := (E.below hd).put z4 m2 m3
      go_wp2
      exact ret_ans rfl b4 _ _ _ _ _ rfl rfl rfl m1 ⟨rfl, Rf, Ef⟩
    · obtain rfl : p = ⟨S i, 1, true⟩ := by
        rw [hp.out]; unfold rwP; rw [if_neg c2, if_pos (.inl co)]
      clear hp
      have q2 : (xc == 2) = false := by simp [c2]
      have qo : ((S i).owner == (q : Int)) = true := by simp [co]
      clear c2 co
      go_upto_region 1 with (fail)
      refine quiet_all (fun w' => Below W.heap.size W w') (by kernel_rfl) (by kernel_rfl) (Below.drew (Below.refl _ _)) ?_
      refine q_run rfl (fun K hK => ?_)
      refine q_value ?_ (fun w' h' => ?_) ?_
      rotate_left
      · go_simp; try with_reducible rfl
      go_simp
      refine hK _ ?_
      clear hK K
      refine q_run rfl (fun K hK => ?_)
      refine q_value ?_ (fun w' h' => ?_) ?_
      rotate_left
      · go_simp; try with_reducible rfl
      go_simp
      refine hK _ ?_
      clear hK K
      refine q_run rfl (fun K hK => ?_)
      refine q_value ?_ (fun w' h' => ?_) ?_
      rotate_left
      · go_simp; try with_reducible rfl
      go_simp
      refine hK _ ?_
      clear hK K
      refine q_run rfl (fun K hK => ?_)
      refine q_value ?_ (fun w' h' => ?_) ?_
      rotate_left
      · have c := (R.below h').own hi hoff.out; go_simp; try with_reducible rfl
      go_simp
      refine hK _ ?_
      clear hK K
      refine q_run rfl (fun K hK => ?_)
      refine q_value ?_ (fun w' h' => ?_) ?_
      rotate_left
      · go_simp; try with_reducible rfl
      go_simp
      refine hK _ ?_
      clear hK K
      refine q_run rfl (fun K hK => ?_)
      refine q_value ?_ (fun w' h' => ?_) ?_
      rotate_left
      · have c := cell_of_row w' b3 0 _ 34 _ (keep X3 h'); go_simp; try with_reducible rfl
      go_simp
      refine hK _ ?_
      clear hK K
      refine q_run rfl (fun K hK => ?_)
      refine q_value ?_ (fun w' h' => ?_) ?_
      rotate_left
      · go_simp; try with_reducible rfl
      go_simp
      refine hK _ ?_
      clear hK K
      refine q_run rfl (fun K hK => ?_)
      refine q_value ?_ (fun w' h' => ?_) ?_
      rotate_left
      · go_simp; try with_reducible rfl
      go_simp
      refine hK _ ?_
      clear hK K
      refine q_skip rfl (fun K hK => ?_)
      go_simp
      refine hK _ ?_
      clear hK K
      refine q_skip rfl (fun K hK => ?_)
      go_simp
      refine hK _ ?_
      clear hK K
      refine q_skip rfl (fun K hK => ?_)
      go_simp
      refine hK _ ?_
      clear hK K
      refine q_skip rfl (fun K hK => ?_)
      go_simp
      refine hK _ ?_
      clear hK K
      refine q_skip rfl (fun K hK => ?_)
      go_simp
      refine hK _ ?_
      clear hK K
      refine q_skip rfl (fun K hK => ?_)
      go_simp
      refine hK _ ?_
      clear hK K
      refine q_skip rfl (fun K hK => ?_)
      go_simp
      refine hK _ ?_
      clear hK K
      refine q_run rfl (fun K hK => ?_)
      refine q_value ?_ (fun w' h' => ?_) ?_
      rotate_left
      · go_simp; try with_reducible rfl
      go_simp
      refine hK _ ?_
      clear hK K
      refine q_run rfl (fun K hK => ?_)
      refine q_value ?_ (fun w' h' => ?_) ?_
      rotate_left
      · go_simp; try with_reducible rfl
      go_simp
      refine hK _ ?_
      clear hK K
      refine qd_nil ?_
      intro w11 h12
      replace X3 := keep X3 h12
      replace X4 := keep X4 h12
      replace R := R.below h12
      replace E := E.below h12
      clear h12
      have y2 := cell_of_row w11 b3 2 _ 34 _ X3
      go_upto_region 11 with (fail)
      refine wp_region_lit ?_
      refine wl_call rfl 38 #[.int .u32 1] (ansV 1 none 0 0 true) _ ?_ (toldC 1 w11) (fun w13 hd => ?_)
      · first | (go_simp; done) | (go_simp; rfl)
      intro K hK
      go_simp
      refine hK _ _ ?_
      clear hK K
      unfold ansV
      iterate 2
        refine wl_val rfl ?_ ?_ ?_
        rotate_left
        · go_simp; try with_reducible rfl
        intro K hK
        go_simp
        refine hK _ _ ?_
        clear hK K
      refine wl_store rfl 38 (.tmp 4) (.tmp 66) rfl b4 #[.int .u32 1, .slice none 0 0] rfl rfl 38 _ (keep X4 hd) (by kernel_rfl) rfl (by simp [Value.oneCell']) (fun w14 m1 m2 m3 m4 => ?_)
      intro K hK
      go_simp
      refine hK _ _ ?_
      clear hK K
      refine wl_val rfl (.bool true) ?_ ?_
      · go_simp
      intro K hK
      go_simp
      refine hK _ _ ?_
      clear hK K
      have Rf := (R.below hd).keep (m2 g hn4)
      have Ef := (E.below hd).put z4 m2 m3
      go_wp2
      exact ret_ans rfl b4 _ _ _ _ _ rfl rfl rfl m1 ⟨rfl, by rw [updS_same]; exact Rf, Ef⟩
  · by_cases cr : (S i).readers q = true
    · by_cases c2 : xc = 2
      · obtain rfl : p = ⟨{ S i with readers := upF (S i).readers q false }, 0, true⟩ := by
          rw [hp.out]; unfold rwP; rw [if_pos c2, if_neg co, if_pos cr]
        clear hp
        have q2 : (xc == 2) = true := by simp [c2]
        have qo : ((S i).owner == (q : Int)) = false := by simp [co]
        clear c2 co
        go_upto_region 1 with (fail)
        refine quiet_all (fun w' => Below W.heap.size W w') (by kernel_rfl) (by kernel_rfl) (Below.drew (Below.refl _ _)) ?_
        refine q_run rfl (fun K hK => ?_)
        refine q_value ?_ (fun w' h' => ?_) ?_
        rotate_left
        · go_simp; try with_reducible rfl
        go_simp
        refine hK _ ?_
        clear hK K
        refine q_run rfl (fun K hK => ?_)
        refine q_value ?_ (fun w' h' => ?_) ?_
        rotate_left
        · go_simp; try with_reducible rfl
        go_simp
        refine hK _ ?_
        clear hK K
        refine q_run rfl (fun K hK => ?_)
        refine q_value ?_ (fun w' h' => ?_) ?_
        rotate_left
        · go_simp; try with_reducible rfl
        go_simp
        refine hK _ ?_
        clear hK K
        refine q_run rfl (fun K hK => ?_)
        refine q_value ?_ (fun w' h' => ?_) ?_
        rotate_left
        · have c := (R.below h').own hi hoff.out; go_simp; try with_reducible rfl
        go_simp
        refine hK _ ?_
        clear hK K
        refine q_run rfl (fun K hK => ?_)
        refine q_value ?_ (fun w' h' => ?_) ?_
        rotate_left
        · go_simp; try with_reducible rfl
        go_simp
        refine hK _ ?_
        clear hK K
        refine q_run rfl (fun K hK => ?_)
        refine q_value ?_ (fun w' h' => ?_) ?_
        rotate_left
        · have c := cell_of_row w' b3 0 _ 34 _ (keep X3 h'); go_simp; try with_reducible rfl
        go_simp
        refine hK _ ?_
        clear hK K
        refine q_run rfl (fun K hK => ?_)
        refine q_value ?_ (fun w' h' => ?_) ?_
        rotate_left
        · go_simp; try with_reducible rfl
        go_simp
        refine hK _ ?_
        clear hK K
        refine q_run rfl (fun K hK => ?_)
        refine q_value ?_ (fun w' h' => ?_) ?_
        rotate_left
        · go_simp; try with_reducible rfl
        go_simp
        refine hK _ ?_
        clear hK K
        refine q_run rfl (fun K hK => ?_)
        refine q_value ?_ (fun w' h' => ?_) ?_
        rotate_left
        · go_simp; try with_reducible rfl
        go_simp
        refine hK _ ?_
        clear hK K
        refine q_run rfl (fun K hK => ?_)
        refine q_value ?_ (fun w' h' => ?_) ?_
        rotate_left
        · go_simp; try with_reducible rfl
        go_simp
        refine hK _ ?_
        clear hK K
        refine q_run rfl (fun K hK => ?_)
        refine q_value ?_ (fun w' h' => ?_) ?_
        rotate_left
        · have c := cell_of_row w' b3 0 _ 34 _ (keep X3 h'); go_simp; try with_reducible rfl
        go_simp
        refine hK _ ?_
        clear hK K
        refine q_run rfl (fun K hK => ?_)
        refine q_value ?_ (fun w' h' => ?_) ?_
        rotate_left
        · go_simp; try with_reducible rfl
        go_simp
        refine hK _ ?_
        clear hK K
        refine q_run rfl (fun K hK => ?_)
        refine q_value ?_ (fun w' h' => ?_) ?_
        rotate_left
        · go_simp; try with_reducible rfl
        go_simp
        refine hK _ ?_
        clear hK K
        refine q_run rfl (fun K hK => ?_)
        refine q_value ?_ (fun w' h' => ?_) ?_
        rotate_left
        · go_simp; try with_reducible rfl
        go_simp
        refine hK _ ?_
        clear hK K
        refine q_run rfl (fun K hK => ?_)
        refine q_value ?_ (fun w' h' => ?_) ?_
        rotate_left
        · have c := (R.below h').rd hi hoff.out hq; go_simp; try with_reducible rfl
        go_simp
        refine hK _ ?_
        clear hK K
        refine q_run rfl (fun K hK => ?_)
        refine q_value ?_ (fun w' h' => ?_) ?_
        rotate_left
        · go_simp; try with_reducible rfl
        go_simp
        refine hK _ ?_
        clear hK K
        refine q_run rfl (fun K hK => ?_)
        refine q_value ?_ (fun w' h' => ?_) ?_
        rotate_left
        · go_simp; try with_reducible rfl
        go_simp
        refine hK _ ?_
        clear hK K
        refine qd_nil ?_
        intro w15 h16
        replace X3 := keep X3 h16
        replace X4 := keep X4 h16
        replace R := R.below h16
        replace E := E.below h16
        clear h16
        try rw [cr]
        have y2 := cell_of_row w15 b3 2 _ 34 _ X3
        go_upto_region 6 with (fail)
        refine quiet_tail 6 (fun w' => Below w15.heap.size w15 w') (by kernel_rfl) (by kernel_rfl) (Below.drew (Below.refl _ _)) ?_
        simp only [List.take_succ_cons, List.take_zero, List.drop_succ_cons, List.drop_zero]
        refine q_run rfl (fun K hK => ?_)
        refine q_value ?_ (fun w' h' => ?_) ?_
        rotate_left
        · go_simp; try with_reducible rfl
        go_simp
        refine hK _ ?_
        clear hK K
        refine q_run rfl (fun K hK => ?_)
        refine q_value ?_ (fun w' h' => ?_) ?_
        rotate_left
        · go_simp; try with_reducible rfl
        go_simp
        refine hK _ ?_
        clear hK K
        refine q_run rfl (fun K hK => ?_)
        refine q_value ?_ (fun w' h' => ?_) ?_
        rotate_left
        · have c := cell_of_row w' b3 0 _ 34 _ (keep X3 h'); go_simp; try with_reducible rfl
        go_simp
        refine hK _ ?_
        clear hK K
        refine q_run rfl (fun K hK => ?_)
        refine q_value ?_ (fun w' h' => ?_) ?_
        rotate_left
        · go_simp; try with_reducible rfl
        go_simp
        refine hK _ ?_
        clear hK K
        refine q_run rfl (fun K hK => ?_)
        refine q_value ?_ (fun w' h' => ?_) ?_
        rotate_left
        · go_simp; try with_reducible rfl
        go_simp
        refine hK _ ?_
        clear hK K
        refine q_run rfl (fun K hK => ?_)
        refine q_value ?_ (fun w' h' => ?_) ?_
        rotate_left
        · go_simp; try with_reducible rfl
        go_simp
        refine hK _ ?_
        clear hK K
        refine qd_nil ?_
        intro w17 h18
        replace X3 := keep X3 h18
        replace X4 := keep X4 h18
        replace R := R.below h18
        replace E := E.below h18
        clear h18
        refine wl_cell rfl 4 (.tmp 49) (.const (.bool false)) rfl g n i (5 + q) off S { S i with readers := upF (S i).readers q false } (.bool false) rfl Tryd.sizeOf4 (st_bool false) hi (by omega) hoff.out (by rw [← Nat.add_assoc]; rfl) rfl R (cs_rd (S i) hq false) (fun w19 R' E' => ?_)
        intro K hK
        go_simp
        refine hK _ _ ?_
        clear hK K
        replace X3 := (E'.blk b3 (blk_lt X3) (fun e => hn3 e.symm)).trans X3
        replace X4 := (E'.blk b4 (blk_lt X4) (fun e => hn4 e.symm)).trans X4
        replace E := E.trans E'
        replace R := R'
        clear R' E'
        go_upto_region 7 with (fail)
        refine quiet_all (fun w' => Below w19.heap.size w19 w') (by kernel_rfl) (by kernel_rfl) (Below.drew (Below.refl _ _)) ?_
        refine q_run rfl (fun K hK => ?_)
        refine q_value ?_ (fun w' h' => ?_) ?_
        rotate_left
        · go_simp; try with_reducible rfl
        go_simp
        refine hK _ ?_
        clear hK K
        refine q_run rfl (fun K hK => ?_)
        refine q_value ?_ (fun w' h' => ?_) ?_
        rotate_left
        · go_simp; try with_reducible rfl
        go_simp
        refine hK _ ?_
        clear hK K
        refine q_run rfl (fun K hK => ?_)
        refine q_value ?_ (fun w' h' => ?_) ?_
        rotate_left
        · go_simp; try with_reducible rfl
        go_simp
        refine hK _ ?_
        clear hK K
        refine q_run rfl (fun K hK => ?_)
        refine q_value ?_ (fun w' h' => ?_) ?_
        rotate_left
        · have c := (R.below h').own hi hoff.out; rw [updS_at] at c; go_simp; try with_reducible rfl
        go_simp
        refine hK _ ?_
        clear hK K
        refine q_run rfl (fun K hK => ?_)
        refine q_value ?_ (fun w' h' => ?_) ?_
        rotate_left
        · go_simp; try with_reducible rfl
        go_simp
        refine hK _ ?_
        clear hK K
        refine q_run rfl (fun K hK => ?_)
        refine q_value ?_ (fun w' h' => ?_) ?_
        rotate_left
        · have c := cell_of_row w' b3 0 _ 34 _ (keep X3 h'); go_simp; try with_reducible rfl
        go_simp
        refine hK _ ?_
        clear hK K
        refine q_run rfl (fun K hK => ?_)
        refine q_value ?_ (fun w' h' => ?_) ?_
        rotate_left
        · go_simp; try with_reducible rfl
        go_simp
        refine hK _ ?_
        clear hK K
        refine qd_nil ?_
        intro w20 h21
        replace X3 := keep X3 h21
        replace X4 := keep X4 h21
        replace R := R.below h21
        replace E := E.below h21
        clear h21
        go_upto_region 9 with (fail)
        refine wp_region_lit ?_
        refine wl_call rfl 39 #[] (ansV 0 none 0 0 true) _ ?_ (fineC w20) (fun w22 hd => ?_)
        · first | (go_simp; done) | (go_simp; rfl)
        intro K hK
        go_simp
        refine hK _ _ ?_
        clear hK K
        unfold ansV
        iterate 2
          refine wl_val rfl ?_ ?_ ?_
          rotate_left
          · go_simp; try with_reducible rfl
          intro K hK
          go_simp
          refine hK _ _ ?_
          clear hK K
        refine wl_store rfl 38 (.tmp 4) (.tmp 61) rfl b4 #[.int .u32 0, .slice none 0 0] rfl rfl 38 _ (keep X4 hd) (by kernel_rfl) rfl (by simp [Value.oneCell']) (fun w23 m1 m2 m3 m4 => ?_)
        intro K hK
        go_simp
        refine hK _ _ ?_
        clear hK K
        refine wl_val rfl (.bool true) ?_ ?_
        · go_simp
        intro K hK
        go_simp
        refine hK _ _ ?_
        clear hK K
        have Rf := (R.below hd).keep (m2 g hn4)
        have Ef := (E.below hd).put z4 m2 m3
        go_wp2
        exact ret_ans rfl b4 _ _ _ _ _ rfl rfl rfl m1 ⟨rfl, Rf, Ef⟩
      · obtain rfl : p = ⟨S i, 1, true⟩ := by
          rw [hp.out]; unfold rwP; rw [if_neg c2, if_pos (.inr cr)]
        clear hp
        have q2 : (xc == 2) = false := by simp [c2]
        have qo : ((S i).owner == (q : Int)) = false := by simp [co]
        clear c2 co
        go_upto_region 1 with (fail)
        refine quiet_all (fun w' => Below W.heap.size W w') (by kernel_rfl) (by kernel_rfl) (Below.drew (Below.refl _ _)) ?_
        refine q_run rfl (fun K hK => ?_)
        refine q_value ?_ (fun w' h' => ?_) ?_
        rotate_left
        · go_simp; try with_reducible rfl
        go_simp
        refine hK _ ?_
        clear hK K
        refine q_run rfl (fun K hK => ?_)
        refine q_value ?_ (fun w' h' => ?_) ?_
        rotate_left
        · go_simp; try with_reducible rfl
        go_simp
        refine hK _ ?_
        clear hK K
        refine q_run rfl (fun K hK => ?_)
        refine q_value ?_ (fun w' h' => ?_) ?_
        rotate_left
        · go_simp; try with_reducible rfl
        go_simp
        refine hK _ ?_
        clear hK K
        refine q_run rfl (fun K hK => ?_)
        refine q_value ?_ (fun w' h' => ?_) ?_
        rotate_left
        · have c := (R.below h').own hi hoff.out; go_simp; try with_reducible rfl
        go_simp
        refine hK _ ?_
        clear hK K
        refine q_run rfl (fun K hK => ?_)
        refine q_value ?_ (fun w' h' => ?_) ?_
        rotate_left
        · go_simp; try with_reducible rfl
        go_simp
        refine hK _ ?_
        clear hK K
        refine q_run rfl (fun K hK => ?_)
        refine q_value ?_ (fun w' h' => ?_) ?_
        rotate_left
        · have c := cell_of_row w' b3 0 _ 34 _ (keep X3 h'); go_simp; try with_reducible rfl
        go_simp
        refine hK _ ?_
        clear hK K
        refine q_run rfl (fun K hK => ?_)
        refine q_value ?_ (fun w' h' => ?_) ?_
        rotate_left
        · go_simp; try with_reducible rfl
        go_simp
        refine hK _ ?_
        clear hK K
        refine q_run rfl (fun K hK => ?_)
        refine q_value ?_ (fun w' h' => ?_) ?_
        rotate_left
        · go_simp; try with_reducible rfl
        go_simp
        refine hK _ ?_
        clear hK K
        refine q_run rfl (fun K hK => ?_)
        refine q_value ?_ (fun w' h' => ?_) ?_
        rotate_left
        · go_simp; try with_reducible rfl
        go_simp
        refine hK _ ?_
        clear hK K
        refine q_run rfl (fun K hK => ?_)
        refine q_value ?_ (fun w' h' => ?_) ?_
        rotate_left
        · go_simp; try with_reducible rfl
        go_simp
        refine hK _ ?_
        clear hK K
        refine q_run rfl (fun K hK => ?_)
        refine q_value ?_ (fun w' h' => ?_) ?_
        rotate_left
        · have c := cell_of_row w' b3 0 _ 34 _ (keep X3 h'); go_simp; try with_reducible rfl
        go_simp
        refine hK _ ?_
        clear hK K
        refine q_run rfl (fun K hK => ?_)
        refine q_value ?_ (fun w' h' => ?_) ?_
        rotate_left
        · go_simp; try with_reducible rfl
        go_simp
        refine hK _ ?_
        clear hK K
        refine q_run rfl (fun K hK => ?_)
        refine q_value ?_ (fun w' h' => ?_) ?_
        rotate_left
        · go_simp; try with_reducible rfl
        go_simp
        refine hK _ ?_
        clear hK K
        refine q_run rfl (fun K hK => ?_)
        refine q_value ?_ (fun w' h' => ?_) ?_
        rotate_left
        · go_simp; try with_reducible rfl
        go_simp
        refine hK _ ?_
        clear hK K
        refine q_run rfl (fun K hK => ?_)
        refine q_value ?_ (fun w' h' => ?_) ?_
        rotate_left
        · have c := (R.below h').rd hi hoff.out hq; go_simp; try with_reducible rfl
        go_simp
        refine hK _ ?_
        clear hK K
        refine q_run rfl (fun K hK => ?_)
        refine q_value ?_ (fun w' h' => ?_) ?_
        rotate_left
        · go_simp; try with_reducible rfl
        go_simp
        refine hK _ ?_
        clear hK K
        refine q_run rfl (fun K hK => ?_)
        refine q_value ?_ (fun w' h' => ?_) ?_
        rotate_left
        · go_simp; try with_reducible rfl
        go_simp
        refine hK _ ?_
        clear hK K
        refine qd_nil ?_
        intro w24 h25
        replace X3 := keep X3 h25
        replace X4 := keep X4 h25
        replace R := R.below h25
        replace E := E.below h25
        clear h25
        try rw [cr]
        have y2 := cell_of_row w24 b3 2 _ 34 _ X3
        go_upto_region 11 with (fail)
        refine wp_region_lit ?_
        refine wl_call rfl 38 #[.int .u32 1] (ansV 1 none 0 0 true) _ ?_ (toldC 1 w24) (fun w26 hd => ?_)
        · first | (go_simp; done) | (go_simp; rfl)
        intro K hK
        go_simp
        refine hK _ _ ?_
        clear hK K
        unfold ansV
        iterate 2
          refine wl_val rfl ?_ ?_ ?_
          rotate_left
          · go_simp; try with_reducible rfl
          intro K hK
          go_simp
          refine hK _ _ ?_
          clear hK K
        refine wl_store rfl 38 (.tmp 4) (.tmp 66) rfl b4 #[.int .u32 1, .slice none 0 0] rfl rfl 38 _ (keep X4 hd) (by kernel_rfl) rfl (by simp [Value.oneCell']) (fun w27 m1 m2 m3 m4 => ?_)
        intro K hK
        go_simp
        refine hK _ _ ?_
        clear hK K
        refine wl_val rfl (.bool true) ?_ ?_
        · go_simp
        intro K hK
        go_simp
        refine hK _ _ ?_
        clear hK K
        have Rf := (R.below hd).keep (m2 g hn4)
        have Ef := (E.below hd).put z4 m2 m3
        go_wp2
        exact ret_ans rfl b4 _ _ _ _ _ rfl rfl rfl m1 ⟨rfl, by rw [updS_same]; exact Rf, Ef⟩
    · by_cases c2 : xc = 2
      · obtain rfl : p = ⟨S i, 2, true⟩ := by
          rw [hp.out]; unfold rwP; rw [if_pos c2, if_neg co, if_neg cr]
        clear hp
        have q2 : (xc == 2) = true := by simp [c2]
        have qo : ((S i).owner == (q : Int)) = false := by simp [co]
        clear c2 co
        go_upto_region 1 with (fail)
        refine quiet_all (fun w' => Below W.heap.size W w') (by kernel_rfl) (by kernel_rfl) (Below.drew (Below.refl _ _)) ?_
        refine q_run rfl (fun K hK => ?_)
        refine q_value ?_ (fun w' h' => ?_) ?_
        rotate_left
        · go_simp; try with_reducible rfl
        go_simp
        refine hK _ ?_
        clear hK K
        refine q_run rfl (fun K hK => ?_)
        refine q_value ?_ (fun w' h' => ?_) ?_
        rotate_left
        · go_simp; try with_reducible rfl
        go_simp
        refine hK _ ?_
        clear hK K
        refine q_run rfl (fun K hK => ?_)
        refine q_value ?_ (fun w' h' => ?_) ?_
        rotate_left
        · go_simp; try with_reducible rfl
        go_simp
        refine hK _ ?_
        clear hK K
        refine q_run rfl (fun K hK => ?_)
        refine q_value ?_ (fun w' h' => ?_) ?_
        rotate_left
        · have c := (R.below h').own hi hoff.out; go_simp; try with_reducible rfl
        go_simp
        refine hK _ ?_
        clear hK K
        refine q_run rfl (fun K hK => ?_)
        refine q_value ?_ (fun w' h' => ?_) ?_
        rotate_left
        · go_simp; try with_reducible rfl
        go_simp
        refine hK _ ?_
        clear hK K
        refine q_run rfl (fun K hK => ?_)
        refine q_value ?_ (fun w' h' => ?_) ?_
        rotate_left
        · have c := cell_of_row w' b3 0 _ 34 _ (keep X3 h'); go_simp; try with_reducible rfl
        go_simp
        refine hK _ ?_
        clear hK K
        refine q_run rfl (fun K hK => ?_)
        refine q_value ?_ (fun w' h' => ?_) ?_
        rotate_left
        · go_simp; try with_reducible rfl
        go_simp
        refine hK _ ?_
        clear hK K
        refine q_run rfl (fun K hK => ?_)
        refine q_value ?_ (fun w' h' => ?_) ?_
        rotate_left
        · go_simp; try with_reducible rfl
        go_simp
        refine hK _ ?_
        clear hK K
        refine q_run rfl (fun K hK => ?_)
        refine q_value ?_ (fun w' h' => ?_) ?_
        rotate_left
        · go_simp; try with_reducible rfl
        go_simp
        refine hK _ ?_
        clear hK K
        refine q_run rfl (fun K hK => ?_)
        refine q_value ?_ (fun w' h' => ?_) ?_
        rotate_left
        · go_simp; try with_reducible rfl
        go_simp
        refine hK _ ?_
        clear hK K
        refine q_run rfl (fun K hK => ?_)
        refine q_value ?_ (fun w' h' => ?_) ?_
        rotate_left
        · have c := cell_of_row w' b3 0 _ 34 _ (keep X3 h'); go_simp; try with_reducible rfl
        go_simp
        refine hK _ ?_
        clear hK K
        refine q_run rfl (fun K hK => ?_)
        refine q_value ?_ (fun w' h' => ?_) ?_
        rotate_left
        · go_simp; try with_reducible rfl
        go_simp
        refine hK _ ?_
        clear hK K
        refine q_run rfl (fun K hK => ?_)
        refine q_value ?_ (fun w' h' => ?_) ?_
        rotate_left
        · go_simp; try with_reducible rfl
        go_simp
        refine hK _ ?_
        clear hK K
        refine q_run rfl (fun K hK => ?_)
        refine q_value ?_ (fun w' h' => ?_) ?_
        rotate_left
        · go_simp; try with_reducible rfl
        go_simp
        refine hK _ ?_
        clear hK K
        refine q_run rfl (fun K hK => ?_)
        refine q_value ?_ (fun w' h' => ?_) ?_
        rotate_left
        · have c := (R.below h').rd hi hoff.out hq; go_simp; try with_reducible rfl
        go_simp
        refine hK _ ?_
        clear hK K
        refine q_run rfl (fun K hK => ?_)
        refine q_value ?_ (fun w' h' => ?_) ?_
        rotate_left
        · go_simp; try with_reducible rfl
        go_simp
        refine hK _ ?_
        clear hK K
        refine q_run rfl (fun K hK => ?_)
        refine q_value ?_ (fun w' h' => ?_) ?_
        rotate_left
        · go_simp; try with_reducible rfl
        go_simp
        refine hK _ ?_
        clear hK K
        refine qd_nil ?_
        intro w28 h29
        replace X3 := keep X3 h29
        replace X4 := keep X4 h29
        replace R := R.below h29
        replace E := E.below h29
        clear h29
        try rw [Bool.eq_false_iff.2 cr]
        have y2 := cell_of_row w28 b3 2 _ 34 _ X3
        go_upto_region 4 with (fail)
        refine wp_region_lit ?_
        refine wl_call rfl 38 #[.int .u32 2] (ansV 2 none 0 0 true) _ ?_ (toldC 2 w28) (fun w30 hd => ?_)
        · first | (go_simp; done) | (go_simp; rfl)
        intro K hK
        go_simp
        refine hK _ _ ?_
        clear hK K
        unfold ansV
        iterate 2
          refine wl_val rfl ?_ ?_ ?_
          rotate_left
          · go_simp; try with_reducible rfl
          intro K hK
          go_simp
          refine hK _ _ ?_
          clear hK K
        refine wl_store rfl 38 (.tmp 4) (.tmp 38) rfl b4 #[.int .u32 2, .slice none 0 0] rfl rfl 38 _ (keep X4 hd) (by kernel_rfl) rfl (by simp [Value.oneCell']) (fun w31 m1 m2 m3 m4 => ?_)
        intro K hK
        go_simp
        refine hK _ _ ?_
        clear hK K
        refine wl_val rfl (.bool true) ?_ ?_
        · go_simp
        intro K hK
        go_simp
        refine hK _ _ ?_
        clear hK K
        have Rf := (R.below hd).keep (m2 g hn4)
        have Ef := (E.below hd).put z4 m2 m3
        go_wp2
        exact ret_ans rfl b4 _ _ _ _ _ rfl rfl rfl m1 ⟨rfl, by rw [updS_same]; exact Rf, Ef⟩
      · by_cases cg : 0 ≤ (S i).owner
        · obtain rfl : p = ⟨S i, 0, false⟩ := by
            rw [hp.out]; unfold rwP; rw [if_neg c2, if_neg (fun h => h.elim co cr), if_pos cg]
          clear hp
          have q2 : (xc == 2) = false := by simp [c2]
          have qo : ((S i).owner == (q : Int)) = false := by simp [co]
          clear c2 co
          go_upto_region 1 with (fail)
          refine quiet_all (fun w' => Below W.heap.size W w') (by kernel_rfl) (by kernel_rfl) (Below.drew (Below.refl _ _)) ?_
          refine q_run rfl (fun K hK => ?_)
          refine q_value ?_ (fun w' h' => ?_) ?_
          rotate_left
          · go_simp; try with_reducible rfl
          go_simp
          refine hK _ ?_
          clear hK K
          refine q_run rfl (fun K hK => ?_)
          refine q_value ?_ (fun w' h' => ?_) ?_
          rotate_left
          · go_simp; try with_reducible rfl
          go_simp
          refine hK _ ?_
          clear hK K
          refine q_run rfl (fun K hK => ?_)
          refine q_value ?_ (fun w' h' => ?_) ?_
          rotate_left
          · go_simp; try with_reducible rfl
          go_simp
          refine hK _ ?_
          clear hK K
          refine q_run rfl (fun K hK => ?_)
          refine q_value ?_ (fun w' h' => ?_) ?_
          rotate_left
          · have c := (R.below h').own hi hoff.out; go_simp; try with_reducible rfl
          go_simp
          refine hK _ ?_
          clear hK K
          refine q_run rfl (fun K hK => ?_)
          refine q_value ?_ (fun w' h' => ?_) ?_
          rotate_left
          · go_simp; try with_reducible rfl
          go_simp
          refine hK _ ?_
          clear hK K
          refine q_run rfl (fun K hK => ?_)
          refine q_value ?_ (fun w' h' => ?_) ?_
          rotate_left
          · have c := cell_of_row w' b3 0 _ 34 _ (keep X3 h'); go_simp; try with_reducible rfl
          go_simp
          refine hK _ ?_
          clear hK K
          refine q_run rfl (fun K hK => ?_)
          refine q_value ?_ (fun w' h' => ?_) ?_
          rotate_left
          · go_simp; try with_reducible rfl
          go_simp
          refine hK _ ?_
          clear hK K
          refine q_run rfl (fun K hK => ?_)
          refine q_value ?_ (fun w' h' => ?_) ?_
          rotate_left
          · go_simp; try with_reducible rfl
          go_simp
          refine hK _ ?_
          clear hK K
          refine q_run rfl (fun K hK => ?_)
          refine q_value ?_ (fun w' h' => ?_) ?_
          rotate_left
          · go_simp; try with_reducible rfl
          go_simp
          refine hK _ ?_
          clear hK K
          refine q_run rfl (fun K hK => ?_)
          refine q_value ?_ (fun w' h' => ?_) ?_
          rotate_left
          · go_simp; try with_reducible rfl
          go_simp
          refine hK _ ?_
          clear hK K
          refine q_run rfl (fun K hK => ?_)
          refine q_value ?_ (fun w' h' => ?_) ?_
          rotate_left
          · have c := cell_of_row w' b3 0 _ 34 _ (keep X3 h'); go_simp; try with_reducible rfl
          go_simp
          refine hK _ ?_
          clear hK K
          refine q_run rfl (fun K hK => ?_)
          refine q_value ?_ (fun w' h' => ?_) ?_
          rotate_left
          · go_simp; try with_reducible rfl
          go_simp
          refine hK _ ?_
          clear hK K
          refine q_run rfl (fun K hK => ?_)
          refine q_value ?_ (fun w' h' => ?_) ?_
          rotate_left
          · go_simp; try with_reducible rfl
          go_simp
          refine hK _ ?_
          clear hK K
          refine q_run rfl (fun K hK => ?_)
          refine q_value ?_ (fun w' h' => ?_) ?_
          rotate_left
          · go_simp; try with_reducible rfl
          go_simp
          refine hK _ ?_
          clear hK K
          refine q_run rfl (fun K hK => ?_)
          refine q_value ?_ (fun w' h' => ?_) ?_
          rotate_left
          · have c := (R.below h').rd hi hoff.out hq; go_simp; try with_reducible rfl
          go_simp
          refine hK _ ?_
          clear hK K
          refine q_run rfl (fun K hK => ?_)
          refine q_value ?_ (fun w' h' => ?_) ?_
          rotate_left
          · go_simp; try with_reducible rfl
          go_simp
          refine hK _ ?_
          clear hK K
          refine q_run rfl (fun K hK => ?_)
          refine q_value ?_ (fun w' h' => ?_) ?_
          rotate_left
          · go_simp; try with_reducible rfl
          go_simp
          refine hK _ ?_
          clear hK K
          refine qd_nil ?_
          intro w32 h33
          replace X3 := keep X3 h33
          replace X4 := keep X4 h33
          replace R := R.below h33
          replace E := E.below h33
          clear h33
          try rw [Bool.eq_false_iff.2 cr]
          have y2 := cell_of_row w32 b3 2 _ 34 _ X3
          have yo := R.own hi hoff.out
          go_upto_region 13 with (fail)
          refine wp_region_lit ?_
          refine wl_call rfl 18 #[] (ansV 0 none 0 0 false) _ ?_ (notC w32) (fun w34 hd => ?_)
          · first | (go_simp; done) | (go_simp; rfl)
          intro K hK
          go_simp
          refine hK _ _ ?_
          clear hK K
          unfold ansV
          iterate 2
            refine wl_val rfl ?_ ?_ ?_
            rotate_left
            · go_simp; try with_reducible rfl
            intro K hK
            go_simp
            refine hK _ _ ?_
            clear hK K
          refine wl_store rfl 38 (.tmp 4) (.tmp 88) rfl b4 #[.int .u32 0, .slice none 0 0] rfl rfl 38 _ (keep X4 hd) (by kernel_rfl) rfl (by simp [Value.oneCell']) (fun w35 m1 m2 m3 m4 => ?_)
          intro K hK
          go_simp
          refine hK _ _ ?_
          clear hK K
          refine wl_val rfl (.bool false) ?_ ?_
          · go_simp
          intro K hK
          go_simp
          refine hK _ _ ?_
          clear hK K
          have Rf := (R.below hd).keep (m2 g hn4)
          have Ef := (E.below hd).put z4 m2 m3
          go_wp2
          exact ret_ans rfl b4 _ _ _ _ _ rfl rfl rfl m1 ⟨rfl, by rw [updS_same]; exact Rf, Ef⟩
        · by_cases c1 : xc = 1
          · by_cases ca : anyR (S i).readers = true
            · obtain rfl : p = ⟨S i, 0, false⟩ := by
                rw [hp.out]; unfold rwP; rw [if_neg c2, if_neg (fun h => h.elim co cr), if_neg cg, if_pos c1, if_pos ca]
              clear hp
              have q2 : (xc == 2) = false := by simp [c2]
              have qo : ((S i).owner == (q : Int)) = false := by simp [co]
              subst c1
              clear c2 co q2
              go_upto_region 1 with (fail)
              refine quiet_all (fun w' => Below W.heap.size W w') (by kernel_rfl) (by kernel_rfl) (Below.drew (Below.refl _ _)) ?_
              refine q_run rfl (fun K hK => ?_)
              refine q_value ?_ (fun w' h' => ?_) ?_
              rotate_left
              · go_simp; try with_reducible rfl
              go_simp
              refine hK _ ?_
              clear hK K
              refine q_run rfl (fun K hK => ?_)
              refine q_value ?_ (fun w' h' => ?_) ?_
              rotate_left
              · go_simp; try with_reducible rfl
              go_simp
              refine hK _ ?_
              clear hK K
              refine q_run rfl (fun K hK => ?_)
              refine q_value ?_ (fun w' h' => ?_) ?_
              rotate_left
              · go_simp; try with_reducible rfl
              go_simp
              refine hK _ ?_
              clear hK K
              refine q_run rfl (fun K hK => ?_)
              refine q_value ?_ (fun w' h' => ?_) ?_
              rotate_left
              · have c := (R.below h').own hi hoff.out; go_simp; try with_reducible rfl
              go_simp
              refine hK _ ?_
              clear hK K
              refine q_run rfl (fun K hK => ?_)
              refine q_value ?_ (fun w' h' => ?_) ?_
              rotate_left
              · go_simp; try with_reducible rfl
              go_simp
              refine hK _ ?_
              clear hK K
              refine q_run rfl (fun K hK => ?_)
              refine q_value ?_ (fun w' h' => ?_) ?_
              rotate_left
              · have c := cell_of_row w' b3 0 _ 34 _ (keep X3 h'); go_simp; try with_reducible rfl
              go_simp
              refine hK _ ?_
              clear hK K
              refine q_run rfl (fun K hK => ?_)
              refine q_value ?_ (fun w' h' => ?_) ?_
              rotate_left
              · go_simp; try with_reducible rfl
              go_simp
              refine hK _ ?_
              clear hK K
              refine q_run rfl (fun K hK => ?_)
              refine q_value ?_ (fun w' h' => ?_) ?_
              rotate_left
              · go_simp; try with_reducible rfl
              go_simp
              refine hK _ ?_
              clear hK K
              refine q_run rfl (fun K hK => ?_)
              refine q_value ?_ (fun w' h' => ?_) ?_
              rotate_left
              · go_simp; try with_reducible rfl
              go_simp
              refine hK _ ?_
              clear hK K
              refine q_run rfl (fun K hK => ?_)
              refine q_value ?_ (fun w' h' => ?_) ?_
              rotate_left
              · go_simp; try with_reducible rfl
              go_simp
              refine hK _ ?_
              clear hK K
              refine q_run rfl (fun K hK => ?_)
              refine q_value ?_ (fun w' h' => ?_) ?_
              rotate_left
              · have c := cell_of_row w' b3 0 _ 34 _ (keep X3 h'); go_simp; try with_reducible rfl
              go_simp
              refine hK _ ?_
              clear hK K
              refine q_run rfl (fun K hK => ?_)
              refine q_value ?_ (fun w' h' => ?_) ?_
              rotate_left
              · go_simp; try with_reducible rfl
              go_simp
              refine hK _ ?_
              clear hK K
              refine q_run rfl (fun K hK => ?_)
              refine q_value ?_ (fun w' h' => ?_) ?_
              rotate_left
              · go_simp; try with_reducible rfl
              go_simp
              refine hK _ ?_
              clear hK K
              refine q_run rfl (fun K hK => ?_)
              refine q_value ?_ (fun w' h' => ?_) ?_
              rotate_left
              · go_simp; try with_reducible rfl
              go_simp
              refine hK _ ?_
              clear hK K
              refine q_run rfl (fun K hK => ?_)
              refine q_value ?_ (fun w' h' => ?_) ?_
              rotate_left
              · have c := (R.below h').rd hi hoff.out hq; go_simp; try with_reducible rfl
              go_simp
              refine hK _ ?_
              clear hK K
              refine q_run rfl (fun K hK => ?_)
              refine q_value ?_ (fun w' h' => ?_) ?_
              rotate_left
              · go_simp; try with_reducible rfl
              go_simp
              refine hK _ ?_
              clear hK K
              refine q_run rfl (fun K hK => ?_)
              refine q_value ?_ (fun w' h' => ?_) ?_
              rotate_left
              · go_simp; try with_reducible rfl
              go_simp
              refine hK _ ?_
              clear hK K
              refine qd_nil ?_
              intro w36 h37
              replace X3 := keep X3 h37
              replace X4 := keep X4 h37
              replace R := R.below h37
              replace E := E.below h37
              clear h37
              try rw [Bool.eq_false_iff.2 cr]
              have y2 := cell_of_row w36 b3 2 _ 34 _ X3
              have y0 := cell_of_row w36 b3 0 _ 34 _ X3
              have yo := R.own hi hoff.out
              have r0 := R.rd hi hoff.out (q := 0) (by omega)
              have r1 := R.rd hi hoff.out (q := 1) (by omega)
              have r2 := R.rd hi hoff.out (q := 2) (by omega)
              have r3 := R.rd hi hoff.out (q := 3) (by omega)
              have r4 := R.rd hi hoff.out (q := 4) (by omega)
              have r5 := R.rd hi hoff.out (q := 5) (by omega)
              have r6 := R.rd hi hoff.out (q := 6) (by omega)
              have r7 := R.rd hi hoff.out (q := 7) (by omega)
              have he := eq8 (S i).readers w36
              rw [ca] at he
              clear ca cr
              go_upto_region 13 with (fail)
              refine wp_region_lit ?_
              refine wl_call rfl 18 #[] (ansV 0 none 0 0 false) _ ?_ (notC w36) (fun w38 hd => ?_)
              · first | (go_simp; done) | (go_simp; rfl)
              intro K hK
              go_simp
              refine hK _ _ ?_
              clear hK K
              unfold ansV
              iterate 2
                refine wl_val rfl ?_ ?_ ?_
                rotate_left
                · go_simp; try with_reducible rfl
                intro K hK
                go_simp
                refine hK _ _ ?_
                clear hK K
              refine wl_store rfl 38 (.tmp 4) (.tmp 88) rfl b4 #[.int .u32 0, .slice none 0 0] rfl rfl 38 _ (keep X4 hd) (by kernel_rfl) rfl (by simp [Value.oneCell']) (fun w39 m1 m2 m3 m4 => ?_)
              intro K hK
              go_simp
              refine hK _ _ ?_
              clear hK K
              refine wl_val rfl (.bool false) ?_ ?_
              · go_simp
              intro K hK
              go_simp
              refine hK _ _ ?_
              clear hK K
              have Rf := (R.below hd).keep (m2 g hn4)
              have Ef := (E.below hd).put z4 m2 m3
              go_wp2
              exact ret_ans rfl b4 _ _ _ _ _ rfl rfl rfl m1 ⟨rfl, by rw [updS_same]; exact Rf, Ef⟩
            · obtain rfl : p = ⟨{ S i with owner := q }, 0, true⟩ := by
                rw [hp.out]; unfold rwP; rw [if_neg c2, if_neg (fun h => h.elim co cr), if_neg cg, if_pos c1, if_neg ca]
              clear hp
              have q2 : (xc == 2) = false := by simp [c2]
              have qo : ((S i).owner == (q : Int)) = false := by simp [co]
              subst c1
              clear c2 co q2
              go_upto_region 1 with (fail)
              refine quiet_all (fun w' => Below W.heap.size W w') (by kernel_rfl) (by kernel_rfl) (Below.drew (Below.refl _ _)) ?_
              refine q_run rfl (fun K hK => ?_)
              refine q_value ?_ (fun w' h' => ?_) ?_
              rotate_left
              · go_simp; try with_reducible rfl
              go_simp
              refine hK _ ?_
              clear hK K
              refine q_run rfl (fun K hK => ?_)
              refine q_value ?_ (fun w' h' => ?_) ?_
              rotate_left
              · go_simp; try with_reducible rfl
              go_simp
              refine hK _ ?_
              clear hK K
              refine q_run rfl (fun K hK => ?_)
              refine q_value ?_ (fun w' h' => ?_) ?_
              rotate_left
              · go_simp; try with_reducible rfl
              go_simp
              refine hK _ ?_
              clear hK K
              refine q_run rfl (fun K hK => ?_)
              refine q_value ?_ (fun w' h' => ?_) ?_
              rotate_left
              · have c := (R.below h').own hi hoff.out; go_simp; try with_reducible rfl
              go_simp
              refine hK _ ?_
              clear hK K
              refine q_run rfl (fun K hK => ?_)
              refine q_value ?_ (fun w' h' => ?_) ?_
              rotate_left
              · go_simp; try with_reducible rfl
              go_simp
              refine hK _ ?_
              clear hK K
              refine q_run rfl (fun K hK => ?_)
              refine q_value ?_ (fun w' h' => ?_) ?_
              rotate_left
              · have c := cell_of_row w' b3 0 _ 34 _ (keep X3 h'); go_simp; try with_reducible rfl
              go_simp
              refine hK _ ?_
              clear hK K
              refine q_run rfl (fun K hK => ?_)
              refine q_value ?_ (fun w' h' => ?_) ?_
              rotate_left
              · go_simp; try with_reducible rfl
              go_simp
              refine hK _ ?_
              clear hK K
              refine q_run rfl (fun K hK => ?_)
              refine q_value ?_ (fun w' h' => ?_) ?_
              rotate_left
              · go_simp; try with_reducible rfl
              go_simp
              refine hK _ ?_
              clear hK K
              refine q_run rfl (fun K hK => ?_)
              refine q_value ?_ (fun w' h' => ?_) ?_
              rotate_left
              · go_simp; try with_reducible rfl
              go_simp
              refine hK _ ?_
              clear hK K
              refine q_run rfl (fun K hK => ?_)
              refine q_value ?_ (fun w' h' => ?_) ?_
              rotate_left
              · go_simp; try with_reducible rfl
              go_simp
              refine hK _ ?_
              clear hK K
              refine q_run rfl (fun K hK => ?_)
              refine q_value ?_ (fun w' h' => ?_) ?_
              rotate_left
              · have c := cell_of_row w' b3 0 _ 34 _ (keep X3 h'); go_simp; try with_reducible rfl
              go_simp
              refine hK _ ?_
              clear hK K
              refine q_run rfl (fun K hK => ?_)
              refine q_value ?_ (fun w' h' => ?_) ?_
              rotate_left
              · go_simp; try with_reducible rfl
              go_simp
              refine hK _ ?_
              clear hK K
              refine q_run rfl (fun K hK => ?_)
              refine q_value ?_ (fun w' h' => ?_) ?_
              rotate_left
              · go_simp; try with_reducible rfl
              go_simp
              refine hK _ ?_
              clear hK K
              refine q_run rfl (fun K hK => ?_)
              refine q_value ?_ (fun w' h' => ?_) ?_
              rotate_left
              · go_simp; try with_reducible rfl
              go_simp
              refine hK _ ?_
              clear hK K
              refine q_run rfl (fun K hK => ?_)
              refine q_value ?_ (fun w' h' => ?_) ?_
              rotate_left
              · have c := (R.below h').rd hi hoff.out hq; go_simp; try with_reducible rfl
              go_simp
              refine hK _ ?_
              clear hK K
              refine q_run rfl (fun K hK => ?_)
              refine q_value ?_ (fun w' h' => ?_) ?_
              rotate_left
              · go_simp; try with_reducible rfl
              go_simp
              refine hK _ ?_
              clear hK K
              refine q_run rfl (fun K hK => ?_)
              refine q_value ?_ (fun w' h' => ?_) ?_
              rotate_left
              · go_simp; try with_reducible rfl
              go_simp
              refine hK _ ?_
              clear hK K
              refine qd_nil ?_
              intro w40 h41
              replace X3 := keep X3 h41
              replace X4 := keep X4 h41
              replace R := R.below h41
              replace E := E.below h41
              clear h41
              try rw [Bool.eq_false_iff.2 cr]
              simp only [anyR, Bool.or_eq_true, not_or, Bool.not_eq_true] at ca
              obtain ⟨⟨⟨⟨⟨⟨⟨a0, a1⟩, a2⟩, a3⟩, a4⟩, a5⟩, a6⟩, a7⟩ := ca
              have y2 := cell_of_row w40 b3 2 _ 34 _ X3
              have y0 := cell_of_row w40 b3 0 _ 34 _ X3
              have yo := R.own hi hoff.out
              have r0 := R.rd hi hoff.out (q := 0) (by omega)
              have r1 := R.rd hi hoff.out (q := 1) (by omega)
              have r2 := R.rd hi hoff.out (q := 2) (by omega)
              have r3 := R.rd hi hoff.out (q := 3) (by omega)
              have r4 := R.rd hi hoff.out (q := 4) (by omega)
              have r5 := R.rd hi hoff.out (q := 5) (by omega)
              have r6 := R.rd hi hoff.out (q := 6) (by omega)
              have r7 := R.rd hi hoff.out (q := 7) (by omega)
              rw [a0] at r0
              rw [a1] at r1
              rw [a2] at r2
              rw [a3] at r3
              rw [a4] at r4
              rw [a5] at r5
              rw [a6] at r6
              rw [a7] at r7
              have he := eq8b false false false false false false false false w40
              clear a0 a1 a2 a3 a4 a5 a6 a7
              go_upto_region 15 with (fail)
              refine wp_region_lit ?_
              iterate 5
                refine wl_val rfl ?_ ?_ ?_
                rotate_left
                · go_simp; try with_reducible rfl
                intro K hK
                go_simp
                refine hK _ _ ?_
                clear hK K
              refine wl_cell rfl 3 (.tmp 98) (.tmp 96) rfl g n i 4 off S { S i with owner := q } (.int .i64 q) rfl Tryd.sizeOf3 (st_int q) hi (by omega) hoff.out rfl rfl R (cs_own (S i) q) (fun w42 R' E' => ?_)
              intro K hK
              go_simp
              refine hK _ _ ?_
              clear hK K
              replace X3 := (E'.blk b3 (blk_lt X3) (fun e => hn3 e.symm)).trans X3
              replace X4 := (E'.blk b4 (blk_lt X4) (fun e => hn4 e.symm)).trans X4
              replace E := E.trans E'
              replace R := R'
              clear R' E'
              go_upto_region 16 with (fail)
              refine wp_region_lit ?_
              refine wl_call rfl 39 #[] (ansV 0 none 0 0 true) _ ?_ (fineC w42) (fun w43 hd => ?_)
              · first | (go_simp; done) | (go_simp; rfl)
              intro K hK
              go_simp
              refine hK _ _ ?_
              clear hK K
              unfold ansV
              iterate 2
                refine wl_val rfl ?_ ?_ ?_
                rotate_left
                · go_simp; try with_reducible rfl
                intro K hK
                go_simp
                refine hK _ _ ?_
                clear hK K
              refine wl_store rfl 38 (.tmp 4) (.tmp 100) rfl b4 #[.int .u32 0, .slice none 0 0] rfl rfl 38 _ (keep X4 hd) (by kernel_rfl) rfl (by simp [Value.oneCell']) (fun w44 m1 m2 m3 m4 => ?_)
              intro K hK
              go_simp
              refine hK _ _ ?_
              clear hK K
              refine wl_val rfl (.bool true) ?_ ?_
              · go_simp
              intro K hK
              go_simp
              refine hK _ _ ?_
              clear hK K
              have Rf := (R.below hd).keep (m2 g hn4)
              have Ef := (E.below hd).put z4 m2 m3
              go_wp2
              exact ret_ans rfl b4 _ _ _ _ _ rfl rfl rfl m1 ⟨rfl, Rf, Ef⟩
          · obtain rfl : p = ⟨{ S i with readers := upF (S i).readers q true }, 0, true⟩ := by
              rw [hp.out]; unfold rwP; rw [if_neg c2, if_neg (fun h => h.elim co cr), if_neg cg, if_neg c1]
            clear hp
            have q2 : (xc == 2) = false := by simp [c2]
            have qo : ((S i).owner == (q : Int)) = false := by simp [co]
            have q1 : (xc == 1) = false := by simp [c1]
            clear c2 co c1
            go_upto_region 1 with (fail)
            refine quiet_all (fun w' => Below W.heap.size W w') (by kernel_rfl) (by kernel_rfl) (Below.drew (Below.refl _ _)) ?_
            refine q_run rfl (fun K hK => ?_)
            refine q_value ?_ (fun w' h' => ?_) ?_
            rotate_left
            · go_simp; try with_reducible rfl
            go_simp
            refine hK _ ?_
            clear hK K
            refine q_run rfl (fun K hK => ?_)
            refine q_value ?_ (fun w' h' => ?_) ?_
            rotate_left
            · go_simp; try with_reducible rfl
            go_simp
            refine hK _ ?_
            clear hK K
            refine q_run rfl (fun K hK => ?_)
            refine q_value ?_ (fun w' h' => ?_) ?_
            rotate_left
            · go_simp; try with_reducible rfl
            go_simp
            refine hK _ ?_
            clear hK K
            refine q_run rfl (fun K hK => ?_)
            refine q_value ?_ (fun w' h' => ?_) ?_
            rotate_left
            · have c := (R.below h').own hi hoff.out; go_simp; try with_reducible rfl
            go_simp
            refine hK _ ?_
            clear hK K
            refine q_run rfl (fun K hK => ?_)
            refine q_value ?_ (fun w' h' => ?_) ?_
            rotate_left
            · go_simp; try with_reducible rfl
            go_simp
            refine hK _ ?_
            clear hK K
            refine q_run rfl (fun K hK => ?_)
            refine q_value ?_ (fun w' h' => ?_) ?_
            rotate_left
            · have c := cell_of_row w' b3 0 _ 34 _ (keep X3 h'); go_simp; try with_reducible rfl
            go_simp
            refine hK _ ?_
            clear hK K
            refine q_run rfl (fun K hK => ?_)
            refine q_value ?_ (fun w' h' => ?_) ?_
            rotate_left
            · go_simp; try with_reducible rfl
            go_simp
            refine hK _ ?_
            clear hK K
            refine q_run rfl (fun K hK => ?_)
            refine q_value ?_ (fun w' h' => ?_) ?_
            rotate_left
            · go_simp; try with_reducible rfl
            go_simp
            refine hK _ ?_
            clear hK K
            refine q_run rfl (fun K hK => ?_)
            refine q_value ?_ (fun w' h' => ?_) ?_
            rotate_left
            · go_simp; try with_reducible rfl
            go_simp
            refine hK _ ?_
            clear hK K
            refine q_run rfl (fun K hK => ?_)
            refine q_value ?_ (fun w' h' => ?_) ?_
            rotate_left
            · go_simp; try with_reducible rfl
            go_simp
            refine hK _ ?_
            clear hK K
            refine q_run rfl (fun K hK => ?_)
            refine q_value ?_ (fun w' h' => ?_) ?_
            rotate_left
            · have c := cell_of_row w' b3 0 _ 34 _ (keep X3 h'); go_simp; try with_reducible rfl
            go_simp
            refine hK _ ?_
            clear hK K
            refine q_run rfl (fun K hK => ?_)
            refine q_value ?_ (fun w' h' => ?_) ?_
            rotate_left
            · go_simp; try with_reducible rfl
            go_simp
            refine hK _ ?_
            clear hK K
            refine q_run rfl (fun K hK => ?_)
            refine q_value ?_ (fun w' h' => ?_) ?_
            rotate_left
            · go_simp; try with_reducible rfl
            go_simp
            refine hK _ ?_
            clear hK K
            refine q_run rfl (fun K hK => ?_)
            refine q_value ?_ (fun w' h' => ?_) ?_
            rotate_left
            · go_simp; try with_reducible rfl
            go_simp
            refine hK _ ?_
            clear hK K
            refine q_run rfl (fun K hK => ?_)
            refine q_value ?_ (fun w' h' => ?_) ?_
            rotate_left
            · have c := (R.below h').rd hi hoff.out hq; go_simp; try with_reducible rfl
            go_simp
            refine hK _ ?_
            clear hK K
            refine q_run rfl (fun K hK => ?_)
            refine q_value ?_ (fun w' h' => ?_) ?_
            rotate_left
            · go_simp; try with_reducible rfl
            go_simp
            refine hK _ ?_
            clear hK K
            refine q_run rfl (fun K hK => ?_)
            refine q_value ?_ (fun w' h' => ?_) ?_
            rotate_left
            · go_simp; try with_reducible rfl
            go_simp
            refine hK _ ?_
            clear hK K
            refine qd_nil ?_
            intro w45 h46
            replace X3 := keep X3 h46
            replace X4 := keep X4 h46
            replace R := R.below h46
            replace E := E.below h46
            clear h46
            try rw [Bool.eq_false_iff.2 cr]
            have y2 := cell_of_row w45 b3 2 _ 34 _ X3
            have y0 := cell_of_row w45 b3 0 _ 34 _ X3
            have yo := R.own hi hoff.out
            have r0 := R.rd hi hoff.out (q := 0) (by omega)
            have r1 := R.rd hi hoff.out (q := 1) (by omega)
            have r2 := R.rd hi hoff.out (q := 2) (by omega)
            have r3 := R.rd hi hoff.out (q := 3) (by omega)
            have r4 := R.rd hi hoff.out (q := 4) (by omega)
            have r5 := R.rd hi hoff.out (q := 5) (by omega)
            have r6 := R.rd hi hoff.out (q := 6) (by omega)
            have r7 := R.rd hi hoff.out (q := 7) (by omega)
            go_upto_region 2 with (fail)
            refine quiet_tail 6 (fun w' => Below w45.heap.size w45 w') (by kernel_rfl) (by kernel_rfl) (Below.drew (Below.refl _ _)) ?_
            simp only [List.take_succ_cons, List.take_zero, List.drop_succ_cons, List.drop_zero]
            refine q_run rfl (fun K hK => ?_)
            refine q_value ?_ (fun w' h' => ?_) ?_
            rotate_left
            · go_simp; try with_reducible rfl
            go_simp
            refine hK _ ?_
            clear hK K
            refine q_run rfl (fun K hK => ?_)
            refine q_value ?_ (fun w' h' => ?_) ?_
            rotate_left
            · go_simp; try with_reducible rfl
            go_simp
            refine hK _ ?_
            clear hK K
            refine q_run rfl (fun K hK => ?_)
            refine q_value ?_ (fun w' h' => ?_) ?_
            rotate_left
            · have c := cell_of_row w' b3 0 _ 34 _ (keep X3 h'); go_simp; try with_reducible rfl
            go_simp
            refine hK _ ?_
            clear hK K
            refine q_run rfl (fun K hK => ?_)
            refine q_value ?_ (fun w' h' => ?_) ?_
            rotate_left
            · go_simp; try with_reducible rfl
            go_simp
            refine hK _ ?_
            clear hK K
            refine q_run rfl (fun K hK => ?_)
            refine q_value ?_ (fun w' h' => ?_) ?_
            rotate_left
            · go_simp; try with_reducible rfl
            go_simp
            refine hK _ ?_
            clear hK K
            refine q_run rfl (fun K hK => ?_)
            refine q_value ?_ (fun w' h' => ?_) ?_
            rotate_left
            · go_simp; try with_reducible rfl
            go_simp
            refine hK _ ?_
            clear hK K
            refine qd_nil ?_
            intro w47 h48
            replace X3 := keep X3 h48
            replace X4 := keep X4 h48
            replace R := R.below h48
            replace E := E.below h48
            clear h48
            refine wl_cell rfl 4 (.tmp 28) (.const (.bool true)) rfl g n i (5 + q) off S { S i with readers := upF (S i).readers q true } (.bool true) rfl Tryd.sizeOf4 (st_bool true) hi (by omega) hoff.out (by rw [← Nat.add_assoc]; rfl) rfl R (cs_rd (S i) hq true) (fun w49 R' E' => ?_)
            intro K hK
            go_simp
            refine hK _ _ ?_
            clear hK K
            replace X3 := (E'.blk b3 (blk_lt X3) (fun e => hn3 e.symm)).trans X3
            replace X4 := (E'.blk b4 (blk_lt X4) (fun e => hn4 e.symm)).trans X4
            replace E := E.trans E'
            replace R := R'
            clear R' E'
            go_upto_region 16 with (fail)
            refine wp_region_lit ?_
            refine wl_call rfl 39 #[] (ansV 0 none 0 0 true) _ ?_ (fineC w49) (fun w50 hd => ?_)
            · first | (go_simp; done) | (go_simp; rfl)
            intro K hK
            go_simp
            refine hK _ _ ?_
            clear hK K
            unfold ansV
            iterate 2
              refine wl_val rfl ?_ ?_ ?_
              rotate_left
              · go_simp; try with_reducible rfl
              intro K hK
              go_simp
              refine hK _ _ ?_
              clear hK K
            refine wl_store rfl 38 (.tmp 4) (.tmp 100) rfl b4 #[.int .u32 0, .slice none 0 0] rfl rfl 38 _ (keep X4 hd) (by kernel_rfl) rfl (by simp [Value.oneCell']) (fun w51 m1 m2 m3 m4 => ?_)
            intro K hK
            go_simp
            refine hK _ _ ?_
            clear hK K
            refine wl_val rfl (.bool true) ?_ ?_
            · go_simp
            intro K hK
            go_simp
            refine hK _ _ ?_
            clear hK K
            have Rf := (R.below hd).keep (m2 g hn4)
            have Ef := (E.below hd).put z4 m2 m3
            go_wp2
            exact ret_ans rfl b4 _ _ _ _ _ rfl rfl rfl m1 ⟨rfl, Rf, Ef⟩
end Go.Proofs.YtobkonbpcnmgpaaDoor
