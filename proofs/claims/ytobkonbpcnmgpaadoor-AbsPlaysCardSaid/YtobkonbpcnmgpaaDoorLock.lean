/- A lock's call. -/
import Derived.Test.YtobkonbpcnmgpaaDoorStates
namespace Go.Proofs.YtobkonbpcnmgpaaDoor
open Go.RowKit
set_option linter.unusedVariables false
set_option linter.unusedSimpArgs false
structure Out where
  s : St
  r : Int
  ok : Bool
def lockP (s : St) (x : Ak) : Out :=
  if x.call = 2 then (if s.owner = x.who then ⟨{ s with owner := -1, data := s.draft }, 0, true⟩ else ⟨s, 2, true⟩)
  else if s.owner = x.who then ⟨s, 1, true⟩ else if s.owner = -1 then ⟨{ s with owner := x.who }, 0, true⟩ else ⟨s, 0, false⟩
set_option maxRecDepth 100000 in
set_option maxHeartbeats 8000000 in
theorem lockC (S : Nat → St) (g n i off : Nat) (hi : i < n) (hoff : Hid (off = i * 38)) (x : Ak) (w0 : World) (hR : Row w0 g n S) : Calls Tryd.prog 27 #[.pointer (some ⟨g, off, none⟩), akV x] w0 fun e w' => e = .returned (ansV (lockP (S i) x).r none 0 0 (lockP (S i) x).ok) ∧ Row w' g n (updS S i (lockP (S i) x).s) ∧ Exc g w0 w' := by
  obtain ⟨p, hp⟩ : ∃ p, Hid (p = lockP (S i) x) := ⟨_, rfl⟩
  rw [← hp.out]
  unfold akV akC
  go_enter Tryd.func27, Tryd.ntmps27
  go_upto_region 1 with (fail)
  obtain ⟨W, b3, b4, e0, e1, e2, X3, X4, hal⟩ := box2 w0 #[.int .i64 x.who, .int .i64 x.obj, .int .i64 x.call, .int .i64 x.part, .int .u32 x.arg, .int .u32 x.val] #[.int .u32 0, .slice none 0 0] 34 38
  rw [e0, e2, e1]
  have z3 : w0.heap.size ≤ b3 := Nat.le_of_eq e1
  have z4 : w0.heap.size ≤ b4 := by omega
  have hgl := hR.lt
  have hn3 : g ≠ b3 := by omega
  have hn4 : g ≠ b4 := by omega
  clear e0 e2 e1
  have R := hR.below hal
  have E : Exc g w0 W := Exc.of_below hal
  clear hal
  by_cases c2 : x.call = 2
  · have q2 : (x.call == 2) = true := by simp [c2]
    have y2 := cell_of_row W b3 2 _ 34 _ X3
    by_cases co : (S i).owner = x.who
    · obtain rfl : p = ⟨{ S i with owner := -1, data := (S i).draft }, 0, true⟩ := by
        rw [hp.out]; unfold lockP; rw [if_pos c2, if_pos co]
      clear hp
      have qo : ((S i).owner != x.who) = false := by simp [co]
      clear co c2
      go_upto_region 2 with (fail)
      refine quiet_all (fun w' => Below W.heap.size W w') (by kernel_rfl) (by kernel_rfl) (Below.drew (Below.refl _ _)) ?_
      refine q_run rfl (fun K hK => ?_)
      refine q_value ?_ (fun w' h' => ?_) ?_
      rotate_left
      · go_simp; try with_reducible rfl
      go_simp
      refine hK _ ?_
      clear hK K
      refine q_run rfl (fun K hK => ?_)
      refine q_value ?_ (fun w' h' => ?_) ?_
      rotate_left
      · go_simp; try with_reducible rfl
      go_simp
      refine hK _ ?_
      clear hK K
      refine q_run rfl (fun K hK => ?_)
      refine q_value ?_ (fun w' h' => ?_) ?_
      rotate_left
      · go_simp; try with_reducible rfl
      go_simp
      refine hK _ ?_
      clear hK K
      refine q_run rfl (fun K hK => ?_)
      refine q_value ?_ (fun w' h' => ?_) ?_
      rotate_left
      · have c := (R.below h').own hi hoff.out; go_simp; try with_reducible rfl
      go_simp
      refine hK _ ?_
      clear hK K
      refine q_run rfl (fun K hK => ?_)
      refine q_value ?_ (fun w' h' => ?_) ?_
      rotate_left
      · go_simp; try with_reducible rfl
      go_simp
      refine hK _ ?_
      clear hK K
      refine q_run rfl (fun K hK => ?_)
      refine q_value ?_ (fun w' h' => ?_) ?_
      rotate_left
      · have c := cell_of_row w' b3 0 _ 34 _ (keep X3 h'); go_simp; try with_reducible rfl
      go_simp
      refine hK _ ?_
      clear hK K
      refine q_run rfl (fun K hK => ?_)
      refine q_value ?_ (fun w' h' => ?_) ?_
      rotate_left
      · go_simp; try with_reducible rfl
      go_simp
      refine hK _ ?_
      clear hK K
      refine qd_nil ?_
      intro w1 h2
      replace X3 := keep X3 h2
      replace X4 := keep X4 h2
      replace R := R.below h2
      replace E := E.below h2
      clear h2
      go_upto_region 4 with (fail)
      refine wp_region_lit ?_
      iterate 3
        refine wl_val rfl ?_ ?_ ?_
        rotate_left
        · go_simp; try with_reducible rfl
        intro K hK
        go_simp
        refine hK _ _ ?_
        clear hK K
      refine wl_cell rfl 3 (.tmp 21) (.const (.int .i64 (-1))) rfl g n i 4 off S { S i with owner := -1 } (.int .i64 (-1)) rfl Tryd.sizeOf3 (st_int (-1)) hi (by omega) hoff.out rfl rfl R (cs_own (S i) (-1)) (fun w3 R' E' => ?_)
      intro K hK
      go_simp
      refine hK _ _ ?_
      clear hK K
      replace X3 := (E'.blk b3 (blk_lt X3) (fun e => hn3 e.symm)).trans X3
      replace X4 := (E'.blk b4 (blk_lt X4) (fun e => hn4 e.symm)).trans X4
      replace E := E.trans E'
      replace R := R'
      clear R' E'
      go_upto_region 5 with (fail)
      refine wp_region_lit ?_
      iterate 4
        refine wl_val rfl ?_ ?_ ?_
        rotate_left
        · go_simp; try with_reducible rfl
        intro K hK
        go_simp
        refine hK _ _ ?_
        clear hK K
      have hld : ∀ (a : Act) (o : Oper), o.op = .load 61 (.tmp 25) → a.eval (.tmp 25) = .pointer (some ⟨g, off + 16, none⟩) → (execOp a.eval o).run Tryd.prog w3 = .ok (.value (.agg #[.int .u32 ((S i).draft 0), .int .u32 ((S i).draft 1), .int .u32 ((S i).draft 2)])) w3 := fun a o ho hx => by
        have := run_ld3 (.tmp 25) ho R hi hoff.out hx
        rw [updS_at] at this; exact this
      refine wl_val rfl (.agg #[.int .u32 ((S i).draft 0), .int .u32 ((S i).draft 1), .int .u32 ((S i).draft 2)]) (hld _ _ rfl rfl) ?_
      intro K hK
      go_simp
      refine hK _ _ ?_
      clear hK K
      clear hld
      iterate 2
        refine wl_val rfl ?_ ?_ ?_
        rotate_left
        · go_simp; try with_reducible rfl
        intro K hK
        go_simp
        refine hK _ _ ?_
        clear hK K
      refine wl_st3 rfl (.tmp 28) (.tmp 26) rfl g n i off (updS S i { S i with owner := -1 }) hi hoff.out rfl (by rw [updS_at]; rfl) R (fun w4 R' E' => ?_)
      intro K hK
      go_simp
      refine hK _ _ ?_
      clear hK K
      replace X3 := (E'.blk b3 (blk_lt X3) (fun e => hn3 e.symm)).trans X3
      replace X4 := (E'.blk b4 (blk_lt X4) (fun e => hn4 e.symm)).trans X4
      replace E := E.trans E'
      rw [updS_updS, updS_at] at R'
      replace R := R'
      clear R' E'
      go_upto_region 6 with (fail)
      refine wp_region_lit ?_
      refine wl_call rfl 39 #[] (ansV 0 none 0 0 true) _ ?_ (fineC w4) (fun w5 hd => ?_)
      · first | (go_simp; done) | (go_simp; rfl)
      intro K hK
      go_simp
      refine hK _ _ ?_
      clear hK K
      unfold ansV
      iterate 2
        refine wl_val rfl ?_ ?_ ?_
        rotate_left
        · go_simp; try with_reducible rfl
        intro K hK
        go_simp
        refine hK _ _ ?_
        clear hK K
      refine wl_store rfl 38 (.tmp 4) (.tmp 30) rfl b4 #[.int .u32 0, .slice none 0 0] rfl rfl 38 _ (keep X4 hd) (by kernel_rfl) rfl (by simp [Value.oneCell']) (fun w6 m1 m2 m3 m4 => ?_)
      intro K hK
      go_simp
      refine hK _ _ ?_
      clear hK K
      refine wl_val rfl (.bool true) ?_ ?_
      · go_simp
      intro K hK
      go_simp
      refine hK _ _ ?_
      clear hK K
      have Rf := (R.below hd).keep (m2 g hn4)
      have Ef := (E.below hd).put z4 m2 m3
      go_wp2
      exact ret_ans rfl b4 _ _ _ _ _ rfl rfl rfl m1 ⟨rfl, Rf, Ef⟩
    · obtain rfl : p = ⟨S i, 2, true⟩ := by
        rw [hp.out]; unfold lockP; rw [if_pos c2, if_neg co]
      clear hp
      have qo : ((S i).owner != x.who) = true := by simp [co]
      clear co c2
      go_upto_region 2 with (fail)
      refine quiet_all (fun w' => Below W.heap.size W w') (by kernel_rfl) (by kernel_rfl) (Below.drew (Below.refl _ _)) ?_
      refine q_run rfl (fun K hK => ?_)
      refine q_value ?_ (fun w' h' => ?_) ?_
      rotate_left
      · go_simp; try with_reducible rfl
      go_simp
      refine hK _ ?_
      clear hK K
      refine q_run rfl (fun K hK => ?_)
      refine q_value ?_ (fun w' h' => ?_) ?_
      rotate_left
      · go_simp; try with_reducible rfl
      go_simp
      refine hK _ ?_
      clear hK K
      refine q_run rfl (fun K hK => ?_)
      refine q_value ?_ (fun w' h' => ?_) ?_
      rotate_left
      · go_simp; try with_reducible rfl
      go_simp
      refine hK _ ?_
      clear hK K
      refine q_run rfl (fun K hK => ?_)
      refine q_value ?_ (fun w' h' => ?_) ?_
      rotate_left
      · have c := (R.below h').own hi hoff.out; go_simp; try with_reducible rfl
      go_simp
      refine hK _ ?_
      clear hK K
      refine q_run rfl (fun K hK => ?_)
      refine q_value ?_ (fun w' h' => ?_) ?_
      rotate_left
      · go_simp; try with_reducible rfl
      go_simp
      refine hK _ ?_
      clear hK K
      refine q_run rfl (fun K hK => ?_)
      refine q_value ?_ (fun w' h' => ?_) ?_
      rotate_left
      · have c := cell_of_row w' b3 0 _ 34 _ (keep X3 h'); go_simp; try with_reducible rfl
      go_simp
      refine hK _ ?_
      clear hK K
      refine q_run rfl (fun K hK => ?_)
      refine q_value ?_ (fun w' h' => ?_) ?_
      rotate_left
      · go_simp; try with_reducible rfl
      go_simp
      refine hK _ ?_
      clear hK K
      refine qd_nil ?_
      intro w7 h8
      replace X3 := keep X3 h8
      replace X4 := keep X4 h8
      replace R := R.below h8
      replace E := E.below h8
      clear h8
      go_upto_region 3 with (fail)
      refine wp_region_lit ?_
      refine wl_call rfl 38 #[.int .u32 2] (ansV 2 none 0 0 true) _ ?_ (toldC 2 w7) (fun w9 hd => ?_)
      · first | (go_simp; done) | (go_simp; rfl)
      intro K hK
      go_simp
      refine hK _ _ ?_
      clear hK K
      unfold ansV
      iterate 2
        refine wl_val rfl ?_ ?_ ?_
        rotate_left
        · go_simp; try with_reducible rfl
        intro K hK
        go_simp
        refine hK _ _ ?_
        clear hK K
      refine wl_store rfl 38 (.tmp 4) (.tmp 17) rfl b4 #[.int .u32 2, .slice none 0 0] rfl rfl 38 _ (keep X4 hd) (by kernel_rfl) rfl (by simp [Value.oneCell']) (fun w10 m1 m2 m3 m4 => ?_)
      intro K hK
      go_simp
      refine hK _ _ ?_
      clear hK K
      refine wl_val rfl (.bool true) ?_ ?_
      · go_simp
      intro K hK
      go_simp
      refine hK _ _ ?_
      clear hK K
      have Rf := (R.below hd).keep (m2 g hn4)
      have Ef := (E.below hd).put z4 m2 m3
      go_wp2
      exact ret_ans rfl b4 _ _ _ _ _ rfl rfl rfl m1 ⟨rfl, by rw [updS_same]; exact Rf, Ef⟩
  · have q2 : (x.call == 2) = false := by simp [c2]
    have y2 := cell_of_row W b3 2 _ 34 _ X3
    have y0 := cell_of_row W b3 0 _ 34 _ X3
    have yo := R.own hi hoff.out
    by_cases co : (S i).owner = x.who
    · obtain rfl : p = ⟨S i, 1, true⟩ := by
        rw [hp.out]; unfold lockP; rw [if_neg c2, if_pos co]
      clear hp
      have qo : ((S i).owner == x.who) = true := by simp [co]
      clear co c2
      go_upto_region 9 with (fail)
      refine wp_region_lit ?_
      refine wl_call rfl 38 #[.int .u32 1] (ansV 1 none 0 0 true) _ ?_ (toldC 1 W) (fun w11 hd => ?_)
      · first | (go_simp; done) | (go_simp; rfl)
      intro K hK
      go_simp
      refine hK _ _ ?_
      clear hK K
      unfold ansV
      iterate 2
        refine wl_val rfl ?_ ?_ ?_
        rotate_left
        · go_simp; try with_reducible rfl
        intro K hK
        go_simp
        refine hK _ _ ?_
        clear hK K
      refine wl_store rfl 38 (.tmp 4) (.tmp 41) rfl b4 #[.int .u32 1, .slice none 0 0] rfl rfl 38 _ (keep X4 hd) (by kernel_rfl) rfl (by simp [Value.oneCell']) (fun w12 m1 m2 m3 m4 => ?_)
      intro K hK
      go_simp
      refine hK _ _ ?_
      clear hK K
      refine wl_val rfl (.bool true) ?_ ?_
      · go_simp
      intro K hK
      go_simp
      refine hK _ _ ?_
      clear hK K
      have Rf := (R.below hd).keep (m2 g hn4)
      have Ef := (E.below hd).put z4 m2 m3
      go_wp2
      exact ret_ans rfl b4 _ _ _ _ _ rfl rfl rfl m1 ⟨rfl, by rw [updS_same]; exact Rf, Ef⟩
    · by_cases cm : (S i).owner = -1
      · obtain rfl : p = ⟨{ S i with owner := x.who }, 0, true⟩ := by
          rw [hp.out]; unfold lockP; rw [if_neg c2, if_neg co, if_pos cm]
        clear hp
        have qo : ((S i).owner == x.who) = false := by simp [co]
        have qm : ((S i).owner == -1) = true := by simp [cm]
        clear co c2 cm
        go_upto_region 11 with (fail)
        refine wp_region_lit ?_
        iterate 5
          refine wl_val rfl ?_ ?_ ?_
          rotate_left
          · go_simp; try with_reducible rfl
          intro K hK
          go_simp
          refine hK _ _ ?_
          clear hK K
        refine wl_cell rfl 3 (.tmp 49) (.tmp 47) rfl g n i 4 off S { S i with owner := x.who } (.int .i64 x.who) rfl Tryd.sizeOf3 (st_int x.who) hi (by omega) hoff.out rfl rfl R (cs_own (S i) x.who) (fun w13 R' E' => ?_)
        intro K hK
        go_simp
        refine hK _ _ ?_
        clear hK K
        replace X3 := (E'.blk b3 (blk_lt X3) (fun e => hn3 e.symm)).trans X3
        replace X4 := (E'.blk b4 (blk_lt X4) (fun e => hn4 e.symm)).trans X4
        replace E := E.trans E'
        replace R := R'
        clear R' E'
        go_upto_region 12 with (fail)
        refine wp_region_lit ?_
        refine wl_call rfl 39 #[] (ansV 0 none 0 0 true) _ ?_ (fineC w13) (fun w14 hd => ?_)
        · first | (go_simp; done) | (go_simp; rfl)
        intro K hK
        go_simp
        refine hK _ _ ?_
        clear hK K
        unfold ansV
        iterate 2
          refine wl_val rfl ?_ ?_ ?_
          rotate_left
          · go_simp; try with_reducible rfl
          intro K hK
          go_simp
          refine hK _ _ ?_
          clear hK K
        refine wl_store rfl 38 (.tmp 4) (.tmp 51) rfl b4 #[.int .u32 0, .slice none 0 0] rfl rfl 38 _ (keep X4 hd) (by kernel_rfl) rfl (by simp [Value.oneCell']) (fun w15 m1 m2 m3 m4 => ?_)
        intro K hK
        go_simp
        refine hK _ _ ?_
        clear hK K
        refine wl_val rfl (.bool true) ?_ ?_
        · go_simp
        intro K hK
        go_simp
        refine hK _ _ ?_
        clear hK K
        have Rf := (R.below hd).keep (m2 g hn4)
        have Ef := (E.below hd).put z4 m2 m3
        go_wp2
        exact ret_ans rfl b4 _ _ _ _ _ rfl rfl rfl m1 ⟨rfl, Rf, Ef⟩
      · obtain rfl : p = ⟨S i, 0, false⟩ := by
          rw [hp.out]; unfold lockP; rw [if_neg c2, if_neg co, if_neg cm]
        clear hp
        have qo : ((S i).owner == x.who) = false := by simp [co]
        have qm : ((S i).owner == -1) = false := by simp [cm]
        clear co c2 cm
        go_upto_region 13 with (fail)
        refine wp_region_lit ?_
        refine wl_call rfl 18 #[] (ansV 0 none 0 0 false) _ ?_ (notC W) (fun w16 hd => ?_)
        · first | (go_simp; done) | (go_simp; rfl)
        intro K hK
        go_simp
        refine hK _ _ ?_
        clear hK K
        unfold ansV
        iterate 2
          refine wl_val rfl ?_ ?_ ?_
          rotate_left
          · go_simp; try with_reducible rfl
          intro K hK
          go_simp
          refine hK _ _ ?_
          clear hK K
        refine wl_store rfl 38 (.tmp 4) (.tmp 54) rfl b4 #[.int .u32 0, .slice none 0 0] rfl rfl 38 _ (keep X4 hd) (by kernel_rfl) rfl (by simp [Value.oneCell']) (fun w17 m1 m2 m3 m4 => ?_)
        intro K hK
        go_simp
        refine hK _ _ ?_
        clear hK K
        refine wl_val rfl (.bool false) ?_ ?_
        · go_simp
        intro K hK
        go_simp
        refine hK _ _ ?_
        clear hK K
        have Rf := (R.below hd).keep (m2 g hn4)
        have Ef := (E.below hd).put z4 m2 m3
        go_wp2
        exact ret_ans rfl b4 _ _ _ _ _ rfl rfl rfl m1 ⟨rfl, by rw [updS_same]; exact Rf, Ef⟩
end Go.Proofs.YtobkonbpcnmgpaaDoor
