/- The reference's answer, walked. -/
import Derived.Test.YtobkonbpcnmgpaaDoorRAns
namespace Go.Proofs.YtobkonbpcnmgpaaDoor
open Go.RowKit
set_option linter.unusedVariables false
set_option linter.unusedSimpArgs false
set_option maxRecDepth 100000 in
set_option maxHeartbeats 64000000 in
theorem refDo (Ad : Option Addr) (n cn : Nat) (hn4 : n ≤ 4000) (fO : Nat → O) (t : Int) (V : Option Addr) (m cc : Nat) (f : Nat → Stp) (hmm : m ≤ 4000) (x : Ak) (hxa : 0 ≤ x.arg ∧ x.arg < 4294967296) (hput : ∀ j, j < m → (f j).x.obj = x.obj → (f j).x.call = 4 → (f j).r = 0 → 0 ≤ (f j).x.arg ∧ (f j).x.arg < (fO x.obj.toNat).n) (w : World) (hA : Objs w Ad n fO) (hV : Steps w V m f) : Calls Tryd.prog 15 #[.slice Ad n cn, .int .i64 t, .slice V m cc, akV x] w fun e w' => AnsR w' (refR t n fO f m x) (datN x.obj f m) e ∧ Below w.heap.size w w' := by
  obtain ⟨p, hp⟩ : ∃ p, Hid (p = refR t n fO f m x) := ⟨_, rfl⟩
  rw [← hp.out]
  by_cases hin : 0 ≤ x.obj ∧ x.obj < n
  case neg =>
    obtain ⟨x0, x1, x2, x3, x4, x5⟩ := x
    simp only at hxa hin
    obtain rfl : p = ⟨0, false, 0⟩ := hp.out.trans (if_neg hin)
    clear hp hput
    unfold akV akC
    go_enter Tryd.func15, Tryd.ntmps15
    go_upto_region 1 with (fail)
    obtain ⟨W, b7, b8, e0, e1, e2, X7, X8, hal⟩ := box2 w #[.int .i64 x0, .int .i64 x1, .int .i64 x2, .int .i64 x3, .int .u32 x4, .int .u32 x5] #[.int .u32 0, .slice none 0 0, .bool false] 35 42
    rw [e0, e2, e1]
    have z8 : w.heap.size ≤ b8 := by omega
    clear e0 e2 e1
    replace hV := hV.below hal
    by_cases c1 : x1 < 0
    · refine quiet_all (fun w' => Below W.heap.size W w') (by kernel_rfl) (by kernel_rfl) (Below.drew (Below.refl _ _)) ?_
      refine q_run rfl (fun K hK => ?_)
      refine q_value ?_ (fun w' h' => ?_) ?_
      rotate_left
      · go_simp; try with_reducible rfl
      go_simp
      refine hK _ ?_
      clear hK K
      refine q_run rfl (fun K hK => ?_)
      refine q_value ?_ (fun w' h' => ?_) ?_
      rotate_left
      · have c := cell_of_row w' b7 1 _ 35 _ (keep X7 h'); go_simp; try with_reducible rfl
      go_simp
      refine hK _ ?_
      clear hK K
      refine q_run rfl (fun K hK => ?_)
      refine q_value ?_ (fun w' h' => ?_) ?_
      rotate_left
      · go_simp; try with_reducible rfl
      go_simp
      refine hK _ ?_
      clear hK K
      refine q_run rfl (fun K hK => ?_)
      refine q_value ?_ (fun w' h' => ?_) ?_
      rotate_left
      · go_simp; try with_reducible rfl
      go_simp
      refine hK _ ?_
      clear hK K
      refine q_skip rfl (fun K hK => ?_)
      go_simp
      refine hK _ ?_
      clear hK K
      refine q_skip rfl (fun K hK => ?_)
      go_simp
      refine hK _ ?_
      clear hK K
      refine q_skip rfl (fun K hK => ?_)
      go_simp
      refine hK _ ?_
      clear hK K
      refine q_skip rfl (fun K hK => ?_)
      go_simp
      refine hK _ ?_
      clear hK K
      refine q_skip rfl (fun K hK => ?_)
      go_simp
      refine hK _ ?_
      clear hK K
      refine q_run rfl (fun K hK => ?_)
      refine q_value ?_ (fun w' h' => ?_) ?_
      rotate_left
      · go_simp; try with_reducible rfl
      go_simp
      refine hK _ ?_
      clear hK K
      refine q_run rfl (fun K hK => ?_)
      refine q_value ?_ (fun w' h' => ?_) ?_
      rotate_left
      · go_simp; try with_reducible rfl
      go_simp
      refine hK _ ?_
      clear hK K
      refine q_skip rfl (fun K hK => ?_)
      go_simp
      refine hK _ ?_
      clear hK K
      refine q_skip rfl (fun K hK => ?_)
      go_simp
      refine hK _ ?_
      clear hK K
      refine q_skip rfl (fun K hK => ?_)
      go_simp
      refine hK _ ?_
      clear hK K
      refine q_skip rfl (fun K hK => ?_)
      go_simp
      refine hK _ ?_
      clear hK K
      refine q_skip rfl (fun K hK => ?_)
      go_simp
      refine hK _ ?_
      clear hK K
      refine q_skip rfl (fun K hK => ?_)
      go_simp
      refine hK _ ?_
      clear hK K
      refine q_skip rfl (fun K hK => ?_)
      go_simp
      refine hK _ ?_
      clear hK K
      refine q_skip rfl (fun K hK => ?_)
      go_simp
      refine hK _ ?_
      clear hK K
      refine q_skip rfl (fun K hK => ?_)
      go_simp
      refine hK _ ?_
      clear hK K
      refine q_skip rfl (fun K hK => ?_)
      go_simp
      refine hK _ ?_
      clear hK K
      refine q_skip rfl (fun K hK => ?_)
      go_simp
      refine hK _ ?_
      clear hK K
      refine q_skip rfl (fun K hK => ?_)
      go_simp
      refine hK _ ?_
      clear hK K
      refine q_run rfl (fun K hK => ?_)
      refine q_value ?_ (fun w' h' => ?_) ?_
      rotate_left
      · go_simp; try with_reducible rfl
      go_simp
      refine hK _ ?_
      clear hK K
      refine qd_nil ?_
      intro w2 h2
      replace X7 := keep X7 h2
      replace X8 := keep X8 h2
      replace hV := hV.below h2
      replace hal := hal.trans (h2.mono hal.size)
      clear h2
      go_upto_region 2 with (fail)
      refine wp_region_lit ?_
      refine wl_val rfl (.agg #[.int .u32 0, .slice none 0 0, .bool false]) ?_ ?_
      · go_simp
      intro K hK
      go_simp
      refine hK _ _ ?_
      clear hK K
      refine wl_store rfl 42 (.tmp 8) (.tmp 38) rfl b8 #[.int .u32 0, .slice none 0 0, .bool false] rfl rfl 42 _ X8 (by kernel_rfl) rfl (by simp [Value.oneCell']) (fun we m1 m2 m3 m4 => ?_)
      intro K hK
      go_simp
      refine hK _ _ ?_
      clear hK K
      go_wp2
      exact ret_ref rfl b8 _ _ _ _ _ rfl rfl m1 ⟨AnsR.no, hal.trans (m3 _ z8)⟩
    · have c2 : (n : Int) ≤ x1 := by omega
      refine quiet_all (fun w' => Below W.heap.size W w') (by kernel_rfl) (by kernel_rfl) (Below.drew (Below.refl _ _)) ?_
      refine q_run rfl (fun K hK => ?_)
      refine q_value ?_ (fun w' h' => ?_) ?_
      rotate_left
      · go_simp; try with_reducible rfl
      go_simp
      refine hK _ ?_
      clear hK K
      refine q_run rfl (fun K hK => ?_)
      refine q_value ?_ (fun w' h' => ?_) ?_
      rotate_left
      · have c := cell_of_row w' b7 1 _ 35 _ (keep X7 h'); go_simp; try with_reducible rfl
      go_simp
      refine hK _ ?_
      clear hK K
      refine q_run rfl (fun K hK => ?_)
      refine q_value ?_ (fun w' h' => ?_) ?_
      rotate_left
      · go_simp; try with_reducible rfl
      go_simp
      refine hK _ ?_
      clear hK K
      refine q_run rfl (fun K hK => ?_)
      refine q_value ?_ (fun w' h' => ?_) ?_
      rotate_left
      · go_simp; try with_reducible rfl
      go_simp
      refine hK _ ?_
      clear hK K
      refine q_run rfl (fun K hK => ?_)
      refine q_value ?_ (fun w' h' => ?_) ?_
      rotate_left
      · go_simp; try with_reducible rfl
      go_simp
      refine hK _ ?_
      clear hK K
      refine q_run rfl (fun K hK => ?_)
      refine q_value ?_ (fun w' h' => ?_) ?_
      rotate_left
      · have c := cell_of_row w' b7 1 _ 35 _ (keep X7 h'); go_simp; try with_reducible rfl
      go_simp
      refine hK _ ?_
      clear hK K
      refine q_run rfl (fun K hK => ?_)
      refine q_value ?_ (fun w' h' => ?_) ?_
      rotate_left
      · go_simp; try with_reducible rfl
      go_simp
      refine hK _ ?_
      clear hK K
      refine q_run rfl (fun K hK => ?_)
      refine q_value ?_ (fun w' h' => ?_) ?_
      rotate_left
      · go_simp; try with_reducible rfl
      go_simp
      refine hK _ ?_
      clear hK K
      refine q_run rfl (fun K hK => ?_)
      refine q_value ?_ (fun w' h' => ?_) ?_
      rotate_left
      · go_simp; try with_reducible rfl
      go_simp
      refine hK _ ?_
      clear hK K
      refine q_run rfl (fun K hK => ?_)
      refine q_value ?_ (fun w' h' => ?_) ?_
      rotate_left
      · go_simp; try with_reducible rfl
      go_simp
      refine hK _ ?_
      clear hK K
      refine q_run rfl (fun K hK => ?_)
      refine q_value ?_ (fun w' h' => ?_) ?_
      rotate_left
      · go_simp; try with_reducible rfl
      go_simp
      refine hK _ ?_
      clear hK K
      refine q_skip rfl (fun K hK => ?_)
      go_simp
      refine hK _ ?_
      clear hK K
      refine q_skip rfl (fun K hK => ?_)
      go_simp
      refine hK _ ?_
      clear hK K
      refine q_skip rfl (fun K hK => ?_)
      go_simp
      refine hK _ ?_
      clear hK K
      refine q_skip rfl (fun K hK => ?_)
      go_simp
      refine hK _ ?_
      clear hK K
      refine q_skip rfl (fun K hK => ?_)
      go_simp
      refine hK _ ?_
      clear hK K
      refine q_skip rfl (fun K hK => ?_)
      go_simp
      refine hK _ ?_
      clear hK K
      refine q_skip rfl (fun K hK => ?_)
      go_simp
      refine hK _ ?_
      clear hK K
      refine q_skip rfl (fun K hK => ?_)
      go_simp
      refine hK _ ?_
      clear hK K
      refine q_skip rfl (fun K hK => ?_)
      go_simp
      refine hK _ ?_
      clear hK K
      refine q_skip rfl (fun K hK => ?_)
      go_simp
      refine hK _ ?_
      clear hK K
      refine q_skip rfl (fun K hK => ?_)
      go_simp
      refine hK _ ?_
      clear hK K
      refine q_skip rfl (fun K hK => ?_)
      go_simp
      refine hK _ ?_
      clear hK K
      refine q_run rfl (fun K hK => ?_)
      refine q_value ?_ (fun w' h' => ?_) ?_
      rotate_left
      · go_simp; try with_reducible rfl
      go_simp
      refine hK _ ?_
      clear hK K
      refine qd_nil ?_
      intro w2 h2
      replace X7 := keep X7 h2
      replace X8 := keep X8 h2
      replace hV := hV.below h2
      replace hal := hal.trans (h2.mono hal.size)
      clear h2
      go_upto_region 2 with (fail)
      refine wp_region_lit ?_
      refine wl_val rfl (.agg #[.int .u32 0, .slice none 0 0, .bool false]) ?_ ?_
      · go_simp
      intro K hK
      go_simp
      refine hK _ _ ?_
      clear hK K
      refine wl_store rfl 42 (.tmp 8) (.tmp 38) rfl b8 #[.int .u32 0, .slice none 0 0, .bool false] rfl rfl 42 _ X8 (by kernel_rfl) rfl (by simp [Value.oneCell']) (fun we m1 m2 m3 m4 => ?_)
      intro K hK
      go_simp
      refine hK _ _ ?_
      clear hK K
      go_wp2
      exact ret_ref rfl b8 _ _ _ _ _ rfl rfl m1 ⟨AnsR.no, hal.trans (m3 _ z8)⟩
  obtain ⟨x0, x1, x2, x3, x4, x5⟩ := x
  simp only at hxa hin hput
  obtain ⟨i, rfl⟩ : ∃ i : Nat, x1 = i := ⟨x1.toNat, by omega⟩
  have hi : i < n := by omega
  rw [Int.toNat_natCast] at hput
  have hl0 : (0 : Int) ≤ i := by omega
  have hl1 : (i : Int) < n := by omega
  obtain ⟨a0, a1⟩ := hxa
  clear hin
  obtain ⟨bA, oA, rfl⟩ := objs_ptr hA (by omega)
  have hM := fun w' => rmayC (fO i) x2 t x0 w'
  have hld := fun (w' : World) (hb : Below w.heap.size w w') (a : Act) (oo : Oper) (y : Operand) (ho : oo.op = .load 48 y) (hx : a.eval y = .pointer (some ⟨bA, oA + i * 4, none⟩)) => run_ldobj (a := a) (o := oo) y ho bA oA i hA hb hi hx
  replace hp : Hid (p = if mayS (fO i) x2 t x0 = true then refG t (fO i) f m ⟨x0, i, x2, x3, x4, x5⟩ else ⟨0, false, 0⟩) := by
    show p = _
    rw [hp.out]; unfold refR
    rw [if_pos ⟨hl0, hl1⟩]; simp only [Int.toNat_natCast]
  generalize fO i = oo at *
  obtain ⟨ok, on, oa, ob⟩ := oo
  simp only at hput
  unfold ov at hM hld
  obtain ⟨B, hB⟩ : ∃ B, Hid (B = mayS ⟨ok, on, oa, ob⟩ x2 t x0) := ⟨_, rfl⟩
  rw [← hB.out] at hp
  rw [← hB.out] at hM
  unfold akV akC
  go_enter Tryd.func15, Tryd.ntmps15
  go_upto_region 1 with (fail)
  obtain ⟨W, b7, b8, e0, e1, e2, X7, X8, hal⟩ := box2 w #[.int .i64 x0, .int .i64 i, .int .i64 x2, .int .i64 x3, .int .u32 x4, .int .u32 x5] #[.int .u32 0, .slice none 0 0, .bool false] 35 42
  rw [e0, e2, e1]
  have z8 : w.heap.size ≤ b8 := by omega
  clear e0 e2 e1
  replace hV := hV.below hal
  have hge1 : decide ((n : Int) ≤ i) = false := decide_eq_false (by omega)
  have hge2 : decide (n ≤ i) = false := decide_eq_false (by omega)
  have hge3 : decide ((i : Int) < 0) = false := decide_eq_false (by omega)
  refine quiet_all (fun w' => Below W.heap.size W w') (by kernel_rfl) (by kernel_rfl) (Below.drew (Below.refl _ _)) ?_
  refine q_run rfl (fun K hK => ?_)
  refine q_value ?_ (fun w' h' => ?_) ?_
  rotate_left
  · go_simp; try with_reducible rfl
  go_simp
  refine hK _ ?_
  clear hK K
  refine q_run rfl (fun K hK => ?_)
  refine q_value ?_ (fun w' h' => ?_) ?_
  rotate_left
  · have c := cell_of_row w' b7 1 _ 35 _ (keep X7 h'); go_simp; try with_reducible rfl
  go_simp
  refine hK _ ?_
  clear hK K
  refine q_run rfl (fun K hK => ?_)
  refine q_value ?_ (fun w' h' => ?_) ?_
  rotate_left
  · go_simp; try with_reducible rfl
  go_simp
  refine hK _ ?_
  clear hK K
  refine q_run rfl (fun K hK => ?_)
  refine q_value ?_ (fun w' h' => ?_) ?_
  rotate_left
  · go_simp; try with_reducible rfl
  go_simp
  refine hK _ ?_
  clear hK K
  refine q_run rfl (fun K hK => ?_)
  refine q_value ?_ (fun w' h' => ?_) ?_
  rotate_left
  · go_simp; try with_reducible rfl
  go_simp
  refine hK _ ?_
  clear hK K
  refine q_run rfl (fun K hK => ?_)
  refine q_value ?_ (fun w' h' => ?_) ?_
  rotate_left
  · have c := cell_of_row w' b7 1 _ 35 _ (keep X7 h'); go_simp; try with_reducible rfl
  go_simp
  refine hK _ ?_
  clear hK K
  refine q_run rfl (fun K hK => ?_)
  refine q_value ?_ (fun w' h' => ?_) ?_
  rotate_left
  · go_simp; try with_reducible rfl
  go_simp
  refine hK _ ?_
  clear hK K
  refine q_run rfl (fun K hK => ?_)
  refine q_value ?_ (fun w' h' => ?_) ?_
  rotate_left
  · go_simp; try with_reducible rfl
  go_simp
  refine hK _ ?_
  clear hK K
  refine q_run rfl (fun K hK => ?_)
  refine q_value ?_ (fun w' h' => ?_) ?_
  rotate_left
  · go_simp; try with_reducible rfl
  go_simp
  refine hK _ ?_
  clear hK K
  refine q_run rfl (fun K hK => ?_)
  refine q_value ?_ (fun w' h' => ?_) ?_
  rotate_left
  · go_simp; try with_reducible rfl
  go_simp
  refine hK _ ?_
  clear hK K
  refine q_run rfl (fun K hK => ?_)
  refine q_value ?_ (fun w' h' => ?_) ?_
  rotate_left
  · go_simp; try with_reducible rfl
  go_simp
  refine hK _ ?_
  clear hK K
  refine q_run rfl (fun K hK => ?_)
  refine q_value ?_ (fun w' h' => ?_) ?_
  rotate_left
  · go_simp; try with_reducible rfl
  go_simp
  refine hK _ ?_
  clear hK K
  refine q_run rfl (fun K hK => ?_)
  refine q_value ?_ (fun w' h' => ?_) ?_
  rotate_left
  · go_simp; try with_reducible rfl
  go_simp
  refine hK _ ?_
  clear hK K
  refine q_run rfl (fun K hK => ?_)
  refine q_value ?_ (fun w' h' => ?_) ?_
  rotate_left
  · have c := cell_of_row w' b7 1 _ 35 _ (keep X7 h'); go_simp; try with_reducible rfl
  go_simp
  refine hK _ ?_
  clear hK K
  refine q_run rfl (fun K hK => ?_)
  refine q_value ?_ (fun w' h' => ?_) ?_
  rotate_left
  · go_simp; try with_reducible rfl
  go_simp
  refine hK _ ?_
  clear hK K
  refine q_run rfl (fun K hK => ?_)
  refine q_value (.agg #[.int .i64 ok, .int .i64 on, .int .i64 oa, .int .i64 ob]) (fun w' h' => hld w' (hal.trans (h'.mono hal.size)) _ _ (.tmp 28) rfl rfl) ?_
  go_simp
  refine hK _ ?_
  clear hK K
  refine q_run rfl (fun K hK => ?_)
  refine q_value ?_ (fun w' h' => ?_) ?_
  rotate_left
  · go_simp; try with_reducible rfl
  go_simp
  refine hK _ ?_
  clear hK K
  refine q_run rfl (fun K hK => ?_)
  refine q_value ?_ (fun w' h' => ?_) ?_
  rotate_left
  · have c := cell_of_row w' b7 2 _ 35 _ (keep X7 h'); go_simp; try with_reducible rfl
  go_simp
  refine hK _ ?_
  clear hK K
  refine q_run rfl (fun K hK => ?_)
  refine q_value ?_ (fun w' h' => ?_) ?_
  rotate_left
  · go_simp; try with_reducible rfl
  go_simp
  refine hK _ ?_
  clear hK K
  refine q_run rfl (fun K hK => ?_)
  refine q_value ?_ (fun w' h' => ?_) ?_
  rotate_left
  · go_simp; try with_reducible rfl
  go_simp
  refine hK _ ?_
  clear hK K
  refine q_run rfl (fun K hK => ?_)
  refine q_value ?_ (fun w' h' => ?_) ?_
  rotate_left
  · have c := cell_of_row w' b7 0 _ 35 _ (keep X7 h'); go_simp; try with_reducible rfl
  go_simp
  refine hK _ ?_
  clear hK K
  refine q_run rfl (fun K hK => ?_)
  refine q_enter 28 #[.agg #[.int .i64 ok, .int .i64 on, .int .i64 oa, .int .i64 ob], .int .i64 x2, .int .i64 t, .int .i64 x0] (.bool B) (fun w' => ?_) (fun w' h' => (hM w').mono fun e w'' h => ⟨h.1, h'.trans (h.2.mono h'.size)⟩) ?_
  · first | (go_simp; done) | (go_simp; rfl)
  go_simp
  refine hK _ ?_
  clear hK K
  refine q_run rfl (fun K hK => ?_)
  refine q_value ?_ (fun w' h' => ?_) ?_
  rotate_left
  · go_simp; try with_reducible rfl
  go_simp
  refine hK _ ?_
  clear hK K
  refine q_run rfl (fun K hK => ?_)
  refine q_value ?_ (fun w' h' => ?_) ?_
  rotate_left
  · go_simp; try with_reducible rfl
  go_simp
  refine hK _ ?_
  clear hK K
  refine qd_nil ?_
  intro w2 h2
  have hal0 := hal
  replace X7 := keep X7 h2
  replace X8 := keep X8 h2
  replace hV := hV.below h2
  replace hal := hal.trans (h2.mono hal.size)
  clear h2 hM hal0 hge1 hge2 hge3
  cases B
  · obtain rfl : p = ⟨0, false, 0⟩ := hp.out.trans (if_neg Bool.false_ne_true)
    clear hp
    go_upto_region 2 with (fail)
    refine wp_region_lit ?_
    refine wl_val rfl (.agg #[.int .u32 0, .slice none 0 0, .bool false]) ?_ ?_
    · go_simp
    intro K hK
    go_simp
    refine hK _ _ ?_
    clear hK K
    refine wl_store rfl 42 (.tmp 8) (.tmp 38) rfl b8 #[.int .u32 0, .slice none 0 0, .bool false] rfl rfl 42 _ X8 (by kernel_rfl) rfl (by simp [Value.oneCell']) (fun we m1 m2 m3 m4 => ?_)
    intro K hK
    go_simp
    refine hK _ _ ?_
    clear hK K
    go_wp2
    exact ret_ref rfl b8 _ _ _ _ _ rfl rfl m1 ⟨AnsR.no, hal.trans (m3 _ z8)⟩
  replace hp : Hid (p = refG t ⟨ok, on, oa, ob⟩ f m ⟨x0, i, x2, x3, x4, x5⟩) := by
    show p = _
    rw [hp.out, if_pos rfl]
  obtain ⟨u0, u1, hRP, hmay⟩ := mayS_t hB.out.symm
  have htab := may_tab hmay
  simp only at htab
  clear hB hmay
  have y1 := cell_of_row w2 b7 1 _ 35 _ X7
  go_upto_region 3 with (fail)
  refine wp_region_lit ?_
  iterate 4
    refine wl_val rfl ?_ ?_ ?_
    rotate_left
    · go_simp; try with_reducible rfl
    intro K hK
    go_simp
    refine hK _ _ ?_
    clear hK K
  refine wl_val rfl (.agg #[.int .i64 ok, .int .i64 on, .int .i64 oa, .int .i64 ob]) (hld w2 hal _ _ (.tmp 42) rfl rfl) ?_
  intro K hK
  go_simp
  refine hK _ _ ?_
  clear hK K
  refine wl_alloc rfl 48 rfl (.agg #[.int .i64 0, .int .i64 0, .int .i64 0, .int .i64 0]) #[.int .i64 0, .int .i64 0, .int .i64 0, .int .i64 0] (fun w => by kernel_rfl) rfl (fun w3 b9 X9 l3 f3 => ?_)
  intro K hK
  go_simp
  refine hK _ _ ?_
  clear hK K
  refine wl_store rfl 48 (.tmp 9) (.tmp 43) rfl b9 #[.int .i64 ok, .int .i64 on, .int .i64 oa, .int .i64 ob] rfl rfl 48 _ X9 (by kernel_rfl) rfl (by simp [Value.oneCell']) (fun w4 g1 g2 g3 g4 => ?_)
  intro K hK
  go_simp
  refine hK _ _ ?_
  clear hK K
  have hb4 : Below w2.heap.size w2 w4 := l3.trans (g3 _ (by simp only [Hid] at f3; omega))
  clear X9 l3 f3 g2 g3 g4 y1 hld
  have X9 := g1
  clear g1
  replace X7 := keep X7 hb4
  replace X8 := keep X8 hb4
  replace hV := hV.below hb4
  replace hal := hal.trans (hb4.mono hal.size)
  clear hb4
  have y0 := cell_of_row w4 b7 0 _ 35 _ X7
  have y1 := cell_of_row w4 b7 1 _ 35 _ X7
  have y2 := cell_of_row w4 b7 2 _ 35 _ X7
  have y3 := cell_of_row w4 b7 3 _ 35 _ X7
  have y4 := cell_of_row w4 b7 4 _ 35 _ X7
  have o0 := cell_of_row w4 b9 0 _ 48 _ X9
  have o1 := cell_of_row w4 b9 1 _ 48 _ X9
  have o2 := cell_of_row w4 b9 2 _ 48 _ X9
  have o3 := cell_of_row w4 b9 3 _ 48 _ X9
  by_cases k13 : ok = 13
  · subst k13
    replace hp : Hid (p = ⟨(barR ⟨13, on, oa, ob⟩ f m ⟨x0, i, x2, x3, x4, x5⟩).r, (barR ⟨13, on, oa, ob⟩ f m ⟨x0, i, x2, x3, x4, x5⟩).ok, 0⟩) := by
      show p = _
      rw [hp.out]; exact refG_13 rfl
    have hbar := barrierC ⟨13, on, oa, ob⟩ V m cc f hmm ⟨x0, i, x2, x3, x4, x5⟩ ⟨a0, a1⟩ w4 hV
    generalize barR ⟨13, on, oa, ob⟩ f m ⟨x0, i, x2, x3, x4, x5⟩ = qb at *
    obtain ⟨br, bok⟩ := qb
    obtain rfl := hp.out
    clear hp
    unfold ov akV akC at hbar
    simp only at hbar
    go_upto_region 5 with (fail)
    refine wp_region_lit ?_
    refine wl_load rfl 48 (.tmp 9) rfl _ rfl _ _ _ _ X9 Tryd.underlying48 rfl (by kernel_rfl) ?_
    intro K hK
    go_simp
    refine hK _ _ ?_
    clear hK K
    iterate 1
      refine wl_val rfl ?_ ?_ ?_
      rotate_left
      · go_simp; try with_reducible rfl
      intro K hK
      go_simp
      refine hK _ _ ?_
      clear hK K
    refine wl_load rfl 35 (.tmp 7) rfl _ rfl _ _ _ _ X7 Tryd.underlying35 rfl (by kernel_rfl) ?_
    intro K hK
    go_simp
    refine hK _ _ ?_
    clear hK K
    refine wl_call rfl 29 #[.agg #[.int .i64 13, .int .i64 on, .int .i64 oa, .int .i64 ob], .slice V m cc, .agg #[.int .i64 x0, .int .i64 i, .int .i64 x2, .int .i64 x3, .int .u32 x4, .int .u32 x5]] (refV br none 0 0 bok) _ ?_ hbar (fun wd hd => ?_)
    · first | (go_simp; done) | (go_simp; rfl)
    intro K hK
    go_simp
    refine hK _ _ ?_
    clear hK K
    unfold refV
    refine wl_store rfl 42 (.tmp 8) (.tmp 50) rfl b8 #[.int .u32 br, .slice none 0 0, .bool bok] rfl rfl 42 _ (keep X8 hd) (by kernel_rfl) rfl (by simp [Value.oneCell']) (fun we m1 m2 m3 m4 => ?_)
    intro K hK
    go_simp
    refine hK _ _ ?_
    clear hK K
    go_wp2
    exact ret_ref rfl b8 _ _ _ _ _ rfl rfl m1 ⟨AnsR.no, (hal.trans (hd.mono hal.size)).trans (m3 _ z8)⟩
  · have q13 : (ok == 13) = false := by simp [k13]
    by_cases p0 : x3 = 0
    · subst p0
      by_cases c4 : x2 = 4
      · subst c4
        obtain rfl : ok = 9 := by omega
        have hw4 : IntKind.i64.wrap x4 = x4 := by simp only [IntKind.wrap_i64]; omega
        by_cases g : 2 < x4
        · obtain rfl : p = ⟨0, false, 0⟩ := hp.out.trans (refG_4 k13 rfl ⟨rfl, .inl g⟩)
          clear hp
          go_upto_region 7 with (fail)
          refine wp_region_lit ?_
          refine wl_val rfl (.agg #[.int .u32 0, .slice none 0 0, .bool false]) ?_ ?_
          · go_simp
          intro K hK
          go_simp
          refine hK _ _ ?_
          clear hK K
          refine wl_store rfl 42 (.tmp 8) (.tmp 72) rfl b8 #[.int .u32 0, .slice none 0 0, .bool false] rfl rfl 42 _ X8 (by kernel_rfl) rfl (by simp [Value.oneCell']) (fun we m1 m2 m3 m4 => ?_)
          intro K hK
          go_simp
          refine hK _ _ ?_
          clear hK K
          go_wp2
          exact ret_ref rfl b8 _ _ _ _ _ rfl rfl m1 ⟨AnsR.no, hal.trans (m3 _ z8)⟩
        · by_cases g2 : on ≤ x4
          · obtain rfl : p = ⟨0, false, 0⟩ := hp.out.trans (refG_4 k13 rfl ⟨rfl, .inr g2⟩)
            clear hp
            go_upto_region 7 with (fail)
            refine wp_region_lit ?_
            refine wl_val rfl (.agg #[.int .u32 0, .slice none 0 0, .bool false]) ?_ ?_
            · go_simp
            intro K hK
            go_simp
            refine hK _ _ ?_
            clear hK K
            refine wl_store rfl 42 (.tmp 8) (.tmp 72) rfl b8 #[.int .u32 0, .slice none 0 0, .bool false] rfl rfl 42 _ X8 (by kernel_rfl) rfl (by simp [Value.oneCell']) (fun we m1 m2 m3 m4 => ?_)
            intro K hK
            go_simp
            refine hK _ _ ?_
            clear hK K
            go_wp2
            exact ret_ref rfl b8 _ _ _ _ _ rfl rfl m1 ⟨AnsR.no, hal.trans (m3 _ z8)⟩
          · go_wp2_with fail
            refine (ownerC V m cc f hmm i w4 hV).mono ?_
            rintro e w5 ⟨rfl, hbo⟩
            clear y0 y1 y2 y3 y4 o0 o1 o2 o3
            replace X9 := keep X9 hbo
            replace X7 := keep X7 hbo
            replace X8 := keep X8 hbo
            replace hV := hV.below hbo
            replace hal := hal.trans (hbo.mono hal.size)
            clear hbo
            obtain ⟨h, hh⟩ : ∃ z, Hid (z = ownN i f m) := ⟨_, rfl⟩
            rw [← hh.out]
            have y0 := cell_of_row w5 b7 0 _ 35 _ X7
            have y1 := cell_of_row w5 b7 1 _ 35 _ X7
            have y2 := cell_of_row w5 b7 2 _ 35 _ X7
            have y3 := cell_of_row w5 b7 3 _ 35 _ X7
            have y4 := cell_of_row w5 b7 4 _ 35 _ X7
            have o0 := cell_of_row w5 b9 0 _ 48 _ X9
            have o1 := cell_of_row w5 b9 1 _ 48 _ X9
            have o2 := cell_of_row w5 b9 2 _ 48 _ X9
            have o3 := cell_of_row w5 b9 3 _ 48 _ X9
            replace hp : Hid (p = lockR h x0 4) := by
              show p = _
              rw [hp.out, hh.out]; exact refG_L k13 rfl (fun h => h.2.elim (fun h => absurd h (Int.not_lt.2 g)) (fun h => absurd h (Int.not_le.2 g2))) (show (9 : Int) ≠ 12 by decide) (show (9 : Int) ≠ 11 by decide) (fun h => h.1.elim (fun h => absurd (show (9 : Int) = 6 from h) (by decide)) (fun h => absurd (show (9 : Int) = 7 from h) (by decide))) (fun h => absurd (show (4 : Int) = 3 from h.2) (by decide)) (show (9 : Int) ≠ 14 by decide) (show (9 : Int) ≠ 15 by decide)
            clear hh
            by_cases e : h = x0
            · have qe : (h == x0) = true := by simp [e]
              have qf : (h != x0) = false := by simp [e]
              obtain rfl : p = ⟨0, true, 0⟩ := by
                rw [hp.out]; unfold lockR; rw [if_neg (by omega), if_pos e]
              clear hp
              clear e
              go_upto_region 56 with (fail)
              refine wp_region_lit ?_
              refine wl_call rfl 31 #[.int .u32 0] (refV 0 none 0 0 true) _ ?_ (yesC 0 w5) (fun wd hd => ?_)
              · first | (go_simp; done) | (go_simp; rfl)
              intro K hK
              go_simp
              refine hK _ _ ?_
              clear hK K
              unfold refV
              refine wl_store rfl 42 (.tmp 8) (.tmp 248) rfl b8 #[.int .u32 0, .slice none 0 0, .bool true] rfl rfl 42 _ (keep X8 hd) (by kernel_rfl) rfl (by simp [Value.oneCell']) (fun we m1 m2 m3 m4 => ?_)
              intro K hK
              go_simp
              refine hK _ _ ?_
              clear hK K
              go_wp2
              exact ret_ref rfl b8 _ _ _ _ _ rfl rfl m1 ⟨AnsR.no, (hal.trans (hd.mono hal.size)).trans (m3 _ z8)⟩
            · have qe : (h == x0) = false := by simp [e]
              have qf : (h != x0) = true := by simp [e]
              obtain rfl : p = ⟨2, true, 0⟩ := by
                rw [hp.out]; unfold lockR; rw [if_neg (by omega), if_neg e]
              clear hp
              clear e
              go_upto_region 55 with (fail)
              refine wp_region_lit ?_
              refine wl_call rfl 31 #[.int .u32 2] (refV 2 none 0 0 true) _ ?_ (yesC 2 w5) (fun wd hd => ?_)
              · first | (go_simp; done) | (go_simp; rfl)
              intro K hK
              go_simp
              refine hK _ _ ?_
              clear hK K
              unfold refV
              refine wl_store rfl 42 (.tmp 8) (.tmp 247) rfl b8 #[.int .u32 2, .slice none 0 0, .bool true] rfl rfl 42 _ (keep X8 hd) (by kernel_rfl) rfl (by simp [Value.oneCell']) (fun we m1 m2 m3 m4 => ?_)
              intro K hK
              go_simp
              refine hK _ _ ?_
              clear hK K
              go_wp2
              exact ret_ref rfl b8 _ _ _ _ _ rfl rfl m1 ⟨AnsR.no, (hal.trans (hd.mono hal.size)).trans (m3 _ z8)⟩
      · have q4 : (x2 == 4) = false := by simp [c4]
        go_wp2_with fail
        refine (ownerC V m cc f hmm i w4 hV).mono ?_
        rintro e w5 ⟨rfl, hbo⟩
        clear y0 y1 y2 y3 y4 o0 o1 o2 o3
        replace X9 := keep X9 hbo
        replace X7 := keep X7 hbo
        replace X8 := keep X8 hbo
        replace hV := hV.below hbo
        replace hal := hal.trans (hbo.mono hal.size)
        clear hbo
        obtain ⟨h, hh⟩ : ∃ z, Hid (z = ownN i f m) := ⟨_, rfl⟩
        rw [← hh.out]
        have y0 := cell_of_row w5 b7 0 _ 35 _ X7
        have y1 := cell_of_row w5 b7 1 _ 35 _ X7
        have y2 := cell_of_row w5 b7 2 _ 35 _ X7
        have y3 := cell_of_row w5 b7 3 _ 35 _ X7
        have y4 := cell_of_row w5 b7 4 _ 35 _ X7
        have o0 := cell_of_row w5 b9 0 _ 48 _ X9
        have o1 := cell_of_row w5 b9 1 _ 48 _ X9
        have o2 := cell_of_row w5 b9 2 _ 48 _ X9
        have o3 := cell_of_row w5 b9 3 _ 48 _ X9
        by_cases k12 : ok = 12
        · subst k12
          obtain rfl : p = ⟨0, true, 0⟩ := hp.out.trans (refG_12 k13 rfl (fun h => c4 h.1) rfl)
          clear hp hh
          go_upto_region 10 with (fail)
          refine wp_region_lit ?_
          refine wl_call rfl 31 #[.int .u32 0] (refV 0 none 0 0 true) _ ?_ (yesC 0 w5) (fun wd hd => ?_)
          · first | (go_simp; done) | (go_simp; rfl)
          intro K hK
          go_simp
          refine hK _ _ ?_
          clear hK K
          unfold refV
          refine wl_store rfl 42 (.tmp 8) (.tmp 81) rfl b8 #[.int .u32 0, .slice none 0 0, .bool true] rfl rfl 42 _ (keep X8 hd) (by kernel_rfl) rfl (by simp [Value.oneCell']) (fun we m1 m2 m3 m4 => ?_)
          intro K hK
          go_simp
          refine hK _ _ ?_
          clear hK K
          go_wp2
          exact ret_ref rfl b8 _ _ _ _ _ rfl rfl m1 ⟨AnsR.no, (hal.trans (hd.mono hal.size)).trans (m3 _ z8)⟩
        · by_cases k11 : ok = 11
          · subst k11
            have hon : 0 ≤ on ∧ on ≤ 2147483647 := by unfold RP at hRP; simp only at hRP; omega
            obtain ⟨n0, n1⟩ := hon
            obtain ⟨v2a, v2b⟩ := man_nn i 2 0 (-1) f m
            obtain ⟨v1a, v1b⟩ := man_nn i 1 0 (-1) f m
            obtain ⟨v2, ha2⟩ : ∃ z, Hid (z = manN i 2 0 (-1) f m) := ⟨_, rfl⟩
            obtain ⟨v1, ha1⟩ : ∃ z, Hid (z = manN i 1 0 (-1) f m) := ⟨_, rfl⟩
            replace hp : Hid (p = semR on oa v2 v1 x2) := by
              show p = _
              rw [hp.out, ha2.out, ha1.out]; exact refG_11 k13 rfl (fun h => c4 h.1) rfl
            rw [← ha2.out] at v2a v2b
            rw [← ha1.out] at v1a v1b
            clear hh
            have hw2 : IntKind.i64.wrap (on + v2) = on + v2 := by simp only [IntKind.wrap_i64]; omega
            have hw1 : IntKind.i64.wrap (on + v2 - v1) = on + v2 - v1 := by simp only [IntKind.wrap_i64]; omega
            go_upto_region 12 with (fail)
            clear y0 y1 y2 y3 y4 o0 o1 o2 o3
            refine quiet_all (fun w' => Below w5.heap.size w5 w') (by kernel_rfl) (by kernel_rfl) (Below.drew (Below.refl _ _)) ?_
            refine q_run rfl (fun K hK => ?_)
            refine q_value ?_ (fun w' h' => ?_) ?_
            rotate_left
            · go_simp; try with_reducible rfl
            go_simp
            refine hK _ ?_
            clear hK K
            refine q_run rfl (fun K hK => ?_)
            refine q_value ?_ (fun w' h' => ?_) ?_
            rotate_left
            · have c := cell_of_row w' b9 1 _ 48 _ (keep X9 h'); go_simp; try with_reducible rfl
            go_simp
            refine hK _ ?_
            clear hK K
            refine q_run rfl (fun K hK => ?_)
            refine q_value ?_ (fun w' h' => ?_) ?_
            rotate_left
            · go_simp; try with_reducible rfl
            go_simp
            refine hK _ ?_
            clear hK K
            refine q_run rfl (fun K hK => ?_)
            refine q_value ?_ (fun w' h' => ?_) ?_
            rotate_left
            · go_simp; try with_reducible rfl
            go_simp
            refine hK _ ?_
            clear hK K
            refine q_run rfl (fun K hK => ?_)
            refine q_value ?_ (fun w' h' => ?_) ?_
            rotate_left
            · have c := cell_of_row w' b7 1 _ 35 _ (keep X7 h'); go_simp; try with_reducible rfl
            go_simp
            refine hK _ ?_
            clear hK K
            refine q_run rfl (fun K hK => ?_)
            refine q_enter 32 #[.slice V m cc, .int .i64 i, .int .i64 2, .int .i64 0, .int .i64 (-1)] (.int .i64 (manN i 2 0 (-1) f m)) (fun w' => ?_) (fun w' h' => (manyC V m cc f hmm i 2 0 (-1) w' (hV.below h')).mono fun e w'' h => ⟨h.1, h'.trans (h.2.mono h'.size)⟩) ?_
            · first | (go_simp; done) | (go_simp; rfl)
            rw [← ha2.out]
            go_simp
            refine hK _ ?_
            clear hK K
            refine q_run rfl (fun K hK => ?_)
            refine q_value ?_ (fun w' h' => ?_) ?_
            rotate_left
            · go_simp; try with_reducible rfl
            go_simp
            refine hK _ ?_
            clear hK K
            refine q_run rfl (fun K hK => ?_)
            refine q_value ?_ (fun w' h' => ?_) ?_
            rotate_left
            · go_simp; try with_reducible rfl
            go_simp
            refine hK _ ?_
            clear hK K
            refine q_run rfl (fun K hK => ?_)
            refine q_value ?_ (fun w' h' => ?_) ?_
            rotate_left
            · go_simp; try with_reducible rfl
            go_simp
            refine hK _ ?_
            clear hK K
            refine q_run rfl (fun K hK => ?_)
            refine q_value ?_ (fun w' h' => ?_) ?_
            rotate_left
            · have c := cell_of_row w' b7 1 _ 35 _ (keep X7 h'); go_simp; try with_reducible rfl
            go_simp
            refine hK _ ?_
            clear hK K
            refine q_run rfl (fun K hK => ?_)
            refine q_enter 32 #[.slice V m cc, .int .i64 i, .int .i64 1, .int .i64 0, .int .i64 (-1)] (.int .i64 (manN i 1 0 (-1) f m)) (fun w' => ?_) (fun w' h' => (manyC V m cc f hmm i 1 0 (-1) w' (hV.below h')).mono fun e w'' h => ⟨h.1, h'.trans (h.2.mono h'.size)⟩) ?_
            · first | (go_simp; done) | (go_simp; rfl)
            rw [← ha1.out]
            go_simp
            refine hK _ ?_
            clear hK K
            refine q_run rfl (fun K hK => ?_)
            refine q_value ?_ (fun w' h' => ?_) ?_
            rotate_left
            · go_simp; try with_reducible rfl
            go_simp
            refine hK _ ?_
            clear hK K
            refine q_run rfl (fun K hK => ?_)
            refine q_value ?_ (fun w' h' => ?_) ?_
            rotate_left
            · go_simp; try with_reducible rfl
            go_simp
            refine hK _ ?_
            clear hK K
            refine qd_nil ?_
            intro w6 h6
            replace X9 := keep X9 h6
            replace X7 := keep X7 h6
            replace X8 := keep X8 h6
            replace hV := hV.below h6
            replace hal := hal.trans (h6.mono hal.size)
            clear h6
            have y0 := cell_of_row w6 b7 0 _ 35 _ X7
            have y1 := cell_of_row w6 b7 1 _ 35 _ X7
            have y2 := cell_of_row w6 b7 2 _ 35 _ X7
            have y3 := cell_of_row w6 b7 3 _ 35 _ X7
            have y4 := cell_of_row w6 b7 4 _ 35 _ X7
            have o0 := cell_of_row w6 b9 0 _ 48 _ X9
            have o1 := cell_of_row w6 b9 1 _ 48 _ X9
            have o2 := cell_of_row w6 b9 2 _ 48 _ X9
            have o3 := cell_of_row w6 b9 3 _ 48 _ X9
            obtain ⟨nn, hnn⟩ : ∃ z, Hid (z = on + v2 - v1) := ⟨_, rfl⟩
            rw [← hnn.out]
            by_cases c2 : x2 = 2
            · subst c2
              by_cases e : nn = oa
              · have qe : (nn == oa) = true := by simp [e]
                obtain rfl : p = ⟨3, true, 0⟩ := by
                  rw [hp.out]; unfold semR; rw [if_pos rfl, if_pos (by rw [← hnn.out]; exact e)]
                clear hp
                clear e
                go_upto_region 14 with (fail)
                refine wp_region_lit ?_
                refine wl_call rfl 31 #[.int .u32 3] (refV 3 none 0 0 true) _ ?_ (yesC 3 w6) (fun wd hd => ?_)
                · first | (go_simp; done) | (go_simp; rfl)
                intro K hK
                go_simp
                refine hK _ _ ?_
                clear hK K
                unfold refV
                refine wl_store rfl 42 (.tmp 8) (.tmp 107) rfl b8 #[.int .u32 3, .slice none 0 0, .bool true] rfl rfl 42 _ (keep X8 hd) (by kernel_rfl) rfl (by simp [Value.oneCell']) (fun we m1 m2 m3 m4 => ?_)
                intro K hK
                go_simp
                refine hK _ _ ?_
                clear hK K
                go_wp2
                exact ret_ref rfl b8 _ _ _ _ _ rfl rfl m1 ⟨AnsR.no, (hal.trans (hd.mono hal.size)).trans (m3 _ z8)⟩
              · have qe : (nn == oa) = false := by simp [e]
                obtain rfl : p = ⟨0, true, 0⟩ := by
                  rw [hp.out]; unfold semR; rw [if_pos rfl, if_neg (by rw [← hnn.out]; exact e)]
                clear hp
                clear e
                go_upto_region 17 with (fail)
                refine wp_region_lit ?_
                refine wl_call rfl 31 #[.int .u32 0] (refV 0 none 0 0 true) _ ?_ (yesC 0 w6) (fun wd hd => ?_)
                · first | (go_simp; done) | (go_simp; rfl)
                intro K hK
                go_simp
                refine hK _ _ ?_
                clear hK K
                unfold refV
                refine wl_store rfl 42 (.tmp 8) (.tmp 116) rfl b8 #[.int .u32 0, .slice none 0 0, .bool true] rfl rfl 42 _ (keep X8 hd) (by kernel_rfl) rfl (by simp [Value.oneCell']) (fun we m1 m2 m3 m4 => ?_)
                intro K hK
                go_simp
                refine hK _ _ ?_
                clear hK K
                go_wp2
                exact ret_ref rfl b8 _ _ _ _ _ rfl rfl m1 ⟨AnsR.no, (hal.trans (hd.mono hal.size)).trans (m3 _ z8)⟩
            · obtain rfl : x2 = 1 := by omega
              by_cases e : nn = 0
              · subst e
                obtain rfl : p = ⟨0, false, 0⟩ := by
                  rw [hp.out]; unfold semR; rw [if_neg (by omega), if_pos (by rw [← hnn.out])]
                clear hp
                go_upto_region 16 with (fail)
                refine wp_region_lit ?_
                refine wl_val rfl (.agg #[.int .u32 0, .slice none 0 0, .bool false]) ?_ ?_
                · go_simp
                intro K hK
                go_simp
                refine hK _ _ ?_
                clear hK K
                refine wl_store rfl 42 (.tmp 8) (.tmp 115) rfl b8 #[.int .u32 0, .slice none 0 0, .bool false] rfl rfl 42 _ X8 (by kernel_rfl) rfl (by simp [Value.oneCell']) (fun we m1 m2 m3 m4 => ?_)
                intro K hK
                go_simp
                refine hK _ _ ?_
                clear hK K
                go_wp2
                exact ret_ref rfl b8 _ _ _ _ _ rfl rfl m1 ⟨AnsR.no, hal.trans (m3 _ z8)⟩
              · have qe : (nn == 0) = false := by simp [e]
                obtain rfl : p = ⟨0, true, 0⟩ := by
                  rw [hp.out]; unfold semR; rw [if_neg (by omega), if_neg (by rw [← hnn.out]; exact e)]
                clear hp
                clear e
                go_upto_region 17 with (fail)
                refine wp_region_lit ?_
                refine wl_call rfl 31 #[.int .u32 0] (refV 0 none 0 0 true) _ ?_ (yesC 0 w6) (fun wd hd => ?_)
                · first | (go_simp; done) | (go_simp; rfl)
                intro K hK
                go_simp
                refine hK _ _ ?_
                clear hK K
                unfold refV
                refine wl_store rfl 42 (.tmp 8) (.tmp 116) rfl b8 #[.int .u32 0, .slice none 0 0, .bool true] rfl rfl 42 _ (keep X8 hd) (by kernel_rfl) rfl (by simp [Value.oneCell']) (fun we m1 m2 m3 m4 => ?_)
                intro K hK
                go_simp
                refine hK _ _ ?_
                clear hK K
                go_wp2
                exact ret_ref rfl b8 _ _ _ _ _ rfl rfl m1 ⟨AnsR.no, (hal.trans (hd.mono hal.size)).trans (m3 _ z8)⟩
          · by_cases k6 : ok = 6
            · subst k6
              by_cases da : x0 = oa
              · have qa : (x0 != oa) = false := by simp [da]
                by_cases c1 : x2 = 1
                · subst c1
                  replace hp : Hid (p = lockR h x0 1) := by
                    show p = _
                    rw [hp.out, hh.out]; exact refG_L k13 rfl (fun h => c4 h.1) (show (6 : Int) ≠ 12 by decide) (show (6 : Int) ≠ 11 by decide) (fun h => h.2.1 da) (fun h => absurd (show (6 : Int) = 9 from h.1) (by decide)) (show (6 : Int) ≠ 14 by decide) (show (6 : Int) ≠ 15 by decide)
                  clear hh
                  by_cases e : h = x0
                  · have qe : (h == x0) = true := by simp [e]
                    have qf : (h != x0) = false := by simp [e]
                    obtain rfl : p = ⟨1, true, 0⟩ := by
                      rw [hp.out]; unfold lockR; rw [if_pos rfl, if_pos e]
                    clear hp
                    clear e
                    go_upto_region 50 with (fail)
                    refine wp_region_lit ?_
                    refine wl_call rfl 31 #[.int .u32 1] (refV 1 none 0 0 true) _ ?_ (yesC 1 w5) (fun wd hd => ?_)
                    · first | (go_simp; done) | (go_simp; rfl)
                    intro K hK
                    go_simp
                    refine hK _ _ ?_
                    clear hK K
                    unfold refV
                    refine wl_store rfl 42 (.tmp 8) (.tmp 238) rfl b8 #[.int .u32 1, .slice none 0 0, .bool true] rfl rfl 42 _ (keep X8 hd) (by kernel_rfl) rfl (by simp [Value.oneCell']) (fun we m1 m2 m3 m4 => ?_)
                    intro K hK
                    go_simp
                    refine hK _ _ ?_
                    clear hK K
                    go_wp2
                    exact ret_ref rfl b8 _ _ _ _ _ rfl rfl m1 ⟨AnsR.no, (hal.trans (hd.mono hal.size)).trans (m3 _ z8)⟩
                  · have qe : (h == x0) = false := by simp [e]
                    have qf : (h != x0) = true := by simp [e]
                    by_cases g : 0 ≤ h
                    · obtain rfl : p = ⟨0, false, 0⟩ := by
                        rw [hp.out]; unfold lockR; rw [if_pos rfl, if_neg e, if_pos g]
                      clear hp
                      clear e
                      go_upto_region 52 with (fail)
                      refine wp_region_lit ?_
                      refine wl_val rfl (.agg #[.int .u32 0, .slice none 0 0, .bool false]) ?_ ?_
                      · go_simp
                      intro K hK
                      go_simp
                      refine hK _ _ ?_
                      clear hK K
                      refine wl_store rfl 42 (.tmp 8) (.tmp 241) rfl b8 #[.int .u32 0, .slice none 0 0, .bool false] rfl rfl 42 _ X8 (by kernel_rfl) rfl (by simp [Value.oneCell']) (fun we m1 m2 m3 m4 => ?_)
                      intro K hK
                      go_simp
                      refine hK _ _ ?_
                      clear hK K
                      go_wp2
                      exact ret_ref rfl b8 _ _ _ _ _ rfl rfl m1 ⟨AnsR.no, hal.trans (m3 _ z8)⟩
                    · obtain rfl : p = ⟨0, true, 0⟩ := by
                        rw [hp.out]; unfold lockR; rw [if_pos rfl, if_neg e, if_neg g]
                      clear hp
                      clear e
                      go_upto_region 53 with (fail)
                      refine wp_region_lit ?_
                      refine wl_call rfl 31 #[.int .u32 0] (refV 0 none 0 0 true) _ ?_ (yesC 0 w5) (fun wd hd => ?_)
                      · first | (go_simp; done) | (go_simp; rfl)
                      intro K hK
                      go_simp
                      refine hK _ _ ?_
                      clear hK K
                      unfold refV
                      refine wl_store rfl 42 (.tmp 8) (.tmp 242) rfl b8 #[.int .u32 0, .slice none 0 0, .bool true] rfl rfl 42 _ (keep X8 hd) (by kernel_rfl) rfl (by simp [Value.oneCell']) (fun we m1 m2 m3 m4 => ?_)
                      intro K hK
                      go_simp
                      refine hK _ _ ?_
                      clear hK K
                      go_wp2
                      exact ret_ref rfl b8 _ _ _ _ _ rfl rfl m1 ⟨AnsR.no, (hal.trans (hd.mono hal.size)).trans (m3 _ z8)⟩
                · obtain rfl : x2 = 2 := by omega
                  replace hp : Hid (p = lockR h x0 2) := by
                    show p = _
                    rw [hp.out, hh.out]; exact refG_L k13 rfl (fun h => c4 h.1) (show (6 : Int) ≠ 12 by decide) (show (6 : Int) ≠ 11 by decide) (fun h => h.2.1 da) (fun h => absurd (show (6 : Int) = 9 from h.1) (by decide)) (show (6 : Int) ≠ 14 by decide) (show (6 : Int) ≠ 15 by decide)
                  clear hh
                  by_cases e : h = x0
                  · have qe : (h == x0) = true := by simp [e]
                    have qf : (h != x0) = false := by simp [e]
                    obtain rfl : p = ⟨0, true, 0⟩ := by
                      rw [hp.out]; unfold lockR; rw [if_neg (by omega), if_pos e]
                    clear hp
                    clear e
                    go_upto_region 56 with (fail)
                    refine wp_region_lit ?_
                    refine wl_call rfl 31 #[.int .u32 0] (refV 0 none 0 0 true) _ ?_ (yesC 0 w5) (fun wd hd => ?_)
                    · first | (go_simp; done) | (go_simp; rfl)
                    intro K hK
                    go_simp
                    refine hK _ _ ?_
                    clear hK K
                    unfold refV
                    refine wl_store rfl 42 (.tmp 8) (.tmp 248) rfl b8 #[.int .u32 0, .slice none 0 0, .bool true] rfl rfl 42 _ (keep X8 hd) (by kernel_rfl) rfl (by simp [Value.oneCell']) (fun we m1 m2 m3 m4 => ?_)
                    intro K hK
                    go_simp
                    refine hK _ _ ?_
                    clear hK K
                    go_wp2
                    exact ret_ref rfl b8 _ _ _ _ _ rfl rfl m1 ⟨AnsR.no, (hal.trans (hd.mono hal.size)).trans (m3 _ z8)⟩
                  · have qe : (h == x0) = false := by simp [e]
                    have qf : (h != x0) = true := by simp [e]
                    obtain rfl : p = ⟨2, true, 0⟩ := by
                      rw [hp.out]; unfold lockR; rw [if_neg (by omega), if_neg e]
                    clear hp
                    clear e
                    go_upto_region 55 with (fail)
                    refine wp_region_lit ?_
                    refine wl_call rfl 31 #[.int .u32 2] (refV 2 none 0 0 true) _ ?_ (yesC 2 w5) (fun wd hd => ?_)
                    · first | (go_simp; done) | (go_simp; rfl)
                    intro K hK
                    go_simp
                    refine hK _ _ ?_
                    clear hK K
                    unfold refV
                    refine wl_store rfl 42 (.tmp 8) (.tmp 247) rfl b8 #[.int .u32 2, .slice none 0 0, .bool true] rfl rfl 42 _ (keep X8 hd) (by kernel_rfl) rfl (by simp [Value.oneCell']) (fun we m1 m2 m3 m4 => ?_)
                    intro K hK
                    go_simp
                    refine hK _ _ ?_
                    clear hK K
                    go_wp2
                    exact ret_ref rfl b8 _ _ _ _ _ rfl rfl m1 ⟨AnsR.no, (hal.trans (hd.mono hal.size)).trans (m3 _ z8)⟩
              · by_cases db : x0 = ob
                · have qa : (x0 != oa) = true := by simp [da]
                  have qb : (x0 != ob) = false := by simp [db]
                  by_cases c1 : x2 = 1
                  · subst c1
                    replace hp : Hid (p = lockR h x0 1) := by
                      show p = _
                      rw [hp.out, hh.out]; exact refG_L k13 rfl (fun h => c4 h.1) (show (6 : Int) ≠ 12 by decide) (show (6 : Int) ≠ 11 by decide) (fun h => h.2.2 db) (fun h => absurd (show (6 : Int) = 9 from h.1) (by decide)) (show (6 : Int) ≠ 14 by decide) (show (6 : Int) ≠ 15 by decide)
                    clear hh
                    by_cases e : h = x0
                    · have qe : (h == x0) = true := by simp [e]
                      have qf : (h != x0) = false := by simp [e]
                      obtain rfl : p = ⟨1, true, 0⟩ := by
                        rw [hp.out]; unfold lockR; rw [if_pos rfl, if_pos e]
                      clear hp
                      clear e
                      go_upto_region 50 with (fail)
                      refine wp_region_lit ?_
                      refine wl_call rfl 31 #[.int .u32 1] (refV 1 none 0 0 true) _ ?_ (yesC 1 w5) (fun wd hd => ?_)
                      · first | (go_simp; done) | (go_simp; rfl)
                      intro K hK
                      go_simp
                      refine hK _ _ ?_
                      clear hK K
                      unfold refV
                      refine wl_store rfl 42 (.tmp 8) (.tmp 238) rfl b8 #[.int .u32 1, .slice none 0 0, .bool true] rfl rfl 42 _ (keep X8 hd) (by kernel_rfl) rfl (by simp [Value.oneCell']) (fun we m1 m2 m3 m4 => ?_)
                      intro K hK
                      go_simp
                      refine hK _ _ ?_
                      clear hK K
                      go_wp2
                      exact ret_ref rfl b8 _ _ _ _ _ rfl rfl m1 ⟨AnsR.no, (hal.trans (hd.mono hal.size)).trans (m3 _ z8)⟩
                    · have qe : (h == x0) = false := by simp [e]
                      have qf : (h != x0) = true := by simp [e]
                      by_cases g : 0 ≤ h
                      · obtain rfl : p = ⟨0, false, 0⟩ := by
                          rw [hp.out]; unfold lockR; rw [if_pos rfl, if_neg e, if_pos g]
                        clear hp
                        clear e
                        go_upto_region 52 with (fail)
                        refine wp_region_lit ?_
                        refine wl_val rfl (.agg #[.int .u32 0, .slice none 0 0, .bool false]) ?_ ?_
                        · go_simp
                        intro K hK
                        go_simp
                        refine hK _ _ ?_
                        clear hK K
                        refine wl_store rfl 42 (.tmp 8) (.tmp 241) rfl b8 #[.int .u32 0, .slice none 0 0, .bool false] rfl rfl 42 _ X8 (by kernel_rfl) rfl (by simp [Value.oneCell']) (fun we m1 m2 m3 m4 => ?_)
                        intro K hK
                        go_simp
                        refine hK _ _ ?_
                        clear hK K
                        go_wp2
                        exact ret_ref rfl b8 _ _ _ _ _ rfl rfl m1 ⟨AnsR.no, hal.trans (m3 _ z8)⟩
                      · obtain rfl : p = ⟨0, true, 0⟩ := by
                          rw [hp.out]; unfold lockR; rw [if_pos rfl, if_neg e, if_neg g]
                        clear hp
                        clear e
                        go_upto_region 53 with (fail)
                        refine wp_region_lit ?_
                        refine wl_call rfl 31 #[.int .u32 0] (refV 0 none 0 0 true) _ ?_ (yesC 0 w5) (fun wd hd => ?_)
                        · first | (go_simp; done) | (go_simp; rfl)
                        intro K hK
                        go_simp
                        refine hK _ _ ?_
                        clear hK K
                        unfold refV
                        refine wl_store rfl 42 (.tmp 8) (.tmp 242) rfl b8 #[.int .u32 0, .slice none 0 0, .bool true] rfl rfl 42 _ (keep X8 hd) (by kernel_rfl) rfl (by simp [Value.oneCell']) (fun we m1 m2 m3 m4 => ?_)
                        intro K hK
                        go_simp
                        refine hK _ _ ?_
                        clear hK K
                        go_wp2
                        exact ret_ref rfl b8 _ _ _ _ _ rfl rfl m1 ⟨AnsR.no, (hal.trans (hd.mono hal.size)).trans (m3 _ z8)⟩
                  · obtain rfl : x2 = 2 := by omega
                    replace hp : Hid (p = lockR h x0 2) := by
                      show p = _
                      rw [hp.out, hh.out]; exact refG_L k13 rfl (fun h => c4 h.1) (show (6 : Int) ≠ 12 by decide) (show (6 : Int) ≠ 11 by decide) (fun h => h.2.2 db) (fun h => absurd (show (6 : Int) = 9 from h.1) (by decide)) (show (6 : Int) ≠ 14 by decide) (show (6 : Int) ≠ 15 by decide)
                    clear hh
                    by_cases e : h = x0
                    · have qe : (h == x0) = true := by simp [e]
                      have qf : (h != x0) = false := by simp [e]
                      obtain rfl : p = ⟨0, true, 0⟩ := by
                        rw [hp.out]; unfold lockR; rw [if_neg (by omega), if_pos e]
                      clear hp
                      clear e
                      go_upto_region 56 with (fail)
                      refine wp_region_lit ?_
                      refine wl_call rfl 31 #[.int .u32 0] (refV 0 none 0 0 true) _ ?_ (yesC 0 w5) (fun wd hd => ?_)
                      · first | (go_simp; done) | (go_simp; rfl)
                      intro K hK
                      go_simp
                      refine hK _ _ ?_
                      clear hK K
                      unfold refV
                      refine wl_store rfl 42 (.tmp 8) (.tmp 248) rfl b8 #[.int .u32 0, .slice none 0 0, .bool true] rfl rfl 42 _ (keep X8 hd) (by kernel_rfl) rfl (by simp [Value.oneCell']) (fun we m1 m2 m3 m4 => ?_)
                      intro K hK
                      go_simp
                      refine hK _ _ ?_
                      clear hK K
                      go_wp2
                      exact ret_ref rfl b8 _ _ _ _ _ rfl rfl m1 ⟨AnsR.no, (hal.trans (hd.mono hal.size)).trans (m3 _ z8)⟩
                    · have qe : (h == x0) = false := by simp [e]
                      have qf : (h != x0) = true := by simp [e]
                      obtain rfl : p = ⟨2, true, 0⟩ := by
                        rw [hp.out]; unfold lockR; rw [if_neg (by omega), if_neg e]
                      clear hp
                      clear e
                      go_upto_region 55 with (fail)
                      refine wp_region_lit ?_
                      refine wl_call rfl 31 #[.int .u32 2] (refV 2 none 0 0 true) _ ?_ (yesC 2 w5) (fun wd hd => ?_)
                      · first | (go_simp; done) | (go_simp; rfl)
                      intro K hK
                      go_simp
                      refine hK _ _ ?_
                      clear hK K
                      unfold refV
                      refine wl_store rfl 42 (.tmp 8) (.tmp 247) rfl b8 #[.int .u32 2, .slice none 0 0, .bool true] rfl rfl 42 _ (keep X8 hd) (by kernel_rfl) rfl (by simp [Value.oneCell']) (fun we m1 m2 m3 m4 => ?_)
                      intro K hK
                      go_simp
                      refine hK _ _ ?_
                      clear hK K
                      go_wp2
                      exact ret_ref rfl b8 _ _ _ _ _ rfl rfl m1 ⟨AnsR.no, (hal.trans (hd.mono hal.size)).trans (m3 _ z8)⟩
                · have qa : (x0 != oa) = true := by simp [da]
                  have qb : (x0 != ob) = true := by simp [db]
                  obtain rfl : p = ⟨4, true, 0⟩ := hp.out.trans (refG_67 k13 rfl (fun h => c4 h.1) (.inl rfl) ⟨da, db⟩)
                  clear hp hh
                  go_upto_region 19 with (fail)
                  refine wp_region_lit ?_
                  refine wl_call rfl 31 #[.int .u32 4] (refV 4 none 0 0 true) _ ?_ (yesC 4 w5) (fun wd hd => ?_)
                  · first | (go_simp; done) | (go_simp; rfl)
                  intro K hK
                  go_simp
                  refine hK _ _ ?_
                  clear hK K
                  unfold refV
                  refine wl_store rfl 42 (.tmp 8) (.tmp 140) rfl b8 #[.int .u32 4, .slice none 0 0, .bool true] rfl rfl 42 _ (keep X8 hd) (by kernel_rfl) rfl (by simp [Value.oneCell']) (fun we m1 m2 m3 m4 => ?_)
                  intro K hK
                  go_simp
                  refine hK _ _ ?_
                  clear hK K
                  go_wp2
                  exact ret_ref rfl b8 _ _ _ _ _ rfl rfl m1 ⟨AnsR.no, (hal.trans (hd.mono hal.size)).trans (m3 _ z8)⟩
            · by_cases k7 : ok = 7
              · subst k7
                by_cases da : x0 = oa
                · have qa : (x0 != oa) = false := by simp [da]
                  by_cases c1 : x2 = 1
                  · subst c1
                    replace hp : Hid (p = lockR h x0 1) := by
                      show p = _
                      rw [hp.out, hh.out]; exact refG_L k13 rfl (fun h => c4 h.1) (show (7 : Int) ≠ 12 by decide) (show (7 : Int) ≠ 11 by decide) (fun h => h.2.1 da) (fun h => absurd (show (7 : Int) = 9 from h.1) (by decide)) (show (7 : Int) ≠ 14 by decide) (show (7 : Int) ≠ 15 by decide)
                    clear hh
                    by_cases e : h = x0
                    · have qe : (h == x0) = true := by simp [e]
                      have qf : (h != x0) = false := by simp [e]
                      obtain rfl : p = ⟨1, true, 0⟩ := by
                        rw [hp.out]; unfold lockR; rw [if_pos rfl, if_pos e]
                      clear hp
                      clear e
                      go_upto_region 50 with (fail)
                      refine wp_region_lit ?_
                      refine wl_call rfl 31 #[.int .u32 1] (refV 1 none 0 0 true) _ ?_ (yesC 1 w5) (fun wd hd => ?_)
                      · first | (go_simp; done) | (go_simp; rfl)
                      intro K hK
                      go_simp
                      refine hK _ _ ?_
                      clear hK K
                      unfold refV
                      refine wl_store rfl 42 (.tmp 8) (.tmp 238) rfl b8 #[.int .u32 1, .slice none 0 0, .bool true] rfl rfl 42 _ (keep X8 hd) (by kernel_rfl) rfl (by simp [Value.oneCell']) (fun we m1 m2 m3 m4 => ?_)
                      intro K hK
                      go_simp
                      refine hK _ _ ?_
                      clear hK K
                      go_wp2
                      exact ret_ref rfl b8 _ _ _ _ _ rfl rfl m1 ⟨AnsR.no, (hal.trans (hd.mono hal.size)).trans (m3 _ z8)⟩
                    · have qe : (h == x0) = false := by simp [e]
                      have qf : (h != x0) = true := by simp [e]
                      by_cases g : 0 ≤ h
                      · obtain rfl : p = ⟨0, false, 0⟩ := by
                          rw [hp.out]; unfold lockR; rw [if_pos rfl, if_neg e, if_pos g]
                        clear hp
                        clear e
                        go_upto_region 52 with (fail)
                        refine wp_region_lit ?_
                        refine wl_val rfl (.agg #[.int .u32 0, .slice none 0 0, .bool false]) ?_ ?_
                        · go_simp
                        intro K hK
                        go_simp
                        refine hK _ _ ?_
                        clear hK K
                        refine wl_store rfl 42 (.tmp 8) (.tmp 241) rfl b8 #[.int .u32 0, .slice none 0 0, .bool false] rfl rfl 42 _ X8 (by kernel_rfl) rfl (by simp [Value.oneCell']) (fun we m1 m2 m3 m4 => ?_)
                        intro K hK
                        go_simp
                        refine hK _ _ ?_
                        clear hK K
                        go_wp2
                        exact ret_ref rfl b8 _ _ _ _ _ rfl rfl m1 ⟨AnsR.no, hal.trans (m3 _ z8)⟩
                      · obtain rfl : p = ⟨0, true, 0⟩ := by
                          rw [hp.out]; unfold lockR; rw [if_pos rfl, if_neg e, if_neg g]
                        clear hp
                        clear e
                        go_upto_region 53 with (fail)
                        refine wp_region_lit ?_
                        refine wl_call rfl 31 #[.int .u32 0] (refV 0 none 0 0 true) _ ?_ (yesC 0 w5) (fun wd hd => ?_)
                        · first | (go_simp; done) | (go_simp; rfl)
                        intro K hK
                        go_simp
                        refine hK _ _ ?_
                        clear hK K
                        unfold refV
                        refine wl_store rfl 42 (.tmp 8) (.tmp 242) rfl b8 #[.int .u32 0, .slice none 0 0, .bool true] rfl rfl 42 _ (keep X8 hd) (by kernel_rfl) rfl (by simp [Value.oneCell']) (fun we m1 m2 m3 m4 => ?_)
                        intro K hK
                        go_simp
                        refine hK _ _ ?_
                        clear hK K
                        go_wp2
                        exact ret_ref rfl b8 _ _ _ _ _ rfl rfl m1 ⟨AnsR.no, (hal.trans (hd.mono hal.size)).trans (m3 _ z8)⟩
                  · obtain rfl : x2 = 2 := by omega
                    replace hp : Hid (p = lockR h x0 2) := by
                      show p = _
                      rw [hp.out, hh.out]; exact refG_L k13 rfl (fun h => c4 h.1) (show (7 : Int) ≠ 12 by decide) (show (7 : Int) ≠ 11 by decide) (fun h => h.2.1 da) (fun h => absurd (show (7 : Int) = 9 from h.1) (by decide)) (show (7 : Int) ≠ 14 by decide) (show (7 : Int) ≠ 15 by decide)
                    clear hh
                    by_cases e : h = x0
                    · have qe : (h == x0) = true := by simp [e]
                      have qf : (h != x0) = false := by simp [e]
                      obtain rfl : p = ⟨0, true, 0⟩ := by
                        rw [hp.out]; unfold lockR; rw [if_neg (by omega), if_pos e]
                      clear hp
                      clear e
                      go_upto_region 56 with (fail)
                      refine wp_region_lit ?_
                      refine wl_call rfl 31 #[.int .u32 0] (refV 0 none 0 0 true) _ ?_ (yesC 0 w5) (fun wd hd => ?_)
                      · first | (go_simp; done) | (go_simp; rfl)
                      intro K hK
                      go_simp
                      refine hK _ _ ?_
                      clear hK K
                      unfold refV
                      refine wl_store rfl 42 (.tmp 8) (.tmp 248) rfl b8 #[.int .u32 0, .slice none 0 0, .bool true] rfl rfl 42 _ (keep X8 hd) (by kernel_rfl) rfl (by simp [Value.oneCell']) (fun we m1 m2 m3 m4 => ?_)
                      intro K hK
                      go_simp
                      refine hK _ _ ?_
                      clear hK K
                      go_wp2
                      exact ret_ref rfl b8 _ _ _ _ _ rfl rfl m1 ⟨AnsR.no, (hal.trans (hd.mono hal.size)).trans (m3 _ z8)⟩
                    · have qe : (h == x0) = false := by simp [e]
                      have qf : (h != x0) = true := by simp [e]
                      obtain rfl : p = ⟨2, true, 0⟩ := by
                        rw [hp.out]; unfold lockR; rw [if_neg (by omega), if_neg e]
                      clear hp
                      clear e
                      go_upto_region 55 with (fail)
                      refine wp_region_lit ?_
                      refine wl_call rfl 31 #[.int .u32 2] (refV 2 none 0 0 true) _ ?_ (yesC 2 w5) (fun wd hd => ?_)
                      · first | (go_simp; done) | (go_simp; rfl)
                      intro K hK
                      go_simp
                      refine hK _ _ ?_
                      clear hK K
                      unfold refV
                      refine wl_store rfl 42 (.tmp 8) (.tmp 247) rfl b8 #[.int .u32 2, .slice none 0 0, .bool true] rfl rfl 42 _ (keep X8 hd) (by kernel_rfl) rfl (by simp [Value.oneCell']) (fun we m1 m2 m3 m4 => ?_)
                      intro K hK
                      go_simp
                      refine hK _ _ ?_
                      clear hK K
                      go_wp2
                      exact ret_ref rfl b8 _ _ _ _ _ rfl rfl m1 ⟨AnsR.no, (hal.trans (hd.mono hal.size)).trans (m3 _ z8)⟩
                · by_cases db : x0 = ob
                  · have qa : (x0 != oa) = true := by simp [da]
                    have qb : (x0 != ob) = false := by simp [db]
                    by_cases c1 : x2 = 1
                    · subst c1
                      replace hp : Hid (p = lockR h x0 1) := by
                        show p = _
                        rw [hp.out, hh.out]; exact refG_L k13 rfl (fun h => c4 h.1) (show (7 : Int) ≠ 12 by decide) (show (7 : Int) ≠ 11 by decide) (fun h => h.2.2 db) (fun h => absurd (show (7 : Int) = 9 from h.1) (by decide)) (show (7 : Int) ≠ 14 by decide) (show (7 : Int) ≠ 15 by decide)
                      clear hh
                      by_cases e : h = x0
                      · have qe : (h == x0) = true := by simp [e]
                        have qf : (h != x0) = false := by simp [e]
                        obtain rfl : p = ⟨1, true, 0⟩ := by
                          rw [hp.out]; unfold lockR; rw [if_pos rfl, if_pos e]
                        clear hp
                        clear e
                        go_upto_region 50 with (fail)
                        refine wp_region_lit ?_
                        refine wl_call rfl 31 #[.int .u32 1] (refV 1 none 0 0 true) _ ?_ (yesC 1 w5) (fun wd hd => ?_)
                        · first | (go_simp; done) | (go_simp; rfl)
                        intro K hK
                        go_simp
                        refine hK _ _ ?_
                        clear hK K
                        unfold refV
                        refine wl_store rfl 42 (.tmp 8) (.tmp 238) rfl b8 #[.int .u32 1, .slice none 0 0, .bool true] rfl rfl 42 _ (keep X8 hd) (by kernel_rfl) rfl (by simp [Value.oneCell']) (fun we m1 m2 m3 m4 => ?_)
                        intro K hK
                        go_simp
                        refine hK _ _ ?_
                        clear hK K
                        go_wp2
                        exact ret_ref rfl b8 _ _ _ _ _ rfl rfl m1 ⟨AnsR.no, (hal.trans (hd.mono hal.size)).trans (m3 _ z8)⟩
                      · have qe : (h == x0) = false := by simp [e]
                        have qf : (h != x0) = true := by simp [e]
                        by_cases g : 0 ≤ h
                        · obtain rfl : p = ⟨0, false, 0⟩ := by
                            rw [hp.out]; unfold lockR; rw [if_pos rfl, if_neg e, if_pos g]
                          clear hp
                          clear e
                          go_upto_region 52 with (fail)
                          refine wp_region_lit ?_
                          refine wl_val rfl (.agg #[.int .u32 0, .slice none 0 0, .bool false]) ?_ ?_
                          · go_simp
                          intro K hK
                          go_simp
                          refine hK _ _ ?_
                          clear hK K
                          refine wl_store rfl 42 (.tmp 8) (.tmp 241) rfl b8 #[.int .u32 0, .slice none 0 0, .bool false] rfl rfl 42 _ X8 (by kernel_rfl) rfl (by simp [Value.oneCell']) (fun we m1 m2 m3 m4 => ?_)
                          intro K hK
                          go_simp
                          refine hK _ _ ?_
                          clear hK K
                          go_wp2
                          exact ret_ref rfl b8 _ _ _ _ _ rfl rfl m1 ⟨AnsR.no, hal.trans (m3 _ z8)⟩
                        · obtain rfl : p = ⟨0, true, 0⟩ := by
                            rw [hp.out]; unfold lockR; rw [if_pos rfl, if_neg e, if_neg g]
                          clear hp
                          clear e
                          go_upto_region 53 with (fail)
                          refine wp_region_lit ?_
                          refine wl_call rfl 31 #[.int .u32 0] (refV 0 none 0 0 true) _ ?_ (yesC 0 w5) (fun wd hd => ?_)
                          · first | (go_simp; done) | (go_simp; rfl)
                          intro K hK
                          go_simp
                          refine hK _ _ ?_
                          clear hK K
                          unfold refV
                          refine wl_store rfl 42 (.tmp 8) (.tmp 242) rfl b8 #[.int .u32 0, .slice none 0 0, .bool true] rfl rfl 42 _ (keep X8 hd) (by kernel_rfl) rfl (by simp [Value.oneCell']) (fun we m1 m2 m3 m4 => ?_)
                          intro K hK
                          go_simp
                          refine hK _ _ ?_
                          clear hK K
                          go_wp2
                          exact ret_ref rfl b8 _ _ _ _ _ rfl rfl m1 ⟨AnsR.no, (hal.trans (hd.mono hal.size)).trans (m3 _ z8)⟩
                    · obtain rfl : x2 = 2 := by omega
                      replace hp : Hid (p = lockR h x0 2) := by
                        show p = _
                        rw [hp.out, hh.out]; exact refG_L k13 rfl (fun h => c4 h.1) (show (7 : Int) ≠ 12 by decide) (show (7 : Int) ≠ 11 by decide) (fun h => h.2.2 db) (fun h => absurd (show (7 : Int) = 9 from h.1) (by decide)) (show (7 : Int) ≠ 14 by decide) (show (7 : Int) ≠ 15 by decide)
                      clear hh
                      by_cases e : h = x0
                      · have qe : (h == x0) = true := by simp [e]
                        have qf : (h != x0) = false := by simp [e]
                        obtain rfl : p = ⟨0, true, 0⟩ := by
                          rw [hp.out]; unfold lockR; rw [if_neg (by omega), if_pos e]
                        clear hp
                        clear e
                        go_upto_region 56 with (fail)
                        refine wp_region_lit ?_
                        refine wl_call rfl 31 #[.int .u32 0] (refV 0 none 0 0 true) _ ?_ (yesC 0 w5) (fun wd hd => ?_)
                        · first | (go_simp; done) | (go_simp; rfl)
                        intro K hK
                        go_simp
                        refine hK _ _ ?_
                        clear hK K
                        unfold refV
                        refine wl_store rfl 42 (.tmp 8) (.tmp 248) rfl b8 #[.int .u32 0, .slice none 0 0, .bool true] rfl rfl 42 _ (keep X8 hd) (by kernel_rfl) rfl (by simp [Value.oneCell']) (fun we m1 m2 m3 m4 => ?_)
                        intro K hK
                        go_simp
                        refine hK _ _ ?_
                        clear hK K
                        go_wp2
                        exact ret_ref rfl b8 _ _ _ _ _ rfl rfl m1 ⟨AnsR.no, (hal.trans (hd.mono hal.size)).trans (m3 _ z8)⟩
                      · have qe : (h == x0) = false := by simp [e]
                        have qf : (h != x0) = true := by simp [e]
                        obtain rfl : p = ⟨2, true, 0⟩ := by
                          rw [hp.out]; unfold lockR; rw [if_neg (by omega), if_neg e]
                        clear hp
                        clear e
                        go_upto_region 55 with (fail)
                        refine wp_region_lit ?_
                        refine wl_call rfl 31 #[.int .u32 2] (refV 2 none 0 0 true) _ ?_ (yesC 2 w5) (fun wd hd => ?_)
                        · first | (go_simp; done) | (go_simp; rfl)
                        intro K hK
                        go_simp
                        refine hK _ _ ?_
                        clear hK K
                        unfold refV
                        refine wl_store rfl 42 (.tmp 8) (.tmp 247) rfl b8 #[.int .u32 2, .slice none 0 0, .bool true] rfl rfl 42 _ (keep X8 hd) (by kernel_rfl) rfl (by simp [Value.oneCell']) (fun we m1 m2 m3 m4 => ?_)
                        intro K hK
                        go_simp
                        refine hK _ _ ?_
                        clear hK K
                        go_wp2
                        exact ret_ref rfl b8 _ _ _ _ _ rfl rfl m1 ⟨AnsR.no, (hal.trans (hd.mono hal.size)).trans (m3 _ z8)⟩
                  · have qa : (x0 != oa) = true := by simp [da]
                    have qb : (x0 != ob) = true := by simp [db]
                    obtain rfl : p = ⟨4, true, 0⟩ := hp.out.trans (refG_67 k13 rfl (fun h => c4 h.1) (.inr rfl) ⟨da, db⟩)
                    clear hp hh
                    go_upto_region 19 with (fail)
                    refine wp_region_lit ?_
                    refine wl_call rfl 31 #[.int .u32 4] (refV 4 none 0 0 true) _ ?_ (yesC 4 w5) (fun wd hd => ?_)
                    · first | (go_simp; done) | (go_simp; rfl)
                    intro K hK
                    go_simp
                    refine hK _ _ ?_
                    clear hK K
                    unfold refV
                    refine wl_store rfl 42 (.tmp 8) (.tmp 140) rfl b8 #[.int .u32 4, .slice none 0 0, .bool true] rfl rfl 42 _ (keep X8 hd) (by kernel_rfl) rfl (by simp [Value.oneCell']) (fun we m1 m2 m3 m4 => ?_)
                    intro K hK
                    go_simp
                    refine hK _ _ ?_
                    clear hK K
                    go_wp2
                    exact ret_ref rfl b8 _ _ _ _ _ rfl rfl m1 ⟨AnsR.no, (hal.trans (hd.mono hal.size)).trans (m3 _ z8)⟩
              · by_cases k9 : ok = 9
                · subst k9
                  by_cases c3 : x2 = 3
                  · subst c3
                    obtain ⟨k, rfl⟩ : ∃ k : Nat, on = k := ⟨on.toNat, by unfold RP at hRP; simp only at hRP; omega⟩
                    have hk : k ≤ 3 := by unfold RP at hRP; simp only at hRP; omega
                    obtain rfl : p = ⟨0, true, k⟩ := hp.out.trans (refG_93 k13 rfl (fun h => c4 h.1) rfl rfl)
                    clear hp hh
                    have hdat := dataC V m cc f hmm i k hk hput w5 hV
                    go_upto_region 21 with (fail)
                    refine wp_region_lit ?_
                    iterate 5
                      refine wl_val rfl ?_ ?_ ?_
                      rotate_left
                      · go_simp; try with_reducible rfl
                      intro K hK
                      go_simp
                      refine hK _ _ ?_
                      clear hK K
                    refine wl_calls rfl 33 #[.slice V m cc, .int .i64 i, .int .i64 k] (fun v w' => ∃ V' c, v = .slice V' k c ∧ DatA w' V' k (datN i f m) ∧ (∀ b, V' = some ⟨b, 0, none⟩ → w5.heap.size ≤ b) ∧ Below w5.heap.size w5 w') ?_ (hdat.mono fun e w' hh => by
                      obtain ⟨⟨V', c, e1, e2, e3⟩, hh1⟩ := hh
                      exact ⟨_, e1, V', c, rfl, e2, e3, hh1⟩) (fun v wd hd => ?_)
                    · first | (go_simp; done) | (go_simp; rfl)
                    clear hdat
                    obtain ⟨V', c', rfl, hD, hV9, hd⟩ := hd
                    have h8l := blk_lt X8
                    intro K hK
                    go_simp
                    refine hK _ _ ?_
                    clear hK K
                    refine wl_val rfl (.agg #[.int .u32 0, .slice V' k c', .bool true]) ?_ ?_
                    · go_simp
                    intro K hK
                    go_simp
                    refine hK _ _ ?_
                    clear hK K
                    refine wl_store rfl 42 (.tmp 8) (.tmp 156) rfl b8 #[.int .u32 0, .slice V' k c', .bool true] rfl rfl 42 _ (keep X8 hd) (by kernel_rfl) rfl (by simp [Value.oneCell']) (fun we m1 m2 m3 m4 => ?_)
                    intro K hK
                    go_simp
                    refine hK _ _ ?_
                    clear hK K
                    go_wp2
                    exact ret_ref rfl b8 _ _ _ _ _ rfl rfl m1 ⟨⟨V', c', rfl, hD.keep (by simp only [Hid] at m4; omega) (fun b e => m2 b (by have := hV9 b e; omega))⟩, (hal.trans (hd.mono hal.size)).trans (m3 _ z8)⟩
                  · have q3 : (x2 == 3) = false := by simp [c3]
                    by_cases c1 : x2 = 1
                    · subst c1
                      replace hp : Hid (p = lockR h x0 1) := by
                        show p = _
                        rw [hp.out, hh.out]; exact refG_L k13 rfl (fun h => c4 h.1) (show (9 : Int) ≠ 12 by decide) (show (9 : Int) ≠ 11 by decide) (fun h => h.1.elim (fun h => absurd (show (9 : Int) = 6 from h) (by decide)) (fun h => absurd (show (9 : Int) = 7 from h) (by decide))) (fun h => c3 h.2) (show (9 : Int) ≠ 14 by decide) (show (9 : Int) ≠ 15 by decide)
                      clear hh
                      by_cases e : h = x0
                      · have qe : (h == x0) = true := by simp [e]
                        have qf : (h != x0) = false := by simp [e]
                        obtain rfl : p = ⟨1, true, 0⟩ := by
                          rw [hp.out]; unfold lockR; rw [if_pos rfl, if_pos e]
                        clear hp
                        clear e
                        go_upto_region 50 with (fail)
                        refine wp_region_lit ?_
                        refine wl_call rfl 31 #[.int .u32 1] (refV 1 none 0 0 true) _ ?_ (yesC 1 w5) (fun wd hd => ?_)
                        · first | (go_simp; done) | (go_simp; rfl)
                        intro K hK
                        go_simp
                        refine hK _ _ ?_
                        clear hK K
                        unfold refV
                        refine wl_store rfl 42 (.tmp 8) (.tmp 238) rfl b8 #[.int .u32 1, .slice none 0 0, .bool true] rfl rfl 42 _ (keep X8 hd) (by kernel_rfl) rfl (by simp [Value.oneCell']) (fun we m1 m2 m3 m4 => ?_)
                        intro K hK
                        go_simp
                        refine hK _ _ ?_
                        clear hK K
                        go_wp2
                        exact ret_ref rfl b8 _ _ _ _ _ rfl rfl m1 ⟨AnsR.no, (hal.trans (hd.mono hal.size)).trans (m3 _ z8)⟩
                      · have qe : (h == x0) = false := by simp [e]
                        have qf : (h != x0) = true := by simp [e]
                        by_cases g : 0 ≤ h
                        · obtain rfl : p = ⟨0, false, 0⟩ := by
                            rw [hp.out]; unfold lockR; rw [if_pos rfl, if_neg e, if_pos g]
                          clear hp
                          clear e
                          go_upto_region 52 with (fail)
                          refine wp_region_lit ?_
                          refine wl_val rfl (.agg #[.int .u32 0, .slice none 0 0, .bool false]) ?_ ?_
                          · go_simp
                          intro K hK
                          go_simp
                          refine hK _ _ ?_
                          clear hK K
                          refine wl_store rfl 42 (.tmp 8) (.tmp 241) rfl b8 #[.int .u32 0, .slice none 0 0, .bool false] rfl rfl 42 _ X8 (by kernel_rfl) rfl (by simp [Value.oneCell']) (fun we m1 m2 m3 m4 => ?_)
                          intro K hK
                          go_simp
                          refine hK _ _ ?_
                          clear hK K
                          go_wp2
                          exact ret_ref rfl b8 _ _ _ _ _ rfl rfl m1 ⟨AnsR.no, hal.trans (m3 _ z8)⟩
                        · obtain rfl : p = ⟨0, true, 0⟩ := by
                            rw [hp.out]; unfold lockR; rw [if_pos rfl, if_neg e, if_neg g]
                          clear hp
                          clear e
                          go_upto_region 53 with (fail)
                          refine wp_region_lit ?_
                          refine wl_call rfl 31 #[.int .u32 0] (refV 0 none 0 0 true) _ ?_ (yesC 0 w5) (fun wd hd => ?_)
                          · first | (go_simp; done) | (go_simp; rfl)
                          intro K hK
                          go_simp
                          refine hK _ _ ?_
                          clear hK K
                          unfold refV
                          refine wl_store rfl 42 (.tmp 8) (.tmp 242) rfl b8 #[.int .u32 0, .slice none 0 0, .bool true] rfl rfl 42 _ (keep X8 hd) (by kernel_rfl) rfl (by simp [Value.oneCell']) (fun we m1 m2 m3 m4 => ?_)
                          intro K hK
                          go_simp
                          refine hK _ _ ?_
                          clear hK K
                          go_wp2
                          exact ret_ref rfl b8 _ _ _ _ _ rfl rfl m1 ⟨AnsR.no, (hal.trans (hd.mono hal.size)).trans (m3 _ z8)⟩
                    · obtain rfl : x2 = 2 := by omega
                      replace hp : Hid (p = lockR h x0 2) := by
                        show p = _
                        rw [hp.out, hh.out]; exact refG_L k13 rfl (fun h => c4 h.1) (show (9 : Int) ≠ 12 by decide) (show (9 : Int) ≠ 11 by decide) (fun h => h.1.elim (fun h => absurd (show (9 : Int) = 6 from h) (by decide)) (fun h => absurd (show (9 : Int) = 7 from h) (by decide))) (fun h => c3 h.2) (show (9 : Int) ≠ 14 by decide) (show (9 : Int) ≠ 15 by decide)
                      clear hh
                      by_cases e : h = x0
                      · have qe : (h == x0) = true := by simp [e]
                        have qf : (h != x0) = false := by simp [e]
                        obtain rfl : p = ⟨0, true, 0⟩ := by
                          rw [hp.out]; unfold lockR; rw [if_neg (by omega), if_pos e]
                        clear hp
                        clear e
                        go_upto_region 56 with (fail)
                        refine wp_region_lit ?_
                        refine wl_call rfl 31 #[.int .u32 0] (refV 0 none 0 0 true) _ ?_ (yesC 0 w5) (fun wd hd => ?_)
                        · first | (go_simp; done) | (go_simp; rfl)
                        intro K hK
                        go_simp
                        refine hK _ _ ?_
                        clear hK K
                        unfold refV
                        refine wl_store rfl 42 (.tmp 8) (.tmp 248) rfl b8 #[.int .u32 0, .slice none 0 0, .bool true] rfl rfl 42 _ (keep X8 hd) (by kernel_rfl) rfl (by simp [Value.oneCell']) (fun we m1 m2 m3 m4 => ?_)
                        intro K hK
                        go_simp
                        refine hK _ _ ?_
                        clear hK K
                        go_wp2
                        exact ret_ref rfl b8 _ _ _ _ _ rfl rfl m1 ⟨AnsR.no, (hal.trans (hd.mono hal.size)).trans (m3 _ z8)⟩
                      · have qe : (h == x0) = false := by simp [e]
                        have qf : (h != x0) = true := by simp [e]
                        obtain rfl : p = ⟨2, true, 0⟩ := by
                          rw [hp.out]; unfold lockR; rw [if_neg (by omega), if_neg e]
                        clear hp
                        clear e
                        go_upto_region 55 with (fail)
                        refine wp_region_lit ?_
                        refine wl_call rfl 31 #[.int .u32 2] (refV 2 none 0 0 true) _ ?_ (yesC 2 w5) (fun wd hd => ?_)
                        · first | (go_simp; done) | (go_simp; rfl)
                        intro K hK
                        go_simp
                        refine hK _ _ ?_
                        clear hK K
                        unfold refV
                        refine wl_store rfl 42 (.tmp 8) (.tmp 247) rfl b8 #[.int .u32 2, .slice none 0 0, .bool true] rfl rfl 42 _ (keep X8 hd) (by kernel_rfl) rfl (by simp [Value.oneCell']) (fun we m1 m2 m3 m4 => ?_)
                        intro K hK
                        go_simp
                        refine hK _ _ ?_
                        clear hK K
                        go_wp2
                        exact ret_ref rfl b8 _ _ _ _ _ rfl rfl m1 ⟨AnsR.no, (hal.trans (hd.mono hal.size)).trans (m3 _ z8)⟩
                · by_cases k14 : ok = 14
                  · subst k14
                    have ht8 : t ≤ 8 := hRP.2.1
                    have hbt := fun q : Nat => busy_t (t := t) (ob := i) (c := x2) (f := f) (m := m) (q := q)
                    have hbf := busy_f (t := t) (ob := i) (c := x2) (f := f) (m := m)
                    obtain ⟨bz, hbz⟩ : ∃ z, Hid (z = busyR t i x2 f m) := ⟨_, rfl⟩
                    obtain ⟨rq, hrq⟩ : ∃ z, Hid (z = rdsN i x0 f m) := ⟨_, rfl⟩
                    replace hp : Hid (p = rwR h x0 x2 rq bz) := by
                      show p = _
                      rw [hp.out, hh.out, hbz.out, hrq.out]; exact refG_14 k13 rfl (fun h => c4 h.1) rfl
                    simp only [← hbz.out, ← hh.out] at hbt hbf
                    clear hbz hh
                    by_cases e : h = x0
                    · have qe : (h == x0) = true := by simp [e]
                      clear hbt hbf hrq
                      by_cases c2 : x2 = 2
                      · subst c2
                        obtain rfl : p = ⟨0, true, 0⟩ := by
                          rw [hp.out]; unfold rwR; rw [if_pos rfl, if_pos e]
                        clear hp
                        clear e
                        go_upto_region 26 with (fail)
                        refine wp_region_lit ?_
                        refine wl_call rfl 31 #[.int .u32 0] (refV 0 none 0 0 true) _ ?_ (yesC 0 w5) (fun wd hd => ?_)
                        · first | (go_simp; done) | (go_simp; rfl)
                        intro K hK
                        go_simp
                        refine hK _ _ ?_
                        clear hK K
                        unfold refV
                        refine wl_store rfl 42 (.tmp 8) (.tmp 177) rfl b8 #[.int .u32 0, .slice none 0 0, .bool true] rfl rfl 42 _ (keep X8 hd) (by kernel_rfl) rfl (by simp [Value.oneCell']) (fun we m1 m2 m3 m4 => ?_)
                        intro K hK
                        go_simp
                        refine hK _ _ ?_
                        clear hK K
                        go_wp2
                        exact ret_ref rfl b8 _ _ _ _ _ rfl rfl m1 ⟨AnsR.no, (hal.trans (hd.mono hal.size)).trans (m3 _ z8)⟩
                      · by_cases c1 : x2 = 1
                        · subst c1
                          obtain rfl : p = ⟨1, true, 0⟩ := by
                            rw [hp.out]; unfold rwR; rw [if_neg (by omega), if_pos e]
                          clear hp
                          clear e
                          go_upto_region 29 with (fail)
                          refine wp_region_lit ?_
                          refine wl_call rfl 31 #[.int .u32 1] (refV 1 none 0 0 true) _ ?_ (yesC 1 w5) (fun wd hd => ?_)
                          · first | (go_simp; done) | (go_simp; rfl)
                          intro K hK
                          go_simp
                          refine hK _ _ ?_
                          clear hK K
                          unfold refV
                          refine wl_store rfl 42 (.tmp 8) (.tmp 180) rfl b8 #[.int .u32 1, .slice none 0 0, .bool true] rfl rfl 42 _ (keep X8 hd) (by kernel_rfl) rfl (by simp [Value.oneCell']) (fun we m1 m2 m3 m4 => ?_)
                          intro K hK
                          go_simp
                          refine hK _ _ ?_
                          clear hK K
                          go_wp2
                          exact ret_ref rfl b8 _ _ _ _ _ rfl rfl m1 ⟨AnsR.no, (hal.trans (hd.mono hal.size)).trans (m3 _ z8)⟩
                        · obtain rfl : x2 = 3 := by omega
                          obtain rfl : p = ⟨1, true, 0⟩ := by
                            rw [hp.out]; unfold rwR; rw [if_neg (by omega), if_pos e]
                          clear hp
                          clear e
                          go_upto_region 29 with (fail)
                          refine wp_region_lit ?_
                          refine wl_call rfl 31 #[.int .u32 1] (refV 1 none 0 0 true) _ ?_ (yesC 1 w5) (fun wd hd => ?_)
                          · first | (go_simp; done) | (go_simp; rfl)
                          intro K hK
                          go_simp
                          refine hK _ _ ?_
                          clear hK K
                          unfold refV
                          refine wl_store rfl 42 (.tmp 8) (.tmp 180) rfl b8 #[.int .u32 1, .slice none 0 0, .bool true] rfl rfl 42 _ (keep X8 hd) (by kernel_rfl) rfl (by simp [Value.oneCell']) (fun we m1 m2 m3 m4 => ?_)
                          intro K hK
                          go_simp
                          refine hK _ _ ?_
                          clear hK K
                          go_wp2
                          exact ret_ref rfl b8 _ _ _ _ _ rfl rfl m1 ⟨AnsR.no, (hal.trans (hd.mono hal.size)).trans (m3 _ z8)⟩
                    · have qe : (h == x0) = false := by simp [e]
                      go_wp2_with fail
                      refine (readsC V m cc f hmm i x0 w5 hV).mono ?_
                      rintro e' w6 ⟨rfl, hbo⟩
                      rw [← hrq.out]
                      clear y0 y1 y2 y3 y4 o0 o1 o2 o3 hrq
                      replace X9 := keep X9 hbo
                      replace X7 := keep X7 hbo
                      replace X8 := keep X8 hbo
                      replace hV := hV.below hbo
                      replace hal := hal.trans (hbo.mono hal.size)
                      clear hbo
                      have y0 := cell_of_row w6 b7 0 _ 35 _ X7
                      have y1 := cell_of_row w6 b7 1 _ 35 _ X7
                      have y2 := cell_of_row w6 b7 2 _ 35 _ X7
                      have y3 := cell_of_row w6 b7 3 _ 35 _ X7
                      have y4 := cell_of_row w6 b7 4 _ 35 _ X7
                      have o0 := cell_of_row w6 b9 0 _ 48 _ X9
                      have o1 := cell_of_row w6 b9 1 _ 48 _ X9
                      have o2 := cell_of_row w6 b9 2 _ 48 _ X9
                      have o3 := cell_of_row w6 b9 3 _ 48 _ X9
                      cases rq
                      · by_cases c2 : x2 = 2
                        · subst c2
                          obtain rfl : p = ⟨2, true, 0⟩ := by
                            rw [hp.out]; unfold rwR; rw [if_pos rfl, if_neg e, if_neg Bool.false_ne_true]
                          clear hp
                          clear hbt hbf e
                          go_upto_region 27 with (fail)
                          refine wp_region_lit ?_
                          refine wl_call rfl 31 #[.int .u32 2] (refV 2 none 0 0 true) _ ?_ (yesC 2 w6) (fun wd hd => ?_)
                          · first | (go_simp; done) | (go_simp; rfl)
                          intro K hK
                          go_simp
                          refine hK _ _ ?_
                          clear hK K
                          unfold refV
                          refine wl_store rfl 42 (.tmp 8) (.tmp 178) rfl b8 #[.int .u32 2, .slice none 0 0, .bool true] rfl rfl 42 _ (keep X8 hd) (by kernel_rfl) rfl (by simp [Value.oneCell']) (fun we m1 m2 m3 m4 => ?_)
                          intro K hK
                          go_simp
                          refine hK _ _ ?_
                          clear hK K
                          go_wp2
                          exact ret_ref rfl b8 _ _ _ _ _ rfl rfl m1 ⟨AnsR.no, (hal.trans (hd.mono hal.size)).trans (m3 _ z8)⟩
                        · by_cases c1 : x2 = 1
                          · subst c1
                            go_upto_region 31 with (fail)
                            clear y0 y1 y2 y3 y4 o0 o1 o2 o3
                            go_loopw [13] (fun u wr => ∃ (j : Nat), u = .int .i64 j ∧ (j : Int) ≤ t ∧ (∀ q : Nat, q < j → h ≠ q ∧ rdsN i q f m = false) ∧ wr.heap[b7]? = some (.cells #[.int .i64 x0, .int .i64 i, .int .i64 1, .int .i64 0, .int .u32 x4, .int .u32 x5] 35 (0, 0)) ∧ wr.heap[b8]? = some (.cells #[.int .u32 0, .slice none 0 0, .bool false] 42 (0, 0)) ∧ Steps wr V m f ∧ Below w.heap.size w wr) (fun u _ => t.toNat - (intOf u).toNat)
                            case atStart => exact ⟨0, rfl, by omega, fun q hq => absurd hq (by omega), X7, X8, hV, hal⟩
                            case round =>
                              clear X7 X8 X9 hV hal
                              obtain ⟨j, rfl, hj, hall, X7, X8, hV, hal⟩ := hrel
                              by_cases hlt : (j : Int) < t
                              case neg =>
                                obtain rfl : bz = false := hbf (fun q hq => ⟨(hall q (by omega)).1, fun _ => (hall q (by omega)).2⟩)
                                obtain rfl : p = ⟨0, true, 0⟩ := by
                                  rw [hp.out]; unfold rwR; rw [if_neg (by omega), if_neg e, if_neg Bool.false_ne_true, if_neg Bool.false_ne_true]
                                clear hp hbt hbf hall
                                have hlt' : ¬ (j : Int) < t := hlt
                                go_upto_region 35 with (fail)
                                refine wp_region_lit ?_
                                refine wl_call rfl 31 #[.int .u32 0] (refV 0 none 0 0 true) _ ?_ (yesC 0 wr) (fun wd hd => ?_)
                                · first | (go_simp; done) | (go_simp; rfl)
                                intro K hK
                                go_simp
                                refine hK _ _ ?_
                                clear hK K
                                unfold refV
                                refine wl_store rfl 42 (.tmp 8) (.tmp 202) rfl b8 #[.int .u32 0, .slice none 0 0, .bool true] rfl rfl 42 _ (keep X8 hd) (by kernel_rfl) rfl (by simp [Value.oneCell']) (fun we m1 m2 m3 m4 => ?_)
                                intro K hK
                                go_simp
                                refine hK _ _ ?_
                                clear hK K
                                go_wp2
                                exact ret_ref rfl b8 _ _ _ _ _ rfl rfl m1 ⟨AnsR.no, (hal.trans (hd.mono hal.size)).trans (m3 _ z8)⟩
                              have hl0' : (0 : Int) ≤ j := by omega
                              have y1 := cell_of_row wr b7 1 _ 35 _ X7
                              have y2 := cell_of_row wr b7 2 _ 35 _ X7
                              by_cases hj' : h = j
                              · obtain rfl : bz = true := hbt j hlt (.inl hj')
                                have qj : (h == j) = true := by simp [hj']
                                obtain rfl : p = ⟨0, false, 0⟩ := by
                                  rw [hp.out]; unfold rwR; rw [if_neg (by omega), if_neg e, if_neg Bool.false_ne_true, if_pos rfl]
                                clear hp hbt hbf hall e hj'
                                go_upto_region 34 with (fail)
                                refine wp_region_lit ?_
                                refine wl_val rfl (.agg #[.int .u32 0, .slice none 0 0, .bool false]) ?_ ?_
                                · go_simp
                                intro K hK
                                go_simp
                                refine hK _ _ ?_
                                clear hK K
                                refine wl_store rfl 42 (.tmp 8) (.tmp 201) rfl b8 #[.int .u32 0, .slice none 0 0, .bool false] rfl rfl 42 _ X8 (by kernel_rfl) rfl (by simp [Value.oneCell']) (fun we m1 m2 m3 m4 => ?_)
                                intro K hK
                                go_simp
                                refine hK _ _ ?_
                                clear hK K
                                go_wp2
                                exact ret_ref rfl b8 _ _ _ _ _ rfl rfl m1 ⟨AnsR.no, hal.trans (m3 _ z8)⟩
                              have qj : (h == j) = false := by simp [hj']
                              go_wp2_with fail
                              refine (readsC V m cc f hmm i j wr hV).mono ?_
                              rintro e' w7 ⟨rfl, hbo⟩
                              clear y1 y2
                              replace X7 := keep X7 hbo
                              replace X8 := keep X8 hbo
                              replace hV := hV.below hbo
                              replace hal := hal.trans (hbo.mono hal.size)
                              clear hbo
                              obtain ⟨rj, hrj⟩ : ∃ z, Hid (z = rdsN i j f m) := ⟨_, rfl⟩
                              rw [← hrj.out]
                              cases rj
                              · have hall' : ∀ q : Nat, q < j + 1 → h ≠ q ∧ rdsN i q f m = false := fun q hq => by
                                  rcases Nat.lt_succ_iff_lt_or_eq.1 hq with h | rfl
                                  · exact hall q h
                                  · exact ⟨hj', hrj.out.symm⟩
                                clear hall hj'
                                go_wp2
                                go_roundw
                                case rel => exact ⟨j + 1, by go_num, by omega, show (∀ q : Nat, q < j + 1 → h ≠ q ∧ rdsN i q f m = false) from hall', X7, X8, hV, hal⟩
                                case measure => simp [intOf]; omega
                              · obtain rfl : bz = true := hbt j hlt (.inr ⟨by first | rfl | trivial, hrj.out.symm⟩)
                                obtain rfl : p = ⟨0, false, 0⟩ := by
                                  rw [hp.out]; unfold rwR; rw [if_neg (by omega), if_neg e, if_neg Bool.false_ne_true, if_pos rfl]
                                clear hp hbt hbf hall e hj' hrj
                                go_upto_region 34 with (fail)
                                refine wp_region_lit ?_
                                refine wl_val rfl (.agg #[.int .u32 0, .slice none 0 0, .bool false]) ?_ ?_
                                · go_simp
                                intro K hK
                                go_simp
                                refine hK _ _ ?_
                                clear hK K
                                refine wl_store rfl 42 (.tmp 8) (.tmp 201) rfl b8 #[.int .u32 0, .slice none 0 0, .bool false] rfl rfl 42 _ X8 (by kernel_rfl) rfl (by simp [Value.oneCell']) (fun we m1 m2 m3 m4 => ?_)
                                intro K hK
                                go_simp
                                refine hK _ _ ?_
                                clear hK K
                                go_wp2
                                exact ret_ref rfl b8 _ _ _ _ _ rfl rfl m1 ⟨AnsR.no, hal.trans (m3 _ z8)⟩
                          · obtain rfl : x2 = 3 := by omega
                            go_upto_region 31 with (fail)
                            clear y0 y1 y2 y3 y4 o0 o1 o2 o3
                            go_loopw [13] (fun u wr => ∃ (j : Nat), u = .int .i64 j ∧ (j : Int) ≤ t ∧ (∀ q : Nat, q < j → h ≠ q) ∧ wr.heap[b7]? = some (.cells #[.int .i64 x0, .int .i64 i, .int .i64 3, .int .i64 0, .int .u32 x4, .int .u32 x5] 35 (0, 0)) ∧ wr.heap[b8]? = some (.cells #[.int .u32 0, .slice none 0 0, .bool false] 42 (0, 0)) ∧ Steps wr V m f ∧ Below w.heap.size w wr) (fun u _ => t.toNat - (intOf u).toNat)
                            case atStart => exact ⟨0, rfl, by omega, fun q hq => absurd hq (by omega), X7, X8, hV, hal⟩
                            case round =>
                              clear X7 X8 X9 hV hal
                              obtain ⟨j, rfl, hj, hall, X7, X8, hV, hal⟩ := hrel
                              by_cases hlt : (j : Int) < t
                              case neg =>
                                obtain rfl : bz = false := hbf (fun q hq => ⟨hall q (by omega), fun h => by omega⟩)
                                obtain rfl : p = ⟨0, true, 0⟩ := by
                                  rw [hp.out]; unfold rwR; rw [if_neg (by omega), if_neg e, if_neg Bool.false_ne_true, if_neg Bool.false_ne_true]
                                clear hp hbt hbf hall
                                have hlt' : ¬ (j : Int) < t := hlt
                                go_upto_region 35 with (fail)
                                refine wp_region_lit ?_
                                refine wl_call rfl 31 #[.int .u32 0] (refV 0 none 0 0 true) _ ?_ (yesC 0 wr) (fun wd hd => ?_)
                                · first | (go_simp; done) | (go_simp; rfl)
                                intro K hK
                                go_simp
                                refine hK _ _ ?_
                                clear hK K
                                unfold refV
                                refine wl_store rfl 42 (.tmp 8) (.tmp 202) rfl b8 #[.int .u32 0, .slice none 0 0, .bool true] rfl rfl 42 _ (keep X8 hd) (by kernel_rfl) rfl (by simp [Value.oneCell']) (fun we m1 m2 m3 m4 => ?_)
                                intro K hK
                                go_simp
                                refine hK _ _ ?_
                                clear hK K
                                go_wp2
                                exact ret_ref rfl b8 _ _ _ _ _ rfl rfl m1 ⟨AnsR.no, (hal.trans (hd.mono hal.size)).trans (m3 _ z8)⟩
                              have hl0' : (0 : Int) ≤ j := by omega
                              have y1 := cell_of_row wr b7 1 _ 35 _ X7
                              have y2 := cell_of_row wr b7 2 _ 35 _ X7
                              by_cases hj' : h = j
                              · obtain rfl : bz = true := hbt j hlt (.inl hj')
                                have qj : (h == j) = true := by simp [hj']
                                obtain rfl : p = ⟨0, false, 0⟩ := by
                                  rw [hp.out]; unfold rwR; rw [if_neg (by omega), if_neg e, if_neg Bool.false_ne_true, if_pos rfl]
                                clear hp hbt hbf hall e hj'
                                go_upto_region 34 with (fail)
                                refine wp_region_lit ?_
                                refine wl_val rfl (.agg #[.int .u32 0, .slice none 0 0, .bool false]) ?_ ?_
                                · go_simp
                                intro K hK
                                go_simp
                                refine hK _ _ ?_
                                clear hK K
                                refine wl_store rfl 42 (.tmp 8) (.tmp 201) rfl b8 #[.int .u32 0, .slice none 0 0, .bool false] rfl rfl 42 _ X8 (by kernel_rfl) rfl (by simp [Value.oneCell']) (fun we m1 m2 m3 m4 => ?_)
                                intro K hK
                                go_simp
                                refine hK _ _ ?_
                                clear hK K
                                go_wp2
                                exact ret_ref rfl b8 _ _ _ _ _ rfl rfl m1 ⟨AnsR.no, hal.trans (m3 _ z8)⟩
                              have qj : (h == j) = false := by simp [hj']
                              have hall' : ∀ q : Nat, q < j + 1 → h ≠ q := fun q hq => by
                                rcases Nat.lt_succ_iff_lt_or_eq.1 hq with h | rfl
                                · exact hall q h
                                · exact hj'
                              clear hall hj'
                              go_wp2
                              go_roundw
                              case rel => exact ⟨j + 1, by go_num, by omega, show (∀ q : Nat, q < j + 1 → h ≠ q) from hall', X7, X8, hV, hal⟩
                              case measure => simp [intOf]; omega
                      · clear hbt hbf
                        by_cases c2 : x2 = 2
                        · subst c2
                          obtain rfl : p = ⟨0, true, 0⟩ := by
                            rw [hp.out]; unfold rwR; rw [if_pos rfl, if_neg e, if_pos rfl]
                          clear hp
                          clear e
                          go_upto_region 26 with (fail)
                          refine wp_region_lit ?_
                          refine wl_call rfl 31 #[.int .u32 0] (refV 0 none 0 0 true) _ ?_ (yesC 0 w6) (fun wd hd => ?_)
                          · first | (go_simp; done) | (go_simp; rfl)
                          intro K hK
                          go_simp
                          refine hK _ _ ?_
                          clear hK K
                          unfold refV
                          refine wl_store rfl 42 (.tmp 8) (.tmp 177) rfl b8 #[.int .u32 0, .slice none 0 0, .bool true] rfl rfl 42 _ (keep X8 hd) (by kernel_rfl) rfl (by simp [Value.oneCell']) (fun we m1 m2 m3 m4 => ?_)
                          intro K hK
                          go_simp
                          refine hK _ _ ?_
                          clear hK K
                          go_wp2
                          exact ret_ref rfl b8 _ _ _ _ _ rfl rfl m1 ⟨AnsR.no, (hal.trans (hd.mono hal.size)).trans (m3 _ z8)⟩
                        · by_cases c1 : x2 = 1
                          · subst c1
                            obtain rfl : p = ⟨1, true, 0⟩ := by
                              rw [hp.out]; unfold rwR; rw [if_neg (by omega), if_neg e, if_pos rfl]
                            clear hp
                            clear e
                            go_upto_region 29 with (fail)
                            refine wp_region_lit ?_
                            refine wl_call rfl 31 #[.int .u32 1] (refV 1 none 0 0 true) _ ?_ (yesC 1 w6) (fun wd hd => ?_)
                            · first | (go_simp; done) | (go_simp; rfl)
                            intro K hK
                            go_simp
                            refine hK _ _ ?_
                            clear hK K
                            unfold refV
                            refine wl_store rfl 42 (.tmp 8) (.tmp 180) rfl b8 #[.int .u32 1, .slice none 0 0, .bool true] rfl rfl 42 _ (keep X8 hd) (by kernel_rfl) rfl (by simp [Value.oneCell']) (fun we m1 m2 m3 m4 => ?_)
                            intro K hK
                            go_simp
                            refine hK _ _ ?_
                            clear hK K
                            go_wp2
                            exact ret_ref rfl b8 _ _ _ _ _ rfl rfl m1 ⟨AnsR.no, (hal.trans (hd.mono hal.size)).trans (m3 _ z8)⟩
                          · obtain rfl : x2 = 3 := by omega
                            obtain rfl : p = ⟨1, true, 0⟩ := by
                              rw [hp.out]; unfold rwR; rw [if_neg (by omega), if_neg e, if_pos rfl]
                            clear hp
                            clear e
                            go_upto_region 29 with (fail)
                            refine wp_region_lit ?_
                            refine wl_call rfl 31 #[.int .u32 1] (refV 1 none 0 0 true) _ ?_ (yesC 1 w6) (fun wd hd => ?_)
                            · first | (go_simp; done) | (go_simp; rfl)
                            intro K hK
                            go_simp
                            refine hK _ _ ?_
                            clear hK K
                            unfold refV
                            refine wl_store rfl 42 (.tmp 8) (.tmp 180) rfl b8 #[.int .u32 1, .slice none 0 0, .bool true] rfl rfl 42 _ (keep X8 hd) (by kernel_rfl) rfl (by simp [Value.oneCell']) (fun we m1 m2 m3 m4 => ?_)
                            intro K hK
                            go_simp
                            refine hK _ _ ?_
                            clear hK K
                            go_wp2
                            exact ret_ref rfl b8 _ _ _ _ _ rfl rfl m1 ⟨AnsR.no, (hal.trans (hd.mono hal.size)).trans (m3 _ z8)⟩
                  · by_cases k15 : ok = 15
                    · subst k15
                      obtain ⟨av, hav⟩ : ∃ z, Hid (z = manN i 10 0 (-1) f m) := ⟨_, rfl⟩
                      replace hp : Hid (p = onceR h x0 x2 av) := by
                        show p = _
                        rw [hp.out, hh.out, hav.out]; exact refG_15 k13 rfl (fun h => c4 h.1) rfl
                      clear hh
                      by_cases c10 : x2 = 10
                      · subst c10
                        by_cases e : h = x0
                        · have qe : (h == x0) = true := by simp [e]
                          obtain rfl : p = ⟨0, true, 0⟩ := by
                            rw [hp.out]; unfold onceR; rw [if_pos rfl, if_pos e]
                          clear hp
                          clear e
                          go_upto_region 39 with (fail)
                          refine wp_region_lit ?_
                          refine wl_call rfl 31 #[.int .u32 0] (refV 0 none 0 0 true) _ ?_ (yesC 0 w5) (fun wd hd => ?_)
                          · first | (go_simp; done) | (go_simp; rfl)
                          intro K hK
                          go_simp
                          refine hK _ _ ?_
                          clear hK K
                          unfold refV
                          refine wl_store rfl 42 (.tmp 8) (.tmp 214) rfl b8 #[.int .u32 0, .slice none 0 0, .bool true] rfl rfl 42 _ (keep X8 hd) (by kernel_rfl) rfl (by simp [Value.oneCell']) (fun we m1 m2 m3 m4 => ?_)
                          intro K hK
                          go_simp
                          refine hK _ _ ?_
                          clear hK K
                          go_wp2
                          exact ret_ref rfl b8 _ _ _ _ _ rfl rfl m1 ⟨AnsR.no, (hal.trans (hd.mono hal.size)).trans (m3 _ z8)⟩
                        · have qe : (h == x0) = false := by simp [e]
                          obtain rfl : p = ⟨2, true, 0⟩ := by
                            rw [hp.out]; unfold onceR; rw [if_pos rfl, if_neg e]
                          clear hp
                          clear e
                          go_upto_region 40 with (fail)
                          refine wp_region_lit ?_
                          refine wl_call rfl 31 #[.int .u32 2] (refV 2 none 0 0 true) _ ?_ (yesC 2 w5) (fun wd hd => ?_)
                          · first | (go_simp; done) | (go_simp; rfl)
                          intro K hK
                          go_simp
                          refine hK _ _ ?_
                          clear hK K
                          unfold refV
                          refine wl_store rfl 42 (.tmp 8) (.tmp 215) rfl b8 #[.int .u32 2, .slice none 0 0, .bool true] rfl rfl 42 _ (keep X8 hd) (by kernel_rfl) rfl (by simp [Value.oneCell']) (fun we m1 m2 m3 m4 => ?_)
                          intro K hK
                          go_simp
                          refine hK _ _ ?_
                          clear hK K
                          go_wp2
                          exact ret_ref rfl b8 _ _ _ _ _ rfl rfl m1 ⟨AnsR.no, (hal.trans (hd.mono hal.size)).trans (m3 _ z8)⟩
                      · obtain rfl : x2 = 9 := by omega
                        by_cases e : h = x0
                        · have qe : (h == x0) = true := by simp [e]
                          obtain rfl : p = ⟨1, true, 0⟩ := by
                            rw [hp.out]; unfold onceR; rw [if_neg (by omega), if_pos e]
                          clear hp
                          clear e hav
                          go_upto_region 42 with (fail)
                          refine wp_region_lit ?_
                          refine wl_call rfl 31 #[.int .u32 1] (refV 1 none 0 0 true) _ ?_ (yesC 1 w5) (fun wd hd => ?_)
                          · first | (go_simp; done) | (go_simp; rfl)
                          intro K hK
                          go_simp
                          refine hK _ _ ?_
                          clear hK K
                          unfold refV
                          refine wl_store rfl 42 (.tmp 8) (.tmp 220) rfl b8 #[.int .u32 1, .slice none 0 0, .bool true] rfl rfl 42 _ (keep X8 hd) (by kernel_rfl) rfl (by simp [Value.oneCell']) (fun we m1 m2 m3 m4 => ?_)
                          intro K hK
                          go_simp
                          refine hK _ _ ?_
                          clear hK K
                          go_wp2
                          exact ret_ref rfl b8 _ _ _ _ _ rfl rfl m1 ⟨AnsR.no, (hal.trans (hd.mono hal.size)).trans (m3 _ z8)⟩
                        · have qe : (h == x0) = false := by simp [e]
                          go_wp2_with fail
                          refine (manyC V m cc f hmm i 10 0 (-1) w5 hV).mono ?_
                          rintro e' w6 ⟨rfl, hbo⟩
                          rw [← hav.out]
                          clear y0 y1 y2 y3 y4 o0 o1 o2 o3 hav
                          replace X9 := keep X9 hbo
                          replace X7 := keep X7 hbo
                          replace X8 := keep X8 hbo
                          replace hV := hV.below hbo
                          replace hal := hal.trans (hbo.mono hal.size)
                          clear hbo
                          have y0 := cell_of_row w6 b7 0 _ 35 _ X7
                          have y1 := cell_of_row w6 b7 1 _ 35 _ X7
                          have y2 := cell_of_row w6 b7 2 _ 35 _ X7
                          have y3 := cell_of_row w6 b7 3 _ 35 _ X7
                          have y4 := cell_of_row w6 b7 4 _ 35 _ X7
                          have o0 := cell_of_row w6 b9 0 _ 48 _ X9
                          have o1 := cell_of_row w6 b9 1 _ 48 _ X9
                          have o2 := cell_of_row w6 b9 2 _ 48 _ X9
                          have o3 := cell_of_row w6 b9 3 _ 48 _ X9
                          by_cases g : 0 < av
                          · obtain rfl : p = ⟨0, true, 0⟩ := by
                              rw [hp.out]; unfold onceR; rw [if_neg (by omega), if_neg e, if_pos g]
                            clear hp
                            clear e
                            go_upto_region 44 with (fail)
                            refine wp_region_lit ?_
                            refine wl_call rfl 31 #[.int .u32 0] (refV 0 none 0 0 true) _ ?_ (yesC 0 w6) (fun wd hd => ?_)
                            · first | (go_simp; done) | (go_simp; rfl)
                            intro K hK
                            go_simp
                            refine hK _ _ ?_
                            clear hK K
                            unfold refV
                            refine wl_store rfl 42 (.tmp 8) (.tmp 226) rfl b8 #[.int .u32 0, .slice none 0 0, .bool true] rfl rfl 42 _ (keep X8 hd) (by kernel_rfl) rfl (by simp [Value.oneCell']) (fun we m1 m2 m3 m4 => ?_)
                            intro K hK
                            go_simp
                            refine hK _ _ ?_
                            clear hK K
                            go_wp2
                            exact ret_ref rfl b8 _ _ _ _ _ rfl rfl m1 ⟨AnsR.no, (hal.trans (hd.mono hal.size)).trans (m3 _ z8)⟩
                          · by_cases g2 : 0 ≤ h
                            · obtain rfl : p = ⟨0, false, 0⟩ := by
                                rw [hp.out]; unfold onceR; rw [if_neg (by omega), if_neg e, if_neg g, if_pos g2]
                              clear hp
                              clear e
                              go_upto_region 46 with (fail)
                              refine wp_region_lit ?_
                              refine wl_val rfl (.agg #[.int .u32 0, .slice none 0 0, .bool false]) ?_ ?_
                              · go_simp
                              intro K hK
                              go_simp
                              refine hK _ _ ?_
                              clear hK K
                              refine wl_store rfl 42 (.tmp 8) (.tmp 229) rfl b8 #[.int .u32 0, .slice none 0 0, .bool false] rfl rfl 42 _ X8 (by kernel_rfl) rfl (by simp [Value.oneCell']) (fun we m1 m2 m3 m4 => ?_)
                              intro K hK
                              go_simp
                              refine hK _ _ ?_
                              clear hK K
                              go_wp2
                              exact ret_ref rfl b8 _ _ _ _ _ rfl rfl m1 ⟨AnsR.no, hal.trans (m3 _ z8)⟩
                            · obtain rfl : p = ⟨5, true, 0⟩ := by
                                rw [hp.out]; unfold onceR; rw [if_neg (by omega), if_neg e, if_neg g, if_neg g2]
                              clear hp
                              clear e
                              go_upto_region 47 with (fail)
                              refine wp_region_lit ?_
                              refine wl_call rfl 31 #[.int .u32 5] (refV 5 none 0 0 true) _ ?_ (yesC 5 w6) (fun wd hd => ?_)
                              · first | (go_simp; done) | (go_simp; rfl)
                              intro K hK
                              go_simp
                              refine hK _ _ ?_
                              clear hK K
                              unfold refV
                              refine wl_store rfl 42 (.tmp 8) (.tmp 230) rfl b8 #[.int .u32 5, .slice none 0 0, .bool true] rfl rfl 42 _ (keep X8 hd) (by kernel_rfl) rfl (by simp [Value.oneCell']) (fun we m1 m2 m3 m4 => ?_)
                              intro K hK
                              go_simp
                              refine hK _ _ ?_
                              clear hK K
                              go_wp2
                              exact ret_ref rfl b8 _ _ _ _ _ rfl rfl m1 ⟨AnsR.no, (hal.trans (hd.mono hal.size)).trans (m3 _ z8)⟩
                    · by_cases c1 : x2 = 1
                      · subst c1
                        replace hp : Hid (p = lockR h x0 1) := by
                          show p = _
                          rw [hp.out, hh.out]; exact refG_L k13 rfl (fun h => c4 h.1) k12 k11 (fun h => h.1.elim k6 k7) (fun h => k9 h.1) k14 k15
                        clear hh
                        have q12 : (ok == 12) = false := by simp [k12]
                        have q11 : (ok == 11) = false := by simp [k11]
                        have q6 : (ok == 6) = false := by simp [k6]
                        have q7 : (ok == 7) = false := by simp [k7]
                        have q9 : (ok == 9) = false := by simp [k9]
                        have q14 : (ok == 14) = false := by simp [k14]
                        have q15 : (ok == 15) = false := by simp [k15]
                        clear k12 k11 k6 k7 k9 k14 k15 k13 htab hRP
                        by_cases e : h = x0
                        · have qe : (h == x0) = true := by simp [e]
                          have qf : (h != x0) = false := by simp [e]
                          obtain rfl : p = ⟨1, true, 0⟩ := by
                            rw [hp.out]; unfold lockR; rw [if_pos rfl, if_pos e]
                          clear hp
                          clear e
                          go_upto_region 50 with (fail)
                          refine wp_region_lit ?_
                          refine wl_call rfl 31 #[.int .u32 1] (refV 1 none 0 0 true) _ ?_ (yesC 1 w5) (fun wd hd => ?_)
                          · first | (go_simp; done) | (go_simp; rfl)
                          intro K hK
                          go_simp
                          refine hK _ _ ?_
                          clear hK K
                          unfold refV
                          refine wl_store rfl 42 (.tmp 8) (.tmp 238) rfl b8 #[.int .u32 1, .slice none 0 0, .bool true] rfl rfl 42 _ (keep X8 hd) (by kernel_rfl) rfl (by simp [Value.oneCell']) (fun we m1 m2 m3 m4 => ?_)
                          intro K hK
                          go_simp
                          refine hK _ _ ?_
                          clear hK K
                          go_wp2
                          exact ret_ref rfl b8 _ _ _ _ _ rfl rfl m1 ⟨AnsR.no, (hal.trans (hd.mono hal.size)).trans (m3 _ z8)⟩
                        · have qe : (h == x0) = false := by simp [e]
                          have qf : (h != x0) = true := by simp [e]
                          by_cases g : 0 ≤ h
                          · obtain rfl : p = ⟨0, false, 0⟩ := by
                              rw [hp.out]; unfold lockR; rw [if_pos rfl, if_neg e, if_pos g]
                            clear hp
                            clear e
                            go_upto_region 52 with (fail)
                            refine wp_region_lit ?_
                            refine wl_val rfl (.agg #[.int .u32 0, .slice none 0 0, .bool false]) ?_ ?_
                            · go_simp
                            intro K hK
                            go_simp
                            refine hK _ _ ?_
                            clear hK K
                            refine wl_store rfl 42 (.tmp 8) (.tmp 241) rfl b8 #[.int .u32 0, .slice none 0 0, .bool false] rfl rfl 42 _ X8 (by kernel_rfl) rfl (by simp [Value.oneCell']) (fun we m1 m2 m3 m4 => ?_)
                            intro K hK
                            go_simp
                            refine hK _ _ ?_
                            clear hK K
                            go_wp2
                            exact ret_ref rfl b8 _ _ _ _ _ rfl rfl m1 ⟨AnsR.no, hal.trans (m3 _ z8)⟩
                          · obtain rfl : p = ⟨0, true, 0⟩ := by
                              rw [hp.out]; unfold lockR; rw [if_pos rfl, if_neg e, if_neg g]
                            clear hp
                            clear e
                            go_upto_region 53 with (fail)
                            refine wp_region_lit ?_
                            refine wl_call rfl 31 #[.int .u32 0] (refV 0 none 0 0 true) _ ?_ (yesC 0 w5) (fun wd hd => ?_)
                            · first | (go_simp; done) | (go_simp; rfl)
                            intro K hK
                            go_simp
                            refine hK _ _ ?_
                            clear hK K
                            unfold refV
                            refine wl_store rfl 42 (.tmp 8) (.tmp 242) rfl b8 #[.int .u32 0, .slice none 0 0, .bool true] rfl rfl 42 _ (keep X8 hd) (by kernel_rfl) rfl (by simp [Value.oneCell']) (fun we m1 m2 m3 m4 => ?_)
                            intro K hK
                            go_simp
                            refine hK _ _ ?_
                            clear hK K
                            go_wp2
                            exact ret_ref rfl b8 _ _ _ _ _ rfl rfl m1 ⟨AnsR.no, (hal.trans (hd.mono hal.size)).trans (m3 _ z8)⟩
                      · obtain rfl : x2 = 2 := by omega
                        replace hp : Hid (p = lockR h x0 2) := by
                          show p = _
                          rw [hp.out, hh.out]; exact refG_L k13 rfl (fun h => c4 h.1) k12 k11 (fun h => h.1.elim k6 k7) (fun h => k9 h.1) k14 k15
                        clear hh
                        have q12 : (ok == 12) = false := by simp [k12]
                        have q11 : (ok == 11) = false := by simp [k11]
                        have q6 : (ok == 6) = false := by simp [k6]
                        have q7 : (ok == 7) = false := by simp [k7]
                        have q9 : (ok == 9) = false := by simp [k9]
                        have q14 : (ok == 14) = false := by simp [k14]
                        have q15 : (ok == 15) = false := by simp [k15]
                        clear k12 k11 k6 k7 k9 k14 k15 k13 htab hRP
                        by_cases e : h = x0
                        · have qe : (h == x0) = true := by simp [e]
                          have qf : (h != x0) = false := by simp [e]
                          obtain rfl : p = ⟨0, true, 0⟩ := by
                            rw [hp.out]; unfold lockR; rw [if_neg (by omega), if_pos e]
                          clear hp
                          clear e
                          go_upto_region 56 with (fail)
                          refine wp_region_lit ?_
                          refine wl_call rfl 31 #[.int .u32 0] (refV 0 none 0 0 true) _ ?_ (yesC 0 w5) (fun wd hd => ?_)
                          · first | (go_simp; done) | (go_simp; rfl)
                          intro K hK
                          go_simp
                          refine hK _ _ ?_
                          clear hK K
                          unfold refV
                          refine wl_store rfl 42 (.tmp 8) (.tmp 248) rfl b8 #[.int .u32 0, .slice none 0 0, .bool true] rfl rfl 42 _ (keep X8 hd) (by kernel_rfl) rfl (by simp [Value.oneCell']) (fun we m1 m2 m3 m4 => ?_)
                          intro K hK
                          go_simp
                          refine hK _ _ ?_
                          clear hK K
                          go_wp2
                          exact ret_ref rfl b8 _ _ _ _ _ rfl rfl m1 ⟨AnsR.no, (hal.trans (hd.mono hal.size)).trans (m3 _ z8)⟩
                        · have qe : (h == x0) = false := by simp [e]
                          have qf : (h != x0) = true := by simp [e]
                          obtain rfl : p = ⟨2, true, 0⟩ := by
                            rw [hp.out]; unfold lockR; rw [if_neg (by omega), if_neg e]
                          clear hp
                          clear e
                          go_upto_region 55 with (fail)
                          refine wp_region_lit ?_
                          refine wl_call rfl 31 #[.int .u32 2] (refV 2 none 0 0 true) _ ?_ (yesC 2 w5) (fun wd hd => ?_)
                          · first | (go_simp; done) | (go_simp; rfl)
                          intro K hK
                          go_simp
                          refine hK _ _ ?_
                          clear hK K
                          unfold refV
                          refine wl_store rfl 42 (.tmp 8) (.tmp 247) rfl b8 #[.int .u32 2, .slice none 0 0, .bool true] rfl rfl 42 _ (keep X8 hd) (by kernel_rfl) rfl (by simp [Value.oneCell']) (fun we m1 m2 m3 m4 => ?_)
                          intro K hK
                          go_simp
                          refine hK _ _ ?_
                          clear hK K
                          go_wp2
                          exact ret_ref rfl b8 _ _ _ _ _ rfl rfl m1 ⟨AnsR.no, (hal.trans (hd.mono hal.size)).trans (m3 _ z8)⟩
    · have qp : (x3 != 0) = true := by simp [p0]
      obtain rfl : p = ⟨0, false, 0⟩ := hp.out.trans (refG_p k13 p0)
      clear hp
      clear k13
      go_upto_region 7 with (fail)
      refine wp_region_lit ?_
      refine wl_val rfl (.agg #[.int .u32 0, .slice none 0 0, .bool false]) ?_ ?_
      · go_simp
      intro K hK
      go_simp
      refine hK _ _ ?_
      clear hK K
      refine wl_store rfl 42 (.tmp 8) (.tmp 72) rfl b8 #[.int .u32 0, .slice none 0 0, .bool false] rfl rfl 42 _ X8 (by kernel_rfl) rfl (by simp [Value.oneCell']) (fun we m1 m2 m3 m4 => ?_)
      intro K hK
      go_simp
      refine hK _ _ ?_
      clear hK K
      go_wp2
      exact ret_ref rfl b8 _ _ _ _ _ rfl rfl m1 ⟨AnsR.no, hal.trans (m3 _ z8)⟩
end Go.Proofs.YtobkonbpcnmgpaaDoor
