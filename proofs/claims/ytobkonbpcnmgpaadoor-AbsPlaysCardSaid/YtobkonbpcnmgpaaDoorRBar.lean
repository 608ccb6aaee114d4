/- The reference's barrier. -/
import Derived.Test.YtobkonbpcnmgpaaDoorRefMay
namespace Go.Proofs.YtobkonbpcnmgpaaDoor
open Go.RowKit
set_option linter.unusedVariables false
set_option linter.unusedSimpArgs false
theorem box3 (w : World) (c1 c2 c3 : Array Value) (t1 t2 t3 : TypeId) : ∃ W b1 b2 b3, ((w.alloc (.cells c1 t1)).alloc (.cells c2 t2)).alloc (.cells c3 t3) = W ∧ w.heap.size = b1 ∧ w.heap.size + 1 = b2 ∧ b2 + 1 = b3 ∧ W.heap[b1]? = some (.cells c1 t1 (0, 0)) ∧ W.heap[b2]? = some (.cells c2 t2 (0, 0)) ∧ W.heap[b3]? = some (.cells c3 t3 (0, 0)) ∧ Below w.heap.size w W := by
  have h1 : Below w.heap.size w (w.alloc (.cells c1 t1)) := (Below.refl _ _).alloc (Nat.le_refl _) _
  have g1 := heap_alloc_new w (.cells c1 t1)
  have h2 : Below (w.alloc (.cells c1 t1)).heap.size (w.alloc (.cells c1 t1)) ((w.alloc (.cells c1 t1)).alloc (.cells c2 t2)) := (Below.refl _ _).alloc (Nat.le_refl _) _
  have g2 := heap_alloc_new (w.alloc (.cells c1 t1)) (.cells c2 t2)
  have h3 : Below ((w.alloc (.cells c1 t1)).alloc (.cells c2 t2)).heap.size ((w.alloc (.cells c1 t1)).alloc (.cells c2 t2)) (((w.alloc (.cells c1 t1)).alloc (.cells c2 t2)).alloc (.cells c3 t3)) := (Below.refl _ _).alloc (Nat.le_refl _) _
  have g3 := heap_alloc_new ((w.alloc (.cells c1 t1)).alloc (.cells c2 t2)) (.cells c3 t3)
  refine ⟨_, _, _, _, rfl, rfl, rfl, rfl, keep (keep g1 h2) h3, ?_, ?_, (h1.trans (h2.mono h1.size)).trans (h3.mono ?_)⟩
  · have := keep g2 h3; simpa using this
  · simpa using g3
  · exact Nat.le_trans h1.size h2.size
structure RA where
  r : Int
  ok : Bool
def closedR (ob : Int) (o : O) (f : Nat → Stp) (m : Nat) : Bool := (List.range o.n.toNat).any fun t => decide (manN ob 9 1 t f m ≤ manN ob 9 2 (-1) f m)
theorem closedR_t {ob : Int} {o : O} {f : Nat → Stp} {m t : Nat} (ht : (t : Int) < o.n) (h : manN ob 9 1 t f m ≤ manN ob 9 2 (-1) f m) : closedR ob o f m = true := by
  unfold closedR; rw [List.any_eq_true]; exact ⟨t, List.mem_range.2 (by omega), decide_eq_true h⟩
theorem closedR_f {ob : Int} {o : O} {f : Nat → Stp} {m : Nat} (h : ∀ t : Nat, (t : Int) < o.n → ¬ manN ob 9 1 t f m ≤ manN ob 9 2 (-1) f m) : closedR ob o f m = false := by
  unfold closedR; rw [List.any_eq_false]; intro t ht; have := h t (by have := List.mem_range.1 ht; omega); simpa using this
def barR (o : O) (f : Nat → Stp) (m : Nat) (x : Ak) : RA :=
  if o.n ≤ x.who then ⟨4, true⟩ else if 8 < x.arg then ⟨3, true⟩ else if x.arg ≠ o.n then ⟨3, true⟩
  else if x.part = 1 then (if manN x.obj 9 1 x.who f m = manN x.obj 9 3 x.who f m then ⟨0, true⟩ else ⟨0, false⟩)
  else if x.part = 2 then (if closedR x.obj o f m = true then ⟨0, false⟩ else ⟨0, true⟩)
  else if x.part = 3 then (if manN x.obj 9 3 x.who f m < manN x.obj 9 1 x.who f m then (if manN x.obj 9 1 x.who f m ≤ manN x.obj 9 2 (-1) f m then ⟨0, true⟩ else ⟨0, false⟩) else ⟨0, false⟩)
  else ⟨0, false⟩
set_option maxRecDepth 100000 in
set_option maxHeartbeats 16000000 in
theorem barrierC (o : O) (V : Option Addr) (m cc : Nat) (f : Nat → Stp) (hmm : m ≤ 4000) (x : Ak) (hxa : 0 ≤ x.arg ∧ x.arg < 4294967296) (w : World) (hV : Steps w V m f) : Calls Tryd.prog 29 #[ov o, .slice V m cc, akV x] w fun e w' => e = .returned (refV (barR o f m x).r none 0 0 (barR o f m x).ok) ∧ Below w.heap.size w w' := by
  obtain ⟨p, hp⟩ : ∃ p, Hid (p = barR o f m x) := ⟨_, rfl⟩
  rw [← hp.out]
  have hcl1 := fun t : Nat => closedR_t (ob := x.obj) (o := o) (f := f) (m := m) (t := t)
  have hcl2 := closedR_f (ob := x.obj) (o := o) (f := f) (m := m)
  obtain ⟨ok, on, oa, ob⟩ := o
  obtain ⟨x0, x1, x2, x3, x4, x5⟩ := x
  simp only at hxa hcl1 hcl2
  obtain ⟨a0, a1⟩ := hxa
  unfold ov akV akC
  go_enter Tryd.func29, Tryd.ntmps29
  go_upto_region 1 with (fail)
  obtain ⟨W, b3, b5, b6, e0, e1, e2, e3, X3, X5, X6, hal⟩ := box3 w #[.int .i64 ok, .int .i64 on, .int .i64 oa, .int .i64 ob] #[.int .i64 x0, .int .i64 x1, .int .i64 x2, .int .i64 x3, .int .u32 x4, .int .u32 x5] #[.int .u32 0, .slice none 0 0, .bool false] 48 35 42
  rw [e0, e2, e3, e1]
  have z6 : w.heap.size ≤ b6 := by omega
  clear e0 e2 e3 e1
  replace hV := hV.below hal
  have y0 := cell_of_row W b5 0 _ 35 _ X5
  have y1 := cell_of_row W b5 1 _ 35 _ X5
  have y3 := cell_of_row W b5 3 _ 35 _ X5
  have y4 := cell_of_row W b5 4 _ 35 _ X5
  have yn := cell_of_row W b3 1 _ 48 _ X3
  by_cases h1 : on ≤ x0
  · obtain rfl : p = ⟨4, true⟩ := by
      rw [hp.out]; unfold barR; simp_all
    clear hp
    go_upto_region 2 with (fail)
    refine wp_region_lit ?_
    refine wl_call rfl 31 #[.int .u32 4] (refV 4 none 0 0 true) _ ?_ (yesC 4 W) (fun wd hd => ?_)
    · first | (go_simp; done) | (go_simp; rfl)
    intro K hK
    go_simp
    refine hK _ _ ?_
    clear hK K
    unfold refV
    refine wl_store rfl 42 (.tmp 6) (.tmp 16) rfl b6 #[.int .u32 4, .slice none 0 0, .bool true] rfl rfl 42 _ (keep X6 hd) (by kernel_rfl) rfl (by simp [Value.oneCell']) (fun we m1 m2 m3 m4 => ?_)
    intro K hK
    go_simp
    refine hK _ _ ?_
    clear hK K
    go_wp2
    exact ret_ref rfl b6 _ _ _ _ _ rfl rfl m1 ⟨rfl, (hal.trans (hd.mono hal.size)).trans (m3 _ z6)⟩
  · by_cases h2 : 8 < x4
    · obtain rfl : p = ⟨3, true⟩ := by
        rw [hp.out]; unfold barR; simp_all
      clear hp
      go_upto_region 4 with (fail)
      refine wp_region_lit ?_
      refine wl_call rfl 31 #[.int .u32 3] (refV 3 none 0 0 true) _ ?_ (yesC 3 W) (fun wd hd => ?_)
      · first | (go_simp; done) | (go_simp; rfl)
      intro K hK
      go_simp
      refine hK _ _ ?_
      clear hK K
      unfold refV
      refine wl_store rfl 42 (.tmp 6) (.tmp 28) rfl b6 #[.int .u32 3, .slice none 0 0, .bool true] rfl rfl 42 _ (keep X6 hd) (by kernel_rfl) rfl (by simp [Value.oneCell']) (fun we m1 m2 m3 m4 => ?_)
      intro K hK
      go_simp
      refine hK _ _ ?_
      clear hK K
      go_wp2
      exact ret_ref rfl b6 _ _ _ _ _ rfl rfl m1 ⟨rfl, (hal.trans (hd.mono hal.size)).trans (m3 _ z6)⟩
    · have hw1 : IntKind.i64.wrap x4 = x4 := by simp [IntKind.wrap, IntKind.bits, IntKind.signed]; omega
      by_cases h3 : x4 = on
      · have q3 : (x4 != on) = false := by simp [h3]
        obtain ⟨nc, hnc⟩ : ∃ z, Hid (z = manN x1 9 1 x0 f m) := ⟨_, rfl⟩
        obtain ⟨nl, hnl⟩ : ∃ z, Hid (z = manN x1 9 3 x0 f m) := ⟨_, rfl⟩
        obtain ⟨no, hno⟩ : ∃ z, Hid (z = manN x1 9 2 (-1) f m) := ⟨_, rfl⟩
        have hq : ∀ q : Int, 0 ≤ manN x1 9 1 q f m ∧ manN x1 9 1 q f m ≤ m := fun q => man_nn _ _ _ _ _ _
        have hp' : Hid (p = barR ⟨ok, on, oa, ob⟩ f m ⟨x0, x1, x2, x3, x4, x5⟩) := hp
        replace hp : Hid (p = if x3 = 1 then (if nc = nl then ⟨0, true⟩ else ⟨0, false⟩) else if x3 = 2 then (if closedR x1 ⟨ok, on, oa, ob⟩ f m = true then ⟨0, false⟩ else ⟨0, true⟩) else if x3 = 3 then (if nl < nc then (if nc ≤ no then ⟨0, true⟩ else ⟨0, false⟩) else ⟨0, false⟩) else ⟨0, false⟩) := by
          show _ = _
          rw [hp'.out, hnc.out, hnl.out, hno.out]
          unfold barR
          simp only
          rw [if_neg h1, if_neg h2, if_neg (fun h => h h3)]
        clear hp'
        go_upto_region 5 with (fail)
        clear y0 y1 y3 y4 yn
        refine quiet_all (fun w' => Below W.heap.size W w') (by kernel_rfl) (by kernel_rfl) (Below.drew (Below.refl _ _)) ?_
        refine q_run rfl (fun K hK => ?_)
        refine q_value ?_ (fun w' h' => ?_) ?_
        rotate_left
        · go_simp; try with_reducible rfl
        go_simp
        refine hK _ ?_
        clear hK K
        refine q_run rfl (fun K hK => ?_)
        refine q_value ?_ (fun w' h' => ?_) ?_
        rotate_left
        · go_simp; try with_reducible rfl
        go_simp
        refine hK _ ?_
        clear hK K
        refine q_run rfl (fun K hK => ?_)
        refine q_value ?_ (fun w' h' => ?_) ?_
        rotate_left
        · have c := cell_of_row w' b5 1 _ 35 _ (keep X5 h'); go_simp; try with_reducible rfl
        go_simp
        refine hK _ ?_
        clear hK K
        refine q_run rfl (fun K hK => ?_)
        refine q_value ?_ (fun w' h' => ?_) ?_
        rotate_left
        · go_simp; try with_reducible rfl
        go_simp
        refine hK _ ?_
        clear hK K
        refine q_run rfl (fun K hK => ?_)
        refine q_value ?_ (fun w' h' => ?_) ?_
        rotate_left
        · have c := cell_of_row w' b5 0 _ 35 _ (keep X5 h'); go_simp; try with_reducible rfl
        go_simp
        refine hK _ ?_
        clear hK K
        refine q_run rfl (fun K hK => ?_)
        refine q_enter 32 #[.slice V m cc, .int .i64 x1, .int .i64 9, .int .i64 1, .int .i64 x0] (.int .i64 (manN x1 9 1 x0 f m)) (fun w' => ?_) (fun w' h' => (manyC V m cc f hmm x1 9 1 x0 w' (hV.below h')).mono fun e w'' h => ⟨h.1, h'.trans (h.2.mono h'.size)⟩) ?_
        · first | (go_simp; done) | (go_simp; rfl)
        rw [← hnc.out]
        go_simp
        refine hK _ ?_
        clear hK K
        refine q_run rfl (fun K hK => ?_)
        refine q_value ?_ (fun w' h' => ?_) ?_
        rotate_left
        · go_simp; try with_reducible rfl
        go_simp
        refine hK _ ?_
        clear hK K
        refine q_run rfl (fun K hK => ?_)
        refine q_value ?_ (fun w' h' => ?_) ?_
        rotate_left
        · go_simp; try with_reducible rfl
        go_simp
        refine hK _ ?_
        clear hK K
        refine q_run rfl (fun K hK => ?_)
        refine q_value ?_ (fun w' h' => ?_) ?_
        rotate_left
        · have c := cell_of_row w' b5 1 _ 35 _ (keep X5 h'); go_simp; try with_reducible rfl
        go_simp
        refine hK _ ?_
        clear hK K
        refine q_run rfl (fun K hK => ?_)
        refine q_value ?_ (fun w' h' => ?_) ?_
        rotate_left
        · go_simp; try with_reducible rfl
        go_simp
        refine hK _ ?_
        clear hK K
        refine q_run rfl (fun K hK => ?_)
        refine q_value ?_ (fun w' h' => ?_) ?_
        rotate_left
        · have c := cell_of_row w' b5 0 _ 35 _ (keep X5 h'); go_simp; try with_reducible rfl
        go_simp
        refine hK _ ?_
        clear hK K
        refine q_run rfl (fun K hK => ?_)
        refine q_enter 32 #[.slice V m cc, .int .i64 x1, .int .i64 9, .int .i64 3, .int .i64 x0] (.int .i64 (manN x1 9 3 x0 f m)) (fun w' => ?_) (fun w' h' => (manyC V m cc f hmm x1 9 3 x0 w' (hV.below h')).mono fun e w'' h => ⟨h.1, h'.trans (h.2.mono h'.size)⟩) ?_
        · first | (go_simp; done) | (go_simp; rfl)
        rw [← hnl.out]
        go_simp
        refine hK _ ?_
        clear hK K
        refine q_run rfl (fun K hK => ?_)
        refine q_value ?_ (fun w' h' => ?_) ?_
        rotate_left
        · go_simp; try with_reducible rfl
        go_simp
        refine hK _ ?_
        clear hK K
        refine q_run rfl (fun K hK => ?_)
        refine q_value ?_ (fun w' h' => ?_) ?_
        rotate_left
        · go_simp; try with_reducible rfl
        go_simp
        refine hK _ ?_
        clear hK K
        refine q_run rfl (fun K hK => ?_)
        refine q_value ?_ (fun w' h' => ?_) ?_
        rotate_left
        · have c := cell_of_row w' b5 1 _ 35 _ (keep X5 h'); go_simp; try with_reducible rfl
        go_simp
        refine hK _ ?_
        clear hK K
        refine q_run rfl (fun K hK => ?_)
        refine q_enter 32 #[.slice V m cc, .int .i64 x1, .int .i64 9, .int .i64 2, .int .i64 (-1)] (.int .i64 (manN x1 9 2 (-1) f m)) (fun w' => ?_) (fun w' h' => (manyC V m cc f hmm x1 9 2 (-1) w' (hV.below h')).mono fun e w'' h => ⟨h.1, h'.trans (h.2.mono h'.size)⟩) ?_
        · first | (go_simp; done) | (go_simp; rfl)
        rw [← hno.out]
        go_simp
        refine hK _ ?_
        clear hK K
        refine q_run rfl (fun K hK => ?_)
        refine q_value ?_ (fun w' h' => ?_) ?_
        rotate_left
        · go_simp; try with_reducible rfl
        go_simp
        refine hK _ ?_
        clear hK K
        refine q_run rfl (fun K hK => ?_)
        refine q_value ?_ (fun w' h' => ?_) ?_
        rotate_left
        · go_simp; try with_reducible rfl
        go_simp
        refine hK _ ?_
        clear hK K
        refine q_run rfl (fun K hK => ?_)
        refine q_value ?_ (fun w' h' => ?_) ?_
        rotate_left
        · go_simp; try with_reducible rfl
        go_simp
        refine hK _ ?_
        clear hK K
        refine qd_nil ?_
        intro w2 h2
        replace X3 := keep X3 h2
        replace X5 := keep X5 h2
        replace X6 := keep X6 h2
        replace hV := hV.below h2
        replace hal := hal.trans (h2.mono hal.size)
        clear h2
        have y3 := cell_of_row w2 b5 3 _ 35 _ X5
        have yn := cell_of_row w2 b3 1 _ 48 _ X3
        have y1 := cell_of_row w2 b5 1 _ 35 _ X5
        by_cases c1 : x3 = 1
        · subst c1
          by_cases d1 : nc = nl
          · have qd : (nc == nl) = true := by simp [d1]
            obtain rfl : p = ⟨0, true⟩ := by
              rw [hp.out]; rw [if_pos rfl, if_pos d1]
            clear hp
            clear d1
            go_upto_region 9 with (fail)
            refine wp_region_lit ?_
            refine wl_call rfl 31 #[.int .u32 0] (refV 0 none 0 0 true) _ ?_ (yesC 0 w2) (fun wd hd => ?_)
            · first | (go_simp; done) | (go_simp; rfl)
            intro K hK
            go_simp
            refine hK _ _ ?_
            clear hK K
            unfold refV
            refine wl_store rfl 42 (.tmp 6) (.tmp 52) rfl b6 #[.int .u32 0, .slice none 0 0, .bool true] rfl rfl 42 _ (keep X6 hd) (by kernel_rfl) rfl (by simp [Value.oneCell']) (fun we m1 m2 m3 m4 => ?_)
            intro K hK
            go_simp
            refine hK _ _ ?_
            clear hK K
            go_wp2
            exact ret_ref rfl b6 _ _ _ _ _ rfl rfl m1 ⟨rfl, (hal.trans (hd.mono hal.size)).trans (m3 _ z6)⟩
          · have qd : (nc == nl) = false := by simp [d1]
            obtain rfl : p = ⟨0, false⟩ := by
              rw [hp.out]; rw [if_pos rfl, if_neg d1]
            clear hp
            go_upto_region 20 with (fail)
            refine wp_region_lit ?_
            refine wl_val rfl (.agg #[.int .u32 0, .slice none 0 0, .bool false]) ?_ ?_
            · go_simp
            intro K hK
            go_simp
            refine hK _ _ ?_
            clear hK K
            refine wl_store rfl 42 (.tmp 6) (.tmp 81) rfl b6 #[.int .u32 0, .slice none 0 0, .bool false] rfl rfl 42 _ X6 (by kernel_rfl) rfl (by simp [Value.oneCell']) (fun we m1 m2 m3 m4 => ?_)
            intro K hK
            go_simp
            refine hK _ _ ?_
            clear hK K
            go_wp2
            exact ret_ref rfl b6 _ _ _ _ _ rfl rfl m1 ⟨rfl, hal.trans (m3 _ z6)⟩
        · by_cases c2 : x3 = 2
          · subst c2
            replace hp : Hid (p = if closedR x1 ⟨ok, on, oa, ob⟩ f m = true then ⟨0, false⟩ else ⟨0, true⟩) := by
              show _ = _
              rw [hp.out, if_neg (by omega), if_pos rfl]
            go_upto_region 12 with (fail)
            go_loopw [10] (fun u wr => ∃ (j : Nat), u = .int .i64 j ∧ (j = 0 ∨ (j : Int) ≤ on) ∧ (∀ q : Nat, q < j → no < manN x1 9 1 q f m) ∧ wr.heap[b3]? = some (.cells #[.int .i64 ok, .int .i64 on, .int .i64 oa, .int .i64 ob] 48 (0, 0)) ∧ wr.heap[b5]? = some (.cells #[.int .i64 x0, .int .i64 x1, .int .i64 x2, .int .i64 2, .int .u32 x4, .int .u32 x5] 35 (0, 0)) ∧ wr.heap[b6]? = some (.cells #[.int .u32 0, .slice none 0 0, .bool false] 42 (0, 0)) ∧ Steps wr V m f ∧ Below w.heap.size w wr) (fun u _ => on.toNat - (intOf u).toNat)
            case atStart => exact ⟨0, rfl, .inl rfl, fun q hq => absurd hq (by omega), X3, X5, X6, hV, hal⟩
            case round =>
              clear X3 X5 X6 hV hal y1 y3 yn
              obtain ⟨j, rfl, hj, hall, X3, X5, X6, hV, hal⟩ := hrel
              have y1 := cell_of_row wr b5 1 _ 35 _ X5
              have yn := cell_of_row wr b3 1 _ 48 _ X3
              by_cases hlt : (j : Int) < on
              case neg =>
                obtain rfl : p = ⟨0, true⟩ := by
                  rw [hp.out, if_neg (by rw [hcl2 (fun t ht => by rw [← hno.out]; have := hall t (by omega); omega)]; exact Bool.false_ne_true)]
                clear hp hcl1 hcl2 hall hq
                go_upto_region 16 with (fail)
                refine wp_region_lit ?_
                refine wl_call rfl 31 #[.int .u32 0] (refV 0 none 0 0 true) _ ?_ (yesC 0 wr) (fun wd hd => ?_)
                · first | (go_simp; done) | (go_simp; rfl)
                intro K hK
                go_simp
                refine hK _ _ ?_
                clear hK K
                unfold refV
                refine wl_store rfl 42 (.tmp 6) (.tmp 69) rfl b6 #[.int .u32 0, .slice none 0 0, .bool true] rfl rfl 42 _ (keep X6 hd) (by kernel_rfl) rfl (by simp [Value.oneCell']) (fun we m1 m2 m3 m4 => ?_)
                intro K hK
                go_simp
                refine hK _ _ ?_
                clear hK K
                go_wp2
                exact ret_ref rfl b6 _ _ _ _ _ rfl rfl m1 ⟨rfl, (hal.trans (hd.mono hal.size)).trans (m3 _ z6)⟩
              have hl0 : (0 : Int) ≤ j := by omega
              have hj8 : j ≤ 8 := by omega
              go_wp2_with fail
              refine (manyC V m cc f hmm x1 9 1 j wr hV).mono ?_
              rintro e w3 ⟨rfl, h3'⟩
              replace X3 := keep X3 h3'
              replace X5 := keep X5 h3'
              replace X6 := keep X6 h3'
              replace hV := hV.below h3'
              replace hal := hal.trans (h3'.mono hal.size)
              clear h3' y1 yn
              by_cases hle : manN x1 9 1 j f m ≤ no
              · obtain rfl : p = ⟨0, false⟩ := by
                  rw [hp.out, if_pos (hcl1 j hlt (by rw [← hno.out]; exact hle))]
                clear hp hcl1 hcl2 hall
                have hle' := hle
                obtain ⟨z, hz⟩ : ∃ z, Hid (z = manN x1 9 1 j f m) := ⟨_, rfl⟩
                rw [← hz.out] at hle
                rw [← hz.out]
                clear hle' hq
                go_upto_region 15 with (fail)
                refine wp_region_lit ?_
                refine wl_val rfl (.agg #[.int .u32 0, .slice none 0 0, .bool false]) ?_ ?_
                · go_simp
                intro K hK
                go_simp
                refine hK _ _ ?_
                clear hK K
                refine wl_store rfl 42 (.tmp 6) (.tmp 68) rfl b6 #[.int .u32 0, .slice none 0 0, .bool false] rfl rfl 42 _ X6 (by kernel_rfl) rfl (by simp [Value.oneCell']) (fun we m1 m2 m3 m4 => ?_)
                intro K hK
                go_simp
                refine hK _ _ ?_
                clear hK K
                go_wp2
                exact ret_ref rfl b6 _ _ _ _ _ rfl rfl m1 ⟨rfl, hal.trans (m3 _ z6)⟩
              have hall' : ∀ q : Nat, q < j + 1 → no < manN x1 9 1 q f m := fun q hq => by
                rcases Nat.lt_succ_iff_lt_or_eq.1 hq with h | rfl
                · exact hall q h
                · exact Int.lt_of_not_ge hle
              obtain ⟨z, hz⟩ : ∃ z, Hid (z = manN x1 9 1 j f m) := ⟨_, rfl⟩
              rw [← hz.out] at hle
              rw [← hz.out]
              clear hall
              go_wp2
              go_roundw
              case rel => exact ⟨j + 1, by go_num, .inr (by omega), show (∀ q : Nat, q < j + 1 → no < manN x1 9 1 q f m) from hall', X3, X5, X6, hV, hal⟩
              case measure => simp [intOf]; omega
          · by_cases c3 : x3 = 3
            · subst c3
              replace hp : Hid (p = if nl < nc then (if nc ≤ no then ⟨0, true⟩ else ⟨0, false⟩) else ⟨0, false⟩) := by
                show _ = _
                rw [hp.out, if_neg (by omega), if_neg (by omega), if_pos rfl]
              by_cases d1 : nl < nc
              · by_cases d2 : nc ≤ no
                · obtain rfl : p = ⟨0, true⟩ := by
                    rw [hp.out]; rw [if_pos d1, if_pos d2]
                  clear hp
                  go_upto_region 19 with (fail)
                  refine wp_region_lit ?_
                  refine wl_call rfl 31 #[.int .u32 0] (refV 0 none 0 0 true) _ ?_ (yesC 0 w2) (fun wd hd => ?_)
                  · first | (go_simp; done) | (go_simp; rfl)
                  intro K hK
                  go_simp
                  refine hK _ _ ?_
                  clear hK K
                  unfold refV
                  refine wl_store rfl 42 (.tmp 6) (.tmp 80) rfl b6 #[.int .u32 0, .slice none 0 0, .bool true] rfl rfl 42 _ (keep X6 hd) (by kernel_rfl) rfl (by simp [Value.oneCell']) (fun we m1 m2 m3 m4 => ?_)
                  intro K hK
                  go_simp
                  refine hK _ _ ?_
                  clear hK K
                  go_wp2
                  exact ret_ref rfl b6 _ _ _ _ _ rfl rfl m1 ⟨rfl, (hal.trans (hd.mono hal.size)).trans (m3 _ z6)⟩
                · obtain rfl : p = ⟨0, false⟩ := by
                    rw [hp.out]; rw [if_pos d1, if_neg d2]
                  clear hp
                  go_upto_region 20 with (fail)
                  refine wp_region_lit ?_
                  refine wl_val rfl (.agg #[.int .u32 0, .slice none 0 0, .bool false]) ?_ ?_
                  · go_simp
                  intro K hK
                  go_simp
                  refine hK _ _ ?_
                  clear hK K
                  refine wl_store rfl 42 (.tmp 6) (.tmp 81) rfl b6 #[.int .u32 0, .slice none 0 0, .bool false] rfl rfl 42 _ X6 (by kernel_rfl) rfl (by simp [Value.oneCell']) (fun we m1 m2 m3 m4 => ?_)
                  intro K hK
                  go_simp
                  refine hK _ _ ?_
                  clear hK K
                  go_wp2
                  exact ret_ref rfl b6 _ _ _ _ _ rfl rfl m1 ⟨rfl, hal.trans (m3 _ z6)⟩
              · obtain rfl : p = ⟨0, false⟩ := by
                  rw [hp.out]; rw [if_neg d1]
                clear hp
                go_upto_region 20 with (fail)
                refine wp_region_lit ?_
                refine wl_val rfl (.agg #[.int .u32 0, .slice none 0 0, .bool false]) ?_ ?_
                · go_simp
                intro K hK
                go_simp
                refine hK _ _ ?_
                clear hK K
                refine wl_store rfl 42 (.tmp 6) (.tmp 81) rfl b6 #[.int .u32 0, .slice none 0 0, .bool false] rfl rfl 42 _ X6 (by kernel_rfl) rfl (by simp [Value.oneCell']) (fun we m1 m2 m3 m4 => ?_)
                intro K hK
                go_simp
                refine hK _ _ ?_
                clear hK K
                go_wp2
                exact ret_ref rfl b6 _ _ _ _ _ rfl rfl m1 ⟨rfl, hal.trans (m3 _ z6)⟩
            · have r1 : (x3 == 1) = false := by simp [c1]
              have r2 : (x3 == 2) = false := by simp [c2]
              have r3 : (x3 == 3) = false := by simp [c3]
              obtain rfl : p = ⟨0, false⟩ := by
                rw [hp.out]; rw [if_neg c1, if_neg c2, if_neg c3]
              clear hp
              clear c1 c2 c3
              go_upto_region 20 with (fail)
              refine wp_region_lit ?_
              refine wl_val rfl (.agg #[.int .u32 0, .slice none 0 0, .bool false]) ?_ ?_
              · go_simp
              intro K hK
              go_simp
              refine hK _ _ ?_
              clear hK K
              refine wl_store rfl 42 (.tmp 6) (.tmp 81) rfl b6 #[.int .u32 0, .slice none 0 0, .bool false] rfl rfl 42 _ X6 (by kernel_rfl) rfl (by simp [Value.oneCell']) (fun we m1 m2 m3 m4 => ?_)
              intro K hK
              go_simp
              refine hK _ _ ?_
              clear hK K
              go_wp2
              exact ret_ref rfl b6 _ _ _ _ _ rfl rfl m1 ⟨rfl, hal.trans (m3 _ z6)⟩
      · have q3 : (x4 != on) = true := by simp [h3]
        obtain rfl : p = ⟨3, true⟩ := by
          rw [hp.out]; unfold barR; simp_all
        clear hp
        go_upto_region 4 with (fail)
        refine wp_region_lit ?_
        refine wl_call rfl 31 #[.int .u32 3] (refV 3 none 0 0 true) _ ?_ (yesC 3 W) (fun wd hd => ?_)
        · first | (go_simp; done) | (go_simp; rfl)
        intro K hK
        go_simp
        refine hK _ _ ?_
        clear hK K
        unfold refV
        refine wl_store rfl 42 (.tmp 6) (.tmp 28) rfl b6 #[.int .u32 3, .slice none 0 0, .bool true] rfl rfl 42 _ (keep X6 hd) (by kernel_rfl) rfl (by simp [Value.oneCell']) (fun we m1 m2 m3 m4 => ?_)
        intro K hK
        go_simp
        refine hK _ _ ?_
        clear hK K
        go_wp2
        exact ret_ref rfl b6 _ _ _ _ _ rfl rfl m1 ⟨rfl, (hal.trans (hd.mono hal.size)).trans (m3 _ z6)⟩
end Go.Proofs.YtobkonbpcnmgpaaDoor
