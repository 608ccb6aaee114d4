/- The reference's count of calls; what a reader gets. -/
import Derived.Test.YtobkonbpcnmgpaaDoorSteps
import Derived.Maps.AppendAt
import Derived.Carry
namespace Go.Proofs.YtobkonbpcnmgpaaDoor
open Go.RowKit
set_option linter.unusedVariables false
set_option linter.unusedSimpArgs false
def urow (n : Nat) (p : Nat → Int) : Array Value := ((List.range n).map fun x => Value.int .u32 (p x)).toArray
theorem urow_size (n : Nat) (p : Nat → Int) : (urow n p).size = n := by simp [urow]
theorem urow_at (n : Nat) (p : Nat → Int) (x : Nat) (h : x < n) : (urow n p)[x]? = some (.int .u32 (p x)) := by simp [urow, h]
theorem urow_get (n : Nat) (p : Nat → Int) (x : Nat) : (urow n p)[x]? = if x < n then some (.int .u32 (p x)) else none := by
  by_cases h : x < n
  · rw [if_pos h]; exact urow_at n p x h
  · rw [if_neg h]; simp [urow, h]
theorem urow_set (n : Nat) (p : Nat → Int) (x : Nat) (b : Int) : (urow n p).setIfInBounds x (.int .u32 b) = urow n (fun y => if y = x then b else p y) := by
  apply Array.ext_getElem?
  intro i
  rw [Array.getElem?_setIfInBounds, urow_get, urow_get, urow_size]
  by_cases e : x = i
  · subst e; by_cases h : x < n <;> simp [h]
  · have e' : i ≠ x := fun h => e h.symm
    rw [if_neg e, if_neg e']
theorem urow_made (n : Nat) : madeCells #[.int .u32 0] n = urow n (fun _ => 0) := by
  apply Array.ext (by simp [urow, madeCells])
  intro i h1 h2
  simp [urow, madeCells, Nat.mod_one]
theorem infoU : (Tryd.prog.info? 32).map (fun i => (i.zero, i.size, i.bytes)) = some (some (.int .u32 0), 1, 4) := by kernel_rfl
section
variable {ops : Array Oper} {Q : Exit → Act → World → Prop}
theorem wl_mku {rest : List Oper} {o : Oper} {a : Act} {w : World} (hgd : o.guard = none) (x y : Operand) (ho : o.op = .makeSlice 36 x y) (n : Nat) (hn : n ≤ 4000) (hx : a.eval x = .int .i64 n) (hy : a.eval y = .int .i64 n)
    (h : ∀ (w' : World) (r : Nat), w'.heap[r]? = some (.cells (urow n fun _ => 0) 32 (0, 0)) → Below w.heap.size w w' → Hid (r = w.heap.size) → ∀ K : Act → World → Prop, (∀ a w, wpList Tryd.prog ops Q rest a w → K a w) → K (a.put o.dst (.slice (some ⟨r, 0, none⟩) n n)) w') : wpList Tryd.prog ops Q (o :: rest) a w := by
  refine wpList_plain hgd fun K hK => ?_
  obtain ⟨i0, hi0, hz0, hz1, hz2⟩ := info_parts infoU
  have hr := run_make (P := Tryd.prog) w 36 32 i0 (.int .u32 0) Tryd.underlying36 hi0 hz0 .i64 .i64 (n : Int) (n : Int) (by omega) (Int.le_refl _) (by rw [hz2]; omega) (by omega)
  have e : (Value.int .u32 0).cells = #[.int .u32 0] := rfl
  rw [hz1, e, Nat.mul_one, Int.toNat_natCast, urow_made] at hr
  unfold Oper.wp execOp
  simp only [ho, hx, hy, Sem.run_bind, hr, Result.andThen_ok]
  exact h _ _ (heap_alloc_new w _) ((Below.refl _ _).alloc (Nat.le_refl _) _) rfl K hK
theorem wl_stu {rest : List Oper} {o : Oper} {a : Act} {w : World} (hgd : o.guard = none) (x y : Operand) (ho : o.op = .store 32 x y) (r j n : Nat) (z : Int) (p : Nat → Int) (hx : a.eval x = .pointer (some ⟨r, j, none⟩)) (hy : a.eval y = .int .u32 z) (hb : w.heap[r]? = some (.cells (urow n p) 32 (0, 0))) (hj : j < n)
    (h : ∀ w' : World, w'.heap[r]? = some (.cells (urow n fun y => if y = j then z else p y) 32 (0, 0)) → (∀ B, B ≤ r → Below B w w') → ∀ K : Act → World → Prop, (∀ a w, wpList Tryd.prog ops Q rest a w → K a w) → K (a.put o.dst undef) w') : wpList Tryd.prog ops Q (o :: rest) a w := by
  refine wpList_plain hgd fun K hK => ?_
  have hc : w.cell? ⟨r, j, none⟩ = some (.int .u32 (p j)) := (cell_of_row w r j _ 32 _ hb).trans (urow_at _ _ _ hj)
  have hf := frozen_of_row w r j _ 32 hb
  have hsz := Tryd.sizeOf32
  have hst : (store ⟨r, j, none⟩ (.int .u32 z)).run Tryd.prog w = .ok () (w.setCell ⟨r, j, none⟩ (.int .u32 z)) := by simp [go_sem, stored, hc, hf]
  have hsv : (storeVar 32 ⟨r, j, none⟩ (.int .u32 z)).run Tryd.prog w = .ok () (w.setCell ⟨r, j, none⟩ (.int .u32 z)) := by
    unfold storeVar
    have hv : (Value.int .u32 z).cells = #[.int .u32 z] := rfl
    simp only [Sem.run_bind, hsz, hv, Result.andThen_ok]
    simp [storeCells, add_off, hst]
  unfold Oper.wp execOp
  simp only [ho, hx, hy, Instr.storeAt, Instr.sureAddr, Sem.run_bind, Sem.run_pure, Result.andThen_ok]
  rw [hsv]
  refine h _ ?_ (fun B hB => (Below.refl _ _).setCell hB _) K hK
  rw [← urow_set]; exact heap_setCell_same w r j _ 32 _ hb
end
def SlD (w w' : World) (k : Nat) (dat : Nat → Int) (e : Ending) : Prop := ∃ V c, e = .returned (.slice V k c) ∧ DatA w' V k dat ∧ ∀ b, V = some ⟨b, 0, none⟩ → w.heap.size ≤ b
set_option maxRecDepth 100000 in
set_option maxHeartbeats 16000000 in
theorem manyC (V : Option Addr) (n cn : Nat) (f : Nat → Stp) (hnn : n ≤ 4000) (o c p q : Int) (w : World) (hV : Steps w V n f) : Calls Tryd.prog 32 #[.slice V n cn, .int .i64 o, .int .i64 c, .int .i64 p, .int .i64 q] w fun e w' => e = .returned (.int .i64 (manN o c p q f n)) ∧ Below w.heap.size w w' := by
  go_enter Tryd.func32, Tryd.ntmps32
  go_upto_region 3 with (fail)
  go_loopw [11, 12] (fun v u wr => ∃ (i : Nat), u = .int .i64 i ∧ v = .int .i64 (manN o c p q f i) ∧ i ≤ n ∧ Steps wr V n f ∧ Below w.heap.size w wr) (fun _ u _ => n - (intOf u).toNat)
  case atStart => exact ⟨0, rfl, rfl, Nat.zero_le _, hV, Below.refl _ _⟩
  case round =>
    clear hV
    obtain ⟨i, rfl, rfl, hi, hV, hal⟩ := hrel
    by_cases hlt : i < n
    case neg =>
      obtain rfl : i = n := by omega
      have hl1 : ¬ ((i : Int) < i) := by omega
      go_wp2
      go_ret
      exact ⟨rfl, hal⟩
    have hl0 : (0 : Int) ≤ i := by omega
    have hl1 : (i : Int) < n := by omega
    have hmn := man_nn o c p q f i
    obtain ⟨h, hh⟩ : ∃ h, Hid (h = manN o c p q f i) := ⟨_, rfl⟩
    rw [← hh.out] at hmn
    rw [← hh.out]
    obtain ⟨hm0, hm1⟩ := hmn
    obtain ⟨bV, oV, rfl⟩ := stp_ptr hV (by omega)
    go_upto_region 5 with (fail)
    refine wp_region_lit ?_
    iterate 2
      refine wl_val rfl ?_ ?_ ?_
      rotate_left
      · go_simp; try with_reducible rfl
      intro K hK
      go_simp
      refine hK _ _ ?_
      clear hK K
    refine wl_val rfl (.pointer (some ⟨bV, oV + i * 7, none⟩)) ?_ ?_
    · go_simp
    intro K hK
    go_simp
    refine hK _ _ ?_
    clear hK K
    refine wl_val rfl (.pointer (some ⟨bV, oV + i * 7, none⟩)) ?_ ?_
    · go_simp
    intro K hK
    go_simp
    refine hK _ _ ?_
    clear hK K
    refine wl_val rfl (akV (f i).x) (run_ldstp (.tmp 23) rfl bV oV i hV hlt rfl) ?_
    intro K hK
    go_simp
    refine hK _ _ ?_
    clear hK K
    refine wl_alloc rfl 35 rfl (.agg #[.int .i64 0, .int .i64 0, .int .i64 0, .int .i64 0, .int .u32 0, .int .u32 0]) #[.int .i64 0, .int .i64 0, .int .i64 0, .int .i64 0, .int .u32 0, .int .u32 0] (fun w => by kernel_rfl) rfl (fun w4 b13 X4 l4 f4 => ?_)
    intro K hK
    go_simp
    refine hK _ _ ?_
    clear hK K
    refine wl_store rfl 35 (.tmp 13) (.tmp 24) rfl b13 (akC (f i).x) rfl rfl 35 _ X4 (by kernel_rfl) rfl (by simp [akC, Value.oneCell']) (fun w5 g1 g2 g3 g4 => ?_)
    intro K hK
    go_simp
    refine hK _ _ ?_
    clear hK K
    have hb5 : Below wr.heap.size wr w5 := l4.trans (g3 _ (by simp only [Hid] at f4; omega))
    clear X4 l4 f4 g2 g3 g4
    replace hal := hal.trans (hb5.mono hal.size)
    replace hV := hV.below hb5
    obtain ⟨-, -, -, -, -, -, c6⟩ := at_stp hV hlt
    obtain ⟨s, hs⟩ : ∃ s, Hid (s = f i) := ⟨_, rfl⟩
    rw [← hs.out] at c6 g1
    obtain ⟨⟨x0, x1, x2, x3, x4, x5⟩, r⟩ := s
    unfold akC at g1
    simp only at c6 g1
    have y0 := cell_of_row w5 b13 0 _ 35 _ g1
    have y1 := cell_of_row w5 b13 1 _ 35 _ g1
    have y2 := cell_of_row w5 b13 2 _ 35 _ g1
    have y3 := cell_of_row w5 b13 3 _ 35 _ g1
    clear g1
    by_cases e1 : x1 = o
    · replace e1 := e1.symm
      subst e1
      by_cases e2 : x2 = c
      · replace e2 := e2.symm
        subst e2
        by_cases e3 : x3 = p
        · replace e3 := e3.symm
          subst e3
          by_cases e4 : r = 0
          · subst e4
            by_cases q0 : q < 0
            · have b0 : (decide (q < 0)) = true := by simp [q0]
              have hn : Hid ((h + 1) = manN o c p q f (i + 1)) := by
                show _ = man1 o c p q (manN o c p q f i) (f i)
                rw [← hs.out, ← hh.out]; unfold man1 manC; simp [q0]
              clear hs hh
              go_wp2
              go_roundw
              case rel => exact ⟨i + 1, by go_num, by rw [hn.out], by omega, hV, hal⟩
              case measure => simp [intOf]; omega
            · have b0 : (decide (q < 0)) = false := by simp [q0]
              by_cases w0 : x0 = q
              · replace w0 := w0.symm
                subst w0
                have hn : Hid ((h + 1) = manN o c p q f (i + 1)) := by
                  show _ = man1 o c p q (manN o c p q f i) (f i)
                  rw [← hs.out, ← hh.out]; unfold man1 manC; simp [q0]
                clear hs hh
                go_wp2
                go_roundw
                case rel => exact ⟨i + 1, by go_num, by rw [hn.out], by omega, hV, hal⟩
                case measure => simp [intOf]; omega
              · have bw : (x0 == q) = false := by simp [w0]
                have hn : Hid (h = manN o c p q f (i + 1)) := by
                  show _ = man1 o c p q (manN o c p q f i) (f i)
                  rw [← hs.out, ← hh.out]; unfold man1 manC; simp [q0, w0]
                clear hs hh
                go_wp2
                go_roundw
                case rel => exact ⟨i + 1, by go_num, by rw [hn.out], by omega, hV, hal⟩
                case measure => simp [intOf]; omega
          · have f4 : (r == 0) = false := by simp [e4]
            have hn : Hid (h = manN o c p q f (i + 1)) := by
              show _ = man1 o c p q (manN o c p q f i) (f i)
              rw [← hs.out, ← hh.out]; unfold man1 manC; simp [e4]
            clear hs hh
            go_wp2
            go_roundw
            case rel => exact ⟨i + 1, by go_num, by rw [hn.out], by omega, hV, hal⟩
            case measure => simp [intOf]; omega
        · have f3 : (x3 == p) = false := by simp [e3]
          have hn : Hid (h = manN o c p q f (i + 1)) := by
            show _ = man1 o c p q (manN o c p q f i) (f i)
            rw [← hs.out, ← hh.out]; unfold man1 manC; simp [e3]
          clear hs hh
          go_wp2
          go_roundw
          case rel => exact ⟨i + 1, by go_num, by rw [hn.out], by omega, hV, hal⟩
          case measure => simp [intOf]; omega
      · have f2 : (x2 == c) = false := by simp [e2]
        have hn : Hid (h = manN o c p q f (i + 1)) := by
          show _ = man1 o c p q (manN o c p q f i) (f i)
          rw [← hs.out, ← hh.out]; unfold man1 manC; simp [e2]
        clear hs hh
        go_wp2
        go_roundw
        case rel => exact ⟨i + 1, by go_num, by rw [hn.out], by omega, hV, hal⟩
        case measure => simp [intOf]; omega
    · have f1 : (x1 == o) = false := by simp [e1]
      have hn : Hid (h = manN o c p q f (i + 1)) := by
        show _ = man1 o c p q (manN o c p q f i) (f i)
        rw [← hs.out, ← hh.out]; unfold man1 manC; simp [e1]
      clear hs hh
      go_wp2
      go_roundw
      case rel => exact ⟨i + 1, by go_num, by rw [hn.out], by omega, hV, hal⟩
      case measure => simp [intOf]; omega
set_option maxRecDepth 100000 in
set_option maxHeartbeats 16000000 in
theorem dataC (V : Option Addr) (n cn : Nat) (f : Nat → Stp) (hnn : n ≤ 4000) (o : Int) (k : Nat) (hk : k ≤ 3) (hput : ∀ j, j < n → (f j).x.obj = o → (f j).x.call = 4 → (f j).r = 0 → 0 ≤ (f j).x.arg ∧ (f j).x.arg < k) (w : World) (hV : Steps w V n f) : Calls Tryd.prog 33 #[.slice V n cn, .int .i64 o, .int .i64 k] w fun e w' => SlD w w' k (datN o f n) e ∧ Below w.heap.size w w' := by
  go_enter Tryd.func33, Tryd.ntmps33
  go_upto_region 3 with (fail)
  go_loopw [7, 8] (fun v u wr => ∃ (i : Nat), u = .int .i64 i ∧ v = .int .i64 ((lasN o f i : Int) - 1) ∧ i ≤ n ∧ wr = w) (fun _ u _ => n - (intOf u).toNat)
  case atStart => exact ⟨0, rfl, rfl, Nat.zero_le _, rfl⟩
  case round =>
    obtain ⟨i, rfl, rfl, hi, rfl⟩ := hrel
    have hll := las_le o f i
    by_cases hlt : i < n
    case neg =>
      obtain rfl : i = n := by omega
      have hl1 : ¬ ((i : Int) < i) := by omega
      obtain ⟨l, hl⟩ : ∃ l, Hid (l = lasN o f i) := ⟨_, rfl⟩
      rw [← hl.out] at hll
      rw [← hl.out]
      clear hlt
      go_upto_region 7 with (fail)
      refine wp_region_lit ?_
      iterate 1
        refine wl_val rfl ?_ ?_ ?_
        rotate_left
        · go_simp; try with_reducible rfl
        intro K hK
        go_simp
        refine hK _ _ ?_
        clear hK K
      refine wl_mku rfl (.tmp 43) (.tmp 43) rfl k (by omega) rfl rfl (fun w2 r hr hb2 fr => ?_)
      intro K hK
      go_simp
      refine hK _ _ ?_
      clear hK K
      iterate 1
        refine wl_val rfl ?_ ?_ ?_
        rotate_left
        · go_simp; try with_reducible rfl
        intro K hK
        go_simp
        refine hK _ _ ?_
        clear hK K
      have hal := hb2
      have hVr := hV.below hb2
      have hrs : wr.heap.size ≤ r := by simp only [Hid] at fr; omega
      clear fr
      go_upto_region 9 with (fail)
      go_loopw [10] (fun u wq => ∃ (j : Nat), u = .int .i64 j ∧ (j : Int) ≤ (if l = 0 then 0 else (l : Int) - 1) ∧ wq.heap[r]? = some (.cells (urow k (putN o f j)) 32 (0, 0)) ∧ Steps wq V i f ∧ Below wr.heap.size wr wq) (fun u _ => l - (intOf u).toNat)
      case atStart => exact ⟨0, rfl, by split <;> omega, hr, hVr, hal⟩
      case round =>
        clear hr hVr hal hb2
        obtain ⟨j, rfl, hj, hr, hVr, hal⟩ := hrel
        by_cases hjl : (j : Int) < (l : Int) - 1
        case neg =>
          have hjj : j = l - 1 := by split at hj <;> omega
          go_wp2
          go_ret
          exact ⟨⟨_, _, rfl, fun q hq => ⟨r, rfl, blk_lt hr, by unfold datN; rw [← hl.out, ← hjj]; exact (cell_of_row _ r q _ 32 _ hr).trans (urow_at _ _ _ hq)⟩, fun b e => by cases e; exact hrs⟩, hal⟩
        have hj0 : (0 : Int) ≤ j := by omega
        have hji : j < i := by omega
        have hj1 : (j : Int) < i := by omega
        have hp := hput j hji
        obtain ⟨bV, oV, rfl⟩ := stp_ptr hVr (by omega)
        have hbV : bV < wr.heap.size := by obtain ⟨b, off, e, h, _⟩ := hVr (by omega); cases e; exact h
        obtain ⟨c0, c1, c2, c3, c4, c5, c6⟩ := at_stp hVr hji
        obtain ⟨s, hs⟩ : ∃ s, Hid (s = f j) := ⟨_, rfl⟩
        rw [← hs.out] at c0 c1 c2 c3 c4 c5 c6 hp
        obtain ⟨⟨x0, x1, x2, x3, x4, x5⟩, r0⟩ := s
        simp only at c0 c1 c2 c3 c4 c5 c6 hp
        by_cases e1 : x1 = o
        · replace e1 := e1.symm
          subst e1
          by_cases e2 : x2 = 4
          · subst e2
            by_cases e4 : r0 = 0
            · subst e4
              obtain ⟨p0, p1⟩ := hp rfl rfl rfl
              obtain ⟨x4, rfl⟩ : ∃ a : Nat, x4 = a := ⟨x4.toNat, by omega⟩
              have p2 : x4 < k := by omega
              clear hp
              go_upto_region 12 with (fail)
              refine quiet_tail 14 (fun w' => Below wr.heap.size wr w') (by kernel_rfl) (by kernel_rfl) (Below.drew (Below.refl _ _)) ?_
              simp only [List.take_succ_cons, List.take_zero, List.drop_succ_cons, List.drop_zero]
              refine q_run rfl (fun K hK => ?_)
              refine q_value ?_ (fun w' h' => ?_) ?_
              rotate_left
              · go_simp; try with_reducible rfl
              go_simp
              refine hK _ ?_
              clear hK K
              refine q_run rfl (fun K hK => ?_)
              refine q_value ?_ (fun w' h' => ?_) ?_
              rotate_left
              · go_simp; try with_reducible rfl
              go_simp
              refine hK _ ?_
              clear hK K
              refine q_run rfl (fun K hK => ?_)
              refine q_value ?_ (fun w' h' => ?_) ?_
              rotate_left
              · go_simp; try with_reducible rfl
              go_simp
              refine hK _ ?_
              clear hK K
              refine q_run rfl (fun K hK => ?_)
              refine q_value ?_ (fun w' h' => ?_) ?_
              rotate_left
              · go_simp; try with_reducible rfl
              go_simp
              refine hK _ ?_
              clear hK K
              refine q_run rfl (fun K hK => ?_)
              refine q_value ?_ (fun w' h' => ?_) ?_
              rotate_left
              · go_simp; try with_reducible rfl
              go_simp
              refine hK _ ?_
              clear hK K
              refine q_run rfl (fun K hK => ?_)
              refine q_value ?_ (fun w' h' => ?_) ?_
              rotate_left
              · go_simp; try with_reducible rfl
              go_simp
              refine hK _ ?_
              clear hK K
              refine q_run rfl (fun K hK => ?_)
              refine q_value ?_ (fun w' h' => ?_) ?_
              rotate_left
              · have c := (h'.cell (p := ⟨bV, oV + j * 7 + 4, none⟩) hbV).trans c4; go_simp; try with_reducible rfl
              go_simp
              refine hK _ ?_
              clear hK K
              refine q_run rfl (fun K hK => ?_)
              refine q_value ?_ (fun w' h' => ?_) ?_
              rotate_left
              · go_simp; try with_reducible rfl
              go_simp
              refine hK _ ?_
              clear hK K
              refine q_run rfl (fun K hK => ?_)
              refine q_value ?_ (fun w' h' => ?_) ?_
              rotate_left
              · go_simp; try with_reducible rfl
              go_simp
              refine hK _ ?_
              clear hK K
              refine q_run rfl (fun K hK => ?_)
              refine q_value ?_ (fun w' h' => ?_) ?_
              rotate_left
              · go_simp; try with_reducible rfl
              go_simp
              refine hK _ ?_
              clear hK K
              refine q_run rfl (fun K hK => ?_)
              refine q_value ?_ (fun w' h' => ?_) ?_
              rotate_left
              · go_simp; try with_reducible rfl
              go_simp
              refine hK _ ?_
              clear hK K
              refine q_run rfl (fun K hK => ?_)
              refine q_value ?_ (fun w' h' => ?_) ?_
              rotate_left
              · go_simp; try with_reducible rfl
              go_simp
              refine hK _ ?_
              clear hK K
              refine q_run rfl (fun K hK => ?_)
              refine q_value ?_ (fun w' h' => ?_) ?_
              rotate_left
              · have c := (h'.cell (p := ⟨bV, oV + j * 7 + 5, none⟩) hbV).trans c5; go_simp; try with_reducible rfl
              go_simp
              refine hK _ ?_
              clear hK K
              refine q_run rfl (fun K hK => ?_)
              refine q_value ?_ (fun w' h' => ?_) ?_
              rotate_left
              · go_simp; try with_reducible rfl
              go_simp
              refine hK _ ?_
              clear hK K
              refine qd_nil ?_
              intro w6 h6
              refine wl_stu rfl (.tmp 88) (.tmp 87) rfl r x4 k x5 (putN o f j) rfl rfl (keep hr h6) p2 (fun w7 g1 g2 => ?_)
              intro K hK
              go_simp
              refine hK _ _ ?_
              clear hK K
              have hn : (fun y => if y = x4 then x5 else putN o f j y) = putN o f (j + 1) := by
                show _ = put1 o (putN o f j) (f j)
                rw [← hs.out]; unfold put1; simp; rfl
              rw [hn] at g1
              replace hal := (hal.trans (h6.mono hal.size)).trans (g2 _ hrs)
              have hV7 : Steps w7 (some ⟨bV, oV, none⟩) i f := hV.below hal
              clear hn hs
              go_wp2
              go_roundw
              case rel => exact ⟨j + 1, by go_num, by split <;> omega, g1, hV7, hal⟩
              case measure => simp [intOf]; omega
            · have f4 : (r0 == 0) = false := by simp [e4]
              have hn : putN o f j = putN o f (j + 1) := by
                show _ = put1 o (putN o f j) (f j)
                rw [← hs.out]; unfold put1; simp [e4]
              rw [hn] at hr
              clear hn hs
              go_wp2
              go_roundw
              case rel => exact ⟨j + 1, by go_num, by split <;> omega, hr, hVr, hal⟩
              case measure => simp [intOf]; omega
          · have f2 : (x2 == 4) = false := by simp [e2]
            have hn : putN o f j = putN o f (j + 1) := by
              show _ = put1 o (putN o f j) (f j)
              rw [← hs.out]; unfold put1; simp [e2]
            rw [hn] at hr
            clear hn hs
            go_wp2
            go_roundw
            case rel => exact ⟨j + 1, by go_num, by split <;> omega, hr, hVr, hal⟩
            case measure => simp [intOf]; omega
        · have f1 : (x1 == o) = false := by simp [e1]
          have hn : putN o f j = putN o f (j + 1) := by
            show _ = put1 o (putN o f j) (f j)
            rw [← hs.out]; unfold put1; simp [e1]
          rw [hn] at hr
          clear hn hs
          go_wp2
          go_roundw
          case rel => exact ⟨j + 1, by go_num, by split <;> omega, hr, hVr, hal⟩
          case measure => simp [intOf]; omega
    have hl0 : (0 : Int) ≤ i := by omega
    have hl1 : (i : Int) < n := by omega
    obtain ⟨h, hh⟩ : ∃ h, Hid (h = lasN o f i) := ⟨_, rfl⟩
    rw [← hh.out] at hll
    rw [← hh.out]
    obtain ⟨bV, oV, rfl⟩ := stp_ptr hV (by omega)
    obtain ⟨c0, c1, c2, c3, c4, c5, c6⟩ := at_stp hV hlt
    obtain ⟨s, hs⟩ : ∃ s, Hid (s = f i) := ⟨_, rfl⟩
    rw [← hs.out] at c0 c1 c2 c3 c4 c5 c6
    obtain ⟨⟨x0, x1, x2, x3, x4, x5⟩, r⟩ := s
    simp only at c0 c1 c2 c3 c4 c5 c6
    by_cases e1 : x1 = o
    · replace e1 := e1.symm
      subst e1
      by_cases e2 : x2 = 2
      · subst e2
        by_cases e4 : r = 0
        · subst e4
          have hn : Hid ((i : Int) = (lasN o f (i + 1) : Int) - 1) := by
            show _ = (lasN o f (i + 1) : Int) - 1
            rw [las_succ, ← hs.out, ← hh.out]; simp []
          clear hs hh
          go_wp2
          go_roundw
          case rel => exact ⟨i + 1, by go_num, by rw [hn.out], by omega, by first | rfl | trivial⟩
          case measure => simp [intOf]; omega
        · have f4 : (r == 0) = false := by simp [e4]
          have hn : Hid (((h : Int) - 1) = (lasN o f (i + 1) : Int) - 1) := by
            show _ = (lasN o f (i + 1) : Int) - 1
            rw [las_succ, ← hs.out, ← hh.out]; simp [e4]
          clear hs hh
          go_wp2
          go_roundw
          case rel => exact ⟨i + 1, by go_num, by rw [hn.out], by omega, by first | rfl | trivial⟩
          case measure => simp [intOf]; omega
      · have f2 : (x2 == 2) = false := by simp [e2]
        have hn : Hid (((h : Int) - 1) = (lasN o f (i + 1) : Int) - 1) := by
          show _ = (lasN o f (i + 1) : Int) - 1
          rw [las_succ, ← hs.out, ← hh.out]; simp [e2]
        clear hs hh
        go_wp2
        go_roundw
        case rel => exact ⟨i + 1, by go_num, by rw [hn.out], by omega, by first | rfl | trivial⟩
        case measure => simp [intOf]; omega
    · have f1 : (x1 == o) = false := by simp [e1]
      have hn : Hid (((h : Int) - 1) = (lasN o f (i + 1) : Int) - 1) := by
        show _ = (lasN o f (i + 1) : Int) - 1
        rw [las_succ, ← hs.out, ← hh.out]; simp [e1]
      clear hs hh
      go_wp2
      go_roundw
      case rel => exact ⟨i + 1, by go_num, by rw [hn.out], by omega, by first | rfl | trivial⟩
      case measure => simp [intOf]; omega
end Go.Proofs.YtobkonbpcnmgpaaDoor
