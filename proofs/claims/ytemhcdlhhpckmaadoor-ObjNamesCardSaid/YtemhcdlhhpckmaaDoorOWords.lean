/- Rows of words: made, stored into, appended to. -/
import Derived.Test.YtemhcdlhhpckmaaDoorORight
import Derived.Maps.AppendAt
import Derived.Carry
namespace Go.Proofs.YtemhcdlhhpckmaaDoor
open Go.RowKit
set_option linter.unusedVariables false
set_option linter.unusedSimpArgs false
def urow (n : Nat) (p : Nat → Int) : Array Value := ((List.range n).map fun x => Value.int .u32 (p x)).toArray
theorem urow_size (n : Nat) (p : Nat → Int) : (urow n p).size = n := by simp [urow]
theorem urow_at (n : Nat) (p : Nat → Int) (x : Nat) (h : x < n) : (urow n p)[x]? = some (.int .u32 (p x)) := by simp [urow, h]
theorem urow_get (n : Nat) (p : Nat → Int) (x : Nat) : (urow n p)[x]? = if x < n then some (.int .u32 (p x)) else none := by
  by_cases h : x < n
  · rw [if_pos h]; exact urow_at n p x h
  · rw [if_neg h]; simp [urow, h]
theorem urow_set (n : Nat) (p : Nat → Int) (x : Nat) (b : Int) : (urow n p).setIfInBounds x (.int .u32 b) = urow n (fun y => if y = x then b else p y) := by
  apply Array.ext_getElem?
  intro i
  rw [Array.getElem?_setIfInBounds, urow_get, urow_get, urow_size]
  by_cases e : x = i
  · subst e; by_cases h : x < n <;> simp [h]
  · have e' : i ≠ x := fun h => e h.symm
    rw [if_neg e, if_neg e']
theorem urow_made (n : Nat) : madeCells #[.int .u32 0] n = urow n (fun _ => 0) := by
  apply Array.ext (by simp [urow, madeCells])
  intro i h1 h2
  simp [urow, madeCells, Nat.mod_one]
/-- words, as they are handed on -/
def Wd (w : World) (V : Option Addr) (n : Nat) (p : Nat → Int) : Prop :=
  0 < n → ∃ b off, V = some ⟨b, off, none⟩ ∧ b < w.heap.size ∧ ∀ i, i < n → w.cell? ⟨b, off + i, none⟩ = some (.int .u32 (p i))
theorem Wd.below {w w' : World} {V : Option Addr} {n : Nat} {p : Nat → Int} (h : Wd w V n p) (hb : Below w.heap.size w w') : Wd w' V n p := fun hn => by
  obtain ⟨b, off, e, hlt, hc⟩ := h hn
  exact ⟨b, off, e, Nat.lt_of_lt_of_le hlt hb.size, fun i hi => (hb.cell (p := ⟨b, off + i, none⟩) hlt).trans (hc i hi)⟩
theorem Wd.congr {w : World} {V : Option Addr} {n : Nat} {p q : Nat → Int} (h : Wd w V n p) (e : ∀ i, i < n → p i = q i) : Wd w V n q := fun hn => by
  obtain ⟨b, off, e1, hlt, hc⟩ := h hn
  exact ⟨b, off, e1, hlt, fun i hi => by rw [← e i hi]; exact hc i hi⟩
theorem Wd.row {w : World} {b n : Nat} {p : Nat → Int} (h : w.heap[b]? = some (.cells (urow n p) 45 (0, 0))) : Wd w (some ⟨b, 0, none⟩) n p := fun _ => ⟨b, 0, rfl, blk_lt h, fun i hi => (cell_of_row w b (0 + i) _ 45 _ h).trans (by rw [Nat.zero_add]; exact urow_at _ _ _ hi)⟩
theorem add_off (b off j : Nat) : (⟨b, off, none⟩ : Addr).add j = ⟨b, off + j, none⟩ := by unfold Addr.add; split <;> simp_all
def OwnU (w : World) (bs : Nat) (v : Value) (l : List Int) : Prop := w.ownsRow bs 45 1 v l.length (l.map (Value.int .u32))
def pt (l : List Int) (i : Nat) : Int := l.getD i 0
theorem ownU_wd {w : World} {bs : Nat} {v : Value} {l : List Int} {n : Nat} (h : OwnU w bs v l) (hn : l.length = n) : ∃ V c, v = .slice V n c ∧ Wd w V n (pt l) := by
  subst hn
  rcases h.2 with ⟨rfl, h0⟩ | ⟨g, cap, cur, rfl, _, h4, h5, h6, h7, h8⟩
  · exact ⟨none, 0, by rw [h0], fun hn => absurd hn (by omega)⟩
  · refine ⟨_, _, rfl, fun _ => ⟨g, 0, rfl, blk_lt h4, fun i hi => ?_⟩⟩
    have e : (l.map (Value.int .u32))[i]? = some (.int .u32 (pt l i)) := by simp [pt, hi]
    rw [cell_of_row w g _ cur 45 _ h4, Nat.zero_add]
    rw [← h8, List.getElem?_take, if_pos (by omega), Array.getElem?_toList] at e
    exact e
theorem ownU_keep {w w' : World} {bs : Nat} {v : Value} {l : List Int} (h : OwnU w bs v l) (hb : Below w.heap.size w w') : OwnU w' bs v l := by
  refine ⟨h.1, ?_⟩
  rcases h.2 with h2 | ⟨g, cap, cur, rfl, h3, h4, r⟩
  · exact .inl h2
  · exact .inr ⟨g, cap, cur, rfl, h3, keep h4 hb, r⟩
theorem ownU_lt {w : World} {bs : Nat} {v : Value} {l : List Int} (h : OwnU w bs v l) : ∀ k, v.ownBlock = some k → bs ≤ k := fun k e => (World.ownsRow.lt h k e).1
theorem infoU : (Tryd.prog.info? 45).map (fun i => (i.zero, i.size, i.bytes)) = some (some (.int .u32 0), 1, 4) := by kernel_rfl
theorem run_bu (w : World) (z : Int) : (Instr.buildSlice 33 1 #[(0, .int .u32 z)]).run Tryd.prog w = .ok (.slice (some ⟨w.heap.size, 0, none⟩) 1 1) (w.alloc (.cells #[.int .u32 z] 45)) := by
  kernel_rfl
section
variable {ops : Array Oper} {Q : Exit → Act → World → Prop}
theorem wl_val {P : Program} {rest : List Oper} {o : Oper} {a : Act} {w : World} (hgd : o.guard = none) (v : Value) (h : (execOp a.eval o).run P w = .ok (.value v) w) (hK : ∀ K : Act → World → Prop, (∀ a w, wpList P ops Q rest a w → K a w) → K (a.put o.dst v) w) : wpList P ops Q (o :: rest) a w := by
  refine wpList_plain hgd fun K hK' => ?_
  unfold Oper.wp
  rw [h]
  exact hK K hK'
theorem wl_mku {rest : List Oper} {o : Oper} {a : Act} {w : World} (hgd : o.guard = none) (x y : Operand) (ho : o.op = .makeSlice 33 x y) (n : Nat) (hn : n ≤ 4000) (hx : a.eval x = .int .i64 n) (hy : a.eval y = .int .i64 n)
    (h : ∀ (w' : World) (r : Nat), w'.heap[r]? = some (.cells (urow n fun _ => 0) 45 (0, 0)) → Below w.heap.size w w' → Hid (r = w.heap.size) → ∀ K : Act → World → Prop, (∀ a w, wpList Tryd.prog ops Q rest a w → K a w) → K (a.put o.dst (.slice (some ⟨r, 0, none⟩) n n)) w') : wpList Tryd.prog ops Q (o :: rest) a w := by
  refine wpList_plain hgd fun K hK => ?_
  obtain ⟨i0, hi0, hz0, hz1, hz2⟩ := info_parts infoU
  have hr := run_make (P := Tryd.prog) w 33 45 i0 (.int .u32 0) Tryd.underlying33 hi0 hz0 .i64 .i64 (n : Int) (n : Int) (by omega) (Int.le_refl _) (by rw [hz2]; omega) (by omega)
  have e : (Value.int .u32 0).cells = #[.int .u32 0] := rfl
  rw [hz1, e, Nat.mul_one, Int.toNat_natCast, urow_made] at hr
  unfold Oper.wp execOp
  simp only [ho, hx, hy, Sem.run_bind, hr, Result.andThen_ok]
  exact h _ _ (heap_alloc_new w _) ((Below.refl _ _).alloc (Nat.le_refl _) _) rfl K hK
theorem wl_stu {rest : List Oper} {o : Oper} {a : Act} {w : World} (hgd : o.guard = none) (x y : Operand) (ho : o.op = .store 45 x y) (r j n : Nat) (z : Int) (p : Nat → Int) (hx : a.eval x = .pointer (some ⟨r, j, none⟩)) (hy : a.eval y = .int .u32 z) (hb : w.heap[r]? = some (.cells (urow n p) 45 (0, 0))) (hj : j < n)
    (h : ∀ w' : World, w'.heap[r]? = some (.cells (urow n fun y => if y = j then z else p y) 45 (0, 0)) → (∀ B, B ≤ r → Below B w w') → ∀ K : Act → World → Prop, (∀ a w, wpList Tryd.prog ops Q rest a w → K a w) → K (a.put o.dst undef) w') : wpList Tryd.prog ops Q (o :: rest) a w := by
  refine wpList_plain hgd fun K hK => ?_
  have hc : w.cell? ⟨r, j, none⟩ = some (.int .u32 (p j)) := (cell_of_row w r j _ 45 _ hb).trans (urow_at _ _ _ hj)
  have hf := frozen_of_row w r j _ 45 hb
  have hsz := Tryd.sizeOf45
  have hst : (store ⟨r, j, none⟩ (.int .u32 z)).run Tryd.prog w = .ok () (w.setCell ⟨r, j, none⟩ (.int .u32 z)) := by simp [go_sem, stored, hc, hf]
  have hsv : (storeVar 45 ⟨r, j, none⟩ (.int .u32 z)).run Tryd.prog w = .ok () (w.setCell ⟨r, j, none⟩ (.int .u32 z)) := by
    unfold storeVar
    have hv : (Value.int .u32 z).cells = #[.int .u32 z] := rfl
    simp only [Sem.run_bind, hsz, hv, Result.andThen_ok]
    simp [storeCells, add_off, hst]
  unfold Oper.wp execOp
  simp only [ho, hx, hy, Instr.storeAt, Instr.sureAddr, Sem.run_bind, Sem.run_pure, Result.andThen_ok]
  rw [hsv]
  refine h _ ?_ (fun B hB => (Below.refl _ _).setCell hB _) K hK
  rw [← urow_set]; exact heap_setCell_same w r j _ 45 _ hb
theorem wl_bu {rest : List Oper} {o : Oper} {a : Act} {w : World} (hgd : o.guard = none) (y : Operand) (ho : o.op = .buildSlice 33 1 #[(0, y)]) (z : Int) (hx : a.eval y = .int .u32 z)
    (h : ∀ (w' : World) (b : Nat), w'.heap[b]? = some (.cells #[.int .u32 z] 45 (0, 0)) → Below w.heap.size w w' → ∀ K : Act → World → Prop, (∀ a w, wpList Tryd.prog ops Q rest a w → K a w) → K (a.put o.dst (.slice (some ⟨b, 0, none⟩) 1 1)) w') : wpList Tryd.prog ops Q (o :: rest) a w := by
  refine wpList_plain hgd fun K hK => ?_
  unfold Oper.wp execOp
  have hr := run_bu w z
  simp only [ho, List.map_toArray, List.map_cons, List.map_nil, hx, Sem.run_bind, hr, Result.andThen_ok]
  exact h _ _ (heap_alloc_new w _) ((Below.refl _ _).alloc (Nat.le_refl _) _) K hK
theorem wl_apu {rest : List Oper} {o : Oper} {a : Act} {w : World} (hgd : o.guard = none) (s x : Operand) (ho : o.op = .call { callee := .builtin .append, args := #[s, x], argTypes := #[33, 33] })
    (bs : Nat) (v : Value) (l : List Int) (hs : a.eval s = v) (hown : OwnU w bs v l) (b : Nat) (z : Int) (hx : a.eval x = .slice (some ⟨b, 0, none⟩) 1 1) (hb : w.heap[b]? = some (.cells #[.int .u32 z] 45 (0, 0))) (hn : l.length ≤ 4000) (hbs : bs ≤ w.heap.size)
    (h : ∀ v' w', OwnU w' bs v' (l ++ [z]) → w.grownBy w' v.ownBlock → ∀ K : Act → World → Prop, (∀ a w, wpList Tryd.prog ops Q rest a w → K a w) → K (a.put o.dst v') w') : wpList Tryd.prog ops Q (o :: rest) a w := by
  refine wpList_plain hgd fun K hK => ?_
  obtain ⟨i0, hi0, hz0, hz1, hz2⟩ := info_parts infoU
  obtain ⟨v', w', hrun, h2, h3, _, _⟩ := run_append_own_at (P := Tryd.prog) w bs 33 o.type 45 i0 (.int .u32 0) 1 4 Tryd.underlying33 hi0 hz0 hz1 hz2 rfl (by omega) v l.length _ hown ⟨b, 0, none⟩ 1 1 [.int .u32 z] rfl
    (fun j u hu => by
      rw [add_off, Nat.zero_add, cell_of_row w b j _ _ _ hb, ← Array.getElem?_toList]; exact hu)
    (fun u hu => by simp at hu; subst hu; rfl) (by simp only [maxLen]; omega) (by omega) hbs
  unfold Oper.wp execOp
  simp only [ho, resolve, invoke, builtin, Sem.run_bind, Sem.run_pure, Result.andThen_ok, List.map_toArray, List.map_cons, List.map_nil, hs, hx, hrun]
  refine h v' w' ?_ h3 K hK
  unfold OwnU
  rw [List.map_append, List.length_append]; exact h2
end
/-- the words of two rows, compared -/
theorem same (V W : Option Addr) (n cv cw : Nat) (hn : n ≤ 4000) (p : Nat → Int) (w : World) (hV : Wd w V n p) (hW : Wd w W n p) : Calls Tryd.prog 17 #[.slice V n cv, .slice W n cw] w fun e w' => e = .returned (.bool true) ∧ Below w.heap.size w w' := by
  go_enter Tryd.func17, Tryd.ntmps17
  have hnn : ((n : Int) != n) = false := by simp
  go_upto_region 4 with (fail)
  go_loopw [5] (fun i wr => ∃ k : Nat, k ≤ n ∧ i = .int .i64 k ∧ Below w.heap.size w wr) (fun i _ => n - (intOf i).toNat)
  case atStart => exact ⟨0, by omega, rfl, Below.refl _ _⟩
  case round =>
    obtain ⟨k, hk, rfl, hb⟩ := hrel
    by_cases hlt : k < n
    · have hl : (k : Int) < n := by omega
      have hl0 : (0 : Int) ≤ k := by omega
      obtain ⟨b, off, rfl, hbl, hc⟩ := hV (by omega)
      obtain ⟨b', off', rfl, hbl', hc'⟩ := hW (by omega)
      have c1 := (hb.cell (p := ⟨b, off + k, none⟩) hbl).trans (hc k hlt)
      have c2 := (hb.cell (p := ⟨b', off' + k, none⟩) hbl').trans (hc' k hlt)
      have hpp : (p k != p k) = false := by simp
      go_upto_region 6 with (fail)
      refine quiet_all (fun w' => Below wr.heap.size wr w') (by kernel_rfl) (by kernel_rfl) (Below.drew (Below.refl _ _)) ?_
      refine q_run rfl (fun K hK => ?_)
      refine q_value ?_ (fun w' h' => ?_) ?_
      rotate_left
      · go_simp; try with_reducible rfl
      go_simp
      refine hK _ ?_
      clear hK K
      refine q_run rfl (fun K hK => ?_)
      refine q_value ?_ (fun w' h' => ?_) ?_
      rotate_left
      · go_simp; try with_reducible rfl
      go_simp
      refine hK _ ?_
      clear hK K
      refine q_run rfl (fun K hK => ?_)
      refine q_value ?_ (fun w' h' => ?_) ?_
      rotate_left
      · go_simp; try with_reducible rfl
      go_simp
      refine hK _ ?_
      clear hK K
      refine q_run rfl (fun K hK => ?_)
      refine q_value ?_ (fun w' h' => ?_) ?_
      rotate_left
      · have c := (h'.cell (p := ⟨b, off + k, none⟩) (Nat.lt_of_lt_of_le hbl hb.size)).trans c1; go_simp; try with_reducible rfl
      go_simp
      refine hK _ ?_
      clear hK K
      refine q_run rfl (fun K hK => ?_)
      refine q_value ?_ (fun w' h' => ?_) ?_
      rotate_left
      · go_simp; try with_reducible rfl
      go_simp
      refine hK _ ?_
      clear hK K
      refine q_run rfl (fun K hK => ?_)
      refine q_value ?_ (fun w' h' => ?_) ?_
      rotate_left
      · go_simp; try with_reducible rfl
      go_simp
      refine hK _ ?_
      clear hK K
      refine q_run rfl (fun K hK => ?_)
      refine q_value ?_ (fun w' h' => ?_) ?_
      rotate_left
      · go_simp; try with_reducible rfl
      go_simp
      refine hK _ ?_
      clear hK K
      refine q_run rfl (fun K hK => ?_)
      refine q_value ?_ (fun w' h' => ?_) ?_
      rotate_left
      · have c := (h'.cell (p := ⟨b', off' + k, none⟩) (Nat.lt_of_lt_of_le hbl' hb.size)).trans c2; go_simp; try with_reducible rfl
      go_simp
      refine hK _ ?_
      clear hK K
      refine q_run rfl (fun K hK => ?_)
      refine q_value ?_ (fun w' h' => ?_) ?_
      rotate_left
      · go_simp; try with_reducible rfl
      go_simp
      refine hK _ ?_
      clear hK K
      refine qd_nil ?_
      intro w7 h7
      replace hb := hb.trans (h7.mono hb.size)
      go_wp2_with (fail)
      go_roundw
      case rel => exact ⟨k + 1, by omega, by go_num, hb⟩
      case measure => simp [intOf]; omega
    · have hl : ¬ (k : Int) < n := by omega
      go_wp2
      go_ret
      exact ⟨rfl, hb⟩
end Go.Proofs.YtemhcdlhhpckmaaDoor
