/- The reference's table of what is known: the plain law of its rows, and the walk. -/
import Derived.Test.YtnchafbaipeagaaRefOf
namespace Go.Proofs.Ytnchafbaipeagaa
open Go.RowKit
set_option linter.unusedVariables false
set_option linter.unusedSimpArgs false
/-! ### rows, plainly -/
noncomputable def kn (f : Nat → Plain.A) (i k : Nat) : Bool := Plain.knownK f i k
theorem kn_iff {f : Nat → Plain.A} {i k : Nat} : kn f i k = true ↔ Plain.K f i k := Plain.knownK_true
open Classical in
noncomputable def rowf (f : Nat → Plain.A) (k i : Nat) (x : Nat) : Bool := decide (∃ j, j < i ∧ Plain.D f j k ∧ (j = x ∨ Plain.K f x j))
theorem rowf_iff {f : Nat → Plain.A} {k i x : Nat} : rowf f k i x = true ↔ ∃ j, j < i ∧ Plain.D f j k ∧ (j = x ∨ Plain.K f x j) := by simp [rowf]
theorem rowf_zero (f : Nat → Plain.A) (k : Nat) : rowf f k 0 = fun _ => false := by
  funext x; rw [Bool.eq_false_iff, Ne, rowf_iff]; rintro ⟨j, h, _⟩; omega
theorem rowf_skip {f : Nat → Plain.A} {k i : Nat} (h : ¬ Plain.D f i k) : rowf f k (i + 1) = rowf f k i := by
  funext x; rw [Bool.eq_iff_iff, rowf_iff, rowf_iff]
  constructor
  · rintro ⟨j, h1, h2, h3⟩
    have : j ≠ i := fun e => h (e ▸ h2)
    exact ⟨j, by omega, h2, h3⟩
  · rintro ⟨j, h1, h2, h3⟩; exact ⟨j, by omega, h2, h3⟩
theorem rowf_all (f : Nat → Plain.A) (k : Nat) : rowf f k k = fun x => kn f x k := by
  funext x; rw [Bool.eq_iff_iff, rowf_iff, kn_iff, Plain.K.iff]
noncomputable def rowm (f : Nat → Plain.A) (k i j : Nat) (x : Nat) : Bool := rowf f k i x || decide (x = i) || (decide (x < j) && kn f x i)
theorem rowm_zero (f : Nat → Plain.A) (k i : Nat) : (fun y => if y = i then true else rowf f k i y) = rowm f k i 0 := by
  funext y; unfold rowm; by_cases h : y = i <;> simp [h]
theorem rowm_step {f : Nat → Plain.A} {k i j : Nat} (h : j < i) (b : Bool) (hb : b = (rowm f k i j j || kn f j i)) : (fun y => if y = j then b else rowm f k i j y) = rowm f k i (j + 1) := by
  funext y
  subst hb
  unfold rowm
  by_cases e : y = j
  · subst e
    have : y ≠ i := by omega
    simp [this]
  · have e2 : (y < j + 1) = (y < j) := by simp; omega
    simp [e, e2]
theorem rowm_all {f : Nat → Plain.A} {k i : Nat} (h : Plain.D f i k) : rowm f k i i = rowf f k (i + 1) := by
  funext x
  rw [Bool.eq_iff_iff, rowf_iff]
  unfold rowm
  simp only [Bool.or_eq_true, Bool.and_eq_true, decide_eq_true_eq, rowf_iff, kn_iff]
  constructor
  · rintro ((⟨j, h1, h2, h3⟩ | h1) | ⟨h1, h2⟩)
    · exact ⟨j, by omega, h2, h3⟩
    · exact ⟨i, by omega, h, .inl h1.symm⟩
    · exact ⟨i, by omega, h, .inr h2⟩
  · rintro ⟨j, h1, h2, h3⟩
    by_cases e : j = i
    · subst e
      rcases h3 with h3 | h3
      · exact .inl (.inr h3.symm)
      · exact .inr ⟨h3.lt, h3⟩
    · exact .inl (.inl ⟨j, by omega, h2, h3⟩)
/-! ### rows in memory -/
def brow (n : Nat) (p : Nat → Bool) : Array Value := ((List.range n).map fun x => Value.bool (p x)).toArray
theorem brow_size (n : Nat) (p : Nat → Bool) : (brow n p).size = n := by simp [brow]
theorem brow_at (n : Nat) (p : Nat → Bool) (x : Nat) (h : x < n) : (brow n p)[x]? = some (.bool (p x)) := by simp [brow, h]
theorem brow_get (n : Nat) (p : Nat → Bool) (x : Nat) : (brow n p)[x]? = if x < n then some (.bool (p x)) else none := by
  by_cases h : x < n
  · rw [if_pos h]; exact brow_at n p x h
  · rw [if_neg h]; simp [brow, h]
theorem brow_set (n : Nat) (p : Nat → Bool) (x : Nat) (b : Bool) : (brow n p).setIfInBounds x (.bool b) = brow n (fun y => if y = x then b else p y) := by
  apply Array.ext_getElem?
  intro i
  rw [Array.getElem?_setIfInBounds, brow_get, brow_get, brow_size]
  by_cases e : x = i
  · subst e; by_cases h : x < n <;> simp [h]
  · have e' : i ≠ x := fun h => e h.symm
    rw [if_neg e, if_neg e']
theorem brow_made (n : Nat) : madeCells #[.bool false] n = brow n (fun _ => false) := by
  apply Array.ext (by simp [brow, madeCells])
  intro i h1 h2
  simp [brow, madeCells, Nat.mod_one]
theorem info4 : (Try.prog.info? 4).map (fun i => (i.zero, i.size, i.bytes)) = some (some (.bool false), 1, 1) := by kernel_rfl
theorem info39 : (Try.prog.info? 39).map (fun i => (i.zero, i.size, i.bytes)) = some (some (.slice none 0 0), 1, 24) := by kernel_rfl
def rowV (n r : Nat) : Value := .slice (some ⟨r, 0, none⟩) n n
theorem run_bsl (w : World) (n r : Nat) : (Instr.buildSlice 37 1 #[(0, rowV n r)]).run Try.prog w = .ok (.slice (some ⟨w.heap.size, 0, none⟩) 1 1) (w.alloc (.cells #[rowV n r] 39)) := by
  kernel_rfl
def Out (w : World) (bs : Nat) (v : Value) (k n : Nat) (R : Nat → Nat) (f : Nat → Plain.A) : Prop :=
  w.ownsRow bs 39 1 v k ((List.range k).map fun j => rowV n (R j)) ∧ ∀ j, j < k → bs ≤ R j ∧ w.heap[R j]? = some (.cells (brow n fun x => kn f x j) 4 (0, 0))
theorem Out.below {w w' : World} {bs : Nat} {v : Value} {k n : Nat} {R : Nat → Nat} {f : Nat → Plain.A} (h : Out w bs v k n R f) (hb : Below w.heap.size w w') : Out w' bs v k n R f := by
  refine ⟨⟨h.1.1, ?_⟩, fun j hj => ⟨(h.2 j hj).1, keep (h.2 j hj).2 hb⟩⟩
  rcases h.1.2 with h2 | ⟨g, cap, cur, rfl, h3, h4, r⟩
  · exact .inl h2
  · exact .inr ⟨g, cap, cur, rfl, h3, keep h4 hb, r⟩
theorem Out.lt {w : World} {bs : Nat} {v : Value} {k n : Nat} {R : Nat → Nat} {f : Nat → Plain.A} (h : Out w bs v k n R f) : ∀ g, v.ownBlock = some g → bs ≤ g := fun g e => (World.ownsRow.lt h.1 g e).1
theorem Out.ptr {w : World} {bs : Nat} {v : Value} {k n : Nat} {R : Nat → Nat} {f : Nat → Plain.A} (h : Out w bs v k n R f) (hk : 0 < k) :
    ∃ g cap, v = .slice (some ⟨g, 0, none⟩) k cap ∧ g < w.heap.size ∧ ∀ i, i < k → w.cell? ⟨g, i, none⟩ = some (rowV n (R i)) := by
  rcases h.1.2 with ⟨_, h0⟩ | ⟨g, cap, cur, rfl, _, h4, h5, h6, h7, h8⟩
  · omega
  · refine ⟨g, cap, rfl, blk_lt h4, fun i hi => ?_⟩
    have e : ((List.range k).map fun j => rowV n (R j))[i]? = some (rowV n (R i)) := by simp [hi]
    rw [cell_of_row w g _ cur 39 _ h4]
    rw [← h8, List.getElem?_take, if_pos (by omega), Array.getElem?_toList] at e
    exact e
theorem Out.ptr0 {w : World} {bs : Nat} {g k cap n : Nat} {R : Nat → Nat} {f : Nat → Plain.A} {v : Value} (h : Out w bs v k n R f) (i : Nat) (hi : i < k) (e : v = .slice (some ⟨g, 0, none⟩) k cap) : w.cell? ⟨g, i, none⟩ = some (rowV n (R i)) := by
  obtain ⟨g', cap', e', _, hc⟩ := h.ptr (by omega)
  rw [e] at e'
  injection e' with e'; injection e' with e'; injection e' with e'
  subst e'; exact hc i hi
theorem Out.val {w : World} {bs : Nat} {v : Value} {k n : Nat} {R : Nat → Nat} {f : Nat → Plain.A} (h : Out w bs v k n R f) : ∃ O c, v = .slice O k c := by
  rcases h.1.2 with ⟨rfl, rfl⟩ | ⟨g, cap, cur, rfl, _⟩ <;> exact ⟨_, _, rfl⟩
theorem Out.nil (w : World) (bs n : Nat) (f : Nat → Plain.A) : Out w bs (.slice none 0 0) 0 n (fun _ => 0) f := ⟨World.ownsRow_nil _ _ _ _, fun j hj => absurd hj (by omega)⟩
/-- the table, as it is handed on -/
def KRows (w : World) (O : Option Addr) (n : Nat) (f : Nat → Plain.A) : Prop :=
  0 < n → ∃ g, ∃ R : Nat → Nat, O = some ⟨g, 0, none⟩ ∧ g < w.heap.size ∧ ∀ k, k < n → w.cell? ⟨g, k, none⟩ = some (rowV n (R k)) ∧ R k < w.heap.size ∧ ∀ i, i < n → w.cell? ⟨R k, i, none⟩ = some (.bool (kn f i k))
theorem Out.rows {w : World} {bs : Nat} {O : Option Addr} {c n : Nat} {R : Nat → Nat} {f : Nat → Plain.A} (h : Out w bs (.slice O n c) n n R f) : KRows w O n f := fun hn => by
  obtain ⟨g, cap, e, hg, hc⟩ := h.ptr hn
  injection e with e
  exact ⟨g, R, e, hg, fun k hk => ⟨hc k hk, blk_lt (h.2 k hk).2, fun i hi => (cell_of_row w _ i _ 4 _ (h.2 k hk).2).trans (brow_at _ _ _ hi)⟩⟩
theorem KRows.below {w w' : World} {O : Option Addr} {n : Nat} {f : Nat → Plain.A} (h : KRows w O n f) (hb : Below w.heap.size w w') : KRows w' O n f := fun hn => by
  obtain ⟨g, R, e, hg, hc⟩ := h hn
  refine ⟨g, R, e, Nat.lt_of_lt_of_le hg hb.size, fun k hk => ?_⟩
  obtain ⟨c1, c2, c3⟩ := hc k hk
  refine ⟨(hb.cell (p := ⟨g, k, none⟩) hg).trans c1, Nat.lt_of_lt_of_le c2 hb.size, fun i hi => (hb.cell (p := ⟨R k, i, none⟩) c2).trans (c3 i hi)⟩
section
variable {ops : Array Oper} {Q : Exit → Act → World → Prop}
theorem wl_mkrow {rest : List Oper} {o : Oper} {a : Act} {w : World} (hgd : o.guard = none) (x y : Operand) (ho : o.op = .makeSlice 39 x y) (n : Nat) (hn : n ≤ 4000) (hx : a.eval x = .int .i64 n) (hy : a.eval y = .int .i64 n)
    (h : ∀ (w' : World) (r : Nat), w'.heap[r]? = some (.cells (brow n fun _ => false) 4 (0, 0)) → Below w.heap.size w w' → Hid (r = w.heap.size) → ∀ K : Act → World → Prop, (∀ a w, wpList Try.prog ops Q rest a w → K a w) → K (a.put o.dst (rowV n r)) w') : wpList Try.prog ops Q (o :: rest) a w := by
  refine wpList_plain hgd fun K hK => ?_
  obtain ⟨i0, hi0, hz0, hz1, hz2⟩ := info_parts info4
  have hr := run_make (P := Try.prog) w 39 4 i0 (.bool false) Try.underlying39 hi0 hz0 .i64 .i64 (n : Int) (n : Int) (by omega) (Int.le_refl _) (by rw [hz2]; omega) (by omega)
  have e : (Value.bool false).cells = #[.bool false] := rfl
  rw [hz1, e, Nat.mul_one, Int.toNat_natCast, brow_made] at hr
  unfold Oper.wp execOp
  simp only [ho, hx, hy, Sem.run_bind, hr, Result.andThen_ok]
  exact h _ _ (heap_alloc_new w _) ((Below.refl _ _).alloc (Nat.le_refl _) _) rfl K hK
theorem wl_stbool {rest : List Oper} {o : Oper} {a : Act} {w : World} (hgd : o.guard = none) (x y : Operand) (ho : o.op = .store 4 x y) (r j n : Nat) (b : Bool) (p : Nat → Bool) (hx : a.eval x = .pointer (some ⟨r, j, none⟩)) (hy : a.eval y = .bool b) (hb : w.heap[r]? = some (.cells (brow n p) 4 (0, 0))) (hj : j < n)
    (h : ∀ w' : World, w'.heap[r]? = some (.cells (brow n fun y => if y = j then b else p y) 4 (0, 0)) → (∀ k, k ≠ r → w'.heap[k]? = w.heap[k]?) → (∀ B, B ≤ r → Below B w w') → ∀ K : Act → World → Prop, (∀ a w, wpList Try.prog ops Q rest a w → K a w) → K (a.put o.dst undef) w') : wpList Try.prog ops Q (o :: rest) a w := by
  refine wpList_plain hgd fun K hK => ?_
  have hc : w.cell? ⟨r, j, none⟩ = some (.bool (p j)) := (cell_of_row w r j _ 4 _ hb).trans (brow_at _ _ _ hj)
  have hf := frozen_of_row w r j _ 4 hb
  have hsz := Try.sizeOf4
  have hst : (store ⟨r, j, none⟩ (.bool b)).run Try.prog w = .ok () (w.setCell ⟨r, j, none⟩ (.bool b)) := by simp [go_sem, stored, hc, hf]
  have hsv : (storeVar 4 ⟨r, j, none⟩ (.bool b)).run Try.prog w = .ok () (w.setCell ⟨r, j, none⟩ (.bool b)) := by
    unfold storeVar
    have hv : (Value.bool b).cells = #[.bool b] := rfl
    simp only [Sem.run_bind, hsz, hv, Result.andThen_ok]
    simp [storeCells, add_off, hst]
  unfold Oper.wp execOp
  simp only [ho, hx, hy, Instr.storeAt, Instr.sureAddr, Sem.run_bind, Sem.run_pure, Result.andThen_ok]
  rw [hsv]
  refine h _ ?_ (fun k hk => heap_setCell_other w _ k _ hk) (fun B hB => (Below.refl _ _).setCell hB _) K hK
  rw [← brow_set]; exact heap_setCell_same w r j _ 4 _ hb
theorem wl_brow {rest : List Oper} {o : Oper} {a : Act} {w : World} (hgd : o.guard = none) (y : Operand) (ho : o.op = .buildSlice 37 1 #[(0, y)]) (n r : Nat) (hx : a.eval y = rowV n r)
    (h : ∀ (w' : World) (b : Nat), w'.heap[b]? = some (.cells #[rowV n r] 39 (0, 0)) → Below w.heap.size w w' → ∀ K : Act → World → Prop, (∀ a w, wpList Try.prog ops Q rest a w → K a w) → K (a.put o.dst (.slice (some ⟨b, 0, none⟩) 1 1)) w') : wpList Try.prog ops Q (o :: rest) a w := by
  refine wpList_plain hgd fun K hK => ?_
  unfold Oper.wp execOp
  have hr := run_bsl w n r
  simp only [ho, List.map_toArray, List.map_cons, List.map_nil, hx, Sem.run_bind, hr, Result.andThen_ok]
  exact h _ _ (heap_alloc_new w _) ((Below.refl _ _).alloc (Nat.le_refl _) _) K hK
theorem wl_aprow {rest : List Oper} {o : Oper} {a : Act} {w : World} (hgd : o.guard = none) (s x : Operand) (ho : o.op = .call { callee := .builtin .append, args := #[s, x], argTypes := #[37, 37] })
    (bs : Nat) (v : Value) (k n : Nat) (R : Nat → Nat) (f : Nat → Plain.A) (hs : a.eval s = v) (hown : Out w bs v k n R f) (b r : Nat) (hx : a.eval x = .slice (some ⟨b, 0, none⟩) 1 1) (hb : w.heap[b]? = some (.cells #[rowV n r] 39 (0, 0))) (hr : w.heap[r]? = some (.cells (brow n fun x => kn f x k) 4 (0, 0))) (hbr : bs ≤ r) (hn : k ≤ 4000) (hbs : bs ≤ w.heap.size)
    (h : ∀ v' w', Out w' bs v' (k + 1) n (fun j => if j = k then r else R j) f → w.grownBy w' v.ownBlock → ∀ K : Act → World → Prop, (∀ a w, wpList Try.prog ops Q rest a w → K a w) → K (a.put o.dst v') w') : wpList Try.prog ops Q (o :: rest) a w := by
  refine wpList_plain hgd fun K hK => ?_
  obtain ⟨i0, hi0, hz0, hz1, hz2⟩ := info_parts info39
  obtain ⟨v', w', hrun, h2, h3, _, _⟩ := run_append_own_at (P := Try.prog) w bs 37 o.type 39 i0 (.slice none 0 0) 1 24 Try.underlying37 hi0 hz0 hz1 hz2 rfl (by omega) v k _ hown.1 ⟨b, 0, none⟩ 1 1 [rowV n r] rfl
    (fun j u hu => by
      rw [add_off, Nat.zero_add, cell_of_row w b j _ _ _ hb, ← Array.getElem?_toList]; exact hu)
    (fun u hu => by simp at hu; subst hu; rfl) (by simp only [maxLen]; omega) (by omega) hbs
  unfold Oper.wp execOp
  simp only [ho, resolve, invoke, builtin, Sem.run_bind, Sem.run_pure, Result.andThen_ok, List.map_toArray, List.map_cons, List.map_nil, hs, hx, hrun]
  have hne : ∀ (q : Nat) (cs : Array Value), w.heap[q]? = some (.cells cs 4 (0, 0)) → v.ownBlock ≠ some q := fun q cs hq e => by
    rcases hown.1.2 with ⟨rfl, _⟩ | ⟨g, cap, cur, rfl, _, h4, _⟩
    · simp [Value.ownBlock] at e
    · have e' : g = q := by simpa [Value.ownBlock] using e
      subst e'
      rw [h4] at hq; injection hq with hq; injection hq with _ ht; cases ht
  have hkeep : ∀ (q : Nat) (cs : Array Value), w.heap[q]? = some (.cells cs 4 (0, 0)) → w'.heap[q]? = some (.cells cs 4 (0, 0)) := fun q cs hq => (h3.block q (blk_lt hq) (fun e => hne q cs hq e.symm)).trans hq
  refine h v' w' ⟨?_, fun j hj => ?_⟩ h3 K hK
  · have e : (List.range (k + 1)).map (fun j => rowV n (if j = k then r else R j)) = (List.range k).map (fun j => rowV n (R j)) ++ [rowV n r] := by
      rw [List.range_succ, List.map_append]
      congr 1
      · refine List.map_congr_left fun j hj => ?_
        have : j ≠ k := by have := List.mem_range.1 hj; omega
        rw [if_neg this]
      · simp
    rw [e]; exact h2
  · by_cases e : j = k
    · subst e; simp only [if_true]; exact ⟨hbr, hkeep _ _ hr⟩
    · simp only [if_neg e]; exact ⟨(hown.2 j (by omega)).1, hkeep _ _ (hown.2 j (by omega)).2⟩
end

theorem dB_iff {f : Nat → Plain.A} {i k : Nat} (h1 : Plain.right (f i) = true) (h2 : Plain.right (f k) = true) : (decide ((f i).who = (f k).who) || (decide ((f i).kind = 3) && decide ((f k).kind = 4) && decide ((f i).place = (f k).place))) = true ↔ Plain.D f i k := by
  simp only [Bool.or_eq_true, Bool.and_eq_true, decide_eq_true_eq, Plain.D, h1, h2, true_and, and_assoc]
set_option maxRecDepth 100000 in
set_option maxHeartbeats 4000000 in
theorem refKnown (A : Option Addr) (n cn : Nat) (f : Nat → Plain.A) (hn : n ≤ 4000) (w : World) (hA : Acts w A n f) :
    Calls Try.prog 12 #[.slice A n cn] w fun e w' => ∃ O co, e = .returned (.slice O n co) ∧ KRows w' O n f ∧ Below w.heap.size w w' := by
  go_enter Try.func12, Try.ntmps12
  go_upto_region 3 with (fail)
  go_loopw [3, 4] (fun v i wr => ∃ (k : Nat) (R : Nat → Nat), k ≤ n ∧ i = .int .i64 k ∧ Out wr w.heap.size v k n R f ∧ Below w.heap.size w wr) (fun _ i _ => n - (intOf i).toNat)
  case atStart => exact ⟨0, fun _ => 0, by omega, rfl, Out.nil _ _ _ _, Below.refl _ _⟩
  case round =>
    obtain ⟨k, R, hk, rfl, hO, hb⟩ := hrel
    by_cases hlt : k < n
    · have hl : (k : Int) < n := by omega
      have hl0 : (0 : Int) ≤ k := by omega
      obtain ⟨b, off, rfl⟩ := acts_ptr hA (by omega)
      go_upto_region 5 with (fail)
      refine wp_region_lit ?_
      iterate 2
        refine wl_val rfl ?_ ?_ ?_
        rotate_left
        · go_simp; try with_reducible rfl
        intro K hK
        go_simp
        refine hK _ _ ?_
        clear hK K
      refine wl_mkrow rfl (.tmp 15) (.tmp 15) rfl n hn rfl rfl (fun w4 r X4 h4 f4 => ?_)
      intro K hK
      go_simp
      refine hK _ _ ?_
      clear hK K
      refine wl_val rfl (rowV n r) ?_ ?_
      · go_simp
      intro K hK
      go_simp
      refine hK _ _ ?_
      clear hK K
      have hOk := hO.below h4
      have hbk := hb.trans (h4.mono hb.size)
      have hr : w.heap.size ≤ r := by simp only [Hid] at f4; rw [f4]; exact hb.size
      have hAk := hA.below hbk
      rw [← rowf_zero f k] at X4
      have hWr : wr.heap.size = r := by simp only [Hid] at f4; exact f4.symm
      clear f4
      have hOr := hO
      clear hO
      have hA0 := hA.below hb
      obtain ⟨w0, e0⟩ : ∃ x, x = wr := ⟨_, rfl⟩
      subst e0
      go_upto_region 7 with (fail)
      unfold rowV
      go_loopw [6] (fun i wx => ∃ i' : Nat, i' ≤ k ∧ i = .int .i64 i' ∧ Below w0.heap.size w0 wx ∧ wx.heap[r]? = some (.cells (brow n (rowf f k i')) 4 (0, 0))) (fun i _ => k - (intOf i).toNat)
      case atStart => exact ⟨0, by omega, rfl, h4, X4⟩
      case round =>
        obtain ⟨i, hi, rfl, hbx, X⟩ := hrel
        by_cases hik' : i < k
        · have hik : i < n := by omega
          have li : (i : Int) < k := by omega
          have li0 : (0 : Int) ≤ i := by omega
          have li2 : (i : Int) < n := by omega
          have hAr := hA0.below hbx
          obtain ⟨a0, a1, a2⟩ := at_act hA0 hbx hik
          have hR1 := refRight (f i)
          have hR2 := refRight (f k)
          unfold act at hR1 hR2
          obtain ⟨g, cap, hu3, hg, _⟩ := hOr.ptr (by omega)
          subst hu3
          go_upto_region 9 with (fail)
          go_cut [35] (fun s35 wx => s35 = .bool (!(Plain.right (f i)) || !(Plain.right (f k))) ∧ Below wr.heap.size wr wx)
          case first =>
            cases e1 : Plain.right (f i)
            · rw [e1] at hR1
              go_wp2_with fail
              refine (hR1 _).mono ?_
              rintro e v1 ⟨rfl, hv1⟩
              go_wp2_with (fail)
              go_meet
              exact ⟨by simp [e1], hv1⟩
            · rw [e1] at hR1
              go_wp2_with fail
              refine (hR1 _).mono ?_
              rintro e v1 ⟨rfl, hv1⟩
              obtain ⟨c0, c1, c2⟩ := at_act hAr hv1 hlt
              cases e2 : Plain.right (f k)
              · rw [e2] at hR2
                go_wp2_with fail
                refine (hR2 _).mono ?_
                rintro e v2 ⟨rfl, hv2⟩
                go_wp2_with (fail)
                go_meet
                exact ⟨by simp [e1, e2], hv1.trans (hv2.mono hv1.size)⟩
              · rw [e2] at hR2
                go_wp2_with fail
                refine (hR2 _).mono ?_
                rintro e v2 ⟨rfl, hv2⟩
                go_wp2_with (fail)
                go_meet
                exact ⟨by simp [e1, e2], hv1.trans (hv2.mono hv1.size)⟩
          case rest =>
            obtain ⟨rfl, h5⟩ := hcut
            obtain ⟨w5, hx5⟩ : ∃ x, x = wc := ⟨_, rfl⟩
            subst hx5
            clear a0 a1 a2 hR1 hR2
            replace X := keep X h5
            replace hbx := hbx.trans (h5.mono hbx.size)
            replace hAr := hA0.below hbx
            clear h5
            cases eq : (!(Plain.right (f i)) || !(Plain.right (f k)))
            · have hri : Plain.right (f i) = true := by cases h : Plain.right (f i) <;> simp [h] at eq ⊢
              have hrk : Plain.right (f k) = true := by cases h : Plain.right (f k) <;> simp [h] at eq ⊢
              have hD := dB_iff hri hrk
              clear eq
              go_upto_region 10 with (fail)
              go_cut [75] (fun s75 wx => s75 = .bool (decide ((f i).who = (f k).who) || (decide ((f i).kind = 3) && decide ((f k).kind = 4) && decide ((f i).place = (f k).place))) ∧ Below w5.heap.size w5 wx)
              case first =>
                by_cases q1 : (f i).who = (f k).who
                · have p1 : ((f k).who == (f k).who) = true := by simp
                  have hres : (decide ((f i).who = (f k).who) || (decide ((f i).kind = 3) && decide ((f k).kind = 4) && decide ((f i).place = (f k).place))) = true := by simp [q1]
                  refine quiet_all (fun w' => Below w5.heap.size w5 w') (by kernel_rfl) (by kernel_rfl) (Below.drew (Below.refl _ _)) ?_
                  refine q_run rfl (fun K hK => ?_)
                  refine q_value ?_ (fun w' h' => ?_) ?_
                  rotate_left
                  · go_simp; try with_reducible rfl
                  go_simp
                  refine hK _ ?_
                  clear hK K
                  refine q_run rfl (fun K hK => ?_)
                  refine q_value ?_ (fun w' h' => ?_) ?_
                  rotate_left
                  · go_simp; try with_reducible rfl
                  go_simp
                  refine hK _ ?_
                  clear hK K
                  refine q_run rfl (fun K hK => ?_)
                  refine q_value ?_ (fun w' h' => ?_) ?_
                  rotate_left
                  · go_simp; try with_reducible rfl
                  go_simp
                  refine hK _ ?_
                  clear hK K
                  refine q_run rfl (fun K hK => ?_)
                  refine q_value ?_ (fun w' h' => ?_) ?_
                  rotate_left
                  · go_simp; try with_reducible rfl
                  go_simp
                  refine hK _ ?_
                  clear hK K
                  refine q_run rfl (fun K hK => ?_)
                  refine q_value ?_ (fun w' h' => ?_) ?_
                  rotate_left
                  · obtain ⟨c0, c1, c2⟩ := at_act hAr h' hik; go_simp; try with_reducible rfl
                  go_simp
                  refine hK _ ?_
                  clear hK K
                  refine q_run rfl (fun K hK => ?_)
                  refine q_value ?_ (fun w' h' => ?_) ?_
                  rotate_left
                  · go_simp; try with_reducible rfl
                  go_simp
                  refine hK _ ?_
                  clear hK K
                  refine q_run rfl (fun K hK => ?_)
                  refine q_value ?_ (fun w' h' => ?_) ?_
                  rotate_left
                  · go_simp; try with_reducible rfl
                  go_simp
                  refine hK _ ?_
                  clear hK K
                  refine q_run rfl (fun K hK => ?_)
                  refine q_value ?_ (fun w' h' => ?_) ?_
                  rotate_left
                  · go_simp; try with_reducible rfl
                  go_simp
                  refine hK _ ?_
                  clear hK K
                  refine q_run rfl (fun K hK => ?_)
                  refine q_value ?_ (fun w' h' => ?_) ?_
                  rotate_left
                  · go_simp; try with_reducible rfl
                  go_simp
                  refine hK _ ?_
                  clear hK K
                  refine q_run rfl (fun K hK => ?_)
                  refine q_value ?_ (fun w' h' => ?_) ?_
                  rotate_left
                  · obtain ⟨c0, c1, c2⟩ := at_act hAr h' hlt; go_simp; try with_reducible rfl
                  go_simp
                  refine hK _ ?_
                  clear hK K
                  refine q_run rfl (fun K hK => ?_)
                  refine q_value ?_ (fun w' h' => ?_) ?_
                  rotate_left
                  · go_simp; try with_reducible rfl
                  go_simp
                  refine hK _ ?_
                  clear hK K
                  refine q_run rfl (fun K hK => ?_)
                  refine q_value ?_ (fun w' h' => ?_) ?_
                  rotate_left
                  · go_simp; try with_reducible rfl
                  go_simp
                  refine hK _ ?_
                  clear hK K
                  refine q_skip rfl (fun K hK => ?_)
                  go_simp
                  refine hK _ ?_
                  clear hK K
                  refine q_skip rfl (fun K hK => ?_)
                  go_simp
                  refine hK _ ?_
                  clear hK K
                  refine q_skip rfl (fun K hK => ?_)
                  go_simp
                  refine hK _ ?_
                  clear hK K
                  refine q_skip rfl (fun K hK => ?_)
                  go_simp
                  refine hK _ ?_
                  clear hK K
                  refine q_skip rfl (fun K hK => ?_)
                  go_simp
                  refine hK _ ?_
                  clear hK K
                  refine q_skip rfl (fun K hK => ?_)
                  go_simp
                  refine hK _ ?_
                  clear hK K
                  refine q_skip rfl (fun K hK => ?_)
                  go_simp
                  refine hK _ ?_
                  clear hK K
                  refine q_skip rfl (fun K hK => ?_)
                  go_simp
                  refine hK _ ?_
                  clear hK K
                  refine q_skip rfl (fun K hK => ?_)
                  go_simp
                  refine hK _ ?_
                  clear hK K
                  refine q_skip rfl (fun K hK => ?_)
                  go_simp
                  refine hK _ ?_
                  clear hK K
                  refine q_skip rfl (fun K hK => ?_)
                  go_simp
                  refine hK _ ?_
                  clear hK K
                  refine q_skip rfl (fun K hK => ?_)
                  go_simp
                  refine hK _ ?_
                  clear hK K
                  refine q_skip rfl (fun K hK => ?_)
                  go_simp
                  refine hK _ ?_
                  clear hK K
                  refine q_skip rfl (fun K hK => ?_)
                  go_simp
                  refine hK _ ?_
                  clear hK K
                  refine q_skip rfl (fun K hK => ?_)
                  go_simp
                  refine hK _ ?_
                  clear hK K
                  refine q_skip rfl (fun K hK => ?_)
                  go_simp
                  refine hK _ ?_
                  clear hK K
                  refine q_skip rfl (fun K hK => ?_)
                  go_simp
                  refine hK _ ?_
                  clear hK K
                  refine q_skip rfl (fun K hK => ?_)
                  go_simp
                  refine hK _ ?_
                  clear hK K
                  refine q_skip rfl (fun K hK => ?_)
                  go_simp
                  refine hK _ ?_
                  clear hK K
                  refine q_skip rfl (fun K hK => ?_)
                  go_simp
                  refine hK _ ?_
                  clear hK K
                  refine q_skip rfl (fun K hK => ?_)
                  go_simp
                  refine hK _ ?_
                  clear hK K
                  refine q_skip rfl (fun K hK => ?_)
                  go_simp
                  refine hK _ ?_
                  clear hK K
                  refine q_skip rfl (fun K hK => ?_)
                  go_simp
                  refine hK _ ?_
                  clear hK K
                  refine q_skip rfl (fun K hK => ?_)
                  go_simp
                  refine hK _ ?_
                  clear hK K
                  refine q_skip rfl (fun K hK => ?_)
                  go_simp
                  refine hK _ ?_
                  clear hK K
                  refine q_skip rfl (fun K hK => ?_)
                  go_simp
                  refine hK _ ?_
                  clear hK K
                  refine q_skip rfl (fun K hK => ?_)
                  go_simp
                  refine hK _ ?_
                  clear hK K
                  refine q_run rfl (fun K hK => ?_)
                  refine q_value ?_ (fun w' h' => ?_) ?_
                  rotate_left
                  · go_simp; try with_reducible rfl
                  go_simp
                  refine hK _ ?_
                  clear hK K
                  refine qd_nil ?_
                  intro w6 h6
                  go_wp2_with (fail)
                  go_meet
                  exact ⟨by rw [hres], h6⟩
                · have p1 : ((f i).who == (f k).who) = false := by simp [q1]
                  by_cases q2 : (f i).kind = 3
                  · have p2 : ((f i).kind == 3) = true := by simp [q2]
                    by_cases q3 : (f k).kind = 4
                    · have p3 : ((f k).kind == 4) = true := by simp [q3]
                      by_cases q4 : (f i).place = (f k).place
                      · have p4 : ((f k).place == (f k).place) = true := by simp
                        have hres : (decide ((f i).who = (f k).who) || (decide ((f i).kind = 3) && decide ((f k).kind = 4) && decide ((f i).place = (f k).place))) = true := by simp [q2, q3, q4]
                        refine quiet_all (fun w' => Below w5.heap.size w5 w') (by kernel_rfl) (by kernel_rfl) (Below.drew (Below.refl _ _)) ?_
                        refine q_run rfl (fun K hK => ?_)
                        refine q_value ?_ (fun w' h' => ?_) ?_
                        rotate_left
                        · go_simp; try with_reducible rfl
                        go_simp
                        refine hK _ ?_
                        clear hK K
                        refine q_run rfl (fun K hK => ?_)
                        refine q_value ?_ (fun w' h' => ?_) ?_
                        rotate_left
                        · go_simp; try with_reducible rfl
                        go_simp
                        refine hK _ ?_
                        clear hK K
                        refine q_run rfl (fun K hK => ?_)
                        refine q_value ?_ (fun w' h' => ?_) ?_
                        rotate_left
                        · go_simp; try with_reducible rfl
                        go_simp
                        refine hK _ ?_
                        clear hK K
                        refine q_run rfl (fun K hK => ?_)
                        refine q_value ?_ (fun w' h' => ?_) ?_
                        rotate_left
                        · go_simp; try with_reducible rfl
                        go_simp
                        refine hK _ ?_
                        clear hK K
                        refine q_run rfl (fun K hK => ?_)
                        refine q_value ?_ (fun w' h' => ?_) ?_
                        rotate_left
                        · obtain ⟨c0, c1, c2⟩ := at_act hAr h' hik; go_simp; try with_reducible rfl
                        go_simp
                        refine hK _ ?_
                        clear hK K
                        refine q_run rfl (fun K hK => ?_)
                        refine q_value ?_ (fun w' h' => ?_) ?_
                        rotate_left
                        · go_simp; try with_reducible rfl
                        go_simp
                        refine hK _ ?_
                        clear hK K
                        refine q_run rfl (fun K hK => ?_)
                        refine q_value ?_ (fun w' h' => ?_) ?_
                        rotate_left
                        · go_simp; try with_reducible rfl
                        go_simp
                        refine hK _ ?_
                        clear hK K
                        refine q_run rfl (fun K hK => ?_)
                        refine q_value ?_ (fun w' h' => ?_) ?_
                        rotate_left
                        · go_simp; try with_reducible rfl
                        go_simp
                        refine hK _ ?_
                        clear hK K
                        refine q_run rfl (fun K hK => ?_)
                        refine q_value ?_ (fun w' h' => ?_) ?_
                        rotate_left
                        · go_simp; try with_reducible rfl
                        go_simp
                        refine hK _ ?_
                        clear hK K
                        refine q_run rfl (fun K hK => ?_)
                        refine q_value ?_ (fun w' h' => ?_) ?_
                        rotate_left
                        · obtain ⟨c0, c1, c2⟩ := at_act hAr h' hlt; go_simp; try with_reducible rfl
                        go_simp
                        refine hK _ ?_
                        clear hK K
                        refine q_run rfl (fun K hK => ?_)
                        refine q_value ?_ (fun w' h' => ?_) ?_
                        rotate_left
                        · go_simp; try with_reducible rfl
                        go_simp
                        refine hK _ ?_
                        clear hK K
                        refine q_run rfl (fun K hK => ?_)
                        refine q_value ?_ (fun w' h' => ?_) ?_
                        rotate_left
                        · go_simp; try with_reducible rfl
                        go_simp
                        refine hK _ ?_
                        clear hK K
                        refine q_run rfl (fun K hK => ?_)
                        refine q_value ?_ (fun w' h' => ?_) ?_
                        rotate_left
                        · go_simp; try with_reducible rfl
                        go_simp
                        refine hK _ ?_
                        clear hK K
                        refine q_run rfl (fun K hK => ?_)
                        refine q_value ?_ (fun w' h' => ?_) ?_
                        rotate_left
                        · go_simp; try with_reducible rfl
                        go_simp
                        refine hK _ ?_
                        clear hK K
                        refine q_run rfl (fun K hK => ?_)
                        refine q_value ?_ (fun w' h' => ?_) ?_
                        rotate_left
                        · go_simp; try with_reducible rfl
                        go_simp
                        refine hK _ ?_
                        clear hK K
                        refine q_run rfl (fun K hK => ?_)
                        refine q_value ?_ (fun w' h' => ?_) ?_
                        rotate_left
                        · go_simp; try with_reducible rfl
                        go_simp
                        refine hK _ ?_
                        clear hK K
                        refine q_run rfl (fun K hK => ?_)
                        refine q_value ?_ (fun w' h' => ?_) ?_
                        rotate_left
                        · obtain ⟨c0, c1, c2⟩ := at_act hAr h' hik; go_simp; try with_reducible rfl
                        go_simp
                        refine hK _ ?_
                        clear hK K
                        refine q_run rfl (fun K hK => ?_)
                        refine q_value ?_ (fun w' h' => ?_) ?_
                        rotate_left
                        · go_simp; try with_reducible rfl
                        go_simp
                        refine hK _ ?_
                        clear hK K
                        refine q_run rfl (fun K hK => ?_)
                        refine q_value ?_ (fun w' h' => ?_) ?_
                        rotate_left
                        · go_simp; try with_reducible rfl
                        go_simp
                        refine hK _ ?_
                        clear hK K
                        refine q_run rfl (fun K hK => ?_)
                        refine q_value ?_ (fun w' h' => ?_) ?_
                        rotate_left
                        · go_simp; try with_reducible rfl
                        go_simp
                        refine hK _ ?_
                        clear hK K
                        refine q_run rfl (fun K hK => ?_)
                        refine q_value ?_ (fun w' h' => ?_) ?_
                        rotate_left
                        · go_simp; try with_reducible rfl
                        go_simp
                        refine hK _ ?_
                        clear hK K
                        refine q_run rfl (fun K hK => ?_)
                        refine q_value ?_ (fun w' h' => ?_) ?_
                        rotate_left
                        · go_simp; try with_reducible rfl
                        go_simp
                        refine hK _ ?_
                        clear hK K
                        refine q_run rfl (fun K hK => ?_)
                        refine q_value ?_ (fun w' h' => ?_) ?_
                        rotate_left
                        · go_simp; try with_reducible rfl
                        go_simp
                        refine hK _ ?_
                        clear hK K
                        refine q_run rfl (fun K hK => ?_)
                        refine q_value ?_ (fun w' h' => ?_) ?_
                        rotate_left
                        · obtain ⟨c0, c1, c2⟩ := at_act hAr h' hlt; go_simp; try with_reducible rfl
                        go_simp
                        refine hK _ ?_
                        clear hK K
                        refine q_run rfl (fun K hK => ?_)
                        refine q_value ?_ (fun w' h' => ?_) ?_
                        rotate_left
                        · go_simp; try with_reducible rfl
                        go_simp
                        refine hK _ ?_
                        clear hK K
                        refine q_run rfl (fun K hK => ?_)
                        refine q_value ?_ (fun w' h' => ?_) ?_
                        rotate_left
                        · go_simp; try with_reducible rfl
                        go_simp
                        refine hK _ ?_
                        clear hK K
                        refine q_run rfl (fun K hK => ?_)
                        refine q_value ?_ (fun w' h' => ?_) ?_
                        rotate_left
                        · go_simp; try with_reducible rfl
                        go_simp
                        refine hK _ ?_
                        clear hK K
                        refine q_run rfl (fun K hK => ?_)
                        refine q_value ?_ (fun w' h' => ?_) ?_
                        rotate_left
                        · go_simp; try with_reducible rfl
                        go_simp
                        refine hK _ ?_
                        clear hK K
                        refine q_run rfl (fun K hK => ?_)
                        refine q_value ?_ (fun w' h' => ?_) ?_
                        rotate_left
                        · go_simp; try with_reducible rfl
                        go_simp
                        refine hK _ ?_
                        clear hK K
                        refine q_run rfl (fun K hK => ?_)
                        refine q_value ?_ (fun w' h' => ?_) ?_
                        rotate_left
                        · go_simp; try with_reducible rfl
                        go_simp
                        refine hK _ ?_
                        clear hK K
                        refine q_run rfl (fun K hK => ?_)
                        refine q_value ?_ (fun w' h' => ?_) ?_
                        rotate_left
                        · go_simp; try with_reducible rfl
                        go_simp
                        refine hK _ ?_
                        clear hK K
                        refine q_run rfl (fun K hK => ?_)
                        refine q_value ?_ (fun w' h' => ?_) ?_
                        rotate_left
                        · obtain ⟨c0, c1, c2⟩ := at_act hAr h' hik; go_simp; try with_reducible rfl
                        go_simp
                        refine hK _ ?_
                        clear hK K
                        refine q_run rfl (fun K hK => ?_)
                        refine q_value ?_ (fun w' h' => ?_) ?_
                        rotate_left
                        · go_simp; try with_reducible rfl
                        go_simp
                        refine hK _ ?_
                        clear hK K
                        refine q_run rfl (fun K hK => ?_)
                        refine q_value ?_ (fun w' h' => ?_) ?_
                        rotate_left
                        · go_simp; try with_reducible rfl
                        go_simp
                        refine hK _ ?_
                        clear hK K
                        refine q_run rfl (fun K hK => ?_)
                        refine q_value ?_ (fun w' h' => ?_) ?_
                        rotate_left
                        · go_simp; try with_reducible rfl
                        go_simp
                        refine hK _ ?_
                        clear hK K
                        refine q_run rfl (fun K hK => ?_)
                        refine q_value ?_ (fun w' h' => ?_) ?_
                        rotate_left
                        · go_simp; try with_reducible rfl
                        go_simp
                        refine hK _ ?_
                        clear hK K
                        refine q_run rfl (fun K hK => ?_)
                        refine q_value ?_ (fun w' h' => ?_) ?_
                        rotate_left
                        · obtain ⟨c0, c1, c2⟩ := at_act hAr h' hlt; go_simp; try with_reducible rfl
                        go_simp
                        refine hK _ ?_
                        clear hK K
                        refine q_run rfl (fun K hK => ?_)
                        refine q_value ?_ (fun w' h' => ?_) ?_
                        rotate_left
                        · go_simp; try with_reducible rfl
                        go_simp
                        refine hK _ ?_
                        clear hK K
                        refine q_run rfl (fun K hK => ?_)
                        refine q_value ?_ (fun w' h' => ?_) ?_
                        rotate_left
                        · go_simp; try with_reducible rfl
                        go_simp
                        refine hK _ ?_
                        clear hK K
                        refine q_run rfl (fun K hK => ?_)
                        refine q_value ?_ (fun w' h' => ?_) ?_
                        rotate_left
                        · go_simp; try with_reducible rfl
                        go_simp
                        refine hK _ ?_
                        clear hK K
                        refine qd_nil ?_
                        intro w6 h6
                        go_wp2_with (fail)
                        go_meet
                        exact ⟨by rw [hres], h6⟩
                      · have p4 : ((f i).place == (f k).place) = false := by simp [q4]
                        have hres : (decide ((f i).who = (f k).who) || (decide ((f i).kind = 3) && decide ((f k).kind = 4) && decide ((f i).place = (f k).place))) = false := by simp [q1, q4]
                        refine quiet_all (fun w' => Below w5.heap.size w5 w') (by kernel_rfl) (by kernel_rfl) (Below.drew (Below.refl _ _)) ?_
                        refine q_run rfl (fun K hK => ?_)
                        refine q_value ?_ (fun w' h' => ?_) ?_
                        rotate_left
                        · go_simp; try with_reducible rfl
                        go_simp
                        refine hK _ ?_
                        clear hK K
                        refine q_run rfl (fun K hK => ?_)
                        refine q_value ?_ (fun w' h' => ?_) ?_
                        rotate_left
                        · go_simp; try with_reducible rfl
                        go_simp
                        refine hK _ ?_
                        clear hK K
                        refine q_run rfl (fun K hK => ?_)
                        refine q_value ?_ (fun w' h' => ?_) ?_
                        rotate_left
                        · go_simp; try with_reducible rfl
                        go_simp
                        refine hK _ ?_
                        clear hK K
                        refine q_run rfl (fun K hK => ?_)
                        refine q_value ?_ (fun w' h' => ?_) ?_
                        rotate_left
                        · go_simp; try with_reducible rfl
                        go_simp
                        refine hK _ ?_
                        clear hK K
                        refine q_run rfl (fun K hK => ?_)
                        refine q_value ?_ (fun w' h' => ?_) ?_
                        rotate_left
                        · obtain ⟨c0, c1, c2⟩ := at_act hAr h' hik; go_simp; try with_reducible rfl
                        go_simp
                        refine hK _ ?_
                        clear hK K
                        refine q_run rfl (fun K hK => ?_)
                        refine q_value ?_ (fun w' h' => ?_) ?_
                        rotate_left
                        · go_simp; try with_reducible rfl
                        go_simp
                        refine hK _ ?_
                        clear hK K
                        refine q_run rfl (fun K hK => ?_)
                        refine q_value ?_ (fun w' h' => ?_) ?_
                        rotate_left
                        · go_simp; try with_reducible rfl
                        go_simp
                        refine hK _ ?_
                        clear hK K
                        refine q_run rfl (fun K hK => ?_)
                        refine q_value ?_ (fun w' h' => ?_) ?_
                        rotate_left
                        · go_simp; try with_reducible rfl
                        go_simp
                        refine hK _ ?_
                        clear hK K
                        refine q_run rfl (fun K hK => ?_)
                        refine q_value ?_ (fun w' h' => ?_) ?_
                        rotate_left
                        · go_simp; try with_reducible rfl
                        go_simp
                        refine hK _ ?_
                        clear hK K
                        refine q_run rfl (fun K hK => ?_)
                        refine q_value ?_ (fun w' h' => ?_) ?_
                        rotate_left
                        · obtain ⟨c0, c1, c2⟩ := at_act hAr h' hlt; go_simp; try with_reducible rfl
                        go_simp
                        refine hK _ ?_
                        clear hK K
                        refine q_run rfl (fun K hK => ?_)
                        refine q_value ?_ (fun w' h' => ?_) ?_
                        rotate_left
                        · go_simp; try with_reducible rfl
                        go_simp
                        refine hK _ ?_
                        clear hK K
                        refine q_run rfl (fun K hK => ?_)
                        refine q_value ?_ (fun w' h' => ?_) ?_
                        rotate_left
                        · go_simp; try with_reducible rfl
                        go_simp
                        refine hK _ ?_
                        clear hK K
                        refine q_run rfl (fun K hK => ?_)
                        refine q_value ?_ (fun w' h' => ?_) ?_
                        rotate_left
                        · go_simp; try with_reducible rfl
                        go_simp
                        refine hK _ ?_
                        clear hK K
                        refine q_run rfl (fun K hK => ?_)
                        refine q_value ?_ (fun w' h' => ?_) ?_
                        rotate_left
                        · go_simp; try with_reducible rfl
                        go_simp
                        refine hK _ ?_
                        clear hK K
                        refine q_run rfl (fun K hK => ?_)
                        refine q_value ?_ (fun w' h' => ?_) ?_
                        rotate_left
                        · go_simp; try with_reducible rfl
                        go_simp
                        refine hK _ ?_
                        clear hK K
                        refine q_run rfl (fun K hK => ?_)
                        refine q_value ?_ (fun w' h' => ?_) ?_
                        rotate_left
                        · go_simp; try with_reducible rfl
                        go_simp
                        refine hK _ ?_
                        clear hK K
                        refine q_run rfl (fun K hK => ?_)
                        refine q_value ?_ (fun w' h' => ?_) ?_
                        rotate_left
                        · obtain ⟨c0, c1, c2⟩ := at_act hAr h' hik; go_simp; try with_reducible rfl
                        go_simp
                        refine hK _ ?_
                        clear hK K
                        refine q_run rfl (fun K hK => ?_)
                        refine q_value ?_ (fun w' h' => ?_) ?_
                        rotate_left
                        · go_simp; try with_reducible rfl
                        go_simp
                        refine hK _ ?_
                        clear hK K
                        refine q_run rfl (fun K hK => ?_)
                        refine q_value ?_ (fun w' h' => ?_) ?_
                        rotate_left
                        · go_simp; try with_reducible rfl
                        go_simp
                        refine hK _ ?_
                        clear hK K
                        refine q_run rfl (fun K hK => ?_)
                        refine q_value ?_ (fun w' h' => ?_) ?_
                        rotate_left
                        · go_simp; try with_reducible rfl
                        go_simp
                        refine hK _ ?_
                        clear hK K
                        refine q_run rfl (fun K hK => ?_)
                        refine q_value ?_ (fun w' h' => ?_) ?_
                        rotate_left
                        · go_simp; try with_reducible rfl
                        go_simp
                        refine hK _ ?_
                        clear hK K
                        refine q_run rfl (fun K hK => ?_)
                        refine q_value ?_ (fun w' h' => ?_) ?_
                        rotate_left
                        · go_simp; try with_reducible rfl
                        go_simp
                        refine hK _ ?_
                        clear hK K
                        refine q_run rfl (fun K hK => ?_)
                        refine q_value ?_ (fun w' h' => ?_) ?_
                        rotate_left
                        · go_simp; try with_reducible rfl
                        go_simp
                        refine hK _ ?_
                        clear hK K
                        refine q_run rfl (fun K hK => ?_)
                        refine q_value ?_ (fun w' h' => ?_) ?_
                        rotate_left
                        · obtain ⟨c0, c1, c2⟩ := at_act hAr h' hlt; go_simp; try with_reducible rfl
                        go_simp
                        refine hK _ ?_
                        clear hK K
                        refine q_run rfl (fun K hK => ?_)
                        refine q_value ?_ (fun w' h' => ?_) ?_
                        rotate_left
                        · go_simp; try with_reducible rfl
                        go_simp
                        refine hK _ ?_
                        clear hK K
                        refine q_run rfl (fun K hK => ?_)
                        refine q_value ?_ (fun w' h' => ?_) ?_
                        rotate_left
                        · go_simp; try with_reducible rfl
                        go_simp
                        refine hK _ ?_
                        clear hK K
                        refine q_run rfl (fun K hK => ?_)
                        refine q_value ?_ (fun w' h' => ?_) ?_
                        rotate_left
                        · go_simp; try with_reducible rfl
                        go_simp
                        refine hK _ ?_
                        clear hK K
                        refine q_run rfl (fun K hK => ?_)
                        refine q_value ?_ (fun w' h' => ?_) ?_
                        rotate_left
                        · go_simp; try with_reducible rfl
                        go_simp
                        refine hK _ ?_
                        clear hK K
                        refine q_run rfl (fun K hK => ?_)
                        refine q_value ?_ (fun w' h' => ?_) ?_
                        rotate_left
                        · go_simp; try with_reducible rfl
                        go_simp
                        refine hK _ ?_
                        clear hK K
                        refine q_run rfl (fun K hK => ?_)
                        refine q_value ?_ (fun w' h' => ?_) ?_
                        rotate_left
                        · go_simp; try with_reducible rfl
                        go_simp
                        refine hK _ ?_
                        clear hK K
                        refine q_run rfl (fun K hK => ?_)
                        refine q_value ?_ (fun w' h' => ?_) ?_
                        rotate_left
                        · go_simp; try with_reducible rfl
                        go_simp
                        refine hK _ ?_
                        clear hK K
                        refine q_run rfl (fun K hK => ?_)
                        refine q_value ?_ (fun w' h' => ?_) ?_
                        rotate_left
                        · obtain ⟨c0, c1, c2⟩ := at_act hAr h' hik; go_simp; try with_reducible rfl
                        go_simp
                        refine hK _ ?_
                        clear hK K
                        refine q_run rfl (fun K hK => ?_)
                        refine q_value ?_ (fun w' h' => ?_) ?_
                        rotate_left
                        · go_simp; try with_reducible rfl
                        go_simp
                        refine hK _ ?_
                        clear hK K
                        refine q_run rfl (fun K hK => ?_)
                        refine q_value ?_ (fun w' h' => ?_) ?_
                        rotate_left
                        · go_simp; try with_reducible rfl
                        go_simp
                        refine hK _ ?_
                        clear hK K
                        refine q_run rfl (fun K hK => ?_)
                        refine q_value ?_ (fun w' h' => ?_) ?_
                        rotate_left
                        · go_simp; try with_reducible rfl
                        go_simp
                        refine hK _ ?_
                        clear hK K
                        refine q_run rfl (fun K hK => ?_)
                        refine q_value ?_ (fun w' h' => ?_) ?_
                        rotate_left
                        · go_simp; try with_reducible rfl
                        go_simp
                        refine hK _ ?_
                        clear hK K
                        refine q_run rfl (fun K hK => ?_)
                        refine q_value ?_ (fun w' h' => ?_) ?_
                        rotate_left
                        · obtain ⟨c0, c1, c2⟩ := at_act hAr h' hlt; go_simp; try with_reducible rfl
                        go_simp
                        refine hK _ ?_
                        clear hK K
                        refine q_run rfl (fun K hK => ?_)
                        refine q_value ?_ (fun w' h' => ?_) ?_
                        rotate_left
                        · go_simp; try with_reducible rfl
                        go_simp
                        refine hK _ ?_
                        clear hK K
                        refine q_run rfl (fun K hK => ?_)
                        refine q_value ?_ (fun w' h' => ?_) ?_
                        rotate_left
                        · go_simp; try with_reducible rfl
                        go_simp
                        refine hK _ ?_
                        clear hK K
                        refine q_run rfl (fun K hK => ?_)
                        refine q_value ?_ (fun w' h' => ?_) ?_
                        rotate_left
                        · go_simp; try with_reducible rfl
                        go_simp
                        refine hK _ ?_
                        clear hK K
                        refine qd_nil ?_
                        intro w6 h6
                        go_wp2_with (fail)
                        go_meet
                        exact ⟨by rw [hres], h6⟩
                    · have p3 : ((f k).kind == 4) = false := by simp [q3]
                      have hres : (decide ((f i).who = (f k).who) || (decide ((f i).kind = 3) && decide ((f k).kind = 4) && decide ((f i).place = (f k).place))) = false := by simp [q1, q3]
                      refine quiet_all (fun w' => Below w5.heap.size w5 w') (by kernel_rfl) (by kernel_rfl) (Below.drew (Below.refl _ _)) ?_
                      refine q_run rfl (fun K hK => ?_)
                      refine q_value ?_ (fun w' h' => ?_) ?_
                      rotate_left
                      · go_simp; try with_reducible rfl
                      go_simp
                      refine hK _ ?_
                      clear hK K
                      refine q_run rfl (fun K hK => ?_)
                      refine q_value ?_ (fun w' h' => ?_) ?_
                      rotate_left
                      · go_simp; try with_reducible rfl
                      go_simp
                      refine hK _ ?_
                      clear hK K
                      refine q_run rfl (fun K hK => ?_)
                      refine q_value ?_ (fun w' h' => ?_) ?_
                      rotate_left
                      · go_simp; try with_reducible rfl
                      go_simp
                      refine hK _ ?_
                      clear hK K
                      refine q_run rfl (fun K hK => ?_)
                      refine q_value ?_ (fun w' h' => ?_) ?_
                      rotate_left
                      · go_simp; try with_reducible rfl
                      go_simp
                      refine hK _ ?_
                      clear hK K
                      refine q_run rfl (fun K hK => ?_)
                      refine q_value ?_ (fun w' h' => ?_) ?_
                      rotate_left
                      · obtain ⟨c0, c1, c2⟩ := at_act hAr h' hik; go_simp; try with_reducible rfl
                      go_simp
                      refine hK _ ?_
                      clear hK K
                      refine q_run rfl (fun K hK => ?_)
                      refine q_value ?_ (fun w' h' => ?_) ?_
                      rotate_left
                      · go_simp; try with_reducible rfl
                      go_simp
                      refine hK _ ?_
                      clear hK K
                      refine q_run rfl (fun K hK => ?_)
                      refine q_value ?_ (fun w' h' => ?_) ?_
                      rotate_left
                      · go_simp; try with_reducible rfl
                      go_simp
                      refine hK _ ?_
                      clear hK K
                      refine q_run rfl (fun K hK => ?_)
                      refine q_value ?_ (fun w' h' => ?_) ?_
                      rotate_left
                      · go_simp; try with_reducible rfl
                      go_simp
                      refine hK _ ?_
                      clear hK K
                      refine q_run rfl (fun K hK => ?_)
                      refine q_value ?_ (fun w' h' => ?_) ?_
                      rotate_left
                      · go_simp; try with_reducible rfl
                      go_simp
                      refine hK _ ?_
                      clear hK K
                      refine q_run rfl (fun K hK => ?_)
                      refine q_value ?_ (fun w' h' => ?_) ?_
                      rotate_left
                      · obtain ⟨c0, c1, c2⟩ := at_act hAr h' hlt; go_simp; try with_reducible rfl
                      go_simp
                      refine hK _ ?_
                      clear hK K
                      refine q_run rfl (fun K hK => ?_)
                      refine q_value ?_ (fun w' h' => ?_) ?_
                      rotate_left
                      · go_simp; try with_reducible rfl
                      go_simp
                      refine hK _ ?_
                      clear hK K
                      refine q_run rfl (fun K hK => ?_)
                      refine q_value ?_ (fun w' h' => ?_) ?_
                      rotate_left
                      · go_simp; try with_reducible rfl
                      go_simp
                      refine hK _ ?_
                      clear hK K
                      refine q_run rfl (fun K hK => ?_)
                      refine q_value ?_ (fun w' h' => ?_) ?_
                      rotate_left
                      · go_simp; try with_reducible rfl
                      go_simp
                      refine hK _ ?_
                      clear hK K
                      refine q_run rfl (fun K hK => ?_)
                      refine q_value ?_ (fun w' h' => ?_) ?_
                      rotate_left
                      · go_simp; try with_reducible rfl
                      go_simp
                      refine hK _ ?_
                      clear hK K
                      refine q_run rfl (fun K hK => ?_)
                      refine q_value ?_ (fun w' h' => ?_) ?_
                      rotate_left
                      · go_simp; try with_reducible rfl
                      go_simp
                      refine hK _ ?_
                      clear hK K
                      refine q_run rfl (fun K hK => ?_)
                      refine q_value ?_ (fun w' h' => ?_) ?_
                      rotate_left
                      · go_simp; try with_reducible rfl
                      go_simp
                      refine hK _ ?_
                      clear hK K
                      refine q_run rfl (fun K hK => ?_)
                      refine q_value ?_ (fun w' h' => ?_) ?_
                      rotate_left
                      · obtain ⟨c0, c1, c2⟩ := at_act hAr h' hik; go_simp; try with_reducible rfl
                      go_simp
                      refine hK _ ?_
                      clear hK K
                      refine q_run rfl (fun K hK => ?_)
                      refine q_value ?_ (fun w' h' => ?_) ?_
                      rotate_left
                      · go_simp; try with_reducible rfl
                      go_simp
                      refine hK _ ?_
                      clear hK K
                      refine q_run rfl (fun K hK => ?_)
                      refine q_value ?_ (fun w' h' => ?_) ?_
                      rotate_left
                      · go_simp; try with_reducible rfl
                      go_simp
                      refine hK _ ?_
                      clear hK K
                      refine q_run rfl (fun K hK => ?_)
                      refine q_value ?_ (fun w' h' => ?_) ?_
                      rotate_left
                      · go_simp; try with_reducible rfl
                      go_simp
                      refine hK _ ?_
                      clear hK K
                      refine q_run rfl (fun K hK => ?_)
                      refine q_value ?_ (fun w' h' => ?_) ?_
                      rotate_left
                      · go_simp; try with_reducible rfl
                      go_simp
                      refine hK _ ?_
                      clear hK K
                      refine q_run rfl (fun K hK => ?_)
                      refine q_value ?_ (fun w' h' => ?_) ?_
                      rotate_left
                      · go_simp; try with_reducible rfl
                      go_simp
                      refine hK _ ?_
                      clear hK K
                      refine q_run rfl (fun K hK => ?_)
                      refine q_value ?_ (fun w' h' => ?_) ?_
                      rotate_left
                      · go_simp; try with_reducible rfl
                      go_simp
                      refine hK _ ?_
                      clear hK K
                      refine q_run rfl (fun K hK => ?_)
                      refine q_value ?_ (fun w' h' => ?_) ?_
                      rotate_left
                      · obtain ⟨c0, c1, c2⟩ := at_act hAr h' hlt; go_simp; try with_reducible rfl
                      go_simp
                      refine hK _ ?_
                      clear hK K
                      refine q_run rfl (fun K hK => ?_)
                      refine q_value ?_ (fun w' h' => ?_) ?_
                      rotate_left
                      · go_simp; try with_reducible rfl
                      go_simp
                      refine hK _ ?_
                      clear hK K
                      refine q_run rfl (fun K hK => ?_)
                      refine q_value ?_ (fun w' h' => ?_) ?_
                      rotate_left
                      · go_simp; try with_reducible rfl
                      go_simp
                      refine hK _ ?_
                      clear hK K
                      refine q_run rfl (fun K hK => ?_)
                      refine q_value ?_ (fun w' h' => ?_) ?_
                      rotate_left
                      · go_simp; try with_reducible rfl
                      go_simp
                      refine hK _ ?_
                      clear hK K
                      refine q_skip rfl (fun K hK => ?_)
                      go_simp
                      refine hK _ ?_
                      clear hK K
                      refine q_skip rfl (fun K hK => ?_)
                      go_simp
                      refine hK _ ?_
                      clear hK K
                      refine q_skip rfl (fun K hK => ?_)
                      go_simp
                      refine hK _ ?_
                      clear hK K
                      refine q_skip rfl (fun K hK => ?_)
                      go_simp
                      refine hK _ ?_
                      clear hK K
                      refine q_skip rfl (fun K hK => ?_)
                      go_simp
                      refine hK _ ?_
                      clear hK K
                      refine q_skip rfl (fun K hK => ?_)
                      go_simp
                      refine hK _ ?_
                      clear hK K
                      refine q_skip rfl (fun K hK => ?_)
                      go_simp
                      refine hK _ ?_
                      clear hK K
                      refine q_skip rfl (fun K hK => ?_)
                      go_simp
                      refine hK _ ?_
                      clear hK K
                      refine q_skip rfl (fun K hK => ?_)
                      go_simp
                      refine hK _ ?_
                      clear hK K
                      refine q_skip rfl (fun K hK => ?_)
                      go_simp
                      refine hK _ ?_
                      clear hK K
                      refine q_skip rfl (fun K hK => ?_)
                      go_simp
                      refine hK _ ?_
                      clear hK K
                      refine q_run rfl (fun K hK => ?_)
                      refine q_value ?_ (fun w' h' => ?_) ?_
                      rotate_left
                      · go_simp; try with_reducible rfl
                      go_simp
                      refine hK _ ?_
                      clear hK K
                      refine q_run rfl (fun K hK => ?_)
                      refine q_value ?_ (fun w' h' => ?_) ?_
                      rotate_left
                      · go_simp; try with_reducible rfl
                      go_simp
                      refine hK _ ?_
                      clear hK K
                      refine qd_nil ?_
                      intro w6 h6
                      go_wp2_with (fail)
                      go_meet
                      exact ⟨by rw [hres], h6⟩
                  · have p2 : ((f i).kind == 3) = false := by simp [q2]
                    have hres : (decide ((f i).who = (f k).who) || (decide ((f i).kind = 3) && decide ((f k).kind = 4) && decide ((f i).place = (f k).place))) = false := by simp [q1, q2]
                    refine quiet_all (fun w' => Below w5.heap.size w5 w') (by kernel_rfl) (by kernel_rfl) (Below.drew (Below.refl _ _)) ?_
                    refine q_run rfl (fun K hK => ?_)
                    refine q_value ?_ (fun w' h' => ?_) ?_
                    rotate_left
                    · go_simp; try with_reducible rfl
                    go_simp
                    refine hK _ ?_
                    clear hK K
                    refine q_run rfl (fun K hK => ?_)
                    refine q_value ?_ (fun w' h' => ?_) ?_
                    rotate_left
                    · go_simp; try with_reducible rfl
                    go_simp
                    refine hK _ ?_
                    clear hK K
                    refine q_run rfl (fun K hK => ?_)
                    refine q_value ?_ (fun w' h' => ?_) ?_
                    rotate_left
                    · go_simp; try with_reducible rfl
                    go_simp
                    refine hK _ ?_
                    clear hK K
                    refine q_run rfl (fun K hK => ?_)
                    refine q_value ?_ (fun w' h' => ?_) ?_
                    rotate_left
                    · go_simp; try with_reducible rfl
                    go_simp
                    refine hK _ ?_
                    clear hK K
                    refine q_run rfl (fun K hK => ?_)
                    refine q_value ?_ (fun w' h' => ?_) ?_
                    rotate_left
                    · obtain ⟨c0, c1, c2⟩ := at_act hAr h' hik; go_simp; try with_reducible rfl
                    go_simp
                    refine hK _ ?_
                    clear hK K
                    refine q_run rfl (fun K hK => ?_)
                    refine q_value ?_ (fun w' h' => ?_) ?_
                    rotate_left
                    · go_simp; try with_reducible rfl
                    go_simp
                    refine hK _ ?_
                    clear hK K
                    refine q_run rfl (fun K hK => ?_)
                    refine q_value ?_ (fun w' h' => ?_) ?_
                    rotate_left
                    · go_simp; try with_reducible rfl
                    go_simp
                    refine hK _ ?_
                    clear hK K
                    refine q_run rfl (fun K hK => ?_)
                    refine q_value ?_ (fun w' h' => ?_) ?_
                    rotate_left
                    · go_simp; try with_reducible rfl
                    go_simp
                    refine hK _ ?_
                    clear hK K
                    refine q_run rfl (fun K hK => ?_)
                    refine q_value ?_ (fun w' h' => ?_) ?_
                    rotate_left
                    · go_simp; try with_reducible rfl
                    go_simp
                    refine hK _ ?_
                    clear hK K
                    refine q_run rfl (fun K hK => ?_)
                    refine q_value ?_ (fun w' h' => ?_) ?_
                    rotate_left
                    · obtain ⟨c0, c1, c2⟩ := at_act hAr h' hlt; go_simp; try with_reducible rfl
                    go_simp
                    refine hK _ ?_
                    clear hK K
                    refine q_run rfl (fun K hK => ?_)
                    refine q_value ?_ (fun w' h' => ?_) ?_
                    rotate_left
                    · go_simp; try with_reducible rfl
                    go_simp
                    refine hK _ ?_
                    clear hK K
                    refine q_run rfl (fun K hK => ?_)
                    refine q_value ?_ (fun w' h' => ?_) ?_
                    rotate_left
                    · go_simp; try with_reducible rfl
                    go_simp
                    refine hK _ ?_
                    clear hK K
                    refine q_run rfl (fun K hK => ?_)
                    refine q_value ?_ (fun w' h' => ?_) ?_
                    rotate_left
                    · go_simp; try with_reducible rfl
                    go_simp
                    refine hK _ ?_
                    clear hK K
                    refine q_run rfl (fun K hK => ?_)
                    refine q_value ?_ (fun w' h' => ?_) ?_
                    rotate_left
                    · go_simp; try with_reducible rfl
                    go_simp
                    refine hK _ ?_
                    clear hK K
                    refine q_run rfl (fun K hK => ?_)
                    refine q_value ?_ (fun w' h' => ?_) ?_
                    rotate_left
                    · go_simp; try with_reducible rfl
                    go_simp
                    refine hK _ ?_
                    clear hK K
                    refine q_run rfl (fun K hK => ?_)
                    refine q_value ?_ (fun w' h' => ?_) ?_
                    rotate_left
                    · go_simp; try with_reducible rfl
                    go_simp
                    refine hK _ ?_
                    clear hK K
                    refine q_run rfl (fun K hK => ?_)
                    refine q_value ?_ (fun w' h' => ?_) ?_
                    rotate_left
                    · obtain ⟨c0, c1, c2⟩ := at_act hAr h' hik; go_simp; try with_reducible rfl
                    go_simp
                    refine hK _ ?_
                    clear hK K
                    refine q_run rfl (fun K hK => ?_)
                    refine q_value ?_ (fun w' h' => ?_) ?_
                    rotate_left
                    · go_simp; try with_reducible rfl
                    go_simp
                    refine hK _ ?_
                    clear hK K
                    refine q_run rfl (fun K hK => ?_)
                    refine q_value ?_ (fun w' h' => ?_) ?_
                    rotate_left
                    · go_simp; try with_reducible rfl
                    go_simp
                    refine hK _ ?_
                    clear hK K
                    refine q_skip rfl (fun K hK => ?_)
                    go_simp
                    refine hK _ ?_
                    clear hK K
                    refine q_skip rfl (fun K hK => ?_)
                    go_simp
                    refine hK _ ?_
                    clear hK K
                    refine q_skip rfl (fun K hK => ?_)
                    go_simp
                    refine hK _ ?_
                    clear hK K
                    refine q_skip rfl (fun K hK => ?_)
                    go_simp
                    refine hK _ ?_
                    clear hK K
                    refine q_skip rfl (fun K hK => ?_)
                    go_simp
                    refine hK _ ?_
                    clear hK K
                    refine q_skip rfl (fun K hK => ?_)
                    go_simp
                    refine hK _ ?_
                    clear hK K
                    refine q_run rfl (fun K hK => ?_)
                    refine q_value ?_ (fun w' h' => ?_) ?_
                    rotate_left
                    · go_simp; try with_reducible rfl
                    go_simp
                    refine hK _ ?_
                    clear hK K
                    refine q_run rfl (fun K hK => ?_)
                    refine q_value ?_ (fun w' h' => ?_) ?_
                    rotate_left
                    · go_simp; try with_reducible rfl
                    go_simp
                    refine hK _ ?_
                    clear hK K
                    refine q_skip rfl (fun K hK => ?_)
                    go_simp
                    refine hK _ ?_
                    clear hK K
                    refine q_skip rfl (fun K hK => ?_)
                    go_simp
                    refine hK _ ?_
                    clear hK K
                    refine q_skip rfl (fun K hK => ?_)
                    go_simp
                    refine hK _ ?_
                    clear hK K
                    refine q_skip rfl (fun K hK => ?_)
                    go_simp
                    refine hK _ ?_
                    clear hK K
                    refine q_skip rfl (fun K hK => ?_)
                    go_simp
                    refine hK _ ?_
                    clear hK K
                    refine q_skip rfl (fun K hK => ?_)
                    go_simp
                    refine hK _ ?_
                    clear hK K
                    refine q_skip rfl (fun K hK => ?_)
                    go_simp
                    refine hK _ ?_
                    clear hK K
                    refine q_skip rfl (fun K hK => ?_)
                    go_simp
                    refine hK _ ?_
                    clear hK K
                    refine q_skip rfl (fun K hK => ?_)
                    go_simp
                    refine hK _ ?_
                    clear hK K
                    refine q_skip rfl (fun K hK => ?_)
                    go_simp
                    refine hK _ ?_
                    clear hK K
                    refine q_skip rfl (fun K hK => ?_)
                    go_simp
                    refine hK _ ?_
                    clear hK K
                    refine q_run rfl (fun K hK => ?_)
                    refine q_value ?_ (fun w' h' => ?_) ?_
                    rotate_left
                    · go_simp; try with_reducible rfl
                    go_simp
                    refine hK _ ?_
                    clear hK K
                    refine q_run rfl (fun K hK => ?_)
                    refine q_value ?_ (fun w' h' => ?_) ?_
                    rotate_left
                    · go_simp; try with_reducible rfl
                    go_simp
                    refine hK _ ?_
                    clear hK K
                    refine qd_nil ?_
                    intro w6 h6
                    go_wp2_with (fail)
                    go_meet
                    exact ⟨by rw [hres], h6⟩
              case rest =>
                obtain ⟨rfl, h6⟩ := hcut
                obtain ⟨w6, hx6⟩ : ∃ x, x = wc := ⟨_, rfl⟩
                subst hx6
                replace X := keep X h6
                replace hbx := hbx.trans (h6.mono hbx.size)
                clear h6 hAr
                cases ed : (decide ((f i).who = (f k).who) || (decide ((f i).kind = 3) && decide ((f k).kind = 4) && decide ((f i).place = (f k).place)))
                · have hnd : ¬ Plain.D f i k := fun h => by rw [hD.2 h] at ed; cases ed
                  go_wp2
                  go_roundw
                  case rel => exact ⟨i + 1, by omega, by go_num, hbx, by rw [rowf_skip hnd]; exact X⟩
                  case measure => simp [intOf]; omega
                · have hyd : Plain.D f i k := hD.1 ed
                  clear ed hD
                  go_upto_region 11 with (fail)
                  refine wp_region_lit ?_
                  iterate 3
                    refine wl_val rfl ?_ ?_ ?_
                    rotate_left
                    · go_simp; try with_reducible rfl
                    intro K hK
                    go_simp
                    refine hK _ _ ?_
                    clear hK K
                  refine wl_stbool rfl (.tmp 78) (.const (.bool true)) rfl r i n true (rowf f k i) rfl rfl X hik (fun w7 X7 m7 q7 => ?_)
                  intro K hK
                  go_simp
                  refine hK _ _ ?_
                  clear hK K
                  rw [rowm_zero] at X7
                  have hbx7 : Below w0.heap.size w0 w7 := hbx.trans (q7 _ (by omega))
                  clear m7 q7 X
                  go_upto_region 13 with (fail)
                  go_loopw [7] (fun j wx => ∃ j' : Nat, j' ≤ i ∧ j = .int .i64 j' ∧ Below w0.heap.size w0 wx ∧ wx.heap[r]? = some (.cells (brow n (rowm f k i j')) 4 (0, 0))) (fun j _ => i - (intOf j).toNat)
                  case atStart => exact ⟨0, by omega, rfl, hbx7, X7⟩
                  case round =>
                    clear X7 hbx7 hbx
                    obtain ⟨j, hj, rfl, hbx8, X8⟩ := hrel
                    by_cases hji : j < i
                    · have hjn : j < n := by omega
                      have lj : (j : Int) < i := by omega
                      have lj0 : (0 : Int) ≤ j := by omega
                      have lj2 : (j : Int) < n := by omega
                      go_upto_region 15 with (fail)
                      cases er : rowm f k i j j
                      · refine plain_head 16 (fun w' => Below wr.heap.size wr w') (Below.refl _ _) ?_
                        simp only [List.take_succ_cons, List.take_zero, List.drop_succ_cons, List.drop_zero]
                        refine q_run rfl (fun K hK => ?_)
                        refine q_value ?_ (fun w' h' => ?_) ?_
                        rotate_left
                        · go_simp; try with_reducible rfl
                        go_simp
                        refine hK _ ?_
                        clear hK K
                        refine q_run rfl (fun K hK => ?_)
                        refine q_value ?_ (fun w' h' => ?_) ?_
                        rotate_left
                        · go_simp; try with_reducible rfl
                        go_simp
                        refine hK _ ?_
                        clear hK K
                        refine q_run rfl (fun K hK => ?_)
                        refine q_value ?_ (fun w' h' => ?_) ?_
                        rotate_left
                        · go_simp; try with_reducible rfl
                        go_simp
                        refine hK _ ?_
                        clear hK K
                        refine q_run rfl (fun K hK => ?_)
                        refine q_value ?_ (fun w' h' => ?_) ?_
                        rotate_left
                        · go_simp; try with_reducible rfl
                        go_simp
                        refine hK _ ?_
                        clear hK K
                        refine q_run rfl (fun K hK => ?_)
                        refine q_value ?_ (fun w' h' => ?_) ?_
                        rotate_left
                        · go_simp; try with_reducible rfl
                        go_simp
                        refine hK _ ?_
                        clear hK K
                        refine q_run rfl (fun K hK => ?_)
                        refine q_value ?_ (fun w' h' => ?_) ?_
                        rotate_left
                        · have c := (cell_of_row w' r j _ 4 _ (keep X8 h')).trans (brow_at n _ j hjn); rw [er] at c; go_simp; try with_reducible rfl
                        go_simp
                        refine hK _ ?_
                        clear hK K
                        refine q_run rfl (fun K hK => ?_)
                        refine q_value ?_ (fun w' h' => ?_) ?_
                        rotate_left
                        · go_simp; try with_reducible rfl
                        go_simp
                        refine hK _ ?_
                        clear hK K
                        refine q_run rfl (fun K hK => ?_)
                        refine q_value ?_ (fun w' h' => ?_) ?_
                        rotate_left
                        · go_simp; try with_reducible rfl
                        go_simp
                        refine hK _ ?_
                        clear hK K
                        refine q_run rfl (fun K hK => ?_)
                        refine q_value ?_ (fun w' h' => ?_) ?_
                        rotate_left
                        · go_simp; try with_reducible rfl
                        go_simp
                        refine hK _ ?_
                        clear hK K
                        refine q_run rfl (fun K hK => ?_)
                        refine q_value ?_ (fun w' h' => ?_) ?_
                        rotate_left
                        · go_simp; try with_reducible rfl
                        go_simp
                        refine hK _ ?_
                        clear hK K
                        refine q_run rfl (fun K hK => ?_)
                        refine q_value ?_ (fun w' h' => ?_) ?_
                        rotate_left
                        · have c := ((hOr.below hbx8).below h').ptr0 i (by omega) rfl; unfold rowV at c; go_simp; try with_reducible rfl
                        go_simp
                        refine hK _ ?_
                        clear hK K
                        refine q_run rfl (fun K hK => ?_)
                        refine q_value ?_ (fun w' h' => ?_) ?_
                        rotate_left
                        · go_simp; try with_reducible rfl
                        go_simp
                        refine hK _ ?_
                        clear hK K
                        refine q_run rfl (fun K hK => ?_)
                        refine q_value ?_ (fun w' h' => ?_) ?_
                        rotate_left
                        · go_simp; try with_reducible rfl
                        go_simp
                        refine hK _ ?_
                        clear hK K
                        refine q_run rfl (fun K hK => ?_)
                        refine q_value ?_ (fun w' h' => ?_) ?_
                        rotate_left
                        · have c := (cell_of_row w' (R i) j _ 4 _ (((hOr.below hbx8).below h').2 i (by omega)).2).trans (brow_at n _ j hjn); go_simp; try with_reducible rfl
                        go_simp
                        refine hK _ ?_
                        clear hK K
                        refine q_run rfl (fun K hK => ?_)
                        refine q_value ?_ (fun w' h' => ?_) ?_
                        rotate_left
                        · go_simp; try with_reducible rfl
                        go_simp
                        refine hK _ ?_
                        clear hK K
                        refine q_run rfl (fun K hK => ?_)
                        refine q_value ?_ (fun w' h' => ?_) ?_
                        rotate_left
                        · go_simp; try with_reducible rfl
                        go_simp
                        refine hK _ ?_
                        clear hK K
                        refine qd_nil ?_
                        intro w9 h9
                        refine wl_stbool rfl (.tmp 99) (.tmp 98) rfl r j n (kn f j i) (rowm f k i j) rfl rfl (keep X8 h9) hjn (fun w10 X10 m10 q10 => ?_)
                        intro K hK
                        go_simp
                        refine hK _ _ ?_
                        clear hK K
                        have hbx10 : Below w0.heap.size w0 w10 := (hbx8.trans (h9.mono hbx8.size)).trans (q10 _ (by omega))
                        rw [rowm_step hji _ (by rw [er]; simp)] at X10
                        go_wp2
                        go_roundw
                        case rel => exact ⟨j + 1, by omega, by go_num, hbx10, X10⟩
                        case measure => simp [intOf]; omega
                      · refine plain_head 16 (fun w' => Below wr.heap.size wr w') (Below.refl _ _) ?_
                        simp only [List.take_succ_cons, List.take_zero, List.drop_succ_cons, List.drop_zero]
                        refine q_run rfl (fun K hK => ?_)
                        refine q_value ?_ (fun w' h' => ?_) ?_
                        rotate_left
                        · go_simp; try with_reducible rfl
                        go_simp
                        refine hK _ ?_
                        clear hK K
                        refine q_run rfl (fun K hK => ?_)
                        refine q_value ?_ (fun w' h' => ?_) ?_
                        rotate_left
                        · go_simp; try with_reducible rfl
                        go_simp
                        refine hK _ ?_
                        clear hK K
                        refine q_run rfl (fun K hK => ?_)
                        refine q_value ?_ (fun w' h' => ?_) ?_
                        rotate_left
                        · go_simp; try with_reducible rfl
                        go_simp
                        refine hK _ ?_
                        clear hK K
                        refine q_run rfl (fun K hK => ?_)
                        refine q_value ?_ (fun w' h' => ?_) ?_
                        rotate_left
                        · go_simp; try with_reducible rfl
                        go_simp
                        refine hK _ ?_
                        clear hK K
                        refine q_run rfl (fun K hK => ?_)
                        refine q_value ?_ (fun w' h' => ?_) ?_
                        rotate_left
                        · go_simp; try with_reducible rfl
                        go_simp
                        refine hK _ ?_
                        clear hK K
                        refine q_run rfl (fun K hK => ?_)
                        refine q_value ?_ (fun w' h' => ?_) ?_
                        rotate_left
                        · have c := (cell_of_row w' r j _ 4 _ (keep X8 h')).trans (brow_at n _ j hjn); rw [er] at c; go_simp; try with_reducible rfl
                        go_simp
                        refine hK _ ?_
                        clear hK K
                        refine q_run rfl (fun K hK => ?_)
                        refine q_value ?_ (fun w' h' => ?_) ?_
                        rotate_left
                        · go_simp; try with_reducible rfl
                        go_simp
                        refine hK _ ?_
                        clear hK K
                        refine q_skip rfl (fun K hK => ?_)
                        go_simp
                        refine hK _ ?_
                        clear hK K
                        refine q_skip rfl (fun K hK => ?_)
                        go_simp
                        refine hK _ ?_
                        clear hK K
                        refine q_skip rfl (fun K hK => ?_)
                        go_simp
                        refine hK _ ?_
                        clear hK K
                        refine q_skip rfl (fun K hK => ?_)
                        go_simp
                        refine hK _ ?_
                        clear hK K
                        refine q_skip rfl (fun K hK => ?_)
                        go_simp
                        refine hK _ ?_
                        clear hK K
                        refine q_skip rfl (fun K hK => ?_)
                        go_simp
                        refine hK _ ?_
                        clear hK K
                        refine q_skip rfl (fun K hK => ?_)
                        go_simp
                        refine hK _ ?_
                        clear hK K
                        refine q_run rfl (fun K hK => ?_)
                        refine q_value ?_ (fun w' h' => ?_) ?_
                        rotate_left
                        · go_simp; try with_reducible rfl
                        go_simp
                        refine hK _ ?_
                        clear hK K
                        refine q_run rfl (fun K hK => ?_)
                        refine q_value ?_ (fun w' h' => ?_) ?_
                        rotate_left
                        · go_simp; try with_reducible rfl
                        go_simp
                        refine hK _ ?_
                        clear hK K
                        refine qd_nil ?_
                        intro w9 h9
                        refine wl_stbool rfl (.tmp 99) (.tmp 98) rfl r j n true (rowm f k i j) rfl rfl (keep X8 h9) hjn (fun w10 X10 m10 q10 => ?_)
                        intro K hK
                        go_simp
                        refine hK _ _ ?_
                        clear hK K
                        have hbx10 : Below w0.heap.size w0 w10 := (hbx8.trans (h9.mono hbx8.size)).trans (q10 _ (by omega))
                        rw [rowm_step hji _ (by rw [er]; simp)] at X10
                        go_wp2
                        go_roundw
                        case rel => exact ⟨j + 1, by omega, by go_num, hbx10, X10⟩
                        case measure => simp [intOf]; omega
                    · have lj : ¬ (j : Int) < i := by omega
                      have hjj : j = i := by omega
                      subst hjj
                      rw [rowm_all hyd] at X8
                      go_wp2
                      go_roundw
                      case rel => exact ⟨j + 1, by omega, by go_num, hbx8, X8⟩
                      case measure => simp [intOf]; omega
            · have hnd : ¬ Plain.D f i k := fun h => by
                have h1 := h.1
                have h2 := h.2.1
                simp [h1, h2] at eq
              go_wp2
              go_roundw
              case rel => exact ⟨i + 1, by omega, by go_num, hbx, by rw [rowf_skip hnd]; exact X⟩
              case measure => simp [intOf]; omega
        · have hik2 : i = k := by omega
          subst hik2
          have li : ¬ (i : Int) < i := by omega
          rw [rowf_all] at X
          have hOx := hOr.below hbx
          have hbw := hb.trans (hbx.mono hb.size)
          go_upto_region 16 with (fail)
          refine wp_region_lit ?_
          iterate 2
            refine wl_val rfl ?_ ?_ ?_
            rotate_left
            · go_simp; try with_reducible rfl
            intro K hK
            go_simp
            refine hK _ _ ?_
            clear hK K
          refine wl_brow rfl (.tmp 101) rfl n r rfl (fun w11 b11 X11 h11 => ?_)
          intro K hK
          go_simp
          refine hK _ _ ?_
          clear hK K
          have hb11 := hbw.trans (h11.mono hbw.size)
          refine wl_aprow rfl (.tmp 100) (.tmp 102) rfl w.heap.size _ i n R f rfl (hOx.below h11) b11 r rfl X11 (keep X h11) hr (by omega) hb11.size (fun v12 w12 O12 g12 => ?_)
          have hb12 := hb11.grown g12 hb11.size (hOx.below h11).lt
          intro K hK
          go_simp
          refine hK _ _ ?_
          clear hK K
          refine wl_val rfl v12 ?_ ?_
          · go_simp
          intro K hK
          go_simp
          refine hK _ _ ?_
          clear hK K
          clear g12 X11 h11 hb11 X hOx hbw
          go_wp2
          go_roundw
          case rel => exact ⟨i + 1, _, by omega, by go_num, O12, hb12⟩
          case measure => simp [intOf]; omega
    · have hl : ¬ (k : Int) < n := by omega
      have hkn : k = n := by omega
      subst hkn
      obtain ⟨O, c, rfl⟩ := hO.val
      go_wp2
      go_ret
      exact ⟨O, ⟨c, rfl⟩, hO.rows, hb⟩
end Go.Proofs.Ytnchafbaipeagaa
