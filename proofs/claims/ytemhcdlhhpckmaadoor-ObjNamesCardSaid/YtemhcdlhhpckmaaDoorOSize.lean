/- obj.Size; lists of objects. -/
import Derived.Test.YtemhcdlhhpckmaaDoorORefFirst
namespace Go.Proofs.YtemhcdlhhpckmaaDoor
open Go.RowKit
set_option linter.unusedVariables false
set_option linter.unusedSimpArgs false
theorem objFirstN (x : O) (t : Int) (hR : ¬ RP x t) (w : World) (h : NmW w) : Calls Tryd.prog 15 #[ov x, .int .i64 t] w fun e w' => e = .returned (.slice none 0 0) ∧ Below w.heap.size w w' := by
  have hr := rb_f hR
  unfold ov at *
  go_enter Tryd.func15, Tryd.ntmps15
  go_wp2_with fail
  refine (objRight x t _ (h.below ((Below.refl _ _).alloc (Nat.le_refl _) _))).mono ?_
  rintro e w1 ⟨rfl, hb1⟩
  rw [hr]
  go_wp2
  go_ret
  exact ⟨rfl, ((Below.refl _ _).alloc (Nat.le_refl _) _).trans (hb1.mono (by simp))⟩
/-- how many words an object has -/
def szP (x : O) (t : Int) : Nat := if RP x t then (firstL x t.toNat).length else 0
theorem letterW_le (k n : Int) (t c : Nat) (ht : t ≤ 8) : (letterW k n t c).length ≤ 8 := by
  unfold letterW; rw [List.length_map, List.length_range]; split <;> omega
theorem flat_le (k n : Int) (t : Nat) (ht : t ≤ 8) : ∀ l : List Nat, (l.flatMap (letterW k n t)).length ≤ 8 * l.length
  | [] => by simp
  | c :: l => by
    rw [List.flatMap_cons, List.length_append, List.length_cons]
    have := letterW_le k n t c ht
    have := flat_le k n t ht l
    omega
theorem szP_le (x : O) (t : Int) : szP x t ≤ 60 := by
  unfold szP
  split
  · rename_i hR
    have h3 := hR.2.2
    have h1 := hR.1
    have h2 := hR.2.1
    have hl := (ws_size x.k.toNat (by omega)).2
    have hf := flat_le x.k x.n t.toNat (by omega) (lettersOf x.k.toNat)
    unfold firstL
    rw [List.length_append]
    split
    · rename_i h9
      rw [List.length_replicate]; omega
    · simp only [List.length_nil]; omega
  · omega
theorem objSize (x : O) (t : Int) (w : World) (h : NmW w) : Calls Tryd.prog 9 #[ov x, .int .i64 t] w fun e w' => e = .returned (.int .i64 (szP x t)) ∧ Below w.heap.size w w' := by
  have hw := (Below.refl w.heap.size w).alloc (Nat.le_refl _) (.cells #[.int .i64 x.k, .int .i64 x.n, .int .i64 x.a, .int .i64 x.b] 27)
  by_cases hR : RP x t
  · have h1 := hR.1
    obtain ⟨t, rfl⟩ : ∃ j : Nat, t = j := ⟨t.toNat, by omega⟩
    have hs : szP x t = (firstL x t).length := by unfold szP; rw [if_pos hR, Int.toNat_natCast]
    have hF := objFirst x t hR _ (h.below hw)
    rw [hs]
    unfold ov at *
    go_enter Tryd.func9, Tryd.ntmps9
    go_wp2_with fail
    refine hF.mono ?_
    rintro e w1 ⟨V, c, rfl, _, hb1⟩
    go_wp2
    go_ret
    exact ⟨rfl, hw.trans (hb1.mono (by simp))⟩
  · have hs : szP x t = 0 := by unfold szP; rw [if_neg hR]
    have hF := objFirstN x t hR _ (h.below hw)
    rw [hs]
    unfold ov at *
    go_enter Tryd.func9, Tryd.ntmps9
    go_wp2_with fail
    refine hF.mono ?_
    rintro e w1 ⟨rfl, hb1⟩
    go_wp2
    go_ret
    exact ⟨rfl, hw.trans (hb1.mono (by simp))⟩
/-! ### lists of objects -/
def Objs (w : World) (A : Option Addr) (n : Nat) (f : Nat → O) : Prop :=
  0 < n → ∃ b off, A = some ⟨b, off, none⟩ ∧ b < w.heap.size ∧ ∀ i, i < n → w.cell? ⟨b, off + i * 4, none⟩ = some (.int .i64 (f i).k) ∧ w.cell? ⟨b, off + i * 4 + 1, none⟩ = some (.int .i64 (f i).n) ∧ w.cell? ⟨b, off + i * 4 + 2, none⟩ = some (.int .i64 (f i).a) ∧ w.cell? ⟨b, off + i * 4 + 3, none⟩ = some (.int .i64 (f i).b)
theorem Objs.below {w w' : World} {A : Option Addr} {n : Nat} {f : Nat → O} (h : Objs w A n f) (hb : Below w.heap.size w w') : Objs w' A n f := fun hn => by
  obtain ⟨b, off, e, hlt, hc⟩ := h hn
  refine ⟨b, off, e, Nat.lt_of_lt_of_le hlt hb.size, fun i hi => ?_⟩
  rw [hb.cell (p := ⟨b, off + i * 4, none⟩) hlt, hb.cell (p := ⟨b, off + i * 4 + 1, none⟩) hlt, hb.cell (p := ⟨b, off + i * 4 + 2, none⟩) hlt, hb.cell (p := ⟨b, off + i * 4 + 3, none⟩) hlt]
  exact hc i hi
theorem objs_ptr {w : World} {A : Option Addr} {n : Nat} {f : Nat → O} (h : Objs w A n f) (hn : 0 < n) : ∃ b off, A = some ⟨b, off, none⟩ := by
  obtain ⟨b, off, e, _⟩ := h hn
  exact ⟨b, off, e⟩
theorem at_obj {w w' : World} {b off n : Nat} {f : Nat → O} {i : Nat} (h : Objs w (some ⟨b, off, none⟩) n f) (hb : Below w.heap.size w w') (hi : i < n) :
    w'.cell? ⟨b, off + i * 4, none⟩ = some (.int .i64 (f i).k) ∧ w'.cell? ⟨b, off + i * 4 + 1, none⟩ = some (.int .i64 (f i).n) ∧ w'.cell? ⟨b, off + i * 4 + 2, none⟩ = some (.int .i64 (f i).a) ∧ w'.cell? ⟨b, off + i * 4 + 3, none⟩ = some (.int .i64 (f i).b) := by
  obtain ⟨b', off', e, _, hc⟩ := h.below hb (by omega)
  injection e with e; injection e with e1 e2
  subst e1 e2
  exact hc i hi
theorem run_ldobj {o : Oper} {a : Act} {w w0 : World} {n : Nat} {f : Nat → O} (y : Operand) (ho : o.op = .load 27 y) (b off i : Nat) (hA : Objs w0 (some ⟨b, off, none⟩) n f) (hb : Below w0.heap.size w0 w) (hi : i < n) (hx : a.eval y = .pointer (some ⟨b, off + i * 4, none⟩)) : (execOp a.eval o).run Tryd.prog w = .ok (.value (ov (f i))) w := by
  obtain ⟨h0, h1, h2, h3⟩ := at_obj hA hb hi
  have hl : (loadCells ⟨b, off + i * 4, none⟩ 4).run Tryd.prog w = .ok #[.int .i64 (f i).k, .int .i64 (f i).n, .int .i64 (f i).a, .int .i64 (f i).b] w := by
    have := run_loadCells_list (P := Tryd.prog) w ⟨b, off + i * 4, none⟩ [.int .i64 (f i).k, .int .i64 (f i).n, .int .i64 (f i).a, .int .i64 (f i).b] (fun j v hv => by
      rw [add_off]
      match j, hv with
      | 0, hv => simp at hv; rw [← hv]; exact h0
      | 1, hv => simp at hv; rw [← hv]; exact h1
      | 2, hv => simp at hv; rw [← hv]; exact h2
      | 3, hv => simp at hv; rw [← hv]; exact h3
      | j + 4, hv => simp at hv)
    exact this
  have e1 := Tryd.isAgg27
  have e2 := Tryd.sizeOf27
  unfold execOp
  simp only [ho, hx, Instr.loadAt, Instr.sureAddr, Sem.run_bind, Sem.run_pure, Result.andThen_ok]
  unfold loadVar
  simp only [Sem.run_bind, e1, e2, Result.andThen_ok, if_true, hl, Sem.run_pure]
  rfl
/-- where words stand -/
def bsP (f : Nat → O) (t : Int) : Nat → Nat
  | 0 => 16
  | k + 1 => bsP f t k + szP (f k) t
theorem bsP_le (f : Nat → O) (t : Int) : ∀ k, bsP f t k ≤ 16 + 60 * k
  | 0 => by simp [bsP]
  | k + 1 => by have := bsP_le f t k; have := szP_le (f k) t; simp only [bsP]; omega
def upTo (n : Nat) (i : Int) : Nat := min i.toNat n
end Go.Proofs.YtemhcdlhhpckmaaDoor
