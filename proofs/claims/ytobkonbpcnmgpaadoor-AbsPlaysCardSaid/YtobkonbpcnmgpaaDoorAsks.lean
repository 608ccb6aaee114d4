/- A slice of asks in memory; a number stored in a field. -/
import Derived.Test.YtobkonbpcnmgpaaDoorMany
import Derived.Test.YtobkonbpcnmgpaaDoorDoAll
namespace Go.Proofs.YtobkonbpcnmgpaaDoor
open Go.RowKit
set_option linter.unusedVariables false
set_option linter.unusedSimpArgs false
def Asks (w : World) (V : Option Addr) (n : Nat) (f : Nat → Ak) : Prop := 0 < n → ∃ b off, V = some ⟨b, off, none⟩ ∧ b < w.heap.size ∧ ∀ i, i < n → (w.cell? ⟨b, off + i * 6, none⟩ = some (.int .i64 (f i).who) ∧ w.cell? ⟨b, off + i * 6 + 1, none⟩ = some (.int .i64 (f i).obj) ∧ w.cell? ⟨b, off + i * 6 + 2, none⟩ = some (.int .i64 (f i).call) ∧ w.cell? ⟨b, off + i * 6 + 3, none⟩ = some (.int .i64 (f i).part) ∧ w.cell? ⟨b, off + i * 6 + 4, none⟩ = some (.int .u32 (f i).arg) ∧ w.cell? ⟨b, off + i * 6 + 5, none⟩ = some (.int .u32 (f i).val)) ∧ 0 ≤ (f i).arg ∧ (f i).arg ≤ 4294967295
theorem Asks.below {w w' : World} {V : Option Addr} {n : Nat} {f : Nat → Ak} (h : Asks w V n f) (hb : Below w.heap.size w w') : Asks w' V n f := fun hn => by
  obtain ⟨b, off, e, hlt, hc⟩ := h hn
  refine ⟨b, off, e, Nat.lt_of_lt_of_le hlt hb.size, fun i hi => ?_⟩
  rw [hb.cell (p := ⟨b, off + i * 6, none⟩) hlt, hb.cell (p := ⟨b, off + i * 6 + 1, none⟩) hlt, hb.cell (p := ⟨b, off + i * 6 + 2, none⟩) hlt, hb.cell (p := ⟨b, off + i * 6 + 3, none⟩) hlt, hb.cell (p := ⟨b, off + i * 6 + 4, none⟩) hlt, hb.cell (p := ⟨b, off + i * 6 + 5, none⟩) hlt]
  exact hc i hi
theorem ask_ptr {w : World} {V : Option Addr} {n : Nat} {f : Nat → Ak} (h : Asks w V n f) (hn : 0 < n) : ∃ b off, V = some ⟨b, off, none⟩ := by
  obtain ⟨b, off, e, _⟩ := h hn; exact ⟨b, off, e⟩
theorem at_ask {w : World} {b off n : Nat} {f : Nat → Ak} {i : Nat} (h : Asks w (some ⟨b, off, none⟩) n f) (hi : i < n) : (w.cell? ⟨b, off + i * 6, none⟩ = some (.int .i64 (f i).who) ∧ w.cell? ⟨b, off + i * 6 + 1, none⟩ = some (.int .i64 (f i).obj) ∧ w.cell? ⟨b, off + i * 6 + 2, none⟩ = some (.int .i64 (f i).call) ∧ w.cell? ⟨b, off + i * 6 + 3, none⟩ = some (.int .i64 (f i).part) ∧ w.cell? ⟨b, off + i * 6 + 4, none⟩ = some (.int .u32 (f i).arg) ∧ w.cell? ⟨b, off + i * 6 + 5, none⟩ = some (.int .u32 (f i).val)) ∧ 0 ≤ (f i).arg ∧ (f i).arg ≤ 4294967295 := by
  obtain ⟨b', off', e, _, hc⟩ := h (by omega)
  cases e
  exact hc i hi
theorem run_ldask {o : Oper} {a : Act} {w : World} {n : Nat} {f : Nat → Ak} (y : Operand) (ho : o.op = .load 34 y) (b off i : Nat) (hA : Asks w (some ⟨b, off, none⟩) n f) (hi : i < n) (hx : a.eval y = .pointer (some ⟨b, off + i * 6, none⟩)) : (execOp a.eval o).run Tryd.prog w = .ok (.value (akV (f i))) w := by
  obtain ⟨⟨h0, h1, h2, h3, h4, h5⟩, _⟩ := at_ask hA hi
  have hl : (loadCells ⟨b, off + i * 6, none⟩ 6).run Tryd.prog w = .ok (akC (f i)) w := by
    have := run_loadCells_list (P := Tryd.prog) w ⟨b, off + i * 6, none⟩ [.int .i64 (f i).who, .int .i64 (f i).obj, .int .i64 (f i).call, .int .i64 (f i).part, .int .u32 (f i).arg, .int .u32 (f i).val] (fun j v hv => by
      rw [add_off]
      match j, hv with
      | 0, hv => simp at hv; rw [← hv]; exact h0
      | 1, hv => simp at hv; rw [← hv]; exact h1
      | 2, hv => simp at hv; rw [← hv]; exact h2
      | 3, hv => simp at hv; rw [← hv]; exact h3
      | 4, hv => simp at hv; rw [← hv]; exact h4
      | 5, hv => simp at hv; rw [← hv]; exact h5
      | j + 6, hv => simp at hv)
    exact this
  have e1 := Tryd.isAgg34
  have e2 := Tryd.sizeOf34
  unfold execOp
  simp only [ho, hx, Instr.loadAt, Instr.sureAddr, Sem.run_bind, Sem.run_pure, Result.andThen_ok]
  unfold loadVar
  simp only [Sem.run_bind, e1, e2, Result.andThen_ok, if_true, hl, Sem.run_pure]
  rfl
theorem wl_sti {ops : Array Oper} {Q : Exit → Act → World → Prop} {rest : List Oper} {o : Oper} {a : Act} {w : World} (hgd : o.guard = none) (x y : Operand) (ho : o.op = .store 3 x y) (b q : Nat) (cs : Array Value) (t : TypeId) (v : Int) (hq : q < cs.size) (hx : a.eval x = .pointer (some ⟨b, q, none⟩)) (hy : a.eval y = .int .i64 v) (hg : w.heap[b]? = some (.cells cs t (0, 0)))
    (hh : ∀ w', w'.heap[b]? = some (.cells (cs.setIfInBounds q (.int .i64 v)) t (0, 0)) → (∀ k, k ≠ b → w'.heap[k]? = w.heap[k]?) → (∀ B, B ≤ b → Below B w w') → ∀ K : Act → World → Prop, (∀ a w, wpList Tryd.prog ops Q rest a w → K a w) → K (a.put o.dst undef) w') : wpList Tryd.prog ops Q (o :: rest) a w := by
  refine wpList_plain hgd fun K hK => ?_
  have hc : w.cell? ⟨b, q, none⟩ = some (cs[q]'hq) := by rw [cell_of_row w b q cs t _ hg]; exact Array.getElem?_eq_getElem hq
  have hf := frozen_of_row w b q _ t hg
  have hsz := Tryd.sizeOf3
  have hst := st_int v w ⟨b, q, none⟩ _ hc hf
  unfold Oper.wp execOp
  simp only [ho, hx, hy, Instr.storeAt, Instr.sureAddr, Sem.run_bind, Sem.run_pure, Result.andThen_ok]
  have hsv : (storeVar 3 ⟨b, q, none⟩ (.int .i64 v)).run Tryd.prog w = .ok () (w.setCell ⟨b, q, none⟩ (.int .i64 v)) := by
    unfold storeVar
    have hv : (Value.int .i64 v).cells = #[.int .i64 v] := rfl
    simp only [Sem.run_bind, hsz, hv, Result.andThen_ok]
    simp [storeCells, add_off, hst]
  rw [hsv]
  exact hh _ (heap_setCell_same w b q cs t _ hg) (fun k hk => heap_setCell_other _ _ k _ hk) (fun B hB => (Below.refl B w).setCell (p := ⟨b, q, none⟩) hB _) K hK
theorem mac_in {t : Int} {n : Nat} {S : Nat → St} {x : Ak} {i : Nat} (hi : i < n) (hx : x.obj = i) : mac t n S x = ⟨updS S i (goA t (S i) x).s, (goA t (S i) x).r, (goA t (S i) x).ok, goD t (S i) x, (S i).data⟩ := by
  unfold mac
  rw [if_pos (by omega), show x.obj.toNat = i by omega]
theorem mac_out {t : Int} {n : Nat} {S : Nat → St} {x : Ak} (h : ¬ (0 ≤ x.obj ∧ x.obj < n)) : mac t n S x = ⟨S, 0, false, 0, fun _ => 0⟩ := if_neg h
end Go.Proofs.YtobkonbpcnmgpaaDoor
