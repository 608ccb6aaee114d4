/- States: arrays of a state loaded and stored; what a call does, plain. -/
import Derived.Test.YtobkonbpcnmgpaaDoorMach
namespace Go.Proofs.YtobkonbpcnmgpaaDoor
open Go.RowKit
set_option linter.unusedVariables false
set_option linter.unusedSimpArgs false
theorem Exc.below {g : Nat} {w0 w w' : World} (E : Exc g w0 w) (h : Below w.heap.size w w') : Exc g w0 w' := E.trans (Exc.of_below h)
theorem Exc.put {g b : Nat} {w0 w w' : World} (E : Exc g w0 w) (hb : w0.heap.size ≤ b) (m2 : ∀ k, k ≠ b → w'.heap[k]? = w.heap[k]?) (q : ∀ B, B ≤ b → Below B w w') : Exc g w0 w' :=
  ⟨fun B hm hB => (E.low B hm hB).trans (q B (by omega)), fun k hk hn => (m2 k (by omega)).trans (E.blk k hk hn)⟩
theorem cell_rd (s : St) {q : Nat} (h : q < 8) : cellS s (5 + q) = .bool (s.readers q) := by
  unfold cellS
  rw [if_neg (by omega), if_neg (by omega), if_pos (by omega), show 5 + q - 5 = q by omega]
theorem cell_dt (s : St) {q : Nat} (h : q < 3) : cellS s (13 + q) = .int .u32 (s.data q) := by
  unfold cellS
  rw [if_neg (by omega), if_neg (by omega), if_neg (by omega), if_pos (by omega), show 13 + q - 13 = q by omega]
theorem cell_df (s : St) {q : Nat} (h : q < 3) : cellS s (16 + q) = .int .u32 (s.draft q) := by
  unfold cellS
  rw [if_neg (by omega), if_neg (by omega), if_neg (by omega), if_neg (by omega), if_pos (by omega), show 16 + q - 16 = q by omega]
theorem cell_cm (s : St) {q : Nat} (h : q < 8) : cellS s (21 + q) = .int .i64 (s.come q) := by
  unfold cellS
  rw [if_neg (by omega), if_neg (by omega), if_neg (by omega), if_neg (by omega), if_neg (by omega), if_neg (by omega), if_neg (by omega), if_pos (by omega), show 21 + q - 21 = q by omega]
theorem cell_lf (s : St) {q : Nat} (h : q < 8) : cellS s (30 + q) = .int .i64 (s.left q) := by
  unfold cellS
  rw [if_neg (by omega), if_neg (by omega), if_neg (by omega), if_neg (by omega), if_neg (by omega), if_neg (by omega), if_neg (by omega), if_neg (by omega), if_neg (by omega), show 30 + q - 30 = q by omega]
section
variable {w : World} {g n i off : Nat} {S : Nat → St}
theorem Row.rd (h : Row w g n S) (hi : i < n) (ho : off = i * 38) {q : Nat} (hq : q < 8) : w.cell? ⟨g, off + 5 + q, none⟩ = some (.bool ((S i).readers q)) := by
  rw [Nat.add_assoc, h.cell hi (by omega) ho, cell_rd _ hq]
theorem Row.dt (h : Row w g n S) (hi : i < n) (ho : off = i * 38) {q : Nat} (hq : q < 3) : w.cell? ⟨g, off + 13 + q, none⟩ = some (.int .u32 ((S i).data q)) := by
  rw [Nat.add_assoc, h.cell hi (by omega) ho, cell_dt _ hq]
theorem Row.df (h : Row w g n S) (hi : i < n) (ho : off = i * 38) {q : Nat} (hq : q < 3) : w.cell? ⟨g, off + 16 + q, none⟩ = some (.int .u32 ((S i).draft q)) := by
  rw [Nat.add_assoc, h.cell hi (by omega) ho, cell_df _ hq]
theorem Row.cm (h : Row w g n S) (hi : i < n) (ho : off = i * 38) {q : Nat} (hq : q < 8) : w.cell? ⟨g, off + 21 + q, none⟩ = some (.int .i64 ((S i).come q)) := by
  rw [Nat.add_assoc, h.cell hi (by omega) ho, cell_cm _ hq]
theorem Row.lf (h : Row w g n S) (hi : i < n) (ho : off = i * 38) {q : Nat} (hq : q < 8) : w.cell? ⟨g, off + 30 + q, none⟩ = some (.int .i64 ((S i).left q)) := by
  rw [Nat.add_assoc, h.cell hi (by omega) ho, cell_lf _ hq]
theorem Row.own (h : Row w g n S) (hi : i < n) (ho : off = i * 38) : w.cell? ⟨g, off + 4, none⟩ = some (.int .i64 (S i).owner) := h.cell hi (by omega) ho
theorem Row.kd (h : Row w g n S) (hi : i < n) (ho : off = i * 38) : w.cell? ⟨g, off, none⟩ = some (.int .i64 (S i).o.k) := h.cell (k := 0) hi (by omega) ho
theorem Row.nn (h : Row w g n S) (hi : i < n) (ho : off = i * 38) : w.cell? ⟨g, off + 1, none⟩ = some (.int .i64 (S i).o.n) := h.cell hi (by omega) ho
theorem Row.aa (h : Row w g n S) (hi : i < n) (ho : off = i * 38) : w.cell? ⟨g, off + 2, none⟩ = some (.int .i64 (S i).o.a) := h.cell hi (by omega) ho
theorem Row.bb (h : Row w g n S) (hi : i < n) (ho : off = i * 38) : w.cell? ⟨g, off + 3, none⟩ = some (.int .i64 (S i).o.b) := h.cell hi (by omega) ho
theorem Row.ct (h : Row w g n S) (hi : i < n) (ho : off = i * 38) : w.cell? ⟨g, off + 19, none⟩ = some (.int .i64 (S i).count) := h.cell hi (by omega) ho
theorem Row.dn (h : Row w g n S) (hi : i < n) (ho : off = i * 38) : w.cell? ⟨g, off + 20, none⟩ = some (.bool (S i).done) := h.cell hi (by omega) ho
theorem Row.op (h : Row w g n S) (hi : i < n) (ho : off = i * 38) : w.cell? ⟨g, off + 29, none⟩ = some (.int .i64 (S i).opened) := h.cell hi (by omega) ho
theorem Row.congr {S' : Nat → St} (h : Row w g n S) (e : ∀ i, i < n → ∀ k, k < 38 → cellS (S i) k = cellS (S' i) k) : Row w g n S' := by
  obtain ⟨cs, hg, hc⟩ := h
  exact ⟨cs, hg, fun i hi k hk => (hc i hi k hk).trans (by rw [e i hi k hk])⟩
end
/-- three numbers loaded -/
theorem run_ld3 {o : Oper} {a : Act} {w : World} {g n i off : Nat} {S : Nat → St} (y : Operand) (ho : o.op = .load 61 y) (hR : Row w g n S) (hi : i < n) (hoff : off = i * 38) (hx : a.eval y = .pointer (some ⟨g, off + 16, none⟩)) : (execOp a.eval o).run Tryd.prog w = .ok (.value (.agg #[.int .u32 ((S i).draft 0), .int .u32 ((S i).draft 1), .int .u32 ((S i).draft 2)])) w := by
  have h0 := hR.df hi hoff (q := 0) (by omega)
  have h1 := hR.df hi hoff (q := 1) (by omega)
  have h2 := hR.df hi hoff (q := 2) (by omega)
  have hl : (loadCells ⟨g, off + 16, none⟩ 3).run Tryd.prog w = .ok #[.int .u32 ((S i).draft 0), .int .u32 ((S i).draft 1), .int .u32 ((S i).draft 2)] w := by
    have := run_loadCells_list (P := Tryd.prog) w ⟨g, off + 16, none⟩ [.int .u32 ((S i).draft 0), .int .u32 ((S i).draft 1), .int .u32 ((S i).draft 2)] (fun j v hv => by
      rw [add_off]
      match j, hv with
      | 0, hv => simp at hv; rw [← hv]; exact h0
      | 1, hv => simp at hv; rw [← hv]; exact h1
      | 2, hv => simp at hv; rw [← hv]; exact h2
      | j + 3, hv => simp at hv)
    exact this
  have e1 := Tryd.isAgg61
  have e2 := Tryd.sizeOf61
  unfold execOp
  simp only [ho, hx, Instr.loadAt, Instr.sureAddr, Sem.run_bind, Sem.run_pure, Result.andThen_ok]
  unfold loadVar
  simp only [Sem.run_bind, e1, e2, Result.andThen_ok, if_true, hl, Sem.run_pure]
theorem cs_own (s : St) (v : Int) : ∀ q, q < 38 → cellS { s with owner := v } q = if q = 4 then .int .i64 v else cellS s q := fun q hq => by
  by_cases e : q = 4
  · subst e; rfl
  · rw [if_neg e]; unfold cellS; simp only [e, if_false]
theorem cs_cnt (s : St) (v : Int) : ∀ q, q < 38 → cellS { s with count := v } q = if q = 19 then .int .i64 v else cellS s q := fun q hq => by
  by_cases e : q = 19
  · subst e; rfl
  · rw [if_neg e]; unfold cellS; simp only [e, if_false]
theorem cs_dn (s : St) (v : Bool) : ∀ q, q < 38 → cellS { s with done := v } q = if q = 20 then .bool v else cellS s q := fun q hq => by
  by_cases e : q = 20
  · subst e; rfl
  · rw [if_neg e]; unfold cellS; simp only [e, if_false]
theorem cs_op (s : St) (v : Int) : ∀ q, q < 38 → cellS { s with opened := v } q = if q = 29 then .int .i64 v else cellS s q := fun q hq => by
  by_cases e : q = 29
  · subst e; rfl
  · rw [if_neg e]; unfold cellS; simp only [e, if_false]
theorem upF_ne {α : Type} {f : Nat → α} {i j : Nat} {v : α} (h : j ≠ i) : upF f i v j = f j := if_neg h
theorem upF_at {α : Type} {f : Nat → α} {i : Nat} {v : α} : upF f i v i = v := if_pos rfl
theorem cs_rd (s : St) {r : Nat} (hr : r < 8) (v : Bool) : ∀ q, q < 38 → cellS { s with readers := upF s.readers r v } q = if q = 5 + r then .bool v else cellS s q := fun q hq => by
  by_cases e : q = 5 + r
  · subst e; rw [if_pos rfl, cell_rd _ hr]; simp only [upF_at]
  · rw [if_neg e]; unfold cellS
    by_cases e1 : 4 < q ∧ q < 13
    · rw [if_neg (by omega), if_neg (by omega), if_pos (by omega), if_neg (by omega), if_neg (by omega), if_pos (by omega)]
      simp only; rw [upF_ne (by omega)]
    · by_cases e2 : q < 4
      · rw [if_pos e2, if_pos e2]
      · rw [if_neg e2, if_neg e2]
        by_cases e3 : q = 4
        · rw [if_pos e3, if_pos e3]
        · rw [if_neg e3, if_neg e3, if_neg (show ¬ q < 13 by omega), if_neg (show ¬ q < 13 by omega)]
theorem cs_cm (s : St) {r : Nat} (hr : r < 8) (v : Int) : ∀ q, q < 38 → cellS { s with come := upF s.come r v } q = if q = 21 + r then .int .i64 v else cellS s q := fun q hq => by
  by_cases e : q = 21 + r
  · subst e; rw [if_pos rfl, cell_cm _ hr]; simp only [upF_at]
  · rw [if_neg e]; unfold cellS
    have : upF s.come r v (q - 21) = s.come (q - 21) ∨ ¬ (20 < q ∧ q < 29) := by
      by_cases e1 : 20 < q ∧ q < 29
      · exact .inl (upF_ne (by omega))
      · exact .inr e1
    rcases this with h | h
    · simp only [h]
    · repeat' split
      all_goals first | rfl | omega
theorem cs_lf (s : St) {r : Nat} (hr : r < 8) (v : Int) : ∀ q, q < 38 → cellS { s with left := upF s.left r v } q = if q = 30 + r then .int .i64 v else cellS s q := fun q hq => by
  by_cases e : q = 30 + r
  · subst e; rw [if_pos rfl, cell_lf _ hr]; simp only [upF_at]
  · rw [if_neg e]; unfold cellS
    have : upF s.left r v (q - 30) = s.left (q - 30) ∨ ¬ (29 < q) := by
      by_cases e1 : 29 < q
      · exact .inl (upF_ne (by omega))
      · exact .inr e1
    rcases this with h | h
    · simp only [h]
    · repeat' split
      all_goals first | rfl | omega
theorem cs_df (s : St) {r : Nat} (hr : r < 3) (v : Int) : ∀ q, q < 38 → cellS { s with draft := upF s.draft r v } q = if q = 16 + r then .int .u32 v else cellS s q := fun q hq => by
  by_cases e : q = 16 + r
  · subst e; rw [if_pos rfl, cell_df _ hr]; simp only [upF_at]
  · rw [if_neg e]; unfold cellS
    have : upF s.draft r v (q - 16) = s.draft (q - 16) ∨ ¬ (15 < q ∧ q < 19) := by
      by_cases e1 : 15 < q ∧ q < 19
      · exact .inl (upF_ne (by omega))
      · exact .inr e1
    rcases this with h | h
    · simp only [h]
    · repeat' split
      all_goals first | rfl | omega
theorem cs_dt (s : St) {r : Nat} (hr : r < 3) (v : Int) : ∀ q, q < 38 → cellS { s with data := upF s.data r v } q = if q = 13 + r then .int .u32 v else cellS s q := fun q hq => by
  by_cases e : q = 13 + r
  · subst e; rw [if_pos rfl, cell_dt _ hr]; simp only [upF_at]
  · rw [if_neg e]; unfold cellS
    have : upF s.data r v (q - 13) = s.data (q - 13) ∨ ¬ (12 < q ∧ q < 16) := by
      by_cases e1 : 12 < q ∧ q < 16
      · exact .inl (upF_ne (by omega))
      · exact .inr e1
    rcases this with h | h
    · simp only [h]
    · repeat' split
      all_goals first | rfl | omega
theorem cs_dtdf (s : St) : ∀ k, k < 38 → cellS { s with data := upF (upF (upF s.data 0 (s.draft 0)) 1 (s.draft 1)) 2 (s.draft 2) } k = cellS { s with data := s.draft } k := fun k hk => by
  unfold cellS
  have : upF (upF (upF s.data 0 (s.draft 0)) 1 (s.draft 1)) 2 (s.draft 2) (k - 13) = s.draft (k - 13) ∨ ¬ (12 < k ∧ k < 16) := by
    by_cases e1 : 12 < k ∧ k < 16
    · left
      have : k - 13 = 0 ∨ k - 13 = 1 ∨ k - 13 = 2 := by omega
      rcases this with e | e | e <;> rw [e] <;> rfl
    · exact .inr e1
  rcases this with h | h
  · simp only [h]
  · repeat' split
    all_goals first | rfl | omega
/-- three numbers stored -/
theorem wl_st3 {ops : Array Oper} {Q : Exit → Act → World → Prop} {rest : List Oper} {o : Oper} {a : Act} {w : World} (hgd : o.guard = none) (x y : Operand) (ho : o.op = .store 61 x y) (g n i off : Nat) (S : Nat → St) (hi : i < n) (hoff : off = i * 38) (hx : a.eval x = .pointer (some ⟨g, off + 13, none⟩)) (hy : a.eval y = .agg #[.int .u32 ((S i).draft 0), .int .u32 ((S i).draft 1), .int .u32 ((S i).draft 2)]) (hR : Row w g n S)
    (hh : ∀ w', Row w' g n (updS S i { S i with data := (S i).draft }) → Exc g w w' → ∀ K : Act → World → Prop, (∀ a w, wpList Tryd.prog ops Q rest a w → K a w) → K (a.put o.dst undef) w') : wpList Tryd.prog ops Q (o :: rest) a w := by
  refine wpList_plain hgd fun K hK => ?_
  have c0 := hR.dt hi hoff (q := 0) (by omega)
  have f0 := hR.free (off + 13)
  obtain ⟨R1, E1⟩ := row_put hR i 13 off hi (by omega) hoff (.int .u32 ((S i).draft 0)) _ (cs_dt (S i) (r := 0) (by omega) ((S i).draft 0))
  have c1 := R1.dt hi hoff (q := 1) (by omega)
  have f1 := R1.free (off + 13 + 1)
  obtain ⟨R2, E2⟩ := row_put R1 i 14 off hi (by omega) hoff (.int .u32 ((S i).draft 1)) _ (cs_dt _ (r := 1) (by omega) ((S i).draft 1))
  have c2 := R2.dt hi hoff (q := 2) (by omega)
  have f2 := R2.free (off + 13 + 2)
  obtain ⟨R3, E3⟩ := row_put R2 i 15 off hi (by omega) hoff (.int .u32 ((S i).draft 2)) _ (cs_dt _ (r := 2) (by omega) ((S i).draft 2))
  rw [updS_updS, updS_updS, updS_at, updS_at] at R3
  have R4 : Row _ g n (updS S i { S i with data := (S i).draft }) := R3.congr (fun j hj k hk => by
    unfold updS
    by_cases e : j = i
    · rw [if_pos e, if_pos e]; exact cs_dtdf (S i) k hk
    · rw [if_neg e, if_neg e])
  have hst : (storeVar 61 ⟨g, off + 13, none⟩ (.agg #[.int .u32 ((S i).draft 0), .int .u32 ((S i).draft 1), .int .u32 ((S i).draft 2)])).run Tryd.prog w = .ok () (((w.setCell ⟨g, off + 13, none⟩ (.int .u32 ((S i).draft 0))).setCell ⟨g, off + 14, none⟩ (.int .u32 ((S i).draft 1))).setCell ⟨g, off + 15, none⟩ (.int .u32 ((S i).draft 2))) := by
    have e2 := Tryd.sizeOf61
    unfold storeVar
    simp only [Sem.run_bind, e2, Result.andThen_ok, Value.cells]
    have a0 := st_u32 ((S i).draft 0) w ⟨g, off + 13, none⟩ _ c0 f0
    have a1 := st_u32 ((S i).draft 1) _ ⟨g, off + 14, none⟩ _ c1 f1
    have a2 := st_u32 ((S i).draft 2) _ ⟨g, off + 15, none⟩ _ c2 f2
    simp [storeCells, add_off, a0, a1, a2, Result.andThen]
  unfold Oper.wp execOp
  simp only [ho, hx, hy, Instr.storeAt, Instr.sureAddr, Sem.run_bind, Sem.run_pure, Result.andThen_ok]
  rw [hst]
  exact hh _ R4 ((E1.trans E2).trans E3) K hK
end Go.Proofs.YtobkonbpcnmgpaaDoor
