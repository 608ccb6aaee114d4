/- A machine of objects in memory: the states' row. -/
import Derived.Test.YtobkonbpcnmgpaaDoorORight
import Derived.Test.YtobkonbpcnmgpaaDoorGrow
import Derived.Laws.ResultCell
namespace Go.Proofs.YtobkonbpcnmgpaaDoor
open Go.RowKit
set_option linter.unusedVariables false
set_option linter.unusedSimpArgs false
theorem add_off (b off j : Nat) : (⟨b, off, none⟩ : Addr).add j = ⟨b, off + j, none⟩ := by unfold Addr.add; split <;> simp_all
def Objs (w : World) (A : Option Addr) (n : Nat) (f : Nat → O) : Prop :=
  0 < n → ∃ b off, A = some ⟨b, off, none⟩ ∧ b < w.heap.size ∧ ∀ i, i < n → w.cell? ⟨b, off + i * 4, none⟩ = some (.int .i64 (f i).k) ∧ w.cell? ⟨b, off + i * 4 + 1, none⟩ = some (.int .i64 (f i).n) ∧ w.cell? ⟨b, off + i * 4 + 2, none⟩ = some (.int .i64 (f i).a) ∧ w.cell? ⟨b, off + i * 4 + 3, none⟩ = some (.int .i64 (f i).b)
theorem Objs.below {w w' : World} {A : Option Addr} {n : Nat} {f : Nat → O} (h : Objs w A n f) (hb : Below w.heap.size w w') : Objs w' A n f := fun hn => by
  obtain ⟨b, off, e, hlt, hc⟩ := h hn
  refine ⟨b, off, e, Nat.lt_of_lt_of_le hlt hb.size, fun i hi => ?_⟩
  rw [hb.cell (p := ⟨b, off + i * 4, none⟩) hlt, hb.cell (p := ⟨b, off + i * 4 + 1, none⟩) hlt, hb.cell (p := ⟨b, off + i * 4 + 2, none⟩) hlt, hb.cell (p := ⟨b, off + i * 4 + 3, none⟩) hlt]
  exact hc i hi
theorem objs_ptr {w : World} {A : Option Addr} {n : Nat} {f : Nat → O} (h : Objs w A n f) (hn : 0 < n) : ∃ b off, A = some ⟨b, off, none⟩ := by
  obtain ⟨b, off, e, _⟩ := h hn
  exact ⟨b, off, e⟩
theorem at_obj {w w' : World} {b off n : Nat} {f : Nat → O} {i : Nat} (h : Objs w (some ⟨b, off, none⟩) n f) (hb : Below w.heap.size w w') (hi : i < n) :
    w'.cell? ⟨b, off + i * 4, none⟩ = some (.int .i64 (f i).k) ∧ w'.cell? ⟨b, off + i * 4 + 1, none⟩ = some (.int .i64 (f i).n) ∧ w'.cell? ⟨b, off + i * 4 + 2, none⟩ = some (.int .i64 (f i).a) ∧ w'.cell? ⟨b, off + i * 4 + 3, none⟩ = some (.int .i64 (f i).b) := by
  obtain ⟨b', off', e, _, hc⟩ := h.below hb (by omega)
  injection e with e; injection e with e1 e2
  subst e1 e2
  exact hc i hi
theorem run_ldobj {o : Oper} {a : Act} {w w0 : World} {n : Nat} {f : Nat → O} (y : Operand) (ho : o.op = .load 48 y) (b off i : Nat) (hA : Objs w0 (some ⟨b, off, none⟩) n f) (hb : Below w0.heap.size w0 w) (hi : i < n) (hx : a.eval y = .pointer (some ⟨b, off + i * 4, none⟩)) : (execOp a.eval o).run Tryd.prog w = .ok (.value (ov (f i))) w := by
  obtain ⟨h0, h1, h2, h3⟩ := at_obj hA hb hi
  have hl : (loadCells ⟨b, off + i * 4, none⟩ 4).run Tryd.prog w = .ok #[.int .i64 (f i).k, .int .i64 (f i).n, .int .i64 (f i).a, .int .i64 (f i).b] w := by
    have := run_loadCells_list (P := Tryd.prog) w ⟨b, off + i * 4, none⟩ [.int .i64 (f i).k, .int .i64 (f i).n, .int .i64 (f i).a, .int .i64 (f i).b] (fun j v hv => by
      rw [add_off]
      match j, hv with
      | 0, hv => simp at hv; rw [← hv]; exact h0
      | 1, hv => simp at hv; rw [← hv]; exact h1
      | 2, hv => simp at hv; rw [← hv]; exact h2
      | 3, hv => simp at hv; rw [← hv]; exact h3
      | j + 4, hv => simp at hv)
    exact this
  have e1 := Tryd.isAgg48
  have e2 := Tryd.sizeOf48
  unfold execOp
  simp only [ho, hx, Instr.loadAt, Instr.sureAddr, Sem.run_bind, Sem.run_pure, Result.andThen_ok]
  unfold loadVar
  simp only [Sem.run_bind, e1, e2, Result.andThen_ok, if_true, hl, Sem.run_pure]
  rfl
section
variable {ops : Array Oper} {Q : Exit → Act → World → Prop}
theorem wl_val {P : Program} {rest : List Oper} {o : Oper} {a : Act} {w : World} (hgd : o.guard = none) (v : Value) (h : (execOp a.eval o).run P w = .ok (.value v) w) (hK : ∀ K : Act → World → Prop, (∀ a w, wpList P ops Q rest a w → K a w) → K (a.put o.dst v) w) : wpList P ops Q (o :: rest) a w := by
  refine wpList_plain hgd fun K hK' => ?_
  unfold Oper.wp
  rw [h]
  exact hK K hK'
end
section
variable {ops : Array Oper} {Q : Exit → Act → World → Prop}
theorem wl_call {P : Program} {rest : List Oper} {o : Oper} {a : Act} {w : World} (hgd : o.guard = none) (g : FuncId) (args : Array Value) (v : Value) (R : World → Prop) (h : (execOp a.eval o).run P w = .ok (.enter g args) w)
    (hc : Calls P g args w fun e w' => e = .returned v ∧ R w') (hK : ∀ w', R w' → ∀ K : Act → World → Prop, (∀ a w, wpList P ops Q rest a w → K a w) → K (a.put o.dst v) w') : wpList P ops Q (o :: rest) a w := by
  refine wpList_plain hgd fun K hK' => ?_
  unfold Oper.wp
  rw [h, Oper.upon_enter]
  refine hc.mono fun e w' hr => ?_
  obtain ⟨rfl, hr⟩ := hr
  exact hK w' hr K hK'
end
section
variable {ops : Array Oper} {Q : Exit → Act → World → Prop}
theorem wl_calls {P : Program} {rest : List Oper} {o : Oper} {a : Act} {w : World} (hgd : o.guard = none) (g : FuncId) (args : Array Value) (R : Value → World → Prop) (h : (execOp a.eval o).run P w = .ok (.enter g args) w)
    (hc : Calls P g args w fun e w' => ∃ v, e = .returned v ∧ R v w') (hK : ∀ v w', R v w' → ∀ K : Act → World → Prop, (∀ a w, wpList P ops Q rest a w → K a w) → K (a.put o.dst v) w') : wpList P ops Q (o :: rest) a w := by
  refine wpList_plain hgd fun K hK' => ?_
  unfold Oper.wp
  rw [h, Oper.upon_enter]
  refine hc.mono fun e w' hr => ?_
  obtain ⟨v, rfl, hr⟩ := hr
  exact hK v w' hr K hK'
end
theorem box2 (w : World) (c1 c2 : Array Value) (t1 t2 : TypeId) : ∃ W b1 b2, (w.alloc (.cells c1 t1)).alloc (.cells c2 t2) = W ∧ w.heap.size = b1 ∧ w.heap.size + 1 = b2 ∧ W.heap[b1]? = some (.cells c1 t1 (0, 0)) ∧ W.heap[b2]? = some (.cells c2 t2 (0, 0)) ∧ Below w.heap.size w W :=
  ⟨_, _, _, rfl, rfl, rfl, keep (heap_alloc_new w _) ((Below.refl _ _).alloc (Nat.le_refl _) _), by simpa using heap_alloc_new (w.alloc (.cells c1 t1)) (.cells c2 t2), ((Below.refl _ _).alloc (Nat.le_refl _) _).alloc (by simp) _⟩
theorem box1 (w : World) (c1 : Array Value) (t1 : TypeId) : ∃ W b1, w.alloc (.cells c1 t1) = W ∧ w.heap.size = b1 ∧ W.heap[b1]? = some (.cells c1 t1 (0, 0)) ∧ Below w.heap.size w W :=
  ⟨_, _, rfl, rfl, heap_alloc_new w _, (Below.refl _ _).alloc (Nat.le_refl _) _⟩
theorem obj_at {w : World} {b off n : Nat} {f : Nat → O} {i : Nat} (h : Objs w (some ⟨b, off, none⟩) n f) (hi : i < n) :
    w.cell? ⟨b, off + i * 4, none⟩ = some (.int .i64 (f i).k) ∧ w.cell? ⟨b, off + i * 4 + 1, none⟩ = some (.int .i64 (f i).n) ∧ w.cell? ⟨b, off + i * 4 + 2, none⟩ = some (.int .i64 (f i).a) ∧ w.cell? ⟨b, off + i * 4 + 3, none⟩ = some (.int .i64 (f i).b) := by
  obtain ⟨b', off', e, hlt, hc⟩ := h (by omega)
  cases e
  exact hc i hi
section
variable {ops : Array Oper} {Q : Exit → Act → World → Prop}
theorem wl_load {P : Program} {rest : List Oper} {o : Oper} {a : Act} {w : World} (hgd : o.guard = none) (ty : TypeId) (x : Operand) (ho : o.op = .load ty x) (b : Nat) (hx : a.eval x = .pointer (some ⟨b, 0, none⟩)) (t : TypeId) (cs : Array Value) (fr : Nat × Nat) (d : TypeDesc)
    (hb : w.heap[b]? = some (.cells cs t fr)) (hu : P.underlying ty = some d) (hd : (match d with | .struct _ | .array _ _ => true | _ => false) = true) (hi : (P.info? ty).map (·.size) = some cs.size)
    (hK : ∀ K : Act → World → Prop, (∀ a w, wpList P ops Q rest a w → K a w) → K (a.put o.dst (.agg cs)) w) : wpList P ops Q (o :: rest) a w :=
  wl_val hgd (.agg cs) (by
    unfold execOp
    simp only [ho, hx, Instr.loadAt, Instr.sureAddr, Sem.run_bind, Sem.run_pure, Result.andThen_ok, run_loadVar_row w b t ty cs fr d hb hu hd hi]) hK
end
/-- nothing old has turned but block m -/
structure Exc (m : Nat) (w w' : World) : Prop where
  low : ∀ B, B ≤ m → B ≤ w.heap.size → Below B w w'
  blk : ∀ b, b < w.heap.size → b ≠ m → w'.heap[b]? = w.heap[b]?
theorem Exc.size {m : Nat} {w w' : World} (h : Exc m w w') (hm : m ≤ w.heap.size) : w.heap.size ≤ w'.heap.size := by
  have := (h.low 0 (Nat.zero_le _) (Nat.zero_le _)).size
  omega
theorem Exc.of_below {m : Nat} {w w' : World} (h : Below w.heap.size w w') : Exc m w w' := ⟨fun B _ hB => h.mono hB, fun b hb _ => h.block b hb⟩
theorem Exc.trans {m : Nat} {w w' w'' : World} (h : Exc m w w') (h' : Exc m w' w'') : Exc m w w'' := by
  have hs := (h.low 0 (Nat.zero_le _) (Nat.zero_le _)).size
  exact ⟨fun B hm hB => (h.low B hm hB).trans (h'.low B hm (by omega)), fun b hb hn => (h'.blk b (by omega) hn).trans (h.blk b hb hn)⟩
section
variable {P : Program} {ops : Array Oper} {Q : Exit → Act → World → Prop}
theorem wl_want {rest : List Oper} {o : Oper} {a : Act} {w : World} (hw : Region.wanted o (yielded ops a.tmps) = true) (h : ∀ K : Act → World → Prop, (∀ a w, wpList P ops Q rest a w → K a w) → o.wp P a w K Q) : wpList P ops Q (o :: rest) a w :=
  wpList_step fun K hK => by rw [if_pos hw]; exact h K hK
theorem wg_val {rest : List Oper} {o : Oper} {a : Act} {w : World} (hw : Region.wanted o (yielded ops a.tmps) = true) (v : Value) (h : (execOp a.eval o).run P w = .ok (.value v) w) (hK : ∀ K : Act → World → Prop, (∀ a w, wpList P ops Q rest a w → K a w) → K (a.put o.dst v) w) : wpList P ops Q (o :: rest) a w := by
  refine wl_want hw fun K hK' => ?_
  unfold Oper.wp
  rw [h]
  exact hK K hK'
theorem wg_load {rest : List Oper} {o : Oper} {a : Act} {w : World} (hw : Region.wanted o (yielded ops a.tmps) = true) (ty : TypeId) (x : Operand) (ho : o.op = .load ty x) (b : Nat) (hx : a.eval x = .pointer (some ⟨b, 0, none⟩)) (t : TypeId) (cs : Array Value) (fr : Nat × Nat) (d : TypeDesc)
    (hb : w.heap[b]? = some (.cells cs t fr)) (hu : P.underlying ty = some d) (hd : (match d with | .struct _ | .array _ _ => true | _ => false) = true) (hi : (P.info? ty).map (·.size) = some cs.size)
    (hK : ∀ K : Act → World → Prop, (∀ a w, wpList P ops Q rest a w → K a w) → K (a.put o.dst (.agg cs)) w) : wpList P ops Q (o :: rest) a w :=
  wg_val hw (.agg cs) (by
    unfold execOp
    simp only [ho, hx, Instr.loadAt, Instr.sureAddr, Sem.run_bind, Sem.run_pure, Result.andThen_ok, run_loadVar_row w b t ty cs fr d hb hu hd hi]) hK
theorem wg_call {rest : List Oper} {o : Oper} {a : Act} {w : World} (hw : Region.wanted o (yielded ops a.tmps) = true) (g : FuncId) (args : Array Value) (v : Value) (R : World → Prop) (h : (execOp a.eval o).run P w = .ok (.enter g args) w)
    (hc : Calls P g args w fun e w' => e = .returned v ∧ R w') (hK : ∀ w', R w' → ∀ K : Act → World → Prop, (∀ a w, wpList P ops Q rest a w → K a w) → K (a.put o.dst v) w') : wpList P ops Q (o :: rest) a w := by
  refine wl_want hw fun K hK' => ?_
  unfold Oper.wp
  rw [h, Oper.upon_enter]
  refine hc.mono fun e w' hr => ?_
  obtain ⟨rfl, hr⟩ := hr
  exact hK w' hr K hK'
theorem wg_skip {rest : List Oper} {o : Oper} {a : Act} {w : World} (hw : Region.wanted o (yielded ops a.tmps) = false) (hK : ∀ K : Act → World → Prop, (∀ a w, wpList P ops Q rest a w → K a w) → K (a.put o.dst undef) w) : wpList P ops Q (o :: rest) a w :=
  wpList_step fun K hK' => by rw [if_neg (by simp [hw])]; exact hK K hK'
end
section
variable {P : Program} {ops : Array Oper} {Q : Exit → Act → World → Prop}
theorem op_value {i : Nat} {K : Act → World → Prop} {o : Oper} {a : Act} {w : World} (hi : ops[i]? = some o) (hgd : o.guard = none) (v : Value) (h : (execOp a.eval o).run P w = .ok (.value v) w) (hK : K (a.put o.dst v) w) : wpOp P ops Q i K a w := by
  unfold wpOp
  simp only [hi]
  have hw : Region.wanted o (yielded ops a.tmps) = true := by simp [Region.wanted, hgd]
  rw [if_pos hw]
  refine .inl ?_
  unfold Oper.wp
  rw [h]
  exact hK
end
/-! ### states -/
structure St where
  o : O
  owner : Int
  readers : Nat → Bool
  data : Nat → Int
  draft : Nat → Int
  count : Int
  done : Bool
  come : Nat → Int
  opened : Int
  left : Nat → Int
def oCell (o : O) (k : Nat) : Value := if k = 0 then .int .i64 o.k else if k = 1 then .int .i64 o.n else if k = 2 then .int .i64 o.a else .int .i64 o.b
def cellS (s : St) (k : Nat) : Value :=
  if k < 4 then oCell s.o k else if k = 4 then .int .i64 s.owner else if k < 13 then .bool (s.readers (k - 5)) else if k < 16 then .int .u32 (s.data (k - 13))
  else if k < 19 then .int .u32 (s.draft (k - 16)) else if k = 19 then .int .i64 s.count else if k = 20 then .bool s.done else if k < 29 then .int .i64 (s.come (k - 21)) else if k = 29 then .int .i64 s.opened else .int .i64 (s.left (k - 30))
def Row (w : World) (g n : Nat) (S : Nat → St) : Prop := ∃ cs, w.heap[g]? = some (.cells cs 64 (0, 0)) ∧ ∀ i, i < n → ∀ k, k < 38 → cs[i * 38 + k]? = some (cellS (S i) k)
def updS (S : Nat → St) (i : Nat) (s : St) : Nat → St := fun j => if j = i then s else S j
def upF {α : Type} (f : Nat → α) (i : Nat) (v : α) : Nat → α := fun j => if j = i then v else f j
theorem Row.cell {w : World} {g n : Nat} {S : Nat → St} (h : Row w g n S) {i k off : Nat} (hi : i < n) (hk : k < 38) (ho : off = i * 38) : w.cell? ⟨g, off + k, none⟩ = some (cellS (S i) k) := by
  obtain ⟨cs, hg, hc⟩ := h
  subst ho
  rw [cell_of_row w g _ cs 64 _ hg]; exact hc i hi k hk
theorem Row.free {w : World} {g n : Nat} {S : Nat → St} (h : Row w g n S) (j : Nat) : w.frozen? ⟨g, j, none⟩ = false := by
  obtain ⟨cs, hg, hc⟩ := h
  exact frozen_of_row w g j cs 64 hg
theorem Row.lt {w : World} {g n : Nat} {S : Nat → St} (h : Row w g n S) : g < w.heap.size := by
  obtain ⟨cs, hg, _⟩ := h; exact blk_lt hg
theorem Row.keep {w w' : World} {g n : Nat} {S : Nat → St} (h : Row w g n S) (e : w'.heap[g]? = w.heap[g]?) : Row w' g n S := by
  obtain ⟨cs, hg, hc⟩ := h; exact ⟨cs, e.trans hg, hc⟩
theorem Row.below {w w' : World} {g n : Nat} {S : Nat → St} (h : Row w g n S) (hb : Below w.heap.size w w') : Row w' g n S := h.keep (hb.block g h.lt)
theorem row_put {w : World} {g n : Nat} {S : Nat → St} (h : Row w g n S) (i k off : Nat) (hi : i < n) (hk : k < 38) (ho : off = i * 38) (v : Value) (s' : St) (hs : ∀ q, q < 38 → cellS s' q = if q = k then v else cellS (S i) q) :
    Row (w.setCell ⟨g, off + k, none⟩ v) g n (updS S i s') ∧ Exc g w (w.setCell ⟨g, off + k, none⟩ v) := by
  obtain ⟨cs, hg, hc⟩ := h
  subst ho
  refine ⟨⟨_, heap_setCell_same w g _ cs 64 _ hg, fun j hj q hq => ?_⟩, fun B hm hB => (Below.refl B w).setCell (p := ⟨g, _, none⟩) hm _, fun b hb hn => heap_setCell_other _ _ b _ hn⟩
  have hlt : i * 38 + k < cs.size := (Array.getElem?_eq_some_iff.1 (hc i hi k hk)).1
  unfold updS
  by_cases e : j = i
  · subst e
    rw [if_pos rfl, hs q hq]
    by_cases eq : q = k
    · subst eq; rw [if_pos rfl, Array.getElem?_setIfInBounds_self_of_lt hlt]
    · rw [if_neg eq, Array.getElem?_setIfInBounds_ne (by omega)]; exact hc j hj q hq
  · rw [if_neg e, Array.getElem?_setIfInBounds_ne (by omega)]; exact hc j hj q hq
theorem updS_same (S : Nat → St) (i : Nat) : updS S i (S i) = S := by
  funext j; unfold updS; split
  · rename_i e; rw [e]
  · rfl
theorem updS_updS (S : Nat → St) (i : Nat) (s s' : St) : updS (updS S i s) i s' = updS S i s' := by
  funext j; unfold updS; split <;> rfl
theorem updS_at (S : Nat → St) (i : Nat) (s : St) : updS S i s i = s := if_pos rfl
/-- a cell of the row is written -/
theorem wl_cell {ops : Array Oper} {Q : Exit → Act → World → Prop} {rest : List Oper} {o : Oper} {a : Act} {w : World} (hgd : o.guard = none) (ty : TypeId) (x y : Operand) (ho : o.op = .store ty x y) (g n i k off : Nat) (S : Nat → St) (s' : St) (v : Value) (hv : v.cells = #[v]) (hsz : ∀ w, (sizeOf ty).run Tryd.prog w = .ok 1 w)
    (hst : ∀ (w : World) (p : Addr) (u : Value), w.cell? p = some u → w.frozen? p = false → (store p v).run Tryd.prog w = .ok () (w.setCell p v)) (hi : i < n) (hk : k < 38) (hoff : off = i * 38) (hx : a.eval x = .pointer (some ⟨g, off + k, none⟩)) (hy : a.eval y = v) (hR : Row w g n S)
    (hs : ∀ q, q < 38 → cellS s' q = if q = k then v else cellS (S i) q)
    (hh : ∀ w', Row w' g n (updS S i s') → Exc g w w' → ∀ K : Act → World → Prop, (∀ a w, wpList Tryd.prog ops Q rest a w → K a w) → K (a.put o.dst undef) w') : wpList Tryd.prog ops Q (o :: rest) a w := by
  refine wpList_plain hgd fun K hK => ?_
  have hc := hR.cell hi hk hoff
  have hf := hR.free (off + k)
  unfold Oper.wp execOp
  simp only [ho, hx, hy, Instr.storeAt, Instr.sureAddr, Sem.run_bind, Sem.run_pure, Result.andThen_ok]
  have hsv : (storeVar ty ⟨g, off + k, none⟩ v).run Tryd.prog w = .ok () (w.setCell ⟨g, off + k, none⟩ v) := by
    unfold storeVar
    simp only [Sem.run_bind, hsz, hv, Result.andThen_ok]
    simp [storeCells, add_off, hst w _ _ hc hf]
  rw [hsv]
  exact hh _ (row_put hR i k off hi hk hoff v s' hs).1 (row_put hR i k off hi hk hoff v s' hs).2 K hK
theorem st_int (x : Int) (w : World) (p : Addr) (u : Value) (hc : w.cell? p = some u) (hf : w.frozen? p = false) : (store p (.int .i64 x)).run Tryd.prog w = .ok () (w.setCell p (.int .i64 x)) := by simp [go_sem, stored, hc, hf]
theorem st_u32 (x : Int) (w : World) (p : Addr) (u : Value) (hc : w.cell? p = some u) (hf : w.frozen? p = false) : (store p (.int .u32 x)).run Tryd.prog w = .ok () (w.setCell p (.int .u32 x)) := by simp [go_sem, stored, hc, hf]
theorem st_bool (x : Bool) (w : World) (p : Addr) (u : Value) (hc : w.cell? p = some u) (hf : w.frozen? p = false) : (store p (.bool x)).run Tryd.prog w = .ok () (w.setCell p (.bool x)) := by simp [go_sem, stored, hc, hf]
/-! ### asks -/
structure Ak where
  who : Int
  obj : Int
  call : Int
  part : Int
  arg : Int
  val : Int
def akC (x : Ak) : Array Value := #[.int .i64 x.who, .int .i64 x.obj, .int .i64 x.call, .int .i64 x.part, .int .u32 x.arg, .int .u32 x.val]
def akV (x : Ak) : Value := .agg (akC x)
def ansV (r : Int) (V : Option Addr) (n c : Nat) (ok : Bool) : Value := .tuple #[.agg #[.int .u32 r, .slice V n c], .bool ok]
theorem ret_ans {fn : Func} {R : Ending → World → Prop} {a : Act} {w : World} {c u : Tmp} (hr : fn.results = #[.cell c 38, .tmp u]) (b : Nat) (r : Int) (V : Option Addr) (n cc : Nat) (ok : Bool) (hd : a.defers = []) (hx : a.tmps.getD c undef = .pointer (some ⟨b, 0, none⟩)) (hok : a.tmps.getD u undef = .bool ok)
    (hg : w.heap[b]? = some (.cells #[.int .u32 r, .slice V n cc] 38 (0, 0))) (hR : R (.returned (ansV r V n cc ok)) w) : bodyPost Tryd.prog fn R .ret a w := by
  refine bodyPost_ret (v := ansV r V n cc ok) ?_ hd hR
  have hl := run_loadVar_row (P := Tryd.prog) w b 38 38 #[.int .u32 r, .slice V n cc] (0, 0) _ hg Tryd.underlying38 rfl (by kernel_rfl)
  rw [results_cell_tmp hr, hx, hok]
  simp only [asAddr, Sem.run_pure, Result.andThen_ok, hl]
  rfl
theorem toldC (r : Int) (w : World) : Calls Tryd.prog 38 #[.int .u32 r] w fun e w' => e = .returned (ansV r none 0 0 true) ∧ Below w.heap.size w w' := by
  go_enter Tryd.func38, Tryd.ntmps38
  go_wp2
  exact ret_ans rfl _ _ _ _ _ _ rfl rfl rfl (heap_alloc_new w _) ⟨rfl, (Below.refl _ _).alloc (Nat.le_refl _) _⟩
theorem fineC (w : World) : Calls Tryd.prog 39 #[] w fun e w' => e = .returned (ansV 0 none 0 0 true) ∧ Below w.heap.size w w' := by
  go_enter Tryd.func39, Tryd.ntmps39
  go_wp2
  exact ret_ans rfl _ _ _ _ _ _ rfl rfl rfl (heap_alloc_new w _) ⟨rfl, (Below.refl _ _).alloc (Nat.le_refl _) _⟩
theorem notC (w : World) : Calls Tryd.prog 18 #[] w fun e w' => e = .returned (ansV 0 none 0 0 false) ∧ Below w.heap.size w w' := by
  go_enter Tryd.func18, Tryd.ntmps18
  go_wp2
  exact ret_ans rfl _ _ _ _ _ _ rfl rfl rfl (heap_alloc_new w _) ⟨rfl, (Below.refl _ _).alloc (Nat.le_refl _) _⟩
end Go.Proofs.YtobkonbpcnmgpaaDoor
