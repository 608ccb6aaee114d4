/- A client in memory: lists of objects, of numbers, of ops; the client's value. -/
import Derived.Test.YtlcoealfnlakhaaDoorORight
namespace Go.Proofs.YtlcoealfnlakhaaDoor
open Go.RowKit
set_option linter.unusedVariables false
set_option linter.unusedSimpArgs false
theorem add_off (b off j : Nat) : (⟨b, off, none⟩ : Addr).add j = ⟨b, off + j, none⟩ := by unfold Addr.add; split <;> simp_all
def Objs (w : World) (A : Option Addr) (n : Nat) (f : Nat → O) : Prop :=
  0 < n → ∃ b off, A = some ⟨b, off, none⟩ ∧ b < w.heap.size ∧ ∀ i, i < n → w.cell? ⟨b, off + i * 4, none⟩ = some (.int .i64 (f i).k) ∧ w.cell? ⟨b, off + i * 4 + 1, none⟩ = some (.int .i64 (f i).n) ∧ w.cell? ⟨b, off + i * 4 + 2, none⟩ = some (.int .i64 (f i).a) ∧ w.cell? ⟨b, off + i * 4 + 3, none⟩ = some (.int .i64 (f i).b)
theorem Objs.below {w w' : World} {A : Option Addr} {n : Nat} {f : Nat → O} (h : Objs w A n f) (hb : Below w.heap.size w w') : Objs w' A n f := fun hn => by
  obtain ⟨b, off, e, hlt, hc⟩ := h hn
  refine ⟨b, off, e, Nat.lt_of_lt_of_le hlt hb.size, fun i hi => ?_⟩
  rw [hb.cell (p := ⟨b, off + i * 4, none⟩) hlt, hb.cell (p := ⟨b, off + i * 4 + 1, none⟩) hlt, hb.cell (p := ⟨b, off + i * 4 + 2, none⟩) hlt, hb.cell (p := ⟨b, off + i * 4 + 3, none⟩) hlt]
  exact hc i hi
theorem objs_ptr {w : World} {A : Option Addr} {n : Nat} {f : Nat → O} (h : Objs w A n f) (hn : 0 < n) : ∃ b off, A = some ⟨b, off, none⟩ := by
  obtain ⟨b, off, e, _⟩ := h hn
  exact ⟨b, off, e⟩
theorem at_obj {w w' : World} {b off n : Nat} {f : Nat → O} {i : Nat} (h : Objs w (some ⟨b, off, none⟩) n f) (hb : Below w.heap.size w w') (hi : i < n) :
    w'.cell? ⟨b, off + i * 4, none⟩ = some (.int .i64 (f i).k) ∧ w'.cell? ⟨b, off + i * 4 + 1, none⟩ = some (.int .i64 (f i).n) ∧ w'.cell? ⟨b, off + i * 4 + 2, none⟩ = some (.int .i64 (f i).a) ∧ w'.cell? ⟨b, off + i * 4 + 3, none⟩ = some (.int .i64 (f i).b) := by
  obtain ⟨b', off', e, _, hc⟩ := h.below hb (by omega)
  injection e with e; injection e with e1 e2
  subst e1 e2
  exact hc i hi
theorem run_ldobj {o : Oper} {a : Act} {w w0 : World} {n : Nat} {f : Nat → O} (y : Operand) (ho : o.op = .load 43 y) (b off i : Nat) (hA : Objs w0 (some ⟨b, off, none⟩) n f) (hb : Below w0.heap.size w0 w) (hi : i < n) (hx : a.eval y = .pointer (some ⟨b, off + i * 4, none⟩)) : (execOp a.eval o).run Tryd.prog w = .ok (.value (ov (f i))) w := by
  obtain ⟨h0, h1, h2, h3⟩ := at_obj hA hb hi
  have hl : (loadCells ⟨b, off + i * 4, none⟩ 4).run Tryd.prog w = .ok #[.int .i64 (f i).k, .int .i64 (f i).n, .int .i64 (f i).a, .int .i64 (f i).b] w := by
    have := run_loadCells_list (P := Tryd.prog) w ⟨b, off + i * 4, none⟩ [.int .i64 (f i).k, .int .i64 (f i).n, .int .i64 (f i).a, .int .i64 (f i).b] (fun j v hv => by
      rw [add_off]
      match j, hv with
      | 0, hv => simp at hv; rw [← hv]; exact h0
      | 1, hv => simp at hv; rw [← hv]; exact h1
      | 2, hv => simp at hv; rw [← hv]; exact h2
      | 3, hv => simp at hv; rw [← hv]; exact h3
      | j + 4, hv => simp at hv)
    exact this
  have e1 := Tryd.isAgg43
  have e2 := Tryd.sizeOf43
  unfold execOp
  simp only [ho, hx, Instr.loadAt, Instr.sureAddr, Sem.run_bind, Sem.run_pure, Result.andThen_ok]
  unfold loadVar
  simp only [Sem.run_bind, e1, e2, Result.andThen_ok, if_true, hl, Sem.run_pure]
  rfl
section
variable {ops : Array Oper} {Q : Exit → Act → World → Prop}
theorem wl_val {P : Program} {rest : List Oper} {o : Oper} {a : Act} {w : World} (hgd : o.guard = none) (v : Value) (h : (execOp a.eval o).run P w = .ok (.value v) w) (hK : ∀ K : Act → World → Prop, (∀ a w, wpList P ops Q rest a w → K a w) → K (a.put o.dst v) w) : wpList P ops Q (o :: rest) a w := by
  refine wpList_plain hgd fun K hK' => ?_
  unfold Oper.wp
  rw [h]
  exact hK K hK'
end
section
variable {ops : Array Oper} {Q : Exit → Act → World → Prop}
theorem wl_call {P : Program} {rest : List Oper} {o : Oper} {a : Act} {w : World} (hgd : o.guard = none) (g : FuncId) (args : Array Value) (v : Value) (R : World → Prop) (h : (execOp a.eval o).run P w = .ok (.enter g args) w)
    (hc : Calls P g args w fun e w' => e = .returned v ∧ R w') (hK : ∀ w', R w' → ∀ K : Act → World → Prop, (∀ a w, wpList P ops Q rest a w → K a w) → K (a.put o.dst v) w') : wpList P ops Q (o :: rest) a w := by
  refine wpList_plain hgd fun K hK' => ?_
  unfold Oper.wp
  rw [h, Oper.upon_enter]
  refine hc.mono fun e w' hr => ?_
  obtain ⟨rfl, hr⟩ := hr
  exact hK w' hr K hK'
end
section
variable {ops : Array Oper} {Q : Exit → Act → World → Prop}
theorem wl_calls {P : Program} {rest : List Oper} {o : Oper} {a : Act} {w : World} (hgd : o.guard = none) (g : FuncId) (args : Array Value) (R : Value → World → Prop) (h : (execOp a.eval o).run P w = .ok (.enter g args) w)
    (hc : Calls P g args w fun e w' => ∃ v, e = .returned v ∧ R v w') (hK : ∀ v w', R v w' → ∀ K : Act → World → Prop, (∀ a w, wpList P ops Q rest a w → K a w) → K (a.put o.dst v) w') : wpList P ops Q (o :: rest) a w := by
  refine wpList_plain hgd fun K hK' => ?_
  unfold Oper.wp
  rw [h, Oper.upon_enter]
  refine hc.mono fun e w' hr => ?_
  obtain ⟨v, rfl, hr⟩ := hr
  exact hK v w' hr K hK'
end
/-! ### ops -/
structure X where
  k : Int
  a : Int
  b : Int
  K : Int
def xv (x : X) : Value := .agg #[.int .i64 x.k, .int .i64 x.a, .int .i64 x.b, .int .u32 x.K]
def Ops (w : World) (A : Option Addr) (n : Nat) (f : Nat → X) : Prop :=
  0 < n → ∃ b off, A = some ⟨b, off, none⟩ ∧ b < w.heap.size ∧ ∀ i, i < n → w.cell? ⟨b, off + i * 4, none⟩ = some (.int .i64 (f i).k) ∧ w.cell? ⟨b, off + i * 4 + 1, none⟩ = some (.int .i64 (f i).a) ∧ w.cell? ⟨b, off + i * 4 + 2, none⟩ = some (.int .i64 (f i).b) ∧ w.cell? ⟨b, off + i * 4 + 3, none⟩ = some (.int .u32 (f i).K)
theorem Ops.below {w w' : World} {A : Option Addr} {n : Nat} {f : Nat → X} (h : Ops w A n f) (hb : Below w.heap.size w w') : Ops w' A n f := fun hn => by
  obtain ⟨b, off, e, hlt, hc⟩ := h hn
  refine ⟨b, off, e, Nat.lt_of_lt_of_le hlt hb.size, fun i hi => ?_⟩
  rw [hb.cell (p := ⟨b, off + i * 4, none⟩) hlt, hb.cell (p := ⟨b, off + i * 4 + 1, none⟩) hlt, hb.cell (p := ⟨b, off + i * 4 + 2, none⟩) hlt, hb.cell (p := ⟨b, off + i * 4 + 3, none⟩) hlt]
  exact hc i hi
theorem ops_ptr {w : World} {A : Option Addr} {n : Nat} {f : Nat → X} (h : Ops w A n f) (hn : 0 < n) : ∃ b off, A = some ⟨b, off, none⟩ := by
  obtain ⟨b, off, e, _⟩ := h hn; exact ⟨b, off, e⟩
theorem at_op {w : World} {b off n : Nat} {f : Nat → X} {i : Nat} (h : Ops w (some ⟨b, off, none⟩) n f) (hi : i < n) :
    w.cell? ⟨b, off + i * 4, none⟩ = some (.int .i64 (f i).k) ∧ w.cell? ⟨b, off + i * 4 + 1, none⟩ = some (.int .i64 (f i).a) ∧ w.cell? ⟨b, off + i * 4 + 2, none⟩ = some (.int .i64 (f i).b) ∧ w.cell? ⟨b, off + i * 4 + 3, none⟩ = some (.int .u32 (f i).K) := by
  obtain ⟨b', off', e, hlt, hc⟩ := h (by omega)
  cases e
  exact hc i hi
theorem run_ldop {o : Oper} {a : Act} {w w0 : World} {n : Nat} {f : Nat → X} (y : Operand) (ho : o.op = .load 37 y) (b off i : Nat) (hA0 : Ops w0 (some ⟨b, off, none⟩) n f) (hb : Below w0.heap.size w0 w) (hi : i < n) (hx : a.eval y = .pointer (some ⟨b, off + i * 4, none⟩)) : (execOp a.eval o).run Tryd.prog w = .ok (.value (xv (f i))) w := by
  obtain ⟨h0, h1, h2, h3⟩ := at_op (hA0.below hb) hi
  have hl : (loadCells ⟨b, off + i * 4, none⟩ 4).run Tryd.prog w = .ok #[.int .i64 (f i).k, .int .i64 (f i).a, .int .i64 (f i).b, .int .u32 (f i).K] w := by
    have := run_loadCells_list (P := Tryd.prog) w ⟨b, off + i * 4, none⟩ [.int .i64 (f i).k, .int .i64 (f i).a, .int .i64 (f i).b, .int .u32 (f i).K] (fun j v hv => by
      rw [add_off]
      match j, hv with
      | 0, hv => simp at hv; rw [← hv]; exact h0
      | 1, hv => simp at hv; rw [← hv]; exact h1
      | 2, hv => simp at hv; rw [← hv]; exact h2
      | 3, hv => simp at hv; rw [← hv]; exact h3
      | j + 4, hv => simp at hv)
    exact this
  have e1 := Tryd.isAgg37
  have e2 := Tryd.sizeOf37
  unfold execOp
  simp only [ho, hx, Instr.loadAt, Instr.sureAddr, Sem.run_bind, Sem.run_pure, Result.andThen_ok]
  unfold loadVar
  simp only [Sem.run_bind, e1, e2, Result.andThen_ok, if_true, hl, Sem.run_pure]
  rfl
theorem box2 (w : World) (c1 c2 : Array Value) (t1 t2 : TypeId) : ∃ W b1 b2, (w.alloc (.cells c1 t1)).alloc (.cells c2 t2) = W ∧ w.heap.size = b1 ∧ w.heap.size + 1 = b2 ∧ W.heap[b1]? = some (.cells c1 t1 (0, 0)) ∧ W.heap[b2]? = some (.cells c2 t2 (0, 0)) ∧ Below w.heap.size w W :=
  ⟨_, _, _, rfl, rfl, rfl, keep (heap_alloc_new w _) ((Below.refl _ _).alloc (Nat.le_refl _) _), by simpa using heap_alloc_new (w.alloc (.cells c1 t1)) (.cells c2 t2), ((Below.refl _ _).alloc (Nat.le_refl _) _).alloc (by simp) _⟩
theorem box1 (w : World) (c1 : Array Value) (t1 : TypeId) : ∃ W b1, w.alloc (.cells c1 t1) = W ∧ w.heap.size = b1 ∧ W.heap[b1]? = some (.cells c1 t1 (0, 0)) ∧ Below w.heap.size w W :=
  ⟨_, _, rfl, rfl, heap_alloc_new w _, (Below.refl _ _).alloc (Nat.le_refl _) _⟩
/-! ### numbers -/
def IntsF (w : World) (A : Option Addr) (n : Nat) (f : Nat → Int) : Prop :=
  0 < n → ∃ b off, A = some ⟨b, off, none⟩ ∧ b < w.heap.size ∧ ∀ i, i < n → w.cell? ⟨b, off + i, none⟩ = some (.int .i64 (f i))
theorem IntsF.below {w w' : World} {A : Option Addr} {n : Nat} {f : Nat → Int} (h : IntsF w A n f) (hb : Below w.heap.size w w') : IntsF w' A n f := fun hn => by
  obtain ⟨b, off, e, hlt, hc⟩ := h hn
  exact ⟨b, off, e, Nat.lt_of_lt_of_le hlt hb.size, fun i hi => (hb.cell (p := ⟨b, off + i, none⟩) hlt).trans (hc i hi)⟩
theorem ints_ptr {w : World} {A : Option Addr} {n : Nat} {f : Nat → Int} (h : IntsF w A n f) (hn : 0 < n) : ∃ b off, A = some ⟨b, off, none⟩ := by
  obtain ⟨b, off, e, _⟩ := h hn; exact ⟨b, off, e⟩
theorem at_int {w : World} {b off n : Nat} {f : Nat → Int} {i : Nat} (h : IntsF w (some ⟨b, off, none⟩) n f) (hi : i < n) : w.cell? ⟨b, off + i, none⟩ = some (.int .i64 (f i)) := by
  obtain ⟨b', off', e, hlt, hc⟩ := h (by omega)
  cases e
  exact hc i hi
theorem obj_at {w : World} {b off n : Nat} {f : Nat → O} {i : Nat} (h : Objs w (some ⟨b, off, none⟩) n f) (hi : i < n) :
    w.cell? ⟨b, off + i * 4, none⟩ = some (.int .i64 (f i).k) ∧ w.cell? ⟨b, off + i * 4 + 1, none⟩ = some (.int .i64 (f i).n) ∧ w.cell? ⟨b, off + i * 4 + 2, none⟩ = some (.int .i64 (f i).a) ∧ w.cell? ⟨b, off + i * 4 + 3, none⟩ = some (.int .i64 (f i).b) := by
  obtain ⟨b', off', e, hlt, hc⟩ := h (by omega)
  cases e
  exact hc i hi
/-! ### lists of lists of ops -/
def Thr (w : World) (A : Option Addr) (n : Nat) (tp : Nat → Option Addr) (len tc : Nat → Nat) : Prop :=
  0 < n → ∃ b off, A = some ⟨b, off, none⟩ ∧ b < w.heap.size ∧ ∀ i, i < n → w.cell? ⟨b, off + i, none⟩ = some (.slice (tp i) (len i) (tc i))
theorem Thr.below {w w' : World} {A : Option Addr} {n : Nat} {tp : Nat → Option Addr} {len tc : Nat → Nat} (h : Thr w A n tp len tc) (hb : Below w.heap.size w w') : Thr w' A n tp len tc := fun hn => by
  obtain ⟨b, off, e, hlt, hc⟩ := h hn
  exact ⟨b, off, e, Nat.lt_of_lt_of_le hlt hb.size, fun i hi => (hb.cell (p := ⟨b, off + i, none⟩) hlt).trans (hc i hi)⟩
theorem thr_ptr {w : World} {A : Option Addr} {n : Nat} {tp : Nat → Option Addr} {len tc : Nat → Nat} (h : Thr w A n tp len tc) (hn : 0 < n) : ∃ b off, A = some ⟨b, off, none⟩ := by
  obtain ⟨b, off, e, _⟩ := h hn; exact ⟨b, off, e⟩
theorem at_thr {w : World} {b off n : Nat} {tp : Nat → Option Addr} {len tc : Nat → Nat} {i : Nat} (h : Thr w (some ⟨b, off, none⟩) n tp len tc) (hi : i < n) : w.cell? ⟨b, off + i, none⟩ = some (.slice (tp i) (len i) (tc i)) := by
  obtain ⟨b', off', e, hlt, hc⟩ := h (by omega)
  cases e
  exact hc i hi
/-! ### the client -/
structure Cl where
  A : Option Addr
  no : Nat
  ca : Nat
  f : Nat → O
  vars : Int
  W : Option Addr
  nw : Nat
  cw : Nat
  own : Nat → Int
  room : Int
  T : Option Addr
  nt : Nat
  ct : Nat
  tp : Nat → Option Addr
  len : Nat → Nat
  tc : Nat → Nat
  op : Nat → Nat → X
def Cl.v (C : Cl) : Value := .agg #[.slice C.A C.no C.ca, .int .i64 C.vars, .slice C.W C.nw C.cw, .int .i64 C.room, .slice C.T C.nt C.ct]
structure MemC (w : World) (C : Cl) : Prop where
  objs : Objs w C.A C.no C.f
  own : IntsF w C.W C.nw C.own
  thr : Thr w C.T C.nt C.tp C.len C.tc
  ops : ∀ t, t < C.nt → Ops w (C.tp t) (C.len t) (C.op t)
  ho : C.no ≤ C.ca
  hw : C.nw ≤ C.cw
  ht : C.nt ≤ C.ct
  hl : ∀ t, t < C.nt → C.len t ≤ C.tc t
  hN : ∀ i, i < C.no → -9223372036854775808 ≤ (C.f i).n ∧ (C.f i).n ≤ 9223372036854775807
  hK : ∀ t i, t < C.nt → i < C.len t → 0 ≤ (C.op t i).K ∧ (C.op t i).K < 4294967296
theorem MemC.below {w w' : World} {C : Cl} (h : MemC w C) (hb : Below w.heap.size w w') : MemC w' C :=
  ⟨h.objs.below hb, h.own.below hb, h.thr.below hb, fun t ht => (h.ops t ht).below hb, h.ho, h.hw, h.ht, h.hl, h.hN, h.hK⟩
/-- how long it may be, to be looked at -/
def Short (C : Cl) : Prop := C.nw ≤ 600 ∧ C.nt ≤ 40 ∧ C.no ≤ 40 ∧ ∀ t, t < C.nt → C.len t ≤ 100
end Go.Proofs.YtlcoealfnlakhaaDoor
