/- General lemmas: operations of a list, of a drawn region; new blocks as letters. No program in sight. A builder of code in memory: its code, places and links. -/
import Derived.Test.YtbcgngfbbbfebaaGreatDoorM01
import Derived.Laws.ResultCell
import Derived.Test.YtbcgngfbbbfebaaGreatDoorChecked
import Derived.Maps.Own
import Derived.Maps.OwnOps
import Derived.Maps.OwnSet
import Derived.Maps.AppendAt
import Derived.Carry
import Derived.Below
namespace Go.Proofs.YtbcgngfbbbfebaaGreatDoor
open Go.RowKit
set_option maxRecDepth 100000
set_option maxHeartbeats 32000000
set_option linter.unusedVariables false
set_option linter.unusedSimpArgs false
theorem add_off (b off j : Nat) : (⟨b, off, none⟩ : Addr).add j = ⟨b, off + j, none⟩ := by unfold Addr.add; split <;> simp_all
section
variable {ops : Array Oper} {Q : Exit → Act → World → Prop}
theorem wl_val {P : Program} {rest : List Oper} {o : Oper} {a : Act} {w : World} (hgd : o.guard = none) (v : Value) (h : (execOp a.eval o).run P w = .ok (.value v) w) (hK : ∀ K : Act → World → Prop, (∀ a w, wpList P ops Q rest a w → K a w) → K (a.put o.dst v) w) : wpList P ops Q (o :: rest) a w := by
 refine wpList_plain hgd fun K hK' => ?_
 unfold Oper.wp; rw [h]; exact hK K hK'
theorem wl_call {P : Program} {rest : List Oper} {o : Oper} {a : Act} {w : World} (hgd : o.guard = none) (g : FuncId) (args : Array Value) (v : Value) (R : World → Prop) (h : (execOp a.eval o).run P w = .ok (.enter g args) w)
  (hc : Calls P g args w fun e w' => e = .returned v ∧ R w') (hK : ∀ w', R w' → ∀ K : Act → World → Prop, (∀ a w, wpList P ops Q rest a w → K a w) → K (a.put o.dst v) w') : wpList P ops Q (o :: rest) a w := by
 refine wpList_plain hgd fun K hK' => ?_
 unfold Oper.wp; rw [h, Oper.upon_enter]
 refine hc.mono fun e w' hr => ?_
 obtain ⟨rfl, hr⟩ := hr; exact hK w' hr K hK'
theorem wl_calls {P : Program} {rest : List Oper} {o : Oper} {a : Act} {w : World} (hgd : o.guard = none) (g : FuncId) (args : Array Value) (R : Value → World → Prop) (h : (execOp a.eval o).run P w = .ok (.enter g args) w)
  (hc : Calls P g args w fun e w' => ∃ v, e = .returned v ∧ R v w') (hK : ∀ v w', R v w' → ∀ K : Act → World → Prop, (∀ a w, wpList P ops Q rest a w → K a w) → K (a.put o.dst v) w') : wpList P ops Q (o :: rest) a w := by
 refine wpList_plain hgd fun K hK' => ?_
 unfold Oper.wp; rw [h, Oper.upon_enter]
 refine hc.mono fun e w' hr => ?_
 obtain ⟨v, rfl, hr⟩ := hr; exact hK v w' hr K hK'
end
theorem box2 (w : World) (c1 c2 : Array Value) (t1 t2 : TypeId) : ∃ W b1 b2, (w.alloc (.cells c1 t1)).alloc (.cells c2 t2) = W ∧ w.heap.size = b1 ∧ w.heap.size + 1 = b2 ∧ W.heap[b1]? = some (.cells c1 t1 (0, 0)) ∧ W.heap[b2]? = some (.cells c2 t2 (0, 0)) ∧ Below w.heap.size w W :=
 ⟨_, _, _, rfl, rfl, rfl, keep (heap_alloc_new w _) ((Below.refl _ _).alloc (Nat.le_refl _) _), by simpa using heap_alloc_new (w.alloc (.cells c1 t1)) (.cells c2 t2), ((Below.refl _ _).alloc (Nat.le_refl _) _).alloc (by simp) _⟩
theorem box1 (w : World) (c1 : Array Value) (t1 : TypeId) : ∃ W b1, w.alloc (.cells c1 t1) = W ∧ w.heap.size = b1 ∧ W.heap[b1]? = some (.cells c1 t1 (0, 0)) ∧ Below w.heap.size w W :=
 ⟨_, _, rfl, rfl, heap_alloc_new w _, (Below.refl _ _).alloc (Nat.le_refl _) _⟩
section
variable {ops : Array Oper} {Q : Exit → Act → World → Prop}
theorem wl_load {P : Program} {rest : List Oper} {o : Oper} {a : Act} {w : World} (hgd : o.guard = none) (ty : TypeId) (x : Operand) (ho : o.op = .load ty x) (b : Nat) (hx : a.eval x = .pointer (some ⟨b, 0, none⟩)) (t : TypeId) (cs : Array Value) (fr : Nat × Nat) (d : TypeDesc)
  (hb : w.heap[b]? = some (.cells cs t fr)) (hu : P.underlying ty = some d) (hd : (match d with | .struct _ | .array _ _ => true | _ => false) = true) (hi : (P.info? ty).map (·.size) = some cs.size)
  (hK : ∀ K : Act → World → Prop, (∀ a w, wpList P ops Q rest a w → K a w) → K (a.put o.dst (.agg cs)) w) : wpList P ops Q (o :: rest) a w :=
 wl_val hgd (.agg cs) (by
  unfold execOp
  simp only [ho, hx, Instr.loadAt, Instr.sureAddr, Sem.run_bind, Sem.run_pure, Result.andThen_ok, run_loadVar_row w b t ty cs fr d hb hu hd hi]) hK
end
section
variable {P : Program} {ops : Array Oper} {md : Region.Mode} {Q : Exit → Act → World → Prop} {C : World → Prop}
theorem anyG_more {g k : Nat} {listed : Array Bool} {a : Act} {w : World} (l : List Oper) (hs : Region.noSelect ops = true) (hl : ∀ j, j < l.length → l[j]? = ops[k + j]?) (hB : lexG md ops l.length k listed = true)
  (h : wpGrow P ops C (fun a' => anyG P md ops C (noP Q) g (listedG k l.length listed) a' w) l a) : anyG P md ops C (noP Q) (l.length + g) listed a w :=
 anyG_lex hs (fun _ _ _ _ _ h => h) l k listed a hl hB (fun a' h => h) h
theorem op_at {i : Nat} {K : Act → World → Prop} {o : Oper} {a : Act} {w w' : World} (hi : ops[i]? = some o) (hgd : o.guard = none) (v : Value) (h : (execOp a.eval o).run P w = .ok (.value v) w') (hK : K (a.put o.dst v) w') : wpOp P ops Q i K a w := by
 unfold wpOp; simp only [hi]
 have hw : Region.wanted o (yielded ops a.tmps) = true := by simp [Region.wanted, hgd]
 rw [if_pos hw]; refine .inl ?_; unfold Oper.wp; rw [h]; exact hK
theorem op_stslice {i : Nat} {K : Act → World → Prop} {o : Oper} {a : Act} {w : World} (hi : ops[i]? = some o) (hgd : o.guard = none) (ty : TypeId) (hsz : ∀ w, (sizeOf ty).run P w = .ok 1 w) (x y : Operand) (ho : o.op = .store ty x y) (b j : Nat) (p : Option Addr) (n c : Nat) (cs : Array Value) (t : TypeId) (hx : a.eval x = .pointer (some ⟨b, j, none⟩)) (hy : a.eval y = .slice p n c)
  (hg : w.heap[b]? = some (.cells cs t (0, 0))) (hj : j < cs.size)
  (hh : ∀ w', w'.heap[b]? = some (.cells (cs.setIfInBounds j (.slice p n c)) t (0, 0)) → (∀ k, k ≠ b → w'.heap[k]? = w.heap[k]?) → (∀ B, B ≤ b → Below B w w') → K (a.put o.dst undef) w') : wpOp P ops Q i K a w := by
 unfold wpOp; simp only [hi]
 have hw : Region.wanted o (yielded ops a.tmps) = true := by simp [Region.wanted, hgd]
 rw [if_pos hw]; refine .inl ?_
 have hc : w.cell? ⟨b, j, none⟩ = some (cs[j]'hj) := by rw [cell_of_row w b j cs t _ hg]; exact Array.getElem?_eq_getElem hj
 have hf := frozen_of_row w b j cs t hg
 have hst : (store ⟨b, j, none⟩ (.slice p n c)).run P w = .ok () (w.setCell ⟨b, j, none⟩ (.slice p n c)) := by simp [go_sem, stored, hc, hf]
 unfold Oper.wp execOp; simp only [ho, hx, hy, Instr.storeAt, Instr.sureAddr, Sem.run_bind, Sem.run_pure, Result.andThen_ok]
 have hsv : (storeVar ty ⟨b, j, none⟩ (.slice p n c)).run P w = .ok () (w.setCell ⟨b, j, none⟩ (.slice p n c)) := by
  unfold storeVar; have hv : (Value.slice p n c).cells = #[.slice p n c] := rfl; simp only [Sem.run_bind, hsz, hv, Result.andThen_ok]; simp [storeCells, add_off, hst]
 rw [hsv]; exact hh _ (heap_setCell_same w b j cs t _ hg) (fun k hk => heap_setCell_other _ _ k _ hk) (fun B hB => (Below.refl B w).setCell (p := ⟨b, j, none⟩) hB _)
end
section
variable {P : Program} {ops : Array Oper} {md : Region.Mode} {Q : Exit → Act → World → Prop} {C : World → Prop}
theorem op_value {i : Nat} {K : Act → World → Prop} {o : Oper} {a : Act} {w : World} (hi : ops[i]? = some o) (hgd : o.guard = none) (v : Value) (h : (execOp a.eval o).run P w = .ok (.value v) w) (hK : K (a.put o.dst v) w) : wpOp P ops Q i K a w := by
 unfold wpOp; simp only [hi]
 have hw : Region.wanted o (yielded ops a.tmps) = true := by simp [Region.wanted, hgd]
 rw [if_pos hw]; refine .inl ?_; unfold Oper.wp; rw [h]; exact hK
end
section
variable {P : Program} {ops : Array Oper} {Q : Exit → Act → World → Prop} {rest : List Oper} {o : Oper} {a a' : Act} {w : World}
theorem Zv {v : Value} (h : wpList P ops Q rest a' w) (hgd : o.guard = none := by rfl) (hx : (execOp a.eval o).run P w = .ok (.value v) w := by go_simp; try with_reducible rfl) (ha : a.put o.dst v = a' := by go_simp; try rfl) : wpList P ops Q (o :: rest) a w := by subst ha; exact wl_val hgd v hx (fun K hK => hK _ _ h)
theorem Zc (g : FuncId) (args : Array Value) (v : Value) {R : World → Prop} (hc : Calls P g args w fun e w' => e = .returned v ∧ R w') (hK : ∀ w', R w' → wpList P ops Q rest a' w') (hgd : o.guard = none := by rfl) (h : (execOp a.eval o).run P w = .ok (.enter g args) w := by first | (go_simp; done) | (go_simp; rfl) | (go_simp; simp only [IntKind.wrap_u32]; omega)) (ha : a.put o.dst v = a' := by go_simp; try rfl) : wpList P ops Q (o :: rest) a w := by subst ha; exact wl_call hgd g args v R h hc fun w' hr K hK' => hK' _ _ (hK w' hr)
theorem Zq (g : FuncId) (args : Array Value) {v0 : Value} (hc : Calls P g args w fun e w' => e = .returned v0 ∧ Below w.heap.size w w') (hK : ∀ w', Below w.heap.size w w' → wpList P ops Q rest a' w') (hgd : o.guard = none := by rfl) (h : (execOp a.eval o).run P w = .ok (.enter g args) w := by first | (go_simp; done) | (go_simp; rfl) | (go_simp; simp only [IntKind.wrap_u32]; omega)) (ha : a.put o.dst v0 = a' := by go_simp; try rfl) : wpList P ops Q (o :: rest) a w := Zc g args v0 hc hK hgd h ha
theorem Zd {x : Operand} {b : Nat} {t : TypeId} {cs : Array Value} {fr : Nat × Nat} {d : TypeDesc} (ty : TypeId) (hb : w.heap[b]? = some (.cells cs t fr)) (hu : P.underlying ty = some d) (h : wpList P ops Q rest a' w) (hgd : o.guard = none := by rfl) (ho : o.op = .load ty x := by rfl) (hx : a.eval x = .pointer (some ⟨b, 0, none⟩) := by rfl) (hd : (match d with | .struct _ | .array _ _ => true | _ => false) = true := by rfl) (hi : (P.info? ty).map (·.size) = some cs.size := by kernel_rfl) (ha : a.put o.dst (.agg cs) = a' := by go_simp; try rfl) : wpList P ops Q (o :: rest) a w := by subst ha; exact wl_load hgd ty x ho b hx t cs fr d hb hu hd hi fun K hK => hK _ _ h
end
end Go.Proofs.YtbcgngfbbbfebaaGreatDoor
namespace Go.Proofs.YtbcgngfbbbfebaaGreatDoor
open Go.RowKit Go.Maps
set_option maxRecDepth 100000
set_option maxHeartbeats 32000000
set_option linter.unusedVariables false
set_option linter.unusedSimpArgs false
structure Ins where
 op : Int
 a : Int
 b : Int
 c : Int
 k : Int
def insL (x : Ins) : List Value := [.int .i64 x.op, .int .i64 x.a, .int .i64 x.b, .int .i64 x.c, .int .u32 x.k]
def insC (x : Ins) : Array Value := #[.int .i64 x.op, .int .i64 x.a, .int .i64 x.b, .int .i64 x.c, .int .u32 x.k]
def insV (x : Ins) : Value := .agg (insC x)
structure Lnk where
 at' : Int
 name : ByteArray
def lnkL (x : Lnk) : List Value := [.int .i64 x.at', .string x.name]
abbrev Plc := DataW Unit
def nmL (s : ByteArray) : Lit := .string s.data.toList
structure BS where
 code : List Ins
 places : Plc
 links : List Lnk
 bad : Bool
 np : Nat
def BS.sz (st : BS) : Nat := st.np + st.code.length + st.links.length
def BS.emit (st : BS) (x : Ins) : BS := { st with code := st.code ++ [x] }
def BS.set (st : BS) (a k : Int) : BS := st.emit ⟨1, a, 0, 0, k⟩
def BS.alu (st : BS) (op a x y : Int) : BS := st.emit ⟨op, a, x, y, 0⟩
def BS.ask (st : BS) (op a addr : Int) : BS := st.emit ⟨op, a, 8, 0, addr⟩
def BS.cas (st : BS) (a c addr : Int) : BS := st.emit ⟨21, a, 8, c, addr⟩
def BS.go (st : BS) (op a : Int) (name : ByteArray) : BS := { st with links := st.links ++ [⟨st.code.length, name⟩], code := st.code ++ [⟨op, a, 0, 0, 0⟩] }
def BS.place (st : BS) (name : ByteArray) : BS := if Maps.has st.places (nmL name) = true then { st with bad := true, np := st.np + 1 } else { st with places := st.places.put (nmL name) (.lit (.int .i64 st.code.length)), np := st.np + 1 }
def BS.zero : BS := ⟨[], .map [], [], false, 0⟩
@[simp] theorem sz_emit (st : BS) (x : Ins) : (st.emit x).sz = st.sz + 1 := by simp [BS.sz, BS.emit]; omega
@[simp] theorem sz_set (st : BS) (a k : Int) : (st.set a k).sz = st.sz + 1 := sz_emit _ _
@[simp] theorem sz_alu (st : BS) (op a x y : Int) : (st.alu op a x y).sz = st.sz + 1 := sz_emit _ _
@[simp] theorem sz_ask (st : BS) (op a addr : Int) : (st.ask op a addr).sz = st.sz + 1 := sz_emit _ _
@[simp] theorem sz_cas (st : BS) (a c addr : Int) : (st.cas a c addr).sz = st.sz + 1 := sz_emit _ _
@[simp] theorem sz_go (st : BS) (op a : Int) (name : ByteArray) : (st.go op a name).sz = st.sz + 2 := by simp [BS.sz, BS.go]; omega
@[simp] theorem sz_place (st : BS) (name : ByteArray) : (st.place name).sz = st.sz + 1 := by
 unfold BS.place
 split <;> simp [BS.sz] <;> omega
def OwnI (w : World) (v : Value) (l : List Ins) : Prop := w.ownsRow 0 114 5 v l.length (l.flatMap insL)
def OwnK (w : World) (v : Value) (l : List Lnk) : Prop := w.ownsRow 0 243 2 v l.length (l.flatMap lnkL)
theorem insL_len : ∀ l : List Ins, (l.flatMap insL).length = l.length * 5
 | [] => rfl
 | x :: l => by rw [List.flatMap_cons, List.length_append, insL_len l]; simp [insL]; omega
def mapB : Value → Option Nat
 | .map o => o
 | _ => none
def PlM (w : World) (v : Value) (D : Plc) (n : Nat) : Prop := (v = .map none ∧ D = .map []) ∨ ∃ B, v = .map (some B) ∧ w.ownsMap Tryz.prog 9 (plainElem Tryz.prog 3) B n D
theorem row_keep {w w' : World} {ty : TypeId} {sz : Nat} {v : Value} {n : Nat} {xs : List Value} (h : w.ownsRow 0 ty sz v n xs) (hb : ∀ g, v.ownBlock = some g → w'.heap[g]? = w.heap[g]?) : w'.ownsRow 0 ty sz v n xs := by
 refine ⟨h.1, ?_⟩; rcases h.2 with h2 | ⟨g, cap, cur, rfl, h3, h4, r⟩
 ·exact .inl h2
 ·exact .inr ⟨g, cap, cur, rfl, h3, (hb g rfl).trans h4, r⟩
theorem row_blk {w : World} {ty : TypeId} {sz : Nat} {v : Value} {n : Nat} {xs : List Value} (h : w.ownsRow 0 ty sz v n xs) {g : Nat} (hg : v.ownBlock = some g) : ∃ cur, w.heap[g]? = some (.cells cur ty (0, 0)) := by
 rcases h.2 with ⟨rfl, _⟩ | ⟨g', cap, cur, rfl, h3, h4, r⟩
 ·cases hg
 ·cases hg; exact ⟨cur, h4⟩
theorem row_form {w : World} {ty : TypeId} {sz : Nat} {v : Value} {n : Nat} {xs : List Value} (h : w.ownsRow 0 ty sz v n xs) : ∃ p m c, v = .slice p m c := by
 rcases h.2 with ⟨rfl, h0⟩ | ⟨g', cap, cur, rfl, h3, h4, r⟩
 ·exact ⟨none, 0, 0, rfl⟩
 ·exact ⟨_, _, _, rfl⟩
theorem plm_blk {w : World} {v : Value} {D : Plc} {n : Nat} (h : PlM w v D n) {g : Nat} (hg : mapB v = some g) : ∃ es clock, w.heap[g]? = some (.map es clock) := by
 rcases h with ⟨rfl, _⟩ | ⟨B, rfl, es, clock, h1, _⟩
 ·cases hg
 ·cases hg; exact ⟨es, clock, h1⟩
theorem plm_keep {w w' : World} {v : Value} {D : Plc} {n : Nat} (h : PlM w v D n) (hb : ∀ g, mapB v = some g → w'.heap[g]? = w.heap[g]?) : PlM w' v D n := by
 rcases h with h | ⟨B, rfl, es, clock, h1, r⟩
 ·exact .inl h
 ·exact .inr ⟨B, rfl, es, clock, (hb B rfl).trans h1, r⟩
structure BMv (w : World) (b : Nat) (F : Nat → Prop) (st : BS) (vc vl vm : Value) : Prop where
 blk : w.heap[b]? = some (.cells #[vc, vm, vl, .bool st.bad] 202 (0, 0))
 code : OwnI w vc st.code
 links : OwnK w vl st.links
 places : PlM w vm st.places st.np
 foot : ∀ k, F k ↔ (k = b ∨ vc.ownBlock = some k ∨ vl.ownBlock = some k ∨ mapB vm = some k)
def BMem (w : World) (b : Nat) (F : Nat → Prop) (st : BS) : Prop := ∃ vc vl vm, BMv w b F st vc vl vm
structure Upd (F F' : Nat → Prop) (w w' : World) : Prop where
 low : ∀ B, (∀ k, F k → B ≤ k) → B ≤ w.heap.size → Below B w w'
 blk : ∀ k, k < w.heap.size → ¬ F k → w'.heap[k]? = w.heap[k]?
 foot : ∀ k, F' k → F k ∨ w.heap.size ≤ k
theorem Upd.size {F F' : Nat → Prop} {w w' : World} (h : Upd F F' w w') : w.heap.size ≤ w'.heap.size := (h.low 0 (fun _ _ => Nat.zero_le _) (Nat.zero_le _)).size
theorem Upd.refl (F : Nat → Prop) (w : World) : Upd F F w w := ⟨fun B _ _ => Below.refl B w, fun _ _ _ => rfl, fun _ h => .inl h⟩
theorem Upd.trans {F F' F'' : Nat → Prop} {w w' w'' : World} (h : Upd F F' w w') (h' : Upd F' F'' w' w'') : Upd F F'' w w'' := by
 refine ⟨fun B hF hB => (h.low B hF hB).trans (h'.low B (fun k hk => ?_) (Nat.le_trans hB h.size)), fun k hk hF => ?_, fun k hk => ?_⟩
 ·rcases h.foot k hk with h1 | h1
  ·exact hF k h1
  ·omega
 ·refine (h'.blk k (Nat.lt_of_lt_of_le hk h.size) (fun hk' => ?_)).trans (h.blk k hk hF)
  rcases h.foot k hk' with h1 | h1
  ·exact hF h1
  ·omega
 ·rcases h'.foot k hk with h1 | h1
  ·exact h.foot k h1
  ·have := h.size; exact .inr (by omega)
theorem Upd.of_below {F : Nat → Prop} {w w' : World} (h : Below w.heap.size w w') : Upd F F w w' := ⟨fun B _ hB => h.mono hB, fun k hk _ => h.block k hk, fun _ h => .inl h⟩
theorem BMv.lt {w : World} {b : Nat} {F : Nat → Prop} {st : BS} {vc vl vm : Value} (h : BMv w b F st vc vl vm) : ∀ k, F k → k < w.heap.size := fun k hk => by
 rcases (h.foot k).1 hk with rfl | e | e | e
 ·exact blk_lt h.blk
 ·obtain ⟨_, h1⟩ := row_blk h.code e; exact blk_lt h1
 ·obtain ⟨_, h1⟩ := row_blk h.links e; exact blk_lt h1
 ·obtain ⟨_, _, h1⟩ := plm_blk h.places e; exact blk_lt h1
theorem BMv.keep {w w' : World} {b : Nat} {F : Nat → Prop} {st : BS} {vc vl vm : Value} (h : BMv w b F st vc vl vm) (hb : ∀ k, F k → w'.heap[k]? = w.heap[k]?) : BMv w' b F st vc vl vm :=
 ⟨(hb b ((h.foot b).2 (.inl rfl))).trans h.blk, row_keep h.code (fun g e => hb g ((h.foot g).2 (.inr (.inl e)))), row_keep h.links (fun g e => hb g ((h.foot g).2 (.inr (.inr (.inl e))))), plm_keep h.places (fun g e => hb g ((h.foot g).2 (.inr (.inr (.inr e))))), h.foot⟩
theorem BMv.below {w w' : World} {b : Nat} {F : Nat → Prop} {st : BS} {vc vl vm : Value} (h : BMv w b F st vc vl vm) (hb : Below w.heap.size w w') : BMv w' b F st vc vl vm := h.keep fun k hk => hb.block k (h.lt k hk)
theorem BMem.below {w w' : World} {b : Nat} {F : Nat → Prop} {st : BS} (h : BMem w b F st) (hb : Below w.heap.size w w') : BMem w' b F st := by
 obtain ⟨vc, vl, vm, h⟩ := h; exact ⟨vc, vl, vm, h.below hb⟩
theorem BMem.lt {w : World} {b : Nat} {F : Nat → Prop} {st : BS} (h : BMem w b F st) : ∀ k, F k → k < w.heap.size := by
 obtain ⟨vc, vl, vm, h⟩ := h; exact h.lt
theorem cells_ne {w : World} {i j : Nat} {cs ds : Array Value} {t u : TypeId} {f g : Nat × Nat} (h : w.heap[i]? = some (.cells cs t f)) (h' : w.heap[j]? = some (.cells ds u g)) (n : t ≠ u) : i ≠ j := fun e => by
 subst e; rw [h] at h'; simp only [Option.some.injEq, Obj.cells.injEq] at h'; exact n h'.2.1
theorem map_ne {w : World} {i j : Nat} {cs : Array Value} {t : TypeId} {f : Nat × Nat} {es : Array MapEntry} {c : Nat} (h : w.heap[i]? = some (.cells cs t f)) (h' : w.heap[j]? = some (.map es c)) : i ≠ j := fun e => by
 subst e; rw [h] at h'; cases h'
end Go.Proofs.YtbcgngfbbbfebaaGreatDoor
