/- What the judge of the races holds in memory: eight clocks, a map of clocks, a slice of clocks; how each is read and written. -/
import Derived.Test.YtnchafbaipeagaaActs
import Derived.Test.YtnchafbaipeagaaGrow
import Derived.Maps.AppendAt
namespace Go.Proofs.Ytnchafbaipeagaa
open Go.RowKit
set_option linter.unusedVariables false
set_option linter.unusedSimpArgs false

/-! ### a clock at a place of a block -/
theorem add_off (b off i : Nat) : (⟨b, off, none⟩ : Addr).add i = ⟨b, off + i, none⟩ := by
  unfold Addr.add; split
  · rename_i h; subst h; rfl
  · rfl
theorem vc_list (f : Nat → Int) : (vc f).toList = [.int .u32 (f 0), .int .u32 (f 1), .int .u32 (f 2), .int .u32 (f 3), .int .u32 (f 4), .int .u32 (f 5), .int .u32 (f 6), .int .u32 (f 7)] := rfl
theorem vc_at (f : Nat → Int) (i : Nat) (h : i < 8) : (vc f)[i]? = some (.int .u32 (f i)) := by
  have : i = 0 ∨ i = 1 ∨ i = 2 ∨ i = 3 ∨ i = 4 ∨ i = 5 ∨ i = 6 ∨ i = 7 := by omega
  rcases this with rfl | rfl | rfl | rfl | rfl | rfl | rfl | rfl <;> rfl
theorem vc_congr {f g : Nat → Int} (h : ∀ i, i < 8 → f i = g i) : vc f = vc g := by
  simp [vc, h 0, h 1, h 2, h 3, h 4, h 5, h 6, h 7]
theorem ld_clk (w : World) (b off : Nat) (f : Nat → Int) (h : ∀ t, t < 8 → w.cell? ⟨b, off + t, none⟩ = some (.int .u32 (f t))) :
    (loadVar 52 ⟨b, off, none⟩).run Try.prog w = .ok (.agg (vc f)) w := by
  have hl : (loadCells ⟨b, off, none⟩ 8).run Try.prog w = .ok (vc f) w := by
    have := run_loadCells_list (P := Try.prog) w ⟨b, off, none⟩ (vc f).toList (fun j v hv => by
      have hj : j < 8 := by
        have := (List.getElem?_eq_some_iff.1 hv).1
        simpa [vc_list] using this
      rw [add_off, h j hj]
      have h2 := vc_at f j hj
      rw [← Array.getElem?_toList] at h2
      rw [h2] at hv; exact hv)
    exact this
  have h1 := Try.isAgg52
  have h2 := Try.sizeOf52
  unfold loadVar
  simp only [Sem.run_bind, h1, h2, Result.andThen_ok, if_true, hl, Sem.run_pure]

section
variable {ops : Array Oper} {C : World → Prop}
theorem q_ldclk {o : Oper} {a : Act} {K : Act → Prop} (x : Operand) (ho : o.op = .load 52 x) (b off : Nat) (f : Nat → Int) (hx : a.eval x = .pointer (some ⟨b, off, none⟩))
    (h : ∀ w, C w → ∀ t, t < 8 → w.cell? ⟨b, off + t, none⟩ = some (.int .u32 (f t))) (hK : K (a.put o.dst (.agg (vc f)))) : o.quiet Try.prog a C K :=
  q_value (.agg (vc f)) (fun w hw => by
    unfold execOp
    simp only [ho, hx, Instr.loadAt, Instr.sureAddr, Sem.run_bind, Sem.run_pure, Result.andThen_ok, ld_clk w b off f (h w hw)]) hK
theorem ga_ldclk {o : Oper} {a : Act} {w : World} (x : Operand) (ho : o.op = .load 52 x) (b off : Nat) (f : Nat → Int) (hx : a.eval x = .pointer (some ⟨b, off, none⟩))
    (h : ∀ t, t < 8 → w.cell? ⟨b, off + t, none⟩ = some (.int .u32 (f t))) : growAt Try.prog o a w (.agg (vc f)) :=
  ga_value (by
    unfold execOp
    simp only [ho, hx, Instr.loadAt, Instr.sureAddr, Sem.run_bind, Sem.run_pure, Result.andThen_ok, ld_clk w b off f h])
end

/-- eight cells written, one behind the other -/
def set8 (cs : Array Value) (off : Nat) (f : Nat → Int) : Array Value :=
  (((((((cs.setIfInBounds (off + 0) (.int .u32 (f 0))).setIfInBounds (off + 1) (.int .u32 (f 1))).setIfInBounds (off + 2) (.int .u32 (f 2))).setIfInBounds (off + 3) (.int .u32 (f 3))).setIfInBounds (off + 4) (.int .u32 (f 4))).setIfInBounds (off + 5) (.int .u32 (f 5))).setIfInBounds (off + 6) (.int .u32 (f 6))).setIfInBounds (off + 7) (.int .u32 (f 7))
theorem set8_size (cs : Array Value) (off : Nat) (f : Nat → Int) : (set8 cs off f).size = cs.size := by simp [set8]
theorem set8_in (cs : Array Value) (off : Nat) (f : Nat → Int) (t : Nat) (ht : t < 8) (h : off + 8 ≤ cs.size) : (set8 cs off f)[off + t]? = some (.int .u32 (f t)) := by
  have : t = 0 ∨ t = 1 ∨ t = 2 ∨ t = 3 ∨ t = 4 ∨ t = 5 ∨ t = 6 ∨ t = 7 := by omega
  rcases this with rfl | rfl | rfl | rfl | rfl | rfl | rfl | rfl <;> simp [set8, Array.getElem?_setIfInBounds] <;> omega
theorem set8_out (cs : Array Value) (off : Nat) (f : Nat → Int) (j : Nat) (h : j < off ∨ off + 8 ≤ j) : (set8 cs off f)[j]? = cs[j]? := by
  simp only [set8, Array.getElem?_setIfInBounds]
  repeat rw [if_neg (by omega)]

theorem st_cell (w : World) (b : Nat) (cs : Array Value) (t : TypeId) (hb : w.heap[b]? = some (.cells cs t (0, 0))) (j : Nat) (hj : j < cs.size) (k : IntKind) (z : Int) :
    (store ⟨b, j, none⟩ (.int k z)).run Try.prog w = .ok () (w.setCell ⟨b, j, none⟩ (.int k z)) := by
  have hc : w.cell? ⟨b, j, none⟩ = some cs[j] := by rw [cell_of_row w b j cs t _ hb]; exact Array.getElem?_eq_getElem hj
  have hf := frozen_of_row w b j cs t hb
  simp [go_sem, stored, hc, hf]
/-- A clock is stored at a place of a block: the block's cells; the other blocks. -/
theorem st_clk (w : World) (b off : Nat) (f : Nat → Int) (cs : Array Value) (t : TypeId) (hb : w.heap[b]? = some (.cells cs t (0, 0))) (hsz : off + 8 ≤ cs.size) :
    ∃ w', (storeVar 52 ⟨b, off, none⟩ (.agg (vc f))).run Try.prog w = .ok () w' ∧ w'.heap[b]? = some (.cells (set8 cs off f) t (0, 0)) ∧ (∀ k, k ≠ b → w'.heap[k]? = w.heap[k]?) ∧ (∀ B, B ≤ b → Below B w w') ∧ w'.heap.size = w.heap.size := by
  have h2 := Try.sizeOf52
  have step : ∀ (w : World) (cs : Array Value) (j : Nat) (z : Int), w.heap[b]? = some (.cells cs t (0, 0)) → j < cs.size →
      ∃ w', (store ⟨b, j, none⟩ (.int .u32 z)).run Try.prog w = .ok () w' ∧ w'.heap[b]? = some (.cells (cs.setIfInBounds j (.int .u32 z)) t (0, 0)) ∧ (∀ k, k ≠ b → w'.heap[k]? = w.heap[k]?) ∧ (∀ B, B ≤ b → Below B w w') ∧ w'.heap.size = w.heap.size := by
    intro w cs j z hb hj
    exact ⟨_, st_cell w b cs t hb j hj _ _, heap_setCell_same w b j cs t _ hb, fun k hk => heap_setCell_other w _ k _ hk, fun B hB => (Below.refl _ _).setCell hB _, by simp [World.setCell]⟩
  obtain ⟨w1, r1, b1, o1, l1, s1⟩ := step w cs (off + 0) (f 0) hb (by omega)
  obtain ⟨w2, r2, b2, o2, l2, s2⟩ := step w1 _ (off + 1) (f 1) b1 (by simp; omega)
  obtain ⟨w3, r3, b3, o3, l3, s3⟩ := step w2 _ (off + 2) (f 2) b2 (by simp; omega)
  obtain ⟨w4, r4, b4, o4, l4, s4⟩ := step w3 _ (off + 3) (f 3) b3 (by simp; omega)
  obtain ⟨w5, r5, b5, o5, l5, s5⟩ := step w4 _ (off + 4) (f 4) b4 (by simp; omega)
  obtain ⟨w6, r6, b6, o6, l6, s6⟩ := step w5 _ (off + 5) (f 5) b5 (by simp; omega)
  obtain ⟨w7, r7, b7, o7, l7, s7⟩ := step w6 _ (off + 6) (f 6) b6 (by simp; omega)
  obtain ⟨w8, r8, b8, o8, l8, s8⟩ := step w7 _ (off + 7) (f 7) b7 (by simp; omega)
  refine ⟨w8, ?_, b8, fun k hk => ?_, fun B hB => ?_, ?_⟩
  · unfold storeVar
    have hv : (Value.agg (vc f)).cells = vc f := rfl
    simp only [Sem.run_bind, h2, hv, Result.andThen_ok, vc_list]
    simp only [storeCells, add_off, Nat.zero_add, Sem.run_bind]
    simp only [Nat.add_zero] at r1
    simp [vc, r1, r2, r3, r4, r5, r6, r7, r8]
  · rw [o8 k hk, o7 k hk, o6 k hk, o5 k hk, o4 k hk, o3 k hk, o2 k hk, o1 k hk]
  · exact (((((((l1 B hB).trans (l2 B hB)).trans (l3 B hB)).trans (l4 B hB)).trans (l5 B hB)).trans (l6 B hB)).trans (l7 B hB)).trans (l8 B hB)
  · omega

/-! ### the map of clocks -/
def keyIs (e : MapEntry) (p : Int) : Bool := match e.key with
  | .int .i64 q => p == q
  | _ => false
theorem keyIs_int {e : MapEntry} {q : Int} (h : e.key = .int .i64 q) (p : Int) : keyIs e p = (p == q) := by unfold keyIs; rw [h]
/-- the first entry of a key -/
def lk : List MapEntry → Int → Nat → Option (Nat × Value)
  | [], _, _ => none
  | e :: es, p, i => if keyIs e p = true then some (i, e.val) else lk es p (i + 1)
def intKeys (es : List MapEntry) : Prop := ∀ e ∈ es, ∃ q, e.key = .int .i64 q
theorem findNow_lk : ∀ (es : List MapEntry) (p : Int) (i : Nat), intKeys es → Instr.findNow (.int .i64) (.int .i64 p) es i = some (lk es p i)
  | [], _, _, _ => rfl
  | e :: es, p, i, h => by
    obtain ⟨q, hq⟩ := h e (by simp)
    have ih := findNow_lk es p (i + 1) (fun e' he' => h e' (by simp [he']))
    simp only [Instr.findNow, lk, hq, Instr.sameNow, keyIs_int hq, if_true]
    cases hpq : (p == q) <;> simp [ih]
theorem lk_get : ∀ (es : List MapEntry) (p : Int) (i j : Nat) (v : Value), lk es p i = some (j, v) → ∃ n, j = i + n ∧ ∃ e, es[n]? = some e ∧ keyIs e p = true ∧ e.val = v
  | [], _, _, _, _, h => by cases h
  | e :: es, p, i, j, v, h => by
    simp only [lk] at h
    by_cases hk : keyIs e p = true
    · rw [if_pos hk] at h
      injection h with h; injection h with h1 h2
      exact ⟨0, by omega, e, rfl, hk, h2⟩
    · rw [if_neg hk] at h
      obtain ⟨n, h1, e', h2, h3, h4⟩ := lk_get es p (i + 1) j v h
      exact ⟨n + 1, by omega, e', by simpa using h2, h3, h4⟩
theorem lk_push : ∀ (es : List MapEntry) (p q : Int) (i : Nat) (e : MapEntry), e.key = .int .i64 q → (lk (es ++ [e]) p i).map (·.2) = ((lk es p i).map (·.2)).or (if p = q then some e.val else none)
  | [], p, q, i, e, h => by
    simp only [List.nil_append, lk, keyIs_int h, beq_iff_eq]
    split <;> simp
  | x :: es, p, q, i, e, h => by
    simp only [List.cons_append, lk]
    split
    · simp
    · exact lk_push es p q (i + 1) e h
theorem lk_set : ∀ (es : List MapEntry) (p q : Int) (i n : Nat) (v u : Value), lk es q i = some (i + n, u) →
    (lk (es.modify n fun e => { e with key := .int .i64 q, val := v }) p i).map (·.2) = if p = q then some v else (lk es p i).map (·.2)
  | [], _, _, _, _, _, _, h => by cases h
  | e :: es, p, q, i, n, v, u, h => by
    simp only [lk] at h
    by_cases hk : keyIs e q = true
    · rw [if_pos hk] at h
      injection h with h; injection h with h1 h2
      have : n = 0 := by omega
      subst this
      simp only [List.modify_zero_cons, lk]
      rw [keyIs_int (e := { e with key := .int .i64 q, val := v }) rfl p]
      by_cases hp : p = q
      · simp [hp]
      · have hk' : ¬ keyIs e p = true := by
          unfold keyIs at hk ⊢
          split at hk
          · rename_i r hr
            simp only [hr, beq_iff_eq] at hk ⊢
            rw [← hk]; exact hp
          · cases hk
        rw [if_neg (by simpa using hp), if_neg hp, if_neg hk']
    · rw [if_neg hk] at h
      obtain ⟨m, h1, _⟩ := lk_get es q (i + 1) _ u h
      have hn : n = m + 1 := by omega
      subst hn
      have ih := lk_set es p q (i + 1) m v u (by rw [h]; congr 2 <;> omega)
      simp only [List.modify_succ_cons, lk]
      by_cases hp : p = q
      · subst hp
        rw [if_neg hk, if_pos rfl]
        rw [if_pos rfl] at ih
        exact ih
      · rw [if_neg hp]
        rw [if_neg hp] at ih
        split
        · rfl
        · exact ih

/-- The map of block m reads as G: a clock for each place, the zero one where nothing was given. -/
def GM (w : World) (m : Nat) (G : Int → Nat → Int) : Prop :=
  ∃ es clock, w.heap[m]? = some (.map es clock) ∧ intKeys es.toList ∧ ∀ p, ((lk es.toList p 0).map (·.2) = some (.agg (vc (G p)))) ∨ ((lk es.toList p 0).map (·.2) = none ∧ ∀ t, t < 8 → G p t = 0)
theorem zero52 (w : World) : (zeroValue 52).run Try.prog w = .ok (.agg (vc fun _ => 0)) w := by kernel_rfl
theorem GM_look {w : World} {m : Nat} {G : Int → Nat → Int} (h : GM w m G) (p : Int) : (Instr.lookup 49 (.map (some m)) (.int .i64 p) false).run Try.prog w = .ok (.agg (vc (G p))) w := by
  obtain ⟨es, clock, hm, hk, hg⟩ := h
  have hu3 : ∀ w, (underlying 3).run Try.prog w = .ok (.int .i64) w := run_underlying Try.underlying3
  have hu49 := run_underlying Try.underlying49 (P := Try.prog)
  have hf := findNow_lk es.toList p 0 hk
  have hck : ∀ (b : Bool) (w : World), (Instr.checkKey b 10000 3 (.int .i64 p)).run Try.prog w = .ok () w := fun b w => by
    have h1 : ∀ n, (Instr.checkKey b (n + 1) 3 (.int .i64 p)).run Try.prog w = .ok () w := fun n => by
      simp only [Instr.checkKey, Sem.run_bind, hu3, Result.andThen_ok, Sem.run_pure]
    exact h1 9999
  have hfk : (Instr.findKey 3 (.int .i64 p) es.toList).run Try.prog w = .ok (lk es.toList p 0) w := by
    simp only [Instr.findKey, Sem.run_bind, hu3, Result.andThen_ok, hf, Sem.run_pure]
  have hgo : (getObj m).run Try.prog w = .ok (.map es clock) w := by
    unfold getObj; simp only [Sem.run, hm]
  unfold Instr.lookup
  simp only [Sem.run_bind, hu49, Result.andThen_ok, hgo, Sem.run_pure, hck, hfk]
  rcases hg p with e | ⟨e, hz⟩
  · cases hl : lk es.toList p 0 with
    | none => rw [hl] at e; cases e
    | some x =>
      obtain ⟨j, v⟩ := x
      rw [hl] at e
      injection e with e
      simp only at e
      simp [e]
  · cases hl : lk es.toList p 0 with
    | none =>
      simp only [Sem.run_bind, zero52, Result.andThen_ok, Sem.run_pure, Bool.false_eq_true, if_false]
      rw [vc_congr (f := fun _ => 0) (g := G p) fun i hi => (hz i hi).symm]
    | some x => rw [hl] at e; cases e

theorem keyIs_eq {e : MapEntry} {p : Int} (h : keyIs e p = true) : e.key = .int .i64 p := by
  unfold keyIs at h
  split at h
  · rename_i r hr
    rw [hr]; simp only [beq_iff_eq] at h; rw [h]
  · cases h
theorem GM_put {w : World} {m : Nat} {G : Int → Nat → Int} (h : GM w m G) (p : Int) (f : Nat → Int) :
    ∃ w', (Instr.mapUpdate 49 (.map (some m)) (.int .i64 p) (.agg (vc f))).run Try.prog w = .ok () w' ∧ GM w' m (fun q => if q = p then f else G q) ∧ (∀ k, k ≠ m → w'.heap[k]? = w.heap[k]?) ∧ (∀ B, B ≤ m → Below B w w') ∧ w'.heap.size = w.heap.size := by
  obtain ⟨es, clock, hm, hk, hg⟩ := h
  have hu3 : ∀ w, (underlying 3).run Try.prog w = .ok (.int .i64) w := run_underlying Try.underlying3
  have hu49 := run_underlying Try.underlying49 (P := Try.prog)
  have hf := findNow_lk es.toList p 0 hk
  have hck : ∀ (b : Bool) (w : World), (Instr.checkKey b 10000 3 (.int .i64 p)).run Try.prog w = .ok () w := fun b w => by
    have h1 : ∀ n, (Instr.checkKey b (n + 1) 3 (.int .i64 p)).run Try.prog w = .ok () w := fun n => by
      simp only [Instr.checkKey, Sem.run_bind, hu3, Result.andThen_ok, Sem.run_pure]
    exact h1 9999
  have hfk : (Instr.findKey 3 (.int .i64 p) es.toList).run Try.prog w = .ok (lk es.toList p 0) w := by
    simp only [Instr.findKey, Sem.run_bind, hu3, Result.andThen_ok, hf, Sem.run_pure]
  have hgo : (getObj m).run Try.prog w = .ok (.map es clock) w := by
    unfold getObj; simp only [Sem.run, hm]
  have hset : ∀ o, (setObj m o).run Try.prog w = .ok () { w with heap := w.heap.setIfInBounds m o } := fun o => by
    unfold setObj; simp only [Sem.run, hm]
  have hmlt : m < w.heap.size := (Array.getElem?_eq_some_iff.1 hm).1
  have frame : ∀ o : Obj, (∀ k, k ≠ m → ({ w with heap := w.heap.setIfInBounds m o } : World).heap[k]? = w.heap[k]?) ∧ (∀ B, B ≤ m → Below B w { w with heap := w.heap.setIfInBounds m o }) ∧ ({ w with heap := w.heap.setIfInBounds m o } : World).heap.size = w.heap.size ∧
      ({ w with heap := w.heap.setIfInBounds m o } : World).heap[m]? = some o := fun o => by
    have h1 : ∀ k, k ≠ m → (w.heap.setIfInBounds m o)[k]? = w.heap[k]? := fun k hk => by
      rw [Array.getElem?_setIfInBounds, if_neg (fun e => hk e.symm)]
    exact ⟨h1, fun B hB => ⟨rfl, rfl, rfl, by simp, fun k hk => h1 k (by omega)⟩, by simp, by simp [Array.getElem?_setIfInBounds, hmlt]⟩
  cases hl : lk es.toList p 0 with
  | none =>
    obtain ⟨f1, f2, f3, f4⟩ := frame (.map (es.push { key := .int .i64 p, val := .agg (vc f), born := clock }) (clock + 1))
    refine ⟨_, ?_, ⟨_, _, f4, ?_, ?_⟩, f1, f2, f3⟩
    · unfold Instr.mapUpdate
      simp only [Sem.run_bind, hu49, Result.andThen_ok, hgo, hck, hfk, hl, hset]
    · intro e he
      simp only [Array.toList_push, List.mem_append, List.mem_singleton] at he
      rcases he with he | rfl
      · exact hk e he
      · exact ⟨p, rfl⟩
    · intro q
      simp only [Array.toList_push]
      rw [lk_push _ q p 0 _ rfl]
      by_cases hq : q = p
      · subst hq; left; rw [hl]; simp
      · simp only [if_neg hq, Option.or_none]; exact hg q
  | some x =>
    obtain ⟨j, u⟩ := x
    obtain ⟨n, hj, e, he, hke, hv⟩ := lk_get _ _ _ _ _ hl
    have hjn : j = n := by omega
    subst hjn
    have hkey := keyIs_eq hke
    have hold : ((es[j]?).map (·.key)).getD (.int .i64 p) = .int .i64 p := by
      rw [← Array.getElem?_toList, he]; simp [hkey]
    have hks : (Instr.keyThatStays (.int .i64 p) (.int .i64 p)).run Try.prog w = .ok (.int .i64 p) w := by
      unfold Instr.keyThatStays
      have hsb : ∀ n, Instr.sameBits n (.int .i64 p) (.int .i64 p) = true := fun n => by cases n <;> simp [Instr.sameBits]
      simp [hsb]
    obtain ⟨f1, f2, f3, f4⟩ := frame (.map (es.modify j fun e => { e with key := .int .i64 p, val := .agg (vc f) }) clock)
    refine ⟨_, ?_, ⟨_, _, f4, ?_, ?_⟩, f1, f2, f3⟩
    · unfold Instr.mapUpdate
      simp only [Sem.run_bind, hu49, Result.andThen_ok, hgo, hck, hfk, hl, hold, hks, hset]
    · intro e' he'
      simp only [Array.toList_modify] at he'
      obtain ⟨i, hi⟩ := List.mem_iff_getElem?.1 he'
      rw [List.getElem?_modify] at hi
      cases hei : es.toList[i]? with
      | none => rw [hei] at hi; cases hi
      | some e0 =>
        rw [hei] at hi
        simp only [Option.map_some, Option.map_eq_map] at hi
        injection hi with hi
        by_cases hji : j = i
        · rw [if_pos hji] at hi; rw [← hi]; exact ⟨p, rfl⟩
        · rw [if_neg hji] at hi; rw [← hi]; exact hk e0 (List.mem_iff_getElem?.2 ⟨i, hei⟩)
    · intro q
      simp only [Array.toList_modify]
      rw [lk_set es.toList q p 0 j (.agg (vc f)) u (by rw [hl]; congr 2 <;> omega)]
      by_cases hq : q = p
      · subst hq; left; simp
      · rw [if_neg hq, if_neg hq]; exact hg q
theorem GM_keep {w w' : World} {m : Nat} {G : Int → Nat → Int} (h : GM w m G) (hw : w'.heap[m]? = w.heap[m]?) : GM w' m G := by
  obtain ⟨es, clock, hm, hr⟩ := h
  exact ⟨es, clock, hw.trans hm, hr⟩
theorem GM_lt {w : World} {m : Nat} {G : Int → Nat → Int} (h : GM w m G) : m < w.heap.size := by
  obtain ⟨es, clock, hm, _⟩ := h
  exact (Array.getElem?_eq_some_iff.1 hm).1

/-! ### the judge -/
structure Judge (w : World) (B m : Nat) (T : Nat → Nat → Int) (v : Value) : Prop where
  ex : ∃ cs, w.heap[B]? = some (.cells cs 55 (0, 0)) ∧ cs.size = 66 ∧ (∀ u t, u < 8 → t < 8 → cs[u * 8 + t]? = some (.int .u32 (T u t))) ∧ cs[64]? = some (.map (some m)) ∧ cs[65]? = some v
section
variable {w w' : World} {B m : Nat} {T : Nat → Nat → Int} {v : Value}
theorem Judge.clk (h : Judge w B m T v) {u : Nat} (hu : u < 8) : ∀ t, t < 8 → w.cell? ⟨B, u * 8 + t, none⟩ = some (.int .u32 (T u t)) := fun t ht => by
  obtain ⟨cs, hb, _, hc, _⟩ := h.ex
  rw [cell_of_row w B _ cs 55 _ hb]; exact hc u t hu ht
theorem Judge.given (h : Judge w B m T v) : w.cell? ⟨B, 64, none⟩ = some (.map (some m)) := by
  obtain ⟨cs, hb, _, _, hc, _⟩ := h.ex
  rw [cell_of_row w B _ cs 55 _ hb]; exact hc
theorem Judge.list (h : Judge w B m T v) : w.cell? ⟨B, 65, none⟩ = some v := by
  obtain ⟨cs, hb, _, _, _, hc⟩ := h.ex
  rw [cell_of_row w B _ cs 55 _ hb]; exact hc
theorem Judge.soft (h : Judge w B m T v) (j : Nat) : w.frozen? ⟨B, j, none⟩ = false := by
  obtain ⟨cs, hb, _⟩ := h.ex
  exact frozen_of_row w B j cs 55 hb
theorem Judge.lt (h : Judge w B m T v) : B < w.heap.size := by
  obtain ⟨cs, hb, _⟩ := h.ex
  exact (Array.getElem?_eq_some_iff.1 hb).1
theorem Judge.keep (h : Judge w B m T v) (hw : w'.heap[B]? = w.heap[B]?) : Judge w' B m T v := by
  obtain ⟨cs, hb, hr⟩ := h.ex
  exact ⟨cs, hw.trans hb, hr⟩
/-- a clock of a thread is stored -/
theorem Judge.put (h : Judge w B m T v) {u : Nat} (hu : u < 8) (f : Nat → Int) :
    ∃ w', (storeVar 52 ⟨B, u * 8, none⟩ (.agg (vc f))).run Try.prog w = .ok () w' ∧ Judge w' B m (fun x => if x = u then f else T x) v ∧ (∀ k, k ≠ B → w'.heap[k]? = w.heap[k]?) ∧ (∀ b, b ≤ B → Below b w w') ∧ w'.heap.size = w.heap.size := by
  obtain ⟨cs, hb, hs, hc, h64, h65⟩ := h.ex
  obtain ⟨w', h1, h2, h3, h4, h5⟩ := st_clk w B (u * 8) f cs 55 hb (by omega)
  refine ⟨w', h1, ⟨⟨_, h2, by rw [set8_size]; exact hs, fun x t hx ht => ?_, ?_, ?_⟩⟩, h3, h4, h5⟩
  · by_cases e : x = u
    · subst e; rw [if_pos rfl]; exact set8_in cs _ f t ht (by omega)
    · rw [if_neg e, set8_out cs _ f _ (by omega)]; exact hc x t hx ht
  · rw [set8_out cs _ f _ (by omega)]; exact h64
  · rw [set8_out cs _ f _ (by omega)]; exact h65
/-- the slice of clocks is stored -/
theorem Judge.putList (h : Judge w B m T v) (v' : Value) : Judge (w.setCell ⟨B, 65, none⟩ v') B m T v' := by
  obtain ⟨cs, hb, hs, hc, h64, h65⟩ := h.ex
  refine ⟨⟨_, heap_setCell_same w B 65 cs 55 v' hb, by simp [hs], fun x t hx ht => ?_, ?_, ?_⟩⟩
  · rw [Array.getElem?_setIfInBounds, if_neg (by omega)]; exact hc x t hx ht
  · rw [Array.getElem?_setIfInBounds, if_neg (by omega)]; exact h64
  · rw [Array.getElem?_setIfInBounds, if_pos rfl, if_pos (by omega)]
end
end Go.Proofs.Ytnchafbaipeagaa
