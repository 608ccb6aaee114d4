/- A thread that goes through its ops, and what it has: the small functions. -/
import Derived.Test.YtlcoealfnlakhaaDoorClCheck
import Derived.Test.YtlcoealfnlakhaaDoorRefCheck
import Derived.Laws.MakeOwn
namespace Go.Proofs.YtlcoealfnlakhaaDoor
open Go.RowKit
set_option linter.unusedVariables false
set_option linter.unusedSimpArgs false
/-! ### what a thread has, in memory -/
def iR (n : Nat) (h : Nat → Int) : Array Value := Array.ofFn (n := n) fun o : Fin n => Value.int .i64 (h o)
def Row (w : World) (m n : Nat) (h : Nat → Int) : Prop := w.heap[m]? = some (.cells (iR n h) 3 (0, 0))
def upd (h : Nat → Int) (i : Nat) (v : Int) : Nat → Int := fun o => if o = i then v else h o
theorem iR_upd (n : Nat) (h : Nat → Int) (i : Nat) (v : Int) : (iR n h).setIfInBounds i (.int .i64 v) = iR n (upd h i v) := by
  apply Array.ext
  · simp [iR]
  · intro j h1 h2
    by_cases e : i = j
    · subst e; simp [iR, upd]
    · have e' : ¬ j = i := fun x => e x.symm
      rw [Array.getElem_setIfInBounds_ne (by simpa using h1) e]
      simp [iR, upd, e']
theorem Row.cell {w : World} {m n : Nat} {h : Nat → Int} (hR : Row w m n h) {i : Nat} (hi : i < n) : w.cell? ⟨m, i, none⟩ = some (.int .i64 (h i)) := by
  rw [cell_of_row w m i _ 3 _ hR]; simp [iR, hi]
/-- nothing old has turned but block m -/
structure Exc (m : Nat) (w w' : World) : Prop where
  low : ∀ B, B ≤ m → B ≤ w.heap.size → Below B w w'
  blk : ∀ b, b < w.heap.size → b ≠ m → w'.heap[b]? = w.heap[b]?
theorem Exc.size {m : Nat} {w w' : World} (h : Exc m w w') (hm : m ≤ w.heap.size) : w.heap.size ≤ w'.heap.size := by
  have := (h.low 0 (Nat.zero_le _) (Nat.zero_le _)).size
  omega
theorem Exc.of_below {m : Nat} {w w' : World} (h : Below w.heap.size w w') : Exc m w w' := ⟨fun B _ hB => h.mono hB, fun b hb _ => h.block b hb⟩
theorem Exc.trans {m : Nat} {w w' w'' : World} (h : Exc m w w') (h' : Exc m w' w'') : Exc m w w'' := by
  have hs := (h.low 0 (Nat.zero_le _) (Nat.zero_le _)).size
  exact ⟨fun B hm hB => (h.low B hm hB).trans (h'.low B hm (by omega)), fun b hb hn => (h'.blk b (by omega) hn).trans (h.blk b hb hn)⟩
theorem row_set {w : World} {m n : Nat} {h : Nat → Int} (hR : Row w m n h) (i : Nat) (v : Int) : Row (w.setCell ⟨m, i, none⟩ (.int .i64 v)) m n (upd h i v) ∧ Exc m w (w.setCell ⟨m, i, none⟩ (.int .i64 v)) := by
  refine ⟨?_, ?_, ?_⟩
  · unfold Row
    rw [heap_setCell_same w m i _ 3 _ hR, iR_upd]
  · intro B hm hB
    exact (Below.refl B w).setCell (p := ⟨m, i, none⟩) hm _
  · intro b hb hn
    exact heap_setCell_other _ _ b _ hn
section
variable {ops : Array Oper} {Q : Exit → Act → World → Prop}
theorem wl_row {rest : List Oper} {o : Oper} {a : Act} {w : World} (hgd : o.guard = none) (x y : Operand) (ho : o.op = .store 3 x y) (m n i : Nat) (h : Nat → Int) (v : Int) (hi : i < n) (hx : a.eval x = .pointer (some ⟨m, i, none⟩)) (hy : a.eval y = .int .i64 v) (hR : Row w m n h)
    (hh : ∀ w', Row w' m n (upd h i v) → Exc m w w' → ∀ K : Act → World → Prop, (∀ a w, wpList Tryd.prog ops Q rest a w → K a w) → K (a.put o.dst undef) w') : wpList Tryd.prog ops Q (o :: rest) a w := by
  refine wpList_plain hgd fun K hK => ?_
  have hc := hR.cell hi
  have hf := frozen_of_row w m i _ 3 hR
  have hsz := Tryd.sizeOf3
  have hst : (store ⟨m, i, none⟩ (.int .i64 v)).run Tryd.prog w = .ok () (w.setCell ⟨m, i, none⟩ (.int .i64 v)) := by simp [go_sem, stored, hc, hf]
  unfold Oper.wp execOp
  simp only [ho, hx, hy, Instr.storeAt, Instr.sureAddr, Sem.run_bind, Sem.run_pure, Result.andThen_ok]
  have hsv : (storeVar 3 ⟨m, i, none⟩ (.int .i64 v)).run Tryd.prog w = .ok () (w.setCell ⟨m, i, none⟩ (.int .i64 v)) := by
    unfold storeVar
    have hv : (Value.int .i64 v).cells = #[.int .i64 v] := rfl
    simp only [Sem.run_bind, hsz, hv, Result.andThen_ok]
    simp [storeCells, add_off, hst]
  rw [hsv]
  exact hh _ (row_set hR i v).1 (row_set hR i v).2 K hK
end
/-! ### plain -/
def lockB (k : Int) : Bool := decide (1 ≤ k ∧ k ≤ 10) || k == 14
def partB (o : O) (t : Int) : Bool := if o.k = 6 ∨ o.k = 7 then t == o.a || t == o.b else if o.k = 13 then decide (t < o.n) else true
def waitB (b : Int) : Bool := decide (b = 1 ∨ b = 3 ∨ b = 6 ∨ b = 9)
def zeroB (n : Nat) (h : Nat → Int) : Bool := (List.range n).all fun o => h o == 0
theorem zero_t {n : Nat} {h : Nat → Int} (e : ∀ o, o < n → h o = 0) : zeroB n h = true := by
  unfold zeroB; rw [List.all_eq_true]; intro o ho; simp [e o (List.mem_range.1 ho)]
theorem zero_f {n o : Nat} {h : Nat → Int} (ho : o < n) (e : ¬ h o = 0) : zeroB n h = false := by
  unfold zeroB; rw [List.all_eq_false]; exact ⟨o, List.mem_range.2 ho, by simpa using e⟩
def kv (C : Cl) (t : Int) (m : Nat) : Value := .agg #[.slice C.A C.no C.ca, .int .i64 C.vars, .slice C.W C.nw C.cw, .int .i64 C.room, .slice C.T C.nt C.ct, .int .i64 t, .slice (some ⟨m, 0, none⟩) C.no C.no]
theorem lockC (k : Int) (w : World) : Calls Tryd.prog 39 #[.int .i64 k] w fun e w' => e = .returned (.bool (decide (1 ≤ k ∧ k ≤ 10))) ∧ w' = w := by
  by_cases h1 : 1 ≤ k
  · by_cases h2 : k ≤ 10
    · rw [decide_eq_true (⟨h1, h2⟩ : 1 ≤ k ∧ k ≤ 10)]
      go_enter Tryd.func39, Tryd.ntmps39
      go_wp2
      go_ret
      exact ⟨rfl, rfl⟩
    · rw [decide_eq_false (fun h => h2 h.2 : ¬ (1 ≤ k ∧ k ≤ 10))]
      go_enter Tryd.func39, Tryd.ntmps39
      go_wp2
      go_ret
      exact ⟨rfl, rfl⟩
  · rw [decide_eq_false (fun h => h1 h.1 : ¬ (1 ≤ k ∧ k ≤ 10))]
    go_enter Tryd.func39, Tryd.ntmps39
    go_wp2
    go_ret
    exact ⟨rfl, rfl⟩
theorem guardsC (k : Int) (w : World) : Calls Tryd.prog 36 #[.int .i64 k] w fun e w' => e = .returned (.bool (lockB k)) ∧ w' = w := by
  unfold lockB
  by_cases h1 : 1 ≤ k ∧ k ≤ 10
  all_goals
    first | rw [decide_eq_true h1, Bool.true_or] | rw [decide_eq_false h1, Bool.false_or]
    go_enter Tryd.func36, Tryd.ntmps36
    go_wp2_with fail
    refine (lockC _ _).mono ?_
    rintro e w1 ⟨rfl, rfl⟩
    first | rw [decide_eq_true h1] | rw [decide_eq_false h1]
    go_wp2
    go_ret
    exact ⟨rfl, rfl⟩
theorem refLockC (k : Int) (w : World) : Calls Tryd.prog 34 #[.int .i64 k] w fun e w' => e = .returned (.bool (lockB k)) ∧ w' = w := by
  unfold lockB
  by_cases h1 : 1 ≤ k
  · by_cases h2 : k ≤ 10
    · rw [decide_eq_true (⟨h1, h2⟩ : 1 ≤ k ∧ k ≤ 10), Bool.true_or]
      go_enter Tryd.func34, Tryd.ntmps34
      go_wp2
      go_ret
      exact ⟨rfl, rfl⟩
    · rw [decide_eq_false (fun h => h2 h.2 : ¬ (1 ≤ k ∧ k ≤ 10)), Bool.false_or]
      go_enter Tryd.func34, Tryd.ntmps34
      go_wp2
      go_ret
      exact ⟨rfl, rfl⟩
  · rw [decide_eq_false (fun h => h1 h.1 : ¬ (1 ≤ k ∧ k ≤ 10)), Bool.false_or]
    go_enter Tryd.func34, Tryd.ntmps34
    go_wp2
    go_ret
    exact ⟨rfl, rfl⟩
theorem waitsC (x : O) (b : Int) (w : World) : Calls Tryd.prog 35 #[ov x, .int .i64 b] w fun e w' => e = .returned (.bool (waitB b)) ∧ Below w.heap.size w w' := by
  have hal := (Below.refl w.heap.size w).alloc (Nat.le_refl _) (.cells #[.int .i64 x.k, .int .i64 x.n, .int .i64 x.a, .int .i64 x.b] 43)
  unfold ov
  by_cases h1 : b = 1
  · subst h1
    go_enter Tryd.func35, Tryd.ntmps35
    go_wp2
    go_ret
    exact ⟨rfl, hal⟩
  by_cases h3 : b = 3
  · subst h3
    go_enter Tryd.func35, Tryd.ntmps35
    go_wp2
    go_ret
    exact ⟨rfl, hal⟩
  by_cases h6 : b = 6
  · subst h6
    go_enter Tryd.func35, Tryd.ntmps35
    go_wp2
    go_ret
    exact ⟨rfl, hal⟩
  by_cases h9 : b = 9
  · subst h9
    go_enter Tryd.func35, Tryd.ntmps35
    go_wp2
    go_ret
    exact ⟨rfl, hal⟩
  have hw : waitB b = false := decide_eq_false (by omega)
  have q1 : (b == 1) = false := by simp [h1]
  have q3 : (b == 3) = false := by simp [h3]
  have q6 : (b == 6) = false := by simp [h6]
  have q9 : (b == 9) = false := by simp [h9]
  clear h1 h3 h6 h9
  rw [hw]
  go_enter Tryd.func35, Tryd.ntmps35
  go_wp2
  go_ret
  exact ⟨rfl, hal⟩
set_option maxRecDepth 100000 in
theorem partC (C : Cl) (t : Int) (m : Nat) (o : O) (w : World) : Calls Tryd.prog 40 #[kv C t m, ov o] w fun e w' => e = .returned (.bool (partB o t)) ∧ Below w.heap.size w w' := by
  obtain ⟨k, n, a, b⟩ := o
  have hal := ((Below.refl w.heap.size w).alloc (Nat.le_refl _) (.cells #[.slice C.A C.no C.ca, .int .i64 C.vars, .slice C.W C.nw C.cw, .int .i64 C.room, .slice C.T C.nt C.ct, .int .i64 t, .slice (some ⟨m, 0, none⟩) C.no C.no] 49)).alloc (by simp) (.cells #[.int .i64 k, .int .i64 n, .int .i64 a, .int .i64 b] 43)
  by_cases e6 : k = 6
  · subst e6
    rw [show partB ⟨6, n, a, b⟩ t = ((t == a) || (t == b)) from by simp [partB]]
    unfold kv ov
    by_cases h : t = a
    · have q : (t == a) = true := by simp [h]
      rw [q, Bool.true_or]
      clear h
      go_enter Tryd.func40, Tryd.ntmps40
      go_wp2
      go_ret
      exact ⟨rfl, hal⟩
    · have q : (t == a) = false := by simp [h]
      rw [q, Bool.false_or]
      clear h
      go_enter Tryd.func40, Tryd.ntmps40
      go_wp2
      go_ret
      exact ⟨rfl, hal⟩
  by_cases e7 : k = 7
  · subst e7
    rw [show partB ⟨7, n, a, b⟩ t = ((t == a) || (t == b)) from by simp [partB]]
    unfold kv ov
    by_cases h : t = a
    · have q : (t == a) = true := by simp [h]
      rw [q, Bool.true_or]
      clear h
      go_enter Tryd.func40, Tryd.ntmps40
      go_wp2
      go_ret
      exact ⟨rfl, hal⟩
    · have q : (t == a) = false := by simp [h]
      rw [q, Bool.false_or]
      clear h
      go_enter Tryd.func40, Tryd.ntmps40
      go_wp2
      go_ret
      exact ⟨rfl, hal⟩
  by_cases e13 : k = 13
  · subst e13
    rw [show partB ⟨13, n, a, b⟩ t = decide (t < n) from by simp [partB]]
    unfold kv ov
    go_enter Tryd.func40, Tryd.ntmps40
    go_wp2
    go_ret
    exact ⟨rfl, hal⟩
  rw [show partB ⟨k, n, a, b⟩ t = true from by simp [partB, e6, e7, e13]]
  have q6 : (k == 6) = false := by simp [e6]
  have q7 : (k == 7) = false := by simp [e7]
  have q13 : (k == 13) = false := by simp [e13]
  clear e6 e7 e13
  unfold kv ov
  go_enter Tryd.func40, Tryd.ntmps40
  go_wp2
  go_ret
  exact ⟨rfl, hal⟩
set_option maxRecDepth 100000 in
theorem freeC (C : Cl) (t : Int) (m : Nat) (h : Nat → Int) (w : World) (hno : C.no ≤ 8) (hR : Row w m C.no h) : Calls Tryd.prog 33 #[kv C t m] w fun e w' => e = .returned (.bool (zeroB C.no h)) ∧ Below w.heap.size w w' := by
  unfold kv
  have zt := zero_t (n := C.no) (h := h)
  have zf := fun {o} => zero_f (n := C.no) (h := h) (o := o)
  generalize zeroB C.no h = res at *
  go_enter Tryd.func33, Tryd.ntmps33
  go_upto_region 2 with (fail)
  obtain ⟨W, b1, e0, e1, X1, hal⟩ := box1 w #[.slice C.A C.no C.ca, .int .i64 C.vars, .slice C.W C.nw C.cw, .int .i64 C.room, .slice C.T C.nt C.ct, .int .i64 t, .slice (some ⟨m, 0, none⟩) C.no C.no] 49
  rw [e0, e1]
  clear e0 e1
  have hR1 : Row W m C.no h := keep hR hal
  go_loopw [8] (fun v wr => ∃ k : Nat, v = .int .i64 k ∧ k ≤ C.no ∧ (∀ j, j < k → h j = 0) ∧ wr = W) (fun v _ => C.no - (intOf v).toNat)
  case atStart => exact ⟨0, rfl, Nat.zero_le _, fun p hp => absurd hp (by omega), rfl⟩
  case round =>
    obtain ⟨k, rfl, hk, hpre, rfl⟩ := hrel
    by_cases hlt : k < C.no
    · have hl0 : (0 : Int) ≤ k := by omega
      have hl1 : (k : Int) < C.no := by omega
      have c := hR1.cell hlt
      by_cases hz : h k = 0
      · have hpre' : ∀ p, p < k + 1 → h p = 0 := fun p hp => by
          rcases Nat.lt_succ_iff_lt_or_eq.1 hp with h | rfl
          · exact hpre p h
          · exact hz
        have q : (h k == 0) = true := by simp [hz]
        have q' : (h k != 0) = false := by simp [hz]
        clear zt zf hz hpre
        go_wp2
        go_roundw
        case rel => exact ⟨k + 1, by go_num, by omega, hpre', by first | rfl | trivial⟩
        case measure => simp [intOf]; omega
      · obtain rfl : res = false := zf hlt hz
        have q' : (h k != 0) = true := by simp [hz]
        clear zt zf hz hpre
        go_wp2
        go_ret
        exact ⟨rfl, hal⟩
    · have hkn : k = C.no := by omega
      have hl1 : ¬ ((k : Int) < C.no) := by omega
      rw [hkn] at hpre
      obtain rfl : res = true := zt hpre
      clear zt zf hpre hkn
      go_wp2
      go_ret
      exact ⟨rfl, hal⟩
end Go.Proofs.YtlcoealfnlakhaaDoor
