/- Operations on the judge's memory, as a walk meets them. -/
import Derived.Test.YtnchafbaipeagaaMem
namespace Go.Proofs.Ytnchafbaipeagaa
open Go.RowKit
set_option linter.unusedVariables false
set_option linter.unusedSimpArgs false
section
variable {ops : Array Oper} {C : World → Prop} {Q : Exit → Act → World → Prop}
theorem run_look {o : Oper} {a : Act} {w : World} (x y : Operand) (ho : o.op = .lookup 49 x y false) (m : Nat) (G : Int → Nat → Int) (p : Int) (hx : a.eval x = .map (some m)) (hy : a.eval y = .int .i64 p) (h : GM w m G) :
    (execOp a.eval o).run Try.prog w = .ok (.value (.agg (vc (G p)))) w := by
  unfold execOp
  simp only [ho, hx, hy, Sem.run_bind, Sem.run_pure, Result.andThen_ok, GM_look h p]
theorem wl_putclk {rest : List Oper} {o : Oper} {a : Act} {w : World} (hgd : o.guard = none) (x y : Operand) (ho : o.op = .store 52 x y) (B m u : Nat) (hu : u < 8) (T : Nat → Nat → Int) (v : Value) (f : Nat → Int) (hx : a.eval x = .pointer (some ⟨B, u * 8, none⟩)) (hy : a.eval y = .agg (vc f)) (hJ : Judge w B m T v)
    (h : ∀ w' : World, Judge w' B m (fun x => if x = u then f else T x) v → (∀ k, k ≠ B → w'.heap[k]? = w.heap[k]?) → (∀ b, b ≤ B → Below b w w') → Hid (w'.heap.size = w.heap.size) → ∀ K : Act → World → Prop, (∀ a w, wpList Try.prog ops Q rest a w → K a w) → K (a.put o.dst undef) w') :
    wpList Try.prog ops Q (o :: rest) a w := by
  refine wpList_plain hgd fun K hK => ?_
  obtain ⟨w', h1, h2, h3, h4, h5⟩ := hJ.put hu f
  unfold Oper.wp execOp
  simp only [ho, hx, hy, Instr.storeAt, Instr.sureAddr, Sem.run_bind, Sem.run_pure, Result.andThen_ok, h1]
  exact h w' h2 h3 h4 h5 K hK
theorem wl_putmap {rest : List Oper} {o : Oper} {a : Act} {w : World} (hgd : o.guard = none) (x y z : Operand) (ho : o.op = .mapUpdate 49 x y z) (m : Nat) (G : Int → Nat → Int) (p : Int) (f : Nat → Int) (hx : a.eval x = .map (some m)) (hy : a.eval y = .int .i64 p) (hz : a.eval z = .agg (vc f)) (hG : GM w m G)
    (h : ∀ w' : World, GM w' m (fun q => if q = p then f else G q) → (∀ k, k ≠ m → w'.heap[k]? = w.heap[k]?) → (∀ b, b ≤ m → Below b w w') → Hid (w'.heap.size = w.heap.size) → ∀ K : Act → World → Prop, (∀ a w, wpList Try.prog ops Q rest a w → K a w) → K (a.put o.dst undef) w') :
    wpList Try.prog ops Q (o :: rest) a w := by
  refine wpList_plain hgd fun K hK => ?_
  obtain ⟨w', h1, h2, h3, h4, h5⟩ := GM_put hG p f
  unfold Oper.wp execOp
  simp only [ho, hx, hy, hz, Sem.run_bind, Sem.run_pure, Result.andThen_ok, h1]
  exact h w' h2 h3 h4 h5 K hK
theorem run_bslice (w : World) (f : Nat → Int) : (Instr.buildSlice 45 1 #[(0, .agg (vc f))]).run Try.prog w = .ok (.slice (some ⟨w.heap.size, 0, none⟩) 1 1) (w.alloc (.cells (vc f) 52)) := by
  kernel_rfl

/-! ### one operation of a region, in one world -/
theorem op_val {P : Program} {i : Nat} {K : Act → World → Prop} {o : Oper} {a : Act} {w : World} (hi : ops[i]? = some o) (hgd : o.guard = none) (v : Value) (h : (execOp a.eval o).run P w = .ok (.value v) w) (hK : K (a.put o.dst v) w) : wpOp P ops Q i K a w := by
  unfold wpOp
  simp only [hi]
  have hw : Region.wanted o (yielded ops a.tmps) = true := by simp [Region.wanted, hgd]
  rw [if_pos hw]
  refine .inl ?_
  unfold Oper.wp
  rw [h]
  exact hK
theorem run_ldclk {o : Oper} {a : Act} {w : World} (x : Operand) (ho : o.op = .load 52 x) (b off : Nat) (f : Nat → Int) (hx : a.eval x = .pointer (some ⟨b, off, none⟩))
    (h : ∀ t, t < 8 → w.cell? ⟨b, off + t, none⟩ = some (.int .u32 (f t))) : (execOp a.eval o).run Try.prog w = .ok (.value (.agg (vc f))) w := by
  unfold execOp
  simp only [ho, hx, Instr.loadAt, Instr.sureAddr, Sem.run_bind, Sem.run_pure, Result.andThen_ok, ld_clk w b off f h]
theorem run_ldsl {o : Oper} {a : Act} {w : World} (x : Operand) (ho : o.op = .load 45 x) (p : Addr) (v : Value) (hx : a.eval x = .pointer (some p)) (h : w.cell? p = some v) : (execOp a.eval o).run Try.prog w = .ok (.value v) w := by
  unfold execOp
  have h1 := Try.isAgg45
  have hl : (load p).run Try.prog w = .ok v w := by simp [go_sem, h]
  simp only [ho, hx, Instr.loadAt, Instr.sureAddr, Sem.run_bind, Sem.run_pure, Result.andThen_ok]
  unfold loadVar
  simp only [Sem.run_bind, h1, Result.andThen_ok, Bool.false_eq_true, if_false, hl, Sem.run_pure]
theorem op_bslice {i : Nat} {K : Act → World → Prop} {o : Oper} {a : Act} {w : World} (hi : ops[i]? = some o) (hgd : o.guard = none) (x : Operand) (ho : o.op = .buildSlice 45 1 #[(0, x)]) (f : Nat → Int) (hx : a.eval x = .agg (vc f))
    (h : ∀ (w' : World) (b : Nat), w'.heap[b]? = some (.cells (vc f) 52 (0, 0)) → Below w.heap.size w w' → Hid (b = w.heap.size) → K (a.put o.dst (.slice (some ⟨b, 0, none⟩) 1 1)) w') : wpOp Try.prog ops Q i K a w := by
  unfold wpOp
  simp only [hi]
  have hw : Region.wanted o (yielded ops a.tmps) = true := by simp [Region.wanted, hgd]
  rw [if_pos hw]
  refine .inl ?_
  unfold Oper.wp execOp
  have hr := run_bslice w f
  simp only [ho, List.map_toArray, List.map_cons, List.map_nil, hx, Sem.run_bind, hr, Result.andThen_ok]
  exact h _ _ (heap_alloc_new w _) ((Below.refl _ _).alloc (Nat.le_refl _) _) rfl
theorem info52 : (Try.prog.info? 52).map (fun i => (i.zero, i.size, i.bytes)) = some (some (.agg (vc fun _ => 0)), 8, 32) := by kernel_rfl
theorem op_append {i : Nat} {K : Act → World → Prop} {o : Oper} {a : Act} {w : World} (hi : ops[i]? = some o) (hgd : o.guard = none) (s x : Operand) (ho : o.op = .call { callee := .builtin .append, args := #[s, x], argTypes := #[45, 45] })
    (bs n : Nat) (v : Value) (xs : List Value) (hs : a.eval s = v) (hown : w.ownsRow bs 52 8 v n xs) (b : Nat) (f : Nat → Int) (hx : a.eval x = .slice (some ⟨b, 0, none⟩) 1 1) (hb : w.heap[b]? = some (.cells (vc f) 52 (0, 0))) (hn : n ≤ 4000) (hbs : bs ≤ w.heap.size)
    (h : ∀ v' w', w'.ownsRow bs 52 8 v' (n + 1) (xs ++ (vc f).toList) → w.grownBy w' v.ownBlock → K (a.put o.dst v') w') : wpOp Try.prog ops Q i K a w := by
  unfold wpOp
  simp only [hi]
  have hw : Region.wanted o (yielded ops a.tmps) = true := by simp [Region.wanted, hgd]
  rw [if_pos hw]
  refine .inl ?_
  obtain ⟨i0, hi0, hz0, hz1, hz2⟩ := info_parts info52
  obtain ⟨v', w', hrun, h2, h3, _, _⟩ := run_append_own_at (P := Try.prog) w bs 45 o.type 52 i0 (.agg (vc fun _ => 0)) 8 32 Try.underlying45 hi0 hz0 hz1 hz2 rfl (by omega) v n xs hown ⟨b, 0, none⟩ 1 1 (vc f).toList (by simp [vc_list])
    (fun j u hu => by
      rw [add_off, Nat.zero_add, cell_of_row w b j _ _ _ hb, ← Array.getElem?_toList]; exact hu)
    (fun u hu => by simp [vc_list] at hu; rcases hu with rfl | rfl | rfl | rfl | rfl | rfl | rfl | rfl <;> rfl) (by simp only [maxLen]; omega) (by omega) hbs
  unfold Oper.wp execOp
  simp only [ho, resolve, invoke, builtin, Sem.run_bind, Sem.run_pure, Result.andThen_ok, List.map_toArray, List.map_cons, List.map_nil, hs, hx, hrun]
  exact h v' w' h2 h3
theorem op_stsl {i : Nat} {K : Act → World → Prop} {o : Oper} {a : Act} {w : World} (hi : ops[i]? = some o) (hgd : o.guard = none) (x y : Operand) (ho : o.op = .store 45 x y) (B m : Nat) (T : Nat → Nat → Int) (v v' : Value) (ha : ∃ p n c, v' = .slice p n c) (hx : a.eval x = .pointer (some ⟨B, 65, none⟩)) (hy : a.eval y = v') (hJ : Judge w B m T v)
    (h : K (a.put o.dst undef) (w.setCell ⟨B, 65, none⟩ v')) : wpOp Try.prog ops Q i K a w := by
  unfold wpOp
  simp only [hi]
  have hw : Region.wanted o (yielded ops a.tmps) = true := by simp [Region.wanted, hgd]
  rw [if_pos hw]
  refine .inl ?_
  obtain ⟨p, n, c, rfl⟩ := ha
  have hc := hJ.list
  have hf := hJ.soft 65
  have hsz := Try.sizeOf45
  have hst : (store ⟨B, 65, none⟩ (.slice p n c)).run Try.prog w = .ok () (w.setCell ⟨B, 65, none⟩ (.slice p n c)) := by simp [go_sem, stored, hc, hf]
  unfold Oper.wp execOp
  simp only [ho, hx, hy, Instr.storeAt, Instr.sureAddr, Sem.run_bind, Sem.run_pure, Result.andThen_ok]
  have hsv : (storeVar 45 ⟨B, 65, none⟩ (.slice p n c)).run Try.prog w = .ok () (w.setCell ⟨B, 65, none⟩ (.slice p n c)) := by
    unfold storeVar
    have hv : (Value.slice p n c).cells = #[.slice p n c] := rfl
    simp only [Sem.run_bind, hsz, hv, Result.andThen_ok]
    simp [storeCells, add_off, hst]
  rw [hsv]
  exact h
end
end Go.Proofs.Ytnchafbaipeagaa
