/- The reference's Right and the list of acts as the document has them. -/
import Derived.Test.YtnchafbaipeagaaFront
namespace Go.Proofs.Ytnchafbaipeagaa
open Go.RowKit
set_option linter.unusedVariables false
set_option linter.unusedSimpArgs false
theorem refRight (x : Plain.A) (w : World) : Calls Try.prog 14 #[act x] w fun e w' => e = .returned (.bool (Plain.right x)) ∧ Below w.heap.size w w' := by
  obtain ⟨k, u, p⟩ := x
  unfold act
  have hal := (Below.refl w.heap.size w).alloc (Nat.le_refl _) (.cells #[.int .i64 k, .int .i64 u, .int .i64 p] 42)
  by_cases h1 : 1 ≤ k
  · by_cases h2 : k ≤ 4
    · by_cases h3 : 0 ≤ u
      · by_cases h4 : u ≤ 7
        · have hr : Plain.right ⟨k, u, p⟩ = true := by simp [Plain.right]; omega
          rw [hr]; clear hr
          go_enter Try.func14, Try.ntmps14
          go_wp2
          go_ret
          exact ⟨rfl, hal⟩
        · have hr : Plain.right ⟨k, u, p⟩ = false := by simp [Plain.right]; omega
          rw [hr]; clear hr
          go_enter Try.func14, Try.ntmps14
          go_wp2
          go_ret
          exact ⟨rfl, hal⟩
      · have hr : Plain.right ⟨k, u, p⟩ = false := by simp [Plain.right]; omega
        rw [hr]; clear hr
        go_enter Try.func14, Try.ntmps14
        go_wp2
        go_ret
        exact ⟨rfl, hal⟩
    · have hr : Plain.right ⟨k, u, p⟩ = false := by simp [Plain.right]; omega
      rw [hr]; clear hr
      go_enter Try.func14, Try.ntmps14
      go_wp2
      go_ret
      exact ⟨rfl, hal⟩
  · have hr : Plain.right ⟨k, u, p⟩ = false := by simp [Plain.right]; omega
    rw [hr]; clear hr
    go_enter Try.func14, Try.ntmps14
    go_wp2
    go_ret
    exact ⟨rfl, hal⟩

/-! ### the reference's list of acts -/
def OwnR (w : World) (bs : Nat) (v : Value) (l : List Plain.A) : Prop := w.ownsRow bs 42 3 v l.length (l.flatMap acell)
theorem ownR_acts {w : World} {bs : Nat} {v : Value} {l : List Plain.A} {n : Nat} (h : OwnR w bs v l) (hn : l.length = n) : ∃ A cn, v = .slice A n cn ∧ Acts w A n (at' l) := by
  subst hn
  rcases h.2 with ⟨rfl, h0⟩ | ⟨g, cap, cur, rfl, _, h4, h5, h6, h7, h8⟩
  · exact ⟨none, 0, by rw [h0], fun hn => absurd hn (by omega)⟩
  · refine ⟨_, _, rfl, fun _ => ⟨g, 0, rfl, blk_lt h4, fun i hi => ?_⟩⟩
    have hf := acells_at l i hi
    have hc : ∀ j, j < l.length * 3 → w.cell? ⟨g, 0 + j, none⟩ = (l.flatMap acell)[j]? := fun j hj => by
      rw [cell_of_row w g _ cur 42 _ h4, ← h8, List.getElem?_take, if_pos hj, Array.getElem?_toList, Nat.zero_add]
    rw [Nat.add_assoc, Nat.add_assoc, hc _ (by omega), hc _ (by omega), hc _ (by omega)]
    exact hf
theorem ownR_keep {w w' : World} {bs : Nat} {v : Value} {l : List Plain.A} (h : OwnR w bs v l) (hb : Below w.heap.size w w') : OwnR w' bs v l := by
  refine ⟨h.1, ?_⟩
  rcases h.2 with h2 | ⟨g, cap, cur, rfl, h3, h4, r⟩
  · exact .inl h2
  · exact .inr ⟨g, cap, cur, rfl, h3, keep h4 hb, r⟩
theorem ownR_lt {w : World} {bs : Nat} {v : Value} {l : List Plain.A} (h : OwnR w bs v l) : ∀ k, v.ownBlock = some k → bs ≤ k := fun k e => (World.ownsRow.lt h k e).1
theorem info42 : (Try.prog.info? 42).map (fun i => (i.zero, i.size, i.bytes)) = some (some (.agg #[.int .i64 0, .int .i64 0, .int .i64 0]), 3, 24) := by kernel_rfl
theorem run_bref (w : World) (x : Plain.A) : (Instr.buildSlice 28 1 #[(0, act x)]).run Try.prog w = .ok (.slice (some ⟨w.heap.size, 0, none⟩) 1 1) (w.alloc (.cells #[.int .i64 x.kind, .int .i64 x.who, .int .i64 x.place] 42)) := by
  kernel_rfl
section
variable {ops : Array Oper} {Q : Exit → Act → World → Prop}
theorem op_bref {i : Nat} {K : Act → World → Prop} {o : Oper} {a : Act} {w : World} (hi : ops[i]? = some o) (hgd : o.guard = none) (y : Operand) (ho : o.op = .buildSlice 28 1 #[(0, y)]) (x : Plain.A) (hx : a.eval y = act x)
    (h : ∀ (w' : World) (b : Nat), w'.heap[b]? = some (.cells #[.int .i64 x.kind, .int .i64 x.who, .int .i64 x.place] 42 (0, 0)) → Below w.heap.size w w' → K (a.put o.dst (.slice (some ⟨b, 0, none⟩) 1 1)) w') : wpOp Try.prog ops Q i K a w := by
  unfold wpOp
  simp only [hi]
  have hw : Region.wanted o (yielded ops a.tmps) = true := by simp [Region.wanted, hgd]
  rw [if_pos hw]
  refine .inl ?_
  unfold Oper.wp execOp
  have hr := run_bref w x
  simp only [ho, List.map_toArray, List.map_cons, List.map_nil, hx, Sem.run_bind, hr, Result.andThen_ok]
  exact h _ _ (heap_alloc_new w _) ((Below.refl _ _).alloc (Nat.le_refl _) _)
theorem op_apref {i : Nat} {K : Act → World → Prop} {o : Oper} {a : Act} {w : World} (hi : ops[i]? = some o) (hgd : o.guard = none) (s x : Operand) (ho : o.op = .call { callee := .builtin .append, args := #[s, x], argTypes := #[28, 28] })
    (bs : Nat) (v : Value) (l : List Plain.A) (hs : a.eval s = v) (hown : OwnR w bs v l) (b : Nat) (z : Plain.A) (hx : a.eval x = .slice (some ⟨b, 0, none⟩) 1 1) (hb : w.heap[b]? = some (.cells #[.int .i64 z.kind, .int .i64 z.who, .int .i64 z.place] 42 (0, 0))) (hn : l.length ≤ 4000) (hbs : bs ≤ w.heap.size)
    (h : ∀ v' w', OwnR w' bs v' (l ++ [z]) → w.grownBy w' v.ownBlock → K (a.put o.dst v') w') : wpOp Try.prog ops Q i K a w := by
  unfold wpOp
  simp only [hi]
  have hw : Region.wanted o (yielded ops a.tmps) = true := by simp [Region.wanted, hgd]
  rw [if_pos hw]
  refine .inl ?_
  obtain ⟨i0, hi0, hz0, hz1, hz2⟩ := info_parts info42
  obtain ⟨v', w', hrun, h2, h3, _, _⟩ := run_append_own_at (P := Try.prog) w bs 28 o.type 42 i0 (.agg #[.int .i64 0, .int .i64 0, .int .i64 0]) 3 24 Try.underlying28 hi0 hz0 hz1 hz2 rfl (by omega) v l.length _ hown ⟨b, 0, none⟩ 1 1 (acell z) rfl
    (fun j u hu => by
      rw [add_off, Nat.zero_add, cell_of_row w b j _ _ _ hb, ← Array.getElem?_toList]; exact hu)
    (fun u hu => by simp [acell] at hu; rcases hu with rfl | rfl | rfl <;> rfl) (by simp only [maxLen]; omega) (by omega) hbs
  unfold Oper.wp execOp
  simp only [ho, resolve, invoke, builtin, Sem.run_bind, Sem.run_pure, Result.andThen_ok, List.map_toArray, List.map_cons, List.map_nil, hs, hx, hrun]
  refine h v' w' ?_ h3
  unfold OwnR
  rw [List.flatMap_append, List.length_append]; exact h2
end
theorem lst_succ (f : Nat → Plain.A) (n : Nat) : lst f (n + 1) = lst f n ++ [f n] := by simp [lst, List.range_succ]
set_option maxRecDepth 100000 in
theorem Of (A : Option Addr) (n cn : Nat) (f : Nat → Plain.A) (hn : n ≤ 4000) (w : World) (hA : Acts w A n f) :
    Calls Try.prog 11 #[.slice A n cn] w fun e w' => ∃ V cv, e = .returned (.slice V n cv) ∧ Acts w' V n f ∧ Below w.heap.size w w' := by
  go_enter Try.func11, Try.ntmps11
  go_upto_region 3 with (fail)
  go_loopw [3, 4] (fun v i wr => ∃ k : Nat, k ≤ n ∧ i = .int .i64 k ∧ OwnR wr w.heap.size v (lst f k) ∧ Below w.heap.size w wr) (fun _ i _ => n - (intOf i).toNat)
  case atStart => exact ⟨0, by omega, rfl, World.ownsRow_nil _ _ _ _, Below.refl _ _⟩
  case round =>
    obtain ⟨k, hk, rfl, hO, hb⟩ := hrel
    by_cases hlt : k < n
    · have hl : (k : Int) < n := by omega
      have hl0 : (0 : Int) ≤ k := by omega
      obtain ⟨b, off, rfl⟩ := acts_ptr hA (by omega)
      have hAr := hA.below hb
      go_upto_region 5 with (fail)
      refine grow_head 17 (fun w' => Below w.heap.size w w') (by kernel_rfl) (by kernel_rfl) (by decide) (by kernel_rfl) ?_
      simp only [List.take_succ_cons, List.take_zero]
      refine g_run rfl ?_ (fun w' h' => ga_value ?_) (fun K hK => ?_)
      rotate_left
      · go_simp; try with_reducible rfl
      go_simp
      refine hK _ ?_
      clear hK K
      refine g_run rfl ?_ (fun w' h' => ga_value ?_) (fun K hK => ?_)
      rotate_left
      · go_simp; try with_reducible rfl
      go_simp
      refine hK _ ?_
      clear hK K
      refine g_run rfl ?_ (fun w' h' => ga_value ?_) (fun K hK => ?_)
      rotate_left
      · go_simp; try with_reducible rfl
      go_simp
      refine hK _ ?_
      clear hK K
      refine g_run rfl ?_ (fun w' h' => ga_value ?_) (fun K hK => ?_)
      rotate_left
      · go_simp; try with_reducible rfl
      go_simp
      refine hK _ ?_
      clear hK K
      refine g_run rfl ?_ (fun w' h' => ga_value ?_) (fun K hK => ?_)
      rotate_left
      · go_simp; try with_reducible rfl
      go_simp
      refine hK _ ?_
      clear hK K
      refine g_run rfl ?_ (fun w' h' => ga_value ?_) (fun K hK => ?_)
      rotate_left
      · obtain ⟨c0, c1, c2⟩ := at_act hA h' hlt; go_simp; try with_reducible rfl
      go_simp
      refine hK _ ?_
      clear hK K
      refine g_run rfl ?_ (fun w' h' => ga_value ?_) (fun K hK => ?_)
      rotate_left
      · go_simp; try with_reducible rfl
      go_simp
      refine hK _ ?_
      clear hK K
      refine g_run rfl ?_ (fun w' h' => ga_value ?_) (fun K hK => ?_)
      rotate_left
      · go_simp; try with_reducible rfl
      go_simp
      refine hK _ ?_
      clear hK K
      refine g_run rfl ?_ (fun w' h' => ga_value ?_) (fun K hK => ?_)
      rotate_left
      · go_simp; try with_reducible rfl
      go_simp
      refine hK _ ?_
      clear hK K
      refine g_run rfl ?_ (fun w' h' => ga_value ?_) (fun K hK => ?_)
      rotate_left
      · go_simp; try with_reducible rfl
      go_simp
      refine hK _ ?_
      clear hK K
      refine g_run rfl ?_ (fun w' h' => ga_value ?_) (fun K hK => ?_)
      rotate_left
      · obtain ⟨c0, c1, c2⟩ := at_act hA h' hlt; go_simp; try with_reducible rfl
      go_simp
      refine hK _ ?_
      clear hK K
      refine g_run rfl ?_ (fun w' h' => ga_value ?_) (fun K hK => ?_)
      rotate_left
      · go_simp; try with_reducible rfl
      go_simp
      refine hK _ ?_
      clear hK K
      refine g_run rfl ?_ (fun w' h' => ga_value ?_) (fun K hK => ?_)
      rotate_left
      · go_simp; try with_reducible rfl
      go_simp
      refine hK _ ?_
      clear hK K
      refine g_run rfl ?_ (fun w' h' => ga_value ?_) (fun K hK => ?_)
      rotate_left
      · go_simp; try with_reducible rfl
      go_simp
      refine hK _ ?_
      clear hK K
      refine g_run rfl ?_ (fun w' h' => ga_value ?_) (fun K hK => ?_)
      rotate_left
      · go_simp; try with_reducible rfl
      go_simp
      refine hK _ ?_
      clear hK K
      refine g_run rfl ?_ (fun w' h' => ga_value ?_) (fun K hK => ?_)
      rotate_left
      · obtain ⟨c0, c1, c2⟩ := at_act hA h' hlt; go_simp; try with_reducible rfl
      go_simp
      refine hK _ ?_
      clear hK K
      refine g_run rfl ?_ (fun w' h' => ga_value ?_) (fun K hK => ?_)
      rotate_left
      · go_simp; try with_reducible rfl
      go_simp
      refine hK _ ?_
      clear hK K
      refine g_nil ?_
      show anyG _ _ _ _ _ _ _ _ _
      have h0 : Below w.heap.size w wr.drew := Below.drew hb
      replace hO : OwnR wr.drew w.heap.size u3 (lst f k) := hO
      refine anyG_ready [17] (by kernel_rfl) (by simp) (fun v1 g1 => ⟨h0.trans (g1.mono h0.size), ?_⟩)
      have h1 := h0.trans (g1.mono h0.size)
      have O1 := ownR_keep hO g1
      intro i hi
      simp only [List.mem_cons, List.not_mem_nil, or_false] at hi
      subst hi
      refine op_bref rfl rfl (.tmp 27) rfl (f k) rfl (fun w4 b4 X4 h4 => ?_)
      have h2 := h1.trans (h4.mono h1.size)
      have O2 := ownR_keep O1 h4
      refine anyG_ready [18] (by kernel_rfl) (by simp) (fun v5 g5 => ⟨h2.trans (g5.mono h2.size), ?_⟩)
      have h3 := h2.trans (g5.mono h2.size)
      have O3 := ownR_keep O2 g5
      replace X4 := keep X4 g5
      intro i hi
      simp only [List.mem_cons, List.not_mem_nil, or_false] at hi
      subst hi
      refine op_apref rfl rfl (.tmp 11) (.tmp 28) rfl w.heap.size _ (lst f k) rfl O3 b4 (f k) rfl X4 (by rw [lst_length]; omega) h3.size (fun v6 w6 O6 g6 => ?_)
      have h6 : Below w.heap.size w w6 := h3.grown g6 h3.size (ownR_lt O3)
      refine anyG_ready [19] (by kernel_rfl) (by simp) (fun v7 g7 => ⟨h6.trans (g7.mono h6.size), ?_⟩)
      have h7 := h6.trans (g7.mono h6.size)
      have O7 := ownR_keep O6 g7
      intro i hi
      simp only [List.mem_cons, List.not_mem_nil, or_false] at hi
      subst hi
      refine op_val rfl rfl v6 ?_ ?_
      · go_simp; try rfl
      refine anyG_end (by kernel_rfl) (fun v8 g8 => ⟨h7.trans (g8.mono h7.size), ?_⟩)
      have h8 := h7.trans (g8.mono h7.size)
      have O8 := ownR_keep O7 g8
      clear h0 h1 h2 h3 h4 h6 h7 O1 O2 O3 O6 O7 g1 g5 g6 g7 g8 X4 hO
      go_wp2
      go_roundw
      case rel => exact ⟨k + 1, by omega, by go_num, by rw [lst_succ]; exact O8, h8⟩
      case measure => simp [intOf]; omega
    · have hl : ¬ (k : Int) < n := by omega
      have hkn : k = n := by omega
      subst hkn
      obtain ⟨V, cv, rfl, hV⟩ := ownR_acts hO (lst_length f k)
      go_wp2
      go_ret
      exact ⟨V, ⟨cv, rfl⟩, hV.congr fun i hi => at_lst f k i hi, hb⟩
end Go.Proofs.Ytnchafbaipeagaa
