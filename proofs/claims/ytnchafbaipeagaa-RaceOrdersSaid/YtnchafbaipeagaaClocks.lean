/- clocks: the walk over the acts. -/
import Derived.Test.YtnchafbaipeagaaDoing
import Derived.Carry
namespace Go.Proofs.Ytnchafbaipeagaa
open Go.RowKit
set_option linter.unusedVariables false
set_option linter.unusedSimpArgs false
section
variable {ops : Array Oper} {Q : Exit → Act → World → Prop}
theorem wl_makemap {P : Program} {rest : List Oper} {o : Oper} {a : Act} {w : World} (hgd : o.guard = none) (t : TypeId) (ho : o.op = .makeMap t none)
    (h : ∀ (w' : World) (b : Nat), w'.heap[b]? = some (.map #[] 0) → Below w.heap.size w w' → Hid (b = w.heap.size) → ∀ K : Act → World → Prop, (∀ a w, wpList P ops Q rest a w → K a w) → K (a.put o.dst (.map (some b))) w') : wpList P ops Q (o :: rest) a w := by
  refine wpList_plain hgd fun K hK => ?_
  unfold Oper.wp execOp
  simp only [ho, Sem.run_bind, run_makeMap, Result.andThen_ok]
  exact h _ _ (heap_alloc_new w _) ((Below.refl _ _).alloc (Nat.le_refl _) _) rfl K hK
theorem wl_call {P : Program} {rest : List Oper} {o : Oper} {a : Act} {w : World} (hgd : o.guard = none) (g : FuncId) (args : Array Value) (v : Value) (R : World → Prop) (h : (execOp a.eval o).run P w = .ok (.enter g args) w)
    (hc : Calls P g args w fun e w' => e = .returned v ∧ R w') (hK : ∀ w', R w' → ∀ K : Act → World → Prop, (∀ a w, wpList P ops Q rest a w → K a w) → K (a.put o.dst v) w') : wpList P ops Q (o :: rest) a w := by
  refine wpList_plain hgd fun K hK' => ?_
  unfold Oper.wp
  rw [h, Oper.upon_enter]
  refine hc.mono fun e w' hr => ?_
  obtain ⟨rfl, hr⟩ := hr
  exact hK w' hr K hK'
end
theorem ld_act (w : World) (b off : Nat) (x : Plain.A) (h0 : w.cell? ⟨b, off, none⟩ = some (.int .i64 x.kind)) (h1 : w.cell? ⟨b, off + 1, none⟩ = some (.int .i64 x.who)) (h2 : w.cell? ⟨b, off + 2, none⟩ = some (.int .i64 x.place)) :
    (loadVar 34 ⟨b, off, none⟩).run Try.prog w = .ok (act x) w := by
  have hl : (loadCells ⟨b, off, none⟩ 3).run Try.prog w = .ok #[.int .i64 x.kind, .int .i64 x.who, .int .i64 x.place] w := by
    have := run_loadCells_list (P := Try.prog) w ⟨b, off, none⟩ [.int .i64 x.kind, .int .i64 x.who, .int .i64 x.place] (fun j v hv => by
      rw [add_off]
      match j, hv with
      | 0, hv => simp at hv; rw [← hv]; exact h0
      | 1, hv => simp at hv; rw [← hv]; exact h1
      | 2, hv => simp at hv; rw [← hv]; exact h2
      | j + 3, hv => simp at hv)
    exact this
  have h1 := Try.isAgg34
  have h2 := Try.sizeOf34
  unfold loadVar
  simp only [Sem.run_bind, h1, h2, Result.andThen_ok, if_true, hl, Sem.run_pure]
  rfl
theorem run_ldact {o : Oper} {a : Act} {w : World} (y : Operand) (ho : o.op = .load 34 y) (b off : Nat) (x : Plain.A) (hx : a.eval y = .pointer (some ⟨b, off, none⟩))
    (h0 : w.cell? ⟨b, off, none⟩ = some (.int .i64 x.kind)) (h1 : w.cell? ⟨b, off + 1, none⟩ = some (.int .i64 x.who)) (h2 : w.cell? ⟨b, off + 2, none⟩ = some (.int .i64 x.place)) : (execOp a.eval o).run Try.prog w = .ok (.value (act x)) w := by
  unfold execOp
  simp only [ho, hx, Instr.loadAt, Instr.sureAddr, Sem.run_bind, Sem.run_pure, Result.andThen_ok, ld_act w b off x h0 h1 h2]
theorem Acts.below {w w' : World} {A : Option Addr} {n : Nat} {f : Nat → Plain.A} (h : Acts w A n f) (hb : Below w.heap.size w w') : Acts w' A n f := fun hn => by
  obtain ⟨b, off, e, hlt, hc⟩ := h hn
  refine ⟨b, off, e, Nat.lt_of_lt_of_le hlt hb.size, fun i hi => ?_⟩
  have c := hb.cell (p := ⟨b, off + i * 3, none⟩) hlt
  have c1 := hb.cell (p := ⟨b, off + i * 3 + 1, none⟩) hlt
  have c2 := hb.cell (p := ⟨b, off + i * 3 + 2, none⟩) hlt
  rw [c, c1, c2]; exact hc i hi
def flat (c : Nat → Nat → Int) (n : Nat) : List Value := (List.range n).flatMap fun i => (vc (c i)).toList
theorem flat_succ (c : Nat → Nat → Int) (n : Nat) : flat c (n + 1) = flat c n ++ (vc (c n)).toList := by simp [flat, List.range_succ]
theorem flat_length (c : Nat → Nat → Int) : ∀ n, (flat c n).length = n * 8
  | 0 => rfl
  | n + 1 => by rw [flat_succ, List.length_append, flat_length c n, vc_list]; simp; omega
theorem flat_at (c : Nat → Nat → Int) : ∀ n i t, i < n → t < 8 → (flat c n)[i * 8 + t]? = some (.int .u32 (c i t))
  | 0, i, t, h, _ => absurd h (by omega)
  | n + 1, i, t, h, ht => by
    rw [flat_succ]
    by_cases hi : i < n
    · rw [List.getElem?_append_left (by rw [flat_length]; omega)]; exact flat_at c n i t hi ht
    · have : i = n := by omega
      subst this
      rw [List.getElem?_append_right (by rw [flat_length]; omega), flat_length, show i * 8 + t - i * 8 = t by omega, Array.getElem?_toList]
      exact vc_at (c i) t ht
def judge0 (x v : Value) : Array Value := Array.replicate 64 (.int .u32 0) ++ #[x, v]
theorem zero55 (w : World) : (zeroValue 55).run Try.prog w = .ok (.agg (judge0 (.map none) (.slice none 0 0))) w := by kernel_rfl
theorem run_judge0 {o : Oper} {a : Act} {w : World} (x : Operand) (ho : o.op = .build 55 #[(1, x)]) (b : Nat) (hx : a.eval x = .map (some b)) : (execOp a.eval o).run Try.prog w = .ok (.value (.agg (judge0 (.map (some b)) (.slice none 0 0)))) w := by
  unfold execOp
  simp only [ho, hx, List.map_toArray, List.map_cons, List.map_nil]
  kernel_rfl
theorem Judge.first {w : World} {B m : Nat} {v : Value} (h : w.heap[B]? = some (.cells (judge0 (.map (some m)) v) 55 (0, 0))) : Judge w B m (fun _ _ => 0) v := by
  refine ⟨⟨_, h, by simp [judge0], fun u t hu ht => ?_, by simp [judge0], by simp [judge0]⟩⟩
  unfold judge0
  rw [Array.getElem?_append_left (by simp; omega), Array.getElem?_replicate, if_pos (by omega)]
theorem GM_first {w : World} {m : Nat} (h : w.heap[m]? = some (.map #[] 0)) : GM w m (fun _ _ => 0) :=
  ⟨#[], 0, h, fun e he => by simp at he, fun p => .inr ⟨rfl, fun _ _ => rfl⟩⟩

set_option maxRecDepth 100000 in
theorem clocks (A : Option Addr) (n cn : Nat) (f : Nat → Plain.A) (hn : n ≤ 4000) (w : World) (hA : Acts w A n f) :
    Calls Try.prog 16 #[.slice A n cn] w fun e w' => ∃ V cv, e = .returned (.slice V n cv) ∧ Clks w' V n (Plain.C f) ∧ Below w.heap.size w w' := by
  have hmm := @run_makeMap Try.prog
  go_enter Try.func16, Try.ntmps16
  go_upto_region 1 with (fail)
  refine wp_region_lit ?_
  refine wl_makemap rfl 49 rfl (fun w1 m X1 l1 f1 => ?_)
  intro K hK
  go_simp
  refine hK _ _ ?_
  clear hK K
  refine wl_val rfl (.agg (judge0 (.map (some m)) (.slice none 0 0))) (run_judge0 (.tmp 6) rfl m rfl) ?_
  intro K hK
  go_simp
  refine hK _ _ ?_
  clear hK K
  refine wl_alloc rfl 55 rfl _ (judge0 (.map none) (.slice none 0 0)) (fun w => zero55 w) rfl (fun w2 B X2 l2 f2 => ?_)
  intro K hK
  go_simp
  refine hK _ _ ?_
  clear hK K
  refine wl_store rfl 55 (.tmp 3) (.tmp 7) rfl B (judge0 (.map (some m)) (.slice none 0 0)) rfl rfl 55 _ X2 (by kernel_rfl) rfl (by kernel_rfl) (fun w3 g1 g2 g3 f3 => ?_)
  intro K hK
  go_simp
  refine hK _ _ ?_
  clear hK K
  have hm1 : m ≠ B := by simp only [Hid] at f1 f2; have := blk_lt X1; omega
  have hJ := Judge.first g1
  have hG := GM_keep (GM_first (m := m) (w := w2) (blk_below X1 l2 (blk_lt X1))) (g2 m hm1)
  have hB : Below w.heap.size w w3 := by
    have h2 := l1.trans (l2.mono l1.size)
    exact h2.trans (g3 _ (by simp only [Hid] at f2; rw [f2]; exact l1.size))
  have hbm : w.heap.size ≤ m := by simp only [Hid] at f1; omega
  have hbB : w.heap.size ≤ B := by simp only [Hid] at f2; rw [f2]; exact l1.size
  clear X1 X2 l1 l2 g1 g2 g3 f1 f2 f3
  have hO : w3.ownsRow w.heap.size 52 8 (.slice none 0 0) 0 [] := World.ownsRow_nil _ _ _ _
  go_upto_region 3 with (fail)
  go_loopw [10] (fun i wr => ∃ (k : Nat) (v : Value), k ≤ n ∧ i = .int .i64 k ∧ Judge wr B m (Plain.S f k).T v ∧ GM wr m (Plain.S f k).G ∧ wr.ownsRow w.heap.size 52 8 v k (flat (Plain.C f) k) ∧ Below w.heap.size w wr) (fun i _ => n - (intOf i).toNat)
  case atStart => exact ⟨0, _, by omega, rfl, hJ, hG, hO, hB⟩
  case round =>
    clear hJ hG hO hB
    obtain ⟨k, v, hk, rfl, hJ, hG, hO, hB⟩ := hrel
    by_cases hlt : k < n
    · have hl : (k : Int) < n := by omega
      have hl0 : (0 : Int) ≤ k := by omega
      obtain ⟨b, off, rfl, hb, ha⟩ := (hA.below hB) (by omega)
      obtain ⟨a0, a1, a2⟩ := ha k hlt
      clear ha
      go_upto_region 4 with (fail)
      refine wp_region_lit ?_
      refine wl_val rfl (.pointer (some ⟨b, off + k * 3, none⟩)) ?_ ?_
      · go_simp
      intro K hK
      go_simp
      refine hK _ _ ?_
      clear hK K
      refine wl_val rfl (act (f k)) (run_ldact (.tmp 12) rfl b (off + k * 3) (f k) rfl a0 a1 a2) ?_
      intro K hK
      go_simp
      refine hK _ _ ?_
      clear hK K
      clear a0 a1 a2
      refine wl_alloc rfl 34 rfl (.agg #[.int .i64 0, .int .i64 0, .int .i64 0]) #[.int .i64 0, .int .i64 0, .int .i64 0] (fun w => by kernel_rfl) rfl (fun w4 b5 X4 l4 f4 => ?_)
      intro K hK
      go_simp
      refine hK _ _ ?_
      clear hK K
      refine wl_store rfl 34 (.tmp 5) (.tmp 13) rfl b5 #[.int .i64 (f k).kind, .int .i64 (f k).who, .int .i64 (f k).place] rfl rfl 34 _ X4 (by kernel_rfl) rfl (by simp [Value.oneCell']) (fun w5 g1 g2 g3 f5 => ?_)
      intro K hK
      go_simp
      refine hK _ _ ?_
      clear hK K
      have hW : Below wr.heap.size wr w5 := l4.trans (g3 _ (by simp only [Hid] at f4; omega))
      replace hJ := hJ.keep (hW.block _ hJ.lt)
      replace hG := GM_keep hG (hW.block _ (GM_lt hG))
      replace hO := own_keep hO hW
      replace hB := hB.trans (hW.mono hB.size)
      clear X4 l4 f4 g2 g3 f5 hW
      go_upto_region 5 with (fail)
      refine plain_head 1 (fun w' => Below w5.heap.size w5 w') (Below.refl _ _) ?_
      refine q_run rfl (fun K hK => ?_)
      refine q_load 34 (.tmp 5) rfl _ rfl _ #[.int .i64 (f k).kind, .int .i64 (f k).who, .int .i64 (f k).place] (0, 0) _ (fun w' h' => keep g1 h') Try.underlying34 rfl (by kernel_rfl) ?_
      go_simp
      refine hK _ ?_
      clear hK K
      refine qd_nil ?_
      intro w6 h6
      replace hJ := hJ.keep (h6.block _ hJ.lt)
      replace hG := GM_keep hG (h6.block _ (GM_lt hG))
      replace hO := own_keep hO h6
      replace hB := hB.trans (h6.mono hB.size)
      clear h6 g1
      have hi := Plain.inv f k
      refine wl_call rfl 19 #[.pointer (some ⟨B, 0, none⟩), act (f k)] (.tuple #[]) _ ?_ (does (f k) (Plain.S f k) (fun u t => ?_) (fun p t => ?_) B m w.heap.size k v (flat (Plain.C f) k) w6 hJ hG hO hB.size hbB hbm (by omega)) (fun w7 hd => ?_)
      · first | (go_simp; done) | (go_simp; rfl)
      · have := hi.t0 u t; omega
      · have := hi.g0 p t; omega
      obtain ⟨v', hJ', hG', hO', hB'⟩ := hd
      clear hJ hG hO hi
      replace hB := hB.trans hB'
      intro K hK
      go_simp
      refine hK _ _ ?_
      clear hK K
      go_wp2
      go_roundw
      case rel => exact ⟨k + 1, v', by omega, by go_num, hJ', hG', by rw [flat_succ]; exact hO', hB⟩
      case measure => simp [intOf]; omega
    · have hl : ¬ (k : Int) < n := by omega
      have hkn : k = n := by omega
      subst hkn
      have hc := hJ.list
      have hV : ∃ V cv, v = .slice V k cv ∧ Clks wr V k (Plain.C f) := by
        have hsz := hO.1
        rcases hO.2 with ⟨rfl, rfl⟩ | ⟨g, cap, cur, rfl, _, h4, h5, h6, h7, h8⟩
        · exact ⟨none, 0, rfl, fun h => absurd h (by omega)⟩
        · refine ⟨_, _, rfl, fun _ => ⟨g, rfl, blk_lt h4, fun i t hi ht => ?_⟩⟩
          rw [cell_of_row wr g _ cur 52 _ h4]
          have hf := flat_at (Plain.C f) k i t hi ht
          rw [← h8, List.getElem?_take, if_pos (by omega), Array.getElem?_toList] at hf
          exact hf
      obtain ⟨V, cv, rfl, hV⟩ := hV
      go_wp2
      go_ret
      exact ⟨V, ⟨cv, rfl⟩, hV, hB⟩
end Go.Proofs.Ytnchafbaipeagaa
