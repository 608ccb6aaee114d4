/- Lists of acts that the program makes: a slice of its own, appended to. -/
import Derived.Test.YtnchafbaipeagaaAwake
namespace Go.Proofs.Ytnchafbaipeagaa
open Go.RowKit
set_option linter.unusedVariables false
set_option linter.unusedSimpArgs false
def acell (x : Plain.A) : List Value := [.int .i64 x.kind, .int .i64 x.who, .int .i64 x.place]
def at' (l : List Plain.A) (i : Nat) : Plain.A := l.getD i ⟨0, 0, 0⟩
def OwnA (w : World) (bs : Nat) (v : Value) (l : List Plain.A) : Prop := w.ownsRow bs 34 3 v l.length (l.flatMap acell)
theorem acells_length : ∀ l : List Plain.A, (l.flatMap acell).length = l.length * 3
  | [] => rfl
  | x :: l => by rw [List.flatMap_cons, List.length_append, acells_length l]; simp [acell]; omega
theorem acells_at : ∀ (l : List Plain.A) (i : Nat), i < l.length → (l.flatMap acell)[i * 3]? = some (.int .i64 (at' l i).kind) ∧ (l.flatMap acell)[i * 3 + 1]? = some (.int .i64 (at' l i).who) ∧ (l.flatMap acell)[i * 3 + 2]? = some (.int .i64 (at' l i).place)
  | [], i, h => absurd h (by simp)
  | x :: l, 0, _ => by simp [acell, at']
  | x :: l, i + 1, h => by
    have ih := acells_at l i (by simpa using h)
    have e : (x :: l).flatMap acell = .int .i64 x.kind :: .int .i64 x.who :: .int .i64 x.place :: l.flatMap acell := rfl
    rw [e, show (i + 1) * 3 = i * 3 + 1 + 1 + 1 by omega]
    simp only [List.getElem?_cons_succ, show i * 3 + 1 + 1 + 1 + 1 = (i * 3 + 1) + 1 + 1 + 1 by omega, show i * 3 + 1 + 1 + 1 + 2 = (i * 3 + 2) + 1 + 1 + 1 by omega]
    have e2 : at' (x :: l) (i + 1) = at' l i := rfl
    rw [e2]; exact ih
theorem own_acts {w : World} {bs : Nat} {v : Value} {l : List Plain.A} (h : OwnA w bs v l) : ∃ A cn, v = .slice A l.length cn ∧ Acts w A l.length (at' l) ∧ (A = none → l.length = 0 ∧ cn = 0) := by
  rcases h.2 with ⟨rfl, h0⟩ | ⟨g, cap, cur, rfl, _, h4, h5, h6, h7, h8⟩
  · exact ⟨none, 0, by rw [h0], fun hn => absurd hn (by omega), fun _ => ⟨h0, rfl⟩⟩
  · refine ⟨_, _, rfl, fun _ => ⟨g, 0, rfl, blk_lt h4, fun i hi => ?_⟩, fun e => by cases e⟩
    have hf := acells_at l i hi
    have hc : ∀ j, j < l.length * 3 → w.cell? ⟨g, 0 + j, none⟩ = (l.flatMap acell)[j]? := fun j hj => by
      rw [cell_of_row w g _ cur 34 _ h4, ← h8, List.getElem?_take, if_pos hj, Array.getElem?_toList, Nat.zero_add]
    rw [Nat.add_assoc, Nat.add_assoc, hc _ (by omega), hc _ (by omega), hc _ (by omega)]
    exact hf
theorem own_nil (w : World) (bs : Nat) : OwnA w bs (.slice none 0 0) [] := World.ownsRow_nil _ _ _ _
theorem ownA_keep {w w' : World} {bs : Nat} {v : Value} {l : List Plain.A} (h : OwnA w bs v l) (hb : Below w.heap.size w w') : OwnA w' bs v l := by
  refine ⟨h.1, ?_⟩
  rcases h.2 with h2 | ⟨g, cap, cur, rfl, h3, h4, r⟩
  · exact .inl h2
  · exact .inr ⟨g, cap, cur, rfl, h3, keep h4 hb, r⟩
theorem ownA_lt {w : World} {bs : Nat} {v : Value} {l : List Plain.A} (h : OwnA w bs v l) : ∀ k, v.ownBlock = some k → bs ≤ k := fun k e => (World.ownsRow.lt h k e).1
def lst (f : Nat → Plain.A) (n : Nat) : List Plain.A := (List.range n).map f
theorem lst_length (f : Nat → Plain.A) (n : Nat) : (lst f n).length = n := by simp [lst]
theorem at_lst (f : Nat → Plain.A) (n i : Nat) (h : i < n) : at' (lst f n) i = f i := by simp [at', lst, h]
theorem at_app_l (l m : List Plain.A) (i : Nat) (h : i < l.length) : at' (l ++ m) i = at' l i := by simp [at', List.getD, List.getElem?_append_left h]
theorem at_app_r (l m : List Plain.A) (i : Nat) : at' (l ++ m) (l.length + i) = at' m i := by simp [at', List.getD, List.getElem?_append_right]
theorem Acts.congr {w : World} {A : Option Addr} {n : Nat} {f g : Nat → Plain.A} (h : Acts w A n f) (e : ∀ i, i < n → f i = g i) : Acts w A n g := fun hn => by
  obtain ⟨b, off, e1, h1, h2⟩ := h hn
  exact ⟨b, off, e1, h1, fun i hi => by rw [← e i hi]; exact h2 i hi⟩
theorem info34 : (Try.prog.info? 34).map (fun i => (i.zero, i.size, i.bytes)) = some (some (.agg #[.int .i64 0, .int .i64 0, .int .i64 0]), 3, 24) := by kernel_rfl
section
variable {ops : Array Oper} {Q : Exit → Act → World → Prop}
theorem run_appacts (w : World) (ty : TypeId) (bs : Nat) (v : Value) (l : List Plain.A) (hown : OwnA w bs v l) (B : Option Addr) (m c : Nat) (new : List Plain.A) (hm : new.length = m) (hB : Acts w B m (at' new)) (hz : B = none → m = 0 ∧ c = 0) (hn : l.length + m ≤ 4000) (hbs : bs ≤ w.heap.size) :
    ∃ v' w', (Builtin.append_ #[22, 22] ty #[v, .slice B m c]).run Try.prog w = .ok v' w' ∧ OwnA w' bs v' (l ++ new) ∧ w.grownBy w' v.ownBlock := by
  obtain ⟨i0, hi0, hz0, hz1, hz2⟩ := info_parts info34
  cases B with
  | none =>
    obtain ⟨rfl, rfl⟩ := hz rfl
    have hnew : new = [] := List.eq_nil_of_length_eq_zero hm
    subst hnew
    exact ⟨v, w, run_append_owned_none (P := Try.prog) w bs 22 ty 34 i0 3 Try.underlying22 hi0 v l.length _ hown, by simpa using hown, World.grownBy.refl _ _⟩
  | some ad =>
    obtain ⟨v', w', hrun, h2, h3, _, _⟩ := run_append_own_at (P := Try.prog) w bs 22 ty 34 i0 (.agg #[.int .i64 0, .int .i64 0, .int .i64 0]) 3 24 Try.underlying22 hi0 hz0 hz1 hz2 rfl (by omega) v l.length _ hown ad m c (new.flatMap acell) (by rw [acells_length, hm])
      (fun j u hu => by
        have hj : j < new.length * 3 := by have := (List.getElem?_eq_some_iff.1 hu).1; rwa [acells_length] at this
        obtain ⟨b, off, e, _, hc⟩ := hB (by omega)
        injection e with e
        subst e
        have hq := hc (j / 3) (by omega)
        have hf := acells_at new (j / 3) (by omega)
        have hr : j % 3 = 0 ∨ j % 3 = 1 ∨ j % 3 = 2 := by omega
        rw [add_off]
        rcases hr with e | e | e
        · have e2 : j = j / 3 * 3 := by omega
          rw [e2] at hu ⊢; rw [hf.1] at hu; rw [hq.1]; exact hu
        · have e2 : j = j / 3 * 3 + 1 := by omega
          rw [e2] at hu ⊢; rw [hf.2.1] at hu; rw [← Nat.add_assoc, hq.2.1]; exact hu
        · have e2 : j = j / 3 * 3 + 2 := by omega
          rw [e2] at hu ⊢; rw [hf.2.2] at hu; rw [← Nat.add_assoc, hq.2.2]; exact hu)
      (fun u hu => by
        obtain ⟨x, _, hx⟩ := List.mem_flatMap.1 hu
        simp [acell] at hx; rcases hx with rfl | rfl | rfl <;> rfl) (by simp only [maxLen]; omega) (by omega) hbs
    refine ⟨v', w', hrun, ?_, h3⟩
    unfold OwnA
    rw [List.flatMap_append, List.length_append, hm]; exact h2
theorem wl_appacts {rest : List Oper} {o : Oper} {a : Act} {w : World} (hgd : o.guard = none) (s x : Operand) (ho : o.op = .call { callee := .builtin .append, args := #[s, x], argTypes := #[22, 22] })
    (bs : Nat) (v : Value) (l : List Plain.A) (hs : a.eval s = v) (hown : OwnA w bs v l) (B : Option Addr) (m c : Nat) (new : List Plain.A) (hx : a.eval x = .slice B m c) (hm : new.length = m) (hB : Acts w B m (at' new)) (hz : B = none → m = 0 ∧ c = 0) (hn : l.length + m ≤ 4000) (hbs : bs ≤ w.heap.size)
    (h : ∀ v' w', OwnA w' bs v' (l ++ new) → w.grownBy w' v.ownBlock → ∀ K : Act → World → Prop, (∀ a w, wpList Try.prog ops Q rest a w → K a w) → K (a.put o.dst v') w') : wpList Try.prog ops Q (o :: rest) a w := by
  refine wpList_plain hgd fun K hK => ?_
  obtain ⟨v', w', hrun, h2, h3⟩ := run_appacts w o.type bs v l hown B m c new hm hB hz hn hbs
  unfold Oper.wp execOp
  simp only [ho, resolve, invoke, builtin, Sem.run_bind, Sem.run_pure, Result.andThen_ok, List.map_toArray, List.map_cons, List.map_nil, hs, hx, hrun]
  exact h v' w' h2 h3 K hK
theorem run_bact (w : World) (x : Plain.A) : (Instr.buildSlice 22 1 #[(0, act x)]).run Try.prog w = .ok (.slice (some ⟨w.heap.size, 0, none⟩) 1 1) (w.alloc (.cells #[.int .i64 x.kind, .int .i64 x.who, .int .i64 x.place] 34)) := by
  kernel_rfl
theorem wl_bact {rest : List Oper} {o : Oper} {a : Act} {w : World} (hgd : o.guard = none) (y : Operand) (ho : o.op = .buildSlice 22 1 #[(0, y)]) (x : Plain.A) (hx : a.eval y = act x)
    (h : ∀ (w' : World) (b : Nat), Acts w' (some ⟨b, 0, none⟩) 1 (at' [x]) → Below w.heap.size w w' → ∀ K : Act → World → Prop, (∀ a w, wpList Try.prog ops Q rest a w → K a w) → K (a.put o.dst (.slice (some ⟨b, 0, none⟩) 1 1)) w') : wpList Try.prog ops Q (o :: rest) a w := by
  refine wpList_plain hgd fun K hK => ?_
  unfold Oper.wp execOp
  have hr := run_bact w x
  simp only [ho, List.map_toArray, List.map_cons, List.map_nil, hx, Sem.run_bind, hr, Result.andThen_ok]
  refine h _ _ (acts_row (heap_alloc_new w _) fun i hi => ?_) ((Below.refl _ _).alloc (Nat.le_refl _) _) K hK
  have : i = 0 := by omega
  subst this; exact ⟨rfl, rfl, rfl⟩
theorem run_bnone (w : World) : (Instr.buildSlice 22 0 #[]).run Try.prog w = .ok (.slice (some ⟨w.heap.size, 0, none⟩) 0 0) (w.alloc (.cells #[] 34)) := by
  kernel_rfl
theorem wl_bnone {rest : List Oper} {o : Oper} {a : Act} {w : World} (hgd : o.guard = none) (ho : o.op = .buildSlice 22 0 #[]) (bs : Nat) (hbs : bs ≤ w.heap.size)
    (h : ∀ (w' : World) (v : Value), OwnA w' bs v [] → Below w.heap.size w w' → ∀ K : Act → World → Prop, (∀ a w, wpList Try.prog ops Q rest a w → K a w) → K (a.put o.dst v) w') : wpList Try.prog ops Q (o :: rest) a w := by
  refine wpList_plain hgd fun K hK => ?_
  unfold Oper.wp execOp
  have hr := run_bnone w
  simp only [ho, List.map_toArray, List.map_nil, Sem.run_bind, hr, Result.andThen_ok]
  exact h _ _ ⟨rfl, .inr ⟨w.heap.size, 0, #[], rfl, hbs, heap_alloc_new w _, Nat.le_refl _, by simp [maxLen], rfl, rfl⟩⟩ ((Below.refl _ _).alloc (Nat.le_refl _) _) K hK
end
end Go.Proofs.Ytnchafbaipeagaa
