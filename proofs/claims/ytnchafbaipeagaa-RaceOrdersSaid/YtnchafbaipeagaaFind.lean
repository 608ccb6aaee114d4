/- Find: the walk over all pairs. -/
import Derived.Test.YtnchafbaipeagaaClocks
namespace Go.Proofs.Ytnchafbaipeagaa
open Go.RowKit
set_option linter.unusedVariables false
set_option linter.unusedSimpArgs false
section
variable {ops : Array Oper} {Q : Exit → Act → World → Prop}
theorem wl_calls {P : Program} {rest : List Oper} {o : Oper} {a : Act} {w : World} (hgd : o.guard = none) (g : FuncId) (args : Array Value) (R : Value → World → Prop) (h : (execOp a.eval o).run P w = .ok (.enter g args) w)
    (hc : Calls P g args w fun e w' => ∃ v, e = .returned v ∧ R v w') (hK : ∀ v w', R v w' → ∀ K : Act → World → Prop, (∀ a w, wpList P ops Q rest a w → K a w) → K (a.put o.dst v) w') : wpList P ops Q (o :: rest) a w := by
  refine wpList_plain hgd fun K hK' => ?_
  unfold Oper.wp
  rw [h, Oper.upon_enter]
  refine hc.mono fun e w' hr => ?_
  obtain ⟨v, rfl, hr⟩ := hr
  exact hK v w' hr K hK'
end
theorem Clks.below {w w' : World} {V : Option Addr} {n : Nat} {c : Nat → Nat → Int} (h : Clks w V n c) (hb : Below w.heap.size w w') : Clks w' V n c := fun hn => by
  obtain ⟨g, e, hlt, hc⟩ := h hn
  refine ⟨g, e, Nat.lt_of_lt_of_le hlt hb.size, fun i t hi ht => ?_⟩
  have c := hb.cell (p := ⟨g, i * 8 + t, none⟩) hlt
  rw [c]; exact hc i t hi ht
theorem acts_ptr {w : World} {A : Option Addr} {n : Nat} {f : Nat → Plain.A} (h : Acts w A n f) (hn : 0 < n) : ∃ b off, A = some ⟨b, off, none⟩ := by
  obtain ⟨b, off, e, _⟩ := h hn
  exact ⟨b, off, e⟩
theorem at_act {w w' : World} {b off n : Nat} {f : Nat → Plain.A} {i : Nat} (h : Acts w (some ⟨b, off, none⟩) n f) (hb : Below w.heap.size w w') (hi : i < n) :
    w'.cell? ⟨b, off + i * 3, none⟩ = some (.int .i64 (f i).kind) ∧ w'.cell? ⟨b, off + i * 3 + 1, none⟩ = some (.int .i64 (f i).who) ∧ w'.cell? ⟨b, off + i * 3 + 2, none⟩ = some (.int .i64 (f i).place) := by
  obtain ⟨b', off', e, _, hc⟩ := h.below hb (by omega)
  injection e with e; injection e with e1 e2
  subst e1 e2
  exact hc i hi
theorem known_c (A V : Option Addr) (n cn cv : Nat) (f : Nat → Plain.A) (i k : Nat) (hi : i < n) (hk : k < n) (hn : n ≤ 4000) (hr : Plain.right (f i) = true) (w : World) (hA : Acts w A n f) (hV : Clks w V n (Plain.C f)) :
    Calls Try.prog 18 #[.slice A n cn, .slice V n cv, .int .i64 i, .int .i64 k] w fun e w' => e = .returned (.bool (Plain.knownC f i k)) ∧ Below w.heap.size w w' := by
  have h := Plain.right_who hr
  have := known A V n cn cv f (Plain.C f) i k hi hk hn (f i).who.toNat (by omega) (by omega) w hA hV
  exact this
theorem le_step {p : Nat → Nat → Bool} {k : Nat} (h : ∀ k', k' < k → ∀ i', i' < k' → p i' k' = false) (h' : ∀ i', i' < k → p i' k = false) : ∀ k', k' < k + 1 → ∀ i', i' < k' → p i' k' = false := fun k' h1 i' h2 => by
  by_cases e : k' < k
  · exact h k' e i' h2
  · have : k' = k := by omega
    subst this; exact h' i' h2
theorem lt_step {p : Nat → Bool} {i : Nat} (h : ∀ i', i' < i → p i' = false) (h' : p i = false) : ∀ i', i' < i + 1 → p i' = false := fun i' h1 => by
  by_cases e : i' < i
  · exact h i' e
  · have : i' = i := by omega
    subst this; exact h'
def foundV : Option (Nat × Nat) → Value
  | none => .tuple #[.int .i64 0, .int .i64 0, .bool false]
  | some p => .tuple #[.int .i64 p.1, .int .i64 p.2, .bool true]

set_option maxRecDepth 100000 in
set_option maxHeartbeats 4000000 in
theorem Find (A : Option Addr) (n cn : Nat) (f : Nat → Plain.A) (hn : n ≤ 4000) (w : World) (hA : Acts w A n f) :
    Calls Try.prog 9 #[.slice A n cn] w fun e w' => e = .returned (foundV (Plain.findR (Plain.raceC f) n)) ∧ Below w.heap.size w w' := by
  go_enter Try.func9, Try.ntmps9
  go_upto_region 1 with (fail)
  refine wp_region_lit ?_
  refine wl_val rfl (.slice A n cn) ?_ ?_
  · go_simp
  intro K hK
  go_simp
  refine hK _ _ ?_
  clear hK K
  refine wl_calls rfl 16 #[.slice A n cn] (fun v w' => ∃ V cv, v = .slice V n cv ∧ Clks w' V n (Plain.C f) ∧ Below w.heap.size w w') ?_ ((clocks A n cn f hn w hA).mono fun e w' h => by obtain ⟨V, cv, h1, h2, h3⟩ := h; exact ⟨_, h1, V, cv, rfl, h2, h3⟩) (fun v w1 hd => ?_)
  · first | (go_simp; done) | (go_simp; rfl)
  obtain ⟨V, cv, rfl, hV, hB⟩ := hd
  have hA1 := hA.below hB
  intro K hK
  go_simp
  refine hK _ _ ?_
  clear hK K
  refine wl_val rfl (.slice V n cv) ?_ ?_
  · go_simp
  intro K hK
  go_simp
  refine hK _ _ ?_
  clear hK K
  go_upto_region 3 with (fail)
  go_loopw [12] (fun i wr => ∃ k : Nat, k ≤ n ∧ i = .int .i64 k ∧ (∀ k', k' < k → ∀ i', i' < k' → Plain.raceC f i' k' = false) ∧ Below w1.heap.size w1 wr) (fun i _ => n - (intOf i).toNat)
  case atStart => exact ⟨0, by omega, rfl, fun k' h => absurd h (by omega), Below.refl _ _⟩
  case round =>
    obtain ⟨k, hk, rfl, hno, hb1⟩ := hrel
    by_cases hlt : k < n
    · have hl : (k : Int) < n := by omega
      have hl0 : (0 : Int) ≤ k := by omega
      go_upto_region 6 with (fail)
      go_loopw [16] (fun i' wr' => ∃ i : Nat, i ≤ k ∧ i' = .int .i64 i ∧ (∀ i', i' < i → Plain.raceC f i' k = false) ∧ Below w1.heap.size w1 wr') (fun i' _ => k - (intOf i').toNat)
      case atStart => exact ⟨0, by omega, rfl, fun k' h => absurd h (by omega), hb1⟩
      case round =>
        obtain ⟨i, hik, rfl, hno', hb2⟩ := hrel
        by_cases hlt' : i < k
        · have hl' : (i : Int) < k := by omega
          have hl0' : (0 : Int) ≤ i := by omega
          have hi : i < n := by omega
          have hAr := hA1.below hb2
          have hVr := hV.below hb2
          obtain ⟨b, off, rfl⟩ := acts_ptr hA1 (by omega)
          have hin : (i : Int) < n := by omega
          go_upto_region 8 with (fail)
          cases hag : Plain.against (f i) (f k)
          · have hrc : Plain.raceC f i k = false := by simp [Plain.raceC, hag]
            have hri : True := trivial
            have hag' := against (f i) (f k)
            rw [hag] at hag'
            refine quiet_all (fun w' => Below wr.heap.size wr w') (by kernel_rfl) (by kernel_rfl) (Below.drew (Below.refl _ _)) ?_
            refine q_run rfl (fun K hK => ?_)
            refine q_value ?_ (fun w' h' => ?_) ?_
            rotate_left
            · go_simp; try with_reducible rfl
            go_simp
            refine hK _ ?_
            clear hK K
            refine q_run rfl (fun K hK => ?_)
            refine q_value ?_ (fun w' h' => ?_) ?_
            rotate_left
            · go_simp; try with_reducible rfl
            go_simp
            refine hK _ ?_
            clear hK K
            refine q_run rfl (fun K hK => ?_)
            refine q_value ?_ (fun w' h' => ?_) ?_
            rotate_left
            · go_simp; try with_reducible rfl
            go_simp
            refine hK _ ?_
            clear hK K
            refine q_run rfl (fun K hK => ?_)
            refine q_value (act (f i)) (fun w' h' => ?_) ?_
            · obtain ⟨c0, c1, c2⟩ := at_act hAr h' hi; exact run_ldact (.tmp 21) rfl b (off + i * 3) (f i) rfl c0 c1 c2
            go_simp
            refine hK _ ?_
            clear hK K
            refine q_run rfl (fun K hK => ?_)
            refine q_value ?_ (fun w' h' => ?_) ?_
            rotate_left
            · go_simp; try with_reducible rfl
            go_simp
            refine hK _ ?_
            clear hK K
            refine q_run rfl (fun K hK => ?_)
            refine q_value ?_ (fun w' h' => ?_) ?_
            rotate_left
            · go_simp; try with_reducible rfl
            go_simp
            refine hK _ ?_
            clear hK K
            refine q_run rfl (fun K hK => ?_)
            refine q_value ?_ (fun w' h' => ?_) ?_
            rotate_left
            · go_simp; try with_reducible rfl
            go_simp
            refine hK _ ?_
            clear hK K
            refine q_run rfl (fun K hK => ?_)
            refine q_value (act (f k)) (fun w' h' => ?_) ?_
            · obtain ⟨c0, c1, c2⟩ := at_act hAr h' hlt; exact run_ldact (.tmp 25) rfl b (off + k * 3) (f k) rfl c0 c1 c2
            go_simp
            refine hK _ ?_
            clear hK K
            refine q_run rfl (fun K hK => ?_)
            refine q_call (Nat.le_refl _) hag' (fun w' => ?_) ?_
            · first | (go_simp; done) | (go_simp; rfl)
            go_simp
            refine hK _ ?_
            clear hK K
            refine q_run rfl (fun K hK => ?_)
            refine q_value ?_ (fun w' h' => ?_) ?_
            rotate_left
            · go_simp; try with_reducible rfl
            go_simp
            refine hK _ ?_
            clear hK K
            refine q_skip rfl (fun K hK => ?_)
            go_simp
            refine hK _ ?_
            clear hK K
            refine q_skip rfl (fun K hK => ?_)
            go_simp
            refine hK _ ?_
            clear hK K
            refine q_skip rfl (fun K hK => ?_)
            go_simp
            refine hK _ ?_
            clear hK K
            refine q_skip rfl (fun K hK => ?_)
            go_simp
            refine hK _ ?_
            clear hK K
            refine q_skip rfl (fun K hK => ?_)
            go_simp
            refine hK _ ?_
            clear hK K
            refine q_skip rfl (fun K hK => ?_)
            go_simp
            refine hK _ ?_
            clear hK K
            refine q_run rfl (fun K hK => ?_)
            refine q_value ?_ (fun w' h' => ?_) ?_
            rotate_left
            · go_simp; try with_reducible rfl
            go_simp
            refine hK _ ?_
            clear hK K
            refine qd_nil ?_
            intro w3 h3
            replace hb2 := hb2.trans (h3.mono hb2.size)
            go_wp2
            go_roundw
            case rel => exact ⟨i + 1, by omega, by go_num, lt_step hno' hrc, hb2⟩
            case measure => simp [intOf]; omega
          · have hri : Plain.right (f i) = true := by simp only [Plain.against, Bool.and_eq_true] at hag; exact hag.1.1.1.1.1
            cases hkn : Plain.knownC f i k
            · have hrc : Plain.raceC f i k = true := by simp [Plain.raceC, hag, hkn]
              have hag' := against (f i) (f k)
              rw [hag] at hag'
              refine quiet_all (fun w' => Below wr.heap.size wr w') (by kernel_rfl) (by kernel_rfl) (Below.drew (Below.refl _ _)) ?_
              refine q_run rfl (fun K hK => ?_)
              refine q_value ?_ (fun w' h' => ?_) ?_
              rotate_left
              · go_simp; try with_reducible rfl
              go_simp
              refine hK _ ?_
              clear hK K
              refine q_run rfl (fun K hK => ?_)
              refine q_value ?_ (fun w' h' => ?_) ?_
              rotate_left
              · go_simp; try with_reducible rfl
              go_simp
              refine hK _ ?_
              clear hK K
              refine q_run rfl (fun K hK => ?_)
              refine q_value ?_ (fun w' h' => ?_) ?_
              rotate_left
              · go_simp; try with_reducible rfl
              go_simp
              refine hK _ ?_
              clear hK K
              refine q_run rfl (fun K hK => ?_)
              refine q_value (act (f i)) (fun w' h' => ?_) ?_
              · obtain ⟨c0, c1, c2⟩ := at_act hAr h' hi; exact run_ldact (.tmp 21) rfl b (off + i * 3) (f i) rfl c0 c1 c2
              go_simp
              refine hK _ ?_
              clear hK K
              refine q_run rfl (fun K hK => ?_)
              refine q_value ?_ (fun w' h' => ?_) ?_
              rotate_left
              · go_simp; try with_reducible rfl
              go_simp
              refine hK _ ?_
              clear hK K
              refine q_run rfl (fun K hK => ?_)
              refine q_value ?_ (fun w' h' => ?_) ?_
              rotate_left
              · go_simp; try with_reducible rfl
              go_simp
              refine hK _ ?_
              clear hK K
              refine q_run rfl (fun K hK => ?_)
              refine q_value ?_ (fun w' h' => ?_) ?_
              rotate_left
              · go_simp; try with_reducible rfl
              go_simp
              refine hK _ ?_
              clear hK K
              refine q_run rfl (fun K hK => ?_)
              refine q_value (act (f k)) (fun w' h' => ?_) ?_
              · obtain ⟨c0, c1, c2⟩ := at_act hAr h' hlt; exact run_ldact (.tmp 25) rfl b (off + k * 3) (f k) rfl c0 c1 c2
              go_simp
              refine hK _ ?_
              clear hK K
              refine q_run rfl (fun K hK => ?_)
              refine q_call (Nat.le_refl _) hag' (fun w' => ?_) ?_
              · first | (go_simp; done) | (go_simp; rfl)
              go_simp
              refine hK _ ?_
              clear hK K
              refine q_run rfl (fun K hK => ?_)
              refine q_value ?_ (fun w' h' => ?_) ?_
              rotate_left
              · go_simp; try with_reducible rfl
              go_simp
              refine hK _ ?_
              clear hK K
              refine q_run rfl (fun K hK => ?_)
              refine q_value ?_ (fun w' h' => ?_) ?_
              rotate_left
              · go_simp; try with_reducible rfl
              go_simp
              refine hK _ ?_
              clear hK K
              refine q_run rfl (fun K hK => ?_)
              refine q_value ?_ (fun w' h' => ?_) ?_
              rotate_left
              · go_simp; try with_reducible rfl
              go_simp
              refine hK _ ?_
              clear hK K
              refine q_run rfl (fun K hK => ?_)
              refine q_value ?_ (fun w' h' => ?_) ?_
              rotate_left
              · go_simp; try with_reducible rfl
              go_simp
              refine hK _ ?_
              clear hK K
              refine q_run rfl (fun K hK => ?_)
              refine q_value ?_ (fun w' h' => ?_) ?_
              rotate_left
              · go_simp; try with_reducible rfl
              go_simp
              refine hK _ ?_
              clear hK K
              refine q_run rfl (fun K hK => ?_)
              refine q_enter 18 #[.slice (some ⟨b, off, none⟩) n cn, .slice V n cv, .int .i64 i, .int .i64 k] (.bool false) (fun w' => ?_) (fun w' h' => ?_) ?_
              · first | (go_simp; done) | (go_simp; rfl)
              · exact (known_c (some ⟨b, off, none⟩) V n cn cv f i k hi hlt hn hri w' (hAr.below h') (hVr.below h')).mono fun e w'' hh => ⟨by rw [← hkn]; exact hh.1, h'.trans (hh.2.mono h'.size)⟩
              go_simp
              refine hK _ ?_
              clear hK K
              refine q_run rfl (fun K hK => ?_)
              refine q_value ?_ (fun w' h' => ?_) ?_
              rotate_left
              · go_simp; try with_reducible rfl
              go_simp
              refine hK _ ?_
              clear hK K
              refine q_run rfl (fun K hK => ?_)
              refine q_value ?_ (fun w' h' => ?_) ?_
              rotate_left
              · go_simp; try with_reducible rfl
              go_simp
              refine hK _ ?_
              clear hK K
              refine qd_nil ?_
              intro w3 h3
              replace hb2 := hb2.trans (h3.mono hb2.size)
              go_wp2
              go_ret3
              refine ⟨?_, hB.trans (hb2.mono hB.size)⟩
              rw [Plain.findR_some hlt hlt' hrc hno' hno]; rfl
            · have hrc : Plain.raceC f i k = false := by simp [Plain.raceC, hag, hkn]
              have hag' := against (f i) (f k)
              rw [hag] at hag'
              refine quiet_all (fun w' => Below wr.heap.size wr w') (by kernel_rfl) (by kernel_rfl) (Below.drew (Below.refl _ _)) ?_
              refine q_run rfl (fun K hK => ?_)
              refine q_value ?_ (fun w' h' => ?_) ?_
              rotate_left
              · go_simp; try with_reducible rfl
              go_simp
              refine hK _ ?_
              clear hK K
              refine q_run rfl (fun K hK => ?_)
              refine q_value ?_ (fun w' h' => ?_) ?_
              rotate_left
              · go_simp; try with_reducible rfl
              go_simp
              refine hK _ ?_
              clear hK K
              refine q_run rfl (fun K hK => ?_)
              refine q_value ?_ (fun w' h' => ?_) ?_
              rotate_left
              · go_simp; try with_reducible rfl
              go_simp
              refine hK _ ?_
              clear hK K
              refine q_run rfl (fun K hK => ?_)
              refine q_value (act (f i)) (fun w' h' => ?_) ?_
              · obtain ⟨c0, c1, c2⟩ := at_act hAr h' hi; exact run_ldact (.tmp 21) rfl b (off + i * 3) (f i) rfl c0 c1 c2
              go_simp
              refine hK _ ?_
              clear hK K
              refine q_run rfl (fun K hK => ?_)
              refine q_value ?_ (fun w' h' => ?_) ?_
              rotate_left
              · go_simp; try with_reducible rfl
              go_simp
              refine hK _ ?_
              clear hK K
              refine q_run rfl (fun K hK => ?_)
              refine q_value ?_ (fun w' h' => ?_) ?_
              rotate_left
              · go_simp; try with_reducible rfl
              go_simp
              refine hK _ ?_
              clear hK K
              refine q_run rfl (fun K hK => ?_)
              refine q_value ?_ (fun w' h' => ?_) ?_
              rotate_left
              · go_simp; try with_reducible rfl
              go_simp
              refine hK _ ?_
              clear hK K
              refine q_run rfl (fun K hK => ?_)
              refine q_value (act (f k)) (fun w' h' => ?_) ?_
              · obtain ⟨c0, c1, c2⟩ := at_act hAr h' hlt; exact run_ldact (.tmp 25) rfl b (off + k * 3) (f k) rfl c0 c1 c2
              go_simp
              refine hK _ ?_
              clear hK K
              refine q_run rfl (fun K hK => ?_)
              refine q_call (Nat.le_refl _) hag' (fun w' => ?_) ?_
              · first | (go_simp; done) | (go_simp; rfl)
              go_simp
              refine hK _ ?_
              clear hK K
              refine q_run rfl (fun K hK => ?_)
              refine q_value ?_ (fun w' h' => ?_) ?_
              rotate_left
              · go_simp; try with_reducible rfl
              go_simp
              refine hK _ ?_
              clear hK K
              refine q_run rfl (fun K hK => ?_)
              refine q_value ?_ (fun w' h' => ?_) ?_
              rotate_left
              · go_simp; try with_reducible rfl
              go_simp
              refine hK _ ?_
              clear hK K
              refine q_run rfl (fun K hK => ?_)
              refine q_value ?_ (fun w' h' => ?_) ?_
              rotate_left
              · go_simp; try with_reducible rfl
              go_simp
              refine hK _ ?_
              clear hK K
              refine q_run rfl (fun K hK => ?_)
              refine q_value ?_ (fun w' h' => ?_) ?_
              rotate_left
              · go_simp; try with_reducible rfl
              go_simp
              refine hK _ ?_
              clear hK K
              refine q_run rfl (fun K hK => ?_)
              refine q_value ?_ (fun w' h' => ?_) ?_
              rotate_left
              · go_simp; try with_reducible rfl
              go_simp
              refine hK _ ?_
              clear hK K
              refine q_run rfl (fun K hK => ?_)
              refine q_enter 18 #[.slice (some ⟨b, off, none⟩) n cn, .slice V n cv, .int .i64 i, .int .i64 k] (.bool true) (fun w' => ?_) (fun w' h' => ?_) ?_
              · first | (go_simp; done) | (go_simp; rfl)
              · exact (known_c (some ⟨b, off, none⟩) V n cn cv f i k hi hlt hn hri w' (hAr.below h') (hVr.below h')).mono fun e w'' hh => ⟨by rw [← hkn]; exact hh.1, h'.trans (hh.2.mono h'.size)⟩
              go_simp
              refine hK _ ?_
              clear hK K
              refine q_run rfl (fun K hK => ?_)
              refine q_value ?_ (fun w' h' => ?_) ?_
              rotate_left
              · go_simp; try with_reducible rfl
              go_simp
              refine hK _ ?_
              clear hK K
              refine q_run rfl (fun K hK => ?_)
              refine q_value ?_ (fun w' h' => ?_) ?_
              rotate_left
              · go_simp; try with_reducible rfl
              go_simp
              refine hK _ ?_
              clear hK K
              refine qd_nil ?_
              intro w3 h3
              replace hb2 := hb2.trans (h3.mono hb2.size)
              go_wp2
              go_roundw
              case rel => exact ⟨i + 1, by omega, by go_num, lt_step hno' hrc, hb2⟩
              case measure => simp [intOf]; omega
        · have hl' : ¬ (i : Int) < k := by omega
          have hik' : i = k := by omega
          subst hik'
          go_wp2
          go_roundw
          case rel => exact ⟨i + 1, by omega, by go_num, le_step hno hno', hb2⟩
          case measure => simp [intOf]; omega
    · have hl : ¬ (k : Int) < n := by omega
      have hkn : k = n := by omega
      subst hkn
      go_wp2
      go_ret3
      refine ⟨?_, hB.trans (hb1.mono hB.size)⟩
      rw [Plain.findR_none hno]; rfl
end Go.Proofs.Ytnchafbaipeagaa
