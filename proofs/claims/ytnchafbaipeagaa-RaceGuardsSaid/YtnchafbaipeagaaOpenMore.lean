/- Arguments opened: slices of slices of acts, slices of bytes. -/
import Derived.Test.YtnchafbaipeagaaOpen
import Derived.Test.YtnchafbaipeagaaGuards
namespace Go.Proofs.Ytnchafbaipeagaa
open Go.ChangeShapes Go.WideShapes Go.ChangeAt Go.RowKit Go.Deep
set_option linter.unusedVariables false
set_option linter.unusedSimpArgs false
section
variable {H : Type} {enc : TypeId × Value → H} {w : World} {base : Nat} {spare : Nat → Bool} {held : Bool}
/-- the elements of a slice, one cell each, chosen at once -/
theorem pick_cells {α : Type} {w : World} {a : Addr} {len : Nat} (d : α) (G : α → Value → Prop) (hc : ∀ i, i < len → ∃ x v, w.cell? (a.add i) = some v ∧ G x v) :
    ∃ g : Nat → α, 0 < len → ∃ b off, some a = some ⟨b, off, none⟩ ∧ b < w.heap.size ∧ ∀ i, i < len → ∃ v, w.cell? ⟨b, off + i, none⟩ = some v ∧ G (g i) v := by
  have hc' : ∀ i, ∃ x : α, i < len → ∃ v, w.cell? (a.add i) = some v ∧ G x v := fun i => by
    by_cases hi : i < len
    · obtain ⟨x, hx⟩ := hc i hi
      exact ⟨x, fun _ => hx⟩
    · exact ⟨d, fun h => absurd h hi⟩
  obtain ⟨g, hg⟩ := Classical.axiomOfChoice hc'
  refine ⟨g, fun hn => ?_⟩
  obtain ⟨b, off, spot⟩ := a
  obtain ⟨x0, v0, z0, _⟩ := hc 0 hn
  have hspot : spot = none := by simpa [Addr.add] using World.cell?_spot z0
  subst hspot
  refine ⟨b, off, rfl, ?_, fun i hil => ?_⟩
  · simp only [Addr.add, if_true] at z0
    unfold World.cell? at z0
    split at z0
    · rename_i h; exact blk_lt h
    · cases z0
  · have h := hg i hil
    simp only [add_off] at h
    exact h
theorem open_bytes {r : Reach} {b0 : Nat} {v : Value} {d : DataW H} {ps : List MemPlace} (hv : Value.okWide Try.prog w r b0 32 v) (h : DataW.Trod enc Try.prog w base spare held 32 v d ps) : ∃ A n cn f, v = .slice A n cn ∧ Bytes w A n f := by
  obtain ⟨a0, len0, cap0, rfl⟩ := okWide_slice Try.underlying32 hv
  obtain ⟨fuel, hf⟩ := h
  rcases open_slice Try.underlying32 hf with ⟨e, _⟩ | ⟨a, len, cap, m, n, D, Pl, e, hb, hl, hm, hmm, hx, hi⟩
  · have e' : a0 = none ∧ len0 = 0 ∧ cap0 = 0 := by simpa [Value.cells] using e
    obtain ⟨rfl, rfl, rfl⟩ := e'
    exact ⟨_, _, _, fun _ => 0, rfl, fun h => absurd h (by omega)⟩
  · have e' : a0 = some a ∧ len0 = len ∧ cap0 = cap := by simpa [Value.cells] using e
    obtain ⟨rfl, rfl, rfl⟩ := e'
    have hml : len0 ≤ m := by rw [hmm]; split <;> omega
    obtain ⟨g, hg⟩ := pick_cells (w := w) (a := a) (len := len0) (0 : Int) (fun z v => v = .int .u8 z ∧ 0 ≤ z ∧ z ≤ 255) (fun i hil => by
      obtain ⟨cs', hc, ht'⟩ := hi i (by omega)
      obtain ⟨z, e, _, hwf⟩ := DataW.trod_int Try.underlying5 ht'
      subst e
      have hC : Try.prog.cellsOf 5 = 1 := by kernel_rfl
      rw [hC] at hc
      obtain ⟨_, _, hat⟩ := World.cells?_some hc
      have h0 := hat 0 (by omega)
      refine ⟨z, _, (show w.cell? (a.add i) = _ by have h1 := h0; rw [Nat.mul_one] at h1; exact h1), rfl, ?_⟩
      simp only [Lit.wf, IntKind.min, IntKind.max, IntKind.signed, IntKind.bits, Bool.and_eq_true] at hwf
      simp at hwf
      omega)
    refine ⟨_, _, _, g, rfl, fun hn => ?_⟩
    obtain ⟨b, off, e1, h1, h2⟩ := hg hn
    refine ⟨b, off, e1, h1, fun i hil => ?_⟩
    obtain ⟨v, hv1, rfl, hv2⟩ := h2 i hil
    exact ⟨hv1, hv2⟩
theorem open_secs {r : Reach} {b0 : Nat} {v : Value} {d : DataW H} {ps : List MemPlace} (hv : Value.okWide Try.prog w r b0 31 v) (h : DataW.Trod enc Try.prog w base spare held 31 v d ps) : ∃ A n cn g f, v = .slice A n cn ∧ Secs w A n g f := by
  obtain ⟨a0, len0, cap0, rfl⟩ := okWide_slice Try.underlying31 hv
  obtain ⟨fuel, hf⟩ := h
  rcases open_slice Try.underlying31 hf with ⟨e, _⟩ | ⟨a, len, cap, m, n, D, Pl, e, hb, hl, hm, hmm, hx, hi⟩
  · have e' : a0 = none ∧ len0 = 0 ∧ cap0 = 0 := by simpa [Value.cells] using e
    obtain ⟨rfl, rfl, rfl⟩ := e'
    exact ⟨_, _, _, fun _ => (none, 0, 0), fun _ _ => ⟨0, 0, 0⟩, rfl, fun h => absurd h (by omega)⟩
  · have e' : a0 = some a ∧ len0 = len ∧ cap0 = cap := by simpa [Value.cells] using e
    obtain ⟨rfl, rfl, rfl⟩ := e'
    have hml : len0 ≤ m := by rw [hmm]; split <;> omega
    obtain ⟨g, hg⟩ := pick_cells (w := w) (a := a) (len := len0) (((none, 0, 0), fun _ => ⟨0, 0, 0⟩) : (Option Addr × Nat × Nat) × (Nat → Plain.A)) (fun z v => v = .slice z.1.1 z.1.2.1 z.1.2.2 ∧ Acts w z.1.1 z.1.2.1 z.2) (fun i hil => by
      obtain ⟨cs', hc, ht'⟩ := hi i (by omega)
      obtain ⟨A, n, cn, f, e, hA, _⟩ := acts_of_trod ht'
      subst e
      have hC : Try.prog.cellsOf 22 = 1 := by kernel_rfl
      rw [hC] at hc
      obtain ⟨_, _, hat⟩ := World.cells?_some hc
      have h0 := hat 0 (by omega)
      exact ⟨((A, n, cn), f), _, (show w.cell? (a.add i) = _ by have h1 := h0; rw [Nat.mul_one] at h1; exact h1), rfl, hA⟩)
    refine ⟨_, _, _, fun i => (g i).1, fun i => (g i).2, rfl, fun hn => ?_⟩
    obtain ⟨b, off, e1, h1, h2⟩ := hg hn
    refine ⟨b, off, e1, h1, fun i hil => ?_⟩
    obtain ⟨v, hv1, rfl, hv2⟩ := h2 i hil
    exact ⟨hv1, hv2⟩
end
end Go.Proofs.Ytnchafbaipeagaa
