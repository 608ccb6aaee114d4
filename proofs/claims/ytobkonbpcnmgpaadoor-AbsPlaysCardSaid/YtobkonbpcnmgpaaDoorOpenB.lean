/- Arguments opened: a slice of asks, an ask, a slice of objects. -/
import Derived.Test.YtobkonbpcnmgpaaDoorOpenA
import Derived.Test.YtobkonbpcnmgpaaDoorAsks
namespace Go.Proofs.YtobkonbpcnmgpaaDoor
open Go.ChangeShapes Go.WideShapes Go.ChangeAt Go.RowKit Go.Deep
set_option linter.unusedVariables false
set_option linter.unusedSimpArgs false
section
variable {H : Type} {enc : TypeId × Value → H} {P : Program} {w : World} {base : Nat} {spare : Nat → Bool} {held : Bool}
theorem open_agg6 {r : Reach} {b0 : Nat} {t : TypeId} {f0 f1 f2 f3 f4 f5 : Field} {v : Value} {d : DataW H} {p : List MemPlace} (hs : P.underlying t = some (.struct #[f0, f1, f2, f3, f4, f5])) (hone : oneCellFields P #[f0, f1, f2, f3, f4, f5] = true) (hC : P.cellsOf t = 6)
    (hv : Value.okWide P w r b0 t v) (h : DataW.Trod enc P w base spare held t v d p) :
    ∃ (v0 v1 v2 v3 v4 v5 : Value) (y0 y1 y2 y3 y4 y5 : DataW H × List MemPlace) (n : Nat), v = .agg #[v0, v1, v2, v3, v4, v5] ∧
      DataW.trod enc P w base spare held n f0.type [v0] = some y0 ∧ DataW.trod enc P w base spare held n f1.type [v1] = some y1 ∧ DataW.trod enc P w base spare held n f2.type [v2] = some y2 ∧ DataW.trod enc P w base spare held n f3.type [v3] = some y3 ∧ DataW.trod enc P w base spare held n f4.type [v4] = some y4 ∧ DataW.trod enc P w base spare held n f5.type [v5] = some y5 := by
  obtain ⟨cs, rfl, hsz⟩ := okWide_struct hs hv
  have hsz5 : cs.size = 6 := hsz.trans hC
  obtain ⟨fuel, hf⟩ := h
  obtain ⟨xs, n, _, hx, hl, hlen, hfl⟩ := DataW.trod_struct hs hf
  obtain ⟨o0, k0⟩ := hone_of hone 0 f0 rfl
  obtain ⟨o1, k1⟩ := hone_of hone 1 f1 rfl
  obtain ⟨o2, k2⟩ := hone_of hone 2 f2 rfl
  obtain ⟨o3, k3⟩ := hone_of hone 3 f3 rfl
  obtain ⟨o4, k4⟩ := hone_of hone 4 f4 rfl
  obtain ⟨o5, k5⟩ := hone_of hone 5 f5 rfl
  obtain ⟨l⟩ := cs
  match l, hsz5, xs, hlen with
  | [v0, v1, v2, v3, v4, v5], _, [y0, y1, y2, y3, y4, y5], _ =>
    have t0 := hfl 0 f0 rfl
    have t1 := hfl 1 f1 rfl
    have t2 := hfl 2 f2 rfl
    have t3 := hfl 3 f3 rfl
    have t4 := hfl 4 f4 rfl
    have t5 := hfl 5 f5 rfl
    rw [o0, k0] at t0
    rw [o1, k1] at t1
    rw [o2, k2] at t2
    rw [o3, k3] at t3
    rw [o4, k4] at t4
    rw [o5, k5] at t5
    exact ⟨v0, v1, v2, v3, v4, v5, y0, y1, y2, y3, y4, y5, n, rfl, t0, t1, t2, t3, t4, t5⟩
end
section
variable {H : Type} {enc : TypeId × Value → H} {w : World} {base : Nat} {spare : Nat → Bool} {held : Bool}
theorem open_ask {r : Reach} {b0 : Nat} {v : Value} {d : DataW H} {ps : List MemPlace} (hv : Value.okWide Tryd.prog w r b0 34 v) (h : DataW.Trod enc Tryd.prog w base spare held 34 v d ps) : ∃ x : Ak, v = akV x ∧ 0 ≤ x.arg ∧ x.arg < 4294967296 := by
  obtain ⟨v0, v1, v2, v3, v4, v5, y0, y1, y2, y3, y4, y5, n, rfl, t0, t1, t2, t3, t4, t5⟩ := open_agg6 Tryd.underlying34 (by kernel_rfl) (by kernel_rfl) hv h
  obtain ⟨k0, e0, _⟩ := trod_i64 t0
  obtain ⟨k1, e1, _⟩ := trod_i64 t1
  obtain ⟨k2, e2, _⟩ := trod_i64 t2
  obtain ⟨k3, e3, _⟩ := trod_i64 t3
  obtain ⟨k4, e4, r4⟩ := trod_u32 t4
  obtain ⟨k5, e5, _⟩ := trod_u32 t5
  simp only [List.cons.injEq, and_true] at e0 e1 e2 e3 e4 e5
  subst e0 e1 e2 e3 e4 e5
  exact ⟨⟨k0, k1, k2, k3, k4, k5⟩, rfl, r4.1, by show k4 < 4294967296; omega⟩
theorem open_objs {r : Reach} {b0 : Nat} {v : Value} {d : DataW H} {ps : List MemPlace} (hv : Value.okWide Tryd.prog w r b0 22 v) (h : DataW.Trod enc Tryd.prog w base spare held 22 v d ps) : ∃ A n cn f, v = .slice A n cn ∧ Objs w A n f ∧ n ≤ cn := by
  obtain ⟨a0, len0, cap0, rfl⟩ := okWide_slice Tryd.underlying22 hv
  obtain ⟨fuel, hf⟩ := h
  obtain ⟨A, n, cn, f, e, h1, h2, _⟩ := trod_objs (v := .slice a0 len0 cap0) hf
  exact ⟨A, n, cn, f, e, h1, h2⟩
theorem trod_asks {v : Value} {fuel : Nat} {y : DataW H × List MemPlace} (h : DataW.trod enc Tryd.prog w base spare held fuel 23 [v] = some y) : ∃ A n cn f, v = .slice A n cn ∧ Asks w A n f := by
  rcases open_slice_fields Tryd.underlying23 Tryd.underlying34 (by kernel_rfl) (by kernel_rfl) h with ⟨e, _⟩ | ⟨a, len, cap, m, D, Pl, e, hb, hl, hm, hmm, hx, hi⟩
  · have e' : v = .slice none 0 0 := by simpa using e
    subst e'
    exact ⟨_, _, _, fun _ => ⟨0, 0, 0, 0, 0, 0⟩, rfl, fun h => absurd h (by omega)⟩
  · have e' : v = .slice (some a) len cap := by simpa using e
    subst e'
    have hml : len ≤ m := by rw [hmm]; split <;> omega
    have hc' : ∀ i, ∃ x : Ak, i < len → (w.cell? (a.add (i * 6 + 0)) = some (.int .i64 x.who) ∧ w.cell? (a.add (i * 6 + 1)) = some (.int .i64 x.obj) ∧ w.cell? (a.add (i * 6 + 2)) = some (.int .i64 x.call) ∧ w.cell? (a.add (i * 6 + 3)) = some (.int .i64 x.part) ∧ w.cell? (a.add (i * 6 + 4)) = some (.int .u32 x.arg) ∧ w.cell? (a.add (i * 6 + 5)) = some (.int .u32 x.val)) ∧ 0 ≤ x.arg ∧ x.arg ≤ 4294967295 := fun i => by
      by_cases hil : i < len
      · obtain ⟨ys, n, _, _, _, hfld⟩ := hi i (by omega)
        obtain ⟨v0, y0, c0, _, t0⟩ := hfld 0 _ rfl
        obtain ⟨k0, e0, r0⟩ := trod_i64 t0
        simp only [List.cons.injEq, and_true] at e0
        subst e0
        obtain ⟨v1, y1, c1, _, t1⟩ := hfld 1 _ rfl
        obtain ⟨k1, e1, r1⟩ := trod_i64 t1
        simp only [List.cons.injEq, and_true] at e1
        subst e1
        obtain ⟨v2, y2, c2, _, t2⟩ := hfld 2 _ rfl
        obtain ⟨k2, e2, r2⟩ := trod_i64 t2
        simp only [List.cons.injEq, and_true] at e2
        subst e2
        obtain ⟨v3, y3, c3, _, t3⟩ := hfld 3 _ rfl
        obtain ⟨k3, e3, r3⟩ := trod_i64 t3
        simp only [List.cons.injEq, and_true] at e3
        subst e3
        obtain ⟨v4, y4, c4, _, t4⟩ := hfld 4 _ rfl
        obtain ⟨k4, e4, r4⟩ := trod_u32 t4
        simp only [List.cons.injEq, and_true] at e4
        subst e4
        obtain ⟨v5, y5, c5, _, t5⟩ := hfld 5 _ rfl
        obtain ⟨k5, e5, r5⟩ := trod_u32 t5
        simp only [List.cons.injEq, and_true] at e5
        subst e5
        exact ⟨⟨k0, k1, k2, k3, k4, k5⟩, fun _ => ⟨⟨c0, c1, c2, c3, c4, c5⟩, r4⟩⟩
      · exact ⟨⟨0, 0, 0, 0, 0, 0⟩, fun h => absurd h hil⟩
    obtain ⟨g, hg⟩ := Classical.axiomOfChoice hc'
    refine ⟨_, _, _, g, rfl, fun hn => ?_⟩
    obtain ⟨b, off, spot⟩ := a
    obtain ⟨⟨z0, _⟩, _⟩ := hg 0 hn
    have hspot : spot = none := by simpa [Addr.add] using World.cell?_spot z0
    subst hspot
    refine ⟨b, off, rfl, ?_, fun i hil => ?_⟩
    · simp only [add_off] at z0; exact blk_of_cell z0
    · have h := hg i hil
      simp only [add_off, Nat.add_zero, ← Nat.add_assoc] at h
      exact h
theorem open_asks {r : Reach} {b0 : Nat} {v : Value} {d : DataW H} {ps : List MemPlace} (hv : Value.okWide Tryd.prog w r b0 23 v) (h : DataW.Trod enc Tryd.prog w base spare held 23 v d ps) : ∃ A n cn f, v = .slice A n cn ∧ Asks w A n f := by
  obtain ⟨a0, len0, cap0, rfl⟩ := okWide_slice Tryd.underlying23 hv
  obtain ⟨fuel, hf⟩ := h
  exact trod_asks hf
end
end Go.Proofs.YtobkonbpcnmgpaaDoor
