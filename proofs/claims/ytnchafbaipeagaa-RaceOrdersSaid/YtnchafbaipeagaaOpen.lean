/- Arguments opened: slices of structs of three ints (the lemma open_slice_fields is the guide's), and slices of such slices. -/
import Derived.Test.YtnchafbaipeagaaAwake
import Derived.Test.YtnchafbaipeagaaLift
import Derived.Test.YtnchafbaipeagaaRows
import Derived.Deep.Slices
import Derived.Deep.Fields
import Derived.ChangeSame
namespace Go.Proofs.Ytnchafbaipeagaa
open Go.ChangeShapes Go.WideShapes Go.ChangeAt Go.RowKit Go.Deep
set_option linter.unusedVariables false
set_option linter.unusedSimpArgs false
theorem own : ownKnob Try.prog.godebug = none := by kernel_rfl
theorem laid : laidOutB Try.prog = true := by kernel_rfl
section
variable {H : Type} {enc : TypeId × Value → H} {P : Program} {w : World} {base : Nat} {spare : Nat → Bool} {held : Bool}
theorem open_slice_fields {t e : TypeId} {fs : Array Field} {fuel : Nat} {cs : List Value} {x : DataW H × List MemPlace} (ht : P.underlying t = some (.slice e)) (he : P.underlying e = some (.struct fs))
    (hone : oneCellFields P fs = true) (hC : P.cellsOf e = fs.size) (h : DataW.trod enc P w base spare held fuel t cs = some x) :
    (cs = [.slice none 0 0] ∧ x = (.nil, [])) ∨
    ∃ (a : Addr) (len cap m : Nat) (D : Nat → DataW H) (Pl : Nat → List MemPlace), cs = [.slice (some a) len cap] ∧ base ≤ a.block ∧ len ≤ cap ∧ cap ≤ maxLen ∧ m = (if spare a.block then cap else len) ∧
      x = (.slice ((List.range len).map D) ((List.range (m - len)).map fun j => D (len + j)), MemPlace.row a (m * fs.size) ++ (List.range m).flatMap Pl) ∧
      ∀ i, i < m → ∃ (ys : List (DataW H × List MemPlace)) (n : Nat), D i = .agg (ys.map (·.1)) ∧ Pl i = ys.flatMap (·.2) ∧ ys.length = fs.size ∧
        ∀ (j : Nat) (f : Field), fs[j]? = some f → ∃ (v : Value) (y : DataW H × List MemPlace), w.cell? (a.add (i * fs.size + j)) = some v ∧ ys[j]? = some y ∧ DataW.trod enc P w base spare held n f.type [v] = some y := by
  rcases open_slice ht h with h0 | ⟨a, len, cap, m, n, D, Pl, hcs, hb, hl, hm, hmm, hx, hi⟩
  · exact .inl h0
  · refine .inr ⟨a, len, cap, m, D, Pl, hcs, hb, hl, hm, hmm, by rw [hC] at hx; exact hx, fun i him => ?_⟩
    obtain ⟨cs', hc, ht'⟩ := hi i him
    rw [hC] at hc
    obtain ⟨ys, n', hn', hy, hlen, hyl, hf⟩ := DataW.trod_struct he ht'
    obtain ⟨_, hcl, hat⟩ := World.cells?_some hc
    simp only [Prod.mk.injEq] at hy
    refine ⟨ys, n', hy.1, hy.2, hyl, fun j f hj => ?_⟩
    obtain ⟨ho, hk⟩ := hone_of hone j f hj
    have hjl : j < fs.size := (Array.getElem?_eq_some_iff.1 hj).1
    have hcell := hat j hjl
    have hv : cs'[j]? = some (cs'[j]'(by omega)) := List.getElem?_eq_getElem (by omega)
    have h1 := hf j f hj
    rw [ho, hk] at h1
    have hone' : (cs'.drop j).take 1 = [cs'[j]'(by omega)] := by
      rw [List.drop_eq_getElem_cons (by omega)]
      rfl
    rw [hone'] at h1
    have hys : ys[j]? = some (ys[j]'(by omega)) := List.getElem?_eq_getElem (by omega)
    refine ⟨_, _, ?_, hys, h1.trans hys⟩
    rw [← Go.Deep.add_add, hcell, hv]
end
section
variable {H : Type} {enc : TypeId × Value → H} {w : World} {base : Nat} {spare : Nat → Bool} {held : Bool}
theorem trod_i64 {cs : List Value} {fuel : Nat} {x : DataW H × List MemPlace} (h : DataW.trod enc Try.prog w base spare held fuel 3 cs = some x) : ∃ n, cs = [.int .i64 n] := by
  obtain ⟨n, h1, _⟩ := DataW.trod_int Try.underlying3 h
  exact ⟨n, h1⟩
/-- A slice of acts, as it stands in memory. -/
theorem acts_of_trod {cs : List Value} {fuel : Nat} {x : DataW H × List MemPlace} (hf : DataW.trod enc Try.prog w base spare held fuel 22 cs = some x) :
    ∃ A n cn f, cs = [.slice A n cn] ∧ Acts w A n f ∧ (A = none → n = 0 ∧ cn = 0) := by
  rcases open_slice_fields Try.underlying22 Try.underlying34 (by kernel_rfl) (by kernel_rfl) hf with ⟨e, _⟩ | ⟨a, len, cap, m, D, Pl, e, hb, hl, hm, hmm, hx, hi⟩
  · exact ⟨_, _, _, fun _ => ⟨0, 0, 0⟩, e, fun h => absurd h (by omega), fun _ => ⟨rfl, rfl⟩⟩
  · have hml : len ≤ m := by rw [hmm]; split <;> omega
    have hc : ∀ i, i < len → ∃ x : Plain.A, w.cell? (a.add (i * 3 + 0)) = some (.int .i64 x.kind) ∧ w.cell? (a.add (i * 3 + 1)) = some (.int .i64 x.who) ∧ w.cell? (a.add (i * 3 + 2)) = some (.int .i64 x.place) := fun i hil => by
      obtain ⟨ys, n, _, _, _, hfld⟩ := hi i (by omega)
      obtain ⟨v0, y0, c0, _, t0⟩ := hfld 0 _ rfl
      obtain ⟨v1, y1, c1, _, t1⟩ := hfld 1 _ rfl
      obtain ⟨v2, y2, c2, _, t2⟩ := hfld 2 _ rfl
      obtain ⟨k0, e0⟩ := trod_i64 t0
      obtain ⟨k1, e1⟩ := trod_i64 t1
      obtain ⟨k2, e2⟩ := trod_i64 t2
      simp only [List.cons.injEq, and_true] at e0 e1 e2
      subst e0 e1 e2
      exact ⟨⟨k0, k1, k2⟩, c0, c1, c2⟩
    have hc' : ∀ i, ∃ x : Plain.A, i < len → w.cell? (a.add (i * 3 + 0)) = some (.int .i64 x.kind) ∧ w.cell? (a.add (i * 3 + 1)) = some (.int .i64 x.who) ∧ w.cell? (a.add (i * 3 + 2)) = some (.int .i64 x.place) := fun i => by
      by_cases hi : i < len
      · obtain ⟨x, hx⟩ := hc i hi
        exact ⟨x, fun _ => hx⟩
      · exact ⟨⟨0, 0, 0⟩, fun h => absurd h hi⟩
    obtain ⟨g, hg⟩ := Classical.axiomOfChoice hc'
    refine ⟨_, _, _, g, e, fun hn => ?_, fun h => by cases h⟩
    obtain ⟨b, off, spot⟩ := a
    obtain ⟨x0, z0, _, _⟩ := hc 0 hn
    have hspot : spot = none := by simpa [Addr.add] using World.cell?_spot z0
    subst hspot
    refine ⟨b, off, rfl, ?_, fun i hil => ?_⟩
    · simp only [Addr.add, Nat.zero_mul, Nat.add_zero, if_true] at z0
      unfold World.cell? at z0
      split at z0
      · rename_i h; exact blk_lt h
      · cases z0
    · have h := hg i hil
      simp only [add_off, Nat.add_zero, ← Nat.add_assoc] at h
      exact ⟨h.1, h.2.1, h.2.2⟩
theorem open_acts {r : Reach} {b0 : Nat} {v : Value} {d : DataW H} {ps : List MemPlace} (hv : Value.okWide Try.prog w r b0 22 v) (h : DataW.Trod enc Try.prog w base spare held 22 v d ps) : ∃ A n cn f, v = .slice A n cn ∧ Acts w A n f := by
  obtain ⟨a0, len, cap, rfl⟩ := okWide_slice Try.underlying22 hv
  obtain ⟨fuel, hf⟩ := h
  obtain ⟨A, n, cn, f, e, hA, _⟩ := acts_of_trod hf
  exact ⟨A, n, cn, f, by simpa [Value.cells] using e, hA⟩
theorem open_acts' {r : Reach} {b0 : Nat} {v : Value} {d : DataW H} {ps : List MemPlace} (hv : Value.okWide Try.prog w r b0 22 v) (h : DataW.Trod enc Try.prog w base spare held 22 v d ps) : ∃ A n cn f, v = .slice A n cn ∧ Acts w A n f ∧ (A = none → n = 0 ∧ cn = 0) := by
  obtain ⟨a0, len, cap, rfl⟩ := okWide_slice Try.underlying22 hv
  obtain ⟨fuel, hf⟩ := h
  obtain ⟨A, n, cn, f, e, hA, hz⟩ := acts_of_trod hf
  exact ⟨A, n, cn, f, by simpa [Value.cells] using e, hA, hz⟩
end
end Go.Proofs.Ytnchafbaipeagaa
