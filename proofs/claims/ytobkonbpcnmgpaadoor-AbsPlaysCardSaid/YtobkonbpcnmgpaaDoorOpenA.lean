/- Arguments opened (the lemma open_slice_fields is the guide's); what the listed variable gives. -/
import Derived.Test.YtobkonbpcnmgpaaDoorRows
import Derived.Test.YtobkonbpcnmgpaaDoorLift
import Derived.Test.YtobkonbpcnmgpaaDoorSem
import Derived.Deep.Slices
import Derived.Deep.Fields
import Derived.ChangeSame
import Derived.LaidMore
import Derived.LaidLaws
import Derived.LaidHandle
import Derived.Stop.Joined
import Derived.ProofKit
import Derived.OpenShut
import Derived.Lib.SmallJoins
namespace Go.Proofs.YtobkonbpcnmgpaaDoor
open Go.ChangeShapes Go.WideShapes Go.ChangeAt Go.RowKit Go.Deep
set_option linter.unusedVariables false
set_option linter.unusedSimpArgs false
theorem own : ownKnob Tryd.prog.godebug = none := by kernel_rfl
theorem laid : laidOutB Tryd.prog = true := by kernel_rfl
theorem gNames : Tryd.prog.globalNamed "deadlatch/obj.names" = some 0 := by kernel_rfl
theorem tNames : (Tryd.prog.globals[0]?).map (·.type) = some 81 := by kernel_rfl
def laidN : List (String × DataW Unit) := [("deadlatch/obj.names", Rows.laid_deadlatch_obj_names)]
def nmL : List (List UInt8) := [[], [116, 97, 115], [116, 116, 97, 115], [116, 105, 99, 107, 101, 116], [109, 99, 115], [99, 108, 104], [112, 101, 116, 101, 114, 115, 111, 110], [100, 101, 107, 107, 101, 114], [98, 105, 97, 115], [115, 101, 113], [109, 117, 116, 101, 120], [115, 101, 109], [99, 111, 110, 100], [98, 97, 114, 114, 105, 101, 114], [114, 119], [111, 110, 99, 101]]
theorem nmL_at : ∀ i, i < 16 → (nmB i).data.toList = nmL.getD i [] := by decide +kernel
theorem nm_of_vars {W : World} {g0 : Nat} {cs0 : Array Value} {f0 : Nat} {p0 : List MemPlace} (hg0 : Tryd.prog.globalNamed "deadlatch/obj.names" = some g0) (hv0 : W.var? Tryd.prog "deadlatch/obj.names" = some cs0) (hd0 : DataW.trod (H := Unit) (fun _ => ()) Tryd.prog W 0 (fun _ => true) false f0 81 cs0.toList = some (Rows.laid_deadlatch_obj_names, p0)) : NmW W := by
  obtain ⟨xs, m1, _, hx1, hlen, hn, hel⟩ := DataW.trod_array Tryd.underlying81 hd0
  have hC9 : Tryd.prog.cellsOf 9 = 1 := by kernel_rfl
  have hC81 : Tryd.prog.cellsOf 81 = 16 := by kernel_rfl
  have hxs : xs.map (·.1) = nmL.map fun b => (.lit (.string b) : DataW Unit) := by
    have h1 := (Prod.mk.inj hx1).1
    have h2 : (Rows.laid_deadlatch_obj_names (H := Unit)) = .agg (nmL.map fun b => .lit (.string b)) := rfl
    rw [h2] at h1
    injection h1 with h1
    exact h1.symm
  intro i hi
  have h1 := hel i hi
  rw [hC9, Nat.mul_one] at h1
  have hil : i < cs0.toList.length := by rw [hlen, hC81]; exact hi
  have hone : (cs0.toList.drop i).take 1 = [cs0.toList[i]] := by
    rw [List.drop_eq_getElem_cons hil]; rfl
  rw [hone, List.getElem?_eq_getElem (by omega)] at h1
  obtain ⟨s, hs1, hs2, _⟩ := DataW.trod_string Tryd.underlying9 h1
  have hxi : (xs.map (·.1))[i]? = some (.lit (.string s.data.toList)) := by
    rw [List.getElem?_map, List.getElem?_eq_getElem (by omega)]; simp [hs2]
  rw [hxs, List.getElem?_map, List.getElem?_eq_getElem (show i < nmL.length from hi)] at hxi
  have hb : s.data.toList = nmL[i]'(show i < nmL.length from hi) := by simpa [eq_comm] using hxi
  have hcell := World.var?_cell hg0 hv0 i
  obtain rfl := Option.some.inj (gNames.symm.trans hg0)
  have hc : cs0[i]? = some (.string s) := by
    rw [← Array.getElem?_toList, List.getElem?_eq_getElem hil]
    have : cs0.toList[i] = .string s := by simpa using hs1
    rw [this]
  rw [hcell, hc]
  have he : s = nmB i := by
    have h2 := nmL_at i hi
    have h3 : nmL.getD i [] = nmL[i]'(show i < nmL.length from hi) := by simp [List.getD, List.getElem?_eq_getElem (show i < nmL.length from hi)]
    rw [h3, ← hb] at h2
    obtain ⟨⟨l⟩⟩ := s
    generalize nmB i = b at *
    obtain ⟨⟨l'⟩⟩ := b
    simp at h2
    rw [h2]
  rw [he]
theorem nm_of_laid {W : World} (h : laidMetH Tryd.prog laidN W) : NmW W := by
  rw [MakeChecks.laidMetH_plain _ _ _ (by kernel_rfl)] at h
  obtain ⟨ps, ⟨g0, t0, cs0, f0, p0, q0, hg0, ht0, hv0, hd0, _, _⟩, _, _⟩ := h
  have hgg := Option.some.inj (gNames.symm.trans hg0)
  subst hgg
  obtain rfl := Option.some.inj (tNames.symm.trans ht0)
  exact nm_of_vars hg0 hv0 hd0
theorem door_met (os : Os) (args : Array Value) : laidMetH Tryd.prog laidN ((World.doorLaid Tryd.prog 400 os).forCall (fun _ _ => 0) ⟨#[], args, []⟩).memory :=
  laidMetH_of_parts3 (fuel := 8) (laidMet_of_run' 8 (by kernel_rfl) (by kernel_rfl)) (by kernel_rfl) (by kernel_rfl)
section
variable {H : Type} {enc : TypeId × Value → H} {P : Program} {w : World} {base : Nat} {spare : Nat → Bool} {held : Bool}
theorem open_slice_fields {t e : TypeId} {fs : Array Field} {fuel : Nat} {cs : List Value} {x : DataW H × List MemPlace} (ht : P.underlying t = some (.slice e)) (he : P.underlying e = some (.struct fs))
    (hone : oneCellFields P fs = true) (hC : P.cellsOf e = fs.size) (h : DataW.trod enc P w base spare held fuel t cs = some x) :
    (cs = [.slice none 0 0] ∧ x = (.nil, [])) ∨
    ∃ (a : Addr) (len cap m : Nat) (D : Nat → DataW H) (Pl : Nat → List MemPlace), cs = [.slice (some a) len cap] ∧ base ≤ a.block ∧ len ≤ cap ∧ cap ≤ maxLen ∧ m = (if spare a.block then cap else len) ∧
      x = (.slice ((List.range len).map D) ((List.range (m - len)).map fun j => D (len + j)), MemPlace.row a (m * fs.size) ++ (List.range m).flatMap Pl) ∧
      ∀ i, i < m → ∃ (ys : List (DataW H × List MemPlace)) (n : Nat), D i = .agg (ys.map (·.1)) ∧ Pl i = ys.flatMap (·.2) ∧ ys.length = fs.size ∧
        ∀ (j : Nat) (f : Field), fs[j]? = some f → ∃ (v : Value) (y : DataW H × List MemPlace), w.cell? (a.add (i * fs.size + j)) = some v ∧ ys[j]? = some y ∧ DataW.trod enc P w base spare held n f.type [v] = some y := by
  rcases open_slice ht h with h0 | ⟨a, len, cap, m, n, D, Pl, hcs, hb, hl, hm, hmm, hx, hi⟩
  · exact .inl h0
  · refine .inr ⟨a, len, cap, m, D, Pl, hcs, hb, hl, hm, hmm, by rw [hC] at hx; exact hx, fun i him => ?_⟩
    obtain ⟨cs', hc, ht'⟩ := hi i him
    rw [hC] at hc
    obtain ⟨ys, n', hn', hy, hlen, hyl, hf⟩ := DataW.trod_struct he ht'
    obtain ⟨_, hcl, hat⟩ := World.cells?_some hc
    simp only [Prod.mk.injEq] at hy
    refine ⟨ys, n', hy.1, hy.2, hyl, fun j f hj => ?_⟩
    obtain ⟨ho, hk⟩ := hone_of hone j f hj
    have hjl : j < fs.size := (Array.getElem?_eq_some_iff.1 hj).1
    have hcell := hat j hjl
    have hv : cs'[j]? = some (cs'[j]'(by omega)) := List.getElem?_eq_getElem (by omega)
    have h1 := hf j f hj
    rw [ho, hk] at h1
    have hone' : (cs'.drop j).take 1 = [cs'[j]'(by omega)] := by
      rw [List.drop_eq_getElem_cons (by omega)]
      rfl
    rw [hone'] at h1
    have hys : ys[j]? = some (ys[j]'(by omega)) := List.getElem?_eq_getElem (by omega)
    refine ⟨_, _, ?_, hys, h1.trans hys⟩
    rw [← Go.Deep.add_add, hcell, hv]
end
section
variable {H : Type} {enc : TypeId × Value → H} {w : World} {base : Nat} {spare : Nat → Bool} {held : Bool}
theorem trod_i64 {cs : List Value} {fuel : Nat} {x : DataW H × List MemPlace} (h : DataW.trod enc Tryd.prog w base spare held fuel 3 cs = some x) : ∃ n, cs = [.int .i64 n] ∧ -9223372036854775808 ≤ n ∧ n ≤ 9223372036854775807 := by
  obtain ⟨n, h1, _, hw⟩ := DataW.trod_int Tryd.underlying3 h
  exact ⟨n, h1, bounds_i64 hw⟩
theorem trod_u32 {cs : List Value} {fuel : Nat} {x : DataW H × List MemPlace} (h : DataW.trod enc Tryd.prog w base spare held fuel 32 cs = some x) : ∃ n, cs = [.int .u32 n] ∧ 0 ≤ n ∧ n ≤ 4294967295 := by
  obtain ⟨n, h1, _, hw⟩ := DataW.trod_int Tryd.underlying32 h
  exact ⟨n, h1, bounds_u32 hw⟩
theorem blk_of_cell {w : World} {b off : Nat} {v : Value} (h : w.cell? ⟨b, off, none⟩ = some v) : b < w.heap.size := by
  unfold World.cell? at h
  split at h
  · rename_i h'; exact blk_lt h'
  · cases h
theorem trod_objs {v : Value} {fuel : Nat} {y : DataW H × List MemPlace} (h : DataW.trod enc Tryd.prog w base spare held fuel 22 [v] = some y) : ∃ A n cn f, v = .slice A n cn ∧ Objs w A n f ∧ n ≤ cn ∧ ∀ i, i < n → -9223372036854775808 ≤ (f i).n ∧ (f i).n ≤ 9223372036854775807 := by
  rcases open_slice_fields Tryd.underlying22 Tryd.underlying48 (by kernel_rfl) (by kernel_rfl) h with ⟨e, _⟩ | ⟨a, len, cap, m, D, Pl, e, hb, hl, hm, hmm, hx, hi⟩
  · have e' : v = .slice none 0 0 := by simpa using e
    subst e'
    exact ⟨_, _, _, fun _ => ⟨0, 0, 0, 0⟩, rfl, fun h => absurd h (by omega), Nat.le_refl _, fun i hi => absurd hi (by omega)⟩
  · have e' : v = .slice (some a) len cap := by simpa using e
    subst e'
    have hml : len ≤ m := by rw [hmm]; split <;> omega
    have hc' : ∀ i, ∃ x : O, i < len → (w.cell? (a.add (i * 4 + 0)) = some (.int .i64 x.k) ∧ w.cell? (a.add (i * 4 + 1)) = some (.int .i64 x.n) ∧ w.cell? (a.add (i * 4 + 2)) = some (.int .i64 x.a) ∧ w.cell? (a.add (i * 4 + 3)) = some (.int .i64 x.b)) ∧ -9223372036854775808 ≤ x.n ∧ x.n ≤ 9223372036854775807 := fun i => by
      by_cases hil : i < len
      · obtain ⟨ys, n, _, _, _, hfld⟩ := hi i (by omega)
        obtain ⟨v0, y0, c0, _, t0⟩ := hfld 0 _ rfl
        obtain ⟨k0, e0, r0⟩ := trod_i64 t0
        simp only [List.cons.injEq, and_true] at e0
        subst e0
        obtain ⟨v1, y1, c1, _, t1⟩ := hfld 1 _ rfl
        obtain ⟨k1, e1, r1⟩ := trod_i64 t1
        simp only [List.cons.injEq, and_true] at e1
        subst e1
        obtain ⟨v2, y2, c2, _, t2⟩ := hfld 2 _ rfl
        obtain ⟨k2, e2, r2⟩ := trod_i64 t2
        simp only [List.cons.injEq, and_true] at e2
        subst e2
        obtain ⟨v3, y3, c3, _, t3⟩ := hfld 3 _ rfl
        obtain ⟨k3, e3, r3⟩ := trod_i64 t3
        simp only [List.cons.injEq, and_true] at e3
        subst e3
        exact ⟨⟨k0, k1, k2, k3⟩, fun _ => ⟨⟨c0, c1, c2, c3⟩, r1⟩⟩
      · exact ⟨⟨0, 0, 0, 0⟩, fun h => absurd h hil⟩
    obtain ⟨g, hg⟩ := Classical.axiomOfChoice hc'
    refine ⟨_, _, _, g, rfl, fun hn => ?_, hl, fun i hil => (hg i hil).2⟩
    obtain ⟨b, off, spot⟩ := a
    obtain ⟨⟨z0, _, _, _⟩, _⟩ := hg 0 hn
    have hspot : spot = none := by simpa [Addr.add] using World.cell?_spot z0
    subst hspot
    refine ⟨b, off, rfl, ?_, fun i hil => ?_⟩
    · simp only [add_off] at z0; exact blk_of_cell z0
    · have h := (hg i hil).1
      simp only [add_off, Nat.add_zero, ← Nat.add_assoc] at h
      exact h
theorem trod_u8s1 {v : Value} {fuel : Nat} {y : DataW H × List MemPlace} (h : DataW.trod enc Tryd.prog w base spare held fuel 51 [v] = some y) : ∃ (A : Option Addr) (n cn : Nat), v = .slice A n cn ∧ n ≤ cn ∧ (0 < n → ∃ b off, A = some ⟨b, off, none⟩ ∧ b < w.heap.size ∧ ∀ i, i < n → ∃ u fuel y, w.cell? ⟨b, off + i, none⟩ = some u ∧ DataW.trod enc Tryd.prog w base spare held fuel 5 [u] = some y) := by
  have hC : Tryd.prog.cellsOf 5 = 1 := by kernel_rfl
  rcases open_slice Tryd.underlying51 h with ⟨e, _⟩ | ⟨a, len, cap, m, n, D, Pl, e, hb, hl, hm, hmm, hx, hi⟩
  · have e' : v = .slice none 0 0 := by simpa using e
    subst e'
    exact ⟨_, _, _, rfl, Nat.le_refl _, fun h => absurd h (by omega)⟩
  · have e' : v = .slice (some a) len cap := by simpa using e
    subst e'
    have hml : len ≤ m := by rw [hmm]; split <;> omega
    have hc' : ∀ i, i < len → ∃ u fuel y, w.cell? (a.add i) = some u ∧ DataW.trod enc Tryd.prog w base spare held fuel 5 [u] = some y := fun i hil => by
      obtain ⟨cs', hc, ht'⟩ := hi i (by omega)
      rw [hC, Nat.mul_one] at hc
      obtain ⟨_, hcl, hat⟩ := World.cells?_some hc
      have h0 := hat 0 (by omega)
      have hcs : cs' = [cs'[0]'(by omega)] := by
        match cs', hcl with
        | [u], _ => rfl
      rw [hcs] at ht'
      refine ⟨cs'[0]'(by omega), _, _, ?_, ht'⟩
      rw [← List.getElem?_eq_getElem (by omega), ← h0, Go.Deep.add_add, Nat.add_zero]
    refine ⟨_, _, _, rfl, hl, fun hn => ?_⟩
    obtain ⟨b, off, spot⟩ := a
    obtain ⟨u, _, _, z0, _⟩ := hc' 0 hn
    have hspot : spot = none := by simpa [Addr.add] using World.cell?_spot z0
    subst hspot
    refine ⟨b, off, rfl, ?_, fun i hil => ?_⟩
    · simp only [add_off] at z0; exact blk_of_cell z0
    · have h := hc' i hil
      simp only [add_off] at h
      exact h
theorem open_u8s {r : Reach} {b0 : Nat} {v : Value} {d : DataW H} {ps : List MemPlace} (hv : Value.okWide Tryd.prog w r b0 51 v) (h : DataW.Trod enc Tryd.prog w base spare held 51 v d ps) : ∃ V n c f, v = .slice V n c ∧ U8s w V n f := by
  obtain ⟨a0, len0, cap0, rfl⟩ := okWide_slice Tryd.underlying51 hv
  obtain ⟨fuel, hf⟩ := h
  obtain ⟨A, n, cn, e, _, hW⟩ := trod_u8s1 (v := .slice a0 len0 cap0) hf
  cases e
  by_cases h0 : 0 < len0
  · obtain ⟨b, off, e, hb, hc⟩ := hW h0
    have hc' : ∀ i, ∃ k : Int, i < len0 → w.cell? ⟨b, off + i, none⟩ = some (.int .u8 k) ∧ 0 ≤ k ∧ k ≤ 255 := fun i => by
      by_cases hi : i < len0
      · obtain ⟨u, fu, y, c, tt⟩ := hc i hi
        obtain ⟨k, ek, _, hw⟩ := DataW.trod_int Tryd.underlying5 tt
        simp only [List.cons.injEq, and_true] at ek
        subst ek
        exact ⟨k, fun _ => ⟨c, bounds_u8 hw⟩⟩
      · exact ⟨0, fun h => absurd h hi⟩
    obtain ⟨g, hg⟩ := Classical.axiomOfChoice hc'
    exact ⟨_, _, _, g, rfl, fun _ => ⟨b, off, e, hb, fun i hi => hg i hi⟩⟩
  · exact ⟨_, _, _, fun _ => 0, rfl, fun h => absurd h h0⟩
end
end Go.Proofs.YtobkonbpcnmgpaaDoor
