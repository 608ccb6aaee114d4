/- Arguments of the type [8]uint32. -/
import Derived.Test.YtfnaoaejbpeelaaRows
import Derived.Test.YtfnaoaejbpeelaaFns
import Derived.Test.YtfnaoaejbpeelaaLift
namespace Go.Proofs.Ytfnaoaejbpeelaa
open Go.ChangeShapes Go.WideShapes Go.ChangeAt Go.RowKit
set_option linter.unusedVariables false

theorem array8 {α : Type} {l : List α} (h : l.length = 8) : ∃ c0 c1 c2 c3 c4 c5 c6 c7, l = [c0, c1, c2, c3, c4, c5, c6, c7] := by
  match l, h with
  | [c0, c1, c2, c3, c4, c5, c6, c7], _ => exact ⟨c0, c1, c2, c3, c4, c5, c6, c7, rfl⟩

section
variable {P : Program} {t : TypeId} {w : World} {r : Reach} {base : Nat} {v : Value}
theorem okWide_array {n : Nat} {e : TypeId} (ht : P.underlying t = some (.array n e)) (h : Value.okWide P w r base t v) : ∃ cs, v = .agg cs ∧ cs.size = P.cellsOf t := by
  simp only [Value.okWide, ht] at h
  obtain ⟨cs, h1, h2, _⟩ := h
  exact ⟨cs, h1, h2⟩
end
section
variable {H : Type} {enc : TypeId × Value → H} {w : World} {base : Nat} {spare : Nat → Bool} {held : Bool}
/-- An argument of the type [8]uint32. -/
theorem open_vc {r : Reach} {b0 : Nat} {v : Value} {d : DataW H} {ps : List MemPlace} (hv : Value.okWide Try.prog w r b0 23 v) (h : DataW.Trod enc Try.prog w base spare held 23 v d ps) :
    ∃ f : Nat → Int, v = .agg (vc f) ∧ ∀ i, i < 8 → 0 ≤ f i ∧ f i < 4294967296 := by
  obtain ⟨cs, rfl, hsz⟩ := okWide_array Try.underlying23 hv
  obtain ⟨n, hf⟩ := h
  obtain ⟨xs, m, _, hx, hlen, hxl, hi⟩ := DataW.trod_array Try.underlying23 hf
  have hc : Try.prog.cellsOf 22 = 1 := by kernel_rfl
  have hc23 : Try.prog.cellsOf 23 = 8 := by kernel_rfl
  rw [hc23] at hsz
  have e1 : ∀ i (h : i < 8), ∃ z : Int, cs[i]'(by omega) = .int .u32 z ∧ 0 ≤ z ∧ z < 4294967296 := by
    intro i hi8
    have h1 := hi i hi8
    rw [hc, Nat.mul_one] at h1
    have hone : ((Value.agg cs).cells.toList.drop i).take 1 = [cs[i]'(by omega)] := by
      show (cs.toList.drop i).take 1 = _
      rw [List.drop_eq_getElem_cons (by simpa using by omega)]; rfl
    rw [hone, List.getElem?_eq_getElem (by omega)] at h1
    obtain ⟨z, hz, _, hwf⟩ := DataW.trod_int Try.underlying22 h1
    refine ⟨z, by simpa using hz, ?_⟩
    simp only [Lit.wf, IntKind.min, IntKind.max, IntKind.signed, IntKind.bits, Bool.and_eq_true] at hwf
    simp at hwf
    omega
  refine ⟨fun i => if h : i < 8 then (match cs[i]'(by omega) with | .int _ z => z | _ => 0) else 0, ?_, ?_⟩
  · congr 1
    obtain ⟨l⟩ := cs
    obtain ⟨c0, c1, c2, c3, c4, c5, c6, c7, rfl⟩ := array8 (l := l) (by simpa using hsz)
    obtain ⟨z0, r0, -⟩ := e1 0 (by omega); obtain ⟨z1, r1, -⟩ := e1 1 (by omega); obtain ⟨z2, r2, -⟩ := e1 2 (by omega); obtain ⟨z3, r3, -⟩ := e1 3 (by omega)
    obtain ⟨z4, r4, -⟩ := e1 4 (by omega); obtain ⟨z5, r5, -⟩ := e1 5 (by omega); obtain ⟨z6, r6, -⟩ := e1 6 (by omega); obtain ⟨z7, r7, -⟩ := e1 7 (by omega)
    simp at r0 r1 r2 r3 r4 r5 r6 r7
    subst r0 r1 r2 r3 r4 r5 r6 r7
    simp [vc]
  · intro i h
    obtain ⟨z, e, hz⟩ := e1 i h
    simp only [h, dif_pos, e]
    exact hz
end

theorem own : ownKnob Try.prog.godebug = none := by kernel_rfl
theorem laid : laidOutB Try.prog = true := by kernel_rfl
end Go.Proofs.Ytfnaoaejbpeelaa
