/- The law ObjBases: the walk. -/
import Derived.Test.YtemhcdlhhpckmaaDoorOAwake
namespace Go.Proofs.YtemhcdlhhpckmaaDoor
open Go.RowKit
set_option linter.unusedVariables false
set_option linter.unusedSimpArgs false
theorem upTo_in {n k : Nat} (h : k ≤ n) : upTo n (k : Int) = k := by unfold upTo; omega
set_option maxRecDepth 100000 in
set_option maxHeartbeats 1000000 in
theorem bases_walk (A : Option Addr) (n cn : Nat) (hcn : n ≤ cn) (f : Nat → O) (t i : Int) (w : World) (hA : Objs w A n f) (h : NmW w) :
    Calls Tryd.prog 3 #[.slice A n cn, .int .i64 t, .int .i64 i] w fun e w' => e = .returned (.bool true) ∧ Below w.heap.size w w' := by
  by_cases hn : 60 < n
  · have hn' : (60 : Int) < n := by omega
    go_enter Tryd.func3, Tryd.ntmps3
    go_wp2_with fail
    refine (awake _ h).mono ?_
    rintro e w1 ⟨rfl, hb1⟩
    go_wp2_with fail
    refine (awake _ (h.below hb1)).mono ?_
    rintro e w2 ⟨rfl, hb2⟩
    go_wp2
    go_ret
    exact ⟨rfl, hb1.trans (hb2.mono hb1.size)⟩
  have hn' : ¬ (60 : Int) < n := by omega
  go_enter Tryd.func3, Tryd.ntmps3
  go_wp2_with fail
  refine (awake _ h).mono ?_
  rintro e w1 ⟨rfl, hb1⟩
  replace hA := hA.below hb1
  replace h := h.below hb1
  go_wp2_with fail
  refine (objBase A n cn hcn f (by omega) t i _ hA h).mono ?_
  rintro e w2 ⟨rfl, hb2⟩
  replace hA := hA.below hb2
  replace h := h.below hb2
  replace hb1 : Below w.heap.size w w2 := hb1.trans (hb2.mono hb1.size)
  clear hb2
  go_wp2_with fail
  refine (refBase A n cn f (by omega) t i _ hA).mono ?_
  rintro e w3 ⟨rfl, hb3⟩
  replace hA := hA.below hb3
  replace h := h.below hb3
  replace hb1 : Below w.heap.size w w3 := hb1.trans (hb3.mono hb1.size)
  clear hb3
  have hne : ((bsP f t (upTo n i) : Int) != bsP f t (upTo n i)) = false := by simp
  go_upto_region 7 with (fail)
  clear hne
  go_loopw [7, 8] (fun s k wr => ∃ k' : Nat, k' ≤ n ∧ k = .int .i64 k' ∧ s = .int .i64 (bsP f t k') ∧ Below w3.heap.size w3 wr) (fun _ k _ => n - (intOf k).toNat)
  case atStart => exact ⟨0, by omega, rfl, rfl, Below.refl _ _⟩
  case round =>
    obtain ⟨k, hk, rfl, rfl, hb⟩ := hrel
    by_cases hlt : k < n
    · have hl : (k : Int) < n := by omega
      have hl0 : (0 : Int) ≤ k := by omega
      have hAr := hA.below hb
      have hr := h.below hb
      obtain ⟨b, off, rfl⟩ := objs_ptr hA (by omega)
      have hs1 := bsP_le f t k
      have hs2 := szP_le (f k) t
      go_wp2_with fail
      refine (objBase _ n cn hcn f (by omega) t k _ hAr hr).mono ?_
      rintro e w4 ⟨rfl, hb4⟩
      rw [upTo_in hk]
      replace hAr := hAr.below hb4
      replace hr := hr.below hb4
      replace hb := hb.trans (hb4.mono hb.size)
      clear hb4
      have hne : ((bsP f t k : Int) != bsP f t k) = false := by simp
      obtain ⟨x0, x1, x2, x3⟩ := at_obj hAr (Below.refl _ _) hlt
      go_wp2_with fail
      refine (objSize (f k) t _ hr).mono ?_
      rintro e w5 ⟨rfl, hb5⟩
      replace hb := hb.trans (hb5.mono hb.size)
      have hw : IntKind.i64.wrap ((bsP f t k : Int) + szP (f k) t) = (bsP f t (k + 1) : Nat) := by simp only [bsP, IntKind.wrap_i64]; omega
      go_wp2_with (fail)
      go_roundw
      case rel => exact ⟨k + 1, by omega, by go_num, by simp only [bsP], hb⟩
      case measure => simp [intOf]; omega
    · have hl : ¬ (k : Int) < n := by omega
      have hkn : k = n := by omega
      subst hkn
      go_wp2_with fail
      refine (objBase _ k cn hcn f (by omega) t k _ (hA.below hb) (h.below hb)).mono ?_
      rintro e w4 ⟨rfl, hb4⟩
      rw [upTo_in (Nat.le_refl _)]
      have hee : ((bsP f t k : Int) == bsP f t k) = true := by simp
      go_wp2
      go_ret
      exact ⟨rfl, (hb1.trans (hb.mono hb1.size)).trans (hb4.mono (Nat.le_trans hb1.size hb.size))⟩
end Go.Proofs.YtemhcdlhhpckmaaDoor
