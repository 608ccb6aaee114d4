/- May a thread ask: spin.May. -/
import Derived.Test.YtobkonbpcnmgpaaDoorRw
import Derived.Test.YtobkonbpcnmgpaaDoorOCalls
namespace Go.Proofs.YtobkonbpcnmgpaaDoor
open Go.RowKit
set_option linter.unusedVariables false
set_option linter.unusedSimpArgs false
def IntsF (w : World) (A : Option Addr) (n : Nat) (f : Nat → Int) : Prop :=
  0 < n → ∃ b off, A = some ⟨b, off, none⟩ ∧ b < w.heap.size ∧ ∀ i, i < n → w.cell? ⟨b, off + i, none⟩ = some (.int .i64 (f i))
theorem IntsF.below {w w' : World} {A : Option Addr} {n : Nat} {f : Nat → Int} (h : IntsF w A n f) (hb : Below w.heap.size w w') : IntsF w' A n f := fun hn => by
  obtain ⟨b, off, e, hlt, hc⟩ := h hn
  exact ⟨b, off, e, Nat.lt_of_lt_of_le hlt hb.size, fun i hi => (hb.cell (p := ⟨b, off + i, none⟩) hlt).trans (hc i hi)⟩
theorem ints_ptr {w : World} {A : Option Addr} {n : Nat} {f : Nat → Int} (h : IntsF w A n f) (hn : 0 < n) : ∃ b off, A = some ⟨b, off, none⟩ := by
  obtain ⟨b, off, e, _⟩ := h hn; exact ⟨b, off, e⟩
theorem at_int {w : World} {b off n : Nat} {f : Nat → Int} {i : Nat} (h : IntsF w (some ⟨b, off, none⟩) n f) (hi : i < n) : w.cell? ⟨b, off + i, none⟩ = some (.int .i64 (f i)) := by
  obtain ⟨b', off', e, hlt, hc⟩ := h (by omega)
  cases e
  exact hc i hi
/-- may a call be asked of a kind -/
def may (k c : Int) : Bool := (callsN (kdN k)).any fun j => (j : Int) == c
def gF (L : List Nat) (i : Nat) : Int := ((L.getD i 0 : Nat) : Int)
theorem ints_of {w : World} {V : Option Addr} {n : Nat} {l : List Nat} (h : Ints w V n l) : IntsF w V n (gF l) := h
theorem may_t {k c : Int} {i : Nat} (h : i < (callsN (kdN k)).length) (e : gF (callsN (kdN k)) i = c) : may k c = true := by
  unfold may
  rw [List.any_eq_true]
  refine ⟨(callsN (kdN k))[i], List.getElem_mem h, ?_⟩
  unfold gF at e
  rw [List.getD_eq_getElem?_getD, List.getElem?_eq_getElem h, Option.getD_some] at e
  simp [e]
theorem may_f {k c : Int} (h : ∀ i, i < (callsN (kdN k)).length → gF (callsN (kdN k)) i ≠ c) : may k c = false := by
  unfold may
  rw [List.any_eq_false]
  intro x hx
  obtain ⟨i, hi, rfl⟩ := List.getElem_of_mem hx
  have := h i hi
  unfold gF at this
  rw [List.getD_eq_getElem?_getD, List.getElem?_eq_getElem hi, Option.getD_some] at this
  simpa using this
theorem callsN_le : ∀ k, k < 16 → (callsN k).length ≤ 4 := by decide +kernel
def mayS (o : O) (call threads who : Int) : Bool := if 0 ≤ who ∧ who < threads ∧ rb o threads = true then may o.k call else false
set_option maxRecDepth 100000 in
set_option maxHeartbeats 4000000 in
theorem spinMay (o : O) (call threads who : Int) (w : World) (hN : NmW w) : Calls Tryd.prog 19 #[ov o, .int .i64 call, .int .i64 threads, .int .i64 who] w fun e w' => e = .returned (.bool (mayS o call threads who)) ∧ Below w.heap.size w w' := by
  obtain ⟨ok, on, oa, ob⟩ := o
  by_cases h0 : who < 0
  · rw [show mayS ⟨ok, on, oa, ob⟩ call threads who = false from if_neg (by omega)]
    unfold ov
    have hal := (Below.refl w.heap.size w).alloc (Nat.le_refl _) (.cells #[.int .i64 ok, .int .i64 on, .int .i64 oa, .int .i64 ob] 48)
    go_enter Tryd.func19, Tryd.ntmps19
    go_wp2
    go_ret
    exact ⟨rfl, hal⟩
  by_cases h1 : threads ≤ who
  · rw [show mayS ⟨ok, on, oa, ob⟩ call threads who = false from if_neg (by omega)]
    unfold ov
    have hal := (Below.refl w.heap.size w).alloc (Nat.le_refl _) (.cells #[.int .i64 ok, .int .i64 on, .int .i64 oa, .int .i64 ob] 48)
    go_enter Tryd.func19, Tryd.ntmps19
    go_wp2
    go_ret
    exact ⟨rfl, hal⟩
  obtain ⟨B, hB⟩ : ∃ B, Hid (mayS ⟨ok, on, oa, ob⟩ call threads who = B) := ⟨_, rfl⟩
  rw [hB.out]
  have hB : Hid (B = if rb ⟨ok, on, oa, ob⟩ threads = true then may ok call else false) := by
    show B = _
    rw [← hB.out]; unfold mayS
    by_cases hr : rb ⟨ok, on, oa, ob⟩ threads = true
    · rw [if_pos ⟨by omega, by omega, hr⟩, if_pos hr]
    · rw [if_neg (fun h => hr h.2.2), if_neg hr]
  have hR := fun w' (hh : Below w.heap.size w w') => objRight ⟨ok, on, oa, ob⟩ threads w' (hN.below hh)
  have hmt := fun j hj hb => may_t (k := ok) (c := call) (i := j) hj hb
  have hmf := may_f (k := ok) (c := call)
  have hle := callsN_le (kdN ok) (kdN_lt _)
  generalize may ok call = q at *
  generalize rb ⟨ok, on, oa, ob⟩ threads = rbv at *
  unfold ov at *
  go_enter Tryd.func19, Tryd.ntmps19
  go_upto_region 1 with (fail)
  obtain ⟨W, b1, e0, e1, X1, hal⟩ := box1 w #[.int .i64 ok, .int .i64 on, .int .i64 oa, .int .i64 ob] 48
  rw [e0, e1]
  clear e0 e1
  have y0 := cell_of_row W b1 0 _ 48 _ X1
  have y1 := cell_of_row W b1 1 _ 48 _ X1
  have y2 := cell_of_row W b1 2 _ 48 _ X1
  have y3 := cell_of_row W b1 3 _ 48 _ X1
  go_wp2_with fail
  refine (hR W hal).mono ?_
  rintro e w1 ⟨rfl, hb1⟩
  clear y0 y1 y2 y3 hR
  replace X1 := keep X1 hb1
  replace hal := hal.trans (hb1.mono hal.size)
  have y0 := cell_of_row w1 b1 0 _ 48 _ X1
  cases rbv
  · obtain rfl : B = false := hB.out
    clear hmt hmf hB
    go_wp2
    go_ret
    exact ⟨rfl, hal⟩
  obtain rfl : B = q := hB.out
  clear hB
  go_wp2_with fail
  refine (objCalls ok w1 (hN.below hal)).mono ?_
  rintro e w6 ⟨Vp, cp, rfl, hI, hb6⟩
  have hal6 := hal.trans (hb6.mono hal.size)
  replace hI := ints_of hI
  generalize callsN (kdN ok) = L at *
  generalize gF L = gg at *
  generalize hm : L.length = m at *
  clear y0 hb6 X1 hal
  go_upto_region 4 with (fail)
  go_loopw [28] (fun v wr => ∃ j : Nat, v = .int .i64 j ∧ j ≤ m ∧ (∀ p, p < j → gg p ≠ call) ∧ wr = w6) (fun v _ => m - (intOf v).toNat)
  case atStart => exact ⟨0, rfl, Nat.zero_le _, fun p hp => absurd hp (by omega), rfl⟩
  case round =>
    obtain ⟨j, rfl, hj, hno, rfl⟩ := hrel
    by_cases hlt : j < m
    · have hj0 : (0 : Int) ≤ j := by omega
      have hj1 : (j : Int) < m := by omega
      obtain ⟨bV, oV, rfl, hV, hcV⟩ := hI (by omega)
      have c := hcV j hlt
      by_cases he : gg j = call
      · obtain rfl : B = true := hmt j hlt he
        have qe : (gg j == call) = true := by simp [he]
        clear hmt hmf hI hcV hno he
        go_wp2
        go_ret
        exact ⟨rfl, hal6⟩
      · have qe : (gg j == call) = false := by simp [he]
        have hno' : ∀ p, p < j + 1 → gg p ≠ call := fun p hp => by
          rcases Nat.lt_succ_iff_lt_or_eq.1 hp with h | rfl
          · exact hno p h
          · exact he
        clear hmt hmf he hno
        go_wp2
        go_roundw
        case rel => exact ⟨j + 1, by go_num, by omega, show (∀ p, p < j + 1 → gg p ≠ call) from hno', by first | rfl | trivial⟩
        case measure => simp [intOf]; omega
    · obtain rfl : j = m := by omega
      obtain rfl : B = false := hmf hno
      clear hmt hmf hno
      have hj1 : ¬ (j : Int) < j := by omega
      go_wp2
      go_ret
      exact ⟨rfl, hal6⟩
end Go.Proofs.YtobkonbpcnmgpaaDoor
