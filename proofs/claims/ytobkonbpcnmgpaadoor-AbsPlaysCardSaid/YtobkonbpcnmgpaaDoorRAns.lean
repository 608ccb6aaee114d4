/- What the reference answers. -/
import Derived.Test.YtobkonbpcnmgpaaDoorRBar
namespace Go.Proofs.YtobkonbpcnmgpaaDoor
open Go.RowKit
set_option linter.unusedVariables false
set_option linter.unusedSimpArgs false
structure RB where
  r : Int
  ok : Bool
  dn : Nat
def AnsR (w' : World) (p : RB) (dat : Nat → Int) (e : Ending) : Prop := ∃ V c, e = .returned (refV p.r V p.dn c p.ok) ∧ DatA w' V p.dn dat
theorem AnsR.no {w' : World} {r : Int} {ok : Bool} {dat : Nat → Int} : AnsR w' ⟨r, ok, 0⟩ dat (.returned (refV r none 0 0 ok)) := ⟨none, 0, rfl, DatA.zero⟩
def semR (on oa a2 a1 c : Int) : RB := if c = 2 then (if on + a2 - a1 = oa then ⟨3, true, 0⟩ else ⟨0, true, 0⟩) else if on + a2 - a1 = 0 then ⟨0, false, 0⟩ else ⟨0, true, 0⟩
def lockR (h q c : Int) : RB := if c = 1 then (if h = q then ⟨1, true, 0⟩ else if 0 ≤ h then ⟨0, false, 0⟩ else ⟨0, true, 0⟩) else if h = q then ⟨0, true, 0⟩ else ⟨2, true, 0⟩
def onceR (h q c a : Int) : RB := if c = 10 then (if h = q then ⟨0, true, 0⟩ else ⟨2, true, 0⟩) else if h = q then ⟨1, true, 0⟩ else if 0 < a then ⟨0, true, 0⟩ else if 0 ≤ h then ⟨0, false, 0⟩ else ⟨5, true, 0⟩
def rwR (h q c : Int) (rq busy : Bool) : RB := if c = 2 then (if h = q then ⟨0, true, 0⟩ else if rq = true then ⟨0, true, 0⟩ else ⟨2, true, 0⟩) else if h = q then ⟨1, true, 0⟩ else if rq = true then ⟨1, true, 0⟩ else if busy = true then ⟨0, false, 0⟩ else ⟨0, true, 0⟩
def busyR (t ob c : Int) (f : Nat → Stp) (m : Nat) : Bool := (List.range t.toNat).any fun q => decide (ownN ob f m = (q : Int)) || (decide (c = 1) && rdsN ob q f m)
theorem busy_t {t ob c : Int} {f : Nat → Stp} {m q : Nat} (hq : (q : Int) < t) (h : ownN ob f m = q ∨ (c = 1 ∧ rdsN ob q f m = true)) : busyR t ob c f m = true := by
  unfold busyR; rw [List.any_eq_true]; refine ⟨q, List.mem_range.2 (by omega), ?_⟩
  rcases h with h | ⟨h1, h2⟩
  · simp [h]
  · simp [h1, h2]
theorem busy_f {t ob c : Int} {f : Nat → Stp} {m : Nat} (h : ∀ q : Nat, (q : Int) < t → ownN ob f m ≠ q ∧ (c = 1 → rdsN ob q f m = false)) : busyR t ob c f m = false := by
  unfold busyR; rw [List.any_eq_false]; intro q hq
  obtain ⟨h1, h2⟩ := h q (by have := List.mem_range.1 hq; omega)
  by_cases hc : c = 1
  · simp [h1, h2 hc]
  · simp [h1, hc]
def refG (t : Int) (o : O) (f : Nat → Stp) (m : Nat) (x : Ak) : RB :=
  if o.k = 13 then ⟨(barR o f m x).r, (barR o f m x).ok, 0⟩
  else if x.part ≠ 0 then ⟨0, false, 0⟩
  else if x.call = 4 ∧ (2 < x.arg ∨ o.n ≤ x.arg) then ⟨0, false, 0⟩
  else if o.k = 12 then ⟨0, true, 0⟩
  else if o.k = 11 then semR o.n o.a (manN x.obj 2 0 (-1) f m) (manN x.obj 1 0 (-1) f m) x.call
  else if (o.k = 6 ∨ o.k = 7) ∧ x.who ≠ o.a ∧ x.who ≠ o.b then ⟨4, true, 0⟩
  else if o.k = 9 ∧ x.call = 3 then ⟨0, true, o.n.toNat⟩
  else if o.k = 14 then rwR (ownN x.obj f m) x.who x.call (rdsN x.obj x.who f m) (busyR t x.obj x.call f m)
  else if o.k = 15 then onceR (ownN x.obj f m) x.who x.call (manN x.obj 10 0 (-1) f m)
  else lockR (ownN x.obj f m) x.who x.call
def refR (t : Int) (n : Nat) (fO : Nat → O) (f : Nat → Stp) (m : Nat) (x : Ak) : RB :=
  if 0 ≤ x.obj ∧ x.obj < n then (if mayS (fO x.obj.toNat) x.call t x.who = true then refG t (fO x.obj.toNat) f m x else ⟨0, false, 0⟩) else ⟨0, false, 0⟩
section
variable {t : Int} {o : O} {f : Nat → Stp} {m : Nat} {x : Ak}
theorem refG_13 (h : o.k = 13) : refG t o f m x = ⟨(barR o f m x).r, (barR o f m x).ok, 0⟩ := by unfold refG; rw [if_pos h]
theorem refG_p (h : o.k ≠ 13) (hp : x.part ≠ 0) : refG t o f m x = ⟨0, false, 0⟩ := by unfold refG; rw [if_neg h, if_pos hp]
theorem refG_4 (h : o.k ≠ 13) (hp : x.part = 0) (h4 : x.call = 4 ∧ (2 < x.arg ∨ o.n ≤ x.arg)) : refG t o f m x = ⟨0, false, 0⟩ := by unfold refG; rw [if_neg h, if_neg (fun h => h hp), if_pos h4]
theorem refG_1 (h : o.k ≠ 13) (hp : x.part = 0) (h4 : ¬ (x.call = 4 ∧ (2 < x.arg ∨ o.n ≤ x.arg))) : refG t o f m x = if o.k = 12 then ⟨0, true, 0⟩
      else if o.k = 11 then semR o.n o.a (manN x.obj 2 0 (-1) f m) (manN x.obj 1 0 (-1) f m) x.call
      else if (o.k = 6 ∨ o.k = 7) ∧ x.who ≠ o.a ∧ x.who ≠ o.b then ⟨4, true, 0⟩
      else if o.k = 9 ∧ x.call = 3 then ⟨0, true, o.n.toNat⟩
      else if o.k = 14 then rwR (ownN x.obj f m) x.who x.call (rdsN x.obj x.who f m) (busyR t x.obj x.call f m)
      else if o.k = 15 then onceR (ownN x.obj f m) x.who x.call (manN x.obj 10 0 (-1) f m)
      else lockR (ownN x.obj f m) x.who x.call := by
  unfold refG; rw [if_neg h, if_neg (fun h => h hp), if_neg h4]
theorem refG_12 (h : o.k ≠ 13) (hp : x.part = 0) (h4 : ¬ (x.call = 4 ∧ (2 < x.arg ∨ o.n ≤ x.arg))) (k : o.k = 12) : refG t o f m x = ⟨0, true, 0⟩ := by rw [refG_1 h hp h4, if_pos k]
theorem refG_11 (h : o.k ≠ 13) (hp : x.part = 0) (h4 : ¬ (x.call = 4 ∧ (2 < x.arg ∨ o.n ≤ x.arg))) (k : o.k = 11) : refG t o f m x = semR o.n o.a (manN x.obj 2 0 (-1) f m) (manN x.obj 1 0 (-1) f m) x.call := by
  rw [refG_1 h hp h4, if_neg (show ¬ o.k = 12 by omega), if_pos k]
theorem refG_67 (h : o.k ≠ 13) (hp : x.part = 0) (h4 : ¬ (x.call = 4 ∧ (2 < x.arg ∨ o.n ≤ x.arg))) (k : o.k = 6 ∨ o.k = 7) (w : x.who ≠ o.a ∧ x.who ≠ o.b) : refG t o f m x = ⟨4, true, 0⟩ := by
  rw [refG_1 h hp h4, if_neg (show ¬ o.k = 12 by omega), if_neg (show ¬ o.k = 11 by omega), if_pos ⟨k, w⟩]
theorem refG_93 (h : o.k ≠ 13) (hp : x.part = 0) (h4 : ¬ (x.call = 4 ∧ (2 < x.arg ∨ o.n ≤ x.arg))) (k : o.k = 9) (c : x.call = 3) : refG t o f m x = ⟨0, true, o.n.toNat⟩ := by
  rw [refG_1 h hp h4, if_neg (show ¬ o.k = 12 by omega), if_neg (show ¬ o.k = 11 by omega), if_neg (show ¬ ((o.k = 6 ∨ o.k = 7) ∧ x.who ≠ o.a ∧ x.who ≠ o.b) by omega), if_pos ⟨k, c⟩]
theorem refG_14 (h : o.k ≠ 13) (hp : x.part = 0) (h4 : ¬ (x.call = 4 ∧ (2 < x.arg ∨ o.n ≤ x.arg))) (k : o.k = 14) : refG t o f m x = rwR (ownN x.obj f m) x.who x.call (rdsN x.obj x.who f m) (busyR t x.obj x.call f m) := by
  rw [refG_1 h hp h4, if_neg (show ¬ o.k = 12 by omega), if_neg (show ¬ o.k = 11 by omega), if_neg (show ¬ ((o.k = 6 ∨ o.k = 7) ∧ x.who ≠ o.a ∧ x.who ≠ o.b) by omega), if_neg (show ¬ (o.k = 9 ∧ x.call = 3) by omega), if_pos k]
theorem refG_15 (h : o.k ≠ 13) (hp : x.part = 0) (h4 : ¬ (x.call = 4 ∧ (2 < x.arg ∨ o.n ≤ x.arg))) (k : o.k = 15) : refG t o f m x = onceR (ownN x.obj f m) x.who x.call (manN x.obj 10 0 (-1) f m) := by
  rw [refG_1 h hp h4, if_neg (show ¬ o.k = 12 by omega), if_neg (show ¬ o.k = 11 by omega), if_neg (show ¬ ((o.k = 6 ∨ o.k = 7) ∧ x.who ≠ o.a ∧ x.who ≠ o.b) by omega), if_neg (show ¬ (o.k = 9 ∧ x.call = 3) by omega), if_neg (show ¬ o.k = 14 by omega), if_pos k]
theorem refG_L (h : o.k ≠ 13) (hp : x.part = 0) (h4 : ¬ (x.call = 4 ∧ (2 < x.arg ∨ o.n ≤ x.arg))) (k12 : o.k ≠ 12) (k11 : o.k ≠ 11) (w : ¬ ((o.k = 6 ∨ o.k = 7) ∧ x.who ≠ o.a ∧ x.who ≠ o.b)) (c : ¬ (o.k = 9 ∧ x.call = 3)) (k14 : o.k ≠ 14) (k15 : o.k ≠ 15) : refG t o f m x = lockR (ownN x.obj f m) x.who x.call := by
  rw [refG_1 h hp h4, if_neg k12, if_neg k11, if_neg w, if_neg c, if_neg k14, if_neg k15]
end
end Go.Proofs.YtobkonbpcnmgpaaDoor
