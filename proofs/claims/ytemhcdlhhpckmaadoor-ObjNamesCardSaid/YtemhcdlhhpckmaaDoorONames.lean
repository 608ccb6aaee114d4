/- Names: tables of strings, the place of a name. -/
import Derived.Test.YtemhcdlhhpckmaaDoorOAwake
namespace Go.Proofs.YtemhcdlhhpckmaaDoor
open Go.RowKit
set_option linter.unusedVariables false
set_option linter.unusedSimpArgs false
def cmB : Nat → ByteArray
  | 0 => ⟨#[]⟩
  | 1 => ⟨#[97, 99, 113, 117, 105, 114, 101]⟩
  | 2 => ⟨#[114, 101, 108, 101, 97, 115, 101]⟩
  | 3 => ⟨#[114, 101, 97, 100]⟩
  | 4 => ⟨#[112, 117, 116]⟩
  | 5 => ⟨#[116, 105, 99, 107, 101, 116]⟩
  | 6 => ⟨#[115, 108, 101, 101, 112]⟩
  | 7 => ⟨#[115, 105, 103, 110, 97, 108]⟩
  | 8 => ⟨#[98, 114, 111, 97, 100, 99, 97, 115, 116]⟩
  | 9 => ⟨#[101, 110, 116, 101, 114]⟩
  | 10 => ⟨#[100, 111, 110, 101]⟩
  | _ => ⟨#[]⟩
def CmW (w : World) : Prop := ∀ i : Nat, i < 11 → w.cell? ⟨1, i, none⟩ = some (.string (cmB i))
theorem CmW.pos {w : World} (h : CmW w) : 1 < w.heap.size := by
  have := h 0 (by omega)
  unfold World.cell? at this
  split at this
  · rename_i h'; exact (Array.getElem?_eq_some_iff.1 h').1
  · cases this
theorem CmW.below {w w' : World} (h : CmW w) (hb : Below w.heap.size w w') : CmW w' := fun i hi => (hb.cell (p := ⟨1, i, none⟩) h.pos).trans (h i hi)
def cmOf (k : Int) : ByteArray := if 1 ≤ k ∧ k ≤ 10 then cmB k.toNat else ⟨#[]⟩
def Strs (w : World) (V : Option Addr) (n : Nat) (g : Nat → ByteArray) : Prop :=
  0 < n → ∃ b off, V = some ⟨b, off, none⟩ ∧ b < w.heap.size ∧ ∀ i, i < n → w.cell? ⟨b, off + i, none⟩ = some (.string (g i))
theorem Strs.below {w w' : World} {V : Option Addr} {n : Nat} {g : Nat → ByteArray} (h : Strs w V n g) (hb : Below w.heap.size w w') : Strs w' V n g := fun hn => by
  obtain ⟨b, off, e, hlt, hc⟩ := h hn
  exact ⟨b, off, e, Nat.lt_of_lt_of_le hlt hb.size, fun i hi => (hb.cell (p := ⟨b, off + i, none⟩) hlt).trans (hc i hi)⟩
theorem objCallName (k : Int) (w : World) (h : CmW w) : Calls Tryd.prog 21 #[.int .i64 k] w fun e w' => e = .returned (.string (cmOf k)) ∧ w' = w := by
  unfold cmOf
  by_cases h1 : k < 1
  · rw [if_neg (by omega)]
    go_enter Tryd.func21, Tryd.ntmps21
    go_wp2
    go_ret
    exact ⟨rfl, rfl⟩
  by_cases h2 : k ≥ 11
  · rw [if_neg (by omega)]
    go_enter Tryd.func21, Tryd.ntmps21
    go_wp2
    go_ret
    exact ⟨rfl, rfl⟩
  rw [if_pos (by omega)]
  obtain ⟨k, rfl⟩ : ∃ j : Nat, k = j := ⟨k.toNat, by omega⟩
  have hl0 : (0 : Int) ≤ k := by omega
  have hl1 : (k : Int) < 11 := by omega
  have c := h k (by omega)
  go_enter Tryd.func21, Tryd.ntmps21
  go_wp2
  go_ret
  exact ⟨rfl, rfl⟩
theorem str_ne {s g : ByteArray} (h : ¬ s = g) : (s.toList == g.toList) = false := by
  rw [beq_eq_false_iff_ne]
  intro e
  rw [Go.ByteArray.toList_eq, Go.ByteArray.toList_eq] at e
  exact h (by cases s; cases g; simp only [Array.toList_inj] at e; rw [e])
theorem str_ee (s : ByteArray) : (s.toList == s.toList) = true := by simp
/-- the first place of a name -/
def At (g : Nat → ByteArray) (n : Nat) (s : ByteArray) (r : Int) : Prop := (∃ i : Nat, i < n ∧ r = i ∧ g i = s ∧ ∀ j, j < i → g j ≠ s) ∨ (r = -1 ∧ ∀ j, j < n → g j ≠ s)
set_option maxRecDepth 100000 in
theorem index (V : Option Addr) (n cn : Nat) (hn : n ≤ 4000) (g : Nat → ByteArray) (s : ByteArray) (w : World) (hS : Strs w V n g) :
    Calls Tryd.prog 30 #[.slice V n cn, .string s] w fun e w' => ∃ r, e = .returned (.int .i64 r) ∧ At g n s r ∧ Below w.heap.size w w' := by
  go_enter Tryd.func30, Tryd.ntmps30
  go_upto_region 2 with (fail)
  go_loopw [8] (fun i wr => ∃ k : Nat, k ≤ n ∧ i = .int .i64 k ∧ (∀ j, j < k → g j ≠ s) ∧ Below w.heap.size w wr) (fun i _ => n - (intOf i).toNat)
  case atStart => exact ⟨0, by omega, rfl, fun j h => absurd h (by omega), Below.refl _ _⟩
  case round =>
    obtain ⟨k, hk, rfl, hno, hb⟩ := hrel
    by_cases hlt : k < n
    · have hl : (k : Int) < n := by omega
      have hl0 : (0 : Int) ≤ k := by omega
      obtain ⟨b, off, rfl, hbl, hc⟩ := hS (by omega)
      have c := (hb.cell (p := ⟨b, off + k, none⟩) hbl).trans (hc k hlt)
      clear hc
      by_cases he : g k = s
      · have hr : At g n s k := .inl ⟨k, hlt, rfl, he, hno⟩
        rw [he] at c
        clear he hno
        go_wp2
        go_ret
        first | exact ⟨_, rfl, hr, hb⟩ | exact ⟨hr, hb⟩
      · have hno2 : ∀ j, j < k + 1 → g j ≠ s := fun j hj => by
          by_cases e : j < k
          · exact hno j e
          · have : j = k := by omega
            subst this; exact he
        obtain ⟨gk, hgk⟩ : ∃ x, g k = x := ⟨_, rfl⟩
        rw [hgk] at c he
        have he1 : ¬ s = gk := fun h => he h.symm
        have he2 := str_ne he1
        clear he1
        clear he hgk hno
        go_wp2
        go_roundw
        case rel => exact ⟨k + 1, by omega, by go_num, hno2, hb⟩
        case measure => simp [intOf]; omega
    · have hl : ¬ (k : Int) < n := by omega
      have hkn : k = n := by omega
      subst hkn
      have hr : At g k s (-1) := .inr ⟨rfl, hno⟩
      clear hno
      go_wp2
      go_ret
      first | exact ⟨_, rfl, hr, hb⟩ | exact ⟨hr, hb⟩
/-- the place, and whether it is one -/
def Pl (g : Nat → ByteArray) (n : Nat) (s : ByteArray) (W : Nat) : Prop := W < n ∧ ∀ k, 1 ≤ k → k < n → (g k = s ↔ k = W)
theorem pl_of {g : Nat → ByteArray} {n : Nat} {s : ByteArray} {r : Int} (hn : 0 < n) (hg : ∀ i, i < n → ∀ j, j < n → g i = g j → i = j) (h : At g n s r) : Pl g n s (max r 0).toNat := by
  rcases h with ⟨i, h1, rfl, h3, h4⟩ | ⟨rfl, h2⟩
  · have e : (max (i : Int) 0).toNat = i := by omega
    rw [e]
    refine ⟨h1, fun k hk1 hk2 => ⟨fun hk => hg k hk2 i h1 (hk.trans h3.symm), fun hk => by rw [hk]; exact h3⟩⟩
  · have e : (max (-1 : Int) 0).toNat = 0 := rfl
    rw [e]
    exact ⟨hn, fun k hk1 hk2 => ⟨fun hk => absurd hk (h2 k hk2), fun hk => by omega⟩⟩
set_option maxRecDepth 100000 in
theorem find (V : Option Addr) (n cn : Nat) (hn : n ≤ 4000) (hn0 : 0 < n) (g : Nat → ByteArray) (hg : ∀ i, i < n → ∀ j, j < n → g i = g j → i = j) (s : ByteArray) (w : World) (hS : Strs w V n g) :
    Calls Tryd.prog 29 #[.slice V n cn, .string s] w fun e w' => ∃ W : Nat, e = .returned (.tuple #[.int .i64 W, .bool (decide (0 < W))]) ∧ Pl g n s W ∧ Below w.heap.size w w' := by
  go_enter Tryd.func29, Tryd.ntmps29
  go_wp2_with fail
  refine (index V n cn hn g s w hS).mono ?_
  rintro e w1 ⟨r, rfl, hr, hb1⟩
  have hp := pl_of hn0 hg hr
  rcases hr with ⟨i, h1, rfl, _, _⟩ | ⟨rfl, _⟩
  · have e : (max (i : Int) 0).toNat = i := by omega
    have e2 : max (i : Int) 0 = i := by omega
    rw [e] at hp
    clear e
    go_wp2
    go_ret2
    first | exact ⟨i, rfl, hp, hb1⟩ | exact ⟨i, by simp, hp, hb1⟩
  · go_wp2
    go_ret2
    exact ⟨0, rfl, hp, hb1⟩
theorem nm_inj : ∀ i, i < 16 → ∀ j, j < 16 → nmB i = nmB j → i = j := by decide +kernel
theorem cm_inj : ∀ i, i < 11 → ∀ j, j < 11 → cmB i = cmB j → i = j := by decide +kernel
set_option maxRecDepth 100000 in
theorem objKind (s : ByteArray) (w : World) (h : NmW w) : Calls Tryd.prog 22 #[.string s] w fun e w' => ∃ W : Nat, e = .returned (.tuple #[.int .i64 W, .bool (decide (0 < W))]) ∧ Pl nmB 16 s W ∧ Below w.heap.size w w' := by
  have hS : Strs w (some ⟨0, 0, none⟩) 16 nmB := fun _ => ⟨0, 0, rfl, h.pos, fun i hi => by rw [Nat.zero_add]; exact h i hi⟩
  go_enter Tryd.func22, Tryd.ntmps22
  go_wp2_with fail
  refine (find (some ⟨0, 0, none⟩) 16 16 (by omega) (by omega) nmB nm_inj s w hS).mono ?_
  rintro e w1 ⟨W, rfl, hp, hb1⟩
  go_wp2
  go_ret2
  exact ⟨W, rfl, hp, hb1⟩
set_option maxRecDepth 100000 in
theorem objCall (s : ByteArray) (w : World) (h : CmW w) : Calls Tryd.prog 23 #[.string s] w fun e w' => ∃ W : Nat, e = .returned (.tuple #[.int .i64 W, .bool (decide (0 < W))]) ∧ Pl cmB 11 s W ∧ Below w.heap.size w w' := by
  have hS : Strs w (some ⟨1, 0, none⟩) 11 cmB := fun _ => ⟨1, 0, rfl, h.pos, fun i hi => by rw [Nat.zero_add]; exact h i hi⟩
  go_enter Tryd.func23, Tryd.ntmps23
  go_wp2_with fail
  refine (find (some ⟨1, 0, none⟩) 11 11 (by omega) (by omega) cmB cm_inj s w hS).mono ?_
  rintro e w1 ⟨W, rfl, hp, hb1⟩
  go_wp2
  go_ret2
  exact ⟨W, rfl, hp, hb1⟩
set_option maxRecDepth 100000 in
theorem refKinds (w : World) : Calls Tryd.prog 18 #[] w fun e w' => ∃ V c, e = .returned (.slice V 16 c) ∧ Strs w' V 16 nmB ∧ Below w.heap.size w w' := by
  go_enter Tryd.func18, Tryd.ntmps18
  go_wp2
  go_ret
  have hS : ∀ cs, cs = ((List.range 16).map fun i => Value.string (nmB i)).toArray → Strs (w.alloc (.cells cs 9)) (some ⟨w.heap.size, 0, none⟩) 16 nmB := fun cs hcs _ => ⟨_, 0, rfl, by simp, fun i hi => by
    rw [cell_of_row _ _ _ cs 9 _ (heap_alloc_new w _), hcs, Nat.zero_add]; simp [hi]⟩
  first | exact ⟨_, _, rfl, hS _ (by rfl), (Below.refl _ _).alloc (Nat.le_refl _) _⟩ | exact ⟨_, ⟨_, rfl⟩, hS _ (by rfl), (Below.refl _ _).alloc (Nat.le_refl _) _⟩
set_option maxRecDepth 100000 in
theorem refCalls (w : World) : Calls Tryd.prog 19 #[] w fun e w' => ∃ V c, e = .returned (.slice V 11 c) ∧ Strs w' V 11 cmB ∧ Below w.heap.size w w' := by
  go_enter Tryd.func19, Tryd.ntmps19
  go_wp2
  go_ret
  have hS : ∀ cs, cs = ((List.range 11).map fun i => Value.string (cmB i)).toArray → Strs (w.alloc (.cells cs 9)) (some ⟨w.heap.size, 0, none⟩) 11 cmB := fun cs hcs _ => ⟨_, 0, rfl, by simp, fun i hi => by
    rw [cell_of_row _ _ _ cs 9 _ (heap_alloc_new w _), hcs, Nat.zero_add]; simp [hi]⟩
  first | exact ⟨_, _, rfl, hS _ (by rfl), (Below.refl _ _).alloc (Nat.le_refl _) _⟩ | exact ⟨_, ⟨_, rfl⟩, hS _ (by rfl), (Below.refl _ _).alloc (Nat.le_refl _) _⟩
end Go.Proofs.YtemhcdlhhpckmaaDoor
