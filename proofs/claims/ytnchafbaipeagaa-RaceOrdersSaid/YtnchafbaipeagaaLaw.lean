/- The plain law of the races: what vector clocks say is what is known; no program in sight. -/
namespace Go.Proofs.Ytnchafbaipeagaa.Plain

structure A where
  kind : Int
  who : Int
  place : Int

def right (x : A) : Bool := decide (1 ≤ x.kind) && decide (x.kind ≤ 4) && decide (0 ≤ x.who) && decide (x.who ≤ 7)

abbrev Clk := Nat → Int

structure St where
  T : Nat → Clk
  G : Int → Clk

def joinC (a b : Clk) : Clk := fun t => if b t > a t then b t else a t
def tickC (c : Clk) (t : Nat) : Clk := fun u => if u = t then c u + 1 else c u
def nullC : Clk := fun _ => 0

def before (s : St) (x : A) : Clk := if x.kind = 4 then joinC (s.T x.who.toNat) (s.G x.place) else s.T x.who.toNat
def clkOf (s : St) (x : A) : Clk := if right x then tickC (before s x) x.who.toNat else nullC
def stepT (s : St) (x : A) (c : Clk) : Nat → Clk := fun u => if u = x.who.toNat then c else s.T u
def stepG (s : St) (x : A) (c : Clk) : Int → Clk := if x.kind = 3 then fun p => if p = x.place then joinC (s.G x.place) c else s.G p else s.G
def step (s : St) (x : A) : St := if right x then ⟨stepT s x (clkOf s x), stepG s x (clkOf s x)⟩ else s

def S (a : Nat → A) : Nat → St
  | 0 => ⟨fun _ => nullC, fun _ => nullC⟩
  | n + 1 => step (S a n) (a n)
def C (a : Nat → A) (n : Nat) : Clk := clkOf (S a n) (a n)

/-- told at once -/
def D (a : Nat → A) (j k : Nat) : Prop := right (a j) = true ∧ right (a k) = true ∧ ((a j).who = (a k).who ∨ (a j).kind = 3 ∧ (a k).kind = 4 ∧ (a j).place = (a k).place)

inductive K (a : Nat → A) : Nat → Nat → Prop
  | base {i k : Nat} : i < k → D a i k → K a i k
  | more {i j k : Nat} : K a i j → j < k → D a j k → K a i k

theorem K.lt {a i k} (h : K a i k) : i < k := by
  induction h with
  | base h _ => exact h
  | more _ h _ ih => omega
theorem K.left {a i k} (h : K a i k) : right (a i) = true := by
  induction h with
  | base _ h => exact h.1
  | more _ _ _ ih => exact ih
theorem K.right {a i k} (h : K a i k) : right (a k) = true := by
  cases h with
  | base _ h => exact h.2.1
  | more _ _ h => exact h.2.1
theorem K.iff {a i k} : K a i k ↔ ∃ j, j < k ∧ D a j k ∧ (j = i ∨ K a i j) := by
  constructor
  · intro h
    cases h with
    | base h1 h2 => exact ⟨i, h1, h2, .inl rfl⟩
    | more h1 h2 h3 => exact ⟨_, h2, h3, .inr h1⟩
  · rintro ⟨j, h1, h2, rfl | h3⟩
    · exact .base h1 h2
    · exact .more h3 h1 h2
theorem K.trans {a i j k} (h : K a i j) (h' : K a j k) : K a i k := by
  induction h' with
  | base h1 h2 => exact .more h h1 h2
  | more _ h2 h3 ih => exact .more ih h2 h3

theorem right_who {x : A} (h : right x = true) : 0 ≤ x.who ∧ x.who ≤ 7 := by
  simp only [right, Bool.and_eq_true, decide_eq_true_eq] at h; omega

theorem joinC_l (a b : Clk) (t) : a t ≤ joinC a b t := by unfold joinC; split <;> omega
theorem joinC_r (a b : Clk) (t) : b t ≤ joinC a b t := by unfold joinC; split <;> omega
theorem joinC_or (a b : Clk) (t) : joinC a b t = a t ∨ joinC a b t = b t := by unfold joinC; split <;> simp
theorem tickC_le (c : Clk) (w t) : c t ≤ tickC c w t := by unfold tickC; split <;> omega
theorem tickC_at (c : Clk) (w) : tickC c w w = c w + 1 := by simp [tickC]
theorem tickC_ne (c : Clk) {w t} (h : t ≠ w) : tickC c w t = c t := by simp [tickC, h]

theorem C_right {a : Nat → A} {n} (h : right (a n) = true) : C a n = tickC (before (S a n) (a n)) (a n).who.toNat := by simp [C, clkOf, h]
theorem S_succ_right {a : Nat → A} {n} (h : right (a n) = true) : S a (n + 1) = ⟨stepT (S a n) (a n) (C a n), stepG (S a n) (a n) (C a n)⟩ := by
  show step (S a n) (a n) = _
  simp [step, h, C]
theorem S_succ_wrong {a : Nat → A} {n} (h : right (a n) = false) : S a (n + 1) = S a n := by
  show step (S a n) (a n) = _
  simp [step, h]

structure Inv (a : Nat → A) (n : Nat) : Prop where
  t1 : ∀ j t, j < n → right (a j) = true → C a j t ≤ (S a n).T (a j).who.toNat t
  t2 : ∀ w t, (S a n).T w t = 0 ∨ ∃ j, j < n ∧ right (a j) = true ∧ (a j).who.toNat = w ∧ (S a n).T w t = C a j t
  g1 : ∀ j t, j < n → right (a j) = true → (a j).kind = 3 → C a j t ≤ (S a n).G (a j).place t
  g2 : ∀ p t, (S a n).G p t = 0 ∨ ∃ j, j < n ∧ right (a j) = true ∧ (a j).kind = 3 ∧ (a j).place = p ∧ (S a n).G p t = C a j t
  t0 : ∀ w t, 0 ≤ (S a n).T w t ∧ (S a n).T w t ≤ n
  g0 : ∀ p t, 0 ≤ (S a n).G p t ∧ (S a n).G p t ≤ n

theorem before_T (s : St) (x : A) (t) : s.T x.who.toNat t ≤ before s x t := by
  unfold before; split
  · exact joinC_l _ _ _
  · exact Int.le_refl _
theorem before_G (s : St) (x : A) (h : x.kind = 4) (t) : s.G x.place t ≤ before s x t := by
  unfold before; rw [if_pos h]; exact joinC_r _ _ _
theorem before_or (s : St) (x : A) (t) : before s x t = s.T x.who.toNat t ∨ (x.kind = 4 ∧ before s x t = s.G x.place t) := by
  unfold before; split
  · rename_i h
    rcases joinC_or (s.T x.who.toNat) (s.G x.place) t with e | e
    · exact .inl e
    · exact .inr ⟨h, e⟩
  · exact .inl rfl

theorem inv (a : Nat → A) : ∀ n, Inv a n
  | 0 => ⟨fun _ _ h => absurd h (by omega), fun _ _ => .inl rfl, fun _ _ h => absurd h (by omega), fun _ _ => .inl rfl, fun _ _ => ⟨Int.le_refl _, Int.le_refl _⟩, fun _ _ => ⟨Int.le_refl _, Int.le_refl _⟩⟩
  | n + 1 => by
    have ih := inv a n
    by_cases h : right (a n) = true
    · have hb : ∀ t, 0 ≤ before (S a n) (a n) t ∧ before (S a n) (a n) t ≤ n := fun t => by
        rcases before_or (S a n) (a n) t with e | ⟨_, e⟩ <;> rw [e]
        · exact ih.t0 _ _
        · exact ih.g0 _ _
      have hc : ∀ t, 0 ≤ C a n t ∧ C a n t ≤ n + 1 := fun t => by
        rw [C_right h]; unfold tickC; have := hb t; split <;> omega
      have hm : ∀ t, (S a n).T (a n).who.toNat t ≤ C a n t := fun t => by
        rw [C_right h]; exact Int.le_trans (before_T _ _ _) (tickC_le _ _ _)
      refine ⟨?_, ?_, ?_, ?_, ?_, ?_⟩ <;> rw [S_succ_right h] <;> simp only [stepT, stepG]
      · intro j t hj hr
        by_cases hjn : j = n
        · subst hjn; rw [if_pos rfl]; exact Int.le_refl _
        · have := ih.t1 j t (by omega) hr
          by_cases hw : (a j).who.toNat = (a n).who.toNat
          · rw [if_pos hw]; rw [hw] at this; exact Int.le_trans this (hm t)
          · rw [if_neg hw]; exact this
      · intro w t
        by_cases hw : w = (a n).who.toNat
        · rw [if_pos hw]; exact .inr ⟨n, by omega, h, hw.symm, rfl⟩
        · rw [if_neg hw]
          rcases ih.t2 w t with e | ⟨j, h1, h2, h3, h4⟩
          · exact .inl e
          · exact .inr ⟨j, by omega, h2, h3, h4⟩
      · intro j t hj hr hk
        by_cases hjn : j = n
        · subst hjn; rw [if_pos hk]; simp only [if_true]; exact joinC_r _ _ _
        · have := ih.g1 j t (by omega) hr hk
          split
          · dsimp only
            split
            · rename_i hp; rw [hp] at this; exact Int.le_trans this (joinC_l _ _ _)
            · exact this
          · exact this
      · intro p t
        have old : (S a n).G p t = 0 ∨ ∃ j, j < n + 1 ∧ right (a j) = true ∧ (a j).kind = 3 ∧ (a j).place = p ∧ (S a n).G p t = C a j t := by
          rcases ih.g2 p t with e | ⟨j, h1, h2, h3, h4, h5⟩
          · exact .inl e
          · exact .inr ⟨j, by omega, h2, h3, h4, h5⟩
        split
        · rename_i hk
          dsimp only
          split
          · rename_i hp
            subst hp
            rcases joinC_or ((S a n).G (a n).place) (C a n) t with e | e
            · rw [e]; exact old
            · rw [e]; exact .inr ⟨n, by omega, h, hk, rfl, rfl⟩
          · exact old
        · exact old
      · intro w t
        have := hc t; have := ih.t0 w t
        split <;> omega
      · intro p t
        have := hc t; have := ih.g0 p t; have := ih.g0 (a n).place t
        split
        · dsimp only
          split
          · rcases joinC_or ((S a n).G (a n).place) (C a n) t with e | e <;> rw [e] <;> omega
          · omega
        · omega
    · have h' : right (a n) = false := by simpa using h
      have hj : ∀ j, j < n + 1 → right (a j) = true → j < n := fun j hj hr => by
        rcases Nat.lt_or_ge j n with h1 | h1
        · exact h1
        · have : j = n := by omega
          subst this; exact absurd hr h
      refine ⟨?_, ?_, ?_, ?_, ?_, ?_⟩ <;> rw [S_succ_wrong h']
      · intro j t h1 h2; exact ih.t1 j t (hj j h1 h2) h2
      · intro w t
        rcases ih.t2 w t with e | ⟨j, h1, h2⟩
        · exact .inl e
        · exact .inr ⟨j, by omega, h2⟩
      · intro j t h1 h2; exact ih.g1 j t (hj j h1 h2) h2
      · intro p t
        rcases ih.g2 p t with e | ⟨j, h1, h2⟩
        · exact .inl e
        · exact .inr ⟨j, by omega, h2⟩
      · intro w t; have := ih.t0 w t; omega
      · intro p t; have := ih.g0 p t; omega

theorem C_bound (a : Nat → A) (n t) : 0 ≤ C a n t ∧ C a n t ≤ n + 1 := by
  by_cases h : right (a n) = true
  · rw [C_right h]
    have ih := inv a n
    have hb : 0 ≤ before (S a n) (a n) t ∧ before (S a n) (a n) t ≤ n := by
      rcases before_or (S a n) (a n) t with e | ⟨_, e⟩ <;> rw [e]
      · exact ih.t0 _ _
      · exact ih.g0 _ _
    unfold tickC; split <;> omega
  · simp [C, clkOf, h, nullC]; omega

theorem C_of_D {a : Nat → A} {j k} (hjk : j < k) (h : D a j k) (t) : C a j t ≤ before (S a k) (a k) t := by
  obtain ⟨h1, h2, h3⟩ := h
  rcases h3 with h3 | ⟨h3, h4, h5⟩
  · have := (inv a k).t1 j t hjk h1
    rw [h3] at this
    exact Int.le_trans this (before_T _ _ _)
  · have := (inv a k).g1 j t hjk h1 h3
    rw [h5] at this
    exact Int.le_trans this (before_G _ _ h4 _)
theorem C_mono {a : Nat → A} {j k} (hjk : j < k) (h : D a j k) (t) : C a j t ≤ C a k t := by
  rw [C_right h.2.1]; exact Int.le_trans (C_of_D hjk h t) (tickC_le _ _ _)
theorem C_more {a : Nat → A} {j k} (hjk : j < k) (h : D a j k) : C a j (a k).who.toNat < C a k (a k).who.toNat := by
  rw [C_right h.2.1, tickC_at]; have := C_of_D hjk h (a k).who.toNat; omega
theorem C_pos {a : Nat → A} {k} (h : right (a k) = true) : 0 < C a k (a k).who.toNat := by
  have hb : 0 ≤ before (S a k) (a k) (a k).who.toNat := by
    rcases before_or (S a k) (a k) (a k).who.toNat with e | ⟨_, e⟩ <;> rw [e]
    · exact ((inv a k).t0 _ _).1
    · exact ((inv a k).g0 _ _).1
  rw [C_right h, tickC_at]; omega
theorem C_else {a : Nat → A} {k} (h : right (a k) = true) {t} (ht : t ≠ (a k).who.toNat) : C a k t = 0 ∨ ∃ j, j < k ∧ D a j k ∧ C a k t = C a j t := by
  rw [C_right h, tickC_ne _ ht]
  rcases before_or (S a k) (a k) t with e | ⟨hk, e⟩ <;> rw [e]
  · rcases (inv a k).t2 (a k).who.toNat t with e | ⟨j, h1, h2, h3, h4⟩
    · exact .inl e
    · have := right_who h; have := right_who h2
      exact .inr ⟨j, h1, ⟨h2, h, .inl (by omega)⟩, h4⟩
  · rcases (inv a k).g2 (a k).place t with e | ⟨j, h1, h2, h3, h4, h5⟩
    · exact .inl e
    · exact .inr ⟨j, h1, ⟨h2, h, .inr ⟨h3, hk, h4⟩⟩, h5⟩

theorem C_ahead {a : Nat → A} {i} (hi : right (a i) = true) : ∀ n j, j ≤ n → j < i → right (a j) = true → C a j (a i).who.toNat < C a i (a i).who.toNat := by
  intro n
  induction n with
  | zero =>
    intro j h0 hj hr
    have : j = 0 := by omega
    subst this
    by_cases hw : (a i).who.toNat = (a 0).who.toNat
    · have := right_who hi; have := right_who hr
      exact C_more hj ⟨hr, hi, .inl (by omega)⟩
    · rcases C_else hr hw with e | ⟨j', h1, _⟩
      · rw [e]; exact C_pos hi
      · omega
  | succ n ih =>
    intro j h0 hj hr
    by_cases hw : (a i).who.toNat = (a j).who.toNat
    · have := right_who hi; have := right_who hr
      exact C_more hj ⟨hr, hi, .inl (by omega)⟩
    · rcases C_else hr hw with e | ⟨j', h1, h2, e⟩
      · rw [e]; exact C_pos hi
      · rw [e]; exact ih j' (by omega) (by omega) h2.1

theorem K_mono {a : Nat → A} {i k} (h : K a i k) (t) : C a i t ≤ C a k t := by
  induction h with
  | base h1 h2 => exact C_mono h1 h2 t
  | more _ h2 h3 ih => exact Int.le_trans ih (C_mono h2 h3 t)

theorem K_of_C {a : Nat → A} {i} (hi : right (a i) = true) : ∀ n k, k ≤ n → i < k → right (a k) = true → C a i (a i).who.toNat ≤ C a k (a i).who.toNat → K a i k := by
  intro n
  induction n with
  | zero => intro k h0 hk; omega
  | succ n ih =>
    intro k h0 hk hr hc
    by_cases hw : (a i).who.toNat = (a k).who.toNat
    · have := right_who hi; have := right_who hr
      exact .base hk ⟨hi, hr, .inl (by omega)⟩
    · rcases C_else hr hw with e | ⟨j, h1, h2, e⟩
      · have := C_pos hi; omega
      · rw [e] at hc
        rcases Nat.lt_trichotomy j i with h3 | h3 | h3
        · have := C_ahead hi j j (Nat.le_refl _) h3 h2.1; omega
        · subst h3; exact .base h1 h2
        · exact .more (ih j (by omega) h3 h2.1 hc) h1 h2

/-- WHAT THE CLOCKS SAY IS WHAT IS KNOWN -/
theorem K_iff_C {a : Nat → A} {i k} (hi : right (a i) = true) (hk : right (a k) = true) (hik : i < k) : K a i k ↔ C a i (a i).who.toNat ≤ C a k (a i).who.toNat :=
  ⟨fun h => K_mono h _, fun h => K_of_C hi k k (Nat.le_refl _) hik hk h⟩


/-! ### the search: the first k, and of it the first i -/
def firstI (p : Nat → Nat → Bool) (k : Nat) : Option Nat := (List.range k).find? fun i => p i k
def findR (p : Nat → Nat → Bool) (n : Nat) : Option (Nat × Nat) :=
  ((List.range n).find? fun k => (firstI p k).isSome).bind fun k => (firstI p k).map fun i => (i, k)

theorem firstI_none {p k} : firstI p k = none ↔ ∀ i, i < k → p i k = false := by
  simp [firstI, List.find?_eq_none]
theorem firstI_some {p k i} (hi : i < k) (hp : p i k = true) (h : ∀ j, j < i → p j k = false) : firstI p k = some i := by
  unfold firstI
  rw [List.find?_range_eq_some]
  exact ⟨hp, by simpa using hi, fun j hj => by simp [h j hj]⟩
theorem findR_none {p n} (h : ∀ k, k < n → ∀ i, i < k → p i k = false) : findR p n = none := by
  unfold findR
  rw [List.find?_eq_none.2]
  · rfl
  · intro k hk
    simp [firstI_none.2 (h k (by simpa using hk))]
theorem findR_some {p n k i} (hk : k < n) (hi : i < k) (hp : p i k = true) (h : ∀ j, j < i → p j k = false) (h' : ∀ k', k' < k → ∀ i', i' < k' → p i' k' = false) : findR p n = some (i, k) := by
  have e := firstI_some hi hp h
  unfold findR
  rw [(List.find?_range_eq_some (i := k)).2 ⟨by simp [e], by simpa using hk, fun j hj => by simp [firstI_none.2 (h' j hj)]⟩]
  simp [e]
theorem findR_cases (p n) : (findR p n = none ∧ ∀ k, k < n → ∀ i, i < k → p i k = false) ∨
    ∃ i k, findR p n = some (i, k) ∧ i < k ∧ k < n ∧ p i k = true ∧ (∀ j, j < i → p j k = false) ∧ (∀ k', k' < k → ∀ i', i' < k' → p i' k' = false) := by
  by_cases h : ∀ k, k < n → ∀ i, i < k → p i k = false
  · exact .inl ⟨findR_none h, h⟩
  · right
    -- the least k, the least i
    have hex : ∃ k, k < n ∧ ∃ i, i < k ∧ p i k = true := by
      refine Classical.byContradiction fun hn => h fun k hk i hi => ?_
      cases hp : p i k with
      | false => rfl
      | true => exact absurd ⟨k, hk, i, hi, hp⟩ hn
    have least : ∀ (q : Nat → Prop) (m : Nat), q m → ∃ k, q k ∧ ∀ j, j < k → ¬ q j := by
      intro q m
      induction m using Nat.strongRecOn with
      | _ m ih =>
        intro hm
        by_cases hj : ∃ j, j < m ∧ q j
        · obtain ⟨j, h1, h2⟩ := hj; exact ih j h1 h2
        · exact ⟨m, hm, fun j h1 h2 => hj ⟨j, h1, h2⟩⟩
    obtain ⟨k0, hk0⟩ := hex
    obtain ⟨k, ⟨hk, i0, hi0⟩, hkl⟩ := least (fun k => k < n ∧ ∃ i, i < k ∧ p i k = true) k0 hk0
    obtain ⟨i, ⟨hi, hp⟩, hil⟩ := least (fun i => i < k ∧ p i k = true) i0 hi0
    have f1 : ∀ j, j < i → p j k = false := fun j hj => by
      cases hp : p j k with
      | false => rfl
      | true => exact absurd ⟨by omega, hp⟩ (hil j hj)
    have f2 : ∀ k', k' < k → ∀ i', i' < k' → p i' k' = false := fun k' h1 i' h2 => by
      cases hp : p i' k' with
      | false => rfl
      | true => exact absurd ⟨by omega, i', h2, hp⟩ (hkl k' h1)
    exact ⟨i, k, findR_some hk hi hp f1 f2, hi, hk, hp, f1, f2⟩
theorem findR_congr {p q : Nat → Nat → Bool} {n} (h : ∀ k, k < n → ∀ i, i < k → p i k = q i k) : findR p n = findR q n := by
  rcases findR_cases p n with ⟨e, h0⟩ | ⟨i, k, e, h1, h2, h3, h4, h5⟩
  · rw [e, findR_none]; intro k hk i hi; rw [← h k hk i hi]; exact h0 k hk i hi
  · rw [e, findR_some h2 h1 (by rw [← h k h2 i h1]; exact h3)]
    · intro j hj; rw [← h k h2 j (by omega)]; exact h4 j hj
    · intro k' hk i' hi; rw [← h k' (by omega) i' hi]; exact h5 k' hk i' hi

/-! ### races -/
def against (x y : A) : Bool := right x && right y && decide (x.kind ≤ 2) && decide (y.kind ≤ 2) && decide (x.place = y.place) && (decide (x.kind = 2) || decide (y.kind = 2))
/-- by the clocks -/
def knownC (a : Nat → A) (i k : Nat) : Bool := decide (C a i (a i).who.toNat ≤ C a k (a i).who.toNat)
def raceC (a : Nat → A) (i k : Nat) : Bool := against (a i) (a k) && !knownC a i k
open Classical in
/-- by what is known -/
noncomputable def knownK (a : Nat → A) (i k : Nat) : Bool := decide (K a i k)
def againstR (x y : A) : Bool := right x && right y && decide (x.kind ≤ 2) && decide (y.kind ≤ 2) && decide (x.place = y.place) && decide (x.kind + y.kind > 2)
noncomputable def raceK (a : Nat → A) (i k : Nat) : Bool := againstR (a i) (a k) && !knownK a i k
theorem against_R (x y : A) : against x y = againstR x y := by
  unfold against againstR
  by_cases hx : right x = true <;> by_cases hy : right y = true <;> simp [hx, hy]
  simp only [right, Bool.and_eq_true, decide_eq_true_eq] at hx hy
  rw [Bool.eq_iff_iff]; simp; omega
theorem knownK_true {a : Nat → A} {i k} : knownK a i k = true ↔ K a i k := by simp [knownK]
theorem known_same {a : Nat → A} {i k} (hi : right (a i) = true) (hk : right (a k) = true) (h : i < k) : knownC a i k = knownK a i k := by
  rw [Bool.eq_iff_iff, knownK_true, K_iff_C hi hk h]; simp [knownC]
theorem race_same {a : Nat → A} {i k} (h : i < k) : raceC a i k = raceK a i k := by
  unfold raceC raceK
  rw [against_R]
  by_cases hx : right (a i) = true <;> by_cases hy : right (a k) = true
  · rw [known_same hx hy h]
  all_goals simp [againstR, hx, hy]
theorem find_same (a : Nat → A) (n) : findR (raceC a) n = findR (raceK a) n := findR_congr fun _ _ _ h => race_same h
theorem raceC_against {a : Nat → A} {i k} (h : raceC a i k = true) : right (a i) = true ∧ right (a k) = true ∧ (a i).kind ≤ 2 ∧ (a k).kind ≤ 2 := by
  simp only [raceC, against, Bool.and_eq_true, decide_eq_true_eq] at h
  exact ⟨h.1.1.1.1.1.1, h.1.1.1.1.1.2, h.1.1.1.1.2, h.1.1.1.2⟩

/-! ### the clocks of a beginning -/
theorem S_congr {a b : Nat → A} : ∀ n, (∀ j, j < n → a j = b j) → S a n = S b n
  | 0, _ => rfl
  | n + 1, h => by
    show step (S a n) (a n) = step (S b n) (b n)
    rw [S_congr n fun j hj => h j (by omega), h n (by omega)]
theorem C_congr {a b : Nat → A} {n} (h : ∀ j, j ≤ n → a j = b j) : C a n = C b n := by
  unfold C; rw [S_congr n fun j hj => h j (by omega), h n (Nat.le_refl _)]
theorem race_congr {a b : Nat → A} {i k} (h : ∀ j, j ≤ k → a j = b j) (hi : i < k) : raceC a i k = raceC b i k := by
  unfold raceC knownC
  rw [C_congr h, C_congr (n := i) fun j hj => h j (by omega), h k (Nat.le_refl _), h i (by omega)]
theorem find_front {a b : Nat → A} {n m} (h : ∀ j, j < n → a j = b j) (hn : n ≤ m) :
    (∀ r, findR (raceC a) n = some r → findR (raceC b) m = some r) ∧ (findR (raceC a) n = none → ∀ i k, findR (raceC b) m = some (i, k) → n ≤ k) := by
  have hr : ∀ k, k < n → ∀ i, i < k → raceC a i k = raceC b i k := fun k hk i hi => race_congr (fun j hj => h j (by omega)) hi
  rcases findR_cases (raceC a) n with ⟨e, h0⟩ | ⟨i, k, e, h1, h2, h3, h4, h5⟩
  · refine ⟨(fun r hr' => absurd (e.symm.trans hr') (by simp)), fun _ i k hb => ?_⟩
    rcases findR_cases (raceC b) m with ⟨e', _⟩ | ⟨i', k', e', g1, g2, g3, _⟩
    · rw [e'] at hb; cases hb
    · rw [e'] at hb
      injection hb with hb; injection hb with hb1 hb2
      subst hb1 hb2
      rcases Nat.lt_or_ge k' n with hk | hk
      · rw [← hr k' hk i' g1, h0 k' hk i' g1] at g3; cases g3
      · exact hk
  · refine ⟨fun r hr' => ?_, fun h' => absurd (e.symm.trans h') (by simp)⟩
    rw [← hr', e]
    exact findR_some (by omega) h1 (by rw [← hr k h2 i h1]; exact h3) (fun j hj => by rw [← hr k h2 j (by omega)]; exact h4 j hj) (fun k' hk i' hi => by rw [← hr k' (by omega) i' hi]; exact h5 k' hk i' hi)

/-! ### a chain: each is told at the next -/
theorem K_chain {a : Nat → A} {n} (h : ∀ j, j + 1 < n → D a j (j + 1)) : ∀ k, k < n → ∀ i, i < k → K a i k := by
  intro k
  induction k with
  | zero => intro _ i hi; omega
  | succ k ih =>
    intro hk i hi
    have hd := h k hk
    by_cases e : i = k
    · subst e; exact .base (by omega) hd
    · exact .more (ih (by omega) i (by omega)) (by omega) hd
theorem find_chain {a : Nat → A} {n} (h : ∀ j, j + 1 < n → D a j (j + 1)) : findR (raceC a) n = none := by
  rw [find_same]
  refine findR_none fun k hk i hi => ?_
  simp [raceK, knownK_true.2 (K_chain h k hk i hi)]

/-- which act is known at which, as the program asks it -/
def ordC (a : Nat → A) (n : Nat) (i k : Int) : Bool := decide (0 ≤ i) && decide (0 ≤ k) && decide (i < n) && decide (k < n) && decide (i < k) && right (a i.toNat) && right (a k.toNat) && knownC a i.toNat k.toNat
theorem ordC_iff {a : Nat → A} {n} {i k : Nat} (hi : i < n) (hk : k < n) : ordC a n i k = true ↔ K a i k := by
  simp only [ordC, Bool.and_eq_true, decide_eq_true_eq, Int.toNat_natCast]
  constructor
  · rintro ⟨⟨⟨⟨_, h2⟩, h3⟩, h4⟩, h5⟩
    have hik : i < k := by omega
    exact knownK_true.1 (by rw [← known_same h3 h4 hik]; exact h5)
  · intro h
    have := h.lt
    exact ⟨⟨⟨by omega, h.left⟩, h.right⟩, by rw [known_same h.left h.right this]; exact knownK_true.2 h⟩
end Go.Proofs.Ytnchafbaipeagaa.Plain
