/- What the machine holds is what the reference reckons; both answer alike. Plain, no program in sight. -/
import Derived.Test.YtobkonbpcnmgpaaDoorRAns
namespace Go.Proofs.YtobkonbpcnmgpaaDoor
open Go.RowKit
set_option linter.unusedVariables false
set_option linter.unusedSimpArgs false
theorem own_sn (o : Int) (f : Nat → Stp) (m : Nat) (s : Stp) : ownN o (snoc f m s) (m + 1) = own1 o (ownN o f m) s := fo_snoc _ _ _ _ _
theorem rds_sn (o q : Int) (f : Nat → Stp) (m : Nat) (s : Stp) : rdsN o q (snoc f m s) (m + 1) = rds1 o q (rdsN o q f m) s := fo_snoc _ _ _ _ _
theorem man_sn (o c p q : Int) (f : Nat → Stp) (m : Nat) (s : Stp) : manN o c p q (snoc f m s) (m + 1) = man1 o c p q (manN o c p q f m) s := fo_snoc _ _ _ _ _
theorem put_sn (o : Int) (f : Nat → Stp) (m : Nat) (s : Stp) : putN o (snoc f m s) (m + 1) = put1 o (putN o f m) s := fo_snoc _ _ _ _ _
theorem put_congr (o : Int) {f f' : Nat → Stp} {m : Nat} (h : ∀ j, j < m → f j = f' j) : putN o f m = putN o f' m := fo_congr _ _ _ h
theorem las_congr (o : Int) {f f' : Nat → Stp} {m : Nat} (h : ∀ j, j < m → f j = f' j) : lasN o f m = lasN o f' m := by unfold lasN; rw [fo_congr _ _ _ h]
theorem dat_sn (o : Int) (f : Nat → Stp) (m : Nat) (s : Stp) : datN o (snoc f m s) (m + 1) = if s.x.obj = o ∧ s.x.call = 2 ∧ s.r = 0 then putN o f m else datN o f m := by
  unfold datN
  rw [las_succ, snoc_at]
  have hl : lasN o (snoc f m s) m = lasN o f m := las_congr o fun j hj => snoc_lt hj
  have hle := las_le o f m
  split
  · rw [Nat.add_sub_cancel]; exact put_congr o fun j hj => snoc_lt hj
  · rw [hl]; exact put_congr o fun j hj => snoc_lt (by omega)
/-- the machine's state of object i, beside all that was done -/
structure Ag (i : Nat) (t : Int) (o : O) (f : Nat → Stp) (m : Nat) (s : St) : Prop where
  ob : s.o = o
  own : o.k ≠ 11 → o.k ≠ 12 → o.k ≠ 13 → s.owner = ownN i f m
  rng : o.k ≠ 11 → o.k ≠ 12 → o.k ≠ 13 → ownN i f m = -1 ∨ (0 ≤ ownN i f m ∧ ownN i f m < t)
  rd : o.k = 14 → ∀ q : Nat, q < 8 → s.readers q = rdsN i q f m
  rdt : o.k = 14 → ∀ q : Nat, rdsN i q f m = true → (q : Int) < t
  sem : o.k = 11 → s.count = o.n + manN i 2 0 (-1) f m - manN i 1 0 (-1) f m
  semr : o.k = 11 → 0 ≤ s.count ∧ s.count ≤ o.a
  come : o.k = 13 → ∀ q : Nat, q < 8 → s.come q = manN i 9 1 q f m
  left : o.k = 13 → ∀ q : Nat, q < 8 → s.left q = manN i 9 3 q f m
  le : o.k = 13 → ∀ q : Nat, q < 8 → s.left q ≤ s.come q
  opn : o.k = 13 → s.opened = manN i 9 2 (-1) f m
  dn : o.k = 15 → (s.done = true ↔ 0 < manN i 10 0 (-1) f m)
  dat : o.k = 9 → s.data = datN i f m
  drf : o.k = 9 → s.draft = putN i f m
theorem own1_ne {i : Nat} {h : Int} {s : Stp} (hx : s.x.obj ≠ i) : own1 i h s = h := by unfold own1; rw [if_pos hx]
theorem rds1_ne {i : Nat} {q : Int} {h : Bool} {s : Stp} (hx : s.x.obj ≠ i) : rds1 i q h s = h := by unfold rds1; rw [if_pos (.inl hx)]
theorem man1_ne {i : Nat} {c p q h : Int} {s : Stp} (hx : s.x.obj ≠ i) : man1 i c p q h s = h := by unfold man1; rw [if_neg (fun h' => hx h'.1)]
theorem put1_ne {i : Nat} {h : Nat → Int} {s : Stp} (hx : s.x.obj ≠ i) : put1 i h s = h := by unfold put1; rw [if_neg (fun h' => hx h'.1)]
theorem Ag.frame {i : Nat} {t : Int} {o : O} {f : Nat → Stp} {m : Nat} {s : St} (h : Ag i t o f m s) {e : Stp} (hx : e.x.obj ≠ i) : Ag i t o (snoc f m e) (m + 1) s := by
  have h1 : ownN i (snoc f m e) (m + 1) = ownN i f m := by rw [own_sn, own1_ne hx]
  have h2 : ∀ q, rdsN i q (snoc f m e) (m + 1) = rdsN i q f m := fun q => by rw [rds_sn, rds1_ne hx]
  have h3 : ∀ c p q, manN i c p q (snoc f m e) (m + 1) = manN i c p q f m := fun c p q => by rw [man_sn, man1_ne hx]
  have h4 : putN i (snoc f m e) (m + 1) = putN i f m := by rw [put_sn, put1_ne hx]
  have h5 : datN i (snoc f m e) (m + 1) = datN i f m := by rw [dat_sn, if_neg (fun h' => hx h'.1)]
  refine ⟨h.ob, ?_, ?_, ?_, ?_, ?_, h.semr, ?_, ?_, h.le, ?_, ?_, ?_, ?_⟩
  · rw [h1]; exact h.own
  · rw [h1]; exact h.rng
  · intro k q hq; rw [h2]; exact h.rd k q hq
  · intro k q hq; rw [h2] at hq; exact h.rdt k q hq
  · rw [h3, h3]; exact h.sem
  · intro k q hq; rw [h3]; exact h.come k q hq
  · intro k q hq; rw [h3]; exact h.left k q hq
  · rw [h3]; exact h.opn
  · rw [h3]; exact h.dn
  · rw [h5]; exact h.dat
  · rw [h4]; exact h.drf
theorem Ag.init (i : Nat) (t : Int) (o : O) (f : Nat → Stp) (hr : RP o t) : Ag i t o f 0 (initS o) := by
  refine ⟨rfl, fun _ _ _ => rfl, fun _ _ _ => .inl rfl, fun _ _ _ => rfl, (fun _ q h => by cases h), fun _ => ?_, fun h => ?_, fun _ _ _ => rfl, fun _ _ _ => rfl, fun _ _ _ => Int.le_refl _, fun _ => rfl, fun _ => ?_, fun _ => rfl, fun _ => rfl⟩
  · show o.n = o.n + 0 - 0; omega
  · show 0 ≤ o.n ∧ o.n ≤ o.a
    unfold RP at hr; omega
  · show (false = true ↔ (0 : Int) < 0)
    constructor
    · intro h; cases h
    · intro h; omega
/-- one step of object i: both answer alike, and what is done is written down -/
structure St1 (i : Nat) (t : Int) (o : O) (f : Nat → Stp) (m : Nat) (x : Ak) (p : Out) (q : RB) : Prop where
  r : p.r = q.r
  ok : p.ok = q.ok
  ag : p.ok = true → Ag i t o (snoc f m ⟨x, p.r⟩) (m + 1) p.s
section
variable {i : Nat} {t : Int} {o : O} {f : Nat → Stp} {m : Nat} {s : St} {x : Ak}
theorem own1_eq {h : Int} {e : Stp} (hx : e.x.obj = i) : own1 i h e = if (e.x.call = 1 ∧ e.r = 0) ∨ (e.x.call = 9 ∧ e.r = 5) then e.x.who else if (e.x.call = 2 ∨ e.x.call = 10) ∧ e.r = 0 ∧ h = e.x.who then -1 else h := by
  unfold own1; rw [if_neg (fun h => h hx)]
theorem put1_no {h : Nat → Int} {e : Stp} (hc : e.x.call ≠ 4 ∨ e.r ≠ 0) : put1 i h e = h := by unfold put1; rw [if_neg (fun h' => by rcases hc with hc | hc; exact hc h'.2.1; exact hc h'.2.2)]
theorem Ag.mk1 (hk : o.k ≠ 11 ∧ o.k ≠ 12 ∧ o.k ≠ 13 ∧ o.k ≠ 14 ∧ o.k ≠ 15) (h1 : s.o = o) (h2 : s.owner = ownN i f m) (h3 : ownN i f m = -1 ∨ (0 ≤ ownN i f m ∧ ownN i f m < t)) (h4 : o.k = 9 → s.data = datN i f m) (h5 : o.k = 9 → s.draft = putN i f m) : Ag i t o f m s :=
  ⟨h1, fun _ _ _ => h2, fun _ _ _ => h3, fun h => absurd h hk.2.2.2.1, fun h => absurd h hk.2.2.2.1, fun h => absurd h hk.1, fun h => absurd h hk.1, fun h => absurd h hk.2.2.1, fun h => absurd h hk.2.2.1, fun h => absurd h hk.2.2.1, fun h => absurd h hk.2.2.1, fun h => absurd h hk.2.2.2.2, h4, h5⟩
theorem ag_same (hk : o.k ≠ 11 ∧ o.k ≠ 12 ∧ o.k ≠ 13 ∧ o.k ≠ 14 ∧ o.k ≠ 15) (hA : Ag i t o f m s) {e : Stp} (hx : e.x.obj = i) (h1 : ¬ ((e.x.call = 1 ∧ e.r = 0) ∨ (e.x.call = 9 ∧ e.r = 5))) (h2 : ¬ ((e.x.call = 2 ∨ e.x.call = 10) ∧ e.r = 0)) (h3 : e.x.call ≠ 4 ∨ e.r ≠ 0) : Ag i t o (snoc f m e) (m + 1) s := by
  have e1 : ownN i (snoc f m e) (m + 1) = ownN i f m := by rw [own_sn, own1_eq hx, if_neg h1, if_neg (fun h => h2 ⟨h.1, h.2.1⟩)]
  have e2 : putN i (snoc f m e) (m + 1) = putN i f m := by rw [put_sn, put1_no h3]
  have e3 : datN i (snoc f m e) (m + 1) = datN i f m := by rw [dat_sn, if_neg (fun h => h2 ⟨.inl h.2.1, h.2.2⟩)]
  refine Ag.mk1 hk hA.ob ?_ ?_ ?_ ?_
  · rw [e1]; exact hA.own hk.1 hk.2.1 hk.2.2.1
  · rw [e1]; exact hA.rng hk.1 hk.2.1 hk.2.2.1
  · rw [e3]; exact hA.dat
  · rw [e2]; exact hA.drf
theorem lock_step (hk : o.k ≠ 11 ∧ o.k ≠ 12 ∧ o.k ≠ 13 ∧ o.k ≠ 14 ∧ o.k ≠ 15) (hA : Ag i t o f m s) (hx : x.obj = i) (hw : 0 ≤ x.who ∧ x.who < t) (hc : x.call = 1 ∨ x.call = 2) : St1 i t o f m x (lockP s x) (lockR (ownN i f m) x.who x.call) := by
  have ho := hA.own hk.1 hk.2.1 hk.2.2.1
  have hr := hA.rng hk.1 hk.2.1 hk.2.2.1
  unfold lockP lockR
  rw [ho]
  generalize hz : ownN i f m = h at *
  by_cases c2 : x.call = 2
  · rw [if_pos c2, if_neg (show ¬ x.call = 1 by omega)]
    by_cases e : h = x.who
    · rw [if_pos e, if_pos e]
      refine ⟨rfl, rfl, fun _ => Ag.mk1 hk hA.ob ?_ ?_ ?_ ?_⟩
      · rw [own_sn, own1_eq hx, if_neg (by simp only; omega), if_pos ⟨.inl c2, rfl, by rw [hz]; exact e⟩]
      · left; rw [own_sn, own1_eq hx, if_neg (by simp only; omega), if_pos ⟨.inl c2, rfl, by rw [hz]; exact e⟩]
      · intro h9; rw [dat_sn, if_pos ⟨hx, c2, rfl⟩]; exact hA.drf h9
      · intro h9; rw [put_sn, put1_no (.inl (by simp only; omega))]; exact hA.drf h9
    · rw [if_neg e, if_neg e]
      exact ⟨rfl, rfl, fun _ => ag_same hk hA hx (by simp only; omega) (by simp only; omega) (.inl (by simp only; omega))⟩
  · have c1 : x.call = 1 := by omega
    rw [if_neg c2, if_pos c1]
    by_cases e : h = x.who
    · rw [if_pos e, if_pos e]
      exact ⟨rfl, rfl, fun _ => ag_same hk hA hx (by simp only; omega) (by simp only; omega) (.inl (by simp only; omega))⟩
    · rw [if_neg e, if_neg e]
      by_cases g : h = -1
      · rw [if_pos g, if_neg (show ¬ 0 ≤ h by omega)]
        have en : ownN i (snoc f m ⟨x, 0⟩) (m + 1) = x.who := by rw [own_sn, own1_eq hx, if_pos (.inl ⟨c1, rfl⟩)]
        refine ⟨rfl, rfl, fun _ => Ag.mk1 hk hA.ob ?_ ?_ ?_ ?_⟩
        · rw [en]
        · rw [en]; exact .inr hw
        · intro h9; rw [dat_sn, if_neg (fun h => by have := h.2.1; simp only at this; omega)]; exact hA.dat h9
        · intro h9; rw [put_sn, put1_no (.inl (by simp only; omega))]; exact hA.drf h9
      · rw [if_neg g, if_pos (show 0 ≤ h by omega)]
        exact ⟨rfl, rfl, fun h => by cases h⟩
theorem put_step (h9 : o.k = 9) (hA : Ag i t o f m s) (hx : x.obj = i) (hc : x.call = 4) : St1 i t o f m x (if s.owner = x.who then ⟨{ s with draft := upF s.draft x.arg.toNat x.val }, 0, true⟩ else ⟨s, 2, true⟩) (lockR (ownN i f m) x.who x.call) := by
  have hk : o.k ≠ 11 ∧ o.k ≠ 12 ∧ o.k ≠ 13 ∧ o.k ≠ 14 ∧ o.k ≠ 15 := by omega
  have ho := hA.own hk.1 hk.2.1 hk.2.2.1
  have hr := hA.rng hk.1 hk.2.1 hk.2.2.1
  unfold lockR
  rw [if_neg (show ¬ x.call = 1 by omega), ho]
  by_cases e : ownN i f m = x.who
  · rw [if_pos e, if_pos e]
    have en : ownN i (snoc f m ⟨x, 0⟩) (m + 1) = ownN i f m := by rw [own_sn, own1_eq hx, if_neg (by simp only; omega), if_neg (by simp only; omega)]
    refine ⟨rfl, rfl, fun _ => Ag.mk1 hk hA.ob ?_ ?_ ?_ ?_⟩
    · rw [en]
    · rw [en]; exact hr
    · intro _; rw [dat_sn, if_neg (fun h => by have := h.2.1; simp only at this; omega)]; exact hA.dat h9
    · intro _; rw [put_sn]; unfold put1; rw [if_pos ⟨hx, hc, rfl⟩, ← hA.drf h9]
  · rw [if_neg e, if_neg e]
    exact ⟨rfl, rfl, fun _ => ag_same hk hA hx (by simp only; omega) (by simp only; omega) (.inr (by simp))⟩
theorem sem_step (h11 : o.k = 11) (hA : Ag i t o f m s) (hx : x.obj = i) (hp : x.part = 0) (hn : o.a ≤ 1000) (hc : x.call = 1 ∨ x.call = 2) : St1 i t o f m x (semP s x) (semR o.n o.a (manN i 2 0 (-1) f m) (manN i 1 0 (-1) f m) x.call) := by
  have hs := hA.sem h11
  obtain ⟨r0, r1⟩ := hA.semr h11
  have e2 : ∀ r, manN i 2 0 (-1) (snoc f m ⟨x, r⟩) (m + 1) = if x.call = 2 ∧ r = 0 then manN i 2 0 (-1) f m + 1 else manN i 2 0 (-1) f m := fun r => by
    rw [man_sn]; unfold man1 manC; simp [hx, hp]
  have e1 : ∀ r, manN i 1 0 (-1) (snoc f m ⟨x, r⟩) (m + 1) = if x.call = 1 ∧ r = 0 then manN i 1 0 (-1) f m + 1 else manN i 1 0 (-1) f m := fun r => by
    rw [man_sn]; unfold man1 manC; simp [hx, hp]
  have mk : ∀ (r c : Int), 0 ≤ c → c ≤ o.a → c = o.n + manN i 2 0 (-1) (snoc f m ⟨x, r⟩) (m + 1) - manN i 1 0 (-1) (snoc f m ⟨x, r⟩) (m + 1) → Ag i t o (snoc f m ⟨x, r⟩) (m + 1) { s with count := c } := fun r c h1 h2 h3 =>
    ⟨hA.ob, fun h => absurd h11 h, fun h => absurd h11 h, fun h => by omega, fun h => by omega, fun _ => h3, fun _ => ⟨h1, h2⟩, fun h => by omega, fun h => by omega, fun h => by omega, fun h => by omega, fun h => by omega, fun h => by omega, fun h => by omega⟩
  unfold semP semR
  have hoa : s.o.a = o.a := by rw [hA.ob]
  rw [hoa, ← hs]
  by_cases c2 : x.call = 2
  · rw [if_pos c2, if_pos c2]
    by_cases e : s.count = o.a
    · rw [if_pos e, if_pos e]
      refine ⟨rfl, rfl, fun _ => mk 3 s.count r0 r1 ?_⟩
      rw [e1, e2, if_neg (by omega), if_neg (by omega)]; exact hs
    · rw [if_neg e, if_neg e]
      have hwr : IntKind.i64.wrap (s.count + 1) = s.count + 1 := by simp only [IntKind.wrap_i64]; omega
      rw [hwr]
      refine ⟨rfl, rfl, fun _ => mk 0 (s.count + 1) (by omega) (by omega) ?_⟩
      rw [e1, e2, if_pos (show x.call = 2 ∧ (0 : Int) = 0 from ⟨c2, rfl⟩), if_neg (show ¬ (x.call = 1 ∧ (0 : Int) = 0) by omega)]; omega
  · have c1 : x.call = 1 := by omega
    rw [if_neg c2, if_neg c2]
    by_cases e : s.count = 0
    · rw [if_pos e, if_pos e]
      exact ⟨rfl, rfl, fun h => by cases h⟩
    · rw [if_neg e, if_neg e]
      have hwr : IntKind.i64.wrap (s.count - 1) = s.count - 1 := by simp only [IntKind.wrap_i64]; omega
      rw [hwr]
      refine ⟨rfl, rfl, fun _ => mk 0 (s.count - 1) (by omega) (by omega) ?_⟩
      rw [e1, e2, if_pos (show x.call = 1 ∧ (0 : Int) = 0 from ⟨c1, rfl⟩), if_neg (show ¬ (x.call = 2 ∧ (0 : Int) = 0) by omega)]; omega
theorem once_step (h15 : o.k = 15) (hA : Ag i t o f m s) (hx : x.obj = i) (hp : x.part = 0) (hw : 0 ≤ x.who ∧ x.who < t) (hc : x.call = 9 ∨ x.call = 10) : St1 i t o f m x (onceP s x) (onceR (ownN i f m) x.who x.call (manN i 10 0 (-1) f m)) := by
  have ho := hA.own (by omega) (by omega) (by omega)
  have hr := hA.rng (by omega) (by omega) (by omega)
  have hd := hA.dn h15
  obtain ⟨hn0, -⟩ := man_nn i 10 0 (-1) f m
  have e1 : ∀ r, manN i 10 0 (-1) (snoc f m ⟨x, r⟩) (m + 1) = if x.call = 10 ∧ r = 0 then manN i 10 0 (-1) f m + 1 else manN i 10 0 (-1) f m := fun r => by
    rw [man_sn]; unfold man1 manC; simp [hx, hp]
  have mk : ∀ (r w : Int) (d : Bool), w = ownN i (snoc f m ⟨x, r⟩) (m + 1) → (w = -1 ∨ (0 ≤ w ∧ w < t)) → (d = true ↔ 0 < manN i 10 0 (-1) (snoc f m ⟨x, r⟩) (m + 1)) → Ag i t o (snoc f m ⟨x, r⟩) (m + 1) { s with owner := w, done := d } := fun r w d h1 h2 h3 =>
    ⟨hA.ob, fun _ _ _ => h1, fun _ _ _ => by rw [← h1]; exact h2, fun h => by omega, fun h => by omega, fun h => by omega, fun h => by omega, fun h => by omega, fun h => by omega, fun h => by omega, fun h => by omega, fun _ => h3, fun h => by omega, fun h => by omega⟩
  have ow : ∀ r, ownN i (snoc f m ⟨x, r⟩) (m + 1) = if (x.call = 1 ∧ r = 0) ∨ (x.call = 9 ∧ r = 5) then x.who else if (x.call = 2 ∨ x.call = 10) ∧ r = 0 ∧ ownN i f m = x.who then -1 else ownN i f m := fun r => by rw [own_sn, own1_eq hx]
  unfold onceP onceR
  rw [ho]
  generalize hz : ownN i f m = h at *
  by_cases c2 : x.call = 10
  · rw [if_pos c2, if_pos c2]
    by_cases e : h = x.who
    · rw [if_pos e, if_pos e]
      refine ⟨rfl, rfl, fun _ => mk 0 (-1) true ?_ (.inl rfl) ?_⟩
      · rw [ow, if_neg (by omega), if_pos ⟨.inr c2, rfl, e⟩]
      · rw [e1, if_pos ⟨c2, rfl⟩]; simp; omega
    · rw [if_neg e, if_neg e]
      refine ⟨rfl, rfl, fun _ => ?_⟩
      have := mk 2 s.owner s.done (by rw [ow, if_neg (by omega), if_neg (by omega)]; exact ho) (by rw [ho]; exact hr) (by rw [e1, if_neg (by omega)]; exact hd)
      exact this
  · have c1 : x.call = 9 := by omega
    rw [if_neg c2, if_neg c2]
    by_cases e : h = x.who
    · rw [if_pos e, if_pos e]
      refine ⟨rfl, rfl, fun _ => ?_⟩
      have := mk 1 s.owner s.done (by rw [ow, if_neg (by omega), if_neg (by omega)]; exact ho) (by rw [ho]; exact hr) (by rw [e1, if_neg (by omega)]; exact hd)
      exact this
    · rw [if_neg e, if_neg e]
      by_cases g : s.done = true
      · rw [if_pos g, if_pos (hd.1 g)]
        refine ⟨rfl, rfl, fun _ => ?_⟩
        have := mk 0 s.owner s.done (by rw [ow, if_neg (by omega), if_neg (by omega)]; exact ho) (by rw [ho]; exact hr) (by rw [e1, if_neg (by omega)]; exact hd)
        exact this
      · rw [if_neg g, if_neg (fun h => g (hd.2 h))]
        by_cases g2 : 0 ≤ h
        · rw [if_pos g2, if_pos g2]; exact ⟨rfl, rfl, fun h => by cases h⟩
        · rw [if_neg g2, if_neg g2]
          refine ⟨rfl, rfl, fun _ => ?_⟩
          have := mk 5 x.who s.done (by rw [ow, if_pos (.inr ⟨c1, rfl⟩)]) (.inr hw) (by rw [e1, if_neg (by omega)]; exact hd)
          exact this
theorem anyR_iff (g : Nat → Bool) : anyR g = true ↔ ∃ q, q < 8 ∧ g q = true := by
  unfold anyR
  constructor
  · intro h
    simp only [Bool.or_eq_true] at h
    rcases h with ((((((h | h) | h) | h) | h) | h) | h) | h
    · exact ⟨0, by omega, h⟩
    · exact ⟨1, by omega, h⟩
    · exact ⟨2, by omega, h⟩
    · exact ⟨3, by omega, h⟩
    · exact ⟨4, by omega, h⟩
    · exact ⟨5, by omega, h⟩
    · exact ⟨6, by omega, h⟩
    · exact ⟨7, by omega, h⟩
  · rintro ⟨q, hq, h⟩
    have : q = 0 ∨ q = 1 ∨ q = 2 ∨ q = 3 ∨ q = 4 ∨ q = 5 ∨ q = 6 ∨ q = 7 := by omega
    rcases this with rfl | rfl | rfl | rfl | rfl | rfl | rfl | rfl <;> simp [h]
theorem rw_step (h14 : o.k = 14) (hA : Ag i t o f m s) (hx : x.obj = i) (q : Nat) (hq : x.who = q) (hqt : (q : Int) < t) (ht : t ≤ 8) (hc : x.call = 1 ∨ x.call = 2 ∨ x.call = 3) : St1 i t o f m x (rwP s q x.call) (rwR (ownN i f m) x.who x.call (rdsN i x.who f m) (busyR t i x.call f m)) := by
  have ho := hA.own (by omega) (by omega) (by omega)
  have hr := hA.rng (by omega) (by omega) (by omega)
  have hrd := hA.rd h14
  have hrdt := hA.rdt h14
  have hq8 : q < 8 := by omega
  have rn : ∀ (r : Int) (q' : Nat), rdsN i q' (snoc f m ⟨x, r⟩) (m + 1) = if q ≠ q' ∨ r ≠ 0 then rdsN i q' f m else if x.call = 3 then true else if x.call = 2 then false else rdsN i q' f m := fun r q' => by
    rw [rds_sn]; unfold rds1
    have e : (x.obj ≠ (i : Int) ∨ x.who ≠ (q' : Int) ∨ r ≠ 0) ↔ (q ≠ q' ∨ r ≠ 0) := by
      rw [hq]
      constructor
      · rintro (h | h | h)
        · exact absurd hx h
        · left; omega
        · exact .inr h
      · rintro (h | h)
        · right; left; omega
        · exact .inr (.inr h)
    simp only [e]
  have ow : ∀ r, ownN i (snoc f m ⟨x, r⟩) (m + 1) = if (x.call = 1 ∧ r = 0) ∨ (x.call = 9 ∧ r = 5) then x.who else if (x.call = 2 ∨ x.call = 10) ∧ r = 0 ∧ ownN i f m = x.who then -1 else ownN i f m := fun r => by rw [own_sn, own1_eq hx]
  have mk : ∀ (r w : Int) (R : Nat → Bool), w = ownN i (snoc f m ⟨x, r⟩) (m + 1) → (w = -1 ∨ (0 ≤ w ∧ w < t)) → (∀ q' : Nat, q' < 8 → R q' = rdsN i q' (snoc f m ⟨x, r⟩) (m + 1)) → Ag i t o (snoc f m ⟨x, r⟩) (m + 1) { s with owner := w, readers := R } := fun r w R h1 h2 h3 =>
    ⟨hA.ob, fun _ _ _ => h1, fun _ _ _ => by rw [← h1]; exact h2, fun _ => h3, fun _ q' hh => by
      rw [rn] at hh
      by_cases e : q = q'
      · omega
      · rw [if_pos (.inl e)] at hh; exact hrdt q' hh, fun h => by omega, fun h => by omega, fun h => by omega, fun h => by omega, fun h => by omega, fun h => by omega, fun h => by omega, fun h => by omega, fun h => by omega⟩
  have bt := fun q' : Nat => busy_t (t := t) (ob := i) (c := x.call) (f := f) (m := m) (q := q')
  have bf := busy_f (t := t) (ob := i) (c := x.call) (f := f) (m := m)
  have hrq : s.readers q = rdsN i x.who f m := by rw [hq]; exact hrd q hq8
  unfold rwP rwR
  rw [ho, ← hrq, hq]
  rw [hq] at ow
  generalize hz : ownN i f m = h at *
  by_cases c2 : x.call = 2
  · rw [if_pos c2, if_pos c2]
    by_cases e : h = q
    · rw [if_pos e, if_pos e]
      refine ⟨rfl, rfl, fun _ => mk 0 (-1) _ ?_ (.inl rfl) fun q' h8 => ?_⟩
      · rw [ow, if_neg (by omega), if_pos ⟨.inl c2, rfl, e⟩]
      · rw [rn]; unfold upF
        by_cases e' : q = q'
        · subst e'; rw [if_pos rfl, if_neg (by simp), if_neg (by omega), if_pos c2]
        · rw [if_neg (fun h => e' h.symm), if_pos (.inl e')]; exact hrd q' h8
    · rw [if_neg e, if_neg e]
      by_cases g : s.readers q = true
      · rw [if_pos g, if_pos g]
        refine ⟨rfl, rfl, fun _ => ?_⟩
        have := mk 0 s.owner (upF s.readers q false) (by rw [ow, if_neg (by omega), if_neg (by omega)]; exact ho) (by rw [ho]; exact hr) (fun q' h8 => by
          rw [rn]; unfold upF
          by_cases e' : q = q'
          · subst e'; rw [if_pos rfl, if_neg (by simp), if_neg (by omega), if_pos c2]
          · rw [if_neg (fun h => e' h.symm), if_pos (.inl e')]; exact hrd q' h8)
        rw [ho] at this
        exact this
      · rw [if_neg g, if_neg g]
        refine ⟨rfl, rfl, fun _ => ?_⟩
        have := mk 2 s.owner s.readers (by rw [ow, if_neg (by omega), if_neg (by omega)]; exact ho) (by rw [ho]; exact hr) (fun q' h8 => by rw [rn, if_pos (.inr (by omega))]; exact hrd q' h8)
        exact this
  · rw [if_neg c2, if_neg c2]
    by_cases mi : h = q ∨ s.readers q = true
    · rw [if_pos mi]
      have er : (if h = (q : Int) then (⟨1, true, 0⟩ : RB) else if s.readers q = true then ⟨1, true, 0⟩ else if busyR t i x.call f m = true then ⟨0, false, 0⟩ else ⟨0, true, 0⟩) = ⟨1, true, 0⟩ := by
        by_cases e : h = q
        · rw [if_pos e]
        · rw [if_neg e, if_pos (mi.resolve_left e)]
      rw [er]
      refine ⟨rfl, rfl, fun _ => ?_⟩
      have := mk 1 s.owner s.readers (by rw [ow, if_neg (by omega), if_neg (by omega)]; exact ho) (by rw [ho]; exact hr) (fun q' h8 => by rw [rn, if_pos (.inr (by omega))]; exact hrd q' h8)
      exact this
    · rw [if_neg mi, if_neg (fun h => mi (.inl h)), if_neg (fun h => mi (.inr h))]
      by_cases g : 0 ≤ h
      · rw [if_pos g, if_pos (bt h.toNat (by omega) (.inl (by omega)))]
        exact ⟨rfl, rfl, fun h => by cases h⟩
      · rw [if_neg g]
        by_cases c1 : x.call = 1
        · rw [if_pos c1]
          by_cases a : anyR s.readers = true
          · rw [if_pos a]
            obtain ⟨q', h8, hh⟩ := (anyR_iff _).1 a
            rw [hrd q' h8] at hh
            rw [if_pos (bt q' (hrdt q' hh) (.inr ⟨c1, hh⟩))]
            exact ⟨rfl, rfl, fun h => by cases h⟩
          · have hb : busyR t i x.call f m = false := bf fun q' hq' => ⟨by omega, fun _ => by
              rw [← hrd q' (by omega)]
              cases hh : s.readers q' with
              | false => rfl
              | true => exact absurd ((anyR_iff _).2 ⟨q', by omega, hh⟩) a⟩
            rw [if_neg a, if_neg (by rw [hb]; exact Bool.false_ne_true)]
            refine ⟨rfl, rfl, fun _ => ?_⟩
            have := mk 0 q s.readers (by rw [ow, if_pos (.inl ⟨c1, rfl⟩)]) (.inr (by omega)) (fun q' h8 => by
              rw [rn, if_neg (show ¬ x.call = 3 by omega), if_neg c2]; rw [ite_self]; exact hrd q' h8)
            exact this
        · have hb : busyR t i x.call f m = false := bf fun q' hq' => ⟨by omega, fun h => absurd h c1⟩
          rw [if_neg c1, if_neg (by rw [hb]; exact Bool.false_ne_true)]
          refine ⟨rfl, rfl, fun _ => ?_⟩
          have := mk 0 s.owner (upF s.readers q true) (by rw [ow, if_neg (by omega), if_neg (by omega)]; exact ho) (by rw [ho]; exact hr) (fun q' h8 => by
            rw [rn]; unfold upF
            by_cases e' : q = q'
            · subst e'; rw [if_pos rfl, if_neg (by simp), if_pos (by omega)]
            · rw [if_neg (fun h => e' h.symm), if_pos (.inl e')]; exact hrd q' h8)
          rw [ho] at this
          exact this
theorem bar_step (hm : m ≤ 4000) (h13 : o.k = 13) (hA : Ag i t o f m s) (hx : x.obj = i) (q : Nat) (hq : x.who = q) (hqt : (q : Int) < t) (ht : t ≤ 8) (hn : o.n ≤ 8) (hc : x.call = 9) : St1 i t o f m x (barP s q x.part x.arg) ⟨(barR o f m x).r, (barR o f m x).ok, 0⟩ := by
  have hq8 : q < 8 := by omega
  have hcm := hA.come h13
  have hlf := hA.left h13
  have hle := hA.le h13
  have hop := hA.opn h13
  have mn : ∀ (r p q' : Int), manN i 9 p q' (snoc f m ⟨x, r⟩) (m + 1) = if x.part = p ∧ r = 0 ∧ (q' < 0 ∨ (q : Int) = q') then manN i 9 p q' f m + 1 else manN i 9 p q' f m := fun r p q' => by
    rw [man_sn]; unfold man1 manC
    have e : (x.obj = (i : Int) ∧ x.call = 9 ∧ x.part = p ∧ r = 0 ∧ (q' < 0 ∨ x.who = q')) ↔ (x.part = p ∧ r = 0 ∧ (q' < 0 ∨ (q : Int) = q')) := by
      rw [hq]; exact ⟨fun h => h.2.2, fun h => ⟨hx, hc, h⟩⟩
    simp only [e]
  have mk : ∀ (r : Int) (C L : Nat → Int) (p : Int), (∀ q' : Nat, q' < 8 → C q' = manN i 9 1 q' (snoc f m ⟨x, r⟩) (m + 1)) → (∀ q' : Nat, q' < 8 → L q' = manN i 9 3 q' (snoc f m ⟨x, r⟩) (m + 1)) → (∀ q' : Nat, q' < 8 → L q' ≤ C q') → p = manN i 9 2 (-1) (snoc f m ⟨x, r⟩) (m + 1) → Ag i t o (snoc f m ⟨x, r⟩) (m + 1) { s with come := C, left := L, opened := p } := fun r C L p h1 h2 h3 h4 =>
    ⟨hA.ob, fun _ _ h => absurd h13 h, fun _ _ h => absurd h13 h, fun h => by omega, fun h => by omega, fun h => by omega, fun h => by omega, fun _ => h1, fun _ => h2, fun _ => h3, fun _ => h4, fun h => by omega, fun h => by omega, fun h => by omega⟩
  have same : ∀ r : Int, r ≠ 0 → Ag i t o (snoc f m ⟨x, r⟩) (m + 1) s := fun r h0 => by
    have := mk r s.come s.left s.opened (fun q' h8 => by rw [mn, if_neg (fun h => h0 h.2.1)]; exact hcm q' h8) (fun q' h8 => by rw [mn, if_neg (fun h => h0 h.2.1)]; exact hlf q' h8) hle (by rw [mn, if_neg (fun h => h0 h.2.1)]; exact hop)
    exact this
  have hcq := hcm q hq8
  have hlq := hlf q hq8
  have hleq := hle q hq8
  obtain ⟨b1, b1'⟩ := man_nn i 9 1 q f m
  obtain ⟨b2, b2'⟩ := man_nn i 9 2 (-1) f m
  obtain ⟨b3, b3'⟩ := man_nn i 9 3 q f m
  have hon : s.o.n = o.n := by rw [hA.ob]
  have hcl : closedB s = closedR i o f m := by
    unfold closedB closedR
    rw [hon, Bool.eq_iff_iff, List.any_eq_true, List.any_eq_true]
    have : ∀ q', q' ∈ List.range o.n.toNat → (decide (s.come q' ≤ s.opened) = decide (manN i 9 1 q' f m ≤ manN i 9 2 (-1) f m)) := fun q' hm' => by
      have := List.mem_range.1 hm'
      rw [hcm q' (by omega), hop]
    exact ⟨fun ⟨a, h1, h2⟩ => ⟨a, h1, by rw [← this a h1]; exact h2⟩, fun ⟨a, h1, h2⟩ => ⟨a, h1, by rw [this a h1]; exact h2⟩⟩
  unfold barP barR
  rw [hon, hcl, hx, hq]
  by_cases k1 : o.n ≤ q
  · rw [if_pos k1, if_pos k1]
    exact ⟨rfl, rfl, fun _ => same 4 (by omega)⟩
  rw [if_neg k1, if_neg k1]
  by_cases k2 : x.arg = o.n
  case neg =>
    rw [if_pos k2]
    have er : (if 8 < x.arg then (⟨3, true⟩ : RA) else if x.arg ≠ o.n then ⟨3, true⟩ else if x.part = 1 then (if manN i 9 1 q f m = manN i 9 3 q f m then ⟨0, true⟩ else ⟨0, false⟩) else if x.part = 2 then (if closedR i o f m = true then ⟨0, false⟩ else ⟨0, true⟩) else if x.part = 3 then (if manN i 9 3 q f m < manN i 9 1 q f m then (if manN i 9 1 q f m ≤ manN i 9 2 (-1) f m then ⟨0, true⟩ else ⟨0, false⟩) else ⟨0, false⟩) else ⟨0, false⟩) = ⟨3, true⟩ := by
      rw [if_pos k2]; rw [ite_self]
    rw [er]
    exact ⟨rfl, rfl, fun _ => same 3 (by omega)⟩
  rw [if_neg (fun h => h k2), if_neg (show ¬ 8 < x.arg by omega), if_neg (show ¬ (x.arg ≠ o.n) from fun h => h k2)]
  by_cases p1 : x.part = 1
  · rw [if_pos p1, if_pos p1]
    by_cases e : s.left q < s.come q
    · rw [if_pos e, if_neg (by omega)]
      exact ⟨rfl, rfl, fun h => by cases h⟩
    · rw [if_neg e, if_pos (by omega)]
      have hw : IntKind.i64.wrap (s.come q + 1) = s.come q + 1 := by simp only [IntKind.wrap_i64]; omega
      rw [hw]
      refine ⟨rfl, rfl, fun _ => ?_⟩
      have := mk 0 (upF s.come q (s.come q + 1)) s.left s.opened (fun q' h8 => by
          rw [mn]; unfold upF
          by_cases e' : q' = q
          · subst e'; rw [if_pos rfl, if_pos ⟨p1, rfl, .inr rfl⟩, hcq]
          · rw [if_neg e', if_neg (by omega)]; exact hcm q' h8)
        (fun q' h8 => by rw [mn, if_neg (by omega)]; exact hlf q' h8)
        (fun q' h8 => by
          unfold upF
          by_cases e' : q' = q
          · subst e'; rw [if_pos rfl]; omega
          · rw [if_neg e']; exact hle q' h8)
        (by rw [mn, if_neg (by omega)]; exact hop)
      exact this
  rw [if_neg p1, if_neg p1]
  by_cases p2 : x.part = 2
  · rw [if_pos p2, if_pos p2]
    by_cases e : closedR i o f m = true
    · rw [if_pos e, if_pos e]
      exact ⟨rfl, rfl, fun h => by cases h⟩
    · rw [if_neg e, if_neg e]
      have hw : IntKind.i64.wrap (s.opened + 1) = s.opened + 1 := by simp only [IntKind.wrap_i64]; omega
      rw [hw]
      refine ⟨rfl, rfl, fun _ => ?_⟩
      have := mk 0 s.come s.left (s.opened + 1) (fun q' h8 => by rw [mn, if_neg (by omega)]; exact hcm q' h8) (fun q' h8 => by rw [mn, if_neg (by omega)]; exact hlf q' h8) hle (by rw [mn, if_pos ⟨p2, rfl, .inl (by omega)⟩, hop])
      exact this
  rw [if_neg p2, if_neg p2]
  by_cases p3 : x.part = 3
  · rw [if_pos p3, if_pos p3]
    by_cases e : s.come q = s.left q
    · rw [if_pos e, if_neg (by omega)]
      exact ⟨rfl, rfl, fun h => by cases h⟩
    · rw [if_neg e, if_pos (show manN i 9 3 q f m < manN i 9 1 q f m by omega)]
      by_cases g : s.opened < s.come q
      · rw [if_pos g, if_neg (by omega)]
        exact ⟨rfl, rfl, fun h => by cases h⟩
      · rw [if_neg g, if_pos (by omega)]
        have hw : IntKind.i64.wrap (s.left q + 1) = s.left q + 1 := by simp only [IntKind.wrap_i64]; omega
        rw [hw]
        refine ⟨rfl, rfl, fun _ => ?_⟩
        have := mk 0 s.come (upF s.left q (s.left q + 1)) s.opened (fun q' h8 => by rw [mn, if_neg (by omega)]; exact hcm q' h8) (fun q' h8 => by
            rw [mn]; unfold upF
            by_cases e' : q' = q
            · subst e'; rw [if_pos rfl, if_pos ⟨p3, rfl, .inr rfl⟩, hlq]
            · rw [if_neg e', if_neg (by omega)]; exact hlf q' h8)
          (fun q' h8 => by
            unfold upF
            by_cases e' : q' = q
            · subst e'; rw [if_pos rfl]; omega
            · rw [if_neg e']; exact hle q' h8)
          (by rw [mn, if_neg (by omega)]; exact hop)
        exact this
  rw [if_neg p3, if_neg p3]
  exact ⟨rfl, rfl, fun h => by cases h⟩
theorem go_step (hm : m ≤ 4000) (hA : Ag i t o f m s) (hx : x.obj = i) : St1 i t o f m x (goA t s x) (if mayS o x.call t x.who = true then refG t o f m x else ⟨0, false, 0⟩) ∧ goD t s x = (if mayS o x.call t x.who = true then refG t o f m x else ⟨0, false, 0⟩).dn := by
  have hob := hA.ob
  have nope : goA t s x = ⟨s, 0, false⟩ → St1 i t o f m x (goA t s x) ⟨0, false, 0⟩ ∧ goD t s x = (⟨0, false, 0⟩ : RB).dn := fun h => by
    rw [goD_no (by rw [h]), h]
    exact ⟨⟨rfl, rfl, fun h => by cases h⟩, rfl⟩
  have G0 : goA t s x = if mayS o x.call t x.who = true ∧ ¬ (x.call = 4 ∧ o.n ≤ x.arg) then (if o.k ≠ 13 ∧ x.part ≠ 0 then ⟨s, 0, false⟩ else if o.k = 9 then seqP s x else kindP s x) else ⟨s, 0, false⟩ := by
    unfold goA; rw [hob]
  have kp : kindP s x = if o.k = 6 ∨ o.k = 7 then duoP s x else if o.k = 11 then semP s x else if o.k = 12 then ⟨s, 0, true⟩ else if o.k = 13 then barP s x.who.toNat x.part x.arg else if o.k = 14 then rwP s x.who.toNat x.call else if o.k = 15 then onceP s x else lockP s x := by
    unfold kindP; rw [hob]
  by_cases hm' : mayS o x.call t x.who = true
  case neg =>
    rw [if_neg hm']
    exact nope (by rw [G0, if_neg (fun h => hm' h.1)])
  rw [if_pos hm']
  obtain ⟨u0, u1, hRP, hmay⟩ := mayS_t hm'
  have htab := may_tab hmay
  have ht8 : t ≤ 8 := hRP.2.1
  have gd : o.k ≠ 9 ∨ x.call ≠ 3 → goD t s x = 0 := fun h => by
    unfold goD; rw [hob]; exact if_neg (fun h' => by omega)
  have hqq : x.who = (x.who.toNat : Int) := by omega
  by_cases k13 : o.k = 13
  · have G : goA t s x = barP s x.who.toNat x.part x.arg := by
      rw [G0, if_pos ⟨hm', by omega⟩, if_neg (fun h => h.1 k13), if_neg (by omega), kp, if_neg (by omega), if_neg (by omega), if_neg (by omega), if_pos k13]
    have R : refG t o f m x = ⟨(barR o f m x).r, (barR o f m x).ok, 0⟩ := by unfold refG; rw [if_pos k13]
    rw [G, R]
    exact ⟨bar_step hm k13 hA hx _ hqq (by omega) ht8 (by unfold RP at hRP; omega) (by omega), gd (by omega)⟩
  by_cases p0 : x.part = 0
  case neg =>
    have R : refG t o f m x = ⟨0, false, 0⟩ := by unfold refG; rw [if_neg k13, if_pos p0]
    rw [R]
    refine nope ?_
    rw [G0]
    split
    · rw [if_pos ⟨k13, p0⟩]
    · rfl
  by_cases c4 : x.call = 4 ∧ o.n ≤ x.arg
  · have R : refG t o f m x = ⟨0, false, 0⟩ := by unfold refG; rw [if_neg k13, if_neg (fun h => h p0), if_pos ⟨c4.1, .inr c4.2⟩]
    rw [R]
    exact nope (by rw [G0, if_neg (fun h => h.2 c4)])
  have G1 : goA t s x = if o.k = 9 then seqP s x else kindP s x := by
    rw [G0, if_pos ⟨hm', c4⟩, if_neg (fun h => h.2 p0)]
  have hn9 : o.k = 9 → o.n ≤ 3 := fun h => by unfold RP at hRP; omega
  have R1 : refG t o f m x = if o.k = 12 then ⟨0, true, 0⟩
      else if o.k = 11 then semR o.n o.a (manN x.obj 2 0 (-1) f m) (manN x.obj 1 0 (-1) f m) x.call
      else if (o.k = 6 ∨ o.k = 7) ∧ x.who ≠ o.a ∧ x.who ≠ o.b then ⟨4, true, 0⟩
      else if o.k = 9 ∧ x.call = 3 then ⟨0, true, o.n.toNat⟩
      else if o.k = 14 then rwR (ownN x.obj f m) x.who x.call (rdsN x.obj x.who f m) (busyR t x.obj x.call f m)
      else if o.k = 15 then onceR (ownN x.obj f m) x.who x.call (manN x.obj 10 0 (-1) f m)
      else lockR (ownN x.obj f m) x.who x.call := by
    unfold refG; rw [if_neg k13, if_neg (fun h => h p0), if_neg (by omega)]
  rw [hx] at R1
  by_cases k12 : o.k = 12
  · have G : goA t s x = ⟨s, 0, true⟩ := by rw [G1, if_neg (by omega), kp, if_neg (by omega), if_neg (by omega), if_pos k12]
    rw [G, R1, if_pos k12]
    refine ⟨⟨rfl, rfl, fun _ => ?_⟩, gd (by omega)⟩
    exact ⟨hob, fun _ h => absurd k12 h, fun _ h => absurd k12 h, fun h => by omega, fun h => by omega, fun h => by omega, fun h => by omega, fun h => by omega, fun h => by omega, fun h => by omega, fun h => by omega, fun h => by omega, fun h => by omega, fun h => by omega⟩
  by_cases k11 : o.k = 11
  · have G : goA t s x = semP s x := by rw [G1, if_neg (by omega), kp, if_neg (by omega), if_pos k11]
    rw [G, R1, if_neg k12, if_pos k11]
    refine ⟨sem_step k11 hA hx p0 (by unfold RP at hRP; omega) (by omega), ?_⟩
    rw [gd (by omega)]; unfold semR; repeat' split
    all_goals rfl
  by_cases k67 : o.k = 6 ∨ o.k = 7
  · have G : goA t s x = duoP s x := by rw [G1, if_neg (by omega), kp, if_pos k67]
    have oa : s.o.a = o.a := by rw [hob]
    have ob : s.o.b = o.b := by rw [hob]
    rw [G, R1, if_neg k12, if_neg k11]
    unfold duoP
    rw [oa, ob]
    by_cases w : x.who = o.a ∨ x.who = o.b
    · rw [if_pos w, if_neg (show ¬ ((o.k = 6 ∨ o.k = 7) ∧ x.who ≠ o.a ∧ x.who ≠ o.b) by omega), if_neg (show ¬ (o.k = 9 ∧ x.call = 3) by omega), if_neg (show ¬ o.k = 14 by omega), if_neg (show ¬ o.k = 15 by omega)]
      refine ⟨lock_step (by omega) hA hx ⟨u0, u1⟩ (by omega), ?_⟩
      rw [gd (by omega)]; unfold lockR; repeat' split
      all_goals rfl
    · rw [if_neg w, if_pos ⟨k67, by omega, by omega⟩]
      exact ⟨⟨rfl, rfl, fun _ => ag_same (by omega) hA hx (by simp only; omega) (by simp only; omega) (.inr (by simp))⟩, gd (by omega)⟩
  by_cases k9 : o.k = 9
  · rw [R1, if_neg k12, if_neg k11, if_neg (fun h => k67 h.1)]
    rw [if_pos k9] at G1
    rw [G1]
    have hk : o.k ≠ 11 ∧ o.k ≠ 12 ∧ o.k ≠ 13 ∧ o.k ≠ 14 ∧ o.k ≠ 15 := by omega
    unfold seqP
    by_cases c4' : x.call = 4
    · rw [if_pos c4', if_neg (show ¬ (o.k = 9 ∧ x.call = 3) by omega), if_neg (show ¬ o.k = 14 by omega), if_neg (show ¬ o.k = 15 by omega)]
      refine ⟨put_step k9 hA hx c4', ?_⟩
      rw [gd (by omega)]; unfold lockR; repeat' split
      all_goals rfl
    · rw [if_neg c4']
      by_cases c3 : x.call = 3
      · rw [if_pos c3, if_pos ⟨k9, c3⟩]
        refine ⟨⟨rfl, rfl, fun _ => ag_same hk hA hx (by simp only; omega) (by simp only; omega) (.inl (by simp only; omega))⟩, ?_⟩
        unfold goD
        rw [hob, if_pos ⟨k9, c3, by rw [G1]; unfold seqP; rw [if_neg c4', if_pos c3]⟩]
      · rw [if_neg c3, if_neg (show ¬ (o.k = 9 ∧ x.call = 3) by omega), if_neg (show ¬ o.k = 14 by omega), if_neg (show ¬ o.k = 15 by omega)]
        refine ⟨lock_step hk hA hx ⟨u0, u1⟩ (by omega), ?_⟩
        rw [gd (by omega)]; unfold lockR; repeat' split
        all_goals rfl
  rw [if_neg k9] at G1
  rw [R1, if_neg k12, if_neg k11, if_neg (fun h => k67 h.1), if_neg (fun h => k9 h.1), gd (.inl k9)]
  by_cases k14 : o.k = 14
  · have G : goA t s x = rwP s x.who.toNat x.call := by rw [G1, kp, if_neg k67, if_neg k11, if_neg k12, if_neg k13, if_pos k14]
    rw [G, if_pos k14]
    refine ⟨rw_step k14 hA hx _ hqq (by omega) ht8 (by omega), ?_⟩
    unfold rwR; repeat' split
    all_goals rfl
  by_cases k15 : o.k = 15
  · have G : goA t s x = onceP s x := by rw [G1, kp, if_neg k67, if_neg k11, if_neg k12, if_neg k13, if_neg k14, if_pos k15]
    rw [G, if_neg k14, if_pos k15]
    refine ⟨once_step k15 hA hx p0 ⟨u0, u1⟩ (by omega), ?_⟩
    unfold onceR; repeat' split
    all_goals rfl
  have G : goA t s x = lockP s x := by rw [G1, kp, if_neg k67, if_neg k11, if_neg k12, if_neg k13, if_neg k14, if_neg k15]
  rw [G, if_neg k14, if_neg k15]
  refine ⟨lock_step ⟨k11, k12, k13, k14, k15⟩ hA hx ⟨u0, u1⟩ (by omega), ?_⟩
  unfold lockR; repeat' split
  all_goals rfl
end
end Go.Proofs.YtobkonbpcnmgpaaDoor
