/- What a thread has, op by op; where a client breaks a rule first: plain. -/
import Derived.Test.YtlcoealfnlakhaaDoorKCall
namespace Go.Proofs.YtlcoealfnlakhaaDoor
open Go.RowKit
set_option linter.unusedVariables false
set_option linter.unusedSimpArgs false
def stP (C : Cl) (l : Nat → X) : Nat → (Nat → Int)
  | 0 => fun _ => 0
  | i + 1 => nxP C (stP C l i) (l i)
def badP (rise : Bool) (C : Cl) (t i : Nat) : Bool := (rise && !risesB C (stP C (C.op t) i) (C.op t i)) || !kpP C t (stP C (C.op t) i) (C.op t i)
def thrK (rise : Bool) (C : Cl) (t : Nat) : Option T3 :=
  (scan (fun i => if badP rise C t i then some (((t : Int), (i : Int), 7) : T3) else none) (C.len t)).or (if zeroB C.no (stP C (C.op t) (C.len t)) then none else some ((t : Int), (C.len t : Int), 7))
def kp (rise : Bool) (C : Cl) : T3 := if (chk C).2.2 ≠ 0 then chk C else (scan (thrK rise C) C.nt).getD (0, 0, 0)
theorem kp_err {rise : Bool} {C : Cl} (h : (chk C).2.2 ≠ 0) : kp rise C = chk C := if_pos h
section
variable {rise : Bool} {C : Cl}
theorem kp_thr (h : (chk C).2.2 = 0) {t : Nat} {r : T3} (ht : t < C.nt) (hp : ∀ j, j < t → thrK rise C j = none) (e : thrK rise C t = some r) : kp rise C = r := by
  unfold kp; rw [if_neg (by simp [h]), scan_some ht hp e]; rfl
theorem kp_fine (h : (chk C).2.2 = 0) (hp : ∀ j, j < C.nt → thrK rise C j = none) : kp rise C = (0, 0, 0) := by
  unfold kp; rw [if_neg (by simp [h]), scan_none hp]; rfl
theorem thrK_op {t i : Nat} (hi : i < C.len t) (hp : ∀ j, j < i → badP rise C t j = false) (e : badP rise C t i = true) : thrK rise C t = some ((t : Int), (i : Int), 7) := by
  unfold thrK
  rw [scan_some (r := ((t : Int), (i : Int), 7)) hi (fun j hj => by rw [hp j hj]; rfl) (by rw [e]; rfl)]; rfl
theorem thrK_end {t : Nat} (hp : ∀ j, j < C.len t → badP rise C t j = false) (e : zeroB C.no (stP C (C.op t) (C.len t)) = false) : thrK rise C t = some ((t : Int), (C.len t : Int), 7) := by
  unfold thrK
  rw [scan_none (fun j hj => by rw [hp j hj]; rfl), e]; rfl
theorem thrK_ok {t : Nat} (hp : ∀ j, j < C.len t → badP rise C t j = false) (e : zeroB C.no (stP C (C.op t) (C.len t)) = true) : thrK rise C t = none := by
  unfold thrK
  rw [scan_none (fun j hj => by rw [hp j hj]; rfl), e]; rfl
end
theorem scan_get {R : Type} {g : Nat → Option R} {n : Nat} {r : R} (h : scan g n = some r) : ∃ k, k < n ∧ g k = some r ∧ ∀ j, j < k → g j = none := by
  induction n with
  | zero => simp [scan] at h
  | succ n ih =>
    unfold scan at h ih
    rw [List.range_succ, List.findSome?_append] at h
    cases e : List.findSome? g (List.range n) with
    | some r' =>
      rw [e] at h ih
      obtain ⟨k, hk, e', hp⟩ := ih (by simpa using h)
      exact ⟨k, by omega, e', hp⟩
    | none =>
      rw [e] at h
      simp at h
      rw [List.findSome?_eq_none_iff] at e
      exact ⟨n, by omega, h, fun j hj => e j (List.mem_range.2 hj)⟩
theorem scan_no {R : Type} {g : Nat → Option R} {n : Nat} (h : scan g n = none) : ∀ j, j < n → g j = none := by
  unfold scan at h
  rw [List.findSome?_eq_none_iff] at h
  exact fun j hj => h j (List.mem_range.2 hj)
structure OkK (C : Cl) : Prop where
  bad : ¬ badC C
  no8 : ¬ 8 < C.no
  obj : ∀ i, i < C.no → rb (C.f i) C.nt = true
  own : ∀ j, j < C.nw → ¬ ((C.no : Int) ≤ C.own j ∨ C.own j < -(C.nt : Int))
  len : ∀ t, t < C.nt → C.len t ≤ 60
  op : ∀ t i, t < C.nt → i < C.len t → rgt C (C.op t i) = true
theorem thrE_none {C : Cl} {t : Nat} (h : thrE C t = none) : C.len t ≤ 60 ∧ ∀ i, i < C.len t → rgt C (C.op t i) = true := by
  unfold thrE at h
  split at h
  · cases h
  · refine ⟨by omega, fun i hi => ?_⟩
    have := scan_no h i hi
    unfold opE at this
    split at this
    · assumption
    · cases this
theorem chk_ok {C : Cl} (h : (chk C).2.2 = 0) : OkK C := by
  unfold chk at h
  split at h
  · simp at h
  rename_i hb
  split at h
  · simp at h
  rename_i h8
  cases e1 : scan (objE C) C.no with
  | some r =>
    obtain ⟨k, _, e, _⟩ := scan_get e1
    rw [e1] at h
    unfold objE at e
    split at e
    · cases e
    · cases e; simp at h
  | none =>
    cases e2 : scan (ownE C) C.nw with
    | some r =>
      obtain ⟨k, _, e, _⟩ := scan_get e2
      rw [e1, e2] at h
      unfold ownE at e
      split at e
      · cases e; simp at h
      · cases e
    | none =>
      cases e3 : scan (thrE C) C.nt with
      | some r =>
        obtain ⟨k, _, e, _⟩ := scan_get e3
        rw [e1, e2, e3] at h
        unfold thrE at e
        split at e
        · cases e; simp at h
        · obtain ⟨k', _, e', _⟩ := scan_get e
          unfold opE at e'
          split at e'
          · cases e'
          · cases e'; simp at h
      | none =>
        refine ⟨hb, h8, fun i hi => ?_, fun j hj => ?_, fun t ht => (thrE_none (scan_no e3 t ht)).1, fun t i ht hi => (thrE_none (scan_no e3 t ht)).2 i hi⟩
        · have := scan_no e1 i hi
          unfold objE at this
          split at this
          · assumption
          · cases this
        · have := scan_no e2 j hj
          unfold ownE at this
          split at this
          · cases this
          · assumption
theorem OkK.okC {C : Cl} (h : OkK C) : OkC C := by
  have hb := h.bad
  unfold badC at hb
  refine ⟨by have := h.no8; omega, by omega, fun j hj => ?_, fun i hi e => ?_⟩
  · have := h.own j hj; omega
  · have := h.obj i hi
    have hR := of_decide_eq_true this
    obtain ⟨h1, h2, h3⟩ := hR
    omega
theorem rgt7 {C : Cl} {x : X} (h : rgt C x = true) (e : x.k = 7) : (0 ≤ x.a ∧ x.a < C.no) ∧ may (C.f x.a.toNat).k x.b = true := by
  have h' : callB C x = true := by simpa [rgt, e] using h
  unfold callB at h'
  split at h'
  · rename_i hh
    rw [Bool.and_eq_true] at h'
    exact ⟨hh, h'.1⟩
  · cases h'
theorem OkK.okX {C : Cl} (h : OkK C) {t i : Nat} (ht : t < C.nt) (hi : i < C.len t) (hK : 0 ≤ (C.op t i).K ∧ (C.op t i).K < 4294967296) : OkX C (C.op t i) := by
  have hr := h.op t i ht hi
  refine ⟨hK, fun e => (rgt7 hr e).1, fun e => ?_⟩
  have hb := h.bad
  unfold badC at hb
  have hv : (C.nw : Int) = C.vars := by omega
  rw [hv]
  have h12 : ¬ (C.op t i).k = 1 ∧ ¬ (C.op t i).k = 2 := by omega
  unfold rgt at hr
  rw [if_neg h12.1, if_neg h12.2, if_pos e, Bool.and_eq_true, Bool.and_eq_true] at hr
  exact of_decide_eq_true hr.1.2
/-! ### the document's way -/
def rst (kd : Int) (x : X) (o : Nat) (n : Int) : Int :=
  if x.k = 7 ∧ x.a = o then (if 11 ≤ kd ∧ kd ≤ 13 then n else if x.b = 1 then 2 else if x.b = 2 ∨ x.b = 10 then 0 else if x.b = 3 ∧ kd = 14 then 1 else if x.b = 9 then 3 else n) else n
def hasP (C : Cl) (l : Nat → X) (o : Nat) : Nat → Int
  | 0 => 0
  | i + 1 => rst (C.f o).k (l i) o (hasP C l o i)
def kpR (C : Cl) (t : Int) (h : Nat → Int) (x : X) : Bool :=
  if x.k = 3 ∨ x.k = 4 then
    (if C.own x.b.toNat < 0 then C.own x.b.toNat == -1 - t else lockB (C.f (C.own x.b.toNat).toNat).k && (h (C.own x.b.toNat).toNat == 2 || (h (C.own x.b.toNat).toNat == 1 && x.k == 3)))
  else if x.k = 7 then
    (if (C.f x.a.toNat).k = 11 ∨ (C.f x.a.toNat).k = 12 then true
     else if (C.f x.a.toNat).k = 13 then decide (t < (C.f x.a.toNat).n) && decide (x.K ≤ 8) && (x.K == (C.f x.a.toNat).n)
     else if ((C.f x.a.toNat).k = 6 ∨ (C.f x.a.toNat).k = 7) ∧ t ≠ (C.f x.a.toNat).a ∧ t ≠ (C.f x.a.toNat).b then false
     else if (C.f x.a.toNat).k = 15 then (x.b == 9 && h x.a.toNat == 0) || (x.b == 10 && h x.a.toNat == 3)
     else if x.b = 2 then h x.a.toNat == 1 || h x.a.toNat == 2
     else if x.b = 4 then h x.a.toNat == 2
     else h x.a.toNat == 0)
  else true
def tabB (k j : Nat) : Bool := decide (k = 9 ∧ 1 ≤ j ∧ j ≤ 4) || decide (k = 12 ∧ 5 ≤ j ∧ j ≤ 8) || decide (k = 13 ∧ j = 9) || decide (k = 14 ∧ 1 ≤ j ∧ j ≤ 3) || decide (k = 15 ∧ (j = 9 ∨ j = 10)) || decide (((1 ≤ k ∧ k ≤ 8) ∨ k = 10 ∨ k = 11) ∧ (j = 1 ∨ j = 2))
theorem calls_tab : ∀ k, k < 16 → (callsN k).all (tabB k) = true := by decide +kernel
theorem may_tab {k b : Int} (h : may k b = true) : (k = 9 ∧ 1 ≤ b ∧ b ≤ 4) ∨ (k = 12 ∧ 5 ≤ b ∧ b ≤ 8) ∨ (k = 13 ∧ b = 9) ∨ (k = 14 ∧ 1 ≤ b ∧ b ≤ 3) ∨ (k = 15 ∧ (b = 9 ∨ b = 10)) ∨ (((1 ≤ k ∧ k ≤ 8) ∨ k = 10 ∨ k = 11) ∧ (b = 1 ∨ b = 2)) := by
  unfold may at h
  rw [List.any_eq_true] at h
  obtain ⟨j, hj, e⟩ := h
  have e' : (j : Int) = b := by simpa using e
  have hk : 1 ≤ k ∧ k ≤ 15 := by
    by_cases hk : 1 ≤ k ∧ k ≤ 15
    · exact hk
    · unfold kdN at hj; rw [if_neg hk] at hj; cases hj
  have ek : kdN k = k.toNat := if_pos hk
  have ht := List.all_eq_true.1 (calls_tab _ (kdN_lt k)) j hj
  unfold tabB at ht
  simp only [Bool.or_eq_true, decide_eq_true_eq] at ht
  rw [ek] at ht
  omega
theorem step_same {C : Cl} {x : X} {h : Nat → Int} (hr : rgt C x = true) {o : Nat} (ho : o < C.no) : nxP C h x o = rst (C.f o).k x o (h o) := by
  unfold nxP rst
  by_cases e : x.k = 7
  · rw [if_pos e]
    obtain ⟨h1, h2⟩ := rgt7 hr e
    have ht := may_tab h2
    unfold upd
    by_cases ea : x.a = o
    · have eo : o = x.a.toNat := by omega
      rw [if_pos eo, if_pos ⟨e, ea⟩]
      subst eo
      unfold hsB
      generalize (C.f x.a.toNat).k = kd at *
      generalize x.b = b at *
      by_cases c1 : 11 ≤ kd ∧ kd ≤ 13
      · rw [if_pos (by omega), if_pos c1]
      rw [if_neg (by omega), if_neg c1]
      by_cases b1 : b = 1
      · simp [b1]
      by_cases b2 : b = 2
      · simp [b2]
      by_cases b3 : b = 3
      · subst b3
        by_cases c14 : kd = 14
        · simp [c14]
        · simp [c14]
      by_cases b4 : b = 4
      · simp [b4]
      by_cases b9 : b = 9
      · simp [b9]
      have b10 : b = 10 := by omega
      simp [b10]
    · rw [if_neg (by omega), if_neg (fun hh => ea hh.2)]
  · rw [if_neg e, if_neg (fun hh => e hh.1)]
theorem has_same {C : Cl} {l : Nat → X} {n : Nat} (hr : ∀ i, i < n → rgt C (l i) = true) {o : Nat} (ho : o < C.no) : ∀ i, i ≤ n → stP C l i o = hasP C l o i
  | 0, _ => rfl
  | i + 1, hi => by
    unfold stP hasP
    rw [step_same (hr i (by omega)) ho, has_same hr ho i (by omega)]
theorem st_val {C : Cl} {l : Nat → X} {n : Nat} (hr : ∀ i, i < n → rgt C (l i) = true) {o : Nat} (ho : o < C.no) : ∀ i, i ≤ n → hasP C l o i = 0 ∨ hasP C l o i = 1 ∨ hasP C l o i = 2 ∨ (hasP C l o i = 3 ∧ (C.f o).k = 15)
  | 0, _ => .inl rfl
  | i + 1, hi => by
    have ih := st_val hr ho i (by omega)
    have hrr := hr i (by omega)
    show rst _ _ _ _ = 0 ∨ rst _ _ _ _ = 1 ∨ rst _ _ _ _ = 2 ∨ (rst _ _ _ _ = 3 ∧ _)
    generalize hasP C l o i = n at *
    unfold rst
    split
    · rename_i hh
      have ht := may_tab (rgt7 hrr hh.1).2
      have eo : (l i).a.toNat = o := by have := hh.2; omega
      rw [eo] at ht
      split
      · exact ih
      · repeat' split
        all_goals first | omega | exact ih
    · exact ih
theorem kp_same {C : Cl} (hC : OkK C) {t : Nat} {h : Nat → Int} {x : X} (hr : rgt C x = true) (hv : ∀ o, o < C.no → h o = 0 ∨ h o = 1 ∨ h o = 2 ∨ (h o = 3 ∧ (C.f o).k = 15)) : kpR C t h x = kpP C t h x := by
  unfold kpR kpP
  by_cases e34 : x.k = 3 ∨ x.k = 4
  · have n7 : ¬ x.k = 7 := by omega
    rw [if_pos e34, if_neg n7, if_pos e34]
    unfold touchB
    by_cases hneg : C.own x.b.toNat < 0
    · rw [if_pos hneg, if_pos hneg, Bool.eq_iff_iff]; simp; omega
    · rw [if_neg hneg, if_neg hneg]
  · rw [if_neg e34, if_neg e34]
    by_cases e7 : x.k = 7
    · rw [if_pos e7, if_pos e7]
      obtain ⟨h1, h2⟩ := rgt7 hr e7
      have ht := may_tab h2
      have hvv := hv x.a.toNat (by omega)
      have hbar := (hC.okC).bar x.a.toNat (by omega)
      unfold kcB partB
      generalize C.f x.a.toNat = o at *
      generalize h x.a.toNat = n at *
      generalize x.b = b at *
      by_cases c1 : o.k = 11 ∨ o.k = 12
      · have c2 : ¬ (o.k = 6 ∨ o.k = 7) := by omega
        have c3 : ¬ o.k = 13 := by omega
        rw [if_pos c1, if_neg c2, if_neg c3, if_pos rfl, if_pos c1]
      rw [if_neg c1, if_neg c1]
      by_cases c13 : o.k = 13
      · have c2 : ¬ (o.k = 6 ∨ o.k = 7) := by omega
        have hb := hbar c13
        rw [if_pos c13, if_neg c2, if_pos c13, if_pos c13]
        by_cases ht' : (t : Int) < o.n
        · rw [decide_eq_true ht', if_pos rfl, Bool.true_and, Bool.eq_iff_iff]; simp; omega
        · rw [decide_eq_false ht', if_neg Bool.false_ne_true]; rfl
      rw [if_neg c13, if_neg c13, if_neg c13]
      by_cases c6 : o.k = 6 ∨ o.k = 7
      · rw [if_pos c6]
        by_cases c7 : (t : Int) ≠ o.a ∧ (t : Int) ≠ o.b
        · have hp : ¬ (((t : Int) == o.a || (t : Int) == o.b) = true) := by simp; omega
          rw [if_pos ⟨c6, c7⟩, if_neg hp]
        · have hp : ((t : Int) == o.a || (t : Int) == o.b) = true := by simp; omega
          have c15 : ¬ o.k = 15 := by omega
          rw [if_neg (fun hh => c7 hh.2), if_pos hp, if_neg c15]
          have hbb : b = 1 ∨ b = 2 := by omega
          rcases hbb with rfl | rfl
          · simp
          · rw [Bool.eq_iff_iff]; simp; omega
      · rw [if_neg c6, if_pos rfl, if_neg (fun hh => c6 hh.1)]
        by_cases c15 : o.k = 15
        · rw [if_pos c15]
          have hbb : b = 9 ∨ b = 10 := by omega
          rcases hbb with rfl | rfl <;> simp
        · rw [if_neg c15]
          have hbb : b = 1 ∨ b = 2 ∨ b = 3 ∨ b = 4 := by omega
          rcases hbb with rfl | rfl | rfl | rfl
          · simp
          · rw [Bool.eq_iff_iff]; simp; omega
          · simp
          · simp
    · rw [if_neg e7, if_neg e7]
end Go.Proofs.YtlcoealfnlakhaaDoor
