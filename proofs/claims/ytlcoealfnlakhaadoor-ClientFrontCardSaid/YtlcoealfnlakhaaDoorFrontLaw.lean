/- A thread whose ops are cut off: plain; a cell of a block written. -/
import Derived.Test.YtlcoealfnlakhaaDoorWalks
import Derived.Maps.AppendAt
namespace Go.Proofs.YtlcoealfnlakhaaDoor
open Go.RowKit
set_option linter.unusedVariables false
set_option linter.unusedSimpArgs false
def cutC (C : Cl) (who cut : Nat) (T : Option Addr) (ct : Nat) : Cl := { C with T := T, ct := ct, len := fun t => if t = who then cut else C.len t }
theorem cut_len {C : Cl} {who cut : Nat} {T : Option Addr} {ct t : Nat} (h : t ≠ who) : (cutC C who cut T ct).len t = C.len t := if_neg h
theorem cut_len' {C : Cl} {who cut : Nat} {T : Option Addr} {ct : Nat} : (cutC C who cut T ct).len who = cut := if_pos rfl
theorem ok_chk {C : Cl} (h : OkK C) : (chk C).2.2 = 0 := by
  rw [chk_fine h.bad h.no8 h.obj h.own (fun t ht => thr_fine (by have := h.len t ht; omega) (h.op t · ht))]
theorem cut_ok {C : Cl} (h : OkK C) {who cut : Nat} {T : Option Addr} {ct : Nat} (hc : cut ≤ C.len who) : OkK (cutC C who cut T ct) := by
  have hle : ∀ t, (cutC C who cut T ct).len t ≤ C.len t := fun t => by
    by_cases e : t = who
    · subst e; rw [cut_len']; exact hc
    · rw [cut_len e]; exact Nat.le_refl _
  exact ⟨h.bad, h.no8, h.obj, h.own, fun t ht => Nat.le_trans (hle t) (h.len t ht), fun t i ht hi => h.op t i ht (Nat.lt_of_lt_of_le hi (hle t))⟩
theorem cut_st {C : Cl} {who cut : Nat} {T : Option Addr} {ct : Nat} (l : Nat → X) : ∀ i, stP (cutC C who cut T ct) l i = stP C l i
  | 0 => rfl
  | i + 1 => by unfold stP; rw [cut_st l i]; rfl
theorem cut_bad {C : Cl} {who cut : Nat} {T : Option Addr} {ct : Nat} (t i : Nat) : badP false (cutC C who cut T ct) t i = badP false C t i := by
  unfold badP
  rw [show (cutC C who cut T ct).op = C.op from rfl, cut_st]
  rfl
theorem thrK_form {C : Cl} {t : Nat} {r : T3} (h : thrK false C t = some r) : ∃ i : Nat, r = ((t : Int), (i : Int), 7) ∧ i ≤ C.len t ∧ (∀ j, j < i → badP false C t j = false) ∧ (i < C.len t → badP false C t i = true) := by
  unfold thrK at h
  cases e1 : scan (fun i => if badP false C t i then some (((t : Int), (i : Int), 7) : T3) else none) (C.len t) with
  | some r' =>
    rw [e1] at h
    simp only [Option.some_or, Option.some.injEq] at h
    subst h
    obtain ⟨i, hi, e', hp⟩ := scan_get e1
    split at e'
    · rename_i hb
      cases e'
      refine ⟨i, rfl, Nat.le_of_lt hi, fun j hj => ?_, fun _ => hb⟩
      have := hp j hj
      split at this
      · cases this
      · rename_i hx; simpa using hx
    · cases e'
  | none =>
    rw [e1, Option.none_or] at h
    split at h
    · cases h
    · cases h
      refine ⟨C.len t, rfl, Nat.le_refl _, fun j hj => ?_, fun hh => absurd hh (Nat.lt_irrefl _)⟩
      have := scan_no e1 j hj
      split at this
      · cases this
      · rename_i hx; simpa using hx
theorem thrK_none {C : Cl} {t : Nat} (h : thrK false C t = none) : ∀ j, j < C.len t → badP false C t j = false := by
  unfold thrK at h
  rw [Option.or_eq_none_iff] at h
  intro j hj
  have := scan_no h.1 j hj
  split at this
  · cases this
  · rename_i hx; simpa using hx
theorem cut_thr {C : Cl} {who cut : Nat} {T : Option Addr} {ct t : Nat} (h : t ≠ who) : thrK false (cutC C who cut T ct) t = thrK false C t := by
  unfold thrK
  rw [cut_len h, show (cutC C who cut T ct).op = C.op from rfl, cut_st]
  congr 1
  congr 1
  funext i
  rw [cut_bad]
theorem kp_cases {C : Cl} (h : OkK C) : (kp false C = (0, 0, 0) ∧ ∀ t, t < C.nt → thrK false C t = none) ∨ ∃ t r, t < C.nt ∧ kp false C = r ∧ thrK false C t = some r ∧ ∀ j, j < t → thrK false C j = none := by
  cases e : scan (thrK false C) C.nt with
  | none => exact .inl ⟨kp_fine (ok_chk h) (scan_no e), scan_no e⟩
  | some r =>
    obtain ⟨t, ht, e', hp⟩ := scan_get e
    exact .inr ⟨t, r, ht, kp_thr (ok_chk h) ht hp e', e', hp⟩
theorem cut_who {C : Cl} {who cut : Nat} {T : Option Addr} {ct : Nat} (h : ∀ j, j < cut → badP false C who j = false) {r : T3} (e : thrK false (cutC C who cut T ct) who = some r) : r = ((who : Int), (cut : Int), 7) := by
  obtain ⟨i, rfl, hi, hp, hb⟩ := thrK_form e
  rw [cut_len'] at hi hb
  by_cases hlt : i < cut
  · have := hb hlt
    rw [cut_bad, h i hlt] at this
    cases this
  · rw [show i = cut by omega]
theorem front_law {C : Cl} (h : OkK C) {who cut : Nat} (hw : who < C.nt) (hc : cut ≤ C.len who) (T : Option Addr) (ct : Nat) (a i e b k f : Int) (h1 : kp false C = (a, i, e)) (h2 : kp false (cutC C who cut T ct) = (b, k, f)) :
    (e = 0 ∧ (f = 0 ∨ (b = who ∧ k = cut))) ∨ (e ≠ 0 ∧ a < who ∧ b = a ∧ k = i ∧ f = e) ∨ (e ≠ 0 ∧ a = who ∧ i < cut ∧ b = who ∧ k = i ∧ f = e) ∨ (e ≠ 0 ∧ ¬ a < who ∧ ¬ (a = who ∧ i < cut) ∧ (f = 0 ∨ (b = who ∧ k = cut) ∨ (who < b ∧ who ≤ a))) := by
  have h' := cut_ok h (T := T) (ct := ct) hc
  have ok' := ok_chk h'
  -- what the cut client gives if no op of 'who' ahead of the cut is bad, and all threads ahead are fine
  have key : (∀ t, t < who → thrK false C t = none) → (∀ j, j < cut → badP false C who j = false) → (∀ t, t < C.nt → who < t → thrK false C t = none) ∨ True →
      f = 0 ∨ (b = who ∧ k = cut) ∨ ∃ t : Nat, who < t ∧ t < C.nt ∧ b = t ∧ thrK false C t = some (b, k, f) := by
    intro ha hb _
    rcases kp_cases h' with ⟨e0, _⟩ | ⟨t, r, ht, er, et, hp⟩
    · rw [h2] at e0; left; cases e0; rfl
    · right
      rw [h2] at er
      subst er
      rcases Nat.lt_trichotomy t who with hlt | rfl | hgt
      · rw [cut_thr (by omega), ha t hlt] at et; cases et
      · left
        have := cut_who hb et
        simp only [Prod.mk.injEq] at this
        exact ⟨this.1, this.2.1⟩
      · right
        rw [cut_thr (by omega)] at et
        obtain ⟨i', e', _⟩ := thrK_form et
        simp only [Prod.mk.injEq] at e'
        exact ⟨t, hgt, ht, e'.1, et⟩
  rcases kp_cases h with ⟨e0, hall⟩ | ⟨t, r, ht, er, et, hp⟩
  · rw [h1] at e0
    cases e0
    refine .inl ⟨rfl, ?_⟩
    rcases key (fun t ht => hall t (by omega)) (fun j hj => thrK_none (hall who hw) j (by omega)) (.inr trivial) with hf | hf | ⟨t, hgt, htn, _, et⟩
    · exact .inl hf
    · exact .inr hf
    · rw [hall t htn] at et; cases et
  · rw [h1] at er
    subst er
    obtain ⟨i', e', hi, hpb, hbb⟩ := thrK_form et
    simp only [Prod.mk.injEq] at e'
    obtain ⟨rfl, rfl, rfl⟩ := e'
    right
    rcases Nat.lt_trichotomy t who with hlt | rfl | hgt
    · left
      have e2 : kp false (cutC C who cut T ct) = ((t : Int), (i' : Int), 7) := kp_thr ok' (t := t) ht (fun j hj => by rw [cut_thr (by omega)]; exact hp j hj) (by rw [cut_thr (by omega)]; exact et)
      rw [h2] at e2
      cases e2
      exact ⟨by decide, by omega, rfl, rfl, rfl⟩
    · by_cases hic : i' < cut
      · right; left
        have e2 : kp false (cutC C t cut T ct) = ((t : Int), (i' : Int), 7) := kp_thr ok' (t := t) ht (fun j hj => by rw [cut_thr (by omega)]; exact hp j hj)
          (thrK_op (by rw [cut_len']; exact hic) (fun j hj => by rw [cut_bad]; exact hpb j hj) (by rw [cut_bad]; exact hbb (by omega)))
        rw [h2] at e2
        cases e2
        exact ⟨by decide, rfl, by omega, rfl, rfl, rfl⟩
      · right; right
        refine ⟨by decide, by omega, by omega, ?_⟩
        rcases key hp (fun j hj => hpb j (by omega)) (.inr trivial) with hf | hf | ⟨t', hgt, _, eb, _⟩
        · exact .inl hf
        · exact .inr (.inl hf)
        · exact .inr (.inr ⟨by omega, by omega⟩)
    · right; right
      refine ⟨by decide, by omega, by omega, ?_⟩
      rcases key (fun j hj => hp j (by omega)) (fun j hj => thrK_none (hp who hgt) j (by omega)) (.inr trivial) with hf | hf | ⟨t', hgt', _, eb, _⟩
      · exact .inl hf
      · exact .inr (.inl hf)
      · exact .inr (.inr ⟨by omega, by omega⟩)
section
variable {ops : Array Oper} {Q : Exit → Act → World → Prop}
theorem wl_at {P : Program} {rest : List Oper} {o : Oper} {a : Act} {w w' : World} (hgd : o.guard = none) (v : Value) (h : (execOp a.eval o).run P w = .ok (.value v) w') (hK : ∀ K : Act → World → Prop, (∀ a w, wpList P ops Q rest a w → K a w) → K (a.put o.dst v) w') : wpList P ops Q (o :: rest) a w := by
  refine wpList_plain hgd fun K hK' => ?_
  unfold Oper.wp
  rw [h]
  exact hK K hK'
theorem wl_stslice {rest : List Oper} {o : Oper} {a : Act} {w : World} (hgd : o.guard = none) (ty : TypeId) (hsz : ∀ w, (sizeOf ty).run Tryd.prog w = .ok 1 w) (x y : Operand) (ho : o.op = .store ty x y) (b j : Nat) (p : Option Addr) (n c : Nat) (cs : Array Value) (t : TypeId) (hx : a.eval x = .pointer (some ⟨b, j, none⟩)) (hy : a.eval y = .slice p n c)
    (hg : w.heap[b]? = some (.cells cs t (0, 0))) (hj : j < cs.size)
    (hh : ∀ w', w'.heap[b]? = some (.cells (cs.setIfInBounds j (.slice p n c)) t (0, 0)) → (∀ k, k ≠ b → w'.heap[k]? = w.heap[k]?) → (∀ B, B ≤ b → Below B w w') → Hid (w'.heap.size = w.heap.size) → ∀ K : Act → World → Prop, (∀ a w, wpList Tryd.prog ops Q rest a w → K a w) → K (a.put o.dst undef) w') : wpList Tryd.prog ops Q (o :: rest) a w := by
  refine wpList_plain hgd fun K hK => ?_
  have hc : w.cell? ⟨b, j, none⟩ = some (cs[j]'hj) := by rw [cell_of_row w b j cs t _ hg]; exact Array.getElem?_eq_getElem hj
  have hf := frozen_of_row w b j cs t hg
  have hst : (store ⟨b, j, none⟩ (.slice p n c)).run Tryd.prog w = .ok () (w.setCell ⟨b, j, none⟩ (.slice p n c)) := by simp [go_sem, stored, hc, hf]
  unfold Oper.wp execOp
  simp only [ho, hx, hy, Instr.storeAt, Instr.sureAddr, Sem.run_bind, Sem.run_pure, Result.andThen_ok]
  have hsv : (storeVar ty ⟨b, j, none⟩ (.slice p n c)).run Tryd.prog w = .ok () (w.setCell ⟨b, j, none⟩ (.slice p n c)) := by
    unfold storeVar
    have hv : (Value.slice p n c).cells = #[.slice p n c] := rfl
    simp only [Sem.run_bind, hsz, hv, Result.andThen_ok]
    simp [storeCells, add_off, hst]
  rw [hsv]
  exact hh _ (heap_setCell_same w b j cs t _ hg) (fun k hk => heap_setCell_other _ _ k _ hk) (fun B hB => (Below.refl B w).setCell (p := ⟨b, j, none⟩) hB _) (show (World.setCell _ _ _).heap.size = _ by simp [World.setCell]) K hK
end
theorem run_cut {o : Oper} {a : Act} {w : World} (x y : Operand) (ho : o.op = .slice 40 x none (some y) none) (P : Option Addr) (n c k : Nat) (hx : a.eval x = .slice P n c) (hy : a.eval y = .int .i64 k) (hk : k ≤ c) : (execOp a.eval o).run Tryd.prog w = .ok (.value (.slice P k c)) w := by
  have h0 : (0 : Int) ≤ k := by omega
  have h1 : (k : Int) ≤ c := by omega
  have e : (Instr.sliceAt 40 (.slice P n c) none (some (.int .i64 k)) none).run Tryd.prog w = .ok (.slice P k c) w := by
    cases P with
    | none => go_simp
    | some ad =>
      obtain ⟨b, off, spot⟩ := ad
      have hadd : (⟨b, off, spot⟩ : Addr).add 0 = ⟨b, off, spot⟩ := by unfold Addr.add; split <;> simp_all
      go_simp
  unfold execOp
  simp only [ho, hx, hy, Option.map_none, Option.map_some, e]
  simp [go_sem, e]
end Go.Proofs.YtlcoealfnlakhaaDoor
