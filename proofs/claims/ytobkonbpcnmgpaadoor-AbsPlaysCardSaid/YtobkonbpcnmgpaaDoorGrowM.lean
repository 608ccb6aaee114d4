/- General lemmas of this claim: a region that draws its order, in which what has been read ahead of an append is turned by the append and by the store behind it. No program in sight. -/
import Derived.Test.YtobkonbpcnmgpaaDoorGrow
namespace Go.Proofs.YtobkonbpcnmgpaaDoor
open Go.RowKit
set_option linter.unusedVariables false

section
variable {P : Program} {ops : Array Oper} {md : Region.Mode} {Q : Exit → Act → World → Prop} {D : World → Prop}
def Closed (md : Region.Mode) (ops : Array Oper) (listed : Array Bool) : Prop := ∀ j oj, ops[j]? = some oj → listed.getD j false = true → ∀ e ∈ oj.after, Region.binds md e = true → listed.getD e.on false = true
def anc (md : Region.Mode) (ops : Array Oper) : Nat → Nat → List Nat
  | 0, _ => []
  | f + 1, j => match ops[j]? with
    | none => []
    | some o => (o.after.toList.filter (Region.binds md)).flatMap fun e => e.on :: anc md ops f e.on
theorem anc_listed {listed : Array Bool} (hc : Closed md ops listed) : ∀ (f j : Nat) (oj : Oper), ops[j]? = some oj → (∀ e ∈ oj.after, Region.binds md e = true → listed.getD e.on false = true) → ∀ x ∈ anc md ops f j, listed.getD x false = true := by
  intro f
  induction f with
  | zero => intro j oj _ _ x hx; cases hx
  | succ f ih =>
    intro j oj hj hall x hx
    simp only [anc, hj] at hx
    obtain ⟨e, he, hx⟩ := List.mem_flatMap.1 hx
    obtain ⟨he1, he2⟩ := List.mem_filter.1 he
    have h1 := hall e (by simpa using he1) he2
    rcases List.mem_cons.1 hx with rfl | hx
    · exact h1
    · cases ho : ops[e.on]? with
      | none => cases f with
        | zero => cases hx
        | succ f => simp [anc, ho] at hx
      | some oe => exact ih e.on oe ho (hc e.on oe ho h1) x hx
theorem Closed.set {listed : Array Bool} (hc : Closed md ops listed) {j : Nat} (hj : j ∈ Region.ready md ops listed) : Closed md ops (listed.setIfInBounds j true) := by
  obtain ⟨hjun, oj, hoj, hall⟩ := mem_ready.1 hj
  intro k ok hk hl e he hb
  have up : ∀ x, listed.getD x false = true → (listed.setIfInBounds j true).getD x false = true := fun x hx => by
    by_cases e : j = x
    · subst e; rw [getD_both hjun] at hx; cases hx
    · rw [getD_set_ne false e]; exact hx
  by_cases e1 : j = k
  · subst e1
    obtain rfl := Option.some.inj (hoj.symm.trans hk)
    exact up _ (hall e he hb)
  · rw [getD_set_ne false e1] at hl
    exact up _ (hc k ok hk hl e he hb)
/-- Whatever order is picked from here on; D holds as long as m is not listed. -/
def anyM (P : Program) (md : Region.Mode) (ops : Array Oper) (D : World → Prop) (m : Nat) (Q : Exit → Act → World → Prop) : Nat → Array Bool → Act → World → Prop
  | 0, listed, a, w => ∀ w', Below w.heap.size w w' → (listed.getD m false = false → D w') ∧ Region.ready md ops listed = [] ∧ Q .normal a w'
  | f + 1, listed, a, w => ∀ w', Below w.heap.size w w' → (listed.getD m false = false → D w') ∧ (Region.ready md ops listed = [] → Q .normal a w') ∧
      ∀ i ∈ Region.ready md ops listed, wpOp P ops Q i (anyM P md ops D m Q f (listed.setIfInBounds i true)) a w'
theorem anyM_stable {m f : Nat} {listed : Array Bool} {a : Act} {w w1 : World} (h : anyM P md ops D m Q f listed a w) (hb : Below w.heap.size w w1) : anyM P md ops D m Q f listed a w1 := by
  cases f with
  | zero => intro w' hw'; exact h w' (below_tr hb hw')
  | succ f => intro w' hw'; exact h w' (below_tr hb hw')
theorem wpAny_of_anyM {m : Nat} : ∀ (f : Nat) (listed : Array Bool) (a : Act) (w : World), anyM P md ops D m Q f listed a w → wpAny P md ops Q f listed a w
  | 0, _, _, w, h => (h w (Below.refl _ _)).2
  | f + 1, _, _, w, h => ⟨(h w (Below.refl _ _)).2.1, fun i hi => wpOp_mono (fun a' w' h' => wpAny_of_anyM f _ a' w' h') ((h w (Below.refl _ _)).2.2 i hi)⟩
/-- IT MAY BE TAKEN FIRST: it holds wherever E holds, and E holds as long as it is not listed. -/
theorem anyM_first {m i : Nat} {E : World → Prop} {oi : Oper} {v : Value} (hi : ops[i]? = some oi) (hsel : ∀ (j : Nat) (o : Oper) cs b, ops[j]? = some o → o.op ≠ .select cs b) (hQ : ∀ c a w, Q (.panic c) (a.put oi.dst v) w → Q (.panic c) a w)
    (hE : ∀ (listed : Array Bool) (w : World), Closed md ops listed → listed.getD i true = false → ((listed.setIfInBounds i true).getD m false = false → D w) → E w) :
    ∀ (f : Nat) (listed : Array Bool) (a : Act) (w : World), Closed md ops listed →
      (∀ j oj, ops[j]? = some oj → j ≠ i → listed.getD j true = false → (∀ e ∈ oj.after, Region.binds md e = true → e.on ≠ i) → oi.apart ops oj = true) →
      i ∈ Region.ready md ops listed → YG P ops E oi v a →
      anyM P md ops D m Q f (listed.setIfInBounds i true) (a.put oi.dst v) w → ((listed.setIfInBounds i true).getD m false = listed.getD m false) → anyM P md ops D m Q (f + 1) listed a w := by
  intro f
  induction f with
  | zero =>
    intro listed a w hcl _ hr hy H hm w' hw'
    have H' := H w' hw'
    refine ⟨fun h => H'.1 (hm.trans h), fun h => (by rw [h] at hr; cases hr), fun j hj => ?_⟩
    by_cases hji : j = i
    · subst hji; exact hy.wpOp hi (hE listed w' hcl (mem_ready.1 hr).1 H'.1) fun w'' hb => anyM_stable (anyM_stable (f := 0) H hw') hb
    · have := ready_mono hj hji
      rw [H'.2.1] at this
      cases this
  | succ f ih =>
    intro listed a w hcl hfree hr hy H hm w' hw'
    have H' := H w' hw'
    refine ⟨fun h => H'.1 (hm.trans h), fun h => (by rw [h] at hr; cases hr), fun j hj => ?_⟩
    by_cases hji : j = i
    · subst hji; exact hy.wpOp hi (hE listed w' hcl (mem_ready.1 hr).1 H'.1) fun w'' hb => anyM_stable (anyM_stable (f := f + 1) H hw') hb
    · have h1 := H'.2.2 j (ready_mono hj hji)
      obtain ⟨hjun, oj, hoj, hall⟩ := mem_ready.1 hj
      have hnot : ∀ e ∈ oj.after, Region.binds md e = true → e.on ≠ i := fun e he hb heq => by
        have h1 := hall e he hb
        have h0 := (mem_ready.1 hr).1
        rw [heq, getD_both h0] at h1
        cases h1
      have h2 := op_put hoj (hfree j oj hoj hji hjun hnot) (fun cs b => hsel i oi cs b hi) (fun cs b => hsel j oj cs b hoj) hQ hy h1
      refine wpOp_mono (fun a' w'' h3 => ih (listed.setIfInBounds j true) a' w'' (hcl.set hj) (fun k ok hk hki hun hno => hfree k ok hk hki ?_ hno) (ready_mono hr (Ne.symm hji)) h3.1 ?_ ?_) h2
      · by_cases hjk : j = k
        · subst hjk; exact hjun
        · rw [getD_set_ne true hjk] at hun; exact hun
      · rw [Array.setIfInBounds_comm _ _ hji]
        exact h3.2
      · by_cases him : i = m
        · subst him
          have h0 := (mem_ready.1 hr).1
          rw [getD_both h0] at hm
          have hlt : i < listed.size := by
            by_cases hlt : i < listed.size
            · exact hlt
            · rw [Array.getD_eq_getD_getElem?, Array.getElem?_eq_none (by omega)] at h0; cases h0
          rw [Array.getD_eq_getD_getElem?, Array.getElem?_setIfInBounds_self_of_lt hlt] at hm
          cases hm
        · rw [getD_set_ne false him]
/-- The heads, in the text's order: an ancestor of m wherever D holds; another one (free) everywhere. -/
def wpGrowM (P : Program) (md : Region.Mode) (ops : Array Oper) (D : World → Prop) (m F : Nat) (R : Act → Prop) : Nat → List Oper → Act → Prop
  | _, [], a => R a
  | k, o :: rest, a => Region.wanted o (yielded ops a.tmps) = true ∧ ∃ v, (((anc md ops F m).contains k = true ∧ ∀ w, D w → growAt P o a w v) ∨ ∀ w, growAt P o a w v) ∧ wpGrowM P md ops D m F R (k + 1) rest (a.put o.dst v)
def lexM (md : Region.Mode) (ops : Array Oper) (m : Nat) : Nat → Nat → Array Bool → Bool
  | 0, _, _ => true
  | f + 1, k, listed => (Region.ready md ops listed).contains k && Region.free md ops listed k && (k != m) && lexM md ops m f (k + 1) (listed.setIfInBounds k true)
theorem anyM_lex {g m F : Nat} {R : Act → Prop} {w : World} (hs : Region.noSelect ops = true) (hQ : ∀ c a d v w, Q (.panic c) (Act.put a d v) w → Q (.panic c) a w) (om : Oper) (hm : ops[m]? = some om) :
    ∀ (l : List Oper) (k : Nat) (listed : Array Bool) (a : Act), Closed md ops listed → (∀ j, j < l.length → l[j]? = ops[k + j]?) → lexM md ops m l.length k listed = true →
      (∀ a', R a' → anyM P md ops D m Q g (listedG k l.length listed) a' w) → wpGrowM P md ops D m F R k l a → anyM P md ops D m Q (l.length + g) listed a w := by
  intro l
  induction l with
  | nil => intro k listed a _ _ _ hR h; rw [List.length_nil, Nat.zero_add]; exact hR a h
  | cons o l ih =>
    intro k listed a hcl hl hB hR h
    have h0 : ops[k]? = some o := by simpa using (hl 0 (by simp)).symm
    simp only [List.length_cons, lexM, Bool.and_eq_true, bne_iff_ne, ne_eq] at hB
    obtain ⟨⟨⟨hr, hf⟩, hne⟩, hB'⟩ := hB
    have hr' : k ∈ Region.ready md ops listed := by simpa using hr
    have hl' : ∀ j, j < l.length → l[j]? = ops[k + 1 + j]? := fun j hj => by have := hl (j + 1) (by simp; omega); simpa [Nat.add_assoc, Nat.add_comm 1 j] using this
    rw [show (o :: l).length + g = (l.length + g) + 1 by simp only [List.length_cons]; omega]
    simp only [wpGrowM] at h
    obtain ⟨hw, v, hv, h'⟩ := h
    have next := ih (k + 1) _ _ (hcl.set hr') hl' hB' hR h'
    have hmm : (listed.setIfInBounds k true).getD m false = listed.getD m false := getD_set_ne false hne
    rcases hv with ⟨hanc, hv⟩ | hv
    · refine anyM_first (E := D) h0 (Region.noSelect_spec hs) (fun c a w => hQ c a _ _ w) (fun listed w hcl hun hD => hD ?_) _ listed a w hcl (Region.free_spec h0 hf) hr' (.inl ⟨hw, hv⟩) next hmm
      rw [getD_set_ne false hne]
      cases hlm : listed.getD m false with
      | false => rfl
      | true =>
        have := anc_listed hcl F m om hm (hcl m om hm hlm) k (by simpa using hanc)
        rw [getD_both hun] at this
        cases this
    · exact anyM_first (E := fun _ => True) h0 (Region.noSelect_spec hs) (fun c a w => hQ c a _ _ w) (fun _ _ _ _ _ => trivial) _ listed a w hcl (Region.free_spec h0 hf) hr' (.inl ⟨hw, fun w _ => hv w⟩) next hmm
theorem grow_headM {id : Nat} {a : Act} {w : World} {l : List Oper} (n m F : Nat) (D : World → Prop) (om : Oper) (hom : l.toArray[m]? = some om) (hm : P.follows .mixedOrders = true) (hs : Region.noSelect l.toArray = true)
    (hn : n ≤ l.length) (hB : lexM .any l.toArray m n 0 (Array.replicate l.toArray.size false) = true)
    (h : wpGrowM P .any l.toArray D m F (fun a' => anyM P .any l.toArray D m (noP Q) (l.length - n) (listedG 0 n (Array.replicate l.toArray.size false)) a' w.drew) 0 (l.take n) a) : (Code.region id l.toArray true).wp P Q a w := by
  refine wp_mono (Q := noP Q) ?_ noP_imp
  refine wp_region_any hm ?_
  have htl : (l.take n).length = n := by simp; omega
  have hc0 : Closed .any l.toArray (Array.replicate l.toArray.size false) := fun j oj _ hl => by rw [getD_replicate_false] at hl; cases hl
  have := anyM_lex (md := .any) (g := l.length - n) (m := m) (F := F) (w := w.drew) hs (fun _ _ _ _ _ h => h) om hom (l.take n) 0 (Array.replicate l.toArray.size false) a hc0 (fun j hj => by
    have hj' : j < n := by rw [htl] at hj; exact hj
    simp [hj']) (by rw [htl]; exact hB) (by rw [htl]; exact fun a' h => h) h
  rw [htl, show n + (l.length - n) = l.toArray.size by simp; omega] at this
  exact wpAny_of_anyM _ _ _ _ this
theorem gm_nil {m F k : Nat} {R : Act → Prop} {a : Act} (h : R a) : wpGrowM P md ops D m F R k [] a := h
theorem gm_run {m F k : Nat} {R : Act → Prop} {a : Act} {o : Oper} {rest : List Oper} (hw : Region.wanted o (yielded ops a.tmps) = true) (hanc : (anc md ops F m).contains k = true) (v : Value) (hv : ∀ w, D w → growAt P o a w v)
    (h : ∀ K : Act → Prop, (∀ a, wpGrowM P md ops D m F R (k + 1) rest a → K a) → K (a.put o.dst v)) : wpGrowM P md ops D m F R k (o :: rest) a := by
  simp only [wpGrowM]; exact ⟨hw, v, .inl ⟨hanc, hv⟩, h _ fun _ h => h⟩
theorem gm_free {m F k : Nat} {R : Act → Prop} {a : Act} {o : Oper} {rest : List Oper} (hw : Region.wanted o (yielded ops a.tmps) = true) (v : Value) (hv : ∀ w, growAt P o a w v)
    (h : ∀ K : Act → Prop, (∀ a, wpGrowM P md ops D m F R (k + 1) rest a → K a) → K (a.put o.dst v)) : wpGrowM P md ops D m F R k (o :: rest) a := by
  simp only [wpGrowM]; exact ⟨hw, v, .inr hv, h _ fun _ h => h⟩
theorem anyM_ready {m f : Nat} {listed : Array Bool} {a : Act} {w : World} (rs : List Nat) (hr : Region.ready md ops listed = rs) (hne : rs ≠ [])
    (h : ∀ w', Below w.heap.size w w' → (listed.getD m false = false → D w') ∧ ∀ i ∈ rs, wpOp P ops Q i (anyM P md ops D m Q f (listed.setIfInBounds i true)) a w') : anyM P md ops D m Q (f + 1) listed a w :=
  fun w' hw' => ⟨(h w' hw').1, fun h0 => absurd (hr ▸ h0) hne, fun i hi => (h w' hw').2 i (hr ▸ hi)⟩
theorem anyM_end {m f : Nat} {listed : Array Bool} {a : Act} {w : World} (hr : Region.ready md ops listed = []) (hl : listed.getD m false = true) (h : ∀ w', Below w.heap.size w w' → Q .normal a w') : anyM P md ops D m (noP Q) f listed a w := by
  cases f with
  | zero => exact fun w' hw' => ⟨fun e => (by rw [hl] at e; cases e), hr, h w' hw'⟩
  | succ f => exact fun w' hw' => ⟨fun e => (by rw [hl] at e; cases e), fun _ => h w' hw', fun i hi => by rw [hr] at hi; cases hi⟩
end
end Go.Proofs.YtobkonbpcnmgpaaDoor
