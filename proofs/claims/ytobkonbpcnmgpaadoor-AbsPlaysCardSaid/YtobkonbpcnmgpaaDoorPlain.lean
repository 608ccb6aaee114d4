/- long, right; what is not done changes nothing; a run of asks. -/
import Derived.Test.YtobkonbpcnmgpaaDoorAsks
import Derived.Test.YtobkonbpcnmgpaaDoorORefRight
namespace Go.Proofs.YtobkonbpcnmgpaaDoor
open Go.RowKit
set_option linter.unusedVariables false
set_option linter.unusedSimpArgs false
theorem longC (Ad : Option Addr) (n cn : Nat) (w : World) : Calls Tryd.prog 11 #[.slice Ad n cn] w fun e w' => e = .returned (.bool (decide (20 < n))) ∧ Below w.heap.size w w' := by
  by_cases h : 20 < n
  · have h' : 20 < (n : Int) := by omega
    rw [decide_eq_true h]
    clear h
    go_enter Tryd.func11, Tryd.ntmps11
    go_wp2
    go_ret
    exact ⟨rfl, Below.refl _ _⟩
  · have h' : ¬ 20 < (n : Int) := by omega
    rw [decide_eq_false h]
    clear h
    go_enter Tryd.func11, Tryd.ntmps11
    go_wp2
    go_ret
    exact ⟨rfl, Below.refl _ _⟩
def RightP (f : Nat → O) (n : Nat) (t : Int) : Prop := ∀ i, i < n → rb (f i) t = true
instance newOk_dec (f : Nat → O) (n : Nat) (t : Int) : Decidable (newOk f n t) := by unfold newOk; infer_instance
def rOk (f : Nat → O) (n : Nat) (t : Int) : Bool := decide (newOk f n t)
theorem newOk_iff (f : Nat → O) (n : Nat) (t : Int) : newOk f n t ↔ 1 ≤ t ∧ t ≤ 8 ∧ RightP f n t := Iff.rfl
set_option maxRecDepth 100000 in
set_option maxHeartbeats 8000000 in
theorem rightC (Ad : Option Addr) (n cn : Nat) (f : Nat → O) (hn : n ≤ 4000) (t : Int) (w : World) (hA : Objs w Ad n f) : Calls Tryd.prog 13 #[.slice Ad n cn, .int .i64 t] w fun e w' => e = .returned (.bool (rOk f n t)) ∧ Below w.heap.size w w' := by
  obtain ⟨p, hp⟩ : ∃ p, Hid (p = rOk f n t) := ⟨_, rfl⟩
  rw [← hp.out]
  go_enter Tryd.func13, Tryd.ntmps13
  go_upto_region 2 with (fail)
  go_loopw [5] (fun v wr => ∃ (k : Nat), v = .int .i64 k ∧ k ≤ n ∧ (∀ j, j < k → rb (f j) t = true) ∧ Below w.heap.size w wr) (fun v _ => n - (intOf v).toNat)
  case atStart => exact ⟨0, rfl, Nat.zero_le _, fun p hp => absurd hp (by omega), Below.refl _ _⟩
  case round =>
    obtain ⟨k, rfl, hk, hpre, hal⟩ := hrel
    by_cases hlt : k < n
    case neg =>
      obtain rfl : k = n := by omega
      have hl1 : ¬ ((k : Int) < k) := by omega
      by_cases h1 : 1 ≤ t
      · by_cases h8 : t ≤ 8
        · obtain rfl : p = true := by rw [hp.out]; exact decide_eq_true ⟨h1, h8, hpre⟩
          clear hpre hp
          go_wp2
          go_ret
          exact ⟨rfl, hal⟩
        · obtain rfl : p = false := by rw [hp.out]; exact decide_eq_false (fun h => h8 h.2.1)
          clear hpre hp
          go_wp2
          go_ret
          exact ⟨rfl, hal⟩
      · obtain rfl : p = false := by rw [hp.out]; exact decide_eq_false (fun h => h1 h.1)
        clear hpre hp
        go_wp2
        go_ret
        exact ⟨rfl, hal⟩
    have hl0 : (0 : Int) ≤ k := by omega
    have hl1 : (k : Int) < n := by omega
    obtain ⟨bA, oA, rfl⟩ := objs_ptr hA (by omega)
    go_upto_region 4 with (fail)
    refine wp_region_lit ?_
    iterate 2
      refine wl_val rfl ?_ ?_ ?_
      rotate_left
      · go_simp; try with_reducible rfl
      intro K hK
      go_simp
      refine hK _ _ ?_
      clear hK K
    refine wl_val rfl (.pointer (some ⟨bA, oA + k * 4, none⟩)) ?_ ?_
    · go_simp
    intro K hK
    go_simp
    refine hK _ _ ?_
    clear hK K
    refine wl_val rfl (ov (f k)) (run_ldobj (.tmp 14) rfl bA oA k hA hal hlt rfl) ?_
    intro K hK
    go_simp
    refine hK _ _ ?_
    clear hK K
    iterate 1
      refine wl_val rfl ?_ ?_ ?_
      rotate_left
      · go_simp; try with_reducible rfl
      intro K hK
      go_simp
      refine hK _ _ ?_
      clear hK K
    refine wl_call rfl 17 #[ov (f k), .int .i64 t] (.bool (rb (f k) t)) _ ?_ (refRight (f k) t wr) (fun w6 hb6 => ?_)
    · first | (go_simp; done) | (go_simp; rfl)
    intro K hK
    go_simp
    refine hK _ _ ?_
    clear hK K
    replace hal := hal.trans (hb6.mono hal.size)
    clear hb6
    by_cases hrb : rb (f k) t = true
    case neg =>
      obtain rfl : p = false := by rw [hp.out]; exact decide_eq_false (fun h => hrb (h.2.2 k hlt))
      clear hp
      rw [Bool.eq_false_iff.2 hrb]
      clear hpre hrb
      go_wp2
      go_ret
      exact ⟨rfl, hal⟩
    rw [hrb]
    have hpre' : ∀ p, p < k + 1 → rb (f p) t = true := fun p hp => by
      rcases Nat.lt_succ_iff_lt_or_eq.1 hp with h | rfl
      · exact hpre p h
      · exact hrb
    clear hpre hrb
    go_wp2
    go_roundw
    case rel => exact ⟨k + 1, by go_num, by omega, hpre', hal⟩
    case measure => simp [intOf]; omega
/-- what a machine has come to -/
def run (t : Int) (n : Nat) (f : Nat → Ak) (S0 : Nat → St) : Nat → (Nat → St)
  | 0 => S0
  | k + 1 => (mac t n (run t n f S0 k) (f k)).S
theorem lock_idle {s : St} {x : Ak} (h : (lockP s x).ok = false ∨ 1 ≤ (lockP s x).r) : (lockP s x).s = s := by
  unfold lockP at h ⊢
  repeat' split at h
  all_goals simp_all
theorem goA_idle {t : Int} {s : St} {x : Ak} (h : (goA t s x).ok = false ∨ (1 ≤ (goA t s x).r ∧ (goA t s x).r ≤ 4)) : (goA t s x).s = s := by
  unfold goA at h ⊢
  by_cases hm : mayS s.o x.call t x.who = true ∧ ¬ (x.call = 4 ∧ s.o.n ≤ x.arg)
  · rw [if_pos hm] at h ⊢
    by_cases hp : s.o.k ≠ 13 ∧ x.part ≠ 0
    · rw [if_pos hp]
    · rw [if_neg hp] at h ⊢
      by_cases h9 : s.o.k = 9
      · rw [if_pos h9] at h ⊢
        unfold seqP at h ⊢
        by_cases c4 : x.call = 4
        · rw [if_pos c4] at h ⊢
          by_cases co : s.owner = x.who
          · rw [if_pos co] at h; simp at h
          · rw [if_neg co]
        · rw [if_neg c4] at h ⊢
          by_cases c3 : x.call = 3
          · rw [if_pos c3]
          · rw [if_neg c3] at h ⊢; exact lock_idle (h.imp id (·.1))
      · rw [if_neg h9] at h ⊢
        unfold kindP at h ⊢
        by_cases h67 : s.o.k = 6 ∨ s.o.k = 7
        · rw [if_pos h67] at h ⊢
          unfold duoP at h ⊢
          by_cases hw : x.who = s.o.a ∨ x.who = s.o.b
          · rw [if_pos hw] at h ⊢; exact lock_idle (h.imp id (·.1))
          · rw [if_neg hw]
        · rw [if_neg h67] at h ⊢
          by_cases h11 : s.o.k = 11
          · rw [if_pos h11] at h ⊢
            unfold semP at h ⊢
            repeat' split at h
            all_goals simp_all
          · rw [if_neg h11] at h ⊢
            by_cases h12 : s.o.k = 12
            · rw [if_pos h12]
            · rw [if_neg h12] at h ⊢
              by_cases h13 : s.o.k = 13
              · rw [if_pos h13] at h ⊢
                unfold barP at h ⊢
                generalize x.who.toNat = q at h ⊢
                by_cases cn : s.o.n ≤ q
                · rw [if_pos cn]
                · rw [if_neg cn] at h ⊢
                  repeat' split at h
                  all_goals simp_all
              · rw [if_neg h13] at h ⊢
                by_cases h14 : s.o.k = 14
                · rw [if_pos h14] at h ⊢
                  unfold rwP at h ⊢
                  generalize x.who.toNat = q at h ⊢
                  repeat' split at h
                  all_goals simp_all
                · rw [if_neg h14] at h ⊢
                  by_cases h15 : s.o.k = 15
                  · rw [if_pos h15] at h ⊢
                    unfold onceP at h ⊢
                    repeat' split at h
                    all_goals simp_all
                  · rw [if_neg h15] at h ⊢; exact lock_idle (h.imp id (·.1))
  · rw [if_neg hm]
theorem mac_idle {t : Int} {n : Nat} {S : Nat → St} {x : Ak} (h : (mac t n S x).ok = false ∨ (1 ≤ (mac t n S x).r ∧ (mac t n S x).r ≤ 4)) : (mac t n S x).S = S := by
  by_cases hin : 0 ≤ x.obj ∧ x.obj < n
  · have e : mac t n S x = _ := if_pos hin
    rw [e] at h ⊢
    simp only at h ⊢
    rw [goA_idle h, updS_same]
  · have e : mac t n S x = _ := if_neg hin
    rw [e]
theorem MacA.glt {w : World} {bM g n cap : Nat} {t : Int} {S : Nat → St} (h : MacA w bM g n cap t S) : g < w.heap.size := by
  rcases h.mac with ⟨_, _, _, h3⟩ | ⟨_, e, V, c, h2⟩
  · exact h3.lt
  · rw [e]; exact blk_lt h2
end Go.Proofs.YtobkonbpcnmgpaaDoor
