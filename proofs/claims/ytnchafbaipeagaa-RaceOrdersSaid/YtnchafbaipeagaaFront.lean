/- The law RaceFront: the plain law, and the walk. -/
import Derived.Test.YtnchafbaipeagaaLists
import Derived.Deep.DeepCutAuto
namespace Go.Proofs.Ytnchafbaipeagaa
open Go.RowKit
set_option linter.unusedVariables false
set_option linter.unusedSimpArgs false
theorem wrap8 {x : Int} (hx : 0 ≤ x ∧ x ≤ 255) : ∃ t : Nat, (IntKind.i64.wrap x).tmod 8 = t ∧ t < 8 := by
  have h1 : IntKind.i64.wrap x = x := by simp [IntKind.wrap, IntKind.bits]; omega
  refine ⟨x.toNat % 8, ?_, Nat.mod_lt _ (by omega)⟩
  rw [h1, Int.tmod_eq_emod_of_nonneg hx.1]
  have : x = x.toNat := by omega
  rw [this]; simp
theorem own_acts' {w : World} {bs : Nat} {v : Value} {l : List Plain.A} {n : Nat} (h : OwnA w bs v l) (hn : l.length = n) : ∃ A cn, v = .slice A n cn ∧ Acts w A n (at' l) ∧ (A = none → n = 0 ∧ cn = 0) := by subst hn; exact own_acts h
theorem FindL (l : List Plain.A) (A : Option Addr) (n cn : Nat) (hl : n = l.length) (hn : n ≤ 4000) (w : World) (hA : Acts w A n (at' l)) :
    Calls Try.prog 9 #[.slice A n cn] w fun e w' => e = .returned (foundV (Plain.findR (Plain.raceC (at' l)) n)) ∧ Below w.heap.size w w' := Find A n cn (at' l) hn w hA
def keepB (t : Nat) (x : Plain.A) : Bool := decide (x.who ≠ t) || decide (x.kind > 2)
def restL (t : Nat) (f : Nat → Plain.A) (n : Nat) : List Plain.A := (lst f n).filter (keepB t)
theorem restL_succ (t : Nat) (f : Nat → Plain.A) (n : Nat) : restL t f (n + 1) = if keepB t (f n) then restL t f n ++ [f n] else restL t f n := by
  unfold restL lst
  rw [List.range_succ, List.map_append, List.filter_append]
  cases h : keepB t (f n) <;> simp [h]
theorem restL_le (t : Nat) (f : Nat → Plain.A) (n : Nat) : (restL t f n).length ≤ n := by
  have := List.length_filter_le (keepB t) (lst f n)
  rw [lst_length] at this; exact this
theorem restL_all (t : Nat) (f : Nat → Plain.A) (n i : Nat) (h : i < (restL t f n).length) : keepB t (at' (restL t f n) i) = true := by
  have : at' (restL t f n) i ∈ restL t f n := by simp [at', List.getD, List.getElem?_eq_getElem h]
  exact (List.mem_filter.1 this).2
/-- of the rest, a race has nobody's accesses -/
theorem rest_found (t : Nat) (f : Nat → Plain.A) (n x y : Nat) (h : Plain.findR (Plain.raceC (at' (restL t f n))) (restL t f n).length = some (x, y)) :
    x < (restL t f n).length ∧ y < (restL t f n).length ∧ (at' (restL t f n) x).who ≠ t ∧ (at' (restL t f n) y).who ≠ t := by
  rcases Plain.findR_cases (Plain.raceC (at' (restL t f n))) (restL t f n).length with ⟨e, _⟩ | ⟨i, k, e, h1, h2, h3, _⟩
  · rw [e] at h; cases h
  · rw [e] at h; injection h with h; injection h with ha hb
    subst ha hb
    have hr := Plain.raceC_against h3
    have k1 := restL_all t f n i (by omega)
    have k2 := restL_all t f n k (by omega)
    simp only [keepB, Bool.or_eq_true, decide_eq_true_eq] at k1 k2
    exact ⟨by omega, h2, by omega, by omega⟩
set_option maxRecDepth 100000 in
set_option maxHeartbeats 4000000 in
theorem front_walk (A B : Option Addr) (n cn m cm : Nat) (f g : Nat → Plain.A) (x : Int) (hx : 0 ≤ x ∧ x ≤ 255) (w : World) (hA : Acts w A n f) (hz : A = none → n = 0 ∧ cn = 0) (hBa : Acts w B m g) (hzB : B = none → m = 0 ∧ cm = 0) :
    Calls Try.prog 5 #[.slice A n cn, .slice B m cm, .int .u8 x] w fun e w' => e = .returned (.bool true) ∧ Below w.heap.size w w' := by
  by_cases hn : 80 < n
  · have hn' : (80 : Int) < n := by omega
    go_enter Try.func5, Try.ntmps5
    go_wp2_with fail
    refine (awake _).mono ?_
    rintro e w1 ⟨rfl, hb1⟩
    go_wp2_with fail
    refine (awake _).mono ?_
    rintro e w2 ⟨rfl, hb2⟩
    go_wp2
    go_ret
    exact ⟨rfl, hb1.trans (hb2.mono hb1.size)⟩
  have hn' : ¬ (80 : Int) < n := by omega
  by_cases hm : 80 < m
  · have hm' : (80 : Int) < m := by omega
    go_enter Try.func5, Try.ntmps5
    go_wp2_with fail
    refine (awake _).mono ?_
    rintro e w1 ⟨rfl, hb1⟩
    go_wp2_with fail
    refine (awake _).mono ?_
    rintro e w2 ⟨rfl, hb2⟩
    go_wp2
    go_ret
    exact ⟨rfl, hb1.trans (hb2.mono hb1.size)⟩
  have hm' : ¬ (80 : Int) < m := by omega
  have hAl : Acts w A n (at' (lst f n)) := hA.congr fun i hi => (at_lst f n i hi).symm
  have hBl : Acts w B m (at' (lst g m)) := hBa.congr fun i hi => (at_lst g m i hi).symm
  have fr := Plain.find_front (a := at' (lst f n)) (b := at' (lst f n ++ lst g m)) (n := n) (m := n + m) (fun j hj => (at_app_l _ _ j (by rw [lst_length]; exact hj)).symm) (by omega)
  go_enter Try.func5, Try.ntmps5
  go_wp2_with fail
  refine (awake _).mono ?_
  rintro e w1 ⟨rfl, hb1⟩
  replace hA := hA.below hb1
  replace hAl := hAl.below hb1
  replace hBl := hBl.below hb1
  go_wp2_with fail
  refine (FindL (lst f n) A n cn (lst_length f n).symm (by omega) _ hAl).mono ?_
  rintro e w2 ⟨rfl, hb2⟩
  replace hA := hA.below hb2
  replace hAl := hAl.below hb2
  replace hBl := hBl.below hb2
  replace hb1 : Below w.heap.size w w2 := hb1.trans (hb2.mono hb1.size)
  clear hb2
  generalize hr : Plain.findR (Plain.raceC (at' (lst f n))) n = r1 at fr ⊢
  obtain ⟨p1, p2, p3, hp⟩ : ∃ p1 p2 p3 : Value, foundV r1 = .tuple #[p1, p2, p3] := by cases r1 <;> exact ⟨_, _, _, rfl⟩
  rw [hp]
  go_upto_region 4 with (fail)
  have hA0 := hA
  have hBl0 := hBl
  refine wp_region_lit ?_
  refine wl_bnone rfl rfl w2.heap.size (Nat.le_refl _) (fun w3 v3 O3 h3 => ?_)
  intro K hK
  go_simp
  refine hK _ _ ?_
  clear hK K
  replace hA := hA.below h3
  replace hAl := hAl.below h3
  replace hBl := hBl.below h3
  refine wl_val rfl (.slice A n cn) ?_ ?_
  · go_simp
  intro K hK
  go_simp
  refine hK _ _ ?_
  clear hK K
  refine wl_appacts rfl (.tmp 38) (.tmp 39) rfl w2.heap.size v3 [] rfl O3 A n cn (lst f n) rfl (lst_length f n) hAl hz (by simp; omega) h3.size (fun v4 w4 O4 g4 => ?_)
  replace h3 := h3.grown g4 h3.size (ownA_lt O3)
  clear g4 O3
  intro K hK
  go_simp
  refine hK _ _ ?_
  clear hK K
  refine wl_val rfl (.slice B m cm) ?_ ?_
  · go_simp
  intro K hK
  go_simp
  refine hK _ _ ?_
  clear hK K
  replace hBl : Acts w4 B m (at' (lst g m)) := hBl0.below h3
  replace hA : Acts w4 A n f := hA0.below h3
  simp only [List.nil_append] at O4
  refine wl_appacts rfl (.tmp 40) (.tmp 41) rfl w2.heap.size v4 (lst f n) rfl O4 B m cm (lst g m) rfl (lst_length g m) hBl hzB (by rw [lst_length]; omega) h3.size (fun v5 w5 O5 g5 => ?_)
  replace h3 := h3.grown g5 h3.size (ownA_lt O4)
  replace hA : Acts w5 A n f := hA0.below h3
  clear g5 O4 hBl
  intro K hK
  go_simp
  refine hK _ _ ?_
  clear hK K
  have hlen : (lst f n ++ lst g m).length = n + m := by rw [List.length_append, lst_length, lst_length]
  obtain ⟨A5, c5, rfl, a5, _⟩ := own_acts' O5 hlen
  refine wl_val rfl (.slice A5 (n + m) c5) ?_ ?_
  · go_simp
  intro K hK
  go_simp
  refine hK _ _ ?_
  clear hK K
  replace hb1 : Below w.heap.size w w5 := hb1.trans (h3.mono hb1.size)
  clear h3 O5 hA0 hBl0
  go_upto_region 5 with (fail)
  go_wp2_with fail
  refine (FindL (lst f n ++ lst g m) A5 (n + m) c5 hlen.symm (by omega) _ a5).mono ?_
  rintro e w6 ⟨rfl, hb6⟩
  replace hA := hA.below hb6
  replace hb1 : Below w.heap.size w w6 := hb1.trans (hb6.mono hb1.size)
  clear hb6 a5
  generalize hr2 : Plain.findR (Plain.raceC (at' (lst f n ++ lst g m))) (n + m) = r2 at fr ⊢
  obtain ⟨q1, q2, q3, hq⟩ : ∃ p1 p2 p3 : Value, foundV r2 = .tuple #[p1, p2, p3] := by cases r2 <;> exact ⟨_, _, _, rfl⟩
  rw [hq]
  go_upto_region 6 with (fail)
  go_cut [76] (fun s76 wx => s76 = .bool false ∧ wx = w6)
  case first =>
    cases r1 with
    | none =>
      obtain ⟨rfl, rfl, rfl⟩ : p1 = .int .i64 0 ∧ p2 = .int .i64 0 ∧ p3 = .bool false := by simpa [foundV, eq_comm] using hp
      cases r2 with
      | none =>
        obtain ⟨rfl, rfl, rfl⟩ : q1 = .int .i64 0 ∧ q2 = .int .i64 0 ∧ q3 = .bool false := by simpa [foundV, eq_comm] using hq
        go_wp2_with (fail)
        go_meet
        exact ⟨rfl, rfl⟩
      | some r =>
        obtain ⟨rfl, rfl, rfl⟩ : q1 = .int .i64 r.1 ∧ q2 = .int .i64 r.2 ∧ q3 = .bool true := by simpa [foundV, eq_comm] using hq
        have hle : n ≤ r.2 := fr.2 rfl r.1 r.2 rfl
        have hl : ¬ (r.2 : Int) < n := by omega
        go_wp2_with (fail)
        go_meet
        exact ⟨rfl, rfl⟩
    | some r =>
      have h2 := fr.1 r rfl
      subst h2
      obtain ⟨rfl, rfl, rfl⟩ : p1 = .int .i64 r.1 ∧ p2 = .int .i64 r.2 ∧ p3 = .bool true := by simpa [foundV, eq_comm] using hp
      obtain ⟨rfl, rfl, rfl⟩ : q1 = .int .i64 r.1 ∧ q2 = .int .i64 r.2 ∧ q3 = .bool true := by simpa [foundV, eq_comm] using hq
      have e1 : ((r.1 : Int) == r.1) = true := by simp
      have e2 : ((r.2 : Int) == r.2) = true := by simp
      go_wp2_with (fail)
      go_meet
      exact ⟨rfl, rfl⟩
  case rest =>
    obtain ⟨rfl, rfl⟩ := hcut
    clear hr hr2 fr hp hq hAl
    obtain ⟨w7, hw7⟩ : ∃ w7, w7 = wc := ⟨_, rfl⟩
    subst hw7
    obtain ⟨t, et', ht⟩ := wrap8 hx
    have et : x % 8 = (t : Int) := by rw [← et']; simp only [IntKind.wrap, IntKind.bits]; simp; rw [Int.tmod_eq_emod_of_nonneg (by omega)]; omega
    clear et'
    go_upto_region 10 with (fail)
    go_loopw [14, 15] (fun v i wr => ∃ k : Nat, k ≤ n ∧ i = .int .i64 k ∧ OwnA wr w7.heap.size v (restL t f k) ∧ Below w7.heap.size w7 wr) (fun _ i _ => n - (intOf i).toNat)
    case atStart => exact ⟨0, by omega, rfl, own_nil _ _, Below.refl _ _⟩
    case round =>
      obtain ⟨k, hk, rfl, hO, hb⟩ := hrel
      by_cases hlt : k < n
      · have hl : (k : Int) < n := by omega
        have hl0 : (0 : Int) ≤ k := by omega
        obtain ⟨b, off, rfl⟩ := acts_ptr hA (by omega)
        obtain ⟨c0, c1, c2⟩ := at_act hA hb hlt
        go_upto_region 12 with (fail)
        go_cut [99] (fun s99 wx => s99 = .bool (keepB t (f k)) ∧ wx = wr)
        case first =>
          by_cases ew : (f k).who = t
          · have e1 : ((t : Int) != t) = false := by simp
            by_cases ek : 2 < (f k).kind
            · have e3 : keepB t (f k) = true := by simp [keepB, ek]
              go_wp2_with (fail)
              go_meet
              exact ⟨by rw [e3], rfl⟩
            · have e3 : keepB t (f k) = false := by simp [keepB, ek, ew]
              go_wp2_with (fail)
              go_meet
              exact ⟨by rw [e3], rfl⟩
          · have e1 : ((f k).who != (t : Int)) = true := by simp [ew]
            have e3 : keepB t (f k) = true := by simp [keepB, ew]
            go_wp2_with (fail)
            go_meet
            exact ⟨by rw [e3], rfl⟩
        case rest =>
          obtain ⟨rfl, hwr⟩ := hcut
          subst hwr
          cases ek : keepB t (f k)
          · go_wp2
            go_roundw
            case rel => exact ⟨k + 1, by omega, by go_num, by rw [restL_succ, if_neg (by simp [ek])]; exact hO, hb⟩
            case measure => simp [intOf]; omega
          · go_upto_region 13 with (fail)
            refine wp_region_lit ?_
            refine wl_val rfl u14 ?_ ?_
            · go_simp
            intro K hK
            go_simp
            refine hK _ _ ?_
            clear hK K
            iterate 3
              refine wl_val rfl ?_ ?_ ?_
              rotate_left
              · go_simp; try with_reducible rfl
              intro K hK
              go_simp
              refine hK _ _ ?_
              clear hK K
            refine wl_val rfl (act (f k)) (run_ldact (.tmp 103) rfl b (off + k * 3) (f k) rfl c0 c1 c2) ?_
            intro K hK
            go_simp
            refine hK _ _ ?_
            clear hK K
            refine wl_bact rfl (.tmp 104) rfl (f k) rfl (fun w8 b8 a8 h8 => ?_)
            intro K hK
            go_simp
            refine hK _ _ ?_
            clear hK K
            have hlen := restL_le t f k
            refine wl_appacts rfl (.tmp 100) (.tmp 105) rfl w7.heap.size _ (restL t f k) rfl (ownA_keep hO h8) _ 1 1 [f k] rfl rfl a8 (fun e => by cases e) (by omega) (Nat.le_trans hb.size h8.size) (fun v9 w9 O9 g9 => ?_)
            have hb9 : Below w7.heap.size w7 w9 := (hb.trans (h8.mono hb.size)).grown g9 (Nat.le_trans hb.size h8.size) (ownA_lt (ownA_keep hO h8))
            clear g9 a8 h8
            intro K hK
            go_simp
            refine hK _ _ ?_
            clear hK K
            refine wl_val rfl v9 ?_ ?_
            · go_simp
            intro K hK
            go_simp
            refine hK _ _ ?_
            clear hK K
            go_wp2
            go_roundw
            case rel => exact ⟨k + 1, by omega, by go_num, by rw [restL_succ, if_pos ek]; exact O9, hb9⟩
            case measure => simp [intOf]; omega
      · have hl : ¬ (k : Int) < n := by omega
        have hkn : k = n := by omega
        subst hkn
        obtain ⟨L, hL⟩ : ∃ L, (restL t f k).length = L := ⟨_, rfl⟩
        obtain ⟨A8, c8, rfl, a8, _⟩ := own_acts' hO hL
        have hLk := restL_le t f k
        clear hO
        go_wp2_with fail
        refine (FindL (restL t f k) A8 L c8 hL.symm (by omega) _ a8).mono ?_
        rintro e w9 ⟨rfl, hb9⟩
        replace a8 := a8.below hb9
        replace hb1 : Below w.heap.size w w9 := (hb1.trans (hb.mono hb1.size)).trans (hb9.mono (Nat.le_trans hb1.size hb.size))
        cases hr3 : Plain.findR (Plain.raceC (at' (restL t f k))) L with
        | none =>
          simp only [foundV]
          go_wp2
          go_ret
          exact ⟨rfl, hb1⟩
        | some r =>
          obtain ⟨i, j⟩ := r
          rw [← hL] at hr3
          obtain ⟨h1, h2, h3, h4⟩ := rest_found t f k i j hr3
          rw [hL] at h1 h2
          simp only [foundV]
          obtain ⟨b8, o8, rfl⟩ := acts_ptr a8 (by omega)
          obtain ⟨c0, c1, c2⟩ := at_act a8 (Below.refl _ _) h1
          obtain ⟨d0, d1, d2⟩ := at_act a8 (Below.refl _ _) h2
          have l1 : (i : Int) < L := by omega
          have l2 : (j : Int) < L := by omega
          have l3 : (0 : Int) ≤ i := by omega
          have l4 : (0 : Int) ≤ j := by omega
          have e1 : ((at' (restL t f k) i).who != (t : Int)) = true := by simp [h3]
          have e2 : ((at' (restL t f k) j).who != (t : Int)) = true := by simp [h4]
          go_wp2
          go_ret
          exact ⟨rfl, hb1⟩
end Go.Proofs.Ytnchafbaipeagaa
