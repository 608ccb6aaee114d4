/- Which op may be: the program's answer. -/
import Derived.Test.YtlcoealfnlakhaaDoorMem
import Derived.Test.YtlcoealfnlakhaaDoorOCalls
namespace Go.Proofs.YtlcoealfnlakhaaDoor
open Go.RowKit
set_option linter.unusedVariables false
set_option linter.unusedSimpArgs false
theorem withinC (n m : Int) (w : World) : Calls Tryd.prog 19 #[.int .i64 n, .int .i64 m] w fun e w' => e = .returned (.bool (decide (0 ≤ n ∧ n < m))) ∧ w' = w := by
  by_cases h1 : 0 ≤ n
  · by_cases h2 : n < m
    · rw [decide_eq_true (⟨h1, h2⟩ : 0 ≤ n ∧ n < m)]
      go_enter Tryd.func19, Tryd.ntmps19
      go_wp2
      go_ret
      exact ⟨rfl, rfl⟩
    · rw [decide_eq_false (fun h => h2 h.2 : ¬ (0 ≤ n ∧ n < m))]
      go_enter Tryd.func19, Tryd.ntmps19
      go_wp2
      go_ret
      exact ⟨rfl, rfl⟩
  · rw [decide_eq_false (fun h => h1 h.1 : ¬ (0 ≤ n ∧ n < m))]
    go_enter Tryd.func19, Tryd.ntmps19
    go_wp2
    go_ret
    exact ⟨rfl, rfl⟩
theorem regC (n : Int) (w : World) : Calls Tryd.prog 21 #[.int .i64 n] w fun e w' => e = .returned (.bool (decide (0 ≤ n ∧ n < 4))) ∧ w' = w := by
  by_cases h1 : 0 ≤ n
  · by_cases h2 : n ≤ 3
    · rw [decide_eq_true (⟨h1, by omega⟩ : 0 ≤ n ∧ n < 4)]
      go_enter Tryd.func21, Tryd.ntmps21
      go_wp2
      go_ret
      exact ⟨rfl, rfl⟩
    · rw [decide_eq_false (by omega : ¬ (0 ≤ n ∧ n < 4))]
      go_enter Tryd.func21, Tryd.ntmps21
      go_wp2
      go_ret
      exact ⟨rfl, rfl⟩
  · rw [decide_eq_false (fun h => h1 h.1 : ¬ (0 ≤ n ∧ n < 4))]
    go_enter Tryd.func21, Tryd.ntmps21
    go_wp2
    go_ret
    exact ⟨rfl, rfl⟩
/-- may a call be asked of a kind -/
def may (k c : Int) : Bool := (callsN (kdN k)).any fun j => (j : Int) == c
def gF (L : List Nat) (i : Nat) : Int := ((L.getD i 0 : Nat) : Int)
theorem ints_of {w : World} {V : Option Addr} {n : Nat} {l : List Nat} (h : Ints w V n l) : IntsF w V n (gF l) := h
theorem may_t {k c : Int} {i : Nat} (h : i < (callsN (kdN k)).length) (e : gF (callsN (kdN k)) i = c) : may k c = true := by
  unfold may
  rw [List.any_eq_true]
  refine ⟨(callsN (kdN k))[i], List.getElem_mem h, ?_⟩
  unfold gF at e
  rw [List.getD_eq_getElem?_getD, List.getElem?_eq_getElem h, Option.getD_some] at e
  simp [e]
theorem may_f {k c : Int} (h : ∀ i, i < (callsN (kdN k)).length → gF (callsN (kdN k)) i ≠ c) : may k c = false := by
  unfold may
  rw [List.any_eq_false]
  intro x hx
  obtain ⟨i, hi, rfl⟩ := List.getElem_of_mem hx
  have := h i hi
  unfold gF at this
  rw [List.getD_eq_getElem?_getD, List.getElem?_eq_getElem hi, Option.getD_some] at this
  simpa using this
theorem callsN_le : ∀ k, k < 16 → (callsN k).length ≤ 4 := by decide +kernel
/-- what an argument of a call may be -/
def argB (o : O) (x : X) : Bool := if x.b = 4 then decide (0 < o.n) && decide (x.K < o.n) else o.k == 13 || x.K == 0
def callB (C : Cl) (x : X) : Bool := if 0 ≤ x.a ∧ x.a < C.no then may (C.f x.a.toNat).k x.b && argB (C.f x.a.toNat) x else false
def regB (n : Int) : Bool := decide (0 ≤ n ∧ n < 4)
def rgt (C : Cl) (x : X) : Bool :=
  if x.k = 1 then regB x.a && x.b == 0
  else if x.k = 2 then regB x.a && regB x.b && x.K == 0
  else if x.k = 3 ∨ x.k = 4 then regB x.a && decide (0 ≤ x.b ∧ x.b < C.vars) && x.K == 0
  else if x.k = 5 then regB x.a && x.b == 0 && x.K == 0
  else if x.k = 6 then x.a == 0 && x.b == 0 && x.K == 0
  else if x.k = 7 then callB C x
  else false

set_option maxRecDepth 100000 in
set_option maxHeartbeats 2000000 in
theorem clCall (C : Cl) (x : X) (hx : 0 ≤ x.K ∧ x.K < 4294967296) (w : World) (hM : MemC w C) (hN : NmW w) : Calls Tryd.prog 20 #[C.v, xv x] w fun e w' => e = .returned (.bool (callB C x)) ∧ Below w.heap.size w w' := by
  obtain ⟨k, a, b, K⟩ := x
  by_cases hin : 0 ≤ a ∧ a < C.no
  case neg =>
    have hal := ((Below.refl w.heap.size w).alloc (Nat.le_refl _) (.cells #[.slice C.A C.no C.ca, .int .i64 C.vars, .slice C.W C.nw C.cw, .int .i64 C.room, .slice C.T C.nt C.ct] 26)).alloc (by simp) (.cells #[.int .i64 k, .int .i64 a, .int .i64 b, .int .u32 K] 37)
    rw [show callB C ⟨k, a, b, K⟩ = false from if_neg hin]
    unfold Cl.v xv
    go_enter Tryd.func20, Tryd.ntmps20
    go_wp2_with fail
    refine (withinC _ _ _).mono ?_
    rintro e w1 ⟨rfl, rfl⟩
    rw [decide_eq_false hin]
    go_wp2
    go_ret
    exact ⟨rfl, hal⟩
  rw [show callB C ⟨k, a, b, K⟩ = (may (C.f a.toNat).k b && argB (C.f a.toNat) ⟨k, a, b, K⟩) from if_pos hin]
  obtain ⟨i, rfl⟩ : ∃ i : Nat, a = i := ⟨a.toNat, by omega⟩
  rw [Int.toNat_natCast]
  have hi : i < C.no := by omega
  have hl0 : (0 : Int) ≤ i := by omega
  have hl1 : (i : Int) < C.no := by omega
  obtain ⟨bA, oA, eA⟩ := objs_ptr hM.objs (by omega)
  have hA := hM.objs
  rw [eA] at hA
  have hNi := hM.hN i hi
  unfold Cl.v xv
  rw [eA]
  obtain ⟨res, hres⟩ : ∃ B, Hid ((may (C.f i).k b && argB (C.f i) ⟨k, i, b, K⟩) = B) := ⟨_, rfl⟩
  rw [hres.out]
  go_enter Tryd.func20, Tryd.ntmps20
  go_wp2_with fail
  refine (withinC _ _ _).mono ?_
  rintro e w1 ⟨rfl, rfl⟩
  rw [decide_eq_true hin]
  go_upto_region 3 with (fail)
  obtain ⟨W, b1, b2, e0, e1, e2, X1, X2, hal⟩ := box2 w #[.slice (some ⟨bA, oA, none⟩) C.no C.ca, .int .i64 C.vars, .slice C.W C.nw C.cw, .int .i64 C.room, .slice C.T C.nt C.ct] #[.int .i64 k, .int .i64 i, .int .i64 b, .int .u32 K] 26 37
  rw [e0, e2, e1]
  clear e0 e2 e1
  have y10 := cell_of_row W b1 0 _ 26 _ X1
  have y21 := cell_of_row W b2 1 _ 37 _ X2
  refine wp_region_lit ?_
  iterate 4
    refine wl_val rfl ?_ ?_ ?_
    rotate_left
    · go_simp; try with_reducible rfl
    intro K hK
    go_simp
    refine hK _ _ ?_
    clear hK K
  refine wl_val rfl (.pointer (some ⟨bA, oA + i * 4, none⟩)) ?_ ?_
  · go_simp
  intro K hK
  go_simp
  refine hK _ _ ?_
  clear hK K
  refine wl_val rfl (ov (C.f i)) (run_ldobj (.tmp 19) rfl bA oA i hA hal hi rfl) ?_
  intro K hK
  go_simp
  refine hK _ _ ?_
  clear hK K
  refine wl_alloc rfl 43 rfl (.agg #[.int .i64 0, .int .i64 0, .int .i64 0, .int .i64 0]) #[.int .i64 0, .int .i64 0, .int .i64 0, .int .i64 0] (fun w => by kernel_rfl) rfl (fun w4 b9 X4 l4 f4 => ?_)
  intro K hK
  go_simp
  refine hK _ _ ?_
  clear hK K
  refine wl_store rfl 43 (.tmp 5) (.tmp 20) rfl b9 #[.int .i64 (C.f i).k, .int .i64 (C.f i).n, .int .i64 (C.f i).a, .int .i64 (C.f i).b] rfl rfl 43 _ X4 (by kernel_rfl) rfl (by simp [Value.oneCell']) (fun w5 g1 g2 g3 g4 => ?_)
  intro K hK
  go_simp
  refine hK _ _ ?_
  clear hK K
  have hb5 : Below W.heap.size W w5 := l4.trans (g3 _ (by simp only [Hid] at f4; omega))
  have X1' := keep X1 hb5
  have X2' := keep X2 hb5
  have hal5 := hal.trans (hb5.mono hal.size)
  clear X4 l4 f4 g2 g3 g4 y10 y21 X1 X2
  have z0 := cell_of_row w5 b9 0 _ 43 _ g1
  go_wp2_with fail
  refine (objCalls (C.f i).k w5 (hN.below hal5)).mono ?_
  rintro e w6 ⟨V, cp, rfl, hI, hb6⟩
  have X1 := keep X1' hb6
  have X2 := keep X2' hb6
  have G := keep g1 hb6
  have hal6 := hal5.trans (hb6.mono hal5.size)
  have hle := callsN_le (kdN (C.f i).k) (kdN_lt _)
  have hmt := fun j hj hb => may_t (k := (C.f i).k) (c := b) (i := j) hj hb
  have hmf := may_f (k := (C.f i).k) (c := b)
  obtain ⟨q, hq⟩ : ∃ q, Hid (may (C.f i).k b = q) := ⟨_, rfl⟩
  rw [hq.out] at hres hmt hmf
  replace hI := ints_of hI
  generalize callsN (kdN (C.f i).k) = L at *
  generalize gF L = g at *
  generalize hm : L.length = m at *
  have y2 := cell_of_row w6 b2 2 _ 37 _ X2
  have y3 := cell_of_row w6 b2 3 _ 37 _ X2
  have z0' := cell_of_row w6 b9 0 _ 43 _ G
  have z1' := cell_of_row w6 b9 1 _ 43 _ G
  clear z0 hb6 X1' X2' g1 hb5 hal5 X1 X2 G hq
  have hr := hres.out
  clear hres
  go_upto_region 5 with (fail)
  go_loopw [25] (fun v wr => ∃ j : Nat, v = .int .i64 j ∧ j ≤ m ∧ (∀ p, p < j → g p ≠ b) ∧ wr = w6) (fun v _ => m - (intOf v).toNat)
  case atStart => exact ⟨0, rfl, Nat.zero_le _, fun p hp => absurd hp (by omega), rfl⟩
  case round =>
    obtain ⟨j, rfl, hj, hno, rfl⟩ := hrel
    by_cases hlt : j < m
    · have hj0 : (0 : Int) ≤ j := by omega
      have hj1 : (j : Int) < m := by omega
      obtain ⟨bV, oV, rfl, hV, hcV⟩ := hI (by omega)
      have c := hcV j hlt
      by_cases he : g j = b
      · obtain rfl : q = true := hmt j hlt he
        clear hmt hmf hI hcV hno
        rw [he] at c
        clear he
        rw [Bool.true_and] at hr
        by_cases hb4 : b = 4
        · subst hb4
          have hr' : (decide (0 < (C.f i).n) && decide (K < (C.f i).n)) = res := by rw [← hr]; simp [argB]
          clear hr
          by_cases hn0 : 0 < (C.f i).n
          · have hw1 : IntKind.u64.wrap (C.f i).n = (C.f i).n := by simp [IntKind.wrap, IntKind.bits, IntKind.signed]; omega
            have hw2 : IntKind.u64.wrap K = K := by simp [IntKind.wrap, IntKind.bits, IntKind.signed]; omega
            rw [decide_eq_true hn0, Bool.true_and] at hr'
            subst hr'
            go_wp2
            go_ret
            exact ⟨rfl, hal6⟩
          · rw [decide_eq_false hn0, Bool.false_and] at hr'
            subst hr'
            go_wp2
            go_ret
            exact ⟨rfl, hal6⟩
        · have k4 : (b == 4) = false := by simp [hb4]
          have hr' : ((C.f i).k == 13 || K == 0) = res := by rw [← hr]; simp [argB, hb4]
          clear hr hb4
          by_cases h13 : (C.f i).k = 13
          · have k13 : ((C.f i).k == 13) = true := by simp [h13]
            rw [k13, Bool.true_or] at hr'
            subst hr'
            clear h13
            go_wp2
            go_ret
            exact ⟨rfl, hal6⟩
          · have k13 : ((C.f i).k == 13) = false := by simp [h13]
            rw [k13, Bool.false_or] at hr'
            subst hr'
            clear h13
            go_wp2
            go_ret
            exact ⟨rfl, hal6⟩
      · clear hmt hmf
        have hne : (g j != b) = true := by simp [he]
        go_wp2
        go_roundw
        case rel => exact ⟨j + 1, by go_num, by omega, show (∀ p, p < j + 1 → g p ≠ b) from fun p hp => by
          rcases Nat.lt_succ_iff_lt_or_eq.1 hp with h | rfl
          · exact hno p h
          · exact he, by first | rfl | trivial⟩
        case measure => simp [intOf]; omega
    · obtain rfl : j = m := by omega
      obtain rfl : q = false := hmf hno
      rw [Bool.false_and] at hr
      subst hr
      clear hmt hmf hno
      have hj1 : ¬ (j : Int) < j := by omega
      go_wp2
      go_ret
      exact ⟨rfl, hal6⟩


set_option maxRecDepth 100000 in
set_option maxHeartbeats 4000000 in
theorem clRight (C : Cl) (x : X) (hx : 0 ≤ x.K ∧ x.K < 4294967296) (w : World) (hM : MemC w C) (hN : NmW w) : Calls Tryd.prog 12 #[C.v, xv x] w fun e w' => e = .returned (.bool (rgt C x)) ∧ Below w.heap.size w w' := by
  obtain ⟨k, a, b, K⟩ := x
  have hx' := hx
  obtain ⟨B, hB⟩ : ∃ B, Hid (rgt C ⟨k, a, b, K⟩ = B) := ⟨_, rfl⟩
  rw [hB.out]
  replace hB := hB.out
  have hal := ((Below.refl w.heap.size w).alloc (Nat.le_refl _) (.cells #[.slice C.A C.no C.ca, .int .i64 C.vars, .slice C.W C.nw C.cw, .int .i64 C.room, .slice C.T C.nt C.ct] 26)).alloc (by simp) (.cells #[.int .i64 k, .int .i64 a, .int .i64 b, .int .u32 K] 37)
  by_cases e1 : k = 1
  · subst e1
    have hB' : ((decide (0 ≤ a ∧ a < 4)) && (b == 0)) = B := by rw [← hB]; simp [rgt, regB]
    clear hB
    by_cases c0 : 0 ≤ a ∧ a < 4
    · rw [decide_eq_true c0, Bool.true_and] at hB'
      subst hB'
      unfold Cl.v xv
      go_enter Tryd.func12, Tryd.ntmps12
      go_wp2_with fail
      refine (withinC _ _ _).mono ?_
      rintro e w1 ⟨rfl, rfl⟩
      rw [decide_eq_true c0]
      go_wp2
      go_ret
      exact ⟨rfl, hal⟩
    · simp only [decide_eq_false c0, Bool.true_and, Bool.false_and] at hB'
      subst hB'
      unfold Cl.v xv
      go_enter Tryd.func12, Tryd.ntmps12
      go_wp2_with fail
      refine (withinC _ _ _).mono ?_
      rintro e w1 ⟨rfl, rfl⟩
      rw [decide_eq_false c0]
      go_wp2
      go_ret
      exact ⟨rfl, hal⟩
  by_cases e2 : k = 2
  · subst e2
    have hB' : ((decide (0 ≤ a ∧ a < 4)) && (decide (0 ≤ b ∧ b < 4)) && (K == 0)) = B := by rw [← hB]; simp [rgt, regB]
    clear hB
    by_cases c0 : 0 ≤ a ∧ a < 4
    · by_cases c1 : 0 ≤ b ∧ b < 4
      · rw [decide_eq_true c0, decide_eq_true c1, Bool.true_and, Bool.true_and] at hB'
        subst hB'
        unfold Cl.v xv
        go_enter Tryd.func12, Tryd.ntmps12
        go_wp2_with fail
        refine (withinC _ _ _).mono ?_
        rintro e w1 ⟨rfl, rfl⟩
        rw [decide_eq_true c0]
        go_wp2_with fail
        refine (withinC _ _ _).mono ?_
        rintro e w1 ⟨rfl, rfl⟩
        rw [decide_eq_true c1]
        go_wp2
        go_ret
        exact ⟨rfl, hal⟩
      · simp only [decide_eq_true c0, decide_eq_false c1, Bool.true_and, Bool.false_and] at hB'
        subst hB'
        unfold Cl.v xv
        go_enter Tryd.func12, Tryd.ntmps12
        go_wp2_with fail
        refine (withinC _ _ _).mono ?_
        rintro e w1 ⟨rfl, rfl⟩
        rw [decide_eq_true c0]
        go_wp2_with fail
        refine (withinC _ _ _).mono ?_
        rintro e w1 ⟨rfl, rfl⟩
        rw [decide_eq_false c1]
        go_wp2
        go_ret
        exact ⟨rfl, hal⟩
    · simp only [decide_eq_false c0, Bool.true_and, Bool.false_and] at hB'
      subst hB'
      unfold Cl.v xv
      go_enter Tryd.func12, Tryd.ntmps12
      go_wp2_with fail
      refine (withinC _ _ _).mono ?_
      rintro e w1 ⟨rfl, rfl⟩
      rw [decide_eq_false c0]
      go_wp2
      go_ret
      exact ⟨rfl, hal⟩
  by_cases e3 : k = 3
  · subst e3
    have hB' : ((decide (0 ≤ a ∧ a < 4)) && (decide (0 ≤ b ∧ b < C.vars)) && (K == 0)) = B := by rw [← hB]; simp [rgt, regB]
    clear hB
    by_cases c0 : 0 ≤ a ∧ a < 4
    · by_cases c1 : 0 ≤ b ∧ b < C.vars
      · rw [decide_eq_true c0, decide_eq_true c1, Bool.true_and, Bool.true_and] at hB'
        subst hB'
        unfold Cl.v xv
        go_enter Tryd.func12, Tryd.ntmps12
        go_wp2_with fail
        refine (withinC _ _ _).mono ?_
        rintro e w1 ⟨rfl, rfl⟩
        rw [decide_eq_true c0]
        go_wp2_with fail
        refine (withinC _ _ _).mono ?_
        rintro e w1 ⟨rfl, rfl⟩
        rw [decide_eq_true c1]
        go_wp2
        go_ret
        exact ⟨rfl, hal⟩
      · simp only [decide_eq_true c0, decide_eq_false c1, Bool.true_and, Bool.false_and] at hB'
        subst hB'
        unfold Cl.v xv
        go_enter Tryd.func12, Tryd.ntmps12
        go_wp2_with fail
        refine (withinC _ _ _).mono ?_
        rintro e w1 ⟨rfl, rfl⟩
        rw [decide_eq_true c0]
        go_wp2_with fail
        refine (withinC _ _ _).mono ?_
        rintro e w1 ⟨rfl, rfl⟩
        rw [decide_eq_false c1]
        go_wp2
        go_ret
        exact ⟨rfl, hal⟩
    · simp only [decide_eq_false c0, Bool.true_and, Bool.false_and] at hB'
      subst hB'
      unfold Cl.v xv
      go_enter Tryd.func12, Tryd.ntmps12
      go_wp2_with fail
      refine (withinC _ _ _).mono ?_
      rintro e w1 ⟨rfl, rfl⟩
      rw [decide_eq_false c0]
      go_wp2
      go_ret
      exact ⟨rfl, hal⟩
  by_cases e4 : k = 4
  · subst e4
    have hB' : ((decide (0 ≤ a ∧ a < 4)) && (decide (0 ≤ b ∧ b < C.vars)) && (K == 0)) = B := by rw [← hB]; simp [rgt, regB]
    clear hB
    by_cases c0 : 0 ≤ a ∧ a < 4
    · by_cases c1 : 0 ≤ b ∧ b < C.vars
      · rw [decide_eq_true c0, decide_eq_true c1, Bool.true_and, Bool.true_and] at hB'
        subst hB'
        unfold Cl.v xv
        go_enter Tryd.func12, Tryd.ntmps12
        go_wp2_with fail
        refine (withinC _ _ _).mono ?_
        rintro e w1 ⟨rfl, rfl⟩
        rw [decide_eq_true c0]
        go_wp2_with fail
        refine (withinC _ _ _).mono ?_
        rintro e w1 ⟨rfl, rfl⟩
        rw [decide_eq_true c1]
        go_wp2
        go_ret
        exact ⟨rfl, hal⟩
      · simp only [decide_eq_true c0, decide_eq_false c1, Bool.true_and, Bool.false_and] at hB'
        subst hB'
        unfold Cl.v xv
        go_enter Tryd.func12, Tryd.ntmps12
        go_wp2_with fail
        refine (withinC _ _ _).mono ?_
        rintro e w1 ⟨rfl, rfl⟩
        rw [decide_eq_true c0]
        go_wp2_with fail
        refine (withinC _ _ _).mono ?_
        rintro e w1 ⟨rfl, rfl⟩
        rw [decide_eq_false c1]
        go_wp2
        go_ret
        exact ⟨rfl, hal⟩
    · simp only [decide_eq_false c0, Bool.true_and, Bool.false_and] at hB'
      subst hB'
      unfold Cl.v xv
      go_enter Tryd.func12, Tryd.ntmps12
      go_wp2_with fail
      refine (withinC _ _ _).mono ?_
      rintro e w1 ⟨rfl, rfl⟩
      rw [decide_eq_false c0]
      go_wp2
      go_ret
      exact ⟨rfl, hal⟩
  by_cases e5 : k = 5
  · subst e5
    have hB' : ((decide (0 ≤ a ∧ a < 4)) && (b == 0) && (K == 0)) = B := by rw [← hB]; simp [rgt, regB]
    clear hB
    by_cases c0 : 0 ≤ a ∧ a < 4
    · rw [decide_eq_true c0, Bool.true_and] at hB'
      by_cases c1 : b = 0
      · have q : (b == 0) = true := by simp [c1]
        rw [q, Bool.true_and] at hB'
        clear c1
        subst hB'
        unfold Cl.v xv
        go_enter Tryd.func12, Tryd.ntmps12
        go_wp2_with fail
        refine (withinC _ _ _).mono ?_
        rintro e w1 ⟨rfl, rfl⟩
        rw [decide_eq_true c0]
        go_wp2
        go_ret
        exact ⟨rfl, hal⟩
      · have q : (b == 0) = false := by simp [c1]
        rw [q, Bool.false_and] at hB'
        clear c1
        subst hB'
        unfold Cl.v xv
        go_enter Tryd.func12, Tryd.ntmps12
        go_wp2_with fail
        refine (withinC _ _ _).mono ?_
        rintro e w1 ⟨rfl, rfl⟩
        rw [decide_eq_true c0]
        go_wp2
        go_ret
        exact ⟨rfl, hal⟩
    · simp only [decide_eq_false c0, Bool.true_and, Bool.false_and] at hB'
      subst hB'
      unfold Cl.v xv
      go_enter Tryd.func12, Tryd.ntmps12
      go_wp2_with fail
      refine (withinC _ _ _).mono ?_
      rintro e w1 ⟨rfl, rfl⟩
      rw [decide_eq_false c0]
      go_wp2
      go_ret
      exact ⟨rfl, hal⟩
  by_cases e6 : k = 6
  · subst e6
    have hB' : ((a == 0) && (b == 0) && (K == 0)) = B := by rw [← hB]; simp [rgt]
    clear hB hx hx'
    unfold Cl.v xv
    go_enter Tryd.func12, Tryd.ntmps12
    go_wp2
    all_goals go_ret
    all_goals refine ⟨?_, ((Below.refl _ _).alloc (Nat.le_refl _) _).alloc (by simp) _⟩
    all_goals subst hB'
    all_goals simp_all
  by_cases e7 : k = 7
  · subst e7
    have hB' : callB C ⟨7, a, b, K⟩ = B := by rw [← hB]; simp [rgt]
    clear hB
    have hc := clCall C ⟨7, a, b, K⟩ hx _ (hM.below hal) (hN.below hal)
    rw [hB'] at hc
    unfold Cl.v xv at *
    go_enter Tryd.func12, Tryd.ntmps12
    go_wp2_with fail
    refine hc.mono ?_
    rintro e w1 ⟨rfl, hb1⟩
    go_wp2
    go_ret
    exact ⟨rfl, hal.trans (hb1.mono hal.size)⟩
  obtain rfl : B = false := by rw [← hB]; simp [rgt, e1, e2, e3, e4, e5, e6, e7]
  have q1 : (k == 1) = false := by simp [e1]
  have q2 : (k == 2) = false := by simp [e2]
  have q3 : (k == 3) = false := by simp [e3]
  have q4 : (k == 4) = false := by simp [e4]
  have q5 : (k == 5) = false := by simp [e5]
  have q6 : (k == 6) = false := by simp [e6]
  have q7 : (k == 7) = false := by simp [e7]
  clear e1 e2 e3 e4 e5 e6 e7 hB
  unfold Cl.v xv
  go_enter Tryd.func12, Tryd.ntmps12
  go_wp2
  go_ret
  exact ⟨rfl, hal⟩
end Go.Proofs.YtlcoealfnlakhaaDoor
