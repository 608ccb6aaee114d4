/- A thread that goes through its ops: a variable touched; a standstill. -/
import Derived.Test.YtlcoealfnlakhaaDoorKeep
namespace Go.Proofs.YtlcoealfnlakhaaDoor
open Go.RowKit
set_option linter.unusedVariables false
set_option linter.unusedSimpArgs false
def touchB (C : Cl) (t : Int) (h : Nat → Int) (x : X) : Bool :=
  if C.own x.b.toNat < 0 then (-1 - C.own x.b.toNat == t) else lockB (C.f (C.own x.b.toNat).toNat).k && (h (C.own x.b.toNat).toNat == 2 || (h (C.own x.b.toNat).toNat == 1 && x.k == 3))
def aboveB (a n : Nat) (h : Nat → Int) : Bool := zeroB (n - a) fun o => h (a + o)
def risesB (C : Cl) (h : Nat → Int) (x : X) : Bool :=
  if x.k = 7 then (if waitB x.b = true then lockB (C.f x.a.toNat).k && aboveB x.a.toNat C.no h else true) else true
set_option maxRecDepth 100000 in
set_option maxHeartbeats 4000000 in
theorem touchC (C : Cl) (t : Int) (m : Nat) (h : Nat → Int) (x : X) (hb : 0 ≤ x.b ∧ x.b < C.nw) (hO : ∀ j, j < C.nw → -8 ≤ C.own j ∧ C.own j < C.no) (w : World) (hM : MemC w C) (hR : Row w m C.no h) :
    Calls Tryd.prog 38 #[kv C t m, xv x] w fun e w' => e = .returned (.bool (touchB C t h x)) ∧ Below w.heap.size w w' := by
  obtain ⟨k, a, b, K⟩ := x
  obtain ⟨i, rfl⟩ : ∃ i : Nat, b = i := ⟨b.toNat, by simp only at hb; omega⟩
  have hi : i < C.nw := by simp only at hb; omega
  obtain ⟨hO1, hO2⟩ := hO i hi
  obtain ⟨bW, oW, eW⟩ := ints_ptr hM.own (by omega)
  have hW := hM.own
  rw [eW] at hW
  have hi0 : (0 : Int) ≤ i := by omega
  have hi1 : (i : Int) < C.nw := by omega
  have htb : touchB C t h ⟨k, a, i, K⟩ = if C.own i < 0 then (-1 - C.own i == t) else lockB (C.f (C.own i).toNat).k && (h (C.own i).toNat == 2 || (h (C.own i).toNat == 1 && k == 3)) := by simp [touchB]
  rw [htb]
  clear htb hb hO
  by_cases hneg : C.own i < 0
  · rw [if_pos hneg]
    have hc0 := fun w' (hh : Below w.heap.size w w') => at_int (hW.below hh) hi
    generalize C.own i = v at *
    unfold kv xv
    rw [eW]
    go_enter Tryd.func38, Tryd.ntmps38
    go_upto_region 1 with (fail)
    obtain ⟨W, b1, b2, e0, e1, e2, X1, X2, hal⟩ := box2 w #[.slice C.A C.no C.ca, .int .i64 C.vars, .slice (some ⟨bW, oW, none⟩) C.nw C.cw, .int .i64 C.room, .slice C.T C.nt C.ct, .int .i64 t, .slice (some ⟨m, 0, none⟩) C.no C.no] #[.int .i64 k, .int .i64 a, .int .i64 i, .int .u32 K] 49 37
    rw [e0, e2, e1]
    clear e0 e2 e1
    have y2 := cell_of_row W b1 2 _ 49 _ X1
    have y5 := cell_of_row W b1 5 _ 49 _ X1
    have z2 := cell_of_row W b2 2 _ 37 _ X2
    have c := hc0 _ hal
    have hwr : IntKind.i64.wrap (-1 - v) = -1 - v := by simp only [IntKind.wrap_i64]; omega
    clear hc0
    go_wp2
    go_ret
    exact ⟨rfl, hal⟩
  rw [if_neg hneg]
  obtain ⟨n, hn⟩ : ∃ n : Nat, C.own i = n := ⟨(C.own i).toNat, by omega⟩
  have hno : n < C.no := by omega
  obtain ⟨bA, oA, eA⟩ := objs_ptr hM.objs (by omega)
  have hA := hM.objs
  rw [eA] at hA
  have c0 := at_int hW hi
  rw [hn] at c0
  rw [hn, Int.toNat_natCast]
  have hn0 : (0 : Int) ≤ n := by omega
  have hn1 : (n : Int) < C.no := by omega
  have hn2 : ¬ ((n : Int) < 0) := by omega
  clear hn hneg hO1 hO2
  unfold kv xv
  rw [eA, eW]
  clear eA eW
  obtain ⟨B, hB⟩ : ∃ B, Hid ((lockB (C.f n).k && (h n == 2 || (h n == 1 && k == 3))) = B) := ⟨_, rfl⟩
  rw [hB.out]
  have hB := hB.out
  go_enter Tryd.func38, Tryd.ntmps38
  go_upto_region 1 with (fail)
  obtain ⟨W, b1, b2, e0, e1, e2, X1, X2, hal⟩ := box2 w #[.slice (some ⟨bA, oA, none⟩) C.no C.ca, .int .i64 C.vars, .slice (some ⟨bW, oW, none⟩) C.nw C.cw, .int .i64 C.room, .slice C.T C.nt C.ct, .int .i64 t, .slice (some ⟨m, 0, none⟩) C.no C.no] #[.int .i64 k, .int .i64 a, .int .i64 i, .int .u32 K] 49 37
  rw [e0, e2, e1]
  clear e0 e2 e1
  have y0 := cell_of_row W b1 0 _ 49 _ X1
  have y2 := cell_of_row W b1 2 _ 49 _ X1
  have y6 := cell_of_row W b1 6 _ 49 _ X1
  have z0 := cell_of_row W b2 0 _ 37 _ X2
  have z2 := cell_of_row W b2 2 _ 37 _ X2
  have c : W.cell? ⟨bW, oW + i, none⟩ = some (.int .i64 n) := by
    rw [at_int (hW.below hal) hi, ← at_int hW hi]; exact c0
  have ck := (obj_at (hA.below hal) hno).1
  have cm := Row.cell (show Row W m C.no h from keep hR hal) hno
  clear c0
  cases hL : lockB (C.f n).k
  · rw [hL, Bool.false_and] at hB
    subst hB
    go_wp2_with fail
    refine (guardsC _ _).mono ?_
    rintro e w1 ⟨rfl, rfl⟩
    rw [hL]
    go_wp2
    go_ret
    exact ⟨rfl, hal⟩
  rw [hL, Bool.true_and] at hB
  by_cases h2 : h n = 2
  · have q2 : (h n == 2) = true := by simp [h2]
    rw [q2, Bool.true_or] at hB
    subst hB
    clear h2
    go_wp2_with fail
    refine (guardsC _ _).mono ?_
    rintro e w1 ⟨rfl, rfl⟩
    rw [hL]
    go_wp2
    go_ret
    exact ⟨rfl, hal⟩
  have q2 : (h n == 2) = false := by simp [h2]
  rw [q2, Bool.false_or] at hB
  clear h2
  by_cases h1 : h n = 1
  · have q1 : (h n == 1) = true := by simp [h1]
    rw [q1, Bool.true_and] at hB
    subst hB
    clear h1
    go_wp2_with fail
    refine (guardsC _ _).mono ?_
    rintro e w1 ⟨rfl, rfl⟩
    rw [hL]
    go_wp2
    go_ret
    exact ⟨rfl, hal⟩
  · have q1 : (h n == 1) = false := by simp [h1]
    rw [q1, Bool.false_and] at hB
    subst hB
    clear h1
    go_wp2_with fail
    refine (guardsC _ _).mono ?_
    rintro e w1 ⟨rfl, rfl⟩
    rw [hL]
    go_wp2
    go_ret
    exact ⟨rfl, hal⟩
set_option maxRecDepth 100000 in
set_option maxHeartbeats 4000000 in
theorem risesC (C : Cl) (t : Int) (m : Nat) (h : Nat → Int) (x : X) (hx : x.k = 7 → 0 ≤ x.a ∧ x.a < C.no) (hno : C.no ≤ 8) (w : World) (hM : MemC w C) (hR : Row w m C.no h) :
    Calls Tryd.prog 28 #[kv C t m, xv x] w fun e w' => e = .returned (.bool (risesB C h x)) ∧ Below w.heap.size w w' := by
  obtain ⟨k, a, b, K⟩ := x
  by_cases e7 : k = 7
  case neg =>
    rw [show risesB C h ⟨k, a, b, K⟩ = true from if_neg e7]
    have q : (k != 7) = true := by simp [e7]
    clear e7 hx
    have hal := ((Below.refl w.heap.size w).alloc (Nat.le_refl _) (.cells #[.slice C.A C.no C.ca, .int .i64 C.vars, .slice C.W C.nw C.cw, .int .i64 C.room, .slice C.T C.nt C.ct, .int .i64 t, .slice (some ⟨m, 0, none⟩) C.no C.no] 49)).alloc (by simp) (.cells #[.int .i64 k, .int .i64 a, .int .i64 b, .int .u32 K] 37)
    unfold kv xv
    go_enter Tryd.func28, Tryd.ntmps28
    go_wp2
    go_ret
    exact ⟨rfl, hal⟩
  subst e7
  have ha := hx rfl
  simp only at ha
  obtain ⟨i, rfl⟩ : ∃ i : Nat, a = i := ⟨a.toNat, by omega⟩
  have hi : i < C.no := by omega
  have hl0 : (0 : Int) ≤ i := by omega
  have hl1 : (i : Int) < C.no := by omega
  obtain ⟨bA, oA, eA⟩ := objs_ptr hM.objs (by omega)
  have hA := hM.objs
  rw [eA] at hA
  rw [show risesB C h ⟨7, i, b, K⟩ = (if waitB b = true then lockB (C.f i).k && aboveB i C.no h else true) from by simp [risesB]]
  have zt := zero_t (n := C.no - i) (h := fun o => h (i + o))
  have zf := fun {o} => zero_f (n := C.no - i) (h := fun o => h (i + o)) (o := o)
  unfold aboveB
  generalize zeroB (C.no - i) (fun o => h (i + o)) = z at *
  obtain ⟨B, hB⟩ : ∃ B, Hid ((if waitB b = true then lockB (C.f i).k && z else true) = B) := ⟨_, rfl⟩
  rw [hB.out]
  unfold kv xv
  rw [eA]
  go_enter Tryd.func28, Tryd.ntmps28
  go_upto_region 3 with (fail)
  obtain ⟨W, b1, b2, e0, e1, e2, X1, X2, hal⟩ := box2 w #[.slice (some ⟨bA, oA, none⟩) C.no C.ca, .int .i64 C.vars, .slice C.W C.nw C.cw, .int .i64 C.room, .slice C.T C.nt C.ct, .int .i64 t, .slice (some ⟨m, 0, none⟩) C.no C.no] #[.int .i64 7, .int .i64 i, .int .i64 b, .int .u32 K] 49 37
  rw [e0, e2, e1]
  clear e0 e2 e1
  have y0 := cell_of_row W b1 0 _ 49 _ X1
  have z1 := cell_of_row W b2 1 _ 37 _ X2
  refine wp_region_lit ?_
  iterate 5
    refine wl_val rfl ?_ ?_ ?_
    rotate_left
    · go_simp; try with_reducible rfl
    intro K hK
    go_simp
    refine hK _ _ ?_
    clear hK K
  refine wl_val rfl (.pointer (some ⟨bA, oA + i * 4, none⟩)) ?_ ?_
  · go_simp
  intro K hK
  go_simp
  refine hK _ _ ?_
  clear hK K
  refine wl_val rfl (ov (C.f i)) (run_ldobj (.tmp 16) rfl bA oA i hA hal hi rfl) ?_
  intro K hK
  go_simp
  refine hK _ _ ?_
  clear hK K
  refine wl_alloc rfl 43 rfl (.agg #[.int .i64 0, .int .i64 0, .int .i64 0, .int .i64 0]) #[.int .i64 0, .int .i64 0, .int .i64 0, .int .i64 0] (fun w => by kernel_rfl) rfl (fun w4 b9 X4 l4 f4 => ?_)
  intro K hK
  go_simp
  refine hK _ _ ?_
  clear hK K
  refine wl_store rfl 43 (.tmp 5) (.tmp 17) rfl b9 #[.int .i64 (C.f i).k, .int .i64 (C.f i).n, .int .i64 (C.f i).a, .int .i64 (C.f i).b] rfl rfl 43 _ X4 (by kernel_rfl) rfl (by simp [Value.oneCell']) (fun w5 g1 g2 g3 g4 => ?_)
  intro K hK
  go_simp
  refine hK _ _ ?_
  clear hK K
  have hb5 : Below W.heap.size W w5 := l4.trans (g3 _ (by simp only [Hid] at f4; omega))
  have X1' := keep X1 hb5
  have X2' := keep X2 hb5
  have hal5 := hal.trans (hb5.mono hal.size)
  clear X4 l4 f4 g2 g3 g4 y0 z1 X1 X2 hb5
  have z2 := cell_of_row w5 b2 2 _ 37 _ X2'
  go_upto_region 4 with (fail)
  refine wp_region_lit ?_
  refine wl_load rfl 43 (.tmp 5) rfl _ rfl _ _ _ _ g1 Tryd.underlying43 rfl (by kernel_rfl) ?_
  intro K hK
  go_simp
  refine hK _ _ ?_
  clear hK K
  iterate 2
    refine wl_val rfl ?_ ?_ ?_
    rotate_left
    · go_simp; try with_reducible rfl
    intro K hK
    go_simp
    refine hK _ _ ?_
    clear hK K
  refine wl_call rfl 35 #[ov (C.f i), .int .i64 b] (.bool (waitB b)) _ ?_ (waitsC (C.f i) b w5) (fun w6 hb6 => ?_)
  · first | (go_simp; done) | (go_simp; rfl)
  intro K hK
  go_simp
  refine hK _ _ ?_
  clear hK K
  have X1 := keep X1' hb6
  have X2 := keep X2' hb6
  have G := keep g1 hb6
  have hal6 := hal5.trans (hb6.mono hal5.size)
  clear X1' X2' g1 hb6 hal5 z2
  have hB' := hB.out
  clear hB
  cases hw : waitB b
  · rw [hw, if_neg Bool.false_ne_true] at hB'
    subst hB'
    clear zt zf
    go_wp2
    go_ret
    exact ⟨rfl, hal6⟩
  rw [hw, if_pos rfl] at hB'
  have u0 := cell_of_row w6 b9 0 _ 43 _ G
  go_wp2_with fail
  refine (guardsC _ _).mono ?_
  rintro e w1 ⟨rfl, rfl⟩
  clear u0
  cases hL : lockB (C.f i).k
  · rw [hL, Bool.false_and] at hB'
    subst hB'
    clear zt zf
    go_wp2
    go_ret
    exact ⟨rfl, hal6⟩
  rw [hL, Bool.true_and] at hB'
  subst hB'
  have y6 := cell_of_row w1 b1 6 _ 49 _ X1
  have z1 := cell_of_row w1 b2 1 _ 37 _ X2
  have hR1 : Row w1 m C.no h := keep hR hal6
  have hli : (i : Int) ≤ C.no := by omega
  go_upto_region 9 with (fail)
  generalize hr : C.no - i = r at *
  clear y6 z1 hli
  go_loopw [33] (fun v wr => ∃ k : Nat, v = .int .i64 k ∧ k ≤ r ∧ (∀ j, j < k → h (i + j) = 0) ∧ wr = w1) (fun v _ => r - (intOf v).toNat)
  case atStart => exact ⟨0, rfl, Nat.zero_le _, fun p hp => absurd hp (by omega), rfl⟩
  case round =>
    obtain ⟨k, rfl, hk, hpre, rfl⟩ := hrel
    by_cases hlt : k < r
    · have hk0 : (0 : Int) ≤ k := by omega
      have hk1 : (k : Int) < r := by omega
      have c := hR1.cell (show i + k < C.no by omega)
      by_cases hz : h (i + k) = 0
      · have hpre' : ∀ p, p < k + 1 → h (i + p) = 0 := fun p hp => by
          rcases Nat.lt_succ_iff_lt_or_eq.1 hp with h | rfl
          · exact hpre p h
          · exact hz
        have q' : (h (i + k) != 0) = false := by simp [hz]
        clear zt zf hz hpre
        go_wp2
        go_roundw
        case rel => exact ⟨k + 1, by go_num, by omega, hpre', by first | rfl | trivial⟩
        case measure => simp [intOf]; omega
      · obtain rfl : z = false := zf hlt hz
        have q' : (h (i + k) != 0) = true := by simp [hz]
        clear zt zf hz hpre
        go_wp2
        go_ret
        exact ⟨rfl, hal6⟩
    · have hkn : k = r := by omega
      have hk1 : ¬ ((k : Int) < r) := by omega
      rw [hkn] at hpre
      obtain rfl : z = true := zt hpre
      clear zt zf hpre hkn
      go_wp2
      go_ret
      exact ⟨rfl, hal6⟩
end Go.Proofs.YtlcoealfnlakhaaDoor
