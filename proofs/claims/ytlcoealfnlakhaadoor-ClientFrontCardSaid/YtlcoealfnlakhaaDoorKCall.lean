/- A thread that goes through its ops: a call. -/
import Derived.Test.YtlcoealfnlakhaaDoorTouch
import Derived.Test.YtlcoealfnlakhaaDoorGrow
namespace Go.Proofs.YtlcoealfnlakhaaDoor
open Go.RowKit
set_option linter.unusedVariables false
set_option linter.unusedSimpArgs false
section
variable {P : Program} {ops : Array Oper} {Q : Exit → Act → World → Prop}
theorem op_value {i : Nat} {K : Act → World → Prop} {o : Oper} {a : Act} {w : World} (hi : ops[i]? = some o) (hgd : o.guard = none) (v : Value) (h : (execOp a.eval o).run P w = .ok (.value v) w) (hK : K (a.put o.dst v) w) : wpOp P ops Q i K a w := by
  unfold wpOp
  simp only [hi]
  have hw : Region.wanted o (yielded ops a.tmps) = true := by simp [Region.wanted, hgd]
  rw [if_pos hw]
  refine .inl ?_
  unfold Oper.wp
  rw [h]
  exact hK
end
theorem upd_same (h : Nat → Int) (i : Nat) : upd h i (h i) = h := by
  funext o; unfold upd; split
  · rename_i e; rw [e]
  · rfl
/-- does a call keep the rules: the program's answer; what one has behind it -/
def kcB (o : O) (t : Int) (x : X) (h : Int) : Bool :=
  if partB o t = true then
    (if o.k = 11 ∨ o.k = 12 then true else if o.k = 13 then x.K == o.n else if x.b = 1 then h == 0 else if x.b = 2 then h != 0 else if x.b = 4 then h == 2 else if x.b = 3 then h == 0 else if x.b = 9 then h == 0 else h == 3)
  else false
def hsB (o : O) (x : X) (h : Int) : Int :=
  if o.k = 11 ∨ o.k = 12 ∨ o.k = 13 then h else if x.b = 1 then 2 else if x.b = 2 then 0 else if x.b = 4 then h else if x.b = 3 then (if o.k = 14 then 1 else h) else if x.b = 9 then 3 else 0
set_option maxRecDepth 100000 in
set_option maxHeartbeats 8000000 in
theorem callC (C : Cl) (t : Int) (m : Nat) (h : Nat → Int) (x : X) (hx : 0 ≤ x.K ∧ x.K < 4294967296) (i : Nat) (hxi : x.a = i) (hi : i < C.no) (h13 : (C.f i).k = 13 → 0 ≤ (C.f i).n ∧ (C.f i).n ≤ 8) (w : World) (hM : MemC w C) (hR : Row w m C.no h) :
    Calls Tryd.prog 37 #[kv C t m, xv x] w fun e w' => e = .returned (.bool (kcB (C.f i) t x (h i))) ∧ (kcB (C.f i) t x (h i) = true → Row w' m C.no (upd h i (hsB (C.f i) x (h i)))) ∧ Exc m w w' := by
  obtain ⟨k, a, b, K⟩ := x
  simp only at hxi hx
  subst hxi
  have hl0 : (0 : Int) ≤ i := by omega
  have hl1 : (i : Int) < C.no := by omega
  obtain ⟨bA, oA, eA⟩ := objs_ptr hM.objs (by omega)
  have hA := hM.objs
  rw [eA] at hA
  have hkc : kcB (C.f i) t ⟨k, i, b, K⟩ (h i) = (if partB (C.f i) t = true then
    (if (C.f i).k = 11 ∨ (C.f i).k = 12 then true else if (C.f i).k = 13 then K == (C.f i).n else if b = 1 then h i == 0 else if b = 2 then h i != 0 else if b = 4 then h i == 2 else if b = 3 then h i == 0 else if b = 9 then h i == 0 else h i == 3)
  else false) := rfl
  have hhs : hsB (C.f i) ⟨k, i, b, K⟩ (h i) = (if (C.f i).k = 11 ∨ (C.f i).k = 12 ∨ (C.f i).k = 13 then h i else if b = 1 then 2 else if b = 2 then 0 else if b = 4 then h i else if b = 3 then (if (C.f i).k = 14 then 1 else h i) else if b = 9 then 3 else 0) := rfl
  generalize kcB (C.f i) t ⟨k, i, b, K⟩ (h i) = B at *
  generalize hsB (C.f i) ⟨k, i, b, K⟩ (h i) = v at *
  unfold kv xv
  rw [eA]
  go_enter Tryd.func37, Tryd.ntmps37
  go_upto_region 1 with (fail)
  obtain ⟨W, b1, b2, e0, e1, e2, X1, X2, hal⟩ := box2 w #[.slice (some ⟨bA, oA, none⟩) C.no C.ca, .int .i64 C.vars, .slice C.W C.nw C.cw, .int .i64 C.room, .slice C.T C.nt C.ct, .int .i64 t, .slice (some ⟨m, 0, none⟩) C.no C.no] #[.int .i64 k, .int .i64 i, .int .i64 b, .int .u32 K] 49 37
  rw [e0, e2, e1]
  clear e0 e2 e1
  have hAW := hA.below hal
  refine grow_head 12 (fun w' => Below W.heap.size W w') (by kernel_rfl) (by kernel_rfl) (by decide) (by kernel_rfl) ?_
  simp only [List.take_succ_cons, List.take_zero]
  refine g_run rfl ?_ (fun w' h' => ga_value ?_) (fun K hK => ?_)
  rotate_left
  · go_simp; try with_reducible rfl
  go_simp
  refine hK _ ?_
  clear hK K
  refine g_run rfl ?_ (fun w' h' => ga_value ?_) (fun K hK => ?_)
  rotate_left
  · go_simp; try with_reducible rfl
  go_simp
  refine hK _ ?_
  clear hK K
  refine g_run rfl ?_ (fun w' h' => ga_value ?_) (fun K hK => ?_)
  rotate_left
  · have c := cell_of_row w' b1 0 _ 49 _ (keep X1 h'); go_simp; try with_reducible rfl
  go_simp
  refine hK _ ?_
  clear hK K
  refine g_run rfl ?_ (fun w' h' => ga_value ?_) (fun K hK => ?_)
  rotate_left
  · go_simp; try with_reducible rfl
  go_simp
  refine hK _ ?_
  clear hK K
  refine g_run rfl ?_ (fun w' h' => ga_value ?_) (fun K hK => ?_)
  rotate_left
  · have c := cell_of_row w' b2 1 _ 37 _ (keep X2 h'); go_simp; try with_reducible rfl
  go_simp
  refine hK _ ?_
  clear hK K
  refine g_run rfl (.pointer (some ⟨bA, oA + i * 4, none⟩)) (fun w' h' => ga_value ?_) (fun K hK => ?_)
  · go_simp; try with_reducible rfl
  go_simp
  refine hK _ ?_
  clear hK K
  refine g_run rfl (ov (C.f i)) (fun w' h' => ga_value (run_ldobj (.tmp 13) rfl bA oA i hAW h' hi rfl)) (fun K hK => ?_)
  go_simp
  refine hK _ ?_
  clear hK K
  refine g_run rfl ?_ (fun w' h' => ga_value ?_) (fun K hK => ?_)
  rotate_left
  · go_simp; try with_reducible rfl
  go_simp
  refine hK _ ?_
  clear hK K
  refine g_run rfl ?_ (fun w' h' => ga_value ?_) (fun K hK => ?_)
  rotate_left
  · have c := cell_of_row w' b1 6 _ 49 _ (keep X1 h'); go_simp; try with_reducible rfl
  go_simp
  refine hK _ ?_
  clear hK K
  refine g_run rfl ?_ (fun w' h' => ga_value ?_) (fun K hK => ?_)
  rotate_left
  · go_simp; try with_reducible rfl
  go_simp
  refine hK _ ?_
  clear hK K
  refine g_run rfl ?_ (fun w' h' => ga_value ?_) (fun K hK => ?_)
  rotate_left
  · have c := cell_of_row w' b2 1 _ 37 _ (keep X2 h'); go_simp; try with_reducible rfl
  go_simp
  refine hK _ ?_
  clear hK K
  refine g_run rfl (.pointer (some ⟨m, i, none⟩)) (fun w' h' => ga_value ?_) (fun K hK => ?_)
  · go_simp; try with_reducible rfl
  go_simp
  refine hK _ ?_
  clear hK K
  refine g_nil ?_
  show anyG _ _ _ _ _ _ _ _ _
  have q0 : Below W.heap.size W W.drew := Below.drew (Below.refl _ _)
  refine anyG_ready [12] (by kernel_rfl) (by simp) (fun v1 g1 => ⟨q0.trans (g1.mono q0.size), ?_⟩)
  have q1 := q0.trans (g1.mono q0.size)
  intro j hj
  simp only [List.mem_cons, List.not_mem_nil, or_false] at hj
  subst hj
  refine op_alloc rfl rfl 43 rfl (.agg #[.int .i64 0, .int .i64 0, .int .i64 0, .int .i64 0]) #[.int .i64 0, .int .i64 0, .int .i64 0, .int .i64 0] (fun w => by kernel_rfl) rfl (fun u1 b9 R9 l1 f1 => ?_)
  have zb : W.heap.size ≤ b9 := by have := q1.size; have := f1.out; omega
  have q2 := q1.trans (l1.mono q1.size)
  refine anyG_ready [13] (by kernel_rfl) (by simp) (fun v2 g2 => ⟨q2.trans (g2.mono q2.size), ?_⟩)
  have q3 := q2.trans (g2.mono q2.size)
  replace R9 := keep R9 g2
  intro j hj
  simp only [List.mem_cons, List.not_mem_nil, or_false] at hj
  subst hj
  refine op_store rfl rfl 43 (.tmp 5) (.tmp 14) rfl b9 #[.int .i64 (C.f i).k, .int .i64 (C.f i).n, .int .i64 (C.f i).a, .int .i64 (C.f i).b] rfl rfl 43 _ R9 (by kernel_rfl) rfl (by simp [Value.oneCell']) (fun u2 p1 m1 p2 => ?_)
  have q4 := q3.trans (p2 _ zb)
  refine anyG_ready [14] (by kernel_rfl) (by simp) (fun v3 g3 => ⟨q4.trans (g3.mono q4.size), ?_⟩)
  have q5 := q4.trans (g3.mono q4.size)
  replace p1 := keep p1 g3
  intro j hj
  simp only [List.mem_cons, List.not_mem_nil, or_false] at hj
  subst hj
  refine op_value rfl rfl (.pointer (some ⟨m, i, none⟩)) ?_ ?_
  · go_simp; try with_reducible rfl
  refine anyG_end (by kernel_rfl) (fun w3 g4 => ⟨q5.trans (g4.mono q5.size), ?_⟩)
  have q6 := q5.trans (g4.mono q5.size)
  have G := keep p1 g4
  clear q0 q1 q2 q3 q4 q5 l1 f1 R9 g1 g2 g3 g4 p1 p2 m1
  replace X1 := keep X1 q6
  replace X2 := keep X2 q6
  have hal3 := hal.trans (q6.mono hal.size)
  go_upto_region 2 with (fail)
  refine wp_region_lit ?_
  refine wl_load rfl 49 (.tmp 2) rfl _ rfl _ _ _ _ X1 Tryd.underlying49 rfl (by kernel_rfl) ?_
  intro K hK
  go_simp
  refine hK _ _ ?_
  clear hK K
  refine wl_load rfl 43 (.tmp 5) rfl _ rfl _ _ _ _ G Tryd.underlying43 rfl (by kernel_rfl) ?_
  intro K hK
  go_simp
  refine hK _ _ ?_
  clear hK K
  refine wl_call rfl 40 #[kv C t m, ov (C.f i)] (.bool (partB (C.f i) t)) _ ?_ (partC C t m (C.f i) w3) (fun w6 hb6 => ?_)
  · unfold kv ov; rw [eA]; first | (go_simp; done) | (go_simp; rfl)
  intro K hK
  go_simp
  refine hK _ _ ?_
  clear hK K
  replace X2 := keep X2 hb6
  replace G := keep G hb6
  have hal6 := hal3.trans (hb6.mono hal3.size)
  have R6 : Row w6 m C.no h := keep hR hal6
  clear hb6 X1 hal3 hAW q6 zb hM hA hal eA
  have hk' : Hid (_ = _) := hkc
  have hv' : Hid (_ = _) := hhs
  clear hkc hhs
  cases hp : partB (C.f i) t
  · obtain rfl : B = false := by rw [hk'.out, hp, if_neg Bool.false_ne_true]
    go_wp2
    go_ret
    exact ⟨rfl, fun e => (by cases e), Exc.of_below hal6⟩
  have cm := R6.cell hi
  have g0 := cell_of_row w6 b9 0 _ 43 _ G
  have g1 := cell_of_row w6 b9 1 _ 43 _ G
  have z2 := cell_of_row w6 b2 2 _ 37 _ X2
  have z3 := cell_of_row w6 b2 3 _ 37 _ X2
  clear G X2
  by_cases e11 : (C.f i).k = 11
  · obtain rfl : B = true := by rw [hk'.out]; simp [hp, e11]
    obtain rfl : v = h i := by rw [hv'.out]; simp [e11]
    have q11 : ((C.f i).k == 11) = true := by simp [e11]
    
    clear e11 h13 hk' hv' 
    go_wp2
    go_ret
    first | exact ⟨rfl, fun _ => by rw [upd_same]; exact R6, Exc.of_below hal6⟩ | exact ⟨rfl, by rw [upd_same]; exact R6, Exc.of_below hal6⟩
  by_cases e12 : (C.f i).k = 12
  · obtain rfl : B = true := by rw [hk'.out]; simp [hp, e12]
    obtain rfl : v = h i := by rw [hv'.out]; simp [e12]
    have q12 : ((C.f i).k == 12) = true := by simp [e12]
    have q11 : ((C.f i).k == 11) = false := by simp [e12]
    clear e12 h13 hk' hv' e11
    go_wp2
    go_ret
    first | exact ⟨rfl, fun _ => by rw [upd_same]; exact R6, Exc.of_below hal6⟩ | exact ⟨rfl, by rw [upd_same]; exact R6, Exc.of_below hal6⟩
  by_cases e13 : (C.f i).k = 13
  · obtain rfl : B = (K == (C.f i).n) := by rw [hk'.out]; simp [hp, e13]
    obtain rfl : v = h i := by rw [hv'.out]; simp [e13]
    have q11 : ((C.f i).k == 11) = false := by simp [e11]
    have q12 : ((C.f i).k == 12) = false := by simp [e12]
    have q13 : ((C.f i).k == 13) = true := by simp [e13]
    have hn := h13 e13
    have hw1 : IntKind.u64.wrap (C.f i).n = (C.f i).n := by simp [IntKind.wrap, IntKind.bits, IntKind.signed]; omega
    have hw2 : IntKind.u64.wrap K = K := by simp [IntKind.wrap, IntKind.bits, IntKind.signed]; omega
    clear e11 e12 e13 h13 hk' hv'
    go_wp2
    go_ret
    first | exact ⟨rfl, fun _ => by rw [upd_same]; exact R6, Exc.of_below hal6⟩ | exact ⟨rfl, by rw [upd_same]; exact R6, Exc.of_below hal6⟩
  have q11 : ((C.f i).k == 11) = false := by simp [e11]
  have q12 : ((C.f i).k == 12) = false := by simp [e12]
  have q13 : ((C.f i).k == 13) = false := by simp [e13]
  clear h13
  by_cases f1 : b = 1
  · subst f1
    obtain rfl : B = (h i == 0) := by rw [hk'.out]; simp [hp, e11, e12, e13]
    obtain rfl : v = 2 := by rw [hv'.out]; simp [e11, e12, e13]
    clear e11 e12 e13 hk' hv'
    go_upto_region 10 with (fail)
    refine wp_region_lit ?_
    iterate 2
      refine wl_val rfl ?_ ?_ ?_
      rotate_left
      · go_simp; try with_reducible rfl
      intro K hK
      go_simp
      refine hK _ _ ?_
      clear hK K
    refine wl_row rfl (.tmp 52) (.const (.int .i64 2)) rfl m C.no i h 2 hi rfl rfl R6 (fun w7 R7 E7 => ?_)
    intro K hK
    go_simp
    refine hK _ _ ?_
    clear hK K
    go_wp2
    go_ret
    exact ⟨rfl, fun _ => R7, (Exc.of_below hal6).trans E7⟩
  by_cases f2 : b = 2
  · subst f2
    obtain rfl : B = (h i != 0) := by rw [hk'.out]; simp [hp, e11, e12, e13]
    obtain rfl : v = 0 := by rw [hv'.out]; simp [e11, e12, e13]
    clear e11 e12 e13 hk' hv'
    go_upto_region 13 with (fail)
    refine wp_region_lit ?_
    iterate 2
      refine wl_val rfl ?_ ?_ ?_
      rotate_left
      · go_simp; try with_reducible rfl
      intro K hK
      go_simp
      refine hK _ _ ?_
      clear hK K
    refine wl_row rfl (.tmp 60) (.const (.int .i64 0)) rfl m C.no i h 0 hi rfl rfl R6 (fun w7 R7 E7 => ?_)
    intro K hK
    go_simp
    refine hK _ _ ?_
    clear hK K
    go_wp2
    go_ret
    exact ⟨rfl, fun _ => R7, (Exc.of_below hal6).trans E7⟩
  by_cases f4 : b = 4
  · subst f4
    obtain rfl : B = (h i == 2) := by rw [hk'.out]; simp [hp, e11, e12, e13]
    obtain rfl : v = h i := by rw [hv'.out]; simp [e11, e12, e13]
    clear e11 e12 e13 hk' hv'
    go_wp2
    go_ret
    first | exact ⟨rfl, fun _ => by rw [upd_same]; exact R6, Exc.of_below hal6⟩ | exact ⟨rfl, by rw [upd_same]; exact R6, Exc.of_below hal6⟩
  by_cases f3 : b = 3
  · subst f3
    obtain rfl : B = (h i == 0) := by rw [hk'.out]; simp [hp, e11, e12, e13]
    by_cases e14 : (C.f i).k = 14
    · obtain rfl : v = 1 := by rw [hv'.out]; simp [e14]
      have q14 : ((C.f i).k == 14) = true := by simp [e14]
      clear e11 e12 e13 e14 hk' hv'
      go_upto_region 18 with (fail)
      refine wp_region_lit ?_
      iterate 2
        refine wl_val rfl ?_ ?_ ?_
        rotate_left
        · go_simp; try with_reducible rfl
        intro K hK
        go_simp
        refine hK _ _ ?_
        clear hK K
      refine wl_row rfl (.tmp 79) (.const (.int .i64 1)) rfl m C.no i h 1 hi rfl rfl R6 (fun w7 R7 E7 => ?_)
      intro K hK
      go_simp
      refine hK _ _ ?_
      clear hK K
      go_wp2
      go_ret
      exact ⟨rfl, fun _ => R7, (Exc.of_below hal6).trans E7⟩
    · obtain rfl : v = h i := by rw [hv'.out]; simp [e11, e12, e13, e14]
      have q14 : ((C.f i).k == 14) = false := by simp [e14]
      clear e11 e12 e13 e14 hk' hv'
      go_wp2
      go_ret
      first | exact ⟨rfl, fun _ => by rw [upd_same]; exact R6, Exc.of_below hal6⟩ | exact ⟨rfl, by rw [upd_same]; exact R6, Exc.of_below hal6⟩
  by_cases f9 : b = 9
  · subst f9
    obtain rfl : B = (h i == 0) := by rw [hk'.out]; simp [hp, e11, e12, e13]
    obtain rfl : v = 3 := by rw [hv'.out]; simp [e11, e12, e13]
    clear e11 e12 e13 hk' hv'
    go_upto_region 23 with (fail)
    refine wp_region_lit ?_
    iterate 2
      refine wl_val rfl ?_ ?_ ?_
      rotate_left
      · go_simp; try with_reducible rfl
      intro K hK
      go_simp
      refine hK _ _ ?_
      clear hK K
    refine wl_row rfl (.tmp 93) (.const (.int .i64 3)) rfl m C.no i h 3 hi rfl rfl R6 (fun w7 R7 E7 => ?_)
    intro K hK
    go_simp
    refine hK _ _ ?_
    clear hK K
    go_wp2
    go_ret
    exact ⟨rfl, fun _ => R7, (Exc.of_below hal6).trans E7⟩
  obtain rfl : B = (h i == 3) := by rw [hk'.out]; simp [hp, e11, e12, e13, f1, f2, f3, f4, f9]
  obtain rfl : v = 0 := by rw [hv'.out]; simp [e11, e12, e13, f1, f2, f3, f4, f9]
  have q1 : (b == 1) = false := by simp [f1]
  have q2 : (b == 2) = false := by simp [f2]
  have q3 : (b == 3) = false := by simp [f3]
  have q4 : (b == 4) = false := by simp [f4]
  have q9 : (b == 9) = false := by simp [f9]
  clear e11 e12 e13 f1 f2 f3 f4 f9 hk' hv'
  go_upto_region 25 with (fail)
  refine wp_region_lit ?_
  iterate 2
    refine wl_val rfl ?_ ?_ ?_
    rotate_left
    · go_simp; try with_reducible rfl
    intro K hK
    go_simp
    refine hK _ _ ?_
    clear hK K
  refine wl_row rfl (.tmp 97) (.const (.int .i64 0)) rfl m C.no i h 0 hi rfl rfl R6 (fun w7 R7 E7 => ?_)
  intro K hK
  go_simp
  refine hK _ _ ?_
  clear hK K
  go_wp2
  go_ret
  exact ⟨rfl, fun _ => R7, (Exc.of_below hal6).trans E7⟩
def kpP (C : Cl) (t : Int) (h : Nat → Int) (x : X) : Bool := if x.k = 7 then kcB (C.f x.a.toNat) t x (h x.a.toNat) else if x.k = 3 ∨ x.k = 4 then touchB C t h x else true
def nxP (C : Cl) (h : Nat → Int) (x : X) : Nat → Int := if x.k = 7 then upd h x.a.toNat (hsB (C.f x.a.toNat) x (h x.a.toNat)) else h
/-- what a client that is right gives of an op -/
structure OkX (C : Cl) (x : X) : Prop where
  hK : 0 ≤ x.K ∧ x.K < 4294967296
  ha : x.k = 7 → 0 ≤ x.a ∧ x.a < C.no
  hb : x.k = 3 ∨ x.k = 4 → 0 ≤ x.b ∧ x.b < C.nw
structure OkC (C : Cl) : Prop where
  no : C.no ≤ 8
  nt : C.nt ≤ 8
  own : ∀ j, j < C.nw → -8 ≤ C.own j ∧ C.own j < C.no
  bar : ∀ i, i < C.no → (C.f i).k = 13 → 0 ≤ (C.f i).n ∧ (C.f i).n ≤ 8
set_option maxRecDepth 100000 in
set_option maxHeartbeats 4000000 in
theorem keepsC (C : Cl) (hC : OkC C) (t : Int) (m : Nat) (h : Nat → Int) (x : X) (hX : OkX C x) (w : World) (hM : MemC w C) (hR : Row w m C.no h) :
    Calls Tryd.prog 32 #[kv C t m, xv x] w fun e w' => e = .returned (.bool (kpP C t h x)) ∧ (kpP C t h x = true → Row w' m C.no (nxP C h x)) ∧ Exc m w w' := by
  obtain ⟨k, a, b, K⟩ := x
  have hal := ((Below.refl w.heap.size w).alloc (Nat.le_refl _) (.cells #[.slice C.A C.no C.ca, .int .i64 C.vars, .slice C.W C.nw C.cw, .int .i64 C.room, .slice C.T C.nt C.ct, .int .i64 t, .slice (some ⟨m, 0, none⟩) C.no C.no] 49)).alloc (by simp) (.cells #[.int .i64 k, .int .i64 a, .int .i64 b, .int .u32 K] 37)
  by_cases e7 : k = 7
  · subst e7
    have ha := hX.ha rfl
    simp only at ha
    obtain ⟨i, rfl⟩ : ∃ i : Nat, a = i := ⟨a.toNat, by omega⟩
    have hc := callC C t m h ⟨7, i, b, K⟩ hX.hK i rfl (by omega) (hC.bar i (by omega)) _ (hM.below hal) (keep hR hal)
    rw [show kpP C t h ⟨7, i, b, K⟩ = kcB (C.f i) t ⟨7, i, b, K⟩ (h i) from if_pos rfl, show nxP C h ⟨7, i, b, K⟩ = upd h i (hsB (C.f i) ⟨7, i, b, K⟩ (h i)) from if_pos rfl]
    generalize kcB (C.f i) t ⟨7, i, b, K⟩ (h i) = B at *
    generalize hsB (C.f i) ⟨7, i, b, K⟩ (h i) = v at *
    unfold kv xv at *
    go_enter Tryd.func32, Tryd.ntmps32
    go_wp2_with fail
    refine hc.mono ?_
    rintro e w1 ⟨rfl, hrow, hex⟩
    go_wp2
    go_ret
    exact ⟨rfl, hrow, (Exc.of_below hal).trans hex⟩
  rw [show nxP C h ⟨k, a, b, K⟩ = h from if_neg e7]
  have q7 : (k == 7) = false := by simp [e7]
  by_cases e3 : k = 3
  · subst e3
    have hc := touchC C t m h ⟨3, a, b, K⟩ (hX.hb (by simp)) hC.own _ (hM.below hal) (keep hR hal)
    rw [show kpP C t h ⟨3, a, b, K⟩ = touchB C t h ⟨3, a, b, K⟩ from by simp [kpP]]
    generalize touchB C t h ⟨3, a, b, K⟩ = B at *
    clear q7
    unfold kv xv at *
    go_enter Tryd.func32, Tryd.ntmps32
    go_wp2_with fail
    refine hc.mono ?_
    rintro e w1 ⟨rfl, hb1⟩
    have hal1 := hal.trans (hb1.mono hal.size)
    have hR1 : Row w1 m C.no h := keep hR hal1
    go_wp2
    go_ret
    exact ⟨rfl, fun _ => hR1, Exc.of_below hal1⟩
  by_cases e4 : k = 4
  · subst e4
    have hc := touchC C t m h ⟨4, a, b, K⟩ (hX.hb (by simp)) hC.own _ (hM.below hal) (keep hR hal)
    rw [show kpP C t h ⟨4, a, b, K⟩ = touchB C t h ⟨4, a, b, K⟩ from by simp [kpP]]
    generalize touchB C t h ⟨4, a, b, K⟩ = B at *
    clear q7
    unfold kv xv at *
    go_enter Tryd.func32, Tryd.ntmps32
    go_wp2_with fail
    refine hc.mono ?_
    rintro e w1 ⟨rfl, hb1⟩
    have hal1 := hal.trans (hb1.mono hal.size)
    have hR1 : Row w1 m C.no h := keep hR hal1
    go_wp2
    go_ret
    exact ⟨rfl, fun _ => hR1, Exc.of_below hal1⟩
  rw [show kpP C t h ⟨k, a, b, K⟩ = true from by simp [kpP, e7, e3, e4]]
  have q3 : (k == 3) = false := by simp [e3]
  have q4 : (k == 4) = false := by simp [e4]
  clear e7 e3 e4
  unfold kv xv
  go_enter Tryd.func32, Tryd.ntmps32
  go_wp2
  go_ret
  first | exact ⟨rfl, fun _ => keep hR hal, Exc.of_below hal⟩ | exact ⟨rfl, keep hR hal, Exc.of_below hal⟩
set_option maxRecDepth 100000 in
theorem askC (C : Cl) (t : Int) (m : Nat) (h : Nat → Int) (x : X) (w : World) : Calls Tryd.prog 24 #[kv C t m, xv x] w fun e w' => e = .returned (.bool true) ∧ Below w.heap.size w w' := by
  obtain ⟨k, a, b, K⟩ := x
  have hal := ((Below.refl w.heap.size w).alloc (Nat.le_refl _) (.cells #[.slice C.A C.no C.ca, .int .i64 C.vars, .slice C.W C.nw C.cw, .int .i64 C.room, .slice C.T C.nt C.ct, .int .i64 t, .slice (some ⟨m, 0, none⟩) C.no C.no] 49)).alloc (by simp) (.cells #[.int .i64 k, .int .i64 a, .int .i64 b, .int .u32 K] 37)
  unfold kv xv
  go_enter Tryd.func24, Tryd.ntmps24
  go_wp2
  go_ret
  exact ⟨rfl, hal⟩
end Go.Proofs.YtlcoealfnlakhaaDoor
