/- A machine is made: New. -/
import Derived.Test.YtobkonbpcnmgpaaDoorDo
import Derived.Maps.AppendAt
import Derived.Test.YtobkonbpcnmgpaaDoorGrowM
namespace Go.Proofs.YtobkonbpcnmgpaaDoor
open Go.RowKit
set_option linter.unusedVariables false
set_option linter.unusedSimpArgs false
section
variable {P : Program} {ops : Array Oper} {md : Region.Mode} {Q : Exit → Act → World → Prop} {C : World → Prop}
theorem anyG_more {g k : Nat} {listed : Array Bool} {a : Act} {w : World} (l : List Oper) (hs : Region.noSelect ops = true) (hl : ∀ j, j < l.length → l[j]? = ops[k + j]?) (hB : lexG md ops l.length k listed = true)
    (h : wpGrow P ops C (fun a' => anyG P md ops C (noP Q) g (listedG k l.length listed) a' w) l a) : anyG P md ops C (noP Q) (l.length + g) listed a w :=
  anyG_lex hs (fun _ _ _ _ _ h => h) l k listed a hl hB (fun a' h => h) h
theorem op_at {i : Nat} {K : Act → World → Prop} {o : Oper} {a : Act} {w w' : World} (hi : ops[i]? = some o) (hgd : o.guard = none) (v : Value) (h : (execOp a.eval o).run P w = .ok (.value v) w') (hK : K (a.put o.dst v) w') : wpOp P ops Q i K a w := by
  unfold wpOp
  simp only [hi]
  have hw : Region.wanted o (yielded ops a.tmps) = true := by simp [Region.wanted, hgd]
  rw [if_pos hw]
  refine .inl ?_
  unfold Oper.wp
  rw [h]
  exact hK
theorem op_stslice {i : Nat} {K : Act → World → Prop} {o : Oper} {a : Act} {w : World} (hi : ops[i]? = some o) (hgd : o.guard = none) (ty : TypeId) (hsz : ∀ w, (sizeOf ty).run P w = .ok 1 w) (x y : Operand) (ho : o.op = .store ty x y) (b j : Nat) (p : Option Addr) (n c : Nat) (cs : Array Value) (t : TypeId) (hx : a.eval x = .pointer (some ⟨b, j, none⟩)) (hy : a.eval y = .slice p n c)
    (hg : w.heap[b]? = some (.cells cs t (0, 0))) (hj : j < cs.size)
    (hh : ∀ w', w'.heap[b]? = some (.cells (cs.setIfInBounds j (.slice p n c)) t (0, 0)) → (∀ k, k ≠ b → w'.heap[k]? = w.heap[k]?) → (∀ B, B ≤ b → Below B w w') → K (a.put o.dst undef) w') : wpOp P ops Q i K a w := by
  unfold wpOp
  simp only [hi]
  have hw : Region.wanted o (yielded ops a.tmps) = true := by simp [Region.wanted, hgd]
  rw [if_pos hw]
  refine .inl ?_
  have hc : w.cell? ⟨b, j, none⟩ = some (cs[j]'hj) := by rw [cell_of_row w b j cs t _ hg]; exact Array.getElem?_eq_getElem hj
  have hf := frozen_of_row w b j cs t hg
  have hst : (store ⟨b, j, none⟩ (.slice p n c)).run P w = .ok () (w.setCell ⟨b, j, none⟩ (.slice p n c)) := by simp [go_sem, stored, hc, hf]
  unfold Oper.wp execOp
  simp only [ho, hx, hy, Instr.storeAt, Instr.sureAddr, Sem.run_bind, Sem.run_pure, Result.andThen_ok]
  have hsv : (storeVar ty ⟨b, j, none⟩ (.slice p n c)).run P w = .ok () (w.setCell ⟨b, j, none⟩ (.slice p n c)) := by
    unfold storeVar
    have hv : (Value.slice p n c).cells = #[.slice p n c] := rfl
    simp only [Sem.run_bind, hsz, hv, Result.andThen_ok]
    simp [storeCells, add_off, hst]
  rw [hsv]
  exact hh _ (heap_setCell_same w b j cs t _ hg) (fun k hk => heap_setCell_other _ _ k _ hk) (fun B hB => (Below.refl B w).setCell (p := ⟨b, j, none⟩) hB _)
end
def initS (o : O) : St := ⟨o, -1, fun _ => false, fun _ => 0, fun _ => 0, o.n, false, fun _ => 0, 0, fun _ => 0⟩
def stL (s : St) : List Value := (List.range 38).map (cellS s)
theorem stL_len (s : St) : (stL s).length = 38 := by simp [stL]
theorem stL_at (s : St) {k : Nat} (hk : k < 38) : (stL s)[k]? = some (cellS s k) := by simp [stL, hk]
def OwnS (w : World) (bs : Nat) (v : Value) (f : Nat → O) (k : Nat) : Prop := w.ownsRow bs 64 38 v k ((List.range k).flatMap fun i => stL (initS (f i)))
theorem flat_len (f : Nat → O) : ∀ k, ((List.range k).flatMap fun i => stL (initS (f i))).length = k * 38
  | 0 => rfl
  | k + 1 => by rw [List.range_succ, List.flatMap_append, List.length_append, flat_len f k]; simp [stL_len]; omega
theorem flat_at (f : Nat → O) : ∀ k i q, i < k → q < 38 → ((List.range k).flatMap fun i => stL (initS (f i)))[i * 38 + q]? = some (cellS (initS (f i)) q)
  | 0, i, q, h, _ => absurd h (by omega)
  | k + 1, i, q, h, hq => by
    rw [List.range_succ, List.flatMap_append]
    by_cases e : i < k
    · rw [List.getElem?_append_left (by rw [flat_len]; omega)]
      exact flat_at f k i q e hq
    · obtain rfl : i = k := by omega
      rw [List.getElem?_append_right (by rw [flat_len]; omega), flat_len]
      simp only [List.flatMap_cons, List.flatMap_nil, List.append_nil]
      rw [show i * 38 + q - i * 38 = q by omega]
      exact stL_at _ hq
theorem own_row {w : World} {bs : Nat} {v : Value} {f : Nat → O} {k : Nat} (h : OwnS w bs v f k) (hk : 0 < k) : ∃ g cap, v = .slice (some ⟨g, 0, none⟩) k cap ∧ bs ≤ g ∧ Row w g k (fun i => initS (f i)) := by
  rcases h.2 with ⟨_, h0⟩ | ⟨g, cap, cur, rfl, h1, h2, _, _, _, h5⟩
  · omega
  · refine ⟨g, cap, rfl, h1, cur, h2, fun i hi q hq => ?_⟩
    have h6 := flat_at f k i q hi hq
    rw [← h5, List.getElem?_take, if_pos (by omega), Array.getElem?_toList] at h6
    exact h6
theorem info64 : (Tryd.prog.info? 64).map (fun i => (i.zero.map (·.cells.size), i.size, i.bytes)) = some (some 38, 38, 224) := by kernel_rfl
theorem wp_appst {ops : Array Oper} {Q : Exit → Act → World → Prop} {i : Nat} {K : Act → World → Prop} {o : Oper} {a : Act} {w : World} (hi : ops[i]? = some o) (hgd : o.guard = none) (s x : Operand) (ho : o.op = .call { callee := .builtin .append, args := #[s, x], argTypes := #[56, 56] })
    (bs : Nat) (v : Value) (f : Nat → O) (k : Nat) (hs : a.eval s = v) (hown : OwnS w bs v f k) (b : Nat) (hx : a.eval x = .slice (some ⟨b, 0, none⟩) 1 1) (hb : w.heap[b]? = some (.cells (stL (initS (f k))).toArray 64 (0, 0))) (hk : k ≤ 4000) (hbs : bs ≤ w.heap.size)
    (h : ∀ v' w', OwnS w' bs v' f (k + 1) → w.grownBy w' v.ownBlock → K (a.put o.dst v') w') : wpOp Tryd.prog ops Q i K a w := by
  have hii : ∃ (i0 : TypeInfo) (z : Value), Tryd.prog.info? 64 = some i0 ∧ i0.zero = some z ∧ z.cells.size = 38 ∧ i0.size = 38 ∧ i0.bytes = 224 := by
    have h1 := info64
    cases e : Tryd.prog.info? 64 with
    | none => rw [e] at h1; cases h1
    | some ti =>
      rw [e] at h1
      simp only [Option.map_some, Option.some.injEq, Prod.mk.injEq] at h1
      cases e2 : ti.zero with
      | none => rw [e2] at h1; simp at h1
      | some z =>
        rw [e2] at h1
        simp only [Option.map_some, Option.some.injEq] at h1
        exact ⟨ti, z, rfl, e2, h1.1, h1.2.1, h1.2.2⟩
  obtain ⟨i0, z, hi0, hz0, hzc, hz1, hz2⟩ := hii
  obtain ⟨v', w', hrun, h2, h3, _, _⟩ := run_append_own_at (P := Tryd.prog) w bs 56 o.type 64 i0 z 38 224 Tryd.underlying56 hi0 hz0 hz1 hz2 hzc (by omega) v k _ hown ⟨b, 0, none⟩ 1 1 (stL (initS (f k))) (by rw [stL_len])
    (fun j u hu => by
      rw [add_off, Nat.zero_add, cell_of_row w b j _ 64 _ hb, List.getElem?_toArray]; exact hu)
    (fun u hu => by
      unfold stL at hu
      obtain ⟨q, _, rfl⟩ := List.mem_map.1 hu
      unfold cellS oCell
      repeat' split
      all_goals rfl) (by simp only [maxLen]; omega) (by omega) hbs
  unfold wpOp
  simp only [hi]
  have hw : Region.wanted o (yielded ops a.tmps) = true := by simp [Region.wanted, hgd]
  rw [if_pos hw]
  refine .inl ?_
  unfold Oper.wp execOp
  simp only [ho, resolve, invoke, builtin, Sem.run_bind, Sem.run_pure, Result.andThen_ok, List.map_toArray, List.map_cons, List.map_nil, hs, hx, hrun]
  refine h v' w' ?_ h3
  unfold OwnS
  rw [List.range_succ, List.flatMap_append]
  simpa using h2
def newOk (f : Nat → O) (n : Nat) (t : Int) : Prop := 1 ≤ t ∧ t ≤ 8 ∧ ∀ i, i < n → rb (f i) t = true
set_option maxRecDepth 100000 in
set_option maxHeartbeats 8000000 in
theorem newC (Ad : Option Addr) (n cn : Nat) (f : Nat → O) (hn : n ≤ 4000) (t : Int) (w0 : World) (hA : Objs w0 Ad n f) (hNm : NmW w0) :
    Calls Tryd.prog 12 #[.slice Ad n cn, .int .i64 t] w0 fun e w' => Below w0.heap.size w0 w' ∧ (newOk f n t → ∃ bM v, e = .returned (.tuple #[.pointer (some ⟨bM, 0, none⟩), .int .i64 0]) ∧ w'.heap[bM]? = some (.cells #[.int .i64 t, v] 58 (0, 0)) ∧ OwnS w' (bM + 1) v f n ∧ w0.heap.size ≤ bM) ∧ (¬ newOk f n t → e = .returned (.tuple #[.pointer none, .int .i64 1])) := by
  have hal := (Below.refl w0.heap.size w0).alloc (Nat.le_refl _) (.cells #[.int .i64 t, .slice none 0 0] 58)
  by_cases h1 : t < 1
  · have hno : Hid (¬ newOk f n t) := fun h => by have := h.1; omega
    go_enter Tryd.func12, Tryd.ntmps12
    go_wp2
    go_ret2
    exact ⟨hal, fun h => absurd h hno.out, fun _ => rfl⟩
  by_cases h8 : 8 < t
  · have hno : Hid (¬ newOk f n t) := fun h => by have := h.2.1; omega
    go_enter Tryd.func12, Tryd.ntmps12
    go_wp2
    go_ret2
    exact ⟨hal, fun h => absurd h hno.out, fun _ => rfl⟩
  go_enter Tryd.func12, Tryd.ntmps12
  go_upto_region 5 with (fail)
  obtain ⟨W, bM, e0, e1, XM, halW⟩ := box1 w0 #[.int .i64 t, .slice none 0 0] 58
  rw [e0, e1]
  have hz : w0.heap.size ≤ bM := Nat.le_of_eq e1
  have hbW : bM + 1 ≤ W.heap.size := blk_lt XM
  clear e0 e1 hal
  go_loopw [20] (fun v wr => ∃ (k : Nat) (u : Value), v = .int .i64 k ∧ k ≤ n ∧ (∀ j, j < k → rb (f j) t = true) ∧ wr.heap[bM]? = some (.cells #[.int .i64 t, u] 58 (0, 0)) ∧ OwnS wr (bM + 1) u f k ∧ Below w0.heap.size w0 wr ∧ bM + 1 ≤ wr.heap.size) (fun v _ => n - (intOf v).toNat)
  case atStart => exact ⟨0, .slice none 0 0, rfl, Nat.zero_le _, fun p hp => absurd hp (by omega), XM, World.ownsRow_nil _ _ _ _, halW, hbW⟩
  case round =>
    obtain ⟨k, u, rfl, hk, hpre, XM, hO, hal, hsz⟩ := hrel
    by_cases hlt : k < n
    case neg =>
      obtain rfl : k = n := by omega
      have hl1 : ¬ ((k : Int) < k) := by omega
      have hok : Hid (newOk f k t) := ⟨by omega, by omega, hpre⟩
      clear hpre
      go_wp2
      go_ret2
      first | exact ⟨hal, fun _ => ⟨bM, u, rfl, XM, hO, hz⟩, fun h => absurd hok.out h⟩ | exact ⟨hal, fun _ => ⟨bM, rfl, u, XM, hO, hz⟩, fun h => absurd hok.out h⟩
    have hl0 : (0 : Int) ≤ k := by omega
    have hl1 : (k : Int) < n := by omega
    obtain ⟨bA, oA, rfl⟩ := objs_ptr hA (by omega)
    go_upto_region 6 with (fail)
    refine wp_region_lit ?_
    refine wl_val rfl (.pointer (some ⟨bA, oA + k * 4, none⟩)) ?_ ?_
    · go_simp
    intro K hK
    go_simp
    refine hK _ _ ?_
    clear hK K
    refine wl_val rfl (ov (f k)) (run_ldobj (.tmp 22) rfl bA oA k hA hal hlt rfl) ?_
    intro K hK
    go_simp
    refine hK _ _ ?_
    clear hK K
    refine wl_alloc rfl 48 rfl (.agg #[.int .i64 0, .int .i64 0, .int .i64 0, .int .i64 0]) #[.int .i64 0, .int .i64 0, .int .i64 0, .int .i64 0] (fun w => by kernel_rfl) rfl (fun w4 b8 X4 l4 f4 => ?_)
    intro K hK
    go_simp
    refine hK _ _ ?_
    clear hK K
    refine wl_store rfl 48 (.tmp 8) (.tmp 23) rfl b8 #[.int .i64 (f k).k, .int .i64 (f k).n, .int .i64 (f k).a, .int .i64 (f k).b] rfl rfl 48 _ X4 (by kernel_rfl) rfl (by simp [Value.oneCell']) (fun w5 g1 g2 g3 g4 => ?_)
    intro K hK
    go_simp
    refine hK _ _ ?_
    clear hK K
    have hb5 : Below wr.heap.size wr w5 := l4.trans (g3 _ (by simp only [Hid] at f4; omega))
    clear X4 l4 f4 g2 g3 g4
    replace XM := keep XM hb5
    replace hal := hal.trans (hb5.mono hal.size)
    go_upto_region 7 with (fail)
    refine wp_region_lit ?_
    refine wl_load rfl 48 (.tmp 8) rfl _ rfl _ _ _ _ g1 Tryd.underlying48 rfl (by kernel_rfl) ?_
    intro K hK
    go_simp
    refine hK _ _ ?_
    clear hK K
    iterate 1
      refine wl_val rfl ?_ ?_ ?_
      rotate_left
      · go_simp; try with_reducible rfl
      intro K hK
      go_simp
      refine hK _ _ ?_
      clear hK K
    refine wl_call rfl 16 #[ov (f k), .int .i64 t] (.bool (rb (f k) t)) _ ?_ (objRight (f k) t w5 (hNm.below hal)) (fun w6 hb6 => ?_)
    · first | (go_simp; done) | (go_simp; rfl)
    intro K hK
    go_simp
    refine hK _ _ ?_
    clear hK K
    replace g1 := keep g1 hb6
    replace XM := keep XM hb6
    replace hal := hal.trans (hb6.mono hal.size)
    have hbb := hb5.trans (hb6.mono hb5.size)
    have hO6 : OwnS w6 (bM + 1) u f k := by
      refine ⟨hO.1, ?_⟩
      rcases hO.2 with h | ⟨g, cap, cur, r1, r2, r3, r4⟩
      · exact .inl h
      · exact .inr ⟨g, cap, cur, r1, r2, keep r3 hbb, r4⟩
    clear hb6 hb5 hO
    by_cases hrb : rb (f k) t = true
    case neg =>
      have hno : Hid (¬ newOk f n t) := fun h => hrb (h.2.2 k hlt)
      rw [Bool.eq_false_iff.2 hrb]
      clear hpre hrb
      go_wp2
      go_ret2
      exact ⟨hal, fun h => absurd h hno.out, fun _ => rfl⟩
    rw [hrb]
    have hpre' : ∀ p, p < k + 1 → rb (f p) t = true := fun p hp => by
      rcases Nat.lt_succ_iff_lt_or_eq.1 hp with h | rfl
      · exact hpre p h
      · exact hrb
    clear hpre hrb
    have hs6 := Nat.le_trans hsz hbb.size
    clear hbb
    have hv0 : ∃ v, Hid (v = w6) := ⟨_, rfl⟩
    obtain ⟨v0, hv0⟩ := hv0
    have hv0 := hv0.out
    subst hv0
    go_upto_region 9 with (fail)
    refine grow_headM 9 10 8 (fun w' => Below v0.heap.size v0 w') _ rfl (by kernel_rfl) (by kernel_rfl) (by decide) (by kernel_rfl) ?_
    simp only [List.take_succ_cons, List.take_zero]
    refine gm_free rfl ?_ (fun w' => ga_value ?_) (fun K hK => ?_)
    rotate_left
    · go_simp; try with_reducible rfl
    go_simp
    refine hK _ ?_
    clear hK K
    refine gm_free rfl ?_ (fun w' => ga_value ?_) (fun K hK => ?_)
    rotate_left
    · go_simp; try with_reducible rfl
    go_simp
    refine hK _ ?_
    clear hK K
    refine gm_free rfl ?_ (fun w' => ga_value ?_) (fun K hK => ?_)
    rotate_left
    · go_simp; try with_reducible rfl
    go_simp
    refine hK _ ?_
    clear hK K
    refine gm_free rfl ?_ (fun w' => ga_value ?_) (fun K hK => ?_)
    rotate_left
    · go_simp; try with_reducible rfl
    go_simp
    refine hK _ ?_
    clear hK K
    refine gm_run rfl (by kernel_rfl) ?_ (fun w' h' => ga_value ?_) (fun K hK => ?_)
    rotate_left
    · have c := cell_of_row w' bM 1 _ 58 _ (keep XM h'); go_simp; try with_reducible rfl
    go_simp
    refine hK _ ?_
    clear hK K
    refine gm_run rfl (by kernel_rfl) _ (fun w' h' => ga_load 48 (.tmp 8) rfl _ rfl _ _ (0, 0) _ (keep g1 h') Tryd.underlying48 rfl (by kernel_rfl)) (fun K hK => ?_)
    go_simp
    refine hK _ ?_
    clear hK K
    refine gm_free rfl ?_ (fun w' => ga_value ?_) (fun K hK => ?_)
    rotate_left
    · go_simp; try with_reducible rfl
    go_simp
    refine hK _ ?_
    clear hK K
    refine gm_run rfl (by kernel_rfl) ?_ (fun w' h' => ga_value ?_) (fun K hK => ?_)
    rotate_left
    · have c := cell_of_row w' b8 1 _ 48 _ (keep g1 h'); go_simp; try with_reducible rfl
    go_simp
    refine hK _ ?_
    clear hK K
    refine gm_free rfl ?_ (fun w' => ga_value ?_) (fun K hK => ?_)
    rotate_left
    · go_simp; try with_reducible rfl
    go_simp
    refine hK _ ?_
    clear hK K
    refine gm_nil ?_
    show anyM _ _ _ _ _ _ _ _ _ _
    have q0 : Below v0.heap.size v0 v0.drew := Below.drew (Below.refl _ _)
    refine anyM_ready [9] (by kernel_rfl) (by simp) (fun v1 r1 => ⟨fun _ => q0.trans (r1.mono q0.size), ?_⟩)
    have q1 := q0.trans (r1.mono q0.size)
    intro j hj
    simp only [List.mem_cons, List.not_mem_nil, or_false] at hj
    subst hj
    refine op_at rfl rfl (.slice (some ⟨v1.heap.size, 0, none⟩) 1 1) (w' := v1.alloc (.cells (stL (initS (f k))).toArray 64)) (by first | kernel_rfl | go_simp) ?_
    obtain ⟨v2, bN, e8, eg, BN, hb8⟩ := box1 v1 (stL (initS (f k))).toArray 64
    rw [e8, eg]
    clear e8 eg
    have q2 := q1.trans (hb8.mono q1.size)
    refine anyM_ready [10] (by kernel_rfl) (by simp) (fun v3 r3 => ⟨fun _ => q2.trans (r3.mono q2.size), ?_⟩)
    have q3 := q2.trans (r3.mono q2.size)
    replace BN := keep BN r3
    intro j hj
    simp only [List.mem_cons, List.not_mem_nil, or_false] at hj
    subst hj
    have hO3 : OwnS v3 (bM + 1) u f k := by
      refine ⟨hO6.1, ?_⟩
      rcases hO6.2 with h | ⟨g, cap, cur, r1, r2, r3, r4⟩
      · exact .inl h
      · exact .inr ⟨g, cap, cur, r1, r2, keep r3 q3, r4⟩
    refine wp_appst rfl rfl (.tmp 32) (.tmp 37) rfl (bM + 1) u f k rfl hO3 bN rfl BN (by omega) (Nat.le_trans hs6 q3.size) (fun u' v4 hO4 hg4 => ?_)
    have hown := fun kk (h : u.ownBlock = some kk) => (World.ownsRow.lt hO3 kk h).1
    replace XM := keep XM q3
    replace hal := hal.trans (q3.mono hal.size)
    have hneM : some bM ≠ u.ownBlock := fun e => by have := hown bM e.symm; omega
    replace XM := (hg4.block bM (blk_lt XM) hneM).trans XM
    replace hal := hal.grown hg4 hal.size (fun kk h => by have := hown kk h; omega)
    have hs4 : bM + 1 ≤ v4.heap.size := blk_lt XM
    obtain ⟨g, cap, rfl, hgM, hRow⟩ := own_row hO4 (by omega)
    clear hO3 hO6 hown hneM hg4 BN q0 q1 q2 q3 hb8 r1 r3
    refine anyM_ready [11] (by kernel_rfl) (by simp) (fun v5 r5 => ⟨(fun e => absurd (show true = false from e) (by decide)), ?_⟩)
    intro j hj
    simp only [List.mem_cons, List.not_mem_nil, or_false] at hj
    subst hj
    refine op_value rfl rfl (.pointer (some ⟨bM, 0, none⟩)) (by go_simp) ?_
    refine anyM_ready [12] (by kernel_rfl) (by simp) (fun v6 r6 => ⟨(fun e => absurd (show true = false from e) (by decide)), ?_⟩)
    intro j hj
    simp only [List.mem_cons, List.not_mem_nil, or_false] at hj
    subst hj
    refine op_value rfl rfl (.pointer (some ⟨bM, 1, none⟩)) (by go_simp) ?_
    refine anyM_ready [13] (by kernel_rfl) (by simp) (fun v7 r7 => ⟨(fun e => absurd (show true = false from e) (by decide)), ?_⟩)
    intro j hj
    simp only [List.mem_cons, List.not_mem_nil, or_false] at hj
    subst hj
    have r57 := (r5.trans (r6.mono r5.size)).trans (r7.mono (Nat.le_trans r5.size r6.size))
    refine op_stslice rfl rfl 56 Tryd.sizeOf56 (.tmp 40) (.tmp 38) rfl bM 1 (some ⟨g, 0, none⟩) (k + 1) cap _ 58 rfl rfl (keep XM r57) (by simp) (fun v8 m1 m2 m3 => ?_)
    refine anyM_end (by kernel_rfl) (by kernel_rfl) (fun v9 r9 => ?_)
    have hal8 := (hal.trans (r57.mono hal.size)).trans (m3 _ hz)
    have hal9 := hal8.trans (r9.mono hal8.size)
    have m1' : v8.heap[bM]? = some (.cells #[.int .i64 t, .slice (some ⟨g, 0, none⟩) (k + 1) cap] 58 (0, 0)) := by simpa using m1
    have XM9 := keep m1' r9
    have hO9 : OwnS v9 (bM + 1) (.slice (some ⟨g, 0, none⟩) (k + 1) cap) f (k + 1) := by
      refine ⟨hO4.1, ?_⟩
      rcases hO4.2 with h | ⟨g', cap', cur, r1, r2, r3, r4⟩
      · exact .inl h
      · refine .inr ⟨g', cap', cur, r1, r2, keep ((m2 g' (by omega)).trans (keep r3 r57)) r9, r4⟩
    have hs9 : bM + 1 ≤ v9.heap.size := blk_lt XM9
    clear m1 m2 m3 m1' hO4 XM hal hal8 hRow g1 r57 r5 r6 r7 r9
    go_wp2
    go_roundw
    case rel => exact ⟨k + 1, .slice (some ⟨g, 0, none⟩) (k + 1) cap, by go_num, by omega, hpre', XM9, hO9, hal9, hs9⟩
    case measure => simp [intOf]; omega
end Go.Proofs.YtobkonbpcnmgpaaDoor
