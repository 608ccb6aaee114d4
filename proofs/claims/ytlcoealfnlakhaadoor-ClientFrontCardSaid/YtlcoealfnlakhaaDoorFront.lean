/- The law ClientFront, walked. -/
import Derived.Test.YtlcoealfnlakhaaDoorFrontLaw
namespace Go.Proofs.YtlcoealfnlakhaaDoor
open Go.RowKit
set_option linter.unusedVariables false
set_option linter.unusedSimpArgs false
theorem info40 : (Tryd.prog.info? 40).map (fun i => (i.zero, i.size, i.bytes)) = some (some (.slice none 0 0), 1, 24) := by kernel_rfl
section
variable {ops : Array Oper} {Q : Exit → Act → World → Prop}
theorem wl_appthr {rest : List Oper} {o : Oper} {a : Act} {w : World} (hgd : o.guard = none) (s x : Operand) (ho : o.op = .call { callee := .builtin .append, args := #[s, x], argTypes := #[24, 24] })
    (g0 : Nat) (hs : a.eval s = .slice (some ⟨g0, 0, none⟩) 0 0) (hg0 : w.heap[g0]? = some (.cells #[] 40 (0, 0))) (bA oA n c : Nat) (tp : Nat → Option Addr) (len tc : Nat → Nat) (hx : a.eval x = .slice (some ⟨bA, oA, none⟩) n c) (hT : Thr w (some ⟨bA, oA, none⟩) n tp len tc) (hn : 0 < n) (hn8 : n ≤ 40)
    (h : ∀ g cap cur w', w'.heap[g]? = some (.cells cur 40 (0, 0)) → (∀ i, i < n → cur[i]? = some (.slice (tp i) (len i) (tc i))) → n ≤ cap → g0 ≤ g → (∀ k, k < w.heap.size → k ≠ g0 → w'.heap[k]? = w.heap[k]?) → Below g0 w w' →
      ∀ K : Act → World → Prop, (∀ a w, wpList Tryd.prog ops Q rest a w → K a w) → K (a.put o.dst (.slice (some ⟨g, 0, none⟩) n cap)) w') : wpList Tryd.prog ops Q (o :: rest) a w := by
  refine wpList_plain hgd fun K hK => ?_
  have hlt := blk_lt hg0
  have hi : ∃ i0 : TypeInfo, Tryd.prog.info? 40 = some i0 ∧ i0.zero = some (.slice none 0 0) ∧ i0.size = 1 ∧ i0.bytes = 24 := by
    have h1 := info40
    cases e : Tryd.prog.info? 40 with
    | none => rw [e] at h1; cases h1
    | some ti =>
      rw [e] at h1
      simp only [Option.map_some, Option.some.injEq, Prod.mk.injEq] at h1
      exact ⟨ti, rfl, h1.1, h1.2.1, h1.2.2⟩
  obtain ⟨i0, hi0, hz0, hz1, hz2⟩ := hi
  have hown : w.ownsRow g0 40 1 (.slice (some ⟨g0, 0, none⟩) 0 0) 0 [] := ⟨rfl, .inr ⟨g0, 0, #[], rfl, Nat.le_refl _, hg0, Nat.le_refl _, Nat.zero_le _, rfl, rfl⟩⟩
  obtain ⟨v', w', hrun, h2, h3, h4, _⟩ := run_append_own_at (P := Tryd.prog) w g0 24 o.type 40 i0 (.slice none 0 0) 1 24 Tryd.underlying24 hi0 hz0 hz1 hz2 rfl (by omega) (.slice (some ⟨g0, 0, none⟩) 0 0) 0 [] hown ⟨bA, oA, none⟩ n c ((List.range n).map fun i => .slice (tp i) (len i) (tc i)) (by simp)
    (fun j u hu => by
      rw [List.getElem?_map] at hu
      by_cases hj : j < n
      · rw [List.getElem?_range hj] at hu
        simp only [Option.map_some, Option.some.injEq] at hu
        subst hu
        rw [add_off]
        exact at_thr hT hj
      · rw [List.getElem?_eq_none (by simp; omega)] at hu; cases hu)
    (fun u hu => by
      obtain ⟨x, _, hx⟩ := List.mem_map.1 hu
      subst hx; rfl) (by simp only [maxLen]; omega) (by omega) (by omega)
  unfold Oper.wp execOp
  simp only [ho, resolve, invoke, builtin, Sem.run_bind, Sem.run_pure, Result.andThen_ok, List.map_toArray, List.map_cons, List.map_nil, hs, hx, hrun]
  rcases h2.2 with ⟨rfl, h0⟩ | ⟨g, cap, cur, rfl, hg1, hg2, hg3, _, hg5, hg6⟩
  · omega
  rw [Nat.zero_add] at hg3 hg6 ⊢
  refine h g cap cur w' hg2 (fun i hi' => ?_) hg3 hg1 (fun k hk hne => h3.block k hk (fun e => hne (by simpa [Value.ownBlock] using e))) ((Below.refl g0 w).grown h3 (by omega) (fun k hk => by simp [Value.ownBlock] at hk; omega)) K hK
  rw [Nat.mul_one, List.nil_append] at hg6
  rw [← Array.getElem?_toList]
  have : (cur.toList.take n)[i]? = cur.toList[i]? := by rw [List.getElem?_take, if_pos hi']
  rw [← this, hg6, List.getElem?_map, List.getElem?_range hi']
  rfl
end
set_option maxRecDepth 100000 in
set_option maxHeartbeats 8000000 in
theorem front_walk (C : Cl) (t n : Int) (ht : 0 ≤ t ∧ t ≤ 255) (hn : 0 ≤ n ∧ n ≤ 255) (w : World) (hM : MemC w C) (hN : NmW w) : Calls Tryd.prog 6 #[C.v, .int .u8 t, .int .u8 n] w fun e w' => e = .returned (.bool true) ∧ Below w.heap.size w w' := by
  unfold Cl.v
  go_enter Tryd.func6, Tryd.ntmps6
  go_upto_region 1 with (fail)
  obtain ⟨W, b1, e0, e1, X1, hal⟩ := box1 w #[.slice C.A C.no C.ca, .int .i64 C.vars, .slice C.W C.nw C.cw, .int .i64 C.room, .slice C.T C.nt C.ct] 26
  rw [e0, e1]
  clear e0 e1
  refine wp_region_lit ?_
  refine wl_call rfl 8 #[] (.bool true) _ ?_ (awake W (hN.below hal)) (fun w2 hb2 => ?_)
  · skip; first | (go_simp; done) | (go_simp; rfl)
  intro K hK
  go_simp
  refine hK _ _ ?_
  clear hK K
  replace X1 := keep X1 hb2
  replace hal := hal.trans (hb2.mono hal.size)
  clear hb2
  iterate 2
    refine wl_val rfl ?_ ?_ ?_
    rotate_left
    · go_simp; try with_reducible rfl
    intro K hK
    go_simp
    refine hK _ _ ?_
    clear hK K
  refine wg_load rfl 26 (.tmp 3) rfl _ rfl _ _ _ _ X1 Tryd.underlying26 rfl (by kernel_rfl) ?_
  intro K hK
  go_simp
  refine hK _ _ ?_
  clear hK K
  refine wg_call rfl 9 #[C.v] (.int .i64 (lgI C)) _ ?_ (longC C w2 (hM.below hal)) (fun w3 hb3 => ?_)
  · unfold Cl.v; first | (go_simp; done) | (go_simp; rfl)
  intro K hK
  go_simp
  refine hK _ _ ?_
  clear hK K
  replace X1 := keep X1 hb3
  replace hal := hal.trans (hb3.mono hal.size)
  clear hb3
  unfold lgI
  cases hlg : longB C
  case true =>
    rw [if_pos rfl]
    go_wp2_with fail
    refine (awake _ (hN.below hal)).mono ?_
    rintro e w4 ⟨rfl, hb4⟩
    go_wp2
    go_ret
    exact ⟨rfl, hal.trans (hb4.mono hal.size)⟩
  rw [if_neg Bool.false_ne_true]
  have y4 := cell_of_row w3 b1 4 _ 26 _ X1
  by_cases hz : C.nt = 0
  · have qz : ((C.nt : Int) == 0) = true := by simp [hz]
    clear hz
    go_wp2_with fail
    refine (awake _ (hN.below hal)).mono ?_
    rintro e w4 ⟨rfl, hb4⟩
    go_wp2
    go_ret
    exact ⟨rfl, hal.trans (hb4.mono hal.size)⟩
  have qz : ((C.nt : Int) == 0) = false := by simp [hz]
  obtain ⟨who, hwho⟩ : ∃ q : Nat, t % (C.nt : Int) = q := ⟨(t % (C.nt : Int)).toNat, by have := Int.emod_nonneg t (show (C.nt : Int) ≠ 0 by omega); omega⟩
  have hlt : who < C.nt := by
    have := Int.emod_lt_of_pos t (show (0 : Int) < C.nt by omega)
    omega
  go_upto_region 4 with (fail)
  try rw [hwho]
  clear hwho y4
  refine wp_region_lit ?_
  refine wl_load rfl 26 (.tmp 3) rfl _ rfl _ _ _ _ X1 Tryd.underlying26 rfl (by kernel_rfl) ?_
  intro K hK
  go_simp
  refine hK _ _ ?_
  clear hK K
  refine wl_call rfl 10 #[C.v] (r3 (chk C)) _ ?_ (clCheck C w3 (hM.below hal) (hN.below hal)) (fun w5 hb5 => ?_)
  · unfold Cl.v; first | (go_simp; done) | (go_simp; rfl)
  intro K hK
  go_simp
  refine hK _ _ ?_
  clear hK K
  replace X1 := keep X1 hb5
  replace hal := hal.trans (hb5.mono hal.size)
  clear hb5
  have hOk := chk_ok (C := C)
  have hle := OkK.len (C := C)
  obtain ⟨⟨p1, p2, p3⟩, hp⟩ : ∃ p, p = chk C := ⟨_, rfl⟩
  rw [← hp] at hOk ⊢
  clear hp
  unfold r3
  simp only at hOk
  by_cases h3 : p3 = 0
  case neg =>
    have q3 : (p3 != 0) = true := by simp [h3]
    clear hOk h3
    go_wp2
    go_ret
    exact ⟨rfl, hal⟩
  have hOK := hOk h3
  subst h3
  clear hOk
  have hlen := hOK.len who hlt
  have hnt : C.nt ≤ 8 := hOK.okC.nt
  clear hle
  go_upto_region 7 with (fail)
  refine wp_region_lit ?_
  refine wl_load rfl 26 (.tmp 3) rfl _ rfl _ _ _ _ X1 Tryd.underlying26 rfl (by kernel_rfl) ?_
  intro K hK
  go_simp
  refine hK _ _ ?_
  clear hK K
  refine wl_alloc rfl 26 rfl (.agg #[.slice none 0 0, .int .i64 0, .slice none 0 0, .int .i64 0, .slice none 0 0]) #[.slice none 0 0, .int .i64 0, .slice none 0 0, .int .i64 0, .slice none 0 0] (fun w => by kernel_rfl) rfl (fun w6 b11 X4 l4 f4 => ?_)
  intro K hK
  go_simp
  refine hK _ _ ?_
  clear hK K
  refine wl_store rfl 26 (.tmp 11) (.tmp 48) rfl b11 #[.slice C.A C.no C.ca, .int .i64 C.vars, .slice C.W C.nw C.cw, .int .i64 C.room, .slice C.T C.nt C.ct] rfl rfl 26 _ X4 (by kernel_rfl) rfl (by simp [Value.oneCell']) (fun w7 g1 g2 g3 g4 => ?_)
  intro K hK
  go_simp
  refine hK _ _ ?_
  clear hK K
  have hb7 : Below w5.heap.size w5 w7 := l4.trans (g3 _ (by simp only [Hid] at f4; omega))
  have hz1 : w.heap.size ≤ b11 := by have := f4.out; have := hal.size; omega
  have hne : b1 ≠ b11 := by have := blk_lt X1; have := f4.out; omega
  replace X1 := keep X1 hb7
  replace hal := hal.trans (hb7.mono hal.size)
  clear X4 l4 f4 g2 g3 g4 hb7
  obtain ⟨bA, oA, eA⟩ := thr_ptr hM.thr (by omega)
  have hA := hM.thr
  rw [eA] at hA X1
  try rw [eA]
  have hAll := hA.below hal
  go_upto_region 8 with (fail)
  have y4 := cell_of_row w7 b1 4 _ 26 _ X1
  refine wp_region_lit ?_
  refine wl_at rfl (.slice (some ⟨w7.heap.size, 0, none⟩) 0 0) (w' := w7.alloc (.cells #[] 40)) (by go_simp) ?_
  intro K hK
  go_simp
  refine hK _ _ ?_
  clear hK K
  obtain ⟨w8, g0, e8, eg, G0, hb8⟩ := box1 w7 #[] 40
  rw [e8, eg]
  have hz2 : b11 < g0 := by have := blk_lt g1; omega
  have hz3 : b1 < g0 := by have := blk_lt X1; omega
  have hz4 : w.heap.size ≤ g0 := by omega
  clear e8 eg y4
  replace X1 := keep X1 hb8
  replace g1 := keep g1 hb8
  replace hal := hal.trans (hb8.mono hal.size)
  have y4 := cell_of_row w8 b1 4 _ 26 _ X1
  iterate 2
    refine wl_val rfl ?_ ?_ ?_
    rotate_left
    · go_simp; try with_reducible rfl
    intro K hK
    go_simp
    refine hK _ _ ?_
    clear hK K
  refine wl_appthr rfl (.tmp 49) (.tmp 51) rfl g0 rfl G0 bA oA C.nt C.ct C.tp C.len C.tc rfl (hA.below hal) (by omega) (by omega) (fun g cap cur w9 hg1 hg2 hg3 hg4 hg5 hg6 => ?_)
  intro K hK
  go_simp
  refine hK _ _ ?_
  clear hK K
  replace X1 := (hg5 b1 (blk_lt X1) (by omega)).trans X1
  replace g1 := (hg5 b11 (blk_lt g1) (by omega)).trans g1
  replace hal := hal.trans (hg6.mono hz4)
  have hgs : g < w9.heap.size := blk_lt hg1
  clear y4 G0 hg5 hg6 hb8 hAll
  iterate 1
    refine wl_val rfl ?_ ?_ ?_
    rotate_left
    · go_simp; try with_reducible rfl
    intro K hK
    go_simp
    refine hK _ _ ?_
    clear hK K
  refine wl_stslice rfl 24 Tryd.sizeOf24 (.tmp 53) (.tmp 52) rfl b11 4 (some ⟨g, 0, none⟩) C.nt cap _ 26 rfl rfl g1 (by simp) (fun w10 k1 k2 k3 k4 => ?_)
  intro K hK
  go_simp
  refine hK _ _ ?_
  clear hK K
  replace X1 := (k2 b1 hne).trans X1
  replace hg1 := (k2 g (by omega)).trans hg1
  replace hal := hal.trans (k3 _ hz1)
  clear k2 k3 k4 g1
  have k1' : w10.heap[b11]? = some (.cells #[.slice C.A C.no C.ca, .int .i64 C.vars, .slice C.W C.nw C.cw, .int .i64 C.room, .slice (some ⟨g, 0, none⟩) C.nt cap] 26 (0, 0)) := by simpa using k1
  clear k1
  have y4 := cell_of_row w10 b1 4 _ 26 _ X1
  have cA := at_thr (hA.below hal) hlt
  have hcap := hM.hl who hlt
  have hl0 : (0 : Int) ≤ who := by omega
  have hl1 : (who : Int) < C.nt := by omega
  have hqz : ((C.len who : Int) + 1 == 0) = false := by simp; omega
  have hwl : IntKind.i64.wrap ((C.len who : Int) + 1) = (C.len who : Int) + 1 := by simp only [IntKind.wrap_i64]; omega
  obtain ⟨cut, hcut⟩ : ∃ q : Nat, n % ((C.len who : Int) + 1) = q := ⟨(n % ((C.len who : Int) + 1)).toNat, by have := Int.emod_nonneg n (show (C.len who : Int) + 1 ≠ 0 by omega); omega⟩
  have hcl : cut ≤ C.len who := by
    have := Int.emod_lt_of_pos n (show (0 : Int) < (C.len who : Int) + 1 by omega)
    omega
  go_upto_region 11 with (fail)
  try rw [hcut]
  clear hcut y4 cA hqz hwl
  refine quiet_tail 7 (fun w' => Below w10.heap.size w10 w') (by kernel_rfl) (by kernel_rfl) (Below.drew (Below.refl _ _)) ?_
  simp only [List.take_succ_cons, List.take_zero, List.drop_succ_cons, List.drop_zero]
  refine q_run rfl (fun K hK => ?_)
  refine q_value ?_ (fun w' h' => ?_) ?_
  rotate_left
  · go_simp; try with_reducible rfl
  go_simp
  refine hK _ ?_
  clear hK K
  refine q_run rfl (fun K hK => ?_)
  refine q_value ?_ (fun w' h' => ?_) ?_
  rotate_left
  · have c := cell_of_row w' b11 4 _ 26 _ (keep k1' h'); go_simp; try with_reducible rfl
  go_simp
  refine hK _ ?_
  clear hK K
  refine q_run rfl (fun K hK => ?_)
  refine q_value ?_ (fun w' h' => ?_) ?_
  rotate_left
  · go_simp; try with_reducible rfl
  go_simp
  refine hK _ ?_
  clear hK K
  refine q_run rfl (fun K hK => ?_)
  refine q_value ?_ (fun w' h' => ?_) ?_
  rotate_left
  · go_simp; try with_reducible rfl
  go_simp
  refine hK _ ?_
  clear hK K
  refine q_run rfl (fun K hK => ?_)
  refine q_value ?_ (fun w' h' => ?_) ?_
  rotate_left
  · go_simp; try with_reducible rfl
  go_simp
  refine hK _ ?_
  clear hK K
  refine q_run rfl (fun K hK => ?_)
  refine q_value (.slice (C.tp who) cut (C.tc who)) (fun w' h' => run_cut (.tmp 68) (.tmp 69) rfl _ _ _ cut rfl rfl (by omega)) ?_
  go_simp
  refine hK _ ?_
  clear hK K
  refine q_run rfl (fun K hK => ?_)
  refine q_value ?_ (fun w' h' => ?_) ?_
  rotate_left
  · go_simp; try with_reducible rfl
  go_simp
  refine hK _ ?_
  clear hK K
  refine qd_nil ?_
  intro w11 h11
  replace X1 := keep X1 h11
  replace hg1 := keep hg1 h11
  replace k1' := keep k1' h11
  replace hal := hal.trans (h11.mono hal.size)
  have hgw : w.heap.size ≤ g := by omega
  have hcs : who < cur.size := by
    have := hg2 who hlt
    exact (Array.getElem?_eq_some_iff.1 this).1
  refine wl_stslice rfl 40 Tryd.sizeOf40 (.tmp 71) (.tmp 70) rfl g who (C.tp who) cut (C.tc who) _ 40 rfl rfl hg1 hcs (fun w12 m1 m2 m3 m4 => ?_)
  intro K hK
  go_simp
  refine hK _ _ ?_
  clear hK K
  replace X1 := (m2 b1 (by omega)).trans X1
  replace k1' := (m2 b11 (by omega)).trans k1'
  replace hal := hal.trans (m3 _ hgw)
  have hM' : MemC w12 (cutC C who cut (some ⟨g, 0, none⟩) cap) := by
    have h0 := hM.below hal
    have hle : ∀ t, (cutC C who cut (some ⟨g, 0, none⟩) cap).len t ≤ C.len t := fun t => by
      by_cases e : t = who
      · subst e; rw [cut_len']; exact hcl
      · rw [cut_len e]; exact Nat.le_refl _
    refine ⟨h0.objs, h0.own, fun _ => ⟨g, 0, rfl, blk_lt m1, fun i hi => ?_⟩, fun t ht => ?_, h0.ho, h0.hw, hg3, fun t ht => Nat.le_trans (hle t) (h0.hl t ht), h0.hN, fun t i ht hi => h0.hK t i ht (Nat.lt_of_lt_of_le hi (hle t))⟩
    · rw [cell_of_row w12 g _ _ 40 _ m1, Nat.zero_add]
      by_cases e : i = who
      · subst e
        rw [cut_len', Array.getElem?_setIfInBounds_self_of_lt hcs]; rfl
      · rw [cut_len e, Array.getElem?_setIfInBounds_ne (fun x => e x.symm), hg2 i hi]; rfl
    · intro hn0
      obtain ⟨b, off, e1, e2, e3⟩ := h0.ops t ht (Nat.lt_of_lt_of_le hn0 (hle t))
      exact ⟨b, off, e1, e2, fun i hi => e3 i (Nat.lt_of_lt_of_le hi (hle t))⟩
  have hT := front_law hOK hlt hcl (some ⟨g, 0, none⟩) cap
  have c1 := fun w hM hN => clKeeps C w hM hN
  have c2 := fun w hM hN => clKeeps (cutC C who cut (some ⟨g, 0, none⟩) cap) w hM hN
  obtain ⟨⟨a, i, e⟩, hp⟩ : ∃ p, p = kp false C := ⟨_, rfl⟩
  obtain ⟨⟨b, k, f⟩, hq⟩ : ∃ p, p = kp false (cutC C who cut (some ⟨g, 0, none⟩) cap) := ⟨_, rfl⟩
  have hD := hT a i e b k f hp.symm hq.symm
  rw [← hp] at c1
  rw [← hq] at c2
  clear hT hp hq m1 m2 m3 m4 hg1 hg2 h11 hcs
  go_upto_region 12 with (fail)
  refine wp_region_lit ?_
  refine wl_load rfl 26 (.tmp 3) rfl _ rfl _ _ _ _ X1 Tryd.underlying26 rfl (by kernel_rfl) ?_
  intro K hK
  go_simp
  refine hK _ _ ?_
  clear hK K
  refine wl_call rfl 14 #[C.v] (r3 (a, i, e)) _ ?_ (c1 w12 (hM.below hal) (hN.below hal)) (fun w13 hb13 => ?_)
  · unfold Cl.v; rw [eA]; first | (go_simp; done) | (go_simp; rfl)
  intro K hK
  go_simp
  refine hK _ _ ?_
  clear hK K
  unfold r3
  have hM2 := hM'.below hb13
  replace k1' := keep k1' hb13
  replace hal := hal.trans (hb13.mono hal.size)
  clear hb13 X1 c1 hM'
  go_upto_region 13 with (fail)
  refine wp_region_lit ?_
  refine wl_load rfl 26 (.tmp 11) rfl _ rfl _ _ _ _ k1' Tryd.underlying26 rfl (by kernel_rfl) ?_
  intro K hK
  go_simp
  refine hK _ _ ?_
  clear hK K
  refine wl_call rfl 14 #[Cl.v (cutC C who cut (some ⟨g, 0, none⟩) cap)] (r3 (b, k, f)) _ ?_ (c2 w13 hM2 (hN.below hal)) (fun w14 hb14 => ?_)
  · unfold Cl.v cutC; first | (go_simp; done) | (go_simp; rfl)
  intro K hK
  go_simp
  refine hK _ _ ?_
  clear hK K
  unfold r3
  replace hal := hal.trans (hb14.mono hal.size)
  clear hb14 k1' c2 hM2 eA hA hOK
  rcases hD with ⟨rfl, h⟩ | ⟨h0, h1, rfl, rfl, rfl⟩ | ⟨h0, rfl, h1, rfl, rfl, rfl⟩ | ⟨h0, h1, h2, h⟩
  · by_cases hf : f = 0
    · subst hf
      clear h
      go_wp2
      go_ret
      exact ⟨rfl, hal⟩
    · obtain ⟨rfl, rfl⟩ := h.resolve_left hf
      have qf : (f == 0) = false := by simp [hf]
      clear hf h
      go_wp2
      go_ret
      exact ⟨rfl, hal⟩
  · have q0 : (f == 0) = false := by simp [h0]
    clear h0
    go_wp2
    go_ret
    exact ⟨rfl, hal⟩
  · have q0 : (f == 0) = false := by simp [h0]
    clear h0
    go_wp2
    go_ret
    exact ⟨rfl, hal⟩
  · have q0 : (e == 0) = false := by simp [h0]
    have h3 : (who : Int) ≤ a := by omega
    have hfin : ∀ W14 : World, True := fun _ => trivial
    by_cases ha : a = who
    · have h4 : ¬ i < (cut : Int) := fun hh => h2 ⟨ha, hh⟩
      subst ha
      clear h2 h0 hfin
      by_cases hf : f = 0
      · subst hf
        clear h
        go_wp2
        go_ret
        exact ⟨rfl, hal⟩
      have qf : (f == 0) = false := by simp [hf]
      by_cases hb : b = who ∧ k = cut
      · obtain ⟨rfl, rfl⟩ := hb
        clear hf h
        go_wp2
        go_ret
        exact ⟨rfl, hal⟩
      · obtain ⟨h5, h6⟩ := (h.resolve_left hf).resolve_left hb
        have qb : (b == (who : Int)) = false := by simp; omega
        clear hf h hb
        go_wp2
        go_ret
        exact ⟨rfl, hal⟩
    · have qa : (a == (who : Int)) = false := by simp [ha]
      clear h2 h0 ha hfin
      by_cases hf : f = 0
      · subst hf
        clear h
        go_wp2
        go_ret
        exact ⟨rfl, hal⟩
      have qf : (f == 0) = false := by simp [hf]
      by_cases hb : b = who ∧ k = cut
      · obtain ⟨rfl, rfl⟩ := hb
        clear hf h
        go_wp2
        go_ret
        exact ⟨rfl, hal⟩
      · obtain ⟨h5, h6⟩ := (h.resolve_left hf).resolve_left hb
        have qb : (b == (who : Int)) = false := by simp; omega
        clear hf h hb
        go_wp2
        go_ret
        exact ⟨rfl, hal⟩
end Go.Proofs.YtlcoealfnlakhaaDoor
