/- Where objects stand: the program's answer and the document's. -/
import Derived.Test.YtemhcdlhhpckmaaDoorOSize
import Derived.Test.YtemhcdlhhpckmaaDoorORefRight
namespace Go.Proofs.YtemhcdlhhpckmaaDoor
open Go.RowKit
set_option linter.unusedVariables false
set_option linter.unusedSimpArgs false
section
variable {ops : Array Oper} {Q : Exit → Act → World → Prop}
theorem wl_call {P : Program} {rest : List Oper} {o : Oper} {a : Act} {w : World} (hgd : o.guard = none) (g : FuncId) (args : Array Value) (v : Value) (R : World → Prop) (h : (execOp a.eval o).run P w = .ok (.enter g args) w)
    (hc : Calls P g args w fun e w' => e = .returned v ∧ R w') (hK : ∀ w', R w' → ∀ K : Act → World → Prop, (∀ a w, wpList P ops Q rest a w → K a w) → K (a.put o.dst v) w') : wpList P ops Q (o :: rest) a w := by
  refine wpList_plain hgd fun K hK' => ?_
  unfold Oper.wp
  rw [h, Oper.upon_enter]
  refine hc.mono fun e w' hr => ?_
  obtain ⟨rfl, hr⟩ := hr
  exact hK w' hr K hK'
end
section
variable {ops : Array Oper} {Q : Exit → Act → World → Prop}
theorem wl_calls {P : Program} {rest : List Oper} {o : Oper} {a : Act} {w : World} (hgd : o.guard = none) (g : FuncId) (args : Array Value) (R : Value → World → Prop) (h : (execOp a.eval o).run P w = .ok (.enter g args) w)
    (hc : Calls P g args w fun e w' => ∃ v, e = .returned v ∧ R v w') (hK : ∀ v w', R v w' → ∀ K : Act → World → Prop, (∀ a w, wpList P ops Q rest a w → K a w) → K (a.put o.dst v) w') : wpList P ops Q (o :: rest) a w := by
  refine wpList_plain hgd fun K hK' => ?_
  unfold Oper.wp
  rw [h, Oper.upon_enter]
  refine hc.mono fun e w' hr => ?_
  obtain ⟨v, rfl, hr⟩ := hr
  exact hK v w' hr K hK'
end
set_option maxRecDepth 100000 in
theorem objBase (A : Option Addr) (n cn : Nat) (hcn : n ≤ cn) (f : Nat → O) (hn : n ≤ 4000) (t i : Int) (w : World) (hA : Objs w A n f) (h : NmW w) :
    Calls Tryd.prog 7 #[.slice A n cn, .int .i64 t, .int .i64 i] w fun e w' => e = .returned (.int .i64 (bsP f t (upTo n i))) ∧ Below w.heap.size w w' := by
  obtain ⟨m, hm⟩ : ∃ m, Hid (upTo n i = m) := ⟨_, rfl⟩
  have hmn : m ≤ n := by have := hm.out; unfold upTo at this; omega
  rw [hm.out]
  go_enter Tryd.func7, Tryd.ntmps7
  go_upto_region 2 with (fail)
  go_cut [16, 17, 18] (fun s16 s17 s18 wx => s16 = .slice A m cn ∧ s17 = .int .i64 m ∧ s18 = .int .i64 0 ∧ wx = w)
  case first =>
    have hm' := hm.out
    unfold upTo at hm'
    by_cases h1 : i < 0
    · obtain rfl : m = 0 := by omega
      clear hm' hm
      have l0 : (0 : Int) ≤ cn := by omega
      have l1 : ¬ (n : Int) < i := by omega
      have e1 : min i (n : Int) = i := by omega
      have e2 : max i 0 = 0 := by omega
      go_wp2_with (fail)
      go_meet
      exact ⟨rfl, rfl, rfl, rfl⟩
    · obtain ⟨j, rfl⟩ : ∃ j : Nat, i = j := ⟨i.toNat, by omega⟩
      by_cases h2 : j ≤ n
      · obtain rfl : m = j := by omega
        clear hm' hm h1
        have l0 : (m : Int) ≤ cn := by omega
        have l1 : (0 : Int) ≤ m := by omega
        have e1 : min (m : Int) (n : Int) = m := by omega
        have e2 : max (m : Int) 0 = m := by omega
        go_wp2_with (fail)
        go_meet
        exact ⟨rfl, rfl, rfl, rfl⟩
      · obtain rfl : m = n := by omega
        clear hm' hm h1
        have l0 : (m : Int) ≤ cn := by omega
        have l1 : (0 : Int) ≤ m := by omega
        have e1 : min (j : Int) (m : Int) = m := by omega
        have e2 : max (m : Int) 0 = m := by omega
        go_wp2_with (fail)
        go_meet
        exact ⟨rfl, rfl, rfl, rfl⟩
  case rest =>
    obtain ⟨rfl, rfl, rfl, hwx⟩ := hcut
    obtain ⟨w0, hw0⟩ : ∃ x, x = wc := ⟨_, rfl⟩
    subst hw0
    subst hwx
    go_upto_region 3 with (fail)
    go_loopw [7, 18] (fun s k wr => ∃ k' : Nat, k' ≤ m ∧ k = .int .i64 k' ∧ s = .int .i64 (bsP f t k') ∧ Below w0.heap.size w0 wr) (fun _ k _ => m - (intOf k).toNat)
    case atStart => exact ⟨0, by omega, rfl, rfl, Below.refl _ _⟩
    case round =>
      obtain ⟨k, hk, rfl, rfl, hb⟩ := hrel
      by_cases hlt : k < m
      · have hl : (k : Int) < m := by omega
        have hl0 : (0 : Int) ≤ k := by omega
        have hln : (k : Int) < n := by omega
        have hkn : k < n := by omega
        obtain ⟨b, off, rfl⟩ := objs_ptr hA (by omega)
        have hs1 := bsP_le f t k
        have hs2 := szP_le (f k) t
        go_upto_region 4 with (fail)
        refine wp_region_lit ?_
        refine wl_val rfl (.pointer (some ⟨b, off + k * 4, none⟩)) ?_ ?_
        · go_simp
        intro K hK
        go_simp
        refine hK _ _ ?_
        clear hK K
        refine wl_val rfl (ov (f k)) (run_ldobj (.tmp 20) rfl b off k hA hb hkn rfl) ?_
        intro K hK
        go_simp
        refine hK _ _ ?_
        clear hK K
        refine wl_alloc rfl 27 rfl (.agg #[.int .i64 0, .int .i64 0, .int .i64 0, .int .i64 0]) #[.int .i64 0, .int .i64 0, .int .i64 0, .int .i64 0] (fun w => by kernel_rfl) rfl (fun w4 b9 X4 l4 f4 => ?_)
        intro K hK
        go_simp
        refine hK _ _ ?_
        clear hK K
        refine wl_store rfl 27 (.tmp 9) (.tmp 21) rfl b9 #[.int .i64 (f k).k, .int .i64 (f k).n, .int .i64 (f k).a, .int .i64 (f k).b] rfl rfl 27 _ X4 (by kernel_rfl) rfl (by simp [Value.oneCell']) (fun w5 g1 g2 g3 f5 => ?_)
        intro K hK
        go_simp
        refine hK _ _ ?_
        clear hK K
        have hb5 : Below w0.heap.size w0 w5 := (hb.trans (l4.mono hb.size)).trans (g3 _ (by simp only [Hid] at f4; have := hb.size; omega))
        clear X4 l4 f4 g2 g3 f5
        go_upto_region 5 with (fail)
        refine wp_region_lit ?_
        refine wl_val rfl (.int .i64 (bsP f t k)) ?_ ?_
        · go_simp
        intro K hK
        go_simp
        refine hK _ _ ?_
        clear hK K
        have hlo : ∀ (a : Act) (o : Oper), o.op = .load 27 (.tmp 9) → a.eval (.tmp 9) = .pointer (some ⟨b9, 0, none⟩) → (execOp a.eval o).run Tryd.prog w5 = .ok (.value (ov (f k))) w5 := fun a o ho hx => by
          unfold execOp
          simp only [ho, hx, Instr.loadAt, Instr.sureAddr, Sem.run_bind, Sem.run_pure, Result.andThen_ok, run_loadVar_row w5 b9 27 27 _ _ _ g1 Tryd.underlying27 rfl (by kernel_rfl)]
          rfl
        refine wl_val rfl (ov (f k)) (hlo _ _ rfl rfl) ?_
        intro K hK
        go_simp
        refine hK _ _ ?_
        clear hK K
        refine wl_val rfl (.int .i64 t) ?_ ?_
        · go_simp
        intro K hK
        go_simp
        refine hK _ _ ?_
        clear hK K
        refine wl_call rfl 9 #[ov (f k), .int .i64 t] (.int .i64 (szP (f k) t)) _ ?_ (objSize (f k) t w5 (h.below hb5)) (fun w6 hb6 => ?_)
        · first | (go_simp; done) | (go_simp; rfl)
        intro K hK
        go_simp
        refine hK _ _ ?_
        clear hK K
        replace hb5 := hb5.trans (hb6.mono hb5.size)
        clear hlo g1 hb6
        refine wl_val rfl (.int .i64 (bsP f t (k + 1))) ?_ ?_
        · go_simp; try (simp only [bsP, IntKind.wrap_i64]; omega)
        intro K hK
        go_simp
        refine hK _ _ ?_
        clear hK K
        refine wl_val rfl (.int .i64 (bsP f t (k + 1))) ?_ ?_
        · go_simp
        intro K hK
        go_simp
        refine hK _ _ ?_
        clear hK K
        go_wp2
        go_roundw
        case rel => exact ⟨k + 1, by omega, by go_num, rfl, hb5⟩
        case measure => simp [intOf]; omega
      · have hl : ¬ (k : Int) < m := by omega
        have hkm : k = m := by omega
        subst hkm
        go_wp2
        go_ret
        exact ⟨rfl, hb⟩
set_option maxRecDepth 100000 in
theorem refBase (A : Option Addr) (n cn : Nat) (f : Nat → O) (hn : n ≤ 4000) (t i : Int) (w : World) (hA : Objs w A n f) :
    Calls Tryd.prog 8 #[.slice A n cn, .int .i64 t, .int .i64 i] w fun e w' => e = .returned (.int .i64 (bsP f t (upTo n i))) ∧ Below w.heap.size w w' := by
  obtain ⟨m, hm⟩ : ∃ m, Hid (upTo n i = m) := ⟨_, rfl⟩
  have hmn : m ≤ n := by have := hm.out; unfold upTo at this; omega
  rw [hm.out]
  have hm' := hm.out
  unfold upTo at hm'
  have hmi : ∀ k : Nat, k < m → (k : Int) < i := fun k hk => by omega
  have hmi' : m < n → ¬ (m : Int) < i := fun hk => by omega
  clear hm hm'
  go_enter Tryd.func8, Tryd.ntmps8
  go_upto_region 3 with (fail)
  go_loopw [7, 8] (fun s k wr => ∃ k' : Nat, k' ≤ m ∧ k = .int .i64 k' ∧ s = .int .i64 (bsP f t k') ∧ Below w.heap.size w wr) (fun _ k _ => m - (intOf k).toNat)
  case atStart => exact ⟨0, by omega, rfl, rfl, Below.refl _ _⟩
  case round =>
    obtain ⟨k, hk, rfl, rfl, hb⟩ := hrel
    by_cases hlt : k < m
    · have hl : (k : Int) < n := by omega
      have hl0 : (0 : Int) ≤ k := by omega
      have hli := hmi k hlt
      have hkn : k < n := by omega
      obtain ⟨b, off, rfl⟩ := objs_ptr hA (by omega)
      have hs1 := bsP_le f t k
      have hs2 := szP_le (f k) t
      clear hmi hmi'
      go_upto_region 5 with (fail)
      refine wp_region_lit ?_
      iterate 2
        refine wl_val rfl ?_ ?_ ?_
        rotate_left
        · go_simp; try with_reducible rfl
        intro K hK
        go_simp
        refine hK _ _ ?_
        clear hK K
      refine wl_val rfl (.pointer (some ⟨b, off + k * 4, none⟩)) ?_ ?_
      · go_simp
      intro K hK
      go_simp
      refine hK _ _ ?_
      clear hK K
      refine wl_val rfl (ov (f k)) (run_ldobj (.tmp 22) rfl b off k hA hb hkn rfl) ?_
      intro K hK
      go_simp
      refine hK _ _ ?_
      clear hK K
      iterate 1
        refine wl_val rfl ?_ ?_ ?_
        rotate_left
        · go_simp; try with_reducible rfl
        intro K hK
        go_simp
        refine hK _ _ ?_
        clear hK K
      refine wl_call rfl 10 #[ov (f k), .int .i64 t] (.bool (rb (f k) t)) _ ?_ (refRight (f k) t wr) (fun w6 hb6 => ?_)
      · first | (go_simp; done) | (go_simp; rfl)
      intro K hK
      go_simp
      refine hK _ _ ?_
      clear hK K
      replace hb := hb.trans (hb6.mono hb.size)
      clear hb6
      by_cases hR : RP (f k) t
      · rw [rb_t hR]
        have h1 := hR.1
        obtain ⟨t, rfl⟩ : ∃ j : Nat, t = j := ⟨t.toNat, by omega⟩
        have hsz : szP (f k) t = (firstL (f k) t).length := by unfold szP; rw [if_pos hR, Int.toNat_natCast]
        go_upto_region 6 with (fail)
        refine wp_region_lit ?_
        refine wl_val rfl (.int .i64 (bsP f t k)) ?_ ?_
        · go_simp
        intro K hK
        go_simp
        refine hK _ _ ?_
        clear hK K
        iterate 2
          refine wl_val rfl ?_ ?_ ?_
          rotate_left
          · go_simp; try with_reducible rfl
          intro K hK
          go_simp
          refine hK _ _ ?_
          clear hK K
        refine wl_val rfl (.pointer (some ⟨b, off + k * 4, none⟩)) ?_ ?_
        · go_simp
        intro K hK
        go_simp
        refine hK _ _ ?_
        clear hK K
        refine wl_val rfl (ov (f k)) (run_ldobj (.tmp 29) rfl b off k hA hb hkn rfl) ?_
        intro K hK
        go_simp
        refine hK _ _ ?_
        clear hK K
        iterate 1
          refine wl_val rfl ?_ ?_ ?_
          rotate_left
          · go_simp; try with_reducible rfl
          intro K hK
          go_simp
          refine hK _ _ ?_
          clear hK K
        refine wl_calls rfl 16 #[ov (f k), .int .i64 t] (fun v w' => ∃ V c, v = .slice V (szP (f k) t) c ∧ Below w6.heap.size w6 w') ?_ ((refFirst (f k) t hR w6).mono fun e w' hh => by obtain ⟨V, c, h1, _, h3⟩ := hh; exact ⟨_, h1, V, c, by rw [hsz], h3⟩) (fun v w7 hd => ?_)
        · first | (go_simp; done) | (go_simp; rfl)
        obtain ⟨V, c, rfl, hb7⟩ := hd
        replace hb := hb.trans (hb7.mono hb.size)
        clear hb7
        intro K hK
        go_simp
        refine hK _ _ ?_
        clear hK K
        refine wl_val rfl (.int .i64 (szP (f k) t)) ?_ ?_
        · go_simp
        intro K hK
        go_simp
        refine hK _ _ ?_
        clear hK K
        refine wl_val rfl (.int .i64 (bsP f t (k + 1))) ?_ ?_
        · go_simp; try (simp only [bsP, IntKind.wrap_i64]; omega)
        intro K hK
        go_simp
        refine hK _ _ ?_
        clear hK K
        refine wl_val rfl (.int .i64 (bsP f t (k + 1))) ?_ ?_
        · go_simp
        intro K hK
        go_simp
        refine hK _ _ ?_
        clear hK K
        go_wp2
        go_roundw
        case rel => exact ⟨k + 1, by omega, by go_num, rfl, hb⟩
        case measure => simp [intOf]; omega
      · rw [rb_f hR]
        have hsz : szP (f k) t = 0 := by unfold szP; rw [if_neg hR]
        go_wp2
        go_roundw
        case rel => exact ⟨k + 1, by omega, by go_num, by simp only [bsP, hsz, Nat.add_zero], hb⟩
        case measure => simp [intOf]; omega
    · have hkm : k = m := by omega
      subst hkm
      by_cases hln : k < n
      · have hl : (k : Int) < n := by omega
        have hli := hmi' hln
        clear hmi hmi'
        go_wp2
        go_ret
        exact ⟨rfl, hb⟩
      · have hl : ¬ (k : Int) < n := by omega
        clear hmi hmi'
        go_wp2
        go_ret
        exact ⟨rfl, hb⟩
end Go.Proofs.YtemhcdlhhpckmaaDoor
