/- The law AbsIdle, walked. -/
import Derived.Test.YtobkonbpcnmgpaaDoorPlain
namespace Go.Proofs.YtobkonbpcnmgpaaDoor
open Go.RowKit
set_option linter.unusedVariables false
set_option linter.unusedSimpArgs false
set_option maxRecDepth 100000 in
set_option maxHeartbeats 16000000 in
theorem idle_walk (Ad : Option Addr) (n cn : Nat) (f : Nat → O) (V : Option Addr) (nc cc : Nat) (fA : Nat → Ak) (x2 : Ak) (hx2 : 0 ≤ x2.arg ∧ x2.arg < 4294967296) (w : World) (hA : Objs w Ad n f) (hV : Asks w V nc fA) (hN : NmW w) :
    Calls Tryd.prog 5 #[.slice Ad n cn, .slice V nc cc, akV x2] w fun e w' => e = .returned (.bool true) ∧ Below w.heap.size w w' := by
  unfold akV
  go_enter Tryd.func5, Tryd.ntmps5
  go_upto_region 1 with (fail)
  obtain ⟨W, b5, e0, e1, X5, hal⟩ := box1 w (akC x2) 34
  rw [e0, e1]
  have hz5 : w.heap.size ≤ b5 := Nat.le_of_eq e1
  clear e0 e1
  go_wp2_with fail
  refine (awake W (hN.below hal)).mono ?_
  rintro e w1 ⟨rfl, hb1⟩
  replace X5 := keep X5 hb1
  replace hal := hal.trans (hb1.mono hal.size)
  clear hb1
  go_wp2_with fail
  refine (longC Ad n cn w1).mono ?_
  rintro e w2 ⟨rfl, hb2⟩
  replace X5 := keep X5 hb2
  replace hal := hal.trans (hb2.mono hal.size)
  clear hb2
  by_cases h20 : 20 < n
  · rw [decide_eq_true h20]
    go_wp2_with fail
    refine (awake w2 (hN.below hal)).mono ?_
    rintro e wz ⟨rfl, hbz⟩
    replace hal := hal.trans (hbz.mono hal.size)
    go_wp2
    go_ret
    exact ⟨rfl, hal⟩
  rw [decide_eq_false h20]
  by_cases hl : 200 < nc
  · have hl' : 200 < (nc : Int) := by omega
    go_wp2_with fail
    refine (awake w2 (hN.below hal)).mono ?_
    rintro e wz ⟨rfl, hbz⟩
    replace hal := hal.trans (hbz.mono hal.size)
    go_wp2
    go_ret
    exact ⟨rfl, hal⟩
  have hl' : ¬ 200 < (nc : Int) := by omega
  go_wp2_with fail
  refine (rightC Ad n cn f (by omega) 4 w2 (hA.below hal)).mono ?_
  rintro e w3 ⟨rfl, hb3⟩
  replace X5 := keep X5 hb3
  replace hal := hal.trans (hb3.mono hal.size)
  clear hb3
  by_cases hnew : newOk f n 4
  case neg =>
    rw [show rOk f n 4 = false from decide_eq_false hnew]
    go_wp2_with fail
    refine (awake w3 (hN.below hal)).mono ?_
    rintro e wz ⟨rfl, hbz⟩
    replace hal := hal.trans (hbz.mono hal.size)
    go_wp2
    go_ret
    exact ⟨rfl, hal⟩
  rw [show rOk f n 4 = true from decide_eq_true hnew]
  go_wp2_with fail
  refine (newA Ad n cn f (by omega) 4 w3 (hA.below hal) (hN.below hal)).mono ?_
  rintro e w4 ⟨hbn, hok, -⟩
  obtain ⟨bM, gM, capM, rfl, hM, hzM, hgM⟩ := hok hnew
  have hzM' : w.heap.size ≤ bM := by have := hal.size; omega
  have h5M : b5 < bM := by have := blk_lt X5; omega
  replace X5 := keep X5 hbn
  replace hal := hal.trans (hbn.mono hal.size)
  clear hbn hok hzM
  go_wp2_with fail
  refine (newA Ad n cn f (by omega) 4 w4 (hA.below hal) (hN.below hal)).mono ?_
  rintro e w5 ⟨hbn, hok, -⟩
  obtain ⟨bN, gN, capN, rfl, hMN, hzN, hgN⟩ := hok hnew
  have hMN' : gM < bN := by have := hM.glt; omega
  replace X5 := keep X5 hbn
  replace hM := hM.below hbn
  replace hal := hal.trans (hbn.mono hal.size)
  clear hbn hok hzN
  go_upto_region 8 with (fail)
  obtain ⟨S0, hS0⟩ : ∃ S0 : Nat → St, Hid (S0 = fun i => initS (f i)) := ⟨_, rfl⟩
  rw [← hS0.out] at hM hMN
  go_loopw [11] (fun v wr => ∃ (i : Nat), v = .int .i64 i ∧ i ≤ nc ∧ MacA wr bM gM n capM 4 (run 4 n fA S0 i) ∧ MacA wr bN gN n capN 4 (run 4 n fA S0 i) ∧ wr.heap[b5]? = some (.cells (akC x2) 34 (0, 0)) ∧ Below w.heap.size w wr) (fun v _ => nc - (intOf v).toNat)
  case atStart => exact ⟨0, rfl, Nat.zero_le _, hM, hMN, X5, hal⟩
  case round =>
    clear hM hMN X5 hal
    obtain ⟨i, rfl, hi, hM, hMN, X5, hal⟩ := hrel
    by_cases hlt : i < nc
    case neg =>
      obtain rfl : i = nc := by omega
      have hl1 : ¬ ((i : Int) < i) := by omega
      go_wp2
      go_ret
      exact ⟨rfl, hal⟩
    have hl0 : (0 : Int) ≤ i := by omega
    have hl1 : (i : Int) < nc := by omega
    obtain ⟨bV, oV, rfl⟩ := ask_ptr hV (by omega)
    have hxa : ∀ k, k < nc → 0 ≤ (fA k).arg ∧ (fA k).arg < 4294967296 := fun k hk => ⟨(at_ask hV hk).2.1, by have := (at_ask hV hk).2.2; omega⟩
    go_upto_region 10 with (fail)
    refine wp_region_lit ?_
    iterate 3
      refine wl_val rfl ?_ ?_ ?_
      rotate_left
      · go_simp; try with_reducible rfl
      intro K hK
      go_simp
      refine hK _ _ ?_
      clear hK K
    refine wl_val rfl (.pointer (some ⟨bV, oV + i * 6, none⟩)) ?_ ?_
    · go_simp
    intro K hK
    go_simp
    refine hK _ _ ?_
    clear hK K
    refine wl_val rfl (akV (fA i)) (run_ldask (.tmp 72) rfl bV oV i (hV.below hal) hlt rfl) ?_
    intro K hK
    go_simp
    refine hK _ _ ?_
    clear hK K
    have hcall := doAll (bM := bM) (g := gM) (n := n) (cap := capM) (t := 4) (S := (run 4 n fA S0 i)) (by omega) (fA i) (hxa i hlt) wr hM
    obtain ⟨p, hp⟩ : ∃ p, Hid (p = mac 4 n (run 4 n fA S0 i) (fA i)) := ⟨_, rfl⟩
    rw [← hp.out] at hcall
    refine wl_calls rfl 14 #[.pointer (some ⟨bM, 0, none⟩), akV (fA i)] (fun v w' => ∃ V c, v = ansV p.r V p.dn c p.ok ∧ DatA w' V p.dn p.dat ∧ (∀ b, V = some ⟨b, 0, none⟩ → wr.heap.size ≤ b) ∧ MacA w' bM gM n capM 4 p.S ∧ Exc gM wr w') ?_ (hcall.mono fun e w' hh => by
      obtain ⟨⟨V, c, e1, e2, e3⟩, hh1, hh2⟩ := hh
      exact ⟨_, e1, V, c, rfl, e2, e3, hh1, hh2⟩) (fun v w6 hd => ?_)
    · unfold akV akC; first | (go_simp; done) | (go_simp; rfl)
    clear hcall
    obtain ⟨Va, ca, rfl, hDa, hVa, hM6a, hE6a⟩ := hd
    intro K hK
    go_simp
    refine hK _ _ ?_
    clear hK K
    unfold ansV
    iterate 3
      refine wl_val rfl ?_ ?_ ?_
      rotate_left
      · go_simp; try with_reducible rfl
      intro K hK
      go_simp
      refine hK _ _ ?_
      clear hK K
    refine wl_alloc rfl 38 rfl (.agg #[.int .u32 0, .slice none 0 0]) #[.int .u32 0, .slice none 0 0] (fun w => by kernel_rfl) rfl (fun w7 b12 X13 l7 f7 => ?_)
    intro K hK
    go_simp
    refine hK _ _ ?_
    clear hK K
    refine wl_store rfl 38 (.tmp 12) (.tmp 75) rfl b12 #[.int .u32 p.r, .slice Va p.dn ca] rfl rfl 38 _ X13 (by kernel_rfl) rfl (by simp [Value.oneCell']) (fun w8 k1a k2 k3 k4 => ?_)
    intro K hK
    go_simp
    refine hK _ _ ?_
    clear hK K
    refine wl_val rfl (.bool p.ok) ?_ ?_
    · go_simp
    intro K hK
    go_simp
    refine hK _ _ ?_
    clear hK K
    have hb8a : Below w6.heap.size w6 w8 := l7.trans (k3 _ (by simp only [Hid] at f7; omega))
    have hz13a : w6.heap.size ≤ b12 := by simp only [Hid] at f7; omega
    clear X13 l7 f7 k2 k3 k4
    have hu : run 4 n fA S0 (i + 1) = p.S := by rw [hp.out]; rfl
    replace X5 := (hE6a.blk b5 (blk_lt X5) (by omega)).trans X5
    replace X5 := keep X5 hb8a
    replace hMN := hMN.exc hE6a hM.g0 (by omega) (by omega)
    have hn12 : gN < b12 := by have := hMN.glt; omega
    replace hMN := hMN.below hb8a
    replace hM := hM6a.below hb8a
    replace hal := hal.trans (hE6a.low _ (by omega) hal.size)
    replace hal := hal.trans (hb8a.mono hal.size)
    clear hM6a hE6a hb8a hDa hVa hz13a
    go_upto_region 11 with (fail)
    refine wp_region_lit ?_
    iterate 3
      refine wl_val rfl ?_ ?_ ?_
      rotate_left
      · go_simp; try with_reducible rfl
      intro K hK
      go_simp
      refine hK _ _ ?_
      clear hK K
    refine wl_val rfl (.pointer (some ⟨bV, oV + i * 6, none⟩)) ?_ ?_
    · go_simp
    intro K hK
    go_simp
    refine hK _ _ ?_
    clear hK K
    refine wl_val rfl (akV (fA i)) (run_ldask (.tmp 81) rfl bV oV i (hV.below hal) hlt rfl) ?_
    intro K hK
    go_simp
    refine hK _ _ ?_
    clear hK K
    have hcall := doAll (bM := bN) (g := gN) (n := n) (cap := capN) (t := 4) (S := (run 4 n fA S0 i)) (by omega) (fA i) (hxa i hlt) w8 hMN
    obtain ⟨q, hq⟩ : ∃ q, Hid (q = mac 4 n (run 4 n fA S0 i) (fA i)) := ⟨_, rfl⟩
    rw [← hq.out] at hcall
    refine wl_calls rfl 14 #[.pointer (some ⟨bN, 0, none⟩), akV (fA i)] (fun v w' => ∃ V c, v = ansV q.r V q.dn c q.ok ∧ DatA w' V q.dn q.dat ∧ (∀ b, V = some ⟨b, 0, none⟩ → w8.heap.size ≤ b) ∧ MacA w' bN gN n capN 4 q.S ∧ Exc gN w8 w') ?_ (hcall.mono fun e w' hh => by
      obtain ⟨⟨V, c, e1, e2, e3⟩, hh1, hh2⟩ := hh
      exact ⟨_, e1, V, c, rfl, e2, e3, hh1, hh2⟩) (fun v w9 hd => ?_)
    · unfold akV akC; first | (go_simp; done) | (go_simp; rfl)
    clear hcall
    obtain ⟨Vb, cb, rfl, hDb, hVb, hM6b, hE6b⟩ := hd
    intro K hK
    go_simp
    refine hK _ _ ?_
    clear hK K
    unfold ansV
    iterate 3
      refine wl_val rfl ?_ ?_ ?_
      rotate_left
      · go_simp; try with_reducible rfl
      intro K hK
      go_simp
      refine hK _ _ ?_
      clear hK K
    refine wl_alloc rfl 38 rfl (.agg #[.int .u32 0, .slice none 0 0]) #[.int .u32 0, .slice none 0 0] (fun w => by kernel_rfl) rfl (fun w7 b14 X13 l7 f7 => ?_)
    intro K hK
    go_simp
    refine hK _ _ ?_
    clear hK K
    refine wl_store rfl 38 (.tmp 14) (.tmp 84) rfl b14 #[.int .u32 q.r, .slice Vb q.dn cb] rfl rfl 38 _ X13 (by kernel_rfl) rfl (by simp [Value.oneCell']) (fun w10 k1b k2 k3 k4 => ?_)
    intro K hK
    go_simp
    refine hK _ _ ?_
    clear hK K
    refine wl_val rfl (.bool q.ok) ?_ ?_
    · go_simp
    intro K hK
    go_simp
    refine hK _ _ ?_
    clear hK K
    have hb8b : Below w9.heap.size w9 w10 := l7.trans (k3 _ (by simp only [Hid] at f7; omega))
    have hz13b : w9.heap.size ≤ b14 := by simp only [Hid] at f7; omega
    clear X13 l7 f7 k2 k3 k4
    obtain rfl : q = p := hq.out.trans hp.out.symm
    clear hp hq
    replace X5 := (hE6b.blk b5 (blk_lt X5) (by omega)).trans X5
    replace X5 := keep X5 hb8b
    replace k1a := (hE6b.blk b12 (blk_lt k1a) (by omega)).trans k1a
    replace k1a := keep k1a hb8b
    replace hM := (hM.exc hE6b hMN.g0 (by omega) (by omega)).below hb8b
    replace hMN := hM6b.below hb8b
    replace hal := hal.trans (hE6b.low _ (by omega) hal.size)
    replace hal := hal.trans (hb8b.mono hal.size)
    clear hM6b hE6b hb8b hDb hVb hz13b
    rw [← hu] at hM hMN
    clear hu
    obtain ⟨S', r, ok, dn, dat⟩ := q
    simp only at k1a k1b
    have y120 := cell_of_row w10 b12 0 _ 38 _ k1a
    have y121 := cell_of_row w10 b12 1 _ 38 _ k1a
    have y140 := cell_of_row w10 b14 0 _ 38 _ k1b
    have y141 := cell_of_row w10 b14 1 _ 38 _ k1b
    go_wp2_with fail
    clear y120 y121 y140 y141 k1a k1b
    refine (newA Ad n cn f (by omega) 4 w10 (hA.below hal) (hN.below hal)).mono ?_
    rintro e w11 ⟨hbn, hok, -⟩
    obtain ⟨bP, gP, capP, rfl, hMP, hzP, hgP⟩ := hok hnew
    rw [← hS0.out] at hMP
    have hMP' : gN < bP := by have := hMN.glt; omega
    replace X5 := keep X5 hbn
    replace hM := hM.below hbn
    replace hMN := hMN.below hbn
    replace hal := hal.trans (hbn.mono hal.size)
    clear hbn hok hzP
    go_upto_region 18 with (fail)
    go_loopw [18] (fun v wq => ∃ (k : Nat), v = .int .i64 k ∧ k ≤ i + 1 ∧ MacA wq bP gP n capP 4 (run 4 n fA S0 k) ∧ MacA wq bM gM n capM 4 (run 4 n fA S0 (i + 1)) ∧ MacA wq bN gN n capN 4 (run 4 n fA S0 (i + 1)) ∧ wq.heap[b5]? = some (.cells (akC x2) 34 (0, 0)) ∧ Below w.heap.size w wq) (fun v _ => (i + 1) - (intOf v).toNat)
    case atStart => exact ⟨0, rfl, Nat.zero_le _, hMP, hM, hMN, X5, hal⟩
    case round =>
      clear hM hMN hMP X5 hal
      obtain ⟨k, rfl, hk, hMP, hM, hMN, X5, hal⟩ := hrel
      by_cases hlk : k ≤ i
      case pos =>
        have hk0 : (0 : Int) ≤ k := by omega
        have hk1 : (k : Int) ≤ i := by omega
        have hk2 : (k : Int) < nc := by omega
        have hk3 : k < nc := by omega
        go_upto_region 20 with (fail)
        refine wp_region_lit ?_
        iterate 3
          refine wl_val rfl ?_ ?_ ?_
          rotate_left
          · go_simp; try with_reducible rfl
          intro K hK
          go_simp
          refine hK _ _ ?_
          clear hK K
        refine wl_val rfl (.pointer (some ⟨bV, oV + k * 6, none⟩)) ?_ ?_
        · go_simp
        intro K hK
        go_simp
        refine hK _ _ ?_
        clear hK K
        refine wl_val rfl (akV (fA k)) (run_ldask (.tmp 124) rfl bV oV k (hV.below hal) hk3 rfl) ?_
        intro K hK
        go_simp
        refine hK _ _ ?_
        clear hK K
        have hcall := doAll (bM := bP) (g := gP) (n := n) (cap := capP) (t := 4) (S := (run 4 n fA S0 k)) (by omega) (fA k) (hxa k hk3) wr hMP
        obtain ⟨p, hp⟩ : ∃ p, Hid (p = mac 4 n (run 4 n fA S0 k) (fA k)) := ⟨_, rfl⟩
        rw [← hp.out] at hcall
        refine wl_calls rfl 14 #[.pointer (some ⟨bP, 0, none⟩), akV (fA k)] (fun v w' => ∃ V c, v = ansV p.r V p.dn c p.ok ∧ DatA w' V p.dn p.dat ∧ (∀ b, V = some ⟨b, 0, none⟩ → wr.heap.size ≤ b) ∧ MacA w' bP gP n capP 4 p.S ∧ Exc gP wr w') ?_ (hcall.mono fun e w' hh => by
          obtain ⟨⟨V, c, e1, e2, e3⟩, hh1, hh2⟩ := hh
          exact ⟨_, e1, V, c, rfl, e2, e3, hh1, hh2⟩) (fun v w12 hd => ?_)
        · unfold akV akC; first | (go_simp; done) | (go_simp; rfl)
        clear hcall
        obtain ⟨Vc, cc, rfl, hDc, hVc, hM6c, hE6c⟩ := hd
        intro K hK
        go_simp
        refine hK _ _ ?_
        clear hK K
        unfold ansV
        have hu : run 4 n fA S0 (k + 1) = p.S := by rw [hp.out]; rfl
        rw [← hu] at hM6c
        replace X5 := (hE6c.blk b5 (blk_lt X5) (by omega)).trans X5
        replace hM := hM.exc hE6c hMP.g0 (by omega) (by omega)
        replace hMN := hMN.exc hE6c hMP.g0 (by omega) (by omega)
        replace hal := hal.trans (hE6c.low _ (by omega) hal.size)
        clear hE6c hDc hVc hp hu
        go_wp2
        go_roundw
        case rel => exact ⟨k + 1, by go_num, by omega, hM6c, hM, hMN, X5, hal⟩
        case measure => simp [intOf]; omega
      obtain rfl : k = i + 1 := by omega
      have hk1 : ¬ (((i + 1 : Nat) : Int) ≤ i) := by omega
      clear hk hlk
      obtain ⟨i1, hi1⟩ : ∃ i1 : Nat, Hid (i1 = i + 1) := ⟨_, rfl⟩
      rw [← hi1.out] at hM hMN hMP hk1 ⊢
      go_upto_region 21 with (fail)
      refine wp_region_lit ?_
      iterate 1
        refine wl_val rfl ?_ ?_ ?_
        rotate_left
        · go_simp; try with_reducible rfl
        intro K hK
        go_simp
        refine hK _ _ ?_
        clear hK K
      refine wl_load rfl 34 (.tmp 5) rfl _ rfl _ _ _ _ X5 Tryd.underlying34 rfl (by kernel_rfl) ?_
      intro K hK
      go_simp
      refine hK _ _ ?_
      clear hK K
      have hcall := doAll (bM := bP) (g := gP) (n := n) (cap := capP) (t := 4) (S := (run 4 n fA S0 i1)) (by omega) x2 hx2 wr hMP
      obtain ⟨p, hp⟩ : ∃ p, Hid (p = mac 4 n (run 4 n fA S0 i1) x2) := ⟨_, rfl⟩
      rw [← hp.out] at hcall
      refine wl_calls rfl 14 #[.pointer (some ⟨bP, 0, none⟩), akV x2] (fun v w' => ∃ V c, v = ansV p.r V p.dn c p.ok ∧ DatA w' V p.dn p.dat ∧ (∀ b, V = some ⟨b, 0, none⟩ → wr.heap.size ≤ b) ∧ MacA w' bP gP n capP 4 p.S ∧ Exc gP wr w') ?_ (hcall.mono fun e w' hh => by
        obtain ⟨⟨V, c, e1, e2, e3⟩, hh1, hh2⟩ := hh
        exact ⟨_, e1, V, c, rfl, e2, e3, hh1, hh2⟩) (fun v w13 hd => ?_)
      · unfold akV akC; first | (go_simp; done) | (go_simp; rfl)
      clear hcall
      obtain ⟨Vd, cd, rfl, hDd, hVd, hM6d, hE6d⟩ := hd
      intro K hK
      go_simp
      refine hK _ _ ?_
      clear hK K
      unfold ansV
      iterate 3
        refine wl_val rfl ?_ ?_ ?_
        rotate_left
        · go_simp; try with_reducible rfl
        intro K hK
        go_simp
        refine hK _ _ ?_
        clear hK K
      refine wl_alloc rfl 38 rfl (.agg #[.int .u32 0, .slice none 0 0]) #[.int .u32 0, .slice none 0 0] (fun w => by kernel_rfl) rfl (fun w7 b19 X13 l7 f7 => ?_)
      intro K hK
      go_simp
      refine hK _ _ ?_
      clear hK K
      refine wl_store rfl 38 (.tmp 19) (.tmp 131) rfl b19 #[.int .u32 p.r, .slice Vd p.dn cd] rfl rfl 38 _ X13 (by kernel_rfl) rfl (by simp [Value.oneCell']) (fun w14 k1d k2 k3 k4 => ?_)
      intro K hK
      go_simp
      refine hK _ _ ?_
      clear hK K
      refine wl_val rfl (.bool p.ok) ?_ ?_
      · go_simp
      intro K hK
      go_simp
      refine hK _ _ ?_
      clear hK K
      have hb8d : Below w13.heap.size w13 w14 := l7.trans (k3 _ (by simp only [Hid] at f7; omega))
      have hz13d : w13.heap.size ≤ b19 := by simp only [Hid] at f7; omega
      clear X13 l7 f7 k2 k3 k4
      replace X5 := (hE6d.blk b5 (blk_lt X5) (by omega)).trans X5
      replace X5 := keep X5 hb8d
      replace hM := (hM.exc hE6d hMP.g0 (by omega) (by omega)).below hb8d
      replace hMN := (hMN.exc hE6d hMP.g0 (by omega) (by omega)).below hb8d
      replace hal := hal.trans (hE6d.low _ (by omega) hal.size)
      replace hal := hal.trans (hb8d.mono hal.size)
      clear hM6d hE6d hb8d hDd hVd hz13d hMP
      have y190 := cell_of_row w14 b19 0 _ 38 _ k1d
      clear k1d
      have hid := fun h => (show p.S = run 4 n fA S0 i1 from by rw [hp.out]; exact mac_idle (by rw [← hp.out]; exact h))
      obtain ⟨S', r, ok, dn, dat⟩ := p
      simp only at y190 hid
      cases ok
      · have hS : S' = run 4 n fA S0 i1 := hid (.inl rfl)
        clear hid
        go_upto_region 23 with (fail)
        clear y190
        refine wp_region_lit ?_
        iterate 1
          refine wl_val rfl ?_ ?_ ?_
          rotate_left
          · go_simp; try with_reducible rfl
          intro K hK
          go_simp
          refine hK _ _ ?_
          clear hK K
        refine wl_load rfl 34 (.tmp 5) rfl _ rfl _ _ _ _ X5 Tryd.underlying34 rfl (by kernel_rfl) ?_
        intro K hK
        go_simp
        refine hK _ _ ?_
        clear hK K
        have hcall := doAll (bM := bN) (g := gN) (n := n) (cap := capN) (t := 4) (S := (run 4 n fA S0 i1)) (by omega) x2 hx2 w14 hMN
        obtain ⟨q, hq⟩ : ∃ q, Hid (q = mac 4 n (run 4 n fA S0 i1) x2) := ⟨_, rfl⟩
        rw [← hq.out] at hcall
        refine wl_calls rfl 14 #[.pointer (some ⟨bN, 0, none⟩), akV x2] (fun v w' => ∃ V c, v = ansV q.r V q.dn c q.ok ∧ DatA w' V q.dn q.dat ∧ (∀ b, V = some ⟨b, 0, none⟩ → w14.heap.size ≤ b) ∧ MacA w' bN gN n capN 4 q.S ∧ Exc gN w14 w') ?_ (hcall.mono fun e w' hh => by
          obtain ⟨⟨V, c, e1, e2, e3⟩, hh1, hh2⟩ := hh
          exact ⟨_, e1, V, c, rfl, e2, e3, hh1, hh2⟩) (fun v w15 hd => ?_)
        · unfold akV akC; first | (go_simp; done) | (go_simp; rfl)
        clear hcall
        obtain ⟨Ve, ce, rfl, hDe, hVe, hM6e, hE6e⟩ := hd
        intro K hK
        go_simp
        refine hK _ _ ?_
        clear hK K
        unfold ansV
        have hq2 : q.S = run 4 n fA S0 i1 := by rw [hq.out, ← hp.out]; exact hS
        rw [hq2] at hM6e
        replace X5 := (hE6e.blk b5 (blk_lt X5) (by omega)).trans X5
        replace hM := hM.exc hE6e hMN.g0 (by omega) (by omega)
        replace hal := hal.trans (hE6e.low _ (by omega) hal.size)
        clear hE6e hDe hVe hq hp hS hq2
        rw [hi1.out] at hM hM6e
        go_wp2
        go_roundw
        case rel => exact ⟨i + 1, by go_num, by omega, hM, hM6e, X5, hal⟩
        case measure => simp [intOf]; omega
      · by_cases hr1 : 1 ≤ r
        · by_cases hr4 : r ≤ 4
          · have hS : S' = run 4 n fA S0 i1 := hid (.inr ⟨hr1, hr4⟩)
            clear hid
            go_upto_region 23 with (fail)
            clear y190
            refine wp_region_lit ?_
            iterate 1
              refine wl_val rfl ?_ ?_ ?_
              rotate_left
              · go_simp; try with_reducible rfl
              intro K hK
              go_simp
              refine hK _ _ ?_
              clear hK K
            refine wl_load rfl 34 (.tmp 5) rfl _ rfl _ _ _ _ X5 Tryd.underlying34 rfl (by kernel_rfl) ?_
            intro K hK
            go_simp
            refine hK _ _ ?_
            clear hK K
            have hcall := doAll (bM := bN) (g := gN) (n := n) (cap := capN) (t := 4) (S := (run 4 n fA S0 i1)) (by omega) x2 hx2 w14 hMN
            obtain ⟨q, hq⟩ : ∃ q, Hid (q = mac 4 n (run 4 n fA S0 i1) x2) := ⟨_, rfl⟩
            rw [← hq.out] at hcall
            refine wl_calls rfl 14 #[.pointer (some ⟨bN, 0, none⟩), akV x2] (fun v w' => ∃ V c, v = ansV q.r V q.dn c q.ok ∧ DatA w' V q.dn q.dat ∧ (∀ b, V = some ⟨b, 0, none⟩ → w14.heap.size ≤ b) ∧ MacA w' bN gN n capN 4 q.S ∧ Exc gN w14 w') ?_ (hcall.mono fun e w' hh => by
              obtain ⟨⟨V, c, e1, e2, e3⟩, hh1, hh2⟩ := hh
              exact ⟨_, e1, V, c, rfl, e2, e3, hh1, hh2⟩) (fun v w15 hd => ?_)
            · unfold akV akC; first | (go_simp; done) | (go_simp; rfl)
            clear hcall
            obtain ⟨Ve, ce, rfl, hDe, hVe, hM6e, hE6e⟩ := hd
            intro K hK
            go_simp
            refine hK _ _ ?_
            clear hK K
            unfold ansV
            have hq2 : q.S = run 4 n fA S0 i1 := by rw [hq.out, ← hp.out]; exact hS
            rw [hq2] at hM6e
            replace X5 := (hE6e.blk b5 (blk_lt X5) (by omega)).trans X5
            replace hM := hM.exc hE6e hMN.g0 (by omega) (by omega)
            replace hal := hal.trans (hE6e.low _ (by omega) hal.size)
            clear hE6e hDe hVe hq hp hS hq2
            rw [hi1.out] at hM hM6e
            go_wp2
            go_roundw
            case rel => exact ⟨i + 1, by go_num, by omega, hM, hM6e, X5, hal⟩
            case measure => simp [intOf]; omega
          · clear hid hp
            rw [hi1.out] at hM hMN
            go_wp2
            go_roundw
            case rel => exact ⟨i + 1, by go_num, by omega, hM, hMN, X5, hal⟩
            case measure => simp [intOf]; omega
        · clear hid hp
          rw [hi1.out] at hM hMN
          go_wp2
          go_roundw
          case rel => exact ⟨i + 1, by go_num, by omega, hM, hMN, X5, hal⟩
          case measure => simp [intOf]; omega
end Go.Proofs.YtobkonbpcnmgpaaDoor
