/- The law AbsPlays, walked. -/
import Derived.Test.YtobkonbpcnmgpaaDoorPlaysLaw
import Derived.Test.YtobkonbpcnmgpaaDoorRefDo
import Derived.Test.YtobkonbpcnmgpaaDoorPlain
namespace Go.Proofs.YtobkonbpcnmgpaaDoor
open Go.RowKit
set_option linter.unusedVariables false
set_option linter.unusedSimpArgs false
set_option maxRecDepth 100000 in
set_option maxHeartbeats 32000000 in
theorem plays_walk (Ad : Option Addr) (n cn : Nat) (fO : Nat → O) (t : Int) (V : Option Addr) (nc cc : Nat) (fA : Nat → Ak) (w : World) (hA : Objs w Ad n fO) (hV : Asks w V nc fA) (hN : NmW w) :
    Calls Tryd.prog 3 #[.slice Ad n cn, .int .i64 t, .slice V nc cc] w fun e w' => e = .returned (.bool true) ∧ Below w.heap.size w w' := by
  go_enter Tryd.func3, Tryd.ntmps3
  go_wp2_with fail
  refine (awake w hN).mono ?_
  rintro e w1 ⟨rfl, hal⟩
  go_wp2_with fail
  refine (longC Ad n cn w1).mono ?_
  rintro e w2 ⟨rfl, hb2⟩
  replace hal := hal.trans (hb2.mono hal.size)
  clear hb2
  by_cases h20 : 20 < n
  · rw [decide_eq_true h20]
    go_wp2_with fail
    refine (awake w2 (hN.below hal)).mono ?_
    rintro e wz ⟨rfl, hbz⟩
    replace hal := hal.trans (hbz.mono hal.size)
    go_wp2
    go_ret
    exact ⟨rfl, hal⟩
  rw [decide_eq_false h20]
  by_cases hl : 200 < nc
  · have hl' : 200 < (nc : Int) := by omega
    go_wp2_with fail
    refine (awake w2 (hN.below hal)).mono ?_
    rintro e wz ⟨rfl, hbz⟩
    replace hal := hal.trans (hbz.mono hal.size)
    go_wp2
    go_ret
    exact ⟨rfl, hal⟩
  have hl' : ¬ 200 < (nc : Int) := by omega
  go_wp2_with fail
  refine (newA Ad n cn fO (by omega) t w2 (hA.below hal) (hN.below hal)).mono ?_
  rintro e w3 ⟨hbn, hok, hno⟩
  by_cases hnew : newOk fO n t
  case neg =>
    obtain rfl := hno hnew
    clear hok hno
    replace hal := hal.trans (hbn.mono hal.size)
    clear hbn
    go_wp2_with fail
    refine (rightC Ad n cn fO (by omega) t w3 (hA.below hal)).mono ?_
    rintro e w4 ⟨rfl, hb4⟩
    rw [show rOk fO n t = false from decide_eq_false hnew]
    replace hal := hal.trans (hb4.mono hal.size)
    clear hb4
    go_wp2
    go_ret
    exact ⟨rfl, hal⟩
  obtain ⟨bM, gM, capM, rfl, hM, hzM, hgM⟩ := hok hnew
  clear hok hno
  have hzM' : w.heap.size ≤ bM := by have := hal.size; omega
  replace hal := hal.trans (hbn.mono hal.size)
  clear hbn hzM
  go_wp2_with fail
  refine (rightC Ad n cn fO (by omega) t w3 (hA.below hal)).mono ?_
  rintro e w4 ⟨rfl, hb4⟩
  rw [show rOk fO n t = true from decide_eq_true hnew]
  replace hal := hal.trans (hb4.mono hal.size)
  replace hM := hM.below hb4
  clear hb4
  have ht8 : t ≤ 8 := hnew.2.1
  obtain ⟨bs, hbs⟩ : ∃ bs, Hid (bs = w4.heap.size) := ⟨_, rfl⟩
  have hbs0 : bs ≤ w4.heap.size := Nat.le_of_eq hbs.out
  have hgbs : gM < bs := by rw [hbs.out]; exact hM.glt
  have hbbs : bM < bs := by omega
  have hzs : w.heap.size ≤ bs := by omega
  have hAg : ∀ j, j < n → Ag j t (fO j) (fun _ => ⟨⟨0, 0, 0, 0, 0, 0⟩, 0⟩) 0 (initS (fO j)) := fun j hj => Ag.init j t (fO j) _ (of_decide_eq_true (hnew.2.2 j hj))
  clear hbs
  go_upto_region 10 with (fail)
  go_loopw [9, 10] (fun v u wr => ∃ (i m : Nat) (f : Nat → Stp) (S : Nat → St), u = .int .i64 i ∧ i ≤ nc ∧ m ≤ i ∧ OwnP wr bs v f m ∧ MacA wr bM gM n capM t S ∧ (∀ j, j < n → Ag j t (fO j) f m (S j)) ∧ PutOk f m fO ∧ bs ≤ wr.heap.size ∧ Below w.heap.size w wr) (fun _ u _ => nc - (intOf u).toNat)
  case atStart => exact ⟨0, 0, _, _, rfl, Nat.zero_le _, Nat.le_refl _, ownP_nil _ _ _, hM, hAg, fun j hj => absurd hj (Nat.not_lt_zero j), hbs0, hal⟩
  case round =>
    clear hM hAg hbs0 hal
    obtain ⟨i, m, f, S, rfl, hi, hmi, hO, hM, hAg, hP, hsz, hal⟩ := hrel
    by_cases hlt : i < nc
    case neg =>
      obtain rfl : i = nc := by omega
      have hl1 : ¬ ((i : Int) < i) := by omega
      go_wp2
      go_ret
      exact ⟨rfl, hal⟩
    have hl0 : (0 : Int) ≤ i := by omega
    have hl1 : (i : Int) < nc := by omega
    have hl2 : (i : Int) ≤ 200 := by omega
    have hm4 : m ≤ 4000 := by omega
    obtain ⟨bV, oV, rfl⟩ := ask_ptr hV (by omega)
    have hxa : 0 ≤ (fA i).arg ∧ (fA i).arg < 4294967296 := ⟨(at_ask hV hlt).2.1, by have := (at_ask hV hlt).2.2; omega⟩
    obtain ⟨V0, c0, rfl, -⟩ := own_steps hO
    have hown := ownP_lt hO
    go_upto_region 12 with (fail)
    refine grow_head 31 (fun w' => Below wr.heap.size wr w') (by kernel_rfl) (by kernel_rfl) (by decide) (by kernel_rfl) ?_
    simp only [List.take_succ_cons, List.take_zero]
    refine g_run rfl ?_ (fun w' h' => ga_value ?_) (fun K hK => ?_)
    rotate_left
    · go_simp; try with_reducible rfl
    go_simp
    refine hK _ ?_
    clear hK K
    refine g_run rfl ?_ (fun w' h' => ga_value ?_) (fun K hK => ?_)
    rotate_left
    · go_simp; try with_reducible rfl
    go_simp
    refine hK _ ?_
    clear hK K
    refine g_run rfl ?_ (fun w' h' => ga_value ?_) (fun K hK => ?_)
    rotate_left
    · go_simp; try with_reducible rfl
    go_simp
    refine hK _ ?_
    clear hK K
    refine g_run rfl ?_ (fun w' h' => ga_value ?_) (fun K hK => ?_)
    rotate_left
    · go_simp; try with_reducible rfl
    go_simp
    refine hK _ ?_
    clear hK K
    refine g_run rfl ?_ (fun w' h' => ga_value ?_) (fun K hK => ?_)
    rotate_left
    · have c := (at_ask ((hV.below hal).below h') hlt).1.1; go_simp; try with_reducible rfl
    go_simp
    refine hK _ ?_
    clear hK K
    refine g_run rfl ?_ (fun w' h' => ga_value ?_) (fun K hK => ?_)
    rotate_left
    · go_simp; try with_reducible rfl
    go_simp
    refine hK _ ?_
    clear hK K
    refine g_run rfl ?_ (fun w' h' => ga_value ?_) (fun K hK => ?_)
    rotate_left
    · go_simp; try with_reducible rfl
    go_simp
    refine hK _ ?_
    clear hK K
    refine g_run rfl ?_ (fun w' h' => ga_value ?_) (fun K hK => ?_)
    rotate_left
    · go_simp; try with_reducible rfl
    go_simp
    refine hK _ ?_
    clear hK K
    refine g_run rfl ?_ (fun w' h' => ga_value ?_) (fun K hK => ?_)
    rotate_left
    · go_simp; try with_reducible rfl
    go_simp
    refine hK _ ?_
    clear hK K
    refine g_run rfl ?_ (fun w' h' => ga_value ?_) (fun K hK => ?_)
    rotate_left
    · have c := (at_ask ((hV.below hal).below h') hlt).1.2.1; go_simp; try with_reducible rfl
    go_simp
    refine hK _ ?_
    clear hK K
    refine g_run rfl ?_ (fun w' h' => ga_value ?_) (fun K hK => ?_)
    rotate_left
    · go_simp; try with_reducible rfl
    go_simp
    refine hK _ ?_
    clear hK K
    refine g_run rfl ?_ (fun w' h' => ga_value ?_) (fun K hK => ?_)
    rotate_left
    · go_simp; try with_reducible rfl
    go_simp
    refine hK _ ?_
    clear hK K
    refine g_run rfl ?_ (fun w' h' => ga_value ?_) (fun K hK => ?_)
    rotate_left
    · go_simp; try with_reducible rfl
    go_simp
    refine hK _ ?_
    clear hK K
    refine g_run rfl ?_ (fun w' h' => ga_value ?_) (fun K hK => ?_)
    rotate_left
    · go_simp; try with_reducible rfl
    go_simp
    refine hK _ ?_
    clear hK K
    refine g_run rfl ?_ (fun w' h' => ga_value ?_) (fun K hK => ?_)
    rotate_left
    · have c := (at_ask ((hV.below hal).below h') hlt).1.2.2.1; go_simp; try with_reducible rfl
    go_simp
    refine hK _ ?_
    clear hK K
    refine g_run rfl ?_ (fun w' h' => ga_value ?_) (fun K hK => ?_)
    rotate_left
    · go_simp; try with_reducible rfl
    go_simp
    refine hK _ ?_
    clear hK K
    refine g_run rfl ?_ (fun w' h' => ga_value ?_) (fun K hK => ?_)
    rotate_left
    · go_simp; try with_reducible rfl
    go_simp
    refine hK _ ?_
    clear hK K
    refine g_run rfl ?_ (fun w' h' => ga_value ?_) (fun K hK => ?_)
    rotate_left
    · go_simp; try with_reducible rfl
    go_simp
    refine hK _ ?_
    clear hK K
    refine g_run rfl ?_ (fun w' h' => ga_value ?_) (fun K hK => ?_)
    rotate_left
    · go_simp; try with_reducible rfl
    go_simp
    refine hK _ ?_
    clear hK K
    refine g_run rfl ?_ (fun w' h' => ga_value ?_) (fun K hK => ?_)
    rotate_left
    · have c := (at_ask ((hV.below hal).below h') hlt).1.2.2.2.1; go_simp; try with_reducible rfl
    go_simp
    refine hK _ ?_
    clear hK K
    refine g_run rfl ?_ (fun w' h' => ga_value ?_) (fun K hK => ?_)
    rotate_left
    · go_simp; try with_reducible rfl
    go_simp
    refine hK _ ?_
    clear hK K
    refine g_run rfl ?_ (fun w' h' => ga_value ?_) (fun K hK => ?_)
    rotate_left
    · go_simp; try with_reducible rfl
    go_simp
    refine hK _ ?_
    clear hK K
    refine g_run rfl ?_ (fun w' h' => ga_value ?_) (fun K hK => ?_)
    rotate_left
    · go_simp; try with_reducible rfl
    go_simp
    refine hK _ ?_
    clear hK K
    refine g_run rfl ?_ (fun w' h' => ga_value ?_) (fun K hK => ?_)
    rotate_left
    · go_simp; try with_reducible rfl
    go_simp
    refine hK _ ?_
    clear hK K
    refine g_run rfl ?_ (fun w' h' => ga_value ?_) (fun K hK => ?_)
    rotate_left
    · have c := (at_ask ((hV.below hal).below h') hlt).1.2.2.2.2.1; go_simp; try with_reducible rfl
    go_simp
    refine hK _ ?_
    clear hK K
    refine g_run rfl ?_ (fun w' h' => ga_value ?_) (fun K hK => ?_)
    rotate_left
    · go_simp; try with_reducible rfl
    go_simp
    refine hK _ ?_
    clear hK K
    refine g_run rfl ?_ (fun w' h' => ga_value ?_) (fun K hK => ?_)
    rotate_left
    · go_simp; try with_reducible rfl
    go_simp
    refine hK _ ?_
    clear hK K
    refine g_run rfl ?_ (fun w' h' => ga_value ?_) (fun K hK => ?_)
    rotate_left
    · go_simp; try with_reducible rfl
    go_simp
    refine hK _ ?_
    clear hK K
    refine g_run rfl ?_ (fun w' h' => ga_value ?_) (fun K hK => ?_)
    rotate_left
    · go_simp; try with_reducible rfl
    go_simp
    refine hK _ ?_
    clear hK K
    refine g_run rfl ?_ (fun w' h' => ga_value ?_) (fun K hK => ?_)
    rotate_left
    · have c := (at_ask ((hV.below hal).below h') hlt).1.2.2.2.2.2; go_simp; try with_reducible rfl
    go_simp
    refine hK _ ?_
    clear hK K
    refine g_run rfl ?_ (fun w' h' => ga_value ?_) (fun K hK => ?_)
    rotate_left
    · go_simp; try with_reducible rfl
    go_simp
    refine hK _ ?_
    clear hK K
    refine g_nil ?_
    show anyG _ _ _ _ _ _ _ _ _
    have q0 : Below wr.heap.size wr wr.drew := Below.drew (Below.refl _ _)
    refine anyG_ready [31] (by kernel_rfl) (by simp) (fun v1 r1 => ⟨q0.trans (r1.mono q0.size), ?_⟩)
    have q1 := q0.trans (r1.mono q0.size)
    intro j hj
    simp only [List.mem_cons, List.not_mem_nil, or_false] at hj
    subst hj
    refine op_alloc rfl rfl 35 rfl (.agg #[.int .i64 0, .int .i64 0, .int .i64 0, .int .i64 0, .int .u32 0, .int .u32 0]) #[.int .i64 0, .int .i64 0, .int .i64 0, .int .i64 0, .int .u32 0, .int .u32 0] (fun w => by kernel_rfl) rfl (fun v2 b11 X11 l1 f1 => ?_)
    have zb : wr.heap.size ≤ b11 := by have := q1.size; have := f1.out; omega
    have q2 := q1.trans (l1.mono q1.size)
    refine anyG_ready [32] (by kernel_rfl) (by simp) (fun v3 r3 => ⟨q2.trans (r3.mono q2.size), ?_⟩)
    have q3 := q2.trans (r3.mono q2.size)
    replace X11 := keep X11 r3
    intro j hj
    simp only [List.mem_cons, List.not_mem_nil, or_false] at hj
    subst hj
    refine op_store rfl rfl 35 (.tmp 11) (.tmp 86) rfl b11 (akC (fA i)) rfl rfl 35 _ X11 (by kernel_rfl) rfl (by simp [akC, Value.oneCell']) (fun v4 p1 m1 p2 => ?_)
    have q4 := q3.trans (p2 _ zb)
    refine anyG_end (by kernel_rfl) (fun w5 r5 => ⟨q4.trans (r5.mono q4.size), ?_⟩)
    have hbg := q4.trans (r5.mono q4.size)
    replace X11 := keep p1 r5
    clear q0 q1 q2 q3 q4 l1 f1 r1 r3 r5 p1 p2 m1
    replace hM := hM.below hbg
    replace hO := ownP_below hO hbg
    replace hal := hal.trans (hbg.mono hal.size)
    have h11 : bs ≤ b11 := Nat.le_trans hsz zb
    replace hsz := Nat.le_trans hsz hbg.size
    have hn11 : b11 ≠ gM := by omega
    clear hbg zb
    go_upto_region 13 with (fail)
    refine wp_region_lit ?_
    iterate 3
      refine wl_val rfl ?_ ?_ ?_
      rotate_left
      · go_simp; try with_reducible rfl
      intro K hK
      go_simp
      refine hK _ _ ?_
      clear hK K
    refine wl_val rfl (.pointer (some ⟨bV, oV + i * 6, none⟩)) ?_ ?_
    · go_simp
    intro K hK
    go_simp
    refine hK _ _ ?_
    clear hK K
    refine wl_val rfl (akV (fA i)) (run_ldask (.tmp 91) rfl bV oV i (hV.below hal) hlt rfl) ?_
    intro K hK
    go_simp
    refine hK _ _ ?_
    clear hK K
    have hcall := doAll (bM := bM) (g := gM) (n := n) (cap := capM) (t := t) (S := S) (by omega) (fA i) hxa w5 hM
    obtain ⟨p, hp⟩ : ∃ p, Hid (p = mac t n S (fA i)) := ⟨_, rfl⟩
    rw [← hp.out] at hcall
    refine wl_calls rfl 14 #[.pointer (some ⟨bM, 0, none⟩), akV (fA i)] (fun v w' => ∃ V c, v = ansV p.r V p.dn c p.ok ∧ DatA w' V p.dn p.dat ∧ (∀ b, V = some ⟨b, 0, none⟩ → w5.heap.size ≤ b) ∧ MacA w' bM gM n capM t p.S ∧ Exc gM w5 w') ?_ (hcall.mono fun e w' hh => by
      obtain ⟨⟨V, c, e1, e2, e3⟩, hh1, hh2⟩ := hh
      exact ⟨_, e1, V, c, rfl, e2, e3, hh1, hh2⟩) (fun v w6 hd => ?_)
    · unfold akV akC; first | (go_simp; done) | (go_simp; rfl)
    clear hcall
    obtain ⟨Va, ca, rfl, hDa, hVa, hM6a, hE6a⟩ := hd
    intro K hK
    go_simp
    refine hK _ _ ?_
    clear hK K
    unfold ansV
    iterate 3
      refine wl_val rfl ?_ ?_ ?_
      rotate_left
      · go_simp; try with_reducible rfl
      intro K hK
      go_simp
      refine hK _ _ ?_
      clear hK K
    refine wl_alloc rfl 38 rfl (.agg #[.int .u32 0, .slice none 0 0]) #[.int .u32 0, .slice none 0 0] (fun w => by kernel_rfl) rfl (fun w7 b12 X13 l7 f7 => ?_)
    intro K hK
    go_simp
    refine hK _ _ ?_
    clear hK K
    refine wl_store rfl 38 (.tmp 12) (.tmp 94) rfl b12 #[.int .u32 p.r, .slice Va p.dn ca] rfl rfl 38 _ X13 (by kernel_rfl) rfl (by simp [Value.oneCell']) (fun w8 k1a k2 k3 k4 => ?_)
    intro K hK
    go_simp
    refine hK _ _ ?_
    clear hK K
    refine wl_val rfl (.bool p.ok) ?_ ?_
    · go_simp
    intro K hK
    go_simp
    refine hK _ _ ?_
    clear hK K
    have hb8a : Below w6.heap.size w6 w8 := l7.trans (k3 _ (by simp only [Hid] at f7; omega))
    have hz13a : w6.heap.size ≤ b12 := by simp only [Hid] at f7; omega
    clear X13 l7 f7 k2 k3 k4
    have hms := mac_step (x := fA i) hm4 hAg hP hxa.1
    rw [← hp.out] at hms
    have hpp := hp
    replace X11 := (hE6a.blk b11 (blk_lt X11) hn11).trans X11
    replace X11 := keep X11 hb8a
    replace hO := ownP_keep hO (fun gg h1 h2 => hE6a.blk gg h2 (by omega))
    replace hO := ownP_below hO hb8a
    replace hM := hM6a.below hb8a
    replace hDa := hDa.below hb8a
    replace hal := hal.trans (hE6a.low _ (by omega) hal.size)
    replace hal := hal.trans (hb8a.mono hal.size)
    have hsz8 : bs ≤ w8.heap.size := by have := blk_lt X11; omega
    clear hM6a hE6a hb8a hVa hp hsz
    obtain ⟨q, hq⟩ : ∃ q, Hid (q = refR t n fO f m (fA i)) := ⟨_, rfl⟩
    rw [← hq.out] at hms
    have hpu : ∀ j, j < m → (f j).x.obj = (fA i).obj → (f j).x.call = 4 → (f j).r = 0 → 0 ≤ (f j).x.arg ∧ (f j).x.arg < (fO (fA i).obj.toNat).n := fun j hj ho hc h0 => by have := hP j hj hc h0; rw [ho] at this; exact this
    have href := refDo Ad n cn (by omega) fO t V0 m c0 f hm4 (fA i) hxa hpu w8 (hA.below hal) (own_st hO)
    rw [← hq.out] at href
    clear hpu hq
    go_upto_region 14 with (fail)
    refine wp_region_lit ?_
    iterate 3
      refine wl_val rfl ?_ ?_ ?_
      rotate_left
      · go_simp; try with_reducible rfl
      intro K hK
      go_simp
      refine hK _ _ ?_
      clear hK K
    refine wl_load rfl 35 (.tmp 11) rfl _ rfl _ _ _ _ X11 Tryd.underlying35 rfl (by kernel_rfl) ?_
    intro K hK
    go_simp
    refine hK _ _ ?_
    clear hK K
    refine wl_calls rfl 15 #[.slice Ad n cn, .int .i64 t, .slice V0 m c0, akV (fA i)] (fun v w' => ∃ V c, v = refV q.r V q.dn c q.ok ∧ DatA w' V q.dn (datN (fA i).obj f m) ∧ Below w8.heap.size w8 w') ?_ (href.mono fun e w' hh => by
      obtain ⟨⟨V', c', e1, e2⟩, hh1⟩ := hh
      exact ⟨_, e1, V', c', rfl, e2, hh1⟩) (fun v w9 hd => ?_)
    · unfold akV; first | (go_simp; done) | (go_simp; rfl)
    clear href
    obtain ⟨V2, c2, rfl, hD2, hb9⟩ := hd
    intro K hK
    go_simp
    refine hK _ _ ?_
    clear hK K
    unfold refV
    refine wl_alloc rfl 42 rfl (.agg #[.int .u32 0, .slice none 0 0, .bool false]) #[.int .u32 0, .slice none 0 0, .bool false] (fun w => by kernel_rfl) rfl (fun w10 b14 X14 l14 f14 => ?_)
    intro K hK
    go_simp
    refine hK _ _ ?_
    clear hK K
    refine wl_store rfl 42 (.tmp 14) (.tmp 100) rfl b14 #[.int .u32 q.r, .slice V2 q.dn c2, .bool q.ok] rfl rfl 42 _ X14 (by kernel_rfl) rfl (by simp [Value.oneCell']) (fun w11 g1 g2 g3 g4 => ?_)
    intro K hK
    go_simp
    refine hK _ _ ?_
    clear hK K
    have hb11 : Below w9.heap.size w9 w11 := l14.trans (g3 _ (by simp only [Hid] at f14; omega))
    replace X11 := keep (keep X11 hb9) hb11
    have X12 := keep (keep k1a hb9) hb11
    replace hO := ownP_below (ownP_below hO hb9) hb11
    replace hM := (hM.below hb9).below hb11
    replace hDa := (hDa.below hb9).below hb11
    replace hD2 := hD2.below hb11
    replace hal := (hal.trans (hb9.mono hal.size)).trans (hb11.mono (by have := hal.size; have := hb9.size; omega))
    have hsz11 : bs ≤ w11.heap.size := by have := blk_lt X11; omega
    have m4 := hms.dat
    have m0 := hms.small
    have m5 := hms.ag
    have m6 := hms.put
    obtain ⟨m1, m2, m3⟩ : p.r = q.r ∧ p.ok = q.ok ∧ p.dn = q.dn := ⟨hms.r, hms.ok, hms.dn⟩
    rw [← m1, ← m2, ← m3] at g1
    rw [← m3] at hD2
    replace hD2 := dat_congr hD2 m4
    clear X14 l14 f14 g2 g3 g4 hb9 hb11 k1a hms m1 m2 m3 m4 hsz8 hz13a
    have hid : p.ok = false → p.S = S := fun h => by rw [hpp.out] at h ⊢; exact mac_idle (.inl h)
    obtain ⟨S', r, ok, dn, dat⟩ := p
    simp only at g1 X12 hDa hD2 hM m5 m6 hid m0
    clear hpp
    have E : PlE w11 b11 b12 b14 (fA i) r Va dn ca V2 c2 ok dat bM gM n capM t S' bs (.slice V0 m c0) f m := ⟨X11, X12, g1, hDa, hD2, hM, hO⟩
    clear X11 X12 g1 hDa hD2 hM hO
    have y120 := cell_of_row w11 b12 0 _ 38 _ E.X12
    have y121 := cell_of_row w11 b12 1 _ 38 _ E.X12
    have y140 := cell_of_row w11 b14 0 _ 42 _ E.X14
    have y141 := cell_of_row w11 b14 1 _ 42 _ E.X14
    have y142 := cell_of_row w11 b14 2 _ 42 _ E.X14
    go_upto_region 18 with (fail)
    clear y120 y121 y140 y141 y142
    go_loopw [15] (fun v wq => ∃ (k : Nat), v = .int .i64 k ∧ k ≤ dn ∧ PlE wq b11 b12 b14 (fA i) r Va dn ca V2 c2 ok dat bM gM n capM t S' bs (.slice V0 m c0) f m ∧ Below w.heap.size w wq ∧ bs ≤ wq.heap.size) (fun v _ => dn - (intOf v).toNat)
    case atStart => exact ⟨0, rfl, Nat.zero_le _, E, hal, hsz11⟩
    case round =>
      clear E hal hsz11
      obtain ⟨k, rfl, hk, E, hal, hsz⟩ := hrel
      have y121 := cell_of_row wr b12 1 _ 38 _ E.X12
      have y141 := cell_of_row wr b14 1 _ 42 _ E.X14
      by_cases hlk : k < dn
      case pos =>
        have hk0 : (0 : Int) ≤ k := by omega
        have hk1 : (k : Int) < dn := by omega
        obtain ⟨bD1, rfl, hD1l, hD1⟩ := E.D1 k hlk
        obtain ⟨bD2, rfl, hD2l, hD2⟩ := E.D2 k hlk
        go_upto_region 20 with (fail)
        clear y121 y141
        refine quiet_all (fun w' => Below wr.heap.size wr w') (by kernel_rfl) (by kernel_rfl) (Below.drew (Below.refl _ _)) ?_
        refine q_run rfl (fun K hK => ?_)
        refine q_value ?_ (fun w' h' => ?_) ?_
        rotate_left
        · go_simp; try with_reducible rfl
        go_simp
        refine hK _ ?_
        clear hK K
        refine q_run rfl (fun K hK => ?_)
        refine q_value ?_ (fun w' h' => ?_) ?_
        rotate_left
        · have c := cell_of_row w' b12 1 _ 38 _ (keep E.X12 h'); go_simp; try with_reducible rfl
        go_simp
        refine hK _ ?_
        clear hK K
        refine q_run rfl (fun K hK => ?_)
        refine q_value ?_ (fun w' h' => ?_) ?_
        rotate_left
        · go_simp; try with_reducible rfl
        go_simp
        refine hK _ ?_
        clear hK K
        refine q_run rfl (fun K hK => ?_)
        refine q_value ?_ (fun w' h' => ?_) ?_
        rotate_left
        · go_simp; try with_reducible rfl
        go_simp
        refine hK _ ?_
        clear hK K
        refine q_run rfl (fun K hK => ?_)
        refine q_value ?_ (fun w' h' => ?_) ?_
        rotate_left
        · have c := (h'.cell (p := ⟨bD1, k, none⟩) hD1l).trans hD1; go_simp; try with_reducible rfl
        go_simp
        refine hK _ ?_
        clear hK K
        refine q_run rfl (fun K hK => ?_)
        refine q_value ?_ (fun w' h' => ?_) ?_
        rotate_left
        · go_simp; try with_reducible rfl
        go_simp
        refine hK _ ?_
        clear hK K
        refine q_run rfl (fun K hK => ?_)
        refine q_value ?_ (fun w' h' => ?_) ?_
        rotate_left
        · have c := cell_of_row w' b14 1 _ 42 _ (keep E.X14 h'); go_simp; try with_reducible rfl
        go_simp
        refine hK _ ?_
        clear hK K
        refine q_run rfl (fun K hK => ?_)
        refine q_value ?_ (fun w' h' => ?_) ?_
        rotate_left
        · go_simp; try with_reducible rfl
        go_simp
        refine hK _ ?_
        clear hK K
        refine q_run rfl (fun K hK => ?_)
        refine q_value ?_ (fun w' h' => ?_) ?_
        rotate_left
        · go_simp; try with_reducible rfl
        go_simp
        refine hK _ ?_
        clear hK K
        refine q_run rfl (fun K hK => ?_)
        refine q_value ?_ (fun w' h' => ?_) ?_
        rotate_left
        · have c := (h'.cell (p := ⟨bD2, k, none⟩) hD2l).trans hD2; go_simp; try with_reducible rfl
        go_simp
        refine hK _ ?_
        clear hK K
        refine q_run rfl (fun K hK => ?_)
        refine q_value ?_ (fun w' h' => ?_) ?_
        rotate_left
        · go_simp; try with_reducible rfl
        go_simp
        refine hK _ ?_
        clear hK K
        refine qd_nil ?_
        intro w12 h12
        replace E := E.below h12
        replace hal := hal.trans (h12.mono hal.size)
        replace hsz := Nat.le_trans hsz h12.size
        clear h12 hD1 hD2 hD1l hD2l
        go_wp2
        go_roundw
        case rel => exact ⟨k + 1, by go_num, by omega, E, hal, hsz⟩
        case measure => simp [intOf]; omega
      obtain rfl : k = dn := by omega
      have hk1 : ¬ ((k : Int) < k) := by omega
      clear hk hlk
      cases ok
      · have hS : S' = S := hid rfl
        clear hid m5 m6
        subst hS
        have hO := E.O
        have hM := E.M
        clear E
        go_wp2
        go_roundw
        case rel => exact ⟨i + 1, m, f, S', by go_num, by omega, by omega, hO, hM, hAg, hP, hsz, hal⟩
        case measure => simp [intOf]; omega
      replace m5 := m5 rfl
      replace m6 := m6 rfl
      clear hid hAg hP
      have y120 := cell_of_row wr b12 0 _ 38 _ E.X12
      go_upto_region 23 with (fail)
      refine wp_region_lit ?_
      iterate 1
        refine wl_val rfl ?_ ?_ ?_
        rotate_left
        · go_simp; try with_reducible rfl
        intro K hK
        go_simp
        refine hK _ _ ?_
        clear hK K
      refine wl_load rfl 35 (.tmp 11) rfl _ rfl _ _ _ _ E.X11 Tryd.underlying35 rfl (by kernel_rfl) ?_
      intro K hK
      go_simp
      refine hK _ _ ?_
      clear hK K
      iterate 2
        refine wl_val rfl ?_ ?_ ?_
        rotate_left
        · go_simp; try with_reducible rfl
        intro K hK
        go_simp
        refine hK _ _ ?_
        clear hK K
      clear y120 y121 y141
      refine wl_val rfl (.agg (stpL ⟨fA i, r⟩).toArray) ?_ ?_
      · unfold akC; first | (go_simp; done) | (go_simp; rfl)
      intro K hK
      go_simp
      refine hK _ _ ?_
      clear hK K
      refine wl_bstp rfl (.tmp 144) rfl ⟨fA i, r⟩ rfl (fun w13 bb BB hb13 fb => ?_)
      intro K hK
      go_simp
      refine hK _ _ ?_
      clear hK K
      have hs13 : bs ≤ w13.heap.size := Nat.le_trans hsz hb13.size
      refine wl_appp rfl (.tmp 140) (.tmp 145) rfl bs (.slice V0 m c0) f m ⟨fA i, r⟩ rfl (ownP_below E.O hb13) bb rfl BB hm4 hs13 (fun u' w14 hO' hg4 => ?_)
      intro K hK
      go_simp
      refine hK _ _ ?_
      clear hK K
      iterate 1
        refine wl_val rfl ?_ ?_ ?_
        rotate_left
        · go_simp; try with_reducible rfl
        intro K hK
        go_simp
        refine hK _ _ ?_
        clear hK K
      have hM13 := E.M.below hb13
      replace hal := (hal.trans (hb13.mono hal.size)).grown hg4 (by have := hal.size; have := hb13.size; omega) (fun kk h => by have := hown kk h; omega)
      have hM14 : MacA w14 bM gM n capM t S' := hM13.keep (hg4.block bM hM13.lt (fun e => by have := hown bM e.symm; omega)) (fun _ => hg4.block gM hM13.glt (fun e => by have := hown gM e.symm; omega)) (nm_keep hM13.names (hg4.block 0 (by have := hM13.names.pos; omega) (fun e => by have := hown 0 e.symm; omega)))
      have hs14 : bs ≤ w14.heap.size := Nat.le_trans hs13 hg4.size
      clear hg4 hM13 hs13 hb13 BB fb E hsz
      go_wp2
      go_roundw
      case rel => exact ⟨i + 1, m + 1, snoc f m ⟨fA i, r⟩, S', by go_num, by omega, by omega, hO', hM14, m5, m6, hs14, hal⟩
      case measure => simp [intOf]; omega
end Go.Proofs.YtobkonbpcnmgpaaDoor
