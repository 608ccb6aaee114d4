/- The law AbsOne, walked. -/
import Derived.Test.YtobkonbpcnmgpaaDoorAsks
namespace Go.Proofs.YtobkonbpcnmgpaaDoor
open Go.RowKit
set_option linter.unusedVariables false
set_option linter.unusedSimpArgs false
structure One (s : St) (x : Ak) (p : Out) : Prop where
  o : p.s.o = s.o
  acq : p.ok = true → p.r = 0 → x.call = 1 → s.owner = -1 ∧ p.s.owner = x.who
  rel : p.ok = true → p.r = 0 → x.call = 2 → s.owner = x.who ∧ p.s.owner = -1
  no : (p.ok = false ∨ p.r ≠ 0 ∨ (x.call ≠ 1 ∧ x.call ≠ 2)) → p.s.owner = s.owner
theorem one_same {s : St} {x : Ak} {r : Int} {ok : Bool} (h : ok = false ∨ r ≠ 0 ∨ (x.call ≠ 1 ∧ x.call ≠ 2)) : One s x ⟨s, r, ok⟩ :=
  ⟨rfl, fun h1 h2 h3 => by simp only at h1 h2; simp_all, fun h1 h2 h3 => by simp only at h1 h2; simp_all, fun _ => rfl⟩
theorem lock_one {s : St} {x : Ak} (hc : x.call = 1 ∨ x.call = 2) : One s x (lockP s x) := by
  unfold lockP
  by_cases c2 : x.call = 2
  · rw [if_pos c2]
    by_cases co : s.owner = x.who
    · rw [if_pos co]
      exact ⟨rfl, fun _ _ h => by omega, fun _ _ _ => ⟨co, rfl⟩, fun h => by simp at h; omega⟩
    · rw [if_neg co]; exact one_same (.inr (.inl (by omega)))
  · rw [if_neg c2]
    by_cases co : s.owner = x.who
    · rw [if_pos co]; exact one_same (.inr (.inl (by omega)))
    · rw [if_neg co]
      by_cases cm : s.owner = -1
      · rw [if_pos cm]
        exact ⟨rfl, fun _ _ _ => ⟨cm, rfl⟩, fun _ _ h => absurd h c2, fun h => by simp at h; omega⟩
      · rw [if_neg cm]; exact one_same (.inl rfl)
theorem one_step {s : St} {x : Ak} (hk : 1 ≤ s.o.k ∧ s.o.k ≤ 10) : One s x (goA 4 s x) := by
  unfold goA
  by_cases hm : mayS s.o x.call 4 x.who = true ∧ ¬ (x.call = 4 ∧ s.o.n ≤ x.arg)
  · rw [if_pos hm]
    have htab := may_tab (mayS_t hm.1).2.2.2
    by_cases hp : s.o.k ≠ 13 ∧ x.part ≠ 0
    · rw [if_pos hp]; exact one_same (.inl rfl)
    · rw [if_neg hp]
      by_cases h9 : s.o.k = 9
      · rw [if_pos h9]
        unfold seqP
        by_cases c4 : x.call = 4
        · rw [if_pos c4]
          by_cases co : s.owner = x.who
          · rw [if_pos co]
            exact ⟨rfl, fun _ _ h => by omega, fun _ _ h => by omega, fun _ => rfl⟩
          · rw [if_neg co]; exact one_same (.inr (.inl (by omega)))
        · rw [if_neg c4]
          by_cases c3 : x.call = 3
          · rw [if_pos c3]; exact one_same (.inr (.inr (by omega)))
          · rw [if_neg c3]; exact lock_one (by omega)
      · rw [if_neg h9]
        unfold kindP
        by_cases h67 : s.o.k = 6 ∨ s.o.k = 7
        · rw [if_pos h67]
          unfold duoP
          by_cases hw : x.who = s.o.a ∨ x.who = s.o.b
          · rw [if_pos hw]; exact lock_one (by omega)
          · rw [if_neg hw]; exact one_same (.inr (.inl (by omega)))
        · rw [if_neg h67, if_neg (by omega), if_neg (by omega), if_neg (by omega), if_neg (by omega), if_neg (by omega)]
          exact lock_one (by omega)
  · rw [if_neg hm]; exact one_same (.inl rfl)
theorem kind_nums (kk : Int) (h : 0 ≤ kk ∧ kk ≤ 255) : ∃ e k, IntKind.i64.wrap kk = kk ∧ kk.tmod 10 = e ∧ IntKind.i64.wrap (1 + e) = k ∧ 1 ≤ k ∧ k ≤ 10 := by
  have h1 := Int.emod_nonneg kk (show (10 : Int) ≠ 0 by omega)
  have h2 := Int.emod_lt_of_pos kk (show (0 : Int) < 10 by omega)
  exact ⟨kk % 10, 1 + kk % 10, by simp only [IntKind.wrap_i64]; omega, Int.tmod_eq_emod_of_nonneg h.1, by simp only [IntKind.wrap_i64]; omega, by omega, by omega⟩
theorem rb_k {k : Int} (h1 : 1 ≤ k) (h2 : k ≤ 10) (h6 : k ≠ 6) (h7 : k ≠ 7) (h9 : k ≠ 9) : rb ⟨k, 0, 0, 0⟩ 4 = true := by
  have : k = 1 ∨ k = 2 ∨ k = 3 ∨ k = 4 ∨ k = 5 ∨ k = 8 ∨ k = 10 := by omega
  rcases this with rfl | rfl | rfl | rfl | rfl | rfl | rfl <;> rfl
set_option maxRecDepth 100000 in
set_option maxHeartbeats 16000000 in
theorem one_walk (kk : Int) (hkk : 0 ≤ kk ∧ kk ≤ 255) (V : Option Addr) (nc cc : Nat) (f : Nat → Ak) (w : World) (hV : Asks w V nc f) (hN : NmW w) : Calls Tryd.prog 4 #[.int .u8 kk, .slice V nc cc] w fun e w' => e = .returned (.bool true) ∧ Below w.heap.size w w' := by
  by_cases hl : 200 < nc
  · have hl' : 200 < (nc : Int) := by omega
    go_enter Tryd.func4, Tryd.ntmps4
    go_wp2_with fail
    refine (awake w hN).mono ?_
    rintro e w1 ⟨rfl, hb1⟩
    go_wp2_with fail
    refine (awake w1 (hN.below hb1)).mono ?_
    rintro e w2 ⟨rfl, hb2⟩
    go_wp2
    go_ret
    exact ⟨rfl, hb1.trans (hb2.mono hb1.size)⟩
  have hl' : ¬ (200 < (nc : Int)) := by omega
  obtain ⟨e0, k, d1, d2, d3, hk1, hk10⟩ := kind_nums kk hkk
  by_cases k6 : k = 6
  · subst k6
    have hrb : rb ⟨6, 0, 0, 1⟩ 4 = true := by rfl
    go_enter Tryd.func4, Tryd.ntmps4
    go_wp2_with fail
    refine (awake w hN).mono ?_
    rintro e w1 ⟨rfl, hb1⟩
    go_wp2_with fail
    have hb2 := (Below.refl w1.heap.size w1).alloc (Nat.le_refl _) (.cells #[.int .i64 6, .int .i64 0, .int .i64 0, .int .i64 1] 48)
    have hO := objs1 (w1.alloc (.cells #[.int .i64 6, .int .i64 0, .int .i64 0, .int .i64 1] 48)) ⟨6, 0, 0, 1⟩
    have hb3 := hb2.alloc (by simp) (.cells #[.int .i64 6, .int .i64 0, .int .i64 0, .int .i64 1] 48)
    have hal := hb1.trans (hb3.mono hb1.size)
    have hs : (w1.alloc (.cells #[.int .i64 6, .int .i64 0, .int .i64 0, .int .i64 1] 48)).heap.size = w1.heap.size + 1 := by simp
    rw [hs] at hO
    refine (newA _ 1 1 (fun _ => ⟨6, 0, 0, 1⟩) (by omega) 4 _ hO (hN.below hal)).mono ?_
    rintro e w3 ⟨hbn, hok, -⟩
    obtain ⟨bM, g, cap, rfl, hM, hzM, hMg⟩ := hok ⟨by omega, by omega, fun _ _ => hrb⟩
    have hz : w.heap.size ≤ bM := by have := hb1.size; simp at hzM; omega
    replace hal := hal.trans (hbn.mono hal.size)
    clear hb1 hb2 hb3 hO hs hzM hbn
    go_upto_region 13 with (fail)
    go_loopw [8, 9] (fun v u wr => ∃ (i : Nat) (h : Int) (S : Nat → St), u = .int .i64 i ∧ v = .int .i64 h ∧ i ≤ nc ∧ (S 0).owner = h ∧ (S 0).o.k = 6 ∧ MacA wr bM g 1 cap 4 S ∧ Below w.heap.size w wr) (fun _ u _ => nc - (intOf u).toNat)
    case atStart => exact ⟨0, -1, _, rfl, rfl, Nat.zero_le _, rfl, rfl, hM, hal⟩
    case round =>
      obtain ⟨i, h, S, rfl, rfl, hi, hown, hkd, hM, hal⟩ := hrel
      by_cases hlt : i < nc
      case neg =>
        obtain rfl : i = nc := by omega
        have hl1 : ¬ ((i : Int) < i) := by omega
        go_wp2
        go_ret
        exact ⟨rfl, hal⟩
      have hl0 : (0 : Int) ≤ i := by omega
      have hl1 : (i : Int) < nc := by omega
      obtain ⟨bV, oV, rfl⟩ := ask_ptr hV (by omega)
      have hxa := (at_ask hV hlt).2
      go_upto_region 15 with (fail)
      refine wp_region_lit ?_
      iterate 2
        refine wl_val rfl ?_ ?_ ?_
        rotate_left
        · go_simp; try with_reducible rfl
        intro K hK
        go_simp
        refine hK _ _ ?_
        clear hK K
      refine wl_val rfl (.pointer (some ⟨bV, oV + i * 6, none⟩)) ?_ ?_
      · go_simp
      intro K hK
      go_simp
      refine hK _ _ ?_
      clear hK K
      refine wl_val rfl (akV (f i)) (run_ldask (.tmp 59) rfl bV oV i (hV.below hal) hlt rfl) ?_
      intro K hK
      go_simp
      refine hK _ _ ?_
      clear hK K
      refine wl_alloc rfl 34 rfl (.agg #[.int .i64 0, .int .i64 0, .int .i64 0, .int .i64 0, .int .u32 0, .int .u32 0]) #[.int .i64 0, .int .i64 0, .int .i64 0, .int .i64 0, .int .u32 0, .int .u32 0] (fun w => by kernel_rfl) rfl (fun w4 b10 X10 l4 f4 => ?_)
      intro K hK
      go_simp
      refine hK _ _ ?_
      clear hK K
      refine wl_store rfl 34 (.tmp 10) (.tmp 60) rfl b10 (akC (f i)) rfl rfl 34 _ X10 (by kernel_rfl) rfl (by simp [akC, Value.oneCell']) (fun w5 g1 g2 g3 g4 => ?_)
      intro K hK
      go_simp
      refine hK _ _ ?_
      clear hK K
      have hb5 : Below wr.heap.size wr w5 := l4.trans (g3 _ (by simp only [Hid] at f4; omega))
      have hz10 : wr.heap.size ≤ b10 := by simp only [Hid] at f4; omega
      clear X10 l4 f4 g2 g3 g4
      replace hal := hal.trans (hb5.mono hal.size)
      have hMlt := hM.lt
      replace hM := hM.below hb5
      have hn10 : b10 ≠ g := by
        intro e
        rcases hM.mac with ⟨_, _, _, h3⟩ | ⟨h1, _⟩
        · obtain ⟨cs, h5, _⟩ := h3; rw [← e, g1] at h5; simp at h5
        · omega
      go_upto_region 16 with (fail)
      refine wp_region_lit ?_
      iterate 1
        refine wl_val rfl ?_ ?_ ?_
        rotate_left
        · go_simp; try with_reducible rfl
        intro K hK
        go_simp
        refine hK _ _ ?_
        clear hK K
      refine wl_sti rfl (.tmp 61) (.const (.int .i64 0)) rfl b10 1 (akC (f i)) 34 0 (by simp [akC]) rfl rfl g1 (fun w5' m1 m2 m3 => ?_)
      intro K hK
      go_simp
      refine hK _ _ ?_
      clear hK K
      have X10 : w5'.heap[b10]? = some (.cells (akC { f i with obj := 0 }) 34 (0, 0)) := m1
      have hb5' : Below wr.heap.size wr w5' := hb5.trans (m3 _ hz10)
      replace hal := hal.trans (m3 _ (by have := hal.size; omega))
      replace hM := hM.keep (m2 bM (by omega)) (fun _ => m2 g (fun e => hn10 e.symm)) (nm_keep hM.names (m2 0 (by have := hM.names.pos; omega)))
      clear m1 m2 m3 g1 hb5 hb5'
      obtain ⟨x, hx⟩ : ∃ x : Ak, Hid (x = { f i with obj := 0 }) := ⟨_, rfl⟩
      rw [← hx.out] at X10
      have hxo : x.obj = 0 := by rw [hx.out]
      have hxr : 0 ≤ x.arg ∧ x.arg < 4294967296 := by rw [hx.out]; exact ⟨hxa.1, by have := hxa.2; simp only; omega⟩
      clear hxa hx
      obtain ⟨x0, x1, x2, x3, x4, x5⟩ := x
      simp only at hxo hxr
      subst hxo
      unfold akC at X10
      go_upto_region 17 with (fail)
      refine wp_region_lit ?_
      iterate 1
        refine wl_val rfl ?_ ?_ ?_
        rotate_left
        · go_simp; try with_reducible rfl
        intro K hK
        go_simp
        refine hK _ _ ?_
        clear hK K
      refine wl_load rfl 34 (.tmp 10) rfl _ rfl _ _ _ _ X10 Tryd.underlying34 rfl (by kernel_rfl) ?_
      intro K hK
      go_simp
      refine hK _ _ ?_
      clear hK K
      have hcall := doAll (bM := bM) (g := g) (n := 1) (cap := cap) (t := 4) (S := S) (by omega) ⟨x0, 0, x2, x3, x4, x5⟩ hxr w5' hM
      obtain ⟨p, hp⟩ : ∃ p, Hid (p = mac 4 1 S ⟨x0, 0, x2, x3, x4, x5⟩) := ⟨_, rfl⟩
      rw [← hp.out] at hcall
      refine wl_calls rfl 14 #[.pointer (some ⟨bM, 0, none⟩), akV ⟨x0, 0, x2, x3, x4, x5⟩] (fun v w' => ∃ V c, v = ansV p.r V p.dn c p.ok ∧ DatA w' V p.dn p.dat ∧ (∀ b, V = some ⟨b, 0, none⟩ → w5'.heap.size ≤ b) ∧ MacA w' bM g 1 cap 4 p.S ∧ Exc g w5' w') ?_ (hcall.mono fun e w' hh => by
        obtain ⟨⟨V, c, e1, e2, e3⟩, hh1, hh2⟩ := hh
        exact ⟨_, e1, V, c, rfl, e2, e3, hh1, hh2⟩) (fun v w6 hd => ?_)
      · unfold akV akC; first | (go_simp; done) | (go_simp; rfl)
      clear hcall
      obtain ⟨V, c, rfl, hD, hV, hM6, hE6⟩ := hd
      intro K hK
      go_simp
      refine hK _ _ ?_
      clear hK K
      unfold ansV
      iterate 3
        refine wl_val rfl ?_ ?_ ?_
        rotate_left
        · go_simp; try with_reducible rfl
        intro K hK
        go_simp
        refine hK _ _ ?_
        clear hK K
      refine wl_alloc rfl 38 rfl (.agg #[.int .u32 0, .slice none 0 0]) #[.int .u32 0, .slice none 0 0] (fun w => by kernel_rfl) rfl (fun w7 b13 X13 l7 f7 => ?_)
      intro K hK
      go_simp
      refine hK _ _ ?_
      clear hK K
      refine wl_store rfl 38 (.tmp 11) (.tmp 66) rfl b13 #[.int .u32 p.r, .slice V p.dn c] rfl rfl 38 _ X13 (by kernel_rfl) rfl (by simp [Value.oneCell']) (fun w8 k1 k2 k3 k4 => ?_)
      intro K hK
      go_simp
      refine hK _ _ ?_
      clear hK K
      refine wl_val rfl (.bool p.ok) ?_ ?_
      · go_simp
      intro K hK
      go_simp
      refine hK _ _ ?_
      clear hK K
      have hb8 : Below w6.heap.size w6 w8 := l7.trans (k3 _ (by simp only [Hid] at f7; omega))
      have hz13 : w6.heap.size ≤ b13 := by simp only [Hid] at f7; omega
      clear X13 l7 f7 k2 k3 k4
      have hst := one_step (s := S 0) (x := ⟨x0, 0, x2, x3, x4, x5⟩) (by omega)
      rw [mac_in (i := 0) (by omega) (by simp)] at hp
      have hp1 : p.r = (goA 4 (S 0) ⟨x0, 0, x2, x3, x4, x5⟩).r := by rw [hp.out]
      have hp2 : p.ok = (goA 4 (S 0) ⟨x0, 0, x2, x3, x4, x5⟩).ok := by rw [hp.out]
      have hp3 : p.S 0 = (goA 4 (S 0) ⟨x0, 0, x2, x3, x4, x5⟩).s := by rw [hp.out]; exact updS_at S 0 _
      obtain ⟨s1, s2, s3, s4⟩ := hst
      rw [← hp3] at s1 s2 s3 s4
      rw [← hp2, ← hp1] at s2 s3
      rw [← hp2, ← hp1] at s4
      clear hp hp1 hp2 hp3
      simp only at s2 s3 s4
      replace X10 := keep ((hE6.blk b10 (blk_lt X10) hn10).trans X10) hb8
      replace hM := hM6.below hb8
      replace hal := hal.trans (hE6.low _ (by omega) hal.size)
      replace hal := hal.trans (hb8.mono hal.size)
      clear hM6 hE6 hb8 hD
      obtain ⟨S', r, ok, dn, dat⟩ := p
      simp only at k1 s1 s2 s3 s4 hM
      have y11 := cell_of_row w8 b13 0 _ 38 _ k1
      have y102 := cell_of_row w8 b10 2 _ 34 _ X10
      have y100 := cell_of_row w8 b10 0 _ 34 _ X10
      clear k1 X10
      cases ok
      · have hkd' : (S' 0).o.k = 6 := by rw [s1]; exact hkd
        clear hkd
        have ho' : (S' 0).owner = h := by rw [s4 (.inl rfl)]; exact hown
        clear s1 s2 s3 s4 hown
        go_wp2
        go_roundw
        case rel => exact ⟨i + 1, h, S', by go_num, rfl, by omega, ho', hkd', hM, hal⟩
        case measure => simp [intOf]; omega
      · by_cases hr : r = 0
        · subst hr
          by_cases c1 : x2 = 1
          · subst c1
            obtain ⟨t1, t2⟩ := s2 rfl rfl rfl
            obtain rfl : h = -1 := by omega
            have hkd' : (S' 0).o.k = 6 := by rw [s1]; exact hkd
            clear hkd
            have ho' : (S' 0).owner = x0 := t2
            clear s1 s2 s3 s4 hown
            go_wp2
            go_roundw
            case rel => exact ⟨i + 1, x0, S', by go_num, rfl, by omega, ho', hkd', hM, hal⟩
            case measure => simp [intOf]; omega
          · by_cases c2 : x2 = 2
            · subst c2
              obtain ⟨t1, t2⟩ := s3 rfl rfl rfl
              obtain rfl : h = x0 := by omega
              have hkd' : (S' 0).o.k = 6 := by rw [s1]; exact hkd
              clear hkd
              have ho' : (S' 0).owner = (-1) := t2
              clear s1 s2 s3 s4 hown
              go_wp2
              go_roundw
              case rel => exact ⟨i + 1, (-1), S', by go_num, rfl, by omega, ho', hkd', hM, hal⟩
              case measure => simp [intOf]; omega
            · have q1 : (x2 == 1) = false := by simp [c1]
              have q2 : (x2 == 2) = false := by simp [c2]
              have hkd' : (S' 0).o.k = 6 := by rw [s1]; exact hkd
              clear hkd
              have ho' : (S' 0).owner = h := by rw [s4 (.inr (.inr ⟨c1, c2⟩))]; exact hown
              clear s1 s2 s3 s4 hown
              go_wp2
              go_roundw
              case rel => exact ⟨i + 1, h, S', by go_num, rfl, by omega, ho', hkd', hM, hal⟩
              case measure => simp [intOf]; omega
        · have qr : (r != 0) = true := by simp [hr]
          have hkd' : (S' 0).o.k = 6 := by rw [s1]; exact hkd
          clear hkd
          have ho' : (S' 0).owner = h := by rw [s4 (.inr (.inl hr))]; exact hown
          clear s1 s2 s3 s4 hown
          go_wp2
          go_roundw
          case rel => exact ⟨i + 1, h, S', by go_num, rfl, by omega, ho', hkd', hM, hal⟩
          case measure => simp [intOf]; omega
  · by_cases k7 : k = 7
    · subst k7
      have hrb : rb ⟨7, 0, 0, 1⟩ 4 = true := by rfl
      go_enter Tryd.func4, Tryd.ntmps4
      go_wp2_with fail
      refine (awake w hN).mono ?_
      rintro e w1 ⟨rfl, hb1⟩
      go_wp2_with fail
      have hb2 := (Below.refl w1.heap.size w1).alloc (Nat.le_refl _) (.cells #[.int .i64 7, .int .i64 0, .int .i64 0, .int .i64 1] 48)
      have hO := objs1 (w1.alloc (.cells #[.int .i64 7, .int .i64 0, .int .i64 0, .int .i64 1] 48)) ⟨7, 0, 0, 1⟩
      have hb3 := hb2.alloc (by simp) (.cells #[.int .i64 7, .int .i64 0, .int .i64 0, .int .i64 1] 48)
      have hal := hb1.trans (hb3.mono hb1.size)
      have hs : (w1.alloc (.cells #[.int .i64 7, .int .i64 0, .int .i64 0, .int .i64 1] 48)).heap.size = w1.heap.size + 1 := by simp
      rw [hs] at hO
      refine (newA _ 1 1 (fun _ => ⟨7, 0, 0, 1⟩) (by omega) 4 _ hO (hN.below hal)).mono ?_
      rintro e w3 ⟨hbn, hok, -⟩
      obtain ⟨bM, g, cap, rfl, hM, hzM, hMg⟩ := hok ⟨by omega, by omega, fun _ _ => hrb⟩
      have hz : w.heap.size ≤ bM := by have := hb1.size; simp at hzM; omega
      replace hal := hal.trans (hbn.mono hal.size)
      clear hb1 hb2 hb3 hO hs hzM hbn
      go_upto_region 13 with (fail)
      go_loopw [8, 9] (fun v u wr => ∃ (i : Nat) (h : Int) (S : Nat → St), u = .int .i64 i ∧ v = .int .i64 h ∧ i ≤ nc ∧ (S 0).owner = h ∧ (S 0).o.k = 7 ∧ MacA wr bM g 1 cap 4 S ∧ Below w.heap.size w wr) (fun _ u _ => nc - (intOf u).toNat)
      case atStart => exact ⟨0, -1, _, rfl, rfl, Nat.zero_le _, rfl, rfl, hM, hal⟩
      case round =>
        obtain ⟨i, h, S, rfl, rfl, hi, hown, hkd, hM, hal⟩ := hrel
        by_cases hlt : i < nc
        case neg =>
          obtain rfl : i = nc := by omega
          have hl1 : ¬ ((i : Int) < i) := by omega
          go_wp2
          go_ret
          exact ⟨rfl, hal⟩
        have hl0 : (0 : Int) ≤ i := by omega
        have hl1 : (i : Int) < nc := by omega
        obtain ⟨bV, oV, rfl⟩ := ask_ptr hV (by omega)
        have hxa := (at_ask hV hlt).2
        go_upto_region 15 with (fail)
        refine wp_region_lit ?_
        iterate 2
          refine wl_val rfl ?_ ?_ ?_
          rotate_left
          · go_simp; try with_reducible rfl
          intro K hK
          go_simp
          refine hK _ _ ?_
          clear hK K
        refine wl_val rfl (.pointer (some ⟨bV, oV + i * 6, none⟩)) ?_ ?_
        · go_simp
        intro K hK
        go_simp
        refine hK _ _ ?_
        clear hK K
        refine wl_val rfl (akV (f i)) (run_ldask (.tmp 59) rfl bV oV i (hV.below hal) hlt rfl) ?_
        intro K hK
        go_simp
        refine hK _ _ ?_
        clear hK K
        refine wl_alloc rfl 34 rfl (.agg #[.int .i64 0, .int .i64 0, .int .i64 0, .int .i64 0, .int .u32 0, .int .u32 0]) #[.int .i64 0, .int .i64 0, .int .i64 0, .int .i64 0, .int .u32 0, .int .u32 0] (fun w => by kernel_rfl) rfl (fun w4 b10 X10 l4 f4 => ?_)
        intro K hK
        go_simp
        refine hK _ _ ?_
        clear hK K
        refine wl_store rfl 34 (.tmp 10) (.tmp 60) rfl b10 (akC (f i)) rfl rfl 34 _ X10 (by kernel_rfl) rfl (by simp [akC, Value.oneCell']) (fun w5 g1 g2 g3 g4 => ?_)
        intro K hK
        go_simp
        refine hK _ _ ?_
        clear hK K
        have hb5 : Below wr.heap.size wr w5 := l4.trans (g3 _ (by simp only [Hid] at f4; omega))
        have hz10 : wr.heap.size ≤ b10 := by simp only [Hid] at f4; omega
        clear X10 l4 f4 g2 g3 g4
        replace hal := hal.trans (hb5.mono hal.size)
        have hMlt := hM.lt
        replace hM := hM.below hb5
        have hn10 : b10 ≠ g := by
          intro e
          rcases hM.mac with ⟨_, _, _, h3⟩ | ⟨h1, _⟩
          · obtain ⟨cs, h5, _⟩ := h3; rw [← e, g1] at h5; simp at h5
          · omega
        go_upto_region 16 with (fail)
        refine wp_region_lit ?_
        iterate 1
          refine wl_val rfl ?_ ?_ ?_
          rotate_left
          · go_simp; try with_reducible rfl
          intro K hK
          go_simp
          refine hK _ _ ?_
          clear hK K
        refine wl_sti rfl (.tmp 61) (.const (.int .i64 0)) rfl b10 1 (akC (f i)) 34 0 (by simp [akC]) rfl rfl g1 (fun w5' m1 m2 m3 => ?_)
        intro K hK
        go_simp
        refine hK _ _ ?_
        clear hK K
        have X10 : w5'.heap[b10]? = some (.cells (akC { f i with obj := 0 }) 34 (0, 0)) := m1
        have hb5' : Below wr.heap.size wr w5' := hb5.trans (m3 _ hz10)
        replace hal := hal.trans (m3 _ (by have := hal.size; omega))
        replace hM := hM.keep (m2 bM (by omega)) (fun _ => m2 g (fun e => hn10 e.symm)) (nm_keep hM.names (m2 0 (by have := hM.names.pos; omega)))
        clear m1 m2 m3 g1 hb5 hb5'
        obtain ⟨x, hx⟩ : ∃ x : Ak, Hid (x = { f i with obj := 0 }) := ⟨_, rfl⟩
        rw [← hx.out] at X10
        have hxo : x.obj = 0 := by rw [hx.out]
        have hxr : 0 ≤ x.arg ∧ x.arg < 4294967296 := by rw [hx.out]; exact ⟨hxa.1, by have := hxa.2; simp only; omega⟩
        clear hxa hx
        obtain ⟨x0, x1, x2, x3, x4, x5⟩ := x
        simp only at hxo hxr
        subst hxo
        unfold akC at X10
        go_upto_region 17 with (fail)
        refine wp_region_lit ?_
        iterate 1
          refine wl_val rfl ?_ ?_ ?_
          rotate_left
          · go_simp; try with_reducible rfl
          intro K hK
          go_simp
          refine hK _ _ ?_
          clear hK K
        refine wl_load rfl 34 (.tmp 10) rfl _ rfl _ _ _ _ X10 Tryd.underlying34 rfl (by kernel_rfl) ?_
        intro K hK
        go_simp
        refine hK _ _ ?_
        clear hK K
        have hcall := doAll (bM := bM) (g := g) (n := 1) (cap := cap) (t := 4) (S := S) (by omega) ⟨x0, 0, x2, x3, x4, x5⟩ hxr w5' hM
        obtain ⟨p, hp⟩ : ∃ p, Hid (p = mac 4 1 S ⟨x0, 0, x2, x3, x4, x5⟩) := ⟨_, rfl⟩
        rw [← hp.out] at hcall
        refine wl_calls rfl 14 #[.pointer (some ⟨bM, 0, none⟩), akV ⟨x0, 0, x2, x3, x4, x5⟩] (fun v w' => ∃ V c, v = ansV p.r V p.dn c p.ok ∧ DatA w' V p.dn p.dat ∧ (∀ b, V = some ⟨b, 0, none⟩ → w5'.heap.size ≤ b) ∧ MacA w' bM g 1 cap 4 p.S ∧ Exc g w5' w') ?_ (hcall.mono fun e w' hh => by
          obtain ⟨⟨V, c, e1, e2, e3⟩, hh1, hh2⟩ := hh
          exact ⟨_, e1, V, c, rfl, e2, e3, hh1, hh2⟩) (fun v w6 hd => ?_)
        · unfold akV akC; first | (go_simp; done) | (go_simp; rfl)
        clear hcall
        obtain ⟨V, c, rfl, hD, hV, hM6, hE6⟩ := hd
        intro K hK
        go_simp
        refine hK _ _ ?_
        clear hK K
        unfold ansV
        iterate 3
          refine wl_val rfl ?_ ?_ ?_
          rotate_left
          · go_simp; try with_reducible rfl
          intro K hK
          go_simp
          refine hK _ _ ?_
          clear hK K
        refine wl_alloc rfl 38 rfl (.agg #[.int .u32 0, .slice none 0 0]) #[.int .u32 0, .slice none 0 0] (fun w => by kernel_rfl) rfl (fun w7 b13 X13 l7 f7 => ?_)
        intro K hK
        go_simp
        refine hK _ _ ?_
        clear hK K
        refine wl_store rfl 38 (.tmp 11) (.tmp 66) rfl b13 #[.int .u32 p.r, .slice V p.dn c] rfl rfl 38 _ X13 (by kernel_rfl) rfl (by simp [Value.oneCell']) (fun w8 k1 k2 k3 k4 => ?_)
        intro K hK
        go_simp
        refine hK _ _ ?_
        clear hK K
        refine wl_val rfl (.bool p.ok) ?_ ?_
        · go_simp
        intro K hK
        go_simp
        refine hK _ _ ?_
        clear hK K
        have hb8 : Below w6.heap.size w6 w8 := l7.trans (k3 _ (by simp only [Hid] at f7; omega))
        have hz13 : w6.heap.size ≤ b13 := by simp only [Hid] at f7; omega
        clear X13 l7 f7 k2 k3 k4
        have hst := one_step (s := S 0) (x := ⟨x0, 0, x2, x3, x4, x5⟩) (by omega)
        rw [mac_in (i := 0) (by omega) (by simp)] at hp
        have hp1 : p.r = (goA 4 (S 0) ⟨x0, 0, x2, x3, x4, x5⟩).r := by rw [hp.out]
        have hp2 : p.ok = (goA 4 (S 0) ⟨x0, 0, x2, x3, x4, x5⟩).ok := by rw [hp.out]
        have hp3 : p.S 0 = (goA 4 (S 0) ⟨x0, 0, x2, x3, x4, x5⟩).s := by rw [hp.out]; exact updS_at S 0 _
        obtain ⟨s1, s2, s3, s4⟩ := hst
        rw [← hp3] at s1 s2 s3 s4
        rw [← hp2, ← hp1] at s2 s3
        rw [← hp2, ← hp1] at s4
        clear hp hp1 hp2 hp3
        simp only at s2 s3 s4
        replace X10 := keep ((hE6.blk b10 (blk_lt X10) hn10).trans X10) hb8
        replace hM := hM6.below hb8
        replace hal := hal.trans (hE6.low _ (by omega) hal.size)
        replace hal := hal.trans (hb8.mono hal.size)
        clear hM6 hE6 hb8 hD
        obtain ⟨S', r, ok, dn, dat⟩ := p
        simp only at k1 s1 s2 s3 s4 hM
        have y11 := cell_of_row w8 b13 0 _ 38 _ k1
        have y102 := cell_of_row w8 b10 2 _ 34 _ X10
        have y100 := cell_of_row w8 b10 0 _ 34 _ X10
        clear k1 X10
        cases ok
        · have hkd' : (S' 0).o.k = 7 := by rw [s1]; exact hkd
          clear hkd
          have ho' : (S' 0).owner = h := by rw [s4 (.inl rfl)]; exact hown
          clear s1 s2 s3 s4 hown
          go_wp2
          go_roundw
          case rel => exact ⟨i + 1, h, S', by go_num, rfl, by omega, ho', hkd', hM, hal⟩
          case measure => simp [intOf]; omega
        · by_cases hr : r = 0
          · subst hr
            by_cases c1 : x2 = 1
            · subst c1
              obtain ⟨t1, t2⟩ := s2 rfl rfl rfl
              obtain rfl : h = -1 := by omega
              have hkd' : (S' 0).o.k = 7 := by rw [s1]; exact hkd
              clear hkd
              have ho' : (S' 0).owner = x0 := t2
              clear s1 s2 s3 s4 hown
              go_wp2
              go_roundw
              case rel => exact ⟨i + 1, x0, S', by go_num, rfl, by omega, ho', hkd', hM, hal⟩
              case measure => simp [intOf]; omega
            · by_cases c2 : x2 = 2
              · subst c2
                obtain ⟨t1, t2⟩ := s3 rfl rfl rfl
                obtain rfl : h = x0 := by omega
                have hkd' : (S' 0).o.k = 7 := by rw [s1]; exact hkd
                clear hkd
                have ho' : (S' 0).owner = (-1) := t2
                clear s1 s2 s3 s4 hown
                go_wp2
                go_roundw
                case rel => exact ⟨i + 1, (-1), S', by go_num, rfl, by omega, ho', hkd', hM, hal⟩
                case measure => simp [intOf]; omega
              · have q1 : (x2 == 1) = false := by simp [c1]
                have q2 : (x2 == 2) = false := by simp [c2]
                have hkd' : (S' 0).o.k = 7 := by rw [s1]; exact hkd
                clear hkd
                have ho' : (S' 0).owner = h := by rw [s4 (.inr (.inr ⟨c1, c2⟩))]; exact hown
                clear s1 s2 s3 s4 hown
                go_wp2
                go_roundw
                case rel => exact ⟨i + 1, h, S', by go_num, rfl, by omega, ho', hkd', hM, hal⟩
                case measure => simp [intOf]; omega
          · have qr : (r != 0) = true := by simp [hr]
            have hkd' : (S' 0).o.k = 7 := by rw [s1]; exact hkd
            clear hkd
            have ho' : (S' 0).owner = h := by rw [s4 (.inr (.inl hr))]; exact hown
            clear s1 s2 s3 s4 hown
            go_wp2
            go_roundw
            case rel => exact ⟨i + 1, h, S', by go_num, rfl, by omega, ho', hkd', hM, hal⟩
            case measure => simp [intOf]; omega
    · by_cases k9 : k = 9
      · subst k9
        have hrb : rb ⟨9, 1, 0, 0⟩ 4 = true := by rfl
        go_enter Tryd.func4, Tryd.ntmps4
        go_wp2_with fail
        refine (awake w hN).mono ?_
        rintro e w1 ⟨rfl, hb1⟩
        go_wp2_with fail
        have hb2 := (Below.refl w1.heap.size w1).alloc (Nat.le_refl _) (.cells #[.int .i64 9, .int .i64 1, .int .i64 0, .int .i64 0] 48)
        have hO := objs1 (w1.alloc (.cells #[.int .i64 9, .int .i64 1, .int .i64 0, .int .i64 0] 48)) ⟨9, 1, 0, 0⟩
        have hb3 := hb2.alloc (by simp) (.cells #[.int .i64 9, .int .i64 1, .int .i64 0, .int .i64 0] 48)
        have hal := hb1.trans (hb3.mono hb1.size)
        have hs : (w1.alloc (.cells #[.int .i64 9, .int .i64 1, .int .i64 0, .int .i64 0] 48)).heap.size = w1.heap.size + 1 := by simp
        rw [hs] at hO
        refine (newA _ 1 1 (fun _ => ⟨9, 1, 0, 0⟩) (by omega) 4 _ hO (hN.below hal)).mono ?_
        rintro e w3 ⟨hbn, hok, -⟩
        obtain ⟨bM, g, cap, rfl, hM, hzM, hMg⟩ := hok ⟨by omega, by omega, fun _ _ => hrb⟩
        have hz : w.heap.size ≤ bM := by have := hb1.size; simp at hzM; omega
        replace hal := hal.trans (hbn.mono hal.size)
        clear hb1 hb2 hb3 hO hs hzM hbn
        go_upto_region 13 with (fail)
        go_loopw [8, 9] (fun v u wr => ∃ (i : Nat) (h : Int) (S : Nat → St), u = .int .i64 i ∧ v = .int .i64 h ∧ i ≤ nc ∧ (S 0).owner = h ∧ (S 0).o.k = 9 ∧ MacA wr bM g 1 cap 4 S ∧ Below w.heap.size w wr) (fun _ u _ => nc - (intOf u).toNat)
        case atStart => exact ⟨0, -1, _, rfl, rfl, Nat.zero_le _, rfl, rfl, hM, hal⟩
        case round =>
          obtain ⟨i, h, S, rfl, rfl, hi, hown, hkd, hM, hal⟩ := hrel
          by_cases hlt : i < nc
          case neg =>
            obtain rfl : i = nc := by omega
            have hl1 : ¬ ((i : Int) < i) := by omega
            go_wp2
            go_ret
            exact ⟨rfl, hal⟩
          have hl0 : (0 : Int) ≤ i := by omega
          have hl1 : (i : Int) < nc := by omega
          obtain ⟨bV, oV, rfl⟩ := ask_ptr hV (by omega)
          have hxa := (at_ask hV hlt).2
          go_upto_region 15 with (fail)
          refine wp_region_lit ?_
          iterate 2
            refine wl_val rfl ?_ ?_ ?_
            rotate_left
            · go_simp; try with_reducible rfl
            intro K hK
            go_simp
            refine hK _ _ ?_
            clear hK K
          refine wl_val rfl (.pointer (some ⟨bV, oV + i * 6, none⟩)) ?_ ?_
          · go_simp
          intro K hK
          go_simp
          refine hK _ _ ?_
          clear hK K
          refine wl_val rfl (akV (f i)) (run_ldask (.tmp 59) rfl bV oV i (hV.below hal) hlt rfl) ?_
          intro K hK
          go_simp
          refine hK _ _ ?_
          clear hK K
          refine wl_alloc rfl 34 rfl (.agg #[.int .i64 0, .int .i64 0, .int .i64 0, .int .i64 0, .int .u32 0, .int .u32 0]) #[.int .i64 0, .int .i64 0, .int .i64 0, .int .i64 0, .int .u32 0, .int .u32 0] (fun w => by kernel_rfl) rfl (fun w4 b10 X10 l4 f4 => ?_)
          intro K hK
          go_simp
          refine hK _ _ ?_
          clear hK K
          refine wl_store rfl 34 (.tmp 10) (.tmp 60) rfl b10 (akC (f i)) rfl rfl 34 _ X10 (by kernel_rfl) rfl (by simp [akC, Value.oneCell']) (fun w5 g1 g2 g3 g4 => ?_)
          intro K hK
          go_simp
          refine hK _ _ ?_
          clear hK K
          have hb5 : Below wr.heap.size wr w5 := l4.trans (g3 _ (by simp only [Hid] at f4; omega))
          have hz10 : wr.heap.size ≤ b10 := by simp only [Hid] at f4; omega
          clear X10 l4 f4 g2 g3 g4
          replace hal := hal.trans (hb5.mono hal.size)
          have hMlt := hM.lt
          replace hM := hM.below hb5
          have hn10 : b10 ≠ g := by
            intro e
            rcases hM.mac with ⟨_, _, _, h3⟩ | ⟨h1, _⟩
            · obtain ⟨cs, h5, _⟩ := h3; rw [← e, g1] at h5; simp at h5
            · omega
          go_upto_region 16 with (fail)
          refine wp_region_lit ?_
          iterate 1
            refine wl_val rfl ?_ ?_ ?_
            rotate_left
            · go_simp; try with_reducible rfl
            intro K hK
            go_simp
            refine hK _ _ ?_
            clear hK K
          refine wl_sti rfl (.tmp 61) (.const (.int .i64 0)) rfl b10 1 (akC (f i)) 34 0 (by simp [akC]) rfl rfl g1 (fun w5' m1 m2 m3 => ?_)
          intro K hK
          go_simp
          refine hK _ _ ?_
          clear hK K
          have X10 : w5'.heap[b10]? = some (.cells (akC { f i with obj := 0 }) 34 (0, 0)) := m1
          have hb5' : Below wr.heap.size wr w5' := hb5.trans (m3 _ hz10)
          replace hal := hal.trans (m3 _ (by have := hal.size; omega))
          replace hM := hM.keep (m2 bM (by omega)) (fun _ => m2 g (fun e => hn10 e.symm)) (nm_keep hM.names (m2 0 (by have := hM.names.pos; omega)))
          clear m1 m2 m3 g1 hb5 hb5'
          obtain ⟨x, hx⟩ : ∃ x : Ak, Hid (x = { f i with obj := 0 }) := ⟨_, rfl⟩
          rw [← hx.out] at X10
          have hxo : x.obj = 0 := by rw [hx.out]
          have hxr : 0 ≤ x.arg ∧ x.arg < 4294967296 := by rw [hx.out]; exact ⟨hxa.1, by have := hxa.2; simp only; omega⟩
          clear hxa hx
          obtain ⟨x0, x1, x2, x3, x4, x5⟩ := x
          simp only at hxo hxr
          subst hxo
          unfold akC at X10
          go_upto_region 17 with (fail)
          refine wp_region_lit ?_
          iterate 1
            refine wl_val rfl ?_ ?_ ?_
            rotate_left
            · go_simp; try with_reducible rfl
            intro K hK
            go_simp
            refine hK _ _ ?_
            clear hK K
          refine wl_load rfl 34 (.tmp 10) rfl _ rfl _ _ _ _ X10 Tryd.underlying34 rfl (by kernel_rfl) ?_
          intro K hK
          go_simp
          refine hK _ _ ?_
          clear hK K
          have hcall := doAll (bM := bM) (g := g) (n := 1) (cap := cap) (t := 4) (S := S) (by omega) ⟨x0, 0, x2, x3, x4, x5⟩ hxr w5' hM
          obtain ⟨p, hp⟩ : ∃ p, Hid (p = mac 4 1 S ⟨x0, 0, x2, x3, x4, x5⟩) := ⟨_, rfl⟩
          rw [← hp.out] at hcall
          refine wl_calls rfl 14 #[.pointer (some ⟨bM, 0, none⟩), akV ⟨x0, 0, x2, x3, x4, x5⟩] (fun v w' => ∃ V c, v = ansV p.r V p.dn c p.ok ∧ DatA w' V p.dn p.dat ∧ (∀ b, V = some ⟨b, 0, none⟩ → w5'.heap.size ≤ b) ∧ MacA w' bM g 1 cap 4 p.S ∧ Exc g w5' w') ?_ (hcall.mono fun e w' hh => by
            obtain ⟨⟨V, c, e1, e2, e3⟩, hh1, hh2⟩ := hh
            exact ⟨_, e1, V, c, rfl, e2, e3, hh1, hh2⟩) (fun v w6 hd => ?_)
          · unfold akV akC; first | (go_simp; done) | (go_simp; rfl)
          clear hcall
          obtain ⟨V, c, rfl, hD, hV, hM6, hE6⟩ := hd
          intro K hK
          go_simp
          refine hK _ _ ?_
          clear hK K
          unfold ansV
          iterate 3
            refine wl_val rfl ?_ ?_ ?_
            rotate_left
            · go_simp; try with_reducible rfl
            intro K hK
            go_simp
            refine hK _ _ ?_
            clear hK K
          refine wl_alloc rfl 38 rfl (.agg #[.int .u32 0, .slice none 0 0]) #[.int .u32 0, .slice none 0 0] (fun w => by kernel_rfl) rfl (fun w7 b13 X13 l7 f7 => ?_)
          intro K hK
          go_simp
          refine hK _ _ ?_
          clear hK K
          refine wl_store rfl 38 (.tmp 11) (.tmp 66) rfl b13 #[.int .u32 p.r, .slice V p.dn c] rfl rfl 38 _ X13 (by kernel_rfl) rfl (by simp [Value.oneCell']) (fun w8 k1 k2 k3 k4 => ?_)
          intro K hK
          go_simp
          refine hK _ _ ?_
          clear hK K
          refine wl_val rfl (.bool p.ok) ?_ ?_
          · go_simp
          intro K hK
          go_simp
          refine hK _ _ ?_
          clear hK K
          have hb8 : Below w6.heap.size w6 w8 := l7.trans (k3 _ (by simp only [Hid] at f7; omega))
          have hz13 : w6.heap.size ≤ b13 := by simp only [Hid] at f7; omega
          clear X13 l7 f7 k2 k3 k4
          have hst := one_step (s := S 0) (x := ⟨x0, 0, x2, x3, x4, x5⟩) (by omega)
          rw [mac_in (i := 0) (by omega) (by simp)] at hp
          have hp1 : p.r = (goA 4 (S 0) ⟨x0, 0, x2, x3, x4, x5⟩).r := by rw [hp.out]
          have hp2 : p.ok = (goA 4 (S 0) ⟨x0, 0, x2, x3, x4, x5⟩).ok := by rw [hp.out]
          have hp3 : p.S 0 = (goA 4 (S 0) ⟨x0, 0, x2, x3, x4, x5⟩).s := by rw [hp.out]; exact updS_at S 0 _
          obtain ⟨s1, s2, s3, s4⟩ := hst
          rw [← hp3] at s1 s2 s3 s4
          rw [← hp2, ← hp1] at s2 s3
          rw [← hp2, ← hp1] at s4
          clear hp hp1 hp2 hp3
          simp only at s2 s3 s4
          replace X10 := keep ((hE6.blk b10 (blk_lt X10) hn10).trans X10) hb8
          replace hM := hM6.below hb8
          replace hal := hal.trans (hE6.low _ (by omega) hal.size)
          replace hal := hal.trans (hb8.mono hal.size)
          clear hM6 hE6 hb8 hD
          obtain ⟨S', r, ok, dn, dat⟩ := p
          simp only at k1 s1 s2 s3 s4 hM
          have y11 := cell_of_row w8 b13 0 _ 38 _ k1
          have y102 := cell_of_row w8 b10 2 _ 34 _ X10
          have y100 := cell_of_row w8 b10 0 _ 34 _ X10
          clear k1 X10
          cases ok
          · have hkd' : (S' 0).o.k = 9 := by rw [s1]; exact hkd
            clear hkd
            have ho' : (S' 0).owner = h := by rw [s4 (.inl rfl)]; exact hown
            clear s1 s2 s3 s4 hown
            go_wp2
            go_roundw
            case rel => exact ⟨i + 1, h, S', by go_num, rfl, by omega, ho', hkd', hM, hal⟩
            case measure => simp [intOf]; omega
          · by_cases hr : r = 0
            · subst hr
              by_cases c1 : x2 = 1
              · subst c1
                obtain ⟨t1, t2⟩ := s2 rfl rfl rfl
                obtain rfl : h = -1 := by omega
                have hkd' : (S' 0).o.k = 9 := by rw [s1]; exact hkd
                clear hkd
                have ho' : (S' 0).owner = x0 := t2
                clear s1 s2 s3 s4 hown
                go_wp2
                go_roundw
                case rel => exact ⟨i + 1, x0, S', by go_num, rfl, by omega, ho', hkd', hM, hal⟩
                case measure => simp [intOf]; omega
              · by_cases c2 : x2 = 2
                · subst c2
                  obtain ⟨t1, t2⟩ := s3 rfl rfl rfl
                  obtain rfl : h = x0 := by omega
                  have hkd' : (S' 0).o.k = 9 := by rw [s1]; exact hkd
                  clear hkd
                  have ho' : (S' 0).owner = (-1) := t2
                  clear s1 s2 s3 s4 hown
                  go_wp2
                  go_roundw
                  case rel => exact ⟨i + 1, (-1), S', by go_num, rfl, by omega, ho', hkd', hM, hal⟩
                  case measure => simp [intOf]; omega
                · have q1 : (x2 == 1) = false := by simp [c1]
                  have q2 : (x2 == 2) = false := by simp [c2]
                  have hkd' : (S' 0).o.k = 9 := by rw [s1]; exact hkd
                  clear hkd
                  have ho' : (S' 0).owner = h := by rw [s4 (.inr (.inr ⟨c1, c2⟩))]; exact hown
                  clear s1 s2 s3 s4 hown
                  go_wp2
                  go_roundw
                  case rel => exact ⟨i + 1, h, S', by go_num, rfl, by omega, ho', hkd', hM, hal⟩
                  case measure => simp [intOf]; omega
            · have qr : (r != 0) = true := by simp [hr]
              have hkd' : (S' 0).o.k = 9 := by rw [s1]; exact hkd
              clear hkd
              have ho' : (S' 0).owner = h := by rw [s4 (.inr (.inl hr))]; exact hown
              clear s1 s2 s3 s4 hown
              go_wp2
              go_roundw
              case rel => exact ⟨i + 1, h, S', by go_num, rfl, by omega, ho', hkd', hM, hal⟩
              case measure => simp [intOf]; omega
      · have q6 : (k != 6) = true := by simp [k6]
        have q7 : (k != 7) = true := by simp [k7]
        have q9 : (k == 9) = false := by simp [k9]
        have hrb : rb ⟨k, 0, 0, 0⟩ 4 = true := rb_k hk1 hk10 k6 k7 k9
        go_enter Tryd.func4, Tryd.ntmps4
        go_wp2_with fail
        refine (awake w hN).mono ?_
        rintro e w1 ⟨rfl, hb1⟩
        go_wp2_with fail
        have hb2 := (Below.refl w1.heap.size w1).alloc (Nat.le_refl _) (.cells #[.int .i64 k, .int .i64 0, .int .i64 0, .int .i64 0] 48)
        have hO := objs1 (w1.alloc (.cells #[.int .i64 k, .int .i64 0, .int .i64 0, .int .i64 0] 48)) ⟨k, 0, 0, 0⟩
        have hb3 := hb2.alloc (by simp) (.cells #[.int .i64 k, .int .i64 0, .int .i64 0, .int .i64 0] 48)
        have hal := hb1.trans (hb3.mono hb1.size)
        have hs : (w1.alloc (.cells #[.int .i64 k, .int .i64 0, .int .i64 0, .int .i64 0] 48)).heap.size = w1.heap.size + 1 := by simp
        rw [hs] at hO
        refine (newA _ 1 1 (fun _ => ⟨k, 0, 0, 0⟩) (by omega) 4 _ hO (hN.below hal)).mono ?_
        rintro e w3 ⟨hbn, hok, -⟩
        obtain ⟨bM, g, cap, rfl, hM, hzM, hMg⟩ := hok ⟨by omega, by omega, fun _ _ => hrb⟩
        have hz : w.heap.size ≤ bM := by have := hb1.size; simp at hzM; omega
        replace hal := hal.trans (hbn.mono hal.size)
        clear hb1 hb2 hb3 hO hs hzM hbn
        go_upto_region 13 with (fail)
        go_loopw [8, 9] (fun v u wr => ∃ (i : Nat) (h : Int) (S : Nat → St), u = .int .i64 i ∧ v = .int .i64 h ∧ i ≤ nc ∧ (S 0).owner = h ∧ (S 0).o.k = k ∧ MacA wr bM g 1 cap 4 S ∧ Below w.heap.size w wr) (fun _ u _ => nc - (intOf u).toNat)
        case atStart => exact ⟨0, -1, _, rfl, rfl, Nat.zero_le _, rfl, rfl, hM, hal⟩
        case round =>
          obtain ⟨i, h, S, rfl, rfl, hi, hown, hkd, hM, hal⟩ := hrel
          by_cases hlt : i < nc
          case neg =>
            obtain rfl : i = nc := by omega
            have hl1 : ¬ ((i : Int) < i) := by omega
            go_wp2
            go_ret
            exact ⟨rfl, hal⟩
          have hl0 : (0 : Int) ≤ i := by omega
          have hl1 : (i : Int) < nc := by omega
          obtain ⟨bV, oV, rfl⟩ := ask_ptr hV (by omega)
          have hxa := (at_ask hV hlt).2
          go_upto_region 15 with (fail)
          refine wp_region_lit ?_
          iterate 2
            refine wl_val rfl ?_ ?_ ?_
            rotate_left
            · go_simp; try with_reducible rfl
            intro K hK
            go_simp
            refine hK _ _ ?_
            clear hK K
          refine wl_val rfl (.pointer (some ⟨bV, oV + i * 6, none⟩)) ?_ ?_
          · go_simp
          intro K hK
          go_simp
          refine hK _ _ ?_
          clear hK K
          refine wl_val rfl (akV (f i)) (run_ldask (.tmp 59) rfl bV oV i (hV.below hal) hlt rfl) ?_
          intro K hK
          go_simp
          refine hK _ _ ?_
          clear hK K
          refine wl_alloc rfl 34 rfl (.agg #[.int .i64 0, .int .i64 0, .int .i64 0, .int .i64 0, .int .u32 0, .int .u32 0]) #[.int .i64 0, .int .i64 0, .int .i64 0, .int .i64 0, .int .u32 0, .int .u32 0] (fun w => by kernel_rfl) rfl (fun w4 b10 X10 l4 f4 => ?_)
          intro K hK
          go_simp
          refine hK _ _ ?_
          clear hK K
          refine wl_store rfl 34 (.tmp 10) (.tmp 60) rfl b10 (akC (f i)) rfl rfl 34 _ X10 (by kernel_rfl) rfl (by simp [akC, Value.oneCell']) (fun w5 g1 g2 g3 g4 => ?_)
          intro K hK
          go_simp
          refine hK _ _ ?_
          clear hK K
          have hb5 : Below wr.heap.size wr w5 := l4.trans (g3 _ (by simp only [Hid] at f4; omega))
          have hz10 : wr.heap.size ≤ b10 := by simp only [Hid] at f4; omega
          clear X10 l4 f4 g2 g3 g4
          replace hal := hal.trans (hb5.mono hal.size)
          have hMlt := hM.lt
          replace hM := hM.below hb5
          have hn10 : b10 ≠ g := by
            intro e
            rcases hM.mac with ⟨_, _, _, h3⟩ | ⟨h1, _⟩
            · obtain ⟨cs, h5, _⟩ := h3; rw [← e, g1] at h5; simp at h5
            · omega
          go_upto_region 16 with (fail)
          refine wp_region_lit ?_
          iterate 1
            refine wl_val rfl ?_ ?_ ?_
            rotate_left
            · go_simp; try with_reducible rfl
            intro K hK
            go_simp
            refine hK _ _ ?_
            clear hK K
          refine wl_sti rfl (.tmp 61) (.const (.int .i64 0)) rfl b10 1 (akC (f i)) 34 0 (by simp [akC]) rfl rfl g1 (fun w5' m1 m2 m3 => ?_)
          intro K hK
          go_simp
          refine hK _ _ ?_
          clear hK K
          have X10 : w5'.heap[b10]? = some (.cells (akC { f i with obj := 0 }) 34 (0, 0)) := m1
          have hb5' : Below wr.heap.size wr w5' := hb5.trans (m3 _ hz10)
          replace hal := hal.trans (m3 _ (by have := hal.size; omega))
          replace hM := hM.keep (m2 bM (by omega)) (fun _ => m2 g (fun e => hn10 e.symm)) (nm_keep hM.names (m2 0 (by have := hM.names.pos; omega)))
          clear m1 m2 m3 g1 hb5 hb5'
          obtain ⟨x, hx⟩ : ∃ x : Ak, Hid (x = { f i with obj := 0 }) := ⟨_, rfl⟩
          rw [← hx.out] at X10
          have hxo : x.obj = 0 := by rw [hx.out]
          have hxr : 0 ≤ x.arg ∧ x.arg < 4294967296 := by rw [hx.out]; exact ⟨hxa.1, by have := hxa.2; simp only; omega⟩
          clear hxa hx
          obtain ⟨x0, x1, x2, x3, x4, x5⟩ := x
          simp only at hxo hxr
          subst hxo
          unfold akC at X10
          go_upto_region 17 with (fail)
          refine wp_region_lit ?_
          iterate 1
            refine wl_val rfl ?_ ?_ ?_
            rotate_left
            · go_simp; try with_reducible rfl
            intro K hK
            go_simp
            refine hK _ _ ?_
            clear hK K
          refine wl_load rfl 34 (.tmp 10) rfl _ rfl _ _ _ _ X10 Tryd.underlying34 rfl (by kernel_rfl) ?_
          intro K hK
          go_simp
          refine hK _ _ ?_
          clear hK K
          have hcall := doAll (bM := bM) (g := g) (n := 1) (cap := cap) (t := 4) (S := S) (by omega) ⟨x0, 0, x2, x3, x4, x5⟩ hxr w5' hM
          obtain ⟨p, hp⟩ : ∃ p, Hid (p = mac 4 1 S ⟨x0, 0, x2, x3, x4, x5⟩) := ⟨_, rfl⟩
          rw [← hp.out] at hcall
          refine wl_calls rfl 14 #[.pointer (some ⟨bM, 0, none⟩), akV ⟨x0, 0, x2, x3, x4, x5⟩] (fun v w' => ∃ V c, v = ansV p.r V p.dn c p.ok ∧ DatA w' V p.dn p.dat ∧ (∀ b, V = some ⟨b, 0, none⟩ → w5'.heap.size ≤ b) ∧ MacA w' bM g 1 cap 4 p.S ∧ Exc g w5' w') ?_ (hcall.mono fun e w' hh => by
            obtain ⟨⟨V, c, e1, e2, e3⟩, hh1, hh2⟩ := hh
            exact ⟨_, e1, V, c, rfl, e2, e3, hh1, hh2⟩) (fun v w6 hd => ?_)
          · unfold akV akC; first | (go_simp; done) | (go_simp; rfl)
          clear hcall
          obtain ⟨V, c, rfl, hD, hV, hM6, hE6⟩ := hd
          intro K hK
          go_simp
          refine hK _ _ ?_
          clear hK K
          unfold ansV
          iterate 3
            refine wl_val rfl ?_ ?_ ?_
            rotate_left
            · go_simp; try with_reducible rfl
            intro K hK
            go_simp
            refine hK _ _ ?_
            clear hK K
          refine wl_alloc rfl 38 rfl (.agg #[.int .u32 0, .slice none 0 0]) #[.int .u32 0, .slice none 0 0] (fun w => by kernel_rfl) rfl (fun w7 b13 X13 l7 f7 => ?_)
          intro K hK
          go_simp
          refine hK _ _ ?_
          clear hK K
          refine wl_store rfl 38 (.tmp 11) (.tmp 66) rfl b13 #[.int .u32 p.r, .slice V p.dn c] rfl rfl 38 _ X13 (by kernel_rfl) rfl (by simp [Value.oneCell']) (fun w8 k1 k2 k3 k4 => ?_)
          intro K hK
          go_simp
          refine hK _ _ ?_
          clear hK K
          refine wl_val rfl (.bool p.ok) ?_ ?_
          · go_simp
          intro K hK
          go_simp
          refine hK _ _ ?_
          clear hK K
          have hb8 : Below w6.heap.size w6 w8 := l7.trans (k3 _ (by simp only [Hid] at f7; omega))
          have hz13 : w6.heap.size ≤ b13 := by simp only [Hid] at f7; omega
          clear X13 l7 f7 k2 k3 k4
          have hst := one_step (s := S 0) (x := ⟨x0, 0, x2, x3, x4, x5⟩) (by omega)
          rw [mac_in (i := 0) (by omega) (by simp)] at hp
          have hp1 : p.r = (goA 4 (S 0) ⟨x0, 0, x2, x3, x4, x5⟩).r := by rw [hp.out]
          have hp2 : p.ok = (goA 4 (S 0) ⟨x0, 0, x2, x3, x4, x5⟩).ok := by rw [hp.out]
          have hp3 : p.S 0 = (goA 4 (S 0) ⟨x0, 0, x2, x3, x4, x5⟩).s := by rw [hp.out]; exact updS_at S 0 _
          obtain ⟨s1, s2, s3, s4⟩ := hst
          rw [← hp3] at s1 s2 s3 s4
          rw [← hp2, ← hp1] at s2 s3
          rw [← hp2, ← hp1] at s4
          clear hp hp1 hp2 hp3
          simp only at s2 s3 s4
          replace X10 := keep ((hE6.blk b10 (blk_lt X10) hn10).trans X10) hb8
          replace hM := hM6.below hb8
          replace hal := hal.trans (hE6.low _ (by omega) hal.size)
          replace hal := hal.trans (hb8.mono hal.size)
          clear hM6 hE6 hb8 hD
          obtain ⟨S', r, ok, dn, dat⟩ := p
          simp only at k1 s1 s2 s3 s4 hM
          have y11 := cell_of_row w8 b13 0 _ 38 _ k1
          have y102 := cell_of_row w8 b10 2 _ 34 _ X10
          have y100 := cell_of_row w8 b10 0 _ 34 _ X10
          clear k1 X10
          cases ok
          · have hkd' : (S' 0).o.k = k := by rw [s1]; exact hkd
            clear hkd
            have ho' : (S' 0).owner = h := by rw [s4 (.inl rfl)]; exact hown
            clear s1 s2 s3 s4 hown
            go_wp2
            go_roundw
            case rel => exact ⟨i + 1, h, S', by go_num, rfl, by omega, ho', hkd', hM, hal⟩
            case measure => simp [intOf]; omega
          · by_cases hr : r = 0
            · subst hr
              by_cases c1 : x2 = 1
              · subst c1
                obtain ⟨t1, t2⟩ := s2 rfl rfl rfl
                obtain rfl : h = -1 := by omega
                have hkd' : (S' 0).o.k = k := by rw [s1]; exact hkd
                clear hkd
                have ho' : (S' 0).owner = x0 := t2
                clear s1 s2 s3 s4 hown
                go_wp2
                go_roundw
                case rel => exact ⟨i + 1, x0, S', by go_num, rfl, by omega, ho', hkd', hM, hal⟩
                case measure => simp [intOf]; omega
              · by_cases c2 : x2 = 2
                · subst c2
                  obtain ⟨t1, t2⟩ := s3 rfl rfl rfl
                  obtain rfl : h = x0 := by omega
                  have hkd' : (S' 0).o.k = k := by rw [s1]; exact hkd
                  clear hkd
                  have ho' : (S' 0).owner = (-1) := t2
                  clear s1 s2 s3 s4 hown
                  go_wp2
                  go_roundw
                  case rel => exact ⟨i + 1, (-1), S', by go_num, rfl, by omega, ho', hkd', hM, hal⟩
                  case measure => simp [intOf]; omega
                · have q1 : (x2 == 1) = false := by simp [c1]
                  have q2 : (x2 == 2) = false := by simp [c2]
                  have hkd' : (S' 0).o.k = k := by rw [s1]; exact hkd
                  clear hkd
                  have ho' : (S' 0).owner = h := by rw [s4 (.inr (.inr ⟨c1, c2⟩))]; exact hown
                  clear s1 s2 s3 s4 hown
                  go_wp2
                  go_roundw
                  case rel => exact ⟨i + 1, h, S', by go_num, rfl, by omega, ho', hkd', hM, hal⟩
                  case measure => simp [intOf]; omega
            · have qr : (r != 0) = true := by simp [hr]
              have hkd' : (S' 0).o.k = k := by rw [s1]; exact hkd
              clear hkd
              have ho' : (S' 0).owner = h := by rw [s4 (.inr (.inl hr))]; exact hown
              clear s1 s2 s3 s4 hown
              go_wp2
              go_roundw
              case rel => exact ⟨i + 1, h, S', by go_num, rfl, by omega, ho', hkd', hM, hal⟩
              case measure => simp [intOf]; omega
end Go.Proofs.YtobkonbpcnmgpaaDoor
