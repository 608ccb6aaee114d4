/- The law RaceGuards: the plain law, and the walk. -/
import Derived.Test.YtnchafbaipeagaaFront
namespace Go.Proofs.Ytnchafbaipeagaa
open Go.RowKit
set_option linter.unusedVariables false
set_option linter.unusedSimpArgs false
/-- a slice of slices of acts -/
def Secs (w : World) (S : Option Addr) (n : Nat) (g : Nat → Option Addr × Nat × Nat) (h : Nat → Nat → Plain.A) : Prop :=
  0 < n → ∃ b off, S = some ⟨b, off, none⟩ ∧ b < w.heap.size ∧ ∀ i, i < n → w.cell? ⟨b, off + i, none⟩ = some (.slice (g i).1 (g i).2.1 (g i).2.2) ∧ Acts w (g i).1 (g i).2.1 (h i)
def Bytes (w : World) (A : Option Addr) (n : Nat) (f : Nat → Int) : Prop :=
  0 < n → ∃ b off, A = some ⟨b, off, none⟩ ∧ b < w.heap.size ∧ ∀ i, i < n → w.cell? ⟨b, off + i, none⟩ = some (.int .u8 (f i)) ∧ 0 ≤ f i ∧ f i ≤ 255
theorem Secs.below {w w' : World} {S : Option Addr} {n : Nat} {g : Nat → Option Addr × Nat × Nat} {h : Nat → Nat → Plain.A} (hs : Secs w S n g h) (hb : Below w.heap.size w w') : Secs w' S n g h := fun hn => by
  obtain ⟨b, off, e, hlt, hc⟩ := hs hn
  refine ⟨b, off, e, Nat.lt_of_lt_of_le hlt hb.size, fun i hi => ⟨?_, (hc i hi).2.below hb⟩⟩
  rw [hb.cell (p := ⟨b, off + i, none⟩) hlt]; exact (hc i hi).1
theorem secs_at {w1 wr : World} {b off n k SN SC : Nat} {SA : Option Addr} {g : Nat → Option Addr × Nat × Nat} {h : Nat → Nat → Plain.A} (hS : Secs w1 (some ⟨b, off, none⟩) n g h) (hb : Below w1.heap.size w1 wr) (hk : k < n) (hg : (SA, SN, SC) = g k) :
    wr.cell? ⟨b, off + k, none⟩ = some (.slice SA SN SC) ∧ Acts wr SA SN (h k) := by
  obtain ⟨b2, off2, e2, _, h2⟩ := (hS.below hb) (by omega)
  injection e2 with e2; injection e2 with e2 e3
  subst e2 e3
  have := h2 k hk
  rw [← hg] at this; exact this
theorem Bytes.below {w w' : World} {A : Option Addr} {n : Nat} {f : Nat → Int} (hs : Bytes w A n f) (hb : Below w.heap.size w w') : Bytes w' A n f := fun hn => by
  obtain ⟨b, off, e, hlt, hc⟩ := hs hn
  refine ⟨b, off, e, Nat.lt_of_lt_of_le hlt hb.size, fun i hi => ⟨?_, (hc i hi).2⟩⟩
  rw [hb.cell (p := ⟨b, off + i, none⟩) hlt]; exact (hc i hi).1
/-! ### chains -/
def D2 (x y : Plain.A) : Prop := Plain.right x = true ∧ Plain.right y = true ∧ (x.who = y.who ∨ x.kind = 3 ∧ y.kind = 4 ∧ x.place = y.place)
def Ch (l : List Plain.A) : Prop := ∀ j, j + 1 < l.length → D2 (at' l j) (at' l (j + 1))
def lastA (l : List Plain.A) : Plain.A := at' l (l.length - 1)
theorem lastA_push (l : List Plain.A) (x : Plain.A) : lastA (l ++ [x]) = x := by
  unfold lastA
  rw [show (l ++ [x]).length - 1 = l.length + 0 by simp, at_app_r]; rfl
theorem ch_push {l : List Plain.A} (h : Ch l) (x : Plain.A) (hx : l = [] ∨ D2 (lastA l) x) : Ch (l ++ [x]) := fun j hj => by
  rw [List.length_append, List.length_singleton] at hj
  by_cases e : j + 1 < l.length
  · rw [at_app_l _ _ _ (by omega), at_app_l _ _ _ e]; exact h j e
  · have ej : j + 1 = l.length := by omega
    rcases hx with rfl | hx
    · simp at hj
    · have e1 : at' (l ++ [x]) (j + 1) = x := by rw [show j + 1 = l.length + 0 by omega, at_app_r]; rfl
      have e2 : at' (l ++ [x]) j = lastA l := by rw [at_app_l _ _ _ (by omega)]; unfold lastA; rw [← ej]; rfl
      rw [e1, e2]; exact hx
theorem ch_find {l : List Plain.A} (h : Ch l) (n : Nat) (hn : l.length = n) : Plain.findR (Plain.raceC (at' l)) n = none := by
  subst hn
  exact Plain.find_chain fun j hj => h j hj
def Gv (l : List Plain.A) : Prop := l = [] ∨ (Plain.right (lastA l) = true ∧ (lastA l).kind = 3 ∧ (lastA l).place = 9)
def Ins (t : Nat) (l : List Plain.A) : Prop := l ≠ [] ∧ Plain.right (lastA l) = true ∧ (lastA l).who = t
theorem right_of {k p : Int} {t : Nat} (hk : 1 ≤ k ∧ k ≤ 4) (ht : t < 8) : Plain.right ⟨k, t, p⟩ = true := by simp [Plain.right]; omega
theorem take_ok {l : List Plain.A} {t : Nat} (ht : t < 8) (h : Ch l) (hg : Gv l) : Ch (l ++ [⟨4, t, 9⟩]) ∧ Ins t (l ++ [⟨4, t, 9⟩]) := by
  refine ⟨ch_push h _ ?_, by simp, ?_, ?_⟩
  · rcases hg with h0 | ⟨h1, h2, h3⟩
    · exact .inl h0
    · exact .inr ⟨h1, right_of (by omega) ht, .inr ⟨h2, rfl, h3⟩⟩
  · rw [lastA_push]; exact right_of (by omega) ht
  · rw [lastA_push]
theorem in_ok {l : List Plain.A} {t : Nat} (ht : t < 8) (h : Ch l) (hg : Ins t l) (k p : Int) (hk : 1 ≤ k ∧ k ≤ 4) : Ch (l ++ [⟨k, t, p⟩]) ∧ Ins t (l ++ [⟨k, t, p⟩]) := by
  refine ⟨ch_push h _ (.inr ⟨hg.2.1, right_of hk ht, .inl hg.2.2⟩), by simp, ?_, ?_⟩
  · rw [lastA_push]; exact right_of hk ht
  · rw [lastA_push]
theorem gv_ok {l : List Plain.A} {t : Nat} (ht : t < 8) : Gv (l ++ [⟨3, t, 9⟩]) := by
  refine .inr ⟨?_, ?_, ?_⟩ <;> rw [lastA_push]
  exact right_of (by omega) ht
/-- who came as a byte -/
theorem mod8 {x : Int} (hx : 0 ≤ x ∧ x ≤ 255) : ∃ t : Nat, x % 8 = (t : Int) ∧ t < 8 := ⟨(x % 8).toNat, by omega, by omega⟩
section
variable {ops : Array Oper} {Q : Exit → Act → World → Prop}
theorem wl_stint {rest : List Oper} {o : Oper} {a : Act} {w : World} (hgd : o.guard = none) (x y : Operand) (ho : o.op = .store 3 x y) (b j : Nat) (z : Int) (hx : a.eval x = .pointer (some ⟨b, j, none⟩)) (hy : a.eval y = .int .i64 z) (cs : Array Value) (t : TypeId) (hb : w.heap[b]? = some (.cells cs t (0, 0))) (hj : j < cs.size)
    (h : ∀ w' : World, w'.heap[b]? = some (.cells (cs.setIfInBounds j (.int .i64 z)) t (0, 0)) → (∀ k, k ≠ b → w'.heap[k]? = w.heap[k]?) → (∀ B, B ≤ b → Below B w w') → ∀ K : Act → World → Prop, (∀ a w, wpList Try.prog ops Q rest a w → K a w) → K (a.put o.dst undef) w') : wpList Try.prog ops Q (o :: rest) a w := by
  refine wpList_plain hgd fun K hK => ?_
  have hc : w.cell? ⟨b, j, none⟩ = some (cs[j]) := by rw [cell_of_row w b j cs t _ hb]; simp [hj]
  have hf := frozen_of_row w b j cs t hb
  have hsz := Try.sizeOf3
  have hst : (store ⟨b, j, none⟩ (.int .i64 z)).run Try.prog w = .ok () (w.setCell ⟨b, j, none⟩ (.int .i64 z)) := by simp [go_sem, stored, hc, hf]
  have hsv : (storeVar 3 ⟨b, j, none⟩ (.int .i64 z)).run Try.prog w = .ok () (w.setCell ⟨b, j, none⟩ (.int .i64 z)) := by
    unfold storeVar
    have hv : (Value.int .i64 z).cells = #[.int .i64 z] := rfl
    simp only [Sem.run_bind, hsz, hv, Result.andThen_ok]
    simp [storeCells, add_off, hst]
  unfold Oper.wp execOp
  simp only [ho, hx, hy, Instr.storeAt, Instr.sureAddr, Sem.run_bind, Sem.run_pure, Result.andThen_ok]
  rw [hsv]
  exact h _ (heap_setCell_same w b j cs t _ hb) (fun k hk => heap_setCell_other w _ k _ hk) (fun B hB => (Below.refl _ _).setCell hB _) K hK
end

set_option maxRecDepth 100000 in
set_option maxHeartbeats 4000000 in
theorem guards_walk (S : Option Addr) (n cn : Nat) (g : Nat → Option Addr × Nat × Nat) (h : Nat → Nat → Plain.A) (A : Option Addr) (m cm : Nat) (f : Nat → Int) (w : World) (hS : Secs w S n g h) (hW : Bytes w A m f) :
    Calls Try.prog 4 #[.slice S n cn, .slice A m cm] w fun e w' => e = .returned (.bool true) ∧ Below w.heap.size w w' := by
  by_cases hn : 80 < n
  · have hn' : (80 : Int) < n := by omega
    go_enter Try.func4, Try.ntmps4
    go_wp2_with fail
    refine (awake _).mono ?_
    rintro e w1 ⟨rfl, hb1⟩
    go_wp2_with fail
    refine (awake _).mono ?_
    rintro e w2 ⟨rfl, hb2⟩
    go_wp2
    go_ret
    exact ⟨rfl, hb1.trans (hb2.mono hb1.size)⟩
  have hn' : ¬ (80 : Int) < n := by omega
  go_enter Try.func4, Try.ntmps4
  go_wp2_with fail
  refine (awake _).mono ?_
  rintro e w1 ⟨rfl, hb1⟩
  replace hS := hS.below hb1
  replace hW := hW.below hb1
  go_upto_region 5 with (fail)
  go_loopw [5, 6] (fun v i wr => ∃ (k : Nat) (l : List Plain.A), k ≤ n ∧ i = .int .i64 k ∧ OwnA wr w1.heap.size v l ∧ Ch l ∧ Gv l ∧ l.length ≤ 12 * k ∧ Below w1.heap.size w1 wr) (fun _ i _ => n - (intOf i).toNat)
  case atStart => exact ⟨0, [], by omega, rfl, own_nil _ _, fun j hj => absurd hj (by simp), .inl rfl, by simp, Below.refl _ _⟩
  case round =>
    obtain ⟨k, l, hk, rfl, hO, hC, hG, hlen, hb⟩ := hrel
    by_cases hlt : k < n
    · have hl : (k : Int) < n := by omega
      have hl0 : (0 : Int) ≤ k := by omega
      by_cases hlm : k < m
      · have hl2 : (k : Int) < m := by omega
        obtain ⟨b, off, rfl, hbs, hs⟩ := (hS.below hb) (by omega)
        obtain ⟨b', off', rfl, hbs', hs'⟩ := (hW.below hb) (by omega)
        obtain ⟨s0, s1⟩ := hs k hlt
        obtain ⟨t0, t1⟩ := hs' k hlm
        clear hs hs'
        obtain ⟨t, et, ht⟩ := mod8 t1
        go_upto_region 8 with (fail)
        clear t0
        refine wp_region_lit ?_
        iterate 2
          refine wl_val rfl ?_ ?_ ?_
          rotate_left
          · go_simp; try with_reducible rfl
          intro K hK
          go_simp
          refine hK _ _ ?_
          clear hK K
        refine wl_val rfl (act (⟨4, t, 9⟩ : Plain.A)) ?_ ?_
        · go_simp; rfl
        intro K hK
        go_simp
        refine hK _ _ ?_
        clear hK K
        refine wl_bact rfl (.tmp 41) rfl (⟨4, t, 9⟩ : Plain.A) rfl (fun wa1 ba1 aa1 ha1 => ?_)
        intro K hK
        go_simp
        refine hK _ _ ?_
        clear hK K
        refine wl_appacts rfl (.tmp 39) (.tmp 42) rfl w1.heap.size _ l rfl (ownA_keep hO ha1) _ 1 1 [(⟨4, t, 9⟩ : Plain.A)] rfl rfl aa1 (fun e => by cases e) (by omega) (Nat.le_trans hb.size ha1.size) (fun vb1 wb1 Ob1 gb1 => ?_)
        have hb2 : Below w1.heap.size w1 wb1 := (hb.trans (ha1.mono hb.size)).grown gb1 (Nat.le_trans hb.size ha1.size) (ownA_lt (ownA_keep hO ha1))
        clear gb1 aa1 ha1
        intro K hK
        go_simp
        refine hK _ _ ?_
        clear hK K
        refine wl_val rfl vb1 ?_ ?_
        · go_simp
        intro K hK
        go_simp
        refine hK _ _ ?_
        clear hK K
        obtain ⟨hC1, hI1⟩ := take_ok ht hC hG
        have hlen1 : (l ++ [(⟨4, t, 9⟩ : Plain.A)]).length ≤ 12 * k + 1 := by simp; omega
        clear hO hC hG
        obtain ⟨⟨SA, SN, SC⟩, hsg⟩ : ∃ x, x = g k := ⟨_, rfl⟩
        clear s0 s1
        go_upto_region 10 with (fail)
        go_loopw [5, 8] (fun v i wr => ∃ (q : Nat) (l : List Plain.A), q ≤ 10 ∧ q ≤ SN ∧ i = .int .i64 q ∧ OwnA wr w1.heap.size v l ∧ Ch l ∧ Ins t l ∧ l.length ≤ 12 * k + 1 + q ∧ Below w1.heap.size w1 wr) (fun _ i _ => 10 - (intOf i).toNat)
        case atStart => exact ⟨0, _, by omega, by omega, rfl, Ob1, hC1, hI1, hlen1, hb2⟩
        case round =>
          clear Ob1 hC1 hI1 hlen1 hlen l
          obtain ⟨q, l, hq1, hq2, rfl, hO, hC, hI, hlen, hb4⟩ := hrel
          obtain ⟨c0, a1⟩ := secs_at hS hb4 hlt hsg
          by_cases hqn : q < SN
          · have hl3 : (q : Int) < SN := by omega
            have hl30 : (0 : Int) ≤ q := by omega
            by_cases hq10 : q < 10
            · have hl4 : (q : Int) < 10 := by omega
              obtain ⟨b5, off5, rfl⟩ := acts_ptr a1 (by omega)
              obtain ⟨x0, x1, x2⟩ := at_act a1 (Below.refl _ _) hqn
              go_upto_region 12 with (fail)
              refine wp_region_lit ?_
              iterate 6
                refine wl_val rfl ?_ ?_ ?_
                rotate_left
                · go_simp; try with_reducible rfl
                intro K hK
                go_simp
                refine hK _ _ ?_
                clear hK K
              refine wl_val rfl (act (h k q)) (run_ldact (.tmp 62) rfl b5 (off5 + q * 3) (h k q) rfl x0 x1 x2) ?_
              intro K hK
              go_simp
              refine hK _ _ ?_
              clear hK K
              clear x0 x1 x2
              refine wl_alloc rfl 34 rfl (.agg #[.int .i64 0, .int .i64 0, .int .i64 0]) #[.int .i64 0, .int .i64 0, .int .i64 0] (fun w => by kernel_rfl) rfl (fun w4 b9 X4 l4 f4 => ?_)
              intro K hK
              go_simp
              refine hK _ _ ?_
              clear hK K
              refine wl_store rfl 34 (.tmp 9) (.tmp 63) rfl b9 #[.int .i64 (h k q).kind, .int .i64 (h k q).who, .int .i64 (h k q).place] rfl rfl 34 _ X4 (by kernel_rfl) rfl (by simp [Value.oneCell']) (fun w5 g1 g2 g3 f5 => ?_)
              intro K hK
              go_simp
              refine hK _ _ ?_
              clear hK K
              have hwb9 : wr.heap.size ≤ b9 := by simp only [Hid] at f4; omega
              have hW5 : Below wr.heap.size wr w5 := l4.trans (g3 _ hwb9)
              clear X4 l4 f4 g2 g3 f5
              go_upto_region 13 with (fail)
              refine wp_region_lit ?_
              iterate 2
                refine wl_val rfl ?_ ?_ ?_
                rotate_left
                · go_simp; try with_reducible rfl
                intro K hK
                go_simp
                refine hK _ _ ?_
                clear hK K
              refine wl_stint rfl (.tmp 65) (.tmp 64) rfl b9 1 t rfl rfl _ 34 g1 (by simp) (fun w6 k1 k2 k3 => ?_)
              intro K hK
              go_simp
              refine hK _ _ ?_
              clear hK K
              have hW6 : Below wr.heap.size wr w6 := hW5.trans (k3 _ hwb9)
              have d0 : w6.cell? ⟨b9, 0, none⟩ = some (.int .i64 (h k q).kind) := (cell_of_row w6 b9 0 _ 34 _ k1).trans rfl
              have d1 : w6.cell? ⟨b9, 1, none⟩ = some (.int .i64 t) := (cell_of_row w6 b9 1 _ 34 _ k1).trans rfl
              have d2 : w6.cell? ⟨b9, 2, none⟩ = some (.int .i64 (h k q).place) := (cell_of_row w6 b9 2 _ 34 _ k1).trans rfl
              replace hO := ownA_keep hO hW6
              replace hb4 := hb4.trans (hW6.mono hb4.size)
              clear g1 k1 k2 k3 hW5 hW6 hwb9 c0 a1
              go_upto_region 14 with (fail)
              go_cut [73] (fun s73 wx => s73 = .bool (decide ((h k q).kind = 1) || decide ((h k q).kind = 2)) ∧ wx = w6)
              case first =>
                by_cases e1 : (h k q).kind = 1
                · have e1' : ((h k q).kind == 1) = true := by simp [e1]
                  go_wp2_with (fail)
                  go_meet
                  exact ⟨by simp [e1], rfl⟩
                · have e1' : ((h k q).kind == 1) = false := by simp [e1]
                  by_cases e2 : (h k q).kind = 2
                  · have e2' : ((h k q).kind == 2) = true := by simp [e2]
                    go_wp2_with (fail)
                    go_meet
                    exact ⟨by simp [e2], rfl⟩
                  · have e2' : ((h k q).kind == 2) = false := by simp [e2]
                    go_wp2_with (fail)
                    go_meet
                    exact ⟨by simp [e1, e2], rfl⟩
              case rest =>
                obtain ⟨rfl, hwr⟩ := hcut
                subst hwr
                cases ek : (decide ((h k q).kind = 1) || decide ((h k q).kind = 2))
                · go_wp2
                  go_roundw
                  case rel => exact ⟨q + 1, l, by omega, by omega, by go_num, hO, hC, hI, by omega, hb4⟩
                  case measure => simp [intOf]; omega
                · have hkd : 1 ≤ (h k q).kind ∧ (h k q).kind ≤ 4 := by simp at ek; omega
                  obtain ⟨hC2, hI2⟩ := in_ok ht hC hI (h k q).kind (h k q).place hkd
                  go_upto_region 15 with (fail)
                  refine wp_region_lit ?_
                  iterate 1
                    refine wl_val rfl ?_ ?_ ?_
                    rotate_left
                    · go_simp; try with_reducible rfl
                    intro K hK
                    go_simp
                    refine hK _ _ ?_
                    clear hK K
                  refine wl_val rfl (act (⟨(h k q).kind, t, (h k q).place⟩ : Plain.A)) (run_ldact (.tmp 9) rfl b9 0 (⟨(h k q).kind, t, (h k q).place⟩ : Plain.A) rfl d0 d1 d2) ?_
                  intro K hK
                  go_simp
                  refine hK _ _ ?_
                  clear hK K
                  refine wl_bact rfl (.tmp 75) rfl (⟨(h k q).kind, t, (h k q).place⟩ : Plain.A) rfl (fun wa2 ba2 aa2 ha2 => ?_)
                  intro K hK
                  go_simp
                  refine hK _ _ ?_
                  clear hK K
                  refine wl_appacts rfl (.tmp 74) (.tmp 76) rfl w1.heap.size _ l rfl (ownA_keep hO ha2) _ 1 1 [(⟨(h k q).kind, t, (h k q).place⟩ : Plain.A)] rfl rfl aa2 (fun e => by cases e) (by omega) (Nat.le_trans hb4.size ha2.size) (fun vb2 wb2 Ob2 gb2 => ?_)
                  have hb5 : Below w1.heap.size w1 wb2 := (hb4.trans (ha2.mono hb4.size)).grown gb2 (Nat.le_trans hb4.size ha2.size) (ownA_lt (ownA_keep hO ha2))
                  clear gb2 aa2 ha2
                  intro K hK
                  go_simp
                  refine hK _ _ ?_
                  clear hK K
                  refine wl_val rfl vb2 ?_ ?_
                  · go_simp
                  intro K hK
                  go_simp
                  refine hK _ _ ?_
                  clear hK K
                  go_wp2
                  go_roundw
                  case rel => exact ⟨q + 1, _, by omega, by omega, by go_num, Ob2, hC2, hI2, by simp; omega, hb5⟩
                  case measure => simp [intOf]; omega
            · have hl4 : ¬ (q : Int) < 10 := by omega
              go_upto_region 16 with (fail)
              refine wp_region_lit ?_
              iterate 2
                refine wl_val rfl ?_ ?_ ?_
                rotate_left
                · go_simp; try with_reducible rfl
                intro K hK
                go_simp
                refine hK _ _ ?_
                clear hK K
              refine wl_val rfl (act (⟨3, t, 9⟩ : Plain.A)) ?_ ?_
              · go_simp; rfl
              intro K hK
              go_simp
              refine hK _ _ ?_
              clear hK K
              refine wl_bact rfl (.tmp 80) rfl (⟨3, t, 9⟩ : Plain.A) rfl (fun wa3 ba3 aa3 ha3 => ?_)
              intro K hK
              go_simp
              refine hK _ _ ?_
              clear hK K
              refine wl_appacts rfl (.tmp 78) (.tmp 81) rfl w1.heap.size _ l rfl (ownA_keep hO ha3) _ 1 1 [(⟨3, t, 9⟩ : Plain.A)] rfl rfl aa3 (fun e => by cases e) (by omega) (Nat.le_trans hb4.size ha3.size) (fun vb3 wb3 Ob3 gb3 => ?_)
              have hb7 : Below w1.heap.size w1 wb3 := (hb4.trans (ha3.mono hb4.size)).grown gb3 (Nat.le_trans hb4.size ha3.size) (ownA_lt (ownA_keep hO ha3))
              clear gb3 aa3 ha3
              intro K hK
              go_simp
              refine hK _ _ ?_
              clear hK K
              refine wl_val rfl vb3 ?_ ?_
              · go_simp
              intro K hK
              go_simp
              refine hK _ _ ?_
              clear hK K
              have hC3 := (in_ok ht hC hI 3 9 (by omega)).1
              go_wp2
              go_roundw
              case rel => exact ⟨k + 1, _, by omega, by go_num, Ob3, hC3, gv_ok ht, by simp; omega, hb7⟩
              case measure => simp [intOf]; omega
          · have hl3 : ¬ (q : Int) < SN := by omega
            go_upto_region 16 with (fail)
            refine wp_region_lit ?_
            iterate 2
              refine wl_val rfl ?_ ?_ ?_
              rotate_left
              · go_simp; try with_reducible rfl
              intro K hK
              go_simp
              refine hK _ _ ?_
              clear hK K
            refine wl_val rfl (act (⟨3, t, 9⟩ : Plain.A)) ?_ ?_
            · go_simp; rfl
            intro K hK
            go_simp
            refine hK _ _ ?_
            clear hK K
            refine wl_bact rfl (.tmp 80) rfl (⟨3, t, 9⟩ : Plain.A) rfl (fun wa3 ba3 aa3 ha3 => ?_)
            intro K hK
            go_simp
            refine hK _ _ ?_
            clear hK K
            refine wl_appacts rfl (.tmp 78) (.tmp 81) rfl w1.heap.size _ l rfl (ownA_keep hO ha3) _ 1 1 [(⟨3, t, 9⟩ : Plain.A)] rfl rfl aa3 (fun e => by cases e) (by omega) (Nat.le_trans hb4.size ha3.size) (fun vb3 wb3 Ob3 gb3 => ?_)
            have hb7 : Below w1.heap.size w1 wb3 := (hb4.trans (ha3.mono hb4.size)).grown gb3 (Nat.le_trans hb4.size ha3.size) (ownA_lt (ownA_keep hO ha3))
            clear gb3 aa3 ha3
            intro K hK
            go_simp
            refine hK _ _ ?_
            clear hK K
            refine wl_val rfl vb3 ?_ ?_
            · go_simp
            intro K hK
            go_simp
            refine hK _ _ ?_
            clear hK K
            have hC3 := (in_ok ht hC hI 3 9 (by omega)).1
            go_wp2
            go_roundw
            case rel => exact ⟨k + 1, _, by omega, by go_num, Ob3, hC3, gv_ok ht, by simp; omega, hb7⟩
            case measure => simp [intOf]; omega
      · have hl2 : ¬ (k : Int) < m := by omega
        go_upto_region 17 with (fail)
        obtain ⟨L, hL⟩ : ∃ L, l.length = L := ⟨_, rfl⟩
        obtain ⟨A8, c8, rfl, a8, _⟩ := own_acts' hO hL
        clear hO
        go_wp2_with fail
        refine (FindL l A8 L c8 hL.symm (by omega) _ a8).mono ?_
        rintro e w9 ⟨rfl, hb9⟩
        rw [ch_find hC L hL]
        simp only [foundV]
        go_wp2
        go_ret
        exact ⟨rfl, (hb1.trans (hb.mono hb1.size)).trans (hb9.mono (Nat.le_trans hb1.size hb.size))⟩
    · have hl : ¬ (k : Int) < n := by omega
      go_upto_region 17 with (fail)
      obtain ⟨L, hL⟩ : ∃ L, l.length = L := ⟨_, rfl⟩
      obtain ⟨A8, c8, rfl, a8, _⟩ := own_acts' hO hL
      clear hO
      go_wp2_with fail
      refine (FindL l A8 L c8 hL.symm (by omega) _ a8).mono ?_
      rintro e w9 ⟨rfl, hb9⟩
      rw [ch_find hC L hL]
      simp only [foundV]
      go_wp2
      go_ret
      exact ⟨rfl, (hb1.trans (hb.mono hb1.size)).trans (hb9.mono (Nat.le_trans hb1.size hb.size))⟩
end Go.Proofs.Ytnchafbaipeagaa
