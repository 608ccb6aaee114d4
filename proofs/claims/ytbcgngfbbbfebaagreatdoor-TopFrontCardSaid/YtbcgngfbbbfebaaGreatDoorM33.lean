/- A thread's side of a machine: it wakes others. What holds of machines while they run; flushes. -/
import Derived.Test.YtbcgngfbbbfebaaGreatDoorM32
import Derived.Deep.LoopGhost
namespace Go.Proofs.YtbcgngfbbbfebaaGreatDoor
open Go.RowKit Go.Maps
set_option maxRecDepth 100000
set_option maxHeartbeats 32000000
set_option linter.unusedVariables false
set_option linter.unusedSimpArgs false
def setSt (l : List Th) (i : Nat) (s : Int) : List Th := match l[i]? with
 | some x => l.set i { x with st := s }
 | none => l
theorem setSt_len (l : List Th) (i : Nat) (s : Int) : (setSt l i s).length = l.length := by unfold setSt; split <;> simp
def wakeT (l : List Th) (o : List Int) : List Th := o.foldl (fun l who => setSt l who.toNat 0) l
theorem wakeT_len (o : List Int) : ∀ l : List Th, (wakeT l o).length = l.length := by
 induction o with
 | nil => intro l; rfl
 | cons x o ih => intro l; exact (ih _).trans (setSt_len _ _ _)
def wakeM (M : Mac) (addr n : Int) : Mac := { M with slp := (wakeF addr n M.slp []).1, threads := wakeT M.threads (wakeF addr n M.slp []).2 }
theorem wakeF_sub (addr n : Int) : ∀ (L : List Slp) (o : List Int), (∀ s ∈ (wakeF addr n L o).1, s ∈ L) ∧ (∀ v ∈ (wakeF addr n L o).2, v ∈ o ∨ ∃ s ∈ L, s.who = v) ∧ (wakeF addr n L o).1.length ≤ L.length ∧ (wakeF addr n L o).2.length ≤ o.length + L.length
 | [], o => ⟨fun s h => (by cases h), fun v h => .inl h, by simp [wakeF], by simp [wakeF]⟩
 | x :: L, o => by
  unfold wakeF
  split
  ·obtain ⟨h1, h2, h3, h4⟩ := wakeF_sub addr n L (o ++ [x.who])
   refine ⟨fun s h => List.mem_cons_of_mem _ (h1 s h), fun v h => ?_, by simp only [List.length_cons]; omega, by simp only [List.length_cons, List.length_append, List.length_nil] at h4 ⊢; omega⟩; rcases h2 v h with h5 | ⟨s, h5, h6⟩
   ·rcases List.mem_append.1 h5 with h6 | h6
    ·exact .inl h6
    ·rw [List.mem_singleton] at h6; exact .inr ⟨x, List.mem_cons_self .., h6.symm⟩
   ·exact .inr ⟨s, List.mem_cons_of_mem _ h5, h6⟩
  ·obtain ⟨h1, h2, h3, h4⟩ := wakeF_sub addr n L o
   refine ⟨fun s h => ?_, fun v h => ?_, by simp only [List.length_cons]; omega, by simp only [List.length_cons]; omega⟩
   ·rcases List.mem_cons.1 h with h5 | h5
    ·rw [h5]; exact List.mem_cons_self ..
    ·exact List.mem_cons_of_mem _ (h1 s h5)
   ·rcases h2 v h with h5 | ⟨s, h5, h6⟩
    ·exact .inl h5
    ·exact .inr ⟨s, List.mem_cons_of_mem _ h5, h6⟩
theorem sideWake {b : Nat} {F : Nat → Prop} {M : Mac} {ti : Nat} {w : World} (hM : MMem w b F M) (addr n : Int) (hn : 0 ≤ n ∧ n < 4294967296) (hs : M.slp.length ≤ 80000) (hS : ∀ s ∈ M.slp, 0 ≤ s.who ∧ s.who < M.threads.length) : Calls Tryz.prog 110 #[.agg #[.pointer (some ⟨b, 0, none⟩), .int .i64 ti], .int .i64 addr, .int .u32 n] w fun e w' => e = .returned (.int .u32 ((wakeF addr n M.slp []).2.length : Int)) ∧ ∃ F', MMem w' b F' (wakeM M addr n) ∧ Upd F F' w w' := by
 unfold wakeM; obtain ⟨hsub1, hsub2, hsl1, hsl2⟩ := wakeF_sub addr n M.slp []; have hkw0 := fun w' (h : Below w.heap.size w w') => kernWake addr n hn (hM.below h) hs; obtain ⟨T, hT⟩ : ∃ T, Hid (T = wakeF addr n M.slp []) := ⟨_, rfl⟩; rw [← hT.out] at hsub1 hsub2 hsl1 hsl2 hkw0 ⊢; clear hT
 have hout : ∀ v ∈ T.2, 0 ≤ v ∧ v < M.threads.length := fun v hv => by
  rcases hsub2 v hv with h | ⟨s, h1, rfl⟩
  ·cases h
  ·exact hS s h1
 clear hsub1 hsub2; simp only [List.length_nil] at hsl2; go_enter Tryz.func110, Tryz.ntmps110; go_upto_region 1 with (fail); obtain ⟨W, kS, e0, e1, XS, hal⟩ := box1 w #[.pointer (some ⟨b, 0, none⟩), .int .i64 ti] 148; rw [e0, e1]; have hkS : w.heap.size ≤ kS := Nat.le_of_eq e1; clear e0 e1; have yS := cell_of_row W kS 0 _ 148 _ XS; have hkw := hkw0 W hal; refine wp_region_lit ?_
 iterate 6 refine Zv ?_
 refine wl_calls rfl 171 #[.pointer (some ⟨b, 4, none⟩), .int .i64 addr, .int .u32 n] (fun v w' => Own eN w' v T.2 ∧ ∃ F', (MMem w' b F' { M with slp := T.1 } ∧ (∀ k, v.ownBlock = some k → W.heap.size ≤ k ∧ ¬ F' k)) ∧ Upd F F' W w') ?_ hkw ?_
 ·first | (go_simp; done) | (go_simp; rfl)
 rintro lv w1 ⟨hOl, F1, ⟨hM1, hF1⟩, hU1⟩; clear hkw hkw0 yS; obtain ⟨pl, cl, rfl⟩ := hOl.form2; refine Zk ?_; refine Zv ?_; have hU := (Upd.of_below (F := F) hal).trans hU1
 have XS1 : w1.heap[kS]? = some (.cells #[.pointer (some ⟨b, 0, none⟩), .int .i64 ti] 148 (0, 0)) := hU1.kept XS (fun hF => by
  have := hM.lt kS hF; omega)
 have hSF : ¬ F1 kS := fun hF => by
  rcases hU1.foot kS hF with h | h
  ·have := hM.lt kS h; omega
  ·have := blk_lt XS; omega
 clear hU1; go_upto_region 3 with (fail); go_loopw [19] (fun v wr => ∃ i : Nat, v = .int .i64 i ∧ i ≤ T.2.length ∧ Own eN wr (.slice pl T.2.length cl) T.2 ∧ MMem wr b F1 { M with slp := T.1, threads := wakeT M.threads (T.2.take i) } ∧ wr.heap[kS]? = some (.cells #[.pointer (some ⟨b, 0, none⟩), .int .i64 ti] 148 (0, 0)) ∧ Upd F F1 w wr) (fun v _ => T.2.length - (intOf v).toNat)
 case atStart => exact ⟨0, rfl, Nat.zero_le _, hOl, hM1, XS1, hU⟩
 case round =>
  clear hOl hM1 XS1 hU; obtain ⟨i, rfl, hi, hOl, hMi, XS1, hU⟩ := hrel
  by_cases hlt : i < T.2.length
  case neg =>
   obtain rfl : i = T.2.length := by omega
   have hl1 : ¬ ((T.2.length : Int) < T.2.length) := by omega
   rw [List.take_length] at hMi; clear hlt; go_wp2; go_ret; exact ⟨rfl, F1, hMi, hU⟩
  have hl0 : (0 : Int) ≤ i := by omega
  have hl1 : (i : Int) < T.2.length := by omega
  obtain ⟨q, hq⟩ : ∃ q, T.2[i]? = some q := ⟨T.2[i], List.getElem?_eq_getElem hlt⟩; obtain ⟨hq0, hq1⟩ := hout q (List.mem_of_getElem? hq); obtain ⟨k, rfl⟩ : ∃ k : Nat, q = k := ⟨q.toNat, by omega⟩
  obtain ⟨gl, rfl⟩ : ∃ gl, pl = some ⟨gl, 0, none⟩ := by
   rcases hOl.form with ⟨_, e⟩ | ⟨g, c, e, _⟩
   ·rw [e] at hlt; exact absurd hlt (Nat.not_lt_zero _)
   ·simp only [Value.slice.injEq] at e; exact ⟨g, e.1⟩
  have yl : wr.cell? ⟨gl, i, none⟩ = some (.int .i64 k) := by
   have := (hOl.at eN_ok).elem eN_ok hq 0 _ rfl
   simpa [eN] using this
  obtain ⟨V, vs, hMi⟩ := hMi; obtain ⟨Vc, Vt, Vf, Vm, Vk, Ve⟩ := V; obtain ⟨TH, hTH⟩ : ∃ q, Hid (q = wakeT M.threads (T.2.take i)) := ⟨_, rfl⟩
  have hTl : Hid (TH.length = M.threads.length) := by rw [hTH.out]; exact wakeT_len _ _
  have hkT : k < TH.length := by have := hTl.out; omega
  rw [← hTH.out] at hMi; have ht0 : Own eT wr Vt TH := hMi.rt
  obtain ⟨gt, ct, rfl⟩ : ∃ g c, Vt = .slice (some ⟨g, 0, none⟩) TH.length c := by
   rcases ht0.form with ⟨_, e⟩ | ⟨g, c, e, _⟩
   ·rw [e] at hkT; exact absurd hkT (Nat.not_lt_zero _)
   ·exact ⟨g, c, e⟩
  have y1 : wr.cell? ⟨b, 1, none⟩ = some (.slice (some ⟨gt, 0, none⟩) TH.length ct) := cell_of_row wr b 1 _ 104 _ hMi.blk; have yS := cell_of_row wr kS 0 _ 148 _ XS1
  have hk0 : (0 : Int) ≤ k := by omega
  have hk1 : (k : Int) < TH.length := by omega
  obtain ⟨z, hz⟩ : ∃ z, TH[k]? = some z := ⟨TH[k], List.getElem?_eq_getElem hkT⟩; obtain ⟨cur, hcur, hcs⟩ := own_cur eT_ok ht0
  have hcs' : k * 10 + 9 < cur.size := by
   have : eT.sz = 10 := rfl; rw [this] at hcs; omega
  go_upto_region 5 with (fail); refine wp_region_lit ?_
  iterate 6 refine Zv ?_
  refine wl_val rfl (.pointer (some ⟨gt, k * 10, none⟩)) ?_ ?_
  ·go_simp
  refine Zk ?_; refine wl_val rfl (.pointer (some ⟨gt, k * 10 + 9, none⟩)) ?_ ?_
  ·go_simp
  refine Zk ?_; refine wl_stv rfl 3 (fun w => by kernel_rfl) (.tmp 30) (.const (.int .i64 0)) rfl gt (k * 10 + 9) (.int .i64 0) rfl (st_i64 0) cur 153 rfl rfl hcur hcs' (fun w2 p1 p2 p3 => ?_); refine Zk ?_; have hO2 := own_put1 eT_ok ht0 hcur (i := k) (q := 9) (x := z) (y := { z with st := 0 }) hz (by decide) rfl p1; obtain ⟨hM2, hU2⟩ := hMi.put_t hO2 (fun k hne => p2 k (fun e => hne (by rw [e]; rfl))) (fun B h1 _ => p3 B (h1 gt rfl)); have hOl2 := hOl.keep (w' := w2) (fun g e => hU2.blk g (hOl.lt e) (hF1 g e).2); have XS2 := hU2.kept XS1 hSF; have hUU := hU.trans hU2
  have hTN : TH.set k { z with st := 0 } = wakeT M.threads (T.2.take (i + 1)) := by
   rw [List.take_add_one, hq]; unfold wakeT; rw [List.foldl_append]; show _ = setSt (wakeT M.threads (T.2.take i)) (k : Int).toNat 0; rw [← hTH.out, Int.toNat_natCast]; unfold setSt; rw [hz]
  rw [hTN] at hM2; clear hO2 p1 p2 p3 hcur hcs hcs' yl y1 yS hU2 hMi ht0 hOl XS1 hU hTH hTl hz; go_wp2; go_roundw
  case rel => exact ⟨i + 1, by go_num, by omega, hOl2, ⟨_, _, hM2⟩, XS2, hUU⟩
  case measure => simp [intOf]; omega
end Go.Proofs.YtbcgngfbbbfebaaGreatDoor
namespace Go.Proofs.YtbcgngfbbbfebaaGreatDoor
open Go.RowKit Go.Maps
set_option maxRecDepth 100000
set_option maxHeartbeats 32000000
set_option linter.unusedVariables false
set_option linter.unusedSimpArgs false
theorem u32_0 : U32 0 := ⟨by omega, by omega⟩
theorem u32_1 : U32 1 := ⟨by omega, by omega⟩
structure EntOk (n : Nat) (x : Bf) : Prop where
 a : ∀ j, 0 ≤ x.ra j ∧ (x.ra j = 0 ∨ x.ra j < n)
 v : ∀ j, U32 (x.rv j)
 p : 0 < x.n → 0 < n
structure MOk (M : Mac) : Prop where
 nt0 : 1 ≤ M.threads.length
 nt1 : M.threads.length ≤ 8
 nb : M.bufs.length = M.threads.length
 nc : M.codes.length = M.threads.length
 mem : M.mem.length ≤ 1024
 memU : ∀ v ∈ M.mem, U32 v
 bufs : ∀ x ∈ M.bufs, BfOk x ∧ EntOk M.mem.length x
 slp : ∀ s ∈ M.slp, 0 ≤ s.who ∧ s.who < M.threads.length
 regs : ∀ x ∈ M.threads, ∀ j, U32 (x.regs j)
 codes : ∀ L ∈ M.codes, KOk L ∧ L.length ≤ 4000
structure St (M M' : Mac) (k s : Nat) : Prop where
 ok : MOk M'
 ev : M'.evs.length ≤ M.evs.length + k
 slp : M'.slp.length ≤ M.slp.length + s
 pre : M.evs <+: M'.evs
 tl : M'.threads.length = M.threads.length
 ml : M'.mem.length = M.mem.length
 cd : M'.codes = M.codes
theorem St.refl {M : Mac} (h : MOk M) : St M M 0 0 := ⟨h, Nat.le_refl _, Nat.le_refl _, List.prefix_refl _, rfl, rfl, rfl⟩
theorem St.trans {A B C : Mac} {k s k' s' : Nat} (h : St A B k s) (h' : St B C k' s') : St A C (k + k') (s + s') := ⟨h'.ok, by have := h.ev; have := h'.ev; omega, by have := h.slp; have := h'.slp; omega, h.pre.trans h'.pre, h'.tl.trans h.tl, h'.ml.trans h.ml, h'.cd.trans h.cd⟩
theorem St.mono {A B : Mac} {k s k' s' : Nat} (h : St A B k s) (hk : k ≤ k') (hs : s ≤ s') : St A B k' s' := ⟨h.ok, by have := h.ev; omega, by have := h.slp; omega, h.pre, h.tl, h.ml, h.cd⟩
theorem bfok_pop {x : Bf} (h : BfOk x) (h0 : 0 < x.n) : BfOk (bufPop x) := ⟨(bpos_b x 1).1, (bpos_b x 1).2, by simp only [bufPop]; omega, by have := h.n1; simp only [bufPop]; omega, h.r1⟩
theorem bfok_put {x : Bf} (h : BfOk x) (hr : x.n < x.room) (a v : Int) : BfOk (bufPut x a v) := ⟨h.f0, h.f1, by have := h.n0; simp only [bufPut]; omega, by simp only [bufPut]; omega, h.r1⟩
theorem ent_pop {x : Bf} {n : Nat} (h : EntOk n x) : EntOk n (bufPop x) := ⟨fun j => by
 simp only [bufPop]; split
 ·exact ⟨Int.le_refl _, .inl rfl⟩
 ·exact h.a j, fun j => by
 simp only [bufPop]; split
 ·exact u32_0
 ·exact h.v j, fun hp => h.p (by simp only [bufPop] at hp; omega)⟩
theorem ent_put {x : Bf} {n : Nat} (h : EntOk n x) {a v : Int} (ha : 0 ≤ a ∧ a < n) (hv : U32 v) : EntOk n (bufPut x a v) := ⟨fun j => by
 simp only [bufPut]; split
 ·exact ⟨ha.1, .inr ha.2⟩
 ·exact h.a j, fun j => by
 simp only [bufPut]; split
 ·exact hv
 ·exact h.v j, fun _ => by omega⟩
theorem ent_first {x : Bf} {n : Nat} (h : EntOk n x) (h0 : 0 < x.n) (j : Nat) : 0 ≤ x.ra j ∧ x.ra j < n := ⟨(h.a j).1, by
 have := h.p h0
 rcases (h.a j).2 with e | e <;> omega⟩
theorem mem_set' {α : Type} {l : List α} {i : Nat} {y z : α} (h : z ∈ l.set i y) : z ∈ l ∨ z = y := List.mem_or_eq_of_mem_set h
theorem MOk.buf {M : Mac} (h : MOk M) {i : Nat} {x : Bf} (hx : M.bufs[i]? = some x) : BfOk x ∧ EntOk M.mem.length x := h.bufs x (List.mem_of_getElem? hx)
theorem MOk.at {M : Mac} (h : MOk M) {i : Nat} (hi : i < M.threads.length) : ∃ x, M.bufs[i]? = some x := ⟨M.bufs[i]'(h.nb ▸ hi), List.getElem?_eq_getElem _⟩
theorem flush_st {M : Mac} (h : MOk M) {i : Nat} {x : Bf} (hx : M.bufs[i]? = some x) (h0 : 0 < x.n) : St M (flushF M i x) 1 0 := by
 obtain ⟨hb, he⟩ := h.buf hx; refine ⟨⟨h.nt0, h.nt1, by simp only [flushF, List.length_set]; exact h.nb, h.nc, by simp only [flushF, List.length_set]; exact h.mem, fun v hv => ?_, fun y hy => ?_, h.slp, h.regs, h.codes⟩, by simp [flushF], Nat.le_refl _, ⟨_, rfl⟩, rfl, by simp [flushF], rfl⟩
 ·rcases mem_set' hv with h1 | rfl
  ·exact h.memU v h1
  ·exact he.v _
 ·simp only [flushF, List.length_set]
  rcases mem_set' hy with h1 | rfl
  ·exact h.bufs y h1
  ·exact ⟨bfok_pop hb h0, ent_pop he⟩
def flushT (M : Mac) (ti : Nat) : Mac := match M.bufs[ti]? with
 | some x => if 0 < x.n then flushF M ti x else M
 | none => M
theorem flushT1 {M : Mac} {i : Nat} {x : Bf} (hx : M.bufs[i]? = some x) (h0 : 0 < x.n) : flushT M i = flushF M i x := by simp only [flushT, hx, if_pos h0]
theorem flushT0 {M : Mac} {i : Nat} {x : Bf} (hx : M.bufs[i]? = some x) (h0 : ¬ 0 < x.n) : flushT M i = M := by simp only [flushT, hx, if_neg h0]
theorem flushT_st {M : Mac} (h : MOk M) (i : Nat) : St M (flushT M i) 1 0 := by
 unfold flushT
 split
 ·rename_i x hx
  split
  ·rename_i h0; exact flush_st h hx h0
  ·exact (St.refl h).mono (by omega) (by omega)
 ·exact (St.refl h).mono (by omega) (by omega)
theorem sideFlush {b : Nat} {F : Nat → Prop} {M : Mac} {ti : Nat} {w : World} (hM : MMem w b F M) (h : MOk M) (hi : ti < M.threads.length) (hs : M.evs.length ≤ 3000000) : Calls Tryz.prog 60 #[.agg #[.pointer (some ⟨b, 0, none⟩), .int .i64 ti]] w fun e w' => e = .returned (.tuple #[]) ∧ ∃ F', MMem w' b F' (flushT M ti) ∧ Upd F F' w w' := by
 obtain ⟨x, hx⟩ := h.at hi; obtain ⟨hb, he⟩ := h.buf hx
 by_cases h0 : 0 < x.n
 ·rw [flushT1 hx h0]
  exact flush1 hM hx hb h0 (ent_first he h0 _) hs
 ·rw [flushT0 hx h0]
  have e0 : x.n = 0 := by have := hb.n0; omega
  exact Calls.mono (flush0 hM hx e0) fun e w' h' => ⟨h'.1, F, hM.below h'.2, Upd.of_below h'.2⟩
def lenB (M : Mac) (i : Nat) : Nat := match M.bufs[i]? with
 | some x => x.n.toNat
 | none => 0
theorem lenB_of {M : Mac} {i : Nat} {x : Bf} (hx : M.bufs[i]? = some x) : lenB M i = x.n.toNat := by simp only [lenB, hx]
theorem lenB_le {M : Mac} (h : MOk M) (i : Nat) : lenB M i ≤ 16 := by
 unfold lenB
 split
 ·rename_i x hx
  have h1 := (h.buf hx).1.n1; have h2 := (h.buf hx).1.r1; omega
 ·omega
theorem lenB_flush (M : Mac) (i : Nat) : lenB (flushT M i) i = lenB M i - 1 := by
 cases hx : M.bufs[i]? with
 | none => simp only [flushT, lenB, hx]
 | some x =>
  have hi := (List.getElem?_eq_some_iff.1 hx).1
  by_cases h0 : 0 < x.n
  ·rw [flushT1 hx h0, lenB_of hx]
   simp only [lenB, flushF, List.getElem?_set_self hi, bufPop]; omega
  ·rw [flushT0 hx h0, lenB_of hx]; omega
def drainN (M : Mac) (i : Nat) : Nat → Mac
 | 0 => M
 | k + 1 => flushT (drainN M i k) i
def drainT (M : Mac) (i : Nat) : Mac := drainN M i (lenB M i)
def remoteF (M : Mac) : Nat → Mac
 | 0 => M
 | k + 1 => drainT (remoteF M k) k
theorem drainN_len (M : Mac) (i : Nat) : ∀ k, lenB (drainN M i k) i = lenB M i - k
 | 0 => rfl
 | k + 1 => by rw [drainN, lenB_flush, drainN_len M i k]; omega
theorem drainN_st {M : Mac} (h : MOk M) (i : Nat) : ∀ k, St M (drainN M i k) k 0
 | 0 => St.refl h
 | k + 1 => (drainN_st h i k).trans (flushT_st (drainN_st h i k).ok i)
theorem drainT_st {M : Mac} (h : MOk M) (i : Nat) : St M (drainT M i) 16 0 := (drainN_st h i _).mono (lenB_le h i) (Nat.le_refl _)
theorem remoteF_st {M : Mac} (h : MOk M) : ∀ k, St M (remoteF M k) (16 * k) 0
 | 0 => St.refl h
 | k + 1 => ((remoteF_st h k).trans (drainT_st (remoteF_st h k).ok k)).mono (by omega) (by omega)
end Go.Proofs.YtbcgngfbbbfebaaGreatDoor
