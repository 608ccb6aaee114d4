/- A machine's step of a thread. A machine does what a pick says. -/
import Derived.Test.YtbcgngfbbbfebaaGreatDoorM38
namespace Go.Proofs.YtbcgngfbbbfebaaGreatDoor
open Go.RowKit Go.Maps
set_option maxRecDepth 100000
set_option maxHeartbeats 32000000
set_option linter.unusedVariables false
set_option linter.unusedSimpArgs false
theorem MMem.thr {w : World} {b : Nat} {F : Nat → Prop} {M : Mac} (h : MMem w b F M) {i : Nat} (hi : i < M.threads.length) : ∃ g c, w.cell? ⟨b, 1, none⟩ = some (.slice (some ⟨g, 0, none⟩) M.threads.length c) ∧ Own eT w (.slice (some ⟨g, 0, none⟩) M.threads.length c) M.threads ∧ ∀ w' l', Own eT w' (.slice (some ⟨g, 0, none⟩) M.threads.length c) l' → (∀ k, k ≠ g → w'.heap[k]? = w.heap[k]?) → (∀ B, B ≤ g → Below B w w') → MMem w' b F { M with threads := l' } ∧ Upd F F w w' := by
 obtain ⟨V, vs, h⟩ := h
 obtain ⟨g, c, e⟩ : ∃ g c, V.t = .slice (some ⟨g, 0, none⟩) M.threads.length c := by
  rcases h.rt.form with ⟨_, e⟩ | ⟨g, c, e, _⟩
  ·rw [e] at hi; exact absurd hi (Nat.not_lt_zero _)
  ·exact ⟨g, c, e⟩
 refine ⟨g, c, (cell_of_row w b 1 _ 104 _ h.blk).trans (by rw [← e]; rfl), by rw [← e]; exact h.rt, fun w' l' hO hk hB => ?_⟩; rw [← e] at hO; obtain ⟨h1, h2⟩ := h.put_t hO (fun k hne => hk k (fun e' => hne (by rw [e, e']; rfl))) (fun B h1 _ => hB B (h1 g (by rw [e]; rfl))); exact ⟨⟨_, _, h1⟩, h2⟩
theorem MMem.code {w : World} {b : Nat} {F : Nat → Prop} {M : Mac} (h : MMem w b F M) {i : Nat} (hi : i < M.codes.length) : ∃ g n c vc, (∀ w', Below w.heap.size w w' → w'.cell? ⟨b, 0, none⟩ = some (.slice (some ⟨g, 0, none⟩) n c) ∧ w'.cell? ⟨g, i, none⟩ = some vc ∧ Own eI w' vc (M.codes.getD i [])) ∧ n = M.codes.length ∧ ∃ p k c, vc = .slice p k c := by
 obtain ⟨V, vs, h⟩ := h; have hl := h.cm.len
 have hiv : i < vs.length := by rw [hl]; exact hi
 obtain ⟨g, c, e⟩ : ∃ g c, V.c = .slice (some ⟨g, 0, none⟩) vs.length c := by
  rcases h.rc.form with ⟨_, e⟩ | ⟨g, c, e, _⟩
  ·rw [e] at hiv; exact absurd hiv (Nat.not_lt_zero _)
  ·exact ⟨g, c, e⟩
 have h1 := List.getElem?_eq_getElem hiv
 have h2 : M.codes[i]? = some (M.codes.getD i []) := by rw [List.getD_eq_getElem?_getD, List.getElem?_eq_getElem hi]; rfl
 refine ⟨g, vs.length, c, _, fun w' hb => ⟨(cell_of_row w' b 0 _ 104 _ (keep h.blk hb)).trans (by rw [← e]; rfl), ?_, (h.cm.code i _ _ h1 h2).below hb⟩, hl, _, _, _, rfl⟩; have h3 := h.rc.below hb; rw [e] at h3; have h4 := (h3.at eV_ok).elem eV_ok h1 0 _ rfl
 simpa [eV] using h4
theorem mstepC {b ti : Nat} {F : Nat → Prop} {M : Mac} {w : World} (hM : MMem w b F M) (hok : MOk M) (hi : ti < M.threads.length) (hs : M.evs.length + 129 ≤ 3000000) (hl : M.slp.length ≤ 80000) (hW : IsaW w) : Calls Tryz.prog 59 #[.pointer (some ⟨b, 0, none⟩), .int .i64 ti] w fun e w' => e = .returned (.tuple #[]) ∧ ∃ F', MMem w' b F' (stepF M ti) ∧ Upd F F' w w' := by
 obtain ⟨T, hT⟩ : ∃ T, M.threads[ti]? = some T := ⟨M.threads[ti], List.getElem?_eq_getElem hi⟩; have hTu : RU T := hok.regs T (List.mem_of_getElem? hT)
 have hic : ti < M.codes.length := by rw [hok.nc]; exact hi
 obtain ⟨S, hS⟩ : ∃ q, Hid (q = stepF M ti) := ⟨_, rfl⟩; rw [← hS.out]; obtain ⟨gc, nc, cc, vc, hcd, hnc, pv, kv, cv, rfl⟩ := hM.code hic; obtain ⟨code, hcode⟩ : ∃ q, Hid (q = M.codes.getD ti []) := ⟨_, rfl⟩
 have hck : KOk code ∧ code.length ≤ 4000 := by
  rw [hcode.out, List.getD_eq_getElem?_getD, List.getElem?_eq_getElem hic]; exact hok.codes _ (List.getElem_mem hic)
 rw [← hcode.out] at hcd
 have hS2 : Hid (S = putT (coreF M ti T code).1 ti (coreF M ti T code).2) := by
  show S = _; rw [hcode.out, hS.out, stepF, hT]
 clear hS; have hcst := core_st hok hi hTu hck.1 hl; obtain ⟨gt, ct, yt, hOt, _⟩ := hM.thr hi
 have f0 : (0 : Int) ≤ ti := by omega
 have f1 : (ti : Int) < M.threads.length := by omega
 have f2 : (ti : Int) < nc := by omega
 clear hnc hic hcode; have c1 : ∀ w' : World, Below w.heap.size w w' → w'.cell? ⟨b, 1, none⟩ = some (.slice (some ⟨gt, 0, none⟩) M.threads.length ct) := fun w' h' => (h'.cell (cell_lt yt)).trans yt; have c0 : ∀ w' : World, Below w.heap.size w w' → w'.cell? ⟨b, 0, none⟩ = some (.slice (some ⟨gc, 0, none⟩) nc cc) := fun w' h' => (hcd w' h').1; have cg : ∀ w' : World, Below w.heap.size w w' → w'.cell? ⟨gc, ti, none⟩ = some (.slice pv kv cv) := fun w' h' => (hcd w' h').2.1; clear yt; go_enter Tryz.func59, Tryz.ntmps59; go_upto_region 0 with (fail); go_cut [4] from 5 to 23 (fun s4 wx => ∃ (kX : Nat) (F' : Nat → Prop) (X : MT), s4 = .pointer (some ⟨kX, 0, none⟩) ∧ Hid (X = coreF M ti T code) ∧ wx.heap[kX]? = some (.cells (thrL X.2).toArray 153 (0, 0)) ∧ MMem wx b F' X.1 ∧ Upd F F' w wx)
 case first =>
  refine grow_headL [0, 1, 2, 3, 4, 5, 6, 7, 8, 9, 10, 11, 12, 13, 14, 15, 16, 17] 18 22 (fun w' => Below w.heap.size w w') _ rfl (by kernel_rfl) (by kernel_rfl) (by decide) (by kernel_rfl) ?_
  iterate 5 refine ZR ?_
  refine gl_run rfl rfl (by kernel_rfl) (.pointer (some ⟨gt, ti * 10, none⟩)) (fun w' h' => ga_value (by go_simp)) (Zj ?_); refine gl_run rfl rfl (by kernel_rfl) (.agg (thrL T).toArray) (fun w' h' => ga_value (run_ldm 153 (.tmp 10) rfl gt (ti * 10) rfl (thrL T) _ (by have h1 := ((hOt.below h').at eT_ok).elem eT_ok hT; rw [Nat.zero_add] at h1; exact h1) Tryz.underlying153 rfl (by kernel_rfl))) (Zj ?_)
  iterate 10 refine ZR ?_
  refine gl_run rfl rfl (by kernel_rfl) (.agg (portL b ti M.mem.length).toArray) (fun w' h' => ga_call' 81 #[sdV b ti] (portC (hM.below h')) ?_) (fun K hK => ?_)
  ·first | (go_simp; done) | (go_simp; rfl)
  go_simp; refine hK _ ?_; clear hK K; refine gl_nil ?_; show anyM _ _ _ _ _ _ _ _ _ _; clear c0 c1 cg; have q0 : Below w.heap.size w w.drew := Below.drew (Below.refl _ _); refine anyM_ready [18, 19] (by kernel_rfl) (by simp) (fun w1 r1 => ⟨fun _ => q0.trans (r1.mono q0.size), ?_⟩); have q1 := q0.trans (r1.mono q0.size); clear q0 r1; intro j hj; simp only [List.mem_cons, List.not_mem_nil, or_false] at hj; rcases hj with rfl | rfl
  ·refine op_calls rfl rfl 80 #[.agg (thrL T).toArray, .slice pv kv cv, .agg (portL b ti M.mem.length).toArray] (fun v w' => ∃ X, Hid (X = coreF M ti T code) ∧ v = .agg (thrL X.2).toArray ∧ ∃ F', MMem w' b F' X.1 ∧ Upd F F' w1 w') (by first | (go_simp; done) | (go_simp; rfl)) ((stepC (hM.below q1) (hcd _ q1).2.2 hok hi hTu hck.1 hck.2 hs hl (hW.below q1)).mono fun e w' h => h.elim fun X h => ⟨_, h.2.1, X, h.1, rfl, h.2.2⟩) ?_
   rintro _ w1c ⟨X, hX, rfl, F', hM1, hU1⟩; refine ZM 19 (fun w2 r2 => ⟨(fun e => absurd (show true = false from e) (by decide)), ?_⟩); refine op_alloc rfl rfl 153 rfl (.agg #[.int .i64 0, .int .u32 0, .int .u32 0, .int .u32 0, .int .u32 0, .int .u32 0, .int .u32 0, .int .u32 0, .int .u32 0, .int .i64 0]) #[.int .i64 0, .int .u32 0, .int .u32 0, .int .u32 0, .int .u32 0, .int .u32 0, .int .u32 0, .int .u32 0, .int .u32 0, .int .i64 0] (fun w => by kernel_rfl) rfl (fun w3 kX XX l1 f1 => ?_); refine ZM 20 (fun w4 r4 => ⟨(fun e => absurd (show true = false from e) (by decide)), ?_⟩); refine op_store rfl rfl 153 (.tmp 4) (.tmp 23) rfl kX (thrL X.2).toArray rfl rfl 153 _ (keep XX r4) (by kernel_rfl) rfl (by simp [Value.oneCell', thrL]) (fun w8 g1 g2 g3 => ?_); refine anyM_end (by kernel_rfl) (by kernel_rfl) (fun w9 r9 => ?_); have hs1 := hU1.size; have hs2 := r2.size
   have hkX : w1c.heap.size ≤ kX := by simp only [Hid] at f1; omega
   have hb : Below w1c.heap.size w1c w9 := (((r2.trans (l1.mono r2.size)).trans (r4.mono (Nat.le_trans r2.size l1.size))).trans (g3 _ hkX)).trans (r9.mono (Nat.le_trans (Nat.le_trans (Nat.le_trans r2.size l1.size) r4.size) (g3 0 (Nat.zero_le _)).size)); go_wp2; go_meet
   case rel => exact ⟨kX, F', X, rfl, hX, keep g1 r9, hM1.below hb, ((Upd.of_below q1).trans hU1).trans (Upd.of_below hb)⟩
  ·refine op_alloc rfl rfl 153 rfl (.agg #[.int .i64 0, .int .u32 0, .int .u32 0, .int .u32 0, .int .u32 0, .int .u32 0, .int .u32 0, .int .u32 0, .int .u32 0, .int .i64 0]) #[.int .i64 0, .int .u32 0, .int .u32 0, .int .u32 0, .int .u32 0, .int .u32 0, .int .u32 0, .int .u32 0, .int .u32 0, .int .i64 0] (fun w => by kernel_rfl) rfl (fun w2 kX XX l1 f1 => ?_)
   refine ZM 18 (fun w3 r3 => ⟨fun _ => (q1.trans (l1.mono q1.size)).trans (r3.mono (Nat.le_trans q1.size l1.size)), ?_⟩); have q3 := (q1.trans (l1.mono q1.size)).trans (r3.mono (Nat.le_trans q1.size l1.size))
   refine op_calls rfl rfl 80 #[.agg (thrL T).toArray, .slice pv kv cv, .agg (portL b ti M.mem.length).toArray] (fun v w' => ∃ X, Hid (X = coreF M ti T code) ∧ v = .agg (thrL X.2).toArray ∧ ∃ F', MMem w' b F' X.1 ∧ Upd F F' w3 w') (by first | (go_simp; done) | (go_simp; rfl)) ((stepC (hM.below q3) (hcd _ q3).2.2 hok hi hTu hck.1 hck.2 hs hl (hW.below q3)).mono fun e w' h => h.elim fun X h => ⟨_, h.2.1, X, h.1, rfl, h.2.2⟩) ?_
   rintro _ w3c ⟨X, hX, rfl, F', hM1, hU1⟩
   have hkX : w.heap.size ≤ kX := by simp only [Hid] at f1; have := q1.size; omega
   have hnX : ¬ F kX := fun h => by have := hM.lt kX h; omega
   have X3 := hU1.kept (keep XX r3) hnX; have hn3 := hU1.not hnX (blk_lt (keep XX r3)); refine ZM 20 (fun w4 r4 => ⟨(fun e => absurd (show true = false from e) (by decide)), ?_⟩); refine op_store rfl rfl 153 (.tmp 4) (.tmp 23) rfl kX (thrL X.2).toArray rfl rfl 153 _ (keep X3 r4) (by kernel_rfl) rfl (by simp [Value.oneCell', thrL]) (fun w8 g1 g2 g3 => ?_); refine anyM_end (by kernel_rfl) (by kernel_rfl) (fun w9 r9 => ?_); go_wp2; go_meet
   case rel => exact ⟨kX, F', X, rfl, hX, keep g1 r9, ((hM1.below r4).keptF hn3 (keep X3 r4) (by decide) g2).below r9, ((((Upd.of_below q3).trans hU1).trans (Upd.of_below r4)).fresh hkX g2 g3).trans (Upd.of_below r9)⟩
 case rest =>
  obtain ⟨kX, F', X, rfl, hX, XX, hM1, hU1⟩ := hcut; rw [← hX.out] at hS2 hcst
  have hi1 : ti < X.1.threads.length := by rw [hcst.st.tl]; exact hi
  clear hX hcd hOt c0 c1 cg hM f1; obtain ⟨M1, T1⟩ := X; simp only at hS2 hcst hi1 hM1 XX; obtain ⟨gt, ct, yt, hOt, hput⟩ := hM1.thr hi1; obtain ⟨T0, hT0⟩ : ∃ T, M1.threads[ti]? = some T := ⟨M1.threads[ti], List.getElem?_eq_getElem hi1⟩
  have f1 : (ti : Int) < M1.threads.length := by omega
  have c1 : ∀ w' : World, Below wc.heap.size wc w' → w'.cell? ⟨b, 1, none⟩ = some (.slice (some ⟨gt, 0, none⟩) M1.threads.length ct) := fun w' h' => (h'.cell (cell_lt yt)).trans yt; clear yt; go_upto_region 1 with (fail); refine ZT 7 wc ?_; simp only [List.take_succ_cons, List.take_zero]
  iterate 5 refine Zz ?_
  refine q_run rfl (fun K hK => ?_); refine q_load 153 (.tmp 4) rfl _ rfl _ (thrL T1).toArray (0, 0) _ (fun w' h' => keep XX h') Tryz.underlying153 rfl (by kernel_rfl) ?_; go_simp; refine hK _ ?_; clear hK K; refine Zy (.pointer (some ⟨gt, ti * 10, none⟩)) (fun w' h' => by go_simp) ?_; refine qd_nil (fun w5 h5 => ?_); simp only [List.drop_succ_cons, List.drop_zero]; refine wl_put eT_ok rfl 153 (by kernel_rfl) (.tmp 30) (.tmp 29) rfl gt ti _ ct M1.threads T0 T1 rfl rfl (hOt.below h5) hT0 (fun w6 hO6 p2 p3 _ => ?_); refine Zk ?_; obtain ⟨_, _, y6, _, hput6⟩ := (hM1.below h5).thr hi1; have e6 := Option.some.inj ((c1 w5 h5).symm.trans y6); simp only [Value.slice.injEq, Option.some.injEq, Addr.mk.injEq] at e6; obtain ⟨⟨rfl, _, _⟩, _, rfl⟩ := e6; obtain ⟨hM6, hU6⟩ := hput6 w6 _ hO6 p2 p3; go_wp2; go_end0; rw [hS2.out]; exact ⟨rfl, F', hM6, (hU1.trans (Upd.of_below h5)).trans hU6⟩
end Go.Proofs.YtbcgngfbbbfebaaGreatDoor
namespace Go.Proofs.YtbcgngfbbbfebaaGreatDoor
open Go.RowKit Go.Maps
set_option maxRecDepth 100000
set_option maxHeartbeats 32000000
set_option linter.unusedVariables false
set_option linter.unusedSimpArgs false
theorem MMem.thrs {w : World} {b : Nat} {F : Nat → Prop} {M : Mac} (h : MMem w b F M) : ∃ p c, w.cell? ⟨b, 1, none⟩ = some (.slice p M.threads.length c) := by
 obtain ⟨V, vs, h⟩ := h; obtain ⟨p, c, e⟩ := h.rt.form2; exact ⟨p, c, (cell_of_row w b 1 _ 104 _ h.blk).trans (by rw [← e]; rfl)⟩
theorem rouse_no {l : List Slp} {who : Int} (h : (rouseF l who).2 = false) : (rouseF l who).1 = l := by
 unfold rouseF at h ⊢
 split at h
 ·cases h
 ·rfl
theorem setSt_at {l : List Th} {i : Nat} {z : Th} (h : l[i]? = some z) (s : Int) : setSt l i s = l.set i { z with st := s } := by simp only [setSt, h]
theorem pickC {b : Nat} {F : Nat → Prop} {M : Mac} {w : World} (hM : MMem w b F M) (hok : MOk M) (hs : M.evs.length + 129 ≤ 3000000) (hl : M.slp.length ≤ 80000) (hW : IsaW w) (x : Pik) : Calls Tryz.prog 31 #[.pointer (some ⟨b, 0, none⟩), .agg (eP.enc x).toArray] w fun e w' => e = .returned (.tuple #[]) ∧ ∃ F', MMem w' b F' (pickF M x) ∧ Upd F F' w w' := by
 obtain ⟨pk, who⟩ := x; obtain ⟨X, hX⟩ : ∃ q, Hid (q = pickF M ⟨pk, who⟩) := ⟨_, rfl⟩; rw [← hX.out]; unfold pickF at hX; simp only at hX; obtain ⟨p1, c1, y1⟩ := hM.thrs; obtain ⟨N, hN⟩ : ∃ N, Hid (N = M.threads.length) := ⟨_, rfl⟩
 have hs' : M.evs.length ≤ 3000000 := by omega
 rw [← hN.out] at hX y1; have cl : ∀ w' : World, Below w.heap.size w w' → w'.cell? ⟨b, 1, none⟩ = some (.slice p1 N c1) := fun w' h' => (h'.cell (cell_lt y1)).trans y1; clear y1; show Calls Tryz.prog 31 #[.pointer (some ⟨b, 0, none⟩), .agg #[.int .i64 pk, .int .i64 who]] w _; go_enter Tryz.func31, Tryz.ntmps31; go_upto_region 1 with (fail); obtain ⟨W, kX, e0, e1, XX, hal⟩ := box1 w #[.int .i64 pk, .int .i64 who] 116; rw [e0, e1]
 have hX0 : w.heap.size ≤ kX := by omega
 have hF0 := hM.lt; clear e0 e1; have cw : ∀ w' : World, Below W.heap.size W w' → w'.cell? ⟨kX, 1, none⟩ = some (.int .i64 who) := fun w' h' => cell_of_row w' kX 1 _ 116 _ (keep XX h'); replace cl : ∀ w' : World, Below W.heap.size W w' → w'.cell? ⟨b, 1, none⟩ = some (.slice p1 N c1) := fun w' h' => cl w' (hal.trans (h'.mono hal.size))
 by_cases h1 : who < 0
 ·rw [if_pos (.inl h1)] at hX
  refine ZA W ?_
  iterate 4 refine Zz ?_
  iterate 8 refine Zs ?_
  refine Zz ?_; refine qd_nil (fun w2 h2 => ?_); have hb := hal.trans (h2.mono hal.size); clear cl cw; go_wp2; refine bodyPost_ret (v := .tuple #[]) (results_none (by rfl) _ _ _) rfl ?_; rw [hX.out]; exact ⟨rfl, F, hM.below hb, Upd.of_below hb⟩
 have h1' : ¬ who < 0 := h1
 by_cases h2 : (N : Int) ≤ who
 ·rw [if_pos (.inr h2)] at hX
  refine ZA W ?_
  iterate 13 refine Zz ?_
  refine qd_nil (fun w2 h2 => ?_); have hb := hal.trans (h2.mono hal.size); clear cl cw; go_wp2; refine bodyPost_ret (v := .tuple #[]) (results_none (by rfl) _ _ _) rfl ?_; rw [hX.out]; exact ⟨rfl, F, hM.below hb, Upd.of_below hb⟩
 refine ZA W ?_
 iterate 13 refine Zz ?_
 refine qd_nil (fun w2 hb2 => ?_); clear cl; rw [if_neg (fun h => h.elim h1 h2)] at hX; obtain ⟨ti, rfl⟩ := Int.eq_ofNat_of_zero_le (by omega : 0 ≤ who); rw [Int.toNat_natCast] at hX
 have hi : ti < M.threads.length := by rw [← hN.out]; omega
 have hb := hal.trans (hb2.mono hal.size); have X2 := keep XX hb2; replace hM := hM.below hb; have hU := Upd.of_below (F := F) hb; clear h1 h1' h2 cw hb2 XX hN; have yw : w2.cell? ⟨kX, 1, none⟩ = some (.int .i64 (ti : Nat)) := cell_of_row w2 kX 1 _ 116 _ X2; go_upto_region 2 with (fail); refine wp_region_lit ?_
 iterate 4 refine Zv ?_
 refine wl_alloc rfl 148 rfl (.agg #[.pointer none, .int .i64 0]) #[.pointer none, .int .i64 0] (fun w => by kernel_rfl) rfl (fun w3 kS XS0 l3 f3 => ?_); refine Zk ?_; refine wl_store rfl 148 (.tmp 4) (.tmp 21) rfl kS #[.pointer (some ⟨b, 0, none⟩), .int .i64 ti] rfl rfl 148 _ XS0 (by kernel_rfl) rfl (by simp [Value.oneCell']) (fun w4 XS g2 g3 g4 => ?_); refine Zk ?_; have hb4 : Below w2.heap.size w2 w4 := l3.trans (g3 _ (by simp only [Hid] at f3; omega))
 have hkS : w2.heap.size ≤ kS := by simp only [Hid] at f3; omega
 have X4 := keep X2 hb4; replace hM := hM.below hb4; replace hU := hU.trans (Upd.of_below (F := F) hb4); have hsz : w.heap.size ≤ w2.heap.size := hb.size
 have hnS : ¬ F kS := fun h => by have h1 := hF0 kS h; omega
 have hnX : ¬ F kX := fun h => by have h1 := hF0 kX h; omega
 replace hW := hW.below (hb.trans (hb4.mono hb.size)); have y0 : w4.cell? ⟨kX, 0, none⟩ = some (.int .i64 pk) := cell_of_row w4 kX 0 _ 116 _ X4; have y1 : w4.cell? ⟨kX, 1, none⟩ = some (.int .i64 (ti : Nat)) := cell_of_row w4 kX 1 _ 116 _ X4; clear g2 g3 g4 XS0 l3 f3 X2 hb4 hb yw
 by_cases k0 : pk = 0
 ·subst k0
  rw [if_pos rfl] at hX; go_upto_region 5 with (fail); refine wp_region_lit ?_
  iterate 3 refine Zv ?_
  refine wl_calls rfl 59 #[.pointer (some ⟨b, 0, none⟩), .int .i64 ti] (fun v w' => v = .tuple #[] ∧ ∃ F', MMem w' b F' (stepF M ti) ∧ Upd F F' w4 w') ?_ ((mstepC hM hok hi hs hl hW).mono fun e w' h => ⟨_, h.1, rfl, h.2⟩) ?_
  ·first | (go_simp; done) | (go_simp; rfl)
  rintro _ w5 ⟨rfl, F5, hM5, hU5⟩; refine Zk ?_; go_wp2; go_end0; rw [hX.out]; exact ⟨rfl, F5, hM5, hU.trans hU5⟩
 rw [if_neg k0] at hX
 by_cases k1 : pk = 1
 ·subst k1
  rw [if_pos rfl] at hX; go_upto_region 7 with (fail); refine wp_region_lit ?_; refine Zd 148 XS Tryz.underlying148 ?_; refine wl_calls rfl 60 #[sdV b ti] (fun v w' => v = .tuple #[] ∧ ∃ F', MMem w' b F' (flushT M ti) ∧ Upd F F' w4 w') ?_ ((sideFlush hM hok hi hs').mono fun e w' h => ⟨_, h.1, rfl, h.2⟩) ?_
  ·first | (go_simp; done) | (go_simp; rfl)
  rintro _ w5 ⟨rfl, F5, hM5, hU5⟩; refine Zk ?_; go_wp2; go_end0; rw [hX.out]; exact ⟨rfl, F5, hM5, hU.trans hU5⟩
 rw [if_neg k1] at hX
 by_cases k2 : pk = 2
 case neg =>
  rw [if_neg k2] at hX; go_wp2; go_end0; rw [hX.out]; exact ⟨rfl, F, hM, hU⟩
 subst k2; rw [if_pos rfl] at hX; unfold rouseM at hX; have hrs := fun (w' : World) (h : Below w4.heap.size w4 w') => kernRouse (ti : Int) (hM.below h) (by omega); obtain ⟨R, hR⟩ : ∃ q, Hid (q = rouseF M.slp ti) := ⟨_, rfl⟩; rw [← hR.out] at hrs hX
 have hno : R.2 = false → R.1 = M.slp := by rw [hR.out]; exact rouse_no
 clear hR k0 k1; obtain ⟨sl, rb⟩ := R; simp only at hrs hX hno; go_upto_region 9 with (fail); have cX : ∀ w' : World, Below w4.heap.size w4 w' → w'.cell? ⟨kX, 1, none⟩ = some (.int .i64 (ti : Nat)) := fun w' h' => cell_of_row w' kX 1 _ 116 _ (keep X4 h'); refine ZT 5 w4 ?_; simp only [List.take_succ_cons, List.take_zero]
 iterate 5 refine Zz ?_
 refine qd_nil (fun w5 h5 => ?_); clear cX; simp only [List.drop_succ_cons, List.drop_zero]; refine wl_calls rfl 61 #[.pointer (some ⟨b, 4, none⟩), .int .i64 ti] (fun v w' => v = .bool rb ∧ ∃ F', MMem w' b F' { M with slp := sl } ∧ Upd F F' w5 w') ?_ ((hrs w5 h5).mono fun e w' h => ⟨_, h.1, rfl, h.2⟩) ?_
 ·first | (go_simp; done) | (go_simp; rfl)
 rintro _ w6 ⟨rfl, F6, hM6, hU6⟩; refine Zk ?_; clear hrs; have X6 := hU6.kept (keep X4 h5) hnX; have XS6 := hU6.kept (keep XS h5) hnS; have hn6 := hU6.not hnS (blk_lt (keep XS h5)); have hU7 := (hU.trans (Upd.of_below h5)).trans hU6; clear hM hU hU6 h5 X4 XS y1
 cases rb with
 | false =>
  rw [if_neg (by decide)] at hX; rw [hno rfl] at hM6; go_wp2; go_end0; rw [hX.out]; exact ⟨rfl, F6, hM6, hU7⟩
 | true =>
  rw [if_pos rfl] at hX; have hi6 : ti < ({ M with slp := sl } : Mac).threads.length := hi; obtain ⟨gt, ct, yt, hOt, hput⟩ := hM6.thr hi6; simp only at yt hOt; obtain ⟨T, hT⟩ : ∃ T, M.threads[ti]? = some T := ⟨M.threads[ti], List.getElem?_eq_getElem hi⟩
  have f0 : (0 : Int) ≤ ti := by omega
  have f1 : (ti : Int) < M.threads.length := by omega
  have cX : ∀ w' : World, Below w6.heap.size w6 w' → w'.cell? ⟨kX, 1, none⟩ = some (.int .i64 (ti : Nat)) := fun w' h' => cell_of_row w' kX 1 _ 116 _ (keep X6 h'); have ct' : ∀ w' : World, Below w6.heap.size w6 w' → w'.cell? ⟨b, 1, none⟩ = some (.slice (some ⟨gt, 0, none⟩) M.threads.length ct) := fun w' h' => (h'.cell (cell_lt yt)).trans yt; go_upto_region 10 with (fail); refine ZT 8 w6 ?_; simp only [List.take_succ_cons, List.take_zero]
  iterate 6 refine Zz ?_
  refine Zy (.pointer (some ⟨gt, ti * 10, none⟩)) (fun w' h' => by go_simp) ?_; refine Zy (.pointer (some ⟨gt, ti * 10 + 9, none⟩)) (fun w' h' => by go_simp) ?_; refine qd_nil (fun w7 h7 => ?_); simp only [List.drop_succ_cons, List.drop_zero]; obtain ⟨_, _, y8, _, hput8⟩ := (hM6.below h7).thr hi6; have e8 := Option.some.inj ((ct' w7 h7).symm.trans y8); simp only [Value.slice.injEq, Option.some.injEq, Addr.mk.injEq] at e8; obtain ⟨⟨rfl, _, _⟩, _, rfl⟩ := e8; obtain ⟨cur, hcur, hcs⟩ := own_cur eT_ok (hOt.below h7)
  have hcs' : ti * 10 + 9 < cur.size := by
   have : eT.sz = 10 := rfl; rw [this] at hcs; omega
  refine wl_stv rfl 3 (fun w => by kernel_rfl) (.tmp 49) (.const (.int .i64 0)) rfl gt (ti * 10 + 9) (.int .i64 0) rfl (st_i64 0) cur 153 rfl rfl hcur hcs' (fun w8 p1 p2 p3 => ?_); refine Zk ?_; have hO8 := own_put1 eT_ok (hOt.below h7) hcur (i := ti) (q := 9) (x := T) (y := { T with st := 0 }) hT (by decide) rfl p1; obtain ⟨hM8, hU8⟩ := hput8 w8 _ hO8 p2 p3; have XS8 := hU8.kept (keep XS6 h7) hn6; have hUU := (hU7.trans (Upd.of_below h7)).trans hU8; clear cX ct' yt hO8 p1 p2 p3 hcur hcs hcs' y8 hput hput8 hM6 hU8 XS6 h7 hOt X6 hU7; go_upto_region 11 with (fail); refine wp_region_lit ?_; refine Zd 148 XS8 Tryz.underlying148 ?_; refine Zv ?_; refine wl_calls rfl 62 #[sdV b ti, .agg (evtL ⟨11, 0, 0, 0, 0, 0, 0, false⟩).toArray] (fun v w' => v = .tuple #[] ∧ ∃ F', MMem w' b F' { M with slp := sl, threads := M.threads.set ti { T with st := 0 }, evs := M.evs ++ [⟨11, ti, 0, 0, 0, 0, 0, false⟩] } ∧ Upd F6 F' w8 w') ?_ ((sideNote (ti := ti) hM8 ⟨11, 0, 0, 0, 0, 0, 0, false⟩ hs').mono fun e w' h => ⟨_, h.1, rfl, h.2⟩) ?_
  ·go_simp; exact ⟨rfl, rfl⟩
  rintro _ w9 ⟨rfl, F9, hM9, hU9⟩; refine Zk ?_; go_wp2; go_end0; rw [hX.out, setSt_at hT]; exact ⟨rfl, F9, hM9, hUU.trans hU9⟩
end Go.Proofs.YtbcgngfbbbfebaaGreatDoor
