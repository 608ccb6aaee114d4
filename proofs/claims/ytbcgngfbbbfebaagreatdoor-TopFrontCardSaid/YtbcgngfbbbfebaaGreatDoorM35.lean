/- A thread's instruction: its register; it notes an event; it ends. A thread's instruction: it changes a word of memory; whether it jumps; its address. -/
import Derived.Test.YtbcgngfbbbfebaaGreatDoorM34
namespace Go.Proofs.YtbcgngfbbbfebaaGreatDoor
open Go.RowKit Go.Maps
set_option maxRecDepth 100000
set_option maxHeartbeats 32000000
set_option linter.unusedVariables false
set_option linter.unusedSimpArgs false
section
variable {P : Program} {ops : Array Oper} {C : World → Prop} {Q : Act → Prop} {a : Act} {o : Oper} {rest : List Oper}
theorem qv (v : Value) (hv : ∀ w, C w → (execOp a.eval o).run P w = .ok (.value v) w) (h : ∀ K : Act → Prop, (∀ a, Qd P ops C Q rest a → K a) → K (a.put o.dst v)) (hw : Region.wanted o (yielded ops a.tmps) = true := by rfl) : Qd P ops C Q (o :: rest) a :=
 q_run hw fun K hK => q_value v hv (h K hK)
theorem qe {W : World} (f : FuncId) (args : Array Value) (v : Value) (hc : ∀ w, Below W.heap.size W w → Calls P f args w fun e w' => e = .returned v ∧ Below w.heap.size w w') (he : ∀ w, (execOp a.eval o).run P w = .ok (.enter f args) w) (h : ∀ K : Act → Prop, (∀ a, Qd P ops (fun w' => Below W.heap.size W w') Q rest a → K a) → K (a.put o.dst v)) (hw : Region.wanted o (yielded ops a.tmps) = true := by rfl) : Qd P ops (fun w' => Below W.heap.size W w') Q (o :: rest) a :=
 q_run hw fun K hK => q_enter f args v he (fun w' h' => (hc w' h').mono fun e w'' hh => ⟨hh.1, h'.trans (hh.2.mono h'.size)⟩) (h K hK)
end
theorem RM.cell {b ti n kR : Nat} {F : Nat → Prop} {M : Mac} {T : Th} {I : Ins} {A : Int} {w : World} (h : RM w b kR F M T I A ti n) {j : Nat} {v : Value} (hv : (runC b ti n T I A)[j]? = some v) : w.cell? ⟨kR, j, none⟩ = some v := (cell_of_row w kR j _ 192 _ h.r).trans hv
theorem regC {b ti n kR : Nat} {F : Nat → Prop} {M : Mac} {T : Th} {I : Ins} {A : Int} {w : World} (hR : RM w b kR F M T I A ti n) (a : Nat) (ha : I.a = a) (h8 : a < 8) : Calls Tryz.prog 163 #[.pointer (some ⟨kR, 0, none⟩)] w fun e w' => e = .returned (.pointer (some ⟨kR, 1 + a, none⟩)) ∧ Below w.heap.size w w' := by
 go_enter Tryz.func163, Tryz.ntmps163
 have h0 : (0 : Int) ≤ a := by omega
 have h1 : (a : Int) < 8 := by omega
 have ca : ∀ w' : World, Below w.heap.size w w' → w'.cell? ⟨kR, 11, none⟩ = some (.int .i64 (a : Nat)) := fun w' h' => (hR.below h').cell (by rw [← ha]; rfl); clear ha; go_upto_region 1 with (fail); refine ZA w ?_
 iterate 11 refine Zz ?_
 refine qd_nil (fun w2 h2 => ?_); go_wp2; go_ret; exact ⟨rfl, h2⟩
theorem noteC {b ti n kR : Nat} {F : Nat → Prop} {M : Mac} {T : Th} {I : Ins} {A : Int} {w : World} (hR : RM w b kR F M T I A ti n) (x : Evt) (hs : M.evs.length ≤ 3000000) : Calls Tryz.prog 162 #[.pointer (some ⟨kR, 0, none⟩), .agg (evtL x).toArray] w fun e w' => e = .returned (.tuple #[]) ∧ ∃ F', RM w' b kR F' (noteM M ti T A x) (T) I (A) ti n ∧ Upd (Or1 F kR) (Or1 F' kR) w w' := by
 obtain ⟨ek, ew, ep, ea, ev, eo, eK, eb⟩ := x; unfold evtL; go_enter Tryz.func162, Tryz.ntmps162; go_upto_region 1 with (fail); obtain ⟨W, kX, e0, e1, XX, hal⟩ := box1 w #[.int .i64 ek, .int .i64 ew, .int .i64 ep, .int .i64 ea, .int .u32 ev, .int .u32 eo, .int .u32 eK, .bool eb] 35; rw [e0, e1]
 have hkX : w.heap.size ≤ kX := by omega
 clear e0 e1; have hR0 := hR; have hn := (hR.fresh hkX).1; replace hR := hR.below hal; have D0 : ∀ w' : World, w'.heap[kR]? = W.heap[kR]? → w'.cell? ⟨kR, 0, none⟩ = some (.int .i64 T.pc) := fun w' h' => cell_of_row w' kR 0 _ 192 _ (h'.trans hR.r); have D1 : ∀ w' : World, w'.heap[kR]? = W.heap[kR]? → w'.cell? ⟨kR, 26, none⟩ = some (.int .i64 A) := fun w' h' => cell_of_row w' kR 26 _ 192 _ (h'.trans hR.r); have hb : ∀ w' : World, Below W.heap.size W w' → w'.heap[kR]? = W.heap[kR]? := fun w' h' => h'.block kR (blk_lt hR.r); refine grow_headL [0, 1, 2, 3, 4, 5, 6, 7, 8, 9] 12 13 (fun w' => w'.heap[kR]? = W.heap[kR]?) _ rfl (by kernel_rfl) (by kernel_rfl) (by decide) (by kernel_rfl) ?_
 iterate 9 refine ZR ?_
 refine ZF ?_; refine gl_nil ?_; show anyM _ _ _ _ _ _ _ _ _ _; clear D0 D1; have q0 : Below W.heap.size W W.drew := Below.drew (Below.refl _ _); refine ZM 10 (fun w1 r1 => ⟨fun _ => hb _ (q0.trans (r1.mono q0.size)), ?_⟩); have q1 := q0.trans (r1.mono q0.size); refine op_stv rfl rfl 3 (fun w => by kernel_rfl) (.tmp 13) (.tmp 8) rfl kX 2 (.int .i64 T.pc) rfl (st_i64 _) _ 35 rfl rfl (keep XX q1) (by simp) (fun w2 p1 p2 p3 => ?_); refine ZM 11 (fun w21 r21 => ⟨fun _ => ((r21.block kR (blk_lt ((p2 kR hn.symm).trans (hR.below q1).r))).trans (p2 kR hn.symm)).trans (hb _ q1), ?_⟩); refine op_value rfl rfl (.pointer (some ⟨kX, 3, none⟩)) (by go_simp) ?_; refine ZM 12 (fun w3 r30 => ⟨fun _ => (((r21.trans (r30.mono r21.size)).block kR (blk_lt ((p2 kR hn.symm).trans (hR.below q1).r))).trans (p2 kR hn.symm)).trans (hb _ q1), ?_⟩); have r3 := r21.trans (r30.mono r21.size); clear r21 r30; refine op_stv rfl rfl 3 (fun w => by kernel_rfl) (.tmp 14) (.tmp 12) rfl kX 3 (.int .i64 A) rfl (st_i64 _) _ 35 rfl rfl (keep p1 r3) (by simp) (fun w4 s1 s2 s3 => ?_); refine anyM_end (by kernel_rfl) (by kernel_rfl) (fun w5 r5 => ?_); have X5 : w5.heap[kX]? = some (.cells #[.int .i64 ek, .int .i64 ew, .int .i64 T.pc, .int .i64 A, .int .u32 ev, .int .u32 eo, .int .u32 eK, .bool eb] 35 (0, 0)) := keep s1 r5; have hal5 : Below w.heap.size w w5 := ((((hal.trans (q1.mono hal.size)).trans (p3 _ hkX)).trans (r3.mono (by have := hal.size; have := q1.size; have := (p3 0 (Nat.zero_le _)).size; omega))).trans (s3 _ hkX)).trans (r5.mono (by have := hal.size; have := q1.size; have := (p3 0 (Nat.zero_le _)).size; have := r3.size; have := (s3 0 (Nat.zero_le _)).size; omega))
 replace hR := hR0.below hal5; clear p1 p2 p3 s1 s2 s3 r1 r3 r5 q0 q1 hb hn XX hkX; go_upto_region 2 with (fail); have c25 : ∀ w' : World, Below w5.heap.size w5 w' → w'.cell? ⟨kR, 25, none⟩ = some (fnV b ti 62) := fun w' h' => (hR.below h').cell rfl; refine ZT 6 w5 ?_; simp only [List.take_succ_cons, List.take_zero]
 iterate 5 refine Zz ?_
 refine Zl 35 #[.int .i64 ek, .int .i64 ew, .int .i64 T.pc, .int .i64 A, .int .u32 ev, .int .u32 eo, .int .u32 eK, .bool eb] (fun w' h' => keep X5 h') Tryz.underlying35 ?_; refine qd_nil (fun w6 r6 => ?_); simp only [List.drop_succ_cons, List.drop_zero]; have hc := sideNote (ti := ti) (hR.m.below r6) ⟨ek, ew, T.pc, A, ev, eo, eK, eb⟩ hs; refine wl_calls rfl 62 #[sdV b ti, .agg #[.int .i64 ek, .int .i64 ew, .int .i64 T.pc, .int .i64 A, .int .u32 ev, .int .u32 eo, .int .u32 eK, .bool eb]] (fun v w' => v = .tuple #[] ∧ ∃ F', MMem w' b F' (noteM M ti T A ⟨ek, ew, ep, ea, ev, eo, eK, eb⟩) ∧ Upd F F' w6 w') ?_ (hc.mono fun e w' h => ⟨_, h.1, rfl, h.2⟩) ?_
 ·first | (go_simp; done) | (go_simp; rfl)
 rintro v w7 ⟨rfl, F', hM, hU⟩; refine Zk ?_; obtain ⟨hR7, hU7⟩ := (hR.below r6).call hM hU; have hal6 := hal5.trans (r6.mono hal5.size); clear hR r6 c25 X5 hc; go_wp2; go_end0; exact ⟨rfl, F', hR7, (Upd.of_below hal6).trans hU7⟩
theorem ret_c1 {fn : Func} {d : List Deferred} {w : World} {R : Ending → World → Prop} {tmps : Array Value} {p : Tmp} {b : Nat} {cs : Array Value} {ty : TypeId} {ds : TypeDesc} (hr : fn.results = #[.cell p ty]) (hx : tmps.getD p undef = .pointer (some ⟨b, 0, none⟩))
  (hg : w.heap[b]? = some (.cells cs ty (0, 0))) (hd' : ds.isRow = true) (hu : Tryz.prog.underlying ty = some ds) (hi : (Tryz.prog.info? ty).map (·.size) = some cs.size) (hd : d = []) (hR : R (.returned (.agg cs)) w) : bodyPost Tryz.prog fn R (.ret) ⟨tmps, d⟩ w := by
 refine bodyPost_ret ?_ hd hR
 rw [results_cell_row hr tmps w b ty cs (0, 0) _ hx hg hu (by cases ds <;> first | rfl | cases hd') hi]
section
variable {ops : Array Oper} {Q : Exit → Act → World → Prop} {b ti n kR : Nat} {F : Nat → Prop} {M M' : Mac} {T T' : Th} {I : Ins} {A : Int} {w : World}
theorem wl_rm {rest : List Oper} {o : Oper} {a : Act} (hgd : o.guard = none) (g : FuncId) (args : Array Value) {v0 : Value} (h : (execOp a.eval o).run Tryz.prog w = .ok (.enter g args) w)
  (hc : Calls Tryz.prog g args w fun e w' => e = .returned v0 ∧ ∃ F', RM w' b kR F' M' T' I A ti n ∧ Upd (Or1 F kR) (Or1 F' kR) w w')
  (hK : ∀ F' w', RM w' b kR F' M' T' I A ti n → Upd (Or1 F kR) (Or1 F' kR) w w' → ∀ K : Act → World → Prop, (∀ a w, wpList Tryz.prog ops Q rest a w → K a w) → K (a.put o.dst v0) w') : wpList Tryz.prog ops Q (o :: rest) a w :=
 wl_calls hgd g args (fun v w' => v = v0 ∧ ∃ F', RM w' b kR F' M' T' I A ti n ∧ Upd (Or1 F kR) (Or1 F' kR) w w') h (hc.mono fun e w' hh => ⟨v0, hh.1, rfl, hh.2⟩) fun v w' hh K hK' => by
  obtain ⟨rfl, F', h1, h2⟩ := hh; exact hK F' w' h1 h2 K hK'
theorem Upd.fresh {F F' : Nat → Prop} {w w3 w4 : World} {k : Nat} (h : Upd F F' w w3) (hk : w.heap.size ≤ k) (g2 : ∀ j, j ≠ k → w4.heap[j]? = w3.heap[j]?) (g3 : ∀ B, B ≤ k → Below B w3 w4) : Upd F F' w w4 :=
 ⟨fun B hF hB => (h.low B hF hB).trans (g3 B (by omega)), fun j hj hn => (g2 j (by omega)).trans (h.blk j hj hn), h.foot⟩
theorem MMem.keptF {k : Nat} {w w' : World} {cs : Array Value} {ty : TypeId} (h : MMem w b F M) (hF : ¬ F k) (hk : w.heap[k]? = some (.cells cs ty (0, 0))) (h1 : 114 ≠ ty) (p2 : ∀ j, j ≠ k → w'.heap[j]? = w.heap[j]?) : MMem w' b F M := by
 obtain ⟨V, vs, h⟩ := h; have ho : ∀ {α : Type} {E : Enc α} {v : Value} {l : List α}, (∀ j, v.ownBlock = some j → F j) → Own E w v l → Own E w' v l := fun hv hO => hO.keep fun g e => p2 g (fun e' => hF (e' ▸ hv g e)); exact ⟨V, vs, (p2 b (fun e => hF (e ▸ (h.foot b).2 (.inl rfl)))).trans h.blk, ho (fun j e => (h.foot j).2 (.inr (.inl e))) h.rc, ⟨h.cm.len, fun i v L e1 e2 => (h.cm.code i v L e1 e2).kept hk h1 p2⟩, ho (fun j e => (h.foot j).2 (.inr (.inr (.inl e)))) h.rt, ho (fun j e => (h.foot j).2 (.inr (.inr (.inr (.inl e))))) h.rf, ho (fun j e => (h.foot j).2 (.inr (.inr (.inr (.inr (.inl e)))))) h.rm, ho (fun j e => (h.foot j).2 (.inr (.inr (.inr (.inr (.inr (.inl e))))))) h.rk, ho (fun j e => (h.foot j).2 (.inr (.inr (.inr (.inr (.inr (.inr e))))))) h.re, h.foot⟩
theorem RM.box {k : Nat} {w w' : World} {cs : Array Value} {ty : TypeId} (h : RM w b kR F M T I A ti n) (hn : ¬ Or1 F kR k) (hk : w.heap[k]? = some (.cells cs ty (0, 0))) (h1 : 114 ≠ ty) (p2 : ∀ j, j ≠ k → w'.heap[j]? = w.heap[j]?) : RM w' b kR F M T I A ti n := ⟨h.m.keptF (fun e => hn (.inl e)) hk h1 p2, (p2 kR (fun e => hn (.inr e.symm))).trans h.r, h.f⟩
theorem Upd.not {F F' : Nat → Prop} {w w' : World} {k : Nat} (h : Upd F F' w w') (hn : ¬ F k) (hk : k < w.heap.size) : ¬ F' k := fun hF => by
 rcases h.foot k hF with h1 | h1
 ·exact hn h1
 ·omega
theorem RM.th (h : RM w b kR F M T I A ti n) : w.rangeAt kR 0 (thrL T) := fun q v hv => by
 rw [Nat.zero_add, cell_of_row w kR q _ 192 _ h.r]
 match q, hv with
 | 0, hv | 1, hv | 2, hv | 3, hv | 4, hv | 5, hv | 6, hv | 7, hv | 8, hv | 9, hv => exact hv
 | q + 10, hv => simp [thrL] at hv
theorem RM.ins (h : RM w b kR F M T I A ti n) : w.rangeAt kR 10 (insL I) := fun q v hv => by
 rw [cell_of_row w kR (10 + q) _ 192 _ h.r]
 match q, hv with
 | 0, hv | 1, hv | 2, hv | 3, hv | 4, hv => exact hv
 | q + 5, hv => simp [insL] at hv
end
theorem faultsC {b ti n kR : Nat} {F : Nat → Prop} {M : Mac} {T : Th} {I : Ins} {A : Int} {w : World} (hR : RM w b kR F M T I A ti n) (hs : M.evs.length ≤ 3000000) : Calls Tryz.prog 97 #[.pointer (some ⟨kR, 0, none⟩)] w fun e w' => e = .returned (.agg (thrL (setS T 3)).toArray) ∧ ∃ F', RM w' b kR F' (noteM M ti (setS T 3) A (ev 13 0 0 0 false)) (setS T 3) I (A) ti n ∧ Upd (Or1 F kR) (Or1 F' kR) w w' := by
 go_enter Tryz.func97, Tryz.ntmps97; go_upto_region 1 with (fail); obtain ⟨W, kX, e0, e1, XX, hal⟩ := box1 w #[.int .i64 0, .int .u32 0, .int .u32 0, .int .u32 0, .int .u32 0, .int .u32 0, .int .u32 0, .int .u32 0, .int .u32 0, .int .i64 0] 153; rw [e0, e1]
 have hkX : w.heap.size ≤ kX := by omega
 clear e0 e1; have hf := hR.fresh hkX
 have hn : ¬ Or1 F kR kX := fun h => h.elim hf.2 hf.1
 have hkW := blk_lt XX; have hR1 := hR.below hal; refine wp_region_lit ?_
 iterate 4 refine Zv ?_
 refine wl_stv rfl 3 (fun w => by kernel_rfl) (.tmp 6) (.const (.int .i64 3)) rfl kR 9 (.int .i64 3) rfl (st_i64 3) _ 192 rfl rfl hR1.r (by show 9 < 27; decide) (fun w1 p1 p2 p3 => ?_); refine Zk ?_; obtain ⟨hR2, hU2⟩ := hR1.put p1 (runC_st 3) p2 p3; have X1 := (p2 kX hf.1).trans XX; have hU := hU2; clear p1 p2 p3 hU2 XX hR1; go_upto_region 2 with (fail); refine wp_region_lit ?_
 iterate 2 refine Zv ?_
 refine wl_rm rfl 162 #[.pointer (some ⟨kR, 0, none⟩), .agg (evtL (ev 13 0 0 0 false)).toArray] ?_ (noteC hR2 (ev 13 0 0 0 false) hs) (fun F3 w3 hR3 hU3 => ?_)
 ·first | (go_simp; done) | (go_simp; rfl)
 refine Zk ?_; have X3 := hU3.kept X1 hn; replace hU := hU.trans hU3; have hT := hR3.th; clear hU3 X1 hR2; go_upto_region 3 with (fail); refine wp_region_lit ?_
 iterate 3 refine Zv ?_
 refine wl_at rfl (.agg (thrL (setS T 3)).toArray) (run_ldm 153 (.tmp 12) rfl kR 0 rfl (thrL (setS T 3)) _ hT Tryz.underlying153 rfl (by kernel_rfl)) ?_; refine Zk ?_; refine wl_store rfl 153 (.tmp 2) (.tmp 13) rfl kX (thrL (setS T 3)).toArray rfl rfl 153 _ X3 (by kernel_rfl) rfl (by simp [Value.oneCell', thrL]) (fun w4 g1 g2 g3 g4 => ?_); refine Zk ?_; go_wp2; refine ret_c1 rfl rfl g1 rfl Tryz.underlying153 (by kernel_rfl) rfl ?_; exact ⟨rfl, F3, hR3.box (hU.not hn hkW) X3 (by decide) g2, ((Upd.of_below hal).trans hU).fresh hkX g2 g3⟩
theorem haltsC {b ti n kR : Nat} {F : Nat → Prop} {M : Mac} {T : Th} {I : Ins} {A : Int} {w : World} (hR : RM w b kR F M T I A ti n) (hs : M.evs.length ≤ 3000000) : Calls Tryz.prog 96 #[.pointer (some ⟨kR, 0, none⟩)] w fun e w' => e = .returned (.agg (thrL (setS T 2)).toArray) ∧ ∃ F', RM w' b kR F' (noteM M ti (setS T 2) A (ev 12 0 0 0 false)) (setS T 2) I (A) ti n ∧ Upd (Or1 F kR) (Or1 F' kR) w w' := by
 go_enter Tryz.func96, Tryz.ntmps96; go_upto_region 1 with (fail); obtain ⟨W, kX, e0, e1, XX, hal⟩ := box1 w #[.int .i64 0, .int .u32 0, .int .u32 0, .int .u32 0, .int .u32 0, .int .u32 0, .int .u32 0, .int .u32 0, .int .u32 0, .int .i64 0] 153; rw [e0, e1]
 have hkX : w.heap.size ≤ kX := by omega
 clear e0 e1; have hf := hR.fresh hkX
 have hn : ¬ Or1 F kR kX := fun h => h.elim hf.2 hf.1
 have hkW := blk_lt XX; have hR1 := hR.below hal; refine wp_region_lit ?_
 iterate 4 refine Zv ?_
 refine wl_stv rfl 3 (fun w => by kernel_rfl) (.tmp 6) (.const (.int .i64 2)) rfl kR 9 (.int .i64 2) rfl (st_i64 2) _ 192 rfl rfl hR1.r (by show 9 < 27; decide) (fun w1 p1 p2 p3 => ?_); refine Zk ?_; obtain ⟨hR2, hU2⟩ := hR1.put p1 (runC_st 2) p2 p3; have X1 := (p2 kX hf.1).trans XX; have hU := hU2; clear p1 p2 p3 hU2 XX hR1; go_upto_region 2 with (fail); refine wp_region_lit ?_
 iterate 2 refine Zv ?_
 refine wl_rm rfl 162 #[.pointer (some ⟨kR, 0, none⟩), .agg (evtL (ev 12 0 0 0 false)).toArray] ?_ (noteC hR2 (ev 12 0 0 0 false) hs) (fun F3 w3 hR3 hU3 => ?_)
 ·first | (go_simp; done) | (go_simp; rfl)
 refine Zk ?_; have X3 := hU3.kept X1 hn; replace hU := hU.trans hU3; have hT := hR3.th; clear hU3 X1 hR2; go_upto_region 3 with (fail); refine wp_region_lit ?_
 iterate 3 refine Zv ?_
 refine wl_at rfl (.agg (thrL (setS T 2)).toArray) (run_ldm 153 (.tmp 12) rfl kR 0 rfl (thrL (setS T 2)) _ hT Tryz.underlying153 rfl (by kernel_rfl)) ?_; refine Zk ?_; refine wl_store rfl 153 (.tmp 2) (.tmp 13) rfl kX (thrL (setS T 2)).toArray rfl rfl 153 _ X3 (by kernel_rfl) rfl (by simp [Value.oneCell', thrL]) (fun w4 g1 g2 g3 g4 => ?_); refine Zk ?_; go_wp2; refine ret_c1 rfl rfl g1 rfl Tryz.underlying153 (by kernel_rfl) rfl ?_; exact ⟨rfl, F3, hR3.box (hU.not hn hkW) X3 (by decide) g2, ((Upd.of_below hal).trans hU).fresh hkX g2 g3⟩
end Go.Proofs.YtbcgngfbbbfebaaGreatDoor
namespace Go.Proofs.YtbcgngfbbbfebaaGreatDoor
open Go.RowKit Go.Maps
set_option maxRecDepth 100000
set_option maxHeartbeats 32000000
set_option linter.unusedVariables false
set_option linter.unusedSimpArgs false
section
variable {ops : Array Oper} {Q : Exit → Act → World → Prop} {b ti n kR : Nat} {F : Nat → Prop} {M M' : Mac} {T T' : Th} {I : Ins} {A : Int} {w : World}
theorem wl_mc {rest : List Oper} {o : Oper} {a : Act} (hgd : o.guard = none) (hR : RM w b kR F M T I A ti n) (g : FuncId) (args : Array Value) {v0 : Value} (h : (execOp a.eval o).run Tryz.prog w = .ok (.enter g args) w)
  (hc : Calls Tryz.prog g args w fun e w' => e = .returned v0 ∧ ∃ F', MMem w' b F' M' ∧ Upd F F' w w')
  (hK : ∀ F' w', RM w' b kR F' M' T I A ti n → Upd (Or1 F kR) (Or1 F' kR) w w' → ∀ K : Act → World → Prop, (∀ a w, wpList Tryz.prog ops Q rest a w → K a w) → K (a.put o.dst v0) w') : wpList Tryz.prog ops Q (o :: rest) a w :=
 wl_rm hgd g args h (hc.mono fun e w' hh => ⟨hh.1, hh.2.elim fun F' h2 => ⟨F', hR.call h2.1 h2.2⟩⟩) hK
theorem wl_qc {rest : List Oper} {o : Oper} {a : Act} (hgd : o.guard = none) (g : FuncId) (args : Array Value) {v0 : Value} (h : (execOp a.eval o).run Tryz.prog w = .ok (.enter g args) w)
  (hc : Calls Tryz.prog g args w fun e w' => e = .returned v0 ∧ Below w.heap.size w w')
  (hK : ∀ w', Below w.heap.size w w' → ∀ K : Act → World → Prop, (∀ a w, wpList Tryz.prog ops Q rest a w → K a w) → K (a.put o.dst v0) w') : wpList Tryz.prog ops Q (o :: rest) a w :=
 wl_calls hgd g args (fun v w' => v = v0 ∧ Below w.heap.size w w') h (hc.mono fun e w' hh => ⟨v0, hh.1, rfl, hh.2⟩) fun v w' hh K hK' => by
  obtain ⟨rfl, h1⟩ := hh; exact hK w' h1 K hK'
end
theorem lockedC {b ti n kR : Nat} {F : Nat → Prop} {M : Mac} {T : Th} {I : Ins} {an : Nat} {w : World} (hR : RM w b kR F M T I (an : Nat) ti n) (hA : an < M.mem.length) (a : Nat) (ha : I.a = a) (h8 : a < 8) (old v : Int) (ok : Bool) (hs : M.evs.length ≤ 3000000) : Calls Tryz.prog 164 #[.pointer (some ⟨kR, 0, none⟩), .int .u32 old, .int .u32 v, .bool ok] w fun e w' => e = .returned (.tuple #[]) ∧ ∃ F', RM w' b kR F' ((lockedF M ti T a an old v ok).1) ((lockedF M ti T a an old v ok).2) I (an) ti n ∧ Upd (Or1 F kR) (Or1 F' kR) w w' := by
 go_enter Tryz.func164, Tryz.ntmps164
 cases ok with
 | true =>
  go_upto_region 1 with (fail); have c21 : ∀ w' : World, Below w.heap.size w w' → w'.cell? ⟨kR, 21, none⟩ = some (fnV b ti 108) := fun w' h' => (hR.below h').cell rfl; have c26 : ∀ w' : World, Below w.heap.size w w' → w'.cell? ⟨kR, 26, none⟩ = some (.int .i64 an) := fun w' h' => (hR.below h').cell rfl; refine ZT 10 w ?_; simp only [List.take_succ_cons, List.take_zero]
  iterate 10 refine Zz ?_
  refine qd_nil (fun w1 h1 => ?_); clear c21 c26; simp only [List.drop_succ_cons, List.drop_zero]; refine wl_mc rfl (hR.below h1) 108 #[sdV b ti, .int .i64 an, .int .u32 v] ?_ (sideSwap (ti := ti) (hR.m.below h1) an hA v) (fun F2 w2 hR2 hU2 => ?_)
  ·first | (go_simp; done) | (go_simp; rfl)
  refine Zk ?_; have hU := (Upd.of_below (F := Or1 F kR) h1).trans hU2; clear hU2 h1; go_upto_region 3 with (fail); refine wp_region_lit ?_
  iterate 5 refine Zv ?_
  refine wl_rm rfl 162 #[.pointer (some ⟨kR, 0, none⟩), .agg (evtL (ev 4 v old 0 true)).toArray] ?_ (noteC hR2 (ev 4 v old 0 true) hs) (fun F3 w3 hR3 hU3 => ?_)
  ·first | (go_simp; done) | (go_simp; rfl)
  refine Zk ?_; go_upto_region 4 with (fail); refine wp_region_lit ?_; refine Zv ?_; refine Zq 163 #[.pointer (some ⟨kR, 0, none⟩)] (regC hR3 a ha h8) (fun w4 hb4 => ?_)
  iterate 2 refine Zv ?_
  refine wl_stv rfl 33 (fun w => by kernel_rfl) (.tmp 30) (.tmp 29) rfl kR (1 + a) (.int .u32 old) rfl st_u32 _ 192 rfl rfl (hR3.below hb4).r (by show 1 + a < 27; omega) (fun w5 p1 p2 p3 => ?_); refine Zk ?_; obtain ⟨hR9, hU9⟩ := (hR3.below hb4).put p1 (runC_setR h8 (old)) p2 p3; clear p1 p2 p3; go_wp2; go_end0; exact ⟨rfl, F3, hR9, ((hU.trans hU3).trans (Upd.of_below hb4)).trans hU9⟩
 | false =>
  go_upto_region 3 with (fail); refine wp_region_lit ?_
  iterate 5 refine Zv ?_
  refine wl_rm rfl 162 #[.pointer (some ⟨kR, 0, none⟩), .agg (evtL (ev 4 old old 0 false)).toArray] ?_ (noteC hR (ev 4 old old 0 false) hs) (fun F3 w3 hR3 hU3 => ?_)
  ·first | (go_simp; done) | (go_simp; rfl)
  refine Zk ?_; go_upto_region 4 with (fail); refine wp_region_lit ?_; refine Zv ?_; refine Zq 163 #[.pointer (some ⟨kR, 0, none⟩)] (regC hR3 a ha h8) (fun w4 hb4 => ?_)
  iterate 2 refine Zv ?_
  refine wl_stv rfl 33 (fun w => by kernel_rfl) (.tmp 30) (.tmp 29) rfl kR (1 + a) (.int .u32 old) rfl st_u32 _ 192 rfl rfl (hR3.below hb4).r (by show 1 + a < 27; omega) (fun w5 p1 p2 p3 => ?_); refine Zk ?_; obtain ⟨hR9, hU9⟩ := (hR3.below hb4).put p1 (runC_setR h8 (old)) p2 p3; clear p1 p2 p3; go_wp2; go_end0; exact ⟨rfl, F3, hR9, (((Upd.refl _ _).trans hU3).trans (Upd.of_below hb4)).trans hU9⟩
theorem goesC {b ti n kR : Nat} {F : Nat → Prop} {M : Mac} {T : Th} {I : Ins} {A : Int} {w : World} (hR : RM w b kR F M T I A ti n) (a : Nat) (ha : I.a = a) (h8 : a < 8) : Calls Tryz.prog 101 #[.pointer (some ⟨kR, 0, none⟩)] w fun e w' => e = .returned (.bool (goesB T I)) ∧ Below w.heap.size w w' := by
 have y10 : w.cell? ⟨kR, 10, none⟩ = some (.int .i64 I.op) := hR.cell rfl; have hreg := regC hR a ha h8; have hrg : ∀ w' : World, Below w.heap.size w w' → w'.cell? ⟨kR, 1 + a, none⟩ = some (.int .u32 (T.regs a)) := fun w' h' => (hR.below h').cell (runC_reg h8); unfold goesB; obtain ⟨op, ia, ib, ic, k⟩ := I; have ha' : Hid (ia = (a : Int)) := ha; simp only at y10 ⊢; rw [ha'.out]; clear ha ha'; obtain ⟨rv, hrv⟩ : ∃ q, Hid (q = T.regs a) := ⟨_, rfl⟩; rw [Int.toNat_natCast, ← hrv.out]; rw [← hrv.out] at hrg; clear hR hrv
 by_cases h1 : op = 13
 ·subst h1
  go_enter Tryz.func101, Tryz.ntmps101; go_wp2; go_ret; exact ⟨rfl, Below.refl _ _⟩
 by_cases h2 : op = 14
 ·subst h2
  go_enter Tryz.func101, Tryz.ntmps101; go_wp2_with fail; refine hreg.mono ?_; rintro e w' ⟨rfl, hb⟩; have c := hrg w' hb; clear hrg hreg; go_wp2; go_ret; exact ⟨rfl, hb⟩
 go_enter Tryz.func101, Tryz.ntmps101; go_wp2_with fail; refine hreg.mono ?_; rintro e w' ⟨rfl, hb⟩; have c := hrg w' hb; clear hrg hreg; go_wp2; go_ret; refine ⟨?_, hb⟩; simp [h1, h2]
 try rfl
theorem addrC (T : Th) (I : Ins) (hT : RU T) (hk : U32 I.k) (w : World) : Calls Tryz.prog 99 #[.agg (thrL T).toArray, insV I] w fun e w' => e = .returned (.int .u32 (addrF T I)) ∧ Below w.heap.size w w' := by
 obtain ⟨op, ia, ib, ic, k⟩ := I; have hk' : U32 k := hk
 by_cases h2 : ib < 0 ∨ 8 ≤ ib
 ·have e : addrF T ⟨op, ia, ib, ic, k⟩ = k := if_pos h2
  rw [e]; clear e; go_enter Tryz.func99, Tryz.ntmps99; go_upto_region 1 with (fail); obtain ⟨W, kT, kI, e0, e1, e2, XT, XI, hal⟩ := box2 w (thrL T).toArray (insC ⟨op, ia, ib, ic, k⟩) 153 114; unfold insV; rw [e0, e2, e1]; clear e0 e1 e2; have y2 : W.cell? ⟨kI, 2, none⟩ = some (.int .i64 ib) := cell_of_row W kI 2 _ 114 _ XI; have y4 : W.cell? ⟨kI, 4, none⟩ = some (.int .u32 k) := cell_of_row W kI 4 _ 114 _ XI
  by_cases h1 : ib < 0
  ·go_wp2
   go_ret; exact ⟨rfl, hal⟩
  ·have h3 : 8 ≤ ib := by omega
   clear h2; go_wp2; go_ret; exact ⟨rfl, hal⟩
 obtain ⟨q, rfl⟩ : ∃ q : Nat, ib = q := ⟨ib.toNat, by omega⟩
 have h8 : q < 8 := by omega
 have e : addrF T ⟨op, ia, q, ic, k⟩ = aluF 3 (T.regs q) k := if_neg h2; obtain ⟨rv, hrv⟩ : ∃ r, Hid (r = T.regs q) := ⟨_, rfl⟩; rw [e, ← hrv.out]; clear e h2; go_enter Tryz.func99, Tryz.ntmps99; go_upto_region 1 with (fail); obtain ⟨W, kT, kI, e0, e1, e2, XT, XI, hal⟩ := box2 w (thrL T).toArray (insC ⟨op, ia, q, ic, k⟩) 153 114; unfold insV; rw [e0, e2, e1]; clear e0 e1 e2; have y2 : W.cell? ⟨kI, 2, none⟩ = some (.int .i64 (q : Nat)) := cell_of_row W kI 2 _ 114 _ XI
 have h4 : (0 : Int) ≤ q := by omega
 have h5 : (q : Int) < 8 := by omega
 have h6 : ¬ (q : Int) < 0 := by omega
 have h7 : ¬ (8 : Int) ≤ q := by omega
 have cq : ∀ w' : World, Below W.heap.size W w' → w'.cell? ⟨kT, 1 + q, none⟩ = some (.int .u32 (T.regs q)) := fun w' h' => (cell_of_row w' kT (1 + q) _ 153 _ (keep XT h')).trans (eight (P := fun a => ((thrL T).toArray)[1 + a]? = some (.int .u32 (T.regs a))) h8 ⟨rfl, rfl, rfl, rfl, rfl, rfl, rfl, rfl⟩); have c2 : ∀ w' : World, Below W.heap.size W w' → w'.cell? ⟨kI, 2, none⟩ = some (.int .i64 (q : Nat)) := fun w' h' => cell_of_row w' kI 2 _ 114 _ (keep XI h'); have c4 : ∀ w' : World, Below W.heap.size W w' → w'.cell? ⟨kI, 4, none⟩ = some (.int .u32 k) := fun w' h' => cell_of_row w' kI 4 _ 114 _ (keep XI h'); rw [← hrv.out] at cq
 have hru : U32 rv := by rw [hrv.out]; exact hT q
 clear hrv; go_upto_region 3 with (fail); refine ZA W ?_
 iterate 7 refine Zz ?_
 refine qe 95 #[.int .i64 3, .int .u32 rv, .int .u32 k] (.tuple #[.int .u32 (aluF 3 rv k), .bool (decide ((3 : Int) ≤ 3 ∧ (3 : Int) ≤ 12))]) (fun w' h' => aluC' 3 rv k hru hk' w') (fun w' => ?_) (fun K hK => ?_)
 ·first | (go_simp; done) | (go_simp; rfl)
 go_simp; refine hK _ ?_; clear hK K
 iterate 5 refine Zz ?_
 refine qd_nil (fun w2 h2 => ?_); clear c2 c4 cq; go_wp2; go_ret; exact ⟨rfl, hal.trans (h2.mono hal.size)⟩
end Go.Proofs.YtbcgngfbbbfebaaGreatDoor
