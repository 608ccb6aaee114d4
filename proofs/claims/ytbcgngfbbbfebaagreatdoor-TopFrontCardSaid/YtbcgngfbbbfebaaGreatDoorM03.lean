/- The builder's own calls that add an instruction. The builder's calls. -/
import Derived.Test.YtbcgngfbbbfebaaGreatDoorM02
namespace Go.Proofs.YtbcgngfbbbfebaaGreatDoor
open Go.RowKit Go.Maps
set_option maxRecDepth 100000
set_option maxHeartbeats 32000000
set_option linter.unusedVariables false
set_option linter.unusedSimpArgs false
theorem info114 : (Tryz.prog.info? 114).map (fun i => (i.zero.map (·.cells.size), i.size, i.bytes)) = some (some 5, 5, 40) := by kernel_rfl
theorem info243 : (Tryz.prog.info? 243).map (fun i => (i.zero.map (·.cells.size), i.size, i.bytes)) = some (some 2, 2, 24) := by kernel_rfl
theorem info_get {P : Program} {e : TypeId} {c s b : Nat} (h1 : (P.info? e).map (fun i => (i.zero.map (·.cells.size), i.size, i.bytes)) = some (some c, s, b)) : ∃ (i0 : TypeInfo) (z : Value), P.info? e = some i0 ∧ i0.zero = some z ∧ z.cells.size = c ∧ i0.size = s ∧ i0.bytes = b := by
 cases e1 : P.info? e with
 | none => rw [e1] at h1; cases h1
 | some ti =>
  rw [e1] at h1; simp only [Option.map_some, Option.some.injEq, Prod.mk.injEq] at h1
  cases e2 : ti.zero with
  | none => rw [e2] at h1; simp at h1
  | some z =>
   rw [e2] at h1; simp only [Option.map_some, Option.some.injEq] at h1; exact ⟨ti, z, rfl, e2, h1.1, h1.2.1, h1.2.2⟩
section
variable {ops : Array Oper} {Q : Exit → Act → World → Prop}
theorem wp_appi {i : Nat} {K : Act → World → Prop} {o : Oper} {a : Act} {w : World} (hi : ops[i]? = some o) (hgd : o.guard = none) (s x : Operand) (ho : o.op = .call { callee := .builtin .append, args := #[s, x], argTypes := #[92, 92] })
  (v : Value) (l : List Ins) (e : Ins) (hs : a.eval s = v) (hown : OwnI w v l) (b : Nat) (hx : a.eval x = .slice (some ⟨b, 0, none⟩) 1 1) (hb : w.heap[b]? = some (.cells (insC e) 114 (0, 0))) (hk : l.length ≤ 4001)
  (h : ∀ v' w', OwnI w' v' (l ++ [e]) → w.grownBy w' v.ownBlock → (v'.ownBlock = v.ownBlock ∨ v'.ownBlock = some w.heap.size) → K (a.put o.dst v') w') : wpOp Tryz.prog ops Q i K a w := by
 obtain ⟨i0, z, hi0, hz0, hzc, hz1, hz2⟩ := info_get info114
 obtain ⟨v', w', hrun, h2, h3, _, h5⟩ := run_append_own_at (P := Tryz.prog) w 0 92 o.type 114 i0 z 5 40 Tryz.underlying92 hi0 hz0 hz1 hz2 hzc (by omega) v l.length _ hown ⟨b, 0, none⟩ 1 1 (insL e) (by simp [insL])
  (fun j u hu => by
   rw [add_off, Nat.zero_add, cell_of_row w b j _ 114 _ hb, ← Array.getElem?_toList]; exact hu)
  (fun u hu => by
   simp only [insL, List.mem_cons, List.not_mem_nil, or_false] at hu
   rcases hu with rfl | rfl | rfl | rfl | rfl <;> rfl) (by simp only [maxLen]; omega) (by omega) (Nat.zero_le _)
 unfold wpOp; simp only [hi]
 have hw : Region.wanted o (yielded ops a.tmps) = true := by simp [Region.wanted, hgd]
 rw [if_pos hw]; refine .inl ?_; unfold Oper.wp execOp; simp only [ho, resolve, invoke, builtin, Sem.run_bind, Sem.run_pure, Result.andThen_ok, List.map_toArray, List.map_cons, List.map_nil, hs, hx, hrun]; refine h v' w' ?_ h3 h5; unfold OwnI; rw [List.flatMap_append, List.length_append]
 simpa using h2
theorem wp_appk {i : Nat} {K : Act → World → Prop} {o : Oper} {a : Act} {w : World} (hi : ops[i]? = some o) (hgd : o.guard = none) (s x : Operand) (ho : o.op = .call { callee := .builtin .append, args := #[s, x], argTypes := #[200, 200] })
  (v : Value) (l : List Lnk) (e : Lnk) (hs : a.eval s = v) (hown : OwnK w v l) (b : Nat) (hx : a.eval x = .slice (some ⟨b, 0, none⟩) 1 1) (hb : w.heap[b]? = some (.cells #[.int .i64 e.at', .string e.name] 243 (0, 0))) (hk : l.length ≤ 4001)
  (h : ∀ v' w', OwnK w' v' (l ++ [e]) → w.grownBy w' v.ownBlock → (v'.ownBlock = v.ownBlock ∨ v'.ownBlock = some w.heap.size) → K (a.put o.dst v') w') : wpOp Tryz.prog ops Q i K a w := by
 obtain ⟨i0, z, hi0, hz0, hzc, hz1, hz2⟩ := info_get info243
 obtain ⟨v', w', hrun, h2, h3, _, h5⟩ := run_append_own_at (P := Tryz.prog) w 0 200 o.type 243 i0 z 2 24 Tryz.underlying200 hi0 hz0 hz1 hz2 hzc (by omega) v l.length _ hown ⟨b, 0, none⟩ 1 1 (lnkL e) (by simp [lnkL])
  (fun j u hu => by
   rw [add_off, Nat.zero_add, cell_of_row w b j _ 243 _ hb, ← Array.getElem?_toList]; exact hu)
  (fun u hu => by
   simp only [lnkL, List.mem_cons, List.not_mem_nil, or_false] at hu
   rcases hu with rfl | rfl <;> rfl) (by simp only [maxLen]; omega) (by omega) (Nat.zero_le _)
 unfold wpOp; simp only [hi]
 have hw : Region.wanted o (yielded ops a.tmps) = true := by simp [Region.wanted, hgd]
 rw [if_pos hw]; refine .inl ?_; unfold Oper.wp execOp; simp only [ho, resolve, invoke, builtin, Sem.run_bind, Sem.run_pure, Result.andThen_ok, List.map_toArray, List.map_cons, List.map_nil, hs, hx, hrun]; refine h v' w' ?_ h3 h5; unfold OwnK; rw [List.flatMap_append, List.length_append]
 simpa using h2
end
theorem Upd.kept {F F' : Nat → Prop} {w w' : World} {k : Nat} {o : Obj} (h : Upd F F' w w') (hg : w.heap[k]? = some o) (hF : ¬ F k) : w'.heap[k]? = some o := (h.blk k (blk_lt hg) hF).trans hg
theorem upd1 {F0 F F' : Nat → Prop} {w0 w w' : World} {k : Nat} {o : Obj} (hU' : Upd F F' w w') (X : w.heap[k]? = some o) (hF : ¬ F k) (hkl : k < w.heap.size) (hU : Upd F0 F w0 w) : w'.heap[k]? = some o ∧ ¬ F' k ∧ k < w'.heap.size ∧ Upd F0 F' w0 w' :=
 have X' := hU'.kept X hF
 ⟨X', fun h => (hU'.foot k h).elim hF (fun h => by omega), blk_lt X', hU.trans hU'⟩
section
variable {F0 F : Nat → Prop} {w0 w : World} {k b : Nat} {ob : Obj} {st : BS}
theorem Zb {P : Program} {ops : Array Oper} {Q : Exit → Act → World → Prop} {rest : List Oper} {o : Oper} {a a' : Act} (g : FuncId) (args : Array Value) (hc : Calls P g args w fun e w' => e = .returned (.tuple #[]) ∧ ∃ F', BMem w' b F' st ∧ Upd F F' w w') (X : w.heap[k]? = some ob) (hF : ¬ F k) (hkl : k < w.heap.size) (hU : Upd F0 F w0 w) (hK : ∀ w' F', w'.heap[k]? = some ob → ¬ F' k → k < w'.heap.size → Upd F0 F' w0 w' → BMem w' b F' st → wpList P ops Q rest a' w')
 (hgd : o.guard = none := by rfl) (h : (execOp a.eval o).run P w = .ok (.enter g args) w := by first | (go_simp; done) | (go_simp; rfl) | (go_simp; simp only [IntKind.wrap_u32]; omega)) (ha : a.put o.dst (.tuple #[]) = a' := by go_simp; try rfl) : wpList P ops Q (o :: rest) a w := Zc g args (.tuple #[]) hc (fun w' ⟨F', hB', hU'⟩ => have q := upd1 hU' X hF hkl hU; hK w' F' q.1 q.2.1 q.2.2.1 q.2.2.2 hB') hgd h ha
theorem Zx {P : Program} {f : FuncId} {args : Array Value} {e0 : Ending} (hU : Upd F0 F w0 w) (hc : Calls P f args w fun e w' => e = e0 ∧ ∃ F', BMem w' b F' st ∧ Upd F F' w w') : Calls P f args w fun e w' => e = e0 ∧ ∃ F', BMem w' b F' st ∧ Upd F0 F' w0 w' := hc.mono fun e w' ⟨h, F', hB, hU'⟩ => ⟨h, F', hB, hU.trans hU'⟩
theorem Z1 {P : Program} {f : FuncId} {args : Array Value} {e0 : Ending} (X : w.heap[k]? = some ob) (hF : ¬ F k) (hkl : k < w.heap.size) (hU : Upd F0 F w0 w) (hc : Calls P f args w fun e w' => e = e0 ∧ ∃ F', BMem w' b F' st ∧ Upd F F' w w') : Calls P f args w fun e w' => e = e0 ∧ ∃ F', BMem w' b F' st ∧ w'.heap[k]? = some ob ∧ ¬ F' k ∧ k < w'.heap.size ∧ Upd F0 F' w0 w' := hc.mono fun e w' ⟨h, F', hB, hU'⟩ => ⟨h, F', hB, upd1 hU' X hF hkl hU⟩
theorem Z2 {P : Program} {f : FuncId} {args : Array Value} {e0 : Ending} {k2 : Nat} {ob2 : Obj} (X : w.heap[k]? = some ob) (hF : ¬ F k) (hkl : k < w.heap.size) (hU : Upd F0 F w0 w) (Y : w.heap[k2]? = some ob2) (hG : ¬ F k2) (hc : Calls P f args w fun e w' => e = e0 ∧ ∃ F', BMem w' b F' st ∧ Upd F F' w w') : Calls P f args w fun e w' => e = e0 ∧ ∃ F', BMem w' b F' st ∧ w'.heap[k]? = some ob ∧ ¬ F' k ∧ k < w'.heap.size ∧ Upd F0 F' w0 w' ∧ w'.heap[k2]? = some ob2 ∧ ¬ F' k2 ∧ k2 < w'.heap.size := hc.mono fun e w' ⟨h, F', hB, hU'⟩ => by
 obtain ⟨q1, q2, q3, q4⟩ := upd1 hU' X hF hkl hU
 obtain ⟨p1, p2, p3, _⟩ := upd1 hU' Y hG (blk_lt Y) hU
 exact ⟨h, F', hB, q1, q2, q3, q4, p1, p2, p3⟩
end
theorem emitC {b : Nat} {F : Nat → Prop} {st : BS} (x : Ins) (w : World) (hB : BMem w b F st) (hs : st.sz ≤ 4001 := by first | omega | (simp <;> omega)) : Calls Tryz.prog 183 #[.pointer (some ⟨b, 0, none⟩), insV x] w fun e w' => e = .returned (.tuple #[]) ∧ ∃ F', BMem w' b F' (st.emit x) ∧ Upd F F' w w' := by
 obtain ⟨vc, vl, vm, hB⟩ := hB
 have hlen : st.code.length ≤ 4001 := by unfold BS.sz at hs; omega
 unfold insV insC; go_enter Tryz.func183, Tryz.ntmps183; go_upto_region 1 with (fail); obtain ⟨W, b3, e0, e1, X3, hal⟩ := box1 w #[.int .i64 x.op, .int .i64 x.a, .int .i64 x.b, .int .i64 x.c, .int .u32 x.k] 114; rw [e0, e1]; have z3 : w.heap.size ≤ b3 := Nat.le_of_eq e1; clear e0 e1; have hBW := hB.below hal; refine grow_headM 6 7 8 (fun w' => Below W.heap.size W w') _ rfl (by kernel_rfl) (by kernel_rfl) (by decide) (by kernel_rfl) ?_; simp only [List.take_succ_cons, List.take_zero]
 iterate 4 refine Zf ?_
 refine gm_run rfl (by kernel_rfl) _ (fun w' h' => ga_value (by have c := cell_of_row w' b 0 _ 202 _ (keep hBW.blk h'); go_simp; try with_reducible rfl)) (Zj ?_); refine gm_run rfl (by kernel_rfl) _ (fun w' h' => ga_load 114 (.tmp 3) rfl _ rfl _ _ (0, 0) _ (keep X3 h') Tryz.underlying114 rfl (by kernel_rfl)) (Zj ?_); refine gm_nil ?_; show anyM _ _ _ _ _ _ _ _ _ _; have q0 : Below W.heap.size W W.drew := Below.drew (Below.refl _ _); refine ZM 6 (fun v1 r1 => ⟨fun _ => q0.trans (r1.mono q0.size), ?_⟩); have q1 := q0.trans (r1.mono q0.size)
 refine op_at rfl rfl (.slice (some ⟨v1.heap.size, 0, none⟩) 1 1) (w' := v1.alloc (.cells (insC x) 114)) (by first | kernel_rfl | go_simp) ?_
 obtain ⟨v2, bN, e8, eg, BN, hb8⟩ := box1 v1 (insC x) 114; rw [e8, eg]; clear e8 eg; have q2 := q1.trans (hb8.mono q1.size); refine ZM 7 (fun v3 r3 => ⟨fun _ => q2.trans (r3.mono q2.size), ?_⟩); have q3 := q2.trans (r3.mono q2.size); replace BN := keep BN r3; have hB3 := hBW.below q3; refine wp_appi rfl rfl (.tmp 8) (.tmp 10) rfl vc st.code x rfl hB3.code bN rfl BN hlen (fun vc' v4 hO4 hg4 hl4 => ?_); have hal3 := hal.trans (q3.mono hal.size)
 have nb : some b ≠ vc.ownBlock := fun e => by
  obtain ⟨_, h1⟩ := row_blk hB3.code e.symm; exact cells_ne hB3.blk h1 (by decide) rfl
 have Xb := (hg4.block b (blk_lt hB3.blk) nb).trans hB3.blk
 have HL := row_keep hB3.links (fun g e => hg4.block g (by obtain ⟨_, h1⟩ := row_blk hB3.links e; exact blk_lt h1) (fun e2 => by
  obtain ⟨_, h1⟩ := row_blk hB3.code e2.symm; obtain ⟨_, h2⟩ := row_blk hB3.links e
  exact cells_ne h1 h2 (by decide) rfl))
 have HP := plm_keep hB3.places (fun g e => hg4.block g (by obtain ⟨_, _, h1⟩ := plm_blk hB3.places e; exact blk_lt h1) (fun e2 => by
  obtain ⟨_, h1⟩ := row_blk hB3.code e2.symm; obtain ⟨_, _, h2⟩ := plm_blk hB3.places e
  exact map_ne h1 h2 rfl))
 have U4 : ∀ k, k < w.heap.size → ¬ F k → v4.heap[k]? = w.heap[k]? := fun k hk hF => (hg4.block k (by have := hal3.size; omega) (fun e => hF ((hB.foot k).2 (.inr (.inl e.symm))))).trans (hal3.block k hk); have L4 : ∀ B, (∀ k, F k → B ≤ k) → B ≤ w.heap.size → Below B w v4 := fun B hF hB' => (hal3.mono hB').grown hg4 (by have := hal3.size; omega) (fun k e => hF k ((hB.foot k).2 (.inr (.inl e)))); have fb : F b := (hB.foot b).2 (.inl rfl)
 have foot4 : ∀ k, vc'.ownBlock = some k → F k ∨ w.heap.size ≤ k := fun k e => by
  rcases hl4 with h | h
  ·exact .inl ((hB.foot k).2 (.inr (.inl (by rw [← h]; exact e))))
  ·rw [h] at e; cases e; exact .inr (Nat.le_trans hal3.size (Nat.le_refl _))
 obtain ⟨p, n4, c, rfl⟩ := row_form hO4; clear q0 q1 q2 q3 hb8 r1 r3 BN hg4 hal3 nb hl4; refine ZM 8 (fun v5 r5 => ⟨(fun e => absurd (show true = false from e) (by decide)), ?_⟩); refine op_value rfl rfl (.pointer (some ⟨b, 0, none⟩)) (by go_simp) ?_; refine ZM 9 (fun v6 r6 => ⟨(fun e => absurd (show true = false from e) (by decide)), ?_⟩); refine op_value rfl rfl (.pointer (some ⟨b, 0, none⟩)) (by go_simp) ?_; refine ZM 10 (fun v7 r7 => ⟨(fun e => absurd (show true = false from e) (by decide)), ?_⟩); have hb7 : Below v4.heap.size v4 v7 := (r5.trans (r6.mono r5.size)).trans (r7.mono (Nat.le_trans r5.size r6.size)); have X4b := Xb; replace Xb := keep Xb hb7; refine op_stslice rfl rfl 92 (fun w => by kernel_rfl) (.tmp 13) (.tmp 11) rfl b 0 p n4 c _ 202 rfl rfl Xb (by simp) (fun v8 p1 p2 p3 => ?_); refine anyM_end (by kernel_rfl) (by kernel_rfl) (fun v9 r9 => ?_); have hb9 : ∀ k, k < v4.heap.size → k ≠ b → v9.heap[k]? = v4.heap[k]? := fun k hk hn => ((r9.block k (by have := hb7.size; have := (p3 0 (Nat.zero_le _)).size; omega)).trans (p2 k hn)).trans (hb7.block k hk); have hs9 : v4.heap.size ≤ v9.heap.size := Nat.le_trans hb7.size (Nat.le_trans (p3 0 (Nat.zero_le _)).size r9.size); have hs4 : w.heap.size ≤ v4.heap.size := (L4 0 (fun _ _ => Nat.zero_le _) (Nat.zero_le _)).size; have p9 := keep p1 r9; go_wp2; go_end0; refine ⟨rfl, fun k => k = b ∨ (Value.slice p n4 c).ownBlock = some k ∨ vl.ownBlock = some k ∨ mapB vm = some k, ⟨.slice p n4 c, vl, vm, ⟨show v9.heap[b]? = some (.cells #[.slice p n4 c, vm, vl, .bool st.bad] 202 (0, 0)) from by simpa using p9, ?_, ?_, ?_, fun k => Iff.rfl⟩⟩, ⟨?_, ?_, ?_⟩⟩
 ·exact row_keep hO4 (fun g e => by
   obtain ⟨_, h1⟩ := row_blk hO4 e
   exact hb9 g (blk_lt h1) (fun e' => cells_ne h1 X4b (by decide) e'))
 ·exact row_keep HL (fun g e => by
   obtain ⟨_, h1⟩ := row_blk HL e
   exact hb9 g (blk_lt h1) (fun e' => cells_ne h1 X4b (by decide) e'))
 ·exact plm_keep HP (fun g e => by
   obtain ⟨_, _, h1⟩ := plm_blk HP e
   exact hb9 g (blk_lt h1) (fun e' => map_ne X4b h1 e'.symm))
 ·intro B hF hB'
  have hbB := hF b fb; exact (((L4 B hF hB').trans (hb7.mono (by omega))).trans (p3 B hbB)).trans (r9.mono (by have := hb7.size; have := (p3 0 (Nat.zero_le _)).size; omega))
 ·intro k hk hF
  exact (hb9 k (by omega) (fun e => hF (by rw [e]; exact fb))).trans (U4 k hk hF)
 ·rintro k (e | e | e | e)
  ·exact .inl (by rw [e]; exact fb)
  ·exact foot4 k e
  ·exact .inl ((hB.foot k).2 (.inr (.inr (.inl e))))
  ·exact .inl ((hB.foot k).2 (.inr (.inr (.inr e))))
end Go.Proofs.YtbcgngfbbbfebaaGreatDoor
namespace Go.Proofs.YtbcgngfbbbfebaaGreatDoor
open Go.RowKit Go.Maps
set_option maxRecDepth 100000
set_option maxHeartbeats 32000000
set_option linter.unusedVariables false
set_option linter.unusedSimpArgs false
theorem setC {b : Nat} {F : Nat → Prop} {st : BS} {a k : Int} {w : World} (hB : BMem w b F st) (hs : st.sz ≤ 4000 := by first | omega | (simp <;> omega)) : Calls Tryz.prog 130 #[.pointer (some ⟨b, 0, none⟩), .int .i64 a, .int .u32 k] w fun e w' => e = .returned (.tuple #[]) ∧ ∃ F', BMem w' b F' (st.set a k) ∧ Upd F F' w w' := by
 have hc := emitC ⟨1, a, 0, 0, k⟩ w hB (Nat.le_succ_of_le hs); unfold insV insC at hc; go_enter Tryz.func130, Tryz.ntmps130; go_wp2_with fail; refine hc.mono ?_; rintro e w' ⟨rfl, F', h1, h2⟩; go_wp2; go_end0; exact ⟨rfl, F', h1, h2⟩
theorem aluC {b : Nat} {F : Nat → Prop} {st : BS} {op a x y : Int} {w : World} (hB : BMem w b F st) (hs : st.sz ≤ 4000 := by first | omega | (simp <;> omega)) : Calls Tryz.prog 176 #[.pointer (some ⟨b, 0, none⟩), .int .i64 op, .int .i64 a, .int .i64 x, .int .i64 y] w fun e w' => e = .returned (.tuple #[]) ∧ ∃ F', BMem w' b F' (st.alu op a x y) ∧ Upd F F' w w' := by
 have hc := emitC ⟨op, a, x, y, 0⟩ w hB (Nat.le_succ_of_le hs); unfold insV insC at hc; go_enter Tryz.func176, Tryz.ntmps176; go_wp2_with fail; refine hc.mono ?_; rintro e w' ⟨rfl, F', h1, h2⟩; go_wp2; go_end0; exact ⟨rfl, F', h1, h2⟩
theorem askC {b : Nat} {F : Nat → Prop} {st : BS} {op a addr : Int} {w : World} (hB : BMem w b F st) (hs : st.sz ≤ 4000 := by first | omega | (simp <;> omega)) : Calls Tryz.prog 138 #[.pointer (some ⟨b, 0, none⟩), .int .i64 op, .int .i64 a, .int .u32 addr] w fun e w' => e = .returned (.tuple #[]) ∧ ∃ F', BMem w' b F' (st.ask op a addr) ∧ Upd F F' w w' := by
 have hc := emitC ⟨op, a, 8, 0, addr⟩ w hB (Nat.le_succ_of_le hs); unfold insV insC at hc; go_enter Tryz.func138, Tryz.ntmps138; go_wp2_with fail; refine hc.mono ?_; rintro e w' ⟨rfl, F', h1, h2⟩; go_wp2; go_end0; exact ⟨rfl, F', h1, h2⟩
theorem casC {b : Nat} {F : Nat → Prop} {st : BS} {a c addr : Int} {w : World} (hB : BMem w b F st) (hs : st.sz ≤ 4000 := by first | omega | (simp <;> omega)) : Calls Tryz.prog 175 #[.pointer (some ⟨b, 0, none⟩), .int .i64 a, .int .i64 c, .int .u32 addr] w fun e w' => e = .returned (.tuple #[]) ∧ ∃ F', BMem w' b F' (st.cas a c addr) ∧ Upd F F' w w' := by
 have hc := emitC ⟨21, a, 8, c, addr⟩ w hB (Nat.le_succ_of_le hs); unfold insV insC at hc; go_enter Tryz.func175, Tryz.ntmps175; go_wp2_with fail; refine hc.mono ?_; rintro e w' ⟨rfl, F', h1, h2⟩; go_wp2; go_end0; exact ⟨rfl, F', h1, h2⟩
theorem row_form2 {w : World} {ty : TypeId} {sz : Nat} {v : Value} {n : Nat} {xs : List Value} (h : w.ownsRow 0 ty sz v n xs) : ∃ p c, v = .slice p n c := by
 rcases h.2 with ⟨rfl, h0⟩ | ⟨g', cap, cur, rfl, h3, h4, r⟩
 ·exact ⟨none, 0, by rw [h0]⟩
 ·exact ⟨_, _, rfl⟩
theorem goC {b : Nat} {F : Nat → Prop} {st : BS} {op a : Int} {name : ByteArray} {w : World} (hB : BMem w b F st) (hs : st.sz ≤ 4000 := by first | omega | (simp <;> omega)) : Calls Tryz.prog 173 #[.pointer (some ⟨b, 0, none⟩), .int .i64 op, .int .i64 a, .string name] w fun e w' => e = .returned (.tuple #[]) ∧ ∃ F', BMem w' b F' (st.go op a name) ∧ Upd F F' w w' := by
 obtain ⟨vc, vl, vm, hB⟩ := hB
 have hlen : st.links.length ≤ 4000 := by unfold BS.sz at hs; omega
 have hsz : st.code.length ≤ 4000 := by unfold BS.sz at hs; omega
 obtain ⟨pc, cc, rfl⟩ := row_form2 hB.code; go_enter Tryz.func173, Tryz.ntmps173; go_upto_region 0 with (fail); refine grow_headM 12 13 10 (fun w' => Below w.heap.size w w') _ rfl (by kernel_rfl) (by kernel_rfl) (by decide) (by kernel_rfl) ?_; simp only [List.take_succ_cons, List.take_zero]
 iterate 4 refine Zf ?_
 refine gm_run rfl (by kernel_rfl) _ (fun w' h' => ga_value (by have c := cell_of_row w' b 2 _ 202 _ (keep hB.blk h'); go_simp; try with_reducible rfl)) (Zj ?_)
 iterate 3 refine Zf ?_
 refine gm_run rfl (by kernel_rfl) _ (fun w' h' => ga_value (by have c := cell_of_row w' b 0 _ 202 _ (keep hB.blk h'); go_simp; try with_reducible rfl)) (Zj ?_)
 iterate 3 refine Zf ?_
 refine gm_nil ?_; show anyM _ _ _ _ _ _ _ _ _ _; have q0 : Below w.heap.size w w.drew := Below.drew (Below.refl _ _); refine ZM 12 (fun v1 r1 => ⟨fun _ => q0.trans (r1.mono q0.size), ?_⟩); have q1 := q0.trans (r1.mono q0.size)
 refine op_at rfl rfl (.slice (some ⟨v1.heap.size, 0, none⟩) 1 1) (w' := v1.alloc (.cells #[.int .i64 st.code.length, .string name] 243)) (by first | kernel_rfl | go_simp) ?_
 obtain ⟨v2, bN, e8, eg, BN, hb8⟩ := box1 v1 #[.int .i64 st.code.length, .string name] 243; rw [e8, eg]; clear e8 eg; have q2 := q1.trans (hb8.mono q1.size); refine ZM 13 (fun v3 r3 => ⟨fun _ => q2.trans (r3.mono q2.size), ?_⟩); have q3 := q2.trans (r3.mono q2.size); replace BN := keep BN r3; have hB3 := hB.below q3; refine wp_appk rfl rfl (.tmp 12) (.tmp 20) rfl vl st.links ⟨st.code.length, name⟩ rfl hB3.links bN rfl BN (Nat.le_succ_of_le hlen) (fun vl' v4 hO4 hg4 hl4 => ?_); have hal3 := q3
 have nb : some b ≠ vl.ownBlock := fun e => by
  obtain ⟨_, h1⟩ := row_blk hB3.links e.symm; exact cells_ne hB3.blk h1 (by decide) rfl
 have Xb := (hg4.block b (blk_lt hB3.blk) nb).trans hB3.blk
 have HL := row_keep hB3.code (fun g e => hg4.block g (by obtain ⟨_, h1⟩ := row_blk hB3.code e; exact blk_lt h1) (fun e2 => by
  obtain ⟨_, h1⟩ := row_blk hB3.links e2.symm; obtain ⟨_, h2⟩ := row_blk hB3.code e
  exact cells_ne h1 h2 (by decide) rfl))
 have HP := plm_keep hB3.places (fun g e => hg4.block g (by obtain ⟨_, _, h1⟩ := plm_blk hB3.places e; exact blk_lt h1) (fun e2 => by
  obtain ⟨_, h1⟩ := row_blk hB3.links e2.symm; obtain ⟨_, _, h2⟩ := plm_blk hB3.places e
  exact map_ne h1 h2 rfl))
 have U4 : ∀ k, k < w.heap.size → ¬ F k → v4.heap[k]? = w.heap[k]? := fun k hk hF => (hg4.block k (by have := hal3.size; omega) (fun e => hF ((hB.foot k).2 (.inr (.inr (.inl e.symm)))))).trans (hal3.block k hk); have L4 : ∀ B, (∀ k, F k → B ≤ k) → B ≤ w.heap.size → Below B w v4 := fun B hF hB' => (hal3.mono hB').grown hg4 (by have := hal3.size; omega) (fun k e => hF k ((hB.foot k).2 (.inr (.inr (.inl e))))); have fb : F b := (hB.foot b).2 (.inl rfl)
 have foot4 : ∀ k, vl'.ownBlock = some k → F k ∨ w.heap.size ≤ k := fun k e => by
  rcases hl4 with h | h
  ·exact .inl ((hB.foot k).2 (.inr (.inr (.inl (by rw [← h]; exact e)))))
  ·rw [h] at e; cases e; exact .inr hal3.size
 obtain ⟨p, n4, c, rfl⟩ := row_form hO4; clear q0 q1 q2 q3 hb8 r1 r3 BN hg4 hal3 nb hl4; refine ZM 14 (fun v5 r5 => ⟨(fun e => absurd (show true = false from e) (by decide)), ?_⟩); refine op_value rfl rfl (.pointer (some ⟨b, 0, none⟩)) (by go_simp) ?_; refine ZM 15 (fun v6 r6 => ⟨(fun e => absurd (show true = false from e) (by decide)), ?_⟩); refine op_value rfl rfl (.pointer (some ⟨b, 2, none⟩)) (by go_simp) ?_; refine ZM 16 (fun v7 r7 => ⟨(fun e => absurd (show true = false from e) (by decide)), ?_⟩); have hb7 : Below v4.heap.size v4 v7 := (r5.trans (r6.mono r5.size)).trans (r7.mono (Nat.le_trans r5.size r6.size)); have X4b := Xb; replace Xb := keep Xb hb7; refine op_stslice rfl rfl 200 (fun w => by kernel_rfl) (.tmp 23) (.tmp 21) rfl b 2 p n4 c _ 202 rfl rfl Xb (by simp) (fun v8 p1 p2 p3 => ?_); refine anyM_end (by kernel_rfl) (by kernel_rfl) (fun v9 r9 => ?_); have hb9 : ∀ k, k < v4.heap.size → k ≠ b → v9.heap[k]? = v4.heap[k]? := fun k hk hn => ((r9.block k (by have := hb7.size; have := (p3 0 (Nat.zero_le _)).size; omega)).trans (p2 k hn)).trans (hb7.block k hk); have hs9 : v4.heap.size ≤ v9.heap.size := Nat.le_trans hb7.size (Nat.le_trans (p3 0 (Nat.zero_le _)).size r9.size); have hs4 : w.heap.size ≤ v4.heap.size := (L4 0 (fun _ _ => Nat.zero_le _) (Nat.zero_le _)).size; have p9 := keep p1 r9
 have hM9 : BMem v9 b (fun k => k = b ∨ (Value.slice pc st.code.length cc).ownBlock = some k ∨ (Value.slice p n4 c).ownBlock = some k ∨ mapB vm = some k) { st with links := st.links ++ [⟨st.code.length, name⟩] } := by
  refine ⟨_, .slice p n4 c, vm, ⟨show v9.heap[b]? = some (.cells #[.slice pc st.code.length cc, vm, .slice p n4 c, .bool st.bad] 202 (0, 0)) from by simpa using p9, ?_, ?_, ?_, fun k => Iff.rfl⟩⟩
  ·exact row_keep HL (fun g e => by
    obtain ⟨_, h1⟩ := row_blk HL e
    exact hb9 g (blk_lt h1) (fun e' => cells_ne h1 X4b (by decide) e'))
  ·exact row_keep hO4 (fun g e => by
    obtain ⟨_, h1⟩ := row_blk hO4 e
    exact hb9 g (blk_lt h1) (fun e' => cells_ne h1 X4b (by decide) e'))
  ·exact plm_keep HP (fun g e => by
    obtain ⟨_, _, h1⟩ := plm_blk HP e
    exact hb9 g (blk_lt h1) (fun e' => map_ne X4b h1 e'.symm))
 have hU9 : Upd F (fun k => k = b ∨ (Value.slice pc st.code.length cc).ownBlock = some k ∨ (Value.slice p n4 c).ownBlock = some k ∨ mapB vm = some k) w v9 := by
  refine ⟨?_, ?_, ?_⟩
  ·intro B hF hB'
   have hbB := hF b fb; exact (((L4 B hF hB').trans (hb7.mono (by omega))).trans (p3 B hbB)).trans (r9.mono (by have := hb7.size; have := (p3 0 (Nat.zero_le _)).size; omega))
  ·intro k hk hF
   exact (hb9 k (by omega) (fun e => hF (by rw [e]; exact fb))).trans (U4 k hk hF)
  ·rintro k (e | e | e | e)
   ·exact .inl (by rw [e]; exact fb)
   ·exact .inl ((hB.foot k).2 (.inr (.inl e)))
   ·exact foot4 k e
   ·exact .inl ((hB.foot k).2 (.inr (.inr (.inr e))))
 have hs' : ({ st with links := st.links ++ [⟨st.code.length, name⟩] } : BS).sz ≤ 4001 := by
  simp only [BS.sz, List.length_append, List.length_cons, List.length_nil] at hs ⊢; omega
 have hc := emitC ⟨op, a, 0, 0, 0⟩ v9 hM9 hs'; unfold insV insC at hc; clear hM9 hs' hb9 hs9 hs4 p9 p1 p2 p3 r9 r5 r6 r7 hb7 X4b Xb HL HP U4 L4 foot4 hO4 hB hB3; go_wp2_with fail; refine hc.mono ?_; rintro e w' ⟨rfl, F', h1, h2⟩; go_wp2; go_end0; exact ⟨rfl, F', h1, hU9.trans h2⟩
end Go.Proofs.YtbcgngfbbbfebaaGreatDoor
