/- The linker in memory; it adds an instruction, a mark. The linker adds a mark, a call. -/
import Derived.Test.YtbcgngfbbbfebaaGreatDoorM07
import Derived.Test.YtbcgngfbbbfebaaGreatDoorM17
import Derived.Test.YtbcgngfbbbfebaaGreatDoorM22
import Derived.Test.YtbcgngfbbbfebaaGreatDoorM21
import Derived.Test.YtbcgngfbbbfebaaGreatDoorM10
namespace Go.Proofs.YtbcgngfbbbfebaaGreatDoor
open Go.RowKit Go.Maps
set_option maxRecDepth 100000
set_option maxHeartbeats 32000000
set_option linter.unusedVariables false
set_option linter.unusedSimpArgs false
structure App1 {α : Type} (E : Enc α) (w w' : World) (b off : Nat) (TY : TypeId) (cs : Array Value) (vc vc' : Value) (l' : List α) : Prop where
 blk : w'.heap[b]? = some (.cells (cs.setIfInBounds off vc') TY (0, 0))
 own : Own E w' vc' l'
 oth : ∀ k, k < w.heap.size → k ≠ b → vc.ownBlock ≠ some k → w'.heap[k]? = w.heap[k]?
 low : ∀ B, B ≤ b → B ≤ w.heap.size → (∀ k, vc.ownBlock = some k → B ≤ k) → Below B w w'
 new : ∀ k, vc'.ownBlock = some k → vc.ownBlock = some k ∨ w.heap.size ≤ k
theorem rowAt_one {α : Type} {E : Enc α} {w : World} {b : Nat} {cells : Array Value} {ty : TypeId} {fr : Nat × Nat} (h : w.heap[b]? = some (.cells cells ty fr)) (x : α) (hc : cells.toList = E.enc x) : RowAt E w b 0 [x] := fun j u hu => by
 have e : [x].flatMap E.enc = E.enc x := by simp
 rw [e] at hu; rw [Nat.zero_add, cell_of_row w b j _ _ _ h, ← Array.getElem?_toList, hc]; exact hu
theorem app1_of {α : Type} {E : Enc α} {w v3 v4 v7 v8 v9 : World} {b off : Nat} {TY : TypeId} {cs : Array Value} {vc vc' : Value} {l' : List α} (hal3 : Below w.heap.size w v3) (hg4 : v3.grownBy v4 vc.ownBlock) (hl4 : vc'.ownBlock = vc.ownBlock ∨ vc'.ownBlock = some v3.heap.size)
  (hO4 : Own E v4 vc' l') (Xb : v4.heap[b]? = some (.cells cs TY (0, 0))) (hne : TY ≠ E.ty) (hb7 : Below v4.heap.size v4 v7) (p1 : v8.heap[b]? = some (.cells (cs.setIfInBounds off vc') TY (0, 0)))
  (p2 : ∀ k, k ≠ b → v8.heap[k]? = v7.heap[k]?) (p3 : ∀ B, B ≤ b → Below B v7 v8) (r9 : Below v8.heap.size v8 v9) : App1 E w v9 b off TY cs vc vc' l' := by
 have hb9 : ∀ k, k < v4.heap.size → k ≠ b → v9.heap[k]? = v4.heap[k]? := fun k hk hn => ((r9.block k (by have := hb7.size; have := (p3 0 (Nat.zero_le _)).size; omega)).trans (p2 k hn)).trans (hb7.block k hk); have hs3 := hal3.size; have hs4 := hg4.size; refine ⟨keep p1 r9, ?_, fun k hk hb hv => ?_, fun B hB hB' hv => ?_, fun k hk => ?_⟩
 ·exact row_keep hO4 (fun g e => by
   obtain ⟨_, h1⟩ := row_blk hO4 e
   exact hb9 g (blk_lt h1) (fun e' => cells_ne Xb h1 hne e'.symm))
 ·exact ((hb9 k (by omega) hb).trans (hg4.block k (by omega) (fun e => hv e.symm))).trans (hal3.block k hk)
 ·have h1 : Below B w v4 := (hal3.mono hB').grown hg4 (by omega) hv
  exact ((h1.trans (hb7.mono (by omega))).trans (p3 B hB)).trans (r9.mono (by have := hb7.size; have := (p3 0 (Nat.zero_le _)).size; omega))
 ·rcases hl4 with h | h
  ·exact .inl (by rw [← h]; exact hk)
  ·rw [h] at hk; cases hk; exact .inr hs3
theorem app1_pre {α : Type} {E : Enc α} {v3 v4 : World} {b : Nat} {TY : TypeId} {cs : Array Value} {vc : Value} {l : List α} (hO : Own E v3 vc l) (X : v3.heap[b]? = some (.cells cs TY (0, 0))) (hne : TY ≠ E.ty) (hg4 : v3.grownBy v4 vc.ownBlock) : v4.heap[b]? = some (.cells cs TY (0, 0)) :=
 (hg4.block b (blk_lt X) (fun e => by
  obtain ⟨_, h1⟩ := hO.blk e.symm
  exact cells_ne X h1 hne rfl)).trans X
theorem op_calls {P : Program} {ops : Array Oper} {Q : Exit → Act → World → Prop} {i : Nat} {K : Act → World → Prop} {o : Oper} {a : Act} {w : World} (hi : ops[i]? = some o) (hgd : o.guard = none) (g : FuncId) (args : Array Value) (R : Value → World → Prop) (h : (execOp a.eval o).run P w = .ok (.enter g args) w)
  (hc : Calls P g args w fun e w' => ∃ v, e = .returned v ∧ R v w') (hK : ∀ v w', R v w' → K (a.put o.dst v) w') : wpOp P ops Q i K a w := by
 unfold wpOp; simp only [hi]
 have hw : Region.wanted o (yielded ops a.tmps) = true := by simp [Region.wanted, hgd]
 rw [if_pos hw]; refine .inl ?_; unfold Oper.wp; rw [h, Oper.upon_enter]
 refine hc.mono fun e w' hr => ?_
 obtain ⟨v, rfl, hr⟩ := hr; exact hK v w' hr
theorem info114' : (Tryz.prog.info? eI.ty).map (fun i => (i.zero.map (·.cells.size), i.size, i.bytes)) = some (some eI.sz, eI.sz, 40) := info114
def lkC (C : Cl) (t site : Int) (vc : Value) : Array Value := #[.slice C.A C.no C.ca, .int .i64 C.vars, .slice C.W C.nw C.cw, .int .i64 C.room, .slice C.T C.nt C.ct, .int .i64 t, .int .i64 site, vc]
structure LMv (w : World) (b : Nat) (F : Nat → Prop) (C : Cl) (t site : Int) (code : List Ins) (vc : Value) : Prop where
 blk : w.heap[b]? = some (.cells (lkC C t site vc) 94 (0, 0))
 code : Own eI w vc code
 foot : ∀ k, F k ↔ (k = b ∨ vc.ownBlock = some k)
def LMem (w : World) (b : Nat) (F : Nat → Prop) (C : Cl) (t site : Int) (code : List Ins) : Prop := ∃ vc, LMv w b F C t site code vc
theorem LMv.lt {w : World} {b : Nat} {F : Nat → Prop} {C : Cl} {t site : Int} {code : List Ins} {vc : Value} (h : LMv w b F C t site code vc) : ∀ k, F k → k < w.heap.size := fun k hk => by
 rcases (h.foot k).1 hk with rfl | e
 ·exact blk_lt h.blk
 ·exact h.code.lt e
theorem LMv.below {w w' : World} {b : Nat} {F : Nat → Prop} {C : Cl} {t site : Int} {code : List Ins} {vc : Value} (h : LMv w b F C t site code vc) (hb : Below w.heap.size w w') : LMv w' b F C t site code vc := ⟨keep h.blk hb, h.code.below hb, h.foot⟩
theorem LMem.below {w w' : World} {b : Nat} {F : Nat → Prop} {C : Cl} {t site : Int} {code : List Ins} (h : LMem w b F C t site code) (hb : Below w.heap.size w w') : LMem w' b F C t site code := by
 obtain ⟨vc, h⟩ := h; exact ⟨vc, h.below hb⟩
theorem LMem.lt {w : World} {b : Nat} {F : Nat → Prop} {C : Cl} {t site : Int} {code : List Ins} (h : LMem w b F C t site code) : ∀ k, F k → k < w.heap.size := by
 obtain ⟨vc, h⟩ := h; exact h.lt
theorem LMv.app {w w' : World} {b : Nat} {F : Nat → Prop} {C : Cl} {t site : Int} {code code' : List Ins} {vc vc' : Value} (h : LMv w b F C t site code vc) (hA : App1 eI w w' b 7 94 (lkC C t site vc) vc vc' code') : ∃ F', LMem w' b F' C t site code' ∧ Upd F F' w w' := by
 have fb : F b := (h.foot b).2 (.inl rfl); have fv : ∀ k, vc.ownBlock = some k → F k := fun k e => (h.foot k).2 (.inr e); refine ⟨fun k => k = b ∨ vc'.ownBlock = some k, ⟨vc', ⟨hA.blk, hA.own, fun k => Iff.rfl⟩⟩, ⟨fun B hF hB => hA.low B (hF b fb) hB (fun k e => hF k (fv k e)), fun k hk hF => hA.oth k hk (fun e => hF (e ▸ fb)) (fun e => hF (fv k e)), fun k hk => ?_⟩⟩; rcases hk with rfl | e
 ·exact .inl fb
 ·rcases hA.new k e with h1 | h1
  ·exact .inl (fv k h1)
  ·exact .inr h1
theorem linkAdd {b : Nat} {F : Nat → Prop} {C : Cl} {t site : Int} {code : List Ins} (x : Ins) {w : World} (hL : LMem w b F C t site code) (hs : code.length ≤ 100000) : Calls Tryz.prog 56 #[.pointer (some ⟨b, 0, none⟩), insV x] w fun e w' => e = .returned (.tuple #[]) ∧ ∃ F', LMem w' b F' C t site (code ++ [x]) ∧ Upd F F' w w' := by
 obtain ⟨vc, hL⟩ := hL; unfold insV insC; go_enter Tryz.func56, Tryz.ntmps56; go_upto_region 1 with (fail); obtain ⟨W, b3, e0, e1, X3, hal⟩ := box1 w #[.int .i64 x.op, .int .i64 x.a, .int .i64 x.b, .int .i64 x.c, .int .u32 x.k] 114; rw [e0, e1]; clear e0 e1; have hLW := hL.below hal; have XL := hLW.blk; have HC := hLW.code; obtain ⟨p0, c0, rfl⟩ := HC.form2; refine grow_headM 6 7 11 (fun w' => Below W.heap.size W w') _ rfl (by kernel_rfl) (by kernel_rfl) (by decide) (by kernel_rfl) ?_; simp only [List.take_succ_cons, List.take_zero]
 iterate 4 refine Zf ?_
 refine gm_run rfl (by kernel_rfl) _ (fun w' h' => ga_value (by have c : w'.cell? ⟨b, 7, none⟩ = some (.slice p0 code.length c0) := cell_of_row w' b 7 _ 94 _ (keep XL h'); go_simp; try with_reducible rfl)) (Zj ?_); refine gm_run rfl (by kernel_rfl) _ (fun w' h' => ga_load 114 (.tmp 3) rfl _ rfl _ _ (0, 0) _ (keep X3 h') Tryz.underlying114 rfl (by kernel_rfl)) (Zj ?_); refine gm_nil ?_; show anyM _ _ _ _ _ _ _ _ _ _; have q0 : Below W.heap.size W W.drew := Below.drew (Below.refl _ _); replace XL := keep XL q0; refine ZM 6 (fun d6 r6 => ⟨fun _ => q0.trans (r6.mono q0.size), ?_⟩); replace q0 := q0.trans (r6.mono q0.size); replace XL := keep XL r6
 refine op_at rfl rfl (.slice (some ⟨d6.heap.size, 0, none⟩) 1 1) (w' := d6.alloc (.cells (insC x) 114)) (by first | kernel_rfl | go_simp) ?_
 obtain ⟨e6, bN, e8, eg, BN, hb8⟩ := box1 d6 (insC x) 114; rw [e8, eg]; clear e8 eg; replace q0 := q0.trans (hb8.mono q0.size); replace XL := keep XL hb8; clear hb8; refine ZM 7 (fun d7 r7 => ⟨fun _ => q0.trans (r7.mono q0.size), ?_⟩); replace q0 := q0.trans (r7.mono q0.size); replace XL := keep XL r7; replace BN := keep BN r7; have hO3 := HC.below q0
 refine wp_appE eI_ok rfl rfl 92 Tryz.underlying92 40 info114' (.tmp 8) (.tmp 10) rfl _ code [x] rfl hO3 bN 0 1 rfl (rowAt_one BN x rfl) (by simp <;> omega) (by decide) (fun vc' v4 hO4 hg4 hl4 => ?_)
 have hal3 := hal.trans (q0.mono hal.size); have Xb := app1_pre hO3 XL (by decide) hg4; obtain ⟨p, c4, rfl⟩ := hO4.form2; generalize hn4 : (code ++ [x]).length = n4 at *; refine ZM 8 (fun v5 r5 => ⟨(fun e => absurd (show true = false from e) (by decide)), ?_⟩); refine op_value rfl rfl (.pointer (some ⟨b, 0, none⟩)) (by go_simp) ?_; refine ZM 9 (fun v6 r6 => ⟨(fun e => absurd (show true = false from e) (by decide)), ?_⟩); refine op_value rfl rfl (.pointer (some ⟨b, 7, none⟩)) (by go_simp) ?_; refine ZM 10 (fun v7 r7 => ⟨(fun e => absurd (show true = false from e) (by decide)), ?_⟩); have hb7 : Below v4.heap.size v4 v7 := (r5.trans (r6.mono r5.size)).trans (r7.mono (Nat.le_trans r5.size r6.size)); have Xc := keep Xb hb7; refine op_stslice rfl rfl 92 (fun w => by kernel_rfl) (.tmp 13) (.tmp 11) rfl b 7 p n4 c4 _ 94 rfl rfl Xc (by show 7 < 8; decide) (fun v8 p1 p2 p3 => ?_); refine anyM_end (by kernel_rfl) (by kernel_rfl) (fun v9 r9 => ?_); have hA : App1 eI w v9 b 7 94 (lkC C t site (.slice p0 code.length c0)) (.slice p0 code.length c0) (.slice p n4 c4) (code ++ [x]) := app1_of hal3 hg4 hl4 hO4 Xb (by decide) hb7 p1 p2 p3 r9; clear q0 r5 r6 r7 r9 Xb Xc hb7 hg4 hl4 hO4 p1 p2 p3 hal3; go_wp2; go_end0; exact ⟨rfl, hL.app hA⟩
end Go.Proofs.YtbcgngfbbbfebaaGreatDoor
namespace Go.Proofs.YtbcgngfbbbfebaaGreatDoor
open Go.RowKit Go.Maps
set_option maxRecDepth 100000
set_option maxHeartbeats 32000000
set_option linter.unusedVariables false
set_option linter.unusedSimpArgs false
theorem ga_call' {P : Program} {o : Oper} {a : Act} {w : World} (f : FuncId) (args : Array Value) {v : Value} (hc : Calls P f args w fun e w' => e = .returned v ∧ Below w.heap.size w w') (h : (execOp a.eval o).run P w = .ok (.enter f args) w) : growAt P o a w v := by
 unfold growAt; rw [h]; exact ⟨rfl, hc⟩
theorem anyG_rest {P : Program} {md : Region.Mode} {Q : Exit → Act → World → Prop} {C : World → Prop} {l : List Oper} {f : Nat} {listed : Array Bool} {a : Act} {w : World} (k n g : Nat) (hf : f = n + g) (hn : k + n ≤ l.length) (hs : Region.noSelect l.toArray = true) (hB : lexG md l.toArray n k listed = true)
  (h : wpGrow P l.toArray C (fun a' => anyG P md l.toArray C (noP Q) g (listedG k n listed) a' w) ((l.drop k).take n) a) : anyG P md l.toArray C (noP Q) f listed a w := by
 have hl : ((l.drop k).take n).length = n := by simp <;> omega
 have := anyG_more (P := P) (Q := Q) (C := C) (md := md) (ops := l.toArray) (g := g) (k := k) (listed := listed) (a := a) (w := w) ((l.drop k).take n) hs (fun j hj => by
  rw [hl] at hj
  simp [List.getElem?_take, hj]) (by rw [hl]; exact hB) (by rw [hl]; exact h)
 rw [hl, ← hf] at this; exact this
def marK (k : Int) : Ins := ⟨27, 7, 0, 0, k % 4294967296⟩
theorem linkMark {b : Nat} {F : Nat → Prop} {C : Cl} {t site : Int} {code : List Ins} (k : Int) {w : World} (hL : LMem w b F C t site code) (hs : code.length ≤ 100000) : Calls Tryz.prog 76 #[.pointer (some ⟨b, 0, none⟩), .int .i64 k] w fun e w' => e = .returned (.tuple #[]) ∧ ∃ F', LMem w' b F' C t site (code ++ [marK k]) ∧ Upd F F' w w' := by
 have hc := linkAdd (marK k) hL hs; unfold insV insC marK at hc; go_enter Tryz.func76, Tryz.ntmps76; go_wp2_with fail; refine hc.mono ?_; rintro e w' ⟨rfl, h⟩; go_wp2; go_end0; exact ⟨rfl, h⟩
theorem st_i64 (k : Int) (w : World) (p : Addr) (u : Value) (hc : w.cell? p = some u) (hf : w.frozen? p = false) : (store p (.int .i64 k)).run Tryz.prog w = .ok () (w.setCell p (.int .i64 k)) := by simp [go_sem, stored, hc, hf]
def callR (C : Cl) (t : Int) (x : X) : List Ins × Bool := codeF (C.f x.a.toNat) x.b C.nt t (((bsP C.f C.nt (upTo C.no x.a) : Nat) : Int) % 4294967296) x.K
def callF (C : Cl) (t site : Int) (code : List Ins) (x : X) : List Ins :=
 (code ++ [marK (2 * site)]) ++ movedF (callR C t x).1 (code ++ [marK (2 * site)]).length ++ [marK (2 * site + 1)]
theorem callR_cp (C : Cl) (t : Int) (x : X) : CP (callR C t x) := codeF_cp _ ⟨by omega, by omega⟩
theorem callF_len (C : Cl) (t site : Int) (code : List Ins) (x : X) : (callF C t site code x).length ≤ code.length + 102 := by
 unfold callF; have := (callR_cp C t x).2; simp only [List.length_append, movedF_len, List.length_singleton]; omega
theorem marK_k (k : Int) : U32 (marK k).k := ⟨by unfold marK; simp only; omega, by unfold marK; simp only; omega⟩
theorem kok_app {l m : List Ins} (h : KOk l) (h' : KOk m) : KOk (l ++ m) := fun x hx => by
 rcases List.mem_append.1 hx with h1 | h1
 ·exact h x h1
 ·exact h' x h1
theorem kok_one {x : Ins} (h : U32 x.k) : KOk [x] := fun y hy => by
 have : y = x := by simpa using hy
 subst this; exact h
theorem callF_k {C : Cl} {t site : Int} {code : List Ins} {x : X} (h : KOk code) : KOk (callF C t site code x) :=
 kok_app (kok_app (kok_app h (kok_one (marK_k _))) (movedF_k (callR_cp C t x).1)) (kok_one (marK_k _))
theorem linkCall {b : Nat} {F : Nat → Prop} {C : Cl} {t site : Int} {code : List Ins} {x : X} {w0 w : World} (hM : MemC w0 C) (hN : NmW w0) (hI : IsaW w0) (h0 : Below w0.heap.size w0 w) (hF : ∀ k, F k → w0.heap.size ≤ k) (hn : C.no ≤ 4000) (ha : 0 ≤ x.a ∧ x.a < C.no) (hK : 0 ≤ x.K ∧ x.K < 4294967296) (hs0 : 0 ≤ site) (hs1 : site ≤ 10000) (hL : LMem w b F C t site code) (hs : code.length ≤ 90000) : Calls Tryz.prog 57 #[.pointer (some ⟨b, 0, none⟩), xv x] w fun e w' => e = .returned (.tuple #[]) ∧ ∃ F', LMem w' b F' C t (site + 1) (callF C t site code x) ∧ Upd F F' w w' := by
 obtain ⟨xk, xa, xb, xK⟩ := x; simp only at ha hK; obtain ⟨ha0, ha1⟩ := ha; obtain ⟨ai, rfl⟩ : ∃ ai : Nat, xa = ai := ⟨xa.toNat, by omega⟩
 have hai : ai < C.no := by omega
 obtain ⟨bA, oA, hA⟩ := objs_ptr hM.objs (by omega); have hcr := callR_cp C t ⟨xk, ai, xb, xK⟩; obtain ⟨R, hR⟩ : ∃ R, Hid (R = callR C t ⟨xk, ai, xb, xK⟩) := ⟨_, rfl⟩; obtain ⟨G, hG⟩ : ∃ G, Hid (G = callF C t site code ⟨xk, ai, xb, xK⟩) := ⟨_, rfl⟩; rw [← hG.out]
 have hG' : Hid (G = (code ++ [marK (2 * site)]) ++ movedF R.1 (code ++ [marK (2 * site)]).length ++ [marK (2 * site + 1)]) := by rw [hR.out]; exact hG.out
 rw [← hR.out] at hcr; clear hG; obtain ⟨bs, hbs⟩ : ∃ bs : Nat, Hid (bs = bsP C.f C.nt (upTo C.no ai)) := ⟨_, rfl⟩
 have hR' : Hid (R = codeF (C.f ai) xb C.nt t ((bs : Int) % 4294967296) xK) := by rw [hbs.out]; exact hR.out
 clear hR; have hb2 := fun w' (h : Below w0.heap.size w0 w') => objBase C.A C.no C.ca hM.ho C.f (by omega) C.nt ai w' (hM.objs.below h) (hN.below h); rw [← hbs.out] at hb2; have hc2 := fun w' (h : Below w0.heap.size w0 w') => linkCode (C.f ai) xb C.nt t ((bs : Int) % 4294967296) xK hK w' (hN.below h) (hI.below h); rw [← hR'.out] at hc2; clear hR' hbs; obtain ⟨vc, hL⟩ := hL; have hlt0 := hL.lt; unfold xv; go_enter Tryz.func57, Tryz.ntmps57; go_upto_region 1 with (fail); obtain ⟨w1, kB, e0, e1, XK, hb1⟩ := box1 w #[.int .i64 xk, .int .i64 ai, .int .i64 xb, .int .u32 xK] 40; rw [e0, e1]; have hkB : w.heap.size ≤ kB := Nat.le_of_eq e1; clear e0 e1; replace hL := hL.below hb1; have hU : Upd F F w w1 := Upd.of_below hb1; replace h0 := h0.trans (hb1.mono h0.size); have y0 : w1.cell? ⟨b, 4, none⟩ = some (.slice C.T C.nt C.ct) := cell_of_row w1 b 4 _ 94 _ hL.blk; go_upto_region 2 with (fail); clear y0; have hO : Objs w0 (some ⟨bA, oA, none⟩) C.no C.f := hA ▸ hM.objs; rw [hA] at hb2; refine grow_head 28 (fun w' => Below w1.heap.size w1 w') rfl (by kernel_rfl) (by decide) (by kernel_rfl) ?_; simp only [List.take_succ_cons, List.take_zero]
 iterate 4 refine Zr ?_
 refine g_run rfl _ (fun w' h' => ga_value (by have c : w'.cell? ⟨b, 0, none⟩ = some (.slice C.A C.no C.ca) := cell_of_row w' b 0 _ 94 _ (keep hL.blk h'); rw [hA] at c; go_simp; try with_reducible rfl)) (Zj ?_); refine Zr ?_; refine g_run rfl _ (fun w' h' => ga_value (by have c := cell_of_row w' kB 1 _ 40 _ (keep XK h'); go_simp; try with_reducible rfl)) (Zj ?_); refine g_run rfl (.pointer (some ⟨bA, oA + ai * 4, none⟩)) (fun w' h' => ga_value (by go_simp)) (Zj ?_); refine g_run rfl (ov (C.f ai)) (fun w' h' => ga_value (run_ldobj (.tmp 21) rfl bA oA ai hO (h0.trans (h'.mono h0.size)) hai rfl)) (Zj ?_); refine Zr ?_; refine g_run rfl _ (fun w' h' => ga_value (by have c := cell_of_row w' kB 2 _ 40 _ (keep XK h'); go_simp; try with_reducible rfl)) (Zj ?_)
 iterate 4 refine Zr ?_
 refine g_run rfl _ (fun w' h' => ga_value (by have c : w'.cell? ⟨b, 5, none⟩ = some (.int .i64 t) := cell_of_row w' b 5 _ 94 _ (keep hL.blk h'); go_simp; try with_reducible rfl)) (Zj ?_)
 iterate 4 refine Zr ?_
 refine g_run rfl _ (fun w' h' => ga_value (by have c : w'.cell? ⟨b, 0, none⟩ = some (.slice C.A C.no C.ca) := cell_of_row w' b 0 _ 94 _ (keep hL.blk h'); rw [hA] at c; go_simp; try with_reducible rfl)) (Zj ?_)
 iterate 2 refine Zr ?_
 refine g_run rfl _ (fun w' h' => ga_value (by have c := cell_of_row w' kB 1 _ 40 _ (keep XK h'); go_simp; try with_reducible rfl)) (Zj ?_); refine g_run rfl (.int .i64 bs) (fun w' h' => ga_call' 20 #[.slice (some ⟨bA, oA, none⟩) C.no C.ca, .int .i64 C.nt, .int .i64 ai] (hb2 w' (h0.trans (h'.mono h0.size))) ?_) (fun K hK => ?_)
 ·first | (go_simp; done) | (go_simp; rfl)
 go_simp; refine hK _ ?_; clear hK K
 refine g_run rfl (.int .u32 ((bs : Int) % 4294967296)) (fun w' h' => ga_value (by first | (go_simp; done) | (go_simp; simp only [IntKind.wrap_u32]))) (Zj ?_)
 refine Zr ?_; refine g_run rfl _ (fun w' h' => ga_value (by have c := cell_of_row w' kB 3 _ 40 _ (keep XK h'); go_simp; try with_reducible rfl)) (Zj ?_); refine g_nil ?_; have q0 : Below w1.heap.size w1 w1.drew := Below.drew (Below.refl _ _); refine ZG 28 (fun w2 r2 => ⟨q0.trans (r2.mono q0.size), ?_⟩); replace q0 := q0.trans (r2.mono q0.size); have hlt1 := hL.lt; have hz1 := h0.trans (q0.mono h0.size)
 refine op_calls rfl rfl 75 #[ov (C.f ai), .int .i64 xb, .int .i64 C.nt, .int .i64 t, .int .u32 ((bs : Int) % 4294967296), .int .u32 xK] (fun v w' => (∃ v1, v = .tuple #[v1, .bool R.2] ∧ OwnI w' v1 R.1 ∧ ∀ k, v1.ownBlock = some k → w2.heap.size ≤ k) ∧ Below w2.heap.size w2 w') ?_ ((hc2 w2 hz1).mono (fun e w' hh => by
  obtain ⟨⟨v1, rfl, h5, h6⟩, h7⟩ := hh
  exact ⟨_, rfl, ⟨v1, rfl, h5, h6⟩, h7⟩)) (fun v w3 hv => ?_)
 ·first | (go_simp; done) | (go_simp; rfl)
 obtain ⟨⟨v1, rfl, hO1, hf1⟩, h3⟩ := hv; obtain ⟨p1, c1, rfl⟩ := Own.form2 (E := eI) hO1; have q2 := q0.trans (h3.mono q0.size); refine anyG_rest 29 5 0 rfl (by decide) (by kernel_rfl) (by kernel_rfl) ?_; simp only [List.drop_succ_cons, List.drop_zero, List.take_succ_cons, List.take_zero]
 iterate 5 refine Zr ?_
 refine g_nil ?_; refine anyG_end (by kernel_rfl) (fun w4 r4 => ⟨q2.trans (r4.mono q2.size), ?_⟩); have h4 := h3.trans (r4.mono h3.size); replace q2 := q2.trans (r4.mono q2.size); replace hO1 : Own eI w4 (.slice p1 R.1.length c1) R.1 := Own.below hO1 r4; replace hL := hL.below q2; replace hU := hU.trans (Upd.of_below q2); replace h0 := h0.trans (q2.mono h0.size); replace XK := keep XK q2; have hs2 : w1.heap.size ≤ w2.heap.size := q0.size; clear q0 q2 r4 h3 h4 r2 hb1 hb2 hc2 hz1; have y6 : w4.cell? ⟨b, 6, none⟩ = some (.int .i64 site) := cell_of_row w4 b 6 _ 94 _ hL.blk; have hsz4 := hU.size; go_wp2_with fail; refine (linkMark (2 * site) ⟨vc, hL⟩ (by omega)).mono ?_; rintro e w5 ⟨rfl, F5, hL5, hU5⟩; clear y6; have hO5 := hO1.keep (w' := w5) (fun g e => hU5.blk g (hO1.lt e) (fun hf => by have := hlt1 g hf; have := hf1 g e; omega)); have XK5 : w5.heap[kB]? = some (.cells #[.int .i64 xk, .int .i64 ai, .int .i64 xb, .int .u32 xK] 40 (0, 0)) := hU5.kept XK (fun hf => by have := hlt0 kB hf; omega); have h05 := h0.trans (hU5.low _ hF h0.size); have hz4 := h0.size
 have hF5 : ∀ k, F5 k → w0.heap.size ≤ k := fun k hk => by
  rcases hU5.foot k hk with h | h
  ·exact hF k h
  ·omega
 have hf5 : ¬ F5 kB := fun hk => by
  rcases hU5.foot kB hk with h | h
  ·have := hlt0 kB h; omega
  ·have := blk_lt XK; omega
 replace hU := hU.trans hU5; clear hO1 XK h0 hL hU5 hlt1 hf1 hF hlt0 hsz4 hs2 hz4; obtain ⟨vc5, hL⟩ := hL5; clear vc; obtain ⟨L5, hL5⟩ : ∃ L, Hid (L = code ++ [marK (2 * site)]) := ⟨_, rfl⟩; rw [← hL5.out] at hL hG'
 have hl5 : L5.length ≤ 90001 := by rw [hL5.out]; simp <;> omega
 obtain ⟨p5, c5, rfl⟩ := hL.code.form2; go_upto_region 4 with (fail); have XL := hL.blk; have HC := hL.code; refine grow_headM 11 12 16 (fun w' => Below w5.heap.size w5 w') _ rfl (by kernel_rfl) (by kernel_rfl) (by decide) (by kernel_rfl) ?_; simp only [List.take_succ_cons, List.take_zero]
 iterate 4 refine Zf ?_
 refine gm_run rfl (by kernel_rfl) _ (fun w' h' => ga_value (by have c : w'.cell? ⟨b, 7, none⟩ = some (.slice p5 L5.length c5) := cell_of_row w' b 7 _ 94 _ (keep XL h'); go_simp; try with_reducible rfl)) (Zj ?_)
 iterate 4 refine Zf ?_
 refine gm_run rfl (by kernel_rfl) _ (fun w' h' => ga_value (by have c : w'.cell? ⟨b, 7, none⟩ = some (.slice p5 L5.length c5) := cell_of_row w' b 7 _ 94 _ (keep XL h'); go_simp; try with_reducible rfl)) (Zj ?_); refine Zf ?_; refine gm_nil ?_; show anyM _ _ _ _ _ _ _ _ _ _; have q0 : Below w5.heap.size w5 w5.drew := Below.drew (Below.refl _ _); replace XL := keep XL q0; refine ZM 11 (fun d11 r11 => ⟨fun _ => q0.trans (r11.mono q0.size), ?_⟩); replace q0 := q0.trans (r11.mono q0.size); replace XL := keep XL r11; have hO11 : Own eI d11 (.slice p1 R.1.length c1) R.1 := hO5.below q0; obtain ⟨V, cV, eV, hRV, _⟩ := own_insr (w := d11) (v := .slice p1 R.1.length c1) (L := R.1) hO11; simp only [Value.slice.injEq] at eV; obtain ⟨rfl, -, rfl⟩ := eV
 refine op_calls rfl rfl 77 #[.slice p1 R.1.length c1, .int .i64 L5.length] (fun v w' => (∃ g c', v = .slice (some ⟨g, 0, none⟩) (movedF R.1 L5.length).length c' ∧ Own eI w' (.slice (some ⟨g, 0, none⟩) (movedF R.1 L5.length).length c') (movedF R.1 L5.length) ∧ d11.heap.size ≤ g) ∧ Below d11.heap.size d11 w') ?_ ((movedC p1 R.1 c1 L5.length ⟨by omega, by omega⟩ (by have := hcr.2; omega) hcr.1 d11 (hI.below (h05.trans (q0.mono h05.size))) hRV).mono (fun e w' hh => by
  obtain ⟨⟨g, c', rfl, h5, h6⟩, h7⟩ := hh
  exact ⟨_, rfl, ⟨g, c', rfl, h5, h6⟩, h7⟩)) (fun v w6 hv => ?_)
 ·first | (go_simp; done) | (go_simp; rfl)
 obtain ⟨⟨g6, c6, rfl, hO6, hg6⟩, h6⟩ := hv; replace q0 := q0.trans (h6.mono q0.size); replace XL := keep XL h6; clear h6 hO11 hRV; refine ZM 12 (fun d12 r12 => ⟨fun _ => q0.trans (r12.mono q0.size), ?_⟩); replace q0 := q0.trans (r12.mono q0.size); replace XL := keep XL r12; have hO3 := HC.below q0; have hO7 := hO6.below r12
 have hrl : (movedF R.1 L5.length).length ≤ 100 := by rw [movedF_len]; exact hcr.2
 refine wp_appE eI_ok rfl rfl 92 Tryz.underlying92 40 info114' (.tmp 56) (.tmp 63) rfl _ L5 (movedF R.1 L5.length) rfl hO3 g6 0 c6 rfl (hO7.at eI_ok) (by omega) (by decide) (fun vc' v4 hO4 hg4 hl4 => ?_); have hal3 := q0; have Xb := app1_pre hO3 XL (by decide) hg4; obtain ⟨p, c4, rfl⟩ := hO4.form2; generalize hn4 : (L5 ++ movedF R.1 L5.length).length = n4 at *; refine ZM 13 (fun v5 r5 => ⟨(fun e => absurd (show true = false from e) (by decide)), ?_⟩); refine op_value rfl rfl (.pointer (some ⟨b, 0, none⟩)) (by go_simp) ?_; refine ZM 14 (fun v6 r6 => ⟨(fun e => absurd (show true = false from e) (by decide)), ?_⟩); refine op_value rfl rfl (.pointer (some ⟨b, 7, none⟩)) (by go_simp) ?_; refine ZM 15 (fun v7 r7 => ⟨(fun e => absurd (show true = false from e) (by decide)), ?_⟩); have hb7 : Below v4.heap.size v4 v7 := (r5.trans (r6.mono r5.size)).trans (r7.mono (Nat.le_trans r5.size r6.size)); have Xc := keep Xb hb7; refine op_stslice rfl rfl 92 (fun w => by kernel_rfl) (.tmp 66) (.tmp 64) rfl b 7 p n4 c4 _ 94 rfl rfl Xc (by show 7 < 8; decide) (fun v8 p1 p2 p3 => ?_); refine anyM_end (by kernel_rfl) (by kernel_rfl) (fun v9 r9 => ?_); have hA : App1 eI w5 v9 b 7 94 (lkC C t site (.slice p5 L5.length c5)) (.slice p5 L5.length c5) (.slice p n4 c4) (L5 ++ (movedF R.1 L5.length)) := app1_of hal3 hg4 hl4 hO4 Xb (by decide) hb7 p1 p2 p3 r9; clear q0 r5 r6 r7 r9 Xb Xc hb7 hg4 hl4 hO4 p1 p2 p3 hal3; obtain ⟨F9, hL9, hU9⟩ := hL.app hA; clear hA XL HC hO7 hO6 hrl hg6 hO5; have XK9 := hU9.kept XK5 hf5
 have h09 := h05.trans (hU9.low _ hF5 h05.size); have hU' := hU.trans hU9
 have hF9 : ∀ k, F9 k → w0.heap.size ≤ k := fun k hk => by
  rcases hU9.foot k hk with h | h
  ·exact hF5 k h
  ·have := h05.size; omega
 clear hU hU9 h05 XK5 hf5 hF5 hL; obtain ⟨L9, hL9'⟩ : ∃ L, Hid (L = L5 ++ movedF R.1 L5.length) := ⟨_, rfl⟩
 have hl9 : L9.length ≤ 90101 := by rw [hL9'.out, List.length_append, movedF_len]; have := hcr.2; omega
 rw [← hL9'.out] at hL9 hG'
 have y6 : v9.cell? ⟨b, 6, none⟩ = some (.int .i64 site) := by
  obtain ⟨vx, hx⟩ := hL9; exact cell_of_row v9 b 6 _ 94 _ hx.blk
 go_wp2_with fail; refine (linkMark (2 * site + 1) hL9 (by omega)).mono ?_; rintro e w10 ⟨rfl, F10, hL10, hU10⟩; clear y6; have hU := hU'.trans hU10; clear hU' hU10; rw [← hG'.out] at hL10; obtain ⟨vx, hx⟩ := hL10; have y6 : w10.cell? ⟨b, 6, none⟩ = some (.int .i64 site) := cell_of_row w10 b 6 _ 94 _ hx.blk; go_upto_region 6 with (fail); refine wp_region_lit ?_
 iterate 4 refine Zv ?_
 refine wl_val rfl (.int .i64 (site + 1)) ?_ ?_
 ·first | (go_simp; done) | (go_simp; simp only [IntKind.wrap_i64]; omega)
 refine Zk ?_
 iterate 2 refine Zv ?_
 refine wl_stv rfl 3 (fun w => by kernel_rfl) (.tmp 81) (.tmp 79) rfl b 6 (.int .i64 (site + 1)) rfl (st_i64 (site + 1)) _ 94 rfl rfl hx.blk (by show 6 < 8; decide) (fun w11 p1 p2 p3 => ?_); refine Zk ?_; have fb : F10 b := (hx.foot b).2 (.inl rfl)
 have hx' : LMv w11 b F10 C t (site + 1) G vx := ⟨p1, hx.code.keep (fun g e => p2 g (fun e' => by
  obtain ⟨_, h1⟩ := hx.code.blk e
  exact cells_ne hx.blk h1 (show (94 : Nat) ≠ 114 by decide) e'.symm)), hx.foot⟩
 have hU11 : Upd F10 F10 w10 w11 := ⟨fun B hF hB => p3 B (hF b fb), fun k hk hF => p2 k (fun e => hF (e ▸ fb)), fun k hk => .inl hk⟩; clear y6; go_wp2; go_end0; exact ⟨rfl, F10, ⟨vx, hx'⟩, hU.trans hU11⟩
end Go.Proofs.YtbcgngfbbbfebaaGreatDoor
