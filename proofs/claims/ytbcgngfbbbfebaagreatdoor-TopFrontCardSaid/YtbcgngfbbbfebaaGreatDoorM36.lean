/- A thread's instruction: what asks memory. -/
import Derived.Test.YtbcgngfbbbfebaaGreatDoorM35
namespace Go.Proofs.YtbcgngfbbbfebaaGreatDoor
open Go.RowKit Go.Maps
set_option maxRecDepth 100000
set_option maxHeartbeats 32000000
set_option linter.unusedVariables false
set_option linter.unusedSimpArgs false
theorem sideLoadT {b ti : Nat} {F : Nat → Prop} {M : Mac} {w : World} (hM : MMem w b F M) (h : MOk M) (hi : ti < M.threads.length) (a : Nat) (ha : a < M.mem.length) : Calls Tryz.prog 104 #[sdV b ti, .int .i64 a] w fun e w' => e = .returned (.int .u32 (loadT M ti a)) ∧ Below w.heap.size w w' := by
 obtain ⟨x, hx⟩ := h.at hi
 have e : loadT M ti a = loadF M x a := by simp only [loadT, hx, Int.toNat_natCast]
 rw [e]; exact sideLoad hM hx (h.buf hx).1 a ha
theorem sideStoreT {b ti : Nat} {F : Nat → Prop} {M : Mac} {w : World} (hM : MMem w b F M) (h : MOk M) (hi : ti < M.threads.length) (hf : fullB M ti = false) (a : Nat) (v : Int) : Calls Tryz.prog 106 #[sdV b ti, .int .i64 a, .int .u32 v] w fun e w' => e = .returned (.tuple #[]) ∧ ∃ F', MMem w' b F' (storeT M ti a v) ∧ Upd F F' w w' := by
 obtain ⟨x, hx⟩ := h.at hi
 have e : storeT M ti a v = { M with bufs := M.bufs.set ti (bufPut x a v) } := by simp only [storeT, hx]
 rw [e]; simp only [fullB, hx, decide_eq_false_iff_not] at hf; exact sideStore hM hx (h.buf hx).1 (by omega) a v
theorem setR_self (T : Th) (a : Nat) (v : Int) : (setR T a v).regs a = v := by simp [setR]
theorem RM.reg {b ti n kR : Nat} {F : Nat → Prop} {M : Mac} {T : Th} {I : Ins} {A : Int} {w : World} (h : RM w b kR F M T I A ti n) {a : Nat} (h8 : a < 8) {r : Int} (hr : Hid (r = T.regs a)) : w.cell? ⟨kR, 1 + a, none⟩ = some (.int .u32 r) := by rw [hr.out]; exact h.cell (runC_reg h8)
theorem waitC {b ti n kR : Nat} {F : Nat → Prop} {M : Mac} {T : Th} {I : Ins} {an : Nat} {w : World} (hR : RM w b kR F M T I (an : Nat) ti n) (hok : MOk M) (hi : ti < M.threads.length) (hA : an < M.mem.length) (a : Nat) (ha : I.a = a) (h8 : a < 8) (hs : M.evs.length ≤ 3000000) (hl : M.slp.length ≤ 90000) : Calls Tryz.prog 165 #[.pointer (some ⟨kR, 0, none⟩)] w fun e w' => e = .returned (.tuple #[]) ∧ ∃ F', RM w' b kR F' ((waitF M ti T a an).1) ((waitF M ti T a an).2) I (an) ti n ∧ Upd (Or1 F kR) (Or1 F' kR) w w' := by
 obtain ⟨v, hv⟩ : ∃ q, Hid (q = loadT M ti an) := ⟨_, rfl⟩; obtain ⟨r, hr⟩ : ∃ q, Hid (q = T.regs a) := ⟨_, rfl⟩; obtain ⟨X, hX⟩ : ∃ q, Hid (q = waitF M ti T a an) := ⟨_, rfl⟩; rw [← hX.out]
 have hX' : Hid (X = if v = r then (slpM (noteM M ti T an (ev 8 v 0 0 true)) ti an, setS (setR T a 0) 1) else (noteM M ti T an (ev 8 v 0 0 false), setR T a 1)) := by rw [hv.out, hr.out]; exact hX.out
 clear hX; go_enter Tryz.func165, Tryz.ntmps165; go_upto_region 0 with (fail); refine wp_region_lit ?_; refine Zv ?_; refine Zq 163 #[.pointer (some ⟨kR, 0, none⟩)] (regC hR a ha h8) (fun w1 hb1 => ?_); refine Zv ?_; have hR1 := hR.below hb1; have hld := fun (w' : World) (h' : Below w1.heap.size w1 w') => sideLoadT (hR1.m.below h') hok hi an hA; rw [← hv.out] at hld; have c16 : ∀ w' : World, Below w1.heap.size w1 w' → w'.cell? ⟨kR, 16, none⟩ = some (fnV b ti 104) := fun w' h' => (hR1.below h').cell rfl; have c26 : ∀ w' : World, Below w1.heap.size w1 w' → w'.cell? ⟨kR, 26, none⟩ = some (.int .i64 an) := fun w' h' => (hR1.below h').cell rfl; go_upto_region 1 with (fail); refine ZA w1 ?_
 iterate 9 refine Zz ?_
 refine qe 104 #[sdV b ti, .int .i64 an] (.int .u32 v) (fun w' h' => hld w' h') (fun w' => ?_) (fun K hK => ?_)
 ·first | (go_simp; done) | (go_simp; rfl)
 go_simp; refine hK _ ?_; clear hK K; refine Zz ?_; refine qd_nil (fun w2 h2 => ?_); clear c16 c26 hld; have hR2 := hR1.below h2; have hU := (Upd.of_below (F := Or1 F kR) hb1).trans (Upd.of_below h2); have yr := hR2.reg h8 hr; clear hR1 hb1 h2 hv
 by_cases hvr : v = r
 ·subst hvr
  obtain rfl : X = _ := hX'.out.trans (if_pos rfl); clear hX'; go_upto_region 2 with (fail); refine wp_region_lit ?_
  iterate 8 refine Zv ?_
  refine wl_rm rfl 162 #[.pointer (some ⟨kR, 0, none⟩), .agg (evtL (ev 8 v 0 0 true)).toArray] ?_ (noteC hR2 (ev 8 v 0 0 true) hs) (fun F3 w3 hR3 hU3 => ?_)
  ·first | (go_simp; done) | (go_simp; rfl)
  refine Zk ?_; have yr3 := hR3.reg h8 hr; clear yr; go_upto_region 5 with (fail); refine wp_region_lit ?_
  iterate 2 refine Zv ?_
  refine wl_stv rfl 33 (fun w => by kernel_rfl) (.tmp 33) (.const (.int .u32 0)) rfl kR (1 + a) (.int .u32 0) rfl st_u32 _ 192 rfl rfl hR3.r (by show 1 + a < 27; omega) (fun w4 p1 p2 p3 => ?_); refine Zk ?_; obtain ⟨hR4, hU4⟩ := hR3.put p1 (runC_setR h8 (0)) p2 p3; clear p1 p2 p3; have c22 : ∀ w' : World, Below w4.heap.size w4 w' → w'.cell? ⟨kR, 22, none⟩ = some (fnV b ti 109) := fun w' h' => (hR4.below h').cell rfl; have c26 : ∀ w' : World, Below w4.heap.size w4 w' → w'.cell? ⟨kR, 26, none⟩ = some (.int .i64 an) := fun w' h' => (hR4.below h').cell rfl; clear yr3; go_upto_region 6 with (fail); refine ZT 9 w4 ?_; simp only [List.take_succ_cons, List.take_zero]
  iterate 9 refine Zz ?_
  refine qd_nil (fun w5 h5 => ?_); clear c22 c26; simp only [List.drop_succ_cons, List.drop_zero]; refine wl_mc rfl (hR4.below h5) 109 #[sdV b ti, .int .i64 an] ?_ (sideSleep (ti := ti) (hR4.m.below h5) (by have := hok.nt1; omega) hl an) (fun F6 w6 hR6 hU6 => ?_)
  ·first | (go_simp; done) | (go_simp; rfl)
  refine Zk ?_; go_upto_region 7 with (fail); refine wp_region_lit ?_
  iterate 4 refine Zv ?_
  refine wl_stv rfl 3 (fun w => by kernel_rfl) (.tmp 47) (.const (.int .i64 1)) rfl kR 9 (.int .i64 1) rfl (st_i64 1) _ 192 rfl rfl hR6.r (by show 9 < 27; decide) (fun w7 p1 p2 p3 => ?_); refine Zk ?_; obtain ⟨hR7, hU7⟩ := hR6.put p1 (runC_st 1) p2 p3; clear p1 p2 p3; go_wp2; go_end0; exact ⟨rfl, F6, hR7, ((((hU.trans hU3).trans hU4).trans (Upd.of_below h5)).trans hU6).trans hU7⟩
 obtain rfl : X = _ := hX'.out.trans (if_neg hvr)
 have hvb : (v == r) = false := by simp [hvr]
 clear hX'; go_upto_region 2 with (fail); refine wp_region_lit ?_
 iterate 8 refine Zv ?_
 refine wl_rm rfl 162 #[.pointer (some ⟨kR, 0, none⟩), .agg (evtL (ev 8 v 0 0 false)).toArray] ?_ (noteC hR2 (ev 8 v 0 0 false) hs) (fun F3 w3 hR3 hU3 => ?_)
 ·first | (go_simp; done) | (go_simp; rfl)
 refine Zk ?_; have yr3 := hR3.reg h8 hr; clear yr; go_upto_region 4 with (fail); refine wp_region_lit ?_
 iterate 2 refine Zv ?_
 refine wl_stv rfl 33 (fun w => by kernel_rfl) (.tmp 31) (.const (.int .u32 1)) rfl kR (1 + a) (.int .u32 1) rfl st_u32 _ 192 rfl rfl hR3.r (by show 1 + a < 27; omega) (fun w4 p1 p2 p3 => ?_); refine Zk ?_; obtain ⟨hR4, hU4⟩ := hR3.put p1 (runC_setR h8 (1)) p2 p3; clear p1 p2 p3; go_wp2; refine bodyPost_ret (v := .tuple #[]) (results_none (by rfl) _ _ _) rfl ?_; exact ⟨rfl, F3, hR4, (hU.trans hU3).trans hU4⟩
theorem doAsks {b ti n kR : Nat} {F : Nat → Prop} {M : Mac} {T : Th} {I : Ins} {an : Nat} {w : World} (hR : RM w b kR F M T I (an : Nat) ti n) (hok : MOk M) (hi : ti < M.threads.length) (hA : an < M.mem.length) (a : Nat) (ha : I.a = a) (h8 : a < 8) (hs : M.evs.length ≤ 3000000) (hl : M.slp.length ≤ 80000) (hT : RU T) (hf0 : I.op = 17 → fullB M ti = false) (hc0 : I.op = 21 → ∃ c : Nat, I.c = c ∧ c < 8) (hop : I.op = 16 ∨ I.op = 17 ∨ I.op = 19 ∨ I.op = 20 ∨ I.op = 21 ∨ I.op = 23 ∨ I.op = 24) : Calls Tryz.prog 102 #[.pointer (some ⟨kR, 0, none⟩)] w fun e w' => e = .returned (.tuple #[]) ∧ ∃ F', RM w' b kR F' ((asksF M ti T I an).1) ((asksF M ti T I an).2) I (an) ti n ∧ Upd (Or1 F kR) (Or1 F' kR) w w' := by
 obtain ⟨v, hv⟩ : ∃ q, Hid (q = loadT M ti an) := ⟨_, rfl⟩; obtain ⟨r, hr⟩ : ∃ q, Hid (q = T.regs a) := ⟨_, rfl⟩
 have hru : U32 r := by rw [hr.out]; exact hT a
 clear hT; obtain ⟨X, hX⟩ : ∃ q, Hid (q = asksF M ti T I an) := ⟨_, rfl⟩; rw [← hX.out]; unfold asksF at hX; rw [← hv.out, ha, Int.toNat_natCast, ← hr.out] at hX; go_enter Tryz.func102, Tryz.ntmps102; go_upto_region 0 with (fail); refine wp_region_lit ?_; refine Zv ?_; refine Zq 163 #[.pointer (some ⟨kR, 0, none⟩)] (regC hR a ha h8) (fun w1 hb1 => ?_); refine Zv ?_; have hR1 := hR.below hb1; have hld := fun (w' : World) (h' : Below w1.heap.size w1 w') => sideLoadT (hR1.m.below h') hok hi an hA; rw [← hv.out] at hld; have y10 : w1.cell? ⟨kR, 10, none⟩ = some (.int .i64 I.op) := hR1.cell rfl; have hU := Upd.of_below (F := Or1 F kR) hb1; clear hb1 hR hv; obtain ⟨op, hope⟩ : ∃ q, Hid (q = I.op) := ⟨_, rfl⟩; rw [← hope.out] at y10 hop hX hf0 hc0; clear hope; rcases hop with rfl | rfl | rfl | rfl | rfl | rfl | rfl
 ·have hX2 : Hid (X = (noteM M ti T an (ev 1 v 0 0 false), setR T a v)) := hX.out
  clear hX; have hX := hX2; clear hX2; go_upto_region 3 with (fail); have c16 : ∀ w' : World, Below w1.heap.size w1 w' → w'.cell? ⟨kR, 16, none⟩ = some (fnV b ti 104) := fun w' h' => (hR1.below h').cell rfl; have c26 : ∀ w' : World, Below w1.heap.size w1 w' → w'.cell? ⟨kR, 26, none⟩ = some (.int .i64 an) := fun w' h' => (hR1.below h').cell rfl; refine ZT 12 w1 ?_; simp only [List.take_succ_cons, List.take_zero]
  iterate 10 refine Zz ?_
  refine qe 104 #[sdV b ti, .int .i64 an] (.int .u32 v) (fun w' h' => hld w' h') (fun w' => ?_) (fun K hK => ?_)
  ·first | (go_simp; done) | (go_simp; rfl)
  go_simp; refine hK _ ?_; clear hK K; refine Zz ?_; refine qd_nil (fun w2 h2 => ?_); have hR2 := hR1.below h2; replace hU := hU.trans (Upd.of_below h2); clear hld; simp only [List.drop_succ_cons, List.drop_zero]; clear c16 c26; refine wl_stv rfl 33 (fun w => by kernel_rfl) (.tmp 25) (.tmp 24) rfl kR (1 + a) (.int .u32 v) rfl st_u32 _ 192 rfl rfl hR2.r (by show 1 + a < 27; omega) (fun w3 p1 p2 p3 => ?_); refine Zk ?_; obtain ⟨hR3, hU3⟩ := hR2.put p1 (runC_setR h8 (v)) p2 p3; clear p1 p2 p3; have yv : w3.cell? ⟨kR, 1 + a, none⟩ = some (.int .u32 v) := (hR3.cell (runC_reg h8)).trans (by rw [setR_self]); go_upto_region 4 with (fail); refine wp_region_lit ?_
  iterate 5 refine Zv ?_
  refine wl_rm rfl 162 #[.pointer (some ⟨kR, 0, none⟩), .agg (evtL (ev 1 v 0 0 false)).toArray] ?_ (noteC hR3 (ev 1 v 0 0 false) hs) (fun F4 w4 hR4 hU4 => ?_)
  ·first | (go_simp; done) | (go_simp; rfl)
  refine Zk ?_; clear yv; go_wp2; go_end0; rw [hX.out]; exact ⟨rfl, F4, hR4, (hU.trans hU3).trans hU4⟩
 ·have hX2 : Hid (X = (noteM (storeT M ti an r) ti T an (ev 2 r 0 0 false), T)) := hX.out
  clear hX; have hX := hX2; clear hX2; have hf := hf0 rfl; go_upto_region 6 with (fail); have c18 : ∀ w' : World, Below w1.heap.size w1 w' → w'.cell? ⟨kR, 18, none⟩ = some (fnV b ti 106) := fun w' h' => (hR1.below h').cell rfl; have c26 : ∀ w' : World, Below w1.heap.size w1 w' → w'.cell? ⟨kR, 26, none⟩ = some (.int .i64 an) := fun w' h' => (hR1.below h').cell rfl; have cr : ∀ w' : World, Below w1.heap.size w1 w' → w'.cell? ⟨kR, 1 + a, none⟩ = some (.int .u32 (r)) := fun w' h' => (hR1.below h').reg h8 hr; refine ZT 12 w1 ?_; simp only [List.take_succ_cons, List.take_zero]
  iterate 12 refine Zz ?_
  refine qd_nil (fun w2 h2 => ?_); have hR2 := hR1.below h2; replace hU := hU.trans (Upd.of_below h2); clear hld; simp only [List.drop_succ_cons, List.drop_zero]; clear c18 c26 cr; refine wl_mc rfl hR2 106 #[sdV b ti, .int .i64 an, .int .u32 r] ?_ (sideStoreT hR2.m hok hi hf an r) (fun F3 w3 hR3 hU3 => ?_)
  ·first | (go_simp; done) | (go_simp; rfl)
  refine Zk ?_; have yv := hR3.reg h8 hr; go_upto_region 7 with (fail); refine wp_region_lit ?_
  iterate 5 refine Zv ?_
  refine wl_rm rfl 162 #[.pointer (some ⟨kR, 0, none⟩), .agg (evtL (ev 2 r 0 0 false)).toArray] ?_ (noteC hR3 (ev 2 r 0 0 false) (by rw [show (storeT M ti an r).evs = M.evs from by unfold storeT; split <;> rfl]; exact hs)) (fun F4 w4 hR4 hU4 => ?_)
  ·first | (go_simp; done) | (go_simp; rfl)
  refine Zk ?_; clear yv; go_wp2; go_end0; rw [hX.out]; exact ⟨rfl, F4, hR4, (hU.trans hU3).trans hU4⟩
 ·have hX2 : Hid (X = lockedF M ti T a an v r true) := hX.out
  clear hX; have hX := hX2; clear hX2; go_upto_region 9 with (fail); have c16 : ∀ w' : World, Below w1.heap.size w1 w' → w'.cell? ⟨kR, 16, none⟩ = some (fnV b ti 104) := fun w' h' => (hR1.below h').cell rfl; have c26 : ∀ w' : World, Below w1.heap.size w1 w' → w'.cell? ⟨kR, 26, none⟩ = some (.int .i64 an) := fun w' h' => (hR1.below h').cell rfl; have cr : ∀ w' : World, Below w1.heap.size w1 w' → w'.cell? ⟨kR, 1 + a, none⟩ = some (.int .u32 (r)) := fun w' h' => (hR1.below h').reg h8 hr; refine ZT 14 w1 ?_; simp only [List.take_succ_cons, List.take_zero]
  iterate 10 refine Zz ?_
  refine qe 104 #[sdV b ti, .int .i64 an] (.int .u32 v) (fun w' h' => hld w' h') (fun w' => ?_) (fun K hK => ?_)
  ·first | (go_simp; done) | (go_simp; rfl)
  go_simp; refine hK _ ?_; clear hK K
  iterate 3 refine Zz ?_
  refine qd_nil (fun w2 h2 => ?_); have hR2 := hR1.below h2; replace hU := hU.trans (Upd.of_below h2); clear hld; simp only [List.drop_succ_cons, List.drop_zero]; clear c16 c26 cr; refine wl_rm rfl 164 #[.pointer (some ⟨kR, 0, none⟩), .int .u32 v, .int .u32 r, .bool true] ?_ (lockedC hR2 hA a ha h8 v r true hs) (fun F3 w3 hR3 hU3 => ?_)
  ·first | (go_simp; done) | (go_simp; rfl)
  refine Zk ?_; go_wp2; go_end0; rw [hX.out]; exact ⟨rfl, F3, hR3, hU.trans hU3⟩
 ·have hX2 : Hid (X = lockedF M ti T a an v ((v + r) % 4294967296) true) := hX.out
  clear hX; have hX := hX2; clear hX2; go_upto_region 11 with (fail); have c16 : ∀ w' : World, Below w1.heap.size w1 w' → w'.cell? ⟨kR, 16, none⟩ = some (fnV b ti 104) := fun w' h' => (hR1.below h').cell rfl; have c26 : ∀ w' : World, Below w1.heap.size w1 w' → w'.cell? ⟨kR, 26, none⟩ = some (.int .i64 an) := fun w' h' => (hR1.below h').cell rfl; refine ZA w1 ?_
  iterate 9 refine Zz ?_
  refine qe 104 #[sdV b ti, .int .i64 an] (.int .u32 v) (fun w' h' => hld w' h') (fun w' => ?_) (fun K hK => ?_)
  ·first | (go_simp; done) | (go_simp; rfl)
  go_simp; refine hK _ ?_; clear hK K; refine Zz ?_; refine qd_nil (fun w2 h2 => ?_); have hR2 := hR1.below h2; replace hU := hU.trans (Upd.of_below h2); clear hld; clear c16 c26; have yv := hR2.reg h8 hr; go_upto_region 12 with (fail); refine wp_region_lit ?_
  iterate 6 refine Zv ?_
  refine wl_val rfl (.int .u32 ((v + r) % 4294967296)) ?_ ?_
  ·go_simp; try rfl
  refine Zk ?_; refine wl_rm rfl 164 #[.pointer (some ⟨kR, 0, none⟩), .int .u32 v, .int .u32 ((v + r) % 4294967296), .bool true] ?_ (lockedC hR2 hA a ha h8 v ((v + r) % 4294967296) true hs) (fun F3 w3 hR3 hU3 => ?_)
  ·first | (go_simp; done) | (go_simp; rfl)
  refine Zk ?_; go_wp2; go_end0; rw [hX.out]; exact ⟨rfl, F3, hR3, hU.trans hU3⟩
 ·have hX2 : Hid (X = lockedF M ti T a an v (T.regs I.c.toNat) (v == r)) := hX.out
  clear hX; have hX := hX2; clear hX2; obtain ⟨c, hc, c8⟩ := hc0 rfl; obtain ⟨rc, hrc⟩ : ∃ q, Hid (q = T.regs c) := ⟨_, rfl⟩
  have hXc : Hid (X = lockedF M ti T a an v rc (v == r)) := by rw [hrc.out]; exact hX.out.trans (by rw [hc, Int.toNat_natCast])
  clear hX; have hX := hXc; clear hXc; go_upto_region 14 with (fail); have c16 : ∀ w' : World, Below w1.heap.size w1 w' → w'.cell? ⟨kR, 16, none⟩ = some (fnV b ti 104) := fun w' h' => (hR1.below h').cell rfl; have c26 : ∀ w' : World, Below w1.heap.size w1 w' → w'.cell? ⟨kR, 26, none⟩ = some (.int .i64 an) := fun w' h' => (hR1.below h').cell rfl; refine ZA w1 ?_
  iterate 9 refine Zz ?_
  refine qe 104 #[sdV b ti, .int .i64 an] (.int .u32 v) (fun w' h' => hld w' h') (fun w' => ?_) (fun K hK => ?_)
  ·first | (go_simp; done) | (go_simp; rfl)
  go_simp; refine hK _ ?_; clear hK K; refine Zz ?_; refine qd_nil (fun w2 h2 => ?_); have hR2 := hR1.below h2; replace hU := hU.trans (Upd.of_below h2); clear hld; clear c16 c26; go_upto_region 15 with (fail); have cc : ∀ w' : World, Below w2.heap.size w2 w' → w'.cell? ⟨kR, 13, none⟩ = some (.int .i64 (c : Nat)) := fun w' h' => (hR2.below h').cell (by rw [← hc]; rfl); have cr : ∀ w' : World, Below w2.heap.size w2 w' → w'.cell? ⟨kR, 1 + a, none⟩ = some (.int .u32 (r)) := fun w' h' => (hR2.below h').reg h8 hr; have crc : ∀ w' : World, Below w2.heap.size w2 w' → w'.cell? ⟨kR, 1 + c, none⟩ = some (.int .u32 (rc)) := fun w' h' => (hR2.below h').reg c8 hrc
  have j0 : (0 : Int) ≤ c := by omega
  have j1 : (c : Int) < 8 := by omega
  clear hc hrc; refine ZT 18 w2 ?_; simp only [List.take_succ_cons, List.take_zero]
  iterate 18 refine Zz ?_
  refine qd_nil (fun w22 h22 => ?_); replace hR2 := hR2.below h22; replace hU := hU.trans (Upd.of_below h22); clear cc cr crc; simp only [List.drop_succ_cons, List.drop_zero]; refine wl_rm rfl 164 #[.pointer (some ⟨kR, 0, none⟩), .int .u32 v, .int .u32 rc, .bool (v == r)] ?_ (lockedC hR2 hA a ha h8 v rc (v == r) hs) (fun F3 w3 hR3 hU3 => ?_)
  ·first | (go_simp; done) | (go_simp; rfl)
  refine Zk ?_; go_wp2; go_end0; rw [hX.out]; exact ⟨rfl, F3, hR3, hU.trans hU3⟩
 ·have hX2 : Hid (X = waitF M ti T a an) := hX.out
  clear hX; have hX := hX2; clear hX2; go_upto_region 17 with (fail); refine wp_region_lit ?_; refine Zv ?_; refine wl_rm rfl 165 #[.pointer (some ⟨kR, 0, none⟩)] ?_ (waitC hR1 hok hi hA a ha h8 hs (Nat.le_trans hl (by decide))) (fun F3 w3 hR3 hU3 => ?_)
  ·first | (go_simp; done) | (go_simp; rfl)
  refine Zk ?_; go_wp2; go_end0; rw [hX.out]; exact ⟨rfl, F3, hR3, hU.trans hU3⟩
 ·have hX2 : Hid (X = (noteM (wakeM M an r) ti T an (ev 9 (wakeL M an r) 0 0 false), setR T a (wakeL M an r))) := hX.out
  clear hX; have hX := hX2; clear hX2; go_upto_region 19 with (fail); have c23 : ∀ w' : World, Below w1.heap.size w1 w' → w'.cell? ⟨kR, 23, none⟩ = some (fnV b ti 110) := fun w' h' => (hR1.below h').cell rfl; have c26 : ∀ w' : World, Below w1.heap.size w1 w' → w'.cell? ⟨kR, 26, none⟩ = some (.int .i64 an) := fun w' h' => (hR1.below h').cell rfl; have cr : ∀ w' : World, Below w1.heap.size w1 w' → w'.cell? ⟨kR, 1 + a, none⟩ = some (.int .u32 (r)) := fun w' h' => (hR1.below h').reg h8 hr; refine grow_headL [0, 1, 2, 3, 4, 5, 6, 7, 8, 9, 10, 11, 12] 13 16 (fun w' => Below w1.heap.size w1 w') _ rfl (by kernel_rfl) (by kernel_rfl) (by decide) (by kernel_rfl) ?_; refine ZF ?_
  iterate 12 refine ZR ?_
  refine gl_nil ?_; show anyM _ _ _ _ _ _ _ _ _ _; clear c23 c26 cr; have q0 : Below w1.heap.size w1 w1.drew := Below.drew (Below.refl _ _); refine ZM 13 (fun w2 r2 => ⟨fun _ => q0.trans (r2.mono q0.size), ?_⟩); have hR2 := hR1.below (q0.trans (r2.mono q0.size)); replace hU := hU.trans (Upd.of_below (q0.trans (r2.mono q0.size))); clear hld q0 r2
  refine op_calls rfl rfl 110 #[sdV b ti, .int .i64 an, .int .u32 r] (fun v w' => v = .int .u32 (wakeL M an r) ∧ ∃ F', MMem w' b F' (wakeM M an r) ∧ Upd F F' w2 w') (by first | (go_simp; done) | (go_simp; rfl)) ((sideWake (ti := ti) hR2.m an r hru hl hok.slp).mono fun e w' h => ⟨_, h.1, rfl, h.2⟩) ?_
  rintro _ w22 ⟨rfl, F3, hM3, hU3⟩; obtain ⟨hR3, hU3⟩ := hR2.call hM3 hU3; clear hM3; refine ZM 14 (fun w23 r23 => ⟨(fun e => absurd (show true = false from e) (by decide)), ?_⟩); refine op_value rfl rfl (.pointer (some ⟨kR, 1 + a, none⟩)) (by go_simp) ?_; refine ZM 15 (fun w3 r3 => ⟨(fun e => absurd (show true = false from e) (by decide)), ?_⟩); replace hU := (hU.trans hU3).trans (Upd.of_below (r23.trans (r3.mono r23.size))); replace hR3 := hR3.below (r23.trans (r3.mono r23.size)); clear r23 r3 hU3; refine op_stv rfl rfl 33 (fun w => by kernel_rfl) (.tmp 141) (.tmp 140) rfl kR (1 + a) (.int .u32 (wakeL M an r)) rfl st_u32 _ 192 rfl rfl hR3.r (by show 1 + a < 27; omega) (fun w41 p1 p2 p3 => ?_); refine anyM_end (by kernel_rfl) (by kernel_rfl) (fun w4 r4 => ?_); obtain ⟨hR4, hU4⟩ := hR3.put p1 (runC_setR h8 (wakeL M an r)) p2 p3; replace hR4 := hR4.below r4; replace hU4 := hU4.trans (Upd.of_below r4); clear p1 p2 p3 r4; have yv : w4.cell? ⟨kR, 1 + a, none⟩ = some (.int .u32 (wakeL M an r)) := (hR4.cell (runC_reg h8)).trans (by rw [setR_self]); go_upto_region 20 with (fail); refine wp_region_lit ?_
  iterate 5 refine Zv ?_
  refine wl_rm rfl 162 #[.pointer (some ⟨kR, 0, none⟩), .agg (evtL (ev 9 (wakeL M an r) 0 0 false)).toArray] ?_ (noteC hR4 (ev 9 (wakeL M an r) 0 0 false) hs) (fun F5 w5 hR5 hU5 => ?_)
  ·first | (go_simp; done) | (go_simp; rfl)
  refine Zk ?_; go_wp2; go_end0; rw [hX.out]; exact ⟨rfl, F5, hR5, (hU.trans hU4).trans hU5⟩
end Go.Proofs.YtbcgngfbbbfebaaGreatDoor
