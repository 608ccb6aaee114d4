/- A thread's next instruction. -/
import Derived.Test.YtbcgngfbbbfebaaGreatDoorM37
namespace Go.Proofs.YtbcgngfbbbfebaaGreatDoor
open Go.RowKit Go.Maps
set_option maxRecDepth 100000
set_option maxHeartbeats 32000000
set_option linter.unusedVariables false
set_option linter.unusedSimpArgs false
theorem below_eq {w w' : World} (h : w' = w) : Below w.heap.size w w' := by rw [h]; exact Below.refl _ _
theorem sideRoomT {b ti : Nat} {F : Nat → Prop} {M : Mac} {w : World} (hM : MMem w b F M) (h : MOk M) (hi : ti < M.threads.length) : Calls Tryz.prog 105 #[sdV b ti] w fun e w' => e = .returned (.bool (!fullB M ti)) ∧ Below w.heap.size w w' := by
 obtain ⟨x, hx⟩ := h.at hi
 have e : fullB M ti = decide (x.room ≤ x.n) := by simp only [fullB, hx]
 rw [e]; exact sideRoom hM hx
def stallP (M : Mac) (ti : Nat) (op : Int) : Bool := decide ((drainB op = true ∧ lenB M ti ≠ 0) ∨ (op = 17 ∧ fullB M ti = true))
theorem ins_stall {M : Mac} {ti : Nat} {T : Th} {I : Ins} {A : Int} (h : true = stallP M ti I.op) : insF M ti T I A = (flushT M ti, T) := if_pos (of_decide_eq_true h.symm)
theorem ins_go {M : Mac} {ti : Nat} {T : Th} {I : Ins} {A : Int} (h : false = stallP M ti I.op) : insF M ti T I A = (if I.op = 0 then endF M ti T 12 2 else if jumpB I.op = true then (if goesB T I = true then (M, { T with pc := I.k }) else nextT (M, T)) else if asksB I.op = true then nextT (asksF M ti T I A) else nextT (plainF M ti T I A)) := if_neg (of_decide_eq_false h.symm)
theorem go_full {M : Mac} {ti : Nat} {op : Int} (h : false = stallP M ti op) (e : op = 17) : fullB M ti = false := by
 cases hf : fullB M ti with
 | false => rfl
 | true => exact absurd (.inr ⟨e, hf⟩) (of_decide_eq_false h.symm)
theorem asks_pc (M : Mac) (ti : Nat) (T : Th) (I : Ins) (A : Int) : (asksF M ti T I A).2.pc = T.pc := by
 unfold asksF lockedF waitF
 repeat' split
 all_goals rfl
theorem plain_pc (M : Mac) (ti : Nat) (T : Th) (I : Ins) (A : Int) : (plainF M ti T I A).2.pc = T.pc := by
 unfold plainF
 repeat' split
 all_goals rfl
theorem drain_17 {op : Int} (h : true = drainB op) : ¬ op = 17 := fun e => by rw [e] at h; exact absurd h (by decide)
theorem stepC {b ti : Nat} {F : Nat → Prop} {M : Mac} {T : Th} {code : List Ins} {vc : Value} {w : World} (hM : MMem w b F M) (hO : Own eI w vc code) (hok : MOk M) (hi : ti < M.threads.length) (hT : RU T) (hK0 : KOk code) (hcl : code.length ≤ 4000) (hs : M.evs.length + 129 ≤ 3000000) (hl : M.slp.length ≤ 80000) (hW : IsaW w) : Calls Tryz.prog 80 #[.agg (thrL T).toArray, vc, .agg (portL b ti M.mem.length).toArray] w fun e w' => ∃ X, Hid (X = coreF M ti T code) ∧ e = .returned (.agg (thrL X.2).toArray) ∧ ∃ F', MMem w' b F' X.1 ∧ Upd F F' w w' := by
 obtain ⟨X, hX⟩ : ∃ q, Hid (q = coreF M ti T code) := ⟨_, rfl⟩; refine Calls.mono (P := Tryz.prog) (?_ : Calls Tryz.prog 80 _ w fun e w' => e = .returned (.agg (thrL X.2).toArray) ∧ ∃ F', MMem w' b F' X.1 ∧ Upd F F' w w') (fun e w' h => ⟨X, hX, h⟩); obtain ⟨n, hN⟩ : ∃ N, Hid (N = M.mem.length) := ⟨_, rfl⟩; rw [← hN.out]; obtain ⟨L, hL⟩ : ∃ N, Hid (N = code.length) := ⟨_, rfl⟩; obtain ⟨pv, cc, rfl⟩ := hO.form2
 have hcl' : L ≤ 4000 := by rw [hL.out]; exact hcl
 have hs' : M.evs.length ≤ 3000000 := by omega
 clear hcl; rw [← hL.out] at hO ⊢; unfold coreF at hX; go_enter Tryz.func80, Tryz.ntmps80; go_upto_region 1 with (fail); obtain ⟨W, kT, kP, kX, e0, e1, e2, e3, XT, XP, XX, hal⟩ := box3 w (thrL T).toArray (portL b ti n).toArray #[.int .i64 0, .int .u32 0, .int .u32 0, .int .u32 0, .int .u32 0, .int .u32 0, .int .u32 0, .int .u32 0, .int .u32 0, .int .i64 0] 153 174 153; rw [e0, e3, e2, e1]
 have hkX : w.heap.size ≤ kX := by omega
 have hkT : w.heap.size ≤ kT := by omega
 clear e0 e1 e2 e3; have hM1 := hM.below hal; have yst : W.cell? ⟨kT, 9, none⟩ = some (.int .i64 T.st) := cell_of_row W kT 9 _ 153 _ XT
 by_cases hst : T.st = 0
 case neg =>
  rw [if_neg hst] at hX; go_upto_region 2 with (fail); refine wp_region_lit ?_; refine Zd 153 XT Tryz.underlying153 ?_; refine wl_store rfl 153 (.tmp 6) (.tmp 12) rfl kX (thrL T).toArray rfl rfl 153 _ XX (by kernel_rfl) rfl (by simp [Value.oneCell', thrL]) (fun w90 g1 g2 g3 g4 => ?_); refine Zk ?_; go_wp2; refine ret_c1 rfl rfl g1 rfl Tryz.underlying153 (by kernel_rfl) rfl ?_; rw [hX.out]; exact ⟨rfl, F, hM1.keptF (fun h => by have := hM.lt kX h; omega) XX (by decide) g2, (Upd.of_below hal).fresh hkX g2 g3⟩
 rw [if_pos hst] at hX; rw [hst] at yst; go_upto_region 3 with (fail); refine wp_region_lit ?_; refine Zd 153 XT Tryz.underlying153 ?_; refine Zd 174 XP Tryz.underlying174 ?_; refine wl_val rfl (.agg (runC b ti n T ⟨0, 0, 0, 0, 0⟩ 0)) ?_ ?_
 ·first | (go_simp; done) | kernel_rfl | (go_simp; rfl)
 refine Zk ?_
 refine wl_at rfl (.pointer (some ⟨W.heap.size, 0, none⟩)) (w' := W.alloc (.cells (runC b ti n T ⟨0, 0, 0, 0, 0⟩ 0) 192)) (by first | kernel_rfl | (go_simp; done) | (go_simp; rfl)) ?_
 obtain ⟨w1, kR, e0, e1, XR, hal1⟩ := box1 W (runC b ti n T ⟨0, 0, 0, 0, 0⟩ 0) 192; rw [e0, e1]
 have hkR : w.heap.size ≤ kR := by have := hal.size; omega
 have hne : kX ≠ kR := by have := blk_lt XX; omega
 have hneT : kT ≠ kR := by have := blk_lt XT; omega
 clear e0 e1; refine Zk ?_; refine Zv ?_; have hB1 := hal.trans (hal1.mono hal.size); have hR1 : RM w1 b kR F M T ⟨0, 0, 0, 0, 0⟩ 0 ti n := ⟨hM1.below hal1, XR, fun h => by have := hM.lt kR h; omega⟩; have hn : ¬ Or1 F kR kX := fun h => h.elim (fun h => by have := hM.lt kX h; omega) hne; have hnT : ¬ Or1 F kR kT := fun h => h.elim (fun h => by have := hM.lt kT h; omega) hneT; have X1 := keep XX hal1; have XT1 := keep XT hal1; have XP1 := keep XP hal1; have hX1 := blk_lt X1; have hO1 := hO.below hB1; have ypc : w1.cell? ⟨kT, 0, none⟩ = some (.int .i64 T.pc) := cell_of_row w1 kT 0 _ 153 _ XT1; clear hal1 hal hM1 XX XT XP yst hne hM hO hneT hkT
 by_cases hp0 : T.pc < 0
 ·rw [if_pos hp0] at hX
  go_upto_region 5 with (fail); refine wp_region_lit ?_; refine Zv ?_; refine wl_rm rfl 96 #[.pointer (some ⟨kR, 0, none⟩)] ?_ (haltsC hR1 hs') (fun F70 w70 hR70 hU70 => ?_)
  ·first | (go_simp; done) | (go_simp; rfl)
  refine Zk ?_; have X70 := hU70.kept X1 hn; refine wl_store rfl 153 (.tmp 6) (.tmp 28) rfl kX (thrL (setS T 2)).toArray rfl rfl 153 _ X70 (by kernel_rfl) rfl (by simp [Value.oneCell', thrL]) (fun w90 g1 g2 g3 g4 => ?_); refine Zk ?_; go_wp2; refine ret_c1 rfl rfl g1 rfl Tryz.underlying153 (by kernel_rfl) rfl ?_; rw [hX.out]; exact ⟨rfl, stepEnd hB1 hkR hkX hU70 hR70 hn hX1 X70 g2 g3⟩
 rw [if_neg hp0] at hX; obtain ⟨pn, hpn⟩ : ∃ pn : Nat, T.pc = pn := ⟨T.pc.toNat, by omega⟩; rw [hpn] at ypc hX; have hpn' : Hid (T.pc = pn) := hpn; rw [Int.toNat_natCast] at hX
 have q0 : (0 : Int) ≤ pn := by omega
 have q1 : ¬ (pn : Int) < 0 := by omega
 clear hp0
 by_cases hpL : L ≤ pn
 ·have q2 : (L : Int) ≤ pn := by omega
  have hX2 : Hid (X = endF M ti T 12 2) := by rw [List.getElem?_eq_none (by rw [← hL.out]; exact hpL)] at hX; exact hX.out
  clear hX hpn; have hX := hX2; clear hX2; go_upto_region 5 with (fail); refine wp_region_lit ?_; refine Zv ?_; refine wl_rm rfl 96 #[.pointer (some ⟨kR, 0, none⟩)] ?_ (haltsC hR1 hs') (fun F70 w70 hR70 hU70 => ?_)
  ·first | (go_simp; done) | (go_simp; rfl)
  refine Zk ?_; have X70 := hU70.kept X1 hn; refine wl_store rfl 153 (.tmp 6) (.tmp 28) rfl kX (thrL (setS T 2)).toArray rfl rfl 153 _ X70 (by kernel_rfl) rfl (by simp [Value.oneCell', thrL]) (fun w90 g1 g2 g3 g4 => ?_); refine Zk ?_; go_wp2; refine ret_c1 rfl rfl g1 rfl Tryz.underlying153 (by kernel_rfl) rfl ?_; rw [hX.out]; exact ⟨rfl, stepEnd hB1 hkR hkX hU70 hR70 hn hX1 X70 g2 g3⟩
 have q2 : ¬ (L : Int) ≤ pn := by omega
 have q3 : (pn : Int) < L := by omega
 have hpl : pn < code.length := by rw [← hL.out]; omega
 obtain ⟨I, hI⟩ : ∃ I, code[pn]? = some I := ⟨code[pn], List.getElem?_eq_getElem hpl⟩
 have hX2 : Hid (X = coreI M ti T I L) := by rw [hI] at hX; rw [hL.out]; exact hX.out
 have hIk : U32 I.k := hK0 I (List.mem_of_getElem? hI); clear hX; have hX := hX2; clear hX2 hK0
 obtain ⟨g, rfl⟩ : ∃ g, pv = some ⟨g, 0, none⟩ := by
  rcases hO1.form with ⟨_, e⟩ | ⟨g, c, e, _⟩
  ·rw [e] at hpl; exact absurd hpl (Nat.not_lt_zero _)
  ·simp only [Value.slice.injEq] at e; exact ⟨g, e.1⟩
 have hrg : w1.rangeAt g (pn * 5) (insL I) := by
  have h1 := (hO1.at eI_ok).elem eI_ok hI; rw [Nat.zero_add] at h1; exact h1
 clear hpl hI; go_upto_region 6 with (fail); refine wp_region_lit ?_
 iterate 4 refine Zv ?_
 refine wl_val rfl (.pointer (some ⟨g, pn * 5, none⟩)) ?_ ?_
 ·go_simp
 refine Zk ?_; refine wl_at rfl (.agg (insL I).toArray) (run_ldm 114 (.tmp 33) rfl g (pn * 5) rfl (insL I) _ hrg Tryz.underlying114 rfl (by kernel_rfl)) ?_; refine Zk ?_
 iterate 2 refine Zv ?_
 refine wl_setI rfl (.tmp 36) (.tmp 34) rfl hR1 I rfl rfl (fun w2 hR2 p3 p2 => ?_); refine Zk ?_; have hB2 := hB1.trans (p3 _ hkR); have X2 := (p2 kX (fun e => hn (.inr e))).trans X1; have XT2 := (p2 kT (fun e => cells_ne XT1 hR1.r (by decide) e)).trans XT1; have XP2 := (p2 kP (fun e => cells_ne XP1 hR1.r (by decide) e)).trans XP1
 have hpn4 : pn ≤ 4000 := by omega
 clear hR1 hB1 X1 XT1 XP1 p2 p3 hrg hO1 ypc q2 q3 q1 q0 hpn hX1; unfold coreI at hX; go_upto_region 7 with (fail); refine wp_region_lit ?_
 iterate 3 refine Zv ?_
 refine wl_at rfl (.agg (insL I).toArray) (run_ldm 114 (.tmp 39) rfl kR 10 rfl (insL I) _ hR2.ins Tryz.underlying114 rfl (by kernel_rfl)) ?_; refine Zk ?_
 iterate 2 refine Zv ?_
 have hrt := isaRight I L hIk ⟨by omega, by omega⟩ w2 (hW.below hB2); obtain ⟨rb, hrb⟩ : ∃ q, Hid (q = rightB I L) := ⟨_, rfl⟩; rw [← hrb.out] at hrt hX; refine Zq 58 #[insV I, .int .i64 L] (hrt) (fun w3 h3 => ?_); refine Zv ?_; have hB3 := hB2.trans (h3.mono hB2.size); have hR3 := hR2.below h3; have X3 := keep X2 h3; have XT3 := keep XT2 h3; have XP3 := keep XP2 h3; have hX1 := blk_lt X3; clear h3 hB2 hR2 X2 XT2 XP2 hrt
 cases rb with
 | false =>
  rw [if_pos rfl] at hX; go_upto_region 8 with (fail); refine wp_region_lit ?_; refine Zv ?_; refine wl_rm rfl 97 #[.pointer (some ⟨kR, 0, none⟩)] ?_ (faultsC hR3 hs') (fun F70 w70 hR70 hU70 => ?_)
  ·first | (go_simp; done) | (go_simp; rfl)
  refine Zk ?_; have X70 := hU70.kept X3 hn; refine wl_store rfl 153 (.tmp 6) (.tmp 46) rfl kX (thrL (setS T 3)).toArray rfl rfl 153 _ X70 (by kernel_rfl) rfl (by simp [Value.oneCell', thrL]) (fun w90 g1 g2 g3 g4 => ?_); refine Zk ?_; go_wp2; refine ret_c1 rfl rfl g1 rfl Tryz.underlying153 (by kernel_rfl) rfl ?_; rw [hX.out]; exact ⟨rfl, stepEnd hB3 hkR hkX hU70 hR70 hn hX1 X70 g2 g3⟩
 | true =>
 rw [if_neg (by decide)] at hX; obtain ⟨⟨a, ha, h8⟩, ⟨c2, hc2, c8⟩, hb0⟩ := right_use hrb.out.symm; clear hrb; obtain ⟨am, ham⟩ : ∃ q, Hid (q = asksB I.op) := ⟨_, rfl⟩; rw [← ham.out] at hX hb0; have hak := asksC I.op w3 (hW.below hB3); rw [← ham.out] at hak; have y10 : w3.cell? ⟨kR, 10, none⟩ = some (.int .i64 I.op) := hR3.cell rfl; go_upto_region 9 with (fail); refine wp_region_lit ?_
 iterate 5 refine Zv ?_
 refine Zq 98 #[.int .i64 I.op] (hak.mono fun e w' h => ⟨h.1, below_eq h.2⟩) (fun w4 h4 => ?_); have hB4 := hB3.trans (h4.mono hB3.size); have hR4 := hR3.below h4; have X4 := keep X3 h4; have XT4 := keep XT3 h4; have XP4 := keep XP3 h4; have hX1 := blk_lt X4; clear h4 hB3 hR3 X3 XT3 XP3 hak y10
 cases am with
 | false =>
  rw [if_neg (by decide)] at hX; obtain ⟨c1, hc1, b8⟩ := hb0 rfl; obtain ⟨sb, hsb⟩ : ∃ q, Hid (q = stallP M ti I.op) := ⟨_, rfl⟩; go_upto_region 14 with (fail); go_cut [97] from 72 to 97 (fun s97 wx => s97 = .bool sb ∧ Below w4.heap.size w4 wx)
  case first =>
   have y10 : w4.cell? ⟨kR, 10, none⟩ = some (.int .i64 I.op) := hR4.cell rfl; obtain ⟨d, hd⟩ : ∃ q, Hid (q = drainB I.op) := ⟨_, rfl⟩; have hdr := drainsC I.op w4; rw [← hd.out] at hdr; obtain ⟨l0, hl0⟩ : ∃ q, Hid (q = decide (lenB M ti = 0)) := ⟨_, rfl⟩; have hem := fun (w' : World) (h : Below w4.heap.size w4 w') => sideEmptyT (hR4.m.below h) hok hi; rw [← hl0.out] at hem
   cases d with
   | true =>
    have h17 : (I.op == 17) = false := by rw [beq_eq_false_iff_ne]; exact drain_17 hd.out
    cases l0 with
    | true =>
     have hsv : sb = false := by
      rw [hsb.out]; unfold stallP; rw [decide_eq_false_iff_not]; exact fun h => h.elim (fun h => h.2 (of_decide_eq_true hl0.out.symm)) (fun h => drain_17 hd.out h.1)
     refine wp_region_lit ?_
     iterate 5 refine Zv ?_
     refine Zq 100 #[.int .i64 I.op] (hdr.mono fun e w' h => ⟨h.1, below_eq h.2⟩) (fun w41 h41 => ?_); refine Zv ?_; have yP : w41.cell? ⟨kP, 4, none⟩ = some (fnV b ti 107) := cell_of_row w41 kP 4 _ 174 _ (keep XP4 h41)
     iterate 2
      with_reducible refine wl_on (by kernel_rfl) ?_ ?_ ?_
      rotate_left
      ·go_simp; try with_reducible rfl
      refine Zk ?_
     with_reducible refine wl_con (by kernel_rfl) 107 #[sdV b ti] ?_ (hem w41 h41) (fun w42 h42a => ?_)
     ·first | (go_simp; done) | (go_simp; rfl)
     refine Zk ?_; have h42 := h41.trans (h42a.mono h41.size)
     with_reducible refine wl_on (by kernel_rfl) ?_ ?_ ?_
     rotate_left
     ·go_simp; try with_reducible rfl
     refine Zk ?_
     iterate 2 refine Zv ?_
     have y11 : w42.cell? ⟨kR, 10, none⟩ = some (.int .i64 I.op) := (hR4.below h42).cell rfl
     iterate 7
      with_reducible refine wl_on (by kernel_rfl) ?_ ?_ ?_
      rotate_left
      ·go_simp; try with_reducible rfl
      refine Zk ?_
     iterate 4
      with_reducible refine wl_off (by kernel_rfl) ?_
      refine Zk ?_
     with_reducible refine wl_on (by kernel_rfl) ?_ ?_ ?_
     rotate_left
     ·go_simp; try with_reducible rfl
     refine Zk ?_; refine Zv ?_; go_wp2; go_meet
     case rel => exact ⟨congrArg Value.bool hsv.symm, h42⟩
    | false =>
     have hsv : sb = true := by
      rw [hsb.out]; unfold stallP; rw [decide_eq_true_iff]; exact .inl ⟨hd.out.symm, of_decide_eq_false hl0.out.symm⟩
     refine wp_region_lit ?_
     iterate 5 refine Zv ?_
     refine Zq 100 #[.int .i64 I.op] (hdr.mono fun e w' h => ⟨h.1, below_eq h.2⟩) (fun w41 h41 => ?_); refine Zv ?_; have yP : w41.cell? ⟨kP, 4, none⟩ = some (fnV b ti 107) := cell_of_row w41 kP 4 _ 174 _ (keep XP4 h41)
     iterate 2
      with_reducible refine wl_on (by kernel_rfl) ?_ ?_ ?_
      rotate_left
      ·go_simp; try with_reducible rfl
      refine Zk ?_
     with_reducible refine wl_con (by kernel_rfl) 107 #[sdV b ti] ?_ (hem w41 h41) (fun w42 h42a => ?_)
     ·first | (go_simp; done) | (go_simp; rfl)
     refine Zk ?_; have h42 := h41.trans (h42a.mono h41.size)
     with_reducible refine wl_on (by kernel_rfl) ?_ ?_ ?_
     rotate_left
     ·go_simp; try with_reducible rfl
     refine Zk ?_
     iterate 2 refine Zv ?_
     iterate 12
      with_reducible refine wl_off (by kernel_rfl) ?_
      refine Zk ?_
     refine Zv ?_; go_wp2; go_meet
     case rel => exact ⟨congrArg Value.bool hsv.symm, h42⟩
   | false =>
    by_cases c17 : I.op = 17
    ·have := ham.out; rw [c17] at this; exact absurd this (by decide)
    ·have h17 : (I.op == 17) = false := by rw [beq_eq_false_iff_ne]; exact c17
     have hsv : sb = false := by
      rw [hsb.out]; unfold stallP; rw [decide_eq_false_iff_not]; exact fun h => h.elim (fun h => by have := hd.out; rw [h.1] at this; cases this) (fun h => c17 h.1)
     refine wp_region_lit ?_
     iterate 5 refine Zv ?_
     refine Zq 100 #[.int .i64 I.op] (hdr.mono fun e w' h => ⟨h.1, below_eq h.2⟩) (fun w41 h41 => ?_); refine Zv ?_
     iterate 4
      with_reducible refine wl_off (by kernel_rfl) ?_
      refine Zk ?_
     iterate 2 refine Zv ?_
     have y11 : w41.cell? ⟨kR, 10, none⟩ = some (.int .i64 I.op) := (hR4.below h41).cell rfl
     iterate 7
      with_reducible refine wl_on (by kernel_rfl) ?_ ?_ ?_
      rotate_left
      ·go_simp; try with_reducible rfl
      refine Zk ?_
     iterate 4
      with_reducible refine wl_off (by kernel_rfl) ?_
      refine Zk ?_
     with_reducible refine wl_on (by kernel_rfl) ?_ ?_ ?_
     rotate_left
     ·go_simp; try with_reducible rfl
     refine Zk ?_; refine Zv ?_; go_wp2; go_meet
     case rel => exact ⟨congrArg Value.bool hsv.symm, h41⟩
  case rest =>
   obtain ⟨rfl, h6⟩ := hcut; have hR6 := hR4.below h6; have hB6 := hB4.trans (h6.mono hB4.size); have X6 := keep X4 h6; have XT6 := keep XT4 h6; have XP6 := keep XP4 h6; have hX1 := blk_lt X6; clear h6 hR4 hB4 X4 XT4 XP4
   cases sb with
   | true =>
    rw [ins_stall hsb.out] at hX; have yP5 : wc.cell? ⟨kP, 5, none⟩ = some (fnV b ti 60) := cell_of_row wc kP 5 _ 174 _ XP6; go_upto_region 15 with (fail); refine wp_region_lit ?_
    iterate 2 refine Zv ?_
    refine wl_mc rfl hR6 60 #[sdV b ti] ?_ (sideFlush hR6.m hok hi hs') (fun F7 w7 hR7 hU7 => ?_)
    ·first | (go_simp; done) | (go_simp; rfl)
    refine Zk ?_; have X7 := hU7.kept X6 hn; have XT7 := hU7.kept XT6 hnT; go_upto_region 16 with (fail); refine wp_region_lit ?_; refine Zd 153 XT7 Tryz.underlying153 ?_; refine wl_store rfl 153 (.tmp 6) (.tmp 101) rfl kX (thrL T).toArray rfl rfl 153 _ X7 (by kernel_rfl) rfl (by simp [Value.oneCell', thrL]) (fun w90 g1 g2 g3 g4 => ?_); refine Zk ?_; go_wp2; refine ret_c1 rfl rfl g1 rfl Tryz.underlying153 (by kernel_rfl) rfl ?_; rw [hX.out]; exact ⟨rfl, stepEnd hB6 hkR hkX hU7 hR7 hn hX1 X7 g2 g3⟩
   | false =>
    rw [ins_go hsb.out] at hX; have y10 : wc.cell? ⟨kR, 10, none⟩ = some (.int .i64 I.op) := hR6.cell rfl
    by_cases h0 : I.op = 0
    ·rw [if_pos h0] at hX
     have h0b : (I.op == 0) = true := by rw [beq_iff_eq]; exact h0
     go_upto_region 19 with (fail); refine wp_region_lit ?_; refine Zv ?_; refine wl_rm rfl 96 #[.pointer (some ⟨kR, 0, none⟩)] ?_ (haltsC hR6 hs') (fun F70 w70 hR70 hU70 => ?_)
     ·first | (go_simp; done) | (go_simp; rfl)
     refine Zk ?_; have X70 := hU70.kept X6 hn; refine wl_store rfl 153 (.tmp 6) (.tmp 112) rfl kX (thrL (setS T 2)).toArray rfl rfl 153 _ X70 (by kernel_rfl) rfl (by simp [Value.oneCell', thrL]) (fun w90 g1 g2 g3 g4 => ?_); refine Zk ?_; go_wp2; refine ret_c1 rfl rfl g1 rfl Tryz.underlying153 (by kernel_rfl) rfl ?_; rw [hX.out]; exact ⟨rfl, stepEnd hB6 hkR hkX hU70 hR70 hn hX1 X70 g2 g3⟩
    have h0b : (I.op == 0) = false := by rw [beq_eq_false_iff_ne]; exact h0
    rw [if_neg h0] at hX; clear h0; have hjm := jumpsC I.op wc (hW.below hB6); obtain ⟨jb, hjb⟩ : ∃ q, Hid (q = jumpB I.op) := ⟨_, rfl⟩; rw [← hjb.out] at hjm hX; clear hjb; go_upto_region 20 with (fail); refine wp_region_lit ?_
    iterate 5 refine Zv ?_
    refine Zq 94 #[.int .i64 I.op] (hjm.mono fun e w' h => ⟨h.1, below_eq h.2⟩) (fun w61 h61 => ?_); refine Zv ?_; clear y10 hjm h0b
    cases jb with
    | true =>
     rw [if_pos rfl] at hX; have hgo := goesC (hR6.below h61) a ha h8; obtain ⟨gb, hgb⟩ : ∃ q, Hid (q = goesB T I) := ⟨_, rfl⟩; rw [← hgb.out] at hgo hX; clear hgb; go_upto_region 21 with (fail); refine wp_region_lit ?_; refine Zv ?_; refine Zq 101 #[.pointer (some ⟨kR, 0, none⟩)] (hgo) (fun w62 h62a => ?_); have hR8 := (hR6.below h61).below h62a; have hU8 := (Upd.of_below (F := Or1 F kR) h61).trans (Upd.of_below h62a); have X8 := hU8.kept X6 hn; clear hgo
     cases gb with
     | true =>
      rw [if_pos rfl] at hX; have y14 : w62.cell? ⟨kR, 14, none⟩ = some (.int .u32 I.k) := hR8.cell rfl; obtain ⟨k0, k1⟩ := hIk; go_upto_region 22 with (fail); refine wp_region_lit ?_
      iterate 6 refine Zv ?_
      refine wl_val rfl (.int .i64 I.k) ?_ ?_
      ·go_simp; try (rw [IntKind.wrap_i64]; omega)
      refine Zk ?_
      iterate 3 refine Zv ?_
      refine wl_stv rfl 3 (fun w => by kernel_rfl) (.tmp 131) (.tmp 128) rfl kR 0 (.int .i64 I.k) rfl (st_i64 _) _ 192 rfl rfl hR8.r (by show 0 < 27; decide) (fun w9 p1 p2 p3 => ?_); refine Zk ?_; obtain ⟨hR9, hU9⟩ := hR8.put p1 (runC_pc I.k) p2 p3; have X9 := (p2 kX (fun e => hn (.inr e))).trans X8; clear p1 p2 p3; obtain ⟨T9, hT9⟩ : ∃ q, Hid (q = ({ T with pc := I.k } : Th)) := ⟨_, rfl⟩; rw [← hT9.out] at hR9 hX; go_upto_region 23 with (fail); refine wp_region_lit ?_
      iterate 3 refine Zv ?_
      refine wl_at rfl (.agg (thrL T9).toArray) (run_ldm 153 (.tmp 134) rfl kR 0 rfl (thrL T9) _ hR9.th Tryz.underlying153 rfl (by kernel_rfl)) ?_; refine Zk ?_; refine wl_store rfl 153 (.tmp 6) (.tmp 135) rfl kX (thrL T9).toArray rfl rfl 153 _ X9 (by kernel_rfl) rfl (by simp [Value.oneCell', thrL]) (fun w90 g1 g2 g3 g4 => ?_); refine Zk ?_; go_wp2; refine ret_c1 rfl rfl g1 rfl Tryz.underlying153 (by kernel_rfl) rfl ?_; rw [hX.out]; exact ⟨rfl, stepEnd hB6 hkR hkX (hU8.trans hU9) hR9 hn hX1 X9 g2 g3⟩
     | false =>
      rw [if_neg (by decide)] at hX; have hpc : Hid (T.pc = pn) := hpn'
      have hXn : Hid (X = (((M, T)).1, { T with pc := (pn : Int) + 1 })) := by
       show _ = _; rw [← hpc.out]; exact hX.out
      clear hX; have hX := hXn; clear hXn; have y0 : w62.cell? ⟨kR, 0, none⟩ = some (.int .i64 (pn : Nat)) := hR8.cell (by show some (Value.int .i64 (T).pc) = _; rw [hpc.out]); go_upto_region 26 with (fail); refine wp_region_lit ?_
      iterate 5 refine Zv ?_
      refine wl_val rfl (.int .i64 ((pn : Int) + 1)) ?_ ?_
      ·go_simp; try (rw [IntKind.wrap_i64]; omega)
      refine Zk ?_
      iterate 3 refine Zv ?_
      refine wl_stv rfl 3 (fun w => by kernel_rfl) (.tmp 153) (.tmp 150) rfl kR 0 (.int .i64 ((pn : Int) + 1)) rfl (st_i64 _) _ 192 rfl rfl hR8.r (by show 0 < 27; decide) (fun w9 p1 p2 p3 => ?_); refine Zk ?_; obtain ⟨hR9, hU9⟩ := hR8.put p1 (runC_pc ((pn : Int) + 1)) p2 p3; have X9 := (p2 kX (fun e => hn (.inr e))).trans X8; clear p1 p2 p3; obtain ⟨T9, hT9⟩ : ∃ q, Hid (q = ({ T with pc := (pn : Int) + 1 } : Th)) := ⟨_, rfl⟩; rw [← hT9.out] at hR9 hX; go_upto_region 27 with (fail); refine wp_region_lit ?_
      iterate 3 refine Zv ?_
      refine wl_at rfl (.agg (thrL T9).toArray) (run_ldm 153 (.tmp 156) rfl kR 0 rfl (thrL T9) _ hR9.th Tryz.underlying153 rfl (by kernel_rfl)) ?_; refine Zk ?_; refine wl_store rfl 153 (.tmp 6) (.tmp 157) rfl kX (thrL T9).toArray rfl rfl 153 _ X9 (by kernel_rfl) rfl (by simp [Value.oneCell', thrL]) (fun w90 g1 g2 g3 g4 => ?_); refine Zk ?_; go_wp2; refine ret_c1 rfl rfl g1 rfl Tryz.underlying153 (by kernel_rfl) rfl ?_; rw [hX.out]; exact ⟨rfl, stepEnd hB6 hkR hkX (hU8.trans hU9) hR9 hn hX1 X9 g2 g3⟩
    | false =>
     rw [if_neg (by decide), if_neg (by rw [← ham.out]; decide)] at hX; have hak := asksC I.op w61 (hW.below (hB6.trans (h61.mono hB6.size))); rw [← ham.out] at hak; have y11 : w61.cell? ⟨kR, 10, none⟩ = some (.int .i64 I.op) := (hR6.below h61).cell rfl; go_upto_region 24 with (fail); refine wp_region_lit ?_
     iterate 5 refine Zv ?_
     refine Zq 98 #[.int .i64 I.op] (hak.mono fun e w' h => ⟨h.1, below_eq h.2⟩) (fun w62 h62a => ?_); refine Zv ?_; have h62 := h61.trans (h62a.mono h61.size); clear y11 hak; go_upto_region 17 with (fail); refine wp_region_lit ?_; refine Zv ?_; refine wl_rm rfl 103 #[.pointer (some ⟨kR, 0, none⟩)] ?_ (doPlain (hR6.below h62) hok hi a ha h8 c1 hc1 b8 c2 hc2 c8 hT (by omega)) (fun F8 w8 hR8 hU8a => ?_)
     ·first | (go_simp; done) | (go_simp; rfl)
     refine Zk ?_; have hU8 := (Upd.of_below (F := Or1 F kR) h62).trans hU8a; have X8 := hU8.kept X6 hn
     have hpc : Hid ((plainF M ti T I 0).2.pc = pn) := by
      show _ = _; rw [plain_pc]; exact hpn'.out
     have hXn : Hid (X = ((plainF M ti T I 0).1, { (plainF M ti T I 0).2 with pc := (pn : Int) + 1 })) := by
      show _ = _; rw [← hpc.out]; exact hX.out
     clear hX; have hX := hXn; clear hXn; have y0 : w8.cell? ⟨kR, 0, none⟩ = some (.int .i64 (pn : Nat)) := hR8.cell (by show some (Value.int .i64 ((plainF M ti T I 0).2).pc) = _; rw [hpc.out]); go_upto_region 26 with (fail); refine wp_region_lit ?_
     iterate 5 refine Zv ?_
     refine wl_val rfl (.int .i64 ((pn : Int) + 1)) ?_ ?_
     ·go_simp; try (rw [IntKind.wrap_i64]; omega)
     refine Zk ?_
     iterate 3 refine Zv ?_
     refine wl_stv rfl 3 (fun w => by kernel_rfl) (.tmp 153) (.tmp 150) rfl kR 0 (.int .i64 ((pn : Int) + 1)) rfl (st_i64 _) _ 192 rfl rfl hR8.r (by show 0 < 27; decide) (fun w9 p1 p2 p3 => ?_); refine Zk ?_; obtain ⟨hR9, hU9⟩ := hR8.put p1 (runC_pc ((pn : Int) + 1)) p2 p3; have X9 := (p2 kX (fun e => hn (.inr e))).trans X8; clear p1 p2 p3; obtain ⟨T9, hT9⟩ : ∃ q, Hid (q = ({ (plainF M ti T I 0).2 with pc := (pn : Int) + 1 } : Th)) := ⟨_, rfl⟩; rw [← hT9.out] at hR9 hX; go_upto_region 27 with (fail); refine wp_region_lit ?_
     iterate 3 refine Zv ?_
     refine wl_at rfl (.agg (thrL T9).toArray) (run_ldm 153 (.tmp 156) rfl kR 0 rfl (thrL T9) _ hR9.th Tryz.underlying153 rfl (by kernel_rfl)) ?_; refine Zk ?_; refine wl_store rfl 153 (.tmp 6) (.tmp 157) rfl kX (thrL T9).toArray rfl rfl 153 _ X9 (by kernel_rfl) rfl (by simp [Value.oneCell', thrL]) (fun w90 g1 g2 g3 g4 => ?_); refine Zk ?_; go_wp2; refine ret_c1 rfl rfl g1 rfl Tryz.underlying153 (by kernel_rfl) rfl ?_; rw [hX.out]; exact ⟨rfl, stepEnd hB6 hkR hkX (hU8.trans hU9) hR9 hn hX1 X9 g2 g3⟩
 | true =>
  rw [if_pos rfl] at hX; obtain ⟨ad, had0⟩ : ∃ q, Hid (q = addrF T I) := ⟨_, rfl⟩
  have hau : U32 ad := by rw [had0.out]; exact addr_u hT hIk
  have had := addrC T I hT hIk; rw [← had0.out] at had hX; clear had0; obtain ⟨hau0, hau1⟩ := hau; obtain ⟨an, rfl⟩ := Int.eq_ofNat_of_zero_le hau0; go_upto_region 10 with (fail); refine ZA w4 ?_; refine q_run rfl (fun K hK => ?_); refine q_load 153 (.tmp 3) rfl _ rfl _ (thrL T).toArray (0, 0) _ (fun w' h' => keep XT4 h') Tryz.underlying153 rfl (by kernel_rfl) ?_; go_simp; refine hK _ ?_; clear hK K
  iterate 3 refine Zz ?_
  refine Zy (.agg (insL I).toArray) (fun w' h' => run_ldm 114 (.tmp 56) rfl kR 10 rfl (insL I) _ (hR4.below h').ins Tryz.underlying114 rfl (by kernel_rfl)) ?_; refine qe 99 #[.agg (thrL T).toArray, insV I] (.int .u32 an) (fun w' h' => had w') (fun w' => ?_) (fun K hK => ?_)
  ·first | (go_simp; done) | (go_simp; rfl)
  go_simp; refine hK _ ?_; clear hK K; refine Zz ?_; refine qd_nil (fun w5 h5 => ?_); have hB5 := hB4.trans (h5.mono hB4.size); have hR5 := hR4.below h5; have X5 := keep X4 h5; have XT5 := keep XT4 h5; have XP5 := keep XP4 h5; have hX1 := blk_lt X5; clear h5 hB4 hR4 X4 XT4 XP4 had; have yn : w5.cell? ⟨kP, 0, none⟩ = some (.int .i64 n) := cell_of_row w5 kP 0 _ 174 _ XP5; rw [← hN.out] at hX
  have hn4 : n ≤ 1024 := by rw [hN.out]; exact hok.mem
  by_cases hle : (n : Int) ≤ an
  ·rw [if_pos hle] at hX
   go_upto_region 12 with (fail); refine wp_region_lit ?_; refine Zv ?_; refine wl_rm rfl 97 #[.pointer (some ⟨kR, 0, none⟩)] ?_ (faultsC hR5 hs') (fun F70 w70 hR70 hU70 => ?_)
   ·first | (go_simp; done) | (go_simp; rfl)
   refine Zk ?_; have X70 := hU70.kept X5 hn; refine wl_store rfl 153 (.tmp 6) (.tmp 66) rfl kX (thrL (setS T 3)).toArray rfl rfl 153 _ X70 (by kernel_rfl) rfl (by simp [Value.oneCell', thrL]) (fun w90 g1 g2 g3 g4 => ?_); refine Zk ?_; go_wp2; refine ret_c1 rfl rfl g1 rfl Tryz.underlying153 (by kernel_rfl) rfl ?_; rw [hX.out]; exact ⟨rfl, stepEnd hB5 hkR hkX hU70 hR70 hn hX1 X70 g2 g3⟩
  rw [if_neg hle] at hX; go_upto_region 13 with (fail); refine wp_region_lit ?_
  iterate 2 refine Zv ?_
  refine wl_val rfl (.int .i64 an) ?_ ?_
  ·go_simp; try (rw [IntKind.wrap_i64]; omega)
  refine Zk ?_
  iterate 2 refine Zv ?_
  refine wl_stv rfl 3 (fun w => by kernel_rfl) (.tmp 71) (.tmp 69) rfl kR 26 (.int .i64 an) rfl (st_i64 _) _ 192 rfl rfl hR5.r (by show 26 < 27; decide) (fun w5' p1 p2 p3 => ?_); refine Zk ?_; obtain ⟨hR51, _⟩ := hR5.put p1 (runC_addr (an : Int)) p2 p3; have hB51 := hB5.trans (p3 _ hkR); have X51 := (p2 kX (fun e => hn (.inr e))).trans X5; have XT51 := (p2 kT (fun e => hnT (.inr e))).trans XT5; have XP51 := (p2 kP (fun e => cells_ne XP5 hR5.r (by decide) e)).trans XP5
  have hA : an < M.mem.length := by rw [← hN.out]; omega
  clear hR5 hB5 X5 XT5 XP5 p1 p2 p3 yn hle hau0 hau1; obtain ⟨sb, hsb⟩ : ∃ q, Hid (q = stallP M ti I.op) := ⟨_, rfl⟩; go_upto_region 14 with (fail); go_cut [97] from 72 to 97 (fun s97 wx => s97 = .bool sb ∧ Below w5'.heap.size w5' wx)
  case first =>
   have y10 : w5'.cell? ⟨kR, 10, none⟩ = some (.int .i64 I.op) := hR51.cell rfl; obtain ⟨d, hd⟩ : ∃ q, Hid (q = drainB I.op) := ⟨_, rfl⟩; have hdr := drainsC I.op w5'; rw [← hd.out] at hdr; obtain ⟨l0, hl0⟩ : ∃ q, Hid (q = decide (lenB M ti = 0)) := ⟨_, rfl⟩; have hem := fun (w' : World) (h : Below w5'.heap.size w5' w') => sideEmptyT (hR51.m.below h) hok hi; rw [← hl0.out] at hem
   cases d with
   | true =>
    have h17 : (I.op == 17) = false := by rw [beq_eq_false_iff_ne]; exact drain_17 hd.out
    cases l0 with
    | true =>
     have hsv : sb = false := by
      rw [hsb.out]; unfold stallP; rw [decide_eq_false_iff_not]; exact fun h => h.elim (fun h => h.2 (of_decide_eq_true hl0.out.symm)) (fun h => drain_17 hd.out h.1)
     refine wp_region_lit ?_
     iterate 5 refine Zv ?_
     refine Zq 100 #[.int .i64 I.op] (hdr.mono fun e w' h => ⟨h.1, below_eq h.2⟩) (fun w41 h41 => ?_); refine Zv ?_; have yP : w41.cell? ⟨kP, 4, none⟩ = some (fnV b ti 107) := cell_of_row w41 kP 4 _ 174 _ (keep XP51 h41)
     iterate 2
      with_reducible refine wl_on (by kernel_rfl) ?_ ?_ ?_
      rotate_left
      ·go_simp; try with_reducible rfl
      refine Zk ?_
     with_reducible refine wl_con (by kernel_rfl) 107 #[sdV b ti] ?_ (hem w41 h41) (fun w42 h42a => ?_)
     ·first | (go_simp; done) | (go_simp; rfl)
     refine Zk ?_; have h42 := h41.trans (h42a.mono h41.size)
     with_reducible refine wl_on (by kernel_rfl) ?_ ?_ ?_
     rotate_left
     ·go_simp; try with_reducible rfl
     refine Zk ?_
     iterate 2 refine Zv ?_
     have y11 : w42.cell? ⟨kR, 10, none⟩ = some (.int .i64 I.op) := (hR51.below h42).cell rfl
     iterate 7
      with_reducible refine wl_on (by kernel_rfl) ?_ ?_ ?_
      rotate_left
      ·go_simp; try with_reducible rfl
      refine Zk ?_
     iterate 4
      with_reducible refine wl_off (by kernel_rfl) ?_
      refine Zk ?_
     with_reducible refine wl_on (by kernel_rfl) ?_ ?_ ?_
     rotate_left
     ·go_simp; try with_reducible rfl
     refine Zk ?_; refine Zv ?_; go_wp2; go_meet
     case rel => exact ⟨congrArg Value.bool hsv.symm, h42⟩
    | false =>
     have hsv : sb = true := by
      rw [hsb.out]; unfold stallP; rw [decide_eq_true_iff]; exact .inl ⟨hd.out.symm, of_decide_eq_false hl0.out.symm⟩
     refine wp_region_lit ?_
     iterate 5 refine Zv ?_
     refine Zq 100 #[.int .i64 I.op] (hdr.mono fun e w' h => ⟨h.1, below_eq h.2⟩) (fun w41 h41 => ?_); refine Zv ?_; have yP : w41.cell? ⟨kP, 4, none⟩ = some (fnV b ti 107) := cell_of_row w41 kP 4 _ 174 _ (keep XP51 h41)
     iterate 2
      with_reducible refine wl_on (by kernel_rfl) ?_ ?_ ?_
      rotate_left
      ·go_simp; try with_reducible rfl
      refine Zk ?_
     with_reducible refine wl_con (by kernel_rfl) 107 #[sdV b ti] ?_ (hem w41 h41) (fun w42 h42a => ?_)
     ·first | (go_simp; done) | (go_simp; rfl)
     refine Zk ?_; have h42 := h41.trans (h42a.mono h41.size)
     with_reducible refine wl_on (by kernel_rfl) ?_ ?_ ?_
     rotate_left
     ·go_simp; try with_reducible rfl
     refine Zk ?_
     iterate 2 refine Zv ?_
     iterate 12
      with_reducible refine wl_off (by kernel_rfl) ?_
      refine Zk ?_
     refine Zv ?_; go_wp2; go_meet
     case rel => exact ⟨congrArg Value.bool hsv.symm, h42⟩
   | false =>
    by_cases c17 : I.op = 17
    ·have h17 : (I.op == 17) = true := by rw [beq_iff_eq]; exact c17
     obtain ⟨fl, hfl⟩ : ∃ q, Hid (q = fullB M ti) := ⟨_, rfl⟩; have hrm := fun (w' : World) (h : Below w5'.heap.size w5' w') => sideRoomT (hR51.m.below h) hok hi; rw [← hfl.out] at hrm; clear hem; have hc17 : Hid (I.op = 17) := c17; clear c17
     cases fl with
     | true =>
      have hsv : sb = true := by
       rw [hsb.out]; unfold stallP; rw [decide_eq_true_iff]; exact .inr ⟨hc17.out, hfl.out.symm⟩
      refine wp_region_lit ?_
      iterate 5 refine Zv ?_
      refine Zq 100 #[.int .i64 I.op] (hdr.mono fun e w' h => ⟨h.1, below_eq h.2⟩) (fun w41 h41 => ?_); refine Zv ?_
      iterate 4
       with_reducible refine wl_off (by kernel_rfl) ?_
       refine Zk ?_
      iterate 2 refine Zv ?_
      have y11 : w41.cell? ⟨kR, 10, none⟩ = some (.int .i64 I.op) := (hR51.below h41).cell rfl
      iterate 7
       with_reducible refine wl_on (by kernel_rfl) ?_ ?_ ?_
       rotate_left
       ·go_simp; try with_reducible rfl
       refine Zk ?_
      have yP2 : w41.cell? ⟨kP, 2, none⟩ = some (fnV b ti 105) := cell_of_row w41 kP 2 _ 174 _ (keep XP51 h41)
      iterate 2
       with_reducible refine wl_on (by kernel_rfl) ?_ ?_ ?_
       rotate_left
       ·go_simp; try with_reducible rfl
       refine Zk ?_
      with_reducible refine wl_con (by kernel_rfl) 105 #[sdV b ti] ?_ (hrm w41 h41) (fun w43 h43a => ?_)
      ·first | (go_simp; done) | (go_simp; rfl)
      refine Zk ?_; have h43 := h41.trans (h43a.mono h41.size)
      with_reducible refine wl_on (by kernel_rfl) ?_ ?_ ?_
      rotate_left
      ·go_simp; try with_reducible rfl
      refine Zk ?_
      with_reducible refine wl_on (by kernel_rfl) ?_ ?_ ?_
      rotate_left
      ·go_simp; try with_reducible rfl
      refine Zk ?_; refine Zv ?_; go_wp2; go_meet
      case rel => exact ⟨congrArg Value.bool hsv.symm, h43⟩
     | false =>
      have hsv : sb = false := by
       rw [hsb.out]; unfold stallP; rw [decide_eq_false_iff_not]; exact fun h => h.elim (fun h => by have := hd.out; rw [h.1] at this; cases this) (fun h => by have := hfl.out; rw [h.2] at this; cases this)
      refine wp_region_lit ?_
      iterate 5 refine Zv ?_
      refine Zq 100 #[.int .i64 I.op] (hdr.mono fun e w' h => ⟨h.1, below_eq h.2⟩) (fun w41 h41 => ?_); refine Zv ?_
      iterate 4
       with_reducible refine wl_off (by kernel_rfl) ?_
       refine Zk ?_
      iterate 2 refine Zv ?_
      have y11 : w41.cell? ⟨kR, 10, none⟩ = some (.int .i64 I.op) := (hR51.below h41).cell rfl
      iterate 7
       with_reducible refine wl_on (by kernel_rfl) ?_ ?_ ?_
       rotate_left
       ·go_simp; try with_reducible rfl
       refine Zk ?_
      have yP2 : w41.cell? ⟨kP, 2, none⟩ = some (fnV b ti 105) := cell_of_row w41 kP 2 _ 174 _ (keep XP51 h41)
      iterate 2
       with_reducible refine wl_on (by kernel_rfl) ?_ ?_ ?_
       rotate_left
       ·go_simp; try with_reducible rfl
       refine Zk ?_
      with_reducible refine wl_con (by kernel_rfl) 105 #[sdV b ti] ?_ (hrm w41 h41) (fun w43 h43a => ?_)
      ·first | (go_simp; done) | (go_simp; rfl)
      refine Zk ?_; have h43 := h41.trans (h43a.mono h41.size)
      with_reducible refine wl_on (by kernel_rfl) ?_ ?_ ?_
      rotate_left
      ·go_simp; try with_reducible rfl
      refine Zk ?_
      with_reducible refine wl_on (by kernel_rfl) ?_ ?_ ?_
      rotate_left
      ·go_simp; try with_reducible rfl
      refine Zk ?_; refine Zv ?_; go_wp2; go_meet
      case rel => exact ⟨congrArg Value.bool hsv.symm, h43⟩
    ·have h17 : (I.op == 17) = false := by rw [beq_eq_false_iff_ne]; exact c17
     have hsv : sb = false := by
      rw [hsb.out]; unfold stallP; rw [decide_eq_false_iff_not]; exact fun h => h.elim (fun h => by have := hd.out; rw [h.1] at this; cases this) (fun h => c17 h.1)
     refine wp_region_lit ?_
     iterate 5 refine Zv ?_
     refine Zq 100 #[.int .i64 I.op] (hdr.mono fun e w' h => ⟨h.1, below_eq h.2⟩) (fun w41 h41 => ?_); refine Zv ?_
     iterate 4
      with_reducible refine wl_off (by kernel_rfl) ?_
      refine Zk ?_
     iterate 2 refine Zv ?_
     have y11 : w41.cell? ⟨kR, 10, none⟩ = some (.int .i64 I.op) := (hR51.below h41).cell rfl
     iterate 7
      with_reducible refine wl_on (by kernel_rfl) ?_ ?_ ?_
      rotate_left
      ·go_simp; try with_reducible rfl
      refine Zk ?_
     iterate 4
      with_reducible refine wl_off (by kernel_rfl) ?_
      refine Zk ?_
     with_reducible refine wl_on (by kernel_rfl) ?_ ?_ ?_
     rotate_left
     ·go_simp; try with_reducible rfl
     refine Zk ?_; refine Zv ?_; go_wp2; go_meet
     case rel => exact ⟨congrArg Value.bool hsv.symm, h41⟩
  case rest =>
   obtain ⟨rfl, h6⟩ := hcut; have hR6 := hR51.below h6; have hB6 := hB51.trans (h6.mono hB51.size); have X6 := keep X51 h6; have XT6 := keep XT51 h6; have XP6 := keep XP51 h6; have hX1 := blk_lt X6; clear h6 hR51 hB51 X51 XT51 XP51
   cases sb with
   | true =>
    rw [ins_stall hsb.out] at hX; have yP5 : wc.cell? ⟨kP, 5, none⟩ = some (fnV b ti 60) := cell_of_row wc kP 5 _ 174 _ XP6; go_upto_region 15 with (fail); refine wp_region_lit ?_
    iterate 2 refine Zv ?_
    refine wl_mc rfl hR6 60 #[sdV b ti] ?_ (sideFlush hR6.m hok hi hs') (fun F7 w7 hR7 hU7 => ?_)
    ·first | (go_simp; done) | (go_simp; rfl)
    refine Zk ?_; have X7 := hU7.kept X6 hn; have XT7 := hU7.kept XT6 hnT; go_upto_region 16 with (fail); refine wp_region_lit ?_; refine Zd 153 XT7 Tryz.underlying153 ?_; refine wl_store rfl 153 (.tmp 6) (.tmp 101) rfl kX (thrL T).toArray rfl rfl 153 _ X7 (by kernel_rfl) rfl (by simp [Value.oneCell', thrL]) (fun w90 g1 g2 g3 g4 => ?_); refine Zk ?_; go_wp2; refine ret_c1 rfl rfl g1 rfl Tryz.underlying153 (by kernel_rfl) rfl ?_; rw [hX.out]; exact ⟨rfl, stepEnd hB6 hkR hkX hU7 hR7 hn hX1 X7 g2 g3⟩
   | false =>
    rw [ins_go hsb.out] at hX; have y10 : wc.cell? ⟨kR, 10, none⟩ = some (.int .i64 I.op) := hR6.cell rfl; have hop := asks_op ham.out.symm
    have h0 : (I.op == 0) = false := by rw [beq_eq_false_iff_ne]; omega
    have hj : jumpB I.op = false := by unfold jumpB; rw [decide_eq_false_iff_not]; omega
    rw [if_neg (by omega), if_neg (by rw [hj]; decide), if_pos ham.out.symm] at hX; have hjm := jumpsC I.op wc (hW.below hB6); rw [hj] at hjm; go_upto_region 20 with (fail); refine wp_region_lit ?_
    iterate 5 refine Zv ?_
    refine Zq 94 #[.int .i64 I.op] (hjm.mono fun e w' h => ⟨h.1, below_eq h.2⟩) (fun w61 h61 => ?_); refine Zv ?_; have hak := asksC I.op w61 (hW.below (hB6.trans (h61.mono hB6.size))); rw [← ham.out] at hak; have y11 : w61.cell? ⟨kR, 10, none⟩ = some (.int .i64 I.op) := (hR6.below h61).cell rfl; go_upto_region 24 with (fail); refine wp_region_lit ?_
    iterate 5 refine Zv ?_
    refine Zq 98 #[.int .i64 I.op] (hak.mono fun e w' h => ⟨h.1, below_eq h.2⟩) (fun w62 h62a => ?_); refine Zv ?_; have h62 := h61.trans (h62a.mono h61.size); clear y11 y10 hak hjm; go_upto_region 25 with (fail); refine wp_region_lit ?_; refine Zv ?_; refine wl_rm rfl 102 #[.pointer (some ⟨kR, 0, none⟩)] ?_ (doAsks (hR6.below h62) hok hi hA a ha h8 hs' hl hT (go_full hsb.out) (fun _ => ⟨c2, hc2, c8⟩) hop) (fun F8 w8 hR8 hU8a => ?_)
    ·first | (go_simp; done) | (go_simp; rfl)
    refine Zk ?_; have hU8 := (Upd.of_below (F := Or1 F kR) h62).trans hU8a; have X8 := hU8.kept X6 hn
    have hpc : Hid ((asksF M ti T I an).2.pc = pn) := by
     show _ = _; rw [asks_pc]; exact hpn'.out
    have hXn : Hid (X = ((asksF M ti T I an).1, { (asksF M ti T I an).2 with pc := (pn : Int) + 1 })) := by
     show _ = _; rw [← hpc.out]; exact hX.out
    clear hX; have hX := hXn; clear hXn; have y0 : w8.cell? ⟨kR, 0, none⟩ = some (.int .i64 (pn : Nat)) := hR8.cell (by show some (Value.int .i64 ((asksF M ti T I an).2).pc) = _; rw [hpc.out]); go_upto_region 26 with (fail); refine wp_region_lit ?_
    iterate 5 refine Zv ?_
    refine wl_val rfl (.int .i64 ((pn : Int) + 1)) ?_ ?_
    ·go_simp; try (rw [IntKind.wrap_i64]; omega)
    refine Zk ?_
    iterate 3 refine Zv ?_
    refine wl_stv rfl 3 (fun w => by kernel_rfl) (.tmp 153) (.tmp 150) rfl kR 0 (.int .i64 ((pn : Int) + 1)) rfl (st_i64 _) _ 192 rfl rfl hR8.r (by show 0 < 27; decide) (fun w9 p1 p2 p3 => ?_); refine Zk ?_; obtain ⟨hR9, hU9⟩ := hR8.put p1 (runC_pc ((pn : Int) + 1)) p2 p3; have X9 := (p2 kX (fun e => hn (.inr e))).trans X8; clear p1 p2 p3; obtain ⟨T9, hT9⟩ : ∃ q, Hid (q = ({ (asksF M ti T I an).2 with pc := (pn : Int) + 1 } : Th)) := ⟨_, rfl⟩; rw [← hT9.out] at hR9 hX; go_upto_region 27 with (fail); refine wp_region_lit ?_
    iterate 3 refine Zv ?_
    refine wl_at rfl (.agg (thrL T9).toArray) (run_ldm 153 (.tmp 156) rfl kR 0 rfl (thrL T9) _ hR9.th Tryz.underlying153 rfl (by kernel_rfl)) ?_; refine Zk ?_; refine wl_store rfl 153 (.tmp 6) (.tmp 157) rfl kX (thrL T9).toArray rfl rfl 153 _ X9 (by kernel_rfl) rfl (by simp [Value.oneCell', thrL]) (fun w90 g1 g2 g3 g4 => ?_); refine Zk ?_; go_wp2; refine ret_c1 rfl rfl g1 rfl Tryz.underlying153 (by kernel_rfl) rfl ?_; rw [hX.out]; exact ⟨rfl, stepEnd hB6 hkR hkX (hU8.trans hU9) hR9 hn hX1 X9 g2 g3⟩
end Go.Proofs.YtbcgngfbbbfebaaGreatDoor
