/- The code of biased locks. A client in memory: lists of objects, of numbers, of ops; the client's value. Which op may be: the program's answer. -/
import Derived.Test.YtbcgngfbbbfebaaGreatDoorM15
import Derived.Test.YtbcgngfbbbfebaaGreatDoorM10
namespace Go.Proofs.YtbcgngfbbbfebaaGreatDoor
open Go.RowKit Go.Maps
set_option maxRecDepth 100000
set_option maxHeartbeats 32000000
set_option linter.unusedVariables false
set_option linter.unusedSimpArgs false
attribute [local simp] sz_alu sz_ask sz_beginS sz_biasedS sz_cas sz_changeS sz_claimS sz_clhInS sz_clhOutS sz_closeS sz_cond5S sz_cond6S sz_cond7S sz_cond8S sz_doutS sz_downS sz_emit sz_enterS sz_farS sz_finS sz_gdoneS sz_gmoreS sz_go sz_gwakeS sz_leaveS sz_mcsInS sz_mcsOutS sz_meetS sz_minS sz_mineS sz_moutS sz_mwakeS sz_otherS sz_passS sz_pinS sz_place sz_proveS sz_rclaimS sz_rhasS sz_rreadS sz_rrelS sz_rsleepS sz_rwriteS sz_set sz_sinS sz_smoreS sz_takeS sz_tasS sz_ticketS sz_ttasS sz_upS sz_zero sz_zeroS
def tabB (k j : Nat) : Bool := decide (k = 9 ∧ 1 ≤ j ∧ j ≤ 4) || decide (k = 12 ∧ 5 ≤ j ∧ j ≤ 8) || decide (k = 13 ∧ j = 9) || decide (k = 14 ∧ 1 ≤ j ∧ j ≤ 3) || decide (k = 15 ∧ (j = 9 ∨ j = 10)) || decide (((1 ≤ k ∧ k ≤ 8) ∨ k = 10 ∨ k = 11) ∧ (j = 1 ∨ j = 2))
theorem calls_tab : ∀ k, k < 16 → (callsN k).all (tabB k) = true := by decide +kernel
theorem may_tab {k b : Int} (h : may k b = true) : (k = 9 ∧ 1 ≤ b ∧ b ≤ 4) ∨ (k = 12 ∧ 5 ≤ b ∧ b ≤ 8) ∨ (k = 13 ∧ b = 9) ∨ (k = 14 ∧ 1 ≤ b ∧ b ≤ 3) ∨ (k = 15 ∧ (b = 9 ∨ b = 10)) ∨ (((1 ≤ k ∧ k ≤ 8) ∨ k = 10 ∨ k = 11) ∧ (b = 1 ∨ b = 2)) := by
 unfold may at h; rw [List.any_eq_true] at h; obtain ⟨j, hj, e⟩ := h
 have e' : (j : Int) = b := by simpa using e
 have hk : 1 ≤ k ∧ k ≤ 15 := by
  by_cases hk : 1 ≤ k ∧ k ≤ 15
  ·exact hk
  ·unfold kdN at hj; rw [if_neg hk] at hj; cases hj
 have ek : kdN k = k.toNat := if_pos hk; have ht := List.all_eq_true.1 (calls_tab _ (kdN_lt k)) j hj; unfold tabB at ht; simp only [Bool.or_eq_true, decide_eq_true_eq] at ht; rw [ek] at ht; omega
theorem mayS_tt {o : O} {c t u : Int} (h : mayS o c t u = true) : may o.k c = true ∧ (0 ≤ u ∧ u < t) ∧ RP o t := by
 unfold mayS at h
 split at h
 ·rename_i hh
  exact ⟨h, ⟨hh.1, hh.2.1⟩, of_decide_eq_true hh.2.2⟩
 ·cases h
def biasF (o : O) (call th t base arg : Int) : List Ins × Bool :=
 if o.k = 8 then (if mayS o call th t = true then (if call = 1 then (if t = o.a then (closeS (biasedS (claimS BS.zero ((base + 3) % 4294967296) t) base)).fin else (closeS (otherS (claimS BS.zero ((base + 3) % 4294967296) t) base)).fin) else (if t = o.a then (closeS (leaveS (proveS BS.zero ((base + 3) % 4294967296) t) base)).fin else (closeS (zeroS (zeroS (proveS BS.zero ((base + 3) % 4294967296) t) ((base + 3) % 4294967296)) ((base + 2) % 4294967296))).fin)) else ([], false)) else (([], false))
theorem biasF_n {o : O} {call th t base arg : Int} (h : o.k ≠ 8) : biasF o call th t base arg = ([], false) := by unfold biasF; rw [if_neg (show ¬ o.k = 8 by omega)]
theorem biasF_f {o : O} {call th t base arg : Int} (h : mayS o call th t = false) : biasF o call th t base arg = ([], false) := by
 unfold biasF; rw [h]; simp only [Bool.false_eq_true, if_false, ite_self]
theorem biasF_0 {o : O} {call th t base arg : Int} (k : o.k = 8) (h : mayS o call th t = true) (c0 : (call = 1)) (c1 : (t = o.a)) : biasF o call th t base arg = (closeS (biasedS (claimS BS.zero ((base + 3) % 4294967296) t) base)).fin := by unfold biasF; rw [if_pos k, if_pos h, if_pos c0, if_pos c1]
theorem biasF_1 {o : O} {call th t base arg : Int} (k : o.k = 8) (h : mayS o call th t = true) (c0 : (call = 1)) (c1 : ¬ (t = o.a)) : biasF o call th t base arg = (closeS (otherS (claimS BS.zero ((base + 3) % 4294967296) t) base)).fin := by unfold biasF; rw [if_pos k, if_pos h, if_pos c0, if_neg c1]
theorem biasF_2 {o : O} {call th t base arg : Int} (k : o.k = 8) (h : mayS o call th t = true) (c0 : ¬ (call = 1)) (c1 : (t = o.a)) : biasF o call th t base arg = (closeS (leaveS (proveS BS.zero ((base + 3) % 4294967296) t) base)).fin := by unfold biasF; rw [if_pos k, if_pos h, if_neg c0, if_pos c1]
theorem biasF_3 {o : O} {call th t base arg : Int} (k : o.k = 8) (h : mayS o call th t = true) (c0 : ¬ (call = 1)) (c1 : ¬ (t = o.a)) : biasF o call th t base arg = (closeS (zeroS (zeroS (proveS BS.zero ((base + 3) % 4294967296) t) ((base + 3) % 4294967296)) ((base + 2) % 4294967296))).fin := by unfold biasF; rw [if_pos k, if_pos h, if_neg c0, if_neg c1]
theorem biasCode (o : O) (call th t base arg : Int) (w : World) (hN : NmW w) (hI : IsaW w) : Calls Tryz.prog 89 #[ov o, .int .i64 call, .int .i64 th, .int .i64 t, .int .u32 base, .int .u32 arg] w fun e w' => CodeR w w' (biasF o call th t base arg) e ∧ Below w.heap.size w w' := by
 obtain ⟨R, hR⟩ : ∃ R, Hid (R = biasF o call th t base arg) := ⟨_, rfl⟩; rw [← hR.out]; have hM := fun w' (hb : Below w.heap.size w w') => spinMay o call th t w' (hN.below hb); have hRP := fun h => (mayS_tt (o := o) (c := call) (t := th) (u := t) h); obtain ⟨mb, hmb⟩ : ∃ q, Hid (q = mayS o call th t) := ⟨_, rfl⟩; rw [← hmb.out] at hM hRP; obtain ⟨ok, on, oa, ob⟩ := o; unfold ov at hM ⊢; simp only at hRP; go_enter Tryz.func89, Tryz.ntmps89; go_upto_region 1 with (fail); obtain ⟨W, kB, e0, e1, XK, hal0⟩ := box1 w #[.int .i64 ok, .int .i64 on, .int .i64 oa, .int .i64 ob] 38; rw [e0, e1]; have hkw : w.heap.size ≤ kB := Nat.le_of_eq e1; clear e0 e1; obtain ⟨y0, y1, y2, y3⟩ := cl4 XK
 by_cases k8 : ok = 8
 ·subst k8
  go_wp2_with fail; refine (hM W hal0).mono ?_; rintro e w1 ⟨rfl, hb1⟩; clear y0 y1 y2 y3 hM; replace XK := keep XK hb1; replace hal0 := hal0.trans (hb1.mono hal0.size); clear hb1; obtain ⟨y0, y1, y2, y3⟩ := cl4 XK; cases mb
  ·obtain rfl : R = ([], false) := hR.out.trans (biasF_f hmb.out.symm)
   clear hR hmb; go_wp2; go_ret2; exact ⟨CodeR.no, hal0⟩
  go_upto_region 7 with (fail); obtain ⟨w2, bb, e0, e1, XB, hb2⟩ := box1 w1 #[.slice none 0 0, .map none, .slice none 0 0, .bool false] 202; rw [e0, e1]; have hbb' : w1.heap.size = bb := e1; clear e0 e1 y0 y1 y2 y3
  have hbb : w.heap.size ≤ bb := by have := hal0.size; omega
  have hF : ¬ (kB = bb) := by have := blk_lt XK; omega
  replace XK := keep XK hb2; have hB := zero_mem XB; have hU : Upd (fun k => k = bb) (fun k => k = bb) w2 w2 := Upd.refl _ _; replace hal0 := hal0.trans (hb2.mono hal0.size); have hws : w.heap.size ≤ w2.heap.size := hal0.size; have hkl : kB < w2.heap.size := blk_lt XK; clear hb2 XB hbb'; obtain ⟨y0, y1, y2, y3⟩ := cl4 XK
  obtain ⟨hmay, hwho, hrp⟩ := hRP (by first | rfl | trivial)
  have htab := may_tab hmay
  try simp only at htab
  by_cases c1 : call = 1
  ·subst c1
   by_cases ta : t = oa
   ·have qa : (t == oa) = true := by simp [ta]
    replace hR : Hid (R = (closeS (biasedS (claimS BS.zero ((base + 3) % 4294967296) t) base)).fin) := hR.out.trans (biasF_0 rfl hmb.out.symm rfl ta); clear hmb; clear hRP ta; go_wp2_with fail
    refine (Z1 XK hF hkl hU (claimC hB (by simp <;> omega))).mono ?_
    clear y0 y1 y2 y3; rintro e wd ⟨rfl, F', hB, XK, hF, hkl, hU⟩; obtain ⟨y0, y1, y2, y3⟩ := cl4 XK; go_wp2_with fail
    refine (Z1 XK hF hkl hU (biasedC hB (by simp <;> omega))).mono ?_
    clear y0 y1 y2 y3; rintro e wd ⟨rfl, F', hB, XK, hF, hkl, hU⟩; obtain ⟨y0, y1, y2, y3⟩ := cl4 XK; go_wp2_with fail
    refine (Z1 XK hF hkl hU (closeC hB (by simp <;> omega))).mono ?_
    clear y0 y1 y2 y3; rintro e wd ⟨rfl, F', hB, XK, hF, hkl, hU⟩; obtain ⟨y0, y1, y2, y3⟩ := cl4 XK; have hal := hal0.trans (hU.low _ (fun k e => by rw [e]; exact hbb) hws)
    have hcb := codeB hB ((ok_closeS (ok_biasedS (ok_claimS ok_zero)))).1 (by simp <;> omega) ((ok_closeS (ok_biasedS (ok_claimS ok_zero)))).2 (hI.below hal)
    rw [← hR.out] at hcb; clear hR; go_wp2_with fail; refine hcb.mono ?_; rintro e w' ⟨⟨v, rfl, hv1, hv2⟩, hb'⟩; go_wp2; go_ret2; exact fin1 hal hv1 hv2 hb'
   ·have qa : (t == oa) = false := by simp [ta]
    replace hR : Hid (R = (closeS (otherS (claimS BS.zero ((base + 3) % 4294967296) t) base)).fin) := hR.out.trans (biasF_1 rfl hmb.out.symm rfl ta); clear hmb; clear hRP ta; go_wp2_with fail
    refine (Z1 XK hF hkl hU (claimC hB (by simp <;> omega))).mono ?_
    clear y0 y1 y2 y3; rintro e wd ⟨rfl, F', hB, XK, hF, hkl, hU⟩; obtain ⟨y0, y1, y2, y3⟩ := cl4 XK; go_wp2_with fail
    refine (Z1 XK hF hkl hU (otherC hB (by simp <;> omega))).mono ?_
    clear y0 y1 y2 y3; rintro e wd ⟨rfl, F', hB, XK, hF, hkl, hU⟩; obtain ⟨y0, y1, y2, y3⟩ := cl4 XK; go_wp2_with fail
    refine (Z1 XK hF hkl hU (closeC hB (by simp <;> omega))).mono ?_
    clear y0 y1 y2 y3; rintro e wd ⟨rfl, F', hB, XK, hF, hkl, hU⟩; obtain ⟨y0, y1, y2, y3⟩ := cl4 XK; have hal := hal0.trans (hU.low _ (fun k e => by rw [e]; exact hbb) hws)
    have hcb := codeB hB ((ok_closeS (ok_otherS (ok_claimS ok_zero)))).1 (by simp <;> omega) ((ok_closeS (ok_otherS (ok_claimS ok_zero)))).2 (hI.below hal)
    rw [← hR.out] at hcb; clear hR; go_wp2_with fail; refine hcb.mono ?_; rintro e w' ⟨⟨v, rfl, hv1, hv2⟩, hb'⟩; go_wp2; go_ret2; exact fin1 hal hv1 hv2 hb'
  ·have q1 : (call == 1) = false := by simp [c1]
   by_cases ta : t = oa
   ·have qa : (t == oa) = true := by simp [ta]
    replace hR : Hid (R = (closeS (leaveS (proveS BS.zero ((base + 3) % 4294967296) t) base)).fin) := hR.out.trans (biasF_2 rfl hmb.out.symm c1 ta); clear hmb; clear hRP c1 ta; go_wp2_with fail
    refine (Z1 XK hF hkl hU (proveC hB (by simp <;> omega))).mono ?_
    clear y0 y1 y2 y3; rintro e wd ⟨rfl, F', hB, XK, hF, hkl, hU⟩; obtain ⟨y0, y1, y2, y3⟩ := cl4 XK; go_wp2_with fail
    refine (Z1 XK hF hkl hU (leaveC hB (by simp <;> omega))).mono ?_
    clear y0 y1 y2 y3; rintro e wd ⟨rfl, F', hB, XK, hF, hkl, hU⟩; obtain ⟨y0, y1, y2, y3⟩ := cl4 XK; go_wp2_with fail
    refine (Z1 XK hF hkl hU (closeC hB (by simp <;> omega))).mono ?_
    clear y0 y1 y2 y3; rintro e wd ⟨rfl, F', hB, XK, hF, hkl, hU⟩; obtain ⟨y0, y1, y2, y3⟩ := cl4 XK; have hal := hal0.trans (hU.low _ (fun k e => by rw [e]; exact hbb) hws)
    have hcb := codeB hB ((ok_closeS (ok_leaveS (ok_proveS ok_zero)))).1 (by simp <;> omega) ((ok_closeS (ok_leaveS (ok_proveS ok_zero)))).2 (hI.below hal)
    rw [← hR.out] at hcb; clear hR; go_wp2_with fail; refine hcb.mono ?_; rintro e w' ⟨⟨v, rfl, hv1, hv2⟩, hb'⟩; go_wp2; go_ret2; exact fin1 hal hv1 hv2 hb'
   ·have qa : (t == oa) = false := by simp [ta]
    replace hR : Hid (R = (closeS (zeroS (zeroS (proveS BS.zero ((base + 3) % 4294967296) t) ((base + 3) % 4294967296)) ((base + 2) % 4294967296))).fin) := hR.out.trans (biasF_3 rfl hmb.out.symm c1 ta); clear hmb; clear hRP c1 ta; go_wp2_with fail
    refine (Z1 XK hF hkl hU (proveC hB (by simp <;> omega))).mono ?_
    clear y0 y1 y2 y3; rintro e wd ⟨rfl, F', hB, XK, hF, hkl, hU⟩; obtain ⟨y0, y1, y2, y3⟩ := cl4 XK; go_wp2_with fail
    refine (Z1 XK hF hkl hU (zeroC hB (by simp <;> omega))).mono ?_
    clear y0 y1 y2 y3; rintro e wd ⟨rfl, F', hB, XK, hF, hkl, hU⟩; obtain ⟨y0, y1, y2, y3⟩ := cl4 XK; go_wp2_with fail
    refine (Z1 XK hF hkl hU (zeroC hB (by simp <;> omega))).mono ?_
    clear y0 y1 y2 y3; rintro e wd ⟨rfl, F', hB, XK, hF, hkl, hU⟩; obtain ⟨y0, y1, y2, y3⟩ := cl4 XK; go_wp2_with fail
    refine (Z1 XK hF hkl hU (closeC hB (by simp <;> omega))).mono ?_
    clear y0 y1 y2 y3; rintro e wd ⟨rfl, F', hB, XK, hF, hkl, hU⟩; obtain ⟨y0, y1, y2, y3⟩ := cl4 XK; have hal := hal0.trans (hU.low _ (fun k e => by rw [e]; exact hbb) hws)
    have hcb := codeB hB ((ok_closeS (ok_zeroS (ok_zeroS (ok_proveS ok_zero))))).1 (by simp <;> omega) ((ok_closeS (ok_zeroS (ok_zeroS (ok_proveS ok_zero))))).2 (hI.below hal)
    rw [← hR.out] at hcb; clear hR; go_wp2_with fail; refine hcb.mono ?_; rintro e w' ⟨⟨v, rfl, hv1, hv2⟩, hb'⟩; go_wp2; go_ret2; exact fin1 hal hv1 hv2 hb'
 ·have q8 : (ok != 8) = true := by simp [k8]
  obtain rfl : R = ([], false) := hR.out.trans (biasF_n k8); clear hR hmb k8; go_wp2; go_ret2; exact ⟨CodeR.no, hal0⟩
end Go.Proofs.YtbcgngfbbbfebaaGreatDoor
namespace Go.Proofs.YtbcgngfbbbfebaaGreatDoor
open Go.RowKit
set_option maxRecDepth 100000
set_option maxHeartbeats 32000000
set_option linter.unusedVariables false
set_option linter.unusedSimpArgs false
section
variable {ops : Array Oper} {Q : Exit → Act → World → Prop}
end
section
variable {ops : Array Oper} {Q : Exit → Act → World → Prop}
end
section
variable {ops : Array Oper} {Q : Exit → Act → World → Prop}
end
structure X where
 k : Int
 a : Int
 b : Int
 K : Int
def xv (x : X) : Value := .agg #[.int .i64 x.k, .int .i64 x.a, .int .i64 x.b, .int .u32 x.K]
def Ops (w : World) (A : Option Addr) (n : Nat) (f : Nat → X) : Prop :=
 0 < n → ∃ b off, A = some ⟨b, off, none⟩ ∧ b < w.heap.size ∧ ∀ i, i < n → w.cell? ⟨b, off + i * 4, none⟩ = some (.int .i64 (f i).k) ∧ w.cell? ⟨b, off + i * 4 + 1, none⟩ = some (.int .i64 (f i).a) ∧ w.cell? ⟨b, off + i * 4 + 2, none⟩ = some (.int .i64 (f i).b) ∧ w.cell? ⟨b, off + i * 4 + 3, none⟩ = some (.int .u32 (f i).K)
theorem Ops.below {w w' : World} {A : Option Addr} {n : Nat} {f : Nat → X} (h : Ops w A n f) (hb : Below w.heap.size w w') : Ops w' A n f := fun hn => by
 obtain ⟨b, off, e, hlt, hc⟩ := h hn; refine ⟨b, off, e, Nat.lt_of_lt_of_le hlt hb.size, fun i hi => ?_⟩; rw [hb.cell (p := ⟨b, off + i * 4, none⟩) hlt, hb.cell (p := ⟨b, off + i * 4 + 1, none⟩) hlt, hb.cell (p := ⟨b, off + i * 4 + 2, none⟩) hlt, hb.cell (p := ⟨b, off + i * 4 + 3, none⟩) hlt]; exact hc i hi
theorem ops_ptr {w : World} {A : Option Addr} {n : Nat} {f : Nat → X} (h : Ops w A n f) (hn : 0 < n) : ∃ b off, A = some ⟨b, off, none⟩ := by
 obtain ⟨b, off, e, _⟩ := h hn; exact ⟨b, off, e⟩
theorem at_op {w : World} {b off n : Nat} {f : Nat → X} {i : Nat} (h : Ops w (some ⟨b, off, none⟩) n f) (hi : i < n) :
  w.cell? ⟨b, off + i * 4, none⟩ = some (.int .i64 (f i).k) ∧ w.cell? ⟨b, off + i * 4 + 1, none⟩ = some (.int .i64 (f i).a) ∧ w.cell? ⟨b, off + i * 4 + 2, none⟩ = some (.int .i64 (f i).b) ∧ w.cell? ⟨b, off + i * 4 + 3, none⟩ = some (.int .u32 (f i).K) := by
 obtain ⟨b', off', e, hlt, hc⟩ := h (by omega); cases e; exact hc i hi
theorem run_ldop {o : Oper} {a : Act} {w w0 : World} {n : Nat} {f : Nat → X} (y : Operand) (ho : o.op = .load 40 y) (b off i : Nat) (hA0 : Ops w0 (some ⟨b, off, none⟩) n f) (hb : Below w0.heap.size w0 w) (hi : i < n) (hx : a.eval y = .pointer (some ⟨b, off + i * 4, none⟩)) : (execOp a.eval o).run Tryz.prog w = .ok (.value (xv (f i))) w := by
 obtain ⟨h0, h1, h2, h3⟩ := at_op (hA0.below hb) hi
 have hl : (loadCells ⟨b, off + i * 4, none⟩ 4).run Tryz.prog w = .ok #[.int .i64 (f i).k, .int .i64 (f i).a, .int .i64 (f i).b, .int .u32 (f i).K] w := by
  have := run_loadCells_list (P := Tryz.prog) w ⟨b, off + i * 4, none⟩ [.int .i64 (f i).k, .int .i64 (f i).a, .int .i64 (f i).b, .int .u32 (f i).K] (fun j v hv => by
   rw [add_off]
   match j, hv with
   | 0, hv => simp at hv; rw [← hv]; exact h0
   | 1, hv => simp at hv; rw [← hv]; exact h1
   | 2, hv => simp at hv; rw [← hv]; exact h2
   | 3, hv => simp at hv; rw [← hv]; exact h3
   | j + 4, hv => simp at hv)
  exact this
 have e1 := Tryz.isAgg40; have e2 := Tryz.sizeOf40; unfold execOp; simp only [ho, hx, Instr.loadAt, Instr.sureAddr, Sem.run_bind, Sem.run_pure, Result.andThen_ok]; unfold loadVar; simp only [Sem.run_bind, e1, e2, Result.andThen_ok, if_true, hl, Sem.run_pure]; rfl
theorem obj_at {w : World} {b off n : Nat} {f : Nat → O} {i : Nat} (h : Objs w (some ⟨b, off, none⟩) n f) (hi : i < n) :
  w.cell? ⟨b, off + i * 4, none⟩ = some (.int .i64 (f i).k) ∧ w.cell? ⟨b, off + i * 4 + 1, none⟩ = some (.int .i64 (f i).n) ∧ w.cell? ⟨b, off + i * 4 + 2, none⟩ = some (.int .i64 (f i).a) ∧ w.cell? ⟨b, off + i * 4 + 3, none⟩ = some (.int .i64 (f i).b) := by
 obtain ⟨b', off', e, hlt, hc⟩ := h (by omega); cases e; exact hc i hi
def Thr (w : World) (A : Option Addr) (n : Nat) (tp : Nat → Option Addr) (len tc : Nat → Nat) : Prop :=
 0 < n → ∃ b off, A = some ⟨b, off, none⟩ ∧ b < w.heap.size ∧ ∀ i, i < n → w.cell? ⟨b, off + i, none⟩ = some (.slice (tp i) (len i) (tc i))
theorem Thr.below {w w' : World} {A : Option Addr} {n : Nat} {tp : Nat → Option Addr} {len tc : Nat → Nat} (h : Thr w A n tp len tc) (hb : Below w.heap.size w w') : Thr w' A n tp len tc := fun hn => by
 obtain ⟨b, off, e, hlt, hc⟩ := h hn; exact ⟨b, off, e, Nat.lt_of_lt_of_le hlt hb.size, fun i hi => (hb.cell (p := ⟨b, off + i, none⟩) hlt).trans (hc i hi)⟩
theorem thr_ptr {w : World} {A : Option Addr} {n : Nat} {tp : Nat → Option Addr} {len tc : Nat → Nat} (h : Thr w A n tp len tc) (hn : 0 < n) : ∃ b off, A = some ⟨b, off, none⟩ := by
 obtain ⟨b, off, e, _⟩ := h hn; exact ⟨b, off, e⟩
theorem at_thr {w : World} {b off n : Nat} {tp : Nat → Option Addr} {len tc : Nat → Nat} {i : Nat} (h : Thr w (some ⟨b, off, none⟩) n tp len tc) (hi : i < n) : w.cell? ⟨b, off + i, none⟩ = some (.slice (tp i) (len i) (tc i)) := by
 obtain ⟨b', off', e, hlt, hc⟩ := h (by omega); cases e; exact hc i hi
structure Cl where
 A : Option Addr
 no : Nat
 ca : Nat
 f : Nat → O
 vars : Int
 W : Option Addr
 nw : Nat
 cw : Nat
 own : Nat → Int
 room : Int
 T : Option Addr
 nt : Nat
 ct : Nat
 tp : Nat → Option Addr
 len : Nat → Nat
 tc : Nat → Nat
 op : Nat → Nat → X
def Cl.v (C : Cl) : Value := .agg #[.slice C.A C.no C.ca, .int .i64 C.vars, .slice C.W C.nw C.cw, .int .i64 C.room, .slice C.T C.nt C.ct]
structure MemC (w : World) (C : Cl) : Prop where
 objs : Objs w C.A C.no C.f
 own : IntsF w C.W C.nw C.own
 thr : Thr w C.T C.nt C.tp C.len C.tc
 ops : ∀ t, t < C.nt → Ops w (C.tp t) (C.len t) (C.op t)
 ho : C.no ≤ C.ca
 hw : C.nw ≤ C.cw
 ht : C.nt ≤ C.ct
 hl : ∀ t, t < C.nt → C.len t ≤ C.tc t
 hN : ∀ i, i < C.no → -9223372036854775808 ≤ (C.f i).n ∧ (C.f i).n ≤ 9223372036854775807
 hK : ∀ t i, t < C.nt → i < C.len t → 0 ≤ (C.op t i).K ∧ (C.op t i).K < 4294967296
theorem MemC.below {w w' : World} {C : Cl} (h : MemC w C) (hb : Below w.heap.size w w') : MemC w' C :=
 ⟨h.objs.below hb, h.own.below hb, h.thr.below hb, fun t ht => (h.ops t ht).below hb, h.ho, h.hw, h.ht, h.hl, h.hN, h.hK⟩
end Go.Proofs.YtbcgngfbbbfebaaGreatDoor
namespace Go.Proofs.YtbcgngfbbbfebaaGreatDoor
open Go.RowKit
set_option maxRecDepth 100000
set_option maxHeartbeats 32000000
set_option linter.unusedVariables false
set_option linter.unusedSimpArgs false
theorem withinC (n m : Int) (w : World) : Calls Tryz.prog 73 #[.int .i64 n, .int .i64 m] w fun e w' => e = .returned (.bool (decide (0 ≤ n ∧ n < m))) ∧ w' = w := by
 by_cases h1 : 0 ≤ n
 ·by_cases h2 : n < m
  ·rw [decide_eq_true (⟨h1, h2⟩ : 0 ≤ n ∧ n < m)]
   go_enter Tryz.func73, Tryz.ntmps73; go_wp2; go_ret; exact ⟨rfl, rfl⟩
  ·rw [decide_eq_false (fun h => h2 h.2 : ¬ (0 ≤ n ∧ n < m))]
   go_enter Tryz.func73, Tryz.ntmps73; go_wp2; go_ret; exact ⟨rfl, rfl⟩
 ·rw [decide_eq_false (fun h => h1 h.1 : ¬ (0 ≤ n ∧ n < m))]
  go_enter Tryz.func73, Tryz.ntmps73; go_wp2; go_ret; exact ⟨rfl, rfl⟩
def argB (o : O) (x : X) : Bool := if x.b = 4 then decide (0 < o.n) && decide (x.K < o.n) else o.k == 13 || x.K == 0
def callB (C : Cl) (x : X) : Bool := if 0 ≤ x.a ∧ x.a < C.no then may (C.f x.a.toNat).k x.b && argB (C.f x.a.toNat) x else false
def regB (n : Int) : Bool := decide (0 ≤ n ∧ n < 4)
def rgt (C : Cl) (x : X) : Bool :=
 if x.k = 1 then regB x.a && x.b == 0
 else if x.k = 2 then regB x.a && regB x.b && x.K == 0
 else if x.k = 3 ∨ x.k = 4 then regB x.a && decide (0 ≤ x.b ∧ x.b < C.vars) && x.K == 0
 else if x.k = 5 then regB x.a && x.b == 0 && x.K == 0
 else if x.k = 6 then x.a == 0 && x.b == 0 && x.K == 0
 else if x.k = 7 then callB C x
 else false

theorem clCall (C : Cl) (x : X) (hx : 0 ≤ x.K ∧ x.K < 4294967296) (w : World) (hM : MemC w C) (hN : NmW w) : Calls Tryz.prog 74 #[C.v, xv x] w fun e w' => e = .returned (.bool (callB C x)) ∧ Below w.heap.size w w' := by
 obtain ⟨k, a, b, K⟩ := x
 by_cases hin : 0 ≤ a ∧ a < C.no
 case neg =>
  have hal := ((Below.refl w.heap.size w).alloc (Nat.le_refl _) (.cells #[.slice C.A C.no C.ca, .int .i64 C.vars, .slice C.W C.nw C.cw, .int .i64 C.room, .slice C.T C.nt C.ct] 26)).alloc (by simp) (.cells #[.int .i64 k, .int .i64 a, .int .i64 b, .int .u32 K] 40); rw [show callB C ⟨k, a, b, K⟩ = false from if_neg hin]; unfold Cl.v xv; go_enter Tryz.func74, Tryz.ntmps74; go_wp2_with fail; refine (withinC _ _ _).mono ?_; rintro e w1 ⟨rfl, rfl⟩; rw [decide_eq_false hin]; go_wp2; go_ret; exact ⟨rfl, hal⟩
 rw [show callB C ⟨k, a, b, K⟩ = (may (C.f a.toNat).k b && argB (C.f a.toNat) ⟨k, a, b, K⟩) from if_pos hin]; obtain ⟨i, rfl⟩ : ∃ i : Nat, a = i := ⟨a.toNat, by omega⟩; rw [Int.toNat_natCast]
 have hi : i < C.no := by omega
 have hl0 : (0 : Int) ≤ i := by omega
 have hl1 : (i : Int) < C.no := by omega
 obtain ⟨bA, oA, eA⟩ := objs_ptr hM.objs (by omega); have hA := hM.objs; rw [eA] at hA; have hNi := hM.hN i hi; unfold Cl.v xv; rw [eA]; obtain ⟨res, hres⟩ : ∃ B, Hid ((may (C.f i).k b && argB (C.f i) ⟨k, i, b, K⟩) = B) := ⟨_, rfl⟩; rw [hres.out]; go_enter Tryz.func74, Tryz.ntmps74; go_wp2_with fail; refine (withinC _ _ _).mono ?_; rintro e w1 ⟨rfl, rfl⟩; rw [decide_eq_true hin]; go_upto_region 3 with (fail); obtain ⟨W, b1, b2, e0, e1, e2, X1, X2, hal⟩ := box2 w #[.slice (some ⟨bA, oA, none⟩) C.no C.ca, .int .i64 C.vars, .slice C.W C.nw C.cw, .int .i64 C.room, .slice C.T C.nt C.ct] #[.int .i64 k, .int .i64 i, .int .i64 b, .int .u32 K] 26 40; rw [e0, e2, e1]; clear e0 e2 e1; have y10 := cell_of_row W b1 0 _ 26 _ X1; have y21 := cell_of_row W b2 1 _ 40 _ X2; refine wp_region_lit ?_
 iterate 4 refine Zv ?_
 refine wl_val rfl (.pointer (some ⟨bA, oA + i * 4, none⟩)) ?_ ?_
 ·go_simp
 refine Zk ?_; refine wl_val rfl (ov (C.f i)) (run_ldobj (.tmp 19) rfl bA oA i hA hal hi rfl) ?_; refine Zk ?_; refine wl_alloc rfl 38 rfl (.agg #[.int .i64 0, .int .i64 0, .int .i64 0, .int .i64 0]) #[.int .i64 0, .int .i64 0, .int .i64 0, .int .i64 0] (fun w => by kernel_rfl) rfl (fun w4 b9 X4 l4 f4 => ?_); refine Zk ?_; refine wl_store rfl 38 (.tmp 5) (.tmp 20) rfl b9 #[.int .i64 (C.f i).k, .int .i64 (C.f i).n, .int .i64 (C.f i).a, .int .i64 (C.f i).b] rfl rfl 38 _ X4 (by kernel_rfl) rfl (by simp [Value.oneCell']) (fun w5 g1 g2 g3 g4 => ?_); refine Zk ?_; have hb5 : Below W.heap.size W w5 := l4.trans (g3 _ (by simp only [Hid] at f4; omega)); have X1' := keep X1 hb5; have X2' := keep X2 hb5; have hal5 := hal.trans (hb5.mono hal.size); clear X4 l4 f4 g2 g3 g4 y10 y21 X1 X2; have z0 := cell_of_row w5 b9 0 _ 38 _ g1; go_wp2_with fail; refine (objCalls (C.f i).k w5 (hN.below hal5)).mono ?_; rintro e w6 ⟨V, cp, rfl, hI, hb6⟩; have X1 := keep X1' hb6; have X2 := keep X2' hb6; have G := keep g1 hb6; have hal6 := hal5.trans (hb6.mono hal5.size); have hle := callsN_le (kdN (C.f i).k) (kdN_lt _); have hmt := fun j hj hb => may_t (k := (C.f i).k) (c := b) (i := j) hj hb; have hmf := may_f (k := (C.f i).k) (c := b); obtain ⟨q, hq⟩ : ∃ q, Hid (may (C.f i).k b = q) := ⟨_, rfl⟩; rw [hq.out] at hres hmt hmf; replace hI := ints_of hI; generalize callsN (kdN (C.f i).k) = L at *; generalize gF L = g at *; generalize hm : L.length = m at *; have y2 := cell_of_row w6 b2 2 _ 40 _ X2; have y3 := cell_of_row w6 b2 3 _ 40 _ X2
 have z0' := cell_of_row w6 b9 0 _ 38 _ G; have z1' := cell_of_row w6 b9 1 _ 38 _ G; clear z0 hb6 X1' X2' g1 hb5 hal5 X1 X2 G hq; have hr := hres.out; clear hres; go_upto_region 5 with (fail); go_loopw [25] (fun v wr => ∃ j : Nat, v = .int .i64 j ∧ j ≤ m ∧ (∀ p, p < j → g p ≠ b) ∧ wr = w6) (fun v _ => m - (intOf v).toNat)
 case atStart => exact ⟨0, rfl, Nat.zero_le _, fun p hp => absurd hp (by omega), rfl⟩
 case round =>
  obtain ⟨j, rfl, hj, hno, rfl⟩ := hrel
  by_cases hlt : j < m
  ·have hj0 : (0 : Int) ≤ j := by omega
   have hj1 : (j : Int) < m := by omega
   obtain ⟨bV, oV, rfl, hV, hcV⟩ := hI (by omega); have c := hcV j hlt
   by_cases he : g j = b
   ·obtain rfl : q = true := hmt j hlt he
    clear hmt hmf hI hcV hno; rw [he] at c; clear he; rw [Bool.true_and] at hr
    by_cases hb4 : b = 4
    ·subst hb4
     have hr' : (decide (0 < (C.f i).n) && decide (K < (C.f i).n)) = res := by rw [← hr]; simp [argB]
     clear hr
     by_cases hn0 : 0 < (C.f i).n
     ·have hw1 : IntKind.u64.wrap (C.f i).n = (C.f i).n := by simp [IntKind.wrap, IntKind.bits, IntKind.signed]; omega
      have hw2 : IntKind.u64.wrap K = K := by simp [IntKind.wrap, IntKind.bits, IntKind.signed]; omega
      rw [decide_eq_true hn0, Bool.true_and] at hr'; subst hr'; go_wp2; go_ret; exact ⟨rfl, hal6⟩
     ·rw [decide_eq_false hn0, Bool.false_and] at hr'
      subst hr'; go_wp2; go_ret; exact ⟨rfl, hal6⟩
    ·have k4 : (b == 4) = false := by simp [hb4]
     have hr' : ((C.f i).k == 13 || K == 0) = res := by rw [← hr]; simp [argB, hb4]
     clear hr hb4
     by_cases h13 : (C.f i).k = 13
     ·have k13 : ((C.f i).k == 13) = true := by simp [h13]
      rw [k13, Bool.true_or] at hr'; subst hr'; clear h13; go_wp2; go_ret; exact ⟨rfl, hal6⟩
     ·have k13 : ((C.f i).k == 13) = false := by simp [h13]
      rw [k13, Bool.false_or] at hr'; subst hr'; clear h13; go_wp2; go_ret; exact ⟨rfl, hal6⟩
   ·clear hmt hmf
    have hne : (g j != b) = true := by simp [he]
    go_wp2; go_roundw
    case rel => exact ⟨j + 1, by go_num, by omega, show (∀ p, p < j + 1 → g p ≠ b) from fun p hp => by
     rcases Nat.lt_succ_iff_lt_or_eq.1 hp with h | rfl
     ·exact hno p h
     ·exact he, by first | rfl | trivial⟩
    case measure => simp [intOf]; omega
  ·obtain rfl : j = m := by omega
   obtain rfl : q = false := hmf hno; rw [Bool.false_and] at hr; subst hr; clear hmt hmf hno
   have hj1 : ¬ (j : Int) < j := by omega
   go_wp2; go_ret; exact ⟨rfl, hal6⟩


theorem clRight (C : Cl) (x : X) (hx : 0 ≤ x.K ∧ x.K < 4294967296) (w : World) (hM : MemC w C) (hN : NmW w) : Calls Tryz.prog 54 #[C.v, xv x] w fun e w' => e = .returned (.bool (rgt C x)) ∧ Below w.heap.size w w' := by
 obtain ⟨k, a, b, K⟩ := x; have hx' := hx; obtain ⟨B, hB⟩ : ∃ B, Hid (rgt C ⟨k, a, b, K⟩ = B) := ⟨_, rfl⟩; rw [hB.out]; replace hB := hB.out; have hal := ((Below.refl w.heap.size w).alloc (Nat.le_refl _) (.cells #[.slice C.A C.no C.ca, .int .i64 C.vars, .slice C.W C.nw C.cw, .int .i64 C.room, .slice C.T C.nt C.ct] 26)).alloc (by simp) (.cells #[.int .i64 k, .int .i64 a, .int .i64 b, .int .u32 K] 40)
 by_cases e1 : k = 1
 ·subst e1
  have hB' : ((decide (0 ≤ a ∧ a < 4)) && (b == 0)) = B := by rw [← hB]; simp [rgt, regB]
  clear hB
  by_cases c0 : 0 ≤ a ∧ a < 4
  ·rw [decide_eq_true c0, Bool.true_and] at hB'
   subst hB'; unfold Cl.v xv; go_enter Tryz.func54, Tryz.ntmps54; go_wp2_with fail; refine (withinC _ _ _).mono ?_; rintro e w1 ⟨rfl, rfl⟩; rw [decide_eq_true c0]; go_wp2; go_ret; exact ⟨rfl, hal⟩
  ·simp only [decide_eq_false c0, Bool.true_and, Bool.false_and] at hB'
   subst hB'; unfold Cl.v xv; go_enter Tryz.func54, Tryz.ntmps54; go_wp2_with fail; refine (withinC _ _ _).mono ?_; rintro e w1 ⟨rfl, rfl⟩; rw [decide_eq_false c0]; go_wp2; go_ret; exact ⟨rfl, hal⟩
 by_cases e2 : k = 2
 ·subst e2
  have hB' : ((decide (0 ≤ a ∧ a < 4)) && (decide (0 ≤ b ∧ b < 4)) && (K == 0)) = B := by rw [← hB]; simp [rgt, regB]
  clear hB
  by_cases c0 : 0 ≤ a ∧ a < 4
  ·by_cases c1 : 0 ≤ b ∧ b < 4
   ·rw [decide_eq_true c0, decide_eq_true c1, Bool.true_and, Bool.true_and] at hB'
    subst hB'; unfold Cl.v xv; go_enter Tryz.func54, Tryz.ntmps54; go_wp2_with fail; refine (withinC _ _ _).mono ?_; rintro e w1 ⟨rfl, rfl⟩; rw [decide_eq_true c0]; go_wp2_with fail; refine (withinC _ _ _).mono ?_; rintro e w1 ⟨rfl, rfl⟩; rw [decide_eq_true c1]; go_wp2; go_ret; exact ⟨rfl, hal⟩
   ·simp only [decide_eq_true c0, decide_eq_false c1, Bool.true_and, Bool.false_and] at hB'
    subst hB'; unfold Cl.v xv; go_enter Tryz.func54, Tryz.ntmps54; go_wp2_with fail; refine (withinC _ _ _).mono ?_; rintro e w1 ⟨rfl, rfl⟩; rw [decide_eq_true c0]; go_wp2_with fail; refine (withinC _ _ _).mono ?_; rintro e w1 ⟨rfl, rfl⟩; rw [decide_eq_false c1]; go_wp2; go_ret; exact ⟨rfl, hal⟩
  ·simp only [decide_eq_false c0, Bool.true_and, Bool.false_and] at hB'
   subst hB'; unfold Cl.v xv; go_enter Tryz.func54, Tryz.ntmps54; go_wp2_with fail; refine (withinC _ _ _).mono ?_; rintro e w1 ⟨rfl, rfl⟩; rw [decide_eq_false c0]; go_wp2; go_ret; exact ⟨rfl, hal⟩
 by_cases e3 : k = 3
 ·subst e3
  have hB' : ((decide (0 ≤ a ∧ a < 4)) && (decide (0 ≤ b ∧ b < C.vars)) && (K == 0)) = B := by rw [← hB]; simp [rgt, regB]
  clear hB
  by_cases c0 : 0 ≤ a ∧ a < 4
  ·by_cases c1 : 0 ≤ b ∧ b < C.vars
   ·rw [decide_eq_true c0, decide_eq_true c1, Bool.true_and, Bool.true_and] at hB'
    subst hB'; unfold Cl.v xv; go_enter Tryz.func54, Tryz.ntmps54; go_wp2_with fail; refine (withinC _ _ _).mono ?_; rintro e w1 ⟨rfl, rfl⟩; rw [decide_eq_true c0]; go_wp2_with fail; refine (withinC _ _ _).mono ?_; rintro e w1 ⟨rfl, rfl⟩; rw [decide_eq_true c1]; go_wp2; go_ret; exact ⟨rfl, hal⟩
   ·simp only [decide_eq_true c0, decide_eq_false c1, Bool.true_and, Bool.false_and] at hB'
    subst hB'; unfold Cl.v xv; go_enter Tryz.func54, Tryz.ntmps54; go_wp2_with fail; refine (withinC _ _ _).mono ?_; rintro e w1 ⟨rfl, rfl⟩; rw [decide_eq_true c0]; go_wp2_with fail; refine (withinC _ _ _).mono ?_; rintro e w1 ⟨rfl, rfl⟩; rw [decide_eq_false c1]; go_wp2; go_ret; exact ⟨rfl, hal⟩
  ·simp only [decide_eq_false c0, Bool.true_and, Bool.false_and] at hB'
   subst hB'; unfold Cl.v xv; go_enter Tryz.func54, Tryz.ntmps54; go_wp2_with fail; refine (withinC _ _ _).mono ?_; rintro e w1 ⟨rfl, rfl⟩; rw [decide_eq_false c0]; go_wp2; go_ret; exact ⟨rfl, hal⟩
 by_cases e4 : k = 4
 ·subst e4
  have hB' : ((decide (0 ≤ a ∧ a < 4)) && (decide (0 ≤ b ∧ b < C.vars)) && (K == 0)) = B := by rw [← hB]; simp [rgt, regB]
  clear hB
  by_cases c0 : 0 ≤ a ∧ a < 4
  ·by_cases c1 : 0 ≤ b ∧ b < C.vars
   ·rw [decide_eq_true c0, decide_eq_true c1, Bool.true_and, Bool.true_and] at hB'
    subst hB'; unfold Cl.v xv; go_enter Tryz.func54, Tryz.ntmps54; go_wp2_with fail; refine (withinC _ _ _).mono ?_; rintro e w1 ⟨rfl, rfl⟩; rw [decide_eq_true c0]; go_wp2_with fail; refine (withinC _ _ _).mono ?_; rintro e w1 ⟨rfl, rfl⟩; rw [decide_eq_true c1]; go_wp2; go_ret; exact ⟨rfl, hal⟩
   ·simp only [decide_eq_true c0, decide_eq_false c1, Bool.true_and, Bool.false_and] at hB'
    subst hB'; unfold Cl.v xv; go_enter Tryz.func54, Tryz.ntmps54; go_wp2_with fail; refine (withinC _ _ _).mono ?_; rintro e w1 ⟨rfl, rfl⟩; rw [decide_eq_true c0]; go_wp2_with fail; refine (withinC _ _ _).mono ?_; rintro e w1 ⟨rfl, rfl⟩; rw [decide_eq_false c1]; go_wp2; go_ret; exact ⟨rfl, hal⟩
  ·simp only [decide_eq_false c0, Bool.true_and, Bool.false_and] at hB'
   subst hB'; unfold Cl.v xv; go_enter Tryz.func54, Tryz.ntmps54; go_wp2_with fail; refine (withinC _ _ _).mono ?_; rintro e w1 ⟨rfl, rfl⟩; rw [decide_eq_false c0]; go_wp2; go_ret; exact ⟨rfl, hal⟩
 by_cases e5 : k = 5
 ·subst e5
  have hB' : ((decide (0 ≤ a ∧ a < 4)) && (b == 0) && (K == 0)) = B := by rw [← hB]; simp [rgt, regB]
  clear hB
  by_cases c0 : 0 ≤ a ∧ a < 4
  ·rw [decide_eq_true c0, Bool.true_and] at hB'
   by_cases c1 : b = 0
   ·have q : (b == 0) = true := by simp [c1]
    rw [q, Bool.true_and] at hB'; clear c1; subst hB'; unfold Cl.v xv; go_enter Tryz.func54, Tryz.ntmps54; go_wp2_with fail; refine (withinC _ _ _).mono ?_; rintro e w1 ⟨rfl, rfl⟩; rw [decide_eq_true c0]; go_wp2; go_ret; exact ⟨rfl, hal⟩
   ·have q : (b == 0) = false := by simp [c1]
    rw [q, Bool.false_and] at hB'; clear c1; subst hB'; unfold Cl.v xv; go_enter Tryz.func54, Tryz.ntmps54; go_wp2_with fail; refine (withinC _ _ _).mono ?_; rintro e w1 ⟨rfl, rfl⟩; rw [decide_eq_true c0]; go_wp2; go_ret; exact ⟨rfl, hal⟩
  ·simp only [decide_eq_false c0, Bool.true_and, Bool.false_and] at hB'
   subst hB'; unfold Cl.v xv; go_enter Tryz.func54, Tryz.ntmps54; go_wp2_with fail; refine (withinC _ _ _).mono ?_; rintro e w1 ⟨rfl, rfl⟩; rw [decide_eq_false c0]; go_wp2; go_ret; exact ⟨rfl, hal⟩
 by_cases e6 : k = 6
 ·subst e6
  have hB' : ((a == 0) && (b == 0) && (K == 0)) = B := by rw [← hB]; simp [rgt]
  clear hB hx hx'; unfold Cl.v xv; go_enter Tryz.func54, Tryz.ntmps54; go_wp2
  all_goals go_ret
  all_goals refine ⟨?_, ((Below.refl _ _).alloc (Nat.le_refl _) _).alloc (by simp) _⟩
  all_goals subst hB'
  all_goals simp_all
 by_cases e7 : k = 7
 ·subst e7
  have hB' : callB C ⟨7, a, b, K⟩ = B := by rw [← hB]; simp [rgt]
  clear hB; have hc := clCall C ⟨7, a, b, K⟩ hx _ (hM.below hal) (hN.below hal); rw [hB'] at hc; unfold Cl.v xv at *; go_enter Tryz.func54, Tryz.ntmps54; go_wp2_with fail; refine hc.mono ?_; rintro e w1 ⟨rfl, hb1⟩; go_wp2; go_ret; exact ⟨rfl, hal.trans (hb1.mono hal.size)⟩
 obtain rfl : B = false := by rw [← hB]; simp [rgt, e1, e2, e3, e4, e5, e6, e7]
 have q1 : (k == 1) = false := by simp [e1]
 have q2 : (k == 2) = false := by simp [e2]
 have q3 : (k == 3) = false := by simp [e3]
 have q4 : (k == 4) = false := by simp [e4]
 have q5 : (k == 5) = false := by simp [e5]
 have q6 : (k == 6) = false := by simp [e6]
 have q7 : (k == 7) = false := by simp [e7]
 clear e1 e2 e3 e4 e5 e6 e7 hB; unfold Cl.v xv; go_enter Tryz.func54, Tryz.ntmps54; go_wp2; go_ret; exact ⟨rfl, hal⟩
end Go.Proofs.YtbcgngfbbbfebaaGreatDoor
