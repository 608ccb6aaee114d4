/- The code of queues, as it is asked for. The code of a reader of a sequence lock. The code of sequence locks. -/
import Derived.Test.YtbcgngfbbbfebaaGreatDoorM17
namespace Go.Proofs.YtbcgngfbbbfebaaGreatDoor
open Go.RowKit Go.Maps
set_option maxRecDepth 100000
set_option maxHeartbeats 32000000
set_option linter.unusedVariables false
set_option linter.unusedSimpArgs false
attribute [local simp] sz_alu sz_ask sz_beginS sz_biasedS sz_cas sz_changeS sz_claimS sz_clhInS sz_clhOutS sz_closeS sz_cond5S sz_cond6S sz_cond7S sz_cond8S sz_doutS sz_downS sz_emit sz_enterS sz_farS sz_finS sz_gdoneS sz_gmoreS sz_go sz_gwakeS sz_leaveS sz_mcsInS sz_mcsOutS sz_meetS sz_minS sz_mineS sz_moutS sz_mwakeS sz_otherS sz_passS sz_pinS sz_place sz_proveS sz_rclaimS sz_rhasS sz_rreadS sz_rrelS sz_rsleepS sz_rwriteS sz_set sz_sinS sz_smoreS sz_takeS sz_tasS sz_ticketS sz_ttasS sz_upS sz_zero sz_zeroS
def queueF (o : O) (call th t base arg : Int) : List Ins × Bool :=
 if o.k = 4 then (if mayS o call th t = true then (if call = 1 then (closeS (mcsInS (claimS BS.zero ((base + 1) % 4294967296) t) base th t)).fin else (closeS (mcsOutS (proveS BS.zero ((base + 1) % 4294967296) t) base th t)).fin) else ([], false)) else (if o.k = 5 then (if mayS o call th t = true then (if call = 1 then (closeS (clhInS (claimS BS.zero ((base + 1) % 4294967296) t) base th t)).fin else (closeS (clhOutS (proveS BS.zero ((base + 1) % 4294967296) t) base th t)).fin) else ([], false)) else (([], false)))
theorem queueF_n {o : O} {call th t base arg : Int} (h : o.k ≠ 4 ∧ o.k ≠ 5) : queueF o call th t base arg = ([], false) := by unfold queueF; rw [if_neg (show ¬ o.k = 4 by omega), if_neg (show ¬ o.k = 5 by omega)]
theorem queueF_f {o : O} {call th t base arg : Int} (h : mayS o call th t = false) : queueF o call th t base arg = ([], false) := by
 unfold queueF; rw [h]; simp only [Bool.false_eq_true, if_false, ite_self]
theorem queueF_0 {o : O} {call th t base arg : Int} (k : o.k = 4) (h : mayS o call th t = true) (c0 : (call = 1)) : queueF o call th t base arg = (closeS (mcsInS (claimS BS.zero ((base + 1) % 4294967296) t) base th t)).fin := by unfold queueF; rw [if_pos k, if_pos h, if_pos c0]
theorem queueF_1 {o : O} {call th t base arg : Int} (k : o.k = 4) (h : mayS o call th t = true) (c0 : ¬ (call = 1)) : queueF o call th t base arg = (closeS (mcsOutS (proveS BS.zero ((base + 1) % 4294967296) t) base th t)).fin := by unfold queueF; rw [if_pos k, if_pos h, if_neg c0]
theorem queueF_2 {o : O} {call th t base arg : Int} (k : o.k = 5) (h : mayS o call th t = true) (c0 : (call = 1)) : queueF o call th t base arg = (closeS (clhInS (claimS BS.zero ((base + 1) % 4294967296) t) base th t)).fin := by unfold queueF; rw [if_neg (show ¬ o.k = 4 by omega), if_pos k, if_pos h, if_pos c0]
theorem queueF_3 {o : O} {call th t base arg : Int} (k : o.k = 5) (h : mayS o call th t = true) (c0 : ¬ (call = 1)) : queueF o call th t base arg = (closeS (clhOutS (proveS BS.zero ((base + 1) % 4294967296) t) base th t)).fin := by unfold queueF; rw [if_neg (show ¬ o.k = 4 by omega), if_pos k, if_pos h, if_neg c0]
theorem queueCode (o : O) (call th t base arg : Int) (w : World) (hN : NmW w) (hI : IsaW w) : Calls Tryz.prog 87 #[ov o, .int .i64 call, .int .i64 th, .int .i64 t, .int .u32 base, .int .u32 arg] w fun e w' => CodeR w w' (queueF o call th t base arg) e ∧ Below w.heap.size w w' := by
 obtain ⟨R, hR⟩ : ∃ R, Hid (R = queueF o call th t base arg) := ⟨_, rfl⟩; rw [← hR.out]; have hM := fun w' (hb : Below w.heap.size w w') => spinMay o call th t w' (hN.below hb); have hRP := fun h => (mayS_tt (o := o) (c := call) (t := th) (u := t) h); obtain ⟨mb, hmb⟩ : ∃ q, Hid (q = mayS o call th t) := ⟨_, rfl⟩; rw [← hmb.out] at hM hRP; obtain ⟨ok, on, oa, ob⟩ := o; unfold ov at hM ⊢; simp only at hRP; go_enter Tryz.func87, Tryz.ntmps87; go_upto_region 1 with (fail); obtain ⟨W, kB, e0, e1, XK, hal0⟩ := box1 w #[.int .i64 ok, .int .i64 on, .int .i64 oa, .int .i64 ob] 38; rw [e0, e1]; have hkw : w.heap.size ≤ kB := Nat.le_of_eq e1; clear e0 e1; obtain ⟨y0, y1, y2, y3⟩ := cl4 XK
 by_cases k4 : ok = 4
 ·subst k4
  go_wp2_with fail; refine (hM W hal0).mono ?_; rintro e w1 ⟨rfl, hb1⟩; clear y0 y1 y2 y3 hM; replace XK := keep XK hb1; replace hal0 := hal0.trans (hb1.mono hal0.size); clear hb1; obtain ⟨y0, y1, y2, y3⟩ := cl4 XK; cases mb
  ·obtain rfl : R = ([], false) := hR.out.trans (queueF_f hmb.out.symm)
   clear hR hmb; go_wp2; go_ret2; exact ⟨CodeR.no, hal0⟩
  go_upto_region 4 with (fail); obtain ⟨w2, bb, e0, e1, XB, hb2⟩ := box1 w1 #[.slice none 0 0, .map none, .slice none 0 0, .bool false] 202; rw [e0, e1]; have hbb' : w1.heap.size = bb := e1; clear e0 e1 y0 y1 y2 y3
  have hbb : w.heap.size ≤ bb := by have := hal0.size; omega
  have hF : ¬ (kB = bb) := by have := blk_lt XK; omega
  replace XK := keep XK hb2; have hB := zero_mem XB; have hU : Upd (fun k => k = bb) (fun k => k = bb) w2 w2 := Upd.refl _ _; replace hal0 := hal0.trans (hb2.mono hal0.size); have hws : w.heap.size ≤ w2.heap.size := hal0.size; have hkl : kB < w2.heap.size := blk_lt XK; clear hb2 XB hbb'; obtain ⟨y0, y1, y2, y3⟩ := cl4 XK; clear y0 y1 y2 y3; refine wp_region_lit ?_
  iterate 3 refine Zv ?_
  refine wl_val rfl (.agg #[.int .u32 base, .int .i64 th, .int .i64 t]) ?_ ?_
  ·go_simp
  refine Zk ?_; refine wl_alloc rfl 211 rfl (.agg #[.int .u32 0, .int .i64 0, .int .i64 0]) #[.int .u32 0, .int .i64 0, .int .i64 0] (fun w => by kernel_rfl) rfl (fun wa kW XW l16 f16 => ?_); refine Zk ?_; refine wl_store rfl 211 (.tmp 15) (.tmp 37) rfl kW #[.int .u32 base, .int .i64 th, .int .i64 t] rfl rfl 211 _ XW (by kernel_rfl) rfl (by simp [Value.oneCell']) (fun w3 g1 g2 g3 g4 => ?_); refine Zk ?_; have hb7 : Below w2.heap.size w2 w3 := l16.trans (g3 _ (by simp only [Hid] at f16; omega))
  have hFW : ¬ (kW = bb) := by have := hB.lt bb rfl; simp only [Hid] at f16; omega
  replace XW := g1; clear l16 f16 g1 g2 g3 g4; replace XK := keep XK hb7; replace hkl : kB < w3.heap.size := blk_lt XK; have hkw2 : kW < w3.heap.size := blk_lt XW; replace hB := hB.below hb7; replace hU := hU.trans (Upd.of_below hb7); clear hb7; obtain ⟨y0, y1, y2, y3⟩ := cl4 XK; obtain ⟨z0, z1, z2⟩ := cl3 XW
  obtain ⟨hmay, hwho, hrp⟩ := hRP (by first | rfl | trivial)
  have htab := may_tab hmay
  try simp only at htab
  by_cases c1 : call = 1
  ·subst c1
   replace hR : Hid (R = (closeS (mcsInS (claimS BS.zero ((base + 1) % 4294967296) t) base th t)).fin) := hR.out.trans (queueF_0 rfl hmb.out.symm rfl); clear hmb; clear hRP; go_wp2_with fail; refine (own4 on oa ob _).mono ?_; rintro e w4 ⟨rfl, hb3⟩; clear y0 y1 y2 y3 z0 z1 z2; replace XK := keep XK hb3; replace XW := keep XW hb3; replace hkl : kB < w4.heap.size := blk_lt XK; replace hkw2 : kW < w4.heap.size := blk_lt XW; replace hB := hB.below hb3; replace hU := hU.trans (Upd.of_below hb3); clear hb3; obtain ⟨y0, y1, y2, y3⟩ := cl4 XK; obtain ⟨z0, z1, z2⟩ := cl3 XW; go_wp2_with fail
   refine (Z2 XK hF hkl hU XW hFW (claimC hB (by simp <;> omega))).mono ?_
   clear y0 y1 y2 y3 z0 z1 z2; rintro e wd ⟨rfl, F', hB, XK, hF, hkl, hU, XW, hFW, hkw2⟩; obtain ⟨y0, y1, y2, y3⟩ := cl4 XK; obtain ⟨z0, z1, z2⟩ := cl3 XW; go_wp2_with fail
   refine (Z2 XK hF hkl hU XW hFW (mcsInC hB (by simp <;> omega))).mono ?_
   clear y0 y1 y2 y3 z0 z1 z2; rintro e wd ⟨rfl, F', hB, XK, hF, hkl, hU, XW, hFW, hkw2⟩; obtain ⟨y0, y1, y2, y3⟩ := cl4 XK; obtain ⟨z0, z1, z2⟩ := cl3 XW; go_wp2_with fail
   refine (Z2 XK hF hkl hU XW hFW (closeC hB (by simp <;> omega))).mono ?_
   clear y0 y1 y2 y3 z0 z1 z2; rintro e wd ⟨rfl, F', hB, XK, hF, hkl, hU, XW, hFW, hkw2⟩; obtain ⟨y0, y1, y2, y3⟩ := cl4 XK; obtain ⟨z0, z1, z2⟩ := cl3 XW; have hal := hal0.trans (hU.low _ (fun k e => by rw [e]; exact hbb) hws)
   have hcb := codeB hB ((ok_closeS (ok_mcsInS (ok_claimS ok_zero)))).1 (by simp <;> omega) ((ok_closeS (ok_mcsInS (ok_claimS ok_zero)))).2 (hI.below hal)
   rw [← hR.out] at hcb; clear hR; go_wp2_with fail; refine hcb.mono ?_; rintro e w' ⟨⟨v, rfl, hv1, hv2⟩, hb'⟩; go_wp2; go_ret2; exact fin1 hal hv1 hv2 hb'
  ·have q1 : (call == 1) = false := by simp [c1]
   replace hR : Hid (R = (closeS (mcsOutS (proveS BS.zero ((base + 1) % 4294967296) t) base th t)).fin) := hR.out.trans (queueF_1 rfl hmb.out.symm c1); clear hmb; clear hRP c1; go_wp2_with fail; refine (own4 on oa ob _).mono ?_; rintro e w4 ⟨rfl, hb3⟩; clear y0 y1 y2 y3 z0 z1 z2; replace XK := keep XK hb3; replace XW := keep XW hb3; replace hkl : kB < w4.heap.size := blk_lt XK; replace hkw2 : kW < w4.heap.size := blk_lt XW; replace hB := hB.below hb3; replace hU := hU.trans (Upd.of_below hb3); clear hb3; obtain ⟨y0, y1, y2, y3⟩ := cl4 XK; obtain ⟨z0, z1, z2⟩ := cl3 XW; go_wp2_with fail
   refine (Z2 XK hF hkl hU XW hFW (proveC hB (by simp <;> omega))).mono ?_
   clear y0 y1 y2 y3 z0 z1 z2; rintro e wd ⟨rfl, F', hB, XK, hF, hkl, hU, XW, hFW, hkw2⟩; obtain ⟨y0, y1, y2, y3⟩ := cl4 XK; obtain ⟨z0, z1, z2⟩ := cl3 XW; go_wp2_with fail
   refine (Z2 XK hF hkl hU XW hFW (mcsOutC hB (by simp <;> omega))).mono ?_
   clear y0 y1 y2 y3 z0 z1 z2; rintro e wd ⟨rfl, F', hB, XK, hF, hkl, hU, XW, hFW, hkw2⟩; obtain ⟨y0, y1, y2, y3⟩ := cl4 XK; obtain ⟨z0, z1, z2⟩ := cl3 XW; go_wp2_with fail
   refine (Z2 XK hF hkl hU XW hFW (closeC hB (by simp <;> omega))).mono ?_
   clear y0 y1 y2 y3 z0 z1 z2; rintro e wd ⟨rfl, F', hB, XK, hF, hkl, hU, XW, hFW, hkw2⟩; obtain ⟨y0, y1, y2, y3⟩ := cl4 XK; obtain ⟨z0, z1, z2⟩ := cl3 XW; have hal := hal0.trans (hU.low _ (fun k e => by rw [e]; exact hbb) hws)
   have hcb := codeB hB ((ok_closeS (ok_mcsOutS (ok_proveS ok_zero)))).1 (by simp <;> omega) ((ok_closeS (ok_mcsOutS (ok_proveS ok_zero)))).2 (hI.below hal)
   rw [← hR.out] at hcb; clear hR; go_wp2_with fail; refine hcb.mono ?_; rintro e w' ⟨⟨v, rfl, hv1, hv2⟩, hb'⟩; go_wp2; go_ret2; exact fin1 hal hv1 hv2 hb'
 ·by_cases k5 : ok = 5
  ·subst k5
   go_wp2_with fail; refine (hM W hal0).mono ?_; rintro e w1 ⟨rfl, hb1⟩; clear y0 y1 y2 y3 hM; replace XK := keep XK hb1; replace hal0 := hal0.trans (hb1.mono hal0.size); clear hb1; obtain ⟨y0, y1, y2, y3⟩ := cl4 XK; cases mb
   ·obtain rfl : R = ([], false) := hR.out.trans (queueF_f hmb.out.symm)
    clear hR hmb; go_wp2; go_ret2; exact ⟨CodeR.no, hal0⟩
   go_upto_region 4 with (fail); obtain ⟨w2, bb, e0, e1, XB, hb2⟩ := box1 w1 #[.slice none 0 0, .map none, .slice none 0 0, .bool false] 202; rw [e0, e1]; have hbb' : w1.heap.size = bb := e1; clear e0 e1 y0 y1 y2 y3
   have hbb : w.heap.size ≤ bb := by have := hal0.size; omega
   have hF : ¬ (kB = bb) := by have := blk_lt XK; omega
   replace XK := keep XK hb2; have hB := zero_mem XB; have hU : Upd (fun k => k = bb) (fun k => k = bb) w2 w2 := Upd.refl _ _; replace hal0 := hal0.trans (hb2.mono hal0.size); have hws : w.heap.size ≤ w2.heap.size := hal0.size; have hkl : kB < w2.heap.size := blk_lt XK; clear hb2 XB hbb'; obtain ⟨y0, y1, y2, y3⟩ := cl4 XK; clear y0 y1 y2 y3; refine wp_region_lit ?_
   iterate 3 refine Zv ?_
   refine wl_val rfl (.agg #[.int .u32 base, .int .i64 th, .int .i64 t]) ?_ ?_
   ·go_simp
   refine Zk ?_; refine wl_alloc rfl 211 rfl (.agg #[.int .u32 0, .int .i64 0, .int .i64 0]) #[.int .u32 0, .int .i64 0, .int .i64 0] (fun w => by kernel_rfl) rfl (fun wa kW XW l16 f16 => ?_); refine Zk ?_; refine wl_store rfl 211 (.tmp 15) (.tmp 37) rfl kW #[.int .u32 base, .int .i64 th, .int .i64 t] rfl rfl 211 _ XW (by kernel_rfl) rfl (by simp [Value.oneCell']) (fun w3 g1 g2 g3 g4 => ?_); refine Zk ?_; have hb7 : Below w2.heap.size w2 w3 := l16.trans (g3 _ (by simp only [Hid] at f16; omega))
   have hFW : ¬ (kW = bb) := by have := hB.lt bb rfl; simp only [Hid] at f16; omega
   replace XW := g1; clear l16 f16 g1 g2 g3 g4; replace XK := keep XK hb7; replace hkl : kB < w3.heap.size := blk_lt XK; have hkw2 : kW < w3.heap.size := blk_lt XW; replace hB := hB.below hb7; replace hU := hU.trans (Upd.of_below hb7); clear hb7; obtain ⟨y0, y1, y2, y3⟩ := cl4 XK; obtain ⟨z0, z1, z2⟩ := cl3 XW
   obtain ⟨hmay, hwho, hrp⟩ := hRP (by first | rfl | trivial)
   have htab := may_tab hmay
   try simp only at htab
   by_cases c1 : call = 1
   ·subst c1
    replace hR : Hid (R = (closeS (clhInS (claimS BS.zero ((base + 1) % 4294967296) t) base th t)).fin) := hR.out.trans (queueF_2 rfl hmb.out.symm rfl); clear hmb; clear hRP; go_wp2_with fail; refine (own5 on oa ob _).mono ?_; rintro e w4 ⟨rfl, hb3⟩; clear y0 y1 y2 y3 z0 z1 z2; replace XK := keep XK hb3; replace XW := keep XW hb3; replace hkl : kB < w4.heap.size := blk_lt XK; replace hkw2 : kW < w4.heap.size := blk_lt XW; replace hB := hB.below hb3; replace hU := hU.trans (Upd.of_below hb3); clear hb3; obtain ⟨y0, y1, y2, y3⟩ := cl4 XK; obtain ⟨z0, z1, z2⟩ := cl3 XW; go_wp2_with fail
    refine (Z2 XK hF hkl hU XW hFW (claimC hB (by simp <;> omega))).mono ?_
    clear y0 y1 y2 y3 z0 z1 z2; rintro e wd ⟨rfl, F', hB, XK, hF, hkl, hU, XW, hFW, hkw2⟩; obtain ⟨y0, y1, y2, y3⟩ := cl4 XK; obtain ⟨z0, z1, z2⟩ := cl3 XW; go_wp2_with fail
    refine (Z2 XK hF hkl hU XW hFW (clhInC hB (by simp <;> omega))).mono ?_
    clear y0 y1 y2 y3 z0 z1 z2; rintro e wd ⟨rfl, F', hB, XK, hF, hkl, hU, XW, hFW, hkw2⟩; obtain ⟨y0, y1, y2, y3⟩ := cl4 XK; obtain ⟨z0, z1, z2⟩ := cl3 XW; go_wp2_with fail
    refine (Z2 XK hF hkl hU XW hFW (closeC hB (by simp <;> omega))).mono ?_
    clear y0 y1 y2 y3 z0 z1 z2; rintro e wd ⟨rfl, F', hB, XK, hF, hkl, hU, XW, hFW, hkw2⟩; obtain ⟨y0, y1, y2, y3⟩ := cl4 XK; obtain ⟨z0, z1, z2⟩ := cl3 XW; have hal := hal0.trans (hU.low _ (fun k e => by rw [e]; exact hbb) hws)
    have hcb := codeB hB ((ok_closeS (ok_clhInS (ok_claimS ok_zero)))).1 (by simp <;> omega) ((ok_closeS (ok_clhInS (ok_claimS ok_zero)))).2 (hI.below hal)
    rw [← hR.out] at hcb; clear hR; go_wp2_with fail; refine hcb.mono ?_; rintro e w' ⟨⟨v, rfl, hv1, hv2⟩, hb'⟩; go_wp2; go_ret2; exact fin1 hal hv1 hv2 hb'
   ·have q1 : (call == 1) = false := by simp [c1]
    replace hR : Hid (R = (closeS (clhOutS (proveS BS.zero ((base + 1) % 4294967296) t) base th t)).fin) := hR.out.trans (queueF_3 rfl hmb.out.symm c1); clear hmb; clear hRP c1; go_wp2_with fail; refine (own5 on oa ob _).mono ?_; rintro e w4 ⟨rfl, hb3⟩; clear y0 y1 y2 y3 z0 z1 z2; replace XK := keep XK hb3; replace XW := keep XW hb3; replace hkl : kB < w4.heap.size := blk_lt XK; replace hkw2 : kW < w4.heap.size := blk_lt XW; replace hB := hB.below hb3; replace hU := hU.trans (Upd.of_below hb3); clear hb3; obtain ⟨y0, y1, y2, y3⟩ := cl4 XK; obtain ⟨z0, z1, z2⟩ := cl3 XW; go_wp2_with fail
    refine (Z2 XK hF hkl hU XW hFW (proveC hB (by simp <;> omega))).mono ?_
    clear y0 y1 y2 y3 z0 z1 z2; rintro e wd ⟨rfl, F', hB, XK, hF, hkl, hU, XW, hFW, hkw2⟩; obtain ⟨y0, y1, y2, y3⟩ := cl4 XK; obtain ⟨z0, z1, z2⟩ := cl3 XW; go_wp2_with fail
    refine (Z2 XK hF hkl hU XW hFW (clhOutC hB (by simp <;> omega))).mono ?_
    clear y0 y1 y2 y3 z0 z1 z2; rintro e wd ⟨rfl, F', hB, XK, hF, hkl, hU, XW, hFW, hkw2⟩; obtain ⟨y0, y1, y2, y3⟩ := cl4 XK; obtain ⟨z0, z1, z2⟩ := cl3 XW; go_wp2_with fail
    refine (Z2 XK hF hkl hU XW hFW (closeC hB (by simp <;> omega))).mono ?_
    clear y0 y1 y2 y3 z0 z1 z2; rintro e wd ⟨rfl, F', hB, XK, hF, hkl, hU, XW, hFW, hkw2⟩; obtain ⟨y0, y1, y2, y3⟩ := cl4 XK; obtain ⟨z0, z1, z2⟩ := cl3 XW; have hal := hal0.trans (hU.low _ (fun k e => by rw [e]; exact hbb) hws)
    have hcb := codeB hB ((ok_closeS (ok_clhOutS (ok_proveS ok_zero)))).1 (by simp <;> omega) ((ok_closeS (ok_clhOutS (ok_proveS ok_zero)))).2 (hI.below hal)
    rw [← hR.out] at hcb; clear hR; go_wp2_with fail; refine hcb.mono ?_; rintro e w' ⟨⟨v, rfl, hv1, hv2⟩, hb'⟩; go_wp2; go_ret2; exact fin1 hal hv1 hv2 hb'
  ·have q4 : (ok != 4) = true := by simp [k4]
   have q5 : (ok != 5) = true := by simp [k5]
   obtain rfl : R = ([], false) := hR.out.trans (queueF_n ⟨k4, k5⟩); clear hR hmb k4 k5; go_wp2
   all_goals go_ret2
   all_goals exact ⟨CodeR.no, hal0⟩
end Go.Proofs.YtbcgngfbbbfebaaGreatDoor
namespace Go.Proofs.YtbcgngfbbbfebaaGreatDoor
open Go.RowKit Go.Maps
set_option maxRecDepth 100000
set_option maxHeartbeats 32000000
set_option linter.unusedVariables false
set_option linter.unusedSimpArgs false
attribute [local simp] sz_alu sz_ask sz_cas sz_emit sz_go sz_place sz_set sz_zero
def rdS (st : BS) (base : Int) : Nat → BS
 | 0 => st
 | i + 1 => (rdS st base i).ask 16 i ((base + 2 + i) % 4294967296)
@[simp] theorem sz_rdS (st : BS) (base : Int) : ∀ n, (rdS st base n).sz = st.sz + n
 | 0 => rfl
 | n + 1 => by show ((rdS st base n).ask _ _ _).sz = _; rw [sz_ask, sz_rdS st base n]; omega
theorem ok_rdS {st : BS} {base : Int} (h : st.Ok) : ∀ n, (rdS st base n).Ok
 | 0 => h
 | n + 1 => ok_ask _ _ _ (ok_rdS h n)
def readS (st : BS) (base : Int) (n : Nat) : BS := (((rdS (((((st.place s_again).ask 16 4 (base % 4294967296)).set 5 1).alu 6 6 4 5).go 15 6 s_again) base n).ask 16 5 (base % 4294967296)).alu 12 6 4 5).go 14 6 s_again
@[simp] theorem sz_readS (st : BS) (base : Int) (n : Nat) : (readS st base n).sz = st.sz + n + 10 := by
 unfold readS; simp <;> omega
theorem ok_readS {st : BS} {base : Int} {n : Nat} (h : st.Ok) : (readS st base n).Ok := ok_go _ _ (by decide) (ok_alu _ _ _ _ (ok_ask _ _ _ (ok_rdS (ok_go _ _ (by decide) (ok_alu _ _ _ _ (ok_set _ _ (ok_ask _ _ _ (ok_place _ h))))) n)))
theorem readC {b : Nat} {F : Nat → Prop} {st : BS} {base : Int} (n : Nat) (hn : n ≤ 3) {w : World} (hB : BMem w b F st) (hs : st.sz ≤ 3500 := by first | omega | (simp <;> omega)) : Calls Tryz.prog 139 #[.pointer (some ⟨b, 0, none⟩), .int .u32 base, .int .i64 n] w fun e w' => e = .returned (.tuple #[]) ∧ ∃ F', BMem w' b F' (readS st base n) ∧ Upd F F' w w' := by
 go_enter Tryz.func139, Tryz.ntmps139; have hU := Upd.refl F w; go_wp2_with fail; refine (Zx hU (placeC hB nm_again (by decide) (by omega))).mono ?_; rintro e w' ⟨rfl, F', hB, hU⟩; go_wp2_with fail
 refine (Zx hU (askC hB (by simp <;> omega))).mono ?_
 rintro e w' ⟨rfl, F', hB, hU⟩; go_wp2_with fail
 refine (Zx hU (setC hB (by simp <;> omega))).mono ?_
 rintro e w' ⟨rfl, F', hB, hU⟩; go_wp2_with fail
 refine (Zx hU (aluC hB (by simp <;> omega))).mono ?_
 rintro e w' ⟨rfl, F', hB, hU⟩; go_wp2_with fail
 refine (Zx hU (goC hB (by simp <;> omega))).mono ?_
 rintro e w' ⟨rfl, F', hB, hU⟩; obtain ⟨st1, hst1⟩ : ∃ s, Hid (s = (((((st.place s_again).ask 16 4 (base % 4294967296)).set 5 1).alu 6 6 4 5).go 15 6 s_again)) := ⟨_, rfl⟩
 have hsz1 : st1.sz ≤ 3600 := by rw [hst1.out]; simp <;> omega
 replace hB : BMem w' b F' st1 := by rw [hst1.out]; exact hB
 go_upto_region 6 with (fail); go_loopw [20] (fun v wr => ∃ (i : Nat) (G : Nat → Prop), v = .int .i64 i ∧ i ≤ n ∧ BMem wr b G (rdS st1 base i) ∧ Upd F G w wr) (fun v _ => n - (intOf v).toNat)
 case atStart => exact ⟨0, _, rfl, Nat.zero_le _, hB, hU⟩
 case round =>
  clear hB hU; obtain ⟨i, G, rfl, hi, hB, hU⟩ := hrel
  by_cases hlt : i < n
  case neg =>
   obtain rfl : i = n := by omega
   have hl1 : ¬ ((i : Int) < i) := by omega
   go_wp2_with fail
   refine (Zx hU (askC hB (by simp <;> omega))).mono ?_
   rintro e w' ⟨rfl, F', hB, hU⟩; go_wp2_with fail
   refine (Zx hU (aluC hB (by simp <;> omega))).mono ?_
   rintro e w' ⟨rfl, F', hB, hU⟩; go_wp2_with fail
   refine (Zx hU (goC hB (by simp <;> omega))).mono ?_
   rintro e w' ⟨rfl, F', hB, hU⟩; go_wp2; go_end0; refine ⟨rfl, _, ?_, hU⟩; unfold readS; rw [← hst1.out]; exact hB
  have hl0 : (0 : Int) ≤ i := by omega
  have hl1 : (i : Int) < n := by omega
  go_wp2_with fail; refine ((askC (op := 16) (a := i) (addr := (base + 2 + i) % 4294967296) hB (by rw [sz_rdS]; omega))).mono ?_; rintro e w2 ⟨rfl, F2, hB', hU'⟩; replace hU := hU.trans hU'; replace hB : BMem w2 b F2 (rdS st1 base (i + 1)) := hB'; clear hB' hU'; go_wp2; go_roundw
  case rel => exact ⟨i + 1, F2, by go_num, by omega, hB, hU⟩
  case measure => simp [intOf]; omega
end Go.Proofs.YtbcgngfbbbfebaaGreatDoor
namespace Go.Proofs.YtbcgngfbbbfebaaGreatDoor
open Go.RowKit Go.Maps
set_option maxRecDepth 100000
set_option maxHeartbeats 32000000
set_option linter.unusedVariables false
set_option linter.unusedSimpArgs false
attribute [local simp] sz_alu sz_ask sz_beginS sz_biasedS sz_cas sz_changeS sz_claimS sz_clhInS sz_clhOutS sz_closeS sz_cond5S sz_cond6S sz_cond7S sz_cond8S sz_doutS sz_downS sz_emit sz_enterS sz_farS sz_finS sz_gdoneS sz_gmoreS sz_go sz_gwakeS sz_leaveS sz_mcsInS sz_mcsOutS sz_meetS sz_minS sz_mineS sz_moutS sz_mwakeS sz_otherS sz_passS sz_pinS sz_place sz_proveS sz_rclaimS sz_readS sz_rhasS sz_rreadS sz_rrelS sz_rsleepS sz_rwriteS sz_set sz_sinS sz_smoreS sz_takeS sz_tasS sz_ticketS sz_ttasS sz_upS sz_zero sz_zeroS
def seqF (o : O) (call th t base arg : Int) : List Ins × Bool :=
 if o.k = 9 then (if mayS o call th t = true then (if call = 4 then (if arg < o.n then (closeS ((proveS BS.zero ((base + 1) % 4294967296) t).ask 17 0 ((base + 2 + arg) % 4294967296))).fin else ([], false)) else (if call = 1 then (closeS (beginS (claimS BS.zero ((base + 1) % 4294967296) t) base)).fin else (if call = 2 then (closeS (zeroS (smoreS (proveS BS.zero ((base + 1) % 4294967296) t) base) ((base + 1) % 4294967296))).fin else (closeS (readS BS.zero base o.n.toNat)).fin))) else ([], false)) else (([], false))
theorem seqF_n {o : O} {call th t base arg : Int} (h : o.k ≠ 9) : seqF o call th t base arg = ([], false) := by unfold seqF; rw [if_neg (show ¬ o.k = 9 by omega)]
theorem seqF_f {o : O} {call th t base arg : Int} (h : mayS o call th t = false) : seqF o call th t base arg = ([], false) := by
 unfold seqF; rw [h]; simp only [Bool.false_eq_true, if_false, ite_self]
theorem seqF_0 {o : O} {call th t base arg : Int} (k : o.k = 9) (h : mayS o call th t = true) (c0 : (call = 4)) (c1 : (arg < o.n)) : seqF o call th t base arg = (closeS ((proveS BS.zero ((base + 1) % 4294967296) t).ask 17 0 ((base + 2 + arg) % 4294967296))).fin := by unfold seqF; rw [if_pos k, if_pos h, if_pos c0, if_pos c1]
theorem seqF_1 {o : O} {call th t base arg : Int} (k : o.k = 9) (h : mayS o call th t = true) (c0 : (call = 4)) (c1 : ¬ (arg < o.n)) : seqF o call th t base arg = ([], false) := by unfold seqF; rw [if_pos k, if_pos h, if_pos c0, if_neg c1]
theorem seqF_2 {o : O} {call th t base arg : Int} (k : o.k = 9) (h : mayS o call th t = true) (c0 : ¬ (call = 4)) (c1 : (call = 1)) : seqF o call th t base arg = (closeS (beginS (claimS BS.zero ((base + 1) % 4294967296) t) base)).fin := by unfold seqF; rw [if_pos k, if_pos h, if_neg c0, if_pos c1]
theorem seqF_3 {o : O} {call th t base arg : Int} (k : o.k = 9) (h : mayS o call th t = true) (c0 : ¬ (call = 4)) (c1 : ¬ (call = 1)) (c2 : (call = 2)) : seqF o call th t base arg = (closeS (zeroS (smoreS (proveS BS.zero ((base + 1) % 4294967296) t) base) ((base + 1) % 4294967296))).fin := by unfold seqF; rw [if_pos k, if_pos h, if_neg c0, if_neg c1, if_pos c2]
theorem seqF_4 {o : O} {call th t base arg : Int} (k : o.k = 9) (h : mayS o call th t = true) (c0 : ¬ (call = 4)) (c1 : ¬ (call = 1)) (c2 : ¬ (call = 2)) : seqF o call th t base arg = (closeS (readS BS.zero base o.n.toNat)).fin := by unfold seqF; rw [if_pos k, if_pos h, if_neg c0, if_neg c1, if_neg c2]
theorem seqCode (o : O) (call th t base arg : Int) (harg : 0 ≤ arg ∧ arg < 4294967296) (w : World) (hN : NmW w) (hI : IsaW w) : Calls Tryz.prog 90 #[ov o, .int .i64 call, .int .i64 th, .int .i64 t, .int .u32 base, .int .u32 arg] w fun e w' => CodeR w w' (seqF o call th t base arg) e ∧ Below w.heap.size w w' := by
 obtain ⟨hr0, hr1⟩ := harg; obtain ⟨R, hR⟩ : ∃ R, Hid (R = seqF o call th t base arg) := ⟨_, rfl⟩; rw [← hR.out]; have hM := fun w' (hb : Below w.heap.size w w') => spinMay o call th t w' (hN.below hb); have hRP := fun h => (mayS_tt (o := o) (c := call) (t := th) (u := t) h); obtain ⟨mb, hmb⟩ : ∃ q, Hid (q = mayS o call th t) := ⟨_, rfl⟩; rw [← hmb.out] at hM hRP; obtain ⟨ok, on, oa, ob⟩ := o; unfold ov at hM ⊢; simp only at hRP; go_enter Tryz.func90, Tryz.ntmps90; go_upto_region 1 with (fail); obtain ⟨W, kB, e0, e1, XK, hal0⟩ := box1 w #[.int .i64 ok, .int .i64 on, .int .i64 oa, .int .i64 ob] 38; rw [e0, e1]; have hkw : w.heap.size ≤ kB := Nat.le_of_eq e1; clear e0 e1; obtain ⟨y0, y1, y2, y3⟩ := cl4 XK
 by_cases k9 : ok = 9
 ·subst k9
  by_cases c4 : call = 4
  ·subst c4
   by_cases ca : arg < on
   ·go_wp2_with fail
    refine (hM W hal0).mono ?_; rintro e w1 ⟨rfl, hb1⟩; clear y0 y1 y2 y3 hM; replace XK := keep XK hb1; replace hal0 := hal0.trans (hb1.mono hal0.size); clear hb1; obtain ⟨y0, y1, y2, y3⟩ := cl4 XK; cases mb
    ·obtain rfl : R = ([], false) := hR.out.trans (seqF_f hmb.out.symm)
     clear hR hmb; go_wp2; go_ret2; exact ⟨CodeR.no, hal0⟩
    have hon : 1 ≤ on ∧ on ≤ 3 := by
     have hrp := (hRP (by first | rfl | trivial)).2.2
     unfold RP at hrp; simp only at hrp; omega
    obtain ⟨nn, rfl⟩ : ∃ q : Nat, on = q := ⟨on.toNat, by omega⟩; obtain ⟨hn1, hn3⟩ := hon; go_upto_region 4 with (fail); obtain ⟨w2, bb, e0, e1, XB, hb2⟩ := box1 w1 #[.slice none 0 0, .map none, .slice none 0 0, .bool false] 202; rw [e0, e1]; have hbb' : w1.heap.size = bb := e1; clear e0 e1 y0 y1 y2 y3
    have hbb : w.heap.size ≤ bb := by have := hal0.size; omega
    have hF : ¬ (kB = bb) := by have := blk_lt XK; omega
    replace XK := keep XK hb2; have hB := zero_mem XB; have hU : Upd (fun k => k = bb) (fun k => k = bb) w2 w2 := Upd.refl _ _; replace hal0 := hal0.trans (hb2.mono hal0.size); have hws : w.heap.size ≤ w2.heap.size := hal0.size; have hkl : kB < w2.heap.size := blk_lt XK; clear hb2 XB hbb'; obtain ⟨y0, y1, y2, y3⟩ := cl4 XK
    obtain ⟨hmay, hwho, hrp⟩ := hRP (by first | rfl | trivial)
    have htab := may_tab hmay
    try simp only at htab
    replace hR : Hid (R = (closeS ((proveS BS.zero ((base + 1) % 4294967296) t).ask 17 0 ((base + 2 + arg) % 4294967296))).fin) := hR.out.trans (seqF_0 rfl hmb.out.symm rfl ca); clear hmb; clear hRP ca; go_wp2_with fail
    refine (Z1 XK hF hkl hU (proveC hB (by simp <;> omega))).mono ?_
    clear y0 y1 y2 y3; rintro e wd ⟨rfl, F', hB, XK, hF, hkl, hU⟩; obtain ⟨y0, y1, y2, y3⟩ := cl4 XK; go_wp2_with fail
    refine (Z1 XK hF hkl hU (askC hB (by simp <;> omega))).mono ?_
    clear y0 y1 y2 y3; rintro e wd ⟨rfl, F', hB, XK, hF, hkl, hU⟩; obtain ⟨y0, y1, y2, y3⟩ := cl4 XK; go_wp2_with fail
    refine (Z1 XK hF hkl hU (closeC hB (by simp <;> omega))).mono ?_
    clear y0 y1 y2 y3; rintro e wd ⟨rfl, F', hB, XK, hF, hkl, hU⟩; obtain ⟨y0, y1, y2, y3⟩ := cl4 XK; have hal := hal0.trans (hU.low _ (fun k e => by rw [e]; exact hbb) hws)
    have hcb := codeB hB ((ok_closeS (ok_ask _ _ _ (ok_proveS ok_zero)))).1 (by simp <;> omega) ((ok_closeS (ok_ask _ _ _ (ok_proveS ok_zero)))).2 (hI.below hal)
    rw [← hR.out] at hcb; clear hR; go_wp2_with fail; refine hcb.mono ?_; rintro e w' ⟨⟨v, rfl, hv1, hv2⟩, hb'⟩; go_wp2; go_ret2; exact fin1 hal hv1 hv2 hb'
   ·go_wp2_with fail
    refine (hM W hal0).mono ?_; rintro e w1 ⟨rfl, hb1⟩; clear y0 y1 y2 y3 hM; replace XK := keep XK hb1; replace hal0 := hal0.trans (hb1.mono hal0.size); clear hb1; obtain ⟨y0, y1, y2, y3⟩ := cl4 XK; cases mb
    ·obtain rfl : R = ([], false) := hR.out.trans (seqF_f hmb.out.symm)
     clear hR hmb; go_wp2; go_ret2; exact ⟨CodeR.no, hal0⟩
    have hon : 1 ≤ on ∧ on ≤ 3 := by
     have hrp := (hRP (by first | rfl | trivial)).2.2
     unfold RP at hrp; simp only at hrp; omega
    obtain ⟨nn, rfl⟩ : ∃ q : Nat, on = q := ⟨on.toNat, by omega⟩; obtain ⟨hn1, hn3⟩ := hon; obtain rfl : R = ([], false) := hR.out.trans (seqF_1 rfl hmb.out.symm rfl (Int.not_lt.2 ca)); clear hR hmb; go_wp2
    all_goals go_ret2
    all_goals exact ⟨CodeR.no, hal0⟩
  ·have q4 : (call == 4) = false := by simp [c4]
   go_wp2_with fail; refine (hM W hal0).mono ?_; rintro e w1 ⟨rfl, hb1⟩; clear y0 y1 y2 y3 hM; replace XK := keep XK hb1; replace hal0 := hal0.trans (hb1.mono hal0.size); clear hb1; obtain ⟨y0, y1, y2, y3⟩ := cl4 XK; cases mb
   ·obtain rfl : R = ([], false) := hR.out.trans (seqF_f hmb.out.symm)
    clear hR hmb; go_wp2; go_ret2; exact ⟨CodeR.no, hal0⟩
   have hon : 1 ≤ on ∧ on ≤ 3 := by
    have hrp := (hRP (by first | rfl | trivial)).2.2
    unfold RP at hrp; simp only at hrp; omega
   obtain ⟨nn, rfl⟩ : ∃ q : Nat, on = q := ⟨on.toNat, by omega⟩; obtain ⟨hn1, hn3⟩ := hon; go_upto_region 4 with (fail); obtain ⟨w2, bb, e0, e1, XB, hb2⟩ := box1 w1 #[.slice none 0 0, .map none, .slice none 0 0, .bool false] 202; rw [e0, e1]; have hbb' : w1.heap.size = bb := e1; clear e0 e1 y0 y1 y2 y3
   have hbb : w.heap.size ≤ bb := by have := hal0.size; omega
   have hF : ¬ (kB = bb) := by have := blk_lt XK; omega
   replace XK := keep XK hb2; have hB := zero_mem XB; have hU : Upd (fun k => k = bb) (fun k => k = bb) w2 w2 := Upd.refl _ _; replace hal0 := hal0.trans (hb2.mono hal0.size); have hws : w.heap.size ≤ w2.heap.size := hal0.size; have hkl : kB < w2.heap.size := blk_lt XK; clear hb2 XB hbb'; obtain ⟨y0, y1, y2, y3⟩ := cl4 XK
   obtain ⟨hmay, hwho, hrp⟩ := hRP (by first | rfl | trivial)
   have htab := may_tab hmay
   try simp only at htab
   by_cases c1 : call = 1
   ·subst c1
    replace hR : Hid (R = (closeS (beginS (claimS BS.zero ((base + 1) % 4294967296) t) base)).fin) := hR.out.trans (seqF_2 rfl hmb.out.symm c4 rfl); clear hmb; clear hRP c4; go_wp2_with fail
    refine (Z1 XK hF hkl hU (claimC hB (by simp <;> omega))).mono ?_
    clear y0 y1 y2 y3; rintro e wd ⟨rfl, F', hB, XK, hF, hkl, hU⟩; obtain ⟨y0, y1, y2, y3⟩ := cl4 XK; go_wp2_with fail
    refine (Z1 XK hF hkl hU (beginC hB (by simp <;> omega))).mono ?_
    clear y0 y1 y2 y3; rintro e wd ⟨rfl, F', hB, XK, hF, hkl, hU⟩; obtain ⟨y0, y1, y2, y3⟩ := cl4 XK; go_wp2_with fail
    refine (Z1 XK hF hkl hU (closeC hB (by simp <;> omega))).mono ?_
    clear y0 y1 y2 y3; rintro e wd ⟨rfl, F', hB, XK, hF, hkl, hU⟩; obtain ⟨y0, y1, y2, y3⟩ := cl4 XK; have hal := hal0.trans (hU.low _ (fun k e => by rw [e]; exact hbb) hws)
    have hcb := codeB hB ((ok_closeS (ok_beginS (ok_claimS ok_zero)))).1 (by simp <;> omega) ((ok_closeS (ok_beginS (ok_claimS ok_zero)))).2 (hI.below hal)
    rw [← hR.out] at hcb; clear hR; go_wp2_with fail; refine hcb.mono ?_; rintro e w' ⟨⟨v, rfl, hv1, hv2⟩, hb'⟩; go_wp2; go_ret2; exact fin1 hal hv1 hv2 hb'
   ·have q1 : (call == 1) = false := by simp [c1]
    by_cases c2 : call = 2
    ·subst c2
     replace hR : Hid (R = (closeS (zeroS (smoreS (proveS BS.zero ((base + 1) % 4294967296) t) base) ((base + 1) % 4294967296))).fin) := hR.out.trans (seqF_3 rfl hmb.out.symm c4 c1 rfl); clear hmb; clear hRP c4 c1; go_wp2_with fail
     refine (Z1 XK hF hkl hU (proveC hB (by simp <;> omega))).mono ?_
     clear y0 y1 y2 y3; rintro e wd ⟨rfl, F', hB, XK, hF, hkl, hU⟩; obtain ⟨y0, y1, y2, y3⟩ := cl4 XK; go_wp2_with fail
     refine (Z1 XK hF hkl hU (smoreC hB (by simp <;> omega))).mono ?_
     clear y0 y1 y2 y3; rintro e wd ⟨rfl, F', hB, XK, hF, hkl, hU⟩; obtain ⟨y0, y1, y2, y3⟩ := cl4 XK; go_wp2_with fail
     refine (Z1 XK hF hkl hU (zeroC hB (by simp <;> omega))).mono ?_
     clear y0 y1 y2 y3; rintro e wd ⟨rfl, F', hB, XK, hF, hkl, hU⟩; obtain ⟨y0, y1, y2, y3⟩ := cl4 XK; go_wp2_with fail
     refine (Z1 XK hF hkl hU (closeC hB (by simp <;> omega))).mono ?_
     clear y0 y1 y2 y3; rintro e wd ⟨rfl, F', hB, XK, hF, hkl, hU⟩; obtain ⟨y0, y1, y2, y3⟩ := cl4 XK; have hal := hal0.trans (hU.low _ (fun k e => by rw [e]; exact hbb) hws)
     have hcb := codeB hB ((ok_closeS (ok_zeroS (ok_smoreS (ok_proveS ok_zero))))).1 (by simp <;> omega) ((ok_closeS (ok_zeroS (ok_smoreS (ok_proveS ok_zero))))).2 (hI.below hal)
     rw [← hR.out] at hcb; clear hR; go_wp2_with fail; refine hcb.mono ?_; rintro e w' ⟨⟨v, rfl, hv1, hv2⟩, hb'⟩; go_wp2; go_ret2; exact fin1 hal hv1 hv2 hb'
    ·have q2 : (call == 2) = false := by simp [c2]
     replace hR : Hid (R = (closeS (readS BS.zero base nn)).fin) := hR.out.trans (seqF_4 rfl hmb.out.symm c4 c1 c2); clear hmb; clear hRP c4 c1 c2; go_wp2_with fail
     refine (Z1 XK hF hkl hU (readC nn (by omega) hB (by simp <;> omega))).mono ?_
     clear y0 y1 y2 y3; rintro e wd ⟨rfl, F', hB, XK, hF, hkl, hU⟩; obtain ⟨y0, y1, y2, y3⟩ := cl4 XK; go_wp2_with fail
     refine (Z1 XK hF hkl hU (closeC hB (by simp <;> omega))).mono ?_
     clear y0 y1 y2 y3; rintro e wd ⟨rfl, F', hB, XK, hF, hkl, hU⟩; obtain ⟨y0, y1, y2, y3⟩ := cl4 XK; have hal := hal0.trans (hU.low _ (fun k e => by rw [e]; exact hbb) hws)
     have hcb := codeB hB ((ok_closeS (ok_readS ok_zero))).1 (by simp <;> omega) ((ok_closeS (ok_readS ok_zero))).2 (hI.below hal)
     rw [← hR.out] at hcb; clear hR; go_wp2_with fail; refine hcb.mono ?_; rintro e w' ⟨⟨v, rfl, hv1, hv2⟩, hb'⟩; go_wp2; go_ret2; exact fin1 hal hv1 hv2 hb'
 ·have q9 : (ok != 9) = true := by simp [k9]
  obtain rfl : R = ([], false) := hR.out.trans (seqF_n k9); clear hR hmb k9; go_wp2
  all_goals go_ret2
  all_goals exact ⟨CodeR.no, hal0⟩
end Go.Proofs.YtbcgngfbbbfebaaGreatDoor
