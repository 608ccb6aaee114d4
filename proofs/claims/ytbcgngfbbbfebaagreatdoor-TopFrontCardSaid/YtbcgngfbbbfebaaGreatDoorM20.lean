/- The code of locks of two, as it is asked for. -/
import Derived.Test.YtbcgngfbbbfebaaGreatDoorM19
namespace Go.Proofs.YtbcgngfbbbfebaaGreatDoor
open Go.RowKit Go.Maps
set_option maxRecDepth 100000
set_option maxHeartbeats 32000000
set_option linter.unusedVariables false
set_option linter.unusedSimpArgs false
attribute [local simp] sz_alu sz_ask sz_beginS sz_biasedS sz_cas sz_changeS sz_claimS sz_clhInS sz_clhOutS sz_closeS sz_cond5S sz_cond6S sz_cond7S sz_cond8S sz_doutS sz_downS sz_emit sz_enterS sz_farS sz_finS sz_gdoneS sz_gmoreS sz_go sz_gwakeS sz_leaveS sz_mcsInS sz_mcsOutS sz_meetS sz_minS sz_mineS sz_moutS sz_mwakeS sz_otherS sz_passS sz_pinS sz_place sz_proveS sz_rclaimS sz_readS sz_rhasS sz_rreadS sz_rrelS sz_rsleepS sz_rwriteS sz_set sz_sinS sz_smoreS sz_takeS sz_tasS sz_ticketS sz_ttasS sz_upS sz_zero sz_zeroS
def duoF (o : O) (call th t base arg : Int) : List Ins × Bool :=
 if o.k = 6 then (if mayS o call th t = true then (if t = o.a then (if call = 1 then (closeS (pinS (claimS BS.zero ((base + 3) % 4294967296) t) base ((base + 1) % 4294967296) ((base + 2) % 4294967296) ((base + 3) % 4294967296) 1)).fin else (closeS (doutS (proveS BS.zero ((base + 3) % 4294967296) t) base ((base + 1) % 4294967296) ((base + 2) % 4294967296) ((base + 3) % 4294967296) 1)).fin) else (if t = o.b then (if call = 1 then (closeS (pinS (claimS BS.zero ((base + 3) % 4294967296) t) ((base + 1) % 4294967296) base ((base + 2) % 4294967296) ((base + 3) % 4294967296) 0)).fin else (closeS (doutS (proveS BS.zero ((base + 3) % 4294967296) t) ((base + 1) % 4294967296) base ((base + 2) % 4294967296) ((base + 3) % 4294967296) 0)).fin) else (BS.zero.set 7 4).fin)) else ([], false)) else (if o.k = 7 then (if mayS o call th t = true then (if t = o.a then (if call = 1 then (closeS (finS (claimS BS.zero ((base + 2) % 4294967296) t) base ((base + 1) % 4294967296) 0 ((base + 2) % 4294967296) 0)).fin else (closeS (doutS (proveS BS.zero ((base + 2) % 4294967296) t) base ((base + 1) % 4294967296) 0 ((base + 2) % 4294967296) 0)).fin) else (if t = o.b then (if call = 1 then (closeS (sinS (claimS BS.zero ((base + 2) % 4294967296) t) ((base + 1) % 4294967296) base 0 ((base + 2) % 4294967296) 0)).fin else (closeS (doutS (proveS BS.zero ((base + 2) % 4294967296) t) ((base + 1) % 4294967296) base 0 ((base + 2) % 4294967296) 0)).fin) else (BS.zero.set 7 4).fin)) else ([], false)) else (([], false)))
theorem duoF_n {o : O} {call th t base arg : Int} (h : o.k ≠ 6 ∧ o.k ≠ 7) : duoF o call th t base arg = ([], false) := by unfold duoF; rw [if_neg (show ¬ o.k = 6 by omega), if_neg (show ¬ o.k = 7 by omega)]
theorem duoF_f {o : O} {call th t base arg : Int} (h : mayS o call th t = false) : duoF o call th t base arg = ([], false) := by
 unfold duoF; rw [h]; simp only [Bool.false_eq_true, if_false, ite_self]
theorem duoF_0 {o : O} {call th t base arg : Int} (k : o.k = 6) (h : mayS o call th t = true) (c0 : (t = o.a)) (c1 : (call = 1)) : duoF o call th t base arg = (closeS (pinS (claimS BS.zero ((base + 3) % 4294967296) t) base ((base + 1) % 4294967296) ((base + 2) % 4294967296) ((base + 3) % 4294967296) 1)).fin := by unfold duoF; rw [if_pos k, if_pos h, if_pos c0, if_pos c1]
theorem duoF_1 {o : O} {call th t base arg : Int} (k : o.k = 6) (h : mayS o call th t = true) (c0 : (t = o.a)) (c1 : ¬ (call = 1)) : duoF o call th t base arg = (closeS (doutS (proveS BS.zero ((base + 3) % 4294967296) t) base ((base + 1) % 4294967296) ((base + 2) % 4294967296) ((base + 3) % 4294967296) 1)).fin := by unfold duoF; rw [if_pos k, if_pos h, if_pos c0, if_neg c1]
theorem duoF_2 {o : O} {call th t base arg : Int} (k : o.k = 6) (h : mayS o call th t = true) (c0 : ¬ (t = o.a)) (c1 : (t = o.b)) (c2 : (call = 1)) : duoF o call th t base arg = (closeS (pinS (claimS BS.zero ((base + 3) % 4294967296) t) ((base + 1) % 4294967296) base ((base + 2) % 4294967296) ((base + 3) % 4294967296) 0)).fin := by unfold duoF; rw [if_pos k, if_pos h, if_neg c0, if_pos c1, if_pos c2]
theorem duoF_3 {o : O} {call th t base arg : Int} (k : o.k = 6) (h : mayS o call th t = true) (c0 : ¬ (t = o.a)) (c1 : (t = o.b)) (c2 : ¬ (call = 1)) : duoF o call th t base arg = (closeS (doutS (proveS BS.zero ((base + 3) % 4294967296) t) ((base + 1) % 4294967296) base ((base + 2) % 4294967296) ((base + 3) % 4294967296) 0)).fin := by unfold duoF; rw [if_pos k, if_pos h, if_neg c0, if_pos c1, if_neg c2]
theorem duoF_4 {o : O} {call th t base arg : Int} (k : o.k = 6) (h : mayS o call th t = true) (c0 : ¬ (t = o.a)) (c1 : ¬ (t = o.b)) : duoF o call th t base arg = (BS.zero.set 7 4).fin := by unfold duoF; rw [if_pos k, if_pos h, if_neg c0, if_neg c1]
theorem duoF_5 {o : O} {call th t base arg : Int} (k : o.k = 7) (h : mayS o call th t = true) (c0 : (t = o.a)) (c1 : (call = 1)) : duoF o call th t base arg = (closeS (finS (claimS BS.zero ((base + 2) % 4294967296) t) base ((base + 1) % 4294967296) 0 ((base + 2) % 4294967296) 0)).fin := by unfold duoF; rw [if_neg (show ¬ o.k = 6 by omega), if_pos k, if_pos h, if_pos c0, if_pos c1]
theorem duoF_6 {o : O} {call th t base arg : Int} (k : o.k = 7) (h : mayS o call th t = true) (c0 : (t = o.a)) (c1 : ¬ (call = 1)) : duoF o call th t base arg = (closeS (doutS (proveS BS.zero ((base + 2) % 4294967296) t) base ((base + 1) % 4294967296) 0 ((base + 2) % 4294967296) 0)).fin := by unfold duoF; rw [if_neg (show ¬ o.k = 6 by omega), if_pos k, if_pos h, if_pos c0, if_neg c1]
theorem duoF_7 {o : O} {call th t base arg : Int} (k : o.k = 7) (h : mayS o call th t = true) (c0 : ¬ (t = o.a)) (c1 : (t = o.b)) (c2 : (call = 1)) : duoF o call th t base arg = (closeS (sinS (claimS BS.zero ((base + 2) % 4294967296) t) ((base + 1) % 4294967296) base 0 ((base + 2) % 4294967296) 0)).fin := by unfold duoF; rw [if_neg (show ¬ o.k = 6 by omega), if_pos k, if_pos h, if_neg c0, if_pos c1, if_pos c2]
theorem duoF_8 {o : O} {call th t base arg : Int} (k : o.k = 7) (h : mayS o call th t = true) (c0 : ¬ (t = o.a)) (c1 : (t = o.b)) (c2 : ¬ (call = 1)) : duoF o call th t base arg = (closeS (doutS (proveS BS.zero ((base + 2) % 4294967296) t) ((base + 1) % 4294967296) base 0 ((base + 2) % 4294967296) 0)).fin := by unfold duoF; rw [if_neg (show ¬ o.k = 6 by omega), if_pos k, if_pos h, if_neg c0, if_pos c1, if_neg c2]
theorem duoF_9 {o : O} {call th t base arg : Int} (k : o.k = 7) (h : mayS o call th t = true) (c0 : ¬ (t = o.a)) (c1 : ¬ (t = o.b)) : duoF o call th t base arg = (BS.zero.set 7 4).fin := by unfold duoF; rw [if_neg (show ¬ o.k = 6 by omega), if_pos k, if_pos h, if_neg c0, if_neg c1]
theorem duoCode (o : O) (call th t base arg : Int) (harg : 0 ≤ arg ∧ arg < 4294967296) (w : World) (hN : NmW w) (hI : IsaW w) : Calls Tryz.prog 88 #[ov o, .int .i64 call, .int .i64 th, .int .i64 t, .int .u32 base, .int .u32 arg] w fun e w' => CodeR w w' (duoF o call th t base arg) e ∧ Below w.heap.size w w' := by
 obtain ⟨hr0, hr1⟩ := harg; obtain ⟨R, hR⟩ : ∃ R, Hid (R = duoF o call th t base arg) := ⟨_, rfl⟩; rw [← hR.out]; have hM := fun w' (hb : Below w.heap.size w w') => spinMay o call th t w' (hN.below hb); have hRP := fun h => (mayS_tt (o := o) (c := call) (t := th) (u := t) h); obtain ⟨mb, hmb⟩ : ∃ q, Hid (q = mayS o call th t) := ⟨_, rfl⟩; rw [← hmb.out] at hM hRP; obtain ⟨ok, on, oa, ob⟩ := o; unfold ov at hM ⊢; simp only at hRP; go_enter Tryz.func88, Tryz.ntmps88; go_upto_region 1 with (fail); obtain ⟨W, kB, e0, e1, XK, hal0⟩ := box1 w #[.int .i64 ok, .int .i64 on, .int .i64 oa, .int .i64 ob] 38; rw [e0, e1]; have hkw : w.heap.size ≤ kB := Nat.le_of_eq e1; clear e0 e1; obtain ⟨y0, y1, y2, y3⟩ := cl4 XK
 by_cases k6 : ok = 6
 ·subst k6
  go_wp2_with fail; refine (hM W hal0).mono ?_; rintro e w1 ⟨rfl, hb1⟩; clear y0 y1 y2 y3 hM; replace XK := keep XK hb1; replace hal0 := hal0.trans (hb1.mono hal0.size); clear hb1; obtain ⟨y0, y1, y2, y3⟩ := cl4 XK; cases mb
  ·obtain rfl : R = ([], false) := hR.out.trans (duoF_f hmb.out.symm)
   clear hR hmb; go_wp2; go_ret2; exact ⟨CodeR.no, hal0⟩
  go_upto_region 4 with (fail); obtain ⟨w2, bb, e0, e1, XB, hb2⟩ := box1 w1 #[.slice none 0 0, .map none, .slice none 0 0, .bool false] 202; rw [e0, e1]; have hbb' : w1.heap.size = bb := e1; clear e0 e1 y0 y1 y2 y3
  have hbb : w.heap.size ≤ bb := by have := hal0.size; omega
  have hF : ¬ (kB = bb) := by have := blk_lt XK; omega
  replace XK := keep XK hb2; have hB := zero_mem XB; have hU : Upd (fun k => k = bb) (fun k => k = bb) w2 w2 := Upd.refl _ _; replace hal0 := hal0.trans (hb2.mono hal0.size); have hws : w.heap.size ≤ w2.heap.size := hal0.size; have hkl : kB < w2.heap.size := blk_lt XK; clear hb2 XB hbb'; obtain ⟨y0, y1, y2, y3⟩ := cl4 XK
  obtain ⟨hmay, hwho, hrp⟩ := hRP (by first | rfl | trivial)
  have htab := may_tab hmay
  try simp only at htab
  by_cases ta : t = oa
  ·have qa : (t != oa) = false := by simp [ta]
   by_cases c1 : call = 1
   ·subst c1
    replace hR : Hid (R = (closeS (pinS (claimS BS.zero ((base + 3) % 4294967296) t) base ((base + 1) % 4294967296) ((base + 2) % 4294967296) ((base + 3) % 4294967296) 1)).fin) := hR.out.trans (duoF_0 rfl hmb.out.symm ta rfl); clear hmb; have hsd : Hid (sideF ⟨6, on, oa, ob⟩ t base = (#[.int .u32 base, .int .u32 ((base + 1) % 4294967296), .int .u32 ((base + 2) % 4294967296), .int .u32 ((base + 3) % 4294967296), .int .u32 1], 187)) := (if_pos rfl).trans (if_pos ta); clear hRP ta; go_upto_region 7 with (fail); clear y0 y1 y2 y3; have hsc := sidesC ⟨6, on, oa, ob⟩ t base w2; rw [hsd.out] at hsc; unfold ov at hsc; clear hsd; refine wp_region_lit ?_; refine Zd 38 XK Tryz.underlying38 ?_
    iterate 2 refine Zv ?_
    refine Zc 131 #[.agg #[.int .i64 6, .int .i64 on, .int .i64 oa, .int .i64 ob], .int .i64 t, .int .u32 base] (.tuple #[.agg #[.int .u32 base, .int .u32 ((base + 1) % 4294967296), .int .u32 ((base + 2) % 4294967296), .int .u32 ((base + 3) % 4294967296), .int .u32 1], .func (.func 187) #[] #[]]) hsc (fun w5 hb5 => ?_)
    iterate 3 refine Zv ?_
    refine wl_alloc rfl 214 rfl (.agg #[.int .u32 0, .int .u32 0, .int .u32 0, .int .u32 0, .int .u32 0]) #[.int .u32 0, .int .u32 0, .int .u32 0, .int .u32 0, .int .u32 0] (fun w => by kernel_rfl) rfl (fun wa kW XW l16 f16 => ?_); refine Zk ?_; refine wl_store rfl 214 (.tmp 15) (.tmp 52) rfl kW #[.int .u32 base, .int .u32 ((base + 1) % 4294967296), .int .u32 ((base + 2) % 4294967296), .int .u32 ((base + 3) % 4294967296), .int .u32 1] rfl rfl 214 _ XW (by kernel_rfl) rfl (by simp [Value.oneCell']) (fun w3 g1 g2 g3 g4 => ?_); refine Zk ?_; refine Zv ?_; have hb7 : Below w2.heap.size w2 w3 := (hb5.trans (l16.mono hb5.size)).trans (g3 _ (by have := hb5.size; simp only [Hid] at f16; omega))
    have hFW : ¬ (kW = bb) := by have := hB.lt bb rfl; have := hb5.size; simp only [Hid] at f16; omega
    replace XW := g1; clear l16 f16 g1 g2 g3 g4 hb5 hsc; replace XK := keep XK hb7; replace hkl : kB < w3.heap.size := blk_lt XK; have hkw2 : kW < w3.heap.size := blk_lt XW; replace hB := hB.below hb7; replace hU := hU.trans (Upd.of_below hb7); clear hb7; obtain ⟨y0, y1, y2, y3⟩ := cl4 XK; obtain ⟨z0, z1, z2, z3, z4⟩ := cl5 XW; go_wp2_with fail
    refine (Z2 XK hF hkl hU XW hFW (claimC hB (by simp <;> omega))).mono ?_
    clear y0 y1 y2 y3 z0 z1 z2 z3 z4; rintro e wd ⟨rfl, F', hB, XK, hF, hkl, hU, XW, hFW, hkw2⟩; obtain ⟨y0, y1, y2, y3⟩ := cl4 XK; obtain ⟨z0, z1, z2, z3, z4⟩ := cl5 XW; go_wp2_with fail
    refine (Z2 XK hF hkl hU XW hFW (pinC hB (by simp <;> omega))).mono ?_
    clear y0 y1 y2 y3 z0 z1 z2 z3 z4; rintro e wd ⟨rfl, F', hB, XK, hF, hkl, hU, XW, hFW, hkw2⟩; obtain ⟨y0, y1, y2, y3⟩ := cl4 XK; obtain ⟨z0, z1, z2, z3, z4⟩ := cl5 XW; go_wp2_with fail
    refine (Z2 XK hF hkl hU XW hFW (closeC hB (by simp <;> omega))).mono ?_
    clear y0 y1 y2 y3 z0 z1 z2 z3 z4; rintro e wd ⟨rfl, F', hB, XK, hF, hkl, hU, XW, hFW, hkw2⟩; obtain ⟨y0, y1, y2, y3⟩ := cl4 XK; obtain ⟨z0, z1, z2, z3, z4⟩ := cl5 XW; have hal := hal0.trans (hU.low _ (fun k e => by rw [e]; exact hbb) hws)
    have hcb := codeB hB ((ok_closeS (ok_pinS (ok_claimS ok_zero)))).1 (by simp <;> omega) ((ok_closeS (ok_pinS (ok_claimS ok_zero)))).2 (hI.below hal)
    rw [← hR.out] at hcb; clear hR; go_wp2_with fail; refine hcb.mono ?_; rintro e w' ⟨⟨v, rfl, hv1, hv2⟩, hb'⟩; go_wp2; go_ret2; exact fin1 hal hv1 hv2 hb'
   ·have q1 : (call == 1) = false := by simp [c1]
    replace hR : Hid (R = (closeS (doutS (proveS BS.zero ((base + 3) % 4294967296) t) base ((base + 1) % 4294967296) ((base + 2) % 4294967296) ((base + 3) % 4294967296) 1)).fin) := hR.out.trans (duoF_1 rfl hmb.out.symm ta c1); clear hmb; have hsd : Hid (sideF ⟨6, on, oa, ob⟩ t base = (#[.int .u32 base, .int .u32 ((base + 1) % 4294967296), .int .u32 ((base + 2) % 4294967296), .int .u32 ((base + 3) % 4294967296), .int .u32 1], 187)) := (if_pos rfl).trans (if_pos ta); clear hRP ta c1; go_upto_region 7 with (fail); clear y0 y1 y2 y3; have hsc := sidesC ⟨6, on, oa, ob⟩ t base w2; rw [hsd.out] at hsc; unfold ov at hsc; clear hsd; refine wp_region_lit ?_; refine Zd 38 XK Tryz.underlying38 ?_
    iterate 2 refine Zv ?_
    refine Zc 131 #[.agg #[.int .i64 6, .int .i64 on, .int .i64 oa, .int .i64 ob], .int .i64 t, .int .u32 base] (.tuple #[.agg #[.int .u32 base, .int .u32 ((base + 1) % 4294967296), .int .u32 ((base + 2) % 4294967296), .int .u32 ((base + 3) % 4294967296), .int .u32 1], .func (.func 187) #[] #[]]) hsc (fun w5 hb5 => ?_)
    iterate 3 refine Zv ?_
    refine wl_alloc rfl 214 rfl (.agg #[.int .u32 0, .int .u32 0, .int .u32 0, .int .u32 0, .int .u32 0]) #[.int .u32 0, .int .u32 0, .int .u32 0, .int .u32 0, .int .u32 0] (fun w => by kernel_rfl) rfl (fun wa kW XW l16 f16 => ?_); refine Zk ?_; refine wl_store rfl 214 (.tmp 15) (.tmp 52) rfl kW #[.int .u32 base, .int .u32 ((base + 1) % 4294967296), .int .u32 ((base + 2) % 4294967296), .int .u32 ((base + 3) % 4294967296), .int .u32 1] rfl rfl 214 _ XW (by kernel_rfl) rfl (by simp [Value.oneCell']) (fun w3 g1 g2 g3 g4 => ?_); refine Zk ?_; refine Zv ?_; have hb7 : Below w2.heap.size w2 w3 := (hb5.trans (l16.mono hb5.size)).trans (g3 _ (by have := hb5.size; simp only [Hid] at f16; omega))
    have hFW : ¬ (kW = bb) := by have := hB.lt bb rfl; have := hb5.size; simp only [Hid] at f16; omega
    replace XW := g1; clear l16 f16 g1 g2 g3 g4 hb5 hsc; replace XK := keep XK hb7; replace hkl : kB < w3.heap.size := blk_lt XK; have hkw2 : kW < w3.heap.size := blk_lt XW; replace hB := hB.below hb7; replace hU := hU.trans (Upd.of_below hb7); clear hb7; obtain ⟨y0, y1, y2, y3⟩ := cl4 XK; obtain ⟨z0, z1, z2, z3, z4⟩ := cl5 XW; go_wp2_with fail
    refine (Z2 XK hF hkl hU XW hFW (proveC hB (by simp <;> omega))).mono ?_
    clear y0 y1 y2 y3 z0 z1 z2 z3 z4; rintro e wd ⟨rfl, F', hB, XK, hF, hkl, hU, XW, hFW, hkw2⟩; obtain ⟨y0, y1, y2, y3⟩ := cl4 XK; obtain ⟨z0, z1, z2, z3, z4⟩ := cl5 XW; go_wp2_with fail
    refine (Z2 XK hF hkl hU XW hFW (doutC hB (by simp <;> omega))).mono ?_
    clear y0 y1 y2 y3 z0 z1 z2 z3 z4; rintro e wd ⟨rfl, F', hB, XK, hF, hkl, hU, XW, hFW, hkw2⟩; obtain ⟨y0, y1, y2, y3⟩ := cl4 XK; obtain ⟨z0, z1, z2, z3, z4⟩ := cl5 XW; go_wp2_with fail
    refine (Z2 XK hF hkl hU XW hFW (closeC hB (by simp <;> omega))).mono ?_
    clear y0 y1 y2 y3 z0 z1 z2 z3 z4; rintro e wd ⟨rfl, F', hB, XK, hF, hkl, hU, XW, hFW, hkw2⟩; obtain ⟨y0, y1, y2, y3⟩ := cl4 XK; obtain ⟨z0, z1, z2, z3, z4⟩ := cl5 XW; have hal := hal0.trans (hU.low _ (fun k e => by rw [e]; exact hbb) hws)
    have hcb := codeB hB ((ok_closeS (ok_doutS (ok_proveS ok_zero)))).1 (by simp <;> omega) ((ok_closeS (ok_doutS (ok_proveS ok_zero)))).2 (hI.below hal)
    rw [← hR.out] at hcb; clear hR; go_wp2_with fail; refine hcb.mono ?_; rintro e w' ⟨⟨v, rfl, hv1, hv2⟩, hb'⟩; go_wp2; go_ret2; exact fin1 hal hv1 hv2 hb'
  ·have qa : (t != oa) = true := by simp [ta]
   by_cases tb : t = ob
   ·have qb : (t != ob) = false := by simp [tb]
    by_cases c1 : call = 1
    ·subst c1
     replace hR : Hid (R = (closeS (pinS (claimS BS.zero ((base + 3) % 4294967296) t) ((base + 1) % 4294967296) base ((base + 2) % 4294967296) ((base + 3) % 4294967296) 0)).fin) := hR.out.trans (duoF_2 rfl hmb.out.symm ta tb rfl); clear hmb; have hsd : Hid (sideF ⟨6, on, oa, ob⟩ t base = (#[.int .u32 ((base + 1) % 4294967296), .int .u32 base, .int .u32 ((base + 2) % 4294967296), .int .u32 ((base + 3) % 4294967296), .int .u32 0], 187)) := (if_pos rfl).trans (if_neg ta); clear hRP ta tb; go_upto_region 7 with (fail); clear y0 y1 y2 y3; have hsc := sidesC ⟨6, on, oa, ob⟩ t base w2; rw [hsd.out] at hsc; unfold ov at hsc; clear hsd; refine wp_region_lit ?_; refine Zd 38 XK Tryz.underlying38 ?_
     iterate 2 refine Zv ?_
     refine Zc 131 #[.agg #[.int .i64 6, .int .i64 on, .int .i64 oa, .int .i64 ob], .int .i64 t, .int .u32 base] (.tuple #[.agg #[.int .u32 ((base + 1) % 4294967296), .int .u32 base, .int .u32 ((base + 2) % 4294967296), .int .u32 ((base + 3) % 4294967296), .int .u32 0], .func (.func 187) #[] #[]]) hsc (fun w5 hb5 => ?_)
     iterate 3 refine Zv ?_
     refine wl_alloc rfl 214 rfl (.agg #[.int .u32 0, .int .u32 0, .int .u32 0, .int .u32 0, .int .u32 0]) #[.int .u32 0, .int .u32 0, .int .u32 0, .int .u32 0, .int .u32 0] (fun w => by kernel_rfl) rfl (fun wa kW XW l16 f16 => ?_); refine Zk ?_; refine wl_store rfl 214 (.tmp 15) (.tmp 52) rfl kW #[.int .u32 ((base + 1) % 4294967296), .int .u32 base, .int .u32 ((base + 2) % 4294967296), .int .u32 ((base + 3) % 4294967296), .int .u32 0] rfl rfl 214 _ XW (by kernel_rfl) rfl (by simp [Value.oneCell']) (fun w3 g1 g2 g3 g4 => ?_); refine Zk ?_; refine Zv ?_; have hb7 : Below w2.heap.size w2 w3 := (hb5.trans (l16.mono hb5.size)).trans (g3 _ (by have := hb5.size; simp only [Hid] at f16; omega))
     have hFW : ¬ (kW = bb) := by have := hB.lt bb rfl; have := hb5.size; simp only [Hid] at f16; omega
     replace XW := g1; clear l16 f16 g1 g2 g3 g4 hb5 hsc; replace XK := keep XK hb7; replace hkl : kB < w3.heap.size := blk_lt XK; have hkw2 : kW < w3.heap.size := blk_lt XW; replace hB := hB.below hb7; replace hU := hU.trans (Upd.of_below hb7); clear hb7; obtain ⟨y0, y1, y2, y3⟩ := cl4 XK; obtain ⟨z0, z1, z2, z3, z4⟩ := cl5 XW; go_wp2_with fail
     refine (Z2 XK hF hkl hU XW hFW (claimC hB (by simp <;> omega))).mono ?_
     clear y0 y1 y2 y3 z0 z1 z2 z3 z4; rintro e wd ⟨rfl, F', hB, XK, hF, hkl, hU, XW, hFW, hkw2⟩; obtain ⟨y0, y1, y2, y3⟩ := cl4 XK; obtain ⟨z0, z1, z2, z3, z4⟩ := cl5 XW; go_wp2_with fail
     refine (Z2 XK hF hkl hU XW hFW (pinC hB (by simp <;> omega))).mono ?_
     clear y0 y1 y2 y3 z0 z1 z2 z3 z4; rintro e wd ⟨rfl, F', hB, XK, hF, hkl, hU, XW, hFW, hkw2⟩; obtain ⟨y0, y1, y2, y3⟩ := cl4 XK; obtain ⟨z0, z1, z2, z3, z4⟩ := cl5 XW; go_wp2_with fail
     refine (Z2 XK hF hkl hU XW hFW (closeC hB (by simp <;> omega))).mono ?_
     clear y0 y1 y2 y3 z0 z1 z2 z3 z4; rintro e wd ⟨rfl, F', hB, XK, hF, hkl, hU, XW, hFW, hkw2⟩; obtain ⟨y0, y1, y2, y3⟩ := cl4 XK; obtain ⟨z0, z1, z2, z3, z4⟩ := cl5 XW; have hal := hal0.trans (hU.low _ (fun k e => by rw [e]; exact hbb) hws)
     have hcb := codeB hB ((ok_closeS (ok_pinS (ok_claimS ok_zero)))).1 (by simp <;> omega) ((ok_closeS (ok_pinS (ok_claimS ok_zero)))).2 (hI.below hal)
     rw [← hR.out] at hcb; clear hR; go_wp2_with fail; refine hcb.mono ?_; rintro e w' ⟨⟨v, rfl, hv1, hv2⟩, hb'⟩; go_wp2; go_ret2; exact fin1 hal hv1 hv2 hb'
    ·have q1 : (call == 1) = false := by simp [c1]
     replace hR : Hid (R = (closeS (doutS (proveS BS.zero ((base + 3) % 4294967296) t) ((base + 1) % 4294967296) base ((base + 2) % 4294967296) ((base + 3) % 4294967296) 0)).fin) := hR.out.trans (duoF_3 rfl hmb.out.symm ta tb c1); clear hmb; have hsd : Hid (sideF ⟨6, on, oa, ob⟩ t base = (#[.int .u32 ((base + 1) % 4294967296), .int .u32 base, .int .u32 ((base + 2) % 4294967296), .int .u32 ((base + 3) % 4294967296), .int .u32 0], 187)) := (if_pos rfl).trans (if_neg ta); clear hRP ta tb c1; go_upto_region 7 with (fail); clear y0 y1 y2 y3; have hsc := sidesC ⟨6, on, oa, ob⟩ t base w2; rw [hsd.out] at hsc; unfold ov at hsc; clear hsd; refine wp_region_lit ?_; refine Zd 38 XK Tryz.underlying38 ?_
     iterate 2 refine Zv ?_
     refine Zc 131 #[.agg #[.int .i64 6, .int .i64 on, .int .i64 oa, .int .i64 ob], .int .i64 t, .int .u32 base] (.tuple #[.agg #[.int .u32 ((base + 1) % 4294967296), .int .u32 base, .int .u32 ((base + 2) % 4294967296), .int .u32 ((base + 3) % 4294967296), .int .u32 0], .func (.func 187) #[] #[]]) hsc (fun w5 hb5 => ?_)
     iterate 3 refine Zv ?_
     refine wl_alloc rfl 214 rfl (.agg #[.int .u32 0, .int .u32 0, .int .u32 0, .int .u32 0, .int .u32 0]) #[.int .u32 0, .int .u32 0, .int .u32 0, .int .u32 0, .int .u32 0] (fun w => by kernel_rfl) rfl (fun wa kW XW l16 f16 => ?_); refine Zk ?_; refine wl_store rfl 214 (.tmp 15) (.tmp 52) rfl kW #[.int .u32 ((base + 1) % 4294967296), .int .u32 base, .int .u32 ((base + 2) % 4294967296), .int .u32 ((base + 3) % 4294967296), .int .u32 0] rfl rfl 214 _ XW (by kernel_rfl) rfl (by simp [Value.oneCell']) (fun w3 g1 g2 g3 g4 => ?_); refine Zk ?_; refine Zv ?_; have hb7 : Below w2.heap.size w2 w3 := (hb5.trans (l16.mono hb5.size)).trans (g3 _ (by have := hb5.size; simp only [Hid] at f16; omega))
     have hFW : ¬ (kW = bb) := by have := hB.lt bb rfl; have := hb5.size; simp only [Hid] at f16; omega
     replace XW := g1; clear l16 f16 g1 g2 g3 g4 hb5 hsc; replace XK := keep XK hb7; replace hkl : kB < w3.heap.size := blk_lt XK; have hkw2 : kW < w3.heap.size := blk_lt XW; replace hB := hB.below hb7; replace hU := hU.trans (Upd.of_below hb7); clear hb7; obtain ⟨y0, y1, y2, y3⟩ := cl4 XK; obtain ⟨z0, z1, z2, z3, z4⟩ := cl5 XW; go_wp2_with fail
     refine (Z2 XK hF hkl hU XW hFW (proveC hB (by simp <;> omega))).mono ?_
     clear y0 y1 y2 y3 z0 z1 z2 z3 z4; rintro e wd ⟨rfl, F', hB, XK, hF, hkl, hU, XW, hFW, hkw2⟩; obtain ⟨y0, y1, y2, y3⟩ := cl4 XK; obtain ⟨z0, z1, z2, z3, z4⟩ := cl5 XW; go_wp2_with fail
     refine (Z2 XK hF hkl hU XW hFW (doutC hB (by simp <;> omega))).mono ?_
     clear y0 y1 y2 y3 z0 z1 z2 z3 z4; rintro e wd ⟨rfl, F', hB, XK, hF, hkl, hU, XW, hFW, hkw2⟩; obtain ⟨y0, y1, y2, y3⟩ := cl4 XK; obtain ⟨z0, z1, z2, z3, z4⟩ := cl5 XW; go_wp2_with fail
     refine (Z2 XK hF hkl hU XW hFW (closeC hB (by simp <;> omega))).mono ?_
     clear y0 y1 y2 y3 z0 z1 z2 z3 z4; rintro e wd ⟨rfl, F', hB, XK, hF, hkl, hU, XW, hFW, hkw2⟩; obtain ⟨y0, y1, y2, y3⟩ := cl4 XK; obtain ⟨z0, z1, z2, z3, z4⟩ := cl5 XW; have hal := hal0.trans (hU.low _ (fun k e => by rw [e]; exact hbb) hws)
     have hcb := codeB hB ((ok_closeS (ok_doutS (ok_proveS ok_zero)))).1 (by simp <;> omega) ((ok_closeS (ok_doutS (ok_proveS ok_zero)))).2 (hI.below hal)
     rw [← hR.out] at hcb; clear hR; go_wp2_with fail; refine hcb.mono ?_; rintro e w' ⟨⟨v, rfl, hv1, hv2⟩, hb'⟩; go_wp2; go_ret2; exact fin1 hal hv1 hv2 hb'
   ·have qb : (t != ob) = true := by simp [tb]
    replace hR : Hid (R = (BS.zero.set 7 4).fin) := hR.out.trans (duoF_4 rfl hmb.out.symm ta tb); clear hmb; clear hRP ta tb; go_wp2_with fail
    refine (Z1 XK hF hkl hU (setC hB (by simp <;> omega))).mono ?_
    clear y0 y1 y2 y3; rintro e wd ⟨rfl, F', hB, XK, hF, hkl, hU⟩; obtain ⟨y0, y1, y2, y3⟩ := cl4 XK; have hal := hal0.trans (hU.low _ (fun k e => by rw [e]; exact hbb) hws)
    have hcb := codeB hB ((ok_set _ _ ok_zero)).1 (by simp <;> omega) ((ok_set _ _ ok_zero)).2 (hI.below hal)
    rw [← hR.out] at hcb; clear hR; go_wp2_with fail; refine hcb.mono ?_; rintro e w' ⟨⟨v, rfl, hv1, hv2⟩, hb'⟩; go_wp2; go_ret2; exact fin1 hal hv1 hv2 hb'
 ·by_cases k7 : ok = 7
  ·subst k7
   go_wp2_with fail; refine (hM W hal0).mono ?_; rintro e w1 ⟨rfl, hb1⟩; clear y0 y1 y2 y3 hM; replace XK := keep XK hb1; replace hal0 := hal0.trans (hb1.mono hal0.size); clear hb1; obtain ⟨y0, y1, y2, y3⟩ := cl4 XK; cases mb
   ·obtain rfl : R = ([], false) := hR.out.trans (duoF_f hmb.out.symm)
    clear hR hmb; go_wp2; go_ret2; exact ⟨CodeR.no, hal0⟩
   go_upto_region 4 with (fail); obtain ⟨w2, bb, e0, e1, XB, hb2⟩ := box1 w1 #[.slice none 0 0, .map none, .slice none 0 0, .bool false] 202; rw [e0, e1]; have hbb' : w1.heap.size = bb := e1; clear e0 e1 y0 y1 y2 y3
   have hbb : w.heap.size ≤ bb := by have := hal0.size; omega
   have hF : ¬ (kB = bb) := by have := blk_lt XK; omega
   replace XK := keep XK hb2; have hB := zero_mem XB; have hU : Upd (fun k => k = bb) (fun k => k = bb) w2 w2 := Upd.refl _ _; replace hal0 := hal0.trans (hb2.mono hal0.size); have hws : w.heap.size ≤ w2.heap.size := hal0.size; have hkl : kB < w2.heap.size := blk_lt XK; clear hb2 XB hbb'; obtain ⟨y0, y1, y2, y3⟩ := cl4 XK
   obtain ⟨hmay, hwho, hrp⟩ := hRP (by first | rfl | trivial)
   have htab := may_tab hmay
   try simp only at htab
   by_cases ta : t = oa
   ·have qa : (t != oa) = false := by simp [ta]
    by_cases c1 : call = 1
    ·subst c1
     replace hR : Hid (R = (closeS (finS (claimS BS.zero ((base + 2) % 4294967296) t) base ((base + 1) % 4294967296) 0 ((base + 2) % 4294967296) 0)).fin) := hR.out.trans (duoF_5 rfl hmb.out.symm ta rfl); clear hmb; have hsd : Hid (sideF ⟨7, on, oa, ob⟩ t base = (#[.int .u32 base, .int .u32 ((base + 1) % 4294967296), .int .u32 0, .int .u32 ((base + 2) % 4294967296), .int .u32 0], 188)) := (if_neg (show ¬ (7 : Int) = 6 by decide)).trans (if_pos ta); clear hRP ta; go_upto_region 7 with (fail); clear y0 y1 y2 y3; have hsc := sidesC ⟨7, on, oa, ob⟩ t base w2; rw [hsd.out] at hsc; unfold ov at hsc; clear hsd; refine wp_region_lit ?_; refine Zd 38 XK Tryz.underlying38 ?_
     iterate 2 refine Zv ?_
     refine Zc 131 #[.agg #[.int .i64 7, .int .i64 on, .int .i64 oa, .int .i64 ob], .int .i64 t, .int .u32 base] (.tuple #[.agg #[.int .u32 base, .int .u32 ((base + 1) % 4294967296), .int .u32 0, .int .u32 ((base + 2) % 4294967296), .int .u32 0], .func (.func 188) #[] #[]]) hsc (fun w5 hb5 => ?_)
     iterate 3 refine Zv ?_
     refine wl_alloc rfl 214 rfl (.agg #[.int .u32 0, .int .u32 0, .int .u32 0, .int .u32 0, .int .u32 0]) #[.int .u32 0, .int .u32 0, .int .u32 0, .int .u32 0, .int .u32 0] (fun w => by kernel_rfl) rfl (fun wa kW XW l16 f16 => ?_); refine Zk ?_; refine wl_store rfl 214 (.tmp 15) (.tmp 52) rfl kW #[.int .u32 base, .int .u32 ((base + 1) % 4294967296), .int .u32 0, .int .u32 ((base + 2) % 4294967296), .int .u32 0] rfl rfl 214 _ XW (by kernel_rfl) rfl (by simp [Value.oneCell']) (fun w3 g1 g2 g3 g4 => ?_); refine Zk ?_; refine Zv ?_; have hb7 : Below w2.heap.size w2 w3 := (hb5.trans (l16.mono hb5.size)).trans (g3 _ (by have := hb5.size; simp only [Hid] at f16; omega))
     have hFW : ¬ (kW = bb) := by have := hB.lt bb rfl; have := hb5.size; simp only [Hid] at f16; omega
     replace XW := g1; clear l16 f16 g1 g2 g3 g4 hb5 hsc; replace XK := keep XK hb7; replace hkl : kB < w3.heap.size := blk_lt XK; have hkw2 : kW < w3.heap.size := blk_lt XW; replace hB := hB.below hb7; replace hU := hU.trans (Upd.of_below hb7); clear hb7; obtain ⟨y0, y1, y2, y3⟩ := cl4 XK; obtain ⟨z0, z1, z2, z3, z4⟩ := cl5 XW; go_wp2_with fail
     refine (Z2 XK hF hkl hU XW hFW (claimC hB (by simp <;> omega))).mono ?_
     clear y0 y1 y2 y3 z0 z1 z2 z3 z4; rintro e wd ⟨rfl, F', hB, XK, hF, hkl, hU, XW, hFW, hkw2⟩; obtain ⟨y0, y1, y2, y3⟩ := cl4 XK; obtain ⟨z0, z1, z2, z3, z4⟩ := cl5 XW; go_wp2_with fail
     refine (Z2 XK hF hkl hU XW hFW (finC hB (by simp <;> omega))).mono ?_
     clear y0 y1 y2 y3 z0 z1 z2 z3 z4; rintro e wd ⟨rfl, F', hB, XK, hF, hkl, hU, XW, hFW, hkw2⟩; obtain ⟨y0, y1, y2, y3⟩ := cl4 XK; obtain ⟨z0, z1, z2, z3, z4⟩ := cl5 XW; go_wp2_with fail
     refine (Z2 XK hF hkl hU XW hFW (closeC hB (by simp <;> omega))).mono ?_
     clear y0 y1 y2 y3 z0 z1 z2 z3 z4; rintro e wd ⟨rfl, F', hB, XK, hF, hkl, hU, XW, hFW, hkw2⟩; obtain ⟨y0, y1, y2, y3⟩ := cl4 XK; obtain ⟨z0, z1, z2, z3, z4⟩ := cl5 XW; have hal := hal0.trans (hU.low _ (fun k e => by rw [e]; exact hbb) hws)
     have hcb := codeB hB ((ok_closeS (ok_finS (ok_claimS ok_zero)))).1 (by simp <;> omega) ((ok_closeS (ok_finS (ok_claimS ok_zero)))).2 (hI.below hal)
     rw [← hR.out] at hcb; clear hR; go_wp2_with fail; refine hcb.mono ?_; rintro e w' ⟨⟨v, rfl, hv1, hv2⟩, hb'⟩; go_wp2; go_ret2; exact fin1 hal hv1 hv2 hb'
    ·have q1 : (call == 1) = false := by simp [c1]
     replace hR : Hid (R = (closeS (doutS (proveS BS.zero ((base + 2) % 4294967296) t) base ((base + 1) % 4294967296) 0 ((base + 2) % 4294967296) 0)).fin) := hR.out.trans (duoF_6 rfl hmb.out.symm ta c1); clear hmb; have hsd : Hid (sideF ⟨7, on, oa, ob⟩ t base = (#[.int .u32 base, .int .u32 ((base + 1) % 4294967296), .int .u32 0, .int .u32 ((base + 2) % 4294967296), .int .u32 0], 188)) := (if_neg (show ¬ (7 : Int) = 6 by decide)).trans (if_pos ta); clear hRP ta c1; go_upto_region 7 with (fail); clear y0 y1 y2 y3; have hsc := sidesC ⟨7, on, oa, ob⟩ t base w2; rw [hsd.out] at hsc; unfold ov at hsc; clear hsd; refine wp_region_lit ?_; refine Zd 38 XK Tryz.underlying38 ?_
     iterate 2 refine Zv ?_
     refine Zc 131 #[.agg #[.int .i64 7, .int .i64 on, .int .i64 oa, .int .i64 ob], .int .i64 t, .int .u32 base] (.tuple #[.agg #[.int .u32 base, .int .u32 ((base + 1) % 4294967296), .int .u32 0, .int .u32 ((base + 2) % 4294967296), .int .u32 0], .func (.func 188) #[] #[]]) hsc (fun w5 hb5 => ?_)
     iterate 3 refine Zv ?_
     refine wl_alloc rfl 214 rfl (.agg #[.int .u32 0, .int .u32 0, .int .u32 0, .int .u32 0, .int .u32 0]) #[.int .u32 0, .int .u32 0, .int .u32 0, .int .u32 0, .int .u32 0] (fun w => by kernel_rfl) rfl (fun wa kW XW l16 f16 => ?_); refine Zk ?_; refine wl_store rfl 214 (.tmp 15) (.tmp 52) rfl kW #[.int .u32 base, .int .u32 ((base + 1) % 4294967296), .int .u32 0, .int .u32 ((base + 2) % 4294967296), .int .u32 0] rfl rfl 214 _ XW (by kernel_rfl) rfl (by simp [Value.oneCell']) (fun w3 g1 g2 g3 g4 => ?_); refine Zk ?_; refine Zv ?_; have hb7 : Below w2.heap.size w2 w3 := (hb5.trans (l16.mono hb5.size)).trans (g3 _ (by have := hb5.size; simp only [Hid] at f16; omega))
     have hFW : ¬ (kW = bb) := by have := hB.lt bb rfl; have := hb5.size; simp only [Hid] at f16; omega
     replace XW := g1; clear l16 f16 g1 g2 g3 g4 hb5 hsc; replace XK := keep XK hb7; replace hkl : kB < w3.heap.size := blk_lt XK; have hkw2 : kW < w3.heap.size := blk_lt XW; replace hB := hB.below hb7; replace hU := hU.trans (Upd.of_below hb7); clear hb7; obtain ⟨y0, y1, y2, y3⟩ := cl4 XK; obtain ⟨z0, z1, z2, z3, z4⟩ := cl5 XW; go_wp2_with fail
     refine (Z2 XK hF hkl hU XW hFW (proveC hB (by simp <;> omega))).mono ?_
     clear y0 y1 y2 y3 z0 z1 z2 z3 z4; rintro e wd ⟨rfl, F', hB, XK, hF, hkl, hU, XW, hFW, hkw2⟩; obtain ⟨y0, y1, y2, y3⟩ := cl4 XK; obtain ⟨z0, z1, z2, z3, z4⟩ := cl5 XW; go_wp2_with fail
     refine (Z2 XK hF hkl hU XW hFW (doutC hB (by simp <;> omega))).mono ?_
     clear y0 y1 y2 y3 z0 z1 z2 z3 z4; rintro e wd ⟨rfl, F', hB, XK, hF, hkl, hU, XW, hFW, hkw2⟩; obtain ⟨y0, y1, y2, y3⟩ := cl4 XK; obtain ⟨z0, z1, z2, z3, z4⟩ := cl5 XW; go_wp2_with fail
     refine (Z2 XK hF hkl hU XW hFW (closeC hB (by simp <;> omega))).mono ?_
     clear y0 y1 y2 y3 z0 z1 z2 z3 z4; rintro e wd ⟨rfl, F', hB, XK, hF, hkl, hU, XW, hFW, hkw2⟩; obtain ⟨y0, y1, y2, y3⟩ := cl4 XK; obtain ⟨z0, z1, z2, z3, z4⟩ := cl5 XW; have hal := hal0.trans (hU.low _ (fun k e => by rw [e]; exact hbb) hws)
     have hcb := codeB hB ((ok_closeS (ok_doutS (ok_proveS ok_zero)))).1 (by simp <;> omega) ((ok_closeS (ok_doutS (ok_proveS ok_zero)))).2 (hI.below hal)
     rw [← hR.out] at hcb; clear hR; go_wp2_with fail; refine hcb.mono ?_; rintro e w' ⟨⟨v, rfl, hv1, hv2⟩, hb'⟩; go_wp2; go_ret2; exact fin1 hal hv1 hv2 hb'
   ·have qa : (t != oa) = true := by simp [ta]
    by_cases tb : t = ob
    ·have qb : (t != ob) = false := by simp [tb]
     by_cases c1 : call = 1
     ·subst c1
      replace hR : Hid (R = (closeS (sinS (claimS BS.zero ((base + 2) % 4294967296) t) ((base + 1) % 4294967296) base 0 ((base + 2) % 4294967296) 0)).fin) := hR.out.trans (duoF_7 rfl hmb.out.symm ta tb rfl); clear hmb; have hsd : Hid (sideF ⟨7, on, oa, ob⟩ t base = (#[.int .u32 ((base + 1) % 4294967296), .int .u32 base, .int .u32 0, .int .u32 ((base + 2) % 4294967296), .int .u32 0], 189)) := (if_neg (show ¬ (7 : Int) = 6 by decide)).trans (if_neg ta); clear hRP ta tb; go_upto_region 7 with (fail); clear y0 y1 y2 y3; have hsc := sidesC ⟨7, on, oa, ob⟩ t base w2; rw [hsd.out] at hsc; unfold ov at hsc; clear hsd; refine wp_region_lit ?_; refine Zd 38 XK Tryz.underlying38 ?_
      iterate 2 refine Zv ?_
      refine Zc 131 #[.agg #[.int .i64 7, .int .i64 on, .int .i64 oa, .int .i64 ob], .int .i64 t, .int .u32 base] (.tuple #[.agg #[.int .u32 ((base + 1) % 4294967296), .int .u32 base, .int .u32 0, .int .u32 ((base + 2) % 4294967296), .int .u32 0], .func (.func 189) #[] #[]]) hsc (fun w5 hb5 => ?_)
      iterate 3 refine Zv ?_
      refine wl_alloc rfl 214 rfl (.agg #[.int .u32 0, .int .u32 0, .int .u32 0, .int .u32 0, .int .u32 0]) #[.int .u32 0, .int .u32 0, .int .u32 0, .int .u32 0, .int .u32 0] (fun w => by kernel_rfl) rfl (fun wa kW XW l16 f16 => ?_); refine Zk ?_; refine wl_store rfl 214 (.tmp 15) (.tmp 52) rfl kW #[.int .u32 ((base + 1) % 4294967296), .int .u32 base, .int .u32 0, .int .u32 ((base + 2) % 4294967296), .int .u32 0] rfl rfl 214 _ XW (by kernel_rfl) rfl (by simp [Value.oneCell']) (fun w3 g1 g2 g3 g4 => ?_); refine Zk ?_; refine Zv ?_; have hb7 : Below w2.heap.size w2 w3 := (hb5.trans (l16.mono hb5.size)).trans (g3 _ (by have := hb5.size; simp only [Hid] at f16; omega))
      have hFW : ¬ (kW = bb) := by have := hB.lt bb rfl; have := hb5.size; simp only [Hid] at f16; omega
      replace XW := g1; clear l16 f16 g1 g2 g3 g4 hb5 hsc; replace XK := keep XK hb7; replace hkl : kB < w3.heap.size := blk_lt XK; have hkw2 : kW < w3.heap.size := blk_lt XW; replace hB := hB.below hb7; replace hU := hU.trans (Upd.of_below hb7); clear hb7; obtain ⟨y0, y1, y2, y3⟩ := cl4 XK; obtain ⟨z0, z1, z2, z3, z4⟩ := cl5 XW; go_wp2_with fail
      refine (Z2 XK hF hkl hU XW hFW (claimC hB (by simp <;> omega))).mono ?_
      clear y0 y1 y2 y3 z0 z1 z2 z3 z4; rintro e wd ⟨rfl, F', hB, XK, hF, hkl, hU, XW, hFW, hkw2⟩; obtain ⟨y0, y1, y2, y3⟩ := cl4 XK; obtain ⟨z0, z1, z2, z3, z4⟩ := cl5 XW; go_wp2_with fail
      refine (Z2 XK hF hkl hU XW hFW (sinC hB (by simp <;> omega))).mono ?_
      clear y0 y1 y2 y3 z0 z1 z2 z3 z4; rintro e wd ⟨rfl, F', hB, XK, hF, hkl, hU, XW, hFW, hkw2⟩; obtain ⟨y0, y1, y2, y3⟩ := cl4 XK; obtain ⟨z0, z1, z2, z3, z4⟩ := cl5 XW; go_wp2_with fail
      refine (Z2 XK hF hkl hU XW hFW (closeC hB (by simp <;> omega))).mono ?_
      clear y0 y1 y2 y3 z0 z1 z2 z3 z4; rintro e wd ⟨rfl, F', hB, XK, hF, hkl, hU, XW, hFW, hkw2⟩; obtain ⟨y0, y1, y2, y3⟩ := cl4 XK; obtain ⟨z0, z1, z2, z3, z4⟩ := cl5 XW; have hal := hal0.trans (hU.low _ (fun k e => by rw [e]; exact hbb) hws)
      have hcb := codeB hB ((ok_closeS (ok_sinS (ok_claimS ok_zero)))).1 (by simp <;> omega) ((ok_closeS (ok_sinS (ok_claimS ok_zero)))).2 (hI.below hal)
      rw [← hR.out] at hcb; clear hR; go_wp2_with fail; refine hcb.mono ?_; rintro e w' ⟨⟨v, rfl, hv1, hv2⟩, hb'⟩; go_wp2; go_ret2; exact fin1 hal hv1 hv2 hb'
     ·have q1 : (call == 1) = false := by simp [c1]
      replace hR : Hid (R = (closeS (doutS (proveS BS.zero ((base + 2) % 4294967296) t) ((base + 1) % 4294967296) base 0 ((base + 2) % 4294967296) 0)).fin) := hR.out.trans (duoF_8 rfl hmb.out.symm ta tb c1); clear hmb; have hsd : Hid (sideF ⟨7, on, oa, ob⟩ t base = (#[.int .u32 ((base + 1) % 4294967296), .int .u32 base, .int .u32 0, .int .u32 ((base + 2) % 4294967296), .int .u32 0], 189)) := (if_neg (show ¬ (7 : Int) = 6 by decide)).trans (if_neg ta); clear hRP ta tb c1; go_upto_region 7 with (fail); clear y0 y1 y2 y3; have hsc := sidesC ⟨7, on, oa, ob⟩ t base w2; rw [hsd.out] at hsc; unfold ov at hsc; clear hsd; refine wp_region_lit ?_; refine Zd 38 XK Tryz.underlying38 ?_
      iterate 2 refine Zv ?_
      refine Zc 131 #[.agg #[.int .i64 7, .int .i64 on, .int .i64 oa, .int .i64 ob], .int .i64 t, .int .u32 base] (.tuple #[.agg #[.int .u32 ((base + 1) % 4294967296), .int .u32 base, .int .u32 0, .int .u32 ((base + 2) % 4294967296), .int .u32 0], .func (.func 189) #[] #[]]) hsc (fun w5 hb5 => ?_)
      iterate 3 refine Zv ?_
      refine wl_alloc rfl 214 rfl (.agg #[.int .u32 0, .int .u32 0, .int .u32 0, .int .u32 0, .int .u32 0]) #[.int .u32 0, .int .u32 0, .int .u32 0, .int .u32 0, .int .u32 0] (fun w => by kernel_rfl) rfl (fun wa kW XW l16 f16 => ?_); refine Zk ?_; refine wl_store rfl 214 (.tmp 15) (.tmp 52) rfl kW #[.int .u32 ((base + 1) % 4294967296), .int .u32 base, .int .u32 0, .int .u32 ((base + 2) % 4294967296), .int .u32 0] rfl rfl 214 _ XW (by kernel_rfl) rfl (by simp [Value.oneCell']) (fun w3 g1 g2 g3 g4 => ?_); refine Zk ?_; refine Zv ?_; have hb7 : Below w2.heap.size w2 w3 := (hb5.trans (l16.mono hb5.size)).trans (g3 _ (by have := hb5.size; simp only [Hid] at f16; omega))
      have hFW : ¬ (kW = bb) := by have := hB.lt bb rfl; have := hb5.size; simp only [Hid] at f16; omega
      replace XW := g1; clear l16 f16 g1 g2 g3 g4 hb5 hsc; replace XK := keep XK hb7; replace hkl : kB < w3.heap.size := blk_lt XK; have hkw2 : kW < w3.heap.size := blk_lt XW; replace hB := hB.below hb7; replace hU := hU.trans (Upd.of_below hb7); clear hb7; obtain ⟨y0, y1, y2, y3⟩ := cl4 XK; obtain ⟨z0, z1, z2, z3, z4⟩ := cl5 XW; go_wp2_with fail
      refine (Z2 XK hF hkl hU XW hFW (proveC hB (by simp <;> omega))).mono ?_
      clear y0 y1 y2 y3 z0 z1 z2 z3 z4; rintro e wd ⟨rfl, F', hB, XK, hF, hkl, hU, XW, hFW, hkw2⟩; obtain ⟨y0, y1, y2, y3⟩ := cl4 XK; obtain ⟨z0, z1, z2, z3, z4⟩ := cl5 XW; go_wp2_with fail
      refine (Z2 XK hF hkl hU XW hFW (doutC hB (by simp <;> omega))).mono ?_
      clear y0 y1 y2 y3 z0 z1 z2 z3 z4; rintro e wd ⟨rfl, F', hB, XK, hF, hkl, hU, XW, hFW, hkw2⟩; obtain ⟨y0, y1, y2, y3⟩ := cl4 XK; obtain ⟨z0, z1, z2, z3, z4⟩ := cl5 XW; go_wp2_with fail
      refine (Z2 XK hF hkl hU XW hFW (closeC hB (by simp <;> omega))).mono ?_
      clear y0 y1 y2 y3 z0 z1 z2 z3 z4; rintro e wd ⟨rfl, F', hB, XK, hF, hkl, hU, XW, hFW, hkw2⟩; obtain ⟨y0, y1, y2, y3⟩ := cl4 XK; obtain ⟨z0, z1, z2, z3, z4⟩ := cl5 XW; have hal := hal0.trans (hU.low _ (fun k e => by rw [e]; exact hbb) hws)
      have hcb := codeB hB ((ok_closeS (ok_doutS (ok_proveS ok_zero)))).1 (by simp <;> omega) ((ok_closeS (ok_doutS (ok_proveS ok_zero)))).2 (hI.below hal)
      rw [← hR.out] at hcb; clear hR; go_wp2_with fail; refine hcb.mono ?_; rintro e w' ⟨⟨v, rfl, hv1, hv2⟩, hb'⟩; go_wp2; go_ret2; exact fin1 hal hv1 hv2 hb'
    ·have qb : (t != ob) = true := by simp [tb]
     replace hR : Hid (R = (BS.zero.set 7 4).fin) := hR.out.trans (duoF_9 rfl hmb.out.symm ta tb); clear hmb; clear hRP ta tb; go_wp2_with fail
     refine (Z1 XK hF hkl hU (setC hB (by simp <;> omega))).mono ?_
     clear y0 y1 y2 y3; rintro e wd ⟨rfl, F', hB, XK, hF, hkl, hU⟩; obtain ⟨y0, y1, y2, y3⟩ := cl4 XK; have hal := hal0.trans (hU.low _ (fun k e => by rw [e]; exact hbb) hws)
     have hcb := codeB hB ((ok_set _ _ ok_zero)).1 (by simp <;> omega) ((ok_set _ _ ok_zero)).2 (hI.below hal)
     rw [← hR.out] at hcb; clear hR; go_wp2_with fail; refine hcb.mono ?_; rintro e w' ⟨⟨v, rfl, hv1, hv2⟩, hb'⟩; go_wp2; go_ret2; exact fin1 hal hv1 hv2 hb'
  ·have q6 : (ok != 6) = true := by simp [k6]
   have q7 : (ok != 7) = true := by simp [k7]
   obtain rfl : R = ([], false) := hR.out.trans (duoF_n ⟨k6, k7⟩); clear hR hmb k6 k7; go_wp2
   all_goals go_ret2
   all_goals exact ⟨CodeR.no, hal0⟩
end Go.Proofs.YtbcgngfbbbfebaaGreatDoor
