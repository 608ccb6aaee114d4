/- The code of conditions, barriers, what is done once, as it is asked for. The two sides of a lock of two. -/
import Derived.Test.YtbcgngfbbbfebaaGreatDoorM18
import Derived.Test.YtbcgngfbbbfebaaGreatDoorM02
import Derived.Test.YtbcgngfbbbfebaaGreatDoorChecked
import Derived.Test.YtbcgngfbbbfebaaGreatDoorM08
namespace Go.Proofs.YtbcgngfbbbfebaaGreatDoor
open Go.RowKit Go.Maps
set_option maxRecDepth 100000
set_option maxHeartbeats 32000000
set_option linter.unusedVariables false
set_option linter.unusedSimpArgs false
attribute [local simp] sz_alu sz_ask sz_beginS sz_biasedS sz_cas sz_changeS sz_claimS sz_clhInS sz_clhOutS sz_closeS sz_cond5S sz_cond6S sz_cond7S sz_cond8S sz_doutS sz_downS sz_emit sz_enterS sz_farS sz_finS sz_gdoneS sz_gmoreS sz_go sz_gwakeS sz_leaveS sz_mcsInS sz_mcsOutS sz_meetS sz_minS sz_mineS sz_moutS sz_mwakeS sz_otherS sz_passS sz_pinS sz_place sz_proveS sz_rclaimS sz_readS sz_rhasS sz_rreadS sz_rrelS sz_rsleepS sz_rwriteS sz_set sz_sinS sz_smoreS sz_takeS sz_tasS sz_ticketS sz_ttasS sz_upS sz_zero sz_zeroS
theorem barA {b : Nat} {F : Nat → Prop} {st : BS} {k n a b' t base arg : Int} {w : World} (hn : 1 ≤ n ∧ n ≤ 8) (ha : 0 ≤ arg ∧ arg < 4294967296) (ht : n ≤ t) (hB : BMem w b F st) (hs : st.sz ≤ 3500 := by first | omega | (simp <;> omega)) : Calls Tryz.prog 145 #[.pointer (some ⟨b, 0, none⟩), .agg #[.int .i64 k, .int .i64 n, .int .i64 a, .int .i64 b'], .int .i64 t, .int .u32 base, .int .u32 arg] w fun e w' => e = .returned (.tuple #[]) ∧ ∃ F', BMem w' b F' (st.set 7 4) ∧ Upd F F' w w' := by
 have hn0 := hn.1; have hn1 := hn.2; have a0 := ha.1; have a1 := ha.2; go_enter Tryz.func145, Tryz.ntmps145; go_upto_region 2 with (fail); obtain ⟨W, kB, e0, e1, XK, hal⟩ := box1 w #[.int .i64 k, .int .i64 n, .int .i64 a, .int .i64 b'] 38; rw [e0, e1]; clear e0 e1; have hU : Upd F F w W := Upd.of_below hal; replace hB := hB.below hal; have y1 := cell_of_row W kB 1 _ 38 _ XK; go_wp2_with fail; refine (setC hB (by omega)).mono ?_; rintro e w' ⟨rfl, F', hB', hU'⟩; go_wp2; go_end0; exact ⟨rfl, F', hB', hU.trans hU'⟩
theorem barB {b : Nat} {F : Nat → Prop} {st : BS} {k n a b' t base arg : Int} {w : World} (hn : 1 ≤ n ∧ n ≤ 8) (ha : 0 ≤ arg ∧ arg < 4294967296) (ht : t < n) (hx : arg ≠ n) (hB : BMem w b F st) (hs : st.sz ≤ 3500 := by first | omega | (simp <;> omega)) : Calls Tryz.prog 145 #[.pointer (some ⟨b, 0, none⟩), .agg #[.int .i64 k, .int .i64 n, .int .i64 a, .int .i64 b'], .int .i64 t, .int .u32 base, .int .u32 arg] w fun e w' => e = .returned (.tuple #[]) ∧ ∃ F', BMem w' b F' (st.set 7 3) ∧ Upd F F' w w' := by
 have hn0 := hn.1; have hn1 := hn.2; have a0 := ha.1; have a1 := ha.2
 have hq : (arg != n) = true := by simp [hx]
 go_enter Tryz.func145, Tryz.ntmps145; go_upto_region 2 with (fail); obtain ⟨W, kB, e0, e1, XK, hal⟩ := box1 w #[.int .i64 k, .int .i64 n, .int .i64 a, .int .i64 b'] 38; rw [e0, e1]; clear e0 e1; have hU : Upd F F w W := Upd.of_below hal; replace hB := hB.below hal; have y1 := cell_of_row W kB 1 _ 38 _ XK; go_wp2_with fail; refine (setC hB (by omega)).mono ?_; rintro e w' ⟨rfl, F', hB', hU'⟩; go_wp2; go_end0; exact ⟨rfl, F', hB', hU.trans hU'⟩
theorem barM {b : Nat} {F : Nat → Prop} {st : BS} {k n a b' t base arg : Int} {w : World} (hn : 1 ≤ n ∧ n ≤ 8) (ha : 0 ≤ arg ∧ arg < 4294967296) (ht : t < n) (hx : arg = n) (hB : BMem w b F st) (hs : st.sz ≤ 3500 := by first | omega | (simp <;> omega)) : Calls Tryz.prog 145 #[.pointer (some ⟨b, 0, none⟩), .agg #[.int .i64 k, .int .i64 n, .int .i64 a, .int .i64 b'], .int .i64 t, .int .u32 base, .int .u32 arg] w fun e w' => e = .returned (.tuple #[]) ∧ ∃ F', BMem w' b F' (meetS st n base) ∧ Upd F F' w w' := by
 have hn0 := hn.1; have hn1 := hn.2; have a0 := ha.1; have a1 := ha.2; replace hx := hx.symm; subst hx; go_enter Tryz.func145, Tryz.ntmps145; go_upto_region 2 with (fail); obtain ⟨W, kB, e0, e1, XK, hal⟩ := box1 w #[.int .i64 k, .int .i64 n, .int .i64 a, .int .i64 b'] 38; rw [e0, e1]; clear e0 e1; have hU : Upd F F w W := Upd.of_below hal; replace hB := hB.below hal; have y1 := cell_of_row W kB 1 _ 38 _ XK; go_wp2_with fail; refine (meetC hn hB (by omega)).mono ?_; rintro e w' ⟨rfl, F', hB', hU'⟩; go_wp2; go_end0; exact ⟨rfl, F', hB', hU.trans hU'⟩
def gateF (o : O) (call th t base arg : Int) : List Ins × Bool :=
 if o.k = 12 then (if mayS o call th t = true then (if call = 5 then (cond5S BS.zero t base).fin else (if call = 6 then (cond6S BS.zero t base).fin else (if call = 7 then (cond7S BS.zero t base).fin else (cond8S BS.zero t base).fin))) else ([], false)) else (if o.k = 13 then (if mayS o call th t = true then (if o.n ≤ t then (BS.zero.set 7 4).fin else (if arg = o.n then (meetS BS.zero o.n base).fin else (BS.zero.set 7 3).fin)) else ([], false)) else (if o.k = 15 then (if mayS o call th t = true then (if call = 9 then (enterS BS.zero t base).fin else (gdoneS BS.zero t base).fin) else ([], false)) else (([], false))))
theorem gateF_n {o : O} {call th t base arg : Int} (h : o.k ≠ 12 ∧ o.k ≠ 13 ∧ o.k ≠ 15) : gateF o call th t base arg = ([], false) := by unfold gateF; rw [if_neg (show ¬ o.k = 12 by omega), if_neg (show ¬ o.k = 13 by omega), if_neg (show ¬ o.k = 15 by omega)]
theorem gateF_f {o : O} {call th t base arg : Int} (h : mayS o call th t = false) : gateF o call th t base arg = ([], false) := by
 unfold gateF; rw [h]; simp only [Bool.false_eq_true, if_false, ite_self]
theorem gateF_0 {o : O} {call th t base arg : Int} (k : o.k = 12) (h : mayS o call th t = true) (c0 : (call = 5)) : gateF o call th t base arg = (cond5S BS.zero t base).fin := by unfold gateF; rw [if_pos k, if_pos h, if_pos c0]
theorem gateF_1 {o : O} {call th t base arg : Int} (k : o.k = 12) (h : mayS o call th t = true) (c0 : ¬ (call = 5)) (c1 : (call = 6)) : gateF o call th t base arg = (cond6S BS.zero t base).fin := by unfold gateF; rw [if_pos k, if_pos h, if_neg c0, if_pos c1]
theorem gateF_2 {o : O} {call th t base arg : Int} (k : o.k = 12) (h : mayS o call th t = true) (c0 : ¬ (call = 5)) (c1 : ¬ (call = 6)) (c2 : (call = 7)) : gateF o call th t base arg = (cond7S BS.zero t base).fin := by unfold gateF; rw [if_pos k, if_pos h, if_neg c0, if_neg c1, if_pos c2]
theorem gateF_3 {o : O} {call th t base arg : Int} (k : o.k = 12) (h : mayS o call th t = true) (c0 : ¬ (call = 5)) (c1 : ¬ (call = 6)) (c2 : ¬ (call = 7)) : gateF o call th t base arg = (cond8S BS.zero t base).fin := by unfold gateF; rw [if_pos k, if_pos h, if_neg c0, if_neg c1, if_neg c2]
theorem gateF_4 {o : O} {call th t base arg : Int} (k : o.k = 13) (h : mayS o call th t = true) (c0 : (o.n ≤ t)) : gateF o call th t base arg = (BS.zero.set 7 4).fin := by unfold gateF; rw [if_neg (show ¬ o.k = 12 by omega), if_pos k, if_pos h, if_pos c0]
theorem gateF_5 {o : O} {call th t base arg : Int} (k : o.k = 13) (h : mayS o call th t = true) (c0 : ¬ (o.n ≤ t)) (c1 : (arg = o.n)) : gateF o call th t base arg = (meetS BS.zero o.n base).fin := by unfold gateF; rw [if_neg (show ¬ o.k = 12 by omega), if_pos k, if_pos h, if_neg c0, if_pos c1]
theorem gateF_6 {o : O} {call th t base arg : Int} (k : o.k = 13) (h : mayS o call th t = true) (c0 : ¬ (o.n ≤ t)) (c1 : ¬ (arg = o.n)) : gateF o call th t base arg = (BS.zero.set 7 3).fin := by unfold gateF; rw [if_neg (show ¬ o.k = 12 by omega), if_pos k, if_pos h, if_neg c0, if_neg c1]
theorem gateF_7 {o : O} {call th t base arg : Int} (k : o.k = 15) (h : mayS o call th t = true) (c0 : (call = 9)) : gateF o call th t base arg = (enterS BS.zero t base).fin := by unfold gateF; rw [if_neg (show ¬ o.k = 12 by omega), if_neg (show ¬ o.k = 13 by omega), if_pos k, if_pos h, if_pos c0]
theorem gateF_8 {o : O} {call th t base arg : Int} (k : o.k = 15) (h : mayS o call th t = true) (c0 : ¬ (call = 9)) : gateF o call th t base arg = (gdoneS BS.zero t base).fin := by unfold gateF; rw [if_neg (show ¬ o.k = 12 by omega), if_neg (show ¬ o.k = 13 by omega), if_pos k, if_pos h, if_neg c0]
theorem gateCode (o : O) (call th t base arg : Int) (harg : 0 ≤ arg ∧ arg < 4294967296) (w : World) (hN : NmW w) (hI : IsaW w) : Calls Tryz.prog 92 #[ov o, .int .i64 call, .int .i64 th, .int .i64 t, .int .u32 base, .int .u32 arg] w fun e w' => CodeR w w' (gateF o call th t base arg) e ∧ Below w.heap.size w w' := by
 obtain ⟨hr0, hr1⟩ := harg; obtain ⟨R, hR⟩ : ∃ R, Hid (R = gateF o call th t base arg) := ⟨_, rfl⟩; rw [← hR.out]; have hM := fun w' (hb : Below w.heap.size w w') => spinMay o call th t w' (hN.below hb); have hRP := fun h => (mayS_tt (o := o) (c := call) (t := th) (u := t) h); obtain ⟨mb, hmb⟩ : ∃ q, Hid (q = mayS o call th t) := ⟨_, rfl⟩; rw [← hmb.out] at hM hRP; obtain ⟨ok, on, oa, ob⟩ := o; unfold ov at hM ⊢; simp only at hRP; go_enter Tryz.func92, Tryz.ntmps92; go_upto_region 1 with (fail); obtain ⟨W, kB, e0, e1, XK, hal0⟩ := box1 w #[.int .i64 ok, .int .i64 on, .int .i64 oa, .int .i64 ob] 38; rw [e0, e1]; have hkw : w.heap.size ≤ kB := Nat.le_of_eq e1; clear e0 e1; obtain ⟨y0, y1, y2, y3⟩ := cl4 XK
 by_cases k12 : ok = 12
 ·subst k12
  go_wp2_with fail; refine (hM W hal0).mono ?_; rintro e w1 ⟨rfl, hb1⟩; clear y0 y1 y2 y3 hM; replace XK := keep XK hb1; replace hal0 := hal0.trans (hb1.mono hal0.size); clear hb1; obtain ⟨y0, y1, y2, y3⟩ := cl4 XK; cases mb
  ·obtain rfl : R = ([], false) := hR.out.trans (gateF_f hmb.out.symm)
   clear hR hmb; go_wp2; go_ret2; exact ⟨CodeR.no, hal0⟩
  go_upto_region 4 with (fail); obtain ⟨w2, bb, e0, e1, XB, hb2⟩ := box1 w1 #[.slice none 0 0, .map none, .slice none 0 0, .bool false] 202; rw [e0, e1]; have hbb' : w1.heap.size = bb := e1; clear e0 e1 y0 y1 y2 y3
  have hbb : w.heap.size ≤ bb := by have := hal0.size; omega
  have hF : ¬ (kB = bb) := by have := blk_lt XK; omega
  replace XK := keep XK hb2; have hB := zero_mem XB; have hU : Upd (fun k => k = bb) (fun k => k = bb) w2 w2 := Upd.refl _ _; replace hal0 := hal0.trans (hb2.mono hal0.size); have hws : w.heap.size ≤ w2.heap.size := hal0.size; have hkl : kB < w2.heap.size := blk_lt XK; clear hb2 XB hbb'; obtain ⟨y0, y1, y2, y3⟩ := cl4 XK
  obtain ⟨hmay, hwho, hrp⟩ := hRP (by first | rfl | trivial)
  have htab := may_tab hmay
  try simp only at htab
  by_cases c5 : call = 5
  ·subst c5
   replace hR : Hid (R = (cond5S BS.zero t base).fin) := hR.out.trans (gateF_0 rfl hmb.out.symm rfl); clear hmb; clear hRP; go_wp2_with fail
   refine (Z1 XK hF hkl hU (cond5C hB (by simp <;> omega))).mono ?_
   clear y0 y1 y2 y3; rintro e wd ⟨rfl, F', hB, XK, hF, hkl, hU⟩; obtain ⟨y0, y1, y2, y3⟩ := cl4 XK; have hal := hal0.trans (hU.low _ (fun k e => by rw [e]; exact hbb) hws)
   have hcb := codeB hB ((ok_cond5S ok_zero)).1 (by simp <;> omega) ((ok_cond5S ok_zero)).2 (hI.below hal)
   rw [← hR.out] at hcb; clear hR; go_wp2_with fail; refine hcb.mono ?_; rintro e w' ⟨⟨v, rfl, hv1, hv2⟩, hb'⟩; go_wp2; go_ret2; exact fin1 hal hv1 hv2 hb'
  ·have q5 : (call == 5) = false := by simp [c5]
   by_cases c6 : call = 6
   ·subst c6
    replace hR : Hid (R = (cond6S BS.zero t base).fin) := hR.out.trans (gateF_1 rfl hmb.out.symm c5 rfl); clear hmb; clear hRP c5; go_wp2_with fail
    refine (Z1 XK hF hkl hU (cond6C hB (by simp <;> omega))).mono ?_
    clear y0 y1 y2 y3; rintro e wd ⟨rfl, F', hB, XK, hF, hkl, hU⟩; obtain ⟨y0, y1, y2, y3⟩ := cl4 XK; have hal := hal0.trans (hU.low _ (fun k e => by rw [e]; exact hbb) hws)
    have hcb := codeB hB ((ok_cond6S ok_zero)).1 (by simp <;> omega) ((ok_cond6S ok_zero)).2 (hI.below hal)
    rw [← hR.out] at hcb; clear hR; go_wp2_with fail; refine hcb.mono ?_; rintro e w' ⟨⟨v, rfl, hv1, hv2⟩, hb'⟩; go_wp2; go_ret2; exact fin1 hal hv1 hv2 hb'
   ·have q6 : (call == 6) = false := by simp [c6]
    by_cases c7 : call = 7
    ·subst c7
     replace hR : Hid (R = (cond7S BS.zero t base).fin) := hR.out.trans (gateF_2 rfl hmb.out.symm c5 c6 rfl); clear hmb; clear hRP c5 c6; go_wp2_with fail
     refine (Z1 XK hF hkl hU (cond7C hB (by simp <;> omega))).mono ?_
     clear y0 y1 y2 y3; rintro e wd ⟨rfl, F', hB, XK, hF, hkl, hU⟩; obtain ⟨y0, y1, y2, y3⟩ := cl4 XK; have hal := hal0.trans (hU.low _ (fun k e => by rw [e]; exact hbb) hws)
     have hcb := codeB hB ((ok_cond7S ok_zero)).1 (by simp <;> omega) ((ok_cond7S ok_zero)).2 (hI.below hal)
     rw [← hR.out] at hcb; clear hR; go_wp2_with fail; refine hcb.mono ?_; rintro e w' ⟨⟨v, rfl, hv1, hv2⟩, hb'⟩; go_wp2; go_ret2; exact fin1 hal hv1 hv2 hb'
    ·have q7 : (call == 7) = false := by simp [c7]
     replace hR : Hid (R = (cond8S BS.zero t base).fin) := hR.out.trans (gateF_3 rfl hmb.out.symm c5 c6 c7); clear hmb
     obtain rfl : call = 8 := by omega
     clear hRP c5 c6 c7; go_wp2_with fail
     refine (Z1 XK hF hkl hU (cond8C hB (by simp <;> omega))).mono ?_
     clear y0 y1 y2 y3; rintro e wd ⟨rfl, F', hB, XK, hF, hkl, hU⟩; obtain ⟨y0, y1, y2, y3⟩ := cl4 XK; have hal := hal0.trans (hU.low _ (fun k e => by rw [e]; exact hbb) hws)
     have hcb := codeB hB ((ok_cond8S ok_zero)).1 (by simp <;> omega) ((ok_cond8S ok_zero)).2 (hI.below hal)
     rw [← hR.out] at hcb; clear hR; go_wp2_with fail; refine hcb.mono ?_; rintro e w' ⟨⟨v, rfl, hv1, hv2⟩, hb'⟩; go_wp2; go_ret2; exact fin1 hal hv1 hv2 hb'
 ·by_cases k13 : ok = 13
  ·subst k13
   go_wp2_with fail; refine (hM W hal0).mono ?_; rintro e w1 ⟨rfl, hb1⟩; clear y0 y1 y2 y3 hM; replace XK := keep XK hb1; replace hal0 := hal0.trans (hb1.mono hal0.size); clear hb1; obtain ⟨y0, y1, y2, y3⟩ := cl4 XK; cases mb
   ·obtain rfl : R = ([], false) := hR.out.trans (gateF_f hmb.out.symm)
    clear hR hmb; go_wp2; go_ret2; exact ⟨CodeR.no, hal0⟩
   have hon : 1 ≤ on ∧ on ≤ 8 := by
    have hrp := (hRP (by first | rfl | trivial)).2.2
    unfold RP at hrp; simp only at hrp; omega
   obtain ⟨hn1, hn8⟩ := hon; go_upto_region 4 with (fail); obtain ⟨w2, bb, e0, e1, XB, hb2⟩ := box1 w1 #[.slice none 0 0, .map none, .slice none 0 0, .bool false] 202; rw [e0, e1]; have hbb' : w1.heap.size = bb := e1; clear e0 e1 y0 y1 y2 y3
   have hbb : w.heap.size ≤ bb := by have := hal0.size; omega
   have hF : ¬ (kB = bb) := by have := blk_lt XK; omega
   replace XK := keep XK hb2; have hB := zero_mem XB; have hU : Upd (fun k => k = bb) (fun k => k = bb) w2 w2 := Upd.refl _ _; replace hal0 := hal0.trans (hb2.mono hal0.size); have hws : w.heap.size ≤ w2.heap.size := hal0.size; have hkl : kB < w2.heap.size := blk_lt XK; clear hb2 XB hbb'; obtain ⟨y0, y1, y2, y3⟩ := cl4 XK
   obtain ⟨hmay, hwho, hrp⟩ := hRP (by first | rfl | trivial)
   have htab := may_tab hmay
   try simp only at htab
   by_cases cb : on ≤ t
   ·replace hR : Hid (R = (BS.zero.set 7 4).fin) := hR.out.trans (gateF_4 rfl hmb.out.symm cb)
    clear hmb; have cb' := cb; clear hRP cb; go_wp2_with fail
    refine (Z1 XK hF hkl hU (barA ⟨hn1, hn8⟩ ⟨hr0, hr1⟩ cb' hB (by simp <;> omega))).mono ?_
    clear y0 y1 y2 y3; rintro e wd ⟨rfl, F', hB, XK, hF, hkl, hU⟩; obtain ⟨y0, y1, y2, y3⟩ := cl4 XK; have hal := hal0.trans (hU.low _ (fun k e => by rw [e]; exact hbb) hws)
    have hcb := codeB hB ((ok_set _ _ ok_zero)).1 (by simp <;> omega) ((ok_set _ _ ok_zero)).2 (hI.below hal)
    rw [← hR.out] at hcb; clear hR; go_wp2_with fail; refine hcb.mono ?_; rintro e w' ⟨⟨v, rfl, hv1, hv2⟩, hb'⟩; go_wp2; go_ret2; exact fin1 hal hv1 hv2 hb'
   ·by_cases cx : arg = on
    ·replace hR : Hid (R = (meetS BS.zero on base).fin) := hR.out.trans (gateF_5 rfl hmb.out.symm (by omega) cx)
     clear hmb
     have cb' : t < on := by omega
     have cx' : Hid (arg = on) := cx; clear hRP cb cx; go_wp2_with fail
     refine (Z1 XK hF hkl hU (barM ⟨hn1, hn8⟩ ⟨hr0, hr1⟩ cb' cx'.out hB (by simp <;> omega))).mono ?_
     clear y0 y1 y2 y3; rintro e wd ⟨rfl, F', hB, XK, hF, hkl, hU⟩; obtain ⟨y0, y1, y2, y3⟩ := cl4 XK; have hal := hal0.trans (hU.low _ (fun k e => by rw [e]; exact hbb) hws)
     have hcb := codeB hB ((ok_meetS ok_zero)).1 (by simp <;> omega) ((ok_meetS ok_zero)).2 (hI.below hal)
     rw [← hR.out] at hcb; clear hR; go_wp2_with fail; refine hcb.mono ?_; rintro e w' ⟨⟨v, rfl, hv1, hv2⟩, hb'⟩; go_wp2; go_ret2; exact fin1 hal hv1 hv2 hb'
    ·replace hR : Hid (R = (BS.zero.set 7 3).fin) := hR.out.trans (gateF_6 rfl hmb.out.symm (by omega) cx)
     clear hmb
     have cb' : t < on := by omega
     have cx' : Hid (¬ arg = on) := cx; clear hRP cb cx; go_wp2_with fail
     refine (Z1 XK hF hkl hU (barB ⟨hn1, hn8⟩ ⟨hr0, hr1⟩ cb' cx'.out hB (by simp <;> omega))).mono ?_
     clear y0 y1 y2 y3; rintro e wd ⟨rfl, F', hB, XK, hF, hkl, hU⟩; obtain ⟨y0, y1, y2, y3⟩ := cl4 XK; have hal := hal0.trans (hU.low _ (fun k e => by rw [e]; exact hbb) hws)
     have hcb := codeB hB ((ok_set _ _ ok_zero)).1 (by simp <;> omega) ((ok_set _ _ ok_zero)).2 (hI.below hal)
     rw [← hR.out] at hcb; clear hR; go_wp2_with fail; refine hcb.mono ?_; rintro e w' ⟨⟨v, rfl, hv1, hv2⟩, hb'⟩; go_wp2; go_ret2; exact fin1 hal hv1 hv2 hb'
  ·by_cases k15 : ok = 15
   ·subst k15
    go_wp2_with fail; refine (hM W hal0).mono ?_; rintro e w1 ⟨rfl, hb1⟩; clear y0 y1 y2 y3 hM; replace XK := keep XK hb1; replace hal0 := hal0.trans (hb1.mono hal0.size); clear hb1; obtain ⟨y0, y1, y2, y3⟩ := cl4 XK; cases mb
    ·obtain rfl : R = ([], false) := hR.out.trans (gateF_f hmb.out.symm)
     clear hR hmb; go_wp2; go_ret2; exact ⟨CodeR.no, hal0⟩
    go_upto_region 4 with (fail); obtain ⟨w2, bb, e0, e1, XB, hb2⟩ := box1 w1 #[.slice none 0 0, .map none, .slice none 0 0, .bool false] 202; rw [e0, e1]; have hbb' : w1.heap.size = bb := e1; clear e0 e1 y0 y1 y2 y3
    have hbb : w.heap.size ≤ bb := by have := hal0.size; omega
    have hF : ¬ (kB = bb) := by have := blk_lt XK; omega
    replace XK := keep XK hb2; have hB := zero_mem XB; have hU : Upd (fun k => k = bb) (fun k => k = bb) w2 w2 := Upd.refl _ _; replace hal0 := hal0.trans (hb2.mono hal0.size); have hws : w.heap.size ≤ w2.heap.size := hal0.size; have hkl : kB < w2.heap.size := blk_lt XK; clear hb2 XB hbb'; obtain ⟨y0, y1, y2, y3⟩ := cl4 XK
    obtain ⟨hmay, hwho, hrp⟩ := hRP (by first | rfl | trivial)
    have htab := may_tab hmay
    try simp only at htab
    by_cases c9 : call = 9
    ·subst c9
     replace hR : Hid (R = (enterS BS.zero t base).fin) := hR.out.trans (gateF_7 rfl hmb.out.symm rfl); clear hmb; clear hRP; go_wp2_with fail
     refine (Z1 XK hF hkl hU (enterC hB (by simp <;> omega))).mono ?_
     clear y0 y1 y2 y3; rintro e wd ⟨rfl, F', hB, XK, hF, hkl, hU⟩; obtain ⟨y0, y1, y2, y3⟩ := cl4 XK; have hal := hal0.trans (hU.low _ (fun k e => by rw [e]; exact hbb) hws)
     have hcb := codeB hB ((ok_enterS ok_zero)).1 (by simp <;> omega) ((ok_enterS ok_zero)).2 (hI.below hal)
     rw [← hR.out] at hcb; clear hR; go_wp2_with fail; refine hcb.mono ?_; rintro e w' ⟨⟨v, rfl, hv1, hv2⟩, hb'⟩; go_wp2; go_ret2; exact fin1 hal hv1 hv2 hb'
    ·have q9 : (call == 9) = false := by simp [c9]
     replace hR : Hid (R = (gdoneS BS.zero t base).fin) := hR.out.trans (gateF_8 rfl hmb.out.symm c9); clear hmb; clear hRP c9; go_wp2_with fail
     refine (Z1 XK hF hkl hU (gdoneC hB (by simp <;> omega))).mono ?_
     clear y0 y1 y2 y3; rintro e wd ⟨rfl, F', hB, XK, hF, hkl, hU⟩; obtain ⟨y0, y1, y2, y3⟩ := cl4 XK; have hal := hal0.trans (hU.low _ (fun k e => by rw [e]; exact hbb) hws)
     have hcb := codeB hB ((ok_gdoneS ok_zero)).1 (by simp <;> omega) ((ok_gdoneS ok_zero)).2 (hI.below hal)
     rw [← hR.out] at hcb; clear hR; go_wp2_with fail; refine hcb.mono ?_; rintro e w' ⟨⟨v, rfl, hv1, hv2⟩, hb'⟩; go_wp2; go_ret2; exact fin1 hal hv1 hv2 hb'
   ·have q12 : (ok == 12) = false := by simp [k12]
    have q13 : (ok == 13) = false := by simp [k13]
    have q15 : (ok == 15) = false := by simp [k15]
    obtain rfl : R = ([], false) := hR.out.trans (gateF_n ⟨k12, k13, k15⟩); clear hR hmb k12 k13 k15 hRP; go_wp2_with fail; refine (hM W hal0).mono ?_; rintro e w1 ⟨rfl, hb1⟩; clear y0 y1 y2 y3 hM; replace XK := keep XK hb1; replace hal0 := hal0.trans (hb1.mono hal0.size); clear hb1; obtain ⟨y0, y1, y2, y3⟩ := cl4 XK; cases mb
    ·go_wp2
     go_ret2; exact ⟨CodeR.no, hal0⟩
    go_upto_region 4 with (fail); obtain ⟨w2, bb, e0, e1, XB, hb2⟩ := box1 w1 #[.slice none 0 0, .map none, .slice none 0 0, .bool false] 202; rw [e0, e1]; clear e0 e1 y0 y1 y2 y3; replace XK := keep XK hb2; replace hal0 := hal0.trans (hb2.mono hal0.size); obtain ⟨y0, y1, y2, y3⟩ := cl4 XK; go_wp2; go_ret2; exact ⟨CodeR.no, hal0⟩
end Go.Proofs.YtbcgngfbbbfebaaGreatDoor
namespace Go.Proofs.YtbcgngfbbbfebaaGreatDoor
open Go.RowKit Go.Maps
set_option maxRecDepth 100000
set_option maxHeartbeats 32000000
set_option linter.unusedVariables false
set_option linter.unusedSimpArgs false
theorem ret_side {fn : Func} {R : Ending → World → Prop} {a : Act} {w : World} {c u : Tmp} (hr : fn.results = #[.cell c 214, .tmp u]) (b : Nat) (cs : Array Value) (f : Value) (hd : a.defers = []) (hx : a.tmps.getD c undef = .pointer (some ⟨b, 0, none⟩)) (hok : a.tmps.getD u undef = f)
  (hg : w.heap[b]? = some (.cells cs 214 (0, 0))) (hsz : cs.size = 5) (hR : R (.returned (.tuple #[.agg cs, f])) w) : bodyPost Tryz.prog fn R .ret a w := by
 refine bodyPost_ret (v := .tuple #[.agg cs, f]) ?_ hd hR
 have hi : (Tryz.prog.info? 214).map (·.size) = some cs.size := by rw [hsz]; kernel_rfl
 have hl := run_loadVar_row (P := Tryz.prog) w b 214 214 cs (0, 0) _ hg Tryz.underlying214 rfl hi; rw [results_cell_tmp hr, hx, hok]; simp only [asAddr, Sem.run_pure, Result.andThen_ok, hl]
def sideF (o : O) (t base : Int) : Array Value × Nat :=
 if o.k = 6 then (if t = o.a then (#[.int .u32 base, .int .u32 ((base + 1) % 4294967296), .int .u32 ((base + 2) % 4294967296), .int .u32 ((base + 3) % 4294967296), .int .u32 1], 187)
  else (#[.int .u32 ((base + 1) % 4294967296), .int .u32 base, .int .u32 ((base + 2) % 4294967296), .int .u32 ((base + 3) % 4294967296), .int .u32 0], 187))
 else if t = o.a then (#[.int .u32 base, .int .u32 ((base + 1) % 4294967296), .int .u32 0, .int .u32 ((base + 2) % 4294967296), .int .u32 0], 188)
 else (#[.int .u32 ((base + 1) % 4294967296), .int .u32 base, .int .u32 0, .int .u32 ((base + 2) % 4294967296), .int .u32 0], 189)
theorem sidesC (o : O) (t base : Int) (w : World) : Calls Tryz.prog 131 #[ov o, .int .i64 t, .int .u32 base] w fun e w' => e = .returned (.tuple #[.agg (sideF o t base).1, .func (.func (sideF o t base).2) #[] #[]]) ∧ Below w.heap.size w w' := by
 obtain ⟨ok, on, oa, ob⟩ := o; obtain ⟨R, hR⟩ : ∃ R, Hid (R = sideF ⟨ok, on, oa, ob⟩ t base) := ⟨_, rfl⟩; rw [← hR.out]; unfold ov
 by_cases k6 : ok = 6
 ·subst k6
  by_cases ha : t = oa
  ·have qa : (t == oa) = true := by simp [ha]
   obtain rfl : R = (#[.int .u32 base, .int .u32 ((base + 1) % 4294967296), .int .u32 ((base + 2) % 4294967296), .int .u32 ((base + 3) % 4294967296), .int .u32 1], 187) := hR.out.trans ((if_pos rfl).trans (if_pos ha)); clear hR ha; go_enter Tryz.func131, Tryz.ntmps131; go_upto_region 1 with (fail); obtain ⟨W, b3, b6, e0, e1, e2, X3, X6, hal⟩ := box2 w #[.int .i64 6, .int .i64 on, .int .i64 oa, .int .i64 ob] #[.int .u32 0, .int .u32 0, .int .u32 0, .int .u32 0, .int .u32 0] 38 214; rw [e0, e2, e1]
   have z6 : w.heap.size ≤ b6 := by omega
   clear e0 e1 e2; obtain ⟨y0, y1, y2, y3⟩ := cl4 X3; go_upto_region 2 with (fail); clear y0 y1 y2 y3; refine wp_region_lit ?_
   iterate 7 refine Zv ?_
   refine wl_val rfl (.agg #[.int .u32 base, .int .u32 ((base + 1) % 4294967296), .int .u32 ((base + 2) % 4294967296), .int .u32 ((base + 3) % 4294967296), .int .u32 1]) ?_ ?_
   ·go_simp; try (simp only [IntKind.wrap_u32]); try simp
   refine Zk ?_; refine wl_store rfl 214 (.tmp 6) (.tmp 25) rfl b6 #[.int .u32 base, .int .u32 ((base + 1) % 4294967296), .int .u32 ((base + 2) % 4294967296), .int .u32 ((base + 3) % 4294967296), .int .u32 1] rfl rfl 214 _ X6 (by kernel_rfl) rfl (by simp [Value.oneCell']) (fun we m1 m2 m3 m4 => ?_); refine Zk ?_; refine wl_val rfl (.func (.func 187) #[] #[]) ?_ ?_
   ·go_simp; try rfl
   refine Zk ?_; go_wp2; exact ret_side rfl b6 _ _ rfl rfl rfl m1 rfl ⟨rfl, hal.trans (m3 _ z6)⟩
  ·have qa : (t == oa) = false := by simp [ha]
   obtain rfl : R = (#[.int .u32 ((base + 1) % 4294967296), .int .u32 base, .int .u32 ((base + 2) % 4294967296), .int .u32 ((base + 3) % 4294967296), .int .u32 0], 187) := hR.out.trans ((if_pos rfl).trans (if_neg ha)); clear hR ha; go_enter Tryz.func131, Tryz.ntmps131; go_upto_region 1 with (fail); obtain ⟨W, b3, b6, e0, e1, e2, X3, X6, hal⟩ := box2 w #[.int .i64 6, .int .i64 on, .int .i64 oa, .int .i64 ob] #[.int .u32 0, .int .u32 0, .int .u32 0, .int .u32 0, .int .u32 0] 38 214; rw [e0, e2, e1]
   have z6 : w.heap.size ≤ b6 := by omega
   clear e0 e1 e2; obtain ⟨y0, y1, y2, y3⟩ := cl4 X3; go_upto_region 4 with (fail); clear y0 y1 y2 y3; refine wp_region_lit ?_
   iterate 7 refine Zv ?_
   refine wl_val rfl (.agg #[.int .u32 ((base + 1) % 4294967296), .int .u32 base, .int .u32 ((base + 2) % 4294967296), .int .u32 ((base + 3) % 4294967296), .int .u32 0]) ?_ ?_
   ·go_simp; try (simp only [IntKind.wrap_u32]); try simp
   refine Zk ?_; refine wl_store rfl 214 (.tmp 6) (.tmp 37) rfl b6 #[.int .u32 ((base + 1) % 4294967296), .int .u32 base, .int .u32 ((base + 2) % 4294967296), .int .u32 ((base + 3) % 4294967296), .int .u32 0] rfl rfl 214 _ X6 (by kernel_rfl) rfl (by simp [Value.oneCell']) (fun we m1 m2 m3 m4 => ?_); refine Zk ?_; refine wl_val rfl (.func (.func 187) #[] #[]) ?_ ?_
   ·go_simp; try rfl
   refine Zk ?_; go_wp2; exact ret_side rfl b6 _ _ rfl rfl rfl m1 rfl ⟨rfl, hal.trans (m3 _ z6)⟩
 ·by_cases ha : t = oa
  ·have qk : (ok == 6) = false := by simp [k6]
   have qa : (t == oa) = true := by simp [ha]
   obtain rfl : R = (#[.int .u32 base, .int .u32 ((base + 1) % 4294967296), .int .u32 0, .int .u32 ((base + 2) % 4294967296), .int .u32 0], 188) := hR.out.trans ((if_neg k6).trans (if_pos ha)); clear hR ha k6; go_enter Tryz.func131, Tryz.ntmps131; go_upto_region 1 with (fail); obtain ⟨W, b3, b6, e0, e1, e2, X3, X6, hal⟩ := box2 w #[.int .i64 ok, .int .i64 on, .int .i64 oa, .int .i64 ob] #[.int .u32 0, .int .u32 0, .int .u32 0, .int .u32 0, .int .u32 0] 38 214; rw [e0, e2, e1]
   have z6 : w.heap.size ≤ b6 := by omega
   clear e0 e1 e2; obtain ⟨y0, y1, y2, y3⟩ := cl4 X3; go_upto_region 6 with (fail); clear y0 y1 y2 y3; refine wp_region_lit ?_
   iterate 5 refine Zv ?_
   refine wl_val rfl (.agg #[.int .u32 base, .int .u32 ((base + 1) % 4294967296), .int .u32 0, .int .u32 ((base + 2) % 4294967296), .int .u32 0]) ?_ ?_
   ·go_simp; try (simp only [IntKind.wrap_u32]); try simp
   refine Zk ?_; refine wl_store rfl 214 (.tmp 6) (.tmp 48) rfl b6 #[.int .u32 base, .int .u32 ((base + 1) % 4294967296), .int .u32 0, .int .u32 ((base + 2) % 4294967296), .int .u32 0] rfl rfl 214 _ X6 (by kernel_rfl) rfl (by simp [Value.oneCell']) (fun we m1 m2 m3 m4 => ?_); refine Zk ?_; refine wl_val rfl (.func (.func 188) #[] #[]) ?_ ?_
   ·go_simp; try rfl
   refine Zk ?_; go_wp2; exact ret_side rfl b6 _ _ rfl rfl rfl m1 rfl ⟨rfl, hal.trans (m3 _ z6)⟩
  ·have qk : (ok == 6) = false := by simp [k6]
   have qa : (t == oa) = false := by simp [ha]
   obtain rfl : R = (#[.int .u32 ((base + 1) % 4294967296), .int .u32 base, .int .u32 0, .int .u32 ((base + 2) % 4294967296), .int .u32 0], 189) := hR.out.trans ((if_neg k6).trans (if_neg ha)); clear hR ha k6; go_enter Tryz.func131, Tryz.ntmps131; go_upto_region 1 with (fail); obtain ⟨W, b3, b6, e0, e1, e2, X3, X6, hal⟩ := box2 w #[.int .i64 ok, .int .i64 on, .int .i64 oa, .int .i64 ob] #[.int .u32 0, .int .u32 0, .int .u32 0, .int .u32 0, .int .u32 0] 38 214; rw [e0, e2, e1]
   have z6 : w.heap.size ≤ b6 := by omega
   clear e0 e1 e2; obtain ⟨y0, y1, y2, y3⟩ := cl4 X3; go_upto_region 7 with (fail); clear y0 y1 y2 y3; refine wp_region_lit ?_
   iterate 5 refine Zv ?_
   refine wl_val rfl (.agg #[.int .u32 ((base + 1) % 4294967296), .int .u32 base, .int .u32 0, .int .u32 ((base + 2) % 4294967296), .int .u32 0]) ?_ ?_
   ·go_simp; try (simp only [IntKind.wrap_u32]); try simp
   refine Zk ?_; refine wl_store rfl 214 (.tmp 6) (.tmp 54) rfl b6 #[.int .u32 ((base + 1) % 4294967296), .int .u32 base, .int .u32 0, .int .u32 ((base + 2) % 4294967296), .int .u32 0] rfl rfl 214 _ X6 (by kernel_rfl) rfl (by simp [Value.oneCell']) (fun we m1 m2 m3 m4 => ?_); refine Zk ?_; refine wl_val rfl (.func (.func 189) #[] #[]) ?_ ?_
   ·go_simp; try rfl
   refine Zk ?_; go_wp2; exact ret_side rfl b6 _ _ rfl rfl rfl m1 rfl ⟨rfl, hal.trans (m3 _ z6)⟩
end Go.Proofs.YtbcgngfbbbfebaaGreatDoor
