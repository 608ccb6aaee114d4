/- The code of locks that many may read, as it is asked for; the table of functions that it looks them up in. The code of a call, of whatever kind. Moved: code of which all places are so much greater. -/
import Derived.Test.YtbcgngfbbbfebaaGreatDoorM20
import Derived.Test.YtbcgngfbbbfebaaGreatDoorM07
import Derived.Test.YtbcgngfbbbfebaaGreatDoorM15
import Derived.Test.YtbcgngfbbbfebaaGreatDoorM06
import Derived.Test.YtbcgngfbbbfebaaGreatDoorM05
namespace Go.Proofs.YtbcgngfbbbfebaaGreatDoor
open Go.RowKit Go.Maps
set_option maxRecDepth 100000
set_option maxHeartbeats 32000000
set_option linter.unusedVariables false
set_option linter.unusedSimpArgs false
attribute [local simp] sz_alu sz_ask sz_beginS sz_biasedS sz_cas sz_changeS sz_claimS sz_clhInS sz_clhOutS sz_closeS sz_cond5S sz_cond6S sz_cond7S sz_cond8S sz_doutS sz_downS sz_emit sz_enterS sz_farS sz_finS sz_gdoneS sz_gmoreS sz_go sz_gwakeS sz_leaveS sz_mcsInS sz_mcsOutS sz_meetS sz_minS sz_mineS sz_moutS sz_mwakeS sz_otherS sz_passS sz_pinS sz_place sz_proveS sz_rclaimS sz_readS sz_rhasS sz_rreadS sz_rrelS sz_rsleepS sz_rwriteS sz_set sz_sinS sz_smoreS sz_takeS sz_tasS sz_ticketS sz_ttasS sz_upS sz_zero sz_zeroS
theorem law3 : Keyed Tryz.prog 3 := int_keyed Tryz.underlying3
def fnElem : Value → Option (DataW Unit × List MemPlace)
 | .nilFunc => some (.nil, [])
 | .func (.func f) a b => if a.size = 0 ∧ b.size = 0 then some (.lit (.int .i64 f), []) else none
 | _ => none
theorem fnElem_mk (f : Nat) : fnElem (.func (.func f) #[] #[]) = some (.lit (.int .i64 f), []) := rfl
theorem fnElem_inv {v : Value} {f : Nat} {ps : List MemPlace} (h : fnElem v = some (.lit (.int .i64 f), ps)) : v = .func (.func f) #[] #[] := by
 unfold fnElem at h
 split at h
 ·cases h
 ·rename_i g a b
  split at h
  ·rename_i hab
   simp only [Option.some.injEq, Prod.mk.injEq, DataW.lit.injEq, Lit.int.injEq, true_and] at h; have e : g = f := Int.ofNat_inj.1 h.1; subst e; rw [Array.eq_empty_of_size_eq_zero hab.1, Array.eq_empty_of_size_eq_zero hab.2]
  ·cases h
 ·cases h
section
variable {ops : Array Oper} {Q : Exit → Act → World → Prop}
theorem wl_mkmap {rest : List Oper} {o : Oper} {a : Act} {w : World} (hgd : o.guard = none) (ho : o.op = .makeMap 226 none)
  (h : ∀ (w' : World) (B : Nat), w'.ownsMap Tryz.prog 3 fnElem B 0 (.map []) → Below w.heap.size w w' → Hid (B = w.heap.size) → ∀ K : Act → World → Prop, (∀ a w, wpList Tryz.prog ops Q rest a w → K a w) → K (a.put o.dst (.map (some B))) w') : wpList Tryz.prog ops Q (o :: rest) a w := by
 refine wpList_plain hgd fun K hK => ?_
 unfold Oper.wp execOp; simp only [ho, Option.map_none, run_makeMap, Sem.run_bind, Result.andThen_ok]; exact h _ _ (World.ownsMap_made w Tryz.prog 3 fnElem) ((Below.refl _ _).alloc (Nat.le_refl _) _) rfl K hK
theorem wl_insf {rest : List Oper} {o : Oper} {a : Act} {w : World} (hgd : o.guard = none) (m x v : Operand) (ho : o.op = .insert 226 m x v) (B n : Nat) (D : DataW Unit) (k : Int) (f : Nat) (hk : (Lit.int .i64 k).wf = true)
  (hm : a.eval m = .map (some B)) (hx : a.eval x = .int .i64 k) (hv : a.eval v = .func (.func f) #[] #[]) (hown : w.ownsMap Tryz.prog 3 fnElem B n D) (hn : n < maxLen)
  (h : ∀ w', w'.ownsMap Tryz.prog 3 fnElem B (n + 1) (D.put (.int .i64 k) (.lit (.int .i64 f))) → w.grownBy w' (some B) → ∀ K : Act → World → Prop, (∀ a w, wpList Tryz.prog ops Q rest a w → K a w) → K (a.put o.dst undef) w') : wpList Tryz.prog ops Q (o :: rest) a w := by
 refine wpList_plain hgd fun K hK => ?_
 obtain ⟨w', hrun, r1, r2⟩ := hown.update law3 Tryz.underlying226 hn (keyOf_int_mk Tryz.underlying3 hk) (fnElem_mk f); unfold Oper.wp execOp; simp [ho, hm, hx, hv, hrun, Result.andThen]; exact h w' r1 r2 K hK
end
def fnMap : DataW Unit := ((DataW.put (.map []) (.int .i64 1) (.lit (.int .i64 (148 : Nat)))).put (.int .i64 3) (.lit (.int .i64 (149 : Nat)))).put (.int .i64 2) (.lit (.int .i64 (150 : Nat)))
theorem look_fn {w : World} {B n : Nat} (k : Int) (f : Nat) (hk : (Lit.int .i64 k).wf = true) (hown : w.ownsMap Tryz.prog 3 fnElem B n fnMap) (h : fnMap.atKey (.int .i64 k) .nil = .lit (.int .i64 f)) : (Instr.lookup 226 (.map (some B)) (.int .i64 k) false).run Tryz.prog w = .ok (.func (.func f) #[] #[]) w := by
 obtain ⟨v, ps, hrun, hv⟩ := hown.lookup law3 Tryz.underlying226 (z := .nilFunc) (zd := .nil) (zp := []) (by kernel_rfl) rfl (keyOf_int_mk Tryz.underlying3 hk); rw [h] at hv; rw [hrun, fnElem_inv hv]
def rwF (o : O) (call th t base arg : Int) : List Ins × Bool :=
 if o.k = 14 then (if mayS o call th t = true then (if call = 1 then (rwriteS BS.zero base ((base + 1 + t) % 4294967296)).fin else (if call = 2 then (rrelS BS.zero base ((base + 1 + t) % 4294967296)).fin else (rreadS BS.zero base ((base + 1 + t) % 4294967296)).fin)) else ([], false)) else (([], false))
theorem rwF_n {o : O} {call th t base arg : Int} (h : o.k ≠ 14) : rwF o call th t base arg = ([], false) := by unfold rwF; rw [if_neg (show ¬ o.k = 14 by omega)]
theorem rwF_f {o : O} {call th t base arg : Int} (h : mayS o call th t = false) : rwF o call th t base arg = ([], false) := by
 unfold rwF; rw [h]; simp only [Bool.false_eq_true, if_false, ite_self]
theorem rwF_0 {o : O} {call th t base arg : Int} (k : o.k = 14) (h : mayS o call th t = true) (c0 : (call = 1)) : rwF o call th t base arg = (rwriteS BS.zero base ((base + 1 + t) % 4294967296)).fin := by unfold rwF; rw [if_pos k, if_pos h, if_pos c0]
theorem rwF_1 {o : O} {call th t base arg : Int} (k : o.k = 14) (h : mayS o call th t = true) (c0 : ¬ (call = 1)) (c1 : (call = 2)) : rwF o call th t base arg = (rrelS BS.zero base ((base + 1 + t) % 4294967296)).fin := by unfold rwF; rw [if_pos k, if_pos h, if_neg c0, if_pos c1]
theorem rwF_2 {o : O} {call th t base arg : Int} (k : o.k = 14) (h : mayS o call th t = true) (c0 : ¬ (call = 1)) (c1 : ¬ (call = 2)) : rwF o call th t base arg = (rreadS BS.zero base ((base + 1 + t) % 4294967296)).fin := by unfold rwF; rw [if_pos k, if_pos h, if_neg c0, if_neg c1]
theorem rwCode (o : O) (call th t base arg : Int) (harg : 0 ≤ arg ∧ arg < 4294967296) (w : World) (hN : NmW w) (hI : IsaW w) : Calls Tryz.prog 93 #[ov o, .int .i64 call, .int .i64 th, .int .i64 t, .int .u32 base, .int .u32 arg] w fun e w' => CodeR w w' (rwF o call th t base arg) e ∧ Below w.heap.size w w' := by
 obtain ⟨hr0, hr1⟩ := harg; obtain ⟨R, hR⟩ : ∃ R, Hid (R = rwF o call th t base arg) := ⟨_, rfl⟩; rw [← hR.out]; have hM := fun w' (hb : Below w.heap.size w w') => spinMay o call th t w' (hN.below hb); have hRP := fun h => (mayS_tt (o := o) (c := call) (t := th) (u := t) h); obtain ⟨mb, hmb⟩ : ∃ q, Hid (q = mayS o call th t) := ⟨_, rfl⟩; rw [← hmb.out] at hM hRP; obtain ⟨ok, on, oa, ob⟩ := o; unfold ov at hM ⊢; simp only at hRP; go_enter Tryz.func93, Tryz.ntmps93; go_upto_region 1 with (fail); obtain ⟨W, kB, e0, e1, XK, hal0⟩ := box1 w #[.int .i64 ok, .int .i64 on, .int .i64 oa, .int .i64 ob] 38; rw [e0, e1]; have hkw : w.heap.size ≤ kB := Nat.le_of_eq e1; clear e0 e1; obtain ⟨y0, y1, y2, y3⟩ := cl4 XK
 by_cases k14 : ok = 14
 ·subst k14
  go_wp2_with fail; refine (hM W hal0).mono ?_; rintro e w1 ⟨rfl, hb1⟩; clear y0 y1 y2 y3 hM; replace XK := keep XK hb1; replace hal0 := hal0.trans (hb1.mono hal0.size); clear hb1; obtain ⟨y0, y1, y2, y3⟩ := cl4 XK; cases mb
  ·obtain rfl : R = ([], false) := hR.out.trans (rwF_f hmb.out.symm)
   clear hR hmb; go_wp2; go_ret2; exact ⟨CodeR.no, hal0⟩
  go_upto_region 4 with (fail); obtain ⟨w2, bb, e0, e1, XB, hb2⟩ := box1 w1 #[.slice none 0 0, .map none, .slice none 0 0, .bool false] 202; rw [e0, e1]; have hbb' : w1.heap.size = bb := e1; clear e0 e1 y0 y1 y2 y3
  have hbb : w.heap.size ≤ bb := by have := hal0.size; omega
  have hF : ¬ (kB = bb) := by have := blk_lt XK; omega
  replace XK := keep XK hb2; have hB := zero_mem XB; have hU : Upd (fun k => k = bb) (fun k => k = bb) w2 w2 := Upd.refl _ _; replace hal0 := hal0.trans (hb2.mono hal0.size); have hws : w.heap.size ≤ w2.heap.size := hal0.size; have hkl : kB < w2.heap.size := blk_lt XK; clear hb2 XB hbb'; obtain ⟨y0, y1, y2, y3⟩ := cl4 XK
  obtain ⟨hmay, hwho, hrp⟩ := hRP (by first | rfl | trivial)
  have htab := may_tab hmay
  try simp only at htab
  by_cases c1 : call = 1
  ·subst c1
   replace hR : Hid (R = (rwriteS BS.zero base ((base + 1 + t) % 4294967296)).fin) := hR.out.trans (rwF_0 rfl hmb.out.symm rfl); clear hmb; clear hRP; clear y0 y1 y2 y3; refine wp_region_lit ?_
   iterate 5 refine Zv ?_
   refine wl_val rfl (.int .u32 ((base + 1 + t) % 4294967296)) ?_ ?_
   ·go_simp; simp only [IntKind.wrap_u32]; omega
   refine Zk ?_; refine wl_val rfl (.agg #[.int .u32 base, .int .u32 ((base + 1 + t) % 4294967296)]) ?_ ?_
   ·go_simp
   refine Zk ?_; refine wl_alloc rfl 224 rfl (.agg #[.int .u32 0, .int .u32 0]) #[.int .u32 0, .int .u32 0] (fun w => by kernel_rfl) rfl (fun wa kW XW l16 f16 => ?_); refine Zk ?_; refine wl_store rfl 224 (.tmp 15) (.tmp 34) rfl kW #[.int .u32 base, .int .u32 ((base + 1 + t) % 4294967296)] rfl rfl 224 _ XW (by kernel_rfl) rfl (by simp [Value.oneCell']) (fun w3 g1 g2 g3 g4 => ?_); refine Zk ?_; have hb7 : Below w2.heap.size w2 w3 := l16.trans (g3 _ (by simp only [Hid] at f16; omega))
   have hFW : ¬ (kW = bb) := by have := hB.lt bb rfl; simp only [Hid] at f16; omega
   replace XW := g1; clear l16 f16 g1 g2 g3 g4; replace XK := keep XK hb7; replace hkl : kB < w3.heap.size := blk_lt XK; have hkw2 : kW < w3.heap.size := blk_lt XW; replace hB := hB.below hb7; replace hU := hU.trans (Upd.of_below hb7); clear hb7; go_upto_region 5 with (fail); refine wp_region_lit ?_; refine wl_mkmap rfl rfl (fun wb mB om bm0 em => ?_); refine Zk ?_; refine wl_insf rfl (.tmp 35) (.const (.int .i64 1)) (.func 148) rfl mB 0 _ 1 148 (by decide) rfl rfl rfl om (by decide) (fun wb1 om1 gm1 => ?_); refine Zk ?_; refine wl_insf rfl (.tmp 35) (.const (.int .i64 3)) (.func 149) rfl mB 1 _ 3 149 (by decide) rfl rfl rfl om1 (by decide) (fun wb2 om2 gm2 => ?_); refine Zk ?_; refine wl_insf rfl (.tmp 35) (.const (.int .i64 2)) (.func 150) rfl mB 2 _ 2 150 (by decide) rfl rfl rfl om2 (by decide) (fun wb3 om3 gm3 => ?_); refine Zk ?_; have hb8 : Below w3.heap.size w3 wb3 := ((bm0.grown gm1 bm0.size (fun k e => by cases e; simp only [Hid] at em; omega)).grown gm2 (by have := bm0.size; have := gm1.size; omega) (fun k e => by cases e; simp only [Hid] at em; omega)).grown gm3 (by have := bm0.size; have := gm1.size; have := gm2.size; omega) (fun k e => by cases e; simp only [Hid] at em; omega); clear om om1 om2 bm0 em gm1 gm2 gm3; replace XK := keep XK hb8; replace XW := keep XW hb8; replace hkl : kB < wb3.heap.size := blk_lt XK; replace hkw2 : kW < wb3.heap.size := blk_lt XW; replace hB := hB.below hb8; replace hU := hU.trans (Upd.of_below hb8); clear hb8
   iterate 2 refine Zv ?_
   have hlk := look_fn 1 148 (by decide) om3 (by kernel_rfl); clear om3; obtain ⟨y0, y1, y2, y3⟩ := cl4 XK; obtain ⟨z0, z1⟩ := cl2 XW; go_wp2_with fail
   refine (Z2 XK hF hkl hU XW hFW (rwriteC hB (by simp <;> omega))).mono ?_
   clear y0 y1 y2 y3 z0 z1; rintro e wd ⟨rfl, F', hB, XK, hF, hkl, hU, XW, hFW, hkw2⟩; obtain ⟨y0, y1, y2, y3⟩ := cl4 XK; obtain ⟨z0, z1⟩ := cl2 XW; have hal := hal0.trans (hU.low _ (fun k e => by rw [e]; exact hbb) hws)
   have hcb := codeB hB ((ok_rwriteS ok_zero)).1 (by simp <;> omega) ((ok_rwriteS ok_zero)).2 (hI.below hal)
   rw [← hR.out] at hcb; clear hR; go_wp2_with fail; refine hcb.mono ?_; rintro e w' ⟨⟨v, rfl, hv1, hv2⟩, hb'⟩; go_wp2; go_ret2; exact fin1 hal hv1 hv2 hb'
  ·have q1 : (call == 1) = false := by simp [c1]
   by_cases c2 : call = 2
   ·subst c2
    replace hR : Hid (R = (rrelS BS.zero base ((base + 1 + t) % 4294967296)).fin) := hR.out.trans (rwF_1 rfl hmb.out.symm c1 rfl); clear hmb; clear hRP c1; clear y0 y1 y2 y3; refine wp_region_lit ?_
    iterate 5 refine Zv ?_
    refine wl_val rfl (.int .u32 ((base + 1 + t) % 4294967296)) ?_ ?_
    ·go_simp; simp only [IntKind.wrap_u32]; omega
    refine Zk ?_; refine wl_val rfl (.agg #[.int .u32 base, .int .u32 ((base + 1 + t) % 4294967296)]) ?_ ?_
    ·go_simp
    refine Zk ?_; refine wl_alloc rfl 224 rfl (.agg #[.int .u32 0, .int .u32 0]) #[.int .u32 0, .int .u32 0] (fun w => by kernel_rfl) rfl (fun wa kW XW l16 f16 => ?_); refine Zk ?_; refine wl_store rfl 224 (.tmp 15) (.tmp 34) rfl kW #[.int .u32 base, .int .u32 ((base + 1 + t) % 4294967296)] rfl rfl 224 _ XW (by kernel_rfl) rfl (by simp [Value.oneCell']) (fun w3 g1 g2 g3 g4 => ?_); refine Zk ?_; have hb7 : Below w2.heap.size w2 w3 := l16.trans (g3 _ (by simp only [Hid] at f16; omega))
    have hFW : ¬ (kW = bb) := by have := hB.lt bb rfl; simp only [Hid] at f16; omega
    replace XW := g1; clear l16 f16 g1 g2 g3 g4; replace XK := keep XK hb7; replace hkl : kB < w3.heap.size := blk_lt XK; have hkw2 : kW < w3.heap.size := blk_lt XW; replace hB := hB.below hb7; replace hU := hU.trans (Upd.of_below hb7); clear hb7; go_upto_region 5 with (fail); refine wp_region_lit ?_; refine wl_mkmap rfl rfl (fun wb mB om bm0 em => ?_); refine Zk ?_; refine wl_insf rfl (.tmp 35) (.const (.int .i64 1)) (.func 148) rfl mB 0 _ 1 148 (by decide) rfl rfl rfl om (by decide) (fun wb1 om1 gm1 => ?_); refine Zk ?_; refine wl_insf rfl (.tmp 35) (.const (.int .i64 3)) (.func 149) rfl mB 1 _ 3 149 (by decide) rfl rfl rfl om1 (by decide) (fun wb2 om2 gm2 => ?_); refine Zk ?_; refine wl_insf rfl (.tmp 35) (.const (.int .i64 2)) (.func 150) rfl mB 2 _ 2 150 (by decide) rfl rfl rfl om2 (by decide) (fun wb3 om3 gm3 => ?_); refine Zk ?_; have hb8 : Below w3.heap.size w3 wb3 := ((bm0.grown gm1 bm0.size (fun k e => by cases e; simp only [Hid] at em; omega)).grown gm2 (by have := bm0.size; have := gm1.size; omega) (fun k e => by cases e; simp only [Hid] at em; omega)).grown gm3 (by have := bm0.size; have := gm1.size; have := gm2.size; omega) (fun k e => by cases e; simp only [Hid] at em; omega); clear om om1 om2 bm0 em gm1 gm2 gm3; replace XK := keep XK hb8; replace XW := keep XW hb8; replace hkl : kB < wb3.heap.size := blk_lt XK; replace hkw2 : kW < wb3.heap.size := blk_lt XW; replace hB := hB.below hb8; replace hU := hU.trans (Upd.of_below hb8); clear hb8
    iterate 2 refine Zv ?_
    have hlk := look_fn 2 150 (by decide) om3 (by kernel_rfl); clear om3; obtain ⟨y0, y1, y2, y3⟩ := cl4 XK; obtain ⟨z0, z1⟩ := cl2 XW; go_wp2_with fail
    refine (Z2 XK hF hkl hU XW hFW (rrelC hB (by simp <;> omega))).mono ?_
    clear y0 y1 y2 y3 z0 z1; rintro e wd ⟨rfl, F', hB, XK, hF, hkl, hU, XW, hFW, hkw2⟩; obtain ⟨y0, y1, y2, y3⟩ := cl4 XK; obtain ⟨z0, z1⟩ := cl2 XW; have hal := hal0.trans (hU.low _ (fun k e => by rw [e]; exact hbb) hws)
    have hcb := codeB hB ((ok_rrelS ok_zero)).1 (by simp <;> omega) ((ok_rrelS ok_zero)).2 (hI.below hal)
    rw [← hR.out] at hcb; clear hR; go_wp2_with fail; refine hcb.mono ?_; rintro e w' ⟨⟨v, rfl, hv1, hv2⟩, hb'⟩; go_wp2; go_ret2; exact fin1 hal hv1 hv2 hb'
   ·have q2 : (call == 2) = false := by simp [c2]
    replace hR : Hid (R = (rreadS BS.zero base ((base + 1 + t) % 4294967296)).fin) := hR.out.trans (rwF_2 rfl hmb.out.symm c1 c2); clear hmb
    obtain rfl : call = 3 := by omega
    clear hRP c1 c2; clear y0 y1 y2 y3; refine wp_region_lit ?_
    iterate 5 refine Zv ?_
    refine wl_val rfl (.int .u32 ((base + 1 + t) % 4294967296)) ?_ ?_
    ·go_simp; simp only [IntKind.wrap_u32]; omega
    refine Zk ?_; refine wl_val rfl (.agg #[.int .u32 base, .int .u32 ((base + 1 + t) % 4294967296)]) ?_ ?_
    ·go_simp
    refine Zk ?_; refine wl_alloc rfl 224 rfl (.agg #[.int .u32 0, .int .u32 0]) #[.int .u32 0, .int .u32 0] (fun w => by kernel_rfl) rfl (fun wa kW XW l16 f16 => ?_); refine Zk ?_; refine wl_store rfl 224 (.tmp 15) (.tmp 34) rfl kW #[.int .u32 base, .int .u32 ((base + 1 + t) % 4294967296)] rfl rfl 224 _ XW (by kernel_rfl) rfl (by simp [Value.oneCell']) (fun w3 g1 g2 g3 g4 => ?_); refine Zk ?_; have hb7 : Below w2.heap.size w2 w3 := l16.trans (g3 _ (by simp only [Hid] at f16; omega))
    have hFW : ¬ (kW = bb) := by have := hB.lt bb rfl; simp only [Hid] at f16; omega
    replace XW := g1; clear l16 f16 g1 g2 g3 g4; replace XK := keep XK hb7; replace hkl : kB < w3.heap.size := blk_lt XK; have hkw2 : kW < w3.heap.size := blk_lt XW; replace hB := hB.below hb7; replace hU := hU.trans (Upd.of_below hb7); clear hb7; go_upto_region 5 with (fail); refine wp_region_lit ?_; refine wl_mkmap rfl rfl (fun wb mB om bm0 em => ?_); refine Zk ?_; refine wl_insf rfl (.tmp 35) (.const (.int .i64 1)) (.func 148) rfl mB 0 _ 1 148 (by decide) rfl rfl rfl om (by decide) (fun wb1 om1 gm1 => ?_); refine Zk ?_; refine wl_insf rfl (.tmp 35) (.const (.int .i64 3)) (.func 149) rfl mB 1 _ 3 149 (by decide) rfl rfl rfl om1 (by decide) (fun wb2 om2 gm2 => ?_); refine Zk ?_; refine wl_insf rfl (.tmp 35) (.const (.int .i64 2)) (.func 150) rfl mB 2 _ 2 150 (by decide) rfl rfl rfl om2 (by decide) (fun wb3 om3 gm3 => ?_); refine Zk ?_; have hb8 : Below w3.heap.size w3 wb3 := ((bm0.grown gm1 bm0.size (fun k e => by cases e; simp only [Hid] at em; omega)).grown gm2 (by have := bm0.size; have := gm1.size; omega) (fun k e => by cases e; simp only [Hid] at em; omega)).grown gm3 (by have := bm0.size; have := gm1.size; have := gm2.size; omega) (fun k e => by cases e; simp only [Hid] at em; omega); clear om om1 om2 bm0 em gm1 gm2 gm3; replace XK := keep XK hb8; replace XW := keep XW hb8; replace hkl : kB < wb3.heap.size := blk_lt XK; replace hkw2 : kW < wb3.heap.size := blk_lt XW; replace hB := hB.below hb8; replace hU := hU.trans (Upd.of_below hb8); clear hb8
    iterate 2 refine Zv ?_
    have hlk := look_fn 3 149 (by decide) om3 (by kernel_rfl); clear om3; obtain ⟨y0, y1, y2, y3⟩ := cl4 XK; obtain ⟨z0, z1⟩ := cl2 XW; go_wp2_with fail
    refine (Z2 XK hF hkl hU XW hFW (rreadC hB (by simp <;> omega))).mono ?_
    clear y0 y1 y2 y3 z0 z1; rintro e wd ⟨rfl, F', hB, XK, hF, hkl, hU, XW, hFW, hkw2⟩; obtain ⟨y0, y1, y2, y3⟩ := cl4 XK; obtain ⟨z0, z1⟩ := cl2 XW; have hal := hal0.trans (hU.low _ (fun k e => by rw [e]; exact hbb) hws)
    have hcb := codeB hB ((ok_rreadS ok_zero)).1 (by simp <;> omega) ((ok_rreadS ok_zero)).2 (hI.below hal)
    rw [← hR.out] at hcb; clear hR; go_wp2_with fail; refine hcb.mono ?_; rintro e w' ⟨⟨v, rfl, hv1, hv2⟩, hb'⟩; go_wp2; go_ret2; exact fin1 hal hv1 hv2 hb'
 ·have q14 : (ok != 14) = true := by simp [k14]
  obtain rfl : R = ([], false) := hR.out.trans (rwF_n k14); clear hR hmb k14; go_wp2
  all_goals go_ret2
  all_goals exact ⟨CodeR.no, hal0⟩
end Go.Proofs.YtbcgngfbbbfebaaGreatDoor
namespace Go.Proofs.YtbcgngfbbbfebaaGreatDoor
open Go.RowKit Go.Maps
set_option maxRecDepth 100000
set_option maxHeartbeats 32000000
set_option linter.unusedVariables false
set_option linter.unusedSimpArgs false
def mkF (i : Nat) (o : O) (call th t base arg : Int) : List Ins × Bool := match i with
 | 0 => spinF o call th t base arg
 | 1 => queueF o call th t base arg
 | 2 => duoF o call th t base arg
 | 3 => biasF o call th t base arg
 | 4 => seqF o call th t base arg
 | 5 => mutexF o call th t base
 | 6 => gateF o call th t base arg
 | _ => rwF o call th t base arg
def codeFrom (o : O) (call th t base arg : Int) : Nat → Nat → List Ins × Bool
 | 0, _ => ([], false)
 | n + 1, i => if (mkF i o call th t base arg).2 = true then ((mkF i o call th t base arg).1, true) else codeFrom o call th t base arg n (i + 1)
def codeF (o : O) (call th t base arg : Int) : List Ins × Bool := codeFrom o call th t base arg 8 0
theorem mkC (i : Nat) (hi : i < 8) (o : O) (call th t base arg : Int) (harg : 0 ≤ arg ∧ arg < 4294967296) (w : World) (hN : NmW w) (hI : IsaW w) : Calls Tryz.prog (86 + i) #[ov o, .int .i64 call, .int .i64 th, .int .i64 t, .int .u32 base, .int .u32 arg] w fun e w' => CodeR w w' (mkF i o call th t base arg) e ∧ Below w.heap.size w w' := by
 match i, hi with
 | 0, _ => exact spinCode o call th t base arg w hN hI
 | 1, _ => exact queueCode o call th t base arg w hN hI
 | 2, _ => exact duoCode o call th t base arg harg w hN hI
 | 3, _ => exact biasCode o call th t base arg w hN hI
 | 4, _ => exact seqCode o call th t base arg harg w hN hI
 | 5, _ => exact mutexCode o call th t base arg w hN hI
 | 6, _ => exact gateCode o call th t base arg harg w hN hI
 | 7, _ => exact rwCode o call th t base arg harg w hN hI
theorem mkE0 (args : Array Value) (w : World) : (callFunc 86 args).run Tryz.prog w = .ok (.enter 86 args) w := by kernel_rfl
theorem mkE1 (args : Array Value) (w : World) : (callFunc 87 args).run Tryz.prog w = .ok (.enter 87 args) w := by kernel_rfl
theorem mkE2 (args : Array Value) (w : World) : (callFunc 88 args).run Tryz.prog w = .ok (.enter 88 args) w := by kernel_rfl
theorem mkE3 (args : Array Value) (w : World) : (callFunc 89 args).run Tryz.prog w = .ok (.enter 89 args) w := by kernel_rfl
theorem mkE4 (args : Array Value) (w : World) : (callFunc 90 args).run Tryz.prog w = .ok (.enter 90 args) w := by kernel_rfl
theorem mkE5 (args : Array Value) (w : World) : (callFunc 91 args).run Tryz.prog w = .ok (.enter 91 args) w := by kernel_rfl
theorem mkE6 (args : Array Value) (w : World) : (callFunc 92 args).run Tryz.prog w = .ok (.enter 92 args) w := by kernel_rfl
theorem mkE7 (args : Array Value) (w : World) : (callFunc 93 args).run Tryz.prog w = .ok (.enter 93 args) w := by kernel_rfl
theorem mkE (i : Nat) (hi : i < 8) (args : Array Value) (w : World) : (callFunc (86 + i) args).run Tryz.prog w = .ok (.enter (86 + i) args) w := by
 match i, hi with
 | 0, _ => exact mkE0 args w
 | 1, _ => exact mkE1 args w
 | 2, _ => exact mkE2 args w
 | 3, _ => exact mkE3 args w
 | 4, _ => exact mkE4 args w
 | 5, _ => exact mkE5 args w
 | 6, _ => exact mkE6 args w
 | 7, _ => exact mkE7 args w
def mkTab : Array Value := #[.func (.func 86) #[] #[], .func (.func 87) #[] #[], .func (.func 88) #[] #[], .func (.func 89) #[] #[], .func (.func 90) #[] #[], .func (.func 91) #[] #[], .func (.func 92) #[] #[], .func (.func 93) #[] #[]]
theorem mkTab_at {i : Nat} (hi : i < 8) : mkTab[i]? = some (.func (.func (86 + i)) #[] #[]) := by
 match i, hi with
 | 0, _ => rfl
 | 1, _ => rfl
 | 2, _ => rfl
 | 3, _ => rfl
 | 4, _ => rfl
 | 5, _ => rfl
 | 6, _ => rfl
 | 7, _ => rfl
theorem linkCode (o : O) (call th t base arg : Int) (harg : 0 ≤ arg ∧ arg < 4294967296) (w : World) (hN : NmW w) (hI : IsaW w) : Calls Tryz.prog 75 #[ov o, .int .i64 call, .int .i64 th, .int .i64 t, .int .u32 base, .int .u32 arg] w fun e w' => CodeR w w' (codeF o call th t base arg) e ∧ Below w.heap.size w w' := by
 obtain ⟨R, hR⟩ : ∃ R, Hid (R = codeF o call th t base arg) := ⟨_, rfl⟩; rw [← hR.out]
 have hbs : ∀ w : World, (Instr.buildSlice 185 8 #[(0, .func (.func 86) #[] #[]), (1, .func (.func 87) #[] #[]), (2, .func (.func 88) #[] #[]), (3, .func (.func 89) #[] #[]), (4, .func (.func 90) #[] #[]), (5, .func (.func 91) #[] #[]), (6, .func (.func 92) #[] #[]), (7, .func (.func 93) #[] #[])]).run Tryz.prog w = .ok (.slice (some ⟨w.heap.size, 0, none⟩) 8 8) (w.alloc (.cells mkTab 186)) := fun w => by kernel_rfl
 have hcon := fun i hi w' (hb : Below w.heap.size w w') => mkC i hi o call th t base arg harg w' (hN.below hb) (hI.below hb); obtain ⟨F, hF⟩ : ∃ F : Nat → List Ins × Bool, Hid (F = fun i => mkF i o call th t base arg) := ⟨_, rfl⟩
 have hR' : Hid (∀ n i, codeFrom o call th t base arg (n + 1) i = if (F i).2 = true then ((F i).1, true) else codeFrom o call th t base arg n (i + 1)) := by intro n i; rw [hF.out]; rfl
 have hcon' : ∀ i, i < 8 → ∀ w', Below w.heap.size w w' → Calls Tryz.prog (86 + i) #[ov o, .int .i64 call, .int .i64 th, .int .i64 t, .int .u32 base, .int .u32 arg] w' fun e w'' => CodeR w' w'' (F i) e ∧ Below w'.heap.size w' w'' := by rw [hF.out]; exact hcon
 clear hcon hF; obtain ⟨G, hG⟩ : ∃ G : Nat → Nat → List Ins × Bool, Hid (G = codeFrom o call th t base arg) := ⟨_, rfl⟩
 have hG0 : Hid (∀ i, G 0 i = ([], false)) := by intro i; rw [hG.out]; rfl
 have hRG : Hid (R = G 8 0) := by rw [hG.out]; exact hR.out
 rw [← hG.out] at hR'; clear hR hG; obtain ⟨ok, on, oa, ob⟩ := o; unfold ov at hcon' ⊢; go_enter Tryz.func75, Tryz.ntmps75; go_upto_region 1 with (fail); obtain ⟨W, kB, e0, e1, XK, hal0⟩ := box1 w #[.int .i64 ok, .int .i64 on, .int .i64 oa, .int .i64 ob] 38; rw [e0, e1]; clear e0 e1; refine wp_region_lit ?_
 refine wpList_plain rfl fun K hK => ?_
 unfold Oper.wp execOp; simp only [List.map_toArray, List.map_cons, List.map_nil, Act.eval, Sem.run_bind, hbs, Result.andThen_ok]; obtain ⟨W2, tB, e0, e1, XT, hal1⟩ := box1 W mkTab 186; rw [e0, e1]; clear e0 e1; replace XK := keep XK hal1; replace hal0 := hal0.trans (hal1.mono hal0.size); clear hal1; go_simp; refine hK _ _ ?_; clear hK K; go_upto_region 2 with (fail); go_loopw [20] (fun v wr => ∃ i : Nat, v = .int .i64 i ∧ i ≤ 8 ∧ Hid (R = G (8 - i) i) ∧ Below w.heap.size w wr ∧ wr.heap[kB]? = some (.cells #[.int .i64 ok, .int .i64 on, .int .i64 oa, .int .i64 ob] 38 (0, 0)) ∧ wr.heap[tB]? = some (.cells mkTab 186 (0, 0))) (fun v _ => 8 - (intOf v).toNat)
 case atStart => exact ⟨0, rfl, by omega, hRG, hal0, XK, XT⟩
 case round =>
  clear hal0 XK XT hRG; obtain ⟨i, rfl, hi, hRG, hal, XK, XT⟩ := hrel
  by_cases hlt : i < 8
  case neg =>
   obtain rfl : i = 8 := by omega
   obtain rfl : R = ([], false) := hRG.out.trans (hG0.out _); clear hRG hG0 hR'
   have hl1 : ¬ (((8 : Nat) : Int) < 8) := by decide
   go_wp2; go_ret2; exact ⟨CodeR.no, hal⟩
  have hl0 : (0 : Int) ≤ i := by omega
  have hl1 : (i : Int) < 8 := by omega
  have yt : wr.cell? ⟨tB, i, none⟩ = some (.func (.func (86 + i)) #[] #[]) := by rw [cell_of_row wr tB i _ 186 _ XT]; exact mkTab_at hlt
  have hc := hcon' i hlt
  have hstep : Hid (R = if (F i).2 = true then ((F i).1, true) else G (8 - (i + 1)) (i + 1)) := by
   have := hR'.out (8 - (i + 1)) i; rw [show 8 - (i + 1) + 1 = 8 - i by omega] at this; exact hRG.out.trans this
  clear hRG; obtain ⟨rf, hrf⟩ : ∃ q, Hid (q = F i) := ⟨_, rfl⟩; rw [← hrf.out] at hc hstep; obtain ⟨g, hg⟩ : ∃ g, Hid (g = 86 + i) := ⟨_, rfl⟩; have hce := mkE i hlt; rw [← hg.out] at hc yt hce; obtain ⟨y0, y1, y2, y3⟩ := cl4 XK; go_wp2_with fail; clear hce; refine (hc wr hal).mono ?_; rintro e w1 ⟨⟨v, rfl, hO, hf⟩, hb1⟩; clear y0 y1 y2 y3 yt hc; obtain ⟨rl, rb⟩ := rf; simp only at hO hstep ⊢; replace XK := keep XK hb1; replace XT := keep XT hb1; have hal' := hal.trans (hb1.mono hal.size); cases rb
  ·have hn : Hid (R = G (8 - (i + 1)) (i + 1)) := hstep.out.trans (if_neg Bool.false_ne_true)
   clear hstep hrf hg; obtain ⟨p, m, c, rfl⟩ := row_form hO; go_wp2; go_roundw
   case rel => exact ⟨i + 1, by go_num, by omega, hn, hal', XK, XT⟩
   case measure => simp [intOf]; omega
  ·obtain rfl : R = (rl, true) := hstep.out.trans (if_pos rfl)
   clear hstep hrf hg; obtain ⟨p, m, c, rfl⟩ := row_form hO; go_wp2; go_ret2; exact ⟨⟨_, rfl, hO, fun k hk => Nat.le_trans hal.size (hf k hk)⟩, hal'⟩
end Go.Proofs.YtbcgngfbbbfebaaGreatDoor
namespace Go.Proofs.YtbcgngfbbbfebaaGreatDoor
open Go.RowKit Go.Maps
set_option maxRecDepth 100000
set_option maxHeartbeats 32000000
set_option linter.unusedVariables false
set_option linter.unusedSimpArgs false
theorem take_set_succ {α : Type} {o M : List α} {i : Nat} {y : α} (hi : i < o.length) (hot : o.take i = M.take i) (hy : M[i]? = some y) : (o.set i y).take (i + 1) = M.take (i + 1) := by
 rw [List.take_add_one, List.take_add_one, hy, List.take_set_of_le (Nat.le_refl i), hot, List.getElem?_set_self hi]
def U32 (k : Int) : Prop := 0 ≤ k ∧ k < 4294967296
def KOk (L : List Ins) : Prop := ∀ x ∈ L, U32 x.k
def movI (d : Int) (x : Ins) : Ins := if jumpB x.op = true then { x with k := (x.k + d) % 4294967296 } else x
def movedF (L : List Ins) (d : Int) : List Ins := L.map (movI d)
theorem movedF_len (L : List Ins) (d : Int) : (movedF L d).length = L.length := by simp [movedF]
theorem movedF_k {L : List Ins} {d : Int} (h : KOk L) : KOk (movedF L d) := fun x hx => by
 obtain ⟨y, hy, rfl⟩ := List.mem_map.1 hx; unfold movI
 split
 ·exact ⟨by simp only; omega, by simp only; omega⟩
 ·exact h y hy
def insZ : Ins := ⟨0, 0, 0, 0, 0⟩
theorem movedC (V : Option Addr) (L : List Ins) (c : Nat) (d : Int) (hd : 0 ≤ d ∧ d ≤ 100000) (hL : L.length ≤ 100000) (hK : KOk L) (w : World) (hI : IsaW w) (hR : InsR w V L) : Calls Tryz.prog 77 #[.slice V L.length c, .int .i64 d] w fun e w' => (∃ g c', e = .returned (.slice (some ⟨g, 0, none⟩) (movedF L d).length c') ∧ Own eI w' (.slice (some ⟨g, 0, none⟩) (movedF L d).length c') (movedF L d) ∧ w.heap.size ≤ g) ∧ Below w.heap.size w w' := by
 have hd0 := hd.1; have hd1 := hd.2; obtain ⟨M, hM⟩ : ∃ M, Hid (M = movedF L d) := ⟨_, rfl⟩; rw [← hM.out]
 have hMl : M.length = L.length := by rw [hM.out, movedF_len]
 go_enter Tryz.func77, Tryz.ntmps77; go_upto_region 1 with (fail); refine wp_region_lit ?_
 iterate 2 refine Zv ?_
 refine wl_mkE eI_ok rfl 92 Tryz.underlying92 insZ 40 (by kernel_rfl) (by decide) (.tmp 9) (.tmp 9) rfl L.length (by omega) rfl rfl (fun w1 g hO hal hg => ?_); refine Zk ?_; refine Zv ?_; have hgw : w.heap.size ≤ g := Nat.le_of_eq hg.out.symm; clear hg; go_upto_region 3 with (fail); go_loopw [13] (fun v wr => ∃ (i : Nat) (o : List Ins), v = .int .i64 i ∧ i ≤ L.length ∧ o.length = L.length ∧ o.take i = M.take i ∧ Own eI wr (.slice (some ⟨g, 0, none⟩) L.length L.length) o ∧ Below w.heap.size w wr) (fun v _ => L.length - (intOf v).toNat)
 case atStart => exact ⟨0, List.replicate L.length insZ, rfl, Nat.zero_le _, List.length_replicate, rfl, hO, hal⟩
 case round =>
  clear hO hal; obtain ⟨i, o, rfl, hi, hol, hot, hO, hal⟩ := hrel
  by_cases hlt : i < L.length
  case neg =>
   obtain rfl : i = L.length := by omega
   have hl1 : ¬ ((L.length : Int) < L.length) := by omega
   have ho : o = M := by rw [← List.take_length (l := o), hol, hot, ← hMl, List.take_length]
   subst ho; clear hM hot; go_wp2; go_ret; rw [← hol] at hO ⊢; exact ⟨⟨_, _, rfl, hO, hgw⟩, hal⟩
  have hl0 : (0 : Int) ≤ i := by omega
  have hl1 : (i : Int) < L.length := by omega
  obtain ⟨x, hx⟩ : ∃ x, L[i]? = some x := ⟨L[i], List.getElem?_eq_getElem hlt⟩; obtain ⟨z, hz⟩ : ∃ z, o[i]? = some z := ⟨o[i]'(by omega), List.getElem?_eq_getElem (by omega)⟩; have hxk := hK x (List.mem_of_getElem? hx); obtain ⟨hk0, hk1⟩ := hxk
  have hMi : M[i]? = some (movI d x) := by rw [hM.out]; unfold movedF; rw [List.getElem?_map, hx]; rfl
  have hRr := hR.below hal; obtain ⟨bL, off, rfl, hbl, hcl⟩ := hRr (by omega); have hxr : wr.rangeAt bL (off + i * 5) (insL x) := RowAt.elem (E := eI) eI_ok (fun j u hu => hcl j u hu) hx; clear hcl; obtain ⟨xo, xa, xb, xc, xk⟩ := x; simp only at hk0 hk1; have hju := fun w' (h : Below w.heap.size w w') => jumpsC xo w' (hI.below h)
  have hal3 := fun w' => aluC' 3 xk d ⟨hk0, hk1⟩ ⟨hd0, by omega⟩ w'
  obtain ⟨jb, hjb⟩ : ∃ q, Hid (q = jumpB xo) := ⟨_, rfl⟩; rw [← hjb.out] at hju; rw [show aluF 3 xk d = (xk + d) % 4294967296 from rfl, show decide (3 ≤ (3 : Int) ∧ (3 : Int) ≤ 12) = true from rfl] at hal3; go_upto_region 4 with (fail); refine wp_region_lit ?_; refine Zv ?_; refine wl_val rfl (.pointer (some ⟨bL, off + i * 5, none⟩)) ?_ ?_
  ·go_simp
  refine Zk ?_; refine wl_val rfl (.agg #[.int .i64 xo, .int .i64 xa, .int .i64 xb, .int .i64 xc, .int .u32 xk]) (run_ldm 114 (.tmp 16) rfl bL (off + i * 5) rfl (insL ⟨xo, xa, xb, xc, xk⟩) _ hxr Tryz.underlying114 rfl (by kernel_rfl)) ?_; refine Zk ?_; refine wl_alloc rfl 114 rfl (.agg #[.int .i64 0, .int .i64 0, .int .i64 0, .int .i64 0, .int .u32 0]) #[.int .i64 0, .int .i64 0, .int .i64 0, .int .i64 0, .int .u32 0] (fun w => by kernel_rfl) rfl (fun w4 b6 X6 l6 f6 => ?_); refine Zk ?_; refine Zv ?_; refine wl_store rfl 114 (.tmp 7) (.tmp 17) rfl b6 #[.int .i64 xo, .int .i64 xa, .int .i64 xb, .int .i64 xc, .int .u32 xk] rfl rfl 114 _ X6 (by kernel_rfl) rfl (by simp [Value.oneCell']) (fun w5 g1 g2 g3 g4 => ?_); refine Zk ?_; have hb5 : Below wr.heap.size wr w5 := l6.trans (g3 _ (by simp only [Hid] at f6; omega))
  have h6 : wr.heap.size ≤ b6 := by simp only [Hid] at f6; omega
  clear X6 l6 f6 g2 g3 g4 hxr; have X6 := g1; clear g1; replace hal := hal.trans (hb5.mono hal.size); have hg7 : g < wr.heap.size := Own.lt hO rfl
  have hg6 : b6 ≠ g := by omega
  replace hO := Own.below hO hb5; clear hb5; go_upto_region 5 with (fail); refine wp_region_lit ?_
  iterate 2 refine Zv ?_
  refine Zd 114 X6 Tryz.underlying114 ?_; refine wl_val rfl (.pointer (some ⟨g, i * 5, none⟩)) ?_ ?_
  ·go_simp
  refine Zk ?_; refine wl_put eI_ok rfl 114 (by kernel_rfl) (.tmp 21) (.tmp 20) rfl g i L.length L.length o z ⟨xo, xa, xb, xc, xk⟩ rfl rfl hO hz (fun w6 hO6 hk6 hb6 hs6 => ?_); refine Zk ?_; replace X6 := (hk6 b6 hg6).trans X6; replace hal := hal.trans (hb6 _ hgw); replace hO := hO6; clear hO6 hk6 hb6 hs6; have y0 := cell_of_row w6 b6 0 _ 114 _ X6; have y4 := cell_of_row w6 b6 4 _ 114 _ X6; go_wp2_with fail; refine (hju w6 hal).mono ?_; rintro e w6 ⟨rfl, rfl⟩
  have hset : ∀ y, (o.set i y).length = L.length := fun y => by rw [List.length_set]; exact hol
  have htk : ∀ y, M[i]? = some y → (o.set i y).take (i + 1) = M.take (i + 1) := fun y hy => take_set_succ (by omega) hot hy; cases jb
  ·rw [show movI d ⟨xo, xa, xb, xc, xk⟩ = ⟨xo, xa, xb, xc, xk⟩ from if_neg (by rw [← hjb.out]; exact Bool.false_ne_true)] at hMi
   have h1 := htk _ hMi; have h2 := hset ⟨xo, xa, xb, xc, xk⟩; clear htk hset hM hot hjb hMi; go_wp2; go_roundw
   case rel => exact ⟨i + 1, _, by go_num, by omega, h2, h1, hO, hal⟩
   case measure => simp [intOf]; omega
  rw [show movI d ⟨xo, xa, xb, xc, xk⟩ = ⟨xo, xa, xb, xc, (xk + d) % 4294967296⟩ from if_pos hjb.out.symm] at hMi; have h1 := htk _ hMi; have h2 := hset ⟨xo, xa, xb, xc, (xk + d) % 4294967296⟩; clear htk hset hM hot hjb hMi; go_upto_region 7 with (fail); refine wp_region_lit ?_
  iterate 5 refine Zv ?_
  refine wl_val rfl (.int .u32 d) ?_ ?_
  ·first | (go_simp; done) | (go_simp; simp only [IntKind.wrap_u32]; omega)
  refine Zk ?_; refine Zc 95 #[.int .i64 3, .int .u32 xk, .int .u32 d] (.tuple #[.int .u32 ((xk + d) % 4294967296), .bool true]) (hal3 w6) (fun w7 hb7 => ?_); clear y0 y4; replace X6 := keep X6 hb7; replace hO := Own.below hO hb7; replace hal := hal.trans (hb7.mono hal.size); clear hb7 hal3; obtain ⟨cur, hcur, hcs⟩ := own_cur eI_ok hO
  have hcs' : i * 5 + 4 < cur.size := by
   rw [List.length_set, hol] at hcs; have : eI.sz = 5 := rfl; rw [this] at hcs; omega
  iterate 3 refine Zv ?_
  refine wl_val rfl (.pointer (some ⟨g, i * 5, none⟩)) ?_ ?_
  ·go_simp
  refine Zk ?_; refine wl_val rfl (.pointer (some ⟨g, i * 5 + 4, none⟩)) ?_ ?_
  ·go_simp
  refine Zk ?_; refine wl_stv rfl 33 (fun w => by kernel_rfl) (.tmp 36) (.tmp 33) rfl g (i * 5 + 4) (.int .u32 ((xk + d) % 4294967296)) rfl st_u32 cur 114 rfl rfl hcur hcs' (fun w8 p1 p2 p3 => ?_); refine Zk ?_; have hO8 := own_put1 eI_ok hO hcur (i := i) (q := 4) (x := ⟨xo, xa, xb, xc, xk⟩) (y := ⟨xo, xa, xb, xc, (xk + d) % 4294967296⟩) (by rw [List.getElem?_set_self (by omega)]) (by decide) rfl p1; rw [List.set_set] at hO8; replace hal := hal.trans (p3 _ hgw); clear p1 p2 p3 hcur hcs hcs' hO; go_wp2; go_roundw
  case rel => exact ⟨i + 1, _, by go_num, by omega, h2, h1, hO8, hal⟩
  case measure => simp [intOf]; omega
end Go.Proofs.YtbcgngfbbbfebaaGreatDoor
