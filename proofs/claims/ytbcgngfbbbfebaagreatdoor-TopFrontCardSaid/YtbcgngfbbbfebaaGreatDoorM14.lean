/- The code of locks of two. The code of conditions, barriers, what is done once. -/
import Derived.Test.YtbcgngfbbbfebaaGreatDoorM13
namespace Go.Proofs.YtbcgngfbbbfebaaGreatDoor
open Go.RowKit Go.Maps
set_option maxRecDepth 100000
set_option maxHeartbeats 32000000
set_option linter.unusedVariables false
set_option linter.unusedSimpArgs false
attribute [local simp] sz_alu sz_ask sz_beginS sz_biasedS sz_cas sz_changeS sz_claimS sz_clhInS sz_clhOutS sz_closeS sz_downS sz_emit sz_farS sz_gmoreS sz_go sz_gwakeS sz_leaveS sz_mcsInS sz_mcsOutS sz_minS sz_mineS sz_moutS sz_mwakeS sz_otherS sz_passS sz_place sz_proveS sz_rclaimS sz_rhasS sz_rreadS sz_rrelS sz_rsleepS sz_rwriteS sz_set sz_smoreS sz_takeS sz_tasS sz_ticketS sz_ttasS sz_upS sz_zeroS
def pinS (st : BS) (own their turn owner other : Int) : BS := ((((((((((((((st.set 4 1).ask 17 4 own).set 4 other).ask 17 4 turn).emit ⟨18, 0, 0, 0, 0⟩).place s_spin).ask 16 4 their).go 14 4 s_got).ask 16 4 turn).set 6 other).alu 12 6 4 6).go 15 6 s_spin).place s_got).ask 17 5 owner)
@[simp] theorem sz_pinS (st : BS) (own their turn owner other : Int) : (pinS st own their turn owner other).sz = st.sz + 16 := by
 unfold pinS; simp
theorem pinC {b : Nat} {F : Nat → Prop} {st : BS} {own their turn owner other : Int} {w : World} (hB : BMem w b F st) (hs : st.sz ≤ 3600 := by first | omega | (simp <;> omega)) : Calls Tryz.prog 187 #[.agg #[.int .u32 own, .int .u32 their, .int .u32 turn, .int .u32 owner, .int .u32 other], .pointer (some ⟨b, 0, none⟩)] w fun e w' => e = .returned (.tuple #[]) ∧ ∃ F', BMem w' b F' (pinS st own their turn owner other) ∧ Upd F F' w w' := by
 go_enter Tryz.func187, Tryz.ntmps187; go_upto_region 1 with (fail); obtain ⟨W, kB, e0, e1, XB, hal⟩ := box1 w #[.int .u32 own, .int .u32 their, .int .u32 turn, .int .u32 owner, .int .u32 other] 214; rw [e0, e1]
 have hF : ¬ F kB := fun h => by have := hB.lt kB h; omega
 clear e0 e1; have hkl : kB < W.heap.size := blk_lt XB; have hU : Upd F F w W := Upd.of_below hal; replace hB := hB.below hal; clear hal; go_upto_region 1 with (fail); refine wp_region_lit ?_; obtain ⟨y0, y1, y2, y3, y4⟩ := cl5 XB; refine Zv ?_; clear y0 y1 y2 y3 y4; refine Zb 130 #[.pointer (some ⟨b, 0, none⟩), .int .i64 4, .int .u32 1] (setC hB) XB hF hkl hU (fun w1 F' XB hF hkl hU hB => ?_); go_upto_region 2 with (fail); refine wp_region_lit ?_; obtain ⟨y0, y1, y2, y3, y4⟩ := cl5 XB
 iterate 3 refine Zv ?_
 clear y0 y1 y2 y3 y4; refine Zb 138 #[.pointer (some ⟨b, 0, none⟩), .int .i64 17, .int .i64 4, .int .u32 own] (askC hB) XB hF hkl hU (fun w2 F' XB hF hkl hU hB => ?_); go_upto_region 3 with (fail); refine wp_region_lit ?_; obtain ⟨y0, y1, y2, y3, y4⟩ := cl5 XB
 iterate 3 refine Zv ?_
 clear y0 y1 y2 y3 y4; refine Zb 130 #[.pointer (some ⟨b, 0, none⟩), .int .i64 4, .int .u32 other] (setC hB) XB hF hkl hU (fun w3 F' XB hF hkl hU hB => ?_); go_upto_region 4 with (fail); refine wp_region_lit ?_; obtain ⟨y0, y1, y2, y3, y4⟩ := cl5 XB
 iterate 3 refine Zv ?_
 clear y0 y1 y2 y3 y4; refine Zb 138 #[.pointer (some ⟨b, 0, none⟩), .int .i64 17, .int .i64 4, .int .u32 turn] (askC hB) XB hF hkl hU (fun w4 F' XB hF hkl hU hB => ?_); go_upto_region 5 with (fail); refine wp_region_lit ?_; obtain ⟨y0, y1, y2, y3, y4⟩ := cl5 XB
 iterate 2 refine Zv ?_
 clear y0 y1 y2 y3 y4
 refine Zb 183 #[.pointer (some ⟨b, 0, none⟩), .agg #[.int .i64 18, .int .i64 0, .int .i64 0, .int .i64 0, .int .u32 0]] (emitC ⟨18, 0, 0, 0, 0⟩ _ hB (Nat.le_succ_of_le (by first | omega | (simp <;> omega)))) XB hF hkl hU (fun w5 F' XB hF hkl hU hB => ?_)
 go_upto_region 6 with (fail); refine wp_region_lit ?_; obtain ⟨y0, y1, y2, y3, y4⟩ := cl5 XB; refine Zv ?_; clear y0 y1 y2 y3 y4
 refine Zb 174 #[.pointer (some ⟨b, 0, none⟩), .string s_spin] (placeC hB nm_spin (by decide) (by first | omega | (simp <;> omega))) XB hF hkl hU (fun w6 F' XB hF hkl hU hB => ?_)
 go_upto_region 7 with (fail); refine wp_region_lit ?_; obtain ⟨y0, y1, y2, y3, y4⟩ := cl5 XB
 iterate 3 refine Zv ?_
 clear y0 y1 y2 y3 y4; refine Zb 138 #[.pointer (some ⟨b, 0, none⟩), .int .i64 16, .int .i64 4, .int .u32 their] (askC hB) XB hF hkl hU (fun w7 F' XB hF hkl hU hB => ?_); go_upto_region 8 with (fail); refine wp_region_lit ?_; obtain ⟨y0, y1, y2, y3, y4⟩ := cl5 XB; refine Zv ?_; clear y0 y1 y2 y3 y4; refine Zb 173 #[.pointer (some ⟨b, 0, none⟩), .int .i64 14, .int .i64 4, .string s_got] (goC hB) XB hF hkl hU (fun w8 F' XB hF hkl hU hB => ?_); go_upto_region 9 with (fail); refine wp_region_lit ?_; obtain ⟨y0, y1, y2, y3, y4⟩ := cl5 XB
 iterate 3 refine Zv ?_
 clear y0 y1 y2 y3 y4; refine Zb 138 #[.pointer (some ⟨b, 0, none⟩), .int .i64 16, .int .i64 4, .int .u32 turn] (askC hB) XB hF hkl hU (fun w9 F' XB hF hkl hU hB => ?_); go_upto_region 10 with (fail); refine wp_region_lit ?_; obtain ⟨y0, y1, y2, y3, y4⟩ := cl5 XB
 iterate 3 refine Zv ?_
 clear y0 y1 y2 y3 y4; refine Zb 130 #[.pointer (some ⟨b, 0, none⟩), .int .i64 6, .int .u32 other] (setC hB) XB hF hkl hU (fun w10 F' XB hF hkl hU hB => ?_); go_upto_region 11 with (fail); refine wp_region_lit ?_; obtain ⟨y0, y1, y2, y3, y4⟩ := cl5 XB; refine Zv ?_; clear y0 y1 y2 y3 y4; refine Zb 176 #[.pointer (some ⟨b, 0, none⟩), .int .i64 12, .int .i64 6, .int .i64 4, .int .i64 6] (aluC hB) XB hF hkl hU (fun w11 F' XB hF hkl hU hB => ?_); go_upto_region 12 with (fail); refine wp_region_lit ?_; obtain ⟨y0, y1, y2, y3, y4⟩ := cl5 XB; refine Zv ?_; clear y0 y1 y2 y3 y4; refine Zb 173 #[.pointer (some ⟨b, 0, none⟩), .int .i64 15, .int .i64 6, .string s_spin] (goC hB) XB hF hkl hU (fun w12 F' XB hF hkl hU hB => ?_); go_upto_region 13 with (fail); refine wp_region_lit ?_; obtain ⟨y0, y1, y2, y3, y4⟩ := cl5 XB; refine Zv ?_; clear y0 y1 y2 y3 y4
 refine Zb 174 #[.pointer (some ⟨b, 0, none⟩), .string s_got] (placeC hB nm_got (by decide) (by first | omega | (simp <;> omega))) XB hF hkl hU (fun w13 F' XB hF hkl hU hB => ?_)
 go_upto_region 14 with (fail); refine wp_region_lit ?_; obtain ⟨y0, y1, y2, y3, y4⟩ := cl5 XB
 iterate 3 refine Zv ?_
 clear y0 y1 y2 y3 y4; refine Zb 138 #[.pointer (some ⟨b, 0, none⟩), .int .i64 17, .int .i64 5, .int .u32 owner] (askC hB) XB hF hkl hU (fun w14 F' XB hF hkl hU hB => ?_); go_wp2; go_end0; exact ⟨rfl, _, hB, hU⟩
def finS (st : BS) (own their turn owner other : Int) : BS := (((((((zeroS (((((st.place s_again).set 4 1).ask 17 4 own).ask 16 4 their).go 14 4 s_got) own).place s_wait).ask 16 4 their).go 15 4 s_wait).go 13 0 s_again).place s_got).ask 17 5 owner)
@[simp] theorem sz_finS (st : BS) (own their turn owner other : Int) : (finS st own their turn owner other).sz = st.sz + 16 := by
 unfold finS; simp
theorem finC {b : Nat} {F : Nat → Prop} {st : BS} {own their turn owner other : Int} {w : World} (hB : BMem w b F st) (hs : st.sz ≤ 3600 := by first | omega | (simp <;> omega)) : Calls Tryz.prog 188 #[.agg #[.int .u32 own, .int .u32 their, .int .u32 turn, .int .u32 owner, .int .u32 other], .pointer (some ⟨b, 0, none⟩)] w fun e w' => e = .returned (.tuple #[]) ∧ ∃ F', BMem w' b F' (finS st own their turn owner other) ∧ Upd F F' w w' := by
 go_enter Tryz.func188, Tryz.ntmps188; go_upto_region 1 with (fail); obtain ⟨W, kB, e0, e1, XB, hal⟩ := box1 w #[.int .u32 own, .int .u32 their, .int .u32 turn, .int .u32 owner, .int .u32 other] 214; rw [e0, e1]
 have hF : ¬ F kB := fun h => by have := hB.lt kB h; omega
 clear e0 e1; have hkl : kB < W.heap.size := blk_lt XB; have hU : Upd F F w W := Upd.of_below hal; replace hB := hB.below hal; clear hal; go_upto_region 1 with (fail); refine wp_region_lit ?_; obtain ⟨y0, y1, y2, y3, y4⟩ := cl5 XB; refine Zv ?_; clear y0 y1 y2 y3 y4
 refine Zb 174 #[.pointer (some ⟨b, 0, none⟩), .string s_again] (placeC hB nm_again (by decide) (by first | omega | (simp <;> omega))) XB hF hkl hU (fun w1 F' XB hF hkl hU hB => ?_)
 go_upto_region 2 with (fail); refine wp_region_lit ?_; obtain ⟨y0, y1, y2, y3, y4⟩ := cl5 XB; refine Zv ?_; clear y0 y1 y2 y3 y4; refine Zb 130 #[.pointer (some ⟨b, 0, none⟩), .int .i64 4, .int .u32 1] (setC hB) XB hF hkl hU (fun w2 F' XB hF hkl hU hB => ?_); go_upto_region 3 with (fail); refine wp_region_lit ?_; obtain ⟨y0, y1, y2, y3, y4⟩ := cl5 XB
 iterate 3 refine Zv ?_
 clear y0 y1 y2 y3 y4; refine Zb 138 #[.pointer (some ⟨b, 0, none⟩), .int .i64 17, .int .i64 4, .int .u32 own] (askC hB) XB hF hkl hU (fun w3 F' XB hF hkl hU hB => ?_); go_upto_region 4 with (fail); refine wp_region_lit ?_; obtain ⟨y0, y1, y2, y3, y4⟩ := cl5 XB
 iterate 3 refine Zv ?_
 clear y0 y1 y2 y3 y4; refine Zb 138 #[.pointer (some ⟨b, 0, none⟩), .int .i64 16, .int .i64 4, .int .u32 their] (askC hB) XB hF hkl hU (fun w4 F' XB hF hkl hU hB => ?_); go_upto_region 5 with (fail); refine wp_region_lit ?_; obtain ⟨y0, y1, y2, y3, y4⟩ := cl5 XB; refine Zv ?_; clear y0 y1 y2 y3 y4; refine Zb 173 #[.pointer (some ⟨b, 0, none⟩), .int .i64 14, .int .i64 4, .string s_got] (goC hB) XB hF hkl hU (fun w5 F' XB hF hkl hU hB => ?_); go_upto_region 6 with (fail); refine wp_region_lit ?_; obtain ⟨y0, y1, y2, y3, y4⟩ := cl5 XB
 iterate 3 refine Zv ?_
 clear y0 y1 y2 y3 y4; refine Zb 123 #[.pointer (some ⟨b, 0, none⟩), .int .u32 own] (zeroC hB) XB hF hkl hU (fun w6 F' XB hF hkl hU hB => ?_); go_upto_region 7 with (fail); refine wp_region_lit ?_; obtain ⟨y0, y1, y2, y3, y4⟩ := cl5 XB; refine Zv ?_; clear y0 y1 y2 y3 y4
 refine Zb 174 #[.pointer (some ⟨b, 0, none⟩), .string s_wait] (placeC hB nm_wait (by decide) (by first | omega | (simp <;> omega))) XB hF hkl hU (fun w7 F' XB hF hkl hU hB => ?_)
 go_upto_region 8 with (fail); refine wp_region_lit ?_; obtain ⟨y0, y1, y2, y3, y4⟩ := cl5 XB
 iterate 3 refine Zv ?_
 clear y0 y1 y2 y3 y4; refine Zb 138 #[.pointer (some ⟨b, 0, none⟩), .int .i64 16, .int .i64 4, .int .u32 their] (askC hB) XB hF hkl hU (fun w8 F' XB hF hkl hU hB => ?_); go_upto_region 9 with (fail); refine wp_region_lit ?_; obtain ⟨y0, y1, y2, y3, y4⟩ := cl5 XB; refine Zv ?_; clear y0 y1 y2 y3 y4; refine Zb 173 #[.pointer (some ⟨b, 0, none⟩), .int .i64 15, .int .i64 4, .string s_wait] (goC hB) XB hF hkl hU (fun w9 F' XB hF hkl hU hB => ?_); go_upto_region 10 with (fail); refine wp_region_lit ?_; obtain ⟨y0, y1, y2, y3, y4⟩ := cl5 XB; refine Zv ?_; clear y0 y1 y2 y3 y4; refine Zb 173 #[.pointer (some ⟨b, 0, none⟩), .int .i64 13, .int .i64 0, .string s_again] (goC hB) XB hF hkl hU (fun w10 F' XB hF hkl hU hB => ?_); go_upto_region 11 with (fail); refine wp_region_lit ?_; obtain ⟨y0, y1, y2, y3, y4⟩ := cl5 XB; refine Zv ?_; clear y0 y1 y2 y3 y4
 refine Zb 174 #[.pointer (some ⟨b, 0, none⟩), .string s_got] (placeC hB nm_got (by decide) (by first | omega | (simp <;> omega))) XB hF hkl hU (fun w11 F' XB hF hkl hU hB => ?_)
 go_upto_region 12 with (fail); refine wp_region_lit ?_; obtain ⟨y0, y1, y2, y3, y4⟩ := cl5 XB
 iterate 3 refine Zv ?_
 clear y0 y1 y2 y3 y4; refine Zb 138 #[.pointer (some ⟨b, 0, none⟩), .int .i64 17, .int .i64 5, .int .u32 owner] (askC hB) XB hF hkl hU (fun w12 F' XB hF hkl hU hB => ?_); go_wp2; go_end0; exact ⟨rfl, _, hB, hU⟩
def sinS (st : BS) (own their turn owner other : Int) : BS := (((((((st.set 4 1).ask 17 4 own).emit ⟨25, 0, 0, 0, 0⟩).place s_wait).ask 16 4 their).go 15 4 s_wait).ask 17 5 owner)
@[simp] theorem sz_sinS (st : BS) (own their turn owner other : Int) : (sinS st own their turn owner other).sz = st.sz + 8 := by
 unfold sinS; simp
theorem sinC {b : Nat} {F : Nat → Prop} {st : BS} {own their turn owner other : Int} {w : World} (hB : BMem w b F st) (hs : st.sz ≤ 3600 := by first | omega | (simp <;> omega)) : Calls Tryz.prog 189 #[.agg #[.int .u32 own, .int .u32 their, .int .u32 turn, .int .u32 owner, .int .u32 other], .pointer (some ⟨b, 0, none⟩)] w fun e w' => e = .returned (.tuple #[]) ∧ ∃ F', BMem w' b F' (sinS st own their turn owner other) ∧ Upd F F' w w' := by
 go_enter Tryz.func189, Tryz.ntmps189; go_upto_region 1 with (fail); obtain ⟨W, kB, e0, e1, XB, hal⟩ := box1 w #[.int .u32 own, .int .u32 their, .int .u32 turn, .int .u32 owner, .int .u32 other] 214; rw [e0, e1]
 have hF : ¬ F kB := fun h => by have := hB.lt kB h; omega
 clear e0 e1; have hkl : kB < W.heap.size := blk_lt XB; have hU : Upd F F w W := Upd.of_below hal; replace hB := hB.below hal; clear hal; go_upto_region 1 with (fail); refine wp_region_lit ?_; obtain ⟨y0, y1, y2, y3, y4⟩ := cl5 XB; refine Zv ?_; clear y0 y1 y2 y3 y4; refine Zb 130 #[.pointer (some ⟨b, 0, none⟩), .int .i64 4, .int .u32 1] (setC hB) XB hF hkl hU (fun w1 F' XB hF hkl hU hB => ?_); go_upto_region 2 with (fail); refine wp_region_lit ?_; obtain ⟨y0, y1, y2, y3, y4⟩ := cl5 XB
 iterate 3 refine Zv ?_
 clear y0 y1 y2 y3 y4; refine Zb 138 #[.pointer (some ⟨b, 0, none⟩), .int .i64 17, .int .i64 4, .int .u32 own] (askC hB) XB hF hkl hU (fun w2 F' XB hF hkl hU hB => ?_); go_upto_region 3 with (fail); refine wp_region_lit ?_; obtain ⟨y0, y1, y2, y3, y4⟩ := cl5 XB
 iterate 2 refine Zv ?_
 clear y0 y1 y2 y3 y4
 refine Zb 183 #[.pointer (some ⟨b, 0, none⟩), .agg #[.int .i64 25, .int .i64 0, .int .i64 0, .int .i64 0, .int .u32 0]] (emitC ⟨25, 0, 0, 0, 0⟩ _ hB (Nat.le_succ_of_le (by first | omega | (simp <;> omega)))) XB hF hkl hU (fun w3 F' XB hF hkl hU hB => ?_)
 go_upto_region 4 with (fail); refine wp_region_lit ?_; obtain ⟨y0, y1, y2, y3, y4⟩ := cl5 XB; refine Zv ?_; clear y0 y1 y2 y3 y4
 refine Zb 174 #[.pointer (some ⟨b, 0, none⟩), .string s_wait] (placeC hB nm_wait (by decide) (by first | omega | (simp <;> omega))) XB hF hkl hU (fun w4 F' XB hF hkl hU hB => ?_)
 go_upto_region 5 with (fail); refine wp_region_lit ?_; obtain ⟨y0, y1, y2, y3, y4⟩ := cl5 XB
 iterate 3 refine Zv ?_
 clear y0 y1 y2 y3 y4; refine Zb 138 #[.pointer (some ⟨b, 0, none⟩), .int .i64 16, .int .i64 4, .int .u32 their] (askC hB) XB hF hkl hU (fun w5 F' XB hF hkl hU hB => ?_); go_upto_region 6 with (fail); refine wp_region_lit ?_; obtain ⟨y0, y1, y2, y3, y4⟩ := cl5 XB; refine Zv ?_; clear y0 y1 y2 y3 y4; refine Zb 173 #[.pointer (some ⟨b, 0, none⟩), .int .i64 15, .int .i64 4, .string s_wait] (goC hB) XB hF hkl hU (fun w6 F' XB hF hkl hU hB => ?_); go_upto_region 7 with (fail); refine wp_region_lit ?_; obtain ⟨y0, y1, y2, y3, y4⟩ := cl5 XB
 iterate 3 refine Zv ?_
 clear y0 y1 y2 y3 y4; refine Zb 138 #[.pointer (some ⟨b, 0, none⟩), .int .i64 17, .int .i64 5, .int .u32 owner] (askC hB) XB hF hkl hU (fun w7 F' XB hF hkl hU hB => ?_); go_wp2; go_end0; exact ⟨rfl, _, hB, hU⟩
def doutS (st : BS) (own their turn owner other : Int) : BS := (zeroS (zeroS st owner) own)
@[simp] theorem sz_doutS (st : BS) (own their turn owner other : Int) : (doutS st own their turn owner other).sz = st.sz + 4 := by
 unfold doutS; simp
theorem doutC {b : Nat} {F : Nat → Prop} {st : BS} {own their turn owner other : Int} {w : World} (hB : BMem w b F st) (hs : st.sz ≤ 3600 := by first | omega | (simp <;> omega)) : Calls Tryz.prog 132 #[.agg #[.int .u32 own, .int .u32 their, .int .u32 turn, .int .u32 owner, .int .u32 other], .pointer (some ⟨b, 0, none⟩)] w fun e w' => e = .returned (.tuple #[]) ∧ ∃ F', BMem w' b F' (doutS st own their turn owner other) ∧ Upd F F' w w' := by
 go_enter Tryz.func132, Tryz.ntmps132; go_upto_region 1 with (fail); obtain ⟨W, kB, e0, e1, XB, hal⟩ := box1 w #[.int .u32 own, .int .u32 their, .int .u32 turn, .int .u32 owner, .int .u32 other] 214; rw [e0, e1]
 have hF : ¬ F kB := fun h => by have := hB.lt kB h; omega
 clear e0 e1; have hkl : kB < W.heap.size := blk_lt XB; have hU : Upd F F w W := Upd.of_below hal; replace hB := hB.below hal; clear hal; go_upto_region 1 with (fail); refine wp_region_lit ?_; obtain ⟨y0, y1, y2, y3, y4⟩ := cl5 XB
 iterate 3 refine Zv ?_
 clear y0 y1 y2 y3 y4; refine Zb 123 #[.pointer (some ⟨b, 0, none⟩), .int .u32 owner] (zeroC hB) XB hF hkl hU (fun w1 F' XB hF hkl hU hB => ?_); go_upto_region 2 with (fail); refine wp_region_lit ?_; obtain ⟨y0, y1, y2, y3, y4⟩ := cl5 XB
 iterate 3 refine Zv ?_
 clear y0 y1 y2 y3 y4; refine Zb 123 #[.pointer (some ⟨b, 0, none⟩), .int .u32 own] (zeroC hB) XB hF hkl hU (fun w2 F' XB hF hkl hU hB => ?_); go_wp2; go_end0; exact ⟨rfl, _, hB, hU⟩
end Go.Proofs.YtbcgngfbbbfebaaGreatDoor
namespace Go.Proofs.YtbcgngfbbbfebaaGreatDoor
open Go.RowKit Go.Maps
set_option maxRecDepth 100000
set_option maxHeartbeats 32000000
set_option linter.unusedVariables false
set_option linter.unusedSimpArgs false
attribute [local simp] sz_alu sz_ask sz_beginS sz_biasedS sz_cas sz_changeS sz_claimS sz_clhInS sz_clhOutS sz_closeS sz_doutS sz_downS sz_emit sz_farS sz_finS sz_gmoreS sz_go sz_gwakeS sz_leaveS sz_mcsInS sz_mcsOutS sz_minS sz_mineS sz_moutS sz_mwakeS sz_otherS sz_passS sz_pinS sz_place sz_proveS sz_rclaimS sz_rhasS sz_rreadS sz_rrelS sz_rsleepS sz_rwriteS sz_set sz_sinS sz_smoreS sz_takeS sz_tasS sz_ticketS sz_ttasS sz_upS sz_zeroS
def meetS (st : BS) (n base : Int) : BS := (closeS ((((((((((gwakeS (gmoreS (zeroS ((((gmoreS (st.ask 16 5 ((base + 1) % 4294967296)) base).set 6 (n - 1)).alu 12 6 4 6).go 14 6 s_look) base) ((base + 1) % 4294967296)) 4294967295 ((base + 1) % 4294967296)).go 13 0 s_done).place s_look).ask 16 4 ((base + 1) % 4294967296)).alu 12 6 4 5).go 14 6 s_done).emit ⟨2, 4, 5, 0, 0⟩).ask 23 4 ((base + 1) % 4294967296)).go 13 0 s_look).place s_done) )
@[simp] theorem sz_meetS (st : BS) (n base : Int) : (meetS st n base).sz = st.sz + 27 := by
 unfold meetS; simp
theorem meetC {b : Nat} {F : Nat → Prop} {st : BS} {n base : Int} {w : World} (hn : 1 ≤ n ∧ n ≤ 8) (hB : BMem w b F st) (hs : st.sz ≤ 3600 := by first | omega | (simp <;> omega)) : Calls Tryz.prog 196 #[.pointer (some ⟨b, 0, none⟩), .int .i64 n, .int .u32 base] w fun e w' => e = .returned (.tuple #[]) ∧ ∃ F', BMem w' b F' (meetS st n base) ∧ Upd F F' w w' := by
 have hn0 := hn.1; have hn1 := hn.2; clear hn; go_enter Tryz.func196, Tryz.ntmps196; have hU := Upd.refl F w; go_wp2_with fail; refine (Zx hU (askC hB)).mono ?_; rintro e w' ⟨rfl, F', hB, hU⟩; go_wp2_with fail; refine (Zx hU (gmoreC hB)).mono ?_; rintro e w' ⟨rfl, F', hB, hU⟩; go_wp2_with fail; refine (Zx hU (setC hB)).mono ?_; rintro e w' ⟨rfl, F', hB, hU⟩; go_wp2_with fail; refine (Zx hU (aluC hB)).mono ?_; rintro e w' ⟨rfl, F', hB, hU⟩; go_wp2_with fail; refine (Zx hU (goC hB)).mono ?_; rintro e w' ⟨rfl, F', hB, hU⟩; go_wp2_with fail; refine (Zx hU (zeroC hB)).mono ?_; rintro e w' ⟨rfl, F', hB, hU⟩; go_wp2_with fail; refine (Zx hU (gmoreC hB)).mono ?_; rintro e w' ⟨rfl, F', hB, hU⟩; go_wp2_with fail; refine (everyV _).mono ?_; rintro e w' ⟨rfl, hd⟩; replace hB := hB.below hd; replace hU := hU.trans (Upd.of_below hd); clear hd; go_wp2_with fail; refine (Zx hU (gwakeC hB)).mono ?_; rintro e w' ⟨rfl, F', hB, hU⟩; go_wp2_with fail; refine (Zx hU (goC hB)).mono ?_; rintro e w' ⟨rfl, F', hB, hU⟩; go_wp2_with fail
 refine (Zx hU (placeC hB nm_look (by decide) (by first | omega | (simp <;> omega)))).mono ?_
 rintro e w' ⟨rfl, F', hB, hU⟩; go_wp2_with fail; refine (Zx hU (askC hB)).mono ?_; rintro e w' ⟨rfl, F', hB, hU⟩; go_wp2_with fail; refine (Zx hU (aluC hB)).mono ?_; rintro e w' ⟨rfl, F', hB, hU⟩; go_wp2_with fail; refine (Zx hU (goC hB)).mono ?_; rintro e w' ⟨rfl, F', hB, hU⟩; go_wp2_with fail
 refine (Zx hU (emitC ⟨2, 4, 5, 0, 0⟩ _ hB (Nat.le_succ_of_le (by first | omega | (simp <;> omega))))).mono ?_
 rintro e w' ⟨rfl, F', hB, hU⟩; go_wp2_with fail; refine (Zx hU (askC hB)).mono ?_; rintro e w' ⟨rfl, F', hB, hU⟩; go_wp2_with fail; refine (Zx hU (goC hB)).mono ?_; rintro e w' ⟨rfl, F', hB, hU⟩; go_wp2_with fail
 refine (Zx hU (placeC hB nm_done (by decide) (by first | omega | (simp <;> omega)))).mono ?_
 rintro e w' ⟨rfl, F', hB, hU⟩; go_wp2_with fail; refine (Zx hU (closeC hB)).mono ?_; rintro e w' ⟨rfl, F', hB, hU⟩; go_wp2; go_end0; exact ⟨rfl, _, hB, hU⟩
def enterS (st : BS) (t base : Int) : BS := (closeS ((((((((((((((((((((claimS st ((base + 1) % 4294967296) t).place s_again).ask 16 4 base).set 6 2).alu 12 6 4 6).go 15 6 s_done).set 4 0).set 6 1).cas 4 6 base).go 14 4 s_yours).set 6 1).alu 12 6 4 6).go 14 6 s_again).ask 23 4 base).go 13 0 s_again).place s_yours).ask 17 5 ((base + 1) % 4294967296)).set 7 5).go 13 0 s_end).place s_done) )
@[simp] theorem sz_enterS (st : BS) (t base : Int) : (enterS st t base).sz = st.sz + 35 := by
 unfold enterS; simp
theorem enterC {b : Nat} {F : Nat → Prop} {st : BS} {t base : Int} {w : World} (hB : BMem w b F st) (hs : st.sz ≤ 3600 := by first | omega | (simp <;> omega)) : Calls Tryz.prog 146 #[.pointer (some ⟨b, 0, none⟩), .int .i64 t, .int .u32 base] w fun e w' => e = .returned (.tuple #[]) ∧ ∃ F', BMem w' b F' (enterS st t base) ∧ Upd F F' w w' := by
 go_enter Tryz.func146, Tryz.ntmps146; have hU := Upd.refl F w; go_wp2_with fail; refine (Zx hU (claimC hB)).mono ?_; rintro e w' ⟨rfl, F', hB, hU⟩; go_wp2_with fail
 refine (Zx hU (placeC hB nm_again (by decide) (by first | omega | (simp <;> omega)))).mono ?_
 rintro e w' ⟨rfl, F', hB, hU⟩; go_wp2_with fail; refine (Zx hU (askC hB)).mono ?_; rintro e w' ⟨rfl, F', hB, hU⟩; go_wp2_with fail; refine (Zx hU (setC hB)).mono ?_; rintro e w' ⟨rfl, F', hB, hU⟩; go_wp2_with fail; refine (Zx hU (aluC hB)).mono ?_; rintro e w' ⟨rfl, F', hB, hU⟩; go_wp2_with fail; refine (Zx hU (goC hB)).mono ?_; rintro e w' ⟨rfl, F', hB, hU⟩; go_wp2_with fail; refine (Zx hU (setC hB)).mono ?_; rintro e w' ⟨rfl, F', hB, hU⟩; go_wp2_with fail; refine (Zx hU (setC hB)).mono ?_; rintro e w' ⟨rfl, F', hB, hU⟩; go_wp2_with fail; refine (Zx hU (casC hB)).mono ?_; rintro e w' ⟨rfl, F', hB, hU⟩; go_wp2_with fail; refine (Zx hU (goC hB)).mono ?_; rintro e w' ⟨rfl, F', hB, hU⟩; go_wp2_with fail; refine (Zx hU (setC hB)).mono ?_; rintro e w' ⟨rfl, F', hB, hU⟩; go_wp2_with fail; refine (Zx hU (aluC hB)).mono ?_; rintro e w' ⟨rfl, F', hB, hU⟩; go_wp2_with fail; refine (Zx hU (goC hB)).mono ?_; rintro e w' ⟨rfl, F', hB, hU⟩; go_wp2_with fail; refine (Zx hU (askC hB)).mono ?_; rintro e w' ⟨rfl, F', hB, hU⟩; go_wp2_with fail; refine (Zx hU (goC hB)).mono ?_; rintro e w' ⟨rfl, F', hB, hU⟩; go_wp2_with fail
 refine (Zx hU (placeC hB nm_yours (by decide) (by first | omega | (simp <;> omega)))).mono ?_
 rintro e w' ⟨rfl, F', hB, hU⟩; go_wp2_with fail; refine (Zx hU (askC hB)).mono ?_; rintro e w' ⟨rfl, F', hB, hU⟩; go_wp2_with fail; refine (Zx hU (setC hB)).mono ?_; rintro e w' ⟨rfl, F', hB, hU⟩; go_wp2_with fail; refine (Zx hU (goC hB)).mono ?_; rintro e w' ⟨rfl, F', hB, hU⟩; go_wp2_with fail
 refine (Zx hU (placeC hB nm_done (by decide) (by first | omega | (simp <;> omega)))).mono ?_
 rintro e w' ⟨rfl, F', hB, hU⟩; go_wp2_with fail; refine (Zx hU (closeC hB)).mono ?_; rintro e w' ⟨rfl, F', hB, hU⟩; go_wp2; go_end0; exact ⟨rfl, _, hB, hU⟩
def gdoneS (st : BS) (t base : Int) : BS := (closeS (gwakeS (((zeroS (proveS st ((base + 1) % 4294967296) t) ((base + 1) % 4294967296)).set 4 2).ask 19 4 base) 4294967295 base) )
@[simp] theorem sz_gdoneS (st : BS) (t base : Int) : (gdoneS st t base).sz = st.sz + 17 := by
 unfold gdoneS; simp
theorem gdoneC {b : Nat} {F : Nat → Prop} {st : BS} {t base : Int} {w : World} (hB : BMem w b F st) (hs : st.sz ≤ 3600 := by first | omega | (simp <;> omega)) : Calls Tryz.prog 147 #[.pointer (some ⟨b, 0, none⟩), .int .i64 t, .int .u32 base] w fun e w' => e = .returned (.tuple #[]) ∧ ∃ F', BMem w' b F' (gdoneS st t base) ∧ Upd F F' w w' := by
 go_enter Tryz.func147, Tryz.ntmps147; have hU := Upd.refl F w; go_wp2_with fail; refine (Zx hU (proveC hB)).mono ?_; rintro e w' ⟨rfl, F', hB, hU⟩; go_wp2_with fail; refine (Zx hU (zeroC hB)).mono ?_; rintro e w' ⟨rfl, F', hB, hU⟩; go_wp2_with fail; refine (Zx hU (setC hB)).mono ?_; rintro e w' ⟨rfl, F', hB, hU⟩; go_wp2_with fail; refine (Zx hU (askC hB)).mono ?_; rintro e w' ⟨rfl, F', hB, hU⟩; go_wp2_with fail; refine (everyV _).mono ?_; rintro e w' ⟨rfl, hd⟩; replace hB := hB.below hd; replace hU := hU.trans (Upd.of_below hd); clear hd; go_wp2_with fail; refine (Zx hU (gwakeC hB)).mono ?_; rintro e w' ⟨rfl, F', hB, hU⟩; go_wp2_with fail; refine (Zx hU (closeC hB)).mono ?_; rintro e w' ⟨rfl, F', hB, hU⟩; go_wp2; go_end0; exact ⟨rfl, _, hB, hU⟩
def cond5S (st : BS) (t base : Int) : BS := (closeS ((st.ask 16 4 base).ask 17 4 ((base + 1 + t) % 4294967296)) )
@[simp] theorem sz_cond5S (st : BS) (t base : Int) : (cond5S st t base).sz = st.sz + 4 := by
 unfold cond5S; simp
theorem cond5C {b : Nat} {F : Nat → Prop} {st : BS} {t base : Int} {w : World} (hB : BMem w b F st) (hs : st.sz ≤ 3600 := by first | omega | (simp <;> omega)) : Calls Tryz.prog 144 #[.pointer (some ⟨b, 0, none⟩), .int .i64 5, .int .i64 t, .int .u32 base] w fun e w' => e = .returned (.tuple #[]) ∧ ∃ F', BMem w' b F' (cond5S st t base) ∧ Upd F F' w w' := by
 go_enter Tryz.func144, Tryz.ntmps144; have hU := Upd.refl F w; go_wp2_with fail; refine (Zx hU (askC hB)).mono ?_; rintro e w' ⟨rfl, F', hB, hU⟩; go_wp2_with fail; refine (Zx hU (askC hB)).mono ?_; rintro e w' ⟨rfl, F', hB, hU⟩; go_wp2_with fail; refine (Zx hU (closeC hB)).mono ?_; rintro e w' ⟨rfl, F', hB, hU⟩; go_wp2; go_end0; exact ⟨rfl, _, hB, hU⟩
def cond6S (st : BS) (t base : Int) : BS := (closeS ((st.ask 16 4 ((base + 1 + t) % 4294967296)).ask 23 4 base) )
@[simp] theorem sz_cond6S (st : BS) (t base : Int) : (cond6S st t base).sz = st.sz + 4 := by
 unfold cond6S; simp
theorem cond6C {b : Nat} {F : Nat → Prop} {st : BS} {t base : Int} {w : World} (hB : BMem w b F st) (hs : st.sz ≤ 3600 := by first | omega | (simp <;> omega)) : Calls Tryz.prog 144 #[.pointer (some ⟨b, 0, none⟩), .int .i64 6, .int .i64 t, .int .u32 base] w fun e w' => e = .returned (.tuple #[]) ∧ ∃ F', BMem w' b F' (cond6S st t base) ∧ Upd F F' w w' := by
 go_enter Tryz.func144, Tryz.ntmps144; have hU := Upd.refl F w; go_wp2_with fail; refine (Zx hU (askC hB)).mono ?_; rintro e w' ⟨rfl, F', hB, hU⟩; go_wp2_with fail; refine (Zx hU (askC hB)).mono ?_; rintro e w' ⟨rfl, F', hB, hU⟩; go_wp2_with fail; refine (Zx hU (closeC hB)).mono ?_; rintro e w' ⟨rfl, F', hB, hU⟩; go_wp2; go_end0; exact ⟨rfl, _, hB, hU⟩
def cond7S (st : BS) (t base : Int) : BS := (closeS (gwakeS (gmoreS st base) 1 base) )
@[simp] theorem sz_cond7S (st : BS) (t base : Int) : (cond7S st t base).sz = st.sz + 6 := by
 unfold cond7S; simp
theorem cond7C {b : Nat} {F : Nat → Prop} {st : BS} {t base : Int} {w : World} (hB : BMem w b F st) (hs : st.sz ≤ 3600 := by first | omega | (simp <;> omega)) : Calls Tryz.prog 144 #[.pointer (some ⟨b, 0, none⟩), .int .i64 7, .int .i64 t, .int .u32 base] w fun e w' => e = .returned (.tuple #[]) ∧ ∃ F', BMem w' b F' (cond7S st t base) ∧ Upd F F' w w' := by
 go_enter Tryz.func144, Tryz.ntmps144; have hU := Upd.refl F w; go_wp2_with fail; refine (Zx hU (gmoreC hB)).mono ?_; rintro e w' ⟨rfl, F', hB, hU⟩; go_wp2_with fail; refine (Zx hU (gwakeC hB)).mono ?_; rintro e w' ⟨rfl, F', hB, hU⟩; go_wp2_with fail; refine (Zx hU (closeC hB)).mono ?_; rintro e w' ⟨rfl, F', hB, hU⟩; go_wp2; go_end0; exact ⟨rfl, _, hB, hU⟩
def cond8S (st : BS) (t base : Int) : BS := (closeS (gwakeS (gmoreS st base) 4294967295 base) )
@[simp] theorem sz_cond8S (st : BS) (t base : Int) : (cond8S st t base).sz = st.sz + 6 := by
 unfold cond8S; simp
theorem cond8C {b : Nat} {F : Nat → Prop} {st : BS} {t base : Int} {w : World} (hB : BMem w b F st) (hs : st.sz ≤ 3600 := by first | omega | (simp <;> omega)) : Calls Tryz.prog 144 #[.pointer (some ⟨b, 0, none⟩), .int .i64 8, .int .i64 t, .int .u32 base] w fun e w' => e = .returned (.tuple #[]) ∧ ∃ F', BMem w' b F' (cond8S st t base) ∧ Upd F F' w w' := by
 go_enter Tryz.func144, Tryz.ntmps144; have hU := Upd.refl F w; go_wp2_with fail; refine (Zx hU (gmoreC hB)).mono ?_; rintro e w' ⟨rfl, F', hB, hU⟩; go_wp2_with fail; refine (everyV _).mono ?_; rintro e w' ⟨rfl, hd⟩; replace hB := hB.below hd; replace hU := hU.trans (Upd.of_below hd); clear hd; go_wp2_with fail; refine (Zx hU (gwakeC hB)).mono ?_; rintro e w' ⟨rfl, F', hB, hU⟩; go_wp2_with fail; refine (Zx hU (closeC hB)).mono ?_; rintro e w' ⟨rfl, F', hB, hU⟩; go_wp2; go_end0; exact ⟨rfl, _, hB, hU⟩
end Go.Proofs.YtbcgngfbbbfebaaGreatDoor
