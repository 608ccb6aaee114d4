/- The builder's helpers of bias, seq, mutex, gate. The builder's helpers of queue. -/
import Derived.Test.YtbcgngfbbbfebaaGreatDoorM10
namespace Go.Proofs.YtbcgngfbbbfebaaGreatDoor
open Go.RowKit Go.Maps
set_option maxRecDepth 100000
set_option maxHeartbeats 32000000
set_option linter.unusedVariables false
set_option linter.unusedSimpArgs false
attribute [local simp] sz_alu sz_ask sz_cas sz_claimS sz_closeS sz_emit sz_go sz_mineS sz_passS sz_place sz_proveS sz_set sz_tasS sz_ticketS sz_ttasS sz_zeroS
def takeS (st : BS) (base : Int) : BS := ((((st.place s_spin).set 4 0).cas 4 5 ((base + 2) % 4294967296)).go 15 4 s_spin)
@[simp] theorem sz_takeS (st : BS) (base : Int) : (takeS st base).sz = st.sz + 5 := by
 unfold takeS; simp
theorem takeC {b : Nat} {F : Nat → Prop} {st : BS} {base : Int} {w : World} (hB : BMem w b F st) (hs : st.sz ≤ 3800 := by first | omega | (simp <;> omega)) : Calls Tryz.prog 190 #[.pointer (some ⟨b, 0, none⟩), .int .u32 base] w fun e w' => e = .returned (.tuple #[]) ∧ ∃ F', BMem w' b F' (takeS st base) ∧ Upd F F' w w' := by
 go_enter Tryz.func190, Tryz.ntmps190; have hU := Upd.refl F w; go_wp2_with fail
 refine (Zx hU (placeC hB nm_spin (by decide) (by first | omega | (simp <;> omega)))).mono ?_
 rintro e w' ⟨rfl, F', hB, hU⟩; go_wp2_with fail; refine (Zx hU (setC hB)).mono ?_; rintro e w' ⟨rfl, F', hB, hU⟩; go_wp2_with fail; refine (Zx hU (casC hB)).mono ?_; rintro e w' ⟨rfl, F', hB, hU⟩; go_wp2_with fail; refine (Zx hU (goC hB)).mono ?_; rintro e w' ⟨rfl, F', hB, hU⟩; go_wp2; go_end0; exact ⟨rfl, _, hB, hU⟩
def biasedS (st : BS) (base : Int) : BS := (((takeS (zeroS ((((st.set 4 1).ask 17 4 (base % 4294967296)).ask 16 4 ((base + 1) % 4294967296)).go 14 4 s_got) (base % 4294967296)) base).place s_got).ask 17 5 ((base + 3) % 4294967296))
@[simp] theorem sz_biasedS (st : BS) (base : Int) : (biasedS st base).sz = st.sz + 14 := by
 unfold biasedS; simp
theorem biasedC {b : Nat} {F : Nat → Prop} {st : BS} {base : Int} {w : World} (hB : BMem w b F st) (hs : st.sz ≤ 3700 := by first | omega | (simp <;> omega)) : Calls Tryz.prog 133 #[.pointer (some ⟨b, 0, none⟩), .int .u32 base] w fun e w' => e = .returned (.tuple #[]) ∧ ∃ F', BMem w' b F' (biasedS st base) ∧ Upd F F' w w' := by
 go_enter Tryz.func133, Tryz.ntmps133; have hU := Upd.refl F w; go_wp2_with fail; refine (Zx hU (setC hB)).mono ?_; rintro e w' ⟨rfl, F', hB, hU⟩; go_wp2_with fail; refine (Zx hU (askC hB)).mono ?_; rintro e w' ⟨rfl, F', hB, hU⟩; go_wp2_with fail; refine (Zx hU (askC hB)).mono ?_; rintro e w' ⟨rfl, F', hB, hU⟩; go_wp2_with fail; refine (Zx hU (goC hB)).mono ?_; rintro e w' ⟨rfl, F', hB, hU⟩; go_wp2_with fail; refine (Zx hU (zeroC hB)).mono ?_; rintro e w' ⟨rfl, F', hB, hU⟩; go_wp2_with fail; refine (Zx hU (takeC hB)).mono ?_; rintro e w' ⟨rfl, F', hB, hU⟩; go_wp2_with fail
 refine (Zx hU (placeC hB nm_got (by decide) (by first | omega | (simp <;> omega)))).mono ?_
 rintro e w' ⟨rfl, F', hB, hU⟩; go_wp2_with fail; refine (Zx hU (askC hB)).mono ?_; rintro e w' ⟨rfl, F', hB, hU⟩; go_wp2; go_end0; exact ⟨rfl, _, hB, hU⟩
def otherS (st : BS) (base : Int) : BS := (((((((((((takeS st base).ask 16 4 ((base + 1) % 4294967296)).go 15 4 s_got).set 4 1).ask 17 4 ((base + 1) % 4294967296)).emit ⟨25, 0, 0, 0, 0⟩).place s_wait).ask 16 4 (base % 4294967296)).go 15 4 s_wait).place s_got).ask 17 5 ((base + 3) % 4294967296))
@[simp] theorem sz_otherS (st : BS) (base : Int) : (otherS st base).sz = st.sz + 17 := by
 unfold otherS; simp
theorem otherC {b : Nat} {F : Nat → Prop} {st : BS} {base : Int} {w : World} (hB : BMem w b F st) (hs : st.sz ≤ 3700 := by first | omega | (simp <;> omega)) : Calls Tryz.prog 134 #[.pointer (some ⟨b, 0, none⟩), .int .u32 base] w fun e w' => e = .returned (.tuple #[]) ∧ ∃ F', BMem w' b F' (otherS st base) ∧ Upd F F' w w' := by
 go_enter Tryz.func134, Tryz.ntmps134; have hU := Upd.refl F w; go_wp2_with fail; refine (Zx hU (takeC hB)).mono ?_; rintro e w' ⟨rfl, F', hB, hU⟩; go_wp2_with fail; refine (Zx hU (askC hB)).mono ?_; rintro e w' ⟨rfl, F', hB, hU⟩; go_wp2_with fail; refine (Zx hU (goC hB)).mono ?_; rintro e w' ⟨rfl, F', hB, hU⟩; go_wp2_with fail; refine (Zx hU (setC hB)).mono ?_; rintro e w' ⟨rfl, F', hB, hU⟩; go_wp2_with fail; refine (Zx hU (askC hB)).mono ?_; rintro e w' ⟨rfl, F', hB, hU⟩; go_wp2_with fail
 refine (Zx hU (emitC ⟨25, 0, 0, 0, 0⟩ _ hB (Nat.le_succ_of_le (by first | omega | (simp <;> omega))))).mono ?_
 rintro e w' ⟨rfl, F', hB, hU⟩; go_wp2_with fail
 refine (Zx hU (placeC hB nm_wait (by decide) (by first | omega | (simp <;> omega)))).mono ?_
 rintro e w' ⟨rfl, F', hB, hU⟩; go_wp2_with fail; refine (Zx hU (askC hB)).mono ?_; rintro e w' ⟨rfl, F', hB, hU⟩; go_wp2_with fail; refine (Zx hU (goC hB)).mono ?_; rintro e w' ⟨rfl, F', hB, hU⟩; go_wp2_with fail
 refine (Zx hU (placeC hB nm_got (by decide) (by first | omega | (simp <;> omega)))).mono ?_
 rintro e w' ⟨rfl, F', hB, hU⟩; go_wp2_with fail; refine (Zx hU (askC hB)).mono ?_; rintro e w' ⟨rfl, F', hB, hU⟩; go_wp2; go_end0; exact ⟨rfl, _, hB, hU⟩
def leaveS (st : BS) (base : Int) : BS := ((zeroS (((zeroS ((((zeroS st ((base + 3) % 4294967296)).ask 16 4 ((base + 2) % 4294967296)).alu 12 6 4 5).go 15 6 s_slow) (base % 4294967296)).go 13 0 s_done).place s_slow) ((base + 2) % 4294967296)).place s_done)
@[simp] theorem sz_leaveS (st : BS) (base : Int) : (leaveS st base).sz = st.sz + 14 := by
 unfold leaveS; simp
theorem leaveC {b : Nat} {F : Nat → Prop} {st : BS} {base : Int} {w : World} (hB : BMem w b F st) (hs : st.sz ≤ 3700 := by first | omega | (simp <;> omega)) : Calls Tryz.prog 135 #[.pointer (some ⟨b, 0, none⟩), .int .u32 base] w fun e w' => e = .returned (.tuple #[]) ∧ ∃ F', BMem w' b F' (leaveS st base) ∧ Upd F F' w w' := by
 go_enter Tryz.func135, Tryz.ntmps135; have hU := Upd.refl F w; go_wp2_with fail; refine (Zx hU (zeroC hB)).mono ?_; rintro e w' ⟨rfl, F', hB, hU⟩; go_wp2_with fail; refine (Zx hU (askC hB)).mono ?_; rintro e w' ⟨rfl, F', hB, hU⟩; go_wp2_with fail; refine (Zx hU (aluC hB)).mono ?_; rintro e w' ⟨rfl, F', hB, hU⟩; go_wp2_with fail; refine (Zx hU (goC hB)).mono ?_; rintro e w' ⟨rfl, F', hB, hU⟩; go_wp2_with fail; refine (Zx hU (zeroC hB)).mono ?_; rintro e w' ⟨rfl, F', hB, hU⟩; go_wp2_with fail; refine (Zx hU (goC hB)).mono ?_; rintro e w' ⟨rfl, F', hB, hU⟩; go_wp2_with fail
 refine (Zx hU (placeC hB nm_slow (by decide) (by first | omega | (simp <;> omega)))).mono ?_
 rintro e w' ⟨rfl, F', hB, hU⟩; go_wp2_with fail; refine (Zx hU (zeroC hB)).mono ?_; rintro e w' ⟨rfl, F', hB, hU⟩; go_wp2_with fail
 refine (Zx hU (placeC hB nm_done (by decide) (by first | omega | (simp <;> omega)))).mono ?_
 rintro e w' ⟨rfl, F', hB, hU⟩; go_wp2; go_end0; exact ⟨rfl, _, hB, hU⟩
def smoreS (st : BS) (base : Int) : BS := ((st.set 4 1).ask 20 4 (base % 4294967296))
@[simp] theorem sz_smoreS (st : BS) (base : Int) : (smoreS st base).sz = st.sz + 2 := by
 unfold smoreS; simp
theorem smoreC {b : Nat} {F : Nat → Prop} {st : BS} {base : Int} {w : World} (hB : BMem w b F st) (hs : st.sz ≤ 3900 := by first | omega | (simp <;> omega)) : Calls Tryz.prog 137 #[.pointer (some ⟨b, 0, none⟩), .int .u32 base] w fun e w' => e = .returned (.tuple #[]) ∧ ∃ F', BMem w' b F' (smoreS st base) ∧ Upd F F' w w' := by
 go_enter Tryz.func137, Tryz.ntmps137; have hU := Upd.refl F w; go_wp2_with fail; refine (Zx hU (setC hB)).mono ?_; rintro e w' ⟨rfl, F', hB, hU⟩; go_wp2_with fail; refine (Zx hU (askC hB)).mono ?_; rintro e w' ⟨rfl, F', hB, hU⟩; go_wp2; go_end0; exact ⟨rfl, _, hB, hU⟩
def beginS (st : BS) (base : Int) : BS := (smoreS ((((st.place s_spin).set 4 0).cas 4 5 ((base + 1) % 4294967296)).go 15 4 s_spin) base)
@[simp] theorem sz_beginS (st : BS) (base : Int) : (beginS st base).sz = st.sz + 7 := by
 unfold beginS; simp
theorem beginC {b : Nat} {F : Nat → Prop} {st : BS} {base : Int} {w : World} (hB : BMem w b F st) (hs : st.sz ≤ 3700 := by first | omega | (simp <;> omega)) : Calls Tryz.prog 136 #[.pointer (some ⟨b, 0, none⟩), .int .u32 base] w fun e w' => e = .returned (.tuple #[]) ∧ ∃ F', BMem w' b F' (beginS st base) ∧ Upd F F' w w' := by
 go_enter Tryz.func136, Tryz.ntmps136; have hU := Upd.refl F w; go_wp2_with fail
 refine (Zx hU (placeC hB nm_spin (by decide) (by first | omega | (simp <;> omega)))).mono ?_
 rintro e w' ⟨rfl, F', hB, hU⟩; go_wp2_with fail; refine (Zx hU (setC hB)).mono ?_; rintro e w' ⟨rfl, F', hB, hU⟩; go_wp2_with fail; refine (Zx hU (casC hB)).mono ?_; rintro e w' ⟨rfl, F', hB, hU⟩; go_wp2_with fail; refine (Zx hU (goC hB)).mono ?_; rintro e w' ⟨rfl, F', hB, hU⟩; go_wp2_with fail; refine (Zx hU (smoreC hB)).mono ?_; rintro e w' ⟨rfl, F', hB, hU⟩; go_wp2; go_end0; exact ⟨rfl, _, hB, hU⟩
def mwakeS (st : BS) (addr : Int) : BS := ((st.set 4 1).ask 24 4 addr)
@[simp] theorem sz_mwakeS (st : BS) (addr : Int) : (mwakeS st addr).sz = st.sz + 2 := by
 unfold mwakeS; simp
theorem mwakeC {b : Nat} {F : Nat → Prop} {st : BS} {addr : Int} {w : World} (hB : BMem w b F st) (hs : st.sz ≤ 3900 := by first | omega | (simp <;> omega)) : Calls Tryz.prog 192 #[.pointer (some ⟨b, 0, none⟩), .int .u32 addr] w fun e w' => e = .returned (.tuple #[]) ∧ ∃ F', BMem w' b F' (mwakeS st addr) ∧ Upd F F' w w' := by
 go_enter Tryz.func192, Tryz.ntmps192; have hU := Upd.refl F w; go_wp2_with fail; refine (Zx hU (setC hB)).mono ?_; rintro e w' ⟨rfl, F', hB, hU⟩; go_wp2_with fail; refine (Zx hU (askC hB)).mono ?_; rintro e w' ⟨rfl, F', hB, hU⟩; go_wp2; go_end0; exact ⟨rfl, _, hB, hU⟩
def changeS (st : BS) (op base : Int) : BS := ((((((st.set 5 1).alu op 5 4 5).emit ⟨2, 6, 4, 0, 0⟩).cas 4 5 base).alu 12 6 4 6).go 14 6 s_again)
@[simp] theorem sz_changeS (st : BS) (op base : Int) : (changeS st op base).sz = st.sz + 7 := by
 unfold changeS; simp
theorem changeC {b : Nat} {F : Nat → Prop} {st : BS} {op base : Int} {w : World} (hB : BMem w b F st) (hs : st.sz ≤ 3800 := by first | omega | (simp <;> omega)) : Calls Tryz.prog 191 #[.pointer (some ⟨b, 0, none⟩), .int .i64 op, .int .u32 base] w fun e w' => e = .returned (.tuple #[]) ∧ ∃ F', BMem w' b F' (changeS st op base) ∧ Upd F F' w w' := by
 go_enter Tryz.func191, Tryz.ntmps191; have hU := Upd.refl F w; go_wp2_with fail; refine (Zx hU (setC hB)).mono ?_; rintro e w' ⟨rfl, F', hB, hU⟩; go_wp2_with fail; refine (Zx hU (aluC hB)).mono ?_; rintro e w' ⟨rfl, F', hB, hU⟩; go_wp2_with fail
 refine (Zx hU (emitC ⟨2, 6, 4, 0, 0⟩ _ hB (Nat.le_succ_of_le (by first | omega | (simp <;> omega))))).mono ?_
 rintro e w' ⟨rfl, F', hB, hU⟩; go_wp2_with fail; refine (Zx hU (casC hB)).mono ?_; rintro e w' ⟨rfl, F', hB, hU⟩; go_wp2_with fail; refine (Zx hU (aluC hB)).mono ?_; rintro e w' ⟨rfl, F', hB, hU⟩; go_wp2_with fail; refine (Zx hU (goC hB)).mono ?_; rintro e w' ⟨rfl, F', hB, hU⟩; go_wp2; go_end0; exact ⟨rfl, _, hB, hU⟩
def downS (st : BS) (base : Int) : BS := (closeS (changeS (((((((st.place s_again).ask 16 4 base).go 15 4 s_try).set 4 0).ask 23 4 base).go 13 0 s_again).place s_try) 4 base) )
@[simp] theorem sz_downS (st : BS) (base : Int) : (downS st base).sz = st.sz + 18 := by
 unfold downS; simp
theorem downC {b : Nat} {F : Nat → Prop} {st : BS} {base : Int} {w : World} (hB : BMem w b F st) (hs : st.sz ≤ 3600 := by first | omega | (simp <;> omega)) : Calls Tryz.prog 140 #[.pointer (some ⟨b, 0, none⟩), .int .u32 base] w fun e w' => e = .returned (.tuple #[]) ∧ ∃ F', BMem w' b F' (downS st base) ∧ Upd F F' w w' := by
 go_enter Tryz.func140, Tryz.ntmps140; have hU := Upd.refl F w; go_wp2_with fail
 refine (Zx hU (placeC hB nm_again (by decide) (by first | omega | (simp <;> omega)))).mono ?_
 rintro e w' ⟨rfl, F', hB, hU⟩; go_wp2_with fail; refine (Zx hU (askC hB)).mono ?_; rintro e w' ⟨rfl, F', hB, hU⟩; go_wp2_with fail; refine (Zx hU (goC hB)).mono ?_; rintro e w' ⟨rfl, F', hB, hU⟩; go_wp2_with fail; refine (Zx hU (setC hB)).mono ?_; rintro e w' ⟨rfl, F', hB, hU⟩; go_wp2_with fail; refine (Zx hU (askC hB)).mono ?_; rintro e w' ⟨rfl, F', hB, hU⟩; go_wp2_with fail; refine (Zx hU (goC hB)).mono ?_; rintro e w' ⟨rfl, F', hB, hU⟩; go_wp2_with fail
 refine (Zx hU (placeC hB nm_try (by decide) (by first | omega | (simp <;> omega)))).mono ?_
 rintro e w' ⟨rfl, F', hB, hU⟩; go_wp2_with fail; refine (Zx hU (changeC hB)).mono ?_; rintro e w' ⟨rfl, F', hB, hU⟩; go_wp2_with fail; refine (Zx hU (closeC hB)).mono ?_; rintro e w' ⟨rfl, F', hB, hU⟩; go_wp2; go_end0; exact ⟨rfl, _, hB, hU⟩
def upS (st : BS) (base most : Int) : BS := ((((((mwakeS (changeS (((((st.place s_again).ask 16 4 base).set 5 most).alu 12 6 4 5).go 15 6 s_over) 3 base) base).set 7 0).go 13 0 s_end).place s_over).set 7 3).place s_end)
@[simp] theorem sz_upS (st : BS) (base most : Int) : (upS st base most).sz = st.sz + 21 := by
 unfold upS; simp
theorem upC {b : Nat} {F : Nat → Prop} {st : BS} {base most : Int} {w : World} (hB : BMem w b F st) (hs : st.sz ≤ 3600 := by first | omega | (simp <;> omega)) : Calls Tryz.prog 141 #[.pointer (some ⟨b, 0, none⟩), .int .u32 base, .int .u32 most] w fun e w' => e = .returned (.tuple #[]) ∧ ∃ F', BMem w' b F' (upS st base most) ∧ Upd F F' w w' := by
 go_enter Tryz.func141, Tryz.ntmps141; have hU := Upd.refl F w; go_wp2_with fail
 refine (Zx hU (placeC hB nm_again (by decide) (by first | omega | (simp <;> omega)))).mono ?_
 rintro e w' ⟨rfl, F', hB, hU⟩; go_wp2_with fail; refine (Zx hU (askC hB)).mono ?_; rintro e w' ⟨rfl, F', hB, hU⟩; go_wp2_with fail; refine (Zx hU (setC hB)).mono ?_; rintro e w' ⟨rfl, F', hB, hU⟩; go_wp2_with fail; refine (Zx hU (aluC hB)).mono ?_; rintro e w' ⟨rfl, F', hB, hU⟩; go_wp2_with fail; refine (Zx hU (goC hB)).mono ?_; rintro e w' ⟨rfl, F', hB, hU⟩; go_wp2_with fail; refine (Zx hU (changeC hB)).mono ?_; rintro e w' ⟨rfl, F', hB, hU⟩; go_wp2_with fail; refine (Zx hU (mwakeC hB)).mono ?_; rintro e w' ⟨rfl, F', hB, hU⟩; go_wp2_with fail; refine (Zx hU (setC hB)).mono ?_; rintro e w' ⟨rfl, F', hB, hU⟩; go_wp2_with fail; refine (Zx hU (goC hB)).mono ?_; rintro e w' ⟨rfl, F', hB, hU⟩; go_wp2_with fail
 refine (Zx hU (placeC hB nm_over (by decide) (by first | omega | (simp <;> omega)))).mono ?_
 rintro e w' ⟨rfl, F', hB, hU⟩; go_wp2_with fail; refine (Zx hU (setC hB)).mono ?_; rintro e w' ⟨rfl, F', hB, hU⟩; go_wp2_with fail
 refine (Zx hU (placeC hB nm_end (by decide) (by first | omega | (simp <;> omega)))).mono ?_
 rintro e w' ⟨rfl, F', hB, hU⟩; go_wp2; go_end0; exact ⟨rfl, _, hB, hU⟩
def minS (st : BS) (base : Int) : BS := (((((((((((((st.set 4 0).set 6 1).cas 4 6 (base % 4294967296)).go 14 4 s_got).place s_again).set 4 2).ask 19 4 (base % 4294967296)).go 14 4 s_got).set 4 2).ask 23 4 (base % 4294967296)).go 13 0 s_again).place s_got).ask 17 5 ((base + 1) % 4294967296))
@[simp] theorem sz_minS (st : BS) (base : Int) : (minS st base).sz = st.sz + 16 := by
 unfold minS; simp
theorem minC {b : Nat} {F : Nat → Prop} {st : BS} {base : Int} {w : World} (hB : BMem w b F st) (hs : st.sz ≤ 3600 := by first | omega | (simp <;> omega)) : Calls Tryz.prog 142 #[.pointer (some ⟨b, 0, none⟩), .int .u32 base] w fun e w' => e = .returned (.tuple #[]) ∧ ∃ F', BMem w' b F' (minS st base) ∧ Upd F F' w w' := by
 go_enter Tryz.func142, Tryz.ntmps142; have hU := Upd.refl F w; go_wp2_with fail; refine (Zx hU (setC hB)).mono ?_; rintro e w' ⟨rfl, F', hB, hU⟩; go_wp2_with fail; refine (Zx hU (setC hB)).mono ?_; rintro e w' ⟨rfl, F', hB, hU⟩; go_wp2_with fail; refine (Zx hU (casC hB)).mono ?_; rintro e w' ⟨rfl, F', hB, hU⟩; go_wp2_with fail; refine (Zx hU (goC hB)).mono ?_; rintro e w' ⟨rfl, F', hB, hU⟩; go_wp2_with fail
 refine (Zx hU (placeC hB nm_again (by decide) (by first | omega | (simp <;> omega)))).mono ?_
 rintro e w' ⟨rfl, F', hB, hU⟩; go_wp2_with fail; refine (Zx hU (setC hB)).mono ?_; rintro e w' ⟨rfl, F', hB, hU⟩; go_wp2_with fail; refine (Zx hU (askC hB)).mono ?_; rintro e w' ⟨rfl, F', hB, hU⟩; go_wp2_with fail; refine (Zx hU (goC hB)).mono ?_; rintro e w' ⟨rfl, F', hB, hU⟩; go_wp2_with fail; refine (Zx hU (setC hB)).mono ?_; rintro e w' ⟨rfl, F', hB, hU⟩; go_wp2_with fail; refine (Zx hU (askC hB)).mono ?_; rintro e w' ⟨rfl, F', hB, hU⟩; go_wp2_with fail; refine (Zx hU (goC hB)).mono ?_; rintro e w' ⟨rfl, F', hB, hU⟩; go_wp2_with fail
 refine (Zx hU (placeC hB nm_got (by decide) (by first | omega | (simp <;> omega)))).mono ?_
 rintro e w' ⟨rfl, F', hB, hU⟩; go_wp2_with fail; refine (Zx hU (askC hB)).mono ?_; rintro e w' ⟨rfl, F', hB, hU⟩; go_wp2; go_end0; exact ⟨rfl, _, hB, hU⟩
def moutS (st : BS) (base : Int) : BS := ((mwakeS ((((((zeroS st ((base + 1) % 4294967296)).set 4 0).ask 19 4 (base % 4294967296)).set 6 2).alu 12 6 4 6).go 14 6 s_done) (base % 4294967296)).place s_done)
@[simp] theorem sz_moutS (st : BS) (base : Int) : (moutS st base).sz = st.sz + 11 := by
 unfold moutS; simp
theorem moutC {b : Nat} {F : Nat → Prop} {st : BS} {base : Int} {w : World} (hB : BMem w b F st) (hs : st.sz ≤ 3600 := by first | omega | (simp <;> omega)) : Calls Tryz.prog 143 #[.pointer (some ⟨b, 0, none⟩), .int .u32 base] w fun e w' => e = .returned (.tuple #[]) ∧ ∃ F', BMem w' b F' (moutS st base) ∧ Upd F F' w w' := by
 go_enter Tryz.func143, Tryz.ntmps143; have hU := Upd.refl F w; go_wp2_with fail; refine (Zx hU (zeroC hB)).mono ?_; rintro e w' ⟨rfl, F', hB, hU⟩; go_wp2_with fail; refine (Zx hU (setC hB)).mono ?_; rintro e w' ⟨rfl, F', hB, hU⟩; go_wp2_with fail; refine (Zx hU (askC hB)).mono ?_; rintro e w' ⟨rfl, F', hB, hU⟩; go_wp2_with fail; refine (Zx hU (setC hB)).mono ?_; rintro e w' ⟨rfl, F', hB, hU⟩; go_wp2_with fail; refine (Zx hU (aluC hB)).mono ?_; rintro e w' ⟨rfl, F', hB, hU⟩; go_wp2_with fail; refine (Zx hU (goC hB)).mono ?_; rintro e w' ⟨rfl, F', hB, hU⟩; go_wp2_with fail; refine (Zx hU (mwakeC hB)).mono ?_; rintro e w' ⟨rfl, F', hB, hU⟩; go_wp2_with fail
 refine (Zx hU (placeC hB nm_done (by decide) (by first | omega | (simp <;> omega)))).mono ?_
 rintro e w' ⟨rfl, F', hB, hU⟩; go_wp2; go_end0; exact ⟨rfl, _, hB, hU⟩
def gmoreS (st : BS) (addr : Int) : BS := ((st.set 4 1).ask 20 4 addr)
@[simp] theorem sz_gmoreS (st : BS) (addr : Int) : (gmoreS st addr).sz = st.sz + 2 := by
 unfold gmoreS; simp
theorem gmoreC {b : Nat} {F : Nat → Prop} {st : BS} {addr : Int} {w : World} (hB : BMem w b F st) (hs : st.sz ≤ 3900 := by first | omega | (simp <;> omega)) : Calls Tryz.prog 193 #[.pointer (some ⟨b, 0, none⟩), .int .u32 addr] w fun e w' => e = .returned (.tuple #[]) ∧ ∃ F', BMem w' b F' (gmoreS st addr) ∧ Upd F F' w w' := by
 go_enter Tryz.func193, Tryz.ntmps193; have hU := Upd.refl F w; go_wp2_with fail; refine (Zx hU (setC hB)).mono ?_; rintro e w' ⟨rfl, F', hB, hU⟩; go_wp2_with fail; refine (Zx hU (askC hB)).mono ?_; rintro e w' ⟨rfl, F', hB, hU⟩; go_wp2; go_end0; exact ⟨rfl, _, hB, hU⟩
def gwakeS (st : BS) (n addr : Int) : BS := ((st.set 4 n).ask 24 4 addr)
@[simp] theorem sz_gwakeS (st : BS) (n addr : Int) : (gwakeS st n addr).sz = st.sz + 2 := by
 unfold gwakeS; simp
theorem gwakeC {b : Nat} {F : Nat → Prop} {st : BS} {n addr : Int} {w : World} (hB : BMem w b F st) (hs : st.sz ≤ 3900 := by first | omega | (simp <;> omega)) : Calls Tryz.prog 194 #[.pointer (some ⟨b, 0, none⟩), .int .u32 n, .int .u32 addr] w fun e w' => e = .returned (.tuple #[]) ∧ ∃ F', BMem w' b F' (gwakeS st n addr) ∧ Upd F F' w w' := by
 go_enter Tryz.func194, Tryz.ntmps194; have hU := Upd.refl F w; go_wp2_with fail; refine (Zx hU (setC hB)).mono ?_; rintro e w' ⟨rfl, F', hB, hU⟩; go_wp2_with fail; refine (Zx hU (askC hB)).mono ?_; rintro e w' ⟨rfl, F', hB, hU⟩; go_wp2; go_end0; exact ⟨rfl, _, hB, hU⟩
end Go.Proofs.YtbcgngfbbbfebaaGreatDoor
namespace Go.Proofs.YtbcgngfbbbfebaaGreatDoor
open Go.RowKit Go.Maps
set_option maxRecDepth 100000
set_option maxHeartbeats 32000000
set_option linter.unusedVariables false
set_option linter.unusedSimpArgs false
theorem tailV {base n t : Int} (w : World) : Calls Tryz.prog 180 #[.agg #[.int .u32 base, .int .i64 n, .int .i64 t]] w fun e w' => e = .returned (.int .u32 base) ∧ Below w.heap.size w w' := by
 go_enter Tryz.func180, Tryz.ntmps180; go_upto_region 1 with (fail); obtain ⟨W, kB, e0, e1, XB, hal⟩ := box1 w #[.int .u32 base, .int .i64 n, .int .i64 t] 211; rw [e0, e1]; clear e0 e1; obtain ⟨y0, y1, y2⟩ := cl3 XB; go_wp2; go_ret
 exact ⟨by
   show Ending.returned (Value.int IntKind.u32 _) = Ending.returned (Value.int IntKind.u32 _)
   first | rfl | (congr 2; first | omega | (simp only [IntKind.wrap_u32]; omega)), hal⟩
theorem qownerV {base n t : Int} (w : World) : Calls Tryz.prog 182 #[.agg #[.int .u32 base, .int .i64 n, .int .i64 t]] w fun e w' => e = .returned (.int .u32 ((base + 1) % 4294967296)) ∧ Below w.heap.size w w' := by
 go_enter Tryz.func182, Tryz.ntmps182; go_upto_region 1 with (fail); obtain ⟨W, kB, e0, e1, XB, hal⟩ := box1 w #[.int .u32 base, .int .i64 n, .int .i64 t] 211; rw [e0, e1]; clear e0 e1; obtain ⟨y0, y1, y2⟩ := cl3 XB; go_wp2; go_ret
 exact ⟨by
   show Ending.returned (Value.int IntKind.u32 _) = Ending.returned (Value.int IntKind.u32 _)
   first | rfl | (congr 2; first | omega | (simp only [IntKind.wrap_u32]; omega)), hal⟩
theorem nextV {base n t : Int} (w : World) : Calls Tryz.prog 178 #[.agg #[.int .u32 base, .int .i64 n, .int .i64 t]] w fun e w' => e = .returned (.int .u32 ((base + 2) % 4294967296)) ∧ Below w.heap.size w w' := by
 go_enter Tryz.func178, Tryz.ntmps178; go_upto_region 1 with (fail); obtain ⟨W, kB, e0, e1, XB, hal⟩ := box1 w #[.int .u32 base, .int .i64 n, .int .i64 t] 211; rw [e0, e1]; clear e0 e1; obtain ⟨y0, y1, y2⟩ := cl3 XB; go_wp2; go_ret
 exact ⟨by
   show Ending.returned (Value.int IntKind.u32 _) = Ending.returned (Value.int IntKind.u32 _)
   first | rfl | (congr 2; first | omega | (simp only [IntKind.wrap_u32]; omega)), hal⟩
theorem flagV {base n t : Int} (w : World) : Calls Tryz.prog 185 #[.agg #[.int .u32 base, .int .i64 n, .int .i64 t]] w fun e w' => e = .returned (.int .u32 ((base + 2) % 4294967296)) ∧ Below w.heap.size w w' := by
 go_enter Tryz.func185, Tryz.ntmps185; go_upto_region 1 with (fail); obtain ⟨W, kB, e0, e1, XB, hal⟩ := box1 w #[.int .u32 base, .int .i64 n, .int .i64 t] 211; rw [e0, e1]; clear e0 e1; obtain ⟨y0, y1, y2⟩ := cl3 XB; go_wp2; go_ret
 exact ⟨by
   show Ending.returned (Value.int IntKind.u32 _) = Ending.returned (Value.int IntKind.u32 _)
   first | rfl | (congr 2; first | omega | (simp only [IntKind.wrap_u32]; omega)), hal⟩
theorem atV {base n t first : Int} (w : World) : Calls Tryz.prog 177 #[.agg #[.int .u32 base, .int .i64 n, .int .i64 t], .int .u32 first] w fun e w' => e = .returned (.int .u32 ((first + t) % 4294967296)) ∧ Below w.heap.size w w' := by
 go_enter Tryz.func177, Tryz.ntmps177; go_upto_region 1 with (fail); obtain ⟨W, kB, e0, e1, XB, hal⟩ := box1 w #[.int .u32 base, .int .i64 n, .int .i64 t] 211; rw [e0, e1]; clear e0 e1; obtain ⟨y0, y1, y2⟩ := cl3 XB; go_wp2; go_ret
 exact ⟨by
   show Ending.returned (Value.int IntKind.u32 _) = Ending.returned (Value.int IntKind.u32 _)
   first | rfl | (congr 2; first | omega | (simp only [IntKind.wrap_u32]; omega)), hal⟩
theorem waitV {base n t : Int} (w : World) : Calls Tryz.prog 179 #[.agg #[.int .u32 base, .int .i64 n, .int .i64 t]] w fun e w' => e = .returned (.int .u32 ((base + 2 + n) % 4294967296)) ∧ Below w.heap.size w w' := by
 go_enter Tryz.func179, Tryz.ntmps179; go_upto_region 1 with (fail); obtain ⟨W, kB, e0, e1, XB, hal⟩ := box1 w #[.int .u32 base, .int .i64 n, .int .i64 t] 211; rw [e0, e1]; clear e0 e1; refine ZA W ?_; refine Zl 211 #[.int .u32 base, .int .i64 n, .int .i64 t] (fun w' h' => keep XB h') Tryz.underlying211 ?_; refine Zn 178 #[.agg #[.int .u32 base, .int .i64 n, .int .i64 t]] (.int .u32 ((base + 2) % 4294967296)) (fun w' h' => (nextV w').mono fun e w'' h => ⟨h.1, h'.trans (h.2.mono h'.size)⟩) ?_; refine Zz ?_; refine Zy _ (fun w' h' => by have c := cell_of_row w' kB 1 _ 211 _ (keep XB h'); go_simp; try with_reducible rfl) ?_
 iterate 3 refine Zz ?_
 refine qd_nil ?_; intro w1 h1; go_wp2; go_ret
 exact ⟨by
   show Ending.returned (Value.int IntKind.u32 _) = Ending.returned (Value.int IntKind.u32 _)
   first | rfl | (congr 2; first | omega | (simp only [IntKind.wrap_u32]; omega)), hal.trans (h1.mono hal.size)⟩
theorem qmineV {base n t : Int} (w : World) : Calls Tryz.prog 184 #[.agg #[.int .u32 base, .int .i64 n, .int .i64 t]] w fun e w' => e = .returned (.int .u32 ((base + 2 + n + 1 + t) % 4294967296)) ∧ Below w.heap.size w w' := by
 go_enter Tryz.func184, Tryz.ntmps184; go_upto_region 1 with (fail); obtain ⟨W, kB, e0, e1, XB, hal⟩ := box1 w #[.int .u32 base, .int .i64 n, .int .i64 t] 211; rw [e0, e1]; clear e0 e1; refine ZA W ?_; refine Zl 211 #[.int .u32 base, .int .i64 n, .int .i64 t] (fun w' h' => keep XB h') Tryz.underlying211 ?_; refine Zn 185 #[.agg #[.int .u32 base, .int .i64 n, .int .i64 t]] (.int .u32 ((base + 2) % 4294967296)) (fun w' h' => (flagV w').mono fun e w'' h => ⟨h.1, h'.trans (h.2.mono h'.size)⟩) ?_; refine Zz ?_; refine Zy _ (fun w' h' => by have c := cell_of_row w' kB 1 _ 211 _ (keep XB h'); go_simp; try with_reducible rfl) ?_
 iterate 4 refine Zz ?_
 refine Zy _ (fun w' h' => by have c := cell_of_row w' kB 2 _ 211 _ (keep XB h'); go_simp; try with_reducible rfl) ?_
 iterate 3 refine Zz ?_
 refine qd_nil ?_; intro w1 h1; go_wp2; go_ret
 exact ⟨by
   show Ending.returned (Value.int IntKind.u32 _) = Ending.returned (Value.int IntKind.u32 _)
   first | rfl | (congr 2; first | omega | (simp only [IntKind.wrap_u32]; omega)), hal.trans (h1.mono hal.size)⟩
theorem predV {base n t : Int} (w : World) : Calls Tryz.prog 186 #[.agg #[.int .u32 base, .int .i64 n, .int .i64 t]] w fun e w' => e = .returned (.int .u32 ((base + 2 + n + 1 + t + n) % 4294967296)) ∧ Below w.heap.size w w' := by
 go_enter Tryz.func186, Tryz.ntmps186; go_upto_region 1 with (fail); obtain ⟨W, kB, e0, e1, XB, hal⟩ := box1 w #[.int .u32 base, .int .i64 n, .int .i64 t] 211; rw [e0, e1]; clear e0 e1; refine ZA W ?_; refine Zl 211 #[.int .u32 base, .int .i64 n, .int .i64 t] (fun w' h' => keep XB h') Tryz.underlying211 ?_; refine Zn 184 #[.agg #[.int .u32 base, .int .i64 n, .int .i64 t]] (.int .u32 ((base + 2 + n + 1 + t) % 4294967296)) (fun w' h' => (qmineV w').mono fun e w'' h => ⟨h.1, h'.trans (h.2.mono h'.size)⟩) ?_; refine Zz ?_; refine Zy _ (fun w' h' => by have c := cell_of_row w' kB 1 _ 211 _ (keep XB h'); go_simp; try with_reducible rfl) ?_
 iterate 3 refine Zz ?_
 refine qd_nil ?_; intro w1 h1; go_wp2; go_ret
 exact ⟨by
   show Ending.returned (Value.int IntKind.u32 _) = Ending.returned (Value.int IntKind.u32 _)
   first | rfl | (congr 2; first | omega | (simp only [IntKind.wrap_u32]; omega)), hal.trans (h1.mono hal.size)⟩
end Go.Proofs.YtbcgngfbbbfebaaGreatDoor
