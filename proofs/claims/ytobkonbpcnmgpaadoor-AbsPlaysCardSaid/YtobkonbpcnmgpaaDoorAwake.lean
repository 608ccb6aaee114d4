/- The anchor; a machine of one object. -/
import Derived.Test.YtobkonbpcnmgpaaDoorNew
namespace Go.Proofs.YtobkonbpcnmgpaaDoor
open Go.RowKit
set_option linter.unusedVariables false
set_option linter.unusedSimpArgs false
theorem Mac.below {w w' : World} {bM g n cap : Nat} {t : Int} {S : Nat → St} (h : Mac w bM g n cap t S) (hb : Below w.heap.size w w') : Mac w' bM g n cap t S := ⟨keep h.mac hb, h.row.below hb, h.ne, h.g0, h.names.below hb⟩
theorem Mac.exc {w w' : World} {bM g n cap : Nat} {t : Int} {S S' : Nat → St} (h : Mac w bM g n cap t S) (E : Exc g w w') (R : Row w' g n S') : Mac w' bM g n cap t S' := ⟨(E.blk bM (blk_lt h.mac) h.ne).trans h.mac, R, h.ne, h.g0, nm_exc h.names E h.g0⟩
theorem mk_mac {w0 w : World} {bM n : Nat} {t : Int} {v : Value} {f : Nat → O} (hn : 0 < n) (h1 : w.heap[bM]? = some (.cells #[.int .i64 t, v] 58 (0, 0))) (h2 : OwnS w (bM + 1) v f n) (hNm : NmW w) : ∃ g cap, Mac w bM g n cap t (fun i => initS (f i)) ∧ bM < g := by
  obtain ⟨g, cap, rfl, hg, hR⟩ := own_row h2 hn
  exact ⟨g, cap, ⟨h1, hR, by omega, by omega, hNm⟩, by omega⟩
theorem objs1 (w : World) (o : O) : Objs (w.alloc (.cells #[.int .i64 o.k, .int .i64 o.n, .int .i64 o.a, .int .i64 o.b] 48)) (some ⟨w.heap.size, 0, none⟩) 1 (fun _ => o) := fun _ => by
  have h := heap_alloc_new w (.cells #[.int .i64 o.k, .int .i64 o.n, .int .i64 o.a, .int .i64 o.b] 48)
  refine ⟨_, _, rfl, blk_lt h, fun i hi => ?_⟩
  obtain rfl : i = 0 := by omega
  simp only [cell_of_row _ _ _ _ _ _ h]
  exact ⟨rfl, rfl, rfl, rfl⟩
/-- a machine of one object that may be -/
theorem new1 (o : O) (t : Int) (ho : rb o t = true) (ht : 1 ≤ t ∧ t ≤ 8) (Ad : Option Addr) (c : Nat) (w : World) (hA : Objs w Ad 1 (fun _ => o)) (hNm : NmW w) :
    Calls Tryd.prog 12 #[.slice Ad 1 c, .int .i64 t] w fun e w' => ∃ bM g cap, e = .returned (.tuple #[.pointer (some ⟨bM, 0, none⟩), .int .i64 0]) ∧ Mac w' bM g 1 cap t (fun _ => initS o) ∧ bM < g ∧ w.heap.size ≤ bM ∧ Below w.heap.size w w' :=
  (newC Ad 1 c (fun _ => o) (by omega) t w hA hNm).mono fun e w' ⟨hb, h, _⟩ => by
    obtain ⟨bM, v, he, h1, h2, h3⟩ := h ⟨ht.1, ht.2, fun _ _ => ho⟩
    obtain ⟨g, cap, hM, hg⟩ := mk_mac (w0 := w) (by omega) h1 h2 (hNm.below hb)
    exact ⟨bM, g, cap, he, hM, hg, h3, hb⟩
theorem updS1 (S : Nat → St) (s : St) : ∀ i, i < 1 → updS S 0 s i = (fun _ => s) i := fun i hi => by
  obtain rfl : i = 0 := by omega
  rfl
/-- a call of a machine of one object -/
theorem do1 (s : St) (bM g cap : Nat) (t : Int) (ht : t ≤ 8) (x : Ak) (hxo : x.obj = 0) (hxa : 0 ≤ x.arg ∧ x.arg < 4294967296) (h9 : s.o.k ≠ 9) (w : World) (hM : Mac w bM g 1 cap t (fun _ => s)) :
    Calls Tryd.prog 14 #[.pointer (some ⟨bM, 0, none⟩), akV x] w fun e w' => e = .returned (ansV (goP t s x).r none 0 0 (goP t s x).ok) ∧ Mac w' bM g 1 cap t (fun _ => (goP t s x).s) ∧ Exc g w w' :=
  (doC (fun _ => s) bM g 1 cap 0 t ht (by omega) x hxo hxa h9 w hM).mono fun e w' ⟨he, hR, hE⟩ =>
    ⟨he, hM.exc hE (hR.congr fun i hi k hk => by rw [updS1 _ _ i hi]), hE⟩
def o0 : O := ⟨1, 0, 0, 0⟩
set_option maxRecDepth 100000 in
set_option maxHeartbeats 4000000 in
theorem awake (w : World) (hN : NmW w) : Calls Tryd.prog 10 #[] w fun e w' => e = .returned (.bool true) ∧ Below w.heap.size w w' := by
  have hb0 := (Below.refl w.heap.size w).alloc (Nat.le_refl _) (.cells #[.int .i64 1, .int .i64 0, .int .i64 0, .int .i64 0] 48)
  have hnew := new1 o0 2 (by rfl) (by omega) (some ⟨w.heap.size, 0, none⟩) 1 _ (objs1 w o0) (hN.below hb0)
  have hd := fun s bM g cap x hxo hxa h9 w hM => do1 s bM g cap 2 (by omega) x hxo hxa h9 w hM
  go_enter Tryd.func10, Tryd.ntmps10
  go_wp2_with fail
  refine hnew.mono ?_
  rintro e w1 ⟨bM, g, cap, rfl, hM, hgM, hzM, hb1⟩
  have hal := hb0.trans (hb1.mono (by simp))
  have hz : w.heap.size ≤ g := by have := hb1.size; simp at hzM; omega
  clear hb0 hb1 hnew
  go_wp2_with fail
  refine (hd (initS o0) bM g cap ⟨0, 0, 1, 0, 0, 0⟩ rfl (by simp) (by simp [initS, o0]) w1 hM).mono ?_
  rintro e w2 ⟨rfl, hM2, hE2⟩
  obtain ⟨s2, hs2, e2⟩ : ∃ s, (goP 2 (initS o0) ⟨0, 0, 1, 0, 0, 0⟩) = ⟨s, 0, true⟩ ∧ s = { initS o0 with owner := 0 } := ⟨_, rfl, rfl⟩
  rw [hs2] at hM2 ⊢
  simp only at hM2
  have hal2 := hal.trans (hE2.low _ hz hal.size)
  unfold ansV
  go_upto_region 5 with (fail)
  obtain ⟨W2, b3, f0, f1, X3, hb3⟩ := box1 w2 #[.int .u32 0, .slice none 0 0] 38
  rw [f0, f1]
  clear f0 f1
  have hM3 := hM2.below hb3
  have hal3 := hal2.trans (hb3.mono hal2.size)
  have hn3 : b3 ≠ g := by have := hM2.row.lt; have := X3; intro h; subst h; obtain ⟨cs, h5, _⟩ := hM3.row; rw [h5] at X3; simp at X3
  go_wp2_with fail
  refine (hd s2 bM g cap ⟨0, 0, 1, 0, 0, 0⟩ rfl (by simp) (by rw [e2]; simp [initS, o0]) W2 hM3).mono ?_
  rintro e w4 ⟨rfl, hM4, hE4⟩
  rw [show goP 2 s2 ⟨0, 0, 1, 0, 0, 0⟩ = ⟨s2, 1, true⟩ from by rw [e2]; rfl] at hM4 ⊢
  simp only at hM4
  have hal4 := hal3.trans (hE4.low _ hz hal3.size)
  replace X3 := (hE4.blk b3 (blk_lt X3) hn3).trans X3
  unfold ansV
  go_upto_region 6 with (fail)
  obtain ⟨W4, b5, f0, f1, X5, hb5⟩ := box1 w4 #[.int .u32 1, .slice none 0 0] 38
  rw [f0, f1]
  clear f0 f1
  have hM5 := hM4.below hb5
  have hal5 := hal4.trans (hb5.mono hal4.size)
  replace X3 := keep X3 hb5
  have hn5 : b5 ≠ g := by intro h; subst h; obtain ⟨cs, h5, _⟩ := hM5.row; rw [h5] at X5; simp at X5
  go_wp2_with fail
  refine (hd s2 bM g cap ⟨1, 0, 1, 0, 0, 0⟩ rfl (by simp) (by rw [e2]; simp [initS, o0]) W4 hM5).mono ?_
  rintro e w6 ⟨rfl, hM6, hE6⟩
  rw [show goP 2 s2 ⟨1, 0, 1, 0, 0, 0⟩ = ⟨s2, 0, false⟩ from by rw [e2]; rfl] at hM6 ⊢
  have hal6 := hal5.trans (hE6.low _ hz hal5.size)
  replace X3 := (hE6.blk b3 (blk_lt X3) hn3).trans X3
  replace X5 := (hE6.blk b5 (blk_lt X5) hn5).trans X5
  unfold ansV
  go_upto_region 7 with (fail)
  obtain ⟨W6, b7, f0, f1, X7, hb7⟩ := box1 w6 #[.int .u32 0, .slice none 0 0] 38
  rw [f0, f1]
  clear f0 f1
  replace X3 := keep X3 hb7
  replace X5 := keep X5 hb7
  have y3 := cell_of_row W6 b3 0 _ 38 _ X3
  have y5 := cell_of_row W6 b5 0 _ 38 _ X5
  clear hd hM hM2 hM3 hM4 hM5 hM6 hs2 e2
  go_wp2
  go_ret
  exact ⟨rfl, hal6.trans (hb7.mono hal6.size)⟩
end Go.Proofs.YtobkonbpcnmgpaaDoor
