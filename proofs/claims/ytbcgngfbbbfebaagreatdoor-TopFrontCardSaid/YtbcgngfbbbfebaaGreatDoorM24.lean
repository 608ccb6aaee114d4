/- The linker does an op. The program of a client, as a function of it: plain. -/
import Derived.Test.YtbcgngfbbbfebaaGreatDoorM23
namespace Go.Proofs.YtbcgngfbbbfebaaGreatDoor
open Go.RowKit Go.Maps
set_option maxRecDepth 100000
set_option maxHeartbeats 32000000
set_option linter.unusedVariables false
set_option linter.unusedSimpArgs false
def opF (C : Cl) (t site : Int) (code : List Ins) (x : X) : List Ins × Int :=
 if x.k = 1 then (code ++ [⟨1, x.a, 0, 0, x.K⟩], site) else if x.k = 2 then (code ++ [⟨3, x.a, x.a, x.b, 0⟩], site) else if x.k = 3 then (code ++ [⟨16, x.a, 8, 0, x.b % 4294967296⟩], site) else if x.k = 4 then (code ++ [⟨17, x.a, 8, 0, x.b % 4294967296⟩], site) else if x.k = 5 then (code ++ [⟨22, x.a, 0, 0, 0⟩], site) else if x.k = 6 then (code ++ [⟨22, 7, 0, 0, 0⟩], site) else if x.k = 7 then (callF C t site code x, site + 1) else (code, site)
theorem opF_1 {C : Cl} {t site : Int} {code : List Ins} {x : X} (h : x.k = 1) : opF C t site code x = (code ++ [⟨1, x.a, 0, 0, x.K⟩], site) := by unfold opF; rw [if_pos h]
theorem opF_2 {C : Cl} {t site : Int} {code : List Ins} {x : X} (h : x.k = 2) : opF C t site code x = (code ++ [⟨3, x.a, x.a, x.b, 0⟩], site) := by unfold opF; rw [if_neg (show ¬ x.k = 1 by omega), if_pos h]
theorem opF_3 {C : Cl} {t site : Int} {code : List Ins} {x : X} (h : x.k = 3) : opF C t site code x = (code ++ [⟨16, x.a, 8, 0, x.b % 4294967296⟩], site) := by unfold opF; rw [if_neg (show ¬ x.k = 1 by omega), if_neg (show ¬ x.k = 2 by omega), if_pos h]
theorem opF_4 {C : Cl} {t site : Int} {code : List Ins} {x : X} (h : x.k = 4) : opF C t site code x = (code ++ [⟨17, x.a, 8, 0, x.b % 4294967296⟩], site) := by unfold opF; rw [if_neg (show ¬ x.k = 1 by omega), if_neg (show ¬ x.k = 2 by omega), if_neg (show ¬ x.k = 3 by omega), if_pos h]
theorem opF_5 {C : Cl} {t site : Int} {code : List Ins} {x : X} (h : x.k = 5) : opF C t site code x = (code ++ [⟨22, x.a, 0, 0, 0⟩], site) := by unfold opF; rw [if_neg (show ¬ x.k = 1 by omega), if_neg (show ¬ x.k = 2 by omega), if_neg (show ¬ x.k = 3 by omega), if_neg (show ¬ x.k = 4 by omega), if_pos h]
theorem opF_6 {C : Cl} {t site : Int} {code : List Ins} {x : X} (h : x.k = 6) : opF C t site code x = (code ++ [⟨22, 7, 0, 0, 0⟩], site) := by unfold opF; rw [if_neg (show ¬ x.k = 1 by omega), if_neg (show ¬ x.k = 2 by omega), if_neg (show ¬ x.k = 3 by omega), if_neg (show ¬ x.k = 4 by omega), if_neg (show ¬ x.k = 5 by omega), if_pos h]
theorem opF_7 {C : Cl} {t site : Int} {code : List Ins} {x : X} (h : x.k = 7) : opF C t site code x = (callF C t site code x, site + 1) := by unfold opF; rw [if_neg (show ¬ x.k = 1 by omega), if_neg (show ¬ x.k = 2 by omega), if_neg (show ¬ x.k = 3 by omega), if_neg (show ¬ x.k = 4 by omega), if_neg (show ¬ x.k = 5 by omega), if_neg (show ¬ x.k = 6 by omega), if_pos h]
theorem opF_n {C : Cl} {t site : Int} {code : List Ins} {x : X} (h : x.k ≠ 1 ∧ x.k ≠ 2 ∧ x.k ≠ 3 ∧ x.k ≠ 4 ∧ x.k ≠ 5 ∧ x.k ≠ 6 ∧ x.k ≠ 7) : opF C t site code x = (code, site) := by unfold opF; rw [if_neg (show ¬ x.k = 1 by omega), if_neg (show ¬ x.k = 2 by omega), if_neg (show ¬ x.k = 3 by omega), if_neg (show ¬ x.k = 4 by omega), if_neg (show ¬ x.k = 5 by omega), if_neg (show ¬ x.k = 6 by omega), if_neg (show ¬ x.k = 7 by omega)]
theorem opF_p {C : Cl} {t site : Int} {code : List Ins} {x : X} (h : KOk code) (hK : 0 ≤ x.K ∧ x.K < 4294967296) : KOk (opF C t site code x).1 ∧ (opF C t site code x).1.length ≤ code.length + 102 ∧ site ≤ (opF C t site code x).2 ∧ (opF C t site code x).2 ≤ site + 1 := by
 by_cases h7 : x.k = 7
 ·rw [opF_7 h7]; exact ⟨callF_k h, callF_len C t site code x, by simp only; omega, by simp only; omega⟩
 by_cases h1 : x.k = 1
 ·rw [opF_1 h1]; exact ⟨kok_app h (kok_one (by unfold U32; simp only; omega)), by simp, by simp only; omega, by simp only; omega⟩
 by_cases h2 : x.k = 2
 ·rw [opF_2 h2]; exact ⟨kok_app h (kok_one (by unfold U32; simp only; omega)), by simp, by simp only; omega, by simp only; omega⟩
 by_cases h3 : x.k = 3
 ·rw [opF_3 h3]; exact ⟨kok_app h (kok_one (by unfold U32; simp only; omega)), by simp, by simp only; omega, by simp only; omega⟩
 by_cases h4 : x.k = 4
 ·rw [opF_4 h4]; exact ⟨kok_app h (kok_one (by unfold U32; simp only; omega)), by simp, by simp only; omega, by simp only; omega⟩
 by_cases h5 : x.k = 5
 ·rw [opF_5 h5]; exact ⟨kok_app h (kok_one (by unfold U32; simp only; omega)), by simp, by simp only; omega, by simp only; omega⟩
 by_cases h6 : x.k = 6
 ·rw [opF_6 h6]; exact ⟨kok_app h (kok_one (by unfold U32; simp only; omega)), by simp, by simp only; omega, by simp only; omega⟩
 rw [opF_n ⟨h1, h2, h3, h4, h5, h6, h7⟩]; exact ⟨h, by simp, by simp only; omega, by simp only; omega⟩
theorem linkOp {b : Nat} {F : Nat → Prop} {C : Cl} {t site : Int} {code : List Ins} {x : X} {w0 w : World} (hM : MemC w0 C) (hN : NmW w0) (hI : IsaW w0) (h0 : Below w0.heap.size w0 w) (hF : ∀ k, F k → w0.heap.size ≤ k) (hn : C.no ≤ 4000) (ha : x.k = 7 → 0 ≤ x.a ∧ x.a < C.no) (hK : 0 ≤ x.K ∧ x.K < 4294967296) (hs0 : 0 ≤ site) (hs1 : site ≤ 10000) (hL : LMem w b F C t site code) (hs : code.length ≤ 90000) : Calls Tryz.prog 26 #[.pointer (some ⟨b, 0, none⟩), xv x] w fun e w' => e = .returned (.tuple #[]) ∧ ∃ F', LMem w' b F' C t (opF C t site code x).2 (opF C t site code x).1 ∧ Upd F F' w w' := by
 have hl0 := hL.lt; obtain ⟨xk, xa, xb, xK⟩ := x; simp only at ha hK; obtain ⟨Z, hZ⟩ : ∃ Z, Hid (Z = opF C t site code ⟨xk, xa, xb, xK⟩) := ⟨_, rfl⟩; rw [← hZ.out]; have hcall := fun w' (h : Below w0.heap.size w0 w') (hL' : LMem w' b F C t site code) (hk : xk = 7) => linkCall (x := ⟨xk, xa, xb, xK⟩) hM hN hI h hF hn (ha hk) hK hs0 hs1 hL' hs; unfold xv at hcall ⊢; simp only at hcall ⊢; go_enter Tryz.func26, Tryz.ntmps26; go_upto_region 1 with (fail); obtain ⟨w1, kB, e0, e1, XK, hb1⟩ := box1 w #[.int .i64 xk, .int .i64 xa, .int .i64 xb, .int .u32 xK] 40; rw [e0, e1]; clear e0 e1; replace hL := hL.below hb1; have hU : Upd F F w w1 := Upd.of_below hb1; replace h0 := h0.trans (hb1.mono h0.size); clear hb1 hl0 hM hN hI; obtain ⟨y0, y1, y2, y3⟩ := cl4 XK
 by_cases k1 : xk = 1
 ·subst k1
  obtain rfl := hZ.out.trans (opF_1 rfl); clear hZ ha; clear hcall; have hAd := linkAdd ⟨1, xa, 0, 0, xK⟩ hL (by omega); unfold insV insC at hAd; go_wp2_with fail; refine (hAd).mono ?_; rintro e w' ⟨rfl, F', h1, h2⟩; clear y0 y1 y2 y3; go_wp2; go_end0; exact ⟨rfl, F', h1, hU.trans h2⟩
 have q1 : (xk == 1) = false := by simp [k1]
 by_cases k2 : xk = 2
 ·subst k2
  obtain rfl := hZ.out.trans (opF_2 rfl); clear hZ ha; clear hcall; have hAd := linkAdd ⟨3, xa, xa, xb, 0⟩ hL (by omega); unfold insV insC at hAd; go_wp2_with fail; refine (hAd).mono ?_; rintro e w' ⟨rfl, F', h1, h2⟩; clear y0 y1 y2 y3; go_wp2; go_end0; exact ⟨rfl, F', h1, hU.trans h2⟩
 have q2 : (xk == 2) = false := by simp [k2]
 by_cases k3 : xk = 3
 ·subst k3
  obtain rfl := hZ.out.trans (opF_3 rfl); clear hZ ha; clear hcall; have hAd := linkAdd ⟨16, xa, 8, 0, xb % 4294967296⟩ hL (by omega); unfold insV insC at hAd; go_wp2_with fail; refine (hAd).mono ?_; rintro e w' ⟨rfl, F', h1, h2⟩; clear y0 y1 y2 y3; go_wp2; go_end0; exact ⟨rfl, F', h1, hU.trans h2⟩
 have q3 : (xk == 3) = false := by simp [k3]
 by_cases k4 : xk = 4
 ·subst k4
  obtain rfl := hZ.out.trans (opF_4 rfl); clear hZ ha; clear hcall; have hAd := linkAdd ⟨17, xa, 8, 0, xb % 4294967296⟩ hL (by omega); unfold insV insC at hAd; go_wp2_with fail; refine (hAd).mono ?_; rintro e w' ⟨rfl, F', h1, h2⟩; clear y0 y1 y2 y3; go_wp2; go_end0; exact ⟨rfl, F', h1, hU.trans h2⟩
 have q4 : (xk == 4) = false := by simp [k4]
 by_cases k5 : xk = 5
 ·subst k5
  obtain rfl := hZ.out.trans (opF_5 rfl); clear hZ ha; clear hcall; have hAd := linkAdd ⟨22, xa, 0, 0, 0⟩ hL (by omega); unfold insV insC at hAd; go_wp2_with fail; refine (hAd).mono ?_; rintro e w' ⟨rfl, F', h1, h2⟩; clear y0 y1 y2 y3; go_wp2; go_end0; exact ⟨rfl, F', h1, hU.trans h2⟩
 have q5 : (xk == 5) = false := by simp [k5]
 by_cases k6 : xk = 6
 ·subst k6
  obtain rfl := hZ.out.trans (opF_6 rfl); clear hZ ha; clear hcall; have hAd := linkAdd ⟨22, 7, 0, 0, 0⟩ hL (by omega); unfold insV insC at hAd; go_wp2_with fail; refine (hAd).mono ?_; rintro e w' ⟨rfl, F', h1, h2⟩; clear y0 y1 y2 y3; go_wp2; go_end0; exact ⟨rfl, F', h1, hU.trans h2⟩
 have q6 : (xk == 6) = false := by simp [k6]
 by_cases k7 : xk = 7
 ·subst k7
  obtain rfl := hZ.out.trans (opF_7 rfl); clear hZ ha; go_wp2_with fail
  refine (hcall w1 h0 hL (by first | rfl | trivial)).mono ?_
  rintro e w' ⟨rfl, F', h1, h2⟩; clear y0 y1 y2 y3; go_wp2; go_end0; exact ⟨rfl, F', h1, hU.trans h2⟩
 have q7 : (xk == 7) = false := by simp [k7]
 obtain rfl := hZ.out.trans (opF_n ⟨k1, k2, k3, k4, k5, k6, k7⟩); clear hZ ha hcall k1 k2 k3 k4 k5 k6 k7; go_wp2; go_end0; exact ⟨rfl, F, hL, hU⟩
end Go.Proofs.YtbcgngfbbbfebaaGreatDoor
namespace Go.Proofs.YtbcgngfbbbfebaaGreatDoor
open Go.RowKit Go.Maps
set_option maxRecDepth 100000
set_option maxHeartbeats 32000000
set_option linter.unusedVariables false
set_option linter.unusedSimpArgs false
structure ChkOk (C : Cl) : Prop where
 good : ¬ badC C
 no : C.no ≤ 8
 objs : ∀ k, k < C.no → RP (C.f k) C.nt
 len : ∀ t, t < C.nt → C.len t ≤ 60
 ops : ∀ t i, t < C.nt → i < C.len t → rgt C (C.op t i) = true
theorem scan_n {R : Type} {g : Nat → Option R} {n : Nat} (h : scan g n = none) : ∀ j, j < n → g j = none := fun j hj => by
 unfold scan at h; rw [List.findSome?_eq_none_iff] at h; exact h j (List.mem_range.2 hj)
theorem scan_s {R : Type} {g : Nat → Option R} {n : Nat} {r : R} (h : scan g n = some r) : ∃ j, j < n ∧ g j = some r := by
 unfold scan at h; obtain ⟨a, h1, h2⟩ := List.exists_of_findSome?_eq_some h; exact ⟨a, List.mem_range.1 h1, h2⟩
theorem chk_ok {C : Cl} (h : (chk C).2.2 = 0) : ChkOk C := by
 unfold chk at h
 by_cases h1 : badC C
 ·rw [if_pos h1] at h; exact absurd h (by decide)
 rw [if_neg h1] at h
 by_cases h2 : 8 < C.no
 ·rw [if_pos h2] at h; exact absurd h (by decide)
 rw [if_neg h2] at h
 have ho : scan (objE C) C.no = none := by
  cases e : scan (objE C) C.no with
  | none => rfl
  | some r =>
   rw [e] at h; obtain ⟨j, _, hj⟩ := scan_s e; unfold objE at hj
   split at hj
   ·cases hj
   ·cases hj; exact absurd h (by simp)
 have hw : scan (ownE C) C.nw = none := by
  cases e : scan (ownE C) C.nw with
  | none => rfl
  | some r =>
   rw [ho, e] at h; obtain ⟨j, _, hj⟩ := scan_s e; unfold ownE at hj
   split at hj
   ·cases hj; exact absurd h (by simp)
   ·cases hj
 have hop : ∀ t i, opE C t i = none ∨ ∃ r : T3, opE C t i = some r ∧ r.2.2 = 3 := fun t i => by
  unfold opE
  split
  ·exact .inl rfl
  ·exact .inr ⟨_, rfl, rfl⟩
 have ht : scan (thrE C) C.nt = none := by
  cases e : scan (thrE C) C.nt with
  | none => rfl
  | some r =>
   rw [ho, hw, e] at h; obtain ⟨j, _, hj⟩ := scan_s e; unfold thrE at hj
   split at hj
   ·cases hj; exact absurd h (by simp)
   ·obtain ⟨i, _, hi⟩ := scan_s hj
    rcases hop j i with e2 | ⟨r2, e2, e3⟩
    ·rw [e2] at hi; cases hi
    ·rw [e2] at hi; cases hi
     have : r.2.2 = 0 := by simpa using h
     omega
 have hth := scan_n ht
 have hlen : ∀ t, t < C.nt → ¬ 60 < C.len t := fun t h' hl => by
  have := hth t h'; unfold thrE at this; rw [if_pos hl] at this; cases this
 refine ⟨h1, by omega, fun k hk => ?_, fun t h' => by have := hlen t h'; omega, fun t i h' hi => ?_⟩
 ·have := scan_n ho k hk
  unfold objE at this
  split at this
  ·rename_i hr; exact of_decide_eq_true hr
  ·cases this
 ·have h3 := hth t h'
  unfold thrE at h3; rw [if_neg (hlen t h')] at h3; have := scan_n h3 i hi; unfold opE at this
  split at this
  ·assumption
  ·cases this
theorem rgt_call {C : Cl} {x : X} (h : rgt C x = true) (h7 : x.k = 7) : 0 ≤ x.a ∧ x.a < C.no := by
 unfold rgt at h; rw [if_neg (by omega), if_neg (by omega), if_neg (by omega), if_neg (by omega), if_neg (by omega), if_pos h7] at h; unfold callB at h
 split at h
 ·assumption
 ·cases h
theorem ltr_head : ∀ k, k ≤ 15 → 1 ≤ k → (lettersOf k).head?.map isGreat = some false := by decide +kernel
theorem firstL_pos {x : O} {t : Nat} (h : RP x t) : 0 < (firstL x t).length := by
 have hk : 1 ≤ x.k ∧ x.k ≤ 15 := by have := h.2.2; omega
 have hh := ltr_head x.k.toNat (by omega) (by omega); unfold firstL; rw [List.length_append]
 cases e : lettersOf x.k.toNat with
 | nil => rw [e] at hh; cases hh
 | cons c l =>
  rw [e] at hh; simp at hh; rw [List.flatMap_cons, List.length_append]
  have : (letterW x.k x.n t c).length = 1 := by unfold letterW; rw [hh]; simp
  omega
theorem firstL_u {x : O} {t : Nat} (h : RP x t) : ∀ v ∈ firstL x t, U32 v := fun v hv => by
 have ht8 := h.2.1; unfold firstL at hv; rcases List.mem_append.1 hv with h1 | h1
 ·obtain ⟨c, _, h2⟩ := List.mem_flatMap.1 h1
  unfold letterW at h2; obtain ⟨j, hj, rfl⟩ := List.mem_map.1 h2; have hj' := List.mem_range.1 hj
  have hj8 : j < 8 ∨ j < 1 := by split at hj' <;> omega
  unfold letterV
  split
  ·rename_i h11
   have := h.2.2; unfold U32; omega
  ·split
   ·unfold U32; omega
   ·split
    ·unfold U32; omega
    ·unfold U32; omega
 ·split at h1
  ·have := (List.mem_replicate.1 h1).2; subst this; unfold U32; omega
  ·cases h1
def firstsF (C : Cl) : Nat → List Int
 | 0 => List.replicate 16 0
 | k + 1 => firstsF C k ++ firstL (C.f k) C.nt
def memF (C : Cl) : List Int := firstsF C C.no
theorem firstL_le {x : O} {t : Nat} (h : RP x t) : (firstL x t).length ≤ 60 := by
 have := szP_le x t; unfold szP at this; rw [if_pos h] at this
 simpa using this
theorem firstsF_p {C : Cl} (h : ChkOk C) : ∀ k, k ≤ C.no → 16 ≤ (firstsF C k).length ∧ (firstsF C k).length ≤ 16 + 60 * k ∧ ∀ v ∈ firstsF C k, U32 v
 | 0, _ => ⟨by simp [firstsF], by simp [firstsF], fun v hv => by
   have := (List.mem_replicate.1 hv).2; subst this; unfold U32; omega⟩
 | k + 1, hk => by
  obtain ⟨h0, h1, h2⟩ := firstsF_p h k (by omega); have h3 := firstL_le (h.objs k (by omega)); refine ⟨by simp only [firstsF, List.length_append]; omega, by simp only [firstsF, List.length_append]; omega, fun v hv => ?_⟩; rcases List.mem_append.1 hv with h4 | h4
  ·exact h2 v h4
  ·exact firstL_u (h.objs k (by omega)) v h4
def opsF (C : Cl) (t : Int) (op : Nat → X) (st : List Ins × Int) : Nat → List Ins × Int
 | 0 => st
 | i + 1 => opF C t (opsF C t op st i).2 (opsF C t op st i).1 (op i)
def threadsF (C : Cl) : Nat → List (List Ins) × Int
 | 0 => ([], 0)
 | t + 1 => ((threadsF C t).1 ++ [(opsF C t (C.op t) ([], (threadsF C t).2) (C.len t)).1], (opsF C t (C.op t) ([], (threadsF C t).2) (C.len t)).2)
def codesF (C : Cl) : List (List Ins) := (threadsF C C.nt).1
theorem opsF_p {C : Cl} {t : Int} {op : Nat → X} {s : Int} (hs : 0 ≤ s) : ∀ n, (∀ i, i < n → 0 ≤ (op i).K ∧ (op i).K < 4294967296) → KOk (opsF C t op ([], s) n).1 ∧ (opsF C t op ([], s) n).1.length ≤ 102 * n ∧ s ≤ (opsF C t op ([], s) n).2 ∧ (opsF C t op ([], s) n).2 ≤ s + n
 | 0, _ => ⟨fun x h => (by cases h), by simp [opsF], by simp only [opsF]; omega, by simp only [opsF]; omega⟩
 | n + 1, h => by
  obtain ⟨h1, h2, h3, h4⟩ := opsF_p (C := C) (t := t) (op := op) hs n (fun i hi => h i (by omega)); obtain ⟨h5, h6, h7, h8⟩ := opF_p (C := C) (t := t) (site := (opsF C t op ([], s) n).2) (x := op n) h1 (h n (by omega))
  refine ⟨h5, ?_, ?_, ?_⟩ <;> simp only [opsF] <;> omega
theorem threadsF_p {C : Cl} (h : ChkOk C) (hK : ∀ t i, t < C.nt → i < C.len t → 0 ≤ (C.op t i).K ∧ (C.op t i).K < 4294967296) : ∀ t, t ≤ C.nt → (threadsF C t).1.length = t ∧ (∀ L ∈ (threadsF C t).1, KOk L ∧ L.length ≤ 6120) ∧ 0 ≤ (threadsF C t).2 ∧ (threadsF C t).2 ≤ 60 * t
 | 0, _ => ⟨rfl, fun L hL => (by cases hL), by simp [threadsF], by simp [threadsF]⟩
 | t + 1, ht => by
  obtain ⟨h1, h2, h3, h4⟩ := threadsF_p h hK t (by omega); obtain ⟨h5, h6, h7, h8⟩ := opsF_p (C := C) (t := t) (op := C.op t) h3 (C.len t) (fun i hi => hK t i (by omega) hi); have h9 := h.len t (by omega); refine ⟨by simp [threadsF, h1], fun L hL => ?_, ?_, ?_⟩
  ·rcases List.mem_append.1 hL with h' | h'
   ·exact h2 L h'
   ·rw [List.mem_singleton] at h'
    subst h'; exact ⟨h5, by omega⟩
  ·simp only [threadsF]; omega
  ·simp only [threadsF]; omega
end Go.Proofs.YtbcgngfbbbfebaaGreatDoor
