/- A call is done: Do, of whatever object. -/
import Derived.Test.YtobkonbpcnmgpaaDoorSeq
namespace Go.Proofs.YtobkonbpcnmgpaaDoor
open Go.RowKit
set_option linter.unusedVariables false
set_option linter.unusedSimpArgs false
def goA (threads : Int) (s : St) (x : Ak) : Out :=
  if mayS s.o x.call threads x.who = true ∧ ¬ (x.call = 4 ∧ s.o.n ≤ x.arg) then (if s.o.k ≠ 13 ∧ x.part ≠ 0 then ⟨s, 0, false⟩ else if s.o.k = 9 then seqP s x else kindP s x) else ⟨s, 0, false⟩
def goD (threads : Int) (s : St) (x : Ak) : Nat := if s.o.k = 9 ∧ x.call = 3 ∧ (goA threads s x).ok = true then s.o.n.toNat else 0
theorem goD_no {t : Int} {s : St} {x : Ak} (h : (goA t s x).ok = false) : goD t s x = 0 := by unfold goD; rw [if_neg (fun h' => by rw [h] at h'; exact absurd h'.2.2 Bool.false_ne_true)]
theorem goD_seq {t : Int} {s : St} {x : Ak} (h9 : s.o.k = 9) (h : goA t s x = seqP s x) : goD t s x = seqD s x := by
  unfold goD seqD
  by_cases c : x.call = 3
  · rw [if_pos ⟨h9, c, by rw [h]; unfold seqP; rw [if_neg (by omega), if_pos c]⟩, if_pos c]
  · rw [if_neg (fun h => c h.2.1), if_neg c]
theorem goA_goP {t : Int} {s : St} {x : Ak} (h9 : s.o.k ≠ 9) : goA t s x = goP t s x := by
  unfold goA goP
  by_cases hm : mayS s.o x.call t x.who = true
  · have := may_tab (mayS_t hm).2.2.2
    rw [if_pos ⟨hm, by omega⟩, if_pos hm, if_neg h9]
  · rw [if_neg (fun h => hm h.1), if_neg hm]
set_option maxRecDepth 100000 in
set_option maxHeartbeats 8000000 in
theorem doS (S : Nat → St) (bM g n cap i : Nat) (threads : Int) (ht : threads ≤ 8) (hi : i < n) (x : Ak) (hxo : x.obj = i) (hxa : 0 ≤ x.arg ∧ x.arg < 4294967296) (h9 : (S i).o.k = 9) (w0 : World) (hM : Mac w0 bM g n cap threads S) : Calls Tryd.prog 14 #[.pointer (some ⟨bM, 0, none⟩), akV x] w0 fun e w' => AnsD w0 w' (goA threads (S i) x).r (goD threads (S i) x) (S i).data (goA threads (S i) x).ok e ∧ Row w' g n (updS S i (goA threads (S i) x).s) ∧ Exc g w0 w' := by
  obtain ⟨dn, hdn⟩ : ∃ dn, Hid (dn = goD threads (S i) x) := ⟨_, rfl⟩
  rw [← hdn.out]
  obtain ⟨p, hp⟩ : ∃ p, Hid (p = goA threads (S i) x) := ⟨_, rfl⟩
  rw [← hp.out]
  obtain ⟨x0, x1, x2, x3, x4, x5⟩ := x
  simp only at hxo hxa
  subst hxo
  have hR := hM.row
  have hi0 : (0 : Int) ≤ i := by omega
  have hi1 : (i : Int) < n := by omega
  unfold akV akC
  go_enter Tryd.func14, Tryd.ntmps14
  go_upto_region 1 with (fail)
  obtain ⟨W, b3, b4, e0, e1, e2, X3, X4, hal⟩ := box2 w0 #[.int .i64 x0, .int .i64 i, .int .i64 x2, .int .i64 x3, .int .u32 x4, .int .u32 x5] #[.int .u32 0, .slice none 0 0] 34 38
  rw [e0, e2, e1]
  have z3 : w0.heap.size ≤ b3 := Nat.le_of_eq e1
  have z4 : w0.heap.size ≤ b4 := by omega
  have hgl := hR.lt
  have hn3 : g ≠ b3 := by omega
  have hn4 : g ≠ b4 := by omega
  clear e0 e2 e1
  have R := hR.below hal
  have E : Exc g w0 W := Exc.of_below hal
  have XM := keep hM.mac hal
  clear hal
  go_upto_region 1 with (fail)
  refine quiet_all (fun w' => Below W.heap.size W w') (by kernel_rfl) (by kernel_rfl) (Below.drew (Below.refl _ _)) ?_
  refine q_run rfl (fun K hK => ?_)
  refine q_value ?_ (fun w' h' => ?_) ?_
  rotate_left
  · go_simp; try with_reducible rfl
  go_simp
  refine hK _ ?_
  clear hK K
  refine q_run rfl (fun K hK => ?_)
  refine q_value ?_ (fun w' h' => ?_) ?_
  rotate_left
  · have c := cell_of_row w' b3 1 _ 34 _ (keep X3 h'); go_simp; try with_reducible rfl
  go_simp
  refine hK _ ?_
  clear hK K
  refine q_run rfl (fun K hK => ?_)
  refine q_value ?_ (fun w' h' => ?_) ?_
  rotate_left
  · go_simp; try with_reducible rfl
  go_simp
  refine hK _ ?_
  clear hK K
  refine q_run rfl (fun K hK => ?_)
  refine q_value ?_ (fun w' h' => ?_) ?_
  rotate_left
  · go_simp; try with_reducible rfl
  go_simp
  refine hK _ ?_
  clear hK K
  refine q_run rfl (fun K hK => ?_)
  refine q_value ?_ (fun w' h' => ?_) ?_
  rotate_left
  · go_simp; try with_reducible rfl
  go_simp
  refine hK _ ?_
  clear hK K
  refine q_run rfl (fun K hK => ?_)
  refine q_value ?_ (fun w' h' => ?_) ?_
  rotate_left
  · have c := cell_of_row w' b3 1 _ 34 _ (keep X3 h'); go_simp; try with_reducible rfl
  go_simp
  refine hK _ ?_
  clear hK K
  refine q_run rfl (fun K hK => ?_)
  refine q_value ?_ (fun w' h' => ?_) ?_
  rotate_left
  · go_simp; try with_reducible rfl
  go_simp
  refine hK _ ?_
  clear hK K
  refine q_run rfl (fun K hK => ?_)
  refine q_value ?_ (fun w' h' => ?_) ?_
  rotate_left
  · go_simp; try with_reducible rfl
  go_simp
  refine hK _ ?_
  clear hK K
  refine q_run rfl (fun K hK => ?_)
  refine q_value ?_ (fun w' h' => ?_) ?_
  rotate_left
  · go_simp; try with_reducible rfl
  go_simp
  refine hK _ ?_
  clear hK K
  refine q_run rfl (fun K hK => ?_)
  refine q_value ?_ (fun w' h' => ?_) ?_
  rotate_left
  · have c := cell_of_row w' bM 1 _ 58 _ (keep XM h'); go_simp; try with_reducible rfl
  go_simp
  refine hK _ ?_
  clear hK K
  refine q_run rfl (fun K hK => ?_)
  refine q_value ?_ (fun w' h' => ?_) ?_
  rotate_left
  · go_simp; try with_reducible rfl
  go_simp
  refine hK _ ?_
  clear hK K
  refine q_run rfl (fun K hK => ?_)
  refine q_value ?_ (fun w' h' => ?_) ?_
  rotate_left
  · go_simp; try with_reducible rfl
  go_simp
  refine hK _ ?_
  clear hK K
  refine q_run rfl (fun K hK => ?_)
  refine q_value ?_ (fun w' h' => ?_) ?_
  rotate_left
  · go_simp; try with_reducible rfl
  go_simp
  refine hK _ ?_
  clear hK K
  refine qd_nil ?_
  intro w35 h36
  replace XM := keep XM h36
  replace X3 := keep X3 h36
  replace X4 := keep X4 h36
  replace R := R.below h36
  replace E := E.below h36
  clear h36
  go_upto_region 3 with (fail)
  refine quiet_all (fun w' => Below w35.heap.size w35 w') (by kernel_rfl) (by kernel_rfl) (Below.drew (Below.refl _ _)) ?_
  refine q_run rfl (fun K hK => ?_)
  refine q_value ?_ (fun w' h' => ?_) ?_
  rotate_left
  · go_simp; try with_reducible rfl
  go_simp
  refine hK _ ?_
  clear hK K
  refine q_run rfl (fun K hK => ?_)
  refine q_value ?_ (fun w' h' => ?_) ?_
  rotate_left
  · go_simp; try with_reducible rfl
  go_simp
  refine hK _ ?_
  clear hK K
  refine q_run rfl (fun K hK => ?_)
  refine q_value ?_ (fun w' h' => ?_) ?_
  rotate_left
  · go_simp; try with_reducible rfl
  go_simp
  refine hK _ ?_
  clear hK K
  refine q_run rfl (fun K hK => ?_)
  refine q_value ?_ (fun w' h' => ?_) ?_
  rotate_left
  · have c := cell_of_row w' bM 1 _ 58 _ (keep XM h'); go_simp; try with_reducible rfl
  go_simp
  refine hK _ ?_
  clear hK K
  refine q_run rfl (fun K hK => ?_)
  refine q_value ?_ (fun w' h' => ?_) ?_
  rotate_left
  · go_simp; try with_reducible rfl
  go_simp
  refine hK _ ?_
  clear hK K
  refine q_run rfl (fun K hK => ?_)
  refine q_value ?_ (fun w' h' => ?_) ?_
  rotate_left
  · have c := cell_of_row w' b3 1 _ 34 _ (keep X3 h'); go_simp; try with_reducible rfl
  go_simp
  refine hK _ ?_
  clear hK K
  refine q_run rfl (fun K hK => ?_)
  refine q_value (.pointer (some ⟨g, i * 38, none⟩)) (fun w' h' => by go_simp) ?_
  go_simp
  refine hK _ ?_
  clear hK K
  refine q_run rfl (fun K hK => ?_)
  refine q_value ?_ (fun w' h' => ?_) ?_
  rotate_left
  · go_simp; try with_reducible rfl
  go_simp
  refine hK _ ?_
  clear hK K
  refine qd_nil ?_
  intro w37 h38
  replace XM := keep XM h38
  replace X3 := keep X3 h38
  replace X4 := keep X4 h38
  replace R := R.below h38
  replace E := E.below h38
  clear h38
  obtain ⟨off, hoff⟩ : ∃ off, Hid (off = i * 38) := ⟨_, rfl⟩
  rw [← hoff.out]
  have hNm := nm_exc hM.names E hM.g0
  by_cases hmay : mayS (S i).o x2 threads x0 = true
  · obtain ⟨hw0, hw1', hRP, hmy⟩ := mayS_t hmay
    have htab := may_tab hmy
    have hn13 : 1 ≤ (S i).o.n ∧ (S i).o.n ≤ 3 := by
      obtain ⟨r1, r2, r3⟩ := hRP
      omega
    have hnn : 0 ≤ (S i).o.n ∧ (S i).o.n ≤ 3 := by omega
    clear hRP htab hmy
    by_cases c4 : x2 = 4
    · by_cases cn : (S i).o.n ≤ x4
      · obtain rfl : p = ⟨S i, 0, false⟩ := by
          rw [hp.out]; unfold goA; rw [if_neg (fun h => h.2 ⟨c4, cn⟩)]
        obtain rfl : dn = 0 := hdn.out.trans (goD_no (by rw [← hp.out]))
        clear hdn hp
        subst c4
        have hw1 : IntKind.u64.wrap (S i).o.n = (S i).o.n := by simp [IntKind.wrap, IntKind.bits, IntKind.signed]; omega
        have hw2 : IntKind.u64.wrap x4 = x4 := by simp [IntKind.wrap, IntKind.bits, IntKind.signed]; omega
        go_upto_region 4 with (fail)
        refine quiet_all (fun w' => Below w37.heap.size w37 w') (by kernel_rfl) (by kernel_rfl) (Below.drew (Below.refl _ _)) ?_
        refine q_run rfl (fun K hK => ?_)
        refine q_value ?_ (fun w' h' => ?_) ?_
        rotate_left
        · go_simp; try with_reducible rfl
        go_simp
        refine hK _ ?_
        clear hK K
        refine q_run rfl (fun K hK => ?_)
        refine q_value ?_ (fun w' h' => ?_) ?_
        rotate_left
        · go_simp; try with_reducible rfl
        go_simp
        refine hK _ ?_
        clear hK K
        refine q_run rfl (fun K hK => ?_)
        refine q_value ?_ (fun w' h' => ?_) ?_
        rotate_left
        · go_simp; try with_reducible rfl
        go_simp
        refine hK _ ?_
        clear hK K
        refine q_run rfl (fun K hK => ?_)
        refine q_value (ov (S i).o) (fun w' h' => run_ldo (.tmp 32) rfl (R.below h') hi hoff.out rfl) ?_
        go_simp
        refine hK _ ?_
        clear hK K
        refine q_run rfl (fun K hK => ?_)
        refine q_value ?_ (fun w' h' => ?_) ?_
        rotate_left
        · go_simp; try with_reducible rfl
        go_simp
        refine hK _ ?_
        clear hK K
        refine q_run rfl (fun K hK => ?_)
        refine q_value ?_ (fun w' h' => ?_) ?_
        rotate_left
        · have c := cell_of_row w' b3 2 _ 34 _ (keep X3 h'); go_simp; try with_reducible rfl
        go_simp
        refine hK _ ?_
        clear hK K
        refine q_run rfl (fun K hK => ?_)
        refine q_value ?_ (fun w' h' => ?_) ?_
        rotate_left
        · go_simp; try with_reducible rfl
        go_simp
        refine hK _ ?_
        clear hK K
        refine q_run rfl (fun K hK => ?_)
        refine q_value ?_ (fun w' h' => ?_) ?_
        rotate_left
        · go_simp; try with_reducible rfl
        go_simp
        refine hK _ ?_
        clear hK K
        refine q_run rfl (fun K hK => ?_)
        refine q_value ?_ (fun w' h' => ?_) ?_
        rotate_left
        · go_simp; try with_reducible rfl
        go_simp
        refine hK _ ?_
        clear hK K
        refine q_run rfl (fun K hK => ?_)
        refine q_value ?_ (fun w' h' => ?_) ?_
        rotate_left
        · have c := cell_of_row w' bM 0 _ 58 _ (keep XM h'); go_simp; try with_reducible rfl
        go_simp
        refine hK _ ?_
        clear hK K
        refine q_run rfl (fun K hK => ?_)
        refine q_value ?_ (fun w' h' => ?_) ?_
        rotate_left
        · go_simp; try with_reducible rfl
        go_simp
        refine hK _ ?_
        clear hK K
        refine q_run rfl (fun K hK => ?_)
        refine q_value ?_ (fun w' h' => ?_) ?_
        rotate_left
        · have c := cell_of_row w' b3 0 _ 34 _ (keep X3 h'); go_simp; try with_reducible rfl
        go_simp
        refine hK _ ?_
        clear hK K
        refine q_run rfl (fun K hK => ?_)
        refine q_enter 19 #[ov (S i).o, .int .i64 4, .int .i64 threads, .int .i64 x0] (.bool true) (fun w' => by first | (go_simp; done) | (go_simp; rfl)) (fun w' h' => by
          have hs := spinMay (S i).o 4 threads x0 w' (hNm.below h')
          rw [hmay] at hs
          exact hs.mono fun e w'' hh => ⟨hh.1, Below.trans h' (hh.2.mono (Below.size h'))⟩) ?_
        go_simp
        refine hK _ ?_
        clear hK K
        refine q_run rfl (fun K hK => ?_)
        refine q_value ?_ (fun w' h' => ?_) ?_
        rotate_left
        · go_simp; try with_reducible rfl
        go_simp
        refine hK _ ?_
        clear hK K
        refine q_run rfl (fun K hK => ?_)
        refine q_value ?_ (fun w' h' => ?_) ?_
        rotate_left
        · go_simp; try with_reducible rfl
        go_simp
        refine hK _ ?_
        clear hK K
        refine q_run rfl (fun K hK => ?_)
        refine q_value ?_ (fun w' h' => ?_) ?_
        rotate_left
        · go_simp; try with_reducible rfl
        go_simp
        refine hK _ ?_
        clear hK K
        refine q_run rfl (fun K hK => ?_)
        refine q_value ?_ (fun w' h' => ?_) ?_
        rotate_left
        · have c := cell_of_row w' b3 2 _ 34 _ (keep X3 h'); go_simp; try with_reducible rfl
        go_simp
        refine hK _ ?_
        clear hK K
        refine q_run rfl (fun K hK => ?_)
        refine q_value ?_ (fun w' h' => ?_) ?_
        rotate_left
        · go_simp; try with_reducible rfl
        go_simp
        refine hK _ ?_
        clear hK K
        refine q_run rfl (fun K hK => ?_)
        refine q_value ?_ (fun w' h' => ?_) ?_
        rotate_left
        · go_simp; try with_reducible rfl
        go_simp
        refine hK _ ?_
        clear hK K
        refine q_run rfl (fun K hK => ?_)
        refine q_value ?_ (fun w' h' => ?_) ?_
        rotate_left
        · go_simp; try with_reducible rfl
        go_simp
        refine hK _ ?_
        clear hK K
        refine q_run rfl (fun K hK => ?_)
        refine q_value ?_ (fun w' h' => ?_) ?_
        rotate_left
        · have c := cell_of_row w' b3 4 _ 34 _ (keep X3 h'); go_simp; try with_reducible rfl
        go_simp
        refine hK _ ?_
        clear hK K
        refine q_run rfl (fun K hK => ?_)
        refine q_value ?_ (fun w' h' => ?_) ?_
        rotate_left
        · go_simp; try with_reducible rfl
        go_simp
        refine hK _ ?_
        clear hK K
        refine q_run rfl (fun K hK => ?_)
        refine q_value ?_ (fun w' h' => ?_) ?_
        rotate_left
        · go_simp; try with_reducible rfl
        go_simp
        refine hK _ ?_
        clear hK K
        refine q_run rfl (fun K hK => ?_)
        refine q_value ?_ (fun w' h' => ?_) ?_
        rotate_left
        · go_simp; try with_reducible rfl
        go_simp
        refine hK _ ?_
        clear hK K
        refine q_run rfl (fun K hK => ?_)
        refine q_value ?_ (fun w' h' => ?_) ?_
        rotate_left
        · go_simp; try with_reducible rfl
        go_simp
        refine hK _ ?_
        clear hK K
        refine q_run rfl (fun K hK => ?_)
        refine q_value ?_ (fun w' h' => ?_) ?_
        rotate_left
        · go_simp; try with_reducible rfl
        go_simp
        refine hK _ ?_
        clear hK K
        refine q_run rfl (fun K hK => ?_)
        refine q_value ?_ (fun w' h' => ?_) ?_
        rotate_left
        · have c := (R.below h').nn hi hoff.out; go_simp; try with_reducible rfl
        go_simp
        refine hK _ ?_
        clear hK K
        refine q_run rfl (fun K hK => ?_)
        refine q_value ?_ (fun w' h' => ?_) ?_
        rotate_left
        · go_simp; try with_reducible rfl
        go_simp
        refine hK _ ?_
        clear hK K
        refine q_run rfl (fun K hK => ?_)
        refine q_value ?_ (fun w' h' => ?_) ?_
        rotate_left
        · go_simp; try with_reducible rfl
        go_simp
        refine hK _ ?_
        clear hK K
        refine q_run rfl (fun K hK => ?_)
        refine q_value ?_ (fun w' h' => ?_) ?_
        rotate_left
        · go_simp; try with_reducible rfl
        go_simp
        refine hK _ ?_
        clear hK K
        refine q_run rfl (fun K hK => ?_)
        refine q_value ?_ (fun w' h' => ?_) ?_
        rotate_left
        · go_simp; try with_reducible rfl
        go_simp
        refine hK _ ?_
        clear hK K
        refine qd_nil ?_
        intro w39 h40
        replace XM := keep XM h40
        replace X3 := keep X3 h40
        replace X4 := keep X4 h40
        replace R := R.below h40
        replace E := E.below h40
        clear h40
        go_upto_region 5 with (fail)
        refine wp_region_lit ?_
        refine wl_call rfl 18 #[] (ansV 0 none 0 0 false) _ ?_ (notC w39) (fun w41 hd => ?_)
        · first | (go_simp; done) | (go_simp; rfl)
        intro K hK
        go_simp
        refine hK _ _ ?_
        clear hK K
        unfold ansV
        iterate 2
          refine wl_val rfl ?_ ?_ ?_
          rotate_left
          · go_simp; try with_reducible rfl
          intro K hK
          go_simp
          refine hK _ _ ?_
          clear hK K
        refine wl_store rfl 38 (.tmp 4) (.tmp 62) rfl b4 #[.int .u32 0, .slice none 0 0] rfl rfl 38 _ (keep X4 hd) (by kernel_rfl) rfl (by simp [Value.oneCell']) (fun w42 m1 m2 m3 m4 => ?_)
        intro K hK
        go_simp
        refine hK _ _ ?_
        clear hK K
        refine wl_val rfl (.bool false) ?_ ?_
        · go_simp
        intro K hK
        go_simp
        refine hK _ _ ?_
        clear hK K
        have Rf := (R.below hd).keep (m2 g hn4)
        have Ef := (E.below hd).put z4 m2 m3
        go_wp2
        exact ret_ans rfl b4 _ _ _ _ _ rfl rfl rfl m1 ⟨AnsD.no, by rw [updS_same]; exact Rf, Ef⟩
      · have hp1 : Hid (p = if (S i).o.k ≠ 13 ∧ x3 ≠ 0 then ⟨S i, 0, false⟩ else if (S i).o.k = 9 then seqP (S i) ⟨x0, i, x2, x3, x4, x5⟩ else kindP (S i) ⟨x0, i, x2, x3, x4, x5⟩) := by
          show p = _
          rw [hp.out]; unfold goA; rw [if_pos ⟨hmay, fun h => cn h.2⟩]
        have hp2 := hp
        clear hp
        have hw1 : IntKind.u64.wrap (S i).o.n = (S i).o.n := by simp [IntKind.wrap, IntKind.bits, IntKind.signed]; omega
        have hw2 : IntKind.u64.wrap x4 = x4 := by simp [IntKind.wrap, IntKind.bits, IntKind.signed]; omega
        have cn' : ¬ (S i).o.n ≤ x4 := cn
        subst c4
        go_upto_region 4 with (fail)
        refine quiet_all (fun w' => Below w37.heap.size w37 w') (by kernel_rfl) (by kernel_rfl) (Below.drew (Below.refl _ _)) ?_
        refine q_run rfl (fun K hK => ?_)
        refine q_value ?_ (fun w' h' => ?_) ?_
        rotate_left
        · go_simp; try with_reducible rfl
        go_simp
        refine hK _ ?_
        clear hK K
        refine q_run rfl (fun K hK => ?_)
        refine q_value ?_ (fun w' h' => ?_) ?_
        rotate_left
        · go_simp; try with_reducible rfl
        go_simp
        refine hK _ ?_
        clear hK K
        refine q_run rfl (fun K hK => ?_)
        refine q_value ?_ (fun w' h' => ?_) ?_
        rotate_left
        · go_simp; try with_reducible rfl
        go_simp
        refine hK _ ?_
        clear hK K
        refine q_run rfl (fun K hK => ?_)
        refine q_value (ov (S i).o) (fun w' h' => run_ldo (.tmp 32) rfl (R.below h') hi hoff.out rfl) ?_
        go_simp
        refine hK _ ?_
        clear hK K
        refine q_run rfl (fun K hK => ?_)
        refine q_value ?_ (fun w' h' => ?_) ?_
        rotate_left
        · go_simp; try with_reducible rfl
        go_simp
        refine hK _ ?_
        clear hK K
        refine q_run rfl (fun K hK => ?_)
        refine q_value ?_ (fun w' h' => ?_) ?_
        rotate_left
        · have c := cell_of_row w' b3 2 _ 34 _ (keep X3 h'); go_simp; try with_reducible rfl
        go_simp
        refine hK _ ?_
        clear hK K
        refine q_run rfl (fun K hK => ?_)
        refine q_value ?_ (fun w' h' => ?_) ?_
        rotate_left
        · go_simp; try with_reducible rfl
        go_simp
        refine hK _ ?_
        clear hK K
        refine q_run rfl (fun K hK => ?_)
        refine q_value ?_ (fun w' h' => ?_) ?_
        rotate_left
        · go_simp; try with_reducible rfl
        go_simp
        refine hK _ ?_
        clear hK K
        refine q_run rfl (fun K hK => ?_)
        refine q_value ?_ (fun w' h' => ?_) ?_
        rotate_left
        · go_simp; try with_reducible rfl
        go_simp
        refine hK _ ?_
        clear hK K
        refine q_run rfl (fun K hK => ?_)
        refine q_value ?_ (fun w' h' => ?_) ?_
        rotate_left
        · have c := cell_of_row w' bM 0 _ 58 _ (keep XM h'); go_simp; try with_reducible rfl
        go_simp
        refine hK _ ?_
        clear hK K
        refine q_run rfl (fun K hK => ?_)
        refine q_value ?_ (fun w' h' => ?_) ?_
        rotate_left
        · go_simp; try with_reducible rfl
        go_simp
        refine hK _ ?_
        clear hK K
        refine q_run rfl (fun K hK => ?_)
        refine q_value ?_ (fun w' h' => ?_) ?_
        rotate_left
        · have c := cell_of_row w' b3 0 _ 34 _ (keep X3 h'); go_simp; try with_reducible rfl
        go_simp
        refine hK _ ?_
        clear hK K
        refine q_run rfl (fun K hK => ?_)
        refine q_enter 19 #[ov (S i).o, .int .i64 4, .int .i64 threads, .int .i64 x0] (.bool true) (fun w' => by first | (go_simp; done) | (go_simp; rfl)) (fun w' h' => by
          have hs := spinMay (S i).o 4 threads x0 w' (hNm.below h')
          rw [hmay] at hs
          exact hs.mono fun e w'' hh => ⟨hh.1, Below.trans h' (hh.2.mono (Below.size h'))⟩) ?_
        go_simp
        refine hK _ ?_
        clear hK K
        refine q_run rfl (fun K hK => ?_)
        refine q_value ?_ (fun w' h' => ?_) ?_
        rotate_left
        · go_simp; try with_reducible rfl
        go_simp
        refine hK _ ?_
        clear hK K
        refine q_run rfl (fun K hK => ?_)
        refine q_value ?_ (fun w' h' => ?_) ?_
        rotate_left
        · go_simp; try with_reducible rfl
        go_simp
        refine hK _ ?_
        clear hK K
        refine q_run rfl (fun K hK => ?_)
        refine q_value ?_ (fun w' h' => ?_) ?_
        rotate_left
        · go_simp; try with_reducible rfl
        go_simp
        refine hK _ ?_
        clear hK K
        refine q_run rfl (fun K hK => ?_)
        refine q_value ?_ (fun w' h' => ?_) ?_
        rotate_left
        · have c := cell_of_row w' b3 2 _ 34 _ (keep X3 h'); go_simp; try with_reducible rfl
        go_simp
        refine hK _ ?_
        clear hK K
        refine q_run rfl (fun K hK => ?_)
        refine q_value ?_ (fun w' h' => ?_) ?_
        rotate_left
        · go_simp; try with_reducible rfl
        go_simp
        refine hK _ ?_
        clear hK K
        refine q_run rfl (fun K hK => ?_)
        refine q_value ?_ (fun w' h' => ?_) ?_
        rotate_left
        · go_simp; try with_reducible rfl
        go_simp
        refine hK _ ?_
        clear hK K
        refine q_run rfl (fun K hK => ?_)
        refine q_value ?_ (fun w' h' => ?_) ?_
        rotate_left
        · go_simp; try with_reducible rfl
        go_simp
        refine hK _ ?_
        clear hK K
        refine q_run rfl (fun K hK => ?_)
        refine q_value ?_ (fun w' h' => ?_) ?_
        rotate_left
        · have c := cell_of_row w' b3 4 _ 34 _ (keep X3 h'); go_simp; try with_reducible rfl
        go_simp
        refine hK _ ?_
        clear hK K
        refine q_run rfl (fun K hK => ?_)
        refine q_value ?_ (fun w' h' => ?_) ?_
        rotate_left
        · go_simp; try with_reducible rfl
        go_simp
        refine hK _ ?_
        clear hK K
        refine q_run rfl (fun K hK => ?_)
        refine q_value ?_ (fun w' h' => ?_) ?_
        rotate_left
        · go_simp; try with_reducible rfl
        go_simp
        refine hK _ ?_
        clear hK K
        refine q_run rfl (fun K hK => ?_)
        refine q_value ?_ (fun w' h' => ?_) ?_
        rotate_left
        · go_simp; try with_reducible rfl
        go_simp
        refine hK _ ?_
        clear hK K
        refine q_run rfl (fun K hK => ?_)
        refine q_value ?_ (fun w' h' => ?_) ?_
        rotate_left
        · go_simp; try with_reducible rfl
        go_simp
        refine hK _ ?_
        clear hK K
        refine q_run rfl (fun K hK => ?_)
        refine q_value ?_ (fun w' h' => ?_) ?_
        rotate_left
        · go_simp; try with_reducible rfl
        go_simp
        refine hK _ ?_
        clear hK K
        refine q_run rfl (fun K hK => ?_)
        refine q_value ?_ (fun w' h' => ?_) ?_
        rotate_left
        · have c := (R.below h').nn hi hoff.out; go_simp; try with_reducible rfl
        go_simp
        refine hK _ ?_
        clear hK K
        refine q_run rfl (fun K hK => ?_)
        refine q_value ?_ (fun w' h' => ?_) ?_
        rotate_left
        · go_simp; try with_reducible rfl
        go_simp
        refine hK _ ?_
        clear hK K
        refine q_run rfl (fun K hK => ?_)
        refine q_value ?_ (fun w' h' => ?_) ?_
        rotate_left
        · go_simp; try with_reducible rfl
        go_simp
        refine hK _ ?_
        clear hK K
        refine q_run rfl (fun K hK => ?_)
        refine q_value ?_ (fun w' h' => ?_) ?_
        rotate_left
        · go_simp; try with_reducible rfl
        go_simp
        refine hK _ ?_
        clear hK K
        refine q_run rfl (fun K hK => ?_)
        refine q_value ?_ (fun w' h' => ?_) ?_
        rotate_left
        · go_simp; try with_reducible rfl
        go_simp
        refine hK _ ?_
        clear hK K
        refine qd_nil ?_
        intro w43 h44
        replace XM := keep XM h44
        replace X3 := keep X3 h44
        replace X4 := keep X4 h44
        replace R := R.below h44
        replace E := E.below h44
        clear h44
        have hxs : (4 : Int) = 4 → 0 ≤ x4 ∧ x4 < 3 := fun _ => by omega
        clear hmay cn cn' hw1 hw2
        by_cases cp : x3 ≠ 0
        · obtain rfl : p = ⟨S i, 0, false⟩ := by
            rw [hp1.out, if_pos ⟨by omega, cp⟩]
          obtain rfl : dn = 0 := hdn.out.trans (goD_no (by rw [← hp2.out]))
          clear hp1 hp2 hdn
          have yk := R.kd hi hoff.out
          rw [h9] at yk
          have y3 := cell_of_row w43 b3 3 _ 34 _ X3
          have qp : (x3 != 0) = true := by simp [cp]
          clear cp
          go_upto_region 7 with (fail)
          refine wp_region_lit ?_
          refine wl_call rfl 18 #[] (ansV 0 none 0 0 false) _ ?_ (notC w43) (fun w45 hd => ?_)
          · first | (go_simp; done) | (go_simp; rfl)
          intro K hK
          go_simp
          refine hK _ _ ?_
          clear hK K
          unfold ansV
          iterate 2
            refine wl_val rfl ?_ ?_ ?_
            rotate_left
            · go_simp; try with_reducible rfl
            intro K hK
            go_simp
            refine hK _ _ ?_
            clear hK K
          refine wl_store rfl 38 (.tmp 4) (.tmp 76) rfl b4 #[.int .u32 0, .slice none 0 0] rfl rfl 38 _ (keep X4 hd) (by kernel_rfl) rfl (by simp [Value.oneCell']) (fun w46 m1 m2 m3 m4 => ?_)
          intro K hK
          go_simp
          refine hK _ _ ?_
          clear hK K
          refine wl_val rfl (.bool false) ?_ ?_
          · go_simp
          intro K hK
          go_simp
          refine hK _ _ ?_
          clear hK K
          have Rf := (R.below hd).keep (m2 g hn4)
          have Ef := (E.below hd).put z4 m2 m3
          go_wp2
          exact ret_ans rfl b4 _ _ _ _ _ rfl rfl rfl m1 ⟨AnsD.no, by rw [updS_same]; exact Rf, Ef⟩
        · obtain rfl : p = seqP (S i) ⟨x0, i, 4, x3, x4, x5⟩ := by
            rw [hp1.out, if_neg (fun h => cp h.2), if_pos h9]
          obtain rfl : dn = seqD (S i) ⟨x0, i, 4, x3, x4, x5⟩ := hdn.out.trans (goD_seq h9 hp2.out.symm)
          clear hp1 hp2 hdn
          have cp' : x3 = 0 := by omega
          subst cp'
          clear cp
          have yk := R.kd hi hoff.out
          rw [h9] at yk
          have y3 := cell_of_row w43 b3 3 _ 34 _ X3
          go_upto_region 13 with (fail)
          refine wp_region_lit ?_
          iterate 1
            refine wl_val rfl ?_ ?_ ?_
            rotate_left
            · go_simp; try with_reducible rfl
            intro K hK
            go_simp
            refine hK _ _ ?_
            clear hK K
          refine wl_load rfl 34 (.tmp 3) rfl _ rfl _ _ _ _ X3 Tryd.underlying34 rfl (by kernel_rfl) ?_
          intro K hK
          go_simp
          refine hK _ _ ?_
          clear hK K
          refine wl_calls rfl 21 #[.pointer (some ⟨g, off, none⟩), akV ⟨x0, i, 4, 0, x4, x5⟩] (fun v w' => ∃ V c, v = ansV (seqP (S i) ⟨x0, i, 4, 0, x4, x5⟩).r V (seqD (S i) ⟨x0, i, 4, 0, x4, x5⟩) c (seqP (S i) ⟨x0, i, 4, 0, x4, x5⟩).ok ∧ DatA w' V (seqD (S i) ⟨x0, i, 4, 0, x4, x5⟩) (S i).data ∧ (∀ b, V = some ⟨b, 0, none⟩ → w43.heap.size ≤ b) ∧ Row w' g n (updS S i (seqP (S i) ⟨x0, i, 4, 0, x4, x5⟩).s) ∧ Exc g w43 w') ?_ ((seqC S g n i off hi hoff ⟨x0, i, 4, 0, x4, x5⟩ hnn hxs w43 R).mono fun e w' hh => by
            obtain ⟨⟨V, c, e1, e2, e3⟩, hh1, hh2⟩ := hh
            exact ⟨_, e1, V, c, rfl, e2, e3, hh1, hh2⟩) (fun v w47 hd => ?_)
          · unfold akV akC; first | (go_simp; done) | (go_simp; rfl)
          obtain ⟨V, c, rfl, hD, hV, Rd, Ed0⟩ := hd
          intro K hK
          go_simp
          refine hK _ _ ?_
          clear hK K
          have Ed := E.trans Ed0
          have X4d := (Ed0.blk b4 (blk_lt X4) (fun e => hn4 e.symm)).trans X4
          have hV4 : ∀ b, V = some ⟨b, 0, none⟩ → b4 < b := fun b e => by have := hV b e; have := blk_lt X4; omega
          clear hV Ed0
          unfold ansV
          iterate 2
            refine wl_val rfl ?_ ?_ ?_
            rotate_left
            · go_simp; try with_reducible rfl
            intro K hK
            go_simp
            refine hK _ _ ?_
            clear hK K
          refine wl_store rfl 38 (.tmp 4) (.tmp 96) rfl b4 #[.int .u32 (seqP (S i) ⟨x0, i, 4, 0, x4, x5⟩).r, .slice V (seqD (S i) ⟨x0, i, 4, 0, x4, x5⟩) c] rfl rfl 38 _ X4d (by kernel_rfl) rfl (by simp [Value.oneCell']) (fun w48 m1 m2 m3 m4 => ?_)
          intro K hK
          go_simp
          refine hK _ _ ?_
          clear hK K
          refine wl_val rfl (.bool (seqP (S i) ⟨x0, i, 4, 0, x4, x5⟩).ok) ?_ ?_
          · go_simp
          intro K hK
          go_simp
          refine hK _ _ ?_
          clear hK K
          have Rf := Rd.keep (m2 g hn4)
          have Ef := Ed.put z4 m2 m3
          have hDf := hD.keep (m3 0 (Nat.zero_le _)).size (fun b e => m2 b (by have := hV4 b e; omega))
          go_wp2
          exact ret_ans rfl b4 _ _ _ _ _ rfl rfl rfl m1 ⟨AnsD.of hDf (fun b e => by have := hV4 b e; omega), Rf, Ef⟩
    · have hp1 : Hid (p = if (S i).o.k ≠ 13 ∧ x3 ≠ 0 then ⟨S i, 0, false⟩ else if (S i).o.k = 9 then seqP (S i) ⟨x0, i, x2, x3, x4, x5⟩ else kindP (S i) ⟨x0, i, x2, x3, x4, x5⟩) := by
        show p = _
        rw [hp.out]; unfold goA; rw [if_pos ⟨hmay, fun h => c4 h.1⟩]
      have hp2 := hp
      clear hp
      have qc4 : (x2 == 4) = false := by simp; omega
      have hxs : x2 = 4 → 0 ≤ x4 ∧ x4 < 3 := fun h => absurd h c4
      go_upto_region 4 with (fail)
      refine quiet_all (fun w' => Below w37.heap.size w37 w') (by kernel_rfl) (by kernel_rfl) (Below.drew (Below.refl _ _)) ?_
      refine q_run rfl (fun K hK => ?_)
      refine q_value ?_ (fun w' h' => ?_) ?_
      rotate_left
      · go_simp; try with_reducible rfl
      go_simp
      refine hK _ ?_
      clear hK K
      refine q_run rfl (fun K hK => ?_)
      refine q_value ?_ (fun w' h' => ?_) ?_
      rotate_left
      · go_simp; try with_reducible rfl
      go_simp
      refine hK _ ?_
      clear hK K
      refine q_run rfl (fun K hK => ?_)
      refine q_value ?_ (fun w' h' => ?_) ?_
      rotate_left
      · go_simp; try with_reducible rfl
      go_simp
      refine hK _ ?_
      clear hK K
      refine q_run rfl (fun K hK => ?_)
      refine q_value (ov (S i).o) (fun w' h' => run_ldo (.tmp 32) rfl (R.below h') hi hoff.out rfl) ?_
      go_simp
      refine hK _ ?_
      clear hK K
      refine q_run rfl (fun K hK => ?_)
      refine q_value ?_ (fun w' h' => ?_) ?_
      rotate_left
      · go_simp; try with_reducible rfl
      go_simp
      refine hK _ ?_
      clear hK K
      refine q_run rfl (fun K hK => ?_)
      refine q_value ?_ (fun w' h' => ?_) ?_
      rotate_left
      · have c := cell_of_row w' b3 2 _ 34 _ (keep X3 h'); go_simp; try with_reducible rfl
      go_simp
      refine hK _ ?_
      clear hK K
      refine q_run rfl (fun K hK => ?_)
      refine q_value ?_ (fun w' h' => ?_) ?_
      rotate_left
      · go_simp; try with_reducible rfl
      go_simp
      refine hK _ ?_
      clear hK K
      refine q_run rfl (fun K hK => ?_)
      refine q_value ?_ (fun w' h' => ?_) ?_
      rotate_left
      · go_simp; try with_reducible rfl
      go_simp
      refine hK _ ?_
      clear hK K
      refine q_run rfl (fun K hK => ?_)
      refine q_value ?_ (fun w' h' => ?_) ?_
      rotate_left
      · go_simp; try with_reducible rfl
      go_simp
      refine hK _ ?_
      clear hK K
      refine q_run rfl (fun K hK => ?_)
      refine q_value ?_ (fun w' h' => ?_) ?_
      rotate_left
      · have c := cell_of_row w' bM 0 _ 58 _ (keep XM h'); go_simp; try with_reducible rfl
      go_simp
      refine hK _ ?_
      clear hK K
      refine q_run rfl (fun K hK => ?_)
      refine q_value ?_ (fun w' h' => ?_) ?_
      rotate_left
      · go_simp; try with_reducible rfl
      go_simp
      refine hK _ ?_
      clear hK K
      refine q_run rfl (fun K hK => ?_)
      refine q_value ?_ (fun w' h' => ?_) ?_
      rotate_left
      · have c := cell_of_row w' b3 0 _ 34 _ (keep X3 h'); go_simp; try with_reducible rfl
      go_simp
      refine hK _ ?_
      clear hK K
      refine q_run rfl (fun K hK => ?_)
      refine q_enter 19 #[ov (S i).o, .int .i64 x2, .int .i64 threads, .int .i64 x0] (.bool true) (fun w' => by first | (go_simp; done) | (go_simp; rfl)) (fun w' h' => by
        have hs := spinMay (S i).o x2 threads x0 w' (hNm.below h')
        rw [hmay] at hs
        exact hs.mono fun e w'' hh => ⟨hh.1, Below.trans h' (hh.2.mono (Below.size h'))⟩) ?_
      go_simp
      refine hK _ ?_
      clear hK K
      refine q_run rfl (fun K hK => ?_)
      refine q_value ?_ (fun w' h' => ?_) ?_
      rotate_left
      · go_simp; try with_reducible rfl
      go_simp
      refine hK _ ?_
      clear hK K
      refine q_run rfl (fun K hK => ?_)
      refine q_value ?_ (fun w' h' => ?_) ?_
      rotate_left
      · go_simp; try with_reducible rfl
      go_simp
      refine hK _ ?_
      clear hK K
      refine q_run rfl (fun K hK => ?_)
      refine q_value ?_ (fun w' h' => ?_) ?_
      rotate_left
      · go_simp; try with_reducible rfl
      go_simp
      refine hK _ ?_
      clear hK K
      refine q_run rfl (fun K hK => ?_)
      refine q_value ?_ (fun w' h' => ?_) ?_
      rotate_left
      · have c := cell_of_row w' b3 2 _ 34 _ (keep X3 h'); go_simp; try with_reducible rfl
      go_simp
      refine hK _ ?_
      clear hK K
      refine q_run rfl (fun K hK => ?_)
      refine q_value ?_ (fun w' h' => ?_) ?_
      rotate_left
      · go_simp; try with_reducible rfl
      go_simp
      refine hK _ ?_
      clear hK K
      refine q_run rfl (fun K hK => ?_)
      refine q_value ?_ (fun w' h' => ?_) ?_
      rotate_left
      · go_simp; try with_reducible rfl
      go_simp
      refine hK _ ?_
      clear hK K
      refine q_skip rfl (fun K hK => ?_)
      go_simp
      refine hK _ ?_
      clear hK K
      refine q_skip rfl (fun K hK => ?_)
      go_simp
      refine hK _ ?_
      clear hK K
      refine q_skip rfl (fun K hK => ?_)
      go_simp
      refine hK _ ?_
      clear hK K
      refine q_skip rfl (fun K hK => ?_)
      go_simp
      refine hK _ ?_
      clear hK K
      refine q_skip rfl (fun K hK => ?_)
      go_simp
      refine hK _ ?_
      clear hK K
      refine q_skip rfl (fun K hK => ?_)
      go_simp
      refine hK _ ?_
      clear hK K
      refine q_skip rfl (fun K hK => ?_)
      go_simp
      refine hK _ ?_
      clear hK K
      refine q_skip rfl (fun K hK => ?_)
      go_simp
      refine hK _ ?_
      clear hK K
      refine q_skip rfl (fun K hK => ?_)
      go_simp
      refine hK _ ?_
      clear hK K
      refine q_skip rfl (fun K hK => ?_)
      go_simp
      refine hK _ ?_
      clear hK K
      refine q_run rfl (fun K hK => ?_)
      refine q_value ?_ (fun w' h' => ?_) ?_
      rotate_left
      · go_simp; try with_reducible rfl
      go_simp
      refine hK _ ?_
      clear hK K
      refine q_run rfl (fun K hK => ?_)
      refine q_value ?_ (fun w' h' => ?_) ?_
      rotate_left
      · go_simp; try with_reducible rfl
      go_simp
      refine hK _ ?_
      clear hK K
      refine qd_nil ?_
      intro w49 h50
      replace XM := keep XM h50
      replace X3 := keep X3 h50
      replace X4 := keep X4 h50
      replace R := R.below h50
      replace E := E.below h50
      clear h50
      clear hmay qc4 c4
      by_cases cp : x3 ≠ 0
      · obtain rfl : p = ⟨S i, 0, false⟩ := by
          rw [hp1.out, if_pos ⟨by omega, cp⟩]
        obtain rfl : dn = 0 := hdn.out.trans (goD_no (by rw [← hp2.out]))
        clear hp1 hp2 hdn
        have yk := R.kd hi hoff.out
        rw [h9] at yk
        have y3 := cell_of_row w49 b3 3 _ 34 _ X3
        have qp : (x3 != 0) = true := by simp [cp]
        clear cp
        go_upto_region 7 with (fail)
        refine wp_region_lit ?_
        refine wl_call rfl 18 #[] (ansV 0 none 0 0 false) _ ?_ (notC w49) (fun w51 hd => ?_)
        · first | (go_simp; done) | (go_simp; rfl)
        intro K hK
        go_simp
        refine hK _ _ ?_
        clear hK K
        unfold ansV
        iterate 2
          refine wl_val rfl ?_ ?_ ?_
          rotate_left
          · go_simp; try with_reducible rfl
          intro K hK
          go_simp
          refine hK _ _ ?_
          clear hK K
        refine wl_store rfl 38 (.tmp 4) (.tmp 76) rfl b4 #[.int .u32 0, .slice none 0 0] rfl rfl 38 _ (keep X4 hd) (by kernel_rfl) rfl (by simp [Value.oneCell']) (fun w52 m1 m2 m3 m4 => ?_)
        intro K hK
        go_simp
        refine hK _ _ ?_
        clear hK K
        refine wl_val rfl (.bool false) ?_ ?_
        · go_simp
        intro K hK
        go_simp
        refine hK _ _ ?_
        clear hK K
        have Rf := (R.below hd).keep (m2 g hn4)
        have Ef := (E.below hd).put z4 m2 m3
        go_wp2
        exact ret_ans rfl b4 _ _ _ _ _ rfl rfl rfl m1 ⟨AnsD.no, by rw [updS_same]; exact Rf, Ef⟩
      · obtain rfl : p = seqP (S i) ⟨x0, i, x2, x3, x4, x5⟩ := by
          rw [hp1.out, if_neg (fun h => cp h.2), if_pos h9]
        obtain rfl : dn = seqD (S i) ⟨x0, i, x2, x3, x4, x5⟩ := hdn.out.trans (goD_seq h9 hp2.out.symm)
        clear hp1 hp2 hdn
        have cp' : x3 = 0 := by omega
        subst cp'
        clear cp
        have yk := R.kd hi hoff.out
        rw [h9] at yk
        have y3 := cell_of_row w49 b3 3 _ 34 _ X3
        go_upto_region 13 with (fail)
        refine wp_region_lit ?_
        iterate 1
          refine wl_val rfl ?_ ?_ ?_
          rotate_left
          · go_simp; try with_reducible rfl
          intro K hK
          go_simp
          refine hK _ _ ?_
          clear hK K
        refine wl_load rfl 34 (.tmp 3) rfl _ rfl _ _ _ _ X3 Tryd.underlying34 rfl (by kernel_rfl) ?_
        intro K hK
        go_simp
        refine hK _ _ ?_
        clear hK K
        refine wl_calls rfl 21 #[.pointer (some ⟨g, off, none⟩), akV ⟨x0, i, x2, 0, x4, x5⟩] (fun v w' => ∃ V c, v = ansV (seqP (S i) ⟨x0, i, x2, 0, x4, x5⟩).r V (seqD (S i) ⟨x0, i, x2, 0, x4, x5⟩) c (seqP (S i) ⟨x0, i, x2, 0, x4, x5⟩).ok ∧ DatA w' V (seqD (S i) ⟨x0, i, x2, 0, x4, x5⟩) (S i).data ∧ (∀ b, V = some ⟨b, 0, none⟩ → w49.heap.size ≤ b) ∧ Row w' g n (updS S i (seqP (S i) ⟨x0, i, x2, 0, x4, x5⟩).s) ∧ Exc g w49 w') ?_ ((seqC S g n i off hi hoff ⟨x0, i, x2, 0, x4, x5⟩ hnn hxs w49 R).mono fun e w' hh => by
          obtain ⟨⟨V, c, e1, e2, e3⟩, hh1, hh2⟩ := hh
          exact ⟨_, e1, V, c, rfl, e2, e3, hh1, hh2⟩) (fun v w53 hd => ?_)
        · unfold akV akC; first | (go_simp; done) | (go_simp; rfl)
        obtain ⟨V, c, rfl, hD, hV, Rd, Ed0⟩ := hd
        intro K hK
        go_simp
        refine hK _ _ ?_
        clear hK K
        have Ed := E.trans Ed0
        have X4d := (Ed0.blk b4 (blk_lt X4) (fun e => hn4 e.symm)).trans X4
        have hV4 : ∀ b, V = some ⟨b, 0, none⟩ → b4 < b := fun b e => by have := hV b e; have := blk_lt X4; omega
        clear hV Ed0
        unfold ansV
        iterate 2
          refine wl_val rfl ?_ ?_ ?_
          rotate_left
          · go_simp; try with_reducible rfl
          intro K hK
          go_simp
          refine hK _ _ ?_
          clear hK K
        refine wl_store rfl 38 (.tmp 4) (.tmp 96) rfl b4 #[.int .u32 (seqP (S i) ⟨x0, i, x2, 0, x4, x5⟩).r, .slice V (seqD (S i) ⟨x0, i, x2, 0, x4, x5⟩) c] rfl rfl 38 _ X4d (by kernel_rfl) rfl (by simp [Value.oneCell']) (fun w54 m1 m2 m3 m4 => ?_)
        intro K hK
        go_simp
        refine hK _ _ ?_
        clear hK K
        refine wl_val rfl (.bool (seqP (S i) ⟨x0, i, x2, 0, x4, x5⟩).ok) ?_ ?_
        · go_simp
        intro K hK
        go_simp
        refine hK _ _ ?_
        clear hK K
        have Rf := Rd.keep (m2 g hn4)
        have Ef := Ed.put z4 m2 m3
        have hDf := hD.keep (m3 0 (Nat.zero_le _)).size (fun b e => m2 b (by have := hV4 b e; omega))
        go_wp2
        exact ret_ans rfl b4 _ _ _ _ _ rfl rfl rfl m1 ⟨AnsD.of hDf (fun b e => by have := hV4 b e; omega), Rf, Ef⟩
  · have hmay := Bool.eq_false_iff.2 hmay
    obtain rfl : p = ⟨S i, 0, false⟩ := by
      rw [hp.out]; unfold goA; rw [if_neg (fun h => by rw [hmay] at h; exact absurd h.1 Bool.false_ne_true)]
    obtain rfl : dn = 0 := hdn.out.trans (goD_no (by rw [← hp.out]))
    clear hdn hp
    go_upto_region 4 with (fail)
    refine quiet_all (fun w' => Below w37.heap.size w37 w') (by kernel_rfl) (by kernel_rfl) (Below.drew (Below.refl _ _)) ?_
    refine q_run rfl (fun K hK => ?_)
    refine q_value ?_ (fun w' h' => ?_) ?_
    rotate_left
    · go_simp; try with_reducible rfl
    go_simp
    refine hK _ ?_
    clear hK K
    refine q_run rfl (fun K hK => ?_)
    refine q_value ?_ (fun w' h' => ?_) ?_
    rotate_left
    · go_simp; try with_reducible rfl
    go_simp
    refine hK _ ?_
    clear hK K
    refine q_run rfl (fun K hK => ?_)
    refine q_value ?_ (fun w' h' => ?_) ?_
    rotate_left
    · go_simp; try with_reducible rfl
    go_simp
    refine hK _ ?_
    clear hK K
    refine q_run rfl (fun K hK => ?_)
    refine q_value (ov (S i).o) (fun w' h' => run_ldo (.tmp 32) rfl (R.below h') hi hoff.out rfl) ?_
    go_simp
    refine hK _ ?_
    clear hK K
    refine q_run rfl (fun K hK => ?_)
    refine q_value ?_ (fun w' h' => ?_) ?_
    rotate_left
    · go_simp; try with_reducible rfl
    go_simp
    refine hK _ ?_
    clear hK K
    refine q_run rfl (fun K hK => ?_)
    refine q_value ?_ (fun w' h' => ?_) ?_
    rotate_left
    · have c := cell_of_row w' b3 2 _ 34 _ (keep X3 h'); go_simp; try with_reducible rfl
    go_simp
    refine hK _ ?_
    clear hK K
    refine q_run rfl (fun K hK => ?_)
    refine q_value ?_ (fun w' h' => ?_) ?_
    rotate_left
    · go_simp; try with_reducible rfl
    go_simp
    refine hK _ ?_
    clear hK K
    refine q_run rfl (fun K hK => ?_)
    refine q_value ?_ (fun w' h' => ?_) ?_
    rotate_left
    · go_simp; try with_reducible rfl
    go_simp
    refine hK _ ?_
    clear hK K
    refine q_run rfl (fun K hK => ?_)
    refine q_value ?_ (fun w' h' => ?_) ?_
    rotate_left
    · go_simp; try with_reducible rfl
    go_simp
    refine hK _ ?_
    clear hK K
    refine q_run rfl (fun K hK => ?_)
    refine q_value ?_ (fun w' h' => ?_) ?_
    rotate_left
    · have c := cell_of_row w' bM 0 _ 58 _ (keep XM h'); go_simp; try with_reducible rfl
    go_simp
    refine hK _ ?_
    clear hK K
    refine q_run rfl (fun K hK => ?_)
    refine q_value ?_ (fun w' h' => ?_) ?_
    rotate_left
    · go_simp; try with_reducible rfl
    go_simp
    refine hK _ ?_
    clear hK K
    refine q_run rfl (fun K hK => ?_)
    refine q_value ?_ (fun w' h' => ?_) ?_
    rotate_left
    · have c := cell_of_row w' b3 0 _ 34 _ (keep X3 h'); go_simp; try with_reducible rfl
    go_simp
    refine hK _ ?_
    clear hK K
    refine q_run rfl (fun K hK => ?_)
    refine q_enter 19 #[ov (S i).o, .int .i64 x2, .int .i64 threads, .int .i64 x0] (.bool false) (fun w' => by first | (go_simp; done) | (go_simp; rfl)) (fun w' h' => by
      have hs := spinMay (S i).o x2 threads x0 w' (hNm.below h')
      rw [hmay] at hs
      exact hs.mono fun e w'' hh => ⟨hh.1, Below.trans h' (hh.2.mono (Below.size h'))⟩) ?_
    go_simp
    refine hK _ ?_
    clear hK K
    refine q_run rfl (fun K hK => ?_)
    refine q_value ?_ (fun w' h' => ?_) ?_
    rotate_left
    · go_simp; try with_reducible rfl
    go_simp
    refine hK _ ?_
    clear hK K
    refine q_run rfl (fun K hK => ?_)
    refine q_value ?_ (fun w' h' => ?_) ?_
    rotate_left
    · go_simp; try with_reducible rfl
    go_simp
    refine hK _ ?_
    clear hK K
    refine q_skip rfl (fun K hK => ?_)
    go_simp
    refine hK _ ?_
    clear hK K
    refine q_skip rfl (fun K hK => ?_)
    go_simp
    refine hK _ ?_
    clear hK K
    refine q_skip rfl (fun K hK => ?_)
    go_simp
    refine hK _ ?_
    clear hK K
    refine q_skip rfl (fun K hK => ?_)
    go_simp
    refine hK _ ?_
    clear hK K
    refine q_skip rfl (fun K hK => ?_)
    go_simp
    refine hK _ ?_
    clear hK K
    refine q_skip rfl (fun K hK => ?_)
    go_simp
    refine hK _ ?_
    clear hK K
    refine q_skip rfl (fun K hK => ?_)
    go_simp
    refine hK _ ?_
    clear hK K
    refine q_skip rfl (fun K hK => ?_)
    go_simp
    refine hK _ ?_
    clear hK K
    refine q_skip rfl (fun K hK => ?_)
    go_simp
    refine hK _ ?_
    clear hK K
    refine q_skip rfl (fun K hK => ?_)
    go_simp
    refine hK _ ?_
    clear hK K
    refine q_skip rfl (fun K hK => ?_)
    go_simp
    refine hK _ ?_
    clear hK K
    refine q_skip rfl (fun K hK => ?_)
    go_simp
    refine hK _ ?_
    clear hK K
    refine q_skip rfl (fun K hK => ?_)
    go_simp
    refine hK _ ?_
    clear hK K
    refine q_skip rfl (fun K hK => ?_)
    go_simp
    refine hK _ ?_
    clear hK K
    refine q_skip rfl (fun K hK => ?_)
    go_simp
    refine hK _ ?_
    clear hK K
    refine q_run rfl (fun K hK => ?_)
    refine q_value ?_ (fun w' h' => ?_) ?_
    rotate_left
    · go_simp; try with_reducible rfl
    go_simp
    refine hK _ ?_
    clear hK K
    refine qd_nil ?_
    intro w55 h56
    replace XM := keep XM h56
    replace X3 := keep X3 h56
    replace X4 := keep X4 h56
    replace R := R.below h56
    replace E := E.below h56
    clear h56
    go_upto_region 5 with (fail)
    refine wp_region_lit ?_
    refine wl_call rfl 18 #[] (ansV 0 none 0 0 false) _ ?_ (notC w55) (fun w57 hd => ?_)
    · first | (go_simp; done) | (go_simp; rfl)
    intro K hK
    go_simp
    refine hK _ _ ?_
    clear hK K
    unfold ansV
    iterate 2
      refine wl_val rfl ?_ ?_ ?_
      rotate_left
      · go_simp; try with_reducible rfl
      intro K hK
      go_simp
      refine hK _ _ ?_
      clear hK K
    refine wl_store rfl 38 (.tmp 4) (.tmp 62) rfl b4 #[.int .u32 0, .slice none 0 0] rfl rfl 38 _ (keep X4 hd) (by kernel_rfl) rfl (by simp [Value.oneCell']) (fun w58 m1 m2 m3 m4 => ?_)
    intro K hK
    go_simp
    refine hK _ _ ?_
    clear hK K
    refine wl_val rfl (.bool false) ?_ ?_
    · go_simp
    intro K hK
    go_simp
    refine hK _ _ ?_
    clear hK K
    have Rf := (R.below hd).keep (m2 g hn4)
    have Ef := (E.below hd).put z4 m2 m3
    go_wp2
    exact ret_ans rfl b4 _ _ _ _ _ rfl rfl rfl m1 ⟨AnsD.no, by rw [updS_same]; exact Rf, Ef⟩
end Go.Proofs.YtobkonbpcnmgpaaDoor
