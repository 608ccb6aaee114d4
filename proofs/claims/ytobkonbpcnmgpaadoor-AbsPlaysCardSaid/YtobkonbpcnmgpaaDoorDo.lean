/- A call is done: Do, of whatever object but a sequence lock. -/
import Derived.Test.YtobkonbpcnmgpaaDoorBar
import Derived.Test.YtobkonbpcnmgpaaDoorMay
namespace Go.Proofs.YtobkonbpcnmgpaaDoor
open Go.RowKit
set_option linter.unusedVariables false
set_option linter.unusedSimpArgs false
theorem run_ldo {o : Oper} {a : Act} {w : World} {g n i off : Nat} {S : Nat → St} (y : Operand) (ho : o.op = .load 48 y) (hR : Row w g n S) (hi : i < n) (hoff : off = i * 38) (hx : a.eval y = .pointer (some ⟨g, off, none⟩)) : (execOp a.eval o).run Tryd.prog w = .ok (.value (ov (S i).o)) w := by
  have h0 := hR.kd hi hoff
  have h1 := hR.nn hi hoff
  have h2 := hR.aa hi hoff
  have h3 := hR.bb hi hoff
  have hl : (loadCells ⟨g, off, none⟩ 4).run Tryd.prog w = .ok #[.int .i64 (S i).o.k, .int .i64 (S i).o.n, .int .i64 (S i).o.a, .int .i64 (S i).o.b] w := by
    have := run_loadCells_list (P := Tryd.prog) w ⟨g, off, none⟩ [.int .i64 (S i).o.k, .int .i64 (S i).o.n, .int .i64 (S i).o.a, .int .i64 (S i).o.b] (fun j v hv => by
      rw [add_off]
      match j, hv with
      | 0, hv => simp at hv; rw [← hv]; exact h0
      | 1, hv => simp at hv; rw [← hv]; exact h1
      | 2, hv => simp at hv; rw [← hv]; exact h2
      | 3, hv => simp at hv; rw [← hv]; exact h3
      | j + 4, hv => simp at hv)
    exact this
  have e1 := Tryd.isAgg48
  have e2 := Tryd.sizeOf48
  unfold execOp
  simp only [ho, hx, Instr.loadAt, Instr.sureAddr, Sem.run_bind, Sem.run_pure, Result.andThen_ok]
  unfold loadVar
  simp only [Sem.run_bind, e1, e2, Result.andThen_ok, if_true, hl, Sem.run_pure]
  rfl
def tabB (k j : Nat) : Bool := decide (k = 9 ∧ 1 ≤ j ∧ j ≤ 4) || decide (k = 12 ∧ 5 ≤ j ∧ j ≤ 8) || decide (k = 13 ∧ j = 9) || decide (k = 14 ∧ 1 ≤ j ∧ j ≤ 3) || decide (k = 15 ∧ (j = 9 ∨ j = 10)) || decide (((1 ≤ k ∧ k ≤ 8) ∨ k = 10 ∨ k = 11) ∧ (j = 1 ∨ j = 2))
theorem calls_tab : ∀ k, k < 16 → (callsN k).all (tabB k) = true := by decide +kernel
theorem may_tab {k b : Int} (h : may k b = true) : (k = 9 ∧ 1 ≤ b ∧ b ≤ 4) ∨ (k = 12 ∧ 5 ≤ b ∧ b ≤ 8) ∨ (k = 13 ∧ b = 9) ∨ (k = 14 ∧ 1 ≤ b ∧ b ≤ 3) ∨ (k = 15 ∧ (b = 9 ∨ b = 10)) ∨ (((1 ≤ k ∧ k ≤ 8) ∨ k = 10 ∨ k = 11) ∧ (b = 1 ∨ b = 2)) := by
  unfold may at h
  rw [List.any_eq_true] at h
  obtain ⟨j, hj, e⟩ := h
  have e' : (j : Int) = b := by simpa using e
  have hk : 1 ≤ k ∧ k ≤ 15 := by
    by_cases hk : 1 ≤ k ∧ k ≤ 15
    · exact hk
    · unfold kdN at hj; rw [if_neg hk] at hj; cases hj
  have ek : kdN k = k.toNat := if_pos hk
  have ht := List.all_eq_true.1 (calls_tab _ (kdN_lt k)) j hj
  unfold tabB at ht
  simp only [Bool.or_eq_true, decide_eq_true_eq] at ht
  rw [ek] at ht
  omega
def kindP (s : St) (x : Ak) : Out :=
  if s.o.k = 6 ∨ s.o.k = 7 then duoP s x else if s.o.k = 11 then semP s x else if s.o.k = 12 then ⟨s, 0, true⟩
  else if s.o.k = 13 then barP s x.who.toNat x.part x.arg else if s.o.k = 14 then rwP s x.who.toNat x.call else if s.o.k = 15 then onceP s x else lockP s x
def goP (threads : Int) (s : St) (x : Ak) : Out :=
  if mayS s.o x.call threads x.who = true then (if s.o.k ≠ 13 ∧ x.part ≠ 0 then ⟨s, 0, false⟩ else kindP s x) else ⟨s, 0, false⟩
theorem mayS_t {o : O} {c t u : Int} (h : mayS o c t u = true) : 0 ≤ u ∧ u < t ∧ RP o t ∧ may o.k c = true := by
  unfold mayS at h
  split at h
  · rename_i hh; exact ⟨hh.1, hh.2.1, of_decide_eq_true hh.2.2, h⟩
  · cases h
/-- what is asked of Do -/
structure Mac (w : World) (bM g n cap : Nat) (threads : Int) (S : Nat → St) : Prop where
  mac : w.heap[bM]? = some (.cells #[.int .i64 threads, .slice (some ⟨g, 0, none⟩) n cap] 58 (0, 0))
  row : Row w g n S
  ne : bM ≠ g
  g0 : 0 < g
  names : NmW w
theorem nm_exc {g : Nat} {w w' : World} (h : NmW w) (E : Exc g w w') (g0 : 0 < g) : NmW w' := fun i hi => (World.cell?_of_block (E.blk 0 h.pos (by omega))).trans (h i hi)
set_option maxRecDepth 100000 in
set_option maxHeartbeats 8000000 in
theorem doC (S : Nat → St) (bM g n cap i : Nat) (threads : Int) (ht : threads ≤ 8) (hi : i < n) (x : Ak) (hxo : x.obj = i) (hxa : 0 ≤ x.arg ∧ x.arg < 4294967296) (h9 : (S i).o.k ≠ 9) (w0 : World) (hM : Mac w0 bM g n cap threads S) : Calls Tryd.prog 14 #[.pointer (some ⟨bM, 0, none⟩), akV x] w0 fun e w' => e = .returned (ansV (goP threads (S i) x).r none 0 0 (goP threads (S i) x).ok) ∧ Row w' g n (updS S i (goP threads (S i) x).s) ∧ Exc g w0 w' := by
  obtain ⟨p, hp⟩ : ∃ p, Hid (p = goP threads (S i) x) := ⟨_, rfl⟩
  rw [← hp.out]
  obtain ⟨x0, x1, x2, x3, x4, x5⟩ := x
  simp only at hxo hxa
  subst hxo
  have hR := hM.row
  have hi0 : (0 : Int) ≤ i := by omega
  have hi1 : (i : Int) < n := by omega
  unfold akV akC
  go_enter Tryd.func14, Tryd.ntmps14
  go_upto_region 1 with (fail)
  obtain ⟨W, b3, b4, e0, e1, e2, X3, X4, hal⟩ := box2 w0 #[.int .i64 x0, .int .i64 i, .int .i64 x2, .int .i64 x3, .int .u32 x4, .int .u32 x5] #[.int .u32 0, .slice none 0 0] 34 38
  rw [e0, e2, e1]
  have z3 : w0.heap.size ≤ b3 := Nat.le_of_eq e1
  have z4 : w0.heap.size ≤ b4 := by omega
  have hgl := hR.lt
  have hn3 : g ≠ b3 := by omega
  have hn4 : g ≠ b4 := by omega
  clear e0 e2 e1
  have R := hR.below hal
  have E : Exc g w0 W := Exc.of_below hal
  have XM := keep hM.mac hal
  clear hal
  go_upto_region 1 with (fail)
  refine quiet_all (fun w' => Below W.heap.size W w') (by kernel_rfl) (by kernel_rfl) (Below.drew (Below.refl _ _)) ?_
  refine q_run rfl (fun K hK => ?_)
  refine q_value ?_ (fun w' h' => ?_) ?_
  rotate_left
  · go_simp; try with_reducible rfl
  go_simp
  refine hK _ ?_
  clear hK K
  refine q_run rfl (fun K hK => ?_)
  refine q_value ?_ (fun w' h' => ?_) ?_
  rotate_left
  · have c := cell_of_row w' b3 1 _ 34 _ (keep X3 h'); go_simp; try with_reducible rfl
  go_simp
  refine hK _ ?_
  clear hK K
  refine q_run rfl (fun K hK => ?_)
  refine q_value ?_ (fun w' h' => ?_) ?_
  rotate_left
  · go_simp; try with_reducible rfl
  go_simp
  refine hK _ ?_
  clear hK K
  refine q_run rfl (fun K hK => ?_)
  refine q_value ?_ (fun w' h' => ?_) ?_
  rotate_left
  · go_simp; try with_reducible rfl
  go_simp
  refine hK _ ?_
  clear hK K
  refine q_run rfl (fun K hK => ?_)
  refine q_value ?_ (fun w' h' => ?_) ?_
  rotate_left
  · go_simp; try with_reducible rfl
  go_simp
  refine hK _ ?_
  clear hK K
  refine q_run rfl (fun K hK => ?_)
  refine q_value ?_ (fun w' h' => ?_) ?_
  rotate_left
  · have c := cell_of_row w' b3 1 _ 34 _ (keep X3 h'); go_simp; try with_reducible rfl
  go_simp
  refine hK _ ?_
  clear hK K
  refine q_run rfl (fun K hK => ?_)
  refine q_value ?_ (fun w' h' => ?_) ?_
  rotate_left
  · go_simp; try with_reducible rfl
  go_simp
  refine hK _ ?_
  clear hK K
  refine q_run rfl (fun K hK => ?_)
  refine q_value ?_ (fun w' h' => ?_) ?_
  rotate_left
  · go_simp; try with_reducible rfl
  go_simp
  refine hK _ ?_
  clear hK K
  refine q_run rfl (fun K hK => ?_)
  refine q_value ?_ (fun w' h' => ?_) ?_
  rotate_left
  · go_simp; try with_reducible rfl
  go_simp
  refine hK _ ?_
  clear hK K
  refine q_run rfl (fun K hK => ?_)
  refine q_value ?_ (fun w' h' => ?_) ?_
  rotate_left
  · have c := cell_of_row w' bM 1 _ 58 _ (keep XM h'); go_simp; try with_reducible rfl
  go_simp
  refine hK _ ?_
  clear hK K
  refine q_run rfl (fun K hK => ?_)
  refine q_value ?_ (fun w' h' => ?_) ?_
  rotate_left
  · go_simp; try with_reducible rfl
  go_simp
  refine hK _ ?_
  clear hK K
  refine q_run rfl (fun K hK => ?_)
  refine q_value ?_ (fun w' h' => ?_) ?_
  rotate_left
  · go_simp; try with_reducible rfl
  go_simp
  refine hK _ ?_
  clear hK K
  refine q_run rfl (fun K hK => ?_)
  refine q_value ?_ (fun w' h' => ?_) ?_
  rotate_left
  · go_simp; try with_reducible rfl
  go_simp
  refine hK _ ?_
  clear hK K
  refine qd_nil ?_
  intro w1 h2
  replace XM := keep XM h2
  replace X3 := keep X3 h2
  replace X4 := keep X4 h2
  replace R := R.below h2
  replace E := E.below h2
  clear h2
  go_upto_region 3 with (fail)
  refine quiet_all (fun w' => Below w1.heap.size w1 w') (by kernel_rfl) (by kernel_rfl) (Below.drew (Below.refl _ _)) ?_
  refine q_run rfl (fun K hK => ?_)
  refine q_value ?_ (fun w' h' => ?_) ?_
  rotate_left
  · go_simp; try with_reducible rfl
  go_simp
  refine hK _ ?_
  clear hK K
  refine q_run rfl (fun K hK => ?_)
  refine q_value ?_ (fun w' h' => ?_) ?_
  rotate_left
  · go_simp; try with_reducible rfl
  go_simp
  refine hK _ ?_
  clear hK K
  refine q_run rfl (fun K hK => ?_)
  refine q_value ?_ (fun w' h' => ?_) ?_
  rotate_left
  · go_simp; try with_reducible rfl
  go_simp
  refine hK _ ?_
  clear hK K
  refine q_run rfl (fun K hK => ?_)
  refine q_value ?_ (fun w' h' => ?_) ?_
  rotate_left
  · have c := cell_of_row w' bM 1 _ 58 _ (keep XM h'); go_simp; try with_reducible rfl
  go_simp
  refine hK _ ?_
  clear hK K
  refine q_run rfl (fun K hK => ?_)
  refine q_value ?_ (fun w' h' => ?_) ?_
  rotate_left
  · go_simp; try with_reducible rfl
  go_simp
  refine hK _ ?_
  clear hK K
  refine q_run rfl (fun K hK => ?_)
  refine q_value ?_ (fun w' h' => ?_) ?_
  rotate_left
  · have c := cell_of_row w' b3 1 _ 34 _ (keep X3 h'); go_simp; try with_reducible rfl
  go_simp
  refine hK _ ?_
  clear hK K
  refine q_run rfl (fun K hK => ?_)
  refine q_value (.pointer (some ⟨g, i * 38, none⟩)) (fun w' h' => by go_simp) ?_
  go_simp
  refine hK _ ?_
  clear hK K
  refine q_run rfl (fun K hK => ?_)
  refine q_value ?_ (fun w' h' => ?_) ?_
  rotate_left
  · go_simp; try with_reducible rfl
  go_simp
  refine hK _ ?_
  clear hK K
  refine qd_nil ?_
  intro w3 h4
  replace XM := keep XM h4
  replace X3 := keep X3 h4
  replace X4 := keep X4 h4
  replace R := R.below h4
  replace E := E.below h4
  clear h4
  obtain ⟨off, hoff⟩ : ∃ off, Hid (off = i * 38) := ⟨_, rfl⟩
  rw [← hoff.out]
  have hNm := nm_exc hM.names E hM.g0
  by_cases hmay : mayS (S i).o x2 threads x0 = true
  · obtain ⟨hw0, hw1, hRP, hmy⟩ := mayS_t hmay
    have htab := may_tab hmy
    have hp1 : Hid (p = if (S i).o.k ≠ 13 ∧ x3 ≠ 0 then ⟨S i, 0, false⟩ else kindP (S i) ⟨x0, i, x2, x3, x4, x5⟩) := by
      show p = _
      rw [hp.out]; unfold goP; rw [if_pos hmay]
    clear hp
    have qc4 : (x2 == 4) = false := by simp; omega
    go_upto_region 4 with (fail)
    refine quiet_all (fun w' => Below w3.heap.size w3 w') (by kernel_rfl) (by kernel_rfl) (Below.drew (Below.refl _ _)) ?_
    refine q_run rfl (fun K hK => ?_)
    refine q_value ?_ (fun w' h' => ?_) ?_
    rotate_left
    · go_simp; try with_reducible rfl
    go_simp
    refine hK _ ?_
    clear hK K
    refine q_run rfl (fun K hK => ?_)
    refine q_value ?_ (fun w' h' => ?_) ?_
    rotate_left
    · go_simp; try with_reducible rfl
    go_simp
    refine hK _ ?_
    clear hK K
    refine q_run rfl (fun K hK => ?_)
    refine q_value ?_ (fun w' h' => ?_) ?_
    rotate_left
    · go_simp; try with_reducible rfl
    go_simp
    refine hK _ ?_
    clear hK K
    refine q_run rfl (fun K hK => ?_)
    refine q_value (ov (S i).o) (fun w' h' => run_ldo (.tmp 32) rfl (R.below h') hi hoff.out rfl) ?_
    go_simp
    refine hK _ ?_
    clear hK K
    refine q_run rfl (fun K hK => ?_)
    refine q_value ?_ (fun w' h' => ?_) ?_
    rotate_left
    · go_simp; try with_reducible rfl
    go_simp
    refine hK _ ?_
    clear hK K
    refine q_run rfl (fun K hK => ?_)
    refine q_value ?_ (fun w' h' => ?_) ?_
    rotate_left
    · have c := cell_of_row w' b3 2 _ 34 _ (keep X3 h'); go_simp; try with_reducible rfl
    go_simp
    refine hK _ ?_
    clear hK K
    refine q_run rfl (fun K hK => ?_)
    refine q_value ?_ (fun w' h' => ?_) ?_
    rotate_left
    · go_simp; try with_reducible rfl
    go_simp
    refine hK _ ?_
    clear hK K
    refine q_run rfl (fun K hK => ?_)
    refine q_value ?_ (fun w' h' => ?_) ?_
    rotate_left
    · go_simp; try with_reducible rfl
    go_simp
    refine hK _ ?_
    clear hK K
    refine q_run rfl (fun K hK => ?_)
    refine q_value ?_ (fun w' h' => ?_) ?_
    rotate_left
    · go_simp; try with_reducible rfl
    go_simp
    refine hK _ ?_
    clear hK K
    refine q_run rfl (fun K hK => ?_)
    refine q_value ?_ (fun w' h' => ?_) ?_
    rotate_left
    · have c := cell_of_row w' bM 0 _ 58 _ (keep XM h'); go_simp; try with_reducible rfl
    go_simp
    refine hK _ ?_
    clear hK K
    refine q_run rfl (fun K hK => ?_)
    refine q_value ?_ (fun w' h' => ?_) ?_
    rotate_left
    · go_simp; try with_reducible rfl
    go_simp
    refine hK _ ?_
    clear hK K
    refine q_run rfl (fun K hK => ?_)
    refine q_value ?_ (fun w' h' => ?_) ?_
    rotate_left
    · have c := cell_of_row w' b3 0 _ 34 _ (keep X3 h'); go_simp; try with_reducible rfl
    go_simp
    refine hK _ ?_
    clear hK K
    refine q_run rfl (fun K hK => ?_)
    refine q_enter 19 #[ov (S i).o, .int .i64 x2, .int .i64 threads, .int .i64 x0] (.bool true) (fun w' => by first | (go_simp; done) | (go_simp; rfl)) (fun w' h' => by
      have hs := spinMay (S i).o x2 threads x0 w' (hNm.below h')
      rw [hmay] at hs
      exact hs.mono fun e w'' hh => ⟨hh.1, Below.trans h' (hh.2.mono (Below.size h'))⟩) ?_
    go_simp
    refine hK _ ?_
    clear hK K
    refine q_run rfl (fun K hK => ?_)
    refine q_value ?_ (fun w' h' => ?_) ?_
    rotate_left
    · go_simp; try with_reducible rfl
    go_simp
    refine hK _ ?_
    clear hK K
    refine q_run rfl (fun K hK => ?_)
    refine q_value ?_ (fun w' h' => ?_) ?_
    rotate_left
    · go_simp; try with_reducible rfl
    go_simp
    refine hK _ ?_
    clear hK K
    refine q_run rfl (fun K hK => ?_)
    refine q_value ?_ (fun w' h' => ?_) ?_
    rotate_left
    · go_simp; try with_reducible rfl
    go_simp
    refine hK _ ?_
    clear hK K
    refine q_run rfl (fun K hK => ?_)
    refine q_value ?_ (fun w' h' => ?_) ?_
    rotate_left
    · have c := cell_of_row w' b3 2 _ 34 _ (keep X3 h'); go_simp; try with_reducible rfl
    go_simp
    refine hK _ ?_
    clear hK K
    refine q_run rfl (fun K hK => ?_)
    refine q_value ?_ (fun w' h' => ?_) ?_
    rotate_left
    · go_simp; try with_reducible rfl
    go_simp
    refine hK _ ?_
    clear hK K
    refine q_run rfl (fun K hK => ?_)
    refine q_value ?_ (fun w' h' => ?_) ?_
    rotate_left
    · go_simp; try with_reducible rfl
    go_simp
    refine hK _ ?_
    clear hK K
    refine q_skip rfl (fun K hK => ?_)
    go_simp
    refine hK _ ?_
    clear hK K
    refine q_skip rfl (fun K hK => ?_)
    go_simp
    refine hK _ ?_
    clear hK K
    refine q_skip rfl (fun K hK => ?_)
    go_simp
    refine hK _ ?_
    clear hK K
    refine q_skip rfl (fun K hK => ?_)
    go_simp
    refine hK _ ?_
    clear hK K
    refine q_skip rfl (fun K hK => ?_)
    go_simp
    refine hK _ ?_
    clear hK K
    refine q_skip rfl (fun K hK => ?_)
    go_simp
    refine hK _ ?_
    clear hK K
    refine q_skip rfl (fun K hK => ?_)
    go_simp
    refine hK _ ?_
    clear hK K
    refine q_skip rfl (fun K hK => ?_)
    go_simp
    refine hK _ ?_
    clear hK K
    refine q_skip rfl (fun K hK => ?_)
    go_simp
    refine hK _ ?_
    clear hK K
    refine q_skip rfl (fun K hK => ?_)
    go_simp
    refine hK _ ?_
    clear hK K
    refine q_run rfl (fun K hK => ?_)
    refine q_value ?_ (fun w' h' => ?_) ?_
    rotate_left
    · go_simp; try with_reducible rfl
    go_simp
    refine hK _ ?_
    clear hK K
    refine q_run rfl (fun K hK => ?_)
    refine q_value ?_ (fun w' h' => ?_) ?_
    rotate_left
    · go_simp; try with_reducible rfl
    go_simp
    refine hK _ ?_
    clear hK K
    refine qd_nil ?_
    intro w5 h6
    replace XM := keep XM h6
    replace X3 := keep X3 h6
    replace X4 := keep X4 h6
    replace R := R.below h6
    replace E := E.below h6
    clear h6
    clear hmay hmy qc4
    have hbar : (S i).o.k = 13 → 0 ≤ (S i).o.n ∧ (S i).o.n ≤ 8 := fun e => by
      obtain ⟨r1, r2, r3⟩ := hRP
      omega
    clear hRP
    by_cases cp : (S i).o.k ≠ 13 ∧ x3 ≠ 0
    · obtain rfl : p = ⟨S i, 0, false⟩ := by rw [hp1.out, if_pos cp]
      clear hp1
      have yk := R.kd hi hoff.out
      have y3 := cell_of_row w5 b3 3 _ 34 _ X3
      have q13 : ((S i).o.k != 13) = true := by simp [cp.1]
      have qp : (x3 != 0) = true := by simp [cp.2]
      clear cp
      go_upto_region 7 with (fail)
      refine wp_region_lit ?_
      refine wl_call rfl 18 #[] (ansV 0 none 0 0 false) _ ?_ (notC w5) (fun w7 hd => ?_)
      · first | (go_simp; done) | (go_simp; rfl)
      intro K hK
      go_simp
      refine hK _ _ ?_
      clear hK K
      unfold ansV
      iterate 2
        refine wl_val rfl ?_ ?_ ?_
        rotate_left
        · go_simp; try with_reducible rfl
        intro K hK
        go_simp
        refine hK _ _ ?_
        clear hK K
      refine wl_store rfl 38 (.tmp 4) (.tmp 76) rfl b4 #[.int .u32 0, .slice none 0 0] rfl rfl 38 _ (keep X4 hd) (by kernel_rfl) rfl (by simp [Value.oneCell']) (fun w8 m1 m2 m3 m4 => ?_)
      intro K hK
      go_simp
      refine hK _ _ ?_
      clear hK K
      refine wl_val rfl (.bool false) ?_ ?_
      · go_simp
      intro K hK
      go_simp
      refine hK _ _ ?_
      clear hK K
      have Rf := (R.below hd).keep (m2 g hn4)
      have Ef := (E.below hd).put z4 m2 m3
      go_wp2
      exact ret_ans rfl b4 _ _ _ _ _ rfl rfl rfl m1 ⟨rfl, by rw [updS_same]; exact Rf, Ef⟩
    · by_cases c13 : (S i).o.k = 13
      · by_cases e13 : (S i).o.k = 13
        · obtain ⟨q, rfl⟩ : ∃ q : Nat, x0 = q := ⟨x0.toNat, by omega⟩
          have hq : q < 8 := by omega
          obtain rfl : p = barP (S i) q x3 x4 := by
            rw [hp1.out, if_neg cp]; unfold kindP; rw [if_neg (show ¬ ((S i).o.k = 6 ∨ (S i).o.k = 7) by omega), if_neg (show ¬ (S i).o.k = 11 by omega), if_neg (show ¬ (S i).o.k = 12 by omega), if_pos e13]; simp only [Int.toNat_natCast]
          clear hp1
          have yk := R.kd hi hoff.out
          rw [e13] at yk
          have y3 := cell_of_row w5 b3 3 _ 34 _ X3
          go_upto_region 19 with (fail)
          refine wp_region_lit ?_
          iterate 1
            refine wl_val rfl ?_ ?_ ?_
            rotate_left
            · go_simp; try with_reducible rfl
            intro K hK
            go_simp
            refine hK _ _ ?_
            clear hK K
          refine wl_load rfl 34 (.tmp 3) rfl _ rfl _ _ _ _ X3 Tryd.underlying34 rfl (by kernel_rfl) ?_
          intro K hK
          go_simp
          refine hK _ _ ?_
          clear hK K
          refine wl_call rfl 24 #[.pointer (some ⟨g, off, none⟩), akV ⟨(q : Int), i, x2, x3, x4, x5⟩] (ansV (barP (S i) q x3 x4).r none 0 0 (barP (S i) q x3 x4).ok) _ ?_ (barC S g n i off hi hoff q hq (i : Int) x2 x3 x4 x5 (hbar e13) hxa w5 R) (fun w13 hd => ?_)
          · unfold akV akC; first | (go_simp; done) | (go_simp; rfl)
          intro K hK
          go_simp
          refine hK _ _ ?_
          clear hK K
          have Rd := hd.1
          have Ed := E.trans hd.2
          have X4d := (hd.2.blk b4 (blk_lt X4) (fun e => hn4 e.symm)).trans X4
          clear hd
          unfold ansV
          iterate 2
            refine wl_val rfl ?_ ?_ ?_
            rotate_left
            · go_simp; try with_reducible rfl
            intro K hK
            go_simp
            refine hK _ _ ?_
            clear hK K
          refine wl_store rfl 38 (.tmp 4) (.tmp 117) rfl b4 #[.int .u32 (barP (S i) q x3 x4).r, .slice none 0 0] rfl rfl 38 _ X4d (by kernel_rfl) rfl (by simp [Value.oneCell']) (fun w14 m1 m2 m3 m4 => ?_)
          intro K hK
          go_simp
          refine hK _ _ ?_
          clear hK K
          refine wl_val rfl (.bool (barP (S i) q x3 x4).ok) ?_ ?_
          · go_simp
          intro K hK
          go_simp
          refine hK _ _ ?_
          clear hK K
          have Rf := Rd.keep (m2 g hn4)
          have Ef := Ed.put z4 m2 m3
          go_wp2
          exact ret_ans rfl b4 _ _ _ _ _ rfl rfl rfl m1 ⟨rfl, Rf, Ef⟩
        exact absurd c13 e13
      · have hp3 : x3 = 0 := by
          by_cases h : x3 = 0
          · exact h
          · exact absurd ⟨c13, h⟩ cp
        subst hp3
        by_cases e6 : (S i).o.k = 6
        · obtain rfl : p = duoP (S i) ⟨x0, i, x2, 0, x4, x5⟩ := by
            rw [hp1.out, if_neg cp]; unfold kindP; rw [if_pos (.inl e6)]
          clear hp1
          have yk := R.kd hi hoff.out
          rw [e6] at yk
          have y3 := cell_of_row w5 b3 3 _ 34 _ X3
          go_upto_region 11 with (fail)
          refine wp_region_lit ?_
          iterate 1
            refine wl_val rfl ?_ ?_ ?_
            rotate_left
            · go_simp; try with_reducible rfl
            intro K hK
            go_simp
            refine hK _ _ ?_
            clear hK K
          refine wl_load rfl 34 (.tmp 3) rfl _ rfl _ _ _ _ X3 Tryd.underlying34 rfl (by kernel_rfl) ?_
          intro K hK
          go_simp
          refine hK _ _ ?_
          clear hK K
          refine wl_call rfl 20 #[.pointer (some ⟨g, off, none⟩), akV ⟨x0, i, x2, 0, x4, x5⟩] (ansV (duoP (S i) ⟨x0, i, x2, 0, x4, x5⟩).r none 0 0 (duoP (S i) ⟨x0, i, x2, 0, x4, x5⟩).ok) _ ?_ (duoC S g n i off hi hoff ⟨x0, i, x2, 0, x4, x5⟩ w5 R) (fun w17 hd => ?_)
          · unfold akV akC; first | (go_simp; done) | (go_simp; rfl)
          intro K hK
          go_simp
          refine hK _ _ ?_
          clear hK K
          have Rd := hd.1
          have Ed := E.trans hd.2
          have X4d := (hd.2.blk b4 (blk_lt X4) (fun e => hn4 e.symm)).trans X4
          clear hd
          unfold ansV
          iterate 2
            refine wl_val rfl ?_ ?_ ?_
            rotate_left
            · go_simp; try with_reducible rfl
            intro K hK
            go_simp
            refine hK _ _ ?_
            clear hK K
          refine wl_store rfl 38 (.tmp 4) (.tmp 89) rfl b4 #[.int .u32 (duoP (S i) ⟨x0, i, x2, 0, x4, x5⟩).r, .slice none 0 0] rfl rfl 38 _ X4d (by kernel_rfl) rfl (by simp [Value.oneCell']) (fun w18 m1 m2 m3 m4 => ?_)
          intro K hK
          go_simp
          refine hK _ _ ?_
          clear hK K
          refine wl_val rfl (.bool (duoP (S i) ⟨x0, i, x2, 0, x4, x5⟩).ok) ?_ ?_
          · go_simp
          intro K hK
          go_simp
          refine hK _ _ ?_
          clear hK K
          have Rf := Rd.keep (m2 g hn4)
          have Ef := Ed.put z4 m2 m3
          go_wp2
          exact ret_ans rfl b4 _ _ _ _ _ rfl rfl rfl m1 ⟨rfl, Rf, Ef⟩
        by_cases e7 : (S i).o.k = 7
        · obtain rfl : p = duoP (S i) ⟨x0, i, x2, 0, x4, x5⟩ := by
            rw [hp1.out, if_neg cp]; unfold kindP; rw [if_pos (.inr e7)]
          clear hp1
          have yk := R.kd hi hoff.out
          rw [e7] at yk
          have y3 := cell_of_row w5 b3 3 _ 34 _ X3
          go_upto_region 11 with (fail)
          refine wp_region_lit ?_
          iterate 1
            refine wl_val rfl ?_ ?_ ?_
            rotate_left
            · go_simp; try with_reducible rfl
            intro K hK
            go_simp
            refine hK _ _ ?_
            clear hK K
          refine wl_load rfl 34 (.tmp 3) rfl _ rfl _ _ _ _ X3 Tryd.underlying34 rfl (by kernel_rfl) ?_
          intro K hK
          go_simp
          refine hK _ _ ?_
          clear hK K
          refine wl_call rfl 20 #[.pointer (some ⟨g, off, none⟩), akV ⟨x0, i, x2, 0, x4, x5⟩] (ansV (duoP (S i) ⟨x0, i, x2, 0, x4, x5⟩).r none 0 0 (duoP (S i) ⟨x0, i, x2, 0, x4, x5⟩).ok) _ ?_ (duoC S g n i off hi hoff ⟨x0, i, x2, 0, x4, x5⟩ w5 R) (fun w19 hd => ?_)
          · unfold akV akC; first | (go_simp; done) | (go_simp; rfl)
          intro K hK
          go_simp
          refine hK _ _ ?_
          clear hK K
          have Rd := hd.1
          have Ed := E.trans hd.2
          have X4d := (hd.2.blk b4 (blk_lt X4) (fun e => hn4 e.symm)).trans X4
          clear hd
          unfold ansV
          iterate 2
            refine wl_val rfl ?_ ?_ ?_
            rotate_left
            · go_simp; try with_reducible rfl
            intro K hK
            go_simp
            refine hK _ _ ?_
            clear hK K
          refine wl_store rfl 38 (.tmp 4) (.tmp 89) rfl b4 #[.int .u32 (duoP (S i) ⟨x0, i, x2, 0, x4, x5⟩).r, .slice none 0 0] rfl rfl 38 _ X4d (by kernel_rfl) rfl (by simp [Value.oneCell']) (fun w20 m1 m2 m3 m4 => ?_)
          intro K hK
          go_simp
          refine hK _ _ ?_
          clear hK K
          refine wl_val rfl (.bool (duoP (S i) ⟨x0, i, x2, 0, x4, x5⟩).ok) ?_ ?_
          · go_simp
          intro K hK
          go_simp
          refine hK _ _ ?_
          clear hK K
          have Rf := Rd.keep (m2 g hn4)
          have Ef := Ed.put z4 m2 m3
          go_wp2
          exact ret_ans rfl b4 _ _ _ _ _ rfl rfl rfl m1 ⟨rfl, Rf, Ef⟩
        by_cases e11 : (S i).o.k = 11
        · obtain rfl : p = semP (S i) ⟨x0, i, x2, 0, x4, x5⟩ := by
            rw [hp1.out, if_neg cp]; unfold kindP; rw [if_neg (show ¬ ((S i).o.k = 6 ∨ (S i).o.k = 7) by omega), if_pos e11]
          clear hp1
          have yk := R.kd hi hoff.out
          rw [e11] at yk
          have y3 := cell_of_row w5 b3 3 _ 34 _ X3
          go_upto_region 15 with (fail)
          refine wp_region_lit ?_
          iterate 1
            refine wl_val rfl ?_ ?_ ?_
            rotate_left
            · go_simp; try with_reducible rfl
            intro K hK
            go_simp
            refine hK _ _ ?_
            clear hK K
          refine wl_load rfl 34 (.tmp 3) rfl _ rfl _ _ _ _ X3 Tryd.underlying34 rfl (by kernel_rfl) ?_
          intro K hK
          go_simp
          refine hK _ _ ?_
          clear hK K
          refine wl_call rfl 22 #[.pointer (some ⟨g, off, none⟩), akV ⟨x0, i, x2, 0, x4, x5⟩] (ansV (semP (S i) ⟨x0, i, x2, 0, x4, x5⟩).r none 0 0 (semP (S i) ⟨x0, i, x2, 0, x4, x5⟩).ok) _ ?_ (semC S g n i off hi hoff ⟨x0, i, x2, 0, x4, x5⟩ w5 R) (fun w21 hd => ?_)
          · unfold akV akC; first | (go_simp; done) | (go_simp; rfl)
          intro K hK
          go_simp
          refine hK _ _ ?_
          clear hK K
          have Rd := hd.1
          have Ed := E.trans hd.2
          have X4d := (hd.2.blk b4 (blk_lt X4) (fun e => hn4 e.symm)).trans X4
          clear hd
          unfold ansV
          iterate 2
            refine wl_val rfl ?_ ?_ ?_
            rotate_left
            · go_simp; try with_reducible rfl
            intro K hK
            go_simp
            refine hK _ _ ?_
            clear hK K
          refine wl_store rfl 38 (.tmp 4) (.tmp 103) rfl b4 #[.int .u32 (semP (S i) ⟨x0, i, x2, 0, x4, x5⟩).r, .slice none 0 0] rfl rfl 38 _ X4d (by kernel_rfl) rfl (by simp [Value.oneCell']) (fun w22 m1 m2 m3 m4 => ?_)
          intro K hK
          go_simp
          refine hK _ _ ?_
          clear hK K
          refine wl_val rfl (.bool (semP (S i) ⟨x0, i, x2, 0, x4, x5⟩).ok) ?_ ?_
          · go_simp
          intro K hK
          go_simp
          refine hK _ _ ?_
          clear hK K
          have Rf := Rd.keep (m2 g hn4)
          have Ef := Ed.put z4 m2 m3
          go_wp2
          exact ret_ans rfl b4 _ _ _ _ _ rfl rfl rfl m1 ⟨rfl, Rf, Ef⟩
        by_cases e12 : (S i).o.k = 12
        · obtain rfl : p = (⟨S i, 0, true⟩ : Out) := by
            rw [hp1.out, if_neg cp]; unfold kindP; rw [if_neg (show ¬ ((S i).o.k = 6 ∨ (S i).o.k = 7) by omega), if_neg (show ¬ (S i).o.k = 11 by omega), if_pos e12]
          clear hp1
          have yk := R.kd hi hoff.out
          rw [e12] at yk
          have y3 := cell_of_row w5 b3 3 _ 34 _ X3
          go_upto_region 17 with (fail)
          refine wp_region_lit ?_
          iterate 1
            refine wl_val rfl ?_ ?_ ?_
            rotate_left
            · go_simp; try with_reducible rfl
            intro K hK
            go_simp
            refine hK _ _ ?_
            clear hK K
          refine wl_load rfl 34 (.tmp 3) rfl _ rfl _ _ _ _ X3 Tryd.underlying34 rfl (by kernel_rfl) ?_
          intro K hK
          go_simp
          refine hK _ _ ?_
          clear hK K
          refine wl_call rfl 23 #[.pointer (some ⟨g, off, none⟩), akV ⟨x0, i, x2, 0, x4, x5⟩] (ansV ((⟨S i, 0, true⟩ : Out)).r none 0 0 ((⟨S i, 0, true⟩ : Out)).ok) _ ?_ (condC S g n i off hi hoff ⟨x0, i, x2, 0, x4, x5⟩ w5 R) (fun w23 hd => ?_)
          · unfold akV akC; first | (go_simp; done) | (go_simp; rfl)
          intro K hK
          go_simp
          refine hK _ _ ?_
          clear hK K
          have Rd := hd.1
          have Ed := E.trans hd.2
          have X4d := (hd.2.blk b4 (blk_lt X4) (fun e => hn4 e.symm)).trans X4
          clear hd
          unfold ansV
          iterate 2
            refine wl_val rfl ?_ ?_ ?_
            rotate_left
            · go_simp; try with_reducible rfl
            intro K hK
            go_simp
            refine hK _ _ ?_
            clear hK K
          refine wl_store rfl 38 (.tmp 4) (.tmp 110) rfl b4 #[.int .u32 ((⟨S i, 0, true⟩ : Out)).r, .slice none 0 0] rfl rfl 38 _ X4d (by kernel_rfl) rfl (by simp [Value.oneCell']) (fun w24 m1 m2 m3 m4 => ?_)
          intro K hK
          go_simp
          refine hK _ _ ?_
          clear hK K
          refine wl_val rfl (.bool ((⟨S i, 0, true⟩ : Out)).ok) ?_ ?_
          · go_simp
          intro K hK
          go_simp
          refine hK _ _ ?_
          clear hK K
          have Rf := Rd.keep (m2 g hn4)
          have Ef := Ed.put z4 m2 m3
          go_wp2
          exact ret_ans rfl b4 _ _ _ _ _ rfl rfl rfl m1 ⟨rfl, Rf, Ef⟩
        by_cases e14 : (S i).o.k = 14
        · obtain ⟨q, rfl⟩ : ∃ q : Nat, x0 = q := ⟨x0.toNat, by omega⟩
          have hq : q < 8 := by omega
          obtain rfl : p = rwP (S i) q x2 := by
            rw [hp1.out, if_neg cp]; unfold kindP; rw [if_neg (show ¬ ((S i).o.k = 6 ∨ (S i).o.k = 7) by omega), if_neg (show ¬ (S i).o.k = 11 by omega), if_neg (show ¬ (S i).o.k = 12 by omega), if_neg (show ¬ (S i).o.k = 13 by omega), if_pos e14]; simp only [Int.toNat_natCast]
          clear hp1
          have yk := R.kd hi hoff.out
          rw [e14] at yk
          have y3 := cell_of_row w5 b3 3 _ 34 _ X3
          go_upto_region 21 with (fail)
          refine wp_region_lit ?_
          iterate 1
            refine wl_val rfl ?_ ?_ ?_
            rotate_left
            · go_simp; try with_reducible rfl
            intro K hK
            go_simp
            refine hK _ _ ?_
            clear hK K
          refine wl_load rfl 34 (.tmp 3) rfl _ rfl _ _ _ _ X3 Tryd.underlying34 rfl (by kernel_rfl) ?_
          intro K hK
          go_simp
          refine hK _ _ ?_
          clear hK K
          refine wl_call rfl 25 #[.pointer (some ⟨g, off, none⟩), akV ⟨(q : Int), i, x2, 0, x4, x5⟩] (ansV (rwP (S i) q x2).r none 0 0 (rwP (S i) q x2).ok) _ ?_ (rwC S g n i off hi hoff q hq (i : Int) x2 0 x4 x5 w5 R) (fun w25 hd => ?_)
          · unfold akV akC; first | (go_simp; done) | (go_simp; rfl)
          intro K hK
          go_simp
          refine hK _ _ ?_
          clear hK K
          have Rd := hd.1
          have Ed := E.trans hd.2
          have X4d := (hd.2.blk b4 (blk_lt X4) (fun e => hn4 e.symm)).trans X4
          clear hd
          unfold ansV
          iterate 2
            refine wl_val rfl ?_ ?_ ?_
            rotate_left
            · go_simp; try with_reducible rfl
            intro K hK
            go_simp
            refine hK _ _ ?_
            clear hK K
          refine wl_store rfl 38 (.tmp 4) (.tmp 124) rfl b4 #[.int .u32 (rwP (S i) q x2).r, .slice none 0 0] rfl rfl 38 _ X4d (by kernel_rfl) rfl (by simp [Value.oneCell']) (fun w26 m1 m2 m3 m4 => ?_)
          intro K hK
          go_simp
          refine hK _ _ ?_
          clear hK K
          refine wl_val rfl (.bool (rwP (S i) q x2).ok) ?_ ?_
          · go_simp
          intro K hK
          go_simp
          refine hK _ _ ?_
          clear hK K
          have Rf := Rd.keep (m2 g hn4)
          have Ef := Ed.put z4 m2 m3
          go_wp2
          exact ret_ans rfl b4 _ _ _ _ _ rfl rfl rfl m1 ⟨rfl, Rf, Ef⟩
        by_cases e15 : (S i).o.k = 15
        · obtain rfl : p = onceP (S i) ⟨x0, i, x2, 0, x4, x5⟩ := by
            rw [hp1.out, if_neg cp]; unfold kindP; rw [if_neg (show ¬ ((S i).o.k = 6 ∨ (S i).o.k = 7) by omega), if_neg (show ¬ (S i).o.k = 11 by omega), if_neg (show ¬ (S i).o.k = 12 by omega), if_neg (show ¬ (S i).o.k = 13 by omega), if_neg (show ¬ (S i).o.k = 14 by omega), if_pos e15]
          clear hp1
          have yk := R.kd hi hoff.out
          rw [e15] at yk
          have y3 := cell_of_row w5 b3 3 _ 34 _ X3
          go_upto_region 23 with (fail)
          refine wp_region_lit ?_
          iterate 1
            refine wl_val rfl ?_ ?_ ?_
            rotate_left
            · go_simp; try with_reducible rfl
            intro K hK
            go_simp
            refine hK _ _ ?_
            clear hK K
          refine wl_load rfl 34 (.tmp 3) rfl _ rfl _ _ _ _ X3 Tryd.underlying34 rfl (by kernel_rfl) ?_
          intro K hK
          go_simp
          refine hK _ _ ?_
          clear hK K
          refine wl_call rfl 26 #[.pointer (some ⟨g, off, none⟩), akV ⟨x0, i, x2, 0, x4, x5⟩] (ansV (onceP (S i) ⟨x0, i, x2, 0, x4, x5⟩).r none 0 0 (onceP (S i) ⟨x0, i, x2, 0, x4, x5⟩).ok) _ ?_ (onceC S g n i off hi hoff ⟨x0, i, x2, 0, x4, x5⟩ w5 R) (fun w27 hd => ?_)
          · unfold akV akC; first | (go_simp; done) | (go_simp; rfl)
          intro K hK
          go_simp
          refine hK _ _ ?_
          clear hK K
          have Rd := hd.1
          have Ed := E.trans hd.2
          have X4d := (hd.2.blk b4 (blk_lt X4) (fun e => hn4 e.symm)).trans X4
          clear hd
          unfold ansV
          iterate 2
            refine wl_val rfl ?_ ?_ ?_
            rotate_left
            · go_simp; try with_reducible rfl
            intro K hK
            go_simp
            refine hK _ _ ?_
            clear hK K
          refine wl_store rfl 38 (.tmp 4) (.tmp 131) rfl b4 #[.int .u32 (onceP (S i) ⟨x0, i, x2, 0, x4, x5⟩).r, .slice none 0 0] rfl rfl 38 _ X4d (by kernel_rfl) rfl (by simp [Value.oneCell']) (fun w28 m1 m2 m3 m4 => ?_)
          intro K hK
          go_simp
          refine hK _ _ ?_
          clear hK K
          refine wl_val rfl (.bool (onceP (S i) ⟨x0, i, x2, 0, x4, x5⟩).ok) ?_ ?_
          · go_simp
          intro K hK
          go_simp
          refine hK _ _ ?_
          clear hK K
          have Rf := Rd.keep (m2 g hn4)
          have Ef := Ed.put z4 m2 m3
          go_wp2
          exact ret_ans rfl b4 _ _ _ _ _ rfl rfl rfl m1 ⟨rfl, Rf, Ef⟩
        obtain rfl : p = lockP (S i) ⟨x0, i, x2, 0, x4, x5⟩ := by
          rw [hp1.out, if_neg cp]; unfold kindP
          rw [if_neg (show ¬ ((S i).o.k = 6 ∨ (S i).o.k = 7) by omega), if_neg (show ¬ (S i).o.k = 11 by omega), if_neg (show ¬ (S i).o.k = 12 by omega), if_neg (show ¬ (S i).o.k = 13 by omega), if_neg (show ¬ (S i).o.k = 14 by omega), if_neg (show ¬ (S i).o.k = 15 by omega)]
        clear hp1
        have yk := R.kd hi hoff.out
        have y3 := cell_of_row w5 b3 3 _ 34 _ X3
        have q6 : ((S i).o.k == 6) = false := by simp; omega
        have q7 : ((S i).o.k == 7) = false := by simp; omega
        have q9 : ((S i).o.k == 9) = false := by simp; omega
        have q11 : ((S i).o.k == 11) = false := by simp; omega
        have q12 : ((S i).o.k == 12) = false := by simp; omega
        have q13 : ((S i).o.k == 13) = false := by simp; omega
        have q14 : ((S i).o.k == 14) = false := by simp; omega
        have q15 : ((S i).o.k == 15) = false := by simp; omega
        have q13' : ((S i).o.k != 13) = true := by simp; omega
        clear htab hbar h9 e6 e7 e11 e12 e14 e15 c13
        go_upto_region 24 with (fail)
        refine wp_region_lit ?_
        iterate 1
          refine wl_val rfl ?_ ?_ ?_
          rotate_left
          · go_simp; try with_reducible rfl
          intro K hK
          go_simp
          refine hK _ _ ?_
          clear hK K
        refine wl_load rfl 34 (.tmp 3) rfl _ rfl _ _ _ _ X3 Tryd.underlying34 rfl (by kernel_rfl) ?_
        intro K hK
        go_simp
        refine hK _ _ ?_
        clear hK K
        refine wl_call rfl 27 #[.pointer (some ⟨g, off, none⟩), akV ⟨x0, i, x2, 0, x4, x5⟩] (ansV (lockP (S i) ⟨x0, i, x2, 0, x4, x5⟩).r none 0 0 (lockP (S i) ⟨x0, i, x2, 0, x4, x5⟩).ok) _ ?_ (lockC S g n i off hi hoff ⟨x0, i, x2, 0, x4, x5⟩ w5 R) (fun w29 hd => ?_)
        · unfold akV akC; first | (go_simp; done) | (go_simp; rfl)
        intro K hK
        go_simp
        refine hK _ _ ?_
        clear hK K
        have Rd := hd.1
        have Ed := E.trans hd.2
        have X4d := (hd.2.blk b4 (blk_lt X4) (fun e => hn4 e.symm)).trans X4
        clear hd
        unfold ansV
        iterate 2
          refine wl_val rfl ?_ ?_ ?_
          rotate_left
          · go_simp; try with_reducible rfl
          intro K hK
          go_simp
          refine hK _ _ ?_
          clear hK K
        refine wl_store rfl 38 (.tmp 4) (.tmp 136) rfl b4 #[.int .u32 (lockP (S i) ⟨x0, i, x2, 0, x4, x5⟩).r, .slice none 0 0] rfl rfl 38 _ X4d (by kernel_rfl) rfl (by simp [Value.oneCell']) (fun w30 m1 m2 m3 m4 => ?_)
        intro K hK
        go_simp
        refine hK _ _ ?_
        clear hK K
        refine wl_val rfl (.bool (lockP (S i) ⟨x0, i, x2, 0, x4, x5⟩).ok) ?_ ?_
        · go_simp
        intro K hK
        go_simp
        refine hK _ _ ?_
        clear hK K
        have Rf := Rd.keep (m2 g hn4)
        have Ef := Ed.put z4 m2 m3
        go_wp2
        exact ret_ans rfl b4 _ _ _ _ _ rfl rfl rfl m1 ⟨rfl, Rf, Ef⟩
  · have hmay := Bool.eq_false_iff.2 hmay
    obtain rfl : p = ⟨S i, 0, false⟩ := by
      rw [hp.out]; unfold goP; rw [if_neg (by rw [hmay]; exact Bool.false_ne_true)]
    clear hp
    go_upto_region 4 with (fail)
    refine quiet_all (fun w' => Below w3.heap.size w3 w') (by kernel_rfl) (by kernel_rfl) (Below.drew (Below.refl _ _)) ?_
    refine q_run rfl (fun K hK => ?_)
    refine q_value ?_ (fun w' h' => ?_) ?_
    rotate_left
    · go_simp; try with_reducible rfl
    go_simp
    refine hK _ ?_
    clear hK K
    refine q_run rfl (fun K hK => ?_)
    refine q_value ?_ (fun w' h' => ?_) ?_
    rotate_left
    · go_simp; try with_reducible rfl
    go_simp
    refine hK _ ?_
    clear hK K
    refine q_run rfl (fun K hK => ?_)
    refine q_value ?_ (fun w' h' => ?_) ?_
    rotate_left
    · go_simp; try with_reducible rfl
    go_simp
    refine hK _ ?_
    clear hK K
    refine q_run rfl (fun K hK => ?_)
    refine q_value (ov (S i).o) (fun w' h' => run_ldo (.tmp 32) rfl (R.below h') hi hoff.out rfl) ?_
    go_simp
    refine hK _ ?_
    clear hK K
    refine q_run rfl (fun K hK => ?_)
    refine q_value ?_ (fun w' h' => ?_) ?_
    rotate_left
    · go_simp; try with_reducible rfl
    go_simp
    refine hK _ ?_
    clear hK K
    refine q_run rfl (fun K hK => ?_)
    refine q_value ?_ (fun w' h' => ?_) ?_
    rotate_left
    · have c := cell_of_row w' b3 2 _ 34 _ (keep X3 h'); go_simp; try with_reducible rfl
    go_simp
    refine hK _ ?_
    clear hK K
    refine q_run rfl (fun K hK => ?_)
    refine q_value ?_ (fun w' h' => ?_) ?_
    rotate_left
    · go_simp; try with_reducible rfl
    go_simp
    refine hK _ ?_
    clear hK K
    refine q_run rfl (fun K hK => ?_)
    refine q_value ?_ (fun w' h' => ?_) ?_
    rotate_left
    · go_simp; try with_reducible rfl
    go_simp
    refine hK _ ?_
    clear hK K
    refine q_run rfl (fun K hK => ?_)
    refine q_value ?_ (fun w' h' => ?_) ?_
    rotate_left
    · go_simp; try with_reducible rfl
    go_simp
    refine hK _ ?_
    clear hK K
    refine q_run rfl (fun K hK => ?_)
    refine q_value ?_ (fun w' h' => ?_) ?_
    rotate_left
    · have c := cell_of_row w' bM 0 _ 58 _ (keep XM h'); go_simp; try with_reducible rfl
    go_simp
    refine hK _ ?_
    clear hK K
    refine q_run rfl (fun K hK => ?_)
    refine q_value ?_ (fun w' h' => ?_) ?_
    rotate_left
    · go_simp; try with_reducible rfl
    go_simp
    refine hK _ ?_
    clear hK K
    refine q_run rfl (fun K hK => ?_)
    refine q_value ?_ (fun w' h' => ?_) ?_
    rotate_left
    · have c := cell_of_row w' b3 0 _ 34 _ (keep X3 h'); go_simp; try with_reducible rfl
    go_simp
    refine hK _ ?_
    clear hK K
    refine q_run rfl (fun K hK => ?_)
    refine q_enter 19 #[ov (S i).o, .int .i64 x2, .int .i64 threads, .int .i64 x0] (.bool false) (fun w' => by first | (go_simp; done) | (go_simp; rfl)) (fun w' h' => by
      have hs := spinMay (S i).o x2 threads x0 w' (hNm.below h')
      rw [hmay] at hs
      exact hs.mono fun e w'' hh => ⟨hh.1, Below.trans h' (hh.2.mono (Below.size h'))⟩) ?_
    go_simp
    refine hK _ ?_
    clear hK K
    refine q_run rfl (fun K hK => ?_)
    refine q_value ?_ (fun w' h' => ?_) ?_
    rotate_left
    · go_simp; try with_reducible rfl
    go_simp
    refine hK _ ?_
    clear hK K
    refine q_run rfl (fun K hK => ?_)
    refine q_value ?_ (fun w' h' => ?_) ?_
    rotate_left
    · go_simp; try with_reducible rfl
    go_simp
    refine hK _ ?_
    clear hK K
    refine q_skip rfl (fun K hK => ?_)
    go_simp
    refine hK _ ?_
    clear hK K
    refine q_skip rfl (fun K hK => ?_)
    go_simp
    refine hK _ ?_
    clear hK K
    refine q_skip rfl (fun K hK => ?_)
    go_simp
    refine hK _ ?_
    clear hK K
    refine q_skip rfl (fun K hK => ?_)
    go_simp
    refine hK _ ?_
    clear hK K
    refine q_skip rfl (fun K hK => ?_)
    go_simp
    refine hK _ ?_
    clear hK K
    refine q_skip rfl (fun K hK => ?_)
    go_simp
    refine hK _ ?_
    clear hK K
    refine q_skip rfl (fun K hK => ?_)
    go_simp
    refine hK _ ?_
    clear hK K
    refine q_skip rfl (fun K hK => ?_)
    go_simp
    refine hK _ ?_
    clear hK K
    refine q_skip rfl (fun K hK => ?_)
    go_simp
    refine hK _ ?_
    clear hK K
    refine q_skip rfl (fun K hK => ?_)
    go_simp
    refine hK _ ?_
    clear hK K
    refine q_skip rfl (fun K hK => ?_)
    go_simp
    refine hK _ ?_
    clear hK K
    refine q_skip rfl (fun K hK => ?_)
    go_simp
    refine hK _ ?_
    clear hK K
    refine q_skip rfl (fun K hK => ?_)
    go_simp
    refine hK _ ?_
    clear hK K
    refine q_skip rfl (fun K hK => ?_)
    go_simp
    refine hK _ ?_
    clear hK K
    refine q_skip rfl (fun K hK => ?_)
    go_simp
    refine hK _ ?_
    clear hK K
    refine q_run rfl (fun K hK => ?_)
    refine q_value ?_ (fun w' h' => ?_) ?_
    rotate_left
    · go_simp; try with_reducible rfl
    go_simp
    refine hK _ ?_
    clear hK K
    refine qd_nil ?_
    intro w31 h32
    replace XM := keep XM h32
    replace X3 := keep X3 h32
    replace X4 := keep X4 h32
    replace R := R.below h32
    replace E := E.below h32
    clear h32
    go_upto_region 5 with (fail)
    refine wp_region_lit ?_
    refine wl_call rfl 18 #[] (ansV 0 none 0 0 false) _ ?_ (notC w31) (fun w33 hd => ?_)
    · first | (go_simp; done) | (go_simp; rfl)
    intro K hK
    go_simp
    refine hK _ _ ?_
    clear hK K
    unfold ansV
    iterate 2
      refine wl_val rfl ?_ ?_ ?_
      rotate_left
      · go_simp; try with_reducible rfl
      intro K hK
      go_simp
      refine hK _ _ ?_
      clear hK K
    refine wl_store rfl 38 (.tmp 4) (.tmp 62) rfl b4 #[.int .u32 0, .slice none 0 0] rfl rfl 38 _ (keep X4 hd) (by kernel_rfl) rfl (by simp [Value.oneCell']) (fun w34 m1 m2 m3 m4 => ?_)
    intro K hK
    go_simp
    refine hK _ _ ?_
    clear hK K
    refine wl_val rfl (.bool false) ?_ ?_
    · go_simp
    intro K hK
    go_simp
    refine hK _ _ ?_
    clear hK K
    have Rf := (R.below hd).keep (m2 g hn4)
    have Ef := (E.below hd).put z4 m2 m3
    go_wp2
    exact ret_ans rfl b4 _ _ _ _ _ rfl rfl rfl m1 ⟨rfl, by rw [updS_same]; exact Rf, Ef⟩
end Go.Proofs.YtobkonbpcnmgpaaDoor
