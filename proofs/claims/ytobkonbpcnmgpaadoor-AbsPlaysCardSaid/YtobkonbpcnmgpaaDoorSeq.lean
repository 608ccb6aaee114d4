/- A sequence lock's call. -/
import Derived.Test.YtobkonbpcnmgpaaDoorNew
namespace Go.Proofs.YtobkonbpcnmgpaaDoor
open Go.RowKit
set_option linter.unusedVariables false
set_option linter.unusedSimpArgs false
/-- heads from the k-th on, taken first -/
theorem grow_head1 {P : Program} {Q : Exit → Act → World → Prop} {id : Nat} {a : Act} {w : World} {l : List Oper} (n k : Nat) (C : World → Prop) (hm : P.follows .mixedOrders = true) (hs : Region.noSelect l.toArray = true)
    (hn : k + n ≤ l.length) (hB : lexG .any l.toArray n k (Array.replicate l.toArray.size false) = true)
    (h : wpGrow P l.toArray C (fun a' => anyG P .any l.toArray C (noP Q) (l.length - n) (listedG k n (Array.replicate l.toArray.size false)) a' w.drew) ((l.drop k).take n) a) : (Code.region id l.toArray true).wp P Q a w := by
  refine wp_mono (Q := noP Q) ?_ noP_imp
  refine wp_region_any hm ?_
  have htl : ((l.drop k).take n).length = n := by simp; omega
  have := anyG_lex (md := .any) (g := l.length - n) (w := w.drew) hs (fun _ _ _ _ _ h => h) ((l.drop k).take n) k (Array.replicate l.toArray.size false) a (fun j hj => by
    have hj' : j < n := by rw [htl] at hj; exact hj
    simp [List.getElem?_take, hj']) (by rw [htl]; exact hB) (by rw [htl]; exact fun a' h => h) h
  rw [htl, show n + (l.length - n) = l.toArray.size by simp; omega] at this
  exact wpAny_of_anyG _ _ _ _ this
/-- the numbers that a reader got -/
def DatA (w : World) (V : Option Addr) (n : Nat) (dat : Nat → Int) : Prop := ∀ k, k < n → ∃ b, V = some ⟨b, 0, none⟩ ∧ b < w.heap.size ∧ w.cell? ⟨b, k, none⟩ = some (.int .u32 (dat k))
theorem DatA.zero {w : World} {V : Option Addr} {dat : Nat → Int} : DatA w V 0 dat := fun k hk => absurd hk (by omega)
theorem DatA.below {w w' : World} {V : Option Addr} {n : Nat} {dat : Nat → Int} (h : DatA w V n dat) (hb : Below w.heap.size w w') : DatA w' V n dat := fun k hk => by
  obtain ⟨b, e, hlt, hc⟩ := h k hk
  exact ⟨b, e, Nat.lt_of_lt_of_le hlt hb.size, (hb.cell (p := ⟨b, k, none⟩) hlt).trans hc⟩
theorem DatA.keep {w w' : World} {V : Option Addr} {n : Nat} {dat : Nat → Int} (h : DatA w V n dat) (hs : w.heap.size ≤ w'.heap.size) (hb : ∀ b, V = some ⟨b, 0, none⟩ → w'.heap[b]? = w.heap[b]?) : DatA w' V n dat := fun k hk => by
  obtain ⟨b, e, hlt, hc⟩ := h k hk
  exact ⟨b, e, Nat.lt_of_lt_of_le hlt hs, (World.cell?_of_block (a := ⟨b, k, none⟩) (hb b e)).trans hc⟩
/-- an answer with the numbers that a reader got -/
def AnsD (w0 w' : World) (r : Int) (n : Nat) (dat : Nat → Int) (ok : Bool) (e : Ending) : Prop := ∃ V c, e = .returned (ansV r V n c ok) ∧ DatA w' V n dat ∧ ∀ b, V = some ⟨b, 0, none⟩ → w0.heap.size ≤ b
theorem AnsD.no {w0 w' : World} {r : Int} {dat : Nat → Int} {ok : Bool} : AnsD w0 w' r 0 dat ok (.returned (ansV r none 0 0 ok)) := ⟨none, 0, rfl, DatA.zero, fun b e => by cases e⟩
theorem AnsD.of {w0 w' : World} {r : Int} {n : Nat} {dat : Nat → Int} {ok : Bool} {V : Option Addr} {c : Nat} (h : DatA w' V n dat) (hV : ∀ b, V = some ⟨b, 0, none⟩ → w0.heap.size ≤ b) : AnsD w0 w' r n dat ok (.returned (ansV r V n c ok)) := ⟨V, c, rfl, h, hV⟩
theorem info32 : (Tryd.prog.info? 32).map (fun i => (i.zero.map (·.cells.size), i.size, i.bytes)) = some (some 1, 1, 4) := by kernel_rfl
theorem wp_appu {ops : Array Oper} {Q : Exit → Act → World → Prop} {i : Nat} {K : Act → World → Prop} {o : Oper} {a : Act} {w : World} (hi : ops[i]? = some o) (hgd : o.guard = none) (s x : Operand) (ho : o.op = .call { callee := .builtin .append, args := #[s, x], argTypes := #[36, 36] })
    (b0 : Nat) (hs : a.eval s = .slice (some ⟨b0, 0, none⟩) 0 0) (hb0 : w.heap[b0]? = some (.cells #[] 32 (0, 0))) (g o13 N cc : Nat) (dat : Nat → Int) (hN : N ≤ 3) (hx : a.eval x = .slice (some ⟨g, o13, none⟩) N cc) (hd : ∀ k, k < N → w.cell? ⟨g, o13 + k, none⟩ = some (.int .u32 (dat k)))
    (h : ∀ (V : Option Addr) (c : Nat) (w' : World), DatA w' V N dat → (∀ b, V = some ⟨b, 0, none⟩ → b0 ≤ b) → w.grownBy w' (some b0) → K (a.put o.dst (.slice V N c)) w') : wpOp Tryd.prog ops Q i K a w := by
  have hii : ∃ (i0 : TypeInfo) (z : Value), Tryd.prog.info? 32 = some i0 ∧ i0.zero = some z ∧ z.cells.size = 1 ∧ i0.size = 1 ∧ i0.bytes = 4 := by
    have h1 := info32
    cases e : Tryd.prog.info? 32 with
    | none => rw [e] at h1; cases h1
    | some ti =>
      rw [e] at h1
      simp only [Option.map_some, Option.some.injEq, Prod.mk.injEq] at h1
      cases e2 : ti.zero with
      | none => rw [e2] at h1; simp at h1
      | some z =>
        rw [e2] at h1
        simp only [Option.map_some, Option.some.injEq] at h1
        exact ⟨ti, z, rfl, e2, h1.1, h1.2.1, h1.2.2⟩
  obtain ⟨i0, z, hi0, hz0, hzc, hz1, hz2⟩ := hii
  have hlt := blk_lt hb0
  have hown : w.ownsRow b0 32 1 (.slice (some ⟨b0, 0, none⟩) 0 0) 0 [] := ⟨rfl, .inr ⟨b0, 0, #[], rfl, Nat.le_refl _, hb0, Nat.le_refl _, Nat.zero_le _, rfl, rfl⟩⟩
  obtain ⟨v', w', hrun, h2, h3, h4, _⟩ := run_append_own_at (P := Tryd.prog) w b0 36 o.type 32 i0 z 1 4 Tryd.underlying36 hi0 hz0 hz1 hz2 hzc (by omega) (.slice (some ⟨b0, 0, none⟩) 0 0) 0 _ hown ⟨g, o13, none⟩ N cc ((List.range N).map fun k => .int .u32 (dat k)) (by simp)
    (fun j u hu => by
      rw [add_off]
      have hj : j < N := by
        have := (List.getElem?_eq_some_iff.1 hu).1; simpa using this
      rw [hd j hj]
      rw [List.getElem?_map, List.getElem?_range hj] at hu
      exact hu)
    (fun u hu => by
      obtain ⟨q, _, rfl⟩ := List.mem_map.1 hu
      rfl) (by simp only [maxLen]; omega) (by omega) (by omega)
  unfold wpOp
  simp only [hi]
  have hw : Region.wanted o (yielded ops a.tmps) = true := by simp [Region.wanted, hgd]
  rw [if_pos hw]
  refine .inl ?_
  unfold Oper.wp execOp
  simp only [ho, resolve, invoke, builtin, Sem.run_bind, Sem.run_pure, Result.andThen_ok, List.map_toArray, List.map_cons, List.map_nil, hs, hx, hrun]
  rw [Nat.zero_add, List.nil_append] at h2
  rcases h2.2 with ⟨e, e0⟩ | ⟨b, cap, cur, rfl, r1, r2, r3, r4, r5, r6⟩
  · subst e0; subst e
    exact h none 0 w' DatA.zero (fun b e => by cases e) h3
  · refine h (some ⟨b, 0, none⟩) cap w' (fun k hk => ⟨b, rfl, blk_lt r2, ?_⟩) (fun b' e => by cases e; exact r1) h3
    rw [cell_of_row w' b k cur 32 _ r2]
    have h6 : ((List.range N).map fun k => Value.int .u32 (dat k))[k]? = some (.int .u32 (dat k)) := by rw [List.getElem?_map, List.getElem?_range hk]; rfl
    rw [← r6, List.getElem?_take, if_pos (by omega), Array.getElem?_toList] at h6
    exact h6
def seqP (s : St) (x : Ak) : Out :=
  if x.call = 4 then (if s.owner = x.who then ⟨{ s with draft := upF s.draft x.arg.toNat x.val }, 0, true⟩ else ⟨s, 2, true⟩) else if x.call = 3 then ⟨s, 0, true⟩ else lockP s x
def seqD (s : St) (x : Ak) : Nat := if x.call = 3 then s.o.n.toNat else 0
set_option maxRecDepth 100000 in
set_option maxHeartbeats 8000000 in
theorem seqC (S : Nat → St) (g n i off : Nat) (hi : i < n) (hoff : Hid (off = i * 38)) (x : Ak) (hnn : 0 ≤ (S i).o.n ∧ (S i).o.n ≤ 3) (hxa : x.call = 4 → 0 ≤ x.arg ∧ x.arg < 3) (w0 : World) (hR : Row w0 g n S) : Calls Tryd.prog 21 #[.pointer (some ⟨g, off, none⟩), akV x] w0 fun e w' => AnsD w0 w' (seqP (S i) x).r (seqD (S i) x) (S i).data (seqP (S i) x).ok e ∧ Row w' g n (updS S i (seqP (S i) x).s) ∧ Exc g w0 w' := by
  obtain ⟨p, hp⟩ : ∃ p, Hid (p = seqP (S i) x) := ⟨_, rfl⟩
  rw [← hp.out]
  obtain ⟨dn, hdn⟩ : ∃ dn, Hid (dn = seqD (S i) x) := ⟨_, rfl⟩
  rw [← hdn.out]
  obtain ⟨x0, x1, x2, x3, x4, x5⟩ := x
  simp only at hxa
  unfold akV akC
  go_enter Tryd.func21, Tryd.ntmps21
  go_upto_region 1 with (fail)
  obtain ⟨W, b3, b4, e0, e1, e2, X3, X4, hal⟩ := box2 w0 #[.int .i64 x0, .int .i64 x1, .int .i64 x2, .int .i64 x3, .int .u32 x4, .int .u32 x5] #[.int .u32 0, .slice none 0 0] 34 38
  rw [e0, e2, e1]
  have z3 : w0.heap.size ≤ b3 := Nat.le_of_eq e1
  have z4 : w0.heap.size ≤ b4 := by omega
  have hgl := hR.lt
  have hn3 : g ≠ b3 := by omega
  have hn4 : g ≠ b4 := by omega
  clear e0 e2 e1
  have R := hR.below hal
  have E : Exc g w0 W := Exc.of_below hal
  have hbW := hal
  clear hal
  by_cases c4 : x2 = 4
  · subst c4
    clear hbW
    obtain rfl : dn = 0 := by
      rw [hdn.out]; unfold seqD; rw [if_neg (show ¬ (4 : Int) = 3 by omega)]
    clear hdn
    obtain ⟨hx0, hx3⟩ := hxa rfl
    obtain ⟨r, rfl⟩ : ∃ r : Nat, x4 = r := ⟨x4.toNat, by omega⟩
    have hr : r < 3 := by omega
    clear hxa
    have y2 := cell_of_row W b3 2 _ 34 _ X3
    by_cases co : (S i).owner = x0
    · obtain rfl : p = ⟨{ S i with draft := upF (S i).draft r x5 }, 0, true⟩ := by
        rw [hp.out]; unfold seqP; rw [if_pos rfl, if_pos co]; simp only [Int.toNat_natCast]
      clear hp
      have qo : ((S i).owner != x0) = false := by simp [co]
      clear co
      go_upto_region 3 with (fail)
      refine quiet_all (fun w' => Below W.heap.size W w') (by kernel_rfl) (by kernel_rfl) (Below.drew (Below.refl _ _)) ?_
      refine q_run rfl (fun K hK => ?_)
      refine q_value ?_ (fun w' h' => ?_) ?_
      rotate_left
      · go_simp; try with_reducible rfl
      go_simp
      refine hK _ ?_
      clear hK K
      refine q_run rfl (fun K hK => ?_)
      refine q_value ?_ (fun w' h' => ?_) ?_
      rotate_left
      · go_simp; try with_reducible rfl
      go_simp
      refine hK _ ?_
      clear hK K
      refine q_run rfl (fun K hK => ?_)
      refine q_value ?_ (fun w' h' => ?_) ?_
      rotate_left
      · go_simp; try with_reducible rfl
      go_simp
      refine hK _ ?_
      clear hK K
      refine q_run rfl (fun K hK => ?_)
      refine q_value ?_ (fun w' h' => ?_) ?_
      rotate_left
      · have c := (R.below h').own hi hoff.out; go_simp; try with_reducible rfl
      go_simp
      refine hK _ ?_
      clear hK K
      refine q_run rfl (fun K hK => ?_)
      refine q_value ?_ (fun w' h' => ?_) ?_
      rotate_left
      · go_simp; try with_reducible rfl
      go_simp
      refine hK _ ?_
      clear hK K
      refine q_run rfl (fun K hK => ?_)
      refine q_value ?_ (fun w' h' => ?_) ?_
      rotate_left
      · have c := cell_of_row w' b3 0 _ 34 _ (keep X3 h'); go_simp; try with_reducible rfl
      go_simp
      refine hK _ ?_
      clear hK K
      refine q_run rfl (fun K hK => ?_)
      refine q_value ?_ (fun w' h' => ?_) ?_
      rotate_left
      · go_simp; try with_reducible rfl
      go_simp
      refine hK _ ?_
      clear hK K
      refine qd_nil ?_
      intro w1 h2
      replace X3 := keep X3 h2
      replace X4 := keep X4 h2
      replace R := R.below h2
      replace E := E.below h2
      clear h2
      go_upto_region 5 with (fail)
      refine quiet_tail 8 (fun w' => Below w1.heap.size w1 w') (by kernel_rfl) (by kernel_rfl) (Below.drew (Below.refl _ _)) ?_
      simp only [List.take_succ_cons, List.take_zero, List.drop_succ_cons, List.drop_zero]
      refine q_run rfl (fun K hK => ?_)
      refine q_value ?_ (fun w' h' => ?_) ?_
      rotate_left
      · go_simp; try with_reducible rfl
      go_simp
      refine hK _ ?_
      clear hK K
      refine q_run rfl (fun K hK => ?_)
      refine q_value ?_ (fun w' h' => ?_) ?_
      rotate_left
      · go_simp; try with_reducible rfl
      go_simp
      refine hK _ ?_
      clear hK K
      refine q_run rfl (fun K hK => ?_)
      refine q_value ?_ (fun w' h' => ?_) ?_
      rotate_left
      · have c := cell_of_row w' b3 4 _ 34 _ (keep X3 h'); go_simp; try with_reducible rfl
      go_simp
      refine hK _ ?_
      clear hK K
      refine q_run rfl (fun K hK => ?_)
      refine q_value ?_ (fun w' h' => ?_) ?_
      rotate_left
      · go_simp; try with_reducible rfl
      go_simp
      refine hK _ ?_
      clear hK K
      refine q_run rfl (fun K hK => ?_)
      refine q_value ?_ (fun w' h' => ?_) ?_
      rotate_left
      · have c := cell_of_row w' b3 5 _ 34 _ (keep X3 h'); go_simp; try with_reducible rfl
      go_simp
      refine hK _ ?_
      clear hK K
      refine q_run rfl (fun K hK => ?_)
      refine q_value ?_ (fun w' h' => ?_) ?_
      rotate_left
      · go_simp; try with_reducible rfl
      go_simp
      refine hK _ ?_
      clear hK K
      refine q_run rfl (fun K hK => ?_)
      refine q_value ?_ (fun w' h' => ?_) ?_
      rotate_left
      · go_simp; try with_reducible rfl
      go_simp
      refine hK _ ?_
      clear hK K
      refine q_run rfl (fun K hK => ?_)
      refine q_value ?_ (fun w' h' => ?_) ?_
      rotate_left
      · go_simp; try with_reducible rfl
      go_simp
      refine hK _ ?_
      clear hK K
      refine qd_nil ?_
      intro w3 h4
      replace X3 := keep X3 h4
      replace X4 := keep X4 h4
      replace R := R.below h4
      replace E := E.below h4
      clear h4
      refine wl_cell rfl 32 (.tmp 27) (.tmp 24) rfl g n i (16 + r) off S { S i with draft := upF (S i).draft r x5 } (.int .u32 x5) rfl Tryd.sizeOf32 (st_u32 x5) hi (by omega) hoff.out (by rw [← Nat.add_assoc]; rfl) rfl R (cs_df (S i) hr x5) (fun w5 R' E' => ?_)
      intro K hK
      go_simp
      refine hK _ _ ?_
      clear hK K
      replace X3 := (E'.blk b3 (blk_lt X3) (fun e => hn3 e.symm)).trans X3
      replace X4 := (E'.blk b4 (blk_lt X4) (fun e => hn4 e.symm)).trans X4
      replace E := E.trans E'
      replace R := R'
      clear R' E'
      go_upto_region 6 with (fail)
      refine wp_region_lit ?_
      refine wl_call rfl 39 #[] (ansV 0 none 0 0 true) _ ?_ (fineC w5) (fun w6 hd => ?_)
      · first | (go_simp; done) | (go_simp; rfl)
      intro K hK
      go_simp
      refine hK _ _ ?_
      clear hK K
      unfold ansV
      iterate 2
        refine wl_val rfl ?_ ?_ ?_
        rotate_left
        · go_simp; try with_reducible rfl
        intro K hK
        go_simp
        refine hK _ _ ?_
        clear hK K
      refine wl_store rfl 38 (.tmp 4) (.tmp 29) rfl b4 #[.int .u32 0, .slice none 0 0] rfl rfl 38 _ (keep X4 hd) (by kernel_rfl) rfl (by simp [Value.oneCell']) (fun w7 m1 m2 m3 m4 => ?_)
      intro K hK
      go_simp
      refine hK _ _ ?_
      clear hK K
      refine wl_val rfl (.bool true) ?_ ?_
      · go_simp
      intro K hK
      go_simp
      refine hK _ _ ?_
      clear hK K
      have Rf := (R.below hd).keep (m2 g hn4)
      have Ef := (E.below hd).put z4 m2 m3
      go_wp2
      exact ret_ans rfl b4 _ _ _ _ _ rfl rfl rfl m1 ⟨AnsD.no, Rf, Ef⟩
    · obtain rfl : p = ⟨S i, 2, true⟩ := by
        rw [hp.out]; unfold seqP; rw [if_pos rfl, if_neg co]
      clear hp
      have qo : ((S i).owner != x0) = true := by simp [co]
      clear co
      go_upto_region 3 with (fail)
      refine quiet_all (fun w' => Below W.heap.size W w') (by kernel_rfl) (by kernel_rfl) (Below.drew (Below.refl _ _)) ?_
      refine q_run rfl (fun K hK => ?_)
      refine q_value ?_ (fun w' h' => ?_) ?_
      rotate_left
      · go_simp; try with_reducible rfl
      go_simp
      refine hK _ ?_
      clear hK K
      refine q_run rfl (fun K hK => ?_)
      refine q_value ?_ (fun w' h' => ?_) ?_
      rotate_left
      · go_simp; try with_reducible rfl
      go_simp
      refine hK _ ?_
      clear hK K
      refine q_run rfl (fun K hK => ?_)
      refine q_value ?_ (fun w' h' => ?_) ?_
      rotate_left
      · go_simp; try with_reducible rfl
      go_simp
      refine hK _ ?_
      clear hK K
      refine q_run rfl (fun K hK => ?_)
      refine q_value ?_ (fun w' h' => ?_) ?_
      rotate_left
      · have c := (R.below h').own hi hoff.out; go_simp; try with_reducible rfl
      go_simp
      refine hK _ ?_
      clear hK K
      refine q_run rfl (fun K hK => ?_)
      refine q_value ?_ (fun w' h' => ?_) ?_
      rotate_left
      · go_simp; try with_reducible rfl
      go_simp
      refine hK _ ?_
      clear hK K
      refine q_run rfl (fun K hK => ?_)
      refine q_value ?_ (fun w' h' => ?_) ?_
      rotate_left
      · have c := cell_of_row w' b3 0 _ 34 _ (keep X3 h'); go_simp; try with_reducible rfl
      go_simp
      refine hK _ ?_
      clear hK K
      refine q_run rfl (fun K hK => ?_)
      refine q_value ?_ (fun w' h' => ?_) ?_
      rotate_left
      · go_simp; try with_reducible rfl
      go_simp
      refine hK _ ?_
      clear hK K
      refine qd_nil ?_
      intro w8 h9
      replace X3 := keep X3 h9
      replace X4 := keep X4 h9
      replace R := R.below h9
      replace E := E.below h9
      clear h9
      go_upto_region 4 with (fail)
      refine wp_region_lit ?_
      refine wl_call rfl 38 #[.int .u32 2] (ansV 2 none 0 0 true) _ ?_ (toldC 2 w8) (fun w10 hd => ?_)
      · first | (go_simp; done) | (go_simp; rfl)
      intro K hK
      go_simp
      refine hK _ _ ?_
      clear hK K
      unfold ansV
      iterate 2
        refine wl_val rfl ?_ ?_ ?_
        rotate_left
        · go_simp; try with_reducible rfl
        intro K hK
        go_simp
        refine hK _ _ ?_
        clear hK K
      refine wl_store rfl 38 (.tmp 4) (.tmp 18) rfl b4 #[.int .u32 2, .slice none 0 0] rfl rfl 38 _ (keep X4 hd) (by kernel_rfl) rfl (by simp [Value.oneCell']) (fun w11 m1 m2 m3 m4 => ?_)
      intro K hK
      go_simp
      refine hK _ _ ?_
      clear hK K
      refine wl_val rfl (.bool true) ?_ ?_
      · go_simp
      intro K hK
      go_simp
      refine hK _ _ ?_
      clear hK K
      have Rf := (R.below hd).keep (m2 g hn4)
      have Ef := (E.below hd).put z4 m2 m3
      go_wp2
      exact ret_ans rfl b4 _ _ _ _ _ rfl rfl rfl m1 ⟨AnsD.no, by rw [updS_same]; exact Rf, Ef⟩
  · by_cases c3 : x2 = 3
    · subst c3
      clear hxa
      obtain rfl : p = ⟨S i, 0, true⟩ := by
        rw [hp.out]; unfold seqP; rw [if_neg c4, if_pos rfl]
      clear hp
      obtain ⟨N, hNn⟩ : ∃ N : Nat, Hid ((S i).o.n = N) := ⟨(S i).o.n.toNat, by simp only [Hid]; omega⟩
      obtain ⟨hN0, hN3⟩ : (0 : Int) ≤ N ∧ (N : Int) ≤ 3 := by rw [← hNn.out]; exact hnn
      have hN3' : N ≤ 3 := by omega
      obtain rfl : N = dn := by
        rw [hdn.out]; unfold seqD; rw [if_pos rfl, hNn.out]; rfl
      clear hdn hnn c4
      have y2 := cell_of_row W b3 2 _ 34 _ X3
      go_upto_region 8 with (fail)
      refine grow_head1 9 1 (fun w' => Below w0.heap.size w0 w') rfl (by kernel_rfl) (by decide) (by kernel_rfl) ?_
      simp only [List.drop_succ_cons, List.drop_zero, List.take_succ_cons, List.take_zero]
      refine g_run rfl ?_ (fun w' h' => ga_value ?_) (fun K hK => ?_)
      rotate_left
      · go_simp; try with_reducible rfl
      go_simp
      refine hK _ ?_
      clear hK K
      refine g_run rfl ?_ (fun w' h' => ga_value ?_) (fun K hK => ?_)
      rotate_left
      · go_simp; try with_reducible rfl
      go_simp
      refine hK _ ?_
      clear hK K
      refine g_run rfl ?_ (fun w' h' => ga_value ?_) (fun K hK => ?_)
      rotate_left
      · go_simp; try with_reducible rfl
      go_simp
      refine hK _ ?_
      clear hK K
      refine g_run rfl ?_ (fun w' h' => ga_value ?_) (fun K hK => ?_)
      rotate_left
      · go_simp; try with_reducible rfl
      go_simp
      refine hK _ ?_
      clear hK K
      refine g_run rfl ?_ (fun w' h' => ga_value ?_) (fun K hK => ?_)
      rotate_left
      · go_simp; try with_reducible rfl
      go_simp
      refine hK _ ?_
      clear hK K
      refine g_run rfl ?_ (fun w' h' => ga_value ?_) (fun K hK => ?_)
      rotate_left
      · go_simp; try with_reducible rfl
      go_simp
      refine hK _ ?_
      clear hK K
      refine g_run rfl ?_ (fun w' h' => ga_value ?_) (fun K hK => ?_)
      rotate_left
      · go_simp; try with_reducible rfl
      go_simp
      refine hK _ ?_
      clear hK K
      refine g_run rfl (.int .i64 N) (fun w' h' => ga_value ?_) (fun K hK => ?_)
      · have c := (hR.below h').nn hi hoff.out; rw [hNn.out] at c; go_simp
      go_simp
      refine hK _ ?_
      clear hK K
      refine g_run rfl (.slice (some ⟨g, off + 13, none⟩) N 3) (fun w' h' => ga_value ?_) (fun K hK => ?_)
      · go_simp
      go_simp
      refine hK _ ?_
      clear hK K
      refine g_nil ?_
      show anyG _ _ _ _ _ _ _ _ _
      clear y2
      have q0 : Below w0.heap.size w0 W.drew := Below.drew hbW
      refine anyG_ready [0] (by kernel_rfl) (by simp) (fun v1 r1 => ⟨q0.trans (r1.mono q0.size), ?_⟩)
      have q1 := q0.trans (r1.mono q0.size)
      intro j hj
      simp only [List.mem_cons, List.not_mem_nil, or_false] at hj
      subst hj
      have X4a : v1.heap[b4]? = some (.cells #[.int .u32 0, .slice none 0 0] 38 (0, 0)) := keep (show W.drew.heap[b4]? = _ from X4) r1
      refine op_at rfl rfl (.slice (some ⟨v1.heap.size, 0, none⟩) 0 0) (w' := v1.alloc (.cells #[] 32)) (by first | kernel_rfl | go_simp) ?_
      obtain ⟨v2, b0, e8, eg, B0, hb8⟩ := box1 v1 #[] 32
      rw [e8, eg]
      have hb04 : b4 < b0 := by rw [← eg]; exact blk_lt X4a
      have hb0w : w0.heap.size ≤ b0 := by omega
      clear e8 eg
      have X4b := keep X4a hb8
      have q2 := q1.trans (hb8.mono q1.size)
      refine anyG_ready [10] (by kernel_rfl) (by simp) (fun v3 r3 => ⟨q2.trans (r3.mono q2.size), ?_⟩)
      have q3 := q2.trans (r3.mono q2.size)
      intro j hj
      simp only [List.mem_cons, List.not_mem_nil, or_false] at hj
      subst hj
      have X4c := keep X4b r3
      refine wp_appu rfl rfl (.tmp 33) (.tmp 42) rfl b0 rfl (keep B0 r3) g (off + 13) N 3 (S i).data hN3' rfl (fun k hk => (hR.below q3).dt hi hoff.out (by omega)) (fun V c v4 hD hV hg4 => ?_)
      have X4d := (hg4.block b4 (blk_lt X4c) (fun e => by injection e with e; omega)).trans X4c
      have q4 := q3.grown hg4 q3.size (fun kk h => by injection h with h; omega)
      clear hg4 B0 hb8 X4a X4b X4c
      refine anyG_ready [11] (by kernel_rfl) (by simp) (fun v5 r5 => ⟨q4.trans (r5.mono q4.size), ?_⟩)
      have q5 := q4.trans (r5.mono q4.size)
      intro j hj
      simp only [List.mem_cons, List.not_mem_nil, or_false] at hj
      subst hj
      refine op_value rfl rfl (.agg #[.int .u32 0, .slice V N c]) (by first | kernel_rfl | go_simp) ?_
      refine anyG_ready [12] (by kernel_rfl) (by simp) (fun v6 r6 => ⟨q5.trans (r6.mono q5.size), ?_⟩)
      have q6 := q5.trans (r6.mono q5.size)
      intro j hj
      simp only [List.mem_cons, List.not_mem_nil, or_false] at hj
      subst hj
      refine op_store rfl rfl 38 (.tmp 4) (.tmp 44) rfl b4 #[.int .u32 0, .slice V N c] rfl rfl 38 _ (keep (keep X4d r5) r6) (by kernel_rfl) rfl (by simp [Value.oneCell']) (fun v7 m1 m2 m3 => ?_)
      have q7 := q6.trans (m3 _ z4)
      refine anyG_ready [13] (by kernel_rfl) (by simp) (fun v8 r8 => ⟨q7.trans (r8.mono q7.size), ?_⟩)
      have q8 := q7.trans (r8.mono q7.size)
      intro j hj
      simp only [List.mem_cons, List.not_mem_nil, or_false] at hj
      subst hj
      refine op_value rfl rfl (.bool true) (by first | kernel_rfl | go_simp) ?_
      refine anyG_end (by kernel_rfl) (fun v9 r9 => ⟨q8.trans (r9.mono q8.size), ?_⟩)
      have q9 := q8.trans (r9.mono q8.size)
      have hD6 := (hD.below r5).below r6
      have hD7 : DatA v7 V N (S i).data := hD6.keep (m3 0 (Nat.zero_le _)).size (fun b e => m2 b (by have := hV b e; omega))
      have hD9 := (hD7.below r8).below r9
      have m9 := keep (keep m1 r8) r9
      clear m1 m2 m3 hD hD6 hD7 X4d q0 q1 q2 q3 q4 q5 q6 q7 q8 r1 r3 r5 r6 r8 r9 X3 X4 R E
      go_wp2
      exact ret_ans rfl b4 _ _ _ _ _ rfl rfl rfl m9 ⟨AnsD.of hD9 (fun b e => by have := hV b e; omega), by rw [updS_same]; exact hR.below q9, Exc.of_below q9⟩
    · clear hxa hbW
      obtain rfl : dn = 0 := by
        rw [hdn.out]; unfold seqD; rw [if_neg (by omega)]
      clear hdn
      obtain rfl : p = lockP (S i) ⟨x0, x1, x2, x3, x4, x5⟩ := by
        rw [hp.out]; unfold seqP; rw [if_neg c4, if_neg c3]
      clear hp
      have q4 : (x2 == 4) = false := by simp [c4]
      have q3 : (x2 == 3) = false := by simp [c3]
      clear c4 c3 hnn
      have y2 := cell_of_row W b3 2 _ 34 _ X3
      go_upto_region 9 with (fail)
      refine wp_region_lit ?_
      iterate 1
        refine wl_val rfl ?_ ?_ ?_
        rotate_left
        · go_simp; try with_reducible rfl
        intro K hK
        go_simp
        refine hK _ _ ?_
        clear hK K
      refine wl_load rfl 34 (.tmp 3) rfl _ rfl _ _ _ _ X3 Tryd.underlying34 rfl (by kernel_rfl) ?_
      intro K hK
      go_simp
      refine hK _ _ ?_
      clear hK K
      refine wl_call rfl 27 #[.pointer (some ⟨g, off, none⟩), akV ⟨x0, x1, x2, x3, x4, x5⟩] (ansV (lockP (S i) ⟨x0, x1, x2, x3, x4, x5⟩).r none 0 0 (lockP (S i) ⟨x0, x1, x2, x3, x4, x5⟩).ok) _ ?_ (lockC S g n i off hi hoff ⟨x0, x1, x2, x3, x4, x5⟩ W R) (fun w12 hd => ?_)
      · unfold akV akC; first | (go_simp; done) | (go_simp; rfl)
      intro K hK
      go_simp
      refine hK _ _ ?_
      clear hK K
      have Rd := hd.1
      have Ed := E.trans hd.2
      have X4d := (hd.2.blk b4 (blk_lt X4) (fun e => hn4 e.symm)).trans X4
      clear hd
      unfold ansV
      iterate 2
        refine wl_val rfl ?_ ?_ ?_
        rotate_left
        · go_simp; try with_reducible rfl
        intro K hK
        go_simp
        refine hK _ _ ?_
        clear hK K
      refine wl_store rfl 38 (.tmp 4) (.tmp 48) rfl b4 #[.int .u32 (lockP (S i) ⟨x0, x1, x2, x3, x4, x5⟩).r, .slice none 0 0] rfl rfl 38 _ X4d (by kernel_rfl) rfl (by simp [Value.oneCell']) (fun w13 m1 m2 m3 m4 => ?_)
      intro K hK
      go_simp
      refine hK _ _ ?_
      clear hK K
      refine wl_val rfl (.bool (lockP (S i) ⟨x0, x1, x2, x3, x4, x5⟩).ok) ?_ ?_
      · go_simp
      intro K hK
      go_simp
      refine hK _ _ ?_
      clear hK K
      have Rf := Rd.keep (m2 g hn4)
      have Ef := Ed.put z4 m2 m3
      go_wp2
      exact ret_ans rfl b4 _ _ _ _ _ rfl rfl rfl m1 ⟨AnsD.no, Rf, Ef⟩
end Go.Proofs.YtobkonbpcnmgpaaDoor
