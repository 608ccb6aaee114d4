/- The anchor: a mutex taken and given back. The card TopFrontCardSaid is proved: whatever the client and the two scripts, TopFront answers true and leaves its arguments as they were, where isa.uses, isa.names and obj.names read as the program's text lays them (the ties are given). No other condition. -/
import Derived.Test.YtbcgngfbbbfebaaGreatDoorM48
import Derived.Test.YtbcgngfbbbfebaaGreatDoorM41
import Derived.Test.YtbcgngfbbbfebaaGreatDoorM42
import Derived.Test.YtbcgngfbbbfebaaGreatDoorCards
import Derived.Test.YtbcgngfbbbfebaaGreatDoorTie
import Derived.SevenTiedAt
namespace Go.Proofs.YtbcgngfbbbfebaaGreatDoor
open Go.RowKit Go.Maps
set_option maxRecDepth 100000
set_option maxHeartbeats 32000000
set_option linter.unusedVariables false
set_option linter.unusedSimpArgs false
def clA (bA bO bT : Nat) : Cl := { A := some ⟨bA, 0, none⟩, no := 1, ca := 1, f := fun _ => ⟨10, 0, 0, 0⟩, vars := 0, W := none, nw := 0, cw := 0, own := fun _ => 0, room := 1, T := some ⟨bT, 0, none⟩, nt := 1, ct := 1, tp := fun _ => some ⟨bO, 0, none⟩, len := fun _ => 2, tc := fun _ => 2, op := fun _ i => if i = 0 then ⟨7, 0, 1, 0⟩ else ⟨7, 0, 2, 0⟩ }
def ev0 : List Evt := [⟨7, 0, 0, 0, 0, 0, 0, false⟩, ⟨1, 0, 1, 17, 0, 0, 0, false⟩, ⟨4, 0, 9, 16, 1, 0, 0, true⟩, ⟨2, 0, 17, 17, 1, 0, 0, false⟩, ⟨7, 0, 19, 0, 0, 0, 1, false⟩, ⟨7, 0, 20, 0, 0, 0, 2, false⟩, ⟨1, 0, 21, 17, 1, 0, 0, false⟩, ⟨3, 0, 0, 17, 1, 0, 0, false⟩, ⟨2, 0, 28, 17, 0, 0, 0, false⟩, ⟨3, 0, 0, 17, 0, 0, 0, false⟩, ⟨4, 0, 30, 16, 0, 1, 0, true⟩, ⟨7, 0, 37, 0, 0, 0, 3, false⟩, ⟨12, 0, 38, 0, 0, 0, 0, false⟩]
theorem ok0 (a b c : Nat) : okF (clA a b c) := ⟨by kernel_rfl, by kernel_rfl⟩
theorem evs0 (a b c : Nat) : evF (clA a b c) (List.replicate 60 0) = ev0 := by kernel_rfl
theorem k70 : K7 ev0 0 = [⟨0, 0, 0, 4, 0⟩, ⟨1, 0, 5, 11, 0⟩] := by decide +kernel
theorem k7t : ∀ t, 1 ≤ t → t < 8 → K7 ev0 t = [] := fun t h1 h2 => by
 obtain rfl | rfl | rfl | rfl | rfl | rfl | rfl : t = 1 ∨ t = 2 ∨ t = 3 ∨ t = 4 ∨ t = 5 ∨ t = 6 ∨ t = 7 := by omega
 all_goals decide +kernel
theorem runs0 (a b c : Nat) : runsF (clA a b c) (List.replicate 60 0) = ev0 := (if_pos (ok0 a b c)).trans (evs0 a b c)
theorem runs1 (a b c : Nat) : runsI (clA a b c) = 1 := if_pos (ok0 a b c)
theorem memA {w : World} {bA bO bT : Nat} (XA : w.heap[bA]? = some (.cells #[.int .i64 10, .int .i64 0, .int .i64 0, .int .i64 0] 38 (0, 0))) (XO : w.heap[bO]? = some (.cells #[.int .i64 7, .int .i64 0, .int .i64 1, .int .u32 0, .int .i64 7, .int .i64 0, .int .i64 2, .int .u32 0] 40 (0, 0))) (XT : w.heap[bT]? = some (.cells #[.slice (some ⟨bO, 0, none⟩) 2 2] 41 (0, 0))) : MemC w (clA bA bO bT) where
 objs := fun _ => ⟨bA, 0, rfl, blk_lt XA, fun i hi => by
  obtain rfl : i = 0 := by simp only [clA] at hi; omega
  exact ⟨cell_of_row w bA 0 _ 38 _ XA, cell_of_row w bA 1 _ 38 _ XA, cell_of_row w bA 2 _ 38 _ XA, cell_of_row w bA 3 _ 38 _ XA⟩⟩
 own := fun h => absurd h (Nat.lt_irrefl 0)
 thr := fun _ => ⟨bT, 0, rfl, blk_lt XT, fun i hi => by
  obtain rfl : i = 0 := by simp only [clA] at hi; omega
  exact cell_of_row w bT 0 _ 41 _ XT⟩
 ops := fun t _ _ => ⟨bO, 0, rfl, blk_lt XO, fun i hi => by
  obtain rfl | rfl : i = 0 ∨ i = 1 := by simp only [clA] at hi; omega
  ·exact ⟨cell_of_row w bO 0 _ 40 _ XO, cell_of_row w bO 1 _ 40 _ XO, cell_of_row w bO 2 _ 40 _ XO, cell_of_row w bO 3 _ 40 _ XO⟩
  ·exact ⟨cell_of_row w bO 4 _ 40 _ XO, cell_of_row w bO 5 _ 40 _ XO, cell_of_row w bO 6 _ 40 _ XO, cell_of_row w bO 7 _ 40 _ XO⟩⟩
 ho := Nat.le_refl _
 hw := Nat.le_refl _
 ht := Nat.le_refl _
 hl := fun t _ => Nat.le_refl _
 hN := fun i _ => by simp only [clA]; omega
 hK := fun t i _ _ => by
  show 0 ≤ (if i = 0 then (⟨7, 0, 1, 0⟩ : X) else ⟨7, 0, 2, 0⟩).K ∧ (if i = 0 then (⟨7, 0, 1, 0⟩ : X) else ⟨7, 0, 2, 0⟩).K < 4294967296
  split <;> exact ⟨by decide, by decide⟩
theorem infoY0 : (Tryz.prog.info? eY.ty).map (fun i => (i.zero.map (·.cells), i.size, i.bytes)) = some (some (eY.enc 0).toArray, eY.sz, 1) := by kernel_rfl
theorem op_mkE {α : Type} {E : Enc α} (hE : E.Ok) {P : Program} {ops : Array Oper} {Q : Exit → Go.Act → World → Prop} {i : Nat} {K : Go.Act → World → Prop} {o : Oper} {a : Go.Act} {w : World} (hi : ops[i]? = some o) (hgd : o.guard = none) (t : TypeId) (ht : P.underlying t = some (.slice E.ty)) (x : α) (by' : Nat) (hinf : (P.info? E.ty).map (fun i => (i.zero.map (·.cells), i.size, i.bytes)) = some (some (E.enc x).toArray, E.sz, by')) (hby : by' ≤ 10000)
  (y y' : Operand) (ho : o.op = .makeSlice t y y') (n : Nat) (hn : n ≤ 4000000) (hx : a.eval y = .int .i64 n) (hx' : a.eval y' = .int .i64 n)
  (h : ∀ (w' : World) (r : Nat), Own E w' (.slice (some ⟨r, 0, none⟩) n n) (List.replicate n x) → Below w.heap.size w w' → K (a.put o.dst (.slice (some ⟨r, 0, none⟩) n n)) w') : wpOp P ops Q i K a w := by
 obtain ⟨w', hr, h1, h2⟩ := run_mkE hE w t ht x by' hinf hby n hn; unfold wpOp; simp only [hi]
 have hw : Region.wanted o (yielded ops a.tmps) = true := by simp [Region.wanted, hgd]
 rw [if_pos hw]; refine .inl ?_; unfold Oper.wp execOp; simp only [ho, hx, hx', hr, Sem.run_bind, Result.andThen_ok]; exact h w' _ h1 h2
theorem op_callsW {P : Program} {ops : Array Oper} {Q : Exit → Go.Act → World → Prop} {i : Nat} {K : Go.Act → World → Prop} {o : Oper} {a : Go.Act} {w : World} (hi : ops[i]? = some o) (hw : Region.wanted o (yielded ops a.tmps) = true) (g : FuncId) (args : Array Value) (R : Value → World → Prop) (h : (execOp a.eval o).run P w = .ok (.enter g args) w)
  (hc : Calls P g args w fun e w' => ∃ v, e = .returned v ∧ R v w') (hK : ∀ v w', R v w' → K (a.put o.dst v) w') : wpOp P ops Q i K a w := by
 unfold wpOp; simp only [hi]; rw [if_pos hw]; refine .inl ?_; unfold Oper.wp; rw [h, Oper.upon_enter]
 refine hc.mono fun e w' hr => ?_
 obtain ⟨v, rfl, hr⟩ := hr; exact hK v w' hr
theorem awakeC (w : World) (hN : NmW w) (hI : IsaW w) : Calls Tryz.prog 4 #[] w fun e w' => e = .returned (.bool true) ∧ Below w.heap.size w w' := by
 go_enter Tryz.func4, Tryz.ntmps4; go_upto_region 1 with (fail); refine wp_region_lit ?_; refine Zv ?_
 refine wl_at rfl (.slice (some ⟨w.heap.size, 0, none⟩) 1 1) (w' := w.alloc (.cells #[.int .i64 10, .int .i64 0, .int .i64 0, .int .i64 0] 38)) (by first | kernel_rfl | (go_simp; done) | (go_simp; rfl)) ?_
 obtain ⟨w', bA, e8, eg, XA, hb8⟩ := box1 w #[.int .i64 10, .int .i64 0, .int .i64 0, .int .i64 0] 38; rw [e8, eg]; clear e8 eg; refine Zk ?_; have hal := hb8; clear hb8
 iterate 2 refine Zv ?_
 refine wl_at rfl (.slice (some ⟨w'.heap.size, 0, none⟩) 2 2) (w' := w'.alloc (.cells #[.int .i64 7, .int .i64 0, .int .i64 1, .int .u32 0, .int .i64 7, .int .i64 0, .int .i64 2, .int .u32 0] 40)) (by first | kernel_rfl | (go_simp; done) | (go_simp; rfl)) ?_
 obtain ⟨w'', bO, e8, eg, XO, hb8⟩ := box1 w' #[.int .i64 7, .int .i64 0, .int .i64 1, .int .u32 0, .int .i64 7, .int .i64 0, .int .i64 2, .int .u32 0] 40; rw [e8, eg]; clear e8 eg; refine Zk ?_; replace hal := hal.trans (hb8.mono hal.size); replace XA := keep XA hb8; clear hb8
 refine wl_at rfl (.slice (some ⟨w''.heap.size, 0, none⟩) 1 1) (w' := w''.alloc (.cells #[.slice (some ⟨bO, 0, none⟩) 2 2] 41)) (by first | kernel_rfl | (go_simp; done) | (go_simp; rfl)) ?_
 obtain ⟨w''', bT, e8, eg, XT, hb8⟩ := box1 w'' #[.slice (some ⟨bO, 0, none⟩) 2 2] 41; rw [e8, eg]; clear e8 eg; refine Zk ?_; replace hal := hal.trans (hb8.mono hal.size); replace XA := keep XA hb8; replace XO := keep XO hb8; clear hb8; refine Zv ?_; refine wl_alloc rfl 26 rfl (.agg #[.slice none 0 0, .int .i64 0, .slice none 0 0, .int .i64 0, .slice none 0 0]) #[.slice none 0 0, .int .i64 0, .slice none 0 0, .int .i64 0, .slice none 0 0] (fun w => by kernel_rfl) rfl (fun w4 bC X4 l4 f4 => ?_); refine Zk ?_; refine wl_store rfl 26 (.tmp 1) (.tmp 11) rfl bC #[.slice (some ⟨bA, 0, none⟩) 1 1, .int .i64 0, .slice none 0 0, .int .i64 1, .slice (some ⟨bT, 0, none⟩) 1 1] rfl rfl 26 _ X4 (by kernel_rfl) rfl (by simp [Value.oneCell']) (fun w5 XC g2 g3 g4 => ?_); refine Zk ?_; have hb5 := l4.trans (g3 _ (by simp only [Hid] at f4; omega)); replace hal := hal.trans (hb5.mono hal.size); replace XA := keep XA hb5; replace XO := keep XO hb5; replace XT := keep XT hb5; clear hb5 X4 l4 f4 g2 g3 g4; have hM := memA XA XO XT; clear XO XT; go_upto_region 2 with (fail); refine grow_headL [0] 2 8 (fun w' => Below w5.heap.size w5 w') _ rfl (by kernel_rfl) (by kernel_rfl) (by decide) (by kernel_rfl) ?_; refine gl_run rfl rfl (by kernel_rfl) (.agg #[.slice (some ⟨bA, 0, none⟩) 1 1, .int .i64 0, .slice none 0 0, .int .i64 1, .slice (some ⟨bT, 0, none⟩) 1 1]) (fun w' h' => ga_load 26 (.tmp 1) rfl bC rfl 26 _ (0, 0) _ (keep XC h') Tryz.underlying26 rfl (by kernel_rfl)) (Zj ?_); refine gl_nil ?_; show anyM _ _ _ _ _ _ _ _ _ _
 have q0 : Below w5.heap.size w5 w5.drew := Below.drew (Below.refl _ _); refine ZM 1 (fun w6 r6 => ⟨fun _ => q0.trans (r6.mono q0.size), ?_⟩); replace q0 := q0.trans (r6.mono q0.size); refine op_mkE eY_ok rfl rfl 27 Tryz.underlying27 0 1 infoY0 (by decide) (.const (.int .i64 60)) (.const (.int .i64 60)) rfl 60 (by decide) rfl rfl (fun w7 bY hOY hb7 => ?_); replace q0 := q0.trans (hb7.mono q0.size); refine ZM 2 (fun w8 r8 => ⟨fun _ => q0.trans (r8.mono q0.size), ?_⟩); replace q0 := q0.trans (r8.mono q0.size); replace hOY := hOY.below r8; have hal8 := hal.trans (q0.mono hal.size); have hr := runsC (clA bA bO bT) w8 (hM.below q0) (hN.below hal8) (hI.below hal8) _ (List.replicate 60 0) (R8.of hOY (fun x hx => by rw [List.eq_of_mem_replicate hx]; omega)) (by simp); rw [runs0, runs1] at hr
 refine op_calls rfl rfl 6 #[.agg #[.slice (some ⟨bA, 0, none⟩) 1 1, .int .i64 0, .slice none 0 0, .int .i64 1, .slice (some ⟨bT, 0, none⟩) 1 1], .slice (some ⟨bY, 0, none⟩) 60 60] (fun v w' => (∃ v', v = .tuple #[v', .int .i64 1] ∧ Own eE w' v' ev0) ∧ Below w8.heap.size w8 w') (by first | (go_simp; done) | (go_simp; rfl)) (hr.mono fun e w' h => h.1.elim fun v' h1 => ⟨_, h1.1, ⟨v', rfl, h1.2⟩, h.2⟩) ?_
 rintro _ w9 ⟨⟨vE, rfl, hOE⟩, hb9⟩; clear hr; refine anyM_restL (F := 0) [3, 4, 5, 6, 7] 0 rfl _ rfl (by kernel_rfl) (by kernel_rfl) (by kernel_rfl) ?_
 iterate 5 refine ZF ?_
 refine gl_nil ?_; refine anyM_end (by kernel_rfl) (by kernel_rfl) (fun w10 r10 => ?_); have hb10 := (q0.trans (hb9.mono q0.size)).trans (r10.mono (Nat.le_trans q0.size hb9.size)); replace hOE := hOE.below r10; replace hal := hal.trans (hb10.mono hal.size); replace hM := hM.below hb10; replace XA := keep XA hb10; replace XC := keep XC hb10; clear q0 hb9 r10 hb10 hOY hb7 r8 r6 hal8
 obtain ⟨g, c, rfl⟩ : ∃ g c, vE = .slice (some ⟨g, 0, none⟩) 13 c := by
  rcases hOE.form with ⟨_, e⟩ | ⟨g, c, e, _⟩
  ·cases e
  ·exact ⟨g, c, e⟩
 obtain ⟨cur, hG, _⟩ := own_cur eE_ok hOE
 have hc : ∀ i x, ev0[i]? = some x → ∀ q v, (evtL x)[q]? = some v → cur[i * 8 + q]? = some v := fun i x hx q v hv => by
  have := ((hOE.at eE_ok).elem eE_ok hx) q v hv; rw [cell_of_row w10 g _ _ _ _ hG, Nat.zero_add] at this; exact this
 have hU : ∀ x ∈ ev0, U32 x.k := by simp [ev0, U32]
 go_upto_region 3 with (fail); refine wp_region_lit ?_; refine Zv ?_; refine wl_calls rfl 7 #[.slice (some ⟨g, 0, none⟩) 13 c] (fun v w' => (∃ rem, (∀ t, t < 8 → (rem t).map crK = K7 ev0 t) ∧ Own eC w' v (mergeF (tot rem) rem)) ∧ Below w10.heap.size w10 w') ?_ ((callsC ev0 (by decide) hU g c w10 cur hG hc).mono fun e w' h => let ⟨⟨v, rem, h1, h2⟩, h3⟩ := h; ⟨v, h1, ⟨rem, h2⟩, h3⟩) ?_
 ·first | (go_simp; done) | (go_simp; rfl)
 rintro vC w11 ⟨⟨rem, hrem, hOC⟩, hb11⟩; refine Zk ?_; have hr0 := (hrem 0 (by decide)).trans k70; have hrt : ∀ t, 1 ≤ t → t < 8 → rem t = [] := fun t h1 h2 => List.map_eq_nil_iff.1 ((hrem t h2).trans (k7t t h1 h2))
 obtain ⟨x1, x2, hx12, k1, k2⟩ : ∃ x1 x2, rem 0 = [x1, x2] ∧ x1.fin = 4 ∧ x2.fin = 11 := by
  match h : rem 0, hr0 with
  | [], hr0 => cases hr0
  | [x], hr0 => simp at hr0
  | [x, y], hr0 =>
   simp [crK] at hr0; exact ⟨x, y, rfl, hr0.1.2.2.2.1, hr0.2.2.2.2.1⟩
  | x :: y :: z :: l, hr0 => simp at hr0
 rw [tot_one hrt, merge_one _ rem rfl hrt, hx12] at hOC
 obtain ⟨gC, cC, rfl⟩ : ∃ gC cC, vC = .slice (some ⟨gC, 0, none⟩) 2 cC := by
  rcases hOC.form with ⟨_, e⟩ | ⟨gC, cC, e, _⟩
  ·cases e
  ·exact ⟨gC, cC, e⟩
 refine Zv ?_
 have y1 : ∀ w', Below w11.heap.size w11 w' → w'.cell? ⟨gC, 3, none⟩ = some (.int .i64 4) := fun w' hb => by
  have := (((hOC.below hb).at eC_ok).elem eC_ok (i := 0) rfl) 3 _ (by rfl); rw [k1] at this; simpa using this
 have y2 : ∀ w', Below w11.heap.size w11 w' → w'.cell? ⟨gC, 9, none⟩ = some (.int .i64 11) := fun w' hb => by
  have := (((hOC.below hb).at eC_ok).elem eC_ok (i := 1) rfl) 3 _ (by rfl); rw [k2] at this; simpa [eC] using this
 replace hal := hal.trans (hb11.mono hal.size); replace hM := hM.below hb11; replace XA := keep XA hb11; replace XC := keep XC hb11; replace hOE := hOE.below hb11; replace hG := keep hG hb11; clear hb11 hrem hr0 hrt hx12 k1 k2; go_upto_region 4 with (fail); refine grow_headL [0, 1, 2, 3, 4, 5, 6, 7, 8, 9, 10, 11, 12, 13, 14, 15, 16, 17, 18, 19, 20, 21, 22, 23, 24, 26] 28 32 (fun w' => Below w11.heap.size w11 w') _ rfl (by kernel_rfl) (by kernel_rfl) (by decide) (by kernel_rfl) ?_
 iterate 22 refine ZR ?_
 refine gl_run rfl rfl (by kernel_rfl) (.agg #[.slice (some ⟨bA, 0, none⟩) 1 1, .int .i64 0, .slice none 0 0, .int .i64 1, .slice (some ⟨bT, 0, none⟩) 1 1]) (fun w' h' => ga_load 26 (.tmp 1) rfl bC rfl 26 _ (0, 0) _ (keep XC h') Tryz.underlying26 rfl (by kernel_rfl)) (Zj ?_); refine gl_run rfl rfl (by kernel_rfl) (.agg #[.slice (some ⟨bA, 0, none⟩) 1 1, .int .i64 0, .slice none 0 0, .int .i64 1, .slice (some ⟨bT, 0, none⟩) 1 1]) (fun w' h' => ga_load 26 (.tmp 1) rfl bC rfl 26 _ (0, 0) _ (keep XC h') Tryz.underlying26 rfl (by kernel_rfl)) (Zj ?_); refine gl_run rfl rfl (by kernel_rfl) (.agg #[.slice (some ⟨bA, 0, none⟩) 1 1, .int .i64 0, .slice none 0 0, .int .i64 1, .slice (some ⟨bT, 0, none⟩) 1 1]) (fun w' h' => ga_load 26 (.tmp 1) rfl bC rfl 26 _ (0, 0) _ (keep XC h') Tryz.underlying26 rfl (by kernel_rfl)) (Zj ?_); refine ZR ?_; refine gl_nil ?_; show anyM _ _ _ _ _ _ _ _ _ _; clear y1 y2; have q0 : Below w11.heap.size w11 w11.drew := Below.drew (Below.refl _ _); refine ZM 25 (fun v1 r1 => ⟨fun _ => q0.trans (r1.mono q0.size), ?_⟩); replace q0 := q0.trans (r1.mono q0.size); have hst : sitesF (clA bA bO bT) 1 = [⟨0, 0, 1, 0⟩, ⟨0, 0, 2, 0⟩] := rfl; have hsc := sitesC (clA bA bO bT) v1 (hM.below q0) (show 1 ≤ 40 by decide) (fun t _ => by show 2 ≤ 100; decide)
 refine op_callsW rfl (by kernel_rfl) 10 #[.agg #[.slice (some ⟨bA, 0, none⟩) 1 1, .int .i64 0, .slice none 0 0, .int .i64 1, .slice (some ⟨bT, 0, none⟩) 1 1]] (fun v w' => Own eSi w' v [⟨0, 0, 1, 0⟩, ⟨0, 0, 2, 0⟩] ∧ Below v1.heap.size v1 w') (by first | (go_simp; done) | (go_simp; rfl)) (hsc.mono fun e w' h => h.1.elim fun v' h1 => ⟨_, h1.1, hst ▸ h1.2, h.2⟩) ?_
 rintro vS v2 ⟨hS, hb2⟩
 obtain ⟨gs, cs, rfl⟩ : ∃ gs cs, vS = .slice (some ⟨gs, 0, none⟩) 2 cs := by
  rcases hS.form with ⟨_, e⟩ | ⟨gs, cs, e, _⟩
  ·cases e
  ·exact ⟨gs, cs, e⟩
 replace q0 := q0.trans (hb2.mono q0.size); clear hb2 hsc hst r1; refine ZM 27 (fun v3 r3 => ⟨fun _ => q0.trans (r3.mono q0.size), ?_⟩); replace q0 := q0.trans (r3.mono q0.size); replace hS := hS.below r3; have hal3 := hal.trans (q0.mono hal.size); have hof := ofC9 (clA bA bO bT) bA 0 rfl rfl rfl (Nat.le_refl 1) v3 (hN.below hal3) (hM.below q0).objs rfl gs cs hS ev0 (by decide) hU g c cur (keep hG q0) hc 0 4 0 5 11 0 k70 k7t (by decide) (by decide) (by decide)
 refine op_callsW rfl (by kernel_rfl) 9 #[.agg #[.slice (some ⟨bA, 0, none⟩) 1 1, .int .i64 0, .slice none 0 0, .int .i64 1, .slice (some ⟨bT, 0, none⟩) 1 1], .slice (some ⟨gs, 0, none⟩) 2 cs, .slice (some ⟨g, 0, none⟩) 13 c] (fun v w' => Own eA w' v [⟨0, 0, 1, 0, 0, 0, 0, 4, true, 0⟩, ⟨0, 0, 2, 0, 0, 0, 1, 5, true, 0⟩] ∧ Below v3.heap.size v3 w') (by first | (go_simp; done) | (go_simp; rfl)) (hof.mono fun e w' h => h.1.elim fun v' h1 => ⟨_, h1.1, h1.2, h.2⟩) ?_
 rintro vL v4 ⟨hL, hb4⟩; replace q0 := q0.trans (hb4.mono q0.size); clear hb4 hof hS r3 hal3; refine ZM 28 (fun v5 r5 => ⟨fun _ => q0.trans (r5.mono q0.size), ?_⟩); replace q0 := q0.trans (r5.mono q0.size); replace hL := hL.below r5; have hal5 := hal.trans (q0.mono hal.size); have hjd := judgeC (clA bA bO bT) bA rfl rfl rfl v5 (hN.below hal5) (keep XA q0) vL 0 4 1 5 hL
 refine op_callsW rfl (by kernel_rfl) 8 #[.agg #[.slice (some ⟨bA, 0, none⟩) 1 1, .int .i64 0, .slice none 0 0, .int .i64 1, .slice (some ⟨bT, 0, none⟩) 1 1], vL] (fun v w' => v = .int .i64 (-1) ∧ Below v5.heap.size v5 w') (by first | (go_simp; done) | (go_simp; rfl)) (hjd.mono fun e w' h => ⟨_, h.1, rfl, h.2⟩) ?_
 rintro _ v6 ⟨rfl, hb6⟩; replace q0 := q0.trans (hb6.mono q0.size); clear hb6 hjd hL r5 hal5; refine anyM_restL (F := 0) [29, 30, 31] 0 rfl _ rfl (by kernel_rfl) (by kernel_rfl) (by kernel_rfl) ?_
 iterate 3 refine ZF ?_
 refine gl_nil ?_; refine anyM_end (by kernel_rfl) (by kernel_rfl) (fun v7 r7 => ?_); have hf := hal.trans ((q0.trans (r7.mono q0.size)).mono hal.size); clear q0 r7; go_wp2; go_ret; exact ⟨rfl, hf⟩
end Go.Proofs.YtbcgngfbbbfebaaGreatDoor
namespace Go.Proofs.YtbcgngfbbbfebaaGreatDoor
open Go.ChangeShapes Go.WideShapes Go.ChangeAt Go.RowKit
set_option maxRecDepth 100000
set_option maxHeartbeats 32000000
set_option linter.unusedVariables false
theorem front_lifted (os : Os) (started : os.Started) (H : Type) (enc : TypeId × Value → H) :
  ReturnsInHanded {} Tryz.checked os 3 .any (fun w args => (Rows.topFrontSpec.pre enc Tryz.prog Tryz.f3 [] false w args ∧ laidMetH Tryz.prog laidT w) ∧ sizedMet enc Tryz.prog Tryz.f3 (OpenSpec.ofChange Rows.topFrontSpec) false w args) (Rows.topFrontSpec.post enc Tryz.prog Tryz.f3 false true false false) := by
 refine returnsInHanded_of_change_and (C := Tryz.checked) (X := fun w _ => laidMetH Tryz.prog laidT w) (fun _ _ _ hh h => h.of_heap hh) own started (by kernel_rfl) Tryz.func3
  (ChangeSpec.witness_shaped (enc := enc) (C := Tryz.checked) (os := os) (X := fun w _ => laidMetH Tryz.prog laidT w) false (World.doorLaid Tryz.prog 400 os) #[.agg #[.slice none 0 0, .int .i64 0, .slice none 0 0, .int .i64 0, .slice none 0 0], .slice none 0 0, .slice none 0 0] 8 rfl (World.shaped_of_RefB (by kernel_rfl) (by kernel_rfl)) (by kernel_rfl) (by kernel_rfl) (by kernel_rfl) (door_met os _)) ?_
 intro W base args ds gs before hval0 hW _ _ hL _; have hval : ∀ (j : Nat) t v, Tryz.f3.params[j]? = some t → args[j]? = some v → Value.okWide Tryz.prog W .any base t v := hval0; have hW' := hW; obtain ⟨p, q, hA0, hV, rfl, hfz, hnd⟩ := hW; have hA : DataW.TrodAll enc Tryz.prog W 0 (fun _ => true) true Tryz.f3.params.toList args.toList ds p := hA0; have hAk := hA; rw [Tryz.params3] at hA hval; obtain ⟨v0, vs0, d0, ds0, p0, q0, hargs, rfl, rfl, h0, r0⟩ := trodAll_cons hA; obtain ⟨v1, vs1, d1, ds1, p1, q1, rfl, rfl, rfl, h1, r1⟩ := trodAll_cons r0; obtain ⟨v2, vs2, d2, ds2, p2, q2, rfl, rfl, rfl, h2, r2⟩ := trodAll_cons r1; obtain ⟨rfl, rfl, rfl⟩ := trodAll_nil r2
 obtain rfl : args = #[v0, v1, v2] := by cases args; simp_all
 obtain ⟨rfl, rfl⟩ := trodVars_none hV; obtain ⟨C0, rfl, hm0⟩ := open_client (hval 0 26 v0 rfl rfl) h0; obtain ⟨s1, hu1⟩ := open_u8s (hval 1 27 v1 rfl rfl) h1; obtain ⟨s2, hu2⟩ := open_u8s (hval 2 27 v2 rfl rfl) h2
 refine (topC awakeC C0 W hm0 (all_of_laid hL).1 (all_of_laid hL).2 v1 v2 s1 s2 hu1 hu2).mono fun e W' ⟨he, hb⟩ => ?_
 subst he; exact ⟨_, rfl, law_post laid (by rw [Tryz.params3]; decide +kernel) hW' hAk (by simp) rfl rfl rfl rfl (by kernel_rfl) Tryz.underlying4 hb⟩

theorem front_row : Rows.TopFrontSaid :=
 OpenClaim.holds_of_wide 3 Tryz.f3 rfl rfl rfl rfl rfl rfl rfl ⟨rfl, rfl, rfl, rfl, rfl⟩ rfl rfl rfl rfl rfl (by kernel_rfl) Tryz.func3 (by kernel_rfl)
  (of_decide_eq_true (by kernel_rfl)) (by unfold Func.isWrapper; first | (rw [if_pos (by decide +kernel)]; kernel_rfl) | (rw [if_neg (by decide +kernel)]; exact ⟨rfl, rfl⟩))
  (fun os started H enc _ => front_lifted os started H enc)
theorem front_card : Rows.TopFrontCardSaid :=
 Claim7.holds_tied_plain_at .later [] [.data, .data, .widerDeep] true (true, "62e09cdd91e9a0346d504c6ac0cfa9f690d3d871c8fa107eaef57dc9960caca3") true
  front_row (fun _ h => by cases h) (by kernel_rfl) (fun _ h => by cases h) topFront_row_tie rfl ⟨rfl, rfl⟩ (by kernel_rfl) rfl
  (fun f fn hf hfn => by
   obtain rfl : f = 3 := Option.some.inj ((show Tryz.prog.funcNamed "deadlatch/deadlatchtop.TopFront" = some 3 by kernel_rfl).symm.trans hf) |>.symm; obtain rfl : fn = Tryz.f3 := (Option.some.inj (Tryz.func3.symm.trans hfn)).symm
   exact ⟨by kernel_rfl, fun j t ht => by
    rw [Tryz.params3] at ht
    have hm : t ∈ [26, 27, 27] := by simpa using Array.mem_of_getElem? ht
    have hall : ([26, 27, 27].all fun u => !Tryz.prog.wantsStandIn u) = true := by kernel_rfl
    exact (show Tryz.prog.wantsStandIn t = false by simpa using List.all_eq_true.1 hall t hm)⟩)
  (by kernel_rfl)
end Go.Proofs.YtbcgngfbbbfebaaGreatDoor
