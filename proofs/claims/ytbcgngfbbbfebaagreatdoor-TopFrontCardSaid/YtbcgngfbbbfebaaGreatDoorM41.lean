/- The law's walk, given that its beginning holds. -/
import Derived.Test.YtbcgngfbbbfebaaGreatDoorM40
import Derived.Laws.StructEq
namespace Go.Proofs.YtbcgngfbbbfebaaGreatDoor
open Go.RowKit Go.Maps
set_option maxRecDepth 100000
set_option maxHeartbeats 32000000
set_option linter.unusedVariables false
set_option linter.unusedSimpArgs false
section
variable {P : Program} {ops : Array Oper} {md : Region.Mode} {Q : Exit → Act → World → Prop} {D : World → Prop}
def closedB (md : Region.Mode) (ops : Array Oper) (listed : Array Bool) : Bool := (List.range ops.size).all fun j => match ops[j]? with
 | none => true
 | some o => !listed.getD j false || o.after.all fun e => !Region.binds md e || listed.getD e.on false
theorem closedB_of {listed : Array Bool} (h : closedB md ops listed = true) : Closed md ops listed := fun j oj hj hl e he hb => by
 have h1 := List.all_eq_true.1 h j (List.mem_range.2 (by
  rcases Nat.lt_or_ge j ops.size with h | h
  ·exact h
  ·rw [Array.getElem?_eq_none h] at hj; cases hj))
 rw [hj] at h1; simp only [hl, Bool.not_true, Bool.false_or] at h1; have h2 := (Array.all_eq_true_iff_forall_mem.1 h1) e he; rw [hb] at h2
 simpa using h2
theorem anyM_restL {m F f : Nat} {listed : Array Bool} {a : Act} {w : World} (is : List Nat) (g : Nat) (hf : f = is.length + g) (om : Oper) (hom : ops[m]? = some om) (hs : Region.noSelect ops = true) (hcl : closedB md ops listed = true) (hB : lexL md ops m is listed = true)
  (h : wpGrowL P md ops D m F (fun a' => anyM P md ops D m (noP Q) g (markL is listed) a' w) is a) : anyM P md ops D m (noP Q) f listed a w := by
 subst hf; exact anyM_lexL hs (fun _ _ _ _ _ h => h) om hom is listed a (closedB_of hcl) hB (fun a' h => h) h
end
theorem row_range {w : World} {k : Nat} {cs : List Value} {ty : TypeId} (h : w.heap[k]? = some (.cells cs.toArray ty (0, 0))) : w.rangeAt k 0 cs := fun q v hv => by
 rw [cell_of_row w k _ _ ty _ h, Nat.zero_add]
 simpa using hv
theorem infoY : (Tryz.prog.info? eY.ty).map (fun i => (i.zero.map (·.cells.size), i.size, i.bytes)) = some (some eY.sz, eY.sz, 1) := by kernel_rfl
theorem run_app8 {w : World} (ty : TypeId) {v x : Value} {l s : List Int} (hO : Own eY w v l) (hR : R8 w x s) (hl : l.length + s.length ≤ 4000000) : ∃ v' w', (Builtin.append_ #[27, 27] ty #[v, x]).run Tryz.prog w = .ok v' w' ∧ Own eY w' v' (l ++ s) ∧ w.grownBy w' v.ownBlock ∧ (v'.ownBlock = v.ownBlock ∨ v'.ownBlock = some w.heap.size) := by
 obtain ⟨i0, z, hi0, hz0, hzc, hz1, hz2⟩ := info_get infoY; rcases hR.2 with ⟨rfl, rfl⟩ | ⟨a, c, rfl, h⟩
 ·exact ⟨v, w, run_append_owned_none w 0 27 ty 5 i0 1 Tryz.underlying27 hi0 v _ _ hO, by rw [List.append_nil]; exact hO, .refl _ _, .inl rfl⟩
 ·by_cases hn : 0 < s.length
  ·obtain ⟨b, off, rfl, _, hr⟩ := h hn
   exact run_appE eY_ok 27 ty Tryz.underlying27 1 infoY v l s hO b off c hr hl (by decide)
  ·have : s = [] := List.eq_nil_of_length_eq_zero (by omega)
   subst this; obtain ⟨v', w', hrun, h2, h3, _, h5⟩ := run_append_own_at (P := Tryz.prog) w 0 27 ty 5 i0 z 1 1 Tryz.underlying27 hi0 hz0 hz1 hz2 hzc (by decide) v l.length _ hO a 0 c [] rfl (fun j u hu => by simp at hu) (fun u hu => by cases hu) (by simp only [maxLen]; omega) (by omega) (Nat.zero_le _); exact ⟨v', w', hrun, by rw [List.append_nil] at h2 ⊢; exact h2, h3, h5⟩
theorem op_app8 {ops : Array Oper} {Q : Exit → Act → World → Prop} {i : Nat} {K : Act → World → Prop} {o : Oper} {a : Act} {w : World} (hi : ops[i]? = some o) (hgd : o.guard = none) (s x : Operand) (ho : o.op = .call { callee := .builtin .append, args := #[s, x], argTypes := #[27, 27] }) {l m : List Int} {v y : Value} (hs : a.eval s = v) (hx : a.eval x = y)
  (hO : Own eY w v l) (hR : R8 w y m) (hl : l.length + m.length ≤ 4000000) (h : ∀ v' w', Own eY w' v' (l ++ m) → w.grownBy w' v.ownBlock → (v'.ownBlock = v.ownBlock ∨ v'.ownBlock = some w.heap.size) → K (a.put o.dst v') w') : wpOp Tryz.prog ops Q i K a w := by
 obtain ⟨v', w', hrun, h2, h3, h5⟩ := run_app8 o.type hO hR hl; unfold wpOp; simp only [hi]
 have hw : Region.wanted o (yielded ops a.tmps) = true := by simp [Region.wanted, hgd]
 rw [if_pos hw]; refine .inl ?_; unfold Oper.wp execOp; simp only [ho, resolve, invoke, builtin, Sem.run_bind, Sem.run_pure, Result.andThen_ok, List.map_toArray, List.map_cons, List.map_nil, hs, hx, hrun]; exact h v' w' h2 h3 h5
theorem runs_len {C : Cl} (hK : ∀ t i, t < C.nt → i < C.len t → 0 ≤ (C.op t i).K ∧ (C.op t i).K < 4294967296) (s : List Int) (hs : s.length ≤ 3000) : (runsF C s).length ≤ 400000 := by
 unfold runsF
 split
 ·rename_i h
  have h1 := (run_st (s.map pickOf) (mok_new h.1 hK h.2) (by simp only [newM, List.length_nil, List.length_map]; omega)).ev; simp only [newM, List.length_nil, List.length_map] at h1; exact Nat.le_trans h1 (by omega)
 ·exact Nat.zero_le _
theorem runs_front {C : Cl} (hK : ∀ t i, t < C.nt → i < C.len t → 0 ≤ (C.op t i).K ∧ (C.op t i).K < 4294967296) (s m : List Int) (hs : s.length ≤ 3000) (hm : m.length ≤ 3000) : runsF C s <+: runsF C (s ++ m) := by
 unfold runsF
 split
 ·rename_i h
  unfold evF; rw [List.map_append, run_app]; have h0 := mok_new h.1 hK h.2; have h1 := run_st (s.map pickOf) h0 (by simp only [newM, List.length_nil, List.length_map]; omega); have h2 := h1.slp; simp only [newM, List.length_nil, List.length_map] at h2; exact (run_st (m.map pickOf) h1.ok (by rw [List.length_map]; exact Nat.le_trans (Nat.add_le_add h2 hm) (by omega))).pre
 ·exact List.prefix_refl _
theorem topC (aw : ∀ w : World, NmW w → IsaW w → Calls Tryz.prog 4 #[] w fun e w' => e = .returned (.bool true) ∧ Below w.heap.size w w') (C : Cl) (w : World) (hM : MemC w C) (hN : NmW w) (hI : IsaW w) (v1 v2 : Value) (s m : List Int) (h1 : R8 w v1 s) (h2 : R8 w v2 m) : Calls Tryz.prog 3 #[C.v, v1, v2] w fun e w' => e = .returned (.bool true) ∧ Below w.heap.size w w' := by
 obtain ⟨p1, c1, rfl⟩ := h1.form; obtain ⟨p2, c2, rfl⟩ := h2.form; obtain ⟨n1, hn1⟩ : ∃ n, Hid (n = s.length) := ⟨_, rfl⟩; obtain ⟨n2, hn2⟩ : ∃ n, Hid (n = m.length) := ⟨_, rfl⟩; rw [← hn1.out] at h1 ⊢; rw [← hn2.out] at h2 ⊢; unfold Cl.v; go_enter Tryz.func3, Tryz.ntmps3; go_upto_region 1 with (fail); obtain ⟨W, kC, e0, e1, XC, hal⟩ := box1 w #[.slice C.A C.no C.ca, .int .i64 C.vars, .slice C.W C.nw C.cw, .int .i64 C.room, .slice C.T C.nt C.ct] 26; rw [e0, e1]; clear e0 e1; go_cut [28] from 12 to 28 (fun s28 wx => ∃ bb, s28 = .bool bb ∧ (bb = false → n1 ≤ 3000 ∧ n2 ≤ 3000) ∧ Below W.heap.size W wx)
 case first =>
  cases hlb : longB C with
  | true =>
   have hlg : lgI C = 1 := if_pos hlb; refine wp_region_lit ?_; refine Zq 4 #[] (aw W (hN.below hal) (hI.below hal)) (fun w1 h1b => ?_)
   iterate 2 refine Zv ?_
   refine wl_on (by kernel_rfl) (.agg #[.slice C.A C.no C.ca, .int .i64 C.vars, .slice C.W C.nw C.cw, .int .i64 C.room, .slice C.T C.nt C.ct]) (run_ldm 26 (.tmp 3) rfl kC 0 rfl [.slice C.A C.no C.ca, .int .i64 C.vars, .slice C.W C.nw C.cw, .int .i64 C.room, .slice C.T C.nt C.ct] _ (row_range (keep XC h1b)) Tryz.underlying26 rfl (by kernel_rfl)) ?_; refine Zk ?_
   with_reducible refine wl_con (by kernel_rfl) 5 #[C.v] ?_ (longC C w1 (hM.below (hal.trans (h1b.mono hal.size)))) (fun w2 h2b => ?_)
   ·first | (go_simp; done) | (go_simp; rfl)
   refine Zk ?_
   with_reducible refine wl_on (by kernel_rfl) ?_ ?_ ?_
   rotate_left
   ·go_simp; try with_reducible rfl
   refine Zk ?_
   iterate 2 refine Zv ?_
   iterate 3
    with_reducible refine wl_off (by kernel_rfl) ?_
    refine Zk ?_
   iterate 2 refine Zv ?_
   iterate 3
    with_reducible refine wl_off (by kernel_rfl) ?_
    refine Zk ?_
   refine Zv ?_; go_wp2; go_meet
   case rel => exact ⟨true, rfl, fun h => (by cases h), h1b.trans (h2b.mono h1b.size)⟩
  | false =>
   have hlg : lgI C = 0 := if_neg (by rw [hlb]; decide)
   by_cases k1 : 3000 < n1
   ·have k1' : (3000 : Int) < n1 := by omega
    refine wp_region_lit ?_; refine Zq 4 #[] (aw W (hN.below hal) (hI.below hal)) (fun w1 h1b => ?_)
    iterate 2 refine Zv ?_
    refine wl_on (by kernel_rfl) (.agg #[.slice C.A C.no C.ca, .int .i64 C.vars, .slice C.W C.nw C.cw, .int .i64 C.room, .slice C.T C.nt C.ct]) (run_ldm 26 (.tmp 3) rfl kC 0 rfl [.slice C.A C.no C.ca, .int .i64 C.vars, .slice C.W C.nw C.cw, .int .i64 C.room, .slice C.T C.nt C.ct] _ (row_range (keep XC h1b)) Tryz.underlying26 rfl (by kernel_rfl)) ?_; refine Zk ?_
    with_reducible refine wl_con (by kernel_rfl) 5 #[C.v] ?_ (longC C w1 (hM.below (hal.trans (h1b.mono hal.size)))) (fun w2 h2b => ?_)
    ·first | (go_simp; done) | (go_simp; rfl)
    refine Zk ?_
    with_reducible refine wl_on (by kernel_rfl) ?_ ?_ ?_
    rotate_left
    ·go_simp; try with_reducible rfl
    refine Zk ?_
    iterate 2 refine Zv ?_
    iterate 3
     with_reducible refine wl_on (by kernel_rfl) ?_ ?_ ?_
     rotate_left
     ·go_simp; try with_reducible rfl
     refine Zk ?_
    iterate 2 refine Zv ?_
    iterate 3
     with_reducible refine wl_off (by kernel_rfl) ?_
     refine Zk ?_
    refine Zv ?_; go_wp2; go_meet
    case rel => exact ⟨true, rfl, fun h => (by cases h), h1b.trans (h2b.mono h1b.size)⟩
   have k1' : ¬ (3000 : Int) < n1 := by omega
   by_cases k2 : 3000 < n2
   ·have k2' : (3000 : Int) < n2 := by omega
    refine wp_region_lit ?_; refine Zq 4 #[] (aw W (hN.below hal) (hI.below hal)) (fun w1 h1b => ?_)
    iterate 2 refine Zv ?_
    refine wl_on (by kernel_rfl) (.agg #[.slice C.A C.no C.ca, .int .i64 C.vars, .slice C.W C.nw C.cw, .int .i64 C.room, .slice C.T C.nt C.ct]) (run_ldm 26 (.tmp 3) rfl kC 0 rfl [.slice C.A C.no C.ca, .int .i64 C.vars, .slice C.W C.nw C.cw, .int .i64 C.room, .slice C.T C.nt C.ct] _ (row_range (keep XC h1b)) Tryz.underlying26 rfl (by kernel_rfl)) ?_; refine Zk ?_
    with_reducible refine wl_con (by kernel_rfl) 5 #[C.v] ?_ (longC C w1 (hM.below (hal.trans (h1b.mono hal.size)))) (fun w2 h2b => ?_)
    ·first | (go_simp; done) | (go_simp; rfl)
    refine Zk ?_
    with_reducible refine wl_on (by kernel_rfl) ?_ ?_ ?_
    rotate_left
    ·go_simp; try with_reducible rfl
    refine Zk ?_
    iterate 2 refine Zv ?_
    iterate 3
     with_reducible refine wl_on (by kernel_rfl) ?_ ?_ ?_
     rotate_left
     ·go_simp; try with_reducible rfl
     refine Zk ?_
    iterate 2 refine Zv ?_
    iterate 3
     with_reducible refine wl_on (by kernel_rfl) ?_ ?_ ?_
     rotate_left
     ·go_simp; try with_reducible rfl
     refine Zk ?_
    refine Zv ?_; go_wp2; go_meet
    case rel => exact ⟨true, rfl, fun h => (by cases h), h1b.trans (h2b.mono h1b.size)⟩
   have k2' : ¬ (3000 : Int) < n2 := by omega
   refine wp_region_lit ?_; refine Zq 4 #[] (aw W (hN.below hal) (hI.below hal)) (fun w1 h1b => ?_)
   iterate 2 refine Zv ?_
   refine wl_on (by kernel_rfl) (.agg #[.slice C.A C.no C.ca, .int .i64 C.vars, .slice C.W C.nw C.cw, .int .i64 C.room, .slice C.T C.nt C.ct]) (run_ldm 26 (.tmp 3) rfl kC 0 rfl [.slice C.A C.no C.ca, .int .i64 C.vars, .slice C.W C.nw C.cw, .int .i64 C.room, .slice C.T C.nt C.ct] _ (row_range (keep XC h1b)) Tryz.underlying26 rfl (by kernel_rfl)) ?_; refine Zk ?_
   with_reducible refine wl_con (by kernel_rfl) 5 #[C.v] ?_ (longC C w1 (hM.below (hal.trans (h1b.mono hal.size)))) (fun w2 h2b => ?_)
   ·first | (go_simp; done) | (go_simp; rfl)
   refine Zk ?_
   with_reducible refine wl_on (by kernel_rfl) ?_ ?_ ?_
   rotate_left
   ·go_simp; try with_reducible rfl
   refine Zk ?_
   iterate 2 refine Zv ?_
   iterate 3
    with_reducible refine wl_on (by kernel_rfl) ?_ ?_ ?_
    rotate_left
    ·go_simp; try with_reducible rfl
    refine Zk ?_
   iterate 2 refine Zv ?_
   iterate 3
    with_reducible refine wl_on (by kernel_rfl) ?_ ?_ ?_
    rotate_left
    ·go_simp; try with_reducible rfl
    refine Zk ?_
   refine Zv ?_; go_wp2; go_meet
   case rel => exact ⟨false, rfl, fun _ => ⟨by omega, by omega⟩, h1b.trans (h2b.mono h1b.size)⟩
 case rest =>
  obtain ⟨bb, rfl, hlen, hbc⟩ := hcut; have hal2 := hal.trans (hbc.mono hal.size); replace XC := keep XC hbc; clear hal hbc
  cases bb with
  | true =>
   go_upto_region 2 with (fail); refine wp_region_lit ?_; refine Zq 4 #[] (aw wc (hN.below hal2) (hI.below hal2)) (fun w3 h3 => ?_); refine Zv ?_; go_wp2; go_ret; exact ⟨rfl, hal2.trans (h3.mono hal2.size)⟩
  | false =>
  obtain ⟨k1, k2⟩ := hlen rfl; obtain ⟨ri, hri⟩ : ∃ q, Hid (q = runsI C) := ⟨_, rfl⟩; obtain ⟨a, ha⟩ : ∃ q, Hid (q = runsF C s) := ⟨_, rfl⟩; obtain ⟨b, hb⟩ : ∃ q, Hid (q = runsF C (s ++ m)) := ⟨_, rfl⟩
  have hpre : a <+: b := by rw [ha.out, hb.out]; exact runs_front hM.hK s m (by rw [← hn1.out]; exact k1) (by rw [← hn2.out]; exact k2)
  have hla : a.length ≤ 400000 := by rw [ha.out]; exact runs_len hM.hK s (by rw [← hn1.out]; exact k1)
  have hr1 := runsC C wc (hM.below hal2) (hN.below hal2) (hI.below hal2) _ s (h1.below hal2) (by rw [← hn1.out]; omega); rw [← hri.out, ← ha.out] at hr1; go_upto_region 3 with (fail); refine wp_region_lit ?_; refine Zd 26 XC Tryz.underlying26 ?_; refine Zv ?_; refine wl_calls rfl 6 #[C.v, .slice p1 n1 c1] (fun v w' => (∃ v', v = .tuple #[v', .int .i64 ri] ∧ Own eE w' v' a) ∧ Below wc.heap.size wc w') ?_ (hr1.mono fun e w' h => h.1.elim fun v' h1 => ⟨_, h1.1, ⟨v', rfl, h1.2⟩, h.2⟩) ?_
  ·first | (go_simp; done) | (go_simp; rfl)
  rintro _ w3 ⟨⟨va, rfl, hOa⟩, hb3⟩; refine Zk ?_
  iterate 5 refine Zv ?_
  obtain ⟨pa, ca, rfl⟩ := hOa.form2; have hal3 := hal2.trans (hb3.mono hal2.size); replace XC := keep XC hb3; clear hal2 hb3 hr1 ha; go_upto_region 4 with (fail); go_cut [9, 10] from 37 to 45 (fun s9 s10 wx => s10 = .int .i64 ri ∧ Own eE wx s9 b ∧ Below w3.heap.size w3 wx)
  case first =>
   refine grow_headL [0, 2, 4] 6 9 (fun w' => w'.heap[kC]? = w3.heap[kC]?) _ rfl (by kernel_rfl) (by kernel_rfl) (by decide) (by kernel_rfl) ?_; refine gl_run rfl rfl (by kernel_rfl) (.agg #[.slice C.A C.no C.ca, .int .i64 C.vars, .slice C.W C.nw C.cw, .int .i64 C.room, .slice C.T C.nt C.ct]) (fun w' h' => ga_load 26 (.tmp 3) rfl _ rfl _ _ (0, 0) _ (h'.trans XC) Tryz.underlying26 rfl (by kernel_rfl)) (Zj ?_)
   iterate 2 refine ZF ?_
   refine gl_nil ?_; show anyM _ _ _ _ _ _ _ _ _ _; have q0 : Below w3.heap.size w3 w3.drew := Below.drew (Below.refl _ _); have kp : ∀ w', Below w3.heap.size w3 w' → w'.heap[kC]? = w3.heap[kC]? := fun w' h => h.block kC (blk_lt XC); refine ZM 1 (fun w4 r4 => ⟨fun _ => kp _ (q0.trans (r4.mono q0.size)), ?_⟩); have q4 := q0.trans (r4.mono q0.size); clear q0 r4; refine op_at rfl rfl (.slice (some ⟨w4.heap.size, 0, none⟩) 0 0) (w' := w4.alloc (.cells #[] 5)) (by kernel_rfl) ?_; have hO5 : Own eY (w4.alloc (.cells #[] 5)) (.slice (some ⟨w4.heap.size, 0, none⟩) 0 0) [] := Own.empty (E := eY) w4; have q5 : Below w3.heap.size w3 (w4.alloc (.cells #[] 5)) := q4.alloc q4.size _; obtain ⟨w5, hw5⟩ : ∃ q, q = w4.alloc (.cells #[] 5) := ⟨_, rfl⟩; obtain ⟨g5, hg5⟩ : ∃ q, q = w4.heap.size := ⟨_, rfl⟩; rw [← hw5, ← hg5] at hO5 ⊢; rw [← hw5] at q5
   have hg5' : w3.heap.size ≤ g5 := by rw [hg5]; exact q4.size
   clear hw5 hg5 q4; refine ZM 3 (fun w6 r6 => ⟨fun _ => kp _ (q5.trans (r6.mono q5.size)), ?_⟩); have q6 := q5.trans (r6.mono q5.size); refine op_app8 rfl rfl (.tmp 38) (.tmp 39) rfl rfl rfl (hO5.below r6) (h1.below (hal3.trans (q6.mono hal3.size))) (by rw [← hn1.out, List.length_nil]; omega) (fun v7 w7 hO7 hg7 hl7 => ?_); rw [List.nil_append] at hO7; have q7 : Below w3.heap.size w3 w7 := q6.grown hg7 q6.size (fun k e => by cases e; exact hg5')
   have hv7 : ∀ k, v7.ownBlock = some k → w3.heap.size ≤ k := fun k e => by
    rcases hl7 with h | h
    ·rw [h] at e; cases e; exact hg5'
    ·rw [h] at e; cases e; exact q6.size
   clear hg7 hl7 q5 q6 r6 hO5; refine ZM 5 (fun w8 r8 => ⟨fun _ => kp _ (q7.trans (r8.mono q7.size)), ?_⟩); have q8 := q7.trans (r8.mono q7.size); refine op_app8 rfl rfl (.tmp 40) (.tmp 41) rfl rfl rfl (hO7.below r8) (h2.below (hal3.trans (q8.mono hal3.size))) (by rw [← hn1.out, ← hn2.out]; omega) (fun v9 w9 hO9 hg9 hl9 => ?_); have q9 : Below w3.heap.size w3 w9 := q8.grown hg9 q8.size hv7; clear hg9 hl9 q7 q8 r8 hO7 hv7; refine ZM 6 (fun w10 r10 => ⟨fun _ => kp _ (q9.trans (r10.mono q9.size)), ?_⟩); have q10 := q9.trans (r10.mono q9.size); have hal10 := hal3.trans (q10.mono hal3.size); have hr2 := runsC C w10 (hM.below hal10) (hN.below hal10) (hI.below hal10) v9 (s ++ m) (R8.of (hO9.below r10) (fun x hx => (List.mem_append.1 hx).elim (h1.1 x) (h2.1 x))) (by rw [List.length_append, ← hn1.out, ← hn2.out]; omega); rw [← hri.out, ← hb.out] at hr2
   refine op_calls rfl rfl 6 #[C.v, v9] (fun v w' => (∃ v', v = .tuple #[v', .int .i64 ri] ∧ Own eE w' v' b) ∧ Below w10.heap.size w10 w') (by first | (go_simp; done) | (go_simp; rfl)) (hr2.mono fun e w' h => h.1.elim fun v' h1 => ⟨_, h1.1, ⟨v', rfl, h1.2⟩, h.2⟩) ?_
   rintro _ w11 ⟨⟨vb, rfl, hOb⟩, hb11⟩; clear hr2; refine anyM_restL (F := 0) [7, 8, 9, 10, 11] 0 rfl _ rfl (by kernel_rfl) (by kernel_rfl) (by kernel_rfl) ?_
   iterate 5 refine ZF ?_
   refine gl_nil ?_; refine anyM_end (by kernel_rfl) (by kernel_rfl) (fun w12 r12 => ?_); go_wp2; go_meet
   case rel => exact ⟨rfl, hOb.below r12, (q10.trans (hb11.mono q10.size)).trans (r12.mono (Nat.le_trans q10.size hb11.size))⟩
  case rest =>
   obtain ⟨rfl, hOb, hb4⟩ := hcut; obtain ⟨pb, cb, rfl⟩ := hOb.form2; have hOa4 := hOa.below hb4; have hal4 := hal3.trans (hb4.mono hal3.size); clear hOa hal3 hb4 hri hb hn1 hn2 hM hN hI h1 h2 XC aw k1 k2 hlen; have hle : a.length ≤ b.length := hpre.length_le
   have hat : ∀ i, i < a.length → b[i]? = a[i]? := fun i hi => by
    obtain ⟨t, rfl⟩ := hpre; rw [List.getElem?_append_left hi]
   obtain ⟨na, hna⟩ : ∃ n, Hid (n = a.length) := ⟨_, rfl⟩; obtain ⟨nb, hnb⟩ : ∃ n, Hid (n = b.length) := ⟨_, rfl⟩; rw [← hna.out] at hle hOa4 hat hla ⊢; rw [← hnb.out] at hle hOb ⊢
   have hle' : ¬ (nb : Int) < na := by omega
   go_upto_region 8 with (fail); go_loopw [11] (fun v wr => ∃ i : Nat, v = .int .i64 i ∧ i ≤ na ∧ Below wc.heap.size wc wr) (fun v _ => na - (intOf v).toNat)
   case atStart => exact ⟨0, rfl, Nat.zero_le _, Below.refl _ _⟩
   case round =>
    obtain ⟨i, rfl, hi, hbi⟩ := hrel
    by_cases hlt : i < na
    case neg =>
     have hl1 : ¬ ((i : Int) < na) := by omega
     clear hlt hat
     go_wp2; go_ret; exact ⟨rfl, hal4.trans (hbi.mono hal4.size)⟩
    have hl0 : (0 : Int) ≤ i := by omega
    have hl1 : (i : Int) < na := by omega
    have hl2 : (i : Int) < nb := by omega
    obtain ⟨q, hq⟩ : ∃ q, a[i]? = some q := ⟨a[i]'(by rw [← hna.out]; exact hlt), List.getElem?_eq_getElem _⟩
    have hq2 : b[i]? = some q := by rw [hat i hlt]; exact hq
    obtain ⟨ga, rfl⟩ : ∃ g, pa = some ⟨g, 0, none⟩ := by
     rcases hOa4.form with ⟨_, e⟩ | ⟨g, c, e, _⟩
     ·rw [e] at hq; cases hq
     ·simp only [Value.slice.injEq] at e; exact ⟨g, e.1⟩
    obtain ⟨gb, rfl⟩ : ∃ g, pb = some ⟨g, 0, none⟩ := by
     rcases hOb.form with ⟨_, e⟩ | ⟨g, c, e, _⟩
     ·rw [e] at hq2; cases hq2
     ·simp only [Value.slice.injEq] at e; exact ⟨g, e.1⟩
    have ra : ∀ w', Below wr.heap.size wr w' → w'.rangeAt ga (i * 8) (evtL q) := fun w' h' => by
     have h1 := ((hOa4.below (hbi.trans (h'.mono hbi.size))).at eE_ok).elem eE_ok hq; rw [Nat.zero_add] at h1; exact h1
    have rb : ∀ w', Below wr.heap.size wr w' → w'.rangeAt gb (i * 8) (evtL q) := fun w' h' => by
     have h1 := ((hOb.below (hbi.trans (h'.mono hbi.size))).at eE_ok).elem eE_ok hq2; rw [Nat.zero_add] at h1; exact h1
    clear hq hq2 hat hlt; obtain ⟨q1, q2, q3, q4, q5, q6, q7, q8⟩ := q; go_upto_region 10 with (fail); refine ZA wr ?_
    iterate 2 refine Zz ?_
    refine Zy (.pointer (some ⟨ga, i * 8, none⟩)) (fun w' h' => by go_simp) ?_; refine Zy (.agg #[.int .i64 q1, .int .i64 q2, .int .i64 q3, .int .i64 q4, .int .u32 q5, .int .u32 q6, .int .u32 q7, .bool q8]) (fun w' h' => run_ldm 35 (.tmp 64) rfl ga (i * 8) rfl [.int .i64 q1, .int .i64 q2, .int .i64 q3, .int .i64 q4, .int .u32 q5, .int .u32 q6, .int .u32 q7, .bool q8] _ (ra w' h') Tryz.underlying35 rfl (by kernel_rfl)) ?_
    iterate 2 refine Zz ?_
    refine Zy (.pointer (some ⟨gb, i * 8, none⟩)) (fun w' h' => by go_simp) ?_; refine Zy (.agg #[.int .i64 q1, .int .i64 q2, .int .i64 q3, .int .i64 q4, .int .u32 q5, .int .u32 q6, .int .u32 q7, .bool q8]) (fun w' h' => run_ldm 35 (.tmp 68) rfl gb (i * 8) rfl [.int .i64 q1, .int .i64 q2, .int .i64 q3, .int .i64 q4, .int .u32 q5, .int .u32 q6, .int .u32 q7, .bool q8] _ (rb w' h') Tryz.underlying35 rfl (by kernel_rfl)) ?_; refine Zz ?_; refine qd_nil (fun w5 h5 => ?_); clear ra rb; have hb5 := hbi.trans (h5.mono hbi.size); go_wp2; go_roundw
    case rel => exact ⟨i + 1, by go_num, by omega, hb5⟩
    case measure => simp [intOf]; omega
end Go.Proofs.YtbcgngfbbbfebaaGreatDoor
