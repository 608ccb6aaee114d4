/- does, whole: every act. -/
import Derived.Test.YtnchafbaipeagaaDoes
namespace Go.Proofs.Ytnchafbaipeagaa
open Go.RowKit
set_option linter.unusedVariables false
set_option linter.unusedSimpArgs false

section
variable {ops : Array Oper} {Q : Exit → Act → World → Prop}
theorem wl_bslice {rest : List Oper} {o : Oper} {a : Act} {w : World} (hgd : o.guard = none) (x : Operand) (ho : o.op = .buildSlice 45 1 #[(0, x)]) (f : Nat → Int) (hx : a.eval x = .agg (vc f))
    (h : ∀ (w' : World) (b : Nat), w'.heap[b]? = some (.cells (vc f) 52 (0, 0)) → Below w.heap.size w w' → Hid (b = w.heap.size) → ∀ K : Act → World → Prop, (∀ a w, wpList Try.prog ops Q rest a w → K a w) → K (a.put o.dst (.slice (some ⟨b, 0, none⟩) 1 1)) w') : wpList Try.prog ops Q (o :: rest) a w := by
  refine wpList_plain hgd fun K hK => ?_
  unfold Oper.wp execOp
  have hr := run_bslice w f
  simp only [ho, List.map_toArray, List.map_cons, List.map_nil, hx, Sem.run_bind, hr, Result.andThen_ok]
  exact h _ _ (heap_alloc_new w _) ((Below.refl _ _).alloc (Nat.le_refl _) _) rfl K hK
theorem wl_append {rest : List Oper} {o : Oper} {a : Act} {w : World} (hgd : o.guard = none) (s x : Operand) (ho : o.op = .call { callee := .builtin .append, args := #[s, x], argTypes := #[45, 45] })
    (bs n : Nat) (v : Value) (xs : List Value) (hs : a.eval s = v) (hown : w.ownsRow bs 52 8 v n xs) (b : Nat) (f : Nat → Int) (hx : a.eval x = .slice (some ⟨b, 0, none⟩) 1 1) (hb : w.heap[b]? = some (.cells (vc f) 52 (0, 0))) (hn : n ≤ 4000) (hbs : bs ≤ w.heap.size)
    (h : ∀ v' w', w'.ownsRow bs 52 8 v' (n + 1) (xs ++ (vc f).toList) → w.grownBy w' v.ownBlock → ∀ K : Act → World → Prop, (∀ a w, wpList Try.prog ops Q rest a w → K a w) → K (a.put o.dst v') w') : wpList Try.prog ops Q (o :: rest) a w := by
  refine wpList_plain hgd fun K hK => ?_
  obtain ⟨i0, hi0, hz0, hz1, hz2⟩ := info_parts info52
  obtain ⟨v', w', hrun, h2, h3, _, _⟩ := run_append_own_at (P := Try.prog) w bs 45 o.type 52 i0 (.agg (vc fun _ => 0)) 8 32 Try.underlying45 hi0 hz0 hz1 hz2 rfl (by omega) v n xs hown ⟨b, 0, none⟩ 1 1 (vc f).toList (by simp [vc_list])
    (fun j u hu => by
      rw [add_off, Nat.zero_add, cell_of_row w b j _ _ _ hb, ← Array.getElem?_toList]; exact hu)
    (fun u hu => by simp [vc_list] at hu; rcases hu with rfl | rfl | rfl | rfl | rfl | rfl | rfl | rfl <;> rfl) (by simp only [maxLen]; omega) (by omega) hbs
  unfold Oper.wp execOp
  simp only [ho, resolve, invoke, builtin, Sem.run_bind, Sem.run_pure, Result.andThen_ok, List.map_toArray, List.map_cons, List.map_nil, hs, hx, hrun]
  exact h v' w' h2 h3 K hK
theorem wl_val {P : Program} {rest : List Oper} {o : Oper} {a : Act} {w : World} (hgd : o.guard = none) (v : Value) (h : (execOp a.eval o).run P w = .ok (.value v) w) (hK : ∀ K : Act → World → Prop, (∀ a w, wpList P ops Q rest a w → K a w) → K (a.put o.dst v) w) : wpList P ops Q (o :: rest) a w := by
  refine wpList_plain hgd fun K hK' => ?_
  unfold Oper.wp
  rw [h]
  exact hK K hK'
theorem wl_stsl {rest : List Oper} {o : Oper} {a : Act} {w : World} (hgd : o.guard = none) (x y : Operand) (ho : o.op = .store 45 x y) (B m : Nat) (T : Nat → Nat → Int) (v v' : Value) (ha : ∃ p n c, v' = .slice p n c) (hx : a.eval x = .pointer (some ⟨B, 65, none⟩)) (hy : a.eval y = v') (hJ : Judge w B m T v)
    (h : ∀ K : Act → World → Prop, (∀ a w, wpList Try.prog ops Q rest a w → K a w) → K (a.put o.dst undef) (w.setCell ⟨B, 65, none⟩ v')) : wpList Try.prog ops Q (o :: rest) a w := by
  refine wpList_plain hgd fun K hK => ?_
  obtain ⟨p, n, c, rfl⟩ := ha
  have hc := hJ.list
  have hf := hJ.soft 65
  have hsz := Try.sizeOf45
  have hst : (store ⟨B, 65, none⟩ (.slice p n c)).run Try.prog w = .ok () (w.setCell ⟨B, 65, none⟩ (.slice p n c)) := by simp [go_sem, stored, hc, hf]
  unfold Oper.wp execOp
  simp only [ho, hx, hy, Instr.storeAt, Instr.sureAddr, Sem.run_bind, Sem.run_pure, Result.andThen_ok]
  have hsv : (storeVar 45 ⟨B, 65, none⟩ (.slice p n c)).run Try.prog w = .ok () (w.setCell ⟨B, 65, none⟩ (.slice p n c)) := by
    unfold storeVar
    have hv : (Value.slice p n c).cells = #[.slice p n c] := rfl
    simp only [Sem.run_bind, hsz, hv, Result.andThen_ok]
    simp [storeCells, add_off, hst]
  rw [hsv]
  exact h K hK
end

theorem Judge.congr {w : World} {B m : Nat} {T T' : Nat → Nat → Int} {v : Value} (h : Judge w B m T v) (e : ∀ u t, u < 8 → t < 8 → T u t = T' u t) : Judge w B m T' v := by
  obtain ⟨cs, hb, hs, hc, hr⟩ := h.ex
  exact ⟨cs, hb, hs, fun u t hu ht => by rw [← e u t hu ht]; exact hc u t hu ht, hr⟩
theorem GM_congr {w : World} {m : Nat} {G G' : Int → Nat → Int} (h : GM w m G) (e : ∀ p t, t < 8 → G p t = G' p t) : GM w m G' := by
  obtain ⟨es, clock, hm, hk, hg⟩ := h
  refine ⟨es, clock, hm, hk, fun p => ?_⟩
  rcases hg p with h1 | ⟨h1, h2⟩
  · exact .inl (by rw [h1, vc_congr fun t ht => e p t ht])
  · exact .inr ⟨h1, fun t ht => by rw [← e p t ht]; exact h2 t ht⟩
theorem tk_tick (f : Nat → Int) (u : Nat) (h0 : 0 ≤ f u) (h : f u ≤ 4000) : tk f u = Plain.tickC f u := by
  funext i
  unfold tk Plain.tickC
  split
  · rename_i e; subst e; omega
  · rfl
theorem mx_join (f g : Nat → Int) : (fun i => mx (f i) (g i)) = Plain.joinC f g := rfl

theorem fin_of (x : Plain.A) (s : Plain.St) (B m bs n : Nat) (v : Value) (xs : List Value) (w : World) (T : Nat → Nat → Int) (G : Int → Nat → Int) (c : Nat → Int)
    (hc : c = Plain.clkOf s x) (hT : T = (Plain.step s x).T) (hG : G = (Plain.step s x).G) (v' : Value) (w' : World) (h1 : Judge w' B m T v') (h2 : GM w' m G) (h3 : w'.ownsRow bs 52 8 v' (n + 1) (xs ++ (vc c).toList)) (h4 : Below bs w w') :
    Done w bs B m s x n xs (.returned (.tuple #[])) w' := by
  subst hc hT hG
  exact ⟨rfl, v', h1, h2, h3, h4⟩

theorem clk_right (x : Plain.A) (s : Plain.St) (hx : Plain.right x = true) : Plain.clkOf s x = Plain.tickC (Plain.before s x) x.who.toNat := by simp [Plain.clkOf, hx]
theorem stepT_right (x : Plain.A) (s : Plain.St) (hx : Plain.right x = true) : (Plain.step s x).T = fun u => if u = x.who.toNat then Plain.clkOf s x else s.T u := by simp only [Plain.step, hx, if_true]; rfl
theorem stepG_right (x : Plain.A) (s : Plain.St) (hx : Plain.right x = true) : (Plain.step s x).G = if x.kind = 3 then fun p => if p = x.place then Plain.joinC (s.G x.place) (Plain.clkOf s x) else s.G p else s.G := by simp only [Plain.step, hx, if_true]; rfl

theorem does_right (k : Int) (u : Nat) (hu : u < 8) (p : Int) (hx : Plain.right ⟨k, u, p⟩ = true) (s : Plain.St) (hT0 : ∀ u t, 0 ≤ s.T u t ∧ s.T u t ≤ 4000) (hG0 : ∀ p t, 0 ≤ s.G p t ∧ s.G p t ≤ 4000) (B m bs n : Nat) (v : Value) (xs : List Value) (w : World) (hJ : Judge w B m s.T v) (hG : GM w m s.G) (hO : w.ownsRow bs 52 8 v n xs) (hbs : bs ≤ w.heap.size) (hbB : bs ≤ B) (hbm : bs ≤ m) (hn : n ≤ 4000) :
    Calls Try.prog 19 #[.pointer (some ⟨B, 0, none⟩), act ⟨k, u, p⟩] w (Done w bs B m s ⟨k, u, p⟩ n xs) := by
  have hc := clk_right ⟨k, u, p⟩ s hx
  have hT := stepT_right ⟨k, u, p⟩ s hx
  have hGs := stepG_right ⟨k, u, p⟩ s hx
  simp only [Int.toNat_natCast] at hc hT
  by_cases h4 : k = 4
  · subst h4
    have hb : Plain.before s ⟨4, u, p⟩ = Plain.joinC (s.T u) (s.G p) := by simp [Plain.before]
    have hj : 0 ≤ Plain.joinC (s.T u) (s.G p) u ∧ Plain.joinC (s.T u) (s.G p) u ≤ 4000 := by
      rcases Plain.joinC_or (s.T u) (s.G p) u with e | e <;> rw [e]
      · exact hT0 _ _
      · exact hG0 _ _
    have e1 : tk (fun i => mx (s.T u i) (s.G p i)) u = Plain.clkOf s ⟨4, u, p⟩ := by
      rw [mx_join, tk_tick _ _ hj.1 hj.2, hc, hb]
    refine does_take p u hu hx s B m bs n v xs w hJ hG hO hbs hbB hbm hn fun v' w' h1 h2 h3 h4 => fin_of ⟨4, u, p⟩ s B m bs n v xs w _ _ _ e1 ?_ ?_ v' w' h1 h2 h3 h4
    · rw [hT, e1]; funext y; dsimp only; split <;> rename_i hy <;> simp [hy]
    · rw [hGs]; rfl
  · have hb : Plain.before s ⟨k, u, p⟩ = s.T u := by simp [Plain.before, h4]
    have e1 : tk (s.T u) u = Plain.clkOf s ⟨k, u, p⟩ := by
      rw [tk_tick _ _ (hT0 u u).1 (hT0 u u).2, hc, hb]
    by_cases h3 : k = 3
    · subst h3
      refine does_give p u hu hx s B m bs n v xs w hJ hG hO hbs hbB hbm hn fun v' w' h1 h2 h3 h4 => fin_of ⟨3, u, p⟩ s B m bs n v xs w _ _ _ e1 ?_ ?_ v' w' h1 h2 h3 h4
      · rw [hT, e1]
      · rw [hGs, e1]; rfl
    · refine does_plain k p u hu hx (by simpa using h3) (by simpa using h4) s B m bs n v xs w hJ hG hO hbs hbB hbm hn fun v' w' h1 h2 h3' h4 => fin_of ⟨k, u, p⟩ s B m bs n v xs w _ _ _ e1 ?_ ?_ v' w' h1 h2 h3' h4
      · rw [hT, e1]
      · rw [hGs]; simp [h3]

set_option maxRecDepth 100000 in
theorem does_wrong (x : Plain.A) (hx : Plain.right x = false) (s : Plain.St) (B m bs n : Nat) (v : Value) (xs : List Value) (w : World) (hJ : Judge w B m s.T v) (hG : GM w m s.G) (hO : w.ownsRow bs 52 8 v n xs) (hbs : bs ≤ w.heap.size) (hbB : bs ≤ B) (hbm : bs ≤ m) (hn : n ≤ 4000) :
    Calls Try.prog 19 #[.pointer (some ⟨B, 0, none⟩), act x] w (Done w bs B m s x n xs) := by
  have hc : Plain.clkOf s x = fun _ => 0 := by simp [Plain.clkOf, hx]; rfl
  have hs : Plain.step s x = s := by simp [Plain.step, hx]
  have hr := Right x
  rw [hx] at hr
  obtain ⟨kind, who, place⟩ := x
  unfold act at *
  go_enter Try.func19, Try.ntmps19
  go_upto_region 1 with (fail)
  have A3 : (w.alloc (.cells #[.int .i64 kind, .int .i64 who, .int .i64 place] 34)).heap[w.heap.size]? = some (.cells #[.int .i64 kind, .int .i64 who, .int .i64 place] 34) := heap_alloc_new w _
  have hB : Below bs w (w.alloc (.cells #[.int .i64 kind, .int .i64 who, .int .i64 place] 34)) := (Below.refl _ _).alloc hbs _
  have hW : Below w.heap.size w (w.alloc (.cells #[.int .i64 kind, .int .i64 who, .int .i64 place] 34)) := (Below.refl _ _).alloc (Nat.le_refl _) _
  replace hJ := hJ.keep (hW.block _ hJ.lt)
  replace hG := GM_keep hG (hW.block _ (GM_lt hG))
  replace hO := own_keep hO hW
  clear hW
  have hbs1 : bs ≤ (w.alloc (.cells #[.int .i64 kind, .int .i64 who, .int .i64 place] 34)).heap.size := Nat.le_trans hbs hB.size
  generalize (w.alloc (.cells #[.int .i64 kind, .int .i64 who, .int .i64 place] 34)) = W at *
  generalize w.heap.size = b3 at *
  refine plain_all (fun w' => Below W.heap.size W w') (Below.refl _ _) ?_
  refine q_run rfl (fun K hK => ?_)
  refine q_load 34 (.tmp 3) rfl _ rfl _ #[.int .i64 kind, .int .i64 who, .int .i64 place] (0, 0) _ (fun w' h' => keep A3 h') Try.underlying34 rfl (by kernel_rfl) ?_
  go_simp
  refine hK _ ?_
  clear hK K
  refine q_run rfl (fun K hK => ?_)
  refine q_call (Nat.le_refl _) hr (fun w' => ?_) ?_
  · first | (go_simp; done) | (go_simp; rfl)
  go_simp
  refine hK _ ?_
  clear hK K
  refine q_run rfl (fun K hK => ?_)
  refine q_value ?_ (fun w' h' => ?_) ?_
  rotate_left
  · go_simp; try with_reducible rfl
  go_simp
  refine hK _ ?_
  clear hK K
  refine qd_nil ?_
  intro w1 h1
  replace A3 := keep A3 h1
  replace hB := hB.trans (h1.mono hbs1)
  replace hbs1 := Nat.le_trans hbs1 h1.size
  replace hJ := hJ.keep (h1.block _ hJ.lt)
  replace hG := GM_keep hG (h1.block _ (GM_lt hG))
  replace hO := own_keep hO h1
  clear h1
  go_upto_region 2 with (fail)
  refine plain_head 4 (fun w' => Below w1.heap.size w1 w') (Below.refl _ _) ?_
  refine q_run rfl (fun K hK => ?_)
  refine q_value ?_ (fun w' h' => ?_) ?_
  rotate_left
  · go_simp; try with_reducible rfl
  go_simp
  refine hK _ ?_
  clear hK K
  refine q_run rfl (fun K hK => ?_)
  refine q_value ?_ (fun w' h' => ?_) ?_
  rotate_left
  · go_simp; try with_reducible rfl
  go_simp
  refine hK _ ?_
  clear hK K
  refine q_run rfl (fun K hK => ?_)
  refine q_value ?_ (fun w' h' => ?_) ?_
  rotate_left
  · go_simp; try with_reducible rfl
  go_simp
  refine hK _ ?_
  clear hK K
  refine q_run rfl (fun K hK => ?_)
  refine q_value ?_ (fun w' h' => ?_) ?_
  rotate_left
  · go_simp; try with_reducible rfl
  go_simp
  refine hK _ ?_
  clear hK K
  refine qd_nil ?_
  intro w2 h2
  replace hB := hB.trans (h2.mono hbs1)
  replace hbs1 := Nat.le_trans hbs1 h2.size
  replace hJ := hJ.keep (h2.block _ hJ.lt)
  replace hG := GM_keep hG (h2.block _ (GM_lt hG))
  replace hO := own_keep hO h2
  clear h2 A3 hr
  refine wl_val rfl v (run_ldsl (.tmp 11) rfl ⟨B, 65, none⟩ v rfl hJ.list) ?_
  intro K hK
  go_simp
  refine hK _ _ ?_
  clear hK K
  refine wl_val rfl (.agg (vc fun _ => 0)) ?_ ?_
  · go_simp; rfl
  intro K hK
  go_simp
  refine hK _ _ ?_
  clear hK K
  refine wl_bslice rfl (.tmp 13) rfl (fun _ => 0) rfl (fun w3 b9 X9 l3 f3 => ?_)
  replace hJ := hJ.keep (l3.block _ hJ.lt)
  replace hG := GM_keep hG (l3.block _ (GM_lt hG))
  replace hO := own_keep hO l3
  replace hB := hB.trans (l3.mono hbs1)
  replace hbs1 := Nat.le_trans hbs1 l3.size
  clear f3 l3
  intro K hK
  go_simp
  refine hK _ _ ?_
  clear hK K
  refine wl_append rfl (.tmp 12) (.tmp 14) rfl bs n v xs rfl hO b9 (fun _ => 0) rfl X9 hn hbs1 (fun v1 w4 O1 g1 => ?_)
  replace hB := hB.grown g1 hbs1 (fun k e => (hO.lt k e).1)
  replace hJ := hJ.keep (g1.block _ hJ.lt (fun e => own_ne hO hJ e.symm))
  replace hG := GM_keep hG (g1.block _ (GM_lt hG) (fun e => own_nem hO hG e.symm))
  clear hO g1 X9
  intro K hK
  go_simp
  refine hK _ _ ?_
  clear hK K
  refine wl_val rfl ?_ ?_ ?_
  rotate_left
  · go_simp; try with_reducible rfl
  intro K hK
  go_simp
  refine hK _ _ ?_
  clear hK K
  refine wl_val rfl ?_ ?_ ?_
  rotate_left
  · go_simp; try with_reducible rfl
  intro K hK
  go_simp
  refine hK _ _ ?_
  clear hK K
  have hsl : ∃ p n' c, v1 = .slice p n' c := by rcases O1.2 with ⟨e, _⟩ | ⟨g, cap, cur, e, _⟩ <;> exact ⟨_, _, _, e⟩
  refine wl_stsl rfl (.tmp 17) (.tmp 15) rfl B m _ v v1 hsl rfl rfl hJ ?_
  have hO1 := own_same O1 (w' := World.setCell _ ⟨B, 65, none⟩ v1) (fun g hg => heap_setCell_other _ _ g _ (fun e => own_ne O1 hJ (by rw [hg]; exact congrArg some e)))
  replace hG := GM_keep hG (w' := World.setCell _ ⟨B, 65, none⟩ v1) (heap_setCell_other _ _ m _ (jg_ne hJ hG))
  replace hJ := hJ.putList v1
  replace hB := hB.setCell (p := ⟨B, 65, none⟩) hbB v1
  clear O1 hsl
  intro K hK
  go_simp
  refine hK _ _ ?_
  clear hK K
  go_wp2_with (fail)
  go_end0
  exact fin_of ⟨kind, who, place⟩ s B m bs n v xs w _ _ _ hc.symm (by rw [hs]) (by rw [hs]) _ _ hJ hG hO1 hB

/-- does: one act. -/
theorem does (x : Plain.A) (s : Plain.St) (hT0 : ∀ u t, 0 ≤ s.T u t ∧ s.T u t ≤ 4000) (hG0 : ∀ p t, 0 ≤ s.G p t ∧ s.G p t ≤ 4000) (B m bs n : Nat) (v : Value) (xs : List Value) (w : World) (hJ : Judge w B m s.T v) (hG : GM w m s.G) (hO : w.ownsRow bs 52 8 v n xs) (hbs : bs ≤ w.heap.size) (hbB : bs ≤ B) (hbm : bs ≤ m) (hn : n ≤ 4000) :
    Calls Try.prog 19 #[.pointer (some ⟨B, 0, none⟩), act x] w (Done w bs B m s x n xs) := by
  cases hx : Plain.right x with
  | false => exact does_wrong x hx s B m bs n v xs w hJ hG hO hbs hbB hbm hn
  | true =>
    obtain ⟨k, who, p⟩ := x
    have hw := Plain.right_who hx
    simp only at hw
    obtain ⟨u, rfl⟩ : ∃ u : Nat, who = u := ⟨who.toNat, by omega⟩
    exact does_right k u (by omega) p hx s hT0 hG0 B m bs n v xs w hJ hG hO hbs hbB hbm hn
end Go.Proofs.Ytnchafbaipeagaa
