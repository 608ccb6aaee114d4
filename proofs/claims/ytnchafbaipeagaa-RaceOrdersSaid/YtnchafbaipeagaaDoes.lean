/- The walk of does: the judge goes on by one act. -/
import Derived.Test.YtnchafbaipeagaaOps
import Derived.Deep.DeepCutAuto
namespace Go.Proofs.Ytnchafbaipeagaa
open Go.RowKit
set_option linter.unusedVariables false

theorem own_same {w w' : World} {base n : Nat} {v : Value} {xs : List Value} (h : w.ownsRow base 52 8 v n xs) (hs : ∀ g, v.ownBlock = some g → w'.heap[g]? = w.heap[g]?) : w'.ownsRow base 52 8 v n xs := by
  refine ⟨h.1, ?_⟩
  rcases h.2 with h2 | ⟨g, cap, cur, rfl, h3, h4, r⟩
  · exact .inl h2
  · exact .inr ⟨g, cap, cur, rfl, h3, (hs g rfl).trans h4, r⟩
theorem own_keep {w w' : World} {base n : Nat} {v : Value} {xs : List Value} (h : w.ownsRow base 52 8 v n xs) (hb : Below w.heap.size w w') : w'.ownsRow base 52 8 v n xs :=
  own_same h fun g hg => hb.block g (h.lt g hg).2
theorem own_ne {w : World} {base n B : Nat} {v : Value} {xs : List Value} (h : w.ownsRow base 52 8 v n xs) {m : Nat} {T : Nat → Nat → Int} {v' : Value} (hJ : Judge w B m T v') : v.ownBlock ≠ some B := by
  rcases h.2 with ⟨rfl, _⟩ | ⟨g, cap, cur, rfl, _, h4, _⟩
  · simp [Value.ownBlock]
  · intro e
    have e' : g = B := by simpa [Value.ownBlock] using e
    subst e'
    obtain ⟨cs, hb, _⟩ := hJ.ex
    rw [h4] at hb
    injection hb with hb; injection hb with _ ht; cases ht
theorem own_nem {w : World} {base n m : Nat} {v : Value} {xs : List Value} (h : w.ownsRow base 52 8 v n xs) {G : Int → Nat → Int} (hG : GM w m G) : v.ownBlock ≠ some m := by
  rcases h.2 with ⟨rfl, _⟩ | ⟨g, cap, cur, rfl, _, h4, _⟩
  · simp [Value.ownBlock]
  · intro e
    have e' : g = m := by simpa [Value.ownBlock] using e
    subst e'
    obtain ⟨es, cl, hb, _⟩ := hG
    rw [h4] at hb
    injection hb with hb; cases hb
theorem jg_ne {w : World} {B m m' : Nat} {T : Nat → Nat → Int} {v : Value} {G : Int → Nat → Int} (hJ : Judge w B m' T v) (hG : GM w m G) : m ≠ B := by
  rintro rfl
  obtain ⟨cs, hb, _⟩ := hJ.ex
  obtain ⟨es, cl, hb', _⟩ := hG
  rw [hb] at hb'
  injection hb' with hb'; cases hb'
theorem box_ne {w : World} {B b m : Nat} {T : Nat → Nat → Int} {v : Value} {cs : Array Value} (hJ : Judge w B m T v) (hX : w.heap[b]? = some (.cells cs 34 (0, 0))) : b ≠ B := by
  rintro rfl
  obtain ⟨cs', hb, _⟩ := hJ.ex
  rw [hX] at hb
  injection hb with hb; injection hb with _ ht; cases ht

theorem wa_norm {P : Program} {md : Region.Mode} {ops : Array Oper} {Q : Exit → Act → World → Prop} {f : Nat} {l : Array Bool} {a : Act} {w : World} (h : ∀ K : Act → World → Prop, (∀ a w, wpAny P md ops Q f l a w → K a w) → K a w) : wpAny P md ops Q f l a w := h _ fun _ _ h => h

/-- What does leaves. -/
def Done (w : World) (bs B m : Nat) (s : Plain.St) (x : Plain.A) (n : Nat) (xs : List Value) (e : Ending) (w' : World) : Prop :=
  e = .returned (.tuple #[]) ∧ ∃ v', Judge w' B m (Plain.step s x).T v' ∧ GM w' m (Plain.step s x).G ∧ w'.ownsRow bs 52 8 v' (n + 1) (xs ++ (vc (Plain.clkOf s x)).toList) ∧ Below bs w w'

set_option maxRecDepth 100000 in
set_option maxHeartbeats 4000000 in
theorem does_take (place : Int) (u : Nat) (hu : u < 8) (hx : Plain.right ⟨4, u, place⟩ = true) (s : Plain.St) (B m bs n : Nat) (v : Value) (xs : List Value) (w : World) (hJ : Judge w B m s.T v) (hG : GM w m s.G) (hO : w.ownsRow bs 52 8 v n xs) (hbs : bs ≤ w.heap.size) (hbB : bs ≤ B) (hbm : bs ≤ m) (hn : n ≤ 4000)
    (fin : ∀ (v' : Value) (w' : World), Judge w' B m (fun x => if x = u then (tk ((fun i => mx (s.T u i) (s.G place i))) u) else (fun x => if x = u then (fun i => mx (s.T u i) (s.G place i)) else s.T x) x) v' → GM w' m s.G → w'.ownsRow bs 52 8 v' (n + 1) (xs ++ (vc (tk ((fun i => mx (s.T u i) (s.G place i))) u)).toList) → Below bs w w' → Done w bs B m s ⟨4, u, place⟩ n xs (.returned (.tuple #[])) w') :
    Calls Try.prog 19 #[.pointer (some ⟨B, 0, none⟩), act ⟨4, u, place⟩] w (Done w bs B m s ⟨4, u, place⟩ n xs) := by
  have hr := Right ⟨4, u, place⟩
  rw [hx] at hr
  have hu0 : (0 : Int) ≤ u := by omega
  have hu8 : (u : Int) < 8 := by omega
  unfold act at *
  go_enter Try.func19, Try.ntmps19
  go_upto_region 1 with (fail)
  have A3 : (w.alloc (.cells #[.int .i64 4, .int .i64 u, .int .i64 place] 34)).heap[w.heap.size]? = some (.cells #[.int .i64 4, .int .i64 u, .int .i64 place] 34) := heap_alloc_new w _
  have hB : Below bs w (w.alloc (.cells #[.int .i64 4, .int .i64 u, .int .i64 place] 34)) := (Below.refl _ _).alloc hbs _
  have hW : Below w.heap.size w (w.alloc (.cells #[.int .i64 4, .int .i64 u, .int .i64 place] 34)) := (Below.refl _ _).alloc (Nat.le_refl _) _
  replace hJ := hJ.keep (hW.block _ hJ.lt)
  replace hG := GM_keep hG (hW.block _ (GM_lt hG))
  replace hO := own_keep hO hW
  clear hW
  have hbs1 : bs ≤ (w.alloc (.cells #[.int .i64 4, .int .i64 u, .int .i64 place] 34)).heap.size := Nat.le_trans hbs hB.size
  generalize (w.alloc (.cells #[.int .i64 4, .int .i64 u, .int .i64 place] 34)) = W at *
  generalize w.heap.size = b3 at *
  refine plain_all (fun w' => Below W.heap.size W w') (Below.refl _ _) ?_
  refine q_run rfl (fun K hK => ?_)
  refine q_load 34 (.tmp 3) rfl _ rfl _ #[.int .i64 4, .int .i64 u, .int .i64 place] (0, 0) _ (fun w' h' => keep A3 h') Try.underlying34 rfl (by kernel_rfl) ?_
  go_simp
  refine hK _ ?_
  clear hK K
  refine q_run rfl (fun K hK => ?_)
  refine q_call (Nat.le_refl _) hr (fun w' => ?_) ?_
  · first | (go_simp; done) | (go_simp; rfl)
  go_simp
  refine hK _ ?_
  clear hK K
  refine q_run rfl (fun K hK => ?_)
  refine q_value ?_ (fun w' h' => ?_) ?_
  rotate_left
  · go_simp; try with_reducible rfl
  go_simp
  refine hK _ ?_
  clear hK K
  refine qd_nil ?_
  intro w1 h1
  replace A3 := keep A3 h1
  replace hB := hB.trans (h1.mono hbs1)
  replace hbs1 := Nat.le_trans hbs1 h1.size
  replace hJ := hJ.keep (h1.block _ hJ.lt)
  replace hG := GM_keep hG (h1.block _ (GM_lt hG))
  replace hO := own_keep hO h1
  clear h1
  go_upto_region 3 with (fail)
  refine quiet_all (fun w' => Below w1.heap.size w1 w') (by kernel_rfl) (by kernel_rfl) (Below.drew (Below.refl _ _)) ?_
  refine q_run rfl (fun K hK => ?_)
  refine q_value ?_ (fun w' h' => ?_) ?_
  rotate_left
  · go_simp; try with_reducible rfl
  go_simp
  refine hK _ ?_
  clear hK K
  refine q_run rfl (fun K hK => ?_)
  refine q_value ?_ (fun w' h' => ?_) ?_
  rotate_left
  · go_simp; try with_reducible rfl
  go_simp
  refine hK _ ?_
  clear hK K
  refine q_run rfl (fun K hK => ?_)
  refine q_value ?_ (fun w' h' => ?_) ?_
  rotate_left
  · have c := cell_of_row w' _ 1 _ _ _ (keep A3 h'); go_simp; try with_reducible rfl
  go_simp
  refine hK _ ?_
  clear hK K
  refine q_run rfl (fun K hK => ?_)
  refine q_value ?_ (fun w' h' => ?_) ?_
  rotate_left
  · go_simp; try with_reducible rfl
  go_simp
  refine hK _ ?_
  clear hK K
  refine q_run rfl (fun K hK => ?_)
  refine q_value ?_ (fun w' h' => ?_) ?_
  rotate_left
  · go_simp; try with_reducible rfl
  go_simp
  refine hK _ ?_
  clear hK K
  refine q_run rfl (fun K hK => ?_)
  refine q_value ?_ (fun w' h' => ?_) ?_
  rotate_left
  · go_simp; try with_reducible rfl
  go_simp
  refine hK _ ?_
  clear hK K
  refine q_run rfl (fun K hK => ?_)
  refine q_value ?_ (fun w' h' => ?_) ?_
  rotate_left
  · go_simp; try with_reducible rfl
  go_simp
  refine hK _ ?_
  clear hK K
  refine qd_nil ?_
  intro w2 h2
  replace A3 := keep A3 h2
  replace hB := hB.trans (h2.mono hbs1)
  replace hbs1 := Nat.le_trans hbs1 h2.size
  replace hJ := hJ.keep (h2.block _ hJ.lt)
  replace hG := GM_keep hG (h2.block _ (GM_lt hG))
  replace hO := own_keep hO h2
  clear h2
  go_upto_region 4 with (fail)
  refine plain_all (fun w' => Below w2.heap.size w2 w') (Below.refl _ _) ?_
  refine q_run rfl (fun K hK => ?_)
  refine q_value ?_ (fun w' h' => ?_) ?_
  rotate_left
  · go_simp; try with_reducible rfl
  go_simp
  refine hK _ ?_
  clear hK K
  refine q_run rfl (fun K hK => ?_)
  refine q_value ?_ (fun w' h' => ?_) ?_
  rotate_left
  · have c := cell_of_row w' _ 0 _ _ _ (keep A3 h'); go_simp; try with_reducible rfl
  go_simp
  refine hK _ ?_
  clear hK K
  refine q_run rfl (fun K hK => ?_)
  refine q_value ?_ (fun w' h' => ?_) ?_
  rotate_left
  · go_simp; try with_reducible rfl
  go_simp
  refine hK _ ?_
  clear hK K
  refine qd_nil ?_
  intro w3 h3
  replace A3 := keep A3 h3
  replace hB := hB.trans (h3.mono hbs1)
  replace hbs1 := Nat.le_trans hbs1 h3.size
  replace hJ := hJ.keep (h3.block _ hJ.lt)
  replace hG := GM_keep hG (h3.block _ (GM_lt hG))
  replace hO := own_keep hO h3
  clear h3
  go_upto_region 5 with (fail)
  refine quiet_tail 13 (fun w' => Below w3.heap.size w3 w') (by kernel_rfl) (by kernel_rfl) (Below.drew (Below.refl _ _)) ?_
  simp only [List.take_succ_cons, List.take_zero, List.drop_succ_cons, List.drop_zero]
  refine q_run rfl (fun K hK => ?_)
  refine q_value ?_ (fun w' h' => ?_) ?_
  rotate_left
  · go_simp; try with_reducible rfl
  go_simp
  refine hK _ ?_
  clear hK K
  refine q_run rfl (fun K hK => ?_)
  refine q_value ?_ (fun w' h' => ?_) ?_
  rotate_left
  · go_simp; try with_reducible rfl
  go_simp
  refine hK _ ?_
  clear hK K
  refine q_run rfl (fun K hK => ?_)
  refine q_value ?_ (fun w' h' => ?_) ?_
  rotate_left
  · go_simp; try with_reducible rfl
  go_simp
  refine hK _ ?_
  clear hK K
  refine q_run rfl (fun K hK => ?_)
  refine q_ldclk (.tmp 29) rfl B (u * 8) (s.T u) rfl (fun w' h' => (hJ.keep (h'.block _ hJ.lt)).clk hu) ?_
  go_simp
  refine hK _ ?_
  clear hK K
  refine q_run rfl (fun K hK => ?_)
  refine q_value ?_ (fun w' h' => ?_) ?_
  rotate_left
  · go_simp; try with_reducible rfl
  go_simp
  refine hK _ ?_
  clear hK K
  refine q_run rfl (fun K hK => ?_)
  refine q_value ?_ (fun w' h' => ?_) ?_
  rotate_left
  · go_simp; try with_reducible rfl
  go_simp
  refine hK _ ?_
  clear hK K
  refine q_run rfl (fun K hK => ?_)
  refine q_value ?_ (fun w' h' => ?_) ?_
  rotate_left
  · go_simp; try with_reducible rfl
  go_simp
  refine hK _ ?_
  clear hK K
  refine q_run rfl (fun K hK => ?_)
  refine q_value ?_ (fun w' h' => ?_) ?_
  rotate_left
  · have c := (hJ.keep (h'.block _ hJ.lt)).given; go_simp; try with_reducible rfl
  go_simp
  refine hK _ ?_
  clear hK K
  refine q_run rfl (fun K hK => ?_)
  refine q_value ?_ (fun w' h' => ?_) ?_
  rotate_left
  · go_simp; try with_reducible rfl
  go_simp
  refine hK _ ?_
  clear hK K
  refine q_run rfl (fun K hK => ?_)
  refine q_value ?_ (fun w' h' => ?_) ?_
  rotate_left
  · have c := cell_of_row w' _ 2 _ _ _ (keep A3 h'); go_simp; try with_reducible rfl
  go_simp
  refine hK _ ?_
  clear hK K
  refine q_run rfl (fun K hK => ?_)
  refine q_value _ (fun w' h' => run_look (.tmp 34) (.tmp 36) rfl m (s.G) place rfl rfl (GM_keep hG (h'.block _ (GM_lt hG)))) ?_
  go_simp
  refine hK _ ?_
  clear hK K
  refine q_run rfl (fun K hK => ?_)
  refine q_call (Nat.le_refl _) (Join (s.T u) (s.G place)) (fun w' => ?_) ?_
  · first | (go_simp; done) | (go_simp; rfl)
  go_simp
  refine hK _ ?_
  clear hK K
  refine q_run rfl (fun K hK => ?_)
  refine q_value ?_ (fun w' h' => ?_) ?_
  rotate_left
  · go_simp; try with_reducible rfl
  go_simp
  refine hK _ ?_
  clear hK K
  refine qd_nil ?_
  intro w4 h4
  replace A3 := keep A3 h4
  replace hB := hB.trans (h4.mono hbs1)
  replace hbs1 := Nat.le_trans hbs1 h4.size
  replace hJ := hJ.keep (h4.block _ hJ.lt)
  replace hG := GM_keep hG (h4.block _ (GM_lt hG))
  replace hO := own_keep hO h4
  clear h4
  refine wl_putclk rfl (.tmp 39) (.tmp 38) rfl B m u hu _ _ (fun i => mx (s.T u i) (s.G place i)) rfl rfl hJ (fun y1 p1 o1 l1 e1 K hK => ?_)
  go_simp
  refine hK _ _ ?_
  clear hK K e1
  replace A3 := (o1 _ (box_ne hJ A3)).trans A3
  replace hG := GM_keep hG (o1 _ (jg_ne hJ hG))
  replace hO := own_same hO (fun g hg => o1 g (fun e => own_ne hO hJ (e ▸ hg)))
  replace hJ := p1
  replace hB := hB.trans (l1 _ hbB)
  replace hbs1 := Nat.le_trans hbs1 (l1 0 (Nat.zero_le _)).size
  clear o1 p1 l1
  go_upto_region 6 with (fail)
  refine quiet_tail 8 (fun w' => Below y1.heap.size y1 w') (by kernel_rfl) (by kernel_rfl) (Below.drew (Below.refl _ _)) ?_
  simp only [List.take_succ_cons, List.take_zero, List.drop_succ_cons, List.drop_zero]
  refine q_run rfl (fun K hK => ?_)
  refine q_value ?_ (fun w' h' => ?_) ?_
  rotate_left
  · go_simp; try with_reducible rfl
  go_simp
  refine hK _ ?_
  clear hK K
  refine q_run rfl (fun K hK => ?_)
  refine q_value ?_ (fun w' h' => ?_) ?_
  rotate_left
  · go_simp; try with_reducible rfl
  go_simp
  refine hK _ ?_
  clear hK K
  refine q_run rfl (fun K hK => ?_)
  refine q_value ?_ (fun w' h' => ?_) ?_
  rotate_left
  · go_simp; try with_reducible rfl
  go_simp
  refine hK _ ?_
  clear hK K
  refine q_run rfl (fun K hK => ?_)
  refine q_ldclk (.tmp 42) rfl B (u * 8) ((fun i => mx (s.T u i) (s.G place i))) rfl (fun w' h' t ht => by have q0 := (hJ.keep (h'.block _ hJ.lt)).clk hu t ht; simpa using q0) ?_
  go_simp
  refine hK _ ?_
  clear hK K
  refine q_run rfl (fun K hK => ?_)
  refine q_value ?_ (fun w' h' => ?_) ?_
  rotate_left
  · go_simp; try with_reducible rfl
  go_simp
  refine hK _ ?_
  clear hK K
  refine q_run rfl (fun K hK => ?_)
  refine q_value ?_ (fun w' h' => ?_) ?_
  rotate_left
  · have c := cell_of_row w' _ 1 _ _ _ (keep A3 h'); go_simp; try with_reducible rfl
  go_simp
  refine hK _ ?_
  clear hK K
  refine q_run rfl (fun K hK => ?_)
  refine q_call (Nat.le_refl _) (Tick ((fun i => mx (s.T u i) (s.G place i))) u hu) (fun w' => ?_) ?_
  · first | (go_simp; done) | (go_simp; rfl)
  go_simp
  refine hK _ ?_
  clear hK K
  refine q_run rfl (fun K hK => ?_)
  refine q_value ?_ (fun w' h' => ?_) ?_
  rotate_left
  · go_simp; try with_reducible rfl
  go_simp
  refine hK _ ?_
  clear hK K
  refine qd_nil ?_
  intro w5 h5
  replace A3 := keep A3 h5
  replace hB := hB.trans (h5.mono hbs1)
  replace hbs1 := Nat.le_trans hbs1 h5.size
  replace hJ := hJ.keep (h5.block _ hJ.lt)
  replace hG := GM_keep hG (h5.block _ (GM_lt hG))
  replace hO := own_keep hO h5
  clear h5
  refine wl_putclk rfl (.tmp 47) (.tmp 46) rfl B m u hu _ _ (tk ((fun i => mx (s.T u i) (s.G place i))) u) rfl rfl hJ (fun y2 p1 o1 l1 e1 K hK => ?_)
  go_simp
  refine hK _ _ ?_
  clear hK K e1
  replace A3 := (o1 _ (box_ne hJ A3)).trans A3
  replace hG := GM_keep hG (o1 _ (jg_ne hJ hG))
  replace hO := own_same hO (fun g hg => o1 g (fun e => own_ne hO hJ (e ▸ hg)))
  replace hJ := p1
  replace hB := hB.trans (l1 _ hbB)
  replace hbs1 := Nat.le_trans hbs1 (l1 0 (Nat.zero_le _)).size
  clear o1 p1 l1
  go_upto_region 7 with (fail)
  refine plain_all (fun w' => Below y2.heap.size y2 w') (Below.refl _ _) ?_
  refine q_run rfl (fun K hK => ?_)
  refine q_value ?_ (fun w' h' => ?_) ?_
  rotate_left
  · go_simp; try with_reducible rfl
  go_simp
  refine hK _ ?_
  clear hK K
  refine q_run rfl (fun K hK => ?_)
  refine q_value ?_ (fun w' h' => ?_) ?_
  rotate_left
  · have c := cell_of_row w' _ 0 _ _ _ (keep A3 h'); go_simp; try with_reducible rfl
  go_simp
  refine hK _ ?_
  clear hK K
  refine q_run rfl (fun K hK => ?_)
  refine q_value ?_ (fun w' h' => ?_) ?_
  rotate_left
  · go_simp; try with_reducible rfl
  go_simp
  refine hK _ ?_
  clear hK K
  refine qd_nil ?_
  intro w6 h6
  replace A3 := keep A3 h6
  replace hB := hB.trans (h6.mono hbs1)
  replace hbs1 := Nat.le_trans hbs1 h6.size
  replace hJ := hJ.keep (h6.block _ hJ.lt)
  replace hG := GM_keep hG (h6.block _ (GM_lt hG))
  replace hO := own_keep hO h6
  clear h6
  go_upto_region 9 with (fail)
  clear A3 hr
  obtain ⟨z, hz⟩ : ∃ z, z = World.drew w6 := ⟨_, rfl⟩
  replace hJ : Judge z B m _ v := hJ.keep (by rw [hz]; rfl)
  replace hG : GM z m _ := GM_keep hG (by rw [hz]; rfl)
  replace hO : z.ownsRow bs 52 8 v n xs := own_same hO (fun g _ => by rw [hz]; rfl)
  replace hB : Below bs w z := by rw [hz]; exact hB.drew
  replace hbs1 : bs ≤ z.heap.size := by rw [hz]; exact hbs1
  refine wp_region_any (by kernel_rfl) ?_
  show wpAny _ _ _ _ _ _ _ (World.drew _)
  rw [← hz]
  clear hz
  refine wpAny_take (i := 0) (v := ?_) rfl (by kernel_rfl) (by kernel_rfl) (by kernel_rfl) (fun _ _ _ h => h) (Or.inl ⟨by rfl, ?_⟩) ?_
  rotate_left
  · intro w'; go_simp; try with_reducible rfl
  refine wa_norm (fun K hK => ?_)
  go_simp
  refine hK _ _ ?_
  clear hK K
  refine wpAny_take (i := 1) (v := ?_) rfl (by kernel_rfl) (by kernel_rfl) (by kernel_rfl) (fun _ _ _ h => h) (Or.inl ⟨by rfl, ?_⟩) ?_
  rotate_left
  · intro w'; go_simp; try with_reducible rfl
  refine wa_norm (fun K hK => ?_)
  go_simp
  refine hK _ _ ?_
  clear hK K
  refine wpAny_take (i := 2) (v := ?_) rfl (by kernel_rfl) (by kernel_rfl) (by kernel_rfl) (fun _ _ _ h => h) (Or.inl ⟨by rfl, ?_⟩) ?_
  rotate_left
  · intro w'; go_simp; try with_reducible rfl
  refine wa_norm (fun K hK => ?_)
  go_simp
  refine hK _ _ ?_
  clear hK K
  refine wpAny_take (i := 3) (v := ?_) rfl (by kernel_rfl) (by kernel_rfl) (by kernel_rfl) (fun _ _ _ h => h) (Or.inl ⟨by rfl, ?_⟩) ?_
  rotate_left
  · intro w'; go_simp; try with_reducible rfl
  refine wa_norm (fun K hK => ?_)
  go_simp
  refine hK _ _ ?_
  clear hK K
  refine wpAny_take (i := 5) (v := ?_) rfl (by kernel_rfl) (by kernel_rfl) (by kernel_rfl) (fun _ _ _ h => h) (Or.inl ⟨by rfl, ?_⟩) ?_
  rotate_left
  · intro w'; go_simp; try with_reducible rfl
  refine wa_norm (fun K hK => ?_)
  go_simp
  refine hK _ _ ?_
  clear hK K
  refine wpAny_take (i := 6) (v := ?_) rfl (by kernel_rfl) (by kernel_rfl) (by kernel_rfl) (fun _ _ _ h => h) (Or.inl ⟨by rfl, ?_⟩) ?_
  rotate_left
  · intro w'; go_simp; try with_reducible rfl
  refine wa_norm (fun K hK => ?_)
  go_simp
  refine hK _ _ ?_
  clear hK K
  refine wpAny_all (rs := [4, 7]) (by kernel_rfl) (by simp) ?_
  intro i hi
  simp only [List.mem_cons, List.not_mem_nil, or_false] at hi
  rcases hi with rfl | rfl
  · refine op_val rfl rfl v (run_ldsl (.tmp 71) rfl ⟨B, 65, none⟩ v rfl hJ.list) ?_
    refine wa_norm (fun K hK => ?_)
    go_simp
    refine hK _ _ ?_
    clear hK K
    refine wpAny_all (rs := [7]) (by kernel_rfl) (by simp) ?_
    intro i hi
    simp only [List.mem_cons, List.not_mem_nil, or_false] at hi
    subst hi
    refine op_val rfl rfl (.agg (vc (tk ((fun i => mx (s.T u i) (s.G place i))) u))) (run_ldclk (.tmp 74) rfl B (u * 8) (tk ((fun i => mx (s.T u i) (s.G place i))) u) rfl (fun t ht => by have q0 := hJ.clk hu t ht; simpa using q0)) ?_
    refine wa_norm (fun K hK => ?_)
    go_simp
    refine hK _ _ ?_
    clear hK K
    refine wpAny_all (rs := [8]) (by kernel_rfl) (by simp) ?_
    intro i hi
    simp only [List.mem_cons, List.not_mem_nil, or_false] at hi
    subst hi
    refine op_bslice rfl rfl (.tmp 75) rfl (tk ((fun i => mx (s.T u i) (s.G place i))) u) rfl (fun z3 b9 X9 l3 f3 => ?_)
    replace hJ := hJ.keep (l3.block _ hJ.lt)
    replace hG := GM_keep hG (l3.block _ (GM_lt hG))
    replace hO := own_keep hO l3
    replace hB := hB.trans (l3.mono hbs1)
    replace hbs1 := Nat.le_trans hbs1 l3.size
    clear f3 l3
    refine wa_norm (fun K hK => ?_)
    go_simp
    refine hK _ _ ?_
    clear hK K
    refine wpAny_all (rs := [9]) (by kernel_rfl) (by simp) ?_
    intro i hi
    simp only [List.mem_cons, List.not_mem_nil, or_false] at hi
    subst hi
    refine op_append rfl rfl (.tmp 72) (.tmp 76) rfl bs n v xs rfl hO b9 (tk ((fun i => mx (s.T u i) (s.G place i))) u) rfl X9 hn hbs1 (fun v1 z4 O1 g1 => ?_)
    replace hB := hB.grown g1 hbs1 (fun k e => (hO.lt k e).1)
    replace hJ := hJ.keep (g1.block _ hJ.lt (fun e => own_ne hO hJ e.symm))
    replace hG := GM_keep hG (g1.block _ (GM_lt hG) (fun e => own_nem hO hG e.symm))
    clear hO g1 X9
    refine wa_norm (fun K hK => ?_)
    go_simp
    refine hK _ _ ?_
    clear hK K
    refine wpAny_all (rs := [10]) (by kernel_rfl) (by simp) ?_
    intro i hi
    simp only [List.mem_cons, List.not_mem_nil, or_false] at hi
    subst hi
    refine op_val rfl rfl ?_ ?_ ?_
    rotate_left
    · go_simp; try with_reducible rfl
    refine wa_norm (fun K hK => ?_)
    go_simp
    refine hK _ _ ?_
    clear hK K
    refine wpAny_all (rs := [11]) (by kernel_rfl) (by simp) ?_
    intro i hi
    simp only [List.mem_cons, List.not_mem_nil, or_false] at hi
    subst hi
    refine op_val rfl rfl ?_ ?_ ?_
    rotate_left
    · go_simp; try with_reducible rfl
    refine wa_norm (fun K hK => ?_)
    go_simp
    refine hK _ _ ?_
    clear hK K
    refine wpAny_all (rs := [12]) (by kernel_rfl) (by simp) ?_
    intro i hi
    simp only [List.mem_cons, List.not_mem_nil, or_false] at hi
    subst hi
    have hsl : ∃ p n' c, v1 = .slice p n' c := by rcases O1.2 with ⟨e, _⟩ | ⟨g, cap, cur, e, _⟩ <;> exact ⟨_, _, _, e⟩
    refine op_stsl rfl rfl (.tmp 79) (.tmp 77) rfl B m _ v v1 hsl rfl rfl hJ ?_
    have hO1 := own_same O1 (w' := World.setCell _ ⟨B, 65, none⟩ v1) (fun g hg => heap_setCell_other _ _ g _ (fun e => own_ne O1 hJ (by rw [hg]; exact congrArg some e)))
    replace hG := GM_keep hG (w' := World.setCell _ ⟨B, 65, none⟩ v1) (heap_setCell_other _ _ m _ (jg_ne hJ hG))
    replace hJ := hJ.putList v1
    replace hB := hB.setCell (p := ⟨B, 65, none⟩) hbB v1
    clear O1 hsl
    refine wpAny_done (by kernel_rfl) ?_ _
    go_wp2_with (fail)
    go_end0
    exact fin _ _ hJ hG hO1 hB
  · refine op_val rfl rfl (.agg (vc (tk ((fun i => mx (s.T u i) (s.G place i))) u))) (run_ldclk (.tmp 74) rfl B (u * 8) (tk ((fun i => mx (s.T u i) (s.G place i))) u) rfl (fun t ht => by have q0 := hJ.clk hu t ht; simpa using q0)) ?_
    refine wa_norm (fun K hK => ?_)
    go_simp
    refine hK _ _ ?_
    clear hK K
    refine wpAny_all (rs := [4, 8]) (by kernel_rfl) (by simp) ?_
    intro i hi
    simp only [List.mem_cons, List.not_mem_nil, or_false] at hi
    rcases hi with rfl | rfl
    · refine op_val rfl rfl v (run_ldsl (.tmp 71) rfl ⟨B, 65, none⟩ v rfl hJ.list) ?_
      refine wa_norm (fun K hK => ?_)
      go_simp
      refine hK _ _ ?_
      clear hK K
      refine wpAny_all (rs := [8]) (by kernel_rfl) (by simp) ?_
      intro i hi
      simp only [List.mem_cons, List.not_mem_nil, or_false] at hi
      subst hi
      refine op_bslice rfl rfl (.tmp 75) rfl (tk ((fun i => mx (s.T u i) (s.G place i))) u) rfl (fun z10 b9 X9 l10 f10 => ?_)
      replace hJ := hJ.keep (l10.block _ hJ.lt)
      replace hG := GM_keep hG (l10.block _ (GM_lt hG))
      replace hO := own_keep hO l10
      replace hB := hB.trans (l10.mono hbs1)
      replace hbs1 := Nat.le_trans hbs1 l10.size
      clear f10 l10
      refine wa_norm (fun K hK => ?_)
      go_simp
      refine hK _ _ ?_
      clear hK K
      refine wpAny_all (rs := [9]) (by kernel_rfl) (by simp) ?_
      intro i hi
      simp only [List.mem_cons, List.not_mem_nil, or_false] at hi
      subst hi
      refine op_append rfl rfl (.tmp 72) (.tmp 76) rfl bs n v xs rfl hO b9 (tk ((fun i => mx (s.T u i) (s.G place i))) u) rfl X9 hn hbs1 (fun v1 z11 O1 g1 => ?_)
      replace hB := hB.grown g1 hbs1 (fun k e => (hO.lt k e).1)
      replace hJ := hJ.keep (g1.block _ hJ.lt (fun e => own_ne hO hJ e.symm))
      replace hG := GM_keep hG (g1.block _ (GM_lt hG) (fun e => own_nem hO hG e.symm))
      clear hO g1 X9
      refine wa_norm (fun K hK => ?_)
      go_simp
      refine hK _ _ ?_
      clear hK K
      refine wpAny_all (rs := [10]) (by kernel_rfl) (by simp) ?_
      intro i hi
      simp only [List.mem_cons, List.not_mem_nil, or_false] at hi
      subst hi
      refine op_val rfl rfl ?_ ?_ ?_
      rotate_left
      · go_simp; try with_reducible rfl
      refine wa_norm (fun K hK => ?_)
      go_simp
      refine hK _ _ ?_
      clear hK K
      refine wpAny_all (rs := [11]) (by kernel_rfl) (by simp) ?_
      intro i hi
      simp only [List.mem_cons, List.not_mem_nil, or_false] at hi
      subst hi
      refine op_val rfl rfl ?_ ?_ ?_
      rotate_left
      · go_simp; try with_reducible rfl
      refine wa_norm (fun K hK => ?_)
      go_simp
      refine hK _ _ ?_
      clear hK K
      refine wpAny_all (rs := [12]) (by kernel_rfl) (by simp) ?_
      intro i hi
      simp only [List.mem_cons, List.not_mem_nil, or_false] at hi
      subst hi
      have hsl : ∃ p n' c, v1 = .slice p n' c := by rcases O1.2 with ⟨e, _⟩ | ⟨g, cap, cur, e, _⟩ <;> exact ⟨_, _, _, e⟩
      refine op_stsl rfl rfl (.tmp 79) (.tmp 77) rfl B m _ v v1 hsl rfl rfl hJ ?_
      have hO1 := own_same O1 (w' := World.setCell _ ⟨B, 65, none⟩ v1) (fun g hg => heap_setCell_other _ _ g _ (fun e => own_ne O1 hJ (by rw [hg]; exact congrArg some e)))
      replace hG := GM_keep hG (w' := World.setCell _ ⟨B, 65, none⟩ v1) (heap_setCell_other _ _ m _ (jg_ne hJ hG))
      replace hJ := hJ.putList v1
      replace hB := hB.setCell (p := ⟨B, 65, none⟩) hbB v1
      clear O1 hsl
      refine wpAny_done (by kernel_rfl) ?_ _
      go_wp2_with (fail)
      go_end0
      exact fin _ _ hJ hG hO1 hB
    · refine op_bslice rfl rfl (.tmp 75) rfl (tk ((fun i => mx (s.T u i) (s.G place i))) u) rfl (fun z15 b9 X9 l15 f15 => ?_)
      replace hJ := hJ.keep (l15.block _ hJ.lt)
      replace hG := GM_keep hG (l15.block _ (GM_lt hG))
      replace hO := own_keep hO l15
      replace hB := hB.trans (l15.mono hbs1)
      replace hbs1 := Nat.le_trans hbs1 l15.size
      clear f15 l15
      refine wa_norm (fun K hK => ?_)
      go_simp
      refine hK _ _ ?_
      clear hK K
      refine wpAny_all (rs := [4]) (by kernel_rfl) (by simp) ?_
      intro i hi
      simp only [List.mem_cons, List.not_mem_nil, or_false] at hi
      subst hi
      refine op_val rfl rfl v (run_ldsl (.tmp 71) rfl ⟨B, 65, none⟩ v rfl hJ.list) ?_
      refine wa_norm (fun K hK => ?_)
      go_simp
      refine hK _ _ ?_
      clear hK K
      refine wpAny_all (rs := [9]) (by kernel_rfl) (by simp) ?_
      intro i hi
      simp only [List.mem_cons, List.not_mem_nil, or_false] at hi
      subst hi
      refine op_append rfl rfl (.tmp 72) (.tmp 76) rfl bs n v xs rfl hO b9 (tk ((fun i => mx (s.T u i) (s.G place i))) u) rfl X9 hn hbs1 (fun v1 z17 O1 g1 => ?_)
      replace hB := hB.grown g1 hbs1 (fun k e => (hO.lt k e).1)
      replace hJ := hJ.keep (g1.block _ hJ.lt (fun e => own_ne hO hJ e.symm))
      replace hG := GM_keep hG (g1.block _ (GM_lt hG) (fun e => own_nem hO hG e.symm))
      clear hO g1 X9
      refine wa_norm (fun K hK => ?_)
      go_simp
      refine hK _ _ ?_
      clear hK K
      refine wpAny_all (rs := [10]) (by kernel_rfl) (by simp) ?_
      intro i hi
      simp only [List.mem_cons, List.not_mem_nil, or_false] at hi
      subst hi
      refine op_val rfl rfl ?_ ?_ ?_
      rotate_left
      · go_simp; try with_reducible rfl
      refine wa_norm (fun K hK => ?_)
      go_simp
      refine hK _ _ ?_
      clear hK K
      refine wpAny_all (rs := [11]) (by kernel_rfl) (by simp) ?_
      intro i hi
      simp only [List.mem_cons, List.not_mem_nil, or_false] at hi
      subst hi
      refine op_val rfl rfl ?_ ?_ ?_
      rotate_left
      · go_simp; try with_reducible rfl
      refine wa_norm (fun K hK => ?_)
      go_simp
      refine hK _ _ ?_
      clear hK K
      refine wpAny_all (rs := [12]) (by kernel_rfl) (by simp) ?_
      intro i hi
      simp only [List.mem_cons, List.not_mem_nil, or_false] at hi
      subst hi
      have hsl : ∃ p n' c, v1 = .slice p n' c := by rcases O1.2 with ⟨e, _⟩ | ⟨g, cap, cur, e, _⟩ <;> exact ⟨_, _, _, e⟩
      refine op_stsl rfl rfl (.tmp 79) (.tmp 77) rfl B m _ v v1 hsl rfl rfl hJ ?_
      have hO1 := own_same O1 (w' := World.setCell _ ⟨B, 65, none⟩ v1) (fun g hg => heap_setCell_other _ _ g _ (fun e => own_ne O1 hJ (by rw [hg]; exact congrArg some e)))
      replace hG := GM_keep hG (w' := World.setCell _ ⟨B, 65, none⟩ v1) (heap_setCell_other _ _ m _ (jg_ne hJ hG))
      replace hJ := hJ.putList v1
      replace hB := hB.setCell (p := ⟨B, 65, none⟩) hbB v1
      clear O1 hsl
      refine wpAny_done (by kernel_rfl) ?_ _
      go_wp2_with (fail)
      go_end0
      exact fin _ _ hJ hG hO1 hB

set_option maxRecDepth 100000 in
set_option maxHeartbeats 4000000 in
theorem does_give (place : Int) (u : Nat) (hu : u < 8) (hx : Plain.right ⟨3, u, place⟩ = true) (s : Plain.St) (B m bs n : Nat) (v : Value) (xs : List Value) (w : World) (hJ : Judge w B m s.T v) (hG : GM w m s.G) (hO : w.ownsRow bs 52 8 v n xs) (hbs : bs ≤ w.heap.size) (hbB : bs ≤ B) (hbm : bs ≤ m) (hn : n ≤ 4000)
    (fin : ∀ (v' : Value) (w' : World), Judge w' B m (fun x => if x = u then (tk (s.T u) u) else s.T x) v' → GM w' m (fun q => if q = place then (fun i => mx (s.G place i) ((tk (s.T u) u) i)) else s.G q) → w'.ownsRow bs 52 8 v' (n + 1) (xs ++ (vc (tk (s.T u) u)).toList) → Below bs w w' → Done w bs B m s ⟨3, u, place⟩ n xs (.returned (.tuple #[])) w') :
    Calls Try.prog 19 #[.pointer (some ⟨B, 0, none⟩), act ⟨3, u, place⟩] w (Done w bs B m s ⟨3, u, place⟩ n xs) := by
  have hr := Right ⟨3, u, place⟩
  rw [hx] at hr
  have hu0 : (0 : Int) ≤ u := by omega
  have hu8 : (u : Int) < 8 := by omega
  unfold act at *
  go_enter Try.func19, Try.ntmps19
  go_upto_region 1 with (fail)
  have A3 : (w.alloc (.cells #[.int .i64 3, .int .i64 u, .int .i64 place] 34)).heap[w.heap.size]? = some (.cells #[.int .i64 3, .int .i64 u, .int .i64 place] 34) := heap_alloc_new w _
  have hB : Below bs w (w.alloc (.cells #[.int .i64 3, .int .i64 u, .int .i64 place] 34)) := (Below.refl _ _).alloc hbs _
  have hW : Below w.heap.size w (w.alloc (.cells #[.int .i64 3, .int .i64 u, .int .i64 place] 34)) := (Below.refl _ _).alloc (Nat.le_refl _) _
  replace hJ := hJ.keep (hW.block _ hJ.lt)
  replace hG := GM_keep hG (hW.block _ (GM_lt hG))
  replace hO := own_keep hO hW
  clear hW
  have hbs1 : bs ≤ (w.alloc (.cells #[.int .i64 3, .int .i64 u, .int .i64 place] 34)).heap.size := Nat.le_trans hbs hB.size
  generalize (w.alloc (.cells #[.int .i64 3, .int .i64 u, .int .i64 place] 34)) = W at *
  generalize w.heap.size = b3 at *
  refine plain_all (fun w' => Below W.heap.size W w') (Below.refl _ _) ?_
  refine q_run rfl (fun K hK => ?_)
  refine q_load 34 (.tmp 3) rfl _ rfl _ #[.int .i64 3, .int .i64 u, .int .i64 place] (0, 0) _ (fun w' h' => keep A3 h') Try.underlying34 rfl (by kernel_rfl) ?_
  go_simp
  refine hK _ ?_
  clear hK K
  refine q_run rfl (fun K hK => ?_)
  refine q_call (Nat.le_refl _) hr (fun w' => ?_) ?_
  · first | (go_simp; done) | (go_simp; rfl)
  go_simp
  refine hK _ ?_
  clear hK K
  refine q_run rfl (fun K hK => ?_)
  refine q_value ?_ (fun w' h' => ?_) ?_
  rotate_left
  · go_simp; try with_reducible rfl
  go_simp
  refine hK _ ?_
  clear hK K
  refine qd_nil ?_
  intro w1 h1
  replace A3 := keep A3 h1
  replace hB := hB.trans (h1.mono hbs1)
  replace hbs1 := Nat.le_trans hbs1 h1.size
  replace hJ := hJ.keep (h1.block _ hJ.lt)
  replace hG := GM_keep hG (h1.block _ (GM_lt hG))
  replace hO := own_keep hO h1
  clear h1
  go_upto_region 3 with (fail)
  refine quiet_all (fun w' => Below w1.heap.size w1 w') (by kernel_rfl) (by kernel_rfl) (Below.drew (Below.refl _ _)) ?_
  refine q_run rfl (fun K hK => ?_)
  refine q_value ?_ (fun w' h' => ?_) ?_
  rotate_left
  · go_simp; try with_reducible rfl
  go_simp
  refine hK _ ?_
  clear hK K
  refine q_run rfl (fun K hK => ?_)
  refine q_value ?_ (fun w' h' => ?_) ?_
  rotate_left
  · go_simp; try with_reducible rfl
  go_simp
  refine hK _ ?_
  clear hK K
  refine q_run rfl (fun K hK => ?_)
  refine q_value ?_ (fun w' h' => ?_) ?_
  rotate_left
  · have c := cell_of_row w' _ 1 _ _ _ (keep A3 h'); go_simp; try with_reducible rfl
  go_simp
  refine hK _ ?_
  clear hK K
  refine q_run rfl (fun K hK => ?_)
  refine q_value ?_ (fun w' h' => ?_) ?_
  rotate_left
  · go_simp; try with_reducible rfl
  go_simp
  refine hK _ ?_
  clear hK K
  refine q_run rfl (fun K hK => ?_)
  refine q_value ?_ (fun w' h' => ?_) ?_
  rotate_left
  · go_simp; try with_reducible rfl
  go_simp
  refine hK _ ?_
  clear hK K
  refine q_run rfl (fun K hK => ?_)
  refine q_value ?_ (fun w' h' => ?_) ?_
  rotate_left
  · go_simp; try with_reducible rfl
  go_simp
  refine hK _ ?_
  clear hK K
  refine q_run rfl (fun K hK => ?_)
  refine q_value ?_ (fun w' h' => ?_) ?_
  rotate_left
  · go_simp; try with_reducible rfl
  go_simp
  refine hK _ ?_
  clear hK K
  refine qd_nil ?_
  intro w2 h2
  replace A3 := keep A3 h2
  replace hB := hB.trans (h2.mono hbs1)
  replace hbs1 := Nat.le_trans hbs1 h2.size
  replace hJ := hJ.keep (h2.block _ hJ.lt)
  replace hG := GM_keep hG (h2.block _ (GM_lt hG))
  replace hO := own_keep hO h2
  clear h2
  go_upto_region 4 with (fail)
  refine plain_all (fun w' => Below w2.heap.size w2 w') (Below.refl _ _) ?_
  refine q_run rfl (fun K hK => ?_)
  refine q_value ?_ (fun w' h' => ?_) ?_
  rotate_left
  · go_simp; try with_reducible rfl
  go_simp
  refine hK _ ?_
  clear hK K
  refine q_run rfl (fun K hK => ?_)
  refine q_value ?_ (fun w' h' => ?_) ?_
  rotate_left
  · have c := cell_of_row w' _ 0 _ _ _ (keep A3 h'); go_simp; try with_reducible rfl
  go_simp
  refine hK _ ?_
  clear hK K
  refine q_run rfl (fun K hK => ?_)
  refine q_value ?_ (fun w' h' => ?_) ?_
  rotate_left
  · go_simp; try with_reducible rfl
  go_simp
  refine hK _ ?_
  clear hK K
  refine qd_nil ?_
  intro w3 h3
  replace A3 := keep A3 h3
  replace hB := hB.trans (h3.mono hbs1)
  replace hbs1 := Nat.le_trans hbs1 h3.size
  replace hJ := hJ.keep (h3.block _ hJ.lt)
  replace hG := GM_keep hG (h3.block _ (GM_lt hG))
  replace hO := own_keep hO h3
  clear h3
  go_upto_region 6 with (fail)
  refine quiet_tail 8 (fun w' => Below w3.heap.size w3 w') (by kernel_rfl) (by kernel_rfl) (Below.drew (Below.refl _ _)) ?_
  simp only [List.take_succ_cons, List.take_zero, List.drop_succ_cons, List.drop_zero]
  refine q_run rfl (fun K hK => ?_)
  refine q_value ?_ (fun w' h' => ?_) ?_
  rotate_left
  · go_simp; try with_reducible rfl
  go_simp
  refine hK _ ?_
  clear hK K
  refine q_run rfl (fun K hK => ?_)
  refine q_value ?_ (fun w' h' => ?_) ?_
  rotate_left
  · go_simp; try with_reducible rfl
  go_simp
  refine hK _ ?_
  clear hK K
  refine q_run rfl (fun K hK => ?_)
  refine q_value ?_ (fun w' h' => ?_) ?_
  rotate_left
  · go_simp; try with_reducible rfl
  go_simp
  refine hK _ ?_
  clear hK K
  refine q_run rfl (fun K hK => ?_)
  refine q_ldclk (.tmp 42) rfl B (u * 8) (s.T u) rfl (fun w' h' t ht => by have q0 := (hJ.keep (h'.block _ hJ.lt)).clk hu t ht; simpa using q0) ?_
  go_simp
  refine hK _ ?_
  clear hK K
  refine q_run rfl (fun K hK => ?_)
  refine q_value ?_ (fun w' h' => ?_) ?_
  rotate_left
  · go_simp; try with_reducible rfl
  go_simp
  refine hK _ ?_
  clear hK K
  refine q_run rfl (fun K hK => ?_)
  refine q_value ?_ (fun w' h' => ?_) ?_
  rotate_left
  · have c := cell_of_row w' _ 1 _ _ _ (keep A3 h'); go_simp; try with_reducible rfl
  go_simp
  refine hK _ ?_
  clear hK K
  refine q_run rfl (fun K hK => ?_)
  refine q_call (Nat.le_refl _) (Tick (s.T u) u hu) (fun w' => ?_) ?_
  · first | (go_simp; done) | (go_simp; rfl)
  go_simp
  refine hK _ ?_
  clear hK K
  refine q_run rfl (fun K hK => ?_)
  refine q_value ?_ (fun w' h' => ?_) ?_
  rotate_left
  · go_simp; try with_reducible rfl
  go_simp
  refine hK _ ?_
  clear hK K
  refine qd_nil ?_
  intro w4 h4
  replace A3 := keep A3 h4
  replace hB := hB.trans (h4.mono hbs1)
  replace hbs1 := Nat.le_trans hbs1 h4.size
  replace hJ := hJ.keep (h4.block _ hJ.lt)
  replace hG := GM_keep hG (h4.block _ (GM_lt hG))
  replace hO := own_keep hO h4
  clear h4
  refine wl_putclk rfl (.tmp 47) (.tmp 46) rfl B m u hu _ _ (tk (s.T u) u) rfl rfl hJ (fun y2 p1 o1 l1 e1 K hK => ?_)
  go_simp
  refine hK _ _ ?_
  clear hK K e1
  replace A3 := (o1 _ (box_ne hJ A3)).trans A3
  replace hG := GM_keep hG (o1 _ (jg_ne hJ hG))
  replace hO := own_same hO (fun g hg => o1 g (fun e => own_ne hO hJ (e ▸ hg)))
  replace hJ := p1
  replace hB := hB.trans (l1 _ hbB)
  replace hbs1 := Nat.le_trans hbs1 (l1 0 (Nat.zero_le _)).size
  clear o1 p1 l1
  go_upto_region 7 with (fail)
  refine plain_all (fun w' => Below y2.heap.size y2 w') (Below.refl _ _) ?_
  refine q_run rfl (fun K hK => ?_)
  refine q_value ?_ (fun w' h' => ?_) ?_
  rotate_left
  · go_simp; try with_reducible rfl
  go_simp
  refine hK _ ?_
  clear hK K
  refine q_run rfl (fun K hK => ?_)
  refine q_value ?_ (fun w' h' => ?_) ?_
  rotate_left
  · have c := cell_of_row w' _ 0 _ _ _ (keep A3 h'); go_simp; try with_reducible rfl
  go_simp
  refine hK _ ?_
  clear hK K
  refine q_run rfl (fun K hK => ?_)
  refine q_value ?_ (fun w' h' => ?_) ?_
  rotate_left
  · go_simp; try with_reducible rfl
  go_simp
  refine hK _ ?_
  clear hK K
  refine qd_nil ?_
  intro w5 h5
  replace A3 := keep A3 h5
  replace hB := hB.trans (h5.mono hbs1)
  replace hbs1 := Nat.le_trans hbs1 h5.size
  replace hJ := hJ.keep (h5.block _ hJ.lt)
  replace hG := GM_keep hG (h5.block _ (GM_lt hG))
  replace hO := own_keep hO h5
  clear h5
  go_upto_region 8 with (fail)
  refine quiet_tail 17 (fun w' => Below w5.heap.size w5 w') (by kernel_rfl) (by kernel_rfl) (Below.drew (Below.refl _ _)) ?_
  simp only [List.take_succ_cons, List.take_zero, List.drop_succ_cons, List.drop_zero]
  refine q_run rfl (fun K hK => ?_)
  refine q_value ?_ (fun w' h' => ?_) ?_
  rotate_left
  · go_simp; try with_reducible rfl
  go_simp
  refine hK _ ?_
  clear hK K
  refine q_run rfl (fun K hK => ?_)
  refine q_value ?_ (fun w' h' => ?_) ?_
  rotate_left
  · go_simp; try with_reducible rfl
  go_simp
  refine hK _ ?_
  clear hK K
  refine q_run rfl (fun K hK => ?_)
  refine q_value ?_ (fun w' h' => ?_) ?_
  rotate_left
  · go_simp; try with_reducible rfl
  go_simp
  refine hK _ ?_
  clear hK K
  refine q_run rfl (fun K hK => ?_)
  refine q_value ?_ (fun w' h' => ?_) ?_
  rotate_left
  · have c := (hJ.keep (h'.block _ hJ.lt)).given; go_simp; try with_reducible rfl
  go_simp
  refine hK _ ?_
  clear hK K
  refine q_run rfl (fun K hK => ?_)
  refine q_value ?_ (fun w' h' => ?_) ?_
  rotate_left
  · go_simp; try with_reducible rfl
  go_simp
  refine hK _ ?_
  clear hK K
  refine q_run rfl (fun K hK => ?_)
  refine q_value ?_ (fun w' h' => ?_) ?_
  rotate_left
  · have c := cell_of_row w' _ 2 _ _ _ (keep A3 h'); go_simp; try with_reducible rfl
  go_simp
  refine hK _ ?_
  clear hK K
  refine q_run rfl (fun K hK => ?_)
  refine q_value ?_ (fun w' h' => ?_) ?_
  rotate_left
  · go_simp; try with_reducible rfl
  go_simp
  refine hK _ ?_
  clear hK K
  refine q_run rfl (fun K hK => ?_)
  refine q_value ?_ (fun w' h' => ?_) ?_
  rotate_left
  · go_simp; try with_reducible rfl
  go_simp
  refine hK _ ?_
  clear hK K
  refine q_run rfl (fun K hK => ?_)
  refine q_value ?_ (fun w' h' => ?_) ?_
  rotate_left
  · go_simp; try with_reducible rfl
  go_simp
  refine hK _ ?_
  clear hK K
  refine q_run rfl (fun K hK => ?_)
  refine q_value ?_ (fun w' h' => ?_) ?_
  rotate_left
  · have c := (hJ.keep (h'.block _ hJ.lt)).given; go_simp; try with_reducible rfl
  go_simp
  refine hK _ ?_
  clear hK K
  refine q_run rfl (fun K hK => ?_)
  refine q_value ?_ (fun w' h' => ?_) ?_
  rotate_left
  · go_simp; try with_reducible rfl
  go_simp
  refine hK _ ?_
  clear hK K
  refine q_run rfl (fun K hK => ?_)
  refine q_value ?_ (fun w' h' => ?_) ?_
  rotate_left
  · have c := cell_of_row w' _ 2 _ _ _ (keep A3 h'); go_simp; try with_reducible rfl
  go_simp
  refine hK _ ?_
  clear hK K
  refine q_run rfl (fun K hK => ?_)
  refine q_value _ (fun w' h' => run_look (.tmp 60) (.tmp 62) rfl m (s.G) place rfl rfl (GM_keep hG (h'.block _ (GM_lt hG)))) ?_
  go_simp
  refine hK _ ?_
  clear hK K
  refine q_run rfl (fun K hK => ?_)
  refine q_value ?_ (fun w' h' => ?_) ?_
  rotate_left
  · go_simp; try with_reducible rfl
  go_simp
  refine hK _ ?_
  clear hK K
  refine q_run rfl (fun K hK => ?_)
  refine q_value ?_ (fun w' h' => ?_) ?_
  rotate_left
  · go_simp; try with_reducible rfl
  go_simp
  refine hK _ ?_
  clear hK K
  refine q_run rfl (fun K hK => ?_)
  refine q_ldclk (.tmp 65) rfl B (u * 8) (tk (s.T u) u) rfl (fun w' h' t ht => by have q0 := (hJ.keep (h'.block _ hJ.lt)).clk hu t ht; simpa using q0) ?_
  go_simp
  refine hK _ ?_
  clear hK K
  refine q_run rfl (fun K hK => ?_)
  refine q_call (Nat.le_refl _) (Join (s.G place) (tk (s.T u) u)) (fun w' => ?_) ?_
  · first | (go_simp; done) | (go_simp; rfl)
  go_simp
  refine hK _ ?_
  clear hK K
  refine qd_nil ?_
  intro w6 h6
  replace A3 := keep A3 h6
  replace hB := hB.trans (h6.mono hbs1)
  replace hbs1 := Nat.le_trans hbs1 h6.size
  replace hJ := hJ.keep (h6.block _ hJ.lt)
  replace hG := GM_keep hG (h6.block _ (GM_lt hG))
  replace hO := own_keep hO h6
  clear h6
  refine wl_putmap rfl (.tmp 54) (.tmp 56) (.tmp 67) rfl m s.G place (fun i => mx (s.G place i) ((tk (s.T u) u) i)) rfl rfl rfl hG (fun y3 p1 o1 l1 e1 K hK => ?_)
  go_simp
  refine hK _ _ ?_
  clear hK K e1
  have hmB := jg_ne hJ hG
  replace A3 := (o1 _ (fun e => by subst e; obtain ⟨es, cl, q, _⟩ := hG; rw [A3] at q; injection q with q; cases q)).trans A3
  replace hJ := hJ.keep (o1 _ hmB.symm)
  replace hO := own_same hO (fun g hg => o1 g (fun e => own_nem hO hG (e ▸ hg)))
  replace hG := p1
  replace hB := hB.trans (l1 _ hbm)
  replace hbs1 := Nat.le_trans hbs1 (l1 0 (Nat.zero_le _)).size
  clear o1 p1 l1 hmB
  go_upto_region 9 with (fail)
  clear A3 hr
  obtain ⟨z, hz⟩ : ∃ z, z = World.drew y3 := ⟨_, rfl⟩
  replace hJ : Judge z B m _ v := hJ.keep (by rw [hz]; rfl)
  replace hG : GM z m _ := GM_keep hG (by rw [hz]; rfl)
  replace hO : z.ownsRow bs 52 8 v n xs := own_same hO (fun g _ => by rw [hz]; rfl)
  replace hB : Below bs w z := by rw [hz]; exact hB.drew
  replace hbs1 : bs ≤ z.heap.size := by rw [hz]; exact hbs1
  refine wp_region_any (by kernel_rfl) ?_
  show wpAny _ _ _ _ _ _ _ (World.drew _)
  rw [← hz]
  clear hz
  refine wpAny_take (i := 0) (v := ?_) rfl (by kernel_rfl) (by kernel_rfl) (by kernel_rfl) (fun _ _ _ h => h) (Or.inl ⟨by rfl, ?_⟩) ?_
  rotate_left
  · intro w'; go_simp; try with_reducible rfl
  refine wa_norm (fun K hK => ?_)
  go_simp
  refine hK _ _ ?_
  clear hK K
  refine wpAny_take (i := 1) (v := ?_) rfl (by kernel_rfl) (by kernel_rfl) (by kernel_rfl) (fun _ _ _ h => h) (Or.inl ⟨by rfl, ?_⟩) ?_
  rotate_left
  · intro w'; go_simp; try with_reducible rfl
  refine wa_norm (fun K hK => ?_)
  go_simp
  refine hK _ _ ?_
  clear hK K
  refine wpAny_take (i := 2) (v := ?_) rfl (by kernel_rfl) (by kernel_rfl) (by kernel_rfl) (fun _ _ _ h => h) (Or.inl ⟨by rfl, ?_⟩) ?_
  rotate_left
  · intro w'; go_simp; try with_reducible rfl
  refine wa_norm (fun K hK => ?_)
  go_simp
  refine hK _ _ ?_
  clear hK K
  refine wpAny_take (i := 3) (v := ?_) rfl (by kernel_rfl) (by kernel_rfl) (by kernel_rfl) (fun _ _ _ h => h) (Or.inl ⟨by rfl, ?_⟩) ?_
  rotate_left
  · intro w'; go_simp; try with_reducible rfl
  refine wa_norm (fun K hK => ?_)
  go_simp
  refine hK _ _ ?_
  clear hK K
  refine wpAny_take (i := 5) (v := ?_) rfl (by kernel_rfl) (by kernel_rfl) (by kernel_rfl) (fun _ _ _ h => h) (Or.inl ⟨by rfl, ?_⟩) ?_
  rotate_left
  · intro w'; go_simp; try with_reducible rfl
  refine wa_norm (fun K hK => ?_)
  go_simp
  refine hK _ _ ?_
  clear hK K
  refine wpAny_take (i := 6) (v := ?_) rfl (by kernel_rfl) (by kernel_rfl) (by kernel_rfl) (fun _ _ _ h => h) (Or.inl ⟨by rfl, ?_⟩) ?_
  rotate_left
  · intro w'; go_simp; try with_reducible rfl
  refine wa_norm (fun K hK => ?_)
  go_simp
  refine hK _ _ ?_
  clear hK K
  refine wpAny_all (rs := [4, 7]) (by kernel_rfl) (by simp) ?_
  intro i hi
  simp only [List.mem_cons, List.not_mem_nil, or_false] at hi
  rcases hi with rfl | rfl
  · refine op_val rfl rfl v (run_ldsl (.tmp 71) rfl ⟨B, 65, none⟩ v rfl hJ.list) ?_
    refine wa_norm (fun K hK => ?_)
    go_simp
    refine hK _ _ ?_
    clear hK K
    refine wpAny_all (rs := [7]) (by kernel_rfl) (by simp) ?_
    intro i hi
    simp only [List.mem_cons, List.not_mem_nil, or_false] at hi
    subst hi
    refine op_val rfl rfl (.agg (vc (tk (s.T u) u))) (run_ldclk (.tmp 74) rfl B (u * 8) (tk (s.T u) u) rfl (fun t ht => by have q0 := hJ.clk hu t ht; simpa using q0)) ?_
    refine wa_norm (fun K hK => ?_)
    go_simp
    refine hK _ _ ?_
    clear hK K
    refine wpAny_all (rs := [8]) (by kernel_rfl) (by simp) ?_
    intro i hi
    simp only [List.mem_cons, List.not_mem_nil, or_false] at hi
    subst hi
    refine op_bslice rfl rfl (.tmp 75) rfl (tk (s.T u) u) rfl (fun z3 b9 X9 l3 f3 => ?_)
    replace hJ := hJ.keep (l3.block _ hJ.lt)
    replace hG := GM_keep hG (l3.block _ (GM_lt hG))
    replace hO := own_keep hO l3
    replace hB := hB.trans (l3.mono hbs1)
    replace hbs1 := Nat.le_trans hbs1 l3.size
    clear f3 l3
    refine wa_norm (fun K hK => ?_)
    go_simp
    refine hK _ _ ?_
    clear hK K
    refine wpAny_all (rs := [9]) (by kernel_rfl) (by simp) ?_
    intro i hi
    simp only [List.mem_cons, List.not_mem_nil, or_false] at hi
    subst hi
    refine op_append rfl rfl (.tmp 72) (.tmp 76) rfl bs n v xs rfl hO b9 (tk (s.T u) u) rfl X9 hn hbs1 (fun v1 z4 O1 g1 => ?_)
    replace hB := hB.grown g1 hbs1 (fun k e => (hO.lt k e).1)
    replace hJ := hJ.keep (g1.block _ hJ.lt (fun e => own_ne hO hJ e.symm))
    replace hG := GM_keep hG (g1.block _ (GM_lt hG) (fun e => own_nem hO hG e.symm))
    clear hO g1 X9
    refine wa_norm (fun K hK => ?_)
    go_simp
    refine hK _ _ ?_
    clear hK K
    refine wpAny_all (rs := [10]) (by kernel_rfl) (by simp) ?_
    intro i hi
    simp only [List.mem_cons, List.not_mem_nil, or_false] at hi
    subst hi
    refine op_val rfl rfl ?_ ?_ ?_
    rotate_left
    · go_simp; try with_reducible rfl
    refine wa_norm (fun K hK => ?_)
    go_simp
    refine hK _ _ ?_
    clear hK K
    refine wpAny_all (rs := [11]) (by kernel_rfl) (by simp) ?_
    intro i hi
    simp only [List.mem_cons, List.not_mem_nil, or_false] at hi
    subst hi
    refine op_val rfl rfl ?_ ?_ ?_
    rotate_left
    · go_simp; try with_reducible rfl
    refine wa_norm (fun K hK => ?_)
    go_simp
    refine hK _ _ ?_
    clear hK K
    refine wpAny_all (rs := [12]) (by kernel_rfl) (by simp) ?_
    intro i hi
    simp only [List.mem_cons, List.not_mem_nil, or_false] at hi
    subst hi
    have hsl : ∃ p n' c, v1 = .slice p n' c := by rcases O1.2 with ⟨e, _⟩ | ⟨g, cap, cur, e, _⟩ <;> exact ⟨_, _, _, e⟩
    refine op_stsl rfl rfl (.tmp 79) (.tmp 77) rfl B m _ v v1 hsl rfl rfl hJ ?_
    have hO1 := own_same O1 (w' := World.setCell _ ⟨B, 65, none⟩ v1) (fun g hg => heap_setCell_other _ _ g _ (fun e => own_ne O1 hJ (by rw [hg]; exact congrArg some e)))
    replace hG := GM_keep hG (w' := World.setCell _ ⟨B, 65, none⟩ v1) (heap_setCell_other _ _ m _ (jg_ne hJ hG))
    replace hJ := hJ.putList v1
    replace hB := hB.setCell (p := ⟨B, 65, none⟩) hbB v1
    clear O1 hsl
    refine wpAny_done (by kernel_rfl) ?_ _
    go_wp2_with (fail)
    go_end0
    exact fin _ _ hJ hG hO1 hB
  · refine op_val rfl rfl (.agg (vc (tk (s.T u) u))) (run_ldclk (.tmp 74) rfl B (u * 8) (tk (s.T u) u) rfl (fun t ht => by have q0 := hJ.clk hu t ht; simpa using q0)) ?_
    refine wa_norm (fun K hK => ?_)
    go_simp
    refine hK _ _ ?_
    clear hK K
    refine wpAny_all (rs := [4, 8]) (by kernel_rfl) (by simp) ?_
    intro i hi
    simp only [List.mem_cons, List.not_mem_nil, or_false] at hi
    rcases hi with rfl | rfl
    · refine op_val rfl rfl v (run_ldsl (.tmp 71) rfl ⟨B, 65, none⟩ v rfl hJ.list) ?_
      refine wa_norm (fun K hK => ?_)
      go_simp
      refine hK _ _ ?_
      clear hK K
      refine wpAny_all (rs := [8]) (by kernel_rfl) (by simp) ?_
      intro i hi
      simp only [List.mem_cons, List.not_mem_nil, or_false] at hi
      subst hi
      refine op_bslice rfl rfl (.tmp 75) rfl (tk (s.T u) u) rfl (fun z10 b9 X9 l10 f10 => ?_)
      replace hJ := hJ.keep (l10.block _ hJ.lt)
      replace hG := GM_keep hG (l10.block _ (GM_lt hG))
      replace hO := own_keep hO l10
      replace hB := hB.trans (l10.mono hbs1)
      replace hbs1 := Nat.le_trans hbs1 l10.size
      clear f10 l10
      refine wa_norm (fun K hK => ?_)
      go_simp
      refine hK _ _ ?_
      clear hK K
      refine wpAny_all (rs := [9]) (by kernel_rfl) (by simp) ?_
      intro i hi
      simp only [List.mem_cons, List.not_mem_nil, or_false] at hi
      subst hi
      refine op_append rfl rfl (.tmp 72) (.tmp 76) rfl bs n v xs rfl hO b9 (tk (s.T u) u) rfl X9 hn hbs1 (fun v1 z11 O1 g1 => ?_)
      replace hB := hB.grown g1 hbs1 (fun k e => (hO.lt k e).1)
      replace hJ := hJ.keep (g1.block _ hJ.lt (fun e => own_ne hO hJ e.symm))
      replace hG := GM_keep hG (g1.block _ (GM_lt hG) (fun e => own_nem hO hG e.symm))
      clear hO g1 X9
      refine wa_norm (fun K hK => ?_)
      go_simp
      refine hK _ _ ?_
      clear hK K
      refine wpAny_all (rs := [10]) (by kernel_rfl) (by simp) ?_
      intro i hi
      simp only [List.mem_cons, List.not_mem_nil, or_false] at hi
      subst hi
      refine op_val rfl rfl ?_ ?_ ?_
      rotate_left
      · go_simp; try with_reducible rfl
      refine wa_norm (fun K hK => ?_)
      go_simp
      refine hK _ _ ?_
      clear hK K
      refine wpAny_all (rs := [11]) (by kernel_rfl) (by simp) ?_
      intro i hi
      simp only [List.mem_cons, List.not_mem_nil, or_false] at hi
      subst hi
      refine op_val rfl rfl ?_ ?_ ?_
      rotate_left
      · go_simp; try with_reducible rfl
      refine wa_norm (fun K hK => ?_)
      go_simp
      refine hK _ _ ?_
      clear hK K
      refine wpAny_all (rs := [12]) (by kernel_rfl) (by simp) ?_
      intro i hi
      simp only [List.mem_cons, List.not_mem_nil, or_false] at hi
      subst hi
      have hsl : ∃ p n' c, v1 = .slice p n' c := by rcases O1.2 with ⟨e, _⟩ | ⟨g, cap, cur, e, _⟩ <;> exact ⟨_, _, _, e⟩
      refine op_stsl rfl rfl (.tmp 79) (.tmp 77) rfl B m _ v v1 hsl rfl rfl hJ ?_
      have hO1 := own_same O1 (w' := World.setCell _ ⟨B, 65, none⟩ v1) (fun g hg => heap_setCell_other _ _ g _ (fun e => own_ne O1 hJ (by rw [hg]; exact congrArg some e)))
      replace hG := GM_keep hG (w' := World.setCell _ ⟨B, 65, none⟩ v1) (heap_setCell_other _ _ m _ (jg_ne hJ hG))
      replace hJ := hJ.putList v1
      replace hB := hB.setCell (p := ⟨B, 65, none⟩) hbB v1
      clear O1 hsl
      refine wpAny_done (by kernel_rfl) ?_ _
      go_wp2_with (fail)
      go_end0
      exact fin _ _ hJ hG hO1 hB
    · refine op_bslice rfl rfl (.tmp 75) rfl (tk (s.T u) u) rfl (fun z15 b9 X9 l15 f15 => ?_)
      replace hJ := hJ.keep (l15.block _ hJ.lt)
      replace hG := GM_keep hG (l15.block _ (GM_lt hG))
      replace hO := own_keep hO l15
      replace hB := hB.trans (l15.mono hbs1)
      replace hbs1 := Nat.le_trans hbs1 l15.size
      clear f15 l15
      refine wa_norm (fun K hK => ?_)
      go_simp
      refine hK _ _ ?_
      clear hK K
      refine wpAny_all (rs := [4]) (by kernel_rfl) (by simp) ?_
      intro i hi
      simp only [List.mem_cons, List.not_mem_nil, or_false] at hi
      subst hi
      refine op_val rfl rfl v (run_ldsl (.tmp 71) rfl ⟨B, 65, none⟩ v rfl hJ.list) ?_
      refine wa_norm (fun K hK => ?_)
      go_simp
      refine hK _ _ ?_
      clear hK K
      refine wpAny_all (rs := [9]) (by kernel_rfl) (by simp) ?_
      intro i hi
      simp only [List.mem_cons, List.not_mem_nil, or_false] at hi
      subst hi
      refine op_append rfl rfl (.tmp 72) (.tmp 76) rfl bs n v xs rfl hO b9 (tk (s.T u) u) rfl X9 hn hbs1 (fun v1 z17 O1 g1 => ?_)
      replace hB := hB.grown g1 hbs1 (fun k e => (hO.lt k e).1)
      replace hJ := hJ.keep (g1.block _ hJ.lt (fun e => own_ne hO hJ e.symm))
      replace hG := GM_keep hG (g1.block _ (GM_lt hG) (fun e => own_nem hO hG e.symm))
      clear hO g1 X9
      refine wa_norm (fun K hK => ?_)
      go_simp
      refine hK _ _ ?_
      clear hK K
      refine wpAny_all (rs := [10]) (by kernel_rfl) (by simp) ?_
      intro i hi
      simp only [List.mem_cons, List.not_mem_nil, or_false] at hi
      subst hi
      refine op_val rfl rfl ?_ ?_ ?_
      rotate_left
      · go_simp; try with_reducible rfl
      refine wa_norm (fun K hK => ?_)
      go_simp
      refine hK _ _ ?_
      clear hK K
      refine wpAny_all (rs := [11]) (by kernel_rfl) (by simp) ?_
      intro i hi
      simp only [List.mem_cons, List.not_mem_nil, or_false] at hi
      subst hi
      refine op_val rfl rfl ?_ ?_ ?_
      rotate_left
      · go_simp; try with_reducible rfl
      refine wa_norm (fun K hK => ?_)
      go_simp
      refine hK _ _ ?_
      clear hK K
      refine wpAny_all (rs := [12]) (by kernel_rfl) (by simp) ?_
      intro i hi
      simp only [List.mem_cons, List.not_mem_nil, or_false] at hi
      subst hi
      have hsl : ∃ p n' c, v1 = .slice p n' c := by rcases O1.2 with ⟨e, _⟩ | ⟨g, cap, cur, e, _⟩ <;> exact ⟨_, _, _, e⟩
      refine op_stsl rfl rfl (.tmp 79) (.tmp 77) rfl B m _ v v1 hsl rfl rfl hJ ?_
      have hO1 := own_same O1 (w' := World.setCell _ ⟨B, 65, none⟩ v1) (fun g hg => heap_setCell_other _ _ g _ (fun e => own_ne O1 hJ (by rw [hg]; exact congrArg some e)))
      replace hG := GM_keep hG (w' := World.setCell _ ⟨B, 65, none⟩ v1) (heap_setCell_other _ _ m _ (jg_ne hJ hG))
      replace hJ := hJ.putList v1
      replace hB := hB.setCell (p := ⟨B, 65, none⟩) hbB v1
      clear O1 hsl
      refine wpAny_done (by kernel_rfl) ?_ _
      go_wp2_with (fail)
      go_end0
      exact fin _ _ hJ hG hO1 hB

set_option maxRecDepth 100000 in
set_option maxHeartbeats 4000000 in
theorem does_plain (kind : Int) (place : Int) (u : Nat) (hu : u < 8) (hx : Plain.right ⟨kind, u, place⟩ = true) (k3 : (kind == 3) = false) (k4 : (kind == 4) = false) (s : Plain.St) (B m bs n : Nat) (v : Value) (xs : List Value) (w : World) (hJ : Judge w B m s.T v) (hG : GM w m s.G) (hO : w.ownsRow bs 52 8 v n xs) (hbs : bs ≤ w.heap.size) (hbB : bs ≤ B) (hbm : bs ≤ m) (hn : n ≤ 4000)
    (fin : ∀ (v' : Value) (w' : World), Judge w' B m (fun x => if x = u then (tk (s.T u) u) else s.T x) v' → GM w' m s.G → w'.ownsRow bs 52 8 v' (n + 1) (xs ++ (vc (tk (s.T u) u)).toList) → Below bs w w' → Done w bs B m s ⟨kind, u, place⟩ n xs (.returned (.tuple #[])) w') :
    Calls Try.prog 19 #[.pointer (some ⟨B, 0, none⟩), act ⟨kind, u, place⟩] w (Done w bs B m s ⟨kind, u, place⟩ n xs) := by
  have hr := Right ⟨kind, u, place⟩
  rw [hx] at hr
  have hu0 : (0 : Int) ≤ u := by omega
  have hu8 : (u : Int) < 8 := by omega
  unfold act at *
  go_enter Try.func19, Try.ntmps19
  go_upto_region 1 with (fail)
  have A3 : (w.alloc (.cells #[.int .i64 kind, .int .i64 u, .int .i64 place] 34)).heap[w.heap.size]? = some (.cells #[.int .i64 kind, .int .i64 u, .int .i64 place] 34) := heap_alloc_new w _
  have hB : Below bs w (w.alloc (.cells #[.int .i64 kind, .int .i64 u, .int .i64 place] 34)) := (Below.refl _ _).alloc hbs _
  have hW : Below w.heap.size w (w.alloc (.cells #[.int .i64 kind, .int .i64 u, .int .i64 place] 34)) := (Below.refl _ _).alloc (Nat.le_refl _) _
  replace hJ := hJ.keep (hW.block _ hJ.lt)
  replace hG := GM_keep hG (hW.block _ (GM_lt hG))
  replace hO := own_keep hO hW
  clear hW
  have hbs1 : bs ≤ (w.alloc (.cells #[.int .i64 kind, .int .i64 u, .int .i64 place] 34)).heap.size := Nat.le_trans hbs hB.size
  generalize (w.alloc (.cells #[.int .i64 kind, .int .i64 u, .int .i64 place] 34)) = W at *
  generalize w.heap.size = b3 at *
  refine plain_all (fun w' => Below W.heap.size W w') (Below.refl _ _) ?_
  refine q_run rfl (fun K hK => ?_)
  refine q_load 34 (.tmp 3) rfl _ rfl _ #[.int .i64 kind, .int .i64 u, .int .i64 place] (0, 0) _ (fun w' h' => keep A3 h') Try.underlying34 rfl (by kernel_rfl) ?_
  go_simp
  refine hK _ ?_
  clear hK K
  refine q_run rfl (fun K hK => ?_)
  refine q_call (Nat.le_refl _) hr (fun w' => ?_) ?_
  · first | (go_simp; done) | (go_simp; rfl)
  go_simp
  refine hK _ ?_
  clear hK K
  refine q_run rfl (fun K hK => ?_)
  refine q_value ?_ (fun w' h' => ?_) ?_
  rotate_left
  · go_simp; try with_reducible rfl
  go_simp
  refine hK _ ?_
  clear hK K
  refine qd_nil ?_
  intro w1 h1
  replace A3 := keep A3 h1
  replace hB := hB.trans (h1.mono hbs1)
  replace hbs1 := Nat.le_trans hbs1 h1.size
  replace hJ := hJ.keep (h1.block _ hJ.lt)
  replace hG := GM_keep hG (h1.block _ (GM_lt hG))
  replace hO := own_keep hO h1
  clear h1
  go_upto_region 3 with (fail)
  refine quiet_all (fun w' => Below w1.heap.size w1 w') (by kernel_rfl) (by kernel_rfl) (Below.drew (Below.refl _ _)) ?_
  refine q_run rfl (fun K hK => ?_)
  refine q_value ?_ (fun w' h' => ?_) ?_
  rotate_left
  · go_simp; try with_reducible rfl
  go_simp
  refine hK _ ?_
  clear hK K
  refine q_run rfl (fun K hK => ?_)
  refine q_value ?_ (fun w' h' => ?_) ?_
  rotate_left
  · go_simp; try with_reducible rfl
  go_simp
  refine hK _ ?_
  clear hK K
  refine q_run rfl (fun K hK => ?_)
  refine q_value ?_ (fun w' h' => ?_) ?_
  rotate_left
  · have c := cell_of_row w' _ 1 _ _ _ (keep A3 h'); go_simp; try with_reducible rfl
  go_simp
  refine hK _ ?_
  clear hK K
  refine q_run rfl (fun K hK => ?_)
  refine q_value ?_ (fun w' h' => ?_) ?_
  rotate_left
  · go_simp; try with_reducible rfl
  go_simp
  refine hK _ ?_
  clear hK K
  refine q_run rfl (fun K hK => ?_)
  refine q_value ?_ (fun w' h' => ?_) ?_
  rotate_left
  · go_simp; try with_reducible rfl
  go_simp
  refine hK _ ?_
  clear hK K
  refine q_run rfl (fun K hK => ?_)
  refine q_value ?_ (fun w' h' => ?_) ?_
  rotate_left
  · go_simp; try with_reducible rfl
  go_simp
  refine hK _ ?_
  clear hK K
  refine q_run rfl (fun K hK => ?_)
  refine q_value ?_ (fun w' h' => ?_) ?_
  rotate_left
  · go_simp; try with_reducible rfl
  go_simp
  refine hK _ ?_
  clear hK K
  refine qd_nil ?_
  intro w2 h2
  replace A3 := keep A3 h2
  replace hB := hB.trans (h2.mono hbs1)
  replace hbs1 := Nat.le_trans hbs1 h2.size
  replace hJ := hJ.keep (h2.block _ hJ.lt)
  replace hG := GM_keep hG (h2.block _ (GM_lt hG))
  replace hO := own_keep hO h2
  clear h2
  go_upto_region 4 with (fail)
  refine plain_all (fun w' => Below w2.heap.size w2 w') (Below.refl _ _) ?_
  refine q_run rfl (fun K hK => ?_)
  refine q_value ?_ (fun w' h' => ?_) ?_
  rotate_left
  · go_simp; try with_reducible rfl
  go_simp
  refine hK _ ?_
  clear hK K
  refine q_run rfl (fun K hK => ?_)
  refine q_value ?_ (fun w' h' => ?_) ?_
  rotate_left
  · have c := cell_of_row w' _ 0 _ _ _ (keep A3 h'); go_simp; try with_reducible rfl
  go_simp
  refine hK _ ?_
  clear hK K
  refine q_run rfl (fun K hK => ?_)
  refine q_value ?_ (fun w' h' => ?_) ?_
  rotate_left
  · go_simp; try with_reducible rfl
  go_simp
  refine hK _ ?_
  clear hK K
  refine qd_nil ?_
  intro w3 h3
  replace A3 := keep A3 h3
  replace hB := hB.trans (h3.mono hbs1)
  replace hbs1 := Nat.le_trans hbs1 h3.size
  replace hJ := hJ.keep (h3.block _ hJ.lt)
  replace hG := GM_keep hG (h3.block _ (GM_lt hG))
  replace hO := own_keep hO h3
  clear h3
  go_upto_region 6 with (fail)
  refine quiet_tail 8 (fun w' => Below w3.heap.size w3 w') (by kernel_rfl) (by kernel_rfl) (Below.drew (Below.refl _ _)) ?_
  simp only [List.take_succ_cons, List.take_zero, List.drop_succ_cons, List.drop_zero]
  refine q_run rfl (fun K hK => ?_)
  refine q_value ?_ (fun w' h' => ?_) ?_
  rotate_left
  · go_simp; try with_reducible rfl
  go_simp
  refine hK _ ?_
  clear hK K
  refine q_run rfl (fun K hK => ?_)
  refine q_value ?_ (fun w' h' => ?_) ?_
  rotate_left
  · go_simp; try with_reducible rfl
  go_simp
  refine hK _ ?_
  clear hK K
  refine q_run rfl (fun K hK => ?_)
  refine q_value ?_ (fun w' h' => ?_) ?_
  rotate_left
  · go_simp; try with_reducible rfl
  go_simp
  refine hK _ ?_
  clear hK K
  refine q_run rfl (fun K hK => ?_)
  refine q_ldclk (.tmp 42) rfl B (u * 8) (s.T u) rfl (fun w' h' t ht => by have q0 := (hJ.keep (h'.block _ hJ.lt)).clk hu t ht; simpa using q0) ?_
  go_simp
  refine hK _ ?_
  clear hK K
  refine q_run rfl (fun K hK => ?_)
  refine q_value ?_ (fun w' h' => ?_) ?_
  rotate_left
  · go_simp; try with_reducible rfl
  go_simp
  refine hK _ ?_
  clear hK K
  refine q_run rfl (fun K hK => ?_)
  refine q_value ?_ (fun w' h' => ?_) ?_
  rotate_left
  · have c := cell_of_row w' _ 1 _ _ _ (keep A3 h'); go_simp; try with_reducible rfl
  go_simp
  refine hK _ ?_
  clear hK K
  refine q_run rfl (fun K hK => ?_)
  refine q_call (Nat.le_refl _) (Tick (s.T u) u hu) (fun w' => ?_) ?_
  · first | (go_simp; done) | (go_simp; rfl)
  go_simp
  refine hK _ ?_
  clear hK K
  refine q_run rfl (fun K hK => ?_)
  refine q_value ?_ (fun w' h' => ?_) ?_
  rotate_left
  · go_simp; try with_reducible rfl
  go_simp
  refine hK _ ?_
  clear hK K
  refine qd_nil ?_
  intro w4 h4
  replace A3 := keep A3 h4
  replace hB := hB.trans (h4.mono hbs1)
  replace hbs1 := Nat.le_trans hbs1 h4.size
  replace hJ := hJ.keep (h4.block _ hJ.lt)
  replace hG := GM_keep hG (h4.block _ (GM_lt hG))
  replace hO := own_keep hO h4
  clear h4
  refine wl_putclk rfl (.tmp 47) (.tmp 46) rfl B m u hu _ _ (tk (s.T u) u) rfl rfl hJ (fun y2 p1 o1 l1 e1 K hK => ?_)
  go_simp
  refine hK _ _ ?_
  clear hK K e1
  replace A3 := (o1 _ (box_ne hJ A3)).trans A3
  replace hG := GM_keep hG (o1 _ (jg_ne hJ hG))
  replace hO := own_same hO (fun g hg => o1 g (fun e => own_ne hO hJ (e ▸ hg)))
  replace hJ := p1
  replace hB := hB.trans (l1 _ hbB)
  replace hbs1 := Nat.le_trans hbs1 (l1 0 (Nat.zero_le _)).size
  clear o1 p1 l1
  go_upto_region 7 with (fail)
  refine plain_all (fun w' => Below y2.heap.size y2 w') (Below.refl _ _) ?_
  refine q_run rfl (fun K hK => ?_)
  refine q_value ?_ (fun w' h' => ?_) ?_
  rotate_left
  · go_simp; try with_reducible rfl
  go_simp
  refine hK _ ?_
  clear hK K
  refine q_run rfl (fun K hK => ?_)
  refine q_value ?_ (fun w' h' => ?_) ?_
  rotate_left
  · have c := cell_of_row w' _ 0 _ _ _ (keep A3 h'); go_simp; try with_reducible rfl
  go_simp
  refine hK _ ?_
  clear hK K
  refine q_run rfl (fun K hK => ?_)
  refine q_value ?_ (fun w' h' => ?_) ?_
  rotate_left
  · go_simp; try with_reducible rfl
  go_simp
  refine hK _ ?_
  clear hK K
  refine qd_nil ?_
  intro w5 h5
  replace A3 := keep A3 h5
  replace hB := hB.trans (h5.mono hbs1)
  replace hbs1 := Nat.le_trans hbs1 h5.size
  replace hJ := hJ.keep (h5.block _ hJ.lt)
  replace hG := GM_keep hG (h5.block _ (GM_lt hG))
  replace hO := own_keep hO h5
  clear h5
  go_upto_region 9 with (fail)
  clear A3 hr
  obtain ⟨z, hz⟩ : ∃ z, z = World.drew w5 := ⟨_, rfl⟩
  replace hJ : Judge z B m _ v := hJ.keep (by rw [hz]; rfl)
  replace hG : GM z m _ := GM_keep hG (by rw [hz]; rfl)
  replace hO : z.ownsRow bs 52 8 v n xs := own_same hO (fun g _ => by rw [hz]; rfl)
  replace hB : Below bs w z := by rw [hz]; exact hB.drew
  replace hbs1 : bs ≤ z.heap.size := by rw [hz]; exact hbs1
  refine wp_region_any (by kernel_rfl) ?_
  show wpAny _ _ _ _ _ _ _ (World.drew _)
  rw [← hz]
  clear hz
  refine wpAny_take (i := 0) (v := ?_) rfl (by kernel_rfl) (by kernel_rfl) (by kernel_rfl) (fun _ _ _ h => h) (Or.inl ⟨by rfl, ?_⟩) ?_
  rotate_left
  · intro w'; go_simp; try with_reducible rfl
  refine wa_norm (fun K hK => ?_)
  go_simp
  refine hK _ _ ?_
  clear hK K
  refine wpAny_take (i := 1) (v := ?_) rfl (by kernel_rfl) (by kernel_rfl) (by kernel_rfl) (fun _ _ _ h => h) (Or.inl ⟨by rfl, ?_⟩) ?_
  rotate_left
  · intro w'; go_simp; try with_reducible rfl
  refine wa_norm (fun K hK => ?_)
  go_simp
  refine hK _ _ ?_
  clear hK K
  refine wpAny_take (i := 2) (v := ?_) rfl (by kernel_rfl) (by kernel_rfl) (by kernel_rfl) (fun _ _ _ h => h) (Or.inl ⟨by rfl, ?_⟩) ?_
  rotate_left
  · intro w'; go_simp; try with_reducible rfl
  refine wa_norm (fun K hK => ?_)
  go_simp
  refine hK _ _ ?_
  clear hK K
  refine wpAny_take (i := 3) (v := ?_) rfl (by kernel_rfl) (by kernel_rfl) (by kernel_rfl) (fun _ _ _ h => h) (Or.inl ⟨by rfl, ?_⟩) ?_
  rotate_left
  · intro w'; go_simp; try with_reducible rfl
  refine wa_norm (fun K hK => ?_)
  go_simp
  refine hK _ _ ?_
  clear hK K
  refine wpAny_take (i := 5) (v := ?_) rfl (by kernel_rfl) (by kernel_rfl) (by kernel_rfl) (fun _ _ _ h => h) (Or.inl ⟨by rfl, ?_⟩) ?_
  rotate_left
  · intro w'; go_simp; try with_reducible rfl
  refine wa_norm (fun K hK => ?_)
  go_simp
  refine hK _ _ ?_
  clear hK K
  refine wpAny_take (i := 6) (v := ?_) rfl (by kernel_rfl) (by kernel_rfl) (by kernel_rfl) (fun _ _ _ h => h) (Or.inl ⟨by rfl, ?_⟩) ?_
  rotate_left
  · intro w'; go_simp; try with_reducible rfl
  refine wa_norm (fun K hK => ?_)
  go_simp
  refine hK _ _ ?_
  clear hK K
  refine wpAny_all (rs := [4, 7]) (by kernel_rfl) (by simp) ?_
  intro i hi
  simp only [List.mem_cons, List.not_mem_nil, or_false] at hi
  rcases hi with rfl | rfl
  · refine op_val rfl rfl v (run_ldsl (.tmp 71) rfl ⟨B, 65, none⟩ v rfl hJ.list) ?_
    refine wa_norm (fun K hK => ?_)
    go_simp
    refine hK _ _ ?_
    clear hK K
    refine wpAny_all (rs := [7]) (by kernel_rfl) (by simp) ?_
    intro i hi
    simp only [List.mem_cons, List.not_mem_nil, or_false] at hi
    subst hi
    refine op_val rfl rfl (.agg (vc (tk (s.T u) u))) (run_ldclk (.tmp 74) rfl B (u * 8) (tk (s.T u) u) rfl (fun t ht => by have q0 := hJ.clk hu t ht; simpa using q0)) ?_
    refine wa_norm (fun K hK => ?_)
    go_simp
    refine hK _ _ ?_
    clear hK K
    refine wpAny_all (rs := [8]) (by kernel_rfl) (by simp) ?_
    intro i hi
    simp only [List.mem_cons, List.not_mem_nil, or_false] at hi
    subst hi
    refine op_bslice rfl rfl (.tmp 75) rfl (tk (s.T u) u) rfl (fun z3 b9 X9 l3 f3 => ?_)
    replace hJ := hJ.keep (l3.block _ hJ.lt)
    replace hG := GM_keep hG (l3.block _ (GM_lt hG))
    replace hO := own_keep hO l3
    replace hB := hB.trans (l3.mono hbs1)
    replace hbs1 := Nat.le_trans hbs1 l3.size
    clear f3 l3
    refine wa_norm (fun K hK => ?_)
    go_simp
    refine hK _ _ ?_
    clear hK K
    refine wpAny_all (rs := [9]) (by kernel_rfl) (by simp) ?_
    intro i hi
    simp only [List.mem_cons, List.not_mem_nil, or_false] at hi
    subst hi
    refine op_append rfl rfl (.tmp 72) (.tmp 76) rfl bs n v xs rfl hO b9 (tk (s.T u) u) rfl X9 hn hbs1 (fun v1 z4 O1 g1 => ?_)
    replace hB := hB.grown g1 hbs1 (fun k e => (hO.lt k e).1)
    replace hJ := hJ.keep (g1.block _ hJ.lt (fun e => own_ne hO hJ e.symm))
    replace hG := GM_keep hG (g1.block _ (GM_lt hG) (fun e => own_nem hO hG e.symm))
    clear hO g1 X9
    refine wa_norm (fun K hK => ?_)
    go_simp
    refine hK _ _ ?_
    clear hK K
    refine wpAny_all (rs := [10]) (by kernel_rfl) (by simp) ?_
    intro i hi
    simp only [List.mem_cons, List.not_mem_nil, or_false] at hi
    subst hi
    refine op_val rfl rfl ?_ ?_ ?_
    rotate_left
    · go_simp; try with_reducible rfl
    refine wa_norm (fun K hK => ?_)
    go_simp
    refine hK _ _ ?_
    clear hK K
    refine wpAny_all (rs := [11]) (by kernel_rfl) (by simp) ?_
    intro i hi
    simp only [List.mem_cons, List.not_mem_nil, or_false] at hi
    subst hi
    refine op_val rfl rfl ?_ ?_ ?_
    rotate_left
    · go_simp; try with_reducible rfl
    refine wa_norm (fun K hK => ?_)
    go_simp
    refine hK _ _ ?_
    clear hK K
    refine wpAny_all (rs := [12]) (by kernel_rfl) (by simp) ?_
    intro i hi
    simp only [List.mem_cons, List.not_mem_nil, or_false] at hi
    subst hi
    have hsl : ∃ p n' c, v1 = .slice p n' c := by rcases O1.2 with ⟨e, _⟩ | ⟨g, cap, cur, e, _⟩ <;> exact ⟨_, _, _, e⟩
    refine op_stsl rfl rfl (.tmp 79) (.tmp 77) rfl B m _ v v1 hsl rfl rfl hJ ?_
    have hO1 := own_same O1 (w' := World.setCell _ ⟨B, 65, none⟩ v1) (fun g hg => heap_setCell_other _ _ g _ (fun e => own_ne O1 hJ (by rw [hg]; exact congrArg some e)))
    replace hG := GM_keep hG (w' := World.setCell _ ⟨B, 65, none⟩ v1) (heap_setCell_other _ _ m _ (jg_ne hJ hG))
    replace hJ := hJ.putList v1
    replace hB := hB.setCell (p := ⟨B, 65, none⟩) hbB v1
    clear O1 hsl
    refine wpAny_done (by kernel_rfl) ?_ _
    go_wp2_with (fail)
    go_end0
    exact fin _ _ hJ hG hO1 hB
  · refine op_val rfl rfl (.agg (vc (tk (s.T u) u))) (run_ldclk (.tmp 74) rfl B (u * 8) (tk (s.T u) u) rfl (fun t ht => by have q0 := hJ.clk hu t ht; simpa using q0)) ?_
    refine wa_norm (fun K hK => ?_)
    go_simp
    refine hK _ _ ?_
    clear hK K
    refine wpAny_all (rs := [4, 8]) (by kernel_rfl) (by simp) ?_
    intro i hi
    simp only [List.mem_cons, List.not_mem_nil, or_false] at hi
    rcases hi with rfl | rfl
    · refine op_val rfl rfl v (run_ldsl (.tmp 71) rfl ⟨B, 65, none⟩ v rfl hJ.list) ?_
      refine wa_norm (fun K hK => ?_)
      go_simp
      refine hK _ _ ?_
      clear hK K
      refine wpAny_all (rs := [8]) (by kernel_rfl) (by simp) ?_
      intro i hi
      simp only [List.mem_cons, List.not_mem_nil, or_false] at hi
      subst hi
      refine op_bslice rfl rfl (.tmp 75) rfl (tk (s.T u) u) rfl (fun z10 b9 X9 l10 f10 => ?_)
      replace hJ := hJ.keep (l10.block _ hJ.lt)
      replace hG := GM_keep hG (l10.block _ (GM_lt hG))
      replace hO := own_keep hO l10
      replace hB := hB.trans (l10.mono hbs1)
      replace hbs1 := Nat.le_trans hbs1 l10.size
      clear f10 l10
      refine wa_norm (fun K hK => ?_)
      go_simp
      refine hK _ _ ?_
      clear hK K
      refine wpAny_all (rs := [9]) (by kernel_rfl) (by simp) ?_
      intro i hi
      simp only [List.mem_cons, List.not_mem_nil, or_false] at hi
      subst hi
      refine op_append rfl rfl (.tmp 72) (.tmp 76) rfl bs n v xs rfl hO b9 (tk (s.T u) u) rfl X9 hn hbs1 (fun v1 z11 O1 g1 => ?_)
      replace hB := hB.grown g1 hbs1 (fun k e => (hO.lt k e).1)
      replace hJ := hJ.keep (g1.block _ hJ.lt (fun e => own_ne hO hJ e.symm))
      replace hG := GM_keep hG (g1.block _ (GM_lt hG) (fun e => own_nem hO hG e.symm))
      clear hO g1 X9
      refine wa_norm (fun K hK => ?_)
      go_simp
      refine hK _ _ ?_
      clear hK K
      refine wpAny_all (rs := [10]) (by kernel_rfl) (by simp) ?_
      intro i hi
      simp only [List.mem_cons, List.not_mem_nil, or_false] at hi
      subst hi
      refine op_val rfl rfl ?_ ?_ ?_
      rotate_left
      · go_simp; try with_reducible rfl
      refine wa_norm (fun K hK => ?_)
      go_simp
      refine hK _ _ ?_
      clear hK K
      refine wpAny_all (rs := [11]) (by kernel_rfl) (by simp) ?_
      intro i hi
      simp only [List.mem_cons, List.not_mem_nil, or_false] at hi
      subst hi
      refine op_val rfl rfl ?_ ?_ ?_
      rotate_left
      · go_simp; try with_reducible rfl
      refine wa_norm (fun K hK => ?_)
      go_simp
      refine hK _ _ ?_
      clear hK K
      refine wpAny_all (rs := [12]) (by kernel_rfl) (by simp) ?_
      intro i hi
      simp only [List.mem_cons, List.not_mem_nil, or_false] at hi
      subst hi
      have hsl : ∃ p n' c, v1 = .slice p n' c := by rcases O1.2 with ⟨e, _⟩ | ⟨g, cap, cur, e, _⟩ <;> exact ⟨_, _, _, e⟩
      refine op_stsl rfl rfl (.tmp 79) (.tmp 77) rfl B m _ v v1 hsl rfl rfl hJ ?_
      have hO1 := own_same O1 (w' := World.setCell _ ⟨B, 65, none⟩ v1) (fun g hg => heap_setCell_other _ _ g _ (fun e => own_ne O1 hJ (by rw [hg]; exact congrArg some e)))
      replace hG := GM_keep hG (w' := World.setCell _ ⟨B, 65, none⟩ v1) (heap_setCell_other _ _ m _ (jg_ne hJ hG))
      replace hJ := hJ.putList v1
      replace hB := hB.setCell (p := ⟨B, 65, none⟩) hbB v1
      clear O1 hsl
      refine wpAny_done (by kernel_rfl) ?_ _
      go_wp2_with (fail)
      go_end0
      exact fin _ _ hJ hG hO1 hB
    · refine op_bslice rfl rfl (.tmp 75) rfl (tk (s.T u) u) rfl (fun z15 b9 X9 l15 f15 => ?_)
      replace hJ := hJ.keep (l15.block _ hJ.lt)
      replace hG := GM_keep hG (l15.block _ (GM_lt hG))
      replace hO := own_keep hO l15
      replace hB := hB.trans (l15.mono hbs1)
      replace hbs1 := Nat.le_trans hbs1 l15.size
      clear f15 l15
      refine wa_norm (fun K hK => ?_)
      go_simp
      refine hK _ _ ?_
      clear hK K
      refine wpAny_all (rs := [4]) (by kernel_rfl) (by simp) ?_
      intro i hi
      simp only [List.mem_cons, List.not_mem_nil, or_false] at hi
      subst hi
      refine op_val rfl rfl v (run_ldsl (.tmp 71) rfl ⟨B, 65, none⟩ v rfl hJ.list) ?_
      refine wa_norm (fun K hK => ?_)
      go_simp
      refine hK _ _ ?_
      clear hK K
      refine wpAny_all (rs := [9]) (by kernel_rfl) (by simp) ?_
      intro i hi
      simp only [List.mem_cons, List.not_mem_nil, or_false] at hi
      subst hi
      refine op_append rfl rfl (.tmp 72) (.tmp 76) rfl bs n v xs rfl hO b9 (tk (s.T u) u) rfl X9 hn hbs1 (fun v1 z17 O1 g1 => ?_)
      replace hB := hB.grown g1 hbs1 (fun k e => (hO.lt k e).1)
      replace hJ := hJ.keep (g1.block _ hJ.lt (fun e => own_ne hO hJ e.symm))
      replace hG := GM_keep hG (g1.block _ (GM_lt hG) (fun e => own_nem hO hG e.symm))
      clear hO g1 X9
      refine wa_norm (fun K hK => ?_)
      go_simp
      refine hK _ _ ?_
      clear hK K
      refine wpAny_all (rs := [10]) (by kernel_rfl) (by simp) ?_
      intro i hi
      simp only [List.mem_cons, List.not_mem_nil, or_false] at hi
      subst hi
      refine op_val rfl rfl ?_ ?_ ?_
      rotate_left
      · go_simp; try with_reducible rfl
      refine wa_norm (fun K hK => ?_)
      go_simp
      refine hK _ _ ?_
      clear hK K
      refine wpAny_all (rs := [11]) (by kernel_rfl) (by simp) ?_
      intro i hi
      simp only [List.mem_cons, List.not_mem_nil, or_false] at hi
      subst hi
      refine op_val rfl rfl ?_ ?_ ?_
      rotate_left
      · go_simp; try with_reducible rfl
      refine wa_norm (fun K hK => ?_)
      go_simp
      refine hK _ _ ?_
      clear hK K
      refine wpAny_all (rs := [12]) (by kernel_rfl) (by simp) ?_
      intro i hi
      simp only [List.mem_cons, List.not_mem_nil, or_false] at hi
      subst hi
      have hsl : ∃ p n' c, v1 = .slice p n' c := by rcases O1.2 with ⟨e, _⟩ | ⟨g, cap, cur, e, _⟩ <;> exact ⟨_, _, _, e⟩
      refine op_stsl rfl rfl (.tmp 79) (.tmp 77) rfl B m _ v v1 hsl rfl rfl hJ ?_
      have hO1 := own_same O1 (w' := World.setCell _ ⟨B, 65, none⟩ v1) (fun g hg => heap_setCell_other _ _ g _ (fun e => own_ne O1 hJ (by rw [hg]; exact congrArg some e)))
      replace hG := GM_keep hG (w' := World.setCell _ ⟨B, 65, none⟩ v1) (heap_setCell_other _ _ m _ (jg_ne hJ hG))
      replace hJ := hJ.putList v1
      replace hB := hB.setCell (p := ⟨B, 65, none⟩) hbB v1
      clear O1 hsl
      refine wpAny_done (by kernel_rfl) ?_ _
      go_wp2_with (fail)
      go_end0
      exact fin _ _ hJ hG hO1 hB
end Go.Proofs.Ytnchafbaipeagaa
