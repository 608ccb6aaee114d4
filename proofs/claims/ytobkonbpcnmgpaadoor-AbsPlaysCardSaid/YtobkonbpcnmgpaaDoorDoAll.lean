/- A call is done: Do, whatever is asked of a machine. -/
import Derived.Test.YtobkonbpcnmgpaaDoorDoA
namespace Go.Proofs.YtobkonbpcnmgpaaDoor
open Go.RowKit
set_option linter.unusedVariables false
set_option linter.unusedSimpArgs false
structure MOut where
  S : Nat → St
  r : Int
  ok : Bool
  dn : Nat
  dat : Nat → Int
def mac (t : Int) (n : Nat) (S : Nat → St) (x : Ak) : MOut :=
  if 0 ≤ x.obj ∧ x.obj < n then ⟨updS S x.obj.toNat (goA t (S x.obj.toNat) x).s, (goA t (S x.obj.toNat) x).r, (goA t (S x.obj.toNat) x).ok, goD t (S x.obj.toNat) x, (S x.obj.toNat).data⟩ else ⟨S, 0, false, 0, fun _ => 0⟩
/-- a machine, of however many objects -/
structure MacA (w : World) (bM g n cap : Nat) (t : Int) (S : Nat → St) : Prop where
  g0 : 0 < g
  names : NmW w
  mac : (0 < n ∧ bM ≠ g ∧ w.heap[bM]? = some (.cells #[.int .i64 t, .slice (some ⟨g, 0, none⟩) n cap] 58 (0, 0)) ∧ Row w g n S) ∨ (n = 0 ∧ g = bM ∧ ∃ V c, w.heap[bM]? = some (.cells #[.int .i64 t, .slice V 0 c] 58 (0, 0)))
theorem MacA.lt {w : World} {bM g n cap : Nat} {t : Int} {S : Nat → St} (h : MacA w bM g n cap t S) : bM < w.heap.size := by
  rcases h.mac with ⟨_, _, h, _⟩ | ⟨_, _, _, _, h⟩ <;> exact blk_lt h
theorem MacA.keep {w w' : World} {bM g n cap : Nat} {t : Int} {S : Nat → St} (h : MacA w bM g n cap t S) (hM : w'.heap[bM]? = w.heap[bM]?) (hg : 0 < n → w'.heap[g]? = w.heap[g]?) (hN : NmW w') : MacA w' bM g n cap t S := by
  refine ⟨h.g0, hN, ?_⟩
  rcases h.mac with ⟨h1, h0, h2, h3⟩ | ⟨h1, h0, V, c, h2⟩
  · exact .inl ⟨h1, h0, hM.trans h2, h3.keep (hg h1)⟩
  · exact .inr ⟨h1, h0, V, c, hM.trans h2⟩
theorem MacA.below {w w' : World} {bM g n cap : Nat} {t : Int} {S : Nat → St} (h : MacA w bM g n cap t S) (hb : Below w.heap.size w w') : MacA w' bM g n cap t S :=
  h.keep (hb.block bM h.lt) (fun hn => by
    rcases h.mac with ⟨_, _, _, h3⟩ | ⟨h1, _⟩
    · exact hb.block g h3.lt
    · omega) (h.names.below hb)
set_option maxRecDepth 100000 in
set_option maxHeartbeats 8000000 in
theorem doOut (bM : Nat) (Vo : Option Addr) (n cap : Nat) (threads : Int) (x : Ak) (hxo : ¬ (0 ≤ x.obj ∧ x.obj < n)) (w0 : World) (hM : w0.heap[bM]? = some (.cells #[.int .i64 threads, .slice Vo n cap] 58 (0, 0))) : Calls Tryd.prog 14 #[.pointer (some ⟨bM, 0, none⟩), akV x] w0 fun e w' => e = .returned (ansV 0 none 0 0 false) ∧ Below w0.heap.size w0 w' := by
  obtain ⟨x0, x1, x2, x3, x4, x5⟩ := x
  simp only at hxo
  unfold akV akC
  go_enter Tryd.func14, Tryd.ntmps14
  go_upto_region 1 with (fail)
  obtain ⟨W, b3, b4, e0, e1, e2, X3, X4, hal⟩ := box2 w0 #[.int .i64 x0, .int .i64 x1, .int .i64 x2, .int .i64 x3, .int .u32 x4, .int .u32 x5] #[.int .u32 0, .slice none 0 0] 34 38
  rw [e0, e2, e1]
  have z3 : w0.heap.size ≤ b3 := Nat.le_of_eq e1
  have z4 : w0.heap.size ≤ b4 := by omega
  clear e0 e2 e1
  have XM := keep hM hal
  by_cases cn : x1 < 0
  · have q1 : x1 < 0 := cn
    clear hxo
    go_upto_region 1 with (fail)
    refine quiet_all (fun w' => Below W.heap.size W w') (by kernel_rfl) (by kernel_rfl) (Below.drew (Below.refl _ _)) ?_
    refine q_run rfl (fun K hK => ?_)
    refine q_value ?_ (fun w' h' => ?_) ?_
    rotate_left
    · go_simp; try with_reducible rfl
    go_simp
    refine hK _ ?_
    clear hK K
    refine q_run rfl (fun K hK => ?_)
    refine q_value ?_ (fun w' h' => ?_) ?_
    rotate_left
    · have c := cell_of_row w' b3 1 _ 34 _ (keep X3 h'); go_simp; try with_reducible rfl
    go_simp
    refine hK _ ?_
    clear hK K
    refine q_run rfl (fun K hK => ?_)
    refine q_value ?_ (fun w' h' => ?_) ?_
    rotate_left
    · go_simp; try with_reducible rfl
    go_simp
    refine hK _ ?_
    clear hK K
    refine q_run rfl (fun K hK => ?_)
    refine q_value ?_ (fun w' h' => ?_) ?_
    rotate_left
    · go_simp; try with_reducible rfl
    go_simp
    refine hK _ ?_
    clear hK K
    refine q_skip rfl (fun K hK => ?_)
    go_simp
    refine hK _ ?_
    clear hK K
    refine q_skip rfl (fun K hK => ?_)
    go_simp
    refine hK _ ?_
    clear hK K
    refine q_skip rfl (fun K hK => ?_)
    go_simp
    refine hK _ ?_
    clear hK K
    refine q_skip rfl (fun K hK => ?_)
    go_simp
    refine hK _ ?_
    clear hK K
    refine q_skip rfl (fun K hK => ?_)
    go_simp
    refine hK _ ?_
    clear hK K
    refine q_skip rfl (fun K hK => ?_)
    go_simp
    refine hK _ ?_
    clear hK K
    refine q_skip rfl (fun K hK => ?_)
    go_simp
    refine hK _ ?_
    clear hK K
    refine q_skip rfl (fun K hK => ?_)
    go_simp
    refine hK _ ?_
    clear hK K
    refine q_run rfl (fun K hK => ?_)
    refine q_value ?_ (fun w' h' => ?_) ?_
    rotate_left
    · go_simp; try with_reducible rfl
    go_simp
    refine hK _ ?_
    clear hK K
    refine qd_nil ?_
    intro w35 h36
    replace XM := keep XM h36
    replace X3 := keep X3 h36
    replace X4 := keep X4 h36
    replace hal := hal.trans (h36.mono hal.size)
    clear h36
    go_upto_region 2 with (fail)
    refine wp_region_lit ?_
    refine wl_call rfl 18 #[] (ansV 0 none 0 0 false) _ ?_ (notC w35) (fun w37 hd => ?_)
    · first | (go_simp; done) | (go_simp; rfl)
    intro K hK
    go_simp
    refine hK _ _ ?_
    clear hK K
    unfold ansV
    iterate 2
      refine wl_val rfl ?_ ?_ ?_
      rotate_left
      · go_simp; try with_reducible rfl
      intro K hK
      go_simp
      refine hK _ _ ?_
      clear hK K
    refine wl_store rfl 38 (.tmp 4) (.tmp 21) rfl b4 #[.int .u32 0, .slice none 0 0] rfl rfl 38 _ (keep X4 hd) (by kernel_rfl) rfl (by simp [Value.oneCell']) (fun w38 m1 m2 m3 m4 => ?_)
    intro K hK
    go_simp
    refine hK _ _ ?_
    clear hK K
    refine wl_val rfl (.bool false) ?_ ?_
    · go_simp
    intro K hK
    go_simp
    refine hK _ _ ?_
    clear hK K
    have hf := (hal.trans (hd.mono hal.size)).trans (m3 _ z4)
    go_wp2
    exact ret_ans rfl b4 _ _ _ _ _ rfl rfl rfl m1 ⟨rfl, hf⟩
  · have q1 : ¬ x1 < 0 := cn
    have q2 : (n : Int) ≤ x1 := by omega
    clear hxo
    go_upto_region 1 with (fail)
    refine quiet_all (fun w' => Below W.heap.size W w') (by kernel_rfl) (by kernel_rfl) (Below.drew (Below.refl _ _)) ?_
    refine q_run rfl (fun K hK => ?_)
    refine q_value ?_ (fun w' h' => ?_) ?_
    rotate_left
    · go_simp; try with_reducible rfl
    go_simp
    refine hK _ ?_
    clear hK K
    refine q_run rfl (fun K hK => ?_)
    refine q_value ?_ (fun w' h' => ?_) ?_
    rotate_left
    · have c := cell_of_row w' b3 1 _ 34 _ (keep X3 h'); go_simp; try with_reducible rfl
    go_simp
    refine hK _ ?_
    clear hK K
    refine q_run rfl (fun K hK => ?_)
    refine q_value ?_ (fun w' h' => ?_) ?_
    rotate_left
    · go_simp; try with_reducible rfl
    go_simp
    refine hK _ ?_
    clear hK K
    refine q_run rfl (fun K hK => ?_)
    refine q_value ?_ (fun w' h' => ?_) ?_
    rotate_left
    · go_simp; try with_reducible rfl
    go_simp
    refine hK _ ?_
    clear hK K
    refine q_run rfl (fun K hK => ?_)
    refine q_value ?_ (fun w' h' => ?_) ?_
    rotate_left
    · go_simp; try with_reducible rfl
    go_simp
    refine hK _ ?_
    clear hK K
    refine q_run rfl (fun K hK => ?_)
    refine q_value ?_ (fun w' h' => ?_) ?_
    rotate_left
    · have c := cell_of_row w' b3 1 _ 34 _ (keep X3 h'); go_simp; try with_reducible rfl
    go_simp
    refine hK _ ?_
    clear hK K
    refine q_run rfl (fun K hK => ?_)
    refine q_value ?_ (fun w' h' => ?_) ?_
    rotate_left
    · go_simp; try with_reducible rfl
    go_simp
    refine hK _ ?_
    clear hK K
    refine q_run rfl (fun K hK => ?_)
    refine q_value ?_ (fun w' h' => ?_) ?_
    rotate_left
    · go_simp; try with_reducible rfl
    go_simp
    refine hK _ ?_
    clear hK K
    refine q_run rfl (fun K hK => ?_)
    refine q_value ?_ (fun w' h' => ?_) ?_
    rotate_left
    · go_simp; try with_reducible rfl
    go_simp
    refine hK _ ?_
    clear hK K
    refine q_run rfl (fun K hK => ?_)
    refine q_value ?_ (fun w' h' => ?_) ?_
    rotate_left
    · have c := cell_of_row w' bM 1 _ 58 _ (keep XM h'); go_simp; try with_reducible rfl
    go_simp
    refine hK _ ?_
    clear hK K
    refine q_run rfl (fun K hK => ?_)
    refine q_value ?_ (fun w' h' => ?_) ?_
    rotate_left
    · go_simp; try with_reducible rfl
    go_simp
    refine hK _ ?_
    clear hK K
    refine q_run rfl (fun K hK => ?_)
    refine q_value ?_ (fun w' h' => ?_) ?_
    rotate_left
    · go_simp; try with_reducible rfl
    go_simp
    refine hK _ ?_
    clear hK K
    refine q_run rfl (fun K hK => ?_)
    refine q_value ?_ (fun w' h' => ?_) ?_
    rotate_left
    · go_simp; try with_reducible rfl
    go_simp
    refine hK _ ?_
    clear hK K
    refine qd_nil ?_
    intro w39 h40
    replace XM := keep XM h40
    replace X3 := keep X3 h40
    replace X4 := keep X4 h40
    replace hal := hal.trans (h40.mono hal.size)
    clear h40
    go_upto_region 2 with (fail)
    refine wp_region_lit ?_
    refine wl_call rfl 18 #[] (ansV 0 none 0 0 false) _ ?_ (notC w39) (fun w41 hd => ?_)
    · first | (go_simp; done) | (go_simp; rfl)
    intro K hK
    go_simp
    refine hK _ _ ?_
    clear hK K
    unfold ansV
    iterate 2
      refine wl_val rfl ?_ ?_ ?_
      rotate_left
      · go_simp; try with_reducible rfl
      intro K hK
      go_simp
      refine hK _ _ ?_
      clear hK K
    refine wl_store rfl 38 (.tmp 4) (.tmp 21) rfl b4 #[.int .u32 0, .slice none 0 0] rfl rfl 38 _ (keep X4 hd) (by kernel_rfl) rfl (by simp [Value.oneCell']) (fun w42 m1 m2 m3 m4 => ?_)
    intro K hK
    go_simp
    refine hK _ _ ?_
    clear hK K
    refine wl_val rfl (.bool false) ?_ ?_
    · go_simp
    intro K hK
    go_simp
    refine hK _ _ ?_
    clear hK K
    have hf := (hal.trans (hd.mono hal.size)).trans (m3 _ z4)
    go_wp2
    exact ret_ans rfl b4 _ _ _ _ _ rfl rfl rfl m1 ⟨rfl, hf⟩
theorem doAll {bM g n cap : Nat} {t : Int} {S : Nat → St} (ht : t ≤ 8) (x : Ak) (hxa : 0 ≤ x.arg ∧ x.arg < 4294967296) (w0 : World) (hM : MacA w0 bM g n cap t S) :
    Calls Tryd.prog 14 #[.pointer (some ⟨bM, 0, none⟩), akV x] w0 fun e w' => AnsD w0 w' (mac t n S x).r (mac t n S x).dn (mac t n S x).dat (mac t n S x).ok e ∧ MacA w' bM g n cap t (mac t n S x).S ∧ Exc g w0 w' := by
  by_cases hin : 0 ≤ x.obj ∧ x.obj < n
  · have em : mac t n S x = ⟨updS S x.obj.toNat (goA t (S x.obj.toNat) x).s, (goA t (S x.obj.toNat) x).r, (goA t (S x.obj.toNat) x).ok, goD t (S x.obj.toNat) x, (S x.obj.toNat).data⟩ := if_pos hin
    rw [em]
    obtain ⟨i, hi⟩ : ∃ i : Nat, x.obj = i := ⟨x.obj.toNat, by omega⟩
    have ei : x.obj.toNat = i := by omega
    have hin' : i < n := by omega
    rw [ei]
    rcases hM.mac with ⟨h1, h0, h2, h3⟩ | ⟨h1, _⟩
    case inr => omega
    have hMc : Mac w0 bM g n cap t S := ⟨h2, h3, h0, hM.g0, hM.names⟩
    have hfin : ∀ w' s', Row w' g n (updS S i s') → Exc g w0 w' → MacA w' bM g n cap t (updS S i s') := fun w' s' hr he =>
      ⟨hM.g0, nm_exc hM.names he hM.g0, .inl ⟨h1, h0, (he.blk bM (blk_lt h2) h0).trans h2, hr⟩⟩
    by_cases h9 : (S i).o.k = 9
    · exact (doS S bM g n cap i t ht hin' x hi hxa h9 w0 hMc).mono fun e w' hh => ⟨hh.1, hfin w' _ hh.2.1 hh.2.2, hh.2.2⟩
    · refine (doC S bM g n cap i t ht hin' x hi hxa h9 w0 hMc).mono fun e w' hh => ?_
      simp only
      have hd : goD t (S i) x = 0 := by unfold goD; rw [if_neg (fun h => h9 h.1)]
      rw [hd, goA_goP h9, hh.1]
      exact ⟨AnsD.no, hfin w' _ hh.2.1 hh.2.2, hh.2.2⟩
  · have em : mac t n S x = ⟨S, 0, false, 0, fun _ => 0⟩ := if_neg hin
    rw [em]
    have ho : Calls Tryd.prog 14 #[.pointer (some ⟨bM, 0, none⟩), akV x] w0 fun e w' => e = .returned (ansV 0 none 0 0 false) ∧ Below w0.heap.size w0 w' := by
      rcases hM.mac with ⟨h1, _, h2, h3⟩ | ⟨h1, _, V, c, h2⟩
      · exact doOut bM _ n cap t x hin w0 h2
      · subst h1; exact doOut bM V 0 c t x hin w0 h2
    refine ho.mono fun e w' hh => ?_
    rw [hh.1]
    exact ⟨AnsD.no, hM.below hh.2, Exc.of_below hh.2⟩
/-- another machine is left alone -/
theorem MacA.exc {w w' : World} {bM g n cap h : Nat} {t : Int} {S : Nat → St} (hm : MacA w bM g n cap t S) (E : Exc h w w') (h0 : 0 < h) (h1 : bM ≠ h) (h2 : g ≠ h) : MacA w' bM g n cap t S :=
  hm.keep (E.blk bM hm.lt h1) (fun hn => by
    rcases hm.mac with ⟨_, _, _, h3⟩ | ⟨e, _⟩
    · exact E.blk g h3.lt h2
    · omega) (nm_exc hm.names E h0)
theorem newA (Ad : Option Addr) (n cn : Nat) (f : Nat → O) (hn : n ≤ 4000) (t : Int) (w0 : World) (hA : Objs w0 Ad n f) (hNm : NmW w0) :
    Calls Tryd.prog 12 #[.slice Ad n cn, .int .i64 t] w0 fun e w' => Below w0.heap.size w0 w' ∧ (newOk f n t → ∃ bM g cap, e = .returned (.tuple #[.pointer (some ⟨bM, 0, none⟩), .int .i64 0]) ∧ MacA w' bM g n cap t (fun i => initS (f i)) ∧ w0.heap.size ≤ bM ∧ bM ≤ g) ∧ (¬ newOk f n t → e = .returned (.tuple #[.pointer none, .int .i64 1])) := by
  refine (newC Ad n cn f hn t w0 hA hNm).mono fun e w' hh => ⟨hh.1, fun hok => ?_, hh.2.2⟩
  obtain ⟨bM, v, e1, e2, e3, e4⟩ := hh.2.1 hok
  have hp := hNm.pos
  by_cases h0 : 0 < n
  · obtain ⟨g, cap, rfl, h5, h6⟩ := own_row e3 h0
    exact ⟨bM, g, cap, e1, ⟨by omega, hNm.below hh.1, .inl ⟨h0, by omega, e2, h6⟩⟩, e4, by omega⟩
  · obtain rfl : n = 0 := by omega
    refine ⟨bM, bM, 0, e1, ⟨by omega, hNm.below hh.1, .inr ⟨rfl, rfl, ?_⟩⟩, e4, Nat.le_refl _⟩
    rcases e3.2 with ⟨rfl, _⟩ | ⟨g, cp, cur, rfl, _⟩
    · exact ⟨_, _, e2⟩
    · exact ⟨_, _, e2⟩
end Go.Proofs.YtobkonbpcnmgpaaDoor
