/- The list of done steps that the law makes; a step of the whole machine. -/
import Derived.Test.YtobkonbpcnmgpaaDoorAgree
import Derived.Maps.AppendAt
import Derived.Carry
namespace Go.Proofs.YtobkonbpcnmgpaaDoor
open Go.RowKit
set_option linter.unusedVariables false
set_option linter.unusedSimpArgs false
def stpL (s : Stp) : List Value := [.int .i64 s.x.who, .int .i64 s.x.obj, .int .i64 s.x.call, .int .i64 s.x.part, .int .u32 s.x.arg, .int .u32 s.x.val, .int .u32 s.r]
def OwnP (w : World) (bs : Nat) (v : Value) (f : Nat → Stp) (k : Nat) : Prop := w.ownsRow bs 45 7 v k ((List.range k).flatMap fun i => stpL (f i))
theorem stps_len (f : Nat → Stp) : ∀ k, ((List.range k).flatMap fun i => stpL (f i)).length = k * 7
  | 0 => rfl
  | k + 1 => by rw [List.range_succ, List.flatMap_append, List.length_append, stps_len f k]; simp [stpL]; omega
theorem stps_at (f : Nat → Stp) : ∀ k i q, i < k → q < 7 → ((List.range k).flatMap fun i => stpL (f i))[i * 7 + q]? = (stpL (f i))[q]?
  | 0, i, q, h, _ => absurd h (by omega)
  | k + 1, i, q, h, hq => by
    rw [List.range_succ, List.flatMap_append]
    by_cases e : i < k
    · rw [List.getElem?_append_left (by rw [stps_len]; omega)]
      exact stps_at f k i q e hq
    · obtain rfl : i = k := by omega
      rw [List.getElem?_append_right (by rw [stps_len]; omega), stps_len]
      simp only [List.flatMap_cons, List.flatMap_nil, List.append_nil]
      rw [show i * 7 + q - i * 7 = q by omega]
theorem stps_congr {f g : Nat → Stp} : ∀ k, (∀ i, i < k → f i = g i) → ((List.range k).flatMap fun i => stpL (f i)) = ((List.range k).flatMap fun i => stpL (g i))
  | 0, _ => rfl
  | k + 1, h => by
    rw [List.range_succ, List.flatMap_append, List.flatMap_append, stps_congr k (fun i hi => h i (by omega))]
    simp only [List.flatMap_cons, List.flatMap_nil, List.append_nil]
    rw [h k (by omega)]
theorem own_steps {w : World} {bs : Nat} {v : Value} {f : Nat → Stp} {k : Nat} (h : OwnP w bs v f k) : ∃ V c, v = .slice V k c ∧ Steps w V k f := by
  rcases h.2 with ⟨rfl, h0⟩ | ⟨g, cap, cur, rfl, _, h4, _, _, _, h8⟩
  · exact ⟨none, 0, by rw [h0], fun hn => absurd hn (by omega)⟩
  · refine ⟨_, _, rfl, fun _ => ⟨g, 0, rfl, blk_lt h4, fun i hi => ?_⟩⟩
    have hc : ∀ q, q < 7 → w.cell? ⟨g, 0 + i * 7 + q, none⟩ = (stpL (f i))[q]? := fun q hq => by
      rw [cell_of_row w g _ cur 45 _ h4, ← stps_at f k i q hi hq, ← h8, List.getElem?_take, if_pos (by omega), Array.getElem?_toList, Nat.zero_add]
    exact ⟨hc 0 (by omega), hc 1 (by omega), hc 2 (by omega), hc 3 (by omega), hc 4 (by omega), hc 5 (by omega), hc 6 (by omega)⟩
theorem ownP_nil (w : World) (bs : Nat) (f : Nat → Stp) : OwnP w bs (.slice none 0 0) f 0 := World.ownsRow_nil _ _ _ _
theorem ownP_keep {w w' : World} {bs : Nat} {v : Value} {f : Nat → Stp} {k : Nat} (h : OwnP w bs v f k) (hb : ∀ g, bs ≤ g → g < w.heap.size → w'.heap[g]? = w.heap[g]?) : OwnP w' bs v f k := by
  refine ⟨h.1, ?_⟩
  rcases h.2 with h2 | ⟨g, cap, cur, rfl, h3, h4, r⟩
  · exact .inl h2
  · exact .inr ⟨g, cap, cur, rfl, h3, (hb g h3 (blk_lt h4)).trans h4, r⟩
theorem ownP_below {w w' : World} {bs : Nat} {v : Value} {f : Nat → Stp} {k : Nat} (h : OwnP w bs v f k) (hb : Below w.heap.size w w') : OwnP w' bs v f k := ownP_keep h fun g _ hg => hb.block g hg
theorem ownP_lt {w : World} {bs : Nat} {v : Value} {f : Nat → Stp} {k : Nat} (h : OwnP w bs v f k) : ∀ k, v.ownBlock = some k → bs ≤ k := fun k e => (World.ownsRow.lt h k e).1
theorem info45 : (Tryd.prog.info? 45).map (fun i => (i.zero.map (·.cells.size), i.size, i.bytes)) = some (some 7, 7, 48) := by kernel_rfl
theorem run_bstp (w : World) (a b c d e g r : Int) : (Instr.buildSlice 31 1 #[(0, .agg #[.int .i64 a, .int .i64 b, .int .i64 c, .int .i64 d, .int .u32 e, .int .u32 g, .int .u32 r])]).run Tryd.prog w = .ok (.slice (some ⟨w.heap.size, 0, none⟩) 1 1) (w.alloc (.cells #[.int .i64 a, .int .i64 b, .int .i64 c, .int .i64 d, .int .u32 e, .int .u32 g, .int .u32 r] 45)) := by
  kernel_rfl
section
variable {ops : Array Oper} {Q : Exit → Act → World → Prop}
theorem wl_bstp {rest : List Oper} {o : Oper} {a : Act} {w : World} (hgd : o.guard = none) (y : Operand) (ho : o.op = .buildSlice 31 1 #[(0, y)]) (e : Stp) (hx : a.eval y = .agg (stpL e).toArray)
    (h : ∀ (w' : World) (b : Nat), w'.heap[b]? = some (.cells (stpL e).toArray 45 (0, 0)) → Below w.heap.size w w' → Hid (b = w.heap.size) → ∀ K : Act → World → Prop, (∀ a w, wpList Tryd.prog ops Q rest a w → K a w) → K (a.put o.dst (.slice (some ⟨b, 0, none⟩) 1 1)) w') : wpList Tryd.prog ops Q (o :: rest) a w := by
  refine wpList_plain hgd fun K hK => ?_
  unfold Oper.wp execOp
  have hr := run_bstp w e.x.who e.x.obj e.x.call e.x.part e.x.arg e.x.val e.r
  have hx' : a.eval y = .agg #[.int .i64 e.x.who, .int .i64 e.x.obj, .int .i64 e.x.call, .int .i64 e.x.part, .int .u32 e.x.arg, .int .u32 e.x.val, .int .u32 e.r] := hx
  simp only [ho, List.map_toArray, List.map_cons, List.map_nil, hx', Sem.run_bind, hr, Result.andThen_ok]
  exact h _ _ (heap_alloc_new w _) ((Below.refl _ _).alloc (Nat.le_refl _) _) rfl K hK
theorem wl_appp {rest : List Oper} {o : Oper} {a : Act} {w : World} (hgd : o.guard = none) (s x : Operand) (ho : o.op = .call { callee := .builtin .append, args := #[s, x], argTypes := #[31, 31] })
    (bs : Nat) (v : Value) (f : Nat → Stp) (k : Nat) (e : Stp) (hs : a.eval s = v) (hown : OwnP w bs v f k) (b : Nat) (hx : a.eval x = .slice (some ⟨b, 0, none⟩) 1 1) (hb : w.heap[b]? = some (.cells (stpL e).toArray 45 (0, 0))) (hk : k ≤ 4000) (hbs : bs ≤ w.heap.size)
    (h : ∀ v' w', OwnP w' bs v' (snoc f k e) (k + 1) → w.grownBy w' v.ownBlock → ∀ K : Act → World → Prop, (∀ a w, wpList Tryd.prog ops Q rest a w → K a w) → K (a.put o.dst v') w') : wpList Tryd.prog ops Q (o :: rest) a w := by
  refine wpList_plain hgd fun K hK => ?_
  have hii : ∃ (i0 : TypeInfo) (z : Value), Tryd.prog.info? 45 = some i0 ∧ i0.zero = some z ∧ z.cells.size = 7 ∧ i0.size = 7 ∧ i0.bytes = 48 := by
    have h1 := info45
    cases e : Tryd.prog.info? 45 with
    | none => rw [e] at h1; cases h1
    | some ti =>
      rw [e] at h1
      simp only [Option.map_some, Option.some.injEq, Prod.mk.injEq] at h1
      cases e2 : ti.zero with
      | none => rw [e2] at h1; simp at h1
      | some z =>
        rw [e2] at h1
        simp only [Option.map_some, Option.some.injEq] at h1
        exact ⟨ti, z, rfl, e2, h1.1, h1.2.1, h1.2.2⟩
  obtain ⟨i0, z, hi0, hz0, hzc, hz1, hz2⟩ := hii
  obtain ⟨v', w', hrun, h2, h3, _, _⟩ := run_append_own_at (P := Tryd.prog) w bs 31 o.type 45 i0 z 7 48 Tryd.underlying31 hi0 hz0 hz1 hz2 hzc (by omega) v k _ hown ⟨b, 0, none⟩ 1 1 (stpL e) (by simp [stpL])
    (fun j u hu => by
      rw [add_off, Nat.zero_add, cell_of_row w b j _ 45 _ hb, List.getElem?_toArray]; exact hu)
    (fun u hu => by
      simp only [stpL, List.mem_cons, List.not_mem_nil, or_false] at hu
      rcases hu with rfl | rfl | rfl | rfl | rfl | rfl | rfl <;> rfl) (by simp only [maxLen]; omega) (by omega) hbs
  unfold Oper.wp execOp
  simp only [ho, resolve, invoke, builtin, Sem.run_bind, Sem.run_pure, Result.andThen_ok, List.map_toArray, List.map_cons, List.map_nil, hs, hx, hrun]
  refine h v' w' ?_ h3 K hK
  unfold OwnP
  rw [List.range_succ, List.flatMap_append, stps_congr (f := snoc f k e) (g := f) k (fun i hi => snoc_lt hi)]
  simp only [List.flatMap_cons, List.flatMap_nil, List.append_nil, snoc_at]
  exact h2
end
/-! ### a step of the machine, and of the reference -/
def PutOk (f : Nat → Stp) (m : Nat) (fO : Nat → O) : Prop := ∀ j, j < m → (f j).x.call = 4 → (f j).r = 0 → 0 ≤ (f j).x.arg ∧ (f j).x.arg < (fO (f j).x.obj.toNat).n
structure MacStep (t : Int) (n : Nat) (fO : Nat → O) (f : Nat → Stp) (m : Nat) (x : Ak) (p : MOut) (q : RB) : Prop where
  r : p.r = q.r
  ok : p.ok = q.ok
  dn : p.dn = q.dn
  small : p.dn ≤ 3
  dat : ∀ k, k < p.dn → p.dat k = datN x.obj f m k
  ag : p.ok = true → ∀ j, j < n → Ag j t (fO j) (snoc f m ⟨x, p.r⟩) (m + 1) (p.S j)
  put : p.ok = true → PutOk (snoc f m ⟨x, p.r⟩) (m + 1) fO
theorem go_arg {t : Int} {s : St} {x : Ak} (h : (goA t s x).ok = true) (hc : x.call = 4) : x.arg < s.o.n := by
  unfold goA at h
  by_cases c : mayS s.o x.call t x.who = true ∧ ¬ (x.call = 4 ∧ s.o.n ≤ x.arg)
  · have := c.2; omega
  · rw [if_neg c] at h; cases h
theorem goD_le {t : Int} {s : St} {x : Ak} : goD t s x ≤ 3 := by
  unfold goD
  by_cases c : s.o.k = 9 ∧ x.call = 3 ∧ (goA t s x).ok = true
  · rw [if_pos c]
    obtain ⟨h9, -, h⟩ := c
    unfold goA at h
    by_cases c : mayS s.o x.call t x.who = true ∧ ¬ (x.call = 4 ∧ s.o.n ≤ x.arg)
    · obtain ⟨-, -, hRP, -⟩ := mayS_t c.1
      unfold RP at hRP
      omega
    · rw [if_neg c] at h; cases h
  · rw [if_neg c]; omega
theorem mac_step {t : Int} {n : Nat} {fO : Nat → O} {f : Nat → Stp} {m : Nat} {S : Nat → St} {x : Ak} (hm : m ≤ 4000) (hA : ∀ j, j < n → Ag j t (fO j) f m (S j)) (hP : PutOk f m fO) (hx : 0 ≤ x.arg) : MacStep t n fO f m x (mac t n S x) (refR t n fO f m x) := by
  by_cases hin : 0 ≤ x.obj ∧ x.obj < n
  case neg =>
    rw [mac_out hin, show refR t n fO f m x = ⟨0, false, 0⟩ from if_neg hin]
    exact ⟨rfl, rfl, rfl, Nat.zero_le _, fun k hk => absurd hk (Nat.not_lt_zero k), fun h => absurd h Bool.false_ne_true, fun h => absurd h Bool.false_ne_true⟩
  obtain ⟨i, hi⟩ : ∃ i : Nat, x.obj = i := ⟨x.obj.toNat, by omega⟩
  have hin' : i < n := by omega
  have hg := go_step hm (hA i hin') hi
  rw [mac_in hin' hi]
  have hR : refR t n fO f m x = if mayS (fO i) x.call t x.who = true then refG t (fO i) f m x else ⟨0, false, 0⟩ := by
    unfold refR; rw [if_pos hin, show x.obj.toNat = i by omega]
  rw [hR]
  obtain ⟨⟨g1, g2, g3⟩, g4⟩ := hg
  refine ⟨g1, g2, g4, goD_le, ?_, ?_, ?_⟩
  · intro k hk
    have h9 : (S i).o.k = 9 := by
      have hk' : k < goD t (S i) x := hk
      unfold goD at hk'
      by_cases c : (S i).o.k = 9 ∧ x.call = 3 ∧ (goA t (S i) x).ok = true
      · exact c.1
      · rw [if_neg c] at hk'; omega
    have := (hA i hin').dat (by rw [← (hA i hin').ob]; exact h9)
    show (S i).data k = _
    rw [this, hi]
  · intro hok j hj
    by_cases e : j = i
    · subst e
      show Ag j t (fO j) _ _ (updS S j _ j)
      rw [updS_at]; exact g3 hok
    · show Ag j t (fO j) _ _ (updS S i _ j)
      rw [show updS S i (goA t (S i) x).s j = S j from if_neg e]
      exact (hA j hj).frame (by show x.obj ≠ j; omega)
  · intro hok j hj hc h0
    by_cases e : j = m
    · subst e
      rw [snoc_at] at hc h0 ⊢
      refine ⟨hx, ?_⟩
      have := go_arg hok hc
      rw [(hA i hin').ob] at this
      show x.arg < (fO x.obj.toNat).n
      rw [show x.obj.toNat = i by omega]; exact this
    · have hj' : j < m := by omega
      rw [snoc_lt hj'] at hc h0 ⊢
      exact hP j hj' hc h0
theorem own_st {w : World} {bs : Nat} {V : Option Addr} {c : Nat} {f : Nat → Stp} {k : Nat} (h : OwnP w bs (.slice V k c) f k) : Steps w V k f := by
  obtain ⟨V', c', e, h'⟩ := own_steps h
  cases e; exact h'
theorem dat_congr {w : World} {V : Option Addr} {n : Nat} {d e : Nat → Int} (h : DatA w V n d) (he : ∀ k, k < n → e k = d k) : DatA w V n e := fun k hk => by
  obtain ⟨b, h1, h2, h3⟩ := h k hk
  exact ⟨b, h1, h2, by rw [he k hk]; exact h3⟩
/-- what the law holds behind a call -/
structure PlE (w : World) (b11 b12 b14 : Nat) (x : Ak) (r : Int) (V1 : Option Addr) (dn c1 : Nat) (V2 : Option Addr) (c2 : Nat) (ok : Bool) (dat : Nat → Int) (bM gM n cap : Nat) (t : Int) (S : Nat → St) (bs : Nat) (u : Value) (f : Nat → Stp) (m : Nat) : Prop where
  X11 : w.heap[b11]? = some (.cells (akC x) 35 (0, 0))
  X12 : w.heap[b12]? = some (.cells #[.int .u32 r, .slice V1 dn c1] 38 (0, 0))
  X14 : w.heap[b14]? = some (.cells #[.int .u32 r, .slice V2 dn c2, .bool ok] 42 (0, 0))
  D1 : DatA w V1 dn dat
  D2 : DatA w V2 dn dat
  M : MacA w bM gM n cap t S
  O : OwnP w bs u f m
theorem PlE.below {w w' : World} {b11 b12 b14 : Nat} {x : Ak} {r : Int} {V1 : Option Addr} {dn c1 : Nat} {V2 : Option Addr} {c2 : Nat} {ok : Bool} {dat : Nat → Int} {bM gM n cap : Nat} {t : Int} {S : Nat → St} {bs : Nat} {u : Value} {f : Nat → Stp} {m : Nat}
    (h : PlE w b11 b12 b14 x r V1 dn c1 V2 c2 ok dat bM gM n cap t S bs u f m) (hb : Below w.heap.size w w') : PlE w' b11 b12 b14 x r V1 dn c1 V2 c2 ok dat bM gM n cap t S bs u f m :=
  ⟨keep h.X11 hb, keep h.X12 hb, keep h.X14 hb, h.D1.below hb, h.D2.below hb, h.M.below hb, ownP_below h.O hb⟩
end Go.Proofs.YtobkonbpcnmgpaaDoor
