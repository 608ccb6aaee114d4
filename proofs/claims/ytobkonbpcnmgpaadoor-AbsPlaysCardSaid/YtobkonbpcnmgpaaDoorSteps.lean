/- The steps that were done, in memory; the reference's owner, readers. -/
import Derived.Test.YtobkonbpcnmgpaaDoorPlain
namespace Go.Proofs.YtobkonbpcnmgpaaDoor
open Go.RowKit
set_option linter.unusedVariables false
set_option linter.unusedSimpArgs false
structure Stp where
  x : Ak
  r : Int
def Steps (w : World) (V : Option Addr) (n : Nat) (f : Nat → Stp) : Prop := 0 < n → ∃ b off, V = some ⟨b, off, none⟩ ∧ b < w.heap.size ∧ ∀ i, i < n → w.cell? ⟨b, off + i * 7, none⟩ = some (.int .i64 (f i).x.who) ∧ w.cell? ⟨b, off + i * 7 + 1, none⟩ = some (.int .i64 (f i).x.obj) ∧ w.cell? ⟨b, off + i * 7 + 2, none⟩ = some (.int .i64 (f i).x.call) ∧ w.cell? ⟨b, off + i * 7 + 3, none⟩ = some (.int .i64 (f i).x.part) ∧ w.cell? ⟨b, off + i * 7 + 4, none⟩ = some (.int .u32 (f i).x.arg) ∧ w.cell? ⟨b, off + i * 7 + 5, none⟩ = some (.int .u32 (f i).x.val) ∧ w.cell? ⟨b, off + i * 7 + 6, none⟩ = some (.int .u32 (f i).r)
theorem Steps.below {w w' : World} {V : Option Addr} {n : Nat} {f : Nat → Stp} (h : Steps w V n f) (hb : Below w.heap.size w w') : Steps w' V n f := fun hn => by
  obtain ⟨b, off, e, hlt, hc⟩ := h hn
  refine ⟨b, off, e, Nat.lt_of_lt_of_le hlt hb.size, fun i hi => ?_⟩
  rw [hb.cell (p := ⟨b, off + i * 7, none⟩) hlt, hb.cell (p := ⟨b, off + i * 7 + 1, none⟩) hlt, hb.cell (p := ⟨b, off + i * 7 + 2, none⟩) hlt, hb.cell (p := ⟨b, off + i * 7 + 3, none⟩) hlt, hb.cell (p := ⟨b, off + i * 7 + 4, none⟩) hlt, hb.cell (p := ⟨b, off + i * 7 + 5, none⟩) hlt, hb.cell (p := ⟨b, off + i * 7 + 6, none⟩) hlt]
  exact hc i hi
theorem stp_ptr {w : World} {V : Option Addr} {n : Nat} {f : Nat → Stp} (h : Steps w V n f) (hn : 0 < n) : ∃ b off, V = some ⟨b, off, none⟩ := by
  obtain ⟨b, off, e, _⟩ := h hn; exact ⟨b, off, e⟩
theorem at_stp {w : World} {b off n : Nat} {f : Nat → Stp} {i : Nat} (h : Steps w (some ⟨b, off, none⟩) n f) (hi : i < n) : w.cell? ⟨b, off + i * 7, none⟩ = some (.int .i64 (f i).x.who) ∧ w.cell? ⟨b, off + i * 7 + 1, none⟩ = some (.int .i64 (f i).x.obj) ∧ w.cell? ⟨b, off + i * 7 + 2, none⟩ = some (.int .i64 (f i).x.call) ∧ w.cell? ⟨b, off + i * 7 + 3, none⟩ = some (.int .i64 (f i).x.part) ∧ w.cell? ⟨b, off + i * 7 + 4, none⟩ = some (.int .u32 (f i).x.arg) ∧ w.cell? ⟨b, off + i * 7 + 5, none⟩ = some (.int .u32 (f i).x.val) ∧ w.cell? ⟨b, off + i * 7 + 6, none⟩ = some (.int .u32 (f i).r) := by
  obtain ⟨b', off', e, _, hc⟩ := h (by omega)
  cases e
  exact hc i hi
theorem run_ldstp {o : Oper} {a : Act} {w : World} {n : Nat} {f : Nat → Stp} (y : Operand) (ho : o.op = .load 35 y) (b off i : Nat) (hA : Steps w (some ⟨b, off, none⟩) n f) (hi : i < n) (hx : a.eval y = .pointer (some ⟨b, off + i * 7, none⟩)) : (execOp a.eval o).run Tryd.prog w = .ok (.value (akV (f i).x)) w := by
  obtain ⟨h0, h1, h2, h3, h4, h5, _⟩ := at_stp hA hi
  have hl : (loadCells ⟨b, off + i * 7, none⟩ 6).run Tryd.prog w = .ok (akC (f i).x) w := by
    have := run_loadCells_list (P := Tryd.prog) w ⟨b, off + i * 7, none⟩ [.int .i64 (f i).x.who, .int .i64 (f i).x.obj, .int .i64 (f i).x.call, .int .i64 (f i).x.part, .int .u32 (f i).x.arg, .int .u32 (f i).x.val] (fun j v hv => by
      rw [add_off]
      match j, hv with
      | 0, hv => simp at hv; rw [← hv]; exact h0
      | 1, hv => simp at hv; rw [← hv]; exact h1
      | 2, hv => simp at hv; rw [← hv]; exact h2
      | 3, hv => simp at hv; rw [← hv]; exact h3
      | 4, hv => simp at hv; rw [← hv]; exact h4
      | 5, hv => simp at hv; rw [← hv]; exact h5
      | j + 6, hv => simp at hv)
    exact this
  have e1 := Tryd.isAgg35
  have e2 := Tryd.sizeOf35
  unfold execOp
  simp only [ho, hx, Instr.loadAt, Instr.sureAddr, Sem.run_bind, Sem.run_pure, Result.andThen_ok]
  unfold loadVar
  simp only [Sem.run_bind, e1, e2, Result.andThen_ok, if_true, hl, Sem.run_pure]
  rfl
/-! ### what the reference reckons over all that was done -/
def fo {α : Type} (g : α → Stp → α) (a : α) (f : Nat → Stp) : Nat → α
  | 0 => a
  | n + 1 => g (fo g a f n) (f n)
def snoc (f : Nat → Stp) (m : Nat) (s : Stp) : Nat → Stp := fun j => if j = m then s else f j
theorem snoc_at (f : Nat → Stp) (m : Nat) (s : Stp) : snoc f m s m = s := if_pos rfl
theorem snoc_lt {f : Nat → Stp} {m j : Nat} {s : Stp} (h : j < m) : snoc f m s j = f j := if_neg (by omega)
theorem fo_congr {α : Type} (g : α → Stp → α) (a : α) {f f' : Nat → Stp} : ∀ m, (∀ j, j < m → f j = f' j) → fo g a f m = fo g a f' m
  | 0, _ => rfl
  | m + 1, h => by
    show g (fo g a f m) (f m) = g (fo g a f' m) (f' m)
    rw [fo_congr g a m (fun j hj => h j (by omega)), h m (by omega)]
theorem fo_snoc {α : Type} (g : α → Stp → α) (a : α) (f : Nat → Stp) (m : Nat) (s : Stp) : fo g a (snoc f m s) (m + 1) = g (fo g a f m) s := by
  show g (fo g a (snoc f m s) m) (snoc f m s m) = _
  rw [snoc_at, fo_congr g a m (fun j hj => snoc_lt hj)]
def own1 (o : Int) (h : Int) (s : Stp) : Int :=
  if s.x.obj ≠ o then h
  else if (s.x.call = 1 ∧ s.r = 0) ∨ (s.x.call = 9 ∧ s.r = 5) then s.x.who
  else if (s.x.call = 2 ∨ s.x.call = 10) ∧ s.r = 0 ∧ h = s.x.who then -1 else h
def ownN (o : Int) (f : Nat → Stp) (m : Nat) : Int := fo (own1 o) (-1) f m
def rds1 (o q : Int) (h : Bool) (s : Stp) : Bool :=
  if s.x.obj ≠ o ∨ s.x.who ≠ q ∨ s.r ≠ 0 then h else if s.x.call = 3 then true else if s.x.call = 2 then false else h
def rdsN (o q : Int) (f : Nat → Stp) (m : Nat) : Bool := fo (rds1 o q) false f m
def manC (o c p q : Int) (s : Stp) : Prop := s.x.obj = o ∧ s.x.call = c ∧ s.x.part = p ∧ s.r = 0 ∧ (q < 0 ∨ s.x.who = q)
instance (o c p q : Int) (s : Stp) : Decidable (manC o c p q s) := by unfold manC; infer_instance
def man1 (o c p q : Int) (h : Int) (s : Stp) : Int := if manC o c p q s then h + 1 else h
def manN (o c p q : Int) (f : Nat → Stp) (m : Nat) : Int := fo (man1 o c p q) 0 f m
theorem man_nn (o c p q : Int) (f : Nat → Stp) : ∀ m, 0 ≤ manN o c p q f m ∧ manN o c p q f m ≤ m
  | 0 => by unfold manN fo; omega
  | m + 1 => by
    have := man_nn o c p q f m
    have e : manN o c p q f (m + 1) = man1 o c p q (manN o c p q f m) (f m) := rfl
    rw [e]; unfold man1
    split <;> omega
def put1 (o : Int) (h : Nat → Int) (s : Stp) : Nat → Int := if s.x.obj = o ∧ s.x.call = 4 ∧ s.r = 0 then upF h s.x.arg.toNat s.x.val else h
def putN (o : Int) (f : Nat → Stp) (m : Nat) : Nat → Int := fo (put1 o) (fun _ => 0) f m
def las1 (o : Int) (h : Nat × Nat) (s : Stp) : Nat × Nat := (h.1 + 1, if s.x.obj = o ∧ s.x.call = 2 ∧ s.r = 0 then h.1 + 1 else h.2)
def lasN (o : Int) (f : Nat → Stp) (m : Nat) : Nat := (fo (las1 o) (0, 0) f m).2
theorem las_fst (o : Int) (f : Nat → Stp) : ∀ m, (fo (las1 o) (0, 0) f m).1 = m
  | 0 => rfl
  | m + 1 => by show (fo (las1 o) (0, 0) f m).1 + 1 = m + 1; rw [las_fst o f m]
theorem las_succ (o : Int) (f : Nat → Stp) (m : Nat) : lasN o f (m + 1) = if (f m).x.obj = o ∧ (f m).x.call = 2 ∧ (f m).r = 0 then m + 1 else lasN o f m := by
  show (if (f m).x.obj = o ∧ (f m).x.call = 2 ∧ (f m).r = 0 then (fo (las1 o) (0, 0) f m).1 + 1 else (fo (las1 o) (0, 0) f m).2) = _
  rw [las_fst]; rfl
theorem las_le (o : Int) (f : Nat → Stp) : ∀ m, lasN o f m ≤ m
  | 0 => Nat.le_refl _
  | m + 1 => by
    rw [las_succ]
    have := las_le o f m
    split <;> omega
/-- what a reader gets: the puts ahead of the last release -/
def datN (o : Int) (f : Nat → Stp) (m : Nat) : Nat → Int := putN o f (lasN o f m - 1)
/-! ### an answer of the reference -/
def refV (r : Int) (V : Option Addr) (n c : Nat) (ok : Bool) : Value := .agg #[.int .u32 r, .slice V n c, .bool ok]
theorem ret_ref {fn : Func} {R : Ending → World → Prop} {a : Act} {w : World} {c : Tmp} (hr : fn.results = #[.cell c 42]) (b : Nat) (r : Int) (V : Option Addr) (n cc : Nat) (ok : Bool) (hd : a.defers = []) (hx : a.tmps.getD c undef = .pointer (some ⟨b, 0, none⟩))
    (hg : w.heap[b]? = some (.cells #[.int .u32 r, .slice V n cc, .bool ok] 42 (0, 0))) (hR : R (.returned (refV r V n cc ok)) w) : bodyPost Tryd.prog fn R .ret a w :=
  bodyPost_ret (results_cell_row hr _ _ _ _ _ _ _ hx hg Tryd.underlying42 rfl (by kernel_rfl)) hd hR
theorem yesC (r : Int) (w : World) : Calls Tryd.prog 31 #[.int .u32 r] w fun e w' => e = .returned (refV r none 0 0 true) ∧ Below w.heap.size w w' := by
  go_enter Tryd.func31, Tryd.ntmps31
  go_wp2
  exact ret_ref rfl _ _ _ _ _ _ rfl rfl (heap_alloc_new w _) ⟨rfl, (Below.refl _ _).alloc (Nat.le_refl _) _⟩
set_option maxRecDepth 100000 in
set_option maxHeartbeats 16000000 in
theorem ownerC (V : Option Addr) (n cn : Nat) (f : Nat → Stp) (hnn : n ≤ 4000) (o : Int) (w : World) (hV : Steps w V n f) : Calls Tryd.prog 30 #[.slice V n cn, .int .i64 o] w fun e w' => e = .returned (.int .i64 (ownN o f n)) ∧ Below w.heap.size w w' := by
  go_enter Tryd.func30, Tryd.ntmps30
  go_upto_region 3 with (fail)
  go_loopw [5, 6] (fun v u wr => ∃ (i : Nat), u = .int .i64 i ∧ v = .int .i64 (ownN o f i) ∧ i ≤ n ∧ wr = w) (fun _ u _ => n - (intOf u).toNat)
  case atStart => exact ⟨0, rfl, rfl, Nat.zero_le _, rfl⟩
  case round =>
    obtain ⟨i, rfl, rfl, hi, rfl⟩ := hrel
    by_cases hlt : i < n
    case neg =>
      obtain rfl : i = n := by omega
      have hl1 : ¬ ((i : Int) < i) := by omega
      go_wp2
      go_ret
      exact ⟨rfl, Below.refl _ _⟩
    have hl0 : (0 : Int) ≤ i := by omega
    have hl1 : (i : Int) < n := by omega
    obtain ⟨bV, oV, rfl⟩ := stp_ptr hV (by omega)
    obtain ⟨c0, c1, c2, c3, c4, c5, c6⟩ := at_stp hV hlt
    obtain ⟨s, hs⟩ : ∃ s, Hid (s = f i) := ⟨_, rfl⟩
    rw [← hs.out] at c0 c1 c2 c3 c4 c5 c6
    obtain ⟨⟨x0, x1, x2, x3, x4, x5⟩, r⟩ := s
    simp only at c0 c1 c2 c3 c4 c5 c6
    obtain ⟨h, hh⟩ : ∃ h, Hid (h = ownN o f i) := ⟨_, rfl⟩
    rw [← hh.out]
    by_cases ho : x1 = o
    · replace ho := ho.symm
      subst ho
      by_cases d1 : x2 = 1
      · subst d1
        by_cases r0 : r = 0
        · subst r0
          have hn : Hid (x0 = ownN o f (i + 1)) := by
            show _ = own1 o (ownN o f i) (f i)
            rw [← hs.out, ← hh.out]; unfold own1; simp
          clear hs hh
          go_wp2
          go_roundw
          case rel => exact ⟨i + 1, by go_num, by rw [hn.out], by omega, by first | rfl | trivial⟩
          case measure => simp [intOf]; omega
        · have q0 : (r == 0) = false := by simp_all
          have hn : Hid (h = ownN o f (i + 1)) := by
            show _ = own1 o (ownN o f i) (f i)
            rw [← hs.out, ← hh.out]; unfold own1; simp; simp_all
          clear hs hh
          go_wp2
          go_roundw
          case rel => exact ⟨i + 1, by go_num, by rw [hn.out], by omega, by first | rfl | trivial⟩
          case measure => simp [intOf]; omega
      · by_cases d9 : x2 = 9
        · subst d9
          by_cases r0 : r = 5
          · subst r0
            have hn : Hid (x0 = ownN o f (i + 1)) := by
              show _ = own1 o (ownN o f i) (f i)
              rw [← hs.out, ← hh.out]; unfold own1; simp
            clear hs hh
            go_wp2
            go_roundw
            case rel => exact ⟨i + 1, by go_num, by rw [hn.out], by omega, by first | rfl | trivial⟩
            case measure => simp [intOf]; omega
          · have q0 : (r == 5) = false := by simp_all
            have hn : Hid (h = ownN o f (i + 1)) := by
              show _ = own1 o (ownN o f i) (f i)
              rw [← hs.out, ← hh.out]; unfold own1; simp; simp_all
            clear hs hh
            go_wp2
            go_roundw
            case rel => exact ⟨i + 1, by go_num, by rw [hn.out], by omega, by first | rfl | trivial⟩
            case measure => simp [intOf]; omega
        · by_cases d2 : x2 = 2
          · subst d2
            by_cases r0 : r = 0
            · subst r0
              by_cases h0 : h = x0
              · have q5 : (h == x0) = true := by simp [h0]
                have hn : Hid ((-1) = ownN o f (i + 1)) := by
                  show _ = own1 o (ownN o f i) (f i)
                  rw [← hs.out, ← hh.out]; unfold own1; simp [h0]
                clear hs hh
                go_wp2
                go_roundw
                case rel => exact ⟨i + 1, by go_num, by rw [hn.out], by omega, by first | rfl | trivial⟩
                case measure => simp [intOf]; omega
              · have q5 : (h == x0) = false := by simp [h0]
                have hn : Hid (h = ownN o f (i + 1)) := by
                  show _ = own1 o (ownN o f i) (f i)
                  rw [← hs.out, ← hh.out]; unfold own1; simp [h0]
                clear hs hh
                go_wp2
                go_roundw
                case rel => exact ⟨i + 1, by go_num, by rw [hn.out], by omega, by first | rfl | trivial⟩
                case measure => simp [intOf]; omega
            · have q0 : (r == 0) = false := by simp_all
              have hn : Hid (h = ownN o f (i + 1)) := by
                show _ = own1 o (ownN o f i) (f i)
                rw [← hs.out, ← hh.out]; unfold own1; simp [r0]
              clear hs hh
              go_wp2
              go_roundw
              case rel => exact ⟨i + 1, by go_num, by rw [hn.out], by omega, by first | rfl | trivial⟩
              case measure => simp [intOf]; omega
          · by_cases d10 : x2 = 10
            · subst d10
              by_cases r0 : r = 0
              · subst r0
                by_cases h0 : h = x0
                · have q5 : (h == x0) = true := by simp [h0]
                  have hn : Hid ((-1) = ownN o f (i + 1)) := by
                    show _ = own1 o (ownN o f i) (f i)
                    rw [← hs.out, ← hh.out]; unfold own1; simp [h0]
                  clear hs hh
                  go_wp2
                  go_roundw
                  case rel => exact ⟨i + 1, by go_num, by rw [hn.out], by omega, by first | rfl | trivial⟩
                  case measure => simp [intOf]; omega
                · have q5 : (h == x0) = false := by simp [h0]
                  have hn : Hid (h = ownN o f (i + 1)) := by
                    show _ = own1 o (ownN o f i) (f i)
                    rw [← hs.out, ← hh.out]; unfold own1; simp [h0]
                  clear hs hh
                  go_wp2
                  go_roundw
                  case rel => exact ⟨i + 1, by go_num, by rw [hn.out], by omega, by first | rfl | trivial⟩
                  case measure => simp [intOf]; omega
              · have q0 : (r == 0) = false := by simp_all
                have hn : Hid (h = ownN o f (i + 1)) := by
                  show _ = own1 o (ownN o f i) (f i)
                  rw [← hs.out, ← hh.out]; unfold own1; simp [r0]
                clear hs hh
                go_wp2
                go_roundw
                case rel => exact ⟨i + 1, by go_num, by rw [hn.out], by omega, by first | rfl | trivial⟩
                case measure => simp [intOf]; omega
            · have q1 : (x2 == 1) = false := by simp [d1]
              have q9 : (x2 == 9) = false := by simp [d9]
              have q2 : (x2 == 2) = false := by simp [d2]
              have q10 : (x2 == 10) = false := by simp [d10]
              have hn : Hid (h = ownN o f (i + 1)) := by
                show _ = own1 o (ownN o f i) (f i)
                rw [← hs.out, ← hh.out]; unfold own1; simp [d1, d2, d9, d10]
              clear hs hh
              go_wp2
              go_roundw
              case rel => exact ⟨i + 1, by go_num, by rw [hn.out], by omega, by first | rfl | trivial⟩
              case measure => simp [intOf]; omega
    · have qo : (x1 != o) = true := by simp [ho]
      have hn : Hid (h = ownN o f (i + 1)) := by
        show _ = own1 o (ownN o f i) (f i)
        rw [← hs.out, ← hh.out]; unfold own1; simp [ho]
      clear hs hh
      go_wp2
      go_roundw
      case rel => exact ⟨i + 1, by go_num, by rw [hn.out], by omega, by first | rfl | trivial⟩
      case measure => simp [intOf]; omega
set_option maxRecDepth 100000 in
set_option maxHeartbeats 16000000 in
theorem readsC (V : Option Addr) (n cn : Nat) (f : Nat → Stp) (hnn : n ≤ 4000) (o q : Int) (w : World) (hV : Steps w V n f) : Calls Tryd.prog 34 #[.slice V n cn, .int .i64 o, .int .i64 q] w fun e w' => e = .returned (.bool (rdsN o q f n)) ∧ Below w.heap.size w w' := by
  go_enter Tryd.func34, Tryd.ntmps34
  go_upto_region 3 with (fail)
  go_loopw [7, 8] (fun v u wr => ∃ (i : Nat), u = .int .i64 i ∧ v = .bool (rdsN o q f i) ∧ i ≤ n ∧ wr = w) (fun _ u _ => n - (intOf u).toNat)
  case atStart => exact ⟨0, rfl, rfl, Nat.zero_le _, rfl⟩
  case round =>
    obtain ⟨i, rfl, rfl, hi, rfl⟩ := hrel
    by_cases hlt : i < n
    case neg =>
      obtain rfl : i = n := by omega
      have hl1 : ¬ ((i : Int) < i) := by omega
      go_wp2
      go_ret
      exact ⟨rfl, Below.refl _ _⟩
    have hl0 : (0 : Int) ≤ i := by omega
    have hl1 : (i : Int) < n := by omega
    obtain ⟨bV, oV, rfl⟩ := stp_ptr hV (by omega)
    obtain ⟨c0, c1, c2, c3, c4, c5, c6⟩ := at_stp hV hlt
    obtain ⟨s, hs⟩ : ∃ s, Hid (s = f i) := ⟨_, rfl⟩
    rw [← hs.out] at c0 c1 c2 c3 c4 c5 c6
    obtain ⟨⟨x0, x1, x2, x3, x4, x5⟩, r⟩ := s
    simp only at c0 c1 c2 c3 c4 c5 c6
    obtain ⟨h, hh⟩ : ∃ h, Hid (h = rdsN o q f i) := ⟨_, rfl⟩
    rw [← hh.out]
    by_cases ho : x1 = o
    · replace ho := ho.symm
      subst ho
      by_cases w0 : x0 = q
      · replace w0 := w0.symm
        subst w0
        by_cases r0 : r = 0
        · subst r0
          by_cases d3 : x2 = 3
          · subst d3
            have hn : Hid (true = rdsN o q f (i + 1)) := by
              show _ = rds1 o q (rdsN o q f i) (f i)
              rw [← hs.out, ← hh.out]; unfold rds1; simp
            clear hs hh
            go_wp2
            go_roundw
            case rel => exact ⟨i + 1, by go_num, by rw [hn.out], by omega, by first | rfl | trivial⟩
            case measure => simp [intOf]; omega
          · by_cases d2 : x2 = 2
            · subst d2
              have hn : Hid (false = rdsN o q f (i + 1)) := by
                show _ = rds1 o q (rdsN o q f i) (f i)
                rw [← hs.out, ← hh.out]; unfold rds1; simp
              clear hs hh
              go_wp2
              go_roundw
              case rel => exact ⟨i + 1, by go_num, by rw [hn.out], by omega, by first | rfl | trivial⟩
              case measure => simp [intOf]; omega
            · have q3 : (x2 == 3) = false := by simp [d3]
              have q2 : (x2 == 2) = false := by simp [d2]
              have hn : Hid (h = rdsN o q f (i + 1)) := by
                show _ = rds1 o q (rdsN o q f i) (f i)
                rw [← hs.out, ← hh.out]; unfold rds1; simp [d2, d3]
              clear hs hh
              go_wp2
              go_roundw
              case rel => exact ⟨i + 1, by go_num, by rw [hn.out], by omega, by first | rfl | trivial⟩
              case measure => simp [intOf]; omega
        · have q0 : (r != 0) = true := by simp [r0]
          have hn : Hid (h = rdsN o q f (i + 1)) := by
            show _ = rds1 o q (rdsN o q f i) (f i)
            rw [← hs.out, ← hh.out]; unfold rds1; simp [r0]
          clear hs hh
          go_wp2
          go_roundw
          case rel => exact ⟨i + 1, by go_num, by rw [hn.out], by omega, by first | rfl | trivial⟩
          case measure => simp [intOf]; omega
      · have qw : (x0 != q) = true := by simp [w0]
        have hn : Hid (h = rdsN o q f (i + 1)) := by
          show _ = rds1 o q (rdsN o q f i) (f i)
          rw [← hs.out, ← hh.out]; unfold rds1; simp [w0]
        clear hs hh
        go_wp2
        go_roundw
        case rel => exact ⟨i + 1, by go_num, by rw [hn.out], by omega, by first | rfl | trivial⟩
        case measure => simp [intOf]; omega
    · have qo : (x1 != o) = true := by simp [ho]
      have hn : Hid (h = rdsN o q f (i + 1)) := by
        show _ = rds1 o q (rdsN o q f i) (f i)
        rw [← hs.out, ← hh.out]; unfold rds1; simp [ho]
      clear hs hh
      go_wp2
      go_roundw
      case rel => exact ⟨i + 1, by go_num, by rw [hn.out], by omega, by first | rfl | trivial⟩
      case measure => simp [intOf]; omega
end Go.Proofs.YtobkonbpcnmgpaaDoor
