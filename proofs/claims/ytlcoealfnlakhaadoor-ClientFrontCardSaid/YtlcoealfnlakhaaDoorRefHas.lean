/- What a thread has; does an op keep the rules; does it rise: the document's answers. -/
import Derived.Test.YtlcoealfnlakhaaDoorKLaw
namespace Go.Proofs.YtlcoealfnlakhaaDoor
open Go.RowKit
set_option linter.unusedVariables false
set_option linter.unusedSimpArgs false
set_option maxRecDepth 100000 in
set_option maxHeartbeats 8000000 in
theorem refHas (C : Cl) (l : Nat → X) (P : Option Addr) (n cp : Nat) (o : Nat) (ho : o < C.no) (hn : n ≤ 4000) (w : World) (hM : MemC w C) (hL : Ops w P n l) :
    Calls Tryd.prog 27 #[C.v, .slice P n cp, .int .i64 o] w fun e w' => e = .returned (.int .i64 (hasP C l o n)) ∧ Below w.heap.size w w' := by
  have ho0 : (0 : Int) ≤ o := by omega
  have ho1 : (o : Int) < C.no := by omega
  obtain ⟨bA, oA, eA⟩ := objs_ptr hM.objs (by omega)
  have hA := hM.objs
  rw [eA] at hA
  unfold Cl.v
  rw [eA]
  go_enter Tryd.func27, Tryd.ntmps27
  go_upto_region 3 with (fail)
  obtain ⟨W, b1, e0, e1, X1, hal⟩ := box1 w #[.slice (some ⟨bA, oA, none⟩) C.no C.ca, .int .i64 C.vars, .slice C.W C.nw C.cw, .int .i64 C.room, .slice C.T C.nt C.ct] 26
  rw [e0, e1]
  clear e0 e1 eA
  have hLW := hL.below hal
  have y0 := cell_of_row W b1 0 _ 26 _ X1
  have ck := (obj_at (hA.below hal) ho).1
  go_loopw [7, 8] (fun v u wr => ∃ i : Nat, u = .int .i64 i ∧ v = .int .i64 (hasP C l o i) ∧ i ≤ n ∧ wr = W) (fun _ u _ => n - (intOf u).toNat)
  case atStart => exact ⟨0, rfl, rfl, Nat.zero_le _, rfl⟩
  case round =>
    obtain ⟨i, rfl, rfl, hi, rfl⟩ := hrel
    by_cases hlt : i < n
    case neg =>
      obtain rfl : i = n := by omega
      have hl1 : ¬ ((i : Int) < i) := by omega
      go_wp2
      go_ret
      exact ⟨rfl, hal⟩
    have hl0 : (0 : Int) ≤ i := by omega
    have hl1 : (i : Int) < n := by omega
    obtain ⟨bO, oO, rfl⟩ := ops_ptr hLW (by omega)
    obtain ⟨x0, x1, x2, x3⟩ := at_op hLW hlt
    have hs : Hid (hasP C l o (i + 1) = rst (C.f o).k (l i) o (hasP C l o i)) := rfl
    generalize hasP C l o i = v at *
    generalize hv' : hasP C l o (i + 1) = v' at *
    have hvv : Hid (hasP C l o (i + 1) = v') := hv'
    clear hv'
    generalize (C.f o).k = kd at *
    generalize l i = x at *
    obtain ⟨xk, xa, xb, xK⟩ := x
    simp only at x0 x1 x2 x3
    by_cases e7 : xk = 7
    case neg =>
      have q7 : (xk != 7) = true := by simp [e7]
      have hv : Hid (Value.int .i64 v = .int .i64 v') := by show Value.int .i64 v = .int .i64 v'; rw [hs.out]; simp [rst, e7]
      clear hs e7
      go_wp2
      go_roundw
      case rel => exact ⟨i + 1, by go_num, hv.out.trans (by rw [hvv.out]), by omega, by first | rfl | trivial⟩
      case measure => simp [intOf]; omega
    subst e7
    by_cases ea : xa = o
    case neg =>
      have qa : (xa != o) = true := by simp [ea]
      have hv : Hid (Value.int .i64 v = .int .i64 v') := by show Value.int .i64 v = .int .i64 v'; rw [hs.out]; simp [rst, ea]
      clear hs ea
      go_wp2
      go_roundw
      case rel => exact ⟨i + 1, by go_num, hv.out.trans (by rw [hvv.out]), by omega, by first | rfl | trivial⟩
      case measure => simp [intOf]; omega
    subst ea
    by_cases c11 : 11 ≤ kd
    · by_cases c13 : kd ≤ 13
      · have hv : Hid (Value.int .i64 v = .int .i64 v') := by show Value.int .i64 v = .int .i64 v'; rw [hs.out]; simp [rst, c11, c13]
        clear hs 
        go_wp2
        go_roundw
        case rel => exact ⟨i + 1, by go_num, hv.out.trans (by rw [hvv.out]), by omega, by first | rfl | trivial⟩
        case measure => simp [intOf]; omega
      · have c13' : ¬ (11 ≤ kd ∧ kd ≤ 13) := fun h => c13 h.2
        by_cases f1 : xb = 1
        · subst f1
          have hv : Hid (Value.int .i64 2 = .int .i64 v') := by show Value.int .i64 2 = .int .i64 v'; rw [hs.out]; simp [rst, c13']
          clear hs 
          go_wp2
          go_roundw
          case rel => exact ⟨i + 1, by go_num, hv.out.trans (by rw [hvv.out]), by omega, by first | rfl | trivial⟩
          case measure => simp [intOf]; omega
        by_cases f2 : xb = 2
        · subst f2
          have hv : Hid (Value.int .i64 0 = .int .i64 v') := by show Value.int .i64 0 = .int .i64 v'; rw [hs.out]; simp [rst, c13']
          clear hs 
          go_wp2
          go_roundw
          case rel => exact ⟨i + 1, by go_num, hv.out.trans (by rw [hvv.out]), by omega, by first | rfl | trivial⟩
          case measure => simp [intOf]; omega
        by_cases f10 : xb = 10
        · subst f10
          have hv : Hid (Value.int .i64 0 = .int .i64 v') := by show Value.int .i64 0 = .int .i64 v'; rw [hs.out]; simp [rst, c13']
          clear hs 
          go_wp2
          go_roundw
          case rel => exact ⟨i + 1, by go_num, hv.out.trans (by rw [hvv.out]), by omega, by first | rfl | trivial⟩
          case measure => simp [intOf]; omega
        by_cases f3 : xb = 3
        · subst f3
          by_cases c14 : kd = 14
          · have q14 : (kd == 14) = true := by simp [c14]
            have hv : Hid (Value.int .i64 1 = .int .i64 v') := by show Value.int .i64 1 = .int .i64 v'; rw [hs.out]; simp [rst, c13', c14]
            clear hs; clear c14
            go_wp2
            go_roundw
            case rel => exact ⟨i + 1, by go_num, hv.out.trans (by rw [hvv.out]), by omega, by first | rfl | trivial⟩
            case measure => simp [intOf]; omega
          · have q14 : (kd == 14) = false := by simp [c14]
            have hv : Hid (Value.int .i64 v = .int .i64 v') := by show Value.int .i64 v = .int .i64 v'; rw [hs.out]; simp [rst, c13', c14]
            clear hs c14
            go_wp2
            go_roundw
            case rel => exact ⟨i + 1, by go_num, hv.out.trans (by rw [hvv.out]), by omega, by first | rfl | trivial⟩
            case measure => simp [intOf]; omega
        have q1 : (xb == 1) = false := by simp [f1]
        have q2 : (xb == 2) = false := by simp [f2]
        have q10 : (xb == 10) = false := by simp [f10]
        have q3 : (xb == 3) = false := by simp [f3]
        by_cases f9 : xb = 9
        · subst f9
          have hv : Hid (Value.int .i64 3 = .int .i64 v') := by show Value.int .i64 3 = .int .i64 v'; rw [hs.out]; simp [rst, c13']
          clear hs 
          go_wp2
          go_roundw
          case rel => exact ⟨i + 1, by go_num, hv.out.trans (by rw [hvv.out]), by omega, by first | rfl | trivial⟩
          case measure => simp [intOf]; omega
        have q9 : (xb == 9) = false := by simp [f9]
        have hv : Hid (Value.int .i64 v = .int .i64 v') := by show Value.int .i64 v = .int .i64 v'; rw [hs.out]; simp [rst, c13', f1, f2, f3, f9, f10]
        clear hs f1 f2 f3 f9 f10
        go_wp2
        go_roundw
        case rel => exact ⟨i + 1, by go_num, hv.out.trans (by rw [hvv.out]), by omega, by first | rfl | trivial⟩
        case measure => simp [intOf]; omega
    · have c13' : ¬ (11 ≤ kd ∧ kd ≤ 13) := fun h => c11 h.1
      by_cases f1 : xb = 1
      · subst f1
        have hv : Hid (Value.int .i64 2 = .int .i64 v') := by show Value.int .i64 2 = .int .i64 v'; rw [hs.out]; simp [rst, c13']
        clear hs 
        go_wp2
        go_roundw
        case rel => exact ⟨i + 1, by go_num, hv.out.trans (by rw [hvv.out]), by omega, by first | rfl | trivial⟩
        case measure => simp [intOf]; omega
      by_cases f2 : xb = 2
      · subst f2
        have hv : Hid (Value.int .i64 0 = .int .i64 v') := by show Value.int .i64 0 = .int .i64 v'; rw [hs.out]; simp [rst, c13']
        clear hs 
        go_wp2
        go_roundw
        case rel => exact ⟨i + 1, by go_num, hv.out.trans (by rw [hvv.out]), by omega, by first | rfl | trivial⟩
        case measure => simp [intOf]; omega
      by_cases f10 : xb = 10
      · subst f10
        have hv : Hid (Value.int .i64 0 = .int .i64 v') := by show Value.int .i64 0 = .int .i64 v'; rw [hs.out]; simp [rst, c13']
        clear hs 
        go_wp2
        go_roundw
        case rel => exact ⟨i + 1, by go_num, hv.out.trans (by rw [hvv.out]), by omega, by first | rfl | trivial⟩
        case measure => simp [intOf]; omega
      by_cases f3 : xb = 3
      · subst f3
        by_cases c14 : kd = 14
        · have q14 : (kd == 14) = true := by simp [c14]
          have hv : Hid (Value.int .i64 1 = .int .i64 v') := by show Value.int .i64 1 = .int .i64 v'; rw [hs.out]; simp [rst, c13', c14]
          clear hs; clear c14
          go_wp2
          go_roundw
          case rel => exact ⟨i + 1, by go_num, hv.out.trans (by rw [hvv.out]), by omega, by first | rfl | trivial⟩
          case measure => simp [intOf]; omega
        · have q14 : (kd == 14) = false := by simp [c14]
          have hv : Hid (Value.int .i64 v = .int .i64 v') := by show Value.int .i64 v = .int .i64 v'; rw [hs.out]; simp [rst, c13', c14]
          clear hs c14
          go_wp2
          go_roundw
          case rel => exact ⟨i + 1, by go_num, hv.out.trans (by rw [hvv.out]), by omega, by first | rfl | trivial⟩
          case measure => simp [intOf]; omega
      have q1 : (xb == 1) = false := by simp [f1]
      have q2 : (xb == 2) = false := by simp [f2]
      have q10 : (xb == 10) = false := by simp [f10]
      have q3 : (xb == 3) = false := by simp [f3]
      by_cases f9 : xb = 9
      · subst f9
        have hv : Hid (Value.int .i64 3 = .int .i64 v') := by show Value.int .i64 3 = .int .i64 v'; rw [hs.out]; simp [rst, c13']
        clear hs 
        go_wp2
        go_roundw
        case rel => exact ⟨i + 1, by go_num, hv.out.trans (by rw [hvv.out]), by omega, by first | rfl | trivial⟩
        case measure => simp [intOf]; omega
      have q9 : (xb == 9) = false := by simp [f9]
      have hv : Hid (Value.int .i64 v = .int .i64 v') := by show Value.int .i64 v = .int .i64 v'; rw [hs.out]; simp [rst, c13', f1, f2, f3, f9, f10]
      clear hs f1 f2 f3 f9 f10
      go_wp2
      go_roundw
      case rel => exact ⟨i + 1, by go_num, hv.out.trans (by rw [hvv.out]), by omega, by first | rfl | trivial⟩
      case measure => simp [intOf]; omega
end Go.Proofs.YtlcoealfnlakhaaDoor
