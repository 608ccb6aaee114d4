/- What is wrong with a client first: plain. -/
import Derived.Test.YtlcoealfnlakhaaDoorRefRgt
namespace Go.Proofs.YtlcoealfnlakhaaDoor
open Go.RowKit
set_option linter.unusedVariables false
set_option linter.unusedSimpArgs false
section
variable {ops : Array Oper} {Q : Exit → Act → World → Prop}
theorem wl_load {P : Program} {rest : List Oper} {o : Oper} {a : Act} {w : World} (hgd : o.guard = none) (ty : TypeId) (x : Operand) (ho : o.op = .load ty x) (b : Nat) (hx : a.eval x = .pointer (some ⟨b, 0, none⟩)) (t : TypeId) (cs : Array Value) (fr : Nat × Nat) (d : TypeDesc)
    (hb : w.heap[b]? = some (.cells cs t fr)) (hu : P.underlying ty = some d) (hd : (match d with | .struct _ | .array _ _ => true | _ => false) = true) (hi : (P.info? ty).map (·.size) = some cs.size)
    (hK : ∀ K : Act → World → Prop, (∀ a w, wpList P ops Q rest a w → K a w) → K (a.put o.dst (.agg cs)) w) : wpList P ops Q (o :: rest) a w :=
  wl_val hgd (.agg cs) (by
    unfold execOp
    simp only [ho, hx, Instr.loadAt, Instr.sureAddr, Sem.run_bind, Sem.run_pure, Result.andThen_ok, run_loadVar_row w b t ty cs fr d hb hu hd hi]) hK
end
def scan {R : Type} (g : Nat → Option R) (n : Nat) : Option R := (List.range n).findSome? g
theorem scan_some {R : Type} {g : Nat → Option R} {n k : Nat} {r : R} (hk : k < n) (h : ∀ j, j < k → g j = none) (e : g k = some r) : scan g n = some r := by
  unfold scan
  rw [List.findSome?_eq_some_iff]
  refine ⟨List.range k, k, (List.range (n - k - 1)).map (fun j => k + 1 + j), ?_, e, fun a ha => h a (List.mem_range.1 ha)⟩
  apply List.ext_getElem
  · simp; omega
  · intro i h1 h2
    simp only [List.getElem_range, List.getElem_append, List.length_range, List.getElem_cons, List.getElem_map]
    split
    · rfl
    · split <;> omega
theorem scan_none {R : Type} {g : Nat → Option R} {n : Nat} (h : ∀ j, j < n → g j = none) : scan g n = none := by
  unfold scan
  rw [List.findSome?_eq_none_iff]
  exact fun a ha => h a (List.mem_range.1 ha)
abbrev T3 := Int × Int × Int
def r3 (p : T3) : Value := .tuple #[.int .i64 p.1, .int .i64 p.2.1, .int .i64 p.2.2]
def badC (C : Cl) : Prop := C.nt < 1 ∨ 8 < C.nt ∨ C.room < 1 ∨ 16 < C.room ∨ C.vars < 0 ∨ 16 < C.vars ∨ ¬ ((C.nw : Int) = C.vars)
instance (C : Cl) : Decidable (badC C) := by unfold badC; infer_instance
def objE (C : Cl) (i : Nat) : Option T3 := if rb (C.f i) C.nt then none else some (-1, i, 1)
def ownE (C : Cl) (i : Nat) : Option T3 := if (C.no : Int) ≤ C.own i ∨ C.own i < -(C.nt : Int) then some (-2, i, 1) else none
def opE (C : Cl) (t i : Nat) : Option T3 := if rgt C (C.op t i) then none else some (t, i, 3)
def thrE (C : Cl) (t : Nat) : Option T3 := if 60 < C.len t then some (t, -1, 4) else scan (opE C t) (C.len t)
def chk (C : Cl) : T3 :=
  if badC C then (-1, -1, 1) else if 8 < C.no then (-1, -1, 4)
  else (((scan (objE C) C.no).or (scan (ownE C) C.nw)).or (scan (thrE C) C.nt)).getD (0, 0, 0)
theorem chk_bad {C : Cl} (h : badC C) : chk C = (-1, -1, 1) := if_pos h
theorem chk_long {C : Cl} (h : ¬ badC C) (h8 : 8 < C.no) : chk C = (-1, -1, 4) := by unfold chk; rw [if_neg h, if_pos h8]
section
variable {C : Cl} (h : ¬ badC C) (h8 : ¬ 8 < C.no)
include h h8
theorem chk_obj {k : Nat} (hk : k < C.no) (hp : ∀ j, j < k → rb (C.f j) C.nt = true) (e : rb (C.f k) C.nt = false) : chk C = (-1, (k : Int), 1) := by
  unfold chk
  rw [if_neg h, if_neg h8, scan_some (r := (-1, (k : Int), 1)) hk (fun j hj => by unfold objE; rw [if_pos (hp j hj)]) (by unfold objE; rw [if_neg (by rw [e]; exact Bool.false_ne_true)])]; rfl
variable (h1 : ∀ j, j < C.no → rb (C.f j) C.nt = true)
include h1
theorem chk_own {k : Nat} (hk : k < C.nw) (hp : ∀ j, j < k → ¬ ((C.no : Int) ≤ C.own j ∨ C.own j < -(C.nt : Int))) (e : (C.no : Int) ≤ C.own k ∨ C.own k < -(C.nt : Int)) : chk C = (-2, (k : Int), 1) := by
  unfold chk
  rw [if_neg h, if_neg h8, scan_none (fun j hj => by unfold objE; rw [if_pos (h1 j hj)]), scan_some (r := (-2, (k : Int), 1)) hk (fun j hj => by unfold ownE; rw [if_neg (hp j hj)]) (by unfold ownE; rw [if_pos e])]; rfl
variable (h2 : ∀ j, j < C.nw → ¬ ((C.no : Int) ≤ C.own j ∨ C.own j < -(C.nt : Int)))
include h2
theorem chk_thr {t : Nat} {r : T3} (ht : t < C.nt) (hp : ∀ j, j < t → thrE C j = none) (e : thrE C t = some r) : chk C = r := by
  unfold chk
  rw [if_neg h, if_neg h8, scan_none (fun j hj => by unfold objE; rw [if_pos (h1 j hj)]), scan_none (fun j hj => by unfold ownE; rw [if_neg (h2 j hj)]), scan_some ht hp e]; rfl
theorem chk_fine (hp : ∀ j, j < C.nt → thrE C j = none) : chk C = (0, 0, 0) := by
  unfold chk
  rw [if_neg h, if_neg h8, scan_none (fun j hj => by unfold objE; rw [if_pos (h1 j hj)]), scan_none (fun j hj => by unfold ownE; rw [if_neg (h2 j hj)]), scan_none hp]; rfl
end
theorem thr_long {C : Cl} {t : Nat} (h : 60 < C.len t) : thrE C t = some ((t : Int), -1, 4) := if_pos h
theorem thr_op {C : Cl} {t k : Nat} (h : ¬ 60 < C.len t) (hk : k < C.len t) (hp : ∀ j, j < k → rgt C (C.op t j) = true) (e : rgt C (C.op t k) = false) : thrE C t = some ((t : Int), (k : Int), 3) := by
  unfold thrE
  rw [if_neg h, scan_some (r := ((t : Int), (k : Int), 3)) hk (fun j hj => by unfold opE; rw [if_pos (hp j hj)]) (by unfold opE; rw [if_neg (by rw [e]; exact Bool.false_ne_true)])]
theorem thr_fine {C : Cl} {t : Nat} (h : ¬ 60 < C.len t) (hp : ∀ j, j < C.len t → rgt C (C.op t j) = true) : thrE C t = none := by
  unfold thrE
  rw [if_neg h, scan_none (fun j hj => by unfold opE; rw [if_pos (hp j hj)])]
end Go.Proofs.YtlcoealfnlakhaaDoor
