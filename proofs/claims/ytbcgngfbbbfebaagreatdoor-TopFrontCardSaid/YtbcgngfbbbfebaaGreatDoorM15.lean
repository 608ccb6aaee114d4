/- The builder's code, all jumps to where their places are. Every link of the builder's code lies in it, and has a short name. The code of mutexes and semaphores. -/
import Derived.Test.YtbcgngfbbbfebaaGreatDoorM07
import Derived.Test.YtbcgngfbbbfebaaGreatDoorM04
import Derived.Test.YtbcgngfbbbfebaaGreatDoorM14
import Derived.Test.YtbcgngfbbbfebaaGreatDoorM10
namespace Go.Proofs.YtbcgngfbbbfebaaGreatDoor
open Go.RowKit Go.Maps
set_option maxRecDepth 100000
set_option maxHeartbeats 32000000
set_option linter.unusedVariables false
set_option linter.unusedSimpArgs false
def plVal (d : Plc) : Int := match d with
 | .lit (.int _ c) => c
 | _ => 0
def opAt (o : List Ins) (i : Nat) : Int := match o[i]? with
 | some x => x.op
 | none => 0
def setK (o : List Ins) (i : Nat) (k : Int) : List Ins := match o[i]? with
 | some x => o.set i { x with k := k }
 | none => o
def linkStep (D : Plc) (O : Option (List Ins)) (l : Lnk) : Option (List Ins) := match O with
 | none => none
 | some o => if Maps.has D (nmL l.name) = true then (if jumpB (opAt o l.at'.toNat) = true then some (setK o l.at'.toNat (plVal (D.atKey (nmL l.name) (.lit (.int .i64 0))) % 4294967296)) else none) else none
def BS.fin (st : BS) : List Ins × Bool := match st.links.foldl (linkStep st.places) (some st.code) with
 | none => ([], false)
 | some o => if st.bad = true then ([], false) else (o, true)
theorem link_none (D : Plc) : ∀ l : List Lnk, l.foldl (linkStep D) none = none
 | [] => rfl
 | x :: l => link_none D l
theorem setK_len (o : List Ins) (i : Nat) (k : Int) : (setK o i k).length = o.length := by
 unfold setK; split <;> simp
theorem flat_set : ∀ (o : List Ins) (i : Nat) (x : Ins) (k : Int), o[i]? = some x → (o.flatMap insL).set (i * 5 + 4) (.int .u32 k) = (o.set i { x with k := k }).flatMap insL
 | [], i, x, k, h => by simp at h
 | y :: o, 0, x, k, h => by
  simp at h; subst h; simp [insL]
 | y :: o, i + 1, x, k, h => by
  have ih := flat_set o i x k (by simpa using h); rw [List.flatMap_cons, List.set_cons_succ, List.flatMap_cons, ← ih]; rw [List.set_append_right _ _ (by simp [insL]; omega)]; congr 2; simp [insL]; omega
theorem ins_cell {o : List Ins} {i q : Nat} {x : Ins} (h : o[i]? = some x) (hq : q < 5) : (o.flatMap insL)[i * 5 + q]? = (insL x)[q]? := by
 induction o generalizing i with
 | nil => simp at h
 | cons y o ih =>
  rw [List.flatMap_cons]
  cases i with
  | zero =>
   simp at h; subst h; rw [Nat.zero_mul, Nat.zero_add, List.getElem?_append_left (by simp [insL]; omega)]
  | succ i =>
   rw [List.getElem?_append_right (by simp [insL]; omega)]; have := ih (i := i) (by simpa using h); rw [← this]; congr 1; simp [insL]; omega
theorem lnk_cell {o : List Lnk} {i q : Nat} {x : Lnk} (h : o[i]? = some x) (hq : q < 2) : (o.flatMap lnkL)[i * 2 + q]? = (lnkL x)[q]? := by
 induction o generalizing i with
 | nil => simp at h
 | cons y o ih =>
  rw [List.flatMap_cons]
  cases i with
  | zero =>
   simp at h; subst h; rw [Nat.zero_mul, Nat.zero_add, List.getElem?_append_left (by simp [lnkL]; omega)]
  | succ i =>
   rw [List.getElem?_append_right (by simp [lnkL]; omega)]; have := ih (i := i) (by simpa using h); rw [← this]; congr 1; simp [lnkL]; omega
theorem st_u32 {k : Int} (w : World) (p : Addr) (u : Value) (hc : w.cell? p = some u) (hf : w.frozen? p = false) : (store p (.int .u32 k)).run Tryz.prog w = .ok () (w.setCell p (.int .u32 k)) := by simp [go_sem, stored, hc, hf]
theorem lookP {w : World} {v : Value} {D : Plc} {n : Nat} (h : PlM w v D n) {name : ByteArray} (hl : name.size ≤ maxLen) : (Instr.lookup 199 v (.string name) true).run Tryz.prog w = .ok (.tuple #[.int .i64 (plVal (D.atKey (nmL name) (.lit (.int .i64 0)))), .bool (Maps.has D (nmL name))]) w := by
 have hkey : keyOf Tryz.prog 9 (.string name) = some (nmL name) := Go.WideMaps.keyOf_string_mk Tryz.underlying9 hl; rcases h with ⟨rfl, rfl⟩ | ⟨B, rfl, hown⟩
 ·have hr := Maps.look_nil (P := Tryz.prog) (w := w) true law9 Tryz.underlying199 (zero3 w) hkey
  rw [hr]; rfl
 ·obtain ⟨v, ps, hrun, hv⟩ := hown.look_ok law9 Tryz.underlying199 (zero3 w) (zd := .lit (.int .i64 0)) (zp := []) (plainElem_int Tryz.underlying3 (by decide)) hkey
  obtain ⟨c, rfl, hc, _⟩ := plainElem_int_inv Tryz.underlying3 hv; rw [hrun, show D.atKey (nmL name) (.lit (.int .i64 0)) = .lit (.int .i64 c) from congrArg Prod.fst hc]; rfl
theorem row_set {w w' : World} {g n c : Nat} {o : List Ins} {cur : Array Value} {i : Nat} {x : Ins} {k : Int} (h : OwnI w (.slice (some ⟨g, 0, none⟩) n c) o) (hg : w.heap[g]? = some (.cells cur 114 (0, 0))) (hx : o[i]? = some x) (hg' : w'.heap[g]? = some (.cells (cur.setIfInBounds (i * 5 + 4) (.int .u32 k)) 114 (0, 0))) : OwnI w' (.slice (some ⟨g, 0, none⟩) n c) (o.set i { x with k := k }) := by
 unfold OwnI at *; rw [List.length_set]; refine ⟨by rw [insL_len, List.length_set], ?_⟩; rcases h.2 with ⟨h', _⟩ | ⟨g', cap, cur', h', hb, h4, h5, h6, h7, h8⟩
 ·simp at h'
 ·simp only [Value.slice.injEq, Option.some.injEq, Addr.mk.injEq, and_true, true_and] at h'
  obtain ⟨rfl, rfl, rfl⟩ := h'; rw [hg] at h4; simp only [Option.some.injEq, Obj.cells.injEq] at h4; obtain ⟨rfl, -⟩ := h4; refine .inr ⟨_, _, _, rfl, hb, hg', h5, h6, by simpa using h7, ?_⟩; rw [Array.toList_setIfInBounds, List.take_set, h8, flat_set o i x k hx]
theorem run_ldlnk {o : Oper} {a : Act} {w : World} {v : Value} {L : List Lnk} {g n c i : Nat} {x : Lnk} (y : Operand) (ho : o.op = .load 243 y) (h : OwnK w (.slice (some ⟨g, 0, none⟩) n c) L) (hi : L[i]? = some x) (hx : a.eval y = .pointer (some ⟨g, i * 2, none⟩)) : (execOp a.eval o).run Tryz.prog w = .ok (.value (.agg #[.int .i64 x.at', .string x.name])) w := by
 have hil : i < L.length := (List.getElem?_eq_some_iff.1 hi).1
 have hc : ∀ q, q < 2 → w.cell? ⟨g, i * 2 + q, none⟩ = (lnkL x)[q]? := fun q hq => by
  rcases h.2 with ⟨h', _⟩ | ⟨g', cap, cur, h', _, h4, _, _, _, h8⟩
  ·simp at h'
  ·simp only [Value.slice.injEq, Option.some.injEq, Addr.mk.injEq, and_true, true_and] at h'
   obtain ⟨rfl, rfl, rfl⟩ := h'; rw [cell_of_row w g _ cur 243 _ h4, ← lnk_cell hi hq, ← h8, List.getElem?_take, if_pos (by omega), Array.getElem?_toList]
 have hl : (loadCells ⟨g, i * 2, none⟩ 2).run Tryz.prog w = .ok #[.int .i64 x.at', .string x.name] w := by
  have := run_loadCells_list (P := Tryz.prog) w ⟨g, i * 2, none⟩ [.int .i64 x.at', .string x.name] (fun j v hv => by
   rw [add_off]
   match j, hv with
   | 0, hv => simp at hv; rw [← hv]; exact hc 0 (by omega)
   | 1, hv => simp at hv; rw [← hv]; exact hc 1 (by omega)
   | j + 2, hv => simp at hv)
  exact this
 have e1 := Tryz.isAgg243; have e2 := Tryz.sizeOf243; unfold execOp; simp only [ho, hx, Instr.loadAt, Instr.sureAddr, Sem.run_bind, Sem.run_pure, Result.andThen_ok]; unfold loadVar; simp only [Sem.run_bind, e1, e2, Result.andThen_ok, if_true, hl, Sem.run_pure]
def CodeR (w w' : World) (r : List Ins × Bool) (e : Ending) : Prop := ∃ v, e = .returned (.tuple #[v, .bool r.2]) ∧ OwnI w' v r.1 ∧ ∀ k, v.ownBlock = some k → w.heap.size ≤ k
theorem CodeR.no {w w' : World} : CodeR w w' ([], false) (.returned (.tuple #[.slice none 0 0, .bool false])) := ⟨_, rfl, World.ownsRow_nil _ _ _ _, fun k h => by cases h⟩
theorem fin1 {w0 w w' : World} {r : List Ins × Bool} {v : Value} {e : Ending} (hal : Below w0.heap.size w0 w) (h1 : OwnI w' v r.1) (h2 : ∀ k, v.ownBlock = some k → w.heap.size ≤ k) (hb : Below w.heap.size w w') (he : e = .returned (.tuple #[v, .bool r.2]) := by rfl) : CodeR w0 w' r e ∧ Below w0.heap.size w0 w' := ⟨⟨v, he, h1, fun k hk => Nat.le_trans hal.size (h2 k hk)⟩, hal.trans (hb.mono hal.size)⟩
theorem codeB {b : Nat} {F : Nat → Prop} {st : BS} {w : World} (hB : BMem w b F st) (hwf : st.Wf) (hs : st.sz ≤ 4000) (hnm : ∀ l ∈ st.links, l.name.size ≤ maxLen) (hI : IsaW w) : Calls Tryz.prog 125 #[.pointer (some ⟨b, 0, none⟩)] w fun e w' => CodeR w w' st.fin e ∧ Below w.heap.size w w' := by
 obtain ⟨vc, vl, vm, hB⟩ := hB
 have hsz : st.code.length ≤ 4000 := by unfold BS.sz at hs; omega
 have hlz : st.links.length ≤ 4000 := by unfold BS.sz at hs; omega
 obtain ⟨Vc, cc, rfl, hR, hnil⟩ := own_insr hB.code; obtain ⟨pl, cl, rfl⟩ := row_form2 hB.links; obtain ⟨fin, hfin⟩ : ∃ f, Hid (f = st.fin) := ⟨_, rfl⟩; rw [← hfin.out]; have y0 := cell_of_row w b 0 _ 202 _ hB.blk; go_enter Tryz.func125, Tryz.ntmps125; go_wp2_with fail; refine (cloneI Vc st.code cc (by omega) hnil w hR).mono ?_; rintro e w1 ⟨⟨vo, rfl, hO, hof⟩, hb1⟩; clear y0; have hB1 := hB.below hb1; have y2 := cell_of_row w1 b 2 _ 202 _ hB1.blk; obtain ⟨Vo, co, rfl, hRo, hno⟩ := own_insr hO; go_upto_region 3 with (fail); clear y2 hRo hR; obtain ⟨n, hn⟩ : ∃ n, n = st.links.length := ⟨_, rfl⟩; go_loopw [19] (fun v wr => ∃ (i : Nat) (o : List Ins), v = .int .i64 i ∧ i ≤ st.links.length ∧ (st.links.take i).foldl (linkStep st.places) (some st.code) = some o ∧ o.length = st.code.length ∧ OwnI wr (.slice Vo st.code.length co) o ∧ Below w.heap.size w wr) (fun v _ => st.links.length - (intOf v).toNat)
 case atStart => exact ⟨0, st.code, rfl, Nat.zero_le _, rfl, rfl, hO, hb1⟩
 case round =>
  clear hO hb1 hB1; obtain ⟨i, o, rfl, hi, hfo, hol, hO, hal⟩ := hrel; have hBr := hB.below hal
  by_cases hlt : i < st.links.length
  case neg =>
   obtain rfl : i = st.links.length := by omega
   have hl1 : ¬ ((st.links.length : Int) < st.links.length) := by omega
   rw [List.take_length] at hfo; have y3 := cell_of_row wr b 3 _ 202 _ hBr.blk
   have hf : fin = if st.bad = true then ([], false) else (o, true) := by rw [hfin.out]; unfold BS.fin; rw [hfo]
   clear hfin hfo
   cases hbad : st.bad
   ·rw [hbad] at hf y3
    obtain rfl : fin = (o, true) := hf; go_wp2; go_ret2; exact ⟨⟨_, rfl, hO, hof⟩, hal⟩
   ·rw [hbad] at hf y3
    obtain rfl : fin = ([], false) := hf; go_wp2; go_ret2; exact ⟨CodeR.no, hal⟩
  have hl0 : (0 : Int) ≤ i := by omega
  have hl1 : (i : Int) < st.links.length := by omega
  obtain ⟨x, hx⟩ : ∃ x, st.links[i]? = some x := ⟨st.links[i], List.getElem?_eq_getElem hlt⟩; have hxm : x ∈ st.links := List.mem_of_getElem? hx; obtain ⟨ha0, ha1⟩ := hwf x hxm; have hxn := hnm x hxm
  have hstep : (st.links.take (i + 1)).foldl (linkStep st.places) (some st.code) = linkStep st.places (some o) x := by
   rw [List.take_add_one, hx, List.foldl_append, hfo]; rfl
  have hlook := fun w' (h : Below w.heap.size w w') => lookP (hB.below h).places hxn; obtain ⟨at', nm⟩ := x; simp only at ha0 ha1 hxn hlook; obtain ⟨j, rfl⟩ : ∃ j : Nat, at' = j := ⟨at'.toNat, by omega⟩
  have hj : j < o.length := by omega
  obtain ⟨z, hz⟩ : ∃ z, o[j]? = some z := ⟨o[j], List.getElem?_eq_getElem hj⟩; have hOk := hBr.links
  obtain ⟨gl, rfl⟩ : ∃ gl, pl = some ⟨gl, 0, none⟩ := by
   rcases hOk.2 with ⟨h', h0⟩ | ⟨g', cap, cur, h', _⟩
   ·omega
   ·simp only [Value.slice.injEq] at h'; exact ⟨g', h'.1⟩
  obtain ⟨g, rfl⟩ : ∃ g, Vo = some ⟨g, 0, none⟩ := by
   rcases hO.2 with ⟨h', h0⟩ | ⟨g', cap, cur, h', _⟩
   ·omega
   ·simp only [Value.slice.injEq] at h'; exact ⟨g', h'.1⟩
  have hgw : w.heap.size ≤ g := hof g rfl; go_upto_region 4 with (fail); refine wp_region_lit ?_; refine wl_val rfl (.pointer (some ⟨gl, i * 2, none⟩)) ?_ ?_
  ·go_simp
  refine Zk ?_; refine wl_val rfl (.agg #[.int .i64 j, .string nm]) (run_ldlnk (v := .slice none 0 0) (.tmp 21) rfl hOk hx rfl) ?_; refine Zk ?_; refine wl_alloc rfl 243 rfl (.agg #[.int .i64 0, .string ⟨#[]⟩]) #[.int .i64 0, .string ⟨#[]⟩] (fun w => by kernel_rfl) rfl (fun w4 b6 X6 l6 f6 => ?_); refine Zk ?_; refine wl_store rfl 243 (.tmp 6) (.tmp 22) rfl b6 #[.int .i64 j, .string nm] rfl rfl 243 _ X6 (by kernel_rfl) rfl (by simp [Value.oneCell']) (fun w5 g1 g2 g3 g4 => ?_); refine Zk ?_; have hb5 : Below wr.heap.size wr w5 := l6.trans (g3 _ (by simp only [Hid] at f6; omega)); clear X6 l6 f6 g2 g3 g4; have X6 := g1; clear g1 hOk; replace hal := hal.trans (hb5.mono hal.size); replace hO := row_keep hO (fun k e => hb5.block k (by obtain ⟨_, h1⟩ := row_blk hO e; exact blk_lt h1)); replace hBr := hB.below hal; clear hb5; obtain ⟨hs', hhs⟩ : ∃ q, Hid (q = Maps.has st.places (nmL nm)) := ⟨_, rfl⟩; obtain ⟨pv, hpv⟩ : ∃ q, Hid (q = plVal (st.places.atKey (nmL nm) (.lit (.int .i64 0)))) := ⟨_, rfl⟩; rw [← hhs.out, ← hpv.out] at hlook; go_upto_region 5 with (fail); refine ZA w5 ?_
  iterate 3 refine Zz ?_
  refine Zy _ (fun w' h' => by have c := cell_of_row w' b 1 _ 202 _ (keep hBr.blk h'); go_simp; try with_reducible rfl) ?_; refine Zz ?_; refine Zy _ (fun w' h' => by have c := cell_of_row w' b6 1 _ 243 _ (keep X6 h'); go_simp; try with_reducible rfl) ?_; refine Zy _ (fun w' h' => by have hl := hlook w' (hal.trans (h'.mono hal.size)); go_simp; try with_reducible rfl) ?_
  iterate 5 refine Zz ?_
  refine qd_nil ?_; intro w6 h6; replace hal := hal.trans (h6.mono hal.size); replace hO := row_keep hO (fun k e => h6.block k (by obtain ⟨_, h1⟩ := row_blk hO e; exact blk_lt h1)); replace X6 := keep X6 h6; replace hBr := hB.below hal; clear h6 hlook; have y60 := cell_of_row w6 b6 0 _ 243 _ X6; have e1 : (j : Int) = j := rfl
  cases hs'
  ·have hfin' : fin = ([], false) := by
    rw [hfin.out]; unfold BS.fin; have hd : st.links = st.links.take (i + 1) ++ st.links.drop (i + 1) := (List.take_append_drop _ _).symm; rw [hd, List.foldl_append, hstep, show linkStep st.places (some o) ⟨j, nm⟩ = none from if_neg (by rw [← hhs.out]; exact Bool.false_ne_true), link_none]
   obtain rfl := hfin'; clear hfin hstep hfo hhs hpv; go_wp2; go_ret2; exact ⟨CodeR.no, hal⟩
  have hco := hO
  have cO : w6.cell? ⟨g, j * 5, none⟩ = some (.int .i64 z.op) := by
   obtain ⟨V, c, e, h1, _⟩ := own_insr hO; obtain ⟨b', off', e2, _, h2⟩ := h1 (by omega); simp only [Value.slice.injEq] at e; rw [← e.1] at e2; cases e2; have := h2 (j * 5 + 0) (.int .i64 z.op) ((ins_cell hz (by omega)).trans rfl)
   simpa using this
  have hjl : j < st.code.length := by omega
  have hj0 : (0 : Int) ≤ j := by omega
  have hj1 : (j : Int) < st.code.length := by omega
  have hju := fun w' (h : Below w.heap.size w w') => jumpsC z.op w' (hI.below h); obtain ⟨jb, hjb⟩ : ∃ q, Hid (q = jumpB z.op) := ⟨_, rfl⟩; rw [← hjb.out] at hju; go_wp2_with fail; refine (hju w6 hal).mono ?_; rintro e w7 ⟨rfl, rfl⟩; clear hju
  have hop : opAt o j = z.op := by unfold opAt; rw [hz]
  cases jb
  ·have hfin' : fin = ([], false) := by
    rw [hfin.out]; unfold BS.fin; have hd : st.links = st.links.take (i + 1) ++ st.links.drop (i + 1) := (List.take_append_drop _ _).symm
    rw [hd, List.foldl_append, hstep, show linkStep st.places (some o) ⟨j, nm⟩ = none from by
     unfold linkStep; simp only [Int.toNat_natCast]
     rw [if_pos hhs.out.symm, if_neg (by rw [hop, ← hjb.out]; exact Bool.false_ne_true)], link_none]
   obtain rfl := hfin'; clear hfin hstep hfo hhs hpv hjb hop cO hco; go_wp2; go_ret2; exact ⟨CodeR.no, hal⟩
  have hnext : (st.links.take (i + 1)).foldl (linkStep st.places) (some st.code) = some (o.set j { z with k := pv % 4294967296 }) := by
   rw [hstep]; unfold linkStep; simp only [Int.toNat_natCast]; rw [if_pos hhs.out.symm, if_pos (by rw [hop, ← hjb.out]), ← hpv.out]; unfold setK; rw [hz]
  obtain ⟨cur, hcur⟩ := row_blk hO rfl
  have hcs : j * 5 + 4 < cur.size := by
   rcases hO.2 with ⟨h', _⟩ | ⟨g', cap, cur', h', _, h4, h5, _, h7, _⟩
   ·simp at h'
   ·simp only [Value.slice.injEq, Option.some.injEq, Addr.mk.injEq, and_true, true_and] at h'
    obtain ⟨rfl, e2, rfl⟩ := h'; rw [hcur] at h4; simp only [Option.some.injEq, Obj.cells.injEq] at h4; obtain ⟨rfl, -⟩ := h4; omega
  clear hstep hfo hhs hpv hjb hop cO hco; go_upto_region 8 with (fail); refine wp_region_lit ?_
  iterate 4 refine Zv ?_
  refine wl_val rfl (.int .u32 (pv % 4294967296)) ?_ ?_
  ·first | (go_simp; done) | (go_simp; simp only [IntKind.wrap_u32])
  refine Zk ?_; refine wl_val rfl (.pointer (some ⟨g, j * 5, none⟩)) ?_ ?_
  ·go_simp
  refine Zk ?_; refine wl_val rfl (.pointer (some ⟨g, j * 5 + 4, none⟩)) ?_ ?_
  ·go_simp
  refine Zk ?_; refine wl_stv rfl 33 (fun w => by kernel_rfl) (.tmp 51) (.tmp 49) rfl g (j * 5 + 4) (.int .u32 (pv % 4294967296)) rfl st_u32 cur 114 rfl rfl hcur hcs (fun w8 p1 p2 p3 => ?_); refine Zk ?_; have hO8 := row_set hO hcur hz p1; replace hal := hal.trans (p3 _ hgw)
  have hol' : (o.set j { z with k := pv % 4294967296 }).length = st.code.length := by rw [List.length_set]; exact hol
  clear p1 p2 p3 hcur hcs hO; go_wp2; go_roundw
  case rel => exact ⟨i + 1, _, by go_num, by omega, hnext, hol', hO8, hal⟩
  case measure => simp [intOf]; omega
end Go.Proofs.YtbcgngfbbbfebaaGreatDoor
namespace Go.Proofs.YtbcgngfbbbfebaaGreatDoor
open Go.RowKit Go.Maps
set_option maxRecDepth 100000
set_option maxHeartbeats 32000000
set_option linter.unusedVariables false
set_option linter.unusedSimpArgs false
def BS.Ok (st : BS) : Prop := st.Wf ∧ ∀ l ∈ st.links, l.name.size ≤ maxLen
theorem ok_zero : BS.zero.Ok := ⟨wf_zero, fun l h => by cases h⟩
theorem ok_emit {st : BS} (x : Ins) (h : st.Ok) : (st.emit x).Ok := ⟨wf_emit x h.1, h.2⟩
theorem ok_set {st : BS} (a k : Int) (h : st.Ok) : (st.set a k).Ok := ok_emit _ h
theorem ok_alu {st : BS} (op a x y : Int) (h : st.Ok) : (st.alu op a x y).Ok := ok_emit _ h
theorem ok_ask {st : BS} (op a addr : Int) (h : st.Ok) : (st.ask op a addr).Ok := ok_emit _ h
theorem ok_cas {st : BS} (a c addr : Int) (h : st.Ok) : (st.cas a c addr).Ok := ok_emit _ h
theorem ok_go {st : BS} (op a : Int) {name : ByteArray} (hn : name.size ≤ maxLen) (h : st.Ok) : (st.go op a name).Ok := ⟨wf_go op a name h.1, fun l hl => by
 rcases List.mem_append.1 (show l ∈ st.links ++ [⟨st.code.length, name⟩] from hl) with h1 | h1
 ·exact h.2 l h1
 ·have : l = ⟨st.code.length, name⟩ := by simpa using h1
  subst this; exact hn⟩
theorem ok_place {st : BS} (name : ByteArray) (h : st.Ok) : (st.place name).Ok := ⟨wf_place name h.1, fun l hl => h.2 l (by
 have e : (st.place name).links = st.links := by unfold BS.place; split <;> rfl
 rw [e] at hl; exact hl)⟩
theorem ok_zeroS {st : BS} {addr : Int} (h : st.Ok) : (zeroS st addr).Ok := (ok_ask _ _ _ (ok_set _ _ h))
theorem ok_mineS {st : BS} {own t : Int} (h : st.Ok) : (mineS st own t).Ok := (ok_alu _ _ _ _ (ok_set _ _ (ok_ask _ _ _ h)))
theorem ok_claimS {st : BS} {own t : Int} (h : st.Ok) : (claimS st own t).Ok := (ok_place _ (ok_go _ _ (by decide) (ok_set _ _ (ok_go _ _ (by decide) (ok_mineS h)))))
theorem ok_proveS {st : BS} {own t : Int} (h : st.Ok) : (proveS st own t).Ok := (ok_place _ (ok_go _ _ (by decide) (ok_set _ _ (ok_go _ _ (by decide) (ok_mineS h)))))
theorem ok_closeS {st : BS} (h : st.Ok) : (closeS st ).Ok := (ok_place _ (ok_set _ _ h))
theorem ok_tasS {st : BS} {base : Int} (h : st.Ok) : (tasS st base).Ok := (ok_go _ _ (by decide) (ok_cas _ _ _ (ok_set _ _ (ok_place _ h))))
theorem ok_ttasS {st : BS} {base : Int} (h : st.Ok) : (ttasS st base).Ok := (ok_go _ _ (by decide) (ok_cas _ _ _ (ok_go _ _ (by decide) (ok_ask _ _ _ (ok_place _ h)))))
theorem ok_ticketS {st : BS} {base : Int} (h : st.Ok) : (ticketS st base).Ok := (ok_ask _ _ _ (ok_go _ _ (by decide) (ok_alu _ _ _ _ (ok_ask _ _ _ (ok_place _ (ok_ask _ _ _ (ok_set _ _ h)))))))
theorem ok_passS {st : BS} {base : Int} (h : st.Ok) : (passS st base).Ok := (ok_ask _ _ _ (ok_alu _ _ _ _ (ok_set _ _ (ok_ask _ _ _ (ok_zeroS h)))))
theorem ok_takeS {st : BS} {base : Int} (h : st.Ok) : (takeS st base).Ok := (ok_go _ _ (by decide) (ok_cas _ _ _ (ok_set _ _ (ok_place _ h))))
theorem ok_biasedS {st : BS} {base : Int} (h : st.Ok) : (biasedS st base).Ok := (ok_ask _ _ _ (ok_place _ (ok_takeS (ok_zeroS (ok_go _ _ (by decide) (ok_ask _ _ _ (ok_ask _ _ _ (ok_set _ _ h))))))))
theorem ok_otherS {st : BS} {base : Int} (h : st.Ok) : (otherS st base).Ok := (ok_ask _ _ _ (ok_place _ (ok_go _ _ (by decide) (ok_ask _ _ _ (ok_place _ (ok_emit _ (ok_ask _ _ _ (ok_set _ _ (ok_go _ _ (by decide) (ok_ask _ _ _ (ok_takeS h)))))))))))
theorem ok_leaveS {st : BS} {base : Int} (h : st.Ok) : (leaveS st base).Ok := (ok_place _ (ok_zeroS (ok_place _ (ok_go _ _ (by decide) (ok_zeroS (ok_go _ _ (by decide) (ok_alu _ _ _ _ (ok_ask _ _ _ (ok_zeroS h)))))))))
theorem ok_smoreS {st : BS} {base : Int} (h : st.Ok) : (smoreS st base).Ok := (ok_ask _ _ _ (ok_set _ _ h))
theorem ok_beginS {st : BS} {base : Int} (h : st.Ok) : (beginS st base).Ok := (ok_smoreS (ok_go _ _ (by decide) (ok_cas _ _ _ (ok_set _ _ (ok_place _ h)))))
theorem ok_mwakeS {st : BS} {addr : Int} (h : st.Ok) : (mwakeS st addr).Ok := (ok_ask _ _ _ (ok_set _ _ h))
theorem ok_changeS {st : BS} {op base : Int} (h : st.Ok) : (changeS st op base).Ok := (ok_go _ _ (by decide) (ok_alu _ _ _ _ (ok_cas _ _ _ (ok_emit _ (ok_alu _ _ _ _ (ok_set _ _ h))))))
theorem ok_downS {st : BS} {base : Int} (h : st.Ok) : (downS st base).Ok := (ok_closeS (ok_changeS (ok_place _ (ok_go _ _ (by decide) (ok_ask _ _ _ (ok_set _ _ (ok_go _ _ (by decide) (ok_ask _ _ _ (ok_place _ h)))))))))
theorem ok_upS {st : BS} {base most : Int} (h : st.Ok) : (upS st base most).Ok := (ok_place _ (ok_set _ _ (ok_place _ (ok_go _ _ (by decide) (ok_set _ _ (ok_mwakeS (ok_changeS (ok_go _ _ (by decide) (ok_alu _ _ _ _ (ok_set _ _ (ok_ask _ _ _ (ok_place _ h))))))))))))
theorem ok_minS {st : BS} {base : Int} (h : st.Ok) : (minS st base).Ok := (ok_ask _ _ _ (ok_place _ (ok_go _ _ (by decide) (ok_ask _ _ _ (ok_set _ _ (ok_go _ _ (by decide) (ok_ask _ _ _ (ok_set _ _ (ok_place _ (ok_go _ _ (by decide) (ok_cas _ _ _ (ok_set _ _ (ok_set _ _ h)))))))))))))
theorem ok_moutS {st : BS} {base : Int} (h : st.Ok) : (moutS st base).Ok := (ok_place _ (ok_mwakeS (ok_go _ _ (by decide) (ok_alu _ _ _ _ (ok_set _ _ (ok_ask _ _ _ (ok_set _ _ (ok_zeroS h))))))))
theorem ok_gmoreS {st : BS} {addr : Int} (h : st.Ok) : (gmoreS st addr).Ok := (ok_ask _ _ _ (ok_set _ _ h))
theorem ok_gwakeS {st : BS} {n addr : Int} (h : st.Ok) : (gwakeS st n addr).Ok := (ok_ask _ _ _ (ok_set _ _ h))
theorem ok_farS {st : BS} {op a x k : Int} (h : st.Ok) : (farS st op a x k).Ok := (ok_emit _ h)
theorem ok_mcsInS {st : BS} {base n t : Int} (h : st.Ok) : (mcsInS st base n t).Ok := (ok_ask _ _ _ (ok_place _ (ok_go _ _ (by decide) (ok_ask _ _ _ (ok_place _ (ok_farS (ok_go _ _ (by decide) (ok_ask _ _ _ (ok_set _ _ (ok_ask _ _ _ (ok_set _ _ (ok_zeroS h))))))))))))
theorem ok_mcsOutS {st : BS} {base n t : Int} (h : st.Ok) : (mcsOutS st base n t).Ok := (ok_place _ (ok_farS (ok_set _ _ (ok_place _ (ok_go _ _ (by decide) (ok_ask _ _ _ (ok_place _ (ok_go _ _ (by decide) (ok_alu _ _ _ _ (ok_cas _ _ _ (ok_set _ _ (ok_emit _ (ok_go _ _ (by decide) (ok_ask _ _ _ (ok_zeroS h)))))))))))))))
theorem ok_clhInS {st : BS} {base n t : Int} (h : st.Ok) : (clhInS st base n t).Ok := (ok_ask _ _ _ (ok_go _ _ (by decide) (ok_farS (ok_place _ (ok_ask _ _ _ (ok_ask _ _ _ (ok_farS (ok_set _ _ (ok_ask _ _ _ h)))))))))
theorem ok_clhOutS {st : BS} {base n t : Int} (h : st.Ok) : (clhOutS st base n t).Ok := (ok_farS (ok_set _ _ (ok_ask _ _ _ (ok_ask _ _ _ (ok_ask _ _ _ (ok_zeroS h))))))
theorem ok_rclaimS {st : BS} {state mode : Int} (h : st.Ok) : (rclaimS st state mode).Ok := (ok_place _ (ok_place _ (ok_go _ _ (by decide) (ok_set _ _ (ok_go _ _ (by decide) (ok_ask _ _ _ h))))))
theorem ok_rsleepS {st : BS} {state mode : Int} (h : st.Ok) : (rsleepS st state mode).Ok := (ok_go _ _ (by decide) (ok_ask _ _ _ h))
theorem ok_rhasS {st : BS} {state mode md : Int} (h : st.Ok) : (rhasS st state mode md).Ok := (ok_ask _ _ _ (ok_set _ _ h))
theorem ok_rreadS {st : BS} {state mode : Int} (h : st.Ok) : (rreadS st state mode).Ok := (ok_place _ (ok_rsleepS (ok_place _ (ok_go _ _ (by decide) (ok_set _ _ (ok_rhasS (ok_go _ _ (by decide) (ok_alu _ _ _ _ (ok_cas _ _ _ (ok_emit _ (ok_alu _ _ _ _ (ok_set _ _ (ok_go _ _ (by decide) (ok_alu _ _ _ _ (ok_set _ _ (ok_ask _ _ _ (ok_rclaimS h)))))))))))))))))
theorem ok_rwriteS {st : BS} {state mode : Int} (h : st.Ok) : (rwriteS st state mode).Ok := (ok_closeS (ok_rhasS (ok_place _ (ok_rsleepS (ok_go _ _ (by decide) (ok_cas _ _ _ (ok_set _ _ (ok_set _ _ (ok_rclaimS h)))))))))
theorem ok_rrelS {st : BS} {state mode : Int} (h : st.Ok) : (rrelS st state mode).Ok := (ok_closeS (ok_place _ (ok_ask _ _ _ (ok_set _ _ (ok_place _ (ok_go _ _ (by decide) (ok_alu _ _ _ _ (ok_set _ _ (ok_ask _ _ _ (ok_set _ _ (ok_place _ (ok_go _ _ (by decide) (ok_ask _ _ _ (ok_set _ _ (ok_go _ _ (by decide) (ok_rhasS (ok_alu _ _ _ _ (ok_set _ _ (ok_place _ (ok_go _ _ (by decide) (ok_set _ _ (ok_go _ _ (by decide) (ok_ask _ _ _ h)))))))))))))))))))))))
theorem ok_pinS {st : BS} {own their turn owner other : Int} (h : st.Ok) : (pinS st own their turn owner other).Ok := (ok_ask _ _ _ (ok_place _ (ok_go _ _ (by decide) (ok_alu _ _ _ _ (ok_set _ _ (ok_ask _ _ _ (ok_go _ _ (by decide) (ok_ask _ _ _ (ok_place _ (ok_emit _ (ok_ask _ _ _ (ok_set _ _ (ok_ask _ _ _ (ok_set _ _ h))))))))))))))
theorem ok_finS {st : BS} {own their turn owner other : Int} (h : st.Ok) : (finS st own their turn owner other).Ok := (ok_ask _ _ _ (ok_place _ (ok_go _ _ (by decide) (ok_go _ _ (by decide) (ok_ask _ _ _ (ok_place _ (ok_zeroS (ok_go _ _ (by decide) (ok_ask _ _ _ (ok_ask _ _ _ (ok_set _ _ (ok_place _ h))))))))))))
theorem ok_sinS {st : BS} {own their turn owner other : Int} (h : st.Ok) : (sinS st own their turn owner other).Ok := (ok_ask _ _ _ (ok_go _ _ (by decide) (ok_ask _ _ _ (ok_place _ (ok_emit _ (ok_ask _ _ _ (ok_set _ _ h)))))))
theorem ok_doutS {st : BS} {own their turn owner other : Int} (h : st.Ok) : (doutS st own their turn owner other).Ok := (ok_zeroS (ok_zeroS h))
theorem ok_meetS {st : BS} {n base : Int} (h : st.Ok) : (meetS st n base).Ok := (ok_closeS (ok_place _ (ok_go _ _ (by decide) (ok_ask _ _ _ (ok_emit _ (ok_go _ _ (by decide) (ok_alu _ _ _ _ (ok_ask _ _ _ (ok_place _ (ok_go _ _ (by decide) (ok_gwakeS (ok_gmoreS (ok_zeroS (ok_go _ _ (by decide) (ok_alu _ _ _ _ (ok_set _ _ (ok_gmoreS (ok_ask _ _ _ h))))))))))))))))))
theorem ok_enterS {st : BS} {t base : Int} (h : st.Ok) : (enterS st t base).Ok := (ok_closeS (ok_place _ (ok_go _ _ (by decide) (ok_set _ _ (ok_ask _ _ _ (ok_place _ (ok_go _ _ (by decide) (ok_ask _ _ _ (ok_go _ _ (by decide) (ok_alu _ _ _ _ (ok_set _ _ (ok_go _ _ (by decide) (ok_cas _ _ _ (ok_set _ _ (ok_set _ _ (ok_go _ _ (by decide) (ok_alu _ _ _ _ (ok_set _ _ (ok_ask _ _ _ (ok_place _ (ok_claimS h)))))))))))))))))))))
theorem ok_gdoneS {st : BS} {t base : Int} (h : st.Ok) : (gdoneS st t base).Ok := (ok_closeS (ok_gwakeS (ok_ask _ _ _ (ok_set _ _ (ok_zeroS (ok_proveS h))))))
theorem ok_cond5S {st : BS} {t base : Int} (h : st.Ok) : (cond5S st t base).Ok := (ok_closeS (ok_ask _ _ _ (ok_ask _ _ _ h)))
theorem ok_cond6S {st : BS} {t base : Int} (h : st.Ok) : (cond6S st t base).Ok := (ok_closeS (ok_ask _ _ _ (ok_ask _ _ _ h)))
theorem ok_cond7S {st : BS} {t base : Int} (h : st.Ok) : (cond7S st t base).Ok := (ok_closeS (ok_gwakeS (ok_gmoreS h)))
theorem ok_cond8S {st : BS} {t base : Int} (h : st.Ok) : (cond8S st t base).Ok := (ok_closeS (ok_gwakeS (ok_gmoreS h)))
theorem zero_mem {w : World} {b : Nat} (h : w.heap[b]? = some (.cells #[.slice none 0 0, .map none, .slice none 0 0, .bool false] 202 (0, 0))) : BMem w b (fun k => k = b) BS.zero :=
 ⟨_, _, _, h, World.ownsRow_nil _ _ _ _, World.ownsRow_nil _ _ _ _, .inl ⟨rfl, rfl⟩, fun k => ⟨fun e => .inl e, fun e => by
  rcases e with e | e | e | e
  ·exact e
  ·cases e
  ·cases e
  ·cases e⟩⟩
end Go.Proofs.YtbcgngfbbbfebaaGreatDoor
namespace Go.Proofs.YtbcgngfbbbfebaaGreatDoor
open Go.RowKit Go.Maps
set_option maxRecDepth 100000
set_option maxHeartbeats 32000000
set_option linter.unusedVariables false
set_option linter.unusedSimpArgs false
attribute [local simp] sz_alu sz_ask sz_beginS sz_biasedS sz_cas sz_changeS sz_claimS sz_clhInS sz_clhOutS sz_closeS sz_cond5S sz_cond6S sz_cond7S sz_cond8S sz_doutS sz_downS sz_emit sz_enterS sz_farS sz_finS sz_gdoneS sz_gmoreS sz_go sz_gwakeS sz_leaveS sz_mcsInS sz_mcsOutS sz_meetS sz_minS sz_mineS sz_moutS sz_mwakeS sz_otherS sz_passS sz_pinS sz_place sz_proveS sz_rclaimS sz_rhasS sz_rreadS sz_rrelS sz_rsleepS sz_rwriteS sz_set sz_sinS sz_smoreS sz_takeS sz_tasS sz_ticketS sz_ttasS sz_upS sz_zeroS
theorem mayS_t' {o : O} {c t u : Int} (h : mayS o c t u = true) : may o.k c = true ∧ (o.k = 11 → 0 ≤ o.a ∧ o.a ≤ 1000) := by
 unfold mayS at h
 split at h
 ·rename_i hh
  refine ⟨h, fun hk => ?_⟩; have := of_decide_eq_true hh.2.2; unfold RP at this; omega
 ·cases h
@[simp] theorem sz_zero : BS.zero.sz = 0 := rfl
def mutexF (o : O) (call th t base : Int) : List Ins × Bool :=
 if o.k = 10 then (if mayS o call th t = true then (if call = 1 then (closeS (minS (claimS BS.zero ((base + 1) % 4294967296) t) base)).fin else (closeS (moutS (proveS BS.zero ((base + 1) % 4294967296) t) base)).fin) else ([], false))
 else if o.k = 11 then (if mayS o call th t = true then (if call = 1 then (downS BS.zero base).fin else (upS BS.zero base o.a).fin) else ([], false))
 else ([], false)
theorem mutexF_n {o : O} {call th t base : Int} (h : o.k ≠ 10 ∧ o.k ≠ 11) : mutexF o call th t base = ([], false) := by unfold mutexF; rw [if_neg h.1, if_neg h.2]
theorem mutexF_f {o : O} {call th t base : Int} (h : mayS o call th t = false) : mutexF o call th t base = ([], false) := by
 unfold mutexF; rw [h, if_neg Bool.false_ne_true]; split
 ·rfl
 ·split <;> rfl
theorem mutexF_101 {o : O} {call th t base : Int} (k : o.k = 10) (h : mayS o call th t = true) (c : call = 1) : mutexF o call th t base = (closeS (minS (claimS BS.zero ((base + 1) % 4294967296) t) base)).fin := by unfold mutexF; rw [if_pos k, if_pos h, if_pos c]
theorem mutexF_102 {o : O} {call th t base : Int} (k : o.k = 10) (h : mayS o call th t = true) (c : call ≠ 1) : mutexF o call th t base = (closeS (moutS (proveS BS.zero ((base + 1) % 4294967296) t) base)).fin := by unfold mutexF; rw [if_pos k, if_pos h, if_neg c]
theorem mutexF_111 {o : O} {call th t base : Int} (k : o.k = 11) (h : mayS o call th t = true) (c : call = 1) : mutexF o call th t base = (downS BS.zero base).fin := by unfold mutexF; rw [if_neg (by omega), if_pos k, if_pos h, if_pos c]
theorem mutexF_112 {o : O} {call th t base : Int} (k : o.k = 11) (h : mayS o call th t = true) (c : call ≠ 1) : mutexF o call th t base = (upS BS.zero base o.a).fin := by unfold mutexF; rw [if_neg (by omega), if_pos k, if_pos h, if_neg c]
theorem mutexCode (o : O) (call th t base arg : Int) (w : World) (hN : NmW w) (hI : IsaW w) : Calls Tryz.prog 91 #[ov o, .int .i64 call, .int .i64 th, .int .i64 t, .int .u32 base, .int .u32 arg] w fun e w' => CodeR w w' (mutexF o call th t base) e ∧ Below w.heap.size w w' := by
 obtain ⟨R, hR⟩ : ∃ R, Hid (R = mutexF o call th t base) := ⟨_, rfl⟩; rw [← hR.out]; have hM := fun w' (hb : Below w.heap.size w w') => spinMay o call th t w' (hN.below hb); have hRP := fun h => (mayS_t' (o := o) (c := call) (t := th) (u := t) h); obtain ⟨mb, hmb⟩ : ∃ q, Hid (q = mayS o call th t) := ⟨_, rfl⟩; rw [← hmb.out] at hM hRP; obtain ⟨ok, on, oa, ob⟩ := o; unfold ov at hM ⊢; simp only at hRP; go_enter Tryz.func91, Tryz.ntmps91; go_upto_region 1 with (fail); obtain ⟨W, kB, e0, e1, XK, hal0⟩ := box1 w #[.int .i64 ok, .int .i64 on, .int .i64 oa, .int .i64 ob] 38; rw [e0, e1]; have hkw : w.heap.size ≤ kB := Nat.le_of_eq e1; clear e0 e1; obtain ⟨y0, y1, y2, y3⟩ := cl4 XK
 by_cases k10 : ok = 10
 ·subst k10
  go_wp2_with fail; refine (hM W hal0).mono ?_; rintro e w1 ⟨rfl, hb1⟩; clear y0 y1 y2 y3 hM; replace XK := keep XK hb1; replace hal0 := hal0.trans (hb1.mono hal0.size); clear hb1; obtain ⟨y0, y1, y2, y3⟩ := cl4 XK; cases mb
  ·obtain rfl : R = ([], false) := hR.out.trans (mutexF_f hmb.out.symm)
   clear hR hmb; go_wp2; go_ret2; exact ⟨CodeR.no, hal0⟩
  go_upto_region 7 with (fail); obtain ⟨w2, bb, e0, e1, XB, hb2⟩ := box1 w1 #[.slice none 0 0, .map none, .slice none 0 0, .bool false] 202; rw [e0, e1]; have hbb' : w1.heap.size = bb := e1; clear e0 e1 y0 y1 y2 y3
  have hbb : w.heap.size ≤ bb := by have := hal0.size; omega
  have hF : ¬ (kB = bb) := by have := blk_lt XK; omega
  replace XK := keep XK hb2; have hB := zero_mem XB; have hU : Upd (fun k => k = bb) (fun k => k = bb) w2 w2 := Upd.refl _ _; replace hal0 := hal0.trans (hb2.mono hal0.size); have hws : w.heap.size ≤ w2.heap.size := hal0.size; have hkl : kB < w2.heap.size := blk_lt XK; clear hb2 XB hbb'; obtain ⟨y0, y1, y2, y3⟩ := cl4 XK
  by_cases c1 : call = 1
  ·subst c1
   replace hR : Hid (R = (closeS (minS (claimS BS.zero ((base + 1) % 4294967296) t) base)).fin) := hR.out.trans (mutexF_101 rfl hmb.out.symm rfl); clear hmb; go_wp2_with fail
   refine (Z1 XK hF hkl hU (claimC hB (by simp <;> omega))).mono ?_
   clear y0 y1 y2 y3; rintro e wd ⟨rfl, F', hB, XK, hF, hkl, hU⟩; obtain ⟨y0, y1, y2, y3⟩ := cl4 XK; go_wp2_with fail
   refine (Z1 XK hF hkl hU (minC hB (by simp <;> omega))).mono ?_
   clear y0 y1 y2 y3; rintro e wd ⟨rfl, F', hB, XK, hF, hkl, hU⟩; obtain ⟨y0, y1, y2, y3⟩ := cl4 XK; go_wp2_with fail
   refine (Z1 XK hF hkl hU (closeC hB (by simp <;> omega))).mono ?_
   clear y0 y1 y2 y3; rintro e wd ⟨rfl, F', hB, XK, hF, hkl, hU⟩; obtain ⟨y0, y1, y2, y3⟩ := cl4 XK; have hal := hal0.trans (hU.low _ (fun k e => by rw [e]; exact hbb) hws)
   have hcb := codeB hB ((ok_closeS (ok_minS (ok_claimS ok_zero)))).1 (by simp <;> omega) ((ok_closeS (ok_minS (ok_claimS ok_zero)))).2 (hI.below hal)
   rw [← hR.out] at hcb; clear hR; go_wp2_with fail; refine hcb.mono ?_; rintro e w' ⟨⟨v, rfl, hv1, hv2⟩, hb'⟩; go_wp2; go_ret2; exact fin1 hal hv1 hv2 hb'
  ·replace hR : Hid (R = (closeS (moutS (proveS BS.zero ((base + 1) % 4294967296) t) base)).fin) := hR.out.trans (mutexF_102 rfl hmb.out.symm c1)
   clear hmb
   have q1 : (call == 1) = false := by simp [c1]
   clear c1; go_wp2_with fail
   refine (Z1 XK hF hkl hU (proveC hB (by simp <;> omega))).mono ?_
   clear y0 y1 y2 y3; rintro e wd ⟨rfl, F', hB, XK, hF, hkl, hU⟩; obtain ⟨y0, y1, y2, y3⟩ := cl4 XK; go_wp2_with fail
   refine (Z1 XK hF hkl hU (moutC hB (by simp <;> omega))).mono ?_
   clear y0 y1 y2 y3; rintro e wd ⟨rfl, F', hB, XK, hF, hkl, hU⟩; obtain ⟨y0, y1, y2, y3⟩ := cl4 XK; go_wp2_with fail
   refine (Z1 XK hF hkl hU (closeC hB (by simp <;> omega))).mono ?_
   clear y0 y1 y2 y3; rintro e wd ⟨rfl, F', hB, XK, hF, hkl, hU⟩; obtain ⟨y0, y1, y2, y3⟩ := cl4 XK; have hal := hal0.trans (hU.low _ (fun k e => by rw [e]; exact hbb) hws)
   have hcb := codeB hB ((ok_closeS (ok_moutS (ok_proveS ok_zero)))).1 (by simp <;> omega) ((ok_closeS (ok_moutS (ok_proveS ok_zero)))).2 (hI.below hal)
   rw [← hR.out] at hcb; clear hR; go_wp2_with fail; refine hcb.mono ?_; rintro e w' ⟨⟨v, rfl, hv1, hv2⟩, hb'⟩; go_wp2; go_ret2; exact fin1 hal hv1 hv2 hb'
 ·by_cases k11 : ok = 11
  ·subst k11
   go_wp2_with fail; refine (hM W hal0).mono ?_; rintro e w1 ⟨rfl, hb1⟩; clear y0 y1 y2 y3 hM; replace XK := keep XK hb1; replace hal0 := hal0.trans (hb1.mono hal0.size); clear hb1; obtain ⟨y0, y1, y2, y3⟩ := cl4 XK; cases mb
   ·obtain rfl : R = ([], false) := hR.out.trans (mutexF_f hmb.out.symm)
    clear hR hmb; go_wp2; go_ret2; exact ⟨CodeR.no, hal0⟩
   go_upto_region 7 with (fail); obtain ⟨w2, bb, e0, e1, XB, hb2⟩ := box1 w1 #[.slice none 0 0, .map none, .slice none 0 0, .bool false] 202; rw [e0, e1]; have hbb' : w1.heap.size = bb := e1; clear e0 e1 y0 y1 y2 y3
   have hbb : w.heap.size ≤ bb := by have := hal0.size; omega
   have hF : ¬ (kB = bb) := by have := blk_lt XK; omega
   replace XK := keep XK hb2; have hB := zero_mem XB; have hU : Upd (fun k => k = bb) (fun k => k = bb) w2 w2 := Upd.refl _ _; replace hal0 := hal0.trans (hb2.mono hal0.size); have hws : w.heap.size ≤ w2.heap.size := hal0.size; have hkl : kB < w2.heap.size := blk_lt XK; clear hb2 XB hbb'; obtain ⟨y0, y1, y2, y3⟩ := cl4 XK
   by_cases c1 : call = 1
   ·subst c1
    replace hR : Hid (R = (downS BS.zero base).fin) := hR.out.trans (mutexF_111 rfl hmb.out.symm rfl); clear hmb; go_wp2_with fail
    refine (Z1 XK hF hkl hU (downC hB (by simp <;> omega))).mono ?_
    clear y0 y1 y2 y3; rintro e wd ⟨rfl, F', hB, XK, hF, hkl, hU⟩; obtain ⟨y0, y1, y2, y3⟩ := cl4 XK; have hal := hal0.trans (hU.low _ (fun k e => by rw [e]; exact hbb) hws)
    have hcb := codeB hB ((ok_downS ok_zero)).1 (by simp <;> omega) ((ok_downS ok_zero)).2 (hI.below hal)
    rw [← hR.out] at hcb; clear hR; go_wp2_with fail; refine hcb.mono ?_; rintro e w' ⟨⟨v, rfl, hv1, hv2⟩, hb'⟩; go_wp2; go_ret2; exact fin1 hal hv1 hv2 hb'
   ·replace hR : Hid (R = (upS BS.zero base oa).fin) := hR.out.trans (mutexF_112 rfl hmb.out.symm c1)
    clear hmb
    have q1 : (call == 1) = false := by simp [c1]
    have hoa : 0 ≤ oa ∧ oa ≤ 1000 := by simpa using (hRP (by first | rfl | trivial)).2
    obtain ⟨a0, a1⟩ := hoa; clear c1 hRP; go_wp2_with fail
    refine (Z1 XK hF hkl hU (upC hB (by simp <;> omega))).mono ?_
    clear y0 y1 y2 y3; rintro e wd ⟨rfl, F', hB, XK, hF, hkl, hU⟩; obtain ⟨y0, y1, y2, y3⟩ := cl4 XK; have hal := hal0.trans (hU.low _ (fun k e => by rw [e]; exact hbb) hws)
    have hcb := codeB hB ((ok_upS ok_zero)).1 (by simp <;> omega) ((ok_upS ok_zero)).2 (hI.below hal)
    rw [← hR.out] at hcb; clear hR; go_wp2_with fail; refine hcb.mono ?_; rintro e w' ⟨⟨v, rfl, hv1, hv2⟩, hb'⟩; go_wp2; go_ret2; exact fin1 hal hv1 hv2 hb'
  ·have q10 : (ok != 10) = true := by simp [k10]
   have q11 : (ok != 11) = true := by simp [k11]
   obtain rfl : R = ([], false) := hR.out.trans (mutexF_n ⟨k10, k11⟩); clear hR hmb k10 k11; go_wp2; go_ret2; exact ⟨CodeR.no, hal0⟩
end Go.Proofs.YtbcgngfbbbfebaaGreatDoor
