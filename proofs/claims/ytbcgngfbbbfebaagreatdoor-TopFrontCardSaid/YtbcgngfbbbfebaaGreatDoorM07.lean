/- Slices of instructions: read, cloned. Rows made anew; the rows of this program. Small functions of obj: the interval, the names; the table of names in memory. -/
import Derived.Test.YtbcgngfbbbfebaaGreatDoorM06
import Derived.Test.YtbcgngfbbbfebaaGreatDoorM03
import Derived.Test.YtbcgngfbbbfebaaGreatDoorM04
import Derived.Laws.OwnMore
import Derived.Test.YtbcgngfbbbfebaaGreatDoorChecked
import Derived.Test.YtbcgngfbbbfebaaGreatDoorM00
import Derived.StillTactics
import Derived.DeepKeys
import Derived.Deep.DeepCutAuto
namespace Go.Proofs.YtbcgngfbbbfebaaGreatDoor
open Go.RowKit Go.Maps
set_option maxRecDepth 100000
set_option maxHeartbeats 32000000
set_option linter.unusedVariables false
set_option linter.unusedSimpArgs false
def InsR (w : World) (V : Option Addr) (L : List Ins) : Prop := 0 < L.length → ∃ b off, V = some ⟨b, off, none⟩ ∧ b < w.heap.size ∧ ∀ j u, (L.flatMap insL)[j]? = some u → w.cell? ⟨b, off + j, none⟩ = some u
theorem InsR.below {w w' : World} {V : Option Addr} {L : List Ins} (h : InsR w V L) (hb : Below w.heap.size w w') : InsR w' V L := fun hn => by
 obtain ⟨b, off, e, hlt, hc⟩ := h hn; exact ⟨b, off, e, Nat.lt_of_lt_of_le hlt hb.size, fun j u hu => (hb.cell (p := ⟨b, off + j, none⟩) hlt).trans (hc j u hu)⟩
theorem own_insr {w : World} {v : Value} {L : List Ins} (h : OwnI w v L) : ∃ V c, v = .slice V L.length c ∧ InsR w V L ∧ (V = none → L.length = 0) := by
 rcases h.2 with ⟨rfl, h0⟩ | ⟨g, cap, cur, rfl, _, h4, _, _, _, h8⟩
 ·exact ⟨none, 0, by rw [h0], fun hn => absurd hn (by omega), fun _ => h0⟩
 ·refine ⟨_, _, rfl, fun _ => ⟨g, 0, rfl, blk_lt h4, fun j u hu => ?_⟩, fun e => by cases e⟩
  have hj : j < L.length * 5 := by have := (List.getElem?_eq_some_iff.1 hu).1; rwa [insL_len] at this
  rw [cell_of_row w g _ cur 114 _ h4, Nat.zero_add, ← hu, ← h8, List.getElem?_take, if_pos hj, Array.getElem?_toList]
theorem ins_one (L : List Ins) : ∀ u ∈ L.flatMap insL, u.oneCell' = true := fun u hu => by
 obtain ⟨x, _, hx⟩ := List.mem_flatMap.1 hu; simp only [insL, List.mem_cons, List.not_mem_nil, or_false] at hx
 rcases hx with rfl | rfl | rfl | rfl | rfl <;> rfl
theorem run_bno (w : World) : (Instr.buildSlice 92 0 #[]).run Tryz.prog w = .ok (.slice (some ⟨w.heap.size, 0, none⟩) 0 0) (w.alloc (.cells #[] 114)) := by
 kernel_rfl
section
variable {ops : Array Oper} {Q : Exit → Act → World → Prop}
theorem wl_bno {rest : List Oper} {o : Oper} {a : Act} {w : World} (hgd : o.guard = none) (ho : o.op = .buildSlice 92 0 #[])
  (h : ∀ (w' : World) (r : Nat), OwnI w' (.slice (some ⟨r, 0, none⟩) 0 0) [] → Below w.heap.size w w' → Hid (r = w.heap.size) → ∀ K : Act → World → Prop, (∀ a w, wpList Tryz.prog ops Q rest a w → K a w) → K (a.put o.dst (.slice (some ⟨r, 0, none⟩) 0 0)) w') : wpList Tryz.prog ops Q (o :: rest) a w := by
 refine wpList_plain hgd fun K hK => ?_
 unfold Oper.wp execOp; have hr := run_bno w; simp only [ho, List.map_toArray, List.map_nil, Sem.run_bind, hr, Result.andThen_ok]; exact h _ _ ⟨rfl, .inr ⟨w.heap.size, 0, #[], rfl, Nat.zero_le _, heap_alloc_new w _, Nat.le_refl _, by simp [maxLen], rfl, rfl⟩⟩ ((Below.refl _ _).alloc (Nat.le_refl _) _) rfl K hK
theorem wl_appall {rest : List Oper} {o : Oper} {a : Act} {w : World} (hgd : o.guard = none) (s x : Operand) (ho : o.op = .call { callee := .builtin .append, args := #[s, x], argTypes := #[92, 92] })
  (v : Value) (l : List Ins) (hs : a.eval s = v) (hown : OwnI w v l) (ad : Addr) (L : List Ins) (c : Nat) (hx : a.eval x = .slice (some ad) L.length c) (hR : InsR w (some ad) L) (hk : l.length + L.length ≤ 100000)
  (h : ∀ v' w', OwnI w' v' (l ++ L) → w.grownBy w' v.ownBlock → (v'.ownBlock = v.ownBlock ∨ v'.ownBlock = some w.heap.size) → ∀ K : Act → World → Prop, (∀ a w, wpList Tryz.prog ops Q rest a w → K a w) → K (a.put o.dst v') w') : wpList Tryz.prog ops Q (o :: rest) a w := by
 refine wpList_plain hgd fun K hK => ?_
 obtain ⟨i0, z, hi0, hz0, hzc, hz1, hz2⟩ := info_get info114
 obtain ⟨v', w', hrun, h2, h3, _, h5⟩ := run_append_own_at (P := Tryz.prog) w 0 92 o.type 114 i0 z 5 40 Tryz.underlying92 hi0 hz0 hz1 hz2 hzc (by omega) v l.length _ hown ad L.length c (L.flatMap insL) (insL_len L)
  (fun j u hu => by
   have hL : 0 < L.length := by
    have := (List.getElem?_eq_some_iff.1 hu).1; rw [insL_len] at this; omega
   obtain ⟨b, off, e, _, hc⟩ := hR hL; cases e
   rw [add_off]; exact hc j u hu)
  (ins_one L) (by simp only [maxLen]; omega) (by omega) (Nat.zero_le _)
 unfold Oper.wp execOp; simp only [ho, resolve, invoke, builtin, Sem.run_bind, Sem.run_pure, Result.andThen_ok, List.map_toArray, List.map_cons, List.map_nil, hs, hx, hrun]; refine h v' w' ?_ h3 h5 K hK; unfold OwnI; rw [List.flatMap_append, List.length_append]; exact h2
end
def NewI (w w' : World) (L : List Ins) (e : Ending) : Prop := ∃ v, e = .returned v ∧ OwnI w' v L ∧ ∀ k, v.ownBlock = some k → w.heap.size ≤ k
theorem cloneI (V : Option Addr) (L : List Ins) (c : Nat) (hL : L.length ≤ 100000) (hnil : V = none → L.length = 0) (w : World) (hR : InsR w V L) : Calls Tryz.prog 30 #[.slice V L.length c] w fun e w' => NewI w w' L e ∧ Below w.heap.size w w' := by
 have heq1 : ∀ (n c : Nat) (w : World), (binOp BinOp.eql 92 (Value.slice none n c) (Value.slice none 0 0)).run Tryz.prog w = .ok (.bool true) w := fun n c w => by kernel_rfl
 have heq2 : ∀ (ad : Addr) (n c : Nat) (w : World), (binOp BinOp.eql 92 (Value.slice (some ad) n c) (Value.slice none 0 0)).run Tryz.prog w = .ok (.bool false) w := fun ad n c w => by kernel_rfl
 cases V with
 | none =>
  have h0 := hnil rfl; have hl : L = [] := List.eq_nil_of_length_eq_zero h0; go_enter Tryz.func30, Tryz.ntmps30; go_wp2; go_ret; subst hl; exact ⟨⟨.slice none 0 0, rfl, World.ownsRow_nil _ _ _ _, fun k h => by cases h⟩, Below.refl _ _⟩
 | some ad =>
  go_enter Tryz.func30, Tryz.ntmps30; go_upto_region 3 with (fail); refine wp_region_lit ?_; refine wl_bno rfl rfl (fun w1 r hO hb1 fr => ?_); refine Zk ?_; refine Zv ?_
  refine wl_appall rfl (.tmp 5) (.tmp 6) rfl _ [] rfl hO ad L c rfl (hR.below hb1) (by simp <;> omega) (fun v' w2 hO2 hg2 hl2 => ?_)
  refine Zk ?_; refine Zv ?_
  have er : w.heap.size ≤ r := by simp only [Hid] at fr; omega
  go_wp2; go_ret; refine ⟨⟨v', rfl, by simpa using hO2, fun k h => ?_⟩, hb1.grown hg2 hb1.size (fun k e => by cases e; exact er)⟩; rcases hl2 with e | e
  ·rw [e] at h; cases h; exact er
  ·rw [e] at h; cases h; exact hb1.size
def BS.Wf (st : BS) : Prop := ∀ l ∈ st.links, 0 ≤ l.at' ∧ l.at' < st.code.length
theorem wf_zero : BS.zero.Wf := fun l h => by cases h
theorem wf_emit {st : BS} (x : Ins) (h : st.Wf) : (st.emit x).Wf := fun l hl => ⟨(h l hl).1, by have := (h l hl).2; simp [BS.emit]; omega⟩
theorem wf_go {st : BS} (op a : Int) (name : ByteArray) (h : st.Wf) : (st.go op a name).Wf := fun l hl => by
 have e : (st.go op a name).code.length = st.code.length + 1 := by simp [BS.go]
 rw [e]; rcases List.mem_append.1 (show l ∈ st.links ++ [⟨st.code.length, name⟩] from hl) with h1 | h1
 ·have := h l h1; omega
 ·have : l = ⟨st.code.length, name⟩ := by simpa using h1
  subst this; simp only; omega
theorem wf_place {st : BS} (name : ByteArray) (h : st.Wf) : (st.place name).Wf := by
 unfold BS.place
 split <;> exact h
end Go.Proofs.YtbcgngfbbbfebaaGreatDoor
namespace Go.Proofs.YtbcgngfbbbfebaaGreatDoor
open Go.RowKit
set_option maxRecDepth 100000
set_option maxHeartbeats 32000000
set_option linter.unusedVariables false
set_option linter.unusedSimpArgs false
section
variable {α : Type} {E : Enc α}
theorem made_flat (hE : E.Ok) (z : Array Value) (x : α) (hz : z.toList = E.enc x) (n : Nat) : (madeCells z (n * E.sz)).toList = (List.replicate n x).flatMap E.enc := by
 have hs : z.size = E.sz := by rw [← Array.length_toList, hz, hE.len]
 apply List.ext_getElem?; intro j
 by_cases hj : j < n * E.sz
 ·have h1 : j / E.sz < n := Nat.div_lt_of_lt_mul (by rwa [Nat.mul_comm] at hj)
  have h2 : j % E.sz < E.sz := Nat.mod_lt _ hE.pos
  have h3 : j = j / E.sz * E.sz + j % E.sz := by rw [Nat.mul_comm]; exact (Nat.div_add_mod j E.sz).symm
  have h4 := flat_at hE (List.replicate n x) (j / E.sz) (j % E.sz) x (by simp [h1]) h2; rw [← h3] at h4; rw [h4, ← hz]; simp [madeCells, hj, hs, h2]
 ·rw [List.getElem?_eq_none (by rw [Array.length_toList, size_madeCells]; omega), List.getElem?_eq_none (by rw [flat_len hE, List.length_replicate]; omega)]
theorem info_zero {P : Program} {e : TypeId} {z : Array Value} {s b : Nat} (h1 : (P.info? e).map (fun i => (i.zero.map (·.cells), i.size, i.bytes)) = some (some z, s, b)) : ∃ (i0 : TypeInfo) (z' : Value), P.info? e = some i0 ∧ i0.zero = some z' ∧ z'.cells = z ∧ i0.size = s ∧ i0.bytes = b := by
 cases e1 : P.info? e with
 | none => rw [e1] at h1; cases h1
 | some ti =>
  rw [e1] at h1; simp only [Option.map_some, Option.some.injEq, Prod.mk.injEq] at h1
  cases e2 : ti.zero with
  | none => rw [e2] at h1; simp at h1
  | some z =>
   rw [e2] at h1; simp only [Option.map_some, Option.some.injEq] at h1; exact ⟨ti, z, rfl, e2, h1.1, h1.2.1, h1.2.2⟩
variable {P : Program} {ops : Array Oper} {Q : Exit → Act → World → Prop}
theorem run_mkE (hE : E.Ok) (w : World) (t : TypeId) (ht : P.underlying t = some (.slice E.ty)) (x : α) (by' : Nat) (hinf : (P.info? E.ty).map (fun i => (i.zero.map (·.cells), i.size, i.bytes)) = some (some (E.enc x).toArray, E.sz, by')) (hby : by' ≤ 10000) (n : Nat) (hn : n ≤ 4000000) :
  ∃ w', (Instr.makeSlice t (.int .i64 (n : Int)) (.int .i64 (n : Int))).run P w = .ok (.slice (some ⟨w.heap.size, 0, none⟩) n n) w' ∧ Own E w' (.slice (some ⟨w.heap.size, 0, none⟩) n n) (List.replicate n x) ∧ Below w.heap.size w w' := by
 obtain ⟨i0, z, hi0, hz0, hzc, hz1, hz2⟩ := info_zero hinf; obtain ⟨w', hr, h1, h2⟩ := run_make_full (P := P) w 0 t E.ty i0 z E.sz ht hi0 hz0 hz1 .i64 .i64 n (by rw [hz2]; exact Nat.le_trans (Nat.mul_le_mul hby hn) (by decide)) (by simp only [maxLen]; omega) (Nat.zero_le _); refine ⟨w', hr, ?_, (Below.refl w.heap.size w).grown h2 (Nat.le_refl _) (fun k e => by cases e)⟩; unfold Own; rw [hzc, made_flat hE _ x (by simp) n] at h1; rw [List.length_replicate]; exact h1
theorem wl_mkE (hE : E.Ok) {rest : List Oper} {o : Oper} {a : Act} {w : World} (hgd : o.guard = none) (t : TypeId) (ht : P.underlying t = some (.slice E.ty)) (x : α) (by' : Nat) (hinf : (P.info? E.ty).map (fun i => (i.zero.map (·.cells), i.size, i.bytes)) = some (some (E.enc x).toArray, E.sz, by')) (hby : by' ≤ 10000)
  (y y' : Operand) (ho : o.op = .makeSlice t y y') (n : Nat) (hn : n ≤ 4000000) (hx : a.eval y = .int .i64 n) (hx' : a.eval y' = .int .i64 n)
  (h : ∀ (w' : World) (r : Nat), Own E w' (.slice (some ⟨r, 0, none⟩) n n) (List.replicate n x) → Below w.heap.size w w' → Hid (r = w.heap.size) → ∀ K : Act → World → Prop, (∀ a w, wpList P ops Q rest a w → K a w) → K (a.put o.dst (.slice (some ⟨r, 0, none⟩) n n)) w') : wpList P ops Q (o :: rest) a w := by
 refine wpList_plain hgd fun K hK => ?_
 obtain ⟨w', hr, h1, h2⟩ := run_mkE hE w t ht x by' hinf hby n hn; unfold Oper.wp execOp; simp only [ho, hx, hx', hr, Sem.run_bind, Result.andThen_ok]; exact h w' _ h1 h2 rfl K hK
end
theorem Own.empty {α : Type} {E : Enc α} (w : World) : Own E (w.alloc (.cells #[] E.ty)) (.slice (some ⟨w.heap.size, 0, none⟩) 0 0) [] :=
 ⟨by simp, .inr ⟨w.heap.size, 0, #[], rfl, Nat.zero_le _, heap_alloc_new w _, Nat.le_refl _, by simp [maxLen], by simp, by simp⟩⟩
def eI : Enc Ins := ⟨114, 5, insL⟩
theorem eI_ok : eI.Ok := ⟨fun x => rfl, fun x u hu => by
 simp only [eI, insL, List.mem_cons, List.not_mem_nil, or_false] at hu
 rcases hu with rfl | rfl | rfl | rfl | rfl <;> rfl, by decide⟩
def eU : Enc Int := ⟨33, 1, fun k => [.int .u32 k]⟩
theorem eU_ok : eU.Ok := ⟨fun x => rfl, fun x u hu => by
 simp only [eU, List.mem_cons, List.not_mem_nil, or_false] at hu
 rcases hu with rfl; rfl, by decide⟩
structure Th where
 pc : Int
 regs : Nat → Int
 st : Int
def thrL (x : Th) : List Value := [.int .i64 x.pc, .int .u32 (x.regs 0), .int .u32 (x.regs 1), .int .u32 (x.regs 2), .int .u32 (x.regs 3), .int .u32 (x.regs 4), .int .u32 (x.regs 5), .int .u32 (x.regs 6), .int .u32 (x.regs 7), .int .i64 x.st]
def eT : Enc Th := ⟨153, 10, thrL⟩
theorem eT_ok : eT.Ok := ⟨fun x => rfl, fun x u hu => by
 simp only [eT, thrL, List.mem_cons, List.not_mem_nil, or_false] at hu
 rcases hu with rfl | rfl | rfl | rfl | rfl | rfl | rfl | rfl | rfl | rfl <;> rfl, by decide⟩
structure Bf where
 ra : Nat → Int
 rv : Nat → Int
 first : Int
 n : Int
 room : Int
def bufL (x : Bf) : List Value := [.int .i64 (x.ra 0), .int .u32 (x.rv 0), .int .i64 (x.ra 1), .int .u32 (x.rv 1), .int .i64 (x.ra 2), .int .u32 (x.rv 2), .int .i64 (x.ra 3), .int .u32 (x.rv 3), .int .i64 (x.ra 4), .int .u32 (x.rv 4), .int .i64 (x.ra 5), .int .u32 (x.rv 5), .int .i64 (x.ra 6), .int .u32 (x.rv 6), .int .i64 (x.ra 7), .int .u32 (x.rv 7), .int .i64 (x.ra 8), .int .u32 (x.rv 8), .int .i64 (x.ra 9), .int .u32 (x.rv 9), .int .i64 (x.ra 10), .int .u32 (x.rv 10), .int .i64 (x.ra 11), .int .u32 (x.rv 11), .int .i64 (x.ra 12), .int .u32 (x.rv 12), .int .i64 (x.ra 13), .int .u32 (x.rv 13), .int .i64 (x.ra 14), .int .u32 (x.rv 14), .int .i64 (x.ra 15), .int .u32 (x.rv 15), .int .i64 x.first, .int .i64 x.n, .int .i64 x.room]
def eB : Enc Bf := ⟨109, 35, bufL⟩
theorem eB_ok : eB.Ok := ⟨fun x => rfl, fun x u hu => by
 simp only [eB, bufL, List.mem_cons, List.not_mem_nil, or_false] at hu
 rcases hu with rfl | rfl | rfl | rfl | rfl | rfl | rfl | rfl | rfl | rfl | rfl | rfl | rfl | rfl | rfl | rfl | rfl | rfl | rfl | rfl | rfl | rfl | rfl | rfl | rfl | rfl | rfl | rfl | rfl | rfl | rfl | rfl | rfl | rfl | rfl <;> rfl, by decide⟩
structure Evt where
 kind : Int
 who : Int
 pc : Int
 addr : Int
 value : Int
 old : Int
 k : Int
 ok : Bool
deriving DecidableEq
def evtL (x : Evt) : List Value := [.int .i64 x.kind, .int .i64 x.who, .int .i64 x.pc, .int .i64 x.addr, .int .u32 x.value, .int .u32 x.old, .int .u32 x.k, .bool x.ok]
def eE : Enc Evt := ⟨35, 8, evtL⟩
theorem eE_ok : eE.Ok := ⟨fun x => rfl, fun x u hu => by
 simp only [eE, evtL, List.mem_cons, List.not_mem_nil, or_false] at hu
 rcases hu with rfl | rfl | rfl | rfl | rfl | rfl | rfl | rfl <;> rfl, by decide⟩
structure Slp where
 who : Int
 addr : Int
def eS : Enc Slp := ⟨182, 2, fun x => [.int .i64 x.who, .int .i64 x.addr]⟩
theorem eS_ok : eS.Ok := ⟨fun x => rfl, fun x u hu => by
 simp only [eS, List.mem_cons, List.not_mem_nil, or_false] at hu
 rcases hu with rfl | rfl <;> rfl, by decide⟩
structure Pik where
 kind : Int
 who : Int
def eP : Enc Pik := ⟨116, 2, fun x => [.int .i64 x.kind, .int .i64 x.who]⟩
theorem eP_ok : eP.Ok := ⟨fun x => rfl, fun x u hu => by
 simp only [eP, List.mem_cons, List.not_mem_nil, or_false] at hu
 rcases hu with rfl | rfl <;> rfl, by decide⟩
end Go.Proofs.YtbcgngfbbbfebaaGreatDoor
namespace Go.Proofs.YtbcgngfbbbfebaaGreatDoor
open Go.RowKit
set_option maxRecDepth 100000
set_option maxHeartbeats 32000000
set_option linter.unusedVariables false
set_option linter.unusedSimpArgs false
def nmB : Nat → ByteArray
 | 0 => ⟨#[]⟩
 | 1 => ⟨#[116, 97, 115]⟩
 | 2 => ⟨#[116, 116, 97, 115]⟩
 | 3 => ⟨#[116, 105, 99, 107, 101, 116]⟩
 | 4 => ⟨#[109, 99, 115]⟩
 | 5 => ⟨#[99, 108, 104]⟩
 | 6 => ⟨#[112, 101, 116, 101, 114, 115, 111, 110]⟩
 | 7 => ⟨#[100, 101, 107, 107, 101, 114]⟩
 | 8 => ⟨#[98, 105, 97, 115]⟩
 | 9 => ⟨#[115, 101, 113]⟩
 | 10 => ⟨#[109, 117, 116, 101, 120]⟩
 | 11 => ⟨#[115, 101, 109]⟩
 | 12 => ⟨#[99, 111, 110, 100]⟩
 | 13 => ⟨#[98, 97, 114, 114, 105, 101, 114]⟩
 | 14 => ⟨#[114, 119]⟩
 | 15 => ⟨#[111, 110, 99, 101]⟩
 | _ => ⟨#[]⟩
def NmW (w : World) : Prop := ∀ i : Nat, i < 16 → w.cell? ⟨1, i, none⟩ = some (.string (nmB i))
theorem NmW.pos {w : World} (h : NmW w) : 1 < w.heap.size := by
 have := h 0 (by omega); unfold World.cell? at this
 split at this
 ·rename_i h'; exact (Array.getElem?_eq_some_iff.1 h').1
 ·cases this
theorem NmW.below {w w' : World} (h : NmW w) (hb : Below w.heap.size w w') : NmW w' := fun i hi => (hb.cell (p := ⟨1, i, none⟩) h.pos).trans (h i hi)
def nmOf (k : Int) : ByteArray := if 1 ≤ k ∧ k ≤ 15 then nmB k.toNat else ⟨#[]⟩
theorem inC (n l h : Int) (w : World) : Calls Tryz.prog 64 #[.int .i64 n, .int .i64 l, .int .i64 h] w fun e w' => e = .returned (.bool (decide (l ≤ n ∧ n ≤ h))) ∧ w' = w := by
 by_cases h1 : l ≤ n
 ·by_cases h2 : n ≤ h
  ·rw [decide_eq_true (⟨h1, h2⟩ : l ≤ n ∧ n ≤ h)]
   go_enter Tryz.func64, Tryz.ntmps64; go_wp2; go_ret; exact ⟨rfl, rfl⟩
  ·rw [decide_eq_false (fun h => h2 h.2 : ¬ (l ≤ n ∧ n ≤ h))]
   go_enter Tryz.func64, Tryz.ntmps64; go_wp2; go_ret; exact ⟨rfl, rfl⟩
 ·rw [decide_eq_false (fun h => h1 h.1 : ¬ (l ≤ n ∧ n ≤ h))]
  go_enter Tryz.func64, Tryz.ntmps64; go_wp2; go_ret; exact ⟨rfl, rfl⟩
theorem objName (k : Int) (w : World) (h : NmW w) : Calls Tryz.prog 65 #[.int .i64 k] w fun e w' => e = .returned (.string (nmOf k)) ∧ w' = w := by
 unfold nmOf
 by_cases h1 : k < 1
 ·rw [if_neg (by omega)]
  go_enter Tryz.func65, Tryz.ntmps65; go_wp2; go_ret; exact ⟨rfl, rfl⟩
 by_cases h2 : k ≥ 16
 ·rw [if_neg (by omega)]
  go_enter Tryz.func65, Tryz.ntmps65; go_wp2; go_ret; exact ⟨rfl, rfl⟩
 rw [if_pos (by omega)]; obtain ⟨k, rfl⟩ : ∃ j : Nat, k = j := ⟨k.toNat, by omega⟩
 have hl0 : (0 : Int) ≤ k := by omega
 have hl1 : (k : Int) < 16 := by omega
 have c := h k (by omega); go_enter Tryz.func65, Tryz.ntmps65; go_wp2; go_ret; exact ⟨rfl, rfl⟩
end Go.Proofs.YtbcgngfbbbfebaaGreatDoor
