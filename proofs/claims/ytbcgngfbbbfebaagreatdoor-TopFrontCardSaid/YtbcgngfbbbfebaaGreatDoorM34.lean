/- What a machine's steps do, without its program. General lemmas: a region that draws its order, of which some operations, wherever they stand, are taken first. No program in sight. A thread that does an instruction, in memory beside its machine. -/
import Derived.Test.YtbcgngfbbbfebaaGreatDoorM33
import Derived.Laws.Closers25b
import Derived.Test.YtbcgngfbbbfebaaGreatDoorM01
import Derived.Test.YtbcgngfbbbfebaaGreatDoorM04
namespace Go.Proofs.YtbcgngfbbbfebaaGreatDoor
open Go.RowKit Go.Maps
set_option maxRecDepth 100000
set_option maxHeartbeats 32000000
set_option linter.unusedVariables false
set_option linter.unusedSimpArgs false
theorem bits_u (op : BinOp) {a b : Int} (ha : U32 a) (hb : U32 b) : U32 (bits op .u32 a b) := by
 have h : (0 : Int) ≤ bits op .u32 a b ∧ bits op .u32 a b ≤ 4294967295 := bits_within op .u32 a b; exact ⟨h.1, by omega⟩
theorem alu_u (op : Int) {a b : Int} (ha : U32 a) (hb : U32 b) : U32 (aluF op a b) := by
 obtain ⟨a0, a1⟩ := ha; obtain ⟨b0, b1⟩ := hb
 have hm : ∀ x : Int, U32 (x % 4294967296) := fun x => ⟨by omega, by omega⟩
 have hd : ∀ n : Nat, U32 (a / 2 ^ n) := fun n => ⟨Int.ediv_nonneg a0 (Int.le_of_lt (Int.pow_pos (by decide))), Int.lt_of_le_of_lt (Int.ediv_le_self _ a0) a1⟩; unfold aluF
 split
 ·exact hm _
 split
 ·exact hm _
 split
 ·exact hm _
 split
 ·exact bits_u _ ⟨a0, a1⟩ ⟨b0, b1⟩
 split
 ·exact bits_u _ ⟨a0, a1⟩ ⟨b0, b1⟩
 split
 ·exact bits_u _ ⟨a0, a1⟩ ⟨b0, b1⟩
 split
 ·exact hm _
 split
 ·exact hd _
 split
 ·split
  ·exact u32_1
  ·exact u32_0
 split
 ·split
  ·exact u32_1
  ·exact u32_0
 ·exact u32_0
def setR (T : Th) (a : Nat) (v : Int) : Th := { T with regs := fun j => if j = a then v else T.regs j }
def setS (T : Th) (s : Int) : Th := { T with st := s }
def RU (T : Th) : Prop := ∀ j, U32 (T.regs j)
theorem RU.set {T : Th} (h : RU T) (a : Nat) {v : Int} (hv : U32 v) : RU (setR T a v) := fun j => by
 simp only [setR]; split
 ·exact hv
 ·exact h j
def noteM (M : Mac) (ti : Nat) (T : Th) (A : Int) (x : Evt) : Mac := { M with evs := M.evs ++ [{ x with pc := T.pc, addr := A, who := ti }] }
theorem note_st {M : Mac} (h : MOk M) (ti : Nat) (T : Th) (A : Int) (x : Evt) : St M (noteM M ti T A x) 1 0 := ⟨⟨h.nt0, h.nt1, h.nb, h.nc, h.mem, h.memU, h.bufs, h.slp, h.regs, h.codes⟩, by simp [noteM], Nat.le_refl _, ⟨_, rfl⟩, rfl, rfl, rfl⟩
def ev (kind v o k : Int) (ok : Bool) : Evt := ⟨kind, 0, 0, 0, v, o, k, ok⟩
def loadT (M : Mac) (ti : Nat) (A : Int) : Int := match M.bufs[ti]? with
 | some x => loadF M x A.toNat
 | none => 0
theorem find_u {x : Bf} {n : Nat} (h : EntOk n x) (a : Int) : ∀ k, ∀ v, bufFindN x a k = some v → U32 v
 | 0, v, e => by cases e
 | k + 1, v, e => by
  unfold bufFindN at e
  split at e
  ·cases e; exact h.v _
  ·exact find_u h a k v e
theorem load_u {M : Mac} (h : MOk M) (ti : Nat) (A : Int) : U32 (loadT M ti A) := by
 unfold loadT
 split
 ·rename_i x hx
  unfold loadF
  cases e : bufFind x A.toNat with
  | none =>
   simp only [orMem]; rw [List.getD_eq_getElem?_getD]
   cases e2 : M.mem[A.toNat]? with
   | none => exact u32_0
   | some v => exact h.memU v (List.mem_of_getElem? e2)
  | some v => exact find_u (h.buf hx).2 _ _ _ e
 ·exact u32_0
def storeT (M : Mac) (ti : Nat) (A v : Int) : Mac := match M.bufs[ti]? with
 | some x => { M with bufs := M.bufs.set ti (bufPut x A v) }
 | none => M
def fullB (M : Mac) (ti : Nat) : Bool := match M.bufs[ti]? with
 | some x => decide (x.room ≤ x.n)
 | none => true
theorem store_st {M : Mac} (h : MOk M) (ti : Nat) {A v : Int} (hA : 0 ≤ A ∧ A < M.mem.length) (hv : U32 v) (hf : fullB M ti = false) : St M (storeT M ti A v) 0 0 := by
 unfold storeT; unfold fullB at hf
 split
 ·rename_i x hx
  simp only [hx, decide_eq_false_iff_not] at hf; refine ⟨⟨h.nt0, h.nt1, by simp only [List.length_set]; exact h.nb, h.nc, h.mem, h.memU, fun y hy => ?_, h.slp, h.regs, h.codes⟩, Nat.le_refl _, Nat.le_refl _, List.prefix_refl _, rfl, rfl, rfl⟩; rcases mem_set' hy with h1 | rfl
  ·exact h.bufs y h1
  ·exact ⟨bfok_put (h.buf hx).1 (by omega) _ _, ent_put (h.buf hx).2 hA hv⟩
 ·exact St.refl h
def memM (M : Mac) (A v : Int) : Mac := { M with mem := M.mem.set A.toNat v }
theorem mem_st {M : Mac} (h : MOk M) (A : Int) {v : Int} (hv : U32 v) : St M (memM M A v) 0 0 := ⟨⟨h.nt0, h.nt1, h.nb, h.nc, by simp only [memM, List.length_set]; exact h.mem, fun y hy => by
 rcases mem_set' hy with h1 | rfl
 ·exact h.memU y h1
 ·exact hv, by simp only [memM, List.length_set]; exact h.bufs, h.slp, h.regs, h.codes⟩, Nat.le_refl _, Nat.le_refl _, List.prefix_refl _, rfl, by simp [memM], rfl⟩
def slpM (M : Mac) (ti : Nat) (A : Int) : Mac := { M with slp := sleepF M.slp ti A }
theorem slp_st {M : Mac} (h : MOk M) {ti : Nat} (hi : ti < M.threads.length) (A : Int) : St M (slpM M ti A) 0 1 := ⟨⟨h.nt0, h.nt1, h.nb, h.nc, h.mem, h.memU, h.bufs, fun s hs => by
 simp only [slpM, sleepF] at hs
 split at hs
 ·exact h.slp s hs
 ·rcases List.mem_append.1 hs with h1 | h1
  ·exact h.slp s h1
  ·rw [List.mem_singleton] at h1; subst h1
   have h2 : ((⟨ti, A⟩ : Slp).who) = ti := rfl
   rw [h2]; exact ⟨by omega, Int.ofNat_lt.2 hi⟩, h.regs, h.codes⟩, Nat.le_refl _, by simp only [slpM, sleepF]; split <;> simp, List.prefix_refl _, rfl, rfl, rfl⟩
theorem setSt_regs {l : List Th} {i : Nat} {s : Int} (h : ∀ x ∈ l, ∀ j, U32 (x.regs j)) : ∀ x ∈ setSt l i s, ∀ j, U32 (x.regs j) := fun x hx => by
 unfold setSt at hx
 split at hx
 ·rename_i y hy
  rcases mem_set' hx with h1 | rfl
  ·exact h x h1
  ·exact h y (List.mem_of_getElem? hy)
 ·exact h x hx
theorem wakeT_regs (o : List Int) : ∀ {l : List Th}, (∀ x ∈ l, ∀ j, U32 (x.regs j)) → ∀ x ∈ wakeT l o, ∀ j, U32 (x.regs j) := by
 induction o with
 | nil => intro l h; exact h
 | cons a o ih => intro l h; exact ih (setSt_regs h)
theorem wake_st {M : Mac} (h : MOk M) (A n : Int) : St M (wakeM M A n) 0 0 := by
 obtain ⟨h1, _, h3, _⟩ := wakeF_sub A n M.slp []; have hl : (wakeM M A n).threads.length = M.threads.length := wakeT_len _ _; exact ⟨⟨by rw [hl]; exact h.nt0, by rw [hl]; exact h.nt1, by rw [hl]; exact h.nb, by rw [hl]; exact h.nc, h.mem, h.memU, h.bufs, fun s hs => by rw [hl]; exact h.slp s (h1 s hs), wakeT_regs _ h.regs, h.codes⟩, Nat.le_refl _, h3, List.prefix_refl _, hl, rfl, rfl⟩
def wakeL (M : Mac) (A n : Int) : Int := ((wakeF A n M.slp []).2.length : Int)
theorem wakeL_u {M : Mac} (A n : Int) (hs : M.slp.length ≤ 80000) : U32 (wakeL M A n) := by
 obtain ⟨_, _, _, h4⟩ := wakeF_sub A n M.slp []; simp only [List.length_nil] at h4; exact ⟨by unfold wakeL; omega, by unfold wakeL; omega⟩
def putT (M : Mac) (ti : Nat) (T : Th) : Mac := { M with threads := M.threads.set ti T }
theorem put_st {M : Mac} (h : MOk M) (ti : Nat) {T : Th} (hT : RU T) : St M (putT M ti T) 0 0 := by
 have hl : (putT M ti T).threads.length = M.threads.length := List.length_set
 exact ⟨⟨by rw [hl]; exact h.nt0, by rw [hl]; exact h.nt1, by rw [hl]; exact h.nb, by rw [hl]; exact h.nc, h.mem, h.memU, h.bufs, fun s hs => by rw [hl]; exact h.slp s hs, fun x hx => by
  rcases mem_set' hx with h1 | rfl
  ·exact h.regs x h1
  ·exact hT, h.codes⟩, Nat.le_refl _, Nat.le_refl _, List.prefix_refl _, hl, rfl, rfl⟩
abbrev MT := Mac × Th
structure SR (M : Mac) (X : MT) (k s : Nat) : Prop where
 st : St M X.1 k s
 ru : RU X.2
def lockedF (M : Mac) (ti : Nat) (T : Th) (a : Nat) (A old v : Int) (ok : Bool) : MT :=
 (noteM (if ok = true then memM M A v else M) ti T A (ev 4 (if ok = true then v else old) old 0 ok), setR T a old)
theorem locked_st {M : Mac} (h : MOk M) (ti : Nat) {T : Th} (hT : RU T) (a : Nat) (A : Int) {old v : Int} (ho : U32 old) (hv : U32 v) (ok : Bool) : SR M (lockedF M ti T a A old v ok) 1 0 := by
 refine ⟨?_, hT.set a ho⟩; unfold lockedF
 cases ok with
 | true => exact (mem_st h A hv).trans (note_st (mem_st h A hv).ok ti T A _)
 | false => exact note_st h ti T A _
def waitF (M : Mac) (ti : Nat) (T : Th) (a : Nat) (A : Int) : MT :=
 if loadT M ti A = T.regs a then (slpM (noteM M ti T A (ev 8 (loadT M ti A) 0 0 true)) ti A, setS (setR T a 0) 1)
 else (noteM M ti T A (ev 8 (loadT M ti A) 0 0 false), setR T a 1)
theorem wait_st {M : Mac} (h : MOk M) {ti : Nat} (hi : ti < M.threads.length) {T : Th} (hT : RU T) (a : Nat) (A : Int) : SR M (waitF M ti T a A) 1 1 := by
 unfold waitF
 split
 ·exact ⟨(note_st h ti T A _).trans (slp_st (note_st h ti T A _).ok hi A), hT.set a u32_0⟩
 ·exact ⟨(note_st h ti T A _).mono (Nat.le_refl _) (by omega), hT.set a u32_1⟩
def asksF (M : Mac) (ti : Nat) (T : Th) (I : Ins) (A : Int) : MT :=
 if I.op = 16 then (noteM M ti T A (ev 1 (loadT M ti A) 0 0 false), setR T I.a.toNat (loadT M ti A))
 else if I.op = 17 then (noteM (storeT M ti A (T.regs I.a.toNat)) ti T A (ev 2 (T.regs I.a.toNat) 0 0 false), T)
 else if I.op = 19 then lockedF M ti T I.a.toNat A (loadT M ti A) (T.regs I.a.toNat) true
 else if I.op = 20 then lockedF M ti T I.a.toNat A (loadT M ti A) ((loadT M ti A + T.regs I.a.toNat) % 4294967296) true
 else if I.op = 21 then lockedF M ti T I.a.toNat A (loadT M ti A) (T.regs I.c.toNat) (loadT M ti A == T.regs I.a.toNat)
 else if I.op = 23 then waitF M ti T I.a.toNat A
 else if I.op = 24 then (noteM (wakeM M A (T.regs I.a.toNat)) ti T A (ev 9 (wakeL M A (T.regs I.a.toNat)) 0 0 false), setR T I.a.toNat (wakeL M A (T.regs I.a.toNat)))
 else (M, T)
theorem asks_st {M : Mac} (h : MOk M) {ti : Nat} (hi : ti < M.threads.length) {T : Th} (hT : RU T) {I : Ins} {A : Int} (hA : 0 ≤ A ∧ A < M.mem.length) (hf : I.op = 17 → fullB M ti = false) (hs : M.slp.length ≤ 80000) : SR M (asksF M ti T I A) 1 1 := by
 have hl := load_u h ti A; have up : ∀ {X : MT}, SR M X 1 0 → SR M X 1 1 := fun h => ⟨h.st.mono (Nat.le_refl _) (by omega), h.ru⟩; unfold asksF
 split
 ·exact up ⟨note_st h ti T A _, hT.set _ hl⟩
 split
 ·rename_i e
  have h1 := store_st h ti hA (hT I.a.toNat) (hf e); exact up ⟨h1.trans (note_st h1.ok ti T A _), hT⟩
 split
 ·exact up (locked_st h ti hT _ A hl (hT _) true)
 split
 ·exact up (locked_st h ti hT _ A hl ⟨by omega, by omega⟩ true)
 split
 ·exact up (locked_st h ti hT _ A hl (hT _) _)
 split
 ·exact wait_st h hi hT _ A
 split
 ·have h1 := wake_st h A (T.regs I.a.toNat)
  exact up ⟨h1.trans (note_st h1.ok ti T A _), hT.set _ (wakeL_u _ _ hs)⟩
 ·exact ⟨(St.refl h).mono (by omega) (by omega), hT⟩
def plainF (M : Mac) (ti : Nat) (T : Th) (I : Ins) (A : Int) : MT :=
 if I.op = 1 then (M, setR T I.a.toNat I.k)
 else if I.op = 2 then (M, setR T I.a.toNat (T.regs I.b.toNat))
 else if I.op = 18 then (noteM M ti T A (ev 5 0 0 0 false), T)
 else if I.op = 22 then (noteM M ti T A (ev 6 (T.regs I.a.toNat) 0 0 false), T)
 else if I.op = 27 then (noteM M ti T A (ev 7 (T.regs I.a.toNat) 0 I.k false), T)
 else if I.op = 25 then (noteM (remoteF M M.bufs.length) ti T A (ev 10 0 0 0 false), T)
 else if 3 ≤ I.op ∧ I.op ≤ 12 then (M, setR T I.a.toNat (aluF I.op (T.regs I.b.toNat) (T.regs I.c.toNat)))
 else (M, T)
theorem plain_st {M : Mac} (h : MOk M) (ti : Nat) {T : Th} (hT : RU T) {I : Ins} (hI : U32 I.k) (A : Int) : SR M (plainF M ti T I A) 129 0 := by
 have h0 : ∀ {T'}, RU T' → SR M (M, T') 129 0 := fun h' => ⟨(St.refl h).mono (by omega) (by omega), h'⟩; have h1 : ∀ x, SR M (noteM M ti T A x, T) 129 0 := fun x => ⟨(note_st h ti T A x).mono (by omega) (by omega), hT⟩; unfold plainF
 split
 ·exact h0 (hT.set _ hI)
 split
 ·exact h0 (hT.set _ (hT _))
 split
 ·exact h1 _
 split
 ·exact h1 _
 split
 ·exact h1 _
 split
 ·have h2 := remoteF_st h M.bufs.length
  have h3 := h.nb; have h4 := h.nt1; exact ⟨(h2.trans (note_st h2.ok ti T A _)).mono (by omega) (by omega), hT⟩
 split
 ·exact h0 (hT.set _ (alu_u _ (hT _) (hT _)))
 ·exact h0 hT
def endF (M : Mac) (ti : Nat) (T : Th) (k s : Int) : MT := (noteM M ti (setS T s) 0 (ev k 0 0 0 false), setS T s)
theorem end_st {M : Mac} (h : MOk M) (ti : Nat) {T : Th} (hT : RU T) (k s : Int) : SR M (endF M ti T k s) 1 0 := ⟨note_st h ti _ _ _, hT⟩
def addrF (T : Th) (I : Ins) : Int := if I.b < 0 ∨ 8 ≤ I.b then I.k else (T.regs I.b.toNat + I.k) % 4294967296
theorem addr_u {T : Th} (hT : RU T) {I : Ins} (hI : U32 I.k) : U32 (addrF T I) := by
 unfold addrF; split
 ·exact hI
 ·exact ⟨by omega, by omega⟩
def goesB (T : Th) (I : Ins) : Bool := if I.op = 13 then true else if I.op = 14 then T.regs I.a.toNat == 0 else !(T.regs I.a.toNat == 0)
def nextT (X : MT) : MT := (X.1, { X.2 with pc := X.2.pc + 1 })
def insF (M : Mac) (ti : Nat) (T : Th) (I : Ins) (A : Int) : MT :=
 if (drainB I.op = true ∧ lenB M ti ≠ 0) ∨ (I.op = 17 ∧ fullB M ti = true) then (flushT M ti, T)
 else if I.op = 0 then endF M ti T 12 2
 else if jumpB I.op = true then (if goesB T I = true then (M, { T with pc := I.k }) else nextT (M, T))
 else if asksB I.op = true then nextT (asksF M ti T I A)
 else nextT (plainF M ti T I A)
def coreI (M : Mac) (ti : Nat) (T : Th) (I : Ins) (n : Nat) : MT :=
 if rightB I n = false then endF M ti T 13 3
 else if asksB I.op = true then (if (M.mem.length : Int) ≤ addrF T I then endF M ti T 13 3 else insF M ti T I (addrF T I))
 else insF M ti T I 0
def coreF (M : Mac) (ti : Nat) (T : Th) (code : List Ins) : MT :=
 if T.st = 0 then (if T.pc < 0 then endF M ti T 12 2 else match code[T.pc.toNat]? with
  | some I => coreI M ti T I code.length
  | none => endF M ti T 12 2)
 else (M, T)
theorem ins_st {M : Mac} (h : MOk M) {ti : Nat} (hi : ti < M.threads.length) {T : Th} (hT : RU T) {I : Ins} (hI : U32 I.k) {A : Int} (hA : asksB I.op = true → 0 ≤ A ∧ A < M.mem.length) (hs : M.slp.length ≤ 80000) : SR M (insF M ti T I A) 129 1 := by
 have up : ∀ {X : MT} {k s}, SR M X k s → k ≤ 129 → s ≤ 1 → SR M X 129 1 := fun h a b => ⟨h.st.mono a b, h.ru⟩
 unfold insF
 split
 ·exact ⟨(flushT_st h ti).mono (by omega) (by omega), hT⟩
 rename_i hn
 split
 ·exact up (end_st h ti hT _ _) (by omega) (by omega)
 split
 ·split
  ·exact ⟨(St.refl h).mono (by omega) (by omega), hT⟩
  ·exact ⟨(St.refl h).mono (by omega) (by omega), hT⟩
 split
 ·rename_i ha
  have h1 := asks_st h hi hT (I := I) (hA ha) (fun e => by
   cases hf : fullB M ti with
   | false => rfl
   | true => exact absurd (.inr ⟨e, hf⟩) hn) hs
  exact ⟨h1.st.mono (by omega) (by omega), h1.ru⟩
 ·have h1 := plain_st h ti hT hI A
  exact ⟨h1.st.mono (by omega) (by omega), h1.ru⟩
theorem coreI_st {M : Mac} (h : MOk M) {ti : Nat} (hi : ti < M.threads.length) {T : Th} (hT : RU T) {I : Ins} (hI : U32 I.k) (n : Nat) (hs : M.slp.length ≤ 80000) : SR M (coreI M ti T I n) 129 1 := by
 have he : ∀ k s, SR M (endF M ti T k s) 129 1 := fun k s => ⟨(end_st h ti hT k s).st.mono (by omega) (by omega), hT⟩; unfold coreI
 split
 ·exact he _ _
 split
 ·split
  ·exact he _ _
  ·rename_i h1; exact ins_st h hi hT hI (fun _ => ⟨(addr_u hT hI).1, by omega⟩) hs
 ·rename_i h1; exact ins_st h hi hT hI (fun e => absurd e h1) hs
theorem core_st {M : Mac} (h : MOk M) {ti : Nat} (hi : ti < M.threads.length) {T : Th} (hT : RU T) {code : List Ins} (hc : KOk code) (hs : M.slp.length ≤ 80000) : SR M (coreF M ti T code) 129 1 := by
 have he : ∀ k s, SR M (endF M ti T k s) 129 1 := fun k s => ⟨(end_st h ti hT k s).st.mono (by omega) (by omega), hT⟩; unfold coreF
 split
 ·split
  ·exact he _ _
  ·split
   ·rename_i I hI; exact coreI_st h hi hT (hc I (List.mem_of_getElem? hI)) _ hs
   ·exact he _ _
 ·exact ⟨(St.refl h).mono (by omega) (by omega), hT⟩
def stepF (M : Mac) (ti : Nat) : Mac := match M.threads[ti]? with
 | some T => putT (coreF M ti T (M.codes.getD ti [])).1 ti (coreF M ti T (M.codes.getD ti [])).2
 | none => M
theorem step_st {M : Mac} (h : MOk M) {ti : Nat} (hi : ti < M.threads.length) (hs : M.slp.length ≤ 80000) : St M (stepF M ti) 129 1 := by
 unfold stepF
 split
 ·rename_i T hT
  have hc : KOk (M.codes.getD ti []) := by
   have h1 : ti < M.codes.length := h.nc ▸ hi; rw [List.getD_eq_getElem?_getD, List.getElem?_eq_getElem h1]; exact (h.codes _ (List.getElem_mem h1)).1
  have h1 := core_st h hi (h.regs T (List.mem_of_getElem? hT)) hc hs; exact h1.st.trans (put_st h1.st.ok ti h1.ru)
 ·exact (St.refl h).mono (by omega) (by omega)
def rouseM (M : Mac) (ti : Nat) : Mac := if (rouseF M.slp ti).2 = true then { M with slp := (rouseF M.slp ti).1, threads := setSt M.threads ti 0, evs := M.evs ++ [⟨11, ti, 0, 0, 0, 0, 0, false⟩] } else M
theorem rouse_sub (l : List Slp) (who : Int) : (∀ s ∈ (rouseF l who).1, s ∈ l) ∧ (rouseF l who).1.length ≤ l.length := by
 unfold rouseF
 split
 ·rename_i k hk
  obtain ⟨x, hx, _⟩ := fstI_lt hk; have := (List.getElem?_eq_some_iff.1 hx).1; refine ⟨fun s hs => ?_, by simp only [List.length_append, List.length_take, List.length_drop]; omega⟩; rcases List.mem_append.1 hs with h1 | h1
  ·exact List.mem_of_mem_take h1
  ·exact List.mem_of_mem_drop h1
 ·exact ⟨fun s h => h, Nat.le_refl _⟩
theorem rouse_st {M : Mac} (h : MOk M) (ti : Nat) : St M (rouseM M ti) 129 1 := by
 unfold rouseM
 split
 ·obtain ⟨h1, h2⟩ := rouse_sub M.slp ti
  have hl := setSt_len M.threads ti 0; exact ⟨⟨by simp only [hl]; exact h.nt0, by simp only [hl]; exact h.nt1, by simp only [hl]; exact h.nb, by simp only [hl]; exact h.nc, h.mem, h.memU, h.bufs, fun s hs => by simp only [hl]; exact h.slp s (h1 s hs), setSt_regs h.regs, h.codes⟩, by simp, by simp only; omega, ⟨_, rfl⟩, hl, rfl, rfl⟩
 ·exact (St.refl h).mono (by omega) (by omega)
def pickF (M : Mac) (x : Pik) : Mac := if x.who < 0 ∨ (M.threads.length : Int) ≤ x.who then M
 else if x.kind = 0 then stepF M x.who.toNat
 else if x.kind = 1 then flushT M x.who.toNat
 else if x.kind = 2 then rouseM M x.who.toNat
 else M
theorem pick_st {M : Mac} (h : MOk M) (x : Pik) (hs : M.slp.length ≤ 80000) : St M (pickF M x) 129 1 := by
 unfold pickF
 split
 ·exact (St.refl h).mono (by omega) (by omega)
 split
 ·exact step_st h (by omega) hs
 split
 ·exact (flushT_st h _).mono (by omega) (by omega)
 split
 ·exact rouse_st h _
 ·exact (St.refl h).mono (by omega) (by omega)
def runF (M : Mac) (l : List Pik) : Mac := l.foldl pickF M
theorem run_st : ∀ (l : List Pik) {M : Mac}, MOk M → M.slp.length + l.length ≤ 80000 → St M (runF M l) (129 * l.length) l.length
 | [], M, h, _ => St.refl h
 | x :: l, M, h, hs => by
  simp only [List.length_cons] at hs ⊢; have h1 := pick_st h x (by omega); have h2 := h1.slp; exact (h1.trans (run_st l h1.ok (by omega))).mono (by omega) (by omega)
theorem run_app (M : Mac) (l l' : List Pik) : runF M (l ++ l') = runF (runF M l) l' := List.foldl_append
def pickOf (b : Int) : Pik := ⟨b / 8 % 3, b % 8⟩
end Go.Proofs.YtbcgngfbbbfebaaGreatDoor
namespace Go.Proofs.YtbcgngfbbbfebaaGreatDoor
open Go.RowKit
set_option maxRecDepth 100000
set_option maxHeartbeats 32000000
set_option linter.unusedVariables false
section
variable {P : Program} {ops : Array Oper} {md : Region.Mode} {Q : Exit → Act → World → Prop} {D : World → Prop}
def wpGrowL (P : Program) (md : Region.Mode) (ops : Array Oper) (D : World → Prop) (m F : Nat) (R : Act → Prop) : List Nat → Act → Prop
 | [], a => R a
 | k :: rest, a => ∃ o, ops[k]? = some o ∧ Region.wanted o (yielded ops a.tmps) = true ∧ ∃ v, (((anc md ops F m).contains k = true ∧ ∀ w, D w → growAt P o a w v) ∨ ∀ w, growAt P o a w v) ∧ wpGrowL P md ops D m F R rest (a.put o.dst v)
def lexL (md : Region.Mode) (ops : Array Oper) (m : Nat) : List Nat → Array Bool → Bool
 | [], _ => true
 | k :: is, listed => (Region.ready md ops listed).contains k && Region.free md ops listed k && (k != m) && lexL md ops m is (listed.setIfInBounds k true)
def markL : List Nat → Array Bool → Array Bool
 | [], l => l
 | k :: is, l => markL is (l.setIfInBounds k true)
theorem anyM_lexL {g m F : Nat} {R : Act → Prop} {w : World} (hs : Region.noSelect ops = true) (hQ : ∀ c a d v w, Q (.panic c) (Act.put a d v) w → Q (.panic c) a w) (om : Oper) (hm : ops[m]? = some om) :
  ∀ (is : List Nat) (listed : Array Bool) (a : Act), Closed md ops listed → lexL md ops m is listed = true →
   (∀ a', R a' → anyM P md ops D m Q g (markL is listed) a' w) → wpGrowL P md ops D m F R is a → anyM P md ops D m Q (is.length + g) listed a w := by
 intro is
 induction is with
 | nil => intro listed a _ _ hR h; rw [List.length_nil, Nat.zero_add]; exact hR a h
 | cons k is ih =>
  intro listed a hcl hB hR h; simp only [wpGrowL] at h; obtain ⟨o, h0, hw, v, hv, h'⟩ := h; simp only [lexL, Bool.and_eq_true, bne_iff_ne, ne_eq] at hB; obtain ⟨⟨⟨hr, hf⟩, hne⟩, hB'⟩ := hB
  have hr' : k ∈ Region.ready md ops listed := by simpa using hr
  rw [show (k :: is).length + g = (is.length + g) + 1 by simp only [List.length_cons]; omega]; have next := ih _ _ (hcl.set hr') hB' hR h'; have hmm : (listed.setIfInBounds k true).getD m false = listed.getD m false := getD_set_ne false hne; rcases hv with ⟨hanc, hv⟩ | hv
  ·refine anyM_first (E := D) h0 (Region.noSelect_spec hs) (fun c a w => hQ c a _ _ w) (fun listed w hcl hun hD => hD ?_) _ listed a w hcl (Region.free_spec h0 hf) hr' (.inl ⟨hw, hv⟩) next hmm
   rw [getD_set_ne false hne]
   cases hlm : listed.getD m false with
   | false => rfl
   | true =>
    have := anc_listed hcl F m om hm (hcl m om hm hlm) k (by simpa using hanc); rw [getD_both hun] at this; cases this
  ·exact anyM_first (E := fun _ => True) h0 (Region.noSelect_spec hs) (fun c a w => hQ c a _ _ w) (fun _ _ _ _ _ => trivial) _ listed a w hcl (Region.free_spec h0 hf) hr' (.inl ⟨hw, fun w _ => hv w⟩) next hmm
theorem grow_headL {id : Nat} {a : Act} {w : World} {l : List Oper} (is : List Nat) (m F : Nat) (D : World → Prop) (om : Oper) (hom : l.toArray[m]? = some om) (hm : P.follows .mixedOrders = true) (hs : Region.noSelect l.toArray = true)
  (hn : is.length ≤ l.length) (hB : lexL .any l.toArray m is (Array.replicate l.toArray.size false) = true)
  (h : wpGrowL P .any l.toArray D m F (fun a' => anyM P .any l.toArray D m (noP Q) (l.length - is.length) (markL is (Array.replicate l.toArray.size false)) a' w.drew) is a) : (Code.region id l.toArray true).wp P Q a w := by
 refine wp_mono (Q := noP Q) ?_ noP_imp; refine wp_region_any hm ?_
 have hc0 : Closed .any l.toArray (Array.replicate l.toArray.size false) := fun j oj _ hl => by rw [getD_replicate_false] at hl; cases hl
 have := anyM_lexL (md := .any) (g := l.length - is.length) (m := m) (F := F) (w := w.drew) hs (fun _ _ _ _ _ h => h) om hom is (Array.replicate l.toArray.size false) a hc0 hB (fun a' h => h) h
 rw [show is.length + (l.length - is.length) = l.toArray.size by simp <;> omega] at this
 exact wpAny_of_anyM _ _ _ _ this
theorem gl_nil {m F : Nat} {R : Act → Prop} {a : Act} (h : R a) : wpGrowL P md ops D m F R [] a := h
theorem gl_run {m F k : Nat} {R : Act → Prop} {a : Act} {o : Oper} {rest : List Nat} (h0 : ops[k]? = some o) (hw : Region.wanted o (yielded ops a.tmps) = true) (hanc : (anc md ops F m).contains k = true) (v : Value) (hv : ∀ w, D w → growAt P o a w v)
  (h : ∀ K : Act → Prop, (∀ a, wpGrowL P md ops D m F R rest a → K a) → K (a.put o.dst v)) : wpGrowL P md ops D m F R (k :: rest) a := by
 simp only [wpGrowL]; exact ⟨o, h0, hw, v, .inl ⟨hanc, hv⟩, h _ fun _ h => h⟩
theorem gl_free {m F k : Nat} {R : Act → Prop} {a : Act} {o : Oper} {rest : List Nat} (h0 : ops[k]? = some o) (hw : Region.wanted o (yielded ops a.tmps) = true) (v : Value) (hv : ∀ w, growAt P o a w v)
  (h : ∀ K : Act → Prop, (∀ a, wpGrowL P md ops D m F R rest a → K a) → K (a.put o.dst v)) : wpGrowL P md ops D m F R (k :: rest) a := by
 simp only [wpGrowL]; exact ⟨o, h0, hw, v, .inr hv, h _ fun _ h => h⟩
theorem op_stv {i : Nat} {K : Act → World → Prop} {o : Oper} {a : Act} {w : World} (hi : ops[i]? = some o) (hgd : o.guard = none) (ty : TypeId) (hsz : ∀ w, (sizeOf ty).run P w = .ok 1 w) (x y : Operand) (ho : o.op = .store ty x y) (b j : Nat) (v : Value) (hv : v.cells = #[v]) (hsv : ∀ (w : World) (p : Addr) (u : Value), w.cell? p = some u → w.frozen? p = false → (store p v).run P w = .ok () (w.setCell p v)) (cs : Array Value) (t : TypeId) (hx : a.eval x = .pointer (some ⟨b, j, none⟩)) (hy : a.eval y = v)
  (hg : w.heap[b]? = some (.cells cs t (0, 0))) (hj : j < cs.size)
  (hh : ∀ w', w'.heap[b]? = some (.cells (cs.setIfInBounds j v) t (0, 0)) → (∀ k, k ≠ b → w'.heap[k]? = w.heap[k]?) → (∀ B, B ≤ b → Below B w w') → K (a.put o.dst undef) w') : wpOp P ops Q i K a w := by
 unfold wpOp; simp only [hi]
 have hw : Region.wanted o (yielded ops a.tmps) = true := by simp [Region.wanted, hgd]
 rw [if_pos hw]; refine .inl ?_
 have hc : w.cell? ⟨b, j, none⟩ = some (cs[j]'hj) := by rw [cell_of_row w b j cs t _ hg]; exact Array.getElem?_eq_getElem hj
 have hst := hsv w ⟨b, j, none⟩ _ hc (frozen_of_row w b j cs t hg); unfold Oper.wp execOp; simp only [ho, hx, hy, Instr.storeAt, Instr.sureAddr, Sem.run_bind, Sem.run_pure, Result.andThen_ok]
 have h1 : (storeVar ty ⟨b, j, none⟩ v).run P w = .ok () (w.setCell ⟨b, j, none⟩ v) := by
  unfold storeVar; simp only [Sem.run_bind, hsz, hv, Result.andThen_ok]; simp [storeCells, add_off, hst]
 rw [h1]; exact hh _ (heap_setCell_same w b j cs t _ hg) (fun k hk => heap_setCell_other _ _ k _ hk) (fun B hB => (Below.refl B w).setCell (p := ⟨b, j, none⟩) hB _)
theorem ZF {m F k : Nat} {R : Act → Prop} {a a' : Act} {o : Oper} {rest : List Nat} {v : Value} (h : wpGrowL P md ops D m F R rest a') (h0 : ops[k]? = some o := by rfl) (hv : ∀ w, (execOp a.eval o).run P w = .ok (.value v) w := by intro w'; go_simp; try with_reducible rfl) (ha : a.put o.dst v = a' := by go_simp; try rfl) (hw : Region.wanted o (yielded ops a.tmps) = true := by rfl) : wpGrowL P md ops D m F R (k :: rest) a := by subst ha; exact gl_free h0 hw v (fun w => ga_value (hv w)) fun K hK => hK _ h
theorem ZR {m F k : Nat} {R : Act → Prop} {a a' : Act} {o : Oper} {rest : List Nat} {v : Value} (h : wpGrowL P md ops D m F R rest a') (h0 : ops[k]? = some o := by rfl) (hv : ∀ w, D w → (execOp a.eval o).run P w = .ok (.value v) w := by intro w' h'; go_simp; try with_reducible rfl) (ha : a.put o.dst v = a' := by go_simp; try rfl) (hw : Region.wanted o (yielded ops a.tmps) = true := by rfl) (hanc : (anc md ops F m).contains k = true := by kernel_rfl) : wpGrowL P md ops D m F R (k :: rest) a := by subst ha; exact gl_run h0 hw hanc v (fun w h' => ga_value (hv w h')) fun K hK => hK _ h
end
end Go.Proofs.YtbcgngfbbbfebaaGreatDoor
namespace Go.Proofs.YtbcgngfbbbfebaaGreatDoor
open Go.RowKit Go.Maps
set_option maxRecDepth 100000
set_option maxHeartbeats 32000000
set_option linter.unusedVariables false
def sdV (b ti : Nat) : Value := .agg #[.pointer (some ⟨b, 0, none⟩), .int .i64 ti]
def fnV (b ti g : Nat) : Value := .func (.func g) #[sdV b ti] #[]
def portL (b ti n : Nat) : List Value := [.int .i64 n, fnV b ti 104, fnV b ti 105, fnV b ti 106, fnV b ti 107, fnV b ti 60, fnV b ti 108, fnV b ti 109, fnV b ti 110, fnV b ti 111, fnV b ti 62]
def runC (b ti n : Nat) (T : Th) (I : Ins) (A : Int) : Array Value := #[.int .i64 T.pc, .int .u32 (T.regs 0), .int .u32 (T.regs 1), .int .u32 (T.regs 2), .int .u32 (T.regs 3), .int .u32 (T.regs 4), .int .u32 (T.regs 5), .int .u32 (T.regs 6), .int .u32 (T.regs 7), .int .i64 T.st,
 .int .i64 I.op, .int .i64 I.a, .int .i64 I.b, .int .i64 I.c, .int .u32 I.k, .int .i64 n, fnV b ti 104, fnV b ti 105, fnV b ti 106, fnV b ti 107, fnV b ti 60, fnV b ti 108, fnV b ti 109, fnV b ti 110, fnV b ti 111, fnV b ti 62, .int .i64 A]
section
variable {b ti n : Nat} {T : Th} {I : Ins} {A : Int}
theorem eight {P : Nat → Prop} {a : Nat} (ha : a < 8) (h : P 0 ∧ P 1 ∧ P 2 ∧ P 3 ∧ P 4 ∧ P 5 ∧ P 6 ∧ P 7) : P a := by
 obtain ⟨h0, h1, h2, h3, h4, h5, h6, h7⟩ := h
 match a, ha with
 | 0, _ => exact h0
 | 1, _ => exact h1
 | 2, _ => exact h2
 | 3, _ => exact h3
 | 4, _ => exact h4
 | 5, _ => exact h5
 | 6, _ => exact h6
 | 7, _ => exact h7
theorem runC_reg {a : Nat} (ha : a < 8) : (runC b ti n T I A)[1 + a]? = some (.int .u32 (T.regs a)) :=
 eight (P := fun a => (runC b ti n T I A)[1 + a]? = some (.int .u32 (T.regs a))) ha ⟨rfl, rfl, rfl, rfl, rfl, rfl, rfl, rfl⟩
theorem runC_setR {a : Nat} (ha : a < 8) (v : Int) : (runC b ti n T I A).setIfInBounds (1 + a) (.int .u32 v) = runC b ti n (setR T a v) I A :=
 eight (P := fun a => (runC b ti n T I A).setIfInBounds (1 + a) (.int .u32 v) = runC b ti n (setR T a v) I A) ha ⟨rfl, rfl, rfl, rfl, rfl, rfl, rfl, rfl⟩
theorem runC_st (s : Int) : (runC b ti n T I A).setIfInBounds 9 (.int .i64 s) = runC b ti n (setS T s) I A := rfl
theorem runC_pc (s : Int) : (runC b ti n T I A).setIfInBounds 0 (.int .i64 s) = runC b ti n { T with pc := s } I A := rfl
theorem runC_addr (s : Int) : (runC b ti n T I A).setIfInBounds 26 (.int .i64 s) = runC b ti n T I s := rfl
abbrev Or1 (F : Nat → Prop) (k : Nat) : Nat → Prop := fun j => F j ∨ j = k
structure RM (w : World) (b kR : Nat) (F : Nat → Prop) (M : Mac) (T : Th) (I : Ins) (A : Int) (ti n : Nat) : Prop where
 m : MMem w b F M
 r : w.heap[kR]? = some (.cells (runC b ti n T I A) 192 (0, 0))
 f : ¬ F kR
variable {w w' : World} {kR : Nat} {F F' : Nat → Prop} {M M' : Mac}
theorem RM.below (h : RM w b kR F M T I A ti n) (hb : Below w.heap.size w w') : RM w' b kR F M T I A ti n := ⟨h.m.below hb, keep h.r hb, h.f⟩
theorem Upd.or1 (h : Upd F F' w w') (k : Nat) : Upd (Or1 F k) (Or1 F' k) w w' := ⟨fun B hF hB => h.low B (fun j hj => hF j (.inl hj)) hB, fun j hj hn => h.blk j hj (fun e => hn (.inl e)), fun j hj => by
 rcases hj with h1 | h1
 ·rcases h.foot j h1 with h2 | h2
  ·exact .inl (.inl h2)
  ·exact .inr h2
 ·exact .inl (.inr h1)⟩
theorem RM.call (h : RM w b kR F M T I A ti n) (hM : MMem w' b F' M') (hU : Upd F F' w w') : RM w' b kR F' M' T I A ti n ∧ Upd (Or1 F kR) (Or1 F' kR) w w' := ⟨⟨hM, hU.kept h.r h.f, fun hF => by
 rcases hU.foot kR hF with h1 | h1
 ·exact h.f h1
 ·have := blk_lt h.r; omega⟩, hU.or1 kR⟩
theorem Own.kept {α : Type} {E : Enc α} {v : Value} {l : List α} {k : Nat} {cs : Array Value} {ty : TypeId} (h : Own E w v l) (hk : w.heap[k]? = some (.cells cs ty (0, 0))) (hne : E.ty ≠ ty) (p2 : ∀ j, j ≠ k → w'.heap[j]? = w.heap[j]?) : Own E w' v l := h.keep fun g e => p2 g (fun e' => by
 obtain ⟨cs', h5⟩ := h.blk e
 exact cells_ne h5 hk hne e')
theorem MMem.kept {k : Nat} {cs : Array Value} {ty : TypeId} (h : MMem w b F M) (hk : w.heap[k]? = some (.cells cs ty (0, 0))) (h1 : 104 ≠ ty ∧ 92 ≠ ty ∧ 153 ≠ ty ∧ 109 ≠ ty ∧ 33 ≠ ty ∧ 182 ≠ ty ∧ 35 ≠ ty ∧ 114 ≠ ty) (p2 : ∀ j, j ≠ k → w'.heap[j]? = w.heap[j]?) : MMem w' b F M := by
 obtain ⟨V, vs, h⟩ := h; obtain ⟨n1, n2, n3, n4, n5, n6, n7, n8⟩ := h1; exact ⟨V, vs, (p2 b (fun e => cells_ne h.blk hk n1 e)).trans h.blk, h.rc.kept hk n2 p2, ⟨h.cm.len, fun i v L e1 e2 => (h.cm.code i v L e1 e2).kept hk n8 p2⟩, h.rt.kept hk n3 p2, h.rf.kept hk n4 p2, h.rm.kept hk n5 p2, h.rk.kept hk n6 p2, h.re.kept hk n7 p2, h.foot⟩
theorem RM.put {cs : Array Value} {T' : Th} {I' : Ins} {A' : Int} (h : RM w b kR F M T I A ti n) (p1 : w'.heap[kR]? = some (.cells cs 192 (0, 0))) (e : cs = runC b ti n T' I' A') (p2 : ∀ j, j ≠ kR → w'.heap[j]? = w.heap[j]?) (p3 : ∀ B, B ≤ kR → Below B w w') : RM w' b kR F M T' I' A' ti n ∧ Upd (Or1 F kR) (Or1 F kR) w w' := ⟨⟨h.m.kept h.r (by decide) p2, by rw [← e]; exact p1, h.f⟩, ⟨fun B hF hB => p3 B (hF kR (.inr rfl)), fun j hj hn => p2 j (fun e => hn (.inr e)), fun j hj => .inl hj⟩⟩
theorem RM.fresh (h : RM w b kR F M T I A ti n) {k : Nat} (hk : w.heap.size ≤ k) : k ≠ kR ∧ ¬ F k := ⟨fun e => by have := blk_lt h.r; omega, fun e => by have := h.m.lt k e; omega⟩
end
end Go.Proofs.YtbcgngfbbbfebaaGreatDoor
