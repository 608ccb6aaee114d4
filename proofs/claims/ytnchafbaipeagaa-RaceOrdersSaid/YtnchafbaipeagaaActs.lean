/- The walks: which acts are acts, which are against each other, which are known. -/
import Derived.Test.YtnchafbaipeagaaFns
import Derived.Test.YtnchafbaipeagaaLaw
namespace Go.Proofs.Ytnchafbaipeagaa
open Go.RowKit
set_option linter.unusedVariables false
set_option linter.unusedSimpArgs false

def act (x : Plain.A) : Value := .agg #[.int .i64 x.kind, .int .i64 x.who, .int .i64 x.place]

theorem Right (x : Plain.A) (w : World) : Calls Try.prog 13 #[act x] w fun e w' => e = .returned (.bool (Plain.right x)) ∧ Below w.heap.size w w' := by
  obtain ⟨k, u, p⟩ := x
  unfold act
  have hal := (Below.refl w.heap.size w).alloc (Nat.le_refl _) (.cells #[.int .i64 k, .int .i64 u, .int .i64 p] 34)
  by_cases h1 : 1 ≤ k
  · by_cases h2 : k ≤ 4
    · by_cases h3 : 0 ≤ u
      · by_cases h4 : u < 8
        · have hr : Plain.right ⟨k, u, p⟩ = true := by simp [Plain.right]; omega
          rw [hr]; clear hr
          go_enter Try.func13, Try.ntmps13
          go_wp2
          go_ret
          exact ⟨rfl, hal⟩
        · have hr : Plain.right ⟨k, u, p⟩ = false := by simp [Plain.right]; omega
          rw [hr]; clear hr
          go_enter Try.func13, Try.ntmps13
          go_wp2
          go_ret
          exact ⟨rfl, hal⟩
      · have hr : Plain.right ⟨k, u, p⟩ = false := by simp [Plain.right]; omega
        rw [hr]; clear hr
        go_enter Try.func13, Try.ntmps13
        go_wp2
        go_ret
        exact ⟨rfl, hal⟩
    · have hr : Plain.right ⟨k, u, p⟩ = false := by simp [Plain.right]; omega
      rw [hr]; clear hr
      go_enter Try.func13, Try.ntmps13
      go_wp2
      go_ret
      exact ⟨rfl, hal⟩
  · have hr : Plain.right ⟨k, u, p⟩ = false := by simp [Plain.right]; omega
    rw [hr]; clear hr
    go_enter Try.func13, Try.ntmps13
    go_wp2
    go_ret
    exact ⟨rfl, hal⟩

def Acts (w : World) (A : Option Addr) (n : Nat) (f : Nat → Plain.A) : Prop :=
  0 < n → ∃ b off, A = some ⟨b, off, none⟩ ∧ b < w.heap.size ∧ ∀ i, i < n → w.cell? ⟨b, off + i * 3, none⟩ = some (.int .i64 (f i).kind) ∧ w.cell? ⟨b, off + i * 3 + 1, none⟩ = some (.int .i64 (f i).who) ∧ w.cell? ⟨b, off + i * 3 + 2, none⟩ = some (.int .i64 (f i).place)
/-- the clocks, one behind the other -/
def Clks (w : World) (V : Option Addr) (n : Nat) (c : Nat → Nat → Int) : Prop :=
  0 < n → ∃ g, V = some ⟨g, 0, none⟩ ∧ g < w.heap.size ∧ ∀ i t, i < n → t < 8 → w.cell? ⟨g, i * 8 + t, none⟩ = some (.int .u32 (c i t))

theorem known (A V : Option Addr) (n cn cv : Nat) (f : Nat → Plain.A) (c : Nat → Nat → Int) (i k : Nat) (hi : i < n) (hk : k < n) (hn : n ≤ 4000) (u : Nat) (hu : u < 8) (hw : (f i).who = u) (w : World) (hA : Acts w A n f) (hV : Clks w V n c) :
    Calls Try.prog 18 #[.slice A n cn, .slice V n cv, .int .i64 i, .int .i64 k] w fun e w' => e = .returned (.bool (decide (c i u ≤ c k u))) ∧ Below w.heap.size w w' := by
  obtain ⟨b, off, rfl, hb, ha⟩ := hA (by omega)
  obtain ⟨g, rfl, hg, hc⟩ := hV (by omega)
  obtain ⟨a0, a1, a2⟩ := ha i hi
  rw [hw] at a1
  have c0 := hc i u hi hu
  have c1 := hc k u hk hu
  clear ha hc hw hA hV
  go_enter Try.func18, Try.ntmps18
  have hu0 : (0 : Int) ≤ u := by omega
  have hu8 : (u : Int) < 8 := by omega
  have hB : Below w.heap.size w w := Below.refl _ _
  go_wp2_with fail
  refine quiet_all (fun w' => Below w.heap.size w w') (by kernel_rfl) (by kernel_rfl) (Below.drew (Below.refl _ _)) ?_
  refine q_run rfl (fun K hK => ?_)
  refine q_value ?_ (fun w' h' => ?_) ?_
  rotate_left
  · go_simp; try with_reducible rfl
  go_simp
  refine hK _ ?_
  clear hK K
  refine q_run rfl (fun K hK => ?_)
  refine q_value ?_ (fun w' h' => ?_) ?_
  rotate_left
  · go_simp; try with_reducible rfl
  go_simp
  refine hK _ ?_
  clear hK K
  refine q_run rfl (fun K hK => ?_)
  refine q_value ?_ (fun w' h' => ?_) ?_
  rotate_left
  · go_simp; try with_reducible rfl
  go_simp
  refine hK _ ?_
  clear hK K
  refine q_run rfl (fun K hK => ?_)
  refine q_value ?_ (fun w' h' => ?_) ?_
  rotate_left
  · go_simp; try with_reducible rfl
  go_simp
  refine hK _ ?_
  clear hK K
  refine q_run rfl (fun K hK => ?_)
  refine q_value ?_ (fun w' h' => ?_) ?_
  rotate_left
  · go_simp; try with_reducible rfl
  go_simp
  refine hK _ ?_
  clear hK K
  refine q_run rfl (fun K hK => ?_)
  refine q_value ?_ (fun w' h' => ?_) ?_
  rotate_left
  · go_simp; try with_reducible rfl
  go_simp
  refine hK _ ?_
  clear hK K
  refine q_run rfl (fun K hK => ?_)
  refine q_value ?_ (fun w' h' => ?_) ?_
  rotate_left
  · have c := (h'.cell (p := ⟨b, off + i * 3 + 1, none⟩) hb).trans a1; go_simp; try with_reducible rfl
  go_simp
  refine hK _ ?_
  clear hK K
  refine q_run rfl (fun K hK => ?_)
  refine q_value ?_ (fun w' h' => ?_) ?_
  rotate_left
  · go_simp; try with_reducible rfl
  go_simp
  refine hK _ ?_
  clear hK K
  refine q_run rfl (fun K hK => ?_)
  refine q_value ?_ (fun w' h' => ?_) ?_
  rotate_left
  · go_simp; try with_reducible rfl
  go_simp
  refine hK _ ?_
  clear hK K
  refine q_run rfl (fun K hK => ?_)
  refine q_value ?_ (fun w' h' => ?_) ?_
  rotate_left
  · have c := (h'.cell (p := ⟨g, k * 8 + u, none⟩) hg).trans c1; go_simp; try with_reducible rfl
  go_simp
  refine hK _ ?_
  clear hK K
  refine q_run rfl (fun K hK => ?_)
  refine q_value ?_ (fun w' h' => ?_) ?_
  rotate_left
  · go_simp; try with_reducible rfl
  go_simp
  refine hK _ ?_
  clear hK K
  refine q_run rfl (fun K hK => ?_)
  refine q_value ?_ (fun w' h' => ?_) ?_
  rotate_left
  · go_simp; try with_reducible rfl
  go_simp
  refine hK _ ?_
  clear hK K
  refine q_run rfl (fun K hK => ?_)
  refine q_value ?_ (fun w' h' => ?_) ?_
  rotate_left
  · go_simp; try with_reducible rfl
  go_simp
  refine hK _ ?_
  clear hK K
  refine q_run rfl (fun K hK => ?_)
  refine q_value ?_ (fun w' h' => ?_) ?_
  rotate_left
  · go_simp; try with_reducible rfl
  go_simp
  refine hK _ ?_
  clear hK K
  refine q_run rfl (fun K hK => ?_)
  refine q_value ?_ (fun w' h' => ?_) ?_
  rotate_left
  · go_simp; try with_reducible rfl
  go_simp
  refine hK _ ?_
  clear hK K
  refine q_run rfl (fun K hK => ?_)
  refine q_value ?_ (fun w' h' => ?_) ?_
  rotate_left
  · go_simp; try with_reducible rfl
  go_simp
  refine hK _ ?_
  clear hK K
  refine q_run rfl (fun K hK => ?_)
  refine q_value ?_ (fun w' h' => ?_) ?_
  rotate_left
  · have c := (h'.cell (p := ⟨b, off + i * 3 + 1, none⟩) hb).trans a1; go_simp; try with_reducible rfl
  go_simp
  refine hK _ ?_
  clear hK K
  refine q_run rfl (fun K hK => ?_)
  refine q_value ?_ (fun w' h' => ?_) ?_
  rotate_left
  · go_simp; try with_reducible rfl
  go_simp
  refine hK _ ?_
  clear hK K
  refine q_run rfl (fun K hK => ?_)
  refine q_value ?_ (fun w' h' => ?_) ?_
  rotate_left
  · go_simp; try with_reducible rfl
  go_simp
  refine hK _ ?_
  clear hK K
  refine q_run rfl (fun K hK => ?_)
  refine q_value ?_ (fun w' h' => ?_) ?_
  rotate_left
  · have c := (h'.cell (p := ⟨g, i * 8 + u, none⟩) hg).trans c0; go_simp; try with_reducible rfl
  go_simp
  refine hK _ ?_
  clear hK K
  refine q_run rfl (fun K hK => ?_)
  refine q_value ?_ (fun w' h' => ?_) ?_
  rotate_left
  · go_simp; try with_reducible rfl
  go_simp
  refine hK _ ?_
  clear hK K
  refine q_run rfl (fun K hK => ?_)
  refine q_value ?_ (fun w' h' => ?_) ?_
  rotate_left
  · go_simp; try with_reducible rfl
  go_simp
  refine hK _ ?_
  clear hK K
  refine qd_nil ?_
  intro w1 h1
  replace hB := hB.trans (h1.mono hB.size)
  clear h1
  go_wp2
  go_ret
  exact ⟨rfl, hB⟩

set_option maxHeartbeats 4000000 in
theorem against (x y : Plain.A) (w : World) : Calls Try.prog 17 #[act x, act y] w fun e w' => e = .returned (.bool (Plain.against x y)) ∧ Below w.heap.size w w' := by
  have hrx := Right x
  have hry := Right y
  unfold Plain.against
  unfold act at *
  cases rx : Plain.right x
  · rw [rx] at hrx
    simp only [Bool.false_and]
    clear rx
    go_enter Try.func17, Try.ntmps17
    go_wp2_with fail
    refine (hrx _).mono ?_
    rintro e w1 ⟨rfl, hb1⟩
    obtain ⟨hc1, hf1⟩ := bcell hb1
    have hz1 := hb1.size
    simp only [World.size_alloc] at hz1
    go_wp2
    go_ret
    exact ⟨rfl, (below2 w _ _).trans (hb1.mono (by simp; omega))⟩
  · rw [rx] at hrx
    cases ry : Plain.right y
    · rw [ry] at hry
      simp only [Bool.true_and, Bool.false_and]
      clear rx ry
      go_enter Try.func17, Try.ntmps17
      go_wp2_with fail
      refine (hrx _).mono ?_
      rintro e w1 ⟨rfl, hb1⟩
      obtain ⟨hc1, hf1⟩ := bcell hb1
      have hz1 := hb1.size
      simp only [World.size_alloc] at hz1
      go_wp2_with fail
      refine (hry _).mono ?_
      rintro e w2 ⟨rfl, hb2⟩
      obtain ⟨hc2, hf2⟩ := bcell hb2
      have hl0 : w.heap.size < w1.heap.size := by omega
      have hl1 : w.heap.size + 1 < w1.heap.size := by omega
      go_wp2
      go_ret
      exact ⟨rfl, ((below2 w _ _).trans (hb1.mono (by simp; omega))).trans (hb2.mono (by omega))⟩
    · rw [ry] at hry
      clear rx ry
      by_cases k1 : x.kind ≤ 2
      · by_cases k2 : y.kind ≤ 2
        · by_cases p1 : x.place = y.place
          · have q1 : (x.place == y.place) = true := by simp [p1]
            by_cases t1 : x.kind = 2
            · have q2 : (x.kind == 2) = true := by simp [t1]
              rw [show (true && true && decide (x.kind ≤ 2) && decide (y.kind ≤ 2) && decide (x.place = y.place) && (decide (x.kind = 2) || decide (y.kind = 2))) = true by simp [k1, k2, p1, t1]]
              clear p1 t1
              go_enter Try.func17, Try.ntmps17
              go_wp2_with fail
              refine (hrx _).mono ?_
              rintro e w1 ⟨rfl, hb1⟩
              obtain ⟨hc1, hf1⟩ := bcell hb1
              have hz1 := hb1.size
              simp only [World.size_alloc] at hz1
              go_wp2_with fail
              refine (hry _).mono ?_
              rintro e w2 ⟨rfl, hb2⟩
              obtain ⟨hc2, hf2⟩ := bcell hb2
              have hl0 : w.heap.size < w1.heap.size := by omega
              have hl1 : w.heap.size + 1 < w1.heap.size := by omega
              go_wp2
              go_ret
              exact ⟨rfl, ((below2 w _ _).trans (hb1.mono (by simp; omega))).trans (hb2.mono (by omega))⟩
            · have q2 : (x.kind == 2) = false := by simp [t1]
              by_cases t2 : y.kind = 2
              · have q3 : (y.kind == 2) = true := by simp [t2]
                rw [show (true && true && decide (x.kind ≤ 2) && decide (y.kind ≤ 2) && decide (x.place = y.place) && (decide (x.kind = 2) || decide (y.kind = 2))) = true by simp [k1, k2, p1, t1, t2]]
                clear p1 t1 t2
                go_enter Try.func17, Try.ntmps17
                go_wp2_with fail
                refine (hrx _).mono ?_
                rintro e w1 ⟨rfl, hb1⟩
                obtain ⟨hc1, hf1⟩ := bcell hb1
                have hz1 := hb1.size
                simp only [World.size_alloc] at hz1
                go_wp2_with fail
                refine (hry _).mono ?_
                rintro e w2 ⟨rfl, hb2⟩
                obtain ⟨hc2, hf2⟩ := bcell hb2
                have hl0 : w.heap.size < w1.heap.size := by omega
                have hl1 : w.heap.size + 1 < w1.heap.size := by omega
                go_wp2
                go_ret
                exact ⟨rfl, ((below2 w _ _).trans (hb1.mono (by simp; omega))).trans (hb2.mono (by omega))⟩
              · have q3 : (y.kind == 2) = false := by simp [t2]
                rw [show (true && true && decide (x.kind ≤ 2) && decide (y.kind ≤ 2) && decide (x.place = y.place) && (decide (x.kind = 2) || decide (y.kind = 2))) = false by simp [t1, t2]]
                clear p1 t1 t2
                go_enter Try.func17, Try.ntmps17
                go_wp2_with fail
                refine (hrx _).mono ?_
                rintro e w1 ⟨rfl, hb1⟩
                obtain ⟨hc1, hf1⟩ := bcell hb1
                have hz1 := hb1.size
                simp only [World.size_alloc] at hz1
                go_wp2_with fail
                refine (hry _).mono ?_
                rintro e w2 ⟨rfl, hb2⟩
                obtain ⟨hc2, hf2⟩ := bcell hb2
                have hl0 : w.heap.size < w1.heap.size := by omega
                have hl1 : w.heap.size + 1 < w1.heap.size := by omega
                go_wp2
                go_ret
                exact ⟨rfl, ((below2 w _ _).trans (hb1.mono (by simp; omega))).trans (hb2.mono (by omega))⟩
          · have q1 : (x.place == y.place) = false := by simp [p1]
            rw [show (true && true && decide (x.kind ≤ 2) && decide (y.kind ≤ 2) && decide (x.place = y.place) && (decide (x.kind = 2) || decide (y.kind = 2))) = false by simp [p1]]
            clear p1
            go_enter Try.func17, Try.ntmps17
            go_wp2_with fail
            refine (hrx _).mono ?_
            rintro e w1 ⟨rfl, hb1⟩
            obtain ⟨hc1, hf1⟩ := bcell hb1
            have hz1 := hb1.size
            simp only [World.size_alloc] at hz1
            go_wp2_with fail
            refine (hry _).mono ?_
            rintro e w2 ⟨rfl, hb2⟩
            obtain ⟨hc2, hf2⟩ := bcell hb2
            have hl0 : w.heap.size < w1.heap.size := by omega
            have hl1 : w.heap.size + 1 < w1.heap.size := by omega
            go_wp2
            go_ret
            exact ⟨rfl, ((below2 w _ _).trans (hb1.mono (by simp; omega))).trans (hb2.mono (by omega))⟩
        · rw [show (true && true && decide (x.kind ≤ 2) && decide (y.kind ≤ 2) && decide (x.place = y.place) && (decide (x.kind = 2) || decide (y.kind = 2))) = false by simp [k2]]
          go_enter Try.func17, Try.ntmps17
          go_wp2_with fail
          refine (hrx _).mono ?_
          rintro e w1 ⟨rfl, hb1⟩
          obtain ⟨hc1, hf1⟩ := bcell hb1
          have hz1 := hb1.size
          simp only [World.size_alloc] at hz1
          go_wp2_with fail
          refine (hry _).mono ?_
          rintro e w2 ⟨rfl, hb2⟩
          obtain ⟨hc2, hf2⟩ := bcell hb2
          have hl0 : w.heap.size < w1.heap.size := by omega
          have hl1 : w.heap.size + 1 < w1.heap.size := by omega
          go_wp2
          go_ret
          exact ⟨rfl, ((below2 w _ _).trans (hb1.mono (by simp; omega))).trans (hb2.mono (by omega))⟩
      · rw [show (true && true && decide (x.kind ≤ 2) && decide (y.kind ≤ 2) && decide (x.place = y.place) && (decide (x.kind = 2) || decide (y.kind = 2))) = false by simp [k1]]
        go_enter Try.func17, Try.ntmps17
        go_wp2_with fail
        refine (hrx _).mono ?_
        rintro e w1 ⟨rfl, hb1⟩
        obtain ⟨hc1, hf1⟩ := bcell hb1
        have hz1 := hb1.size
        simp only [World.size_alloc] at hz1
        go_wp2_with fail
        refine (hry _).mono ?_
        rintro e w2 ⟨rfl, hb2⟩
        obtain ⟨hc2, hf2⟩ := bcell hb2
        have hl0 : w.heap.size < w1.heap.size := by omega
        have hl1 : w.heap.size + 1 < w1.heap.size := by omega
        go_wp2
        go_ret
        exact ⟨rfl, ((below2 w _ _).trans (hb1.mono (by simp; omega))).trans (hb2.mono (by omega))⟩
end Go.Proofs.Ytnchafbaipeagaa
