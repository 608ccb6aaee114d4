/- The walks of the functions on clocks: what each computes. -/
import Derived.Test.YtnchafbaipeagaaChecked
import Derived.Test.YtnchafbaipeagaaBase
import Derived.StillTactics
import Derived.DeepKeys
namespace Go.Proofs.Ytnchafbaipeagaa
open Go.RowKit
set_option linter.unusedVariables false

def mx (a b : Int) : Int := if b > a then b else a
def vc (f : Nat → Int) : Array Value := #[.int .u32 (f 0), .int .u32 (f 1), .int .u32 (f 2), .int .u32 (f 3), .int .u32 (f 4), .int .u32 (f 5), .int .u32 (f 6), .int .u32 (f 7)]

theorem more (a b : Int) (w : World) : Calls Try.prog 23 #[.int .u32 a, .int .u32 b] w fun e w' => e = .returned (.int .u32 (mx a b)) ∧ w' = w := by
  unfold mx
  go_enter Try.func23, Try.ntmps23
  go_wp2
  all_goals (go_ret; exact ⟨rfl, rfl⟩)
theorem below3 (w : World) (o1 o2 o3 : Obj) : Below w.heap.size w (((w.alloc o1).alloc o2).alloc o3) :=
  (((Below.refl _ _).alloc (Nat.le_refl _) _).alloc (by simp) _).alloc (by simp; omega) _
theorem below2 (w : World) (o1 o2 : Obj) : Below w.heap.size w ((w.alloc o1).alloc o2) :=
  ((Below.refl _ _).alloc (Nat.le_refl _) _).alloc (by simp) _

set_option maxHeartbeats 1000000 in
theorem each_more (f g : Nat → Int) (w : World) : Calls Try.prog 22 #[.agg (vc f), .agg (vc g), .func (.func 23) #[] #[]] w fun e w' => e = .returned (.agg (vc fun i => mx (f i) (g i))) ∧ Below w.heap.size w w' := by
  unfold vc
  go_enter Try.func22, Try.ntmps22
  go_wp2
  refine wp_loop_rounds 9 ?_
  iterate 8
    rw [rounds_succ]
    go_wp2
    refine still_tail 10 (by kernel_rfl) (by kernel_rfl) ?_
    simp only [List.take_succ_cons, List.take_zero, List.drop_succ_cons, List.drop_zero]
    iterate 8 still_step
    still_call (more _ _ _)
    still_step
    refine wpStill_nil ?_
    go_wp2
  rw [rounds_succ]
  go_wp2
  exact bodyPost_ret (v := .agg #[.int .u32 (mx (f 0) (g 0)), .int .u32 (mx (f 1) (g 1)), .int .u32 (mx (f 2) (g 2)), .int .u32 (mx (f 3) (g 3)), .int .u32 (mx (f 4) (g 4)), .int .u32 (mx (f 5) (g 5)), .int .u32 (mx (f 6) (g 6)), .int .u32 (mx (f 7) (g 7))]) (by simp [results, Try.results22, go_sem]) rfl ⟨rfl, by repeat (first | exact below3 _ _ _ _ | refine Below.drew ?_)⟩

end Go.Proofs.Ytnchafbaipeagaa
