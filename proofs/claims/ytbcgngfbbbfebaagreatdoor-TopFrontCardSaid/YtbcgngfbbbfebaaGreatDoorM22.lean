/- Every word of the code of a call is one of 32 bits. -/
import Derived.Test.YtbcgngfbbbfebaaGreatDoorM21
import Derived.Test.YtbcgngfbbbfebaaGreatDoorM15
namespace Go.Proofs.YtbcgngfbbbfebaaGreatDoor
open Go.RowKit Go.Maps
set_option maxRecDepth 100000
set_option maxHeartbeats 32000000
set_option linter.unusedVariables false
set_option linter.unusedSimpArgs false
attribute [local simp] sz_alu sz_ask sz_beginS sz_biasedS sz_cas sz_changeS sz_claimS sz_clhInS sz_clhOutS sz_closeS sz_cond5S sz_cond6S sz_cond7S sz_cond8S sz_doutS sz_downS sz_emit sz_enterS sz_farS sz_finS sz_gdoneS sz_gmoreS sz_go sz_gwakeS sz_leaveS sz_mcsInS sz_mcsOutS sz_meetS sz_minS sz_mineS sz_moutS sz_mwakeS sz_otherS sz_passS sz_pinS sz_place sz_proveS sz_rclaimS sz_readS sz_rhasS sz_rreadS sz_rrelS sz_rsleepS sz_rwriteS sz_set sz_sinS sz_smoreS sz_takeS sz_tasS sz_ticketS sz_ttasS sz_upS sz_zero sz_zeroS
def BS.Wk (st : BS) : Prop := KOk st.code
theorem wk_zero : BS.zero.Wk := fun x h => by cases h
theorem wk_emit {st : BS} {x : Ins} (hx : 0 ≤ x.k ∧ x.k < 4294967296) (h : st.Wk) : (st.emit x).Wk := fun y hy => by
 rcases List.mem_append.1 (show y ∈ st.code ++ [x] from hy) with h1 | h1
 ·exact h y h1
 ·have : y = x := by simpa using h1
  subst this; exact hx
theorem wk_set {st : BS} {a k : Int} (hk : 0 ≤ k ∧ k < 4294967296) (h : st.Wk) : (st.set a k).Wk := wk_emit hk h
theorem wk_alu {st : BS} {op a x y : Int} (h : st.Wk) : (st.alu op a x y).Wk := wk_emit (by simp only; omega) h
theorem wk_ask {st : BS} {op a addr : Int} (hk : 0 ≤ addr ∧ addr < 4294967296) (h : st.Wk) : (st.ask op a addr).Wk := wk_emit hk h
theorem wk_cas {st : BS} {a c addr : Int} (hk : 0 ≤ addr ∧ addr < 4294967296) (h : st.Wk) : (st.cas a c addr).Wk := wk_emit hk h
theorem wk_go {st : BS} {op a : Int} {name : ByteArray} (h : st.Wk) : (st.go op a name).Wk := fun y hy => by
 rcases List.mem_append.1 (show y ∈ st.code ++ [⟨op, a, 0, 0, 0⟩] from hy) with h1 | h1
 ·exact h y h1
 ·have : y = ⟨op, a, 0, 0, 0⟩ := by simpa using h1
  subst this; unfold U32; simp only; omega
theorem wk_place {st : BS} {name : ByteArray} (h : st.Wk) : (st.place name).Wk := by
 have e : (st.place name).code = st.code := by unfold BS.place; split <;> rfl
 unfold BS.Wk; rw [e]; exact h
theorem setK_k {o : List Ins} {i : Nat} {k : Int} (hk : U32 k) (h : KOk o) : KOk (setK o i k) := by
 unfold setK
 split
 ·rename_i x hx
  intro y hy; rcases List.mem_or_eq_of_mem_set hy with h1 | h1
  ·exact h y h1
  ·subst h1; exact hk
 ·exact h
theorem linkStep_k (D : Plc) : ∀ (l : List Lnk) (O : Option (List Ins)), (∀ o, O = some o → KOk o) → ∀ o, l.foldl (linkStep D) O = some o → KOk o
 | [], O, h, o, e => h o e
 | x :: l, O, h, o, e => by
  refine linkStep_k D l _ (fun o' e' => ?_) o e; unfold linkStep at e'
  split at e'
  ·cases e'
  ·rename_i o1
   split at e'
   ·split at e'
    ·simp only [Option.some.injEq] at e'
     subst e'; exact setK_k ⟨by omega, by omega⟩ (h _ rfl)
    ·cases e'
   ·cases e'
theorem fin_wk {st : BS} (h : st.Wk) : KOk st.fin.1 := by
 unfold BS.fin
 split
 ·intro x hx; cases hx
 ·rename_i o ho
  split
  ·intro x hx; cases hx
  ·exact linkStep_k _ _ _ (fun o' e => by cases e; exact h) o ho
theorem wk_zeroS {st : BS} {addr : Int} (h_addr : 0 ≤ addr ∧ addr < 4294967296) (h : st.Wk) : (zeroS st addr).Wk := (wk_ask (by omega) (wk_set (by omega) h))
theorem wk_mineS {st : BS} {own t : Int} (h_own : 0 ≤ own ∧ own < 4294967296) (h : st.Wk) : (mineS st own t).Wk := (wk_alu (wk_set (by omega) (wk_ask (by omega) h)))
theorem wk_claimS {st : BS} {own t : Int} (h_own : 0 ≤ own ∧ own < 4294967296) (h : st.Wk) : (claimS st own t).Wk := (wk_place (wk_go (wk_set (by omega) (wk_go (wk_mineS (by omega) h)))))
theorem wk_proveS {st : BS} {own t : Int} (h_own : 0 ≤ own ∧ own < 4294967296) (h : st.Wk) : (proveS st own t).Wk := (wk_place (wk_go (wk_set (by omega) (wk_go (wk_mineS (by omega) h)))))
theorem wk_closeS {st : BS}  (h : st.Wk) : (closeS st ).Wk := (wk_place (wk_set (by omega) h))
theorem wk_tasS {st : BS} {base : Int} (h_base : 0 ≤ base ∧ base < 4294967296) (h : st.Wk) : (tasS st base).Wk := (wk_go (wk_cas (by omega) (wk_set (by omega) (wk_place h))))
theorem wk_ttasS {st : BS} {base : Int} (h_base : 0 ≤ base ∧ base < 4294967296) (h : st.Wk) : (ttasS st base).Wk := (wk_go (wk_cas (by omega) (wk_go (wk_ask (by omega) (wk_place h)))))
theorem wk_ticketS {st : BS} {base : Int} (h : st.Wk) : (ticketS st base).Wk := (wk_ask (by omega) (wk_go (wk_alu (wk_ask (by omega) (wk_place (wk_ask (by omega) (wk_set (by omega) h)))))))
theorem wk_passS {st : BS} {base : Int} (h : st.Wk) : (passS st base).Wk := (wk_ask (by omega) (wk_alu (wk_set (by omega) (wk_ask (by omega) (wk_zeroS (by omega) h)))))
theorem wk_takeS {st : BS} {base : Int} (h : st.Wk) : (takeS st base).Wk := (wk_go (wk_cas (by omega) (wk_set (by omega) (wk_place h))))
theorem wk_biasedS {st : BS} {base : Int} (h : st.Wk) : (biasedS st base).Wk := (wk_ask (by omega) (wk_place (wk_takeS (wk_zeroS (by omega) (wk_go (wk_ask (by omega) (wk_ask (by omega) (wk_set (by omega) h))))))))
theorem wk_otherS {st : BS} {base : Int} (h : st.Wk) : (otherS st base).Wk := (wk_ask (by omega) (wk_place (wk_go (wk_ask (by omega) (wk_place (wk_emit (by simp only; omega) (wk_ask (by omega) (wk_set (by omega) (wk_go (wk_ask (by omega) (wk_takeS h)))))))))))
theorem wk_leaveS {st : BS} {base : Int} (h : st.Wk) : (leaveS st base).Wk := (wk_place (wk_zeroS (by omega) (wk_place (wk_go (wk_zeroS (by omega) (wk_go (wk_alu (wk_ask (by omega) (wk_zeroS (by omega) h)))))))))
theorem wk_smoreS {st : BS} {base : Int} (h : st.Wk) : (smoreS st base).Wk := (wk_ask (by omega) (wk_set (by omega) h))
theorem wk_beginS {st : BS} {base : Int} (h : st.Wk) : (beginS st base).Wk := (wk_smoreS (wk_go (wk_cas (by omega) (wk_set (by omega) (wk_place h)))))
theorem wk_mwakeS {st : BS} {addr : Int} (h_addr : 0 ≤ addr ∧ addr < 4294967296) (h : st.Wk) : (mwakeS st addr).Wk := (wk_ask (by omega) (wk_set (by omega) h))
theorem wk_changeS {st : BS} {op base : Int} (h_base : 0 ≤ base ∧ base < 4294967296) (h : st.Wk) : (changeS st op base).Wk := (wk_go (wk_alu (wk_cas (by omega) (wk_emit (by simp only; omega) (wk_alu (wk_set (by omega) h))))))
theorem wk_downS {st : BS} {base : Int} (h_base : 0 ≤ base ∧ base < 4294967296) (h : st.Wk) : (downS st base).Wk := (wk_closeS (wk_changeS (by omega) (wk_place (wk_go (wk_ask (by omega) (wk_set (by omega) (wk_go (wk_ask (by omega) (wk_place h)))))))))
theorem wk_upS {st : BS} {base most : Int} (h_base : 0 ≤ base ∧ base < 4294967296) (h_most : 0 ≤ most ∧ most < 4294967296) (h : st.Wk) : (upS st base most).Wk := (wk_place (wk_set (by omega) (wk_place (wk_go (wk_set (by omega) (wk_mwakeS (by omega) (wk_changeS (by omega) (wk_go (wk_alu (wk_set (by omega) (wk_ask (by omega) (wk_place h))))))))))))
theorem wk_minS {st : BS} {base : Int} (h : st.Wk) : (minS st base).Wk := (wk_ask (by omega) (wk_place (wk_go (wk_ask (by omega) (wk_set (by omega) (wk_go (wk_ask (by omega) (wk_set (by omega) (wk_place (wk_go (wk_cas (by omega) (wk_set (by omega) (wk_set (by omega) h)))))))))))))
theorem wk_moutS {st : BS} {base : Int} (h : st.Wk) : (moutS st base).Wk := (wk_place (wk_mwakeS (by omega) (wk_go (wk_alu (wk_set (by omega) (wk_ask (by omega) (wk_set (by omega) (wk_zeroS (by omega) h))))))))
theorem wk_gmoreS {st : BS} {addr : Int} (h_addr : 0 ≤ addr ∧ addr < 4294967296) (h : st.Wk) : (gmoreS st addr).Wk := (wk_ask (by omega) (wk_set (by omega) h))
theorem wk_gwakeS {st : BS} {n addr : Int} (h_n : 0 ≤ n ∧ n < 4294967296) (h_addr : 0 ≤ addr ∧ addr < 4294967296) (h : st.Wk) : (gwakeS st n addr).Wk := (wk_ask (by omega) (wk_set (by omega) h))
theorem wk_farS {st : BS} {op a x k : Int} (h_k : 0 ≤ k ∧ k < 4294967296) (h : st.Wk) : (farS st op a x k).Wk := (wk_emit (by simp only; omega) h)
theorem wk_mcsInS {st : BS} {base n t : Int} (h_base : 0 ≤ base ∧ base < 4294967296) (h : st.Wk) : (mcsInS st base n t).Wk := (wk_ask (by omega) (wk_place (wk_go (wk_ask (by omega) (wk_place (wk_farS (by omega) (wk_go (wk_ask (by omega) (wk_set (by omega) (wk_ask (by omega) (wk_set (by omega) (wk_zeroS (by omega) h))))))))))))
theorem wk_mcsOutS {st : BS} {base n t : Int} (h_base : 0 ≤ base ∧ base < 4294967296) (h : st.Wk) : (mcsOutS st base n t).Wk := (wk_place (wk_farS (by omega) (wk_set (by omega) (wk_place (wk_go (wk_ask (by omega) (wk_place (wk_go (wk_alu (wk_cas (by omega) (wk_set (by omega) (wk_emit (by simp only; omega) (wk_go (wk_ask (by omega) (wk_zeroS (by omega) h)))))))))))))))
theorem wk_clhInS {st : BS} {base n t : Int} (h_base : 0 ≤ base ∧ base < 4294967296) (h : st.Wk) : (clhInS st base n t).Wk := (wk_ask (by omega) (wk_go (wk_farS (by omega) (wk_place (wk_ask (by omega) (wk_ask (by omega) (wk_farS (by omega) (wk_set (by omega) (wk_ask (by omega) h)))))))))
theorem wk_clhOutS {st : BS} {base n t : Int} (h : st.Wk) : (clhOutS st base n t).Wk := (wk_farS (by omega) (wk_set (by omega) (wk_ask (by omega) (wk_ask (by omega) (wk_ask (by omega) (wk_zeroS (by omega) h))))))
theorem wk_rclaimS {st : BS} {state mode : Int} (h_mode : 0 ≤ mode ∧ mode < 4294967296) (h : st.Wk) : (rclaimS st state mode).Wk := (wk_place (wk_place (wk_go (wk_set (by omega) (wk_go (wk_ask (by omega) h))))))
theorem wk_rsleepS {st : BS} {state mode : Int} (h_state : 0 ≤ state ∧ state < 4294967296) (h : st.Wk) : (rsleepS st state mode).Wk := (wk_go (wk_ask (by omega) h))
theorem wk_rhasS {st : BS} {state mode md : Int} (h_mode : 0 ≤ mode ∧ mode < 4294967296) (h_md : 0 ≤ md ∧ md < 4294967296) (h : st.Wk) : (rhasS st state mode md).Wk := (wk_ask (by omega) (wk_set (by omega) h))
theorem wk_rreadS {st : BS} {state mode : Int} (h_state : 0 ≤ state ∧ state < 4294967296) (h_mode : 0 ≤ mode ∧ mode < 4294967296) (h : st.Wk) : (rreadS st state mode).Wk := (wk_place (wk_rsleepS (by omega) (wk_place (wk_go (wk_set (by omega) (wk_rhasS (by omega) (by omega) (wk_go (wk_alu (wk_cas (by omega) (wk_emit (by simp only; omega) (wk_alu (wk_set (by omega) (wk_go (wk_alu (wk_set (by omega) (wk_ask (by omega) (wk_rclaimS (by omega) h)))))))))))))))))
theorem wk_rwriteS {st : BS} {state mode : Int} (h_state : 0 ≤ state ∧ state < 4294967296) (h_mode : 0 ≤ mode ∧ mode < 4294967296) (h : st.Wk) : (rwriteS st state mode).Wk := (wk_closeS (wk_rhasS (by omega) (by omega) (wk_place (wk_rsleepS (by omega) (wk_go (wk_cas (by omega) (wk_set (by omega) (wk_set (by omega) (wk_rclaimS (by omega) h)))))))))
theorem wk_rrelS {st : BS} {state mode : Int} (h_state : 0 ≤ state ∧ state < 4294967296) (h_mode : 0 ≤ mode ∧ mode < 4294967296) (h : st.Wk) : (rrelS st state mode).Wk := (wk_closeS (wk_place (wk_ask (by omega) (wk_set (by omega) (wk_place (wk_go (wk_alu (wk_set (by omega) (wk_ask (by omega) (wk_set (by omega) (wk_place (wk_go (wk_ask (by omega) (wk_set (by omega) (wk_go (wk_rhasS (by omega) (by omega) (wk_alu (wk_set (by omega) (wk_place (wk_go (wk_set (by omega) (wk_go (wk_ask (by omega) h)))))))))))))))))))))))
theorem wk_pinS {st : BS} {own their turn owner other : Int} (h_own : 0 ≤ own ∧ own < 4294967296) (h_their : 0 ≤ their ∧ their < 4294967296) (h_turn : 0 ≤ turn ∧ turn < 4294967296) (h_owner : 0 ≤ owner ∧ owner < 4294967296) (h_other : 0 ≤ other ∧ other < 4294967296) (h : st.Wk) : (pinS st own their turn owner other).Wk := (wk_ask (by omega) (wk_place (wk_go (wk_alu (wk_set (by omega) (wk_ask (by omega) (wk_go (wk_ask (by omega) (wk_place (wk_emit (by simp only; omega) (wk_ask (by omega) (wk_set (by omega) (wk_ask (by omega) (wk_set (by omega) h))))))))))))))
theorem wk_finS {st : BS} {own their turn owner other : Int} (h_own : 0 ≤ own ∧ own < 4294967296) (h_their : 0 ≤ their ∧ their < 4294967296) (h_owner : 0 ≤ owner ∧ owner < 4294967296) (h : st.Wk) : (finS st own their turn owner other).Wk := (wk_ask (by omega) (wk_place (wk_go (wk_go (wk_ask (by omega) (wk_place (wk_zeroS (by omega) (wk_go (wk_ask (by omega) (wk_ask (by omega) (wk_set (by omega) (wk_place h))))))))))))
theorem wk_sinS {st : BS} {own their turn owner other : Int} (h_own : 0 ≤ own ∧ own < 4294967296) (h_their : 0 ≤ their ∧ their < 4294967296) (h_owner : 0 ≤ owner ∧ owner < 4294967296) (h : st.Wk) : (sinS st own their turn owner other).Wk := (wk_ask (by omega) (wk_go (wk_ask (by omega) (wk_place (wk_emit (by simp only; omega) (wk_ask (by omega) (wk_set (by omega) h)))))))
theorem wk_doutS {st : BS} {own their turn owner other : Int} (h_own : 0 ≤ own ∧ own < 4294967296) (h_owner : 0 ≤ owner ∧ owner < 4294967296) (h : st.Wk) : (doutS st own their turn owner other).Wk := (wk_zeroS (by omega) (wk_zeroS (by omega) h))
theorem wk_meetS {st : BS} {n base : Int} (h_n : 1 ≤ n ∧ n ≤ 8) (h_base : 0 ≤ base ∧ base < 4294967296) (h : st.Wk) : (meetS st n base).Wk := (wk_closeS (wk_place (wk_go (wk_ask (by omega) (wk_emit (by simp only; omega) (wk_go (wk_alu (wk_ask (by omega) (wk_place (wk_go (wk_gwakeS (by omega) (by omega) (wk_gmoreS (by omega) (wk_zeroS (by omega) (wk_go (wk_alu (wk_set (by omega) (wk_gmoreS (by omega) (wk_ask (by omega) h))))))))))))))))))
theorem wk_enterS {st : BS} {t base : Int} (h_base : 0 ≤ base ∧ base < 4294967296) (h : st.Wk) : (enterS st t base).Wk := (wk_closeS (wk_place (wk_go (wk_set (by omega) (wk_ask (by omega) (wk_place (wk_go (wk_ask (by omega) (wk_go (wk_alu (wk_set (by omega) (wk_go (wk_cas (by omega) (wk_set (by omega) (wk_set (by omega) (wk_go (wk_alu (wk_set (by omega) (wk_ask (by omega) (wk_place (wk_claimS (by omega) h)))))))))))))))))))))
theorem wk_gdoneS {st : BS} {t base : Int} (h_base : 0 ≤ base ∧ base < 4294967296) (h : st.Wk) : (gdoneS st t base).Wk := (wk_closeS (wk_gwakeS (by omega) (by omega) (wk_ask (by omega) (wk_set (by omega) (wk_zeroS (by omega) (wk_proveS (by omega) h))))))
theorem wk_cond5S {st : BS} {t base : Int} (h_base : 0 ≤ base ∧ base < 4294967296) (h : st.Wk) : (cond5S st t base).Wk := (wk_closeS (wk_ask (by omega) (wk_ask (by omega) h)))
theorem wk_cond6S {st : BS} {t base : Int} (h_base : 0 ≤ base ∧ base < 4294967296) (h : st.Wk) : (cond6S st t base).Wk := (wk_closeS (wk_ask (by omega) (wk_ask (by omega) h)))
theorem wk_cond7S {st : BS} {t base : Int} (h_base : 0 ≤ base ∧ base < 4294967296) (h : st.Wk) : (cond7S st t base).Wk := (wk_closeS (wk_gwakeS (by omega) (by omega) (wk_gmoreS (by omega) h)))
theorem wk_cond8S {st : BS} {t base : Int} (h_base : 0 ≤ base ∧ base < 4294967296) (h : st.Wk) : (cond8S st t base).Wk := (wk_closeS (wk_gwakeS (by omega) (by omega) (wk_gmoreS (by omega) h)))
theorem wk_rdS {st : BS} {base : Int} (h : st.Wk) : ∀ n, (rdS st base n).Wk
 | 0 => h
 | n + 1 => wk_ask (by omega) (wk_rdS h n)
theorem wk_readS {st : BS} {base : Int} {n : Nat} (h : st.Wk) : (readS st base n).Wk := wk_go (wk_alu (wk_ask (by omega) (wk_rdS (wk_go (wk_alu (wk_set (by omega) (wk_ask (by omega) (wk_place h))))) n)))
def CP (r : List Ins × Bool) : Prop := KOk r.1 ∧ r.1.length ≤ 100
theorem cp_no : CP ([], false) := ⟨fun x h => (by cases h), by simp⟩
theorem linkStep_len (D : Plc) : ∀ (l : List Lnk) (O : Option (List Ins)) (n : Nat), (∀ o, O = some o → o.length = n) → ∀ o, l.foldl (linkStep D) O = some o → o.length = n
 | [], O, n, h, o, e => h o e
 | x :: l, O, n, h, o, e => by
  refine linkStep_len D l _ n (fun o' e' => ?_) o e; unfold linkStep at e'
  split at e'
  ·cases e'
  ·rename_i o1
   split at e'
   ·split at e'
    ·simp only [Option.some.injEq] at e'
     subst e'; rw [setK_len]; exact h _ rfl
    ·cases e'
   ·cases e'
theorem cp_fin {st : BS} (hs : st.sz ≤ 100) (h : st.Wk) : CP st.fin := ⟨fin_wk h, by
 unfold BS.fin
 split
 ·simp
 ·rename_i o ho
  have := linkStep_len _ _ _ st.code.length (fun o e => by cases e; rfl) o ho
  split
  ·simp
  ·show o.length ≤ 100
   unfold BS.sz at hs; omega⟩
theorem cp_ite {c : Prop} [Decidable c] {a b : List Ins × Bool} (h1 : c → CP a) (h2 : ¬ c → CP b) : CP (if c then a else b) := by
 split
 ·exact h1 ‹_›
 ·exact h2 ‹_›
theorem spinF_cp (o : O) {call th t base arg : Int} (hb : 0 ≤ base ∧ base < 4294967296) : CP (spinF o call th t base arg) := by
 unfold spinF
 exact (cp_ite (fun c0 => (cp_ite (fun hm => (cp_ite (fun c2 => (by exact cp_fin (by simp <;> omega) (wk_closeS (wk_tasS (by omega) (wk_claimS (by omega) wk_zero))))) (fun c2 => (by exact cp_fin (by simp <;> omega) (wk_closeS (wk_zeroS (by omega) (wk_proveS (by omega) wk_zero))))))) (fun hm => cp_no))) (fun c0 => (cp_ite (fun c3 => (cp_ite (fun hm => (cp_ite (fun c5 => (by exact cp_fin (by simp <;> omega) (wk_closeS (wk_ttasS (by omega) (wk_claimS (by omega) wk_zero))))) (fun c5 => (by exact cp_fin (by simp <;> omega) (wk_closeS (wk_zeroS (by omega) (wk_proveS (by omega) wk_zero))))))) (fun hm => cp_no))) (fun c3 => (cp_ite (fun c6 => (cp_ite (fun hm => (cp_ite (fun c8 => (by exact cp_fin (by simp <;> omega) (wk_closeS (wk_ticketS (wk_claimS (by omega) wk_zero))))) (fun c8 => (by exact cp_fin (by simp <;> omega) (wk_closeS (wk_passS (wk_proveS (by omega) wk_zero))))))) (fun hm => cp_no))) (fun c6 => cp_no))))))
theorem queueF_cp (o : O) {call th t base arg : Int} (hb : 0 ≤ base ∧ base < 4294967296) : CP (queueF o call th t base arg) := by
 unfold queueF
 exact (cp_ite (fun c0 => (cp_ite (fun hm => (cp_ite (fun c2 => (by exact cp_fin (by simp <;> omega) (wk_closeS (wk_mcsInS (by omega) (wk_claimS (by omega) wk_zero))))) (fun c2 => (by exact cp_fin (by simp <;> omega) (wk_closeS (wk_mcsOutS (by omega) (wk_proveS (by omega) wk_zero))))))) (fun hm => cp_no))) (fun c0 => (cp_ite (fun c3 => (cp_ite (fun hm => (cp_ite (fun c5 => (by exact cp_fin (by simp <;> omega) (wk_closeS (wk_clhInS (by omega) (wk_claimS (by omega) wk_zero))))) (fun c5 => (by exact cp_fin (by simp <;> omega) (wk_closeS (wk_clhOutS (wk_proveS (by omega) wk_zero))))))) (fun hm => cp_no))) (fun c3 => cp_no))))
theorem duoF_cp (o : O) {call th t base arg : Int} (hb : 0 ≤ base ∧ base < 4294967296) : CP (duoF o call th t base arg) := by
 unfold duoF
 exact (cp_ite (fun c0 => (cp_ite (fun hm => (cp_ite (fun c2 => (cp_ite (fun c3 => (by exact cp_fin (by simp <;> omega) (wk_closeS (wk_pinS (by omega) (by omega) (by omega) (by omega) (by omega) (wk_claimS (by omega) wk_zero))))) (fun c3 => (by exact cp_fin (by simp <;> omega) (wk_closeS (wk_doutS (by omega) (by omega) (wk_proveS (by omega) wk_zero))))))) (fun c2 => (cp_ite (fun c4 => (cp_ite (fun c5 => (by exact cp_fin (by simp <;> omega) (wk_closeS (wk_pinS (by omega) (by omega) (by omega) (by omega) (by omega) (wk_claimS (by omega) wk_zero))))) (fun c5 => (by exact cp_fin (by simp <;> omega) (wk_closeS (wk_doutS (by omega) (by omega) (wk_proveS (by omega) wk_zero))))))) (fun c4 => (by exact cp_fin (by simp <;> omega) (wk_set (by omega) wk_zero))))))) (fun hm => cp_no))) (fun c0 => (cp_ite (fun c6 => (cp_ite (fun hm => (cp_ite (fun c8 => (cp_ite (fun c9 => (by exact cp_fin (by simp <;> omega) (wk_closeS (wk_finS (by omega) (by omega) (by omega) (wk_claimS (by omega) wk_zero))))) (fun c9 => (by exact cp_fin (by simp <;> omega) (wk_closeS (wk_doutS (by omega) (by omega) (wk_proveS (by omega) wk_zero))))))) (fun c8 => (cp_ite (fun c10 => (cp_ite (fun c11 => (by exact cp_fin (by simp <;> omega) (wk_closeS (wk_sinS (by omega) (by omega) (by omega) (wk_claimS (by omega) wk_zero))))) (fun c11 => (by exact cp_fin (by simp <;> omega) (wk_closeS (wk_doutS (by omega) (by omega) (wk_proveS (by omega) wk_zero))))))) (fun c10 => (by exact cp_fin (by simp <;> omega) (wk_set (by omega) wk_zero))))))) (fun hm => cp_no))) (fun c6 => cp_no))))
theorem biasF_cp (o : O) {call th t base arg : Int} (hb : 0 ≤ base ∧ base < 4294967296) : CP (biasF o call th t base arg) := by
 unfold biasF
 exact (cp_ite (fun c0 => (cp_ite (fun hm => (cp_ite (fun c2 => (cp_ite (fun c3 => (by exact cp_fin (by simp <;> omega) (wk_closeS (wk_biasedS (wk_claimS (by omega) wk_zero))))) (fun c3 => (by exact cp_fin (by simp <;> omega) (wk_closeS (wk_otherS (wk_claimS (by omega) wk_zero))))))) (fun c2 => (cp_ite (fun c4 => (by exact cp_fin (by simp <;> omega) (wk_closeS (wk_leaveS (wk_proveS (by omega) wk_zero))))) (fun c4 => (by exact cp_fin (by simp <;> omega) (wk_closeS (wk_zeroS (by omega) (wk_zeroS (by omega) (wk_proveS (by omega) wk_zero)))))))))) (fun hm => cp_no))) (fun c0 => cp_no))
theorem seqF_cp (o : O) {call th t base arg : Int} (hb : 0 ≤ base ∧ base < 4294967296) : CP (seqF o call th t base arg) := by
 unfold seqF
 exact (cp_ite (fun c0 => (cp_ite (fun hm => (cp_ite (fun c2 => (cp_ite (fun c3 => (by exact cp_fin (by simp <;> omega) (wk_closeS (wk_ask (by omega) (wk_proveS (by omega) wk_zero))))) (fun c3 => cp_no))) (fun c2 => (cp_ite (fun c4 => (by exact cp_fin (by simp <;> omega) (wk_closeS (wk_beginS (wk_claimS (by omega) wk_zero))))) (fun c4 => (cp_ite (fun c5 => (by exact cp_fin (by simp <;> omega) (wk_closeS (wk_zeroS (by omega) (wk_smoreS (wk_proveS (by omega) wk_zero)))))) (fun c5 => (by have hn := (mayS_tt hm).2.2; unfold RP at hn; exact cp_fin (by simp <;> omega) (wk_closeS (wk_readS wk_zero)))))))))) (fun hm => cp_no))) (fun c0 => cp_no))
theorem mutexF_cp (o : O) {call th t base : Int} (hb : 0 ≤ base ∧ base < 4294967296) : CP (mutexF o call th t base) := by
 unfold mutexF
 exact (cp_ite (fun c0 => (cp_ite (fun hm => (cp_ite (fun c2 => (by exact cp_fin (by simp <;> omega) (wk_closeS (wk_minS (wk_claimS (by omega) wk_zero))))) (fun c2 => (by exact cp_fin (by simp <;> omega) (wk_closeS (wk_moutS (wk_proveS (by omega) wk_zero))))))) (fun hm => cp_no))) (fun c0 => (cp_ite (fun c3 => (cp_ite (fun hm => (cp_ite (fun c5 => (by exact cp_fin (by simp <;> omega) (wk_downS (by omega) wk_zero))) (fun c5 => (by have hn := (mayS_tt hm).2.2; unfold RP at hn; exact cp_fin (by simp <;> omega) (wk_upS (by omega) (by omega) wk_zero))))) (fun hm => cp_no))) (fun c3 => cp_no))))
theorem gateF_cp (o : O) {call th t base arg : Int} (hb : 0 ≤ base ∧ base < 4294967296) : CP (gateF o call th t base arg) := by
 unfold gateF
 exact (cp_ite (fun c0 => (cp_ite (fun hm => (cp_ite (fun c2 => (by exact cp_fin (by simp <;> omega) (wk_cond5S (by omega) wk_zero))) (fun c2 => (cp_ite (fun c3 => (by exact cp_fin (by simp <;> omega) (wk_cond6S (by omega) wk_zero))) (fun c3 => (cp_ite (fun c4 => (by exact cp_fin (by simp <;> omega) (wk_cond7S (by omega) wk_zero))) (fun c4 => (by exact cp_fin (by simp <;> omega) (wk_cond8S (by omega) wk_zero))))))))) (fun hm => cp_no))) (fun c0 => (cp_ite (fun c5 => (cp_ite (fun hm => (cp_ite (fun c7 => (by exact cp_fin (by simp <;> omega) (wk_set (by omega) wk_zero))) (fun c7 => (cp_ite (fun c8 => (by have hn := (mayS_tt hm).2.2; unfold RP at hn; exact cp_fin (by simp <;> omega) (wk_meetS (by omega) (by omega) wk_zero))) (fun c8 => (by exact cp_fin (by simp <;> omega) (wk_set (by omega) wk_zero))))))) (fun hm => cp_no))) (fun c5 => (cp_ite (fun c9 => (cp_ite (fun hm => (cp_ite (fun c11 => (by exact cp_fin (by simp <;> omega) (wk_enterS (by omega) wk_zero))) (fun c11 => (by exact cp_fin (by simp <;> omega) (wk_gdoneS (by omega) wk_zero))))) (fun hm => cp_no))) (fun c9 => cp_no))))))
theorem rwF_cp (o : O) {call th t base arg : Int} (hb : 0 ≤ base ∧ base < 4294967296) : CP (rwF o call th t base arg) := by
 unfold rwF
 exact (cp_ite (fun c0 => (cp_ite (fun hm => (cp_ite (fun c2 => (by exact cp_fin (by simp <;> omega) (wk_rwriteS (by omega) (by omega) wk_zero))) (fun c2 => (cp_ite (fun c3 => (by exact cp_fin (by simp <;> omega) (wk_rrelS (by omega) (by omega) wk_zero))) (fun c3 => (by have hn := (mayS_tt hm).2.2; unfold RP at hn; exact cp_fin (by simp <;> omega) (wk_rreadS (by omega) (by omega) wk_zero))))))) (fun hm => cp_no))) (fun c0 => cp_no))
theorem mkF_cp (i : Nat) (o : O) {call th t base arg : Int} (hb : 0 ≤ base ∧ base < 4294967296) : CP (mkF i o call th t base arg) := by
 unfold mkF
 split
 ·exact spinF_cp o hb
 ·exact queueF_cp o hb
 ·exact duoF_cp o hb
 ·exact biasF_cp o hb
 ·exact seqF_cp o hb
 ·exact mutexF_cp o hb
 ·exact gateF_cp o hb
 ·exact rwF_cp o hb
theorem codeFrom_cp (o : O) {call th t base arg : Int} (hb : 0 ≤ base ∧ base < 4294967296) : ∀ n i, CP (codeFrom o call th t base arg n i)
 | 0, _ => cp_no
 | n + 1, i => cp_ite (fun _ => mkF_cp i o hb) (fun _ => codeFrom_cp o hb n (i + 1))
theorem codeF_cp (o : O) {call th t base arg : Int} (hb : 0 ≤ base ∧ base < 4294967296) : CP (codeF o call th t base arg) := codeFrom_cp o hb 8 0
end Go.Proofs.YtbcgngfbbbfebaaGreatDoor
