/- The card TopFifoCardSaid is proved: whatever the client and the script, TopFifo answers true and leaves its arguments as they were, where isa.uses, isa.names and obj.names read as the program's text lays them (the ties are given). No other condition. -/
import Derived.Test.YtldlcnaphednnaaGreatDoorM33
import Derived.Test.YtldlcnaphednnaaGreatDoorM40
import Derived.Test.YtldlcnaphednnaaGreatDoorM48
import Derived.Test.YtldlcnaphednnaaGreatDoorCards
import Derived.Test.YtldlcnaphednnaaGreatDoorTie
import Derived.SevenTiedAt
set_option maxRecDepth 100000
set_option maxHeartbeats 32000000
set_option linter.unusedVariables false
set_option linter.unusedSimpArgs false
namespace Go.Proofs.YtldlcnaphednnaaGreatDoor
open Go.ChangeShapes Go.WideShapes Go.ChangeAt Go.RowKit
theorem tW(os:Os)(started:os.Started)(H:Type)(enc:TypeId×Value->H):
  ReturnsInHanded {} Tryz.checked os 3 .any (λw args=>(Rows.topFifoSpec.pre enc Tryz.prog Tryz.f3 [] false w args/\laidMetH Tryz.prog ub w)/\sizedMet enc Tryz.prog Tryz.f3 (OpenSpec.ofChange Rows.topFifoSpec) false w args) (Rows.topFifoSpec.post enc Tryz.prog Tryz.f3 false true false false):=by
 refine returnsInHanded_of_change_and (C:=Tryz.checked) (X:=λw _=>laidMetH Tryz.prog ub w) (λ_ _ _ hh h=>h.of_heap hh) own started (by kernel_rfl) Tryz.func3
  (ChangeSpec.witness_shaped (enc:=enc) (C:=Tryz.checked) (os:=os) (X:=λw _=>laidMetH Tryz.prog ub w) false (World.doorLaid Tryz.prog 400 os) #[.agg #[.slice none 0 0,.int .i64 0,.slice none 0 0,.int .i64 0,.slice none 0 0],.slice none 0 0] 8 rfl (World.shaped_of_RefB (by kernel_rfl) (by kernel_rfl)) (by kernel_rfl) (by kernel_rfl) (by kernel_rfl) (zh os _)) ?_
 intro W base args ds gs before hval0 hW _ _ hL _;have hval:∀(j:Nat) t v,Tryz.f3.params[j]? = some t->args[j]? = some v->Value.okWide Tryz.prog W .any base t v:=hval0;have hW':=hW;obtain⟨p,q,hA0,hV,rfl,hfz,hnd⟩:=hW;have hA:DataW.TrodAll enc Tryz.prog W 0 (λ_=>true) true Tryz.f3.params.toList args.toList ds p:=hA0;have hAk:=hA;rw[Tryz.params3]at hA hval;obtain⟨v0,vs0,d0,ds0,p0,q0,hargs,rfl,rfl,h0,r0⟩:=trodAll_cons hA;obtain⟨v1,vs1,d1,ds1,p1,q1,rfl,rfl,rfl,h1,r1⟩:=trodAll_cons r0;obtain⟨rfl,rfl,rfl⟩:=trodAll_nil r1
 obtain rfl:args=#[v0,v1]:=by cases args;simp_all
 obtain⟨rfl,rfl⟩:=trodVars_none hV;obtain⟨C0,rfl,hm0⟩:=ui (hval 0 26 v0 rfl rfl) h0;obtain⟨s1,hu1⟩:=Bz (hval 1 27 v1 rfl rfl) h1
 refine(topC Fx C0 W hm0 (od hL).1 (od hL).2 v1 s1 hu1).mono λe W' ⟨he,hb⟩=>?_
 subst he;exact⟨_,rfl,zk laid (by rw[Tryz.params3];decide +kernel) hW' hAk (by simp) rfl rfl rfl rfl (by kernel_rfl) Tryz.underlying4 hb⟩

theorem zW:Rows.TopFifoSaid:=
 OpenClaim.holds_of_wide 3 Tryz.f3 rfl rfl rfl rfl rfl rfl rfl ⟨rfl,rfl,rfl,rfl,rfl⟩ rfl rfl rfl rfl rfl (by kernel_rfl) Tryz.func3 (by kernel_rfl)
  (of_decide_eq_true (by kernel_rfl)) (by unfold Func.isWrapper;first|(rw[ag (by decide +kernel)];kernel_rfl)|(rw[af (by decide +kernel)];exact⟨rfl,rfl⟩))
  (λos started H enc _=>tW os started H enc)
theorem fifo_card:Rows.TopFifoCardSaid:=
 Claim7.holds_tied_plain_at .later [] [.data,.data,.widerDeep] true (true, "79ba958c73a093d50ed9a67868c4d877eb59341f4a860021fc31b587c5e697fa") true
  zW (λ_ h=>by cases h) (by kernel_rfl) (λ_ h=>by cases h) topFifo_row_tie rfl ⟨rfl,rfl⟩ (by kernel_rfl) rfl
  (λf fn hf hfn=>by
   obtain rfl:f=3:=Option.some.inj ((show Tryz.prog.funcNamed "deadlatch/deadlatchtop.TopFifo" = some 3 by kernel_rfl).symm.trans hf) |>.symm;obtain rfl:fn=Tryz.f3:=(Option.some.inj (Tryz.func3.symm.trans hfn)).symm
   exact⟨by kernel_rfl,λj t ht=>by
    rw[Tryz.params3]at ht
    have hm:t∈[26,27]:=by simpa using Array.mem_of_getElem? ht
    have hall:([26,27].all λu=>!Tryz.prog.wantsStandIn u)=true:=by kernel_rfl
    exact(show Tryz.prog.wantsStandIn t=false by simpa using List.all_eq_true.1 hall t hm)⟩)
  (by kernel_rfl)
end Go.Proofs.YtldlcnaphednnaaGreatDoor
