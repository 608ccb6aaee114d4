/- The code of locks that many may read, as it is asked for; the table of functions that it looks them up in. The code of a call, of whatever kind. Moved: code of which all places are so much greater. The code of a call: its words are of 32 bits, its jumps stay in it, it is short. -/
import Derived.Test.YtldlcnaphednnaaGreatDoorM16
import Derived.Test.YtldlcnaphednnaaGreatDoorM05
import Derived.Test.YtldlcnaphednnaaGreatDoorM11
import Derived.Test.YtldlcnaphednnaaGreatDoorM04
set_option maxRecDepth 100000
set_option maxHeartbeats 32000000
set_option linter.unusedVariables false
set_option linter.unusedSimpArgs false
namespace Go.Proofs.YtldlcnaphednnaaGreatDoor
open Go.RowKit Go.Maps
section
attribute [local simp] fL ft dD cN fN cL df dZ dr dj gD gz gA gy gQ eQ cH gE gV iZ gB dz iI dA dy dV dq iz ge dX eO dC dx eh iL cU dh dR mR fV fh fT dP dO fP iT dB eW fE cj ee iD iR dW
theorem Gv:Keyed Tryz.prog 3:=int_keyed Tryz.underlying3
def lm:Value->Option (DataW Unit×List MemPlace)
 | .nilFunc=>some (.nil,[])
 | .func (.func f) a b=>if a.size=0/\b.size=0 then some (.lit (.int .i64 f),[]) else none
 | _=>none
theorem xB(f:Nat):lm (.func (.func f) #[] #[])=some (.lit (.int .i64 f),[]):=rfl
theorem uz{v:Value}{f:Nat}{ps:List MemPlace}(h:lm v=some (.lit (.int .i64 f),ps)):v=.func (.func f) #[] #[]:=by
 unfold lm at h
 split at h
 ·cases h
 ·rename_i g a b
  split at h
  ·rename_i hab
   simp only[Option.some.injEq,Prod.mk.injEq,DataW.lit.injEq,Lit.int.injEq,true_and]at h;have e:g=f:=Int.ofNat_inj.1 h.1;subst e;rw[Array.eq_empty_of_size_eq_zero hab.1,Array.eq_empty_of_size_eq_zero hab.2]
  ·cases h
 ·cases h
section
variable {ops:Array Oper} {Q:Exit->Act->World->Prop}
theorem o8{rest:List Oper}{o:Oper}{a:Act}{w:World}(hgd:o.guard=none)(ho:o.op=.makeMap 226 none)
  (h:∀(w':World)(B:Nat),w'.ownsMap Tryz.prog 3 lm B 0 (.map [])->Below w.heap.size w w'->Hid (B=w.heap.size)->∀K:Act->World->Prop,(∀a w,wpList Tryz.prog ops Q rest a w->K a w)->K (a.put o.dst (.map (some B))) w'):wpList Tryz.prog ops Q (o :: rest) a w:=by
 refine wpList_plain hgd λK hK=>?_
 unfold Oper.wp execOp;simp only[ho,Option.map_none,run_makeMap,Sem.run_bind,Result.andThen_ok];exact h _ _ (World.ownsMap_made w Tryz.prog 3 lm) ((ak _ _).alloc (ah _) _) rfl K hK
theorem iY{rest:List Oper}{o:Oper}{a:Act}{w:World}(hgd:o.guard=none)(m x v:Operand)(ho:o.op=.insert 226 m x v)(B n:Nat)(D:DataW Unit)(k:Int)(f:Nat)(hk:(Lit.int .i64 k).wf=true)
  (hm:a.eval m=.map (some B)) (hx:a.eval x=.int .i64 k) (hv:a.eval v=.func (.func f) #[] #[]) (hown:w.ownsMap Tryz.prog 3 lm B n D) (hn:n<maxLen)
  (h:∀w',w'.ownsMap Tryz.prog 3 lm B (n+1) (D.put (.int .i64 k) (.lit (.int .i64 f)))->w.grownBy w' (some B)->∀K:Act->World->Prop,(∀a w,wpList Tryz.prog ops Q rest a w->K a w)->K (a.put o.dst undef) w'):wpList Tryz.prog ops Q (o :: rest) a w:=by
 refine wpList_plain hgd λK hK=>?_
 obtain⟨w',hrun,r1,r2⟩:=hown.update Gv Tryz.underlying226 hn (keyOf_int_mk Tryz.underlying3 hk) (xB f);unfold Oper.wp execOp;simp[ho,hm,hx,hv,hrun,Result.andThen];exact h w' r1 r2 K hK
end
def fnMap:DataW Unit:=((DataW.put (.map []) (.int .i64 1) (.lit (.int .i64 (148:Nat)))).put (.int .i64 3) (.lit (.int .i64 (149:Nat)))).put (.int .i64 2) (.lit (.int .i64 (150:Nat)))
theorem rG{w:World}{B n:Nat}(k:Int)(f:Nat)(hk:(Lit.int .i64 k).wf=true)(hown:w.ownsMap Tryz.prog 3 lm B n fnMap)(h:fnMap.atKey (.int .i64 k) .nil=.lit (.int .i64 f)):(Instr.lookup 226 (.map (some B)) (.int .i64 k) false).run Tryz.prog w=.ok (.func (.func f) #[] #[]) w:=by
 obtain⟨v,ps,hrun,hv⟩:=hown.lookup Gv Tryz.underlying226 (z:=.nilFunc) (zd:=.nil) (zp:=[]) (by kernel_rfl) rfl (keyOf_int_mk Tryz.underlying3 hk);rw[h]at hv;rw[hrun,uz hv]
def rwF(o:O)(call th t base arg:Int):List Ins×Bool:=
 if o.k=14 then(if a8 o call th t=true then(if call=1 then(iQ BS.zero base ((base+1+t)%4294967296)).fin else(if call=2 then(nk BS.zero base ((base+1+t)%4294967296)).fin else(ks BS.zero base ((base+1+t)%4294967296)).fin)) else([],false)) else(([],false))
theorem DM{o:O}{call th t base arg:Int}(h:o.k≠14):rwF o call th t base arg=([],false):=by unfold rwF;rw[af (show ¬o.k=14 by omega)]
theorem GO{o:O}{call th t base arg:Int}(h:a8 o call th t=false):rwF o call th t base arg=([],false):=by
 unfold rwF;rw[h];simp only[Bool.false_eq_true,if_false,ite_self]
theorem G1{o:O}{call th t base arg:Int}(k:o.k=14)(h:a8 o call th t=true)(c0:(call=1)):rwF o call th t base arg=(iQ BS.zero base ((base+1+t)%4294967296)).fin:=by unfold rwF;rw[ag k,ag h,ag c0]
theorem FU{o:O}{call th t base arg:Int}(k:o.k=14)(h:a8 o call th t=true)(c0:¬(call=1))(c1:(call=2)):rwF o call th t base arg=(nk BS.zero base ((base+1+t)%4294967296)).fin:=by unfold rwF;rw[ag k,ag h,af c0,ag c1]
theorem GJ{o:O}{call th t base arg:Int}(k:o.k=14)(h:a8 o call th t=true)(c0:¬(call=1))(c1:¬(call=2)):rwF o call th t base arg=(ks BS.zero base ((base+1+t)%4294967296)).fin:=by unfold rwF;rw[ag k,ag h,af c0,af c1]
theorem EZ(o:O)(call th t base arg:Int)(harg:0<=arg/\arg<4294967296)(w:World)(hN:NmW w)(hI:IsaW w):Calls Tryz.prog 93 #[ov o,.int .i64 call,.int .i64 th,.int .i64 t,.int .u32 base,.int .u32 arg] w λe w'=>CodeR w w' (rwF o call th t base arg) e/\Below w.heap.size w w':=by
 obtain⟨hr0,hr1⟩:=harg;obtain⟨R,hR⟩:=Zh (rwF o call th t base arg);rw[<-hR.out];have hM:=λw' (hb:Below w.heap.size w w')=>i4 o call th t w' (hN.below hb);have hRP:=λh=>(jz (o:=o) (c:=call) (t:=th) (u:=t) h);obtain⟨mb,hmb⟩:=Zh (a8 o call th t);rw[<-hmb.out]at hM hRP;obtain⟨ok,on,oa,ob⟩:=o;unfold ov at hM ⊢;simp only at hRP;go_enter Tryz.func93,Tryz.ntmps93;go_upto_region 1 with(fail);obtain⟨W,kB,e0,e1,XK,hal0⟩:=aO w #[.int .i64 ok,.int .i64 on,.int .i64 oa,.int .i64 ob] 43;rw[e0,e1];have hkw:w.heap.size<=kB:=aD e1;clear e0 e1;obtain⟨y0,y1,y2,y3⟩:=cl4 XK
 by_cases k14:ok=14
 ·subst k14
  go_wp2_with fail;refine(hM W hal0).mono ?_;rintro e w1 ⟨rfl,hb1⟩;clear y0 y1 y2 y3 hM;replace XK:=keep XK hb1;replace hal0:=hal0.trans (hb1.mono hal0.size);clear hb1;obtain⟨y0,y1,y2,y3⟩:=cl4 XK;cases mb
  ·obtain rfl:R=([],false):=hR.out.trans (GO hmb.out.symm)
   clear hR hmb;go_wp2;go_ret2;exact⟨CodeR.no,hal0⟩
  go_upto_region 4 with(fail);obtain⟨w2,bb,e0,e1,XB,hb2⟩:=aO w1 #[.slice none 0 0,.map none,.slice none 0 0,.bool false] 202;rw[e0,e1];have hbb':w1.heap.size=bb:=e1;clear e0 e1 y0 y1 y2 y3
  have hbb:w.heap.size<=bb:=by have:=hal0.size;omega
  have hF:¬(kB=bb):=by have:=aB XK;omega
  replace XK:=keep XK hb2;have hB:=da XB;have hU:Upd (λk=>k=bb) (λk=>k=bb) w2 w2:=Upd.refl _ _;replace hal0:=hal0.trans (hb2.mono hal0.size);have hws:w.heap.size<=w2.heap.size:=hal0.size;have hkl:kB<w2.heap.size:=aB XK;clear hb2 XB hbb';obtain⟨y0,y1,y2,y3⟩:=cl4 XK
  obtain⟨hmay,hwho,hrp⟩:=hRP (by first|rfl|trivial)
  have htab:=fk hmay
  try simp only at htab
  by_cases c1:call=1
  ·subst c1
   replace hR:Hid (R=(iQ BS.zero base ((base+1+t)%4294967296)).fin):=hR.out.trans (G1 rfl hmb.out.symm rfl);clear hmb;clear hRP;clear y0 y1 y2 y3;refine ab ?_
   iterate 5 refine Zv ?_
   refine aG rfl (.int .u32 ((base+1+t)%4294967296)) ?_ ?_
   ·go_simp;simp only[IntKind.wrap_u32];omega
   refine Zk ?_;refine aG rfl (.agg #[.int .u32 base,.int .u32 ((base+1+t)%4294967296)]) ?_ ?_
   ·go_simp
   refine Zk ?_;refine Za 224 #[.int .u32 0,.int .u32 0] (λwa kW XW l16 f16=>?_);refine Zo 224 kW #[.int .u32 base,.int .u32 ((base+1+t)%4294967296)] XW (λw3 g1 g2 g3 g4=>?_);have hb7:Below w2.heap.size w2 w3:=l16.trans (g3 _ (by simp only[Hid]at f16;omega))
   have hFW:¬(kW=bb):=by have:=hB.lt bb rfl;simp only[Hid]at f16;omega
   replace XW:=g1;clear l16 f16 g1 g2 g3 g4;replace XK:=keep XK hb7;replace hkl:kB<w3.heap.size:=aB XK;have hkw2:kW<w3.heap.size:=aB XW;replace hB:=hB.below hb7;replace hU:=hU.trans (Upd.of_below hb7);clear hb7;go_upto_region 5 with(fail);refine ab ?_;refine o8 rfl rfl (λwb mB om bm0 em=>?_);refine Zk ?_;refine iY rfl (.tmp 35) (.const (.int .i64 1)) (.func 148) rfl mB 0 _ 1 148 (by decide) rfl rfl rfl om (by decide) (λwb1 om1 gm1=>?_);refine Zk ?_;refine iY rfl (.tmp 35) (.const (.int .i64 3)) (.func 149) rfl mB 1 _ 3 149 (by decide) rfl rfl rfl om1 (by decide) (λwb2 om2 gm2=>?_);refine Zk ?_;refine iY rfl (.tmp 35) (.const (.int .i64 2)) (.func 150) rfl mB 2 _ 2 150 (by decide) rfl rfl rfl om2 (by decide) (λwb3 om3 gm3=>?_);refine Zk ?_;have hb8:Below w3.heap.size w3 wb3:=((bm0.grown gm1 bm0.size (λk e=>by cases e;simp only[Hid]at em;omega)).grown gm2 (by have:=bm0.size;have:=gm1.size;omega) (λk e=>by cases e;simp only[Hid]at em;omega)).grown gm3 (by have:=bm0.size;have:=gm1.size;have:=gm2.size;omega) (λk e=>by cases e;simp only[Hid]at em;omega);clear om om1 om2 bm0 em gm1 gm2 gm3;replace XK:=keep XK hb8;replace XW:=keep XW hb8;replace hkl:kB<wb3.heap.size:=aB XK;replace hkw2:kW<wb3.heap.size:=aB XW;replace hB:=hB.below hb8;replace hU:=hU.trans (Upd.of_below hb8);clear hb8
   iterate 2 refine Zv ?_
   have hlk:=rG 1 148 (by decide) om3 (by kernel_rfl);clear om3;obtain⟨y0,y1,y2,y3⟩:=cl4 XK;obtain⟨z0,z1⟩:=cl2 XW;go_wp2_with fail
   refine(Z2 XK hF hkl hU XW hFW (CA hB (by simp<;>omega))).mono ?_
   clear y0 y1 y2 y3 z0 z1;rintro e wd ⟨rfl,F',hB,XK,hF,hkl,hU,XW,hFW,hkw2⟩;obtain⟨y0,y1,y2,y3⟩:=cl4 XK;obtain⟨z0,z1⟩:=cl2 XW;have hal:=hal0.trans (hU.low _ (λk e=>by rw[e];exact hbb) hws)
   have hcb:=br hB ((pD aH)).1 (by simp<;>omega) ((pD aH)).2 (hI.below hal)
   rw[<-hR.out]at hcb;clear hR;go_wp2_with fail;refine hcb.mono ?_;rintro e w' ⟨⟨v,rfl,hv1,hv2⟩,hb'⟩;go_wp2;go_ret2;exact dE hal hv1 hv2 hb'
  ·have q1:(call == 1)=false:=by simp[c1]
   by_cases c2:call=2
   ·subst c2
    replace hR:Hid (R=(nk BS.zero base ((base+1+t)%4294967296)).fin):=hR.out.trans (FU rfl hmb.out.symm c1 rfl);clear hmb;clear hRP c1;clear y0 y1 y2 y3;refine ab ?_
    iterate 5 refine Zv ?_
    refine aG rfl (.int .u32 ((base+1+t)%4294967296)) ?_ ?_
    ·go_simp;simp only[IntKind.wrap_u32];omega
    refine Zk ?_;refine aG rfl (.agg #[.int .u32 base,.int .u32 ((base+1+t)%4294967296)]) ?_ ?_
    ·go_simp
    refine Zk ?_;refine Za 224 #[.int .u32 0,.int .u32 0] (λwa kW XW l16 f16=>?_);refine Zo 224 kW #[.int .u32 base,.int .u32 ((base+1+t)%4294967296)] XW (λw3 g1 g2 g3 g4=>?_);have hb7:Below w2.heap.size w2 w3:=l16.trans (g3 _ (by simp only[Hid]at f16;omega))
    have hFW:¬(kW=bb):=by have:=hB.lt bb rfl;simp only[Hid]at f16;omega
    replace XW:=g1;clear l16 f16 g1 g2 g3 g4;replace XK:=keep XK hb7;replace hkl:kB<w3.heap.size:=aB XK;have hkw2:kW<w3.heap.size:=aB XW;replace hB:=hB.below hb7;replace hU:=hU.trans (Upd.of_below hb7);clear hb7;go_upto_region 5 with(fail);refine ab ?_;refine o8 rfl rfl (λwb mB om bm0 em=>?_);refine Zk ?_;refine iY rfl (.tmp 35) (.const (.int .i64 1)) (.func 148) rfl mB 0 _ 1 148 (by decide) rfl rfl rfl om (by decide) (λwb1 om1 gm1=>?_);refine Zk ?_;refine iY rfl (.tmp 35) (.const (.int .i64 3)) (.func 149) rfl mB 1 _ 3 149 (by decide) rfl rfl rfl om1 (by decide) (λwb2 om2 gm2=>?_);refine Zk ?_;refine iY rfl (.tmp 35) (.const (.int .i64 2)) (.func 150) rfl mB 2 _ 2 150 (by decide) rfl rfl rfl om2 (by decide) (λwb3 om3 gm3=>?_);refine Zk ?_;have hb8:Below w3.heap.size w3 wb3:=((bm0.grown gm1 bm0.size (λk e=>by cases e;simp only[Hid]at em;omega)).grown gm2 (by have:=bm0.size;have:=gm1.size;omega) (λk e=>by cases e;simp only[Hid]at em;omega)).grown gm3 (by have:=bm0.size;have:=gm1.size;have:=gm2.size;omega) (λk e=>by cases e;simp only[Hid]at em;omega);clear om om1 om2 bm0 em gm1 gm2 gm3;replace XK:=keep XK hb8;replace XW:=keep XW hb8;replace hkl:kB<wb3.heap.size:=aB XK;replace hkw2:kW<wb3.heap.size:=aB XW;replace hB:=hB.below hb8;replace hU:=hU.trans (Upd.of_below hb8);clear hb8
    iterate 2 refine Zv ?_
    have hlk:=rG 2 150 (by decide) om3 (by kernel_rfl);clear om3;obtain⟨y0,y1,y2,y3⟩:=cl4 XK;obtain⟨z0,z1⟩:=cl2 XW;go_wp2_with fail
    refine(Z2 XK hF hkl hU XW hFW (FY hB (by simp<;>omega))).mono ?_
    clear y0 y1 y2 y3 z0 z1;rintro e wd ⟨rfl,F',hB,XK,hF,hkl,hU,XW,hFW,hkw2⟩;obtain⟨y0,y1,y2,y3⟩:=cl4 XK;obtain⟨z0,z1⟩:=cl2 XW;have hal:=hal0.trans (hU.low _ (λk e=>by rw[e];exact hbb) hws)
    have hcb:=br hB ((tJ aH)).1 (by simp<;>omega) ((tJ aH)).2 (hI.below hal)
    rw[<-hR.out]at hcb;clear hR;go_wp2_with fail;refine hcb.mono ?_;rintro e w' ⟨⟨v,rfl,hv1,hv2⟩,hb'⟩;go_wp2;go_ret2;exact dE hal hv1 hv2 hb'
   ·have q2:(call == 2)=false:=by simp[c2]
    replace hR:Hid (R=(ks BS.zero base ((base+1+t)%4294967296)).fin):=hR.out.trans (GJ rfl hmb.out.symm c1 c2);clear hmb
    obtain rfl:call=3:=by omega
    clear hRP c1 c2;clear y0 y1 y2 y3;refine ab ?_
    iterate 5 refine Zv ?_
    refine aG rfl (.int .u32 ((base+1+t)%4294967296)) ?_ ?_
    ·go_simp;simp only[IntKind.wrap_u32];omega
    refine Zk ?_;refine aG rfl (.agg #[.int .u32 base,.int .u32 ((base+1+t)%4294967296)]) ?_ ?_
    ·go_simp
    refine Zk ?_;refine Za 224 #[.int .u32 0,.int .u32 0] (λwa kW XW l16 f16=>?_);refine Zo 224 kW #[.int .u32 base,.int .u32 ((base+1+t)%4294967296)] XW (λw3 g1 g2 g3 g4=>?_);have hb7:Below w2.heap.size w2 w3:=l16.trans (g3 _ (by simp only[Hid]at f16;omega))
    have hFW:¬(kW=bb):=by have:=hB.lt bb rfl;simp only[Hid]at f16;omega
    replace XW:=g1;clear l16 f16 g1 g2 g3 g4;replace XK:=keep XK hb7;replace hkl:kB<w3.heap.size:=aB XK;have hkw2:kW<w3.heap.size:=aB XW;replace hB:=hB.below hb7;replace hU:=hU.trans (Upd.of_below hb7);clear hb7;go_upto_region 5 with(fail);refine ab ?_;refine o8 rfl rfl (λwb mB om bm0 em=>?_);refine Zk ?_;refine iY rfl (.tmp 35) (.const (.int .i64 1)) (.func 148) rfl mB 0 _ 1 148 (by decide) rfl rfl rfl om (by decide) (λwb1 om1 gm1=>?_);refine Zk ?_;refine iY rfl (.tmp 35) (.const (.int .i64 3)) (.func 149) rfl mB 1 _ 3 149 (by decide) rfl rfl rfl om1 (by decide) (λwb2 om2 gm2=>?_);refine Zk ?_;refine iY rfl (.tmp 35) (.const (.int .i64 2)) (.func 150) rfl mB 2 _ 2 150 (by decide) rfl rfl rfl om2 (by decide) (λwb3 om3 gm3=>?_);refine Zk ?_;have hb8:Below w3.heap.size w3 wb3:=((bm0.grown gm1 bm0.size (λk e=>by cases e;simp only[Hid]at em;omega)).grown gm2 (by have:=bm0.size;have:=gm1.size;omega) (λk e=>by cases e;simp only[Hid]at em;omega)).grown gm3 (by have:=bm0.size;have:=gm1.size;have:=gm2.size;omega) (λk e=>by cases e;simp only[Hid]at em;omega);clear om om1 om2 bm0 em gm1 gm2 gm3;replace XK:=keep XK hb8;replace XW:=keep XW hb8;replace hkl:kB<wb3.heap.size:=aB XK;replace hkw2:kW<wb3.heap.size:=aB XW;replace hB:=hB.below hb8;replace hU:=hU.trans (Upd.of_below hb8);clear hb8
    iterate 2 refine Zv ?_
    have hlk:=rG 3 149 (by decide) om3 (by kernel_rfl);clear om3;obtain⟨y0,y1,y2,y3⟩:=cl4 XK;obtain⟨z0,z1⟩:=cl2 XW;go_wp2_with fail
    refine(Z2 XK hF hkl hU XW hFW (EY hB (by simp<;>omega))).mono ?_
    clear y0 y1 y2 y3 z0 z1;rintro e wd ⟨rfl,F',hB,XK,hF,hkl,hU,XW,hFW,hkw2⟩;obtain⟨y0,y1,y2,y3⟩:=cl4 XK;obtain⟨z0,z1⟩:=cl2 XW;have hal:=hal0.trans (hU.low _ (λk e=>by rw[e];exact hbb) hws)
    have hcb:=br hB ((qV aH)).1 (by simp<;>omega) ((qV aH)).2 (hI.below hal)
    rw[<-hR.out]at hcb;clear hR;go_wp2_with fail;refine hcb.mono ?_;rintro e w' ⟨⟨v,rfl,hv1,hv2⟩,hb'⟩;go_wp2;go_ret2;exact dE hal hv1 hv2 hb'
 ·have q14:(ok != 14)=true:=by simp[k14]
  obtain rfl:R=([],false):=hR.out.trans (DM k14);clear hR hmb k14;go_wp2
  all_goals go_ret2
  all_goals exact⟨CodeR.no,hal0⟩
end
def mkF(i:Nat)(o:O)(call th t base arg:Int):List Ins×Bool:=match i with
 | 0=>fy o call th t base arg
 | 1=>fw o call th t base arg
 | 2=>fQ o call th t base arg
 | 3=>gP o call th t base arg
 | 4=>jR o call th t base arg
 | 5=>dS o call th t base
 | 6=>dm o call th t base arg
 | _=>rwF o call th t base arg
def dF(o:O)(call th t base arg:Int):Nat->Nat->List Ins×Bool
 | 0,_=>([],false)
 | n+1,i=>if(mkF i o call th t base arg).2=true then((mkF i o call th t base arg).1,true) else dF o call th t base arg n (i+1)
def l5(o:O)(call th t base arg:Int):List Ins×Bool:=dF o call th t base arg 8 0
theorem mkC(i:Nat)(hi:i<8)(o:O)(call th t base arg:Int)(harg:0<=arg/\arg<4294967296)(w:World)(hN:NmW w)(hI:IsaW w):Calls Tryz.prog (86+i) #[ov o,.int .i64 call,.int .i64 th,.int .i64 t,.int .u32 base,.int .u32 arg] w λe w'=>CodeR w w' (mkF i o call th t base arg) e/\Below w.heap.size w w':=by
 match i,hi with
 | 0,_=>exact Au o call th t base arg w hN hI
 | 1,_=>exact xV o call th t base arg w hN hI
 | 2,_=>exact Cm o call th t base arg harg w hN hI
 | 3,_=>exact yI o call th t base arg w hN hI
 | 4,_=>exact BH o call th t base arg harg w hN hI
 | 5,_=>exact xG o call th t base arg w hN hI
 | 6,_=>exact Bu o call th t base arg harg w hN hI
 | 7,_=>exact EZ o call th t base arg harg w hN hI
theorem mkE0(args:Array Value)(w:World):(callFunc 86 args).run Tryz.prog w=.ok (.enter 86 args) w:=by kernel_rfl
theorem mkE1(args:Array Value)(w:World):(callFunc 87 args).run Tryz.prog w=.ok (.enter 87 args) w:=by kernel_rfl
theorem mkE2(args:Array Value)(w:World):(callFunc 88 args).run Tryz.prog w=.ok (.enter 88 args) w:=by kernel_rfl
theorem mkE3(args:Array Value)(w:World):(callFunc 89 args).run Tryz.prog w=.ok (.enter 89 args) w:=by kernel_rfl
theorem mkE4(args:Array Value)(w:World):(callFunc 90 args).run Tryz.prog w=.ok (.enter 90 args) w:=by kernel_rfl
theorem mkE5(args:Array Value)(w:World):(callFunc 91 args).run Tryz.prog w=.ok (.enter 91 args) w:=by kernel_rfl
theorem mkE6(args:Array Value)(w:World):(callFunc 92 args).run Tryz.prog w=.ok (.enter 92 args) w:=by kernel_rfl
theorem mkE7(args:Array Value)(w:World):(callFunc 93 args).run Tryz.prog w=.ok (.enter 93 args) w:=by kernel_rfl
theorem mkE(i:Nat)(hi:i<8)(args:Array Value)(w:World):(callFunc (86+i) args).run Tryz.prog w=.ok (.enter (86+i) args) w:=by
 match i,hi with
 | 0,_=>exact mkE0 args w
 | 1,_=>exact mkE1 args w
 | 2,_=>exact mkE2 args w
 | 3,_=>exact mkE3 args w
 | 4,_=>exact mkE4 args w
 | 5,_=>exact mkE5 args w
 | 6,_=>exact mkE6 args w
 | 7,_=>exact mkE7 args w
def wk:Array Value:=#[.func (.func 86) #[] #[],.func (.func 87) #[] #[],.func (.func 88) #[] #[],.func (.func 89) #[] #[],.func (.func 90) #[] #[],.func (.func 91) #[] #[],.func (.func 92) #[] #[],.func (.func 93) #[] #[]]
theorem AE{i:Nat}(hi:i<8):wk[i]? = some (.func (.func (86+i)) #[] #[]):=by
 match i,hi with
 | 0,_=>rfl
 | 1,_=>rfl
 | 2,_=>rfl
 | 3,_=>rfl
 | 4,_=>rfl
 | 5,_=>rfl
 | 6,_=>rfl
 | 7,_=>rfl
theorem zj(o:O)(call th t base arg:Int)(harg:0<=arg/\arg<4294967296)(w:World)(hN:NmW w)(hI:IsaW w):Calls Tryz.prog 75 #[ov o,.int .i64 call,.int .i64 th,.int .i64 t,.int .u32 base,.int .u32 arg] w λe w'=>CodeR w w' (l5 o call th t base arg) e/\Below w.heap.size w w':=by
 obtain⟨R,hR⟩:=Zh (l5 o call th t base arg);rw[<-hR.out]
 have hbs:∀w:World,(Instr.buildSlice 185 8 #[(0,.func (.func 86) #[] #[]),(1,.func (.func 87) #[] #[]),(2,.func (.func 88) #[] #[]),(3,.func (.func 89) #[] #[]),(4,.func (.func 90) #[] #[]),(5,.func (.func 91) #[] #[]),(6,.func (.func 92) #[] #[]),(7,.func (.func 93) #[] #[])]).run Tryz.prog w=.ok (.slice (some ⟨w.heap.size,0,none⟩) 8 8) (w.alloc (.cells wk 186)):=λw=>by kernel_rfl
 have hcon:=λi hi w' (hb:Below w.heap.size w w')=>mkC i hi o call th t base arg harg w' (hN.below hb) (hI.below hb);obtain⟨F,hF⟩:∃F:Nat->List Ins×Bool,Hid (F=λi=>mkF i o call th t base arg):=⟨_,rfl⟩
 have hR':Hid (∀n i,dF o call th t base arg (n+1) i=if(F i).2=true then((F i).1,true) else dF o call th t base arg n (i+1)):=by intro n i;rw[hF.out];rfl
 have hcon':∀i,i<8->∀w',Below w.heap.size w w'->Calls Tryz.prog (86+i) #[ov o,.int .i64 call,.int .i64 th,.int .i64 t,.int .u32 base,.int .u32 arg] w' λe w''=>CodeR w' w'' (F i) e/\Below w'.heap.size w' w'':=by rw[hF.out];exact hcon
 clear hcon hF;obtain⟨G,hG⟩:∃G:Nat->Nat->List Ins×Bool,Hid (G=dF o call th t base arg):=⟨_,rfl⟩
 have hG0:Hid (∀i,G 0 i=([],false)):=by intro i;rw[hG.out];rfl
 have hRG:Hid (R=G 8 0):=by rw[hG.out];exact hR.out
 rw[<-hG.out]at hR';clear hR hG;obtain⟨ok,on,oa,ob⟩:=o;unfold ov at hcon' ⊢;go_enter Tryz.func75,Tryz.ntmps75;go_upto_region 1 with(fail);obtain⟨W,kB,e0,e1,XK,hal0⟩:=aO w #[.int .i64 ok,.int .i64 on,.int .i64 oa,.int .i64 ob] 43;rw[e0,e1];clear e0 e1;refine ab ?_
 refine wpList_plain rfl λK hK=>?_
 unfold Oper.wp execOp;simp only[List.map_toArray,List.map_cons,List.map_nil,Act.eval,Sem.run_bind,hbs,Result.andThen_ok];obtain⟨W2,tB,e0,e1,XT,hal1⟩:=aO W wk 186;rw[e0,e1];clear e0 e1;replace XK:=keep XK hal1;replace hal0:=hal0.trans (hal1.mono hal0.size);clear hal1;go_simp;refine hK _ _ ?_;clear hK K;go_upto_region 2 with(fail);go_loopw [20] (λv wr=>∃i:Nat,v=.int .i64 i/\i<=8/\Hid (R=G (8 - i) i)/\Below w.heap.size w wr/\wr.heap[kB]? = some (.cells #[.int .i64 ok,.int .i64 on,.int .i64 oa,.int .i64 ob] 43 (0,0))/\wr.heap[tB]? = some (.cells wk 186 (0,0))) (λv _=>8 - (intOf v).toNat)
 case atStart=>exact⟨0,rfl,by omega,hRG,hal0,XK,XT⟩
 case round=>
  clear hal0 XK XT hRG;obtain⟨i,rfl,hi,hRG,hal,XK,XT⟩:=hrel
  by_cases hlt:i<8
  case neg=>
   obtain rfl:i=8:=by omega
   obtain rfl:R=([],false):=hRG.out.trans (hG0.out _);clear hRG hG0 hR'
   have hl1:¬(((8:Nat):Int)<8):=by decide
   go_wp2;go_ret2;exact⟨CodeR.no,hal⟩
  have hl0:(0:Int)<=i:=by omega
  have hl1:(i:Int)<8:=by omega
  have yt:wr.cell? ⟨tB,i,none⟩=some (.func (.func (86+i)) #[] #[]):=by rw[ae wr tB i _ 186 _ XT];exact AE hlt
  have hc:=hcon' i hlt
  have hstep:Hid (R=if(F i).2=true then((F i).1,true) else G (8 - (i+1)) (i+1)):=by
   have:=hR'.out (8 - (i+1)) i;rw[show 8 - (i+1)+1=8 - i by omega]at this;exact hRG.out.trans this
  clear hRG;obtain⟨rf,hrf⟩:=Zh (F i);rw[<-hrf.out]at hc hstep;obtain⟨g,hg⟩:=Zh (86+i);have hce:=mkE i hlt;rw[<-hg.out]at hc yt hce;obtain⟨y0,y1,y2,y3⟩:=cl4 XK;go_wp2_with fail;clear hce;refine(hc wr hal).mono ?_;rintro e w1 ⟨⟨v,rfl,hO,hf⟩,hb1⟩;clear y0 y1 y2 y3 yt hc;obtain⟨rl,rb⟩:=rf;simp only at hO hstep ⊢;replace XK:=keep XK hb1;replace XT:=keep XT hb1;have hal':=hal.trans (hb1.mono hal.size);cases rb
  ·have hn:Hid (R=G (8 - (i+1)) (i+1)):=hstep.out.trans (af Bool.false_ne_true)
   clear hstep hrf hg;obtain⟨p,m,c,rfl⟩:=m5 hO;go_wp2;go_roundw
   case rel=>exact⟨i+1,by go_num,by omega,hn,hal',XK,XT⟩
   case measure=>simp[intOf];omega
  ·obtain rfl:R=(rl,true):=hstep.out.trans (ag rfl)
   clear hstep hrf hg;obtain⟨p,m,c,rfl⟩:=m5 hO;go_wp2;go_ret2;exact⟨⟨_,rfl,hO,λk hk=>ar hal.size (hf k hk)⟩,hal'⟩
theorem p8{α:Type}{o M:List α}{i:Nat}{y:α}(hi:i<o.length)(hot:o.take i=M.take i)(hy:M[i]? = some y):(o.set i y).take (i+1)=M.take (i+1):=by
 rw[List.take_add_one,List.take_add_one,hy,List.take_set_of_le (ah i),hot,List.getElem?_set_self hi]
def U32(k:Int):Prop:=0<=k/\k<4294967296
def KOk(L:List Ins):Prop:=∀x∈L,U32 x.k
def j4(d:Int)(x:Ins):Ins:=if bt x.op=true then { x with k:=(x.k+d)%4294967296 } else x
def dc(L:List Ins)(d:Int):List Ins:=L.map (j4 d)
theorem kj(L:List Ins)(d:Int):(dc L d).length=L.length:=by simp[dc]
theorem zN{L:List Ins}{d:Int}(h:KOk L):KOk (dc L d):=λx hx=>by
 obtain⟨y,hy,rfl⟩:=List.mem_map.1 hx;unfold j4
 split
 ·exact⟨by simp only;omega,by simp only;omega⟩
 ·exact h y hy
def GH:Ins:=⟨0,0,0,0,0⟩
theorem EA(V:Option Addr)(L:List Ins)(c:Nat)(d:Int)(hd:0<=d/\d<=100000)(hL:L.length<=100000)(hK:KOk L)(w:World)(hI:IsaW w)(hR:InsR w V L):Calls Tryz.prog 77 #[.slice V L.length c,.int .i64 d] w λe w'=>(∃g c',e=.returned (.slice (some ⟨g,0,none⟩) (dc L d).length c')/\Own eI w' (.slice (some ⟨g,0,none⟩) (dc L d).length c') (dc L d)/\w.heap.size<=g)/\Below w.heap.size w w':=by
 have hd0:=hd.1;have hd1:=hd.2;obtain⟨M,hM⟩:=Zh (dc L d);rw[<-hM.out]
 have hMl:M.length=L.length:=by rw[hM.out,kj]
 go_enter Tryz.func77,Tryz.ntmps77;go_upto_region 1 with(fail);refine ab ?_
 iterate 2 refine Zv ?_
 refine sA lB rfl 93 Tryz.underlying93 GH 40 (by kernel_rfl) (by decide) (.tmp 9) (.tmp 9) rfl L.length (by omega) rfl rfl (λw1 g hO hal hg=>?_);refine Zk ?_;refine Zv ?_;have hgw:w.heap.size<=g:=aD hg.out.symm;clear hg;go_upto_region 3 with(fail);go_loopw [13] (λv wr=>∃(i:Nat)(o:List Ins),v=.int .i64 i/\i<=L.length/\o.length=L.length/\o.take i=M.take i/\Own eI wr (.slice (some ⟨g,0,none⟩) L.length L.length) o/\Below w.heap.size w wr) (λv _=>L.length - (intOf v).toNat)
 case atStart=>exact⟨0,List.replicate L.length GH,rfl,au _,List.length_replicate,rfl,hO,hal⟩
 case round=>
  clear hO hal;obtain⟨i,o,rfl,hi,hol,hot,hO,hal⟩:=hrel
  by_cases hlt:i<L.length
  case neg=>
   obtain rfl:i=L.length:=by omega
   have hl1:¬((L.length:Int)<L.length):=by omega
   have ho:o=M:=by rw[<-List.take_length (l:=o),hol,hot,<-hMl,List.take_length]
   subst ho;clear hM hot;go_wp2;go_ret;rw[<-hol]at hO ⊢;exact⟨⟨_,_,rfl,hO,hgw⟩,hal⟩
  have hl0:(0:Int)<=i:=by omega
  have hl1:(i:Int)<L.length:=by omega
  obtain⟨x,hx⟩:∃x,L[i]? = some x:=⟨L[i],aq hlt⟩;obtain⟨z,hz⟩:∃z,o[i]? = some z:=⟨o[i]'(by omega),aq (by omega)⟩;have hxk:=hK x (aC hx);obtain⟨hk0,hk1⟩:=hxk
  have hMi:M[i]? = some (j4 d x):=by rw[hM.out];unfold dc;rw[List.getElem?_map,hx];rfl
  have hRr:=hR.below hal;obtain⟨bL,off,rfl,hbl,hcl⟩:=hRr (by omega);have hxr:wr.rangeAt bL (off+i * 5) (dH x):=RowAt.elem (E:=eI) lB (λj u hu=>hcl j u hu) hx;clear hcl;obtain⟨xo,xa,xb,xc,xk⟩:=x;simp only at hk0 hk1;have hju:=λw' (h:Below w.heap.size w w')=>rU xo w' (hI.below h)
  have hal3:=λw'=>zq 3 xk d ⟨hk0,hk1⟩ ⟨hd0,by omega⟩ w'
  obtain⟨jb,hjb⟩:=Zh (bt xo);rw[<-hjb.out]at hju;rw[show gj 3 xk d=(xk+d)%4294967296 from rfl,show decide (3<=(3:Int)/\(3:Int)<=12)=true from rfl]at hal3;go_upto_region 4 with(fail);refine ab ?_;refine Zv ?_;refine aG rfl (.pointer (some ⟨bL,off+i * 5,none⟩)) ?_ ?_
  ·go_simp
  refine Zk ?_;refine aG rfl (.agg #[.int .i64 xo,.int .i64 xa,.int .i64 xb,.int .i64 xc,.int .u32 xk]) (aZ 115 (.tmp 16) rfl bL (off+i * 5) rfl (dH ⟨xo,xa,xb,xc,xk⟩) _ hxr Tryz.underlying115 rfl (by kernel_rfl)) ?_;refine Zk ?_;refine Za 115 #[.int .i64 0,.int .i64 0,.int .i64 0,.int .i64 0,.int .u32 0] (λw4 b6 X6 l6 f6=>?_);refine Zv ?_;refine Zo 115 b6 #[.int .i64 xo,.int .i64 xa,.int .i64 xb,.int .i64 xc,.int .u32 xk] X6 (λw5 g1 g2 g3 g4=>?_);have hb5:Below wr.heap.size wr w5:=l6.trans (g3 _ (by simp only[Hid]at f6;omega))
  have h6:wr.heap.size<=b6:=by simp only[Hid]at f6;omega
  clear X6 l6 f6 g2 g3 g4 hxr;have X6:=g1;clear g1;replace hal:=hal.trans (hb5.mono hal.size);have hg7:g<wr.heap.size:=Own.lt hO rfl
  have hg6:b6≠g:=by omega
  replace hO:=Own.below hO hb5;clear hb5;go_upto_region 5 with(fail);refine ab ?_
  iterate 2 refine Zv ?_
  refine Zd 115 X6 Tryz.underlying115 ?_;refine aG rfl (.pointer (some ⟨g,i * 5,none⟩)) ?_ ?_
  ·go_simp
  refine Zk ?_;refine pF lB rfl 115 (by kernel_rfl) (.tmp 21) (.tmp 20) rfl g i L.length L.length o z ⟨xo,xa,xb,xc,xk⟩ rfl rfl hO hz (λw6 hO6 hk6 hb6 hs6=>?_);refine Zk ?_;replace X6:=(hk6 b6 hg6).trans X6;replace hal:=hal.trans (hb6 _ hgw);replace hO:=hO6;clear hO6 hk6 hb6 hs6;have y0:=ae w6 b6 0 _ 115 _ X6;have y4:=ae w6 b6 4 _ 115 _ X6;go_wp2_with fail;refine(hju w6 hal).mono ?_;rintro e w6 ⟨rfl,rfl⟩
  have hset:∀y,(o.set i y).length=L.length:=λy=>by rw[List.length_set];exact hol
  have htk:∀y,M[i]? = some y->(o.set i y).take (i+1)=M.take (i+1):=λy hy=>p8 (by omega) hot hy;cases jb
  ·rw[show j4 d ⟨xo,xa,xb,xc,xk⟩=⟨xo,xa,xb,xc,xk⟩ from af (by rw[<-hjb.out];exact Bool.false_ne_true)]at hMi
   have h1:=htk _ hMi;have h2:=hset ⟨xo,xa,xb,xc,xk⟩;clear htk hset hM hot hjb hMi;go_wp2;go_roundw
   case rel=>exact⟨i+1,_,by go_num,by omega,h2,h1,hO,hal⟩
   case measure=>simp[intOf];omega
  rw[show j4 d ⟨xo,xa,xb,xc,xk⟩=⟨xo,xa,xb,xc,(xk+d)%4294967296⟩ from ag hjb.out.symm]at hMi;have h1:=htk _ hMi;have h2:=hset ⟨xo,xa,xb,xc,(xk+d)%4294967296⟩;clear htk hset hM hot hjb hMi;go_upto_region 7 with(fail);refine ab ?_
  iterate 5 refine Zv ?_
  refine aG rfl (.int .u32 d) ?_ ?_
  ·first|(go_simp;done)|(go_simp;simp only[IntKind.wrap_u32];omega)
  refine Zk ?_;refine Zc 95 #[.int .i64 3,.int .u32 xk,.int .u32 d] (.tuple #[.int .u32 ((xk+d)%4294967296),.bool true]) (hal3 w6) (λw7 hb7=>?_);clear y0 y4;replace X6:=keep X6 hb7;replace hO:=Own.below hO hb7;replace hal:=hal.trans (hb7.mono hal.size);clear hb7 hal3;obtain⟨cur,hcur,hcs⟩:=ex lB hO
  have hcs':i * 5+4<cur.size:=by
   rw[List.length_set,hol]at hcs;have:eI.sz=5:=rfl;rw[this]at hcs;omega
  iterate 3 refine Zv ?_
  refine aG rfl (.pointer (some ⟨g,i * 5,none⟩)) ?_ ?_
  ·go_simp
  refine Zk ?_;refine aG rfl (.pointer (some ⟨g,i * 5+4,none⟩)) ?_ ?_
  ·go_simp
  refine Zk ?_;refine Zw 37 (i * 5+4) (.int .u32 ((xk+d)%4294967296)) gW hcur hcs' (λw8 p1 p2 p3=>?_);have hO8:=dG lB hO hcur (i:=i) (q:=4) (x:=⟨xo,xa,xb,xc,xk⟩) (y:=⟨xo,xa,xb,xc,(xk+d)%4294967296⟩) (by rw[List.getElem?_set_self (by omega)]) (by decide) rfl p1;rw[List.set_set]at hO8;replace hal:=hal.trans (p3 _ hgw);clear p1 p2 p3 hcur hcs hcs' hO;go_wp2;go_roundw
  case rel=>exact⟨i+1,_,by go_num,by omega,h2,h1,hO8,hal⟩
  case measure=>simp[intOf];omega
section
theorem u0:U32 0:=by unfold U32;omega
structure JO(st:BS):Prop where
 k:KOk st.code
 z:∀I∈st.code,bt I.op=true->I.k=0
 m:IsMap st.places
 p:∀nm:ByteArray,0<=lZ (st.places.atKey (nmL nm) (.lit (.int .i64 0)))/\lZ (st.places.atKey (nmL nm) (.lit (.int .i64 0)))<=st.code.length
theorem BV:JO BS.zero:=⟨λI h=>(by cases h),λI h=>(by cases h),⟨_,rfl⟩,λnm=>by show 0<=lZ (.lit (.int .i64 0))/\lZ (.lit (.int .i64 0))<=_;simp[lZ,BS.zero]⟩
theorem lL{st:BS}{x:Ins}(hk:U32 x.k)(hx:bt x.op=true->x.k=0)(h:JO st):JO (st.emit x):=by
 have hm:∀I∈(st.emit x).code,I∈st.code\/I=x:=λI hI=>by simpa[BS.emit] using hI
 refine⟨λI hI=>?_,λI hI hj=>?_,h.m,λnm=>by have:=h.p nm;simp only[BS.emit,List.length_append,List.length_singleton];omega⟩
 ·rcases hm I hI with h1|rfl
  ·exact h.k I h1
  ·exact hk
 ·rcases hm I hI with h1|rfl
  ·exact h.z I h1 hj
  ·exact hx hj
theorem Gf{st:BS}{op a:Int}{n:ByteArray}(h:JO st):JO (st.go op a n):=by
 have:=lL (x:=⟨op,a,0,0,0⟩) u0 (λ_=>rfl) h;exact⟨this.k,this.z,this.m,this.p⟩
theorem ES{st:BS}{a k:Int}(hk:U32 k)(h:JO st):JO (st.set a k):=lL hk (λe=>by simp[bt]at e) h
theorem E5{st:BS}{op a x y:Int}(h:JO st):JO (st.alu op a x y):=lL u0 (λ_=>rfl) h
theorem AB{st:BS}{op a k:Int}(hk:U32 k)(ho:bt op=false)(h:JO st):JO (st.ask op a k):=lL hk (λe=>by rw[show bt _=false from ho]at e;cases e) h
theorem E7{st:BS}{a c k:Int}(hk:U32 k)(h:JO st):JO (st.cas a c k):=lL hk (λe=>by simp[bt]at e) h
theorem An{st:BS}{n:ByteArray}(h:JO st):JO (st.place n):=by
 unfold BS.place
 split
 ·exact⟨h.k,h.z,h.m,h.p⟩
 ·refine⟨h.k,h.z,h.m.put _ _,λnm=>?_⟩
  by_cases e:nmL nm=nmL n
  ·simp only[e]
   rw[atKey_put_same h.m (by exact trivial)];exact⟨Int.natCast_nonneg _,Int.le_refl _⟩
  ·simp only
   rw[atKey_put_other e];exact h.p nm
def JL(N:Nat)(l:List Ins):Prop:=l.length=N/\∀I∈l,U32 I.k/\(bt I.op=true->0<=I.k/\I.k<=N)
theorem wD{D:Plc}{N:Nat}(hp:∀nm:ByteArray,0<=lZ (D.atKey (nmL nm) (.lit (.int .i64 0)))/\lZ (D.atKey (nmL nm) (.lit (.int .i64 0)))<=N):∀{l:List Lnk} {o o':List Ins},JL N o->l.foldl (cQ D) (some o)=some o'->JL N o'
 | [],o,o',h,e=>by cases e;exact h
 | x :: l,o,o',h,e=>by
  rw[List.foldl_cons]at e
  cases e1:cQ D (some o) x with
  | none=>rw[e1,jZ]at e;cases e
  | some o1=>
   rw[e1]at e;refine wD hp ?_ e;simp only[cQ]at e1
   split at e1
   ·split at e1
    ·cases e1
     refine⟨(Bl _ _ _).trans h.1,λI hI=>?_⟩;unfold uK at hI
     split at hI
     ·rcases List.mem_or_eq_of_mem_set hI with h1|rfl
      ·exact h.2 I h1
      ·have:=hp x.name
       unfold U32;simp only;omega
     ·exact h.2 I hI
    ·cases e1
   ·cases e1
def JK(l:List Ins):Prop:=∀I∈l,bt I.op=true->0<=I.k/\I.k<=l.length
def CP(r:List Ins×Bool):Prop:=KOk r.1/\r.1.length<=100/\JK r.1
theorem sN:CP ([],false):=⟨λx h=>(by cases h),by simp,λx h=>(by cases h)⟩
theorem Fy{st:BS}(hs:st.sz<=100)(h:JO st):CP st.fin:=by
 unfold BS.fin
 split
 ·exact sN
 ·rename_i o e
  split
  ·exact sN
  ·have h1:=wD h.p ⟨rfl,λI hI=>⟨h.k I hI,λhj=>by rw[h.z I hI hj];omega⟩⟩ e
   unfold BS.sz at hs;exact⟨λI hI=>(h1.2 I hI).1,by rw[h1.1];omega,λI hI hj=>by rw[h1.1];exact(h1.2 I hI).2 hj⟩
theorem BB{st:BS}{base:Int}(h:JO st):∀n,JO (rdS st base n)
 | 0=>h
 | n+1=>AB (by unfold U32;omega) rfl (BB h n)
theorem uQ{c:Prop}[Decidable c]{a b:List Ins×Bool}(h1:c->CP a)(h2:¬c->CP b):CP (if c then a else b):=by
 split
 ·exact h1 ‹_›
 ·exact h2 ‹_›
theorem Ej{o:O}{call th t:Int}{a:List Ins×Bool}(h:RP o th->CP a):CP (if a8 o call th t=true then a else([],false)):=uQ (λc=>h (jz c).2.2) (λ_=>sN)
attribute [local simp] cE nV aW aS aI rV mJ iK mE nW iU ko ky jQ kp ll jD mW upS rY nh jO jN pZ kQ iN kK iO jJ jG na ks iQ nk ol sj rK g7 mg kn kk kq kU kw kG mc iR cH fP fL ft fN iI cU uu
theorem Ew(i:Nat)(o:O){call th t base arg:Int}(hb:0<=base/\base<4294967296):CP (mkF i o call th t base arg):=by
 unfold mkF
 split<;>simp only[fy,fw,fQ,gP,jR,dS,dm,rwF]
 all_goals
  repeat' with_reducible (first|exact sN|refine Ej λhn=>?_|refine uQ (λ_=>?_) (λ_=>?_))
 all_goals
  unfold RP at hn;refine Fy ?_ ?_
 all_goals first
  | (simp<;>omega;done)
  | ((try simp);repeat' with_reducible (first|exact BV|apply lL|apply ES|apply E5|apply AB|apply E7|apply Gf|apply An|apply BB))<;>first|rfl|(unfold U32;omega)|(unfold U32;simp only;omega)|(simp[bt];done)
theorem nY(o:O){call th t base arg:Int}(hb:0<=base/\base<4294967296):∀n i,CP (dF o call th t base arg n i)
 | 0,_=>sN
 | n+1,i=>uQ (λ_=>Ew i o hb) (λ_=>nY o hb n (i+1))
theorem A6(o:O){call th t base arg:Int}(hb:0<=base/\base<4294967296):CP (l5 o call th t base arg):=nY o hb 8 0
end
end Go.Proofs.YtldlcnaphednnaaGreatDoor
