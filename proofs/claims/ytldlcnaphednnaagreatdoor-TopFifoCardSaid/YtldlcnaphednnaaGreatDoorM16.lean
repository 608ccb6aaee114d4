/- The code of locks of two, as it is asked for. -/
import Derived.Test.YtldlcnaphednnaaGreatDoorM15
set_option maxRecDepth 100000
set_option maxHeartbeats 32000000
set_option linter.unusedVariables false
set_option linter.unusedSimpArgs false
namespace Go.Proofs.YtldlcnaphednnaaGreatDoor
open Go.RowKit Go.Maps
section
attribute [local simp] fL ft dD cN fN cL df dZ dr dj gD gz gA gy gQ eQ cH gE gV iZ gB dz iI dA dy dV dq iz ge dX eO dC dx eh iL cU dh dR mR fV fh fT dP dO fP iT dB eW fE cj ee iD iR dW
def fQ(o:O)(call th t base arg:Int):List Ins×Bool:=
 if o.k=6 then(if a8 o call th t=true then(if t=o.a then(if call=1 then(aI (ol (aW BS.zero ((base+3)%4294967296) t) base ((base+1)%4294967296) ((base+2)%4294967296) ((base+3)%4294967296) 1)).fin else(aI (g7 (aS BS.zero ((base+3)%4294967296) t) base ((base+1)%4294967296) ((base+2)%4294967296) ((base+3)%4294967296) 1)).fin) else(if t=o.b then(if call=1 then(aI (ol (aW BS.zero ((base+3)%4294967296) t) ((base+1)%4294967296) base ((base+2)%4294967296) ((base+3)%4294967296) 0)).fin else(aI (g7 (aS BS.zero ((base+3)%4294967296) t) ((base+1)%4294967296) base ((base+2)%4294967296) ((base+3)%4294967296) 0)).fin) else(BS.zero.set 7 4).fin)) else([],false)) else(if o.k=7 then(if a8 o call th t=true then(if t=o.a then(if call=1 then(aI (sj (aW BS.zero ((base+2)%4294967296) t) base ((base+1)%4294967296) 0 ((base+2)%4294967296) 0)).fin else(aI (g7 (aS BS.zero ((base+2)%4294967296) t) base ((base+1)%4294967296) 0 ((base+2)%4294967296) 0)).fin) else(if t=o.b then(if call=1 then(aI (rK (aW BS.zero ((base+2)%4294967296) t) ((base+1)%4294967296) base 0 ((base+2)%4294967296) 0)).fin else(aI (g7 (aS BS.zero ((base+2)%4294967296) t) ((base+1)%4294967296) base 0 ((base+2)%4294967296) 0)).fin) else(BS.zero.set 7 4).fin)) else([],false)) else(([],false)))
theorem zS{o:O}{call th t base arg:Int}(h:o.k≠6/\o.k≠7):fQ o call th t base arg=([],false):=by unfold fQ;rw[af (show ¬o.k=6 by omega),af (show ¬o.k=7 by omega)]
theorem yU{o:O}{call th t base arg:Int}(h:a8 o call th t=false):fQ o call th t base arg=([],false):=by
 unfold fQ;rw[h];simp only[Bool.false_eq_true,if_false,ite_self]
theorem EK{o:O}{call th t base arg:Int}(k:o.k=6)(h:a8 o call th t=true)(c0:(t=o.a))(c1:(call=1)):fQ o call th t base arg=(aI (ol (aW BS.zero ((base+3)%4294967296) t) base ((base+1)%4294967296) ((base+2)%4294967296) ((base+3)%4294967296) 1)).fin:=by unfold fQ;rw[ag k,ag h,ag c0,ag c1]
theorem FA{o:O}{call th t base arg:Int}(k:o.k=6)(h:a8 o call th t=true)(c0:(t=o.a))(c1:¬(call=1)):fQ o call th t base arg=(aI (g7 (aS BS.zero ((base+3)%4294967296) t) base ((base+1)%4294967296) ((base+2)%4294967296) ((base+3)%4294967296) 1)).fin:=by unfold fQ;rw[ag k,ag h,ag c0,af c1]
theorem Ee{o:O}{call th t base arg:Int}(k:o.k=6)(h:a8 o call th t=true)(c0:¬(t=o.a))(c1:(t=o.b))(c2:(call=1)):fQ o call th t base arg=(aI (ol (aW BS.zero ((base+3)%4294967296) t) ((base+1)%4294967296) base ((base+2)%4294967296) ((base+3)%4294967296) 0)).fin:=by unfold fQ;rw[ag k,ag h,af c0,ag c1,ag c2]
theorem Fd{o:O}{call th t base arg:Int}(k:o.k=6)(h:a8 o call th t=true)(c0:¬(t=o.a))(c1:(t=o.b))(c2:¬(call=1)):fQ o call th t base arg=(aI (g7 (aS BS.zero ((base+3)%4294967296) t) ((base+1)%4294967296) base ((base+2)%4294967296) ((base+3)%4294967296) 0)).fin:=by unfold fQ;rw[ag k,ag h,af c0,ag c1,af c2]
theorem E3{o:O}{call th t base arg:Int}(k:o.k=6)(h:a8 o call th t=true)(c0:¬(t=o.a))(c1:¬(t=o.b)):fQ o call th t base arg=(BS.zero.set 7 4).fin:=by unfold fQ;rw[ag k,ag h,af c0,af c1]
theorem Fq{o:O}{call th t base arg:Int}(k:o.k=7)(h:a8 o call th t=true)(c0:(t=o.a))(c1:(call=1)):fQ o call th t base arg=(aI (sj (aW BS.zero ((base+2)%4294967296) t) base ((base+1)%4294967296) 0 ((base+2)%4294967296) 0)).fin:=by unfold fQ;rw[af (show ¬o.k=6 by omega),ag k,ag h,ag c0,ag c1]
theorem El{o:O}{call th t base arg:Int}(k:o.k=7)(h:a8 o call th t=true)(c0:(t=o.a))(c1:¬(call=1)):fQ o call th t base arg=(aI (g7 (aS BS.zero ((base+2)%4294967296) t) base ((base+1)%4294967296) 0 ((base+2)%4294967296) 0)).fin:=by unfold fQ;rw[af (show ¬o.k=6 by omega),ag k,ag h,ag c0,af c1]
theorem Fg{o:O}{call th t base arg:Int}(k:o.k=7)(h:a8 o call th t=true)(c0:¬(t=o.a))(c1:(t=o.b))(c2:(call=1)):fQ o call th t base arg=(aI (rK (aW BS.zero ((base+2)%4294967296) t) ((base+1)%4294967296) base 0 ((base+2)%4294967296) 0)).fin:=by unfold fQ;rw[af (show ¬o.k=6 by omega),ag k,ag h,af c0,ag c1,ag c2]
theorem Eb{o:O}{call th t base arg:Int}(k:o.k=7)(h:a8 o call th t=true)(c0:¬(t=o.a))(c1:(t=o.b))(c2:¬(call=1)):fQ o call th t base arg=(aI (g7 (aS BS.zero ((base+2)%4294967296) t) ((base+1)%4294967296) base 0 ((base+2)%4294967296) 0)).fin:=by unfold fQ;rw[af (show ¬o.k=6 by omega),ag k,ag h,af c0,ag c1,af c2]
theorem E2{o:O}{call th t base arg:Int}(k:o.k=7)(h:a8 o call th t=true)(c0:¬(t=o.a))(c1:¬(t=o.b)):fQ o call th t base arg=(BS.zero.set 7 4).fin:=by unfold fQ;rw[af (show ¬o.k=6 by omega),ag k,ag h,af c0,af c1]
theorem Cm(o:O)(call th t base arg:Int)(harg:0<=arg/\arg<4294967296)(w:World)(hN:NmW w)(hI:IsaW w):Calls Tryz.prog 88 #[ov o,.int .i64 call,.int .i64 th,.int .i64 t,.int .u32 base,.int .u32 arg] w λe w'=>CodeR w w' (fQ o call th t base arg) e/\Below w.heap.size w w':=by
 obtain⟨hr0,hr1⟩:=harg;obtain⟨R,hR⟩:=Zh (fQ o call th t base arg);rw[<-hR.out];have hM:=λw' (hb:Below w.heap.size w w')=>i4 o call th t w' (hN.below hb);have hRP:=λh=>(jz (o:=o) (c:=call) (t:=th) (u:=t) h);obtain⟨mb,hmb⟩:=Zh (a8 o call th t);rw[<-hmb.out]at hM hRP;obtain⟨ok,on,oa,ob⟩:=o;unfold ov at hM ⊢;simp only at hRP;go_enter Tryz.func88,Tryz.ntmps88;go_upto_region 1 with(fail);obtain⟨W,kB,e0,e1,XK,hal0⟩:=aO w #[.int .i64 ok,.int .i64 on,.int .i64 oa,.int .i64 ob] 43;rw[e0,e1];have hkw:w.heap.size<=kB:=aD e1;clear e0 e1;obtain⟨y0,y1,y2,y3⟩:=cl4 XK
 by_cases k6:ok=6
 ·subst k6
  go_wp2_with fail;refine(hM W hal0).mono ?_;rintro e w1 ⟨rfl,hb1⟩;clear y0 y1 y2 y3 hM;replace XK:=keep XK hb1;replace hal0:=hal0.trans (hb1.mono hal0.size);clear hb1;obtain⟨y0,y1,y2,y3⟩:=cl4 XK;cases mb
  ·obtain rfl:R=([],false):=hR.out.trans (yU hmb.out.symm)
   clear hR hmb;go_wp2;go_ret2;exact⟨CodeR.no,hal0⟩
  go_upto_region 4 with(fail);obtain⟨w2,bb,e0,e1,XB,hb2⟩:=aO w1 #[.slice none 0 0,.map none,.slice none 0 0,.bool false] 202;rw[e0,e1];have hbb':w1.heap.size=bb:=e1;clear e0 e1 y0 y1 y2 y3
  have hbb:w.heap.size<=bb:=by have:=hal0.size;omega
  have hF:¬(kB=bb):=by have:=aB XK;omega
  replace XK:=keep XK hb2;have hB:=da XB;have hU:Upd (λk=>k=bb) (λk=>k=bb) w2 w2:=Upd.refl _ _;replace hal0:=hal0.trans (hb2.mono hal0.size);have hws:w.heap.size<=w2.heap.size:=hal0.size;have hkl:kB<w2.heap.size:=aB XK;clear hb2 XB hbb';obtain⟨y0,y1,y2,y3⟩:=cl4 XK
  obtain⟨hmay,hwho,hrp⟩:=hRP (by first|rfl|trivial)
  have htab:=fk hmay
  try simp only at htab
  by_cases ta:t=oa
  ·have qa:(t != oa)=false:=by simp[ta]
   by_cases c1:call=1
   ·subst c1
    replace hR:Hid (R=(aI (ol (aW BS.zero ((base+3)%4294967296) t) base ((base+1)%4294967296) ((base+2)%4294967296) ((base+3)%4294967296) 1)).fin):=hR.out.trans (EK rfl hmb.out.symm ta rfl);clear hmb;have hsd:Hid (lq ⟨6,on,oa,ob⟩ t base=(#[.int .u32 base,.int .u32 ((base+1)%4294967296),.int .u32 ((base+2)%4294967296),.int .u32 ((base+3)%4294967296),.int .u32 1],187)):=(ag rfl).trans (ag ta);clear hRP ta;go_upto_region 7 with(fail);clear y0 y1 y2 y3;have hsc:=ls ⟨6,on,oa,ob⟩ t base w2;rw[hsd.out]at hsc;unfold ov at hsc;clear hsd;refine ab ?_;refine Zd 43 XK Tryz.underlying43 ?_
    iterate 2 refine Zv ?_
    refine Zc 131 #[.agg #[.int .i64 6,.int .i64 on,.int .i64 oa,.int .i64 ob],.int .i64 t,.int .u32 base] (.tuple #[.agg #[.int .u32 base,.int .u32 ((base+1)%4294967296),.int .u32 ((base+2)%4294967296),.int .u32 ((base+3)%4294967296),.int .u32 1],.func (.func 187) #[] #[]]) hsc (λw5 hb5=>?_)
    iterate 3 refine Zv ?_
    refine Za 214 #[.int .u32 0,.int .u32 0,.int .u32 0,.int .u32 0,.int .u32 0] (λwa kW XW l16 f16=>?_);refine Zo 214 kW #[.int .u32 base,.int .u32 ((base+1)%4294967296),.int .u32 ((base+2)%4294967296),.int .u32 ((base+3)%4294967296),.int .u32 1] XW (λw3 g1 g2 g3 g4=>?_);refine Zv ?_;have hb7:Below w2.heap.size w2 w3:=(hb5.trans (l16.mono hb5.size)).trans (g3 _ (by have:=hb5.size;simp only[Hid]at f16;omega))
    have hFW:¬(kW=bb):=by have:=hB.lt bb rfl;have:=hb5.size;simp only[Hid]at f16;omega
    replace XW:=g1;clear l16 f16 g1 g2 g3 g4 hb5 hsc;replace XK:=keep XK hb7;replace hkl:kB<w3.heap.size:=aB XK;have hkw2:kW<w3.heap.size:=aB XW;replace hB:=hB.below hb7;replace hU:=hU.trans (Upd.of_below hb7);clear hb7;obtain⟨y0,y1,y2,y3⟩:=cl4 XK;obtain⟨z0,z1,z2,z3,z4⟩:=cl5 XW;go_wp2_with fail
    refine(Z2 XK hF hkl hU XW hFW (gX hB (by simp<;>omega))).mono ?_
    clear y0 y1 y2 y3 z0 z1 z2 z3 z4;rintro e wd ⟨rfl,F',hB,XK,hF,hkl,hU,XW,hFW,hkw2⟩;obtain⟨y0,y1,y2,y3⟩:=cl4 XK;obtain⟨z0,z1,z2,z3,z4⟩:=cl5 XW;go_wp2_with fail
    refine(Z2 XK hF hkl hU XW hFW (GS hB (by simp<;>omega))).mono ?_
    clear y0 y1 y2 y3 z0 z1 z2 z3 z4;rintro e wd ⟨rfl,F',hB,XK,hF,hkl,hU,XW,hFW,hkw2⟩;obtain⟨y0,y1,y2,y3⟩:=cl4 XK;obtain⟨z0,z1,z2,z3,z4⟩:=cl5 XW;go_wp2_with fail
    refine(Z2 XK hF hkl hU XW hFW (be hB (by simp<;>omega))).mono ?_
    clear y0 y1 y2 y3 z0 z1 z2 z3 z4;rintro e wd ⟨rfl,F',hB,XK,hF,hkl,hU,XW,hFW,hkw2⟩;obtain⟨y0,y1,y2,y3⟩:=cl4 XK;obtain⟨z0,z1,z2,z3,z4⟩:=cl5 XW;have hal:=hal0.trans (hU.low _ (λk e=>by rw[e];exact hbb) hws)
    have hcb:=br hB ((aF (oB (aX aH)))).1 (by simp<;>omega) ((aF (oB (aX aH)))).2 (hI.below hal)
    rw[<-hR.out]at hcb;clear hR;go_wp2_with fail;refine hcb.mono ?_;rintro e w' ⟨⟨v,rfl,hv1,hv2⟩,hb'⟩;go_wp2;go_ret2;exact dE hal hv1 hv2 hb'
   ·have q1:(call == 1)=false:=by simp[c1]
    replace hR:Hid (R=(aI (g7 (aS BS.zero ((base+3)%4294967296) t) base ((base+1)%4294967296) ((base+2)%4294967296) ((base+3)%4294967296) 1)).fin):=hR.out.trans (FA rfl hmb.out.symm ta c1);clear hmb;have hsd:Hid (lq ⟨6,on,oa,ob⟩ t base=(#[.int .u32 base,.int .u32 ((base+1)%4294967296),.int .u32 ((base+2)%4294967296),.int .u32 ((base+3)%4294967296),.int .u32 1],187)):=(ag rfl).trans (ag ta);clear hRP ta c1;go_upto_region 7 with(fail);clear y0 y1 y2 y3;have hsc:=ls ⟨6,on,oa,ob⟩ t base w2;rw[hsd.out]at hsc;unfold ov at hsc;clear hsd;refine ab ?_;refine Zd 43 XK Tryz.underlying43 ?_
    iterate 2 refine Zv ?_
    refine Zc 131 #[.agg #[.int .i64 6,.int .i64 on,.int .i64 oa,.int .i64 ob],.int .i64 t,.int .u32 base] (.tuple #[.agg #[.int .u32 base,.int .u32 ((base+1)%4294967296),.int .u32 ((base+2)%4294967296),.int .u32 ((base+3)%4294967296),.int .u32 1],.func (.func 187) #[] #[]]) hsc (λw5 hb5=>?_)
    iterate 3 refine Zv ?_
    refine Za 214 #[.int .u32 0,.int .u32 0,.int .u32 0,.int .u32 0,.int .u32 0] (λwa kW XW l16 f16=>?_);refine Zo 214 kW #[.int .u32 base,.int .u32 ((base+1)%4294967296),.int .u32 ((base+2)%4294967296),.int .u32 ((base+3)%4294967296),.int .u32 1] XW (λw3 g1 g2 g3 g4=>?_);refine Zv ?_;have hb7:Below w2.heap.size w2 w3:=(hb5.trans (l16.mono hb5.size)).trans (g3 _ (by have:=hb5.size;simp only[Hid]at f16;omega))
    have hFW:¬(kW=bb):=by have:=hB.lt bb rfl;have:=hb5.size;simp only[Hid]at f16;omega
    replace XW:=g1;clear l16 f16 g1 g2 g3 g4 hb5 hsc;replace XK:=keep XK hb7;replace hkl:kB<w3.heap.size:=aB XK;have hkw2:kW<w3.heap.size:=aB XW;replace hB:=hB.below hb7;replace hU:=hU.trans (Upd.of_below hb7);clear hb7;obtain⟨y0,y1,y2,y3⟩:=cl4 XK;obtain⟨z0,z1,z2,z3,z4⟩:=cl5 XW;go_wp2_with fail
    refine(Z2 XK hF hkl hU XW hFW (gw hB (by simp<;>omega))).mono ?_
    clear y0 y1 y2 y3 z0 z1 z2 z3 z4;rintro e wd ⟨rfl,F',hB,XK,hF,hkl,hU,XW,hFW,hkw2⟩;obtain⟨y0,y1,y2,y3⟩:=cl4 XK;obtain⟨z0,z1,z2,z3,z4⟩:=cl5 XW;go_wp2_with fail
    refine(Z2 XK hF hkl hU XW hFW (vU hB (by simp<;>omega))).mono ?_
    clear y0 y1 y2 y3 z0 z1 z2 z3 z4;rintro e wd ⟨rfl,F',hB,XK,hF,hkl,hU,XW,hFW,hkw2⟩;obtain⟨y0,y1,y2,y3⟩:=cl4 XK;obtain⟨z0,z1,z2,z3,z4⟩:=cl5 XW;go_wp2_with fail
    refine(Z2 XK hF hkl hU XW hFW (be hB (by simp<;>omega))).mono ?_
    clear y0 y1 y2 y3 z0 z1 z2 z3 z4;rintro e wd ⟨rfl,F',hB,XK,hF,hkl,hU,XW,hFW,hkw2⟩;obtain⟨y0,y1,y2,y3⟩:=cl4 XK;obtain⟨z0,z1,z2,z3,z4⟩:=cl5 XW;have hal:=hal0.trans (hU.low _ (λk e=>by rw[e];exact hbb) hws)
    have hcb:=br hB ((aF (iy (aU aH)))).1 (by simp<;>omega) ((aF (iy (aU aH)))).2 (hI.below hal)
    rw[<-hR.out]at hcb;clear hR;go_wp2_with fail;refine hcb.mono ?_;rintro e w' ⟨⟨v,rfl,hv1,hv2⟩,hb'⟩;go_wp2;go_ret2;exact dE hal hv1 hv2 hb'
  ·have qa:(t != oa)=true:=by simp[ta]
   by_cases tb:t=ob
   ·have qb:(t != ob)=false:=by simp[tb]
    by_cases c1:call=1
    ·subst c1
     replace hR:Hid (R=(aI (ol (aW BS.zero ((base+3)%4294967296) t) ((base+1)%4294967296) base ((base+2)%4294967296) ((base+3)%4294967296) 0)).fin):=hR.out.trans (Ee rfl hmb.out.symm ta tb rfl);clear hmb;have hsd:Hid (lq ⟨6,on,oa,ob⟩ t base=(#[.int .u32 ((base+1)%4294967296),.int .u32 base,.int .u32 ((base+2)%4294967296),.int .u32 ((base+3)%4294967296),.int .u32 0],187)):=(ag rfl).trans (af ta);clear hRP ta tb;go_upto_region 7 with(fail);clear y0 y1 y2 y3;have hsc:=ls ⟨6,on,oa,ob⟩ t base w2;rw[hsd.out]at hsc;unfold ov at hsc;clear hsd;refine ab ?_;refine Zd 43 XK Tryz.underlying43 ?_
     iterate 2 refine Zv ?_
     refine Zc 131 #[.agg #[.int .i64 6,.int .i64 on,.int .i64 oa,.int .i64 ob],.int .i64 t,.int .u32 base] (.tuple #[.agg #[.int .u32 ((base+1)%4294967296),.int .u32 base,.int .u32 ((base+2)%4294967296),.int .u32 ((base+3)%4294967296),.int .u32 0],.func (.func 187) #[] #[]]) hsc (λw5 hb5=>?_)
     iterate 3 refine Zv ?_
     refine Za 214 #[.int .u32 0,.int .u32 0,.int .u32 0,.int .u32 0,.int .u32 0] (λwa kW XW l16 f16=>?_);refine Zo 214 kW #[.int .u32 ((base+1)%4294967296),.int .u32 base,.int .u32 ((base+2)%4294967296),.int .u32 ((base+3)%4294967296),.int .u32 0] XW (λw3 g1 g2 g3 g4=>?_);refine Zv ?_;have hb7:Below w2.heap.size w2 w3:=(hb5.trans (l16.mono hb5.size)).trans (g3 _ (by have:=hb5.size;simp only[Hid]at f16;omega))
     have hFW:¬(kW=bb):=by have:=hB.lt bb rfl;have:=hb5.size;simp only[Hid]at f16;omega
     replace XW:=g1;clear l16 f16 g1 g2 g3 g4 hb5 hsc;replace XK:=keep XK hb7;replace hkl:kB<w3.heap.size:=aB XK;have hkw2:kW<w3.heap.size:=aB XW;replace hB:=hB.below hb7;replace hU:=hU.trans (Upd.of_below hb7);clear hb7;obtain⟨y0,y1,y2,y3⟩:=cl4 XK;obtain⟨z0,z1,z2,z3,z4⟩:=cl5 XW;go_wp2_with fail
     refine(Z2 XK hF hkl hU XW hFW (gX hB (by simp<;>omega))).mono ?_
     clear y0 y1 y2 y3 z0 z1 z2 z3 z4;rintro e wd ⟨rfl,F',hB,XK,hF,hkl,hU,XW,hFW,hkw2⟩;obtain⟨y0,y1,y2,y3⟩:=cl4 XK;obtain⟨z0,z1,z2,z3,z4⟩:=cl5 XW;go_wp2_with fail
     refine(Z2 XK hF hkl hU XW hFW (GS hB (by simp<;>omega))).mono ?_
     clear y0 y1 y2 y3 z0 z1 z2 z3 z4;rintro e wd ⟨rfl,F',hB,XK,hF,hkl,hU,XW,hFW,hkw2⟩;obtain⟨y0,y1,y2,y3⟩:=cl4 XK;obtain⟨z0,z1,z2,z3,z4⟩:=cl5 XW;go_wp2_with fail
     refine(Z2 XK hF hkl hU XW hFW (be hB (by simp<;>omega))).mono ?_
     clear y0 y1 y2 y3 z0 z1 z2 z3 z4;rintro e wd ⟨rfl,F',hB,XK,hF,hkl,hU,XW,hFW,hkw2⟩;obtain⟨y0,y1,y2,y3⟩:=cl4 XK;obtain⟨z0,z1,z2,z3,z4⟩:=cl5 XW;have hal:=hal0.trans (hU.low _ (λk e=>by rw[e];exact hbb) hws)
     have hcb:=br hB ((aF (oB (aX aH)))).1 (by simp<;>omega) ((aF (oB (aX aH)))).2 (hI.below hal)
     rw[<-hR.out]at hcb;clear hR;go_wp2_with fail;refine hcb.mono ?_;rintro e w' ⟨⟨v,rfl,hv1,hv2⟩,hb'⟩;go_wp2;go_ret2;exact dE hal hv1 hv2 hb'
    ·have q1:(call == 1)=false:=by simp[c1]
     replace hR:Hid (R=(aI (g7 (aS BS.zero ((base+3)%4294967296) t) ((base+1)%4294967296) base ((base+2)%4294967296) ((base+3)%4294967296) 0)).fin):=hR.out.trans (Fd rfl hmb.out.symm ta tb c1);clear hmb;have hsd:Hid (lq ⟨6,on,oa,ob⟩ t base=(#[.int .u32 ((base+1)%4294967296),.int .u32 base,.int .u32 ((base+2)%4294967296),.int .u32 ((base+3)%4294967296),.int .u32 0],187)):=(ag rfl).trans (af ta);clear hRP ta tb c1;go_upto_region 7 with(fail);clear y0 y1 y2 y3;have hsc:=ls ⟨6,on,oa,ob⟩ t base w2;rw[hsd.out]at hsc;unfold ov at hsc;clear hsd;refine ab ?_;refine Zd 43 XK Tryz.underlying43 ?_
     iterate 2 refine Zv ?_
     refine Zc 131 #[.agg #[.int .i64 6,.int .i64 on,.int .i64 oa,.int .i64 ob],.int .i64 t,.int .u32 base] (.tuple #[.agg #[.int .u32 ((base+1)%4294967296),.int .u32 base,.int .u32 ((base+2)%4294967296),.int .u32 ((base+3)%4294967296),.int .u32 0],.func (.func 187) #[] #[]]) hsc (λw5 hb5=>?_)
     iterate 3 refine Zv ?_
     refine Za 214 #[.int .u32 0,.int .u32 0,.int .u32 0,.int .u32 0,.int .u32 0] (λwa kW XW l16 f16=>?_);refine Zo 214 kW #[.int .u32 ((base+1)%4294967296),.int .u32 base,.int .u32 ((base+2)%4294967296),.int .u32 ((base+3)%4294967296),.int .u32 0] XW (λw3 g1 g2 g3 g4=>?_);refine Zv ?_;have hb7:Below w2.heap.size w2 w3:=(hb5.trans (l16.mono hb5.size)).trans (g3 _ (by have:=hb5.size;simp only[Hid]at f16;omega))
     have hFW:¬(kW=bb):=by have:=hB.lt bb rfl;have:=hb5.size;simp only[Hid]at f16;omega
     replace XW:=g1;clear l16 f16 g1 g2 g3 g4 hb5 hsc;replace XK:=keep XK hb7;replace hkl:kB<w3.heap.size:=aB XK;have hkw2:kW<w3.heap.size:=aB XW;replace hB:=hB.below hb7;replace hU:=hU.trans (Upd.of_below hb7);clear hb7;obtain⟨y0,y1,y2,y3⟩:=cl4 XK;obtain⟨z0,z1,z2,z3,z4⟩:=cl5 XW;go_wp2_with fail
     refine(Z2 XK hF hkl hU XW hFW (gw hB (by simp<;>omega))).mono ?_
     clear y0 y1 y2 y3 z0 z1 z2 z3 z4;rintro e wd ⟨rfl,F',hB,XK,hF,hkl,hU,XW,hFW,hkw2⟩;obtain⟨y0,y1,y2,y3⟩:=cl4 XK;obtain⟨z0,z1,z2,z3,z4⟩:=cl5 XW;go_wp2_with fail
     refine(Z2 XK hF hkl hU XW hFW (vU hB (by simp<;>omega))).mono ?_
     clear y0 y1 y2 y3 z0 z1 z2 z3 z4;rintro e wd ⟨rfl,F',hB,XK,hF,hkl,hU,XW,hFW,hkw2⟩;obtain⟨y0,y1,y2,y3⟩:=cl4 XK;obtain⟨z0,z1,z2,z3,z4⟩:=cl5 XW;go_wp2_with fail
     refine(Z2 XK hF hkl hU XW hFW (be hB (by simp<;>omega))).mono ?_
     clear y0 y1 y2 y3 z0 z1 z2 z3 z4;rintro e wd ⟨rfl,F',hB,XK,hF,hkl,hU,XW,hFW,hkw2⟩;obtain⟨y0,y1,y2,y3⟩:=cl4 XK;obtain⟨z0,z1,z2,z3,z4⟩:=cl5 XW;have hal:=hal0.trans (hU.low _ (λk e=>by rw[e];exact hbb) hws)
     have hcb:=br hB ((aF (iy (aU aH)))).1 (by simp<;>omega) ((aF (iy (aU aH)))).2 (hI.below hal)
     rw[<-hR.out]at hcb;clear hR;go_wp2_with fail;refine hcb.mono ?_;rintro e w' ⟨⟨v,rfl,hv1,hv2⟩,hb'⟩;go_wp2;go_ret2;exact dE hal hv1 hv2 hb'
   ·have qb:(t != ob)=true:=by simp[tb]
    replace hR:Hid (R=(BS.zero.set 7 4).fin):=hR.out.trans (E3 rfl hmb.out.symm ta tb);clear hmb;clear hRP ta tb;go_wp2_with fail
    refine(Z1 XK hF hkl hU (bF hB (by simp<;>omega))).mono ?_
    clear y0 y1 y2 y3;rintro e wd ⟨rfl,F',hB,XK,hF,hkl,hU⟩;obtain⟨y0,y1,y2,y3⟩:=cl4 XK;have hal:=hal0.trans (hU.low _ (λk e=>by rw[e];exact hbb) hws)
    have hcb:=br hB ((aN _ _ aH)).1 (by simp<;>omega) ((aN _ _ aH)).2 (hI.below hal)
    rw[<-hR.out]at hcb;clear hR;go_wp2_with fail;refine hcb.mono ?_;rintro e w' ⟨⟨v,rfl,hv1,hv2⟩,hb'⟩;go_wp2;go_ret2;exact dE hal hv1 hv2 hb'
 ·by_cases k7:ok=7
  ·subst k7
   go_wp2_with fail;refine(hM W hal0).mono ?_;rintro e w1 ⟨rfl,hb1⟩;clear y0 y1 y2 y3 hM;replace XK:=keep XK hb1;replace hal0:=hal0.trans (hb1.mono hal0.size);clear hb1;obtain⟨y0,y1,y2,y3⟩:=cl4 XK;cases mb
   ·obtain rfl:R=([],false):=hR.out.trans (yU hmb.out.symm)
    clear hR hmb;go_wp2;go_ret2;exact⟨CodeR.no,hal0⟩
   go_upto_region 4 with(fail);obtain⟨w2,bb,e0,e1,XB,hb2⟩:=aO w1 #[.slice none 0 0,.map none,.slice none 0 0,.bool false] 202;rw[e0,e1];have hbb':w1.heap.size=bb:=e1;clear e0 e1 y0 y1 y2 y3
   have hbb:w.heap.size<=bb:=by have:=hal0.size;omega
   have hF:¬(kB=bb):=by have:=aB XK;omega
   replace XK:=keep XK hb2;have hB:=da XB;have hU:Upd (λk=>k=bb) (λk=>k=bb) w2 w2:=Upd.refl _ _;replace hal0:=hal0.trans (hb2.mono hal0.size);have hws:w.heap.size<=w2.heap.size:=hal0.size;have hkl:kB<w2.heap.size:=aB XK;clear hb2 XB hbb';obtain⟨y0,y1,y2,y3⟩:=cl4 XK
   obtain⟨hmay,hwho,hrp⟩:=hRP (by first|rfl|trivial)
   have htab:=fk hmay
   try simp only at htab
   by_cases ta:t=oa
   ·have qa:(t != oa)=false:=by simp[ta]
    by_cases c1:call=1
    ·subst c1
     replace hR:Hid (R=(aI (sj (aW BS.zero ((base+2)%4294967296) t) base ((base+1)%4294967296) 0 ((base+2)%4294967296) 0)).fin):=hR.out.trans (Fq rfl hmb.out.symm ta rfl);clear hmb;have hsd:Hid (lq ⟨7,on,oa,ob⟩ t base=(#[.int .u32 base,.int .u32 ((base+1)%4294967296),.int .u32 0,.int .u32 ((base+2)%4294967296),.int .u32 0],188)):=(af (show ¬(7:Int)=6 by decide)).trans (ag ta);clear hRP ta;go_upto_region 7 with(fail);clear y0 y1 y2 y3;have hsc:=ls ⟨7,on,oa,ob⟩ t base w2;rw[hsd.out]at hsc;unfold ov at hsc;clear hsd;refine ab ?_;refine Zd 43 XK Tryz.underlying43 ?_
     iterate 2 refine Zv ?_
     refine Zc 131 #[.agg #[.int .i64 7,.int .i64 on,.int .i64 oa,.int .i64 ob],.int .i64 t,.int .u32 base] (.tuple #[.agg #[.int .u32 base,.int .u32 ((base+1)%4294967296),.int .u32 0,.int .u32 ((base+2)%4294967296),.int .u32 0],.func (.func 188) #[] #[]]) hsc (λw5 hb5=>?_)
     iterate 3 refine Zv ?_
     refine Za 214 #[.int .u32 0,.int .u32 0,.int .u32 0,.int .u32 0,.int .u32 0] (λwa kW XW l16 f16=>?_);refine Zo 214 kW #[.int .u32 base,.int .u32 ((base+1)%4294967296),.int .u32 0,.int .u32 ((base+2)%4294967296),.int .u32 0] XW (λw3 g1 g2 g3 g4=>?_);refine Zv ?_;have hb7:Below w2.heap.size w2 w3:=(hb5.trans (l16.mono hb5.size)).trans (g3 _ (by have:=hb5.size;simp only[Hid]at f16;omega))
     have hFW:¬(kW=bb):=by have:=hB.lt bb rfl;have:=hb5.size;simp only[Hid]at f16;omega
     replace XW:=g1;clear l16 f16 g1 g2 g3 g4 hb5 hsc;replace XK:=keep XK hb7;replace hkl:kB<w3.heap.size:=aB XK;have hkw2:kW<w3.heap.size:=aB XW;replace hB:=hB.below hb7;replace hU:=hU.trans (Upd.of_below hb7);clear hb7;obtain⟨y0,y1,y2,y3⟩:=cl4 XK;obtain⟨z0,z1,z2,z3,z4⟩:=cl5 XW;go_wp2_with fail
     refine(Z2 XK hF hkl hU XW hFW (gX hB (by simp<;>omega))).mono ?_
     clear y0 y1 y2 y3 z0 z1 z2 z3 z4;rintro e wd ⟨rfl,F',hB,XK,hF,hkl,hU,XW,hFW,hkw2⟩;obtain⟨y0,y1,y2,y3⟩:=cl4 XK;obtain⟨z0,z1,z2,z3,z4⟩:=cl5 XW;go_wp2_with fail
     refine(Z2 XK hF hkl hU XW hFW (finC hB (by simp<;>omega))).mono ?_
     clear y0 y1 y2 y3 z0 z1 z2 z3 z4;rintro e wd ⟨rfl,F',hB,XK,hF,hkl,hU,XW,hFW,hkw2⟩;obtain⟨y0,y1,y2,y3⟩:=cl4 XK;obtain⟨z0,z1,z2,z3,z4⟩:=cl5 XW;go_wp2_with fail
     refine(Z2 XK hF hkl hU XW hFW (be hB (by simp<;>omega))).mono ?_
     clear y0 y1 y2 y3 z0 z1 z2 z3 z4;rintro e wd ⟨rfl,F',hB,XK,hF,hkl,hU,XW,hFW,hkw2⟩;obtain⟨y0,y1,y2,y3⟩:=cl4 XK;obtain⟨z0,z1,z2,z3,z4⟩:=cl5 XW;have hal:=hal0.trans (hU.low _ (λk e=>by rw[e];exact hbb) hws)
     have hcb:=br hB ((aF (vD (aX aH)))).1 (by simp<;>omega) ((aF (vD (aX aH)))).2 (hI.below hal)
     rw[<-hR.out]at hcb;clear hR;go_wp2_with fail;refine hcb.mono ?_;rintro e w' ⟨⟨v,rfl,hv1,hv2⟩,hb'⟩;go_wp2;go_ret2;exact dE hal hv1 hv2 hb'
    ·have q1:(call == 1)=false:=by simp[c1]
     replace hR:Hid (R=(aI (g7 (aS BS.zero ((base+2)%4294967296) t) base ((base+1)%4294967296) 0 ((base+2)%4294967296) 0)).fin):=hR.out.trans (El rfl hmb.out.symm ta c1);clear hmb;have hsd:Hid (lq ⟨7,on,oa,ob⟩ t base=(#[.int .u32 base,.int .u32 ((base+1)%4294967296),.int .u32 0,.int .u32 ((base+2)%4294967296),.int .u32 0],188)):=(af (show ¬(7:Int)=6 by decide)).trans (ag ta);clear hRP ta c1;go_upto_region 7 with(fail);clear y0 y1 y2 y3;have hsc:=ls ⟨7,on,oa,ob⟩ t base w2;rw[hsd.out]at hsc;unfold ov at hsc;clear hsd;refine ab ?_;refine Zd 43 XK Tryz.underlying43 ?_
     iterate 2 refine Zv ?_
     refine Zc 131 #[.agg #[.int .i64 7,.int .i64 on,.int .i64 oa,.int .i64 ob],.int .i64 t,.int .u32 base] (.tuple #[.agg #[.int .u32 base,.int .u32 ((base+1)%4294967296),.int .u32 0,.int .u32 ((base+2)%4294967296),.int .u32 0],.func (.func 188) #[] #[]]) hsc (λw5 hb5=>?_)
     iterate 3 refine Zv ?_
     refine Za 214 #[.int .u32 0,.int .u32 0,.int .u32 0,.int .u32 0,.int .u32 0] (λwa kW XW l16 f16=>?_);refine Zo 214 kW #[.int .u32 base,.int .u32 ((base+1)%4294967296),.int .u32 0,.int .u32 ((base+2)%4294967296),.int .u32 0] XW (λw3 g1 g2 g3 g4=>?_);refine Zv ?_;have hb7:Below w2.heap.size w2 w3:=(hb5.trans (l16.mono hb5.size)).trans (g3 _ (by have:=hb5.size;simp only[Hid]at f16;omega))
     have hFW:¬(kW=bb):=by have:=hB.lt bb rfl;have:=hb5.size;simp only[Hid]at f16;omega
     replace XW:=g1;clear l16 f16 g1 g2 g3 g4 hb5 hsc;replace XK:=keep XK hb7;replace hkl:kB<w3.heap.size:=aB XK;have hkw2:kW<w3.heap.size:=aB XW;replace hB:=hB.below hb7;replace hU:=hU.trans (Upd.of_below hb7);clear hb7;obtain⟨y0,y1,y2,y3⟩:=cl4 XK;obtain⟨z0,z1,z2,z3,z4⟩:=cl5 XW;go_wp2_with fail
     refine(Z2 XK hF hkl hU XW hFW (gw hB (by simp<;>omega))).mono ?_
     clear y0 y1 y2 y3 z0 z1 z2 z3 z4;rintro e wd ⟨rfl,F',hB,XK,hF,hkl,hU,XW,hFW,hkw2⟩;obtain⟨y0,y1,y2,y3⟩:=cl4 XK;obtain⟨z0,z1,z2,z3,z4⟩:=cl5 XW;go_wp2_with fail
     refine(Z2 XK hF hkl hU XW hFW (vU hB (by simp<;>omega))).mono ?_
     clear y0 y1 y2 y3 z0 z1 z2 z3 z4;rintro e wd ⟨rfl,F',hB,XK,hF,hkl,hU,XW,hFW,hkw2⟩;obtain⟨y0,y1,y2,y3⟩:=cl4 XK;obtain⟨z0,z1,z2,z3,z4⟩:=cl5 XW;go_wp2_with fail
     refine(Z2 XK hF hkl hU XW hFW (be hB (by simp<;>omega))).mono ?_
     clear y0 y1 y2 y3 z0 z1 z2 z3 z4;rintro e wd ⟨rfl,F',hB,XK,hF,hkl,hU,XW,hFW,hkw2⟩;obtain⟨y0,y1,y2,y3⟩:=cl4 XK;obtain⟨z0,z1,z2,z3,z4⟩:=cl5 XW;have hal:=hal0.trans (hU.low _ (λk e=>by rw[e];exact hbb) hws)
     have hcb:=br hB ((aF (iy (aU aH)))).1 (by simp<;>omega) ((aF (iy (aU aH)))).2 (hI.below hal)
     rw[<-hR.out]at hcb;clear hR;go_wp2_with fail;refine hcb.mono ?_;rintro e w' ⟨⟨v,rfl,hv1,hv2⟩,hb'⟩;go_wp2;go_ret2;exact dE hal hv1 hv2 hb'
   ·have qa:(t != oa)=true:=by simp[ta]
    by_cases tb:t=ob
    ·have qb:(t != ob)=false:=by simp[tb]
     by_cases c1:call=1
     ·subst c1
      replace hR:Hid (R=(aI (rK (aW BS.zero ((base+2)%4294967296) t) ((base+1)%4294967296) base 0 ((base+2)%4294967296) 0)).fin):=hR.out.trans (Fg rfl hmb.out.symm ta tb rfl);clear hmb;have hsd:Hid (lq ⟨7,on,oa,ob⟩ t base=(#[.int .u32 ((base+1)%4294967296),.int .u32 base,.int .u32 0,.int .u32 ((base+2)%4294967296),.int .u32 0],189)):=(af (show ¬(7:Int)=6 by decide)).trans (af ta);clear hRP ta tb;go_upto_region 7 with(fail);clear y0 y1 y2 y3;have hsc:=ls ⟨7,on,oa,ob⟩ t base w2;rw[hsd.out]at hsc;unfold ov at hsc;clear hsd;refine ab ?_;refine Zd 43 XK Tryz.underlying43 ?_
      iterate 2 refine Zv ?_
      refine Zc 131 #[.agg #[.int .i64 7,.int .i64 on,.int .i64 oa,.int .i64 ob],.int .i64 t,.int .u32 base] (.tuple #[.agg #[.int .u32 ((base+1)%4294967296),.int .u32 base,.int .u32 0,.int .u32 ((base+2)%4294967296),.int .u32 0],.func (.func 189) #[] #[]]) hsc (λw5 hb5=>?_)
      iterate 3 refine Zv ?_
      refine Za 214 #[.int .u32 0,.int .u32 0,.int .u32 0,.int .u32 0,.int .u32 0] (λwa kW XW l16 f16=>?_);refine Zo 214 kW #[.int .u32 ((base+1)%4294967296),.int .u32 base,.int .u32 0,.int .u32 ((base+2)%4294967296),.int .u32 0] XW (λw3 g1 g2 g3 g4=>?_);refine Zv ?_;have hb7:Below w2.heap.size w2 w3:=(hb5.trans (l16.mono hb5.size)).trans (g3 _ (by have:=hb5.size;simp only[Hid]at f16;omega))
      have hFW:¬(kW=bb):=by have:=hB.lt bb rfl;have:=hb5.size;simp only[Hid]at f16;omega
      replace XW:=g1;clear l16 f16 g1 g2 g3 g4 hb5 hsc;replace XK:=keep XK hb7;replace hkl:kB<w3.heap.size:=aB XK;have hkw2:kW<w3.heap.size:=aB XW;replace hB:=hB.below hb7;replace hU:=hU.trans (Upd.of_below hb7);clear hb7;obtain⟨y0,y1,y2,y3⟩:=cl4 XK;obtain⟨z0,z1,z2,z3,z4⟩:=cl5 XW;go_wp2_with fail
      refine(Z2 XK hF hkl hU XW hFW (gX hB (by simp<;>omega))).mono ?_
      clear y0 y1 y2 y3 z0 z1 z2 z3 z4;rintro e wd ⟨rfl,F',hB,XK,hF,hkl,hU,XW,hFW,hkw2⟩;obtain⟨y0,y1,y2,y3⟩:=cl4 XK;obtain⟨z0,z1,z2,z3,z4⟩:=cl5 XW;go_wp2_with fail
      refine(Z2 XK hF hkl hU XW hFW (sinC hB (by simp<;>omega))).mono ?_
      clear y0 y1 y2 y3 z0 z1 z2 z3 z4;rintro e wd ⟨rfl,F',hB,XK,hF,hkl,hU,XW,hFW,hkw2⟩;obtain⟨y0,y1,y2,y3⟩:=cl4 XK;obtain⟨z0,z1,z2,z3,z4⟩:=cl5 XW;go_wp2_with fail
      refine(Z2 XK hF hkl hU XW hFW (be hB (by simp<;>omega))).mono ?_
      clear y0 y1 y2 y3 z0 z1 z2 z3 z4;rintro e wd ⟨rfl,F',hB,XK,hF,hkl,hU,XW,hFW,hkw2⟩;obtain⟨y0,y1,y2,y3⟩:=cl4 XK;obtain⟨z0,z1,z2,z3,z4⟩:=cl5 XW;have hal:=hal0.trans (hU.low _ (λk e=>by rw[e];exact hbb) hws)
      have hcb:=br hB ((aF (wP (aX aH)))).1 (by simp<;>omega) ((aF (wP (aX aH)))).2 (hI.below hal)
      rw[<-hR.out]at hcb;clear hR;go_wp2_with fail;refine hcb.mono ?_;rintro e w' ⟨⟨v,rfl,hv1,hv2⟩,hb'⟩;go_wp2;go_ret2;exact dE hal hv1 hv2 hb'
     ·have q1:(call == 1)=false:=by simp[c1]
      replace hR:Hid (R=(aI (g7 (aS BS.zero ((base+2)%4294967296) t) ((base+1)%4294967296) base 0 ((base+2)%4294967296) 0)).fin):=hR.out.trans (Eb rfl hmb.out.symm ta tb c1);clear hmb;have hsd:Hid (lq ⟨7,on,oa,ob⟩ t base=(#[.int .u32 ((base+1)%4294967296),.int .u32 base,.int .u32 0,.int .u32 ((base+2)%4294967296),.int .u32 0],189)):=(af (show ¬(7:Int)=6 by decide)).trans (af ta);clear hRP ta tb c1;go_upto_region 7 with(fail);clear y0 y1 y2 y3;have hsc:=ls ⟨7,on,oa,ob⟩ t base w2;rw[hsd.out]at hsc;unfold ov at hsc;clear hsd;refine ab ?_;refine Zd 43 XK Tryz.underlying43 ?_
      iterate 2 refine Zv ?_
      refine Zc 131 #[.agg #[.int .i64 7,.int .i64 on,.int .i64 oa,.int .i64 ob],.int .i64 t,.int .u32 base] (.tuple #[.agg #[.int .u32 ((base+1)%4294967296),.int .u32 base,.int .u32 0,.int .u32 ((base+2)%4294967296),.int .u32 0],.func (.func 189) #[] #[]]) hsc (λw5 hb5=>?_)
      iterate 3 refine Zv ?_
      refine Za 214 #[.int .u32 0,.int .u32 0,.int .u32 0,.int .u32 0,.int .u32 0] (λwa kW XW l16 f16=>?_);refine Zo 214 kW #[.int .u32 ((base+1)%4294967296),.int .u32 base,.int .u32 0,.int .u32 ((base+2)%4294967296),.int .u32 0] XW (λw3 g1 g2 g3 g4=>?_);refine Zv ?_;have hb7:Below w2.heap.size w2 w3:=(hb5.trans (l16.mono hb5.size)).trans (g3 _ (by have:=hb5.size;simp only[Hid]at f16;omega))
      have hFW:¬(kW=bb):=by have:=hB.lt bb rfl;have:=hb5.size;simp only[Hid]at f16;omega
      replace XW:=g1;clear l16 f16 g1 g2 g3 g4 hb5 hsc;replace XK:=keep XK hb7;replace hkl:kB<w3.heap.size:=aB XK;have hkw2:kW<w3.heap.size:=aB XW;replace hB:=hB.below hb7;replace hU:=hU.trans (Upd.of_below hb7);clear hb7;obtain⟨y0,y1,y2,y3⟩:=cl4 XK;obtain⟨z0,z1,z2,z3,z4⟩:=cl5 XW;go_wp2_with fail
      refine(Z2 XK hF hkl hU XW hFW (gw hB (by simp<;>omega))).mono ?_
      clear y0 y1 y2 y3 z0 z1 z2 z3 z4;rintro e wd ⟨rfl,F',hB,XK,hF,hkl,hU,XW,hFW,hkw2⟩;obtain⟨y0,y1,y2,y3⟩:=cl4 XK;obtain⟨z0,z1,z2,z3,z4⟩:=cl5 XW;go_wp2_with fail
      refine(Z2 XK hF hkl hU XW hFW (vU hB (by simp<;>omega))).mono ?_
      clear y0 y1 y2 y3 z0 z1 z2 z3 z4;rintro e wd ⟨rfl,F',hB,XK,hF,hkl,hU,XW,hFW,hkw2⟩;obtain⟨y0,y1,y2,y3⟩:=cl4 XK;obtain⟨z0,z1,z2,z3,z4⟩:=cl5 XW;go_wp2_with fail
      refine(Z2 XK hF hkl hU XW hFW (be hB (by simp<;>omega))).mono ?_
      clear y0 y1 y2 y3 z0 z1 z2 z3 z4;rintro e wd ⟨rfl,F',hB,XK,hF,hkl,hU,XW,hFW,hkw2⟩;obtain⟨y0,y1,y2,y3⟩:=cl4 XK;obtain⟨z0,z1,z2,z3,z4⟩:=cl5 XW;have hal:=hal0.trans (hU.low _ (λk e=>by rw[e];exact hbb) hws)
      have hcb:=br hB ((aF (iy (aU aH)))).1 (by simp<;>omega) ((aF (iy (aU aH)))).2 (hI.below hal)
      rw[<-hR.out]at hcb;clear hR;go_wp2_with fail;refine hcb.mono ?_;rintro e w' ⟨⟨v,rfl,hv1,hv2⟩,hb'⟩;go_wp2;go_ret2;exact dE hal hv1 hv2 hb'
    ·have qb:(t != ob)=true:=by simp[tb]
     replace hR:Hid (R=(BS.zero.set 7 4).fin):=hR.out.trans (E2 rfl hmb.out.symm ta tb);clear hmb;clear hRP ta tb;go_wp2_with fail
     refine(Z1 XK hF hkl hU (bF hB (by simp<;>omega))).mono ?_
     clear y0 y1 y2 y3;rintro e wd ⟨rfl,F',hB,XK,hF,hkl,hU⟩;obtain⟨y0,y1,y2,y3⟩:=cl4 XK;have hal:=hal0.trans (hU.low _ (λk e=>by rw[e];exact hbb) hws)
     have hcb:=br hB ((aN _ _ aH)).1 (by simp<;>omega) ((aN _ _ aH)).2 (hI.below hal)
     rw[<-hR.out]at hcb;clear hR;go_wp2_with fail;refine hcb.mono ?_;rintro e w' ⟨⟨v,rfl,hv1,hv2⟩,hb'⟩;go_wp2;go_ret2;exact dE hal hv1 hv2 hb'
  ·have q6:(ok != 6)=true:=by simp[k6]
   have q7:(ok != 7)=true:=by simp[k7]
   obtain rfl:R=([],false):=hR.out.trans (zS ⟨k6,k7⟩);clear hR hmb k6 k7;go_wp2
   all_goals go_ret2
   all_goals exact⟨CodeR.no,hal0⟩
end
end Go.Proofs.YtldlcnaphednnaaGreatDoor
