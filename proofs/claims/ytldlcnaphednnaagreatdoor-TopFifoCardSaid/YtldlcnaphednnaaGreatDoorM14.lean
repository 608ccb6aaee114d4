/- The code of queues, as it is asked for. The code of a reader of a sequence lock. The code of sequence locks. -/
import Derived.Test.YtldlcnaphednnaaGreatDoorM13
set_option maxRecDepth 100000
set_option maxHeartbeats 32000000
set_option linter.unusedVariables false
set_option linter.unusedSimpArgs false
namespace Go.Proofs.YtldlcnaphednnaaGreatDoor
open Go.RowKit Go.Maps
section
attribute [local simp] fL ft dD cN fN cL df dZ dr dj gD gz gA gy gQ eQ cH gE gV iZ gB dz iI dA dy dV dq iz ge dX eO dC dx eh iL cU dh dR fV fh fT dP dO fP iT dB eW fE cj ee iD iR dW
def fw(o:O)(call th t base arg:Int):List Ins×Bool:=
 if o.k=4 then(if a8 o call th t=true then(if call=1 then(aI (kQ (aW BS.zero ((base+1)%4294967296) t) base th t)).fin else(aI (iN (aS BS.zero ((base+1)%4294967296) t) base th t)).fin) else([],false)) else(if o.k=5 then(if a8 o call th t=true then(if call=1 then(aI (kK (aW BS.zero ((base+1)%4294967296) t) base th t)).fin else(aI (iO (aS BS.zero ((base+1)%4294967296) t) base th t)).fin) else([],false)) else(([],false)))
theorem tS{o:O}{call th t base arg:Int}(h:o.k≠4/\o.k≠5):fw o call th t base arg=([],false):=by unfold fw;rw[af (show ¬o.k=4 by omega),af (show ¬o.k=5 by omega)]
theorem t9{o:O}{call th t base arg:Int}(h:a8 o call th t=false):fw o call th t base arg=([],false):=by
 unfold fw;rw[h];simp only[Bool.false_eq_true,if_false,ite_self]
theorem tY{o:O}{call th t base arg:Int}(k:o.k=4)(h:a8 o call th t=true)(c0:(call=1)):fw o call th t base arg=(aI (kQ (aW BS.zero ((base+1)%4294967296) t) base th t)).fin:=by unfold fw;rw[ag k,ag h,ag c0]
theorem sQ{o:O}{call th t base arg:Int}(k:o.k=4)(h:a8 o call th t=true)(c0:¬(call=1)):fw o call th t base arg=(aI (iN (aS BS.zero ((base+1)%4294967296) t) base th t)).fin:=by unfold fw;rw[ag k,ag h,af c0]
theorem tT{o:O}{call th t base arg:Int}(k:o.k=5)(h:a8 o call th t=true)(c0:(call=1)):fw o call th t base arg=(aI (kK (aW BS.zero ((base+1)%4294967296) t) base th t)).fin:=by unfold fw;rw[af (show ¬o.k=4 by omega),ag k,ag h,ag c0]
theorem uk{o:O}{call th t base arg:Int}(k:o.k=5)(h:a8 o call th t=true)(c0:¬(call=1)):fw o call th t base arg=(aI (iO (aS BS.zero ((base+1)%4294967296) t) base th t)).fin:=by unfold fw;rw[af (show ¬o.k=4 by omega),ag k,ag h,af c0]
theorem xV(o:O)(call th t base arg:Int)(w:World)(hN:NmW w)(hI:IsaW w):Calls Tryz.prog 87 #[ov o,.int .i64 call,.int .i64 th,.int .i64 t,.int .u32 base,.int .u32 arg] w λe w'=>CodeR w w' (fw o call th t base arg) e/\Below w.heap.size w w':=by
 obtain⟨R,hR⟩:=Zh (fw o call th t base arg);rw[<-hR.out];have hM:=λw' (hb:Below w.heap.size w w')=>i4 o call th t w' (hN.below hb);have hRP:=λh=>(jz (o:=o) (c:=call) (t:=th) (u:=t) h);obtain⟨mb,hmb⟩:=Zh (a8 o call th t);rw[<-hmb.out]at hM hRP;obtain⟨ok,on,oa,ob⟩:=o;unfold ov at hM ⊢;simp only at hRP;go_enter Tryz.func87,Tryz.ntmps87;go_upto_region 1 with(fail);obtain⟨W,kB,e0,e1,XK,hal0⟩:=aO w #[.int .i64 ok,.int .i64 on,.int .i64 oa,.int .i64 ob] 43;rw[e0,e1];have hkw:w.heap.size<=kB:=aD e1;clear e0 e1;obtain⟨y0,y1,y2,y3⟩:=cl4 XK
 by_cases k4:ok=4
 ·subst k4
  go_wp2_with fail;refine(hM W hal0).mono ?_;rintro e w1 ⟨rfl,hb1⟩;clear y0 y1 y2 y3 hM;replace XK:=keep XK hb1;replace hal0:=hal0.trans (hb1.mono hal0.size);clear hb1;obtain⟨y0,y1,y2,y3⟩:=cl4 XK;cases mb
  ·obtain rfl:R=([],false):=hR.out.trans (t9 hmb.out.symm)
   clear hR hmb;go_wp2;go_ret2;exact⟨CodeR.no,hal0⟩
  go_upto_region 4 with(fail);obtain⟨w2,bb,e0,e1,XB,hb2⟩:=aO w1 #[.slice none 0 0,.map none,.slice none 0 0,.bool false] 202;rw[e0,e1];have hbb':w1.heap.size=bb:=e1;clear e0 e1 y0 y1 y2 y3
  have hbb:w.heap.size<=bb:=by have:=hal0.size;omega
  have hF:¬(kB=bb):=by have:=aB XK;omega
  replace XK:=keep XK hb2;have hB:=da XB;have hU:Upd (λk=>k=bb) (λk=>k=bb) w2 w2:=Upd.refl _ _;replace hal0:=hal0.trans (hb2.mono hal0.size);have hws:w.heap.size<=w2.heap.size:=hal0.size;have hkl:kB<w2.heap.size:=aB XK;clear hb2 XB hbb';obtain⟨y0,y1,y2,y3⟩:=cl4 XK;clear y0 y1 y2 y3;refine ab ?_
  iterate 3 refine Zv ?_
  refine aG rfl (.agg #[.int .u32 base,.int .i64 th,.int .i64 t]) ?_ ?_
  ·go_simp
  refine Zk ?_;refine Za 211 #[.int .u32 0,.int .i64 0,.int .i64 0] (λwa kW XW l16 f16=>?_);refine Zo 211 kW #[.int .u32 base,.int .i64 th,.int .i64 t] XW (λw3 g1 g2 g3 g4=>?_);have hb7:Below w2.heap.size w2 w3:=l16.trans (g3 _ (by simp only[Hid]at f16;omega))
  have hFW:¬(kW=bb):=by have:=hB.lt bb rfl;simp only[Hid]at f16;omega
  replace XW:=g1;clear l16 f16 g1 g2 g3 g4;replace XK:=keep XK hb7;replace hkl:kB<w3.heap.size:=aB XK;have hkw2:kW<w3.heap.size:=aB XW;replace hB:=hB.below hb7;replace hU:=hU.trans (Upd.of_below hb7);clear hb7;obtain⟨y0,y1,y2,y3⟩:=cl4 XK;obtain⟨z0,z1,z2⟩:=cl3 XW
  obtain⟨hmay,hwho,hrp⟩:=hRP (by first|rfl|trivial)
  have htab:=fk hmay
  try simp only at htab
  by_cases c1:call=1
  ·subst c1
   replace hR:Hid (R=(aI (kQ (aW BS.zero ((base+1)%4294967296) t) base th t)).fin):=hR.out.trans (tY rfl hmb.out.symm rfl);clear hmb;clear hRP;go_wp2_with fail;refine(FQ on oa ob _).mono ?_;rintro e w4 ⟨rfl,hb3⟩;clear y0 y1 y2 y3 z0 z1 z2;replace XK:=keep XK hb3;replace XW:=keep XW hb3;replace hkl:kB<w4.heap.size:=aB XK;replace hkw2:kW<w4.heap.size:=aB XW;replace hB:=hB.below hb3;replace hU:=hU.trans (Upd.of_below hb3);clear hb3;obtain⟨y0,y1,y2,y3⟩:=cl4 XK;obtain⟨z0,z1,z2⟩:=cl3 XW;go_wp2_with fail
   refine(Z2 XK hF hkl hU XW hFW (gX hB (by simp<;>omega))).mono ?_
   clear y0 y1 y2 y3 z0 z1 z2;rintro e wd ⟨rfl,F',hB,XK,hF,hkl,hU,XW,hFW,hkw2⟩;obtain⟨y0,y1,y2,y3⟩:=cl4 XK;obtain⟨z0,z1,z2⟩:=cl3 XW;go_wp2_with fail
   refine(Z2 XK hF hkl hU XW hFW (E6 hB (by simp<;>omega))).mono ?_
   clear y0 y1 y2 y3 z0 z1 z2;rintro e wd ⟨rfl,F',hB,XK,hF,hkl,hU,XW,hFW,hkw2⟩;obtain⟨y0,y1,y2,y3⟩:=cl4 XK;obtain⟨z0,z1,z2⟩:=cl3 XW;go_wp2_with fail
   refine(Z2 XK hF hkl hU XW hFW (be hB (by simp<;>omega))).mono ?_
   clear y0 y1 y2 y3 z0 z1 z2;rintro e wd ⟨rfl,F',hB,XK,hF,hkl,hU,XW,hFW,hkw2⟩;obtain⟨y0,y1,y2,y3⟩:=cl4 XK;obtain⟨z0,z1,z2⟩:=cl3 XW;have hal:=hal0.trans (hU.low _ (λk e=>by rw[e];exact hbb) hws)
   have hcb:=br hB ((aF (qx (aX aH)))).1 (by simp<;>omega) ((aF (qx (aX aH)))).2 (hI.below hal)
   rw[<-hR.out]at hcb;clear hR;go_wp2_with fail;refine hcb.mono ?_;rintro e w' ⟨⟨v,rfl,hv1,hv2⟩,hb'⟩;go_wp2;go_ret2;exact dE hal hv1 hv2 hb'
  ·have q1:(call == 1)=false:=by simp[c1]
   replace hR:Hid (R=(aI (iN (aS BS.zero ((base+1)%4294967296) t) base th t)).fin):=hR.out.trans (sQ rfl hmb.out.symm c1);clear hmb;clear hRP c1;go_wp2_with fail;refine(FQ on oa ob _).mono ?_;rintro e w4 ⟨rfl,hb3⟩;clear y0 y1 y2 y3 z0 z1 z2;replace XK:=keep XK hb3;replace XW:=keep XW hb3;replace hkl:kB<w4.heap.size:=aB XK;replace hkw2:kW<w4.heap.size:=aB XW;replace hB:=hB.below hb3;replace hU:=hU.trans (Upd.of_below hb3);clear hb3;obtain⟨y0,y1,y2,y3⟩:=cl4 XK;obtain⟨z0,z1,z2⟩:=cl3 XW;go_wp2_with fail
   refine(Z2 XK hF hkl hU XW hFW (gw hB (by simp<;>omega))).mono ?_
   clear y0 y1 y2 y3 z0 z1 z2;rintro e wd ⟨rfl,F',hB,XK,hF,hkl,hU,XW,hFW,hkw2⟩;obtain⟨y0,y1,y2,y3⟩:=cl4 XK;obtain⟨z0,z1,z2⟩:=cl3 XW;go_wp2_with fail
   refine(Z2 XK hF hkl hU XW hFW (Df hB (by simp<;>omega))).mono ?_
   clear y0 y1 y2 y3 z0 z1 z2;rintro e wd ⟨rfl,F',hB,XK,hF,hkl,hU,XW,hFW,hkw2⟩;obtain⟨y0,y1,y2,y3⟩:=cl4 XK;obtain⟨z0,z1,z2⟩:=cl3 XW;go_wp2_with fail
   refine(Z2 XK hF hkl hU XW hFW (be hB (by simp<;>omega))).mono ?_
   clear y0 y1 y2 y3 z0 z1 z2;rintro e wd ⟨rfl,F',hB,XK,hF,hkl,hU,XW,hFW,hkw2⟩;obtain⟨y0,y1,y2,y3⟩:=cl4 XK;obtain⟨z0,z1,z2⟩:=cl3 XW;have hal:=hal0.trans (hU.low _ (λk e=>by rw[e];exact hbb) hws)
   have hcb:=br hB ((aF (pW (aU aH)))).1 (by simp<;>omega) ((aF (pW (aU aH)))).2 (hI.below hal)
   rw[<-hR.out]at hcb;clear hR;go_wp2_with fail;refine hcb.mono ?_;rintro e w' ⟨⟨v,rfl,hv1,hv2⟩,hb'⟩;go_wp2;go_ret2;exact dE hal hv1 hv2 hb'
 ·by_cases k5:ok=5
  ·subst k5
   go_wp2_with fail;refine(hM W hal0).mono ?_;rintro e w1 ⟨rfl,hb1⟩;clear y0 y1 y2 y3 hM;replace XK:=keep XK hb1;replace hal0:=hal0.trans (hb1.mono hal0.size);clear hb1;obtain⟨y0,y1,y2,y3⟩:=cl4 XK;cases mb
   ·obtain rfl:R=([],false):=hR.out.trans (t9 hmb.out.symm)
    clear hR hmb;go_wp2;go_ret2;exact⟨CodeR.no,hal0⟩
   go_upto_region 4 with(fail);obtain⟨w2,bb,e0,e1,XB,hb2⟩:=aO w1 #[.slice none 0 0,.map none,.slice none 0 0,.bool false] 202;rw[e0,e1];have hbb':w1.heap.size=bb:=e1;clear e0 e1 y0 y1 y2 y3
   have hbb:w.heap.size<=bb:=by have:=hal0.size;omega
   have hF:¬(kB=bb):=by have:=aB XK;omega
   replace XK:=keep XK hb2;have hB:=da XB;have hU:Upd (λk=>k=bb) (λk=>k=bb) w2 w2:=Upd.refl _ _;replace hal0:=hal0.trans (hb2.mono hal0.size);have hws:w.heap.size<=w2.heap.size:=hal0.size;have hkl:kB<w2.heap.size:=aB XK;clear hb2 XB hbb';obtain⟨y0,y1,y2,y3⟩:=cl4 XK;clear y0 y1 y2 y3;refine ab ?_
   iterate 3 refine Zv ?_
   refine aG rfl (.agg #[.int .u32 base,.int .i64 th,.int .i64 t]) ?_ ?_
   ·go_simp
   refine Zk ?_;refine Za 211 #[.int .u32 0,.int .i64 0,.int .i64 0] (λwa kW XW l16 f16=>?_);refine Zo 211 kW #[.int .u32 base,.int .i64 th,.int .i64 t] XW (λw3 g1 g2 g3 g4=>?_);have hb7:Below w2.heap.size w2 w3:=l16.trans (g3 _ (by simp only[Hid]at f16;omega))
   have hFW:¬(kW=bb):=by have:=hB.lt bb rfl;simp only[Hid]at f16;omega
   replace XW:=g1;clear l16 f16 g1 g2 g3 g4;replace XK:=keep XK hb7;replace hkl:kB<w3.heap.size:=aB XK;have hkw2:kW<w3.heap.size:=aB XW;replace hB:=hB.below hb7;replace hU:=hU.trans (Upd.of_below hb7);clear hb7;obtain⟨y0,y1,y2,y3⟩:=cl4 XK;obtain⟨z0,z1,z2⟩:=cl3 XW
   obtain⟨hmay,hwho,hrp⟩:=hRP (by first|rfl|trivial)
   have htab:=fk hmay
   try simp only at htab
   by_cases c1:call=1
   ·subst c1
    replace hR:Hid (R=(aI (kK (aW BS.zero ((base+1)%4294967296) t) base th t)).fin):=hR.out.trans (tT rfl hmb.out.symm rfl);clear hmb;clear hRP;go_wp2_with fail;refine(FO on oa ob _).mono ?_;rintro e w4 ⟨rfl,hb3⟩;clear y0 y1 y2 y3 z0 z1 z2;replace XK:=keep XK hb3;replace XW:=keep XW hb3;replace hkl:kB<w4.heap.size:=aB XK;replace hkw2:kW<w4.heap.size:=aB XW;replace hB:=hB.below hb3;replace hU:=hU.trans (Upd.of_below hb3);clear hb3;obtain⟨y0,y1,y2,y3⟩:=cl4 XK;obtain⟨z0,z1,z2⟩:=cl3 XW;go_wp2_with fail
    refine(Z2 XK hF hkl hU XW hFW (gX hB (by simp<;>omega))).mono ?_
    clear y0 y1 y2 y3 z0 z1 z2;rintro e wd ⟨rfl,F',hB,XK,hF,hkl,hU,XW,hFW,hkw2⟩;obtain⟨y0,y1,y2,y3⟩:=cl4 XK;obtain⟨z0,z1,z2⟩:=cl3 XW;go_wp2_with fail
    refine(Z2 XK hF hkl hU XW hFW (EW hB (by simp<;>omega))).mono ?_
    clear y0 y1 y2 y3 z0 z1 z2;rintro e wd ⟨rfl,F',hB,XK,hF,hkl,hU,XW,hFW,hkw2⟩;obtain⟨y0,y1,y2,y3⟩:=cl4 XK;obtain⟨z0,z1,z2⟩:=cl3 XW;go_wp2_with fail
    refine(Z2 XK hF hkl hU XW hFW (be hB (by simp<;>omega))).mono ?_
    clear y0 y1 y2 y3 z0 z1 z2;rintro e wd ⟨rfl,F',hB,XK,hF,hkl,hU,XW,hFW,hkw2⟩;obtain⟨y0,y1,y2,y3⟩:=cl4 XK;obtain⟨z0,z1,z2⟩:=cl3 XW;have hal:=hal0.trans (hU.low _ (λk e=>by rw[e];exact hbb) hws)
    have hcb:=br hB ((aF (qZ (aX aH)))).1 (by simp<;>omega) ((aF (qZ (aX aH)))).2 (hI.below hal)
    rw[<-hR.out]at hcb;clear hR;go_wp2_with fail;refine hcb.mono ?_;rintro e w' ⟨⟨v,rfl,hv1,hv2⟩,hb'⟩;go_wp2;go_ret2;exact dE hal hv1 hv2 hb'
   ·have q1:(call == 1)=false:=by simp[c1]
    replace hR:Hid (R=(aI (iO (aS BS.zero ((base+1)%4294967296) t) base th t)).fin):=hR.out.trans (uk rfl hmb.out.symm c1);clear hmb;clear hRP c1;go_wp2_with fail;refine(FO on oa ob _).mono ?_;rintro e w4 ⟨rfl,hb3⟩;clear y0 y1 y2 y3 z0 z1 z2;replace XK:=keep XK hb3;replace XW:=keep XW hb3;replace hkl:kB<w4.heap.size:=aB XK;replace hkw2:kW<w4.heap.size:=aB XW;replace hB:=hB.below hb3;replace hU:=hU.trans (Upd.of_below hb3);clear hb3;obtain⟨y0,y1,y2,y3⟩:=cl4 XK;obtain⟨z0,z1,z2⟩:=cl3 XW;go_wp2_with fail
    refine(Z2 XK hF hkl hU XW hFW (gw hB (by simp<;>omega))).mono ?_
    clear y0 y1 y2 y3 z0 z1 z2;rintro e wd ⟨rfl,F',hB,XK,hF,hkl,hU,XW,hFW,hkw2⟩;obtain⟨y0,y1,y2,y3⟩:=cl4 XK;obtain⟨z0,z1,z2⟩:=cl3 XW;go_wp2_with fail
    refine(Z2 XK hF hkl hU XW hFW (CC hB (by simp<;>omega))).mono ?_
    clear y0 y1 y2 y3 z0 z1 z2;rintro e wd ⟨rfl,F',hB,XK,hF,hkl,hU,XW,hFW,hkw2⟩;obtain⟨y0,y1,y2,y3⟩:=cl4 XK;obtain⟨z0,z1,z2⟩:=cl3 XW;go_wp2_with fail
    refine(Z2 XK hF hkl hU XW hFW (be hB (by simp<;>omega))).mono ?_
    clear y0 y1 y2 y3 z0 z1 z2;rintro e wd ⟨rfl,F',hB,XK,hF,hkl,hU,XW,hFW,hkw2⟩;obtain⟨y0,y1,y2,y3⟩:=cl4 XK;obtain⟨z0,z1,z2⟩:=cl3 XW;have hal:=hal0.trans (hU.low _ (λk e=>by rw[e];exact hbb) hws)
    have hcb:=br hB ((aF (o9 (aU aH)))).1 (by simp<;>omega) ((aF (o9 (aU aH)))).2 (hI.below hal)
    rw[<-hR.out]at hcb;clear hR;go_wp2_with fail;refine hcb.mono ?_;rintro e w' ⟨⟨v,rfl,hv1,hv2⟩,hb'⟩;go_wp2;go_ret2;exact dE hal hv1 hv2 hb'
  ·have q4:(ok != 4)=true:=by simp[k4]
   have q5:(ok != 5)=true:=by simp[k5]
   obtain rfl:R=([],false):=hR.out.trans (tS ⟨k4,k5⟩);clear hR hmb k4 k5;go_wp2
   all_goals go_ret2
   all_goals exact⟨CodeR.no,hal0⟩
end
section
attribute [local simp] fL ft fN cH iI cU fP iR
def rdS(st:BS)(base:Int):Nat->BS
 | 0=>st
 | i+1=>(rdS st base i).ask 16 i ((base+2+i)%4294967296)
@[simp] theorem uu(st:BS)(base:Int):∀n,(rdS st base n).sz=st.sz+n
 | 0=>rfl
 | n+1=>by show((rdS st base n).ask _ _ _).sz=_;rw[ft,uu st base n];omega
theorem A9{st:BS}{base:Int}(h:st.Ok):∀n,(rdS st base n).Ok
 | 0=>h
 | n+1=>aL _ _ _ (A9 h n)
def mc(st:BS)(base:Int)(n:Nat):BS:=(((rdS (((((st.place bG).ask 16 4 (base%4294967296)).set 5 1).alu 6 6 4 5).go 15 6 bG) base n).ask 16 5 (base%4294967296)).alu 12 6 4 5).go 14 6 bG
@[simp] theorem mR(st:BS)(base:Int)(n:Nat):(mc st base n).sz=st.sz+n+10:=by
 unfold mc;simp<;>omega
theorem sL{st:BS}{base:Int}{n:Nat}(h:st.Ok):(mc st base n).Ok:=ba _ _ (by decide) (dT _ _ _ _ (aL _ _ _ (A9 (ba _ _ (by decide) (dT _ _ _ _ (aN _ _ (aL _ _ _ (aM _ h))))) n)))
theorem G5{b:Nat}{F:Nat->Prop}{st:BS}{base:Int}(n:Nat)(hn:n<=3){w:World}(hB:BMem w b F st)(hs:st.sz<=3500:=by first|omega|(simp<;>omega)):Calls Tryz.prog 139 #[.pointer (some ⟨b,0,none⟩),.int .u32 base,.int .i64 n] w λe w'=>e=.returned (.tuple #[])/\∃F',BMem w' b F' (mc st base n)/\Upd F F' w w':=by
 go_enter Tryz.func139,Tryz.ntmps139;have hU:=Upd.refl F w;go_wp2_with fail;refine(Zx hU (aY hB ji (by decide) (by omega))).mono ?_;rintro e w' ⟨rfl,F',hB,hU⟩;go_wp2_with fail
 refine(Zx hU (bi hB (by simp<;>omega))).mono ?_
 rintro e w' ⟨rfl,F',hB,hU⟩;go_wp2_with fail
 refine(Zx hU (bF hB (by simp<;>omega))).mono ?_
 rintro e w' ⟨rfl,F',hB,hU⟩;go_wp2_with fail
 refine(Zx hU (jT hB (by simp<;>omega))).mono ?_
 rintro e w' ⟨rfl,F',hB,hU⟩;go_wp2_with fail
 refine(Zx hU (goC hB (by simp<;>omega))).mono ?_
 rintro e w' ⟨rfl,F',hB,hU⟩;obtain⟨st1,hst1⟩:=Zh ((((((st.place bG).ask 16 4 (base%4294967296)).set 5 1).alu 6 6 4 5).go 15 6 bG))
 have hsz1:st1.sz<=3600:=by rw[hst1.out];simp<;>omega
 replace hB:BMem w' b F' st1:=by rw[hst1.out];exact hB
 go_upto_region 6 with(fail);go_loopw [20] (λv wr=>∃(i:Nat)(G:Nat->Prop),v=.int .i64 i/\i<=n/\BMem wr b G (rdS st1 base i)/\Upd F G w wr) (λv _=>n - (intOf v).toNat)
 case atStart=>exact⟨0,_,rfl,au _,hB,hU⟩
 case round=>
  clear hB hU;obtain⟨i,G,rfl,hi,hB,hU⟩:=hrel
  by_cases hlt:i<n
  case neg=>
   obtain rfl:i=n:=by omega
   have hl1:¬((i:Int)<i):=by omega
   go_wp2_with fail
   refine(Zx hU (bi hB (by simp<;>omega))).mono ?_
   rintro e w' ⟨rfl,F',hB,hU⟩;go_wp2_with fail
   refine(Zx hU (jT hB (by simp<;>omega))).mono ?_
   rintro e w' ⟨rfl,F',hB,hU⟩;go_wp2_with fail
   refine(Zx hU (goC hB (by simp<;>omega))).mono ?_
   rintro e w' ⟨rfl,F',hB,hU⟩;go_wp2;go_end0;refine⟨rfl,_,?_,hU⟩;unfold mc;rw[<-hst1.out];exact hB
  have hl0:(0:Int)<=i:=by omega
  have hl1:(i:Int)<n:=by omega
  go_wp2_with fail;refine((bi (op:=16) (a:=i) (addr:=(base+2+i)%4294967296) hB (by rw[uu];omega))).mono ?_;rintro e w2 ⟨rfl,F2,hB',hU'⟩;replace hU:=hU.trans hU';replace hB:BMem w2 b F2 (rdS st1 base (i+1)):=hB';clear hB' hU';go_wp2;go_roundw
  case rel=>exact⟨i+1,F2,by go_num,by omega,hB,hU⟩
  case measure=>simp[intOf];omega
end
section
attribute [local simp] fL ft dD cN fN cL df dZ dr dj gD gz gA gy gQ eQ cH gE gV iZ gB dz iI dA dy dV dq iz ge dX eO dC dx eh iL cU dh dR mR fV fh fT dP dO fP iT dB eW fE cj ee iD iR dW
def jR(o:O)(call th t base arg:Int):List Ins×Bool:=
 if o.k=9 then(if a8 o call th t=true then(if call=4 then(if arg<o.n then(aI ((aS BS.zero ((base+1)%4294967296) t).ask 17 0 ((base+2+arg)%4294967296))).fin else([],false)) else(if call=1 then(aI (kp (aW BS.zero ((base+1)%4294967296) t) base)).fin else(if call=2 then(aI (cE (jQ (aS BS.zero ((base+1)%4294967296) t) base) ((base+1)%4294967296))).fin else(aI (mc BS.zero base o.n.toNat)).fin))) else([],false)) else(([],false))
theorem Ar{o:O}{call th t base arg:Int}(h:o.k≠9):jR o call th t base arg=([],false):=by unfold jR;rw[af (show ¬o.k=9 by omega)]
theorem uW{o:O}{call th t base arg:Int}(h:a8 o call th t=false):jR o call th t base arg=([],false):=by
 unfold jR;rw[h];simp only[Bool.false_eq_true,if_false,ite_self]
theorem EN{o:O}{call th t base arg:Int}(k:o.k=9)(h:a8 o call th t=true)(c0:(call=4))(c1:(arg<o.n)):jR o call th t base arg=(aI ((aS BS.zero ((base+1)%4294967296) t).ask 17 0 ((base+2+arg)%4294967296))).fin:=by unfold jR;rw[ag k,ag h,ag c0,ag c1]
theorem Et{o:O}{call th t base arg:Int}(k:o.k=9)(h:a8 o call th t=true)(c0:(call=4))(c1:¬(arg<o.n)):jR o call th t base arg=([],false):=by unfold jR;rw[ag k,ag h,ag c0,af c1]
theorem ED{o:O}{call th t base arg:Int}(k:o.k=9)(h:a8 o call th t=true)(c0:¬(call=4))(c1:(call=1)):jR o call th t base arg=(aI (kp (aW BS.zero ((base+1)%4294967296) t) base)).fin:=by unfold jR;rw[ag k,ag h,af c0,ag c1]
theorem EO{o:O}{call th t base arg:Int}(k:o.k=9)(h:a8 o call th t=true)(c0:¬(call=4))(c1:¬(call=1))(c2:(call=2)):jR o call th t base arg=(aI (cE (jQ (aS BS.zero ((base+1)%4294967296) t) base) ((base+1)%4294967296))).fin:=by unfold jR;rw[ag k,ag h,af c0,af c1,ag c2]
theorem EB{o:O}{call th t base arg:Int}(k:o.k=9)(h:a8 o call th t=true)(c0:¬(call=4))(c1:¬(call=1))(c2:¬(call=2)):jR o call th t base arg=(aI (mc BS.zero base o.n.toNat)).fin:=by unfold jR;rw[ag k,ag h,af c0,af c1,af c2]
theorem BH(o:O)(call th t base arg:Int)(harg:0<=arg/\arg<4294967296)(w:World)(hN:NmW w)(hI:IsaW w):Calls Tryz.prog 90 #[ov o,.int .i64 call,.int .i64 th,.int .i64 t,.int .u32 base,.int .u32 arg] w λe w'=>CodeR w w' (jR o call th t base arg) e/\Below w.heap.size w w':=by
 obtain⟨hr0,hr1⟩:=harg;obtain⟨R,hR⟩:=Zh (jR o call th t base arg);rw[<-hR.out];have hM:=λw' (hb:Below w.heap.size w w')=>i4 o call th t w' (hN.below hb);have hRP:=λh=>(jz (o:=o) (c:=call) (t:=th) (u:=t) h);obtain⟨mb,hmb⟩:=Zh (a8 o call th t);rw[<-hmb.out]at hM hRP;obtain⟨ok,on,oa,ob⟩:=o;unfold ov at hM ⊢;simp only at hRP;go_enter Tryz.func90,Tryz.ntmps90;go_upto_region 1 with(fail);obtain⟨W,kB,e0,e1,XK,hal0⟩:=aO w #[.int .i64 ok,.int .i64 on,.int .i64 oa,.int .i64 ob] 43;rw[e0,e1];have hkw:w.heap.size<=kB:=aD e1;clear e0 e1;obtain⟨y0,y1,y2,y3⟩:=cl4 XK
 by_cases k9:ok=9
 ·subst k9
  by_cases c4:call=4
  ·subst c4
   by_cases ca:arg<on
   ·go_wp2_with fail
    refine(hM W hal0).mono ?_;rintro e w1 ⟨rfl,hb1⟩;clear y0 y1 y2 y3 hM;replace XK:=keep XK hb1;replace hal0:=hal0.trans (hb1.mono hal0.size);clear hb1;obtain⟨y0,y1,y2,y3⟩:=cl4 XK;cases mb
    ·obtain rfl:R=([],false):=hR.out.trans (uW hmb.out.symm)
     clear hR hmb;go_wp2;go_ret2;exact⟨CodeR.no,hal0⟩
    have hon:1<=on/\on<=3:=by
     have hrp:=(hRP (by first|rfl|trivial)).2.2
     unfold RP at hrp;simp only at hrp;omega
    obtain⟨nn,rfl⟩:∃q:Nat,on=q:=⟨on.toNat,by omega⟩;obtain⟨hn1,hn3⟩:=hon;go_upto_region 4 with(fail);obtain⟨w2,bb,e0,e1,XB,hb2⟩:=aO w1 #[.slice none 0 0,.map none,.slice none 0 0,.bool false] 202;rw[e0,e1];have hbb':w1.heap.size=bb:=e1;clear e0 e1 y0 y1 y2 y3
    have hbb:w.heap.size<=bb:=by have:=hal0.size;omega
    have hF:¬(kB=bb):=by have:=aB XK;omega
    replace XK:=keep XK hb2;have hB:=da XB;have hU:Upd (λk=>k=bb) (λk=>k=bb) w2 w2:=Upd.refl _ _;replace hal0:=hal0.trans (hb2.mono hal0.size);have hws:w.heap.size<=w2.heap.size:=hal0.size;have hkl:kB<w2.heap.size:=aB XK;clear hb2 XB hbb';obtain⟨y0,y1,y2,y3⟩:=cl4 XK
    obtain⟨hmay,hwho,hrp⟩:=hRP (by first|rfl|trivial)
    have htab:=fk hmay
    try simp only at htab
    replace hR:Hid (R=(aI ((aS BS.zero ((base+1)%4294967296) t).ask 17 0 ((base+2+arg)%4294967296))).fin):=hR.out.trans (EN rfl hmb.out.symm rfl ca);clear hmb;clear hRP ca;go_wp2_with fail
    refine(Z1 XK hF hkl hU (gw hB (by simp<;>omega))).mono ?_
    clear y0 y1 y2 y3;rintro e wd ⟨rfl,F',hB,XK,hF,hkl,hU⟩;obtain⟨y0,y1,y2,y3⟩:=cl4 XK;go_wp2_with fail
    refine(Z1 XK hF hkl hU (bi hB (by simp<;>omega))).mono ?_
    clear y0 y1 y2 y3;rintro e wd ⟨rfl,F',hB,XK,hF,hkl,hU⟩;obtain⟨y0,y1,y2,y3⟩:=cl4 XK;go_wp2_with fail
    refine(Z1 XK hF hkl hU (be hB (by simp<;>omega))).mono ?_
    clear y0 y1 y2 y3;rintro e wd ⟨rfl,F',hB,XK,hF,hkl,hU⟩;obtain⟨y0,y1,y2,y3⟩:=cl4 XK;have hal:=hal0.trans (hU.low _ (λk e=>by rw[e];exact hbb) hws)
    have hcb:=br hB ((aF (aL _ _ _ (aU aH)))).1 (by simp<;>omega) ((aF (aL _ _ _ (aU aH)))).2 (hI.below hal)
    rw[<-hR.out]at hcb;clear hR;go_wp2_with fail;refine hcb.mono ?_;rintro e w' ⟨⟨v,rfl,hv1,hv2⟩,hb'⟩;go_wp2;go_ret2;exact dE hal hv1 hv2 hb'
   ·go_wp2_with fail
    refine(hM W hal0).mono ?_;rintro e w1 ⟨rfl,hb1⟩;clear y0 y1 y2 y3 hM;replace XK:=keep XK hb1;replace hal0:=hal0.trans (hb1.mono hal0.size);clear hb1;obtain⟨y0,y1,y2,y3⟩:=cl4 XK;cases mb
    ·obtain rfl:R=([],false):=hR.out.trans (uW hmb.out.symm)
     clear hR hmb;go_wp2;go_ret2;exact⟨CodeR.no,hal0⟩
    have hon:1<=on/\on<=3:=by
     have hrp:=(hRP (by first|rfl|trivial)).2.2
     unfold RP at hrp;simp only at hrp;omega
    obtain⟨nn,rfl⟩:∃q:Nat,on=q:=⟨on.toNat,by omega⟩;obtain⟨hn1,hn3⟩:=hon;obtain rfl:R=([],false):=hR.out.trans (Et rfl hmb.out.symm rfl (Int.not_lt.2 ca));clear hR hmb;go_wp2
    all_goals go_ret2
    all_goals exact⟨CodeR.no,hal0⟩
  ·have q4:(call == 4)=false:=by simp[c4]
   go_wp2_with fail;refine(hM W hal0).mono ?_;rintro e w1 ⟨rfl,hb1⟩;clear y0 y1 y2 y3 hM;replace XK:=keep XK hb1;replace hal0:=hal0.trans (hb1.mono hal0.size);clear hb1;obtain⟨y0,y1,y2,y3⟩:=cl4 XK;cases mb
   ·obtain rfl:R=([],false):=hR.out.trans (uW hmb.out.symm)
    clear hR hmb;go_wp2;go_ret2;exact⟨CodeR.no,hal0⟩
   have hon:1<=on/\on<=3:=by
    have hrp:=(hRP (by first|rfl|trivial)).2.2
    unfold RP at hrp;simp only at hrp;omega
   obtain⟨nn,rfl⟩:∃q:Nat,on=q:=⟨on.toNat,by omega⟩;obtain⟨hn1,hn3⟩:=hon;go_upto_region 4 with(fail);obtain⟨w2,bb,e0,e1,XB,hb2⟩:=aO w1 #[.slice none 0 0,.map none,.slice none 0 0,.bool false] 202;rw[e0,e1];have hbb':w1.heap.size=bb:=e1;clear e0 e1 y0 y1 y2 y3
   have hbb:w.heap.size<=bb:=by have:=hal0.size;omega
   have hF:¬(kB=bb):=by have:=aB XK;omega
   replace XK:=keep XK hb2;have hB:=da XB;have hU:Upd (λk=>k=bb) (λk=>k=bb) w2 w2:=Upd.refl _ _;replace hal0:=hal0.trans (hb2.mono hal0.size);have hws:w.heap.size<=w2.heap.size:=hal0.size;have hkl:kB<w2.heap.size:=aB XK;clear hb2 XB hbb';obtain⟨y0,y1,y2,y3⟩:=cl4 XK
   obtain⟨hmay,hwho,hrp⟩:=hRP (by first|rfl|trivial)
   have htab:=fk hmay
   try simp only at htab
   by_cases c1:call=1
   ·subst c1
    replace hR:Hid (R=(aI (kp (aW BS.zero ((base+1)%4294967296) t) base)).fin):=hR.out.trans (ED rfl hmb.out.symm c4 rfl);clear hmb;clear hRP c4;go_wp2_with fail
    refine(Z1 XK hF hkl hU (gX hB (by simp<;>omega))).mono ?_
    clear y0 y1 y2 y3;rintro e wd ⟨rfl,F',hB,XK,hF,hkl,hU⟩;obtain⟨y0,y1,y2,y3⟩:=cl4 XK;go_wp2_with fail
    refine(Z1 XK hF hkl hU (Em hB (by simp<;>omega))).mono ?_
    clear y0 y1 y2 y3;rintro e wd ⟨rfl,F',hB,XK,hF,hkl,hU⟩;obtain⟨y0,y1,y2,y3⟩:=cl4 XK;go_wp2_with fail
    refine(Z1 XK hF hkl hU (be hB (by simp<;>omega))).mono ?_
    clear y0 y1 y2 y3;rintro e wd ⟨rfl,F',hB,XK,hF,hkl,hU⟩;obtain⟨y0,y1,y2,y3⟩:=cl4 XK;have hal:=hal0.trans (hU.low _ (λk e=>by rw[e];exact hbb) hws)
    have hcb:=br hB ((aF (ro (aX aH)))).1 (by simp<;>omega) ((aF (ro (aX aH)))).2 (hI.below hal)
    rw[<-hR.out]at hcb;clear hR;go_wp2_with fail;refine hcb.mono ?_;rintro e w' ⟨⟨v,rfl,hv1,hv2⟩,hb'⟩;go_wp2;go_ret2;exact dE hal hv1 hv2 hb'
   ·have q1:(call == 1)=false:=by simp[c1]
    by_cases c2:call=2
    ·subst c2
     replace hR:Hid (R=(aI (cE (jQ (aS BS.zero ((base+1)%4294967296) t) base) ((base+1)%4294967296))).fin):=hR.out.trans (EO rfl hmb.out.symm c4 c1 rfl);clear hmb;clear hRP c4 c1;go_wp2_with fail
     refine(Z1 XK hF hkl hU (gw hB (by simp<;>omega))).mono ?_
     clear y0 y1 y2 y3;rintro e wd ⟨rfl,F',hB,XK,hF,hkl,hU⟩;obtain⟨y0,y1,y2,y3⟩:=cl4 XK;go_wp2_with fail
     refine(Z1 XK hF hkl hU (Ak hB (by simp<;>omega))).mono ?_
     clear y0 y1 y2 y3;rintro e wd ⟨rfl,F',hB,XK,hF,hkl,hU⟩;obtain⟨y0,y1,y2,y3⟩:=cl4 XK;go_wp2_with fail
     refine(Z1 XK hF hkl hU (gL hB (by simp<;>omega))).mono ?_
     clear y0 y1 y2 y3;rintro e wd ⟨rfl,F',hB,XK,hF,hkl,hU⟩;obtain⟨y0,y1,y2,y3⟩:=cl4 XK;go_wp2_with fail
     refine(Z1 XK hF hkl hU (be hB (by simp<;>omega))).mono ?_
     clear y0 y1 y2 y3;rintro e wd ⟨rfl,F',hB,XK,hF,hkl,hU⟩;obtain⟨y0,y1,y2,y3⟩:=cl4 XK;have hal:=hal0.trans (hU.low _ (λk e=>by rw[e];exact hbb) hws)
     have hcb:=br hB ((aF (bj (nr (aU aH))))).1 (by simp<;>omega) ((aF (bj (nr (aU aH))))).2 (hI.below hal)
     rw[<-hR.out]at hcb;clear hR;go_wp2_with fail;refine hcb.mono ?_;rintro e w' ⟨⟨v,rfl,hv1,hv2⟩,hb'⟩;go_wp2;go_ret2;exact dE hal hv1 hv2 hb'
    ·have q2:(call == 2)=false:=by simp[c2]
     replace hR:Hid (R=(aI (mc BS.zero base nn)).fin):=hR.out.trans (EB rfl hmb.out.symm c4 c1 c2);clear hmb;clear hRP c4 c1 c2;go_wp2_with fail
     refine(Z1 XK hF hkl hU (G5 nn (by omega) hB (by simp<;>omega))).mono ?_
     clear y0 y1 y2 y3;rintro e wd ⟨rfl,F',hB,XK,hF,hkl,hU⟩;obtain⟨y0,y1,y2,y3⟩:=cl4 XK;go_wp2_with fail
     refine(Z1 XK hF hkl hU (be hB (by simp<;>omega))).mono ?_
     clear y0 y1 y2 y3;rintro e wd ⟨rfl,F',hB,XK,hF,hkl,hU⟩;obtain⟨y0,y1,y2,y3⟩:=cl4 XK;have hal:=hal0.trans (hU.low _ (λk e=>by rw[e];exact hbb) hws)
     have hcb:=br hB ((aF (sL aH))).1 (by simp<;>omega) ((aF (sL aH))).2 (hI.below hal)
     rw[<-hR.out]at hcb;clear hR;go_wp2_with fail;refine hcb.mono ?_;rintro e w' ⟨⟨v,rfl,hv1,hv2⟩,hb'⟩;go_wp2;go_ret2;exact dE hal hv1 hv2 hb'
 ·have q9:(ok != 9)=true:=by simp[k9]
  obtain rfl:R=([],false):=hR.out.trans (Ar k9);clear hR hmb k9;go_wp2
  all_goals go_ret2
  all_goals exact⟨CodeR.no,hal0⟩
end
end Go.Proofs.YtldlcnaphednnaaGreatDoor
