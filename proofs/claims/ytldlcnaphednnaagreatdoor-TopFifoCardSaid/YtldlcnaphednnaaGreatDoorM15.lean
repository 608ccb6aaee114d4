/- The code of conditions, barriers, what is done once, as it is asked for. The two sides of a lock of two. -/
import Derived.Test.YtldlcnaphednnaaGreatDoorM14
import Derived.Test.YtldlcnaphednnaaGreatDoorM02
import Derived.Test.YtldlcnaphednnaaGreatDoorChecked
import Derived.Test.YtldlcnaphednnaaGreatDoorM05
set_option maxRecDepth 100000
set_option maxHeartbeats 32000000
set_option linter.unusedVariables false
set_option linter.unusedSimpArgs false
namespace Go.Proofs.YtldlcnaphednnaaGreatDoor
open Go.RowKit Go.Maps
section
attribute [local simp] fL ft dD cN fN cL df dZ dr dj gD gz gA gy gQ eQ cH gE gV iZ gB dz iI dA dy dV dq iz ge dX eO dC dx eh iL cU dh dR mR fV fh fT dP dO fP iT dB eW fE cj ee iD iR dW
theorem barA{b:Nat}{F:Nat->Prop}{st:BS}{k n a b' t base arg:Int}{w:World}(hn:1<=n/\n<=8)(ha:0<=arg/\arg<4294967296)(ht:n<=t)(hB:BMem w b F st)(hs:st.sz<=3500:=by first|omega|(simp<;>omega)):Calls Tryz.prog 145 #[.pointer (some ⟨b,0,none⟩),.agg #[.int .i64 k,.int .i64 n,.int .i64 a,.int .i64 b'],.int .i64 t,.int .u32 base,.int .u32 arg] w λe w'=>e=.returned (.tuple #[])/\∃F',BMem w' b F' (st.set 7 4)/\Upd F F' w w':=by
 have hn0:=hn.1;have hn1:=hn.2;have a0:=ha.1;have a1:=ha.2;go_enter Tryz.func145,Tryz.ntmps145;go_upto_region 2 with(fail);obtain⟨W,kB,e0,e1,XK,hal⟩:=aO w #[.int .i64 k,.int .i64 n,.int .i64 a,.int .i64 b'] 43;rw[e0,e1];clear e0 e1;have hU:Upd F F w W:=Upd.of_below hal;replace hB:=hB.below hal;have y1:=ae W kB 1 _ 43 _ XK;go_wp2_with fail;refine(bF hB (by omega)).mono ?_;rintro e w' ⟨rfl,F',hB',hU'⟩;go_wp2;go_end0;exact⟨rfl,F',hB',hU.trans hU'⟩
theorem barB{b:Nat}{F:Nat->Prop}{st:BS}{k n a b' t base arg:Int}{w:World}(hn:1<=n/\n<=8)(ha:0<=arg/\arg<4294967296)(ht:t<n)(hx:arg≠n)(hB:BMem w b F st)(hs:st.sz<=3500:=by first|omega|(simp<;>omega)):Calls Tryz.prog 145 #[.pointer (some ⟨b,0,none⟩),.agg #[.int .i64 k,.int .i64 n,.int .i64 a,.int .i64 b'],.int .i64 t,.int .u32 base,.int .u32 arg] w λe w'=>e=.returned (.tuple #[])/\∃F',BMem w' b F' (st.set 7 3)/\Upd F F' w w':=by
 have hn0:=hn.1;have hn1:=hn.2;have a0:=ha.1;have a1:=ha.2
 have hq:(arg != n)=true:=by simp[hx]
 go_enter Tryz.func145,Tryz.ntmps145;go_upto_region 2 with(fail);obtain⟨W,kB,e0,e1,XK,hal⟩:=aO w #[.int .i64 k,.int .i64 n,.int .i64 a,.int .i64 b'] 43;rw[e0,e1];clear e0 e1;have hU:Upd F F w W:=Upd.of_below hal;replace hB:=hB.below hal;have y1:=ae W kB 1 _ 43 _ XK;go_wp2_with fail;refine(bF hB (by omega)).mono ?_;rintro e w' ⟨rfl,F',hB',hU'⟩;go_wp2;go_end0;exact⟨rfl,F',hB',hU.trans hU'⟩
theorem barM{b:Nat}{F:Nat->Prop}{st:BS}{k n a b' t base arg:Int}{w:World}(hn:1<=n/\n<=8)(ha:0<=arg/\arg<4294967296)(ht:t<n)(hx:arg=n)(hB:BMem w b F st)(hs:st.sz<=3500:=by first|omega|(simp<;>omega)):Calls Tryz.prog 145 #[.pointer (some ⟨b,0,none⟩),.agg #[.int .i64 k,.int .i64 n,.int .i64 a,.int .i64 b'],.int .i64 t,.int .u32 base,.int .u32 arg] w λe w'=>e=.returned (.tuple #[])/\∃F',BMem w' b F' (mg st n base)/\Upd F F' w w':=by
 have hn0:=hn.1;have hn1:=hn.2;have a0:=ha.1;have a1:=ha.2;replace hx:=hx.symm;subst hx;go_enter Tryz.func145,Tryz.ntmps145;go_upto_region 2 with(fail);obtain⟨W,kB,e0,e1,XK,hal⟩:=aO w #[.int .i64 k,.int .i64 n,.int .i64 a,.int .i64 b'] 43;rw[e0,e1];clear e0 e1;have hU:Upd F F w W:=Upd.of_below hal;replace hB:=hB.below hal;have y1:=ae W kB 1 _ 43 _ XK;go_wp2_with fail;refine(Gl hn hB (by omega)).mono ?_;rintro e w' ⟨rfl,F',hB',hU'⟩;go_wp2;go_end0;exact⟨rfl,F',hB',hU.trans hU'⟩
def dm(o:O)(call th t base arg:Int):List Ins×Bool:=
 if o.k=12 then(if a8 o call th t=true then(if call=5 then(kq BS.zero t base).fin else(if call=6 then(kU BS.zero t base).fin else(if call=7 then(kw BS.zero t base).fin else(kG BS.zero t base).fin))) else([],false)) else(if o.k=13 then(if a8 o call th t=true then(if o.n<=t then(BS.zero.set 7 4).fin else(if arg=o.n then(mg BS.zero o.n base).fin else(BS.zero.set 7 3).fin)) else([],false)) else(if o.k=15 then(if a8 o call th t=true then(if call=9 then(kn BS.zero t base).fin else(kk BS.zero t base).fin) else([],false)) else(([],false))))
theorem vV{o:O}{call th t base arg:Int}(h:o.k≠12/\o.k≠13/\o.k≠15):dm o call th t base arg=([],false):=by unfold dm;rw[af (show ¬o.k=12 by omega),af (show ¬o.k=13 by omega),af (show ¬o.k=15 by omega)]
theorem rX{o:O}{call th t base arg:Int}(h:a8 o call th t=false):dm o call th t base arg=([],false):=by
 unfold dm;rw[h];simp only[Bool.false_eq_true,if_false,ite_self]
theorem C4{o:O}{call th t base arg:Int}(k:o.k=12)(h:a8 o call th t=true)(c0:(call=5)):dm o call th t base arg=(kq BS.zero t base).fin:=by unfold dm;rw[ag k,ag h,ag c0]
theorem B4{o:O}{call th t base arg:Int}(k:o.k=12)(h:a8 o call th t=true)(c0:¬(call=5))(c1:(call=6)):dm o call th t base arg=(kU BS.zero t base).fin:=by unfold dm;rw[ag k,ag h,af c0,ag c1]
theorem Dj{o:O}{call th t base arg:Int}(k:o.k=12)(h:a8 o call th t=true)(c0:¬(call=5))(c1:¬(call=6))(c2:(call=7)):dm o call th t base arg=(kw BS.zero t base).fin:=by unfold dm;rw[ag k,ag h,af c0,af c1,ag c2]
theorem Dd{o:O}{call th t base arg:Int}(k:o.k=12)(h:a8 o call th t=true)(c0:¬(call=5))(c1:¬(call=6))(c2:¬(call=7)):dm o call th t base arg=(kG BS.zero t base).fin:=by unfold dm;rw[ag k,ag h,af c0,af c1,af c2]
theorem CI{o:O}{call th t base arg:Int}(k:o.k=13)(h:a8 o call th t=true)(c0:(o.n<=t)):dm o call th t base arg=(BS.zero.set 7 4).fin:=by unfold dm;rw[af (show ¬o.k=12 by omega),ag k,ag h,ag c0]
theorem Dl{o:O}{call th t base arg:Int}(k:o.k=13)(h:a8 o call th t=true)(c0:¬(o.n<=t))(c1:(arg=o.n)):dm o call th t base arg=(mg BS.zero o.n base).fin:=by unfold dm;rw[af (show ¬o.k=12 by omega),ag k,ag h,af c0,ag c1]
theorem Da{o:O}{call th t base arg:Int}(k:o.k=13)(h:a8 o call th t=true)(c0:¬(o.n<=t))(c1:¬(arg=o.n)):dm o call th t base arg=(BS.zero.set 7 3).fin:=by unfold dm;rw[af (show ¬o.k=12 by omega),ag k,ag h,af c0,af c1]
theorem CL{o:O}{call th t base arg:Int}(k:o.k=15)(h:a8 o call th t=true)(c0:(call=9)):dm o call th t base arg=(kn BS.zero t base).fin:=by unfold dm;rw[af (show ¬o.k=12 by omega),af (show ¬o.k=13 by omega),ag k,ag h,ag c0]
theorem Dx{o:O}{call th t base arg:Int}(k:o.k=15)(h:a8 o call th t=true)(c0:¬(call=9)):dm o call th t base arg=(kk BS.zero t base).fin:=by unfold dm;rw[af (show ¬o.k=12 by omega),af (show ¬o.k=13 by omega),ag k,ag h,af c0]
theorem Bu(o:O)(call th t base arg:Int)(harg:0<=arg/\arg<4294967296)(w:World)(hN:NmW w)(hI:IsaW w):Calls Tryz.prog 92 #[ov o,.int .i64 call,.int .i64 th,.int .i64 t,.int .u32 base,.int .u32 arg] w λe w'=>CodeR w w' (dm o call th t base arg) e/\Below w.heap.size w w':=by
 obtain⟨hr0,hr1⟩:=harg;obtain⟨R,hR⟩:=Zh (dm o call th t base arg);rw[<-hR.out];have hM:=λw' (hb:Below w.heap.size w w')=>i4 o call th t w' (hN.below hb);have hRP:=λh=>(jz (o:=o) (c:=call) (t:=th) (u:=t) h);obtain⟨mb,hmb⟩:=Zh (a8 o call th t);rw[<-hmb.out]at hM hRP;obtain⟨ok,on,oa,ob⟩:=o;unfold ov at hM ⊢;simp only at hRP;go_enter Tryz.func92,Tryz.ntmps92;go_upto_region 1 with(fail);obtain⟨W,kB,e0,e1,XK,hal0⟩:=aO w #[.int .i64 ok,.int .i64 on,.int .i64 oa,.int .i64 ob] 43;rw[e0,e1];have hkw:w.heap.size<=kB:=aD e1;clear e0 e1;obtain⟨y0,y1,y2,y3⟩:=cl4 XK
 by_cases k12:ok=12
 ·subst k12
  go_wp2_with fail;refine(hM W hal0).mono ?_;rintro e w1 ⟨rfl,hb1⟩;clear y0 y1 y2 y3 hM;replace XK:=keep XK hb1;replace hal0:=hal0.trans (hb1.mono hal0.size);clear hb1;obtain⟨y0,y1,y2,y3⟩:=cl4 XK;cases mb
  ·obtain rfl:R=([],false):=hR.out.trans (rX hmb.out.symm)
   clear hR hmb;go_wp2;go_ret2;exact⟨CodeR.no,hal0⟩
  go_upto_region 4 with(fail);obtain⟨w2,bb,e0,e1,XB,hb2⟩:=aO w1 #[.slice none 0 0,.map none,.slice none 0 0,.bool false] 202;rw[e0,e1];have hbb':w1.heap.size=bb:=e1;clear e0 e1 y0 y1 y2 y3
  have hbb:w.heap.size<=bb:=by have:=hal0.size;omega
  have hF:¬(kB=bb):=by have:=aB XK;omega
  replace XK:=keep XK hb2;have hB:=da XB;have hU:Upd (λk=>k=bb) (λk=>k=bb) w2 w2:=Upd.refl _ _;replace hal0:=hal0.trans (hb2.mono hal0.size);have hws:w.heap.size<=w2.heap.size:=hal0.size;have hkl:kB<w2.heap.size:=aB XK;clear hb2 XB hbb';obtain⟨y0,y1,y2,y3⟩:=cl4 XK
  obtain⟨hmay,hwho,hrp⟩:=hRP (by first|rfl|trivial)
  have htab:=fk hmay
  try simp only at htab
  by_cases c5:call=5
  ·subst c5
   replace hR:Hid (R=(kq BS.zero t base).fin):=hR.out.trans (C4 rfl hmb.out.symm rfl);clear hmb;clear hRP;go_wp2_with fail
   refine(Z1 XK hF hkl hU (EL hB (by simp<;>omega))).mono ?_
   clear y0 y1 y2 y3;rintro e wd ⟨rfl,F',hB,XK,hF,hkl,hU⟩;obtain⟨y0,y1,y2,y3⟩:=cl4 XK;have hal:=hal0.trans (hU.low _ (λk e=>by rw[e];exact hbb) hws)
   have hcb:=br hB ((qB aH)).1 (by simp<;>omega) ((qB aH)).2 (hI.below hal)
   rw[<-hR.out]at hcb;clear hR;go_wp2_with fail;refine hcb.mono ?_;rintro e w' ⟨⟨v,rfl,hv1,hv2⟩,hb'⟩;go_wp2;go_ret2;exact dE hal hv1 hv2 hb'
  ·have q5:(call == 5)=false:=by simp[c5]
   by_cases c6:call=6
   ·subst c6
    replace hR:Hid (R=(kU BS.zero t base).fin):=hR.out.trans (B4 rfl hmb.out.symm c5 rfl);clear hmb;clear hRP c5;go_wp2_with fail
    refine(Z1 XK hF hkl hU (Fl hB (by simp<;>omega))).mono ?_
    clear y0 y1 y2 y3;rintro e wd ⟨rfl,F',hB,XK,hF,hkl,hU⟩;obtain⟨y0,y1,y2,y3⟩:=cl4 XK;have hal:=hal0.trans (hU.low _ (λk e=>by rw[e];exact hbb) hws)
    have hcb:=br hB ((qQ aH)).1 (by simp<;>omega) ((qQ aH)).2 (hI.below hal)
    rw[<-hR.out]at hcb;clear hR;go_wp2_with fail;refine hcb.mono ?_;rintro e w' ⟨⟨v,rfl,hv1,hv2⟩,hb'⟩;go_wp2;go_ret2;exact dE hal hv1 hv2 hb'
   ·have q6:(call == 6)=false:=by simp[c6]
    by_cases c7:call=7
    ·subst c7
     replace hR:Hid (R=(kw BS.zero t base).fin):=hR.out.trans (Dj rfl hmb.out.symm c5 c6 rfl);clear hmb;clear hRP c5 c6;go_wp2_with fail
     refine(Z1 XK hF hkl hU (E8 hB (by simp<;>omega))).mono ?_
     clear y0 y1 y2 y3;rintro e wd ⟨rfl,F',hB,XK,hF,hkl,hU⟩;obtain⟨y0,y1,y2,y3⟩:=cl4 XK;have hal:=hal0.trans (hU.low _ (λk e=>by rw[e];exact hbb) hws)
     have hcb:=br hB ((qP aH)).1 (by simp<;>omega) ((qP aH)).2 (hI.below hal)
     rw[<-hR.out]at hcb;clear hR;go_wp2_with fail;refine hcb.mono ?_;rintro e w' ⟨⟨v,rfl,hv1,hv2⟩,hb'⟩;go_wp2;go_ret2;exact dE hal hv1 hv2 hb'
    ·have q7:(call == 7)=false:=by simp[c7]
     replace hR:Hid (R=(kG BS.zero t base).fin):=hR.out.trans (Dd rfl hmb.out.symm c5 c6 c7);clear hmb
     obtain rfl:call=8:=by omega
     clear hRP c5 c6 c7;go_wp2_with fail
     refine(Z1 XK hF hkl hU (Fz hB (by simp<;>omega))).mono ?_
     clear y0 y1 y2 y3;rintro e wd ⟨rfl,F',hB,XK,hF,hkl,hU⟩;obtain⟨y0,y1,y2,y3⟩:=cl4 XK;have hal:=hal0.trans (hU.low _ (λk e=>by rw[e];exact hbb) hws)
     have hcb:=br hB ((qY aH)).1 (by simp<;>omega) ((qY aH)).2 (hI.below hal)
     rw[<-hR.out]at hcb;clear hR;go_wp2_with fail;refine hcb.mono ?_;rintro e w' ⟨⟨v,rfl,hv1,hv2⟩,hb'⟩;go_wp2;go_ret2;exact dE hal hv1 hv2 hb'
 ·by_cases k13:ok=13
  ·subst k13
   go_wp2_with fail;refine(hM W hal0).mono ?_;rintro e w1 ⟨rfl,hb1⟩;clear y0 y1 y2 y3 hM;replace XK:=keep XK hb1;replace hal0:=hal0.trans (hb1.mono hal0.size);clear hb1;obtain⟨y0,y1,y2,y3⟩:=cl4 XK;cases mb
   ·obtain rfl:R=([],false):=hR.out.trans (rX hmb.out.symm)
    clear hR hmb;go_wp2;go_ret2;exact⟨CodeR.no,hal0⟩
   have hon:1<=on/\on<=8:=by
    have hrp:=(hRP (by first|rfl|trivial)).2.2
    unfold RP at hrp;simp only at hrp;omega
   obtain⟨hn1,hn8⟩:=hon;go_upto_region 4 with(fail);obtain⟨w2,bb,e0,e1,XB,hb2⟩:=aO w1 #[.slice none 0 0,.map none,.slice none 0 0,.bool false] 202;rw[e0,e1];have hbb':w1.heap.size=bb:=e1;clear e0 e1 y0 y1 y2 y3
   have hbb:w.heap.size<=bb:=by have:=hal0.size;omega
   have hF:¬(kB=bb):=by have:=aB XK;omega
   replace XK:=keep XK hb2;have hB:=da XB;have hU:Upd (λk=>k=bb) (λk=>k=bb) w2 w2:=Upd.refl _ _;replace hal0:=hal0.trans (hb2.mono hal0.size);have hws:w.heap.size<=w2.heap.size:=hal0.size;have hkl:kB<w2.heap.size:=aB XK;clear hb2 XB hbb';obtain⟨y0,y1,y2,y3⟩:=cl4 XK
   obtain⟨hmay,hwho,hrp⟩:=hRP (by first|rfl|trivial)
   have htab:=fk hmay
   try simp only at htab
   by_cases cb:on<=t
   ·replace hR:Hid (R=(BS.zero.set 7 4).fin):=hR.out.trans (CI rfl hmb.out.symm cb)
    clear hmb;have cb':=cb;clear hRP cb;go_wp2_with fail
    refine(Z1 XK hF hkl hU (barA ⟨hn1,hn8⟩ ⟨hr0,hr1⟩ cb' hB (by simp<;>omega))).mono ?_
    clear y0 y1 y2 y3;rintro e wd ⟨rfl,F',hB,XK,hF,hkl,hU⟩;obtain⟨y0,y1,y2,y3⟩:=cl4 XK;have hal:=hal0.trans (hU.low _ (λk e=>by rw[e];exact hbb) hws)
    have hcb:=br hB ((aN _ _ aH)).1 (by simp<;>omega) ((aN _ _ aH)).2 (hI.below hal)
    rw[<-hR.out]at hcb;clear hR;go_wp2_with fail;refine hcb.mono ?_;rintro e w' ⟨⟨v,rfl,hv1,hv2⟩,hb'⟩;go_wp2;go_ret2;exact dE hal hv1 hv2 hb'
   ·by_cases cx:arg=on
    ·replace hR:Hid (R=(mg BS.zero on base).fin):=hR.out.trans (Dl rfl hmb.out.symm (by omega) cx)
     clear hmb
     have cb':t<on:=by omega
     have cx':Hid (arg=on):=cx;clear hRP cb cx;go_wp2_with fail
     refine(Z1 XK hF hkl hU (barM ⟨hn1,hn8⟩ ⟨hr0,hr1⟩ cb' cx'.out hB (by simp<;>omega))).mono ?_
     clear y0 y1 y2 y3;rintro e wd ⟨rfl,F',hB,XK,hF,hkl,hU⟩;obtain⟨y0,y1,y2,y3⟩:=cl4 XK;have hal:=hal0.trans (hU.low _ (λk e=>by rw[e];exact hbb) hws)
     have hcb:=br hB ((tK aH)).1 (by simp<;>omega) ((tK aH)).2 (hI.below hal)
     rw[<-hR.out]at hcb;clear hR;go_wp2_with fail;refine hcb.mono ?_;rintro e w' ⟨⟨v,rfl,hv1,hv2⟩,hb'⟩;go_wp2;go_ret2;exact dE hal hv1 hv2 hb'
    ·replace hR:Hid (R=(BS.zero.set 7 3).fin):=hR.out.trans (Da rfl hmb.out.symm (by omega) cx)
     clear hmb
     have cb':t<on:=by omega
     have cx':Hid (¬arg=on):=cx;clear hRP cb cx;go_wp2_with fail
     refine(Z1 XK hF hkl hU (barB ⟨hn1,hn8⟩ ⟨hr0,hr1⟩ cb' cx'.out hB (by simp<;>omega))).mono ?_
     clear y0 y1 y2 y3;rintro e wd ⟨rfl,F',hB,XK,hF,hkl,hU⟩;obtain⟨y0,y1,y2,y3⟩:=cl4 XK;have hal:=hal0.trans (hU.low _ (λk e=>by rw[e];exact hbb) hws)
     have hcb:=br hB ((aN _ _ aH)).1 (by simp<;>omega) ((aN _ _ aH)).2 (hI.below hal)
     rw[<-hR.out]at hcb;clear hR;go_wp2_with fail;refine hcb.mono ?_;rintro e w' ⟨⟨v,rfl,hv1,hv2⟩,hb'⟩;go_wp2;go_ret2;exact dE hal hv1 hv2 hb'
  ·by_cases k15:ok=15
   ·subst k15
    go_wp2_with fail;refine(hM W hal0).mono ?_;rintro e w1 ⟨rfl,hb1⟩;clear y0 y1 y2 y3 hM;replace XK:=keep XK hb1;replace hal0:=hal0.trans (hb1.mono hal0.size);clear hb1;obtain⟨y0,y1,y2,y3⟩:=cl4 XK;cases mb
    ·obtain rfl:R=([],false):=hR.out.trans (rX hmb.out.symm)
     clear hR hmb;go_wp2;go_ret2;exact⟨CodeR.no,hal0⟩
    go_upto_region 4 with(fail);obtain⟨w2,bb,e0,e1,XB,hb2⟩:=aO w1 #[.slice none 0 0,.map none,.slice none 0 0,.bool false] 202;rw[e0,e1];have hbb':w1.heap.size=bb:=e1;clear e0 e1 y0 y1 y2 y3
    have hbb:w.heap.size<=bb:=by have:=hal0.size;omega
    have hF:¬(kB=bb):=by have:=aB XK;omega
    replace XK:=keep XK hb2;have hB:=da XB;have hU:Upd (λk=>k=bb) (λk=>k=bb) w2 w2:=Upd.refl _ _;replace hal0:=hal0.trans (hb2.mono hal0.size);have hws:w.heap.size<=w2.heap.size:=hal0.size;have hkl:kB<w2.heap.size:=aB XK;clear hb2 XB hbb';obtain⟨y0,y1,y2,y3⟩:=cl4 XK
    obtain⟨hmay,hwho,hrp⟩:=hRP (by first|rfl|trivial)
    have htab:=fk hmay
    try simp only at htab
    by_cases c9:call=9
    ·subst c9
     replace hR:Hid (R=(kn BS.zero t base).fin):=hR.out.trans (CL rfl hmb.out.symm rfl);clear hmb;clear hRP;go_wp2_with fail
     refine(Z1 XK hF hkl hU (D8 hB (by simp<;>omega))).mono ?_
     clear y0 y1 y2 y3;rintro e wd ⟨rfl,F',hB,XK,hF,hkl,hU⟩;obtain⟨y0,y1,y2,y3⟩:=cl4 XK;have hal:=hal0.trans (hU.low _ (λk e=>by rw[e];exact hbb) hws)
     have hcb:=br hB ((qH aH)).1 (by simp<;>omega) ((qH aH)).2 (hI.below hal)
     rw[<-hR.out]at hcb;clear hR;go_wp2_with fail;refine hcb.mono ?_;rintro e w' ⟨⟨v,rfl,hv1,hv2⟩,hb'⟩;go_wp2;go_ret2;exact dE hal hv1 hv2 hb'
    ·have q9:(call == 9)=false:=by simp[c9]
     replace hR:Hid (R=(kk BS.zero t base).fin):=hR.out.trans (Dx rfl hmb.out.symm c9);clear hmb;clear hRP c9;go_wp2_with fail
     refine(Z1 XK hF hkl hU (Ea hB (by simp<;>omega))).mono ?_
     clear y0 y1 y2 y3;rintro e wd ⟨rfl,F',hB,XK,hF,hkl,hU⟩;obtain⟨y0,y1,y2,y3⟩:=cl4 XK;have hal:=hal0.trans (hU.low _ (λk e=>by rw[e];exact hbb) hws)
     have hcb:=br hB ((qN aH)).1 (by simp<;>omega) ((qN aH)).2 (hI.below hal)
     rw[<-hR.out]at hcb;clear hR;go_wp2_with fail;refine hcb.mono ?_;rintro e w' ⟨⟨v,rfl,hv1,hv2⟩,hb'⟩;go_wp2;go_ret2;exact dE hal hv1 hv2 hb'
   ·have q12:(ok == 12)=false:=by simp[k12]
    have q13:(ok == 13)=false:=by simp[k13]
    have q15:(ok == 15)=false:=by simp[k15]
    obtain rfl:R=([],false):=hR.out.trans (vV ⟨k12,k13,k15⟩);clear hR hmb k12 k13 k15 hRP;go_wp2_with fail;refine(hM W hal0).mono ?_;rintro e w1 ⟨rfl,hb1⟩;clear y0 y1 y2 y3 hM;replace XK:=keep XK hb1;replace hal0:=hal0.trans (hb1.mono hal0.size);clear hb1;obtain⟨y0,y1,y2,y3⟩:=cl4 XK;cases mb
    ·go_wp2
     go_ret2;exact⟨CodeR.no,hal0⟩
    go_upto_region 4 with(fail);obtain⟨w2,bb,e0,e1,XB,hb2⟩:=aO w1 #[.slice none 0 0,.map none,.slice none 0 0,.bool false] 202;rw[e0,e1];clear e0 e1 y0 y1 y2 y3;replace XK:=keep XK hb2;replace hal0:=hal0.trans (hb2.mono hal0.size);obtain⟨y0,y1,y2,y3⟩:=cl4 XK;go_wp2;go_ret2;exact⟨CodeR.no,hal0⟩
end
theorem mF{fn:Func}{R:Ending->World->Prop}{a:Act}{w:World}{c u:Tmp}(hr:fn.results=#[.cell c 214,.tmp u])(b:Nat)(cs:Array Value)(f:Value)(hd:a.defers=[])(hx:a.tmps.getD c undef=.pointer (some ⟨b,0,none⟩))(hok:a.tmps.getD u undef=f)
  (hg:w.heap[b]? = some (.cells cs 214 (0,0))) (hsz:cs.size=5) (hR:R (.returned (.tuple #[.agg cs,f])) w):bodyPost Tryz.prog fn R .ret a w:=by
 refine bodyPost_ret (v:=.tuple #[.agg cs,f]) ?_ hd hR
 have hi:(Tryz.prog.info? 214).map (·.size)=some cs.size:=by rw[hsz];kernel_rfl
 have hl:=run_loadVar_row (P:=Tryz.prog) w b 214 214 cs (0,0) _ hg Tryz.underlying214 rfl hi;rw[results_cell_tmp hr,hx,hok];simp only[asAddr,Sem.run_pure,Result.andThen_ok,hl]
def lq(o:O)(t base:Int):Array Value×Nat:=
 if o.k=6 then(if t=o.a then(#[.int .u32 base,.int .u32 ((base+1)%4294967296),.int .u32 ((base+2)%4294967296),.int .u32 ((base+3)%4294967296),.int .u32 1],187)
  else(#[.int .u32 ((base+1)%4294967296),.int .u32 base,.int .u32 ((base+2)%4294967296),.int .u32 ((base+3)%4294967296),.int .u32 0],187))
 else if t=o.a then(#[.int .u32 base,.int .u32 ((base+1)%4294967296),.int .u32 0,.int .u32 ((base+2)%4294967296),.int .u32 0],188)
 else(#[.int .u32 ((base+1)%4294967296),.int .u32 base,.int .u32 0,.int .u32 ((base+2)%4294967296),.int .u32 0],189)
theorem ls(o:O)(t base:Int)(w:World):Calls Tryz.prog 131 #[ov o,.int .i64 t,.int .u32 base] w λe w'=>e=.returned (.tuple #[.agg (lq o t base).1,.func (.func (lq o t base).2) #[] #[]])/\Below w.heap.size w w':=by
 obtain⟨ok,on,oa,ob⟩:=o;obtain⟨R,hR⟩:=Zh (lq ⟨ok,on,oa,ob⟩ t base);rw[<-hR.out];unfold ov
 by_cases k6:ok=6
 ·subst k6
  by_cases ha:t=oa
  ·have qa:(t == oa)=true:=by simp[ha]
   obtain rfl:R=(#[.int .u32 base,.int .u32 ((base+1)%4294967296),.int .u32 ((base+2)%4294967296),.int .u32 ((base+3)%4294967296),.int .u32 1],187):=hR.out.trans ((ag rfl).trans (ag ha));clear hR ha;go_enter Tryz.func131,Tryz.ntmps131;go_upto_region 1 with(fail);obtain⟨W,b3,b6,e0,e1,e2,X3,X6,hal⟩:=lW w #[.int .i64 6,.int .i64 on,.int .i64 oa,.int .i64 ob] #[.int .u32 0,.int .u32 0,.int .u32 0,.int .u32 0,.int .u32 0] 43 214;rw[e0,e2,e1]
   have z6:w.heap.size<=b6:=by omega
   clear e0 e1 e2;obtain⟨y0,y1,y2,y3⟩:=cl4 X3;go_upto_region 2 with(fail);clear y0 y1 y2 y3;refine ab ?_
   iterate 7 refine Zv ?_
   refine aG rfl (.agg #[.int .u32 base,.int .u32 ((base+1)%4294967296),.int .u32 ((base+2)%4294967296),.int .u32 ((base+3)%4294967296),.int .u32 1]) ?_ ?_
   ·go_simp;try (simp only[IntKind.wrap_u32]);try simp
   refine Zk ?_;refine Zo 214 b6 #[.int .u32 base,.int .u32 ((base+1)%4294967296),.int .u32 ((base+2)%4294967296),.int .u32 ((base+3)%4294967296),.int .u32 1] X6 (λwe m1 m2 m3 m4=>?_);refine aG rfl (.func (.func 187) #[] #[]) ?_ ?_
   ·go_simp;try rfl
   refine Zk ?_;go_wp2;exact mF rfl b6 _ _ rfl rfl rfl m1 rfl ⟨rfl,hal.trans (m3 _ z6)⟩
  ·have qa:(t == oa)=false:=by simp[ha]
   obtain rfl:R=(#[.int .u32 ((base+1)%4294967296),.int .u32 base,.int .u32 ((base+2)%4294967296),.int .u32 ((base+3)%4294967296),.int .u32 0],187):=hR.out.trans ((ag rfl).trans (af ha));clear hR ha;go_enter Tryz.func131,Tryz.ntmps131;go_upto_region 1 with(fail);obtain⟨W,b3,b6,e0,e1,e2,X3,X6,hal⟩:=lW w #[.int .i64 6,.int .i64 on,.int .i64 oa,.int .i64 ob] #[.int .u32 0,.int .u32 0,.int .u32 0,.int .u32 0,.int .u32 0] 43 214;rw[e0,e2,e1]
   have z6:w.heap.size<=b6:=by omega
   clear e0 e1 e2;obtain⟨y0,y1,y2,y3⟩:=cl4 X3;go_upto_region 4 with(fail);clear y0 y1 y2 y3;refine ab ?_
   iterate 7 refine Zv ?_
   refine aG rfl (.agg #[.int .u32 ((base+1)%4294967296),.int .u32 base,.int .u32 ((base+2)%4294967296),.int .u32 ((base+3)%4294967296),.int .u32 0]) ?_ ?_
   ·go_simp;try (simp only[IntKind.wrap_u32]);try simp
   refine Zk ?_;refine Zo 214 b6 #[.int .u32 ((base+1)%4294967296),.int .u32 base,.int .u32 ((base+2)%4294967296),.int .u32 ((base+3)%4294967296),.int .u32 0] X6 (λwe m1 m2 m3 m4=>?_);refine aG rfl (.func (.func 187) #[] #[]) ?_ ?_
   ·go_simp;try rfl
   refine Zk ?_;go_wp2;exact mF rfl b6 _ _ rfl rfl rfl m1 rfl ⟨rfl,hal.trans (m3 _ z6)⟩
 ·by_cases ha:t=oa
  ·have qk:(ok == 6)=false:=by simp[k6]
   have qa:(t == oa)=true:=by simp[ha]
   obtain rfl:R=(#[.int .u32 base,.int .u32 ((base+1)%4294967296),.int .u32 0,.int .u32 ((base+2)%4294967296),.int .u32 0],188):=hR.out.trans ((af k6).trans (ag ha));clear hR ha k6;go_enter Tryz.func131,Tryz.ntmps131;go_upto_region 1 with(fail);obtain⟨W,b3,b6,e0,e1,e2,X3,X6,hal⟩:=lW w #[.int .i64 ok,.int .i64 on,.int .i64 oa,.int .i64 ob] #[.int .u32 0,.int .u32 0,.int .u32 0,.int .u32 0,.int .u32 0] 43 214;rw[e0,e2,e1]
   have z6:w.heap.size<=b6:=by omega
   clear e0 e1 e2;obtain⟨y0,y1,y2,y3⟩:=cl4 X3;go_upto_region 6 with(fail);clear y0 y1 y2 y3;refine ab ?_
   iterate 5 refine Zv ?_
   refine aG rfl (.agg #[.int .u32 base,.int .u32 ((base+1)%4294967296),.int .u32 0,.int .u32 ((base+2)%4294967296),.int .u32 0]) ?_ ?_
   ·go_simp;try (simp only[IntKind.wrap_u32]);try simp
   refine Zk ?_;refine Zo 214 b6 #[.int .u32 base,.int .u32 ((base+1)%4294967296),.int .u32 0,.int .u32 ((base+2)%4294967296),.int .u32 0] X6 (λwe m1 m2 m3 m4=>?_);refine aG rfl (.func (.func 188) #[] #[]) ?_ ?_
   ·go_simp;try rfl
   refine Zk ?_;go_wp2;exact mF rfl b6 _ _ rfl rfl rfl m1 rfl ⟨rfl,hal.trans (m3 _ z6)⟩
  ·have qk:(ok == 6)=false:=by simp[k6]
   have qa:(t == oa)=false:=by simp[ha]
   obtain rfl:R=(#[.int .u32 ((base+1)%4294967296),.int .u32 base,.int .u32 0,.int .u32 ((base+2)%4294967296),.int .u32 0],189):=hR.out.trans ((af k6).trans (af ha));clear hR ha k6;go_enter Tryz.func131,Tryz.ntmps131;go_upto_region 1 with(fail);obtain⟨W,b3,b6,e0,e1,e2,X3,X6,hal⟩:=lW w #[.int .i64 ok,.int .i64 on,.int .i64 oa,.int .i64 ob] #[.int .u32 0,.int .u32 0,.int .u32 0,.int .u32 0,.int .u32 0] 43 214;rw[e0,e2,e1]
   have z6:w.heap.size<=b6:=by omega
   clear e0 e1 e2;obtain⟨y0,y1,y2,y3⟩:=cl4 X3;go_upto_region 7 with(fail);clear y0 y1 y2 y3;refine ab ?_
   iterate 5 refine Zv ?_
   refine aG rfl (.agg #[.int .u32 ((base+1)%4294967296),.int .u32 base,.int .u32 0,.int .u32 ((base+2)%4294967296),.int .u32 0]) ?_ ?_
   ·go_simp;try (simp only[IntKind.wrap_u32]);try simp
   refine Zk ?_;refine Zo 214 b6 #[.int .u32 ((base+1)%4294967296),.int .u32 base,.int .u32 0,.int .u32 ((base+2)%4294967296),.int .u32 0] X6 (λwe m1 m2 m3 m4=>?_);refine aG rfl (.func (.func 189) #[] #[]) ?_ ?_
   ·go_simp;try rfl
   refine Zk ?_;go_wp2;exact mF rfl b6 _ _ rfl rfl rfl m1 rfl ⟨rfl,hal.trans (m3 _ z6)⟩
end Go.Proofs.YtldlcnaphednnaaGreatDoor
