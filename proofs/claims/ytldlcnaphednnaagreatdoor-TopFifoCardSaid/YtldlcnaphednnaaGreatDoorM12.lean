/- The code of biased locks. A client in memory: lists of objects, of numbers, of ops; the client's value. Which op may be: the program's answer. -/
import Derived.Test.YtldlcnaphednnaaGreatDoorM11
import Derived.Test.YtldlcnaphednnaaGreatDoorM07
set_option maxRecDepth 100000
set_option maxHeartbeats 32000000
set_option linter.unusedVariables false
set_option linter.unusedSimpArgs false
namespace Go.Proofs.YtldlcnaphednnaaGreatDoor
open Go.RowKit Go.Maps
section
attribute [local simp] fL ft dD cN fN cL df dZ dr dj gD gz gA gy gQ eQ cH gE gV iZ gB dz iI dA dy dV dq iz ge dX eO dC dx eh iL cU dh dR fV fh fT dP dO fP iT dB eW fE cj ee iD iR dW
def GT(k j:Nat):Bool:=decide (k=9/\1<=j/\j<=4) || decide (k=12/\5<=j/\j<=8) || decide (k=13/\j=9) || decide (k=14/\1<=j/\j<=3) || decide (k=15/\(j=9\/j=10)) || decide (((1<=k/\k<=8)\/k=10\/k=11)/\(j=1\/j=2))
theorem ya:∀k,k<16->(gx k).all (GT k)=true:=by decide +kernel
theorem fk{k b:Int}(h:may k b=true):(k=9/\1<=b/\b<=4)\/(k=12/\5<=b/\b<=8)\/(k=13/\b=9)\/(k=14/\1<=b/\b<=3)\/(k=15/\(b=9\/b=10))\/(((1<=k/\k<=8)\/k=10\/k=11)/\(b=1\/b=2)):=by
 unfold may at h;rw[List.any_eq_true]at h;obtain⟨j,hj,e⟩:=h
 have e':(j:Int)=b:=by simpa using e
 have hk:1<=k/\k<=15:=by
  by_cases hk:1<=k/\k<=15
  ·exact hk
  ·unfold kdN at hj;rw[af hk]at hj;cases hj
 have ek:kdN k=k.toNat:=ag hk;have ht:=List.all_eq_true.1 (ya _ (vb k)) j hj;unfold GT at ht;simp only[Bool.or_eq_true,decide_eq_true_eq]at ht;rw[ek]at ht;omega
theorem jz{o:O}{c t u:Int}(h:a8 o c t u=true):may o.k c=true/\(0<=u/\u<t)/\RP o t:=by
 unfold a8 at h
 split at h
 ·rename_i hh
  exact⟨h,⟨hh.1,hh.2.1⟩,of_decide_eq_true hh.2.2⟩
 ·cases h
def gP(o:O)(call th t base arg:Int):List Ins×Bool:=
 if o.k=8 then(if a8 o call th t=true then(if call=1 then(if t=o.a then(aI (iU (aW BS.zero ((base+3)%4294967296) t) base)).fin else(aI (ko (aW BS.zero ((base+3)%4294967296) t) base)).fin) else(if t=o.a then(aI (ky (aS BS.zero ((base+3)%4294967296) t) base)).fin else(aI (cE (cE (aS BS.zero ((base+3)%4294967296) t) ((base+3)%4294967296)) ((base+2)%4294967296))).fin)) else([],false)) else(([],false))
theorem wl{o:O}{call th t base arg:Int}(h:o.k≠8):gP o call th t base arg=([],false):=by unfold gP;rw[af (show ¬o.k=8 by omega)]
theorem Dh{o:O}{call th t base arg:Int}(h:a8 o call th t=false):gP o call th t base arg=([],false):=by
 unfold gP;rw[h];simp only[Bool.false_eq_true,if_false,ite_self]
theorem BR{o:O}{call th t base arg:Int}(k:o.k=8)(h:a8 o call th t=true)(c0:(call=1))(c1:(t=o.a)):gP o call th t base arg=(aI (iU (aW BS.zero ((base+3)%4294967296) t) base)).fin:=by unfold gP;rw[ag k,ag h,ag c0,ag c1]
theorem BX{o:O}{call th t base arg:Int}(k:o.k=8)(h:a8 o call th t=true)(c0:(call=1))(c1:¬(t=o.a)):gP o call th t base arg=(aI (ko (aW BS.zero ((base+3)%4294967296) t) base)).fin:=by unfold gP;rw[ag k,ag h,ag c0,af c1]
theorem Dm{o:O}{call th t base arg:Int}(k:o.k=8)(h:a8 o call th t=true)(c0:¬(call=1))(c1:(t=o.a)):gP o call th t base arg=(aI (ky (aS BS.zero ((base+3)%4294967296) t) base)).fin:=by unfold gP;rw[ag k,ag h,af c0,ag c1]
theorem BF{o:O}{call th t base arg:Int}(k:o.k=8)(h:a8 o call th t=true)(c0:¬(call=1))(c1:¬(t=o.a)):gP o call th t base arg=(aI (cE (cE (aS BS.zero ((base+3)%4294967296) t) ((base+3)%4294967296)) ((base+2)%4294967296))).fin:=by unfold gP;rw[ag k,ag h,af c0,af c1]
theorem yI(o:O)(call th t base arg:Int)(w:World)(hN:NmW w)(hI:IsaW w):Calls Tryz.prog 89 #[ov o,.int .i64 call,.int .i64 th,.int .i64 t,.int .u32 base,.int .u32 arg] w λe w'=>CodeR w w' (gP o call th t base arg) e/\Below w.heap.size w w':=by
 obtain⟨R,hR⟩:=Zh (gP o call th t base arg);rw[<-hR.out];have hM:=λw' (hb:Below w.heap.size w w')=>i4 o call th t w' (hN.below hb);have hRP:=λh=>(jz (o:=o) (c:=call) (t:=th) (u:=t) h);obtain⟨mb,hmb⟩:=Zh (a8 o call th t);rw[<-hmb.out]at hM hRP;obtain⟨ok,on,oa,ob⟩:=o;unfold ov at hM ⊢;simp only at hRP;go_enter Tryz.func89,Tryz.ntmps89;go_upto_region 1 with(fail);obtain⟨W,kB,e0,e1,XK,hal0⟩:=aO w #[.int .i64 ok,.int .i64 on,.int .i64 oa,.int .i64 ob] 43;rw[e0,e1];have hkw:w.heap.size<=kB:=aD e1;clear e0 e1;obtain⟨y0,y1,y2,y3⟩:=cl4 XK
 by_cases k8:ok=8
 ·subst k8
  go_wp2_with fail;refine(hM W hal0).mono ?_;rintro e w1 ⟨rfl,hb1⟩;clear y0 y1 y2 y3 hM;replace XK:=keep XK hb1;replace hal0:=hal0.trans (hb1.mono hal0.size);clear hb1;obtain⟨y0,y1,y2,y3⟩:=cl4 XK;cases mb
  ·obtain rfl:R=([],false):=hR.out.trans (Dh hmb.out.symm)
   clear hR hmb;go_wp2;go_ret2;exact⟨CodeR.no,hal0⟩
  go_upto_region 7 with(fail);obtain⟨w2,bb,e0,e1,XB,hb2⟩:=aO w1 #[.slice none 0 0,.map none,.slice none 0 0,.bool false] 202;rw[e0,e1];have hbb':w1.heap.size=bb:=e1;clear e0 e1 y0 y1 y2 y3
  have hbb:w.heap.size<=bb:=by have:=hal0.size;omega
  have hF:¬(kB=bb):=by have:=aB XK;omega
  replace XK:=keep XK hb2;have hB:=da XB;have hU:Upd (λk=>k=bb) (λk=>k=bb) w2 w2:=Upd.refl _ _;replace hal0:=hal0.trans (hb2.mono hal0.size);have hws:w.heap.size<=w2.heap.size:=hal0.size;have hkl:kB<w2.heap.size:=aB XK;clear hb2 XB hbb';obtain⟨y0,y1,y2,y3⟩:=cl4 XK
  obtain⟨hmay,hwho,hrp⟩:=hRP (by first|rfl|trivial)
  have htab:=fk hmay
  try simp only at htab
  by_cases c1:call=1
  ·subst c1
   by_cases ta:t=oa
   ·have qa:(t == oa)=true:=by simp[ta]
    replace hR:Hid (R=(aI (iU (aW BS.zero ((base+3)%4294967296) t) base)).fin):=hR.out.trans (BR rfl hmb.out.symm rfl ta);clear hmb;clear hRP ta;go_wp2_with fail
    refine(Z1 XK hF hkl hU (gX hB (by simp<;>omega))).mono ?_
    clear y0 y1 y2 y3;rintro e wd ⟨rfl,F',hB,XK,hF,hkl,hU⟩;obtain⟨y0,y1,y2,y3⟩:=cl4 XK;go_wp2_with fail
    refine(Z1 XK hF hkl hU (Cc hB (by simp<;>omega))).mono ?_
    clear y0 y1 y2 y3;rintro e wd ⟨rfl,F',hB,XK,hF,hkl,hU⟩;obtain⟨y0,y1,y2,y3⟩:=cl4 XK;go_wp2_with fail
    refine(Z1 XK hF hkl hU (be hB (by simp<;>omega))).mono ?_
    clear y0 y1 y2 y3;rintro e wd ⟨rfl,F',hB,XK,hF,hkl,hU⟩;obtain⟨y0,y1,y2,y3⟩:=cl4 XK;have hal:=hal0.trans (hU.low _ (λk e=>by rw[e];exact hbb) hws)
    have hcb:=br hB ((aF (pz (aX aH)))).1 (by simp<;>omega) ((aF (pz (aX aH)))).2 (hI.below hal)
    rw[<-hR.out]at hcb;clear hR;go_wp2_with fail;refine hcb.mono ?_;rintro e w' ⟨⟨v,rfl,hv1,hv2⟩,hb'⟩;go_wp2;go_ret2;exact dE hal hv1 hv2 hb'
   ·have qa:(t == oa)=false:=by simp[ta]
    replace hR:Hid (R=(aI (ko (aW BS.zero ((base+3)%4294967296) t) base)).fin):=hR.out.trans (BX rfl hmb.out.symm rfl ta);clear hmb;clear hRP ta;go_wp2_with fail
    refine(Z1 XK hF hkl hU (gX hB (by simp<;>omega))).mono ?_
    clear y0 y1 y2 y3;rintro e wd ⟨rfl,F',hB,XK,hF,hkl,hU⟩;obtain⟨y0,y1,y2,y3⟩:=cl4 XK;go_wp2_with fail
    refine(Z1 XK hF hkl hU (EJ hB (by simp<;>omega))).mono ?_
    clear y0 y1 y2 y3;rintro e wd ⟨rfl,F',hB,XK,hF,hkl,hU⟩;obtain⟨y0,y1,y2,y3⟩:=cl4 XK;go_wp2_with fail
    refine(Z1 XK hF hkl hU (be hB (by simp<;>omega))).mono ?_
    clear y0 y1 y2 y3;rintro e wd ⟨rfl,F',hB,XK,hF,hkl,hU⟩;obtain⟨y0,y1,y2,y3⟩:=cl4 XK;have hal:=hal0.trans (hU.low _ (λk e=>by rw[e];exact hbb) hws)
    have hcb:=br hB ((aF (qG (aX aH)))).1 (by simp<;>omega) ((aF (qG (aX aH)))).2 (hI.below hal)
    rw[<-hR.out]at hcb;clear hR;go_wp2_with fail;refine hcb.mono ?_;rintro e w' ⟨⟨v,rfl,hv1,hv2⟩,hb'⟩;go_wp2;go_ret2;exact dE hal hv1 hv2 hb'
  ·have q1:(call == 1)=false:=by simp[c1]
   by_cases ta:t=oa
   ·have qa:(t == oa)=true:=by simp[ta]
    replace hR:Hid (R=(aI (ky (aS BS.zero ((base+3)%4294967296) t) base)).fin):=hR.out.trans (Dm rfl hmb.out.symm c1 ta);clear hmb;clear hRP c1 ta;go_wp2_with fail
    refine(Z1 XK hF hkl hU (gw hB (by simp<;>omega))).mono ?_
    clear y0 y1 y2 y3;rintro e wd ⟨rfl,F',hB,XK,hF,hkl,hU⟩;obtain⟨y0,y1,y2,y3⟩:=cl4 XK;go_wp2_with fail
    refine(Z1 XK hF hkl hU (Ez hB (by simp<;>omega))).mono ?_
    clear y0 y1 y2 y3;rintro e wd ⟨rfl,F',hB,XK,hF,hkl,hU⟩;obtain⟨y0,y1,y2,y3⟩:=cl4 XK;go_wp2_with fail
    refine(Z1 XK hF hkl hU (be hB (by simp<;>omega))).mono ?_
    clear y0 y1 y2 y3;rintro e wd ⟨rfl,F',hB,XK,hF,hkl,hU⟩;obtain⟨y0,y1,y2,y3⟩:=cl4 XK;have hal:=hal0.trans (hU.low _ (λk e=>by rw[e];exact hbb) hws)
    have hcb:=br hB ((aF (qJ (aU aH)))).1 (by simp<;>omega) ((aF (qJ (aU aH)))).2 (hI.below hal)
    rw[<-hR.out]at hcb;clear hR;go_wp2_with fail;refine hcb.mono ?_;rintro e w' ⟨⟨v,rfl,hv1,hv2⟩,hb'⟩;go_wp2;go_ret2;exact dE hal hv1 hv2 hb'
   ·have qa:(t == oa)=false:=by simp[ta]
    replace hR:Hid (R=(aI (cE (cE (aS BS.zero ((base+3)%4294967296) t) ((base+3)%4294967296)) ((base+2)%4294967296))).fin):=hR.out.trans (BF rfl hmb.out.symm c1 ta);clear hmb;clear hRP c1 ta;go_wp2_with fail
    refine(Z1 XK hF hkl hU (gw hB (by simp<;>omega))).mono ?_
    clear y0 y1 y2 y3;rintro e wd ⟨rfl,F',hB,XK,hF,hkl,hU⟩;obtain⟨y0,y1,y2,y3⟩:=cl4 XK;go_wp2_with fail
    refine(Z1 XK hF hkl hU (gL hB (by simp<;>omega))).mono ?_
    clear y0 y1 y2 y3;rintro e wd ⟨rfl,F',hB,XK,hF,hkl,hU⟩;obtain⟨y0,y1,y2,y3⟩:=cl4 XK;go_wp2_with fail
    refine(Z1 XK hF hkl hU (gL hB (by simp<;>omega))).mono ?_
    clear y0 y1 y2 y3;rintro e wd ⟨rfl,F',hB,XK,hF,hkl,hU⟩;obtain⟨y0,y1,y2,y3⟩:=cl4 XK;go_wp2_with fail
    refine(Z1 XK hF hkl hU (be hB (by simp<;>omega))).mono ?_
    clear y0 y1 y2 y3;rintro e wd ⟨rfl,F',hB,XK,hF,hkl,hU⟩;obtain⟨y0,y1,y2,y3⟩:=cl4 XK;have hal:=hal0.trans (hU.low _ (λk e=>by rw[e];exact hbb) hws)
    have hcb:=br hB ((aF (bj (bj (aU aH))))).1 (by simp<;>omega) ((aF (bj (bj (aU aH))))).2 (hI.below hal)
    rw[<-hR.out]at hcb;clear hR;go_wp2_with fail;refine hcb.mono ?_;rintro e w' ⟨⟨v,rfl,hv1,hv2⟩,hb'⟩;go_wp2;go_ret2;exact dE hal hv1 hv2 hb'
 ·have q8:(ok != 8)=true:=by simp[k8]
  obtain rfl:R=([],false):=hR.out.trans (wl k8);clear hR hmb k8;go_wp2;go_ret2;exact⟨CodeR.no,hal0⟩
end
end Go.Proofs.YtldlcnaphednnaaGreatDoor
namespace Go.Proofs.YtldlcnaphednnaaGreatDoor
open Go.RowKit
section
variable {ops:Array Oper} {Q:Exit->Act->World->Prop}
end
section
variable {ops:Array Oper} {Q:Exit->Act->World->Prop}
end
section
variable {ops:Array Oper} {Q:Exit->Act->World->Prop}
end
structure X where
 k:Int
 a:Int
 b:Int
 K:Int
def xv(x:X):Value:=.agg #[.int .i64 x.k,.int .i64 x.a,.int .i64 x.b,.int .u32 x.K]
def Ops(w:World)(A:Option Addr)(n:Nat)(f:Nat->X):Prop:=
 0<n->∃b off,A=some ⟨b,off,none⟩/\b<w.heap.size/\∀i,i<n->w.cell? ⟨b,off+i * 4,none⟩=some (.int .i64 (f i).k)/\w.cell? ⟨b,off+i * 4+1,none⟩=some (.int .i64 (f i).a)/\w.cell? ⟨b,off+i * 4+2,none⟩=some (.int .i64 (f i).b)/\w.cell? ⟨b,off+i * 4+3,none⟩=some (.int .u32 (f i).K)
theorem Ops.below{w w':World}{A:Option Addr}{n:Nat}{f:Nat->X}(h:Ops w A n f)(hb:Below w.heap.size w w'):Ops w' A n f:=λhn=>by
 obtain⟨b,off,e,hlt,hc⟩:=h hn;refine⟨b,off,e,aA hlt hb.size,λi hi=>?_⟩;rw[hb.cell (p:=⟨b,off+i * 4,none⟩) hlt,hb.cell (p:=⟨b,off+i * 4+1,none⟩) hlt,hb.cell (p:=⟨b,off+i * 4+2,none⟩) hlt,hb.cell (p:=⟨b,off+i * 4+3,none⟩) hlt];exact hc i hi
theorem rA{w:World}{A:Option Addr}{n:Nat}{f:Nat->X}(h:Ops w A n f)(hn:0<n):∃b off,A=some ⟨b,off,none⟩:=by
 obtain⟨b,off,e,_⟩:=h hn;exact⟨b,off,e⟩
theorem Gj{w:World}{b off n:Nat}{f:Nat->X}{i:Nat}(h:Ops w (some ⟨b,off,none⟩) n f)(hi:i<n):
  w.cell? ⟨b,off+i * 4,none⟩=some (.int .i64 (f i).k)/\w.cell? ⟨b,off+i * 4+1,none⟩=some (.int .i64 (f i).a)/\w.cell? ⟨b,off+i * 4+2,none⟩=some (.int .i64 (f i).b)/\w.cell? ⟨b,off+i * 4+3,none⟩=some (.int .u32 (f i).K):=by
 obtain⟨b',off',e,hlt,hc⟩:=h (by omega);cases e;exact hc i hi
theorem pd{o:Oper}{a:Act}{w w0:World}{n:Nat}{f:Nat->X}(y:Operand)(ho:o.op=.load 49 y)(b off i:Nat)(hA0:Ops w0 (some ⟨b,off,none⟩) n f)(hb:Below w0.heap.size w0 w)(hi:i<n)(hx:a.eval y=.pointer (some ⟨b,off+i * 4,none⟩)):(execOp a.eval o).run Tryz.prog w=.ok (.value (xv (f i))) w:=by
 obtain⟨h0,h1,h2,h3⟩:=Gj (hA0.below hb) hi
 have hl:(loadCells ⟨b,off+i * 4,none⟩ 4).run Tryz.prog w=.ok #[.int .i64 (f i).k,.int .i64 (f i).a,.int .i64 (f i).b,.int .u32 (f i).K] w:=by
  have:=run_loadCells_list (P:=Tryz.prog) w ⟨b,off+i * 4,none⟩ [.int .i64 (f i).k,.int .i64 (f i).a,.int .i64 (f i).b,.int .u32 (f i).K] (λj v hv=>by
   rw[bX]
   match j,hv with
   | 0,hv=>simp at hv;rw[<-hv];exact h0
   | 1,hv=>simp at hv;rw[<-hv];exact h1
   | 2,hv=>simp at hv;rw[<-hv];exact h2
   | 3,hv=>simp at hv;rw[<-hv];exact h3
   | j+4,hv=>simp at hv)
  exact this
 have e1:=Tryz.isAgg49;have e2:=Tryz.sizeOf49;unfold execOp;simp only[ho,hx,Instr.loadAt,Instr.sureAddr,Sem.run_bind,Sem.run_pure,Result.andThen_ok];unfold loadVar;simp only[Sem.run_bind,e1,e2,Result.andThen_ok,if_true,hl,Sem.run_pure];rfl
theorem Bk{w:World}{b off n:Nat}{f:Nat->O}{i:Nat}(h:Objs w (some ⟨b,off,none⟩) n f)(hi:i<n):
  w.cell? ⟨b,off+i * 4,none⟩=some (.int .i64 (f i).k)/\w.cell? ⟨b,off+i * 4+1,none⟩=some (.int .i64 (f i).n)/\w.cell? ⟨b,off+i * 4+2,none⟩=some (.int .i64 (f i).a)/\w.cell? ⟨b,off+i * 4+3,none⟩=some (.int .i64 (f i).b):=by
 obtain⟨b',off',e,hlt,hc⟩:=h (by omega);cases e;exact hc i hi
def Thr(w:World)(A:Option Addr)(n:Nat)(tp:Nat->Option Addr)(len tc:Nat->Nat):Prop:=
 0<n->∃b off,A=some ⟨b,off,none⟩/\b<w.heap.size/\∀i,i<n->w.cell? ⟨b,off+i,none⟩=some (.slice (tp i) (len i) (tc i))
theorem Thr.below{w w':World}{A:Option Addr}{n:Nat}{tp:Nat->Option Addr}{len tc:Nat->Nat}(h:Thr w A n tp len tc)(hb:Below w.heap.size w w'):Thr w' A n tp len tc:=λhn=>by
 obtain⟨b,off,e,hlt,hc⟩:=h hn;exact⟨b,off,e,aA hlt hb.size,λi hi=>(hb.cell (p:=⟨b,off+i,none⟩) hlt).trans (hc i hi)⟩
theorem oC{w:World}{A:Option Addr}{n:Nat}{tp:Nat->Option Addr}{len tc:Nat->Nat}(h:Thr w A n tp len tc)(hn:0<n):∃b off,A=some ⟨b,off,none⟩:=by
 obtain⟨b,off,e,_⟩:=h hn;exact⟨b,off,e⟩
theorem o7{w:World}{b off n:Nat}{tp:Nat->Option Addr}{len tc:Nat->Nat}{i:Nat}(h:Thr w (some ⟨b,off,none⟩) n tp len tc)(hi:i<n):w.cell? ⟨b,off+i,none⟩=some (.slice (tp i) (len i) (tc i)):=by
 obtain⟨b',off',e,hlt,hc⟩:=h (by omega);cases e;exact hc i hi
structure Cl where
 A:Option Addr
 no:Nat
 ca:Nat
 f:Nat->O
 vars:Int
 W:Option Addr
 nw:Nat
 cw:Nat
 own:Nat->Int
 room:Int
 T:Option Addr
 nt:Nat
 ct:Nat
 tp:Nat->Option Addr
 len:Nat->Nat
 tc:Nat->Nat
 op:Nat->Nat->X
def Cl.v(C:Cl):Value:=.agg #[.slice C.A C.no C.ca,.int .i64 C.vars,.slice C.W C.nw C.cw,.int .i64 C.room,.slice C.T C.nt C.ct]
structure MemC(w:World)(C:Cl):Prop where
 objs:Objs w C.A C.no C.f
 own:IntsF w C.W C.nw C.own
 thr:Thr w C.T C.nt C.tp C.len C.tc
 ops:∀t,t<C.nt->Ops w (C.tp t) (C.len t) (C.op t)
 ho:C.no<=C.ca
 hw:C.nw<=C.cw
 ht:C.nt<=C.ct
 hl:∀t,t<C.nt->C.len t<=C.tc t
 hN:∀i,i<C.no->-9223372036854775808<=(C.f i).n/\(C.f i).n<=9223372036854775807
 hK:∀t i,t<C.nt->i<C.len t->0<=(C.op t i).K/\(C.op t i).K<4294967296
theorem MemC.below{w w':World}{C:Cl}(h:MemC w C)(hb:Below w.heap.size w w'):MemC w' C:=
 ⟨h.objs.below hb,h.own.below hb,h.thr.below hb,λt ht=>(h.ops t ht).below hb,h.ho,h.hw,h.ht,h.hl,h.hN,h.hK⟩
theorem bW(n m:Int)(w:World):Calls Tryz.prog 73 #[.int .i64 n,.int .i64 m] w λe w'=>e=.returned (.bool (decide (0<=n/\n<m)))/\w'=w:=by
 by_cases h1:0<=n
 ·by_cases h2:n<m
  ·rw[ay (⟨h1,h2⟩:0<=n/\n<m)]
   go_enter Tryz.func73,Tryz.ntmps73;go_wp2;go_ret;exact⟨rfl,rfl⟩
  ·rw[az (λh=>h2 h.2:¬(0<=n/\n<m))]
   go_enter Tryz.func73,Tryz.ntmps73;go_wp2;go_ret;exact⟨rfl,rfl⟩
 ·rw[az (λh=>h1 h.1:¬(0<=n/\n<m))]
  go_enter Tryz.func73,Tryz.ntmps73;go_wp2;go_ret;exact⟨rfl,rfl⟩
def z9(o:O)(x:X):Bool:=if x.b=4 then decide (0<o.n) && decide (x.K<o.n) else o.k == 13 || x.K == 0
def px(C:Cl)(x:X):Bool:=if 0<=x.a/\x.a<C.no then may (C.f x.a.toNat).k x.b && z9 (C.f x.a.toNat) x else false
def qg(n:Int):Bool:=decide (0<=n/\n<4)
def rgt(C:Cl)(x:X):Bool:=
 if x.k=1 then qg x.a && x.b == 0
 else if x.k=2 then qg x.a && qg x.b && x.K == 0
 else if x.k=3\/x.k=4 then qg x.a && decide (0<=x.b/\x.b<C.vars) && x.K == 0
 else if x.k=5 then qg x.a && x.b == 0 && x.K == 0
 else if x.k=6 then x.a == 0 && x.b == 0 && x.K == 0
 else if x.k=7 then px C x
 else false

theorem Fc(C:Cl)(x:X)(hx:0<=x.K/\x.K<4294967296)(w:World)(hM:MemC w C)(hN:NmW w):Calls Tryz.prog 74 #[C.v,xv x] w λe w'=>e=.returned (.bool (px C x))/\Below w.heap.size w w':=by
 obtain⟨k,a,b,K⟩:=x
 by_cases hin:0<=a/\a<C.no
 case neg=>
  have hal:=((ak w.heap.size w).alloc (ah _) (.cells #[.slice C.A C.no C.ca,.int .i64 C.vars,.slice C.W C.nw C.cw,.int .i64 C.room,.slice C.T C.nt C.ct] 26)).alloc (by simp) (.cells #[.int .i64 k,.int .i64 a,.int .i64 b,.int .u32 K] 49);rw[show px C ⟨k,a,b,K⟩=false from af hin];unfold Cl.v xv;go_enter Tryz.func74,Tryz.ntmps74;go_wp2_with fail;refine(bW _ _ _).mono ?_;rintro e w1 ⟨rfl,rfl⟩;rw[az hin];go_wp2;go_ret;exact⟨rfl,hal⟩
 rw[show px C ⟨k,a,b,K⟩=(may (C.f a.toNat).k b && z9 (C.f a.toNat) ⟨k,a,b,K⟩) from ag hin];obtain⟨i,rfl⟩:∃i:Nat,a=i:=⟨a.toNat,by omega⟩;rw[Int.toNat_natCast]
 have hi:i<C.no:=by omega
 have hl0:(0:Int)<=i:=by omega
 have hl1:(i:Int)<C.no:=by omega
 obtain⟨bA,oA,eA⟩:=lp hM.objs (by omega);have hA:=hM.objs;rw[eA]at hA;have hNi:=hM.hN i hi;unfold Cl.v xv;rw[eA];obtain⟨res,hres⟩:∃B,Hid ((may (C.f i).k b && z9 (C.f i) ⟨k,i,b,K⟩)=B):=⟨_,rfl⟩;rw[hres.out];go_enter Tryz.func74,Tryz.ntmps74;go_wp2_with fail;refine(bW _ _ _).mono ?_;rintro e w1 ⟨rfl,rfl⟩;rw[ay hin];go_upto_region 3 with(fail);obtain⟨W,b1,b2,e0,e1,e2,X1,X2,hal⟩:=lW w #[.slice (some ⟨bA,oA,none⟩) C.no C.ca,.int .i64 C.vars,.slice C.W C.nw C.cw,.int .i64 C.room,.slice C.T C.nt C.ct] #[.int .i64 k,.int .i64 i,.int .i64 b,.int .u32 K] 26 49;rw[e0,e2,e1];clear e0 e2 e1;have y10:=ae W b1 0 _ 26 _ X1;have y21:=ae W b2 1 _ 49 _ X2;refine ab ?_
 iterate 4 refine Zv ?_
 refine aG rfl (.pointer (some ⟨bA,oA+i * 4,none⟩)) ?_ ?_
 ·go_simp
 refine Zk ?_;refine Zu (ov (C.f i)) (j8 (.tmp 19) rfl bA oA i hA hal hi rfl) ?_;refine Za 43 #[.int .i64 0,.int .i64 0,.int .i64 0,.int .i64 0] (λw4 b9 X4 l4 f4=>?_);refine Zo 43 b9 #[.int .i64 (C.f i).k,.int .i64 (C.f i).n,.int .i64 (C.f i).a,.int .i64 (C.f i).b] X4 (λw5 g1 g2 g3 g4=>?_);have hb5:Below W.heap.size W w5:=l4.trans (g3 _ (by simp only[Hid]at f4;omega));have X1':=keep X1 hb5;have X2':=keep X2 hb5;have hal5:=hal.trans (hb5.mono hal.size);clear X4 l4 f4 g2 g3 g4 y10 y21 X1 X2;have z0:=ae w5 b9 0 _ 43 _ g1;go_wp2_with fail;refine(tx (C.f i).k w5 (hN.below hal5)).mono ?_;rintro e w6 ⟨V,cp,rfl,hI,hb6⟩;have X1:=keep X1' hb6;have X2:=keep X2' hb6;have G:=keep g1 hb6;have hal6:=hal5.trans (hb6.mono hal5.size);have hle:=qD (kdN (C.f i).k) (vb _);have hmt:=λj hj hb=>DN (k:=(C.f i).k) (c:=b) (i:=j) hj hb;have hmf:=DU (k:=(C.f i).k) (c:=b);obtain⟨q,hq⟩:∃q,Hid (may (C.f i).k b=q):=⟨_,rfl⟩;rw[hq.out]at hres hmt hmf;replace hI:=vJ hI;generalize gx (kdN (C.f i).k)=L at *;generalize gF L=g at *;generalize hm:L.length=m at *;have y2:=ae w6 b2 2 _ 49 _ X2;have y3:=ae w6 b2 3 _ 49 _ X2;have z0':=ae w6 b9 0 _ 43 _ G;have z1':=ae w6 b9 1 _ 43 _ G;clear z0 hb6 X1' X2' g1 hb5 hal5 X1 X2 G hq;have hr:=hres.out;clear hres;go_upto_region 5 with(fail);go_loopw [25] (λv wr=>∃j:Nat,v=.int .i64 j/\j<=m/\(∀p,p<j->g p≠b)/\wr=w6) (λv _=>m - (intOf v).toNat)
 case atStart=>exact⟨0,rfl,au _,λp hp=>absurd hp (by omega),rfl⟩
 case round=>
  obtain⟨j,rfl,hj,hno,rfl⟩:=hrel
  by_cases hlt:j<m
  ·have hj0:(0:Int)<=j:=by omega
   have hj1:(j:Int)<m:=by omega
   obtain⟨bV,oV,rfl,hV,hcV⟩:=hI (by omega);have c:=hcV j hlt
   by_cases he:g j=b
   ·obtain rfl:q=true:=hmt j hlt he
    clear hmt hmf hI hcV hno;rw[he]at c;clear he;rw[Bool.true_and]at hr
    by_cases hb4:b=4
    ·subst hb4
     have hr':(decide (0<(C.f i).n) && decide (K<(C.f i).n))=res:=by rw[<-hr];simp[z9]
     clear hr
     by_cases hn0:0<(C.f i).n
     ·have hw1:IntKind.u64.wrap (C.f i).n=(C.f i).n:=by simp[IntKind.wrap,IntKind.bits,IntKind.signed];omega
      have hw2:IntKind.u64.wrap K=K:=by simp[IntKind.wrap,IntKind.bits,IntKind.signed];omega
      rw[ay hn0,Bool.true_and]at hr';subst hr';go_wp2;go_ret;exact⟨rfl,hal6⟩
     ·rw[az hn0,Bool.false_and]at hr'
      subst hr';go_wp2;go_ret;exact⟨rfl,hal6⟩
    ·have k4:(b == 4)=false:=by simp[hb4]
     have hr':((C.f i).k == 13 || K == 0)=res:=by rw[<-hr];simp[z9,hb4]
     clear hr hb4
     by_cases h13:(C.f i).k=13
     ·have k13:((C.f i).k == 13)=true:=by simp[h13]
      rw[k13,Bool.true_or]at hr';subst hr';clear h13;go_wp2;go_ret;exact⟨rfl,hal6⟩
     ·have k13:((C.f i).k == 13)=false:=by simp[h13]
      rw[k13,Bool.false_or]at hr';subst hr';clear h13;go_wp2;go_ret;exact⟨rfl,hal6⟩
   ·clear hmt hmf
    have hne:(g j != b)=true:=by simp[he]
    go_wp2;go_roundw
    case rel=>exact⟨j+1,by go_num,by omega,show(∀p,p<j+1->g p≠b) from λp hp=>by
     rcases Nat.lt_succ_iff_lt_or_eq.1 hp with h|rfl
     ·exact hno p h
     ·exact he,by first|rfl|trivial⟩
    case measure=>simp[intOf];omega
  ·obtain rfl:j=m:=by omega
   obtain rfl:q=false:=hmf hno;rw[Bool.false_and]at hr;subst hr;clear hmt hmf hno
   have hj1:¬(j:Int)<j:=by omega
   go_wp2;go_ret;exact⟨rfl,hal6⟩


theorem BQ(C:Cl)(x:X)(hx:0<=x.K/\x.K<4294967296)(w:World)(hM:MemC w C)(hN:NmW w):Calls Tryz.prog 54 #[C.v,xv x] w λe w'=>e=.returned (.bool (rgt C x))/\Below w.heap.size w w':=by
 obtain⟨k,a,b,K⟩:=x;have hx':=hx;obtain⟨B,hB⟩:∃B,Hid (rgt C ⟨k,a,b,K⟩=B):=⟨_,rfl⟩;rw[hB.out];replace hB:=hB.out;have hal:=((ak w.heap.size w).alloc (ah _) (.cells #[.slice C.A C.no C.ca,.int .i64 C.vars,.slice C.W C.nw C.cw,.int .i64 C.room,.slice C.T C.nt C.ct] 26)).alloc (by simp) (.cells #[.int .i64 k,.int .i64 a,.int .i64 b,.int .u32 K] 49)
 by_cases e1:k=1
 ·subst e1
  have hB':((decide (0<=a/\a<4)) && (b == 0))=B:=by rw[<-hB];simp[rgt,qg]
  clear hB
  by_cases c0:0<=a/\a<4
  ·rw[ay c0,Bool.true_and]at hB'
   subst hB';unfold Cl.v xv;go_enter Tryz.func54,Tryz.ntmps54;go_wp2_with fail;refine(bW _ _ _).mono ?_;rintro e w1 ⟨rfl,rfl⟩;rw[ay c0];go_wp2;go_ret;exact⟨rfl,hal⟩
  ·simp only[az c0,Bool.true_and,Bool.false_and]at hB'
   subst hB';unfold Cl.v xv;go_enter Tryz.func54,Tryz.ntmps54;go_wp2_with fail;refine(bW _ _ _).mono ?_;rintro e w1 ⟨rfl,rfl⟩;rw[az c0];go_wp2;go_ret;exact⟨rfl,hal⟩
 by_cases e2:k=2
 ·subst e2
  have hB':((decide (0<=a/\a<4)) && (decide (0<=b/\b<4)) && (K == 0))=B:=by rw[<-hB];simp[rgt,qg]
  clear hB
  by_cases c0:0<=a/\a<4
  ·by_cases c1:0<=b/\b<4
   ·rw[ay c0,ay c1,Bool.true_and,Bool.true_and]at hB'
    subst hB';unfold Cl.v xv;go_enter Tryz.func54,Tryz.ntmps54;go_wp2_with fail;refine(bW _ _ _).mono ?_;rintro e w1 ⟨rfl,rfl⟩;rw[ay c0];go_wp2_with fail;refine(bW _ _ _).mono ?_;rintro e w1 ⟨rfl,rfl⟩;rw[ay c1];go_wp2;go_ret;exact⟨rfl,hal⟩
   ·simp only[ay c0,az c1,Bool.true_and,Bool.false_and]at hB'
    subst hB';unfold Cl.v xv;go_enter Tryz.func54,Tryz.ntmps54;go_wp2_with fail;refine(bW _ _ _).mono ?_;rintro e w1 ⟨rfl,rfl⟩;rw[ay c0];go_wp2_with fail;refine(bW _ _ _).mono ?_;rintro e w1 ⟨rfl,rfl⟩;rw[az c1];go_wp2;go_ret;exact⟨rfl,hal⟩
  ·simp only[az c0,Bool.true_and,Bool.false_and]at hB'
   subst hB';unfold Cl.v xv;go_enter Tryz.func54,Tryz.ntmps54;go_wp2_with fail;refine(bW _ _ _).mono ?_;rintro e w1 ⟨rfl,rfl⟩;rw[az c0];go_wp2;go_ret;exact⟨rfl,hal⟩
 by_cases e3:k=3
 ·subst e3
  have hB':((decide (0<=a/\a<4)) && (decide (0<=b/\b<C.vars)) && (K == 0))=B:=by rw[<-hB];simp[rgt,qg]
  clear hB
  by_cases c0:0<=a/\a<4
  ·by_cases c1:0<=b/\b<C.vars
   ·rw[ay c0,ay c1,Bool.true_and,Bool.true_and]at hB'
    subst hB';unfold Cl.v xv;go_enter Tryz.func54,Tryz.ntmps54;go_wp2_with fail;refine(bW _ _ _).mono ?_;rintro e w1 ⟨rfl,rfl⟩;rw[ay c0];go_wp2_with fail;refine(bW _ _ _).mono ?_;rintro e w1 ⟨rfl,rfl⟩;rw[ay c1];go_wp2;go_ret;exact⟨rfl,hal⟩
   ·simp only[ay c0,az c1,Bool.true_and,Bool.false_and]at hB'
    subst hB';unfold Cl.v xv;go_enter Tryz.func54,Tryz.ntmps54;go_wp2_with fail;refine(bW _ _ _).mono ?_;rintro e w1 ⟨rfl,rfl⟩;rw[ay c0];go_wp2_with fail;refine(bW _ _ _).mono ?_;rintro e w1 ⟨rfl,rfl⟩;rw[az c1];go_wp2;go_ret;exact⟨rfl,hal⟩
  ·simp only[az c0,Bool.true_and,Bool.false_and]at hB'
   subst hB';unfold Cl.v xv;go_enter Tryz.func54,Tryz.ntmps54;go_wp2_with fail;refine(bW _ _ _).mono ?_;rintro e w1 ⟨rfl,rfl⟩;rw[az c0];go_wp2;go_ret;exact⟨rfl,hal⟩
 by_cases e4:k=4
 ·subst e4
  have hB':((decide (0<=a/\a<4)) && (decide (0<=b/\b<C.vars)) && (K == 0))=B:=by rw[<-hB];simp[rgt,qg]
  clear hB
  by_cases c0:0<=a/\a<4
  ·by_cases c1:0<=b/\b<C.vars
   ·rw[ay c0,ay c1,Bool.true_and,Bool.true_and]at hB'
    subst hB';unfold Cl.v xv;go_enter Tryz.func54,Tryz.ntmps54;go_wp2_with fail;refine(bW _ _ _).mono ?_;rintro e w1 ⟨rfl,rfl⟩;rw[ay c0];go_wp2_with fail;refine(bW _ _ _).mono ?_;rintro e w1 ⟨rfl,rfl⟩;rw[ay c1];go_wp2;go_ret;exact⟨rfl,hal⟩
   ·simp only[ay c0,az c1,Bool.true_and,Bool.false_and]at hB'
    subst hB';unfold Cl.v xv;go_enter Tryz.func54,Tryz.ntmps54;go_wp2_with fail;refine(bW _ _ _).mono ?_;rintro e w1 ⟨rfl,rfl⟩;rw[ay c0];go_wp2_with fail;refine(bW _ _ _).mono ?_;rintro e w1 ⟨rfl,rfl⟩;rw[az c1];go_wp2;go_ret;exact⟨rfl,hal⟩
  ·simp only[az c0,Bool.true_and,Bool.false_and]at hB'
   subst hB';unfold Cl.v xv;go_enter Tryz.func54,Tryz.ntmps54;go_wp2_with fail;refine(bW _ _ _).mono ?_;rintro e w1 ⟨rfl,rfl⟩;rw[az c0];go_wp2;go_ret;exact⟨rfl,hal⟩
 by_cases e5:k=5
 ·subst e5
  have hB':((decide (0<=a/\a<4)) && (b == 0) && (K == 0))=B:=by rw[<-hB];simp[rgt,qg]
  clear hB
  by_cases c0:0<=a/\a<4
  ·rw[ay c0,Bool.true_and]at hB'
   by_cases c1:b=0
   ·have q:(b == 0)=true:=by simp[c1]
    rw[q,Bool.true_and]at hB';clear c1;subst hB';unfold Cl.v xv;go_enter Tryz.func54,Tryz.ntmps54;go_wp2_with fail;refine(bW _ _ _).mono ?_;rintro e w1 ⟨rfl,rfl⟩;rw[ay c0];go_wp2;go_ret;exact⟨rfl,hal⟩
   ·have q:(b == 0)=false:=by simp[c1]
    rw[q,Bool.false_and]at hB';clear c1;subst hB';unfold Cl.v xv;go_enter Tryz.func54,Tryz.ntmps54;go_wp2_with fail;refine(bW _ _ _).mono ?_;rintro e w1 ⟨rfl,rfl⟩;rw[ay c0];go_wp2;go_ret;exact⟨rfl,hal⟩
  ·simp only[az c0,Bool.true_and,Bool.false_and]at hB'
   subst hB';unfold Cl.v xv;go_enter Tryz.func54,Tryz.ntmps54;go_wp2_with fail;refine(bW _ _ _).mono ?_;rintro e w1 ⟨rfl,rfl⟩;rw[az c0];go_wp2;go_ret;exact⟨rfl,hal⟩
 by_cases e6:k=6
 ·subst e6
  have hB':((a == 0) && (b == 0) && (K == 0))=B:=by rw[<-hB];simp[rgt]
  clear hB hx hx';unfold Cl.v xv;go_enter Tryz.func54,Tryz.ntmps54;go_wp2
  all_goals go_ret
  all_goals refine⟨?_,((ak _ _).alloc (ah _) _).alloc (by simp) _⟩
  all_goals subst hB'
  all_goals simp_all
 by_cases e7:k=7
 ·subst e7
  have hB':px C ⟨7,a,b,K⟩=B:=by rw[<-hB];simp[rgt]
  clear hB;have hc:=Fc C ⟨7,a,b,K⟩ hx _ (hM.below hal) (hN.below hal);rw[hB']at hc;unfold Cl.v xv at *;go_enter Tryz.func54,Tryz.ntmps54;go_wp2_with fail;refine hc.mono ?_;rintro e w1 ⟨rfl,hb1⟩;go_wp2;go_ret;exact⟨rfl,hal.trans (hb1.mono hal.size)⟩
 obtain rfl:B=false:=by rw[<-hB];simp[rgt,e1,e2,e3,e4,e5,e6,e7]
 have q1:(k == 1)=false:=by simp[e1]
 have q2:(k == 2)=false:=by simp[e2]
 have q3:(k == 3)=false:=by simp[e3]
 have q4:(k == 4)=false:=by simp[e4]
 have q5:(k == 5)=false:=by simp[e5]
 have q6:(k == 6)=false:=by simp[e6]
 have q7:(k == 7)=false:=by simp[e7]
 clear e1 e2 e3 e4 e5 e6 e7 hB;unfold Cl.v xv;go_enter Tryz.func54,Tryz.ntmps54;go_wp2;go_ret;exact⟨rfl,hal⟩
end Go.Proofs.YtldlcnaphednnaaGreatDoor
