/- What instructions there are: the tables in memory; Name, Jumps, Asks, Drains, Right. Right: may an instruction be. Words: what an operation makes of two. -/
import Derived.Test.YtldlcnaphednnaaGreatDoorM03
set_option maxRecDepth 100000
set_option maxHeartbeats 32000000
set_option linter.unusedVariables false
set_option linter.unusedSimpArgs false
namespace Go.Proofs.YtldlcnaphednnaaGreatDoor
open Go.RowKit Go.Maps
def eJ:Nat->Int
 | 0=>0
 | 1=>17
 | 2=>3
 | 3=>7
 | 4=>7
 | 5=>7
 | 6=>7
 | 7=>7
 | 8=>7
 | 9=>7
 | 10=>7
 | 11=>7
 | 12=>7
 | 13=>32
 | 14=>33
 | 15=>33
 | 16=>25
 | 17=>25
 | 18=>0
 | 19=>25
 | 20=>25
 | 21=>29
 | 22=>1
 | 23=>25
 | 24=>25
 | 25=>0
 | 26=>0
 | 27=>17
 | _=>0
def uJ:Nat->ByteArray
 | 0=>⟨#[104,97,108,116]⟩
 | 1=>⟨#[115,101,116]⟩
 | 2=>⟨#[109,111,118,101]⟩
 | 3=>⟨#[97,100,100]⟩
 | 4=>⟨#[115,117,98]⟩
 | 5=>⟨#[109,117,108]⟩
 | 6=>⟨#[97,110,100]⟩
 | 7=>⟨#[111,114]⟩
 | 8=>⟨#[120,111,114]⟩
 | 9=>⟨#[115,104,108]⟩
 | 10=>⟨#[115,104,114]⟩
 | 11=>⟨#[108,101,115,115]⟩
 | 12=>⟨#[115,97,109,101]⟩
 | 13=>⟨#[106,117,109,112]⟩
 | 14=>⟨#[122,101,114,111]⟩
 | 15=>⟨#[115,111,109,101]⟩
 | 16=>⟨#[108,111,97,100]⟩
 | 17=>⟨#[115,116,111,114,101]⟩
 | 18=>⟨#[102,101,110,99,101]⟩
 | 19=>⟨#[115,119,97,112]⟩
 | 20=>⟨#[102,101,116,99,104]⟩
 | 21=>⟨#[99,97,115]⟩
 | 22=>⟨#[111,117,116]⟩
 | 23=>⟨#[119,97,105,116]⟩
 | 24=>⟨#[119,97,107,101]⟩
 | 25=>⟨#[114,101,109,111,116,101]⟩
 | 26=>⟨#[121,105,101,108,100]⟩
 | 27=>⟨#[109,97,114,107]⟩
 | _=>⟨#[]⟩
structure IsaW(w:World):Prop where
 us:∀i:Nat,i<28->w.cell? ⟨0,i,none⟩=some (.int .i64 (eJ i))
 nm:∀i:Nat,i<28->w.cell? ⟨2,i,none⟩=some (.string (uJ i))
theorem km{w:World}{b j:Nat}{v:Value}(h:w.cell? ⟨b,j,none⟩=some v):b<w.heap.size:=by
 unfold World.cell? at h
 split at h
 ·rename_i h';exact(Array.getElem?_eq_some_iff.1 h').1
 ·cases h
theorem IsaW.below{w w':World}(h:IsaW w)(hb:Below w.heap.size w w'):IsaW w':=
 ⟨λi hi=>(hb.cell (p:=⟨0,i,none⟩) (km (h.us 0 (by omega)))).trans (h.us i hi),λi hi=>(hb.cell (p:=⟨2,i,none⟩) (km (h.nm 0 (by omega)))).trans (h.nm i hi)⟩
theorem IsaW.pos{w:World}(h:IsaW w):2<w.heap.size:=km (h.nm 0 (by omega))
def iX(op:Int):ByteArray:=if 0<=op/\op<28 then uJ op.toNat else⟨#[]⟩
theorem vw(op:Int)(w:World)(hW:IsaW w):Calls Tryz.prog 78 #[.int .i64 op] w λe w'=>e=.returned (.string (iX op))/\w'=w:=by
 unfold iX
 by_cases h0:op<0
 ·rw[af (by omega)]
  go_enter Tryz.func78,Tryz.ntmps78;go_wp2;go_ret;exact⟨rfl,rfl⟩
 by_cases h1:28<=op
 ·rw[af (by omega)]
  go_enter Tryz.func78,Tryz.ntmps78;go_wp2;go_ret;exact⟨rfl,rfl⟩
 rw[ag (by omega)];obtain⟨i,rfl⟩:∃i:Nat,op=i:=⟨op.toNat,by omega⟩
 have hl0:(0:Int)<=i:=by omega
 have hl1:(i:Int)<28:=by omega
 have c:=hW.nm i (by omega);go_enter Tryz.func78,Tryz.ntmps78;go_wp2;go_ret;exact⟨rfl,rfl⟩
def bt(op:Int):Bool:=decide (op=13\/op=14\/op=15)
def aJ(op:Int):Bool:=decide (op=16\/op=17\/op=19\/op=20\/op=21\/op=23\/op=24)
def fO(op:Int):Bool:=decide (op=18\/op=19\/op=20\/op=21\/op=23\/op=24\/op=25)
theorem oZ:∀i:Nat,i<28->(iX i).toList.isEmpty=false:=by decide +kernel
theorem zi:∀i:Nat,i<28->(eJ i=0\/eJ i=17\/eJ i=3\/eJ i=7\/eJ i=32\/eJ i=33\/eJ i=25\/eJ i=29\/eJ i=1)/\bt i=decide (eJ i=32\/eJ i=33):=by decide +kernel
theorem De:∀i:Nat,i<28->(eJ i=0\/eJ i=17\/eJ i=3\/eJ i=7\/eJ i=32\/eJ i=33\/eJ i=25\/eJ i=29\/eJ i=1)/\aJ i=decide (eJ i=25\/eJ i=29):=by decide +kernel
theorem rU(op:Int)(w:World)(hW:IsaW w):Calls Tryz.prog 94 #[.int .i64 op] w λe w'=>e=.returned (.bool (bt op))/\w'=w:=by
 have hn:=vw op w hW
 by_cases h:0<=op/\op<28
 ·obtain⟨i,rfl⟩:∃i:Nat,op=i:=⟨op.toNat,by omega⟩
  have hi:i<28:=by omega
  have c:=hW.us i hi;obtain⟨h0,h1⟩:=h;have hne:=oZ i hi;obtain⟨hu,hv⟩:=zi i hi;obtain⟨nm,hnm⟩:=Zh (iX i);rw[<-hnm.out]at hn hne;rw[hv];clear hnm hv;obtain⟨u,hu'⟩:∃q,q=eJ i:=⟨_,rfl⟩;rw[<-hu']at c hu ⊢;clear hu'
  rcases hu with rfl|rfl|rfl|rfl|rfl|rfl|rfl|rfl|rfl<;>(go_enter Tryz.func94,Tryz.ntmps94;go_wp2_with fail;refine hn.mono ?_;rintro e w' ⟨rfl,rfl⟩;go_wp2;go_ret;exact⟨rfl,rfl⟩)
 ·have e:bt op=false:=by unfold bt;rw[az];omega
  rw[e];rw[show iX op=⟨#[]⟩ from af h]at hn;clear h e;go_enter Tryz.func94,Tryz.ntmps94;go_wp2_with fail;refine hn.mono ?_;rintro e w' ⟨rfl,rfl⟩;go_wp2;go_ret;exact⟨rfl,rfl⟩
theorem zw(op:Int)(w:World)(hW:IsaW w):Calls Tryz.prog 98 #[.int .i64 op] w λe w'=>e=.returned (.bool (aJ op))/\w'=w:=by
 have hn:=vw op w hW
 by_cases h:0<=op/\op<28
 ·obtain⟨i,rfl⟩:∃i:Nat,op=i:=⟨op.toNat,by omega⟩
  have hi:i<28:=by omega
  have c:=hW.us i hi;obtain⟨h0,h1⟩:=h;have hne:=oZ i hi;obtain⟨hu,hv⟩:=De i hi;obtain⟨nm,hnm⟩:=Zh (iX i);rw[<-hnm.out]at hn hne;rw[hv];clear hnm hv;obtain⟨u,hu'⟩:∃q,q=eJ i:=⟨_,rfl⟩;rw[<-hu']at c hu ⊢;clear hu'
  rcases hu with rfl|rfl|rfl|rfl|rfl|rfl|rfl|rfl|rfl<;>(go_enter Tryz.func98,Tryz.ntmps98;go_wp2_with fail;refine hn.mono ?_;rintro e w' ⟨rfl,rfl⟩;go_wp2;go_ret;exact⟨rfl,rfl⟩)
 ·have e:aJ op=false:=by unfold aJ;rw[az];omega
  rw[e];rw[show iX op=⟨#[]⟩ from af h]at hn;clear h e;go_enter Tryz.func98,Tryz.ntmps98;go_wp2_with fail;refine hn.mono ?_;rintro e w' ⟨rfl,rfl⟩;go_wp2;go_ret;exact⟨rfl,rfl⟩
theorem wu(op:Int)(w:World):Calls Tryz.prog 100 #[.int .i64 op] w λe w'=>e=.returned (.bool (fO op))/\w'=w:=by
 by_cases h18:op=18
 ·subst h18
  show Calls Tryz.prog 100 #[.int .i64 18] w λe w'=>e=.returned (.bool true)/\w'=w;go_enter Tryz.func100,Tryz.ntmps100;go_wp2;go_ret;exact⟨rfl,rfl⟩
 ·by_cases h19:op=19
  ·subst h19
   show Calls Tryz.prog 100 #[.int .i64 19] w λe w'=>e=.returned (.bool true)/\w'=w;go_enter Tryz.func100,Tryz.ntmps100;go_wp2;go_ret;exact⟨rfl,rfl⟩
  ·by_cases h20:op=20
   ·subst h20
    show Calls Tryz.prog 100 #[.int .i64 20] w λe w'=>e=.returned (.bool true)/\w'=w;go_enter Tryz.func100,Tryz.ntmps100;go_wp2;go_ret;exact⟨rfl,rfl⟩
   ·by_cases h21:op=21
    ·subst h21
     show Calls Tryz.prog 100 #[.int .i64 21] w λe w'=>e=.returned (.bool true)/\w'=w;go_enter Tryz.func100,Tryz.ntmps100;go_wp2;go_ret;exact⟨rfl,rfl⟩
    ·by_cases h23:op=23
     ·subst h23
      show Calls Tryz.prog 100 #[.int .i64 23] w λe w'=>e=.returned (.bool true)/\w'=w;go_enter Tryz.func100,Tryz.ntmps100;go_wp2;go_ret;exact⟨rfl,rfl⟩
     ·by_cases h24:op=24
      ·subst h24
       show Calls Tryz.prog 100 #[.int .i64 24] w λe w'=>e=.returned (.bool true)/\w'=w;go_enter Tryz.func100,Tryz.ntmps100;go_wp2;go_ret;exact⟨rfl,rfl⟩
      ·by_cases h25:op=25
       ·subst h25
        show Calls Tryz.prog 100 #[.int .i64 25] w λe w'=>e=.returned (.bool true)/\w'=w;go_enter Tryz.func100,Tryz.ntmps100;go_wp2;go_ret;exact⟨rfl,rfl⟩
       ·have e:fO op=false:=by unfold fO;rw[az];omega
        rw[e]
        have q18:(op == 18)=false:=by simp[h18]
        have q19:(op == 19)=false:=by simp[h19]
        have q20:(op == 20)=false:=by simp[h20]
        have q21:(op == 21)=false:=by simp[h21]
        have q23:(op == 23)=false:=by simp[h23]
        have q24:(op == 24)=false:=by simp[h24]
        have q25:(op == 25)=false:=by simp[h25]
        clear e h18 h19 h20 h21 h23 h24 h25;go_enter Tryz.func100,Tryz.ntmps100;go_wp2;go_ret;exact⟨rfl,rfl⟩
def bJ(n:Int)(used:Bool)(most:Int):Bool:=if used=true then decide (0<=n/\n<=most) else n == 0
theorem ch(n:Int)(used:Bool)(most:Int)(w:World):Calls Tryz.prog 79 #[.int .i64 n,.bool used,.int .i64 most] w λe w'=>e=.returned (.bool (bJ n used most))/\w'=w:=by
 unfold bJ;cases used
 ·rw[af Bool.false_ne_true]
  go_enter Tryz.func79,Tryz.ntmps79;go_wp2;go_ret;exact⟨rfl,rfl⟩
 rw[ag rfl]
 by_cases h0:0<=n
 ·by_cases h1:n<=most
  ·rw[ay (⟨h0,h1⟩:0<=n/\n<=most)]
   go_enter Tryz.func79,Tryz.ntmps79;go_wp2;go_ret;exact⟨rfl,rfl⟩
  ·rw[az (λh=>h1 h.2:¬(0<=n/\n<=most))]
   go_enter Tryz.func79,Tryz.ntmps79;go_wp2;go_ret;exact⟨rfl,rfl⟩
 ·rw[az (λh=>h0 h.1:¬(0<=n/\n<=most))]
  go_enter Tryz.func79,Tryz.ntmps79;go_wp2;go_ret;exact⟨rfl,rfl⟩
def tb(u:Int)(k:Nat):Bool:=u.toNat.testBit k
def rW(u a b c k size:Int):Bool:=bJ a (tb u 0) 7 && (bJ b (tb u 1 || tb u 3) (if tb u 3=true then 8 else 7) && (bJ c (tb u 2) 7 && (if tb u 5=true then decide (k<=size) else(tb u 4 || k == 0))))
def ik(x:Ins)(size:Int):Bool:=if 0<=x.op/\x.op<28 then rW (eJ x.op.toNat) x.a x.b x.c x.k size else false
theorem Aq:∀i,i<28->eJ i=0\/eJ i=17\/eJ i=3\/eJ i=7\/eJ i=32\/eJ i=33\/eJ i=25\/eJ i=29\/eJ i=1:=by decide
theorem z7:∀i,i<28->(uJ i).toList.isEmpty=false:=by decide +kernel
theorem tD(x:Ins)(size:Int)(hk:0<=x.k/\x.k<4294967296)(hs:0<=size/\size<=1000000)(w:World)(hW:IsaW w):Calls Tryz.prog 58 #[iV x,.int .i64 size] w λe w'=>e=.returned (.bool (ik x size))/\Below w.heap.size w w':=by
 obtain⟨op,a,b,c,k⟩:=x;simp only at hk;obtain⟨k0,k1⟩:=hk;obtain⟨s0,s1⟩:=hs;unfold iV iP
 by_cases h:0<=op/\op<28
 case neg=>
  rw[show ik ⟨op,a,b,c,k⟩ size=false from af h];have hn:=λw' (hb:Below w.heap.size w w')=>vw op w' (hW.below hb);rw[show iX op=⟨#[]⟩ from af h]at hn;clear h;go_enter Tryz.func58,Tryz.ntmps58;go_upto_region 1 with(fail);obtain⟨W,b2,e0,e1,X2,hal⟩:=aO w #[.int .i64 op,.int .i64 a,.int .i64 b,.int .i64 c,.int .u32 k] 115;rw[e0,e1];clear e0 e1;have y0:=ae W b2 0 _ 115 _ X2;go_wp2_with fail;refine(hn W hal).mono ?_;rintro e w' ⟨rfl,rfl⟩;go_wp2;go_ret;exact⟨rfl,hal⟩
 rw[show ik ⟨op,a,b,c,k⟩ size=rW (eJ op.toNat) a b c k size from ag h];obtain⟨i,rfl⟩:∃i:Nat,op=i:=⟨op.toNat,by omega⟩;rw[Int.toNat_natCast]
 have hl0:(0:Int)<=i:=by omega
 have hl1:(i:Int)<28:=by omega
 have hi:i<28:=by omega
 have hn:=λw' (hb:Below w.heap.size w w')=>vw i w' (hW.below hb);rw[show iX i=uJ i from ag h]at hn;have hnn:=z7 i hi;generalize uJ i=nm at *
 have hnn2:¬nm.toList=[]:=λe=>by rw[e]at hnn;cases hnn
 have hu:=Aq i hi;have hcell:=λw' (hb:Below w.heap.size w w')=>(hW.below hb).us i hi;generalize eJ i=u at *;obtain⟨Bv,hBv⟩:=Zh (rW u a b c k size);rw[<-hBv.out];clear h;go_enter Tryz.func58,Tryz.ntmps58;go_upto_region 1 with(fail);obtain⟨W,b2,e0,e1,X2,hal⟩:=aO w #[.int .i64 i,.int .i64 a,.int .i64 b,.int .i64 c,.int .u32 k] 115;rw[e0,e1];clear e0 e1;obtain⟨y0,y1,y2,y3,y4⟩:=cl5 X2;have yu:=hcell W hal;go_wp2_with fail;refine(hn W hal).mono ?_;rintro e w' ⟨rfl,rfl⟩;clear hn hcell hW hi;rcases hu with rfl|rfl|rfl|rfl|rfl|rfl|rfl|rfl|rfl
 ·replace hBv:Hid (Bv=(bJ a false 7 && (bJ b false 7 && (bJ c false 7 && (k == 0))))):=hBv.out
  have fa:=λw=>ch a false 7 w
  have fb:=λw=>ch b false 7 w
  have fc:=λw=>ch c false 7 w
  generalize bJ a false 7=ra at *;generalize bJ b false 7=rb' at *;generalize bJ c false 7=rc at *;go_wp2_with fail;refine(fa _).mono ?_;rintro e w' ⟨rfl,rfl⟩;cases ra
  ·obtain rfl:Bv=false:=hBv.out
   clear hBv;go_wp2;go_ret;exact⟨rfl,hal⟩
  go_wp2_with fail;refine(fb _).mono ?_;rintro e w' ⟨rfl,rfl⟩
  cases rb'
  ·obtain rfl:Bv=false:=hBv.out
   clear hBv;go_wp2;go_ret;exact⟨rfl,hal⟩
  go_wp2_with fail;refine(fc _).mono ?_;rintro e w' ⟨rfl,rfl⟩;cases rc
  ·obtain rfl:Bv=false:=hBv.out
   clear hBv;go_wp2;go_ret;exact⟨rfl,hal⟩
  by_cases hk:k=0
  ·subst hk
   obtain rfl:Bv=true:=hBv.out;clear hBv;go_wp2;go_ret;exact⟨rfl,hal⟩
  ·have qk:(k == 0)=false:=by simp[hk]
   obtain rfl:Bv=false:=hBv.out.trans qk;clear hBv;go_wp2;go_ret;exact⟨rfl,hal⟩
 ·replace hBv:Hid (Bv=(bJ a true 7 && (bJ b false 7 && (bJ c false 7 && (true))))):=hBv.out
  have fa:=λw=>ch a true 7 w
  have fb:=λw=>ch b false 7 w
  have fc:=λw=>ch c false 7 w
  generalize bJ a true 7=ra at *;generalize bJ b false 7=rb' at *;generalize bJ c false 7=rc at *;go_wp2_with fail;refine(fa _).mono ?_;rintro e w' ⟨rfl,rfl⟩;cases ra
  ·obtain rfl:Bv=false:=hBv.out
   clear hBv;go_wp2;go_ret;exact⟨rfl,hal⟩
  go_wp2_with fail;refine(fb _).mono ?_;rintro e w' ⟨rfl,rfl⟩
  cases rb'
  ·obtain rfl:Bv=false:=hBv.out
   clear hBv;go_wp2;go_ret;exact⟨rfl,hal⟩
  go_wp2_with fail;refine(fc _).mono ?_;rintro e w' ⟨rfl,rfl⟩;cases rc
  ·obtain rfl:Bv=false:=hBv.out
   clear hBv;go_wp2;go_ret;exact⟨rfl,hal⟩
  obtain rfl:Bv=true:=hBv.out;clear hBv;go_wp2;go_ret;exact⟨rfl,hal⟩
 ·replace hBv:Hid (Bv=(bJ a true 7 && (bJ b true 7 && (bJ c false 7 && (k == 0))))):=hBv.out
  have fa:=λw=>ch a true 7 w
  have fb:=λw=>ch b true 7 w
  have fc:=λw=>ch c false 7 w
  generalize bJ a true 7=ra at *;generalize bJ b true 7=rb' at *;generalize bJ c false 7=rc at *;go_wp2_with fail;refine(fa _).mono ?_;rintro e w' ⟨rfl,rfl⟩;cases ra
  ·obtain rfl:Bv=false:=hBv.out
   clear hBv;go_wp2;go_ret;exact⟨rfl,hal⟩
  go_wp2_with fail;refine(fb _).mono ?_;rintro e w' ⟨rfl,rfl⟩
  cases rb'
  ·obtain rfl:Bv=false:=hBv.out
   clear hBv;go_wp2;go_ret;exact⟨rfl,hal⟩
  go_wp2_with fail;refine(fc _).mono ?_;rintro e w' ⟨rfl,rfl⟩;cases rc
  ·obtain rfl:Bv=false:=hBv.out
   clear hBv;go_wp2;go_ret;exact⟨rfl,hal⟩
  by_cases hk:k=0
  ·subst hk
   obtain rfl:Bv=true:=hBv.out;clear hBv;go_wp2;go_ret;exact⟨rfl,hal⟩
  ·have qk:(k == 0)=false:=by simp[hk]
   obtain rfl:Bv=false:=hBv.out.trans qk;clear hBv;go_wp2;go_ret;exact⟨rfl,hal⟩
 ·replace hBv:Hid (Bv=(bJ a true 7 && (bJ b true 7 && (bJ c true 7 && (k == 0))))):=hBv.out
  have fa:=λw=>ch a true 7 w
  have fb:=λw=>ch b true 7 w
  have fc:=λw=>ch c true 7 w
  generalize bJ a true 7=ra at *;generalize bJ b true 7=rb' at *;generalize bJ c true 7=rc at *;go_wp2_with fail;refine(fa _).mono ?_;rintro e w' ⟨rfl,rfl⟩;cases ra
  ·obtain rfl:Bv=false:=hBv.out
   clear hBv;go_wp2;go_ret;exact⟨rfl,hal⟩
  go_wp2_with fail;refine(fb _).mono ?_;rintro e w' ⟨rfl,rfl⟩
  cases rb'
  ·obtain rfl:Bv=false:=hBv.out
   clear hBv;go_wp2;go_ret;exact⟨rfl,hal⟩
  go_wp2_with fail;refine(fc _).mono ?_;rintro e w' ⟨rfl,rfl⟩;cases rc
  ·obtain rfl:Bv=false:=hBv.out
   clear hBv;go_wp2;go_ret;exact⟨rfl,hal⟩
  by_cases hk:k=0
  ·subst hk
   obtain rfl:Bv=true:=hBv.out;clear hBv;go_wp2;go_ret;exact⟨rfl,hal⟩
  ·have qk:(k == 0)=false:=by simp[hk]
   obtain rfl:Bv=false:=hBv.out.trans qk;clear hBv;go_wp2;go_ret;exact⟨rfl,hal⟩
 ·replace hBv:Hid (Bv=(bJ a false 7 && (bJ b false 7 && (bJ c false 7 && (decide (k<=size)))))):=hBv.out
  have fa:=λw=>ch a false 7 w
  have fb:=λw=>ch b false 7 w
  have fc:=λw=>ch c false 7 w
  generalize bJ a false 7=ra at *;generalize bJ b false 7=rb' at *;generalize bJ c false 7=rc at *;go_wp2_with fail;refine(fa _).mono ?_;rintro e w' ⟨rfl,rfl⟩;cases ra
  ·obtain rfl:Bv=false:=hBv.out
   clear hBv;go_wp2;go_ret;exact⟨rfl,hal⟩
  go_wp2_with fail;refine(fb _).mono ?_;rintro e w' ⟨rfl,rfl⟩
  cases rb'
  ·obtain rfl:Bv=false:=hBv.out
   clear hBv;go_wp2;go_ret;exact⟨rfl,hal⟩
  go_wp2_with fail;refine(fc _).mono ?_;rintro e w' ⟨rfl,rfl⟩;cases rc
  ·obtain rfl:Bv=false:=hBv.out
   clear hBv;go_wp2;go_ret;exact⟨rfl,hal⟩
  by_cases hk:k<=size
  ·obtain rfl:Bv=true:=hBv.out.trans (ay hk)
   clear hBv;go_wp2;go_ret;exact⟨rfl,hal⟩
  ·obtain rfl:Bv=false:=hBv.out.trans (az hk)
   have hk2:size<k:=by omega
   have hk3:decide (k<=size)=false:=az hk;clear hBv;go_wp2;go_ret;exact⟨rfl,hal⟩
 ·replace hBv:Hid (Bv=(bJ a true 7 && (bJ b false 7 && (bJ c false 7 && (decide (k<=size)))))):=hBv.out
  have fa:=λw=>ch a true 7 w
  have fb:=λw=>ch b false 7 w
  have fc:=λw=>ch c false 7 w
  generalize bJ a true 7=ra at *;generalize bJ b false 7=rb' at *;generalize bJ c false 7=rc at *;go_wp2_with fail;refine(fa _).mono ?_;rintro e w' ⟨rfl,rfl⟩;cases ra
  ·obtain rfl:Bv=false:=hBv.out
   clear hBv;go_wp2;go_ret;exact⟨rfl,hal⟩
  go_wp2_with fail;refine(fb _).mono ?_;rintro e w' ⟨rfl,rfl⟩
  cases rb'
  ·obtain rfl:Bv=false:=hBv.out
   clear hBv;go_wp2;go_ret;exact⟨rfl,hal⟩
  go_wp2_with fail;refine(fc _).mono ?_;rintro e w' ⟨rfl,rfl⟩;cases rc
  ·obtain rfl:Bv=false:=hBv.out
   clear hBv;go_wp2;go_ret;exact⟨rfl,hal⟩
  by_cases hk:k<=size
  ·obtain rfl:Bv=true:=hBv.out.trans (ay hk)
   clear hBv;go_wp2;go_ret;exact⟨rfl,hal⟩
  ·obtain rfl:Bv=false:=hBv.out.trans (az hk)
   have hk2:size<k:=by omega
   have hk3:decide (k<=size)=false:=az hk;clear hBv;go_wp2;go_ret;exact⟨rfl,hal⟩
 ·replace hBv:Hid (Bv=(bJ a true 7 && (bJ b true 8 && (bJ c false 7 && (true))))):=hBv.out
  have fa:=λw=>ch a true 7 w
  have fb:=λw=>ch b true 8 w
  have fc:=λw=>ch c false 7 w
  generalize bJ a true 7=ra at *;generalize bJ b true 8=rb' at *;generalize bJ c false 7=rc at *;go_wp2_with fail;refine(fa _).mono ?_;rintro e w' ⟨rfl,rfl⟩;cases ra
  ·obtain rfl:Bv=false:=hBv.out
   clear hBv;go_wp2;go_ret;exact⟨rfl,hal⟩
  go_wp2_with fail;refine(fb _).mono ?_;rintro e w' ⟨rfl,rfl⟩
  cases rb'
  ·obtain rfl:Bv=false:=hBv.out
   clear hBv;go_wp2;go_ret;exact⟨rfl,hal⟩
  go_wp2_with fail;refine(fc _).mono ?_;rintro e w' ⟨rfl,rfl⟩;cases rc
  ·obtain rfl:Bv=false:=hBv.out
   clear hBv;go_wp2;go_ret;exact⟨rfl,hal⟩
  obtain rfl:Bv=true:=hBv.out;clear hBv;go_wp2;go_ret;exact⟨rfl,hal⟩
 ·replace hBv:Hid (Bv=(bJ a true 7 && (bJ b true 8 && (bJ c true 7 && (true))))):=hBv.out
  have fa:=λw=>ch a true 7 w
  have fb:=λw=>ch b true 8 w
  have fc:=λw=>ch c true 7 w
  generalize bJ a true 7=ra at *;generalize bJ b true 8=rb' at *;generalize bJ c true 7=rc at *;go_wp2_with fail;refine(fa _).mono ?_;rintro e w' ⟨rfl,rfl⟩;cases ra
  ·obtain rfl:Bv=false:=hBv.out
   clear hBv;go_wp2;go_ret;exact⟨rfl,hal⟩
  go_wp2_with fail;refine(fb _).mono ?_;rintro e w' ⟨rfl,rfl⟩
  cases rb'
  ·obtain rfl:Bv=false:=hBv.out
   clear hBv;go_wp2;go_ret;exact⟨rfl,hal⟩
  go_wp2_with fail;refine(fc _).mono ?_;rintro e w' ⟨rfl,rfl⟩;cases rc
  ·obtain rfl:Bv=false:=hBv.out
   clear hBv;go_wp2;go_ret;exact⟨rfl,hal⟩
  obtain rfl:Bv=true:=hBv.out;clear hBv;go_wp2;go_ret;exact⟨rfl,hal⟩
 ·replace hBv:Hid (Bv=(bJ a true 7 && (bJ b false 7 && (bJ c false 7 && (k == 0))))):=hBv.out
  have fa:=λw=>ch a true 7 w
  have fb:=λw=>ch b false 7 w
  have fc:=λw=>ch c false 7 w
  generalize bJ a true 7=ra at *;generalize bJ b false 7=rb' at *;generalize bJ c false 7=rc at *;go_wp2_with fail;refine(fa _).mono ?_;rintro e w' ⟨rfl,rfl⟩;cases ra
  ·obtain rfl:Bv=false:=hBv.out
   clear hBv;go_wp2;go_ret;exact⟨rfl,hal⟩
  go_wp2_with fail;refine(fb _).mono ?_;rintro e w' ⟨rfl,rfl⟩
  cases rb'
  ·obtain rfl:Bv=false:=hBv.out
   clear hBv;go_wp2;go_ret;exact⟨rfl,hal⟩
  go_wp2_with fail;refine(fc _).mono ?_;rintro e w' ⟨rfl,rfl⟩;cases rc
  ·obtain rfl:Bv=false:=hBv.out
   clear hBv;go_wp2;go_ret;exact⟨rfl,hal⟩
  by_cases hk:k=0
  ·subst hk
   obtain rfl:Bv=true:=hBv.out;clear hBv;go_wp2;go_ret;exact⟨rfl,hal⟩
  ·have qk:(k == 0)=false:=by simp[hk]
   obtain rfl:Bv=false:=hBv.out.trans qk;clear hBv;go_wp2;go_ret;exact⟨rfl,hal⟩
theorem addW(a b:Int)(w:World):Calls Tryz.prog 152 #[.int .u32 a,.int .u32 b] w λe w'=>e=.returned (.int .u32 ((a+b)%4294967296))/\w'=w:=by
 go_enter Tryz.func152,Tryz.ntmps152;go_wp2;go_ret
 exact⟨by first|rfl|(congr 2;first|omega|(simp only[IntKind.wrap_u32];omega)),rfl⟩
theorem subW(a b:Int)(w:World):Calls Tryz.prog 153 #[.int .u32 a,.int .u32 b] w λe w'=>e=.returned (.int .u32 ((a - b)%4294967296))/\w'=w:=by
 go_enter Tryz.func153,Tryz.ntmps153;go_wp2;go_ret
 exact⟨by first|rfl|(congr 2;first|omega|(simp only[IntKind.wrap_u32];omega)),rfl⟩
theorem mulW(a b:Int)(w:World):Calls Tryz.prog 154 #[.int .u32 a,.int .u32 b] w λe w'=>e=.returned (.int .u32 ((a * b)%4294967296))/\w'=w:=by
 go_enter Tryz.func154,Tryz.ntmps154;go_wp2;go_ret
 exact⟨by first|rfl|(congr 2;first|omega|(simp only[IntKind.wrap_u32];omega)),rfl⟩
theorem GD(w:World):Calls Tryz.prog 202 #[.bool true] w λe w'=>e=.returned (.int .u32 1)/\w'=w:=by
 go_enter Tryz.func202,Tryz.ntmps202;go_wp2;go_ret;exact⟨rfl,rfl⟩
theorem Gr(w:World):Calls Tryz.prog 202 #[.bool false] w λe w'=>e=.returned (.int .u32 0)/\w'=w:=by
 go_enter Tryz.func202,Tryz.ntmps202;go_wp2;go_ret;exact⟨rfl,rfl⟩
theorem G4(a b:Int)(w:World):Calls Tryz.prog 160 #[.int .u32 a,.int .u32 b] w λe w'=>e=.returned (.int .u32 (if a<b then 1 else 0))/\w'=w:=by
 by_cases h:a<b
 ·rw[ag h]
  go_enter Tryz.func160,Tryz.ntmps160;go_wp2_with fail;refine(GD w).mono ?_;rintro e w' ⟨rfl,rfl⟩;go_wp2;go_ret;exact⟨rfl,rfl⟩
 ·rw[af h]
  go_enter Tryz.func160,Tryz.ntmps160;go_wp2_with fail;refine(Gr w).mono ?_;rintro e w' ⟨rfl,rfl⟩;go_wp2;go_ret;exact⟨rfl,rfl⟩
theorem Gd(a b:Int)(w:World):Calls Tryz.prog 161 #[.int .u32 a,.int .u32 b] w λe w'=>e=.returned (.int .u32 (if a=b then 1 else 0))/\w'=w:=by
 by_cases h:a=b
 ·rw[ag h]
  subst h;go_enter Tryz.func161,Tryz.ntmps161;go_wp2_with fail;refine(GD w).mono ?_;rintro e w' ⟨rfl,rfl⟩;go_wp2;go_ret;exact⟨rfl,rfl⟩
 ·rw[af h]
  have hq:(a == b)=false:=by simp[h]
  go_enter Tryz.func161,Tryz.ntmps161;go_wp2_with fail;refine(Gr w).mono ?_;rintro e w' ⟨rfl,rfl⟩;go_wp2;go_ret;exact⟨rfl,rfl⟩
theorem andW(a b:Int)(ha:0<=a/\a<4294967296)(hb:0<=b/\b<4294967296)(w:World):Calls Tryz.prog 155 #[.int .u32 a,.int .u32 b] w λe w'=>e=.returned (.int .u32 (bits BinOp.and IntKind.u32 a b))/\w'=w:=by
 obtain⟨a0,a1⟩:=ha;obtain⟨b0,b1⟩:=hb;go_enter Tryz.func155,Tryz.ntmps155;go_wp2;go_ret;exact⟨rfl,rfl⟩
theorem orW(a b:Int)(ha:0<=a/\a<4294967296)(hb:0<=b/\b<4294967296)(w:World):Calls Tryz.prog 156 #[.int .u32 a,.int .u32 b] w λe w'=>e=.returned (.int .u32 (bits BinOp.or IntKind.u32 a b))/\w'=w:=by
 obtain⟨a0,a1⟩:=ha;obtain⟨b0,b1⟩:=hb;go_enter Tryz.func156,Tryz.ntmps156;go_wp2;go_ret;exact⟨rfl,rfl⟩
theorem xorW(a b:Int)(ha:0<=a/\a<4294967296)(hb:0<=b/\b<4294967296)(w:World):Calls Tryz.prog 157 #[.int .u32 a,.int .u32 b] w λe w'=>e=.returned (.int .u32 (bits BinOp.xor IntKind.u32 a b))/\w'=w:=by
 obtain⟨a0,a1⟩:=ha;obtain⟨b0,b1⟩:=hb;go_enter Tryz.func157,Tryz.ntmps157;go_wp2;go_ret;exact⟨rfl,rfl⟩
theorem shlW(a b:Int)(ha:0<=a/\a<4294967296)(hb:0<=b/\b<4294967296)(w:World):Calls Tryz.prog 158 #[.int .u32 a,.int .u32 b] w λe w'=>e=.returned (.int .u32 (a * 2 ^ (b%32).toNat%4294967296))/\w'=w:=by
 obtain⟨a0,a1⟩:=ha;obtain⟨b0,b1⟩:=hb;go_enter Tryz.func158,Tryz.ntmps158;go_wp2;go_ret;exact⟨rfl,rfl⟩
theorem shrW(a b:Int)(ha:0<=a/\a<4294967296)(hb:0<=b/\b<4294967296)(w:World):Calls Tryz.prog 159 #[.int .u32 a,.int .u32 b] w λe w'=>e=.returned (.int .u32 (a / 2 ^ (b%32).toNat))/\w'=w:=by
 obtain⟨a0,a1⟩:=ha;obtain⟨b0,b1⟩:=hb;go_enter Tryz.func159,Tryz.ntmps159;go_wp2;go_ret;exact⟨rfl,rfl⟩
def gj(op a b:Int):Int:=
 if op=3 then(a+b)%4294967296 else if op=4 then(a - b)%4294967296 else if op=5 then(a * b)%4294967296
 else if op=6 then bits BinOp.and IntKind.u32 a b else if op=7 then bits BinOp.or IntKind.u32 a b else if op=8 then bits BinOp.xor IntKind.u32 a b
 else if op=9 then a * 2 ^ (b%32).toNat%4294967296 else if op=10 then a / 2 ^ (b%32).toNat else if op=11 then(if a<b then 1 else 0) else if op=12 then(if a=b then 1 else 0) else 0
theorem isC(op:Int)(w:World):Calls Tryz.prog 151 #[.int .i64 op] w λe w'=>e=.returned (.bool (decide (3<=op/\op<=12)))/\w'=w:=by
 by_cases h0:3<=op
 ·by_cases h1:op<=12
  ·rw[ay (⟨h0,h1⟩:3<=op/\op<=12)]
   go_enter Tryz.func151,Tryz.ntmps151;go_wp2;go_ret;exact⟨rfl,rfl⟩
  ·rw[az (λh=>h1 h.2:¬(3<=op/\op<=12))]
   go_enter Tryz.func151,Tryz.ntmps151;go_wp2;go_ret;exact⟨rfl,rfl⟩
 ·rw[az (λh=>h0 h.1:¬(3<=op/\op<=12))]
  go_enter Tryz.func151,Tryz.ntmps151;go_wp2;go_ret;exact⟨rfl,rfl⟩
theorem zq(op a b:Int)(ha:0<=a/\a<4294967296)(hb:0<=b/\b<4294967296)(w:World):Calls Tryz.prog 95 #[.int .i64 op,.int .u32 a,.int .u32 b] w λe w'=>e=.returned (.tuple #[.int .u32 (gj op a b),.bool (decide (3<=op/\op<=12))])/\Below w.heap.size w w':=by
 by_cases h:3<=op/\op<=12
 case neg=>
  rw[az h,show gj op a b=0 from by unfold gj;simp only[show ¬op=3 by omega,show ¬op=4 by omega,show ¬op=5 by omega,show ¬op=6 by omega,show ¬op=7 by omega,show ¬op=8 by omega,show ¬op=9 by omega,show ¬op=10 by omega,show ¬op=11 by omega,show ¬op=12 by omega,if_false]];have hi:=isC op w;rw[az h]at hi;go_enter Tryz.func95,Tryz.ntmps95;go_wp2_with fail;refine hi.mono ?_;rintro e w' ⟨rfl,rfl⟩;go_wp2;go_ret2;exact⟨rfl,ak _ _⟩
 rw[ay h]
 have ho:op=3\/op=4\/op=5\/op=6\/op=7\/op=8\/op=9\/op=10\/op=11\/op=12:=by omega
 clear h;rcases ho with rfl|rfl|rfl|rfl|rfl|rfl|rfl|rfl|rfl|rfl
 ·have hi:=isC 3 w
  rw[show decide ((3:Int)<=3/\(3:Int)<=12)=true from rfl]at hi;rw[show gj 3 a b=((a+b)%4294967296) from rfl]
  have hv:=λw=>addW a b w
  generalize ((a+b)%4294967296:Int)=r at *;go_enter Tryz.func95,Tryz.ntmps95;go_wp2_with fail;refine hi.mono ?_;rintro e w' ⟨rfl,rfl⟩;go_upto_region 3 with(fail);refine ab ?_;refine aG rfl (.agg #[.func (.func 152) #[] #[],.func (.func 153) #[] #[],.func (.func 154) #[] #[],.func (.func 155) #[] #[],.func (.func 156) #[] #[],.func (.func 157) #[] #[],.func (.func 158) #[] #[],.func (.func 159) #[] #[],.func (.func 160) #[] #[],.func (.func 161) #[] #[]]) ?_ ?_
  ·go_simp
  refine Zk ?_;refine Za 230 #[.nilFunc,.nilFunc,.nilFunc,.nilFunc,.nilFunc,.nilFunc,.nilFunc,.nilFunc,.nilFunc,.nilFunc] (λw2 b8 X8 l8 f8=>?_);refine Zo 230 b8 #[.func (.func 152) #[] #[],.func (.func 153) #[] #[],.func (.func 154) #[] #[],.func (.func 155) #[] #[],.func (.func 156) #[] #[],.func (.func 157) #[] #[],.func (.func 158) #[] #[],.func (.func 159) #[] #[],.func (.func 160) #[] #[],.func (.func 161) #[] #[]] X8 (λw3 g1 g2 g3 g4=>?_);have hal:Below w'.heap.size w' w3:=l8.trans (g3 _ (by simp only[Hid]at f8;omega));clear X8 f8 g2 g3 g4;have yy:=ae w3 b8 0 _ 230 _ g1;clear g1;go_wp2_with fail;refine(hv _).mono ?_;rintro e w1 ⟨rfl,rfl⟩;go_wp2;go_ret2;exact⟨rfl,hal⟩
 ·have hi:=isC 4 w
  rw[show decide ((3:Int)<=4/\(4:Int)<=12)=true from rfl]at hi;rw[show gj 4 a b=((a - b)%4294967296) from rfl]
  have hv:=λw=>subW a b w
  generalize ((a - b)%4294967296:Int)=r at *;go_enter Tryz.func95,Tryz.ntmps95;go_wp2_with fail;refine hi.mono ?_;rintro e w' ⟨rfl,rfl⟩;go_upto_region 3 with(fail);refine ab ?_;refine aG rfl (.agg #[.func (.func 152) #[] #[],.func (.func 153) #[] #[],.func (.func 154) #[] #[],.func (.func 155) #[] #[],.func (.func 156) #[] #[],.func (.func 157) #[] #[],.func (.func 158) #[] #[],.func (.func 159) #[] #[],.func (.func 160) #[] #[],.func (.func 161) #[] #[]]) ?_ ?_
  ·go_simp
  refine Zk ?_;refine Za 230 #[.nilFunc,.nilFunc,.nilFunc,.nilFunc,.nilFunc,.nilFunc,.nilFunc,.nilFunc,.nilFunc,.nilFunc] (λw2 b8 X8 l8 f8=>?_);refine Zo 230 b8 #[.func (.func 152) #[] #[],.func (.func 153) #[] #[],.func (.func 154) #[] #[],.func (.func 155) #[] #[],.func (.func 156) #[] #[],.func (.func 157) #[] #[],.func (.func 158) #[] #[],.func (.func 159) #[] #[],.func (.func 160) #[] #[],.func (.func 161) #[] #[]] X8 (λw3 g1 g2 g3 g4=>?_);have hal:Below w'.heap.size w' w3:=l8.trans (g3 _ (by simp only[Hid]at f8;omega));clear X8 f8 g2 g3 g4;have yy:=ae w3 b8 1 _ 230 _ g1;clear g1;go_wp2_with fail;refine(hv _).mono ?_;rintro e w1 ⟨rfl,rfl⟩;go_wp2;go_ret2;exact⟨rfl,hal⟩
 ·have hi:=isC 5 w
  rw[show decide ((3:Int)<=5/\(5:Int)<=12)=true from rfl]at hi;rw[show gj 5 a b=((a * b)%4294967296) from rfl]
  have hv:=λw=>mulW a b w
  generalize ((a * b)%4294967296:Int)=r at *;go_enter Tryz.func95,Tryz.ntmps95;go_wp2_with fail;refine hi.mono ?_;rintro e w' ⟨rfl,rfl⟩;go_upto_region 3 with(fail);refine ab ?_;refine aG rfl (.agg #[.func (.func 152) #[] #[],.func (.func 153) #[] #[],.func (.func 154) #[] #[],.func (.func 155) #[] #[],.func (.func 156) #[] #[],.func (.func 157) #[] #[],.func (.func 158) #[] #[],.func (.func 159) #[] #[],.func (.func 160) #[] #[],.func (.func 161) #[] #[]]) ?_ ?_
  ·go_simp
  refine Zk ?_;refine Za 230 #[.nilFunc,.nilFunc,.nilFunc,.nilFunc,.nilFunc,.nilFunc,.nilFunc,.nilFunc,.nilFunc,.nilFunc] (λw2 b8 X8 l8 f8=>?_);refine Zo 230 b8 #[.func (.func 152) #[] #[],.func (.func 153) #[] #[],.func (.func 154) #[] #[],.func (.func 155) #[] #[],.func (.func 156) #[] #[],.func (.func 157) #[] #[],.func (.func 158) #[] #[],.func (.func 159) #[] #[],.func (.func 160) #[] #[],.func (.func 161) #[] #[]] X8 (λw3 g1 g2 g3 g4=>?_);have hal:Below w'.heap.size w' w3:=l8.trans (g3 _ (by simp only[Hid]at f8;omega));clear X8 f8 g2 g3 g4;have yy:=ae w3 b8 2 _ 230 _ g1;clear g1;go_wp2_with fail;refine(hv _).mono ?_;rintro e w1 ⟨rfl,rfl⟩;go_wp2;go_ret2;exact⟨rfl,hal⟩
 ·have hi:=isC 6 w
  rw[show decide ((3:Int)<=6/\(6:Int)<=12)=true from rfl]at hi;rw[show gj 6 a b=(bits BinOp.and IntKind.u32 a b) from rfl]
  have hv:=λw=>andW a b ha hb w
  generalize (bits BinOp.and IntKind.u32 a b:Int)=r at *;go_enter Tryz.func95,Tryz.ntmps95;go_wp2_with fail;refine hi.mono ?_;rintro e w' ⟨rfl,rfl⟩;go_upto_region 3 with(fail);refine ab ?_;refine aG rfl (.agg #[.func (.func 152) #[] #[],.func (.func 153) #[] #[],.func (.func 154) #[] #[],.func (.func 155) #[] #[],.func (.func 156) #[] #[],.func (.func 157) #[] #[],.func (.func 158) #[] #[],.func (.func 159) #[] #[],.func (.func 160) #[] #[],.func (.func 161) #[] #[]]) ?_ ?_
  ·go_simp
  refine Zk ?_;refine Za 230 #[.nilFunc,.nilFunc,.nilFunc,.nilFunc,.nilFunc,.nilFunc,.nilFunc,.nilFunc,.nilFunc,.nilFunc] (λw2 b8 X8 l8 f8=>?_);refine Zo 230 b8 #[.func (.func 152) #[] #[],.func (.func 153) #[] #[],.func (.func 154) #[] #[],.func (.func 155) #[] #[],.func (.func 156) #[] #[],.func (.func 157) #[] #[],.func (.func 158) #[] #[],.func (.func 159) #[] #[],.func (.func 160) #[] #[],.func (.func 161) #[] #[]] X8 (λw3 g1 g2 g3 g4=>?_);have hal:Below w'.heap.size w' w3:=l8.trans (g3 _ (by simp only[Hid]at f8;omega));clear X8 f8 g2 g3 g4;have yy:=ae w3 b8 3 _ 230 _ g1;clear g1;go_wp2_with fail;refine(hv _).mono ?_;rintro e w1 ⟨rfl,rfl⟩;go_wp2;go_ret2;exact⟨rfl,hal⟩
 ·have hi:=isC 7 w
  rw[show decide ((3:Int)<=7/\(7:Int)<=12)=true from rfl]at hi;rw[show gj 7 a b=(bits BinOp.or IntKind.u32 a b) from rfl]
  have hv:=λw=>orW a b ha hb w
  generalize (bits BinOp.or IntKind.u32 a b:Int)=r at *;go_enter Tryz.func95,Tryz.ntmps95;go_wp2_with fail;refine hi.mono ?_;rintro e w' ⟨rfl,rfl⟩;go_upto_region 3 with(fail);refine ab ?_;refine aG rfl (.agg #[.func (.func 152) #[] #[],.func (.func 153) #[] #[],.func (.func 154) #[] #[],.func (.func 155) #[] #[],.func (.func 156) #[] #[],.func (.func 157) #[] #[],.func (.func 158) #[] #[],.func (.func 159) #[] #[],.func (.func 160) #[] #[],.func (.func 161) #[] #[]]) ?_ ?_
  ·go_simp
  refine Zk ?_;refine Za 230 #[.nilFunc,.nilFunc,.nilFunc,.nilFunc,.nilFunc,.nilFunc,.nilFunc,.nilFunc,.nilFunc,.nilFunc] (λw2 b8 X8 l8 f8=>?_);refine Zo 230 b8 #[.func (.func 152) #[] #[],.func (.func 153) #[] #[],.func (.func 154) #[] #[],.func (.func 155) #[] #[],.func (.func 156) #[] #[],.func (.func 157) #[] #[],.func (.func 158) #[] #[],.func (.func 159) #[] #[],.func (.func 160) #[] #[],.func (.func 161) #[] #[]] X8 (λw3 g1 g2 g3 g4=>?_);have hal:Below w'.heap.size w' w3:=l8.trans (g3 _ (by simp only[Hid]at f8;omega));clear X8 f8 g2 g3 g4;have yy:=ae w3 b8 4 _ 230 _ g1;clear g1;go_wp2_with fail;refine(hv _).mono ?_;rintro e w1 ⟨rfl,rfl⟩;go_wp2;go_ret2;exact⟨rfl,hal⟩
 ·have hi:=isC 8 w
  rw[show decide ((3:Int)<=8/\(8:Int)<=12)=true from rfl]at hi;rw[show gj 8 a b=(bits BinOp.xor IntKind.u32 a b) from rfl]
  have hv:=λw=>xorW a b ha hb w
  generalize (bits BinOp.xor IntKind.u32 a b:Int)=r at *;go_enter Tryz.func95,Tryz.ntmps95;go_wp2_with fail;refine hi.mono ?_;rintro e w' ⟨rfl,rfl⟩;go_upto_region 3 with(fail);refine ab ?_;refine aG rfl (.agg #[.func (.func 152) #[] #[],.func (.func 153) #[] #[],.func (.func 154) #[] #[],.func (.func 155) #[] #[],.func (.func 156) #[] #[],.func (.func 157) #[] #[],.func (.func 158) #[] #[],.func (.func 159) #[] #[],.func (.func 160) #[] #[],.func (.func 161) #[] #[]]) ?_ ?_
  ·go_simp
  refine Zk ?_;refine Za 230 #[.nilFunc,.nilFunc,.nilFunc,.nilFunc,.nilFunc,.nilFunc,.nilFunc,.nilFunc,.nilFunc,.nilFunc] (λw2 b8 X8 l8 f8=>?_);refine Zo 230 b8 #[.func (.func 152) #[] #[],.func (.func 153) #[] #[],.func (.func 154) #[] #[],.func (.func 155) #[] #[],.func (.func 156) #[] #[],.func (.func 157) #[] #[],.func (.func 158) #[] #[],.func (.func 159) #[] #[],.func (.func 160) #[] #[],.func (.func 161) #[] #[]] X8 (λw3 g1 g2 g3 g4=>?_);have hal:Below w'.heap.size w' w3:=l8.trans (g3 _ (by simp only[Hid]at f8;omega));clear X8 f8 g2 g3 g4;have yy:=ae w3 b8 5 _ 230 _ g1;clear g1;go_wp2_with fail;refine(hv _).mono ?_;rintro e w1 ⟨rfl,rfl⟩;go_wp2;go_ret2;exact⟨rfl,hal⟩
 ·have hi:=isC 9 w
  rw[show decide ((3:Int)<=9/\(9:Int)<=12)=true from rfl]at hi;rw[show gj 9 a b=(a * 2 ^ (b%32).toNat%4294967296) from rfl]
  have hv:=λw=>shlW a b ha hb w
  generalize (a * 2 ^ (b%32).toNat%4294967296:Int)=r at *;go_enter Tryz.func95,Tryz.ntmps95;go_wp2_with fail;refine hi.mono ?_;rintro e w' ⟨rfl,rfl⟩;go_upto_region 3 with(fail);refine ab ?_;refine aG rfl (.agg #[.func (.func 152) #[] #[],.func (.func 153) #[] #[],.func (.func 154) #[] #[],.func (.func 155) #[] #[],.func (.func 156) #[] #[],.func (.func 157) #[] #[],.func (.func 158) #[] #[],.func (.func 159) #[] #[],.func (.func 160) #[] #[],.func (.func 161) #[] #[]]) ?_ ?_
  ·go_simp
  refine Zk ?_;refine Za 230 #[.nilFunc,.nilFunc,.nilFunc,.nilFunc,.nilFunc,.nilFunc,.nilFunc,.nilFunc,.nilFunc,.nilFunc] (λw2 b8 X8 l8 f8=>?_);refine Zo 230 b8 #[.func (.func 152) #[] #[],.func (.func 153) #[] #[],.func (.func 154) #[] #[],.func (.func 155) #[] #[],.func (.func 156) #[] #[],.func (.func 157) #[] #[],.func (.func 158) #[] #[],.func (.func 159) #[] #[],.func (.func 160) #[] #[],.func (.func 161) #[] #[]] X8 (λw3 g1 g2 g3 g4=>?_);have hal:Below w'.heap.size w' w3:=l8.trans (g3 _ (by simp only[Hid]at f8;omega));clear X8 f8 g2 g3 g4;have yy:=ae w3 b8 6 _ 230 _ g1;clear g1;go_wp2_with fail;refine(hv _).mono ?_;rintro e w1 ⟨rfl,rfl⟩;go_wp2;go_ret2;exact⟨rfl,hal⟩
 ·have hi:=isC 10 w
  rw[show decide ((3:Int)<=10/\(10:Int)<=12)=true from rfl]at hi;rw[show gj 10 a b=(a / 2 ^ (b%32).toNat) from rfl]
  have hv:=λw=>shrW a b ha hb w
  generalize (a / 2 ^ (b%32).toNat:Int)=r at *;go_enter Tryz.func95,Tryz.ntmps95;go_wp2_with fail;refine hi.mono ?_;rintro e w' ⟨rfl,rfl⟩;go_upto_region 3 with(fail);refine ab ?_;refine aG rfl (.agg #[.func (.func 152) #[] #[],.func (.func 153) #[] #[],.func (.func 154) #[] #[],.func (.func 155) #[] #[],.func (.func 156) #[] #[],.func (.func 157) #[] #[],.func (.func 158) #[] #[],.func (.func 159) #[] #[],.func (.func 160) #[] #[],.func (.func 161) #[] #[]]) ?_ ?_
  ·go_simp
  refine Zk ?_;refine Za 230 #[.nilFunc,.nilFunc,.nilFunc,.nilFunc,.nilFunc,.nilFunc,.nilFunc,.nilFunc,.nilFunc,.nilFunc] (λw2 b8 X8 l8 f8=>?_);refine Zo 230 b8 #[.func (.func 152) #[] #[],.func (.func 153) #[] #[],.func (.func 154) #[] #[],.func (.func 155) #[] #[],.func (.func 156) #[] #[],.func (.func 157) #[] #[],.func (.func 158) #[] #[],.func (.func 159) #[] #[],.func (.func 160) #[] #[],.func (.func 161) #[] #[]] X8 (λw3 g1 g2 g3 g4=>?_);have hal:Below w'.heap.size w' w3:=l8.trans (g3 _ (by simp only[Hid]at f8;omega));clear X8 f8 g2 g3 g4;have yy:=ae w3 b8 7 _ 230 _ g1;clear g1;go_wp2_with fail;refine(hv _).mono ?_;rintro e w1 ⟨rfl,rfl⟩;go_wp2;go_ret2;exact⟨rfl,hal⟩
 ·have hi:=isC 11 w
  rw[show decide ((3:Int)<=11/\(11:Int)<=12)=true from rfl]at hi;rw[show gj 11 a b=(if a<b then 1 else 0) from rfl]
  have hv:=λw=>G4 a b w
  generalize (if a<b then 1 else 0:Int)=r at *;go_enter Tryz.func95,Tryz.ntmps95;go_wp2_with fail;refine hi.mono ?_;rintro e w' ⟨rfl,rfl⟩;go_upto_region 3 with(fail);refine ab ?_;refine aG rfl (.agg #[.func (.func 152) #[] #[],.func (.func 153) #[] #[],.func (.func 154) #[] #[],.func (.func 155) #[] #[],.func (.func 156) #[] #[],.func (.func 157) #[] #[],.func (.func 158) #[] #[],.func (.func 159) #[] #[],.func (.func 160) #[] #[],.func (.func 161) #[] #[]]) ?_ ?_
  ·go_simp
  refine Zk ?_;refine Za 230 #[.nilFunc,.nilFunc,.nilFunc,.nilFunc,.nilFunc,.nilFunc,.nilFunc,.nilFunc,.nilFunc,.nilFunc] (λw2 b8 X8 l8 f8=>?_);refine Zo 230 b8 #[.func (.func 152) #[] #[],.func (.func 153) #[] #[],.func (.func 154) #[] #[],.func (.func 155) #[] #[],.func (.func 156) #[] #[],.func (.func 157) #[] #[],.func (.func 158) #[] #[],.func (.func 159) #[] #[],.func (.func 160) #[] #[],.func (.func 161) #[] #[]] X8 (λw3 g1 g2 g3 g4=>?_);have hal:Below w'.heap.size w' w3:=l8.trans (g3 _ (by simp only[Hid]at f8;omega));clear X8 f8 g2 g3 g4;have yy:=ae w3 b8 8 _ 230 _ g1;clear g1;go_wp2_with fail;refine(hv _).mono ?_;rintro e w1 ⟨rfl,rfl⟩;go_wp2;go_ret2;exact⟨rfl,hal⟩
 ·have hi:=isC 12 w
  rw[show decide ((3:Int)<=12/\(12:Int)<=12)=true from rfl]at hi;rw[show gj 12 a b=(if a=b then 1 else 0) from rfl]
  have hv:=λw=>Gd a b w
  generalize (if a=b then 1 else 0:Int)=r at *;go_enter Tryz.func95,Tryz.ntmps95;go_wp2_with fail;refine hi.mono ?_;rintro e w' ⟨rfl,rfl⟩;go_upto_region 3 with(fail);refine ab ?_;refine aG rfl (.agg #[.func (.func 152) #[] #[],.func (.func 153) #[] #[],.func (.func 154) #[] #[],.func (.func 155) #[] #[],.func (.func 156) #[] #[],.func (.func 157) #[] #[],.func (.func 158) #[] #[],.func (.func 159) #[] #[],.func (.func 160) #[] #[],.func (.func 161) #[] #[]]) ?_ ?_
  ·go_simp
  refine Zk ?_;refine Za 230 #[.nilFunc,.nilFunc,.nilFunc,.nilFunc,.nilFunc,.nilFunc,.nilFunc,.nilFunc,.nilFunc,.nilFunc] (λw2 b8 X8 l8 f8=>?_);refine Zo 230 b8 #[.func (.func 152) #[] #[],.func (.func 153) #[] #[],.func (.func 154) #[] #[],.func (.func 155) #[] #[],.func (.func 156) #[] #[],.func (.func 157) #[] #[],.func (.func 158) #[] #[],.func (.func 159) #[] #[],.func (.func 160) #[] #[],.func (.func 161) #[] #[]] X8 (λw3 g1 g2 g3 g4=>?_);have hal:Below w'.heap.size w' w3:=l8.trans (g3 _ (by simp only[Hid]at f8;omega));clear X8 f8 g2 g3 g4;have yy:=ae w3 b8 9 _ 230 _ g1;clear g1;go_wp2_with fail;refine(hv _).mono ?_;rintro e w1 ⟨rfl,rfl⟩;go_wp2;go_ret2;exact⟨rfl,hal⟩
end Go.Proofs.YtldlcnaphednnaaGreatDoor
