/- The builder's helpers of bias, seq, mutex, gate. The builder's helpers of queue. -/
import Derived.Test.YtldlcnaphednnaaGreatDoorM07
set_option maxRecDepth 100000
set_option maxHeartbeats 32000000
set_option linter.unusedVariables false
set_option linter.unusedSimpArgs false
namespace Go.Proofs.YtldlcnaphednnaaGreatDoor
open Go.RowKit Go.Maps
section
attribute [local simp] fL ft fN df dj cH iI dX eh cU dh fP fE cj ee dW
def nW(st:BS)(base:Int):BS:=((((st.place dv).set 4 0).cas 4 5 ((base+2)%4294967296)).go 15 4 dv)
@[simp] theorem eW(st:BS)(base:Int):(nW st base).sz=st.sz+5:=by
 unfold nW;simp
theorem D5{b:Nat}{F:Nat->Prop}{st:BS}{base:Int}{w:World}(hB:BMem w b F st)(hs:st.sz<=3800:=by first|omega|(simp<;>omega)):Calls Tryz.prog 190 #[.pointer (some ⟨b,0,none⟩),.int .u32 base] w λe w'=>e=.returned (.tuple #[])/\∃F',BMem w' b F' (nW st base)/\Upd F F' w w':=by
 go_enter Tryz.func190,Tryz.ntmps190;have hU:=Upd.refl F w;go_wp2_with fail
 refine(Zx hU (aY hB jH (by decide) (by first|omega|(simp<;>omega)))).mono ?_
 rintro e w' ⟨rfl,F',hB,hU⟩;go_wp2_with fail;refine(Zx hU (bF hB)).mono ?_;rintro e w' ⟨rfl,F',hB,hU⟩;go_wp2_with fail;refine(Zx hU (qd hB)).mono ?_;rintro e w' ⟨rfl,F',hB,hU⟩;go_wp2_with fail;refine(Zx hU (goC hB)).mono ?_;rintro e w' ⟨rfl,F',hB,hU⟩;go_wp2;go_end0;exact⟨rfl,_,hB,hU⟩
def iU(st:BS)(base:Int):BS:=(((nW (cE ((((st.set 4 1).ask 17 4 (base%4294967296)).ask 16 4 ((base+1)%4294967296)).go 14 4 fq) (base%4294967296)) base).place fq).ask 17 5 ((base+3)%4294967296))
@[simp] theorem cN(st:BS)(base:Int):(iU st base).sz=st.sz+14:=by
 unfold iU;simp
theorem Cc{b:Nat}{F:Nat->Prop}{st:BS}{base:Int}{w:World}(hB:BMem w b F st)(hs:st.sz<=3700:=by first|omega|(simp<;>omega)):Calls Tryz.prog 133 #[.pointer (some ⟨b,0,none⟩),.int .u32 base] w λe w'=>e=.returned (.tuple #[])/\∃F',BMem w' b F' (iU st base)/\Upd F F' w w':=by
 go_enter Tryz.func133,Tryz.ntmps133;have hU:=Upd.refl F w;go_wp2_with fail;refine(Zx hU (bF hB)).mono ?_;rintro e w' ⟨rfl,F',hB,hU⟩;go_wp2_with fail;refine(Zx hU (bi hB)).mono ?_;rintro e w' ⟨rfl,F',hB,hU⟩;go_wp2_with fail;refine(Zx hU (bi hB)).mono ?_;rintro e w' ⟨rfl,F',hB,hU⟩;go_wp2_with fail;refine(Zx hU (goC hB)).mono ?_;rintro e w' ⟨rfl,F',hB,hU⟩;go_wp2_with fail;refine(Zx hU (gL hB)).mono ?_;rintro e w' ⟨rfl,F',hB,hU⟩;go_wp2_with fail;refine(Zx hU (D5 hB)).mono ?_;rintro e w' ⟨rfl,F',hB,hU⟩;go_wp2_with fail
 refine(Zx hU (aY hB mA (by decide) (by first|omega|(simp<;>omega)))).mono ?_
 rintro e w' ⟨rfl,F',hB,hU⟩;go_wp2_with fail;refine(Zx hU (bi hB)).mono ?_;rintro e w' ⟨rfl,F',hB,hU⟩;go_wp2;go_end0;exact⟨rfl,_,hB,hU⟩
def ko(st:BS)(base:Int):BS:=(((((((((((nW st base).ask 16 4 ((base+1)%4294967296)).go 15 4 fq).set 4 1).ask 17 4 ((base+1)%4294967296)).emit ⟨25,0,0,0,0⟩).place jU).ask 16 4 (base%4294967296)).go 15 4 jU).place fq).ask 17 5 ((base+3)%4294967296))
@[simp] theorem dx(st:BS)(base:Int):(ko st base).sz=st.sz+17:=by
 unfold ko;simp
theorem EJ{b:Nat}{F:Nat->Prop}{st:BS}{base:Int}{w:World}(hB:BMem w b F st)(hs:st.sz<=3700:=by first|omega|(simp<;>omega)):Calls Tryz.prog 134 #[.pointer (some ⟨b,0,none⟩),.int .u32 base] w λe w'=>e=.returned (.tuple #[])/\∃F',BMem w' b F' (ko st base)/\Upd F F' w w':=by
 go_enter Tryz.func134,Tryz.ntmps134;have hU:=Upd.refl F w;go_wp2_with fail;refine(Zx hU (D5 hB)).mono ?_;rintro e w' ⟨rfl,F',hB,hU⟩;go_wp2_with fail;refine(Zx hU (bi hB)).mono ?_;rintro e w' ⟨rfl,F',hB,hU⟩;go_wp2_with fail;refine(Zx hU (goC hB)).mono ?_;rintro e w' ⟨rfl,F',hB,hU⟩;go_wp2_with fail;refine(Zx hU (bF hB)).mono ?_;rintro e w' ⟨rfl,F',hB,hU⟩;go_wp2_with fail;refine(Zx hU (bi hB)).mono ?_;rintro e w' ⟨rfl,F',hB,hU⟩;go_wp2_with fail
 refine(Zx hU (kg ⟨25,0,0,0,0⟩ _ hB (Nat.le_succ_of_le (by first|omega|(simp<;>omega))))).mono ?_
 rintro e w' ⟨rfl,F',hB,hU⟩;go_wp2_with fail
 refine(Zx hU (aY hB rP (by decide) (by first|omega|(simp<;>omega)))).mono ?_
 rintro e w' ⟨rfl,F',hB,hU⟩;go_wp2_with fail;refine(Zx hU (bi hB)).mono ?_;rintro e w' ⟨rfl,F',hB,hU⟩;go_wp2_with fail;refine(Zx hU (goC hB)).mono ?_;rintro e w' ⟨rfl,F',hB,hU⟩;go_wp2_with fail
 refine(Zx hU (aY hB mA (by decide) (by first|omega|(simp<;>omega)))).mono ?_
 rintro e w' ⟨rfl,F',hB,hU⟩;go_wp2_with fail;refine(Zx hU (bi hB)).mono ?_;rintro e w' ⟨rfl,F',hB,hU⟩;go_wp2;go_end0;exact⟨rfl,_,hB,hU⟩
def ky(st:BS)(base:Int):BS:=((cE (((cE ((((cE st ((base+3)%4294967296)).ask 16 4 ((base+2)%4294967296)).alu 12 6 4 5).go 15 6 AH) (base%4294967296)).go 13 0 fx).place AH) ((base+2)%4294967296)).place fx)
@[simp] theorem dy(st:BS)(base:Int):(ky st base).sz=st.sz+14:=by
 unfold ky;simp
theorem Ez{b:Nat}{F:Nat->Prop}{st:BS}{base:Int}{w:World}(hB:BMem w b F st)(hs:st.sz<=3700:=by first|omega|(simp<;>omega)):Calls Tryz.prog 135 #[.pointer (some ⟨b,0,none⟩),.int .u32 base] w λe w'=>e=.returned (.tuple #[])/\∃F',BMem w' b F' (ky st base)/\Upd F F' w w':=by
 go_enter Tryz.func135,Tryz.ntmps135;have hU:=Upd.refl F w;go_wp2_with fail;refine(Zx hU (gL hB)).mono ?_;rintro e w' ⟨rfl,F',hB,hU⟩;go_wp2_with fail;refine(Zx hU (bi hB)).mono ?_;rintro e w' ⟨rfl,F',hB,hU⟩;go_wp2_with fail;refine(Zx hU (jT hB)).mono ?_;rintro e w' ⟨rfl,F',hB,hU⟩;go_wp2_with fail;refine(Zx hU (goC hB)).mono ?_;rintro e w' ⟨rfl,F',hB,hU⟩;go_wp2_with fail;refine(Zx hU (gL hB)).mono ?_;rintro e w' ⟨rfl,F',hB,hU⟩;go_wp2_with fail;refine(Zx hU (goC hB)).mono ?_;rintro e w' ⟨rfl,F',hB,hU⟩;go_wp2_with fail
 refine(Zx hU (aY hB Dy (by decide) (by first|omega|(simp<;>omega)))).mono ?_
 rintro e w' ⟨rfl,F',hB,hU⟩;go_wp2_with fail;refine(Zx hU (gL hB)).mono ?_;rintro e w' ⟨rfl,F',hB,hU⟩;go_wp2_with fail
 refine(Zx hU (aY hB lM (by decide) (by first|omega|(simp<;>omega)))).mono ?_
 rintro e w' ⟨rfl,F',hB,hU⟩;go_wp2;go_end0;exact⟨rfl,_,hB,hU⟩
def jQ(st:BS)(base:Int):BS:=((st.set 4 1).ask 20 4 (base%4294967296))
@[simp] theorem dB(st:BS)(base:Int):(jQ st base).sz=st.sz+2:=by
 unfold jQ;simp
theorem Ak{b:Nat}{F:Nat->Prop}{st:BS}{base:Int}{w:World}(hB:BMem w b F st)(hs:st.sz<=3900:=by first|omega|(simp<;>omega)):Calls Tryz.prog 137 #[.pointer (some ⟨b,0,none⟩),.int .u32 base] w λe w'=>e=.returned (.tuple #[])/\∃F',BMem w' b F' (jQ st base)/\Upd F F' w w':=by
 go_enter Tryz.func137,Tryz.ntmps137;have hU:=Upd.refl F w;go_wp2_with fail;refine(Zx hU (bF hB)).mono ?_;rintro e w' ⟨rfl,F',hB,hU⟩;go_wp2_with fail;refine(Zx hU (bi hB)).mono ?_;rintro e w' ⟨rfl,F',hB,hU⟩;go_wp2;go_end0;exact⟨rfl,_,hB,hU⟩
def kp(st:BS)(base:Int):BS:=(jQ ((((st.place dv).set 4 0).cas 4 5 ((base+1)%4294967296)).go 15 4 dv) base)
@[simp] theorem dD(st:BS)(base:Int):(kp st base).sz=st.sz+7:=by
 unfold kp;simp
theorem Em{b:Nat}{F:Nat->Prop}{st:BS}{base:Int}{w:World}(hB:BMem w b F st)(hs:st.sz<=3700:=by first|omega|(simp<;>omega)):Calls Tryz.prog 136 #[.pointer (some ⟨b,0,none⟩),.int .u32 base] w λe w'=>e=.returned (.tuple #[])/\∃F',BMem w' b F' (kp st base)/\Upd F F' w w':=by
 go_enter Tryz.func136,Tryz.ntmps136;have hU:=Upd.refl F w;go_wp2_with fail
 refine(Zx hU (aY hB jH (by decide) (by first|omega|(simp<;>omega)))).mono ?_
 rintro e w' ⟨rfl,F',hB,hU⟩;go_wp2_with fail;refine(Zx hU (bF hB)).mono ?_;rintro e w' ⟨rfl,F',hB,hU⟩;go_wp2_with fail;refine(Zx hU (qd hB)).mono ?_;rintro e w' ⟨rfl,F',hB,hU⟩;go_wp2_with fail;refine(Zx hU (goC hB)).mono ?_;rintro e w' ⟨rfl,F',hB,hU⟩;go_wp2_with fail;refine(Zx hU (Ak hB)).mono ?_;rintro e w' ⟨rfl,F',hB,hU⟩;go_wp2;go_end0;exact⟨rfl,_,hB,hU⟩
def ll(st:BS)(addr:Int):BS:=((st.set 4 1).ask 24 4 addr)
@[simp] theorem dC(st:BS)(addr:Int):(ll st addr).sz=st.sz+2:=by
 unfold ll;simp
theorem Bi{b:Nat}{F:Nat->Prop}{st:BS}{addr:Int}{w:World}(hB:BMem w b F st)(hs:st.sz<=3900:=by first|omega|(simp<;>omega)):Calls Tryz.prog 192 #[.pointer (some ⟨b,0,none⟩),.int .u32 addr] w λe w'=>e=.returned (.tuple #[])/\∃F',BMem w' b F' (ll st addr)/\Upd F F' w w':=by
 go_enter Tryz.func192,Tryz.ntmps192;have hU:=Upd.refl F w;go_wp2_with fail;refine(Zx hU (bF hB)).mono ?_;rintro e w' ⟨rfl,F',hB,hU⟩;go_wp2_with fail;refine(Zx hU (bi hB)).mono ?_;rintro e w' ⟨rfl,F',hB,hU⟩;go_wp2;go_end0;exact⟨rfl,_,hB,hU⟩
def jD(st:BS)(op base:Int):BS:=((((((st.set 5 1).alu op 5 4 5).emit ⟨2,6,4,0,0⟩).cas 4 5 base).alu 12 6 4 6).go 14 6 bG)
@[simp] theorem cL(st:BS)(op base:Int):(jD st op base).sz=st.sz+7:=by
 unfold jD;simp
theorem vH{b:Nat}{F:Nat->Prop}{st:BS}{op base:Int}{w:World}(hB:BMem w b F st)(hs:st.sz<=3800:=by first|omega|(simp<;>omega)):Calls Tryz.prog 191 #[.pointer (some ⟨b,0,none⟩),.int .i64 op,.int .u32 base] w λe w'=>e=.returned (.tuple #[])/\∃F',BMem w' b F' (jD st op base)/\Upd F F' w w':=by
 go_enter Tryz.func191,Tryz.ntmps191;have hU:=Upd.refl F w;go_wp2_with fail;refine(Zx hU (bF hB)).mono ?_;rintro e w' ⟨rfl,F',hB,hU⟩;go_wp2_with fail;refine(Zx hU (jT hB)).mono ?_;rintro e w' ⟨rfl,F',hB,hU⟩;go_wp2_with fail
 refine(Zx hU (kg ⟨2,6,4,0,0⟩ _ hB (Nat.le_succ_of_le (by first|omega|(simp<;>omega))))).mono ?_
 rintro e w' ⟨rfl,F',hB,hU⟩;go_wp2_with fail;refine(Zx hU (qd hB)).mono ?_;rintro e w' ⟨rfl,F',hB,hU⟩;go_wp2_with fail;refine(Zx hU (jT hB)).mono ?_;rintro e w' ⟨rfl,F',hB,hU⟩;go_wp2_with fail;refine(Zx hU (goC hB)).mono ?_;rintro e w' ⟨rfl,F',hB,hU⟩;go_wp2;go_end0;exact⟨rfl,_,hB,hU⟩
def mW(st:BS)(base:Int):BS:=(aI (jD (((((((st.place bG).ask 16 4 base).go 15 4 DZ).set 4 0).ask 23 4 base).go 13 0 bG).place DZ) 4 base) )
@[simp] theorem eQ(st:BS)(base:Int):(mW st base).sz=st.sz+18:=by
 unfold mW;simp
theorem GB{b:Nat}{F:Nat->Prop}{st:BS}{base:Int}{w:World}(hB:BMem w b F st)(hs:st.sz<=3600:=by first|omega|(simp<;>omega)):Calls Tryz.prog 140 #[.pointer (some ⟨b,0,none⟩),.int .u32 base] w λe w'=>e=.returned (.tuple #[])/\∃F',BMem w' b F' (mW st base)/\Upd F F' w w':=by
 go_enter Tryz.func140,Tryz.ntmps140;have hU:=Upd.refl F w;go_wp2_with fail
 refine(Zx hU (aY hB ji (by decide) (by first|omega|(simp<;>omega)))).mono ?_
 rintro e w' ⟨rfl,F',hB,hU⟩;go_wp2_with fail;refine(Zx hU (bi hB)).mono ?_;rintro e w' ⟨rfl,F',hB,hU⟩;go_wp2_with fail;refine(Zx hU (goC hB)).mono ?_;rintro e w' ⟨rfl,F',hB,hU⟩;go_wp2_with fail;refine(Zx hU (bF hB)).mono ?_;rintro e w' ⟨rfl,F',hB,hU⟩;go_wp2_with fail;refine(Zx hU (bi hB)).mono ?_;rintro e w' ⟨rfl,F',hB,hU⟩;go_wp2_with fail;refine(Zx hU (goC hB)).mono ?_;rintro e w' ⟨rfl,F',hB,hU⟩;go_wp2_with fail
 refine(Zx hU (aY hB Ey (by decide) (by first|omega|(simp<;>omega)))).mono ?_
 rintro e w' ⟨rfl,F',hB,hU⟩;go_wp2_with fail;refine(Zx hU (vH hB)).mono ?_;rintro e w' ⟨rfl,F',hB,hU⟩;go_wp2_with fail;refine(Zx hU (be hB)).mono ?_;rintro e w' ⟨rfl,F',hB,hU⟩;go_wp2;go_end0;exact⟨rfl,_,hB,hU⟩
def upS(st:BS)(base most:Int):BS:=((((((ll (jD (((((st.place bG).ask 16 4 base).set 5 most).alu 12 6 4 5).go 15 6 zr) 3 base) base).set 7 0).go 13 0 jB).place zr).set 7 3).place jB)
@[simp] theorem iD(st:BS)(base most:Int):(upS st base most).sz=st.sz+21:=by
 unfold upS;simp
theorem upC{b:Nat}{F:Nat->Prop}{st:BS}{base most:Int}{w:World}(hB:BMem w b F st)(hs:st.sz<=3600:=by first|omega|(simp<;>omega)):Calls Tryz.prog 141 #[.pointer (some ⟨b,0,none⟩),.int .u32 base,.int .u32 most] w λe w'=>e=.returned (.tuple #[])/\∃F',BMem w' b F' (upS st base most)/\Upd F F' w w':=by
 go_enter Tryz.func141,Tryz.ntmps141;have hU:=Upd.refl F w;go_wp2_with fail
 refine(Zx hU (aY hB ji (by decide) (by first|omega|(simp<;>omega)))).mono ?_
 rintro e w' ⟨rfl,F',hB,hU⟩;go_wp2_with fail;refine(Zx hU (bi hB)).mono ?_;rintro e w' ⟨rfl,F',hB,hU⟩;go_wp2_with fail;refine(Zx hU (bF hB)).mono ?_;rintro e w' ⟨rfl,F',hB,hU⟩;go_wp2_with fail;refine(Zx hU (jT hB)).mono ?_;rintro e w' ⟨rfl,F',hB,hU⟩;go_wp2_with fail;refine(Zx hU (goC hB)).mono ?_;rintro e w' ⟨rfl,F',hB,hU⟩;go_wp2_with fail;refine(Zx hU (vH hB)).mono ?_;rintro e w' ⟨rfl,F',hB,hU⟩;go_wp2_with fail;refine(Zx hU (Bi hB)).mono ?_;rintro e w' ⟨rfl,F',hB,hU⟩;go_wp2_with fail;refine(Zx hU (bF hB)).mono ?_;rintro e w' ⟨rfl,F',hB,hU⟩;go_wp2_with fail;refine(Zx hU (goC hB)).mono ?_;rintro e w' ⟨rfl,F',hB,hU⟩;go_wp2_with fail
 refine(Zx hU (aY hB B3 (by decide) (by first|omega|(simp<;>omega)))).mono ?_
 rintro e w' ⟨rfl,F',hB,hU⟩;go_wp2_with fail;refine(Zx hU (bF hB)).mono ?_;rintro e w' ⟨rfl,F',hB,hU⟩;go_wp2_with fail
 refine(Zx hU (aY hB uL (by decide) (by first|omega|(simp<;>omega)))).mono ?_
 rintro e w' ⟨rfl,F',hB,hU⟩;go_wp2;go_end0;exact⟨rfl,_,hB,hU⟩
def rY(st:BS)(base:Int):BS:=(((((((((((((st.set 4 0).set 6 1).cas 4 6 (base%4294967296)).go 14 4 fq).place bG).set 4 2).ask 19 4 (base%4294967296)).go 14 4 fq).set 4 2).ask 23 4 (base%4294967296)).go 13 0 bG).place fq).ask 17 5 ((base+1)%4294967296))
@[simp] theorem ge(st:BS)(base:Int):(rY st base).sz=st.sz+16:=by
 unfold rY;simp
theorem minC{b:Nat}{F:Nat->Prop}{st:BS}{base:Int}{w:World}(hB:BMem w b F st)(hs:st.sz<=3600:=by first|omega|(simp<;>omega)):Calls Tryz.prog 142 #[.pointer (some ⟨b,0,none⟩),.int .u32 base] w λe w'=>e=.returned (.tuple #[])/\∃F',BMem w' b F' (rY st base)/\Upd F F' w w':=by
 go_enter Tryz.func142,Tryz.ntmps142;have hU:=Upd.refl F w;go_wp2_with fail;refine(Zx hU (bF hB)).mono ?_;rintro e w' ⟨rfl,F',hB,hU⟩;go_wp2_with fail;refine(Zx hU (bF hB)).mono ?_;rintro e w' ⟨rfl,F',hB,hU⟩;go_wp2_with fail;refine(Zx hU (qd hB)).mono ?_;rintro e w' ⟨rfl,F',hB,hU⟩;go_wp2_with fail;refine(Zx hU (goC hB)).mono ?_;rintro e w' ⟨rfl,F',hB,hU⟩;go_wp2_with fail
 refine(Zx hU (aY hB ji (by decide) (by first|omega|(simp<;>omega)))).mono ?_
 rintro e w' ⟨rfl,F',hB,hU⟩;go_wp2_with fail;refine(Zx hU (bF hB)).mono ?_;rintro e w' ⟨rfl,F',hB,hU⟩;go_wp2_with fail;refine(Zx hU (bi hB)).mono ?_;rintro e w' ⟨rfl,F',hB,hU⟩;go_wp2_with fail;refine(Zx hU (goC hB)).mono ?_;rintro e w' ⟨rfl,F',hB,hU⟩;go_wp2_with fail;refine(Zx hU (bF hB)).mono ?_;rintro e w' ⟨rfl,F',hB,hU⟩;go_wp2_with fail;refine(Zx hU (bi hB)).mono ?_;rintro e w' ⟨rfl,F',hB,hU⟩;go_wp2_with fail;refine(Zx hU (goC hB)).mono ?_;rintro e w' ⟨rfl,F',hB,hU⟩;go_wp2_with fail
 refine(Zx hU (aY hB mA (by decide) (by first|omega|(simp<;>omega)))).mono ?_
 rintro e w' ⟨rfl,F',hB,hU⟩;go_wp2_with fail;refine(Zx hU (bi hB)).mono ?_;rintro e w' ⟨rfl,F',hB,hU⟩;go_wp2;go_end0;exact⟨rfl,_,hB,hU⟩
def nh(st:BS)(base:Int):BS:=((ll ((((((cE st ((base+1)%4294967296)).set 4 0).ask 19 4 (base%4294967296)).set 6 2).alu 12 6 4 6).go 14 6 fx) (base%4294967296)).place fx)
@[simp] theorem eO(st:BS)(base:Int):(nh st base).sz=st.sz+11:=by
 unfold nh;simp
theorem GE{b:Nat}{F:Nat->Prop}{st:BS}{base:Int}{w:World}(hB:BMem w b F st)(hs:st.sz<=3600:=by first|omega|(simp<;>omega)):Calls Tryz.prog 143 #[.pointer (some ⟨b,0,none⟩),.int .u32 base] w λe w'=>e=.returned (.tuple #[])/\∃F',BMem w' b F' (nh st base)/\Upd F F' w w':=by
 go_enter Tryz.func143,Tryz.ntmps143;have hU:=Upd.refl F w;go_wp2_with fail;refine(Zx hU (gL hB)).mono ?_;rintro e w' ⟨rfl,F',hB,hU⟩;go_wp2_with fail;refine(Zx hU (bF hB)).mono ?_;rintro e w' ⟨rfl,F',hB,hU⟩;go_wp2_with fail;refine(Zx hU (bi hB)).mono ?_;rintro e w' ⟨rfl,F',hB,hU⟩;go_wp2_with fail;refine(Zx hU (bF hB)).mono ?_;rintro e w' ⟨rfl,F',hB,hU⟩;go_wp2_with fail;refine(Zx hU (jT hB)).mono ?_;rintro e w' ⟨rfl,F',hB,hU⟩;go_wp2_with fail;refine(Zx hU (goC hB)).mono ?_;rintro e w' ⟨rfl,F',hB,hU⟩;go_wp2_with fail;refine(Zx hU (Bi hB)).mono ?_;rintro e w' ⟨rfl,F',hB,hU⟩;go_wp2_with fail
 refine(Zx hU (aY hB lM (by decide) (by first|omega|(simp<;>omega)))).mono ?_
 rintro e w' ⟨rfl,F',hB,hU⟩;go_wp2;go_end0;exact⟨rfl,_,hB,hU⟩
def jO(st:BS)(addr:Int):BS:=((st.set 4 1).ask 20 4 addr)
@[simp] theorem dz(st:BS)(addr:Int):(jO st addr).sz=st.sz+2:=by
 unfold jO;simp
theorem sG{b:Nat}{F:Nat->Prop}{st:BS}{addr:Int}{w:World}(hB:BMem w b F st)(hs:st.sz<=3900:=by first|omega|(simp<;>omega)):Calls Tryz.prog 193 #[.pointer (some ⟨b,0,none⟩),.int .u32 addr] w λe w'=>e=.returned (.tuple #[])/\∃F',BMem w' b F' (jO st addr)/\Upd F F' w w':=by
 go_enter Tryz.func193,Tryz.ntmps193;have hU:=Upd.refl F w;go_wp2_with fail;refine(Zx hU (bF hB)).mono ?_;rintro e w' ⟨rfl,F',hB,hU⟩;go_wp2_with fail;refine(Zx hU (bi hB)).mono ?_;rintro e w' ⟨rfl,F',hB,hU⟩;go_wp2;go_end0;exact⟨rfl,_,hB,hU⟩
def jN(st:BS)(n addr:Int):BS:=((st.set 4 n).ask 24 4 addr)
@[simp] theorem dA(st:BS)(n addr:Int):(jN st n addr).sz=st.sz+2:=by
 unfold jN;simp
theorem rI{b:Nat}{F:Nat->Prop}{st:BS}{n addr:Int}{w:World}(hB:BMem w b F st)(hs:st.sz<=3900:=by first|omega|(simp<;>omega)):Calls Tryz.prog 194 #[.pointer (some ⟨b,0,none⟩),.int .u32 n,.int .u32 addr] w λe w'=>e=.returned (.tuple #[])/\∃F',BMem w' b F' (jN st n addr)/\Upd F F' w w':=by
 go_enter Tryz.func194,Tryz.ntmps194;have hU:=Upd.refl F w;go_wp2_with fail;refine(Zx hU (bF hB)).mono ?_;rintro e w' ⟨rfl,F',hB,hU⟩;go_wp2_with fail;refine(Zx hU (bi hB)).mono ?_;rintro e w' ⟨rfl,F',hB,hU⟩;go_wp2;go_end0;exact⟨rfl,_,hB,hU⟩
end
theorem zl{base n t:Int}(w:World):Calls Tryz.prog 180 #[.agg #[.int .u32 base,.int .i64 n,.int .i64 t]] w λe w'=>e=.returned (.int .u32 base)/\Below w.heap.size w w':=by
 go_enter Tryz.func180,Tryz.ntmps180;go_upto_region 1 with(fail);obtain⟨W,kB,e0,e1,XB,hal⟩:=aO w #[.int .u32 base,.int .i64 n,.int .i64 t] 211;rw[e0,e1];clear e0 e1;obtain⟨y0,y1,y2⟩:=cl3 XB;go_wp2;go_ret
 exact⟨by
   show Ending.returned (Value.int IntKind.u32 _)=Ending.returned (Value.int IntKind.u32 _)
   first|rfl|(congr 2;first|omega|(simp only[IntKind.wrap_u32];omega)),hal⟩
theorem oz{base n t:Int}(w:World):Calls Tryz.prog 182 #[.agg #[.int .u32 base,.int .i64 n,.int .i64 t]] w λe w'=>e=.returned (.int .u32 ((base+1)%4294967296))/\Below w.heap.size w w':=by
 go_enter Tryz.func182,Tryz.ntmps182;go_upto_region 1 with(fail);obtain⟨W,kB,e0,e1,XB,hal⟩:=aO w #[.int .u32 base,.int .i64 n,.int .i64 t] 211;rw[e0,e1];clear e0 e1;obtain⟨y0,y1,y2⟩:=cl3 XB;go_wp2;go_ret
 exact⟨by
   show Ending.returned (Value.int IntKind.u32 _)=Ending.returned (Value.int IntKind.u32 _)
   first|rfl|(congr 2;first|omega|(simp only[IntKind.wrap_u32];omega)),hal⟩
theorem ue{base n t:Int}(w:World):Calls Tryz.prog 178 #[.agg #[.int .u32 base,.int .i64 n,.int .i64 t]] w λe w'=>e=.returned (.int .u32 ((base+2)%4294967296))/\Below w.heap.size w w':=by
 go_enter Tryz.func178,Tryz.ntmps178;go_upto_region 1 with(fail);obtain⟨W,kB,e0,e1,XB,hal⟩:=aO w #[.int .u32 base,.int .i64 n,.int .i64 t] 211;rw[e0,e1];clear e0 e1;obtain⟨y0,y1,y2⟩:=cl3 XB;go_wp2;go_ret
 exact⟨by
   show Ending.returned (Value.int IntKind.u32 _)=Ending.returned (Value.int IntKind.u32 _)
   first|rfl|(congr 2;first|omega|(simp only[IntKind.wrap_u32];omega)),hal⟩
theorem wg{base n t:Int}(w:World):Calls Tryz.prog 185 #[.agg #[.int .u32 base,.int .i64 n,.int .i64 t]] w λe w'=>e=.returned (.int .u32 ((base+2)%4294967296))/\Below w.heap.size w w':=by
 go_enter Tryz.func185,Tryz.ntmps185;go_upto_region 1 with(fail);obtain⟨W,kB,e0,e1,XB,hal⟩:=aO w #[.int .u32 base,.int .i64 n,.int .i64 t] 211;rw[e0,e1];clear e0 e1;obtain⟨y0,y1,y2⟩:=cl3 XB;go_wp2;go_ret
 exact⟨by
   show Ending.returned (Value.int IntKind.u32 _)=Ending.returned (Value.int IntKind.u32 _)
   first|rfl|(congr 2;first|omega|(simp only[IntKind.wrap_u32];omega)),hal⟩
theorem atV{base n t first:Int}(w:World):Calls Tryz.prog 177 #[.agg #[.int .u32 base,.int .i64 n,.int .i64 t],.int .u32 first] w λe w'=>e=.returned (.int .u32 ((first+t)%4294967296))/\Below w.heap.size w w':=by
 go_enter Tryz.func177,Tryz.ntmps177;go_upto_region 1 with(fail);obtain⟨W,kB,e0,e1,XB,hal⟩:=aO w #[.int .u32 base,.int .i64 n,.int .i64 t] 211;rw[e0,e1];clear e0 e1;obtain⟨y0,y1,y2⟩:=cl3 XB;go_wp2;go_ret
 exact⟨by
   show Ending.returned (Value.int IntKind.u32 _)=Ending.returned (Value.int IntKind.u32 _)
   first|rfl|(congr 2;first|omega|(simp only[IntKind.wrap_u32];omega)),hal⟩
theorem AU{base n t:Int}(w:World):Calls Tryz.prog 179 #[.agg #[.int .u32 base,.int .i64 n,.int .i64 t]] w λe w'=>e=.returned (.int .u32 ((base+2+n)%4294967296))/\Below w.heap.size w w':=by
 go_enter Tryz.func179,Tryz.ntmps179;go_upto_region 1 with(fail);obtain⟨W,kB,e0,e1,XB,hal⟩:=aO w #[.int .u32 base,.int .i64 n,.int .i64 t] 211;rw[e0,e1];clear e0 e1;refine ZA W ?_;refine Zl 211 #[.int .u32 base,.int .i64 n,.int .i64 t] (λw' h'=>keep XB h') Tryz.underlying211 ?_;refine Zn 178 #[.agg #[.int .u32 base,.int .i64 n,.int .i64 t]] (.int .u32 ((base+2)%4294967296)) (λw' h'=>(ue w').mono λe w'' h=>⟨h.1,h'.trans (h.2.mono h'.size)⟩) ?_;refine Zz ?_;refine Zy _ (λw' h'=>by have c:=ae w' kB 1 _ 211 _ (keep XB h');go_simp;try with_reducible rfl) ?_
 iterate 3 refine Zz ?_
 refine aQ ?_;intro w1 h1;go_wp2;go_ret
 exact⟨by
   show Ending.returned (Value.int IntKind.u32 _)=Ending.returned (Value.int IntKind.u32 _)
   first|rfl|(congr 2;first|omega|(simp only[IntKind.wrap_u32];omega)),hal.trans (h1.mono hal.size)⟩
theorem rr{base n t:Int}(w:World):Calls Tryz.prog 184 #[.agg #[.int .u32 base,.int .i64 n,.int .i64 t]] w λe w'=>e=.returned (.int .u32 ((base+2+n+1+t)%4294967296))/\Below w.heap.size w w':=by
 go_enter Tryz.func184,Tryz.ntmps184;go_upto_region 1 with(fail);obtain⟨W,kB,e0,e1,XB,hal⟩:=aO w #[.int .u32 base,.int .i64 n,.int .i64 t] 211;rw[e0,e1];clear e0 e1;refine ZA W ?_;refine Zl 211 #[.int .u32 base,.int .i64 n,.int .i64 t] (λw' h'=>keep XB h') Tryz.underlying211 ?_;refine Zn 185 #[.agg #[.int .u32 base,.int .i64 n,.int .i64 t]] (.int .u32 ((base+2)%4294967296)) (λw' h'=>(wg w').mono λe w'' h=>⟨h.1,h'.trans (h.2.mono h'.size)⟩) ?_;refine Zz ?_;refine Zy _ (λw' h'=>by have c:=ae w' kB 1 _ 211 _ (keep XB h');go_simp;try with_reducible rfl) ?_
 iterate 4 refine Zz ?_
 refine Zy _ (λw' h'=>by have c:=ae w' kB 2 _ 211 _ (keep XB h');go_simp;try with_reducible rfl) ?_
 iterate 3 refine Zz ?_
 refine aQ ?_;intro w1 h1;go_wp2;go_ret
 exact⟨by
   show Ending.returned (Value.int IntKind.u32 _)=Ending.returned (Value.int IntKind.u32 _)
   first|rfl|(congr 2;first|omega|(simp only[IntKind.wrap_u32];omega)),hal.trans (h1.mono hal.size)⟩
theorem DG{base n t:Int}(w:World):Calls Tryz.prog 186 #[.agg #[.int .u32 base,.int .i64 n,.int .i64 t]] w λe w'=>e=.returned (.int .u32 ((base+2+n+1+t+n)%4294967296))/\Below w.heap.size w w':=by
 go_enter Tryz.func186,Tryz.ntmps186;go_upto_region 1 with(fail);obtain⟨W,kB,e0,e1,XB,hal⟩:=aO w #[.int .u32 base,.int .i64 n,.int .i64 t] 211;rw[e0,e1];clear e0 e1;refine ZA W ?_;refine Zl 211 #[.int .u32 base,.int .i64 n,.int .i64 t] (λw' h'=>keep XB h') Tryz.underlying211 ?_;refine Zn 184 #[.agg #[.int .u32 base,.int .i64 n,.int .i64 t]] (.int .u32 ((base+2+n+1+t)%4294967296)) (λw' h'=>(rr w').mono λe w'' h=>⟨h.1,h'.trans (h.2.mono h'.size)⟩) ?_;refine Zz ?_;refine Zy _ (λw' h'=>by have c:=ae w' kB 1 _ 211 _ (keep XB h');go_simp;try with_reducible rfl) ?_
 iterate 3 refine Zz ?_
 refine aQ ?_;intro w1 h1;go_wp2;go_ret
 exact⟨by
   show Ending.returned (Value.int IntKind.u32 _)=Ending.returned (Value.int IntKind.u32 _)
   first|rfl|(congr 2;first|omega|(simp only[IntKind.wrap_u32];omega)),hal.trans (h1.mono hal.size)⟩
end Go.Proofs.YtldlcnaphednnaaGreatDoor
