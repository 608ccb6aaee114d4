/- The code of read-write locks. The code of locks of two. -/
import Derived.Test.YtldlcnaphednnaaGreatDoorM09
set_option maxRecDepth 100000
set_option maxHeartbeats 32000000
set_option linter.unusedVariables false
set_option linter.unusedSimpArgs false
namespace Go.Proofs.YtldlcnaphednnaaGreatDoor
open Go.RowKit Go.Maps
section
attribute [local simp] fL ft dD cN fN cL df dZ dr dj eQ cH gV dz iI dA dy dV dq ge dX eO dC dx eh cU dh fP dB eW fE cj ee iD dW
theorem oM(w:World):Calls Tryz.prog 201 #[.int .u32 1] w λe w'=>e=.returned (.int .u32 4294967295)/\Below w.heap.size w w':=by
 go_enter Tryz.func201,Tryz.ntmps201;go_wp2;go_ret;exact⟨rfl,ak _ _⟩
theorem ut(w:World):Calls Tryz.prog 195 #[] w λe w'=>e=.returned (.int .u32 4294967295)/\Below w.heap.size w w':=by
 go_enter Tryz.func195,Tryz.ntmps195;go_wp2_with fail;refine(oM w).mono ?_;rintro e w1 ⟨rfl,hb⟩;go_wp2;go_ret;exact⟨rfl,hb⟩
theorem vF(w:World):Calls Tryz.prog 198 #[] w λe w'=>e=.returned (.int .u32 4294967295)/\Below w.heap.size w w':=by
 go_enter Tryz.func198,Tryz.ntmps198;go_wp2_with fail;refine(oM w).mono ?_;rintro e w1 ⟨rfl,hb⟩;go_wp2;go_ret;exact⟨rfl,hb⟩
def jJ(st:BS)(state mode:Int):BS:=((((((st.ask 16 4 mode).go 14 4 nz).set 7 1).go 13 0 jB).place nz).place bG)
@[simp] theorem dR(st:BS)(state mode:Int):(jJ st state mode).sz=st.sz+8:=by
 unfold jJ;simp
theorem vM{b:Nat}{F:Nat->Prop}{st:BS}{state mode:Int}{w:World}(hB:BMem w b F st)(hs:st.sz<=3700:=by first|omega|(simp<;>omega)):Calls Tryz.prog 197 #[.agg #[.int .u32 state,.int .u32 mode],.pointer (some ⟨b,0,none⟩)] w λe w'=>e=.returned (.tuple #[])/\∃F',BMem w' b F' (jJ st state mode)/\Upd F F' w w':=by
 go_enter Tryz.func197,Tryz.ntmps197;go_upto_region 1 with(fail);obtain⟨W,kB,e0,e1,XB,hal⟩:=aO w #[.int .u32 state,.int .u32 mode] 224;rw[e0,e1]
 have hF:¬F kB:=λh=>by have:=hB.lt kB h;omega
 clear e0 e1;have hkl:kB<W.heap.size:=aB XB;have hU:Upd F F w W:=Upd.of_below hal;replace hB:=hB.below hal;clear hal;go_upto_region 1 with(fail);refine ab ?_;obtain⟨y0,y1⟩:=cl2 XB
 iterate 3 refine Zv ?_
 clear y0 y1;refine Zb 138 #[.pointer (some ⟨b,0,none⟩),.int .i64 16,.int .i64 4,.int .u32 mode] (bi hB) XB hF hkl hU (λw1 F' XB hF hkl hU hB=>?_);go_upto_region 2 with(fail);refine ab ?_;obtain⟨y0,y1⟩:=cl2 XB;refine Zv ?_;clear y0 y1;refine Zb 173 #[.pointer (some ⟨b,0,none⟩),.int .i64 14,.int .i64 4,.string nz] (goC hB) XB hF hkl hU (λw2 F' XB hF hkl hU hB=>?_);go_upto_region 3 with(fail);refine ab ?_;obtain⟨y0,y1⟩:=cl2 XB;refine Zv ?_;clear y0 y1;refine Zb 130 #[.pointer (some ⟨b,0,none⟩),.int .i64 7,.int .u32 1] (bF hB) XB hF hkl hU (λw3 F' XB hF hkl hU hB=>?_);go_upto_region 4 with(fail);refine ab ?_;obtain⟨y0,y1⟩:=cl2 XB;refine Zv ?_;clear y0 y1;refine Zb 173 #[.pointer (some ⟨b,0,none⟩),.int .i64 13,.int .i64 0,.string jB] (goC hB) XB hF hkl hU (λw4 F' XB hF hkl hU hB=>?_);go_upto_region 5 with(fail);refine ab ?_;obtain⟨y0,y1⟩:=cl2 XB;refine Zv ?_;clear y0 y1
 refine Zb 174 #[.pointer (some ⟨b,0,none⟩),.string nz] (aY hB wE (by decide) (by first|omega|(simp<;>omega))) XB hF hkl hU (λw5 F' XB hF hkl hU hB=>?_)
 go_upto_region 6 with(fail);refine ab ?_;obtain⟨y0,y1⟩:=cl2 XB;refine Zv ?_;clear y0 y1
 refine Zb 174 #[.pointer (some ⟨b,0,none⟩),.string bG] (aY hB ji (by decide) (by first|omega|(simp<;>omega))) XB hF hkl hU (λw6 F' XB hF hkl hU hB=>?_)
 go_wp2;go_end0;exact⟨rfl,_,hB,hU⟩
def jG(st:BS)(state mode:Int):BS:=((st.ask 23 4 state).go 13 0 bG)
@[simp] theorem dP(st:BS)(state mode:Int):(jG st state mode).sz=st.sz+3:=by
 unfold jG;simp
theorem vR{b:Nat}{F:Nat->Prop}{st:BS}{state mode:Int}{w:World}(hB:BMem w b F st)(hs:st.sz<=3700:=by first|omega|(simp<;>omega)):Calls Tryz.prog 199 #[.agg #[.int .u32 state,.int .u32 mode],.pointer (some ⟨b,0,none⟩)] w λe w'=>e=.returned (.tuple #[])/\∃F',BMem w' b F' (jG st state mode)/\Upd F F' w w':=by
 go_enter Tryz.func199,Tryz.ntmps199;go_upto_region 1 with(fail);obtain⟨W,kB,e0,e1,XB,hal⟩:=aO w #[.int .u32 state,.int .u32 mode] 224;rw[e0,e1]
 have hF:¬F kB:=λh=>by have:=hB.lt kB h;omega
 clear e0 e1;have hkl:kB<W.heap.size:=aB XB;have hU:Upd F F w W:=Upd.of_below hal;replace hB:=hB.below hal;clear hal;go_upto_region 1 with(fail);refine ab ?_;obtain⟨y0,y1⟩:=cl2 XB
 iterate 3 refine Zv ?_
 clear y0 y1;refine Zb 138 #[.pointer (some ⟨b,0,none⟩),.int .i64 23,.int .i64 4,.int .u32 state] (bi hB) XB hF hkl hU (λw1 F' XB hF hkl hU hB=>?_);go_upto_region 2 with(fail);refine ab ?_;obtain⟨y0,y1⟩:=cl2 XB;refine Zv ?_;clear y0 y1;refine Zb 173 #[.pointer (some ⟨b,0,none⟩),.int .i64 13,.int .i64 0,.string bG] (goC hB) XB hF hkl hU (λw2 F' XB hF hkl hU hB=>?_);go_wp2;go_end0;exact⟨rfl,_,hB,hU⟩
def na(st:BS)(state mode md:Int):BS:=((st.set 4 md).ask 17 4 mode)
@[simp] theorem fV(st:BS)(state mode md:Int):(na st state mode md).sz=st.sz+2:=by
 unfold na;simp
theorem zJ{b:Nat}{F:Nat->Prop}{st:BS}{state mode md:Int}{w:World}(hB:BMem w b F st)(hs:st.sz<=3700:=by first|omega|(simp<;>omega)):Calls Tryz.prog 200 #[.agg #[.int .u32 state,.int .u32 mode],.pointer (some ⟨b,0,none⟩),.int .u32 md] w λe w'=>e=.returned (.tuple #[])/\∃F',BMem w' b F' (na st state mode md)/\Upd F F' w w':=by
 go_enter Tryz.func200,Tryz.ntmps200;go_upto_region 1 with(fail);obtain⟨W,kB,e0,e1,XB,hal⟩:=aO w #[.int .u32 state,.int .u32 mode] 224;rw[e0,e1]
 have hF:¬F kB:=λh=>by have:=hB.lt kB h;omega
 clear e0 e1;have hkl:kB<W.heap.size:=aB XB;have hU:Upd F F w W:=Upd.of_below hal;replace hB:=hB.below hal;clear hal;go_upto_region 1 with(fail);refine ab ?_;obtain⟨y0,y1⟩:=cl2 XB
 iterate 2 refine Zv ?_
 clear y0 y1;refine Zb 130 #[.pointer (some ⟨b,0,none⟩),.int .i64 4,.int .u32 md] (bF hB) XB hF hkl hU (λw1 F' XB hF hkl hU hB=>?_);go_upto_region 2 with(fail);refine ab ?_;obtain⟨y0,y1⟩:=cl2 XB
 iterate 3 refine Zv ?_
 clear y0 y1;refine Zb 138 #[.pointer (some ⟨b,0,none⟩),.int .i64 17,.int .i64 4,.int .u32 mode] (bi hB) XB hF hkl hU (λw2 F' XB hF hkl hU hB=>?_);go_wp2;go_end0;exact⟨rfl,_,hB,hU⟩
def ks(st:BS)(state mode:Int):BS:=((jG ((((na (((((((((((jJ st state mode).ask 16 4 state).set 5 4294967295).alu 12 6 4 5).go 15 6 oJ).set 5 1).alu 3 5 4 5).emit ⟨2,6,4,0,0⟩).cas 4 5 state).alu 12 6 4 6).go 14 6 bG) state mode 1).set 7 0).go 13 0 jB).place oJ) state mode).place jB)
@[simp] theorem fh(st:BS)(state mode:Int):(ks st state mode).sz=st.sz+30:=by
 unfold ks;simp
theorem EY{b:Nat}{F:Nat->Prop}{st:BS}{state mode:Int}{w:World}(hB:BMem w b F st)(hs:st.sz<=3500:=by first|omega|(simp<;>omega)):Calls Tryz.prog 149 #[.agg #[.int .u32 state,.int .u32 mode],.pointer (some ⟨b,0,none⟩)] w λe w'=>e=.returned (.tuple #[])/\∃F',BMem w' b F' (ks st state mode)/\Upd F F' w w':=by
 go_enter Tryz.func149,Tryz.ntmps149;go_upto_region 1 with(fail);obtain⟨W,kB,e0,e1,XB,hal⟩:=aO w #[.int .u32 state,.int .u32 mode] 224;rw[e0,e1]
 have hF:¬F kB:=λh=>by have:=hB.lt kB h;omega
 clear e0 e1;have hkl:kB<W.heap.size:=aB XB;have hU:Upd F F w W:=Upd.of_below hal;replace hB:=hB.below hal;clear hal;go_upto_region 1 with(fail);refine ab ?_;obtain⟨y0,y1⟩:=cl2 XB;refine Zd 224 XB Tryz.underlying224 ?_;refine Zv ?_;clear y0 y1;refine Zb 197 #[.agg #[.int .u32 state,.int .u32 mode],.pointer (some ⟨b,0,none⟩)] (vM hB) XB hF hkl hU (λw1 F' XB hF hkl hU hB=>?_);go_upto_region 2 with(fail);refine ab ?_;obtain⟨y0,y1⟩:=cl2 XB
 iterate 3 refine Zv ?_
 clear y0 y1;refine Zb 138 #[.pointer (some ⟨b,0,none⟩),.int .i64 16,.int .i64 4,.int .u32 state] (bi hB) XB hF hkl hU (λw2 F' XB hF hkl hU hB=>?_);go_upto_region 3 with(fail);refine ab ?_;obtain⟨y0,y1⟩:=cl2 XB;refine Zv ?_;clear y0 y1
 refine Zc 198 #[] (.int .u32 4294967295) ((vF w2).mono λe w' h=>⟨h.1.trans (by first|rfl|(congr 2;omega)),h.2⟩) (λw3 hd=>?_)
 have hkl':=hkl;replace hkl:kB<w3.heap.size:=aA hkl hd.size;clear hkl';replace hB:=hB.below hd;replace hU:=hU.trans (Upd.of_below hd);replace XB:=keep XB hd;clear hd;obtain⟨y0,y1⟩:=cl2 XB;clear y0 y1;refine Zb 130 #[.pointer (some ⟨b,0,none⟩),.int .i64 5,.int .u32 4294967295] (bF hB) XB hF hkl hU (λw4 F' XB hF hkl hU hB=>?_);go_upto_region 4 with(fail);refine ab ?_;obtain⟨y0,y1⟩:=cl2 XB;refine Zv ?_;clear y0 y1;refine Zb 176 #[.pointer (some ⟨b,0,none⟩),.int .i64 12,.int .i64 6,.int .i64 4,.int .i64 5] (jT hB) XB hF hkl hU (λw5 F' XB hF hkl hU hB=>?_);go_upto_region 5 with(fail);refine ab ?_;obtain⟨y0,y1⟩:=cl2 XB;refine Zv ?_;clear y0 y1;refine Zb 173 #[.pointer (some ⟨b,0,none⟩),.int .i64 15,.int .i64 6,.string oJ] (goC hB) XB hF hkl hU (λw6 F' XB hF hkl hU hB=>?_);go_upto_region 6 with(fail);refine ab ?_;obtain⟨y0,y1⟩:=cl2 XB;refine Zv ?_;clear y0 y1;refine Zb 130 #[.pointer (some ⟨b,0,none⟩),.int .i64 5,.int .u32 1] (bF hB) XB hF hkl hU (λw7 F' XB hF hkl hU hB=>?_);go_upto_region 7 with(fail);refine ab ?_;obtain⟨y0,y1⟩:=cl2 XB;refine Zv ?_;clear y0 y1;refine Zb 176 #[.pointer (some ⟨b,0,none⟩),.int .i64 3,.int .i64 5,.int .i64 4,.int .i64 5] (jT hB) XB hF hkl hU (λw8 F' XB hF hkl hU hB=>?_);go_upto_region 8 with(fail);refine ab ?_;obtain⟨y0,y1⟩:=cl2 XB
 iterate 2 refine Zv ?_
 clear y0 y1
 refine Zb 183 #[.pointer (some ⟨b,0,none⟩),.agg #[.int .i64 2,.int .i64 6,.int .i64 4,.int .i64 0,.int .u32 0]] (kg ⟨2,6,4,0,0⟩ _ hB (Nat.le_succ_of_le (by first|omega|(simp<;>omega)))) XB hF hkl hU (λw9 F' XB hF hkl hU hB=>?_)
 go_upto_region 9 with(fail);refine ab ?_;obtain⟨y0,y1⟩:=cl2 XB
 iterate 3 refine Zv ?_
 clear y0 y1;refine Zb 175 #[.pointer (some ⟨b,0,none⟩),.int .i64 4,.int .i64 5,.int .u32 state] (qd hB) XB hF hkl hU (λw10 F' XB hF hkl hU hB=>?_);go_upto_region 10 with(fail);refine ab ?_;obtain⟨y0,y1⟩:=cl2 XB;refine Zv ?_;clear y0 y1;refine Zb 176 #[.pointer (some ⟨b,0,none⟩),.int .i64 12,.int .i64 6,.int .i64 4,.int .i64 6] (jT hB) XB hF hkl hU (λw11 F' XB hF hkl hU hB=>?_);go_upto_region 11 with(fail);refine ab ?_;obtain⟨y0,y1⟩:=cl2 XB;refine Zv ?_;clear y0 y1;refine Zb 173 #[.pointer (some ⟨b,0,none⟩),.int .i64 14,.int .i64 6,.string bG] (goC hB) XB hF hkl hU (λw12 F' XB hF hkl hU hB=>?_);go_upto_region 12 with(fail);refine ab ?_;obtain⟨y0,y1⟩:=cl2 XB;refine Zd 224 XB Tryz.underlying224 ?_;refine Zv ?_;clear y0 y1;refine Zb 200 #[.agg #[.int .u32 state,.int .u32 mode],.pointer (some ⟨b,0,none⟩),.int .u32 1] (zJ hB) XB hF hkl hU (λw13 F' XB hF hkl hU hB=>?_);go_upto_region 13 with(fail);refine ab ?_;obtain⟨y0,y1⟩:=cl2 XB;refine Zv ?_;clear y0 y1;refine Zb 130 #[.pointer (some ⟨b,0,none⟩),.int .i64 7,.int .u32 0] (bF hB) XB hF hkl hU (λw14 F' XB hF hkl hU hB=>?_);go_upto_region 14 with(fail);refine ab ?_;obtain⟨y0,y1⟩:=cl2 XB;refine Zv ?_;clear y0 y1;refine Zb 173 #[.pointer (some ⟨b,0,none⟩),.int .i64 13,.int .i64 0,.string jB] (goC hB) XB hF hkl hU (λw15 F' XB hF hkl hU hB=>?_);go_upto_region 15 with(fail)
 refine ab ?_;obtain⟨y0,y1⟩:=cl2 XB;refine Zv ?_;clear y0 y1
 refine Zb 174 #[.pointer (some ⟨b,0,none⟩),.string oJ] (aY hB Bb (by decide) (by first|omega|(simp<;>omega))) XB hF hkl hU (λw16 F' XB hF hkl hU hB=>?_)
 go_upto_region 16 with(fail);refine ab ?_;obtain⟨y0,y1⟩:=cl2 XB;refine Zd 224 XB Tryz.underlying224 ?_;refine Zv ?_;clear y0 y1;refine Zb 199 #[.agg #[.int .u32 state,.int .u32 mode],.pointer (some ⟨b,0,none⟩)] (vR hB) XB hF hkl hU (λw17 F' XB hF hkl hU hB=>?_);go_upto_region 17 with(fail);refine ab ?_;obtain⟨y0,y1⟩:=cl2 XB;refine Zv ?_;clear y0 y1
 refine Zb 174 #[.pointer (some ⟨b,0,none⟩),.string jB] (aY hB uL (by decide) (by first|omega|(simp<;>omega))) XB hF hkl hU (λw18 F' XB hF hkl hU hB=>?_)
 go_wp2;go_end0;exact⟨rfl,_,hB,hU⟩
def iQ(st:BS)(state mode:Int):BS:=(aI (na ((jG (((((jJ st state mode).set 4 0).set 5 4294967295).cas 4 5 state).go 14 4 fq) state mode).place fq) state mode 2) )
@[simp] theorem dO(st:BS)(state mode:Int):(iQ st state mode).sz=st.sz+21:=by
 unfold iQ;simp
theorem CA{b:Nat}{F:Nat->Prop}{st:BS}{state mode:Int}{w:World}(hB:BMem w b F st)(hs:st.sz<=3500:=by first|omega|(simp<;>omega)):Calls Tryz.prog 148 #[.agg #[.int .u32 state,.int .u32 mode],.pointer (some ⟨b,0,none⟩)] w λe w'=>e=.returned (.tuple #[])/\∃F',BMem w' b F' (iQ st state mode)/\Upd F F' w w':=by
 go_enter Tryz.func148,Tryz.ntmps148;go_upto_region 1 with(fail);obtain⟨W,kB,e0,e1,XB,hal⟩:=aO w #[.int .u32 state,.int .u32 mode] 224;rw[e0,e1]
 have hF:¬F kB:=λh=>by have:=hB.lt kB h;omega
 clear e0 e1;have hkl:kB<W.heap.size:=aB XB;have hU:Upd F F w W:=Upd.of_below hal;replace hB:=hB.below hal;clear hal;go_upto_region 1 with(fail);refine ab ?_;obtain⟨y0,y1⟩:=cl2 XB;refine Zd 224 XB Tryz.underlying224 ?_;refine Zv ?_;clear y0 y1;refine Zb 197 #[.agg #[.int .u32 state,.int .u32 mode],.pointer (some ⟨b,0,none⟩)] (vM hB) XB hF hkl hU (λw1 F' XB hF hkl hU hB=>?_);go_upto_region 2 with(fail);refine ab ?_;obtain⟨y0,y1⟩:=cl2 XB;refine Zv ?_;clear y0 y1;refine Zb 130 #[.pointer (some ⟨b,0,none⟩),.int .i64 4,.int .u32 0] (bF hB) XB hF hkl hU (λw2 F' XB hF hkl hU hB=>?_);go_upto_region 3 with(fail);refine ab ?_;obtain⟨y0,y1⟩:=cl2 XB;refine Zv ?_;clear y0 y1
 refine Zc 198 #[] (.int .u32 4294967295) ((vF w2).mono λe w' h=>⟨h.1.trans (by first|rfl|(congr 2;omega)),h.2⟩) (λw3 hd=>?_)
 have hkl':=hkl;replace hkl:kB<w3.heap.size:=aA hkl hd.size;clear hkl';replace hB:=hB.below hd;replace hU:=hU.trans (Upd.of_below hd);replace XB:=keep XB hd;clear hd;obtain⟨y0,y1⟩:=cl2 XB;clear y0 y1;refine Zb 130 #[.pointer (some ⟨b,0,none⟩),.int .i64 5,.int .u32 4294967295] (bF hB) XB hF hkl hU (λw4 F' XB hF hkl hU hB=>?_);go_upto_region 4 with(fail);refine ab ?_;obtain⟨y0,y1⟩:=cl2 XB
 iterate 3 refine Zv ?_
 clear y0 y1;refine Zb 175 #[.pointer (some ⟨b,0,none⟩),.int .i64 4,.int .i64 5,.int .u32 state] (qd hB) XB hF hkl hU (λw5 F' XB hF hkl hU hB=>?_);go_upto_region 5 with(fail);refine ab ?_;obtain⟨y0,y1⟩:=cl2 XB;refine Zv ?_;clear y0 y1;refine Zb 173 #[.pointer (some ⟨b,0,none⟩),.int .i64 14,.int .i64 4,.string fq] (goC hB) XB hF hkl hU (λw6 F' XB hF hkl hU hB=>?_);go_upto_region 6 with(fail);refine ab ?_;obtain⟨y0,y1⟩:=cl2 XB;refine Zd 224 XB Tryz.underlying224 ?_;refine Zv ?_;clear y0 y1;refine Zb 199 #[.agg #[.int .u32 state,.int .u32 mode],.pointer (some ⟨b,0,none⟩)] (vR hB) XB hF hkl hU (λw7 F' XB hF hkl hU hB=>?_);go_upto_region 7 with(fail);refine ab ?_;obtain⟨y0,y1⟩:=cl2 XB;refine Zv ?_;clear y0 y1
 refine Zb 174 #[.pointer (some ⟨b,0,none⟩),.string fq] (aY hB mA (by decide) (by first|omega|(simp<;>omega))) XB hF hkl hU (λw8 F' XB hF hkl hU hB=>?_)
 go_upto_region 8 with(fail);refine ab ?_;obtain⟨y0,y1⟩:=cl2 XB;refine Zd 224 XB Tryz.underlying224 ?_;refine Zv ?_;clear y0 y1;refine Zb 200 #[.agg #[.int .u32 state,.int .u32 mode],.pointer (some ⟨b,0,none⟩),.int .u32 2] (zJ hB) XB hF hkl hU (λw9 F' XB hF hkl hU hB=>?_);go_upto_region 9 with(fail);refine ab ?_;obtain⟨y0,y1⟩:=cl2 XB;refine Zv ?_;clear y0 y1;refine Zb 124 #[.pointer (some ⟨b,0,none⟩)] (be hB) XB hF hkl hU (λw10 F' XB hF hkl hU hB=>?_);go_wp2;go_end0;exact⟨rfl,_,hB,hU⟩
def nk(st:BS)(state mode:Int):BS:=(aI (((((((((((((((na (((((((st.ask 16 4 mode).go 15 4 ns).set 7 2).go 13 0 jB).place ns).set 5 1).alu 12 6 4 5) state mode 0).go 15 6 mL).set 4 0).ask 19 4 state).go 13 0 sC).place mL).set 4 4294967295).ask 20 4 state).set 5 1).alu 12 6 4 5).go 14 6 fx).place sC).set 4 4294967295).ask 24 4 state).place fx) )
@[simp] theorem fT(st:BS)(state mode:Int):(nk st state mode).sz=st.sz+30:=by
 unfold nk;simp
theorem FY{b:Nat}{F:Nat->Prop}{st:BS}{state mode:Int}{w:World}(hB:BMem w b F st)(hs:st.sz<=3500:=by first|omega|(simp<;>omega)):Calls Tryz.prog 150 #[.agg #[.int .u32 state,.int .u32 mode],.pointer (some ⟨b,0,none⟩)] w λe w'=>e=.returned (.tuple #[])/\∃F',BMem w' b F' (nk st state mode)/\Upd F F' w w':=by
 go_enter Tryz.func150,Tryz.ntmps150;go_upto_region 1 with(fail);obtain⟨W,kB,e0,e1,XB,hal⟩:=aO w #[.int .u32 state,.int .u32 mode] 224;rw[e0,e1]
 have hF:¬F kB:=λh=>by have:=hB.lt kB h;omega
 clear e0 e1;have hkl:kB<W.heap.size:=aB XB;have hU:Upd F F w W:=Upd.of_below hal;replace hB:=hB.below hal;clear hal;go_upto_region 1 with(fail);refine ab ?_;obtain⟨y0,y1⟩:=cl2 XB
 iterate 3 refine Zv ?_
 clear y0 y1;refine Zb 138 #[.pointer (some ⟨b,0,none⟩),.int .i64 16,.int .i64 4,.int .u32 mode] (bi hB) XB hF hkl hU (λw1 F' XB hF hkl hU hB=>?_);go_upto_region 2 with(fail);refine ab ?_;obtain⟨y0,y1⟩:=cl2 XB;refine Zv ?_;clear y0 y1;refine Zb 173 #[.pointer (some ⟨b,0,none⟩),.int .i64 15,.int .i64 4,.string ns] (goC hB) XB hF hkl hU (λw2 F' XB hF hkl hU hB=>?_);go_upto_region 3 with(fail);refine ab ?_;obtain⟨y0,y1⟩:=cl2 XB;refine Zv ?_;clear y0 y1;refine Zb 130 #[.pointer (some ⟨b,0,none⟩),.int .i64 7,.int .u32 2] (bF hB) XB hF hkl hU (λw3 F' XB hF hkl hU hB=>?_);go_upto_region 4 with(fail);refine ab ?_;obtain⟨y0,y1⟩:=cl2 XB;refine Zv ?_;clear y0 y1;refine Zb 173 #[.pointer (some ⟨b,0,none⟩),.int .i64 13,.int .i64 0,.string jB] (goC hB) XB hF hkl hU (λw4 F' XB hF hkl hU hB=>?_);go_upto_region 5 with(fail);refine ab ?_;obtain⟨y0,y1⟩:=cl2 XB;refine Zv ?_;clear y0 y1
 refine Zb 174 #[.pointer (some ⟨b,0,none⟩),.string ns] (aY hB wC (by decide) (by first|omega|(simp<;>omega))) XB hF hkl hU (λw5 F' XB hF hkl hU hB=>?_)
 go_upto_region 6 with(fail);refine ab ?_;obtain⟨y0,y1⟩:=cl2 XB;refine Zv ?_;clear y0 y1;refine Zb 130 #[.pointer (some ⟨b,0,none⟩),.int .i64 5,.int .u32 1] (bF hB) XB hF hkl hU (λw6 F' XB hF hkl hU hB=>?_);go_upto_region 7 with(fail);refine ab ?_;obtain⟨y0,y1⟩:=cl2 XB;refine Zv ?_;clear y0 y1;refine Zb 176 #[.pointer (some ⟨b,0,none⟩),.int .i64 12,.int .i64 6,.int .i64 4,.int .i64 5] (jT hB) XB hF hkl hU (λw7 F' XB hF hkl hU hB=>?_);go_upto_region 8 with(fail);refine ab ?_;obtain⟨y0,y1⟩:=cl2 XB;refine Zd 224 XB Tryz.underlying224 ?_;refine Zv ?_;clear y0 y1;refine Zb 200 #[.agg #[.int .u32 state,.int .u32 mode],.pointer (some ⟨b,0,none⟩),.int .u32 0] (zJ hB) XB hF hkl hU (λw8 F' XB hF hkl hU hB=>?_);go_upto_region 9 with(fail);refine ab ?_;obtain⟨y0,y1⟩:=cl2 XB;refine Zv ?_;clear y0 y1;refine Zb 173 #[.pointer (some ⟨b,0,none⟩),.int .i64 15,.int .i64 6,.string mL] (goC hB) XB hF hkl hU (λw9 F' XB hF hkl hU hB=>?_);go_upto_region 10 with(fail);refine ab ?_;obtain⟨y0,y1⟩:=cl2 XB;refine Zv ?_;clear y0 y1;refine Zb 130 #[.pointer (some ⟨b,0,none⟩),.int .i64 4,.int .u32 0] (bF hB) XB hF hkl hU (λw10 F' XB hF hkl hU hB=>?_);go_upto_region 11 with(fail);refine ab ?_;obtain⟨y0,y1⟩:=cl2 XB
 iterate 3 refine Zv ?_
 clear y0 y1;refine Zb 138 #[.pointer (some ⟨b,0,none⟩),.int .i64 19,.int .i64 4,.int .u32 state] (bi hB) XB hF hkl hU (λw11 F' XB hF hkl hU hB=>?_);go_upto_region 12 with(fail);refine ab ?_;obtain⟨y0,y1⟩:=cl2 XB;refine Zv ?_;clear y0 y1;refine Zb 173 #[.pointer (some ⟨b,0,none⟩),.int .i64 13,.int .i64 0,.string sC] (goC hB) XB hF hkl hU (λw12 F' XB hF hkl hU hB=>?_);go_upto_region 13 with(fail);refine ab ?_;obtain⟨y0,y1⟩:=cl2 XB;refine Zv ?_;clear y0 y1
 refine Zb 174 #[.pointer (some ⟨b,0,none⟩),.string mL] (aY hB yg (by decide) (by first|omega|(simp<;>omega))) XB hF hkl hU (λw13 F' XB hF hkl hU hB=>?_)
 go_upto_region 14 with(fail);refine ab ?_;obtain⟨y0,y1⟩:=cl2 XB;refine Zv ?_;clear y0 y1
 refine Zc 201 #[.int .u32 1] (.int .u32 4294967295) ((oM w13).mono λe w' h=>⟨h.1.trans (by first|rfl|(congr 2;omega)),h.2⟩) (λw14 hd=>?_)
 have hkl':=hkl;replace hkl:kB<w14.heap.size:=aA hkl hd.size;clear hkl';replace hB:=hB.below hd;replace hU:=hU.trans (Upd.of_below hd);replace XB:=keep XB hd;clear hd;obtain⟨y0,y1⟩:=cl2 XB;clear y0 y1;refine Zb 130 #[.pointer (some ⟨b,0,none⟩),.int .i64 4,.int .u32 4294967295] (bF hB) XB hF hkl hU (λw15 F' XB hF hkl hU hB=>?_);go_upto_region 15 with(fail);refine ab ?_;obtain⟨y0,y1⟩:=cl2 XB
 iterate 3 refine Zv ?_
 clear y0 y1;refine Zb 138 #[.pointer (some ⟨b,0,none⟩),.int .i64 20,.int .i64 4,.int .u32 state] (bi hB) XB hF hkl hU (λw16 F' XB hF hkl hU hB=>?_);go_upto_region 16 with(fail);refine ab ?_;obtain⟨y0,y1⟩:=cl2 XB;refine Zv ?_;clear y0 y1;refine Zb 130 #[.pointer (some ⟨b,0,none⟩),.int .i64 5,.int .u32 1] (bF hB) XB hF hkl hU (λw17 F' XB hF hkl hU hB=>?_);go_upto_region 17 with(fail);refine ab ?_;obtain⟨y0,y1⟩:=cl2 XB;refine Zv ?_;clear y0 y1;refine Zb 176 #[.pointer (some ⟨b,0,none⟩),.int .i64 12,.int .i64 6,.int .i64 4,.int .i64 5] (jT hB) XB hF hkl hU (λw18 F' XB hF hkl hU hB=>?_);go_upto_region 18 with(fail);refine ab ?_;obtain⟨y0,y1⟩:=cl2 XB;refine Zv ?_;clear y0 y1;refine Zb 173 #[.pointer (some ⟨b,0,none⟩),.int .i64 14,.int .i64 6,.string fx] (goC hB) XB hF hkl hU (λw19 F' XB hF hkl hU hB=>?_);go_upto_region 19 with(fail);refine ab ?_;obtain⟨y0,y1⟩:=cl2 XB;refine Zv ?_;clear y0 y1
 refine Zb 174 #[.pointer (some ⟨b,0,none⟩),.string sC] (aY hB Dc (by decide) (by first|omega|(simp<;>omega))) XB hF hkl hU (λw20 F' XB hF hkl hU hB=>?_)
 go_upto_region 20 with(fail);refine ab ?_;obtain⟨y0,y1⟩:=cl2 XB;refine Zv ?_;clear y0 y1
 refine Zc 201 #[.int .u32 1] (.int .u32 4294967295) ((oM w20).mono λe w' h=>⟨h.1.trans (by first|rfl|(congr 2;omega)),h.2⟩) (λw21 hd=>?_)
 have hkl':=hkl;replace hkl:kB<w21.heap.size:=aA hkl hd.size;clear hkl';replace hB:=hB.below hd;replace hU:=hU.trans (Upd.of_below hd);replace XB:=keep XB hd;clear hd;obtain⟨y0,y1⟩:=cl2 XB;clear y0 y1;refine Zb 130 #[.pointer (some ⟨b,0,none⟩),.int .i64 4,.int .u32 4294967295] (bF hB) XB hF hkl hU (λw22 F' XB hF hkl hU hB=>?_);go_upto_region 21 with(fail);refine ab ?_;obtain⟨y0,y1⟩:=cl2 XB
 iterate 3 refine Zv ?_
 clear y0 y1;refine Zb 138 #[.pointer (some ⟨b,0,none⟩),.int .i64 24,.int .i64 4,.int .u32 state] (bi hB) XB hF hkl hU (λw23 F' XB hF hkl hU hB=>?_);go_upto_region 22 with(fail);refine ab ?_;obtain⟨y0,y1⟩:=cl2 XB;refine Zv ?_;clear y0 y1
 refine Zb 174 #[.pointer (some ⟨b,0,none⟩),.string fx] (aY hB lM (by decide) (by first|omega|(simp<;>omega))) XB hF hkl hU (λw24 F' XB hF hkl hU hB=>?_)
 go_upto_region 23 with(fail);refine ab ?_;obtain⟨y0,y1⟩:=cl2 XB;refine Zv ?_;clear y0 y1;refine Zb 124 #[.pointer (some ⟨b,0,none⟩)] (be hB) XB hF hkl hU (λw25 F' XB hF hkl hU hB=>?_);go_wp2;go_end0;exact⟨rfl,_,hB,hU⟩
end
section
attribute [local simp] fL ft dD cN fN cL df dZ dr dj eQ cH gV dz iI dA dy dV dq ge dX eO dC dx eh cU dh dR fV fh fT dP dO fP dB eW fE cj ee iD dW
def ol(st:BS)(own their turn owner other:Int):BS:=((((((((((((((st.set 4 1).ask 17 4 own).set 4 other).ask 17 4 turn).emit ⟨18,0,0,0,0⟩).place dv).ask 16 4 their).go 14 4 fq).ask 16 4 turn).set 6 other).alu 12 6 4 6).go 15 6 dv).place fq).ask 17 5 owner)
@[simp] theorem iL(st:BS)(own their turn owner other:Int):(ol st own their turn owner other).sz=st.sz+16:=by
 unfold ol;simp
theorem GS{b:Nat}{F:Nat->Prop}{st:BS}{own their turn owner other:Int}{w:World}(hB:BMem w b F st)(hs:st.sz<=3600:=by first|omega|(simp<;>omega)):Calls Tryz.prog 187 #[.agg #[.int .u32 own,.int .u32 their,.int .u32 turn,.int .u32 owner,.int .u32 other],.pointer (some ⟨b,0,none⟩)] w λe w'=>e=.returned (.tuple #[])/\∃F',BMem w' b F' (ol st own their turn owner other)/\Upd F F' w w':=by
 go_enter Tryz.func187,Tryz.ntmps187;go_upto_region 1 with(fail);obtain⟨W,kB,e0,e1,XB,hal⟩:=aO w #[.int .u32 own,.int .u32 their,.int .u32 turn,.int .u32 owner,.int .u32 other] 214;rw[e0,e1]
 have hF:¬F kB:=λh=>by have:=hB.lt kB h;omega
 clear e0 e1;have hkl:kB<W.heap.size:=aB XB;have hU:Upd F F w W:=Upd.of_below hal;replace hB:=hB.below hal;clear hal;go_upto_region 1 with(fail);refine ab ?_;obtain⟨y0,y1,y2,y3,y4⟩:=cl5 XB;refine Zv ?_;clear y0 y1 y2 y3 y4;refine Zb 130 #[.pointer (some ⟨b,0,none⟩),.int .i64 4,.int .u32 1] (bF hB) XB hF hkl hU (λw1 F' XB hF hkl hU hB=>?_);go_upto_region 2 with(fail);refine ab ?_;obtain⟨y0,y1,y2,y3,y4⟩:=cl5 XB
 iterate 3 refine Zv ?_
 clear y0 y1 y2 y3 y4;refine Zb 138 #[.pointer (some ⟨b,0,none⟩),.int .i64 17,.int .i64 4,.int .u32 own] (bi hB) XB hF hkl hU (λw2 F' XB hF hkl hU hB=>?_);go_upto_region 3 with(fail);refine ab ?_;obtain⟨y0,y1,y2,y3,y4⟩:=cl5 XB
 iterate 3 refine Zv ?_
 clear y0 y1 y2 y3 y4;refine Zb 130 #[.pointer (some ⟨b,0,none⟩),.int .i64 4,.int .u32 other] (bF hB) XB hF hkl hU (λw3 F' XB hF hkl hU hB=>?_);go_upto_region 4 with(fail);refine ab ?_;obtain⟨y0,y1,y2,y3,y4⟩:=cl5 XB
 iterate 3 refine Zv ?_
 clear y0 y1 y2 y3 y4;refine Zb 138 #[.pointer (some ⟨b,0,none⟩),.int .i64 17,.int .i64 4,.int .u32 turn] (bi hB) XB hF hkl hU (λw4 F' XB hF hkl hU hB=>?_);go_upto_region 5 with(fail);refine ab ?_;obtain⟨y0,y1,y2,y3,y4⟩:=cl5 XB
 iterate 2 refine Zv ?_
 clear y0 y1 y2 y3 y4
 refine Zb 183 #[.pointer (some ⟨b,0,none⟩),.agg #[.int .i64 18,.int .i64 0,.int .i64 0,.int .i64 0,.int .u32 0]] (kg ⟨18,0,0,0,0⟩ _ hB (Nat.le_succ_of_le (by first|omega|(simp<;>omega)))) XB hF hkl hU (λw5 F' XB hF hkl hU hB=>?_)
 go_upto_region 6 with(fail);refine ab ?_;obtain⟨y0,y1,y2,y3,y4⟩:=cl5 XB;refine Zv ?_;clear y0 y1 y2 y3 y4
 refine Zb 174 #[.pointer (some ⟨b,0,none⟩),.string dv] (aY hB jH (by decide) (by first|omega|(simp<;>omega))) XB hF hkl hU (λw6 F' XB hF hkl hU hB=>?_)
 go_upto_region 7 with(fail);refine ab ?_;obtain⟨y0,y1,y2,y3,y4⟩:=cl5 XB
 iterate 3 refine Zv ?_
 clear y0 y1 y2 y3 y4;refine Zb 138 #[.pointer (some ⟨b,0,none⟩),.int .i64 16,.int .i64 4,.int .u32 their] (bi hB) XB hF hkl hU (λw7 F' XB hF hkl hU hB=>?_);go_upto_region 8 with(fail);refine ab ?_;obtain⟨y0,y1,y2,y3,y4⟩:=cl5 XB;refine Zv ?_;clear y0 y1 y2 y3 y4;refine Zb 173 #[.pointer (some ⟨b,0,none⟩),.int .i64 14,.int .i64 4,.string fq] (goC hB) XB hF hkl hU (λw8 F' XB hF hkl hU hB=>?_);go_upto_region 9 with(fail);refine ab ?_;obtain⟨y0,y1,y2,y3,y4⟩:=cl5 XB
 iterate 3 refine Zv ?_
 clear y0 y1 y2 y3 y4;refine Zb 138 #[.pointer (some ⟨b,0,none⟩),.int .i64 16,.int .i64 4,.int .u32 turn] (bi hB) XB hF hkl hU (λw9 F' XB hF hkl hU hB=>?_);go_upto_region 10 with(fail);refine ab ?_;obtain⟨y0,y1,y2,y3,y4⟩:=cl5 XB
 iterate 3 refine Zv ?_
 clear y0 y1 y2 y3 y4;refine Zb 130 #[.pointer (some ⟨b,0,none⟩),.int .i64 6,.int .u32 other] (bF hB) XB hF hkl hU (λw10 F' XB hF hkl hU hB=>?_);go_upto_region 11 with(fail);refine ab ?_;obtain⟨y0,y1,y2,y3,y4⟩:=cl5 XB;refine Zv ?_;clear y0 y1 y2 y3 y4;refine Zb 176 #[.pointer (some ⟨b,0,none⟩),.int .i64 12,.int .i64 6,.int .i64 4,.int .i64 6] (jT hB) XB hF hkl hU (λw11 F' XB hF hkl hU hB=>?_);go_upto_region 12 with(fail);refine ab ?_;obtain⟨y0,y1,y2,y3,y4⟩:=cl5 XB;refine Zv ?_;clear y0 y1 y2 y3 y4;refine Zb 173 #[.pointer (some ⟨b,0,none⟩),.int .i64 15,.int .i64 6,.string dv] (goC hB) XB hF hkl hU (λw12 F' XB hF hkl hU hB=>?_);go_upto_region 13 with(fail);refine ab ?_;obtain⟨y0,y1,y2,y3,y4⟩:=cl5 XB;refine Zv ?_;clear y0 y1 y2 y3 y4
 refine Zb 174 #[.pointer (some ⟨b,0,none⟩),.string fq] (aY hB mA (by decide) (by first|omega|(simp<;>omega))) XB hF hkl hU (λw13 F' XB hF hkl hU hB=>?_)
 go_upto_region 14 with(fail);refine ab ?_;obtain⟨y0,y1,y2,y3,y4⟩:=cl5 XB
 iterate 3 refine Zv ?_
 clear y0 y1 y2 y3 y4;refine Zb 138 #[.pointer (some ⟨b,0,none⟩),.int .i64 17,.int .i64 5,.int .u32 owner] (bi hB) XB hF hkl hU (λw14 F' XB hF hkl hU hB=>?_);go_wp2;go_end0;exact⟨rfl,_,hB,hU⟩
def sj(st:BS)(own their turn owner other:Int):BS:=(((((((cE (((((st.place bG).set 4 1).ask 17 4 own).ask 16 4 their).go 14 4 fq) own).place jU).ask 16 4 their).go 15 4 jU).go 13 0 bG).place fq).ask 17 5 owner)
@[simp] theorem iZ(st:BS)(own their turn owner other:Int):(sj st own their turn owner other).sz=st.sz+16:=by
 unfold sj;simp
theorem finC{b:Nat}{F:Nat->Prop}{st:BS}{own their turn owner other:Int}{w:World}(hB:BMem w b F st)(hs:st.sz<=3600:=by first|omega|(simp<;>omega)):Calls Tryz.prog 188 #[.agg #[.int .u32 own,.int .u32 their,.int .u32 turn,.int .u32 owner,.int .u32 other],.pointer (some ⟨b,0,none⟩)] w λe w'=>e=.returned (.tuple #[])/\∃F',BMem w' b F' (sj st own their turn owner other)/\Upd F F' w w':=by
 go_enter Tryz.func188,Tryz.ntmps188;go_upto_region 1 with(fail);obtain⟨W,kB,e0,e1,XB,hal⟩:=aO w #[.int .u32 own,.int .u32 their,.int .u32 turn,.int .u32 owner,.int .u32 other] 214;rw[e0,e1]
 have hF:¬F kB:=λh=>by have:=hB.lt kB h;omega
 clear e0 e1;have hkl:kB<W.heap.size:=aB XB;have hU:Upd F F w W:=Upd.of_below hal;replace hB:=hB.below hal;clear hal;go_upto_region 1 with(fail);refine ab ?_;obtain⟨y0,y1,y2,y3,y4⟩:=cl5 XB;refine Zv ?_;clear y0 y1 y2 y3 y4
 refine Zb 174 #[.pointer (some ⟨b,0,none⟩),.string bG] (aY hB ji (by decide) (by first|omega|(simp<;>omega))) XB hF hkl hU (λw1 F' XB hF hkl hU hB=>?_)
 go_upto_region 2 with(fail);refine ab ?_;obtain⟨y0,y1,y2,y3,y4⟩:=cl5 XB;refine Zv ?_;clear y0 y1 y2 y3 y4;refine Zb 130 #[.pointer (some ⟨b,0,none⟩),.int .i64 4,.int .u32 1] (bF hB) XB hF hkl hU (λw2 F' XB hF hkl hU hB=>?_);go_upto_region 3 with(fail);refine ab ?_;obtain⟨y0,y1,y2,y3,y4⟩:=cl5 XB
 iterate 3 refine Zv ?_
 clear y0 y1 y2 y3 y4;refine Zb 138 #[.pointer (some ⟨b,0,none⟩),.int .i64 17,.int .i64 4,.int .u32 own] (bi hB) XB hF hkl hU (λw3 F' XB hF hkl hU hB=>?_);go_upto_region 4 with(fail);refine ab ?_;obtain⟨y0,y1,y2,y3,y4⟩:=cl5 XB
 iterate 3 refine Zv ?_
 clear y0 y1 y2 y3 y4;refine Zb 138 #[.pointer (some ⟨b,0,none⟩),.int .i64 16,.int .i64 4,.int .u32 their] (bi hB) XB hF hkl hU (λw4 F' XB hF hkl hU hB=>?_);go_upto_region 5 with(fail);refine ab ?_;obtain⟨y0,y1,y2,y3,y4⟩:=cl5 XB;refine Zv ?_;clear y0 y1 y2 y3 y4;refine Zb 173 #[.pointer (some ⟨b,0,none⟩),.int .i64 14,.int .i64 4,.string fq] (goC hB) XB hF hkl hU (λw5 F' XB hF hkl hU hB=>?_);go_upto_region 6 with(fail);refine ab ?_;obtain⟨y0,y1,y2,y3,y4⟩:=cl5 XB
 iterate 3 refine Zv ?_
 clear y0 y1 y2 y3 y4;refine Zb 123 #[.pointer (some ⟨b,0,none⟩),.int .u32 own] (gL hB) XB hF hkl hU (λw6 F' XB hF hkl hU hB=>?_);go_upto_region 7 with(fail);refine ab ?_;obtain⟨y0,y1,y2,y3,y4⟩:=cl5 XB;refine Zv ?_;clear y0 y1 y2 y3 y4
 refine Zb 174 #[.pointer (some ⟨b,0,none⟩),.string jU] (aY hB rP (by decide) (by first|omega|(simp<;>omega))) XB hF hkl hU (λw7 F' XB hF hkl hU hB=>?_)
 go_upto_region 8 with(fail);refine ab ?_;obtain⟨y0,y1,y2,y3,y4⟩:=cl5 XB
 iterate 3 refine Zv ?_
 clear y0 y1 y2 y3 y4;refine Zb 138 #[.pointer (some ⟨b,0,none⟩),.int .i64 16,.int .i64 4,.int .u32 their] (bi hB) XB hF hkl hU (λw8 F' XB hF hkl hU hB=>?_);go_upto_region 9 with(fail);refine ab ?_;obtain⟨y0,y1,y2,y3,y4⟩:=cl5 XB;refine Zv ?_;clear y0 y1 y2 y3 y4;refine Zb 173 #[.pointer (some ⟨b,0,none⟩),.int .i64 15,.int .i64 4,.string jU] (goC hB) XB hF hkl hU (λw9 F' XB hF hkl hU hB=>?_);go_upto_region 10 with(fail);refine ab ?_;obtain⟨y0,y1,y2,y3,y4⟩:=cl5 XB;refine Zv ?_;clear y0 y1 y2 y3 y4;refine Zb 173 #[.pointer (some ⟨b,0,none⟩),.int .i64 13,.int .i64 0,.string bG] (goC hB) XB hF hkl hU (λw10 F' XB hF hkl hU hB=>?_);go_upto_region 11 with(fail);refine ab ?_;obtain⟨y0,y1,y2,y3,y4⟩:=cl5 XB;refine Zv ?_;clear y0 y1 y2 y3 y4
 refine Zb 174 #[.pointer (some ⟨b,0,none⟩),.string fq] (aY hB mA (by decide) (by first|omega|(simp<;>omega))) XB hF hkl hU (λw11 F' XB hF hkl hU hB=>?_)
 go_upto_region 12 with(fail);refine ab ?_;obtain⟨y0,y1,y2,y3,y4⟩:=cl5 XB
 iterate 3 refine Zv ?_
 clear y0 y1 y2 y3 y4;refine Zb 138 #[.pointer (some ⟨b,0,none⟩),.int .i64 17,.int .i64 5,.int .u32 owner] (bi hB) XB hF hkl hU (λw12 F' XB hF hkl hU hB=>?_);go_wp2;go_end0;exact⟨rfl,_,hB,hU⟩
def rK(st:BS)(own their turn owner other:Int):BS:=(((((((st.set 4 1).ask 17 4 own).emit ⟨25,0,0,0,0⟩).place jU).ask 16 4 their).go 15 4 jU).ask 17 5 owner)
@[simp] theorem iT(st:BS)(own their turn owner other:Int):(rK st own their turn owner other).sz=st.sz+8:=by
 unfold rK;simp
theorem sinC{b:Nat}{F:Nat->Prop}{st:BS}{own their turn owner other:Int}{w:World}(hB:BMem w b F st)(hs:st.sz<=3600:=by first|omega|(simp<;>omega)):Calls Tryz.prog 189 #[.agg #[.int .u32 own,.int .u32 their,.int .u32 turn,.int .u32 owner,.int .u32 other],.pointer (some ⟨b,0,none⟩)] w λe w'=>e=.returned (.tuple #[])/\∃F',BMem w' b F' (rK st own their turn owner other)/\Upd F F' w w':=by
 go_enter Tryz.func189,Tryz.ntmps189;go_upto_region 1 with(fail);obtain⟨W,kB,e0,e1,XB,hal⟩:=aO w #[.int .u32 own,.int .u32 their,.int .u32 turn,.int .u32 owner,.int .u32 other] 214;rw[e0,e1]
 have hF:¬F kB:=λh=>by have:=hB.lt kB h;omega
 clear e0 e1;have hkl:kB<W.heap.size:=aB XB;have hU:Upd F F w W:=Upd.of_below hal;replace hB:=hB.below hal;clear hal;go_upto_region 1 with(fail);refine ab ?_;obtain⟨y0,y1,y2,y3,y4⟩:=cl5 XB;refine Zv ?_;clear y0 y1 y2 y3 y4;refine Zb 130 #[.pointer (some ⟨b,0,none⟩),.int .i64 4,.int .u32 1] (bF hB) XB hF hkl hU (λw1 F' XB hF hkl hU hB=>?_);go_upto_region 2 with(fail);refine ab ?_;obtain⟨y0,y1,y2,y3,y4⟩:=cl5 XB
 iterate 3 refine Zv ?_
 clear y0 y1 y2 y3 y4;refine Zb 138 #[.pointer (some ⟨b,0,none⟩),.int .i64 17,.int .i64 4,.int .u32 own] (bi hB) XB hF hkl hU (λw2 F' XB hF hkl hU hB=>?_);go_upto_region 3 with(fail);refine ab ?_;obtain⟨y0,y1,y2,y3,y4⟩:=cl5 XB
 iterate 2 refine Zv ?_
 clear y0 y1 y2 y3 y4
 refine Zb 183 #[.pointer (some ⟨b,0,none⟩),.agg #[.int .i64 25,.int .i64 0,.int .i64 0,.int .i64 0,.int .u32 0]] (kg ⟨25,0,0,0,0⟩ _ hB (Nat.le_succ_of_le (by first|omega|(simp<;>omega)))) XB hF hkl hU (λw3 F' XB hF hkl hU hB=>?_)
 go_upto_region 4 with(fail);refine ab ?_;obtain⟨y0,y1,y2,y3,y4⟩:=cl5 XB;refine Zv ?_;clear y0 y1 y2 y3 y4
 refine Zb 174 #[.pointer (some ⟨b,0,none⟩),.string jU] (aY hB rP (by decide) (by first|omega|(simp<;>omega))) XB hF hkl hU (λw4 F' XB hF hkl hU hB=>?_)
 go_upto_region 5 with(fail);refine ab ?_;obtain⟨y0,y1,y2,y3,y4⟩:=cl5 XB
 iterate 3 refine Zv ?_
 clear y0 y1 y2 y3 y4;refine Zb 138 #[.pointer (some ⟨b,0,none⟩),.int .i64 16,.int .i64 4,.int .u32 their] (bi hB) XB hF hkl hU (λw5 F' XB hF hkl hU hB=>?_);go_upto_region 6 with(fail);refine ab ?_;obtain⟨y0,y1,y2,y3,y4⟩:=cl5 XB;refine Zv ?_;clear y0 y1 y2 y3 y4;refine Zb 173 #[.pointer (some ⟨b,0,none⟩),.int .i64 15,.int .i64 4,.string jU] (goC hB) XB hF hkl hU (λw6 F' XB hF hkl hU hB=>?_);go_upto_region 7 with(fail);refine ab ?_;obtain⟨y0,y1,y2,y3,y4⟩:=cl5 XB
 iterate 3 refine Zv ?_
 clear y0 y1 y2 y3 y4;refine Zb 138 #[.pointer (some ⟨b,0,none⟩),.int .i64 17,.int .i64 5,.int .u32 owner] (bi hB) XB hF hkl hU (λw7 F' XB hF hkl hU hB=>?_);go_wp2;go_end0;exact⟨rfl,_,hB,hU⟩
def g7(st:BS)(own their turn owner other:Int):BS:=(cE (cE st owner) own)
@[simp] theorem gQ(st:BS)(own their turn owner other:Int):(g7 st own their turn owner other).sz=st.sz+4:=by
 unfold g7;simp
theorem vU{b:Nat}{F:Nat->Prop}{st:BS}{own their turn owner other:Int}{w:World}(hB:BMem w b F st)(hs:st.sz<=3600:=by first|omega|(simp<;>omega)):Calls Tryz.prog 132 #[.agg #[.int .u32 own,.int .u32 their,.int .u32 turn,.int .u32 owner,.int .u32 other],.pointer (some ⟨b,0,none⟩)] w λe w'=>e=.returned (.tuple #[])/\∃F',BMem w' b F' (g7 st own their turn owner other)/\Upd F F' w w':=by
 go_enter Tryz.func132,Tryz.ntmps132;go_upto_region 1 with(fail);obtain⟨W,kB,e0,e1,XB,hal⟩:=aO w #[.int .u32 own,.int .u32 their,.int .u32 turn,.int .u32 owner,.int .u32 other] 214;rw[e0,e1]
 have hF:¬F kB:=λh=>by have:=hB.lt kB h;omega
 clear e0 e1;have hkl:kB<W.heap.size:=aB XB;have hU:Upd F F w W:=Upd.of_below hal;replace hB:=hB.below hal;clear hal;go_upto_region 1 with(fail);refine ab ?_;obtain⟨y0,y1,y2,y3,y4⟩:=cl5 XB
 iterate 3 refine Zv ?_
 clear y0 y1 y2 y3 y4;refine Zb 123 #[.pointer (some ⟨b,0,none⟩),.int .u32 owner] (gL hB) XB hF hkl hU (λw1 F' XB hF hkl hU hB=>?_);go_upto_region 2 with(fail);refine ab ?_;obtain⟨y0,y1,y2,y3,y4⟩:=cl5 XB
 iterate 3 refine Zv ?_
 clear y0 y1 y2 y3 y4;refine Zb 123 #[.pointer (some ⟨b,0,none⟩),.int .u32 own] (gL hB) XB hF hkl hU (λw2 F' XB hF hkl hU hB=>?_);go_wp2;go_end0;exact⟨rfl,_,hB,hU⟩
end
end Go.Proofs.YtldlcnaphednnaaGreatDoor
