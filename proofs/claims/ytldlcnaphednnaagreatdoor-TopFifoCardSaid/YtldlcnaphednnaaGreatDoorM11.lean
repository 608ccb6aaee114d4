/- The code of conditions, barriers, what is done once. The builder's code, all jumps to where their places are. Every link of the builder's code lies in it, and has a short name. The code of mutexes and semaphores. -/
import Derived.Test.YtldlcnaphednnaaGreatDoorM10
import Derived.Test.YtldlcnaphednnaaGreatDoorM05
import Derived.Test.YtldlcnaphednnaaGreatDoorM03
import Derived.Test.YtldlcnaphednnaaGreatDoorM07
set_option maxRecDepth 100000
set_option maxHeartbeats 32000000
set_option linter.unusedVariables false
set_option linter.unusedSimpArgs false
namespace Go.Proofs.YtldlcnaphednnaaGreatDoor
open Go.RowKit Go.Maps
section
attribute [local simp] fL ft dD cN fN cL df dZ dr dj gQ eQ cH gV iZ dz iI dA dy dV dq ge dX eO dC dx eh iL cU dh dR fV fh fT dP dO fP iT dB eW fE cj ee iD dW
def mg(st:BS)(n base:Int):BS:=(aI ((((((((((jN (jO (cE ((((jO (st.ask 16 5 ((base+1)%4294967296)) base).set 6 (n - 1)).alu 12 6 4 6).go 14 6 mr) base) ((base+1)%4294967296)) 4294967295 ((base+1)%4294967296)).go 13 0 fx).place mr).ask 16 4 ((base+1)%4294967296)).alu 12 6 4 5).go 14 6 fx).emit ⟨2,4,5,0,0⟩).ask 23 4 ((base+1)%4294967296)).go 13 0 mr).place fx) )
@[simp] theorem iz(st:BS)(n base:Int):(mg st n base).sz=st.sz+27:=by
 unfold mg;simp
theorem Gl{b:Nat}{F:Nat->Prop}{st:BS}{n base:Int}{w:World}(hn:1<=n/\n<=8)(hB:BMem w b F st)(hs:st.sz<=3600:=by first|omega|(simp<;>omega)):Calls Tryz.prog 196 #[.pointer (some ⟨b,0,none⟩),.int .i64 n,.int .u32 base] w λe w'=>e=.returned (.tuple #[])/\∃F',BMem w' b F' (mg st n base)/\Upd F F' w w':=by
 have hn0:=hn.1;have hn1:=hn.2;clear hn;go_enter Tryz.func196,Tryz.ntmps196;have hU:=Upd.refl F w;go_wp2_with fail;refine(Zx hU (bi hB)).mono ?_;rintro e w' ⟨rfl,F',hB,hU⟩;go_wp2_with fail;refine(Zx hU (sG hB)).mono ?_;rintro e w' ⟨rfl,F',hB,hU⟩;go_wp2_with fail;refine(Zx hU (bF hB)).mono ?_;rintro e w' ⟨rfl,F',hB,hU⟩;go_wp2_with fail;refine(Zx hU (jT hB)).mono ?_;rintro e w' ⟨rfl,F',hB,hU⟩;go_wp2_with fail;refine(Zx hU (goC hB)).mono ?_;rintro e w' ⟨rfl,F',hB,hU⟩;go_wp2_with fail;refine(Zx hU (gL hB)).mono ?_;rintro e w' ⟨rfl,F',hB,hU⟩;go_wp2_with fail;refine(Zx hU (sG hB)).mono ?_;rintro e w' ⟨rfl,F',hB,hU⟩;go_wp2_with fail;refine(ut _).mono ?_;rintro e w' ⟨rfl,hd⟩;replace hB:=hB.below hd;replace hU:=hU.trans (Upd.of_below hd);clear hd;go_wp2_with fail;refine(Zx hU (rI hB)).mono ?_;rintro e w' ⟨rfl,F',hB,hU⟩;go_wp2_with fail;refine(Zx hU (goC hB)).mono ?_;rintro e w' ⟨rfl,F',hB,hU⟩;go_wp2_with fail
 refine(Zx hU (aY hB vW (by decide) (by first|omega|(simp<;>omega)))).mono ?_
 rintro e w' ⟨rfl,F',hB,hU⟩;go_wp2_with fail;refine(Zx hU (bi hB)).mono ?_;rintro e w' ⟨rfl,F',hB,hU⟩;go_wp2_with fail;refine(Zx hU (jT hB)).mono ?_;rintro e w' ⟨rfl,F',hB,hU⟩;go_wp2_with fail;refine(Zx hU (goC hB)).mono ?_;rintro e w' ⟨rfl,F',hB,hU⟩;go_wp2_with fail
 refine(Zx hU (kg ⟨2,4,5,0,0⟩ _ hB (Nat.le_succ_of_le (by first|omega|(simp<;>omega))))).mono ?_
 rintro e w' ⟨rfl,F',hB,hU⟩;go_wp2_with fail;refine(Zx hU (bi hB)).mono ?_;rintro e w' ⟨rfl,F',hB,hU⟩;go_wp2_with fail;refine(Zx hU (goC hB)).mono ?_;rintro e w' ⟨rfl,F',hB,hU⟩;go_wp2_with fail
 refine(Zx hU (aY hB lM (by decide) (by first|omega|(simp<;>omega)))).mono ?_
 rintro e w' ⟨rfl,F',hB,hU⟩;go_wp2_with fail;refine(Zx hU (be hB)).mono ?_;rintro e w' ⟨rfl,F',hB,hU⟩;go_wp2;go_end0;exact⟨rfl,_,hB,hU⟩
def kn(st:BS)(t base:Int):BS:=(aI ((((((((((((((((((((aW st ((base+1)%4294967296) t).place bG).ask 16 4 base).set 6 2).alu 12 6 4 6).go 15 6 fx).set 4 0).set 6 1).cas 4 6 base).go 14 4 wR).set 6 1).alu 12 6 4 6).go 14 6 bG).ask 23 4 base).go 13 0 bG).place wR).ask 17 5 ((base+1)%4294967296)).set 7 5).go 13 0 jB).place fx) )
@[simp] theorem gE(st:BS)(t base:Int):(kn st t base).sz=st.sz+35:=by
 unfold kn;simp
theorem D8{b:Nat}{F:Nat->Prop}{st:BS}{t base:Int}{w:World}(hB:BMem w b F st)(hs:st.sz<=3600:=by first|omega|(simp<;>omega)):Calls Tryz.prog 146 #[.pointer (some ⟨b,0,none⟩),.int .i64 t,.int .u32 base] w λe w'=>e=.returned (.tuple #[])/\∃F',BMem w' b F' (kn st t base)/\Upd F F' w w':=by
 go_enter Tryz.func146,Tryz.ntmps146;have hU:=Upd.refl F w;go_wp2_with fail;refine(Zx hU (gX hB)).mono ?_;rintro e w' ⟨rfl,F',hB,hU⟩;go_wp2_with fail
 refine(Zx hU (aY hB ji (by decide) (by first|omega|(simp<;>omega)))).mono ?_
 rintro e w' ⟨rfl,F',hB,hU⟩;go_wp2_with fail;refine(Zx hU (bi hB)).mono ?_;rintro e w' ⟨rfl,F',hB,hU⟩;go_wp2_with fail;refine(Zx hU (bF hB)).mono ?_;rintro e w' ⟨rfl,F',hB,hU⟩;go_wp2_with fail;refine(Zx hU (jT hB)).mono ?_;rintro e w' ⟨rfl,F',hB,hU⟩;go_wp2_with fail;refine(Zx hU (goC hB)).mono ?_;rintro e w' ⟨rfl,F',hB,hU⟩;go_wp2_with fail;refine(Zx hU (bF hB)).mono ?_;rintro e w' ⟨rfl,F',hB,hU⟩;go_wp2_with fail;refine(Zx hU (bF hB)).mono ?_;rintro e w' ⟨rfl,F',hB,hU⟩;go_wp2_with fail;refine(Zx hU (qd hB)).mono ?_;rintro e w' ⟨rfl,F',hB,hU⟩;go_wp2_with fail;refine(Zx hU (goC hB)).mono ?_;rintro e w' ⟨rfl,F',hB,hU⟩;go_wp2_with fail;refine(Zx hU (bF hB)).mono ?_;rintro e w' ⟨rfl,F',hB,hU⟩;go_wp2_with fail;refine(Zx hU (jT hB)).mono ?_;rintro e w' ⟨rfl,F',hB,hU⟩;go_wp2_with fail;refine(Zx hU (goC hB)).mono ?_;rintro e w' ⟨rfl,F',hB,hU⟩;go_wp2_with fail;refine(Zx hU (bi hB)).mono ?_;rintro e w' ⟨rfl,F',hB,hU⟩;go_wp2_with fail;refine(Zx hU (goC hB)).mono ?_;rintro e w' ⟨rfl,F',hB,hU⟩;go_wp2_with fail
 refine(Zx hU (aY hB A7 (by decide) (by first|omega|(simp<;>omega)))).mono ?_
 rintro e w' ⟨rfl,F',hB,hU⟩;go_wp2_with fail;refine(Zx hU (bi hB)).mono ?_;rintro e w' ⟨rfl,F',hB,hU⟩;go_wp2_with fail;refine(Zx hU (bF hB)).mono ?_;rintro e w' ⟨rfl,F',hB,hU⟩;go_wp2_with fail;refine(Zx hU (goC hB)).mono ?_;rintro e w' ⟨rfl,F',hB,hU⟩;go_wp2_with fail
 refine(Zx hU (aY hB lM (by decide) (by first|omega|(simp<;>omega)))).mono ?_
 rintro e w' ⟨rfl,F',hB,hU⟩;go_wp2_with fail;refine(Zx hU (be hB)).mono ?_;rintro e w' ⟨rfl,F',hB,hU⟩;go_wp2;go_end0;exact⟨rfl,_,hB,hU⟩
def kk(st:BS)(t base:Int):BS:=(aI (jN (((cE (aS st ((base+1)%4294967296) t) ((base+1)%4294967296)).set 4 2).ask 19 4 base) 4294967295 base) )
@[simp] theorem gB(st:BS)(t base:Int):(kk st t base).sz=st.sz+17:=by
 unfold kk;simp
theorem Ea{b:Nat}{F:Nat->Prop}{st:BS}{t base:Int}{w:World}(hB:BMem w b F st)(hs:st.sz<=3600:=by first|omega|(simp<;>omega)):Calls Tryz.prog 147 #[.pointer (some ⟨b,0,none⟩),.int .i64 t,.int .u32 base] w λe w'=>e=.returned (.tuple #[])/\∃F',BMem w' b F' (kk st t base)/\Upd F F' w w':=by
 go_enter Tryz.func147,Tryz.ntmps147;have hU:=Upd.refl F w;go_wp2_with fail;refine(Zx hU (gw hB)).mono ?_;rintro e w' ⟨rfl,F',hB,hU⟩;go_wp2_with fail;refine(Zx hU (gL hB)).mono ?_;rintro e w' ⟨rfl,F',hB,hU⟩;go_wp2_with fail;refine(Zx hU (bF hB)).mono ?_;rintro e w' ⟨rfl,F',hB,hU⟩;go_wp2_with fail;refine(Zx hU (bi hB)).mono ?_;rintro e w' ⟨rfl,F',hB,hU⟩;go_wp2_with fail;refine(ut _).mono ?_;rintro e w' ⟨rfl,hd⟩;replace hB:=hB.below hd;replace hU:=hU.trans (Upd.of_below hd);clear hd;go_wp2_with fail;refine(Zx hU (rI hB)).mono ?_;rintro e w' ⟨rfl,F',hB,hU⟩;go_wp2_with fail;refine(Zx hU (be hB)).mono ?_;rintro e w' ⟨rfl,F',hB,hU⟩;go_wp2;go_end0;exact⟨rfl,_,hB,hU⟩
def kq(st:BS)(t base:Int):BS:=(aI ((st.ask 16 4 base).ask 17 4 ((base+1+t)%4294967296)) )
@[simp] theorem gD(st:BS)(t base:Int):(kq st t base).sz=st.sz+4:=by
 unfold kq;simp
theorem EL{b:Nat}{F:Nat->Prop}{st:BS}{t base:Int}{w:World}(hB:BMem w b F st)(hs:st.sz<=3600:=by first|omega|(simp<;>omega)):Calls Tryz.prog 144 #[.pointer (some ⟨b,0,none⟩),.int .i64 5,.int .i64 t,.int .u32 base] w λe w'=>e=.returned (.tuple #[])/\∃F',BMem w' b F' (kq st t base)/\Upd F F' w w':=by
 go_enter Tryz.func144,Tryz.ntmps144;have hU:=Upd.refl F w;go_wp2_with fail;refine(Zx hU (bi hB)).mono ?_;rintro e w' ⟨rfl,F',hB,hU⟩;go_wp2_with fail;refine(Zx hU (bi hB)).mono ?_;rintro e w' ⟨rfl,F',hB,hU⟩;go_wp2_with fail;refine(Zx hU (be hB)).mono ?_;rintro e w' ⟨rfl,F',hB,hU⟩;go_wp2;go_end0;exact⟨rfl,_,hB,hU⟩
def kU(st:BS)(t base:Int):BS:=(aI ((st.ask 16 4 ((base+1+t)%4294967296)).ask 23 4 base) )
@[simp] theorem gz(st:BS)(t base:Int):(kU st t base).sz=st.sz+4:=by
 unfold kU;simp
theorem Fl{b:Nat}{F:Nat->Prop}{st:BS}{t base:Int}{w:World}(hB:BMem w b F st)(hs:st.sz<=3600:=by first|omega|(simp<;>omega)):Calls Tryz.prog 144 #[.pointer (some ⟨b,0,none⟩),.int .i64 6,.int .i64 t,.int .u32 base] w λe w'=>e=.returned (.tuple #[])/\∃F',BMem w' b F' (kU st t base)/\Upd F F' w w':=by
 go_enter Tryz.func144,Tryz.ntmps144;have hU:=Upd.refl F w;go_wp2_with fail;refine(Zx hU (bi hB)).mono ?_;rintro e w' ⟨rfl,F',hB,hU⟩;go_wp2_with fail;refine(Zx hU (bi hB)).mono ?_;rintro e w' ⟨rfl,F',hB,hU⟩;go_wp2_with fail;refine(Zx hU (be hB)).mono ?_;rintro e w' ⟨rfl,F',hB,hU⟩;go_wp2;go_end0;exact⟨rfl,_,hB,hU⟩
def kw(st:BS)(t base:Int):BS:=(aI (jN (jO st base) 1 base) )
@[simp] theorem gA(st:BS)(t base:Int):(kw st t base).sz=st.sz+6:=by
 unfold kw;simp
theorem E8{b:Nat}{F:Nat->Prop}{st:BS}{t base:Int}{w:World}(hB:BMem w b F st)(hs:st.sz<=3600:=by first|omega|(simp<;>omega)):Calls Tryz.prog 144 #[.pointer (some ⟨b,0,none⟩),.int .i64 7,.int .i64 t,.int .u32 base] w λe w'=>e=.returned (.tuple #[])/\∃F',BMem w' b F' (kw st t base)/\Upd F F' w w':=by
 go_enter Tryz.func144,Tryz.ntmps144;have hU:=Upd.refl F w;go_wp2_with fail;refine(Zx hU (sG hB)).mono ?_;rintro e w' ⟨rfl,F',hB,hU⟩;go_wp2_with fail;refine(Zx hU (rI hB)).mono ?_;rintro e w' ⟨rfl,F',hB,hU⟩;go_wp2_with fail;refine(Zx hU (be hB)).mono ?_;rintro e w' ⟨rfl,F',hB,hU⟩;go_wp2;go_end0;exact⟨rfl,_,hB,hU⟩
def kG(st:BS)(t base:Int):BS:=(aI (jN (jO st base) 4294967295 base) )
@[simp] theorem gy(st:BS)(t base:Int):(kG st t base).sz=st.sz+6:=by
 unfold kG;simp
theorem Fz{b:Nat}{F:Nat->Prop}{st:BS}{t base:Int}{w:World}(hB:BMem w b F st)(hs:st.sz<=3600:=by first|omega|(simp<;>omega)):Calls Tryz.prog 144 #[.pointer (some ⟨b,0,none⟩),.int .i64 8,.int .i64 t,.int .u32 base] w λe w'=>e=.returned (.tuple #[])/\∃F',BMem w' b F' (kG st t base)/\Upd F F' w w':=by
 go_enter Tryz.func144,Tryz.ntmps144;have hU:=Upd.refl F w;go_wp2_with fail;refine(Zx hU (sG hB)).mono ?_;rintro e w' ⟨rfl,F',hB,hU⟩;go_wp2_with fail;refine(ut _).mono ?_;rintro e w' ⟨rfl,hd⟩;replace hB:=hB.below hd;replace hU:=hU.trans (Upd.of_below hd);clear hd;go_wp2_with fail;refine(Zx hU (rI hB)).mono ?_;rintro e w' ⟨rfl,F',hB,hU⟩;go_wp2_with fail;refine(Zx hU (be hB)).mono ?_;rintro e w' ⟨rfl,F',hB,hU⟩;go_wp2;go_end0;exact⟨rfl,_,hB,hU⟩
end
def lZ(d:Plc):Int:=match d with
 | .lit (.int _ c)=>c
 | _=>0
def xQ(o:List Ins)(i:Nat):Int:=match o[i]? with
 | some x=>x.op
 | none=>0
def uK(o:List Ins)(i:Nat)(k:Int):List Ins:=match o[i]? with
 | some x=>o.set i { x with k:=k }
 | none=>o
def cQ(D:Plc)(O:Option (List Ins))(l:Lnk):Option (List Ins):=match O with
 | none=>none
 | some o=>if Maps.has D (nmL l.name)=true then(if bt (xQ o l.at'.toNat)=true then some (uK o l.at'.toNat (lZ (D.atKey (nmL l.name) (.lit (.int .i64 0)))%4294967296)) else none) else none
def BS.fin(st:BS):List Ins×Bool:=match st.links.foldl (cQ st.places) (some st.code) with
 | none=>([],false)
 | some o=>if st.bad=true then([],false) else(o,true)
theorem jZ(D:Plc):∀l:List Lnk,l.foldl (cQ D) none=none
 | []=>rfl
 | x :: l=>jZ D l
theorem Bl(o:List Ins)(i:Nat)(k:Int):(uK o i k).length=o.length:=by
 unfold uK;split<;>simp
theorem t7:∀(o:List Ins)(i:Nat)(x:Ins)(k:Int),o[i]? = some x->(o.flatMap dH).set (i * 5+4) (.int .u32 k)=(o.set i { x with k:=k }).flatMap dH
 | [],i,x,k,h=>by simp at h
 | y :: o,0,x,k,h=>by
  simp at h;subst h;simp[dH]
 | y :: o,i+1,x,k,h=>by
  have ih:=t7 o i x k (by simpa using h);rw[List.flatMap_cons,List.set_cons_succ,List.flatMap_cons,<-ih];rw[List.set_append_right _ _ (by simp[dH];omega)];congr 2;simp[dH];omega
theorem A1{o:List Ins}{i q:Nat}{x:Ins}(h:o[i]? = some x)(hq:q<5):(o.flatMap dH)[i * 5+q]? = (dH x)[q]? := by
 induction o generalizing i with
 | nil=>simp at h
 | cons y o ih=>
  rw[List.flatMap_cons]
  cases i with
  | zero=>
   simp at h;subst h;rw[Nat.zero_mul,Nat.zero_add,List.getElem?_append_left (by simp[dH];omega)]
  | succ i=>
   rw[List.getElem?_append_right (by simp[dH];omega)];have:=ih (i:=i) (by simpa using h);rw[<-this];congr 1;simp[dH];omega
theorem zX{o:List Lnk}{i q:Nat}{x:Lnk}(h:o[i]? = some x)(hq:q<2):(o.flatMap qf)[i * 2+q]? = (qf x)[q]? := by
 induction o generalizing i with
 | nil=>simp at h
 | cons y o ih=>
  rw[List.flatMap_cons]
  cases i with
  | zero=>
   simp at h;subst h;rw[Nat.zero_mul,Nat.zero_add,List.getElem?_append_left (by simp[qf];omega)]
  | succ i=>
   rw[List.getElem?_append_right (by simp[qf];omega)];have:=ih (i:=i) (by simpa using h);rw[<-this];congr 1;simp[qf];omega
theorem gW{k:Int}(w:World)(p:Addr)(u:Value)(hc:w.cell? p=some u)(hf:w.frozen? p=false):(store p (.int .u32 k)).run Tryz.prog w=.ok () (w.setCell p (.int .u32 k)):=by simp[go_sem,stored,hc,hf]
theorem GC{w:World}{v:Value}{D:Plc}{n:Nat}(h:PlM w v D n){name:ByteArray}(hl:name.size<=maxLen):(Instr.lookup 199 v (.string name) true).run Tryz.prog w=.ok (.tuple #[.int .i64 (lZ (D.atKey (nmL name) (.lit (.int .i64 0)))),.bool (Maps.has D (nmL name))]) w:=by
 have hkey:keyOf Tryz.prog 9 (.string name)=some (nmL name):=Go.WideMaps.keyOf_string_mk Tryz.underlying9 hl;rcases h with⟨rfl,rfl⟩|⟨B,rfl,hown⟩
 ·have hr:=Maps.look_nil (P:=Tryz.prog) (w:=w) true xD Tryz.underlying199 (vX w) hkey
  rw[hr];rfl
 ·obtain⟨v,ps,hrun,hv⟩:=hown.look_ok xD Tryz.underlying199 (vX w) (zd:=.lit (.int .i64 0)) (zp:=[]) (plainElem_int Tryz.underlying3 (by decide)) hkey
  obtain⟨c,rfl,hc,_⟩:=plainElem_int_inv Tryz.underlying3 hv;rw[hrun,show D.atKey (nmL name) (.lit (.int .i64 0))=.lit (.int .i64 c) from congrArg Prod.fst hc];rfl
theorem Dv{w w':World}{g n c:Nat}{o:List Ins}{cur:Array Value}{i:Nat}{x:Ins}{k:Int}(h:kZ w (.slice (some ⟨g,0,none⟩) n c) o)(hg:w.heap[g]? = some (.cells cur 115 (0,0)))(hx:o[i]? = some x)(hg':w'.heap[g]? = some (.cells (cur.setIfInBounds (i * 5+4) (.int .u32 k)) 115 (0,0))):kZ w' (.slice (some ⟨g,0,none⟩) n c) (o.set i { x with k:=k }):=by
 unfold kZ at *;rw[List.length_set];refine⟨by rw[lI,List.length_set],?_⟩;rcases h.2 with⟨h',_⟩|⟨g',cap,cur',h',hb,h4,h5,h6,h7,h8⟩
 ·simp at h'
 ·simp only[Value.slice.injEq,Option.some.injEq,Addr.mk.injEq,and_true,true_and]at h'
  obtain⟨rfl,rfl,rfl⟩:=h';rw[hg]at h4;simp only[Option.some.injEq,Obj.cells.injEq]at h4;obtain⟨rfl,-⟩:=h4;refine .inr ⟨_,_,_,rfl,hb,hg',h5,h6,by simpa using h7,?_⟩;rw[Array.toList_setIfInBounds,List.take_set,h8,t7 o i x k hx]
theorem wW{o:Oper}{a:Act}{w:World}{v:Value}{L:List Lnk}{g n c i:Nat}{x:Lnk}(y:Operand)(ho:o.op=.load 243 y)(h:AD w (.slice (some ⟨g,0,none⟩) n c) L)(hi:L[i]? = some x)(hx:a.eval y=.pointer (some ⟨g,i * 2,none⟩)):(execOp a.eval o).run Tryz.prog w=.ok (.value (.agg #[.int .i64 x.at',.string x.name])) w:=by
 have hil:i<L.length:=(aj.1 hi).1
 have hc:∀q,q<2->w.cell? ⟨g,i * 2+q,none⟩=(qf x)[q]? := λq hq=>by
  rcases h.2 with⟨h',_⟩|⟨g',cap,cur,h',_,h4,_,_,_,h8⟩
  ·simp at h'
  ·simp only[Value.slice.injEq,Option.some.injEq,Addr.mk.injEq,and_true,true_and]at h'
   obtain⟨rfl,rfl,rfl⟩:=h';rw[ae w g _ cur 243 _ h4,<-zX hi hq,<-h8,List.getElem?_take,ag (by omega),Array.getElem?_toList]
 have hl:(loadCells ⟨g,i * 2,none⟩ 2).run Tryz.prog w=.ok #[.int .i64 x.at',.string x.name] w:=by
  have:=run_loadCells_list (P:=Tryz.prog) w ⟨g,i * 2,none⟩ [.int .i64 x.at',.string x.name] (λj v hv=>by
   rw[bX]
   match j,hv with
   | 0,hv=>simp at hv;rw[<-hv];exact hc 0 (by omega)
   | 1,hv=>simp at hv;rw[<-hv];exact hc 1 (by omega)
   | j+2,hv=>simp at hv)
  exact this
 have e1:=Tryz.isAgg243;have e2:=Tryz.sizeOf243;unfold execOp;simp only[ho,hx,Instr.loadAt,Instr.sureAddr,Sem.run_bind,Sem.run_pure,Result.andThen_ok];unfold loadVar;simp only[Sem.run_bind,e1,e2,Result.andThen_ok,if_true,hl,Sem.run_pure]
def CodeR(w w':World)(r:List Ins×Bool)(e:Ending):Prop:=∃v,e=.returned (.tuple #[v,.bool r.2])/\kZ w' v r.1/\∀k,v.ownBlock=some k->w.heap.size<=k
theorem CodeR.no{w w':World}:CodeR w w' ([],false) (.returned (.tuple #[.slice none 0 0,.bool false])):=⟨_,rfl,World.ownsRow_nil _ _ _ _,λk h=>by cases h⟩
theorem dE{w0 w w':World}{r:List Ins×Bool}{v:Value}{e:Ending}(hal:Below w0.heap.size w0 w)(h1:kZ w' v r.1)(h2:∀k,v.ownBlock=some k->w.heap.size<=k)(hb:Below w.heap.size w w')(he:e=.returned (.tuple #[v,.bool r.2]):=by rfl):CodeR w0 w' r e/\Below w0.heap.size w0 w':=⟨⟨v,he,h1,λk hk=>ar hal.size (h2 k hk)⟩,hal.trans (hb.mono hal.size)⟩
theorem br{b:Nat}{F:Nat->Prop}{st:BS}{w:World}(hB:BMem w b F st)(hwf:st.Wf)(hs:st.sz<=4000)(hnm:∀l∈st.links,l.name.size<=maxLen)(hI:IsaW w):Calls Tryz.prog 125 #[.pointer (some ⟨b,0,none⟩)] w λe w'=>CodeR w w' st.fin e/\Below w.heap.size w w':=by
 obtain⟨vc,vl,vm,hB⟩:=hB
 have hsz:st.code.length<=4000:=by unfold BS.sz at hs;omega
 have hlz:st.links.length<=4000:=by unfold BS.sz at hs;omega
 obtain⟨Vc,cc,rfl,hR,hnil⟩:=i9 hB.code;obtain⟨pl,cl,rfl⟩:=nO hB.links;obtain⟨fin,hfin⟩:=Zh (st.fin);rw[<-hfin.out];have y0:=ae w b 0 _ 202 _ hB.blk;go_enter Tryz.func125,Tryz.ntmps125;go_wp2_with fail;refine(zD Vc st.code cc (by omega) hnil w hR).mono ?_;rintro e w1 ⟨⟨vo,rfl,hO,hof⟩,hb1⟩;clear y0;have hB1:=hB.below hb1;have y2:=ae w1 b 2 _ 202 _ hB1.blk;obtain⟨Vo,co,rfl,hRo,hno⟩:=i9 hO;go_upto_region 3 with(fail);clear y2 hRo hR;obtain⟨n,hn⟩:∃n,n=st.links.length:=⟨_,rfl⟩;go_loopw [19] (λv wr=>∃(i:Nat)(o:List Ins),v=.int .i64 i/\i<=st.links.length/\(st.links.take i).foldl (cQ st.places) (some st.code)=some o/\o.length=st.code.length/\kZ wr (.slice Vo st.code.length co) o/\Below w.heap.size w wr) (λv _=>st.links.length - (intOf v).toNat)
 case atStart=>exact⟨0,st.code,rfl,au _,rfl,rfl,hO,hb1⟩
 case round=>
  clear hO hb1 hB1;obtain⟨i,o,rfl,hi,hfo,hol,hO,hal⟩:=hrel;have hBr:=hB.below hal
  by_cases hlt:i<st.links.length
  case neg=>
   obtain rfl:i=st.links.length:=by omega
   have hl1:¬((st.links.length:Int)<st.links.length):=by omega
   rw[List.take_length]at hfo;have y3:=ae wr b 3 _ 202 _ hBr.blk
   have hf:fin=if st.bad=true then([],false) else(o,true):=by rw[hfin.out];unfold BS.fin;rw[hfo]
   clear hfin hfo
   cases hbad:st.bad
   ·rw[hbad]at hf y3
    obtain rfl:fin=(o,true):=hf;go_wp2;go_ret2;exact⟨⟨_,rfl,hO,hof⟩,hal⟩
   ·rw[hbad]at hf y3
    obtain rfl:fin=([],false):=hf;go_wp2;go_ret2;exact⟨CodeR.no,hal⟩
  have hl0:(0:Int)<=i:=by omega
  have hl1:(i:Int)<st.links.length:=by omega
  obtain⟨x,hx⟩:∃x,st.links[i]? = some x:=⟨st.links[i],aq hlt⟩;have hxm:x∈st.links:=aC hx;obtain⟨ha0,ha1⟩:=hwf x hxm;have hxn:=hnm x hxm
  have hstep:(st.links.take (i+1)).foldl (cQ st.places) (some st.code)=cQ st.places (some o) x:=by
   rw[List.take_add_one,hx,List.foldl_append,hfo];rfl
  have hlook:=λw' (h:Below w.heap.size w w')=>GC (hB.below h).places hxn;obtain⟨at',nm⟩:=x;simp only at ha0 ha1 hxn hlook;obtain⟨j,rfl⟩:∃j:Nat,at'=j:=⟨at'.toNat,by omega⟩
  have hj:j<o.length:=by omega
  obtain⟨z,hz⟩:∃z,o[j]? = some z:=⟨o[j],aq hj⟩;have hOk:=hBr.links
  obtain⟨gl,rfl⟩:∃gl,pl=some ⟨gl,0,none⟩:=by
   rcases hOk.2 with⟨h',h0⟩|⟨g',cap,cur,h',_⟩
   ·omega
   ·simp only[Value.slice.injEq]at h';exact⟨g',h'.1⟩
  obtain⟨g,rfl⟩:∃g,Vo=some ⟨g,0,none⟩:=by
   rcases hO.2 with⟨h',h0⟩|⟨g',cap,cur,h',_⟩
   ·omega
   ·simp only[Value.slice.injEq]at h';exact⟨g',h'.1⟩
  have hgw:w.heap.size<=g:=hof g rfl;go_upto_region 4 with(fail);refine ab ?_;refine aG rfl (.pointer (some ⟨gl,i * 2,none⟩)) ?_ ?_
  ·go_simp
  refine Zk ?_;refine Zu (.agg #[.int .i64 j,.string nm]) (wW (v:=.slice none 0 0) (.tmp 21) rfl hOk hx rfl) ?_;refine Za 243 #[.int .i64 0,.string ⟨#[]⟩] (λw4 b6 X6 l6 f6=>?_);refine Zo 243 b6 #[.int .i64 j,.string nm] X6 (λw5 g1 g2 g3 g4=>?_);have hb5:Below wr.heap.size wr w5:=l6.trans (g3 _ (by simp only[Hid]at f6;omega));clear X6 l6 f6 g2 g3 g4;have X6:=g1;clear g1 hOk;replace hal:=hal.trans (hb5.mono hal.size);replace hO:=bq hO (λk e=>hb5.block k (by obtain⟨_,h1⟩:=a9 hO e;exact aB h1));replace hBr:=hB.below hal;clear hb5;obtain⟨hs',hhs⟩:∃q,Hid (q=Maps.has st.places (nmL nm)):=⟨_,rfl⟩;obtain⟨pv,hpv⟩:=Zh (lZ (st.places.atKey (nmL nm) (.lit (.int .i64 0))));rw[<-hhs.out,<-hpv.out]at hlook;go_upto_region 5 with(fail);refine ZA w5 ?_
  iterate 3 refine Zz ?_
  refine Zy _ (λw' h'=>by have c:=ae w' b 1 _ 202 _ (keep hBr.blk h');go_simp;try with_reducible rfl) ?_;refine Zz ?_;refine Zy _ (λw' h'=>by have c:=ae w' b6 1 _ 243 _ (keep X6 h');go_simp;try with_reducible rfl) ?_;refine Zy _ (λw' h'=>by have hl:=hlook w' (hal.trans (h'.mono hal.size));go_simp;try with_reducible rfl) ?_
  iterate 5 refine Zz ?_
  refine aQ ?_;intro w6 h6;replace hal:=hal.trans (h6.mono hal.size);replace hO:=bq hO (λk e=>h6.block k (by obtain⟨_,h1⟩:=a9 hO e;exact aB h1));replace X6:=keep X6 h6;replace hBr:=hB.below hal;clear h6 hlook;have y60:=ae w6 b6 0 _ 243 _ X6;have e1:(j:Int)=j:=rfl
  cases hs'
  ·have hfin':fin=([],false):=by
    rw[hfin.out];unfold BS.fin;have hd:st.links=st.links.take (i+1)++st.links.drop (i+1):=(List.take_append_drop _ _).symm;rw[hd,List.foldl_append,hstep,show cQ st.places (some o) ⟨j,nm⟩=none from af (by rw[<-hhs.out];exact Bool.false_ne_true),jZ]
   obtain rfl:=hfin';clear hfin hstep hfo hhs hpv;go_wp2;go_ret2;exact⟨CodeR.no,hal⟩
  have hco:=hO
  have cO:w6.cell? ⟨g,j * 5,none⟩=some (.int .i64 z.op):=by
   obtain⟨V,c,e,h1,_⟩:=i9 hO;obtain⟨b',off',e2,_,h2⟩:=h1 (by omega);simp only[Value.slice.injEq]at e;rw[<-e.1]at e2;cases e2;have:=h2 (j * 5+0) (.int .i64 z.op) ((A1 hz (by omega)).trans rfl)
   simpa using this
  have hjl:j<st.code.length:=by omega
  have hj0:(0:Int)<=j:=by omega
  have hj1:(j:Int)<st.code.length:=by omega
  have hju:=λw' (h:Below w.heap.size w w')=>rU z.op w' (hI.below h);obtain⟨jb,hjb⟩:=Zh (bt z.op);rw[<-hjb.out]at hju;go_wp2_with fail;refine(hju w6 hal).mono ?_;rintro e w7 ⟨rfl,rfl⟩;clear hju
  have hop:xQ o j=z.op:=by unfold xQ;rw[hz]
  cases jb
  ·have hfin':fin=([],false):=by
    rw[hfin.out];unfold BS.fin;have hd:st.links=st.links.take (i+1)++st.links.drop (i+1):=(List.take_append_drop _ _).symm
    rw[hd,List.foldl_append,hstep,show cQ st.places (some o) ⟨j,nm⟩=none from by
     unfold cQ;simp only[Int.toNat_natCast]
     rw[ag hhs.out.symm,af (by rw[hop,<-hjb.out];exact Bool.false_ne_true)],jZ]
   obtain rfl:=hfin';clear hfin hstep hfo hhs hpv hjb hop cO hco;go_wp2;go_ret2;exact⟨CodeR.no,hal⟩
  have hnext:(st.links.take (i+1)).foldl (cQ st.places) (some st.code)=some (o.set j { z with k:=pv%4294967296 }):=by
   rw[hstep];unfold cQ;simp only[Int.toNat_natCast];rw[ag hhs.out.symm,ag (by rw[hop,<-hjb.out]),<-hpv.out];unfold uK;rw[hz]
  obtain⟨cur,hcur⟩:=a9 hO rfl
  have hcs:j * 5+4<cur.size:=by
   rcases hO.2 with⟨h',_⟩|⟨g',cap,cur',h',_,h4,h5,_,h7,_⟩
   ·simp at h'
   ·simp only[Value.slice.injEq,Option.some.injEq,Addr.mk.injEq,and_true,true_and]at h'
    obtain⟨rfl,e2,rfl⟩:=h';rw[hcur]at h4;simp only[Option.some.injEq,Obj.cells.injEq]at h4;obtain⟨rfl,-⟩:=h4;omega
  clear hstep hfo hhs hpv hjb hop cO hco;go_upto_region 8 with(fail);refine ab ?_
  iterate 4 refine Zv ?_
  refine aG rfl (.int .u32 (pv%4294967296)) ?_ ?_
  ·first|(go_simp;done)|(go_simp;simp only[IntKind.wrap_u32])
  refine Zk ?_;refine aG rfl (.pointer (some ⟨g,j * 5,none⟩)) ?_ ?_
  ·go_simp
  refine Zk ?_;refine aG rfl (.pointer (some ⟨g,j * 5+4,none⟩)) ?_ ?_
  ·go_simp
  refine Zk ?_;refine Zw 37 (j * 5+4) (.int .u32 (pv%4294967296)) gW hcur hcs (λw8 p1 p2 p3=>?_);have hO8:=Dv hO hcur hz p1;replace hal:=hal.trans (p3 _ hgw)
  have hol':(o.set j { z with k:=pv%4294967296 }).length=st.code.length:=by rw[List.length_set];exact hol
  clear p1 p2 p3 hcur hcs hO;go_wp2;go_roundw
  case rel=>exact⟨i+1,_,by go_num,by omega,hnext,hol',hO8,hal⟩
  case measure=>simp[intOf];omega
def BS.Ok(st:BS):Prop:=st.Wf/\∀l∈st.links,l.name.size<=maxLen
theorem aH:BS.zero.Ok:=⟨DB,λl h=>by cases h⟩
theorem fZ{st:BS}(x:Ins)(h:st.Ok):(st.emit x).Ok:=⟨Cg x h.1,h.2⟩
theorem aN{st:BS}(a k:Int)(h:st.Ok):(st.set a k).Ok:=fZ _ h
theorem dT{st:BS}(op a x y:Int)(h:st.Ok):(st.alu op a x y).Ok:=fZ _ h
theorem aL{st:BS}(op a addr:Int)(h:st.Ok):(st.ask op a addr).Ok:=fZ _ h
theorem jP{st:BS}(a c addr:Int)(h:st.Ok):(st.cas a c addr).Ok:=fZ _ h
theorem ba{st:BS}(op a:Int){name:ByteArray}(hn:name.size<=maxLen)(h:st.Ok):(st.go op a name).Ok:=⟨Gy op a name h.1,λl hl=>by
 rcases List.mem_append.1 (show l∈st.links++[⟨st.code.length,name⟩] from hl) with h1|h1
 ·exact h.2 l h1
 ·have:l=⟨st.code.length,name⟩:=by simpa using h1
  subst this;exact hn⟩
theorem aM{st:BS}(name:ByteArray)(h:st.Ok):(st.place name).Ok:=⟨AM name h.1,λl hl=>h.2 l (by
 have e:(st.place name).links=st.links:=by unfold BS.place;split<;>rfl
 rw[e]at hl;exact hl)⟩
theorem bj{st:BS}{addr:Int}(h:st.Ok):(cE st addr).Ok:=(aL _ _ _ (aN _ _ h))
theorem s9{st:BS}{own t:Int}(h:st.Ok):(nV st own t).Ok:=(dT _ _ _ _ (aN _ _ (aL _ _ _ h)))
theorem aX{st:BS}{own t:Int}(h:st.Ok):(aW st own t).Ok:=(aM _ (ba _ _ (by decide) (aN _ _ (ba _ _ (by decide) (s9 h)))))
theorem aU{st:BS}{own t:Int}(h:st.Ok):(aS st own t).Ok:=(aM _ (ba _ _ (by decide) (aN _ _ (ba _ _ (by decide) (s9 h)))))
theorem aF{st:BS}(h:st.Ok):(aI st ).Ok:=(aM _ (aN _ _ h))
theorem vK{st:BS}{base:Int}(h:st.Ok):(rV st base).Ok:=(ba _ _ (by decide) (jP _ _ _ (aN _ _ (aM _ h))))
theorem tM{st:BS}{base:Int}(h:st.Ok):(mJ st base).Ok:=(ba _ _ (by decide) (jP _ _ _ (ba _ _ (by decide) (aL _ _ _ (aM _ h)))))
theorem pY{st:BS}{base:Int}(h:st.Ok):(iK st base).Ok:=(aL _ _ _ (ba _ _ (by decide) (dT _ _ _ _ (aL _ _ _ (aM _ (aL _ _ _ (aN _ _ h)))))))
theorem sT{st:BS}{base:Int}(h:st.Ok):(mE st base).Ok:=(aL _ _ _ (dT _ _ _ _ (aN _ _ (aL _ _ _ (bj h)))))
theorem tw{st:BS}{base:Int}(h:st.Ok):(nW st base).Ok:=(ba _ _ (by decide) (jP _ _ _ (aN _ _ (aM _ h))))
theorem pz{st:BS}{base:Int}(h:st.Ok):(iU st base).Ok:=(aL _ _ _ (aM _ (tw (bj (ba _ _ (by decide) (aL _ _ _ (aL _ _ _ (aN _ _ h))))))))
theorem qG{st:BS}{base:Int}(h:st.Ok):(ko st base).Ok:=(aL _ _ _ (aM _ (ba _ _ (by decide) (aL _ _ _ (aM _ (fZ _ (aL _ _ _ (aN _ _ (ba _ _ (by decide) (aL _ _ _ (tw h)))))))))))
theorem qJ{st:BS}{base:Int}(h:st.Ok):(ky st base).Ok:=(aM _ (bj (aM _ (ba _ _ (by decide) (bj (ba _ _ (by decide) (dT _ _ _ _ (aL _ _ _ (bj h)))))))))
theorem nr{st:BS}{base:Int}(h:st.Ok):(jQ st base).Ok:=(aL _ _ _ (aN _ _ h))
theorem ro{st:BS}{base:Int}(h:st.Ok):(kp st base).Ok:=(nr (ba _ _ (by decide) (jP _ _ _ (aN _ _ (aM _ h)))))
theorem qW{st:BS}{addr:Int}(h:st.Ok):(ll st addr).Ok:=(aL _ _ _ (aN _ _ h))
theorem pJ{st:BS}{op base:Int}(h:st.Ok):(jD st op base).Ok:=(ba _ _ (by decide) (dT _ _ _ _ (jP _ _ _ (fZ _ (dT _ _ _ _ (aN _ _ h))))))
theorem sZ{st:BS}{base:Int}(h:st.Ok):(mW st base).Ok:=(aF (pJ (aM _ (ba _ _ (by decide) (aL _ _ _ (aN _ _ (ba _ _ (by decide) (aL _ _ _ (aM _ h)))))))))
theorem Be{st:BS}{base most:Int}(h:st.Ok):(upS st base most).Ok:=(aM _ (aN _ _ (aM _ (ba _ _ (by decide) (aN _ _ (qW (pJ (ba _ _ (by decide) (dT _ _ _ _ (aN _ _ (aL _ _ _ (aM _ h))))))))))))
theorem vG{st:BS}{base:Int}(h:st.Ok):(rY st base).Ok:=(aL _ _ _ (aM _ (ba _ _ (by decide) (aL _ _ _ (aN _ _ (ba _ _ (by decide) (aL _ _ _ (aN _ _ (aM _ (ba _ _ (by decide) (jP _ _ _ (aN _ _ (aN _ _ h)))))))))))))
theorem tk{st:BS}{base:Int}(h:st.Ok):(nh st base).Ok:=(aM _ (qW (ba _ _ (by decide) (dT _ _ _ _ (aN _ _ (aL _ _ _ (aN _ _ (bj h))))))))
theorem lS{st:BS}{addr:Int}(h:st.Ok):(jO st addr).Ok:=(aL _ _ _ (aN _ _ h))
theorem lJ{st:BS}{n addr:Int}(h:st.Ok):(jN st n addr).Ok:=(aL _ _ _ (aN _ _ h))
theorem nq{st:BS}{op a x k:Int}(h:st.Ok):(pZ st op a x k).Ok:=(fZ _ h)
theorem qx{st:BS}{base n t:Int}(h:st.Ok):(kQ st base n t).Ok:=(aL _ _ _ (aM _ (ba _ _ (by decide) (aL _ _ _ (aM _ (nq (ba _ _ (by decide) (aL _ _ _ (aN _ _ (aL _ _ _ (aN _ _ (bj h))))))))))))
theorem pW{st:BS}{base n t:Int}(h:st.Ok):(iN st base n t).Ok:=(aM _ (nq (aN _ _ (aM _ (ba _ _ (by decide) (aL _ _ _ (aM _ (ba _ _ (by decide) (dT _ _ _ _ (jP _ _ _ (aN _ _ (fZ _ (ba _ _ (by decide) (aL _ _ _ (bj h)))))))))))))))
theorem qZ{st:BS}{base n t:Int}(h:st.Ok):(kK st base n t).Ok:=(aL _ _ _ (ba _ _ (by decide) (nq (aM _ (aL _ _ _ (aL _ _ _ (nq (aN _ _ (aL _ _ _ h)))))))))
theorem o9{st:BS}{base n t:Int}(h:st.Ok):(iO st base n t).Ok:=(nq (aN _ _ (aL _ _ _ (aL _ _ _ (aL _ _ _ (bj h))))))
theorem pO{st:BS}{state mode:Int}(h:st.Ok):(jJ st state mode).Ok:=(aM _ (aM _ (ba _ _ (by decide) (aN _ _ (ba _ _ (by decide) (aL _ _ _ h))))))
theorem pC{st:BS}{state mode:Int}(h:st.Ok):(jG st state mode).Ok:=(ba _ _ (by decide) (aL _ _ _ h))
theorem oX{st:BS}{state mode md:Int}(h:st.Ok):(na st state mode md).Ok:=(aL _ _ _ (aN _ _ h))
theorem qV{st:BS}{state mode:Int}(h:st.Ok):(ks st state mode).Ok:=(aM _ (pC (aM _ (ba _ _ (by decide) (aN _ _ (oX (ba _ _ (by decide) (dT _ _ _ _ (jP _ _ _ (fZ _ (dT _ _ _ _ (aN _ _ (ba _ _ (by decide) (dT _ _ _ _ (aN _ _ (aL _ _ _ (pO h)))))))))))))))))
theorem pD{st:BS}{state mode:Int}(h:st.Ok):(iQ st state mode).Ok:=(aF (oX (aM _ (pC (ba _ _ (by decide) (jP _ _ _ (aN _ _ (aN _ _ (pO h)))))))))
theorem tJ{st:BS}{state mode:Int}(h:st.Ok):(nk st state mode).Ok:=(aF (aM _ (aL _ _ _ (aN _ _ (aM _ (ba _ _ (by decide) (dT _ _ _ _ (aN _ _ (aL _ _ _ (aN _ _ (aM _ (ba _ _ (by decide) (aL _ _ _ (aN _ _ (ba _ _ (by decide) (oX (dT _ _ _ _ (aN _ _ (aM _ (ba _ _ (by decide) (aN _ _ (ba _ _ (by decide) (aL _ _ _ h)))))))))))))))))))))))
theorem oB{st:BS}{own their turn owner other:Int}(h:st.Ok):(ol st own their turn owner other).Ok:=(aL _ _ _ (aM _ (ba _ _ (by decide) (dT _ _ _ _ (aN _ _ (aL _ _ _ (ba _ _ (by decide) (aL _ _ _ (aM _ (fZ _ (aL _ _ _ (aN _ _ (aL _ _ _ (aN _ _ h))))))))))))))
theorem vD{st:BS}{own their turn owner other:Int}(h:st.Ok):(sj st own their turn owner other).Ok:=(aL _ _ _ (aM _ (ba _ _ (by decide) (ba _ _ (by decide) (aL _ _ _ (aM _ (bj (ba _ _ (by decide) (aL _ _ _ (aL _ _ _ (aN _ _ (aM _ h))))))))))))
theorem wP{st:BS}{own their turn owner other:Int}(h:st.Ok):(rK st own their turn owner other).Ok:=(aL _ _ _ (ba _ _ (by decide) (aL _ _ _ (aM _ (fZ _ (aL _ _ _ (aN _ _ h)))))))
theorem iy{st:BS}{own their turn owner other:Int}(h:st.Ok):(g7 st own their turn owner other).Ok:=(bj (bj h))
theorem tK{st:BS}{n base:Int}(h:st.Ok):(mg st n base).Ok:=(aF (aM _ (ba _ _ (by decide) (aL _ _ _ (fZ _ (ba _ _ (by decide) (dT _ _ _ _ (aL _ _ _ (aM _ (ba _ _ (by decide) (lJ (lS (bj (ba _ _ (by decide) (dT _ _ _ _ (aN _ _ (lS (aL _ _ _ h))))))))))))))))))
theorem qH{st:BS}{t base:Int}(h:st.Ok):(kn st t base).Ok:=(aF (aM _ (ba _ _ (by decide) (aN _ _ (aL _ _ _ (aM _ (ba _ _ (by decide) (aL _ _ _ (ba _ _ (by decide) (dT _ _ _ _ (aN _ _ (ba _ _ (by decide) (jP _ _ _ (aN _ _ (aN _ _ (ba _ _ (by decide) (dT _ _ _ _ (aN _ _ (aL _ _ _ (aM _ (aX h)))))))))))))))))))))
theorem qN{st:BS}{t base:Int}(h:st.Ok):(kk st t base).Ok:=(aF (lJ (aL _ _ _ (aN _ _ (bj (aU h))))))
theorem qB{st:BS}{t base:Int}(h:st.Ok):(kq st t base).Ok:=(aF (aL _ _ _ (aL _ _ _ h)))
theorem qQ{st:BS}{t base:Int}(h:st.Ok):(kU st t base).Ok:=(aF (aL _ _ _ (aL _ _ _ h)))
theorem qP{st:BS}{t base:Int}(h:st.Ok):(kw st t base).Ok:=(aF (lJ (lS h)))
theorem qY{st:BS}{t base:Int}(h:st.Ok):(kG st t base).Ok:=(aF (lJ (lS h)))
theorem da{w:World}{b:Nat}(h:w.heap[b]? = some (.cells #[.slice none 0 0,.map none,.slice none 0 0,.bool false] 202 (0,0))):BMem w b (λk=>k=b) BS.zero:=
 ⟨_,_,_,h,World.ownsRow_nil _ _ _ _,World.ownsRow_nil _ _ _ _,.inl ⟨rfl,rfl⟩,λk=>⟨λe=>.inl e,λe=>by
  rcases e with e|e|e|e
  ·exact e
  ·cases e
  ·cases e
  ·cases e⟩⟩
section
attribute [local simp] fL ft dD cN fN cL df dZ dr dj gD gz gA gy gQ eQ cH gE gV iZ gB dz iI dA dy dV dq iz ge dX eO dC dx eh iL cU dh dR fV fh fT dP dO fP iT dB eW fE cj ee iD dW
theorem Cd{o:O}{c t u:Int}(h:a8 o c t u=true):may o.k c=true/\(o.k=11->0<=o.a/\o.a<=1000):=by
 unfold a8 at h
 split at h
 ·rename_i hh
  refine⟨h,λhk=>?_⟩;have:=of_decide_eq_true hh.2.2;unfold RP at this;omega
 ·cases h
@[simp] theorem iR:BS.zero.sz=0:=rfl
def dS(o:O)(call th t base:Int):List Ins×Bool:=
 if o.k=10 then(if a8 o call th t=true then(if call=1 then(aI (rY (aW BS.zero ((base+1)%4294967296) t) base)).fin else(aI (nh (aS BS.zero ((base+1)%4294967296) t) base)).fin) else([],false))
 else if o.k=11 then(if a8 o call th t=true then(if call=1 then(mW BS.zero base).fin else(upS BS.zero base o.a).fin) else([],false))
 else([],false)
theorem tu{o:O}{call th t base:Int}(h:o.k≠10/\o.k≠11):dS o call th t base=([],false):=by unfold dS;rw[af h.1,af h.2]
theorem tz{o:O}{call th t base:Int}(h:a8 o call th t=false):dS o call th t base=([],false):=by
 unfold dS;rw[h,af Bool.false_ne_true];split
 ·rfl
 ·split<;>rfl
theorem u7{o:O}{call th t base:Int}(k:o.k=10)(h:a8 o call th t=true)(c:call=1):dS o call th t base=(aI (rY (aW BS.zero ((base+1)%4294967296) t) base)).fin:=by unfold dS;rw[ag k,ag h,ag c]
theorem uy{o:O}{call th t base:Int}(k:o.k=10)(h:a8 o call th t=true)(c:call≠1):dS o call th t base=(aI (nh (aS BS.zero ((base+1)%4294967296) t) base)).fin:=by unfold dS;rw[ag k,ag h,af c]
theorem uT{o:O}{call th t base:Int}(k:o.k=11)(h:a8 o call th t=true)(c:call=1):dS o call th t base=(mW BS.zero base).fin:=by unfold dS;rw[af (by omega),ag k,ag h,ag c]
theorem uO{o:O}{call th t base:Int}(k:o.k=11)(h:a8 o call th t=true)(c:call≠1):dS o call th t base=(upS BS.zero base o.a).fin:=by unfold dS;rw[af (by omega),ag k,ag h,af c]
theorem xG(o:O)(call th t base arg:Int)(w:World)(hN:NmW w)(hI:IsaW w):Calls Tryz.prog 91 #[ov o,.int .i64 call,.int .i64 th,.int .i64 t,.int .u32 base,.int .u32 arg] w λe w'=>CodeR w w' (dS o call th t base) e/\Below w.heap.size w w':=by
 obtain⟨R,hR⟩:=Zh (dS o call th t base);rw[<-hR.out];have hM:=λw' (hb:Below w.heap.size w w')=>i4 o call th t w' (hN.below hb);have hRP:=λh=>(Cd (o:=o) (c:=call) (t:=th) (u:=t) h);obtain⟨mb,hmb⟩:=Zh (a8 o call th t);rw[<-hmb.out]at hM hRP;obtain⟨ok,on,oa,ob⟩:=o;unfold ov at hM ⊢;simp only at hRP;go_enter Tryz.func91,Tryz.ntmps91;go_upto_region 1 with(fail);obtain⟨W,kB,e0,e1,XK,hal0⟩:=aO w #[.int .i64 ok,.int .i64 on,.int .i64 oa,.int .i64 ob] 43;rw[e0,e1];have hkw:w.heap.size<=kB:=aD e1;clear e0 e1;obtain⟨y0,y1,y2,y3⟩:=cl4 XK
 by_cases k10:ok=10
 ·subst k10
  go_wp2_with fail;refine(hM W hal0).mono ?_;rintro e w1 ⟨rfl,hb1⟩;clear y0 y1 y2 y3 hM;replace XK:=keep XK hb1;replace hal0:=hal0.trans (hb1.mono hal0.size);clear hb1;obtain⟨y0,y1,y2,y3⟩:=cl4 XK;cases mb
  ·obtain rfl:R=([],false):=hR.out.trans (tz hmb.out.symm)
   clear hR hmb;go_wp2;go_ret2;exact⟨CodeR.no,hal0⟩
  go_upto_region 7 with(fail);obtain⟨w2,bb,e0,e1,XB,hb2⟩:=aO w1 #[.slice none 0 0,.map none,.slice none 0 0,.bool false] 202;rw[e0,e1];have hbb':w1.heap.size=bb:=e1;clear e0 e1 y0 y1 y2 y3
  have hbb:w.heap.size<=bb:=by have:=hal0.size;omega
  have hF:¬(kB=bb):=by have:=aB XK;omega
  replace XK:=keep XK hb2;have hB:=da XB;have hU:Upd (λk=>k=bb) (λk=>k=bb) w2 w2:=Upd.refl _ _;replace hal0:=hal0.trans (hb2.mono hal0.size);have hws:w.heap.size<=w2.heap.size:=hal0.size;have hkl:kB<w2.heap.size:=aB XK;clear hb2 XB hbb';obtain⟨y0,y1,y2,y3⟩:=cl4 XK
  by_cases c1:call=1
  ·subst c1
   replace hR:Hid (R=(aI (rY (aW BS.zero ((base+1)%4294967296) t) base)).fin):=hR.out.trans (u7 rfl hmb.out.symm rfl);clear hmb;go_wp2_with fail
   refine(Z1 XK hF hkl hU (gX hB (by simp<;>omega))).mono ?_
   clear y0 y1 y2 y3;rintro e wd ⟨rfl,F',hB,XK,hF,hkl,hU⟩;obtain⟨y0,y1,y2,y3⟩:=cl4 XK;go_wp2_with fail
   refine(Z1 XK hF hkl hU (minC hB (by simp<;>omega))).mono ?_
   clear y0 y1 y2 y3;rintro e wd ⟨rfl,F',hB,XK,hF,hkl,hU⟩;obtain⟨y0,y1,y2,y3⟩:=cl4 XK;go_wp2_with fail
   refine(Z1 XK hF hkl hU (be hB (by simp<;>omega))).mono ?_
   clear y0 y1 y2 y3;rintro e wd ⟨rfl,F',hB,XK,hF,hkl,hU⟩;obtain⟨y0,y1,y2,y3⟩:=cl4 XK;have hal:=hal0.trans (hU.low _ (λk e=>by rw[e];exact hbb) hws)
   have hcb:=br hB ((aF (vG (aX aH)))).1 (by simp<;>omega) ((aF (vG (aX aH)))).2 (hI.below hal)
   rw[<-hR.out]at hcb;clear hR;go_wp2_with fail;refine hcb.mono ?_;rintro e w' ⟨⟨v,rfl,hv1,hv2⟩,hb'⟩;go_wp2;go_ret2;exact dE hal hv1 hv2 hb'
  ·replace hR:Hid (R=(aI (nh (aS BS.zero ((base+1)%4294967296) t) base)).fin):=hR.out.trans (uy rfl hmb.out.symm c1)
   clear hmb
   have q1:(call == 1)=false:=by simp[c1]
   clear c1;go_wp2_with fail
   refine(Z1 XK hF hkl hU (gw hB (by simp<;>omega))).mono ?_
   clear y0 y1 y2 y3;rintro e wd ⟨rfl,F',hB,XK,hF,hkl,hU⟩;obtain⟨y0,y1,y2,y3⟩:=cl4 XK;go_wp2_with fail
   refine(Z1 XK hF hkl hU (GE hB (by simp<;>omega))).mono ?_
   clear y0 y1 y2 y3;rintro e wd ⟨rfl,F',hB,XK,hF,hkl,hU⟩;obtain⟨y0,y1,y2,y3⟩:=cl4 XK;go_wp2_with fail
   refine(Z1 XK hF hkl hU (be hB (by simp<;>omega))).mono ?_
   clear y0 y1 y2 y3;rintro e wd ⟨rfl,F',hB,XK,hF,hkl,hU⟩;obtain⟨y0,y1,y2,y3⟩:=cl4 XK;have hal:=hal0.trans (hU.low _ (λk e=>by rw[e];exact hbb) hws)
   have hcb:=br hB ((aF (tk (aU aH)))).1 (by simp<;>omega) ((aF (tk (aU aH)))).2 (hI.below hal)
   rw[<-hR.out]at hcb;clear hR;go_wp2_with fail;refine hcb.mono ?_;rintro e w' ⟨⟨v,rfl,hv1,hv2⟩,hb'⟩;go_wp2;go_ret2;exact dE hal hv1 hv2 hb'
 ·by_cases k11:ok=11
  ·subst k11
   go_wp2_with fail;refine(hM W hal0).mono ?_;rintro e w1 ⟨rfl,hb1⟩;clear y0 y1 y2 y3 hM;replace XK:=keep XK hb1;replace hal0:=hal0.trans (hb1.mono hal0.size);clear hb1;obtain⟨y0,y1,y2,y3⟩:=cl4 XK;cases mb
   ·obtain rfl:R=([],false):=hR.out.trans (tz hmb.out.symm)
    clear hR hmb;go_wp2;go_ret2;exact⟨CodeR.no,hal0⟩
   go_upto_region 7 with(fail);obtain⟨w2,bb,e0,e1,XB,hb2⟩:=aO w1 #[.slice none 0 0,.map none,.slice none 0 0,.bool false] 202;rw[e0,e1];have hbb':w1.heap.size=bb:=e1;clear e0 e1 y0 y1 y2 y3
   have hbb:w.heap.size<=bb:=by have:=hal0.size;omega
   have hF:¬(kB=bb):=by have:=aB XK;omega
   replace XK:=keep XK hb2;have hB:=da XB;have hU:Upd (λk=>k=bb) (λk=>k=bb) w2 w2:=Upd.refl _ _;replace hal0:=hal0.trans (hb2.mono hal0.size);have hws:w.heap.size<=w2.heap.size:=hal0.size;have hkl:kB<w2.heap.size:=aB XK;clear hb2 XB hbb';obtain⟨y0,y1,y2,y3⟩:=cl4 XK
   by_cases c1:call=1
   ·subst c1
    replace hR:Hid (R=(mW BS.zero base).fin):=hR.out.trans (uT rfl hmb.out.symm rfl);clear hmb;go_wp2_with fail
    refine(Z1 XK hF hkl hU (GB hB (by simp<;>omega))).mono ?_
    clear y0 y1 y2 y3;rintro e wd ⟨rfl,F',hB,XK,hF,hkl,hU⟩;obtain⟨y0,y1,y2,y3⟩:=cl4 XK;have hal:=hal0.trans (hU.low _ (λk e=>by rw[e];exact hbb) hws)
    have hcb:=br hB ((sZ aH)).1 (by simp<;>omega) ((sZ aH)).2 (hI.below hal)
    rw[<-hR.out]at hcb;clear hR;go_wp2_with fail;refine hcb.mono ?_;rintro e w' ⟨⟨v,rfl,hv1,hv2⟩,hb'⟩;go_wp2;go_ret2;exact dE hal hv1 hv2 hb'
   ·replace hR:Hid (R=(upS BS.zero base oa).fin):=hR.out.trans (uO rfl hmb.out.symm c1)
    clear hmb
    have q1:(call == 1)=false:=by simp[c1]
    have hoa:0<=oa/\oa<=1000:=by simpa using(hRP (by first|rfl|trivial)).2
    obtain⟨a0,a1⟩:=hoa;clear c1 hRP;go_wp2_with fail
    refine(Z1 XK hF hkl hU (upC hB (by simp<;>omega))).mono ?_
    clear y0 y1 y2 y3;rintro e wd ⟨rfl,F',hB,XK,hF,hkl,hU⟩;obtain⟨y0,y1,y2,y3⟩:=cl4 XK;have hal:=hal0.trans (hU.low _ (λk e=>by rw[e];exact hbb) hws)
    have hcb:=br hB ((Be aH)).1 (by simp<;>omega) ((Be aH)).2 (hI.below hal)
    rw[<-hR.out]at hcb;clear hR;go_wp2_with fail;refine hcb.mono ?_;rintro e w' ⟨⟨v,rfl,hv1,hv2⟩,hb'⟩;go_wp2;go_ret2;exact dE hal hv1 hv2 hb'
  ·have q10:(ok != 10)=true:=by simp[k10]
   have q11:(ok != 11)=true:=by simp[k11]
   obtain rfl:R=([],false):=hR.out.trans (tu ⟨k10,k11⟩);clear hR hmb k10 k11;go_wp2;go_ret2;exact⟨CodeR.no,hal0⟩
end
end Go.Proofs.YtldlcnaphednnaaGreatDoor
