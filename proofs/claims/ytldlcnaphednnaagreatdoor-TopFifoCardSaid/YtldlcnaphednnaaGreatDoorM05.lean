/- Slices of instructions: read, cloned. Rows made anew; the rows of this program. Small functions of obj: the interval, the names; the table of names in memory. obj.Right: whatever the object. -/
import Derived.Test.YtldlcnaphednnaaGreatDoorM04
import Derived.Test.YtldlcnaphednnaaGreatDoorM02
import Derived.Test.YtldlcnaphednnaaGreatDoorM03
import Derived.Laws.OwnMore
import Derived.Test.YtldlcnaphednnaaGreatDoorChecked
import Derived.Test.YtldlcnaphednnaaGreatDoorM00
import Derived.StillTactics
import Derived.DeepKeys
import Derived.Deep.DeepCutAuto
set_option maxRecDepth 100000
set_option maxHeartbeats 32000000
set_option linter.unusedVariables false
set_option linter.unusedSimpArgs false
namespace Go.Proofs.YtldlcnaphednnaaGreatDoor
open Go.RowKit Go.Maps
def InsR(w:World)(V:Option Addr)(L:List Ins):Prop:=0<L.length->∃b off,V=some ⟨b,off,none⟩/\b<w.heap.size/\∀j u,(L.flatMap dH)[j]? = some u->w.cell? ⟨b,off+j,none⟩=some u
theorem InsR.below{w w':World}{V:Option Addr}{L:List Ins}(h:InsR w V L)(hb:Below w.heap.size w w'):InsR w' V L:=λhn=>by
 obtain⟨b,off,e,hlt,hc⟩:=h hn;exact⟨b,off,e,aA hlt hb.size,λj u hu=>(hb.cell (p:=⟨b,off+j,none⟩) hlt).trans (hc j u hu)⟩
theorem i9{w:World}{v:Value}{L:List Ins}(h:kZ w v L):∃V c,v=.slice V L.length c/\InsR w V L/\(V=none->L.length=0):=by
 rcases h.2 with⟨rfl,h0⟩|⟨g,cap,cur,rfl,_,h4,_,_,_,h8⟩
 ·exact⟨none,0,by rw[h0],λhn=>absurd hn (by omega),λ_=>h0⟩
 ·refine⟨_,_,rfl,λ_=>⟨g,0,rfl,aB h4,λj u hu=>?_⟩,λe=>by cases e⟩
  have hj:j<L.length * 5:=by have:=(aj.1 hu).1;rwa [lI]at this
  rw[ae w g _ cur 115 _ h4,Nat.zero_add,<-hu,<-h8,List.getElem?_take,ag hj,Array.getElem?_toList]
theorem BD(L:List Ins):∀u∈L.flatMap dH,u.oneCell'=true:=λu hu=>by
 obtain⟨x,_,hx⟩:=List.mem_flatMap.1 hu;simp only[dH,List.mem_cons,List.not_mem_nil,or_false]at hx
 rcases hx with rfl|rfl|rfl|rfl|rfl<;>rfl
theorem Cv(w:World):(Instr.buildSlice 93 0 #[]).run Tryz.prog w=.ok (.slice (some ⟨w.heap.size,0,none⟩) 0 0) (w.alloc (.cells #[] 115)):=by
 kernel_rfl
section
variable {ops:Array Oper} {Q:Exit->Act->World->Prop}
theorem EU{rest:List Oper}{o:Oper}{a:Act}{w:World}(hgd:o.guard=none)(ho:o.op=.buildSlice 93 0 #[])
  (h:∀(w':World)(r:Nat),kZ w' (.slice (some ⟨r,0,none⟩) 0 0) []->Below w.heap.size w w'->Hid (r=w.heap.size)->∀K:Act->World->Prop,(∀a w,wpList Tryz.prog ops Q rest a w->K a w)->K (a.put o.dst (.slice (some ⟨r,0,none⟩) 0 0)) w'):wpList Tryz.prog ops Q (o :: rest) a w:=by
 refine wpList_plain hgd λK hK=>?_
 unfold Oper.wp execOp;have hr:=Cv w;simp only[ho,List.map_toArray,List.map_nil,Sem.run_bind,hr,Result.andThen_ok];exact h _ _ ⟨rfl,.inr ⟨w.heap.size,0,#[],rfl,au _,heap_alloc_new w _,ah _,by simp[maxLen],rfl,rfl⟩⟩ ((ak _ _).alloc (ah _) _) rfl K hK
theorem xC{rest:List Oper}{o:Oper}{a:Act}{w:World}(hgd:o.guard=none)(s x:Operand)(ho:o.op=.call { callee:=.builtin .append,args:=#[s,x],argTypes:=#[93,93] })
  (v:Value) (l:List Ins) (hs:a.eval s=v) (hown:kZ w v l) (ad:Addr) (L:List Ins) (c:Nat) (hx:a.eval x=.slice (some ad) L.length c) (hR:InsR w (some ad) L) (hk:l.length+L.length<=100000)
  (h:∀v' w',kZ w' v' (l++L)->w.grownBy w' v.ownBlock->(v'.ownBlock=v.ownBlock\/v'.ownBlock=some w.heap.size)->∀K:Act->World->Prop,(∀a w,wpList Tryz.prog ops Q rest a w->K a w)->K (a.put o.dst v') w'):wpList Tryz.prog ops Q (o :: rest) a w:=by
 refine wpList_plain hgd λK hK=>?_
 obtain⟨i0,z,hi0,hz0,hzc,hz1,hz2⟩:=m6 sd
 obtain⟨v',w',hrun,h2,h3,_,h5⟩:=run_append_own_at (P:=Tryz.prog) w 0 93 o.type 115 i0 z 5 40 Tryz.underlying93 hi0 hz0 hz1 hz2 hzc (by omega) v l.length _ hown ad L.length c (L.flatMap dH) (lI L)
  (λj u hu=>by
   have hL:0<L.length:=by
    have:=(aj.1 hu).1;rw[lI]at this;omega
   obtain⟨b,off,e,_,hc⟩:=hR hL;cases e
   rw[bX];exact hc j u hu)
  (BD L) (by simp only[maxLen];omega) (by omega) (au _)
 unfold Oper.wp execOp;simp only[ho,resolve,invoke,builtin,Sem.run_bind,Sem.run_pure,Result.andThen_ok,List.map_toArray,List.map_cons,List.map_nil,hs,hx,hrun];refine h v' w' ?_ h3 h5 K hK;unfold kZ;rw[List.flatMap_append,List.length_append];exact h2
end
def NewI(w w':World)(L:List Ins)(e:Ending):Prop:=∃v,e=.returned v/\kZ w' v L/\∀k,v.ownBlock=some k->w.heap.size<=k
theorem zD(V:Option Addr)(L:List Ins)(c:Nat)(hL:L.length<=100000)(hnil:V=none->L.length=0)(w:World)(hR:InsR w V L):Calls Tryz.prog 31 #[.slice V L.length c] w λe w'=>NewI w w' L e/\Below w.heap.size w w':=by
 have heq1:∀(n c:Nat)(w:World),(binOp BinOp.eql 93 (Value.slice none n c) (Value.slice none 0 0)).run Tryz.prog w=.ok (.bool true) w:=λn c w=>by kernel_rfl
 have heq2:∀(ad:Addr)(n c:Nat)(w:World),(binOp BinOp.eql 93 (Value.slice (some ad) n c) (Value.slice none 0 0)).run Tryz.prog w=.ok (.bool false) w:=λad n c w=>by kernel_rfl
 cases V with
 | none=>
  have h0:=hnil rfl;have hl:L=[]:=List.eq_nil_of_length_eq_zero h0;go_enter Tryz.func31,Tryz.ntmps31;go_wp2;go_ret;subst hl;exact⟨⟨.slice none 0 0,rfl,World.ownsRow_nil _ _ _ _,λk h=>by cases h⟩,ak _ _⟩
 | some ad=>
  go_enter Tryz.func31,Tryz.ntmps31;go_upto_region 3 with(fail);refine ab ?_;refine EU rfl rfl (λw1 r hO hb1 fr=>?_);refine Zk ?_;refine Zv ?_
  refine xC rfl (.tmp 5) (.tmp 6) rfl _ [] rfl hO ad L c rfl (hR.below hb1) (by simp<;>omega) (λv' w2 hO2 hg2 hl2=>?_)
  refine Zk ?_;refine Zv ?_
  have er:w.heap.size<=r:=by simp only[Hid]at fr;omega
  go_wp2;go_ret;refine⟨⟨v',rfl,by simpa using hO2,λk h=>?_⟩,hb1.grown hg2 hb1.size (λk e=>by cases e;exact er)⟩;rcases hl2 with e|e
  ·rw[e]at h;cases h;exact er
  ·rw[e]at h;cases h;exact hb1.size
def BS.Wf(st:BS):Prop:=∀l∈st.links,0<=l.at'/\l.at'<st.code.length
theorem DB:BS.zero.Wf:=λl h=>by cases h
theorem Cg{st:BS}(x:Ins)(h:st.Wf):(st.emit x).Wf:=λl hl=>⟨(h l hl).1,by have:=(h l hl).2;simp[BS.emit];omega⟩
theorem Gy{st:BS}(op a:Int)(name:ByteArray)(h:st.Wf):(st.go op a name).Wf:=λl hl=>by
 have e:(st.go op a name).code.length=st.code.length+1:=by simp[BS.go]
 rw[e];rcases List.mem_append.1 (show l∈st.links++[⟨st.code.length,name⟩] from hl) with h1|h1
 ·have:=h l h1;omega
 ·have:l=⟨st.code.length,name⟩:=by simpa using h1
  subst this;simp only;omega
theorem AM{st:BS}(name:ByteArray)(h:st.Wf):(st.place name).Wf:=by
 unfold BS.place
 split<;>exact h
end Go.Proofs.YtldlcnaphednnaaGreatDoor
namespace Go.Proofs.YtldlcnaphednnaaGreatDoor
open Go.RowKit
section
variable {α:Type} {E:Enc α}
theorem wV(hE:E.Ok)(z:Array Value)(x:α)(hz:z.toList=E.enc x)(n:Nat):(madeCells z (n * E.sz)).toList=(List.replicate n x).flatMap E.enc:=by
 have hs:z.size=E.sz:=by rw[<-Array.length_toList,hz,hE.len]
 apply List.ext_getElem?;intro j
 by_cases hj:j<n * E.sz
 ·have h1:j / E.sz<n:=Nat.div_lt_of_lt_mul (by rwa [Nat.mul_comm]at hj)
  have h2:j%E.sz<E.sz:=Nat.mod_lt _ hE.pos
  have h3:j=j / E.sz * E.sz+j%E.sz:=by rw[Nat.mul_comm];exact(Nat.div_add_mod j E.sz).symm
  have h4:=mY hE (List.replicate n x) (j / E.sz) (j%E.sz) x (by simp[h1]) h2;rw[<-h3]at h4;rw[h4,<-hz];simp[madeCells,hj,hs,h2]
 ·rw[List.getElem?_eq_none (by rw[Array.length_toList,size_madeCells];omega),List.getElem?_eq_none (by rw[fU hE,List.length_replicate];omega)]
theorem xJ{P:Program}{e:TypeId}{z:Array Value}{s b:Nat}(h1:(P.info? e).map (λi=>(i.zero.map (·.cells),i.size,i.bytes))=some (some z,s,b)):∃(i0:TypeInfo)(z':Value),P.info? e=some i0/\i0.zero=some z'/\z'.cells=z/\i0.size=s/\i0.bytes=b:=by
 cases e1:P.info? e with
 | none=>rw[e1]at h1;cases h1
 | some ti=>
  rw[e1]at h1;simp only[Option.map_some,Option.some.injEq,Prod.mk.injEq]at h1
  cases e2:ti.zero with
  | none=>rw[e2]at h1;simp at h1
  | some z=>
   rw[e2]at h1;simp only[Option.map_some,Option.some.injEq]at h1;exact⟨ti,z,rfl,e2,h1.1,h1.2.1,h1.2.2⟩
variable {P:Program} {ops:Array Oper} {Q:Exit->Act->World->Prop}
theorem oN(hE:E.Ok)(w:World)(t:TypeId)(ht:P.underlying t=some (.slice E.ty))(x:α)(by':Nat)(hinf:(P.info? E.ty).map (λi=>(i.zero.map (·.cells),i.size,i.bytes))=some (some (E.enc x).toArray,E.sz,by'))(hby:by'<=10000)(n:Nat)(hn:n<=4000000):
  ∃w',(Instr.makeSlice t (.int .i64 (n:Int)) (.int .i64 (n:Int))).run P w=.ok (.slice (some ⟨w.heap.size,0,none⟩) n n) w'/\Own E w' (.slice (some ⟨w.heap.size,0,none⟩) n n) (List.replicate n x)/\Below w.heap.size w w':=by
 obtain⟨i0,z,hi0,hz0,hzc,hz1,hz2⟩:=xJ hinf;obtain⟨w',hr,h1,h2⟩:=run_make_full (P:=P) w 0 t E.ty i0 z E.sz ht hi0 hz0 hz1 .i64 .i64 n (by rw[hz2];exact ar (Nat.mul_le_mul hby hn) (by decide)) (by simp only[maxLen];omega) (au _);refine⟨w',hr,?_,(ak w.heap.size w).grown h2 (ah _) (λk e=>by cases e)⟩;unfold Own;rw[hzc,wV hE _ x (by simp) n]at h1;rw[List.length_replicate];exact h1
theorem sA(hE:E.Ok){rest:List Oper}{o:Oper}{a:Act}{w:World}(hgd:o.guard=none)(t:TypeId)(ht:P.underlying t=some (.slice E.ty))(x:α)(by':Nat)(hinf:(P.info? E.ty).map (λi=>(i.zero.map (·.cells),i.size,i.bytes))=some (some (E.enc x).toArray,E.sz,by'))(hby:by'<=10000)
  (y y':Operand) (ho:o.op=.makeSlice t y y') (n:Nat) (hn:n<=4000000) (hx:a.eval y=.int .i64 n) (hx':a.eval y'=.int .i64 n)
  (h:∀(w':World)(r:Nat),Own E w' (.slice (some ⟨r,0,none⟩) n n) (List.replicate n x)->Below w.heap.size w w'->Hid (r=w.heap.size)->∀K:Act->World->Prop,(∀a w,wpList P ops Q rest a w->K a w)->K (a.put o.dst (.slice (some ⟨r,0,none⟩) n n)) w'):wpList P ops Q (o :: rest) a w:=by
 refine wpList_plain hgd λK hK=>?_
 obtain⟨w',hr,h1,h2⟩:=oN hE w t ht x by' hinf hby n hn;unfold Oper.wp execOp;simp only[ho,hx,hx',hr,Sem.run_bind,Result.andThen_ok];exact h w' _ h1 h2 rfl K hK
end
theorem Own.empty{α:Type}{E:Enc α}(w:World):Own E (w.alloc (.cells #[] E.ty)) (.slice (some ⟨w.heap.size,0,none⟩) 0 0) []:=
 ⟨by simp,.inr ⟨w.heap.size,0,#[],rfl,au _,heap_alloc_new w _,ah _,by simp[maxLen],by simp,by simp⟩⟩
def eI:Enc Ins:=⟨115,5,dH⟩
theorem lB:eI.Ok:=⟨λx=>rfl,λx u hu=>by
 simp only[eI,dH,List.mem_cons,List.not_mem_nil,or_false]at hu
 rcases hu with rfl|rfl|rfl|rfl|rfl<;>rfl,by decide⟩
def eU:Enc Int:=⟨37,1,λk=>[.int .u32 k]⟩
theorem jE:eU.Ok:=⟨λx=>rfl,λx u hu=>by
 simp only[eU,List.mem_cons,List.not_mem_nil,or_false]at hu
 rcases hu with rfl;rfl,by decide⟩
structure Th where
 pc:Int
 regs:Nat->Int
 st:Int
def bp(x:Th):List Value:=[.int .i64 x.pc,.int .u32 (x.regs 0),.int .u32 (x.regs 1),.int .u32 (x.regs 2),.int .u32 (x.regs 3),.int .u32 (x.regs 4),.int .u32 (x.regs 5),.int .u32 (x.regs 6),.int .u32 (x.regs 7),.int .i64 x.st]
def eT:Enc Th:=⟨153,10,bp⟩
theorem n9:eT.Ok:=⟨λx=>rfl,λx u hu=>by
 simp only[eT,bp,List.mem_cons,List.not_mem_nil,or_false]at hu
 rcases hu with rfl|rfl|rfl|rfl|rfl|rfl|rfl|rfl|rfl|rfl<;>rfl,by decide⟩
structure Bf where
 ra:Nat->Int
 rv:Nat->Int
 first:Int
 n:Int
 room:Int
def mz(x:Bf):List Value:=[.int .i64 (x.ra 0),.int .u32 (x.rv 0),.int .i64 (x.ra 1),.int .u32 (x.rv 1),.int .i64 (x.ra 2),.int .u32 (x.rv 2),.int .i64 (x.ra 3),.int .u32 (x.rv 3),.int .i64 (x.ra 4),.int .u32 (x.rv 4),.int .i64 (x.ra 5),.int .u32 (x.rv 5),.int .i64 (x.ra 6),.int .u32 (x.rv 6),.int .i64 (x.ra 7),.int .u32 (x.rv 7),.int .i64 (x.ra 8),.int .u32 (x.rv 8),.int .i64 (x.ra 9),.int .u32 (x.rv 9),.int .i64 (x.ra 10),.int .u32 (x.rv 10),.int .i64 (x.ra 11),.int .u32 (x.rv 11),.int .i64 (x.ra 12),.int .u32 (x.rv 12),.int .i64 (x.ra 13),.int .u32 (x.rv 13),.int .i64 (x.ra 14),.int .u32 (x.rv 14),.int .i64 (x.ra 15),.int .u32 (x.rv 15),.int .i64 x.first,.int .i64 x.n,.int .i64 x.room]
def eB:Enc Bf:=⟨110,35,mz⟩
theorem eB_ok:eB.Ok:=⟨λx=>rfl,λx u hu=>by
 simp only[eB,mz,List.mem_cons,List.not_mem_nil,or_false]at hu
 rcases hu with rfl|rfl|rfl|rfl|rfl|rfl|rfl|rfl|rfl|rfl|rfl|rfl|rfl|rfl|rfl|rfl|rfl|rfl|rfl|rfl|rfl|rfl|rfl|rfl|rfl|rfl|rfl|rfl|rfl|rfl|rfl|rfl|rfl|rfl|rfl<;>rfl,by decide⟩
structure Evt where
 kind:Int
 who:Int
 pc:Int
 addr:Int
 value:Int
 old:Int
 k:Int
 ok:Bool
deriving DecidableEq
def fp(x:Evt):List Value:=[.int .i64 x.kind,.int .i64 x.who,.int .i64 x.pc,.int .i64 x.addr,.int .u32 x.value,.int .u32 x.old,.int .u32 x.k,.bool x.ok]
def eE:Enc Evt:=⟨46,8,fp⟩
theorem eE_ok:eE.Ok:=⟨λx=>rfl,λx u hu=>by
 simp only[eE,fp,List.mem_cons,List.not_mem_nil,or_false]at hu
 rcases hu with rfl|rfl|rfl|rfl|rfl|rfl|rfl|rfl<;>rfl,by decide⟩
structure Slp where
 who:Int
 addr:Int
def eS:Enc Slp:=⟨182,2,λx=>[.int .i64 x.who,.int .i64 x.addr]⟩
theorem ja:eS.Ok:=⟨λx=>rfl,λx u hu=>by
 simp only[eS,List.mem_cons,List.not_mem_nil,or_false]at hu
 rcases hu with rfl|rfl<;>rfl,by decide⟩
structure Pik where
 kind:Int
 who:Int
def eP:Enc Pik:=⟨117,2,λx=>[.int .i64 x.kind,.int .i64 x.who]⟩
theorem vI:eP.Ok:=⟨λx=>rfl,λx u hu=>by
 simp only[eP,List.mem_cons,List.not_mem_nil,or_false]at hu
 rcases hu with rfl|rfl<;>rfl,by decide⟩
def nmB:Nat->ByteArray
 | 0=>⟨#[]⟩
 | 1=>⟨#[116,97,115]⟩
 | 2=>⟨#[116,116,97,115]⟩
 | 3=>⟨#[116,105,99,107,101,116]⟩
 | 4=>⟨#[109,99,115]⟩
 | 5=>⟨#[99,108,104]⟩
 | 6=>⟨#[112,101,116,101,114,115,111,110]⟩
 | 7=>⟨#[100,101,107,107,101,114]⟩
 | 8=>⟨#[98,105,97,115]⟩
 | 9=>⟨#[115,101,113]⟩
 | 10=>⟨#[109,117,116,101,120]⟩
 | 11=>⟨#[115,101,109]⟩
 | 12=>⟨#[99,111,110,100]⟩
 | 13=>⟨#[98,97,114,114,105,101,114]⟩
 | 14=>⟨#[114,119]⟩
 | 15=>⟨#[111,110,99,101]⟩
 | _=>⟨#[]⟩
def NmW(w:World):Prop:=∀i:Nat,i<16->w.cell? ⟨1,i,none⟩=some (.string (nmB i))
theorem NmW.pos{w:World}(h:NmW w):1<w.heap.size:=by
 have:=h 0 (by omega);unfold World.cell? at this
 split at this
 ·rename_i h';exact(Array.getElem?_eq_some_iff.1 h').1
 ·cases this
theorem NmW.below{w w':World}(h:NmW w)(hb:Below w.heap.size w w'):NmW w':=λi hi=>(hb.cell (p:=⟨1,i,none⟩) h.pos).trans (h i hi)
def p7(k:Int):ByteArray:=if 1<=k/\k<=15 then nmB k.toNat else⟨#[]⟩
theorem inC(n l h:Int)(w:World):Calls Tryz.prog 64 #[.int .i64 n,.int .i64 l,.int .i64 h] w λe w'=>e=.returned (.bool (decide (l<=n/\n<=h)))/\w'=w:=by
 by_cases h1:l<=n
 ·by_cases h2:n<=h
  ·rw[ay (⟨h1,h2⟩:l<=n/\n<=h)]
   go_enter Tryz.func64,Tryz.ntmps64;go_wp2;go_ret;exact⟨rfl,rfl⟩
  ·rw[az (λh=>h2 h.2:¬(l<=n/\n<=h))]
   go_enter Tryz.func64,Tryz.ntmps64;go_wp2;go_ret;exact⟨rfl,rfl⟩
 ·rw[az (λh=>h1 h.1:¬(l<=n/\n<=h))]
  go_enter Tryz.func64,Tryz.ntmps64;go_wp2;go_ret;exact⟨rfl,rfl⟩
theorem kx(k:Int)(w:World)(h:NmW w):Calls Tryz.prog 65 #[.int .i64 k] w λe w'=>e=.returned (.string (p7 k))/\w'=w:=by
 unfold p7
 by_cases h1:k<1
 ·rw[af (by omega)]
  go_enter Tryz.func65,Tryz.ntmps65;go_wp2;go_ret;exact⟨rfl,rfl⟩
 by_cases h2:k≥16
 ·rw[af (by omega)]
  go_enter Tryz.func65,Tryz.ntmps65;go_wp2;go_ret;exact⟨rfl,rfl⟩
 rw[ag (by omega)];obtain⟨k,rfl⟩:∃j:Nat,k=j:=⟨k.toNat,by omega⟩
 have hl0:(0:Int)<=k:=by omega
 have hl1:(k:Int)<16:=by omega
 have c:=h k (by omega);go_enter Tryz.func65,Tryz.ntmps65;go_wp2;go_ret;exact⟨rfl,rfl⟩
structure O where
 k:Int
 n:Int
 a:Int
 b:Int
def ov(x:O):Value:=.agg #[.int .i64 x.k,.int .i64 x.n,.int .i64 x.a,.int .i64 x.b]
def RP(x:O)(t:Int):Prop:=1<=t/\t<=8/\(
 ((x.k=6\/x.k=7)/\x.n=0/\0<=x.a/\x.a<=t - 1/\0<=x.b/\x.b<=t - 1/\x.a≠x.b) \/
 (x.k=8/\x.n=0/\0<=x.a/\x.a<=t - 1/\x.b=0) \/
 (x.k=9/\1<=x.n/\x.n<=3/\x.a=0/\x.b=0) \/
 (x.k=11/\1<=x.a/\x.a<=1000/\0<=x.n/\x.n<=x.a/\x.b=0) \/
 (x.k=13/\1<=x.n/\x.n<=t/\x.a=0/\x.b=0) \/
 ((1<=x.k/\x.k<=5\/x.k=10\/x.k=12\/x.k=14\/x.k=15)/\x.n=0/\x.a=0/\x.b=0))
instance (x:O) (t:Int):Decidable (RP x t):=by unfold RP;infer_instance
def rb(x:O)(t:Int):Bool:=decide (RP x t)
theorem pM{x:O}{t:Int}(h:RP x t):rb x t=true:=ay h
theorem ie{x:O}{t:Int}(h:¬RP x t):rb x t=false:=az h
theorem DS{k:Int}(h:1<=k/\k<=15):(p7 k).toList.isEmpty=false:=by
 unfold p7;rw[ag h];obtain⟨j,rfl⟩:∃j:Nat,k=j:=⟨k.toNat,by omega⟩
 have:j=1\/j=2\/j=3\/j=4\/j=5\/j=6\/j=7\/j=8\/j=9\/j=10\/j=11\/j=12\/j=13\/j=14\/j=15:=by omega
 rcases this with rfl|rfl|rfl|rfl|rfl|rfl|rfl|rfl|rfl|rfl|rfl|rfl|rfl|rfl|rfl<;>decide +kernel
theorem DW{k:Int}(h:¬(1<=k/\k<=15)):(p7 k).toList.isEmpty=true:=by
 unfold p7;rw[af h];decide +kernel
theorem sS(n a b t:Int)(ht1:1<=t)(ht8:t<=8)(w:World)(h:NmW w):Calls Tryz.prog 36 #[ov ⟨6,n,a,b⟩,.int .i64 t] w λe w'=>e=.returned (.bool (rb ⟨6,n,a,b⟩ t))/\Below w.heap.size w w':=by
 have hst:IntKind.i64.wrap (t - 1)=t - 1:=by rw[IntKind.wrap_i64];omega
 unfold ov
 by_cases c0:n=0
 ·have q0:(n == 0)=true:=by simp[c0]
  by_cases c1:0<=a/\a<=t - 1
  ·by_cases c2:0<=b/\b<=t - 1
   ·by_cases c3:a≠b
    ·have q3:(a != b)=true:=by simp[c3]
     rw[pM (show RP ⟨6,n,a,b⟩ t from⟨ht1,ht8,.inl ⟨.inl rfl,c0,c1.1,c1.2,c2.1,c2.2,c3⟩⟩)];go_enter Tryz.func36,Tryz.ntmps36;go_wp2_with fail;refine(inC _ _ _ _).mono ?_;rintro e w1 ⟨rfl,rfl⟩;rw[ay c1];go_wp2_with fail;refine(inC _ _ _ _).mono ?_;rintro e w1 ⟨rfl,rfl⟩;rw[ay c2];go_wp2;go_ret;exact⟨rfl,(ak _ _).alloc (ah _) _⟩
    ·have q3:(a != b)=false:=by simp at c3;simp[c3]
     rw[ie (show ¬RP ⟨6,n,a,b⟩ t by simp only[RP];omega)];go_enter Tryz.func36,Tryz.ntmps36;go_wp2_with fail;refine(inC _ _ _ _).mono ?_;rintro e w1 ⟨rfl,rfl⟩;rw[ay c1];go_wp2_with fail;refine(inC _ _ _ _).mono ?_;rintro e w1 ⟨rfl,rfl⟩;rw[ay c2];go_wp2;go_ret;exact⟨rfl,(ak _ _).alloc (ah _) _⟩
   ·rw[ie (show ¬RP ⟨6,n,a,b⟩ t by simp only[RP];omega)]
    go_enter Tryz.func36,Tryz.ntmps36;go_wp2_with fail;refine(inC _ _ _ _).mono ?_;rintro e w1 ⟨rfl,rfl⟩;rw[ay c1];go_wp2_with fail;refine(inC _ _ _ _).mono ?_;rintro e w1 ⟨rfl,rfl⟩;rw[az c2];go_wp2;go_ret;exact⟨rfl,(ak _ _).alloc (ah _) _⟩
  ·rw[ie (show ¬RP ⟨6,n,a,b⟩ t by simp only[RP];omega)]
   go_enter Tryz.func36,Tryz.ntmps36;go_wp2_with fail;refine(inC _ _ _ _).mono ?_;rintro e w1 ⟨rfl,rfl⟩;rw[az c1];go_wp2;go_ret;exact⟨rfl,(ak _ _).alloc (ah _) _⟩
 ·have q0:(n == 0)=false:=by simp[c0]
  rw[ie (show ¬RP ⟨6,n,a,b⟩ t by simp only[RP];omega)];go_enter Tryz.func36,Tryz.ntmps36;go_wp2;go_ret;exact⟨rfl,(ak _ _).alloc (ah _) _⟩
theorem tX(n a b t:Int)(ht1:1<=t)(ht8:t<=8)(w:World)(h:NmW w):Calls Tryz.prog 36 #[ov ⟨7,n,a,b⟩,.int .i64 t] w λe w'=>e=.returned (.bool (rb ⟨7,n,a,b⟩ t))/\Below w.heap.size w w':=by
 have hst:IntKind.i64.wrap (t - 1)=t - 1:=by rw[IntKind.wrap_i64];omega
 unfold ov
 by_cases c0:n=0
 ·have q0:(n == 0)=true:=by simp[c0]
  by_cases c1:0<=a/\a<=t - 1
  ·by_cases c2:0<=b/\b<=t - 1
   ·by_cases c3:a≠b
    ·have q3:(a != b)=true:=by simp[c3]
     rw[pM (show RP ⟨7,n,a,b⟩ t from⟨ht1,ht8,.inl ⟨.inr rfl,c0,c1.1,c1.2,c2.1,c2.2,c3⟩⟩)];go_enter Tryz.func36,Tryz.ntmps36;go_wp2_with fail;refine(inC _ _ _ _).mono ?_;rintro e w1 ⟨rfl,rfl⟩;rw[ay c1];go_wp2_with fail;refine(inC _ _ _ _).mono ?_;rintro e w1 ⟨rfl,rfl⟩;rw[ay c2];go_wp2;go_ret;exact⟨rfl,(ak _ _).alloc (ah _) _⟩
    ·have q3:(a != b)=false:=by simp at c3;simp[c3]
     rw[ie (show ¬RP ⟨7,n,a,b⟩ t by simp only[RP];omega)];go_enter Tryz.func36,Tryz.ntmps36;go_wp2_with fail;refine(inC _ _ _ _).mono ?_;rintro e w1 ⟨rfl,rfl⟩;rw[ay c1];go_wp2_with fail;refine(inC _ _ _ _).mono ?_;rintro e w1 ⟨rfl,rfl⟩;rw[ay c2];go_wp2;go_ret;exact⟨rfl,(ak _ _).alloc (ah _) _⟩
   ·rw[ie (show ¬RP ⟨7,n,a,b⟩ t by simp only[RP];omega)]
    go_enter Tryz.func36,Tryz.ntmps36;go_wp2_with fail;refine(inC _ _ _ _).mono ?_;rintro e w1 ⟨rfl,rfl⟩;rw[ay c1];go_wp2_with fail;refine(inC _ _ _ _).mono ?_;rintro e w1 ⟨rfl,rfl⟩;rw[az c2];go_wp2;go_ret;exact⟨rfl,(ak _ _).alloc (ah _) _⟩
  ·rw[ie (show ¬RP ⟨7,n,a,b⟩ t by simp only[RP];omega)]
   go_enter Tryz.func36,Tryz.ntmps36;go_wp2_with fail;refine(inC _ _ _ _).mono ?_;rintro e w1 ⟨rfl,rfl⟩;rw[az c1];go_wp2;go_ret;exact⟨rfl,(ak _ _).alloc (ah _) _⟩
 ·have q0:(n == 0)=false:=by simp[c0]
  rw[ie (show ¬RP ⟨7,n,a,b⟩ t by simp only[RP];omega)];go_enter Tryz.func36,Tryz.ntmps36;go_wp2;go_ret;exact⟨rfl,(ak _ _).alloc (ah _) _⟩
theorem tC(n a b t:Int)(ht1:1<=t)(ht8:t<=8)(w:World)(h:NmW w):Calls Tryz.prog 36 #[ov ⟨8,n,a,b⟩,.int .i64 t] w λe w'=>e=.returned (.bool (rb ⟨8,n,a,b⟩ t))/\Below w.heap.size w w':=by
 have hst:IntKind.i64.wrap (t - 1)=t - 1:=by rw[IntKind.wrap_i64];omega
 unfold ov
 by_cases c0:n=0
 ·have q0:(n == 0)=true:=by simp[c0]
  by_cases c1:0<=a/\a<=t - 1
  ·by_cases c2:b=0
   ·have q2:(b == 0)=true:=by simp[c2]
    rw[pM (show RP ⟨8,n,a,b⟩ t from⟨ht1,ht8,.inr (.inl ⟨rfl,c0,c1.1,c1.2,c2⟩)⟩)];go_enter Tryz.func36,Tryz.ntmps36;go_wp2_with fail;refine(inC _ _ _ _).mono ?_;rintro e w1 ⟨rfl,rfl⟩;rw[ay c1];go_wp2;go_ret;exact⟨rfl,(ak _ _).alloc (ah _) _⟩
   ·have q2:(b == 0)=false:=by simp[c2]
    rw[ie (show ¬RP ⟨8,n,a,b⟩ t by simp only[RP];omega)];go_enter Tryz.func36,Tryz.ntmps36;go_wp2_with fail;refine(inC _ _ _ _).mono ?_;rintro e w1 ⟨rfl,rfl⟩;rw[ay c1];go_wp2;go_ret;exact⟨rfl,(ak _ _).alloc (ah _) _⟩
  ·rw[ie (show ¬RP ⟨8,n,a,b⟩ t by simp only[RP];omega)]
   go_enter Tryz.func36,Tryz.ntmps36;go_wp2_with fail;refine(inC _ _ _ _).mono ?_;rintro e w1 ⟨rfl,rfl⟩;rw[az c1];go_wp2;go_ret;exact⟨rfl,(ak _ _).alloc (ah _) _⟩
 ·have q0:(n == 0)=false:=by simp[c0]
  rw[ie (show ¬RP ⟨8,n,a,b⟩ t by simp only[RP];omega)];go_enter Tryz.func36,Tryz.ntmps36;go_wp2;go_ret;exact⟨rfl,(ak _ _).alloc (ah _) _⟩
theorem te(n a b t:Int)(ht1:1<=t)(ht8:t<=8)(w:World)(h:NmW w):Calls Tryz.prog 36 #[ov ⟨9,n,a,b⟩,.int .i64 t] w λe w'=>e=.returned (.bool (rb ⟨9,n,a,b⟩ t))/\Below w.heap.size w w':=by
 have hst:IntKind.i64.wrap (t - 1)=t - 1:=by rw[IntKind.wrap_i64];omega
 unfold ov
 by_cases c0:1<=n/\n<=3
 ·by_cases c1:a=0
  ·have q1:(a == 0)=true:=by simp[c1]
   by_cases c2:b=0
   ·have q2:(b == 0)=true:=by simp[c2]
    rw[pM (show RP ⟨9,n,a,b⟩ t from⟨ht1,ht8,.inr (.inr (.inl ⟨rfl,c0.1,c0.2,c1,c2⟩))⟩)];go_enter Tryz.func36,Tryz.ntmps36;go_wp2_with fail;refine(inC _ _ _ _).mono ?_;rintro e w1 ⟨rfl,rfl⟩;rw[ay c0];go_wp2;go_ret;exact⟨rfl,(ak _ _).alloc (ah _) _⟩
   ·have q2:(b == 0)=false:=by simp[c2]
    rw[ie (show ¬RP ⟨9,n,a,b⟩ t by simp only[RP];omega)];go_enter Tryz.func36,Tryz.ntmps36;go_wp2_with fail;refine(inC _ _ _ _).mono ?_;rintro e w1 ⟨rfl,rfl⟩;rw[ay c0];go_wp2;go_ret;exact⟨rfl,(ak _ _).alloc (ah _) _⟩
  ·have q1:(a == 0)=false:=by simp[c1]
   rw[ie (show ¬RP ⟨9,n,a,b⟩ t by simp only[RP];omega)];go_enter Tryz.func36,Tryz.ntmps36;go_wp2_with fail;refine(inC _ _ _ _).mono ?_;rintro e w1 ⟨rfl,rfl⟩;rw[ay c0];go_wp2;go_ret;exact⟨rfl,(ak _ _).alloc (ah _) _⟩
 ·rw[ie (show ¬RP ⟨9,n,a,b⟩ t by simp only[RP];omega)]
  go_enter Tryz.func36,Tryz.ntmps36;go_wp2_with fail;refine(inC _ _ _ _).mono ?_;rintro e w1 ⟨rfl,rfl⟩;rw[az c0];go_wp2;go_ret;exact⟨rfl,(ak _ _).alloc (ah _) _⟩
theorem rM(n a b t:Int)(ht1:1<=t)(ht8:t<=8)(w:World)(h:NmW w):Calls Tryz.prog 36 #[ov ⟨11,n,a,b⟩,.int .i64 t] w λe w'=>e=.returned (.bool (rb ⟨11,n,a,b⟩ t))/\Below w.heap.size w w':=by
 have hst:IntKind.i64.wrap (t - 1)=t - 1:=by rw[IntKind.wrap_i64];omega
 unfold ov
 by_cases c0:1<=a/\a<=1000
 ·by_cases c1:0<=n/\n<=a
  ·by_cases c2:b=0
   ·have q2:(b == 0)=true:=by simp[c2]
    rw[pM (show RP ⟨11,n,a,b⟩ t from⟨ht1,ht8,.inr (.inr (.inr (.inl ⟨rfl,c0.1,c0.2,c1.1,c1.2,c2⟩)))⟩)];go_enter Tryz.func36,Tryz.ntmps36;go_wp2_with fail;refine(inC _ _ _ _).mono ?_;rintro e w1 ⟨rfl,rfl⟩;rw[ay c0];go_wp2_with fail;refine(inC _ _ _ _).mono ?_;rintro e w1 ⟨rfl,rfl⟩;rw[ay c1];go_wp2;go_ret;exact⟨rfl,(ak _ _).alloc (ah _) _⟩
   ·have q2:(b == 0)=false:=by simp[c2]
    rw[ie (show ¬RP ⟨11,n,a,b⟩ t by simp only[RP];omega)];go_enter Tryz.func36,Tryz.ntmps36;go_wp2_with fail;refine(inC _ _ _ _).mono ?_;rintro e w1 ⟨rfl,rfl⟩;rw[ay c0];go_wp2_with fail;refine(inC _ _ _ _).mono ?_;rintro e w1 ⟨rfl,rfl⟩;rw[ay c1];go_wp2;go_ret;exact⟨rfl,(ak _ _).alloc (ah _) _⟩
  ·rw[ie (show ¬RP ⟨11,n,a,b⟩ t by simp only[RP];omega)]
   go_enter Tryz.func36,Tryz.ntmps36;go_wp2_with fail;refine(inC _ _ _ _).mono ?_;rintro e w1 ⟨rfl,rfl⟩;rw[ay c0];go_wp2_with fail;refine(inC _ _ _ _).mono ?_;rintro e w1 ⟨rfl,rfl⟩;rw[az c1];go_wp2;go_ret;exact⟨rfl,(ak _ _).alloc (ah _) _⟩
 ·rw[ie (show ¬RP ⟨11,n,a,b⟩ t by simp only[RP];omega)]
  go_enter Tryz.func36,Tryz.ntmps36;go_wp2_with fail;refine(inC _ _ _ _).mono ?_;rintro e w1 ⟨rfl,rfl⟩;rw[az c0];go_wp2;go_ret;exact⟨rfl,(ak _ _).alloc (ah _) _⟩
theorem sE(n a b t:Int)(ht1:1<=t)(ht8:t<=8)(w:World)(h:NmW w):Calls Tryz.prog 36 #[ov ⟨13,n,a,b⟩,.int .i64 t] w λe w'=>e=.returned (.bool (rb ⟨13,n,a,b⟩ t))/\Below w.heap.size w w':=by
 have hst:IntKind.i64.wrap (t - 1)=t - 1:=by rw[IntKind.wrap_i64];omega
 unfold ov
 by_cases c0:1<=n/\n<=t
 ·by_cases c1:a=0
  ·have q1:(a == 0)=true:=by simp[c1]
   by_cases c2:b=0
   ·have q2:(b == 0)=true:=by simp[c2]
    rw[pM (show RP ⟨13,n,a,b⟩ t from⟨ht1,ht8,.inr (.inr (.inr (.inr (.inl ⟨rfl,c0.1,c0.2,c1,c2⟩))))⟩)];go_enter Tryz.func36,Tryz.ntmps36;go_wp2_with fail;refine(inC _ _ _ _).mono ?_;rintro e w1 ⟨rfl,rfl⟩;rw[ay c0];go_wp2;go_ret;exact⟨rfl,(ak _ _).alloc (ah _) _⟩
   ·have q2:(b == 0)=false:=by simp[c2]
    rw[ie (show ¬RP ⟨13,n,a,b⟩ t by simp only[RP];omega)];go_enter Tryz.func36,Tryz.ntmps36;go_wp2_with fail;refine(inC _ _ _ _).mono ?_;rintro e w1 ⟨rfl,rfl⟩;rw[ay c0];go_wp2;go_ret;exact⟨rfl,(ak _ _).alloc (ah _) _⟩
  ·have q1:(a == 0)=false:=by simp[c1]
   rw[ie (show ¬RP ⟨13,n,a,b⟩ t by simp only[RP];omega)];go_enter Tryz.func36,Tryz.ntmps36;go_wp2_with fail;refine(inC _ _ _ _).mono ?_;rintro e w1 ⟨rfl,rfl⟩;rw[ay c0];go_wp2;go_ret;exact⟨rfl,(ak _ _).alloc (ah _) _⟩
 ·rw[ie (show ¬RP ⟨13,n,a,b⟩ t by simp only[RP];omega)]
  go_enter Tryz.func36,Tryz.ntmps36;go_wp2_with fail;refine(inC _ _ _ _).mono ?_;rintro e w1 ⟨rfl,rfl⟩;rw[az c0];go_wp2;go_ret;exact⟨rfl,(ak _ _).alloc (ah _) _⟩
theorem py(k n a b t:Int)(hk:k≠6/\k≠7/\k≠8/\k≠9/\k≠11/\k≠13)(ht1:1<=t)(ht8:t<=8)(w:World)(h:NmW w):Calls Tryz.prog 36 #[ov ⟨k,n,a,b⟩,.int .i64 t] w λe w'=>e=.returned (.bool (rb ⟨k,n,a,b⟩ t))/\Below w.heap.size w w':=by
 have hst:IntKind.i64.wrap (t - 1)=t - 1:=by rw[IntKind.wrap_i64];omega
 unfold ov
 have k6:(k == 6)=false:=by simp<;>omega
 have k7:(k == 7)=false:=by simp<;>omega
 have k8:(k == 8)=false:=by simp<;>omega
 have k9:(k == 9)=false:=by simp<;>omega
 have k11:(k == 11)=false:=by simp<;>omega
 have k13:(k == 13)=false:=by simp<;>omega
 by_cases c0:1<=k/\k<=15
 ·have q0:(p7 k).toList.isEmpty=false:=DS c0
  by_cases c1:n=0
  ·have q1:(n == 0)=true:=by simp[c1]
   by_cases c2:a=0
   ·have q2:(a == 0)=true:=by simp[c2]
    by_cases c3:b=0
    ·have q3:(b == 0)=true:=by simp[c3]
     rw[pM (show RP ⟨k,n,a,b⟩ t from⟨ht1,ht8,.inr (.inr (.inr (.inr (.inr ⟨by simp only;omega,c1,c2,c3⟩))))⟩)];go_enter Tryz.func36,Tryz.ntmps36;go_wp2_with fail;refine(kx _ _ (h.below ((ak _ _).alloc (ah _) _))).mono ?_;rintro e w1 ⟨rfl,rfl⟩;go_wp2;go_ret;exact⟨rfl,(ak _ _).alloc (ah _) _⟩
    ·have q3:(b == 0)=false:=by simp[c3]
     rw[ie (show ¬RP ⟨k,n,a,b⟩ t by simp only[RP];omega)];go_enter Tryz.func36,Tryz.ntmps36;go_wp2_with fail;refine(kx _ _ (h.below ((ak _ _).alloc (ah _) _))).mono ?_;rintro e w1 ⟨rfl,rfl⟩;go_wp2;go_ret;exact⟨rfl,(ak _ _).alloc (ah _) _⟩
   ·have q2:(a == 0)=false:=by simp[c2]
    rw[ie (show ¬RP ⟨k,n,a,b⟩ t by simp only[RP];omega)];go_enter Tryz.func36,Tryz.ntmps36;go_wp2_with fail;refine(kx _ _ (h.below ((ak _ _).alloc (ah _) _))).mono ?_;rintro e w1 ⟨rfl,rfl⟩;go_wp2;go_ret;exact⟨rfl,(ak _ _).alloc (ah _) _⟩
  ·have q1:(n == 0)=false:=by simp[c1]
   rw[ie (show ¬RP ⟨k,n,a,b⟩ t by simp only[RP];omega)];go_enter Tryz.func36,Tryz.ntmps36;go_wp2_with fail;refine(kx _ _ (h.below ((ak _ _).alloc (ah _) _))).mono ?_;rintro e w1 ⟨rfl,rfl⟩;go_wp2;go_ret;exact⟨rfl,(ak _ _).alloc (ah _) _⟩
 ·have q0:(p7 k).toList.isEmpty=true:=DW c0
  rw[ie (show ¬RP ⟨k,n,a,b⟩ t by simp only[RP];omega)];go_enter Tryz.func36,Tryz.ntmps36;go_wp2_with fail;refine(kx _ _ (h.below ((ak _ _).alloc (ah _) _))).mono ?_;rintro e w1 ⟨rfl,rfl⟩;go_wp2;go_ret;exact⟨rfl,(ak _ _).alloc (ah _) _⟩
theorem jn(x:O)(t:Int)(w:World)(h:NmW w):Calls Tryz.prog 36 #[ov x,.int .i64 t] w λe w'=>e=.returned (.bool (rb x t))/\Below w.heap.size w w':=by
 obtain⟨k,n,a,b⟩:=x;have hal:=(ak w.heap.size w).alloc (ah _) (.cells #[.int .i64 k,.int .i64 n,.int .i64 a,.int .i64 b] 43)
 by_cases h1:t<1
 ·rw[ie (show ¬RP ⟨k,n,a,b⟩ t by simp only[RP];omega)]
  unfold ov;go_enter Tryz.func36,Tryz.ntmps36;go_wp2;go_ret;exact⟨rfl,hal⟩
 by_cases h2:8<t
 ·rw[ie (show ¬RP ⟨k,n,a,b⟩ t by simp only[RP];omega)]
  unfold ov;go_enter Tryz.func36,Tryz.ntmps36;go_wp2;go_ret;exact⟨rfl,hal⟩
 have ht1:1<=t:=by omega
 have ht8:t<=8:=by omega
 by_cases e6:k=6
 ·subst e6;exact sS n a b t ht1 ht8 w h
 by_cases e7:k=7
 ·subst e7;exact tX n a b t ht1 ht8 w h
 by_cases e8:k=8
 ·subst e8;exact tC n a b t ht1 ht8 w h
 by_cases e9:k=9
 ·subst e9;exact te n a b t ht1 ht8 w h
 by_cases e11:k=11
 ·subst e11;exact rM n a b t ht1 ht8 w h
 by_cases e13:k=13
 ·subst e13;exact sE n a b t ht1 ht8 w h
 exact py k n a b t ⟨e6,e7,e8,e9,e11,e13⟩ ht1 ht8 w h
end Go.Proofs.YtldlcnaphednnaaGreatDoor
