/- Rows of words: made, stored into, appended to. obj.First: the words at first; the words of a queue whose tail is nobody's. -/
import Derived.Test.YtldlcnaphednnaaGreatDoorM05
import Derived.Test.YtldlcnaphednnaaGreatDoorM02
import Derived.Maps.AppendAt
import Derived.Carry
set_option maxRecDepth 100000
set_option maxHeartbeats 32000000
set_option linter.unusedVariables false
set_option linter.unusedSimpArgs false
namespace Go.Proofs.YtldlcnaphednnaaGreatDoor
open Go.RowKit
def lV(n:Nat)(p:Nat->Int):Array Value:=((List.range n).map λx=>Value.int .u32 (p x)).toArray
theorem wU(n:Nat)(p:Nat->Int):(lV n p).size=n:=by simp[lV]
theorem rB(n:Nat)(p:Nat->Int)(x:Nat)(h:x<n):(lV n p)[x]? = some (.int .u32 (p x)):=by simp[lV,h]
theorem tR(n:Nat)(p:Nat->Int)(x:Nat):(lV n p)[x]? = if x<n then some (.int .u32 (p x)) else none:=by
 by_cases h:x<n
 ·rw[ag h];exact rB n p x h
 ·rw[af h];simp[lV,h]
theorem Br(n:Nat)(p:Nat->Int)(x:Nat)(b:Int):(lV n p).setIfInBounds x (.int .u32 b)=lV n (λy=>if y=x then b else p y):=by
 apply Array.ext_getElem?;intro i;rw[Array.getElem?_setIfInBounds,tR,tR,wU]
 by_cases e:x=i
 ·subst e;by_cases h:x<n<;>simp[h]
 ·have e':i≠x:=λh=>e h.symm
  rw[af e,af e']
theorem xR(n:Nat):madeCells #[.int .u32 0] n=lV n (λ_=>0):=by
 apply Array.ext (by simp[lV,madeCells]);intro i h1 h2;simp[lV,madeCells,Nat.mod_one]
def Wd(w:World)(V:Option Addr)(n:Nat)(p:Nat->Int):Prop:=
 0<n->∃b off,V=some ⟨b,off,none⟩/\b<w.heap.size/\∀i,i<n->w.cell? ⟨b,off+i,none⟩=some (.int .u32 (p i))
theorem Wd.below{w w':World}{V:Option Addr}{n:Nat}{p:Nat->Int}(h:Wd w V n p)(hb:Below w.heap.size w w'):Wd w' V n p:=λhn=>by
 obtain⟨b,off,e,hlt,hc⟩:=h hn;exact⟨b,off,e,aA hlt hb.size,λi hi=>(hb.cell (p:=⟨b,off+i,none⟩) hlt).trans (hc i hi)⟩
theorem Wd.congr{w:World}{V:Option Addr}{n:Nat}{p q:Nat->Int}(h:Wd w V n p)(e:∀i,i<n->p i=q i):Wd w V n q:=λhn=>by
 obtain⟨b,off,e1,hlt,hc⟩:=h hn;exact⟨b,off,e1,hlt,λi hi=>by rw[<-e i hi];exact hc i hi⟩
theorem Wd.row{w:World}{b n:Nat}{p:Nat->Int}(h:w.heap[b]? = some (.cells (lV n p) 37 (0,0))):Wd w (some ⟨b,0,none⟩) n p:=λ_=>⟨b,0,rfl,aB h,λi hi=>(ae w b (0+i) _ 37 _ h).trans (by rw[Nat.zero_add];exact rB _ _ _ hi)⟩
def pt(l:List Int)(i:Nat):Int:=l.getD i 0
theorem GV:(Tryz.prog.info? 37).map (λi=>(i.zero,i.size,i.bytes))=some (some (.int .u32 0),1,4):=by kernel_rfl
theorem Eu(w:World)(z:Int):(Instr.buildSlice 55 1 #[(0,.int .u32 z)]).run Tryz.prog w=.ok (.slice (some ⟨w.heap.size,0,none⟩) 1 1) (w.alloc (.cells #[.int .u32 z] 37)):=by
 kernel_rfl
section
variable {ops:Array Oper} {Q:Exit->Act->World->Prop}
theorem yx{rest:List Oper}{o:Oper}{a:Act}{w:World}(hgd:o.guard=none)(x y:Operand)(ho:o.op=.makeSlice 55 x y)(n:Nat)(hn:n<=4000)(hx:a.eval x=.int .i64 n)(hy:a.eval y=.int .i64 n)
  (h:∀(w':World)(r:Nat),w'.heap[r]? = some (.cells (lV n λ_=>0) 37 (0,0))->Below w.heap.size w w'->Hid (r=w.heap.size)->∀K:Act->World->Prop,(∀a w,wpList Tryz.prog ops Q rest a w->K a w)->K (a.put o.dst (.slice (some ⟨r,0,none⟩) n n)) w'):wpList Tryz.prog ops Q (o :: rest) a w:=by
 refine wpList_plain hgd λK hK=>?_
 obtain⟨i0,hi0,hz0,hz1,hz2⟩:=info_parts GV;have hr:=run_make (P:=Tryz.prog) w 55 37 i0 (.int .u32 0) Tryz.underlying55 hi0 hz0 .i64 .i64 (n:Int) (n:Int) (by omega) (Int.le_refl _) (by rw[hz2];omega) (by omega);have e:(Value.int .u32 0).cells=#[.int .u32 0]:=rfl;rw[hz1,e,Nat.mul_one,Int.toNat_natCast,xR]at hr;unfold Oper.wp execOp;simp only[ho,hx,hy,Sem.run_bind,hr,Result.andThen_ok];exact h _ _ (heap_alloc_new w _) ((ak _ _).alloc (ah _) _) rfl K hK
theorem zs{rest:List Oper}{o:Oper}{a:Act}{w:World}(hgd:o.guard=none)(x y:Operand)(ho:o.op=.store 37 x y)(r j n:Nat)(z:Int)(p:Nat->Int)(hx:a.eval x=.pointer (some ⟨r,j,none⟩))(hy:a.eval y=.int .u32 z)(hb:w.heap[r]? = some (.cells (lV n p) 37 (0,0)))(hj:j<n)
  (h:∀w':World,w'.heap[r]? = some (.cells (lV n λy=>if y=j then z else p y) 37 (0,0))->(∀B,B<=r->Below B w w')->∀K:Act->World->Prop,(∀a w,wpList Tryz.prog ops Q rest a w->K a w)->K (a.put o.dst undef) w'):wpList Tryz.prog ops Q (o :: rest) a w:=by
 refine wpList_plain hgd λK hK=>?_
 have hc:w.cell? ⟨r,j,none⟩=some (.int .u32 (p j)):=(ae w r j _ 37 _ hb).trans (rB _ _ _ hj);have hf:=frozen_of_row w r j _ 37 hb;have hsz:=Tryz.sizeOf37
 have hst:(store ⟨r,j,none⟩ (.int .u32 z)).run Tryz.prog w=.ok () (w.setCell ⟨r,j,none⟩ (.int .u32 z)):=by simp[go_sem,stored,hc,hf]
 have hsv:(storeVar 37 ⟨r,j,none⟩ (.int .u32 z)).run Tryz.prog w=.ok () (w.setCell ⟨r,j,none⟩ (.int .u32 z)):=by
  unfold storeVar;have hv:(Value.int .u32 z).cells=#[.int .u32 z]:=rfl;simp only[Sem.run_bind,hsz,hv,Result.andThen_ok];simp[storeCells,bX,hst]
 unfold Oper.wp execOp;simp only[ho,hx,hy,Instr.storeAt,Instr.sureAddr,Sem.run_bind,Sem.run_pure,Result.andThen_ok];rw[hsv];refine h _ ?_ (λB hB=>(ak _ _).setCell hB _) K hK;rw[<-Br];exact heap_setCell_same w r j _ 37 _ hb
theorem GP{rest:List Oper}{o:Oper}{a:Act}{w:World}(hgd:o.guard=none)(y:Operand)(ho:o.op=.buildSlice 55 1 #[(0,y)])(z:Int)(hx:a.eval y=.int .u32 z)
  (h:∀(w':World)(b:Nat),w'.heap[b]? = some (.cells #[.int .u32 z] 37 (0,0))->Below w.heap.size w w'->∀K:Act->World->Prop,(∀a w,wpList Tryz.prog ops Q rest a w->K a w)->K (a.put o.dst (.slice (some ⟨b,0,none⟩) 1 1)) w'):wpList Tryz.prog ops Q (o :: rest) a w:=by
 refine wpList_plain hgd λK hK=>?_
 unfold Oper.wp execOp;have hr:=Eu w z;simp only[ho,List.map_toArray,List.map_cons,List.map_nil,hx,Sem.run_bind,hr,Result.andThen_ok];exact h _ _ (heap_alloc_new w _) ((ak _ _).alloc (ah _) _) K hK
end
def j6:Nat->List Nat
 | 0=>[]
 | 1=>[111]
 | 2=>[111]
 | 3=>[110,115,111]
 | 4=>[116,111,78,87]
 | 5=>[116,111,70,102,77,80]
 | 6=>[97,98,117,111]
 | 7=>[102,115,111]
 | 8=>[98,114,108,111]
 | 9=>[115,111]
 | 10=>[115,111]
 | 11=>[99]
 | 12=>[115,78]
 | 13=>[99,112]
 | 14=>[115,77]
 | 15=>[115,111]
 | _=>[]
def wO(c:Nat):Bool:=decide (65<=c) && decide (c<=90)
def wj(k n:Int)(t c j:Nat):Int:=if k=11 then n else if k=5/\c=77 then j else if k=5/\c=116 then t else 0
def kl(k n:Int)(t c:Nat):List Int:=(List.range (if wO c then t else 1)).map λj=>wj k n t c j
def aT(x:O)(t:Nat):List Int:=(j6 x.k.toNat).flatMap (kl x.k x.n t)++(if x.k=9 then List.replicate x.n.toNat 0 else[])
def qh(t i j:Nat):Int:=if j=0 then t else if 3+t<=j/\j<3+t+i then((j - 3 - t:Nat):Int) else 0
theorem fl1:∀t,t<=8->aT ⟨1,0,0,0⟩ t=List.replicate 1 0:=by decide +kernel
theorem fl2:∀t,t<=8->aT ⟨2,0,0,0⟩ t=List.replicate 1 0:=by decide +kernel
theorem fl3:∀t,t<=8->aT ⟨3,0,0,0⟩ t=List.replicate 3 0:=by decide +kernel
theorem fl4:∀t,t<=8->aT ⟨4,0,0,0⟩ t=List.replicate (2+2 * t) 0:=by decide +kernel
theorem fl5:∀t,t<=8->(aT ⟨5,0,0,0⟩ t).length=3+3 * t/\∀j,j<3+3 * t->qh t t j=pt (aT ⟨5,0,0,0⟩ t) j:=by decide +kernel
theorem fl6(a b:Int)(t:Nat):aT ⟨6,0,a,b⟩ t=List.replicate 4 0:=rfl
theorem fl7(a b:Int)(t:Nat):aT ⟨7,0,a,b⟩ t=List.replicate 3 0:=rfl
theorem fl8(a b:Int)(t:Nat):aT ⟨8,0,a,b⟩ t=List.replicate 4 0:=rfl
theorem fl9(n:Nat)(a b:Int)(t:Nat):aT ⟨9,n,a,b⟩ t=List.replicate (2+n) 0:=by
 show[(0:Int),0]++List.replicate n 0=_;rw[Nat.add_comm];rfl
theorem FP:∀t,t<=8->aT ⟨10,0,0,0⟩ t=List.replicate 2 0:=by decide +kernel
theorem fl11(n a b:Int)(t:Nat):aT ⟨11,n,a,b⟩ t=[n]:=rfl
theorem Ge:∀t,t<=8->aT ⟨12,0,0,0⟩ t=List.replicate (1+t) 0:=by decide +kernel
theorem Gg(n a b:Int)(t:Nat):aT ⟨13,n,a,b⟩ t=List.replicate 2 0:=rfl
theorem FW:∀t,t<=8->aT ⟨14,0,0,0⟩ t=List.replicate (1+t) 0:=by decide +kernel
theorem GF:∀t,t<=8->aT ⟨15,0,0,0⟩ t=List.replicate 2 0:=by decide +kernel
theorem sy(n i:Nat):pt (List.replicate n 0) i=0:=by
 unfold pt
 rw[List.getD_eq_getElem?_getD,List.getElem?_replicate];split<;>rfl
theorem zy(t i:Nat):(λy=>if y=3+t+i then(i:Int) else qh t i y)=qh t (i+1):=by
 funext y
 unfold qh
 by_cases e:y=3+t+i
 ·subst e
  rw[ag rfl,af (by omega),ag (by omega)];congr 1;omega
 ·rw[af e]
  by_cases h0:y=0
  ·simp[h0]
  ·rw[af h0,af h0]
   by_cases h1:3+t<=y/\y<3+t+i
   ·rw[ag h1,ag (by omega)]
   ·rw[af h1,af (by omega)]
theorem wT(t:Nat):(λy=>if y=0 then(t:Int) else 0)=qh t 0:=by
 funext y
 unfold qh
 by_cases e:y=0
 ·simp[e]
 ·rw[af e,af e,af (by omega)]
theorem clh(t:Nat)(ht1:1<=t)(ht8:t<=8)(w:World):Calls Tryz.prog 55 #[.int .i64 t] w λe w'=>∃V c,e=.returned (.slice V (3+3 * t) c)/\Wd w' V (3+3 * t) (qh t t)/\Below w.heap.size w w':=by
 have hwt:IntKind.u32.wrap (t:Int)=t:=by simp[IntKind.wrap,IntKind.bits,IntKind.signed];omega
 go_enter Tryz.func55,Tryz.ntmps55;go_upto_region 1 with(fail);refine ab ?_
 iterate 3 refine Zv ?_
 refine yx rfl (.tmp 7) (.tmp 7) rfl (3+3 * t) (by omega) (by go_simp;simp only[IntKind.wrap_i64];omega) (by go_simp;simp only[IntKind.wrap_i64];omega) (λw1 r X1 h1 f1=>?_);refine Zk ?_;refine aG rfl (.slice (some ⟨r,0,none⟩) (3+3 * t) (3+3 * t)) ?_ ?_
 ·go_simp
 refine Zk ?_
 have hr:w.heap.size<=r:=by simp only[Hid]at f1;omega
 clear f1;go_upto_region 2 with(fail);refine ab ?_
 iterate 2 refine Zv ?_
 refine aG rfl (.int .u32 t) ?_ ?_
 ·go_simp;try rw[hwt]
 refine Zk ?_;refine aG rfl (.pointer (some ⟨r,0,none⟩)) ?_ ?_
 ·go_simp;try omega
 refine Zk ?_;refine zs rfl (.tmp 12) (.tmp 11) rfl r 0 (3+3 * t) t _ rfl rfl X1 (by omega) (λw2 X2 q2=>?_);refine Zk ?_;have hb2:Below w.heap.size w w2:=h1.trans (q2 _ hr);rw[wT]at X2;clear X1 q2 h1;go_upto_region 4 with(fail);go_loopw [14] (λi wr=>∃k:Nat,k<=t/\i=.int .i64 k/\wr.heap[r]? = some (.cells (lV (3+3 * t) (qh t k)) 37 (0,0))/\Below w.heap.size w wr) (λi _=>t - (intOf i).toNat)
 case atStart=>exact⟨0,by omega,rfl,X2,hb2⟩
 case round=>
  clear X2 hb2;obtain⟨k,hk,rfl,X,hb⟩:=hrel
  by_cases hlt:k<t
  ·have hl:(k:Int)<t:=by omega
   have hl0:(0:Int)<=k:=by omega
   have hwk:IntKind.u32.wrap (k:Int)=k:=by simp[IntKind.wrap,IntKind.bits,IntKind.signed];omega
   go_upto_region 6 with(fail);refine ab ?_;obtain⟨q,hqh⟩:∃q:Nat,Hid (q=3+t+k):=⟨_,rfl⟩;have hq:=hqh.out
   have hq0:(0:Int)<=q:=by omega
   have hq1:(q:Int)<((3+3 * t:Nat):Int):=by omega
   have hq2:(q:Int)<3+3 * (t:Int):=by omega
   clear hq
   iterate 2 refine Zv ?_
   refine aG rfl (.int .i64 (3+t)) ?_ ?_
   ·go_simp;try (simp only[IntKind.wrap_i64];omega)
   refine Zk ?_;refine Zv ?_;refine aG rfl (.int .i64 q) ?_ ?_
   ·go_simp;try (have hq:=hqh.out;simp only[IntKind.wrap_i64];omega)
   refine Zk ?_;refine Zv ?_;refine aG rfl (.int .u32 k) ?_ ?_
   ·go_simp;try rw[hwk]
   refine Zk ?_;refine aG rfl (.pointer (some ⟨r,q,none⟩)) ?_ ?_
   ·go_simp
   refine Zk ?_;refine zs rfl (.tmp 24) (.tmp 23) rfl r q (3+3 * t) k _ rfl rfl X (by have:=hqh.out;omega) (λw3 X3 q3=>?_);refine Zk ?_;rw[hqh.out,zy]at X3;replace hb:=hb.trans (q3 _ hr);go_wp2;go_roundw
   case rel=>exact⟨k+1,by omega,by go_num,X3,hb⟩
   case measure=>simp[intOf];omega
  ·have hl:¬(k:Int)<t:=by omega
   have hkn:k=t:=by omega
   subst hkn;go_wp2;go_ret;exact⟨_,⟨_,rfl⟩,Wd.row X,hb⟩
theorem yY (t:Nat)(hR:RP ⟨5,0,0,0⟩ t)(w:World)(h:NmW w):Calls Tryz.prog 26 #[ov ⟨5,0,0,0⟩,.int .i64 t] w λe w'=>∃V c,e=.returned (.slice V (aT ⟨5,0,0,0⟩ t).length c)/\Wd w' V (aT ⟨5,0,0,0⟩ t).length (pt (aT ⟨5,0,0,0⟩ t))/\Below w.heap.size w w':=by
 have hr:=pM hR
 have ht:1<=t/\t<=8:=by have h1:=hR.1;have h2:=hR.2.1;omega
 have hO:=jn ⟨5,0,0,0⟩ t;unfold ov at *;go_enter Tryz.func26,Tryz.ntmps26;go_wp2_with fail;refine(hO _ (h.below ((ak _ _).alloc (ah _) _))).mono ?_;rintro e w1 ⟨rfl,hb1⟩;rw[hr];clear hO hr hR;have X:=keep (heap_alloc_new w (.cells #[.int .i64 5,.int .i64 0,.int .i64 0,.int .i64 0] 43)) hb1;have hB:Below w.heap.size w w1:=((ak _ _).alloc (ah _) _).trans (hb1.mono (by simp));obtain⟨x0,x1⟩:=cl2 X;clear hb1 X;have hfl:=fl5 t (by omega);go_wp2_with fail;refine(clh t ht.1 ht.2 w1).mono ?_;rintro e w2 ⟨V,c,rfl,hW,hb2⟩;go_wp2;go_ret;exact⟨V,c,by rw[hfl.1];rfl,by rw[hfl.1];exact hW.congr hfl.2,hB.trans (hb2.mono hB.size)⟩
theorem xZ(n a b:Int)(t:Nat)(hR:RP ⟨11,n,a,b⟩ t)(w:World)(h:NmW w):Calls Tryz.prog 26 #[ov ⟨11,n,a,b⟩,.int .i64 t] w λe w'=>∃V c,e=.returned (.slice V (aT ⟨11,n,a,b⟩ t).length c)/\Wd w' V (aT ⟨11,n,a,b⟩ t).length (pt (aT ⟨11,n,a,b⟩ t))/\Below w.heap.size w w':=by
 have hr:=pM hR
 have ht:1<=t/\t<=8:=by have h1:=hR.1;have h2:=hR.2.1;omega
 have hn:0<=n/\n<=1000:=by have h3:=hR.2.2;simp only at h3;omega
 have hwn:IntKind.u32.wrap n=n:=by simp[IntKind.wrap,IntKind.bits,IntKind.signed];omega
 have hO:=jn ⟨11,n,a,b⟩ t;unfold ov at *;go_enter Tryz.func26,Tryz.ntmps26;go_wp2_with fail;refine(hO _ (h.below ((ak _ _).alloc (ah _) _))).mono ?_;rintro e w1 ⟨rfl,hb1⟩;rw[hr];clear hO hr hR;have X:=keep (heap_alloc_new w (.cells #[.int .i64 11,.int .i64 n,.int .i64 a,.int .i64 b] 43)) hb1;have hB:Below w.heap.size w w1:=((ak _ _).alloc (ah _) _).trans (hb1.mono (by simp));obtain⟨x0,x1⟩:=cl2 X;clear hb1 X;go_upto_region 21 with(fail);refine ab ?_
 iterate 2 refine Zv ?_
 refine aG rfl (.int .u32 n) ?_ ?_
 ·go_simp;try rw[hwn]
 refine Zk ?_;refine GP rfl (.tmp 39) rfl n rfl (λw4 r X4 h4=>?_);refine Zk ?_;refine aG rfl (.slice (some ⟨r,0,none⟩) 1 1) ?_ ?_
 ·go_simp
 refine Zk ?_;go_wp2_with (fail);go_ret;exact⟨_,_,rfl,Wd.row (w:=w4) (b:=r) (n:=1) (p:=pt [n]) (by exact X4),hB.trans (h4.mono hB.size)⟩
theorem xX{k a b:Int}{n t:Nat}(hR:RP ⟨k,n,a,b⟩ t)(h5:k≠5)(h11:k≠11):∃m:Nat,(k=1/\m=1\/k=2/\m=1\/k=3/\m=3\/k=4/\m=2+2 * t\/k=6/\m=4\/k=7/\m=3\/k=8/\m=4\/k=9/\m=2+n\/k=10/\m=2\/k=12/\m=1+t\/k=13/\m=2\/k=14/\m=1+t\/k=15/\m=2)/\aT ⟨k,n,a,b⟩ t=List.replicate m 0:=by
 have h3:=hR.2.2;have h8:=hR.2.1;simp only at h3
 have hk:k=1\/k=2\/k=3\/k=4\/k=6\/k=7\/k=8\/k=9\/k=10\/k=12\/k=13\/k=14\/k=15:=by omega
 have hz:k≠6->k≠7->k≠8->k≠9->k≠13->n=0/\a=0/\b=0:=by omega
 have hz':k≠9->k≠13->n=0:=by omega
 rcases hk with rfl|rfl|rfl|rfl|rfl|rfl|rfl|rfl|rfl|rfl|rfl|rfl|rfl
 ·obtain⟨rfl,rfl,rfl⟩:=hz (by decide) (by decide) (by decide) (by decide) (by decide)
  exact⟨1,by simp,fl1 t (by omega)⟩
 ·obtain⟨rfl,rfl,rfl⟩:=hz (by decide) (by decide) (by decide) (by decide) (by decide)
  exact⟨1,by simp,fl2 t (by omega)⟩
 ·obtain⟨rfl,rfl,rfl⟩:=hz (by decide) (by decide) (by decide) (by decide) (by decide)
  exact⟨3,by simp,fl3 t (by omega)⟩
 ·obtain⟨rfl,rfl,rfl⟩:=hz (by decide) (by decide) (by decide) (by decide) (by decide)
  exact⟨2+2 * t,by simp,fl4 t (by omega)⟩
 ·obtain rfl:=hz' (by decide) (by decide)
  exact⟨4,by simp,fl6 a b t⟩
 ·obtain rfl:=hz' (by decide) (by decide)
  exact⟨3,by simp,fl7 a b t⟩
 ·obtain rfl:=hz' (by decide) (by decide)
  exact⟨4,by simp,fl8 a b t⟩
 ·exact⟨2+n,by simp,fl9 n a b t⟩
 ·obtain⟨rfl,rfl,rfl⟩:=hz (by decide) (by decide) (by decide) (by decide) (by decide)
  exact⟨2,by simp,FP t (by omega)⟩
 ·obtain⟨rfl,rfl,rfl⟩:=hz (by decide) (by decide) (by decide) (by decide) (by decide)
  exact⟨1+t,by simp,Ge t (by omega)⟩
 ·exact⟨2,by simp,Gg n a b t⟩
 ·obtain⟨rfl,rfl,rfl⟩:=hz (by decide) (by decide) (by decide) (by decide) (by decide)
  exact⟨1+t,by simp,FW t (by omega)⟩
 ·obtain⟨rfl,rfl,rfl⟩:=hz (by decide) (by decide) (by decide) (by decide) (by decide)
  exact⟨2,by simp,GF t (by omega)⟩
theorem Hid.mk'{p:Prop}(h:p):Hid p:=h
theorem Es{k a b:Int}{n m:Nat}(t:Nat)(hk:k=1/\m=1\/k=2/\m=1\/k=3/\m=3\/k=4/\m=2+2 * t\/k=6/\m=4\/k=7/\m=3\/k=8/\m=4\/k=9/\m=2+n\/k=10/\m=2\/k=12/\m=1+t\/k=13/\m=2\/k=14/\m=1+t\/k=15/\m=2)(hfl:aT ⟨k,n,a,b⟩ t=List.replicate m 0)(hR:RP ⟨k,n,a,b⟩ t)(w:World)(h:NmW w):Calls Tryz.prog 26 #[ov ⟨k,n,a,b⟩,.int .i64 t] w λe w'=>∃V c,e=.returned (.slice V (aT ⟨k,n,a,b⟩ t).length c)/\Wd w' V (aT ⟨k,n,a,b⟩ t).length (pt (aT ⟨k,n,a,b⟩ t))/\Below w.heap.size w w':=by
 have hr:=pM hR
 have ht:1<=t/\t<=8:=by have h1:=hR.1;have h2:=hR.2.1;omega
 have hn:n<=8:=by have h3:=hR.2.2;simp only at h3;omega
 have hO:=jn ⟨k,n,a,b⟩ t
 have hlen:(aT ⟨k,n,a,b⟩ t).length=m:=by rw[hfl];simp
 replace hlen:Hid ((aT ⟨k,n,a,b⟩ t).length=m):=hlen;replace hfl:Hid (aT ⟨k,n,a,b⟩ t=List.replicate m 0):=hfl;unfold ov at *
 have hm:m<=40:=by omega
 rcases hk with⟨rfl,hk⟩|⟨rfl,hk⟩|⟨rfl,hk⟩|⟨rfl,hk⟩|⟨rfl,hk⟩|⟨rfl,hk⟩|⟨rfl,hk⟩|⟨rfl,hk⟩|⟨rfl,hk⟩|⟨rfl,hk⟩|⟨rfl,hk⟩|⟨rfl,hk⟩|⟨rfl,hk⟩
 all_goals
  replace hk:=Hid.mk' hk;go_enter Tryz.func26,Tryz.ntmps26;go_wp2_with fail;refine(hO _ (h.below ((ak _ _).alloc (ah _) _))).mono ?_;rintro e w1 ⟨rfl,hb1⟩;rw[hr];clear hO hr hR;have X:=keep (heap_alloc_new w (.cells #[.int .i64 _,.int .i64 n,.int .i64 a,.int .i64 b] 43)) hb1;have hB:Below w.heap.size w w1:=((ak _ _).alloc (ah _) _).trans (hb1.mono (by simp));obtain⟨x0,x1⟩:=cl2 X;clear hb1 X;go_upto_region 29 with(fail);refine ab ?_;refine Zv ?_
  refine yx rfl (.tmp 50) (.tmp 50) rfl m (by omega) (by have:=hk.out;go_simp;first|done|omega|(simp only[IntKind.wrap_i64];omega)) (by have:=hk.out;go_simp;first|done|omega|(simp only[IntKind.wrap_i64];omega)) (λw4 r X4 h4 f4=>?_)
  refine Zk ?_;refine aG rfl (.slice (some ⟨r,0,none⟩) m m) ?_ ?_
  ·go_simp
  refine Zk ?_;go_wp2_with (fail);go_ret;exact⟨_,_,by rw[hlen.out];rfl,by rw[hlen.out];exact(Wd.row X4).congr λi _=>by rw[hfl.out,sy],hB.trans (h4.mono hB.size)⟩
theorem ug(x:O)(t:Nat)(hR:RP x t)(w:World)(h:NmW w):Calls Tryz.prog 26 #[ov x,.int .i64 t] w λe w'=>∃V c,e=.returned (.slice V (aT x t).length c)/\Wd w' V (aT x t).length (pt (aT x t))/\Below w.heap.size w w':=by
 obtain⟨k,n,a,b⟩:=x;have h3:=hR.2.2;simp only at h3
 by_cases e5:k=5
 ·subst e5
  obtain rfl:n=0:=by omega
  obtain rfl:a=0:=by omega
  obtain rfl:b=0:=by omega
  exact yY t hR w h
 obtain⟨n,rfl⟩:∃q:Nat,n=q:=⟨n.toNat,by omega⟩
 by_cases e11:k=11
 ·subst e11
  exact xZ n a b t hR w h
 obtain⟨m,hm,hf⟩:=xX hR e5 e11;exact Es t hm hf hR w h
end Go.Proofs.YtldlcnaphednnaaGreatDoor
