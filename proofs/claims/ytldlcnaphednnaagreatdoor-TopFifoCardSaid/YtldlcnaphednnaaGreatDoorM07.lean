/- obj.Size; lists of objects. Where objects stand: the program's answer and the document's. What may be asked of a kind: the program's list, and the document's answer. May a thread ask: spin.May. The builder's helpers of spin. -/
import Derived.Test.YtldlcnaphednnaaGreatDoorM06
import Derived.Test.YtldlcnaphednnaaGreatDoorM05
import Derived.Test.YtldlcnaphednnaaGreatDoorM02
import Derived.Test.YtldlcnaphednnaaGreatDoorM03
set_option maxRecDepth 100000
set_option maxHeartbeats 32000000
set_option linter.unusedVariables false
set_option linter.unusedSimpArgs false
namespace Go.Proofs.YtldlcnaphednnaaGreatDoor
open Go.RowKit
theorem xL(x:O)(t:Int)(hR:¬RP x t)(w:World)(h:NmW w):Calls Tryz.prog 26 #[ov x,.int .i64 t] w λe w'=>e=.returned (.slice none 0 0)/\Below w.heap.size w w':=by
 have hr:=ie hR;unfold ov at *;go_enter Tryz.func26,Tryz.ntmps26;go_wp2_with fail;refine(jn x t _ (h.below ((ak _ _).alloc (ah _) _))).mono ?_;rintro e w1 ⟨rfl,hb1⟩;rw[hr];go_wp2;go_ret;exact⟨rfl,((ak _ _).alloc (ah _) _).trans (hb1.mono (by simp))⟩
def szP(x:O)(t:Int):Nat:=if RP x t then(aT x t.toNat).length else 0
theorem uR(k n:Int)(t c:Nat)(ht:t<=8):(kl k n t c).length<=8:=by
 unfold kl;rw[List.length_map,List.length_range];split<;>omega
theorem wS(k n:Int)(t:Nat)(ht:t<=8):∀l:List Nat,(l.flatMap (kl k n t)).length<=8 * l.length
 | []=>by simp
 | c :: l=>by
  rw[List.flatMap_cons,List.length_append,List.length_cons];have:=uR k n t c ht;have:=wS k n t ht l;omega
theorem En:∀k,k<=15->(j6 k).length<=6:=by decide +kernel
theorem vi(x:O)(t:Int):szP x t<=60:=by
 unfold szP
 split
 ·rename_i hR
  have h3:=hR.2.2;have h1:=hR.1;have h2:=hR.2.1;have hl:=En x.k.toNat (by omega);have hf:=wS x.k x.n t.toNat (by omega) (j6 x.k.toNat);unfold aT;rw[List.length_append]
  split
  ·rename_i h9
   rw[List.length_replicate];omega
  ·simp only[List.length_nil];omega
 ·omega
theorem C6(x:O)(t:Int)(w:World)(h:NmW w):Calls Tryz.prog 18 #[ov x,.int .i64 t] w λe w'=>e=.returned (.int .i64 (szP x t))/\Below w.heap.size w w':=by
 have hw:=(ak w.heap.size w).alloc (ah _) (.cells #[.int .i64 x.k,.int .i64 x.n,.int .i64 x.a,.int .i64 x.b] 43)
 by_cases hR:RP x t
 ·have h1:=hR.1
  obtain⟨t,rfl⟩:∃j:Nat,t=j:=⟨t.toNat,by omega⟩
  have hs:szP x t=(aT x t).length:=by unfold szP;rw[ag hR,Int.toNat_natCast]
  have hF:=ug x t hR _ (h.below hw);rw[hs];unfold ov at *;go_enter Tryz.func18,Tryz.ntmps18;go_wp2_with fail;refine hF.mono ?_;rintro e w1 ⟨V,c,rfl,_,hb1⟩;go_wp2;go_ret;exact⟨rfl,hw.trans (hb1.mono (by simp))⟩
 ·have hs:szP x t=0:=by unfold szP;rw[af hR]
  have hF:=xL x t hR _ (h.below hw);rw[hs];unfold ov at *;go_enter Tryz.func18,Tryz.ntmps18;go_wp2_with fail;refine hF.mono ?_;rintro e w1 ⟨rfl,hb1⟩;go_wp2;go_ret;exact⟨rfl,hw.trans (hb1.mono (by simp))⟩
def Objs(w:World)(A:Option Addr)(n:Nat)(f:Nat->O):Prop:=
 0<n->∃b off,A=some ⟨b,off,none⟩/\b<w.heap.size/\∀i,i<n->w.cell? ⟨b,off+i * 4,none⟩=some (.int .i64 (f i).k)/\w.cell? ⟨b,off+i * 4+1,none⟩=some (.int .i64 (f i).n)/\w.cell? ⟨b,off+i * 4+2,none⟩=some (.int .i64 (f i).a)/\w.cell? ⟨b,off+i * 4+3,none⟩=some (.int .i64 (f i).b)
theorem Objs.below{w w':World}{A:Option Addr}{n:Nat}{f:Nat->O}(h:Objs w A n f)(hb:Below w.heap.size w w'):Objs w' A n f:=λhn=>by
 obtain⟨b,off,e,hlt,hc⟩:=h hn;refine⟨b,off,e,aA hlt hb.size,λi hi=>?_⟩;rw[hb.cell (p:=⟨b,off+i * 4,none⟩) hlt,hb.cell (p:=⟨b,off+i * 4+1,none⟩) hlt,hb.cell (p:=⟨b,off+i * 4+2,none⟩) hlt,hb.cell (p:=⟨b,off+i * 4+3,none⟩) hlt];exact hc i hi
theorem lp{w:World}{A:Option Addr}{n:Nat}{f:Nat->O}(h:Objs w A n f)(hn:0<n):∃b off,A=some ⟨b,off,none⟩:=by
 obtain⟨b,off,e,_⟩:=h hn;exact⟨b,off,e⟩
theorem Fe{w w':World}{b off n:Nat}{f:Nat->O}{i:Nat}(h:Objs w (some ⟨b,off,none⟩) n f)(hb:Below w.heap.size w w')(hi:i<n):
  w'.cell? ⟨b,off+i * 4,none⟩=some (.int .i64 (f i).k)/\w'.cell? ⟨b,off+i * 4+1,none⟩=some (.int .i64 (f i).n)/\w'.cell? ⟨b,off+i * 4+2,none⟩=some (.int .i64 (f i).a)/\w'.cell? ⟨b,off+i * 4+3,none⟩=some (.int .i64 (f i).b):=by
 obtain⟨b',off',e,_,hc⟩:=h.below hb (by omega);injection e with e;injection e with e1 e2;subst e1 e2;exact hc i hi
theorem j8{o:Oper}{a:Act}{w w0:World}{n:Nat}{f:Nat->O}(y:Operand)(ho:o.op=.load 43 y)(b off i:Nat)(hA:Objs w0 (some ⟨b,off,none⟩) n f)(hb:Below w0.heap.size w0 w)(hi:i<n)(hx:a.eval y=.pointer (some ⟨b,off+i * 4,none⟩)):(execOp a.eval o).run Tryz.prog w=.ok (.value (ov (f i))) w:=by
 obtain⟨h0,h1,h2,h3⟩:=Fe hA hb hi
 have hl:(loadCells ⟨b,off+i * 4,none⟩ 4).run Tryz.prog w=.ok #[.int .i64 (f i).k,.int .i64 (f i).n,.int .i64 (f i).a,.int .i64 (f i).b] w:=by
  have:=run_loadCells_list (P:=Tryz.prog) w ⟨b,off+i * 4,none⟩ [.int .i64 (f i).k,.int .i64 (f i).n,.int .i64 (f i).a,.int .i64 (f i).b] (λj v hv=>by
   rw[bX]
   match j,hv with
   | 0,hv=>simp at hv;rw[<-hv];exact h0
   | 1,hv=>simp at hv;rw[<-hv];exact h1
   | 2,hv=>simp at hv;rw[<-hv];exact h2
   | 3,hv=>simp at hv;rw[<-hv];exact h3
   | j+4,hv=>simp at hv)
  exact this
 have e1:=Tryz.isAgg43;have e2:=Tryz.sizeOf43;unfold execOp;simp only[ho,hx,Instr.loadAt,Instr.sureAddr,Sem.run_bind,Sem.run_pure,Result.andThen_ok];unfold loadVar;simp only[Sem.run_bind,e1,e2,Result.andThen_ok,if_true,hl,Sem.run_pure];rfl
def bsP(f:Nat->O)(t:Int):Nat->Nat
 | 0=>16
 | k+1=>bsP f t k+szP (f k) t
theorem uw(f:Nat->O)(t:Int):∀k,bsP f t k<=16+60 * k
 | 0=>by simp[bsP]
 | k+1=>by have:=uw f t k;have:=vi (f k) t;simp only[bsP];omega
def pU(n:Nat)(i:Int):Nat:=min i.toNat n
section
variable {ops:Array Oper} {Q:Exit->Act->World->Prop}
end
section
variable {ops:Array Oper} {Q:Exit->Act->World->Prop}
end
theorem sD(A:Option Addr)(n cn:Nat)(hcn:n<=cn)(f:Nat->O)(hn:n<=4000)(t i:Int)(w:World)(hA:Objs w A n f)(h:NmW w):
  Calls Tryz.prog 9 #[.slice A n cn,.int .i64 t,.int .i64 i] w λe w'=>e=.returned (.int .i64 (bsP f t (pU n i)))/\Below w.heap.size w w':=by
 obtain⟨m,hm⟩:∃m,Hid (pU n i=m):=⟨_,rfl⟩
 have hmn:m<=n:=by have:=hm.out;unfold pU at this;omega
 rw[hm.out];go_enter Tryz.func9,Tryz.ntmps9;go_upto_region 2 with(fail);go_cut [16,17,18] (λs16 s17 s18 wx=>s16=.slice A m cn/\s17=.int .i64 m/\s18=.int .i64 0/\wx=w)
 case first=>
  have hm':=hm.out;unfold pU at hm'
  by_cases h1:i<0
  ·obtain rfl:m=0:=by omega
   clear hm' hm
   have l0:(0:Int)<=cn:=by omega
   have l1:¬(n:Int)<i:=by omega
   have e1:min i (n:Int)=i:=by omega
   have e2:max i 0=0:=by omega
   go_wp2_with (fail);go_meet;exact⟨rfl,rfl,rfl,rfl⟩
  ·obtain⟨j,rfl⟩:∃j:Nat,i=j:=⟨i.toNat,by omega⟩
   by_cases h2:j<=n
   ·obtain rfl:m=j:=by omega
    clear hm' hm h1
    have l0:(m:Int)<=cn:=by omega
    have l1:(0:Int)<=m:=by omega
    have e1:min (m:Int) (n:Int)=m:=by omega
    have e2:max (m:Int) 0=m:=by omega
    go_wp2_with (fail);go_meet;exact⟨rfl,rfl,rfl,rfl⟩
   ·obtain rfl:m=n:=by omega
    clear hm' hm h1
    have l0:(m:Int)<=cn:=by omega
    have l1:(0:Int)<=m:=by omega
    have e1:min (j:Int) (m:Int)=m:=by omega
    have e2:max (m:Int) 0=m:=by omega
    go_wp2_with (fail);go_meet;exact⟨rfl,rfl,rfl,rfl⟩
 case rest=>
  obtain⟨rfl,rfl,rfl,hwx⟩:=hcut;obtain⟨w0,hw0⟩:∃x,x=wc:=⟨_,rfl⟩;subst hw0;subst hwx;go_upto_region 3 with(fail);go_loopw [7,18] (λs k wr=>∃k':Nat,k'<=m/\k=.int .i64 k'/\s=.int .i64 (bsP f t k')/\Below w0.heap.size w0 wr) (λ_ k _=>m - (intOf k).toNat)
  case atStart=>exact⟨0,by omega,rfl,rfl,ak _ _⟩
  case round=>
   obtain⟨k,hk,rfl,rfl,hb⟩:=hrel
   by_cases hlt:k<m
   ·have hl:(k:Int)<m:=by omega
    have hl0:(0:Int)<=k:=by omega
    have hln:(k:Int)<n:=by omega
    have hkn:k<n:=by omega
    obtain⟨b,off,rfl⟩:=lp hA (by omega);have hs1:=uw f t k;have hs2:=vi (f k) t;go_upto_region 4 with(fail);refine ab ?_;refine aG rfl (.pointer (some ⟨b,off+k * 4,none⟩)) ?_ ?_
    ·go_simp
    refine Zk ?_;refine Zu (ov (f k)) (j8 (.tmp 20) rfl b off k hA hb hkn rfl) ?_;refine Za 43 #[.int .i64 0,.int .i64 0,.int .i64 0,.int .i64 0] (λw4 b9 X4 l4 f4=>?_);refine Zo 43 b9 #[.int .i64 (f k).k,.int .i64 (f k).n,.int .i64 (f k).a,.int .i64 (f k).b] X4 (λw5 g1 g2 g3 f5=>?_);have hb5:Below w0.heap.size w0 w5:=(hb.trans (l4.mono hb.size)).trans (g3 _ (by simp only[Hid]at f4;have:=hb.size;omega));clear X4 l4 f4 g2 g3 f5;go_upto_region 5 with(fail);refine ab ?_;refine aG rfl (.int .i64 (bsP f t k)) ?_ ?_
    ·go_simp
    refine Zk ?_
    have hlo:∀(a:Act)(o:Oper),o.op=.load 43 (.tmp 9)->a.eval (.tmp 9)=.pointer (some ⟨b9,0,none⟩)->(execOp a.eval o).run Tryz.prog w5=.ok (.value (ov (f k))) w5:=λa o ho hx=>by
     unfold execOp;simp only[ho,hx,Instr.loadAt,Instr.sureAddr,Sem.run_bind,Sem.run_pure,Result.andThen_ok,run_loadVar_row w5 b9 43 43 _ _ _ g1 Tryz.underlying43 rfl (by kernel_rfl)];rfl
    refine Zu (ov (f k)) (hlo _ _ rfl rfl) ?_;refine aG rfl (.int .i64 t) ?_ ?_
    ·go_simp
    refine Zk ?_;refine Zc 18 #[ov (f k),.int .i64 t] (.int .i64 (szP (f k) t)) (C6 (f k) t w5 (h.below hb5)) (λw6 hb6=>?_);replace hb5:=hb5.trans (hb6.mono hb5.size);clear hlo g1 hb6;refine aG rfl (.int .i64 (bsP f t (k+1))) ?_ ?_
    ·go_simp;try (simp only[bsP,IntKind.wrap_i64];omega)
    refine Zk ?_;refine aG rfl (.int .i64 (bsP f t (k+1))) ?_ ?_
    ·go_simp
    refine Zk ?_;go_wp2;go_roundw
    case rel=>exact⟨k+1,by omega,by go_num,rfl,hb5⟩
    case measure=>simp[intOf];omega
   ·have hl:¬(k:Int)<m:=by omega
    have hkm:k=m:=by omega
    subst hkm;go_wp2;go_ret;exact⟨rfl,hb⟩
def kdN(n:Int):Nat:=if 1<=n/\n<=15 then n.toNat else 0
def gx:Nat->List Nat
 | 0=>[]
 | 1=>[1,2]
 | 2=>[1,2]
 | 3=>[1,2]
 | 4=>[1,2]
 | 5=>[1,2]
 | 6=>[1,2]
 | 7=>[1,2]
 | 8=>[1,2]
 | 9=>[1,2,3,4]
 | 10=>[1,2]
 | 11=>[1,2]
 | 12=>[5,6,7,8]
 | 13=>[9]
 | 14=>[1,2,3]
 | 15=>[9,10]
 | _=>[]
theorem vb(n:Int):kdN n<16:=by unfold kdN;split<;>omega
def Ints(w:World)(V:Option Addr)(n:Nat)(l:List Nat):Prop:=
 0<n->∃b off,V=some ⟨b,off,none⟩/\b<w.heap.size/\∀i,i<n->w.cell? ⟨b,off+i,none⟩=some (.int .i64 (l.getD i 0))
theorem Ints.below{w w':World}{V:Option Addr}{n:Nat}{l:List Nat}(h:Ints w V n l)(hb:Below w.heap.size w w'):Ints w' V n l:=λhn=>by
 obtain⟨b,off,e,hlt,hc⟩:=h hn;exact⟨b,off,e,aA hlt hb.size,λi hi=>(hb.cell (p:=⟨b,off+i,none⟩) hlt).trans (hc i hi)⟩
theorem fe{w:World}{b:Nat}{t:TypeId}{cs:Array Value}(l:List Nat)(h:w.heap[b]? = some (.cells cs t (0,0)))(hcs:cs=(l.map λx:Nat=>Value.int .i64 (x:Int)).toArray):Ints w (some ⟨b,0,none⟩) l.length l:=λ_=>⟨b,0,rfl,aB h,λi hi=>by
 rw[ae w b _ cs t _ h,hcs,Nat.zero_add];simp[hi]⟩
theorem tx(n:Int)(w:World)(h:NmW w):Calls Tryz.prog 66 #[.int .i64 n] w λe w'=>∃V c,e=.returned (.slice V (gx (kdN n)).length c)/\Ints w' V (gx (kdN n)).length (gx (kdN n))/\Below w.heap.size w w':=by
 obtain⟨L,hL⟩:∃L,Hid (gx (kdN n)=L):=⟨_,rfl⟩;rw[hL.out]
 by_cases e9:n=9
 ·subst e9
  obtain rfl:L=[1,2,3,4]:=hL.out.symm;go_enter Tryz.func66,Tryz.ntmps66;go_wp2;go_ret
  first|exact⟨_,_,rfl,fe [1,2,3,4] (heap_alloc_new w _) rfl,(ak _ _).alloc (ah _) _⟩|exact⟨_,⟨_,rfl⟩,fe [1,2,3,4] (heap_alloc_new w _) rfl,(ak _ _).alloc (ah _) _⟩
 by_cases e12:n=12
 ·subst e12
  obtain rfl:L=[5,6,7,8]:=hL.out.symm;go_enter Tryz.func66,Tryz.ntmps66;go_wp2;go_ret
  first|exact⟨_,_,rfl,fe [5,6,7,8] (heap_alloc_new w _) rfl,(ak _ _).alloc (ah _) _⟩|exact⟨_,⟨_,rfl⟩,fe [5,6,7,8] (heap_alloc_new w _) rfl,(ak _ _).alloc (ah _) _⟩
 by_cases e13:n=13
 ·subst e13
  obtain rfl:L=[9]:=hL.out.symm;go_enter Tryz.func66,Tryz.ntmps66;go_wp2;go_ret
  first|exact⟨_,_,rfl,fe [9] (heap_alloc_new w _) rfl,(ak _ _).alloc (ah _) _⟩|exact⟨_,⟨_,rfl⟩,fe [9] (heap_alloc_new w _) rfl,(ak _ _).alloc (ah _) _⟩
 by_cases e14:n=14
 ·subst e14
  obtain rfl:L=[1,2,3]:=hL.out.symm;go_enter Tryz.func66,Tryz.ntmps66;go_wp2;go_ret
  first|exact⟨_,_,rfl,fe [1,2,3] (heap_alloc_new w _) rfl,(ak _ _).alloc (ah _) _⟩|exact⟨_,⟨_,rfl⟩,fe [1,2,3] (heap_alloc_new w _) rfl,(ak _ _).alloc (ah _) _⟩
 by_cases e15:n=15
 ·subst e15
  obtain rfl:L=[9,10]:=hL.out.symm;go_enter Tryz.func66,Tryz.ntmps66;go_wp2;go_ret
  first|exact⟨_,_,rfl,fe [9,10] (heap_alloc_new w _) rfl,(ak _ _).alloc (ah _) _⟩|exact⟨_,⟨_,rfl⟩,fe [9,10] (heap_alloc_new w _) rfl,(ak _ _).alloc (ah _) _⟩
 have q9:(n == 9)=false:=by simp[e9]
 have q12:(n == 12)=false:=by simp[e12]
 have q13:(n == 13)=false:=by simp[e13]
 have q14:(n == 14)=false:=by simp[e14]
 have q15:(n == 15)=false:=by simp[e15]
 by_cases hk:1<=n/\n<=15
 ·obtain rfl:L=[1,2]:=hL.out.symm.trans (by
   unfold kdN;rw[ag hk];obtain⟨j,rfl⟩:∃j:Nat,n=j:=⟨n.toNat,by omega⟩
   have:j=1\/j=2\/j=3\/j=4\/j=5\/j=6\/j=7\/j=8\/j=10\/j=11:=by omega
   rcases this with rfl|rfl|rfl|rfl|rfl|rfl|rfl|rfl|rfl|rfl<;>rfl)
  have hne:(p7 n).toList.isEmpty=false:=DS hk;clear e9 e12 e13 e14 e15;go_enter Tryz.func66,Tryz.ntmps66;go_wp2_with fail;refine(kx n _ h).mono ?_;rintro e w1 ⟨rfl,hw1⟩;subst hw1;go_wp2;go_ret
  first|exact⟨_,_,rfl,fe [1,2] (heap_alloc_new w1 _) rfl,(ak _ _).alloc (ah _) _⟩|exact⟨_,⟨_,rfl⟩,fe [1,2] (heap_alloc_new w1 _) rfl,(ak _ _).alloc (ah _) _⟩
 ·obtain rfl:L=[]:=hL.out.symm.trans (by unfold kdN;rw[af hk];rfl)
  have hne:(p7 n).toList.isEmpty=true:=DW hk;clear e9 e12 e13 e14 e15;go_enter Tryz.func66,Tryz.ntmps66;go_wp2_with fail;refine(kx n _ h).mono ?_;rintro e w1 ⟨rfl,hw1⟩;subst hw1;go_wp2;go_ret
  first|exact⟨_,_,rfl,λh0=>absurd h0 (by simp),ak _ _⟩|exact⟨_,⟨_,rfl⟩,λh0=>absurd h0 (by simp),ak _ _⟩
def IntsF(w:World)(A:Option Addr)(n:Nat)(f:Nat->Int):Prop:=
 0<n->∃b off,A=some ⟨b,off,none⟩/\b<w.heap.size/\∀i,i<n->w.cell? ⟨b,off+i,none⟩=some (.int .i64 (f i))
theorem IntsF.below{w w':World}{A:Option Addr}{n:Nat}{f:Nat->Int}(h:IntsF w A n f)(hb:Below w.heap.size w w'):IntsF w' A n f:=λhn=>by
 obtain⟨b,off,e,hlt,hc⟩:=h hn;exact⟨b,off,e,aA hlt hb.size,λi hi=>(hb.cell (p:=⟨b,off+i,none⟩) hlt).trans (hc i hi)⟩
theorem Bn{w:World}{A:Option Addr}{n:Nat}{f:Nat->Int}(h:IntsF w A n f)(hn:0<n):∃b off,A=some ⟨b,off,none⟩:=by
 obtain⟨b,off,e,_⟩:=h hn;exact⟨b,off,e⟩
theorem Ex{w:World}{b off n:Nat}{f:Nat->Int}{i:Nat}(h:IntsF w (some ⟨b,off,none⟩) n f)(hi:i<n):w.cell? ⟨b,off+i,none⟩=some (.int .i64 (f i)):=by
 obtain⟨b',off',e,hlt,hc⟩:=h (by omega);cases e;exact hc i hi
def may(k c:Int):Bool:=(gx (kdN k)).any λj=>(j:Int) == c
def gF(L:List Nat)(i:Nat):Int:=((L.getD i 0:Nat):Int)
theorem vJ{w:World}{V:Option Addr}{n:Nat}{l:List Nat}(h:Ints w V n l):IntsF w V n (gF l):=h
theorem DN{k c:Int}{i:Nat}(h:i<(gx (kdN k)).length)(e:gF (gx (kdN k)) i=c):may k c=true:=by
 unfold may;rw[List.any_eq_true];refine⟨(gx (kdN k))[i],List.getElem_mem h,?_⟩;unfold gF at e;rw[List.getD_eq_getElem?_getD,aq h,Option.getD_some]at e;simp[e]
theorem DU{k c:Int}(h:∀i,i<(gx (kdN k)).length->gF (gx (kdN k)) i≠c):may k c=false:=by
 unfold may;rw[List.any_eq_false];intro x hx;obtain⟨i,hi,rfl⟩:=List.getElem_of_mem hx;have:=h i hi;unfold gF at this;rw[List.getD_eq_getElem?_getD,aq hi,Option.getD_some]at this
 simpa using this
theorem qD:∀k,k<16->(gx k).length<=4:=by decide +kernel
def a8(o:O)(call threads who:Int):Bool:=if 0<=who/\who<threads/\rb o threads=true then may o.k call else false
theorem i4(o:O)(call threads who:Int)(w:World)(hN:NmW w):Calls Tryz.prog 38 #[ov o,.int .i64 call,.int .i64 threads,.int .i64 who] w λe w'=>e=.returned (.bool (a8 o call threads who))/\Below w.heap.size w w':=by
 obtain⟨ok,on,oa,ob⟩:=o
 by_cases h0:who<0
 ·rw[show a8 ⟨ok,on,oa,ob⟩ call threads who=false from af (by omega)]
  unfold ov;have hal:=(ak w.heap.size w).alloc (ah _) (.cells #[.int .i64 ok,.int .i64 on,.int .i64 oa,.int .i64 ob] 43);go_enter Tryz.func38,Tryz.ntmps38;go_wp2;go_ret;exact⟨rfl,hal⟩
 by_cases h1:threads<=who
 ·rw[show a8 ⟨ok,on,oa,ob⟩ call threads who=false from af (by omega)]
  unfold ov;have hal:=(ak w.heap.size w).alloc (ah _) (.cells #[.int .i64 ok,.int .i64 on,.int .i64 oa,.int .i64 ob] 43);go_enter Tryz.func38,Tryz.ntmps38;go_wp2;go_ret;exact⟨rfl,hal⟩
 obtain⟨B,hB⟩:∃B,Hid (a8 ⟨ok,on,oa,ob⟩ call threads who=B):=⟨_,rfl⟩;rw[hB.out]
 have hB:Hid (B=if rb ⟨ok,on,oa,ob⟩ threads=true then may ok call else false):=by
  show B=_;rw[<-hB.out];unfold a8
  by_cases hr:rb ⟨ok,on,oa,ob⟩ threads=true
  ·rw[ag ⟨by omega,by omega,hr⟩,ag hr]
  ·rw[af (λh=>hr h.2.2),af hr]
 have hR:=λw' (hh:Below w.heap.size w w')=>jn ⟨ok,on,oa,ob⟩ threads w' (hN.below hh);have hmt:=λj hj hb=>DN (k:=ok) (c:=call) (i:=j) hj hb;have hmf:=DU (k:=ok) (c:=call);have hle:=qD (kdN ok) (vb _);generalize may ok call=q at *;generalize rb ⟨ok,on,oa,ob⟩ threads=rbv at *;unfold ov at *;go_enter Tryz.func38,Tryz.ntmps38;go_upto_region 1 with(fail);obtain⟨W,b1,e0,e1,X1,hal⟩:=aO w #[.int .i64 ok,.int .i64 on,.int .i64 oa,.int .i64 ob] 43;rw[e0,e1];clear e0 e1;obtain⟨y0,y1,y2,y3⟩:=cl4 X1;go_wp2_with fail;refine(hR W hal).mono ?_;rintro e w1 ⟨rfl,hb1⟩;clear y0 y1 y2 y3 hR;replace X1:=keep X1 hb1;replace hal:=hal.trans (hb1.mono hal.size);have y0:=ae w1 b1 0 _ 43 _ X1;cases rbv
 ·obtain rfl:B=false:=hB.out
  clear hmt hmf hB;go_wp2;go_ret;exact⟨rfl,hal⟩
 obtain rfl:B=q:=hB.out;clear hB;go_wp2_with fail;refine(tx ok w1 (hN.below hal)).mono ?_;rintro e w6 ⟨Vp,cp,rfl,hI,hb6⟩;have hal6:=hal.trans (hb6.mono hal.size);replace hI:=vJ hI;generalize gx (kdN ok)=L at *;generalize gF L=gg at *;generalize hm:L.length=m at *;clear y0 hb6 X1 hal;go_upto_region 4 with(fail);go_loopw [28] (λv wr=>∃j:Nat,v=.int .i64 j/\j<=m/\(∀p,p<j->gg p≠call)/\wr=w6) (λv _=>m - (intOf v).toNat)
 case atStart=>exact⟨0,rfl,au _,λp hp=>absurd hp (by omega),rfl⟩
 case round=>
  obtain⟨j,rfl,hj,hno,rfl⟩:=hrel
  by_cases hlt:j<m
  ·have hj0:(0:Int)<=j:=by omega
   have hj1:(j:Int)<m:=by omega
   obtain⟨bV,oV,rfl,hV,hcV⟩:=hI (by omega);have c:=hcV j hlt
   by_cases he:gg j=call
   ·obtain rfl:B=true:=hmt j hlt he
    have qe:(gg j == call)=true:=by simp[he]
    clear hmt hmf hI hcV hno he;go_wp2;go_ret;exact⟨rfl,hal6⟩
   ·have qe:(gg j == call)=false:=by simp[he]
    have hno':∀p,p<j+1->gg p≠call:=λp hp=>by
     rcases Nat.lt_succ_iff_lt_or_eq.1 hp with h|rfl
     ·exact hno p h
     ·exact he
    clear hmt hmf he hno;go_wp2;go_roundw
    case rel=>exact⟨j+1,by go_num,by omega,show(∀p,p<j+1->gg p≠call) from hno',by first|rfl|trivial⟩
    case measure=>simp[intOf];omega
  ·obtain rfl:j=m:=by omega
   obtain rfl:B=false:=hmf hno;clear hmt hmf hno
   have hj1:¬(j:Int)<j:=by omega
   go_wp2;go_ret;exact⟨rfl,hal6⟩
open Go.Maps
section
attribute [local simp] fL ft fN cH iI cU fP
abbrev dv:ByteArray:=⟨#[115,112,105,110]⟩
abbrev nz:ByteArray:=⟨#[102,114,101,101]⟩
abbrev jB:ByteArray:=⟨#[101,110,100]⟩
abbrev ns:ByteArray:=⟨#[109,105,110,101]⟩
abbrev fq:ByteArray:=⟨#[103,111,116]⟩
abbrev bG:ByteArray:=⟨#[97,103,97,105,110]⟩
abbrev jU:ByteArray:=⟨#[119,97,105,116]⟩
abbrev fx:ByteArray:=⟨#[100,111,110,101]⟩
abbrev mr:ByteArray:=⟨#[108,111,111,107]⟩
abbrev rF:ByteArray:=⟨#[112,97,115,115]⟩
abbrev AH:ByteArray:=⟨#[115,108,111,119]⟩
abbrev DZ:ByteArray:=⟨#[116,114,121]⟩
abbrev zr:ByteArray:=⟨#[111,118,101,114]⟩
abbrev wR:ByteArray:=⟨#[121,111,117,114,115]⟩
abbrev mL:ByteArray:=⟨#[114,101,97,100,101,114]⟩
abbrev oJ:ByteArray:=⟨#[115,108,101,101,112]⟩
abbrev sC:ByteArray:=⟨#[119,97,107,101]⟩
def cE(st:BS)(addr:Int):BS:=((st.set 4 0).ask 17 4 addr)
@[simp] theorem dW(st:BS)(addr:Int):(cE st addr).sz=st.sz+2:=by
 unfold cE;simp
theorem gL{b:Nat}{F:Nat->Prop}{st:BS}{addr:Int}{w:World}(hB:BMem w b F st)(hs:st.sz<=3900:=by first|omega|(simp<;>omega)):Calls Tryz.prog 123 #[.pointer (some ⟨b,0,none⟩),.int .u32 addr] w λe w'=>e=.returned (.tuple #[])/\∃F',BMem w' b F' (cE st addr)/\Upd F F' w w':=by
 go_enter Tryz.func123,Tryz.ntmps123;have hU:=Upd.refl F w;go_wp2_with fail;refine(Zx hU (bF hB)).mono ?_;rintro e w' ⟨rfl,F',hB,hU⟩;go_wp2_with fail;refine(Zx hU (bi hB)).mono ?_;rintro e w' ⟨rfl,F',hB,hU⟩;go_wp2;go_end0;exact⟨rfl,_,hB,hU⟩
def nV(st:BS)(own t:Int):BS:=(((st.ask 16 4 own).set 5 ((t+1)%4294967296)).alu 12 6 4 5)
@[simp] theorem dX(st:BS)(own t:Int):(nV st own t).sz=st.sz+3:=by
 unfold nV;simp
theorem DY{b:Nat}{F:Nat->Prop}{st:BS}{own t:Int}{w:World}(hB:BMem w b F st)(hs:st.sz<=3900:=by first|omega|(simp<;>omega)):Calls Tryz.prog 172 #[.pointer (some ⟨b,0,none⟩),.int .u32 own,.int .i64 t] w λe w'=>e=.returned (.tuple #[])/\∃F',BMem w' b F' (nV st own t)/\Upd F F' w w':=by
 go_enter Tryz.func172,Tryz.ntmps172;have hU:=Upd.refl F w;go_wp2_with fail;refine(Zx hU (bi hB)).mono ?_;rintro e w' ⟨rfl,F',hB,hU⟩;go_wp2_with fail;refine(Zx hU (bF hB)).mono ?_;rintro e w' ⟨rfl,F',hB,hU⟩;go_wp2_with fail;refine(Zx hU (jT hB)).mono ?_;rintro e w' ⟨rfl,F',hB,hU⟩;go_wp2;go_end0;exact⟨rfl,_,hB,hU⟩
def aW(st:BS)(own t:Int):BS:=(((((nV st own t).go 14 6 nz).set 7 1).go 13 0 jB).place nz)
@[simp] theorem df(st:BS)(own t:Int):(aW st own t).sz=st.sz+9:=by
 unfold aW;simp
theorem gX{b:Nat}{F:Nat->Prop}{st:BS}{own t:Int}{w:World}(hB:BMem w b F st)(hs:st.sz<=3800:=by first|omega|(simp<;>omega)):Calls Tryz.prog 117 #[.pointer (some ⟨b,0,none⟩),.int .u32 own,.int .i64 t] w λe w'=>e=.returned (.tuple #[])/\∃F',BMem w' b F' (aW st own t)/\Upd F F' w w':=by
 go_enter Tryz.func117,Tryz.ntmps117;have hU:=Upd.refl F w;go_wp2_with fail;refine(Zx hU (DY hB)).mono ?_;rintro e w' ⟨rfl,F',hB,hU⟩;go_wp2_with fail;refine(Zx hU (goC hB)).mono ?_;rintro e w' ⟨rfl,F',hB,hU⟩;go_wp2_with fail;refine(Zx hU (bF hB)).mono ?_;rintro e w' ⟨rfl,F',hB,hU⟩;go_wp2_with fail;refine(Zx hU (goC hB)).mono ?_;rintro e w' ⟨rfl,F',hB,hU⟩;go_wp2_with fail
 refine(Zx hU (aY hB wE (by decide) (by first|omega|(simp<;>omega)))).mono ?_
 rintro e w' ⟨rfl,F',hB,hU⟩;go_wp2;go_end0;exact⟨rfl,_,hB,hU⟩
def aS(st:BS)(own t:Int):BS:=(((((nV st own t).go 15 6 ns).set 7 2).go 13 0 jB).place ns)
@[simp] theorem dh(st:BS)(own t:Int):(aS st own t).sz=st.sz+9:=by
 unfold aS;simp
theorem gw{b:Nat}{F:Nat->Prop}{st:BS}{own t:Int}{w:World}(hB:BMem w b F st)(hs:st.sz<=3800:=by first|omega|(simp<;>omega)):Calls Tryz.prog 121 #[.pointer (some ⟨b,0,none⟩),.int .u32 own,.int .i64 t] w λe w'=>e=.returned (.tuple #[])/\∃F',BMem w' b F' (aS st own t)/\Upd F F' w w':=by
 go_enter Tryz.func121,Tryz.ntmps121;have hU:=Upd.refl F w;go_wp2_with fail;refine(Zx hU (DY hB)).mono ?_;rintro e w' ⟨rfl,F',hB,hU⟩;go_wp2_with fail;refine(Zx hU (goC hB)).mono ?_;rintro e w' ⟨rfl,F',hB,hU⟩;go_wp2_with fail;refine(Zx hU (bF hB)).mono ?_;rintro e w' ⟨rfl,F',hB,hU⟩;go_wp2_with fail;refine(Zx hU (goC hB)).mono ?_;rintro e w' ⟨rfl,F',hB,hU⟩;go_wp2_with fail
 refine(Zx hU (aY hB wC (by decide) (by first|omega|(simp<;>omega)))).mono ?_
 rintro e w' ⟨rfl,F',hB,hU⟩;go_wp2;go_end0;exact⟨rfl,_,hB,hU⟩
def aI(st:BS):BS:=((st.set 7 0).place jB)
@[simp] theorem dj(st:BS):(aI st).sz=st.sz+2:=by
 unfold aI;simp
theorem be{b:Nat}{F:Nat->Prop}{st:BS} {w:World}(hB:BMem w b F st)(hs:st.sz<=3900:=by first|omega|(simp<;>omega)):Calls Tryz.prog 124 #[.pointer (some ⟨b,0,none⟩)] w λe w'=>e=.returned (.tuple #[])/\∃F',BMem w' b F' (aI st)/\Upd F F' w w':=by
 go_enter Tryz.func124,Tryz.ntmps124;have hU:=Upd.refl F w;go_wp2_with fail;refine(Zx hU (bF hB)).mono ?_;rintro e w' ⟨rfl,F',hB,hU⟩;go_wp2_with fail
 refine(Zx hU (aY hB uL (by decide) (by first|omega|(simp<;>omega)))).mono ?_
 rintro e w' ⟨rfl,F',hB,hU⟩;go_wp2;go_end0;exact⟨rfl,_,hB,hU⟩
def rV(st:BS)(base:Int):BS:=((((st.place dv).set 4 0).cas 4 5 base).go 15 4 dv)
@[simp] theorem fE(st:BS)(base:Int):(rV st base).sz=st.sz+5:=by
 unfold rV;simp
theorem tasC{b:Nat}{F:Nat->Prop}{st:BS}{base:Int}{w:World}(hB:BMem w b F st)(hs:st.sz<=3800:=by first|omega|(simp<;>omega)):Calls Tryz.prog 118 #[.pointer (some ⟨b,0,none⟩),.int .u32 base] w λe w'=>e=.returned (.tuple #[])/\∃F',BMem w' b F' (rV st base)/\Upd F F' w w':=by
 go_enter Tryz.func118,Tryz.ntmps118;have hU:=Upd.refl F w;go_wp2_with fail
 refine(Zx hU (aY hB jH (by decide) (by first|omega|(simp<;>omega)))).mono ?_
 rintro e w' ⟨rfl,F',hB,hU⟩;go_wp2_with fail;refine(Zx hU (bF hB)).mono ?_;rintro e w' ⟨rfl,F',hB,hU⟩;go_wp2_with fail;refine(Zx hU (qd hB)).mono ?_;rintro e w' ⟨rfl,F',hB,hU⟩;go_wp2_with fail;refine(Zx hU (goC hB)).mono ?_;rintro e w' ⟨rfl,F',hB,hU⟩;go_wp2;go_end0;exact⟨rfl,_,hB,hU⟩
def mJ(st:BS)(base:Int):BS:=(((((st.place dv).ask 16 4 base).go 15 4 dv).cas 4 5 base).go 15 4 dv)
@[simp] theorem ee(st:BS)(base:Int):(mJ st base).sz=st.sz+7:=by
 unfold mJ;simp
theorem Gq{b:Nat}{F:Nat->Prop}{st:BS}{base:Int}{w:World}(hB:BMem w b F st)(hs:st.sz<=3800:=by first|omega|(simp<;>omega)):Calls Tryz.prog 119 #[.pointer (some ⟨b,0,none⟩),.int .u32 base] w λe w'=>e=.returned (.tuple #[])/\∃F',BMem w' b F' (mJ st base)/\Upd F F' w w':=by
 go_enter Tryz.func119,Tryz.ntmps119;have hU:=Upd.refl F w;go_wp2_with fail
 refine(Zx hU (aY hB jH (by decide) (by first|omega|(simp<;>omega)))).mono ?_
 rintro e w' ⟨rfl,F',hB,hU⟩;go_wp2_with fail;refine(Zx hU (bi hB)).mono ?_;rintro e w' ⟨rfl,F',hB,hU⟩;go_wp2_with fail;refine(Zx hU (goC hB)).mono ?_;rintro e w' ⟨rfl,F',hB,hU⟩;go_wp2_with fail;refine(Zx hU (qd hB)).mono ?_;rintro e w' ⟨rfl,F',hB,hU⟩;go_wp2_with fail;refine(Zx hU (goC hB)).mono ?_;rintro e w' ⟨rfl,F',hB,hU⟩;go_wp2;go_end0;exact⟨rfl,_,hB,hU⟩
def iK(st:BS)(base:Int):BS:=(((((((st.set 4 1).ask 20 4 (base%4294967296)).place dv).ask 16 6 ((base+1)%4294967296)).alu 12 6 6 4).go 14 6 dv).ask 17 5 ((base+2)%4294967296))
@[simp] theorem cj(st:BS)(base:Int):(iK st base).sz=st.sz+8:=by
 unfold iK;simp
theorem B7{b:Nat}{F:Nat->Prop}{st:BS}{base:Int}{w:World}(hB:BMem w b F st)(hs:st.sz<=3800:=by first|omega|(simp<;>omega)):Calls Tryz.prog 120 #[.pointer (some ⟨b,0,none⟩),.int .u32 base] w λe w'=>e=.returned (.tuple #[])/\∃F',BMem w' b F' (iK st base)/\Upd F F' w w':=by
 go_enter Tryz.func120,Tryz.ntmps120;have hU:=Upd.refl F w;go_wp2_with fail;refine(Zx hU (bF hB)).mono ?_;rintro e w' ⟨rfl,F',hB,hU⟩;go_wp2_with fail;refine(Zx hU (bi hB)).mono ?_;rintro e w' ⟨rfl,F',hB,hU⟩;go_wp2_with fail
 refine(Zx hU (aY hB jH (by decide) (by first|omega|(simp<;>omega)))).mono ?_
 rintro e w' ⟨rfl,F',hB,hU⟩;go_wp2_with fail;refine(Zx hU (bi hB)).mono ?_;rintro e w' ⟨rfl,F',hB,hU⟩;go_wp2_with fail;refine(Zx hU (jT hB)).mono ?_;rintro e w' ⟨rfl,F',hB,hU⟩;go_wp2_with fail;refine(Zx hU (goC hB)).mono ?_;rintro e w' ⟨rfl,F',hB,hU⟩;go_wp2_with fail;refine(Zx hU (bi hB)).mono ?_;rintro e w' ⟨rfl,F',hB,hU⟩;go_wp2;go_end0;exact⟨rfl,_,hB,hU⟩
def mE(st:BS)(base:Int):BS:=(((((cE st ((base+2)%4294967296)).ask 16 4 ((base+1)%4294967296)).set 6 1).alu 3 4 4 6).ask 17 4 ((base+1)%4294967296))
@[simp] theorem eh(st:BS)(base:Int):(mE st base).sz=st.sz+6:=by
 unfold mE;simp
theorem GR{b:Nat}{F:Nat->Prop}{st:BS}{base:Int}{w:World}(hB:BMem w b F st)(hs:st.sz<=3800:=by first|omega|(simp<;>omega)):Calls Tryz.prog 122 #[.pointer (some ⟨b,0,none⟩),.int .u32 base] w λe w'=>e=.returned (.tuple #[])/\∃F',BMem w' b F' (mE st base)/\Upd F F' w w':=by
 go_enter Tryz.func122,Tryz.ntmps122;have hU:=Upd.refl F w;go_wp2_with fail;refine(Zx hU (gL hB)).mono ?_;rintro e w' ⟨rfl,F',hB,hU⟩;go_wp2_with fail;refine(Zx hU (bi hB)).mono ?_;rintro e w' ⟨rfl,F',hB,hU⟩;go_wp2_with fail;refine(Zx hU (bF hB)).mono ?_;rintro e w' ⟨rfl,F',hB,hU⟩;go_wp2_with fail;refine(Zx hU (jT hB)).mono ?_;rintro e w' ⟨rfl,F',hB,hU⟩;go_wp2_with fail;refine(Zx hU (bi hB)).mono ?_;rintro e w' ⟨rfl,F',hB,hU⟩;go_wp2;go_end0;exact⟨rfl,_,hB,hU⟩
end
end Go.Proofs.YtldlcnaphednnaaGreatDoor
