/- All threads' calls, in the order of their beginnings: function 7. -/
import Derived.Test.YtldlcnaphednnaaGreatDoorM36
import Derived.Test.YtldlcnaphednnaaGreatDoorM28
set_option maxRecDepth 100000
set_option maxHeartbeats 32000000
set_option linter.unusedVariables false
set_option linter.unusedSimpArgs false
namespace Go.Proofs.YtldlcnaphednnaaGreatDoor
open Go.RowKit Go.Maps
structure SlV where
 p:Option Addr
 n:Nat
 c:Nat
abbrev SlV.v(x:SlV):Value:=.slice x.p x.n x.c
def eL:Enc SlV:=⟨35,1,λx=>[x.v]⟩
theorem lE:eL.Ok:=⟨λx=>rfl,λx u hu=>by
 simp only[eL,List.mem_cons,List.not_mem_nil,or_false]at hu
 rcases hu with rfl;rfl,by decide⟩
theorem Gh:(Tryz.prog.info? eL.ty).map (λi=>(i.zero.map (·.cells),i.size,i.bytes))=some (some (eL.enc ⟨none,0,0⟩).toArray,eL.sz,24):=by kernel_rfl
def Rd(B:Nat)(w:World)(x:SlV)(L:List CR):Prop:=x.n=L.length/\x.n<=x.c/\x.c<=9223372036854775807/\(0<x.n->∃g off cur,x.p=some ⟨g,off,none⟩/\g<B/\w.heap[g]? = some (.cells cur 41 (0,0))/\RowAt eC w g off L)
theorem Rd.keep{B:Nat}{w w':World}{x:SlV}{L:List CR}(h:Rd B w x L)(hk:∀(g:Nat)(cur:Array Value),g<B->w.heap[g]? = some (.cells cur 41 (0,0))->w'.heap[g]? = w.heap[g]?):Rd B w' x L:=
 ⟨h.1,h.2.1,h.2.2.1,λh0=>by
  obtain⟨g,off,cur,e,hB,hb,hr⟩:=h.2.2.2 h0
  exact⟨g,off,cur,e,hB,(hk g cur hB hb).trans hb,hr.keep (hk g cur hB hb)⟩⟩
theorem Rd.mono{B B':Nat}{w:World}{x:SlV}{L:List CR}(h:Rd B w x L)(hB:B<=B'):Rd B' w x L:=
 ⟨h.1,h.2.1,h.2.2.1,λh0=>by
  obtain⟨g,off,cur,e,h1,h2⟩:=h.2.2.2 h0
  exact⟨g,off,cur,e,by omega,h2⟩⟩
theorem Rd.below{B:Nat}{w w':World}{x:SlV}{L:List CR}(h:Rd B w x L)(hb:Below w.heap.size w w'):Rd B w' x L:=h.keep λg cur _ hg=>hb.block g (aB hg)
theorem Rd.of_own{w:World}{v:Value}{L:List CR}(h:Own eC w v L):∃x:SlV,v=x.v/\Rd w.heap.size w x L:=by
 rcases h.2 with⟨e,h0⟩|⟨g,c,cur,e,_,hb,hc,hm,_⟩
 ·exact⟨⟨none,0,0⟩,e,h0.symm,ah _,by decide,λh=>absurd h (Nat.lt_irrefl 0)⟩
 ·refine⟨⟨some ⟨g,0,none⟩,L.length,c⟩,e,rfl,hc,by simp only[maxLen]at hm;omega,λ_=>⟨g,0,cur,rfl,aB hb,hb,?_⟩⟩
  subst e;exact h.at eC_ok
theorem Rd.tail{B:Nat}{w:World}{x:SlV}{y:CR}{L:List CR}{g off:Nat}(h:Rd B w x (y :: L))(e:x.p=some ⟨g,off,none⟩)(q:Option Addr)(hq:x.c≠1->q=some ⟨g,off+6,none⟩):Rd B w ⟨q,x.n - 1,x.c - 1⟩ L:=by
 obtain⟨h1,h2,h3,h4⟩:=h;simp only[List.length_cons]at h1;obtain⟨g',off',cur,e',hB,hb,hr⟩:=h4 (by omega);rw[e]at e';cases e';refine⟨by simp only;omega,by simp only;omega,by simp only;omega,λh0=>⟨g,off+6,cur,hq (by simp only at h0;omega),hB,hb,λj v hv=>?_⟩⟩
 have:=hr (6+j) v (by
  rw[List.flatMap_cons,List.getElem?_append_right (by rw[eC_ok.len];simp only[eC];omega),eC_ok.len]
  simp only[eC,Nat.add_sub_cancel_left];exact hv)
 rwa [<-Nat.add_assoc]at this
theorem Rd.head{B:Nat}{w:World}{x:SlV}{y:CR}{L:List CR}(h:Rd B w x (y :: L)):∃g off cur,x.p=some ⟨g,off,none⟩/\g<B/\w.heap[g]? = some (.cells cur 41 (0,0))/\w.rangeAt g off (crL y):=by
 obtain⟨g,off,cur,e,hB,hb,hr⟩:=h.2.2.2 (by have:=h.1;simp only[List.length_cons]at this;omega);refine⟨g,off,cur,e,hB,hb,?_⟩;have:=hr.elem eC_ok (i:=0) rfl
 rwa [Nat.zero_mul,Nat.add_zero]at this
def fR(rem:Nat->List CR):Nat->Option Nat
 | 0=>none
 | k+1=>match(rem k).head? with
  | none=>fR rem k
  | some x=>match fR rem k with
   | none=>some k
   | some b=>match(rem b).head? with
    | some y=>if x.beg<y.beg then some k else some b
    | none=>some b
def bI:Option Nat->Int
 | none=>-1
 | some b=>b
theorem ki(rem:Nat->List CR):∀k b,fR rem k=some b->b<k/\∃y l,rem b=y :: l
 | 0,b,h=>by cases h
 | k+1,b,h=>by
  unfold fR at h;have ih:=ki rem k
  cases hr:rem k with
  | nil=>
   rw[hr]at h;obtain⟨h1,h2⟩:=ih b h;exact⟨by omega,h2⟩
  | cons x l=>
   rw[hr]at h;simp only[List.head?_cons]at h
   cases hb:fR rem k with
   | none=>rw[hb]at h;cases h;exact⟨by omega,x,l,hr⟩
   | some c=>
    rw[hb]at h;obtain⟨h1,y,l',h2⟩:=ih c hb;simp only[h2,List.head?_cons]at h
    split at h<;>cases h
    ·exact⟨by omega,x,l,hr⟩
    ·exact⟨by omega,y,l',h2⟩
def tot(rem:Nat->List CR):Nat:=(rem 0).length+(rem 1).length+(rem 2).length+(rem 3).length+(rem 4).length+(rem 5).length+(rem 6).length+(rem 7).length
def ms(rem:Nat->List CR)(b:Nat)(l:List CR):Nat->List CR:=λt=>if t=b then l else rem t
theorem AP{rem:Nat->List CR}{b:Nat}{y:CR}{l:List CR}(hb:b<8)(h:rem b=y :: l):tot rem=tot (ms rem b l)+1:=by
 have:b=0\/b=1\/b=2\/b=3\/b=4\/b=5\/b=6\/b=7:=by omega
 rcases this with rfl|rfl|rfl|rfl|rfl|rfl|rfl|rfl<;>simp[tot,ms,h]<;>omega
def dl:Nat->(Nat->List CR)->List CR
 | 0,_=>[]
 | f+1,rem=>match fR rem 8 with
  | none=>[]
  | some b=>match rem b with
   | []=>[]
   | x :: l=>x :: dl f (ms rem b l)
theorem oc{rem:Nat->List CR}(h:fR rem 8=none):∀f,dl f rem=[]
 | 0=>rfl
 | f+1=>by unfold dl;rw[h]
theorem lA{rem:Nat->List CR}{b:Nat}{y:CR}{l:List CR}(h:fR rem 8=some b)(e:rem b=y :: l)(f:Nat):dl (f+1) rem=y :: dl f (ms rem b l):=by
 rw[dl,h];simp only[e]
def Ds:Value->Nat
 | .slice _ n _=>n
 | _=>0
theorem Cx(t:Int)(E:List Evt)(pre:List (Fin E.length)):(stA t E pre).1.length<=pre.length:=by
 have h1:∀(e:Evt)(i:Nat)(S:List K5×Bool),(stS t i e S).1.length<=S.1.length+1:=λe i S=>by
  unfold stS
  split
  ·split
   ·simp
   ·split
    ·split
     ·simp
     ·omega
    ·omega
  ·omega
 have:∀(l:List (Fin E.length)) (S:List K5×Bool),(l.foldl (λS i=>stS t i.1 E[i.1] S) S).1.length<=S.1.length+l.length:=λl=>by
  induction l with
  | nil=>intro S;simp
  | cons x l ih=>
   intro S;have h2:=ih (stS t x.1 E[x.1] S);have h3:=h1 E[x.1] x.1 S;simp only[List.foldl_cons,List.length_cons];omega
 have:=this pre ([],false)
 simpa[stA] using this
def K7(E:List Evt)(t:Nat):List K5:=(stA t E (fm t E E.length)).1
def I7(E:List Evt)(t:Nat):List (List Int):=iA t E (fm t E E.length)
structure Fr(S r:Nat)(W X:World):Prop where
 out:S<=X.heap.size
 fr:∀k,k<S->k≠r->X.heap[k]? = W.heap[k]?
theorem Fr.below{S r:Nat}{W X Y:World}(h:Fr S r W X)(hb:Below X.heap.size X Y):Fr S r W Y:=⟨ar h.out hb.size,λk hk hr=>(hb.block k (aA hk h.out)).trans (h.fr k hk hr)⟩
theorem Bm(E:List Evt)(t:Nat):(K7 E t).length<=E.length:=ar (Cx _ _ _) (lN _ _ _)
theorem uI(E:List Evt)(hE:E.length<=400000)(hk:∀x∈E,U32 x.k)(g c:Nat){p0:Option Addr}{ty0:TypeId}(w:World)(cur:Array Value)(hG:w.heap[g]? = some (.cells cur ty0 (0,0)))(hc:∀i x,E[i]? = some x->∀q v,(fp x)[q]? = some v->cur[i * 8+q]? = some v)(hp:Hid (0<E.length->p0=some ⟨g,0,none⟩/\ty0=46)):Calls Tryz.prog 8 #[.slice p0 E.length c] w λe w'=>(∃v rem,e=.returned v/\(∀t,t<8->(rem t).map crK=K7 E t)/\Own eC w' v (dl (tot rem) rem)/\∀t,t<8->InnM w' (rem t) (I7 E t))/\Below w.heap.size w w':=by
 go_enter Tryz.func8,Tryz.ntmps8;go_upto_region 1 with(fail);refine ab ?_;refine sA lE rfl 68 Tryz.underlying68 ⟨none,0,0⟩ 24 Gh (by decide) (.const (.int .i64 8)) (.const (.int .i64 8)) rfl 8 (by omega) rfl rfl (λw1 r hR hb1 hr=>?_);refine Zk ?_;refine Zv ?_;go_upto_region 3 with(fail);go_loopw [11] (λv wr=>∃t:Nat,v=.int .i64 t/\t<=8/\∃P:List SlV,P.length=8/\Own eL wr (.slice (some ⟨r,0,none⟩) 8 8) P/\(∀j,j<t->∃x L,P[j]? = some x/\Rd wr.heap.size wr x L/\L.map crK=K7 E j/\InnM wr L (I7 E j))/\Below w.heap.size w wr) (λv _=>8 - (intOf v).toNat)
 case atStart=>exact⟨0,rfl,by decide,_,by simp,hR,λj h=>absurd h (by omega),hb1⟩
 case round=>
  obtain⟨t,rfl,ht,P,hP8,hO,hL,hb⟩:=hrel;have hrw:Hid (w.heap.size<=r):=aD hr.out.symm;clear hR hb1 hr
  by_cases hlt:t<8
  case pos=>
   have hl0:(0:Int)<=t:=by omega
   have hl1:(t:Int)<8:=by omega
   have hg:Calls Tryz.prog 17 #[.slice p0 E.length c,.int .i64 t] wr λe w'=>(∃v L,e=.returned v/\Own eC w' v L/\L.map crK=K7 E t/\InnM w' L (I7 E t)/\(∀j,v.ownBlock=some j->wr.heap.size<=j))/\Below wr.heap.size wr w':=gatC E t hE hk g c wr cur (keep hG hb) hc hp.out;obtain⟨N,hN⟩:=Zh (E.length);rw[<-hN.out]at hg ⊢;go_upto_region 5 with(fail);refine ab ?_
   iterate 4 refine Zv ?_
   refine aP rfl 17 #[.slice p0 N c,.int .i64 t] (λv w'=>∃L,(Own eC w' v L/\L.map crK=K7 E t/\InnM w' L (I7 E t)/\(∀j,v.ownBlock=some j->wr.heap.size<=j))/\Below wr.heap.size wr w') ?_ (hg.mono λe w' h=>let⟨⟨v,L,h1,h2⟩,h3⟩:=h;⟨v,h1,L,h2,h3⟩) ?_
   ·first|(go_simp;done)|(go_simp;rfl)
   rintro v w2 ⟨L,⟨hLo,hLk,hLi,hLf⟩,hb2⟩;obtain⟨x,rfl,hRd⟩:=Rd.of_own hLo;refine Zk ?_;refine Ze (.pointer (some ⟨r,t,none⟩)) ?_;obtain⟨curL,hcu,hcs⟩:=ex lE (hO.below hb2);obtain⟨y,hy⟩:∃y,P[t]? = some y:=⟨P[t]'(by omega),aq _⟩;refine Zw 35 t x.v (gK _ _ _) hcu (by rw[hP8]at hcs;simp only[eL]at hcs;omega) (λw3 s1 s2 s3=>?_);have hO3:Own eL w3 (.slice (some ⟨r,0,none⟩) 8 8) (P.set t x):=dG (q:=0) (u:=x.v) lE (hO.below hb2) hcu hy (by decide) rfl (by simpa[eL] using s1)
   have k45:∀(g':Nat)(cur':Array Value),w2.heap[g']? = some (.cells cur' 41 (0,0))->w3.heap[g']? = w2.heap[g']? := λg' cur' h=>s2 g' λe=>by rw[e,hcu]at h;simp[eL]at h
   have h23:=(s3 0 (au _)).size
   have k3:∀(g':Nat)(cur':Array Value),w2.heap[g']? = some (.cells cur' 3 (0,0))->w3.heap[g']? = w2.heap[g']? := λg' cur' h=>s2 g' λe=>by rw[e,hcu]at h;simp[eL]at h
   have hL3:∀j,j<t+1->∃x' L,(P.set t x)[j]? = some x'/\Rd w3.heap.size w3 x' L/\L.map crK=K7 E j/\InnM w3 L (I7 E j):=λj hj=>by
    by_cases e:j=t
    ·subst e
     exact⟨x,L,List.getElem?_set_self (by omega),(hRd.keep λg' cur' _=>k45 g' cur').mono h23,hLk,hLi.keep k3⟩
    ·obtain⟨x',L',h1,h2,h3,h4⟩:=hL j (by omega)
     exact⟨x',L',by rw[List.getElem?_set_ne (λh=>e h.symm)];exact h1,((h2.below hb2).keep λg' cur' _=>k45 g' cur').mono (ar hb2.size h23),h3,(h4.keep λk cur hc=>hb2.block k (aB hc)).keep k3⟩
   have hb3:Below w.heap.size w w3:=(hb.trans (hb2.mono hb.size)).trans (s3 _ hrw.out)
   have hP3:(P.set t x).length=8:=by rw[List.length_set];exact hP8
   clear hO hL hb2 hLo hLk hLf hRd hcu hcs s1 s2 s3 k45 k3 hLi hg hb;go_wp2;go_roundw
   case rel=>exact⟨t+1,by go_num,by omega,_,hP3,hO3,hL3,hb3⟩
   case measure=>simp[intOf];omega
  obtain rfl:t=8:=by omega
  have hl1:¬(((8:Nat):Int)<8):=by decide
  obtain⟨rem0,hrem⟩:∃rem:Nat->List CR,∀j,j<8->∃x,P[j]? = some x/\Rd wr.heap.size wr x (rem j)/\(rem j).map crK=K7 E j/\InnM wr (rem j) (I7 E j):=by
   refine⟨λj=>if h:j<8 then(hL j h).choose_spec.choose else[],λj hj=>?_⟩;have h:=(hL j hj).choose_spec.choose_spec;simp only[dif_pos hj];exact⟨(hL j hj).choose,h.1,h.2.1,h.2.2⟩
  have hRem0:∀j,j<8->∃x,P[j]? = some x/\Rd wr.heap.size wr x (rem0 j):=λj hj=>let⟨x,a,b,_⟩:=hrem j hj;⟨x,a,b⟩
  have hRK:∀j,j<8->(rem0 j).map crK=K7 E j:=λj hj=>let⟨x,_,_,c,_⟩:=hrem j hj;c
  have hlen:∀j,j<8->(rem0 j).length<=E.length:=λj hj=>by
   have:=Bm E j;rw[<-hRK j hj,List.length_map]at this;exact this
  obtain⟨T,hT⟩:=Zh (tot rem0)
  have hTb:T<=3200000:=by
   have e:=hT.out;have:=hlen 0 (by decide);have:=hlen 1 (by decide);have:=hlen 2 (by decide);have:=hlen 3 (by decide);have:=hlen 4 (by decide);have:=hlen 5 (by decide);have:=hlen 6 (by decide);have:=hlen 7 (by decide);unfold tot at e;omega
  obtain⟨S,hS⟩:=Zh (wr.heap.size);rw[<-hS.out]at hRem0
  have hSw:w.heap.size<=S:=by rw[hS.out];exact hb.size
  have hrS:r<S:=by rw[hS.out];exact hO.lt rfl
  obtain⟨WS,hWS⟩:=Zh (wr);have hSs:Fr S r WS wr:=⟨aD hS.out,λk _ _=>by rw[hWS.out]⟩
  have hIn:Hid (∀wx:World,(∀k,k<S->k≠r->wx.heap[k]? = WS.heap[k]?)->∀j,j<8->InnM wx (rem0 j) (I7 E j)):=λwx hx j hj=>by
   have hj':=let⟨x,_,_,_,c⟩:=hrem j hj;c
   refine hj'.keep λk cur hc=>?_
   rw[<-hWS.out]
   refine hx k (by rw[hS.out];exact aB hc) λe=>?_
   subst e;obtain⟨cu,hcu⟩:=hO.blk rfl;rw[hcu]at hc;simp only[Option.some.injEq,Obj.cells.injEq]at hc;exact absurd hc.2.1 (by decide)
  clear hWS;clear hrem hL hlen;go_upto_region 8 with(fail);go_loopw [5] (λv wx=>∃(Q:List SlV)(rem:Nat->List CR)(out:List CR),Q.length=8/\Own eL wx (.slice (some ⟨r,0,none⟩) 8 8) Q/\(∀j,j<8->∃x,Q[j]? = some x/\Rd S wx x (rem j))/\Own eC wx v out/\(∀k,v.ownBlock=some k->S<=k)/\out++dl (tot rem) rem=dl T rem0/\out.length+tot rem=T/\Fr S r WS wx/\Below w.heap.size w wx) (λv _=>T - Ds v)
  case atStart=>exact⟨P,rem0,[],hP8,hO,hRem0,Own.nil _,λk e=>(by cases e),by rw[hT.out];rfl,by rw[hT.out];simp,hSs,hb⟩
  case round=>
   clear hO hRem0 hb hP8 hSs hS;obtain⟨Q,rem,out,hQ8,hO,hQ,hOut,hof,hmg,htl,hSs,hb⟩:=hrel;go_upto_region 10 with(fail);go_loopw [6,23] (λv6 v wy=>∃k:Nat,v=.int .i64 k/\k<=8/\v6=.int .i64 (bI (fR rem k))/\Own eL wy (.slice (some ⟨r,0,none⟩) 8 8) Q/\(∀j,j<8->∃x,Q[j]? = some x/\Rd S wy x (rem j))/\Own eC wy u5 out/\Fr S r WS wy/\Below w.heap.size w wy) (λ_ v _=>8 - (intOf v).toNat)
   case atStart=>exact⟨0,rfl,by decide,rfl,hO,hQ,hOut,hSs,hb⟩
   case round=>
    clear hO hQ hOut hSs hb;obtain⟨k,rfl,hk8,rfl,hO,hQ,hOut,hSs,hb⟩:=hrel
    by_cases hlt:k<8
    case pos=>
     have hl0:(0:Int)<=k:=by omega
     have hl1:(k:Int)<8:=by omega
     obtain⟨x,hx,hRd⟩:=hQ k hlt
     have hnx:fR rem (k+1)=match(rem k).head? with
      | none=>fR rem k
      | some x=>match fR rem k with
       | none=>some k
       | some b=>match(rem b).head? with
        | some y=>if x.beg<y.beg then some k else some b
        | none=>some b:=rfl
     have cP:∀w',Below wr.heap.size wr w'->w'.cell? ⟨r,k,none⟩=some (.slice x.p x.n x.c):=λw' hb=>(((hO.below hb).at lE).elem lE hx) 0 _ (by rfl) |> λh=>by simpa[eL] using h
     have hxn:=hRd.1;have cB:True:=trivial;have cX:True:=trivial
     cases hrk:rem k with
     | nil=>
      rw[hrk]at hnx hxn;have h0:x.n=0:=hxn;have hxz:Hid (x.n=0):=h0
      have hn0:¬(0<x.n):=by omega
      have hnx2:Hid (fR rem (k+1)=fR rem k):=hnx;clear hnx hxn h0 hrk hRd;go_upto_region 12 with(fail);refine ZA wr ?_
      iterate 5 refine Zz ?_
      refine Zy (.bool false) (λw' h'=>by go_simp;try exact hxz.out) ?_;refine Zz ?_
      iterate 19 refine Zs ?_
      refine Zz ?_;refine aQ (λw2 h2=>?_);replace hO:=hO.below h2
      replace hQ:∀j,j<8->∃x,Q[j]? = some x/\Rd S w2 x (rem j):=λj hj=>let⟨x,a,b⟩:=hQ j hj;⟨x,a,b.below h2⟩
      replace hOut:=hOut.below h2;replace hb:=hb.trans (h2.mono hb.size);replace hSs:Fr S r WS w2:=hSs.below h2;clear cP cB cX h2;go_wp2;go_roundw
      case rel=>exact⟨k+1,by go_num,by omega,by rw[hnx2.out],hO,hQ,hOut,hSs,hb⟩
      case measure=>simp[intOf];omega
     | cons y l=>
      rw[hrk]at hnx hxn hRd
      have hn0:0<x.n:=by simp only[List.length_cons]at hxn;omega
      clear hxn;simp only[List.head?_cons]at hnx;obtain⟨bo,hbo⟩:∃bo,Hid (fR rem k=bo):=⟨_,rfl⟩;rw[hbo.out]at hnx ⊢
      cases bo with
      | none=>
       have hnx2:Hid (fR rem (k+1)=some k):=hnx;clear hnx hrk hRd;go_upto_region 12 with(fail);refine ZA wr ?_
       iterate 5 refine Zz ?_
       refine Zy (.bool true) (λw' h'=>by go_simp;try exact hn0) ?_
       iterate 2 refine Zz ?_
       refine Zy (.bool true) (λw' h'=>by first|kernel_rfl|(go_simp;done)|(go_simp;decide)) ?_
       refine Zz ?_
       iterate 15 refine Zs ?_
       iterate 2 refine Zz ?_
       refine aQ (λw2 h2=>?_);replace hO:=hO.below h2
       replace hQ:∀j,j<8->∃x,Q[j]? = some x/\Rd S w2 x (rem j):=λj hj=>let⟨x,a,b⟩:=hQ j hj;⟨x,a,b.below h2⟩
       replace hOut:=hOut.below h2;replace hb:=hb.trans (h2.mono hb.size);replace hSs:Fr S r WS w2:=hSs.below h2;clear cP cB cX h2;go_wp2;go_roundw
       case rel=>exact⟨k+1,by go_num,by omega,by rw[hnx2.out];rfl,hO,hQ,hOut,hSs,hb⟩
       case measure=>simp[intOf];omega
      | some b=>
       obtain⟨hbk,z,lz,hz⟩:=ki rem k b hbo.out;simp only[hz,List.head?_cons]at hnx;obtain⟨xb,hxb,hRb⟩:=hQ b (by omega);rw[hz]at hRb;obtain⟨gk,ok,ck,ek,hgk,hbk',hrk'⟩:=hRd.head;obtain⟨gb,ob,cb,eb,hgb,hbb',hrb'⟩:=hRb.head
       have hnb:0<xb.n:=by have:=hRb.1;simp only[List.length_cons]at this;omega
       clear cB cX
       have cB:∀w',Below wr.heap.size wr w'->w'.cell? ⟨r,b,none⟩=some (.slice xb.p xb.n xb.c):=λw' hb=>(((hO.below hb).at lE).elem lE hxb) 0 _ (by rfl) |> λh=>by simpa[eL] using h
       have cX:∀w',Below wr.heap.size wr w'->w'.cell? ⟨gk,ok+2,none⟩=some (.int .i64 y.beg):=λw' hb=>(World.cell?_of_block (a:=⟨gk,ok+2,none⟩) (hb.block gk (aB hbk'))).trans (hrk' 2 _ rfl);have cY:∀w',Below wr.heap.size wr w'->w'.cell? ⟨gb,ob+2,none⟩=some (.int .i64 z.beg):=λw' hb=>(World.cell?_of_block (a:=⟨gb,ob+2,none⟩) (hb.block gb (aB hbb'))).trans (hrb' 2 _ rfl)
       have hb0:(0:Int)<=b:=by omega
       have hb8:(b:Int)<8:=by omega
       have hbn:¬((b:Int)<0):=by omega
       rw[ek]at cP;rw[eb]at cB;obtain⟨bg,hbg⟩:∃bg:Bool,Hid (decide (y.beg<z.beg)=bg):=⟨_,rfl⟩;have hbi:bI (some b)=b:=rfl;rw[hbi];clear hbi
       have hnx2:Hid (fR rem (k+1)=if bg=true then some k else some b):=by
        rw[hnx,<-hbg.out];simp[Hid]
       clear hnx hrk hRd hRb hrk' hrb' hbb' hbk' hbo hz ek eb hbk;go_upto_region 12 with(fail);refine ZA wr ?_
       iterate 5 refine Zz ?_
       refine Zy (.bool true) (λw' h'=>by go_simp;try exact hn0) ?_
       iterate 2 refine Zz ?_
       refine Zy (.bool false) (λw' h'=>by go_simp;try exact az hbn) ?_
       iterate 15 refine Zz ?_
       refine Zy (.bool bg) (λw' h'=>by go_simp;try rw[hbg.out]) ?_
       iterate 2 refine Zz ?_
       refine aQ (λw2 h2=>?_);clear cY
       cases bg with
       | true=>
        replace hO:=hO.below h2
        replace hQ:∀j,j<8->∃x,Q[j]? = some x/\Rd S w2 x (rem j):=λj hj=>let⟨x,a,b⟩:=hQ j hj;⟨x,a,b.below h2⟩
        replace hOut:=hOut.below h2;replace hb:=hb.trans (h2.mono hb.size);replace hSs:Fr S r WS w2:=hSs.below h2;clear cP cB cX h2;go_wp2;go_roundw
        case rel=>exact⟨k+1,by go_num,by omega,by rw[hnx2.out];rfl,hO,hQ,hOut,hSs,hb⟩
        case measure=>simp[intOf];omega
       | false=>
        replace hO:=hO.below h2
        replace hQ:∀j,j<8->∃x,Q[j]? = some x/\Rd S w2 x (rem j):=λj hj=>let⟨x,a,b⟩:=hQ j hj;⟨x,a,b.below h2⟩
        replace hOut:=hOut.below h2;replace hb:=hb.trans (h2.mono hb.size);replace hSs:Fr S r WS w2:=hSs.below h2;clear cP cB cX h2;go_wp2;go_roundw
        case rel=>exact⟨k+1,by go_num,by omega,by rw[hnx2.out];rfl,hO,hQ,hOut,hSs,hb⟩
        case measure=>simp[intOf];omega
    obtain rfl:k=8:=by omega
    have hl1:¬(((8:Nat):Int)<8):=by decide
    clear hlt;obtain⟨bo,hbo⟩:∃bo,Hid (fR rem 8=bo):=⟨_,rfl⟩;rw[hbo.out]
    cases bo with
    | none=>
     have hm0:=oc hbo.out (tot rem);rw[hm0,List.append_nil,hT.out]at hmg;subst hmg;go_wp2;go_ret
     first|exact⟨⟨_,rem0,rfl,hRK,hOut,hIn.out _ hSs.fr⟩,hb⟩|exact⟨⟨_,rfl,rem0,hRK,hOut,hIn.out _ hSs.fr⟩,hb⟩
    | some b=>
     obtain⟨hb8,z,lz,hz⟩:=ki rem 8 b hbo.out;obtain⟨xb,hxb,hRb⟩:=hQ b hb8;rw[hz]at hRb;obtain⟨gb,ob,cb,eb,hgb,hbb',hrb'⟩:=hRb.head;obtain⟨q,hq⟩:∃q,Hid (q=if xb.c=1 then some (⟨gb,ob,none⟩:Addr) else some ⟨gb,ob+6,none⟩):=⟨_,rfl⟩;have hRt:=hRb.tail eb q (λh=>by rw[hq.out,af h])
     have hnb:0<xb.n:=by have:=hRb.1;simp only[List.length_cons]at this;omega
     have htt:=AP hb8 hz;have hmm:=lA hbo.out hz (tot (ms rem b lz));rw[<-htt]at hmm;have hbi:bI (some b)=b:=rfl;rw[hbi];clear hbi
     have hb0:(0:Int)<=b:=by omega
     have hb1:(b:Int)<8:=by omega
     have hbn:¬((b:Int)<0):=by omega
     have cP:wr.cell? ⟨r,b,none⟩=some (.slice (some ⟨gb,ob,none⟩) xb.n xb.c):=by
      have:=((hO.at lE).elem lE hxb) 0 _ (by rfl)
      have e:xb.v=Value.slice (some ⟨gb,ob,none⟩) xb.n xb.c:=by simp only[SlV.v,eb]
      rw[<-e];simpa[eL] using this
     clear hbo;go_upto_region 17 with(fail);refine ab ?_
     iterate 3 refine Zv ?_
     refine Ze (.pointer (some ⟨r,b,none⟩)) ?_;refine Zv ?_
     refine Zu (.pointer (some ⟨gb,ob,none⟩)) (by first|(go_simp;done)|(go_simp;try exact hnb)) ?_
     refine dJ rfl (.agg (crL z).toArray) (aZ 41 (.tmp 63) rfl gb ob rfl (crL z) _ hrb' Tryz.underlying41 rfl (by kernel_rfl)) ?_;refine Zk ?_
     refine dJ rfl (.slice (some ⟨wr.heap.size,0,none⟩) 1 1) (w':=wr.alloc (.cells (crL z).toArray 41)) (by first|kernel_rfl|(go_simp;done)|(go_simp;rfl)) ?_
     obtain⟨w1,bN,e8,eg,BN,hb1'⟩:=aO wr (crL z).toArray 41;rw[e8,eg];clear e8 eg;refine Zk ?_;refine i5 eC_ok rfl 35 Tryz.underlying35 64 DL (.tmp 58) (.tmp 65) rfl _ out [z] rfl (hOut.below hb1') bN 0 1 rfl (cG BN z rfl) (by simp only[List.length_singleton];omega) (by decide) (λv2 w2 hO2 hg2 hl2=>?_);refine Zk ?_;refine Zv ?_;have hbB:=hb.trans (hb1'.mono hb.size);have hb2:Below w.heap.size w w2:=hbB.grown hg2 hbB.size (λk e=>ar hSw (hof k e));have hSs1:S<=w1.heap.size:=ar hSs.out hb1'.size
     have hof2:∀k,v2.ownBlock=some k->S<=k:=λk hk=>by
      rcases hl2 with h|h
      ·exact hof k (h.symm.trans hk)
      ·rw[h]at hk;cases hk;exact hSs1
     have kp2:∀k,k<S->w2.heap[k]? = wr.heap[k]? := λk hk=>(hg2.block k (by omega) (λe=>by have:=hof k e.symm;omega)).trans (hb1'.block k (aA hk hSs.out))
     have hOr:Own eL w2 (.slice (some ⟨r,0,none⟩) 8 8) Q:=hO.keep λk hk=>by cases hk;exact kp2 r hrS
     have cP2:w2.cell? ⟨r,b,none⟩=some (.slice (some ⟨gb,ob,none⟩) xb.n xb.c):=(World.cell?_of_block (a:=⟨r,b,none⟩) (kp2 r hrS)).trans cP;obtain⟨curL,hcu,hcs⟩:=ex lE hOr;rw[hQ8]at hcs;go_upto_region 18 with(fail);refine ab ?_
     iterate 4 refine Zv ?_
     refine Ze (.pointer (some ⟨r,b,none⟩)) ?_;refine Zv ?_;refine Zu (.slice q (xb.n - 1) (xb.c - 1)) (by go_simp;rw[ag (by omega),<-hq.out]) ?_;refine Ze (.pointer (some ⟨r,b,none⟩)) ?_;refine Zw 35 b (.slice q (xb.n - 1) (xb.c - 1)) (gK _ _ _) hcu (by simp only[eL]at hcs;omega) (λw3 s1 s2 s3=>?_);have hO3:Own eL w3 (.slice (some ⟨r,0,none⟩) 8 8) (Q.set b ⟨q,xb.n - 1,xb.c - 1⟩):=dG (q:=0) (u:=.slice q (xb.n - 1) (xb.c - 1)) lE hOr hcu hxb (by decide) rfl (by simpa[eL] using s1)
     have hQ3:∀j,j<8->∃x,(Q.set b ⟨q,xb.n - 1,xb.c - 1⟩)[j]? = some x/\Rd S w3 x (ms rem b lz j):=λj hj=>by
      have k45:∀(g':Nat)(cur':Array Value),g'<S->wr.heap[g']? = some (.cells cur' 41 (0,0))->w3.heap[g']? = wr.heap[g']? := λg' cur' h1 h=>(s2 g' λe=>by
       have:=(kp2 g' h1).trans h
       rw[e,hcu]at this;simp[eL]at this).trans (kp2 g' h1)
      by_cases e:j=b
      ·subst e
       refine⟨_,List.getElem?_set_self (by omega),?_⟩;have:ms rem j lz j=lz:=ag rfl;rw[this];exact hRt.keep k45
      ·obtain⟨x',h1,h2⟩:=hQ j hj
       refine⟨x',by rw[List.getElem?_set_ne (λh=>e h.symm)];exact h1,?_⟩;have:ms rem b lz j=rem j:=af e;rw[this];exact h2.keep k45
     have hOut3:Own eC w3 v2 (out++[z]):=hO2.keep λk hk=>s2 k (by have:=hof2 k hk;omega);have hb3:=hb2.trans (s3 w.heap.size hrw.out);have hS3:Fr S r WS w3:=⟨ar hSs1 (ar hg2.size (s3 0 (au _)).size),λk hk hr=>(s2 k hr).trans ((kp2 k hk).trans (hSs.fr k hk hr))⟩
     have hQ38:(Q.set b ⟨q,xb.n - 1,xb.c - 1⟩:List SlV).length=8:=by rw[List.length_set];exact hQ8
     have hmg3:(out++[z])++dl (tot (ms rem b lz)) (ms rem b lz)=dl T rem0:=by rw[<-hmg,hmm];simp
     have htl3:(out++[z]).length+tot (ms rem b lz)=T:=by rw[List.length_append,List.length_singleton];omega
     obtain⟨p2,c2,rfl⟩:=hO2.form2
     have hll:(out++[z]).length=out.length+1:=by simp
     rw[hll]at hOut3 hof2 ⊢;obtain⟨p1,c1,rfl⟩:=hOut.form2;clear hO hQ hOut hO2 hg2 hl2 hOr cP cP2 hcu hcs s1 s2 s3 kp2 hRt hRb hrb' hbb' BN hb1' hbB hb2 hSs1 hof;go_wp2;go_roundw
     case rel=>exact⟨_,_,_,hQ38,hO3,hQ3,hOut3,hof2,hmg3,htl3,hS3,hb3⟩
     case measure=>simp only[Ds];omega
end Go.Proofs.YtldlcnaphednnaaGreatDoor
