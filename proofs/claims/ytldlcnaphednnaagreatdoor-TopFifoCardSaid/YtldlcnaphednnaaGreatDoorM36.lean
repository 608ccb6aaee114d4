/- A thread's calls gathered from the events: function 16. -/
import Derived.Sort.CutIn
import Derived.Maps.AppendAt
import Derived.Test.YtldlcnaphednnaaGreatDoorM34
import Derived.Test.YtldlcnaphednnaaGreatDoorM35
import Derived.Test.YtldlcnaphednnaaGreatDoorM24
import Derived.Test.YtldlcnaphednnaaGreatDoorM17
set_option maxRecDepth 100000
set_option maxHeartbeats 32000000
set_option linter.unusedVariables false
set_option linter.unusedSimpArgs false
namespace Go.Proofs.YtldlcnaphednnaaGreatDoor
open Go.RowKit Go.Maps
section
attribute [local go_sem] Oper.semAt_some
structure CR where
 site:Int
 who:Int
 beg:Int
 fin:Int
 res:Int
 ip:Option Addr
 il:Nat
 ic:Nat
abbrev CR.inn(x:CR):Value:=.slice x.ip x.il x.ic
def crL(x:CR):List Value:=[.int .i64 x.site,.int .i64 x.who,.int .i64 x.beg,.int .i64 x.fin,.int .u32 x.res,.slice x.ip x.il x.ic]
def eC:Enc CR:=⟨41,6,crL⟩
theorem eC_ok:eC.Ok:=⟨λx=>rfl,λx u hu=>by
 simp only[eC,crL,List.mem_cons,List.not_mem_nil,or_false]at hu
 rcases hu with rfl|rfl|rfl|rfl|rfl|rfl<;>rfl,by decide⟩
theorem DL:(Tryz.prog.info? eC.ty).map (λi=>(i.zero.map (·.cells.size),i.size,i.bytes))=some (some eC.sz,eC.sz,64):=by kernel_rfl
structure K5 where
 site:Int
 who:Int
 beg:Int
 fin:Int
 res:Int
deriving DecidableEq
def crK(x:CR):K5:=⟨x.site,x.who,x.beg,x.fin,x.res⟩
def stS(t:Int)(i:Nat)(x:Evt)(S:List K5×Bool):List K5×Bool:=
 if x.kind=7 then
  if x.k%2=0 then(S.1++[⟨x.k / 2,t,i,-1,0⟩],true)
  else match S.1[S.1.length - 1]? with
   | some c=>if S.2=true/\c.site=x.k / 2 then(S.1.set (S.1.length - 1) { c with fin:=i,res:=x.value },false) else S
   | none=>S
 else S
def stA(t:Int)(E:List Evt)(pre:List (Fin E.length)):List K5×Bool:=pre.foldl (λS i=>stS t i.1 E[i.1] S) ([],false)
theorem sP(t:Int)(E:List Evt)(pre:List (Fin E.length))(x:Fin E.length):stA t E (pre++[x])=stS t x.1 E[x.1] (stA t E pre):=by
 unfold stA;rw[List.foldl_append];rfl
def iS(i:Nat)(x:Evt)(o:Bool)(Is:List (List Int)):List (List Int):=
 if x.kind=7 then(if x.k%2=0 then Is++[[]] else Is) else if o=true/\x.kind≠3 then Is.set (Is.length - 1) (Is.getD (Is.length - 1) []++[(i:Int)]) else Is
def pA(t:Int)(E:List Evt)(pre:List (Fin E.length)):(List K5×Bool)×List (List Int):=pre.foldl (λS i=>(stS t i.1 E[i.1] S.1,iS i.1 E[i.1] S.1.2 S.2)) (([],false),[])
def iA(t:Int)(E:List Evt)(pre:List (Fin E.length)):List (List Int):=(pA t E pre).2
theorem E4(t:Int)(E:List Evt)(pre:List (Fin E.length)):(pA t E pre).1=stA t E pre:=by
 have:∀(l:List (Fin E.length)) (S:(List K5×Bool)×List (List Int)),(l.foldl (λS i=>(stS t i.1 E[i.1] S.1,iS i.1 E[i.1] S.1.2 S.2)) S).1=l.foldl (λS i=>stS t i.1 E[i.1] S) S.1:=λl=>by
  induction l with
  | nil=>intro S;rfl
  | cons x l ih=>intro S;exact ih _
 exact this pre _
theorem rL(t:Int)(E:List Evt)(pre:List (Fin E.length))(x:Fin E.length):iA t E (pre++[x])=iS x.1 E[x.1] (stA t E pre).2 (iA t E pre):=by
 rw[<-E4];unfold iA pA;rw[List.foldl_append];rfl
def InM(s0 n:Nat)(W:World)(L:List CR)(Is:List (List Int)):Prop:=Is.length=L.length/\∃B0,s0<=B0/\B0<=W.heap.size/\∀i x,L[i]? = some x->∃l,Is[i]? = some l/\x.il=l.length/\l.length<=n/\Own eN W x.inn l/\∀j,x.inn.ownBlock=some j->(i+1=L.length->B0<=j)/\(i+1<L.length->j<B0)
theorem InM.keep{s0 n n':Nat}{W W':World}{L:List CR}{Is:List (List Int)}(h:InM s0 n W L Is)(hn:n<=n')(hs:W.heap.size<=W'.heap.size)(hk:∀(k:Nat)(cur:Array Value),W.heap[k]? = some (.cells cur 3 (0,0))->W'.heap[k]? = W.heap[k]?):InM s0 n' W' L Is:=by
 obtain⟨h0,B0,h1,h2,h3⟩:=h;refine⟨h0,B0,h1,ar h2 hs,λi x hx=>?_⟩;obtain⟨l,a1,a2,a3,a4,a5⟩:=h3 i x hx;refine⟨l,a1,a2,ar a3 hn,a4.keep λj hj=>?_,a5⟩;obtain⟨cur,hc⟩:=a4.blk hj;exact hk j cur hc
theorem InM.push{s0 n n':Nat}{W W':World}{L:List CR}{Is:List (List Int)}(h:InM s0 n W L Is)(hn:n<=n')(hs:W.heap.size<=W'.heap.size)(hk:∀(k:Nat)(cur:Array Value),W.heap[k]? = some (.cells cur 3 (0,0))->W'.heap[k]? = W.heap[k]?)(x:CR)(hx:x.ip=none/\x.il=0/\x.ic=0):InM s0 n' W' (L++[x]) (Is++[[]]):=by
 obtain⟨h0,B0,h1,h2,h3⟩:=h;refine⟨by simp[h0],W'.heap.size,by omega,ah _,λi y hy=>?_⟩;have hi:i<(L++[x]).length:=(aj.1 hy).1;simp only[List.length_append,List.length_singleton]at hi ⊢
 by_cases e:i<L.length
 ·rw[List.getElem?_append_left e]at hy
  obtain⟨l,a1,a2,a3,a4,a5⟩:=h3 i y hy;refine⟨l,by rw[List.getElem?_append_left (by omega)];exact a1,a2,ar a3 hn,a4.keep λj hj=>?_,λj hj=>⟨λ_=>by omega,λ_=>?_⟩⟩
  ·obtain⟨cur,hc⟩:=a4.blk hj
   exact hk j cur hc
  ·obtain⟨cur,hc⟩:=a4.blk hj
   exact aA (aB hc) hs
 ·obtain rfl:i=L.length:=by omega
  rw[List.getElem?_append_right (ah _),Nat.sub_self]at hy;cases hy;obtain⟨e1,e2,e3⟩:=hx;refine⟨[],by rw[List.getElem?_append_right (by omega),h0,Nat.sub_self];rfl,by rw[e2];rfl,au _,?_,λj hj=>?_⟩
  ·show Own eN W' (.slice x.ip x.il x.ic) []
   rw[e1,e2,e3];exact Own.nil _
  ·have:(Value.slice x.ip x.il x.ic).ownBlock=some j:=hj
   rw[e1]at this;cases this
theorem InM.last{s0 n:Nat}{W:World}{L:List CR}{Is:List (List Int)}(h:InM s0 n W L Is)(hL:0<L.length):∃x,L[L.length - 1]? = some x/\∃l,Own eN W x.inn l/\x.il=l.length/\l.length<=n/\(∀j,x.inn.ownBlock=some j->s0<=j)/\Is[L.length - 1]? = some l/\Is.length=L.length/\
  Hid (∀W' n' x' l',n<=n'->W.heap.size<=W'.heap.size->x'.il=l'.length->l'.length<=n'->Own eN W' x'.inn l'->(∀j,x'.inn.ownBlock=some j->x.inn.ownBlock=some j\/W.heap.size<=j)->(∀(k:Nat)(cur:Array Value),W.heap[k]? = some (.cells cur 3 (0,0))->x.inn.ownBlock≠some k->W'.heap[k]? = W.heap[k]?)->InM s0 n' W' (L.set (L.length - 1) x') (Is.set (L.length - 1) l')):=by
 obtain⟨h0,B0,h1,h2,h3⟩:=h;have hx:L[L.length - 1]? = some (L[L.length - 1]'(by omega)):=aq _;obtain⟨l,a1,a2,a3,a4,a5⟩:=h3 _ _ hx;refine⟨_,hx,l,a4,a2,a3,λj hj=>ar h1 ((a5 j hj).1 (by omega)),a1,h0,λW' n' x' l' b1 b2 b3 b4 b5 b6 b7=>?_⟩;refine⟨by simp[h0],B0,h1,ar h2 b2,λi y hy=>?_⟩;rw[List.length_set]
 by_cases e:i=L.length - 1
 ·subst e
  rw[List.getElem?_set_self (by omega)]at hy;cases hy;refine⟨l',by rw[List.getElem?_set_self (by omega)],b3,b4,b5,λj hj=>⟨λ_=>?_,λe=>by omega⟩⟩;rcases b6 j hj with c|c
  ·exact(a5 j c).1 (by omega)
  ·omega
 ·rw[List.getElem?_set_ne (λh=>e h.symm)]at hy
  have hi:=(aj.1 hy).1;obtain⟨l2,c1,c2,c3,c4,c5⟩:=h3 i y hy;refine⟨l2,by rw[List.getElem?_set_ne (λh=>e h.symm)];exact c1,c2,ar c3 b1,c4.keep λj hj=>?_,c5⟩;obtain⟨cur,hc⟩:=c4.blk hj
  refine b7 j cur hc λe'=>?_
  have:=(c5 j hj).2 (by omega);have:=(a5 j e').1 (by omega);omega
theorem AC{α:Type}{l:List α}{i:Nat}{a:α}(h:l[i]? = some a):l.set i a=l:=by
 apply List.ext_getElem?;intro k
 by_cases e:k=i
 ·subst e;rw[List.getElem?_set_self (aj.1 h).1,h]
 ·rw[List.getElem?_set_ne (λh=>e h.symm)]
def InnM(W:World)(L:List CR)(Is:List (List Int)):Prop:=Is.length=L.length/\∀(i:Nat)(x:CR),L[i]? = some x->∃l,Is[i]? = some l/\x.il=l.length/\l.length<=400000/\Own eN W x.inn l
theorem InnM.keep{W W':World}{L:List CR}{Is:List (List Int)}(h:InnM W L Is)(hk:∀(k:Nat)(cur:Array Value),W.heap[k]? = some (.cells cur 3 (0,0))->W'.heap[k]? = W.heap[k]?):InnM W' L Is:=by
 refine⟨h.1,λi x hx=>?_⟩;obtain⟨l,a1,a2,a3,a4⟩:=h.2 i x hx;refine⟨l,a1,a2,a3,a4.keep λj hj=>?_⟩;obtain⟨cur,hc⟩:=a4.blk hj;exact hk j cur hc
def GI(n0 s0:Nat)(w:World)(t:Int)(E:List Evt)(pre:List (Fin E.length))(W:World):Prop:=∃(p:Option Addr)(c:Nat)(L:List CR),
 W.heap[n0]? = some (.cells #[.int .i64 t] 3 (0,0))/\W.heap[n0+1]? = some (.cells #[.slice p L.length c] 35 (0,0))/\W.heap[n0+2]? = some (.cells #[.bool (stA t E pre).2] 4 (0,0))/\Own eC W (.slice p L.length c) L/\(∀j,(Value.slice p L.length c).ownBlock=some j->s0<=j)/\L.map crK=(stA t E pre).1/\L.length<=pre.length/\
 (InM s0 pre.length W L (iA t E pre)/\((stA t E pre).2=true->0<L.length))/\s0<=W.heap.size/\Below n0 w W
theorem lO{B k:Nat}{W W':World}{row:Option Nat}{cs:Array Value}{ty:TypeId}{fr:Nat×Nat}(hg:W.grownBy W' row)(hr:∀r,row=some r->B<=r/\∃o:Obj,W.heap[r]? = some o/\o.isCells=false)(h:W.heap[k]? = some (.cells cs ty fr)):W'.heap[k]? = W.heap[k]?:=
 hg.block k (aB h) λe=>by
  obtain⟨_,o,h1,h2⟩:=hr k e.symm;rw[h]at h1;cases h1;cases h2
theorem FL{n0 s0 B:Nat}{w:World}{t:Int}{E:List Evt}(hn:n0<=w.heap.size)(hB:n0<=B):OwnFrom B (GI n0 s0 w t E):=λpre W W' row h hg hr=>by
 obtain⟨p,c,L,h1,h2,h3,h4,h5,h6,h7,h8,h9,h10⟩:=h;refine⟨p,c,L,(lO hg hr h1).trans h1,(lO hg hr h2).trans h2,(lO hg hr h3).trans h3,h4.keep λj hj=>?_,h5,h6,h7,⟨h8.1.keep (ah _) hg.size (λk cur hc=>lO hg hr hc),h8.2⟩,ar h9 hg.size,h10.grown hg (ar hn h10.size) (λk e=>ar hB (hr k e).1)⟩
 ·obtain⟨cur,hc⟩:=h4.blk hj
  exact lO hg hr hc
theorem GI.below{n0 s0:Nat}{w:World}{t:Int}{E:List Evt}{pre:List (Fin E.length)}{W W':World}(h:GI n0 s0 w t E pre W)(hn:n0<=w.heap.size)(hb:Below W.heap.size W W'):GI n0 s0 w t E pre W':=by
 obtain⟨p,c,L,h1,h2,h3,h4,h5,h6,h7,h8,h9,h10⟩:=h;exact⟨p,c,L,keep h1 hb,keep h2 hb,keep h3 hb,h4.below hb,h5,h6,h7,⟨h8.1.keep (ah _) hb.size (λk cur hc=>hb.block k (aB hc)),h8.2⟩,ar h9 hb.size,h10.trans (hb.mono (ar hn h10.size))⟩
theorem qr{B:Nat}{S:Nat->Prop}{W W':World}(hs:W.heap.size<=W'.heap.size)(h:∀k,k<W.heap.size->¬S k->W'.heap[k]? = W.heap[k]?)(hc:∀k,S k->∃cs ty fr,W.heap[k]? = some (.cells cs ty fr)):KeepsFrom B W W':=
 ⟨hs,λk o _ hk ho=>by
  refine(h k (aB hk) λhS=>?_).trans hk;obtain⟨cs,ty,fr,e⟩:=hc k hS
  rw[hk]at e;cases e;cases ho⟩
theorem box5(w:World)(c1 c2 c3 c4 c5:Array Value)(t1 t2 t3 t4 t5:TypeId):∃W n0,((((w.alloc (.cells c1 t1)).alloc (.cells c2 t2)).alloc (.cells c3 t3)).alloc (.cells c4 t4)).alloc (.cells c5 t5)=W/\w.heap.size=n0/\W.heap[n0]? = some (.cells c1 t1 (0,0))/\W.heap[n0+1]? = some (.cells c2 t2 (0,0))/\W.heap[n0+2]? = some (.cells c3 t3 (0,0))/\W.heap[n0+3]? = some (.cells c4 t4 (0,0))/\W.heap[n0+4]? = some (.cells c5 t5 (0,0))/\Below n0 w W/\W.heap.size=n0+5:=by
 have a (w:World) (c:Array Value) (t:TypeId):Below w.heap.size w (w.alloc (.cells c t)):=(ak _ _).alloc (ah _) _;refine⟨_,_,rfl,rfl,?_,?_,?_,?_,?_,?_,by simp⟩
 ·exact keep (keep (keep (keep (heap_alloc_new w _) (a _ _ _)) (a _ _ _)) (a _ _ _)) (a _ _ _)
 ·exact keep (keep (keep (by simpa using heap_alloc_new (w.alloc (.cells c1 t1)) (.cells c2 t2)) (a _ _ _)) (a _ _ _)) (a _ _ _)
 ·exact keep (keep (by simpa using heap_alloc_new ((w.alloc (.cells c1 t1)).alloc (.cells c2 t2)) (.cells c3 t3)) (a _ _ _)) (a _ _ _)
 ·exact keep (by simpa using heap_alloc_new (((w.alloc (.cells c1 t1)).alloc (.cells c2 t2)).alloc (.cells c3 t3)) (.cells c4 t4)) (a _ _ _)
 ·simpa using heap_alloc_new ((((w.alloc (.cells c1 t1)).alloc (.cells c2 t2)).alloc (.cells c3 t3)).alloc (.cells c4 t4)) (.cells c5 t5)
 ·exact(((((a _ _ _).alloc (by simp) _).alloc (by simp<;>omega) _).alloc (by simp<;>omega) _).alloc (by simp<;>omega) _)
def AxP(l:Option Addr)(ln lc:Nat)(n0:Nat)(t:Int)(E:List Evt)(x:Fin E.length)(a':Go.Act)(W:World):Prop:=∃Bx,n0+2<Bx/\W.heap[Bx]? = some (.cells (fp E[x.1]).toArray 46 (0,0))/\
 a'={ tmps:=#[.slice l ln lc,.int .i64 t,undef,.pointer (some ⟨n0,0,none⟩),.slice none 0 0,.pointer (some ⟨n0+1,0,none⟩),.pointer (some ⟨n0+2,0,none⟩),.int .i64 (x.1:Int),.pointer (some ⟨Bx,0,none⟩),undef,undef,.slice l ln lc,.int .i64 t,.func (.func 63) #[] #[.pointer (some ⟨n0+3,0,none⟩),.pointer (some ⟨n0+4,0,none⟩)],.int .i64 (x.1:Int),.agg (fp E[x.1]).toArray]++Array.replicate 71 undef,defers:=[] }
theorem Do{l:Option Addr}{ln lc n0 B:Nat}{t:Int}{E:List Evt}(x:Fin E.length)(a':Go.Act):OwnFrom B (λ(_:Unit) W=>AxP l ln lc n0 t E x a' W):=λ_ W W' row h hg hr=>by
 obtain⟨Bx,h1,h2,h3⟩:=h;exact⟨Bx,h1,(lO hg hr h2).trans h2,h3⟩
theorem gatC(E:List Evt)(t:Int)(hE:E.length<=400000)(hk:∀x∈E,U32 x.k)(g c:Nat){p:Option Addr}{ty0:TypeId}(w:World)(cur:Array Value)(hG:w.heap[g]? = some (.cells cur ty0 (0,0)))(hc:∀i x,E[i]? = some x->∀q v,(fp x)[q]? = some v->cur[i * 8+q]? = some v)(hp:0<E.length->p=some ⟨g,0,none⟩/\ty0=46):Calls Tryz.prog 17 #[.slice p E.length c,.int .i64 t] w λe w'=>(∃v L,e=.returned v/\Own eC w' v L/\L.map crK=(stA t E (fm t E E.length)).1/\InnM w' L (iA t E (fm t E E.length))/\(∀j,v.ownBlock=some j->w.heap.size<=j))/\Below w.heap.size w w':=by
 have hgl:=aB hG;obtain⟨N,hN⟩:=Zh (E.length);refine(callsIn_wide (n:=9)).1 ?_;refine callsIn_of_wp_marks Tryz.func17 rfl trivial ?_ rfl;simp only[Tryz.ntmps17,List.size_toArray,List.length_cons,List.length_nil,Nat.reduceAdd,Nat.reduceSub,Array.replicate_succ,Array.replicate_zero,List.push_toArray,List.append_toArray,List.nil_append,List.cons_append];gi_wp2_with (refine⟨trivial,?_⟩;gi_at_call 35;refine(callsIn_wide.2 (Ga _ _ _ _ _)).mono ?_;rintro e w' ⟨rfl,rfl⟩);obtain⟨W0,n0,e0,e1,X0,X1,X2,X3,X4,hB0,hS0⟩:=box5 w #[.int .i64 t] #[.slice none 0 0] #[.bool false] #[.slice p E.length c] #[.int .i64 t] 3 35 4 30 3;rw[e0,e1];rw[e1]at hgl
 have hn0:n0<=W0.heap.size:=by omega
 have hn1:n0<=w.heap.size:=by omega
 have hG0:=keep hG (e1▸hB0);have hI0:GI n0 W0.heap.size w t E [] W0:=⟨none,0,[],X0,X1,X2,Own.nil _,λj e=>(by cases e),rfl,ah _,⟨⟨rfl,W0.heap.size,ah _,ah _,λi x h=>(by cases h)⟩,λe=>(by cases e)⟩,ah _,hB0⟩;simp only[Nat.add_assoc,Nat.reduceAdd]
 refine wpIn_rangeFunc_ownH rfl (by decide) (gf:=63) (lb:=#[.pointer (some ⟨n0+3,0,none⟩),.pointer (some ⟨n0+4,0,none⟩)]) rfl trivial (enters_of Tryz.func63 (by kernel_rfl) rfl)
  (yX Fence.wide (9 - 1) trivial rfl (by decide) (n0+3) (n0+4) g c E t hE W0 X3 X4 cur hG0 hc hp) KpT.trans (λW l o o' hl h _ _=>⟨World.putObj_heap_other (by omega),World.putObj_heap_other (by omega),by simp⟩) (ak _ _) (λ_=>rfl)
  (GI n0 W0.heap.size w t E) (λ_ _ _=>False) (FL hn1 hn0) (λ_ _ _ _ _ hs _ _=>hs) hI0 (AxP p E.length c n0 t E) (λx a'=>Do x a') ?assign ?body ?done ?stop
 case assign=>
  rintro l pre x W K hi hK;obtain⟨ev,hev⟩:∃ev,Hid (E[x.1]=ev):=⟨E[x.1],rfl⟩;unfold AxP at hK;unfold AK;rw[hev.out]at hK ⊢;gi_upto_region 5 with fail;refine g8 (λ⟨a,w,h⟩=>h) rfl ?_;refine uf rfl 46 rfl (.agg #[.int .i64 0,.int .i64 0,.int .i64 0,.int .i64 0,.int .u32 0,.int .u32 0,.int .u32 0,.bool false]) #[.int .i64 0,.int .i64 0,.int .i64 0,.int .i64 0,.int .u32 0,.int .u32 0,.int .u32 0,.bool false] (λw=>by kernel_rfl) rfl (λw4 b9 X4 l4 f4=>?_);intro K2 hK2;go_simp;refine hK2 _ _ ?_;clear hK2 K2;refine bx rfl 46 (.tmp 8) (.tmp 15) rfl b9 (fp ev).toArray rfl rfl 46 _ X4 (by kernel_rfl) rfl (eE_ok.one ev |> all_oneCell_toArray) (λw5 g1 g2 g3 g4=>?_);intro K2 hK2;go_simp;refine hK2 _ _ ?_;clear hK2 K2;have hb5:Below W.heap.size W w5:=l4.trans (g3 _ (by simp only[Hid]at f4;omega));gi_wp2;have hi2:=hi;obtain⟨_,_,_,_,i2,i3,_⟩:=hi2
  have hlb:n0+2<b9:=by have:=aB i3;simp only[Hid]at f4;omega
  refine hK _ _ (qr (S:=λ_=>False) hb5.size (λk hk _=>hb5.block k hk) (λ_ h=>h.elim)) (KpT.of_below hb5 (by omega) (by omega)) (hi.below hn1 hb5) ⟨b9,hlb,g1,?_⟩;simp only[Array.replicate_succ,Array.replicate_zero,List.push_toArray,List.append_toArray,List.nil_append,List.cons_append]
 case body=>
  rintro l pre x a' W hl - hi ⟨Bx,hBx,XB,rfl⟩ hlt;have hkx:U32 E[x.1].k:=hk _ (List.getElem_mem _);have hst:=sP t E pre x;have hsi:=rL t E pre x;have hxl:x.1<400000:=aA x.2 hE;obtain⟨ev,hev⟩:∃ev,Hid (E[x.1]=ev):=⟨E[x.1],rfl⟩;rw[hev.out]at XB hst hsi hkx ⊢;obtain⟨xi,hxi⟩:∃xi,Hid (x.1=xi):=⟨x.1,rfl⟩;rw[hxi.out]at hst hsi hxl ⊢;simp only[Array.replicate_succ,Array.replicate_zero,List.push_toArray,List.append_toArray,List.nil_append,List.cons_append];obtain⟨q1,q2,q3,q4,q5,q6,q7,q8⟩:=ev;have y0:W.cell? ⟨Bx,0,none⟩=some (.int .i64 q1):=ae W Bx 0 _ 46 _ XB;have y4:W.cell? ⟨Bx,4,none⟩=some (.int .u32 q5):=ae W Bx 4 _ 46 _ XB;have y6:W.cell? ⟨Bx,6,none⟩=some (.int .u32 q7):=ae W Bx 6 _ 46 _ XB;obtain⟨p,c',L,h1,h2,h3,h4,h5,h6,h7,h8,h9,h10⟩:=hi;obtain⟨bo,hbo⟩:∃bo,Hid ((stA t E pre).2=bo):=⟨_,rfl⟩;rw[hbo.out]at h3 h8 hsi
  have hIk:stA t E (pre++[x])=stA t E pre->iA t E (pre++[x])=iA t E pre->GI n0 W0.heap.size w t E (pre++[x]) W:=λe e2=>⟨p,c',L,h1,h2,by rw[e,hbo.out];exact h3,h4,h5,by rw[e];exact h6,by simp<;>omega,⟨by rw[e2];exact h8.1.keep (by simp) (ah _) (λ_ _ _=>rfl),λe'=>h8.2 (by rw[e,hbo.out]at e';exact e')⟩,h9,h10⟩
  have z3:=ae W (n0+2) 0 _ 4 _ h3;have z2:=ae W (n0+1) 0 _ 35 _ h2;simp only at hkx hst;unfold stS at hst;simp only at hst;unfold iS at hsi;simp only at hsi;replace hS0:Hid (n0+5<=W0.heap.size):=aD hS0.symm;clear hl hc hk hG hG0 X0 X1 X2 X3 X4 hI0 e0
  by_cases a7:q1=7
  case neg=>
   rw[af a7]at hst hsi
   by_cases hbt:bo=true
   case neg=>
    have hbf:bo=false:=by simpa using hbt
    subst hbf;have hIW:=hIk hst (by rw[hsi,af (by simp)]);clear hbt hsi hIk h8;gi_wp2;exact⟨KeepsFrom.refl _ _,KpT.refl _ _ _,hIW⟩
   subst hbt
   by_cases a3:q1=3
   case pos=>
    subst a3;have hIW:=hIk hst (by rw[hsi,af (by simp)]);clear hsi hIk h8;gi_wp2;exact⟨KeepsFrom.refl _ _,KpT.refl _ _ _,hIW⟩
   rw[ag ⟨rfl,a3⟩]at hsi;obtain⟨z,hz,li,hli,r0,r1,r2,i0,i1,hup⟩:=h8.1.last (h8.2 rfl);clear h8 hIk;obtain⟨m,hm⟩:∃m,L.length=m+1:=⟨L.length - 1,by have:=(aj.1 hz).1;omega⟩
   obtain⟨gO,rfl⟩:∃gO,p=some ⟨gO,0,none⟩:=by
    rcases h4.form with⟨e,e'⟩|⟨gO,cc,e,_⟩
    ·rw[e']at hm;cases hm
    ·simp only[Value.slice.injEq]at e;exact⟨gO,e.1⟩
   have hzm:L[m]? = some z:=by rw[hm]at hz;exact hz
   obtain⟨cur1,hcur,hcs⟩:=ex eC_ok h4;have hrw:=(h4.at eC_ok).elem eC_ok hzm;rw[Nat.zero_add]at hrw;have z5:W.cell? ⟨gO,m * 6+5,none⟩=some z.inn:=hrw 5 _ rfl;have hgO:=h5 gO rfl;have h2':=h2;rw[hm]at h2 z2
   have m0:(0:Int)<=m:=by omega
   have m1:(m:Int)<m+1:=by omega
   have hmm:m<400000:=by omega
   have wm:IntKind.i64.wrap (m:Int)=m:=IntWalk.i64_in _ ⟨by omega,by omega⟩;clear z5
   have z5:∀w',Below W.heap.size W w'->w'.cell? ⟨gO,m * 6+5,none⟩=some z.inn:=λw' hb=>(((h4.below hb).at eC_ok).elem eC_ok hzm) 5 _ (by rfl) |> λh=>by rw[Nat.zero_add]at h;exact h
   gi_upto_region 8 with fail;refine g8 (λ⟨a,w,h⟩=>h) rfl ?_
   iterate 3 refine Zv ?_
   refine Zu (.int .i64 m) (by go_simp;try rw[wm]) ?_;refine Ze (.pointer (some ⟨gO,m * 6,none⟩)) ?_;go_wp2;gi_upto_region 9 with fail;refine g8 (λ⟨a,w,h⟩=>h) rfl ?_
   iterate 4 refine Zv ?_
   refine Zu z.inn (by have:=z5 W (ak _ _);first|(go_simp;done)|(go_simp;rfl)) ?_
   refine Zv ?_
   refine dJ rfl (.slice (some ⟨W.heap.size,0,none⟩) 1 1) (w':=W.alloc (.cells #[.int .i64 xi] 3)) (by first|kernel_rfl|(go_simp;done)|(go_simp;rfl)) ?_
   obtain⟨W1,bN,e8,eg,BN,hb1⟩:=aO W #[.int .i64 xi] 3;rw[e8,eg];clear e8 eg;refine Zk ?_;refine i5 jc rfl 23 Tryz.underlying23 8 Bq (.tmp 35) (.tmp 37) rfl _ li [(xi:Int)] rfl (hli.below hb1) bN 0 1 rfl (cG BN _ rfl) (by simp only[List.length_singleton];omega) (by decide) (λv2 W2 hO2 hg2 hl2=>?_);refine Zk ?_;obtain⟨p2,k2,rfl⟩:=hO2.form2
   have el:(li++[(xi:Int)]).length=li.length+1:=by simp
   rw[el]at hO2 hl2 ⊢;have kp2:∀k,k<W.heap.size->z.inn.ownBlock≠some k->W2.heap[k]? = W.heap[k]? := λk hk hn=>(hg2.block k (aA hk hb1.size) (λe=>hn e.symm)).trans (hb1.block k hk)
   have neO:z.inn.ownBlock≠some gO:=λe=>by
    obtain⟨cu,hcu⟩:=hli.blk e;rw[hcur]at hcu;simp only[Option.some.injEq,Obj.cells.injEq]at hcu;exact absurd hcu.2.1 (by decide)
   have hO42:Own eC W2 (.slice (some ⟨gO,0,none⟩) (m+1) c') L:=by
    rw[hm]at h4
    exact h4.keep λk hk=>by cases hk;exact kp2 gO (aB hcur) neO
   have hcur2:=(kp2 gO (aB hcur) neO).trans hcur
   have hsz:m * 6+5<cur1.size:=by rw[hm]at hcs;simp only[eC]at hcs;omega
   iterate 2 refine Zv ?_
   refine Zw 23 (m * 6+5) (.slice p2 (li.length+1) k2) (gK _ _ _) hcur2 hsz (λW3 s1 s2 s3=>?_);have hO3:Own eC W3 (.slice (some ⟨gO,0,none⟩) (m+1) c') (L.set m { z with ip:=p2,il:=li.length+1,ic:=k2 }):=dG (q:=5) (u:=.slice p2 (li.length+1) k2) eC_ok hO42 hcur2 hzm (by decide) rfl s1;have hsz2:W1.heap.size<=W2.heap.size:=hg2.size;have kp3:∀k,k<W.heap.size->k≠gO->z.inn.ownBlock≠some k->W3.heap[k]? = W.heap[k]? := λk hk h0 hn=>(s2 k h0).trans (kp2 k hk hn);have hsz3:W.heap.size<=W3.heap.size:=ar hb1.size (ar hsz2 (s3 0 (au _)).size);have hbn:Below n0 W W3:=((hb1.mono (by omega)).grown hg2 (by have:=hb1.size;omega) (λk e=>by have:=r2 k e;omega)).trans (s3 n0 (by omega))
   have iw:∀k,k<W0.heap.size->z.inn.ownBlock≠some k:=λk hk e=>by have:=r2 k e;omega
   have w5:n0+5<=W0.heap.size:=hS0.out;go_wp2;refine⟨qr (S:=λk=>k=gO\/z.inn.ownBlock=some k) hsz3 (λk hk hS=>kp3 k hk (λe=>hS (.inl e)) (λe=>hS (.inr e))) (λk hS=>?_),⟨kp3 _ (by omega) (by omega) (iw _ (by omega)),kp3 _ (by omega) (by omega) (iw _ (by omega)),hsz3⟩,?_⟩
   ·rcases hS with rfl|e
    ·exact⟨_,_,_,hcur⟩
    ·obtain⟨cu,hcu⟩:=hli.blk e
     exact⟨_,_,_,hcu⟩
   refine⟨some ⟨gO,0,none⟩,c',L.set m { z with ip:=p2,il:=li.length+1,ic:=k2 },(kp3 _ (by omega) (by omega) (iw _ (by omega))).trans h1,?_,?_,?_,λj e=>(by cases e;exact hgO),?_,?_,?_,ar h9 hsz3,h10.trans hbn⟩
   ·rw[List.length_set,hm];exact(kp3 _ (by omega) (by omega) (iw _ (by omega))).trans h2
   ·rw[hst,hbo.out];exact(kp3 _ (by omega) (by omega) (iw _ (by omega))).trans h3
   ·rw[List.length_set,hm];exact hO3
   ·rw[hst,<-h6,List.map_set]
    refine List.ext_getElem? λk=>?_
    rw[List.getElem?_set]
    split
    ·rename_i e;subst e
     split
     ·rw[List.getElem?_map,hzm];rfl
     ·rename_i h;exact absurd (by simp<;>omega) h
    ·rfl
   ·simp<;>omega
   ·have hlast:(iA t E pre).length - 1=m:=by omega
    have hgd:(iA t E pre).getD m []=li:=by rw[List.getD_eq_getElem?_getD,show m=L.length - 1 by omega,i0];rfl
    have hu:=hup.out W3 (pre++[x]).length { z with ip:=p2,il:=li.length+1,ic:=k2 } (li++[(xi:Int)]) (by simp) hsz3 (by simp) (by simp<;>omega) (hO2.keep λk hk=>s2 k λe=>?_) (λj hj=>?_) (λk cur hc hn=>kp3 k (aB hc) (λe=>?_) hn)
    ·rw[hsi,hlast,hgd]
     rw[show L.length - 1=m by omega]at hu
     exact⟨hu,λ_=>by simp<;>omega⟩
    ·subst e
     obtain⟨cu,hcu⟩:=hO2.blk hk;rw[hcur2]at hcu;simp only[Option.some.injEq,Obj.cells.injEq]at hcu;exact absurd hcu.2.1 (by decide)
    ·rcases hl2 with e|e
     ·exact .inl (e.symm.trans hj)
     ·have e2:=hj.symm.trans e
      simp only[Option.some.injEq]at e2;exact .inr (by have:=hb1.size;omega)
    ·subst e
     rw[hcur]at hc;simp only[Option.some.injEq,Obj.cells.injEq]at hc;exact absurd hc.2.1 (by decide)
  subst a7;rw[ag rfl]at hst hsi;have w5:n0+5<=W0.heap.size:=hS0.out;obtain⟨k0,k1⟩:=hkx
  by_cases aev:q7%2=0
  case pos=>
   rw[ag aev]at hst hsi;gi_upto_region 11 with fail;have z1:=ae W n0 0 _ 3 _ h1;have wq:IntKind.u32.wrap (q7.tdiv 2)=q7 / 2:=IntWalk.u32_quo _ _ ⟨k0,by omega,by omega⟩;have wi:IntKind.i64.wrap (q7 / 2)=q7 / 2:=IntWalk.i64_in _ ⟨by omega,by omega⟩;refine g8 (λ⟨a,w,h⟩=>h) rfl ?_
   iterate 3 refine Zv ?_
   refine Zu (.int .u32 (q7 / 2)) (by go_simp;try rw[wq]) ?_;refine Zu (.int .i64 (q7 / 2)) (by go_simp;try rw[wi]) ?_
   iterate 3 refine Zv ?_
   refine dJ rfl (.slice (some ⟨W.heap.size,0,none⟩) 1 1) (w':=W.alloc (.cells #[.int .i64 (q7 / 2),.int .i64 t,.int .i64 xi,.int .i64 (-1),.int .u32 0,.slice none 0 0] 41)) (by first|kernel_rfl|(go_simp;done)|(go_simp;rfl)) ?_
   obtain⟨W1,bN,e8,eg,BN,hb1⟩:=aO W #[.int .i64 (q7 / 2),.int .i64 t,.int .i64 xi,.int .i64 (-1),.int .u32 0,.slice none 0 0] 41;rw[e8,eg];clear e8 eg;refine Zk ?_;refine i5 eC_ok rfl 35 Tryz.underlying35 64 DL (.tmp 46) (.tmp 54) rfl _ L [⟨q7 / 2,t,xi,-1,0,none,0,0⟩] rfl (h4.below hb1) bN 0 1 rfl (cG BN _ rfl) (by simp only[List.length_singleton];omega) (by decide) (λv2 W2 hO2 hg2 hl2=>?_);refine Zk ?_;obtain⟨p2,k2,rfl⟩:=hO2.form2
   have el:(L++[(⟨q7 / 2,t,xi,-1,0,none,0,0⟩:CR)]).length=L.length+1:=by simp
   rw[el]at hO2 hl2 ⊢;have kp2:∀k,k<W.heap.size->(Value.slice p L.length c').ownBlock≠some k->W2.heap[k]? = W.heap[k]? := λk hk hn=>(hg2.block k (aA hk hb1.size) (λe=>hn e.symm)).trans (hb1.block k hk)
   have iw:∀k,k<W0.heap.size->(Value.slice p L.length c').ownBlock≠some k:=λk hk e=>by have:=h5 k e;omega
   have h22:=(kp2 _ (by omega) (iw (n0+1) (by omega))).trans h2;have h32:=(kp2 _ (by omega) (iw (n0+2) (by omega))).trans h3
   have h5':∀j,(Value.slice p2 (L.length+1) k2).ownBlock=some j->W0.heap.size<=j:=λj hj=>by
    rcases hl2 with e|e
    ·exact h5 j (e.symm.trans hj)
    ·have e2:=hj.symm.trans e
     simp only[Option.some.injEq]at e2;have:=hb1.size;omega
   refine Zw 35 0 (.slice p2 (L.length+1) k2) (gK _ _ _) h22 (by simp) (λW3 s1 s2 s3=>?_);go_wp2;gi_upto_region 12 with fail;refine g8 (λ⟨a,w,h⟩=>h) rfl ?_;have h33:=(s2 (n0+2) (by omega)).trans h32;refine Zw 4 0 (.bool true) (oy _) h33 (by simp) (λW4 u1 u2 u3=>?_);have hsz2:W1.heap.size<=W2.heap.size:=hg2.size;have kp3:∀k,k<W.heap.size->k≠n0+1->k≠n0+2->(Value.slice p L.length c').ownBlock≠some k->W4.heap[k]? = W.heap[k]? := λk hk h0 h1 hn=>(u2 k h1).trans ((s2 k h0).trans (kp2 k hk hn));have hsz3:W.heap.size<=W4.heap.size:=ar hb1.size (ar hsz2 (ar (s3 0 (au _)).size (u3 0 (au _)).size));have hbn:Below n0 W W4:=(((hb1.mono (by omega)).grown hg2 (by have:=hb1.size;omega) (λk e=>by have:=h5 k e;omega)).trans (s3 n0 (by omega))).trans (u3 n0 (by omega));have hO4:Own eC W4 (.slice p2 (L.length+1) k2) (L++[⟨q7 / 2,t,xi,-1,0,none,0,0⟩]):=hO2.keep λk hk=>(u2 k (by have:=h5' k hk;omega)).trans (s2 k (by have:=h5' k hk;omega));go_wp2;refine⟨qr (S:=λk=>k=n0+1\/k=n0+2\/(Value.slice p L.length c').ownBlock=some k) hsz3 (λk hk hS=>kp3 k hk (λe=>hS (.inl e)) (λe=>hS (.inr (.inl e))) (λe=>hS (.inr (.inr e)))) (λk hS=>?_),⟨kp3 _ (by omega) (by omega) (by omega) (iw _ (by omega)),kp3 _ (by omega) (by omega) (by omega) (iw _ (by omega)),hsz3⟩,?_⟩
   ·rcases hS with rfl|rfl|e
    ·exact⟨_,_,_,h2⟩
    ·exact⟨_,_,_,h3⟩
    ·obtain⟨cu,hcu⟩:=h4.blk e
     exact⟨_,_,_,hcu⟩
   refine⟨p2,k2,L++[⟨q7 / 2,t,xi,-1,0,none,0,0⟩],(kp3 _ (by omega) (by omega) (by omega) (iw _ (by omega))).trans h1,?_,?_,?_,?_,?_,?_,?_,ar h9 hsz3,h10.trans hbn⟩
   ·rw[el];exact(u2 _ (by omega)).trans s1
   ·rw[hst];exact u1
   ·rw[el];exact hO4
   ·rw[el];exact h5'
   ·rw[hst,List.map_append,h6];rfl
   ·simp<;>omega
   ·have hpk:∀(k:Nat)(cur:Array Value),W.heap[k]? = some (.cells cur 3 (0,0))->W4.heap[k]? = W.heap[k]? := λk cur hc=>kp3 k (aB hc) (λe=>by subst e;rw[h2]at hc;simp only[Option.some.injEq,Obj.cells.injEq]at hc;exact absurd hc.2.1 (by decide)) (λe=>by subst e;rw[h3]at hc;simp only[Option.some.injEq,Obj.cells.injEq]at hc;exact absurd hc.2.1 (by decide)) (λe=>by
     obtain⟨cu,hcu⟩:=h4.blk e
     rw[hcu]at hc;simp only[Option.some.injEq,Obj.cells.injEq]at hc;exact absurd hc.2.1 (by decide))
    exact⟨by rw[hsi];exact h8.1.push (by simp) hsz3 hpk _ ⟨rfl,rfl,rfl⟩,λ_=>by simp⟩
  rw[af aev]at hst hsi;have z3':∀w',Below W.heap.size W w'->w'.cell? ⟨n0+2,0,none⟩=some (.bool bo):=λw' hb=>ae w' (n0+2) 0 _ 4 _ (keep h3 hb);gi_upto_region 13 with fail
  by_cases hbt:bo=true
  case neg=>
   have hbf:bo=false:=by simpa using hbt
   subst hbf
   have hIW:=hIk (by rw[hst];split<;>first|rfl|(rw[af (by rw[hbo.out];simp)])) hsi
   clear hbt hIk h8;refine lk (λ⟨a,w,h⟩=>h) rfl (λw'=>Below W.heap.size W w') (by kernel_rfl) (by kernel_rfl) (Below.drew (ak _ _)) ?_
   iterate 2 refine Zz ?_
   iterate 12 refine Zs ?_
   iterate 2 refine Zz ?_
   refine aQ (λw2 h2'=>?_);gi_wp2;exact⟨qr (S:=λ_=>False) h2'.size (λk hk _=>h2'.block k hk) (λ_ h=>h.elim),KpT.of_below h2' (by omega) (by omega),hIW.below hn1 h2'⟩
  subst hbt;obtain⟨z,hz,li,hli,r0,r1,r2,i0,i1,hup⟩:=h8.1.last (h8.2 rfl);clear h8;obtain⟨m,hm⟩:∃m,L.length=m+1:=⟨L.length - 1,by have:=(aj.1 hz).1;omega⟩
  obtain⟨gO,rfl⟩:∃gO,p=some ⟨gO,0,none⟩:=by
   rcases h4.form with⟨e,e'⟩|⟨gO,cc,e,_⟩
   ·rw[e']at hm;cases hm
   ·simp only[Value.slice.injEq]at e;exact⟨gO,e.1⟩
  have hzm:L[m]? = some z:=by rw[hm]at hz;exact hz
  have hS1:(stA t E pre).1[(stA t E pre).1.length - 1]? = some (crK z):=by rw[<-h6,List.length_map,hm,Nat.add_sub_cancel,List.getElem?_map,hzm];rfl
  have hSl:(stA t E pre).1.length - 1=m:=by rw[<-h6,List.length_map,hm];rfl
  rw[hS1,hSl]at hst;simp only[hbo.out,true_and]at hst;have hgO:=h5 gO rfl
  have m0:(0:Int)<=m:=by omega
  have m1:(m:Int)<m+1:=by omega
  have hmm:m<400000:=by omega
  have wm:IntKind.i64.wrap (m:Int)=m:=IntWalk.i64_in _ ⟨by omega,by omega⟩;have wq:IntKind.u32.wrap (q7.tdiv 2)=q7 / 2:=IntWalk.u32_quo _ _ ⟨k0,by omega,by omega⟩;have wi:IntKind.i64.wrap (q7 / 2)=q7 / 2:=IntWalk.i64_in _ ⟨by omega,by omega⟩
  have zo:∀w',Below W.heap.size W w'->w'.cell? ⟨n0+1,0,none⟩=some (.slice (some ⟨gO,0,none⟩) (m+1) c'):=λw' hb=>by rw[ae w' (n0+1) 0 _ 35 _ (keep h2 hb),hm];rfl
  have ze:∀w',Below W.heap.size W w'->w'.cell? ⟨gO,m * 6,none⟩=some (.int .i64 z.site):=λw' hb=>(((h4.below hb).at eC_ok).elem eC_ok hzm) 0 _ (by rfl) |> λh=>by rw[Nat.zero_add]at h;exact h
  have y6':∀w',Below W.heap.size W w'->w'.cell? ⟨Bx,6,none⟩=some (.int .u32 q7):=λw' hb=>(World.cell?_of_block (hb.block Bx (aB XB))).trans y6
  by_cases aeq:z.site=q7 / 2
  case neg=>
   have hIW:=hIk (by rw[hst];rw[af];exact aeq) hsi;clear hIk
   have beq:(z.site == q7 / 2)=false:=by simpa using aeq
   refine lk (λ⟨a,w,h⟩=>h) rfl (λw'=>Below W.heap.size W w') (by kernel_rfl) (by kernel_rfl) (Below.drew (ak _ _)) ?_
   iterate 5 refine Zz ?_
   refine Zy (.int .i64 m) (λw' h'=>by go_simp;try rw[wm]) ?_;refine Zt (.pointer (some ⟨gO,m * 6,none⟩)) ?_
   iterate 4 refine Zz ?_
   refine Zy (.int .u32 (q7 / 2)) (λw' h'=>by go_simp;try rw[wq]) ?_;refine Zy (.int .i64 (q7 / 2)) (λw' h'=>by go_simp;try rw[wi]) ?_;refine Zy (.bool false) (λw' h'=>by go_simp;try rw[beq]) ?_
   iterate 2 refine Zz ?_
   refine aQ (λw2 h2'=>?_);clear z3' zo ze y6';gi_wp2;exact⟨qr (S:=λ_=>False) h2'.size (λk hk _=>h2'.block k hk) (λ_ h=>h.elim),KpT.of_below h2' (by omega) (by omega),hIW.below hn1 h2'⟩
  have beq:(z.site == q7 / 2)=true:=by simpa using aeq
  rw[ag (show(crK z).site=q7 / 2 from aeq)]at hst;refine lk (λ⟨a,w,h⟩=>h) rfl (λw'=>Below W.heap.size W w') (by kernel_rfl) (by kernel_rfl) (Below.drew (ak _ _)) ?_
  iterate 5 refine Zz ?_
  refine Zy (.int .i64 m) (λw' h'=>by go_simp;try rw[wm]) ?_;refine Zt (.pointer (some ⟨gO,m * 6,none⟩)) ?_
  iterate 4 refine Zz ?_
  refine Zy (.int .u32 (q7 / 2)) (λw' h'=>by go_simp;try rw[wq]) ?_;refine Zy (.int .i64 (q7 / 2)) (λw' h'=>by go_simp;try rw[wi]) ?_;refine Zy (.bool true) (λw' h'=>by go_simp;try rw[beq]) ?_
  iterate 2 refine Zz ?_
  refine aQ (λW1 hb1=>?_);clear z3' zo ze y6' hIk;have h2W:=keep h2 hb1;have h3W:=keep h3 hb1;have z2W:=ae W1 (n0+1) 0 _ 35 _ h2W;rw[hm]at z2W;have hO1:=h4.below hb1;rw[hm]at hO1;obtain⟨cur1,hcur,hcs⟩:=ex eC_ok hO1
  have hs4:m * 6+4<cur1.size:=by rw[hm]at hcs;simp only[eC]at hcs;omega
  have XB1:=keep XB hb1;obtain⟨eX,heX⟩:=Zh ((fp ⟨7,q2,q3,q4,q5,q6,q7,q8⟩).toArray);rw[<-heX.out]at XB1
  have neB:Bx≠gO:=λe=>by rw[e,hcur]at XB1;simp only[Option.some.injEq,Obj.cells.injEq]at XB1;exact absurd XB1.2.1 (by decide)
  have y4':∀w':World,w'.heap[Bx]? = some (.cells eX 46 (0,0))->w'.cell? ⟨Bx,4,none⟩=some (.int .u32 q5):=λw' hb=>(ae w' Bx 4 _ 46 _ hb).trans (by rw[heX.out];rfl);gi_upto_region 14 with fail;refine g8 (λ⟨a,w,h⟩=>h) rfl ?_
  iterate 3 refine Zv ?_
  refine Zu (.int .i64 m) (by go_simp;try rw[wm]) ?_;refine Ze (.pointer (some ⟨gO,m * 6,none⟩)) ?_;clear z2W z2 z3 y0 y4 y6;go_wp2;gi_upto_region 15 with fail;refine uV (D:=λw':World=>w'.heap[Bx]? = some (.cells eX 46 (0,0))) (λ⟨a,w,h⟩=>h) rfl [0,1,2,3,4,5,6] 10 12 _ rfl (by kernel_rfl) (by kernel_rfl) (by decide) (by kernel_rfl) ?_
  iterate 4 refine ZF ?_
  refine jt rfl rfl (by kernel_rfl) (.int .u32 q5) (λw' h'=>aE (by have:=y4' w' h';go_simp;try rfl)) (Zj ?_)
  iterate 2 refine ZF ?_
  refine jS ?_;show dU _ _ _ _ _ _ _ _ _ _;have q0:Below W1.heap.size W1 W1.drew:=Below.drew (ak _ _);refine ZM 7 (λv1 r1=>⟨λ_=>keep XB1 (q0.trans (r1.mono q0.size)),?_⟩);have f1:Below W1.heap.size W1 v1:=q0.trans (r1.mono q0.size);refine pr rfl rfl 3 (λw=>by kernel_rfl) (.tmp 83) (.tmp 79) rfl gO (m * 6+3) (.int .i64 xi) rfl (dw _) cur1 41 rfl rfl (keep hcur f1) (by omega) (λv2 s1 s2 s3=>?_);have XB2:=(s2 Bx neB).trans (keep XB1 f1);refine ZM 8 (λv3 r3=>⟨λ_=>keep XB2 r3,?_⟩);refine aR rfl rfl (.pointer (some ⟨gO,m * 6,none⟩)) (by go_simp) ?_;refine ZM 9 (λv4 r4=>⟨λ_=>keep (keep XB2 r3) r4,?_⟩);refine aR rfl rfl (.pointer (some ⟨gO,m * 6+4,none⟩)) (by go_simp) ?_;refine ZM 10 (λv5 r5=>⟨λ_=>keep (keep (keep XB2 r3) r4) r5,?_⟩);have f5:Below v2.heap.size v2 v5:=(r3.trans (r4.mono r3.size)).trans (r5.mono (ar r3.size r4.size));have hO2:Own eC v2 (.slice (some ⟨gO,0,none⟩) (m+1) c') (L.set m { z with fin:=(xi:Int) }):=dG (q:=3) (u:=.int .i64 xi) eC_ok (hO1.below f1) (keep hcur f1) hzm (by decide) rfl s1
  have hz2:(L.set m { z with fin:=(xi:Int) })[m]? = some { z with fin:=(xi:Int) }:=by rw[List.getElem?_set_self (by omega)]
  refine pr rfl rfl 37 (λw=>by kernel_rfl) (.tmp 85) (.tmp 81) rfl gO (m * 6+4) (.int .u32 q5) rfl gW _ 41 rfl rfl (keep s1 f5) (by simp<;>omega) (λv6 u1 u2 u3=>?_)
  refine bl (by kernel_rfl) (by kernel_rfl) (λW7 r7=>?_);have hO6:Own eC v6 (.slice (some ⟨gO,0,none⟩) (m+1) c') ((L.set m { z with fin:=(xi:Int) }).set m { z with fin:=(xi:Int),res:=q5 }):=dG (q:=4) (u:=.int .u32 q5) eC_ok (hO2.below f5) (keep s1 f5) hz2 (by decide) rfl u1;rw[List.set_set]at hO6;have hO7:=hO6.below r7;have e1':=hb1.size;have e2':=f1.size;have e3':=(s3 0 (au _)).size;have e5':=f5.size;have e6':=(u3 0 (au _)).size;have e7':=r7.size;have kp7:∀k,k<W.heap.size->k≠gO->W7.heap[k]? = W.heap[k]? := λk hk h0=>(r7.block k (by omega)).trans ((u2 k h0).trans ((f5.block k (by omega)).trans ((s2 k h0).trans ((f1.block k (by omega)).trans (hb1.block k hk)))));have hbn7:Below n0 W W7:=(((((hb1.mono (by omega)).trans (f1.mono (by omega))).trans (s3 n0 (by omega))).trans (f5.mono (by omega))).trans (u3 n0 (by omega))).trans (r7.mono (by omega));have hgW:∃cu,W.heap[gO]? = some (.cells cu 41 (0,0)):=h4.blk rfl;clear hO1 hO2 hO6 s1 s2 s3 u1 u2 u3 q0 f1 f5 r1 r3 r4 r5 r7 y4';gi_upto_region 16 with fail;refine g8 (λ⟨a,w,h⟩=>h) rfl ?_;refine Zw 4 0 (.bool false) (oy _) ((kp7 (n0+2) (by omega) (by omega)).trans h3) (by simp) (λW8 u1 u2 u3=>?_);have kp8:∀k,k<W.heap.size->k≠gO->k≠n0+2->W8.heap[k]? = W.heap[k]? := λk hk h0 h1=>(u2 k h1).trans (kp7 k hk h0);have e8':=(u3 0 (au _)).size;have hO8:Own eC W8 (.slice (some ⟨gO,0,none⟩) (m+1) c') (L.set m { z with fin:=(xi:Int),res:=q5 }):=hO7.keep λk hk=>u2 k (by cases hk;show gO≠n0+2;omega)
  go_wp2;refine⟨qr (S:=λk=>k=gO\/k=n0+2) (by omega) (λk hk hS=>kp8 k hk (λe=>hS (.inl e)) (λe=>hS (.inr e))) (λk hS=>?_),⟨kp8 _ (by omega) (by omega) (by omega),kp8 _ (by omega) (by omega) (by omega),by omega⟩,?_⟩
  ·rcases hS with rfl|rfl
   ·obtain⟨cu,hcu⟩:=hgW
    exact⟨_,_,_,hcu⟩
   ·exact⟨_,_,_,h3⟩
  refine⟨some ⟨gO,0,none⟩,c',L.set m { z with fin:=(xi:Int),res:=q5 },(kp8 _ (by omega) (by omega) (by omega)).trans h1,?_,?_,?_,λj e=>(by cases e;exact hgO),?_,?_,?_,by omega,h10.trans (hbn7.trans (u3 n0 (by omega)))⟩
  ·rw[List.length_set];exact(kp8 _ (by omega) (by omega) (by omega)).trans h2
  ·rw[hst];exact u1
  ·rw[List.length_set,hm];exact hO8
  ·rw[hst,<-h6,List.map_set];rfl
  ·simp<;>omega
  ·have hu:=hup.out W8 (pre++[x]).length { z with fin:=(xi:Int),res:=q5 } li (by simp) (by omega) r0 (by simp<;>omega) (hli.keep λk hk=>?_) (λj hj=>.inl hj) (λk cur hc hn=>kp8 k (aB hc) (λe=>?_) (λe=>?_))
   ·rw[show L.length - 1=m by omega]at hu i0
    rw[AC i0]at hu;rw[hsi];exact⟨hu,λe=>by rw[hst]at e;cases e⟩
   ·obtain⟨cu,hcu⟩:=hli.blk hk
    refine kp8 k (aB hcu) (λe=>?_) (λe=>?_)
    ·subst e;obtain⟨cu2,hcu2⟩:=hgW;rw[hcu2]at hcu;simp only[Option.some.injEq,Obj.cells.injEq]at hcu;exact absurd hcu.2.1 (by decide)
    ·subst e;rw[h3]at hcu;simp only[Option.some.injEq,Obj.cells.injEq]at hcu;exact absurd hcu.2.1 (by decide)
   ·subst e;obtain⟨cu2,hcu2⟩:=hgW;rw[hcu2]at hc;simp only[Option.some.injEq,Obj.cells.injEq]at hc;exact absurd hc.2.1 (by decide)
   ·subst e;rw[h3]at hc;simp only[Option.some.injEq,Obj.cells.injEq]at hc;exact absurd hc.2.1 (by decide)
 case done=>
  rintro D ys W hD rfl ⟨p,c,L,h1,h2,h3,h4,h5,h6,h7,h8,h9,h10⟩ hK;have c2:=ae W (n0+1) 0 _ 35 _ h2;gi_wp2;refine⟨by simp,.inl ⟨_,_,rfl,run_takeDeferred hK,?_⟩⟩;have hO':Own eC (W.putObj D (.deferred none)) (.slice p L.length c) L:=ownsRow_putObj h4 _ hK rfl;have hlF:(fm t E E.length).length<=400000:=ar (lN _ _ _) hE
  have hIn:InnM (W.putObj D (.deferred none)) L (iA t E (fm t E E.length)):=⟨h8.1.1,λi x hx=>by
   obtain⟨_,_,_,_,h⟩:=h8.1;obtain⟨l,a1,a2,a3,a4,_⟩:=h i x hx
   exact⟨l,a1,a2,ar a3 hlF,ownsRow_putObj a4 _ hK rfl⟩⟩
  exact⟨_,results_tmp rfl _ _ _,⟨.slice p L.length c,L,rfl,hO',h6,hIn,λj hj=>by have:=h5 j hj;omega⟩,e1▸h10.trans (belowK_b (w:=W0) hn0 W D _ _ hD hK rfl rfl)⟩
 case stop=>
  rintro D c pre W _ _ h _;exact h.elim
end
end Go.Proofs.YtldlcnaphednnaaGreatDoor
