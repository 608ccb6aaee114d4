/- Sites: where a call's site stands in the list of sites. What a code asks of memory lies in its object's words. All queues of a machine at once, and where its threads are. The steps of a thread, as all queues see them. -/
import Derived.Test.YtldlcnaphednnaaGreatDoorM41
import Derived.Test.YtldlcnaphednnaaGreatDoorM39
import Derived.Test.YtldlcnaphednnaaGreatDoorM27
set_option maxRecDepth 100000
set_option maxHeartbeats 32000000
set_option linter.unusedVariables false
set_option linter.unusedSimpArgs false
namespace Go.Proofs.YtldlcnaphednnaaGreatDoor
def kF(C:Cl):Prop:=∀t i,t<C.nt->i<C.len t->OpK (C.op t i)
theorem nN{C:Cl}{t:Nat}{s:Int}:∀{n:Nat},(∀i,i<n->OpK (C.op t i))->(g5 C t (C.op t) ([],s) n).2=s+(bh t (C.op t) n).length
 | 0,_=>by simp[g5,bh]
 | n+1,h=>by
  have ih:=nN (C:=C) (t:=t) (s:=s) (n:=n) (λi hi=>h i (by omega));have e:(g5 C t (C.op t) ([],s) (n+1)).2=(opF C t (g5 C t (C.op t) ([],s) n).2 (g5 C t (C.op t) ([],s) n).1 (C.op t n)).2:=rfl;rw[e];unfold bh;rw[List.length_append];rcases h n (by omega) with h|h|h|h|h|h|h
  ·rw[vA h];simp[h,ih]
  ·rw[vB h];simp[h,ih]
  ·rw[vQ h];simp[h,ih]
  ·rw[vZ h];simp[h,ih]
  ·rw[wM h];simp[h,ih]
  ·rw[vt h];simp[h,ih]
  ·rw[vu h];simp[h,ih];omega
theorem qp{C:Cl}(hK:kF C):∀t,t<=C.nt->tn C t=(bH C t).length
 | 0,_=>rfl
 | t+1,ht=>by
  have ih:=qp hK t (by omega);have e:tn C (t+1)=(g5 C t (C.op t) ([],tn C t) (C.len t)).2:=rfl;rw[e,nN (λi hi=>hK t i (by omega) hi),ih];simp[bH]
theorem ke{C:Cl}(hK:kF C){t n:Nat}(ht:t<C.nt)(hn:n<=C.len t):cZ C t n=((bH C t).length+(bh t (C.op t) n).length:Nat):=by
 unfold cZ;rw[nN (λi hi=>hK t i ht (by omega)),qp hK t (by omega)];omega
theorem lF(t:Nat)(op:Nat->X){n:Nat}:∀m,bh t op n <+: bh t op (n+m)
 | 0=>List.prefix_refl _
 | m+1=>(lF t op m).trans (by rw[<-Nat.add_assoc];exact List.prefix_append _ _)
theorem pw(C:Cl){t:Nat}:∀m,bH C t <+: bH C (t+m)
 | 0=>List.prefix_refl _
 | m+1=>(pw C m).trans (by rw[<-Nat.add_assoc];exact List.prefix_append _ _)
theorem sH{α:Type}{l l':List α}(h:l <+: l'){i:Nat}(hi:i<l.length):l'[i]? = l[i]? := by
 obtain⟨r,rfl⟩:=h;exact List.getElem?_append_left hi
theorem sg{C:Cl}(hK:kF C){t n:Nat}(ht:t<C.nt)(hn:n<C.len t)(h7:(C.op t n).k=7):(bH C C.nt)[(cZ C t n).toNat]? = some ⟨t,(C.op t n).a,(C.op t n).b,(C.op t n).K⟩:=by
 have e:=ke hK ht (Nat.le_of_lt hn);rw[e,Int.toNat_natCast]
 have h1:bH C (t+1) <+: bH C C.nt:=by
  have:=pw C (t:=t+1) (C.nt - (t+1))
  rwa [show t+1+(C.nt - (t+1))=C.nt by omega]at this
 have h2:bh t (C.op t) (n+1) <+: bh t (C.op t) (C.len t):=by
  have:=lF t (C.op t) (n:=n+1) (C.len t - (n+1))
  rwa [show n+1+(C.len t - (n+1))=C.len t by omega]at this
 have h3:(bh t (C.op t) (n+1)).length=(bh t (C.op t) n).length+1:=by simp[bh,h7]
 have h4:=h2.length_le
 have h5:(bH C (t+1)).length=(bH C t).length+(bh t (C.op t) (C.len t)).length:=by simp[bH]
 rw[sH h1 (by omega)];show(bH C t++bh t (C.op t) (C.len t))[_]? = _;rw[List.getElem?_append_right (by omega),Nat.add_sub_cancel_left,sH h2 (by omega)];simp[bh,h7]
theorem z8{C:Cl}(hK:kF C){t n m:Nat}(ht:t<C.nt)(hn:n<C.len t)(hm:m<C.len t)(n7:(C.op t n).k=7)(m7:(C.op t m).k=7)(e:cZ C t n=cZ C t m):n=m:=by
 rw[ke hK ht (Nat.le_of_lt hn),ke hK ht (Nat.le_of_lt hm)]at e
 have key:∀a b,a<b->(C.op t a).k=7->(bh t (C.op t) a).length<(bh t (C.op t) b).length:=λa b hab h=>by
  have h1:=(lF t (C.op t) (n:=a+1) (b - (a+1))).length_le;rw[show a+1+(b - (a+1))=b by omega]at h1
  have h2:(bh t (C.op t) (a+1)).length=(bh t (C.op t) a).length+1:=by simp[bh,h]
  omega
 rcases Nat.lt_trichotomy n m with h|h|h
 ·have:=key n m h n7;omega
 ·exact h
 ·have:=key m n h m7;omega
def bS(C:Cl)(s:Int):Int:=match(bH C C.nt)[s.toNat]? with
 | some x=>bs C x.obj.toNat
 | none=>0
theorem DO{C:Cl}(hK:kF C){t n j:Nat}(ht:t<C.nt)(hn:n<C.len t)(h7:(C.op t n).k=7)(ha:(C.op t n).a=j):bS C (cZ C t n)=bs C j:=by
 unfold bS;rw[sg hK ht hn h7];simp[ha]
theorem wB(C:Cl)(j:Nat):bs C (j+1)=bs C j+szP (C.f j) C.nt:=by
 unfold bs;simp[bsP]
theorem mI(C:Cl){j k:Nat}(h:j<=k):bs C j<=bs C k:=by
 induction k with
 | zero=>
  obtain rfl:j=0:=by omega
  exact Int.le_refl _
 | succ k ih=>
  by_cases e:j=k+1
  ·subst e;exact Int.le_refl _
  ·have:=ih (by omega)
   rw[wB];omega
theorem iB(C:Cl)(j:Nat):16<=bs C j:=mI C (au j)
theorem wL{C:Cl}(hK:kF C){t n:Nat}(ht:t<C.nt)(hn:n<C.len t)(h7:(C.op t n).k=7):0<=cZ C t n:=by
 rw[ke hK ht (Nat.le_of_lt hn)];omega
section
def tq(lo hi:Int)(I:Ins):Prop:=I.op≠27/\(aJ I.op=true->(I.b<0\/8<=I.b)/\lo<=I.k/\I.k<hi)
def RgL(lo hi:Int)(l:List Ins):Prop:=∀I∈l,tq lo hi I
def Rg(lo hi:Int)(st:BS):Prop:=RgL lo hi st.code
theorem CW(lo hi:Int):Rg lo hi BS.zero↔True:=iff_true_intro λI h=>by cases h
theorem mU{lo hi:Int}{st:BS}{x:Ins}:Rg lo hi (st.emit x)↔Rg lo hi st/\tq lo hi x:=by
 simp[Rg,RgL,BS.emit,or_imp,forall_and]
theorem yR{lo hi:Int}{st:BS}{a k:Int}:Rg lo hi (st.set a k)↔Rg lo hi st:=by
 rw[BS.set,mU];simp[tq,aJ]
theorem ur{lo hi:Int}{st:BS}{op a k:Int}:Rg lo hi (st.ask op a k)↔Rg lo hi st/\op≠27/\(aJ op=true->lo<=k/\k<hi):=by
 rw[BS.ask,mU];simp[tq]
theorem Fj{lo hi:Int}{st:BS}{a c k:Int}:Rg lo hi (st.cas a c k)↔Rg lo hi st/\lo<=k/\k<hi:=by
 rw[BS.cas,mU];simp[tq,aJ]
theorem Am{lo hi:Int}{st:BS}{op a x y:Int}:Rg lo hi (st.alu op a x y)↔Rg lo hi st/\tq lo hi ⟨op,a,x,y,0⟩:=mU
theorem sO{lo hi:Int}{st:BS}{n:ByteArray}:Rg lo hi (st.place n)↔Rg lo hi st:=by
 unfold BS.place Rg;split<;>exact Iff.rfl
theorem DK{lo hi:Int}{st:BS}{op a:Int}{n:ByteArray}:Rg lo hi (st.go op a n)↔Rg lo hi st/\tq lo hi ⟨op,a,0,0,0⟩:=by
 simp[Rg,RgL,BS.go,or_imp,forall_and]
theorem qI{op:Int}(h:bt op=true):aJ op=false:=by
 simp[bt]at h
 rcases h with h|h|h<;>subst h<;>rfl
theorem Ca{lo hi:Int}{o:List Ins}{i:Nat}{k:Int}(h:RgL lo hi o)(hj:bt (xQ o i)=true):RgL lo hi (uK o i k):=by
 unfold uK
 split
 ·rename_i x hx
  intro I hI;rcases jm hI with h1|rfl
  ·exact h I h1
  ·have:=h x (aC hx)
   refine⟨this.1,λe=>?_⟩
   have e1:xQ o i=x.op:=by simp[xQ,hx]
   rw[e1]at hj;rw[qI hj]at e;exact absurd e (by decide)
 ·exact h
theorem vO{lo hi:Int}{D:Plc}:∀{l:List Lnk} {o o':List Ins},RgL lo hi o->l.foldl (cQ D) (some o)=some o'->RgL lo hi o'
 | [],o,o',h,e=>by cases e;exact h
 | x :: l,o,o',h,e=>by
  rw[List.foldl_cons]at e
  cases e1:cQ D (some o) x with
  | none=>rw[e1,jZ]at e;cases e
  | some o1=>
   rw[e1]at e;refine vO ?_ e;simp only[cQ]at e1
   split at e1
   ·split at e1
    ·cases e1;exact Ca h (by assumption)
    ·cases e1
   ·cases e1
theorem jr{lo hi:Int}{st:BS}(h:Rg lo hi st):RgL lo hi st.fin.1:=by
 unfold BS.fin
 split
 ·intro I hI;cases hI
 ·rename_i o e
  split
  ·intro I hI;cases hI
  ·exact vO h e
theorem eH{lo hi:Int}:RgL lo hi (([],false):List Ins×Bool).1:=λI h=>by cases h
attribute [local simp] cE nV aW aS aI rV mJ nW iU ko ky jQ kp ll jD mW upS rY nh jO jN jJ jG na ks iQ nk ol sj rK g7 mg kn kk kq kU kw kG CW yR ur Fj Am mU sO DK tq aJ
theorem A2{o:O}{call th t base arg:Int}(k:o.k=1\/o.k=2)(hb:0<=base/\base+1<=4294967296):RgL base (base+1) (fy o call th t base arg).1:=by
 unfold fy
 (repeat' split)<;>first
  | (with_reducible refine jr ?_;(simp<;>omega);done)
  | exact eH
  | omega
theorem BZ{o:O}{call th t base arg:Int}(k:o.k=8)(hb:0<=base/\base+4<=4294967296):RgL base (base+4) (gP o call th t base arg).1:=by
 unfold gP
 (repeat' split)<;>first
  | (with_reducible refine jr ?_;(simp<;>omega);done)
  | exact eH
  | omega
theorem CX{o:O}{call th t base arg:Int}(k:o.k=6)(hb:0<=base/\base+4<=4294967296):RgL base (base+4) (fQ o call th t base arg).1:=by
 unfold fQ
 (repeat' split)<;>first
  | (with_reducible refine jr ?_;(simp<;>omega);done)
  | exact eH
  | omega
theorem Ce{o:O}{call th t base arg:Int}(k:o.k=7)(hb:0<=base/\base+3<=4294967296):RgL base (base+3) (fQ o call th t base arg).1:=by
 unfold fQ
 (repeat' split)<;>first
  | (with_reducible refine jr ?_;(simp<;>omega);done)
  | exact eH
  | omega
theorem yG{o:O}{call th t base:Int}(k:o.k=10)(hb:0<=base/\base+2<=4294967296):RgL base (base+2) (dS o call th t base).1:=by
 unfold dS
 (repeat' split)<;>first
  | (with_reducible refine jr ?_;(simp<;>omega);done)
  | exact eH
  | omega
theorem Bj{o:O}{call th t base:Int}(k:o.k=11)(hb:0<=base/\base+1<=4294967296):RgL base (base+1) (dS o call th t base).1:=by
 unfold dS
 (repeat' split)<;>first
  | (with_reducible refine jr ?_;(simp<;>omega);done)
  | exact eH
  | omega
theorem xI{o:O}{call th t base arg:Int}(k:o.k=12)(hb:0<=base/\base+(1+th)<=4294967296)(ht:0<=t/\t<th):RgL base (base+(1+th)) (dm o call th t base arg).1:=by
 unfold dm
 (repeat' split)<;>first
  | (with_reducible refine jr ?_;(simp<;>omega);done)
  | exact eH
  | omega
theorem xH{o:O}{call th t base arg:Int}(k:o.k=13\/o.k=15)(hb:0<=base/\base+2<=4294967296):RgL base (base+2) (dm o call th t base arg).1:=by
 unfold dm
 (repeat' split)<;>first
  | (with_reducible refine jr ?_;(simp<;>omega);done)
  | exact eH
  | omega
theorem FZ{o:O}{call th t base arg:Int}(k:o.k=14)(hb:0<=base/\base+(1+th)<=4294967296)(ht:0<=t/\t<th):RgL base (base+(1+th)) (rwF o call th t base arg).1:=by
 unfold rwF
 (repeat' split)<;>first
  | (with_reducible refine jr ?_;(simp<;>omega);done)
  | exact eH
  | omega
theorem AV{lo hi base:Int}(hb:0<=base/\lo<=base/\hi<=4294967296){st:BS}(h:Rg lo hi st):∀n:Nat,base+2+n<=hi->Rg lo hi (rdS st base n)
 | 0,_=>h
 | n+1,hn=>by
  have ih:=AV hb h n (by omega);simp[rdS,ur,aJ,ih];omega
theorem FF{o:O}{call th t base arg:Int}(k:o.k=9)(hn:0<=o.n)(hb:0<=base/\base+(2+o.n)<=4294967296)(ha:0<=arg):RgL base (base+(2+o.n)) (jR o call th t base arg).1:=by
 have hr:∀st,Rg base (base+(2+o.n)) st->Rg base (base+(2+o.n)) (rdS st base o.n.toNat):=λst h=>AV ⟨by omega,by omega,by omega⟩ h _ (by omega);unfold jR
 (repeat' split)<;>first
  | (with_reducible refine jr ?_;(simp<;>omega);done)
  | exact eH
  | omega
  | (with_reducible refine jr ?_;unfold mc;simp only[aI,DK,Am,ur,yR,sO];refine⟨⟨⟨hr _ ?_,?_⟩,?_⟩,?_⟩<;>simp<;>omega)
end
def gh(C:Cl)(j:Nat):Prop:=j<C.no/\3<=(C.f j).k/\(C.f j).k<=5
structure QOk(C:Cl)(j:Nat)(o:QO):Prop where
 ff:BA o.P (bs C j) o.hi C.nt o.F o.X
 hi:o.hi=bs C (j+1)
 code:∀(t:Nat) x,t<C.nt->rgt C x=true->x.k=7->x.a=j->(lu C t x).1=o.P x.b.toNat t/\(x.b=1\/x.b=2)
 once:∀{Q E s t I},o.X Q E s->t<C.nt->(s.th t).c=1->(o.P 1 t)[(s.th t).q]? = some I->swB I.op=true->(s.th t).d=false
 door:∀{t I},I∈o.P 1 t->swB I.op=true->I.b=8/\I.k=bs C j
 lop:∀{c t I},I∈o.P c t->oq I.op=true
 mem:∀a,bs C j<=a->a<o.hi->(mT C).getD a.toNat 0=o.F (a - bs C j)
def ROk(C:Cl):Prop:=∀(t n:Nat),t<C.nt->n<C.len t->(C.op t n).k=7->¬gh C (C.op t n).a.toNat->RgL (bs C (C.op t n).a.toNat) (bs C ((C.op t n).a.toNat+1)) (lu C t (C.op t n)).1
def cK(C:Cl)(t:Nat)(p:Nat×Nat):Prop:=p.1<C.len t/\(C.op t p.1).k=7/\1<=p.2
structure Pos(C:Cl)(t:Nat)(pc:Int)(p:Nat×Nat):Prop where
 n:p.1<=C.len t
 pc:pc=((ei C t p.1).length+p.2:Nat)
 q:p.1<C.len t->p.2<(mH C t p.1).length
 e:p.1=C.len t->p.2=0
structure TI(C:Cl)(S:List K8×Bool)(t:Nat)(p:Nat×Nat):Prop where
 inn:cK C t p->∃l c,S=(l++[c],true)/\c.site=cZ C t p.1/\c.fin=-1/\∀x∈l,0<=x.fin
 out:¬cK C t p->S.2=false/\∀x∈S.1,0<=x.fin
 st:∀c∈S.1,∃n,n<C.len t/\(C.op t n).k=7/\c.site=cZ C t n
def rg(M:Mac)(t:Nat):Nat->Int:=match tr M t with
 | some x=>x.2
 | none=>λ_=>0
def kgM(C:Cl)(M:Mac)(t:Nat):List K8×Bool:=kgF (bS C) t M.evs
structure MI(C:Cl)(o:Nat->QO)(M:Mac)(pl:Nat->Nat×Nat):Prop where
 pos:∀t,t<C.nt->∃pc r,tr M t=some (pc,r)/\Pos C t pc (pl t)
 ti:∀t,t<C.nt->TI C (kgM C M t) t (pl t)
 no:∀t,C.nt<=t->kgM C M t=([],false)
 oi:∀j,gh C j->∃D E s,OI C j (o j) M (rg M) pl (kgM C M) M.evs.length D E s
def mK(pl:Nat->Nat×Nat)(t:Nat)(p:Nat×Nat):Nat->Nat×Nat:=λu=>if u=t then p else pl u
theorem gS(pl:Nat->Nat×Nat)(t:Nat)(p:Nat×Nat):mK pl t p t=p:=ag rfl
theorem gZ{pl:Nat->Nat×Nat}{t u:Nat}{p:Nat×Nat}(h:u≠t):mK pl t p u=pl u:=af h
theorem zt{M M':Mac}{t:Nat}(h:tr M' t=tr M t):rg M' t=rg M t:=by unfold rg;rw[h]
theorem MI.quiet{C:Cl}{o:Nat->QO}{M M':Mac}{pl:Nat->Nat×Nat}(h:MI C o M pl)(ht:∀u,tr M' u=tr M u)(ho:∀lo hi s,0<=lo->On lo hi M s->On lo hi M' s){l:List Evt}(he:M'.evs=M.evs++l)(hl:∀x∈l,x.kind≠4/\x.kind≠7):MI C o M' pl:=by
 have hg:∀u,kgM C M' u=kgM C M u:=λu=>by unfold kgM;rw[he];exact kb (λx hx=>.inr (hl x hx))
 refine⟨λt h'=>by rw[ht];exact h.pos t h',λt h'=>by rw[hg];exact h.ti t h',λt h'=>by rw[hg];exact h.no t h',λj hj=>?_⟩;obtain⟨D,E,s,hO⟩:=h.oi j hj;exact⟨D,E,s,hO.to (by rw[he];simp) hO.X rfl (ho _ _ _ (by have:=iB C j;omega) hO.on) (λt _=>zt (ht t)) (λt _=>hg t)⟩
theorem MI.flush{C:Cl}{o:Nat->QO}{M:Mac}{pl:Nat->Nat×Nat}(h:MI C o M pl)(hq:∀j,gh C j->QOk C j (o j))(hM:MOk M)(u:Nat):MI C o (bD M u) pl:=by
 obtain⟨l,he,hl,ht⟩:∃l,(bD M u).evs=M.evs++l/\(∀x∈l,x.kind≠4/\x.kind≠7)/\∀v,tr (bD M u) v=tr M v:=by
  cases hb:bn M u with
  | nil=>rw[qT hM hb];exact⟨[],by simp,λx hx=>(by cases hx),λv=>rfl⟩
  | cons e l=>
   have hf:=oW (a:=e.1) (v:=e.2) hM hb;exact⟨_,hf.ev,λx hx=>(by rw[List.mem_singleton]at hx;subst hx;exact⟨by simp,by simp⟩),λv=>by unfold tr;rw[hf.th]⟩
 have hg:∀u',kgM C (bD M u) u'=kgM C M u':=λu'=>by unfold kgM;rw[he];exact kb (λx hx=>.inr (hl x hx))
 refine⟨λt h'=>by rw[ht];exact h.pos t h',λt h'=>by rw[hg];exact h.ti t h',λt h'=>by rw[hg];exact h.no t h',λj hj=>?_⟩;obtain⟨D,E,s,hO⟩:=h.oi j hj;obtain⟨s',h1,h2,h3⟩:=Af (hq j hj).ff (by have:=iB C j;omega) hM hO.on hO.X u;exact⟨D,E,s',hO.to (by rw[he];simp) h3 h1 h2 (λt _=>zt (ht t)) (λt _=>hg t)⟩
theorem MI.drain{C:Cl}{o:Nat->QO}{M:Mac}{pl:Nat->Nat×Nat}(h:MI C o M pl)(hq:∀j,gh C j->QOk C j (o j))(hM:MOk M)(u:Nat):∀k,MI C o (gr M u k) pl
 | 0=>h
 | k+1=>(h.drain hq hM u k).flush hq (kc hM u k).ok u
theorem MI.remote{C:Cl}{o:Nat->QO}{M:Mac}{pl:Nat->Nat×Nat}(h:MI C o M pl)(hq:∀j,gh C j->QOk C j (o j))(hM:MOk M):∀k,MI C o (fY M k) pl
 | 0=>h
 | k+1=>(h.remote hq hM k).drain hq (im hM k).ok k _
theorem oF{C:Cl}{j:Nat}{o:QO}(hq:QOk C j o){M M':Mac}{R R':Nat->Nat->Int}{pl:Nat->Nat×Nat}{G G':Nat->List K8×Bool}{N N':Nat}{D:List DE}{E:Nat}{s:LS}(h:OI C j o M R pl G N D E s){t:Nat}(ht:t<C.nt){p':Nat×Nat}(c0:inQ C j t (pl t)=0)(c1:inQ C j t p'=0)(hN:N<=N')(ho:On (bs C j) o.hi M s->On (bs C j) o.hi M' s)(hR:∀u,u≠t->R' u=R u)(hG:∀u,u≠t->G' u=G u)
  (hk:∀c∈(G' t).1,acq C j t c.site->0<=c.door->c∈(G t).1):∃D E s',OI C j o M' R' (mK pl t p') G' N' D E s':=by
 have e0:(s.th t).c=0:=(h.c t ht).trans c0
 have et:∀u,u≠t->(bv s.th t { s.th t with r:=R' t }) u=s.th u:=λu hu=>af hu
 have ea:(bv s.th t { s.th t with r:=R' t }) t={ s.th t with r:=R' t }:=ag rfl;have ho':=ho h.on;refine⟨D,E,{ s with th:=bv s.th t { s.th t with r:=R' t } },h.same ht hN (hq.ff.regs h.X ht e0 _) ⟨ho'.m,ho'.b⟩ et hR (λu hu=>gZ hu) hG ?_ ?_ ?_ hk ?_ ?_⟩
 ·simp only[ea]
 ·simp only[ea];rw[gS,e0,c1]
 ·simp only[ea];intro hh;exact absurd e0 hh
 ·intro hh;rw[e0]at hh;cases hh
 ·simp only[ea];intro hh;rw[e0]at hh;cases hh
theorem lH{C:Cl}{j t:Nat}{p:Nat×Nat}(h:¬cK C t p):inQ C j t p=0:=by
 unfold inQ;rw[af (λh'=>h ⟨h'.1,h'.2.1,h'.2.2.2⟩)]
theorem mQ{C:Cl}(hK:kF C){j t:Nat}(ht:t<C.nt){p:Nat×Nat}(hp:cK C t p)(c0:inQ C j t p≠1){s:Int}(hs:s=cZ C t p.1):¬acq C j t s:=λ⟨n,h1,h2,h3,h4,h5⟩=>by
 have e:=z8 hK ht hp.1 h1 hp.2.1 h2 (hs.symm.trans h5);subst e;refine c0 ?_;unfold inQ;rw[ag ⟨hp.1,hp.2.1,h3,hp.2.2⟩,h4];rfl
theorem uX{M1:Mac}{t:Nat}(hi:t<M1.threads.length)(T':Th):rg (fd M1 t T') t=T'.regs:=by
 unfold rg;rw[rD M1 hi,ag rfl]
theorem nI{lo hi:Int}{M:Mac}{s:LS}(h:On lo hi M s)(t:Nat)(T:Th):On lo hi (fd M t T) s:=⟨h.m,h.b⟩
theorem DJ{C:Cl}{b:Int->Int}{t:Nat}{L l:List Evt}{sw:Bool}{A:Int}(hl:EvL t sw A l){p:Nat×Nat}(h:TI C (kgF b t L) t p):
  (∀u:Nat,u≠t->kgF b u (L++l)=kgF b u L)/\(¬cK C t p->kgF b t (L++l)=kgF b t L)/\
  (cK C t p->∀l0 c,kgF b t L=(l0++[c],true)->kgF b t (L++l)=(l0++[if sw=true/\A=b c.site/\c.door<0 then { c with door:=L.length } else c],true)):=by
 unfold EvL at hl
 cases sw with
 | false=>
  have hq:∀u:Nat,kgF b u (L++l)=kgF b u L:=λu=>kb (λx hx=>.inr (hl x hx));exact⟨λu _=>hq u,λ_=>hq t,λ_ l0 c e=>by rw[hq,e];simp⟩
 | true=>
  obtain⟨e,rfl,h4,hA,hw⟩:=hl;refine⟨λu hu=>?_,λhn=>?_,λhn l0 c e0=>?_⟩
  ·rw[js,nu (.inl (by rw[hw];omega))]
  ·rw[js]
   obtain⟨h1,_⟩:=h.out hn;rcases hS:kgF b t L with⟨S1,S2⟩;rw[hS]at h1;simp only at h1;subst h1;exact Bs (by omega)
  ·rw[js,e0,Av h4]
   simp[hw,hA]
theorem qy{M:Mac}{t:Nat}{x:Int×(Nat->Int)}(h:tr M t=some x):t<M.threads.length:=by
 unfold tr trL at h
 by_cases e:t<M.threads.length
 ·exact e
 ·rw[List.getElem?_eq_none (by omega)]at h;cases h
theorem zU{M:Mac}{t:Nat}{x:Int×(Nat->Int)}(h:tr M t=some x):rg M t=x.2:=by unfold rg;rw[h]
theorem um{C:Cl}{j t:Nat}{p p':Nat×Nat}(e:p'.1=p.1)(h:cK C t p)(h':cK C t p'):inQ C j t p'=inQ C j t p:=by
 unfold inQ;have:=h.2.2;have:=h'.2.2;rw[e];simp only[*,and_true]
theorem sn{C:Cl}{o:Nat->QO}{M M1:Mac}{pl:Nat->Nat×Nat}(h:MI C o M pl)(ht:∀u,tr M1 u=tr M u){t:Nat}(hl:t<M1.threads.length){T':Th}{p':Nat×Nat}(hp:Pos C t T'.pc p'):∀u,u<C.nt->∃pc r,tr (fd M1 t T') u=some (pc,r)/\Pos C u pc (mK pl t p' u):=λu hu=>by
 rw[rD M1 hl]
 by_cases e:u=t
 ·subst e;rw[ag rfl,gS];exact⟨_,_,rfl,hp⟩
 ·rw[af e,ht,gZ e];exact h.pos u hu
theorem mM{M M1:Mac}(ht:∀u,tr M1 u=tr M u){t:Nat}(hl:t<M1.threads.length)(T':Th){u:Nat}(e:u≠t):rg (fd M1 t T') u=rg M u:=zt (by rw[rD M1 hl,af e,ht])
theorem MI.else{C:Cl}{o:Nat->QO}{M M1:Mac}{pl:Nat->Nat×Nat}(h:MI C o M pl)(hq:∀j,gh C j->QOk C j (o j))(hK:kF C){t:Nat}(ht:t<C.nt){sw:Bool}{A:Int}(he:StE M t sw A M1)(hA:∀j,gh C j->¬(bs C j<=A/\A<(o j).hi)){T':Th}{p':Nat×Nat}(hp:Pos C t T'.pc p')(hc:cK C t p'↔cK C t (pl t))(hn:cK C t p'->p'.1=(pl t).1)(c0:∀j,gh C j->inQ C j t (pl t)=0):MI C o (fd M1 t T') (mK pl t p'):=by
 obtain⟨pc,r,htr,_⟩:=h.pos t ht;have hl:t<M1.threads.length:=qy ((he.ef.t t).trans htr);obtain⟨l,hev,hEv⟩:=he.ev;have hti:=h.ti t ht;obtain⟨g1,g2,g3⟩:=DJ hEv hti
 have hg:∀u,kgM C (fd M1 t T') u=kgF (bS C) u (M.evs++l):=λu=>by unfold kgM;rw[<-hev];rfl
 have c1:∀j,gh C j->inQ C j t p'=0:=λj hj=>by
  by_cases hi:cK C t p'
  ·rw[um (hn hi) (hc.1 hi) hi];exact c0 j hj
  ·exact lH hi
 refine⟨sn h he.ef.t hl hp,λu hu=>?_,λu hu=>by rw[hg,g1 u (by omega)];exact h.no u hu,λj hj=>?_⟩
 ·rw[hg]
  by_cases e:u=t
  ·subst e
   rw[gS]
   by_cases hi:cK C u p'
   ·obtain⟨l0,c,e0,e1,e2,e3⟩:=hti.inn (hc.1 hi)
    rw[g3 (hc.1 hi) l0 c e0];refine⟨λ_=>⟨l0,_,rfl,?_,?_,e3⟩,λhh=>absurd hi hh,λc2 h2=>?_⟩
    ·split<;>(rw[hn hi];exact e1)
    ·split<;>exact e2
    ·rcases List.mem_append.1 h2 with h3|h3
     ·exact hti.st c2 (by rw[e0];exact List.mem_append_left _ h3)
     ·obtain⟨n,n1,n2,n3⟩:=hti.st c (by rw[e0];simp)
      refine⟨n,n1,n2,?_⟩;rw[List.mem_singleton]at h3;subst h3
      split<;>exact n3
   ·have hi':¬cK C u (pl u):=λhh=>hi (hc.2 hh)
    rw[g2 hi'];exact⟨λhh=>absurd hh hi,λ_=>hti.out hi',hti.st⟩
  ·rw[g1 u e,gZ e];exact h.ti u hu
 ·obtain⟨D,E,s,hO⟩:=h.oi j hj
  refine oF (hq j hj) hO ht (c0 j hj) (c1 j hj) (by show _<=M1.evs.length;rw[hev];simp) (λho=>nI (ho.eff (by have:=iB C j;omega) he.ef (hA j hj)) _ _) (λu hu=>mM he.ef.t hl T' hu) (λu hu=>by rw[hg];exact g1 u hu) ?_;rw[hg]
  by_cases hi:cK C t (pl t)
  ·obtain⟨l0,c,e0,e1,e2,e3⟩:=hti.inn hi
   rw[g3 hi l0 c e0];intro c2 h2 ha h0;have e0':kgM C M t=(l0++[c],true):=e0;rw[e0'];rcases List.mem_append.1 h2 with h3|h3
   ·exact List.mem_append_left _ h3
   ·exfalso
    rw[List.mem_singleton]at h3;subst h3;refine mQ hK ht hi (by rw[c0 j hj];decide) ?_ ha
    split<;>exact e1
  ·rw[g2 hi];intro c2 h2 _ _;exact h2
theorem MI.own{C:Cl}{o:Nat->QO}{M:Mac}{pl:Nat->Nat×Nat}(h:MI C o M pl)(hq:∀j,gh C j->QOk C j (o j))(hK:kF C){t:Nat}(ht:t<C.nt)(hN:M.evs.length<1000000){T:Th}(hT:tr M t=some (T.pc,T.regs)){j:Nat}(hj:gh C j)(hin:cK C t (pl t))(ha:(C.op t (pl t).1).a=j)(hb:(C.op t (pl t).1).b=1\/(C.op t (pl t).1).b=2){q:Nat}(hqq:(pl t).2=q+1){I:Ins}(hI:((o j).P (C.op t (pl t).1).b.toNat t)[q]? = some I){X:MT}{d:Int}(hx:GU M t T I q d X)(hsw:swB I.op=true->bn M t=[])(he:∀A',(aJ I.op=true->A'=adr I T.regs)->StE M t (swB I.op) A' X.1)(hp:Pos C t X.2.pc ((pl t).1,(lex I ⟨q,T.regs,db M,bn M t⟩).q+1)):MI C o (fd X.1 t X.2) (mK pl t ((pl t).1,(lex I ⟨q,T.regs,db M,bn M t⟩).q+1)):=by
 have hQ:=hq j hj;have hlo:=iB C j;obtain⟨D,E,s,hO⟩:=h.oi j hj;have ec:inQ C j t (pl t)=(C.op t (pl t).1).b.toNat:=ag ⟨hin.1,hin.2.1,ha,hin.2.2⟩;have sc:(s.th t).c=(C.op t (pl t).1).b.toNat:=(hO.c t ht).trans ec
 have sc0:(s.th t).c≠0:=by rw[sc];omega
 have sq:(s.th t).q=q:=by have:=hO.q t ht sc0;omega
 have sr:(s.th t).r=T.regs:=(hO.r t ht).trans (zU hT)
 have hI':((o j).P (s.th t).c t)[(s.th t).q]? = some I:=by rw[sc,sq];exact hI
 obtain⟨x1,x2⟩:=hQ.ff.exec hO.X (by have:=hO.len;simp<;>omega) ht sc0 hI' (λe=>by rw[hO.on.b t,hsw e];rfl)
 rw[sr]at x1
 obtain⟨A',hA',hAs,hAo⟩:∃A',(aJ I.op=true->A'=adr I T.regs)/\(aJ I.op=true->A'=adr I T.regs)/\∀j',gh C j'->j'≠j->¬(bs C j'<=A'/\A'<(o j').hi):=by
  by_cases e:aJ I.op=true
  ·refine⟨adr I T.regs,λ_=>rfl,λ_=>rfl,λj' hj' hne hh=>?_⟩
   have:=x1 e;rw[hQ.hi]at this;rw[(hq j' hj').hi]at hh;rcases Nat.lt_or_gt_of_ne hne with h1|h1
   ·have:=mI C (show j'+1<=j by omega);omega
   ·have:=mI C (show j+1<=j' by omega);omega
  ·exact⟨-1,λh'=>absurd h' e,λh'=>absurd h' e,λj' hj' hne hh=>by have:=iB C j';omega⟩
 have hE:=he A' hA';have hl:t<X.1.threads.length:=qy ((hE.ef.t t).trans hT);obtain⟨l,hev,hEv⟩:=hE.ev;have hti:=h.ti t ht;obtain⟨g1,g2,g3⟩:=DJ hEv hti
 have hg:∀u,kgM C (fd X.1 t X.2) u=kgF (bS C) u (M.evs++l):=λu=>by unfold kgM;rw[<-hev];rfl
 obtain⟨l0,c,e0,e1,e2,e3⟩:=hti.inn hin;have e0':kgM C M t=(l0++[c],true):=e0;have g3':=g3 hin l0 c e0;have hin':cK C t ((pl t).1,(lex I ⟨q,T.regs,db M,bn M t⟩).q+1):=⟨hin.1,hin.2.1,Nat.succ_le_succ (au _)⟩
 have hevl:M.evs.length<=(fd X.1 t X.2).evs.length:=by show _<=X.1.evs.length;rw[hev];simp
 refine⟨sn h hE.ef.t hl hp,λu hu=>?_,λu hu=>by rw[hg,g1 u (by omega)];exact h.no u hu,λj' hj'=>?_⟩
 ·rw[hg]
  by_cases e:u=t
  ·subst e
   rw[gS,g3'];refine⟨λ_=>⟨l0,_,rfl,?_,?_,e3⟩,λhh=>absurd hin' hh,λc2 h2=>?_⟩
   ·split<;>exact e1
   ·split<;>exact e2
   ·rcases List.mem_append.1 h2 with h3|h3
    ·exact hti.st c2 (by rw[e0];exact List.mem_append_left _ h3)
    ·obtain⟨n,n1,n2,n3⟩:=hti.st c (by rw[e0];simp)
     refine⟨n,n1,n2,?_⟩;rw[List.mem_singleton]at h3;subst h3
     split<;>exact n3
  ·rw[g1 u e,gZ e];exact h.ti u hu
 by_cases ej:j'=j
 ·subst ej
  have hm:=CZ (q:=q) (l:=s.b t) (m':=s.m) (m:=db M) x1 (λa b c=>hO.on.m a b c);have hf:=yK (q:=q) (m:=db M) (l:=bn M t) x1;rw[hO.on.b t]at hm;obtain⟨m1,m2,m3,m4⟩:=hm;rw[hf.1]at m1;rw[hf.2.1]at m2;rw[hf.2.2.2]at m3
  have hX3:∀a,(lex I ⟨q,T.regs,db M,ju (bs C j') (o j').hi (bn M t)⟩).m a=(lex I ⟨q,T.regs,db M,bn M t⟩).m a:=λa=>by rw[hf.2.2.1]
  obtain⟨Lx,hLx⟩:∃Lx,lex I ⟨(s.th t).q,(s.th t).r,s.m,s.b t⟩=Lx:=⟨_,rfl⟩
  have hLx':lex I ⟨q,T.regs,s.m,ju (bs C j') (o j').hi (bn M t)⟩=Lx:=by rw[<-hLx,sq,sr,hO.on.b t]
  rw[hLx']at m1 m2 m3 m4
  have hs':exS t I s={ m:=Lx.m,b:=bU s.b t Lx.b,th:=bv s.th t ⟨(s.th t).c,Lx.q,Lx.r,(s.th t).d || ((s.th t).c == 1 && swB I.op)⟩ }:=by unfold exS;rw[hLx]
  rw[hs']at x2
  have hon:On (bs C j') (o j').hi (fd X.1 t X.2) { m:=Lx.m,b:=bU s.b t Lx.b,th:=bv s.th t ⟨(s.th t).c,Lx.q,Lx.r,(s.th t).d || ((s.th t).c == 1 && swB I.op)⟩ }:=by
   refine nI ⟨λa a1 a2=>?_,λu=>?_⟩ _ _
   ·show Lx.m a=_
    rw[hx.m a (by omega),m4 a a1 a2,hX3]
   ·show bU s.b t Lx.b u=_
    rw[hx.b u];unfold bU
    by_cases e:u=t
    ·rw[ag e,ag e,m3]
    ·rw[af e,af e];exact hO.on.b u
  have et:∀u,u≠t->bv s.th t ⟨(s.th t).c,Lx.q,Lx.r,(s.th t).d || ((s.th t).c == 1 && swB I.op)⟩ u=s.th u:=λu hu=>af hu
  have ea:bv s.th t ⟨(s.th t).c,Lx.q,Lx.r,(s.th t).d || ((s.th t).c == 1 && swB I.op)⟩ t=⟨(s.th t).c,Lx.q,Lx.r,(s.th t).d || ((s.th t).c == 1 && swB I.op)⟩:=ag rfl
  have hrg:Lx.r=rg (fd X.1 t X.2) t:=by rw[uX hl,hx.r,m2]
  have hc':(s.th t).c=inQ C j' t (mK pl t ((pl t).1,(lex I ⟨q,T.regs,db M,bn M t⟩).q+1) t):=by rw[gS,um (p:=pl t) (p':=((pl t).1,(lex I ⟨q,T.regs,db M,bn M t⟩).q+1)) rfl hin hin'];exact hO.c t ht
  have hq':Lx.q+1=(mK pl t ((pl t).1,(lex I ⟨q,T.regs,db M,bn M t⟩).q+1) t).2:=by rw[gS,m1]
  by_cases hd:(s.th t).c=1/\swB I.op=true
  ·rw[ag hd]at x2
   have hd0:=hQ.once hO.X ht hd.1 (by rw[<-hd.1];exact hI') hd.2;obtain⟨cl,hcl,hcd⟩:=hO.dd t ht hd.1;rw[e0',List.getLast?_concat]at hcl;cases hcl
   have has:aJ I.op=true:=by have:=hd.2;simp[swB]at this;simp[aJ];omega
   obtain⟨b1,b2⟩:=hQ.door (aC (by rw[<-hd.1];exact hI')) hd.2
   have hAb:A'=bS C c.site:=by
    rw[hA' has,e1,DO hK ht hin.1 hin.2.1 ha];unfold adr;rw[ag (.inr (by omega)),b2]
   have hdl:c.door<0:=by
    by_cases h0:0<=c.door
    ·rw[hcd.2 h0]at hd0;cases hd0
    ·omega
   rw[ag ⟨hd.2,hAb,hdl⟩]at g3';refine⟨_,E,_,hO.door ht (N':=(fd X.1 t X.2).evs.length) ?_ x2 hon et (λu hu=>mM hE.ef.t hl X.2 hu) (λu hu=>gZ hu) (λu hu=>by rw[hg];exact g1 u hu) ?_ ?_ ?_ hd0 ?_ ?_ (l:=l0) (c:=c) (by rw[e0']) (by rw[hg,g3']) e2⟩
   ·show _<X.1.evs.length
    have hEv':=hEv;unfold EvL at hEv';rw[ag hd.2]at hEv';obtain⟨e,rfl,_⟩:=hEv';rw[hev];simp
   ·simp only[ea];exact hrg
   ·simp only[ea];exact hc'
   ·simp only[ea];intro _;exact hq'
   ·simp only[ea];exact hd.1
   ·simp only[ea];simp[hd.1,hd.2]
  ·rw[af hd]at x2
   have hdd:(s.th t).c=1->swB I.op=false:=λe=>by
    cases h':swB I.op with
    | false=>rfl
    | true=>exact absurd ⟨e,h'⟩ hd
   have hlast:(s.th t).c=1->kgM C (fd X.1 t X.2) t=kgM C M t:=λe=>by
    rw[hg,g3',hdd e,e0'];simp
   refine⟨D,E,_,hO.same ht hevl x2 hon et (λu hu=>mM hE.ef.t hl X.2 hu) (λu hu=>gZ hu) (λu hu=>by rw[hg];exact g1 u hu) ?_ ?_ ?_ ?_ ?_ ?_⟩
   ·simp only[ea];exact hrg
   ·simp only[ea];exact hc'
   ·simp only[ea];intro _;exact hq'
   ·intro c2 h2 hac h0
    by_cases e:(s.th t).c=1
    ·rw[hlast e]at h2;exact h2
    ·rw[hg,g3']at h2
     rw[e0'];rcases List.mem_append.1 h2 with h3|h3
     ·exact List.mem_append_left _ h3
     ·exfalso
      rw[List.mem_singleton]at h3;subst h3;refine mQ hK ht hin (by rw[<-hO.c t ht];exact e) ?_ hac
      split<;>exact e1
   ·intro e e'
    simp only[ea];rw[hlast e];exact⟨e,by rw[e'];rfl,rfl⟩
   ·simp only[ea]
    intro e;rw[hlast e,hdd e]
    simpa using hO.dd t ht e
 ·obtain⟨D',E',s',hO'⟩:=h.oi j' hj'
  have c0:inQ C j' t (pl t)=0:=af (λhh=>ej (by have:=hh.2.2.1.symm.trans ha;omega));refine oF (hq j' hj') hO' ht c0 (by rw[um (p:=pl t) (p':=((pl t).1,(lex I ⟨q,T.regs,db M,bn M t⟩).q+1)) rfl hin hin'];exact c0) hevl (λho=>nI (ho.eff (by have:=iB C j';omega) hE.ef (hAo j' hj' ej)) _ _) (λu hu=>mM hE.ef.t hl X.2 hu) (λu hu=>by rw[hg];exact g1 u hu) ?_;rw[hg,g3',e0'];intro c2 h2 hac h0;rcases List.mem_append.1 h2 with h3|h3
  ·exact List.mem_append_left _ h3
  ·exfalso
   rw[List.mem_singleton]at h3;subst h3;refine mQ hK ht hin (by rw[c0];decide) ?_ hac
   split<;>exact e1
theorem MI.open{C:Cl}{o:Nat->QO}{M M1:Mac}{pl:Nat->Nat×Nat}(h:MI C o M pl)(hq:∀j,gh C j->QOk C j (o j))(hK:kF C){t:Nat}(ht:t<C.nt){T T':Th}(hT:tr M t=some (T.pc,T.regs))(he:Eff M M1 (-1)){e:Evt}(hev:M1.evs=M.evs++[e])(hk:e.kind=7)(hw:e.who=t){n:Nat}(hn:n<C.len t)(h7:(C.op t n).k=7)(hrt:rgt C (C.op t n)=true)(h0:pl t=(n,0))(hek:e.k=2 * cZ C t n)(hr:T'.regs=T.regs)(hp:Pos C t T'.pc (n,1)):MI C o (fd M1 t T') (mK pl t (n,1)):=by
 have hl:t<M1.threads.length:=qy ((he.t t).trans hT);have hti:=h.ti t ht
 have hin:¬cK C t (pl t):=λhh=>by have:=hh.2.2;rw[h0]at this;simp at this
 have hin':cK C t (n,1):=⟨hn,h7,ah _⟩
 have hg:∀u,kgM C (fd M1 t T') u=kgF (bS C) u (M.evs++[e]):=λu=>by unfold kgM;rw[<-hev];rfl
 have g1:∀u,u≠t->kgM C (fd M1 t T') u=kgM C M u:=λu hu=>by rw[hg];exact kb (λx hx=>by rw[List.mem_singleton]at hx;subst hx;left;rw[hw];omega)
 have g2:kgM C (fd M1 t T') t=((kgM C M t).1++[⟨cZ C t n,-1,-1⟩],true):=by
  rw[hg,js,AN hw hk (by omega),show e.k / 2=cZ C t n by omega];rfl
 have hNN:M.evs.length<=(fd M1 t T').evs.length:=by show _<=M1.evs.length;rw[hev];simp
 have hon:∀j,∀s,On (bs C j) (o j).hi M s->On (bs C j) (o j).hi (fd M1 t T') s:=λj s ho=>nI (ho.eff (by have:=iB C j;omega) he (λhh=>by have:=iB C j;omega)) _ _;refine⟨sn h he.t hl hp,λu hu=>?_,λu hu=>by rw[g1 u (by omega)];exact h.no u hu,λj hj=>?_⟩
 ·by_cases e':u=t
  ·subst e'
   rw[gS,g2];refine⟨λ_=>⟨_,_,rfl,rfl,rfl,(hti.out hin).2⟩,λhh=>absurd hin' hh,λc2 h2=>?_⟩;rcases List.mem_append.1 h2 with h3|h3
   ·exact hti.st c2 h3
   ·rw[List.mem_singleton]at h3;subst h3;exact⟨n,hn,h7,rfl⟩
  ·rw[g1 u e',gZ e'];exact h.ti u hu
 obtain⟨D,E,s,hO⟩:=h.oi j hj;have c0:inQ C j t (pl t)=0:=lH hin
 have hkk:∀c∈(kgM C (fd M1 t T') t).1,acq C j t c.site->0<=c.door->c∈(kgM C M t).1:=λc2 h2 _ hd=>by
  rw[g2]at h2;rcases List.mem_append.1 h2 with h3|h3
  ·exact h3
  ·rw[List.mem_singleton]at h3;subst h3;simp at hd
 by_cases ej:(C.op t n).a=j
 ·have hb:=((hq j hj).code t _ ht hrt h7 ej).2
  have sc:(s.th t).c=0:=(hO.c t ht).trans c0;have hX:=(hq j hj).ff.enter (c:=(C.op t n).b.toNat) hO.X ht sc (by omega);have ea:bv s.th t ⟨(C.op t n).b.toNat,0,(s.th t).r,false⟩ t=⟨(C.op t n).b.toNat,0,(s.th t).r,false⟩:=ag rfl;refine⟨D,E,_,hO.same ht hNN hX ⟨(hon j s hO.on).m,(hon j s hO.on).b⟩ (λu hu=>af hu) (λu hu=>mM he.t hl T' hu) (λu hu=>gZ hu) (λu hu=>g1 u hu) ?_ ?_ ?_ hkk ?_ ?_⟩
  ·simp only[ea];rw[uX hl,hr,hO.r t ht,zU hT]
  ·simp only[ea];rw[gS];exact(ag ⟨hn,h7,ej,ah _⟩).symm
  ·simp only[ea];intro _;rw[gS]
  ·intro hh;rw[sc]at hh;cases hh
  ·intro _;simp only[ea];exact⟨_,by rw[g2,List.getLast?_concat],by simp⟩
 ·exact oF (hq j hj) hO ht c0 (af (λhh=>ej hh.2.2.1)) hNN (hon j s) (λu hu=>mM he.t hl T' hu) (λu hu=>g1 u hu) hkk
theorem MI.shut{C:Cl}{o:Nat->QO}{M M1:Mac}{pl:Nat->Nat×Nat}(h:MI C o M pl)(hq:∀j,gh C j->QOk C j (o j))(hK:kF C){t:Nat}(ht:t<C.nt){T T':Th}(hT:tr M t=some (T.pc,T.regs))(he:Eff M M1 (-1)){e:Evt}(hev:M1.evs=M.evs++[e])(hk:e.kind=7)(hw:e.who=t){n:Nat}(hn:n<C.len t)(h7:(C.op t n).k=7)(hrt:rgt C (C.op t n)=true)(h0:pl t=(n,(lu C t (C.op t n)).1.length+1))(hek:e.k=2 * cZ C t n+1)(hr:T'.regs=T.regs)(hp:Pos C t T'.pc (n+1,0)):MI C o (fd M1 t T') (mK pl t (n+1,0)):=by
 have hl:t<M1.threads.length:=qy ((he.t t).trans hT);have hti:=h.ti t ht
 have hin:cK C t (pl t):=by rw[h0];exact⟨hn,h7,Nat.succ_le_succ (au _)⟩
 have hin':¬cK C t (n+1,0):=λhh=>by have:=hh.2.2;simp at this
 have hg:∀u,kgM C (fd M1 t T') u=kgF (bS C) u (M.evs++[e]):=λu=>by unfold kgM;rw[<-hev];rfl
 have g1:∀u,u≠t->kgM C (fd M1 t T') u=kgM C M u:=λu hu=>by rw[hg];exact kb (λx hx=>by rw[List.mem_singleton]at hx;subst hx;left;rw[hw];omega)
 obtain⟨l0,c,e0,e1,e2,e3⟩:=hti.inn hin
 have e1':c.site=cZ C t n:=by rw[e1,h0]
 have g2:kgM C (fd M1 t T') t=(l0++[{ c with fin:=M.evs.length }],false):=by
  rw[hg,js];have e0':kgF (bS C) t M.evs=(l0++[c],true):=e0;rw[e0',yq hw hk (by omega) (by omega)]
 have hNN:M.evs.length<(fd M1 t T').evs.length:=by show _<M1.evs.length;rw[hev];simp
 have hon:∀j,∀s,On (bs C j) (o j).hi M s->On (bs C j) (o j).hi (fd M1 t T') s:=λj s ho=>nI (ho.eff (by have:=iB C j;omega) he (λhh=>by have:=iB C j;omega)) _ _;refine⟨sn h he.t hl hp,λu hu=>?_,λu hu=>by rw[g1 u (by omega)];exact h.no u hu,λj hj=>?_⟩
 ·by_cases e':u=t
  ·subst e'
   rw[gS,g2];refine⟨λhh=>absurd hh hin',λ_=>⟨rfl,λx hx=>?_⟩,λc2 h2=>?_⟩
   ·rcases List.mem_append.1 hx with h3|h3
    ·exact e3 x h3
    ·rw[List.mem_singleton]at h3;subst h3;simp only;omega
   ·rcases List.mem_append.1 h2 with h3|h3
    ·exact hti.st c2 (by rw[e0];exact List.mem_append_left _ h3)
    ·rw[List.mem_singleton]at h3;subst h3;exact⟨n,hn,h7,e1'⟩
  ·rw[g1 u e',gZ e'];exact h.ti u hu
 obtain⟨D,E,s,hO⟩:=h.oi j hj;have c1:inQ C j t (n+1,0)=0:=lH hin'
 by_cases ej:(C.op t n).a=j
 ·obtain⟨hc1,hb⟩:=(hq j hj).code t _ ht hrt h7 ej
  have ec:inQ C j t (pl t)=(C.op t n).b.toNat:=by
   rw[h0];exact ag ⟨hn,h7,ej,Nat.succ_le_succ (au _)⟩
  have sc:(s.th t).c=(C.op t n).b.toNat:=(hO.c t ht).trans ec
  have sc0:(s.th t).c≠0:=by rw[sc];omega
  have sq:(s.th t).q=((o j).P (s.th t).c t).length:=by
   have:=hO.q t ht sc0;rw[h0]at this;rw[sc,<-hc1];simp only at this;omega
  have hX:=(hq j hj).ff.leave hO.X ht sc0 sq;have ea:bv s.th t { s.th t with c:=0 } t={ s.th t with c:=0 }:=ag rfl
  have r':(bv s.th t { s.th t with c:=0 } t).r=rg (fd M1 t T') t:=by rw[ea,uX hl,hr];exact(hO.r t ht).trans (zU hT)
  have c':(bv s.th t { s.th t with c:=0 } t).c=inQ C j t (mK pl t (n+1,0) t):=by rw[ea,gS,c1]
  by_cases hd:(s.th t).c=1/\(s.th t).d=true
  ·rw[ag hd]at hX
   have e0':kgM C M t=(l0++[c],true):=e0;obtain⟨D',hD'⟩:=hO.leave ht hNN hX.2 ⟨(hon j s hO.on).m,(hon j s hO.on).b⟩ hX.1 (λu hu=>af hu) (λu hu=>mM he.t hl T' hu) (λu hu=>gZ (p:=(n+1,0)) hu) (λu hu=>g1 u hu) r' c' (by simp only[ea]) (l:=l0) (c:=c) (by rw[e0']) (by rw[g2]) e3 e2;exact⟨D',_,_,hD'⟩
  ·rw[af hd]at hX
   refine⟨D,E,_,hO.same ht (Nat.le_of_lt hNN) hX ⟨(hon j s hO.on).m,(hon j s hO.on).b⟩ (λu hu=>af hu) (λu hu=>mM he.t hl T' hu) (λu hu=>gZ (p:=(n+1,0)) hu) (λu hu=>g1 u hu) r' c' ?_ ?_ ?_ ?_⟩
   ·simp only[ea];intro hh;exact absurd rfl hh
   ·intro c2 h2 hac h3
    have e0':kgM C M t=(l0++[c],true):=e0;rw[g2]at h2;rw[e0'];rcases List.mem_append.1 h2 with h4|h4
    ·exact List.mem_append_left _ h4
    ·exfalso
     rw[List.mem_singleton]at h4;subst h4
     by_cases e':(s.th t).c=1
     ·obtain⟨cl,hcl,hcd⟩:=hO.dd t ht e'
      rw[e0',List.getLast?_concat]at hcl;cases hcl;exact hd ⟨e',hcd.2 h3⟩
     ·exact mQ hK ht hin (by rw[<-hO.c t ht];exact e') e1 hac
   ·intro a1 a2;exact absurd ⟨a1,a2⟩ hd
   ·simp only[ea];intro hh;cases hh
 ·have c0:inQ C j t (pl t)=0:=by rw[h0];exact af (λhh=>ej hh.2.2.1)
  refine oF (hq j hj) hO ht c0 c1 (Nat.le_of_lt hNN) (hon j s) (λu hu=>mM he.t hl T' hu) (λu hu=>g1 u hu) ?_;intro c2 h2 hac h3;have e0':kgM C M t=(l0++[c],true):=e0;rw[g2]at h2;rw[e0'];rcases List.mem_append.1 h2 with h4|h4
  ·exact List.mem_append_left _ h4
  ·exfalso
   rw[List.mem_singleton]at h4;subst h4;exact mQ hK ht hin (by rw[c0];decide) e1 hac
end Go.Proofs.YtldlcnaphednnaaGreatDoor
