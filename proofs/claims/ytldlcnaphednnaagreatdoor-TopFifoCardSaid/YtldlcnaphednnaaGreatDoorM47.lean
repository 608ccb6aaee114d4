/- The queues of a client, its other objects, its machine at first; the law of queues. Marks bear numbers of 32 bits. The calls that the program gathers, and what is known of queues: the law. -/
import Derived.Test.YtldlcnaphednnaaGreatDoorM43
import Derived.Test.YtldlcnaphednnaaGreatDoorM46
import Derived.Test.YtldlcnaphednnaaGreatDoorM21
import Derived.Test.YtldlcnaphednnaaGreatDoorM27
import Derived.Test.YtldlcnaphednnaaGreatDoorM37
import Derived.Test.YtldlcnaphednnaaGreatDoorM32
set_option maxRecDepth 100000
set_option maxHeartbeats 32000000
set_option linter.unusedVariables false
set_option linter.unusedSimpArgs false
namespace Go.Proofs.YtldlcnaphednnaaGreatDoor
def szK(x:O)(n:Nat):Int:=if x.k<=2 then 1 else if x.k=3 then 3 else if x.k=4 then 2+n+n else if x.k=5 then 3+n+n+n else if x.k=6 then 4 else if x.k=7 then 3 else if x.k=8 then 4 else if x.k=9 then 2+x.n else if x.k=10 then 2 else if x.k=11 then 1 else if x.k=12\/x.k=14 then 1+n else 2
theorem qq{x:O}{n:Nat}(h:RP x n):((aT x n).length:Int)=szK x n:=by
 obtain⟨k,m,a,b⟩:=x;obtain⟨h1,h2,h3⟩:=h
 have hn:n<=8:=by omega
 simp only at h3;rcases h3 with h|h|h|h|h|h
 ·obtain⟨h|h,hm,_⟩:=h
  ·subst h hm;rw[fl6];simp[szK]
  ·subst h hm;rw[fl7];simp[szK]
 ·obtain⟨h,hm,_⟩:=h
  subst h hm;rw[fl8];simp[szK]
 ·obtain⟨h,hm,hm',_⟩:=h
  obtain⟨q,rfl⟩:∃q:Nat,m=q:=⟨m.toNat,by omega⟩;subst h;rw[fl9];simp[szK]
 ·obtain⟨h,_⟩:=h
  subst h;rw[fl11];simp[szK]
 ·obtain⟨h,_⟩:=h
  subst h;rw[Gg];simp[szK]
 ·obtain⟨h,hm,ha,hb⟩:=h
  subst hm ha hb
  have:k=1\/k=2\/k=3\/k=4\/k=5\/k=10\/k=12\/k=14\/k=15:=by omega
  rcases this with h|h|h|h|h|h|h|h|h<;>subst h
  ·rw[fl1 n hn];simp[szK]
  ·rw[fl2 n hn];simp[szK]
  ·rw[fl3 n hn];simp[szK]
  ·rw[fl4 n hn];simp[szK];omega
  ·rw[(fl5 n hn).1];simp[szK];omega
  ·rw[FP n hn];simp[szK]
  ·rw[Ge n hn];simp[szK]
  ·rw[FW n hn];simp[szK]
  ·rw[GF n hn];simp[szK]
theorem ng{C:Cl}(hc:gG C){j:Nat}(hj:j<C.no):bs C (j+1)=bs C j+szK (C.f j) C.nt:=by
 rw[wB,<-qq (hc.objs j hj)];unfold szP;rw[ag (hc.objs j hj)];rfl
theorem tf(C:Cl){j:Nat}(hj:j<=9):bs C j<=556:=by
 unfold bs;have:=uw C.f C.nt j;omega
theorem wK{C:Cl}(hc:gG C){t:Nat}{x:X}(h:0<=x.a/\x.a<C.no):lu C t x=l5 (C.f x.a.toNat) x.b C.nt t (bs C x.a.toNat) x.K:=by
 unfold lu
 have e:pU C.no x.a=x.a.toNat:=by unfold pU;omega
 have:=tf C (j:=x.a.toNat) (by have:=hc.no;omega)
 have h0:=iB C x.a.toNat
 rw[e];unfold bs at this h0 ⊢;rw[Int.emod_eq_of_lt (by omega) (by omega)]
theorem wh{lo hi:Int}{o:O}{call th t base arg:Int}(h:∀i,i<8->RgL lo hi (mkF i o call th t base arg).1):∀n i,i+n<=8->RgL lo hi (dF o call th t base arg n i).1
 | 0,_,_=>eH
 | n+1,i,hi=>by
  unfold dF
  split
  ·exact h i (by omega)
  ·exact wh h n (i+1) (by omega)
theorem rok{C:Cl}(hc:gG C)(hKb:∀t i,t<C.nt->i<C.len t->0<=(C.op t i).K/\(C.op t i).K<4294967296):ROk C:=λt n ht hn h7 hq=>by
 have hca:=ka (hc.ops t n ht hn) h7;have hK0:=(hKb t n ht hn).1;rw[wK hc hca];obtain⟨j,hj⟩:∃j,(C.op t n).a.toNat=j:=⟨_,rfl⟩;rw[hj]at hq ⊢
 have hjn:j<C.no:=by omega
 have hob:=hc.objs j hjn;have hbn:=ng hc hjn;have hb2:=tf C (j:=j+1) (by have:=hc.no;omega);have hb0:=iB C j
 have hk:¬(3<=(C.f j).k/\(C.f j).k<=5):=λh=>hq ⟨hjn,h⟩
 have hkr:=hob.2.2;rw[hbn]at hb2 ⊢
 have s0:∀{k:Int},(C.f j).k=k->szK (C.f j) C.nt=szK ⟨k,(C.f j).n,0,0⟩ C.nt:=λh=>by unfold szK;rw[h]
 show RgL _ _ (dF (C.f j) (C.op t n).b C.nt t (bs C j) (C.op t n).K 8 0).1;refine @wh _ _ (C.f j) (C.op t n).b C.nt t (bs C j) (C.op t n).K (λi hi=>?_) 8 0 (by omega)
 have ht2:0<=(t:Int)/\(t:Int)<C.nt:=by omega
 match i,hi with
 | 0,_=>
  show RgL _ _ (fy (C.f j) (C.op t n).b C.nt t (bs C j) (C.op t n).K).1
  by_cases e:(C.f j).k=1\/(C.f j).k=2
  ·have es:szK (C.f j) C.nt=1:=by unfold szK;rw[ag (by omega)]
   rw[es]at hb2 ⊢;exact A2 e (by omega)
  ·rw[oG (by omega)];exact eH
 | 1,_=>
  show RgL _ _ (fw (C.f j) (C.op t n).b C.nt t (bs C j) (C.op t n).K).1;rw[tS (by omega)];exact eH
 | 2,_=>
  show RgL _ _ (fQ (C.f j) (C.op t n).b C.nt t (bs C j) (C.op t n).K).1
  by_cases e:(C.f j).k=6
  ·have es:szK (C.f j) C.nt=4:=by rw[s0 e];simp[szK]
   rw[es]at hb2 ⊢;exact CX e (by omega)
  by_cases e':(C.f j).k=7
  ·have es:szK (C.f j) C.nt=3:=by rw[s0 e'];simp[szK]
   rw[es]at hb2 ⊢;exact Ce e' (by omega)
  ·rw[zS ⟨e,e'⟩];exact eH
 | 3,_=>
  show RgL _ _ (gP (C.f j) (C.op t n).b C.nt t (bs C j) (C.op t n).K).1
  by_cases e:(C.f j).k=8
  ·have es:szK (C.f j) C.nt=4:=by rw[s0 e];simp[szK]
   rw[es]at hb2 ⊢;exact BZ e (by omega)
  ·rw[wl e];exact eH
 | 4,_=>
  show RgL _ _ (jR (C.f j) (C.op t n).b C.nt t (bs C j) (C.op t n).K).1
  by_cases e:(C.f j).k=9
  ·have es:szK (C.f j) C.nt=2+(C.f j).n:=by rw[s0 e];simp[szK]
   rw[es]at hb2 ⊢;exact FF e (by omega) (by omega) hK0
  ·rw[Ar e];exact eH
 | 5,_=>
  show RgL _ _ (dS (C.f j) (C.op t n).b C.nt t (bs C j)).1
  by_cases e:(C.f j).k=10
  ·have es:szK (C.f j) C.nt=2:=by rw[s0 e];simp[szK]
   rw[es]at hb2 ⊢;exact yG e (by omega)
  by_cases e':(C.f j).k=11
  ·have es:szK (C.f j) C.nt=1:=by rw[s0 e'];simp[szK]
   rw[es]at hb2 ⊢;exact Bj e' (by omega)
  ·rw[tu ⟨e,e'⟩];exact eH
 | 6,_=>
  show RgL _ _ (dm (C.f j) (C.op t n).b C.nt t (bs C j) (C.op t n).K).1
  by_cases e:(C.f j).k=12
  ·have es:szK (C.f j) C.nt=1+C.nt:=by rw[s0 e];simp[szK]
   rw[es]at hb2 ⊢;exact xI e (by omega) ht2
  by_cases e':(C.f j).k=13\/(C.f j).k=15
  ·have es:szK (C.f j) C.nt=2:=by rcases e' with e'|e'<;>(rw[s0 e'];simp[szK])
   rw[es]at hb2 ⊢;exact xH e' (by omega)
  ·rw[vV (by omega)];exact eH
 | 7,_=>
  show RgL _ _ (rwF (C.f j) (C.op t n).b C.nt t (bs C j) (C.op t n).K).1
  by_cases e:(C.f j).k=14
  ·have es:szK (C.f j) C.nt=1+C.nt:=by rw[s0 e];simp[szK]
   rw[es]at hb2 ⊢;exact FZ e (by omega) ht2
  ·rw[DM e];exact eH
theorem mD{C:Cl}(hc:gG C):∀k,k<=C.no->((bf C k).length:Int)=bs C k
 | 0,_=>rfl
 | k+1,hk=>by
  have ih:=mD hc k (by omega);rw[ng hc (by omega),<-qq (hc.objs k (by omega)),<-ih];simp[bf]
theorem oP(C:Cl){k:Nat}:∀m,bf C k <+: bf C (k+m)
 | 0=>List.prefix_refl _
 | m+1=>(oP C m).trans (by rw[<-Nat.add_assoc];exact List.prefix_append _ _)
theorem vj{C:Cl}(hc:gG C){j:Nat}(hj:j<C.no){a:Int}(h0:bs C j<=a)(h1:a<bs C (j+1)):(mT C).getD a.toNat 0=pt (aT (C.f j) C.nt) (a - bs C j).toNat:=by
 have e1:=mD hc j (by omega);have e2:=mD hc (j+1) hj;have hp:=oP C (k:=j+1) (C.no - (j+1));rw[show j+1+(C.no - (j+1))=C.no by omega]at hp;have hb:=iB C j;unfold mT pt;rw[List.getD_eq_getElem?_getD,sH hp (by omega),List.getD_eq_getElem?_getD];show((bf C j++aT (C.f j) C.nt)[a.toNat]?).getD 0=_;rw[List.getElem?_append_right (by omega)];congr 2;omega
theorem yE{k b:Int}(hk:k=3\/k=4\/k=5)(h:may k b=true):b=1\/b=2:=by
 have e:gx (kdN k)=[1,2]:=by rcases hk with h|h|h<;>subst h<;>rfl
 unfold may at h;rw[e]at h;simp at h;omega
theorem pN{C:Cl}(hc:gG C){j:Nat}(hj:gh C j){t:Nat}{x:X}(ht:t<C.nt)(hr:rgt C x=true)(h7:x.k=7)(ha:x.a=j):(x.b=1\/x.b=2)/\a8 (C.f j) x.b C.nt t=true/\lu C t x=l5 (C.f j) x.b C.nt t (bs C j) x.K:=by
 have hca:=ka hr h7
 have e:x.a.toNat=j:=by omega
 have hb:may (C.f j).k x.b=true:=by
  unfold rgt at hr;rw[af (by omega),af (by omega),af (by omega),af (by omega),af (by omega),ag h7]at hr;unfold px at hr;rw[ag hca,e]at hr;simp only[Bool.and_eq_true]at hr;exact hr.1
 refine⟨yE (by have:=hj.2;omega) hb,?_,by rw[wK hc hca,e]⟩;unfold a8;rw[ag ⟨by omega,by omega,pM (hc.objs j hj.1)⟩];exact hb
theorem su{C:Cl}(hc:gG C){j:Nat}(hj:gh C j):C.f j=⟨(C.f j).k,0,0,0⟩:=by
 have h1:=(hc.objs j hj.1).2.2;have h2:=hj.2
 cases e:C.f j with
 | mk k n a b=>
  rw[e]at h1 h2;simp only at h1 h2
  have:n=0/\a=0/\b=0:=by omega
  simp[this]
def tkO(C:Cl)(j:Nat):QO:=⟨tkP (bs C j),bs C j+3,λ_=>0,λQ E s=>∃g,g.Q=Q/\g.E=E/\TkI (bs C j) C.nt g s⟩
def mcO(C:Cl)(j:Nat):QO:=⟨mcP (bs C j) C.nt,bs C j+2+C.nt+C.nt,λ_=>0,λQ E s=>∃g:McG,g.Q=Q/\g.E=E/\McI (bs C j) C.nt g s⟩
def clO(C:Cl)(j:Nat):QO:=⟨clP (bs C j) C.nt,bs C j+3+C.nt+C.nt+C.nt,clF C.nt,λQ E s=>∃g:ClG,g.Q=Q/\g.E=E/\ClI (bs C j) C.nt g s⟩
theorem rq{P:Nat->Nat->List Ins}{d q t:Nat}{I:Ins}(h:(P 1 t)[q]? = some I)(hs:swB I.op=true)(hl:((P 1 t).map λI=>swB I.op)=(List.range (P 1 t).length).map λi=>i == d):q=d:=by
 have h1:((P 1 t).map λI=>swB I.op)[q]? = some true:=by rw[List.getElem?_map,h];simp[hs]
 rw[hl,List.getElem?_map]at h1;have hq:=(aj.1 h).1;rw[List.getElem?_range hq]at h1
 simpa using h1
theorem G3{C:Cl}(hc:gG C){j:Nat}(hj:gh C j)(hk:(C.f j).k=3):QOk C j (tkO C j):=by
 have hb0:=iB C j;have hbn:=ng hc hj.1;have hb2:=tf C (j:=j+1) (by have:=hc.no;have:=hj.1;omega)
 have hs:szK (C.f j) C.nt=3:=by unfold szK;simp[hk]
 have hnt:=hc.good;unfold ld at hnt;rw[hs]at hbn;refine⟨Dn (by omega) (by omega),hbn.symm,λt x ht hr h7 ha=>?_,λ{Q E s t I} hX ht hcc hI hsw=>?_,λ{t I} hI hsw=>?_,λ{c t I} hI=>?_,λa h0 h1=>?_⟩
 ·obtain⟨h1,h2,h3⟩:=pN hc hj ht hr h7 ha
  refine⟨?_,h1⟩;rw[h3];unfold l5 dF mkF;simp only;rcases h1 with h1|h1
  ·rw[wI hk h2 h1,BI,ag rfl];simp[tkO,tkP,h1]
  ·rw[wv hk h2 (by omega),Dq,ag rfl];simp[tkO,tkP,h1]
 ·have hq:(s.th t).q=7:=rq (P:=tkP (bs C j)) hI hsw rfl
  obtain⟨g,_,_,h⟩:=hX;have:=h.lc t ht
  cases hd:(s.th t).d with
  | false=>rfl
  | true=>
   unfold tkT Gt at this;rw[hcc,hd,hq]at this;simp at this
 ·simp[tkO,tkP,tkA]at hI
  rcases hI with h|h|h|h|h|h|h|h|h|h|h|h|h<;>subst h<;>simp[swB]at hsw
  exact⟨rfl,by simp only;omega⟩
 ·show oq I.op=true
  simp only[tkO,tkP]at hI
  split at hI
  ·simp[tkA]at hI
   rcases hI with h|h|h|h|h|h|h|h|h|h|h|h|h<;>subst h<;>rfl
  ·simp[tkR]at hI
   rcases hI with h|h|h|h|h|h|h|h|h|h|h|h|h<;>subst h<;>rfl
 ·have h1':a<bs C (j+1):=by rw[hbn];exact h1
  rw[vj hc hj.1 h0 h1',su hc hj,hk,fl3 C.nt (by omega),sy];rfl
theorem Gu{C:Cl}(hc:gG C){j:Nat}(hj:gh C j)(hk:(C.f j).k=4):QOk C j (mcO C j):=by
 have hb0:=iB C j;have hbn:=ng hc hj.1;have hb2:=tf C (j:=j+1) (by have:=hc.no;have:=hj.1;omega)
 have hs:szK (C.f j) C.nt=2+C.nt+C.nt:=by unfold szK;simp[hk]
 have hnt:=hc.good;unfold ld at hnt;rw[hs]at hbn;refine⟨CQ (by omega) (by omega),by show bs C j+2+C.nt+C.nt=_;omega,λt x ht hr h7 ha=>?_,λ{Q E s t I} hX ht hcc hI hsw=>?_,λ{t I} hI hsw=>?_,λ{c t I} hI=>?_,λa h0 h1=>?_⟩
 ·obtain⟨h1,h2,h3⟩:=pN hc hj ht hr h7 ha
  refine⟨?_,h1⟩;rw[h3];unfold l5 dF mkF;simp only;rw[oG (by omega),af (by simp)];unfold dF mkF;simp only;rcases h1 with h1|h1
  ·rw[tY hk h2 h1,BL,ag rfl];simp[mcO,mcP,h1]
  ·rw[sQ hk h2 (by omega),Dp,ag rfl];simp[mcO,mcP,h1]
 ·have hq:(s.th t).q=11:=rq (P:=mcP (bs C j) C.nt) hI hsw rfl
  obtain⟨g,_,_,h⟩:=hX;have:=h.lc t ht
  cases hd:(s.th t).d with
  | false=>rfl
  | true=>
   unfold mcT mcW at this;rw[hcc,hd,hq]at this;simp at this
 ·simp[mcO,mcP,mcA]at hI
  rcases hI with h|h|h|h|h|h|h|h|h|h|h|h|h|h|h|h|h|h<;>subst h<;>simp[swB]at hsw
  exact⟨rfl,rfl⟩
 ·show oq I.op=true
  simp only[mcO,mcP]at hI
  split at hI
  ·simp[mcA]at hI
   rcases hI with h|h|h|h|h|h|h|h|h|h|h|h|h|h|h|h|h|h<;>subst h<;>rfl
  ·simp[mcR]at hI
   rcases hI with h|h|h|h|h|h|h|h|h|h|h|h|h|h|h|h|h|h|h|h<;>subst h<;>rfl
 ·have h1':a<bs C (j+1):=by rw[hbn];have:a<bs C j+2+C.nt+C.nt:=h1;omega
  rw[vj hc hj.1 h0 h1',su hc hj,hk,fl4 C.nt (by omega),sy];rfl
theorem Eo(n i:Nat):qh n n i=clF n (i:Int):=by
 unfold qh clF
 by_cases e:i=0
 ·simp[e]
 ·rw[af e,af (show ¬(i:Int)=0 by omega)]
  by_cases h:3+n<=i/\i<3+n+n
  ·rw[ag h,ag (show 3+(n:Int)<=i/\(i:Int)<3+n+n by omega)];omega
  ·rw[af h,af (show ¬(3+(n:Int)<=i/\(i:Int)<3+n+n) by omega)]
theorem GX{C:Cl}(hc:gG C){j:Nat}(hj:gh C j)(hk:(C.f j).k=5):QOk C j (clO C j):=by
 have hb0:=iB C j;have hbn:=ng hc hj.1;have hb2:=tf C (j:=j+1) (by have:=hc.no;have:=hj.1;omega)
 have hs:szK (C.f j) C.nt=3+C.nt+C.nt+C.nt:=by unfold szK;simp[hk]
 have hnt:=hc.good;unfold ld at hnt;rw[hs]at hbn;refine⟨Ck (by omega) (by omega),by show bs C j+3+C.nt+C.nt+C.nt=_;omega,λt x ht hr h7 ha=>?_,λ{Q E s t I} hX ht hcc hI hsw=>?_,λ{t I} hI hsw=>?_,λ{c t I} hI=>?_,λa h0 h1=>?_⟩
 ·obtain⟨h1,h2,h3⟩:=pN hc hj ht hr h7 ha
  refine⟨?_,h1⟩;rw[h3];unfold l5 dF mkF;simp only;rw[oG (by omega),af (by simp)];unfold dF mkF;simp only;rcases h1 with h1|h1
  ·rw[tT hk h2 h1,C3,ag rfl];simp[clO,clP,h1]
  ·rw[uk hk h2 (by omega),Dz,ag rfl];simp[clO,clP,h1]
 ·have hq:(s.th t).q=9:=rq (P:=clP (bs C j) C.nt) hI hsw rfl
  obtain⟨g,_,_,h⟩:=hX;have:=h.lc t ht
  cases hd:(s.th t).d with
  | false=>rfl
  | true=>
   unfold clT clW at this;rw[hcc,hd,hq]at this;simp at this
 ·simp[clO,clP,clA]at hI
  rcases hI with h|h|h|h|h|h|h|h|h|h|h|h|h|h|h<;>subst h<;>simp[swB]at hsw
  exact⟨rfl,rfl⟩
 ·show oq I.op=true
  simp only[clO,clP]at hI
  split at hI
  ·simp[clA]at hI
   rcases hI with h|h|h|h|h|h|h|h|h|h|h|h|h|h|h<;>subst h<;>rfl
  ·simp[clR]at hI
   rcases hI with h|h|h|h|h|h|h|h|h|h|h|h|h|h<;>subst h<;>rfl
 ·have h1':a<bs C (j+1):=by rw[hbn];have:a<bs C j+3+C.nt+C.nt+C.nt:=h1;omega
  obtain⟨f1,f2⟩:=fl5 C.nt (by omega);rw[vj hc hj.1 h0 h1',su hc hj,hk,<-f2 _ (by omega)];rw[Eo];show clF _ _=clF _ _;congr 1;omega
def qo(C:Cl)(j:Nat):QO:=if(C.f j).k=3 then tkO C j else if(C.f j).k=4 then mcO C j else clO C j
theorem DT{C:Cl}(hc:gG C)(j:Nat)(hj:gh C j):QOk C j (qo C j):=by
 have h:=hj.2;unfold qo
 split
 ·exact G3 hc hj ‹_›
 split
 ·exact Gu hc hj ‹_›
 ·exact GX hc hj (by omega)
theorem AO(codes:List (List Ins))(mem:List Int)(room:Int)(t:Nat):bn (jd codes mem room) t=[]:=by
 unfold bn jd;simp only[List.getElem?_replicate]
 split
 ·rename_i x hx
  split at hx
  ·cases hx;rfl
  ·cases hx
 ·rfl
theorem Fb{C:Cl}(hc:gG C)(hK:kF C):MI C (qo C) (jd (de C) (mT C) C.room) (λ_=>(0,0)):=by
 have hl:(de C).length=C.nt:=by
  by_cases e:C.nt=0
  ·unfold de;rw[e];rfl
  ·exact(iu C C.nt 0 (by omega)).2
 have htr:∀t,t<C.nt->tr (jd (de C) (mT C) C.room) t=some (th0.pc,th0.regs):=λt ht=>by
  unfold tr trL jd;simp only;rw[List.getElem?_replicate,ag (by omega)];rfl
 have hin:∀t,¬cK C t (0,0):=λt h=>by have:=h.2.2;simp at this
 refine⟨λt ht=>⟨_,_,htr t ht,au _,rfl,λh=>uj _ _ _,λ_=>rfl⟩,λt ht=>⟨λh=>absurd h (hin t),λ_=>⟨rfl,λx hx=>by cases hx⟩,λc hc=>by cases hc⟩,λ_ _=>rfl,λj hj=>?_⟩;have hQ:=DT hc j hj
 have hn:∀(p:Nat)(x:DE),([]:List DE)[p]? = some x->False:=λp x h=>by cases h
 exact⟨[],0,⟨db (jd (de C) (mT C) C.room),λ_=>[],λt=>⟨0,0,rg (jd (de C) (mT C) C.room) t,false⟩⟩,{
  X:=hQ.ff.init (λa h0 h1=>hQ.mem a h0 h1) (λ_=>rfl) (λ_=>rfl)
  on:=⟨λ_ _ _=>rfl,λt=>by rw[AO];rfl⟩
  el:=ah _
  r:=λ_ _=>rfl
  c:=λt _=>(lH (hin t)).symm
  q:=λ_ _ h=>absurd rfl h
  dp:=λp x h=>(hn p x h).elim
  ds:=λp p' x x' _ h=>(hn p x h).elim
  en:=λp x h=>(hn p x h).elim
  es:=λp p' x x' _ _ h=>(hn p x h).elim
  op:=λp x _ h=>(hn p x h).elim
  dd:=λ_ _ h=>by cases h
  al:=λt _ c h=>by cases h }⟩
theorem Cy{C:Cl}{o:Nat->QO}{M:Mac}{pl:Nat->Nat×Nat}(h:MI C o M pl){j:Nat}(hj:gh C j){t t':Nat}(ht:t<C.nt)(ht':t'<C.nt){c c':K8}(hc:c∈(kgM C M t).1)(hc':c'∈(kgM C M t').1)(ha:acq C j t c.site)(ha':acq C j t' c'.site)(h0:0<=c.door)(h0':0<=c'.door)(hlt:c.door<c'.door)(hf:0<=c'.fin):0<=c.fin/\c.fin<=c'.fin:=by
 obtain⟨D,E,s,hO⟩:=h.oi j hj;obtain⟨p,hp⟩:=List.getElem?_of_mem (hO.al t ht c hc ha h0);obtain⟨p',hp'⟩:=List.getElem?_of_mem (hO.al t' ht' c' hc' ha' h0')
 have hE':p'<E:=by
  by_cases e:p'<E
  ·exact e
  ·have:=(hO.en p' _ hp').2 (by omega);simp only at this;omega
 have hpp:p<p':=by
  rcases Nat.lt_trichotomy p p' with e|e|e
  ·exact e
  ·subst e
   have:=congrArg DE.door (Option.some.inj (hp.symm.trans hp'));simp only at this;omega
  ·have:=hO.ds p' p _ _ e hp' hp;simp only at this;omega
 have h1:=(hO.en p _ hp).1 (by omega);have h2:=hO.es p p' _ _ hpp hE' hp hp';simp only at h1 h2;omega
def EvU(M:Mac):Prop:=∀x∈M.evs,U32 x.k
theorem Ai{M Y:Mac}(h:EvU M){x:Evt}(e:Y.evs=M.evs++[x])(hx:U32 x.k):EvU Y:=λy hy=>by
 rw[e]at hy;rcases List.mem_append.1 hy with h1|h1
 ·exact h y h1
 ·rw[List.mem_singleton]at h1;subst h1;exact hx
theorem iF{M Y:Mac}(h:EvU M)(e:Y.evs=M.evs)(ti:Nat)(T:Th)(A:Int){x:Evt}(hx:U32 x.k):EvU (bK Y ti T A x):=Ai h (x:={ x with pc:=T.pc,addr:=A,who:=ti }) (by simp only[bK];rw[e]) hx
theorem pV{M:Mac}(h:EvU M)(i:Nat):EvU (bD M i):=by
 unfold bD
 split
 ·split
  ·exact Ai h rfl fJ
  ·exact h
 ·exact h
theorem tE{M:Mac}(h:EvU M)(i:Nat):∀k,EvU (gr M i k)
 | 0=>h
 | k+1=>pV (tE h i k) i
theorem qO{M:Mac}(h:EvU M):∀k,EvU (fY M k)
 | 0=>h
 | k+1=>tE (qO h k) k _
theorem oR{M:Mac}(h:EvU M)(ti:Nat)(T:Th)(a:Nat)(A old v:Int)(ok:Bool):EvU (bz M ti T a A old v ok).1:=iF h (by split<;>rfl) _ _ _ fJ
theorem D6{M:Mac}(h:EvU M)(ti:Nat)(T:Th)(I:Ins)(A:Int):EvU (cR M ti T I A).1:=by
 unfold cR
 split
 ·exact iF h rfl _ _ _ fJ
 split
 ·exact iF h (by unfold fj;split<;>rfl) _ _ _ fJ
 split
 ·exact oR h _ _ _ _ _ _ _
 split
 ·exact oR h _ _ _ _ _ _ _
 split
 ·exact oR h _ _ _ _ _ _ _
 split
 ·unfold me
  split
  ·exact(iF h rfl ti T A (x:=ev 8 (fo M ti A) 0 0 true) fJ:EvU (bK M ti T A _))
  ·exact iF h rfl _ _ _ fJ
 split
 ·exact iF h rfl _ _ _ fJ
 ·exact h
theorem CS{M:Mac}(h:EvU M)(ti:Nat)(T:Th){I:Ins}(hI:U32 I.k)(A:Int):EvU (cJ M ti T I A).1:=by
 unfold cJ
 split
 ·exact h
 split
 ·exact h
 split
 ·exact iF h rfl _ _ _ fJ
 split
 ·exact iF h rfl _ _ _ fJ
 split
 ·exact iF h rfl _ _ _ hI
 split
 ·exact iF (qO h _) rfl _ _ _ fJ
 split
 ·exact h
 ·exact h
theorem D2{M:Mac}(h:EvU M)(ti:Nat)(T:Th){I:Ins}(hI:U32 I.k)(A:Int):EvU (gn M ti T I A).1:=by
 unfold gn
 split
 ·exact pV h _
 split
 ·exact iF h rfl _ _ _ fJ
 split
 ·split<;>exact h
 split
 ·exact D6 h _ _ _ _
 ·exact CS h ti T hI A
theorem FM{M:Mac}(h:EvU M)(ti:Nat)(T:Th){code:List Ins}(hc:KOk code):EvU (jq M ti T code).1:=by
 have he:∀k s,EvU (lU M ti T k s).1:=λk s=>iF h rfl _ _ _ fJ
 unfold jq
 split
 ·split
  ·exact he _ _
  ·split
   ·rename_i I hI
    have hk:=hc I (aC hI);unfold pX
    split
    ·exact he _ _
    split
    ·split
     ·exact he _ _
     ·exact D2 h ti T hk _
    ·exact D2 h ti T hk _
   ·exact he _ _
 ·exact h
theorem D9{M:Mac}(h:EvU M)(hM:MOk M)(x:Pik):EvU (kV M x):=by
 unfold kV
 split
 ·exact h
 split
 ·unfold lY
  split
  ·rename_i T hT
   refine(FM h _ T ?_:EvU _);rw[List.getD_eq_getElem?_getD]
   cases e:M.codes[x.who.toNat]? with
   | none=>intro I hI;cases hI
   | some L=>exact(hM.codes L (aC e)).1
  ·exact h
 split
 ·exact pV h _
 split
 ·unfold nF
  split
  ·exact Ai h rfl fJ
  ·exact h
 ·exact h
theorem DI:∀(l:List Pik) {M:Mac},EvU M->MOk M->M.slp.length+l.length<=80000->EvU (m9 M l)
 | [],M,h,_,_=>h
 | x :: l,M,h,hM,hs=>by
  simp only[List.length_cons]at hs;have h1:=ss hM x (by omega);have h2:=h1.slp;exact DI l (D9 h hM x) h1.ok (by omega)
def lC(E:List Evt)(base:Int)(v:Int):Bool:=decide (0<=v) && match E[v.toNat]? with
 | some x=>decide (x.kind=4/\x.addr=base)
 | none=>false
def jC(E:List Evt)(base:Int)(l:List Int):Int:=match l.find? (lC E base) with
 | some v=>v
 | none=>-1
theorem pL(E:List Evt)(base:Int)(l:List Int)(i:Nat):jC E base (l++[(i:Int)])=if jC E base l<0/\lC E base i=true then(i:Int) else jC E base l:=by
 unfold jC;rw[List.find?_append]
 cases h:l.find? (lC E base) with
 | some v=>
  have hv:0<=v:=by
   have:=List.find?_some h;unfold lC at this;simp only[Bool.and_eq_true,decide_eq_true_eq]at this;exact this.1
  rw[Option.some_or,af (show ¬(v<0/\_) by omega)]
 | none=>
  simp only[Option.none_or,List.find?_cons,List.find?_nil]
  cases lC E base i with
  | true=>simp
  | false=>simp
def kD(E:List Evt)(b:Int->Int)(c:K5)(l:List Int):K8:=⟨c.site,c.fin,jC E (b c.site) l⟩
def Rl(E:List Evt)(b:Int->Int)(S:List K5×Bool)(Is:List (List Int))(G:List K8×Bool):Prop:=S.1.length=Is.length/\G=(List.zipWith (kD E b) S.1 Is,S.2)
theorem mN{α:Type}(l:List α):l=[]\/∃A c,l=A++[c]:=by
 rcases List.eq_nil_or_concat l with h|⟨A,c,h⟩
 ·exact .inl h
 ·exact .inr ⟨A,c,by rw[h];simp⟩
theorem Dw{E:List Evt}{b:Int->Int}{S:List K5×Bool}{Is:List (List Int)}{G:List K8×Bool}(h:Rl E b S Is G){t:Int}{i:Nat}{x:Evt}(hx:E[i]? = some x)(hw:x.who=t):Rl E b (stS t i x S) (iS i x S.2 Is) (kgS b t i x G):=by
 obtain⟨A,o⟩:=S;obtain⟨h1,rfl⟩:=h;simp only at h1;unfold stS iS kgS Rl;simp only;rw[ag hw]
 by_cases h7:x.kind=7
 ·rw[ag h7,ag h7,ag h7]
  by_cases h2:x.k%2=0
  ·rw[ag h2,ag h2,ag h2]
   refine⟨by simp[h1],?_⟩;simp only;rw[List.zipWith_append h1];rfl
  ·rw[af h2,af h2,af h2]
   rcases mN A with e|⟨A,c,e⟩
   ·subst e
    simp only[List.length_nil,List.zipWith_nil_left,List.getLast?_nil,List.getElem?_nil];refine⟨h1,?_⟩
    first|rfl|trivial
   rcases mN Is with e'|⟨B,l,e'⟩
   ·subst e e';simp at h1
   subst e e'
   have h3:A.length=B.length:=by simpa using h1
   have hz:List.zipWith (kD E b) (A++[c]) (B++[l])=List.zipWith (kD E b) A B++[kD E b c l]:=by rw[List.zipWith_append h3];rfl
   rw[hz];simp only[List.getLast?_concat,List.dropLast_concat,List.length_append,List.length_singleton,Nat.add_sub_cancel,List.getElem?_append_right (ah _),Nat.sub_self,List.getElem?_cons_zero]
   by_cases hc:o=true/\c.site=x.k / 2
   ·rw[ag hc,ag (show o=true/\(kD E b c l).site=x.k / 2 from hc)]
    refine⟨by simp[h3],?_⟩;simp only[List.set_append_right _ _ (ah _),Nat.sub_self,List.set_cons_zero];rw[List.zipWith_append h3];rfl
   ·rw[af hc,af (show ¬(o=true/\(kD E b c l).site=x.k / 2) from hc)]
    exact⟨by simp[h3],by rw[hz]⟩
 ·rw[af h7,af h7,af h7]
  by_cases ho:o=true
  case neg=>
   rw[af (λh=>ho h.1),af (λh=>ho h.2)];exact⟨h1,rfl⟩
  subst ho;rcases mN A with e|⟨A,c,e⟩
  ·subst e
   obtain rfl:Is=[]:=List.eq_nil_of_length_eq_zero (by simpa using h1.symm);simp only[List.zipWith_nil_left,List.getLast?_nil]
   refine⟨by split<;>rfl,?_⟩
   split<;>rfl
  rcases mN Is with e'|⟨B,l,e'⟩
  ·subst e e';simp at h1
  subst e e'
  have h3:A.length=B.length:=by simpa using h1
  have hz:∀l,List.zipWith (kD E b) (A++[c]) (B++[l])=List.zipWith (kD E b) A B++[kD E b c l]:=λl=>by rw[List.zipWith_append h3];rfl
  rw[hz];simp only[List.getLast?_concat,List.dropLast_concat,true_and,and_true]
  have hI:(if x.kind≠3 then(B++[l]).set ((B++[l]).length - 1) ((B++[l]).getD ((B++[l]).length - 1) []++[(i:Int)]) else B++[l])=B++[if x.kind≠3 then l++[(i:Int)] else l]:=by
   by_cases h3':x.kind=3
   ·simp[h3']
   ·simp[h3',List.getD_eq_getElem?_getD]
  rw[hI,hz];refine⟨by simp[h3],?_⟩
  have hd:lC E (b c.site) i=true↔x.kind=4/\x.addr=b c.site:=by
   unfold lC;rw[Int.toNat_natCast,hx];simp
  by_cases h4:x.kind=4
  ·have h3':x.kind≠3:=by omega
   rw[ag h4,ag h3'];have e:=pL E (b c.site) l i
   by_cases hc:x.addr=b c.site/\jC E (b c.site) l<0
   ·rw[ag (show x.addr=b (kD E b c l).site/\(kD E b c l).door<0 from hc)]
    rw[ag ⟨hc.2,hd.2 ⟨h4,hc.1⟩⟩]at e;simp only[kD,e]
   ·rw[af (show ¬(x.addr=b (kD E b c l).site/\(kD E b c l).door<0) from hc)]
    rw[af (λh=>hc ⟨(hd.1 h.2).2,h.1⟩)]at e;simp only[kD,e]
  ·rw[af h4]
   by_cases h3':x.kind=3
   ·rw[af (λh=>h h3')]
   ·have e:=pL E (b c.site) l i
    rw[af (λh=>h4 (hd.1 h.2).1)]at e;rw[ag h3'];simp only[kD,e]
theorem uB{α:Type}{l:List α}{k:Nat}(h:k<l.length):l.take (k+1)=l.take k++[l[k]]:=by
 rw[List.take_add_one,aq h];rfl
theorem Ag(E:List Evt)(b:Int->Int)(t:Nat):∀k,k<=E.length->Rl E b (stA t E (fm t E k)) (iA t E (fm t E k)) (kgF b t (E.take k))
 | 0,_=>⟨rfl,rfl⟩
 | k+1,hk=>by
  have ih:=Ag E b t k (by omega)
  have hlt:k<E.length:=by omega
  rw[uB hlt,js,List.length_take_of_le (by omega)];unfold fm;rw[dif_pos hlt]
  by_cases hw:(E[k]).who=t
  ·rw[ag hw,sP,rL]
   exact Dw ih (aq hlt) hw
  ·rw[af hw,List.append_nil,nu (.inl hw)]
   exact ih
theorem yz(E:List Evt)(b:Int->Int)(t:Nat):(K7 E t).length=(I7 E t).length/\(kgF b t E).1=List.zipWith (kD E b) (K7 E t) (I7 E t):=by
 have h:=Ag E b t E.length (ah _);rw[List.take_length]at h;exact⟨h.1,by rw[h.2];rfl⟩
theorem DH(t:Int)(E:List Evt):∀(n:Nat) (pre:List (Fin E.length)),pre.length=n->∀l∈iA t E pre,∀v∈l,0<=v/\v<E.length
 | 0,pre,h=>by
  obtain rfl:=List.eq_nil_of_length_eq_zero h;intro l hl;cases hl
 | n+1,pre,h=>by
  rcases mN pre with e|⟨A,x,e⟩
  ·subst e;cases h
  subst e;have ih:=DH t E n A (by simpa using h);rw[rL];unfold iS;have hx:=x.2
  split
  ·split
   ·intro l hl
    rcases List.mem_append.1 hl with h1|h1
    ·exact ih l h1
    ·rw[List.mem_singleton]at h1;subst h1;intro v hv;cases hv
   ·exact ih
  ·split
   ·intro l hl
    rcases List.mem_or_eq_of_mem_set hl with h1|h1
    ·exact ih l h1
    ·subst h1
     intro v hv;rcases List.mem_append.1 hv with h2|h2
     ·rw[List.getD_eq_getElem?_getD]at h2
      cases e:(iA t E A)[(iA t E A).length - 1]? with
      | none=>rw[e]at h2;cases h2
      | some l0=>rw[e]at h2;exact ih l0 (aC e) v h2
     ·rw[List.mem_singleton]at h2;subst h2;omega
   ·exact ih
def dI(C:Cl)(E:List Evt)(site:Int)(l:List Int):Int:=match(bH C C.nt)[site.toNat]? with
 | some s=>if 3<=(C.f s.obj.toNat).k/\(C.f s.obj.toNat).k<=5/\s.call=1 then jC E (bs C s.obj.toNat) l else -1
 | none=>-1
structure uY(C:Cl)(E:List Evt):Prop where
 site:∀(t q:Nat)(c:K5),t<8->(K7 E t)[q]? = some c->∃s,(bH C C.nt)[c.site.toNat]? = some s/\0<=c.site/\0<=s.obj/\s.obj<C.no
 inn:∀(t:Nat)(l:List Int),l∈I7 E t->∀v∈l,0<=v/\v<E.length
 fifo:∀(t t' q q':Nat)(c c':K5)(l l':List Int)(s s':xy),t<8->t'<8->(K7 E t)[q]? = some c->(K7 E t')[q']? = some c'->(I7 E t)[q]? = some l->(I7 E t')[q']? = some l'->(bH C C.nt)[c.site.toNat]? = some s->(bH C C.nt)[c'.site.toNat]? = some s'->s.obj=s'.obj->0<=dI C E c.site l->0<=dI C E c'.site l'->dI C E c.site l<dI C E c'.site l'->0<=c'.fin->0<=c.fin/\c.fin<=c'.fin
theorem xz{C:Cl}(hc:gG C)(hK:kF C){o:Nat->QO}{M:Mac}{pl:Nat->Nat×Nat}(h:MI C o M pl):uY C M.evs:=by
 have hg:∀(t q:Nat) c l,(K7 M.evs t)[q]? = some c->(I7 M.evs t)[q]? = some l->kD M.evs (bS C) c l∈(kgM C M t).1:=λt q c l h1 h2=>by
  unfold kgM;rw[(yz M.evs (bS C) t).2];refine aC (i:=q) ?_;rw[List.getElem?_zipWith,h1,h2]
 have hI:∀(t q:Nat) c,(K7 M.evs t)[q]? = some c->∃l,(I7 M.evs t)[q]? = some l:=λt q c h1=>by
  have e:=(yz M.evs (bS C) t).1;have:=(aj.1 h1).1;exact⟨_,aq (by omega)⟩
 have hnt:∀(t q:Nat) c l,(K7 M.evs t)[q]? = some c->(I7 M.evs t)[q]? = some l->t<C.nt:=λt q c l h1 h2=>by
  by_cases e:t<C.nt
  ·exact e
  ·have:=hg t q c l h1 h2
   rw[h.no t (by omega)]at this;cases this
 have hop:∀(t q:Nat) c l,(K7 M.evs t)[q]? = some c->(I7 M.evs t)[q]? = some l->∃n,n<C.len t/\(C.op t n).k=7/\c.site=cZ C t n:=λt q c l h1 h2=>(h.ti t (hnt t q c l h1 h2)).st _ (hg t q c l h1 h2)
 have hdoor:∀(t q:Nat) c l s,(K7 M.evs t)[q]? = some c->(I7 M.evs t)[q]? = some l->(bH C C.nt)[c.site.toNat]? = some s->0<=dI C M.evs c.site l->gh C s.obj.toNat/\acq C s.obj.toNat t c.site/\dI C M.evs c.site l=(kD M.evs (bS C) c l).door:=λt q c l s h1 h2 hs h0=>by
  obtain⟨n,n1,n2,n3⟩:=hop t q c l h1 h2;have ht:=hnt t q c l h1 h2;have hca:=ka (hc.ops t n ht n1) n2;have hsa:=sg hK ht n1 n2;rw[<-n3,hs]at hsa;cases hsa;unfold dI at h0 ⊢;rw[hs]at h0 ⊢;simp only at h0 ⊢
  split at h0
  ·rename_i hk
   rw[ag hk];refine⟨⟨by omega,hk.1,hk.2.1⟩,⟨n,n1,n2,by omega,hk.2.2,n3⟩,?_⟩;unfold kD;rw[n3,DO hK ht n1 n2 (j:=(C.op t n).a.toNat) (by omega)]
  ·omega
 refine⟨λt q c ht h1=>?_,λt l hl=>DH t M.evs _ _ rfl l hl,λt t' q q' c c' l l' s s' _ _ h1 h1' h2 h2' hs hs' ho h0 h0' hlt hf=>?_⟩
 ·obtain⟨l,h2⟩:=hI t q c h1
  obtain⟨n,n1,n2,n3⟩:=hop t q c l h1 h2;have ht:=hnt t q c l h1 h2;have hca:=ka (hc.ops t n ht n1) n2;exact⟨_,by rw[n3];exact sg hK ht n1 n2,by rw[n3];exact wL hK ht n1 n2,hca.1,hca.2⟩
 ·obtain⟨a1,a2,a3⟩:=hdoor t q c l s h1 h2 hs h0
  obtain⟨b1,b2,b3⟩:=hdoor t' q' c' l' s' h1' h2' hs' h0';rw[<-ho]at b2;rw[a3,b3]at hlt;rw[a3]at h0;rw[b3]at h0';exact Cy h a1 (hnt t q c l h1 h2) (hnt t' q' c' l' h1' h2') (hg t q c l h1 h2) (hg t' q' c' l' h1' h2') a2 b2 h0 h0' hlt hf
theorem Ev{C:Cl}(hKb:∀t i,t<C.nt->i<C.len t->0<=(C.op t i).K/\(C.op t i).K<4294967296)(s:List Int)(hs:s.length<=3000)(hok:okF C):uY C (ma C s):=by
 have hc:=lx hok.1;have hK:kF C:=λt i ht hi=>Gm (hc.ops t i ht hi);have hM:=oI hok.1 hKb hok.2
 have hl:(de C).length=C.nt:=by
  by_cases e:C.nt=0
  ·unfold de;rw[e];rfl
  ·exact(iu C C.nt 0 (by omega)).2
 obtain⟨pl,h⟩:=zz hc hK (DT hc) (rok hc hKb) (s.map fA) (Fb hc hK) hM rfl (by simp only[jd,List.length_replicate];exact hl) (by simp only[jd,List.length_nil,List.length_map];omega) (by simp only[jd,List.length_nil,List.length_map];omega);have:=xz hc hK h;unfold ma evF;rw[ag hok];exact this
theorem FI{C:Cl}(hKb:∀t i,t<C.nt->i<C.len t->0<=(C.op t i).K/\(C.op t i).K<4294967296)(s:List Int)(hs:s.length<=3000)(hok:okF C):∀x∈ma C s,U32 x.k:=by
 unfold ma evF;rw[ag hok];exact DI (s.map fA) (λx hx=>by cases hx) (oI hok.1 hKb hok.2) (by simp only[jd,List.length_nil,List.length_map];omega)
end Go.Proofs.YtldlcnaphednnaaGreatDoor
