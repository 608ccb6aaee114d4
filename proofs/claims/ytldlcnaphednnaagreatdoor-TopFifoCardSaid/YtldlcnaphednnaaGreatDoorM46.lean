/- Queues by nodes: who came first has it first. Plain. -/
import Derived.Test.YtldlcnaphednnaaGreatDoorM45
set_option maxRecDepth 100000
set_option maxHeartbeats 32000000
set_option linter.unusedVariables false
set_option linter.unusedSimpArgs false
namespace Go.Proofs.YtldlcnaphednnaaGreatDoor
def clP(b:Int)(n:Nat)(c t:Nat):List Ins:=if c=1 then clA b n t else clR b n t
def clL(b:Int)(n ph u R z d:Nat):List (Int×Int):=
 if ph=0 then(if R=0 then[] else[(b+3+n+n+u,(d:Int)),(b+1,(u:Int)+1),(b+1,0),(b+3+n+u,(d:Int)),(b+2+z,0)])
 else if ph=1 then[(b+3+n+n+u,(z:Int))] else if ph=2 then[(b+3+n+n+u,(z:Int)),(b+1,(u:Int)+1)]
 else if ph=3 then[(b+3+n+n+u,(z:Int)),(b+1,(u:Int)+1),(b+1,0)] else[(b+3+n+n+u,(z:Int)),(b+1,(u:Int)+1),(b+1,0),(b+3+n+u,(z:Int))]
theorem sB(b:Int)(n ph u R z d:Nat):(clL b n ph u R z d).length<=5:=by
 unfold clL;(repeat' split)<;>simp
structure ClG extends TkG where
 z:Nat
 nd:Nat->Nat
 x:Nat->List (Int×Int)
def ClG.bef(g:ClG)(p j:Nat):Prop:=(p=g.R/\j=g.z)\/(g.R<p/\∃y,g.Q[p - 1]? = some y/\j=g.nd y)
def ClG.fl(g:ClG):Prop:=g.R=0\/g.k=5
def yZ(b:Int)(n:Nat)(m:Int->Int)(g:ClG)(t:Nat)(y:TL):Prop:=
 (g.x t=[]/\(y.q=6\/(y.q=7/\y.r 4=g.nd t)\/(y.q=8/\y.r 4=g.nd t/\y.r 6=1))) \/
 (y.q=9/\y.r 4=g.nd t/\(g.x t=[(b+2+g.nd t,1)]\/(g.x t=[]/\m (b+2+g.nd t)=1)))
def clW(b:Int)(n:Nat)(m:Int->Int)(g:ClG)(t p:Nat)(y:TL):Prop:=
 (g.R<=p/\(1<=g.ph->g.R<p)/\g.idle t/\(g.ph=0->g.u=t->g.fl)/\∃j:Nat,g.bef p j/\y.r 4=j/\
  ((y.q=10/\g.x t=[]) \/
   ((y.q=11\/(y.q=12/\(y.r 6=0->p=g.R/\g.fl)))/\(g.x t=[(b+3+n+n+t,(j:Int))]\/(g.x t=[]/\m (b+3+n+n+t)=j))))) \/
 (g.u=t/\p=g.R/\g.E=g.R/\g.x t=[]/\((g.ph=1/\y.q=13)\/(g.ph=2/\(y.q=14\/y.q=15))))
def FS(g:ClG)(t:Nat)(y:TL):Prop:=
 (g.out t/\lj g.toTkG t y)\/((y.q=4\/y.q=5\/y.q=13\/y.q=14)/\g.idle t) \/
 ((y.q=6\/(y.q=7/\y.r 4=0))/\g.ow t/\g.E=g.R+1) \/
 (g.u=t/\g.E=g.R+1/\
  ((g.ph=3/\(y.q=8\/(y.q=9/\y.r 4=g.nd t)\/(y.q=10/\y.r 4=g.nd t/\y.r 6=g.z))) \/
   (g.ph=4/\((y.q=11/\y.r 4=g.nd t)\/(y.q=12/\y.r 4=g.nd t/\y.r 6=0)))))
def clT(b:Int)(n:Nat)(m:Int->Int)(g:ClG)(t:Nat)(y:TL):Prop:=
 (y.c=0/\g.out t/\g.x t=[]) \/
 (y.c=1/\y.d=false/\g.out t/\((g.x t=[]/\(lj g.toTkG t y\/((y.q=4\/y.q=5\/y.q=15)/\g.ow t)))\/(¬g.ow t/\y.r 5=(t:Int)+1/\yZ b n m g t y))) \/
 (y.c=1/\y.d=true/\y.r 5=(t:Int)+1/\∃p,g.Q[p]? = some t/\clW b n m g t p y) \/
 (y.c=2/\y.d=false/\g.x t=[]/\FS g t y)
def ClG.log(b:Int)(n:Nat)(g:ClG):List (Int×Int):=clL b n g.ph g.u g.R g.z (g.nd g.u)
structure ClI(b:Int)(n:Nat)(g:ClG)(s:LS):Prop where
 qa:g.R=g.Q.length->s.m b=g.z
 qb:∀y:Nat,g.R<g.Q.length->g.Q[g.Q.length - 1]? = some y->s.m b=g.nd y
 re:(g.E=g.R\/(g.E=g.R+1/\2<=g.ph))/\g.E<=g.Q.length
 ph:g.ph<=4
 hk:g.k<=(g.log b n).length
 ow:s.m (b+1)=if g.k=2 then(g.u:Int)+1 else 0
 bu:∀t,s.b t=(if t=g.u then(g.log b n).drop g.k else[])++g.x t
 hu:1<=g.ph->g.Q[g.R]? = some g.u
 un:g.u<n
 qn:∀(p y:Nat),g.Q[p]? = some y->y<n
 zn:g.z<=n
 dn:∀t,t<n->g.nd t<=n/\g.nd t≠g.z
 di:∀t t',t<n->t'<n->g.nd t=g.nd t'->t=t'
 ds:∀(p p' y:Nat),g.R<=p->g.R<=p'->g.Q[p]? = some y->g.Q[p']? = some y->p=p'
 qs:∀(p y:Nat),g.R<=p->g.Q[p]? = some y->(p=g.R/\1<=g.ph)\/((s.th y).c=1/\(s.th y).d=true)
 ws:∀(p y:Nat),g.R<=p->g.Q[p]? = some y->s.m (b+2+g.nd y)=1
 fz:g.ph=0->0<g.R->g.k<5->s.m (b+2+g.z)=1
 mi:∀t,t<n->t≠g.u->s.m (b+3+n+t)=g.nd t
 mu:s.m (b+3+n+g.u)=if(g.ph=4/\g.k=4)\/(g.ph=0/\0<g.R/\g.k<4) then(g.z:Int) else g.nd g.u
 pu:1<=g.ph->1<=g.k->s.m (b+3+n+n+g.u)=g.z
 xn:∀t,n<=t->g.x t=[]
 lc:∀t,t<n->clT b n s.m g t (s.th t)
theorem ClG.bef_congr{g g':ClG}(hR:g'.R=g.R)(hz:g'.z=g.z)(hnd:g'.nd=g.nd)(hQ:∀(i z:Nat),g.Q[i]? = some z->g'.Q[i]? = some z){p j:Nat}(h:g.bef p j):g'.bef p j:=by
 rcases h with⟨a,c⟩|⟨a,y,c,d⟩
 ·exact .inl ⟨a.trans hR.symm,c.trans hz.symm⟩
 ·exact .inr ⟨by rw[hR];exact a,y,hQ _ _ c,by rw[hnd];exact d⟩
theorem sW{b:Int}{n:Nat}{m m':Int->Int}{g g':ClG}{v:Nat}{y:TL}(hR:g'.R=g.R)(hE:g'.E=g.E)(hp:g'.ph=g.ph)(hu:g'.u=g.u)(hz:g'.z=g.z)(hnd:g'.nd=g.nd)(hk:g.fl->g'.fl)(hQ:∀(i z:Nat),g.Q[i]? = some z->g'.Q[i]? = some z)(hx:g'.x v=g.x v)
  (h1:m (b+2+g.nd v)=1->m' (b+2+g.nd v)=1) (h2:g.idle v->(g.ph=0->g.u=v->g.fl)->m' (b+3+n+n+v)=m (b+3+n+n+v)) (h:clT b n m g v y):clT b n m' g' v y:=by
 have e1:g'.ow v↔g.ow v:=by simp[TkG.ow,hp,hu]
 have e2:g'.out v↔g.out v:=by simp[TkG.out,hp,hu,hE,hR]
 have e3:g'.idle v↔g.idle v:=by simp[TkG.idle,hp,hu]
 rcases h with⟨a,a1,a2⟩|⟨a,d,a1,a2⟩|⟨a,d,a1,p,a2,a3⟩|⟨a,d,a1,a2⟩
 ·exact .inl ⟨a,e2.2 a1,hx.trans a2⟩
 ·refine .inr (.inl ⟨a,d,e2.2 a1,?_⟩)
  rcases a2 with⟨a2,a3⟩|⟨a2,a3,a4⟩
  ·refine .inl ⟨hx.trans a2,?_⟩
   rcases a3 with a3|⟨a3,a4⟩
   ·exact .inl (fC e1.symm a3)
   ·exact .inr ⟨a3,e1.2 a4⟩
  ·refine .inr ⟨λh=>a2 (e1.1 h),a3,?_⟩
   unfold yZ;rw[hx,hnd];rcases a4 with a4|⟨c1,c2,c3|⟨c3,c4⟩⟩
   ·exact .inl a4
   ·exact .inr ⟨c1,c2,.inl c3⟩
   ·exact .inr ⟨c1,c2,.inr ⟨c3,h1 c4⟩⟩
 ·refine .inr (.inr (.inl ⟨a,d,a1,p,hQ _ _ a2,?_⟩))
  rcases a3 with⟨b1,b2,b3,b4,j,b5,b6,b7⟩|b1
  ·refine .inl ⟨by rw[hR];exact b1,by rw[hR,hp];exact b2,e3.2 b3,by rw[hp,hu];exact λq1 q2=>hk (b4 q1 q2),j,ClG.bef_congr hR hz hnd hQ b5,b6,?_⟩
   rw[hx,hR,h2 b3 b4];rcases b7 with b7|⟨c1,c2⟩
   ·exact .inl b7
   ·refine .inr ⟨?_,c2⟩
    rcases c1 with c1|⟨c1,c3⟩
    ·exact .inl c1
    ·exact .inr ⟨c1,λe=>⟨(c3 e).1,hk (c3 e).2⟩⟩
  ·refine .inr ?_
   rw[hu,hR,hE,hx,hp];exact b1
 ·refine .inr (.inr (.inr ⟨a,d,hx.trans a1,?_⟩))
  rcases a2 with⟨b1,b2⟩|⟨b1,b2⟩|⟨b1,b2,b3⟩|b1
  ·exact .inl ⟨e2.2 b1,fC e1.symm b2⟩
  ·exact .inr (.inl ⟨b1,e3.2 b2⟩)
  ·exact .inr (.inr (.inl ⟨b1,e1.2 b2,by rw[hE,hR];exact b3⟩))
  ·refine .inr (.inr (.inr ?_))
   rw[hu,hE,hR,hp,hnd,hz];exact b1
theorem vN{b:Int}{n:Nat}{m m':Int->Int}{g g':ClG}{v:Nat}{y:TL}(hi:g.idle v)(hu:g'.u≠v)(hQ:g'.Q=g.Q)(hx:g'.x v=g.x v)(hnd:g'.nd v=g.nd v)(hm:∀a,b+2<=a->m' a=m a)
  (hw:∀p,g.Q[p]? = some v->g.R<=p->(1<=g.ph->g.R<p)->g.R<p/\g'.R<=p/\(1<=g'.ph->g'.R<p)/\∀j,g.bef p j->g'.bef p j) (h:clT b n m g v y):clT b n m' g' v y:=by
 have f1:¬g.ow v:=λe=>hi (by rw[e.1];decide) e.2
 have f2:¬g'.ow v:=λe=>hu e.2
 have e1:g'.ow v↔g.ow v:=by simp only[f1,f2]
 have e2:g'.out v:=λ_ e=>absurd e hu
 have e3:g'.idle v:=λ_=>hu
 have n1:m' (b+2+g.nd v)=m (b+2+g.nd v):=hm _ (by omega);have n2:m' (b+3+n+n+v)=m (b+3+n+n+v):=hm _ (by omega);rcases h with⟨a,a1,a2⟩|⟨a,d,a1,a2⟩|⟨a,d,a1,p,a2,a3⟩|⟨a,d,a1,a2⟩
 ·exact .inl ⟨a,e2,hx.trans a2⟩
 ·refine .inr (.inl ⟨a,d,e2,?_⟩)
  rcases a2 with⟨a2,a3⟩|⟨a2,a3,a4⟩
  ·refine .inl ⟨hx.trans a2,?_⟩
   rcases a3 with a3|⟨a3,a4⟩
   ·exact .inl (fC e1.symm a3)
   ·exact absurd a4 f1
  ·refine .inr ⟨f2,a3,?_⟩
   unfold yZ;rw[hx,hnd,n1];exact a4
 ·refine .inr (.inr (.inl ⟨a,d,a1,p,by rw[hQ];exact a2,?_⟩))
  rcases a3 with⟨b1,b2,b3,b4,j,b5,b6,b7⟩|⟨b1,b2,b3,b4,b5⟩
  ·obtain⟨w1,w2,w3,w4⟩:=hw p a2 b1 b2
   refine .inl ⟨w2,w3,e3,λ_ e=>absurd e hu,j,w4 j b5,b6,?_⟩;rw[hx,n2];rcases b7 with b7|⟨c1,c2⟩
   ·exact .inl b7
   ·refine .inr ⟨?_,c2⟩
    rcases c1 with c1|⟨c1,c4⟩
    ·exact .inl c1
    ·exact .inr ⟨c1,λe=>by have:=(c4 e).1;omega⟩
  ·rcases b5 with⟨b5,_⟩|⟨b5,_⟩<;>exact absurd b1 (hi (by omega))
 ·refine .inr (.inr (.inr ⟨a,d,hx.trans a1,?_⟩))
  rcases a2 with⟨b1,b2⟩|⟨b1,b2⟩|⟨b1,b2,b3⟩|⟨b1,b2,b3⟩
  ·exact .inl ⟨e2,fC e1.symm b2⟩
  ·exact .inr (.inl ⟨b1,e3⟩)
  ·exact absurd b2 f1
  ·rcases b3 with⟨b3,_⟩|⟨b3,_⟩<;>exact absurd b1 (hi (by omega))
theorem ClI.one{b:Int}{n:Nat}{g:ClG}{s:LS}(h:ClI b n g s){t:Nat}{x:TL}(hc:(s.th t).c=1->(s.th t).d=true->x.c=1/\x.d=true)(hx:clT b n s.m g t x):ClI b n g { s with th:=bv s.th t x }:=
 { h with
  qs:=λp y hp hy=>by
   simp only[bv];split
   ·rename_i e
    rcases h.qs p y hp hy with e'|e'
    ·exact .inl e'
    ·rw[e]at e';exact .inr (hc e'.1 e'.2)
   ·exact h.qs p y hp hy
  lc:=λv hv=>by
   simp only[bv];split
   ·rename_i e;rw[e];exact hx
   ·exact h.lc v hv }
theorem ClI.c0{b:Int}{n:Nat}{g:ClG}{s:LS}(h:ClI b n g s){t:Nat}(ht:t<n)(hc:(s.th t).c=0):g.out t/\g.x t=[]:=by
 rcases h.lc t ht with h1|h1|h1|h1
 ·exact h1.2
 all_goals rw[hc]at h1;exact absurd h1.1 (by decide)
theorem BT{b:Int}{n:Nat}{g:ClG}{s:LS}(h:ClI b n g s){t:Nat}(ht:t<n)(hc:(s.th t).c=0)(r:Nat->Int):ClI b n g { s with th:=bv s.th t { s.th t with r:=r } }:=
 h.one (λa b=>⟨a,b⟩) (.inl ⟨hc,h.c0 ht hc⟩)
theorem za{b:Int}{n:Nat}{g:ClG}{s:LS}(h:ClI b n g s){t c:Nat}(ht:t<n)(hc:(s.th t).c=0)(hc':c=1\/c=2):ClI b n g { s with th:=bv s.th t ⟨c,0,(s.th t).r,false⟩ }:=by
 obtain⟨h1,h2⟩:=h.c0 ht hc;refine h.one (λa _=>by rw[hc]at a;exact absurd a (by decide)) ?_;rcases hc' with rfl|rfl
 ·exact .inr (.inl ⟨rfl,rfl,h1,.inl ⟨h2,.inl (.inl rfl)⟩⟩)
 ·exact .inr (.inr (.inr ⟨rfl,rfl,h2,.inl ⟨h1,.inl rfl⟩⟩))
theorem zx{b:Int}{n:Nat}{g:ClG}{s:LS}(h:ClI b n g s){t:Nat}(ht:t<n)(hc:(s.th t).c≠0)(hq:(s.th t).q=(clP b n (s.th t).c t).length):
  if(s.th t).c=1/\(s.th t).d=true then g.Q[g.E]? = some t/\ClI b n { g with E:=g.E+1 } { s with th:=bv s.th t { s.th t with c:=0 } } else ClI b n g { s with th:=bv s.th t { s.th t with c:=0 } }:=by
 rcases h.lc t ht with h1|⟨h1,hd,ho,h2⟩|⟨h1,hd,h5,p,hp,h2⟩|⟨h1,hd,hx,h2⟩
 ·exact absurd h1.1 hc
 ·rw[af (by rw[hd];simp)]
  have h15:(s.th t).q=15:=by rw[hq,h1];rfl
  refine h.one (λ_ e=>by rw[hd]at e;exact absurd e (by decide)) (.inl ⟨rfl,ho,?_⟩);rcases h2 with⟨h2,_⟩|⟨_,_,h2⟩
  ·exact h2
  ·unfold yZ at h2;omega
 ·rw[ag ⟨h1,hd⟩]
  have h15:(s.th t).q=15:=by rw[hq,h1];rfl
  rcases h2 with⟨_,_,_,_,_,_,_,h2⟩|⟨hu,rfl,hE,hx,h2⟩
  ·exfalso;omega
  have p2:g.ph=2:=by omega
  have hlt:=(aj.1 hp).1
  refine⟨by rw[hE];exact hp,{ h with
   re:=⟨.inr ⟨by show g.E+1=g.R+1;omega,by show 2<=g.ph;omega⟩,by show g.E+1<=g.Q.length;omega⟩
   qs:=λp y hp' hy=>?_
   lc:=λv hv=>?_ }⟩
  ·simp only[bv]
   split
   ·rename_i e;subst e
    exact .inl ⟨h.ds _ _ _ hp' (ah _) hy hp,by show 1<=g.ph;omega⟩
   ·exact h.qs p y hp' hy
  ·simp only[bv];split
   ·rename_i e;subst e
    exact .inl ⟨rfl,λ_ _=>⟨p2,by show g.E+1=g.R+1;omega⟩,hx⟩
   ·rename_i hne
    have hi:g.u≠v:=λe=>hne (e.symm.trans hu);exact vN (g:=g) (λ_=>hi) hi rfl rfl rfl (λ_ _=>rfl) (λp hp a1 a2=>⟨a2 (by omega),a1,a2,λj e=>e⟩) (h.lc v hv)
 ·rw[af (by rw[h1];simp)]
  have h14:(s.th t).q=14:=by rw[hq,h1];rfl
  refine h.one (λe _=>by rw[h1]at e;exact absurd e (by decide)) (.inl ⟨rfl,?_,hx⟩);rcases h2 with⟨b1,_⟩|⟨_,b1⟩|⟨b1,_⟩|⟨_,_,b1⟩
  ·exact b1
  ·exact λh3 e=>absurd e (b1 h3)
  ·omega
  ·omega
theorem ClI.nin{b:Int}{n:Nat}{g:ClG}{s:LS}(h:ClI b n g s){t p:Nat}(hd:¬((s.th t).c=1/\(s.th t).d=true))(ho:g.out t)(hn:¬g.ow t)(hp:g.R<=p):g.Q[p]? ≠ some t:=λe=>by
 rcases h.qs p t hp e with⟨rfl,e1⟩|e1
 ·have hu:g.u=t:=by
   have:=h.hu e1;rw[e]at this;cases this;rfl
  exact hn ⟨(ho e1 hu).1,hu⟩
 ·exact hd e1
theorem ClG.log0{b:Int}{n:Nat}{g:ClG}(e:g.ph=0)(hR:g.R=0):g.log b n=[]:=by simp[ClG.log,clL,e,hR]
theorem ClG.log5{b:Int}{n:Nat}{g:ClG}(e:g.ph=0)(hR:g.R≠0):g.log b n=[(b+3+n+n+g.u,(g.nd g.u:Int)),(b+1,(g.u:Int)+1),(b+1,0),(b+3+n+g.u,(g.nd g.u:Int)),(b+2+g.z,0)]:=by simp[ClG.log,clL,e,hR]
theorem ClI.emp{b:Int}{n:Nat}{g:ClG}{s:LS}(h:ClI b n g s){t:Nat}(hi:g.idle t)(hf:g.ph=0->g.u=t->g.fl):s.b t=g.x t:=by
 rw[h.bu t]
 split
 ·rename_i e
  have p0:g.ph=0:=by
   by_cases p:1<=g.ph
   ·exact absurd e.symm (hi p)
   ·omega
  have hl:=sB b n g.ph g.u g.R g.z (g.nd g.u);rcases hf p0 e.symm with e'|e'
  ·rw[ClG.log0 p0 e'];simp
  ·rw[List.drop_eq_nil_of_le (by rw[e'];exact hl),List.nil_append]
 ·simp
theorem ClI.own{b:Int}{n:Nat}{g:ClG}{s:LS}(h:ClI b n g s){t:Nat}(hx:g.x t=[])(ho:g.out t):bk (s.b t) s.m (b+1)=(t:Int)+1↔g.ow t:=by
 have hk:=h.hk;have how:=h.ow;rw[h.bu t,hx,List.append_nil]
 by_cases hu:t=g.u
 ·rw[ag hu]
  subst hu
  have hp':g.ph=0\/g.ph=2:=by
   by_cases e:1<=g.ph
   ·exact .inr (ho e rfl).1
   ·omega
  unfold TkG.ow
  have n1:¬b+3+n+n+g.u=b+1:=by omega
  have n2:¬b+3+n+g.u=b+1:=by omega
  have n3:¬b+2+g.z=b+1:=by omega
  rcases hp' with e|e
  ·by_cases hR:g.R=0
   ·rw[ClG.log0 e hR]at hk ⊢
    generalize g.k=k at hk how ⊢
    obtain rfl:k=0:=by simpa using hk
    simp[bk,aV,how,e];omega
   ·rw[ClG.log5 e hR]at hk ⊢
    generalize g.k=k at hk how ⊢;simp only[List.length_cons,List.length_nil]at hk
    match k,hk with
    | 0,_=>simp[bk,aV,e,n1,n2,n3];omega
    | 1,_=>simp[bk,aV,e,n1,n2,n3];omega
    | 2,_=>simp[bk,aV,e,how,n1,n2,n3];omega
    | 3,_=>simp[bk,aV,e,how,n1,n2,n3];omega
    | 4,_=>simp[bk,aV,e,how,n1,n2,n3];omega
    | 5,_=>simp[bk,aV,e,how];omega
    | k+6,hk=>omega
  ·have hL:g.log b n=[(b+3+n+n+g.u,(g.z:Int)),(b+1,(g.u:Int)+1)]:=by simp[ClG.log,clL,e]
   rw[hL]at hk ⊢;generalize g.k=k at hk how ⊢;simp only[List.length_cons,List.length_nil]at hk
   match k,hk with
   | 0,_=>simp[bk,aV,e,n1]
   | 1,_=>simp[bk,aV,e,n1]
   | 2,_=>simp[bk,aV,e,how]
   | k+3,hk=>omega
 ·rw[af hu]
  simp only[bk,aV,how]
  have:¬g.ow t:=λe=>hu e.2.symm
  constructor
  ·intro e
   split at e
   ·omega
   ·omega
  ·intro e;exact absurd e this
theorem ClI.mine{b:Int}{n:Nat}{g:ClG}{s:LS}(h:ClI b n g s){t:Nat}(ht:t<n)(hx:g.x t=[])(hi:g.idle t\/g.ph=3):bk (s.b t) s.m (b+3+n+t)=g.nd t:=by
 have hk:=h.hk;rw[h.bu t,hx,List.append_nil]
 by_cases hu:t=g.u
 ·rw[ag hu]
  subst hu;have hmu:=h.mu;have hz:=h.zn
  have n1:¬b+3+n+n+g.u=b+3+n+g.u:=by omega
  have n2:¬b+1=b+3+n+g.u:=by omega
  have n3:¬b+2+g.z=b+3+n+g.u:=by omega
  by_cases e:g.ph=0
  ·by_cases hR:g.R=0
   ·rw[ClG.log0 e hR]
    rw[af (by omega)]at hmu;simp[bk,aV,hmu]
   ·rw[ClG.log5 e hR]at hk ⊢
    generalize g.k=k at hk hmu ⊢;simp only[List.length_cons,List.length_nil]at hk
    match k,hk with
    | 0,_=>simp[bk,aV,n1,n2,n3]
    | 1,_=>simp[bk,aV,n1,n2,n3]
    | 2,_=>simp[bk,aV,n1,n2,n3]
    | 3,_=>simp[bk,aV,n1,n2,n3]
    | 4,_=>rw[af (by omega)]at hmu;simp[bk,aV,n1,n2,n3,hmu]
    | 5,_=>rw[af (by omega)]at hmu;simp[bk,aV,n1,n2,n3,hmu]
    | k+6,hk=>omega
  ·have e3:g.ph=3:=by
    rcases hi with hi|hi
    ·exact absurd rfl (hi (by omega))
    ·exact hi
   have hL:g.log b n=[(b+3+n+n+g.u,(g.z:Int)),(b+1,(g.u:Int)+1),(b+1,0)]:=by simp[ClG.log,clL,e3]
   rw[hL]at hk ⊢;rw[af (by omega)]at hmu;generalize g.k=k at hk ⊢;simp only[List.length_cons,List.length_nil]at hk
   match k,hk with
   | 0,_=>simp[bk,aV,n1,n2,hmu]
   | 1,_=>simp[bk,aV,n1,n2,hmu]
   | 2,_=>simp[bk,aV,n1,n2,hmu]
   | 3,_=>simp[bk,aV,hmu]
   | k+4,hk=>omega
 ·rw[af hu]
  simp only[bk,aV];exact h.mi t ht hu
theorem ClI.pred{b:Int}{n:Nat}{g:ClG}{s:LS}(h:ClI b n g s){t:Nat}(hx:g.x t=[])(hu:g.u=t)(e3:g.ph=3):bk (s.b t) s.m (b+3+n+n+t)=g.z:=by
 have hk:=h.hk;rw[h.bu t,hx,List.append_nil,ag hu.symm];subst hu;have hpu:=h.pu (by omega)
 have n2:¬b+1=b+3+n+n+g.u:=by omega
 have hL:g.log b n=[(b+3+n+n+g.u,(g.z:Int)),(b+1,(g.u:Int)+1),(b+1,0)]:=by simp[ClG.log,clL,e3]
 rw[hL]at hk ⊢;generalize g.k=k at hk hpu ⊢;simp only[List.length_cons,List.length_nil]at hk
 match k,hk with
 | 0,_=>simp[bk,aV,n2]
 | 1,_=>simp[bk,aV,n2,hpu]
 | 2,_=>simp[bk,aV,n2,hpu]
 | 3,_=>simp[bk,aV,hpu]
 | k+4,hk=>omega
theorem AA{b:Int}{n:Nat}{g:ClG}{s:LS}(h:ClI b n g s){t:Nat}{a v:Int}{l:List (Int×Int)}(hb:s.b t=(a,v) :: l):∃(k:Nat) (x:Nat->List (Int×Int)),ClI b n { g with k:=k,x:=x } { s with m:=dg s.m a v,b:=bU s.b t l }:=by
 have hbt:=h.bu t;rw[hb]at hbt;have hph:=h.ph;have hzn:=h.zn;have hun:=h.un;have hl5:(g.log b n).length<=5:=sB b n g.ph g.u g.R g.z (g.nd g.u)
 have hm:∀z,z≠a->dg s.m a v z=s.m z:=λz hz=>af hz
 have hma:dg s.m a v a=v:=ag rfl
 by_cases hc:t=g.u/\(g.log b n).drop g.k≠[]
 ·obtain⟨hu,hne⟩:=hc
  rw[ag hu]at hbt;have hlt:g.k<(g.log b n).length:=Nat.lt_of_not_le λhle=>hne (List.drop_eq_nil_of_le hle);rw[List.drop_eq_getElem_cons hlt]at hbt;simp only[List.cons_append,List.cons.injEq]at hbt;obtain⟨hav,rfl⟩:=hbt;refine⟨g.k+1,g.x,?_⟩
  have hR0:g.ph=0->g.R≠0:=λe e'=>by rw[ClG.log0 e e']at hlt;simp at hlt
  have hcase:(g.k=0/\a=b+3+n+n+g.u/\(1<=g.ph->v=g.z))\/(g.k=1/\a=b+1/\v=(g.u:Int)+1)\/(g.k=2/\a=b+1/\v=0)\/(g.k=3/\a=b+3+n+g.u/\((g.ph=4/\v=g.z)\/(g.ph=0/\v=g.nd g.u)))\/(g.k=4/\a=b+2+g.z/\v=0/\g.ph=0):=by
   have hp:g.ph=0\/g.ph=1\/g.ph=2\/g.ph=3\/g.ph=4:=by omega
   replace hav:(g.log b n)[g.k]? = some (a,v):=by rw[aq hlt,hav]
   rcases hp with e|e|e|e|e
   ·rw[ClG.log5 e (hR0 e)]at hlt hav
    simp only[List.length_cons,List.length_nil]at hlt;generalize hk:g.k=k at hav hlt ⊢
    match k,hlt,hav with
    | 0,_,hav=>simp at hav;exact .inl ⟨rfl,hav.1.symm,λe'=>by omega⟩
    | 1,_,hav=>simp at hav;exact .inr (.inl ⟨rfl,hav.1.symm,hav.2.symm⟩)
    | 2,_,hav=>simp at hav;exact .inr (.inr (.inl ⟨rfl,hav.1.symm,hav.2.symm⟩))
    | 3,_,hav=>simp at hav;exact .inr (.inr (.inr (.inl ⟨rfl,hav.1.symm,.inr ⟨e,hav.2.symm⟩⟩)))
    | 4,_,hav=>simp at hav;exact .inr (.inr (.inr (.inr ⟨rfl,hav.1.symm,hav.2.symm,e⟩)))
    | k+5,hlt,_=>omega
   all_goals
    simp only[ClG.log,clL,e]at hlt hav;simp at hlt hav;generalize hk:g.k=k at hav hlt ⊢
    match k,hlt,hav with
    | 0,_,hav=>simp at hav;exact .inl ⟨rfl,hav.1.symm,λ_=>hav.2.symm⟩
    | 1,_,hav=>simp at hav;try exact .inr (.inl ⟨rfl,hav.1.symm,hav.2.symm⟩)
    | 2,_,hav=>simp at hav;try exact .inr (.inr (.inl ⟨rfl,hav.1.symm,hav.2.symm⟩))
    | 3,_,hav=>simp at hav;try exact .inr (.inr (.inr (.inl ⟨rfl,hav.1.symm,.inl ⟨e,hav.2.symm⟩⟩)))
    | k+4,hlt,_=>omega
  have hbu:∀v,bU s.b t ((g.log b n).drop (g.k+1)++g.x t) v=(if v=g.u then(g.log b n).drop (g.k+1) else[])++g.x v:=λv=>by
   unfold bU
   by_cases e:v=g.u
   ·rw[ag (by rw[hu];exact e),ag e,hu,e]
   ·rw[af (by rw[hu];exact e),af e,h.bu v,af e]
  have ha:a=b+3+n+n+g.u\/a=b+1\/a=b+3+n+g.u\/a=b+2+g.z:=by omega
  refine⟨λe=>(hm _ (by omega)).trans (h.qa e),λy e ey=>(hm _ (by omega)).trans (h.qb y e ey),h.re,h.ph,hlt,?_,hbu,h.hu,h.un,h.qn,h.zn,h.dn,h.di,h.ds,h.qs,λp y hp hy=>?_,λe0 eR ek=>?_,λy hy hyu=>by
   have hyu':y≠g.u:=hyu
   exact(hm _ (by omega)).trans (h.mi y hy hyu),?_,λe1 _=>?_,h.xn,λy hy=>?_⟩
  ·show dg s.m a v (b+1)=if g.k+1=2 then(g.u:Int)+1 else 0
   have how:=h.ow;rcases hcase with⟨ek,ea,_⟩|⟨ek,ea,ev⟩|⟨ek,ea,ev⟩|⟨ek,ea,_⟩|⟨ek,ea,_⟩
   ·rw[hm _ (by omega),how,ek];simp
   ·rw[<-ea,hma,ev,ek];simp
   ·rw[<-ea,hma,ev,ek];simp
   ·rw[hm _ (by omega),how,ek];simp
   ·rw[hm _ (by omega),how,ek];simp
  ·have:=h.dn y (h.qn _ _ hy)
   exact(hm (b+2+(g.nd y:Int)) (by omega)).trans (h.ws p y hp hy)
  ·have ek':g.k+1<5:=ek
   exact(hm (b+2+(g.z:Int)) (by omega)).trans (h.fz e0 eR (by omega))
  ·show dg s.m a v (b+3+n+g.u)=if(g.ph=4/\g.k+1=4)\/(g.ph=0/\0<g.R/\g.k+1<4) then(g.z:Int) else g.nd g.u
   have hmu:=h.mu
   by_cases ek:g.k=3
   ·have:a=b+3+n+g.u/\((g.ph=4/\v=g.z)\/(g.ph=0/\v=g.nd g.u)):=by omega
    rw[<-this.1,hma];rcases this.2 with⟨e,e'⟩|⟨e,e'⟩
    ·rw[ag (by omega),e']
    ·rw[af (by omega),e']
   ·rw[hm _ (by omega),hmu]
    have k4:g.ph=4->g.k<4:=λe=>by
     simpa[ClG.log,clL,e] using hlt
    by_cases e:(g.ph=4/\g.k=4)\/(g.ph=0/\0<g.R/\g.k<4)
    ·rw[ag e,ag (by omega)]
    ·rw[af e,af (by omega)]
  ·have e1':1<=g.ph:=e1
   by_cases ek:g.k=0
   ·have:a=b+3+n+n+g.u/\v=g.z:=by omega
    show dg s.m a v (b+3+n+n+g.u)=g.z;rw[<-this.1,hma,this.2]
   ·exact(hm _ (by omega)).trans (h.pu e1 (by omega))
  ·have:=h.dn y hy
   refine sW (g:=g) rfl rfl rfl rfl rfl rfl (λe=>e.imp id λe=>by omega) (λ_ _ h=>h) rfl (λe=>(hm _ (by omega)).trans e) (λhi hf=>hm _ ?_) (h.lc y hy);intro e
   have ek:g.k=0/\y=g.u:=by omega
   have p0:g.ph=0:=by
    by_cases p:1<=g.ph
    ·exact absurd ek.2.symm (hi p)
    ·omega
   rcases hf p0 ek.2.symm with e'|e'
   ·exact hR0 p0 e'
   ·omega
 ·have hdr:(if t=g.u then(g.log b n).drop g.k else[])=[]:=by
   split
   ·rename_i e
    exact Classical.not_not.1 λe'=>hc ⟨e,e'⟩
   ·rfl
  rw[hdr,List.nil_append]at hbt
  have ht:t<n:=Nat.lt_of_not_le λe=>by rw[h.xn t e]at hbt;cases hbt
  refine⟨g.k,bU g.x t l,?_⟩
  have hbu:∀v,bU s.b t l v=(if v=g.u then(g.log b n).drop g.k else[])++bU g.x t l v:=λv=>by
   unfold bU
   by_cases e:v=t
   ·rw[ag e,ag e,e,hdr,List.nil_append]
   ·rw[af e,af e];exact h.bu v
  have hxn:∀z,n<=z->bU g.x t l z=[]:=λz hz=>by
   rw[bU,af (by omega)];exact h.xn z hz
  have hxo:∀z,z≠t->bU g.x t l z=g.x z:=λz hz=>af hz
  have hxt:bU g.x t l t=l:=ag rfl;have hdt:=h.dn t ht
  have main:(a=b+2+g.nd t/\v=1\/a=b+3+n+n+t/\g.idle t)->clT b n (dg s.m a v) { g with x:=bU g.x t l } t (s.th t)->ClI b n { g with x:=bU g.x t l } { s with m:=dg s.m a v,b:=bU s.b t l }:=λhav hT=>by
   have hone:∀z:Nat,s.m (b+2+z)=1->z<=n->dg s.m a v (b+2+z)=1:=λz hz hzn=>by
    rcases hav with⟨ea,ev⟩|⟨ea,_⟩
    ·unfold dg;split
     ·exact ev
     ·exact hz
    ·exact(hm _ (by omega)).trans hz
   refine⟨λe=>(hm _ (by omega)).trans (h.qa e),λy e ey=>(hm _ (by omega)).trans (h.qb y e ey),h.re,h.ph,h.hk,(hm _ (by omega)).trans h.ow,hbu,h.hu,h.un,h.qn,h.zn,h.dn,h.di,h.ds,h.qs,λp y hp hy=>hone _ (h.ws p y hp hy) (h.dn y (h.qn _ _ hy)).1,λe0 eR ek=>hone _ (h.fz e0 eR ek) hzn,λy hy hyu=>(hm _ (by omega)).trans (h.mi y hy hyu),(hm (b+3+n+(g.u:Int)) (by omega)).trans h.mu,λe1 e2=>(hm _ ?_).trans (h.pu e1 e2),hxn,λy hy=>?_⟩
   ·rcases hav with⟨ea,_⟩|⟨ea,hi⟩
    ·omega
    ·have:=hi e1;simp only;omega
   ·by_cases e:y=t
    ·subst e;exact hT
    ·have:=h.dn y hy
     exact sW (g:=g) rfl rfl rfl rfl rfl rfl (λe=>e) (λ_ _ h=>h) (hxo y e) (λe=>hone _ e this.1) (λ_ _=>hm _ (by omega)) (h.lc y hy)
  rcases h.lc t ht with⟨_,_,e⟩|⟨c1,d1,o1,h2⟩|⟨c1,d1,h5,p,hp,h2⟩|⟨_,_,e,_⟩
  ·rw[e]at hbt;cases hbt
  ·rcases h2 with⟨e,_⟩|⟨w1,r5,h2⟩
   ·rw[e]at hbt;cases hbt
   ·rcases h2 with⟨e,_⟩|⟨hq,h4,e|⟨e,_⟩⟩<;>rw[e]at hbt<;>cases hbt
    exact main (.inl ⟨rfl,rfl⟩) (.inr (.inl ⟨c1,d1,o1,.inr ⟨w1,r5,.inr ⟨hq,h4,.inr ⟨hxt,hma⟩⟩⟩⟩))
  ·rcases h2 with⟨b1,b2,b3,b4,j,b5,b6,b7⟩|⟨_,_,_,e,_⟩
   ·rcases b7 with⟨_,e⟩|⟨hq,e|⟨e,_⟩⟩<;>rw[e]at hbt<;>cases hbt
    exact main (.inr ⟨rfl,b3⟩) (.inr (.inr (.inl ⟨c1,d1,h5,p,hp,.inl ⟨b1,b2,b3,b4,j,b5,b6,.inr ⟨hq,.inr ⟨hxt,hma⟩⟩⟩⟩)))
   ·rw[e]at hbt;cases hbt
  ·rw[e]at hbt;cases hbt
def ClR(b:Int)(n:Nat)(g:ClG)(s:LS)(t:Nat)(I:Ins):Prop:=(aJ I.op=true->b<=adr I (s.th t).r/\adr I (s.th t).r<b+3+n+n+n)/\∃g',ClI b n g' (exS t I s)/\g'.E=g.E/\g'.Q=if(s.th t).c=1/\swB I.op=true then g.Q++[t] else g.Q
theorem ClI.step1{b:Int}{n:Nat}{g:ClG}{s:LS}(h:ClI b n g s){t:Nat}{I:Ins}{q':Nat}{r':Nat->Int}(hA:aJ I.op=true->b<=adr I (s.th t).r/\adr I (s.th t).r<b+3+n+n+n)(e:lex I ⟨(s.th t).q,(s.th t).r,s.m,s.b t⟩=⟨q',r',s.m,s.b t⟩)(hs:swB I.op=false)(hx:clT b n s.m g t ⟨(s.th t).c,q',r',(s.th t).d⟩):ClR b n g s t I:=by
 refine⟨hA,g,?_,rfl,by rw[hs];simp⟩;unfold exS;rw[e,hs];simp only[Bool.and_false,Bool.or_false,fg];exact h.one (λa b=>⟨a,b⟩) hx
theorem ClI.put{b:Int}{n:Nat}{g:ClG}{s:LS}(h:ClI b n g s){t:Nat}(ht:t<n){I:Ins}{a v:Int}(hA:aJ I.op=true->b<=adr I (s.th t).r/\adr I (s.th t).r<b+3+n+n+n)(e:lex I ⟨(s.th t).q,(s.th t).r,s.m,s.b t⟩=⟨(s.th t).q+1,(s.th t).r,s.m,s.b t++[(a,v)]⟩)(hs:swB I.op=false)(hx0:g.x t=[])(hx:clT b n s.m { g with x:=bU g.x t [(a,v)] } t ⟨(s.th t).c,(s.th t).q+1,(s.th t).r,(s.th t).d⟩):ClR b n g s t I:=by
 refine⟨hA,{ g with x:=bU g.x t [(a,v)] },?_,rfl,by rw[hs];simp⟩;unfold exS;rw[e,hs];simp only[Bool.and_false,Bool.or_false];refine { h with bu:=λz=>?_,qs:=λp y hp hy=>?_,xn:=λz hz=>?_,lc:=λz hz=>?_ }
 ·have:=h.bu z
  simp only[bU]
  split
  ·rename_i e;subst e
   rw[this,hx0,List.append_nil];rfl
  ·exact this
 ·simp only[bv];split
  ·rename_i e;subst e;exact h.qs p y hp hy
  ·exact h.qs p y hp hy
 ·exact(af (by omega)).trans (h.xn z hz)
 ·simp only[bv];split
  ·rename_i e;subst e;exact hx
  ·rename_i e
   exact sW (g:=g) rfl rfl rfl rfl rfl rfl (λe=>e) (λ_ _ h=>h) (af e) (λh=>h) (λ_ _=>rfl) (h.lc z hz)
theorem sK{b:Int}{n:Nat}{g:ClG}{s:LS}(h:ClI b n g s)(hb:0<=b/\b+3+n+n+n<=4294967296)(hn:n<=8){t:Nat}(ht:t<n){I:Ins}{c q:Nat}{r:Nat->Int}(hx:s.th t=⟨c,q,r,false⟩)(hc:c=1\/c=2)(hI:(clP b n c t)[q]? = some I)(ho:g.out t)(hx0:g.x t=[])(h0:lj g.toTkG t ⟨c,q,r,false⟩):ClR b n g s t I:=by
 have m1:(b+1)%4294967296=b+1:=by omega
 have mt:((t:Int)+1)%4294967296=t+1:=by omega
 have hv:=h.own hx0 ho
 have up:∀q' r',(lj g.toTkG t ⟨c,q',r',false⟩)->clT b n s.m g t ⟨c,q',r',false⟩:=λq' r' hh=>by
  rcases hc with rfl|rfl
  ·exact .inr (.inl ⟨rfl,rfl,ho,.inl ⟨hx0,.inl hh⟩⟩)
  ·exact .inr (.inr (.inr ⟨rfl,rfl,hx0,.inl ⟨ho,hh⟩⟩))
 have hid:¬g.ow t->g.idle t:=λhh p e=>hh ⟨(ho p e).1,e⟩;rcases h0 with hq|⟨hq,h4⟩|⟨hq,h5,h4⟩|⟨hq,h5,h6⟩
 ·simp only at hq;subst hq
  have e:I=⟨16,4,8,0,(b+1)%4294967296⟩:=by rcases hc with rfl|rfl<;>simpa[clP,clA,clR] using hI.symm
  subst e;refine h.step1 (q':=1) (r':=bQ r 4 (bk (s.b t) s.m (b+1))) (λ_=>by simp[adr,m1];omega) (by simp[lex,adr,hx,m1]) rfl ?_;rw[hx];exact up _ _ (.inr (.inl ⟨rfl,hv⟩))
 ·simp only at hq h4;subst hq
  have e:I=⟨1,5,0,0,((t:Int)+1)%4294967296⟩:=by rcases hc with rfl|rfl<;>simpa[clP,clA,clR] using hI.symm
  subst e;refine h.step1 (q':=2) (r':=bQ r 5 ((t:Int)+1)) (λe=>by simp[aJ]at e) (by simp[lex,hx,mt]) rfl ?_;rw[hx];exact up _ _ (.inr (.inr (.inl ⟨rfl,rfl,h4⟩)))
 ·simp only at hq h4 h5;subst hq
  have e:I=⟨12,6,4,5,0⟩:=by rcases hc with rfl|rfl<;>simpa[clP,clA,clR] using hI.symm
  subst e;refine h.step1 (q':=3) (r':=bQ r 6 (if r 4=r 5 then 1 else 0)) (λe=>by simp[aJ]at e) (by simp[lex,hx,gj]) rfl ?_;rw[hx];refine up _ _ (.inr (.inr (.inr ⟨rfl,h5,?_⟩)));show(if r 4=r 5 then(1:Int) else 0)=0↔¬g.ow t;rw[h5,<-h4]
  split<;>simp_all
 ·simp only at hq h5 h6;subst hq
  rcases hc with rfl|rfl
  ·have e:I=⟨14,6,0,0,6⟩:=by simpa[clP,clA] using hI.symm
   subst e
   by_cases hz:r 6=0
   ·refine h.step1 (q':=6) (r':=r) (λe=>by simp[aJ]at e) (by simp[lex,hx,hz]) rfl ?_
    rw[hx];exact .inr (.inl ⟨rfl,rfl,ho,.inr ⟨h6.1 hz,h5,.inl ⟨hx0,.inl rfl⟩⟩⟩)
   ·refine h.step1 (q':=4) (r':=r) (λe=>by simp[aJ]at e) (by simp[lex,hx,hz]) rfl ?_
    rw[hx];exact .inr (.inl ⟨rfl,rfl,ho,.inl ⟨hx0,.inr ⟨.inl rfl,Classical.not_not.1 λe=>hz (h6.2 e)⟩⟩⟩)
  ·have e:I=⟨15,6,0,0,6⟩:=by simpa[clP,clR] using hI.symm
   subst e
   by_cases hz:r 6=0
   ·refine h.step1 (q':=4) (r':=r) (λe=>by simp[aJ]at e) (by simp[lex,hx,hz]) rfl ?_
    rw[hx];exact .inr (.inr (.inr ⟨rfl,rfl,hx0,.inr (.inl ⟨.inl rfl,hid (h6.1 hz)⟩)⟩))
   ·refine h.step1 (q':=6) (r':=r) (λe=>by simp[aJ]at e) (by simp[lex,hx,hz]) rfl ?_
    rw[hx];have how:g.ow t:=Classical.not_not.1 λe=>hz (h6.2 e);exact .inr (.inr (.inr ⟨rfl,rfl,hx0,.inr (.inr (.inl ⟨.inl rfl,how,(ho (by rw[how.1];decide) how.2).2⟩))⟩))
theorem CG{b:Int}{n:Nat}{g:ClG}{s:LS}(h:ClI b n g s){t:Nat}(ht:t<n){r:Nat->Int}(hx:s.th t=⟨1,12,r,true⟩)(h5:r 5=(t:Int)+1)(hQ:g.Q[g.R]? = some t)(p0:g.ph=0)(hf:g.fl)(hxx:g.x t=[(b+3+n+n+t,(g.z:Int))]\/(g.x t=[]/\s.m (b+3+n+n+t)=g.z)){I:Ins}(hs:swB I.op=false)(hA:aJ I.op=false)(e:lex I ⟨12,r,s.m,s.b t⟩=⟨13,r,s.m,s.b t⟩):ClR b n g s t I:=by
 have hk:=h.hk
 have k2:g.k=0\/g.k=5:=by
  rcases hf with e|e
  ·rw[ClG.log0 p0 e]at hk;simp at hk;exact .inl hk
  ·exact .inr e
 have hbe:∀v,s.b v=g.x v:=λv=>h.emp (λp=>by omega) λ_ _=>hf
 have hE:g.E=g.R:=by
  rcases h.re.1 with e|⟨_,e⟩
  ·exact e
  ·omega
 have hmu:s.m (b+3+n+g.u)=g.nd g.u:=by
  have:=h.mu;rw[af (by unfold ClG.fl at hf;omega)]at this;exact this
 have hmine:∀v,v<n->s.m (b+3+n+v)=g.nd v:=λv hv=>by
  by_cases e:v=g.u
  ·rw[e];exact hmu
  ·exact h.mi v hv e
 obtain⟨k',hk',hdr,hpu⟩:∃k',k'<=1/\[(b+3+n+n+t,(g.z:Int))].drop k'=g.x t/\(1<=k'->s.m (b+3+n+n+t)=g.z):=by
  rcases hxx with e|⟨e,e'⟩
  ·exact⟨0,by omega,e.symm,λe=>by omega⟩
  ·exact⟨1,by omega,e.symm,λ_=>e'⟩
 have hL:clL b n 1 t g.R g.z (g.nd t)=[(b+3+n+n+t,(g.z:Int))]:=by simp[clL]
 refine⟨λe=>by rw[hA]at e;exact absurd e (by decide),{ g with ph:=1,u:=t,k:=k',x:=bU g.x t [] },?_,rfl,by rw[hs];simp⟩;unfold exS;rw[hx];simp only[e,hs,Bool.and_false,Bool.or_false,fg];refine⟨h.qa,h.qb,⟨.inl hE,h.re.2⟩,show 1<=4 by decide,?_,?_,λv=>?_,λ_=>hQ,ht,h.qn,h.zn,h.dn,h.di,h.ds,λp y hp hy=>?_,h.ws,λe=>by simp at e,λv hv _=>hmine v hv,?_,λ_ e=>hpu e,λv hv=>?_,λv hv=>?_⟩
 ·show k'<=(clL b n 1 t g.R g.z (g.nd t)).length
  rw[hL];exact hk'
 ·show s.m (b+1)=if k'=2 then _ else _
  rw[af (by omega),h.ow,af (by omega)]
 ·show s.b v=(if v=t then(clL b n 1 t g.R g.z (g.nd t)).drop k' else[])++bU g.x t [] v
  rw[hL,hdr,hbe v];unfold bU
  split
  ·rename_i e;subst e;simp
  ·simp
 ·simp only[bv];split
  ·exact .inr ⟨rfl,rfl⟩
  ·rcases h.qs p y hp hy with e|e
   ·exact .inl ⟨e.1,show 1<=1 by decide⟩
   ·exact .inr e
 ·exact(hmine t ht).trans (by simp)
 ·exact(af (by omega)).trans (h.xn v hv)
 ·simp only[bv];split
  ·rename_i e;subst e
   exact .inr (.inr (.inl ⟨rfl,rfl,h5,g.R,hQ,.inr ⟨rfl,rfl,hE,ag rfl,.inl ⟨rfl,rfl⟩⟩⟩))
  ·rename_i hne
   refine vN (g:=g) (λp=>by omega) (λe=>hne e.symm) rfl (af hne) rfl (λ_ _=>rfl) (λp hp a1 a2=>?_) (h.lc v hv)
   have:g.R≠p:=λe=>by
    subst e;rw[hQ]at hp;cases hp;exact hne rfl
   exact⟨by omega,a1,λ_=>show g.R<p by omega,λj e=>e⟩
theorem pB{b:Int}{n:Nat}{g:ClG}{s:LS}(h:ClI b n g s){t:Nat}(ht:t<n)(hp:g.ph=1\/g.ph=2\/g.ph=3)(hu:g.u=t)(hx0:g.x t=[]){c q:Nat}{r:Nat->Int}{d:Bool}(hx:s.th t=⟨c,q,r,d⟩){I:Ins}{a v:Int}(hsw:swB I.op=false)(hA:aJ I.op=true->b<=adr I (s.th t).r/\adr I (s.th t).r<b+3+n+n+n)
  (e:lex I ⟨q,r,s.m,s.b t⟩=⟨q+1,r,s.m,s.b t++[(a,v)]⟩) (hav:(g.ph=1/\a=b+1/\v=(t:Int)+1)\/(g.ph=2/\a=b+1/\v=0)\/(g.ph=3/\a=b+3+n+t/\v=g.z)) (hnew:clT b n s.m { g with ph:=g.ph+1 } t ⟨c,q+1,r,d⟩):ClR b n g s t I:=by
 have hk:=h.hk
 have hlog:clL b n (g.ph+1) g.u g.R g.z (g.nd g.u)=g.log b n++[(a,v)]:=by
  rcases hav with⟨e,ea,ev⟩|⟨e,ea,ev⟩|⟨e,ea,ev⟩<;>simp[ClG.log,clL,e,ea,ev,hu]
 have hlen:(g.log b n).length<=3:=by
  rcases hp with e|e|e<;>simp[ClG.log,clL,e]
 refine⟨hA,{ g with ph:=g.ph+1 },?_,rfl,by rw[hsw];simp⟩;unfold exS;rw[hx];simp only[e,hsw,Bool.and_false,Bool.or_false];refine⟨h.qa,h.qb,⟨h.re.1.imp id λe=>⟨e.1,by have:=e.2;show 2<=g.ph+1;omega⟩,h.re.2⟩,by show g.ph+1<=4;omega,?_,h.ow,λw=>?_,λ_=>h.hu (by omega),h.un,h.qn,h.zn,h.dn,h.di,h.ds,λp y hp' hy=>?_,h.ws,λe=>by simp at e,h.mi,?_,λ_=>h.pu (by omega),h.xn,λw hw=>?_⟩
 ·show g.k<=(clL b n (g.ph+1) g.u g.R g.z (g.nd g.u)).length
  rw[hlog,List.length_append];omega
 ·show bU s.b t _ w=(if w=g.u then(clL b n (g.ph+1) g.u g.R g.z (g.nd g.u)).drop g.k else[])++g.x w
  rw[hlog];have hb:=h.bu w;unfold bU
  split
  ·rename_i e;subst e
   rw[ag hu.symm]at hb ⊢;rw[hb,hx0,List.append_nil,List.append_nil,List.drop_append_of_le_length hk]
  ·rename_i e
   have e':¬w=g.u:=λh=>e (h.trans hu);rw[hb,af e',af e']
 ·simp only[bv];split
  ·rename_i e;subst e
   rcases h.qs p y hp' hy with e|e
   ·exact .inl ⟨e.1,show 1<=g.ph+1 by omega⟩
   ·rw[hx]at e;exact .inr e
  ·exact(h.qs p y hp' hy).imp (λe=>⟨e.1,show 1<=g.ph+1 by omega⟩) id
 ·show s.m (b+3+n+g.u)=if(g.ph+1=4/\g.k=4)\/(g.ph+1=0/\0<g.R/\g.k<4) then(g.z:Int) else g.nd g.u
  have:=h.mu;rw[af (by omega)]at this ⊢;exact this
 ·simp only[bv];split
  ·rename_i e;subst e;exact hnew
  ·rename_i hne
   have hi:g.u≠w:=λe=>hne (e.symm.trans hu);refine vN (g:=g) (λ_=>hi) hi rfl rfl rfl (λ_ _=>rfl) (λp hp a1 a2=>?_) (h.lc w hw);have a3:=a2 (by omega);exact⟨a3,a1,λ_=>a3,λj e=>e⟩
theorem B8{b:Int}{n:Nat}{g:ClG}{s:LS}(h:ClI b n g s){t:Nat}(ht:t<n)(hp:g.ph=4)(hu:g.u=t)(hE:g.E=g.R+1)(hx0:g.x t=[]){r:Nat->Int}(hx:s.th t=⟨2,12,r,false⟩){I:Ins}(hsw:swB I.op=false)(hA:aJ I.op=true->b<=adr I (s.th t).r/\adr I (s.th t).r<b+3+n+n+n)
  (e:lex I ⟨12,r,s.m,s.b t⟩=⟨13,r,s.m,s.b t++[(b+2+g.nd t,0)]⟩):ClR b n g s t I:=by
 have hQt:g.Q[g.R]? = some t:=by rw[<-hu];exact h.hu (by omega)
 have hlt:=(aj.1 hQt).1;obtain⟨nd',hnd⟩:∃nd':Nat->Nat,∀v,nd' v=if v=t then g.z else g.nd v:=⟨λv=>if v=t then g.z else g.nd v,λ_=>rfl⟩;have ndt:nd' t=g.z:=(hnd t).trans (ag rfl);have ndo:∀v,v≠t->nd' v=g.nd v:=λv e=>(hnd v).trans (af e);have hdt:=h.dn t ht;have hzn:=h.zn;have hk:=h.hk
 have hlog:clL b n 0 g.u (g.R+1) (g.nd t) (nd' g.u)=g.log b n++[(b+2+g.nd t,0)]:=by
  rw[hu,ndt];simp[ClG.log,clL,hp,hu]
 have hl4:(g.log b n).length=4:=by simp[ClG.log,clL,hp]
 have hqt:∀(p y:Nat),g.R+1<=p->g.Q[p]? = some y->y≠t:=λp y a e e'=>by
  have:=h.ds p g.R y (by omega) (ah _) e (e'▸hQt);omega
 refine⟨hA,{ g with ph:=0,R:=g.R+1,z:=g.nd t,nd:=nd' },?_,rfl,by rw[hsw];simp⟩;unfold exS;rw[hx];simp only[e,hsw,Bool.and_false,Bool.or_false];refine⟨λe=>?_,λy e ey=>?_,⟨.inl hE,h.re.2⟩,au _,?_,h.ow,λw=>?_,λe=>by simp at e,h.un,h.qn,hdt.1,λv hv=>?_,λv v' hv hv'=>?_,λp p' z a1 a2=>h.ds p p' z (Nat.le_of_succ_le a1) (Nat.le_of_succ_le a2),λp z hp' hz=>?_,λp z hp' hz=>?_,λ_ _ _=>h.ws g.R t (ah _) hQt,λv hv hvu=>?_,?_,λe=>by simp at e,h.xn,λw hw=>?_⟩
 ·have e':g.R+1=g.Q.length:=e
  refine h.qb t hlt ?_;rw[<-e',Nat.add_sub_cancel];exact hQt
 ·have e':g.R+1<g.Q.length:=e
  have ey':g.Q[g.Q.length - 1]? = some y:=ey;rw[h.qb y hlt ey'];exact congrArg _ (ndo y (hqt _ y (by omega) ey')).symm
 ·show g.k<=(clL b n 0 g.u (g.R+1) (g.nd t) (nd' g.u)).length
  rw[hlog,List.length_append];omega
 ·show bU s.b t _ w=(if w=g.u then(clL b n 0 g.u (g.R+1) (g.nd t) (nd' g.u)).drop g.k else[])++g.x w
  rw[hlog];have hb:=h.bu w;unfold bU
  split
  ·rename_i e;subst e
   rw[ag hu.symm]at hb ⊢;rw[hb,hx0,List.append_nil,List.append_nil,List.drop_append_of_le_length hk]
  ·rename_i e
   have e':¬w=g.u:=λh=>e (h.trans hu);rw[hb,af e',af e']
 ·show nd' v<=n/\nd' v≠g.nd t
  by_cases e:v=t
  ·rw[e,ndt];exact⟨hzn,λe=>hdt.2 e.symm⟩
  ·rw[ndo v e];exact⟨(h.dn v hv).1,λe'=>e (h.di v t hv ht e')⟩
 ·show nd' v=nd' v'->v=v'
  by_cases e:v=t
  ·by_cases e':v'=t
   ·intro _;rw[e,e']
   ·rw[e,ndt,ndo v' e'];exact λh'=>absurd h'.symm (h.dn v' hv').2
  ·by_cases e':v'=t
   ·rw[e',ndt,ndo v e];exact λh'=>absurd h' (h.dn v hv).2
   ·rw[ndo v e,ndo v' e'];exact h.di v v' hv hv'
 ·have hne:=hqt p z hp' hz
  have hp'':g.R+1<=p:=hp';simp only[bv,af hne];rcases h.qs p z (by omega) hz with e|e
  ·omega
  ·exact .inr e
 ·show s.m (b+2+nd' z)=1
  rw[ndo z (hqt p z hp' hz)];exact h.ws p z (Nat.le_of_succ_le hp') hz
 ·show s.m (b+3+n+v)=nd' v
  have hvu':v≠g.u:=hvu;rw[ndo v (λe=>hvu' (e.trans hu.symm))];exact h.mi v hv hvu
 ·show s.m (b+3+n+g.u)=if(0=4/\g.k=4)\/(0=0/\0<g.R+1/\g.k<4) then(g.nd t:Int) else nd' g.u
  have:=h.mu
  by_cases e:g.k=4
  ·rw[ag (by omega)]at this
   rw[af (by omega),this,hu,ndt]
  ·rw[af (by omega)]at this
   rw[ag (by omega),this,hu]
 ·simp only[bv];split
  ·rename_i e;subst e
   exact .inr (.inr (.inr ⟨rfl,rfl,hx0,.inr (.inl ⟨.inr (.inr (.inl rfl)),λe=>by simp at e⟩)⟩))
  ·rename_i hne
   have hi:g.u≠w:=λe=>hne (e.symm.trans hu);refine vN (g:=g) (λ_=>hi) hi rfl rfl (ndo w hne) (λ_ _=>rfl) (λp hp a1 a2=>?_) (h.lc w hw);have a3:=a2 (by omega);refine⟨a3,a3,λe=>by simp at e,λj hj=>?_⟩;rcases hj with⟨e,_⟩|⟨_,y,ey,ej⟩
   ·omega
   ·by_cases e:p=g.R+1
    ·subst e
     rw[Nat.add_sub_cancel,hQt]at ey;cases ey;exact .inl ⟨rfl,ej⟩
    ·refine .inr ⟨by show g.R+1<p;omega,y,ey,ej.trans (ndo y ?_).symm⟩
     intro e';subst e';have:=h.ds (p - 1) g.R y (by omega) (ah _) ey hQt;omega
theorem Dg{b:Int}{n:Nat}{g:ClG}{s:LS}(h:ClI b n g s)(hb:0<=b/\b+3+n+n+n<=4294967296){t:Nat}(ht:t<n){r:Nat->Int}(hx:s.th t=⟨1,9,r,false⟩)(h4:r 4=g.nd t)(h5:r 5=(t:Int)+1)(ho:g.out t)(hno:¬g.ow t)(hem:s.b t=[])(hx0:g.x t=[])(hm1:s.m (b+2+g.nd t)=1):ClR b n g s t ⟨19,4,8,0,b⟩:=by
 have e:lex ⟨19,4,8,0,b⟩ ⟨9,r,s.m,s.b t⟩=⟨10,bQ r 4 (s.m b),dg s.m b (g.nd t),s.b t⟩:=by
  simp[lex,adr,h4]
 have hid:g.idle t:=λp e=>hno ⟨(ho p e).1,e⟩;have hnin:∀p,g.R<=p->g.Q[p]? ≠ some t:=λp hp=>h.nin (by rw[hx];simp) ho hno hp
 have hle:g.R<=g.Q.length:=by have:=h.re;omega
 have hm:∀z,b+1<=z->dg s.m b (g.nd t) z=s.m z:=λz hz=>af (by omega)
 have hQ1:∀(p y:Nat),(g.Q++[t])[p]? = some y->g.Q[p]? = some y\/(p=g.Q.length/\y=t):=λp y hy=>by
  rcases Nat.lt_or_ge p g.Q.length with hl|hl
  ·rw[List.getElem?_append_left hl]at hy;exact .inl hy
  ·rw[List.getElem?_append_right hl]at hy
   obtain⟨h1,h2⟩:=aj.1 hy;simp only[List.length_singleton]at h1
   have:p - g.Q.length=0:=by omega
   simp only[this,List.getElem_cons_zero]at h2;exact .inr ⟨by omega,h2.symm⟩
 have hQt:(g.Q++[t])[g.Q.length]? = some t:=by simp
 have hfl:g.ph=0->g.u=t->g.fl:=λp0 hu=>by
  have hbt:=h.bu t;rw[hem,ag hu.symm,hx0,List.append_nil]at hbt;have hk:=h.hk
  by_cases hR:g.R=0
  ·exact .inl hR
  ·refine .inr ?_
   have hl:(g.log b n).length=5:=by rw[ClG.log5 p0 hR];rfl
   have:=congrArg List.length hbt;simp only[List.length_nil,List.length_drop]at this;omega
 refine⟨λ_=>by simp[adr];omega,{ g with Q:=g.Q++[t] },?_,rfl,by rw[hx];rfl⟩;unfold exS;rw[hx];simp only[e,fg];refine⟨λe=>?_,λy _ hy=>?_,⟨h.re.1,by simp only[List.length_append,List.length_singleton];have:=h.re.2;omega⟩,h.ph,h.hk,(hm _ (by omega)).trans h.ow,h.bu,λp=>cD (h.hu p),h.un,λp y hy=>?_,h.zn,h.dn,h.di,λp p' y a1 a2 hy hy'=>?_,λp y hp hy=>?_,λp y hp hy=>?_,λa1 a2 a3=>(hm _ (by omega)).trans (h.fz a1 a2 a3),λv hv e=>(hm _ (by omega)).trans (h.mi v hv e),(hm _ (by omega)).trans h.mu,λa1 a2=>(hm _ (by omega)).trans (h.pu a1 a2),h.xn,λv hv=>?_⟩
 ·simp only[List.length_append,List.length_singleton]at e;omega
 ·simp only[List.length_append,List.length_singleton,Nat.add_sub_cancel,hQt,Option.some.injEq]at hy
  subst hy;exact ag rfl
 ·rcases hQ1 p y hy with h'|⟨_,rfl⟩
  ·exact h.qn p y h'
  ·exact ht
 ·rcases hQ1 p y hy with h'|⟨e1,rfl⟩
  ·rcases hQ1 p' y hy' with h''|⟨_,rfl⟩
   ·exact h.ds p p' y a1 a2 h' h''
   ·exact absurd h' (hnin p a1)
  ·rcases hQ1 p' y hy' with h''|⟨e2,_⟩
   ·exact absurd h'' (hnin p' a2)
   ·rw[e1,e2]
 ·simp only[bv];split
  ·exact .inr ⟨rfl,rfl⟩
  ·rename_i hne
   rcases hQ1 p y hy with h'|⟨_,rfl⟩
   ·exact h.qs p y hp h'
   ·exact absurd rfl hne
 ·refine(hm _ (by omega)).trans ?_
  rcases hQ1 p y hy with h'|⟨_,rfl⟩
  ·exact h.ws p y hp h'
  ·exact hm1
 ·simp only[bv];split
  ·rename_i e;subst e
   have hlast:∀hl:g.R<g.Q.length,g.Q[g.Q.length - 1]? = some g.Q[g.Q.length - 1]:=λhl=>aq (by omega)
   have hj:∃j:Nat,ClG.bef { g with Q:=g.Q++[v] } g.Q.length j/\s.m b=j:=by
    rcases Nat.lt_or_ge g.R g.Q.length with hl|hl
    ·exact⟨g.nd g.Q[g.Q.length - 1],.inr ⟨hl,_,cD (hlast hl),rfl⟩,h.qb _ hl (hlast hl)⟩
    ·have hR:g.R=g.Q.length:=by omega
     exact⟨g.z,.inl ⟨hR.symm,rfl⟩,h.qa hR⟩
   obtain⟨j,hj1,hj2⟩:=hj;exact .inr (.inr (.inl ⟨rfl,rfl,h5,g.Q.length,hQt,.inl ⟨hle,λp=>(aj.1 (h.hu p)).1,hid,hfl,j,hj1,hj2,.inl ⟨rfl,hx0⟩⟩⟩))
  ·rename_i hne
   exact sW (g:=g) rfl rfl rfl rfl rfl rfl (λe=>e) (λi y hy=>cD hy) rfl (λe=>(hm _ (by omega)).trans e) (λ_ _=>hm _ (by omega)) (h.lc v hv)
theorem BK{b:Int}{n:Nat}{g:ClG}{s:LS}(h:ClI b n g s)(hb:0<=b/\b+3+n+n+n<=4294967296)(hn:n<=8){t:Nat}(ht:t<n){I:Ins}(hc:(s.th t).c≠0)(hI:(clP b n (s.th t).c t)[(s.th t).q]? = some I)(hsw:swB I.op=true->s.b t=[]):ClR b n g s t I:=by
 have m1:(b+1)%4294967296=b+1:=by omega
 have mm:(b+2+n+1+t)%4294967296=b+3+n+t:=by omega
 have mp:(b+2+n+1+t+n)%4294967296=b+3+n+n+t:=by omega
 have hzn:=h.zn;have hdt:=h.dn t ht
 have md:((g.nd t:Int)+(b+2)%4294967296)%4294967296=b+2+g.nd t:=by omega
 have hl:=h.lc t ht
 cases hx:s.th t with
 | mk c q r d=>
 rw[hx]at hc hI hl;simp only at hc hI
 have hem:s.b t=[]->g.x t=[]:=λe=>by
  have:=h.bu t;rw[e]at this;exact(List.append_eq_nil_iff.1 this.symm).2
 rcases hl with⟨e,_⟩|⟨e,hd,ho,hl⟩|⟨e,hd,h5,p,hp,hl⟩|⟨e,hd,hx0,hl⟩
 ·exact absurd e hc
 ·simp only at e hd;subst e;subst hd
  rcases hl with⟨hx0,h0|⟨hq,how⟩⟩|⟨hno,h5,hl⟩
  ·exact sK h hb hn ht hx (.inl rfl) hI ho hx0 h0
  ·simp only at hq
   rcases hq with rfl|rfl|rfl
   ·have e:I=⟨1,7,0,0,1⟩:=by simpa[clP,clA] using hI.symm
    subst e;refine h.step1 (q':=5) (r':=bQ r 7 1) (λe=>by simp[aJ]at e) (by simp[lex,hx]) rfl ?_;rw[hx];exact .inr (.inl ⟨rfl,rfl,ho,.inl ⟨hx0,.inr ⟨.inr (.inl rfl),how⟩⟩⟩)
   ·have e:I=⟨13,0,0,0,15⟩:=by simpa[clP,clA] using hI.symm
    subst e;refine h.step1 (q':=15) (r':=r) (λe=>by simp[aJ]at e) (by simp[lex,hx]) rfl ?_;rw[hx];exact .inr (.inl ⟨rfl,rfl,ho,.inl ⟨hx0,.inr ⟨.inr (.inr rfl),how⟩⟩⟩)
   ·simp[clP,clA]at hI
  ·have up:∀(q':Nat)(r':Nat->Int),r' 5=(t:Int)+1->yZ b n s.m g t ⟨1,q',r',false⟩->clT b n s.m g t ⟨1,q',r',false⟩:=λq' r' e5 hh=>.inr (.inl ⟨rfl,rfl,ho,.inr ⟨hno,e5,hh⟩⟩)
   simp only at h5;have hid:g.idle t:=λp e=>hno ⟨(ho p e).1,e⟩;rcases hl with⟨hx0,hq⟩|⟨hq,h4,hxx⟩
   ·simp only at hq
    rcases hq with rfl|⟨rfl,h4⟩|⟨rfl,h4,h6⟩
    ·have e:I=⟨16,4,8,0,(b+2+n+1+t)%4294967296⟩:=by simpa[clP,clA] using hI.symm
     subst e;have hv:=h.mine ht hx0 (.inl hid);refine h.step1 (q':=7) (r':=bQ r 4 (g.nd t)) (λ_=>by simp[adr,mm];omega) (by simp[lex,hx,adr,mm,hv]) rfl ?_;rw[hx];exact up _ _ h5 (.inl ⟨hx0,.inr (.inl ⟨rfl,rfl⟩)⟩)
    ·have e:I=⟨1,6,0,0,1⟩:=by simpa[clP,clA] using hI.symm
     subst e;refine h.step1 (q':=8) (r':=bQ r 6 1) (λe=>by simp[aJ]at e) (by simp[lex,hx]) rfl ?_;rw[hx];exact up _ _ h5 (.inl ⟨hx0,.inr (.inr ⟨rfl,h4,rfl⟩)⟩)
    ·have e:I=⟨17,6,4,0,(b+2)%4294967296⟩:=by simpa[clP,clA] using hI.symm
     subst e;refine h.put ht (a:=b+2+g.nd t) (v:=1) (λ_=>by simp[adr,hx,h4,md];omega) (by simp[lex,hx,adr,h4,h6,md]) rfl hx0 ?_;rw[hx];exact .inr (.inl ⟨rfl,rfl,ho,.inr ⟨hno,h5,.inr ⟨rfl,h4,.inl (ag rfl)⟩⟩⟩)
   ·simp only at hq h4;subst hq
    have e:I=⟨19,4,8,0,b⟩:=by simpa[clP,clA] using hI.symm
    subst e;have hx0:=hem (hsw rfl);rcases hxx with e|⟨_,e1⟩
    ·rw[hx0]at e;cases e
    ·exact Dg h hb ht hx h4 h5 ho hno (hsw rfl) hx0 e1
 ·simp only at e hd;subst e;subst hd
  simp only at h5;rcases hl with⟨b1,b2,b3,b4,j,b5,h4,hl⟩|⟨hu,hR,hE,hx0,hl⟩
  ·have up:∀(q':Nat)(r':Nat->Int),r' 5=(t:Int)+1->r' 4=j->((q'=10/\g.x t=[])\/((q'=11\/(q'=12/\(r' 6=0->p=g.R/\g.fl)))/\(g.x t=[(b+3+n+n+t,(j:Int))]\/(g.x t=[]/\s.m (b+3+n+n+t)=j))))->clT b n s.m g t ⟨1,q',r',true⟩:=λq' r' e5 e4 hh=>.inr (.inr (.inl ⟨rfl,rfl,e5,p,hp,.inl ⟨b1,b2,b3,b4,j,b5,e4,hh⟩⟩))
   simp only at h4 hl
   have hjn:j<=n:=by
    rcases b5 with⟨_,e⟩|⟨_,y,ey,e⟩
    ·rw[e];exact hzn
    ·rw[e];exact(h.dn y (h.qn _ _ ey)).1
   have mj:((j:Int)+(b+2)%4294967296)%4294967296=b+2+j:=by omega
   rcases hl with⟨rfl,hx0⟩|⟨rfl|⟨rfl,h6⟩,hxx⟩
   ·have e:I=⟨17,4,8,0,(b+2+n+1+t+n)%4294967296⟩:=by simpa[clP,clA] using hI.symm
    subst e;refine h.put ht (a:=b+3+n+n+t) (v:=(j:Int)) (λ_=>by simp[adr,mp];omega) (by simp[lex,hx,adr,h4,mp]) rfl hx0 ?_;rw[hx];exact .inr (.inr (.inl ⟨rfl,rfl,h5,p,hp,.inl ⟨b1,b2,b3,b4,j,b5,h4,.inr ⟨.inl rfl,.inl (ag rfl)⟩⟩⟩))
   ·have e:I=⟨16,6,4,0,(b+2)%4294967296⟩:=by simpa[clP,clA] using hI.symm
    subst e
    have hv:bk (s.b t) s.m (b+2+j)=s.m (b+2+j):=by
     rw[h.emp b3 b4]
     have n1:¬b+3+n+n+t=b+2+j:=by omega
     rcases hxx with e|⟨e,_⟩<;>rw[e]<;>simp[bk,aV,n1]
    refine h.step1 (q':=12) (r':=bQ r 6 (s.m (b+2+j))) (λ_=>by simp[adr,hx,h4,mj];omega) (by simp[lex,hx,adr,h4,mj,hv]) rfl ?_;rw[hx];refine up _ _ h5 h4 (.inr ⟨.inr ⟨rfl,λe6=>?_⟩,hxx⟩);have e6':s.m (b+2+j)=0:=e6;have hl5:(g.log b n).length<=5:=sB b n g.ph g.u g.R g.z (g.nd g.u);have hk:=h.hk;rcases b5 with⟨e,ej⟩|⟨_,y,ey,ej⟩
    ·refine⟨e,?_⟩
     have p0:g.ph=0:=by
      by_cases q:1<=g.ph
      ·have:=b2 q;omega
      ·omega
     by_cases hR:g.R=0
     ·exact .inl hR
     ·refine .inr ?_
      by_cases hk5:g.k<5
      ·have:=h.fz p0 (by omega) hk5
       rw[ej]at e6';omega
      ·omega
    ·have:=h.ws (p - 1) y (by omega) ey
     rw[ej]at e6';omega
   ·have e:I=⟨15,6,0,0,11⟩:=by simpa[clP,clA] using hI.symm
    subst e
    by_cases hz:r 6=0
    ·obtain⟨hR,hf⟩:=h6 hz
     have p0:g.ph=0:=by
      by_cases e:1<=g.ph
      ·have:=b2 e;omega
      ·omega
     have ej:j=g.z:=by
      rcases b5 with⟨_,e⟩|⟨e,_⟩
      ·exact e
      ·omega
     subst ej;exact CG h ht hx h5 (hR▸hp) p0 hf hxx rfl rfl (by simp[lex,hz])
    ·refine h.step1 (q':=11) (r':=r) (λe=>by simp[aJ]at e) (by simp[lex,hx,hz]) rfl ?_
     rw[hx];exact up _ _ h5 h4 (.inr ⟨.inl rfl,hxx⟩)
  ·simp only at hl
   rcases hl with⟨p1,rfl⟩|⟨p2,rfl|rfl⟩
   ·have e:I=⟨17,5,8,0,(b+1)%4294967296⟩:=by simpa[clP,clA] using hI.symm
    subst e;refine pB h ht (.inl p1) hu hx0 hx rfl (λ_=>by simp[adr,m1];omega) (a:=b+1) (v:=(t:Int)+1) (by simp[lex,adr,m1,h5]) (.inl ⟨p1,rfl,rfl⟩) ?_;exact .inr (.inr (.inl ⟨rfl,rfl,h5,p,hp,.inr ⟨hu,hR,hE,hx0,.inr ⟨by show g.ph+1=2;omega,.inl rfl⟩⟩⟩))
   ·have e:I=⟨1,7,0,0,0⟩:=by simpa[clP,clA] using hI.symm
    subst e;refine h.step1 (q':=15) (r':=bQ r 7 0) (λe=>by simp[aJ]at e) (by simp[lex,hx]) rfl ?_;rw[hx];exact .inr (.inr (.inl ⟨rfl,rfl,h5,p,hp,.inr ⟨hu,hR,hE,hx0,.inr ⟨p2,.inr rfl⟩⟩⟩))
   ·simp[clP,clA]at hI
 ·simp only at e hd;subst e;subst hd
  have up:∀(q':Nat)(r':Nat->Int),FS g t ⟨2,q',r',false⟩->clT b n s.m g t ⟨2,q',r',false⟩:=λq' r' hh=>.inr (.inr (.inr ⟨rfl,rfl,hx0,hh⟩));rcases hl with⟨ho,h0⟩|⟨hq,hi⟩|⟨hq,how,hE⟩|⟨hu,hE,hq⟩
  ·exact sK h hb hn ht hx (.inr rfl) hI ho hx0 h0
  ·simp only at hq
   rcases hq with rfl|rfl|rfl|rfl
   ·have e:I=⟨1,7,0,0,2⟩:=by simpa[clP,clR] using hI.symm
    subst e;refine h.step1 (q':=5) (r':=bQ r 7 2) (λe=>by simp[aJ]at e) (by simp[lex,hx]) rfl ?_;rw[hx];exact up _ _ (.inr (.inl ⟨.inr (.inl rfl),hi⟩))
   ·have e:I=⟨13,0,0,0,14⟩:=by simpa[clP,clR] using hI.symm
    subst e;refine h.step1 (q':=14) (r':=r) (λe=>by simp[aJ]at e) (by simp[lex,hx]) rfl ?_;rw[hx];exact up _ _ (.inr (.inl ⟨.inr (.inr (.inr rfl)),hi⟩))
   ·have e:I=⟨1,7,0,0,0⟩:=by simpa[clP,clR] using hI.symm
    subst e;refine h.step1 (q':=14) (r':=bQ r 7 0) (λe=>by simp[aJ]at e) (by simp[lex,hx]) rfl ?_;rw[hx];exact up _ _ (.inr (.inl ⟨.inr (.inr (.inr rfl)),hi⟩))
   ·simp[clP,clR]at hI
  ·simp only at hq
   rcases hq with rfl|⟨rfl,h4⟩
   ·have e:I=⟨1,4,0,0,0⟩:=by simpa[clP,clR] using hI.symm
    subst e;refine h.step1 (q':=7) (r':=bQ r 4 0) (λe=>by simp[aJ]at e) (by simp[lex,hx]) rfl ?_;rw[hx];exact up _ _ (.inr (.inr (.inl ⟨.inr ⟨rfl,rfl⟩,how,hE⟩)))
   ·have e:I=⟨17,4,8,0,(b+1)%4294967296⟩:=by simpa[clP,clR] using hI.symm
    subst e;obtain⟨p2,hu⟩:=how;refine pB h ht (.inr (.inl p2)) hu hx0 hx rfl (λ_=>by simp[adr,m1];omega) (a:=b+1) (v:=0) (by simp[lex,adr,m1,h4]) (.inr (.inl ⟨p2,rfl,rfl⟩)) ?_;exact .inr (.inr (.inr ⟨rfl,rfl,hx0,.inr (.inr (.inr ⟨hu,hE,.inl ⟨by show g.ph+1=3;omega,.inl rfl⟩⟩))⟩))
  ·simp only at hq
   rcases hq with⟨p3,rfl|⟨rfl,h4⟩|⟨rfl,h4,h6⟩⟩|⟨p4,⟨rfl,h4⟩|⟨rfl,h4,h6⟩⟩
   ·have e:I=⟨16,4,8,0,(b+2+n+1+t)%4294967296⟩:=by simpa[clP,clR] using hI.symm
    subst e;have hv:=h.mine ht hx0 (.inr p3);refine h.step1 (q':=9) (r':=bQ r 4 (g.nd t)) (λ_=>by simp[adr,mm];omega) (by simp[lex,hx,adr,mm,hv]) rfl ?_;rw[hx];exact up _ _ (.inr (.inr (.inr ⟨hu,hE,.inl ⟨p3,.inr (.inl ⟨rfl,rfl⟩)⟩⟩)))
   ·have e:I=⟨16,6,8,0,(b+2+n+1+t+n)%4294967296⟩:=by simpa[clP,clR] using hI.symm
    subst e;have hv:=h.pred hx0 hu p3;refine h.step1 (q':=10) (r':=bQ r 6 (g.z)) (λ_=>by simp[adr,mp];omega) (by simp[lex,hx,adr,mp,hv]) rfl ?_;rw[hx];exact up _ _ (.inr (.inr (.inr ⟨hu,hE,.inl ⟨p3,.inr (.inr ⟨rfl,h4,rfl⟩)⟩⟩)))
   ·have e:I=⟨17,6,8,0,(b+2+n+1+t)%4294967296⟩:=by simpa[clP,clR] using hI.symm
    subst e;refine pB h ht (.inr (.inr p3)) hu hx0 hx rfl (λ_=>by simp[adr,mm];omega) (a:=b+3+n+t) (v:=g.z) (by simp[lex,adr,mm,h6]) (.inr (.inr ⟨p3,rfl,rfl⟩)) ?_;exact .inr (.inr (.inr ⟨rfl,rfl,hx0,.inr (.inr (.inr ⟨hu,hE,.inr ⟨by show g.ph+1=4;omega,.inl ⟨rfl,h4⟩⟩⟩))⟩))
   ·have e:I=⟨1,6,0,0,0⟩:=by simpa[clP,clR] using hI.symm
    subst e;refine h.step1 (q':=12) (r':=bQ r 6 0) (λe=>by simp[aJ]at e) (by simp[lex,hx]) rfl ?_;rw[hx];exact up _ _ (.inr (.inr (.inr ⟨hu,hE,.inr ⟨p4,.inr ⟨rfl,h4,rfl⟩⟩⟩)))
   ·have e:I=⟨17,6,4,0,(b+2)%4294967296⟩:=by simpa[clP,clR] using hI.symm
    subst e;exact B8 h ht p4 hu hE hx0 hx rfl (λ_=>by simp[adr,hx,h4,md];omega) (by simp[lex,adr,h4,h6,md])
def clF(n:Nat)(i:Int):Int:=if i=0 then n else if 3+(n:Int)<=i/\i<3+n+n then i - 3 - n else 0
theorem Ck{b:Int}{n:Nat}(hb:0<=b/\b+3+n+n+n<=4294967296)(hn:0<n/\n<=8):BA (clP b n) b (b+3+n+n+n) n (clF n) (λQ E s=>∃g:ClG,g.Q=Q/\g.E=E/\ClI b n g s) where
 flush:=λ⟨g,e1,e2,h⟩ hb=>by
  obtain⟨k,x,h'⟩:=AA h hb;exact⟨{ g with k:=k,x:=x },e1,e2,h'⟩
 regs:=λ⟨g,e1,e2,h⟩ ht hc r=>⟨g,e1,e2,BT h ht hc r⟩
 enter:=λ⟨g,e1,e2,h⟩ ht hc h'=>⟨g,e1,e2,za h ht hc h'⟩
 leave:=λ{Q E s t} ⟨g,e1,e2,h⟩ ht hc hq=>by
  have h':=zx h ht hc hq
  split
  ·rename_i hh
   rw[ag hh]at h';subst e1 e2;exact⟨h'.1,{ g with E:=g.E+1 },rfl,rfl,h'.2⟩
  ·rename_i hh
   rw[af hh]at h';exact⟨g,e1,e2,h'⟩
 exec:=λ⟨g,e1,e2,h⟩ _ ht hc hI hsw=>by
  subst e1 e2;obtain⟨ha,g',h',hE,hQ'⟩:=BK h hb hn.2 ht hc hI hsw;exact⟨ha,g',hQ',hE,h'⟩
 init:=λ{s} hm hb' hc=>by
  have mine:∀t:Nat,t<n->s.m (b+3+n+t)=t:=λt ht=>by
   rw[hm _ (by omega) (by omega),clF,af (by omega),ag (by omega)];omega
  have zero:∀a,b<a->a<b+3+n->s.m a=0:=λa h1 h2=>by
   rw[hm _ (by omega) (by omega),clF,af (by omega),af (by omega)]
  refine⟨⟨⟨[],0,0,0,0,0⟩,n,λt=>t,λ_=>[]⟩,rfl,rfl,λ_=>?_,λy e=>absurd e (Nat.lt_irrefl _),⟨.inl rfl,ah _⟩,au _,by simp[ClG.log,clL],?_,λt=>by simp[hb' t,ClG.log,clL],λh=>by simp at h,hn.1,λp y e=>by simp at e,ah _,λt ht=>⟨by simp only;omega,by simp only;omega⟩,λ_ _ _ _ e=>e,λp p' y _ _ e=>by simp at e,λp y _ e=>by simp at e,λp y _ e=>by simp at e,λ_ e=>absurd e (Nat.lt_irrefl _),λt ht _=>mine t ht,?_,λe=>by simp at e,λ_ _=>rfl,λt _=>.inl ⟨hc t,λh=>by simp at h,rfl⟩⟩
  ·rw[hm _ (by omega) (by omega),clF,ag (by omega)]
  ·rw[zero _ (by omega) (by omega)];simp
  ·have:=mine 0 hn.1
   simpa using this
 frame:=λ{Q E s m} ⟨g,e1,e2,h⟩ hm=>⟨g,e1,e2,by
  have hu:=h.un;have hz:=h.zn;refine⟨λe=>(hm b (by omega) (by omega)).trans (h.qa e),λy e ey=>(hm b (by omega) (by omega)).trans (h.qb y e ey),h.re,h.ph,h.hk,(hm (b+1) (by omega) (by omega)).trans h.ow,h.bu,h.hu,h.un,h.qn,h.zn,h.dn,h.di,h.ds,h.qs,λp y hp hy=>?_,λe1 e2 e3=>(hm _ (by omega) (by omega)).trans (h.fz e1 e2 e3),λt ht e=>(hm _ (by omega) (by omega)).trans (h.mi t ht e),(hm _ (by omega) (by omega)).trans h.mu,λe1 e2=>(hm _ (by omega) (by omega)).trans (h.pu e1 e2),h.xn,λt ht=>?_⟩
  ·have:=h.dn y (h.qn _ _ hy)
   exact(hm _ (by omega) (by omega)).trans (h.ws p y hp hy)
  ·have:=h.dn t ht
   exact sW (g:=g) rfl rfl rfl rfl rfl rfl (λe=>e) (λ_ _ h=>h) rfl (λe=>(hm _ (by omega) (by omega)).trans e) (λ_ _=>hm _ (by omega) (by omega)) (h.lc t ht)⟩
end Go.Proofs.YtldlcnaphednnaaGreatDoor
