/- Queues by links: who came first has it first. Plain. -/
import Derived.Test.YtldlcnaphednnaaGreatDoorM44
set_option maxRecDepth 100000
set_option maxHeartbeats 32000000
set_option linter.unusedVariables false
set_option linter.unusedSimpArgs false
namespace Go.Proofs.YtldlcnaphednnaaGreatDoor
def mcP(b:Int)(n:Nat)(c t:Nat):List Ins:=if c=1 then mcA b n t else mcR b n t
def mcL(b:Int)(n ph u:Nat)(w:Option Nat):List (Int×Int):=
 if ph=0 then(match w with
  | none=>[]
  | some v=>[(b+1,(u:Int)+1),(b+1,0),(b+2+n+v,0)])
 else if ph=1 then[] else if ph=2 then[(b+1,(u:Int)+1)] else[(b+1,(u:Int)+1),(b+1,0)]
theorem rH(b:Int)(n ph u:Nat)(w:Option Nat):(mcL b n ph u w).length<=3:=by
 unfold mcL;(repeat' split)<;>simp
structure McG extends TkG where
 w:Option Nat
 x:Nat->List (Int×Int)
def zH(b:Int)(n:Nat)(m:Int->Int)(g:McG)(t:Nat)(y:TL):Prop:=
 (g.x t=[]/\(y.q=6\/(y.q=7/\y.r 4=0))) \/
 ((y.q=8\/(y.q=9/\y.r 4=1))/\(g.x t=[(b+2+t,0)]\/(g.x t=[]/\m (b+2+t)=0))) \/
 ((y.q=10\/(y.q=11/\y.r 4=(t:Int)+1))/\(g.x t=[(b+2+t,0),(b+2+n+t,1)]\/(g.x t=[(b+2+n+t,1)]/\m (b+2+t)=0)\/(g.x t=[]/\m (b+2+t)=0/\m (b+2+n+t)=1)))
def mcW(b:Int)(n:Nat)(m:Int->Int)(g:McG)(t p:Nat)(y:TL):Prop:=
 (g.R<=p/\(1<=g.ph->g.R<p)/\g.idle t/\
  ((y.q=12/\y.r 4=0/\p=g.R/\g.w=none/\g.x t=[]) \/
   ((y.q=12\/y.q=13)/\g.R<p/\g.x t=[]/\∃j:Nat,g.Q[p - 1]? = some j/\y.r 4=(j:Int)+1/\m (b+2+j)=0) \/
   ((y.q=14\/(y.q=15/\(y.r 6=0->p=g.R/\g.k=3)))/\(p=g.R->g.w=some t)/\(g.x t=[]\/(g.R<p/\∃j:Nat,g.Q[p - 1]? = some j/\g.x t=[(b+2+j,(t:Int)+1)]/\m (b+2+j)=0))))) \/
 (g.u=t/\p=g.R/\g.E=g.R/\g.x t=[]/\((g.ph=1/\y.q=16)\/(g.ph=2/\(y.q=17\/y.q=18))))
def GM(b:Int)(m:Int->Int)(g:McG)(t:Nat)(y:TL):Prop:=
 (g.out t/\lj g.toTkG t y)\/((y.q=4\/y.q=5\/y.q=19\/y.q=20\/(y.q=13/\y.r 4=y.r 5)\/(y.q=14/\y.r 6≠0))/\g.idle t) \/
 ((y.q=6\/(y.q=7/\y.r 4=0))/\y.r 5=(t:Int)+1/\g.ow t/\g.E=g.R+1) \/
 (g.ph=3/\g.u=t/\g.E=g.R+1/\y.r 5=(t:Int)+1/\
  (y.q=8\/((y.q=9\/y.q=16)/\(y.r 4≠0->y.r 4=m (b+2+t)))\/y.q=10\/(y.q=11/\y.r 4=(t:Int)+1)\/(y.q=12/\y.r 4=(t:Int)+1/\y.r 6=0) \/
   (y.q=13/\y.r 4≠(t:Int)+1)\/(y.q=14/\y.r 6=0)\/y.q=15\/((y.q=17\/(y.q=18/\y.r 6=0))/\y.r 4≠0/\y.r 4=m (b+2+t))))
def mcT(b:Int)(n:Nat)(m:Int->Int)(g:McG)(t:Nat)(y:TL):Prop:=
 (y.c=0/\g.out t/\g.x t=[]) \/
 (y.c=1/\y.d=false/\g.out t/\((g.x t=[]/\(lj g.toTkG t y\/((y.q=4\/y.q=5\/y.q=18)/\g.ow t)))\/(¬g.ow t/\y.r 5=(t:Int)+1/\zH b n m g t y))) \/
 (y.c=1/\y.d=true/\y.r 5=(t:Int)+1/\∃p,g.Q[p]? = some t/\mcW b n m g t p y) \/
 (y.c=2/\y.d=false/\g.x t=[]/\GM b m g t y)
structure McI(b:Int)(n:Nat)(g:McG)(s:LS):Prop where
 qa:g.R=g.Q.length->s.m b=0
 qb:∀y:Nat,g.R<g.Q.length->g.Q[g.Q.length - 1]? = some y->s.m b=(y:Int)+1
 re:(g.E=g.R\/(g.E=g.R+1/\2<=g.ph))/\g.E<=g.Q.length
 ph:g.ph<=3
 hk:g.k<=(mcL b n g.ph g.u g.w).length
 ow:s.m (b+1)=if g.k=1 then(g.u:Int)+1 else 0
 bu:∀t,s.b t=(if t=g.u then(mcL b n g.ph g.u g.w).drop g.k else[])++g.x t
 hu:1<=g.ph->g.Q[g.R]? = some g.u
 un:g.u<n
 qn:∀(p y:Nat),g.Q[p]? = some y->y<n
 hw:∀v,g.ph=0->g.w=some v->g.Q[g.R]? = some v/\v≠g.u
 ds:∀(p p' y:Nat),g.R<=p->g.R<=p'->g.Q[p]? = some y->g.Q[p']? = some y->p=p'
 qs:∀(p y:Nat),g.R<=p->g.Q[p]? = some y->(p=g.R/\1<=g.ph)\/((s.th y).c=1/\(s.th y).d=true)
 ws:∀(p y:Nat),g.R<=p->g.Q[p]? = some y->(g.R<p\/(g.ph=0/\g.k<3))->s.m (b+2+n+y)=1
 nl:∀(p y:Nat),g.R<=p->g.Q[p]? = some y->s.m (b+2+y)=0\/∃y':Nat,g.Q[p+1]? = some y'/\s.m (b+2+y)=(y':Int)+1
 xn:∀t,n<=t->g.x t=[]
 lc:∀t,t<n->mcT b n s.m g t (s.th t)
theorem fC{g g':TkG}{v:Nat}{y:TL}(h:g.ow v↔g'.ow v)(hx:lj g v y):lj g' v y:=by
 unfold lj at hx ⊢;rw[h]at hx;exact hx
theorem pH{b:Int}{n:Nat}{m m':Int->Int}{g g':McG}{v:Nat}{y:TL}(hR:g'.R=g.R)(hE:g'.E=g.E)(hp:g'.ph=g.ph)(hu:g'.u=g.u)(hw:g'.w=g.w)(hk:g.k=3->g'.k=3)(hQ:∀(i z:Nat),g.Q[i]? = some z->g'.Q[i]? = some z)(hx:g'.x v=g.x v)
  (h1:y.c=1->y.d=false->g.out v->¬g.ow v->m' (b+2+v)=m (b+2+v)/\m' (b+2+n+v)=m (b+2+n+v))
  (h2:∀(p j:Nat),g.R<p->g.Q[p]? = some v->g.Q[p - 1]? = some j->m (b+2+j)=0->m' (b+2+j)=0)
  (h3:g.ph=3->g.u=v->m (b+2+v)≠0->m' (b+2+v)=m (b+2+v)) (h:mcT b n m g v y):mcT b n m' g' v y:=by
 have e1:g'.ow v↔g.ow v:=by simp[TkG.ow,hp,hu]
 have e2:g'.out v↔g.out v:=by simp[TkG.out,hp,hu,hE,hR]
 have e3:g'.idle v↔g.idle v:=by simp[TkG.idle,hp,hu]
 rcases h with⟨a,a1,a2⟩|⟨a,d,a1,a2⟩|⟨a,d,a1,p,a2,a3⟩|⟨a,d,a1,a2⟩
 ·exact .inl ⟨a,e2.2 a1,hx.trans a2⟩
 ·refine .inr (.inl ⟨a,d,e2.2 a1,?_⟩)
  rcases a2 with⟨a2,a3⟩|⟨a2,a3,a4⟩
  ·refine .inl ⟨hx.trans a2,?_⟩
   rcases a3 with a3|⟨a3,a4⟩
   ·exact .inl (fC e1.symm a3)
   ·exact .inr ⟨a3,e1.2 a4⟩
  ·refine .inr ⟨λh=>a2 (e1.1 h),a3,?_⟩
   unfold zH;rw[hx,(h1 a d a1 a2).1,(h1 a d a1 a2).2];exact a4
 ·refine .inr (.inr (.inl ⟨a,d,a1,p,hQ _ _ a2,?_⟩))
  rcases a3 with⟨b1,b2,b3,b4⟩|b1
  ·refine .inl ⟨by rw[hR];exact b1,by rw[hR,hp];exact b2,e3.2 b3,?_⟩
   rw[hx,hR,hw];rcases b4 with b4|⟨c1,c2,c3,j,c4,c5,c6⟩|⟨c1,c2,c3⟩
   ·exact .inl b4
   ·exact .inr (.inl ⟨c1,c2,c3,j,hQ _ _ c4,c5,h2 p j c2 a2 c4 c6⟩)
   ·refine .inr (.inr ⟨?_,c2,?_⟩)
    ·rcases c1 with c1|⟨c1,c4⟩
     ·exact .inl c1
     ·exact .inr ⟨c1,λe=>⟨(c4 e).1,hk (c4 e).2⟩⟩
    ·rcases c3 with c3|⟨c3,j,c4,c5,c6⟩
     ·exact .inl c3
     ·exact .inr ⟨c3,j,hQ _ _ c4,c5,h2 p j c3 a2 c4 c6⟩
  ·refine .inr ?_
   rw[hu,hR,hE,hx,hp];exact b1
 ·refine .inr (.inr (.inr ⟨a,d,hx.trans a1,?_⟩))
  rcases a2 with⟨b1,b2⟩|⟨b1,b2⟩|⟨b1,b2,b3,b4⟩|⟨b1,b2,b3,b4,b5⟩
  ·exact .inl ⟨e2.2 b1,fC e1.symm b2⟩
  ·exact .inr (.inl ⟨b1,e3.2 b2⟩)
  ·exact .inr (.inr (.inl ⟨b1,b2,e1.2 b3,by rw[hE,hR];exact b4⟩))
  ·refine .inr (.inr (.inr ⟨hp.trans b1,hu.trans b2,by rw[hE,hR];exact b3,b4,?_⟩))
   rcases b5 with c|⟨c,c'⟩|c|c|c|c|c|c|⟨c,c1,c2⟩
   ·exact .inl c
   ·exact .inr (.inl ⟨c,λe=>by rw[h3 b1 b2 (by rw[<-c' e];exact e)];exact c' e⟩)
   ·exact .inr (.inr (.inl c))
   ·exact .inr (.inr (.inr (.inl c)))
   ·exact .inr (.inr (.inr (.inr (.inl c))))
   ·exact .inr (.inr (.inr (.inr (.inr (.inl c)))))
   ·exact .inr (.inr (.inr (.inr (.inr (.inr (.inl c))))))
   ·exact .inr (.inr (.inr (.inr (.inr (.inr (.inr (.inl c)))))))
   ·exact .inr (.inr (.inr (.inr (.inr (.inr (.inr (.inr ⟨c,c1,by rw[h3 b1 b2 (by rw[<-c2];exact c1)];exact c2⟩)))))))
theorem tQ{b:Int}{n:Nat}{m m':Int->Int}{g g':McG}{v:Nat}{y:TL}(hi:g.idle v)(hu:g'.u≠v)(hQ:∀(i z:Nat),g.Q[i]? = some z->g'.Q[i]? = some z)(hx:g'.x v=g.x v)(hm:∀a,b+2<=a->m' a=m a)
  (hw:∀p,g.Q[p]? = some v->g.R<=p->(1<=g.ph->g.R<p)->g.R<p/\g'.R<=p/\(1<=g'.ph->g'.R<p)/\(g'.R=p->g'.w=some v/\∀j:Nat,g.Q[p - 1]? = some j->m (b+2+j)≠0)) (h:mcT b n m g v y):mcT b n m' g' v y:=by
 have f1:¬g.ow v:=λe=>hi (by rw[e.1];decide) e.2
 have f2:¬g'.ow v:=λe=>hu e.2
 have e1:g'.ow v↔g.ow v:=by simp only[f1,f2]
 have e2:g'.out v:=λ_ e=>absurd e hu
 have e3:g'.idle v:=λ_=>hu
 have n1:m' (b+2+v)=m (b+2+v):=hm _ (by omega);have n2:m' (b+2+n+v)=m (b+2+n+v):=hm _ (by omega);rcases h with⟨a,a1,a2⟩|⟨a,d,a1,a2⟩|⟨a,d,a1,p,a2,a3⟩|⟨a,d,a1,a2⟩
 ·exact .inl ⟨a,e2,hx.trans a2⟩
 ·refine .inr (.inl ⟨a,d,e2,?_⟩)
  rcases a2 with⟨a2,a3⟩|⟨a2,a3,a4⟩
  ·refine .inl ⟨hx.trans a2,?_⟩
   rcases a3 with a3|⟨a3,a4⟩
   ·exact .inl (fC e1.symm a3)
   ·exact absurd a4 f1
  ·refine .inr ⟨f2,a3,?_⟩
   unfold zH;rw[hx,n1,n2];exact a4
 ·refine .inr (.inr (.inl ⟨a,d,a1,p,hQ _ _ a2,?_⟩))
  rcases a3 with⟨b1,b2,b3,b4⟩|⟨b1,b2,b3,b4,b5⟩
  ·obtain⟨w1,w2,w3,w4⟩:=hw p a2 b1 b2
   refine .inl ⟨w2,w3,e3,?_⟩;rw[hx];rcases b4 with⟨_,_,b4,_⟩|⟨c1,c2,c3,j,c4,c5,c6⟩|⟨c1,c2,c3⟩
   ·omega
   ·refine .inr (.inl ⟨c1,Nat.lt_of_le_of_ne w2 λe=>(w4 e).2 j c4 c6,c3,j,hQ _ _ c4,c5,by rw[hm _ (by omega)];exact c6⟩)
   ·refine .inr (.inr ⟨?_,λe=>(w4 e.symm).1,?_⟩)
    ·rcases c1 with c1|⟨c1,c4⟩
     ·exact .inl c1
     ·exact .inr ⟨c1,λe=>by have:=(c4 e).1;omega⟩
    ·rcases c3 with c3|⟨c3,j,c4,c5,c6⟩
     ·exact .inl c3
     ·exact .inr ⟨Nat.lt_of_le_of_ne w2 λe=>(w4 e).2 j c4 c6,j,hQ _ _ c4,c5,by rw[hm _ (by omega)];exact c6⟩
  ·rcases b5 with⟨b5,_⟩|⟨b5,_⟩<;>exact absurd b1 (hi (by omega))
 ·refine .inr (.inr (.inr ⟨a,d,hx.trans a1,?_⟩))
  rcases a2 with⟨b1,b2⟩|⟨b1,b2⟩|⟨b1,b2,b3,b4⟩|⟨b1,b2,b3,b4,b5⟩
  ·exact .inl ⟨e2,fC e1.symm b2⟩
  ·exact .inr (.inl ⟨b1,e3⟩)
  ·exact absurd b3 f1
  ·exact absurd b2 (hi (by omega))
theorem McI.one{b:Int}{n:Nat}{g:McG}{s:LS}(h:McI b n g s){t:Nat}{x:TL}(hq:∀p,g.R<=p->g.Q[p]? = some t->(p=g.R/\1<=g.ph)\/(x.c=1/\x.d=true))(hx:mcT b n s.m g t x):McI b n g { s with th:=bv s.th t x }:=
 ⟨h.qa,h.qb,h.re,h.ph,h.hk,h.ow,h.bu,h.hu,h.un,h.qn,h.hw,h.ds,λp y hp hy=>by
  simp only[bv];split
  ·rename_i e;exact hq p hp (e▸hy)
  ·exact h.qs p y hp hy,h.ws,h.nl,h.xn,λv hv=>by
  simp only[bv];split
  ·rename_i e;rw[e];exact hx
  ·exact h.lc v hv⟩
theorem McI.one'{b:Int}{n:Nat}{g:McG}{s:LS}(h:McI b n g s){t:Nat}{x:TL}(hc:(s.th t).c=1->(s.th t).d=true->x.c=1/\x.d=true)(hx:mcT b n s.m g t x):McI b n g { s with th:=bv s.th t x }:=
 h.one (λp hp hy=>by
  rcases h.qs p t hp hy with e|e
  ·exact .inl e
  ·exact .inr (hc e.1 e.2)) hx
theorem McI.c0{b:Int}{n:Nat}{g:McG}{s:LS}(h:McI b n g s){t:Nat}(ht:t<n)(hc:(s.th t).c=0):g.out t/\g.x t=[]:=by
 rcases h.lc t ht with h1|h1|h1|h1
 ·exact h1.2
 all_goals rw[hc]at h1;exact absurd h1.1 (by decide)
theorem Cn{b:Int}{n:Nat}{g:McG}{s:LS}(h:McI b n g s){t:Nat}(ht:t<n)(hc:(s.th t).c=0)(r:Nat->Int):McI b n g { s with th:=bv s.th t { s.th t with r:=r } }:=
 h.one' (λa b=>⟨a,b⟩) (.inl ⟨hc,h.c0 ht hc⟩)
theorem Aa{b:Int}{n:Nat}{g:McG}{s:LS}(h:McI b n g s){t c:Nat}(ht:t<n)(hc:(s.th t).c=0)(hc':c=1\/c=2):McI b n g { s with th:=bv s.th t ⟨c,0,(s.th t).r,false⟩ }:=by
 obtain⟨h1,h2⟩:=h.c0 ht hc;refine h.one' (λa _=>by rw[hc]at a;exact absurd a (by decide)) ?_;rcases hc' with rfl|rfl
 ·exact .inr (.inl ⟨rfl,rfl,h1,.inl ⟨h2,.inl (.inl rfl)⟩⟩)
 ·exact .inr (.inr (.inr ⟨rfl,rfl,h2,.inl ⟨h1,.inl rfl⟩⟩))
theorem zC{b:Int}{n:Nat}{g:McG}{s:LS}(h:McI b n g s){t:Nat}(ht:t<n)(hc:(s.th t).c≠0)(hq:(s.th t).q=(mcP b n (s.th t).c t).length):
  if(s.th t).c=1/\(s.th t).d=true then g.Q[g.E]? = some t/\McI b n { g with E:=g.E+1 } { s with th:=bv s.th t { s.th t with c:=0 } } else McI b n g { s with th:=bv s.th t { s.th t with c:=0 } }:=by
 rcases h.lc t ht with h1|⟨h1,hd,ho,h2⟩|⟨h1,hd,h5,p,hp,h2⟩|⟨h1,hd,hx,h2⟩
 ·exact absurd h1.1 hc
 ·rw[af (by rw[hd];simp)]
  have h18:(s.th t).q=18:=by rw[hq,h1];rfl
  refine h.one' (λ_ e=>by rw[hd]at e;exact absurd e (by decide)) (.inl ⟨rfl,ho,?_⟩);rcases h2 with⟨h2,_⟩|⟨_,_,h2⟩
  ·exact h2
  ·unfold zH at h2;omega
 ·rw[ag ⟨h1,hd⟩]
  have h18:(s.th t).q=18:=by rw[hq,h1];rfl
  rcases h2 with⟨_,_,_,h2⟩|⟨hu,rfl,hE,hx,h2⟩
  ·exfalso;omega
  have p2:g.ph=2:=by omega
  have hlt:=(aj.1 hp).1;refine⟨by rw[hE];exact hp,h.qa,h.qb,⟨.inr ⟨by simp only;omega,by simp only;omega⟩,by simp only;omega⟩,h.ph,h.hk,h.ow,h.bu,h.hu,h.un,h.qn,h.hw,h.ds,λp y hp' hy=>?_,h.ws,h.nl,h.xn,λv hv=>?_⟩
  ·simp only[bv]
   split
   ·rename_i e;subst e
    exact .inl ⟨h.ds _ _ _ hp' (ah _) hy hp,by omega⟩
   ·exact h.qs p y hp' hy
  ·simp only[bv];split
   ·rename_i e;subst e
    exact .inl ⟨rfl,λ_ _=>⟨p2,by simp only;omega⟩,hx⟩
   ·rename_i hne
    have hi:g.u≠v:=λe=>hne (e.symm.trans hu);exact tQ (λ_=>hi) hi (λ_ _ h=>h) rfl (λ_ _=>rfl) (λp hp a1 a2=>⟨a2 (by omega),a1,a2,λe=>by have:=a2 (by omega);simp only at e;omega⟩) (h.lc v hv)
 ·rw[af (by rw[h1];simp)]
  have h20:(s.th t).q=20:=by rw[hq,h1];rfl
  refine h.one' (λe _=>by rw[h1]at e;exact absurd e (by decide)) (.inl ⟨rfl,?_,hx⟩);rcases h2 with⟨b1,_⟩|⟨_,b1⟩|⟨b1,_⟩|⟨_,_,_,_,b1⟩
  ·exact b1
  ·exact λh3 e=>absurd e (b1 h3)
  ·omega
  ·omega
theorem McI.own{b:Int}{n:Nat}{g:McG}{s:LS}(h:McI b n g s){t:Nat}(hx:g.x t=[])(ho:g.out t):bk (s.b t) s.m (b+1)=(t:Int)+1↔g.ow t:=by
 have hk:=h.hk;rw[h.bu t,hx,List.append_nil];have how:=h.ow
 by_cases hu:t=g.u
 ·rw[ag hu]
  subst hu
  have hp':g.ph=0\/g.ph=2:=by
   by_cases e:1<=g.ph
   ·exact .inr (ho e rfl).1
   ·omega
  unfold TkG.ow;generalize g.k=k at hk how ⊢;rcases hp' with e|e
  ·cases hw:g.w with
   | none=>
    have hL:mcL b n g.ph g.u g.w=[]:=by simp[mcL,e,hw]
    rw[hw]at hL;rw[hw,hL]at hk;rw[hL]
    obtain rfl:k=0:=by simpa using hk
    simp[bk,aV,how,e];omega
   | some v=>
    have hL:mcL b n g.ph g.u (some v)=[(b+1,(g.u:Int)+1),(b+1,0),(b+2+n+v,0)]:=by simp[mcL,e]
    rw[hw,hL]at hk;rw[hL];simp only[List.length_cons,List.length_nil]at hk
    have n1:¬b+2+n+v=b+1:=by omega
    match k,hk with
    | 0,_=>simp[bk,aV,e,n1];omega
    | 1,_=>simp[bk,aV,e,n1];omega
    | 2,_=>simp[bk,aV,e,how,n1];omega
    | 3,_=>simp[bk,aV,e,how];omega
    | k+4,hk=>omega
  ·have hL:mcL b n g.ph g.u g.w=[(b+1,(g.u:Int)+1)]:=by simp[mcL,e]
   rw[hL]at hk ⊢;simp only[List.length_cons,List.length_nil]at hk
   match k,hk with
   | 0,_=>simp[bk,aV,e]
   | 1,_=>simp[bk,aV,e,how]
   | k+2,hk=>omega
 ·rw[af hu]
  simp only[bk,aV,how]
  have:¬g.ow t:=λe=>hu e.2.symm
  constructor
  ·intro e
   split at e
   ·omega
   ·omega
  ·intro e;exact absurd e this
theorem McI.nin{b:Int}{n:Nat}{g:McG}{s:LS}(h:McI b n g s){t p:Nat}(hd:¬((s.th t).c=1/\(s.th t).d=true))(ho:g.out t)(hn:¬g.ow t)(hp:g.R<=p):g.Q[p]? ≠ some t:=λe=>by
 rcases h.qs p t hp e with⟨rfl,e1⟩|e1
 ·have hu:g.u=t:=by
   have:=h.hu e1;rw[e]at this;cases this;rfl
  exact hn ⟨(ho e1 hu).1,hu⟩
 ·exact hd e1
theorem yW{b:Int}{n:Nat}{g:McG}{s:LS}(h:McI b n g s){t:Nat}{a v:Int}{l:List (Int×Int)}(hb:s.b t=(a,v) :: l):∃(k:Nat) (x:Nat->List (Int×Int)),McI b n { g with k:=k,x:=x } { s with m:=dg s.m a v,b:=bU s.b t l }:=by
 have hbt:=h.bu t;rw[hb]at hbt;have hph:=h.ph
 by_cases hc:t=g.u/\(mcL b n g.ph g.u g.w).drop g.k≠[]
 ·obtain⟨hu,hne⟩:=hc
  rw[ag hu]at hbt;have hlt:g.k<(mcL b n g.ph g.u g.w).length:=Nat.lt_of_not_le λhle=>hne (List.drop_eq_nil_of_le hle);rw[List.drop_eq_getElem_cons hlt]at hbt;simp only[List.cons_append,List.cons.injEq]at hbt;obtain⟨hav,rfl⟩:=hbt;refine⟨g.k+1,g.x,?_⟩
  have hcase:(a=b+1/\v=(g.u:Int)+1/\g.k=0)\/(a=b+1/\v=0/\g.k=1)\/(∃w:Nat,a=b+2+n+w/\v=0/\g.k=2/\g.ph=0/\g.w=some w):=by
   have hp:g.ph=0\/g.ph=1\/g.ph=2\/g.ph=3:=by omega
   replace hav:(mcL b n g.ph g.u g.w)[g.k]? = some (a,v):=by rw[aq hlt,hav]
   generalize hk:g.k=k at hav hlt ⊢;rcases hp with e|e|e|e
   ·cases hw:g.w with
    | none=>
     rw[hw]at hlt;simp[mcL,e]at hlt
    | some w=>
     rw[hw]at hlt hav
     have hL:mcL b n g.ph g.u (some w)=[(b+1,(g.u:Int)+1),(b+1,0),(b+2+n+w,0)]:=by simp[mcL,e]
     simp only[hL,List.length_cons,List.length_nil]at hlt;simp only[hL]at hav
     match k,hlt,hav with
     | 0,_,hav=>simp at hav;exact .inl ⟨hav.1.symm,hav.2.symm,rfl⟩
     | 1,_,hav=>simp at hav;exact .inr (.inl ⟨hav.1.symm,hav.2.symm,rfl⟩)
     | 2,_,hav=>simp at hav;exact .inr (.inr ⟨w,hav.1.symm,hav.2.symm,rfl,e,rfl⟩)
     | k+3,hlt,_=>omega
   ·simp[mcL,e]at hlt
   ·have hL:mcL b n g.ph g.u g.w=[(b+1,(g.u:Int)+1)]:=by simp[mcL,e]
    simp only[hL,List.length_cons,List.length_nil]at hlt;simp only[hL]at hav
    match k,hlt,hav with
    | 0,_,hav=>simp at hav;exact .inl ⟨hav.1.symm,hav.2.symm,rfl⟩
    | k+1,hlt,_=>omega
   ·have hL:mcL b n g.ph g.u g.w=[(b+1,(g.u:Int)+1),(b+1,0)]:=by simp[mcL,e]
    simp only[hL,List.length_cons,List.length_nil]at hlt;simp only[hL]at hav
    match k,hlt,hav with
    | 0,_,hav=>simp at hav;exact .inl ⟨hav.1.symm,hav.2.symm,rfl⟩
    | 1,_,hav=>simp at hav;exact .inr (.inl ⟨hav.1.symm,hav.2.symm,rfl⟩)
    | k+2,hlt,_=>omega
  have hbu:∀v,bU s.b t ((mcL b n g.ph g.u g.w).drop (g.k+1)++g.x t) v=(if v=g.u then(mcL b n g.ph g.u g.w).drop (g.k+1) else[])++g.x v:=λv=>by
   unfold bU
   by_cases e:v=g.u
   ·rw[ag (by rw[hu];exact e),ag e,hu,e]
   ·rw[af (by rw[hu];exact e),af e,h.bu v,af e]
  have hl3:=rH b n g.ph g.u g.w
  have own:∀c:Int,a=b+1->v=c->c=(if g.k+1=1 then(g.u:Int)+1 else 0)->McI b n { g with k:=g.k+1 } { s with m:=dg s.m a v,b:=bU s.b t ((mcL b n g.ph g.u g.w).drop (g.k+1)++g.x t) }:=λc ea ev ec=>by
   have hm:∀z,z≠b+1->dg s.m a v z=s.m z:=λz hz=>af (by rw[ea];exact hz);refine⟨λe=>(hm _ (by omega)).trans (h.qa e),λy e ey=>(hm _ (by omega)).trans (h.qb y e ey),h.re,h.ph,hlt,?_,hbu,h.hu,h.un,h.qn,h.hw,h.ds,h.qs,λp y hp hy hh=>(hm _ (by omega)).trans (h.ws p y hp hy (hh.imp id λe=>⟨e.1,by have:g.k+1<3:=e.2;omega⟩)),λp y hp hy=>?_,h.xn,λz hz=>?_⟩
   ·show dg s.m a v (b+1)=_
    rw[dg,ag ea.symm,ev,ec]
   ·exact(h.nl p y hp hy).imp (λe=>(hm _ (by omega)).trans e) λ⟨y',e1,e2⟩=>⟨y',e1,(hm _ (by omega)).trans e2⟩
   ·exact pH (g:=g) rfl rfl rfl rfl rfl (λe=>by omega) (λ_ _ h=>h) rfl (λ_ _ _ _=>⟨hm _ (by omega),hm _ (by omega)⟩) (λp j _ _ _ e=>(hm _ (by omega)).trans e) (λ_ _ _=>hm _ (by omega)) (h.lc z hz)
  rcases hcase with⟨ea,ev,ek⟩|⟨ea,ev,ek⟩|⟨w,ea,ev,ek,ep,ew⟩
  ·exact own _ ea ev (by rw[ek];simp)
  ·exact own _ ea ev (by rw[ek];simp)
  ·obtain⟨hQw,hwu⟩:=h.hw w ep ew
   have hwn:=h.qn _ _ hQw;have hm:∀z,z≠b+2+n+w->dg s.m a v z=s.m z:=λz hz=>af (by rw[ea];exact hz);refine⟨λe=>(hm _ (by omega)).trans (h.qa e),λy e ey=>(hm _ (by omega)).trans (h.qb y e ey),h.re,h.ph,hlt,?_,hbu,h.hu,h.un,h.qn,h.hw,h.ds,h.qs,λp y hp hy hh=>?_,λp y hp hy=>?_,h.xn,λz hz=>?_⟩
   ·refine(hm _ (by omega)).trans (h.ow.trans ?_)
    simp[ek]
   ·have hR:g.R<p:=by
     rcases hh with hh|hh
     ·exact hh
     ·have:g.k+1<3:=hh.2;omega
    have hne:y≠w:=λe=>by
     have:=h.ds p g.R y hp (ah _) hy (e▸hQw);omega
    exact(hm _ (by omega)).trans (h.ws p y hp hy (.inl hR))
   ·have:=h.qn p y hy
    exact(h.nl p y hp hy).imp (λe=>(hm _ (by omega)).trans e) λ⟨y',e1,e2⟩=>⟨y',e1,(hm _ (by omega)).trans e2⟩
   ·refine pH (g:=g) rfl rfl rfl rfl rfl (λe=>by omega) (λ_ _ h=>h) rfl (λc1 d1 o1 w1=>⟨hm _ (by omega),hm _ ?_⟩) (λp j _ _ hj e=>(hm _ ?_).trans e) (λ_ _ _=>hm _ (by omega)) (h.lc z hz)
    ·have hne:z≠w:=λe=>h.nin (λe=>by rw[d1]at e;exact absurd e.2 (by decide)) o1 w1 (ah _) (e▸hQw)
     omega
    ·have:=h.qn _ _ hj
     omega
 ·have hdr:(if t=g.u then(mcL b n g.ph g.u g.w).drop g.k else[])=[]:=by
   split
   ·rename_i e
    exact Classical.not_not.1 λe'=>hc ⟨e,e'⟩
   ·rfl
  rw[hdr,List.nil_append]at hbt
  have ht:t<n:=Nat.lt_of_not_le λe=>by rw[h.xn t e]at hbt;cases hbt
  refine⟨g.k,bU g.x t l,?_⟩
  have hbu:∀v,bU s.b t l v=(if v=g.u then(mcL b n g.ph g.u g.w).drop g.k else[])++bU g.x t l v:=λv=>by
   unfold bU
   by_cases e:v=t
   ·rw[ag e,ag e,e,hdr,List.nil_append]
   ·rw[af e,af e];exact h.bu v
  have hxn:∀z,n<=z->bU g.x t l z=[]:=λz hz=>by
   rw[bU,af (by omega)];exact h.xn z hz
  have hxo:∀z,z≠t->bU g.x t l z=g.x z:=λz hz=>af hz
  have hxt:bU g.x t l t=l:=ag rfl
  -- a store to a word of his own
  have mine:(s.th t).c=1->(s.th t).d=false->g.out t->¬g.ow t->(a=b+2+t/\v=0\/a=b+2+n+t/\v=1)->mcT b n (dg s.m a v) { g with x:=bU g.x t l } t (s.th t)->McI b n { g with x:=bU g.x t l } { s with m:=dg s.m a v,b:=bU s.b t l }:=λc1 d1 o1 w1 hav hT=>by
   have hq:∀p,g.R<=p->g.Q[p]? ≠ some t:=λp hp=>h.nin (λe=>by rw[d1]at e;exact absurd e.2 (by decide)) o1 w1 hp
   have hm:∀z,z≠a->dg s.m a v z=s.m z:=λz hz=>af hz
   refine⟨λe=>(hm _ (by omega)).trans (h.qa e),λy e ey=>(hm _ (by omega)).trans (h.qb y e ey),h.re,h.ph,h.hk,(hm _ (by omega)).trans h.ow,hbu,h.hu,h.un,h.qn,h.hw,h.ds,h.qs,λp y hp hy hh=>?_,λp y hp hy=>?_,hxn,λz hz=>?_⟩
   ·have hne:y≠t:=λe=>hq p hp (e▸hy)
    have:=h.qn p y hy;exact(hm _ (by omega)).trans (h.ws p y hp hy hh)
   ·have hne:y≠t:=λe=>hq p hp (e▸hy)
    have:=h.qn p y hy;exact(h.nl p y hp hy).imp (λe=>(hm _ (by omega)).trans e) λ⟨y',e1,e2⟩=>⟨y',e1,(hm _ (by omega)).trans e2⟩
   ·by_cases e:z=t
    ·subst e;exact hT
    ·refine pH (g:=g) rfl rfl rfl rfl rfl (λe=>e) (λ_ _ h=>h) (hxo z e) (λ_ _ _ _=>⟨hm _ (by omega),hm _ (by omega)⟩) (λp j hR hy hj ez=>(hm _ ?_).trans ez) (λ_ _ _=>hm _ (by omega)) (h.lc z hz)
     have hne:j≠t:=λe=>hq (p - 1) (by omega) (e▸hj);have:=h.qn _ _ hj;omega
  rcases h.lc t ht with⟨_,_,e⟩|⟨c1,d1,o1,h2⟩|⟨c1,d1,h5,p,hp,h2⟩|⟨_,_,e,_⟩
  ·rw[e]at hbt;cases hbt
  ·rcases h2 with⟨e,_⟩|⟨w1,r5,h2⟩
   ·rw[e]at hbt;cases hbt
   ·rcases h2 with⟨e,_⟩|⟨hq,e|⟨e,_⟩⟩|⟨hq,e|⟨e,e0⟩|⟨e,_⟩⟩<;>rw[e]at hbt<;>cases hbt
    ·exact mine c1 d1 o1 w1 (.inl ⟨rfl,rfl⟩) (.inr (.inl ⟨c1,d1,o1,.inr ⟨w1,r5,.inr (.inl ⟨hq,.inr ⟨hxt,ag rfl⟩⟩)⟩⟩))
    ·exact mine c1 d1 o1 w1 (.inl ⟨rfl,rfl⟩) (.inr (.inl ⟨c1,d1,o1,.inr ⟨w1,r5,.inr (.inr ⟨hq,.inr (.inl ⟨hxt,ag rfl⟩)⟩)⟩⟩))
    ·exact mine c1 d1 o1 w1 (.inr ⟨rfl,rfl⟩) (.inr (.inl ⟨c1,d1,o1,.inr ⟨w1,r5,.inr (.inr ⟨hq,.inr (.inr ⟨hxt,(af (by omega)).trans e0,ag rfl⟩)⟩)⟩⟩))
  ·rcases h2 with⟨b1,b2,b3,b4⟩|⟨_,_,_,e,_⟩
   ·rcases b4 with⟨_,_,_,_,e⟩|⟨_,_,e,_⟩|⟨hq,hw,e|⟨hR,j,hj,e,e0⟩⟩<;>rw[e]at hbt<;>cases hbt
    have hjn:=h.qn _ _ hj
    have hm:∀z,z≠b+2+j->dg s.m (b+2+j) ((t:Int)+1) z=s.m z:=λz hz=>af hz
    refine⟨λe=>(hm _ (by omega)).trans (h.qa e),λy e ey=>(hm _ (by omega)).trans (h.qb y e ey),h.re,h.ph,h.hk,(hm _ (by omega)).trans h.ow,hbu,h.hu,h.un,h.qn,h.hw,h.ds,h.qs,λp y hp hy hh=>(hm _ (by omega)).trans (h.ws p y hp hy hh),λp' y hp' hy=>?_,hxn,λz hz=>?_⟩
    ·by_cases ey:y=j
     ·subst ey
      have:=h.ds p' (p - 1) y hp' (by omega) hy hj;subst this;exact .inr ⟨t,by rw[show p - 1+1=p by omega];exact hp,ag rfl⟩
     ·have:=h.qn _ _ hy
      exact(h.nl p' y hp' hy).imp (λe=>(hm _ (by omega)).trans e) λ⟨y',e1,e2⟩=>⟨y',e1,(hm _ (by omega)).trans e2⟩
    ·by_cases e:z=t
     ·subst e
      exact .inr (.inr (.inl ⟨c1,d1,h5,p,hp,.inl ⟨b1,b2,b3,.inr (.inr ⟨hq,hw,.inl hxt⟩)⟩⟩))
     ·refine pH (g:=g) rfl rfl rfl rfl rfl (λe=>e) (λ_ _ h=>h) (hxo z e) (λc2 d2 o2 w2=>⟨hm _ ?_,hm _ (by omega)⟩) (λp2 j2 hR2 hy2 hj2 ez=>(hm _ ?_).trans ez) (λ_ _ e2=>hm _ ?_) (h.lc z hz)
      ·have hne:z≠j:=λe=>h.nin (p:=p - 1) (λe=>by rw[d2]at e;exact absurd e.2 (by decide)) o2 w2 (by omega) (e▸hj)
       omega
      ·have hne:j2≠j:=λe'=>by
        subst e';have:=h.ds (p2 - 1) (p - 1) j2 (by omega) (by omega) hj2 hj
        have:p2=p:=by omega
        subst this;rw[hp]at hy2;cases hy2;exact e rfl
       have:=h.qn _ _ hj2;omega
      ·have hne:z≠j:=λe'=>by rw[e']at e2;exact e2 e0
       omega
   ·rw[e]at hbt;cases hbt
  ·rw[e]at hbt;cases hbt
def McR(b:Int)(n:Nat)(g:McG)(s:LS)(t:Nat)(I:Ins):Prop:=(aJ I.op=true->b<=adr I (s.th t).r/\adr I (s.th t).r<b+2+n+n)/\∃g',McI b n g' (exS t I s)/\g'.E=g.E/\g'.Q=if(s.th t).c=1/\swB I.op=true then g.Q++[t] else g.Q
theorem McI.step1{b:Int}{n:Nat}{g:McG}{s:LS}(h:McI b n g s){t:Nat}{I:Ins}{q':Nat}{r':Nat->Int}(hA:aJ I.op=true->b<=adr I (s.th t).r/\adr I (s.th t).r<b+2+n+n)(e:lex I ⟨(s.th t).q,(s.th t).r,s.m,s.b t⟩=⟨q',r',s.m,s.b t⟩)(hs:swB I.op=false\/(s.th t).c≠1)(hx:mcT b n s.m g t ⟨(s.th t).c,q',r',(s.th t).d⟩):McR b n g s t I:=by
 have hs':((s.th t).c == 1 && swB I.op)=false:=by
  rcases hs with e|e<;>simp[e]
 refine⟨hA,g,?_,rfl,by rw[af];intro e;rcases hs with e'|e'<;>first|(rw[e']at e;exact absurd e.2 (by decide))|exact e' e.1⟩
 unfold exS;rw[e,hs'];simp only[Bool.or_false,fg];exact h.one' (λa b=>⟨a,b⟩) hx
theorem McI.put{b:Int}{n:Nat}{g:McG}{s:LS}(h:McI b n g s){t:Nat}(ht:t<n){I:Ins}{a v:Int}(hA:aJ I.op=true->b<=adr I (s.th t).r/\adr I (s.th t).r<b+2+n+n)(e:lex I ⟨(s.th t).q,(s.th t).r,s.m,s.b t⟩=⟨(s.th t).q+1,(s.th t).r,s.m,s.b t++[(a,v)]⟩)(hs:swB I.op=false)(hx:mcT b n s.m { g with x:=bU g.x t (g.x t++[(a,v)]) } t ⟨(s.th t).c,(s.th t).q+1,(s.th t).r,(s.th t).d⟩):McR b n g s t I:=by
 refine⟨hA,{ g with x:=bU g.x t (g.x t++[(a,v)]) },?_,rfl,by rw[hs];simp⟩;unfold exS;rw[e,hs];simp only[Bool.and_false,Bool.or_false];refine⟨h.qa,h.qb,h.re,h.ph,h.hk,h.ow,λz=>?_,h.hu,h.un,h.qn,h.hw,h.ds,λp y hp hy=>?_,h.ws,h.nl,λz hz=>?_,λz hz=>?_⟩
 ·simp only[bU]
  split
  ·rename_i e;subst e
   rw[h.bu z,List.append_assoc]
  ·exact h.bu z
 ·simp only[bv];split
  ·rename_i e;subst e;exact h.qs p y hp hy
  ·exact h.qs p y hp hy
 ·exact(af (by omega)).trans (h.xn z hz)
 ·simp only[bv];split
  ·rename_i e;subst e;exact hx
  ·rename_i e
   exact pH (g:=g) rfl rfl rfl rfl rfl (λe=>e) (λ_ _ h=>h) (af e) (λ_ _ _ _=>⟨rfl,rfl⟩) (λ_ _ _ _ _ h=>h) (λ_ _ _=>rfl) (h.lc z hz)
theorem t6{b:Int}{n:Nat}{g:McG}{s:LS}(h:McI b n g s)(hb:0<=b/\b+2+n+n<=4294967296)(hn:n<=8){t:Nat}(ht:t<n){I:Ins}{c q:Nat}{r:Nat->Int}(hx:s.th t=⟨c,q,r,false⟩)(hc:c=1\/c=2)(hI:(mcP b n c t)[q]? = some I)(ho:g.out t)(hx0:g.x t=[])(h0:lj g.toTkG t ⟨c,q,r,false⟩):McR b n g s t I:=by
 have m1:(b+1)%4294967296=b+1:=by omega
 have mt:((t:Int)+1)%4294967296=t+1:=by omega
 have hv:=h.own hx0 ho
 have up:∀q' r',(lj g.toTkG t ⟨c,q',r',false⟩)->mcT b n s.m g t ⟨c,q',r',false⟩:=λq' r' hh=>by
  rcases hc with rfl|rfl
  ·exact .inr (.inl ⟨rfl,rfl,ho,.inl ⟨hx0,.inl hh⟩⟩)
  ·exact .inr (.inr (.inr ⟨rfl,rfl,hx0,.inl ⟨ho,hh⟩⟩))
 have hid:¬g.ow t->g.idle t:=λhh p e=>hh ⟨(ho p e).1,e⟩;rcases h0 with hq|⟨hq,h4⟩|⟨hq,h5,h4⟩|⟨hq,h5,h6⟩
 ·simp only at hq;subst hq
  have e:I=⟨16,4,8,0,(b+1)%4294967296⟩:=by rcases hc with rfl|rfl<;>simpa[mcP,mcA,mcR] using hI.symm
  subst e;refine h.step1 (q':=1) (r':=bQ r 4 (bk (s.b t) s.m (b+1))) (λ_=>by simp[adr,m1];omega) (by simp[lex,adr,hx,m1]) (.inl rfl) ?_;rw[hx];exact up _ _ (.inr (.inl ⟨rfl,hv⟩))
 ·simp only at hq h4;subst hq
  have e:I=⟨1,5,0,0,((t:Int)+1)%4294967296⟩:=by rcases hc with rfl|rfl<;>simpa[mcP,mcA,mcR] using hI.symm
  subst e;refine h.step1 (q':=2) (r':=bQ r 5 ((t:Int)+1)) (λe=>by simp[aJ]at e) (by simp[lex,hx,mt]) (.inl rfl) ?_;rw[hx];exact up _ _ (.inr (.inr (.inl ⟨rfl,rfl,h4⟩)))
 ·simp only at hq h4 h5;subst hq
  have e:I=⟨12,6,4,5,0⟩:=by rcases hc with rfl|rfl<;>simpa[mcP,mcA,mcR] using hI.symm
  subst e;refine h.step1 (q':=3) (r':=bQ r 6 (if r 4=r 5 then 1 else 0)) (λe=>by simp[aJ]at e) (by simp[lex,hx,gj]) (.inl rfl) ?_;rw[hx];refine up _ _ (.inr (.inr (.inr ⟨rfl,h5,?_⟩)));show(if r 4=r 5 then(1:Int) else 0)=0↔¬g.ow t;rw[h5,<-h4]
  split<;>simp_all
 ·simp only at hq h5 h6;subst hq
  rcases hc with rfl|rfl
  ·have e:I=⟨14,6,0,0,6⟩:=by simpa[mcP,mcA] using hI.symm
   subst e
   by_cases hz:r 6=0
   ·refine h.step1 (q':=6) (r':=r) (λe=>by simp[aJ]at e) (by simp[lex,hx,hz]) (.inl rfl) ?_
    rw[hx];exact .inr (.inl ⟨rfl,rfl,ho,.inr ⟨h6.1 hz,h5,.inl ⟨hx0,.inl rfl⟩⟩⟩)
   ·refine h.step1 (q':=4) (r':=r) (λe=>by simp[aJ]at e) (by simp[lex,hx,hz]) (.inl rfl) ?_
    rw[hx];exact .inr (.inl ⟨rfl,rfl,ho,.inl ⟨hx0,.inr ⟨.inl rfl,Classical.not_not.1 λe=>hz (h6.2 e)⟩⟩⟩)
  ·have e:I=⟨15,6,0,0,6⟩:=by simpa[mcP,mcR] using hI.symm
   subst e
   by_cases hz:r 6=0
   ·refine h.step1 (q':=4) (r':=r) (λe=>by simp[aJ]at e) (by simp[lex,hx,hz]) (.inl rfl) ?_
    rw[hx];exact .inr (.inr (.inr ⟨rfl,rfl,hx0,.inr (.inl ⟨.inl rfl,hid (h6.1 hz)⟩)⟩))
   ·refine h.step1 (q':=6) (r':=r) (λe=>by simp[aJ]at e) (by simp[lex,hx,hz]) (.inl rfl) ?_
    rw[hx];have how:g.ow t:=Classical.not_not.1 λe=>hz (h6.2 e);exact .inr (.inr (.inr ⟨rfl,rfl,hx0,.inr (.inr (.inl ⟨.inl rfl,h5,how,(ho (by rw[how.1];decide) how.2).2⟩))⟩))
theorem vy{b:Int}{n:Nat}{g:McG}{s:LS}(h:McI b n g s){t:Nat}(ht:t<n){q:Nat}{r:Nat->Int}(hx:s.th t=⟨1,q,r,true⟩)(h5:r 5=(t:Int)+1)(hQ:g.Q[g.R]? = some t)(p0:g.ph=0)(hw:g.w=none\/g.k=3)(hx0:g.x t=[]){I:Ins}(hs:swB I.op=false)(hA:aJ I.op=false)(e:lex I ⟨q,r,s.m,s.b t⟩=⟨16,r,s.m,s.b t⟩):McR b n g s t I:=by
 have hk:=h.hk
 have hL:g.w=none->mcL b n g.ph g.u g.w=[]:=λe=>by simp[mcL,p0,e]
 have hl3:=rH b n g.ph g.u g.w
 have k1:g.k≠1:=λe=>by
  rcases hw with hw|hw
  ·rw[hL hw,e]at hk;simp at hk
  ·omega
 have hdr:(mcL b n g.ph g.u g.w).drop g.k=[]:=by
  rcases hw with hw|hw
  ·rw[hL hw];simp
  ·exact List.drop_eq_nil_of_le (by omega)
 have hE:g.E=g.R:=by
  rcases h.re.1 with e|⟨_,e⟩
  ·exact e
  ·omega
 refine⟨λe=>by rw[hA]at e;exact absurd e (by decide),{ g with ph:=1,u:=t,k:=0,w:=none },?_,rfl,by rw[hs];simp⟩;unfold exS;rw[hx];simp only[e,hs,Bool.and_false,Bool.or_false,fg];refine⟨h.qa,h.qb,⟨.inl hE,h.re.2⟩,show 1<=3 by decide,au _,?_,λv=>?_,λ_=>hQ,ht,h.qn,λv e=>absurd e (by simp),h.ds,λp y hp hy=>?_,λp y hp hy hh=>h.ws p y hp hy (hh.imp id λe=>absurd e.1 (by simp)),h.nl,h.xn,λv hv=>?_⟩
 ·simp only[h.ow,af k1];simp
 ·have:=h.bu v
  rw[hdr]at this
  simpa[mcL] using this
 ·simp only[bv];split
  ·exact .inr ⟨rfl,rfl⟩
  ·rcases h.qs p y hp hy with e|e
   ·exact .inl ⟨e.1,show 1<=1 by decide⟩
   ·exact .inr e
 ·simp only[bv];split
  ·rename_i e;subst e
   exact .inr (.inr (.inl ⟨rfl,rfl,h5,g.R,hQ,.inr ⟨rfl,rfl,hE,hx0,.inl ⟨rfl,rfl⟩⟩⟩))
  ·rename_i hne
   refine tQ (g:=g) (λp=>by omega) (λe=>hne e.symm) (λ_ _ h=>h) rfl (λ_ _=>rfl) (λp hp a1 a2=>?_) (h.lc v hv)
   have:g.R≠p:=λe=>by
    subst e;rw[hQ]at hp;cases hp;exact hne rfl
   exact⟨by omega,a1,λ_=>show g.R<p by omega,λe=>absurd e this⟩
theorem tm{b:Int}{n:Nat}{g:McG}{s:LS}(h:McI b n g s){t:Nat}(ht:t<n)(hp:g.ph=1\/g.ph=2)(hu:g.u=t)(hx0:g.x t=[]){c q:Nat}{r:Nat->Int}{d:Bool}(hx:s.th t=⟨c,q,r,d⟩){I:Ins}{v:Int}(hsw:swB I.op=false)(hA:aJ I.op=true->b<=adr I (s.th t).r/\adr I (s.th t).r<b+2+n+n)
  (e:lex I ⟨q,r,s.m,s.b t⟩=⟨q+1,r,s.m,s.b t++[(b+1,v)]⟩) (hv:v=if g.ph=1 then(t:Int)+1 else 0) (hnew:mcT b n s.m { g with ph:=g.ph+1 } t ⟨c,q+1,r,d⟩):McR b n g s t I:=by
 have hlog:mcL b n (g.ph+1) g.u g.w=mcL b n g.ph g.u g.w++[(b+1,v)]:=by
  rcases hp with e|e<;>simp[mcL,e,hv,hu]
 refine⟨hA,{ g with ph:=g.ph+1 },?_,rfl,by rw[hsw];simp⟩;unfold exS;rw[hx];simp only[e,hsw,Bool.and_false,Bool.or_false];have hk:=h.hk;refine⟨h.qa,h.qb,⟨h.re.1.imp id λe=>⟨e.1,by have:=e.2;show 2<=g.ph+1;omega⟩,h.re.2⟩,by show g.ph+1<=3;omega,?_,h.ow,λw=>?_,λ_=>h.hu (by omega),h.un,h.qn,λv e=>by simp at e,h.ds,λp y hp' hy=>?_,λp y hp' hy hh=>h.ws p y hp' hy (hh.imp id λe=>by simp at e),h.nl,h.xn,λw hw=>?_⟩
 ·simp only[hlog,List.length_append,List.length_singleton];omega
 ·simp only[bU,hlog]
  have hb:=h.bu w
  split
  ·rename_i e;subst e
   rw[ag hu.symm]at hb ⊢;rw[hb,hx0,List.append_nil,List.append_nil,List.drop_append_of_le_length hk]
  ·rename_i e
   have e':¬w=g.u:=λh=>e (h.trans hu);rw[hb,af e',af e']
 ·simp only[bv];split
  ·rename_i e;subst e
   rcases h.qs p y hp' hy with e|e
   ·exact .inl ⟨e.1,show 1<=g.ph+1 by omega⟩
   ·rw[hx]at e;exact .inr e
  ·exact(h.qs p y hp' hy).imp (λe=>⟨e.1,show 1<=g.ph+1 by omega⟩) id
 ·simp only[bv];split
  ·rename_i e;subst e;exact hnew
  ·rename_i hne
   have hi:g.u≠w:=λe=>hne (e.symm.trans hu);refine tQ (g:=g) (λ_=>hi) hi (λ_ _ h=>h) rfl (λ_ _=>rfl) (λp hp a1 a2=>?_) (h.lc w hw);have a3:=a2 (by omega);exact⟨a3,a1,λ_=>a3,λe=>by have e':g.R=p:=e;omega⟩
theorem CE{b:Int}{n:Nat}{g:McG}{s:LS}(h:McI b n g s){t:Nat}(ht:t<n)(hp:g.ph=3)(hu:g.u=t)(hE:g.E=g.R+1)(hx0:g.x t=[]){r:Nat->Int}(hx:s.th t=⟨2,18,r,false⟩){y:Nat}(hy:g.Q[g.R+1]? = some y)(hm:s.m (b+2+t)≠0){I:Ins}(hsw:swB I.op=false)(hA:aJ I.op=true->b<=adr I (s.th t).r/\adr I (s.th t).r<b+2+n+n)
  (e:lex I ⟨18,r,s.m,s.b t⟩=⟨19,r,s.m,s.b t++[(b+2+n+y,0)]⟩):McR b n g s t I:=by
 have hlog:mcL b n 0 g.u (some y)=mcL b n g.ph g.u g.w++[(b+2+n+y,0)]:=by simp[mcL,hp]
 have hQt:g.Q[g.R]? = some t:=by rw[<-hu];exact h.hu (by omega)
 have hlt:=(aj.1 hy).1
 have hyt:y≠t:=λe=>by
  have:=h.ds (g.R+1) g.R y (by omega) (ah _) hy (e▸hQt);omega
 refine⟨hA,{ g with ph:=0,R:=g.R+1,w:=some y },?_,rfl,by rw[hsw];simp⟩;unfold exS;rw[hx];simp only[e,hsw,Bool.and_false,Bool.or_false];have hk:=h.hk;refine⟨λe=>by have e':g.R+1=g.Q.length:=e;omega,λz e ez=>h.qb z (by omega) ez,⟨.inl hE,h.re.2⟩,au _,?_,h.ow,λw=>?_,λe=>by simp at e,h.un,h.qn,λv _ ev=>?_,λp p' z a1 a2=>h.ds p p' z (Nat.le_of_succ_le a1) (Nat.le_of_succ_le a2),λp z hp' hz=>?_,λp z hp' hz _=>h.ws p z (Nat.le_of_succ_le hp') hz (.inl (Nat.lt_of_succ_le hp')),λp z hp' hz=>h.nl p z (Nat.le_of_succ_le hp') hz,h.xn,λw hw=>?_⟩
 ·simp only[hlog,List.length_append,List.length_singleton];omega
 ·simp only[bU,hlog]
  have hb:=h.bu w
  split
  ·rename_i e;subst e
   rw[ag hu.symm]at hb ⊢;rw[hb,hx0,List.append_nil,List.append_nil,List.drop_append_of_le_length hk]
  ·rename_i e
   have e':¬w=g.u:=λh=>e (h.trans hu);rw[hb,af e',af e']
 ·simp only[Option.some.injEq]at ev
  subst ev;exact⟨hy,hu▸hyt⟩
 ·have hp'':g.R+1<=p:=hp'
  simp only[bv];split
  ·rename_i e;subst e
   have:=h.ds p g.R z (by omega) (ah _) hz hQt;omega
  ·rcases h.qs p z (by omega) hz with e|e
   ·omega
   ·exact .inr e
 ·simp only[bv];split
  ·rename_i e;subst e
   exact .inr (.inr (.inr ⟨rfl,rfl,hx0,.inr (.inl ⟨.inr (.inr (.inl rfl)),λe=>by simp at e⟩)⟩))
  ·rename_i hne
   have hi:g.u≠w:=λe=>hne (e.symm.trans hu);refine tQ (g:=g) (λ_=>hi) hi (λ_ _ h=>h) rfl (λ_ _=>rfl) (λp hp a1 a2=>?_) (h.lc w hw);have a3:=a2 (by omega);refine⟨a3,a3,λe=>by simp at e,λe=>?_⟩;have e':g.R+1=p:=e;subst e';rw[hy]at hp;refine⟨hp,λj hj=>?_⟩;rw[Nat.add_sub_cancel,hQt]at hj
   cases hj;exact hm
theorem Ct{b:Int}{n:Nat}{g:McG}{s:LS}(h:McI b n g s)(hb:0<=b/\b+2+n+n<=4294967296){t:Nat}(ht:t<n){r:Nat->Int}(hx:s.th t=⟨1,11,r,false⟩)(h4:r 4=(t:Int)+1)(h5:r 5=(t:Int)+1)(ho:g.out t)(hno:¬g.ow t)(hx0:g.x t=[])(hm0:s.m (b+2+t)=0)(hm1:s.m (b+2+n+t)=1):McR b n g s t ⟨19,4,8,0,b⟩:=by
 have e:lex ⟨19,4,8,0,b⟩ ⟨11,r,s.m,s.b t⟩=⟨12,bQ r 4 (s.m b),dg s.m b ((t:Int)+1),s.b t⟩:=by
  simp[lex,adr,h4]
 have hid:g.idle t:=λp e=>hno ⟨(ho p e).1,e⟩;have hnin:∀p,g.R<=p->g.Q[p]? ≠ some t:=λp hp=>h.nin (by rw[hx];simp) ho hno hp
 have hle:g.R<=g.Q.length:=by have:=h.re;omega
 have hm:∀z,b+1<=z->dg s.m b ((t:Int)+1) z=s.m z:=λz hz=>af (by omega)
 have hQ1:∀(p y:Nat),(g.Q++[t])[p]? = some y->g.Q[p]? = some y\/(p=g.Q.length/\y=t):=λp y hy=>by
  rcases Nat.lt_or_ge p g.Q.length with hl|hl
  ·rw[List.getElem?_append_left hl]at hy;exact .inl hy
  ·rw[List.getElem?_append_right hl]at hy
   obtain⟨h1,h2⟩:=aj.1 hy;simp only[List.length_singleton]at h1
   have:p - g.Q.length=0:=by omega
   simp only[this,List.getElem_cons_zero]at h2;exact .inr ⟨by omega,h2.symm⟩
 have hQt:(g.Q++[t])[g.Q.length]? = some t:=by simp
 refine⟨λ_=>by simp[adr];omega,{ g with Q:=g.Q++[t] },?_,rfl,by rw[hx];rfl⟩;unfold exS;rw[hx];simp only[e,fg];refine⟨λe=>?_,λy _ hy=>?_,⟨h.re.1,by simp only[List.length_append,List.length_singleton];have:=h.re.2;omega⟩,h.ph,h.hk,(hm _ (by omega)).trans h.ow,h.bu,λp=>cD (h.hu p),h.un,λp y hy=>?_,λv e1 e2=>⟨cD (h.hw v e1 e2).1,(h.hw v e1 e2).2⟩,λp p' y a1 a2 hy hy'=>?_,λp y hp hy=>?_,λp y hp hy hh=>?_,λp y hp hy=>?_,h.xn,λv hv=>?_⟩
 ·simp only[List.length_append,List.length_singleton]at e;omega
 ·simp only[List.length_append,List.length_singleton,Nat.add_sub_cancel,hQt,Option.some.injEq]at hy
  subst hy;exact ag rfl
 ·rcases hQ1 p y hy with h'|⟨_,rfl⟩
  ·exact h.qn p y h'
  ·exact ht
 ·rcases hQ1 p y hy with h'|⟨e1,rfl⟩
  ·rcases hQ1 p' y hy' with h''|⟨_,rfl⟩
   ·exact h.ds p p' y a1 a2 h' h''
   ·exact absurd h' (hnin p a1)
  ·rcases hQ1 p' y hy' with h''|⟨e2,_⟩
   ·exact absurd h'' (hnin p' a2)
   ·rw[e1,e2]
 ·simp only[bv];split
  ·exact .inr ⟨rfl,rfl⟩
  ·rename_i hne
   rcases hQ1 p y hy with h'|⟨_,rfl⟩
   ·exact h.qs p y hp h'
   ·exact absurd rfl hne
 ·refine(hm _ (by omega)).trans ?_
  rcases hQ1 p y hy with h'|⟨_,rfl⟩
  ·exact h.ws p y hp h' hh
  ·exact hm1
 ·rcases hQ1 p y hy with h'|⟨_,rfl⟩
  ·exact(h.nl p y hp h').imp (λe=>(hm _ (by omega)).trans e) λ⟨y',e1,e2⟩=>⟨y',cD e1,(hm _ (by omega)).trans e2⟩
  ·exact .inl ((hm _ (by omega)).trans hm0)
 ·simp only[bv];split
  ·rename_i e;subst e
   refine .inr (.inr (.inl ⟨rfl,rfl,h5,g.Q.length,hQt,.inl ⟨hle,λp=>(aj.1 (h.hu p)).1,hid,?_⟩⟩));rcases Nat.lt_or_ge g.R g.Q.length with hl|hl
   ·have hlast:g.Q[g.Q.length - 1]? = some g.Q[g.Q.length - 1]:=aq (by omega)
    refine .inr (.inl ⟨.inl rfl,hl,hx0,g.Q[g.Q.length - 1],cD hlast,h.qb _ hl hlast,(hm _ (by omega)).trans ?_⟩);rcases h.nl (g.Q.length - 1) _ (by omega) hlast with e|⟨y',e1,_⟩
    ·exact e
    ·have:=(aj.1 e1).1
     omega
   ·have hR:g.R=g.Q.length:=by omega
    have p0:g.ph=0:=by
     by_cases p:1<=g.ph
     ·have:=(aj.1 (h.hu p)).1;omega
     ·omega
    refine .inl ⟨rfl,h.qa hR,hR.symm,?_,hx0⟩;show g.w=none
    cases hw:g.w with
    | none=>rfl
    | some v=>
     have:=(aj.1 (h.hw v p0 hw).1).1;omega
  ·rename_i hne
   exact pH (g:=g) rfl rfl rfl rfl rfl (λe=>e) (λi y hy=>cD hy) rfl (λ_ _ _ _=>⟨hm _ (by omega),hm _ (by omega)⟩) (λp j _ _ _ e=>(hm _ (by omega)).trans e) (λ_ _ _=>hm _ (by omega)) (h.lc v hv)
theorem EI{b:Int}{n:Nat}{g:McG}{s:LS}(h:McI b n g s)(hb:0<=b/\b+2+n+n<=4294967296){t:Nat}(ht:t<n){r:Nat->Int}(hx:s.th t=⟨2,12,r,false⟩)(p3:g.ph=3)(hu:g.u=t)(hE:g.E=g.R+1)(h4:r 4=(t:Int)+1)(h5:r 5=(t:Int)+1)(h6:r 6=0)(hx0:g.x t=[])(hem:s.b t=[]):McR b n g s t ⟨21,4,8,6,b⟩:=by
 have hA:aJ (21:Int)=true->b<=adr ⟨21,4,8,6,b⟩ (s.th t).r/\adr ⟨21,4,8,6,b⟩ (s.th t).r<b+2+n+n:=λ_=>by simp[adr];omega
 have hQt:g.Q[g.R]? = some t:=by rw[<-hu];exact h.hu (by omega)
 have hlt:=(aj.1 hQt).1
 by_cases hmb:s.m b=(t:Int)+1
 ·have e:lex ⟨21,4,8,6,b⟩ ⟨12,r,s.m,s.b t⟩=⟨13,bQ r 4 (s.m b),dg s.m b 0,s.b t⟩:=by
   simp[lex,adr,h4,hmb,h6]
  have hlast:g.Q[g.Q.length - 1]? = some g.Q[g.Q.length - 1]:=aq (by omega)
  have hlen:g.R+1=g.Q.length:=by
   have e1:=h.qb _ hlt hlast
   have e2:g.Q[g.Q.length - 1]=t:=by omega
   have:=h.ds (g.Q.length - 1) g.R t (by omega) (ah _) (e2▸hlast) hQt;omega
  have hm:∀z,b+1<=z->dg s.m b 0 z=s.m z:=λz hz=>af (by omega)
  have hL:mcL b n g.ph g.u g.w=[(b+1,(g.u:Int)+1),(b+1,0)]:=by simp[mcL,p3]
  have k1:g.k≠1:=λe=>by
   have:=h.bu t;rw[hem,hx0,ag hu.symm,hL,e]at this;simp at this
  have hbe:∀v,s.b v=g.x v:=λv=>by
   by_cases e:v=t
   ·rw[e,hem,hx0]
   ·rw[h.bu v,af (λh=>e (h.trans hu)),List.nil_append]
  refine⟨hA,{ g with ph:=0,R:=g.R+1,w:=none,k:=0 },?_,rfl,by rw[hx];rfl⟩;unfold exS;rw[hx];simp only[e,fg];refine⟨λ_=>ag rfl,λy e _=>by have e':g.R+1<g.Q.length:=e;omega,⟨.inl hE,h.re.2⟩,au _,au _,?_,λv=>?_,λe=>by simp at e,h.un,h.qn,λv _ e=>by simp at e,λp p' y a1 a2=>h.ds p p' y (Nat.le_of_succ_le a1) (Nat.le_of_succ_le a2),λp y hp hy=>?_,λp y hp hy _=>(hm _ (by omega)).trans (h.ws p y (Nat.le_of_succ_le hp) hy (.inl (Nat.lt_of_succ_le hp))),λp y hp hy=>?_,h.xn,λv hv=>?_⟩
  ·refine(hm _ (by omega)).trans ?_
   rw[h.ow,af k1];simp
  ·rw[hbe v];simp[mcL]
  ·have hp':g.R+1<=p:=hp
   have:=(aj.1 hy).1;simp only at this;omega
  ·have hp':g.R+1<=p:=hp
   have:=(aj.1 hy).1;simp only at this;omega
  ·simp only[bv];split
   ·rename_i e;subst e
    exact .inr (.inr (.inr ⟨rfl,rfl,hx0,.inr (.inl ⟨.inr (.inr (.inr (.inr (.inl ⟨rfl,hmb.trans h5.symm⟩)))),λe=>by simp at e⟩)⟩))
   ·rename_i hne
    have hi:g.u≠v:=λe=>hne (e.symm.trans hu);refine tQ (g:=g) (λ_=>hi) hi (λ_ _ h=>h) rfl (λz hz=>hm z (by omega)) (λp hp a1 a2=>?_) (h.lc v hv);have a3:=a2 (by omega);have:=(aj.1 hp).1;omega
 ·have e:lex ⟨21,4,8,6,b⟩ ⟨12,r,s.m,s.b t⟩=⟨13,bQ r 4 (s.m b),s.m,s.b t⟩:=by
   simp[lex,adr,h4,hmb]
  refine h.step1 (q':=13) (r':=bQ r 4 (s.m b)) hA (by rw[hx];exact e) (.inr (by rw[hx];simp)) ?_;rw[hx];exact .inr (.inr (.inr ⟨rfl,rfl,hx0,.inr (.inr (.inr ⟨p3,hu,hE,h5,.inr (.inr (.inr (.inr (.inr (.inl ⟨rfl,hmb⟩)))))⟩))⟩))
theorem CT{b:Int}{n:Nat}{g:McG}{s:LS}(h:McI b n g s)(hb:0<=b/\b+2+n+n<=4294967296)(hn:n<=8){t:Nat}(ht:t<n){I:Ins}(hc:(s.th t).c≠0)(hI:(mcP b n (s.th t).c t)[(s.th t).q]? = some I)(hsw:swB I.op=true->s.b t=[]):McR b n g s t I:=by
 have m1:(b+1)%4294967296=b+1:=by omega
 have mt:((t:Int)+1)%4294967296=t+1:=by omega
 have mn:(b+2+t)%4294967296=b+2+t:=by omega
 have mw:(b+2+n+t)%4294967296=b+2+n+t:=by omega
 have hl:=h.lc t ht
 cases hx:s.th t with
 | mk c q r d=>
 rw[hx]at hc hI hl;simp only at hc hI
 have hem:s.b t=[]->g.x t=[]:=λe=>by
  have:=h.bu t;rw[e]at this;exact(List.append_eq_nil_iff.1 this.symm).2
 rcases hl with⟨e,_⟩|⟨e,hd,ho,hl⟩|⟨e,hd,h5,p,hp,hl⟩|⟨e,hd,hx0,hl⟩
 ·exact absurd e hc
 ·simp only at e hd;subst e;subst hd
  rcases hl with⟨hx0,h0|⟨hq,how⟩⟩|⟨hno,h5,hl⟩
  ·exact t6 h hb hn ht hx (.inl rfl) hI ho hx0 h0
  ·simp only at hq
   rcases hq with rfl|rfl|rfl
   ·have e:I=⟨1,7,0,0,1⟩:=by simpa[mcP,mcA] using hI.symm
    subst e;refine h.step1 (q':=5) (r':=bQ r 7 1) (λe=>by simp[aJ]at e) (by simp[lex,hx]) (.inl rfl) ?_;rw[hx];exact .inr (.inl ⟨rfl,rfl,ho,.inl ⟨hx0,.inr ⟨.inr (.inl rfl),how⟩⟩⟩)
   ·have e:I=⟨13,0,0,0,18⟩:=by simpa[mcP,mcA] using hI.symm
    subst e;refine h.step1 (q':=18) (r':=r) (λe=>by simp[aJ]at e) (by simp[lex,hx]) (.inl rfl) ?_;rw[hx];exact .inr (.inl ⟨rfl,rfl,ho,.inl ⟨hx0,.inr ⟨.inr (.inr rfl),how⟩⟩⟩)
   ·simp[mcP,mcA]at hI
  ·have up:∀(q':Nat)(r':Nat->Int),r' 5=(t:Int)+1->zH b n s.m g t ⟨1,q',r',false⟩->mcT b n s.m g t ⟨1,q',r',false⟩:=λq' r' e5 hh=>.inr (.inl ⟨rfl,rfl,ho,.inr ⟨hno,e5,hh⟩⟩)
   have putx:∀z,bU g.x t (g.x t++[z]) t=g.x t++[z]:=λz=>ag rfl
   simp only at h5;rcases hl with⟨hx0,hq⟩|⟨hq,hxx⟩|⟨hq,hxx⟩
   ·simp only at hq
    rcases hq with rfl|⟨rfl,h4⟩
    ·have e:I=⟨1,4,0,0,0⟩:=by simpa[mcP,mcA] using hI.symm
     subst e;refine h.step1 (q':=7) (r':=bQ r 4 0) (λe=>by simp[aJ]at e) (by simp[lex,hx]) (.inl rfl) ?_;rw[hx];exact up _ _ h5 (.inl ⟨hx0,.inr ⟨rfl,rfl⟩⟩)
    ·have e:I=⟨17,4,8,0,(b+2+t)%4294967296⟩:=by simpa[mcP,mcA] using hI.symm
     subst e;refine h.put ht (a:=b+2+t) (v:=0) (λ_=>by simp[adr,mn];omega) (by simp[lex,hx,adr,mn,h4]) rfl ?_;rw[hx];exact .inr (.inl ⟨rfl,rfl,ho,.inr ⟨hno,h5,.inr (.inl ⟨.inl rfl,.inl ((putx _).trans (by rw[hx0];rfl))⟩)⟩⟩)
   ·simp only at hq
    rcases hq with rfl|⟨rfl,h4⟩
    ·have e:I=⟨1,4,0,0,1⟩:=by simpa[mcP,mcA] using hI.symm
     subst e;refine h.step1 (q':=9) (r':=bQ r 4 1) (λe=>by simp[aJ]at e) (by simp[lex,hx]) (.inl rfl) ?_;rw[hx];exact up _ _ h5 (.inr (.inl ⟨.inr ⟨rfl,rfl⟩,hxx⟩))
    ·have e:I=⟨17,4,8,0,(b+2+n+t)%4294967296⟩:=by simpa[mcP,mcA] using hI.symm
     subst e;refine h.put ht (a:=b+2+n+t) (v:=1) (λ_=>by simp[adr,mw];omega) (by simp[lex,hx,adr,mw,h4]) rfl ?_;rw[hx];refine .inr (.inl ⟨rfl,rfl,ho,.inr ⟨hno,h5,.inr (.inr ⟨.inl rfl,?_⟩)⟩⟩);rcases hxx with e|⟨e,e0⟩
     ·exact .inl ((putx _).trans (by rw[e];rfl))
     ·exact .inr (.inl ⟨(putx _).trans (by rw[e];rfl),e0⟩)
   ·simp only at hq
    rcases hq with rfl|⟨rfl,h4⟩
    ·have e:I=⟨1,4,0,0,((t:Int)+1)%4294967296⟩:=by simpa[mcP,mcA] using hI.symm
     subst e;refine h.step1 (q':=11) (r':=bQ r 4 ((t:Int)+1)) (λe=>by simp[aJ]at e) (by simp[lex,hx,mt]) (.inl rfl) ?_;rw[hx];exact up _ _ h5 (.inr (.inr ⟨.inr ⟨rfl,rfl⟩,hxx⟩))
    ·have e:I=⟨19,4,8,0,b⟩:=by simpa[mcP,mcA] using hI.symm
     subst e;have hx0:=hem (hsw rfl);rcases hxx with e|⟨e,_⟩|⟨_,e0,e1⟩
     ·rw[hx0]at e;cases e
     ·rw[hx0]at e;cases e
     ·exact Ct h hb ht hx h4 h5 ho hno hx0 e0 e1
 ·simp only at e hd;subst e;subst hd
  simp only at h5;rcases hl with⟨b1,b2,b3,hl⟩|⟨hu,hR,hE,hx0,hl⟩
  ·have up:∀(q':Nat)(r':Nat->Int),r' 5=(t:Int)+1->mcW b n s.m g t p ⟨1,q',r',true⟩->mcT b n s.m g t ⟨1,q',r',true⟩:=λq' r' e5 hh=>.inr (.inr (.inl ⟨rfl,rfl,e5,p,hp,hh⟩))
   rcases hl with⟨hq,h4,hR,hw,hx0⟩|⟨hq,hR,hx0,j,hj,h4,e0⟩|⟨hq,hw,hxx⟩
   ·simp only at hq h4;subst hq
    have e:I=⟨14,4,0,0,16⟩:=by simpa[mcP,mcA] using hI.symm
    subst e
    have p0:g.ph=0:=by
     by_cases e:1<=g.ph
     ·have:=b2 e;omega
     ·omega
    exact vy h ht hx h5 (hR▸hp) p0 (.inl hw) hx0 rfl rfl (by simp[lex,h4])
   ·simp only at hq h4
    have hjn:=h.qn _ _ hj;rcases hq with rfl|rfl
    ·have e:I=⟨14,4,0,0,16⟩:=by simpa[mcP,mcA] using hI.symm
     subst e
     have:r 4≠0:=by omega
     refine h.step1 (q':=13) (r':=r) (λe=>by simp[aJ]at e) (by simp[lex,hx,this]) (.inl rfl) ?_;rw[hx];exact up _ _ h5 (.inl ⟨b1,b2,b3,.inr (.inl ⟨.inr rfl,hR,hx0,j,hj,h4,e0⟩)⟩)
    ·have e:I=⟨17,5,4,0,(b+2 - 1)%4294967296⟩:=by simpa[mcP,mcA] using hI.symm
     subst e
     have ea:((j:Int)+1+(b+2 - 1)%4294967296)%4294967296=b+2+j:=by omega
     refine h.put ht (a:=b+2+j) (v:=(t:Int)+1) (λ_=>by simp[adr,hx,h4,ea];omega) (by simp[lex,hx,adr,h4,h5,ea]) rfl ?_;rw[hx];refine .inr (.inr (.inl ⟨rfl,rfl,h5,p,hp,.inl ⟨b1,b2,b3,.inr (.inr ⟨.inl rfl,λe=>by have e':p=g.R:=e;omega,.inr ⟨hR,j,hj,?_,e0⟩⟩)⟩⟩));exact(ag rfl).trans (by rw[hx0];rfl)
   ·simp only at hq
    rcases hq with rfl|⟨rfl,h6⟩
    ·have e:I=⟨16,6,8,0,(b+2+n+t)%4294967296⟩:=by simpa[mcP,mcA] using hI.symm
     subst e
     have hv:bk (s.b t) s.m (b+2+n+t)=s.m (b+2+n+t):=by
      have hlx:aV (g.x t) (b+2+n+t)=none:=by
       rcases hxx with e|⟨_,j,hj,e,_⟩
       ·rw[e];rfl
       ·have:=h.qn _ _ hj
        rw[e];simp[aV];omega
      have hld:∀l:List (Int×Int),(∀z∈l,z.1≠b+2+n+t)->aV (l++g.x t) (b+2+n+t)=none:=λl=>by
       induction l with
       | nil=>exact λ_=>hlx
       | cons z l ih=>exact λhz=>by simp[aV,ih λy hy=>hz y (.tail _ hy),hz z (.head _)]
      rw[bk,h.bu t,hld];intro z hz
      split at hz
      ·rename_i hu
       have hz:=List.mem_of_mem_drop hz;have hp3:=h.ph
       have hp:g.ph=0\/g.ph=1\/g.ph=2\/g.ph=3:=by omega
       rcases hp with e|e|e|e
       ·cases hw:g.w with
        | none=>simp[mcL,e,hw]at hz
        | some y=>
         have:=(h.hw y e hw).2;simp[mcL,e,hw]at hz
         rcases hz with rfl|rfl|rfl<;>simp<;>omega
       ·simp[mcL,e]at hz
       ·simp[mcL,e]at hz;subst hz;simp<;>omega
       ·simp[mcL,e]at hz
        rcases hz with rfl|rfl<;>simp<;>omega
      ·cases hz
     refine h.step1 (q':=15) (r':=bQ r 6 (s.m (b+2+n+t))) (λ_=>by simp[adr,mw];omega) (by simp[lex,hx,adr,mw,hv]) (.inl rfl) ?_;rw[hx];refine up _ _ h5 (.inl ⟨b1,b2,b3,.inr (.inr ⟨.inr ⟨rfl,λe6=>?_⟩,hw,hxx⟩)⟩);have e6':s.m (b+2+n+t)=0:=e6;have hk:=h.hk;have hl3:=rH b n g.ph g.u g.w
     refine Classical.not_not.1 λhh=>?_
     have:=h.ws p t b1 hp (by
      by_cases e:p=g.R
      ·refine .inr ⟨?_,?_⟩
       ·by_cases e':1<=g.ph
        ·have:=b2 e';omega
        ·omega
       ·have:g.k≠3:=λe'=>hh ⟨e,e'⟩
        omega
      ·exact .inl (by omega))
     omega
    ·have e:I=⟨15,6,0,0,14⟩:=by simpa[mcP,mcA] using hI.symm
     subst e
     by_cases hz:r 6=0
     ·obtain⟨hR,k3⟩:=h6 hz
      have p0:g.ph=0:=by
       by_cases e:1<=g.ph
       ·have:=b2 e;omega
       ·omega
      have hx0:g.x t=[]:=by
       rcases hxx with e|⟨e,_⟩
       ·exact e
       ·omega
      exact vy h ht hx h5 (hR▸hp) p0 (.inr k3) hx0 rfl rfl (by simp[lex,hz])
     ·refine h.step1 (q':=14) (r':=r) (λe=>by simp[aJ]at e) (by simp[lex,hx,hz]) (.inl rfl) ?_
      rw[hx];exact up _ _ h5 (.inl ⟨b1,b2,b3,.inr (.inr ⟨.inl rfl,hw,hxx⟩)⟩)
  ·simp only at hl
   rcases hl with⟨p1,rfl⟩|⟨p2,rfl|rfl⟩
   ·have e:I=⟨17,5,8,0,(b+1)%4294967296⟩:=by simpa[mcP,mcA] using hI.symm
    subst e;refine tm h ht (.inl p1) hu hx0 hx rfl (λ_=>by simp[adr,m1];omega) (v:=(t:Int)+1) (by simp[lex,adr,m1,h5]) (by rw[ag p1]) ?_;exact .inr (.inr (.inl ⟨rfl,rfl,h5,p,hp,.inr ⟨hu,hR,hE,hx0,.inr ⟨by show g.ph+1=2;omega,.inl rfl⟩⟩⟩))
   ·have e:I=⟨1,7,0,0,0⟩:=by simpa[mcP,mcA] using hI.symm
    subst e;refine h.step1 (q':=18) (r':=bQ r 7 0) (λe=>by simp[aJ]at e) (by simp[lex,hx]) (.inl rfl) ?_;rw[hx];exact .inr (.inr (.inl ⟨rfl,rfl,h5,p,hp,.inr ⟨hu,hR,hE,hx0,.inr ⟨p2,.inr rfl⟩⟩⟩))
   ·simp[mcP,mcA]at hI
 ·simp only at e hd;subst e;subst hd
  have up:∀(q':Nat)(r':Nat->Int),GM b s.m g t ⟨2,q',r',false⟩->mcT b n s.m g t ⟨2,q',r',false⟩:=λq' r' hh=>.inr (.inr (.inr ⟨rfl,rfl,hx0,hh⟩));rcases hl with⟨ho,h0⟩|⟨hq,hi⟩|⟨hq,h5,how,hE⟩|⟨p3,hu,hE,h5,hq⟩
  ·exact t6 h hb hn ht hx (.inr rfl) hI ho hx0 h0
  ·simp only at hq
   rcases hq with rfl|rfl|rfl|rfl|⟨rfl,h4⟩|⟨rfl,h6⟩
   ·have e:I=⟨1,7,0,0,2⟩:=by simpa[mcP,mcR] using hI.symm
    subst e;refine h.step1 (q':=5) (r':=bQ r 7 2) (λe=>by simp[aJ]at e) (by simp[lex,hx]) (.inl rfl) ?_;rw[hx];exact up _ _ (.inr (.inl ⟨.inr (.inl rfl),hi⟩))
   ·have e:I=⟨13,0,0,0,20⟩:=by simpa[mcP,mcR] using hI.symm
    subst e;refine h.step1 (q':=20) (r':=r) (λe=>by simp[aJ]at e) (by simp[lex,hx]) (.inl rfl) ?_;rw[hx];exact up _ _ (.inr (.inl ⟨.inr (.inr (.inr (.inl rfl))),hi⟩))
   ·have e:I=⟨1,7,0,0,0⟩:=by simpa[mcP,mcR] using hI.symm
    subst e;refine h.step1 (q':=20) (r':=bQ r 7 0) (λe=>by simp[aJ]at e) (by simp[lex,hx]) (.inl rfl) ?_;rw[hx];exact up _ _ (.inr (.inl ⟨.inr (.inr (.inr (.inl rfl))),hi⟩))
   ·simp[mcP,mcR]at hI
   ·have e:I=⟨12,6,4,5,0⟩:=by simpa[mcP,mcR] using hI.symm
    subst e;refine h.step1 (q':=14) (r':=bQ r 6 1) (λe=>by simp[aJ]at e) (by simp[lex,hx,gj,h4]) (.inl rfl) ?_;rw[hx];exact up _ _ (.inr (.inl ⟨.inr (.inr (.inr (.inr (.inr ⟨rfl,show(1:Int)≠0 by decide⟩)))),hi⟩))
   ·have e:I=⟨15,6,0,0,19⟩:=by simpa[mcP,mcR] using hI.symm
    subst e;refine h.step1 (q':=19) (r':=r) (λe=>by simp[aJ]at e) (by simp[lex,hx,h6]) (.inl rfl) ?_;rw[hx];exact up _ _ (.inr (.inl ⟨.inr (.inr (.inl rfl)),hi⟩))
  ·simp only at hq h5
   rcases hq with rfl|⟨rfl,h4⟩
   ·have e:I=⟨1,4,0,0,0⟩:=by simpa[mcP,mcR] using hI.symm
    subst e;refine h.step1 (q':=7) (r':=bQ r 4 0) (λe=>by simp[aJ]at e) (by simp[lex,hx]) (.inl rfl) ?_;rw[hx];exact up _ _ (.inr (.inr (.inl ⟨.inr ⟨rfl,rfl⟩,h5,how,hE⟩)))
   ·have e:I=⟨17,4,8,0,(b+1)%4294967296⟩:=by simpa[mcP,mcR] using hI.symm
    subst e;obtain⟨p2,hu⟩:=how;refine tm h ht (.inr p2) hu hx0 hx rfl (λ_=>by simp[adr,m1];omega) (v:=0) (by simp[lex,adr,m1,h4]) (by rw[af (by omega)]) ?_;exact .inr (.inr (.inr ⟨rfl,rfl,hx0,.inr (.inr (.inr ⟨by show g.ph+1=3;omega,hu,hE,h5,.inl rfl⟩))⟩))
  ·simp only at hq h5
   have hQt:g.Q[g.R]? = some t:=by rw[<-hu];exact h.hu (by omega)
   have upr:∀(q':Nat)(r':Nat->Int),r' 5=(t:Int)+1->(q'=8\/((q'=9\/q'=16)/\(r' 4≠0->r' 4=s.m (b+2+t)))\/q'=10\/(q'=11/\r' 4=(t:Int)+1)\/(q'=12/\r' 4=(t:Int)+1/\r' 6=0) \/
   (q'=13/\r' 4≠(t:Int)+1)\/(q'=14/\r' 6=0)\/q'=15\/((q'=17\/(q'=18/\r' 6=0))/\r' 4≠0/\r' 4=s.m (b+2+t)))->mcT b n s.m g t ⟨2,q',r',false⟩:=λq' r' e5 hh=>up _ _ (.inr (.inr (.inr ⟨p3,hu,hE,e5,hh⟩)))
   have hvn:bk (s.b t) s.m (b+2+t)=s.m (b+2+t):=by
    have hL:mcL b n g.ph g.u g.w=[(b+1,(g.u:Int)+1),(b+1,0)]:=by simp[mcL,p3]
    have hk:=h.hk;rw[hL]at hk;rw[h.bu t,ag hu.symm,hL,hx0,List.append_nil];generalize g.k=k at hk;simp only[List.length_cons,List.length_nil]at hk
    have n1:¬b+1=b+2+t:=by omega
    match k,hk with
    | 0,_=>simp[bk,aV,n1]
    | 1,_=>simp[bk,aV,n1]
    | 2,_=>simp[bk,aV]
    | k+3,hk=>omega
   rcases hq with rfl|⟨rfl|rfl,h4⟩|rfl|⟨rfl,h4⟩|⟨rfl,h4,h6⟩|⟨rfl,h4⟩|⟨rfl,h6⟩|rfl|⟨rfl|⟨rfl,h6⟩,h4,h4'⟩
   ·have e:I=⟨16,4,8,0,(b+2+t)%4294967296⟩:=by simpa[mcP,mcR] using hI.symm
    subst e;refine h.step1 (q':=9) (r':=bQ r 4 (s.m (b+2+t))) (λ_=>by simp[adr,mn];omega) (by simp[lex,hx,adr,mn,hvn]) (.inl rfl) ?_;rw[hx];exact upr _ _ h5 (.inr (.inl ⟨.inl rfl,λ_=>rfl⟩))
   ·have e:I=⟨15,4,0,0,17⟩:=by simpa[mcP,mcR] using hI.symm
    subst e
    by_cases hz:r 4=0
    ·refine h.step1 (q':=10) (r':=r) (λe=>by simp[aJ]at e) (by simp[lex,hx,hz]) (.inl rfl) ?_
     rw[hx];exact upr _ _ h5 (.inr (.inr (.inl rfl)))
    ·refine h.step1 (q':=17) (r':=r) (λe=>by simp[aJ]at e) (by simp[lex,hx,hz]) (.inl rfl) ?_
     rw[hx];exact upr _ _ h5 (.inr (.inr (.inr (.inr (.inr (.inr (.inr (.inr ⟨.inl rfl,hz,h4 hz⟩))))))))
   ·have e:I=⟨14,4,0,0,15⟩:=by simpa[mcP,mcR] using hI.symm
    subst e
    by_cases hz:r 4=0
    ·refine h.step1 (q':=15) (r':=r) (λe=>by simp[aJ]at e) (by simp[lex,hx,hz]) (.inl rfl) ?_
     rw[hx];exact upr _ _ h5 (.inr (.inr (.inr (.inr (.inr (.inr (.inr (.inl rfl))))))))
    ·refine h.step1 (q':=17) (r':=r) (λe=>by simp[aJ]at e) (by simp[lex,hx,hz]) (.inl rfl) ?_
     rw[hx];exact upr _ _ h5 (.inr (.inr (.inr (.inr (.inr (.inr (.inr (.inr ⟨.inl rfl,hz,h4 hz⟩))))))))
   ·have e:I=⟨2,4,5,0,0⟩:=by simpa[mcP,mcR] using hI.symm
    subst e;refine h.step1 (q':=11) (r':=bQ r 4 ((t:Int)+1)) (λe=>by simp[aJ]at e) (by simp[lex,hx,h5]) (.inl rfl) ?_;rw[hx];exact upr _ _ h5 (.inr (.inr (.inr (.inl ⟨rfl,rfl⟩))))
   ·have e:I=⟨1,6,0,0,0⟩:=by simpa[mcP,mcR] using hI.symm
    subst e;refine h.step1 (q':=12) (r':=bQ r 6 0) (λe=>by simp[aJ]at e) (by simp[lex,hx]) (.inl rfl) ?_;rw[hx];exact upr _ _ h5 (.inr (.inr (.inr (.inr (.inl ⟨rfl,h4,rfl⟩)))))
   ·have e:I=⟨21,4,8,6,b⟩:=by simpa[mcP,mcR] using hI.symm
    subst e;exact EI h hb ht hx p3 hu hE h4 h5 h6 hx0 (hsw rfl)
   ·have e:I=⟨12,6,4,5,0⟩:=by simpa[mcP,mcR] using hI.symm
    subst e;refine h.step1 (q':=14) (r':=bQ r 6 0) (λe=>by simp[aJ]at e) (by simp[lex,hx,gj,h5,h4]) (.inl rfl) ?_;rw[hx];exact upr _ _ h5 (.inr (.inr (.inr (.inr (.inr (.inr (.inl ⟨rfl,rfl⟩)))))))
   ·have e:I=⟨15,6,0,0,19⟩:=by simpa[mcP,mcR] using hI.symm
    subst e;refine h.step1 (q':=15) (r':=r) (λe=>by simp[aJ]at e) (by simp[lex,hx,h6]) (.inl rfl) ?_;rw[hx];exact upr _ _ h5 (.inr (.inr (.inr (.inr (.inr (.inr (.inr (.inl rfl))))))))
   ·have e:I=⟨16,4,8,0,(b+2+t)%4294967296⟩:=by simpa[mcP,mcR] using hI.symm
    subst e;refine h.step1 (q':=16) (r':=bQ r 4 (s.m (b+2+t))) (λ_=>by simp[adr,mn];omega) (by simp[lex,hx,adr,mn,hvn]) (.inl rfl) ?_;rw[hx];exact upr _ _ h5 (.inr (.inl ⟨.inr rfl,λ_=>rfl⟩))
   ·have e:I=⟨1,6,0,0,0⟩:=by simpa[mcP,mcR] using hI.symm
    subst e;refine h.step1 (q':=18) (r':=bQ r 6 0) (λe=>by simp[aJ]at e) (by simp[lex,hx]) (.inl rfl) ?_;rw[hx];exact upr _ _ h5 (.inr (.inr (.inr (.inr (.inr (.inr (.inr (.inr ⟨.inr ⟨rfl,rfl⟩,h4,h4'⟩))))))))
   ·have e:I=⟨17,6,4,0,(b+2+n - 1)%4294967296⟩:=by simpa[mcP,mcR] using hI.symm
    subst e
    obtain⟨y,hy,hmy⟩:∃y:Nat,g.Q[g.R+1]? = some y/\s.m (b+2+t)=(y:Int)+1:=by
     rcases h.nl g.R t (ah _) hQt with e|e
     ·exact absurd (h4'.trans e) h4
     ·exact e
    have hyn:=h.qn _ _ hy;have e4:r 4=(y:Int)+1:=h4'.trans hmy
    have ea:((y:Int)+1+(b+2+n - 1)%4294967296)%4294967296=b+2+n+y:=by omega
    exact CE h ht p3 hu hE hx0 hx hy (by omega) rfl (λ_=>by simp[adr,hx,e4,ea];omega) (by simp[lex,adr,e4,h6,ea])
theorem CQ{b:Int}{n:Nat}(hb:0<=b/\b+2+n+n<=4294967296)(hn:0<n/\n<=8):BA (mcP b n) b (b+2+n+n) n (λ_=>0) (λQ E s=>∃g:McG,g.Q=Q/\g.E=E/\McI b n g s) where
 flush:=λ⟨g,e1,e2,h⟩ hb=>by
  obtain⟨k,x,h'⟩:=yW h hb;exact⟨{ g with k:=k,x:=x },e1,e2,h'⟩
 regs:=λ⟨g,e1,e2,h⟩ ht hc r=>⟨g,e1,e2,Cn h ht hc r⟩
 enter:=λ⟨g,e1,e2,h⟩ ht hc h'=>⟨g,e1,e2,Aa h ht hc h'⟩
 leave:=λ{Q E s t} ⟨g,e1,e2,h⟩ ht hc hq=>by
  have h':=zC h ht hc hq
  split
  ·rename_i hh
   rw[ag hh]at h';subst e1 e2;exact⟨h'.1,{ g with E:=g.E+1 },rfl,rfl,h'.2⟩
  ·rename_i hh
   rw[af hh]at h';exact⟨g,e1,e2,h'⟩
 exec:=λ⟨g,e1,e2,h⟩ _ ht hc hI hsw=>by
  subst e1 e2;obtain⟨ha,g',h',hE,hQ'⟩:=CT h hb hn.2 ht hc hI hsw;exact⟨ha,g',hQ',hE,h'⟩
 init:=λ{s} hm hb' hc=>⟨⟨⟨[],0,0,0,0,0⟩,none,λ_=>[]⟩,rfl,rfl,λ_=>hm b (by omega) (by omega),λy e=>absurd e (Nat.lt_irrefl _),⟨.inl rfl,ah _⟩,by decide,by simp,by simp[hm (b+1) (by omega) (by omega)],λt=>by simp[hb' t,mcL],λh=>absurd h (by decide),hn.1,λp y e=>by simp at e,λv _ e=>by simp at e,λp p' y _ _ e=>by simp at e,λp y _ e=>by simp at e,λp y _ e=>by simp at e,λp y _ e=>by simp at e,λ_ _=>rfl,λt _=>.inl ⟨hc t,λh=>absurd h (by decide),rfl⟩⟩
 frame:=λ{Q E s m} ⟨g,e1,e2,h⟩ hm=>⟨g,e1,e2,λe=>(hm b (by omega) (by omega)).trans (h.qa e),λy e ey=>(hm b (by omega) (by omega)).trans (h.qb y e ey),h.re,h.ph,h.hk,(hm (b+1) (by omega) (by omega)).trans h.ow,h.bu,h.hu,h.un,h.qn,h.hw,h.ds,h.qs,λp y hp hy hh=>by
   have:=h.qn _ _ hy
   exact(hm _ (by omega) (by omega)).trans (h.ws p y hp hy hh),λp y hp hy=>by
   have:=h.qn _ _ hy
   exact(h.nl p y hp hy).imp (λe=>(hm _ (by omega) (by omega)).trans e) λ⟨y',e1,e2⟩=>⟨y',e1,(hm _ (by omega) (by omega)).trans e2⟩,h.xn,λt ht=>
   pH (g:=g) rfl rfl rfl rfl rfl (λe=>e) (λ_ _ h=>h) rfl (λ_ _ _ _=>⟨hm _ (by omega) (by omega),hm _ (by omega) (by omega)⟩) (λp j _ _ hj e=>by
    have:=h.qn _ _ hj
    exact(hm _ (by omega) (by omega)).trans e) (λ_ _ _=>hm _ (by omega) (by omega)) (h.lc t ht)⟩
end Go.Proofs.YtldlcnaphednnaaGreatDoor
