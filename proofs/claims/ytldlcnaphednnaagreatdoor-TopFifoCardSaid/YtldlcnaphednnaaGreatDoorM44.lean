/- Tickets: who came first has it first. Plain. -/
import Derived.Test.YtldlcnaphednnaaGreatDoorM40
import Derived.Test.YtldlcnaphednnaaGreatDoorM43
set_option maxRecDepth 100000
set_option maxHeartbeats 32000000
set_option linter.unusedVariables false
set_option linter.unusedSimpArgs false
namespace Go.Proofs.YtldlcnaphednnaaGreatDoor
def tkP(b:Int)(c t:Nat):List Ins:=if c=1 then tkA b t else tkR b t
def tkL(b:Int)(ph u R:Nat):List (Int×Int):=
 if ph=0 then(if R=0 then[] else[(b+2,(u:Int)+1),(b+2,0),(b+1,(R:Int))])
 else if ph=1 then[] else if ph=2 then[(b+2,(u:Int)+1)] else[(b+2,(u:Int)+1),(b+2,0)]
theorem rx(b:Int)(ph u R:Nat):(tkL b ph u R).length<=3:=by
 unfold tkL;(repeat' split)<;>simp
structure TkG where
 Q:List Nat
 R:Nat
 E:Nat
 ph:Nat
 u:Nat
 k:Nat
def TkG.ow(g:TkG)(t:Nat):Prop:=g.ph=2/\g.u=t
def TkG.out(g:TkG)(t:Nat):Prop:=1<=g.ph->g.u=t->g.ph=2/\g.E=g.R+1
def TkG.idle(g:TkG)(t:Nat):Prop:=1<=g.ph->g.u≠t
def lj(g:TkG)(t:Nat)(x:TL):Prop:=
 x.q=0\/(x.q=1/\(x.r 4=(t:Int)+1↔g.ow t))\/(x.q=2/\x.r 5=(t:Int)+1/\(x.r 4=(t:Int)+1↔g.ow t))\/(x.q=3/\x.r 5=(t:Int)+1/\(x.r 6=0↔¬g.ow t))
def TkG.wt(g:TkG)(t τ:Nat):Prop:=g.R<=τ/\(1<=g.ph->g.R<τ)/\g.idle t/\(g.ph=0->g.u=t->g.R=0\/g.k=3)
def Gt(sv:Int)(g:TkG)(t:Nat)(x:TL):Prop:=
 (x.d=false/\g.out t/\(lj g t x\/((x.q=4\/x.q=5\/x.q=13)/\g.ow t)\/((x.q=6\/(x.q=7/\x.r 4=1))/\¬g.ow t/\x.r 5=(t:Int)+1))) \/
 (x.d=true/\x.r 5=(t:Int)+1/\∃τ:Nat,g.Q[τ]? = some t/\x.r 4=τ/\
  ((g.wt t τ/\(x.q=8\/(x.q=9/\(x.r 6=τ->sv=τ))\/(x.q=10/\(x.r 6≠0->sv=τ)))) \/
   (x.q=11/\g.ph=1/\g.u=t/\τ=g.R/\g.E=g.R)\/((x.q=12\/x.q=13)/\g.ph=2/\g.u=t/\τ=g.R/\g.E=g.R)))
def tkC2(g:TkG)(t:Nat)(x:TL):Prop:=
 (g.out t/\lj g t x)\/((x.q=4\/x.q=5\/x.q=12\/x.q=13)/\g.idle t)\/((x.q=6\/(x.q=7/\x.r 4=0))/\g.ow t/\g.E=g.R+1) \/
 ((x.q=8\/(x.q=9/\x.r 4=g.R)\/(x.q=10/\x.r 4=g.R/\x.r 6=1)\/(x.q=11/\x.r 4=(g.R:Int)+1))/\g.ph=3/\g.u=t/\g.E=g.R+1)
def tkT(sv:Int)(g:TkG)(t:Nat)(x:TL):Prop:=(x.c=0/\g.out t)\/(x.c=1/\Gt sv g t x)\/(x.c=2/\x.d=false/\tkC2 g t x)
structure TkI(b:Int)(n:Nat)(g:TkG)(s:LS):Prop where
 q1:s.m b=g.Q.length
 re:(g.E=g.R\/(g.E=g.R+1/\2<=g.ph))/\g.E<=g.Q.length
 ph:g.ph<=3
 hk:g.k<=(tkL b g.ph g.u g.R).length
 sv:s.m (b+1)=if g.ph=0/\g.k<3 then((g.R - 1:Nat):Int) else(g.R:Int)
 ow:s.m (b+2)=if g.k=1 then(g.u:Int)+1 else 0
 bu:∀t,s.b t=if t=g.u then(tkL b g.ph g.u g.R).drop g.k else[]
 hu:1<=g.ph->g.Q[g.R]? = some g.u
 un:g.u<n
 lc:∀t,t<n->tkT (s.m (b+1)) g t (s.th t)
theorem TkI.one{b:Int}{n:Nat}{g:TkG}{s:LS}(h:TkI b n g s){t:Nat}{x:TL}(hx:tkT (s.m (b+1)) g t x):TkI b n g { s with th:=bv s.th t x }:=
 ⟨h.q1,h.re,h.ph,h.hk,h.sv,h.ow,h.bu,h.hu,h.un,λv hv=>by
  simp only[bv];split
  ·rename_i e;rw[e];exact hx
  ·exact h.lc v hv⟩
theorem Cw{b:Int}{n:Nat}{g:TkG}{s:LS}(h:TkI b n g s){t:Nat}(ht:t<n)(hc:(s.th t).c=0)(r:Nat->Int):TkI b n g { s with th:=bv s.th t { s.th t with r:=r } }:=
 h.one (.inl ⟨hc,by
  rcases h.lc t ht with h1|h1|h1
  ·exact h1.2
  ·rw[hc]at h1;exact absurd h1.1 (by decide)
  ·rw[hc]at h1;exact absurd h1.1 (by decide)⟩)
theorem yj{b:Int}{n:Nat}{g:TkG}{s:LS}(h:TkI b n g s){t c:Nat}(ht:t<n)(hc:(s.th t).c=0)(hc':c=1\/c=2):TkI b n g { s with th:=bv s.th t ⟨c,0,(s.th t).r,false⟩ }:=by
 have ho:g.out t:=by
  rcases h.lc t ht with h1|h1|h1
  ·exact h1.2
  ·rw[hc]at h1;exact absurd h1.1 (by decide)
  ·rw[hc]at h1;exact absurd h1.1 (by decide)
 rcases hc' with rfl|rfl
 ·exact h.one (.inr (.inl ⟨rfl,.inl ⟨rfl,ho,.inl (.inl rfl)⟩⟩))
 ·exact h.one (.inr (.inr ⟨rfl,rfl,.inl ⟨ho,.inl rfl⟩⟩))
theorem sF{sv:Int}{g g':TkG}{v:Nat}{x:TL}(hno:g.idle v)(hu:g'.u≠v)(hQ:∀(i y:Nat),g.Q[i]? = some y->g'.Q[i]? = some y)(hw:∀τ,g.Q[τ]? = some v->g.wt v τ->g'.R<=τ/\(1<=g'.ph->g'.R<τ))(h:tkT sv g v x):tkT sv g' v x:=by
 have how1:¬g.ow v:=λe=>hno (by rw[e.1];decide) e.2
 have how2:¬g'.ow v:=λe=>hu e.2
 have hout:g'.out v:=λ_ e=>absurd e hu
 have hidl:g'.idle v:=λ_=>hu
 have hC0:∀x,lj g v x->lj g' v x:=λx hx=>by
  rcases hx with a|⟨a,b⟩|⟨a,c,b⟩|⟨a,c,b⟩
  ·exact .inl a
  ·exact .inr (.inl ⟨a,by simp only[how1,iff_false]at b;simp only[how2,iff_false];exact b⟩)
  ·exact .inr (.inr (.inl ⟨a,c,by simp only[how1,iff_false]at b;simp only[how2,iff_false];exact b⟩))
  ·exact .inr (.inr (.inr ⟨a,c,by simp only[how1,not_false_eq_true,iff_true]at b;simp only[how2,not_false_eq_true,iff_true];exact b⟩))
 rcases h with⟨a1,a2⟩|⟨a1,a2⟩|⟨a1,a2,a3⟩
 ·exact .inl ⟨a1,hout⟩
 ·refine .inr (.inl ⟨a1,?_⟩)
  rcases a2 with⟨b1,b2,b3⟩|⟨b1,b2,σ,b3,b4,b5⟩
  ·refine .inl ⟨b1,hout,?_⟩
   rcases b3 with b3|⟨_,b3⟩|⟨b3,_,b4⟩
   ·exact .inl (hC0 _ b3)
   ·exact absurd b3 how1
   ·exact .inr (.inr ⟨b3,how2,b4⟩)
  ·refine .inr ⟨b1,b2,σ,hQ _ _ b3,b4,?_⟩
   rcases b5 with⟨d,d5⟩|⟨_,p,b5,_⟩|⟨_,p,b5,_⟩
   ·exact .inl ⟨⟨(hw σ b3 d).1,(hw σ b3 d).2,hidl,λ_ e=>absurd e hu⟩,d5⟩
   ·exact absurd b5 (hno (by omega))
   ·exact absurd b5 (hno (by omega))
 ·refine .inr (.inr ⟨a1,a2,?_⟩)
  rcases a3 with⟨_,b⟩|⟨b,_⟩|⟨_,b,_⟩|⟨_,p,b,_⟩
  ·exact .inl ⟨hout,hC0 _ b⟩
  ·exact .inr (.inl ⟨b,hidl⟩)
  ·exact absurd b how1
  ·exact absurd b (hno (by omega))
theorem As{b:Int}{n:Nat}{g:TkG}{s:LS}(h:TkI b n g s){t:Nat}(ht:t<n)(hc:(s.th t).c≠0)(hq:(s.th t).q=(tkP b (s.th t).c t).length):
  if(s.th t).c=1/\(s.th t).d=true then g.Q[g.E]? = some t/\TkI b n { g with E:=g.E+1 } { s with th:=bv s.th t { s.th t with c:=0 } } else TkI b n g { s with th:=bv s.th t { s.th t with c:=0 } }:=by
 have h13:(s.th t).q=13:=by
  rw[hq];unfold tkP;split<;>rfl
 rcases h.lc t ht with h1|⟨h1,h2⟩|⟨h1,hd,h2⟩
 ·exact absurd h1.1 hc
 ·rcases h2 with⟨hd,ho,h2⟩|⟨hd,h5,τ,hτ,h4,h2⟩
  ·rw[af (by rw[hd];simp)]
   exact h.one (.inl ⟨rfl,ho⟩)
  ·rw[ag ⟨h1,hd⟩]
   have h3:g.ph=2/\g.u=t/\τ=g.R/\g.E=g.R:=by
    rcases h2 with⟨_,h3⟩|⟨h3,_⟩|⟨_,h3⟩
    ·rcases h3 with h3|⟨h3,_⟩|⟨h3,_⟩<;>omega
    ·omega
    ·exact h3
   obtain⟨p2,pu,rfl,pE⟩:=h3;refine⟨by rw[pE];exact hτ,h.q1,⟨.inr ⟨by simp only;omega,by simp only;omega⟩,?_⟩,h.ph,h.hk,h.sv,h.ow,h.bu,h.hu,h.un,λv hv=>?_⟩
   ·have:=(aj.1 hτ).1
    simp only;omega
   ·simp only[bv];split
    ·rename_i e;subst e
     exact .inl ⟨rfl,λ_ _=>⟨p2,by simp only;omega⟩⟩
    ·rename_i hne
     have hi:g.u≠v:=λe=>hne (e.symm.trans pu);exact sF (λ_=>hi) hi (λ_ _ h=>h) (λ_ _ hw=>⟨hw.1,hw.2.1⟩) (h.lc v hv)
 ·rw[af (by rw[h1];simp)]
  refine h.one (.inl ⟨rfl,?_⟩);rcases h2 with⟨b,_⟩|⟨_,b⟩|⟨b,_⟩|⟨b,_⟩
  ·exact b
  ·exact λh3 e=>absurd e (b h3)
  ·omega
  ·omega
theorem zA{b:Int}{n:Nat}{g:TkG}{s:LS}(h:TkI b n g s){t:Nat}{a v:Int}{l:List (Int×Int)}(hb:s.b t=(a,v) :: l):∃k,TkI b n { g with k:=k } { s with m:=dg s.m a v,b:=bU s.b t l }:=by
 have hbt:=h.bu t;rw[hb]at hbt
 by_cases hu:t=g.u
 case neg=>rw[af hu]at hbt;cases hbt
 rw[ag hu]at hbt;refine⟨g.k+1,?_⟩
 have hlt:g.k<(tkL b g.ph g.u g.R).length:=by
  refine Nat.lt_of_not_le λhle=>?_
  rw[List.drop_eq_nil_of_le hle]at hbt;cases hbt
 rw[List.drop_eq_getElem_cons hlt]at hbt;simp only[List.cons.injEq]at hbt;obtain⟨hav,rfl⟩:=hbt;have hph:=h.ph
 -- which store it is
 have hcase:(a=b+2/\v=(g.u:Int)+1/\g.k=0/\g.ph≠1)\/(a=b+2/\v=0/\g.k=1/\(g.ph=0\/g.ph=3))\/(a=b+1/\v=(g.R:Int)/\g.k=2/\g.ph=0/\0<g.R):=by
  have hp:g.ph=0\/g.ph=1\/g.ph=2\/g.ph=3:=by omega
  replace hav:(tkL b g.ph g.u g.R)[g.k]? = some (a,v):=by rw[aq hlt,hav]
  generalize hk:g.k=k at hav hlt ⊢;rcases hp with e|e|e|e
  ·by_cases hR:g.R=0
   ·simp[tkL,e,hR]at hlt
   ·have hL:tkL b g.ph g.u g.R=[(b+2,(g.u:Int)+1),(b+2,0),(b+1,(g.R:Int))]:=by simp[tkL,e,hR]
    simp only[hL,List.length_cons,List.length_nil]at hlt;simp only[hL]at hav
    match k,hlt,hav with
    | 0,_,hav=>simp at hav;exact .inl ⟨hav.1.symm,hav.2.symm,rfl,by omega⟩
    | 1,_,hav=>simp at hav;exact .inr (.inl ⟨hav.1.symm,hav.2.symm,rfl,.inl e⟩)
    | 2,_,hav=>simp at hav;exact .inr (.inr ⟨hav.1.symm,hav.2.symm,rfl,e,by omega⟩)
    | k+3,hlt,_=>omega
  ·simp[tkL,e]at hlt
  ·have hL:tkL b g.ph g.u g.R=[(b+2,(g.u:Int)+1)]:=by simp[tkL,e]
   simp only[hL,List.length_cons,List.length_nil]at hlt;simp only[hL]at hav
   match k,hlt,hav with
   | 0,_,hav=>simp at hav;exact .inl ⟨hav.1.symm,hav.2.symm,rfl,by omega⟩
   | k+1,hlt,_=>omega
  ·have hL:tkL b g.ph g.u g.R=[(b+2,(g.u:Int)+1),(b+2,0)]:=by simp[tkL,e]
   simp only[hL,List.length_cons,List.length_nil]at hlt;simp only[hL]at hav
   match k,hlt,hav with
   | 0,_,hav=>simp at hav;exact .inl ⟨hav.1.symm,hav.2.symm,rfl,by omega⟩
   | 1,_,hav=>simp at hav;exact .inr (.inl ⟨hav.1.symm,hav.2.symm,rfl,.inr e⟩)
   | k+2,hlt,_=>omega
 have hbu:∀v,bU s.b t ((tkL b g.ph g.u g.R).drop (g.k+1)) v=if v=g.u then(tkL b g.ph g.u g.R).drop (g.k+1) else[]:=λv=>by
  unfold bU
  by_cases e:v=g.u
  ·rw[ag (by rw[hu];exact e),ag e]
  ·rw[af (by rw[hu];exact e),af e,h.bu v,af e]
 have hlc:∀v,v<n->tkT (s.m (b+1)) { g with k:=g.k+1 } v (s.th v):=λv hv=>by
  rcases h.lc v hv with a|⟨a1,a2⟩|a
  ·exact .inl a
  ·refine .inr (.inl ⟨a1,?_⟩)
   rcases a2 with a2|⟨b1,b2,σ,b3,b4,b5⟩
   ·exact .inl a2
   ·refine .inr ⟨b1,b2,σ,b3,b4,?_⟩
    rcases b5 with⟨⟨d1,d2,d3,d4⟩,d5⟩|b5
    ·refine .inl ⟨⟨d1,d2,d3,λp0 e=>?_⟩,d5⟩
     rcases d4 p0 e with d4|d4
     ·exact .inl d4
     ·refine .inl ?_
      have hl:=rx b g.ph g.u g.R;omega
    ·exact .inr b5
  ·exact .inr (.inr a)
 rcases hcase with⟨rfl,rfl,c3,c4⟩|⟨rfl,rfl,c3,c4⟩|⟨rfl,rfl,c3,c4,c5⟩
 ·have e1:dg s.m (b+2) ((g.u:Int)+1) (b+1)=s.m (b+1):=af (by omega)
  refine⟨(af (by omega)).trans h.q1,h.re,h.ph,hlt,?_,?_,hbu,h.hu,h.un,λv hv=>?_⟩
  ·simp only[e1,h.sv,c3];simp
  ·simp only[dg,c3];simp
  ·simp only[e1];exact hlc v hv
 ·have e1:dg s.m (b+2) 0 (b+1)=s.m (b+1):=af (by omega)
  refine⟨(af (by omega)).trans h.q1,h.re,h.ph,hlt,?_,?_,hbu,h.hu,h.un,λv hv=>?_⟩
  ·simp only[e1,h.sv,c3];simp
  ·simp only[dg,c3];simp
  ·simp only[e1];exact hlc v hv
 ·have e1:dg s.m (b+1) (g.R:Int) (b+1)=g.R:=ag rfl
  have e0:s.m (b+1)=((g.R - 1:Nat):Int):=by rw[h.sv,ag ⟨c4,by omega⟩]
  refine⟨(af (by omega)).trans h.q1,h.re,h.ph,hlt,?_,?_,hbu,h.hu,h.un,λv hv=>?_⟩
  ·simp only[e1,c3];simp
  ·have:dg s.m (b+1) (g.R:Int) (b+2)=s.m (b+2):=af (by omega)
   simp only[this,h.ow,c3];simp
  ·simp only[e1]
   rcases hlc v hv with a|⟨a1,a2⟩|a
   ·exact .inl a
   ·refine .inr (.inl ⟨a1,?_⟩)
    rcases a2 with a2|⟨b1,b2,σ,b3,b4,b5⟩
    ·exact .inl a2
    ·refine .inr ⟨b1,b2,σ,b3,b4,?_⟩
     rcases b5 with⟨d1,d3⟩|b5
     ·refine .inl ⟨d1,?_⟩
      have d2:g.R<=σ:=d1.1;rw[e0]at d3;rcases d3 with d3|⟨d3,d4⟩|⟨d3,d4⟩
      ·exact .inl d3
      ·exact .inr (.inl ⟨d3,λe=>by have:=d4 e;omega⟩)
      ·exact .inr (.inr ⟨d3,λe=>by have:=d4 e;omega⟩)
     ·exact .inr b5
   ·exact .inr (.inr a)
theorem fg(f:Nat->List (Int×Int))(t:Nat):bU f t (f t)=f:=by
 funext s;unfold bU;split
 ·rename_i e;rw[e]
 ·rfl
theorem TkI.own{b:Int}{n:Nat}{g:TkG}{s:LS}(h:TkI b n g s){t:Nat}(ho:g.out t):bk (s.b t) s.m (b+2)=(t:Int)+1↔g.ow t:=by
 have hk:=h.hk;have hp:=h.ph;rw[h.bu t]
 by_cases hu:t=g.u
 ·rw[ag hu]
  subst hu
  have hp':g.ph=0\/g.ph=2:=by
   by_cases e:1<=g.ph
   ·exact .inr (ho e rfl).1
   ·omega
  have how:=h.ow;unfold TkG.ow;generalize g.k=k at hk how ⊢;rcases hp' with e|e
  ·by_cases hR:g.R=0
   ·have hL:tkL b g.ph g.u g.R=[]:=by simp[tkL,e,hR]
    rw[hL]at hk ⊢
    obtain rfl:k=0:=by simpa using hk
    simp[bk,aV,how,e];omega
   ·have hL:tkL b g.ph g.u g.R=[(b+2,(g.u:Int)+1),(b+2,0),(b+1,(g.R:Int))]:=by simp[tkL,e,hR]
    rw[hL]at hk ⊢;simp only[List.length_cons,List.length_nil]at hk
    match k,hk with
    | 0,_=>simp[bk,aV,e];omega
    | 1,_=>simp[bk,aV,e];omega
    | 2,_=>simp[bk,aV,e,how];omega
    | 3,_=>simp[bk,aV,e,how];omega
    | k+4,hk=>omega
  ·have hL:tkL b g.ph g.u g.R=[(b+2,(g.u:Int)+1)]:=by simp[tkL,e]
   rw[hL]at hk ⊢;simp only[List.length_cons,List.length_nil]at hk
   match k,hk with
   | 0,_=>simp[bk,aV,e]
   | 1,_=>simp[bk,aV,e,how]
   | k+2,hk=>omega
 ·rw[af hu]
  simp only[bk,aV,h.ow]
  have:¬g.ow t:=λe=>hu e.2.symm
  constructor
  ·intro e
   split at e
   ·omega
   ·omega
  ·intro e;exact absurd e this
def TkR(b:Int)(n:Nat)(g:TkG)(s:LS)(t:Nat)(I:Ins):Prop:=(aJ I.op=true->b<=adr I (s.th t).r/\adr I (s.th t).r<b+3)/\∃g',TkI b n g' (exS t I s)/\g'.E=g.E/\g'.Q=if(s.th t).c=1/\swB I.op=true then g.Q++[t] else g.Q
theorem TkI.step1{b:Int}{n:Nat}{g:TkG}{s:LS}(h:TkI b n g s){t:Nat}{I:Ins}{q':Nat}{r':Nat->Int}(hA:aJ I.op=true->b<=adr I (s.th t).r/\adr I (s.th t).r<b+3)(e:lex I ⟨(s.th t).q,(s.th t).r,s.m,s.b t⟩=⟨q',r',s.m,s.b t⟩)(hs:swB I.op=false)(hx:tkT (s.m (b+1)) g t ⟨(s.th t).c,q',r',(s.th t).d⟩):TkR b n g s t I:=by
 refine⟨hA,g,?_,rfl,by rw[hs];simp⟩;unfold exS;rw[e,hs];simp only[Bool.and_false,Bool.or_false,fg];exact h.one hx
theorem sR{b:Int}{n:Nat}{g:TkG}{s:LS}(h:TkI b n g s)(hb:0<=b/\b+3<=4294967296)(hn:n<=8){t:Nat}(ht:t<n){I:Ins}{c q:Nat}{r:Nat->Int}(hx:s.th t=⟨c,q,r,false⟩)(hc:c=1\/c=2)(hI:(tkP b c t)[q]? = some I)(ho:g.out t)(h0:lj g t ⟨c,q,r,false⟩):TkR b n g s t I:=by
 have m2:(b+2)%4294967296=b+2:=by omega
 have mt:((t:Int)+1)%4294967296=t+1:=by omega
 have hv:=h.own ho
 have up:∀q' r',(lj g t ⟨c,q',r',false⟩)->tkT (s.m (b+1)) g t ⟨c,q',r',false⟩:=λq' r' hh=>by
  rcases hc with rfl|rfl
  ·exact .inr (.inl ⟨rfl,.inl ⟨rfl,ho,.inl hh⟩⟩)
  ·exact .inr (.inr ⟨rfl,rfl,.inl ⟨ho,hh⟩⟩)
 have hid:¬g.ow t->g.idle t:=λhh p e=>hh ⟨(ho p e).1,e⟩;rcases h0 with hq|⟨hq,h4⟩|⟨hq,h5,h4⟩|⟨hq,h5,h6⟩
 ·simp only at hq;subst hq
  have e:I=⟨16,4,8,0,(b+2)%4294967296⟩:=by rcases hc with rfl|rfl<;>simpa[tkP,tkA,tkR] using hI.symm
  subst e;refine h.step1 (q':=1) (r':=bQ r 4 (bk (s.b t) s.m (b+2))) (λ_=>by simp[adr,m2];omega) (by simp[lex,adr,hx,m2]) rfl ?_;rw[hx];exact up _ _ (.inr (.inl ⟨rfl,hv⟩))
 ·simp only at hq h4;subst hq
  have e:I=⟨1,5,0,0,((t:Int)+1)%4294967296⟩:=by rcases hc with rfl|rfl<;>simpa[tkP,tkA,tkR] using hI.symm
  subst e;refine h.step1 (q':=2) (r':=bQ r 5 ((t:Int)+1)) (λe=>by simp[aJ]at e) (by simp[lex,hx,mt]) rfl ?_;rw[hx];exact up _ _ (.inr (.inr (.inl ⟨rfl,rfl,h4⟩)))
 ·simp only at hq h4 h5;subst hq
  have e:I=⟨12,6,4,5,0⟩:=by rcases hc with rfl|rfl<;>simpa[tkP,tkA,tkR] using hI.symm
  subst e;refine h.step1 (q':=3) (r':=bQ r 6 (if r 4=r 5 then 1 else 0)) (λe=>by simp[aJ]at e) (by simp[lex,hx,gj]) rfl ?_;rw[hx];refine up _ _ (.inr (.inr (.inr ⟨rfl,h5,?_⟩)));show(if r 4=r 5 then(1:Int) else 0)=0↔¬g.ow t;rw[h5,<-h4]
  split<;>simp_all
 ·simp only at hq h5 h6;subst hq
  rcases hc with rfl|rfl
  ·have e:I=⟨14,6,0,0,6⟩:=by simpa[tkP,tkA] using hI.symm
   subst e
   by_cases hz:r 6=0
   ·refine h.step1 (q':=6) (r':=r) (λe=>by simp[aJ]at e) (by simp[lex,hx,hz]) rfl ?_
    rw[hx];exact .inr (.inl ⟨rfl,.inl ⟨rfl,ho,.inr (.inr ⟨.inl rfl,h6.1 hz,h5⟩)⟩⟩)
   ·refine h.step1 (q':=4) (r':=r) (λe=>by simp[aJ]at e) (by simp[lex,hx,hz]) rfl ?_
    rw[hx];exact .inr (.inl ⟨rfl,.inl ⟨rfl,ho,.inr (.inl ⟨.inl rfl,Classical.not_not.1 λe=>hz (h6.2 e)⟩)⟩⟩)
  ·have e:I=⟨15,6,0,0,6⟩:=by simpa[tkP,tkR] using hI.symm
   subst e
   by_cases hz:r 6=0
   ·refine h.step1 (q':=4) (r':=r) (λe=>by simp[aJ]at e) (by simp[lex,hx,hz]) rfl ?_
    rw[hx];exact .inr (.inr ⟨rfl,rfl,.inr (.inl ⟨.inl rfl,hid (h6.1 hz)⟩)⟩)
   ·refine h.step1 (q':=6) (r':=r) (λe=>by simp[aJ]at e) (by simp[lex,hx,hz]) rfl ?_
    rw[hx];have how:g.ow t:=Classical.not_not.1 λe=>hz (h6.2 e);exact .inr (.inr ⟨rfl,rfl,.inr (.inr (.inl ⟨.inl rfl,how,(ho (by rw[how.1];decide) how.2).2⟩))⟩)
theorem cD{α:Type}{l:List α}{x y:α}{i:Nat}(h:l[i]? = some y):(l++[x])[i]? = some y:=by
 rw[List.getElem?_append_left (aj.1 h).1];exact h
theorem TkI.emp{b:Int}{n:Nat}{g:TkG}{s:LS}(h:TkI b n g s){t τ:Nat}(hw:g.wt t τ):s.b t=[]:=by
 rw[h.bu t]
 by_cases hu:t=g.u
 ·rw[ag hu]
  obtain⟨_,_,h3,h4⟩:=hw
  have p0:g.ph=0:=by
   by_cases e:1<=g.ph
   ·exact absurd hu.symm (h3 e)
   ·omega
  refine List.drop_eq_nil_of_le ?_;rcases h4 p0 hu.symm with e|e
  ·simp[tkL,p0,e]
  ·rw[e];exact rx _ _ _ _
 ·rw[af hu]
theorem xW{sv:Int}{g g':TkG}{v:Nat}{x:TL}(hQ:∀(i y:Nat),g.Q[i]? = some y->g'.Q[i]? = some y)(hR:g'.R=g.R)(hE:g'.E=g.E)(hp:g'.ph=g.ph)(hu:g'.u=g.u)(hk:g'.k=g.k)(h:tkT sv g v x):tkT sv g' v x:=by
 obtain⟨Q,R,E,ph,u,k⟩:=g;obtain⟨Q',R',E',ph',u',k'⟩:=g';simp only at hR hE hp hu hk hQ;subst hR hE hp hu hk;rcases h with h|⟨h1,h2⟩|h
 ·exact .inl h
 ·refine .inr (.inl ⟨h1,?_⟩)
  rcases h2 with h2|⟨a,b,τ,c,d⟩
  ·exact .inl h2
  ·exact .inr ⟨a,b,τ,hQ _ _ c,d⟩
 ·exact .inr (.inr h)
theorem BU{b:Int}{n:Nat}{g:TkG}{s:LS}(h:TkI b n g s)(hb:0<=b/\b+3<=4294967296)(hQ:g.Q.length<1000000){t:Nat}(ht:t<n){r:Nat->Int}(hx:s.th t=⟨1,7,r,false⟩)(h4:r 4=1)(h5:r 5=(t:Int)+1)(ho:g.out t)(hno:¬g.ow t)(hd:s.b t=[]):TkR b n g s t ⟨20,4,8,0,b%4294967296⟩:=by
 have m0:b%4294967296=b:=by omega
 have q1:=h.q1
 have e:lex ⟨20,4,8,0,b%4294967296⟩ ⟨7,r,s.m,s.b t⟩=⟨8,bQ r 4 (s.m b),dg s.m b (s.m b+1),s.b t⟩:=by
  have:(s.m b+1)%4294967296=s.m b+1:=by omega
  simp[lex,adr,m0,h4,this]
 have hid:g.idle t:=λp e=>hno ⟨(ho p e).1,e⟩;have hbu:=h.bu t;rw[hd]at hbu;refine⟨λ_=>by simp[adr,m0];omega,{ g with Q:=g.Q++[t] },?_,rfl,by rw[hx];rfl⟩;unfold exS;rw[hx];simp only[e,fg];have u1:dg s.m b (s.m b+1) (b+1)=s.m (b+1):=af (by omega);have u2:dg s.m b (s.m b+1) (b+2)=s.m (b+2):=af (by omega);have hle:=h.re.2;refine⟨?_,⟨h.re.1,by simp only[List.length_append,List.length_singleton];omega⟩,h.ph,h.hk,u1.trans h.sv,u2.trans h.ow,h.bu,λp=>cD (h.hu p),h.un,λv hv=>?_⟩
 ·show dg s.m b (s.m b+1) b=_
  rw[dg,ag rfl,q1];simp
 ·simp only[u1,bv]
  split
  ·rename_i e;subst e
   refine .inr (.inl ⟨rfl,.inr ⟨rfl,h5,g.Q.length,?_,q1,.inl ⟨⟨?_,λp=>?_,hid,λp e=>?_⟩,.inl rfl⟩⟩⟩)
   ·simp
   ·show g.R<=g.Q.length
    have:=h.re;omega
   ·exact(aj.1 (h.hu p)).1
   ·show g.R=0\/g.k=3
    have e':g.u=v:=e;have p':g.ph=0:=p;rw[ag e'.symm]at hbu
    by_cases hR:g.R=0
    ·exact .inl hR
    ·have hL:tkL b g.ph g.u g.R=[(b+2,(g.u:Int)+1),(b+2,0),(b+1,(g.R:Int))]:=by simp[tkL,p',hR]
     have hk:=h.hk;rw[hL]at hbu hk;have:=congrArg List.length hbu;simp only[List.length_nil,List.length_drop,List.length_cons]at this hk;exact .inr (by omega)
  ·exact xW (λi y hy=>cD hy) rfl rfl rfl rfl rfl (h.lc v hv)
theorem Db{b:Int}{n:Nat}{g:TkG}{s:LS}(h:TkI b n g s){t τ:Nat}(ht:t<n){r:Nat->Int}(hx:s.th t=⟨1,10,r,true⟩)(h4:r 4=τ)(h5:r 5=(t:Int)+1)(hτ:g.Q[τ]? = some t)(hw:g.wt t τ)(h6:r 6≠0)(hs:s.m (b+1)=τ):TkR b n g s t ⟨14,6,0,0,8⟩:=by
 have e:lex ⟨14,6,0,0,8⟩ ⟨10,r,s.m,s.b t⟩=⟨11,r,s.m,s.b t⟩:=by simp[lex,h6]
 have hsv:=h.sv;rw[hs]at hsv;obtain⟨w1,w2,w3,w4⟩:=hw
 have p0:g.ph=0:=by
  by_cases p:1<=g.ph
  ·rw[af (by omega)]at hsv
   have:=w2 p;omega
  ·omega
 have hτR:τ=g.R:=by
  split at hsv<;>omega
 subst hτR
 have hR3:g.R=0\/3<=g.k:=by
  by_cases k3:g.k<3
  ·rw[ag ⟨p0,k3⟩]at hsv;omega
  ·omega
 have hbe:∀v,s.b v=[]:=λv=>by
  rw[h.bu v]
  split
  ·rcases hR3 with e|e
   ·simp[tkL,p0,e]
   ·exact List.drop_eq_nil_of_le (ar (rx _ _ _ _) e)
  ·rfl
 have hE:g.E=g.R:=by
  rcases h.re.1 with e|⟨_,e⟩
  ·exact e
  ·omega
 have hk:=h.hk
 have how:s.m (b+2)=0:=by
  rw[h.ow]
  refine af λe=>?_
  rcases hR3 with e'|e'
  ·simp[tkL,p0,e']at hk;omega
  ·omega
 refine⟨λe=>by simp[aJ]at e,{ g with ph:=1,u:=t,k:=0 },?_,rfl,by rw[hx];rfl⟩;unfold exS;rw[hx];simp only[e,fg];refine⟨h.q1,⟨.inl hE,h.re.2⟩,show 1<=3 by decide,au _,?_,by simp[how],λv=>?_,λ_=>hτ,ht,λv hv=>?_⟩
 ·simp[hs]
 ·rw[hbe v];simp[tkL]
 ·simp only[bv]
  split
  ·rename_i e;subst e
   exact .inr (.inl ⟨rfl,.inr ⟨rfl,h5,g.R,hτ,h4,.inr (.inl ⟨rfl,rfl,rfl,rfl,hE⟩)⟩⟩)
  ·rename_i hne
   have hi:t≠v:=λe=>hne e.symm
   refine sF (g:=g) (g':={ g with ph:=1,u:=t,k:=0 }) (λp=>by omega) hi (λ_ _ h=>h) (λσ b3 hw=>⟨hw.1,λ_=>?_⟩) (hs▸h.lc v hv);show g.R<σ;rcases Nat.lt_or_ge g.R σ with hlt|hge
   ·exact hlt
   ·have:σ=g.R:=Nat.le_antisymm hge hw.1
    rw[this,hτ]at b3;cases b3;exact absurd rfl hi
theorem pG{b:Int}{n:Nat}{g:TkG}{s:LS}(h:TkI b n g s){t:Nat}(ht:t<n)(hp:1<=g.ph)(hu:g.u=t){c q:Nat}{r:Nat->Int}{d:Bool}(hx:s.th t=⟨c,q,r,d⟩){I:Ins}{a v:Int}(hsw:swB I.op=false)(hA:aJ I.op=true->b<=adr I (s.th t).r/\adr I (s.th t).r<b+3)
  (e:lex I ⟨q,r,s.m,s.b t⟩=⟨q+1,r,s.m,s.b t++[(a,v)]⟩) (ph R:Nat) (hph:ph<=3) (hlog:tkL b ph t R=tkL b g.ph t g.R++[(a,v)]) (hR:g.R<=R/\(1<=ph->R=g.R)/\(R<=g.R+1)) (hre:g.E=R\/(g.E=R+1/\2<=ph))
  (hsv:(if ph=0/\g.k<3 then((R - 1:Nat):Int) else(R:Int))=g.R) (hnew:tkT (g.R:Int) { g with ph:=ph,R:=R } t ⟨c,q+1,r,d⟩):TkR b n g s t I:=by
 have hs:=h.sv;rw[af (by omega)]at hs;refine⟨hA,{ g with ph:=ph,R:=R },?_,rfl,by rw[hsw];simp⟩;unfold exS;rw[hx];simp only[e,hsw,Bool.and_false,Bool.or_false];have hk:=h.hk;rw[hu]at hk;refine⟨h.q1,⟨hre,h.re.2⟩,hph,?_,?_,h.ow,λw=>?_,λp=>?_,h.un,λw hw=>?_⟩
 ·simp only[hu,hlog,List.length_append,List.length_singleton];omega
 ·rw[hs];exact hsv.symm
 ·simp only[bU,hu,hlog]
  have hb:=h.bu w;rw[hu]at hb
  split
  ·rename_i e;subst e
   have hb:=h.bu w;rw[ag hu.symm,hu]at hb;rw[hb,List.drop_append_of_le_length hk]
  ·rename_i e;rw[hb,af e]
 ·simp only;rw[hR.2.1 p];exact h.hu hp
 ·simp only[bv]
  split
  ·rename_i e;rw[e,hs];exact hnew
  ·rename_i hne
   have hi:g.u≠w:=λe=>hne (e.symm.trans hu);exact sF (λ_=>hi) hi (λ_ _ h=>h) (λτ _ hw=>⟨by have:=hw.2.1 hp;simp only;omega,λp=>by have:=hw.2.1 hp;have:=hR.2.1 p;simp only;omega⟩) (h.lc w hw)
theorem CK{b:Int}{n:Nat}{g:TkG}{s:LS}(h:TkI b n g s)(hb:0<=b/\b+3<=4294967296)(hn:n<=8)(hQ:g.Q.length<1000000){t:Nat}(ht:t<n){I:Ins}(hc:(s.th t).c≠0)(hI:(tkP b (s.th t).c t)[(s.th t).q]? = some I)(hsw:swB I.op=true->s.b t=[]):TkR b n g s t I:=by
 have m0:b%4294967296=b:=by omega
 have m1:(b+1)%4294967296=b+1:=by omega
 have m2:(b+2)%4294967296=b+2:=by omega
 have hl:=h.lc t ht
 cases hx:s.th t with
 | mk c q r d=>
 rw[hx]at hc hI hl;simp only at hc hI;rcases hl with⟨e,_⟩|⟨e,hl⟩|⟨e,hd,hl⟩
 ·exact absurd e hc
 ·simp only at e;subst e
  rcases hl with⟨hd,ho,h0|⟨hq,how⟩|⟨hq,hno,h5⟩⟩|⟨hd,h5,τ,hτ,h4,hl⟩
  ·simp only at hd;subst hd
   exact sR h hb hn ht hx (.inl rfl) hI ho h0
  ·simp only at hd hq;subst hd
   rcases hq with rfl|rfl|rfl
   ·have e:I=⟨1,7,0,0,1⟩:=by simpa[tkP,tkA] using hI.symm
    subst e;refine h.step1 (q':=5) (r':=bQ r 7 1) (λe=>by simp[aJ]at e) (by simp[lex,hx]) rfl ?_;rw[hx];exact .inr (.inl ⟨rfl,.inl ⟨rfl,ho,.inr (.inl ⟨.inr (.inl rfl),how⟩)⟩⟩)
   ·have e:I=⟨13,0,0,0,13⟩:=by simpa[tkP,tkA] using hI.symm
    subst e;refine h.step1 (q':=13) (r':=r) (λe=>by simp[aJ]at e) (by simp[lex,hx]) rfl ?_;rw[hx];exact .inr (.inl ⟨rfl,.inl ⟨rfl,ho,.inr (.inl ⟨.inr (.inr rfl),how⟩)⟩⟩)
   ·simp[tkP,tkA]at hI
  ·simp only at hd hq h5;subst hd
   rcases hq with rfl|⟨rfl,h4⟩
   ·have e:I=⟨1,4,0,0,1⟩:=by simpa[tkP,tkA] using hI.symm
    subst e;refine h.step1 (q':=7) (r':=bQ r 4 1) (λe=>by simp[aJ]at e) (by simp[lex,hx]) rfl ?_;rw[hx];exact .inr (.inl ⟨rfl,.inl ⟨rfl,ho,.inr (.inr ⟨.inr ⟨rfl,rfl⟩,hno,h5⟩)⟩⟩)
   ·have e:I=⟨20,4,8,0,b%4294967296⟩:=by simpa[tkP,tkA] using hI.symm
    subst e;exact BU h hb hQ ht hx h4 h5 ho hno (hsw rfl)
  ·simp only at hd h4 h5;subst hd
   rcases hl with⟨hw,hl⟩|⟨hq,p1,hu,hR,hE⟩|⟨hq,p2,hu,hR,hE⟩
   ·have hem:=h.emp hw
    rcases hl with hq|⟨hq,hl⟩|⟨hq,hl⟩
    ·simp only at hq;subst hq
     have e:I=⟨16,6,8,0,(b+1)%4294967296⟩:=by simpa[tkP,tkA] using hI.symm
     subst e;refine h.step1 (q':=9) (r':=bQ r 6 (s.m (b+1))) (λe=>by simp[adr,m1];omega) (by simp[lex,hx,adr,m1,hem,bk,aV]) rfl ?_;rw[hx];exact .inr (.inl ⟨rfl,.inr ⟨rfl,h5,τ,hτ,h4,.inl ⟨hw,.inr (.inl ⟨rfl,λe=>e⟩)⟩⟩⟩)
    ·simp only at hq hl;subst hq
     have e:I=⟨12,6,6,4,0⟩:=by simpa[tkP,tkA] using hI.symm
     subst e;refine h.step1 (q':=10) (r':=bQ r 6 (if r 6=r 4 then 1 else 0)) (λe=>by simp[aJ]at e) (by simp[lex,hx,gj]) rfl ?_;rw[hx];refine .inr (.inl ⟨rfl,.inr ⟨rfl,h5,τ,hτ,h4,.inl ⟨hw,.inr (.inr ⟨rfl,λe=>?_⟩)⟩⟩⟩);change (if r 6=r 4 then(1:Int) else 0)≠0 at e
     split at e
     ·rename_i e6;exact hl (e6.trans h4)
     ·exact absurd rfl e
    ·simp only at hq hl;subst hq
     have e:I=⟨14,6,0,0,8⟩:=by simpa[tkP,tkA] using hI.symm
     subst e
     by_cases h6:r 6=0
     ·refine h.step1 (q':=8) (r':=r) (λe=>by simp[aJ]at e) (by simp[lex,hx,h6]) rfl ?_
      rw[hx];exact .inr (.inl ⟨rfl,.inr ⟨rfl,h5,τ,hτ,h4,.inl ⟨hw,.inl rfl⟩⟩⟩)
     ·exact Db h ht hx h4 h5 hτ hw h6 (hl h6)
   ·simp only at hq;subst hq
    have e:I=⟨17,5,8,0,(b+2)%4294967296⟩:=by simpa[tkP,tkA] using hI.symm
    subst e;have hk:=h.hk
    have hL:tkL b g.ph g.u g.R=[]:=by simp[tkL,p1]
    rw[hL]at hk;refine pG h ht (by omega) hu hx rfl (λe=>by simp[adr,m2];omega) (a:=b+2) (v:=(t:Int)+1) (by simp[lex,adr,m2,h5]) 2 g.R (by decide) (by simp[tkL,p1]) ⟨ah _,λ_=>rfl,by omega⟩ (.inl hE) (by simp) ?_;exact .inr (.inl ⟨rfl,.inr ⟨rfl,h5,τ,hτ,h4,.inr (.inr ⟨.inl rfl,rfl,hu,hR,hE⟩)⟩⟩)
   ·simp only at hq
    rcases hq with rfl|rfl
    ·have e:I=⟨1,7,0,0,0⟩:=by simpa[tkP,tkA] using hI.symm
     subst e;refine h.step1 (q':=13) (r':=bQ r 7 0) (λe=>by simp[aJ]at e) (by simp[lex,hx]) rfl ?_;rw[hx];exact .inr (.inl ⟨rfl,.inr ⟨rfl,h5,τ,hτ,h4,.inr (.inr ⟨.inr rfl,p2,hu,hR,hE⟩)⟩⟩)
    ·simp[tkP,tkA]at hI
 ·simp only at e hd;subst e;subst hd
  rcases hl with⟨ho,h0⟩|⟨hq,hi⟩|⟨hq,how,hE⟩|⟨hq,p3,hu,hE⟩
  ·exact sR h hb hn ht hx (.inr rfl) hI ho h0
  ·simp only at hq
   rcases hq with rfl|rfl|rfl|rfl
   ·have e:I=⟨1,7,0,0,2⟩:=by simpa[tkP,tkR] using hI.symm
    subst e;refine h.step1 (q':=5) (r':=bQ r 7 2) (λe=>by simp[aJ]at e) (by simp[lex,hx]) rfl ?_;rw[hx];exact .inr (.inr ⟨rfl,rfl,.inr (.inl ⟨.inr (.inl rfl),hi⟩)⟩)
   ·have e:I=⟨13,0,0,0,13⟩:=by simpa[tkP,tkR] using hI.symm
    subst e;refine h.step1 (q':=13) (r':=r) (λe=>by simp[aJ]at e) (by simp[lex,hx]) rfl ?_;rw[hx];exact .inr (.inr ⟨rfl,rfl,.inr (.inl ⟨.inr (.inr (.inr rfl)),hi⟩)⟩)
   ·have e:I=⟨1,7,0,0,0⟩:=by simpa[tkP,tkR] using hI.symm
    subst e;refine h.step1 (q':=13) (r':=bQ r 7 0) (λe=>by simp[aJ]at e) (by simp[lex,hx]) rfl ?_;rw[hx];exact .inr (.inr ⟨rfl,rfl,.inr (.inl ⟨.inr (.inr (.inr rfl)),hi⟩)⟩)
   ·simp[tkP,tkR]at hI
  ·simp only at hq
   rcases hq with rfl|⟨rfl,h4⟩
   ·have e:I=⟨1,4,0,0,0⟩:=by simpa[tkP,tkR] using hI.symm
    subst e;refine h.step1 (q':=7) (r':=bQ r 4 0) (λe=>by simp[aJ]at e) (by simp[lex,hx]) rfl ?_;rw[hx];exact .inr (.inr ⟨rfl,rfl,.inr (.inr (.inl ⟨.inr ⟨rfl,rfl⟩,how,hE⟩))⟩)
   ·have e:I=⟨17,4,8,0,(b+2)%4294967296⟩:=by simpa[tkP,tkR] using hI.symm
    subst e;obtain⟨p2,hu⟩:=how;refine pG h ht (by omega) hu hx rfl (λe=>by simp[adr,m2];omega) (a:=b+2) (v:=0) (by simp[lex,adr,m2,h4]) 3 g.R (by decide) (by simp[tkL,p2]) ⟨ah _,λ_=>rfl,by omega⟩ (.inr ⟨hE,by decide⟩) (by simp) ?_;exact .inr (.inr ⟨rfl,rfl,.inr (.inr (.inr ⟨.inl rfl,rfl,hu,hE⟩))⟩)
  ·simp only at hq
   have hL:tkL b g.ph g.u g.R=[(b+2,(g.u:Int)+1),(b+2,0)]:=by simp[tkL,p3]
   have hk:=h.hk;have hsv:=h.sv;have hQE:=h.re.2;rw[af (by omega)]at hsv;rw[hL]at hk;rcases hq with rfl|⟨rfl,h4⟩|⟨rfl,h4,h6⟩|⟨rfl,h4⟩
   ·have e:I=⟨16,4,8,0,(b+1)%4294967296⟩:=by simpa[tkP,tkR] using hI.symm
    subst e
    have hv:bk (s.b t) s.m (b+1)=g.R:=by
     rw[h.bu t,ag hu.symm,hL];generalize g.k=k at hk;simp only[List.length_cons,List.length_nil]at hk
     match k,hk with
     | 0,_=>simp[bk,aV,hsv]
     | 1,_=>simp[bk,aV,hsv]
     | 2,_=>simp[bk,aV,hsv]
     | k+3,hk=>omega
    refine h.step1 (q':=9) (r':=bQ r 4 (g.R:Int)) (λe=>by simp[adr,m1];omega) (by simp[lex,hx,adr,m1,hv]) rfl ?_;rw[hx];exact .inr (.inr ⟨rfl,rfl,.inr (.inr (.inr ⟨.inr (.inl ⟨rfl,rfl⟩),p3,hu,hE⟩))⟩)
   ·have e:I=⟨1,6,0,0,1⟩:=by simpa[tkP,tkR] using hI.symm
    subst e;refine h.step1 (q':=10) (r':=bQ r 6 1) (λe=>by simp[aJ]at e) (by simp[lex,hx]) rfl ?_;rw[hx];exact .inr (.inr ⟨rfl,rfl,.inr (.inr (.inr ⟨.inr (.inr (.inl ⟨rfl,h4,rfl⟩)),p3,hu,hE⟩))⟩)
   ·have e:I=⟨3,4,4,6,0⟩:=by simpa[tkP,tkR] using hI.symm
    subst e;refine h.step1 (q':=11) (r':=bQ r 4 ((g.R:Int)+1)) (λe=>by simp[aJ]at e) (by simp[lex,hx,gj,h4,h6];congr 1;omega) rfl ?_;rw[hx];exact .inr (.inr ⟨rfl,rfl,.inr (.inr (.inr ⟨.inr (.inr (.inr ⟨rfl,rfl⟩)),p3,hu,hE⟩))⟩)
   ·have e:I=⟨17,4,8,0,(b+1)%4294967296⟩:=by simpa[tkP,tkR] using hI.symm
    subst e;simp only[List.length_cons,List.length_nil]at hk;refine pG h ht (by omega) hu hx rfl (λe=>by simp[adr,m1];omega) (a:=b+1) (v:=((g.R+1:Nat):Int)) (by simp[lex,adr,m1,h4]) 0 (g.R+1) (by decide) (by simp[tkL,p3]) ⟨by omega,λe=>by omega,by omega⟩ (.inl hE) (by rw[ag ⟨rfl,by omega⟩];simp) ?_;exact .inr (.inr ⟨rfl,rfl,.inr (.inl ⟨.inr (.inr (.inl rfl)),λe=>by simp at e⟩)⟩)
theorem Dn{b:Int}{n:Nat}(hb:0<=b/\b+3<=4294967296)(hn:0<n/\n<=8):BA (tkP b) b (b+3) n (λ_=>0) (λQ E s=>∃g,g.Q=Q/\g.E=E/\TkI b n g s) where
 flush:=λ⟨g,e1,e2,h⟩ hb=>by
  obtain⟨k,h'⟩:=zA h hb;exact⟨{ g with k:=k },e1,e2,h'⟩
 regs:=λ⟨g,e1,e2,h⟩ ht hc r=>⟨g,e1,e2,Cw h ht hc r⟩
 enter:=λ⟨g,e1,e2,h⟩ ht hc h'=>⟨g,e1,e2,yj h ht hc h'⟩
 leave:=λ{Q E s t} ⟨g,e1,e2,h⟩ ht hc hq=>by
  have h':=As h ht hc hq
  split
  ·rename_i hh
   rw[ag hh]at h';subst e1 e2;exact⟨h'.1,{ g with E:=g.E+1 },rfl,rfl,h'.2⟩
  ·rename_i hh
   rw[af hh]at h';exact⟨g,e1,e2,h'⟩
 exec:=λ⟨g,e1,e2,h⟩ hQ ht hc hI hsw=>by
  subst e1 e2;obtain⟨ha,g',h',hE,hQ'⟩:=CK h hb hn.2 hQ ht hc hI hsw;exact⟨ha,g',hQ',hE,h'⟩
 init:=λ{s} hm hb' hc=>⟨⟨[],0,0,0,0,0⟩,rfl,rfl,by simp[hm b (by omega) (by omega)],⟨.inl rfl,ah _⟩,by decide,by simp,by simp[hm (b+1) (by omega) (by omega)],by simp[hm (b+2) (by omega) (by omega)],λt=>by simp[hb' t,tkL],λh=>absurd h (by decide),hn.1,λt _=>.inl ⟨hc t,λh=>absurd h (by decide)⟩⟩
 frame:=λ{Q E s m} ⟨g,e1,e2,h⟩ hm=>⟨g,e1,e2,(hm b (by omega) (by omega)).trans h.q1,h.re,h.ph,h.hk,(hm (b+1) (by omega) (by omega)).trans h.sv,(hm (b+2) (by omega) (by omega)).trans h.ow,h.bu,h.hu,h.un,λt ht=>by
  have:=h.lc t ht;rw[<-hm (b+1) (by omega) (by omega)]at this
  exact this⟩
end Go.Proofs.YtldlcnaphednnaaGreatDoor
