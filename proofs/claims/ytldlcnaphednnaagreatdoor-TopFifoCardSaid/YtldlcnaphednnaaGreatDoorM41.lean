/- One object's part of a buffer. One object's part of the machine, and flushes. What a step does to the rest of the machine. A thread's calls as its events tell them: where each ends, and at which event it went through its door. How a thread's code is laid out: op by op. One queue in the machine: who went through its door, at which event, and who has come out. -/
import Derived.Test.YtldlcnaphednnaaGreatDoorM40
import Derived.Test.YtldlcnaphednnaaGreatDoorM05
import Derived.Test.YtldlcnaphednnaaGreatDoorM18
set_option maxRecDepth 100000
set_option maxHeartbeats 32000000
set_option linter.unusedVariables false
set_option linter.unusedSimpArgs false
namespace Go.Proofs.YtldlcnaphednnaaGreatDoor
def ju(lo hi:Int)(l:List (Int×Int)):List (Int×Int):=l.filter λe=>decide (lo<=e.1/\e.1<hi)
theorem ry{lo hi:Int}{e:Int×Int}(h:lo<=e.1/\e.1<hi)(l:List (Int×Int)):ju lo hi (e :: l)=e :: ju lo hi l:=by simp[ju,h]
theorem pQ{lo hi:Int}{e:Int×Int}(h:¬(lo<=e.1/\e.1<hi))(l:List (Int×Int)):ju lo hi (e :: l)=ju lo hi l:=by
 unfold ju;rw[List.filter_cons_of_neg (by simpa using h)]
theorem tv(lo hi:Int)(l l':List (Int×Int)):ju lo hi (l++l')=ju lo hi l++ju lo hi l':=List.filter_append ..
theorem qt{lo hi a:Int}(h:lo<=a/\a<hi):∀l:List (Int×Int),aV (ju lo hi l) a=aV l a
 | []=>rfl
 | e :: l=>by
  have ih:=qt h l
  by_cases he:lo<=e.1/\e.1<hi
  ·rw[ry he];simp only[aV,ih]
  ·rw[pQ he,ih]
   have hne:¬e.1=a:=λh'=>he (h'▸h);simp only[aV,af hne]
   cases aV l a<;>rfl
theorem xu{lo hi a:Int}(h:lo<=a/\a<hi)(l:List (Int×Int))(m:Int->Int):bk (ju lo hi l) m a=bk l m a:=by
 unfold bk;rw[qt h]
theorem yK{lo hi:Int}{I:Ins}{q:Nat}{r:Nat->Int}{m:Int->Int}{l:List (Int×Int)}(hA:aJ I.op=true->lo<=adr I r/\adr I r<hi):(lex I ⟨q,r,m,ju lo hi l⟩).q=(lex I ⟨q,r,m,l⟩).q/\(lex I ⟨q,r,m,ju lo hi l⟩).r=(lex I ⟨q,r,m,l⟩).r/\(lex I ⟨q,r,m,ju lo hi l⟩).m=(lex I ⟨q,r,m,l⟩).m/\(lex I ⟨q,r,m,ju lo hi l⟩).b=ju lo hi (lex I ⟨q,r,m,l⟩).b:=by
 unfold lex
 by_cases h16:I.op=16
 ·have:=hA (by simp[aJ,h16])
  simp[h16,xu this]
 by_cases h17:I.op=17
 ·have:=hA (by simp[aJ,h17])
  simp[h17,tv,ry (e:=(adr I r,r I.a.toNat)) this];rfl
 (repeat' split)<;>first|exact⟨rfl,rfl,rfl,rfl⟩|contradiction
theorem CZ{lo hi:Int}{I:Ins}{q:Nat}{r:Nat->Int}{m m':Int->Int}{l:List (Int×Int)}(hA:aJ I.op=true->lo<=adr I r/\adr I r<hi)(hm:∀a,lo<=a->a<hi->m' a=m a):(lex I ⟨q,r,m',l⟩).q=(lex I ⟨q,r,m,l⟩).q/\(lex I ⟨q,r,m',l⟩).r=(lex I ⟨q,r,m,l⟩).r/\(lex I ⟨q,r,m',l⟩).b=(lex I ⟨q,r,m,l⟩).b/\∀a,lo<=a->a<hi->(lex I ⟨q,r,m',l⟩).m a=(lex I ⟨q,r,m,l⟩).m a:=by
 have hu:∀(x v a:Int),lo<=a->a<hi->dg m' x v a=dg m x v a:=λx v a h1 h2=>by
  unfold dg;split
  ·rfl
  ·exact hm a h1 h2
 have hv:aJ I.op=true->m' (adr I r)=m (adr I r)/\bk l m' (adr I r)=bk l m (adr I r):=λh=>by
  have:=hm _ (hA h).1 (hA h).2;refine⟨this,?_⟩;unfold bk
  cases aV l (adr I r) with
  | none=>exact this
  | some v=>rfl
 unfold lex
 by_cases h16:I.op=16
 ·have:=hv (by simp[aJ,h16])
  simp[h16,this];exact hm
 by_cases h19:I.op=19
 ·have:=hv (by simp[aJ,h19])
  simp[h19,this];exact hu _ _
 by_cases h20:I.op=20
 ·have:=hv (by simp[aJ,h20])
  simp[h20,this];exact hu _ _
 by_cases h21:I.op=21
 ·have:=hv (by simp[aJ,h21])
  simp[h21,this]
  split
  ·exact hu _ _
  ·exact hm
 (repeat' split)<;>first|exact⟨rfl,rfl,rfl,hm⟩|contradiction
structure On(lo hi:Int)(M:Mac)(s:LS):Prop where
 m:∀a,lo<=a->a<hi->s.m a=db M a
 b:∀t,s.b t=ju lo hi (bn M t)
theorem Af{P:Nat->Nat->List Ins}{lo hi:Int}{n:Nat}{F:Int->Int}{X:List Nat->Nat->LS->Prop}(hF:BA P lo hi n F X)(h0:0<=lo){M:Mac}(hM:MOk M){Q:List Nat}{E:Nat}{s:LS}(hO:On lo hi M s)(hX:X Q E s)(t:Nat):∃s',s'.th=s.th/\On lo hi (bD M t) s'/\X Q E s':=by
 cases hb:bn M t with
 | nil=>rw[qT hM hb];exact⟨s,rfl,hO,hX⟩
 | cons e l=>
  obtain⟨a,v⟩:=e;have hf:=oW hM hb
  have hown:bn (bD M t) t=l:=by
   have:=hf.own;rw[hb]at this;cases this;rfl
  by_cases hr:lo<=a/\a<hi
  ·have hs:s.b t=(a,v) :: ju lo hi l:=by rw[hO.b t,hb,ry (e:=(a,v)) hr]
   refine⟨{ s with m:=dg s.m a v,b:=bU s.b t (ju lo hi l) },rfl,⟨λb h1 h2=>?_,λu=>?_⟩,hF.flush hX hs⟩
   ·rw[hf.mem b (by omega)]
    show(if b=a then v else s.m b)=_;rw[hO.m b h1 h2]
   ·show(if u=t then ju lo hi l else s.b u)=_
    split
    ·rename_i e;rw[e,hown]
    ·rename_i e;rw[hf.oth u e];exact hO.b u
  ·refine⟨s,rfl,⟨λb h1 h2=>?_,λu=>?_⟩,hX⟩
   ·rw[hf.mem b (by omega),af (λe=>hr (by rw[<-e];exact⟨h1,h2⟩))]
    exact hO.m b h1 h2
   ·by_cases e:u=t
    ·rw[e,hown,hO.b t,hb,pQ (e:=(a,v)) hr]
    ·rw[hf.oth u e];exact hO.b u
def trL(l:List Th)(u:Nat):Option (Int×(Nat->Int)):=l[u]?.map λT=>(T.pc,T.regs)
def tr(M:Mac)(u:Nat):Option (Int×(Nat->Int)):=trL M.threads u
theorem sI(l:List Th)(i:Nat)(s:Int)(u:Nat):trL (kY l i s) u=trL l u:=by
 unfold kY trL
 split
 ·rename_i x hx
  by_cases e:u=i
  ·subst e
   rw[List.getElem?_set_self (aj.1 hx).1,hx];rfl
  ·rw[List.getElem?_set_ne (λh=>e h.symm)]
 ·rfl
theorem Ad(o:List Int)(u:Nat):∀l:List Th,trL (mO l o) u=trL l u:=by
 induction o with
 | nil=>intro l;rfl
 | cons x o ih=>intro l;exact(ih _).trans (sI _ _ _ _)
theorem rD(M:Mac){ti:Nat}(hi:ti<M.threads.length)(T:Th)(u:Nat):tr (fd M ti T) u=if u=ti then some (T.pc,T.regs) else tr M u:=by
 unfold tr trL fd
 by_cases e:u=ti
 ·subst e;rw[ag rfl];simp only;rw[List.getElem?_set_self hi];rfl
 ·rw[af e];simp only;rw[List.getElem?_set_ne (λh=>e h.symm)]
structure Eff(M M':Mac)(A:Int):Prop where
 m:∀b,0<=b->b≠A->db M' b=db M b
 b:∀s,bn M' s=bn M s\/∃v,bn M' s=bn M s++[(A,v)]
 t:∀u,tr M' u=tr M u
theorem Eff.same{M M':Mac}(A:Int)(h1:M'.mem=M.mem)(h2:M'.bufs=M.bufs)(h3:∀u,tr M' u=tr M u):Eff M M' A:=⟨λb _ _=>by unfold db;rw[h1],λs=>.inl (by unfold bn;rw[h2]),h3⟩
def EvL(ti:Nat)(sw:Bool)(A:Int)(l:List Evt):Prop:=if sw=true then ∃e,l=[e]/\e.kind=4/\e.addr=A/\e.who=ti else ∀e∈l,e.kind≠4/\e.kind≠7
structure StE(M:Mac)(ti:Nat)(sw:Bool)(A:Int)(X:Mac):Prop where
 ef:Eff M X A
 ev:∃l,X.evs=M.evs++l/\EvL ti sw A l
theorem lw{M X:Mac}{ti:Nat}{sw:Bool}{A:Int}(hs:sw=false)(h:Eff M X A)(he:X.evs=M.evs):StE M ti sw A X:=⟨h,[],by rw[he,List.append_nil],by subst hs;intro e h;cases h⟩
theorem jf{M Y:Mac}{ti:Nat}{sw:Bool}{A:Int}(h:Eff M Y A)(he:Y.evs=M.evs)(T:Th)(x:Evt)(hx:(sw=true/\x.kind=4)\/(sw=false/\x.kind≠4/\x.kind≠7)):StE M ti sw A (bK Y ti T A x):=⟨⟨h.m,h.b,h.t⟩,[_],by simp only[bK];rw[he],by
 unfold EvL;rcases hx with⟨rfl,hx⟩|⟨rfl,hx⟩
 ·exact⟨_,rfl,hx,rfl,rfl⟩
 ·intro e h;rw[List.mem_singleton]at h;subst h;exact hx⟩
theorem mq{M:Mac}(hM:MOk M){ti:Nat}{T:Th}{a:Nat}{A old v:Int}(hA:0<=A/\A<M.mem.length)(ok:Bool):StE M ti true A (bz M ti T a A old v ok).1:=by
 unfold bz
 cases ok with
 | true=>exact jf (M:=M) (Y:=uh M A v) ⟨λb hb hn=>by rw[mV hA hb];exact af hn,λs=>.inl rfl,λu=>rfl⟩ rfl T (ev 4 v old 0 true) (.inl ⟨rfl,rfl⟩)
 | false=>exact jf (M:=M) (Y:=M) (Eff.same _ rfl rfl λu=>rfl) rfl T (ev 4 old old 0 false) (.inl ⟨rfl,rfl⟩)
theorem ER{M:Mac}(hM:MOk M){ti:Nat}(hi:ti<M.threads.length)(T:Th)(I:Ins){A:Int}(hA:0<=A/\A<M.mem.length)(hf:I.op=17->eu M ti=false):StE M ti (swB I.op) A (cR M ti T I A).1/\(cR M ti T I A).2.pc=T.pc:=by
 unfold cR
 split
 ·rename_i e
  exact⟨jf (Eff.same _ rfl rfl λu=>rfl) rfl _ _ (.inr ⟨by rw[e];rfl,by simp[ev],by simp[ev]⟩),rfl⟩
 split
 ·rename_i e
  refine⟨jf ⟨λb _ _=>?_,λs=>?_,λu=>?_⟩ ?_ _ _ (.inr ⟨by rw[e];rfl,by simp[ev],by simp[ev]⟩),rfl⟩
  ·unfold fj db;split<;>rfl
  ·rw[pP hM _ _ (hf e)]
   by_cases h:s=ti
   ·subst h;rw[ag rfl];exact .inr ⟨_,rfl⟩
   ·rw[af h];exact .inl rfl
  ·unfold fj tr;split<;>rfl
  ·unfold fj;split<;>rfl
 split
 ·rename_i e;rw[show swB I.op=true by rw[e];decide];exact⟨mq hM hA _,rfl⟩
 split
 ·rename_i e;rw[show swB I.op=true by rw[e];decide];exact⟨mq hM hA _,rfl⟩
 split
 ·rename_i e;rw[show swB I.op=true by rw[e];decide];exact⟨mq hM hA _,rfl⟩
 split
 ·rename_i e
  have hx:swB I.op=false:=by rw[e];decide
  unfold me
  split
  ·exact⟨jf (M:=M) (Y:=xd M ti A) (Eff.same _ rfl rfl λu=>rfl) rfl T (ev 8 (fo M ti A) 0 0 true) (.inr ⟨hx,by simp[ev],by simp[ev]⟩),rfl⟩
  ·exact⟨jf (Eff.same _ rfl rfl λu=>rfl) rfl _ _ (.inr ⟨hx,by simp[ev],by simp[ev]⟩),rfl⟩
 split
 ·rename_i e
  exact⟨jf (M:=M) (Y:=og M A (T.regs I.a.toNat)) (Eff.same _ rfl rfl λu=>Ad _ _ _) rfl T (ev 9 (jF M A (T.regs I.a.toNat)) 0 0 false) (.inr ⟨by rw[e];rfl,by simp[ev],by simp[ev]⟩),rfl⟩
 ·exact⟨lw (by simp[swB];omega) (Eff.same _ rfl rfl λu=>rfl) rfl,rfl⟩
theorem Cb{M:Mac}{ti:Nat}(T:Th){I:Ins}(A A':Int)(h25:I.op≠25)(h27:I.op≠27):StE M ti false A (cJ M ti T I A').1/\(cJ M ti T I A').2.pc=T.pc:=by
 have h0:StE M ti false A M:=lw rfl (Eff.same _ rfl rfl λu=>rfl) rfl
 have h1:∀x:Evt,x.kind≠4/\x.kind≠7->StE M ti false A (bK M ti T A' x):=λx hx=>⟨Eff.same _ rfl rfl λu=>rfl,[_],rfl,λe h=>by rw[List.mem_singleton]at h;subst h;exact hx⟩
 unfold cJ
 split
 ·exact⟨h0,rfl⟩
 split
 ·exact⟨h0,rfl⟩
 split
 ·exact⟨h1 _ ⟨by simp[ev],by simp[ev]⟩,rfl⟩
 split
 ·exact⟨h1 _ ⟨by simp[ev],by simp[ev]⟩,rfl⟩
 split
 ·exact⟨h0,rfl⟩
 ·exact⟨h0,rfl⟩
theorem DP{M:Mac}(ti:Nat)(T:Th)(A k s:Int)(hk:k≠4/\k≠7):StE M ti false A (lU M ti T k s).1/\(lU M ti T k s).2.pc=T.pc/\(lU M ti T k s).2.regs=T.regs:=⟨⟨Eff.same _ rfl rfl λu=>rfl,[_],rfl,λe h=>by rw[List.mem_singleton]at h;subst h;exact hk⟩,rfl,rfl⟩
theorem wQ{op:Int}(h:aJ op=false):swB op=false:=by
 cases e:swB op with
 | false=>rfl
 | true=>simp[swB]at e;simp[aJ]at h;omega
theorem zE{M:Mac}(hM:MOk M){ti:Nat}(hi:ti<M.threads.length)(T:Th){I:Ins}{A:Int}(h25:I.op≠25)(h27:I.op≠27)(hA:aJ I.op=true->0<=A/\A<M.mem.length)(hn:¬((fO I.op=true/\fH M ti≠0)\/(I.op=17/\eu M ti=true)))(A':Int)(hA':aJ I.op=true->A'=A):
  StE M ti (swB I.op) A' (gn M ti T I A).1/\((gn M ti T I A).2.pc=T.pc+1\/(bt I.op=true/\(gn M ti T I A).2.pc=I.k)\/(I.op=0/\(gn M ti T I A).2.pc=T.pc/\(gn M ti T I A).2.regs=T.regs)):=by
 have h0:StE M ti false A' M:=lw rfl (Eff.same _ rfl rfl λu=>rfl) rfl;unfold gn;rw[af hn]
 split
 ·rename_i e
  obtain⟨h1,h2,h3⟩:=DP (M:=M) ti T A' 12 2 (by decide);rw[show swB I.op=false by rw[e];decide];exact⟨h1,.inr (.inr ⟨e,h2,h3⟩)⟩
 split
 ·rename_i e
  rw[wQ (by simp[bt]at e;rcases e with e|e|e<;>rw[e]<;>rfl)]
  split
  ·exact⟨h0,.inr (.inl ⟨e,rfl⟩)⟩
  ·exact⟨h0,.inl rfl⟩
 split
 ·rename_i e
  obtain⟨h1,h2⟩:=ER hM hi T I (hA e) (λe=>by
   cases hf:eu M ti with
   | false=>rfl
   | true=>exact absurd (.inr ⟨e,hf⟩) hn)
  rw[hA' e];exact⟨h1,.inl (by show(cR M ti T I A).2.pc+1=_;rw[h2])⟩
 ·rename_i e
  obtain⟨h1,h2⟩:=Cb (M:=M) (ti:=ti) T (I:=I) A' A h25 h27;rw[wQ (by simpa using e)];exact⟨h1,.inl (by show(cJ M ti T I A).2.pc+1=_;rw[h2])⟩
theorem On.eff{lo hi:Int}{M M':Mac}{A:Int}{s:LS}(h:On lo hi M s)(h0:0<=lo)(e:Eff M M' A)(hA:¬(lo<=A/\A<hi)):On lo hi M' s:=⟨λa h1 h2=>by
 rw[h.m a h1 h2,e.m a (by omega) (λh=>hA (by rw[<-h];exact⟨h1,h2⟩))],λt=>by
 rw[h.b t];rcases e.b t with h1|⟨v,h1⟩
 ·rw[h1]
 ·rw[h1,tv,pQ (e:=(A,v)) hA];simp[ju]⟩
structure K8 where
 site:Int
 fin:Int
 door:Int
def kgS(b:Int->Int)(t:Int)(i:Nat)(x:Evt)(S:List K8×Bool):List K8×Bool:=
 if x.who=t then
  if x.kind=7 then
   if x.k%2=0 then(S.1++[⟨x.k / 2,-1,-1⟩],true)
   else match S.1.getLast? with
    | some c=>if S.2=true/\c.site=x.k / 2 then(S.1.dropLast++[{ c with fin:=i }],false) else S
    | none=>S
  else if x.kind=4/\S.2=true then
   match S.1.getLast? with
    | some c=>if x.addr=b c.site/\c.door<0 then(S.1.dropLast++[{ c with door:=i }],true) else S
    | none=>S
  else S
 else S
def kgF(b:Int->Int)(t:Nat)(l:List Evt):List K8×Bool:=l.zipIdx.foldl (λS x=>kgS b t x.2 x.1 S) ([],false)
theorem js(b:Int->Int)(t:Nat)(l:List Evt)(x:Evt):kgF b t (l++[x])=kgS b t l.length x (kgF b t l):=by
 unfold kgF;rw[List.zipIdx_append,List.foldl_append,Nat.zero_add];rfl
theorem nu{b:Int->Int}{t:Int}{i:Nat}{x:Evt}{S:List K8×Bool}(h:x.who≠t\/(x.kind≠4/\x.kind≠7)):kgS b t i x S=S:=by
 unfold kgS;rcases h with h|⟨h1,h2⟩
 ·rw[af h]
 ·by_cases hw:x.who=t<;>simp[hw,h1,h2]
theorem kb{b:Int->Int}{t:Nat}{l:List Evt}:∀{l':List Evt},(∀x∈l',x.who≠t\/(x.kind≠4/\x.kind≠7))->kgF b t (l++l')=kgF b t l:=λ{l'}=>by
 induction l' generalizing l with
 | nil=>intro _;rw[List.append_nil]
 | cons x l' ih=>
  intro h;rw[show l++x :: l'=(l++[x])++l' by simp,ih (λy hy=>h y (List.mem_cons_of_mem _ hy)),js,nu (h x (List.mem_cons_self ..))]
theorem AN{b:Int->Int}{t:Int}{i:Nat}{x:Evt}{S:List K8×Bool}(h1:x.who=t)(h2:x.kind=7)(h3:x.k%2=0):kgS b t i x S=(S.1++[⟨x.k / 2,-1,-1⟩],true):=by
 unfold kgS;rw[ag h1,ag h2,ag h3]
theorem yq{b:Int->Int}{t:Int}{i:Nat}{x:Evt}{l:List K8}{c:K8}(h1:x.who=t)(h2:x.kind=7)(h3:¬x.k%2=0)(h4:c.site=x.k / 2):kgS b t i x (l++[c],true)=(l++[{ c with fin:=i }],false):=by
 unfold kgS;rw[ag h1,ag h2,af h3];simp only[List.getLast?_concat,List.dropLast_concat,h4,and_self,if_true]
theorem Av{b:Int->Int}{t:Int}{i:Nat}{x:Evt}{l:List K8}{c:K8}(h2:x.kind=4):kgS b t i x (l++[c],true)=(l++[if x.who=t/\x.addr=b c.site/\c.door<0 then { c with door:=i } else c],true):=by
 unfold kgS
 have h7:¬x.kind=7:=by omega
 simp only[List.getLast?_concat,List.dropLast_concat,h2,h7,and_self,if_true,if_false,and_true]
 by_cases h1:x.who=t
 ·by_cases h:x.addr=b c.site/\c.door<0
  ·simp[h1,h]
  ·simp[h1,h]
 ·simp[h1]
theorem Bs{b:Int->Int}{t:Int}{i:Nat}{x:Evt}{l:List K8}(h2:x.kind≠7):kgS b t i x (l,false)=(l,false):=by
 unfold kgS;simp[h2]
def tn(C:Cl)(t:Nat):Int:=(bc C t).2
def ei(C:Cl)(t n:Nat):List Ins:=(g5 C t (C.op t) ([],tn C t) n).1
def cZ(C:Cl)(t n:Nat):Int:=(g5 C t (C.op t) ([],tn C t) n).2
def plI(x:X):Ins:=if x.k=1 then⟨1,x.a,0,0,x.K⟩ else if x.k=2 then⟨3,x.a,x.a,x.b,0⟩ else if x.k=3 then⟨16,x.a,8,0,x.b%4294967296⟩ else if x.k=4 then⟨17,x.a,8,0,x.b%4294967296⟩ else if x.k=5 then⟨22,x.a,0,0,0⟩ else⟨22,7,0,0,0⟩
def mH(C:Cl)(t n:Nat):List Ins:=if(C.op t n).k=7 then jp (2 * cZ C t n) :: (dc (lu C t (C.op t n)).1 ((ei C t n).length+1:Nat)++[jp (2 * cZ C t n+1)]) else[plI (C.op t n)]
def OpK(x:X):Prop:=x.k=1\/x.k=2\/x.k=3\/x.k=4\/x.k=5\/x.k=6\/x.k=7
theorem Gm{C:Cl}{x:X}(h:rgt C x=true):OpK x:=by
 unfold rgt at h;unfold OpK
 by_cases h1:x.k=1\/x.k=2\/x.k=3\/x.k=4\/x.k=5\/x.k=6\/x.k=7
 ·exact h1
 ·exfalso
  simp only[not_or]at h1;obtain⟨a1,a2,a3,a4,a5,a6,a7⟩:=h1;simp[a1,a2,a3,a4,a5,a6,a7]at h
theorem mC{C:Cl}{t n:Nat}(h:OpK (C.op t n)):ei C t (n+1)=ei C t n++mH C t n/\cZ C t (n+1)=cZ C t n+(if(C.op t n).k=7 then 1 else 0):=by
 have e:ei C t (n+1)=(opF C t (cZ C t n) (ei C t n) (C.op t n)).1/\cZ C t (n+1)=(opF C t (cZ C t n) (ei C t n) (C.op t n)).2:=⟨rfl,rfl⟩;rw[e.1,e.2];unfold mH plI;rcases h with h|h|h|h|h|h|h
 ·rw[vA h];simp[h]
 ·rw[vB h];simp[h]
 ·rw[vQ h];simp[h]
 ·rw[vZ h];simp[h]
 ·rw[wM h];simp[h]
 ·rw[vt h];simp[h]
 ·rw[vu h];simp[h,nX]
theorem nD{C:Cl}{t:Nat}(h:∀i,i<C.len t->OpK (C.op t i)){n:Nat}:∀m,n+m<=C.len t->ei C t n <+: ei C t (n+m)
 | 0,_=>List.prefix_refl _
 | m+1,hm=>by
  have ih:=nD h m (by omega:n+m<=C.len t);rw[<-Nat.add_assoc,(mC (h (n+m) (by omega))).1];exact ih.trans (List.prefix_append _ _)
theorem wZ{C:Cl}{t:Nat}(h:∀i,i<C.len t->OpK (C.op t i)){n q:Nat}(hn:n<C.len t)(hq:q<(mH C t n).length):(ei C t (C.len t))[(ei C t n).length+q]? = (mH C t n)[q]? := by
 have h1:=nD h (n:=n+1) (C.len t - (n+1)) (by omega);rw[show n+1+(C.len t - (n+1))=C.len t by omega,(mC (h n hn)).1]at h1;obtain⟨l,hl⟩:=h1
 rw[<-hl,List.getElem?_append_left (by simp<;>omega),List.getElem?_append_right (by omega),Nat.add_sub_cancel_left]
theorem iu(C:Cl):∀(m t:Nat),t<m->(bc C m).1[t]? = some (ei C t (C.len t))/\(bc C m).1.length=m
 | 0,t,h=>absurd h (by omega)
 | m+1,t,h=>by
  have hl:(bc C m).1.length=m:=by
   cases m with
   | zero=>rfl
   | succ m=>exact(iu C (m+1) 0 (by omega)).2
  refine⟨?_,by simp[bc,hl]⟩;simp only[bc]
  by_cases e:t<m
  ·rw[List.getElem?_append_left (by omega)];exact(iu C m t e).1
  ·obtain rfl:t=m:=by omega
   rw[List.getElem?_append_right (by omega),hl,Nat.sub_self];rfl
theorem zc{C:Cl}{t:Nat}(h:t<C.nt):(de C)[t]? = some (ei C t (C.len t)):=(iu C C.nt t h).1
theorem uj(C:Cl)(t n:Nat):0<(mH C t n).length:=by
 unfold mH;split<;>simp
structure QO where
 P:Nat->Nat->List Ins
 hi:Int
 F:Int->Int
 X:List Nat->Nat->LS->Prop
structure DE where
 who:Nat
 door:Int
 fin:Int
def inQ(C:Cl)(j t:Nat)(p:Nat×Nat):Nat:=if p.1<C.len t/\(C.op t p.1).k=7/\(C.op t p.1).a=j/\1<=p.2 then(C.op t p.1).b.toNat else 0
def acq(C:Cl)(j t:Nat)(s:Int):Prop:=∃n,n<C.len t/\(C.op t n).k=7/\(C.op t n).a=j/\(C.op t n).b=1/\s=cZ C t n
def bs(C:Cl)(j:Nat):Int:=(bsP C.f C.nt j:Nat)
structure OI(C:Cl)(j:Nat)(o:QO)(M:Mac)(R:Nat->Nat->Int)(pl:Nat->Nat×Nat)(G:Nat->List K8×Bool)(N:Nat)(D:List DE)(E:Nat)(s:LS):Prop where
 X:o.X (D.map DE.who) E s
 on:On (bs C j) o.hi M s
 el:E<=D.length
 r:∀t,t<C.nt->(s.th t).r=R t
 c:∀t,t<C.nt->(s.th t).c=inQ C j t (pl t)
 q:∀t,t<C.nt->(s.th t).c≠0->(s.th t).q+1=(pl t).2
 dp:∀(p:Nat) x,D[p]? = some x->(p:Int)<=x.door/\x.door<N
 ds:∀(p p':Nat) x x',p<p'->D[p]? = some x->D[p']? = some x'->x.door<x'.door
 en:∀(p:Nat) x,D[p]? = some x->(p<E->0<=x.fin/\x.fin<N)/\(E<=p->x.fin=-1)
 es:∀(p p':Nat) x x',p<p'->p'<E->D[p]? = some x->D[p']? = some x'->x.fin<x'.fin
 op:∀(p:Nat) x,E<=p->D[p]? = some x->x.who<C.nt/\(s.th x.who).c=1/\(s.th x.who).d=true/\∃c,(G x.who).1.getLast? = some c/\c.door=x.door
 dd:∀t,t<C.nt->(s.th t).c=1->∃c,(G t).1.getLast? = some c/\((s.th t).d=true↔0<=c.door)
 al:∀t,t<C.nt->∀c∈(G t).1,acq C j t c.site->0<=c.door->⟨t,c.door,c.fin⟩∈D
theorem OI.len{C:Cl}{j:Nat}{o:QO}{M:Mac}{R:Nat->Nat->Int}{pl:Nat->Nat×Nat}{G:Nat->List K8×Bool}{N:Nat}{D:List DE}{E:Nat}{s:LS}(h:OI C j o M R pl G N D E s):D.length<=N:=by
 by_cases e:D.length=0
 ·omega
 ·have:=h.dp (D.length - 1) _ (aq (by omega))
  omega
theorem OI.to{C:Cl}{j:Nat}{o:QO}{M M':Mac}{R R':Nat->Nat->Int}{pl:Nat->Nat×Nat}{G G':Nat->List K8×Bool}{N N':Nat}{D:List DE}{E:Nat}{s s':LS}(h:OI C j o M R pl G N D E s)(hN:N<=N')(hX:o.X (D.map DE.who) E s')(hs:s'.th=s.th)(ho:On (bs C j) o.hi M' s')(hR:∀t,t<C.nt->R' t=R t)(hG:∀t,t<C.nt->G' t=G t):OI C j o M' R' pl G' N' D E s' where
 X:=hX
 on:=ho
 el:=h.el
 r:=λt ht=>by rw[hs,hR t ht];exact h.r t ht
 c:=λt ht=>by rw[hs];exact h.c t ht
 q:=λt ht=>by rw[hs];exact h.q t ht
 dp:=λp x hx=>by have:=h.dp p x hx;omega
 ds:=h.ds
 en:=λp x hx=>⟨λe=>by have:=(h.en p x hx).1 e;omega,(h.en p x hx).2⟩
 es:=h.es
 op:=λp x hp hx=>by
  obtain⟨h1,h2⟩:=h.op p x hp hx;rw[hs,hG _ h1];exact⟨h1,h2⟩
 dd:=λt ht=>by rw[hs,hG t ht];exact h.dd t ht
 al:=λt ht=>by rw[hG t ht];exact h.al t ht
theorem OI.same{C:Cl}{j:Nat}{o:QO}{M M':Mac}{R R':Nat->Nat->Int}{pl pl':Nat->Nat×Nat}{G G':Nat->List K8×Bool}{N N':Nat}{D:List DE}{E:Nat}{s s':LS}(h:OI C j o M R pl G N D E s){t:Nat}(ht:t<C.nt)(hN:N<=N')(hX:o.X (D.map DE.who) E s')(ho:On (bs C j) o.hi M' s')
  (hs:∀u,u≠t->s'.th u=s.th u) (hR:∀u,u≠t->R' u=R u) (hp:∀u,u≠t->pl' u=pl u) (hG:∀u,u≠t->G' u=G u)
  (r':(s'.th t).r=R' t) (c':(s'.th t).c=inQ C j t (pl' t)) (q':(s'.th t).c≠0->(s'.th t).q+1=(pl' t).2)
  (hk:∀c∈(G' t).1,acq C j t c.site->0<=c.door->c∈(G t).1)
  (hd:(s.th t).c=1->(s.th t).d=true->(s'.th t).c=1/\(s'.th t).d=true/\(G' t).1.getLast? = (G t).1.getLast?)
  (hd':(s'.th t).c=1->∃c,(G' t).1.getLast? = some c/\((s'.th t).d=true↔0<=c.door)):OI C j o M' R' pl' G' N' D E s' where
 X:=hX
 on:=ho
 el:=h.el
 r:=λu hu=>by
  by_cases e:u=t
  ·subst e;exact r'
  ·rw[hs u e,hR u e];exact h.r u hu
 c:=λu hu=>by
  by_cases e:u=t
  ·subst e;exact c'
  ·rw[hs u e,hp u e];exact h.c u hu
 q:=λu hu=>by
  by_cases e:u=t
  ·subst e;exact q'
  ·rw[hs u e,hp u e];exact h.q u hu
 dp:=λp x hx=>by have:=h.dp p x hx;omega
 ds:=h.ds
 en:=λp x hx=>⟨λe=>by have:=(h.en p x hx).1 e;omega,(h.en p x hx).2⟩
 es:=h.es
 op:=λp x hp hx=>by
  obtain⟨h1,h2,h3,c,h4,h5⟩:=h.op p x hp hx
  by_cases e:x.who=t
  ·obtain⟨a1,a2,a3⟩:=hd (e▸h2) (e▸h3)
   rw[e]at h4 ⊢;exact⟨ht,a1,a2,c,a3.trans h4,h5⟩
  ·rw[hs _ e,hG _ e];exact⟨h1,h2,h3,c,h4,h5⟩
 dd:=λu hu=>by
  by_cases e:u=t
  ·subst e;exact hd'
  ·rw[hs u e,hG u e];exact h.dd u hu
 al:=λu hu=>by
  by_cases e:u=t
  ·subst e;intro c hc ha h0;exact h.al u hu c (hk c hc ha h0) ha h0
  ·rw[hG u e];exact h.al u hu
theorem OI.door{C:Cl}{j:Nat}{o:QO}{M M':Mac}{R R':Nat->Nat->Int}{pl pl':Nat->Nat×Nat}{G G':Nat->List K8×Bool}{N N':Nat}{D:List DE}{E:Nat}{s s':LS}(h:OI C j o M R pl G N D E s){t:Nat}(ht:t<C.nt)(hN:N<N')(hX:o.X (D.map DE.who++[t]) E s')(ho:On (bs C j) o.hi M' s')
  (hs:∀u,u≠t->s'.th u=s.th u) (hR:∀u,u≠t->R' u=R u) (hp:∀u,u≠t->pl' u=pl u) (hG:∀u,u≠t->G' u=G u)
  (r':(s'.th t).r=R' t) (c':(s'.th t).c=inQ C j t (pl' t)) (q':(s'.th t).c≠0->(s'.th t).q+1=(pl' t).2)
  (hd:(s.th t).d=false) (c1:(s'.th t).c=1) (d1:(s'.th t).d=true) {l:List K8} {c:K8} (g0:(G t).1=l++[c]) (g1:(G' t).1=l++[{ c with door:=N }]) (hf:c.fin=-1):OI C j o M' R' pl' G' N' (D++[⟨t,N,-1⟩]) E s' where
 X:=by rw[List.map_append];exact hX
 on:=ho
 el:=by have:=h.el;simp<;>omega
 r:=λu hu=>by
  by_cases e:u=t
  ·subst e;exact r'
  ·rw[hs u e,hR u e];exact h.r u hu
 c:=λu hu=>by
  by_cases e:u=t
  ·subst e;exact c'
  ·rw[hs u e,hp u e];exact h.c u hu
 q:=λu hu=>by
  by_cases e:u=t
  ·subst e;exact q'
  ·rw[hs u e,hp u e];exact h.q u hu
 dp:=λp x hx=>by
  rw[List.getElem?_append]at hx
  split at hx
  ·have:=h.dp p x hx;omega
  ·rename_i hp
   have:=h.len
   have hp':p - D.length=0:=by
    by_cases e:p - D.length=0
    ·exact e
    ·rw[List.getElem?_eq_none (by simp<;>omega)]at hx;cases hx
   rw[hp']at hx;cases hx;simp only;omega
 ds:=λp p' x x' hlt hx hx'=>by
  have hp':p'<(D++[(⟨t,N,-1⟩:DE)]).length:=(aj.1 hx').1;simp only[List.length_append,List.length_singleton]at hp';rw[List.getElem?_append_left (by omega)]at hx;rw[List.getElem?_append]at hx'
  split at hx'
  ·exact h.ds p p' x x' hlt hx hx'
  ·rw[show p' - D.length=0 by omega]at hx';cases hx'
   exact(h.dp p x hx).2
 en:=λp x hx=>by
  rw[List.getElem?_append]at hx;have:=h.el
  split at hx
  ·exact⟨λe=>by have:=(h.en p x hx).1 e;omega,(h.en p x hx).2⟩
  ·rename_i hp
   have hp':p - D.length=0:=by
    by_cases e:p - D.length=0
    ·exact e
    ·rw[List.getElem?_eq_none (by simp<;>omega)]at hx;cases hx
   rw[hp']at hx;cases hx;exact⟨λe=>by omega,λ_=>rfl⟩
 es:=λp p' x x' hlt hE hx hx'=>by
  have:=h.el;rw[List.getElem?_append_left (by omega)]at hx hx';exact h.es p p' x x' hlt hE hx hx'
 op:=λp x hp hx=>by
  rw[List.getElem?_append]at hx
  split at hx
  ·obtain⟨h1,h2,h3,c,h4,h5⟩:=h.op p x hp hx
   have e:x.who≠t:=λe=>by rw[e,hd]at h3;cases h3
   rw[hs _ e,hG _ e];exact⟨h1,h2,h3,c,h4,h5⟩
  ·rename_i hp
   have hp':p - D.length=0:=by
    by_cases e:p - D.length=0
    ·exact e
    ·rw[List.getElem?_eq_none (by simp<;>omega)]at hx;cases hx
   rw[hp']at hx;cases hx;exact⟨ht,c1,d1,{ c with door:=N },by simp only[g1,List.getLast?_concat],rfl⟩
 dd:=λu hu=>by
  by_cases e:u=t
  ·subst e;intro _;exact⟨_,by rw[g1,List.getLast?_concat],by simp[d1]⟩
  ·rw[hs u e,hG u e];exact h.dd u hu
 al:=λu hu=>by
  by_cases e:u=t
  ·subst e
   intro c2 hc ha h0;rw[g1]at hc;rcases List.mem_append.1 hc with h1|h1
   ·exact List.mem_append_left _ (h.al u hu c2 (by rw[g0];exact List.mem_append_left _ h1) ha h0)
   ·rw[List.mem_singleton]at h1;subst h1
    exact List.mem_append_right _ (by simp[hf])
  ·rw[hG u e];intro c2 hc ha h0;exact List.mem_append_left _ (h.al u hu c2 hc ha h0)
theorem AL{α:Type}{l:List α}{i:Nat}{a:α}(h:l[i]? = some a):l.set i a=l:=by
 apply List.ext_getElem?;intro k
 by_cases e:k=i
 ·subst e;rw[List.getElem?_set_self (aj.1 h).1,h]
 ·rw[List.getElem?_set_ne (λh=>e h.symm)]
theorem OI.leave{C:Cl}{j:Nat}{o:QO}{M M':Mac}{R R':Nat->Nat->Int}{pl pl':Nat->Nat×Nat}{G G':Nat->List K8×Bool}{N N':Nat}{D:List DE}{E:Nat}{s s':LS}(h:OI C j o M R pl G N D E s){t:Nat}(ht:t<C.nt)(hN:N<N')(hX:o.X (D.map DE.who) (E+1) s')(ho:On (bs C j) o.hi M' s')(hQ:(D.map DE.who)[E]? = some t)
  (hs:∀u,u≠t->s'.th u=s.th u) (hR:∀u,u≠t->R' u=R u) (hp:∀u,u≠t->pl' u=pl u) (hG:∀u,u≠t->G' u=G u)
  (r':(s'.th t).r=R' t) (c':(s'.th t).c=inQ C j t (pl' t)) (c0:(s'.th t).c=0) {l:List K8} {c:K8} (g0:(G t).1=l++[c]) (g1:(G' t).1=l++[{ c with fin:=N }]) (hl:∀x∈l,0<=x.fin) (hf:c.fin=-1):∃D',OI C j o M' R' pl' G' N' D' (E+1) s':=by
 obtain⟨x,hx,hw⟩:∃x,D[E]? = some x/\x.who=t:=by
  rw[List.getElem?_map]at hQ
  cases e:D[E]? with
  | none=>rw[e]at hQ;cases hQ
  | some x=>rw[e]at hQ;exact⟨x,rfl,by simpa using hQ⟩
 have hE:=(aj.1 hx).1;obtain⟨_,_,_,c1,hc1,hc2⟩:=h.op E x (ah _) hx;rw[hw,g0,List.getLast?_concat]at hc1;cases hc1
 have hat:∀p y,(D.set E { x with fin:=N })[p]? = some y->(p=E/\y={ x with fin:=N })\/(p≠E/\D[p]? = some y):=λp y hy=>by
  by_cases e:p=E
  ·subst e;rw[List.getElem?_set_self hE]at hy;cases hy;exact .inl ⟨rfl,rfl⟩
  ·rw[List.getElem?_set_ne (λh=>e h.symm)]at hy;exact .inr ⟨e,hy⟩
 have hxd:=h.dp E x hx
 have hin:∀y:DE,y∈D->y.fin≠-1\/y.who≠t->y∈D.set E { x with fin:=N }:=λy hy hn=>by
  obtain⟨p,hp⟩:=List.getElem?_of_mem hy
  have e:p≠E:=λe=>by
   subst e;rw[hx]at hp;cases hp;rcases hn with hn|hn
   ·exact hn ((h.en p x hx).2 (ah _))
   ·exact hn hw
  refine aC (i:=p) ?_;rw[List.getElem?_set_ne (λh=>e h.symm)];exact hp
 refine⟨D.set E { x with fin:=N },?_⟩
 exact {
  X:=by
   rw[List.map_set,AL (by rw[List.getElem?_map,hx];rfl)];exact hX
  on:=ho
  el:=by rw[List.length_set];exact hE
  r:=λu hu=>by
   by_cases e:u=t
   ·subst e;exact r'
   ·rw[hs u e,hR u e];exact h.r u hu
  c:=λu hu=>by
   by_cases e:u=t
   ·subst e;exact c'
   ·rw[hs u e,hp u e];exact h.c u hu
  q:=λu hu=>by
   by_cases e:u=t
   ·subst e;intro hh;exact absurd c0 hh
   ·rw[hs u e,hp u e];exact h.q u hu
  dp:=λp y hy=>by
   rcases hat p y hy with⟨e,rfl⟩|⟨_,h1⟩
   ·simp only;omega
   ·have:=h.dp p y h1;omega
  ds:=λp p' y y' hlt hy hy'=>by
   rcases hat p y hy with⟨e,rfl⟩|⟨_,h1⟩<;>rcases hat p' y' hy' with⟨e',rfl⟩|⟨_,h1'⟩
   ·omega
   ·exact h.ds p p' x y' hlt (e▸hx) h1'
   ·exact h.ds p p' y x hlt h1 (e'▸hx)
   ·exact h.ds p p' y y' hlt h1 h1'
  en:=λp y hy=>by
   rcases hat p y hy with⟨e,rfl⟩|⟨e,h1⟩
   ·exact⟨λ_=>by simp only;omega,λ_=>by omega⟩
   ·exact⟨λ_=>by have:=(h.en p y h1).1 (by omega);omega,λ_=>(h.en p y h1).2 (by omega)⟩
  es:=λp p' y y' hlt hE' hy hy'=>by
   rcases hat p y hy with⟨e,rfl⟩|⟨_,h1⟩<;>rcases hat p' y' hy' with⟨e',rfl⟩|⟨_,h1'⟩
   ·omega
   ·omega
   ·exact((h.en p y h1).1 (by omega)).2
   ·exact h.es p p' y y' hlt (by omega) h1 h1'
  op:=λp y hp' hy=>by
   rcases hat p y hy with⟨e,rfl⟩|⟨_,h1⟩
   ·omega
   ·obtain⟨a1,a2,a3,c2,a4,a5⟩:=h.op p y (by omega) h1
    have e:y.who≠t:=λe=>by
     rw[e,g0,List.getLast?_concat]at a4;cases a4;have:=h.ds E p x y (by omega) hx h1;omega
    rw[hs _ e,hG _ e];exact⟨a1,a2,a3,c2,a4,a5⟩
  dd:=λu hu=>by
   by_cases e:u=t
   ·subst e;intro hh;rw[c0]at hh;cases hh
   ·rw[hs u e,hG u e];exact h.dd u hu
  al:=λu hu=>by
   by_cases e:u=t
   ·subst e
    intro c2 hc ha h0;rw[g1]at hc;rcases List.mem_append.1 hc with h1|h1
    ·have:=hl c2 h1
     exact hin _ (h.al u hu c2 (by rw[g0];exact List.mem_append_left _ h1) ha h0) (.inl (by simp only;omega))
    ·rw[List.mem_singleton]at h1;subst h1
     refine aC (i:=E) ?_;rw[List.getElem?_set_self hE];simp only at hc2 ⊢;rw[hc2,<-hw]
   ·rw[hG u e]
    intro c2 hc ha h0
    exact hin _ (h.al u hu c2 hc ha h0) (.inr e) }
end Go.Proofs.YtldlcnaphednnaaGreatDoor
