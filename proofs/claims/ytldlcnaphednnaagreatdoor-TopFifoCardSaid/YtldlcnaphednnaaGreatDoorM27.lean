/- What a machine's steps do, without its program. General lemmas: a region that draws its order, of which some operations, wherever they stand, are taken first. No program in sight. A thread that does an instruction, in memory beside its machine. -/
import Derived.Test.YtldlcnaphednnaaGreatDoorM26
import Derived.Laws.Closers25b
import Derived.Test.YtldlcnaphednnaaGreatDoorM01
import Derived.Test.YtldlcnaphednnaaGreatDoorM03
set_option maxRecDepth 100000
set_option maxHeartbeats 32000000
set_option linter.unusedVariables false
set_option linter.unusedSimpArgs false
namespace Go.Proofs.YtldlcnaphednnaaGreatDoor
open Go.RowKit Go.Maps
theorem uF(op:BinOp){a b:Int}(ha:U32 a)(hb:U32 b):U32 (bits op .u32 a b):=by
 have h:(0:Int)<=bits op .u32 a b/\bits op .u32 a b<=4294967295:=bits_within op .u32 a b;exact⟨h.1,by omega⟩
theorem FV(op:Int){a b:Int}(ha:U32 a)(hb:U32 b):U32 (gj op a b):=by
 obtain⟨a0,a1⟩:=ha;obtain⟨b0,b1⟩:=hb
 have hm:∀x:Int,U32 (x%4294967296):=λx=>⟨by omega,by omega⟩
 have hd:∀n:Nat,U32 (a / 2 ^ n):=λn=>⟨Int.ediv_nonneg a0 (Int.le_of_lt (Int.pow_pos (by decide))),Int.lt_of_le_of_lt (Int.ediv_le_self _ a0) a1⟩;unfold gj
 split
 ·exact hm _
 split
 ·exact hm _
 split
 ·exact hm _
 split
 ·exact uF _ ⟨a0,a1⟩ ⟨b0,b1⟩
 split
 ·exact uF _ ⟨a0,a1⟩ ⟨b0,b1⟩
 split
 ·exact uF _ ⟨a0,a1⟩ ⟨b0,b1⟩
 split
 ·exact hm _
 split
 ·exact hd _
 split
 ·split
  ·exact AG
  ·exact fJ
 split
 ·split
  ·exact AG
  ·exact fJ
 ·exact fJ
def jg(T:Th)(a:Nat)(v:Int):Th:={ T with regs:=λj=>if j=a then v else T.regs j }
def jw(T:Th)(s:Int):Th:={ T with st:=s }
def RU(T:Th):Prop:=∀j,U32 (T.regs j)
theorem RU.set{T:Th}(h:RU T)(a:Nat){v:Int}(hv:U32 v):RU (jg T a v):=λj=>by
 simp only[jg];split
 ·exact hv
 ·exact h j
def bK(M:Mac)(ti:Nat)(T:Th)(A:Int)(x:Evt):Mac:={ M with evs:=M.evs++[{ x with pc:=T.pc,addr:=A,who:=ti }] }
theorem gT{M:Mac}(h:MOk M)(ti:Nat)(T:Th)(A:Int)(x:Evt):St M (bK M ti T A x) 1 0:=⟨⟨h.nt0,h.nt1,h.nb,h.nc,h.mem,h.memU,h.bufs,h.slp,h.regs,h.codes⟩,by simp[bK],ah _,⟨_,rfl⟩,rfl,rfl,rfl⟩
def ev(kind v o k:Int)(ok:Bool):Evt:=⟨kind,0,0,0,v,o,k,ok⟩
def fo(M:Mac)(ti:Nat)(A:Int):Int:=match M.bufs[ti]? with
 | some x=>qL M x A.toNat
 | none=>0
theorem yV{x:Bf}{n:Nat}(h:nZ n x)(a:Int):∀k,∀v,fS x a k=some v->U32 v
 | 0,v,e=>by cases e
 | k+1,v,e=>by
  unfold fS at e
  split at e
  ·cases e;exact h.v _
  ·exact yV h a k v e
theorem EX{M:Mac}(h:MOk M)(ti:Nat)(A:Int):U32 (fo M ti A):=by
 unfold fo
 split
 ·rename_i x hx
  unfold qL
  cases e:lQ x A.toNat with
  | none=>
   simp only[Bt];rw[List.getD_eq_getElem?_getD]
   cases e2:M.mem[A.toNat]? with
   | none=>exact fJ
   | some v=>exact h.memU v (aC e2)
  | some v=>exact yV (h.buf hx).2 _ _ _ e
 ·exact fJ
def fj(M:Mac)(ti:Nat)(A v:Int):Mac:=match M.bufs[ti]? with
 | some x=>{ M with bufs:=M.bufs.set ti (ed x A v) }
 | none=>M
def eu(M:Mac)(ti:Nat):Bool:=match M.bufs[ti]? with
 | some x=>decide (x.room<=x.n)
 | none=>true
theorem zM{M:Mac}(h:MOk M)(ti:Nat){A v:Int}(hA:0<=A/\A<M.mem.length)(hv:U32 v)(hf:eu M ti=false):St M (fj M ti A v) 0 0:=by
 unfold fj;unfold eu at hf
 split
 ·rename_i x hx
  simp only[hx,decide_eq_false_iff_not]at hf;refine⟨⟨h.nt0,h.nt1,by simp only[List.length_set];exact h.nb,h.nc,h.mem,h.memU,λy hy=>?_,h.slp,h.regs,h.codes⟩,ah _,ah _,List.prefix_refl _,rfl,rfl,rfl⟩;rcases jm hy with h1|rfl
  ·exact h.bufs y h1
  ·exact⟨A5 (h.buf hx).1 (by omega) _ _,C9 (h.buf hx).2 hA hv⟩
 ·exact St.refl h
def uh(M:Mac)(A v:Int):Mac:={ M with mem:=M.mem.set A.toNat v }
theorem Ax{M:Mac}(h:MOk M)(A:Int){v:Int}(hv:U32 v):St M (uh M A v) 0 0:=⟨⟨h.nt0,h.nt1,h.nb,h.nc,by simp only[uh,List.length_set];exact h.mem,λy hy=>by
 rcases jm hy with h1|rfl
 ·exact h.memU y h1
 ·exact hv,by simp only[uh,List.length_set];exact h.bufs,h.slp,h.regs,h.codes⟩,ah _,ah _,List.prefix_refl _,rfl,by simp[uh],rfl⟩
def xd(M:Mac)(ti:Nat)(A:Int):Mac:={ M with slp:=ly M.slp ti A }
theorem FG{M:Mac}(h:MOk M){ti:Nat}(hi:ti<M.threads.length)(A:Int):St M (xd M ti A) 0 1:=⟨⟨h.nt0,h.nt1,h.nb,h.nc,h.mem,h.memU,h.bufs,λs hs=>by
 simp only[xd,ly]at hs
 split at hs
 ·exact h.slp s hs
 ·rcases List.mem_append.1 hs with h1|h1
  ·exact h.slp s h1
  ·rw[List.mem_singleton]at h1;subst h1
   have h2:((⟨ti,A⟩:Slp).who)=ti:=rfl
   rw[h2];exact⟨by omega,Int.ofNat_lt.2 hi⟩,h.regs,h.codes⟩,ah _,by simp only[xd,ly];split<;>simp,List.prefix_refl _,rfl,rfl,rfl⟩
theorem pK{l:List Th}{i:Nat}{s:Int}(h:∀x∈l,∀j,U32 (x.regs j)):∀x∈kY l i s,∀j,U32 (x.regs j):=λx hx=>by
 unfold kY at hx
 split at hx
 ·rename_i y hy
  rcases jm hx with h1|rfl
  ·exact h x h1
  ·exact h y (aC hy)
 ·exact h x hx
theorem uo(o:List Int):∀{l:List Th},(∀x∈l,∀j,U32 (x.regs j))->∀x∈mO l o,∀j,U32 (x.regs j):=by
 induction o with
 | nil=>intro l h;exact h
 | cons a o ih=>intro l h;exact ih (pK h)
theorem Cz{M:Mac}(h:MOk M)(A n:Int):St M (og M A n) 0 0:=by
 obtain⟨h1,_,h3,_⟩:=jW A n M.slp [];have hl:(og M A n).threads.length=M.threads.length:=qA _ _;exact⟨⟨by rw[hl];exact h.nt0,by rw[hl];exact h.nt1,by rw[hl];exact h.nb,by rw[hl];exact h.nc,h.mem,h.memU,h.bufs,λs hs=>by rw[hl];exact h.slp s (h1 s hs),uo _ h.regs,h.codes⟩,ah _,h3,List.prefix_refl _,hl,rfl,rfl⟩
def jF(M:Mac)(A n:Int):Int:=((bB A n M.slp []).2.length:Int)
theorem CM{M:Mac}(A n:Int)(hs:M.slp.length<=80000):U32 (jF M A n):=by
 obtain⟨_,_,_,h4⟩:=jW A n M.slp [];simp only[List.length_nil]at h4;exact⟨by unfold jF;omega,by unfold jF;omega⟩
def fd(M:Mac)(ti:Nat)(T:Th):Mac:={ M with threads:=M.threads.set ti T }
theorem Fs{M:Mac}(h:MOk M)(ti:Nat){T:Th}(hT:RU T):St M (fd M ti T) 0 0:=by
 have hl:(fd M ti T).threads.length=M.threads.length:=List.length_set
 exact⟨⟨by rw[hl];exact h.nt0,by rw[hl];exact h.nt1,by rw[hl];exact h.nb,by rw[hl];exact h.nc,h.mem,h.memU,h.bufs,λs hs=>by rw[hl];exact h.slp s hs,λx hx=>by
  rcases jm hx with h1|rfl
  ·exact h.regs x h1
  ·exact hT,h.codes⟩,ah _,ah _,List.prefix_refl _,hl,rfl,rfl⟩
abbrev MT:=Mac×Th
structure SR(M:Mac)(X:MT)(k s:Nat):Prop where
 st:St M X.1 k s
 ru:RU X.2
def bz(M:Mac)(ti:Nat)(T:Th)(a:Nat)(A old v:Int)(ok:Bool):MT:=
 (bK (if ok=true then uh M A v else M) ti T A (ev 4 (if ok=true then v else old) old 0 ok),jg T a old)
theorem nA{M:Mac}(h:MOk M)(ti:Nat){T:Th}(hT:RU T)(a:Nat)(A:Int){old v:Int}(ho:U32 old)(hv:U32 v)(ok:Bool):SR M (bz M ti T a A old v ok) 1 0:=by
 refine⟨?_,hT.set a ho⟩;unfold bz
 cases ok with
 | true=>exact(Ax h A hv).trans (gT (Ax h A hv).ok ti T A _)
 | false=>exact gT h ti T A _
def me(M:Mac)(ti:Nat)(T:Th)(a:Nat)(A:Int):MT:=
 if fo M ti A=T.regs a then(xd (bK M ti T A (ev 8 (fo M ti A) 0 0 true)) ti A,jw (jg T a 0) 1)
 else(bK M ti T A (ev 8 (fo M ti A) 0 0 false),jg T a 1)
theorem CY{M:Mac}(h:MOk M){ti:Nat}(hi:ti<M.threads.length){T:Th}(hT:RU T)(a:Nat)(A:Int):SR M (me M ti T a A) 1 1:=by
 unfold me
 split
 ·exact⟨(gT h ti T A _).trans (FG (gT h ti T A _).ok hi A),hT.set a fJ⟩
 ·exact⟨(gT h ti T A _).mono (ah _) (by omega),hT.set a AG⟩
def cR(M:Mac)(ti:Nat)(T:Th)(I:Ins)(A:Int):MT:=
 if I.op=16 then(bK M ti T A (ev 1 (fo M ti A) 0 0 false),jg T I.a.toNat (fo M ti A))
 else if I.op=17 then(bK (fj M ti A (T.regs I.a.toNat)) ti T A (ev 2 (T.regs I.a.toNat) 0 0 false),T)
 else if I.op=19 then bz M ti T I.a.toNat A (fo M ti A) (T.regs I.a.toNat) true
 else if I.op=20 then bz M ti T I.a.toNat A (fo M ti A) ((fo M ti A+T.regs I.a.toNat)%4294967296) true
 else if I.op=21 then bz M ti T I.a.toNat A (fo M ti A) (T.regs I.c.toNat) (fo M ti A == T.regs I.a.toNat)
 else if I.op=23 then me M ti T I.a.toNat A
 else if I.op=24 then(bK (og M A (T.regs I.a.toNat)) ti T A (ev 9 (jF M A (T.regs I.a.toNat)) 0 0 false),jg T I.a.toNat (jF M A (T.regs I.a.toNat)))
 else(M,T)
theorem C8{M:Mac}(h:MOk M){ti:Nat}(hi:ti<M.threads.length){T:Th}(hT:RU T){I:Ins}{A:Int}(hA:0<=A/\A<M.mem.length)(hf:I.op=17->eu M ti=false)(hs:M.slp.length<=80000):SR M (cR M ti T I A) 1 1:=by
 have hl:=EX h ti A;have up:∀{X:MT},SR M X 1 0->SR M X 1 1:=λh=>⟨h.st.mono (ah _) (by omega),h.ru⟩;unfold cR
 split
 ·exact up ⟨gT h ti T A _,hT.set _ hl⟩
 split
 ·rename_i e
  have h1:=zM h ti hA (hT I.a.toNat) (hf e);exact up ⟨h1.trans (gT h1.ok ti T A _),hT⟩
 split
 ·exact up (nA h ti hT _ A hl (hT _) true)
 split
 ·exact up (nA h ti hT _ A hl ⟨by omega,by omega⟩ true)
 split
 ·exact up (nA h ti hT _ A hl (hT _) _)
 split
 ·exact CY h hi hT _ A
 split
 ·have h1:=Cz h A (T.regs I.a.toNat)
  exact up ⟨h1.trans (gT h1.ok ti T A _),hT.set _ (CM _ _ hs)⟩
 ·exact⟨(St.refl h).mono (by omega) (by omega),hT⟩
def cJ(M:Mac)(ti:Nat)(T:Th)(I:Ins)(A:Int):MT:=
 if I.op=1 then(M,jg T I.a.toNat I.k)
 else if I.op=2 then(M,jg T I.a.toNat (T.regs I.b.toNat))
 else if I.op=18 then(bK M ti T A (ev 5 0 0 0 false),T)
 else if I.op=22 then(bK M ti T A (ev 6 (T.regs I.a.toNat) 0 0 false),T)
 else if I.op=27 then(bK M ti T A (ev 7 (T.regs I.a.toNat) 0 I.k false),T)
 else if I.op=25 then(bK (fY M M.bufs.length) ti T A (ev 10 0 0 0 false),T)
 else if 3<=I.op/\I.op<=12 then(M,jg T I.a.toNat (gj I.op (T.regs I.b.toNat) (T.regs I.c.toNat)))
 else(M,T)
theorem A8{M:Mac}(h:MOk M)(ti:Nat){T:Th}(hT:RU T){I:Ins}(hI:U32 I.k)(A:Int):SR M (cJ M ti T I A) 129 0:=by
 have h0:∀{T'},RU T'->SR M (M,T') 129 0:=λh'=>⟨(St.refl h).mono (by omega) (by omega),h'⟩;have h1:∀x,SR M (bK M ti T A x,T) 129 0:=λx=>⟨(gT h ti T A x).mono (by omega) (by omega),hT⟩;unfold cJ
 split
 ·exact h0 (hT.set _ hI)
 split
 ·exact h0 (hT.set _ (hT _))
 split
 ·exact h1 _
 split
 ·exact h1 _
 split
 ·exact h1 _
 split
 ·have h2:=im h M.bufs.length
  have h3:=h.nb;have h4:=h.nt1;exact⟨(h2.trans (gT h2.ok ti T A _)).mono (by omega) (by omega),hT⟩
 split
 ·exact h0 (hT.set _ (FV _ (hT _) (hT _)))
 ·exact h0 hT
def lU(M:Mac)(ti:Nat)(T:Th)(k s:Int):MT:=(bK M ti (jw T s) 0 (ev k 0 0 0 false),jw T s)
theorem vf{M:Mac}(h:MOk M)(ti:Nat){T:Th}(hT:RU T)(k s:Int):SR M (lU M ti T k s) 1 0:=⟨gT h ti _ _ _,hT⟩
def jx(T:Th)(I:Ins):Int:=if I.b<0\/8<=I.b then I.k else(T.regs I.b.toNat+I.k)%4294967296
theorem u4{T:Th}(hT:RU T){I:Ins}(hI:U32 I.k):U32 (jx T I):=by
 unfold jx;split
 ·exact hI
 ·exact⟨by omega,by omega⟩
def mf(T:Th)(I:Ins):Bool:=if I.op=13 then true else if I.op=14 then T.regs I.a.toNat == 0 else !(T.regs I.a.toNat == 0)
def iJ(X:MT):MT:=(X.1,{ X.2 with pc:=X.2.pc+1 })
def gn(M:Mac)(ti:Nat)(T:Th)(I:Ins)(A:Int):MT:=
 if(fO I.op=true/\fH M ti≠0)\/(I.op=17/\eu M ti=true) then(bD M ti,T)
 else if I.op=0 then lU M ti T 12 2
 else if bt I.op=true then(if mf T I=true then(M,{ T with pc:=I.k }) else iJ (M,T))
 else if aJ I.op=true then iJ (cR M ti T I A)
 else iJ (cJ M ti T I A)
def pX(M:Mac)(ti:Nat)(T:Th)(I:Ins)(n:Nat):MT:=
 if ik I n=false then lU M ti T 13 3
 else if aJ I.op=true then(if(M.mem.length:Int)<=jx T I then lU M ti T 13 3 else gn M ti T I (jx T I))
 else gn M ti T I 0
def jq(M:Mac)(ti:Nat)(T:Th)(code:List Ins):MT:=
 if T.st=0 then(if T.pc<0 then lU M ti T 12 2 else match code[T.pc.toNat]? with
  | some I=>pX M ti T I code.length
  | none=>lU M ti T 12 2)
 else(M,T)
theorem zI{M:Mac}(h:MOk M){ti:Nat}(hi:ti<M.threads.length){T:Th}(hT:RU T){I:Ins}(hI:U32 I.k){A:Int}(hA:aJ I.op=true->0<=A/\A<M.mem.length)(hs:M.slp.length<=80000):SR M (gn M ti T I A) 129 1:=by
 have up:∀{X:MT} {k s},SR M X k s->k<=129->s<=1->SR M X 129 1:=λh a b=>⟨h.st.mono a b,h.ru⟩
 unfold gn
 split
 ·exact⟨(nx h ti).mono (by omega) (by omega),hT⟩
 rename_i hn
 split
 ·exact up (vf h ti hT _ _) (by omega) (by omega)
 split
 ·split
  ·exact⟨(St.refl h).mono (by omega) (by omega),hT⟩
  ·exact⟨(St.refl h).mono (by omega) (by omega),hT⟩
 split
 ·rename_i ha
  have h1:=C8 h hi hT (I:=I) (hA ha) (λe=>by
   cases hf:eu M ti with
   | false=>rfl
   | true=>exact absurd (.inr ⟨e,hf⟩) hn) hs
  exact⟨h1.st.mono (by omega) (by omega),h1.ru⟩
 ·have h1:=A8 h ti hT hI A
  exact⟨h1.st.mono (by omega) (by omega),h1.ru⟩
theorem Bh{M:Mac}(h:MOk M){ti:Nat}(hi:ti<M.threads.length){T:Th}(hT:RU T){I:Ins}(hI:U32 I.k)(n:Nat)(hs:M.slp.length<=80000):SR M (pX M ti T I n) 129 1:=by
 have he:∀k s,SR M (lU M ti T k s) 129 1:=λk s=>⟨(vf h ti hT k s).st.mono (by omega) (by omega),hT⟩;unfold pX
 split
 ·exact he _ _
 split
 ·split
  ·exact he _ _
  ·rename_i h1;exact zI h hi hT hI (λ_=>⟨(u4 hT hI).1,by omega⟩) hs
 ·rename_i h1;exact zI h hi hT hI (λe=>absurd e h1) hs
theorem wJ{M:Mac}(h:MOk M){ti:Nat}(hi:ti<M.threads.length){T:Th}(hT:RU T){code:List Ins}(hc:KOk code)(hs:M.slp.length<=80000):SR M (jq M ti T code) 129 1:=by
 have he:∀k s,SR M (lU M ti T k s) 129 1:=λk s=>⟨(vf h ti hT k s).st.mono (by omega) (by omega),hT⟩;unfold jq
 split
 ·split
  ·exact he _ _
  ·split
   ·rename_i I hI;exact Bh h hi hT (hc I (aC hI)) _ hs
   ·exact he _ _
 ·exact⟨(St.refl h).mono (by omega) (by omega),hT⟩
def lY(M:Mac)(ti:Nat):Mac:=match M.threads[ti]? with
 | some T=>fd (jq M ti T (M.codes.getD ti [])).1 ti (jq M ti T (M.codes.getD ti [])).2
 | none=>M
theorem BJ{M:Mac}(h:MOk M){ti:Nat}(hi:ti<M.threads.length)(hs:M.slp.length<=80000):St M (lY M ti) 129 1:=by
 unfold lY
 split
 ·rename_i T hT
  have hc:KOk (M.codes.getD ti []):=by
   have h1:ti<M.codes.length:=h.nc▸hi;rw[List.getD_eq_getElem?_getD,aq h1];exact(h.codes _ (List.getElem_mem h1)).1
  have h1:=wJ h hi (h.regs T (aC hT)) hc hs;exact h1.st.trans (Fs h1.st.ok ti h1.ru)
 ·exact(St.refl h).mono (by omega) (by omega)
def nF(M:Mac)(ti:Nat):Mac:=if(gp M.slp ti).2=true then { M with slp:=(gp M.slp ti).1,threads:=kY M.threads ti 0,evs:=M.evs++[⟨11,ti,0,0,0,0,0,false⟩] } else M
theorem xq(l:List Slp)(who:Int):(∀s∈(gp l who).1,s∈l)/\(gp l who).1.length<=l.length:=by
 unfold gp
 split
 ·rename_i k hk
  obtain⟨x,hx,_⟩:=oK hk;have:=(aj.1 hx).1;refine⟨λs hs=>?_,by simp only[List.length_append,List.length_take,List.length_drop];omega⟩;rcases List.mem_append.1 hs with h1|h1
  ·exact List.mem_of_mem_take h1
  ·exact List.mem_of_mem_drop h1
 ·exact⟨λs h=>h,ah _⟩
theorem zf{M:Mac}(h:MOk M)(ti:Nat):St M (nF M ti) 129 1:=by
 unfold nF
 split
 ·obtain⟨h1,h2⟩:=xq M.slp ti
  have hl:=rh M.threads ti 0;exact⟨⟨by simp only[hl];exact h.nt0,by simp only[hl];exact h.nt1,by simp only[hl];exact h.nb,by simp only[hl];exact h.nc,h.mem,h.memU,h.bufs,λs hs=>by simp only[hl];exact h.slp s (h1 s hs),pK h.regs,h.codes⟩,by simp,by simp only;omega,⟨_,rfl⟩,hl,rfl,rfl⟩
 ·exact(St.refl h).mono (by omega) (by omega)
def kV(M:Mac)(x:Pik):Mac:=if x.who<0\/(M.threads.length:Int)<=x.who then M
 else if x.kind=0 then lY M x.who.toNat
 else if x.kind=1 then bD M x.who.toNat
 else if x.kind=2 then nF M x.who.toNat
 else M
theorem ss{M:Mac}(h:MOk M)(x:Pik)(hs:M.slp.length<=80000):St M (kV M x) 129 1:=by
 unfold kV
 split
 ·exact(St.refl h).mono (by omega) (by omega)
 split
 ·exact BJ h (by omega) hs
 split
 ·exact(nx h _).mono (by omega) (by omega)
 split
 ·exact zf h _
 ·exact(St.refl h).mono (by omega) (by omega)
def m9(M:Mac)(l:List Pik):Mac:=l.foldl kV M
theorem rO:∀(l:List Pik) {M:Mac},MOk M->M.slp.length+l.length<=80000->St M (m9 M l) (129 * l.length) l.length
 | [],M,h,_=>St.refl h
 | x :: l,M,h,hs=>by
  simp only[List.length_cons]at hs ⊢;have h1:=ss h x (by omega);have h2:=h1.slp;exact(h1.trans (rO l h1.ok (by omega))).mono (by omega) (by omega)
theorem Dr(M:Mac)(l l':List Pik):m9 M (l++l')=m9 (m9 M l) l':=List.foldl_append
def fA(b:Int):Pik:=⟨b / 8%3,b%8⟩
end Go.Proofs.YtldlcnaphednnaaGreatDoor
namespace Go.Proofs.YtldlcnaphednnaaGreatDoor
open Go.RowKit
section
variable {P:Program} {ops:Array Oper} {md:Region.Mode} {Q:Exit->Act->World->Prop} {D:World->Prop}
def dM(P:Program)(md:Region.Mode)(ops:Array Oper)(D:World->Prop)(m F:Nat)(R:Act->Prop):List Nat->Act->Prop
 | [],a=>R a
 | k :: rest,a=>∃o,ops[k]? = some o/\Region.wanted o (yielded ops a.tmps)=true/\∃v,(((anc md ops F m).contains k=true/\∀w,D w->fi P o a w v)\/∀w,fi P o a w v)/\dM P md ops D m F R rest (a.put o.dst v)
def ye(md:Region.Mode)(ops:Array Oper)(m:Nat):List Nat->Array Bool->Bool
 | [],_=>true
 | k :: is,listed=>(Region.ready md ops listed).contains k && Region.free md ops listed k && (k != m) && ye md ops m is (listed.setIfInBounds k true)
def tZ:List Nat->Array Bool->Array Bool
 | [],l=>l
 | k :: is,l=>tZ is (l.setIfInBounds k true)
theorem nK{g m F:Nat}{R:Act->Prop}{w:World}(hs:Region.noSelect ops=true)(hQ:∀c a d v w,Q (.panic c) (Act.put a d v) w->Q (.panic c) a w)(om:Oper)(hm:ops[m]? = some om):
  ∀(is:List Nat)(listed:Array Bool)(a:Act),Closed md ops listed->ye md ops m is listed=true->
   (∀a',R a'->dU P md ops D m Q g (tZ is listed) a' w)->dM P md ops D m F R is a->dU P md ops D m Q (is.length+g) listed a w:=by
 intro is
 induction is with
 | nil=>intro listed a _ _ hR h;rw[List.length_nil,Nat.zero_add];exact hR a h
 | cons k is ih=>
  intro listed a hcl hB hR h;simp only[dM]at h;obtain⟨o,h0,hw,v,hv,h'⟩:=h;simp only[ye,Bool.and_eq_true,bne_iff_ne,ne_eq]at hB;obtain⟨⟨⟨hr,hf⟩,hne⟩,hB'⟩:=hB
  have hr':k∈Region.ready md ops listed:=by simpa using hr
  rw[show(k :: is).length+g=(is.length+g)+1 by simp only[List.length_cons];omega];have next:=ih _ _ (hcl.set hr') hB' hR h';have hmm:(listed.setIfInBounds k true).getD m false=listed.getD m false:=getD_set_ne false hne;rcases hv with⟨hanc,hv⟩|hv
  ·refine kz (E:=D) h0 (Region.noSelect_spec hs) (λc a w=>hQ c a _ _ w) (λlisted w hcl hun hD=>hD ?_) _ listed a w hcl (Region.free_spec h0 hf) hr' (.inl ⟨hw,hv⟩) next hmm
   rw[getD_set_ne false hne]
   cases hlm:listed.getD m false with
   | false=>rfl
   | true=>
    have:=oS hcl F m om hm (hcl m om hm hlm) k (by simpa using hanc);rw[getD_both hun]at this;cases this
  ·exact kz (E:=λ_=>True) h0 (Region.noSelect_spec hs) (λc a w=>hQ c a _ _ w) (λ_ _ _ _ _=>trivial) _ listed a w hcl (Region.free_spec h0 hf) hr' (.inl ⟨hw,λw _=>hv w⟩) next hmm
theorem gq{id:Nat}{a:Act}{w:World}{l:List Oper}(is:List Nat)(m F:Nat)(D:World->Prop)(om:Oper)(hom:l.toArray[m]? = some om)(hm:P.follows .mixedOrders=true)(hs:Region.noSelect l.toArray=true)
  (hn:is.length<=l.length) (hB:ye .any l.toArray m is (Array.replicate l.toArray.size false)=true)
  (h:dM P .any l.toArray D m F (λa'=>dU P .any l.toArray D m (noP Q) (l.length - is.length) (tZ is (Array.replicate l.toArray.size false)) a' w.drew) is a):(Code.region id l.toArray true).wp P Q a w:=by
 refine wp_mono (Q:=noP Q) ?_ mS;refine wp_region_any hm ?_
 have hc0:Closed .any l.toArray (Array.replicate l.toArray.size false):=λj oj _ hl=>by rw[getD_replicate_false]at hl;cases hl
 have:=nK (md:=.any) (g:=l.length - is.length) (m:=m) (F:=F) (w:=w.drew) hs (λ_ _ _ _ _ h=>h) om hom is (Array.replicate l.toArray.size false) a hc0 hB (λa' h=>h) h
 rw[show is.length+(l.length - is.length)=l.toArray.size by simp<;>omega]at this
 exact iq _ _ _ _ this
theorem jS{m F:Nat}{R:Act->Prop}{a:Act}(h:R a):dM P md ops D m F R [] a:=h
theorem jt{m F k:Nat}{R:Act->Prop}{a:Act}{o:Oper}{rest:List Nat}(h0:ops[k]? = some o)(hw:Region.wanted o (yielded ops a.tmps)=true)(hanc:(anc md ops F m).contains k=true)(v:Value)(hv:∀w,D w->fi P o a w v)
  (h:∀K:Act->Prop,(∀a,dM P md ops D m F R rest a->K a)->K (a.put o.dst v)):dM P md ops D m F R (k :: rest) a:=by
 simp only[dM];exact⟨o,h0,hw,v,.inl ⟨hanc,hv⟩,h _ λ_ h=>h⟩
theorem ox{m F k:Nat}{R:Act->Prop}{a:Act}{o:Oper}{rest:List Nat}(h0:ops[k]? = some o)(hw:Region.wanted o (yielded ops a.tmps)=true)(v:Value)(hv:∀w,fi P o a w v)
  (h:∀K:Act->Prop,(∀a,dM P md ops D m F R rest a->K a)->K (a.put o.dst v)):dM P md ops D m F R (k :: rest) a:=by
 simp only[dM];exact⟨o,h0,hw,v,.inr hv,h _ λ_ h=>h⟩
theorem pr{i:Nat}{K:Act->World->Prop}{o:Oper}{a:Act}{w:World}(hi:ops[i]? = some o)(hgd:o.guard=none)(ty:TypeId)(hsz:∀w,(sizeOf ty).run P w=.ok 1 w)(x y:Operand)(ho:o.op=.store ty x y)(b j:Nat)(v:Value)(hv:v.cells=#[v])(hsv:∀(w:World)(p:Addr)(u:Value),w.cell? p=some u->w.frozen? p=false->(store p v).run P w=.ok () (w.setCell p v))(cs:Array Value)(t:TypeId)(hx:a.eval x=.pointer (some ⟨b,j,none⟩))(hy:a.eval y=v)
  (hg:w.heap[b]? = some (.cells cs t (0,0))) (hj:j<cs.size)
  (hh:∀w',w'.heap[b]? = some (.cells (cs.setIfInBounds j v) t (0,0))->(∀k,k≠b->w'.heap[k]? = w.heap[k]?)->(∀B,B<=b->Below B w w')->K (a.put o.dst undef) w'):wpOp P ops Q i K a w:=by
 unfold wpOp;simp only[hi]
 have hw:Region.wanted o (yielded ops a.tmps)=true:=by simp[Region.wanted,hgd]
 rw[ag hw];refine .inl ?_
 have hc:w.cell? ⟨b,j,none⟩=some (cs[j]'hj):=by rw[ae w b j cs t _ hg];exact Array.getElem?_eq_getElem hj
 have hst:=hsv w ⟨b,j,none⟩ _ hc (frozen_of_row w b j cs t hg);unfold Oper.wp execOp;simp only[ho,hx,hy,Instr.storeAt,Instr.sureAddr,Sem.run_bind,Sem.run_pure,Result.andThen_ok]
 have h1:(storeVar ty ⟨b,j,none⟩ v).run P w=.ok () (w.setCell ⟨b,j,none⟩ v):=by
  unfold storeVar;simp only[Sem.run_bind,hsz,hv,Result.andThen_ok];simp[storeCells,bX,hst]
 rw[h1];exact hh _ (heap_setCell_same w b j cs t _ hg) (λk hk=>heap_setCell_other _ _ k _ hk) (λB hB=>(ak B w).setCell (p:=⟨b,j,none⟩) hB _)
theorem ZF{m F k:Nat}{R:Act->Prop}{a a':Act}{o:Oper}{rest:List Nat}{v:Value}(h:dM P md ops D m F R rest a')(h0:ops[k]? = some o:=by rfl)(hv:∀w,(execOp a.eval o).run P w=.ok (.value v) w:=by intro w';go_simp;try with_reducible rfl)(ha:a.put o.dst v=a':=by go_simp;try rfl)(hw:Region.wanted o (yielded ops a.tmps)=true:=by rfl):dM P md ops D m F R (k :: rest) a:=by subst ha;exact ox h0 hw v (λw=>aE (hv w)) λK hK=>hK _ h
theorem ZR{m F k:Nat}{R:Act->Prop}{a a':Act}{o:Oper}{rest:List Nat}{v:Value}(h:dM P md ops D m F R rest a')(h0:ops[k]? = some o:=by rfl)(hv:∀w,D w->(execOp a.eval o).run P w=.ok (.value v) w:=by intro w' h';go_simp;try with_reducible rfl)(ha:a.put o.dst v=a':=by go_simp;try rfl)(hw:Region.wanted o (yielded ops a.tmps)=true:=by rfl)(hanc:(anc md ops F m).contains k=true:=by kernel_rfl):dM P md ops D m F R (k :: rest) a:=by subst ha;exact jt h0 hw hanc v (λw h'=>aE (hv w h')) λK hK=>hK _ h
end
open Go.Maps
def sdV(b ti:Nat):Value:=.agg #[.pointer (some ⟨b,0,none⟩),.int .i64 ti]
def fnV(b ti g:Nat):Value:=.func (.func g) #[sdV b ti] #[]
def nR(b ti n:Nat):List Value:=[.int .i64 n,fnV b ti 104,fnV b ti 105,fnV b ti 106,fnV b ti 107,fnV b ti 60,fnV b ti 108,fnV b ti 109,fnV b ti 110,fnV b ti 111,fnV b ti 62]
def kh(b ti n:Nat)(T:Th)(I:Ins)(A:Int):Array Value:=#[.int .i64 T.pc,.int .u32 (T.regs 0),.int .u32 (T.regs 1),.int .u32 (T.regs 2),.int .u32 (T.regs 3),.int .u32 (T.regs 4),.int .u32 (T.regs 5),.int .u32 (T.regs 6),.int .u32 (T.regs 7),.int .i64 T.st,
 .int .i64 I.op,.int .i64 I.a,.int .i64 I.b,.int .i64 I.c,.int .u32 I.k,.int .i64 n,fnV b ti 104,fnV b ti 105,fnV b ti 106,fnV b ti 107,fnV b ti 60,fnV b ti 108,fnV b ti 109,fnV b ti 110,fnV b ti 111,fnV b ti 62,.int .i64 A]
section
variable {b ti n:Nat} {T:Th} {I:Ins} {A:Int}
theorem zb{P:Nat->Prop}{a:Nat}(ha:a<8)(h:P 0/\P 1/\P 2/\P 3/\P 4/\P 5/\P 6/\P 7):P a:=by
 obtain⟨h0,h1,h2,h3,h4,h5,h6,h7⟩:=h
 match a,ha with
 | 0,_=>exact h0
 | 1,_=>exact h1
 | 2,_=>exact h2
 | 3,_=>exact h3
 | 4,_=>exact h4
 | 5,_=>exact h5
 | 6,_=>exact h6
 | 7,_=>exact h7
theorem mX{a:Nat}(ha:a<8):(kh b ti n T I A)[1+a]? = some (.int .u32 (T.regs a)):=
 zb (P:=λa=>(kh b ti n T I A)[1+a]? = some (.int .u32 (T.regs a))) ha ⟨rfl,rfl,rfl,rfl,rfl,rfl,rfl,rfl⟩
theorem fG{a:Nat}(ha:a<8)(v:Int):(kh b ti n T I A).setIfInBounds (1+a) (.int .u32 v)=kh b ti n (jg T a v) I A:=
 zb (P:=λa=>(kh b ti n T I A).setIfInBounds (1+a) (.int .u32 v)=kh b ti n (jg T a v) I A) ha ⟨rfl,rfl,rfl,rfl,rfl,rfl,rfl,rfl⟩
theorem rN(s:Int):(kh b ti n T I A).setIfInBounds 9 (.int .i64 s)=kh b ti n (jw T s) I A:=rfl
theorem oL(s:Int):(kh b ti n T I A).setIfInBounds 0 (.int .i64 s)=kh b ti n { T with pc:=s } I A:=rfl
theorem xx(s:Int):(kh b ti n T I A).setIfInBounds 26 (.int .i64 s)=kh b ti n T I s:=rfl
abbrev Or1(F:Nat->Prop)(k:Nat):Nat->Prop:=λj=>F j\/j=k
structure RM(w:World)(b kR:Nat)(F:Nat->Prop)(M:Mac)(T:Th)(I:Ins)(A:Int)(ti n:Nat):Prop where
 m:MMem w b F M
 r:w.heap[kR]? = some (.cells (kh b ti n T I A) 192 (0,0))
 f:¬F kR
variable {w w':World} {kR:Nat} {F F':Nat->Prop} {M M':Mac}
theorem RM.below(h:RM w b kR F M T I A ti n)(hb:Below w.heap.size w w'):RM w' b kR F M T I A ti n:=⟨h.m.below hb,keep h.r hb,h.f⟩
theorem Upd.or1(h:Upd F F' w w')(k:Nat):Upd (Or1 F k) (Or1 F' k) w w':=⟨λB hF hB=>h.low B (λj hj=>hF j (.inl hj)) hB,λj hj hn=>h.blk j hj (λe=>hn (.inl e)),λj hj=>by
 rcases hj with h1|h1
 ·rcases h.foot j h1 with h2|h2
  ·exact .inl (.inl h2)
  ·exact .inr h2
 ·exact .inl (.inr h1)⟩
theorem RM.call(h:RM w b kR F M T I A ti n)(hM:MMem w' b F' M')(hU:Upd F F' w w'):RM w' b kR F' M' T I A ti n/\Upd (Or1 F kR) (Or1 F' kR) w w':=⟨⟨hM,hU.kept h.r h.f,λhF=>by
 rcases hU.foot kR hF with h1|h1
 ·exact h.f h1
 ·have:=aB h.r;omega⟩,hU.or1 kR⟩
theorem Own.kept{α:Type}{E:Enc α}{v:Value}{l:List α}{k:Nat}{cs:Array Value}{ty:TypeId}(h:Own E w v l)(hk:w.heap[k]? = some (.cells cs ty (0,0)))(hne:E.ty≠ty)(p2:∀j,j≠k->w'.heap[j]? = w.heap[j]?):Own E w' v l:=h.keep λg e=>p2 g (λe'=>by
 obtain⟨cs',h5⟩:=h.blk e
 exact aK h5 hk hne e')
theorem MMem.kept{k:Nat}{cs:Array Value}{ty:TypeId}(h:MMem w b F M)(hk:w.heap[k]? = some (.cells cs ty (0,0)))(h1:105≠ty/\93≠ty/\153≠ty/\110≠ty/\37≠ty/\182≠ty/\46≠ty/\115≠ty)(p2:∀j,j≠k->w'.heap[j]? = w.heap[j]?):MMem w' b F M:=by
 obtain⟨V,vs,h⟩:=h;obtain⟨n1,n2,n3,n4,n5,n6,n7,n8⟩:=h1;exact⟨V,vs,(p2 b (λe=>aK h.blk hk n1 e)).trans h.blk,h.rc.kept hk n2 p2,⟨h.cm.len,λi v L e1 e2=>(h.cm.code i v L e1 e2).kept hk n8 p2⟩,h.rt.kept hk n3 p2,h.rf.kept hk n4 p2,h.rm.kept hk n5 p2,h.rk.kept hk n6 p2,h.re.kept hk n7 p2,h.foot⟩
theorem RM.put{cs:Array Value}{T':Th}{I':Ins}{A':Int}(h:RM w b kR F M T I A ti n)(p1:w'.heap[kR]? = some (.cells cs 192 (0,0)))(e:cs=kh b ti n T' I' A')(p2:∀j,j≠kR->w'.heap[j]? = w.heap[j]?)(p3:∀B,B<=kR->Below B w w'):RM w' b kR F M T' I' A' ti n/\Upd (Or1 F kR) (Or1 F kR) w w':=⟨⟨h.m.kept h.r (by decide) p2,by rw[<-e];exact p1,h.f⟩,⟨λB hF hB=>p3 B (hF kR (.inr rfl)),λj hj hn=>p2 j (λe=>hn (.inr e)),λj hj=>.inl hj⟩⟩
theorem RM.fresh(h:RM w b kR F M T I A ti n){k:Nat}(hk:w.heap.size<=k):k≠kR/\¬F k:=⟨λe=>by have:=aB h.r;omega,λe=>by have:=h.m.lt k e;omega⟩
end
end Go.Proofs.YtldlcnaphednnaaGreatDoor
