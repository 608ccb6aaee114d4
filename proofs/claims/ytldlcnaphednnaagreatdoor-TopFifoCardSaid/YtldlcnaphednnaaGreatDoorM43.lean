/- A step of the machine, and a run, as all queues see them. The codes of tickets and queues, written out. -/
import Derived.Test.YtldlcnaphednnaaGreatDoorM42
import Derived.Test.YtldlcnaphednnaaGreatDoorM17
set_option maxRecDepth 100000
set_option maxHeartbeats 32000000
set_option linter.unusedVariables false
set_option linter.unusedSimpArgs false
namespace Go.Proofs.YtldlcnaphednnaaGreatDoor
theorem GA(I:Ins)(s:Ef):(lex I s).q=s.q+1\/(bt I.op=true/\(lex I s).q=I.k.toNat):=by
 unfold lex
 split
 ·rename_i e;exact .inr ⟨by rw[e];rfl,rfl⟩
 split
 ·rename_i e
  by_cases h:s.r I.a.toNat=0
  ·exact .inr ⟨by rw[e];rfl,by simp[h]⟩
  ·exact .inl (by simp[h])
 split
 ·rename_i e
  by_cases h:s.r I.a.toNat=0
  ·exact .inl (by simp[h])
  ·exact .inr ⟨by rw[e];rfl,by simp[h]⟩
 (repeat' split)<;>exact .inl rfl
theorem sX{d:Int}{I:Ins}(h:aJ I.op=true):j4 d I=I:=by
 unfold j4;rw[af (λhj=>by rw[qI hj]at h;cases h)]
theorem FJ(d:Int)(I:Ins):(j4 d I).op=I.op:=by unfold j4;split<;>rfl
theorem MI.stay{C:Cl}{o:Nat->QO}{M:Mac}{pl:Nat->Nat×Nat}(h:MI C o M pl){t:Nat}{T:Th}(hT:tr M t=some (T.pc,T.regs)){X:MT}(he:StE M t false (-1) X.1)(h1:X.2.pc=T.pc)(h2:X.2.regs=T.regs):MI C o (fd X.1 t X.2) pl:=by
 obtain⟨l,hev,hl⟩:=he.ev;have hlt:t<X.1.threads.length:=qy ((he.ef.t t).trans hT);refine h.quiet (λu=>?_) (λlo hi s h0 ho=>nI (ho.eff h0 he.ef (by omega)) _ _) (l:=l) hev hl;rw[rD X.1 hlt]
 split
 ·rename_i e;subst e;rw[hT,h1,h2]
 ·exact he.ef.t u
theorem sM{M:Mac}{t:Nat}{T:Th}{k A:Int}(hn:¬((fO (jp k).op=true/\fH M t≠0)\/((jp k).op=17/\eu M t=true))):gn M t T (jp k) A=iJ (bK M t T A (ev 7 (T.regs 7) 0 (k%4294967296) false),T):=by
 unfold gn;rw[af hn];simp[jp,bt,aJ,cJ]
theorem rT{C:Cl}{t:Nat}{n q:Nat}{pc:Int}(hn:n<C.len t)(hq:q<(mH C t n).length)(hp:pc=((ei C t n).length+q:Nat)):Pos C t pc (n,q):=⟨Nat.le_of_lt hn,hp,λ_=>hq,λe=>by simp only at e;omega⟩
theorem tH{C:Cl}(hK:kF C){t:Nat}(ht:t<C.nt){n:Nat}{pc:Int}(hn:n<C.len t)(hp:pc=((ei C t n).length+(mH C t n).length:Nat)):Pos C t pc (n+1,0):=by
 have e:=(mC (hK t n ht hn)).1;exact⟨hn,by rw[hp];simp only[e,List.length_append,Nat.add_zero],λh=>uj _ _ _,λ_=>rfl⟩
theorem far{C:Cl}{o:Nat->QO}(hq:∀j,gh C j->QOk C j (o j)){A:Int}(h:A<16):∀j,gh C j->¬(bs C j<=A/\A<(o j).hi):=λj _ hh=>by have:=iB C j;omega
theorem FE{C:Cl}{o:Nat->QO}{M:Mac}{pl:Nat->Nat×Nat}(hc:gG C)(hK:kF C)(h:MI C o M pl)(hq:∀j,gh C j->QOk C j (o j))(hr:ROk C)(hM:MOk M)(hN:M.evs.length<1000000){t:Nat}(ht:t<C.nt){T:Th}(hT:tr M t=some (T.pc,T.regs))(hcl:(ei C t (C.len t)).length<=4000)
  {n q:Nat} (hpl:pl t=(n,q)) (hp:Pos C t T.pc (n,q)) (hn:n<C.len t) {I:Ins} (hI:(mH C t n)[q]? = some I) {A:Int} (hA:aJ I.op=true->A=jx T I/\0<=A/\A<M.mem.length)
  (hf:¬((fO I.op=true/\fH M t≠0)\/(I.op=17/\eu M t=true))):∃pl',MI C o (fd (gn M t T I A).1 t (gn M t T I A).2) pl':=by
 have hi:t<M.threads.length:=qy hT;have hrt:=hc.ops t n ht hn;have hpc:T.pc=((ei C t n).length+q:Nat):=hp.pc
 have hcn:(ei C t n).length<=4000:=by
  have:=(nD (λi hi=>hK t i ht hi) (n:=n) (C.len t - n) (by omega)).length_le;rw[show n+(C.len t - n)=C.len t by omega]at this;omega
 by_cases h7:(C.op t n).k=7
 case neg=>
  have hseg:mH C t n=[plI (C.op t n)]:=af h7;rw[hseg]at hI
  obtain rfl:q=0:=by
   by_cases e:q=0
   ·exact e
   ·rw[List.getElem?_eq_none (by simp<;>omega)]at hI;cases hI
  obtain rfl:plI (C.op t n)=I:=by simpa using hI
  have hop:(plI (C.op t n)).op≠25/\(plI (C.op t n)).op≠27/\(plI (C.op t n)).op≠0/\bt (plI (C.op t n)).op=false/\(aJ (plI (C.op t n)).op=true->jx T (plI (C.op t n))<16):=by
   have hv:∀(op:Int),((C.op t n).k=3\/(C.op t n).k=4)->jx T ⟨op,(C.op t n).a,8,0,(C.op t n).b%4294967296⟩<16:=λop hk=>by
    unfold rgt at hrt;rw[af (by omega),af (by omega),ag hk]at hrt;have hg:=hc.good;unfold ld at hg;simp at hrt;unfold jx;rw[ag (.inr (by simp))];simp only;omega
   rcases hK t n ht hn with e|e|e|e|e|e|e
   ·simp[plI,e,bt,aJ]
   ·simp[plI,e,bt,aJ]
   ·have:=hv 16 (.inl e);simp[plI,e,bt,aJ];exact this
   ·have:=hv 17 (.inr e);simp[plI,e,bt,aJ];exact this
   ·simp[plI,e,bt,aJ]
   ·simp[plI,e,bt,aJ]
   ·exact absurd e h7
  obtain⟨o1,o2,o3,o4,o5⟩:=hop
  obtain⟨A',hA',hA16⟩:∃A':Int,(aJ (plI (C.op t n)).op=true->A'=A)/\A'<16:=by
   by_cases e:aJ (plI (C.op t n)).op=true
   ·exact⟨A,λ_=>rfl,by rw[(hA e).1];exact o5 e⟩
   ·exact⟨-1,λh=>absurd h e,by omega⟩
  obtain⟨e1,e2⟩:=zE hM hi T o1 o2 (λe=>(hA e).2) hf A' hA'
  have e3:(gn M t T (plI (C.op t n)) A).2.pc=T.pc+1:=by
   rcases e2 with e|e|e
   ·exact e
   ·rw[o4]at e;cases e.1
   ·exact absurd e.1 o3
  have hin:¬cK C t (pl t):=λhh=>by rw[hpl]at hh;exact h7 hh.2.1
  have hin':¬cK C t (n+1,0):=λhh=>by have:=hh.2.2;simp at this
  refine⟨mK pl t (n+1,0),h.else hq hK ht e1 (far hq hA16) (tH hK ht hn ?_) ⟨λhh=>absurd hh hin',λhh=>absurd hh hin⟩ (λhh=>absurd hh hin') (λj _=>lH hin)⟩;rw[e3,hpc,hseg];simp
 case pos=>
  obtain⟨L,hL⟩:∃L,L=(lu C t (C.op t n)).1:=⟨_,rfl⟩
  have hJ:JK L:=by rw[hL];exact(lh ..).2.2
  have hL1:L.length<=100:=by rw[hL];exact(lh ..).2.1
  have hseg:mH C t n=jp (2 * cZ C t n) :: (dc L ((ei C t n).length+1:Nat)++[jp (2 * cZ C t n+1)]):=by rw[hL];exact ag h7
  have hsl:(mH C t n).length=L.length+2:=by rw[hseg];simp[dc]
  have hs0:=wL hK ht hn h7
  have hs1:cZ C t n<100000:=by
   rw[ke hK ht (Nat.le_of_lt hn)];have h1:=o6 (C:=C) (t:=t) (λj hj=>ar (hc.len j (by omega)) (by omega));have h2:=jI t (C.op t) n;have h3:=hc.len t ht;have hg:=hc.good;unfold ld at hg;omega
  match q with
  | 0=>
   rw[hseg]at hI
   obtain rfl:jp (2 * cZ C t n)=I:=by simpa using hI
   rw[sM hf];refine⟨_,h.open hq hK ht hT (M1:=bK M t T A (ev 7 (T.regs 7) 0 ((2 * cZ C t n)%4294967296) false)) (Eff.same _ rfl rfl λu=>rfl) rfl rfl rfl hn h7 hrt hpl (by show(2 * cZ C t n)%4294967296=_;omega) rfl (rT hn (by omega) ?_)⟩;show T.pc+1=_;rw[hpc];omega
  | q+1=>
   have hq2:q+1<L.length+2:=by
    have:=(aj.1 hI).1;omega
   rw[hseg,List.getElem?_cons_succ]at hI
   have hml:(dc L ((ei C t n).length+1:Nat)).length=L.length:=by simp[dc]
   by_cases hqe:q=L.length
   ·subst hqe
    rw[List.getElem?_append_right (by omega),hml,Nat.sub_self]at hI
    obtain rfl:jp (2 * cZ C t n+1)=I:=by simpa using hI
    rw[sM hf];refine⟨_,h.shut hq hK ht hT (M1:=bK M t T A (ev 7 (T.regs 7) 0 ((2 * cZ C t n+1)%4294967296) false)) (Eff.same _ rfl rfl λu=>rfl) rfl rfl rfl hn h7 hrt (by rw[hpl,hL]) (by show(2 * cZ C t n+1)%4294967296=_;omega) rfl (tH hK ht hn ?_)⟩;show T.pc+1=_;rw[hpc,hsl];omega
   ·rw[List.getElem?_append_left (by omega)]at hI
    unfold dc at hI;rw[List.getElem?_map]at hI
    obtain⟨I0,hI0,hmI⟩:∃I0,L[q]? = some I0/\j4 ((ei C t n).length+1:Nat) I0=I:=by
     cases e:L[q]? with
     | none=>rw[e]at hI;cases hI
     | some I0=>rw[e]at hI;exact⟨I0,rfl,by simpa using hI⟩
    have hop:I.op=I0.op:=by rw[<-hmI];exact FJ _ _
    have hjk:=hJ I0 (aC hI0)
    have hin:cK C t (pl t):=by rw[hpl];exact⟨hn,h7,Nat.succ_le_succ (au _)⟩
    have hca:=ka hrt h7;have h1le:∀k:Nat,1<=k+1:=λk=>Nat.succ_le_succ (au _)
    have hjp:bt I.op=true->I.k=I0.k+((ei C t n).length+1:Nat):=λe=>by
     rw[hop]at e;have:=hjk e;rw[<-hmI];unfold j4;rw[ag e];simp only;omega
    by_cases hqb:gh C (C.op t n).a.toNat
    ·-- a queue's own code
     obtain⟨hc1,hb⟩:=(hq _ hqb).code t _ ht hrt h7 (by omega)
     have hIP:((o (C.op t n).a.toNat).P (C.op t n).b.toNat t)[q]? = some I0:=by rw[<-hc1,<-hL];exact hI0
     have hlo:=(hq _ hqb).lop (aC hIP)
     have hA2:aJ I0.op=true->A=adr I0 T.regs/\0<=A/\A<M.mem.length:=λe=>by
      have:=hA (by rw[hop];exact e);rw[<-hmI,sX e]at this;exact this
     have hf2:¬((fO I0.op=true/\fH M t≠0)\/(I0.op=17/\eu M t=true)):=by rw[<-hop];exact hf
     obtain⟨hx,hsw⟩:=Dt hM hi T q (d:=((ei C t n).length+1:Nat)) (λe=>by have:=hjk e;omega) hlo (by rw[hpc];omega) (λe=>by have:=hA2 e;rw[<-this.1];exact this.2) hf2 (λe=>(hA2 e).1);rw[hmI]at hx
     have ho25:I.op≠25/\I.op≠27:=by rw[hop];simp[oq]at hlo;omega
     refine⟨_,h.own hq hK ht hN hT hqb hin (by rw[hpl];simp only;omega) (by rw[hpl];exact hb) (q:=q) (by rw[hpl]) (by rw[hpl];exact hIP) hx hsw (λA' hA'=>?_) ?_⟩
     ·have:=(zE hM hi T ho25.1 ho25.2 (λe=>(hA e).2) hf A' (λe=>by rw[hA' (by rw[<-hop];exact e),(hA2 (by rw[<-hop];exact e)).1])).1
      rw[hop]at this;exact this
     ·rw[show(pl t).1=n by rw[hpl]]
      refine rT hn ?_ ?_
      ·rcases GA I0 ⟨q,T.regs,db M,bn M t⟩ with e|⟨e1,e2⟩
       ·rw[e];simp only;omega
       ·have:=hjk e1;rw[e2];omega
      ·rw[hx.pc];omega
    ·-- another object's
     have hR:=hr t n ht hn h7 hqb I0 (by rw[<-hL];exact aC hI0)
     have ho27:I.op≠27:=by rw[hop];exact hR.1
     have c0:∀j,gh C j->inQ C j t (pl t)=0:=λj hj=>by
      rw[hpl];refine af (λhh=>hqb ?_);have:=hh.2.2.1;simp only at this;rw[this];exact hj
     by_cases h25:I.op=25
     ·have e:gn M t T I A=iJ (bK (fY M M.bufs.length) t T A (ev 10 0 0 0 false),T):=by
       unfold gn;rw[af hf];simp[h25,bt,aJ,cJ]
      rw[e];have h1:=h.remote hq hM M.bufs.length;refine⟨mK pl t (n,q+2),h1.else hq hK ht (M1:=bK (fY M M.bufs.length) t T A (ev 10 0 0 0 false)) (T':={ T with pc:=T.pc+1 }) (sw:=false) (A:=-1) ⟨Eff.same _ rfl rfl λu=>rfl,[_],rfl,λe h=>by rw[List.mem_singleton]at h;subst h;exact⟨by simp[ev],by simp[ev]⟩⟩ (far hq (by omega)) (rT hn (by omega) ?_) ⟨λ_=>hin,λ_=>⟨hn,h7,h1le (q+1)⟩⟩ (λ_=>by rw[hpl]) c0⟩;show T.pc+1=_;rw[hpc];omega
     obtain⟨A',hA',hAr⟩:∃A':Int,(aJ I.op=true->A'=A)/\∀j,gh C j->¬(bs C j<=A'/\A'<(o j).hi):=by
      by_cases e:aJ I.op=true
      ·refine⟨A,λ_=>rfl,λj hj hh=>?_⟩
       obtain⟨r1,r2,r3⟩:=hR.2 (by rw[<-hop];exact e)
       have hAk:A=I0.k:=by
        rw[(hA e).1,<-hmI,sX (by rw[<-hop];exact e)];unfold jx;rw[ag r1]
       rw[(hq j hj).hi]at hh;have hne:j≠(C.op t n).a.toNat:=λe=>hqb (e▸hj);rcases Nat.lt_or_gt_of_ne hne with h1|h1
       ·have:=mI C (show j+1<=(C.op t n).a.toNat by omega);omega
       ·have:=mI C (show(C.op t n).a.toNat+1<=j by omega);omega
      ·exact⟨-1,λh=>absurd h e,far hq (by omega)⟩
     obtain⟨e1,e2⟩:=zE hM hi T h25 ho27 (λe=>(hA e).2) hf A' hA'
     have fin:∀q':Nat,q'<=L.length->(gn M t T I A).2.pc=((ei C t n).length+(q'+1):Nat)->∃pl',MI C o (fd (gn M t T I A).1 t (gn M t T I A).2) pl':=λq' h1 h2=>
      ⟨mK pl t (n,q'+1),h.else hq hK ht e1 hAr (rT hn (by omega) h2) ⟨λ_=>hin,λ_=>⟨hn,h7,h1le _⟩⟩ (λ_=>by rw[hpl]) c0⟩
     rcases e2 with e|⟨e,e'⟩|⟨_,e,_⟩
     ·exact fin (q+1) (by omega) (by rw[e,hpc];omega)
     ·have:=hjk (by rw[<-hop];exact e)
      exact fin I0.k.toNat (by omega) (by rw[e',hjp e];omega)
     ·exact fin q (by omega) (by rw[e,hpc])
theorem CU{C:Cl}{o:Nat->QO}{M:Mac}{pl:Nat->Nat×Nat}(hc:gG C)(hK:kF C)(h:MI C o M pl)(hq:∀j,gh C j->QOk C j (o j))(hr:ROk C)(hM:MOk M)(hcd:M.codes=de C)(hN:M.evs.length<1000000){t:Nat}(ht:t<C.nt):∃pl',MI C o (lY M t) pl':=by
 obtain⟨pc,r,htr,hp⟩:=h.pos t ht
 obtain⟨T,hT,hT2⟩:∃T,M.threads[t]? = some T/\tr M t=some (T.pc,T.regs):=by
  unfold tr trL at htr ⊢
  cases e:M.threads[t]? with
  | none=>rw[e]at htr;cases htr
  | some T=>exact⟨T,rfl,rfl⟩
 obtain⟨rfl,rfl⟩:pc=T.pc/\r=T.regs:=by rw[hT2]at htr;cases htr;exact⟨rfl,rfl⟩
 have hcode:M.codes[t]? = some (ei C t (C.len t)):=by rw[hcd];exact zc ht
 have hcl:(ei C t (C.len t)).length<=4000:=(hM.codes _ (aC hcode)).2
 have hgd:M.codes.getD t []=ei C t (C.len t):=by rw[List.getD_eq_getElem?_getD,hcode];rfl
 unfold lY;rw[hT,hgd];simp only
 have hend:∀k s:Int,k≠4/\k≠7->∃pl',MI C o (fd (lU M t T k s).1 t (lU M t T k s).2) pl':=λk s hk=>by
  obtain⟨h1,h2,h3⟩:=DP (M:=M) t T (-1) k s hk;exact⟨pl,h.stay hT2 h1 h2 h3⟩
 unfold jq
 split
 case isFalse=>exact⟨pl,h.stay (X:=(M,T)) hT2 (lw rfl (Eff.same _ rfl rfl λu=>rfl) rfl) rfl rfl⟩
 split
 ·exact hend _ _ (by decide)
 split
 case h_2=>exact hend _ _ (by decide)
 rename_i I hI;rcases hpl:pl t with⟨n,q⟩;rw[hpl]at hp
 have hn:n<C.len t:=by
  by_cases e:n=C.len t
  ·have h1:=hp.pc
   have h2:=hp.e e;simp only at h1 h2;subst h2 e;rw[h1,List.getElem?_eq_none (by omega)]at hI;cases hI
  ·have:=hp.n;simp only at this;omega
 have hI':(mH C t n)[q]? = some I:=by
  rw[<-wZ (λi hi=>hK t i ht hi) hn (hp.q hn),<-hI,hp.pc];simp only;congr 1
 have main:∀A,(aJ I.op=true->A=jx T I/\0<=A/\A<M.mem.length)->∃pl',MI C o (fd (gn M t T I A).1 t (gn M t T I A).2) pl':=λA hA=>by
  by_cases hf:(fO I.op=true/\fH M t≠0)\/(I.op=17/\eu M t=true)
  ·have e:gn M t T I A=(bD M t,T):=by unfold gn;rw[ag hf]
   rw[e];have h1:=h.flush hq hM t
   have h2:tr (bD M t) t=some (T.pc,T.regs):=by
    rw[<-hT2];unfold bD tr
    split
    ·split<;>rfl
    ·rfl
   exact⟨pl,h1.stay (X:=(bD M t,T)) h2 (lw rfl (Eff.same _ rfl rfl λu=>rfl) rfl) rfl rfl⟩
  ·exact FE hc hK h hq hr hM hN ht hT2 hcl hpl hp hn hI' hA hf
 unfold pX
 split
 ·exact hend _ _ (by decide)
 split
 ·split
  ·exact hend _ _ (by decide)
  ·rename_i e
   have hk:U32 I.k:=(hM.codes _ (aC hcode)).1 I (aC hI);have:=u4 (T:=T) (hM.regs T (aC hT)) hk;exact main _ (λ_=>⟨rfl,this.1,by omega⟩)
 ·rename_i e;exact main 0 (λe'=>absurd e' e)
theorem B9{C:Cl}{o:Nat->QO}{M:Mac}{pl:Nat->Nat×Nat}(hc:gG C)(hK:kF C)(h:MI C o M pl)(hq:∀j,gh C j->QOk C j (o j))(hr:ROk C)(hM:MOk M)(hcd:M.codes=de C)(hnt:M.threads.length=C.nt)(hN:M.evs.length<1000000)(x:Pik):∃pl',MI C o (kV M x) pl':=by
 unfold kV
 split
 ·exact⟨pl,h⟩
 split
 ·exact CU hc hK h hq hr hM hcd hN (by omega)
 split
 ·exact⟨pl,h.flush hq hM _⟩
 split
 ·unfold nF
  split
  ·exact⟨pl,h.quiet (λu=>sI _ _ _ _) (λlo hi s _ ho=>⟨ho.m,ho.b⟩) (l:=[_]) rfl (λe he=>by rw[List.mem_singleton]at he;subst he;exact⟨by simp,by simp⟩)⟩
  ·exact⟨pl,h⟩
 ·exact⟨pl,h⟩
theorem zz{C:Cl}{o:Nat->QO}(hc:gG C)(hK:kF C)(hq:∀j,gh C j->QOk C j (o j))(hr:ROk C):∀(l:List Pik) {M:Mac} {pl:Nat->Nat×Nat},MI C o M pl->MOk M->M.codes=de C->M.threads.length=C.nt->M.slp.length+l.length<=80000->M.evs.length+129 * l.length<1000000->∃pl',MI C o (m9 M l) pl'
 | [],M,pl,h,_,_,_,_,_=>⟨pl,h⟩
 | x :: l,M,pl,h,hM,hcd,hnt,hs,hN=>by
  simp only[List.length_cons]at hs hN;obtain⟨pl',h'⟩:=B9 hc hK h hq hr hM hcd hnt (by omega) x;have h1:=ss hM x (by omega);have h2:=h1.slp;have h3:=h1.ev;exact zz hc hK hq hr l h' h1.ok (h1.cd.trans hcd) (h1.tl.trans hnt) (by omega) (by omega)
def tkA(b t:Int):List Ins:=[⟨16,4,8,0,(b+2)%4294967296⟩,⟨1,5,0,0,(t+1)%4294967296⟩,⟨12,6,4,5,0⟩,⟨14,6,0,0,6⟩,⟨1,7,0,0,1⟩,⟨13,0,0,0,13⟩,⟨1,4,0,0,1⟩,⟨20,4,8,0,b%4294967296⟩,⟨16,6,8,0,(b+1)%4294967296⟩,⟨12,6,6,4,0⟩,⟨14,6,0,0,8⟩,⟨17,5,8,0,(b+2)%4294967296⟩,⟨1,7,0,0,0⟩]
def tkR(b t:Int):List Ins:=[⟨16,4,8,0,(b+2)%4294967296⟩,⟨1,5,0,0,(t+1)%4294967296⟩,⟨12,6,4,5,0⟩,⟨15,6,0,0,6⟩,⟨1,7,0,0,2⟩,⟨13,0,0,0,13⟩,⟨1,4,0,0,0⟩,⟨17,4,8,0,(b+2)%4294967296⟩,⟨16,4,8,0,(b+1)%4294967296⟩,⟨1,6,0,0,1⟩,⟨3,4,4,6,0⟩,⟨17,4,8,0,(b+1)%4294967296⟩,⟨1,7,0,0,0⟩]
def mcA(b n t:Int):List Ins:=[⟨16,4,8,0,(b+1)%4294967296⟩,⟨1,5,0,0,(t+1)%4294967296⟩,⟨12,6,4,5,0⟩,⟨14,6,0,0,6⟩,⟨1,7,0,0,1⟩,⟨13,0,0,0,18⟩,⟨1,4,0,0,0⟩,⟨17,4,8,0,(b+2+t)%4294967296⟩,⟨1,4,0,0,1⟩,⟨17,4,8,0,(b+2+n+t)%4294967296⟩,⟨1,4,0,0,(t+1)%4294967296⟩,⟨19,4,8,0,b⟩,⟨14,4,0,0,16⟩,⟨17,5,4,0,(b+2 - 1)%4294967296⟩,⟨16,6,8,0,(b+2+n+t)%4294967296⟩,⟨15,6,0,0,14⟩,⟨17,5,8,0,(b+1)%4294967296⟩,⟨1,7,0,0,0⟩]
def mcR(b n t:Int):List Ins:=[⟨16,4,8,0,(b+1)%4294967296⟩,⟨1,5,0,0,(t+1)%4294967296⟩,⟨12,6,4,5,0⟩,⟨15,6,0,0,6⟩,⟨1,7,0,0,2⟩,⟨13,0,0,0,20⟩,⟨1,4,0,0,0⟩,⟨17,4,8,0,(b+1)%4294967296⟩,⟨16,4,8,0,(b+2+t)%4294967296⟩,⟨15,4,0,0,17⟩,⟨2,4,5,0,0⟩,⟨1,6,0,0,0⟩,⟨21,4,8,6,b⟩,⟨12,6,4,5,0⟩,⟨15,6,0,0,19⟩,⟨16,4,8,0,(b+2+t)%4294967296⟩,⟨14,4,0,0,15⟩,⟨1,6,0,0,0⟩,⟨17,6,4,0,(b+2+n - 1)%4294967296⟩,⟨1,7,0,0,0⟩]
def clA(b n t:Int):List Ins:=[⟨16,4,8,0,(b+1)%4294967296⟩,⟨1,5,0,0,(t+1)%4294967296⟩,⟨12,6,4,5,0⟩,⟨14,6,0,0,6⟩,⟨1,7,0,0,1⟩,⟨13,0,0,0,15⟩,⟨16,4,8,0,(b+2+n+1+t)%4294967296⟩,⟨1,6,0,0,1⟩,⟨17,6,4,0,(b+2)%4294967296⟩,⟨19,4,8,0,b⟩,⟨17,4,8,0,(b+2+n+1+t+n)%4294967296⟩,⟨16,6,4,0,(b+2)%4294967296⟩,⟨15,6,0,0,11⟩,⟨17,5,8,0,(b+1)%4294967296⟩,⟨1,7,0,0,0⟩]
def clR(b n t:Int):List Ins:=[⟨16,4,8,0,(b+1)%4294967296⟩,⟨1,5,0,0,(t+1)%4294967296⟩,⟨12,6,4,5,0⟩,⟨15,6,0,0,6⟩,⟨1,7,0,0,2⟩,⟨13,0,0,0,14⟩,⟨1,4,0,0,0⟩,⟨17,4,8,0,(b+1)%4294967296⟩,⟨16,4,8,0,(b+2+n+1+t)%4294967296⟩,⟨16,6,8,0,(b+2+n+1+t+n)%4294967296⟩,⟨17,6,8,0,(b+2+n+1+t)%4294967296⟩,⟨1,6,0,0,0⟩,⟨17,6,4,0,(b+2)%4294967296⟩,⟨1,7,0,0,0⟩]
theorem BI(b t:Int):(aI (iK (aW BS.zero ((b+2)%4294967296) t) b)).fin=(tkA b t,true):=by kernel_rfl
theorem Dq(b t:Int):(aI (mE (aS BS.zero ((b+2)%4294967296) t) b)).fin=(tkR b t,true):=by kernel_rfl
theorem BL(b n t:Int):(aI (kQ (aW BS.zero ((b+1)%4294967296) t) b n t)).fin=(mcA b n t,true):=by kernel_rfl
theorem Dp(b n t:Int):(aI (iN (aS BS.zero ((b+1)%4294967296) t) b n t)).fin=(mcR b n t,true):=by kernel_rfl
theorem C3(b n t:Int):(aI (kK (aW BS.zero ((b+1)%4294967296) t) b n t)).fin=(clA b n t,true):=by kernel_rfl
theorem Dz(b n t:Int):(aI (iO (aS BS.zero ((b+1)%4294967296) t) b n t)).fin=(clR b n t,true):=by kernel_rfl
end Go.Proofs.YtldlcnaphednnaaGreatDoor
