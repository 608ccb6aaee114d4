/- What is wrong with a client first: plain. What is wrong with a client first: the program's answer. The code of locks that try again and again. -/
import Derived.Test.YtldlcnaphednnaaGreatDoorM12
set_option maxRecDepth 100000
set_option maxHeartbeats 32000000
set_option linter.unusedVariables false
set_option linter.unusedSimpArgs false
namespace Go.Proofs.YtldlcnaphednnaaGreatDoor
open Go.RowKit
section
variable {ops:Array Oper} {Q:Exit->Act->World->Prop}
end
def la{R:Type}(g:Nat->Option R)(n:Nat):Option R:=(List.range n).findSome? g
theorem lP{R:Type}{g:Nat->Option R}{n k:Nat}{r:R}(hk:k<n)(h:∀j,j<k->g j=none)(e:g k=some r):la g n=some r:=by
 unfold la;rw[List.findSome?_eq_some_iff];refine⟨List.range k,k,(List.range (n - k - 1)).map (λj=>k+1+j),?_,e,λa ha=>h a (List.mem_range.1 ha)⟩;apply List.ext_getElem
 ·simp<;>omega
 ·intro i h1 h2
  simp only[List.getElem_range,List.getElem_append,List.length_range,List.getElem_cons,List.getElem_map]
  split
  ·rfl
  ·split<;>omega
theorem ig{R:Type}{g:Nat->Option R}{n:Nat}(h:∀j,j<n->g j=none):la g n=none:=by
 unfold la;rw[List.findSome?_eq_none_iff];exact λa ha=>h a (List.mem_range.1 ha)
abbrev T3:=Int×Int×Int
def r3(p:T3):Value:=.tuple #[.int .i64 p.1,.int .i64 p.2.1,.int .i64 p.2.2]
def ld(C:Cl):Prop:=C.nt<1\/8<C.nt\/C.room<1\/16<C.room\/C.vars<0\/16<C.vars\/¬((C.nw:Int)=C.vars)
instance (C:Cl):Decidable (ld C):=by unfold ld;infer_instance
def qj(C:Cl)(i:Nat):Option T3:=if rb (C.f i) C.nt then none else some (-1,i,1)
def ua(C:Cl)(i:Nat):Option T3:=if(C.no:Int)<=C.own i\/C.own i < -(C.nt:Int) then some (-2,i,1) else none
def opE(C:Cl)(t i:Nat):Option T3:=if rgt C (C.op t i) then none else some (t,i,3)
def lX(C:Cl)(t:Nat):Option T3:=if 60<C.len t then some (t,-1,4) else la (opE C t) (C.len t)
def chk(C:Cl):T3:=
 if ld C then(-1,-1,1) else if 8<C.no then(-1,-1,4)
 else(((la (qj C) C.no).or (la (ua C) C.nw)).or (la (lX C) C.nt)).getD (0,0,0)
theorem ku{C:Cl}(h:ld C):chk C=(-1,-1,1):=ag h
theorem yM{C:Cl}(h:¬ld C)(h8:8<C.no):chk C=(-1,-1,4):=by unfold chk;rw[af h,ag h8]
section
variable {C:Cl} (h:¬ld C) (h8:¬8<C.no)
include h h8
theorem CD{k:Nat}(hk:k<C.no)(hp:∀j,j<k->rb (C.f j) C.nt=true)(e:rb (C.f k) C.nt=false):chk C=(-1,(k:Int),1):=by
 unfold chk;rw[af h,af h8,lP (r:=(-1,(k:Int),1)) hk (λj hj=>by unfold qj;rw[ag (hp j hj)]) (by unfold qj;rw[af (by rw[e];exact Bool.false_ne_true)])];rfl
variable (h1:∀j,j<C.no->rb (C.f j) C.nt=true)
include h1
theorem CN{k:Nat}(hk:k<C.nw)(hp:∀j,j<k->¬((C.no:Int)<=C.own j\/C.own j < -(C.nt:Int)))(e:(C.no:Int)<=C.own k\/C.own k < -(C.nt:Int)):chk C=(-2,(k:Int),1):=by
 unfold chk;rw[af h,af h8,ig (λj hj=>by unfold qj;rw[ag (h1 j hj)]),lP (r:=(-2,(k:Int),1)) hk (λj hj=>by unfold ua;rw[af (hp j hj)]) (by unfold ua;rw[ag e])];rfl
variable (h2:∀j,j<C.nw->¬((C.no:Int)<=C.own j\/C.own j < -(C.nt:Int)))
include h2
theorem BM{t:Nat}{r:T3}(ht:t<C.nt)(hp:∀j,j<t->lX C j=none)(e:lX C t=some r):chk C=r:=by
 unfold chk;rw[af h,af h8,ig (λj hj=>by unfold qj;rw[ag (h1 j hj)]),ig (λj hj=>by unfold ua;rw[af (h2 j hj)]),lP ht hp e];rfl
theorem Aj(hp:∀j,j<C.nt->lX C j=none):chk C=(0,0,0):=by
 unfold chk;rw[af h,af h8,ig (λj hj=>by unfold qj;rw[ag (h1 j hj)]),ig (λj hj=>by unfold ua;rw[af (h2 j hj)]),ig hp];rfl
end
theorem Bo{C:Cl}{t:Nat}(h:60<C.len t):lX C t=some ((t:Int),-1,4):=ag h
theorem EQ{C:Cl}{t k:Nat}(h:¬60<C.len t)(hk:k<C.len t)(hp:∀j,j<k->rgt C (C.op t j)=true)(e:rgt C (C.op t k)=false):lX C t=some ((t:Int),(k:Int),3):=by
 unfold lX;rw[af h,lP (r:=((t:Int),(k:Int),3)) hk (λj hj=>by unfold opE;rw[ag (hp j hj)]) (by unfold opE;rw[af (by rw[e];exact Bool.false_ne_true)])]
theorem yL{C:Cl}{t:Nat}(h:¬60<C.len t)(hp:∀j,j<C.len t->rgt C (C.op t j)=true):lX C t=none:=by
 unfold lX;rw[af h,ig (λj hj=>by unfold opE;rw[ag (hp j hj)])]
theorem sf(C:Cl)(w:World)(hM:MemC w C)(hN:NmW w):Calls Tryz.prog 25 #[C.v] w λe w'=>e=.returned (r3 (chk C))/\Below w.heap.size w w':=by
 have hal:=(ak w.heap.size w).alloc (ah _) (.cells #[.slice C.A C.no C.ca,.int .i64 C.vars,.slice C.W C.nw C.cw,.int .i64 C.room,.slice C.T C.nt C.ct] 26)
 by_cases h1:C.nt<1
 ·have hc:=ku (C:=C) (.inl h1)
  have h1':(C.nt:Int)<1:=by omega
  unfold Cl.v;go_enter Tryz.func25,Tryz.ntmps25;go_wp2;go_ret3
  exact⟨by first|rfl|(rw[hc];rfl),hal⟩
 have h1':¬((C.nt:Int)<1):=by omega
 by_cases h2:8<C.nt
 ·have hc:=ku (C:=C) (.inr (.inl h2))
  have h2':8<(C.nt:Int):=by omega
  unfold Cl.v;go_enter Tryz.func25,Tryz.ntmps25;go_wp2;go_ret3
  exact⟨by first|rfl|(rw[hc];rfl),hal⟩
 have h2':¬(8<(C.nt:Int)):=by omega
 by_cases h3:C.room<1
 ·have hc:=ku (C:=C) (.inr (.inr (.inl h3)))
  unfold Cl.v;go_enter Tryz.func25,Tryz.ntmps25;go_wp2;go_ret3
  exact⟨by first|rfl|(rw[hc];rfl),hal⟩
 by_cases h4:16<C.room
 ·have hc:=ku (C:=C) (.inr (.inr (.inr (.inl h4))))
  unfold Cl.v;go_enter Tryz.func25,Tryz.ntmps25;go_wp2;go_ret3
  exact⟨by first|rfl|(rw[hc];rfl),hal⟩
 by_cases h5:C.vars<0
 ·have hc:=ku (C:=C) (.inr (.inr (.inr (.inr (.inl h5)))))
  unfold Cl.v;go_enter Tryz.func25,Tryz.ntmps25;go_wp2;go_ret3
  exact⟨by first|rfl|(rw[hc];rfl),hal⟩
 by_cases h6:16<C.vars
 ·have hc:=ku (C:=C) (.inr (.inr (.inr (.inr (.inr (.inl h6))))))
  unfold Cl.v;go_enter Tryz.func25,Tryz.ntmps25;go_wp2;go_ret3
  exact⟨by first|rfl|(rw[hc];rfl),hal⟩
 by_cases hv:(C.nw:Int)=C.vars
 case neg=>
  have hc:=ku (C:=C) (.inr (.inr (.inr (.inr (.inr (.inr hv))))))
  have hv':((C.nw:Int) != C.vars)=true:=by simp[hv]
  unfold Cl.v;go_enter Tryz.func25,Tryz.ntmps25;go_wp2;go_ret3
  exact⟨by first|rfl|(rw[hc];rfl),hal⟩
 have hbad:¬ld C:=by rintro(h|h|h|h|h|h|h)<;>first|exact h1 h|exact h2 h|exact h3 h|exact h4 h|exact h5 h|exact h6 h|exact h hv
 have hv':((C.nw:Int) != C.vars)=false:=by simp[hv]
 have hnw:C.nw<=16:=by omega
 have hnt:C.nt<=8:=by omega
 clear hv
 by_cases h8:8<C.no
 ·have hc:=yM hbad h8
  have h8':8<(C.no:Int):=by omega
  unfold Cl.v;go_enter Tryz.func25,Tryz.ntmps25;go_wp2;go_ret3
  exact⟨by first|rfl|(rw[hc];rfl),hal⟩
 have h8':¬(8<(C.no:Int)):=by omega
 have cO:=λ{k}=>CD (C:=C) (k:=k) hbad h8;have cW:=λ{k}=>CN (C:=C) (k:=k) hbad h8;have cT:=λ{t r}=>BM (C:=C) (t:=t) (r:=r) hbad h8;have cF:=Aj (C:=C) hbad h8
 have hno:C.no<=8:=by omega
 generalize chk C=res at *;unfold Cl.v;go_enter Tryz.func25,Tryz.ntmps25;go_upto_region 7 with(fail);obtain⟨W,b1,e0,e1,X1,halW⟩:=aO w #[.slice C.A C.no C.ca,.int .i64 C.vars,.slice C.W C.nw C.cw,.int .i64 C.room,.slice C.T C.nt C.ct] 26;rw[e0,e1];clear e0 e1 h1 h2 h3 h4 h5 h6 h1' h2' h8' hv' hal h8 hbad;have hMW:=hM.below halW;have hNW:=hN.below halW;go_loopw [58] (λv wr=>∃k:Nat,v=.int .i64 k/\k<=C.no/\(∀j,j<k->rb (C.f j) C.nt=true)/\Below W.heap.size W wr) (λv _=>C.no - (intOf v).toNat)
 case atStart=>exact⟨0,rfl,au _,λp hp=>absurd hp (by omega),ak _ _⟩
 case round=>
  obtain⟨k,rfl,hk,hpre,hb⟩:=hrel;have X:=keep X1 hb
  by_cases hlt:k<C.no
  ·have hl0:(0:Int)<=k:=by omega
   have hl1:(k:Int)<C.no:=by omega
   obtain⟨bA,oA,eA⟩:=lp hMW.objs (by omega);have hA:=hMW.objs;rw[eA]at hA X;have y0:=ae wr b1 0 _ 26 _ X
   try rw[eA]
   go_upto_region 8 with(fail);refine ab ?_;refine Zv ?_;refine aG rfl (.pointer (some ⟨bA,oA+k * 4,none⟩)) ?_ ?_
   ·go_simp
   refine Zk ?_;refine Zu (ov (C.f k)) (j8 (.tmp 61) rfl bA oA k hA hb hlt rfl) ?_;refine Za 43 #[.int .i64 0,.int .i64 0,.int .i64 0,.int .i64 0] (λw4 b9 X4 l4 f4=>?_);refine aG rfl (.int .i64 k) ?_ ?_
   ·go_simp
   refine Zk ?_;refine Zo 43 b9 #[.int .i64 (C.f k).k,.int .i64 (C.f k).n,.int .i64 (C.f k).a,.int .i64 (C.f k).b] X4 (λw5 g1 g2 g3 g4=>?_);have hb5:Below wr.heap.size wr w5:=l4.trans (g3 _ (by simp only[Hid]at f4;omega));clear X4 l4 f4 g2 g3 g4 y0 X;go_upto_region 9 with(fail);refine ab ?_;refine Zd 43 g1 Tryz.underlying43 ?_;refine aG rfl (.int .i64 C.nt) ?_ ?_
   ·go_simp
   refine Zk ?_;refine Zc 36 #[ov (C.f k),.int .i64 C.nt] (.bool (rb (C.f k) C.nt)) (jn (C.f k) C.nt w5 ((hNW.below hb).below hb5)) (λw6 hb6=>?_);have hb7:Below W.heap.size W w6:=(hb.trans (hb5.mono hb.size)).trans (hb6.mono (ar hb.size hb5.size));clear g1 hb6 hb5
   by_cases hrb:rb (C.f k) C.nt=true
   ·rw[hrb]
    go_wp2;go_roundw
    case rel=>exact⟨k+1,by go_num,by omega,show(∀p,p<k+1->rb (C.f p) C.nt=true) from λp hp=>by
     rcases Nat.lt_succ_iff_lt_or_eq.1 hp with h|rfl
     ·exact hpre p h
     ·exact hrb,hb7⟩
    case measure=>simp[intOf];omega
   ·have hrb':rb (C.f k) C.nt=false:=by simpa using hrb
    have hc:=cO hlt hpre hrb';rw[hrb'];clear cO cW cT cF hpre;go_wp2;go_ret3
    exact⟨by first|rfl|(rw[hc];rfl),halW.trans (hb7.mono halW.size)⟩
  have hkn:k=C.no:=by omega
  have hl1:¬((k:Int)<C.no):=by omega
  rw[hkn]at hpre;replace cW:=λ{k}=>cW (k:=k) hpre;replace cT:=λ{t r}=>cT (t:=t) (r:=r) hpre;replace cF:=cF hpre;clear cO hpre hkn;have y0:=ae wr b1 0 _ 26 _ X;have y2:=ae wr b1 2 _ 26 _ X;go_upto_region 13 with(fail);obtain⟨v0,ev0⟩:∃x,x=wr:=⟨_,rfl⟩;subst ev0;clear hl1 y2 y0 hlt hk;go_loopw [72] (λv wr=>∃k:Nat,v=.int .i64 k/\k<=C.nw/\(∀j,j<k->¬((C.no:Int)<=C.own j\/C.own j < -(C.nt:Int)))/\Below v0.heap.size v0 wr) (λv _=>C.nw - (intOf v).toNat)
  case atStart=>exact⟨0,rfl,au _,λp hp=>absurd hp (by omega),ak _ _⟩
  case round=>
   obtain⟨k2,rfl,hk,hpre,hb2⟩:=hrel;have hb3:=hb.trans (hb2.mono hb.size);have X':=keep X1 hb3
   by_cases hlt:k2<C.nw
   ·have hl0:(0:Int)<=k2:=by omega
    have hl1:(k2:Int)<C.nw:=by omega
    obtain⟨bA,oA,eA⟩:=Bn hMW.own (by omega);have hA:=hMW.own;rw[eA]at hA X';have y0:=ae wr b1 0 _ 26 _ X';have y2:=ae wr b1 2 _ 26 _ X';have cA:=Ex (hA.below hb3) hlt
    try rw[eA]
    have hng:IntKind.i64.wrap (-(C.nt:Int))=-(C.nt:Int):=by simp only[IntKind.wrap_i64];omega
    clear cT cF
    by_cases g1:(C.no:Int)<=C.own k2
    ·have hc:=cW hlt hpre (.inl g1)
     clear cW hpre;go_wp2;go_ret3
     exact⟨by first|rfl|(rw[hc];rfl),halW.trans (hb3.mono halW.size)⟩
    ·by_cases g2:C.own k2 < -(C.nt:Int)
     ·have hc:=cW hlt hpre (.inr g2)
      clear cW hpre;go_wp2;go_ret3
      exact⟨by first|rfl|(rw[hc];rfl),halW.trans (hb3.mono halW.size)⟩
     ·have hpre':∀p,p<k2+1->¬((C.no:Int)<=C.own p\/C.own p < -(C.nt:Int)):=λp hp=>by
       rcases Nat.lt_succ_iff_lt_or_eq.1 hp with h|rfl
       ·exact hpre p h
       ·exact λh=>h.elim g1 g2
      clear cW hpre;go_wp2;go_roundw
      case rel=>exact⟨k2+1,by go_num,by omega,hpre',hb2⟩
      case measure=>simp[intOf];omega
   have hkn:k2=C.nw:=by omega
   have hl1:¬((k2:Int)<C.nw):=by omega
   rw[hkn]at hpre;replace cT:=λ{t r}=>cT (t:=t) (r:=r) hpre;replace cF:=cF hpre;clear cW hpre hkn;have y2:=ae wr b1 2 _ 26 _ X';have y4:=ae wr b1 4 _ 26 _ X';go_upto_region 19 with(fail);obtain⟨v1,ev1⟩:∃x,x=wr:=⟨_,rfl⟩;subst ev1;clear hl1 y2 y4 hlt hk;go_loopw [93] (λv wr=>∃k:Nat,v=.int .i64 k/\k<=C.nt/\(∀j,j<k->lX C j=none)/\Below v1.heap.size v1 wr) (λv _=>C.nt - (intOf v).toNat)
   case atStart=>exact⟨0,rfl,au _,λp hp=>absurd hp (by omega),ak _ _⟩
   case round=>
    obtain⟨t,rfl,hk,hpre,hb4⟩:=hrel;have hb5:=hb3.trans (hb4.mono hb3.size);have X2:=keep X1 hb5
    by_cases hlt:t<C.nt
    case neg=>
     have hkn:t=C.nt:=by omega
     have hl1:¬((t:Int)<C.nt):=by omega
     rw[hkn]at hpre;have hc:=cF hpre;clear cT cF hpre hkn;go_wp2;go_ret3
     exact⟨by first|rfl|(rw[hc];rfl),halW.trans (hb5.mono halW.size)⟩
    have hl0:(0:Int)<=t:=by omega
    have hl1:(t:Int)<C.nt:=by omega
    obtain⟨bA,oA,eA⟩:=oC hMW.thr (by omega);have hA:=hMW.thr;have hO:=hMW.ops t hlt
    have hKt:=λi hi=>hMW.hK t i hlt hi
    rw[eA]at hA X2
    try rw[eA]
    have y4:=ae wr b1 4 _ 26 _ X2;have cA:=o7 (hA.below hb5) hlt;have tL:=Bo (C:=C) (t:=t);have tO:=λ{k}=>EQ (C:=C) (t:=t) (k:=k);have tF:=yL (C:=C) (t:=t);have hct:=λ{r}=>cT (t:=t) (r:=r) hlt hpre
    by_cases hlen:60<C.len t
    ·have hlen':60<(C.len t:Int):=by omega
     have hc:=hct (tL hlen);clear cT cF hpre tL tO tF hct;go_wp2;go_ret3
     exact⟨by first|rfl|(rw[hc];rfl),halW.trans (hb5.mono halW.size)⟩
    have hlen':¬(60<(C.len t:Int)):=by omega
    replace tO:=λ{k}=>tO (k:=k) hlen;replace tF:=tF hlen
    have hln:C.len t<=60:=by omega
    clear tL hlen;have hT:Hid (∀w',Below W.heap.size W w'->w'.cell? ⟨bA,oA+t,none⟩=some (.slice (C.tp t) (C.len t) (C.tc t))):=λw' h=>o7 (hA.below h) hlt;generalize C.tp t=At at *;go_upto_region 24 with(fail);obtain⟨v2,ev2⟩:∃x,x=wr:=⟨_,rfl⟩;subst ev2;go_loopw [104] (λv wr=>∃k:Nat,v=.int .i64 k/\k<=C.len t/\(∀j,j<k->rgt C (C.op t j)=true)/\Below v2.heap.size v2 wr) (λv _=>C.len t - (intOf v).toNat)
    case atStart=>exact⟨0,rfl,au _,λp hp=>absurd hp (by omega),ak _ _⟩
    case round=>
     obtain⟨k,rfl,hk',hpre4,hb6⟩:=hrel;have hb7:=hb5.trans (hb6.mono hb5.size);have hb8:=hb4.trans (hb6.mono hb4.size);have X3:=keep X2 hb6;have y5:=ae wr b1 4 _ 26 _ X3;have cA':=hT.out _ hb7
     by_cases hlt4:k<C.len t
     case neg=>
      have hkn:k=C.len t:=by omega
      have hl2:¬((k:Int)<C.len t):=by omega
      rw[hkn]at hpre4;have hth:=tF hpre4
      have hpre':∀p,p<t+1->lX C p=none:=λp hp=>by
       rcases Nat.lt_succ_iff_lt_or_eq.1 hp with h|rfl
       ·exact hpre p h
       ·exact hth
      clear cT cF hpre tO tF hct hpre4 hkn hth;go_wp2;go_roundw
      case rel=>exact⟨t+1,by go_num,by omega,hpre',hb8⟩
      case measure=>simp[intOf];omega
     have hl2:(0:Int)<=k:=by omega
     have hl3:(k:Int)<C.len t:=by omega
     obtain⟨bO,oO,rfl⟩:=rA hO (by omega);have hOK:=hKt k hlt4;clear hKt;go_upto_region 25 with(fail);refine ab ?_;refine Zv ?_;refine aG rfl (.pointer (some ⟨bO,oO+k * 4,none⟩)) ?_ ?_
     ·go_simp
     refine Zk ?_;refine Zu (xv (C.op t k)) (pd (.tmp 107) rfl bO oO k hO hb7 hlt4 rfl) ?_;refine Za 49 #[.int .i64 0,.int .i64 0,.int .i64 0,.int .u32 0] (λw4 b9 X4 l4 f4=>?_);refine aG rfl (.int .i64 k) ?_ ?_
     ·go_simp
     refine Zk ?_;refine Zo 49 b9 #[.int .i64 (C.op t k).k,.int .i64 (C.op t k).a,.int .i64 (C.op t k).b,.int .u32 (C.op t k).K] X4 (λw5 g1 g2 g3 g4=>?_);have hbn:Below wr.heap.size wr w5:=l4.trans (g3 _ (by simp only[Hid]at f4;omega));clear X4 l4 f4 g2 g3 g4;have X5:=keep X3 hbn;have hbn7:=hb7.trans (hbn.mono hb7.size);go_upto_region 26 with(fail);refine ab ?_;refine Zd 26 X5 Tryz.underlying26 ?_;refine Zd 49 g1 Tryz.underlying49 ?_;refine rJ rfl 54 #[C.v,xv (C.op t k)] (.bool (rgt C (C.op t k))) _ ?_ (BQ C (C.op t k) hOK w5 (hMW.below hbn7) (hNW.below hbn7)) (λw6 hbc=>?_)
     ·unfold Cl.v xv;rw[eA];first|(go_simp;done)|(go_simp;rfl)
     refine Zk ?_;have hb9:Below v2.heap.size v2 w6:=(hb6.trans (hbn.mono hb6.size)).trans (hbc.mono (ar hb6.size hbn.size));clear g1 hbc hbn X5 X3
     by_cases hrg:rgt C (C.op t k)=true
     ·rw[hrg]
      have hpre':∀p,p<k+1->rgt C (C.op t p)=true:=λp hp=>by
       rcases Nat.lt_succ_iff_lt_or_eq.1 hp with h|rfl
       ·exact hpre4 p h
       ·exact hrg
      clear cT cF hpre tO tF hct hpre4;go_wp2;go_roundw
      case rel=>exact⟨k+1,by go_num,by omega,hpre',hb9⟩
      case measure=>simp[intOf];omega
     ·have hrg':rgt C (C.op t k)=false:=by simpa using hrg
      have hc:=hct (tO hlt4 hpre4 hrg');rw[hrg'];clear cT cF hpre tO tF hct hpre4;go_wp2;go_ret3
      exact⟨by first|rfl|(rw[hc];rfl),halW.trans ((hb5.trans (hb9.mono hb5.size)).mono halW.size)⟩
open Go.Maps
section
attribute [local simp] fL ft dD cN fN cL df dZ dr dj gD gz gA gy gQ eQ cH gE gV iZ gB dz iI dA dy dV dq iz ge dX eO dC dx eh iL cU dh dR fV fh fT dP dO fP iT dB eW fE cj ee iD iR dW
theorem own1(n a b:Int)(w:World):Calls Tryz.prog 116 #[.agg #[.int .i64 1,.int .i64 n,.int .i64 a,.int .i64 b]] w λe w'=>e=.returned (.int .i64 0)/\Below w.heap.size w w':=by
 go_enter Tryz.func116,Tryz.ntmps116;go_upto_region 1 with(fail);obtain⟨W,kB,e0,e1,XK,hal⟩:=aO w #[.int .i64 1,.int .i64 n,.int .i64 a,.int .i64 b] 43;rw[e0,e1];clear e0 e1;have y0:=ae W kB 0 _ 43 _ XK;go_wp2;go_ret;exact⟨rfl,hal⟩
theorem own2(n a b:Int)(w:World):Calls Tryz.prog 116 #[.agg #[.int .i64 2,.int .i64 n,.int .i64 a,.int .i64 b]] w λe w'=>e=.returned (.int .i64 0)/\Below w.heap.size w w':=by
 go_enter Tryz.func116,Tryz.ntmps116;go_upto_region 1 with(fail);obtain⟨W,kB,e0,e1,XK,hal⟩:=aO w #[.int .i64 2,.int .i64 n,.int .i64 a,.int .i64 b] 43;rw[e0,e1];clear e0 e1;have y0:=ae W kB 0 _ 43 _ XK;go_wp2;go_ret;exact⟨rfl,hal⟩
theorem own3(n a b:Int)(w:World):Calls Tryz.prog 116 #[.agg #[.int .i64 3,.int .i64 n,.int .i64 a,.int .i64 b]] w λe w'=>e=.returned (.int .i64 2)/\Below w.heap.size w w':=by
 go_enter Tryz.func116,Tryz.ntmps116;go_upto_region 1 with(fail);obtain⟨W,kB,e0,e1,XK,hal⟩:=aO w #[.int .i64 3,.int .i64 n,.int .i64 a,.int .i64 b] 43;rw[e0,e1];clear e0 e1;have y0:=ae W kB 0 _ 43 _ XK;go_wp2;go_ret;exact⟨rfl,hal⟩
theorem FQ(n a b:Int)(w:World):Calls Tryz.prog 116 #[.agg #[.int .i64 4,.int .i64 n,.int .i64 a,.int .i64 b]] w λe w'=>e=.returned (.int .i64 1)/\Below w.heap.size w w':=by
 go_enter Tryz.func116,Tryz.ntmps116;go_upto_region 1 with(fail);obtain⟨W,kB,e0,e1,XK,hal⟩:=aO w #[.int .i64 4,.int .i64 n,.int .i64 a,.int .i64 b] 43;rw[e0,e1];clear e0 e1;have y0:=ae W kB 0 _ 43 _ XK;go_wp2;go_ret;exact⟨rfl,hal⟩
theorem FO(n a b:Int)(w:World):Calls Tryz.prog 116 #[.agg #[.int .i64 5,.int .i64 n,.int .i64 a,.int .i64 b]] w λe w'=>e=.returned (.int .i64 1)/\Below w.heap.size w w':=by
 go_enter Tryz.func116,Tryz.ntmps116;go_upto_region 1 with(fail);obtain⟨W,kB,e0,e1,XK,hal⟩:=aO w #[.int .i64 5,.int .i64 n,.int .i64 a,.int .i64 b] 43;rw[e0,e1];clear e0 e1;have y0:=ae W kB 0 _ 43 _ XK;go_wp2;go_ret;exact⟨rfl,hal⟩
def fy(o:O)(call th t base arg:Int):List Ins×Bool:=
 if o.k=1 then(if a8 o call th t=true then(if call=1 then(aI (rV (aW BS.zero (base%4294967296) t) base)).fin else(aI (cE (aS BS.zero (base%4294967296) t) (base%4294967296))).fin) else([],false)) else(if o.k=2 then(if a8 o call th t=true then(if call=1 then(aI (mJ (aW BS.zero (base%4294967296) t) base)).fin else(aI (cE (aS BS.zero (base%4294967296) t) (base%4294967296))).fin) else([],false)) else(if o.k=3 then(if a8 o call th t=true then(if call=1 then(aI (iK (aW BS.zero ((base+2)%4294967296) t) base)).fin else(aI (mE (aS BS.zero ((base+2)%4294967296) t) base)).fin) else([],false)) else(([],false))))
theorem oG{o:O}{call th t base arg:Int}(h:o.k≠1/\o.k≠2/\o.k≠3):fy o call th t base arg=([],false):=by unfold fy;rw[af (show ¬o.k=1 by omega),af (show ¬o.k=2 by omega),af (show ¬o.k=3 by omega)]
theorem se{o:O}{call th t base arg:Int}(h:a8 o call th t=false):fy o call th t base arg=([],false):=by
 unfold fy;rw[h];simp only[Bool.false_eq_true,if_false,ite_self]
theorem C1{o:O}{call th t base arg:Int}(k:o.k=1)(h:a8 o call th t=true)(c0:(call=1)):fy o call th t base arg=(aI (rV (aW BS.zero (base%4294967296) t) base)).fin:=by unfold fy;rw[ag k,ag h,ag c0]
theorem Cu{o:O}{call th t base arg:Int}(k:o.k=1)(h:a8 o call th t=true)(c0:¬(call=1)):fy o call th t base arg=(aI (cE (aS BS.zero (base%4294967296) t) (base%4294967296))).fin:=by unfold fy;rw[ag k,ag h,af c0]
theorem Ch{o:O}{call th t base arg:Int}(k:o.k=2)(h:a8 o call th t=true)(c0:(call=1)):fy o call th t base arg=(aI (mJ (aW BS.zero (base%4294967296) t) base)).fin:=by unfold fy;rw[af (show ¬o.k=1 by omega),ag k,ag h,ag c0]
theorem CH{o:O}{call th t base arg:Int}(k:o.k=2)(h:a8 o call th t=true)(c0:¬(call=1)):fy o call th t base arg=(aI (cE (aS BS.zero (base%4294967296) t) (base%4294967296))).fin:=by unfold fy;rw[af (show ¬o.k=1 by omega),ag k,ag h,af c0]
theorem wI{o:O}{call th t base arg:Int}(k:o.k=3)(h:a8 o call th t=true)(c0:(call=1)):fy o call th t base arg=(aI (iK (aW BS.zero ((base+2)%4294967296) t) base)).fin:=by unfold fy;rw[af (show ¬o.k=1 by omega),af (show ¬o.k=2 by omega),ag k,ag h,ag c0]
theorem wv{o:O}{call th t base arg:Int}(k:o.k=3)(h:a8 o call th t=true)(c0:¬(call=1)):fy o call th t base arg=(aI (mE (aS BS.zero ((base+2)%4294967296) t) base)).fin:=by unfold fy;rw[af (show ¬o.k=1 by omega),af (show ¬o.k=2 by omega),ag k,ag h,af c0]
theorem Au(o:O)(call th t base arg:Int)(w:World)(hN:NmW w)(hI:IsaW w):Calls Tryz.prog 86 #[ov o,.int .i64 call,.int .i64 th,.int .i64 t,.int .u32 base,.int .u32 arg] w λe w'=>CodeR w w' (fy o call th t base arg) e/\Below w.heap.size w w':=by
 obtain⟨R,hR⟩:=Zh (fy o call th t base arg);rw[<-hR.out];have hM:=λw' (hb:Below w.heap.size w w')=>i4 o call th t w' (hN.below hb);have hRP:=λh=>(jz (o:=o) (c:=call) (t:=th) (u:=t) h);obtain⟨mb,hmb⟩:=Zh (a8 o call th t);rw[<-hmb.out]at hM hRP;obtain⟨ok,on,oa,ob⟩:=o;unfold ov at hM ⊢;simp only at hRP;go_enter Tryz.func86,Tryz.ntmps86;go_upto_region 1 with(fail);obtain⟨W,kB,e0,e1,XK,hal0⟩:=aO w #[.int .i64 ok,.int .i64 on,.int .i64 oa,.int .i64 ob] 43;rw[e0,e1];have hkw:w.heap.size<=kB:=aD e1;clear e0 e1;obtain⟨y0,y1,y2,y3⟩:=cl4 XK
 by_cases k1:ok=1
 ·subst k1
  go_wp2_with fail;refine(hM W hal0).mono ?_;rintro e w1 ⟨rfl,hb1⟩;clear y0 y1 y2 y3 hM;replace XK:=keep XK hb1;replace hal0:=hal0.trans (hb1.mono hal0.size);clear hb1;obtain⟨y0,y1,y2,y3⟩:=cl4 XK;cases mb
  ·obtain rfl:R=([],false):=hR.out.trans (se hmb.out.symm)
   clear hR hmb;go_wp2;go_ret2;exact⟨CodeR.no,hal0⟩
  go_upto_region 4 with(fail);obtain⟨w2,bb,e0,e1,XB,hb2⟩:=aO w1 #[.slice none 0 0,.map none,.slice none 0 0,.bool false] 202;rw[e0,e1];have hbb':w1.heap.size=bb:=e1;clear e0 e1 y0 y1 y2 y3
  have hbb:w.heap.size<=bb:=by have:=hal0.size;omega
  have hF:¬(kB=bb):=by have:=aB XK;omega
  replace XK:=keep XK hb2;have hB:=da XB;have hU:Upd (λk=>k=bb) (λk=>k=bb) w2 w2:=Upd.refl _ _;replace hal0:=hal0.trans (hb2.mono hal0.size);have hws:w.heap.size<=w2.heap.size:=hal0.size;have hkl:kB<w2.heap.size:=aB XK;clear hb2 XB hbb';obtain⟨y0,y1,y2,y3⟩:=cl4 XK;go_wp2_with fail;refine(own1 on oa ob _).mono ?_;rintro e w3 ⟨rfl,hb3⟩;clear y0 y1 y2 y3;replace XK:=keep XK hb3;replace hkl:kB<w3.heap.size:=aB XK;replace hB:=hB.below hb3;replace hU:=hU.trans (Upd.of_below hb3);clear hb3;obtain⟨y0,y1,y2,y3⟩:=cl4 XK
  obtain⟨hmay,hwho,hrp⟩:=hRP (by first|rfl|trivial)
  have htab:=fk hmay
  try simp only at htab
  by_cases c1:call=1
  ·subst c1
   replace hR:Hid (R=(aI (rV (aW BS.zero (base%4294967296) t) base)).fin):=hR.out.trans (C1 rfl hmb.out.symm rfl);clear hmb;clear hRP;go_wp2_with fail
   refine(Z1 XK hF hkl hU (gX hB (by simp<;>omega))).mono ?_
   clear y0 y1 y2 y3;rintro e wd ⟨rfl,F',hB,XK,hF,hkl,hU⟩;obtain⟨y0,y1,y2,y3⟩:=cl4 XK;go_upto_region 7 with(fail);clear y0 y1 y2 y3;refine ab ?_;refine aG rfl (.agg #[.func (.func 118) #[] #[],.func (.func 119) #[] #[],.func (.func 120) #[] #[]]) ?_ ?_
   ·go_simp
   refine Zk ?_;refine Za 207 #[.nilFunc,.nilFunc,.nilFunc] (λwa b16 X16 l16 f16=>?_);refine Zo 207 b16 #[.func (.func 118) #[] #[],.func (.func 119) #[] #[],.func (.func 120) #[] #[]] X16 (λw8 g1 g2 g3 g4=>?_);have hb7:Below wd.heap.size wd w8:=l16.trans (g3 _ (by simp only[Hid]at f16;omega));clear X16 l16 f16 g2 g3 g4;replace XK:=keep XK hb7;replace hkl:kB<w8.heap.size:=aB XK;replace hB:=hB.below hb7;replace hU:=hU.trans (Upd.of_below hb7);have yy:=ae w8 b16 0 _ 207 _ g1;clear g1 hb7;obtain⟨y0,y1,y2,y3⟩:=cl4 XK;go_wp2_with fail
   refine(Z1 XK hF hkl hU (tasC hB (by simp<;>omega))).mono ?_
   clear y0 y1 y2 y3;rintro e wd ⟨rfl,F',hB,XK,hF,hkl,hU⟩;obtain⟨y0,y1,y2,y3⟩:=cl4 XK;go_wp2_with fail
   refine(Z1 XK hF hkl hU (be hB (by simp<;>omega))).mono ?_
   clear y0 y1 y2 y3;rintro e wd ⟨rfl,F',hB,XK,hF,hkl,hU⟩;obtain⟨y0,y1,y2,y3⟩:=cl4 XK;have hal:=hal0.trans (hU.low _ (λk e=>by rw[e];exact hbb) hws)
   have hcb:=br hB ((aF (vK (aX aH)))).1 (by simp<;>omega) ((aF (vK (aX aH)))).2 (hI.below hal)
   rw[<-hR.out]at hcb;clear hR;go_wp2_with fail;refine hcb.mono ?_;rintro e w' ⟨⟨v,rfl,hv1,hv2⟩,hb'⟩;go_wp2;go_ret2;exact dE hal hv1 hv2 hb'
  ·have q1:(call == 1)=false:=by simp[c1]
   replace hR:Hid (R=(aI (cE (aS BS.zero (base%4294967296) t) (base%4294967296))).fin):=hR.out.trans (Cu rfl hmb.out.symm c1);clear hmb;clear hRP c1;go_wp2_with fail
   refine(Z1 XK hF hkl hU (gw hB (by simp<;>omega))).mono ?_
   clear y0 y1 y2 y3;rintro e wd ⟨rfl,F',hB,XK,hF,hkl,hU⟩;obtain⟨y0,y1,y2,y3⟩:=cl4 XK;go_wp2_with fail
   refine(Z1 XK hF hkl hU (gL hB (by simp<;>omega))).mono ?_
   clear y0 y1 y2 y3;rintro e wd ⟨rfl,F',hB,XK,hF,hkl,hU⟩;obtain⟨y0,y1,y2,y3⟩:=cl4 XK;go_wp2_with fail
   refine(Z1 XK hF hkl hU (be hB (by simp<;>omega))).mono ?_
   clear y0 y1 y2 y3;rintro e wd ⟨rfl,F',hB,XK,hF,hkl,hU⟩;obtain⟨y0,y1,y2,y3⟩:=cl4 XK;have hal:=hal0.trans (hU.low _ (λk e=>by rw[e];exact hbb) hws)
   have hcb:=br hB ((aF (bj (aU aH)))).1 (by simp<;>omega) ((aF (bj (aU aH)))).2 (hI.below hal)
   rw[<-hR.out]at hcb;clear hR;go_wp2_with fail;refine hcb.mono ?_;rintro e w' ⟨⟨v,rfl,hv1,hv2⟩,hb'⟩;go_wp2;go_ret2;exact dE hal hv1 hv2 hb'
 ·by_cases k2:ok=2
  ·subst k2
   go_wp2_with fail;refine(hM W hal0).mono ?_;rintro e w1 ⟨rfl,hb1⟩;clear y0 y1 y2 y3 hM;replace XK:=keep XK hb1;replace hal0:=hal0.trans (hb1.mono hal0.size);clear hb1;obtain⟨y0,y1,y2,y3⟩:=cl4 XK;cases mb
   ·obtain rfl:R=([],false):=hR.out.trans (se hmb.out.symm)
    clear hR hmb;go_wp2;go_ret2;exact⟨CodeR.no,hal0⟩
   go_upto_region 4 with(fail);obtain⟨w2,bb,e0,e1,XB,hb2⟩:=aO w1 #[.slice none 0 0,.map none,.slice none 0 0,.bool false] 202;rw[e0,e1];have hbb':w1.heap.size=bb:=e1;clear e0 e1 y0 y1 y2 y3
   have hbb:w.heap.size<=bb:=by have:=hal0.size;omega
   have hF:¬(kB=bb):=by have:=aB XK;omega
   replace XK:=keep XK hb2;have hB:=da XB;have hU:Upd (λk=>k=bb) (λk=>k=bb) w2 w2:=Upd.refl _ _;replace hal0:=hal0.trans (hb2.mono hal0.size);have hws:w.heap.size<=w2.heap.size:=hal0.size;have hkl:kB<w2.heap.size:=aB XK;clear hb2 XB hbb';obtain⟨y0,y1,y2,y3⟩:=cl4 XK;go_wp2_with fail;refine(own2 on oa ob _).mono ?_;rintro e w3 ⟨rfl,hb3⟩;clear y0 y1 y2 y3;replace XK:=keep XK hb3;replace hkl:kB<w3.heap.size:=aB XK;replace hB:=hB.below hb3;replace hU:=hU.trans (Upd.of_below hb3);clear hb3;obtain⟨y0,y1,y2,y3⟩:=cl4 XK
   obtain⟨hmay,hwho,hrp⟩:=hRP (by first|rfl|trivial)
   have htab:=fk hmay
   try simp only at htab
   by_cases c1:call=1
   ·subst c1
    replace hR:Hid (R=(aI (mJ (aW BS.zero (base%4294967296) t) base)).fin):=hR.out.trans (Ch rfl hmb.out.symm rfl);clear hmb;clear hRP;go_wp2_with fail
    refine(Z1 XK hF hkl hU (gX hB (by simp<;>omega))).mono ?_
    clear y0 y1 y2 y3;rintro e wd ⟨rfl,F',hB,XK,hF,hkl,hU⟩;obtain⟨y0,y1,y2,y3⟩:=cl4 XK;go_upto_region 7 with(fail);clear y0 y1 y2 y3;refine ab ?_;refine aG rfl (.agg #[.func (.func 118) #[] #[],.func (.func 119) #[] #[],.func (.func 120) #[] #[]]) ?_ ?_
    ·go_simp
    refine Zk ?_;refine Za 207 #[.nilFunc,.nilFunc,.nilFunc] (λwa b16 X16 l16 f16=>?_);refine Zo 207 b16 #[.func (.func 118) #[] #[],.func (.func 119) #[] #[],.func (.func 120) #[] #[]] X16 (λw8 g1 g2 g3 g4=>?_);have hb7:Below wd.heap.size wd w8:=l16.trans (g3 _ (by simp only[Hid]at f16;omega));clear X16 l16 f16 g2 g3 g4;replace XK:=keep XK hb7;replace hkl:kB<w8.heap.size:=aB XK;replace hB:=hB.below hb7;replace hU:=hU.trans (Upd.of_below hb7);have yy:=ae w8 b16 1 _ 207 _ g1;clear g1 hb7;obtain⟨y0,y1,y2,y3⟩:=cl4 XK;go_wp2_with fail
    refine(Z1 XK hF hkl hU (Gq hB (by simp<;>omega))).mono ?_
    clear y0 y1 y2 y3;rintro e wd ⟨rfl,F',hB,XK,hF,hkl,hU⟩;obtain⟨y0,y1,y2,y3⟩:=cl4 XK;go_wp2_with fail
    refine(Z1 XK hF hkl hU (be hB (by simp<;>omega))).mono ?_
    clear y0 y1 y2 y3;rintro e wd ⟨rfl,F',hB,XK,hF,hkl,hU⟩;obtain⟨y0,y1,y2,y3⟩:=cl4 XK;have hal:=hal0.trans (hU.low _ (λk e=>by rw[e];exact hbb) hws)
    have hcb:=br hB ((aF (tM (aX aH)))).1 (by simp<;>omega) ((aF (tM (aX aH)))).2 (hI.below hal)
    rw[<-hR.out]at hcb;clear hR;go_wp2_with fail;refine hcb.mono ?_;rintro e w' ⟨⟨v,rfl,hv1,hv2⟩,hb'⟩;go_wp2;go_ret2;exact dE hal hv1 hv2 hb'
   ·have q1:(call == 1)=false:=by simp[c1]
    replace hR:Hid (R=(aI (cE (aS BS.zero (base%4294967296) t) (base%4294967296))).fin):=hR.out.trans (CH rfl hmb.out.symm c1);clear hmb;clear hRP c1;go_wp2_with fail
    refine(Z1 XK hF hkl hU (gw hB (by simp<;>omega))).mono ?_
    clear y0 y1 y2 y3;rintro e wd ⟨rfl,F',hB,XK,hF,hkl,hU⟩;obtain⟨y0,y1,y2,y3⟩:=cl4 XK;go_wp2_with fail
    refine(Z1 XK hF hkl hU (gL hB (by simp<;>omega))).mono ?_
    clear y0 y1 y2 y3;rintro e wd ⟨rfl,F',hB,XK,hF,hkl,hU⟩;obtain⟨y0,y1,y2,y3⟩:=cl4 XK;go_wp2_with fail
    refine(Z1 XK hF hkl hU (be hB (by simp<;>omega))).mono ?_
    clear y0 y1 y2 y3;rintro e wd ⟨rfl,F',hB,XK,hF,hkl,hU⟩;obtain⟨y0,y1,y2,y3⟩:=cl4 XK;have hal:=hal0.trans (hU.low _ (λk e=>by rw[e];exact hbb) hws)
    have hcb:=br hB ((aF (bj (aU aH)))).1 (by simp<;>omega) ((aF (bj (aU aH)))).2 (hI.below hal)
    rw[<-hR.out]at hcb;clear hR;go_wp2_with fail;refine hcb.mono ?_;rintro e w' ⟨⟨v,rfl,hv1,hv2⟩,hb'⟩;go_wp2;go_ret2;exact dE hal hv1 hv2 hb'
  ·by_cases k3:ok=3
   ·subst k3
    go_wp2_with fail;refine(hM W hal0).mono ?_;rintro e w1 ⟨rfl,hb1⟩;clear y0 y1 y2 y3 hM;replace XK:=keep XK hb1;replace hal0:=hal0.trans (hb1.mono hal0.size);clear hb1;obtain⟨y0,y1,y2,y3⟩:=cl4 XK;cases mb
    ·obtain rfl:R=([],false):=hR.out.trans (se hmb.out.symm)
     clear hR hmb;go_wp2;go_ret2;exact⟨CodeR.no,hal0⟩
    go_upto_region 4 with(fail);obtain⟨w2,bb,e0,e1,XB,hb2⟩:=aO w1 #[.slice none 0 0,.map none,.slice none 0 0,.bool false] 202;rw[e0,e1];have hbb':w1.heap.size=bb:=e1;clear e0 e1 y0 y1 y2 y3
    have hbb:w.heap.size<=bb:=by have:=hal0.size;omega
    have hF:¬(kB=bb):=by have:=aB XK;omega
    replace XK:=keep XK hb2;have hB:=da XB;have hU:Upd (λk=>k=bb) (λk=>k=bb) w2 w2:=Upd.refl _ _;replace hal0:=hal0.trans (hb2.mono hal0.size);have hws:w.heap.size<=w2.heap.size:=hal0.size;have hkl:kB<w2.heap.size:=aB XK;clear hb2 XB hbb';obtain⟨y0,y1,y2,y3⟩:=cl4 XK;go_wp2_with fail;refine(own3 on oa ob _).mono ?_;rintro e w3 ⟨rfl,hb3⟩;clear y0 y1 y2 y3;replace XK:=keep XK hb3;replace hkl:kB<w3.heap.size:=aB XK;replace hB:=hB.below hb3;replace hU:=hU.trans (Upd.of_below hb3);clear hb3;obtain⟨y0,y1,y2,y3⟩:=cl4 XK
    obtain⟨hmay,hwho,hrp⟩:=hRP (by first|rfl|trivial)
    have htab:=fk hmay
    try simp only at htab
    by_cases c1:call=1
    ·subst c1
     replace hR:Hid (R=(aI (iK (aW BS.zero ((base+2)%4294967296) t) base)).fin):=hR.out.trans (wI rfl hmb.out.symm rfl);clear hmb;clear hRP;go_wp2_with fail
     refine(Z1 XK hF hkl hU (gX hB (by simp<;>omega))).mono ?_
     clear y0 y1 y2 y3;rintro e wd ⟨rfl,F',hB,XK,hF,hkl,hU⟩;obtain⟨y0,y1,y2,y3⟩:=cl4 XK;go_upto_region 7 with(fail);clear y0 y1 y2 y3;refine ab ?_;refine aG rfl (.agg #[.func (.func 118) #[] #[],.func (.func 119) #[] #[],.func (.func 120) #[] #[]]) ?_ ?_
     ·go_simp
     refine Zk ?_;refine Za 207 #[.nilFunc,.nilFunc,.nilFunc] (λwa b16 X16 l16 f16=>?_);refine Zo 207 b16 #[.func (.func 118) #[] #[],.func (.func 119) #[] #[],.func (.func 120) #[] #[]] X16 (λw8 g1 g2 g3 g4=>?_);have hb7:Below wd.heap.size wd w8:=l16.trans (g3 _ (by simp only[Hid]at f16;omega));clear X16 l16 f16 g2 g3 g4;replace XK:=keep XK hb7;replace hkl:kB<w8.heap.size:=aB XK;replace hB:=hB.below hb7;replace hU:=hU.trans (Upd.of_below hb7);have yy:=ae w8 b16 2 _ 207 _ g1;clear g1 hb7;obtain⟨y0,y1,y2,y3⟩:=cl4 XK;go_wp2_with fail
     refine(Z1 XK hF hkl hU (B7 hB (by simp<;>omega))).mono ?_
     clear y0 y1 y2 y3;rintro e wd ⟨rfl,F',hB,XK,hF,hkl,hU⟩;obtain⟨y0,y1,y2,y3⟩:=cl4 XK;go_wp2_with fail
     refine(Z1 XK hF hkl hU (be hB (by simp<;>omega))).mono ?_
     clear y0 y1 y2 y3;rintro e wd ⟨rfl,F',hB,XK,hF,hkl,hU⟩;obtain⟨y0,y1,y2,y3⟩:=cl4 XK;have hal:=hal0.trans (hU.low _ (λk e=>by rw[e];exact hbb) hws)
     have hcb:=br hB ((aF (pY (aX aH)))).1 (by simp<;>omega) ((aF (pY (aX aH)))).2 (hI.below hal)
     rw[<-hR.out]at hcb;clear hR;go_wp2_with fail;refine hcb.mono ?_;rintro e w' ⟨⟨v,rfl,hv1,hv2⟩,hb'⟩;go_wp2;go_ret2;exact dE hal hv1 hv2 hb'
    ·have q1:(call == 1)=false:=by simp[c1]
     replace hR:Hid (R=(aI (mE (aS BS.zero ((base+2)%4294967296) t) base)).fin):=hR.out.trans (wv rfl hmb.out.symm c1);clear hmb;clear hRP c1;go_wp2_with fail
     refine(Z1 XK hF hkl hU (gw hB (by simp<;>omega))).mono ?_
     clear y0 y1 y2 y3;rintro e wd ⟨rfl,F',hB,XK,hF,hkl,hU⟩;obtain⟨y0,y1,y2,y3⟩:=cl4 XK;go_wp2_with fail
     refine(Z1 XK hF hkl hU (GR hB (by simp<;>omega))).mono ?_
     clear y0 y1 y2 y3;rintro e wd ⟨rfl,F',hB,XK,hF,hkl,hU⟩;obtain⟨y0,y1,y2,y3⟩:=cl4 XK;go_wp2_with fail
     refine(Z1 XK hF hkl hU (be hB (by simp<;>omega))).mono ?_
     clear y0 y1 y2 y3;rintro e wd ⟨rfl,F',hB,XK,hF,hkl,hU⟩;obtain⟨y0,y1,y2,y3⟩:=cl4 XK;have hal:=hal0.trans (hU.low _ (λk e=>by rw[e];exact hbb) hws)
     have hcb:=br hB ((aF (sT (aU aH)))).1 (by simp<;>omega) ((aF (sT (aU aH)))).2 (hI.below hal)
     rw[<-hR.out]at hcb;clear hR;go_wp2_with fail;refine hcb.mono ?_;rintro e w' ⟨⟨v,rfl,hv1,hv2⟩,hb'⟩;go_wp2;go_ret2;exact dE hal hv1 hv2 hb'
   ·have q:ok<1\/3<ok:=by omega
    obtain rfl:R=([],false):=hR.out.trans (oG ⟨k1,k2,k3⟩);clear hR hmb k1 k2 k3;go_wp2
    all_goals go_ret2
    all_goals exact⟨CodeR.no,hal0⟩
end
end Go.Proofs.YtldlcnaphednnaaGreatDoor
