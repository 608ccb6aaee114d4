/- A thread's next instruction. -/
import Derived.Test.YtldlcnaphednnaaGreatDoorM29
set_option maxRecDepth 100000
set_option maxHeartbeats 32000000
set_option linter.unusedVariables false
set_option linter.unusedSimpArgs false
namespace Go.Proofs.YtldlcnaphednnaaGreatDoor
open Go.RowKit Go.Maps
theorem dY{w w':World}(h:w'=w):Below w.heap.size w w':=by rw[h];exact ak _ _
theorem xN{b ti:Nat}{F:Nat->Prop}{M:Mac}{w:World}(hM:MMem w b F M)(h:MOk M)(hi:ti<M.threads.length):Calls Tryz.prog 105 #[sdV b ti] w λe w'=>e=.returned (.bool (!eu M ti))/\Below w.heap.size w w':=by
 obtain⟨x,hx⟩:=h.at hi
 have e:eu M ti=decide (x.room<=x.n):=by simp only[eu,hx]
 rw[e];exact yF hM hx
def g9(M:Mac)(ti:Nat)(op:Int):Bool:=decide ((fO op=true/\fH M ti≠0)\/(op=17/\eu M ti=true))
theorem rj{M:Mac}{ti:Nat}{T:Th}{I:Ins}{A:Int}(h:true=g9 M ti I.op):gn M ti T I A=(bD M ti,T):=ag (of_decide_eq_true h.symm)
theorem zF{M:Mac}{ti:Nat}{T:Th}{I:Ins}{A:Int}(h:false=g9 M ti I.op):gn M ti T I A=(if I.op=0 then lU M ti T 12 2 else if bt I.op=true then(if mf T I=true then(M,{ T with pc:=I.k }) else iJ (M,T)) else if aJ I.op=true then iJ (cR M ti T I A) else iJ (cJ M ti T I A)):=af (of_decide_eq_false h.symm)
theorem CF{M:Mac}{ti:Nat}{op:Int}(h:false=g9 M ti op)(e:op=17):eu M ti=false:=by
 cases hf:eu M ti with
 | false=>rfl
 | true=>exact absurd (.inr ⟨e,hf⟩) (of_decide_eq_false h.symm)
theorem CO(M:Mac)(ti:Nat)(T:Th)(I:Ins)(A:Int):(cR M ti T I A).2.pc=T.pc:=by
 unfold cR bz me
 repeat' split
 all_goals rfl
theorem Ap(M:Mac)(ti:Nat)(T:Th)(I:Ins)(A:Int):(cJ M ti T I A).2.pc=T.pc:=by
 unfold cJ
 repeat' split
 all_goals rfl
theorem mP{op:Int}(h:true=fO op):¬op=17:=λe=>by rw[e]at h;exact absurd h (by decide)
theorem DQ{b ti:Nat}{F:Nat->Prop}{M:Mac}{T:Th}{code:List Ins}{vc:Value}{w:World}(hM:MMem w b F M)(hO:Own eI w vc code)(hok:MOk M)(hi:ti<M.threads.length)(hT:RU T)(hK0:KOk code)(hcl:code.length<=4000)(hs:M.evs.length+129<=3000000)(hl:M.slp.length<=80000)(hW:IsaW w):Calls Tryz.prog 80 #[.agg (bp T).toArray,vc,.agg (nR b ti M.mem.length).toArray] w λe w'=>∃X,Hid (X=jq M ti T code)/\e=.returned (.agg (bp X.2).toArray)/\∃F',MMem w' b F' X.1/\Upd F F' w w':=by
 obtain⟨X,hX⟩:=Zh (jq M ti T code);refine Calls.mono (P:=Tryz.prog) (?_:Calls Tryz.prog 80 _ w λe w'=>e=.returned (.agg (bp X.2).toArray)/\∃F',MMem w' b F' X.1/\Upd F F' w w') (λe w' h=>⟨X,hX,h⟩);obtain⟨n,hN⟩:=Zh (M.mem.length);rw[<-hN.out];obtain⟨L,hL⟩:=Zh (code.length);obtain⟨pv,cc,rfl⟩:=hO.form2
 have hcl':L<=4000:=by rw[hL.out];exact hcl
 have hs':M.evs.length<=3000000:=by omega
 clear hcl;rw[<-hL.out]at hO ⊢;unfold jq at hX;go_enter Tryz.func80,Tryz.ntmps80;go_upto_region 1 with(fail);obtain⟨W,kT,kP,kX,e0,e1,e2,e3,XT,XP,XX,hal⟩:=Bw w (bp T).toArray (nR b ti n).toArray #[.int .i64 0,.int .u32 0,.int .u32 0,.int .u32 0,.int .u32 0,.int .u32 0,.int .u32 0,.int .u32 0,.int .u32 0,.int .i64 0] 153 174 153;rw[e0,e3,e2,e1]
 have hkX:w.heap.size<=kX:=by omega
 have hkT:w.heap.size<=kT:=by omega
 clear e0 e1 e2 e3;have hM1:=hM.below hal;have yst:W.cell? ⟨kT,9,none⟩=some (.int .i64 T.st):=ae W kT 9 _ 153 _ XT
 by_cases hst:T.st=0
 case neg=>
  rw[af hst]at hX;go_upto_region 2 with(fail);refine ab ?_;refine Zd 153 XT Tryz.underlying153 ?_;refine bx rfl 153 (.tmp 6) (.tmp 12) rfl kX (bp T).toArray rfl rfl 153 _ XX (by kernel_rfl) rfl (by simp[Value.oneCell',bp]) (λw90 g1 g2 g3 g4=>?_);refine Zk ?_;go_wp2;refine fK rfl rfl g1 rfl Tryz.underlying153 (by kernel_rfl) rfl ?_;rw[hX.out];exact⟨rfl,F,hM1.keptF (λh=>by have:=hM.lt kX h;omega) XX (by decide) g2,(Upd.of_below hal).fresh hkX g2 g3⟩
 rw[ag hst]at hX;rw[hst]at yst;go_upto_region 3 with(fail);refine ab ?_;refine Zd 153 XT Tryz.underlying153 ?_;refine Zd 174 XP Tryz.underlying174 ?_;refine aG rfl (.agg (kh b ti n T ⟨0,0,0,0,0⟩ 0)) ?_ ?_
 ·first|(go_simp;done)|kernel_rfl|(go_simp;rfl)
 refine Zk ?_
 refine dJ rfl (.pointer (some ⟨W.heap.size,0,none⟩)) (w':=W.alloc (.cells (kh b ti n T ⟨0,0,0,0,0⟩ 0) 192)) (by first|kernel_rfl|(go_simp;done)|(go_simp;rfl)) ?_
 obtain⟨w1,kR,e0,e1,XR,hal1⟩:=aO W (kh b ti n T ⟨0,0,0,0,0⟩ 0) 192;rw[e0,e1]
 have hkR:w.heap.size<=kR:=by have:=hal.size;omega
 have hne:kX≠kR:=by have:=aB XX;omega
 have hneT:kT≠kR:=by have:=aB XT;omega
 clear e0 e1;refine Zk ?_;refine Zv ?_;have hB1:=hal.trans (hal1.mono hal.size);have hR1:RM w1 b kR F M T ⟨0,0,0,0,0⟩ 0 ti n:=⟨hM1.below hal1,XR,λh=>by have:=hM.lt kR h;omega⟩;have hn:¬Or1 F kR kX:=λh=>h.elim (λh=>by have:=hM.lt kX h;omega) hne;have hnT:¬Or1 F kR kT:=λh=>h.elim (λh=>by have:=hM.lt kT h;omega) hneT;have X1:=keep XX hal1;have XT1:=keep XT hal1;have XP1:=keep XP hal1;have hX1:=aB X1;have hO1:=hO.below hB1;have ypc:w1.cell? ⟨kT,0,none⟩=some (.int .i64 T.pc):=ae w1 kT 0 _ 153 _ XT1;clear hal1 hal hM1 XX XT XP yst hne hM hO hneT hkT
 by_cases hp0:T.pc<0
 ·rw[ag hp0]at hX
  go_upto_region 5 with(fail);refine ab ?_;refine Zv ?_;refine eZ rfl 96 #[.pointer (some ⟨kR,0,none⟩)] ?_ (uU hR1 hs') (λF70 w70 hR70 hU70=>?_)
  ·first|(go_simp;done)|(go_simp;rfl)
  refine Zk ?_;have X70:=hU70.kept X1 hn;refine bx rfl 153 (.tmp 6) (.tmp 28) rfl kX (bp (jw T 2)).toArray rfl rfl 153 _ X70 (by kernel_rfl) rfl (by simp[Value.oneCell',bp]) (λw90 g1 g2 g3 g4=>?_);refine Zk ?_;go_wp2;refine fK rfl rfl g1 rfl Tryz.underlying153 (by kernel_rfl) rfl ?_;rw[hX.out];exact⟨rfl,gH hB1 hkR hkX hU70 hR70 hn hX1 X70 g2 g3⟩
 rw[af hp0]at hX;obtain⟨pn,hpn⟩:∃pn:Nat,T.pc=pn:=⟨T.pc.toNat,by omega⟩;rw[hpn]at ypc hX;have hpn':Hid (T.pc=pn):=hpn;rw[Int.toNat_natCast]at hX
 have q0:(0:Int)<=pn:=by omega
 have q1:¬(pn:Int)<0:=by omega
 clear hp0
 by_cases hpL:L<=pn
 ·have q2:(L:Int)<=pn:=by omega
  have hX2:Hid (X=lU M ti T 12 2):=by rw[List.getElem?_eq_none (by rw[<-hL.out];exact hpL)]at hX;exact hX.out
  clear hX hpn;have hX:=hX2;clear hX2;go_upto_region 5 with(fail);refine ab ?_;refine Zv ?_;refine eZ rfl 96 #[.pointer (some ⟨kR,0,none⟩)] ?_ (uU hR1 hs') (λF70 w70 hR70 hU70=>?_)
  ·first|(go_simp;done)|(go_simp;rfl)
  refine Zk ?_;have X70:=hU70.kept X1 hn;refine bx rfl 153 (.tmp 6) (.tmp 28) rfl kX (bp (jw T 2)).toArray rfl rfl 153 _ X70 (by kernel_rfl) rfl (by simp[Value.oneCell',bp]) (λw90 g1 g2 g3 g4=>?_);refine Zk ?_;go_wp2;refine fK rfl rfl g1 rfl Tryz.underlying153 (by kernel_rfl) rfl ?_;rw[hX.out];exact⟨rfl,gH hB1 hkR hkX hU70 hR70 hn hX1 X70 g2 g3⟩
 have q2:¬(L:Int)<=pn:=by omega
 have q3:(pn:Int)<L:=by omega
 have hpl:pn<code.length:=by rw[<-hL.out];omega
 obtain⟨I,hI⟩:∃I,code[pn]? = some I:=⟨code[pn],aq hpl⟩
 have hX2:Hid (X=pX M ti T I L):=by rw[hI]at hX;rw[hL.out];exact hX.out
 have hIk:U32 I.k:=hK0 I (aC hI);clear hX;have hX:=hX2;clear hX2 hK0
 obtain⟨g,rfl⟩:∃g,pv=some ⟨g,0,none⟩:=by
  rcases hO1.form with⟨_,e⟩|⟨g,c,e,_⟩
  ·rw[e]at hpl;exact absurd hpl (Nat.not_lt_zero _)
  ·simp only[Value.slice.injEq]at e;exact⟨g,e.1⟩
 have hrg:w1.rangeAt g (pn * 5) (dH I):=by
  have h1:=(hO1.at lB).elem lB hI;rw[Nat.zero_add]at h1;exact h1
 clear hpl hI;go_upto_region 6 with(fail);refine ab ?_
 iterate 4 refine Zv ?_
 refine aG rfl (.pointer (some ⟨g,pn * 5,none⟩)) ?_ ?_
 ·go_simp
 refine Zk ?_;refine dJ rfl (.agg (dH I).toArray) (aZ 115 (.tmp 33) rfl g (pn * 5) rfl (dH I) _ hrg Tryz.underlying115 rfl (by kernel_rfl)) ?_;refine Zk ?_
 iterate 2 refine Zv ?_
 refine Cq rfl (.tmp 36) (.tmp 34) rfl hR1 I rfl rfl (λw2 hR2 p3 p2=>?_);refine Zk ?_;have hB2:=hB1.trans (p3 _ hkR);have X2:=(p2 kX (λe=>hn (.inr e))).trans X1;have XT2:=(p2 kT (λe=>aK XT1 hR1.r (by decide) e)).trans XT1;have XP2:=(p2 kP (λe=>aK XP1 hR1.r (by decide) e)).trans XP1
 have hpn4:pn<=4000:=by omega
 clear hR1 hB1 X1 XT1 XP1 p2 p3 hrg hO1 ypc q2 q3 q1 q0 hpn hX1;unfold pX at hX;go_upto_region 7 with(fail);refine ab ?_
 iterate 3 refine Zv ?_
 refine dJ rfl (.agg (dH I).toArray) (aZ 115 (.tmp 39) rfl kR 10 rfl (dH I) _ hR2.ins Tryz.underlying115 rfl (by kernel_rfl)) ?_;refine Zk ?_
 iterate 2 refine Zv ?_
 have hrt:=tD I L hIk ⟨by omega,by omega⟩ w2 (hW.below hB2);obtain⟨rb,hrb⟩:=Zh (ik I L);rw[<-hrb.out]at hrt hX;refine Zq 58 #[iV I,.int .i64 L] (hrt) (λw3 h3=>?_);refine Zv ?_;have hB3:=hB2.trans (h3.mono hB2.size);have hR3:=hR2.below h3;have X3:=keep X2 h3;have XT3:=keep XT2 h3;have XP3:=keep XP2 h3;have hX1:=aB X3;clear h3 hB2 hR2 X2 XT2 XP2 hrt
 cases rb with
 | false=>
  rw[ag rfl]at hX;go_upto_region 8 with(fail);refine ab ?_;refine Zv ?_;refine eZ rfl 97 #[.pointer (some ⟨kR,0,none⟩)] ?_ (vY hR3 hs') (λF70 w70 hR70 hU70=>?_)
  ·first|(go_simp;done)|(go_simp;rfl)
  refine Zk ?_;have X70:=hU70.kept X3 hn;refine bx rfl 153 (.tmp 6) (.tmp 46) rfl kX (bp (jw T 3)).toArray rfl rfl 153 _ X70 (by kernel_rfl) rfl (by simp[Value.oneCell',bp]) (λw90 g1 g2 g3 g4=>?_);refine Zk ?_;go_wp2;refine fK rfl rfl g1 rfl Tryz.underlying153 (by kernel_rfl) rfl ?_;rw[hX.out];exact⟨rfl,gH hB3 hkR hkX hU70 hR70 hn hX1 X70 g2 g3⟩
 | true=>
 rw[af (by decide)]at hX;obtain⟨⟨a,ha,h8⟩,⟨c2,hc2,c8⟩,hb0⟩:=xY hrb.out.symm;clear hrb;obtain⟨am,ham⟩:=Zh (aJ I.op);rw[<-ham.out]at hX hb0;have hak:=zw I.op w3 (hW.below hB3);rw[<-ham.out]at hak;have y10:w3.cell? ⟨kR,10,none⟩=some (.int .i64 I.op):=hR3.cell rfl;go_upto_region 9 with(fail);refine ab ?_
 iterate 5 refine Zv ?_
 refine Zq 98 #[.int .i64 I.op] (hak.mono λe w' h=>⟨h.1,dY h.2⟩) (λw4 h4=>?_);have hB4:=hB3.trans (h4.mono hB3.size);have hR4:=hR3.below h4;have X4:=keep X3 h4;have XT4:=keep XT3 h4;have XP4:=keep XP3 h4;have hX1:=aB X4;clear h4 hB3 hR3 X3 XT3 XP3 hak y10
 cases am with
 | false=>
  rw[af (by decide)]at hX;obtain⟨c1,hc1,b8⟩:=hb0 rfl;obtain⟨sb,hsb⟩:=Zh (g9 M ti I.op);go_upto_region 14 with(fail);go_cut [97] from 72 to 97 (λs97 wx=>s97=.bool sb/\Below w4.heap.size w4 wx)
  case first=>
   have y10:w4.cell? ⟨kR,10,none⟩=some (.int .i64 I.op):=hR4.cell rfl;obtain⟨d,hd⟩:=Zh (fO I.op);have hdr:=wu I.op w4;rw[<-hd.out]at hdr;obtain⟨l0,hl0⟩:=Zh (decide (fH M ti=0));have hem:=λ(w':World) (h:Below w4.heap.size w4 w')=>mx (hR4.m.below h) hok hi;rw[<-hl0.out]at hem
   cases d with
   | true=>
    have h17:(I.op == 17)=false:=by rw[beq_eq_false_iff_ne];exact mP hd.out
    cases l0 with
    | true=>
     have hsv:sb=false:=by
      rw[hsb.out];unfold g9;rw[decide_eq_false_iff_not];exact λh=>h.elim (λh=>h.2 (of_decide_eq_true hl0.out.symm)) (λh=>mP hd.out h.1)
     refine ab ?_
     iterate 5 refine Zv ?_
     refine Zq 100 #[.int .i64 I.op] (hdr.mono λe w' h=>⟨h.1,dY h.2⟩) (λw41 h41=>?_);refine Zv ?_;have yP:w41.cell? ⟨kP,4,none⟩=some (fnV b ti 107):=ae w41 kP 4 _ 174 _ (keep XP4 h41)
     iterate 2
      with_reducible refine bw (by kernel_rfl) ?_ ?_ ?_
      rotate_left
      ·go_simp;try with_reducible rfl
      refine Zk ?_
     with_reducible refine jj (by kernel_rfl) 107 #[sdV b ti] ?_ (hem w41 h41) (λw42 h42a=>?_)
     ·first|(go_simp;done)|(go_simp;rfl)
     refine Zk ?_;have h42:=h41.trans (h42a.mono h41.size)
     with_reducible refine bw (by kernel_rfl) ?_ ?_ ?_
     rotate_left
     ·go_simp;try with_reducible rfl
     refine Zk ?_
     iterate 2 refine Zv ?_
     have y11:w42.cell? ⟨kR,10,none⟩=some (.int .i64 I.op):=(hR4.below h42).cell rfl
     iterate 7
      with_reducible refine bw (by kernel_rfl) ?_ ?_ ?_
      rotate_left
      ·go_simp;try with_reducible rfl
      refine Zk ?_
     iterate 4
      with_reducible refine gu (by kernel_rfl) ?_
      refine Zk ?_
     with_reducible refine bw (by kernel_rfl) ?_ ?_ ?_
     rotate_left
     ·go_simp;try with_reducible rfl
     refine Zk ?_;refine Zv ?_;go_wp2;go_meet
     case rel=>exact⟨congrArg Value.bool hsv.symm,h42⟩
    | false=>
     have hsv:sb=true:=by
      rw[hsb.out];unfold g9;rw[decide_eq_true_iff];exact .inl ⟨hd.out.symm,of_decide_eq_false hl0.out.symm⟩
     refine ab ?_
     iterate 5 refine Zv ?_
     refine Zq 100 #[.int .i64 I.op] (hdr.mono λe w' h=>⟨h.1,dY h.2⟩) (λw41 h41=>?_);refine Zv ?_;have yP:w41.cell? ⟨kP,4,none⟩=some (fnV b ti 107):=ae w41 kP 4 _ 174 _ (keep XP4 h41)
     iterate 2
      with_reducible refine bw (by kernel_rfl) ?_ ?_ ?_
      rotate_left
      ·go_simp;try with_reducible rfl
      refine Zk ?_
     with_reducible refine jj (by kernel_rfl) 107 #[sdV b ti] ?_ (hem w41 h41) (λw42 h42a=>?_)
     ·first|(go_simp;done)|(go_simp;rfl)
     refine Zk ?_;have h42:=h41.trans (h42a.mono h41.size)
     with_reducible refine bw (by kernel_rfl) ?_ ?_ ?_
     rotate_left
     ·go_simp;try with_reducible rfl
     refine Zk ?_
     iterate 2 refine Zv ?_
     iterate 12
      with_reducible refine gu (by kernel_rfl) ?_
      refine Zk ?_
     refine Zv ?_;go_wp2;go_meet
     case rel=>exact⟨congrArg Value.bool hsv.symm,h42⟩
   | false=>
    by_cases c17:I.op=17
    ·have:=ham.out;rw[c17]at this;exact absurd this (by decide)
    ·have h17:(I.op == 17)=false:=by rw[beq_eq_false_iff_ne];exact c17
     have hsv:sb=false:=by
      rw[hsb.out];unfold g9;rw[decide_eq_false_iff_not];exact λh=>h.elim (λh=>by have:=hd.out;rw[h.1]at this;cases this) (λh=>c17 h.1)
     refine ab ?_
     iterate 5 refine Zv ?_
     refine Zq 100 #[.int .i64 I.op] (hdr.mono λe w' h=>⟨h.1,dY h.2⟩) (λw41 h41=>?_);refine Zv ?_
     iterate 4
      with_reducible refine gu (by kernel_rfl) ?_
      refine Zk ?_
     iterate 2 refine Zv ?_
     have y11:w41.cell? ⟨kR,10,none⟩=some (.int .i64 I.op):=(hR4.below h41).cell rfl
     iterate 7
      with_reducible refine bw (by kernel_rfl) ?_ ?_ ?_
      rotate_left
      ·go_simp;try with_reducible rfl
      refine Zk ?_
     iterate 4
      with_reducible refine gu (by kernel_rfl) ?_
      refine Zk ?_
     with_reducible refine bw (by kernel_rfl) ?_ ?_ ?_
     rotate_left
     ·go_simp;try with_reducible rfl
     refine Zk ?_;refine Zv ?_;go_wp2;go_meet
     case rel=>exact⟨congrArg Value.bool hsv.symm,h41⟩
  case rest=>
   obtain⟨rfl,h6⟩:=hcut;have hR6:=hR4.below h6;have hB6:=hB4.trans (h6.mono hB4.size);have X6:=keep X4 h6;have XT6:=keep XT4 h6;have XP6:=keep XP4 h6;have hX1:=aB X6;clear h6 hR4 hB4 X4 XT4 XP4
   cases sb with
   | true=>
    rw[rj hsb.out]at hX;have yP5:wc.cell? ⟨kP,5,none⟩=some (fnV b ti 60):=ae wc kP 5 _ 174 _ XP6;go_upto_region 15 with(fail);refine ab ?_
    iterate 2 refine Zv ?_
    refine qR rfl hR6 60 #[sdV b ti] ?_ (lK hR6.m hok hi hs') (λF7 w7 hR7 hU7=>?_)
    ·first|(go_simp;done)|(go_simp;rfl)
    refine Zk ?_;have X7:=hU7.kept X6 hn;have XT7:=hU7.kept XT6 hnT;go_upto_region 16 with(fail);refine ab ?_;refine Zd 153 XT7 Tryz.underlying153 ?_;refine bx rfl 153 (.tmp 6) (.tmp 101) rfl kX (bp T).toArray rfl rfl 153 _ X7 (by kernel_rfl) rfl (by simp[Value.oneCell',bp]) (λw90 g1 g2 g3 g4=>?_);refine Zk ?_;go_wp2;refine fK rfl rfl g1 rfl Tryz.underlying153 (by kernel_rfl) rfl ?_;rw[hX.out];exact⟨rfl,gH hB6 hkR hkX hU7 hR7 hn hX1 X7 g2 g3⟩
   | false=>
    rw[zF hsb.out]at hX;have y10:wc.cell? ⟨kR,10,none⟩=some (.int .i64 I.op):=hR6.cell rfl
    by_cases h0:I.op=0
    ·rw[ag h0]at hX
     have h0b:(I.op == 0)=true:=by rw[beq_iff_eq];exact h0
     go_upto_region 19 with(fail);refine ab ?_;refine Zv ?_;refine eZ rfl 96 #[.pointer (some ⟨kR,0,none⟩)] ?_ (uU hR6 hs') (λF70 w70 hR70 hU70=>?_)
     ·first|(go_simp;done)|(go_simp;rfl)
     refine Zk ?_;have X70:=hU70.kept X6 hn;refine bx rfl 153 (.tmp 6) (.tmp 112) rfl kX (bp (jw T 2)).toArray rfl rfl 153 _ X70 (by kernel_rfl) rfl (by simp[Value.oneCell',bp]) (λw90 g1 g2 g3 g4=>?_);refine Zk ?_;go_wp2;refine fK rfl rfl g1 rfl Tryz.underlying153 (by kernel_rfl) rfl ?_;rw[hX.out];exact⟨rfl,gH hB6 hkR hkX hU70 hR70 hn hX1 X70 g2 g3⟩
    have h0b:(I.op == 0)=false:=by rw[beq_eq_false_iff_ne];exact h0
    rw[af h0]at hX;clear h0;have hjm:=rU I.op wc (hW.below hB6);obtain⟨jb,hjb⟩:=Zh (bt I.op);rw[<-hjb.out]at hjm hX;clear hjb;go_upto_region 20 with(fail);refine ab ?_
    iterate 5 refine Zv ?_
    refine Zq 94 #[.int .i64 I.op] (hjm.mono λe w' h=>⟨h.1,dY h.2⟩) (λw61 h61=>?_);refine Zv ?_;clear y10 hjm h0b
    cases jb with
    | true=>
     rw[ag rfl]at hX;have hgo:=Gk (hR6.below h61) a ha h8;obtain⟨gb,hgb⟩:=Zh (mf T I);rw[<-hgb.out]at hgo hX;clear hgb;go_upto_region 21 with(fail);refine ab ?_;refine Zv ?_;refine Zq 101 #[.pointer (some ⟨kR,0,none⟩)] (hgo) (λw62 h62a=>?_);have hR8:=(hR6.below h61).below h62a;have hU8:=(Upd.of_below (F:=Or1 F kR) h61).trans (Upd.of_below h62a);have X8:=hU8.kept X6 hn;clear hgo
     cases gb with
     | true=>
      rw[ag rfl]at hX;have y14:w62.cell? ⟨kR,14,none⟩=some (.int .u32 I.k):=hR8.cell rfl;obtain⟨k0,k1⟩:=hIk;go_upto_region 22 with(fail);refine ab ?_
      iterate 6 refine Zv ?_
      refine aG rfl (.int .i64 I.k) ?_ ?_
      ·go_simp;try (rw[IntKind.wrap_i64];omega)
      refine Zk ?_
      iterate 3 refine Zv ?_
      refine Zw 3 0 (.int .i64 I.k) (dw _) hR8.r (by show 0<27;decide) (λw9 p1 p2 p3=>?_);obtain⟨hR9,hU9⟩:=hR8.put p1 (oL I.k) p2 p3;have X9:=(p2 kX (λe=>hn (.inr e))).trans X8;clear p1 p2 p3;obtain⟨T9,hT9⟩:∃q,Hid (q=({ T with pc:=I.k }:Th)):=⟨_,rfl⟩;rw[<-hT9.out]at hR9 hX;go_upto_region 23 with(fail);refine ab ?_
      iterate 3 refine Zv ?_
      refine dJ rfl (.agg (bp T9).toArray) (aZ 153 (.tmp 134) rfl kR 0 rfl (bp T9) _ hR9.th Tryz.underlying153 rfl (by kernel_rfl)) ?_;refine Zk ?_;refine bx rfl 153 (.tmp 6) (.tmp 135) rfl kX (bp T9).toArray rfl rfl 153 _ X9 (by kernel_rfl) rfl (by simp[Value.oneCell',bp]) (λw90 g1 g2 g3 g4=>?_);refine Zk ?_;go_wp2;refine fK rfl rfl g1 rfl Tryz.underlying153 (by kernel_rfl) rfl ?_;rw[hX.out];exact⟨rfl,gH hB6 hkR hkX (hU8.trans hU9) hR9 hn hX1 X9 g2 g3⟩
     | false=>
      rw[af (by decide)]at hX;have hpc:Hid (T.pc=pn):=hpn'
      have hXn:Hid (X=(((M,T)).1,{ T with pc:=(pn:Int)+1 })):=by
       show _=_;rw[<-hpc.out];exact hX.out
      clear hX;have hX:=hXn;clear hXn;have y0:w62.cell? ⟨kR,0,none⟩=some (.int .i64 (pn:Nat)):=hR8.cell (by show some (Value.int .i64 (T).pc)=_;rw[hpc.out]);go_upto_region 26 with(fail);refine ab ?_
      iterate 5 refine Zv ?_
      refine aG rfl (.int .i64 ((pn:Int)+1)) ?_ ?_
      ·go_simp;try (rw[IntKind.wrap_i64];omega)
      refine Zk ?_
      iterate 3 refine Zv ?_
      refine Zw 3 0 (.int .i64 ((pn:Int)+1)) (dw _) hR8.r (by show 0<27;decide) (λw9 p1 p2 p3=>?_);obtain⟨hR9,hU9⟩:=hR8.put p1 (oL ((pn:Int)+1)) p2 p3;have X9:=(p2 kX (λe=>hn (.inr e))).trans X8;clear p1 p2 p3;obtain⟨T9,hT9⟩:∃q,Hid (q=({ T with pc:=(pn:Int)+1 }:Th)):=⟨_,rfl⟩;rw[<-hT9.out]at hR9 hX;go_upto_region 27 with(fail);refine ab ?_
      iterate 3 refine Zv ?_
      refine dJ rfl (.agg (bp T9).toArray) (aZ 153 (.tmp 156) rfl kR 0 rfl (bp T9) _ hR9.th Tryz.underlying153 rfl (by kernel_rfl)) ?_;refine Zk ?_;refine bx rfl 153 (.tmp 6) (.tmp 157) rfl kX (bp T9).toArray rfl rfl 153 _ X9 (by kernel_rfl) rfl (by simp[Value.oneCell',bp]) (λw90 g1 g2 g3 g4=>?_);refine Zk ?_;go_wp2;refine fK rfl rfl g1 rfl Tryz.underlying153 (by kernel_rfl) rfl ?_;rw[hX.out];exact⟨rfl,gH hB6 hkR hkX (hU8.trans hU9) hR9 hn hX1 X9 g2 g3⟩
    | false=>
     rw[af (by decide),af (by rw[<-ham.out];decide)]at hX;have hak:=zw I.op w61 (hW.below (hB6.trans (h61.mono hB6.size)));rw[<-ham.out]at hak;have y11:w61.cell? ⟨kR,10,none⟩=some (.int .i64 I.op):=(hR6.below h61).cell rfl;go_upto_region 24 with(fail);refine ab ?_
     iterate 5 refine Zv ?_
     refine Zq 98 #[.int .i64 I.op] (hak.mono λe w' h=>⟨h.1,dY h.2⟩) (λw62 h62a=>?_);refine Zv ?_;have h62:=h61.trans (h62a.mono h61.size);clear y11 hak;go_upto_region 17 with(fail);refine ab ?_;refine Zv ?_;refine eZ rfl 103 #[.pointer (some ⟨kR,0,none⟩)] ?_ (CJ (hR6.below h62) hok hi a ha h8 c1 hc1 b8 c2 hc2 c8 hT (by omega)) (λF8 w8 hR8 hU8a=>?_)
     ·first|(go_simp;done)|(go_simp;rfl)
     refine Zk ?_;have hU8:=(Upd.of_below (F:=Or1 F kR) h62).trans hU8a;have X8:=hU8.kept X6 hn
     have hpc:Hid ((cJ M ti T I 0).2.pc=pn):=by
      show _=_;rw[Ap];exact hpn'.out
     have hXn:Hid (X=((cJ M ti T I 0).1,{ (cJ M ti T I 0).2 with pc:=(pn:Int)+1 })):=by
      show _=_;rw[<-hpc.out];exact hX.out
     clear hX;have hX:=hXn;clear hXn;have y0:w8.cell? ⟨kR,0,none⟩=some (.int .i64 (pn:Nat)):=hR8.cell (by show some (Value.int .i64 ((cJ M ti T I 0).2).pc)=_;rw[hpc.out]);go_upto_region 26 with(fail);refine ab ?_
     iterate 5 refine Zv ?_
     refine aG rfl (.int .i64 ((pn:Int)+1)) ?_ ?_
     ·go_simp;try (rw[IntKind.wrap_i64];omega)
     refine Zk ?_
     iterate 3 refine Zv ?_
     refine Zw 3 0 (.int .i64 ((pn:Int)+1)) (dw _) hR8.r (by show 0<27;decide) (λw9 p1 p2 p3=>?_);obtain⟨hR9,hU9⟩:=hR8.put p1 (oL ((pn:Int)+1)) p2 p3;have X9:=(p2 kX (λe=>hn (.inr e))).trans X8;clear p1 p2 p3;obtain⟨T9,hT9⟩:∃q,Hid (q=({ (cJ M ti T I 0).2 with pc:=(pn:Int)+1 }:Th)):=⟨_,rfl⟩;rw[<-hT9.out]at hR9 hX;go_upto_region 27 with(fail);refine ab ?_
     iterate 3 refine Zv ?_
     refine dJ rfl (.agg (bp T9).toArray) (aZ 153 (.tmp 156) rfl kR 0 rfl (bp T9) _ hR9.th Tryz.underlying153 rfl (by kernel_rfl)) ?_;refine Zk ?_;refine bx rfl 153 (.tmp 6) (.tmp 157) rfl kX (bp T9).toArray rfl rfl 153 _ X9 (by kernel_rfl) rfl (by simp[Value.oneCell',bp]) (λw90 g1 g2 g3 g4=>?_);refine Zk ?_;go_wp2;refine fK rfl rfl g1 rfl Tryz.underlying153 (by kernel_rfl) rfl ?_;rw[hX.out];exact⟨rfl,gH hB6 hkR hkX (hU8.trans hU9) hR9 hn hX1 X9 g2 g3⟩
 | true=>
  rw[ag rfl]at hX;obtain⟨ad,had0⟩:=Zh (jx T I)
  have hau:U32 ad:=by rw[had0.out];exact u4 hT hIk
  have had:=GQ T I hT hIk;rw[<-had0.out]at had hX;clear had0;obtain⟨hau0,hau1⟩:=hau;obtain⟨an,rfl⟩:=Int.eq_ofNat_of_zero_le hau0;go_upto_region 10 with(fail);refine ZA w4 ?_;refine lr rfl (λK hK=>?_);refine nH 153 (.tmp 3) rfl _ rfl _ (bp T).toArray (0,0) _ (λw' h'=>keep XT4 h') Tryz.underlying153 rfl (by kernel_rfl) ?_;go_simp;refine hK _ ?_;clear hK K
  iterate 3 refine Zz ?_
  refine Zy (.agg (dH I).toArray) (λw' h'=>aZ 115 (.tmp 56) rfl kR 10 rfl (dH I) _ (hR4.below h').ins Tryz.underlying115 rfl (by kernel_rfl)) ?_;refine qe 99 #[.agg (bp T).toArray,iV I] (.int .u32 an) (λw' h'=>had w') (λw'=>?_) (λK hK=>?_)
  ·first|(go_simp;done)|(go_simp;rfl)
  go_simp;refine hK _ ?_;clear hK K;refine Zz ?_;refine aQ (λw5 h5=>?_);have hB5:=hB4.trans (h5.mono hB4.size);have hR5:=hR4.below h5;have X5:=keep X4 h5;have XT5:=keep XT4 h5;have XP5:=keep XP4 h5;have hX1:=aB X5;clear h5 hB4 hR4 X4 XT4 XP4 had;have yn:w5.cell? ⟨kP,0,none⟩=some (.int .i64 n):=ae w5 kP 0 _ 174 _ XP5;rw[<-hN.out]at hX
  have hn4:n<=1024:=by rw[hN.out];exact hok.mem
  by_cases hle:(n:Int)<=an
  ·rw[ag hle]at hX
   go_upto_region 12 with(fail);refine ab ?_;refine Zv ?_;refine eZ rfl 97 #[.pointer (some ⟨kR,0,none⟩)] ?_ (vY hR5 hs') (λF70 w70 hR70 hU70=>?_)
   ·first|(go_simp;done)|(go_simp;rfl)
   refine Zk ?_;have X70:=hU70.kept X5 hn;refine bx rfl 153 (.tmp 6) (.tmp 66) rfl kX (bp (jw T 3)).toArray rfl rfl 153 _ X70 (by kernel_rfl) rfl (by simp[Value.oneCell',bp]) (λw90 g1 g2 g3 g4=>?_);refine Zk ?_;go_wp2;refine fK rfl rfl g1 rfl Tryz.underlying153 (by kernel_rfl) rfl ?_;rw[hX.out];exact⟨rfl,gH hB5 hkR hkX hU70 hR70 hn hX1 X70 g2 g3⟩
  rw[af hle]at hX;go_upto_region 13 with(fail);refine ab ?_
  iterate 2 refine Zv ?_
  refine aG rfl (.int .i64 an) ?_ ?_
  ·go_simp;try (rw[IntKind.wrap_i64];omega)
  refine Zk ?_
  iterate 2 refine Zv ?_
  refine Zw 3 26 (.int .i64 an) (dw _) hR5.r (by show 26<27;decide) (λw5' p1 p2 p3=>?_);obtain⟨hR51,_⟩:=hR5.put p1 (xx (an:Int)) p2 p3;have hB51:=hB5.trans (p3 _ hkR);have X51:=(p2 kX (λe=>hn (.inr e))).trans X5;have XT51:=(p2 kT (λe=>hnT (.inr e))).trans XT5;have XP51:=(p2 kP (λe=>aK XP5 hR5.r (by decide) e)).trans XP5
  have hA:an<M.mem.length:=by rw[<-hN.out];omega
  clear hR5 hB5 X5 XT5 XP5 p1 p2 p3 yn hle hau0 hau1;obtain⟨sb,hsb⟩:=Zh (g9 M ti I.op);go_upto_region 14 with(fail);go_cut [97] from 72 to 97 (λs97 wx=>s97=.bool sb/\Below w5'.heap.size w5' wx)
  case first=>
   have y10:w5'.cell? ⟨kR,10,none⟩=some (.int .i64 I.op):=hR51.cell rfl;obtain⟨d,hd⟩:=Zh (fO I.op);have hdr:=wu I.op w5';rw[<-hd.out]at hdr;obtain⟨l0,hl0⟩:=Zh (decide (fH M ti=0));have hem:=λ(w':World) (h:Below w5'.heap.size w5' w')=>mx (hR51.m.below h) hok hi;rw[<-hl0.out]at hem
   cases d with
   | true=>
    have h17:(I.op == 17)=false:=by rw[beq_eq_false_iff_ne];exact mP hd.out
    cases l0 with
    | true=>
     have hsv:sb=false:=by
      rw[hsb.out];unfold g9;rw[decide_eq_false_iff_not];exact λh=>h.elim (λh=>h.2 (of_decide_eq_true hl0.out.symm)) (λh=>mP hd.out h.1)
     refine ab ?_
     iterate 5 refine Zv ?_
     refine Zq 100 #[.int .i64 I.op] (hdr.mono λe w' h=>⟨h.1,dY h.2⟩) (λw41 h41=>?_);refine Zv ?_;have yP:w41.cell? ⟨kP,4,none⟩=some (fnV b ti 107):=ae w41 kP 4 _ 174 _ (keep XP51 h41)
     iterate 2
      with_reducible refine bw (by kernel_rfl) ?_ ?_ ?_
      rotate_left
      ·go_simp;try with_reducible rfl
      refine Zk ?_
     with_reducible refine jj (by kernel_rfl) 107 #[sdV b ti] ?_ (hem w41 h41) (λw42 h42a=>?_)
     ·first|(go_simp;done)|(go_simp;rfl)
     refine Zk ?_;have h42:=h41.trans (h42a.mono h41.size)
     with_reducible refine bw (by kernel_rfl) ?_ ?_ ?_
     rotate_left
     ·go_simp;try with_reducible rfl
     refine Zk ?_
     iterate 2 refine Zv ?_
     have y11:w42.cell? ⟨kR,10,none⟩=some (.int .i64 I.op):=(hR51.below h42).cell rfl
     iterate 7
      with_reducible refine bw (by kernel_rfl) ?_ ?_ ?_
      rotate_left
      ·go_simp;try with_reducible rfl
      refine Zk ?_
     iterate 4
      with_reducible refine gu (by kernel_rfl) ?_
      refine Zk ?_
     with_reducible refine bw (by kernel_rfl) ?_ ?_ ?_
     rotate_left
     ·go_simp;try with_reducible rfl
     refine Zk ?_;refine Zv ?_;go_wp2;go_meet
     case rel=>exact⟨congrArg Value.bool hsv.symm,h42⟩
    | false=>
     have hsv:sb=true:=by
      rw[hsb.out];unfold g9;rw[decide_eq_true_iff];exact .inl ⟨hd.out.symm,of_decide_eq_false hl0.out.symm⟩
     refine ab ?_
     iterate 5 refine Zv ?_
     refine Zq 100 #[.int .i64 I.op] (hdr.mono λe w' h=>⟨h.1,dY h.2⟩) (λw41 h41=>?_);refine Zv ?_;have yP:w41.cell? ⟨kP,4,none⟩=some (fnV b ti 107):=ae w41 kP 4 _ 174 _ (keep XP51 h41)
     iterate 2
      with_reducible refine bw (by kernel_rfl) ?_ ?_ ?_
      rotate_left
      ·go_simp;try with_reducible rfl
      refine Zk ?_
     with_reducible refine jj (by kernel_rfl) 107 #[sdV b ti] ?_ (hem w41 h41) (λw42 h42a=>?_)
     ·first|(go_simp;done)|(go_simp;rfl)
     refine Zk ?_;have h42:=h41.trans (h42a.mono h41.size)
     with_reducible refine bw (by kernel_rfl) ?_ ?_ ?_
     rotate_left
     ·go_simp;try with_reducible rfl
     refine Zk ?_
     iterate 2 refine Zv ?_
     iterate 12
      with_reducible refine gu (by kernel_rfl) ?_
      refine Zk ?_
     refine Zv ?_;go_wp2;go_meet
     case rel=>exact⟨congrArg Value.bool hsv.symm,h42⟩
   | false=>
    by_cases c17:I.op=17
    ·have h17:(I.op == 17)=true:=by rw[beq_iff_eq];exact c17
     obtain⟨fl,hfl⟩:=Zh (eu M ti);have hrm:=λ(w':World) (h:Below w5'.heap.size w5' w')=>xN (hR51.m.below h) hok hi;rw[<-hfl.out]at hrm;clear hem;have hc17:Hid (I.op=17):=c17;clear c17
     cases fl with
     | true=>
      have hsv:sb=true:=by
       rw[hsb.out];unfold g9;rw[decide_eq_true_iff];exact .inr ⟨hc17.out,hfl.out.symm⟩
      refine ab ?_
      iterate 5 refine Zv ?_
      refine Zq 100 #[.int .i64 I.op] (hdr.mono λe w' h=>⟨h.1,dY h.2⟩) (λw41 h41=>?_);refine Zv ?_
      iterate 4
       with_reducible refine gu (by kernel_rfl) ?_
       refine Zk ?_
      iterate 2 refine Zv ?_
      have y11:w41.cell? ⟨kR,10,none⟩=some (.int .i64 I.op):=(hR51.below h41).cell rfl
      iterate 7
       with_reducible refine bw (by kernel_rfl) ?_ ?_ ?_
       rotate_left
       ·go_simp;try with_reducible rfl
       refine Zk ?_
      have yP2:w41.cell? ⟨kP,2,none⟩=some (fnV b ti 105):=ae w41 kP 2 _ 174 _ (keep XP51 h41)
      iterate 2
       with_reducible refine bw (by kernel_rfl) ?_ ?_ ?_
       rotate_left
       ·go_simp;try with_reducible rfl
       refine Zk ?_
      with_reducible refine jj (by kernel_rfl) 105 #[sdV b ti] ?_ (hrm w41 h41) (λw43 h43a=>?_)
      ·first|(go_simp;done)|(go_simp;rfl)
      refine Zk ?_;have h43:=h41.trans (h43a.mono h41.size)
      with_reducible refine bw (by kernel_rfl) ?_ ?_ ?_
      rotate_left
      ·go_simp;try with_reducible rfl
      refine Zk ?_
      with_reducible refine bw (by kernel_rfl) ?_ ?_ ?_
      rotate_left
      ·go_simp;try with_reducible rfl
      refine Zk ?_;refine Zv ?_;go_wp2;go_meet
      case rel=>exact⟨congrArg Value.bool hsv.symm,h43⟩
     | false=>
      have hsv:sb=false:=by
       rw[hsb.out];unfold g9;rw[decide_eq_false_iff_not];exact λh=>h.elim (λh=>by have:=hd.out;rw[h.1]at this;cases this) (λh=>by have:=hfl.out;rw[h.2]at this;cases this)
      refine ab ?_
      iterate 5 refine Zv ?_
      refine Zq 100 #[.int .i64 I.op] (hdr.mono λe w' h=>⟨h.1,dY h.2⟩) (λw41 h41=>?_);refine Zv ?_
      iterate 4
       with_reducible refine gu (by kernel_rfl) ?_
       refine Zk ?_
      iterate 2 refine Zv ?_
      have y11:w41.cell? ⟨kR,10,none⟩=some (.int .i64 I.op):=(hR51.below h41).cell rfl
      iterate 7
       with_reducible refine bw (by kernel_rfl) ?_ ?_ ?_
       rotate_left
       ·go_simp;try with_reducible rfl
       refine Zk ?_
      have yP2:w41.cell? ⟨kP,2,none⟩=some (fnV b ti 105):=ae w41 kP 2 _ 174 _ (keep XP51 h41)
      iterate 2
       with_reducible refine bw (by kernel_rfl) ?_ ?_ ?_
       rotate_left
       ·go_simp;try with_reducible rfl
       refine Zk ?_
      with_reducible refine jj (by kernel_rfl) 105 #[sdV b ti] ?_ (hrm w41 h41) (λw43 h43a=>?_)
      ·first|(go_simp;done)|(go_simp;rfl)
      refine Zk ?_;have h43:=h41.trans (h43a.mono h41.size)
      with_reducible refine bw (by kernel_rfl) ?_ ?_ ?_
      rotate_left
      ·go_simp;try with_reducible rfl
      refine Zk ?_
      with_reducible refine bw (by kernel_rfl) ?_ ?_ ?_
      rotate_left
      ·go_simp;try with_reducible rfl
      refine Zk ?_;refine Zv ?_;go_wp2;go_meet
      case rel=>exact⟨congrArg Value.bool hsv.symm,h43⟩
    ·have h17:(I.op == 17)=false:=by rw[beq_eq_false_iff_ne];exact c17
     have hsv:sb=false:=by
      rw[hsb.out];unfold g9;rw[decide_eq_false_iff_not];exact λh=>h.elim (λh=>by have:=hd.out;rw[h.1]at this;cases this) (λh=>c17 h.1)
     refine ab ?_
     iterate 5 refine Zv ?_
     refine Zq 100 #[.int .i64 I.op] (hdr.mono λe w' h=>⟨h.1,dY h.2⟩) (λw41 h41=>?_);refine Zv ?_
     iterate 4
      with_reducible refine gu (by kernel_rfl) ?_
      refine Zk ?_
     iterate 2 refine Zv ?_
     have y11:w41.cell? ⟨kR,10,none⟩=some (.int .i64 I.op):=(hR51.below h41).cell rfl
     iterate 7
      with_reducible refine bw (by kernel_rfl) ?_ ?_ ?_
      rotate_left
      ·go_simp;try with_reducible rfl
      refine Zk ?_
     iterate 4
      with_reducible refine gu (by kernel_rfl) ?_
      refine Zk ?_
     with_reducible refine bw (by kernel_rfl) ?_ ?_ ?_
     rotate_left
     ·go_simp;try with_reducible rfl
     refine Zk ?_;refine Zv ?_;go_wp2;go_meet
     case rel=>exact⟨congrArg Value.bool hsv.symm,h41⟩
  case rest=>
   obtain⟨rfl,h6⟩:=hcut;have hR6:=hR51.below h6;have hB6:=hB51.trans (h6.mono hB51.size);have X6:=keep X51 h6;have XT6:=keep XT51 h6;have XP6:=keep XP51 h6;have hX1:=aB X6;clear h6 hR51 hB51 X51 XT51 XP51
   cases sb with
   | true=>
    rw[rj hsb.out]at hX;have yP5:wc.cell? ⟨kP,5,none⟩=some (fnV b ti 60):=ae wc kP 5 _ 174 _ XP6;go_upto_region 15 with(fail);refine ab ?_
    iterate 2 refine Zv ?_
    refine qR rfl hR6 60 #[sdV b ti] ?_ (lK hR6.m hok hi hs') (λF7 w7 hR7 hU7=>?_)
    ·first|(go_simp;done)|(go_simp;rfl)
    refine Zk ?_;have X7:=hU7.kept X6 hn;have XT7:=hU7.kept XT6 hnT;go_upto_region 16 with(fail);refine ab ?_;refine Zd 153 XT7 Tryz.underlying153 ?_;refine bx rfl 153 (.tmp 6) (.tmp 101) rfl kX (bp T).toArray rfl rfl 153 _ X7 (by kernel_rfl) rfl (by simp[Value.oneCell',bp]) (λw90 g1 g2 g3 g4=>?_);refine Zk ?_;go_wp2;refine fK rfl rfl g1 rfl Tryz.underlying153 (by kernel_rfl) rfl ?_;rw[hX.out];exact⟨rfl,gH hB6 hkR hkX hU7 hR7 hn hX1 X7 g2 g3⟩
   | false=>
    rw[zF hsb.out]at hX;have y10:wc.cell? ⟨kR,10,none⟩=some (.int .i64 I.op):=hR6.cell rfl;have hop:=BP ham.out.symm
    have h0:(I.op == 0)=false:=by rw[beq_eq_false_iff_ne];omega
    have hj:bt I.op=false:=by unfold bt;rw[decide_eq_false_iff_not];omega
    rw[af (by omega),af (by rw[hj];decide),ag ham.out.symm]at hX;have hjm:=rU I.op wc (hW.below hB6);rw[hj]at hjm;go_upto_region 20 with(fail);refine ab ?_
    iterate 5 refine Zv ?_
    refine Zq 94 #[.int .i64 I.op] (hjm.mono λe w' h=>⟨h.1,dY h.2⟩) (λw61 h61=>?_);refine Zv ?_;have hak:=zw I.op w61 (hW.below (hB6.trans (h61.mono hB6.size)));rw[<-ham.out]at hak;have y11:w61.cell? ⟨kR,10,none⟩=some (.int .i64 I.op):=(hR6.below h61).cell rfl;go_upto_region 24 with(fail);refine ab ?_
    iterate 5 refine Zv ?_
    refine Zq 98 #[.int .i64 I.op] (hak.mono λe w' h=>⟨h.1,dY h.2⟩) (λw62 h62a=>?_);refine Zv ?_;have h62:=h61.trans (h62a.mono h61.size);clear y11 y10 hak hjm;go_upto_region 25 with(fail);refine ab ?_;refine Zv ?_;refine eZ rfl 102 #[.pointer (some ⟨kR,0,none⟩)] ?_ (EM (hR6.below h62) hok hi hA a ha h8 hs' hl hT (CF hsb.out) (λ_=>⟨c2,hc2,c8⟩) hop) (λF8 w8 hR8 hU8a=>?_)
    ·first|(go_simp;done)|(go_simp;rfl)
    refine Zk ?_;have hU8:=(Upd.of_below (F:=Or1 F kR) h62).trans hU8a;have X8:=hU8.kept X6 hn
    have hpc:Hid ((cR M ti T I an).2.pc=pn):=by
     show _=_;rw[CO];exact hpn'.out
    have hXn:Hid (X=((cR M ti T I an).1,{ (cR M ti T I an).2 with pc:=(pn:Int)+1 })):=by
     show _=_;rw[<-hpc.out];exact hX.out
    clear hX;have hX:=hXn;clear hXn;have y0:w8.cell? ⟨kR,0,none⟩=some (.int .i64 (pn:Nat)):=hR8.cell (by show some (Value.int .i64 ((cR M ti T I an).2).pc)=_;rw[hpc.out]);go_upto_region 26 with(fail);refine ab ?_
    iterate 5 refine Zv ?_
    refine aG rfl (.int .i64 ((pn:Int)+1)) ?_ ?_
    ·go_simp;try (rw[IntKind.wrap_i64];omega)
    refine Zk ?_
    iterate 3 refine Zv ?_
    refine Zw 3 0 (.int .i64 ((pn:Int)+1)) (dw _) hR8.r (by show 0<27;decide) (λw9 p1 p2 p3=>?_);obtain⟨hR9,hU9⟩:=hR8.put p1 (oL ((pn:Int)+1)) p2 p3;have X9:=(p2 kX (λe=>hn (.inr e))).trans X8;clear p1 p2 p3;obtain⟨T9,hT9⟩:∃q,Hid (q=({ (cR M ti T I an).2 with pc:=(pn:Int)+1 }:Th)):=⟨_,rfl⟩;rw[<-hT9.out]at hR9 hX;go_upto_region 27 with(fail);refine ab ?_
    iterate 3 refine Zv ?_
    refine dJ rfl (.agg (bp T9).toArray) (aZ 153 (.tmp 156) rfl kR 0 rfl (bp T9) _ hR9.th Tryz.underlying153 rfl (by kernel_rfl)) ?_;refine Zk ?_;refine bx rfl 153 (.tmp 6) (.tmp 157) rfl kX (bp T9).toArray rfl rfl 153 _ X9 (by kernel_rfl) rfl (by simp[Value.oneCell',bp]) (λw90 g1 g2 g3 g4=>?_);refine Zk ?_;go_wp2;refine fK rfl rfl g1 rfl Tryz.underlying153 (by kernel_rfl) rfl ?_;rw[hX.out];exact⟨rfl,gH hB6 hkR hkX (hU8.trans hU9) hR9 hn hX1 X9 g2 g3⟩
end Go.Proofs.YtldlcnaphednnaaGreatDoor
