/- A thread's side of a machine: it lets memory have all stores. A thread's instruction: what asks nothing. A thread's port. What a right instruction's fields are; a step's frame. -/
import Derived.Test.YtldlcnaphednnaaGreatDoorM28
import Derived.Test.YtldlcnaphednnaaGreatDoorM20
set_option maxRecDepth 100000
set_option maxHeartbeats 32000000
set_option linter.unusedVariables false
set_option linter.unusedSimpArgs false
namespace Go.Proofs.YtldlcnaphednnaaGreatDoor
open Go.RowKit Go.Maps
theorem mx{b ti:Nat}{F:Nat->Prop}{M:Mac}{w:World}(hM:MMem w b F M)(h:MOk M)(hi:ti<M.threads.length):Calls Tryz.prog 107 #[sdV b ti] w λe w'=>e=.returned (.bool (decide (fH M ti=0)))/\Below w.heap.size w w':=by
 obtain⟨x,hx⟩:=h.at hi
 have e:decide (fH M ti=0)=(x.n == 0):=by
  have:=(h.buf hx).1.n0;rw[sm hx,Bool.eq_iff_iff,decide_eq_true_iff,beq_iff_eq];omega
 rw[e];exact xM hM hx
theorem uC{b ti:Nat}{F:Nat->Prop}{M:Mac}{w:World}(hM:MMem w b F M)(hok:MOk M)(hs:M.evs.length+128<=3000000):Calls Tryz.prog 111 #[sdV b ti] w λe w'=>e=.returned (.tuple #[])/\∃F',MMem w' b F' (fY M M.bufs.length)/\Upd F F' w w':=by
 have hnb:=hok.nb
 have hn8:M.bufs.length<=8:=by have:=hok.nt1;omega
 obtain⟨N,hN⟩:=Zh (M.bufs.length);rw[<-hN.out]at hn8 hnb ⊢;have hnb':Hid (N=M.threads.length):=hnb;clear hnb;unfold sdV;go_enter Tryz.func111,Tryz.ntmps111;go_upto_region 1 with(fail);obtain⟨W,kS,e0,e1,XS,hal⟩:=aO w #[.pointer (some ⟨b,0,none⟩),.int .i64 ti] 148;rw[e0,e1];have hkS:w.heap.size<=kS:=aD e1;clear e0 e1
 have hkF:¬F kS:=λh=>by have:=hM.lt kS h;omega
 replace hM:=hM.below hal;have yS:=ae W kS 0 _ 148 _ XS
 obtain⟨Vf,y2,hVf⟩:∃Vf,W.cell? ⟨b,2,none⟩=some Vf/\∃p c,Vf=.slice p N c:=by
  obtain⟨V,vs,h⟩:=hM;obtain⟨p,c,e⟩:=h.rf.form2;exact⟨V.f,ae W b 2 _ 105 _ h.blk,p,c,by rw[e,hN.out]⟩
 obtain⟨pf,cf,rfl⟩:=hVf;clear hN;have hU:=Upd.of_below (F:=F) hal;clear hal;go_upto_region 2 with(fail);clear y2 yS;go_loopw [10] (λv wr=>∃(i:Nat)(F':Nat->Prop),v=.int .i64 i/\i<=N/\MMem wr b F' (fY M i)/\wr.heap[kS]? = some (.cells #[.pointer (some ⟨b,0,none⟩),.int .i64 ti] 148 (0,0))/\¬F' kS/\Upd F F' w wr) (λv _=>N - (intOf v).toNat)
 case atStart=>exact⟨0,F,rfl,au _,hM,XS,hkF,hU⟩
 case round=>
  clear hM XS hU hkF;obtain⟨i,F',rfl,hi,hM,XS,hkF,hU⟩:=hrel
  by_cases hlt:i<N
  case neg=>
   obtain rfl:i=N:=by omega
   have hl1:¬((i:Int)<i):=by omega
   clear hlt;go_wp2;go_end0;exact⟨rfl,F',hM,hU⟩
  have hl1:(i:Int)<N:=by omega
  have hst:=im hok i;obtain⟨M',hM'⟩:∃q,Hid (q=fY M i):=⟨_,rfl⟩;rw[<-hM'.out]at hM hst
  have hiT:i<M'.threads.length:=by rw[hst.tl,<-hnb'.out];exact hlt
  have yS:=ae wr kS 0 _ 148 _ XS;go_upto_region 4 with(fail);refine ab ?_
  iterate 4 refine Zv ?_
  refine Za 148 #[.pointer none,.int .i64 0] (λw1 kO XO hal1 fr1=>?_);refine Zo 148 kO #[.pointer (some ⟨b,0,none⟩),.int .i64 i] XO (λw2 g1 g2 g3 g4=>?_);have hb2:Below wr.heap.size wr w2:=hal1.trans (g3 _ (by simp only[Hid]at fr1;omega))
  have hkO:wr.heap.size<=kO:=by simp only[Hid]at fr1;omega
  have hM2:=hM.below hb2;have XS2:=keep XS hb2;have hU2:=hU.trans (Upd.of_below (F:=F') hb2)
  have hkO2:¬F' kO:=λh=>by have:=hM.lt kO h;omega
  clear g2 g3 g4 XO hal1 fr1 hb2 yS hM hU;have hL16:=wH hst.ok i;go_upto_region 5 with(fail);go_loopg [3] (fH M' i) (λgk s3 wx=>∃(kO:Nat)(F2:Nat->Prop)(j:Nat),s3=.pointer (some ⟨kO,0,none⟩)/\j+gk=fH M' i/\MMem wx b F2 (gr M' i j)/\wx.heap[kO]? = some (.cells #[.pointer (some ⟨b,0,none⟩),.int .i64 i] 148 (0,0))/\¬F2 kO/\wx.heap[kS]? = some (.cells #[.pointer (some ⟨b,0,none⟩),.int .i64 ti] 148 (0,0))/\¬F2 kS/\kS≠kO/\Upd F F2 w wx)
  case atStart=>exact⟨kO,F',0,rfl,by omega,hM2,g1,hkO2,XS2,hkF,λe=>by have:=aB XS;omega,hU2⟩
  case round=>
   clear hM2 g1 hkO2 XS2 hkF hU2 hkO XS;obtain⟨kO',F2,j,rfl,hj,hM,XO,hO,XS,hkF,hne,hU⟩:=hrel;have hsd:=kc hst.ok i j;have hem:=mx hM hsd.ok (by rw[hsd.tl];exact hiT);have hlen:=pj M' i j
   have hN':Hid (fY M (i+1)=gr M' i (fH M' i)):=by rw[hM'.out];rfl
   have hev3:(gr M' i j).evs.length<=3000000:=by have:=hsd.ev;have:=hst.ev;omega
   have hiD:i<(gr M' i j).threads.length:=by rw[hsd.tl];exact hiT
   have hst':St M (gr M' i j) 128 0:=(hst.trans hsd).mono (by omega) (by omega);have hsn:Hid (gr M' i (j+1)=bD (gr M' i j) i):=rfl;have hok':=hsd.ok;clear hst hsd;obtain⟨D,hD⟩:=Zh (gr M' i j);rw[<-hD.out]at hM hem hlen hev3 hiD hok' hsn;clear hst' hM' hL16;go_upto_region 5 with(fail);refine ab ?_;refine Zd 148 XO Tryz.underlying148 ?_
   by_cases hz:gk=0
   ·subst hz
    have hd:decide (fH D i=0)=true:=by simp only[decide_eq_true_eq];omega
    rw[hd]at hem
    obtain rfl:j=fH M' i:=by omega
    refine Zq 107 #[sdV b i] (hem) (λw3 hb3=>?_);refine Zv ?_;have hM3:=hM.below hb3;have XS3:=keep XS hb3;have hU3:=hU.trans (Upd.of_below hb3);rw[hD.out,<-hN'.out]at hM3;clear hem hM XO XS hU hd hN' hD hsn hlen;go_wp2;go_roundw
    case rel=>exact⟨i+1,F2,by go_num,by omega,hM3,XS3,hkF,hU3⟩
    case measure=>simp[intOf];omega
   ·have hd:decide (fH D i=0)=false:=by simp only[decide_eq_false_iff_not];omega
    rw[hd]at hem;refine Zq 107 #[sdV b i] (hem) (λw3 hb3=>?_);refine Zv ?_;have hM3:=hM.below hb3;have XS3:=keep XS hb3;have XO3:=keep XO hb3;have hU3:=hU.trans (Upd.of_below hb3);clear hem hM XO XS hU hd hN' hlen hb3;go_upto_region 6 with(fail);refine ab ?_;refine Zd 148 XO3 Tryz.underlying148 ?_;refine aP rfl 60 #[sdV b i] (λv w'=>v=.tuple #[]/\∃F',MMem w' b F' (bD D i)/\Upd F2 F' w3 w') ?_ ((lK hM3 hok' hiD hev3).mono λe w' h=>⟨_,h.1,rfl,h.2⟩) ?_
    ·first|(go_simp;done)|(go_simp;rfl)
    rintro _ w4 ⟨rfl,F4,hM4,hU4⟩;refine Zk ?_;have XS4:=hU4.kept XS3 hkF;have XO4:=hU4.kept XO3 hO;have hk4:=hU4.not hkF (aB XS3);have hU5:=hU3.trans hU4;rw[<-hsn.out]at hM4;clear hM3 XS3 XO3 hU3 hU4 hsn hD;go_upto_region 7 with(fail);refine ab ?_;refine Zd 148 XO4 Tryz.underlying148 ?_;go_upto_region 8 with(fail);refine ab ?_;refine Za 148 #[.pointer none,.int .i64 0] (λw5 kN XN hal5 fr5=>?_);refine Zo 148 kN #[.pointer (some ⟨b,0,none⟩),.int .i64 i] XN (λw6 g1 g2 g3 g4=>?_)
    have hkN:w4.heap.size<=kN:=by simp only[Hid]at fr5;omega
    have hb6:Below w4.heap.size w4 w6:=hal5.trans (g3 _ hkN);have hM6:=hM4.below hb6;have XS6:=keep XS4 hb6;have hU6:=hU5.trans (Upd.of_below hb6)
    have hkN2:¬F4 kN:=λh=>by have:=hM4.lt kN h;omega
    have hneN:kS≠kN:=λe=>by have:=aB XS4;omega
    clear g2 g3 g4 XN hal5 fr5 hb6 hM4 hU5 XO4 XS4;go_wp2;go_roundg (gk - 1)
    case rel=>exact⟨kN,F4,j+1,rfl,by omega,hM6,g1,hkN2,XS6,hk4,hneN,hU6⟩
    case measure=>omega
theorem CJ{b ti n kR:Nat}{F:Nat->Prop}{M:Mac}{T:Th}{I:Ins}{A:Int}{w:World}(hR:RM w b kR F M T I A ti n)(hok:MOk M)(hi:ti<M.threads.length)(a:Nat)(ha:I.a=a)(h8:a<8)(c1:Nat)(hc1:I.b=c1)(b8:c1<8)(c2:Nat)(hc2:I.c=c2)(c8:c2<8)(hT:RU T)(hs:M.evs.length+128<=3000000):Calls Tryz.prog 103 #[.pointer (some ⟨kR,0,none⟩)] w λe w'=>e=.returned (.tuple #[])/\∃F',RM w' b kR F' ((cJ M ti T I A).1) ((cJ M ti T I A).2) I (A) ti n/\Upd (Or1 F kR) (Or1 F' kR) w w':=by
 obtain⟨r,hr⟩:=Zh (T.regs a);obtain⟨r1,hr1⟩:=Zh (T.regs c1);obtain⟨r2,hr2⟩:=Zh (T.regs c2)
 have hu1:U32 r1:=by rw[hr1.out];exact hT c1
 have hu2:U32 r2:=by rw[hr2.out];exact hT c2
 clear hT;obtain⟨op,ia,ib,ic,k⟩:=I;have ha':ia=(a:Int):=ha;have hc1':ib=(c1:Int):=hc1;have hc2':ic=(c2:Int):=hc2;subst ha' hc1' hc2';clear hc1 hc2;obtain⟨X,hX⟩:=Zh (cJ M ti T ⟨op,a,c1,c2,k⟩ A);rw[<-hX.out];unfold cJ at hX;simp only[Int.toNat_natCast]at hX;rw[<-hr.out,<-hr1.out,<-hr2.out]at hX
 have hs':M.evs.length<=3000000:=by omega
 go_enter Tryz.func103,Tryz.ntmps103;go_upto_region 0 with(fail);refine ab ?_
 iterate 3 refine Zv ?_
 refine dJ rfl (.agg (dH ⟨op,a,c1,c2,k⟩).toArray) (aZ 115 (.tmp 7) rfl kR 10 rfl (dH ⟨op,a,c1,c2,k⟩) _ hR.ins Tryz.underlying115 rfl (by kernel_rfl)) ?_;refine Zk ?_;refine Za 115 #[.int .i64 0,.int .i64 0,.int .i64 0,.int .i64 0,.int .u32 0] (λw1 kI XI0 hal1 fr1=>?_);refine bx rfl 115 (.tmp 2) (.tmp 8) rfl kI (dH ⟨op,a,c1,c2,k⟩).toArray rfl rfl 115 _ XI0 (by kernel_rfl) rfl (by simp[Value.oneCell',dH]) (λw2 XI g2 g3 g4=>?_);refine Zk ?_
 have hkI:w.heap.size<=kI:=by simp only[Hid]at fr1;omega
 have hb2:Below w.heap.size w w2:=hal1.trans (g3 _ hkI);have hnI:¬Or1 F kR kI:=λh=>h.elim (hR.fresh hkI).2 (hR.fresh hkI).1;have hR2:=hR.below hb2;have hU:=Upd.of_below (F:=Or1 F kR) hb2;clear g2 g3 g4 XI0 hal1 fr1 hb2 hR hkI;have y10:w2.cell? ⟨kI,0,none⟩=some (.int .i64 op):=ae w2 kI 0 _ 115 _ XI
 have j0:(0:Int)<=c1:=by omega
 have j1:(c1:Int)<8:=by omega
 have j2:(0:Int)<=c2:=by omega
 have j3:(c2:Int)<8:=by omega
 by_cases h1:op=1
 ·subst h1
  have hX2:Hid (X=(M,jg T a k)):=hX.out;clear hX;have hX:=hX2;clear hX2;go_upto_region 6 with(fail);have cI:∀w':World,Below w2.heap.size w2 w'->w'.cell? ⟨kI,4,none⟩=some (.int .u32 k):=λw' h'=>ae w' kI 4 _ 115 _ (keep XI h');refine ZT 5 w2 ?_;simp only[List.take_succ_cons,List.take_zero];refine Zz ?_;refine qe 163 #[.pointer (some ⟨kR,0,none⟩)] (.pointer (some ⟨kR,1+a,none⟩)) (λw' h'=>qc (hR2.below h') a ha h8) (λw'=>?_) (λK hK=>?_)
  ·first|(go_simp;done)|(go_simp;rfl)
  go_simp;refine hK _ ?_;clear hK K
  iterate 3 refine Zz ?_
  refine aQ (λw3 h3=>?_);clear cI;simp only[List.drop_succ_cons,List.drop_zero];have hR3:=hR2.below h3;have hU3:=hU.trans (Upd.of_below h3);clear h3 hU hR2;refine Zw 37 (1+a) (.int .u32 k) gW hR3.r (by show 1+a<27;omega) (λw4 p1 p2 p3=>?_);obtain⟨hR4,hU4⟩:=hR3.put p1 (fG h8 (k)) p2 p3;clear p1 p2 p3;go_wp2;go_end0;rw[hX.out];exact⟨rfl,F,hR4,hU3.trans hU4⟩
 rw[af h1]at hX
 by_cases h2:op=2
 ·subst h2
  have hX2:Hid (X=(M,jg T a r1)):=hX.out;clear hX;have hX:=hX2;clear hX2;go_upto_region 8 with(fail);have cI:∀w':World,Below w2.heap.size w2 w'->w'.cell? ⟨kI,2,none⟩=some (.int .i64 (c1:Nat)):=λw' h'=>ae w' kI 2 _ 115 _ (keep XI h');have cr:∀w':World,Below w2.heap.size w2 w'->w'.cell? ⟨kR,1+c1,none⟩=some (.int .u32 r1):=λw' h'=>(hR2.below h').reg b8 hr1;refine ZT 11 w2 ?_;simp only[List.take_succ_cons,List.take_zero];refine Zz ?_;refine qe 163 #[.pointer (some ⟨kR,0,none⟩)] (.pointer (some ⟨kR,1+a,none⟩)) (λw' h'=>qc (hR2.below h') a ha h8) (λw'=>?_) (λK hK=>?_)
  ·first|(go_simp;done)|(go_simp;rfl)
  go_simp;refine hK _ ?_;clear hK K
  iterate 9 refine Zz ?_
  refine aQ (λw3 h3=>?_);clear cI cr;simp only[List.drop_succ_cons,List.drop_zero];have hR3:=hR2.below h3;have hU3:=hU.trans (Upd.of_below h3);clear h3 hU hR2;refine Zw 37 (1+a) (.int .u32 r1) gW hR3.r (by show 1+a<27;omega) (λw4 p1 p2 p3=>?_);obtain⟨hR4,hU4⟩:=hR3.put p1 (fG h8 (r1)) p2 p3;clear p1 p2 p3;go_wp2;go_end0;rw[hX.out];exact⟨rfl,F,hR4,hU3.trans hU4⟩
 rw[af h2]at hX
 by_cases h18:op=18
 ·subst h18
  have hX2:Hid (X=(bK M ti T A (ev 5 0 0 0 false),T)):=hX.out;clear hX;have hX:=hX2;clear hX2;go_upto_region 10 with(fail);refine ab ?_
  iterate 2 refine Zv ?_
  have hR3:=hR2;have hU3:=hU;clear hU hR2;refine eZ rfl 162 #[.pointer (some ⟨kR,0,none⟩),.agg (fp (ev 5 0 0 0 false)).toArray] ?_ (j5 hR3 (ev 5 0 0 0 false) hs') (λF4 w4 hR4 hU4=>?_)
  ·first|(go_simp;done)|(go_simp;rfl)
  refine Zk ?_;go_wp2;go_end0;rw[hX.out];exact⟨rfl,F4,hR4,hU3.trans hU4⟩
 rw[af h18]at hX
 by_cases h22:op=22
 ·subst h22
  have hX2:Hid (X=(bK M ti T A (ev 6 r 0 0 false),T)):=hX.out;clear hX;have hX:=hX2;clear hX2;go_upto_region 12 with(fail);refine ab ?_
  iterate 2 refine Zv ?_
  refine Zq 163 #[.pointer (some ⟨kR,0,none⟩)] (qc hR2 a ha h8) (λw3 hb3=>?_);have hR3:=hR2.below hb3;have hU3:=hU.trans (Upd.of_below hb3);clear hU hR2 hb3;have yr:=hR3.reg h8 hr
  iterate 3 refine Zv ?_
  refine eZ rfl 162 #[.pointer (some ⟨kR,0,none⟩),.agg (fp (ev 6 r 0 0 false)).toArray] ?_ (j5 hR3 (ev 6 r 0 0 false) hs') (λF4 w4 hR4 hU4=>?_)
  ·first|(go_simp;done)|(go_simp;rfl)
  refine Zk ?_;clear yr;go_wp2;go_end0;rw[hX.out];exact⟨rfl,F4,hR4,hU3.trans hU4⟩
 rw[af h22]at hX
 by_cases h27:op=27
 ·subst h27
  have hX2:Hid (X=(bK M ti T A (ev 7 r 0 k false),T)):=hX.out;clear hX;have hX:=hX2;clear hX2;go_upto_region 14 with(fail);have cI:∀w':World,Below w2.heap.size w2 w'->w'.cell? ⟨kI,4,none⟩=some (.int .u32 k):=λw' h'=>ae w' kI 4 _ 115 _ (keep XI h');have cr:∀w':World,Below w2.heap.size w2 w'->w'.cell? ⟨kR,1+a,none⟩=some (.int .u32 r):=λw' h'=>(hR2.below h').reg h8 hr;refine ZT 8 w2 ?_;simp only[List.take_succ_cons,List.take_zero]
  iterate 2 refine Zz ?_
  refine qe 163 #[.pointer (some ⟨kR,0,none⟩)] (.pointer (some ⟨kR,1+a,none⟩)) (λw' h'=>qc (hR2.below h') a ha h8) (λw'=>?_) (λK hK=>?_)
  ·first|(go_simp;done)|(go_simp;rfl)
  go_simp;refine hK _ ?_;clear hK K
  iterate 5 refine Zz ?_
  refine aQ (λw3 h3=>?_);clear cI cr;simp only[List.drop_succ_cons,List.drop_zero];have hR3:=hR2.below h3;have hU3:=hU.trans (Upd.of_below h3);clear h3 hU hR2;refine eZ rfl 162 #[.pointer (some ⟨kR,0,none⟩),.agg (fp (ev 7 r 0 k false)).toArray] ?_ (j5 hR3 (ev 7 r 0 k false) hs') (λF4 w4 hR4 hU4=>?_)
  ·first|(go_simp;done)|(go_simp;rfl)
  refine Zk ?_;go_wp2;go_end0;rw[hX.out];exact⟨rfl,F4,hR4,hU3.trans hU4⟩
 rw[af h27]at hX
 by_cases h25:op=25
 ·subst h25
  have hX2:Hid (X=(bK (fY M M.bufs.length) ti T A (ev 10 0 0 0 false),T)):=hX.out;clear hX;have hX:=hX2;clear hX2;go_upto_region 16 with(fail);refine ab ?_;have y24:w2.cell? ⟨kR,24,none⟩=some (fnV b ti 111):=hR2.cell rfl
  iterate 5 refine Zv ?_
  refine qR rfl hR2 111 #[sdV b ti] ?_ (uC hR2.m hok hs) (λF3 w3 hR3 hU33=>?_)
  ·first|(go_simp;done)|(go_simp;rfl)
  refine Zk ?_;have hU3:=hU.trans hU33;clear hU33 hU hR2 y24;go_upto_region 17 with(fail);refine ab ?_
  iterate 2 refine Zv ?_
  refine eZ rfl 162 #[.pointer (some ⟨kR,0,none⟩),.agg (fp (ev 10 0 0 0 false)).toArray] ?_ (j5 hR3 (ev 10 0 0 0 false) (by have h1:=(im hok M.bufs.length).ev;have h2:=hok.nb;have h3:=hok.nt1;omega)) (λF4 w4 hR4 hU4=>?_)
  ·first|(go_simp;done)|(go_simp;rfl)
  refine Zk ?_;go_wp2;go_end0;rw[hX.out];exact⟨rfl,F4,hR4,hU3.trans hU4⟩
 rw[af h25]at hX;go_upto_region 2 with(fail);have cI:∀w':World,Below w2.heap.size w2 w'->w'.cell? ⟨kI,0,none⟩=some (.int .i64 op):=λw' h'=>ae w' kI 0 _ 115 _ (keep XI h');have cI1:∀w':World,Below w2.heap.size w2 w'->w'.cell? ⟨kI,2,none⟩=some (.int .i64 (c1:Nat)):=λw' h'=>ae w' kI 2 _ 115 _ (keep XI h');have cI2:∀w':World,Below w2.heap.size w2 w'->w'.cell? ⟨kI,3,none⟩=some (.int .i64 (c2:Nat)):=λw' h'=>ae w' kI 3 _ 115 _ (keep XI h');have cr1:∀w':World,Below w2.heap.size w2 w'->w'.cell? ⟨kR,1+c1,none⟩=some (.int .u32 r1):=λw' h'=>(hR2.below h').reg b8 hr1;have cr2:∀w':World,Below w2.heap.size w2 w'->w'.cell? ⟨kR,1+c2,none⟩=some (.int .u32 r2):=λw' h'=>(hR2.below h').reg c8 hr2;refine ZA w2 ?_
 iterate 18 refine Zz ?_
 refine qe 95 #[.int .i64 op,.int .u32 r1,.int .u32 r2] (.tuple #[.int .u32 (gj op r1 r2),.bool (decide (3<=op/\op<=12))]) (λw' h'=>zq op r1 r2 hu1 hu2 w') (λw'=>?_) (λK hK=>?_)
 ·first|(go_simp;done)|(go_simp;rfl)
 go_simp;refine hK _ ?_;clear hK K
 iterate 5 refine Zz ?_
 refine aQ (λw3 h3=>?_);clear cI cI1 cI2 cr1 cr2;have hR3:=hR2.below h3;have hU3:=hU.trans (Upd.of_below h3);clear h3 hU hR2
 by_cases hal:3<=op/\op<=12
 ·have hd:(decide (3<=op) && decide (op<=12))=true:=by rw[Bool.and_eq_true,decide_eq_true_iff,decide_eq_true_iff];exact hal
  rw[hd];have hX2:Hid (X=(M,jg T a (gj op r1 r2))):=hX.out.trans (ag hal);clear hX hd;have hX:=hX2;clear hX2;go_upto_region 4 with(fail);refine ab ?_;refine Zv ?_;refine Zq 163 #[.pointer (some ⟨kR,0,none⟩)] (qc hR3 a ha h8) (λw4 hb4=>?_)
  iterate 2 refine Zv ?_
  refine Zw 37 (1+a) (.int .u32 (gj op r1 r2)) gW (hR3.below hb4).r (by show 1+a<27;omega) (λw5 p1 p2 p3=>?_);obtain⟨hR5,hU5⟩:=(hR3.below hb4).put p1 (fG h8 ((gj op r1 r2))) p2 p3;clear p1 p2 p3;go_wp2;go_end0;rw[hX.out];exact⟨rfl,F,hR5,(hU3.trans (Upd.of_below hb4)).trans hU5⟩
 ·have hd:(decide (3<=op) && decide (op<=12))=false:=by rw[Bool.eq_false_iff,ne_eq,Bool.and_eq_true,decide_eq_true_iff,decide_eq_true_iff];exact hal
  rw[hd];have hX2:Hid (X=(M,T)):=hX.out.trans (af hal);clear hX hd;have hX:=hX2;clear hX2;go_wp2;go_end0;rw[hX.out];exact⟨rfl,F,hR3,hU3⟩
section
variable {P:Program} {ops:Array Oper} {Q:Exit->Act->World->Prop} {rest:List Oper} {o:Oper} {a:Act} {w:World}
theorem bw(hw:Region.wanted o (yielded ops a.tmps)=true)(v:Value)(h:(execOp a.eval o).run P w=.ok (.value v) w)(hK:∀K:Act->World->Prop,(∀a w,wpList P ops Q rest a w->K a w)->K (a.put o.dst v) w):wpList P ops Q (o :: rest) a w:=
 wpList_step λK hK'=>by
  rw[ag hw];unfold Oper.wp;rw[h];exact hK K hK'
theorem gu(hw:Region.wanted o (yielded ops a.tmps)=false)(hK:∀K:Act->World->Prop,(∀a w,wpList P ops Q rest a w->K a w)->K (a.put o.dst undef) w):wpList P ops Q (o :: rest) a w:=
 wpList_step λK hK'=>by
  rw[af (by rw[hw];decide)];exact hK K hK'
theorem jj(hw:Region.wanted o (yielded ops a.tmps)=true)(g:FuncId)(args:Array Value){v0:Value}(h:(execOp a.eval o).run P w=.ok (.enter g args) w)(hc:Calls P g args w λe w'=>e=.returned v0/\Below w.heap.size w w')
  (hK:∀w',Below w.heap.size w w'->∀K:Act->World->Prop,(∀a w,wpList P ops Q rest a w->K a w)->K (a.put o.dst v0) w'):wpList P ops Q (o :: rest) a w:=
 wpList_step λK hK'=>by
  rw[ag hw];unfold Oper.wp;rw[h,Oper.upon_enter]
  refine hc.mono λe w' hr=>?_
  obtain⟨rfl,hr⟩:=hr;exact hK w' hr K hK'
end
theorem Gz{b ti:Nat}{F:Nat->Prop}{M:Mac}{w:World}(hM:MMem w b F M):Calls Tryz.prog 81 #[sdV b ti] w λe w'=>e=.returned (.agg (nR b ti M.mem.length).toArray)/\Below w.heap.size w w':=by
 obtain⟨N,hN⟩:=Zh (M.mem.length);rw[<-hN.out];unfold sdV;go_enter Tryz.func81,Tryz.ntmps81;go_upto_region 1 with(fail);obtain⟨W,kS,kP,e0,e1,e2,XS,XP,hal⟩:=lW w #[.pointer (some ⟨b,0,none⟩),.int .i64 ti] #[.int .i64 0,.nilFunc,.nilFunc,.nilFunc,.nilFunc,.nilFunc,.nilFunc,.nilFunc,.nilFunc,.nilFunc,.nilFunc] 148 174;rw[e0,e2,e1]
 have hkP:w.heap.size<=kP:=by omega
 clear e0 e1 e2
 obtain⟨Vm,hVm,p,c,rfl⟩:∃Vm,(∀w':World,Below W.heap.size W w'->w'.cell? ⟨b,3,none⟩=some Vm)/\∃p c,Vm=.slice p N c:=by
  obtain⟨V,vs,h⟩:=hM.below hal;obtain⟨p,c,e⟩:=h.rm.form2;exact⟨V.m,λw' h'=>ae w' b 3 _ 105 _ (keep h.blk h'),p,c,by rw[e,hN.out]⟩
 have cS:∀w':World,Below W.heap.size W w'->w'.cell? ⟨kS,0,none⟩=some (.pointer (some ⟨b,0,none⟩)):=λw' h'=>ae w' kS 0 _ 148 _ (keep XS h');refine ZT 27 W ?_;simp only[List.take_succ_cons,List.take_zero]
 iterate 6 refine Zz ?_
 refine Zl 148 #[.pointer (some ⟨b,0,none⟩),.int .i64 ti] (λw' h'=>keep XS h') Tryz.underlying148 ?_;refine Zz ?_;refine Zl 148 #[.pointer (some ⟨b,0,none⟩),.int .i64 ti] (λw' h'=>keep XS h') Tryz.underlying148 ?_;refine Zz ?_;refine Zl 148 #[.pointer (some ⟨b,0,none⟩),.int .i64 ti] (λw' h'=>keep XS h') Tryz.underlying148 ?_;refine Zz ?_;refine Zl 148 #[.pointer (some ⟨b,0,none⟩),.int .i64 ti] (λw' h'=>keep XS h') Tryz.underlying148 ?_;refine Zz ?_;refine Zl 148 #[.pointer (some ⟨b,0,none⟩),.int .i64 ti] (λw' h'=>keep XS h') Tryz.underlying148 ?_;refine Zz ?_;refine Zl 148 #[.pointer (some ⟨b,0,none⟩),.int .i64 ti] (λw' h'=>keep XS h') Tryz.underlying148 ?_;refine Zz ?_;refine Zl 148 #[.pointer (some ⟨b,0,none⟩),.int .i64 ti] (λw' h'=>keep XS h') Tryz.underlying148 ?_;refine Zz ?_;refine Zl 148 #[.pointer (some ⟨b,0,none⟩),.int .i64 ti] (λw' h'=>keep XS h') Tryz.underlying148 ?_;refine Zz ?_;refine Zl 148 #[.pointer (some ⟨b,0,none⟩),.int .i64 ti] (λw' h'=>keep XS h') Tryz.underlying148 ?_;refine Zz ?_;refine Zl 148 #[.pointer (some ⟨b,0,none⟩),.int .i64 ti] (λw' h'=>keep XS h') Tryz.underlying148 ?_
 iterate 2 refine Zz ?_
 refine aQ (λw1 h1=>?_);simp only[List.drop_succ_cons,List.drop_zero];refine bx rfl 174 (.tmp 2) (.tmp 29) rfl kP (nR b ti N).toArray rfl rfl 174 _ (keep XP h1) (by kernel_rfl) rfl (by simp[Value.oneCell',nR,fnV]) (λw2 g1 g2 g3 g4=>?_);refine Zk ?_;go_wp2;refine fK rfl rfl g1 rfl Tryz.underlying174 (by kernel_rfl) rfl ?_;exact⟨rfl,(hal.trans (h1.mono hal.size)).trans (g3 _ hkP)⟩
theorem zV:∀i:Nat,i<28->aJ i=tb (eJ i) 3:=by decide
theorem AQ{n:Int}{u:Bool}{m:Int}(h:bJ n u m=true)(h0:0<=m):0<=n/\n<=m:=by
 unfold bJ at h
 split at h
 ·exact of_decide_eq_true h
 ·have:n=0:=by simpa using h
  omega
theorem xY{I:Ins}{n:Int}(h:ik I n=true):(∃a:Nat,I.a=a/\a<8)/\(∃c:Nat,I.c=c/\c<8)/\(aJ I.op=false->∃c:Nat,I.b=c/\c<8):=by
 unfold ik at h
 split at h
 ·rename_i ho
  unfold rW at h;simp only[Bool.and_eq_true]at h;obtain⟨h1,h2,h3,_⟩:=h;have ha:=AQ h1 (by decide);have hc:=AQ h3 (by decide);refine⟨⟨I.a.toNat,by omega,by omega⟩,⟨I.c.toNat,by omega,by omega⟩,λe=>?_⟩;have h4:=zV I.op.toNat (by omega);rw[Int.toNat_of_nonneg ho.1,e]at h4;rw[<-h4]at h2;have hb:=AQ h2 (by decide);simp only[Bool.false_eq_true,if_false]at hb;exact⟨I.b.toNat,by omega,by omega⟩
 ·cases h
theorem BP{op:Int}(h:aJ op=true):op=16\/op=17\/op=19\/op=20\/op=21\/op=23\/op=24:=of_decide_eq_true h
theorem Upd.drop1{F F2:Nat->Prop}{w w1 w2:World}{k:Nat}(hB:Below w.heap.size w w1)(hk:w.heap.size<=k)(hU:Upd (Or1 F k) (Or1 F2 k) w1 w2):Upd F F2 w w2:=
 ⟨λB hF hB'=>(hB.mono hB').trans (hU.low B (λj hj=>hj.elim (hF j) (λe=>by omega)) (ar hB' hB.size)),λj hj hn=>(hU.blk j (aA hj hB.size) (λh=>h.elim hn (λe=>by omega))).trans (hB.block j hj),λj hj=>by
  rcases hU.foot j (.inl hj) with(h|h)|h
  ·exact .inl h
  ·exact .inr (by omega)
  ·exact .inr (ar hB.size h)⟩
section
variable {ops:Array Oper} {Q:Exit->Act->World->Prop} {b ti n kR:Nat} {F F2:Nat->Prop} {M M2:Mac} {T T2:Th} {I I0:Ins} {A:Int} {w w1 w2 w3:World}
theorem gH{kX:Nat}{cs:Array Value}(hB:Below w.heap.size w w1)(hkR:w.heap.size<=kR)(hkX:w.heap.size<=kX)(hU:Upd (Or1 F kR) (Or1 F2 kR) w1 w2)(hR:RM w2 b kR F2 M2 T2 I A ti n)(hn:¬Or1 F kR kX)(hX1:kX<w1.heap.size)(hX:w2.heap[kX]? = some (.cells cs 153 (0,0)))(g2:∀k,k≠kX->w3.heap[k]? = w2.heap[k]?)(g3:∀B,B<=kX->Below B w2 w3):∃F',MMem w3 b F' M2/\Upd F F' w w3:=
 ⟨F2,(hR.box (hU.not hn hX1) hX (by decide) g2).m,(Upd.drop1 hB hkR hU).fresh hkX g2 g3⟩
theorem Cq{rest:List Oper}{o:Oper}{a:Act}(hgd:o.guard=none)(x y:Operand)(ho:o.op=.store 115 x y)(hR:RM w b kR F M T I0 A ti n)(I:Ins)(hx:a.eval x=.pointer (some ⟨kR,10,none⟩))(hy:a.eval y=.agg (dH I).toArray)
  (h:∀w',RM w' b kR F M T I A ti n->(∀B,B<=kR->Below B w w')->(∀k,k≠kR->w'.heap[k]? = w.heap[k]?)->∀K:Act->World->Prop,(∀a w,wpList Tryz.prog ops Q rest a w->K a w)->K (a.put o.dst undef) w'):wpList Tryz.prog ops Q (o :: rest) a w:=by
 refine wpList_plain hgd λK hK=>?_
 obtain⟨cur',h1,h2,h3,h4,_⟩:=dQ kR 192 (dH I) 10 w _ hR.r (by show 10+5<=27;decide)
 have hth:w.there kR 10 (dH I).toArray.size:=λq hq=>by
  have hq':q<5:=hq;refine⟨?_,frozen_of_row w kR _ _ 192 hR.r⟩;rw[ae w kR _ _ 192 _ hR.r,Array.getElem?_eq_getElem (by show 10+q<27;omega)];rfl
 have e:cur'=kh b ti n T I A:=by
  apply Array.toList_inj.1;rw[h2];rfl
 rw[e]at h1;unfold Oper.wp execOp;have hr:=run_storeAt_mid (P:=Tryz.prog) w kR 10 115 (dH I).toArray hth (by kernel_rfl) (by simp[dH,Value.oneCell']);simp only[ho,hx,hy,Sem.run_bind,hr,Sem.run_pure,Result.andThen_ok];exact h _ ⟨hR.m.kept hR.r (by decide) h3,h1,hR.f⟩ h4 h3 K hK
end
end Go.Proofs.YtldlcnaphednnaaGreatDoor
