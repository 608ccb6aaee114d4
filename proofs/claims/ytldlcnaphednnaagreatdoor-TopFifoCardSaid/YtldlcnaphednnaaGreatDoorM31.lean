/- A machine's step of a thread. A machine does what a pick says. -/
import Derived.Test.YtldlcnaphednnaaGreatDoorM30
set_option maxRecDepth 100000
set_option maxHeartbeats 32000000
set_option linter.unusedVariables false
set_option linter.unusedSimpArgs false
namespace Go.Proofs.YtldlcnaphednnaaGreatDoor
open Go.RowKit Go.Maps
theorem MMem.thr{w:World}{b:Nat}{F:Nat->Prop}{M:Mac}(h:MMem w b F M){i:Nat}(hi:i<M.threads.length):∃g c,w.cell? ⟨b,1,none⟩=some (.slice (some ⟨g,0,none⟩) M.threads.length c)/\Own eT w (.slice (some ⟨g,0,none⟩) M.threads.length c) M.threads/\∀w' l',Own eT w' (.slice (some ⟨g,0,none⟩) M.threads.length c) l'->(∀k,k≠g->w'.heap[k]? = w.heap[k]?)->(∀B,B<=g->Below B w w')->MMem w' b F { M with threads:=l' }/\Upd F F w w':=by
 obtain⟨V,vs,h⟩:=h
 obtain⟨g,c,e⟩:∃g c,V.t=.slice (some ⟨g,0,none⟩) M.threads.length c:=by
  rcases h.rt.form with⟨_,e⟩|⟨g,c,e,_⟩
  ·rw[e]at hi;exact absurd hi (Nat.not_lt_zero _)
  ·exact⟨g,c,e⟩
 refine⟨g,c,(ae w b 1 _ 105 _ h.blk).trans (by rw[<-e];rfl),by rw[<-e];exact h.rt,λw' l' hO hk hB=>?_⟩;rw[<-e]at hO;obtain⟨h1,h2⟩:=h.put_t hO (λk hne=>hk k (λe'=>hne (by rw[e,e'];rfl))) (λB h1 _=>hB B (h1 g (by rw[e];rfl)));exact⟨⟨_,_,h1⟩,h2⟩
theorem MMem.code{w:World}{b:Nat}{F:Nat->Prop}{M:Mac}(h:MMem w b F M){i:Nat}(hi:i<M.codes.length):∃g n c vc,(∀w',Below w.heap.size w w'->w'.cell? ⟨b,0,none⟩=some (.slice (some ⟨g,0,none⟩) n c)/\w'.cell? ⟨g,i,none⟩=some vc/\Own eI w' vc (M.codes.getD i []))/\n=M.codes.length/\∃p k c,vc=.slice p k c:=by
 obtain⟨V,vs,h⟩:=h;have hl:=h.cm.len
 have hiv:i<vs.length:=by rw[hl];exact hi
 obtain⟨g,c,e⟩:∃g c,V.c=.slice (some ⟨g,0,none⟩) vs.length c:=by
  rcases h.rc.form with⟨_,e⟩|⟨g,c,e,_⟩
  ·rw[e]at hiv;exact absurd hiv (Nat.not_lt_zero _)
  ·exact⟨g,c,e⟩
 have h1:=aq hiv
 have h2:M.codes[i]? = some (M.codes.getD i []):=by rw[List.getD_eq_getElem?_getD,aq hi];rfl
 refine⟨g,vs.length,c,_,λw' hb=>⟨(ae w' b 0 _ 105 _ (keep h.blk hb)).trans (by rw[<-e];rfl),?_,(h.cm.code i _ _ h1 h2).below hb⟩,hl,_,_,_,rfl⟩;have h3:=h.rc.below hb;rw[e]at h3;have h4:=(h3.at nT).elem nT h1 0 _ rfl
 simpa[eV] using h4
theorem Fa{b ti:Nat}{F:Nat->Prop}{M:Mac}{w:World}(hM:MMem w b F M)(hok:MOk M)(hi:ti<M.threads.length)(hs:M.evs.length+129<=3000000)(hl:M.slp.length<=80000)(hW:IsaW w):Calls Tryz.prog 59 #[.pointer (some ⟨b,0,none⟩),.int .i64 ti] w λe w'=>e=.returned (.tuple #[])/\∃F',MMem w' b F' (lY M ti)/\Upd F F' w w':=by
 obtain⟨T,hT⟩:∃T,M.threads[ti]? = some T:=⟨M.threads[ti],aq hi⟩;have hTu:RU T:=hok.regs T (aC hT)
 have hic:ti<M.codes.length:=by rw[hok.nc];exact hi
 obtain⟨S,hS⟩:=Zh (lY M ti);rw[<-hS.out];obtain⟨gc,nc,cc,vc,hcd,hnc,pv,kv,cv,rfl⟩:=hM.code hic;obtain⟨code,hcode⟩:=Zh (M.codes.getD ti [])
 have hck:KOk code/\code.length<=4000:=by
  rw[hcode.out,List.getD_eq_getElem?_getD,aq hic];exact hok.codes _ (List.getElem_mem hic)
 rw[<-hcode.out]at hcd
 have hS2:Hid (S=fd (jq M ti T code).1 ti (jq M ti T code).2):=by
  show S=_;rw[hcode.out,hS.out,lY,hT]
 clear hS;have hcst:=wJ hok hi hTu hck.1 hl;obtain⟨gt,ct,yt,hOt,_⟩:=hM.thr hi
 have f0:(0:Int)<=ti:=by omega
 have f1:(ti:Int)<M.threads.length:=by omega
 have f2:(ti:Int)<nc:=by omega
 clear hnc hic hcode;have c1:∀w':World,Below w.heap.size w w'->w'.cell? ⟨b,1,none⟩=some (.slice (some ⟨gt,0,none⟩) M.threads.length ct):=λw' h'=>(h'.cell (km yt)).trans yt;have c0:∀w':World,Below w.heap.size w w'->w'.cell? ⟨b,0,none⟩=some (.slice (some ⟨gc,0,none⟩) nc cc):=λw' h'=>(hcd w' h').1;have cg:∀w':World,Below w.heap.size w w'->w'.cell? ⟨gc,ti,none⟩=some (.slice pv kv cv):=λw' h'=>(hcd w' h').2.1;clear yt;go_enter Tryz.func59,Tryz.ntmps59;go_upto_region 0 with(fail);go_cut [4] from 5 to 23 (λs4 wx=>∃(kX:Nat)(F':Nat->Prop)(X:MT),s4=.pointer (some ⟨kX,0,none⟩)/\Hid (X=jq M ti T code)/\wx.heap[kX]? = some (.cells (bp X.2).toArray 153 (0,0))/\MMem wx b F' X.1/\Upd F F' w wx)
 case first=>
  refine gq [0,1,2,3,4,5,6,7,8,9,10,11,12,13,14,15,16,17] 18 22 (λw'=>Below w.heap.size w w') _ rfl (by kernel_rfl) (by kernel_rfl) (by decide) (by kernel_rfl) ?_
  iterate 5 refine ZR ?_
  refine jt rfl rfl (by kernel_rfl) (.pointer (some ⟨gt,ti * 10,none⟩)) (λw' h'=>aE (by go_simp)) (Zj ?_);refine jt rfl rfl (by kernel_rfl) (.agg (bp T).toArray) (λw' h'=>aE (aZ 153 (.tmp 10) rfl gt (ti * 10) rfl (bp T) _ (by have h1:=((hOt.below h').at n9).elem n9 hT;rw[Nat.zero_add]at h1;exact h1) Tryz.underlying153 rfl (by kernel_rfl))) (Zj ?_)
  iterate 10 refine ZR ?_
  refine jt rfl rfl (by kernel_rfl) (.agg (nR b ti M.mem.length).toArray) (λw' h'=>kf 81 #[sdV b ti] (Gz (hM.below h')) ?_) (λK hK=>?_)
  ·first|(go_simp;done)|(go_simp;rfl)
  go_simp;refine hK _ ?_;clear hK K;refine jS ?_;show dU _ _ _ _ _ _ _ _ _ _;clear c0 c1 cg;have q0:Below w.heap.size w w.drew:=Below.drew (ak _ _);refine pR [18,19] (by kernel_rfl) (by simp) (λw1 r1=>⟨λ_=>q0.trans (r1.mono q0.size),?_⟩);have q1:=q0.trans (r1.mono q0.size);clear q0 r1;intro j hj;simp only[List.mem_cons,List.not_mem_nil,or_false]at hj;rcases hj with rfl|rfl
  ·refine fW rfl rfl 80 #[.agg (bp T).toArray,.slice pv kv cv,.agg (nR b ti M.mem.length).toArray] (λv w'=>∃X,Hid (X=jq M ti T code)/\v=.agg (bp X.2).toArray/\∃F',MMem w' b F' X.1/\Upd F F' w1 w') (by first|(go_simp;done)|(go_simp;rfl)) ((DQ (hM.below q1) (hcd _ q1).2.2 hok hi hTu hck.1 hck.2 hs hl (hW.below q1)).mono λe w' h=>h.elim λX h=>⟨_,h.2.1,X,h.1,rfl,h.2.2⟩) ?_
   rintro _ w1c ⟨X,hX,rfl,F',hM1,hU1⟩;refine ZM 19 (λw2 r2=>⟨(λe=>absurd (show true=false from e) (by decide)),?_⟩);refine dK rfl rfl 153 rfl (.agg #[.int .i64 0,.int .u32 0,.int .u32 0,.int .u32 0,.int .u32 0,.int .u32 0,.int .u32 0,.int .u32 0,.int .u32 0,.int .i64 0]) #[.int .i64 0,.int .u32 0,.int .u32 0,.int .u32 0,.int .u32 0,.int .u32 0,.int .u32 0,.int .u32 0,.int .u32 0,.int .i64 0] (λw=>by kernel_rfl) rfl (λw3 kX XX l1 f1=>?_);refine ZM 20 (λw4 r4=>⟨(λe=>absurd (show true=false from e) (by decide)),?_⟩);refine bZ rfl rfl 153 (.tmp 4) (.tmp 23) rfl kX (bp X.2).toArray rfl rfl 153 _ (keep XX r4) (by kernel_rfl) rfl (by simp[Value.oneCell',bp]) (λw8 g1 g2 g3=>?_);refine bl (by kernel_rfl) (by kernel_rfl) (λw9 r9=>?_);have hs1:=hU1.size;have hs2:=r2.size
   have hkX:w1c.heap.size<=kX:=by simp only[Hid]at f1;omega
   have hb:Below w1c.heap.size w1c w9:=(((r2.trans (l1.mono r2.size)).trans (r4.mono (ar r2.size l1.size))).trans (g3 _ hkX)).trans (r9.mono (ar (ar (ar r2.size l1.size) r4.size) (g3 0 (au _)).size));go_wp2;go_meet
   case rel=>exact⟨kX,F',X,rfl,hX,keep g1 r9,hM1.below hb,((Upd.of_below q1).trans hU1).trans (Upd.of_below hb)⟩
  ·refine dK rfl rfl 153 rfl (.agg #[.int .i64 0,.int .u32 0,.int .u32 0,.int .u32 0,.int .u32 0,.int .u32 0,.int .u32 0,.int .u32 0,.int .u32 0,.int .i64 0]) #[.int .i64 0,.int .u32 0,.int .u32 0,.int .u32 0,.int .u32 0,.int .u32 0,.int .u32 0,.int .u32 0,.int .u32 0,.int .i64 0] (λw=>by kernel_rfl) rfl (λw2 kX XX l1 f1=>?_)
   refine ZM 18 (λw3 r3=>⟨λ_=>(q1.trans (l1.mono q1.size)).trans (r3.mono (ar q1.size l1.size)),?_⟩);have q3:=(q1.trans (l1.mono q1.size)).trans (r3.mono (ar q1.size l1.size))
   refine fW rfl rfl 80 #[.agg (bp T).toArray,.slice pv kv cv,.agg (nR b ti M.mem.length).toArray] (λv w'=>∃X,Hid (X=jq M ti T code)/\v=.agg (bp X.2).toArray/\∃F',MMem w' b F' X.1/\Upd F F' w3 w') (by first|(go_simp;done)|(go_simp;rfl)) ((DQ (hM.below q3) (hcd _ q3).2.2 hok hi hTu hck.1 hck.2 hs hl (hW.below q3)).mono λe w' h=>h.elim λX h=>⟨_,h.2.1,X,h.1,rfl,h.2.2⟩) ?_
   rintro _ w3c ⟨X,hX,rfl,F',hM1,hU1⟩
   have hkX:w.heap.size<=kX:=by simp only[Hid]at f1;have:=q1.size;omega
   have hnX:¬F kX:=λh=>by have:=hM.lt kX h;omega
   have X3:=hU1.kept (keep XX r3) hnX;have hn3:=hU1.not hnX (aB (keep XX r3));refine ZM 20 (λw4 r4=>⟨(λe=>absurd (show true=false from e) (by decide)),?_⟩);refine bZ rfl rfl 153 (.tmp 4) (.tmp 23) rfl kX (bp X.2).toArray rfl rfl 153 _ (keep X3 r4) (by kernel_rfl) rfl (by simp[Value.oneCell',bp]) (λw8 g1 g2 g3=>?_);refine bl (by kernel_rfl) (by kernel_rfl) (λw9 r9=>?_);go_wp2;go_meet
   case rel=>exact⟨kX,F',X,rfl,hX,keep g1 r9,((hM1.below r4).keptF hn3 (keep X3 r4) (by decide) g2).below r9,((((Upd.of_below q3).trans hU1).trans (Upd.of_below r4)).fresh hkX g2 g3).trans (Upd.of_below r9)⟩
 case rest=>
  obtain⟨kX,F',X,rfl,hX,XX,hM1,hU1⟩:=hcut;rw[<-hX.out]at hS2 hcst
  have hi1:ti<X.1.threads.length:=by rw[hcst.st.tl];exact hi
  clear hX hcd hOt c0 c1 cg hM f1;obtain⟨M1,T1⟩:=X;simp only at hS2 hcst hi1 hM1 XX;obtain⟨gt,ct,yt,hOt,hput⟩:=hM1.thr hi1;obtain⟨T0,hT0⟩:∃T,M1.threads[ti]? = some T:=⟨M1.threads[ti],aq hi1⟩
  have f1:(ti:Int)<M1.threads.length:=by omega
  have c1:∀w':World,Below wc.heap.size wc w'->w'.cell? ⟨b,1,none⟩=some (.slice (some ⟨gt,0,none⟩) M1.threads.length ct):=λw' h'=>(h'.cell (km yt)).trans yt;clear yt;go_upto_region 1 with(fail);refine ZT 7 wc ?_;simp only[List.take_succ_cons,List.take_zero]
  iterate 5 refine Zz ?_
  refine lr rfl (λK hK=>?_);refine nH 153 (.tmp 4) rfl _ rfl _ (bp T1).toArray (0,0) _ (λw' h'=>keep XX h') Tryz.underlying153 rfl (by kernel_rfl) ?_;go_simp;refine hK _ ?_;clear hK K;refine Zy (.pointer (some ⟨gt,ti * 10,none⟩)) (λw' h'=>by go_simp) ?_;refine aQ (λw5 h5=>?_);simp only[List.drop_succ_cons,List.drop_zero];refine pF n9 rfl 153 (by kernel_rfl) (.tmp 30) (.tmp 29) rfl gt ti _ ct M1.threads T0 T1 rfl rfl (hOt.below h5) hT0 (λw6 hO6 p2 p3 _=>?_);refine Zk ?_;obtain⟨_,_,y6,_,hput6⟩:=(hM1.below h5).thr hi1;have e6:=Option.some.inj ((c1 w5 h5).symm.trans y6);simp only[Value.slice.injEq,Option.some.injEq,Addr.mk.injEq]at e6;obtain⟨⟨rfl,_,_⟩,_,rfl⟩:=e6;obtain⟨hM6,hU6⟩:=hput6 w6 _ hO6 p2 p3;go_wp2;go_end0;rw[hS2.out];exact⟨rfl,F',hM6,(hU1.trans (Upd.of_below h5)).trans hU6⟩
theorem MMem.thrs{w:World}{b:Nat}{F:Nat->Prop}{M:Mac}(h:MMem w b F M):∃p c,w.cell? ⟨b,1,none⟩=some (.slice p M.threads.length c):=by
 obtain⟨V,vs,h⟩:=h;obtain⟨p,c,e⟩:=h.rt.form2;exact⟨p,c,(ae w b 1 _ 105 _ h.blk).trans (by rw[<-e];rfl)⟩
theorem zY{l:List Slp}{who:Int}(h:(gp l who).2=false):(gp l who).1=l:=by
 unfold gp at h ⊢
 split at h
 ·cases h
 ·rfl
theorem A3{l:List Th}{i:Nat}{z:Th}(h:l[i]? = some z)(s:Int):kY l i s=l.set i { z with st:=s }:=by simp only[kY,h]
theorem Gw{b:Nat}{F:Nat->Prop}{M:Mac}{w:World}(hM:MMem w b F M)(hok:MOk M)(hs:M.evs.length+129<=3000000)(hl:M.slp.length<=80000)(hW:IsaW w)(x:Pik):Calls Tryz.prog 32 #[.pointer (some ⟨b,0,none⟩),.agg (eP.enc x).toArray] w λe w'=>e=.returned (.tuple #[])/\∃F',MMem w' b F' (kV M x)/\Upd F F' w w':=by
 obtain⟨pk,who⟩:=x;obtain⟨X,hX⟩:=Zh (kV M ⟨pk,who⟩);rw[<-hX.out];unfold kV at hX;simp only at hX;obtain⟨p1,c1,y1⟩:=hM.thrs;obtain⟨N,hN⟩:=Zh (M.threads.length)
 have hs':M.evs.length<=3000000:=by omega
 rw[<-hN.out]at hX y1;have cl:∀w':World,Below w.heap.size w w'->w'.cell? ⟨b,1,none⟩=some (.slice p1 N c1):=λw' h'=>(h'.cell (km y1)).trans y1;clear y1;show Calls Tryz.prog 32 #[.pointer (some ⟨b,0,none⟩),.agg #[.int .i64 pk,.int .i64 who]] w _;go_enter Tryz.func32,Tryz.ntmps32;go_upto_region 1 with(fail);obtain⟨W,kX,e0,e1,XX,hal⟩:=aO w #[.int .i64 pk,.int .i64 who] 117;rw[e0,e1]
 have hX0:w.heap.size<=kX:=by omega
 have hF0:=hM.lt;clear e0 e1;have cw:∀w':World,Below W.heap.size W w'->w'.cell? ⟨kX,1,none⟩=some (.int .i64 who):=λw' h'=>ae w' kX 1 _ 117 _ (keep XX h');replace cl:∀w':World,Below W.heap.size W w'->w'.cell? ⟨b,1,none⟩=some (.slice p1 N c1):=λw' h'=>cl w' (hal.trans (h'.mono hal.size))
 by_cases h1:who<0
 ·rw[ag (.inl h1)]at hX
  refine ZA W ?_
  iterate 4 refine Zz ?_
  iterate 8 refine Zs ?_
  refine Zz ?_;refine aQ (λw2 h2=>?_);have hb:=hal.trans (h2.mono hal.size);clear cl cw;go_wp2;refine bodyPost_ret (v:=.tuple #[]) (results_none (by rfl) _ _ _) rfl ?_;rw[hX.out];exact⟨rfl,F,hM.below hb,Upd.of_below hb⟩
 have h1':¬who<0:=h1
 by_cases h2:(N:Int)<=who
 ·rw[ag (.inr h2)]at hX
  refine ZA W ?_
  iterate 13 refine Zz ?_
  refine aQ (λw2 h2=>?_);have hb:=hal.trans (h2.mono hal.size);clear cl cw;go_wp2;refine bodyPost_ret (v:=.tuple #[]) (results_none (by rfl) _ _ _) rfl ?_;rw[hX.out];exact⟨rfl,F,hM.below hb,Upd.of_below hb⟩
 refine ZA W ?_
 iterate 13 refine Zz ?_
 refine aQ (λw2 hb2=>?_);clear cl;rw[af (λh=>h.elim h1 h2)]at hX;obtain⟨ti,rfl⟩:=Int.eq_ofNat_of_zero_le (by omega:0<=who);rw[Int.toNat_natCast]at hX
 have hi:ti<M.threads.length:=by rw[<-hN.out];omega
 have hb:=hal.trans (hb2.mono hal.size);have X2:=keep XX hb2;replace hM:=hM.below hb;have hU:=Upd.of_below (F:=F) hb;clear h1 h1' h2 cw hb2 XX hN;have yw:w2.cell? ⟨kX,1,none⟩=some (.int .i64 (ti:Nat)):=ae w2 kX 1 _ 117 _ X2;go_upto_region 2 with(fail);refine ab ?_
 iterate 4 refine Zv ?_
 refine Za 148 #[.pointer none,.int .i64 0] (λw3 kS XS0 l3 f3=>?_);refine Zo 148 kS #[.pointer (some ⟨b,0,none⟩),.int .i64 ti] XS0 (λw4 XS g2 g3 g4=>?_);have hb4:Below w2.heap.size w2 w4:=l3.trans (g3 _ (by simp only[Hid]at f3;omega))
 have hkS:w2.heap.size<=kS:=by simp only[Hid]at f3;omega
 have X4:=keep X2 hb4;replace hM:=hM.below hb4;replace hU:=hU.trans (Upd.of_below (F:=F) hb4);have hsz:w.heap.size<=w2.heap.size:=hb.size
 have hnS:¬F kS:=λh=>by have h1:=hF0 kS h;omega
 have hnX:¬F kX:=λh=>by have h1:=hF0 kX h;omega
 replace hW:=hW.below (hb.trans (hb4.mono hb.size));have y0:w4.cell? ⟨kX,0,none⟩=some (.int .i64 pk):=ae w4 kX 0 _ 117 _ X4;have y1:w4.cell? ⟨kX,1,none⟩=some (.int .i64 (ti:Nat)):=ae w4 kX 1 _ 117 _ X4;clear g2 g3 g4 XS0 l3 f3 X2 hb4 hb yw
 by_cases k0:pk=0
 ·subst k0
  rw[ag rfl]at hX;go_upto_region 5 with(fail);refine ab ?_
  iterate 3 refine Zv ?_
  refine aP rfl 59 #[.pointer (some ⟨b,0,none⟩),.int .i64 ti] (λv w'=>v=.tuple #[]/\∃F',MMem w' b F' (lY M ti)/\Upd F F' w4 w') ?_ ((Fa hM hok hi hs hl hW).mono λe w' h=>⟨_,h.1,rfl,h.2⟩) ?_
  ·first|(go_simp;done)|(go_simp;rfl)
  rintro _ w5 ⟨rfl,F5,hM5,hU5⟩;refine Zk ?_;go_wp2;go_end0;rw[hX.out];exact⟨rfl,F5,hM5,hU.trans hU5⟩
 rw[af k0]at hX
 by_cases k1:pk=1
 ·subst k1
  rw[ag rfl]at hX;go_upto_region 7 with(fail);refine ab ?_;refine Zd 148 XS Tryz.underlying148 ?_;refine aP rfl 60 #[sdV b ti] (λv w'=>v=.tuple #[]/\∃F',MMem w' b F' (bD M ti)/\Upd F F' w4 w') ?_ ((lK hM hok hi hs').mono λe w' h=>⟨_,h.1,rfl,h.2⟩) ?_
  ·first|(go_simp;done)|(go_simp;rfl)
  rintro _ w5 ⟨rfl,F5,hM5,hU5⟩;refine Zk ?_;go_wp2;go_end0;rw[hX.out];exact⟨rfl,F5,hM5,hU.trans hU5⟩
 rw[af k1]at hX
 by_cases k2:pk=2
 case neg=>
  rw[af k2]at hX;go_wp2;go_end0;rw[hX.out];exact⟨rfl,F,hM,hU⟩
 subst k2;rw[ag rfl]at hX;unfold nF at hX;have hrs:=λ(w':World) (h:Below w4.heap.size w4 w')=>wY (ti:Int) (hM.below h) (by omega);obtain⟨R,hR⟩:=Zh (gp M.slp ti);rw[<-hR.out]at hrs hX
 have hno:R.2=false->R.1=M.slp:=by rw[hR.out];exact zY
 clear hR k0 k1;obtain⟨sl,rb⟩:=R;simp only at hrs hX hno;go_upto_region 9 with(fail);have cX:∀w':World,Below w4.heap.size w4 w'->w'.cell? ⟨kX,1,none⟩=some (.int .i64 (ti:Nat)):=λw' h'=>ae w' kX 1 _ 117 _ (keep X4 h');refine ZT 5 w4 ?_;simp only[List.take_succ_cons,List.take_zero]
 iterate 5 refine Zz ?_
 refine aQ (λw5 h5=>?_);clear cX;simp only[List.drop_succ_cons,List.drop_zero];refine aP rfl 61 #[.pointer (some ⟨b,4,none⟩),.int .i64 ti] (λv w'=>v=.bool rb/\∃F',MMem w' b F' { M with slp:=sl }/\Upd F F' w5 w') ?_ ((hrs w5 h5).mono λe w' h=>⟨_,h.1,rfl,h.2⟩) ?_
 ·first|(go_simp;done)|(go_simp;rfl)
 rintro _ w6 ⟨rfl,F6,hM6,hU6⟩;refine Zk ?_;clear hrs;have X6:=hU6.kept (keep X4 h5) hnX;have XS6:=hU6.kept (keep XS h5) hnS;have hn6:=hU6.not hnS (aB (keep XS h5));have hU7:=(hU.trans (Upd.of_below h5)).trans hU6;clear hM hU hU6 h5 X4 XS y1
 cases rb with
 | false=>
  rw[af (by decide)]at hX;rw[hno rfl]at hM6;go_wp2;go_end0;rw[hX.out];exact⟨rfl,F6,hM6,hU7⟩
 | true=>
  rw[ag rfl]at hX;have hi6:ti<({ M with slp:=sl }:Mac).threads.length:=hi;obtain⟨gt,ct,yt,hOt,hput⟩:=hM6.thr hi6;simp only at yt hOt;obtain⟨T,hT⟩:∃T,M.threads[ti]? = some T:=⟨M.threads[ti],aq hi⟩
  have f0:(0:Int)<=ti:=by omega
  have f1:(ti:Int)<M.threads.length:=by omega
  have cX:∀w':World,Below w6.heap.size w6 w'->w'.cell? ⟨kX,1,none⟩=some (.int .i64 (ti:Nat)):=λw' h'=>ae w' kX 1 _ 117 _ (keep X6 h');have ct':∀w':World,Below w6.heap.size w6 w'->w'.cell? ⟨b,1,none⟩=some (.slice (some ⟨gt,0,none⟩) M.threads.length ct):=λw' h'=>(h'.cell (km yt)).trans yt;go_upto_region 10 with(fail);refine ZT 8 w6 ?_;simp only[List.take_succ_cons,List.take_zero]
  iterate 6 refine Zz ?_
  refine Zy (.pointer (some ⟨gt,ti * 10,none⟩)) (λw' h'=>by go_simp) ?_;refine Zy (.pointer (some ⟨gt,ti * 10+9,none⟩)) (λw' h'=>by go_simp) ?_;refine aQ (λw7 h7=>?_);simp only[List.drop_succ_cons,List.drop_zero];obtain⟨_,_,y8,_,hput8⟩:=(hM6.below h7).thr hi6;have e8:=Option.some.inj ((ct' w7 h7).symm.trans y8);simp only[Value.slice.injEq,Option.some.injEq,Addr.mk.injEq]at e8;obtain⟨⟨rfl,_,_⟩,_,rfl⟩:=e8;obtain⟨cur,hcur,hcs⟩:=ex n9 (hOt.below h7)
  have hcs':ti * 10+9<cur.size:=by
   have:eT.sz=10:=rfl;rw[this]at hcs;omega
  refine Zw 3 (ti * 10+9) (.int .i64 0) (dw 0) hcur hcs' (λw8 p1 p2 p3=>?_);have hO8:=dG n9 (hOt.below h7) hcur (i:=ti) (q:=9) (x:=T) (y:={ T with st:=0 }) hT (by decide) rfl p1;obtain⟨hM8,hU8⟩:=hput8 w8 _ hO8 p2 p3;have XS8:=hU8.kept (keep XS6 h7) hn6;have hUU:=(hU7.trans (Upd.of_below h7)).trans hU8;clear cX ct' yt hO8 p1 p2 p3 hcur hcs hcs' y8 hput hput8 hM6 hU8 XS6 h7 hOt X6 hU7;go_upto_region 11 with(fail);refine ab ?_;refine Zd 148 XS8 Tryz.underlying148 ?_;refine Zv ?_;refine aP rfl 62 #[sdV b ti,.agg (fp ⟨11,0,0,0,0,0,0,false⟩).toArray] (λv w'=>v=.tuple #[]/\∃F',MMem w' b F' { M with slp:=sl,threads:=M.threads.set ti { T with st:=0 },evs:=M.evs++[⟨11,ti,0,0,0,0,0,false⟩] }/\Upd F6 F' w8 w') ?_ ((oY (ti:=ti) hM8 ⟨11,0,0,0,0,0,0,false⟩ hs').mono λe w' h=>⟨_,h.1,rfl,h.2⟩) ?_
  ·go_simp;exact⟨rfl,rfl⟩
  rintro _ w9 ⟨rfl,F9,hM9,hU9⟩;refine Zk ?_;go_wp2;go_end0;rw[hX.out,A3 hT];exact⟨rfl,F9,hM9,hUU.trans hU9⟩
end Go.Proofs.YtldlcnaphednnaaGreatDoor
