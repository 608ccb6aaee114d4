/- The anchor: a mutex taken and given back. Buffers as lists; what a thread sees. One object's words and the threads' places in its calls: a small machine. What one instruction of a lock's code does to the machine. -/
import Derived.Test.YtldlcnaphednnaaGreatDoorM39
import Derived.Test.YtldlcnaphednnaaGreatDoorM32
import Derived.Test.YtldlcnaphednnaaGreatDoorM27
set_option maxRecDepth 100000
set_option maxHeartbeats 32000000
set_option linter.unusedVariables false
set_option linter.unusedSimpArgs false
namespace Go.Proofs.YtldlcnaphednnaaGreatDoor
open Go.RowKit Go.Maps
def m8(bA bO bT:Nat):Cl:={ A:=some ⟨bA,0,none⟩,no:=1,ca:=1,f:=λ_=>⟨10,0,0,0⟩,vars:=0,W:=none,nw:=0,cw:=0,own:=λ_=>0,room:=1,T:=some ⟨bT,0,none⟩,nt:=1,ct:=1,tp:=λ_=>some ⟨bO,0,none⟩,len:=λ_=>2,tc:=λ_=>2,op:=λ_ i=>if i=0 then⟨7,0,1,0⟩ else⟨7,0,2,0⟩ }
def ev0:List Evt:=[⟨7,0,0,0,0,0,0,false⟩,⟨1,0,1,17,0,0,0,false⟩,⟨4,0,9,16,1,0,0,true⟩,⟨2,0,17,17,1,0,0,false⟩,⟨7,0,19,0,0,0,1,false⟩,⟨7,0,20,0,0,0,2,false⟩,⟨1,0,21,17,1,0,0,false⟩,⟨3,0,0,17,1,0,0,false⟩,⟨2,0,28,17,0,0,0,false⟩,⟨3,0,0,17,0,0,0,false⟩,⟨4,0,30,16,0,1,0,true⟩,⟨7,0,37,0,0,0,3,false⟩,⟨12,0,38,0,0,0,0,false⟩]
theorem ok0(a b c:Nat):okF (m8 a b c):=⟨by kernel_rfl,by kernel_rfl⟩
theorem evs0(a b c:Nat):evF (m8 a b c) (List.replicate 60 0)=ev0:=by kernel_rfl
theorem k70:K7 ev0 0=[⟨0,0,0,4,0⟩,⟨1,0,5,11,0⟩]:=by decide +kernel
theorem k7t:∀t,1<=t->t<8->K7 ev0 t=[]:=λt h1 h2=>by
 obtain rfl|rfl|rfl|rfl|rfl|rfl|rfl:t=1\/t=2\/t=3\/t=4\/t=5\/t=6\/t=7:=by omega
 all_goals decide +kernel
theorem Gc(a b c:Nat):ma (m8 a b c) (List.replicate 60 0)=ev0:=(ag (ok0 a b c)).trans (evs0 a b c)
theorem GG(a b c:Nat):wN (m8 a b c)=1:=ag (ok0 a b c)
theorem Gb{w:World}{bA bO bT:Nat}(XA:w.heap[bA]? = some (.cells #[.int .i64 10,.int .i64 0,.int .i64 0,.int .i64 0] 43 (0,0)))(XO:w.heap[bO]? = some (.cells #[.int .i64 7,.int .i64 0,.int .i64 1,.int .u32 0,.int .i64 7,.int .i64 0,.int .i64 2,.int .u32 0] 49 (0,0)))(XT:w.heap[bT]? = some (.cells #[.slice (some ⟨bO,0,none⟩) 2 2] 50 (0,0))):MemC w (m8 bA bO bT) where
 objs:=λ_=>⟨bA,0,rfl,aB XA,λi hi=>by
  obtain rfl:i=0:=by simp only[m8]at hi;omega
  exact⟨ae w bA 0 _ 43 _ XA,ae w bA 1 _ 43 _ XA,ae w bA 2 _ 43 _ XA,ae w bA 3 _ 43 _ XA⟩⟩
 own:=λh=>absurd h (Nat.lt_irrefl 0)
 thr:=λ_=>⟨bT,0,rfl,aB XT,λi hi=>by
  obtain rfl:i=0:=by simp only[m8]at hi;omega
  exact ae w bT 0 _ 50 _ XT⟩
 ops:=λt _ _=>⟨bO,0,rfl,aB XO,λi hi=>by
  obtain rfl|rfl:i=0\/i=1:=by simp only[m8]at hi;omega
  ·exact⟨ae w bO 0 _ 49 _ XO,ae w bO 1 _ 49 _ XO,ae w bO 2 _ 49 _ XO,ae w bO 3 _ 49 _ XO⟩
  ·exact⟨ae w bO 4 _ 49 _ XO,ae w bO 5 _ 49 _ XO,ae w bO 6 _ 49 _ XO,ae w bO 7 _ 49 _ XO⟩⟩
 ho:=ah _
 hw:=ah _
 ht:=ah _
 hl:=λt _=>ah _
 hN:=λi _=>by simp only[m8];omega
 hK:=λt i _ _=>by
  show 0<=(if i=0 then(⟨7,0,1,0⟩:X) else⟨7,0,2,0⟩).K/\(if i=0 then(⟨7,0,1,0⟩:X) else⟨7,0,2,0⟩).K<4294967296
  split<;>exact⟨by decide,by decide⟩
theorem Fw:(Tryz.prog.info? eY.ty).map (λi=>(i.zero.map (·.cells),i.size,i.bytes))=some (some (eY.enc 0).toArray,eY.sz,1):=by kernel_rfl
theorem FD{α:Type}{E:Enc α}(hE:E.Ok){P:Program}{ops:Array Oper}{Q:Exit->Go.Act->World->Prop}{i:Nat}{K:Go.Act->World->Prop}{o:Oper}{a:Go.Act}{w:World}(hi:ops[i]? = some o)(hgd:o.guard=none)(t:TypeId)(ht:P.underlying t=some (.slice E.ty))(x:α)(by':Nat)(hinf:(P.info? E.ty).map (λi=>(i.zero.map (·.cells),i.size,i.bytes))=some (some (E.enc x).toArray,E.sz,by'))(hby:by'<=10000)
  (y y':Operand) (ho:o.op=.makeSlice t y y') (n:Nat) (hn:n<=4000000) (hx:a.eval y=.int .i64 n) (hx':a.eval y'=.int .i64 n)
  (h:∀(w':World)(r:Nat),Own E w' (.slice (some ⟨r,0,none⟩) n n) (List.replicate n x)->Below w.heap.size w w'->K (a.put o.dst (.slice (some ⟨r,0,none⟩) n n)) w'):wpOp P ops Q i K a w:=by
 obtain⟨w',hr,h1,h2⟩:=oN hE w t ht x by' hinf hby n hn;unfold wpOp;simp only[hi]
 have hw:Region.wanted o (yielded ops a.tmps)=true:=by simp[Region.wanted,hgd]
 rw[ag hw];refine .inl ?_;unfold Oper.wp execOp;simp only[ho,hx,hx',hr,Sem.run_bind,Result.andThen_ok];exact h w' _ h1 h2
theorem nG{P:Program}{ops:Array Oper}{Q:Exit->Go.Act->World->Prop}{i:Nat}{K:Go.Act->World->Prop}{o:Oper}{a:Go.Act}{w:World}(hi:ops[i]? = some o)(hw:Region.wanted o (yielded ops a.tmps)=true)(g:FuncId)(args:Array Value)(R:Value->World->Prop)(h:(execOp a.eval o).run P w=.ok (.enter g args) w)
  (hc:Calls P g args w λe w'=>∃v,e=.returned v/\R v w') (hK:∀v w',R v w'->K (a.put o.dst v) w'):wpOp P ops Q i K a w:=by
 unfold wpOp;simp only[hi];rw[ag hw];refine .inl ?_;unfold Oper.wp;rw[h,Oper.upon_enter]
 refine hc.mono λe w' hr=>?_
 obtain⟨v,rfl,hr⟩:=hr;exact hK v w' hr
theorem Fx(w:World)(hN:NmW w)(hI:IsaW w):Calls Tryz.prog 4 #[] w λe w'=>e=.returned (.bool true)/\Below w.heap.size w w':=by
 go_enter Tryz.func4,Tryz.ntmps4;go_upto_region 1 with(fail);refine ab ?_;refine Zv ?_
 refine dJ rfl (.slice (some ⟨w.heap.size,0,none⟩) 1 1) (w':=w.alloc (.cells #[.int .i64 10,.int .i64 0,.int .i64 0,.int .i64 0] 43)) (by first|kernel_rfl|(go_simp;done)|(go_simp;rfl)) ?_
 obtain⟨w',bA,e8,eg,XA,hb8⟩:=aO w #[.int .i64 10,.int .i64 0,.int .i64 0,.int .i64 0] 43;rw[e8,eg];clear e8 eg;refine Zk ?_;have hal:=hb8;clear hb8
 iterate 2 refine Zv ?_
 refine dJ rfl (.slice (some ⟨w'.heap.size,0,none⟩) 2 2) (w':=w'.alloc (.cells #[.int .i64 7,.int .i64 0,.int .i64 1,.int .u32 0,.int .i64 7,.int .i64 0,.int .i64 2,.int .u32 0] 49)) (by first|kernel_rfl|(go_simp;done)|(go_simp;rfl)) ?_
 obtain⟨w'',bO,e8,eg,XO,hb8⟩:=aO w' #[.int .i64 7,.int .i64 0,.int .i64 1,.int .u32 0,.int .i64 7,.int .i64 0,.int .i64 2,.int .u32 0] 49;rw[e8,eg];clear e8 eg;refine Zk ?_;replace hal:=hal.trans (hb8.mono hal.size);replace XA:=keep XA hb8;clear hb8
 refine dJ rfl (.slice (some ⟨w''.heap.size,0,none⟩) 1 1) (w':=w''.alloc (.cells #[.slice (some ⟨bO,0,none⟩) 2 2] 50)) (by first|kernel_rfl|(go_simp;done)|(go_simp;rfl)) ?_
 obtain⟨w''',bT,e8,eg,XT,hb8⟩:=aO w'' #[.slice (some ⟨bO,0,none⟩) 2 2] 50;rw[e8,eg];clear e8 eg;refine Zk ?_;replace hal:=hal.trans (hb8.mono hal.size);replace XA:=keep XA hb8;replace XO:=keep XO hb8;clear hb8;refine Zv ?_;refine Za 26 #[.slice none 0 0,.int .i64 0,.slice none 0 0,.int .i64 0,.slice none 0 0] (λw4 bC X4 l4 f4=>?_);refine Zo 26 bC #[.slice (some ⟨bA,0,none⟩) 1 1,.int .i64 0,.slice none 0 0,.int .i64 1,.slice (some ⟨bT,0,none⟩) 1 1] X4 (λw5 XC g2 g3 g4=>?_);have hb5:=l4.trans (g3 _ (by simp only[Hid]at f4;omega));replace hal:=hal.trans (hb5.mono hal.size);replace XA:=keep XA hb5;replace XO:=keep XO hb5;replace XT:=keep XT hb5;clear hb5 X4 l4 f4 g2 g3 g4;have hM:=Gb XA XO XT;clear XO XT;go_upto_region 2 with(fail);refine gq [0] 2 8 (λw'=>Below w5.heap.size w5 w') _ rfl (by kernel_rfl) (by kernel_rfl) (by decide) (by kernel_rfl) ?_;refine jt rfl rfl (by kernel_rfl) (.agg #[.slice (some ⟨bA,0,none⟩) 1 1,.int .i64 0,.slice none 0 0,.int .i64 1,.slice (some ⟨bT,0,none⟩) 1 1]) (λw' h'=>fF 26 (.tmp 1) rfl bC rfl 26 _ (0,0) _ (keep XC h') Tryz.underlying26 rfl (by kernel_rfl)) (Zj ?_);refine jS ?_;show dU _ _ _ _ _ _ _ _ _ _;have q0:Below w5.heap.size w5 w5.drew:=Below.drew (ak _ _);refine ZM 1 (λw6 r6=>⟨λ_=>q0.trans (r6.mono q0.size),?_⟩);replace q0:=q0.trans (r6.mono q0.size);refine FD sU rfl rfl 27 Tryz.underlying27 0 1 Fw (by decide) (.const (.int .i64 60)) (.const (.int .i64 60)) rfl 60 (by decide) rfl rfl (λw7 bY hOY hb7=>?_)
 replace q0:=q0.trans (hb7.mono q0.size);refine ZM 2 (λw8 r8=>⟨λ_=>q0.trans (r8.mono q0.size),?_⟩);replace q0:=q0.trans (r8.mono q0.size);replace hOY:=hOY.below r8;have hal8:=hal.trans (q0.mono hal.size);have hr:=D4 (m8 bA bO bT) w8 (hM.below q0) (hN.below hal8) (hI.below hal8) _ (List.replicate 60 0) (R8.of hOY (λx hx=>by rw[List.eq_of_mem_replicate hx];omega)) (by simp);rw[Gc,GG]at hr
 refine fW rfl rfl 6 #[.agg #[.slice (some ⟨bA,0,none⟩) 1 1,.int .i64 0,.slice none 0 0,.int .i64 1,.slice (some ⟨bT,0,none⟩) 1 1],.slice (some ⟨bY,0,none⟩) 60 60] (λv w'=>(∃v',v=.tuple #[v',.int .i64 1]/\Own eE w' v' ev0)/\Below w8.heap.size w8 w') (by first|(go_simp;done)|(go_simp;rfl)) (hr.mono λe w' h=>h.1.elim λv' h1=>⟨_,h1.1,⟨v',rfl,h1.2⟩,h.2⟩) ?_
 rintro _ w9 ⟨⟨vE,rfl,hOE⟩,hb9⟩;clear hr;refine pS (F:=0) [3,4,5,6,7] 0 rfl _ rfl (by kernel_rfl) (by kernel_rfl) (by kernel_rfl) ?_
 iterate 5 refine ZF ?_
 refine jS ?_;refine bl (by kernel_rfl) (by kernel_rfl) (λw10 r10=>?_);have hb10:=(q0.trans (hb9.mono q0.size)).trans (r10.mono (ar q0.size hb9.size));replace hOE:=hOE.below r10;replace hal:=hal.trans (hb10.mono hal.size);replace hM:=hM.below hb10;replace XA:=keep XA hb10;replace XC:=keep XC hb10;clear q0 hb9 r10 hb10 hOY hb7 r8 r6 hal8
 obtain⟨g,c,rfl⟩:∃g c,vE=.slice (some ⟨g,0,none⟩) 13 c:=by
  rcases hOE.form with⟨_,e⟩|⟨g,c,e,_⟩
  ·cases e
  ·exact⟨g,c,e⟩
 obtain⟨cur,hG,_⟩:=ex eE_ok hOE
 have hc:∀i x,ev0[i]? = some x->∀q v,(fp x)[q]? = some v->cur[i * 8+q]? = some v:=λi x hx q v hv=>by
  have:=((hOE.at eE_ok).elem eE_ok hx) q v hv;rw[ae w10 g _ _ _ _ hG,Nat.zero_add]at this;exact this
 have hU:∀x∈ev0,U32 x.k:=by simp[ev0,U32]
 go_upto_region 3 with(fail);refine ab ?_;refine Zv ?_;refine aP rfl 8 #[.slice (some ⟨g,0,none⟩) 13 c] (λv w'=>(∃rem,(∀t,t<8->(rem t).map crK=K7 ev0 t)/\Own eC w' v (dl (tot rem) rem))/\Below w10.heap.size w10 w') ?_ ((uI (p0:=some ⟨g,0,none⟩) ev0 (by decide) hU g c w10 cur hG hc (λ_=>⟨rfl,rfl⟩)).mono λe w' h=>let⟨⟨v,rem,h1,h2,h4,_⟩,h3⟩:=h;⟨v,h1,⟨rem,h2,h4⟩,h3⟩) ?_
 ·first|(go_simp;done)|(go_simp;rfl)
 rintro vC w11 ⟨⟨rem,hrem,hOC⟩,hb11⟩;refine Zk ?_;have hr0:=(hrem 0 (by decide)).trans k70;have hrt:∀t,1<=t->t<8->rem t=[]:=λt h1 h2=>List.map_eq_nil_iff.1 ((hrem t h2).trans (k7t t h1 h2))
 obtain⟨x1,x2,hx12,k1,k2⟩:∃x1 x2,rem 0=[x1,x2]/\x1.fin=4/\x2.fin=11:=by
  match h:rem 0,hr0 with
  | [],hr0=>cases hr0
  | [x],hr0=>simp at hr0
  | [x,y],hr0=>
   simp[crK]at hr0;exact⟨x,y,rfl,hr0.1.2.2.2.1,hr0.2.2.2.2.1⟩
  | x :: y :: z :: l,hr0=>simp at hr0
 rw[wo hrt,nC _ rem rfl hrt,hx12]at hOC
 obtain⟨gC,cC,rfl⟩:∃gC cC,vC=.slice (some ⟨gC,0,none⟩) 2 cC:=by
  rcases hOC.form with⟨_,e⟩|⟨gC,cC,e,_⟩
  ·cases e
  ·exact⟨gC,cC,e⟩
 refine Zv ?_
 have y1:∀w',Below w11.heap.size w11 w'->w'.cell? ⟨gC,3,none⟩=some (.int .i64 4):=λw' hb=>by
  have:=(((hOC.below hb).at eC_ok).elem eC_ok (i:=0) rfl) 3 _ (by rfl);rw[k1]at this;simpa using this
 have y2:∀w',Below w11.heap.size w11 w'->w'.cell? ⟨gC,9,none⟩=some (.int .i64 11):=λw' hb=>by
  have:=(((hOC.below hb).at eC_ok).elem eC_ok (i:=1) rfl) 3 _ (by rfl);rw[k2]at this;simpa[eC] using this
 replace hal:=hal.trans (hb11.mono hal.size);replace hM:=hM.below hb11;replace XA:=keep XA hb11;replace XC:=keep XC hb11;replace hOE:=hOE.below hb11;replace hG:=keep hG hb11;clear hb11 hrem hr0 hrt hx12 k1 k2;go_upto_region 4 with(fail);refine gq [0,1,2,3,4,5,6,7,8,9,10,11,12,13,14,15,16,17,18,19,20,21,22,23,24,26] 28 32 (λw'=>Below w11.heap.size w11 w') _ rfl (by kernel_rfl) (by kernel_rfl) (by decide) (by kernel_rfl) ?_
 iterate 22 refine ZR ?_
 refine jt rfl rfl (by kernel_rfl) (.agg #[.slice (some ⟨bA,0,none⟩) 1 1,.int .i64 0,.slice none 0 0,.int .i64 1,.slice (some ⟨bT,0,none⟩) 1 1]) (λw' h'=>fF 26 (.tmp 1) rfl bC rfl 26 _ (0,0) _ (keep XC h') Tryz.underlying26 rfl (by kernel_rfl)) (Zj ?_);refine jt rfl rfl (by kernel_rfl) (.agg #[.slice (some ⟨bA,0,none⟩) 1 1,.int .i64 0,.slice none 0 0,.int .i64 1,.slice (some ⟨bT,0,none⟩) 1 1]) (λw' h'=>fF 26 (.tmp 1) rfl bC rfl 26 _ (0,0) _ (keep XC h') Tryz.underlying26 rfl (by kernel_rfl)) (Zj ?_);refine jt rfl rfl (by kernel_rfl) (.agg #[.slice (some ⟨bA,0,none⟩) 1 1,.int .i64 0,.slice none 0 0,.int .i64 1,.slice (some ⟨bT,0,none⟩) 1 1]) (λw' h'=>fF 26 (.tmp 1) rfl bC rfl 26 _ (0,0) _ (keep XC h') Tryz.underlying26 rfl (by kernel_rfl)) (Zj ?_);refine ZR ?_;refine jS ?_;show dU _ _ _ _ _ _ _ _ _ _;clear y1 y2;have q0:Below w11.heap.size w11 w11.drew:=Below.drew (ak _ _);refine ZM 25 (λv1 r1=>⟨λ_=>q0.trans (r1.mono q0.size),?_⟩);replace q0:=q0.trans (r1.mono q0.size);have hst:bH (m8 bA bO bT) 1=[⟨0,0,1,0⟩,⟨0,0,2,0⟩]:=rfl;have hsc:=yD (m8 bA bO bT) v1 (hM.below q0) (show 1<=40 by decide) (λt _=>by show 2<=100;decide)
 refine nG rfl (by kernel_rfl) 7 #[.agg #[.slice (some ⟨bA,0,none⟩) 1 1,.int .i64 0,.slice none 0 0,.int .i64 1,.slice (some ⟨bT,0,none⟩) 1 1]] (λv w'=>Own eSi w' v [⟨0,0,1,0⟩,⟨0,0,2,0⟩]/\Below v1.heap.size v1 w') (by first|(go_simp;done)|(go_simp;rfl)) (hsc.mono λe w' h=>h.1.elim λv' h1=>⟨_,h1.1,hst▸h1.2,h.2⟩) ?_
 rintro vS v2 ⟨hS,hb2⟩
 obtain⟨gs,cs,rfl⟩:∃gs cs,vS=.slice (some ⟨gs,0,none⟩) 2 cs:=by
  rcases hS.form with⟨_,e⟩|⟨gs,cs,e,_⟩
  ·cases e
  ·exact⟨gs,cs,e⟩
 replace q0:=q0.trans (hb2.mono q0.size);clear hb2 hsc hst r1;refine ZM 27 (λv3 r3=>⟨λ_=>q0.trans (r3.mono q0.size),?_⟩);replace q0:=q0.trans (r3.mono q0.size);replace hS:=hS.below r3;have hal3:=hal.trans (q0.mono hal.size);have hof:=ofC9 (m8 bA bO bT) bA 0 rfl rfl rfl (ah 1) v3 (hN.below hal3) (hM.below q0).objs rfl gs cs hS ev0 (by decide) hU g c cur (keep hG q0) hc 0 4 0 5 11 0 k70 k7t (by decide) (by decide) (by decide)
 refine nG rfl (by kernel_rfl) 11 #[.agg #[.slice (some ⟨bA,0,none⟩) 1 1,.int .i64 0,.slice none 0 0,.int .i64 1,.slice (some ⟨bT,0,none⟩) 1 1],.slice (some ⟨gs,0,none⟩) 2 cs,.slice (some ⟨g,0,none⟩) 13 c] (λv w'=>Own eA w' v [⟨0,0,1,0,0,0,0,4,true,0⟩,⟨0,0,2,0,0,0,1,5,true,0⟩]/\Below v3.heap.size v3 w') (by first|(go_simp;done)|(go_simp;rfl)) (hof.mono λe w' h=>h.1.elim λv' h1=>⟨_,h1.1,h1.2,h.2⟩) ?_
 rintro vL v4 ⟨hL,hb4⟩;replace q0:=q0.trans (hb4.mono q0.size);clear hb4 hof hS r3 hal3;refine ZM 28 (λv5 r5=>⟨λ_=>q0.trans (r5.mono q0.size),?_⟩);replace q0:=q0.trans (r5.mono q0.size);replace hL:=hL.below r5;have hal5:=hal.trans (q0.mono hal.size);have hjd:=Ec (m8 bA bO bT) bA rfl rfl rfl v5 (hN.below hal5) (keep XA q0) vL 0 4 1 5 hL
 refine nG rfl (by kernel_rfl) 10 #[.agg #[.slice (some ⟨bA,0,none⟩) 1 1,.int .i64 0,.slice none 0 0,.int .i64 1,.slice (some ⟨bT,0,none⟩) 1 1],vL] (λv w'=>v=.int .i64 (-1)/\Below v5.heap.size v5 w') (by first|(go_simp;done)|(go_simp;rfl)) (hjd.mono λe w' h=>⟨_,h.1,rfl,h.2⟩) ?_
 rintro _ v6 ⟨rfl,hb6⟩;replace q0:=q0.trans (hb6.mono q0.size);clear hb6 hjd hL r5 hal5;refine pS (F:=0) [29,30,31] 0 rfl _ rfl (by kernel_rfl) (by kernel_rfl) (by kernel_rfl) ?_
 iterate 3 refine ZF ?_
 refine jS ?_;refine bl (by kernel_rfl) (by kernel_rfl) (λv7 r7=>?_);have hf:=hal.trans ((q0.trans (r7.mono q0.size)).mono hal.size);clear q0 r7;go_wp2;go_ret;exact⟨rfl,hf⟩
end Go.Proofs.YtldlcnaphednnaaGreatDoor
namespace Go.Proofs.YtldlcnaphednnaaGreatDoor
def ot(x:Bf):List (Int×Int):=(List.range x.n.toNat).map λi:Nat=>(x.ra (dN x i).toNat,x.rv (dN x i).toNat)
def aV:List (Int×Int)->Int->Option Int
 | [],_=>none
 | e :: l,a=>match aV l a with
  | some v=>some v
  | none=>if e.1=a then some e.2 else none
theorem xE(l:List (Int×Int))(e:Int×Int)(a:Int):aV (l++[e]) a=if e.1=a then some e.2 else aV l a:=by
 induction l with
 | nil=>rfl
 | cons x l ih=>
  simp only[List.cons_append,aV,ih]
  by_cases h:e.1=a
  ·simp only[ag h]
  ·simp only[af h]
def bn(M:Mac)(t:Nat):List (Int×Int):=match M.bufs[t]? with
 | some x=>ot x
 | none=>[]
def db(M:Mac)(a:Int):Int:=M.mem.getD a.toNat 0
def bk(l:List (Int×Int))(m:Int->Int)(a:Int):Int:=match aV l a with
 | some v=>v
 | none=>m a
theorem zB{x:Bf}(h:lD x){i j:Int}(hi:0<=i/\i<16)(hj:0<=j/\j<16)(e:(dN x i).toNat=(dN x j).toNat):i=j:=by
 have:=h.f0;have:=h.f1;unfold dN at e;omega
theorem pI(x:Bf)(a:Int):∀k:Nat,fS x a k=aV ((List.range k).map λi:Nat=>(x.ra (dN x i).toNat,x.rv (dN x i).toNat)) a
 | 0=>rfl
 | k+1=>by
  rw[List.range_succ,List.map_append,List.map_singleton,xE,<-pI x a k];rfl
theorem xA(x:Bf)(a:Int):lQ x a=aV (ot x) a:=pI x a _
theorem Bg{x:Bf}(h:lD x)(hr:x.n<x.room)(a v:Int):ot (ed x a v)=ot x++[(a,v)]:=by
 have h0:=h.n0;have h1:=h.r1
 have e:(ed x a v).n.toNat=x.n.toNat+1:=by simp only[ed];omega
 unfold ot;rw[e,List.range_succ,List.map_append,List.map_singleton];congr 1
 ·refine List.map_congr_left λi hi=>?_
  have hi':=List.mem_range.1 hi
  have hne:¬(dN x i).toNat=(dN x x.n).toNat:=λe=>by
   have:=zB h (i:=i) (j:=x.n) (by omega) (by omega) e;omega
  have hb:dN (ed x a v) i=dN x i:=rfl;simp only[hb];simp only[ed,af hne]
 ·have hb:dN (ed x a v) ((x.n.toNat:Nat):Int)=dN x x.n:=by
   rw[show((x.n.toNat:Nat):Int)=x.n by omega];rfl
  simp only[hb];simp only[ed,ag]
theorem A4{x:Bf}(h:lD x)(h0:0<x.n):ot x=(x.ra x.first.toNat,x.rv x.first.toNat) :: ot (eD x):=by
 have hf0:=h.f0;have hf1:=h.f1;have h1:=h.r1;have h2:=h.n1;obtain⟨n,hn⟩:∃n:Nat,x.n=n+1:=⟨(x.n - 1).toNat,by omega⟩
 have e1:x.n.toNat=n+1:=by omega
 have e2:(eD x).n.toNat=n:=by simp only[eD];omega
 unfold ot;rw[e1,e2,List.range_succ_eq_map,List.map_cons,List.map_map]
 have b0:dN x ((0:Nat):Int)=x.first:=by unfold dN;omega
 rw[b0];congr 1
 refine List.map_congr_left λi hi=>?_
 have hi':=List.mem_range.1 hi
 have hb:dN (eD x) i=dN x ((i+1:Nat):Int):=by simp only[dN,eD];omega
 have hne:¬(dN x ((i+1:Nat):Int)).toNat=x.first.toNat:=λe=>by
  unfold dN at e;omega
 simp only[Function.comp,Nat.succ_eq_add_one,hb];simp only[eD,af hne]
theorem uA{M:Mac}{t:Nat}(hM:MOk M)(ht:t<M.threads.length){A:Int}(hA:0<=A):fo M t A=bk (bn M t) (db M) A:=by
 obtain⟨x,hx⟩:=hM.at ht;simp only[fo,bn,hx,qL,bk,db];rw[show((A.toNat:Nat):Int)=A by omega,xA]
 cases aV (ot x) A<;>rfl
theorem qz{M:Mac}(hM:MOk M)(t:Nat):fH M t=(bn M t).length:=by
 unfold fH bn
 cases M.bufs[t]? with
 | none=>rfl
 | some x=>simp[ot]
theorem qT{M:Mac}{t:Nat}(hM:MOk M)(h:bn M t=[]):bD M t=M:=by
 have:=qz hM t;rw[h]at this;unfold bD;unfold fH at this
 cases hx:M.bufs[t]? with
 | none=>rfl
 | some x=>
  rw[hx]at this;simp only[List.length_nil]at this;have h0:=(hM.buf hx).1.n0;simp only[af (show ¬0<x.n by omega)]
structure BE(M M':Mac)(t:Nat)(a v:Int):Prop where
 ev:M'.evs=M.evs++[⟨3,t,0,a,v,0,0,false⟩]
 th:M'.threads=M.threads
 mem:∀b,0<=b->db M' b=if b=a then v else db M b
 oth:∀s,s≠t->bn M' s=bn M s
 own:bn M t=(a,v) :: bn M' t
 a0:0<=a/\a<M.mem.length
theorem oW{M:Mac}{t:Nat}{a v:Int}{l:List (Int×Int)}(hM:MOk M)(h:bn M t=(a,v) :: l):BE M (bD M t) t a v:=by
 obtain⟨x,hx⟩:∃x,M.bufs[t]? = some x:=by
  unfold bn at h
  cases hx:M.bufs[t]? with
  | none=>rw[hx]at h;cases h
  | some x=>exact⟨x,rfl⟩
 have he:ot x=(a,v) :: l:=by simpa only[bn,hx] using h
 obtain⟨hb,hO⟩:=hM.buf hx
 have h0:0<x.n:=by
  have:=hb.n0
  by_cases e:x.n=0
  ·unfold ot at he;rw[e]at he;cases he
  ·omega
 have hp:=A4 hb h0;have hav:=hp.symm.trans he;simp only[List.cons.injEq,Prod.mk.injEq]at hav;obtain⟨⟨ha,hv⟩,hl⟩:=hav;have htl:t<M.bufs.length:=(aj.1 hx).1;have hf:lR hO h0 x.first.toNat=lR hO h0 x.first.toNat:=rfl
 have ha0:=lR hO h0 x.first.toNat
 rw[ha]at ha0;rw[rQ hx h0];refine⟨by simp only[fM,ha,hv],rfl,λb hb0=>?_,λs hs=>?_,?_,ha0⟩
 ·simp only[fM,db,ha,hv]
  by_cases e:b=a
  ·subst e
   rw[ag rfl,List.getD_eq_getElem?_getD,List.getElem?_set_self (by omega)];rfl
  ·rw[af e,List.getD_eq_getElem?_getD,List.getElem?_set_ne (by omega),<-List.getD_eq_getElem?_getD]
 ·simp only[fM,bn]
  rw[List.getElem?_set_ne (λe=>hs e.symm)]
 ·rw[h]
  simp only[fM,bn];rw[List.getElem?_set_self htl];simp only[hl]
def bQ(r:Nat->Int)(a:Nat)(v:Int):Nat->Int:=λj=>if j=a then v else r j
def dg(m:Int->Int)(a v:Int):Int->Int:=λb=>if b=a then v else m b
theorem setR_regs(T:Th)(a:Nat)(v:Int):(jg T a v).regs=bQ T.regs a v:=rfl
def adr(I:Ins)(r:Nat->Int):Int:=if I.b<0\/8<=I.b then I.k else(r I.b.toNat+I.k)%4294967296
structure Ef where
 q:Nat
 r:Nat->Int
 m:Int->Int
 b:List (Int×Int)
def lex(I:Ins)(s:Ef):Ef:=
 if I.op=13 then { s with q:=I.k.toNat }
 else if I.op=14 then { s with q:=if s.r I.a.toNat=0 then I.k.toNat else s.q+1 }
 else if I.op=15 then { s with q:=if s.r I.a.toNat=0 then s.q+1 else I.k.toNat }
 else if I.op=16 then { s with q:=s.q+1,r:=bQ s.r I.a.toNat (bk s.b s.m (adr I s.r)) }
 else if I.op=17 then { s with q:=s.q+1,b:=s.b++[(adr I s.r,s.r I.a.toNat)] }
 else if I.op=19 then { s with q:=s.q+1,r:=bQ s.r I.a.toNat (s.m (adr I s.r)),m:=dg s.m (adr I s.r) (s.r I.a.toNat) }
 else if I.op=20 then { s with q:=s.q+1,r:=bQ s.r I.a.toNat (s.m (adr I s.r)),m:=dg s.m (adr I s.r) ((s.m (adr I s.r)+s.r I.a.toNat)%4294967296) }
 else if I.op=21 then { s with q:=s.q+1,r:=bQ s.r I.a.toNat (s.m (adr I s.r)),m:=if s.m (adr I s.r)=s.r I.a.toNat then dg s.m (adr I s.r) (s.r I.c.toNat) else s.m }
 else if I.op=1 then { s with q:=s.q+1,r:=bQ s.r I.a.toNat I.k }
 else if I.op=2 then { s with q:=s.q+1,r:=bQ s.r I.a.toNat (s.r I.b.toNat) }
 else { s with q:=s.q+1,r:=bQ s.r I.a.toNat (gj I.op (s.r I.b.toNat) (s.r I.c.toNat)) }
def oq(op:Int):Bool:=decide (op=1\/op=2\/op=3\/op=12\/op=13\/op=14\/op=15\/op=16\/op=17\/op=19\/op=20\/op=21)
structure TL where
 c:Nat
 q:Nat
 r:Nat->Int
 d:Bool
structure LS where
 m:Int->Int
 b:Nat->List (Int×Int)
 th:Nat->TL
def bv(f:Nat->TL)(t:Nat)(x:TL):Nat->TL:=λs=>if s=t then x else f s
def bU(f:Nat->List (Int×Int))(t:Nat)(l:List (Int×Int)):Nat->List (Int×Int):=λs=>if s=t then l else f s
def swB(op:Int):Bool:=decide (op=19\/op=20\/op=21)
def exS(t:Nat)(I:Ins)(s:LS):LS:={ m:=(lex I ⟨(s.th t).q,(s.th t).r,s.m,s.b t⟩).m,b:=bU s.b t (lex I ⟨(s.th t).q,(s.th t).r,s.m,s.b t⟩).b,th:=bv s.th t ⟨(s.th t).c,(lex I ⟨(s.th t).q,(s.th t).r,s.m,s.b t⟩).q,(lex I ⟨(s.th t).q,(s.th t).r,s.m,s.b t⟩).r,(s.th t).d || ((s.th t).c == 1 && swB I.op)⟩ }
structure BA(P:Nat->Nat->List Ins)(lo hi:Int)(n:Nat)(F:Int->Int)(X:List Nat->Nat->LS->Prop):Prop where
 flush:∀{Q E s t a v l},X Q E s->s.b t=(a,v) :: l->X Q E { s with m:=dg s.m a v,b:=bU s.b t l }
 regs:∀{Q E s t},X Q E s->t<n->(s.th t).c=0->∀r,X Q E { s with th:=bv s.th t { s.th t with r:=r } }
 enter:∀{Q E s t c},X Q E s->t<n->(s.th t).c=0->c=1\/c=2->X Q E { s with th:=bv s.th t ⟨c,0,(s.th t).r,false⟩ }
 leave:∀{Q E s t},X Q E s->t<n->(s.th t).c≠0->(s.th t).q=(P (s.th t).c t).length->
  if(s.th t).c=1/\(s.th t).d=true then Q[E]? = some t/\X Q (E+1) { s with th:=bv s.th t { s.th t with c:=0 } } else X Q E { s with th:=bv s.th t { s.th t with c:=0 } }
 exec:∀{Q E s t I},X Q E s->Q.length<1000000->t<n->(s.th t).c≠0->(P (s.th t).c t)[(s.th t).q]? = some I->(swB I.op=true->s.b t=[])->
  (aJ I.op=true->lo<=adr I (s.th t).r/\adr I (s.th t).r<hi)/\X (if(s.th t).c=1/\swB I.op=true then Q++[t] else Q) E (exS t I s)
 init:∀{s:LS},(∀a,lo<=a->a<hi->s.m a=F (a - lo))->(∀t,s.b t=[])->(∀t,(s.th t).c=0)->X [] 0 s
 frame:∀{Q E s} {m:Int->Int},X Q E s->(∀a,lo<=a->a<hi->m a=s.m a)->X Q E { s with m:=m }
theorem pP{M:Mac}(hM:MOk M){ti:Nat}(A v:Int)(hf:eu M ti=false)(s:Nat):bn (fj M ti A v) s=if s=ti then bn M ti++[(A,v)] else bn M s:=by
 unfold eu at hf;unfold fj
 cases hx:M.bufs[ti]? with
 | none=>rw[hx]at hf;cases hf
 | some x=>
  simp only[hx,decide_eq_false_iff_not]at hf;have hl:ti<M.bufs.length:=(aj.1 hx).1;simp only[bn]
  by_cases e:s=ti
  ·subst e
   rw[List.getElem?_set_self hl,ag rfl,hx];exact Bg (hM.buf hx).1 (by omega) A v
  ·rw[List.getElem?_set_ne (λh=>e h.symm),af e]
theorem mV{M:Mac}{A v:Int}(hA:0<=A/\A<M.mem.length){b:Int}(hb:0<=b):db (uh M A v) b=dg (db M) A v b:=by
 simp only[db,uh,dg]
 by_cases e:b=A
 ·subst e
  rw[ag rfl,List.getD_eq_getElem?_getD,List.getElem?_set_self (by omega)];rfl
 ·rw[af e,List.getD_eq_getElem?_getD,List.getElem?_set_ne (by omega),<-List.getD_eq_getElem?_getD]
theorem xg{M:Mac}(hM:MOk M){t:Nat}(h:fH M t=0):bn M t=[]:=by
 rw[qz hM]at h;exact List.eq_nil_of_length_eq_zero h
theorem zu{op:Int}(hl:oq op=true)(ha:aJ op=true):op=16\/op=17\/op=19\/op=20\/op=21:=by
 simp[oq,aJ]at hl ha;omega
structure AskL(M:Mac)(ti:Nat)(T:Th)(I:Ins)(q:Nat)(X:MT):Prop where
 pc:X.2.pc=T.pc
 st:X.2.st=T.st
 r:X.2.regs=(lex I ⟨q,T.regs,db M,bn M ti⟩).r
 m:∀b,0<=b->db X.1 b=(lex I ⟨q,T.regs,db M,bn M ti⟩).m b
 b:∀s,bn X.1 s=if s=ti then(lex I ⟨q,T.regs,db M,bn M ti⟩).b else bn M s
 q:(lex I ⟨q,T.regs,db M,bn M ti⟩).q=q+1
theorem zT{M:Mac}(hM:MOk M){ti:Nat}(hi:ti<M.threads.length)(T:Th){I:Ins}(q:Nat)(hl:oq I.op=true)(ha:aJ I.op=true)(hA:0<=adr I T.regs/\adr I T.regs<M.mem.length)(hf:I.op=17->eu M ti=false)(he:swB I.op=true->bn M ti=[]):AskL M ti T I q (cR M ti T I (adr I T.regs)):=by
 have hv:=uA hM hi hA.1
 have same:∀s,bn M s=if s=ti then bn M ti else bn M s:=λs=>by split<;>simp_all
 rcases zu hl ha with e|e|e|e|e
 ·have hx:cR M ti T I (adr I T.regs)=(bK M ti T (adr I T.regs) (ev 1 (fo M ti (adr I T.regs)) 0 0 false),jg T I.a.toNat (fo M ti (adr I T.regs))):=by simp[cR,e]
  rw[hx];refine⟨rfl,rfl,?_,λb hb=>?_,λs=>?_,?_⟩
  ·simp[lex,e,hv,setR_regs]
  ·simp[lex,e];rfl
  ·simp[lex,e];exact same s
  ·simp[lex,e]
 ·have hx:cR M ti T I (adr I T.regs)=(bK (fj M ti (adr I T.regs) (T.regs I.a.toNat)) ti T (adr I T.regs) (ev 2 (T.regs I.a.toNat) 0 0 false),T):=by simp[cR,e]
  rw[hx];refine⟨rfl,rfl,?_,λb hb=>?_,λs=>?_,?_⟩
  ·simp[lex,e]
  ·simp[lex,e]
   show db (fj M ti _ _) b=_
   unfold fj;split<;>rfl
  ·simp[lex,e];exact pP hM _ _ (hf e) s
  ·simp[lex,e]
 all_goals
  have hem:=he (by simp[swB,e])
  have hv':fo M ti (adr I T.regs)=db M (adr I T.regs):=by rw[hv,hem];rfl
 ·have hx:cR M ti T I (adr I T.regs)=bz M ti T I.a.toNat (adr I T.regs) (db M (adr I T.regs)) (T.regs I.a.toNat) true:=by simp[cR,e,hv']
  rw[hx];refine⟨rfl,rfl,?_,λb hb=>?_,λs=>?_,?_⟩
  ·simp[lex,e,bz,setR_regs]
  ·simp[lex,e];exact mV hA hb
  ·simp[lex,e];exact same s
  ·simp[lex,e]
 ·have hx:cR M ti T I (adr I T.regs)=bz M ti T I.a.toNat (adr I T.regs) (db M (adr I T.regs)) ((db M (adr I T.regs)+T.regs I.a.toNat)%4294967296) true:=by simp[cR,e,hv']
  rw[hx];refine⟨rfl,rfl,?_,λb hb=>?_,λs=>?_,?_⟩
  ·simp[lex,e,bz,setR_regs]
  ·simp[lex,e];exact mV hA hb
  ·simp[lex,e];exact same s
  ·simp[lex,e]
 ·have hx:cR M ti T I (adr I T.regs)=bz M ti T I.a.toNat (adr I T.regs) (db M (adr I T.regs)) (T.regs I.c.toNat) (db M (adr I T.regs) == T.regs I.a.toNat):=by simp[cR,e,hv']
  rw[hx];refine⟨rfl,rfl,?_,λb hb=>?_,λs=>?_,?_⟩
  ·simp[lex,e,bz,setR_regs]
  ·by_cases h:db M (adr I T.regs)=T.regs I.a.toNat
   ·simp[lex,e,bz,h];rw[<-h];exact mV hA hb
   ·simp[lex,e,bz,h];rfl
  ·by_cases h:db M (adr I T.regs)=T.regs I.a.toNat
   ·simp[lex,e,bz,h];exact same s
   ·simp[lex,e,bz,h];exact same s
  ·simp[lex,e]
structure GU(M:Mac)(ti:Nat)(T:Th)(I:Ins)(q:Nat)(d:Int)(X:MT):Prop where
 pc:X.2.pc=d+(lex I ⟨q,T.regs,db M,bn M ti⟩).q
 st:X.2.st=T.st
 r:X.2.regs=(lex I ⟨q,T.regs,db M,bn M ti⟩).r
 m:∀b,0<=b->db X.1 b=(lex I ⟨q,T.regs,db M,bn M ti⟩).m b
 b:∀s,bn X.1 s=if s=ti then(lex I ⟨q,T.regs,db M,bn M ti⟩).b else bn M s
theorem Dt{M:Mac}(hM:MOk M){ti:Nat}(hi:ti<M.threads.length)(T:Th){I:Ins}(q:Nat){d:Int}(hk:bt I.op=true->0<=I.k/\0<=d/\I.k+d<4294967296)(hl:oq I.op=true)(hpc:T.pc=d+q)(hA:aJ I.op=true->0<=adr I T.regs/\adr I T.regs<M.mem.length)
  (hn:¬((fO I.op=true/\fH M ti≠0)\/(I.op=17/\eu M ti=true))) {A:Int} (eA:aJ I.op=true->A=adr I T.regs):GU M ti T I q d (gn M ti T (j4 d I) A)/\(swB I.op=true->bn M ti=[]):=by
 have same:∀s,bn M s=if s=ti then bn M ti else bn M s:=λs=>by split<;>simp_all
 have hsw:swB I.op=true->bn M ti=[]:=λe=>by
  refine xg hM ?_
  have hd:fO I.op=true:=by
   simp[swB]at e;simp[fO];omega
  by_cases h:fH M ti=0
  ·exact h
  ·exact absurd (.inl ⟨hd,h⟩) hn
 refine⟨?_,hsw⟩
 by_cases hj:bt I.op=true
 ·have hk:=hk hj
  have e1:(j4 d I).op=I.op/\(j4 d I).a=I.a/\(j4 d I).k=I.k+d:=by
   simp[j4,bt]at hj ⊢;rcases hj with e|e|e<;>simp[e]<;>omega
  have ho:j4 d I={ I with k:=I.k+d }:=by
   have:(I.k+d)%4294967296=I.k+d:=by omega
   unfold j4;rw[ag hj,this]
  have h0:¬I.op=0:=by simp[oq]at hl;omega
  rw[ho];unfold gn;simp only;rw[af hn,af h0,ag hj];simp[bt]at hj
  have hkk:((I.k.toNat:Nat):Int)=I.k:=by omega
  rcases hj with e|e|e
  ·simp[mf,e]
   exact⟨by simp[lex,e,hkk];omega,rfl,by simp[lex,e],λb _=>by simp[lex,e],λs=>by simp[lex,e];intro h;rw[h]⟩
  ·by_cases hz:T.regs I.a.toNat=0
   ·simp[mf,e,hz]
    exact⟨by simp[lex,e,hz,hkk];omega,rfl,by simp[lex,e],λb _=>by simp[lex,e],λs=>by simp[lex,e];intro h;rw[h]⟩
   ·simp[mf,e,hz]
    exact⟨by simp[lex,e,hz,iJ,hpc];omega,rfl,by simp[lex,e,iJ],λb _=>by simp[lex,e,iJ],λs=>by simp[lex,e,iJ];intro h;rw[h]⟩
  ·by_cases hz:T.regs I.a.toNat=0
   ·simp[mf,e,hz]
    exact⟨by simp[lex,e,hz,iJ,hpc];omega,rfl,by simp[lex,e,iJ],λb _=>by simp[lex,e,iJ],λs=>by simp[lex,e,iJ];intro h;rw[h]⟩
   ·simp[mf,e,hz]
    exact⟨by simp[lex,e,hz,hkk];omega,rfl,by simp[lex,e],λb _=>by simp[lex,e],λs=>by simp[lex,e];intro h;rw[h]⟩
 ·have e1:j4 d I=I:=by
   simp[j4,bt]at hj ⊢;omega
  rw[e1]
  have h0:¬I.op=0:=by simp[oq]at hl;omega
  unfold gn;rw[af hn,af h0,af hj]
  by_cases ha:aJ I.op=true
  ·rw[ag ha,eA ha]
   have:=zT hM hi T q hl ha (hA ha) (λe=>by
    cases hf:eu M ti with
    | false=>rfl
    | true=>exact absurd (.inr ⟨e,hf⟩) hn) hsw
   exact⟨by show(cR _ _ _ _ _).2.pc+1=_;rw[this.pc,this.q,hpc];omega,this.st,this.r,this.m,this.b⟩
  ·rw[af ha]
   have hop:I.op=1\/I.op=2\/I.op=3\/I.op=12:=by
    simp[oq]at hl;simp[aJ]at ha;simp[bt]at hj;omega
   have hp:cJ M ti T I A=(M,⟨T.pc,(lex I ⟨q,T.regs,db M,bn M ti⟩).r,T.st⟩):=by
    rcases hop with e|e|e|e<;>simp[cJ,lex,e,jg]<;>rfl
   rw[hp]
   have hl':(lex I ⟨q,T.regs,db M,bn M ti⟩).q=q+1/\(lex I ⟨q,T.regs,db M,bn M ti⟩).m=db M/\(lex I ⟨q,T.regs,db M,bn M ti⟩).b=bn M ti:=by
    rcases hop with e|e|e|e<;>simp[lex,e]
   exact⟨by show T.pc+1=_;rw[hl'.1,hpc];omega,rfl,rfl,λb _=>by rw[hl'.2.1];rfl,λs=>by rw[hl'.2.2];exact same s⟩
end Go.Proofs.YtldlcnaphednnaaGreatDoor
