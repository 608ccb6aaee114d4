/- A client's calls, thread by thread. What befell one mutex, as acts: function 9. -/
import Derived.Test.YtldlcnaphednnaaGreatDoorM19
import Derived.Test.YtldlcnaphednnaaGreatDoorM23
import Derived.Test.YtldlcnaphednnaaGreatDoorM38
set_option maxRecDepth 100000
set_option maxHeartbeats 32000000
set_option linter.unusedVariables false
set_option linter.unusedSimpArgs false
namespace Go.Proofs.YtldlcnaphednnaaGreatDoor
open Go.RowKit Go.Maps
structure xy where
 who:Int
 obj:Int
 call:Int
 arg:Int
def FK(x:xy):List Value:=[.int .i64 x.who,.int .i64 x.obj,.int .i64 x.call,.int .u32 x.arg]
def eSi:Enc xy:=⟨39,4,FK⟩
theorem jl:eSi.Ok:=⟨λx=>rfl,λx u hu=>by
 simp only[eSi,FK,List.mem_cons,List.not_mem_nil,or_false]at hu
 rcases hu with rfl|rfl|rfl|rfl<;>rfl,by decide⟩
theorem Fo:(Tryz.prog.info? eSi.ty).map (λi=>(i.zero.map (·.cells.size),i.size,i.bytes))=some (some eSi.sz,eSi.sz,32):=by kernel_rfl
def bh(t:Nat)(op:Nat->X):Nat->List xy
 | 0=>[]
 | i+1=>bh t op i++(if(op i).k=7 then[⟨t,(op i).a,(op i).b,(op i).K⟩] else[])
def bH(C:Cl):Nat->List xy
 | 0=>[]
 | t+1=>bH C t++bh t (C.op t) (C.len t)
theorem jI(t:Nat)(op:Nat->X):∀i,(bh t op i).length<=i
 | 0=>ah _
 | i+1=>by
  have:=jI t op i
  unfold bh;rw[List.length_append];split<;>simp<;>omega
theorem o6{C:Cl}{t:Nat}(h:∀j,j<t->C.len j<=100):(bH C t).length<=100 * t:=by
 induction t with
 | zero=>exact ah _
 | succ t ih=>
  have h1:=ih (λj hj=>h j (by omega));have h2:=jI t (C.op t) (C.len t);have h3:=h t (by omega);unfold bH;rw[List.length_append];omega
theorem yD(C:Cl)(w:World)(hM:MemC w C)(hn:C.nt<=40)(hl:∀t,t<C.nt->C.len t<=100):Calls Tryz.prog 7 #[C.v] w λe w'=>(∃v',e=.returned v'/\Own eSi w' v' (bH C C.nt))/\Below w.heap.size w w':=by
 unfold Cl.v;go_enter Tryz.func7,Tryz.ntmps7;go_upto_region 1 with(fail);obtain⟨W,kC,e0,e1,XC,hal⟩:=aO w #[.slice C.A C.no C.ca,.int .i64 C.vars,.slice C.W C.nw C.cw,.int .i64 C.room,.slice C.T C.nt C.ct] 26;rw[e0,e1];clear e0 e1;have y4:=ae W kC 4 _ 26 _ XC;go_upto_region 3 with(fail);clear y4;go_loopw [3,11] (λs3 v wr=>∃t:Nat,v=.int .i64 t/\t<=C.nt/\Own eSi wr s3 (bH C t)/\(∀k,s3.ownBlock=some k->w.heap.size<=k)/\Below w.heap.size w wr) (λ_ v _=>C.nt - (intOf v).toNat)
 case atStart=>exact⟨0,rfl,au _,Own.nil _,λk e=>(by cases e),hal⟩
 case round=>
  obtain⟨t,rfl,ht,hO,hf,hb⟩:=hrel
  by_cases hlt:t<C.nt
  case neg=>
   obtain rfl:t=C.nt:=by omega
   have hl1:¬((C.nt:Int)<C.nt):=by omega
   clear hlt;go_wp2;go_ret;exact⟨⟨_,rfl,hO⟩,hb⟩
  have hl0:(0:Int)<=t:=by omega
  have hl1:(t:Int)<C.nt:=by omega
  obtain⟨bT,oT,hT0⟩:=oC hM.thr (by omega);have hTh:Thr w (some ⟨bT,oT,none⟩) C.nt C.tp C.len C.tc:=hT0▸hM.thr;have hcT:=o7 (hTh.below hb) hlt;have hL100:=hl t hlt;have hls:=o6 (C:=C) (t:=t) (λj hj=>hl j (by omega));obtain⟨L,hL⟩:=Zh (C.len t);rw[<-hL.out]at hcT hL100;rw[hT0];have hop:=hM.ops t hlt;rw[<-hL.out]at hop
  have hnx:Hid (bH C (t+1)=bH C t++bh t (C.op t) L):=by rw[hL.out];rfl
  go_upto_region 6 with(fail);go_loopw [3,18] (λs3 v wx=>∃i:Nat,v=.int .i64 i/\i<=L/\Own eSi wx s3 (bH C t++bh t (C.op t) i)/\(∀k,s3.ownBlock=some k->w.heap.size<=k)/\Below w.heap.size w wx) (λ_ v _=>L - (intOf v).toNat)
  case atStart=>exact⟨0,rfl,au _,by simpa[bh] using hO,hf,hb⟩
  case round=>
   clear hO hf hb hcT;obtain⟨i,rfl,hi,hO,hf,hb⟩:=hrel
   by_cases hiL:i<L
   case neg=>
    obtain rfl:i=L:=by omega
    have hi1:¬((i:Int)<i):=by omega
    rw[<-hnx.out]at hO;clear hiL;go_wp2;go_roundw
    case rel=>exact⟨t+1,by go_num,by omega,hO,hf,hb⟩
    case measure=>simp[intOf];omega
   have hi0:(0:Int)<=i:=by omega
   have hi1:(i:Int)<L:=by omega
   obtain⟨bo,oo,hto⟩:=rA hop (by omega);have hOW:Ops w (some ⟨bo,oo,none⟩) L (C.op t):=hto▸hop;rw[hto];have hil:=jI t (C.op t) i;have hnx2:Hid (bh t (C.op t) (i+1)=bh t (C.op t) i++(if(C.op t i).k=7 then[⟨t,(C.op t i).a,(C.op t i).b,(C.op t i).K⟩] else[])):=rfl;go_upto_region 7 with(fail);refine ab ?_;refine aG rfl (.pointer (some ⟨bo,oo+i * 4,none⟩)) ?_ ?_
   ·go_simp
   refine Zk ?_;refine Zu (xv (C.op t i)) (pd (.tmp 20) rfl bo oo i hOW hb hiL rfl) ?_;refine Za 49 #[.int .i64 0,.int .i64 0,.int .i64 0,.int .u32 0] (λw4 b9 X4 l4 f4=>?_);unfold xv;obtain⟨x,hx⟩:=Zh (C.op t i);rw[<-hx.out]at hnx2 ⊢;clear hx;obtain⟨xk,xa,xb,xK⟩:=x;simp only at hnx2 ⊢;refine Zo 49 b9 #[.int .i64 xk,.int .i64 xa,.int .i64 xb,.int .u32 xK] X4 (λw5 g1 g2 g3 g4=>?_);have hb5:Below wr.heap.size wr w5:=l4.trans (g3 _ (by simp only[Hid]at f4;omega));have hO5:=hO.below hb5;have hB5:=hb.trans (hb5.mono hb.size);clear X4 l4 f4 g2 g3 g4 hO hb hb5;have y0:=ae w5 b9 0 _ 49 _ g1
   by_cases h7:xk=7
   case neg=>
    rw[af h7,List.append_nil]at hnx2;rw[<-hnx2.out]at hO5;clear hnx2;go_wp2;go_roundw
    case rel=>exact⟨i+1,by go_num,by omega,hO5,hf,hB5⟩
    case measure=>simp[intOf];omega
   subst h7;rw[ag rfl]at hnx2;have y1:=ae w5 b9 1 _ 49 _ g1;have y2:=ae w5 b9 2 _ 49 _ g1;have y3:=ae w5 b9 3 _ 49 _ g1;go_upto_region 9 with(fail);refine ab ?_
   iterate 9 refine Zv ?_
   refine dJ rfl (.slice (some ⟨w5.heap.size,0,none⟩) 1 1) (w':=w5.alloc (.cells #[.int .i64 t,.int .i64 xa,.int .i64 xb,.int .u32 xK] 39)) (by first|kernel_rfl|(go_simp;done)|(go_simp;rfl)) ?_
   obtain⟨w6,bN,e8,eg,BN,hb8⟩:=aO w5 #[.int .i64 t,.int .i64 xa,.int .i64 xb,.int .u32 xK] 39;rw[e8,eg];clear e8 eg;refine Zk ?_;refine i5 jl rfl 33 Tryz.underlying33 32 Fo (.tmp 25) (.tmp 34) rfl _ (bH C t++bh t (C.op t) i) [⟨t,xa,xb,xK⟩] rfl (hO5.below hb8) bN 0 1 rfl (cG BN _ rfl) (by simp only[List.length_append,List.length_singleton];omega) (by decide) (λv7 w7 hO7 hg7 hl7=>?_);refine Zk ?_
   have hO8:Own eSi w7 v7 (bH C t++bh t (C.op t) (i+1)):=by rw[hnx2.out,<-List.append_assoc];exact hO7
   have hB6:=hB5.trans (hb8.mono hB5.size);have hB7:Below w.heap.size w w7:=hB6.grown hg7 hB6.size hf
   have hf7:∀k,v7.ownBlock=some k->w.heap.size<=k:=λk hk=>by
    rcases hl7 with h|h
    ·exact hf k (h.symm.trans hk)
    ·rw[h]at hk;cases hk;exact hB6.size
   clear hO5 hO7 hg7 hl7 hB5 hB6 hb8 BN hnx2 g1 hf y0 y1 y2 y3;go_wp2;go_roundw
   case rel=>exact⟨i+1,by go_num,by omega,hO8,hf7,hB7⟩
   case measure=>simp[intOf];omega
theorem AW{rem:Nat->List CR}{x:CR}{l:List CR}(h0:rem 0=x :: l)(h:∀t,1<=t->t<8->rem t=[]):fR rem 8=some 0:=by
 simp[fR,h0,h 1,h 2,h 3,h 4,h 5,h 6,h 7]
theorem nC:∀(l:List CR)(rem:Nat->List CR),rem 0=l->(∀t,1<=t->t<8->rem t=[])->dl l.length rem=l
 | [],rem,h0,h=>rfl
 | x :: l,rem,h0,h=>by
  rw[List.length_cons,lA (AW h0 h) h0,nC l _ (by simp[ms]) (λt h1 h2=>by
   have:ms rem 0 l t=rem t:=af (by omega)
   rw[this];exact h t h1 h2)]
theorem wo{rem:Nat->List CR}(h:∀t,1<=t->t<8->rem t=[]):tot rem=(rem 0).length:=by
 simp[tot,h 1,h 2,h 3,h 4,h 5,h 6,h 7]
theorem DA{P:Program}{ops:Array Oper}{Q:Exit->Go.Act->World->Prop}{rest:List Oper}{o:Oper}{a:Go.Act}{w:World}(hgd:o.guard=none)(ty:TypeId)(x y:Operand)(ho:o.op=.store ty x y)(b off:Nat)(vs:List Value)(hinf:(P.info? ty).map (·.size)=some vs.length)(hone:∀u∈vs,u.oneCell'=true)(cur res:List Value)(t:TypeId)
  (hx:a.eval x=.pointer (some ⟨b,off,none⟩)) (hy:a.eval y=.agg vs.toArray) (hg:w.heap[b]? = some (.cells cur.toArray t (0,0))) (hs:off+vs.length<=cur.length) (hres:cur.take off++vs++cur.drop (off+vs.length)=res)
  (h:∀w',w'.heap[b]? = some (.cells res.toArray t (0,0))->(∀k,k≠b->w'.heap[k]? = w.heap[k]?)->(∀B,B<=b->Below B w w')->∀K:Go.Act->World->Prop,(∀a w,wpList P ops Q rest a w->K a w)->K (a.put o.dst undef) w'):wpList P ops Q (o :: rest) a w:=by
 refine wpList_plain hgd λK hK=>?_
 obtain⟨cur',h1,h2,h3,h4,h5⟩:=dQ b t vs off w cur.toArray hg (by simpa using hs)
 have hth:w.there b off vs.length:=λj hj=>by
  refine⟨?_,frozen_of_row w b _ _ t hg⟩
  rw[ae w b _ _ t _ hg,Array.getElem?_eq_getElem (by simp<;>omega)];rfl
 have e:cur'=res.toArray:=by
  rw[<-hres];apply Array.toList_inj.1;rw[h2]
 subst e;unfold Oper.wp execOp;simp only[ho,hx,hy,Instr.storeAt,Instr.sureAddr,Sem.run_bind,Sem.run_pure,Result.andThen_ok,run_storeVar_mid w b off ty vs.toArray (by simpa using hth) (by rw[hinf];simp) (all_oneCell_toArray hone)];exact h _ h1 h3 h4 K hK
theorem ofC9(C:Cl)(bA oA:Nat)(hCA:C.A=some ⟨bA,oA,none⟩)(hno:C.no=1)(hnt:C.nt=1)(hca:1<=C.ca)(w:World)(hN:NmW w)(hA:Objs w (some ⟨bA,oA,none⟩) 1 C.f)(hf0:C.f 0=⟨10,0,0,0⟩)(gs cs:Nat)(hS:Own eSi w (.slice (some ⟨gs,0,none⟩) 2 cs) [⟨0,0,1,0⟩,⟨0,0,2,0⟩])
  (E:List Evt) (hE:E.length<=400000) (hU:∀x∈E,U32 x.k) (g c:Nat) (cur:Array Value) (hG:w.heap[g]? = some (.cells cur 46 (0,0))) (hc:∀i x,E[i]? = some x->∀q v,(fp x)[q]? = some v->cur[i * 8+q]? = some v)
  (b1 f1 r1 b2 f2 r2:Int) (hK0:K7 E 0=[⟨0,0,b1,f1,r1⟩,⟨1,0,b2,f2,r2⟩]) (hKt:∀t,1<=t->t<8->K7 E t=[]) (hf1:0<=f1) (hf2:0<=f2) (hle':¬b2<f1):Calls Tryz.prog 11 #[C.v,.slice (some ⟨gs,0,none⟩) 2 cs,.slice (some ⟨g,0,none⟩) E.length c] w λe w'=>(∃v,e=.returned v/\Own eA w' v [⟨0,0,1,0,0,0,0,f1,true,r1⟩,⟨0,0,2,0,0,0,1,b2,true,r2⟩])/\Below w.heap.size w w':=by
 have hcl:=λ(w':World) (hb:Below w.heap.size w w')=>uI (p0:=some ⟨g,0,none⟩) E hE hU g c w' cur (keep hG hb) hc (λ_=>⟨rfl,rfl⟩);obtain⟨N,hN'⟩:∃N,Hid (N=E.length):=⟨_,rfl⟩;rw[<-hN'.out]at hcl ⊢;obtain⟨La,hLa⟩:∃La:List Act,Hid (La=[⟨0,0,1,0,0,0,0,f1,true,r1⟩,⟨0,0,2,0,0,0,1,b2,true,r2⟩]):=⟨_,rfl⟩;rw[<-hLa.out];have hle:Hid (¬b2<f1):=hle';clear hG hc hle';unfold Cl.v;rw[hCA,hno,hnt];go_enter Tryz.func11,Tryz.ntmps11;go_upto_region 1 with(fail);obtain⟨W,kC,e0,e1,XC,hal⟩:=aO w #[.slice (some ⟨bA,oA,none⟩) 1 C.ca,.int .i64 C.vars,.slice C.W C.nw C.cw,.int .i64 C.room,.slice C.T 1 C.ct] 26;rw[e0,e1];clear e0 e1;go_upto_region 1 with(fail);refine ab ?_
 refine dJ rfl (.slice (some ⟨W.heap.size,0,none⟩) 0 0) (w':=W.alloc (.cells #[] 77)) (by first|kernel_rfl|(go_simp;done)|(go_simp;rfl)) ?_
 have hOe:Own eA (W.alloc (.cells #[] 77)) (.slice (some ⟨W.heap.size,0,none⟩) 0 0) []:=Own.empty W;have hbe:Below W.heap.size W (W.alloc (.cells #[] 77)):=(ak _ _).alloc (ah _) _;obtain⟨kL,hkL⟩:=Zh (W.heap.size);obtain⟨W1,hW1⟩:=Zh (W.alloc (.cells #[] 77));rw[<-hW1.out,<-hkL.out]at hOe;rw[<-hW1.out]at hbe;rw[<-hW1.out,<-hkL.out];clear hW1;refine Zk ?_
 refine dJ rfl (.pointer (some ⟨W1.heap.size,0,none⟩)) (w':=W1.alloc (.cells #[.slice (some ⟨kL,0,none⟩) 0 0] 84)) (by first|kernel_rfl|(go_simp;done)|(go_simp;rfl)) ?_
 obtain⟨W2,kH,e0,e1,XH,hb2⟩:=aO W1 #[.slice (some ⟨kL,0,none⟩) 0 0] 84;rw[e0,e1];have hW1s:=hbe.size
 have hkH:W.heap.size<=kH:=by rw[<-e1];exact hW1s
 clear e0 e1;refine Zk ?_;refine Zv ?_;have hWs:=hal.size;have hHB:HB w.heap.size W2 kH (.slice (some ⟨kL,0,none⟩) 0 0) (La.take 0):=⟨XH,hOe.below hb2,by omega,λj e=>by cases e;rw[hkL.out];exact hWs⟩;have hal2:=(hal.trans (hbe.mono hWs)).trans (hb2.mono (by omega));replace XC:=keep (keep XC hbe) hb2;clear hkL hbe hb2 hal XH hOe hW1s;go_upto_region 2 with(fail);refine ab ?_;refine Zv ?_;refine aP rfl 8 #[.slice (some ⟨g,0,none⟩) N c] (λv w'=>(∃rem,(∀t,t<8->(rem t).map crK=K7 E t)/\Own eC w' v (dl (tot rem) rem))/\Below W2.heap.size W2 w') ?_ ((hcl W2 hal2).mono λe w' h=>let⟨⟨v,rem,h1,h2,h4,_⟩,h3⟩:=h;⟨v,h1,⟨rem,h2,h4⟩,h3⟩) ?_
 ·first|(go_simp;done)|(go_simp;rfl)
 rintro vC W3 ⟨⟨rem,hrem,hOC⟩,hb3⟩;refine Zk ?_;have hr0:=(hrem 0 (by decide)).trans hK0;have hrt:∀t,1<=t->t<8->rem t=[]:=λt h1 h2=>List.map_eq_nil_iff.1 ((hrem t h2).trans (hKt t h1 h2))
 obtain⟨x1,x2,hx12,k1,k2⟩:∃x1 x2,rem 0=[x1,x2]/\crK x1=⟨0,0,b1,f1,r1⟩/\crK x2=⟨1,0,b2,f2,r2⟩:=by
  match h:rem 0,hr0 with
  | [],hr0=>cases hr0
  | [x],hr0=>simp at hr0
  | [x,y],hr0=>simp at hr0;exact⟨x,y,rfl,hr0.1,hr0.2⟩
  | x :: y :: z :: l,hr0=>simp at hr0
 rw[wo hrt,nC _ rem rfl hrt,hx12]at hOC
 obtain⟨gC,cC,rfl⟩:∃gC cC,vC=.slice (some ⟨gC,0,none⟩) 2 cC:=by
  rcases hOC.form with⟨_,e⟩|⟨gC,cC,e,_⟩
  ·cases e
  ·exact⟨gC,cC,e⟩
 refine Zv ?_;replace hHB:=hHB.below hb3;replace hal2:=hal2.trans (hb3.mono hal2.size);replace XC:=keep XC hb3;replace hS:=hS.below hal2;have hNw:=hN;clear hb3 hcl hrem hr0 hrt hx12 hK0 hKt hU hE;obtain⟨x0,y0,z0⟩:True/\True/\True:=⟨trivial,trivial,trivial⟩;clear x0 y0 z0;go_upto_region 3 with(fail);go_loopw [18] (λv wr=>∃k:Nat,v=.int .i64 k/\k<=2/\(∃vh,HB w.heap.size wr kH vh (La.take k))/\Own eC wr (.slice (some ⟨gC,0,none⟩) 2 cC) [x1,x2]/\Own eSi wr (.slice (some ⟨gs,0,none⟩) 2 cs) [⟨0,0,1,0⟩,⟨0,0,2,0⟩]/\wr.heap[kC]? = some (.cells #[.slice (some ⟨bA,oA,none⟩) 1 C.ca,.int .i64 C.vars,.slice C.W C.nw C.cw,.int .i64 C.room,.slice C.T 1 C.ct] 26 (0,0))/\Below w.heap.size w wr) (λv _=>2 - (intOf v).toNat)
 case atStart=>exact⟨0,rfl,by decide,⟨_,hHB⟩,hOC,hS,XC,hal2⟩
 case round=>
  clear hHB hOC hS XC hal2;obtain⟨k,rfl,hk,⟨vh,hHB⟩,hOC,hS,XC,hal2⟩:=hrel
  by_cases hlt:k<2
  case neg=>
   obtain rfl:k=2:=by omega
   have hl1:¬(((2:Nat):Int)<2):=by decide
   have hL2:La.length=2:=by rw[hLa.out];rfl
   rw[List.take_of_length_le (by omega)]at hHB;clear hOC hS XC hlt k1 k2;go_upto_region 13 with(fail);obtain⟨S,hS⟩:=Zh (wr.heap.size)
   have hwS:w.heap.size<=S:=by rw[hS.out];exact hal2.size
   go_loopw [12] (λs12 wx=>∃(j:Nat)(vh:Value),j<=2/\HB w.heap.size wx kH vh (La.drop j)/\(∀i,vh.ownBlock=some i->i<S)/\Own eA wx s12 (La.take j)/\(∀i,s12.ownBlock=some i->S<=i)/\Hid (S<=wx.heap.size)/\Below w.heap.size w wx) (λs12 _=>2 - Ds s12)
   case atStart=>exact⟨0,vh,by decide,hHB,λi e=>by rw[hS.out];exact hHB.own.lt e,Own.nil _,λi e=>(by cases e),aD hS.out,hal2⟩
   case round=>
    clear hHB hal2 hS;obtain⟨j,vh,hj,hHB,hvS,hO,hoS,hSs,hal2⟩:=hrel;obtain⟨p,c1,rfl⟩:=hHB.own.form2;obtain⟨n,hn⟩:=Zh ((La.drop j).length)
    have hnj:n=2 - j:=by rw[hn.out,List.length_drop,hL2]
    have hbx:=hHB.box;rw[<-hn.out]at hbx;have c0:=ae wr kH 0 _ 84 _ hbx;go_upto_region 13 with(fail);refine ab ?_
    iterate 3 refine Zv ?_
    refine Zq 23 #[.slice p n c1] ((rR p n c1 wr).mono λe w' h=>⟨h.1,(by rw[h.2];exact ak _ _)⟩) (λw2 h2=>?_);replace hHB:=hHB.below h2;replace hO:=hO.below h2;replace hSs:Hid (S<=w2.heap.size):=ar hSs.out h2.size;replace hal2:=hal2.trans (h2.mono hal2.size);clear c0 hbx h2
    by_cases hlt:j<2
    case neg=>
     obtain rfl:j=2:=by omega
     have hn0:Hid (n=0):=by rw[hnj];exact rfl
     rw[List.take_of_length_le (by omega)]at hO;clear hHB hlt hoS
     have hnn:¬(0<n):=by omega
     refine Zu (.bool false) (by go_simp;try first|done|omega|exact az hnn) ?_
     clear hnn hn0 hnj hn;go_wp2;go_ret;exact⟨⟨_,rfl,hO⟩,hal2⟩
    have hnn:0<n:=by omega
    have hdr:La.drop j=La[j]'(by omega) :: La.drop (j+1):=List.drop_eq_getElem_cons (by omega)
    have htk:La.take (j+1)=La.take j++[La[j]'(by omega)]:=by simp
    obtain⟨x,hx⟩:∃x,Hid (x=La[j]'(by omega)):=⟨La[j]'(by omega),rfl⟩;rw[<-hx.out]at hdr htk;obtain⟨vv,hvv⟩:=Zh (Value.slice p (La.drop j).length c1);rw[<-hvv.out]at hHB hvS;rw[hdr]at hHB;have hpop:=Cr hHB (by rw[List.length_drop];omega) hal2.size
    refine Zu (.bool true) (by go_simp;try first|done|omega|exact ay hnn) ?_
    obtain⟨po,co,rfl⟩:=hO.form2
    have hlo:(La.take j).length=j:=by rw[List.length_take];omega
    rw[hlo]at hO hoS ⊢;clear hnn hn hnj hdr hvv;go_upto_region 14 with(fail);refine ab ?_
    iterate 3 refine Zv ?_
    refine aP rfl 24 #[.iface 83 (.pointer (some ⟨kH,0,none⟩))] (λu w'=>u=.iface 77 (.agg (gY x).toArray)/\(∃v',HB w.heap.size w' kH v' (La.drop (j+1))/\∀i,v'.ownBlock=some i->i<S)/\KH w.heap.size kH vv w2 w') ?_ (hpop.mono λe w' h=>⟨_,h.1,rfl,let⟨v',a,b⟩:=h.2.1;⟨v',a,λi e=>hvS i (b i e)⟩,h.2.2⟩) ?_
    ·first|(go_simp;done)|(go_simp;rfl)
    rintro _ w3 ⟨rfl,⟨v',hHB',hvS'⟩,hKH⟩;refine Zk ?_
    refine Zu (.agg (gY x).toArray) (by first|kernel_rfl|(go_simp;done)|(go_simp;rfl)) ?_
    have hO3:Own eA w3 (.slice po j co) (La.take j):=hO.keep λi hi=>hKH.oth i (hO.lt hi) (λe=>by
     obtain⟨cu,hcu⟩:=hO.blk hi
     rw[e,hHB.box]at hcu;simp[eA]at hcu) (λe=>by have:=hvS i e;have:=hoS i hi;omega)
    have hS3:S<=w3.heap.size:=ar hSs.out hKH.low.size;have hal3:=hal2.trans hKH.low
    refine dJ rfl (.slice (some ⟨w3.heap.size,0,none⟩) 1 1) (w':=w3.alloc (.cells (gY x).toArray 77)) (by first|kernel_rfl|(go_simp;done)|(go_simp;rfl)) ?_
    obtain⟨w4,bN,e8,eg,BN,hb8⟩:=aO w3 (gY x).toArray 77;rw[e8,eg];clear e8 eg;refine Zk ?_;refine i5 ir rfl 52 Tryz.underlying52 88 DC (.tmp 90) (.tmp 95) rfl (.slice po j co) (La.take j) [x] rfl (hO3.below hb8) bN 0 1 rfl (cG BN x rfl) (by rw[hlo];simp only[List.length_singleton];omega) (by decide) (λv5 w5 hO5 hg5 hl5=>?_);refine Zk ?_;refine Zv ?_;have hHB4:=hHB'.below hb8;have hS4:S<=w4.heap.size:=ar hS3 hb8.size;have hB4:=hal3.trans (hb8.mono hal3.size);have hB5:Below w.heap.size w w5:=hB4.grown hg5 hB4.size (λi e=>ar hwS (hoS i e))
    have hv5:∀i,v5.ownBlock=some i->S<=i:=λi hi=>by
     rcases hl5 with h|h
     ·exact hoS i (h.symm.trans hi)
     ·rw[h]at hi;cases hi;exact hS4
    have hHB5:HB w.heap.size w5 kH v' (La.drop (j+1)):=⟨(hg5.block kH (aB hHB4.box) (λe=>by
      obtain⟨cu,hcu⟩:=(hO3.below hb8).blk e.symm
      rw[hHB4.box]at hcu;simp[eA]at hcu)).trans hHB4.box,hHB4.own.keep λi hi=>hg5.block i (hHB4.own.lt hi) (λe=>by have:=hvS' i hi;have:=hoS i e.symm;omega),hHB4.k0,hHB4.v0⟩
    have hS5:Hid (S<=w5.heap.size):=ar hS4 hg5.size;rw[<-htk]at hO5;obtain⟨p5,c5,rfl⟩:=hO5.form2
    have hl5':(La.take (j+1)).length=j+1:=by rw[List.length_take];omega
    rw[hl5']at hO5 hv5 ⊢;clear hO hO3 hHB hHB' hHB4 hKH hg5 hl5 hb8 BN hpop htk hx hal2 hal3 hB4;go_wp2;go_roundw
    case rel=>exact⟨j+1,v',by omega,hHB5,hvS',hO5,hv5,hS5,hB5⟩
    case measure=>simp only[Ds];omega
  obtain⟨x,hx,hxs,hxw,hxf,hr⟩:∃x:CR,[x1,x2][k]? = some x/\x.site=k/\x.who=0/\0<=x.fin/\∃at_,(((k:Int)+1=2/\x.beg=at_)\/((k:Int)+1=1/\x.fin=at_))/\(La.take k=[]\/∃y,La.take k=[y]/\¬at_<y.at_)/\La.take (k+1)=La.take k++[⟨0,0,(k:Int)+1,0,0,0,k,at_,true,x.res⟩]:=by
   rw[hLa.out]
   obtain rfl|rfl:k=0\/k=1:=by omega
   ·simp only[crK,K5.mk.injEq]at k1
    obtain⟨e1,e2,e3,e4,e5⟩:=k1;exact⟨x1,rfl,by rw[e1];rfl,e2,by omega,f1,.inr ⟨rfl,e4⟩,.inl rfl,by rw[e5];rfl⟩
   ·simp only[crK,K5.mk.injEq]at k2
    obtain⟨e1,e2,e3,e4,e5⟩:=k2;exact⟨x2,rfl,by rw[e1];rfl,e2,by omega,b2,.inl ⟨rfl,e3⟩,.inr ⟨_,rfl,by have:=hle.out;simp only;omega⟩,by rw[e5];rfl⟩
  obtain⟨at_,hat,hlv,htk⟩:=hr;have htk':Hid (La.take (k+1)=La.take k++[⟨0,0,(k:Int)+1,0,0,0,k,at_,true,x.res⟩]):=htk;obtain⟨xs,xw,xb,xf,xr,xp,xl,xc⟩:=x;simp only at hxs hxw hxf hat htk';subst hxs hxw;clear htk;have hrow:=(hOC.at eC_ok).elem eC_ok hx;rw[Nat.zero_add]at hrow
  have hsx:([⟨0,0,1,0⟩,⟨0,0,2,0⟩]:List xy)[k]? = some ⟨0,0,(k:Int)+1,0⟩:=by
   obtain rfl|rfl:k=0\/k=1:=by omega
   ·rfl
   ·rfl
  have l0:(0:Int)<=k:=by omega
  have l1:(k:Int)<2:=by omega
  have l2:¬(2<=(k:Int)):=by omega
  obtain⟨cl,hcl⟩:∃cl,Hid (cl=(k:Int)+1):=⟨_,rfl⟩
  rw[<-hcl.out]at hsx htk' hat
  have hat':(cl=2/\xb=at_)\/(cl=1/\xf=at_):=hat
  replace hlv:Hid (La.take k=[]\/∃y,La.take k=[y]/\¬at_<y.at_):=hlv;go_upto_region 4 with(fail);refine ab ?_;refine Ze (.pointer (some ⟨gC,k * 6,none⟩)) ?_;refine Zm 41 #[.int .i64 (k:Int),.int .i64 0,.int .i64 xb,.int .i64 xf,.int .u32 xr,.slice xp xl xc] hrow Tryz.underlying41 ?_;refine Za 41 #[.int .i64 0,.int .i64 0,.int .i64 0,.int .i64 0,.int .u32 0,.slice none 0 0] (λw4 b9 X4 l4 f4=>?_);refine Zo 41 b9 #[.int .i64 (k:Int),.int .i64 0,.int .i64 xb,.int .i64 xf,.int .u32 xr,.slice xp xl xc] X4 (λw5 g1 g2 g3 g4=>?_);have hb5:Below wr.heap.size wr w5:=l4.trans (g3 _ (by simp only[Hid]at f4;omega));replace hHB:=hHB.below hb5;replace hOC:=hOC.below hb5;replace hS:=hS.below hb5;replace XC:=keep XC hb5;replace hal2:=hal2.trans (hb5.mono hal2.size);clear X4 l4 f4 g2 g3 g4 hrow hb5;have hsr:=λ(w':World) (h':Below w5.heap.size w5 w')=>(((hS.below h').at jl).elem jl hsx);simp only[Nat.zero_add]at hsr;have y0:∀w',Below w5.heap.size w5 w'->w'.cell? ⟨b9,0,none⟩=some (.int .i64 k):=λw' hb=>ae w' b9 0 _ 41 _ (keep g1 hb);have y1:∀w',Below w5.heap.size w5 w'->w'.cell? ⟨b9,1,none⟩=some (.int .i64 0):=λw' hb=>ae w' b9 1 _ 41 _ (keep g1 hb)
  have y2:∀w',Below w5.heap.size w5 w'->w'.cell? ⟨gs,k * 4,none⟩=some (.int .i64 0):=λw' hb=>hsr w' hb 0 _ rfl
  go_upto_region 5 with(fail);refine ZA w5 ?_
  iterate 4 refine Zz ?_
  refine Zy (.bool false) (λw' h'=>by go_simp;try first|done|omega|exact az l2) ?_
  iterate 4 refine Zz ?_
  refine Zt (.pointer (some ⟨gs,k * 4,none⟩)) ?_
  iterate 6 refine Zz ?_
  refine aQ (λw6 h6=>?_);replace hHB:=hHB.below h6;replace hOC:=hOC.below h6;replace hS:=hS.below h6;replace XC:=keep XC h6;replace hal2:=hal2.trans (h6.mono hal2.size);replace g1:=keep g1 h6;clear hsr;have hsr:=((hS.at jl).elem jl hsx);simp only[Nat.zero_add]at hsr;replace y0:=y0 w6 h6;clear y1 y2 h6;go_upto_region 6 with(fail);refine ab ?_
  iterate 3 refine Zv ?_
  refine Ze (.pointer (some ⟨gs,k * 4,none⟩)) ?_;refine Zm 39 #[.int .i64 0,.int .i64 0,.int .i64 cl,.int .u32 0] hsr Tryz.underlying39 ?_;refine Za 39 #[.int .i64 0,.int .i64 0,.int .i64 0,.int .u32 0] (λw7 b10 X4 l4 f4=>?_);refine Zo 39 b10 #[.int .i64 0,.int .i64 0,.int .i64 cl,.int .u32 0] X4 (λw8 p1 p2 p3 p4=>?_);have hb8:Below w6.heap.size w6 w8:=l4.trans (p3 _ (by simp only[Hid]at f4;omega));replace hHB:=hHB.below hb8;replace hOC:=hOC.below hb8;replace hS:=hS.below hb8;replace XC:=keep XC hb8;replace hal2:=hal2.trans (hb8.mono hal2.size);replace g1:=keep g1 hb8;clear X4 l4 f4 p2 p3 p4 hsr hb8 y0 hsx;have c1:=ae w8 b10 1 _ 39 _ p1;have c0:=ae w8 kC 0 _ 26 _ XC;go_upto_region 8 with(fail);clear c1 c0;have c1:∀w',Below w8.heap.size w8 w'->w'.cell? ⟨b10,1,none⟩=some (.int .i64 0):=λw' hb=>ae w' b10 1 _ 39 _ (keep p1 hb);have d0:∀w',Below w8.heap.size w8 w'->w'.cell? ⟨kC,0,none⟩=some (.slice (some ⟨bA,oA,none⟩) 1 C.ca):=λw' hb=>ae w' kC 0 _ 26 _ (keep XC hb);have d4:∀w',Below w8.heap.size w8 w'->w'.cell? ⟨kC,4,none⟩=some (.slice C.T 1 C.ct):=λw' hb=>ae w' kC 4 _ 26 _ (keep XC hb)
  have hAr:∀w',Below w8.heap.size w8 w'->w'.rangeAt bA oA [.int .i64 10,.int .i64 0,.int .i64 0,.int .i64 0]:=λw' hb q v hv=>by
   obtain⟨a0,a1,a2,a3⟩:=Bk (i:=0) (hA.below (hal2.trans (hb.mono hal2.size))) (by decide);rw[hf0]at a0 a1 a2 a3;simp only[Nat.zero_mul,Nat.add_zero]at a0 a1 a2 a3
   match q,hv with
   | 0,hv=>simp at hv;rw[<-hv];exact a0
   | 1,hv=>simp at hv;rw[<-hv];exact a1
   | 2,hv=>simp at hv;rw[<-hv];exact a2
   | 3,hv=>simp at hv;rw[<-hv];exact a3
   | q+4,hv=>simp at hv
  have hW8:=hal2.size;obtain⟨bs,hbs⟩:=Zh (bsP C.f 1 (pU 1 0))
  have hob:∀w',Below w8.heap.size w8 w'->Calls Tryz.prog 9 #[.slice (some ⟨bA,oA,none⟩) 1 C.ca,.int .i64 1,.int .i64 0] w' λe w''=>e=.returned (.int .i64 bs)/\Below w'.heap.size w' w'':=λw' hb=>by
   rw[hbs.out];exact sD (some ⟨bA,oA,none⟩) 1 C.ca hca C.f (by decide) 1 0 w' (hA.below (hal2.trans (hb.mono hal2.size))) (hN.below (hal2.trans (hb.mono hal2.size)))
  refine i6 18 (λw'=>Below w8.heap.size w8 w') rfl (by kernel_rfl) (by decide) (by kernel_rfl) ?_;simp only[List.take_succ_cons,List.take_zero];refine bP rfl (.agg #[.int .i64 (k:Int),.int .i64 0,.int .i64 xb,.int .i64 xf,.int .u32 xr,.slice xp xl xc]) (λw' h'=>aE (aZ 41 (.tmp 9) rfl b9 0 rfl [.int .i64 (k:Int),.int .i64 0,.int .i64 xb,.int .i64 xf,.int .u32 xr,.slice xp xl xc] _ (ii (cs:=[.int .i64 (k:Int),.int .i64 0,.int .i64 xb,.int .i64 xf,.int .u32 xr,.slice xp xl xc]) (keep g1 h') 0 6) Tryz.underlying41 rfl (by kernel_rfl))) (Zj ?_)
  iterate 5 refine Zr ?_
  refine bP rfl (.pointer (some ⟨bA,oA,none⟩)) (λw' h'=>aE (by first|(go_simp;done)|(go_simp;rfl))) (Zj ?_)
  refine bP rfl (.agg #[.int .i64 10,.int .i64 0,.int .i64 0,.int .i64 0]) (λw' h'=>aE (aZ 43 (.tmp 60) rfl bA oA rfl [.int .i64 10,.int .i64 0,.int .i64 0,.int .i64 0] _ (hAr w' h') Tryz.underlying43 rfl (by kernel_rfl))) (Zj ?_)
  iterate 7 refine Zr ?_
  refine bP rfl (.int .i64 bs) (λw' h'=>kf 9 #[.slice (some ⟨bA,oA,none⟩) 1 C.ca,.int .i64 1,.int .i64 0] (hob w' h') (by first|(go_simp;done)|(go_simp;rfl))) (Zj ?_)
  refine Zr ?_
  refine bP rfl (.agg ([.int .i64 (k:Int),.int .i64 0,.int .i64 xb,.int .i64 xf,.int .u32 xr,.slice xp xl xc,.slice (some ⟨g,0,none⟩) N c,.int .i64 10,.int .i64 0,.int .i64 0,.int .i64 0,.int .i64 bs,.int .i64 0,.int .i64 0,.int .i64 0,.int .i64 0,.int .u32 0,.int .u32 0,.pointer (some ⟨kH,0,none⟩)]).toArray) (λw' h'=>aE (by first|kernel_rfl|(go_simp;done)|(go_simp;rfl))) (Zj ?_)
  refine oh ?_;have q0:Below w8.heap.size w8 w8.drew:=Below.drew (ak _ _);refine ZG 18 (λw9 r9=>⟨q0.trans (r9.mono q0.size),?_⟩);replace q0:=q0.trans (r9.mono q0.size);refine dK rfl rfl 86 rfl (.agg #[.int .i64 0,.int .i64 0,.int .i64 0,.int .i64 0,.int .u32 0,.slice none 0 0,.slice none 0 0,.int .i64 0,.int .i64 0,.int .i64 0,.int .i64 0,.int .i64 0,.int .i64 0,.int .i64 0,.int .i64 0,.int .i64 0,.int .u32 0,.int .u32 0,.pointer none]) #[.int .i64 0,.int .i64 0,.int .i64 0,.int .i64 0,.int .u32 0,.slice none 0 0,.slice none 0 0,.int .i64 0,.int .i64 0,.int .i64 0,.int .i64 0,.int .i64 0,.int .i64 0,.int .i64 0,.int .i64 0,.int .i64 0,.int .u32 0,.int .u32 0,.pointer none] (λw=>by kernel_rfl) rfl (λwa b11 X11 l11 f11=>?_);have q1:=q0.trans (l11.mono q0.size);refine ZG 19 (λwb rb'=>⟨q1.trans (rb'.mono q1.size),?_⟩);replace q1:=q1.trans (rb'.mono q1.size);refine bZ rfl rfl 86 (.tmp 11) (.tmp 71) rfl b11 ([.int .i64 (k:Int),.int .i64 0,.int .i64 xb,.int .i64 xf,.int .u32 xr,.slice xp xl xc,.slice (some ⟨g,0,none⟩) N c,.int .i64 10,.int .i64 0,.int .i64 0,.int .i64 0,.int .i64 bs,.int .i64 0,.int .i64 0,.int .i64 0,.int .i64 0,.int .u32 0,.int .u32 0,.pointer (some ⟨kH,0,none⟩)]).toArray rfl rfl 86 _ (keep X11 rb') (by kernel_rfl) rfl (by simp[Value.oneCell']) (λwc s1 s2 s3=>?_);refine fB (by kernel_rfl) (λwd rd=>?_)
  have h11:w8.heap.size<=b11:=by have:=f11.out;have:=q0.size;omega
  have q2:Below w8.heap.size w8 wd:=(q1.trans (s3 _ h11)).trans (rd.mono (by have:=(s3 0 (au _)).size;have:=q1.size;omega));refine⟨q2,?_⟩;have XT:=keep s1 rd;replace hHB:=hHB.below q2;replace hOC:=hOC.below q2;replace hS:=hS.below q2;replace XC:=keep XC q2;replace hal2:=hal2.trans (q2.mono hal2.size);have P10:=keep p1 q2;have h110:w.heap.size<=b11:=ar hW8 h11;clear hW8 q0 q1 q2 r9 rb' rd s1 s2 s3 l11 X11 f11 h11 c1 d0 d4 hAr hob hbs g1 p1;obtain⟨c0,c1,c2,c3⟩:=cl4 P10;go_upto_region 9 with(fail);refine ab ?_
  iterate 10 refine Zv ?_
  refine DA rfl 75 (.tmp 81) (.tmp 80) rfl b11 12 [.int .i64 0,.int .i64 0,.int .i64 cl,.int .i64 0,.int .u32 0,.int .u32 0] (by kernel_rfl) (by simp[Value.oneCell']) [.int .i64 (k:Int),.int .i64 0,.int .i64 xb,.int .i64 xf,.int .u32 xr,.slice xp xl xc,.slice (some ⟨g,0,none⟩) N c,.int .i64 10,.int .i64 0,.int .i64 0,.int .i64 0,.int .i64 bs,.int .i64 0,.int .i64 0,.int .i64 0,.int .i64 0,.int .u32 0,.int .u32 0,.pointer (some ⟨kH,0,none⟩)] [.int .i64 (k:Int),.int .i64 0,.int .i64 xb,.int .i64 xf,.int .u32 xr,.slice xp xl xc,.slice (some ⟨g,0,none⟩) N c,.int .i64 10,.int .i64 0,.int .i64 0,.int .i64 0,.int .i64 bs,.int .i64 0,.int .i64 0,.int .i64 cl,.int .i64 0,.int .u32 0,.int .u32 0,.pointer (some ⟨kH,0,none⟩)] 86 rfl rfl XT (by simp) rfl (λwe s1 s2 s3=>?_);refine Zk ?_;have hbl:=λ(j:Nat) (cs:Array Value) (ty:TypeId) (h:wd.heap[j]? = some (.cells cs ty (0,0))) (n:ty≠86)=>s2 j (λe=>by rw[e,XT]at h;simp only[Option.some.injEq,Obj.cells.injEq]at h;exact n h.2.1.symm);obtain⟨curC,hcC⟩:=hOC.blk (g:=gC) rfl;obtain⟨curS,hcS⟩:=hS.blk (g:=gs) rfl
  replace hOC:Own eC we (.slice (some ⟨gC,0,none⟩) 2 cC) [x1,x2]:=hOC.keep λj hj=>by cases hj;exact hbl gC _ _ hcC (by decide)
  replace hS:Own eSi we (.slice (some ⟨gs,0,none⟩) 2 cs) [⟨0,0,1,0⟩,⟨0,0,2,0⟩]:=hS.keep λj hj=>by cases hj;exact hbl gs _ _ hcS (by decide)
  replace hHB:HB w.heap.size we kH vh (La.take k):=⟨(hbl kH _ _ hHB.box (by decide)).trans hHB.box,hHB.own.keep λj hj=>by
   obtain⟨cu,hcu⟩:=hHB.own.blk hj
   exact hbl j _ _ hcu (by decide),hHB.k0,hHB.v0⟩
  replace XC:=(hbl kC _ _ XC (by decide)).trans XC;replace hal2:=hal2.trans (s3 _ h110);clear hbl c0 c1 c2 c3 s2 s3 XT P10 hcC hcS;have htl:=GY hHB hal2.size k 0 xb xf xr xp (some ⟨g,0,none⟩) xl xc N c 10 0 0 0 bs 0 0 cl 0 0 0 hxf at_ hat' hlv.out;go_upto_region 10 with(fail);refine ab ?_;refine Zd 86 s1 Tryz.underlying86 ?_;refine aP rfl 22 #[.agg ([.int .i64 (k:Int),.int .i64 0,.int .i64 xb,.int .i64 xf,.int .u32 xr,.slice xp xl xc,.slice (some ⟨g,0,none⟩) N c,.int .i64 10,.int .i64 0,.int .i64 0,.int .i64 0,.int .i64 bs,.int .i64 0,.int .i64 0,.int .i64 cl,.int .i64 0,.int .u32 0,.int .u32 0,.pointer (some ⟨kH,0,none⟩)]).toArray] (λu w'=>u=.tuple #[]/\(∃v',HB w.heap.size w' kH v' (La.take k++[⟨0,0,cl,0,0,0,k,at_,true,xr⟩]))/\KH w.heap.size kH vh we w') ?_ (htl.mono λe w' h=>⟨_,h.1,rfl,h.2⟩) ?_
  ·first|(go_simp;done)|(go_simp;rfl)
  rintro _ wf ⟨rfl,⟨v',hHB'⟩,hKH⟩;refine Zk ?_;rw[<-htk'.out]at hHB'
  have hbl:=λ(j:Nat) (cs:Array Value) (ty:TypeId) (h:we.heap[j]? = some (.cells cs ty (0,0))) (n:ty≠84) (n':ty≠77)=>hKH.oth j (aB h) (λe=>by rw[e,hHB.box]at h;simp only[Option.some.injEq,Obj.cells.injEq]at h;exact n h.2.1.symm) (λe=>by
   obtain⟨cu,hcu⟩:=hHB.own.blk e
   rw[hcu]at h;simp only[Option.some.injEq,Obj.cells.injEq]at h;exact n' h.2.1.symm)
  obtain⟨curC,hcC⟩:=hOC.blk (g:=gC) rfl;obtain⟨curS,hcS⟩:=hS.blk (g:=gs) rfl
  replace hOC:Own eC wf (.slice (some ⟨gC,0,none⟩) 2 cC) [x1,x2]:=hOC.keep λj hj=>by cases hj;exact hbl gC _ _ hcC (by decide) (by decide)
  replace hS:Own eSi wf (.slice (some ⟨gs,0,none⟩) 2 cs) [⟨0,0,1,0⟩,⟨0,0,2,0⟩]:=hS.keep λj hj=>by cases hj;exact hbl gs _ _ hcS (by decide) (by decide)
  replace XC:=(hbl kC _ _ XC (by decide) (by decide)).trans XC;replace hal2:=hal2.trans hKH.low;clear hbl hKH hHB htl hcC hcS s1 htk' hat' hat hlv hcl;go_wp2;go_roundw
  case rel=>exact⟨k+1,by go_num,by omega,⟨v',hHB'⟩,hOC,hS,XC,hal2⟩
  case measure=>simp[intOf];omega
end Go.Proofs.YtldlcnaphednnaaGreatDoor
