/- The linker in memory; it adds an instruction, a mark. The linker adds a mark, a call. The linker does an op. The program of a client, as a function of it: plain. -/
import Derived.Test.YtldlcnaphednnaaGreatDoorM05
import Derived.Test.YtldlcnaphednnaaGreatDoorM13
import Derived.Test.YtldlcnaphednnaaGreatDoorM17
import Derived.Test.YtldlcnaphednnaaGreatDoorM07
set_option maxRecDepth 100000
set_option maxHeartbeats 32000000
set_option linter.unusedVariables false
set_option linter.unusedSimpArgs false
namespace Go.Proofs.YtldlcnaphednnaaGreatDoor
open Go.RowKit Go.Maps
structure j7{α:Type}(E:Enc α)(w w':World)(b off:Nat)(TY:TypeId)(cs:Array Value)(vc vc':Value)(l':List α):Prop where
 blk:w'.heap[b]? = some (.cells (cs.setIfInBounds off vc') TY (0,0))
 own:Own E w' vc' l'
 oth:∀k,k<w.heap.size->k≠b->vc.ownBlock≠some k->w'.heap[k]? = w.heap[k]?
 low:∀B,B<=b->B<=w.heap.size->(∀k,vc.ownBlock=some k->B<=k)->Below B w w'
 new:∀k,vc'.ownBlock=some k->vc.ownBlock=some k\/w.heap.size<=k
theorem cG{α:Type}{E:Enc α}{w:World}{b:Nat}{cells:Array Value}{ty:TypeId}{fr:Nat×Nat}(h:w.heap[b]? = some (.cells cells ty fr))(x:α)(hc:cells.toList=E.enc x):RowAt E w b 0 [x]:=λj u hu=>by
 have e:[x].flatMap E.enc=E.enc x:=by simp
 rw[e]at hu;rw[Nat.zero_add,ae w b j _ _ _ h,<-Array.getElem?_toList,hc];exact hu
theorem io{α:Type}{E:Enc α}{w v3 v4 v7 v8 v9:World}{b off:Nat}{TY:TypeId}{cs:Array Value}{vc vc':Value}{l':List α}(hal3:Below w.heap.size w v3)(hg4:v3.grownBy v4 vc.ownBlock)(hl4:vc'.ownBlock=vc.ownBlock\/vc'.ownBlock=some v3.heap.size)
  (hO4:Own E v4 vc' l') (Xb:v4.heap[b]? = some (.cells cs TY (0,0))) (hne:TY≠E.ty) (hb7:Below v4.heap.size v4 v7) (p1:v8.heap[b]? = some (.cells (cs.setIfInBounds off vc') TY (0,0)))
  (p2:∀k,k≠b->v8.heap[k]? = v7.heap[k]?) (p3:∀B,B<=b->Below B v7 v8) (r9:Below v8.heap.size v8 v9):j7 E w v9 b off TY cs vc vc' l':=by
 have hb9:∀k,k<v4.heap.size->k≠b->v9.heap[k]? = v4.heap[k]? := λk hk hn=>((r9.block k (by have:=hb7.size;have:=(p3 0 (au _)).size;omega)).trans (p2 k hn)).trans (hb7.block k hk);have hs3:=hal3.size;have hs4:=hg4.size;refine⟨keep p1 r9,?_,λk hk hb hv=>?_,λB hB hB' hv=>?_,λk hk=>?_⟩
 ·exact bq hO4 (λg e=>by
   obtain⟨_,h1⟩:=a9 hO4 e
   exact hb9 g (aB h1) (λe'=>aK Xb h1 hne e'.symm))
 ·exact((hb9 k (by omega) hb).trans (hg4.block k (by omega) (λe=>hv e.symm))).trans (hal3.block k hk)
 ·have h1:Below B w v4:=(hal3.mono hB').grown hg4 (by omega) hv
  exact((h1.trans (hb7.mono (by omega))).trans (p3 B hB)).trans (r9.mono (by have:=hb7.size;have:=(p3 0 (au _)).size;omega))
 ·rcases hl4 with h|h
  ·exact .inl (by rw[<-h];exact hk)
  ·rw[h]at hk;cases hk;exact .inr hs3
theorem fD{α:Type}{E:Enc α}{v3 v4:World}{b:Nat}{TY:TypeId}{cs:Array Value}{vc:Value}{l:List α}(hO:Own E v3 vc l)(X:v3.heap[b]? = some (.cells cs TY (0,0)))(hne:TY≠E.ty)(hg4:v3.grownBy v4 vc.ownBlock):v4.heap[b]? = some (.cells cs TY (0,0)):=
 (hg4.block b (aB X) (λe=>by
  obtain⟨_,h1⟩:=hO.blk e.symm
  exact aK X h1 hne rfl)).trans X
theorem fW{P:Program}{ops:Array Oper}{Q:Exit->Act->World->Prop}{i:Nat}{K:Act->World->Prop}{o:Oper}{a:Act}{w:World}(hi:ops[i]? = some o)(hgd:o.guard=none)(g:FuncId)(args:Array Value)(R:Value->World->Prop)(h:(execOp a.eval o).run P w=.ok (.enter g args) w)
  (hc:Calls P g args w λe w'=>∃v,e=.returned v/\R v w') (hK:∀v w',R v w'->K (a.put o.dst v) w'):wpOp P ops Q i K a w:=by
 unfold wpOp;simp only[hi]
 have hw:Region.wanted o (yielded ops a.tmps)=true:=by simp[Region.wanted,hgd]
 rw[ag hw];refine .inl ?_;unfold Oper.wp;rw[h,Oper.upon_enter]
 refine hc.mono λe w' hr=>?_
 obtain⟨v,rfl,hr⟩:=hr;exact hK v w' hr
theorem tV:(Tryz.prog.info? eI.ty).map (λi=>(i.zero.map (·.cells.size),i.size,i.bytes))=some (some eI.sz,eI.sz,40):=sd
def lkC(C:Cl)(t site:Int)(vc:Value):Array Value:=#[.slice C.A C.no C.ca,.int .i64 C.vars,.slice C.W C.nw C.cw,.int .i64 C.room,.slice C.T C.nt C.ct,.int .i64 t,.int .i64 site,vc]
structure LMv(w:World)(b:Nat)(F:Nat->Prop)(C:Cl)(t site:Int)(code:List Ins)(vc:Value):Prop where
 blk:w.heap[b]? = some (.cells (lkC C t site vc) 95 (0,0))
 code:Own eI w vc code
 foot:∀k,F k↔(k=b\/vc.ownBlock=some k)
def LMem(w:World)(b:Nat)(F:Nat->Prop)(C:Cl)(t site:Int)(code:List Ins):Prop:=∃vc,LMv w b F C t site code vc
theorem LMv.lt{w:World}{b:Nat}{F:Nat->Prop}{C:Cl}{t site:Int}{code:List Ins}{vc:Value}(h:LMv w b F C t site code vc):∀k,F k->k<w.heap.size:=λk hk=>by
 rcases(h.foot k).1 hk with rfl|e
 ·exact aB h.blk
 ·exact h.code.lt e
theorem LMv.below{w w':World}{b:Nat}{F:Nat->Prop}{C:Cl}{t site:Int}{code:List Ins}{vc:Value}(h:LMv w b F C t site code vc)(hb:Below w.heap.size w w'):LMv w' b F C t site code vc:=⟨keep h.blk hb,h.code.below hb,h.foot⟩
theorem LMem.below{w w':World}{b:Nat}{F:Nat->Prop}{C:Cl}{t site:Int}{code:List Ins}(h:LMem w b F C t site code)(hb:Below w.heap.size w w'):LMem w' b F C t site code:=by
 obtain⟨vc,h⟩:=h;exact⟨vc,h.below hb⟩
theorem LMem.lt{w:World}{b:Nat}{F:Nat->Prop}{C:Cl}{t site:Int}{code:List Ins}(h:LMem w b F C t site code):∀k,F k->k<w.heap.size:=by
 obtain⟨vc,h⟩:=h;exact h.lt
theorem LMv.app{w w':World}{b:Nat}{F:Nat->Prop}{C:Cl}{t site:Int}{code code':List Ins}{vc vc':Value}(h:LMv w b F C t site code vc)(hA:j7 eI w w' b 7 95 (lkC C t site vc) vc vc' code'):∃F',LMem w' b F' C t site code'/\Upd F F' w w':=by
 have fb:F b:=(h.foot b).2 (.inl rfl);have fv:∀k,vc.ownBlock=some k->F k:=λk e=>(h.foot k).2 (.inr e);refine⟨λk=>k=b\/vc'.ownBlock=some k,⟨vc',⟨hA.blk,hA.own,λk=>Iff.rfl⟩⟩,⟨λB hF hB=>hA.low B (hF b fb) hB (λk e=>hF k (fv k e)),λk hk hF=>hA.oth k hk (λe=>hF (e▸fb)) (λe=>hF (fv k e)),λk hk=>?_⟩⟩;rcases hk with rfl|e
 ·exact .inl fb
 ·rcases hA.new k e with h1|h1
  ·exact .inl (fv k h1)
  ·exact .inr h1
theorem kr{b:Nat}{F:Nat->Prop}{C:Cl}{t site:Int}{code:List Ins}(x:Ins){w:World}(hL:LMem w b F C t site code)(hs:code.length<=100000):Calls Tryz.prog 56 #[.pointer (some ⟨b,0,none⟩),iV x] w λe w'=>e=.returned (.tuple #[])/\∃F',LMem w' b F' C t site (code++[x])/\Upd F F' w w':=by
 obtain⟨vc,hL⟩:=hL;unfold iV iP;go_enter Tryz.func56,Tryz.ntmps56;go_upto_region 1 with(fail);obtain⟨W,b3,e0,e1,X3,hal⟩:=aO w #[.int .i64 x.op,.int .i64 x.a,.int .i64 x.b,.int .i64 x.c,.int .u32 x.k] 115;rw[e0,e1];clear e0 e1;have hLW:=hL.below hal;have XL:=hLW.blk;have HC:=hLW.code;obtain⟨p0,c0,rfl⟩:=HC.form2;refine bR 6 7 11 (λw'=>Below W.heap.size W w') _ rfl (by kernel_rfl) (by kernel_rfl) (by decide) (by kernel_rfl) ?_;simp only[List.take_succ_cons,List.take_zero]
 iterate 4 refine Zf ?_
 refine bm rfl (by kernel_rfl) _ (λw' h'=>aE (by have c:w'.cell? ⟨b,7,none⟩=some (.slice p0 code.length c0):=ae w' b 7 _ 95 _ (keep XL h');go_simp;try with_reducible rfl)) (Zj ?_);refine bm rfl (by kernel_rfl) _ (λw' h'=>fF 115 (.tmp 3) rfl _ rfl _ _ (0,0) _ (keep X3 h') Tryz.underlying115 rfl (by kernel_rfl)) (Zj ?_);refine gJ ?_;show dU _ _ _ _ _ _ _ _ _ _;have q0:Below W.heap.size W W.drew:=Below.drew (ak _ _);replace XL:=keep XL q0;refine ZM 6 (λd6 r6=>⟨λ_=>q0.trans (r6.mono q0.size),?_⟩);replace q0:=q0.trans (r6.mono q0.size);replace XL:=keep XL r6
 refine je rfl rfl (.slice (some ⟨d6.heap.size,0,none⟩) 1 1) (w':=d6.alloc (.cells (iP x) 115)) (by first|kernel_rfl|go_simp) ?_
 obtain⟨e6,bN,e8,eg,BN,hb8⟩:=aO d6 (iP x) 115;rw[e8,eg];clear e8 eg;replace q0:=q0.trans (hb8.mono q0.size);replace XL:=keep XL hb8;clear hb8;refine ZM 7 (λd7 r7=>⟨λ_=>q0.trans (r7.mono q0.size),?_⟩);replace q0:=q0.trans (r7.mono q0.size);replace XL:=keep XL r7;replace BN:=keep BN r7;have hO3:=HC.below q0
 refine iM lB rfl rfl 93 Tryz.underlying93 40 tV (.tmp 8) (.tmp 10) rfl _ code [x] rfl hO3 bN 0 1 rfl (cG BN x rfl) (by simp<;>omega) (by decide) (λvc' v4 hO4 hg4 hl4=>?_)
 have hal3:=hal.trans (q0.mono hal.size);have Xb:=fD hO3 XL (by decide) hg4;obtain⟨p,c4,rfl⟩:=hO4.form2;generalize hn4:(code++[x]).length=n4 at *;refine ZM 8 (λv5 r5=>⟨(λe=>absurd (show true=false from e) (by decide)),?_⟩);refine aR rfl rfl (.pointer (some ⟨b,0,none⟩)) (by go_simp) ?_;refine ZM 9 (λv6 r6=>⟨(λe=>absurd (show true=false from e) (by decide)),?_⟩);refine aR rfl rfl (.pointer (some ⟨b,7,none⟩)) (by go_simp) ?_;refine ZM 10 (λv7 r7=>⟨(λe=>absurd (show true=false from e) (by decide)),?_⟩);have hb7:Below v4.heap.size v4 v7:=(r5.trans (r6.mono r5.size)).trans (r7.mono (ar r5.size r6.size));have Xc:=keep Xb hb7;refine du rfl rfl 93 (λw=>by kernel_rfl) (.tmp 13) (.tmp 11) rfl b 7 p n4 c4 _ 95 rfl rfl Xc (by show 7<8;decide) (λv8 p1 p2 p3=>?_);refine bl (by kernel_rfl) (by kernel_rfl) (λv9 r9=>?_);have hA:j7 eI w v9 b 7 95 (lkC C t site (.slice p0 code.length c0)) (.slice p0 code.length c0) (.slice p n4 c4) (code++[x]):=io hal3 hg4 hl4 hO4 Xb (by decide) hb7 p1 p2 p3 r9;clear q0 r5 r6 r7 r9 Xb Xc hb7 hg4 hl4 hO4 p1 p2 p3 hal3;go_wp2;go_end0;exact⟨rfl,hL.app hA⟩
theorem kf{P:Program}{o:Oper}{a:Act}{w:World}(f:FuncId)(args:Array Value){v:Value}(hc:Calls P f args w λe w'=>e=.returned v/\Below w.heap.size w w')(h:(execOp a.eval o).run P w=.ok (.enter f args) w):fi P o a w v:=by
 unfold fi;rw[h];exact⟨rfl,hc⟩
theorem qK{P:Program}{md:Region.Mode}{Q:Exit->Act->World->Prop}{C:World->Prop}{l:List Oper}{f:Nat}{listed:Array Bool}{a:Act}{w:World}(k n g:Nat)(hf:f=n+g)(hn:k+n<=l.length)(hs:Region.noSelect l.toArray=true)(hB:xF md l.toArray n k listed=true)
  (h:ij P l.toArray C (λa'=>lg P md l.toArray C (noP Q) g (kJ k n listed) a' w) ((l.drop k).take n) a):lg P md l.toArray C (noP Q) f listed a w:=by
 have hl:((l.drop k).take n).length=n:=by simp<;>omega
 have:=xS (P:=P) (Q:=Q) (C:=C) (md:=md) (ops:=l.toArray) (g:=g) (k:=k) (listed:=listed) (a:=a) (w:=w) ((l.drop k).take n) hs (λj hj=>by
  rw[hl]at hj
  simp[List.getElem?_take,hj]) (by rw[hl];exact hB) (by rw[hl];exact h)
 rw[hl,<-hf]at this;exact this
def jp(k:Int):Ins:=⟨27,7,0,0,k%4294967296⟩
theorem tj{b:Nat}{F:Nat->Prop}{C:Cl}{t site:Int}{code:List Ins}(k:Int){w:World}(hL:LMem w b F C t site code)(hs:code.length<=100000):Calls Tryz.prog 76 #[.pointer (some ⟨b,0,none⟩),.int .i64 k] w λe w'=>e=.returned (.tuple #[])/\∃F',LMem w' b F' C t site (code++[jp k])/\Upd F F' w w':=by
 have hc:=kr (jp k) hL hs;unfold iV iP jp at hc;go_enter Tryz.func76,Tryz.ntmps76;go_wp2_with fail;refine hc.mono ?_;rintro e w' ⟨rfl,h⟩;go_wp2;go_end0;exact⟨rfl,h⟩
theorem dw(k:Int)(w:World)(p:Addr)(u:Value)(hc:w.cell? p=some u)(hf:w.frozen? p=false):(store p (.int .i64 k)).run Tryz.prog w=.ok () (w.setCell p (.int .i64 k)):=by simp[go_sem,stored,hc,hf]
def lu(C:Cl)(t:Int)(x:X):List Ins×Bool:=l5 (C.f x.a.toNat) x.b C.nt t (((bsP C.f C.nt (pU C.no x.a):Nat):Int)%4294967296) x.K
def nX(C:Cl)(t site:Int)(code:List Ins)(x:X):List Ins:=
 (code++[jp (2 * site)])++dc (lu C t x).1 (code++[jp (2 * site)]).length++[jp (2 * site+1)]
theorem lh(C:Cl)(t:Int)(x:X):CP (lu C t x):=A6 _ ⟨by omega,by omega⟩
theorem xO(C:Cl)(t site:Int)(code:List Ins)(x:X):(nX C t site code x).length<=code.length+102:=by
 unfold nX;have:=(lh C t x).2.1;simp only[List.length_append,kj,List.length_singleton];omega
theorem A0(k:Int):U32 (jp k).k:=⟨by unfold jp;simp only;omega,by unfold jp;simp only;omega⟩
theorem iW{l m:List Ins}(h:KOk l)(h':KOk m):KOk (l++m):=λx hx=>by
 rcases List.mem_append.1 hx with h1|h1
 ·exact h x h1
 ·exact h' x h1
theorem jA{x:Ins}(h:U32 x.k):KOk [x]:=λy hy=>by
 have:y=x:=by simpa using hy
 subst this;exact h
theorem BW{C:Cl}{t site:Int}{code:List Ins}{x:X}(h:KOk code):KOk (nX C t site code x):=
 iW (iW (iW h (jA (A0 _))) (zN (lh C t x).1)) (jA (A0 _))
theorem zR{b:Nat}{F:Nat->Prop}{C:Cl}{t site:Int}{code:List Ins}{x:X}{w0 w:World}(hM:MemC w0 C)(hN:NmW w0)(hI:IsaW w0)(h0:Below w0.heap.size w0 w)(hF:∀k,F k->w0.heap.size<=k)(hn:C.no<=4000)(ha:0<=x.a/\x.a<C.no)(hK:0<=x.K/\x.K<4294967296)(hs0:0<=site)(hs1:site<=10000)(hL:LMem w b F C t site code)(hs:code.length<=90000):Calls Tryz.prog 57 #[.pointer (some ⟨b,0,none⟩),xv x] w λe w'=>e=.returned (.tuple #[])/\∃F',LMem w' b F' C t (site+1) (nX C t site code x)/\Upd F F' w w':=by
 obtain⟨xk,xa,xb,xK⟩:=x;simp only at ha hK;obtain⟨ha0,ha1⟩:=ha;obtain⟨ai,rfl⟩:∃ai:Nat,xa=ai:=⟨xa.toNat,by omega⟩
 have hai:ai<C.no:=by omega
 obtain⟨bA,oA,hA⟩:=lp hM.objs (by omega);have hcr:=lh C t ⟨xk,ai,xb,xK⟩;obtain⟨R,hR⟩:=Zh (lu C t ⟨xk,ai,xb,xK⟩);obtain⟨G,hG⟩:=Zh (nX C t site code ⟨xk,ai,xb,xK⟩);rw[<-hG.out]
 have hG':Hid (G=(code++[jp (2 * site)])++dc R.1 (code++[jp (2 * site)]).length++[jp (2 * site+1)]):=by rw[hR.out];exact hG.out
 rw[<-hR.out]at hcr;clear hG;obtain⟨bs,hbs⟩:∃bs:Nat,Hid (bs=bsP C.f C.nt (pU C.no ai)):=⟨_,rfl⟩
 have hR':Hid (R=l5 (C.f ai) xb C.nt t ((bs:Int)%4294967296) xK):=by rw[hbs.out];exact hR.out
 clear hR;have hb2:=λw' (h:Below w0.heap.size w0 w')=>sD C.A C.no C.ca hM.ho C.f (by omega) C.nt ai w' (hM.objs.below h) (hN.below h);rw[<-hbs.out]at hb2;have hc2:=λw' (h:Below w0.heap.size w0 w')=>zj (C.f ai) xb C.nt t ((bs:Int)%4294967296) xK hK w' (hN.below h) (hI.below h);rw[<-hR'.out]at hc2;clear hR' hbs;obtain⟨vc,hL⟩:=hL;have hlt0:=hL.lt;unfold xv;go_enter Tryz.func57,Tryz.ntmps57;go_upto_region 1 with(fail);obtain⟨w1,kB,e0,e1,XK,hb1⟩:=aO w #[.int .i64 xk,.int .i64 ai,.int .i64 xb,.int .u32 xK] 49;rw[e0,e1];have hkB:w.heap.size<=kB:=aD e1;clear e0 e1;replace hL:=hL.below hb1;have hU:Upd F F w w1:=Upd.of_below hb1;replace h0:=h0.trans (hb1.mono h0.size);have y0:w1.cell? ⟨b,4,none⟩=some (.slice C.T C.nt C.ct):=ae w1 b 4 _ 95 _ hL.blk;go_upto_region 2 with(fail);clear y0;have hO:Objs w0 (some ⟨bA,oA,none⟩) C.no C.f:=hA▸hM.objs;rw[hA]at hb2;refine i6 28 (λw'=>Below w1.heap.size w1 w') rfl (by kernel_rfl) (by decide) (by kernel_rfl) ?_;simp only[List.take_succ_cons,List.take_zero]
 iterate 4 refine Zr ?_
 refine bP rfl _ (λw' h'=>aE (by have c:w'.cell? ⟨b,0,none⟩=some (.slice C.A C.no C.ca):=ae w' b 0 _ 95 _ (keep hL.blk h');rw[hA]at c;go_simp;try with_reducible rfl)) (Zj ?_);refine Zr ?_;refine bP rfl _ (λw' h'=>aE (by have c:=ae w' kB 1 _ 49 _ (keep XK h');go_simp;try with_reducible rfl)) (Zj ?_);refine bP rfl (.pointer (some ⟨bA,oA+ai * 4,none⟩)) (λw' h'=>aE (by go_simp)) (Zj ?_);refine bP rfl (ov (C.f ai)) (λw' h'=>aE (j8 (.tmp 21) rfl bA oA ai hO (h0.trans (h'.mono h0.size)) hai rfl)) (Zj ?_);refine Zr ?_;refine bP rfl _ (λw' h'=>aE (by have c:=ae w' kB 2 _ 49 _ (keep XK h');go_simp;try with_reducible rfl)) (Zj ?_)
 iterate 4 refine Zr ?_
 refine bP rfl _ (λw' h'=>aE (by have c:w'.cell? ⟨b,5,none⟩=some (.int .i64 t):=ae w' b 5 _ 95 _ (keep hL.blk h');go_simp;try with_reducible rfl)) (Zj ?_)
 iterate 4 refine Zr ?_
 refine bP rfl _ (λw' h'=>aE (by have c:w'.cell? ⟨b,0,none⟩=some (.slice C.A C.no C.ca):=ae w' b 0 _ 95 _ (keep hL.blk h');rw[hA]at c;go_simp;try with_reducible rfl)) (Zj ?_)
 iterate 2 refine Zr ?_
 refine bP rfl _ (λw' h'=>aE (by have c:=ae w' kB 1 _ 49 _ (keep XK h');go_simp;try with_reducible rfl)) (Zj ?_);refine bP rfl (.int .i64 bs) (λw' h'=>kf 9 #[.slice (some ⟨bA,oA,none⟩) C.no C.ca,.int .i64 C.nt,.int .i64 ai] (hb2 w' (h0.trans (h'.mono h0.size))) ?_) (λK hK=>?_)
 ·first|(go_simp;done)|(go_simp;rfl)
 go_simp;refine hK _ ?_;clear hK K
 refine bP rfl (.int .u32 ((bs:Int)%4294967296)) (λw' h'=>aE (by first|(go_simp;done)|(go_simp;simp only[IntKind.wrap_u32]))) (Zj ?_)
 refine Zr ?_;refine bP rfl _ (λw' h'=>aE (by have c:=ae w' kB 3 _ 49 _ (keep XK h');go_simp;try with_reducible rfl)) (Zj ?_);refine oh ?_;have q0:Below w1.heap.size w1 w1.drew:=Below.drew (ak _ _);refine ZG 28 (λw2 r2=>⟨q0.trans (r2.mono q0.size),?_⟩);replace q0:=q0.trans (r2.mono q0.size);have hlt1:=hL.lt;have hz1:=h0.trans (q0.mono h0.size)
 refine fW rfl rfl 75 #[ov (C.f ai),.int .i64 xb,.int .i64 C.nt,.int .i64 t,.int .u32 ((bs:Int)%4294967296),.int .u32 xK] (λv w'=>(∃v1,v=.tuple #[v1,.bool R.2]/\kZ w' v1 R.1/\∀k,v1.ownBlock=some k->w2.heap.size<=k)/\Below w2.heap.size w2 w') ?_ ((hc2 w2 hz1).mono (λe w' hh=>by
  obtain⟨⟨v1,rfl,h5,h6⟩,h7⟩:=hh
  exact⟨_,rfl,⟨v1,rfl,h5,h6⟩,h7⟩)) (λv w3 hv=>?_)
 ·first|(go_simp;done)|(go_simp;rfl)
 obtain⟨⟨v1,rfl,hO1,hf1⟩,h3⟩:=hv;obtain⟨p1,c1,rfl⟩:=Own.form2 (E:=eI) hO1;have q2:=q0.trans (h3.mono q0.size);refine qK 29 5 0 rfl (by decide) (by kernel_rfl) (by kernel_rfl) ?_;simp only[List.drop_succ_cons,List.drop_zero,List.take_succ_cons,List.take_zero]
 iterate 5 refine Zr ?_
 refine oh ?_;refine fB (by kernel_rfl) (λw4 r4=>⟨q2.trans (r4.mono q2.size),?_⟩);have h4:=h3.trans (r4.mono h3.size);replace q2:=q2.trans (r4.mono q2.size);replace hO1:Own eI w4 (.slice p1 R.1.length c1) R.1:=Own.below hO1 r4;replace hL:=hL.below q2;replace hU:=hU.trans (Upd.of_below q2);replace h0:=h0.trans (q2.mono h0.size);replace XK:=keep XK q2;have hs2:w1.heap.size<=w2.heap.size:=q0.size;clear q0 q2 r4 h3 h4 r2 hb1 hb2 hc2 hz1;have y6:w4.cell? ⟨b,6,none⟩=some (.int .i64 site):=ae w4 b 6 _ 95 _ hL.blk;have hsz4:=hU.size;go_wp2_with fail;refine(tj (2 * site) ⟨vc,hL⟩ (by omega)).mono ?_;rintro e w5 ⟨rfl,F5,hL5,hU5⟩;clear y6;have hO5:=hO1.keep (w':=w5) (λg e=>hU5.blk g (hO1.lt e) (λhf=>by have:=hlt1 g hf;have:=hf1 g e;omega));have XK5:w5.heap[kB]? = some (.cells #[.int .i64 xk,.int .i64 ai,.int .i64 xb,.int .u32 xK] 49 (0,0)):=hU5.kept XK (λhf=>by have:=hlt0 kB hf;omega);have h05:=h0.trans (hU5.low _ hF h0.size);have hz4:=h0.size
 have hF5:∀k,F5 k->w0.heap.size<=k:=λk hk=>by
  rcases hU5.foot k hk with h|h
  ·exact hF k h
  ·omega
 have hf5:¬F5 kB:=λhk=>by
  rcases hU5.foot kB hk with h|h
  ·have:=hlt0 kB h;omega
  ·have:=aB XK;omega
 replace hU:=hU.trans hU5;clear hO1 XK h0 hL hU5 hlt1 hf1 hF hlt0 hsz4 hs2 hz4;obtain⟨vc5,hL⟩:=hL5;clear vc;obtain⟨L5,hL5⟩:=Zh (code++[jp (2 * site)]);rw[<-hL5.out]at hL hG'
 have hl5:L5.length<=90001:=by rw[hL5.out];simp<;>omega
 obtain⟨p5,c5,rfl⟩:=hL.code.form2;go_upto_region 4 with(fail);have XL:=hL.blk;have HC:=hL.code;refine bR 11 12 16 (λw'=>Below w5.heap.size w5 w') _ rfl (by kernel_rfl) (by kernel_rfl) (by decide) (by kernel_rfl) ?_;simp only[List.take_succ_cons,List.take_zero]
 iterate 4 refine Zf ?_
 refine bm rfl (by kernel_rfl) _ (λw' h'=>aE (by have c:w'.cell? ⟨b,7,none⟩=some (.slice p5 L5.length c5):=ae w' b 7 _ 95 _ (keep XL h');go_simp;try with_reducible rfl)) (Zj ?_)
 iterate 4 refine Zf ?_
 refine bm rfl (by kernel_rfl) _ (λw' h'=>aE (by have c:w'.cell? ⟨b,7,none⟩=some (.slice p5 L5.length c5):=ae w' b 7 _ 95 _ (keep XL h');go_simp;try with_reducible rfl)) (Zj ?_);refine Zf ?_;refine gJ ?_;show dU _ _ _ _ _ _ _ _ _ _;have q0:Below w5.heap.size w5 w5.drew:=Below.drew (ak _ _);replace XL:=keep XL q0;refine ZM 11 (λd11 r11=>⟨λ_=>q0.trans (r11.mono q0.size),?_⟩);replace q0:=q0.trans (r11.mono q0.size);replace XL:=keep XL r11;have hO11:Own eI d11 (.slice p1 R.1.length c1) R.1:=hO5.below q0;obtain⟨V,cV,eV,hRV,_⟩:=i9 (w:=d11) (v:=.slice p1 R.1.length c1) (L:=R.1) hO11;simp only[Value.slice.injEq]at eV;obtain⟨rfl,-,rfl⟩:=eV
 refine fW rfl rfl 77 #[.slice p1 R.1.length c1,.int .i64 L5.length] (λv w'=>(∃g c',v=.slice (some ⟨g,0,none⟩) (dc R.1 L5.length).length c'/\Own eI w' (.slice (some ⟨g,0,none⟩) (dc R.1 L5.length).length c') (dc R.1 L5.length)/\d11.heap.size<=g)/\Below d11.heap.size d11 w') ?_ ((EA p1 R.1 c1 L5.length ⟨by omega,by omega⟩ (by have:=hcr.2.1;omega) hcr.1 d11 (hI.below (h05.trans (q0.mono h05.size))) hRV).mono (λe w' hh=>by
  obtain⟨⟨g,c',rfl,h5,h6⟩,h7⟩:=hh
  exact⟨_,rfl,⟨g,c',rfl,h5,h6⟩,h7⟩)) (λv w6 hv=>?_)
 ·first|(go_simp;done)|(go_simp;rfl)
 obtain⟨⟨g6,c6,rfl,hO6,hg6⟩,h6⟩:=hv;replace q0:=q0.trans (h6.mono q0.size);replace XL:=keep XL h6;clear h6 hO11 hRV;refine ZM 12 (λd12 r12=>⟨λ_=>q0.trans (r12.mono q0.size),?_⟩);replace q0:=q0.trans (r12.mono q0.size);replace XL:=keep XL r12;have hO3:=HC.below q0;have hO7:=hO6.below r12
 have hrl:(dc R.1 L5.length).length<=100:=by rw[kj];exact hcr.2.1
 refine iM lB rfl rfl 93 Tryz.underlying93 40 tV (.tmp 56) (.tmp 63) rfl _ L5 (dc R.1 L5.length) rfl hO3 g6 0 c6 rfl (hO7.at lB) (by omega) (by decide) (λvc' v4 hO4 hg4 hl4=>?_);have hal3:=q0;have Xb:=fD hO3 XL (by decide) hg4;obtain⟨p,c4,rfl⟩:=hO4.form2;generalize hn4:(L5++dc R.1 L5.length).length=n4 at *;refine ZM 13 (λv5 r5=>⟨(λe=>absurd (show true=false from e) (by decide)),?_⟩);refine aR rfl rfl (.pointer (some ⟨b,0,none⟩)) (by go_simp) ?_;refine ZM 14 (λv6 r6=>⟨(λe=>absurd (show true=false from e) (by decide)),?_⟩);refine aR rfl rfl (.pointer (some ⟨b,7,none⟩)) (by go_simp) ?_;refine ZM 15 (λv7 r7=>⟨(λe=>absurd (show true=false from e) (by decide)),?_⟩);have hb7:Below v4.heap.size v4 v7:=(r5.trans (r6.mono r5.size)).trans (r7.mono (ar r5.size r6.size));have Xc:=keep Xb hb7;refine du rfl rfl 93 (λw=>by kernel_rfl) (.tmp 66) (.tmp 64) rfl b 7 p n4 c4 _ 95 rfl rfl Xc (by show 7<8;decide) (λv8 p1 p2 p3=>?_);refine bl (by kernel_rfl) (by kernel_rfl) (λv9 r9=>?_);have hA:j7 eI w5 v9 b 7 95 (lkC C t site (.slice p5 L5.length c5)) (.slice p5 L5.length c5) (.slice p n4 c4) (L5++(dc R.1 L5.length)):=io hal3 hg4 hl4 hO4 Xb (by decide) hb7 p1 p2 p3 r9;clear q0 r5 r6 r7 r9 Xb Xc hb7 hg4 hl4 hO4 p1 p2 p3 hal3;obtain⟨F9,hL9,hU9⟩:=hL.app hA;clear hA XL HC hO7 hO6 hrl hg6 hO5;have XK9:=hU9.kept XK5 hf5
 have h09:=h05.trans (hU9.low _ hF5 h05.size);have hU':=hU.trans hU9
 have hF9:∀k,F9 k->w0.heap.size<=k:=λk hk=>by
  rcases hU9.foot k hk with h|h
  ·exact hF5 k h
  ·have:=h05.size;omega
 clear hU hU9 h05 XK5 hf5 hF5 hL;obtain⟨L9,hL9'⟩:∃L,Hid (L=L5++dc R.1 L5.length):=⟨_,rfl⟩
 have hl9:L9.length<=90101:=by rw[hL9'.out,List.length_append,kj];have:=hcr.2.1;omega
 rw[<-hL9'.out]at hL9 hG'
 have y6:v9.cell? ⟨b,6,none⟩=some (.int .i64 site):=by
  obtain⟨vx,hx⟩:=hL9;exact ae v9 b 6 _ 95 _ hx.blk
 go_wp2_with fail;refine(tj (2 * site+1) hL9 (by omega)).mono ?_;rintro e w10 ⟨rfl,F10,hL10,hU10⟩;clear y6;have hU:=hU'.trans hU10;clear hU' hU10;rw[<-hG'.out]at hL10;obtain⟨vx,hx⟩:=hL10;have y6:w10.cell? ⟨b,6,none⟩=some (.int .i64 site):=ae w10 b 6 _ 95 _ hx.blk;go_upto_region 6 with(fail);refine ab ?_
 iterate 4 refine Zv ?_
 refine aG rfl (.int .i64 (site+1)) ?_ ?_
 ·first|(go_simp;done)|(go_simp;simp only[IntKind.wrap_i64];omega)
 refine Zk ?_
 iterate 2 refine Zv ?_
 refine Zw 3 6 (.int .i64 (site+1)) (dw (site+1)) hx.blk (by show 6<8;decide) (λw11 p1 p2 p3=>?_);have fb:F10 b:=(hx.foot b).2 (.inl rfl)
 have hx':LMv w11 b F10 C t (site+1) G vx:=⟨p1,hx.code.keep (λg e=>p2 g (λe'=>by
  obtain⟨_,h1⟩:=hx.code.blk e
  exact aK hx.blk h1 (show(95:Nat)≠115 by decide) e'.symm)),hx.foot⟩
 have hU11:Upd F10 F10 w10 w11:=⟨λB hF hB=>p3 B (hF b fb),λk hk hF=>p2 k (λe=>hF (e▸fb)),λk hk=>.inl hk⟩;clear y6;go_wp2;go_end0;exact⟨rfl,F10,⟨vx,hx'⟩,hU.trans hU11⟩
def opF(C:Cl)(t site:Int)(code:List Ins)(x:X):List Ins×Int:=
 if x.k=1 then(code++[⟨1,x.a,0,0,x.K⟩],site) else if x.k=2 then(code++[⟨3,x.a,x.a,x.b,0⟩],site) else if x.k=3 then(code++[⟨16,x.a,8,0,x.b%4294967296⟩],site) else if x.k=4 then(code++[⟨17,x.a,8,0,x.b%4294967296⟩],site) else if x.k=5 then(code++[⟨22,x.a,0,0,0⟩],site) else if x.k=6 then(code++[⟨22,7,0,0,0⟩],site) else if x.k=7 then(nX C t site code x,site+1) else(code,site)
theorem vA{C:Cl}{t site:Int}{code:List Ins}{x:X}(h:x.k=1):opF C t site code x=(code++[⟨1,x.a,0,0,x.K⟩],site):=by unfold opF;rw[ag h]
theorem vB{C:Cl}{t site:Int}{code:List Ins}{x:X}(h:x.k=2):opF C t site code x=(code++[⟨3,x.a,x.a,x.b,0⟩],site):=by unfold opF;rw[af (show ¬x.k=1 by omega),ag h]
theorem vQ{C:Cl}{t site:Int}{code:List Ins}{x:X}(h:x.k=3):opF C t site code x=(code++[⟨16,x.a,8,0,x.b%4294967296⟩],site):=by unfold opF;rw[af (show ¬x.k=1 by omega),af (show ¬x.k=2 by omega),ag h]
theorem vZ{C:Cl}{t site:Int}{code:List Ins}{x:X}(h:x.k=4):opF C t site code x=(code++[⟨17,x.a,8,0,x.b%4294967296⟩],site):=by unfold opF;rw[af (show ¬x.k=1 by omega),af (show ¬x.k=2 by omega),af (show ¬x.k=3 by omega),ag h]
theorem wM{C:Cl}{t site:Int}{code:List Ins}{x:X}(h:x.k=5):opF C t site code x=(code++[⟨22,x.a,0,0,0⟩],site):=by unfold opF;rw[af (show ¬x.k=1 by omega),af (show ¬x.k=2 by omega),af (show ¬x.k=3 by omega),af (show ¬x.k=4 by omega),ag h]
theorem vt{C:Cl}{t site:Int}{code:List Ins}{x:X}(h:x.k=6):opF C t site code x=(code++[⟨22,7,0,0,0⟩],site):=by unfold opF;rw[af (show ¬x.k=1 by omega),af (show ¬x.k=2 by omega),af (show ¬x.k=3 by omega),af (show ¬x.k=4 by omega),af (show ¬x.k=5 by omega),ag h]
theorem vu{C:Cl}{t site:Int}{code:List Ins}{x:X}(h:x.k=7):opF C t site code x=(nX C t site code x,site+1):=by unfold opF;rw[af (show ¬x.k=1 by omega),af (show ¬x.k=2 by omega),af (show ¬x.k=3 by omega),af (show ¬x.k=4 by omega),af (show ¬x.k=5 by omega),af (show ¬x.k=6 by omega),ag h]
theorem DD{C:Cl}{t site:Int}{code:List Ins}{x:X}(h:x.k≠1/\x.k≠2/\x.k≠3/\x.k≠4/\x.k≠5/\x.k≠6/\x.k≠7):opF C t site code x=(code,site):=by unfold opF;rw[af (show ¬x.k=1 by omega),af (show ¬x.k=2 by omega),af (show ¬x.k=3 by omega),af (show ¬x.k=4 by omega),af (show ¬x.k=5 by omega),af (show ¬x.k=6 by omega),af (show ¬x.k=7 by omega)]
theorem Gi{C:Cl}{t site:Int}{code:List Ins}{x:X}(h:KOk code)(hK:0<=x.K/\x.K<4294967296):KOk (opF C t site code x).1/\(opF C t site code x).1.length<=code.length+102/\site<=(opF C t site code x).2/\(opF C t site code x).2<=site+1:=by
 by_cases h7:x.k=7
 ·rw[vu h7];exact⟨BW h,xO C t site code x,by simp only;omega,by simp only;omega⟩
 by_cases h1:x.k=1
 ·rw[vA h1];exact⟨iW h (jA (by unfold U32;simp only;omega)),by simp,by simp only;omega,by simp only;omega⟩
 by_cases h2:x.k=2
 ·rw[vB h2];exact⟨iW h (jA (by unfold U32;simp only;omega)),by simp,by simp only;omega,by simp only;omega⟩
 by_cases h3:x.k=3
 ·rw[vQ h3];exact⟨iW h (jA (by unfold U32;simp only;omega)),by simp,by simp only;omega,by simp only;omega⟩
 by_cases h4:x.k=4
 ·rw[vZ h4];exact⟨iW h (jA (by unfold U32;simp only;omega)),by simp,by simp only;omega,by simp only;omega⟩
 by_cases h5:x.k=5
 ·rw[wM h5];exact⟨iW h (jA (by unfold U32;simp only;omega)),by simp,by simp only;omega,by simp only;omega⟩
 by_cases h6:x.k=6
 ·rw[vt h6];exact⟨iW h (jA (by unfold U32;simp only;omega)),by simp,by simp only;omega,by simp only;omega⟩
 rw[DD ⟨h1,h2,h3,h4,h5,h6,h7⟩];exact⟨h,by simp,by simp only;omega,by simp only;omega⟩
theorem Ft{b:Nat}{F:Nat->Prop}{C:Cl}{t site:Int}{code:List Ins}{x:X}{w0 w:World}(hM:MemC w0 C)(hN:NmW w0)(hI:IsaW w0)(h0:Below w0.heap.size w0 w)(hF:∀k,F k->w0.heap.size<=k)(hn:C.no<=4000)(ha:x.k=7->0<=x.a/\x.a<C.no)(hK:0<=x.K/\x.K<4294967296)(hs0:0<=site)(hs1:site<=10000)(hL:LMem w b F C t site code)(hs:code.length<=90000):Calls Tryz.prog 27 #[.pointer (some ⟨b,0,none⟩),xv x] w λe w'=>e=.returned (.tuple #[])/\∃F',LMem w' b F' C t (opF C t site code x).2 (opF C t site code x).1/\Upd F F' w w':=by
 have hl0:=hL.lt;obtain⟨xk,xa,xb,xK⟩:=x;simp only at ha hK;obtain⟨Z,hZ⟩:=Zh (opF C t site code ⟨xk,xa,xb,xK⟩);rw[<-hZ.out];have hcall:=λw' (h:Below w0.heap.size w0 w') (hL':LMem w' b F C t site code) (hk:xk=7)=>zR (x:=⟨xk,xa,xb,xK⟩) hM hN hI h hF hn (ha hk) hK hs0 hs1 hL' hs;unfold xv at hcall ⊢;simp only at hcall ⊢;go_enter Tryz.func27,Tryz.ntmps27;go_upto_region 1 with(fail);obtain⟨w1,kB,e0,e1,XK,hb1⟩:=aO w #[.int .i64 xk,.int .i64 xa,.int .i64 xb,.int .u32 xK] 49;rw[e0,e1];clear e0 e1;replace hL:=hL.below hb1;have hU:Upd F F w w1:=Upd.of_below hb1;replace h0:=h0.trans (hb1.mono h0.size);clear hb1 hl0 hM hN hI;obtain⟨y0,y1,y2,y3⟩:=cl4 XK
 by_cases k1:xk=1
 ·subst k1
  obtain rfl:=hZ.out.trans (vA rfl);clear hZ ha;clear hcall;have hAd:=kr ⟨1,xa,0,0,xK⟩ hL (by omega);unfold iV iP at hAd;go_wp2_with fail;refine(hAd).mono ?_;rintro e w' ⟨rfl,F',h1,h2⟩;clear y0 y1 y2 y3;go_wp2;go_end0;exact⟨rfl,F',h1,hU.trans h2⟩
 have q1:(xk == 1)=false:=by simp[k1]
 by_cases k2:xk=2
 ·subst k2
  obtain rfl:=hZ.out.trans (vB rfl);clear hZ ha;clear hcall;have hAd:=kr ⟨3,xa,xa,xb,0⟩ hL (by omega);unfold iV iP at hAd;go_wp2_with fail;refine(hAd).mono ?_;rintro e w' ⟨rfl,F',h1,h2⟩;clear y0 y1 y2 y3;go_wp2;go_end0;exact⟨rfl,F',h1,hU.trans h2⟩
 have q2:(xk == 2)=false:=by simp[k2]
 by_cases k3:xk=3
 ·subst k3
  obtain rfl:=hZ.out.trans (vQ rfl);clear hZ ha;clear hcall;have hAd:=kr ⟨16,xa,8,0,xb%4294967296⟩ hL (by omega);unfold iV iP at hAd;go_wp2_with fail;refine(hAd).mono ?_;rintro e w' ⟨rfl,F',h1,h2⟩;clear y0 y1 y2 y3;go_wp2;go_end0;exact⟨rfl,F',h1,hU.trans h2⟩
 have q3:(xk == 3)=false:=by simp[k3]
 by_cases k4:xk=4
 ·subst k4
  obtain rfl:=hZ.out.trans (vZ rfl);clear hZ ha;clear hcall;have hAd:=kr ⟨17,xa,8,0,xb%4294967296⟩ hL (by omega);unfold iV iP at hAd;go_wp2_with fail;refine(hAd).mono ?_;rintro e w' ⟨rfl,F',h1,h2⟩;clear y0 y1 y2 y3;go_wp2;go_end0;exact⟨rfl,F',h1,hU.trans h2⟩
 have q4:(xk == 4)=false:=by simp[k4]
 by_cases k5:xk=5
 ·subst k5
  obtain rfl:=hZ.out.trans (wM rfl);clear hZ ha;clear hcall;have hAd:=kr ⟨22,xa,0,0,0⟩ hL (by omega);unfold iV iP at hAd;go_wp2_with fail;refine(hAd).mono ?_;rintro e w' ⟨rfl,F',h1,h2⟩;clear y0 y1 y2 y3;go_wp2;go_end0;exact⟨rfl,F',h1,hU.trans h2⟩
 have q5:(xk == 5)=false:=by simp[k5]
 by_cases k6:xk=6
 ·subst k6
  obtain rfl:=hZ.out.trans (vt rfl);clear hZ ha;clear hcall;have hAd:=kr ⟨22,7,0,0,0⟩ hL (by omega);unfold iV iP at hAd;go_wp2_with fail;refine(hAd).mono ?_;rintro e w' ⟨rfl,F',h1,h2⟩;clear y0 y1 y2 y3;go_wp2;go_end0;exact⟨rfl,F',h1,hU.trans h2⟩
 have q6:(xk == 6)=false:=by simp[k6]
 by_cases k7:xk=7
 ·subst k7
  obtain rfl:=hZ.out.trans (vu rfl);clear hZ ha;go_wp2_with fail
  refine(hcall w1 h0 hL (by first|rfl|trivial)).mono ?_
  rintro e w' ⟨rfl,F',h1,h2⟩;clear y0 y1 y2 y3;go_wp2;go_end0;exact⟨rfl,F',h1,hU.trans h2⟩
 have q7:(xk == 7)=false:=by simp[k7]
 obtain rfl:=hZ.out.trans (DD ⟨k1,k2,k3,k4,k5,k6,k7⟩);clear hZ ha hcall k1 k2 k3 k4 k5 k6 k7;go_wp2;go_end0;exact⟨rfl,F,hL,hU⟩
structure gG(C:Cl):Prop where
 good:¬ld C
 no:C.no<=8
 objs:∀k,k<C.no->RP (C.f k) C.nt
 len:∀t,t<C.nt->C.len t<=60
 ops:∀t i,t<C.nt->i<C.len t->rgt C (C.op t i)=true
theorem uN{R:Type}{g:Nat->Option R}{n:Nat}(h:la g n=none):∀j,j<n->g j=none:=λj hj=>by
 unfold la at h;rw[List.findSome?_eq_none_iff]at h;exact h j (List.mem_range.2 hj)
theorem rz{R:Type}{g:Nat->Option R}{n:Nat}{r:R}(h:la g n=some r):∃j,j<n/\g j=some r:=by
 unfold la at h;obtain⟨a,h1,h2⟩:=List.exists_of_findSome?_eq_some h;exact⟨a,List.mem_range.1 h1,h2⟩
theorem lx{C:Cl}(h:(chk C).2.2=0):gG C:=by
 unfold chk at h
 by_cases h1:ld C
 ·rw[ag h1]at h;exact absurd h (by decide)
 rw[af h1]at h
 by_cases h2:8<C.no
 ·rw[ag h2]at h;exact absurd h (by decide)
 rw[af h2]at h
 have ho:la (qj C) C.no=none:=by
  cases e:la (qj C) C.no with
  | none=>rfl
  | some r=>
   rw[e]at h;obtain⟨j,_,hj⟩:=rz e;unfold qj at hj
   split at hj
   ·cases hj
   ·cases hj;exact absurd h (by simp)
 have hw:la (ua C) C.nw=none:=by
  cases e:la (ua C) C.nw with
  | none=>rfl
  | some r=>
   rw[ho,e]at h;obtain⟨j,_,hj⟩:=rz e;unfold ua at hj
   split at hj
   ·cases hj;exact absurd h (by simp)
   ·cases hj
 have hop:∀t i,opE C t i=none\/∃r:T3,opE C t i=some r/\r.2.2=3:=λt i=>by
  unfold opE
  split
  ·exact .inl rfl
  ·exact .inr ⟨_,rfl,rfl⟩
 have ht:la (lX C) C.nt=none:=by
  cases e:la (lX C) C.nt with
  | none=>rfl
  | some r=>
   rw[ho,hw,e]at h;obtain⟨j,_,hj⟩:=rz e;unfold lX at hj
   split at hj
   ·cases hj;exact absurd h (by simp)
   ·obtain⟨i,_,hi⟩:=rz hj
    rcases hop j i with e2|⟨r2,e2,e3⟩
    ·rw[e2]at hi;cases hi
    ·rw[e2]at hi;cases hi
     have:r.2.2=0:=by simpa using h
     omega
 have hth:=uN ht
 have hlen:∀t,t<C.nt->¬60<C.len t:=λt h' hl=>by
  have:=hth t h';unfold lX at this;rw[ag hl]at this;cases this
 refine⟨h1,by omega,λk hk=>?_,λt h'=>by have:=hlen t h';omega,λt i h' hi=>?_⟩
 ·have:=uN ho k hk
  unfold qj at this
  split at this
  ·rename_i hr;exact of_decide_eq_true hr
  ·cases this
 ·have h3:=hth t h'
  unfold lX at h3;rw[af (hlen t h')]at h3;have:=uN h3 i hi;unfold opE at this
  split at this
  ·assumption
  ·cases this
theorem ka{C:Cl}{x:X}(h:rgt C x=true)(h7:x.k=7):0<=x.a/\x.a<C.no:=by
 unfold rgt at h;rw[af (by omega),af (by omega),af (by omega),af (by omega),af (by omega),ag h7]at h;unfold px at h
 split at h
 ·assumption
 ·cases h
theorem Ah:∀k,k<=15->1<=k->(j6 k).head?.map wO=some false:=by decide +kernel
theorem uq{x:O}{t:Nat}(h:RP x t):0<(aT x t).length:=by
 have hk:1<=x.k/\x.k<=15:=by have:=h.2.2;omega
 have hh:=Ah x.k.toNat (by omega) (by omega);unfold aT;rw[List.length_append]
 cases e:j6 x.k.toNat with
 | nil=>rw[e]at hh;cases hh
 | cons c l=>
  rw[e]at hh;simp at hh;rw[List.flatMap_cons,List.length_append]
  have:(kl x.k x.n t c).length=1:=by unfold kl;rw[hh];simp
  omega
theorem AY{x:O}{t:Nat}(h:RP x t):∀v∈aT x t,U32 v:=λv hv=>by
 have ht8:=h.2.1;unfold aT at hv;rcases List.mem_append.1 hv with h1|h1
 ·obtain⟨c,_,h2⟩:=List.mem_flatMap.1 h1
  unfold kl at h2;obtain⟨j,hj,rfl⟩:=List.mem_map.1 h2;have hj':=List.mem_range.1 hj
  have hj8:j<8\/j<1:=by split at hj'<;>omega
  unfold wj
  split
  ·rename_i h11
   have:=h.2.2;unfold U32;omega
  ·split
   ·unfold U32;omega
   ·split
    ·unfold U32;omega
    ·unfold U32;omega
 ·split at h1
  ·have:=(List.mem_replicate.1 h1).2;subst this;unfold U32;omega
  ·cases h1
def bf(C:Cl):Nat->List Int
 | 0=>List.replicate 16 0
 | k+1=>bf C k++aT (C.f k) C.nt
def mT(C:Cl):List Int:=bf C C.no
theorem qF{x:O}{t:Nat}(h:RP x t):(aT x t).length<=60:=by
 have:=vi x t;unfold szP at this;rw[ag h]at this
 simpa using this
theorem jV{C:Cl}(h:gG C):∀k,k<=C.no->16<=(bf C k).length/\(bf C k).length<=16+60 * k/\∀v∈bf C k,U32 v
 | 0,_=>⟨by simp[bf],by simp[bf],λv hv=>by
   have:=(List.mem_replicate.1 hv).2;subst this;unfold U32;omega⟩
 | k+1,hk=>by
  obtain⟨h0,h1,h2⟩:=jV h k (by omega);have h3:=qF (h.objs k (by omega));refine⟨by simp only[bf,List.length_append];omega,by simp only[bf,List.length_append];omega,λv hv=>?_⟩;rcases List.mem_append.1 hv with h4|h4
  ·exact h2 v h4
  ·exact AY (h.objs k (by omega)) v h4
def g5(C:Cl)(t:Int)(op:Nat->X)(st:List Ins×Int):Nat->List Ins×Int
 | 0=>st
 | i+1=>opF C t (g5 C t op st i).2 (g5 C t op st i).1 (op i)
def bc(C:Cl):Nat->List (List Ins)×Int
 | 0=>([],0)
 | t+1=>((bc C t).1++[(g5 C t (C.op t) ([],(bc C t).2) (C.len t)).1],(g5 C t (C.op t) ([],(bc C t).2) (C.len t)).2)
def de(C:Cl):List (List Ins):=(bc C C.nt).1
theorem ul{C:Cl}{t:Int}{op:Nat->X}{s:Int}(hs:0<=s):∀n,(∀i,i<n->0<=(op i).K/\(op i).K<4294967296)->KOk (g5 C t op ([],s) n).1/\(g5 C t op ([],s) n).1.length<=102 * n/\s<=(g5 C t op ([],s) n).2/\(g5 C t op ([],s) n).2<=s+n
 | 0,_=>⟨λx h=>(by cases h),by simp[g5],by simp only[g5];omega,by simp only[g5];omega⟩
 | n+1,h=>by
  obtain⟨h1,h2,h3,h4⟩:=ul (C:=C) (t:=t) (op:=op) hs n (λi hi=>h i (by omega));obtain⟨h5,h6,h7,h8⟩:=Gi (C:=C) (t:=t) (site:=(g5 C t op ([],s) n).2) (x:=op n) h1 (h n (by omega))
  refine⟨h5,?_,?_,?_⟩<;>simp only[g5]<;>omega
theorem kt{C:Cl}(h:gG C)(hK:∀t i,t<C.nt->i<C.len t->0<=(C.op t i).K/\(C.op t i).K<4294967296):∀t,t<=C.nt->(bc C t).1.length=t/\(∀L∈(bc C t).1,KOk L/\L.length<=6120)/\0<=(bc C t).2/\(bc C t).2<=60 * t
 | 0,_=>⟨rfl,λL hL=>(by cases hL),by simp[bc],by simp[bc]⟩
 | t+1,ht=>by
  obtain⟨h1,h2,h3,h4⟩:=kt h hK t (by omega);obtain⟨h5,h6,h7,h8⟩:=ul (C:=C) (t:=t) (op:=C.op t) h3 (C.len t) (λi hi=>hK t i (by omega) hi);have h9:=h.len t (by omega);refine⟨by simp[bc,h1],λL hL=>?_,?_,?_⟩
  ·rcases List.mem_append.1 hL with h'|h'
   ·exact h2 L h'
   ·rw[List.mem_singleton]at h'
    subst h';exact⟨h5,by omega⟩
  ·simp only[bc];omega
  ·simp only[bc];omega
end Go.Proofs.YtldlcnaphednnaaGreatDoor
