/- Store buffers: their calls. -/
import Derived.Test.YtldlcnaphednnaaGreatDoorM21
set_option maxRecDepth 100000
set_option maxHeartbeats 32000000
set_option linter.unusedVariables false
set_option linter.unusedSimpArgs false
namespace Go.Proofs.YtldlcnaphednnaaGreatDoor
open Go.RowKit Go.Maps
theorem Bw(w:World)(c1 c2 c3:Array Value)(t1 t2 t3:TypeId):∃W b1 b2 b3,((w.alloc (.cells c1 t1)).alloc (.cells c2 t2)).alloc (.cells c3 t3)=W/\w.heap.size=b1/\w.heap.size+1=b2/\w.heap.size+1+1=b3/\W.heap[b1]? = some (.cells c1 t1 (0,0))/\W.heap[b2]? = some (.cells c2 t2 (0,0))/\W.heap[b3]? = some (.cells c3 t3 (0,0))/\Below w.heap.size w W:=by
 obtain⟨W2,b1,b2,e0,e1,e2,X1,X2,h⟩:=lW w c1 c2 t1 t2;obtain⟨W,b3,e3,e4,X3,h3⟩:=aO W2 c3 t3;refine⟨W,b1,b2,b3,by rw[e0,e3],e1,e2,?_,keep X1 h3,keep X2 h3,X3,h.trans (h3.mono h.size)⟩;rw[<-e4,<-e0];simp
def bE(x:Bf):Array Value:=(mz x).toArray
structure lD(x:Bf):Prop where
 f0:0<=x.first
 f1:x.first<16
 n0:0<=x.n
 n1:x.n<=x.room
 r1:x.room<=16
def dN(x:Bf)(i:Int):Int:=(x.first+i)%16
def ed(x:Bf)(a v:Int):Bf:={ x with ra:=λi=>if i=(dN x x.n).toNat then a else x.ra i,rv:=λi=>if i=(dN x x.n).toNat then v else x.rv i,n:=x.n+1 }
def eD(x:Bf):Bf:={ x with ra:=λi=>if i=x.first.toNat then 0 else x.ra i,rv:=λi=>if i=x.first.toNat then 0 else x.rv i,first:=dN x 1,n:=x.n - 1 }
def fS(x:Bf)(addr:Int):Nat->Option Int
 | 0=>none
 | i+1=>if x.ra (dN x i).toNat=addr then some (x.rv (dN x i).toNat) else fS x addr i
def lQ(x:Bf)(addr:Int):Option Int:=fS x addr x.n.toNat
theorem nM(x:Bf)(i:Int):0<=dN x i/\dN x i<16:=by unfold dN;omega
theorem bd(x:Bf):(bE x).size=35:=rfl
theorem jY(x:Bf):(mz x).length=35:=rfl
theorem qw(x:Bf){j:Nat}(hj:j<16):(bE x)[j * 2]? = some (.int .i64 (x.ra j))/\(bE x)[j * 2+1]? = some (.int .u32 (x.rv j)):=by
 have h:j=0\/j=1\/j=2\/j=3\/j=4\/j=5\/j=6\/j=7\/j=8\/j=9\/j=10\/j=11\/j=12\/j=13\/j=14\/j=15:=by omega
 rcases h with rfl|rfl|rfl|rfl|rfl|rfl|rfl|rfl|rfl|rfl|rfl|rfl|rfl|rfl|rfl|rfl<;>exact⟨rfl,rfl⟩
theorem jh(x:Bf):(bE x).all (·.oneCell')=true:=all_oneCell_toArray (eB_ok.one x)
theorem xU(x:Bf)(a v:Int){j:Nat}(hj:j<16):(mz x).take (j * 2)++[.int .i64 a,.int .u32 v]++(mz x).drop (j * 2+2)=mz { x with ra:=λi=>if i=j then a else x.ra i,rv:=λi=>if i=j then v else x.rv i }:=by
 have h:j=0\/j=1\/j=2\/j=3\/j=4\/j=5\/j=6\/j=7\/j=8\/j=9\/j=10\/j=11\/j=12\/j=13\/j=14\/j=15:=by omega
 rcases h with rfl|rfl|rfl|rfl|rfl|rfl|rfl|rfl|rfl|rfl|rfl|rfl|rfl|rfl|rfl|rfl<;>rfl
theorem ve{w:World}{b:Nat}(x:Bf)(a v:Int){j:Nat}(hj:j<16)(ty:TypeId)(hinf:(Tryz.prog.info? ty).map (·.size)=some 2)(hX:w.heap[b]? = some (.cells (bE x) 110 (0,0))):
  ∃w',(Instr.storeAt ty (.pointer (some ⟨b,j * 2,none⟩)) (.agg #[.int .i64 a,.int .u32 v])).run Tryz.prog w=.ok () w'/\w'.heap[b]? = some (.cells (bE { x with ra:=λi=>if i=j then a else x.ra i,rv:=λi=>if i=j then v else x.rv i }) 110 (0,0))/\(∀k,k≠b->w'.heap[k]? = w.heap[k]?)/\(∀B,B<=b->Below B w w'):=by
 obtain⟨cur',h1,h2,h3,h4,_⟩:=dQ b 110 [.int .i64 a,.int .u32 v] (j * 2) w (bE x) hX (by rw[bd];simp<;>omega)
 have hth:w.there b (j * 2) 2:=λq hq=>by
  refine⟨?_,frozen_of_row w b _ _ 110 hX⟩;rw[ae w b _ _ 110 _ hX,Array.getElem?_eq_getElem (by rw[bd];omega)];rfl
 refine⟨_,run_storeAt_mid w b (j * 2) ty #[.int .i64 a,.int .u32 v] hth hinf (by simp[Value.oneCell']),?_,h3,h4⟩
 have e:cur'=bE { x with ra:=λi=>if i=j then a else x.ra i,rv:=λi=>if i=j then v else x.rv i }:=by
  apply Array.toList_inj.1;rw[h2];exact xU x a v hj
 rw[<-e];exact h1
theorem ww{w:World}{b:Nat}{x:Bf}(hX:w.heap[b]? = some (.cells (bE x) 110 (0,0))){j:Nat}(hj:j<16):w.rangeAt b (j * 2) [.int .i64 (x.ra j),.int .u32 (x.rv j)]:=λq v hv=>by
 obtain⟨r0,r1⟩:=qw x hj;rw[ae w b _ _ 110 _ hX]
 match q,hv with
 | 0,hv=>simp at hv;rw[<-hv];exact r0
 | 1,hv=>simp at hv;rw[<-hv];exact r1
 | q+2,hv=>simp at hv
section
variable {ops:Array Oper} {Q:Exit->Act->World->Prop}
theorem wA{rest:List Oper}{o:Oper}{a':Act}{w:World}(hgd:o.guard=none)(ty:TypeId)(hinf:(Tryz.prog.info? ty).map (·.size)=some 2)(y y':Operand)(ho:o.op=.store ty y y')(b:Nat)(x:Bf)(a v:Int){j:Nat}(hj:j<16)
  (hx:a'.eval y=.pointer (some ⟨b,j * 2,none⟩)) (hy:a'.eval y'=.agg #[.int .i64 a,.int .u32 v]) (hX:w.heap[b]? = some (.cells (bE x) 110 (0,0)))
  (h:∀w',w'.heap[b]? = some (.cells (bE { x with ra:=λi=>if i=j then a else x.ra i,rv:=λi=>if i=j then v else x.rv i }) 110 (0,0))->(∀k,k≠b->w'.heap[k]? = w.heap[k]?)->(∀B,B<=b->Below B w w')->∀K:Act->World->Prop,(∀a w,wpList Tryz.prog ops Q rest a w->K a w)->K (a'.put o.dst undef) w'):wpList Tryz.prog ops Q (o :: rest) a' w:=by
 refine wpList_plain hgd λK hK=>?_
 obtain⟨w',hr,h1,h2,h3⟩:=ve x a v hj ty hinf hX;unfold Oper.wp execOp;simp only[ho,hx,hy,hr,Sem.run_bind,Result.andThen_ok];exact h w' h1 h2 h3 K hK
end
theorem yQ(x:Bf)(i:Int)(h:lD x)(h0:0<=i)(h1:i<=16)(w:World):Calls Tryz.prog 112 #[.agg (bE x),.int .i64 i] w λe w'=>e=.returned (.int .i64 (dN x i))/\Below w.heap.size w w':=by
 have hf0:=h.f0;have hf1:=h.f1;obtain⟨R,hR⟩:=Zh (dN x i);rw[<-hR.out];go_enter Tryz.func112,Tryz.ntmps112;go_upto_region 1 with(fail);obtain⟨W,kB,e0,e1,XB,hal⟩:=aO w (bE x) 110;rw[e0,e1];clear e0 e1;have y0:W.cell? ⟨kB,32,none⟩=some (.int .i64 x.first):=ae W kB 32 _ 110 _ XB;refine ab ?_
 iterate 3 refine Zv ?_
 refine aG rfl (.int .i64 (x.first+i)) ?_ ?_
 ·first|(go_simp;done)|(go_simp;simp only[IntKind.wrap_i64];omega)
 refine Zk ?_;refine aG rfl (.int .i64 R) ?_ ?_
 ·first|(go_simp;done)|(go_simp;rw[hR.out];unfold dN;exact Int.tmod_eq_emod_of_nonneg (by omega))
 refine Zk ?_;refine Zv ?_;go_wp2;go_ret;exact⟨rfl,hal⟩
theorem Fn(x:Bf)(w:World):Calls Tryz.prog 169 #[.agg (bE x)] w λe w'=>e=.returned (.int .i64 x.n)/\Below w.heap.size w w':=by
 go_enter Tryz.func169,Tryz.ntmps169;go_upto_region 1 with(fail);obtain⟨W,kB,e0,e1,XB,hal⟩:=aO w (bE x) 110;rw[e0,e1];clear e0 e1;have y0:W.cell? ⟨kB,33,none⟩=some (.int .i64 x.n):=ae W kB 33 _ 110 _ XB;go_wp2;go_ret;exact⟨rfl,hal⟩
theorem vT(x:Bf)(w:World):Calls Tryz.prog 167 #[.agg (bE x)] w λe w'=>e=.returned (.bool (decide (x.room<=x.n)))/\Below w.heap.size w w':=by
 go_enter Tryz.func167,Tryz.ntmps167;go_upto_region 1 with(fail);obtain⟨W,kB,e0,e1,XB,hal⟩:=aO w (bE x) 110;rw[e0,e1];clear e0 e1;have y0:W.cell? ⟨kB,33,none⟩=some (.int .i64 x.n):=ae W kB 33 _ 110 _ XB;have y1:W.cell? ⟨kB,34,none⟩=some (.int .i64 x.room):=ae W kB 34 _ 110 _ XB;go_wp2;go_ret;exact⟨rfl,hal⟩
theorem BC(x:Bf)(a v:Int)(h:lD x)(hn:x.n<x.room)(w:World):Calls Tryz.prog 168 #[.agg (bE x),.agg #[.int .i64 a,.int .u32 v]] w λe w'=>e=.returned (.tuple #[.agg (bE (ed x a v)),.bool true])/\Below w.heap.size w w':=by
 have hn0:=h.n0;have hr1:=h.r1;obtain⟨j,hj⟩:∃j:Nat,Hid ((j:Int)=dN x x.n):=⟨(dN x x.n).toNat,by have:=nM x x.n;simp only[Hid];omega⟩
 have hj16:j<16:=by have:=nM x x.n;have:=hj.out;omega
 have hat:=λw'=>yQ x x.n h h.n0 (by omega) w'
 rw[<-hj.out]at hat
 have hput:ed x a v={ x with ra:=λi=>if i=j then a else x.ra i,rv:=λi=>if i=j then v else x.rv i,n:=x.n+1 }:=by
  have:(dN x x.n).toNat=j:=by have:=hj.out;omega
  unfold ed;rw[this]
 have hful:=λw'=>vT x w'
 rw[az (show ¬x.room<=x.n by omega)]at hful;rw[hput];clear hput;go_enter Tryz.func168,Tryz.ntmps168;go_upto_region 1 with(fail);obtain⟨W,kB,kE,kR,e0,e1,e2,e3,XB,XE,XR,hal⟩:=Bw w (bE x) #[.int .i64 a,.int .u32 v] #[.int .i64 0,.int .u32 0,.int .i64 0,.int .u32 0,.int .i64 0,.int .u32 0,.int .i64 0,.int .u32 0,.int .i64 0,.int .u32 0,.int .i64 0,.int .u32 0,.int .i64 0,.int .u32 0,.int .i64 0,.int .u32 0,.int .i64 0,.int .u32 0,.int .i64 0,.int .u32 0,.int .i64 0,.int .u32 0,.int .i64 0,.int .u32 0,.int .i64 0,.int .u32 0,.int .i64 0,.int .u32 0,.int .i64 0,.int .u32 0,.int .i64 0,.int .u32 0,.int .i64 0,.int .i64 0,.int .i64 0] 110 107 110;rw[e0,e3,e2,e1];have hkB:w.heap.size<=kB:=aD e1
 have hkR:w.heap.size<=kR:=by omega
 have hEB:kE≠kB:=by omega
 have hRB:kR≠kB:=by omega
 clear e0 e1 e2 e3;refine ab ?_;refine mG rfl 110 (.tmp 2) rfl kB rfl 110 _ (0,0) _ XB Tryz.underlying110 rfl (by rw[bd];kernel_rfl) ?_;refine Zk ?_;refine Zc 167 #[.agg (bE x)] (.bool false) (hful W) (λw1 hb1=>?_);replace XB:=keep XB hb1;replace XE:=keep XE hb1;replace XR:=keep XR hb1;replace hal:=hal.trans (hb1.mono hal.size);clear hb1 hful;go_upto_region 3 with(fail);have y33:w1.cell? ⟨kB,33,none⟩=some (.int .i64 x.n):=ae w1 kB 33 _ 110 _ XB;refine ZT 7 w1 ?_;simp only[List.take_succ_cons,List.take_zero];refine lr rfl (λK hK=>?_);refine nH 110 (.tmp 2) rfl _ rfl 110 _ (0,0) _ (λw' h'=>(keep XB h')) Tryz.underlying110 rfl (by rw[bd];kernel_rfl) ?_;go_simp;refine hK _ ?_;clear hK K;refine Zz ?_;refine Zy _ (λw' h'=>by have c:w'.cell? ⟨kB,33,none⟩=some (.int .i64 x.n):=ae w' kB 33 _ 110 _ (keep XB h');go_simp;try with_reducible rfl) ?_;refine Zn 112 #[.agg (bE x),.int .i64 x.n] (.int .i64 j) (λw' h'=>(hat w').mono (λe w'' hh=>⟨hh.1,h'.trans (hh.2.mono h'.size)⟩)) ?_;refine lr rfl (λK hK=>?_);refine nH 107 (.tmp 3) rfl _ rfl 107 _ (0,0) _ (λw' h'=>(keep XE h')) Tryz.underlying107 rfl (by kernel_rfl) ?_;go_simp;refine hK _ ?_;clear hK K;refine Zz ?_
 refine Zy (.pointer (some ⟨kB,j * 2,none⟩)) (λw' h'=>by first|(go_simp;done)|(go_simp;trace_state;omega)) ?_
 refine aQ (λw2 h2=>?_);simp only[List.drop_succ_cons,List.drop_zero];replace XB:=keep XB h2;replace XR:=keep XR h2;replace hal:=hal.trans (h2.mono hal.size);clear h2 hat XE y33;refine wA rfl 107 (by kernel_rfl) (.tmp 15) (.tmp 13) rfl kB x a v hj16 rfl rfl XB (λw3 p1 p2 p3=>?_);refine Zk ?_;replace XR:=(p2 kR hRB).trans XR;replace hal:=hal.trans (p3 _ hkB);clear p2 p3 XB;obtain⟨x1,hx1⟩:∃q:Bf,Hid (q={ x with ra:=λi=>if i=j then a else x.ra i,rv:=λi=>if i=j then v else x.rv i }):=⟨_,rfl⟩;rw[<-hx1.out]at p1
 have y33:w3.cell? ⟨kB,33,none⟩=some (.int .i64 x.n):=by rw[show x.n=x1.n by rw[hx1.out]];exact ae w3 kB 33 _ 110 _ p1
 go_upto_region 4 with(fail);refine ab ?_
 iterate 2 refine Zv ?_
 refine aG rfl (.int .i64 (x.n+1)) ?_ ?_
 ·first|(go_simp;done)|(go_simp;simp only[IntKind.wrap_i64];omega)
 refine Zk ?_;refine Zv ?_;refine Zw 3 33 (.int .i64 (x.n+1)) (dw (x.n+1)) p1 (by rw[bd];omega) (λw4 s1 s2 s3=>?_)
 have XB4:w4.heap[kB]? = some (.cells (bE { x with ra:=λi=>if i=j then a else x.ra i,rv:=λi=>if i=j then v else x.rv i,n:=x.n+1 }) 110 (0,0)):=by
  rw[s1,hx1.out];rfl
 replace XR:=(s2 kR hRB).trans XR;replace hal:=hal.trans (s3 _ hkB);clear s1 s2 s3 p1 hx1 y33;go_upto_region 5 with(fail);refine ab ?_;refine mG rfl 110 (.tmp 2) rfl kB rfl 110 _ (0,0) _ XB4 Tryz.underlying110 rfl (by rw[bd];kernel_rfl) ?_;refine Zk ?_;refine bx rfl 110 (.tmp 4) (.tmp 20) rfl kR _ rfl rfl 110 _ XR (by rw[bd];kernel_rfl) rfl (jh _) (λw5 q1 q2 q3 q4=>?_);refine Zk ?_;replace hal:=hal.trans (q3 _ hkR);go_wp2;refine Ac rfl rfl rfl q1 rfl Tryz.underlying110 (by rw[bd];kernel_rfl) rfl ?_;exact⟨rfl,hal⟩
theorem E9{x:Bf}{addr:Int}{R:Option Int}{n:Nat}(h:R=fS x addr (n+1))(e:x.ra (dN x n).toNat=addr):R=some (x.rv (dN x n).toNat):=h.trans (ag e)
theorem EF{x:Bf}{addr:Int}{R:Option Int}{n:Nat}(h:R=fS x addr (n+1))(e:x.ra (dN x n).toNat≠addr):R=fS x addr n:=h.trans (af e)
def Co(o:Option Int):Value:=match o with
 | some v=>.tuple #[.int .u32 v,.bool true]
 | none=>.tuple #[.int .u32 0,.bool false]
theorem zm(x:Bf)(addr:Int)(h:lD x)(w:World):Calls Tryz.prog 166 #[.agg (bE x),.int .i64 addr] w λe w'=>e=.returned (Co (lQ x addr))/\Below w.heap.size w w':=by
 have hn0:=h.n0;have hn1:=h.n1;have hr1:=h.r1;obtain⟨R,hR⟩:=Zh (lQ x addr);rw[<-hR.out];have hat:=λ(i:Nat) (hi:i<=16) w'=>yQ x i h (by omega) (by omega) w';go_enter Tryz.func166,Tryz.ntmps166;go_upto_region 1 with(fail);obtain⟨W,kB,e0,e1,XB,hal⟩:=aO w (bE x) 110;rw[e0,e1];clear e0 e1;have y0:W.cell? ⟨kB,33,none⟩=some (.int .i64 x.n):=ae W kB 33 _ 110 _ XB;go_upto_region 2 with(fail);clear y0;go_loopw [6] (λv wr=>∃i:Nat,v=.int .i64 ((i:Int) - 1)/\i<=x.n.toNat/\Hid (R=fS x addr i)/\wr.heap[kB]? = some (.cells (bE x) 110 (0,0))/\Below w.heap.size w wr) (λv _=>(intOf v+1).toNat)
 case atStart=>exact⟨x.n.toNat,by rw[Int.toNat_of_nonneg hn0],ah _,hR,XB,hal⟩
 case round=>
  clear XB hal hR;obtain⟨i,rfl,hi,hR,XB,hal⟩:=hrel
  by_cases hi0:i=0
  ·subst hi0
   obtain rfl:R=none:=hR.out;clear hR;go_wp2;go_ret2;exact⟨rfl,hal⟩
  obtain⟨k,rfl⟩:∃k,i=k+1:=⟨i - 1,by omega⟩
  have e1:(((k+1:Nat):Int) - 1)=k:=by omega
  rw[e1]
  have hk0:(0:Int)<=k:=by omega
  obtain⟨j,hj⟩:∃j:Nat,Hid ((j:Int)=dN x k):=⟨(dN x k).toNat,by have:=nM x k;simp only[Hid];omega⟩
  have hj16:j<16:=by have:=nM x k;have:=hj.out;omega
  have hjn:(dN x k).toNat=j:=by have:=hj.out;omega
  have hj17:¬(16:Int)<=j:=by omega
  have hatk:=hat k (by omega);rw[<-hj.out]at hatk;obtain⟨r0,r1⟩:=qw x hj16;go_upto_region 4 with(fail);refine ab ?_;refine mG rfl 110 (.tmp 2) rfl kB rfl 110 _ (0,0) _ XB Tryz.underlying110 rfl (by rw[bd];kernel_rfl) ?_;refine Zk ?_;refine Zv ?_;refine Zc 112 #[.agg (bE x),.int .i64 k] (.int .i64 j) (hatk wr) (λw1 hb1=>?_);replace XB:=keep XB hb1;replace hal:=hal.trans (hb1.mono hal.size);clear hb1;refine Zv ?_;refine aG rfl (.pointer (some ⟨kB,j * 2,none⟩)) ?_ ?_
  ·go_simp
  refine Zk ?_;refine Zm 107 #[.int .i64 (x.ra j),.int .u32 (x.rv j)] (ww XB hj16) Tryz.underlying107 ?_;refine Za 107 #[.int .i64 0,.int .u32 0] (λw4 b6 X6 l6 f6=>?_);refine Zo 107 b6 #[.int .i64 (x.ra j),.int .u32 (x.rv j)] X6 (λw5 g1 g2 g3 g4=>?_);have hb5:Below w1.heap.size w1 w5:=l6.trans (g3 _ (by simp only[Hid]at f6;omega));clear X6 l6 f6 g2 g3 g4;replace XB:=keep XB hb5;replace hal:=hal.trans (hb5.mono hal.size);have y0:w5.cell? ⟨b6,0,none⟩=some (.int .i64 (x.ra j)):=ae w5 b6 0 _ 107 _ g1;have y1:w5.cell? ⟨b6,1,none⟩=some (.int .u32 (x.rv j)):=ae w5 b6 1 _ 107 _ g1;clear hb5 g1 hatk r0 r1
  by_cases hq:x.ra j=addr
  ·have hR':=E9 hR.out (by rw[hjn];exact hq)
   rw[hjn]at hR'
   have q0:(x.ra j == addr)=true:=by simp[hq]
   obtain⟨va,hva⟩:=Zh (x.ra j);rw[<-hva.out]at q0 y0;clear hR hq hva hj hjn;subst hR';go_wp2;go_ret2;exact⟨rfl,hal⟩
  ·have hR':Hid (R=fS x addr k):=EF hR.out (by rw[hjn];exact hq)
   have q0:(x.ra j == addr)=false:=by simp[hq]
   clear hR hq hj hjn;go_wp2;go_roundw
   case rel=>exact⟨k,by go_num,by omega,hR',XB,hal⟩
   case measure=>first|(simp[intOf];done)|(simp[intOf];omega)
theorem uS{fn:Func}{p q u:Tmp}{ty ty':TypeId}(h:fn.results=#[.cell p ty,.cell q ty',.tmp u])(tmps:Array Value)(P:Program)(w:World):
  (results fn tmps).run P w=((asAddr (tmps.getD p undef)).run P w).andThen λa w₁=>((loadVar ty a).run P w₁).andThen λv w₂=>((asAddr (tmps.getD q undef)).run P w₂).andThen λa w₃=>((loadVar ty' a).run P w₃).andThen λv' w₄=>.ok (.tuple #[v,v',tmps.getD u undef]) w₄:=by
 simp only[results,h];simp[Sem.run_bind,Result.andThen]
theorem zZ{fn:Func}{d:List Deferred}{w:World}{R:Ending->World->Prop}{tmps:Array Value}{p q u:Tmp}{b b':Nat}{a v:Int}{x:Bf}{ok:Value}(hr:fn.results=#[.cell p 107,.cell q 110,.tmp u])(hx:tmps.getD p undef=.pointer (some ⟨b,0,none⟩))(hx':tmps.getD q undef=.pointer (some ⟨b',0,none⟩))(hok:tmps.getD u undef=ok)
  (hg:w.heap[b]? = some (.cells #[.int .i64 a,.int .u32 v] 107 (0,0))) (hq:True=True) (hg':w.heap[b']? = some (.cells (bE x) 110 (0,0))) (hd:d=[]) (hR:R (.returned (.tuple #[.agg #[.int .i64 a,.int .u32 v],.agg (bE x),ok])) w):bodyPost Tryz.prog fn R (.ret) ⟨tmps,d⟩ w:=by
 refine bodyPost_ret ?_ hd hR;rw[uS hr,hx,hx',hok];simp only[asAddr,Sem.run_pure,Result.andThen_ok];rw[run_loadVar_row w b 107 107 _ (0,0) _ hg Tryz.underlying107 rfl (by kernel_rfl)];simp only[Result.andThen_ok,asAddr,Sem.run_pure];rw[run_loadVar_row w b' 110 110 _ (0,0) _ hg' Tryz.underlying110 rfl (by rw[bd];kernel_rfl)];rfl
theorem B5(x:Bf)(h0:x.n=0)(w:World):Calls Tryz.prog 82 #[.agg (bE x)] w λe w'=>e=.returned (.tuple #[.agg #[.int .i64 0,.int .u32 0],.agg (bE x),.bool false])/\Below w.heap.size w w':=by
 have q0:(x.n == 0)=true:=by simp[h0]
 obtain⟨n,hn⟩:=Zh (x.n);rw[<-hn.out]at q0;clear h0;go_enter Tryz.func82,Tryz.ntmps82;go_upto_region 1 with(fail);obtain⟨W,kB,kE,kR,e0,e1,e2,e3,XB,XE,XR,hal⟩:=Bw w (bE x) #[.int .i64 0,.int .u32 0] #[.int .i64 0,.int .u32 0,.int .i64 0,.int .u32 0,.int .i64 0,.int .u32 0,.int .i64 0,.int .u32 0,.int .i64 0,.int .u32 0,.int .i64 0,.int .u32 0,.int .i64 0,.int .u32 0,.int .i64 0,.int .u32 0,.int .i64 0,.int .u32 0,.int .i64 0,.int .u32 0,.int .i64 0,.int .u32 0,.int .i64 0,.int .u32 0,.int .i64 0,.int .u32 0,.int .i64 0,.int .u32 0,.int .i64 0,.int .u32 0,.int .i64 0,.int .u32 0,.int .i64 0,.int .i64 0,.int .i64 0] 110 107 110;rw[e0,e3,e2,e1];have hkB:w.heap.size<=kB:=aD e1
 have hkE:w.heap.size<=kE:=by omega
 have hkR:w.heap.size<=kR:=by omega
 have hBE:kB≠kE:=by omega
 have hRE:kR≠kE:=by omega
 have hER:kE≠kR:=by omega
 have hRB:kR≠kB:=by omega
 clear e0 e1 e2 e3
 have y33:W.cell? ⟨kB,33,none⟩=some (.int .i64 n):=by rw[hn.out];exact ae W kB 33 _ 110 _ XB
 have y32:W.cell? ⟨kB,32,none⟩=some (.int .i64 x.first):=ae W kB 32 _ 110 _ XB;go_upto_region 2 with(fail);clear y33 y32 q0;refine bR 2 3 5 (λw'=>w'.heap[kB]? = some (.cells (bE x) 110 (0,0))) _ rfl (by kernel_rfl) (by kernel_rfl) (by decide) (by kernel_rfl) ?_;simp only[List.take_succ_cons,List.take_zero];refine Zf ?_;refine bm rfl (by kernel_rfl) _ (λw' h'=>fF 110 (.tmp 1) rfl _ rfl _ _ (0,0) _ h' Tryz.underlying110 rfl (by rw[bd];kernel_rfl)) (Zj ?_);refine gJ ?_;show dU _ _ _ _ _ _ _ _ _ _;have q0:Below W.heap.size W W.drew:=Below.drew (ak _ _);refine ZM 2 (λv1 r1=>⟨λ_=>have q0':=q0.trans (r1.mono q0.size);keep XB q0',?_⟩);replace q0:=q0.trans (r1.mono q0.size);replace XB:=keep XB q0;replace XE:=keep XE q0;replace XR:=keep XR q0

 replace hal:=hal.trans (q0.mono hal.size);clear q0 r1;refine bZ rfl rfl 107 (.tmp 2) (.tmp 9) rfl kE #[.int .i64 0,.int .u32 0] rfl rfl 107 _ XE (by kernel_rfl) rfl (by simp[Value.oneCell']) (λv2 p1 p2 p3=>?_);have XE2:=p1;replace XB:=(p2 kB hBE).trans XB;replace XR:=(p2 kR hRE).trans XR

 replace hal:=hal.trans (p3 _ hkE);clear p1 p2 p3 XE;refine ZM 3 (λv3 r3=>⟨λ_=>keep XB r3,?_⟩);replace XE2:=keep XE2 r3;replace XR:=keep XR r3;replace hal:=hal.trans (r3.mono hal.size);clear r3;refine bZ rfl rfl 110 (.tmp 3) (.tmp 10) rfl kR _ rfl rfl 110 _ XR (by rw[bd];kernel_rfl) rfl (jh _) (λv4 p1 p2 p3=>?_);have XR2:=p1;replace XE2:=(p2 kE hER).trans XE2;replace hal:=hal.trans (p3 _ hkR);clear p1 p2 p3 XR;refine ZM 4 (λv5 r5=>⟨(λe=>absurd (show true=false from e) (by decide)),?_⟩);replace XE2:=keep XE2 r5;replace XR2:=keep XR2 r5;replace hal:=hal.trans (r5.mono hal.size);clear r5;refine aR rfl rfl (.bool false) (by go_simp) ?_;refine bl (by kernel_rfl) (by kernel_rfl) (λv6 r6=>?_);replace XE2:=keep XE2 r6;replace XR2:=keep XR2 r6;replace hal:=hal.trans (r6.mono hal.size);clear r6;go_wp2;refine zZ rfl rfl rfl rfl XE2 rfl XR2 rfl ?_;exact⟨rfl,hal⟩
theorem C2(x:Bf)(h:lD x)(h0:0<x.n)(w:World):Calls Tryz.prog 82 #[.agg (bE x)] w λe w'=>e=.returned (.tuple #[.agg #[.int .i64 (x.ra x.first.toNat),.int .u32 (x.rv x.first.toNat)],.agg (bE (eD x)),.bool true])/\Below w.heap.size w w':=by
 have hf0:=h.f0;have hf1:=h.f1;have hn1:=h.n1;have hr1:=h.r1;obtain⟨j,hj⟩:∃j:Nat,Hid ((j:Int)=x.first):=⟨x.first.toNat,by simp only[Hid];omega⟩
 have hj16:j<16:=by have:=hj.out;omega
 have hjn:x.first.toNat=j:=by have:=hj.out;omega
 have hj0:(0:Int)<=j:=by omega
 have hj17:¬(16:Int)<=j:=by omega
 obtain⟨Z,hZ⟩:=Zh (eD x);rw[<-hZ.out,hjn]
 have hZ':Hid (Z={ x with ra:=λi=>if i=j then 0 else x.ra i,rv:=λi=>if i=j then 0 else x.rv i,first:=dN x 1,n:=x.n - 1 }):=by
  have:=hZ.out;unfold eD at this;rw[hjn]at this;exact this
 clear hZ hjn
 have q0:(x.n == 0)=false:=by
  have:x.n≠0:=by omega
  simp[this]
 go_enter Tryz.func82,Tryz.ntmps82;go_upto_region 1 with(fail);obtain⟨W,kB,kE,kR,e0,e1,e2,e3,XB,XE,XR,hal⟩:=Bw w (bE x) #[.int .i64 0,.int .u32 0] #[.int .i64 0,.int .u32 0,.int .i64 0,.int .u32 0,.int .i64 0,.int .u32 0,.int .i64 0,.int .u32 0,.int .i64 0,.int .u32 0,.int .i64 0,.int .u32 0,.int .i64 0,.int .u32 0,.int .i64 0,.int .u32 0,.int .i64 0,.int .u32 0,.int .i64 0,.int .u32 0,.int .i64 0,.int .u32 0,.int .i64 0,.int .u32 0,.int .i64 0,.int .u32 0,.int .i64 0,.int .u32 0,.int .i64 0,.int .u32 0,.int .i64 0,.int .u32 0,.int .i64 0,.int .i64 0,.int .i64 0] 110 107 110;rw[e0,e3,e2,e1];have hkB:w.heap.size<=kB:=aD e1
 have hkE:w.heap.size<=kE:=by omega
 have hkR:w.heap.size<=kR:=by omega
 have hBE:kB≠kE:=by omega
 have hRE:kR≠kE:=by omega
 have hER:kE≠kR:=by omega
 have hRB:kR≠kB:=by omega
 clear e0 e1 e2 e3;have y33:W.cell? ⟨kB,33,none⟩=some (.int .i64 x.n):=ae W kB 33 _ 110 _ XB
 have y32:W.cell? ⟨kB,32,none⟩=some (.int .i64 j):=by rw[hj.out];exact ae W kB 32 _ 110 _ XB
 go_upto_region 3 with(fail);refine ab ?_
 iterate 3 refine Zv ?_
 refine aG rfl (.pointer (some ⟨kB,j * 2,none⟩)) ?_ ?_
 ·go_simp
 refine Zk ?_;refine Zm 107 #[.int .i64 (x.ra j),.int .u32 (x.rv j)] (ww XB hj16) Tryz.underlying107 ?_;refine Za 107 #[.int .i64 0,.int .u32 0] (λw4 kS XS l6 f6=>?_);refine Zo 107 kS #[.int .i64 (x.ra j),.int .u32 (x.rv j)] XS (λw5 g1 g2 g3 g4=>?_);have hb5:Below W.heap.size W w5:=l6.trans (g3 _ (by simp only[Hid]at f6;omega))
 have hsS:W.heap.size<=kS:=by simp only[Hid]at f6;omega
 have hSE:kS≠kE:=by have:=aB XE;omega
 have hSB:kS≠kB:=by have:=aB XB;omega
 clear XS l6 f6 g2 g3 g4;have XS:=g1;clear g1 y33 y32 q0;replace XB:=keep XB hb5;replace XE:=keep XE hb5;replace XR:=keep XR hb5;replace hal:=hal.trans (hb5.mono hal.size);clear hb5 hsS
 have y32:w5.cell? ⟨kB,32,none⟩=some (.int .i64 j):=by rw[hj.out];exact ae w5 kB 32 _ 110 _ XB
 go_upto_region 4 with(fail);refine ab ?_
 iterate 4 refine Zv ?_
 refine aG rfl (.pointer (some ⟨kB,j * 2,none⟩)) ?_ ?_
 ·go_simp
 refine Zk ?_;refine wA rfl 107 (by kernel_rfl) (.tmp 20) (.tmp 18) rfl kB x 0 0 hj16 rfl rfl XB (λw6 p1 p2 p3=>?_);refine Zk ?_;replace XE:=(p2 kE (λe=>hBE e.symm)).trans XE;replace XR:=(p2 kR hRB).trans XR;replace XS:=(p2 kS hSB).trans XS;replace hal:=hal.trans (p3 _ hkB);clear p2 p3 XB y32;obtain⟨x1,hx1⟩:∃q:Bf,Hid (q={ x with ra:=λi=>if i=j then 0 else x.ra i,rv:=λi=>if i=j then 0 else x.rv i }):=⟨_,rfl⟩;rw[<-hx1.out]at p1
 have hk1:lD x1:=by rw[hx1.out];exact⟨h.f0,h.f1,h.n0,h.n1,h.r1⟩
 have hat:=λw'=>yQ x1 1 hk1 (by decide) (by decide) w'
 rw[show dN x1 1=dN x 1 by rw[hx1.out];rfl]at hat
 obtain⟨f,hf⟩:=Zh (dN x 1);rw[<-hf.out]at hat hZ';go_upto_region 5 with(fail);refine ab ?_;refine mG rfl 110 (.tmp 1) rfl kB rfl 110 _ (0,0) _ p1 Tryz.underlying110 rfl (by rw[bd];kernel_rfl) ?_;refine Zk ?_;refine Zc 112 #[.agg (bE x1),.int .i64 1] (.int .i64 f) (hat w6) (λw7 hb7=>?_);refine Zv ?_;have XB:=keep p1 hb7;replace XE:=keep XE hb7;replace XR:=keep XR hb7;replace XS:=keep XS hb7;replace hal:=hal.trans (hb7.mono hal.size)
 clear p1 hb7 hat
 refine Zw 3 32 (.int .i64 f) (dw f) XB (by rw[bd];omega) (λw8 p1 p2 p3=>?_);replace XE:=(p2 kE (λe=>hBE e.symm)).trans XE;replace XR:=(p2 kR hRB).trans XR;replace XS:=(p2 kS hSB).trans XS;replace hal:=hal.trans (p3 _ hkB);clear p2 p3 XB;obtain⟨x2,hx2⟩:∃q:Bf,Hid (q={ x1 with first:=f }):=⟨_,rfl⟩
 have XB:w8.heap[kB]? = some (.cells (bE x2) 110 (0,0)):=by rw[hx2.out];exact p1
 have y33:w8.cell? ⟨kB,33,none⟩=some (.int .i64 x.n):=by rw[show x.n=x2.n by rw[hx2.out,hx1.out]];exact ae w8 kB 33 _ 110 _ XB
 clear p1;go_upto_region 6 with(fail);refine ab ?_
 iterate 2 refine Zv ?_
 refine aG rfl (.int .i64 (x.n - 1)) ?_ ?_
 ·first|(go_simp;done)|(go_simp;simp only[IntKind.wrap_i64];omega)
 refine Zk ?_;refine Zv ?_;refine Zw 3 33 (.int .i64 (x.n - 1)) (dw (x.n - 1)) XB (by rw[bd];omega) (λW s1 s2 s3=>?_);replace XE:=(s2 kE (λe=>hBE e.symm)).trans XE;replace XR:=(s2 kR hRB).trans XR;replace XS:=(s2 kS hSB).trans XS;replace hal:=hal.trans (s3 _ hkB);clear s2 s3 XB y33
 have XB:W.heap[kB]? = some (.cells (bE Z) 110 (0,0)):=by rw[s1,hZ'.out,hx2.out,hx1.out];rfl
 clear s1 hx1 hx2 hZ' hk1;go_upto_region 7 with(fail);refine bR 2 3 5 (λw'=>w'.heap[kB]? = some (.cells (bE Z) 110 (0,0))/\w'.heap[kS]? = some (.cells #[.int .i64 (x.ra j),.int .u32 (x.rv j)] 107 (0,0))) _ rfl (by kernel_rfl) (by kernel_rfl) (by decide) (by kernel_rfl) ?_;simp only[List.take_succ_cons,List.take_zero];refine bm rfl (by kernel_rfl) _ (λw' h'=>fF 107 (.tmp 5) rfl _ rfl _ _ (0,0) _ h'.2 Tryz.underlying107 rfl (by kernel_rfl)) (Zj ?_);refine bm rfl (by kernel_rfl) _ (λw' h'=>fF 110 (.tmp 1) rfl _ rfl _ _ (0,0) _ h'.1 Tryz.underlying110 rfl (by rw[bd];kernel_rfl)) (Zj ?_);refine gJ ?_;show dU _ _ _ _ _ _ _ _ _ _;have q0:Below W.heap.size W W.drew:=Below.drew (ak _ _);refine ZM 2 (λv1 r1=>⟨λ_=>have q0':=q0.trans (r1.mono q0.size);⟨keep XB q0',keep XS q0'⟩,?_⟩);replace q0:=q0.trans (r1.mono q0.size);replace XB:=keep XB q0;replace XE:=keep XE q0;replace XR:=keep XR q0;replace XS:=keep XS q0;replace hal:=hal.trans (q0.mono hal.size);clear q0 r1;refine bZ rfl rfl 107 (.tmp 2) (.tmp 28) rfl kE #[.int .i64 (x.ra j),.int .u32 (x.rv j)] rfl rfl 107 _ XE (by kernel_rfl) rfl (by simp[Value.oneCell']) (λv2 p1 p2 p3=>?_);have XE2:=p1;replace XB:=(p2 kB hBE).trans XB;replace XR:=(p2 kR hRE).trans XR;replace XS:=(p2 kS hSE).trans XS;replace hal:=hal.trans (p3 _ hkE);clear p1 p2 p3 XE;refine ZM 3 (λv3 r3=>⟨λ_=>⟨keep XB r3,keep XS r3⟩,?_⟩)
 replace XE2:=keep XE2 r3;replace XR:=keep XR r3;replace hal:=hal.trans (r3.mono hal.size);clear r3;refine bZ rfl rfl 110 (.tmp 3) (.tmp 29) rfl kR _ rfl rfl 110 _ XR (by rw[bd];kernel_rfl) rfl (jh _) (λv4 p1 p2 p3=>?_);have XR2:=p1;replace XE2:=(p2 kE hER).trans XE2;replace hal:=hal.trans (p3 _ hkR);clear p1 p2 p3 XR;refine ZM 4 (λv5 r5=>⟨(λe=>absurd (show true=false from e) (by decide)),?_⟩);replace XE2:=keep XE2 r5;replace XR2:=keep XR2 r5;replace hal:=hal.trans (r5.mono hal.size);clear r5;refine aR rfl rfl (.bool true) (by go_simp) ?_;refine bl (by kernel_rfl) (by kernel_rfl) (λv6 r6=>?_);replace XE2:=keep XE2 r6;replace XR2:=keep XR2 r6;replace hal:=hal.trans (r6.mono hal.size);clear r6;go_wp2;refine zZ rfl rfl rfl rfl XE2 rfl XR2 rfl ?_;exact⟨rfl,hal⟩
end Go.Proofs.YtldlcnaphednnaaGreatDoor
