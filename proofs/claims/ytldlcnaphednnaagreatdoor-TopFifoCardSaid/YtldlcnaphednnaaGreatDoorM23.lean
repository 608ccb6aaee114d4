/- Who sleeps: the kernel's calls. Sleepers are taken away: the library's Delete, Rouse. -/
import Derived.Test.YtldlcnaphednnaaGreatDoorM22
set_option maxRecDepth 100000
set_option maxHeartbeats 32000000
set_option linter.unusedVariables false
set_option linter.unusedSimpArgs false
namespace Go.Proofs.YtldlcnaphednnaaGreatDoor
open Go.RowKit Go.Maps
def Ao(x:Slp):Array Value:=#[.int .i64 x.who,.int .i64 x.addr]
def vg(x:Slp):Value:=.agg (Ao x)
theorem FX(x:Slp)(who:Int)(kW:Nat)(w:World)(hW:w.heap[kW]? = some (.cells #[.int .i64 who] 3 (0,0))):Calls Tryz.prog 114 #[vg x,.pointer (some ⟨kW,0,none⟩)] w λe w'=>e=.returned (.bool (x.who == who))/\Below w.heap.size w w':=by
 unfold vg Ao;go_enter Tryz.func114,Tryz.ntmps114;go_upto_region 1 with(fail);obtain⟨W,kB,e0,e1,XB,hal⟩:=aO w #[.int .i64 x.who,.int .i64 x.addr] 182;rw[e0,e1];clear e0 e1;have y0:=ae W kB 0 _ 182 _ XB;have y1:=ae W kW 0 _ 3 _ (keep hW hal);go_wp2;go_ret;exact⟨rfl,hal⟩
theorem Gn(g:FuncId)(cap:Array Value)(hce:∀args w,(callFunc g args).run Tryz.prog w=.ok (.enter g args) w)(I:World->Prop)(J:Slp->World->Prop)(p:Slp->Bool)(V:Option Addr)(L:List Slp)(c:Nat)(hL:L.length<=100000)
  (hrow:∀w,I w->0<L.length->∃b off,V=some ⟨b,off,none⟩/\RowAt eS w b off L)
  (hcall:∀w x,x∈L->I w->Calls Tryz.prog g (#[vg x]++cap) w λe w'=>e=.returned (.bool (p x))/\if p x=true then J x w' else I w')
  (w:World) (hI:I w):Calls Tryz.prog 113 #[.slice V L.length c,.func (.func g) #[] cap] w λe w'=>(e=.returned (.int .i64 (-1))/\(∀x∈L,p x=false)/\I w')\/∃(k:Nat)(x:Slp),L[k]? = some x/\e=.returned (.int .i64 k)/\(∀j y,j<k->L[j]? = some y->p y=false)/\p x=true/\J x w':=by
 go_enter Tryz.func113,Tryz.ntmps113;go_upto_region 2 with(fail);go_loopw [8] (λv wr=>∃i:Nat,v=.int .i64 i/\i<=L.length/\(∀j y,j<i->L[j]? = some y->p y=false)/\I wr) (λv _=>L.length - (intOf v).toNat)
 case atStart=>exact⟨0,rfl,au _,λj y hj=>absurd hj (Nat.not_lt_zero _),hI⟩
 case round=>
  clear hI;obtain⟨i,rfl,hi,hpre,hI⟩:=hrel
  by_cases hlt:i<L.length
  case neg=>
   obtain rfl:i=L.length:=by omega
   have hl1:¬((L.length:Int)<L.length):=by omega
   clear hrow hcall;go_wp2;go_ret;refine .inl ⟨rfl,λx hx=>?_,hI⟩;obtain⟨j,hj⟩:=List.getElem?_of_mem hx;exact hpre j x (aj.1 hj).1 hj
  have hl0:(0:Int)<=i:=by omega
  have hl1:(i:Int)<L.length:=by omega
  obtain⟨x,hx⟩:∃x,L[i]? = some x:=⟨L[i],aq hlt⟩;obtain⟨b,off,rfl,hR⟩:=hrow wr hI (by omega);have hxr:wr.rangeAt b (off+i * 2) [.int .i64 x.who,.int .i64 x.addr]:=RowAt.elem (E:=eS) ja hR hx;have hc:=hcall wr x (aC hx) hI;obtain⟨pb,hpb⟩:=Zh (p x);rw[<-hpb.out]at hc;unfold vg Ao at hc;clear hcall hrow hR;go_upto_region 4 with(fail);refine ab ?_
  iterate 3 refine Zv ?_
  refine aG rfl (.pointer (some ⟨b,off+i * 2,none⟩)) ?_ ?_
  ·go_simp
  refine Zk ?_;refine Zm 182 #[.int .i64 x.who,.int .i64 x.addr] hxr Tryz.underlying182 ?_;have hc':Calls Tryz.prog g (#[.agg #[.int .i64 x.who,.int .i64 x.addr]]++cap) wr (λe w'=>e=.returned (.bool pb)/\(if pb=true then J x w' else I w')):=hc;refine rJ rfl g (#[.agg #[.int .i64 x.who,.int .i64 x.addr]]++cap) (.bool pb) (λw'=>if pb=true then J x w' else I w') ?_ ?_ ?_
  ·clear hc hc'
   go_simp
  ·exact hc'
  intro w1 hv;clear hc hc';refine Zk ?_;cases pb
  ·have hI1:I w1:=by simpa using hv
   have hpre':∀j y,j<i+1->L[j]? = some y->p y=false:=λj y hj hy=>by
    by_cases hji:j<i
    ·exact hpre j y hji hy
    ·obtain rfl:j=i:=by omega
     rw[hx]at hy;cases hy;exact hpb.out.symm
   clear hv hpre hpb hI hxr hce;go_wp2;go_roundw
   case rel=>exact⟨i+1,by go_num,by omega,hpre',hI1⟩
   case measure=>simp[intOf];omega
  ·have hJ1:J x w1:=by simpa using hv
   clear hv hI hxr hce;go_wp2;go_ret;exact .inr ⟨i,x,hx,rfl,hpre,hpb.out.symm,hJ1⟩
def nQ(p:Slp->Bool):List Slp->Option Nat
 | []=>none
 | x :: l=>if p x=true then some 0 else(nQ p l).map (·+1)
theorem qm{p:Slp->Bool}:∀{l:List Slp},(∀x∈l,p x=false)->nQ p l=none
 | [],_=>rfl
 | x :: l,h=>by
  unfold nQ;rw[af (by rw[h x (List.mem_cons_self ..)];exact Bool.false_ne_true),qm (λy hy=>h y (List.mem_cons_of_mem _ hy))];rfl
theorem qS{p:Slp->Bool}:∀{l:List Slp} {k:Nat} {x:Slp},l[k]? = some x->(∀j y,j<k->l[j]? = some y->p y=false)->p x=true->nQ p l=some k
 | [],k,x,h,_,_=>by simp at h
 | y :: l,0,x,h,_,hx=>by
  simp at h;subst h;unfold nQ;rw[ag hx]
 | y :: l,k+1,x,h,hp,hx=>by
  unfold nQ;rw[af (by rw[hp 0 y (by omega) rfl];exact Bool.false_ne_true),qS (k:=k) (by simpa using h) (λj z hj hz=>hp (j+1) z (by omega) (by simpa using hz)) hx];rfl
theorem oK{p:Slp->Bool}:∀{l:List Slp} {k:Nat},nQ p l=some k->∃x,l[k]? = some x/\p x=true
 | [],k,h=>by cases h
 | y :: l,k,h=>by
  unfold nQ at h
  split at h
  ·cases h;exact⟨y,rfl,‹_›⟩
  ·cases e:nQ p l with
   | none=>rw[e]at h;cases h
   | some q=>
    rw[e]at h;cases h;obtain⟨x,h1,h2⟩:=oK e;exact⟨x,by simpa using h1,h2⟩
def zL(who:Int):Slp->Bool:=λx=>x.who == who
def mh(l:List Slp)(who:Int):Int:=match nQ (zL who) l with
 | some k=>k
 | none=>-1
theorem Ed(args:Array Value)(w:World):(callFunc 114 args).run Tryz.prog w=.ok (.enter 114 args) w:=by kernel_rfl
theorem td{b:Nat}{F:Nat->Prop}{M:Mac}(who:Int){w:World}(hM:MMem w b F M)(hs:M.slp.length<=100000):Calls Tryz.prog 83 #[.pointer (some ⟨b,4,none⟩),.int .i64 who] w λe w'=>e=.returned (.int .i64 (mh M.slp who))/\Below w.heap.size w w':=by
 obtain⟨V,vs,hM⟩:=hM;obtain⟨Vc,Vt,Vf,Vm,Vk,Ve⟩:=V;have hk0:Own eS w Vk M.slp:=hM.rk;obtain⟨pk,ck,rfl⟩:=hk0.form2;obtain⟨R,hR⟩:=Zh (mh M.slp who);rw[<-hR.out];go_enter Tryz.func83,Tryz.ntmps83;go_upto_region 1 with(fail);obtain⟨W,kW,e0,e1,XW,hal⟩:=aO w #[.int .i64 who] 3;rw[e0,e1];clear e0 e1;have y4:W.cell? ⟨b,4,none⟩=some (.slice pk M.slp.length ck):=ae W b 4 _ 105 _ (keep hM.blk hal)
 have hix:=Gn 114 #[.pointer (some ⟨kW,0,none⟩)] Ed (λw'=>Below W.heap.size W w') (λ_ w'=>Below W.heap.size W w') (zL who) pk M.slp ck hs (λw' h' hl=>by
   rcases(hk0.below hal).form with⟨_,e⟩|⟨g,c,e,_⟩
   ·rw[e]at hl;exact absurd hl (Nat.lt_irrefl 0)
   ·simp only[Value.slice.injEq]at e
    obtain⟨rfl,_,rfl⟩:=e
    exact⟨g,0,rfl,(((hk0.below hal).at ja).below h' ((hk0.below hal).lt rfl))⟩) (λw' x _ h'=>by
   refine(FX x who kW w' (keep XW h')).mono ?_;rintro e w'' ⟨rfl,hb⟩;refine⟨rfl,?_⟩;have:=h'.trans (hb.mono h'.size)
   split<;>exact this) W (ak _ _)
 refine ab ?_
 iterate 5 refine Zv ?_
 refine aP rfl 113 #[.slice pk M.slp.length ck,.func (.func 114) #[] #[.pointer (some ⟨kW,0,none⟩)]] (λv w'=>v=.int .i64 R/\Below W.heap.size W w') ?_ ?_ ?_
 ·first|(go_simp;done)|(go_simp;rfl)
 ·refine hix.mono ?_
  rintro e w' (⟨rfl,h1,h2⟩|⟨k,x,h1,rfl,h2,h3,h4⟩)
  ·exact⟨_,rfl,by rw[hR.out];unfold mh;rw[qm h1],h2⟩
  ·exact⟨_,rfl,by rw[hR.out];unfold mh;rw[qS h1 h2 h3],h4⟩
 rintro v w1 ⟨rfl,hb1⟩;clear hix y4;refine Zk ?_;refine Zv ?_;go_wp2;go_ret;exact⟨rfl,hal.trans (hb1.mono hal.size)⟩
theorem uE{b:Nat}{F:Nat->Prop}{M:Mac}(who:Int){w:World}(hM:MMem w b F M)(hs:M.slp.length<=100000):Calls Tryz.prog 203 #[.pointer (some ⟨b,4,none⟩),.int .i64 who] w λe w'=>∃v,e=.returned v/\(∃a:Int,v=.tuple #[.int .i64 a,.bool (decide (0<=mh M.slp who))])/\Below w.heap.size w w':=by
 have hf:=λw' (h:Below w.heap.size w w')=>td who (hM.below h) hs;obtain⟨R,hR⟩:=Zh (mh M.slp who);rw[<-hR.out]at hf ⊢
 have hfl:0<=R->∃k x,R=((k:Nat):Int)/\M.slp[k]? = some x:=λh=>by
  have e:=hR.out;unfold mh at e
  cases h1:nQ (zL who) M.slp with
  | none=>rw[h1]at e;simp only at e;omega
  | some k=>
   rw[h1]at e;obtain⟨x,h2,_⟩:=oK h1;exact⟨k,x,e,h2⟩
 obtain⟨V,vs,hM⟩:=hM;obtain⟨Vc,Vt,Vf,Vm,Vk,Ve⟩:=V;have hk0:Own eS w Vk M.slp:=hM.rk;obtain⟨pk,ck,rfl⟩:=hk0.form2;clear hR
 by_cases h0:0<=R
 ·rw[ay h0]
  obtain⟨k,x,rfl,hx⟩:=hfl h0;have hkl:k<M.slp.length:=(aj.1 hx).1
  obtain⟨g,rfl⟩:∃g,pk=some ⟨g,0,none⟩:=by
   rcases hk0.form with⟨_,e⟩|⟨g,c,e,_⟩
   ·rw[e]at hkl;exact absurd hkl (Nat.not_lt_zero _)
   ·simp only[Value.slice.injEq]at e;exact⟨g,e.1⟩
  clear hfl
  have f0:¬((k:Int)<0):=by omega
  have f1:(0:Int)<=k:=by omega
  have f2:(k:Int)<M.slp.length:=by omega
  go_enter Tryz.func203,Tryz.ntmps203;go_wp2_with fail;refine(hf w (ak _ _)).mono ?_;rintro e w1 ⟨rfl,hb1⟩;have y4:w1.cell? ⟨b,4,none⟩=some (.slice (some ⟨g,0,none⟩) M.slp.length ck):=ae w1 b 4 _ 105 _ (keep hM.blk hb1)
  have y5:w1.cell? ⟨g,k * 2+1,none⟩=some (.int .i64 x.addr):=by
   have:=((hk0.below hb1).at ja).elem ja hx 1 _ rfl
   simpa[eS] using this
  clear hf;go_wp2;go_ret2;exact⟨_,rfl,⟨_,rfl⟩,hb1⟩
 ·rw[az h0]
  have f0:R<0:=by omega
  clear hfl h0;go_enter Tryz.func203,Tryz.ntmps203;go_wp2_with fail;refine(hf w (ak _ _)).mono ?_;rintro e w1 ⟨rfl,hb1⟩;clear hf;go_wp2;go_ret2;exact⟨_,rfl,⟨_,rfl⟩,hb1⟩
section
variable {ops:Array Oper} {Q:Exit->Act->World->Prop}
theorem dJ{P:Program}{rest:List Oper}{o:Oper}{a:Act}{w w':World}(hgd:o.guard=none)(v:Value)(h:(execOp a.eval o).run P w=.ok (.value v) w')(hK:∀K:Act->World->Prop,(∀a w,wpList P ops Q rest a w->K a w)->K (a.put o.dst v) w'):wpList P ops Q (o :: rest) a w:=by
 refine wpList_plain hgd λK hK'=>?_
 unfold Oper.wp;rw[h];exact hK K hK'
end
theorem gK(p':Option Addr)(n c:Nat)(w:World)(p:Addr)(u:Value)(hc:w.cell? p=some u)(hf:w.frozen? p=false):(store p (.slice p' n c)).run Tryz.prog w=.ok () (w.setCell p (.slice p' n c)):=by simp[go_sem,stored,hc,hf]
theorem EG:(Tryz.prog.info? eS.ty).map (λi=>(i.zero.map (·.cells.size),i.size,i.bytes))=some (some eS.sz,eS.sz,16):=by kernel_rfl
def ly(l:List Slp)(who addr:Int):List Slp:=if 0<=mh l who then l else l++[⟨who,addr⟩]
theorem yh{b:Nat}{F:Nat->Prop}{M:Mac}(who addr:Int)(hw:0<=who/\who<8){w:World}(hM:MMem w b F M)(hs:M.slp.length<=90000):Calls Tryz.prog 170 #[.pointer (some ⟨b,4,none⟩),.int .i64 who,.int .i64 addr] w λe w'=>∃v,e=.returned v/\∃F',MMem w' b F' { M with slp:=ly M.slp who addr }/\Upd F F' w w':=by
 obtain⟨hw0,hw1⟩:=hw
 have f0:¬who<0:=by omega
 have f1:¬(8:Int)<=who:=by omega
 have ha:=uE who hM (by omega)
 by_cases h0:0<=mh M.slp who
 ·rw[ay h0]at ha
  unfold ly;rw[ag h0];go_enter Tryz.func170,Tryz.ntmps170;go_wp2_with fail;refine ha.mono ?_;rintro e w1 ⟨v,rfl,⟨a,rfl⟩,hb1⟩;clear ha h0;go_wp2;go_ret;exact⟨_,rfl,F,hM.below hb1,Upd.of_below hb1⟩
 ·rw[az h0]at ha
  unfold ly;rw[af h0];go_enter Tryz.func170,Tryz.ntmps170;go_wp2_with fail;refine ha.mono ?_;rintro e w1 ⟨v,rfl,⟨a,rfl⟩,hb1⟩;clear ha h0;obtain⟨V,vs,hM⟩:=hM;obtain⟨Vc,Vt,Vf,Vm,Vk,Ve⟩:=V;have hk0:Own eS w Vk M.slp:=hM.rk;obtain⟨pk,ck,rfl⟩:=hk0.form2;have hM1:=hM.below hb1;have hk1:=hk0.below hb1;have y4:w1.cell? ⟨b,4,none⟩=some (.slice pk M.slp.length ck):=ae w1 b 4 _ 105 _ hM1.blk;go_upto_region 6 with(fail);refine ab ?_
  iterate 8 refine Zv ?_
  refine dJ rfl (.slice (some ⟨w1.heap.size,0,none⟩) 1 1) (w':=w1.alloc (.cells #[.int .i64 who,.int .i64 addr] 182)) (by first|kernel_rfl|go_simp) ?_
  obtain⟨w2,bN,e8,eg,BN,hb2⟩:=aO w1 #[.int .i64 who,.int .i64 addr] 182;rw[e8,eg];clear e8 eg y4;refine Zk ?_;have hk2:=hk1.below hb2
  refine i5 ja rfl 101 Tryz.underlying101 16 EG (.tmp 26) (.tmp 30) rfl _ M.slp [⟨who,addr⟩] rfl hk2 bN 0 1 rfl (cG BN _ rfl) (by simp<;>omega) (by decide) (λvc' v4 hO4 hg4 hl4=>?_)
  refine Zk ?_;have Xb:=fD hk2 (keep hM1.blk hb2) (by decide) hg4;obtain⟨p,c4,rfl⟩:=hO4.form2;generalize hn4:(M.slp++[(⟨who,addr⟩:Slp)]).length=n4 at *
  iterate 2 refine Zv ?_
  refine Zw 101 4 (.slice p n4 c4) (gK p n4 c4) Xb (by show 4<6;decide) (λv8 p1 p2 p3=>?_);have hA:j7 eS w v8 b 4 105 (iE ⟨Vc,Vt,Vf,Vm,.slice pk M.slp.length ck,Ve⟩) (.slice pk M.slp.length ck) (.slice p n4 c4) (M.slp++[⟨who,addr⟩]):=io (hb1.trans (hb2.mono hb1.size)) hg4 hl4 hO4 Xb (by decide) (ak _ _) p1 p2 p3 (ak _ _);obtain⟨F',hM',hU⟩:=hM.app_k hA;clear hA hO4 hg4 hl4 Xb p1 p2 p3 hk2 BN hb2 hM1 hk1 hb1 hn4;go_wp2;go_ret;exact⟨⟨_,rfl⟩,F',⟨_,_,hM'⟩,hU⟩
section
variable {α:Type} {E:Enc α} {P:Program}
theorem i7{w:World}{g n c:Nat}{l:List α}(h:Own E w (.slice (some ⟨g,0,none⟩) n c) l):∃cur,w.heap[g]? = some (.cells cur E.ty (0,0))/\cur.size=c * E.sz/\cur.toList.take (l.length * E.sz)=l.flatMap E.enc/\l.length<=c/\c<=maxLen/\n=l.length:=by
 rcases h.2 with⟨h',_⟩|⟨g',cap,cur',h',hb,h4,h5,h6,h7,h8⟩
 ·simp at h'
 ·simp only[Value.slice.injEq,Option.some.injEq,Addr.mk.injEq,and_true,true_and]at h'
  obtain⟨rfl,rfl,rfl⟩:=h';exact⟨cur',h4,h7,h8,h5,h6,rfl⟩
theorem ux(hE:E.Ok){w:World}{g c:Nat}{l:List α}{cur:Array Value}(h:w.heap[g]? = some (.cells cur E.ty (0,0)))(hs:cur.size=c * E.sz)(ht:cur.toList.take (l.length * E.sz)=l.flatMap E.enc)(hc:l.length<=c)(hm:c<=maxLen):Own E w (.slice (some ⟨g,0,none⟩) l.length c) l:=
 ⟨fU hE l,.inr ⟨g,c,cur,rfl,au _,h,hc,hm,hs,ht⟩⟩
theorem nB(hE:E.Ok):∀(l:List α)(k:Nat),(l.flatMap E.enc).take (k * E.sz)=(l.take k).flatMap E.enc
 | [],k=>by simp
 | x :: l,0=>by simp
 | x :: l,k+1=>by
  rw[List.flatMap_cons,List.take_succ_cons,List.flatMap_cons,<-nB hE l k,show(k+1) * E.sz=(E.enc x).length+k * E.sz by rw[Nat.add_mul,hE.len];omega,List.take_length_add_append]
theorem qu(hE:E.Ok):∀(l:List α)(k:Nat),(l.flatMap E.enc).drop (k * E.sz)=(l.drop k).flatMap E.enc
 | [],k=>by simp
 | x :: l,0=>by simp
 | x :: l,k+1=>by
  rw[List.flatMap_cons,List.drop_succ_cons,<-qu hE l k,show(k+1) * E.sz=(E.enc x).length+k * E.sz by rw[Nat.add_mul,hE.len];omega,List.drop_length_add_append]
theorem RowAt.drop(hE:E.Ok){w:World}{b off:Nat}{l:List α}(h:RowAt E w b off l)(k:Nat):RowAt E w b (off+k * E.sz) (l.drop k):=λj v hv=>by
 rw[<-qu hE,List.getElem?_drop]at hv;rw[Nat.add_assoc];exact h (k * E.sz+j) v hv
theorem wF(hE:E.Ok){w:World}{g n c:Nat}{l:List α}(h:Own E w (.slice (some ⟨g,0,none⟩) n c) l)(k:Nat)(hk:k<=l.length):Own E w (.slice (some ⟨g,0,none⟩) k c) (l.take k):=by
 obtain⟨cur,h1,h2,h3,h4,h5,_⟩:=i7 h
 have e:(l.take k).length=k:=by rw[List.length_take];omega
 have:=ux hE (l:=l.take k) h1 h2 (by
  rw[e,<-nB hE,<-h3,List.take_take,Nat.min_eq_left (Nat.mul_le_mul_right _ hk)]) (by omega) h5
 rwa [e]at this
theorem tA(hE:E.Ok){w:World}(t:TypeId)(ht:P.underlying t=some (.slice E.ty))(hinf:(P.info? E.ty).map (·.size)=some E.sz){g n c k:Nat}{l L:List α}(h:Own E w (.slice (some ⟨g,0,none⟩) n c) l)(hk:k<=l.length)(b off c2:Nat)(hR:RowAt E w b off L)(hroom:k+L.length<=c):
  ∃w',(∀ty,(Builtin.append_ #[t,t] ty #[.slice (some ⟨g,0,none⟩) k c,.slice (some ⟨b,off,none⟩) L.length c2]).run P w=.ok (.slice (some ⟨g,0,none⟩) (k+L.length) c) w')/\Own E w' (.slice (some ⟨g,0,none⟩) (k+L.length) c) (l.take k++L)/\(∀j,j≠g->w'.heap[j]? = w.heap[j]?)/\(∀B,B<=g->Below B w w'):=by
 obtain⟨cur,h1,h2,h3,h4,h5,_⟩:=i7 h
 cases hq:P.info? E.ty with
 | none=>simp[hq]at hinf
 | some i=>
  have hs:i.size=E.sz:=by simpa[hq] using hinf
  have hfl:=fU hE L
  have hkc:k * E.sz+L.length * E.sz<=cur.size:=by rw[h2,<-Nat.add_mul];exact Nat.mul_le_mul_right _ hroom
  have hr:=λty=>run_append_room (P:=P) w t ty E.ty i ht hq g k c cur h1 ⟨b,off,none⟩ L.length c2 (L.flatMap E.enc) (by rw[hs];exact hfl) (λj u hu=>by rw[bX];exact hR j u hu) (sJ hE L) hroom (by rw[hs,hfl];exact hkc);simp only[hs]at hr
  have e:(l.take k++L).length=k+L.length:=by rw[List.length_append,List.length_take];omega
  have htk:cur.toList.take (k * E.sz)=(l.take k).flatMap E.enc:=by
   rw[<-nB hE,<-h3,List.take_take,Nat.min_eq_left (Nat.mul_le_mul_right _ hk)]
  refine⟨_,hr,?_,λj hj=>setRow_other w g j _ hj,λB hB=>⟨rfl,rfl,rfl,by simp,λj hj=>setRow_other w g j _ (by omega)⟩⟩
  have:=ux hE (w:=w.setRow g (cur.toList.take (k * E.sz)++L.flatMap E.enc++cur.toList.drop (k * E.sz+(L.flatMap E.enc).length)).toArray) (l:=l.take k++L) (c:=c) (setRow_heap w g cur _ E.ty (0,0) h1) (by
   have hl:=Array.length_toList (xs:=cur)
   simp only[List.size_toArray,List.length_append,List.length_take,List.length_drop,hfl];omega) (by
   rw[e,List.flatMap_append,<-htk]
   have e2:(cur.toList.take (k * E.sz)).length=k * E.sz:=by rw[List.length_take,Array.length_toList];omega
   rw[List.take_left' (by rw[List.length_append,e2,hfl,Nat.add_mul])]) (by omega) h5
  rwa [e]at this
theorem pp(hE:E.Ok){w:World}(t:TypeId)(ht:P.underlying t=some (.slice E.ty))(z:Value)(hz:∀w,(zeroValue E.ty).run P w=.ok z w)(hz1:z.cells.size=E.sz)(hz2:∀u∈z.cells.toList,u.oneCell'=true){g n c:Nat}{l:List α}(h:Own E w (.slice (some ⟨g,0,none⟩) n c) l)(k m c2:Nat)(hk:l.length<=k)(hkm:k+m<=c):
  ∃w',(∀ty,(Builtin.clear_ #[t] ty #[.slice (some ⟨g,k * E.sz,none⟩) m c2]).run P w=.ok (.tuple #[]) w')/\Own E w' (.slice (some ⟨g,0,none⟩) n c) l/\(∀j,j≠g->w'.heap[j]? = w.heap[j]?)/\(∀B,B<=g->Below B w w'):=by
 obtain⟨cur,h1,h2,h3,h4,h5,e0⟩:=i7 h
 by_cases hm:m=0
 ·subst hm
  exact⟨w,λty=>by simp[Builtin.clear_,run_underlying ht],h,λj _=>rfl,λB _=>ak B w⟩
 ·obtain⟨m',rfl⟩:∃m',m=m'+1:=⟨m - 1,by omega⟩
  have hzl:(Builtin.zeroCells z.cells (m'+1)).toList.length=(m'+1) * E.sz:=by rw[Array.length_toList,size_zeroCells,hz1]
  have hz1':∀v∈(Builtin.zeroCells z.cells (m'+1)).toList,v.oneCell'=true:=λv hv=>by
   unfold Builtin.zeroCells at hv;simp only[Array.toList_map,List.mem_map]at hv;obtain⟨i,hi,rfl⟩:=hv
   have hp:0<z.cells.size:=by rw[hz1];exact hE.pos
   rw[getElem!_pos z.cells _ (Nat.mod_lt _ hp)];exact hz2 _ (by simp)
  have hkc:k * E.sz+(m'+1) * E.sz<=cur.size:=by rw[h2,<-Nat.add_mul];exact Nat.mul_le_mul_right _ hkm
  obtain⟨cur',k1,k2,k3,k4,k5⟩:=dQ g E.ty (Builtin.zeroCells z.cells (m'+1)).toList (k * E.sz) w cur h1 (by omega)
  have hst:=run_storeCells_cells (P:=P) g (k * E.sz) (Builtin.zeroCells z.cells (m'+1)).toList 0 w (λj hj=>by
   rw[ae w g _ cur E.ty _ h1,Array.getElem?_eq_getElem (by omega)];rfl) (λj hj=>frozen_of_row w g _ cur E.ty h1) hz1'
  simp only[Nat.add_zero]at hst;refine⟨_,λty=>by simp[Builtin.clear_,run_underlying ht,hz,hst],?_,k3,k4⟩;have hlk:l.length * E.sz<=k * E.sz:=Nat.mul_le_mul_right _ hk
  have:=ux hE (l:=l) (c:=c) k1 (by
   have hl:=Array.length_toList (xs:=cur)
   rw[<-Array.length_toList,k2,List.length_append,List.length_append,List.length_take,List.length_drop,hzl,hl,Nat.min_eq_left (by omega)];omega) (by
   rw[k2,List.append_assoc,List.take_append_of_le_length (by have hl:=Array.length_toList (xs:=cur);rw[List.length_take,hl];omega),List.take_take,Nat.min_eq_left hlk,h3]) h4 h5
  rw[e0];exact this
end
section
variable {P:Program} {ops:Array Oper} {Q:Exit->Act->World->Prop}
theorem Fp{i:Nat}{K:Act->World->Prop}{o:Oper}{a:Act}{w w':World}(hi:ops[i]? = some o)(hgd:o.guard=none)(t:TypeId)(s x:Operand)(ho:o.op=.call { callee:=.builtin .append,args:=#[s,x],argTypes:=#[t,t] })(vs vx v:Value)(hs:a.eval s=vs)(hx:a.eval x=vx)
  (h:∀ty,(Builtin.append_ #[t,t] ty #[vs,vx]).run P w=.ok v w') (hK:K (a.put o.dst v) w'):wpOp P ops Q i K a w:=by
 unfold wpOp;simp only[hi]
 have hw:Region.wanted o (yielded ops a.tmps)=true:=by simp[Region.wanted,hgd]
 rw[ag hw];refine .inl ?_;unfold Oper.wp execOp;simp only[ho,resolve,invoke,builtin,Sem.run_bind,Sem.run_pure,Result.andThen_ok,List.map_toArray,List.map_cons,List.map_nil,hs,hx,h];exact hK
theorem tP{rest:List Oper}{o:Oper}{a:Act}{w w':World}(hgd:o.guard=none)(t:TypeId)(x:Operand)(ho:o.op=.call { callee:=.builtin .clear,args:=#[x],argTypes:=#[t] })(vx:Value)(hx:a.eval x=vx)
  (h:∀ty,(Builtin.clear_ #[t] ty #[vx]).run P w=.ok (.tuple #[]) w') (hK:∀K:Act->World->Prop,(∀a w,wpList P ops Q rest a w->K a w)->K (a.put o.dst (.tuple #[])) w'):wpList P ops Q (o :: rest) a w:=by
 refine wpList_plain hgd λK hK'=>?_
 unfold Oper.wp execOp;simp only[ho,resolve,invoke,builtin,Sem.run_bind,Sem.run_pure,Result.andThen_ok,List.map_toArray,List.map_cons,List.map_nil,hx,h];exact hK K hK'
end
theorem Fm:(Tryz.prog.info? eS.ty).map (·.size)=some eS.sz:=by kernel_rfl
theorem vn(w:World):(zeroValue eS.ty).run Tryz.prog w=.ok (.agg #[.int .i64 0,.int .i64 0]) w:=by kernel_rfl
theorem delC{g c i:Nat}{l:List Slp}(hi:i<l.length)(hl:l.length<=100000)(w:World)(hO:Own eS w (.slice (some ⟨g,0,none⟩) l.length c) l):Calls Tryz.prog 84 #[.slice (some ⟨g,0,none⟩) l.length c,.int .i64 i,.int .i64 ((i:Int)+1)] w λe w'=>e=.returned (.slice (some ⟨g,0,none⟩) (l.take i++l.drop (i+1)).length c)/\Own eS w' (.slice (some ⟨g,0,none⟩) (l.take i++l.drop (i+1)).length c) (l.take i++l.drop (i+1))/\(∀k,k<w.heap.size->k≠g->w'.heap[k]? = w.heap[k]?)/\(∀B,B<=g->B<=w.heap.size->Below B w w'):=by
 obtain⟨_,_,_,_,hlc,hcm,_⟩:=i7 hO;obtain⟨n,hn⟩:=Zh (l.length);obtain⟨m,hm⟩:=Zh ((l.take i++l.drop (i+1)).length)
 have hmn:m+1=n:=by rw[hm.out,hn.out,List.length_append,List.length_take,List.length_drop];omega
 rw[<-hm.out];have hO':=hO;rw[<-hn.out]at hi hl hlc hO ⊢
 have f0:(0:Int)<=i:=by omega
 have f1:(i:Int)<=i+1:=by omega
 have f2:(i:Int)+1<=n:=by omega
 have f3:(n:Int)<=c:=by omega
 have f5:(0:Int)<=(i:Int)+1:=by omega
 have f6:¬c<i:=by omega
 obtain⟨ob,hob⟩:∃ob,Hid ((if c=i+1 then(some ⟨g,0,none⟩:Option Addr) else some ⟨g,(i+1) * 2,none⟩)=some ⟨g,ob,none⟩):=by
  by_cases h:c=i+1
  ·exact⟨0,ag h⟩
  ·exact⟨(i+1) * 2,af h⟩
 have hR:RowAt eS w g ob (l.drop (i+1)):=by
  by_cases h:c=i+1
  ·have e:l.drop (i+1)=[]:=List.drop_eq_nil_of_le (by have:=hn.out;omega)
   rw[e];exact λj u hu=>by simp at hu
  ·have:=hob.out
   rw[af h]at this;cases this;have h2:=(hO'.at ja).drop ja (i+1)
   simpa[eS] using h2
 have hdl:(l.drop (i+1)).length=n - (i+1):=by rw[List.length_drop,<-hn.out]
 have f4:((i:Int) == (i:Int)+1)=false:=by
  have:¬((i:Int)=i+1):=by omega
  simp[this]
 go_enter Tryz.func84,Tryz.ntmps84;go_upto_region 5 with(fail);refine bR 6 6 8 (λw'=>Below w.heap.size w w') _ rfl (by kernel_rfl) (by kernel_rfl) (by decide) (by kernel_rfl) ?_;simp only[List.take_succ_cons,List.take_zero]
 iterate 2 refine Zf ?_
 refine jK rfl (.slice (some ⟨g,0,none⟩) i c) (λw'=>aE ?_) (λK hK=>?_)
 ·first|(go_simp;done)|(go_simp;rw[hob.out])
 go_simp;refine hK _ ?_;clear hK K
 iterate 2 refine Zf ?_
 refine jK rfl (.slice (some ⟨g,ob,none⟩) (n - (i+1)) (c - (i+1))) (λw'=>aE ?_) (λK hK=>?_)
 ·first|(go_simp;done)|(go_simp;rw[hob.out])
 go_simp;refine hK _ ?_;clear hK K;refine gJ ?_;show dU _ _ _ _ _ _ _ _ _ _;have q0:Below w.heap.size w w.drew:=Below.drew (ak _ _);refine ZM 6 (λw1 r1=>⟨λ_=>q0.trans (r1.mono q0.size),?_⟩);replace q0:=q0.trans (r1.mono q0.size);have hgl:=hO'.lt (g:=g) rfl;obtain⟨w2,hrun,hO2,hk2,hB2⟩:=tA ja (w:=w1) (P:=Tryz.prog) 101 Tryz.underlying101 Fm (hO'.below q0) (k:=i) (by have:=hn.out;omega) g ob (c - (i+1)) (hR.below q0 hgl) (by rw[hdl];omega);rw[hdl,show i+(n - (i+1))=m by omega]at hrun hO2;refine Fp rfl rfl 101 (.tmp 22) (.tmp 25) rfl _ _ (.slice (some ⟨g,0,none⟩) m c) rfl rfl hrun ?_;have hk2':∀k,k<w.heap.size->k≠g->w2.heap[k]? = w.heap[k]? := λk hk hne=>(hk2 k hne).trans (q0.block k hk);have hB2':∀B,B<=g->B<=w.heap.size->Below B w w2:=λB h1 h2=>(q0.mono h2).trans (hB2 B h1);clear hk2 hB2 hrun hR hO hO';refine ZM 7 (λw3 r3=>⟨(λe=>absurd (show true=false from e) (by decide)),?_⟩);refine aR rfl rfl (.slice (some ⟨g,0,none⟩) m c) (by go_simp) ?_;refine bl (by kernel_rfl) (by kernel_rfl) (λw4 r4=>?_);have hs2:=(hB2' 0 (au _) (au _)).size;have hb4:Below w2.heap.size w2 w4:=r3.trans (r4.mono r3.size);have hO4:=hO2.below hb4;have hk4:∀k,k<w.heap.size->k≠g->w4.heap[k]? = w.heap[k]? := λk hk hne=>(hb4.block k (by omega)).trans (hk2' k hk hne);have hB4:∀B,B<=g->B<=w.heap.size->Below B w w4:=λB h1 h2=>(hB2' B h1 h2).trans (hb4.mono (by omega))
 clear hO2 hk2' hB2' r3 r4 r1 q0 hb4
 have f7:(m:Int)<=n:=by omega
 have f8:(0:Int)<=m:=by omega
 obtain⟨w5,hrun,hO5,hk5,hB5⟩:=pp ja (P:=Tryz.prog) 101 Tryz.underlying101 (.agg #[.int .i64 0,.int .i64 0]) vn rfl (λu hu=>by
  have:u=.int .i64 0:=by simpa[Value.cells] using hu
  subst this;rfl) hO4 m (n - m) (c - m) (by rw[hm.out];exact ah _) (by omega)
 go_upto_region 6 with(fail);refine ab ?_
 iterate 4 refine Zv ?_
 by_cases hcm:c=m
 ·exfalso;omega
 refine aG rfl (.slice (some ⟨g,m * 2,none⟩) (n - m) (c - m)) ?_ ?_
 ·have f9:¬c<m:=by omega
  have f10:(n:Int)<=c:=f3
  first|(go_simp;done)|(go_simp;rw[af hcm])
 refine Zk ?_;refine tP rfl 101 (.tmp 31) rfl _ rfl hrun ?_;refine Zk ?_;have hB6:∀B,B<=g->B<=w.heap.size->Below B w w5:=λB h1 h2=>(hB4 B h1 h2).trans (hB5 B h1);have hk6:∀k,k<w.heap.size->k≠g->w5.heap[k]? = w.heap[k]? := λk hk hne=>(hk5 k hne).trans (hk4 k hk hne);clear hk4 hB4 hk5 hB5 hrun hO4;go_wp2;go_ret;exact⟨rfl,hO5,hk6,hB6⟩
def gp(l:List Slp)(who:Int):List Slp×Bool:=match nQ (zL who) l with
 | some k=>(l.take k++l.drop (k+1),true)
 | none=>(l,false)
theorem C7{α:Type}{E:Enc α}{w w4 w8:World}{b off g:Nat}{TY:TypeId}{cs:Array Value}{n c n' c':Nat}{l':List α}(hX:w.heap[b]? = some (.cells cs TY (0,0)))(hne:TY≠E.ty)(hg:g<w.heap.size)(hgE:∃cur,w.heap[g]? = some (.cells cur E.ty (0,0)))
  (hO:Own E w4 (.slice (some ⟨g,0,none⟩) n' c') l') (hk:∀k,k<w.heap.size->k≠g->w4.heap[k]? = w.heap[k]?) (hB:∀B,B<=g->B<=w.heap.size->Below B w w4)
  (p1:w8.heap[b]? = some (.cells (cs.setIfInBounds off (.slice (some ⟨g,0,none⟩) n' c')) TY (0,0))) (p2:∀k,k≠b->w8.heap[k]? = w4.heap[k]?) (p3:∀B,B<=b->Below B w4 w8):j7 E w w8 b off TY cs (.slice (some ⟨g,0,none⟩) n c) (.slice (some ⟨g,0,none⟩) n' c') l':=by
 have hgb:g≠b:=λe=>by
  obtain⟨cur,h⟩:=hgE;subst e;rw[hX]at h;simp only[Option.some.injEq,Obj.cells.injEq]at h;exact hne h.2.1
 refine⟨p1,hO.keep (λk e=>by cases e;exact p2 g hgb),λk hk' hb hv=>(p2 k hb).trans (hk k hk' (λe=>hv (by rw[e];rfl))),λB h1 h2 h3=>(hB B (h3 g rfl) h2).trans (p3 B h1),λk e=>by cases e;exact .inl rfl⟩
theorem wY{b:Nat}{F:Nat->Prop}{M:Mac}(who:Int){w:World}(hM:MMem w b F M)(hs:M.slp.length<=90000):Calls Tryz.prog 61 #[.pointer (some ⟨b,4,none⟩),.int .i64 who] w λe w'=>e=.returned (.bool (gp M.slp who).2)/\∃F',MMem w' b F' { M with slp:=(gp M.slp who).1 }/\Upd F F' w w':=by
 have hf:=td who hM (by omega);unfold mh at hf
 cases hc:nQ (zL who) M.slp with
 | none=>
  have e0:gp M.slp who=(M.slp,false):=by unfold gp;rw[hc]
  rw[hc]at hf;rw[e0];go_enter Tryz.func61,Tryz.ntmps61;go_wp2_with fail;refine hf.mono ?_;rintro e w1 ⟨rfl,hb1⟩;clear hf hc e0;go_wp2;go_ret;exact⟨rfl,F,hM.below hb1,Upd.of_below hb1⟩
 | some k=>
  have e0:gp M.slp who=(M.slp.take k++M.slp.drop (k+1),true):=by unfold gp;rw[hc]
  obtain⟨x,hx,_⟩:=oK hc;have hkl:k<M.slp.length:=(aj.1 hx).1;rw[hc]at hf;rw[e0];obtain⟨L',hL'⟩:∃L',Hid (L'=M.slp.take k++M.slp.drop (k+1)):=⟨_,rfl⟩;rw[<-hL'.out];obtain⟨V,vs,hM⟩:=hM;obtain⟨Vc,Vt,Vf,Vm,Vk,Ve⟩:=V;have hk0:Own eS w Vk M.slp:=hM.rk
  obtain⟨g,ck,rfl⟩:∃g c,Vk=.slice (some ⟨g,0,none⟩) M.slp.length c:=by
   rcases hk0.form with⟨_,e⟩|⟨g,c,e,_⟩
   ·rw[e]at hkl;exact absurd hkl (Nat.not_lt_zero _)
   ·exact⟨g,c,e⟩
  have f0:¬((k:Int)<0):=by omega
  have f1:(0:Int)<=k:=by omega
  have f2:(k:Int)<M.slp.length:=by omega
  clear hc e0;go_enter Tryz.func61,Tryz.ntmps61;go_wp2_with fail;refine hf.mono ?_;rintro e w1 ⟨rfl,hb1⟩;clear hf;have hM1:=hM.below hb1;have hk1:=hk0.below hb1;have y4:w1.cell? ⟨b,4,none⟩=some (.slice (some ⟨g,0,none⟩) M.slp.length ck):=ae w1 b 4 _ 105 _ hM1.blk;have hdel:=delC hkl (by omega) w1 hk1;rw[<-hL'.out]at hdel;go_upto_region 4 with(fail);refine ab ?_
  iterate 7 refine Zv ?_
  refine aG rfl (.int .i64 ((k:Int)+1)) ?_ ?_
  ·first|(go_simp;done)|(go_simp;simp only[IntKind.wrap_i64];omega)
  refine Zk ?_;refine aP rfl 84 #[.slice (some ⟨g,0,none⟩) M.slp.length ck,.int .i64 k,.int .i64 ((k:Int)+1)] (λv w'=>v=.slice (some ⟨g,0,none⟩) L'.length ck/\Own eS w' (.slice (some ⟨g,0,none⟩) L'.length ck) L'/\(∀k,k<w1.heap.size->k≠g->w'.heap[k]? = w1.heap[k]?)/\(∀B,B<=g->B<=w1.heap.size->Below B w1 w')) ?_ ?_ ?_
  ·first|(go_simp;done)|(go_simp;rfl)
  ·refine hdel.mono ?_
   rintro e w' ⟨rfl,h1,h2,h3⟩;exact⟨_,rfl,rfl,h1,h2,h3⟩
  rintro v w2 ⟨rfl,hO2,hk2,hB2⟩;clear y4 hdel;refine Zk ?_
  iterate 2 refine Zv ?_
  have Xb:w2.heap[b]? = some (.cells (iE ⟨Vc,Vt,Vf,Vm,.slice (some ⟨g,0,none⟩) M.slp.length ck,Ve⟩) 105 (0,0)):=(hk2 b (aB hM1.blk) (λe=>by
   obtain⟨_,h5⟩:=hk1.blk (g:=g) rfl
   exact aK hM1.blk h5 (show(105:Nat)≠182 by decide) e)).trans hM1.blk
  refine Zw 101 4 (.slice (some ⟨g,0,none⟩) L'.length ck) (gK (some ⟨g,0,none⟩) L'.length ck) Xb (by show 4<6;decide) (λw8 p1 p2 p3=>?_);have hA:j7 eS w1 w8 b 4 105 (iE ⟨Vc,Vt,Vf,Vm,.slice (some ⟨g,0,none⟩) M.slp.length ck,Ve⟩) (.slice (some ⟨g,0,none⟩) M.slp.length ck) (.slice (some ⟨g,0,none⟩) L'.length ck) L':=C7 hM1.blk (by decide) (hk1.lt rfl) (hk1.blk rfl) hO2 hk2 hB2 p1 p2 p3;obtain⟨F',hM',hU⟩:=hM1.app_k hA;have hU':=(Upd.of_below (F:=F) hb1).trans hU;clear hA hO2 Xb p1 p2 p3 hk2 hB2 hM1 hk1 hb1 hU;go_wp2;go_ret;exact⟨rfl,F',⟨_,_,hM'⟩,hU'⟩
end Go.Proofs.YtldlcnaphednnaaGreatDoor
