/- Sleepers are woken: the predicate with its list. Sleepers are woken: DeleteFunc, Wake. -/
import Derived.Test.YtldlcnaphednnaaGreatDoorM23
set_option maxRecDepth 100000
set_option maxHeartbeats 32000000
set_option linter.unusedVariables false
set_option linter.unusedSimpArgs false
namespace Go.Proofs.YtldlcnaphednnaaGreatDoor
open Go.RowKit Go.Maps
def eN:Enc Int:=⟨3,1,λk=>[.int .i64 k]⟩
theorem jc:eN.Ok:=⟨λx=>rfl,λx u hu=>by
 simp only[eN,List.mem_cons,List.not_mem_nil,or_false]at hu
 rcases hu with rfl;rfl,by decide⟩
theorem Bq:(Tryz.prog.info? eN.ty).map (λi=>(i.zero.map (·.cells.size),i.size,i.bytes))=some (some eN.sz,eN.sz,8):=by kernel_rfl
def wkB(addr n:Int)(o:List Int)(x:Slp):Bool:=decide (x.addr=addr/\(o.length:Int)<n)
def bB(addr n:Int):List Slp->List Int->List Slp×List Int
 | [],o=>([],o)
 | x :: l,o=>if wkB addr n o x=true then bB addr n l (o++[x.who]) else(x :: (bB addr n l o).1,(bB addr n l o).2)
structure WkI(kA kO kN B0:Nat)(addr n:Int)(w:World)(o:List Int):Prop where
 a:w.heap[kA]? = some (.cells #[.int .i64 addr] 3 (0,0))
 n:w.heap[kN]? = some (.cells #[.int .u32 n] 37 (0,0))
 out:∃vo,w.heap[kO]? = some (.cells #[vo] 23 (0,0))/\Own eN w vo o/\∀k,vo.ownBlock=some k->B0<=k/\k≠kA
 kO:B0<=kO
structure WkU(B0:Nat)(w w':World):Prop where
 low:Below B0 w w'
 slp:∀(k:Nat)(cs:Array Value),w.heap[k]? = some (.cells cs 182 (0,0))->w'.heap[k]? = w.heap[k]?
theorem WkU.refl(B0:Nat)(w:World):WkU B0 w w:=⟨ak _ _,λ_ _ _=>rfl⟩
theorem WkU.trans{B0:Nat}{w w' w'':World}(h:WkU B0 w w')(h':WkU B0 w' w''):WkU B0 w w'':=⟨h.low.trans h'.low,λk cs hk=>(h'.slp k cs ((h.slp k cs hk).trans hk)).trans (h.slp k cs hk)⟩
theorem WkU.of_below{B0:Nat}{w w':World}(h:Below w.heap.size w w')(hB:B0<=w.heap.size):WkU B0 w w':=⟨h.mono hB,λk cs hk=>keep hk h▸hk.symm▸rfl⟩
theorem WkI.below{kA kO kN B0:Nat}{addr n:Int}{w w':World}{o:List Int}(h:WkI kA kO kN B0 addr n w o)(hb:Below w.heap.size w w'):WkI kA kO kN B0 addr n w' o:=by
 obtain⟨vo,h1,h2,h3⟩:=h.out;exact⟨keep h.a hb,keep h.n hb,⟨vo,keep h1 hb,h2.below hb,h3⟩,h.kO⟩
theorem WkI.other{kA kO kN B0:Nat}{addr n:Int}{w w':World}{o:List Int}(h:WkI kA kO kN B0 addr n w o)(ho:∀(k:Nat)(cs:Array Value)(ty:TypeId),w.heap[k]? = some (.cells cs ty (0,0))->ty≠182->w'.heap[k]? = w.heap[k]?):WkI kA kO kN B0 addr n w' o:=by
 obtain⟨vo,h1,h2,h3⟩:=h.out
 exact⟨(ho _ _ _ h.a (by decide)).trans h.a,(ho _ _ _ h.n (by decide)).trans h.n,⟨vo,(ho _ _ _ h1 (by decide)).trans h1,h2.keep (λg e=>by
  obtain⟨cs,h5⟩:=h2.blk e;exact ho g cs _ h5 (by decide)),h3⟩,h.kO⟩
theorem DR{kA kO kN B0:Nat}{addr n:Int}(hn:0<=n/\n<4294967296)(x:Slp)(o:List Int)(ho:o.length<=90000)(w:World)(h:WkI kA kO kN B0 addr n w o)(hB:B0<=w.heap.size):Calls Tryz.prog 205 #[vg x,.pointer (some ⟨kA,0,none⟩),.pointer (some ⟨kO,0,none⟩),.pointer (some ⟨kN,0,none⟩)] w λe w'=>e=.returned (.bool (wkB addr n o x))/\WkI kA kO kN B0 addr n w' (if wkB addr n o x=true then o++[x.who] else o)/\WkU B0 w w':=by
 obtain⟨hn0,hn1⟩:=hn;obtain⟨vo,hO0,hOo,hOb⟩:=h.out;obtain⟨po,co,rfl⟩:=hOo.form2
 have f0:(0:Int)<=o.length:=by omega
 have f1:(o.length:Int)<=90000:=by omega
 unfold vg Ao;obtain⟨xw,xa⟩:=x;simp only;obtain⟨o',ho'⟩:∃q,Hid (q=if wkB addr n o ⟨xw,xa⟩=true then o++[xw] else o):=⟨_,rfl⟩;rw[<-ho'.out]
 by_cases ha:xa=addr
 case neg=>
  have qa:(xa != addr)=true:=by simp[ha]
  have e:wkB addr n o ⟨xw,xa⟩=false:=by unfold wkB;rw[az];exact λh=>ha h.1
  obtain rfl:o=o':=(ho'.out.trans (af (by rw[e];exact Bool.false_ne_true))).symm;rw[e];clear e ha ho';go_enter Tryz.func205,Tryz.ntmps205;go_upto_region 1 with(fail);obtain⟨W,kB,e0,e1,XB,hal⟩:=aO w #[.int .i64 xw,.int .i64 xa] 182;rw[e0,e1];have hkB:w.heap.size<=kB:=aD e1;clear e0 e1;have XA:=keep h.a hal;have XN:=keep h.n hal;have XO:=keep hO0 hal;have hOW:=hOo.below hal;obtain⟨y0,y1⟩:=cl2 XB;have yA:=ae W kA 0 _ 3 _ XA;have yN:=ae W kN 0 _ 37 _ XN;have yO:=ae W kO 0 _ 23 _ XO;go_wp2;go_ret;exact⟨rfl,h.below hal,WkU.of_below hal hB⟩
 have qa:(xa != addr)=false:=by simp[ha]
 by_cases hl:(o.length:Int)<n
 case neg=>
  have e:wkB addr n o ⟨xw,xa⟩=false:=by unfold wkB;rw[az];exact λh=>hl h.2
  obtain rfl:o=o':=(ho'.out.trans (af (by rw[e];exact Bool.false_ne_true))).symm;rw[e];clear e ha ho'
  have f2:n<=(o.length:Int):=by omega
  go_enter Tryz.func205,Tryz.ntmps205;go_upto_region 1 with(fail);obtain⟨W,kB,e0,e1,XB,hal⟩:=aO w #[.int .i64 xw,.int .i64 xa] 182;rw[e0,e1];have hkB:w.heap.size<=kB:=aD e1;clear e0 e1;have XA:=keep h.a hal;have XN:=keep h.n hal;have XO:=keep hO0 hal;have hOW:=hOo.below hal;obtain⟨y0,y1⟩:=cl2 XB;have yA:=ae W kA 0 _ 3 _ XA;have yN:=ae W kN 0 _ 37 _ XN;have yO:=ae W kO 0 _ 23 _ XO;go_wp2;go_ret;exact⟨rfl,h.below hal,WkU.of_below hal hB⟩
 have e:wkB addr n o ⟨xw,xa⟩=true:=by unfold wkB;exact ay ⟨ha,hl⟩
 obtain rfl:o'=o++[xw]:=ho'.out.trans (ag e);rw[e]
 have f2:¬n<=(o.length:Int):=by omega
 clear e ha ho';go_enter Tryz.func205,Tryz.ntmps205;go_upto_region 1 with(fail);obtain⟨W,kB,e0,e1,XB,hal⟩:=aO w #[.int .i64 xw,.int .i64 xa] 182;rw[e0,e1];have hkB:w.heap.size<=kB:=aD e1;clear e0 e1;have XA:=keep h.a hal;have XN:=keep h.n hal;have XO:=keep hO0 hal;have hOW:=hOo.below hal;obtain⟨y0,y1⟩:=cl2 XB;have yA:=ae W kA 0 _ 3 _ XA;have yN:=ae W kN 0 _ 37 _ XN;have yO:=ae W kO 0 _ 23 _ XO;go_upto_region 3 with(fail);refine ab ?_
 iterate 3 refine Zv ?_
 refine dJ rfl (.slice (some ⟨W.heap.size,0,none⟩) 1 1) (w':=W.alloc (.cells #[.int .i64 xw] 3)) (by first|kernel_rfl|go_simp) ?_
 obtain⟨w2,bN,e8,eg,BN,hb2⟩:=aO W #[.int .i64 xw] 3;rw[e8,eg];clear e8 eg y0 y1 yA yN yO;refine Zk ?_;have hO2:=hOW.below hb2
 refine i5 jc rfl 23 Tryz.underlying23 8 Bq (.tmp 18) (.tmp 21) rfl _ o [xw] rfl hO2 bN 0 1 rfl (cG BN _ rfl) (by simp<;>omega) (by decide) (λvc' v4 hO4 hg4 hl4=>?_)
 refine Zk ?_;have hal2:=hal.trans (hb2.mono hal.size);have Xb:=fD hO2 (keep XO hb2) (by decide) hg4;obtain⟨p,c4,rfl⟩:=hO4.form2;generalize hn4:(o++[xw]).length=n4 at *;refine Zw 23 0 (.slice p n4 c4) (gK p n4 c4) Xb (by simp) (λv8 p1 p2 p3=>?_);have hA:j7 eN w v8 kO 0 23 #[.slice po o.length co] (.slice po o.length co) (.slice p n4 c4) (o++[xw]):=io hal2 hg4 hl4 hO4 Xb (by decide) (ak _ _) p1 p2 p3 (ak _ _)
 have hsB:∀k,(Value.slice p n4 c4).ownBlock=some k->B0<=k/\k≠kA:=λk hk=>by
  rcases hA.new k hk with e|e
  ·exact hOb k e
  ·have:=aB h.a;exact⟨by omega,by omega⟩
 have hI:WkI kA kO kN B0 addr n v8 (o++[xw]):=⟨(hA.oth kA (aB h.a) (λe=>aK h.a hO0 (show(3:Nat)≠23 by decide) e) (λe=>(hOb kA e).2 rfl)).trans h.a,(hA.oth kN (aB h.n) (λe=>aK h.n hO0 (show(37:Nat)≠23 by decide) e) (λe=>by
  obtain⟨_,h5⟩:=hOo.blk e
  exact aK h.n h5 (show(37:Nat)≠3 by decide) rfl)).trans h.n,⟨_,hA.blk,hA.own,hsB⟩,h.kO⟩
 have hUU:WkU B0 w v8:=⟨hA.low B0 h.kO hB (λk e=>(hOb k e).1),λk cs hk=>hA.oth k (aB hk) (λe=>aK hk hO0 (show(182:Nat)≠23 by decide) e) (λe=>by
  obtain⟨_,h5⟩:=hOo.blk e
  exact aK hk h5 (show(182:Nat)≠3 by decide) rfl)⟩
 clear hA hO4 hg4 hl4 Xb p1 p2 p3 hO2 BN hb2 hal2 hn4;go_wp2;go_ret;exact⟨rfl,hI,hUU⟩
theorem mo(addr n:Int)(o:List Int):∀(L:List Slp)(i:Nat),i<=L.length->(∀j y,j<i->L[j]? = some y->wkB addr n o y=false)->bB addr n L o=(L.take i++(bB addr n (L.drop i) o).1,(bB addr n (L.drop i) o).2)
 | L,0,_,_=>by simp
 | [],i+1,h,_=>by simp at h
 | x :: L,i+1,h,hp=>by
  have h0:=hp 0 x (by omega) rfl;have ih:=mo addr n o L i (by simpa using h) (λj y hj hy=>hp (j+1) y (by omega) (by simpa using hy));rw[bB,af (by rw[h0];exact Bool.false_ne_true),ih];simp
theorem vr{addr n:Int}{o:List Int}{L:List Slp}{j:Nat}{x:Slp}(hx:L[j]? = some x)(h:wkB addr n o x=true):bB addr n (L.drop j) o=bB addr n (L.drop (j+1)) (o++[x.who]):=by
 obtain⟨hj,rfl⟩:=aj.1 hx;rw[List.drop_eq_getElem_cons hj,bB,ag h]
theorem BO{addr n:Int}{o:List Int}{L:List Slp}{j:Nat}{x:Slp}(hx:L[j]? = some x)(h:wkB addr n o x=false):bB addr n (L.drop j) o=(x :: (bB addr n (L.drop (j+1)) o).1,(bB addr n (L.drop (j+1)) o).2):=by
 obtain⟨hj,rfl⟩:=aj.1 hx;rw[List.drop_eq_getElem_cons hj,bB,af (by rw[h];exact Bool.false_ne_true)]
structure InV(B0:Nat)(v:Value)(w w':World):Prop where
 blk:∀k,k<B0->v.ownBlock≠some k->w'.heap[k]? = w.heap[k]?
 low:∀B,(∀k,v.ownBlock=some k->B<=k)->B<=B0->Below B w w'
theorem InV.of{B0:Nat}{v:Value}{w w':World}(h:Below B0 w w'):InV B0 v w w':=⟨λk hk _=>h.block k hk,λB _ hB=>h.mono hB⟩
theorem InV.trans{B0:Nat}{v:Value}{w w' w'':World}(h:InV B0 v w w')(h':InV B0 v w' w''):InV B0 v w w'':=⟨λk hk hn=>(h'.blk k hk hn).trans (h.blk k hk hn),λB h1 h2=>(h.low B h1 h2).trans (h'.low B h1 h2)⟩
theorem oH{B0:Nat}{w w':World}{v:Value}{l:List Slp}(h:Own eS w v l)(hu:WkU B0 w w'):Own eS w' v l:=h.keep λg e=>by
 obtain⟨cs,h5⟩:=h.blk e;exact hu.slp g cs h5
theorem EH(args:Array Value)(w:World):(callFunc 205 args).run Tryz.prog w=.ok (.enter 205 args) w:=by kernel_rfl
theorem delF{kA kO kN B0:Nat}{addr n:Int}(hn:0<=n/\n<4294967296)(v:Value)(L:List Slp)(hL:L.length<=80000)(w:World)(hO:Own eS w v L)(hI:WkI kA kO kN B0 addr n w [])(hB:B0<=w.heap.size):Calls Tryz.prog 204 #[v,.func (.func 205) #[] #[.pointer (some ⟨kA,0,none⟩),.pointer (some ⟨kO,0,none⟩),.pointer (some ⟨kN,0,none⟩)]] w λe w'=>∃v',e=.returned v'/\Own eS w' v' (bB addr n L []).1/\WkI kA kO kN B0 addr n w' (bB addr n L []).2/\(∀k,v'.ownBlock=some k->v.ownBlock=some k)/\InV B0 v w w':=by
 have hidx:=λw0 (hw0:Below B0 w w0) (hI0:WkI kA kO kN B0 addr n w0 []) (hO0:Own eS w0 v L) (hB0:B0<=w0.heap.size) (pv:Option Addr) (cv:Nat) (ev:v=.slice pv L.length cv)=>Gn 205 #[.pointer (some ⟨kA,0,none⟩),.pointer (some ⟨kO,0,none⟩),.pointer (some ⟨kN,0,none⟩)] EH (λw'=>WkI kA kO kN B0 addr n w' []/\WkU B0 w0 w') (λx w'=>WkI kA kO kN B0 addr n w' [x.who]/\WkU B0 w0 w') (wkB addr n []) pv L cv (by omega) (λw' h' hl=>by
   have hO':=oH hO0 h'.2;rcases hO'.form with⟨_,e⟩|⟨g,c,e,_⟩
   ·rw[e]at hl;exact absurd hl (Nat.lt_irrefl 0)
   ·rw[ev]at e
    simp only[Value.slice.injEq]at e;obtain⟨rfl,_,rfl⟩:=e;rw[ev]at hO'
    exact⟨g,0,rfl,hO'.at ja⟩) (λw' x _ h'=>by
   refine(DR hn x [] (au _) w' h'.1 (by have:=h'.2.low.size;omega)).mono ?_;rintro e w'' ⟨rfl,h1,h2⟩;refine⟨rfl,?_⟩;have h3:=h'.2.trans h2
   split
   ·rename_i hb;rw[ag hb]at h1;exact⟨h1,h3⟩
   ·rename_i hb;rw[af hb]at h1;exact⟨h1,h3⟩) w0 ⟨hI0,WkU.refl _ _⟩
 obtain⟨pv,cv,rfl⟩:=hO.form2;have hix:=hidx w (ak _ _) hI hO hB pv cv rfl;clear hidx;obtain⟨T,hT⟩:=Zh (bB addr n L []);rw[<-hT.out];go_enter Tryz.func204,Tryz.ntmps204;go_upto_region 1 with(fail);refine ab ?_
 iterate 2 refine Zv ?_
 refine aP rfl 113 #[.slice pv L.length cv,.func (.func 205) #[] #[.pointer (some ⟨kA,0,none⟩),.pointer (some ⟨kO,0,none⟩),.pointer (some ⟨kN,0,none⟩)]] (λv w'=>(v=.int .i64 (-1)/\(∀x∈L,wkB addr n [] x=false)/\WkI kA kO kN B0 addr n w' []/\WkU B0 w w')\/∃(k:Nat)(x:Slp),L[k]? = some x/\v=.int .i64 k/\(∀j y,j<k->L[j]? = some y->wkB addr n [] y=false)/\wkB addr n [] x=true/\WkI kA kO kN B0 addr n w' [x.who]/\WkU B0 w w') ?_ ?_ ?_
 ·first|(go_simp;done)|(go_simp;rfl)
 ·refine hix.mono ?_
  rintro e w' (⟨rfl,h1,h2,h3⟩|⟨k,x,h1,rfl,h2,h3,h4,h5⟩)
  ·exact⟨_,rfl,.inl ⟨rfl,h1,h2,h3⟩⟩
  ·exact⟨_,rfl,.inr ⟨k,x,h1,rfl,h2,h3,h4,h5⟩⟩
 rintro v w1 (⟨rfl,hall,hI1,hU1⟩|⟨k,x,hx,rfl,hpre,hxt,hI1,hU1⟩)
 ·clear hix
  refine Zk ?_;refine Zv ?_
  have e:T=(L,[]):=hT.out.trans (by
   have:=mo addr n [] L L.length (ah _) (λj y _ hy=>hall y (aC hy))
   rw[this,List.take_length,List.drop_length];simp[bB])
  subst e;clear hT hall;go_wp2;go_ret;exact⟨_,rfl,oH hO hU1,hI1,λk hk=>hk,InV.of hU1.low⟩
 have hkl:k<L.length:=(aj.1 hx).1
 obtain⟨g,rfl⟩:∃g,pv=some ⟨g,0,none⟩:=by
  rcases hO.form with⟨_,e⟩|⟨g,c,e,_⟩
  ·rw[e]at hkl;exact absurd hkl (Nat.not_lt_zero _)
  ·simp only[Value.slice.injEq]at e;exact⟨g,e.1⟩
 obtain⟨_,_,_,_,hlc,hcm,_⟩:=i7 hO;have hO1:=oH hO hU1
 have hT1:Hid (T=(L.take k++(bB addr n (L.drop (k+1)) [x.who]).1,(bB addr n (L.drop (k+1)) [x.who]).2)):=by
  have h:=hT.out.trans (mo addr n [] L k (Nat.le_of_lt hkl) hpre);rw[vr hx hxt]at h;exact h
 have f0:((k:Int) == -1)=false:=by
  have:¬((k:Int)=-1):=by omega
  simp[this]
 clear hix hT;refine Zk ?_;refine Zv ?_;go_upto_region 5 with(fail);have hV1:InV B0 (.slice (some ⟨g,0,none⟩) L.length cv) w w1:=InV.of hU1.low;have hB1:B0<=w1.heap.size:=ar hB hU1.low.size;clear f0;go_loopw [5,6] (λs5 s6 wr=>∃(i j:Nat)(K l':List Slp)(o:List Int),s5=.int .i64 i/\s6=.int .i64 j/\i<j/\j<=L.length/\K.length=i/\l'.length=L.length/\l'.take i=K/\l'.drop j=L.drop j/\Hid (T=(K++(bB addr n (L.drop j) o).1,(bB addr n (L.drop j) o).2))/\Own eS wr (.slice (some ⟨g,0,none⟩) L.length cv) l'/\WkI kA kO kN B0 addr n wr o/\o.length<=j/\B0<=wr.heap.size/\InV B0 (.slice (some ⟨g,0,none⟩) L.length cv) w wr) (λ_ v _=>L.length - (intOf v).toNat)
 case atStart=>exact⟨k,k+1,L.take k,L,[x.who],rfl,by go_num,by omega,by omega,by rw[List.length_take];omega,rfl,rfl,rfl,hT1,hO1,hI1,by simp,hB1,hV1⟩
 case round=>
  clear hT1 hO1 hI1 hV1 hB1 hx hpre hxt hkl hU1;obtain⟨i,j,K,l',o,rfl,rfl,hij,hjn,hK,hl',htk,hdr,hT,hOr,hIr,hoj,hBr,hV⟩:=hrel
  by_cases hlt:j<L.length
  case neg=>
   obtain rfl:j=L.length:=by omega
   have hl1:¬((L.length:Int)<L.length):=by omega
   have eT:T=(K,o):=hT.out.trans (by rw[List.drop_length];simp[bB]);subst eT;have hOK:=wF ja hOr i (by omega);rw[htk]at hOK
   have f1:(0:Int)<=i:=by omega
   have f2:(i:Int)<=L.length:=by omega
   have f3:¬cv=i:=by omega
   have f4:(i:Int)<=cv:=by omega
   obtain⟨w5,hrun,hO5,hk5,hB5⟩:=pp ja (P:=Tryz.prog) 101 Tryz.underlying101 (.agg #[.int .i64 0,.int .i64 0]) vn rfl (λu hu=>by
    have:u=.int .i64 0:=by simpa[Value.cells] using hu
    subst this;rfl) hOK i (L.length - i) (cv - i) (by omega) (by omega)
   have hI5:=hIr.other (w':=w5) (λk cs ty hk hne=>hk5 k (λe=>by
    obtain⟨_,h5⟩:=hOr.blk (g:=g) rfl
    exact aK hk h5 hne e))
   have hV5:InV B0 (.slice (some ⟨g,0,none⟩) L.length cv) w w5:=hV.trans ⟨λk _ hne=>hk5 k (λe=>hne (by rw[e];rfl)),λB h1 _=>hB5 B (h1 g rfl)⟩;clear hT hlt hdr htk;go_upto_region 11 with(fail);refine ab ?_
   iterate 2 refine Zv ?_
   refine aG rfl (.slice (some ⟨g,i * 2,none⟩) (L.length - i) (cv - i)) ?_ ?_
   ·first|(go_simp;done)|(go_simp;rw[af f3])
   refine Zk ?_;refine tP rfl 101 (.tmp 38) rfl _ rfl hrun ?_;refine Zk ?_;clear hrun hk5 hB5 hOr hIr;go_upto_region 12 with(fail);refine ab ?_
   iterate 2 refine Zv ?_
   refine aG rfl (.slice (some ⟨g,0,none⟩) i cv) ?_ ?_
   ·first|(go_simp;done)|(go_simp;simp)
   refine Zk ?_;refine Zv ?_;go_wp2;go_ret;exact⟨_,rfl,hK▸hO5,hI5,λk hk=>hk,hV5⟩
  have hl0:(0:Int)<=j:=by omega
  have hl1:(j:Int)<L.length:=by omega
  obtain⟨x,hx⟩:∃x,L[j]? = some x:=⟨L[j],aq hlt⟩
  have hx':l'[j]? = some x:=by
   have h:=congrArg (λq=>q[0]?) hdr;simp only[List.getElem?_drop,Nat.add_zero]at h;exact h.trans hx
  have hxr:wr.rangeAt g (0+j * 2) [.int .i64 x.who,.int .i64 x.addr]:=(hOr.at ja).elem ja hx';rw[Nat.zero_add]at hxr;obtain⟨xw,xa⟩:=x;simp only at hxr;go_upto_region 7 with(fail);refine ab ?_
  iterate 2 refine Zv ?_
  refine aG rfl (.pointer (some ⟨g,j * 2,none⟩)) ?_ ?_
  ·go_simp
  refine Zk ?_;refine Zm 182 #[.int .i64 xw,.int .i64 xa] hxr Tryz.underlying182 ?_;refine Za 182 #[.int .i64 0,.int .i64 0] (λw4 b6 X6 l6 f6=>?_);refine Zo 182 b6 #[.int .i64 xw,.int .i64 xa] X6 (λw5 g1 g2 g3 g4=>?_);have hb5:Below wr.heap.size wr w5:=l6.trans (g3 _ (by simp only[Hid]at f6;omega))
  have hb6:wr.heap.size<=b6:=by simp only[Hid]at f6;omega
  have hgb:b6≠g:=by have:=hOr.lt (g:=g) rfl;omega
  clear X6 l6 f6 g2 g3 g4 hxr;replace hOr:=hOr.below hb5;replace hIr:=hIr.below hb5;replace hV:=hV.trans (InV.of (hb5.mono hBr));have hB5:B0<=w5.heap.size:=ar hBr hb5.size;clear hb5 hBr;have hwp:=DR hn ⟨xw,xa⟩ o (by omega) w5 hIr hB5;obtain⟨wb,hwb⟩:=Zh (wkB addr n o ⟨xw,xa⟩);rw[<-hwb.out]at hwp;unfold vg Ao at hwp;simp only at hwp;go_upto_region 8 with(fail);refine ab ?_;refine Zv ?_;refine Zd 182 g1 Tryz.underlying182 ?_;refine aP rfl 205 #[.agg #[.int .i64 xw,.int .i64 xa],.pointer (some ⟨kA,0,none⟩),.pointer (some ⟨kO,0,none⟩),.pointer (some ⟨kN,0,none⟩)] (λv w'=>v=.bool wb/\WkI kA kO kN B0 addr n w' (if wb=true then o++[xw] else o)/\WkU B0 w5 w') ?_ ?_ ?_
  ·first|(go_simp;done)|(go_simp;rfl)
  ·refine hwp.mono ?_
   rintro e w' ⟨rfl,h1,h2⟩;exact⟨_,rfl,rfl,h1,h2⟩
  rintro v w6 ⟨rfl,hI6,hU6⟩;clear hwp;refine Zk ?_;refine Zv ?_;have hO6:=oH hOr hU6;have X6:=(hU6.slp b6 _ g1).trans g1;have hV6:=hV.trans (InV.of hU6.low);have hB6:B0<=w6.heap.size:=ar hB5 hU6.low.size
  have hdr1:l'.drop (j+1)=L.drop (j+1):=by
   have h:=congrArg (List.drop 1) hdr
   rwa [List.drop_drop,List.drop_drop]at h
  clear hU6 hOr hV hB5 g1 hIr;cases wb
  ·have hIo:WkI kA kO kN B0 addr n w6 o:=by simpa using hI6
   have hT':Hid (T=((K++[(⟨xw,xa⟩:Slp)])++(bB addr n (L.drop (j+1)) o).1,(bB addr n (L.drop (j+1)) o).2)):=by
    have h:=hT.out;rw[BO hx hwb.out.symm]at h
    simpa[Hid] using h
   obtain⟨z,hz⟩:∃z,l'[i]? = some z:=⟨l'[i]'(by omega),aq (by omega)⟩
   have h1:(l'.set i ⟨xw,xa⟩).take (i+1)=K++[(⟨xw,xa⟩:Slp)]:=by
    rw[List.take_add_one,List.take_set_of_le (ah i),htk,List.getElem?_set_self (by omega)];rfl
   have h2:(l'.set i ⟨xw,xa⟩).drop (j+1)=L.drop (j+1):=by rw[List.drop_set_of_lt (by omega)];exact hdr1
   have f1:(0:Int)<=i:=by omega
   have f2:(i:Int)<L.length:=by omega
   clear hT hwb hI6 hdr;go_upto_region 9 with(fail);refine ab ?_
   iterate 2 refine Zv ?_
   refine Zd 182 X6 Tryz.underlying182 ?_;refine aG rfl (.pointer (some ⟨g,i * 2,none⟩)) ?_ ?_
   ·go_simp
   refine Zk ?_;refine pF ja rfl 182 (by kernel_rfl) (.tmp 33) (.tmp 32) rfl g i L.length cv l' z ⟨xw,xa⟩ rfl rfl hO6 hz (λw7 hO7 hk7 hb7 hs7=>?_);refine Zk ?_
   have hI7:=hIo.other (w':=w7) (λk cs ty hk hne=>hk7 k (λe=>by
    obtain⟨_,h5⟩:=hO6.blk (g:=g) rfl
    exact aK hk h5 hne e))
   have hV7:InV B0 (.slice (some ⟨g,0,none⟩) L.length cv) w w7:=hV6.trans ⟨λk _ hne=>hk7 k (λe=>hne (by rw[e];rfl)),λB h1 _=>hb7 B (h1 g rfl)⟩;have hB7:B0<=w7.heap.size:=ar hB6 (hb7 0 (au _)).size;clear hO6 hIo hk7 hb7 hs7 hz X6 hV6;go_wp2;go_roundw
   case rel=>exact⟨i+1,j+1,_,_,o,by go_num,by go_num,by omega,by omega,by simp[hK],by rw[List.length_set];exact hl',h1,h2,hT',hO7,hI7,by omega,hB7,hV7⟩
   case measure=>simp[intOf];omega
  ·have hIo:WkI kA kO kN B0 addr n w6 (o++[xw]):=by simpa using hI6
   have hT':Hid (T=(K++(bB addr n (L.drop (j+1)) (o++[xw])).1,(bB addr n (L.drop (j+1)) (o++[xw])).2)):=by
    have h:=hT.out;rw[vr hx hwb.out.symm]at h;exact h
   clear hT hwb hI6 hdr X6;go_wp2;go_roundw
   case rel=>exact⟨i,j+1,K,l',o++[xw],rfl,by go_num,by omega,by omega,hK,hl',htk,hdr1,hT',hO6,hIo,by simp<;>omega,hB6,hV6⟩
   case measure=>simp[intOf];omega
theorem MMv.notF{w:World}{b:Nat}{F:Nat->Prop}{M:Mac}{V:MV}{vs:List Sl}(h:MMv w b F M V vs){k:Nat}{cs:Array Value}{ty:TypeId}(hk:w.heap[k]? = some (.cells cs ty (0,0)))(h1:ty≠105/\ty≠93/\ty≠153/\ty≠110/\ty≠37/\ty≠182/\ty≠46):¬F k:=λhF=>by
 rcases(h.foot k).1 hF with rfl|e|e|e|e|e|e
 ·exact aK hk h.blk h1.1 rfl
 ·obtain⟨_,h5⟩:=h.rc.blk e;exact aK hk h5 h1.2.1 rfl
 ·obtain⟨_,h5⟩:=h.rt.blk e;exact aK hk h5 h1.2.2.1 rfl
 ·obtain⟨_,h5⟩:=h.rf.blk e;exact aK hk h5 h1.2.2.2.1 rfl
 ·obtain⟨_,h5⟩:=h.rm.blk e;exact aK hk h5 h1.2.2.2.2.1 rfl
 ·obtain⟨_,h5⟩:=h.rk.blk e;exact aK hk h5 h1.2.2.2.2.2.1 rfl
 ·obtain⟨_,h5⟩:=h.re.blk e;exact aK hk h5 h1.2.2.2.2.2.2 rfl
theorem zO{b:Nat}{F:Nat->Prop}{M:Mac}(addr n:Int)(hn:0<=n/\n<4294967296){w:World}(hM:MMem w b F M)(hs:M.slp.length<=80000):Calls Tryz.prog 171 #[.pointer (some ⟨b,4,none⟩),.int .i64 addr,.int .u32 n] w λe w'=>∃v,e=.returned v/\Own eN w' v (bB addr n M.slp []).2/\∃F',(MMem w' b F' { M with slp:=(bB addr n M.slp []).1 }/\(∀k,v.ownBlock=some k->w.heap.size<=k/\¬F' k))/\Upd F F' w w':=by
 obtain⟨V,vs,hM⟩:=hM;obtain⟨Vc,Vt,Vf,Vm,Vk,Ve⟩:=V;have hk0:Own eS w Vk M.slp:=hM.rk;obtain⟨pk,ck,rfl⟩:=hk0.form2;obtain⟨T,hT⟩:=Zh (bB addr n M.slp []);rw[<-hT.out];go_enter Tryz.func171,Tryz.ntmps171;go_upto_region 1 with(fail);go_upto_region 2 with(fail);obtain⟨W,kA,kN,kO,e0,e1,e2,e3,XA,XN,XO,hal⟩:=Bw w #[.int .i64 addr] #[.int .u32 n] #[.slice none 0 0] 3 37 23;rw[e0,e3,e2,e1]
 have hkO:w.heap.size<=kO:=by omega
 clear e0 e1 e2 e3;have hI0:WkI kA kO kN w.heap.size addr n W []:=⟨XA,XN,⟨_,XO,Own.nil _,λk hk=>by cases hk⟩,hkO⟩;have hdel:=delF hn (.slice pk M.slp.length ck) M.slp hs W (hk0.below hal) hI0 hal.size;rw[<-hT.out]at hdel;have y4:W.cell? ⟨b,4,none⟩=some (.slice pk M.slp.length ck):=ae W b 4 _ 105 _ (keep hM.blk hal);refine ab ?_
 iterate 6 refine Zv ?_
 refine aP rfl 204 #[.slice pk M.slp.length ck,.func (.func 205) #[] #[.pointer (some ⟨kA,0,none⟩),.pointer (some ⟨kO,0,none⟩),.pointer (some ⟨kN,0,none⟩)]] (λv' w'=>Own eS w' v' T.1/\WkI kA kO kN w.heap.size addr n w' T.2/\(∀k,v'.ownBlock=some k->(Value.slice pk M.slp.length ck).ownBlock=some k)/\InV w.heap.size (.slice pk M.slp.length ck) W w') ?_ hdel ?_
 ·first|(go_simp;done)|(go_simp;rfl)
 rintro v2 w2 ⟨hO2,hI2,hv2,hV2⟩;clear y4 hdel;obtain⟨p2',c2,rfl⟩:=hO2.form2;refine Zk ?_
 iterate 2 refine Zv ?_
 have hne:∀k cs (ty:TypeId),w.heap[k]? = some (Obj.cells cs ty (0,0))->ty≠182->(Value.slice pk M.slp.length ck).ownBlock≠some k:=λk cs ty hk h1 e=>by
  obtain⟨_,h5⟩:=hk0.blk e;exact aK hk h5 h1 rfl
 have Xb:w2.heap[b]? = some (.cells (iE ⟨Vc,Vt,Vf,Vm,.slice pk M.slp.length ck,Ve⟩) 105 (0,0)):=(hV2.blk b (aB hM.blk) (hne b _ _ hM.blk (by decide))).trans (keep hM.blk hal);refine Zw 101 4 (.slice p2' T.1.length c2) (gK p2' T.1.length c2) Xb (by show 4<6;decide) (λw8 p1 p2 p3=>?_);have hbO:∀k cs (ty:TypeId),w2.heap[k]? = some (Obj.cells cs ty (0,0))->ty≠105->w8.heap[k]? = w2.heap[k]? := λk cs ty hk h1=>p2 k (λe=>aK hk Xb h1 e)
 have hA:j7 eS w w8 b 4 105 (iE ⟨Vc,Vt,Vf,Vm,.slice pk M.slp.length ck,Ve⟩) (.slice pk M.slp.length ck) (.slice p2' T.1.length c2) T.1:=⟨p1,hO2.keep (λg e=>by
   obtain⟨cs,h5⟩:=hO2.blk e;exact hbO g cs _ h5 (by decide)),λk hk hb hv=>((p2 k hb).trans (hV2.blk k hk hv)).trans (hal.block k hk),λB h1 h2 h3=>((hal.mono h2).trans (hV2.low B h3 h2)).trans (p3 B h1),λk e=>.inl (hv2 k e)⟩
 obtain⟨F',hM',hU⟩:=hM.app_k hA;obtain⟨vo,hO0,hOo,hOb⟩:=hI2.out;have hO8:w8.heap[kO]? = some (.cells #[vo] 23 (0,0)):=(hbO kO _ _ hO0 (by decide)).trans hO0
 have hOo8:Own eN w8 vo T.2:=hOo.keep (λg e=>by
  obtain⟨cs,h5⟩:=hOo.blk e;exact hbO g cs _ h5 (by decide))
 have hF8:∀k,vo.ownBlock=some k->w.heap.size<=k/\¬F' k:=λk e=>⟨(hOb k e).1,by
  obtain⟨cs,h5⟩:=hOo8.blk e
  exact hM'.notF h5 (by decide)⟩
 have yO:=ae w8 kO 0 _ 23 _ hO8;obtain⟨po,co,rfl⟩:=hOo8.form2;clear hA hO2 Xb p1 p2 p3 hbO hI2 hV2 hne;go_wp2;go_ret;exact⟨_,rfl,hOo8,F',⟨⟨_,_,hM'⟩,hF8⟩,hU⟩
end Go.Proofs.YtldlcnaphednnaaGreatDoor
