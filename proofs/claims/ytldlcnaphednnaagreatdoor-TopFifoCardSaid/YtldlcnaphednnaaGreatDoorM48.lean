/- The law's walk: who came first has it first; given that its beginning holds. -/
import Derived.Test.YtldlcnaphednnaaGreatDoorM47
import Derived.Test.YtldlcnaphednnaaGreatDoorM32
set_option maxRecDepth 100000
set_option maxHeartbeats 32000000
set_option linter.unusedVariables false
set_option linter.unusedSimpArgs false
namespace Go.Proofs.YtldlcnaphednnaaGreatDoor
open Go.RowKit Go.Maps
theorem rn{y:CR}:∀(f:Nat)(rem:Nat->List CR),y∈dl f rem->∃t,t<8/\y∈rem t
 | 0,rem,h=>by cases h
 | f+1,rem,h=>by
  cases hb:fR rem 8 with
  | none=>rw[oc hb]at h;cases h
  | some b=>
   obtain⟨h8,x,l,e⟩:=ki rem 8 b hb;rw[lA hb e]at h;rcases List.mem_cons.1 h with h1|h1
   ·subst h1;exact⟨b,h8,by rw[e];exact List.mem_cons_self ..⟩
   ·obtain⟨t,ht,h2⟩:=rn f _ h1
    refine⟨t,ht,?_⟩;unfold ms at h2
    split at h2
    ·rename_i e';subst e';rw[e];exact List.mem_cons_of_mem _ h2
    ·exact h2
theorem ql:∀(f:Nat)(rem:Nat->List CR),(dl f rem).length<=f
 | 0,rem=>ah _
 | f+1,rem=>by
  unfold dl
  split
  ·exact au _
  ·split
   ·exact au _
   ·simp only[List.length_cons]
    have:=ql f (ms rem ‹_› ‹_›);omega
theorem ix{α:Type}{E:Enc α}{w:World}{p:Option Addr}{n c:Nat}{l:List α}(h:Own E w (.slice p n c) l){i:Nat}{x:α}(hx:l[i]? = some x):∃g,Hid (p=some ⟨g,0,none⟩):=by
 rcases h.form with⟨_,e⟩|⟨g,c,e,_⟩
 ·rw[e]at hx;cases hx
 ·simp only[Value.slice.injEq]at e;exact⟨g,e.1⟩
theorem Ek{d:List Int}{DV:Nat->Int}{i n:Nat}{v:Int}(hd:d.length=n)(hi:i<n)(h:∀j,j<i->d[j]? = some (DV j))(hv:v=DV i):∀j,j<i+1->(d.set i v)[j]? = some (DV j):=λj hj=>by
 by_cases e:j=i
 ·subst e;rw[List.getElem?_set_self (by omega),hv]
 ·rw[List.getElem?_set_ne (λh=>e h.symm)];exact h j (by omega)
theorem uM{E:List Evt}{base:Int}{l:List Int}{m:Nat}{v:Int}(h:l[m]? = some v):jC E base (l.drop m)=if lC E base v=true then v else jC E base (l.drop (m+1)):=by
 have e:l.drop m=v :: l.drop (m+1):=by
  obtain⟨h1,h2⟩:=aj.1 h;rw[List.drop_eq_getElem_cons h1,h2]
 rw[e];unfold jC;rw[List.find?_cons]
 cases lC E base v<;>rfl
theorem Fh:(Tryz.prog.info? eN.ty).map (λi=>(i.zero.map (·.cells),i.size,i.bytes))=some (some (eN.enc 0).toArray,eN.sz,8):=by kernel_rfl
structure Ay(C:Cl)(E:List Evt)(w:World)(y:CR)(t q:Nat)(l:List Int):Prop where
 t8:t<8
 k:(K7 E t)[q]? = some (crK y)
 i:(I7 E t)[q]? = some l
 n:y.il=l.length
 o:Own eN w y.inn l
 b:l.length<=400000
theorem Cf{C:Cl}{E:List Evt}{w:World}{rem:Nat->List CR}(hr:∀t,t<8->(rem t).map crK=K7 E t)(hi:∀t,t<8->InnM w (rem t) (I7 E t)):∃f:Nat->Nat×Nat×List Int,∀i y,(dl (tot rem) rem)[i]? = some y->Ay C E w y (f i).1 (f i).2.1 (f i).2.2:=by
 refine Classical.axiomOfChoice (r:=λ(i:Nat) (p:Nat×Nat×List Int)=>∀y,(dl (tot rem) rem)[i]? = some y->Ay C E w y p.1 p.2.1 p.2.2) λi=>?_
 cases e:(dl (tot rem) rem)[i]? with
 | none=>exact⟨(0,0,[]),λy h=>by cases h⟩
 | some y=>
  obtain⟨t,ht,h1⟩:=rn _ _ (aC e);obtain⟨q,hq⟩:=List.getElem?_of_mem h1;obtain⟨l,a1,a2,a3,a4⟩:=(hi t ht).2 q y hq;refine⟨(t,q,l),λz hz=>?_⟩;cases hz;exact⟨ht,by rw[<-hr t ht,List.getElem?_map,hq];rfl,a1,a2,a4,a3⟩
theorem topC(aw:∀w:World,NmW w->IsaW w->Calls Tryz.prog 4 #[] w λe w'=>e=.returned (.bool true)/\Below w.heap.size w w')(C:Cl)(w:World)(hM:MemC w C)(hN:NmW w)(hI:IsaW w)(v1:Value)(s:List Int)(h1:R8 w v1 s):Calls Tryz.prog 3 #[C.v,v1] w λe w'=>e=.returned (.bool true)/\Below w.heap.size w w':=by
 obtain⟨p1,c1,rfl⟩:=h1.form;obtain⟨n1,hn1⟩:=Zh (s.length);rw[<-hn1.out]at h1 ⊢;unfold Cl.v;go_enter Tryz.func3,Tryz.ntmps3;go_upto_region 1 with(fail);obtain⟨W,kC,e0,e1,XC,hal⟩:=aO w #[.slice C.A C.no C.ca,.int .i64 C.vars,.slice C.W C.nw C.cw,.int .i64 C.room,.slice C.T C.nt C.ct] 26;rw[e0,e1];clear e0 e1;go_cut [29] from 18 to 29 (λs29 wx=>∃bb,s29=.bool bb/\(bb=false->n1<=3000)/\Below W.heap.size W wx)
 case first=>
  cases hlb:nj C with
  | true=>
   have hlg:lgI C=1:=ag hlb;refine ab ?_;refine Zq 4 #[] (aw W (hN.below hal) (hI.below hal)) (λw1 h1b=>?_)
   iterate 2 refine Zv ?_
   refine bw (by kernel_rfl) (.agg #[.slice C.A C.no C.ca,.int .i64 C.vars,.slice C.W C.nw C.cw,.int .i64 C.room,.slice C.T C.nt C.ct]) (aZ 26 (.tmp 2) rfl kC 0 rfl [.slice C.A C.no C.ca,.int .i64 C.vars,.slice C.W C.nw C.cw,.int .i64 C.room,.slice C.T C.nt C.ct] _ (ny (keep XC h1b)) Tryz.underlying26 rfl (by kernel_rfl)) ?_;refine Zk ?_
   with_reducible refine jj (by kernel_rfl) 5 #[C.v] ?_ (zP C w1 (hM.below (hal.trans (h1b.mono hal.size)))) (λw2 h2b=>?_)
   ·first|(go_simp;done)|(go_simp;rfl)
   refine Zk ?_
   with_reducible refine bw (by kernel_rfl) ?_ ?_ ?_
   rotate_left
   ·go_simp;try with_reducible rfl
   refine Zk ?_
   iterate 2 refine Zv ?_
   iterate 3
    with_reducible refine gu (by kernel_rfl) ?_
    refine Zk ?_
   refine Zv ?_;go_wp2;go_meet
   case rel=>exact⟨true,rfl,λh=>(by cases h),h1b.trans (h2b.mono h1b.size)⟩
  | false=>
   have hlg:lgI C=0:=af (by rw[hlb];decide)
   by_cases k1:3000<n1
   ·have k1':(3000:Int)<n1:=by omega
    refine ab ?_;refine Zq 4 #[] (aw W (hN.below hal) (hI.below hal)) (λw1 h1b=>?_)
    iterate 2 refine Zv ?_
    refine bw (by kernel_rfl) (.agg #[.slice C.A C.no C.ca,.int .i64 C.vars,.slice C.W C.nw C.cw,.int .i64 C.room,.slice C.T C.nt C.ct]) (aZ 26 (.tmp 2) rfl kC 0 rfl [.slice C.A C.no C.ca,.int .i64 C.vars,.slice C.W C.nw C.cw,.int .i64 C.room,.slice C.T C.nt C.ct] _ (ny (keep XC h1b)) Tryz.underlying26 rfl (by kernel_rfl)) ?_;refine Zk ?_
    with_reducible refine jj (by kernel_rfl) 5 #[C.v] ?_ (zP C w1 (hM.below (hal.trans (h1b.mono hal.size)))) (λw2 h2b=>?_)
    ·first|(go_simp;done)|(go_simp;rfl)
    refine Zk ?_
    with_reducible refine bw (by kernel_rfl) ?_ ?_ ?_
    rotate_left
    ·go_simp;try with_reducible rfl
    refine Zk ?_
    iterate 2 refine Zv ?_
    iterate 3
     with_reducible refine bw (by kernel_rfl) ?_ ?_ ?_
     rotate_left
     ·go_simp;try with_reducible rfl
     refine Zk ?_
    refine Zv ?_;go_wp2;go_meet
    case rel=>exact⟨true,rfl,λh=>(by cases h),h1b.trans (h2b.mono h1b.size)⟩
   have k1':¬(3000:Int)<n1:=by omega
   refine ab ?_;refine Zq 4 #[] (aw W (hN.below hal) (hI.below hal)) (λw1 h1b=>?_)
   iterate 2 refine Zv ?_
   refine bw (by kernel_rfl) (.agg #[.slice C.A C.no C.ca,.int .i64 C.vars,.slice C.W C.nw C.cw,.int .i64 C.room,.slice C.T C.nt C.ct]) (aZ 26 (.tmp 2) rfl kC 0 rfl [.slice C.A C.no C.ca,.int .i64 C.vars,.slice C.W C.nw C.cw,.int .i64 C.room,.slice C.T C.nt C.ct] _ (ny (keep XC h1b)) Tryz.underlying26 rfl (by kernel_rfl)) ?_;refine Zk ?_
   with_reducible refine jj (by kernel_rfl) 5 #[C.v] ?_ (zP C w1 (hM.below (hal.trans (h1b.mono hal.size)))) (λw2 h2b=>?_)
   ·first|(go_simp;done)|(go_simp;rfl)
   refine Zk ?_
   with_reducible refine bw (by kernel_rfl) ?_ ?_ ?_
   rotate_left
   ·go_simp;try with_reducible rfl
   refine Zk ?_
   iterate 2 refine Zv ?_
   iterate 3
    with_reducible refine bw (by kernel_rfl) ?_ ?_ ?_
    rotate_left
    ·go_simp;try with_reducible rfl
    refine Zk ?_
   refine Zv ?_;go_wp2;go_meet
   case rel=>exact⟨false,rfl,λ_=>(by omega),h1b.trans (h2b.mono h1b.size)⟩
 case rest=>
  obtain⟨bb,rfl,hlen,hbc⟩:=hcut;have hal2:=hal.trans (hbc.mono hal.size);replace XC:=keep XC hbc;clear hal hbc
  cases bb with
  | true=>
   go_upto_region 2 with(fail);refine ab ?_;refine Zq 4 #[] (aw wc (hN.below hal2) (hI.below hal2)) (λw3 h3=>?_);refine Zv ?_;go_wp2;go_ret;exact⟨rfl,hal2.trans (h3.mono hal2.size)⟩
  | false=>
  have k1:=hlen rfl;obtain⟨E,hE⟩:=Zh (ma C s)
  have hle:E.length<=400000:=by rw[hE.out];exact yC hM.hK s (by rw[<-hn1.out];exact k1)
  have hr1:=D4 C wc (hM.below hal2) (hN.below hal2) (hI.below hal2) _ s (h1.below hal2) (by rw[<-hn1.out];omega);rw[<-hE.out]at hr1;obtain⟨ri,hri⟩:=Zh (wN C);rw[<-hri.out]at hr1;go_upto_region 3 with(fail);refine ab ?_;refine Zd 26 XC Tryz.underlying26 ?_;refine Zv ?_;refine aP rfl 6 #[C.v,.slice p1 n1 c1] (λv w'=>(∃v',v=.tuple #[v',.int .i64 ri]/\Own eE w' v' E)/\Below wc.heap.size wc w') ?_ (hr1.mono λe w' h=>h.1.elim λv' h1=>⟨_,h1.1,⟨v',rfl,h1.2⟩,h.2⟩) ?_
  ·first|(go_simp;done)|(go_simp;rfl)
  rintro _ w3 ⟨⟨va,rfl,hOa⟩,hb3⟩;refine Zk ?_
  iterate 5 refine Zv ?_
  obtain⟨pa,ca,rfl⟩:=hOa.form2;have hal3:=hal2.trans (hb3.mono hal2.size);replace XC:=keep XC hb3;clear hal2 hb3 hr1
  by_cases hok:okF C
  case neg=>
   obtain rfl:ri=0:=by rw[hri.out];exact af hok
   go_wp2;go_ret;exact⟨rfl,hal3⟩
  obtain rfl:ri=1:=by rw[hri.out];exact ag hok
  have hlaw:uY C E:=by rw[hE.out];exact Ev hM.hK s (by rw[<-hn1.out];exact k1) hok
  have hck:=lx hok.1;have hgd:=hck.good;unfold ld at hgd
  have hUk:∀x∈E,U32 x.k:=by rw[hE.out];exact FI hM.hK s (by rw[<-hn1.out];exact k1) hok
  obtain⟨SS,hSS⟩:=Zh (bH C C.nt);go_upto_region 6 with(fail);refine ab ?_;refine Zd 26 XC Tryz.underlying26 ?_;refine aP rfl 7 #[C.v] (λv w'=>Own eSi w' v SS/\Below w3.heap.size w3 w') ?_ ((yD C w3 (hM.below hal3) (by omega) (λt ht=>ar (hck.len t ht) (by omega))).mono λe w' h=>h.1.elim λv h1=>⟨v,h1.1,by rw[hSS.out];exact h1.2,h.2⟩) ?_
  ·first|(go_simp;done)|(go_simp;rfl)
  rintro vs w4 ⟨hOs,hb4⟩;refine Zk ?_;refine Zv ?_;obtain⟨ps,cs,rfl⟩:=hOs.form2;have hal4:=hal3.trans (hb4.mono hal3.size);replace XC:=keep XC hb4;replace hOa:=hOa.below hb4;clear hal3 hb4
  obtain⟨g,cur,ty0,hG,hGc,hGp⟩:∃(g:Nat)(cur:Array Value)(ty0:TypeId),w4.heap[g]? = some (.cells cur ty0 (0,0))/\(∀i x,E[i]? = some x->∀q v,(fp x)[q]? = some v->cur[i * 8+q]? = some v)/\Hid (0<E.length->pa=some ⟨g,0,none⟩/\ty0=46):=by
   rcases hOa.form with⟨_,e⟩|⟨g,c,e,_⟩
   ·exact⟨kC,_,_,XC,λi x hx=>(by rw[e]at hx;cases hx),λh=>absurd h (by rw[e];exact Nat.lt_irrefl 0)⟩
   ·simp only[Value.slice.injEq]at e
    obtain⟨rfl,_,rfl⟩:=e;obtain⟨cu,hcu⟩:=hOa.blk rfl;refine⟨g,cu,46,hcu,λi x hx q v hv=>?_,λ_=>⟨rfl,rfl⟩⟩;have h1:=((hOa.at eE_ok).elem eE_ok hx) q v hv;rw[Nat.zero_add,ae w4 g _ cu _ _ hcu]at h1;exact h1
  have hcl:=uI (p0:=pa) E hle hUk g ca w4 cur hG hGc hGp;go_upto_region 7 with(fail);refine ab ?_;refine Zv ?_;refine aP rfl 8 #[.slice pa E.length ca] (λv w'=>(∃rem,(∀t,t<8->(rem t).map crK=K7 E t)/\Own eC w' v (dl (tot rem) rem)/\∀t,t<8->InnM w' (rem t) (I7 E t))/\Below w4.heap.size w4 w') ?_ (hcl.mono λe w' h=>let⟨⟨v,rem,a1,a2⟩,a3⟩:=h;⟨v,a1,⟨rem,a2⟩,a3⟩) ?_
  ·first|(go_simp;done)|(go_simp;rfl)
  rintro vc w5 ⟨⟨rem,hrm,hOc,hin⟩,hb5⟩;refine Zk ?_;refine Zv ?_;obtain⟨f,hf⟩:=Cf (C:=C) hrm hin
  have hnl:(dl (tot rem) rem).length<=4000000:=by
   have h1:=ql (tot rem) rem
   have h2:∀t,t<8->(rem t).length<=400000:=λt ht=>by
    have h3:=Bm E t;rw[<-hrm t ht,List.length_map]at h3;omega
   have:=h2 0 (by decide);have:=h2 1 (by decide);have:=h2 2 (by decide);have:=h2 3 (by decide);have:=h2 4 (by decide);have:=h2 5 (by decide);have:=h2 6 (by decide);have:=h2 7 (by decide);unfold tot at h1 ⊢;omega
  obtain⟨Lc,hLc⟩:=Zh (dl (tot rem) rem);rw[<-hLc.out]at hOc hf hnl
  obtain⟨DV,hDV⟩:∃DV:Nat->Int,Hid (∀j y,Lc[j]? = some y->DV j=dI C E y.site (f j).2.2):=⟨λj=>match Lc[j]? with
   | some y=>dI C E y.site (f j).2.2
   | none=>0,λj y h=>by simp only[h]⟩
  obtain⟨pc,cc,rfl⟩:=hOc.form2;obtain⟨nL,hnL⟩:=Zh (Lc.length);rw[<-hnL.out]at hOc hnl ⊢;have hal5:=hal4.trans (hb5.mono hal4.size);replace XC:=keep XC hb5;replace hOa:=hOa.below hb5;replace hOs:=hOs.below hb5;clear hal4 hb5 hrm hin hcl hG hGc hGp hLc;replace hf:Hid (∀i y,Lc[i]? = some y->Ay C E w5 y (f i).1 (f i).2.1 (f i).2.2):=hf;obtain⟨nE,hnE⟩:=Zh (E.length);obtain⟨nS,hnS⟩:=Zh (SS.length);rw[<-hnE.out]at hOa ⊢;rw[<-hnS.out]at hOs ⊢;go_upto_region 8 with(fail);refine ab ?_
  iterate 2 refine Zv ?_
  refine sA jc rfl 23 Tryz.underlying23 0 8 Fh (by decide) (.tmp 44) (.tmp 44) rfl nL hnl rfl rfl (λw6 gd hD hb6 hgd=>?_);refine Zk ?_;refine Zv ?_;go_upto_region 10 with(fail);have hgd':Hid (w5.heap.size<=gd):=aD hgd.out.symm;go_loopw [10] (λv wr=>∃i:Nat,v=.int .i64 i/\i<=nL/\∃d:List Int,Own eN wr (.slice (some ⟨gd,0,none⟩) nL nL) d/\d.length=nL/\(∀j,j<i->d[j]? = some (DV j))/\Below w5.heap.size w5 wr) (λv _=>nL - (intOf v).toNat)
  case atStart=>exact⟨0,rfl,au _,_,hD,by simp,λj h=>absurd h (by omega),hb6⟩
  case round=>
   obtain⟨i,rfl,hi,d,hd,hdl,hdv,hb⟩:=hrel;clear hD hb6 hgd
   by_cases hlt:i<nL
   case neg=>
    obtain rfl:i=nL:=by omega
    have hl1:¬((i:Int)<i):=by omega
    clear hlt hi;go_upto_region 24 with(fail);go_loopw [16] (λv wx=>∃j:Nat,v=.int .i64 j/\j<=i/\Own eN wx (.slice (some ⟨gd,0,none⟩) i i) d/\Below w5.heap.size w5 wx) (λv _=>i - (intOf v).toNat)
    case atStart=>exact⟨0,rfl,au _,hd,hb⟩
    case round=>
     clear hd hb;obtain⟨j,rfl,hj,hd,hb⟩:=hrel
     by_cases hjl:j<i
     case neg=>
      obtain rfl:j=i:=by omega
      go_wp2;go_ret;exact⟨rfl,hal5.trans (hb.mono hal5.size)⟩
     have hj0:(0:Int)<=j:=by omega
     have hj1:(j:Int)<i:=by omega
     go_upto_region 27 with(fail);go_loopw [17] (λv wx=>∃k:Nat,v=.int .i64 k/\k<=i/\Own eN wx (.slice (some ⟨gd,0,none⟩) i i) d/\Below w5.heap.size w5 wx) (λv _=>i - (intOf v).toNat)
     case atStart=>exact⟨0,rfl,au _,hd,hb⟩
     case round=>
      clear hd hb;obtain⟨k,rfl,hk,hd,hb⟩:=hrel
      by_cases hkl:k<i
      case neg=>
       obtain rfl:k=i:=by omega
       go_wp2;go_roundw
       case rel=>exact⟨j+1,by go_num,by omega,hd,hb⟩
       case measure=>simp[intOf];omega
      have hk0:(0:Int)<=k:=by omega
      have hk1:(k:Int)<i:=by omega
      obtain⟨yi,hyi⟩:∃y,Lc[j]? = some y:=⟨Lc[j]'(by rw[<-hnL.out];assumption),aq _⟩;have hDi:=hDV.out j yi hyi;obtain⟨hti,hki,hii,_,_,_⟩:=hf.out j yi hyi;obtain⟨sti,hsti,hs0i,_,_⟩:=hlaw.site _ _ _ hti hki;have hstci:=hsti;rw[<-hSS.out]at hsti;obtain⟨si,hsi⟩:∃s:Nat,(crK yi).site=s:=⟨(crK yi).site.toNat,by omega⟩
      have hspi:(0:Int)<=si:=by omega
      rw[hsi,Int.toNat_natCast]at hsti
      have hs1i:(si:Int)<nS:=by have:=(aj.1 hsti).1;rw[hnS.out];omega
      obtain⟨gci,epci⟩:∃g,Hid (pc=some ⟨g,0,none⟩):=ix hOc hyi;obtain⟨gsi,epsi⟩:∃g,Hid (ps=some ⟨g,0,none⟩):=ix hOs hsti
      have rCi:∀w',Below wr.heap.size wr w'->w'.rangeAt gci (j * 6) (crL yi):=λw' h'=>by
       have h1:=((show Own eC w5 (.slice (some ⟨gci,0,none⟩) _ cc) Lc from epci.out▸hOc).below (hb.trans (h'.mono hb.size))).at eC_ok |>.elem eC_ok hyi;rw[Nat.zero_add]at h1;exact h1
      obtain⟨Fi,hFi⟩:=Zh ((crK yi).fin);obtain⟨oi,hoi⟩:=Zh (sti.obj);obtain⟨di,hdi⟩:=Zh (DV j)
      have cSi:∀w',Below wr.heap.size wr w'->w'.cell? ⟨gci,j * 6,none⟩=some (.int .i64 si):=λw' h'=>by
       rw[<-hsi];exact rCi w' h' 0 _ rfl
      have cFi:∀w',Below wr.heap.size wr w'->w'.cell? ⟨gci,j * 6+3,none⟩=some (.int .i64 Fi):=λw' h'=>by
       rw[hFi.out];exact rCi w' h' 3 _ rfl
      have cOi:∀w',Below wr.heap.size wr w'->w'.cell? ⟨gsi,si * 4+1,none⟩=some (.int .i64 oi):=λw' h'=>by
       have h1:=((show Own eSi w5 (.slice (some ⟨gsi,0,none⟩) nS cs) SS from epsi.out▸hOs).below (hb.trans (h'.mono hb.size))).at jl |>.elem jl hsti;rw[Nat.zero_add]at h1;rw[hoi.out];exact h1 1 _ rfl
      have cDi:∀w',Below wr.heap.size wr w'->w'.cell? ⟨gd,j,none⟩=some (.int .i64 di):=λw' h'=>by
       have h1:=((hd.below h').at jc).elem jc (hdv j (by assumption));have h2:=h1 0 _ rfl;rw[hdi.out];simpa[eN] using h2
      clear rCi;obtain⟨yk,hyk⟩:∃y,Lc[k]? = some y:=⟨Lc[k]'(by rw[<-hnL.out];assumption),aq _⟩;have hDk:=hDV.out k yk hyk;obtain⟨htk,hkk,hik,_,_,_⟩:=hf.out k yk hyk;obtain⟨stk,hstk,hs0k,_,_⟩:=hlaw.site _ _ _ htk hkk;have hstck:=hstk;rw[<-hSS.out]at hstk;obtain⟨sk,hsk⟩:∃s:Nat,(crK yk).site=s:=⟨(crK yk).site.toNat,by omega⟩
      have hspk:(0:Int)<=sk:=by omega
      rw[hsk,Int.toNat_natCast]at hstk
      have hs1k:(sk:Int)<nS:=by have:=(aj.1 hstk).1;rw[hnS.out];omega
      obtain⟨gck,epck⟩:∃g,Hid (pc=some ⟨g,0,none⟩):=ix hOc hyk;obtain⟨gsk,epsk⟩:∃g,Hid (ps=some ⟨g,0,none⟩):=ix hOs hstk
      have rCk:∀w',Below wr.heap.size wr w'->w'.rangeAt gck (k * 6) (crL yk):=λw' h'=>by
       have h1:=((show Own eC w5 (.slice (some ⟨gck,0,none⟩) _ cc) Lc from epck.out▸hOc).below (hb.trans (h'.mono hb.size))).at eC_ok |>.elem eC_ok hyk;rw[Nat.zero_add]at h1;exact h1
      obtain⟨Fk,hFk⟩:=Zh ((crK yk).fin);obtain⟨ok,hok⟩:=Zh (stk.obj);obtain⟨dk,hdk⟩:=Zh (DV k)
      have cSk:∀w',Below wr.heap.size wr w'->w'.cell? ⟨gck,k * 6,none⟩=some (.int .i64 sk):=λw' h'=>by
       rw[<-hsk];exact rCk w' h' 0 _ rfl
      have cFk:∀w',Below wr.heap.size wr w'->w'.cell? ⟨gck,k * 6+3,none⟩=some (.int .i64 Fk):=λw' h'=>by
       rw[hFk.out];exact rCk w' h' 3 _ rfl
      have cOk:∀w',Below wr.heap.size wr w'->w'.cell? ⟨gsk,sk * 4+1,none⟩=some (.int .i64 ok):=λw' h'=>by
       have h1:=((show Own eSi w5 (.slice (some ⟨gsk,0,none⟩) nS cs) SS from epsk.out▸hOs).below (hb.trans (h'.mono hb.size))).at jl |>.elem jl hstk;rw[Nat.zero_add]at h1;rw[hok.out];exact h1 1 _ rfl
      have cDk:∀w',Below wr.heap.size wr w'->w'.cell? ⟨gd,k,none⟩=some (.int .i64 dk):=λw' h'=>by
       have h1:=((hd.below h').at jc).elem jc (hdv k (by assumption));have h2:=h1 0 _ rfl;rw[hdk.out];simpa[eN] using h2
      clear rCk
      have hfifo:Hid (oi=ok->0<=di->0<=dk->di<dk->0<=Fk->0<=Fi/\Fi<=Fk):=λa1 a2 a3 a4 a5=>by
       rw[hFi.out,hFk.out];rw[hFk.out]at a5;rw[hoi.out,hok.out]at a1;rw[hdi.out,hDi]at a2 a4;rw[hdk.out,hDk]at a3 a4;exact hlaw.fifo _ _ _ _ _ _ _ _ _ _ hti htk hki hkk hii hik hstci hstck a1 a2 a3 a4 a5
      clear hDi hDk hti htk hki hkk hii hik hstci hstck hsti hstk;go_upto_region 29 with(fail)
      by_cases a1:di<0
      case pos=>
       refine ZA wr ?_
       iterate 2 refine Zz ?_
       refine Zt (.pointer (some ⟨gd,j,none⟩)) ?_;refine Zz ?_;refine Zt (.bool true) ?_;refine Zz ?_
       iterate 5 refine Zs ?_
       iterate 2 refine Zz ?_
       iterate 19 refine Zs ?_
       refine Zz ?_;refine aQ (λw2 h2=>?_);replace hd:=hd.below h2;replace hb:=hb.trans (h2.mono hb.size);clear cSi cFi cOi cDi cSk cFk cOk cDk h2;go_wp2;go_roundw
       case rel=>exact⟨k+1,by go_num,by omega,hd,hb⟩
       case measure=>simp[intOf];omega
      by_cases a2:dk<0
      case pos=>
       refine ZA wr ?_
       iterate 2 refine Zz ?_
       refine Zt (.pointer (some ⟨gd,j,none⟩)) ?_;refine Zz ?_;refine Zt (.bool false) ?_
       iterate 3 refine Zz ?_
       refine Zt (.pointer (some ⟨gd,k,none⟩)) ?_;refine Zz ?_;refine Zt (.bool true) ?_
       iterate 2 refine Zz ?_
       iterate 19 refine Zs ?_
       refine Zz ?_;refine aQ (λw2 h2=>?_);replace hd:=hd.below h2;replace hb:=hb.trans (h2.mono hb.size);clear cSi cFi cOi cDi cSk cFk cOk cDk h2;go_wp2;go_roundw
       case rel=>exact⟨k+1,by go_num,by omega,hd,hb⟩
       case measure=>simp[intOf];omega
      by_cases a3:oi=ok
      case neg=>
       have a3b:(oi != ok)=true:=by simpa using a3
       refine ZA wr ?_
       iterate 2 refine Zz ?_
       refine Zt (.pointer (some ⟨gd,j,none⟩)) ?_;refine Zz ?_;refine Zt (.bool false) ?_
       iterate 3 refine Zz ?_
       refine Zt (.pointer (some ⟨gd,k,none⟩)) ?_;refine Zz ?_;refine Zt (.bool false) ?_
       iterate 5 refine Zz ?_
       refine Zy (.pointer (some ⟨gci,j * 6,none⟩)) (λw' h'=>by have:=epci.out;first|(go_simp;done)|(go_simp;rfl)) ?_
       iterate 2 refine Zz ?_
       refine Zy (.pointer (some ⟨gsi,si * 4,none⟩)) (λw' h'=>by have:=epsi.out;first|(go_simp;done)|(go_simp;rfl)) ?_
       iterate 5 refine Zz ?_
       refine Zy (.pointer (some ⟨gck,k * 6,none⟩)) (λw' h'=>by have:=epck.out;first|(go_simp;done)|(go_simp;rfl)) ?_
       iterate 2 refine Zz ?_
       refine Zy (.pointer (some ⟨gsk,sk * 4,none⟩)) (λw' h'=>by have:=epsk.out;first|(go_simp;done)|(go_simp;rfl)) ?_
       iterate 2 refine Zz ?_
       refine Zt (.bool true) ?_;refine Zz ?_;refine aQ (λw2 h2=>?_);replace hd:=hd.below h2;replace hb:=hb.trans (h2.mono hb.size);clear cSi cFi cOi cDi cSk cFk cOk cDk h2;go_wp2;go_roundw
       case rel=>exact⟨k+1,by go_num,by omega,hd,hb⟩
       case measure=>simp[intOf];omega
      have a3b:(oi != ok)=false:=by simpa using a3
      refine ZA wr ?_
      iterate 2 refine Zz ?_
      refine Zt (.pointer (some ⟨gd,j,none⟩)) ?_;refine Zz ?_;refine Zt (.bool false) ?_
      iterate 3 refine Zz ?_
      refine Zt (.pointer (some ⟨gd,k,none⟩)) ?_;refine Zz ?_;refine Zt (.bool false) ?_
      iterate 5 refine Zz ?_
      refine Zy (.pointer (some ⟨gci,j * 6,none⟩)) (λw' h'=>by have:=epci.out;first|(go_simp;done)|(go_simp;rfl)) ?_
      iterate 2 refine Zz ?_
      refine Zy (.pointer (some ⟨gsi,si * 4,none⟩)) (λw' h'=>by have:=epsi.out;first|(go_simp;done)|(go_simp;rfl)) ?_
      iterate 5 refine Zz ?_
      refine Zy (.pointer (some ⟨gck,k * 6,none⟩)) (λw' h'=>by have:=epck.out;first|(go_simp;done)|(go_simp;rfl)) ?_
      iterate 2 refine Zz ?_
      refine Zy (.pointer (some ⟨gsk,sk * 4,none⟩)) (λw' h'=>by have:=epsk.out;first|(go_simp;done)|(go_simp;rfl)) ?_
      iterate 2 refine Zz ?_
      refine Zt (.bool false) ?_;refine Zz ?_;refine aQ (λw2 h2=>?_);have cz:=λ(w':World) (h':Below w2.heap.size w2 w')=>h2.trans (h'.mono h2.size);replace cFi:=λw' h'=>cFi w' (cz w' h');replace cFk:=λw' h'=>cFk w' (cz w' h');replace cDi:=λw' h'=>cDi w' (cz w' h');replace cDk:=λw' h'=>cDk w' (cz w' h');replace hd:=hd.below h2;replace hb:=hb.trans (h2.mono hb.size);clear cSi cOi cSk cOk h2 cz;go_upto_region 30 with(fail)
      by_cases a4:di<dk
      case neg=>
       refine ZA w2 ?_
       iterate 2 refine Zz ?_
       refine Zt (.pointer (some ⟨gd,j,none⟩)) ?_
       iterate 3 refine Zz ?_
       refine Zt (.pointer (some ⟨gd,k,none⟩)) ?_;refine Zz ?_;refine Zt (.bool false) ?_;refine Zz ?_
       iterate 6 refine Zs ?_
       iterate 2 refine Zz ?_
       iterate 19 refine Zs ?_
       refine Zz ?_;refine aQ (λw4 h4=>?_);replace hd:=hd.below h4;replace hb:=hb.trans (h4.mono hb.size);clear cFi cDi cFk cDk h4;go_wp2;go_roundw
       case rel=>exact⟨k+1,by go_num,by omega,hd,hb⟩
       case measure=>simp[intOf];omega
      by_cases a5:0<=Fk
      case neg=>
       refine ZA w2 ?_
       iterate 2 refine Zz ?_
       refine Zt (.pointer (some ⟨gd,j,none⟩)) ?_
       iterate 3 refine Zz ?_
       refine Zt (.pointer (some ⟨gd,k,none⟩)) ?_;refine Zz ?_;refine Zt (.bool true) ?_
       iterate 3 refine Zz ?_
       refine Zy (.pointer (some ⟨gck,k * 6,none⟩)) (λw' h'=>by have:=epck.out;first|(go_simp;done)|(go_simp;rfl)) ?_
       iterate 2 refine Zz ?_
       refine Zt (.bool false) ?_
       iterate 2 refine Zz ?_
       iterate 19 refine Zs ?_
       refine Zz ?_;refine aQ (λw4 h4=>?_);replace hd:=hd.below h4;replace hb:=hb.trans (h4.mono hb.size);clear cFi cDi cFk cDk h4;go_wp2;go_roundw
       case rel=>exact⟨k+1,by go_num,by omega,hd,hb⟩
       case measure=>simp[intOf];omega
      obtain⟨a6,a7⟩:=hfifo.out a3 (by omega) (by omega) a4 a5
      have a6b:¬(Fi<0):=by omega
      have a7b:¬(Fk<Fi):=by omega
      refine ZA w2 ?_
      iterate 2 refine Zz ?_
      refine Zt (.pointer (some ⟨gd,j,none⟩)) ?_
      iterate 3 refine Zz ?_
      refine Zt (.pointer (some ⟨gd,k,none⟩)) ?_;refine Zz ?_;refine Zt (.bool true) ?_
      iterate 3 refine Zz ?_
      refine Zy (.pointer (some ⟨gck,k * 6,none⟩)) (λw' h'=>by have:=epck.out;first|(go_simp;done)|(go_simp;rfl)) ?_
      iterate 2 refine Zz ?_
      refine Zt (.bool true) ?_
      iterate 4 refine Zz ?_
      refine Zy (.pointer (some ⟨gci,j * 6,none⟩)) (λw' h'=>by have:=epci.out;first|(go_simp;done)|(go_simp;rfl)) ?_
      iterate 2 refine Zz ?_
      refine Zt (.bool false) ?_
      iterate 3 refine Zz ?_
      refine Zy (.pointer (some ⟨gci,j * 6,none⟩)) (λw' h'=>by have:=epci.out;first|(go_simp;done)|(go_simp;rfl)) ?_
      iterate 4 refine Zz ?_
      refine Zy (.pointer (some ⟨gck,k * 6,none⟩)) (λw' h'=>by have:=epck.out;first|(go_simp;done)|(go_simp;rfl)) ?_
      iterate 2 refine Zz ?_
      refine Zt (.bool false) ?_
      iterate 2 refine Zz ?_
      refine aQ (λw4 h4=>?_);replace hd:=hd.below h4;replace hb:=hb.trans (h4.mono hb.size);clear cFi cDi cFk cDk h4;go_wp2;go_roundw
      case rel=>exact⟨k+1,by go_num,by omega,hd,hb⟩
      case measure=>simp[intOf];omega
   have hl0:(0:Int)<=i:=by omega
   have hl1:(i:Int)<nL:=by omega
   obtain⟨y,hy⟩:∃y,Lc[i]? = some y:=⟨Lc[i]'(by rw[<-hnL.out];exact hlt),aq _⟩;have hDi:=hDV.out i y hy;obtain⟨ht8,hk7,hi7,hil,hio,hib⟩:=hf.out i y hy;obtain⟨st,hst,hs0,ho0,ho1⟩:=hlaw.site _ _ _ ht8 hk7;have hin7:=hlaw.inn _ _ (aC hi7);obtain⟨l,hl⟩:=Zh ((f i).2.2);rw[<-hl.out]at hDi hil hio hin7 hib;rw[<-hSS.out]at hst;obtain⟨si,hsi⟩:∃si:Nat,(crK y).site=si:=⟨(crK y).site.toNat,by omega⟩;rw[hsi,Int.toNat_natCast]at hst;obtain⟨gc,epc⟩:∃g,Hid (pc=some ⟨g,0,none⟩):=ix hOc hy;obtain⟨gs,eps⟩:∃g,Hid (ps=some ⟨g,0,none⟩):=ix hOs hst
   have hsl:si<nS:=by rw[hnS.out];exact(aj.1 hst).1
   have hs1:(0:Int)<=si:=by omega
   have hs2:(si:Int)<nS:=by omega
   obtain⟨ys,yw,yb,yf,yr,yp,yn,yc⟩:=y;obtain rfl:ys=si:=hsi;simp only at hil;subst hil
   have rC:∀w',Below w5.heap.size w5 w'->w'.rangeAt gc (i * 6) (crL ⟨si,yw,yb,yf,yr,yp,l.length,yc⟩):=λw' h'=>by
    have h1:=((show Own eC w5 (.slice (some ⟨gc,0,none⟩) nL cc) Lc from epc.out▸hOc).below h').at eC_ok |>.elem eC_ok hy;rw[Nat.zero_add]at h1;exact h1
   have rS:∀w',Below w5.heap.size w5 w'->w'.rangeAt gs (si * 4) (FK st):=λw' h'=>by
    have h1:=((show Own eSi w5 (.slice (some ⟨gs,0,none⟩) nS cs) SS from eps.out▸hOs).below h').at jl |>.elem jl hst;rw[Nat.zero_add]at h1;exact h1
   obtain⟨sw,so,sc,sa⟩:=st;obtain⟨jo,rfl⟩:∃jo:Nat,so=jo:=⟨so.toNat,by simp only at ho0;omega⟩;simp only at ho0 ho1;obtain⟨bO,oO,eA⟩:∃bO oO,Hid (C.A=some ⟨bO,oO,none⟩):=let⟨bO,oO,e,_⟩:=hM.objs (by omega);⟨bO,oO,e⟩;obtain⟨curd,hcud,hcsd⟩:=ex jc hd
   have hdi:i<curd.size:=by rw[hdl]at hcsd;simp only[eN]at hcsd;omega
   obtain⟨z,hz⟩:∃z,d[i]? = some z:=⟨d[i]'(by omega),aq _⟩;go_upto_region 12 with(fail);refine ab ?_
   iterate 2 refine Zv ?_
   refine Ze (.pointer (some ⟨gd,i,none⟩)) ?_;refine Zw 3 i (.int .i64 (-1)) (dw _) hcud hdi (λw7 s1 s2 s3=>?_);have hd7:Own eN w7 (.slice (some ⟨gd,0,none⟩) nL nL) (d.set i (-1)):=dG (q:=0) (u:=.int .i64 (-1)) jc hd hcud hz (by decide) rfl (by simpa[eN] using s1);have hb7:Below w5.heap.size w5 w7:=hb.trans (s3 _ hgd'.out);clear s1 s2 s3 hcud hcsd hdi hz hd;go_upto_region 13 with(fail);refine ab ?_
   iterate 3 refine Zv ?_
   refine Zu (.pointer (some ⟨gc,i * 6,none⟩)) (by have:=epc.out;first|(go_simp;done)|(go_simp;rfl)) ?_
   refine Zv ?_
   refine Zu (.int .i64 si) (by have:w7.cell? ⟨gc,i * 6,none⟩=some (.int .i64 si):=rC w7 hb7 0 _ rfl;first|(go_simp;done)|(go_simp;rfl)) ?_
   refine Zu (.pointer (some ⟨gs,si * 4,none⟩)) (by have:=eps.out;first|(go_simp;done)|(go_simp;rfl)) ?_
   refine Zm 39 #[.int .i64 sw,.int .i64 jo,.int .i64 sc,.int .u32 sa] (rS w7 hb7) Tryz.underlying39 ?_;refine Za 39 #[.int .i64 0,.int .i64 0,.int .i64 0,.int .u32 0] (λw8 b11 X11 l8 f8=>?_);refine Zo 39 b11 #[.int .i64 sw,.int .i64 jo,.int .i64 sc,.int .u32 sa] X11 (λw9 g1 g2 g3 g4=>?_);have h79:Below w7.heap.size w7 w9:=l8.trans (g3 _ (by simp only[Hid]at f8;omega));have hb9:Below w5.heap.size w5 w9:=hb7.trans (h79.mono hb7.size);have hd9:=hd7.below h79;clear l8 f8 X11 g2 g3 g4 hd7 h79 hb7;have hM9:=(hM.below hal5).below hb9;have hO9:=Bk (eA.out▸hM9.objs) (i:=jo) (by omega);obtain⟨kd,hkd⟩:=Zh ((C.f jo).k);rw[<-hkd.out]at hO9
   have x0:w9.cell? ⟨kC,0,none⟩=some (.slice (some ⟨bO,oO,none⟩) C.no C.ca):=by rw[<-eA.out];exact ae w9 kC 0 _ 26 _ (keep XC hb9)
   have x4:w9.cell? ⟨kC,4,none⟩=some (.slice C.T C.nt C.ct):=ae w9 kC 4 _ 26 _ (keep XC hb9);have xj:w9.cell? ⟨b11,1,none⟩=some (.int .i64 jo):=ae w9 b11 1 _ 39 _ g1;have xs:w9.cell? ⟨b11,2,none⟩=some (.int .i64 sc):=ae w9 b11 2 _ 39 _ g1;have xk:=hO9.1;clear hO9;have hj0:(0:Int)<=jo:=ho0;have hj1:(jo:Int)<C.no:=ho1
   have hdv9:=λ(v:Int) (e:v=DV i)=>Ek hdl hlt hdv e
   have hnq:¬(3<=kd/\kd<=5/\sc=1)->-1=DV i:=λh=>by
    rw[hDi];unfold dI;simp only[<-hSS.out,Int.toNat_natCast,hst];rw[<-hkd.out,af h]
   go_upto_region 15 with(fail)
   by_cases c1:kd<3
   ·refine ab ?_
    iterate 3 refine Zv ?_
    iterate 2
     with_reducible refine gu (by kernel_rfl) ?_
     refine Zk ?_
    iterate 2 refine Zv ?_
    iterate 3
     with_reducible refine gu (by kernel_rfl) ?_
     refine Zk ?_
    refine Zv ?_;clear x0 x4 xj xs xk;go_wp2;go_roundw
    case rel=>exact⟨i+1,by go_num,by omega,_,hd9,by simp[hdl],hdv9 _ (hnq (by omega)),hb9⟩
    case measure=>simp[intOf];omega
   by_cases c2:5<kd
   ·refine ab ?_
    iterate 3 refine Zv ?_
    iterate 2
     with_reducible refine bw (by kernel_rfl) ?_ ?_ ?_
     rotate_left
     ·go_simp;try with_reducible rfl
     refine Zk ?_
    iterate 2 refine Zv ?_
    iterate 3
     with_reducible refine gu (by kernel_rfl) ?_
     refine Zk ?_
    refine Zv ?_;clear x0 x4 xj xs xk;go_wp2;go_roundw
    case rel=>exact⟨i+1,by go_num,by omega,_,hd9,by simp[hdl],hdv9 _ (hnq (by omega)),hb9⟩
    case measure=>simp[intOf];omega
   by_cases c3:sc=1
   case neg=>
    have c3b:(sc != 1)=true:=by simpa using c3
    refine ab ?_
    iterate 3 refine Zv ?_
    iterate 2
     with_reducible refine bw (by kernel_rfl) ?_ ?_ ?_
     rotate_left
     ·go_simp;try with_reducible rfl
     refine Zk ?_
    iterate 2 refine Zv ?_
    iterate 3
     with_reducible refine bw (by kernel_rfl) ?_ ?_ ?_
     rotate_left
     ·go_simp;try with_reducible rfl
     refine Zk ?_
    refine Zv ?_;clear x0 x4 xj xs xk;go_wp2;go_roundw
    case rel=>exact⟨i+1,by go_num,by omega,_,hd9,by simp[hdl],hdv9 _ (hnq (by omega)),hb9⟩
    case measure=>simp[intOf];omega
   refine ab ?_
   iterate 3 refine Zv ?_
   iterate 2
    with_reducible refine bw (by kernel_rfl) ?_ ?_ ?_
    rotate_left
    ·go_simp;try with_reducible rfl
    refine Zk ?_
   iterate 2 refine Zv ?_
   iterate 3
    with_reducible refine bw (by kernel_rfl) ?_ ?_ ?_
    rotate_left
    ·go_simp;try with_reducible rfl
    refine Zk ?_
   refine Zv ?_;clear hnq;subst c3;obtain⟨bse,hbse⟩:=Zh (bs C jo)
   have hDb:DV i=jC E bse l:=by
    rw[hDi];unfold dI;simp only[<-hSS.out,Int.toNat_natCast,hst]
    rw[<-hkd.out,ag (by simp<;>omega),hbse.out]
   have hbc:=sD (some ⟨bO,oO,none⟩) C.no C.ca hM.ho C.f (by have:=hck.no;omega) C.nt jo w9 (eA.out▸hM9.objs) ((hN.below hal5).below hb9);rw[show((bsP C.f C.nt (pU C.no jo):Nat):Int)=bse by rw[hbse.out];unfold bs pU;rw[Int.toNat_natCast,Nat.min_eq_left (by omega)]]at hbc;go_upto_region 16 with(fail);refine ab ?_
   iterate 7 refine Zv ?_
   refine Zq 9 #[.slice (some ⟨bO,oO,none⟩) C.no C.ca,.int .i64 C.nt,.int .i64 jo] hbc (λw10 h10=>?_);refine Zv ?_;have hb10:Below w5.heap.size w5 w10:=hb9.trans (h10.mono hb9.size);have hd10:=hd9.below h10
   have c5:∀w',Below w5.heap.size w5 w'->w'.cell? ⟨gc,i * 6+5,none⟩=some (.slice yp l.length yc):=λw' h'=>rC w' h' 5 _ rfl
   have c5a:=c5 w10 hb10;clear x0 x4 xj xs xk hbc h10 hd9 hb9 g1 hM9 hbse hkd c1 c2;go_upto_region 17 with(fail);refine ab ?_
   iterate 2 refine Zv ?_
   refine Zu (.pointer (some ⟨gc,i * 6,none⟩)) (by have:=epc.out;first|(go_simp;done)|(go_simp;rfl)) ?_
   refine Zv ?_;refine Ze (.slice yp l.length yc) ?_;refine Zv ?_;have wl1:IntKind.i64.wrap ((l.length:Int) - 1)=l.length - 1:=IntWalk.i64_in _ ⟨by omega,by omega⟩;refine Zu (.int .i64 ((l.length:Int) - 1)) (by go_simp;try rw[wl1]) ?_;refine Zv ?_;clear wl1 c5a;go_upto_region 18 with(fail);go_loopw [14] (λv wx=>∃m:Nat,v=.int .i64 ((m:Int) - 1)/\m<=l.length/\∃d:List Int,Own eN wx (.slice (some ⟨gd,0,none⟩) nL nL) d/\d.length=nL/\(∀j,j<i->d[j]? = some (DV j))/\d[i]? = some (jC E bse (l.drop m))/\Below w5.heap.size w5 wx) (λv _=>(intOf v+1).toNat)
   case atStart=>
    exact⟨l.length,rfl,ah _,_,hd10,by simp[hdl],λj hj=>by rw[List.getElem?_set_ne (by omega)];exact hdv j hj,by rw[List.getElem?_set_self (by omega),List.drop_length];rfl,hb10⟩
   case round=>
    clear hd10 hb10 hdv9 hdv hdl hb;obtain⟨m,rfl,hm,d,hd,hdl,hdv,hdi,hb⟩:=hrel
    cases m with
    | zero=>
     have hng:¬((0:Int)<=((0:Nat):Int) - 1):=by omega
     go_wp2;go_roundw
     case rel=>exact⟨i+1,by go_num,by omega,d,hd,hdl,λj hj=>by
      by_cases e:j=i
      ·subst e;rw[hdi,hDb];rfl
      ·exact hdv j (by omega),hb⟩
     case measure=>simp[intOf];omega
    | succ m=>
     rw[show((m+1:Nat):Int) - 1=m by omega]
     have hm0:(0:Int)<=m:=by omega
     have hm1:(m:Int)<l.length:=by omega
     obtain⟨v,hv⟩:∃v,l[m]? = some v:=⟨l[m]'(by omega),aq _⟩;have hvb:=hin7 v (aC hv);rw[<-hnE.out]at hvb;obtain⟨k,rfl⟩:∃k:Nat,v=k:=⟨v.toNat,by omega⟩
     have hk0:(0:Int)<=k:=by omega
     have hk1:(k:Int)<nE:=hvb.2;obtain⟨x,hx⟩:∃x,E[k]? = some x:=⟨E[k]'(by have:=hnE.out;omega),aq _⟩;obtain⟨gi,egi⟩:∃g,Hid (yp=some ⟨g,0,none⟩):=ix hio hv;obtain⟨ga,ega⟩:∃g,Hid (pa=some ⟨g,0,none⟩):=ix hOa hx
     have cI:∀w',Below w5.heap.size w5 w'->w'.cell? ⟨gi,m,none⟩=some (.int .i64 k):=λw' h'=>by
      have h1:=((show Own eN w5 (.slice (some ⟨gi,0,none⟩) l.length yc) l from egi.out▸hio).below h').at jc |>.elem jc hv;have h2:=h1 0 _ rfl
      simpa[eN] using h2
     have rE:∀w',Below w5.heap.size w5 w'->w'.rangeAt ga (k * 8) (fp x):=λw' h'=>by
      have h1:=((show Own eE w5 (.slice (some ⟨ga,0,none⟩) nE ca) E from ega.out▸hOa).below h').at eE_ok |>.elem eE_ok hx;rw[Nat.zero_add]at h1;exact h1
     have hdd:=uM (E:=E) (base:=bse) hv
     have hdB:lC E bse k=decide (x.kind=4/\x.addr=bse):=by
      unfold lC;rw[Int.toNat_natCast,hx];simp
     rw[hdB]at hdd;obtain⟨x1,x2,x3,x4,x5,x6,x7,x8⟩:=x;have c5a:=c5 wr hb;have cIa:=cI wr hb;go_upto_region 20 with(fail);refine ab ?_
     iterate 3 refine Zv ?_
     refine Zu (.pointer (some ⟨gc,i * 6,none⟩)) (by have:=epc.out;first|(go_simp;done)|(go_simp;rfl)) ?_
     refine Zv ?_;refine Ze (.slice yp l.length yc) ?_;refine Zv ?_
     refine Zu (.pointer (some ⟨gi,m,none⟩)) (by have:=egi.out;first|(go_simp;done)|(go_simp;rfl)) ?_
     refine Zv ?_
     refine Zu (.pointer (some ⟨ga,k * 8,none⟩)) (by have:=ega.out;first|(go_simp;done)|(go_simp;rfl)) ?_
     refine Zm 46 #[.int .i64 x1,.int .i64 x2,.int .i64 x3,.int .i64 x4,.int .u32 x5,.int .u32 x6,.int .u32 x7,.bool x8] (rE _ hb) Tryz.underlying46 ?_;refine Za 46 #[.int .i64 0,.int .i64 0,.int .i64 0,.int .i64 0,.int .u32 0,.int .u32 0,.int .u32 0,.bool false] (λw11 b15 X15 l8 f8=>?_);refine Zo 46 b15 #[.int .i64 x1,.int .i64 x2,.int .i64 x3,.int .i64 x4,.int .u32 x5,.int .u32 x6,.int .u32 x7,.bool x8] X15 (λw12 g1 g2 g3 g4=>?_);have h12:Below wr.heap.size wr w12:=l8.trans (g3 _ (by simp only[Hid]at f8;omega));have hb12:Below w5.heap.size w5 w12:=hb.trans (h12.mono hb.size);have hd12:=hd.below h12;have y0:w12.cell? ⟨b15,0,none⟩=some (.int .i64 x1):=ae w12 b15 0 _ 46 _ g1;have y3:w12.cell? ⟨b15,3,none⟩=some (.int .i64 x4):=ae w12 b15 3 _ 46 _ g1;clear l8 f8 X15 g1 g2 g3 g4 h12 hd hb c5a cIa rE ega hdB
     have hNo:¬(x1=4/\x4=bse)->d[i]? = some (jC E bse (l.drop m)):=λh=>by rw[hdi,hdd];simp only[decide_eq_true_eq];rw[af h]
     have wm1:IntKind.i64.wrap ((m:Int) - 1)=m - 1:=IntWalk.i64_in _ ⟨by omega,by omega⟩;go_upto_region 21 with(fail)
     by_cases a4:x1=4
     case neg=>
      have a4b:(x1 == 4)=false:=by simpa using a4
      refine ab ?_
      iterate 4 refine Zv ?_
      iterate 4
       with_reducible refine gu (by kernel_rfl) ?_
       refine Zk ?_
      refine Zv ?_;clear y0 y3 cI;go_wp2;go_roundw
      case rel=>exact⟨m,by go_num,by omega,d,hd12,hdl,hdv,hNo (λh=>a4 h.1),hb12⟩
      case measure=>simp[intOf]
     subst a4
     by_cases a5:x4=bse
     case neg=>
      have a5b:(x4 == bse)=false:=by simpa using a5
      refine ab ?_
      iterate 4 refine Zv ?_
      iterate 4
       with_reducible refine bw (by kernel_rfl) ?_ ?_ ?_
       rotate_left
       ·go_simp;try with_reducible rfl
       refine Zk ?_
      refine Zv ?_;clear y0 y3 cI;go_wp2;go_roundw
      case rel=>exact⟨m,by go_num,by omega,d,hd12,hdl,hdv,hNo (λh=>a5 h.2),hb12⟩
      case measure=>simp[intOf]
     subst a5
     have hYes:jC E x4 (l.drop m)=k:=by rw[hdd];simp
     refine ab ?_
     iterate 4 refine Zv ?_
     iterate 4
      with_reducible refine bw (by kernel_rfl) ?_ ?_ ?_
      rotate_left
      ·go_simp;try with_reducible rfl
      refine Zk ?_
     refine Zv ?_;have c5b:=c5 w12 hb12;have cIb:=cI w12 hb12;obtain⟨curd,hcud,hcsd⟩:=ex jc hd12
     have hdi2:i<curd.size:=by rw[hdl]at hcsd;simp only[eN]at hcsd;omega
     clear y0 y3;go_upto_region 22 with(fail);refine ab ?_
     iterate 4 refine Zv ?_
     refine Zu (.pointer (some ⟨gc,i * 6,none⟩)) (by have:=epc.out;first|(go_simp;done)|(go_simp;rfl)) ?_
     refine Zv ?_;refine Ze (.slice yp l.length yc) ?_;refine Zv ?_
     refine Zu (.pointer (some ⟨gi,m,none⟩)) (by have:=egi.out;first|(go_simp;done)|(go_simp;rfl)) ?_
     refine Ze (.int .i64 k) ?_;refine Ze (.pointer (some ⟨gd,i,none⟩)) ?_;refine Zw 3 i (.int .i64 k) (dw _) hcud hdi2 (λw13 s1 s2 s3=>?_);have hd13:Own eN w13 (.slice (some ⟨gd,0,none⟩) nL nL) (d.set i k):=dG (q:=0) (u:=.int .i64 k) jc hd12 hcud hdi (by decide) rfl (by simpa[eN] using s1);have hb13:Below w5.heap.size w5 w13:=hb12.trans (s3 _ hgd'.out);clear s1 s2 s3 hcud hcsd hdi2 c5b cIb cI hd12 hb12;go_wp2;go_roundw
     case rel=>exact⟨m,by go_num,by omega,d.set i k,hd13,by simp[hdl],λj hj=>by rw[List.getElem?_set_ne (by omega)];exact hdv j hj,by rw[List.getElem?_set_self (by omega),hYes],hb13⟩
     case measure=>simp[intOf]
end Go.Proofs.YtldlcnaphednnaaGreatDoor
