/- Scripts of picks; a machine does them. A client's events under a script. How long a client is. Some rows for the law's walk; how many events there are. -/
import Derived.Test.YtldlcnaphednnaaGreatDoorM31
import Derived.Test.YtldlcnaphednnaaGreatDoorM20
import Derived.Test.YtldlcnaphednnaaGreatDoorM13
import Derived.Laws.StructEq
set_option maxRecDepth 100000
set_option maxHeartbeats 32000000
set_option linter.unusedVariables false
set_option linter.unusedSimpArgs false
namespace Go.Proofs.YtldlcnaphednnaaGreatDoor
open Go.RowKit Go.Maps
def eY:Enc Int:=⟨5,1,λk=>[.int .u8 k]⟩
theorem sU:eY.Ok:=⟨λx=>rfl,λx u hu=>by
 simp only[eY,List.mem_cons,List.not_mem_nil,or_false]at hu
 rcases hu with rfl;rfl,by decide⟩
def R8(w:World)(v:Value)(s:List Int):Prop:=(∀x∈s,0<=x/\x<256)/\((v=.slice none 0 0/\s=[])\/∃a c,v=.slice (some a) s.length c/\(0<s.length->∃b off,a=⟨b,off,none⟩/\b<w.heap.size/\RowAt eY w b off s))
theorem R8.below{w w':World}{v:Value}{s:List Int}(h:R8 w v s)(hb:Below w.heap.size w w'):R8 w' v s:=⟨h.1,h.2.elim .inl λ⟨a,c,e,h⟩=>.inr ⟨a,c,e,λhn=>by
 obtain⟨b,off,e,hl,hr⟩:=h hn
 exact⟨b,off,e,aA hl hb.size,λj u hu=>(hb.cell hl).trans (hr j u hu)⟩⟩⟩
theorem R8.form{w:World}{v:Value}{s:List Int}(h:R8 w v s):∃p c,v=.slice p s.length c:=by
 rcases h.2 with⟨rfl,rfl⟩|⟨a,c,e,_⟩
 ·exact⟨none,0,rfl⟩
 ·exact⟨_,_,e⟩
theorem R8.at{w:World}{p:Option Addr}{n c:Nat}{s:List Int}(h:R8 w (.slice p n c) s){i:Nat}{q:Int}(hq:s[i]? = some q):∃b off,p=some ⟨b,off,none⟩/\∀w',Below w.heap.size w w'->w'.cell? ⟨b,off+i,none⟩=some (.int .u8 q):=by
 have hl:=(aj.1 hq).1;rcases h.2 with⟨_,rfl⟩|⟨a,c,e,h⟩
 ·cases hl
 ·obtain⟨b,off,rfl,hb,hr⟩:=h (by omega)
  simp only[Value.slice.injEq]at e;refine⟨b,off,e.1,λw' hw=>(hw.cell hb).trans ?_⟩;have:=RowAt.elem sU hr hq 0 _ rfl
  simpa[eY] using this
theorem R8.of{w:World}{v:Value}{s:List Int}(h:Own eY w v s)(hb:∀x∈s,0<=x/\x<256):R8 w v s:=by
 refine⟨hb,?_⟩;rcases h.form with⟨rfl,e⟩|⟨g,c,rfl,hg⟩
 ·exact .inl ⟨rfl,e⟩
 ·exact .inr ⟨_,c,rfl,λ_=>⟨g,0,rfl,h.lt rfl,h.at sU⟩⟩
theorem IsaW.upd{F F':Nat->Prop}{w w':World}(h:IsaW w)(hU:Upd F F' w w')(hF:∀k,F k->3<=k):IsaW w':=by
 have hb:=hU.low 3 hF h.pos;exact⟨λi hi=>(hb.cell (by show 0<3;decide)).trans (h.us i hi),λi hi=>(hb.cell (by show 2<3;decide)).trans (h.nm i hi)⟩
theorem GN:(Tryz.prog.info? eP.ty).map (λi=>(i.zero.map (·.cells),i.size,i.bytes))=some (some (eP.enc ⟨0,0⟩).toArray,eP.sz,16):=by kernel_rfl
theorem ofC(x:Int)(hx:0<=x/\x<256)(w:World):Calls Tryz.prog 33 #[.int .u8 x] w λe w'=>e=.returned (.agg (eP.enc (fA x)).toArray)/\Below w.heap.size w w':=by
 obtain⟨x0,x1⟩:=hx;go_enter Tryz.func33,Tryz.ntmps33;go_upto_region 1 with(fail);obtain⟨W,kX,e0,e1,XX,hal⟩:=aO w #[.int .i64 0,.int .i64 0] 117;rw[e0,e1]
 have hkX:w.heap.size<=kX:=by omega
 clear e0 e1;refine ab ?_;refine Zv ?_;refine aG rfl (.int .i64 x) ?_ ?_
 ·go_simp;try (rw[IntKind.wrap_i64];omega)
 refine Zk ?_;refine aG rfl (.int .i64 (x / 8)) ?_ ?_
 ·go_simp;try (rw[IntKind.wrap_i64,Int.tdiv_eq_ediv_of_nonneg x0];omega)
 refine Zk ?_;refine aG rfl (.int .i64 (x / 8%3)) ?_ ?_
 ·go_simp;try (rw[Int.tmod_eq_emod_of_nonneg (by omega)])
 refine Zk ?_;refine Zv ?_;refine aG rfl (.int .i64 x) ?_ ?_
 ·go_simp;try (rw[IntKind.wrap_i64];omega)
 refine Zk ?_;refine aG rfl (.int .i64 (x%8)) ?_ ?_
 ·go_simp;try (rw[Int.tmod_eq_emod_of_nonneg x0])
 refine Zk ?_;refine Zv ?_;refine Zo 117 kX #[.int .i64 (x / 8%3),.int .i64 (x%8)] XX (λw4 g1 g2 g3 g4=>?_);go_wp2;refine fK rfl rfl g1 rfl Tryz.underlying117 (by kernel_rfl) rfl ?_;exact⟨rfl,hal.trans (g3 _ hkX)⟩
theorem Er(v:Value)(l:List Int)(hl:l.length<=1000000)(w:World)(hO:R8 w v l):Calls Tryz.prog 15 #[v] w λe w'=>(∃v',e=.returned v'/\Own eP w' v' (l.map fA)/\∀k,v'.ownBlock=some k->w.heap.size<=k)/\Below w.heap.size w w':=by
 obtain⟨n,hn⟩:=Zh (l.length);obtain⟨p,c,rfl⟩:=hO.form;have hb:=hO.1;rw[<-hn.out]at hl hO ⊢;go_enter Tryz.func15,Tryz.ntmps15;go_upto_region 1 with(fail);refine ab ?_
 iterate 2 refine Zv ?_
 refine sA vI rfl 65 Tryz.underlying65 ⟨0,0⟩ 16 GN (by decide) (.tmp 7) (.tmp 7) rfl n (by omega) rfl rfl (λw1 r hR hb1 hr=>?_);refine Zk ?_;refine Zv ?_
 have hrw:w.heap.size<=r:=by simp only[Hid]at hr;omega
 go_upto_region 3 with(fail);go_loopw [11] (λv wr=>∃i:Nat,v=.int .i64 i/\i<=n/\Own eP wr (.slice (some ⟨r,0,none⟩) n n) ((l.take i).map fA++List.replicate (n - i) ⟨0,0⟩)/\Below w.heap.size w wr) (λv _=>n - (intOf v).toNat)
 case atStart=>exact⟨0,rfl,au _,by simpa using hR,hb1⟩
 case round=>
  clear hR hb1 hr;obtain⟨i,rfl,hi,hR,hb1⟩:=hrel
  by_cases hlt:i<n
  case neg=>
   obtain rfl:i=n:=by omega
   have hl1:¬((i:Int)<i):=by omega
   have hR2:Own eP wr (.slice (some ⟨r,0,none⟩) i i) (l.map fA):=by
    have h:=hR;rw[hn.out,List.take_length,Nat.sub_self,List.replicate_zero,List.append_nil,<-hn.out]at h;exact h
   clear hlt;go_wp2;go_ret;exact⟨⟨_,rfl,hR2,λk e=>by cases e;exact hrw⟩,hb1⟩
  have hl0:(0:Int)<=i:=by omega
  have hl1:(i:Int)<n:=by omega
  have hil:i<l.length:=by rw[<-hn.out];exact hlt
  obtain⟨q,hq⟩:∃q,l[i]? = some q:=⟨l[i],aq hil⟩;obtain⟨gl,off,rfl,hgl⟩:=hO.at hq;have yl:=hgl wr hb1;have hof:=ofC q (hb q (aC hq)) wr
  have hz:((l.take i).map fA++List.replicate (n - i) (⟨0,0⟩:Pik))[i]? = some ⟨0,0⟩:=by
   rw[List.getElem?_append_right (by simp<;>omega)]
   simp only[List.length_map,List.length_take];rw[Nat.min_eq_left (by omega),Nat.sub_self,List.getElem?_replicate,ag (by omega)]
  have hset:((l.take i).map fA++List.replicate (n - i) (⟨0,0⟩:Pik)).set i (fA q)=(l.take (i+1)).map fA++List.replicate (n - (i+1)) ⟨0,0⟩:=by
   have e1:n - i=(n - (i+1))+1:=by omega
   rw[e1,List.replicate_succ,List.set_append_right _ _ (by simp<;>omega)]
   simp only[List.length_map,List.length_take];rw[Nat.min_eq_left (by omega),Nat.sub_self,List.set_cons_zero,List.take_add_one,hq];simp
  clear hq;go_upto_region 5 with(fail);refine ab ?_
  iterate 3 refine Zv ?_
  refine Zq 33 #[.int .u8 q] (hof) (λw2 h2=>?_);refine aG rfl (.pointer (some ⟨r,i * 2,none⟩)) ?_ ?_
  ·go_simp
  refine Zk ?_;refine pF vI rfl 117 (by kernel_rfl) (.tmp 20) (.tmp 19) rfl r i n n _ ⟨0,0⟩ (fA q) rfl rfl (hR.below h2) hz (λw3 hO3 p2 p3 _=>?_);refine Zk ?_;rw[hset]at hO3;have hb3:=(hb1.trans (h2.mono hb1.size)).trans (p3 _ hrw);clear hR hof yl hset hz p2 p3;go_wp2;go_roundw
  case rel=>exact⟨i+1,by go_num,by omega,hO3,hb3⟩
  case measure=>simp[intOf];omega
theorem FR{b:Nat}{F:Nat->Prop}{M:Mac}{w:World}(hM:MMem w b F M)(hok:MOk M)(v:Value)(l:List Pik)(hO:Own eP w v l)(hdis:∀k,v.ownBlock=some k->¬F k)(hF3:∀k,F k->3<=k)(hs:M.evs.length+129 * l.length+129<=3000000)(hl:M.slp.length+l.length<=80000)(hW:IsaW w):Calls Tryz.prog 14 #[.pointer (some ⟨b,0,none⟩),v] w λe w'=>e=.returned (.tuple #[])/\∃F',MMem w' b F' (m9 M l)/\Upd F F' w w':=by
 obtain⟨n,hn⟩:=Zh (l.length);obtain⟨X,hX⟩:=Zh (m9 M l);rw[<-hX.out];obtain⟨p,c,rfl⟩:=hO.form2;rw[<-hn.out]at hl hO hs hdis ⊢;go_enter Tryz.func14,Tryz.ntmps14;go_upto_region 1 with(fail);go_loopw [8] (λv wr=>∃(i:Nat)(F':Nat->Prop),v=.int .i64 i/\i<=n/\MMem wr b F' (m9 M (l.take i))/\Upd F F' w wr) (λv _=>n - (intOf v).toNat)
 case atStart=>exact⟨0,F,rfl,au _,hM,Upd.refl _ _⟩
 case round=>
  obtain⟨i,F',rfl,hi,hMi,hU⟩:=hrel
  by_cases hlt:i<n
  case neg=>
   obtain rfl:i=n:=by omega
   have hl1:¬((i:Int)<i):=by omega
   have hMe:MMem wr b F' X:=by
    have h:=hMi;rw[hn.out,List.take_length]at h;rw[hX.out];exact h
   clear hlt;go_wp2;go_end0;exact⟨rfl,F',hMe,hU⟩
  have hl0:(0:Int)<=i:=by omega
  have hl1:(i:Int)<n:=by omega
  have hil:i<l.length:=by rw[<-hn.out];exact hlt
  obtain⟨q,hq⟩:∃q,l[i]? = some q:=⟨l[i],aq hil⟩
  obtain⟨gl,rfl⟩:∃gl,p=some ⟨gl,0,none⟩:=by
   rcases hO.form with⟨_,e⟩|⟨g,c,e,_⟩
   ·rw[e]at hil;exact absurd hil (Nat.not_lt_zero _)
   ·simp only[Value.slice.injEq]at e;exact⟨g,e.1⟩
  have hOi:Own eP wr (.slice (some ⟨gl,0,none⟩) n c) l:=hO.keep (λg e=>hU.blk g (hO.lt e) (hdis g e))
  have hrg:wr.rangeAt gl (i * 2) (eP.enc q):=by
   have h1:=(hOi.at vI).elem vI hq;rw[Nat.zero_add]at h1;exact h1
  have hst:=rO (l.take i) hok (by rw[List.length_take];omega);rw[List.length_take,Nat.min_eq_left (by omega)]at hst;have hse:=hst.ev;have hss:=hst.slp
  have hnext:Hid (m9 M (l.take (i+1))=kV (m9 M (l.take i)) q):=by
   show _=_;rw[List.take_add_one,hq,Dr];rfl
  have hWi:=hW.upd hU hF3;obtain⟨Mi,hMi'⟩:∃q,Hid (q=m9 M (l.take i)):=⟨_,rfl⟩;rw[<-hMi'.out]at hMi hst hse hss hnext;have hoki:=hst.ok;clear hst hq hOi hMi';go_upto_region 2 with(fail);refine ab ?_;refine aG rfl (.pointer (some ⟨gl,i * 2,none⟩)) ?_ ?_
  ·go_simp
  refine Zk ?_;refine dJ rfl (.agg (eP.enc q).toArray) (aZ 117 (.tmp 10) rfl gl (i * 2) rfl (eP.enc q) _ hrg Tryz.underlying117 rfl (by kernel_rfl)) ?_;refine Zk ?_;refine Za 117 #[.int .i64 0,.int .i64 0] (λw3 kX XX0 l3 f3=>?_);refine bx rfl 117 (.tmp 5) (.tmp 11) rfl kX (eP.enc q).toArray rfl rfl 117 _ XX0 (by kernel_rfl) rfl (by simp[Value.oneCell',eP]) (λw4 XX g2 g3 g4=>?_);refine Zk ?_;have hb4:Below wr.heap.size wr w4:=l3.trans (g3 _ (by simp only[Hid]at f3;omega));clear g2 g3 g4 XX0 l3 f3 hrg;have hM4:=hMi.below hb4;have hU4:=hU.trans (Upd.of_below (F:=F') hb4);go_upto_region 3 with(fail);refine ab ?_;refine Zv ?_;refine Zd 117 XX Tryz.underlying117 ?_;refine aP rfl 32 #[.pointer (some ⟨b,0,none⟩),.agg (eP.enc q).toArray] (λv w'=>v=.tuple #[]/\∃F2,MMem w' b F2 (kV Mi q)/\Upd F' F2 w4 w') ?_ ((Gw hM4 hoki (by omega) (by omega) (hWi.below hb4) q).mono λe w' h=>⟨_,h.1,rfl,h.2⟩) ?_
  ·first|(go_simp;done)|(go_simp;rfl)
  rintro _ w5 ⟨rfl,F5,hM5,hU5⟩;refine Zk ?_;rw[<-hnext.out]at hM5;have hU6:=hU4.trans hU5;clear hMi hU hM4 hU4 hU5 hnext XX hWi;go_wp2;go_roundw
  case rel=>exact⟨i+1,F5,by go_num,by omega,hM5,hU6⟩
  case measure=>simp[intOf];omega
theorem BG{b:Nat}{F:Nat->Prop}{M:Mac}{w:World}(hM:MMem w b F M)(hl:M.evs.length<=2000000):Calls Tryz.prog 16 #[.pointer (some ⟨b,0,none⟩)] w λe w'=>(∃v',e=.returned v'/\Own eE w' v' M.evs/\∀k,v'.ownBlock=some k->w.heap.size<=k)/\Below w.heap.size w w':=by
 obtain⟨V,vs,h⟩:=hM;have y5:w.cell? ⟨b,5,none⟩=some V.e:=ae w b 5 _ 105 _ h.blk;have hc:=CV V.e M.evs hl w h.re;go_enter Tryz.func16,Tryz.ntmps16;go_wp2_with fail;refine hc.mono ?_;rintro e w' ⟨⟨v',rfl,h1,h2⟩,hb⟩;go_wp2;go_ret;exact⟨⟨v',rfl,h1,h2⟩,hb⟩
theorem oI{C:Cl}(hch:(chk C).2.2=0)(hK:∀t i,t<C.nt->i<C.len t->0<=(C.op t i).K/\(C.op t i).K<4294967296)(hp:j9 (de C)=0):MOk (jd (de C) (mT C) C.room):=by
 have hc:=lx hch;obtain⟨h1,h2,h3,_⟩:=kt hc hK C.nt (ah _);obtain⟨m1,m2,m3⟩:=jV hc C.no (ah _);have hno:=hc.no;have hg:=hc.good;have hl:(de C).length=C.nt:=h1
 have h4:∀l:List (List Ins),j9 l=0->∀L∈l,L.length<=4000:=λl=>by
  induction l with
  | nil=>intro _ L hL;cases hL
  | cons a l ih=>
   intro h L hL;unfold j9 at h
   split at h
   ·rename_i e
    rcases List.mem_cons.1 hL with rfl|h5
    ·unfold lG at e
     split at e
     ·cases e
     ·omega
    ·exact ih h L h5
   ·rename_i e;exact absurd h e
 unfold ld at hg;refine⟨by simp only[jd,List.length_replicate,hl];omega,by simp only[jd,List.length_replicate,hl];omega,by simp[jd],by simp[jd],by simp only[jd,mT];omega,m3,λx hx=>?_,λs hs=>by simp[jd]at hs,λx hx j=>?_,λL hL=>⟨(h2 L hL).1,h4 _ hp L hL⟩⟩
 ·have:=List.eq_of_mem_replicate hx
  subst this;exact⟨⟨by simp[bf0],by simp[bf0],by simp[bf0],by simp only[bf0];omega,by simp only[bf0];omega⟩,⟨λj=>⟨Int.le_refl _,.inl rfl⟩,λj=>fJ,λh=>by simp[bf0]at h⟩⟩
 ·have:=List.eq_of_mem_replicate hx
  subst this;exact fJ
def okF(C:Cl):Prop:=(chk C).2.2=0/\j9 (de C)=0
instance (C:Cl):Decidable (okF C):=by unfold okF;infer_instance
def evF(C:Cl)(s:List Int):List Evt:=(m9 (jd (de C) (mT C) C.room) (s.map fA)).evs
def ma(C:Cl)(s:List Int):List Evt:=if okF C then evF C s else[]
def wN(C:Cl):Int:=if okF C then 1 else 0
def LG(w':World)(C:Cl)(p1:Option Addr)(n1 c1:Nat)(p2:Option Addr)(n2 c2:Nat)(x e7:Int):Prop:=
 if(chk C).2.2=0 then x=C.room/\e7=0/\PgM w' (.slice p1 n1 c1) (.slice p2 n2 c2) (de C) (mT C) else e7=(chk C).2.2
theorem PgM.below{w w':World}{vc vm:Value}{codes:List (List Ins)}{mem:List Int}(h:PgM w vc vm codes mem)(hb:Below w.heap.size w w'):PgM w' vc vm codes mem:=⟨h.1.elim λvs h'=>⟨vs,h'.1.below hb,h'.2.below hb⟩,h.2.below hb⟩
theorem LG.below{w w':World}{C:Cl}{p1:Option Addr}{n1 c1:Nat}{p2:Option Addr}{n2 c2:Nat}{x e7:Int}(h:LG w C p1 n1 c1 p2 n2 c2 x e7)(hb:Below w.heap.size w w'):LG w' C p1 n1 c1 p2 n2 c2 x e7:=by
 unfold LG at h ⊢
 split
 ·rename_i e;rw[ag e]at h;exact⟨h.1,h.2.1,h.2.2.below hb⟩
 ·rename_i e;rw[af e]at h;exact h
theorem LinkR.form{w':World}{C:Cl}{e:Ending}(h:LinkR w' C e):∃v,e=.returned v/\∃p1 n1 c1 p2 n2 c2 x e7,v=.tuple #[.agg #[.slice p1 n1 c1,.slice p2 n2 c2,.int .i64 x],.int .i64 e7]/\LG w' C p1 n1 c1 p2 n2 c2 x e7:=by
 unfold LinkR at h;unfold LG
 split at h
 ·rename_i h0
  obtain⟨vc,vm,rfl,hP⟩:=h;obtain⟨⟨vs,h1,h3⟩,h2⟩:=hP;obtain⟨p1,c1,rfl⟩:=h1.form2;obtain⟨p2,c2,rfl⟩:=h2.form2;exact⟨_,rfl,_,_,_,_,_,_,_,_,rfl,by rw[ag h0];exact⟨rfl,rfl,⟨vs,h1,h3⟩,h2⟩⟩
 ·rename_i h0
  exact⟨_,h,_,_,_,_,_,_,_,_,rfl,by rw[af h0]⟩
theorem D4(C:Cl)(w:World)(hM:MemC w C)(hN:NmW w)(hI:IsaW w)(v:Value)(s:List Int)(hO:R8 w v s)(hs:s.length<=6000):Calls Tryz.prog 6 #[C.v,v] w λe w'=>(∃v',e=.returned (.tuple #[v',.int .i64 (wN C)])/\Own eE w' v' (ma C s))/\Below w.heap.size w w':=by
 obtain⟨ri,hri⟩:=Zh (wN C);obtain⟨rl,hrl⟩:=Zh (ma C s);rw[<-hri.out,<-hrl.out];unfold Cl.v;go_enter Tryz.func6,Tryz.ntmps6;go_upto_region 1 with(fail);obtain⟨W,kC,e0,e1,XC,hal⟩:=aO w #[.slice C.A C.no C.ca,.int .i64 C.vars,.slice C.W C.nw C.cw,.int .i64 C.room,.slice C.T C.nt C.ct] 26;rw[e0,e1];clear e0 e1;refine ab ?_;refine Zd 26 XC Tryz.underlying26 ?_;refine aP rfl 12 #[C.v] (λv w'=>(∃p1 n1 c1 p2 n2 c2 x e7,v=.tuple #[.agg #[.slice p1 n1 c1,.slice p2 n2 c2,.int .i64 x],.int .i64 e7]/\LG w' C p1 n1 c1 p2 n2 c2 x e7)/\Below W.heap.size W w') ?_ ((GK C W (hM.below hal) (hN.below hal) (hI.below hal)).mono λe w' h=>h.1.form.elim λv hv=>⟨v,hv.1,hv.2,h.2⟩) ?_
 ·first|(go_simp;done)|(go_simp;rfl)
 rintro _ w1 ⟨⟨p1,n1,c1,p2,n2,c2,x,e7,rfl,hLG⟩,hb1⟩;refine Zk ?_
 iterate 3 refine Zv ?_
 refine Za 57 #[.slice none 0 0,.slice none 0 0,.int .i64 0] (λw2 kP XP l2 f2=>?_);refine Zo 57 kP #[.slice p1 n1 c1,.slice p2 n2 c2,.int .i64 x] XP (λw3 XP3 g2 g3 g4=>?_);refine Zv ?_
 have hkP:w1.heap.size<=kP:=by simp only[Hid]at f2;omega
 have hb3:Below w1.heap.size w1 w3:=l2.trans (g3 _ hkP);replace hLG:=hLG.below hb3;have hB:=(hal.trans (hb1.mono hal.size)).trans (hb3.mono (ar hal.size hb1.size));have hsz0:w.heap.size<=w3.heap.size:=hB.size;clear l2 f2 XP g2 g3 g4 hb1 hb3 hkP hal XC;unfold LG at hLG
 by_cases hch:(chk C).2.2=0
 case neg=>
  rw[af hch]at hLG
  have hno:¬okF C:=λh=>hch h.1
  have h7:(e7 != 0)=true:=by rw[hLG];simp[hch]
  obtain rfl:ri=0:=hri.out.trans (af hno);obtain rfl:rl=[]:=hrl.out.trans (af hno);clear hLG hri hrl hno hch;go_wp2;refine bodyPost_ret (results_tmp2 (by rfl) _ _ _) rfl ?_;exact⟨⟨_,rfl,Own.nil _⟩,hB⟩
 rw[ag hch]at hLG;obtain⟨rfl,rfl,hP⟩:=hLG;obtain⟨b1,b2,b3,_⟩:=kt (lx hch) hM.hK C.nt (ah _);obtain⟨m1,m2,m3⟩:=jV (lx hch) C.no (ah _);have hg:=(lx hch).good;have hno8:=(lx hch).no;unfold ld at hg;have hnw:=newC (vc:=.slice p1 n1 c1) (vm:=.slice p2 n2 c2) (codes:=de C) (mem:=mT C) (room:=C.room) ⟨by show 1<=(bc C C.nt).1.length;omega,by show(bc C C.nt).1.length<=8;omega⟩ ⟨by omega,by omega⟩ (by show(bf C C.no).length<=1024;omega) (λL hL=>(b2 L hL).1) (λL hL=>ar (b2 L hL).2 (by decide)) w3 hP (hI.below hB);clear b1 b2 b3 m1 m2 m3 hg hno8
 by_cases hpc:j9 (de C)=0
 case neg=>
  simp only[af hpc]at hnw
  have hno:¬okF C:=λh=>hpc h.2
  have h7:(j9 (de C) != 0)=true:=by simp[hpc]
  obtain⟨e8,he8⟩:=Zh (j9 (de C));rw[<-he8.out]at hnw h7;obtain rfl:ri=0:=hri.out.trans (af hno);obtain rfl:rl=[]:=hrl.out.trans (af hno);clear hri hrl hno hch hpc he8;go_upto_region 4 with(fail);refine ab ?_;refine Zd 57 XP3 Tryz.underlying57 ?_;refine aP rfl 13 #[.agg #[.slice p1 n1 c1,.slice p2 n2 c2,.int .i64 C.room]] (λv w'=>v=.tuple #[.pointer none,.int .i64 e8]/\Below w3.heap.size w3 w') ?_ (hnw.mono λe w' h=>⟨_,h.1,rfl,h.2⟩) ?_
  ·first|(go_simp;done)|(go_simp;rfl)
  rintro _ w4 ⟨rfl,hb4⟩;refine Zk ?_
  iterate 5 refine Zv ?_
  go_wp2;refine bodyPost_ret (results_tmp2 (by rfl) _ _ _) rfl ?_;exact⟨⟨_,rfl,Own.nil _⟩,hB.trans (hb4.mono hB.size)⟩
 simp only[ag hpc]at hnw;have hok:okF C:=⟨hch,hpc⟩;have hri':Hid (ri=1):=hri.out.trans (ag hok);have hrl':Hid (rl=evF C s):=hrl.out.trans (ag hok);have hmk:=oI hch hM.hK hpc;obtain⟨N,hN'⟩:∃q,Hid (q=jd (de C) (mT C) C.room):=⟨_,rfl⟩
 have hne:N.evs=[]/\N.slp=[]:=by rw[hN'.out];exact⟨rfl,rfl⟩
 rw[<-hN'.out]at hnw hmk;unfold evF at hrl';rw[<-hN'.out]at hrl';clear hri hrl hok hch hpc hN';go_upto_region 4 with(fail);refine ab ?_;refine Zd 57 XP3 Tryz.underlying57 ?_;refine aP rfl 13 #[.agg #[.slice p1 n1 c1,.slice p2 n2 c2,.int .i64 C.room]] (λv w'=>(∃b F,v=.tuple #[.pointer (some ⟨b,0,none⟩),.int .i64 0]/\MMem w' b F N/\∀k,F k->w3.heap.size<=k)/\Below w3.heap.size w3 w') ?_ (hnw.mono λe w' h=>h.1.elim λb h1=>h1.elim λF h2=>⟨_,h2.1,⟨b,F,rfl,h2.2⟩,h.2⟩) ?_
 ·first|(go_simp;done)|(go_simp;rfl)
 rintro _ w4 ⟨⟨b,F,rfl,hM4,hF⟩,hb4⟩;refine Zk ?_
 iterate 5 refine Zv ?_
 replace hB:=hB.trans (hb4.mono hB.size);have hsz:=hsz0;clear hnw hb4 hP XP3;have hrd:=Er v s (by omega) w4 (hO.below hB);go_upto_region 7 with(fail);refine ab ?_
 iterate 2 refine Zv ?_
 refine aP rfl 15 #[v] (λv w'=>(Own eP w' v (s.map fA)/\∀k,v.ownBlock=some k->w4.heap.size<=k)/\Below w4.heap.size w4 w') ?_ (hrd.mono λe w' h=>h.1.elim λv' h1=>⟨v',h1.1,h1.2,h.2⟩) ?_
 ·first|(go_simp;done)|(go_simp;rfl)
 rintro vP w5 ⟨⟨hOP,hdP⟩,hb5⟩;refine Zk ?_;have hrun:=FR (hM4.below hb5) hmk vP (s.map fA) hOP (λk hk hF'=>by have:=hdP k hk;have:=hM4.lt k hF';omega) (λk hk=>by have:=hF k hk;have:=hI.pos;omega) (by rw[hne.1,List.length_map,List.length_nil];omega) (by rw[hne.2,List.length_map,List.length_nil];omega) (hI.below (hB.trans (hb5.mono hB.size)));refine aP rfl 14 #[.pointer (some ⟨b,0,none⟩),vP] (λv w'=>v=.tuple #[]/\∃F',MMem w' b F' (m9 N (s.map fA))/\Upd F F' w5 w') ?_ (hrun.mono λe w' h=>⟨_,h.1,rfl,h.2⟩) ?_
 ·first|(go_simp;done)|(go_simp;rfl)
 rintro _ w6 ⟨rfl,F6,hM6,hU6⟩;refine Zk ?_;have hst:=rO (s.map fA) hmk (by rw[hne.2,List.length_map,List.length_nil];omega);have hse:=hst.ev;rw[hne.1,List.length_map,List.length_nil]at hse;have hb6:Below w.heap.size w5 w6:=hU6.low w.heap.size (λk hk=>ar hsz (hF k hk)) (ar hB.size hb5.size);have hB6:Below w.heap.size w w6:=(hB.trans (hb5.mono hB.size)).trans hb6;have hev:=BG hM6 (by omega);rw[<-hrl'.out]at hev;obtain rfl:ri=1:=hri'.out;go_upto_region 8 with(fail);refine ab ?_;refine Zv ?_;refine aP rfl 16 #[.pointer (some ⟨b,0,none⟩)] (λv w'=>Own eE w' v rl/\Below w6.heap.size w6 w') ?_ (hev.mono λe w' h=>h.1.elim λv' h1=>⟨v',h1.1,h1.2.1,h.2⟩) ?_
 ·first|(go_simp;done)|(go_simp;rfl)
 rintro vE w7 ⟨hOE,hb7⟩;refine Zk ?_;go_wp2;refine bodyPost_ret (results_tmp2 (by rfl) _ _ _) rfl ?_;exact⟨⟨vE,rfl,hOE⟩,hB6.trans (hb7.mono hB6.size)⟩
def nj(C:Cl):Bool:=decide (600<C.nw) || decide (40<C.nt) || decide (40<C.no) || (List.range C.nt).any λt=>decide (100<C.len t)
def lgI(C:Cl):Int:=if nj C=true then 1 else 0
theorem zP(C:Cl)(w:World)(hM:MemC w C):Calls Tryz.prog 5 #[C.v] w λe w'=>e=.returned (.int .i64 (lgI C))/\Below w.heap.size w w':=by
 have hal:=(ak w.heap.size w).alloc (ah _) (.cells #[.slice C.A C.no C.ca,.int .i64 C.vars,.slice C.W C.nw C.cw,.int .i64 C.room,.slice C.T C.nt C.ct] 26)
 have lt:nj C=true->lgI C=1:=λh=>ag h
 have lf:nj C=false->lgI C=0:=λh=>af (by rw[h];exact Bool.false_ne_true);generalize lgI C=res at *
 by_cases h1:600<C.nw
 ·obtain rfl:res=1:=lt (by simp[nj,h1])
  have h1':600<(C.nw:Int):=by omega
  clear lt lf;unfold Cl.v;go_enter Tryz.func5,Tryz.ntmps5;go_wp2;go_ret;exact⟨rfl,hal⟩
 have h1':¬(600<(C.nw:Int)):=by omega
 by_cases h2:40<C.nt
 ·obtain rfl:res=1:=lt (by simp[nj,h2])
  have h2':40<(C.nt:Int):=by omega
  clear lt lf;unfold Cl.v;go_enter Tryz.func5,Tryz.ntmps5;go_wp2;go_ret;exact⟨rfl,hal⟩
 have h2':¬(40<(C.nt:Int)):=by omega
 by_cases h3:40<C.no
 ·obtain rfl:res=1:=lt (by simp[nj,h3])
  have h3':40<(C.no:Int):=by omega
  clear lt lf;unfold Cl.v;go_enter Tryz.func5,Tryz.ntmps5;go_wp2;go_ret;exact⟨rfl,hal⟩
 have h3':¬(40<(C.no:Int)):=by omega
 have lt':∀t,t<C.nt->100<C.len t->res=1:=λt ht hl=>lt (by
  unfold nj;rw[Bool.or_eq_true];right;rw[List.any_eq_true]
  exact⟨t,List.mem_range.2 ht,ay hl⟩)
 have lf':(∀t,t<C.nt->¬100<C.len t)->res=0:=λhh=>lf (by
  unfold nj;rw[az h1,az h2,az h3,Bool.false_or,Bool.false_or,Bool.false_or,List.any_eq_false];intro t ht
  simpa using hh t (List.mem_range.1 ht))
 clear lt lf hal;unfold Cl.v;go_enter Tryz.func5,Tryz.ntmps5;go_upto_region 5 with(fail);obtain⟨W,b1,e0,e1,X1,hal⟩:=aO w #[.slice C.A C.no C.ca,.int .i64 C.vars,.slice C.W C.nw C.cw,.int .i64 C.room,.slice C.T C.nt C.ct] 26;rw[e0,e1];clear e0 e1;have y4:=ae W b1 4 _ 26 _ X1;go_loopw [4] (λv wr=>∃k:Nat,v=.int .i64 k/\k<=C.nt/\(∀j,j<k->¬100<C.len j)/\wr=W) (λv _=>C.nt - (intOf v).toNat)
 case atStart=>exact⟨0,rfl,au _,λp hp=>absurd hp (by omega),rfl⟩
 case round=>
  obtain⟨k,rfl,hk,hpre,rfl⟩:=hrel
  by_cases hlt:k<C.nt
  case neg=>
   have hkn:k=C.nt:=by omega
   have hl1:¬((k:Int)<C.nt):=by omega
   rw[hkn]at hpre;obtain rfl:res=0:=lf' hpre;clear lt' lf' hpre hkn;go_wp2;go_ret;exact⟨rfl,hal⟩
  have hl0:(0:Int)<=k:=by omega
  have hl1:(k:Int)<C.nt:=by omega
  obtain⟨bA,oA,eA⟩:=oC hM.thr (by omega);have hA:=hM.thr;rw[eA]at hA y4
  try rw[eA]
  have cA:=o7 (hA.below hal) hlt
  by_cases hlen:100<C.len k
  ·have hlen':100<(C.len k:Int):=by omega
   obtain rfl:res=1:=lt' k hlt hlen;clear lt' lf' hpre;go_wp2;go_ret;exact⟨rfl,hal⟩
  ·have hlen':¬(100<(C.len k:Int)):=by omega
   have hpre':∀p,p<k+1->¬100<C.len p:=λp hp=>by
    rcases Nat.lt_succ_iff_lt_or_eq.1 hp with h|rfl
    ·exact hpre p h
    ·exact hlen
   clear lt' lf' hpre;go_wp2;go_roundw
   case rel=>exact⟨k+1,by go_num,by omega,hpre',by first|rfl|trivial⟩
   case measure=>simp[intOf];omega
section
variable {P:Program} {ops:Array Oper} {md:Region.Mode} {Q:Exit->Act->World->Prop} {D:World->Prop}
def wn(md:Region.Mode)(ops:Array Oper)(listed:Array Bool):Bool:=(List.range ops.size).all λj=>match ops[j]? with
 | none=>true
 | some o=>!listed.getD j false || o.after.all λe=>!Region.binds md e || listed.getD e.on false
theorem uH{listed:Array Bool}(h:wn md ops listed=true):Closed md ops listed:=λj oj hj hl e he hb=>by
 have h1:=List.all_eq_true.1 h j (List.mem_range.2 (by
  rcases Nat.lt_or_ge j ops.size with h|h
  ·exact h
  ·rw[Array.getElem?_eq_none h]at hj;cases hj))
 rw[hj]at h1;simp only[hl,Bool.not_true,Bool.false_or]at h1;have h2:=(Array.all_eq_true_iff_forall_mem.1 h1) e he;rw[hb]at h2
 simpa using h2
theorem pS{m F f:Nat}{listed:Array Bool}{a:Act}{w:World}(is:List Nat)(g:Nat)(hf:f=is.length+g)(om:Oper)(hom:ops[m]? = some om)(hs:Region.noSelect ops=true)(hcl:wn md ops listed=true)(hB:ye md ops m is listed=true)
  (h:dM P md ops D m F (λa'=>dU P md ops D m (noP Q) g (tZ is listed) a' w) is a):dU P md ops D m (noP Q) f listed a w:=by
 subst hf;exact nK hs (λ_ _ _ _ _ h=>h) om hom is listed a (uH hcl) hB (λa' h=>h) h
end
theorem ny{w:World}{k:Nat}{cs:List Value}{ty:TypeId}(h:w.heap[k]? = some (.cells cs.toArray ty (0,0))):w.rangeAt k 0 cs:=λq v hv=>by
 rw[ae w k _ _ ty _ h,Nat.zero_add]
 simpa using hv
theorem yC{C:Cl}(hK:∀t i,t<C.nt->i<C.len t->0<=(C.op t i).K/\(C.op t i).K<4294967296)(s:List Int)(hs:s.length<=3000):(ma C s).length<=400000:=by
 unfold ma
 split
 ·rename_i h
  have h1:=(rO (s.map fA) (oI h.1 hK h.2) (by simp only[jd,List.length_nil,List.length_map];omega)).ev;simp only[jd,List.length_nil,List.length_map]at h1;exact ar h1 (by omega)
 ·exact au _
end Go.Proofs.YtldlcnaphednnaaGreatDoor
