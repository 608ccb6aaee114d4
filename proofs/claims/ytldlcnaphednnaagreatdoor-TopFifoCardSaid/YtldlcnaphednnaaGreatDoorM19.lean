/- The program of a client: the walk of Link. -/
import Derived.Test.YtldlcnaphednnaaGreatDoorM18
import Derived.Test.YtldlcnaphednnaaGreatDoorM05
set_option maxRecDepth 100000
set_option maxHeartbeats 32000000
set_option linter.unusedVariables false
set_option linter.unusedSimpArgs false
namespace Go.Proofs.YtldlcnaphednnaaGreatDoor
open Go.RowKit Go.Maps
structure Sl where
 a:Option Addr
 n:Nat
 c:Nat
def eV:Enc Sl:=⟨93,1,λs=>[.slice s.a s.n s.c]⟩
theorem nT:eV.Ok:=⟨λx=>rfl,λx u hu=>by
 simp only[eV,List.mem_cons,List.not_mem_nil,or_false]at hu
 rcases hu with rfl;rfl,by decide⟩
structure CodesM(w:World)(vs:List Sl)(codes:List (List Ins)):Prop where
 len:vs.length=codes.length
 code:∀(i:Nat)(v:Sl)(L:List Ins),vs[i]? = some v->codes[i]? = some L->Own eI w (.slice v.a v.n v.c) L
theorem CodesM.below{w w':World}{vs:List Sl}{codes:List (List Ins)}(h:CodesM w vs codes)(hb:Below w.heap.size w w'):CodesM w' vs codes:=⟨h.len,λi v L h1 h2=>(h.code i v L h1 h2).below hb⟩
theorem CodesM.nil(w:World):CodesM w [] []:=⟨rfl,λi v L h=>(by simp at h)⟩
theorem CodesM.snoc{w w':World}{vs:List Sl}{codes:List (List Ins)}{v:Sl}{L:List Ins}(h:CodesM w vs codes)(hk:∀v L,Own eI w v L->Own eI w' v L)(hv:Own eI w' (.slice v.a v.n v.c) L):CodesM w' (vs++[v]) (codes++[L]):=⟨by simp[h.len],λi v' L' h1 h2=>by
 have hl:=h.len;rcases Nat.lt_trichotomy i vs.length with hi|hi|hi
 ·rw[List.getElem?_append_left hi]at h1
  rw[List.getElem?_append_left (by omega)]at h2;exact hk _ _ (h.code i v' L' h1 h2)
 ·rw[List.getElem?_append_right (by omega)]at h1
  rw[List.getElem?_append_right (by omega)]at h2
  have e1:i - vs.length=0:=by omega
  have e2:i - codes.length=0:=by omega
  rw[e1]at h1;rw[e2]at h2;simp at h1 h2;subst h1 h2;exact hv
 ·rw[List.getElem?_eq_none (by simp<;>omega)]at h1;cases h1⟩
def PgM(w:World)(vc vm:Value)(codes:List (List Ins))(mem:List Int):Prop:=(∃vs,Own eV w vc vs/\CodesM w vs codes)/\Own eU w vm mem
def LinkR(w':World)(C:Cl)(e:Ending):Prop:=
 if(chk C).2.2=0 then ∃vc vm,e=.returned (.tuple #[.agg #[vc,vm,.int .i64 C.room],.int .i64 0])/\PgM w' vc vm (de C) (mT C) else e=.returned (.tuple #[.agg #[.slice none 0 0,.slice none 0 0,.int .i64 0],.int .i64 (chk C).2.2])
theorem AR{fn:Func}{d:List Deferred}{w:World}{R:Ending->World->Prop}{tmps:Array Value}{p u:Tmp}{b:Nat}{cs:Array Value}{ok:Value}(hr:fn.results=#[.cell p 57,.tmp u])(hx:tmps.getD p undef=.pointer (some ⟨b,0,none⟩))(hok:tmps.getD u undef=ok)
  (hg:w.heap[b]? = some (.cells cs 57 (0,0))) (hs:cs.size=3) (hd:d=[]) (hR:R (.returned (.tuple #[.agg cs,ok])) w):bodyPost Tryz.prog fn R (.ret) ⟨tmps,d⟩ w:=by
 refine bodyPost_ret ?_ hd hR;rw[results_cell_tmp hr,hx,hok];simp only[asAddr,Sem.run_pure,Result.andThen_ok];rw[run_loadVar_row w b 57 57 cs (0,0) _ hg Tryz.underlying57 rfl (by rw[hs];kernel_rfl)];rfl
theorem Eg{w:World}{V:Option Addr}{l:List Int}(h:Wd w V l.length (pt l))(hl:0<l.length):∃b off,V=some ⟨b,off,none⟩/\b<w.heap.size/\RowAt eU w b off l:=by
 obtain⟨b,off,e,hb,hc⟩:=h hl;refine⟨b,off,e,hb,λj u hu=>?_⟩
 have hj:j<l.length:=by have:=(aj.1 hu).1;rw[fU jE]at this;simpa[eU] using this
 rw[hc j hj,<-hu];have:=mY jE l j 0 _ (aq hj) (by decide);simp only[eU,Nat.mul_one,Nat.add_zero]at this;rw[show(l.flatMap eU.enc)[j]? = _ from this];simp[pt,hj]
theorem C5:(Tryz.prog.info? eU.ty).map (λi=>(i.zero.map (·.cells),i.size,i.bytes))=some (some (eU.enc 0).toArray,eU.sz,4):=by kernel_rfl
theorem zK:(Tryz.prog.info? eU.ty).map (λi=>(i.zero.map (·.cells.size),i.size,i.bytes))=some (some eU.sz,eU.sz,4):=by kernel_rfl
theorem ud:(Tryz.prog.info? eV.ty).map (λi=>(i.zero.map (·.cells.size),i.size,i.bytes))=some (some eV.sz,eV.sz,24):=by kernel_rfl
theorem GK(C:Cl)(w:World)(hM:MemC w C)(hN:NmW w)(hI:IsaW w):Calls Tryz.prog 12 #[C.v] w λe w'=>LinkR w' C e/\Below w.heap.size w w':=by
 obtain⟨ce,hce⟩:=Zh (chk C);have hck:=sf C w hM hN;rw[<-hce.out]at hck;unfold LinkR;rw[<-hce.out];unfold Cl.v at hck ⊢;obtain⟨c1,c2,c3⟩:=ce;simp only[r3]at hck ⊢
 by_cases h3:c3=0
 case neg=>
  simp only[af h3]
  have q3:(c3 != 0)=true:=by simp[h3]
  go_enter Tryz.func12,Tryz.ntmps12;go_upto_region 1 with(fail);obtain⟨W,kC,kR,e0,e1,e2,XC,XR,hal⟩:=lW w #[.slice C.A C.no C.ca,.int .i64 C.vars,.slice C.W C.nw C.cw,.int .i64 C.room,.slice C.T C.nt C.ct] #[.slice none 0 0,.slice none 0 0,.int .i64 0] 26 57;rw[e0,e2,e1];have hkC:w.heap.size<=kC:=aD e1
  have hkR:w.heap.size<=kR:=by omega
  have hCR:kC≠kR:=by omega
  clear e0 e1 e2;have hck':=sf C W (hM.below hal) (hN.below hal);rw[<-hce.out]at hck';simp only[r3,Cl.v]at hck';obtain⟨y0,y1,y2,y3,y4⟩:=cl5 XC;go_wp2_with fail;refine hck'.mono ?_;rintro e w1 ⟨rfl,hb1⟩;clear y0 y1 y2 y3 y4 hck hck';replace XC:=keep XC hb1;replace XR:=keep XR hb1;replace hal:=hal.trans (hb1.mono hal.size);clear hb1;go_upto_region 3 with(fail);refine ab ?_
  iterate 2 refine Zv ?_
  refine Zo 57 kR #[.slice none 0 0,.slice none 0 0,.int .i64 0] XR (λw2 g1 g2 g3 g4=>?_);go_wp2;refine AR rfl rfl rfl g1 rfl rfl ?_;exact⟨rfl,hal.trans (g3 _ hkR)⟩
 simp only[ag h3];subst h3;have hok:=lx (C:=C) (by rw[<-hce.out]);go_enter Tryz.func12,Tryz.ntmps12;go_upto_region 1 with(fail);obtain⟨W,kC,kR,e0,e1,e2,XC,XR,hal⟩:=lW w #[.slice C.A C.no C.ca,.int .i64 C.vars,.slice C.W C.nw C.cw,.int .i64 C.room,.slice C.T C.nt C.ct] #[.slice none 0 0,.slice none 0 0,.int .i64 0] 26 57;rw[e0,e2,e1];have hkC:w.heap.size<=kC:=aD e1
 have hkR:w.heap.size<=kR:=by omega
 have hCR:kC≠kR:=by omega
 clear e0 e1 e2;have hck':=sf C W (hM.below hal) (hN.below hal);rw[<-hce.out]at hck';simp only[r3,Cl.v]at hck';obtain⟨y0,y1,y2,y3,y4⟩:=cl5 XC;go_wp2_with fail;refine hck'.mono ?_;rintro e w1 ⟨rfl,hb1⟩;clear y0 y1 y2 y3 y4 hck hck';replace XC:=keep XC hb1;replace XR:=keep XR hb1;replace hal:=hal.trans (hb1.mono hal.size);clear hb1;clear hce;have hlC:=aB XC;have hlR:=aB XR;have hz16:∀w:World,∃w',(Instr.makeSlice 55 (.int .i64 16) (.int .i64 16)).run Tryz.prog w=.ok (.slice (some ⟨w.heap.size,0,none⟩) 16 16) w'/\Own eU w' (.slice (some ⟨w.heap.size,0,none⟩) 16 16) (List.replicate 16 0)/\Below w.heap.size w w':=λw=>oN jE w 55 Tryz.underlying55 0 4 C5 (by decide) 16 (by decide);go_upto_region 4 with(fail);go_cut [7] from 26 to 29 (λs7 wx=>∃(kP mB:Nat),s7=.pointer (some ⟨kP,0,none⟩)/\wx.heap[kP]? = some (.cells #[.slice none 0 0,.slice (some ⟨mB,0,none⟩) 16 16,.int .i64 C.room] 57 (0,0))/\Own eU wx (.slice (some ⟨mB,0,none⟩) 16 16) (List.replicate 16 0)/\w1.heap.size<=kP/\w1.heap.size<=mB/\Below w1.heap.size w1 wx)
 case first=>
  refine i6 2 (λw'=>Below w1.heap.size w1 w') rfl (by kernel_rfl) (by decide) (by kernel_rfl) ?_;simp only[List.take_succ_cons,List.take_zero];refine Zr ?_;refine bP rfl _ (λw' h'=>aE (by have c:=ae w' kC 3 _ 26 _ (keep XC h');go_simp;try with_reducible rfl)) (Zj ?_);refine oh ?_;have q0:Below w1.heap.size w1 w1.drew:=Below.drew (ak _ _);refine hH [2,4] (by kernel_rfl) (by simp) (λd0 r0=>⟨q0.trans (r0.mono q0.size),?_⟩);replace q0:=q0.trans (r0.mono q0.size);intro j hj;simp only[List.mem_cons,List.not_mem_nil,or_false]at hj;rcases hj with rfl|rfl
  ·obtain⟨x1,hrun,hO,hbx⟩:=hz16 d0
   refine je rfl rfl (.slice (some ⟨d0.heap.size,0,none⟩) 16 16) (w':=x1) (by first|(go_simp;done)|(go_simp;simp[hrun])) ?_
   obtain⟨mB,hmB⟩:∃q,Hid (d0.heap.size=q):=⟨_,rfl⟩;rw[hmB.out]at hO ⊢
   have hm1:w1.heap.size<=mB:=by rw[<-hmB.out];exact q0.size
   replace q0:=q0.trans (hbx.mono q0.size);refine hH [3,4] (by kernel_rfl) (by simp) (λd1 r1=>⟨q0.trans (r1.mono q0.size),?_⟩);replace q0:=q0.trans (r1.mono q0.size);intro j hj;simp only[List.mem_cons,List.not_mem_nil,or_false]at hj;replace hO:=hO.below r1;rcases hj with rfl|rfl
   ·refine aR rfl rfl (.agg #[.slice none 0 0,.slice (some ⟨mB,0,none⟩) 16 16,.int .i64 C.room]) (by go_simp) ?_
    refine ZG 4 (λd2 r2=>⟨q0.trans (r2.mono q0.size),?_⟩);replace q0:=q0.trans (r2.mono q0.size);replace hO:=hO.below r2;refine dK rfl rfl 57 rfl (.agg #[.slice none 0 0,.slice none 0 0,.int .i64 0]) #[.slice none 0 0,.slice none 0 0,.int .i64 0] (λw=>by kernel_rfl) rfl (λx2 kP XP l6 f6=>?_)
    have hp1:w1.heap.size<=kP:=by have:=q0.size;simp only[Hid]at f6;omega
    replace q0:=q0.trans (l6.mono q0.size);replace hO:=hO.below l6;refine ZG 5 (λd3 r3=>⟨q0.trans (r3.mono q0.size),?_⟩);replace q0:=q0.trans (r3.mono q0.size);replace hO:=hO.below r3;replace XP:=keep XP r3;refine bZ rfl rfl 57 (.tmp 7) (.tmp 29) rfl kP #[.slice none 0 0,.slice (some ⟨mB,0,none⟩) 16 16,.int .i64 C.room] rfl rfl 57 _ XP (by kernel_rfl) rfl (by simp[Value.oneCell']) (λx3 g1 g2 g3=>?_);refine fB (by kernel_rfl) (λx4 r9=>⟨(q0.trans (g3 _ hp1)).trans (r9.mono (by have:=q0.size;have:=(g3 0 (au _)).size;omega)),?_⟩);go_wp2_with fail;go_meet;exact⟨kP,mB,rfl,keep g1 r9,(hO.keep (λg e=>g2 g (λe'=>by obtain⟨_,h1⟩:=hO.blk e;exact aK XP h1 (show(57:Nat)≠37 by decide) e'.symm))).below r9,hp1,hm1,(q0.trans (g3 _ hp1)).trans (r9.mono (by have:=q0.size;have:=(g3 0 (au _)).size;omega))⟩
   ·refine dK rfl rfl 57 rfl (.agg #[.slice none 0 0,.slice none 0 0,.int .i64 0]) #[.slice none 0 0,.slice none 0 0,.int .i64 0] (λw=>by kernel_rfl) rfl (λx2 kP XP l6 f6=>?_)
    have hp1:w1.heap.size<=kP:=by have:=q0.size;simp only[Hid]at f6;omega
    replace q0:=q0.trans (l6.mono q0.size);replace hO:=hO.below l6;refine ZG 3 (λd2 r2=>⟨q0.trans (r2.mono q0.size),?_⟩);replace q0:=q0.trans (r2.mono q0.size);replace hO:=hO.below r2;replace XP:=keep XP r2;refine aR rfl rfl (.agg #[.slice none 0 0,.slice (some ⟨mB,0,none⟩) 16 16,.int .i64 C.room]) (by go_simp) ?_;refine ZG 5 (λd3 r3=>⟨q0.trans (r3.mono q0.size),?_⟩);replace q0:=q0.trans (r3.mono q0.size);replace hO:=hO.below r3;replace XP:=keep XP r3;refine bZ rfl rfl 57 (.tmp 7) (.tmp 29) rfl kP #[.slice none 0 0,.slice (some ⟨mB,0,none⟩) 16 16,.int .i64 C.room] rfl rfl 57 _ XP (by kernel_rfl) rfl (by simp[Value.oneCell']) (λx3 g1 g2 g3=>?_);refine fB (by kernel_rfl) (λx4 r9=>⟨(q0.trans (g3 _ hp1)).trans (r9.mono (by have:=q0.size;have:=(g3 0 (au _)).size;omega)),?_⟩);go_wp2_with fail;go_meet;exact⟨kP,mB,rfl,keep g1 r9,(hO.keep (λg e=>g2 g (λe'=>by obtain⟨_,h1⟩:=hO.blk e;exact aK XP h1 (show(57:Nat)≠37 by decide) e'.symm))).below r9,hp1,hm1,(q0.trans (g3 _ hp1)).trans (r9.mono (by have:=q0.size;have:=(g3 0 (au _)).size;omega))⟩
  ·refine dK rfl rfl 57 rfl (.agg #[.slice none 0 0,.slice none 0 0,.int .i64 0]) #[.slice none 0 0,.slice none 0 0,.int .i64 0] (λw=>by kernel_rfl) rfl (λx2 kP XP l6 f6=>?_)
   have hp1:w1.heap.size<=kP:=by have:=q0.size;simp only[Hid]at f6;omega
   replace q0:=q0.trans (l6.mono q0.size);refine ZG 2 (λd1 r1=>⟨q0.trans (r1.mono q0.size),?_⟩);replace q0:=q0.trans (r1.mono q0.size);replace XP:=keep XP r1;obtain⟨x1,hrun,hO,hbx⟩:=hz16 d1
   refine je rfl rfl (.slice (some ⟨d1.heap.size,0,none⟩) 16 16) (w':=x1) (by first|(go_simp;done)|(go_simp;simp[hrun])) ?_
   obtain⟨mB,hmB⟩:∃q,Hid (d1.heap.size=q):=⟨_,rfl⟩;rw[hmB.out]at hO ⊢
   have hm1:w1.heap.size<=mB:=by rw[<-hmB.out];exact q0.size
   replace q0:=q0.trans (hbx.mono q0.size);replace XP:=keep XP hbx;refine ZG 3 (λd2 r2=>⟨q0.trans (r2.mono q0.size),?_⟩);replace q0:=q0.trans (r2.mono q0.size);replace hO:=hO.below r2;replace XP:=keep XP r2;refine aR rfl rfl (.agg #[.slice none 0 0,.slice (some ⟨mB,0,none⟩) 16 16,.int .i64 C.room]) (by go_simp) ?_;refine ZG 5 (λd3 r3=>⟨q0.trans (r3.mono q0.size),?_⟩);replace q0:=q0.trans (r3.mono q0.size);replace hO:=hO.below r3;replace XP:=keep XP r3;refine bZ rfl rfl 57 (.tmp 7) (.tmp 29) rfl kP #[.slice none 0 0,.slice (some ⟨mB,0,none⟩) 16 16,.int .i64 C.room] rfl rfl 57 _ XP (by kernel_rfl) rfl (by simp[Value.oneCell']) (λx3 g1 g2 g3=>?_);refine fB (by kernel_rfl) (λx4 r9=>⟨(q0.trans (g3 _ hp1)).trans (r9.mono (by have:=q0.size;have:=(g3 0 (au _)).size;omega)),?_⟩);go_wp2_with fail;go_meet;exact⟨kP,mB,rfl,keep g1 r9,(hO.keep (λg e=>g2 g (λe'=>by obtain⟨_,h1⟩:=hO.blk e;exact aK XP h1 (show(57:Nat)≠37 by decide) e'.symm))).below r9,hp1,hm1,(q0.trans (g3 _ hp1)).trans (r9.mono (by have:=q0.size;have:=(g3 0 (au _)).size;omega))⟩
 obtain⟨kP,mB,rfl,XP,hOm,hkP,hmB,hb2⟩:=hcut;have hs1:=hal.size;replace XC:=keep XC hb2;replace XR:=keep XR hb2;replace hal:=hal.trans (hb2.mono hal.size)
 have hPC:kP≠kC:=by have:=aB XC;have h9:kC<w1.heap.size:=hlC;omega
 have hPR:kP≠kR:=by have h9:kR<w1.heap.size:=hlR;omega
 have hwP:w.heap.size<=kP:=by omega
 clear hb2 hz16;obtain⟨y0,y1,y2,y3,y4⟩:=cl5 XC;go_upto_region 6 with(fail);clear y0 y1 y2 y3 y4;go_loopw [33] (λv wr=>∃(i:Nat)(vm:Value),v=.int .i64 i/\i<=C.no/\wr.heap[kP]? = some (.cells #[.slice none 0 0,vm,.int .i64 C.room] 57 (0,0))/\Own eU wr vm (bf C i)/\(∀k,vm.ownBlock=some k->w1.heap.size<=k)/\Below w.heap.size w wr/\wr.heap[kC]? = some (.cells #[.slice C.A C.no C.ca,.int .i64 C.vars,.slice C.W C.nw C.cw,.int .i64 C.room,.slice C.T C.nt C.ct] 26 (0,0))/\wr.heap[kR]? = some (.cells #[.slice none 0 0,.slice none 0 0,.int .i64 0] 57 (0,0))) (λv _=>C.no - (intOf v).toNat)
 case atStart=>exact⟨0,_,rfl,au _,XP,hOm,λk hk=>by cases hk;exact hmB,hal,XC,XR⟩
 case round=>
  clear XP hOm hal XC XR hmB;obtain⟨i,vm,rfl,hi,XP,hOm,hvm,hal,XC,XR⟩:=hrel
  by_cases hlt:i<C.no
  case neg=>
   obtain rfl:i=C.no:=by omega
   have hl1:¬((C.no:Int)<C.no):=by omega
   obtain⟨pm,cm,rfl⟩:=hOm.form2
   have hnt:C.nt<=8:=by have:=hok.good;unfold ld at this;omega
   have hno:=hok.no
   have hm0:(bf C C.no).length<=1000:=by have:=(jV hok C.no (ah _)).2.1;omega
   clear hi hlt;obtain⟨y0,y1,y2,y3,y4⟩:=cl5 XC;go_upto_region 12 with(fail);clear y0 y1 y2 y3 y4;go_loopw [10,50] (λs10 v wx=>∃(t:Nat)(vc:Value)(vs:List Sl),s10=.int .i64 (bc C t).2/\v=.int .i64 t/\t<=C.nt/\wx.heap[kP]? = some (.cells #[vc,.slice pm (bf C C.no).length cm,.int .i64 C.room] 57 (0,0))/\Own eV wx vc vs/\CodesM wx vs (bc C t).1/\(∀k,vc.ownBlock=some k->w1.heap.size<=k)/\Own eU wx (.slice pm (bf C C.no).length cm) (bf C C.no)/\Below w.heap.size w wx/\wx.heap[kC]? = some (.cells #[.slice C.A C.no C.ca,.int .i64 C.vars,.slice C.W C.nw C.cw,.int .i64 C.room,.slice C.T C.nt C.ct] 26 (0,0))/\wx.heap[kR]? = some (.cells #[.slice none 0 0,.slice none 0 0,.int .i64 0] 57 (0,0))) (λ_ v _=>C.nt - (intOf v).toNat)
   case atStart=>exact⟨0,_,[],rfl,rfl,au _,XP,Own.nil _,CodesM.nil _,λk hk=>(by cases hk),hOm,hal,XC,XR⟩
   case round=>
    clear XP hOm hal XC XR hvm;obtain⟨t,vc,vs,rfl,rfl,ht,XP,hOv,hCM,hvc,hOm,hal,XC,XR⟩:=hrel;have htp:=kt hok hM.hK t ht;obtain⟨htl,htL,hs0,hsN⟩:=htp
    by_cases htt:t<C.nt
    case neg=>
     obtain rfl:t=C.nt:=by omega
     have hl1:¬((C.nt:Int)<C.nt):=by omega
     obtain⟨pv,cv,rfl⟩:=hOv.form2;go_upto_region 23 with(fail);refine ab ?_;refine Zd 57 XP Tryz.underlying57 ?_;refine Zo 57 kR #[.slice pv vs.length cv,.slice pm (bf C C.no).length cm,.int .i64 C.room] XR (λw9 g1 g2 g3 g4=>?_);have hk9:∀k,k≠kR->w9.heap[k]? = wr.heap[k]? := g2;go_wp2;refine AR rfl rfl rfl g1 rfl rfl ?_
     refine⟨⟨_,_,rfl,⟨vs,hOv.keep (λg e=>hk9 g (λe'=>by have:=hvc g e;omega)),⟨hCM.len,λi v L h1 h2=>(hCM.code i v L h1 h2).keep (λg e=>hk9 g (λe'=>by
      obtain⟨_,h5⟩:=(hCM.code i v L h1 h2).blk e
      exact aK XR h5 (show(57:Nat)≠115 by decide) e'.symm))⟩⟩,hOm.keep (λg e=>hk9 g (λe'=>by
      obtain⟨_,h5⟩:=hOm.blk e
      exact aK XR h5 (show(57:Nat)≠37 by decide) e'.symm))⟩,hal.trans (g3 _ hkR)⟩
    have hl0:(0:Int)<=t:=by omega
    have hl1:(t:Int)<C.nt:=by omega
    obtain⟨bT,oT,hT0⟩:=oC hM.thr (by omega);have hTr:Thr w (some ⟨bT,oT,none⟩) C.nt C.tp C.len C.tc:=hT0▸hM.thr;have yT:=o7 (hTr.below hal) htt;have hlen:=hok.len t htt
    have hKt:=λi hi=>hM.hK t i htt hi
    have hrg:=λi hi=>ka (hok.ops t i htt hi);have hOpsW:=hM.ops t htt;obtain⟨L,hL⟩:=Zh (C.len t);obtain⟨S,hS⟩:=Zh ((bc C t).2);rw[<-hL.out]at yT hlen hKt hrg hOpsW;rw[<-hS.out]at hs0 hsN;have hop:=λi (hi:i<=L)=>ul (C:=C) (t:=(t:Int)) (op:=C.op t) hs0 i (λj hj=>hKt j (by omega))
    have htN:(bc C (t+1))=((bc C t).1++[(g5 C t (C.op t) ([],S) L).1],(g5 C t (C.op t) ([],S) L).2):=by rw[hS.out,hL.out];rfl
    obtain⟨TF,hTF⟩:=Zh ((bc C t).1);rw[<-hTF.out]at hCM htl htN;rw[<-hS.out];obtain⟨y0,y1,y2,y3,y4⟩:=cl5 XC;rw[hT0]at y4 ⊢;have hzr:=aB XP;go_upto_region 14 with(fail);go_upto_region 15 with(fail);obtain⟨w2,kL,e0,e1,XL,hb2⟩:=aO wr #[.slice C.A C.no C.ca,.int .i64 C.vars,.slice C.W C.nw C.cw,.int .i64 C.room,.slice (some ⟨bT,oT,none⟩) C.nt C.ct,.int .i64 t,.int .i64 S,.slice none 0 0] 95;rw[e0,e1];have hkL:wr.heap.size<=kL:=aD e1;clear e0 e1 y0 y1 y2 y3 y4 yT;have hLM:LMem w2 kL (λk=>k=kL) C t S []:=⟨.slice none 0 0,by rw[hT0.symm]at XL;exact XL,Own.nil _,λk=>⟨λh=>.inl h,λh=>h.elim id (λe=>by cases e)⟩⟩;clear XL;obtain⟨wz,rfl⟩:∃z,z=wr:=⟨_,rfl⟩;go_upto_region 16 with(fail);go_loopw [62] (λv wx=>∃(i:Nat)(F:Nat->Prop),v=.int .i64 i/\i<=L/\LMem wx kL F C t (g5 C t (C.op t) ([],S) i).2 (g5 C t (C.op t) ([],S) i).1/\(∀k,F k->wz.heap.size<=k)/\Below wz.heap.size wz wx) (λv _=>L - (intOf v).toNat)
    case atStart=>exact⟨0,_,rfl,au _,hLM,λk hk=>(by rw[hk];exact hkL),hb2⟩
    case round=>
     clear hLM hb2;obtain⟨i,F,rfl,hi,hLM,hF,hbz⟩:=hrel;obtain⟨hk5,hl5,hs5,hs6⟩:=hop i hi
     by_cases hiL:i<L
     case neg=>
      obtain rfl:i=L:=by omega
      have hl1:¬((i:Int)<i):=by omega
      obtain⟨vq,hq⟩:=hLM;obtain⟨pq,cq,rfl⟩:=hq.code.form2;obtain⟨pv,cv,rfl⟩:=hOv.form2;replace hOv:=hOv.below hbz;replace hOm:=hOm.below hbz;replace hCM:=hCM.below hbz;replace XP:=keep XP hbz;replace XC:=keep XC hbz;replace XR:=keep XR hbz;replace hal:=hal.trans (hbz.mono hal.size);have hCo:=hq.code;have XL:=hq.blk;have hzs:=hbz.size
      have hvs:vs.length<=8:=by rw[hCM.len];omega
      clear hbz hF hq;obtain⟨st,hst⟩:=Zh (g5 C t (C.op t) ([],S) i);rw[<-hst.out]at hk5 hl5 hs5 hs6 hCo XL htN;have y6:wr.cell? ⟨kL,6,none⟩=some (.int .i64 st.2):=ae wr kL 6 _ 95 _ XL;clear hst;go_upto_region 21 with(fail);refine bR 6 7 10 (λw'=>Below wr.heap.size wr w') _ rfl (by kernel_rfl) (by kernel_rfl) (by decide) (by kernel_rfl) ?_;simp only[List.take_succ_cons,List.take_zero];refine Zf ?_;refine bm rfl (by kernel_rfl) _ (λw' h'=>aE (by have c:w'.cell? ⟨kP,0,none⟩=some (.slice pv vs.length cv):=ae w' kP 0 _ 57 _ (keep XP h');go_simp;try with_reducible rfl)) (Zj ?_)
      iterate 3 refine Zf ?_
      refine bm rfl (by kernel_rfl) _ (λw' h'=>aE (by have c:w'.cell? ⟨kL,7,none⟩=some (.slice pq st.1.length cq):=ae w' kL 7 _ 95 _ (keep XL h');go_simp;try with_reducible rfl)) (Zj ?_);refine gJ ?_;show dU _ _ _ _ _ _ _ _ _ _;have q0:Below wr.heap.size wr wr.drew:=Below.drew (ak _ _);have XPm:=keep XP q0;refine ZM 6 (λd6 r6=>⟨λ_=>q0.trans (r6.mono q0.size),?_⟩);replace q0:=q0.trans (r6.mono q0.size);replace XPm:=keep XPm r6
      refine je rfl rfl (.slice (some ⟨d6.heap.size,0,none⟩) 1 1) (w':=d6.alloc (.cells #[.slice pq st.1.length cq] 93)) (by first|kernel_rfl|go_simp) ?_
      obtain⟨e6,bN,e8,eg,BN,hb8⟩:=aO d6 #[.slice pq st.1.length cq] 93;rw[e8,eg];clear e8 eg;replace q0:=q0.trans (hb8.mono q0.size);replace XPm:=keep XPm hb8;clear hb8;refine ZM 7 (λd7 r7=>⟨λ_=>q0.trans (r7.mono q0.size),?_⟩);replace q0:=q0.trans (r7.mono q0.size);replace XPm:=keep XPm r7;replace BN:=keep BN r7;have hO3:=hOv.below q0
      refine iM nT rfl rfl 54 Tryz.underlying54 24 ud (.tmp 75) (.tmp 80) rfl _ vs [⟨pq,st.1.length,cq⟩] rfl hO3 bN 0 1 rfl (cG BN _ rfl) (by simp<;>omega) (by decide) (λvc' v4 hO4 hg4 hl4=>?_)
      have hal3:=q0;have Xb:=fD hO3 XPm (by decide) hg4;obtain⟨p,c4,rfl⟩:=hO4.form2;generalize hn4:(vs++[(⟨pq,st.1.length,cq⟩:Sl)]).length=n4 at *;refine ZM 8 (λv5 r5=>⟨(λe=>absurd (show true=false from e) (by decide)),?_⟩);refine aR rfl rfl (.pointer (some ⟨kP,0,none⟩)) (by go_simp) ?_;refine ZM 9 (λv7 r7=>⟨(λe=>absurd (show true=false from e) (by decide)),?_⟩);have hb7:Below v4.heap.size v4 v7:=r5.trans (r7.mono r5.size);have Xc:=keep Xb hb7;refine du rfl rfl 54 (λw=>by kernel_rfl) (.tmp 82) (.tmp 81) rfl kP 0 p n4 c4 _ 57 rfl rfl Xc (by simp) (λv8 p1 p2 p3=>?_);refine bl (by kernel_rfl) (by kernel_rfl) (λv9 r9=>?_);have hA:j7 eV wr v9 kP 0 57 #[.slice pv vs.length cv,.slice pm (bf C C.no).length cm,.int .i64 C.room] (.slice pv vs.length cv) (.slice p n4 c4) (vs++[(⟨pq,st.1.length,cq⟩:Sl)]):=io hal3 hg4 hl4 hO4 Xb (by decide) hb7 p1 p2 p3 r9;clear q0 r5 r7 r9 Xb Xc hb7 hg4 hl4 hO4 p1 p2 p3 hal3
      have hv':∀k,(Value.slice p n4 c4).ownBlock=some k->w1.heap.size<=k:=λk hk=>by
       rcases hA.new k hk with h|h
       ·exact hvc k h
       ·omega
      have hkeep:∀k (cs:Array Value) (ty:TypeId),wr.heap[k]? = some (Obj.cells cs ty (0,0))->ty≠57->ty≠93->v9.heap[k]? = wr.heap[k]? := λk cs ty hk h1 h2=>hA.oth k (aB hk) (λe=>aK hk XP h1 e) (λe=>by
       obtain⟨_,h5⟩:=hOv.blk e
       exact aK hk h5 h2 rfl)
      have XC':=(hkeep kC _ _ XC (by decide) (by decide)).trans XC;have XR':=(hA.oth kR (aB XR) (λe=>hPR e.symm) (λe=>by have:=hvc kR e;omega)).trans XR;have hal':=hal.trans (hA.low _ hwP hal.size (λk e=>ar hs1 (hvc k e)))
      have hOm':Own eU v9 (.slice pm (bf C C.no).length cm) (bf C C.no):=hOm.keep (λg e=>by
       obtain⟨cs,h5⟩:=hOm.blk e
       exact hkeep g cs _ h5 (by decide) (by decide))
      have hkI:∀(v:Value)(L:List Ins),Own eI wr v L->Own eI v9 v L:=λv L h=>h.keep (λg e=>by
       obtain⟨cs,h5⟩:=h.blk e
       exact hkeep g cs _ h5 (by decide) (by decide))
      have hCM':=CodesM.snoc (v:=⟨pq,st.1.length,cq⟩) (L:=st.1) hCM hkI (hkI _ _ hCo);have hO9:=hA.own;have XP9:=hA.blk;clear hA hOv hOm hCM XP hO3 hCo XL BN hkI hkeep;go_wp2;go_roundw
      case rel=>exact⟨t+1,_,_,by rw[htN],by go_num,by omega,XP9,hO9,by rw[htN];exact hCM',hv',hOm',hal',(by rw[hT0]at XC';exact XC'),XR'⟩
      case measure=>simp[intOf];omega
     have hl0:(0:Int)<=i:=by omega
     have hl1:(i:Int)<L:=by omega
     obtain⟨bo,oo,hto⟩:=rA hOpsW (by omega);have hOW:Ops w (some ⟨bo,oo,none⟩) L (C.op t):=hto▸hOpsW;have hxK:=hKt i hiL;have hxa:=hrg i hiL;have hal3:=hal.trans (hbz.mono hal.size);rw[hto];go_upto_region 17 with(fail);refine ab ?_;refine aG rfl (.pointer (some ⟨bo,oo+i * 4,none⟩)) ?_ ?_
     ·go_simp
     refine Zk ?_;refine Zu (xv (C.op t i)) (pd (.tmp 64) rfl bo oo i hOW hal3 hiL rfl) ?_;refine Za 49 #[.int .i64 0,.int .i64 0,.int .i64 0,.int .u32 0] (λw4 b9 X4 l4 f4=>?_);unfold xv;refine Zo 49 b9 #[.int .i64 (C.op t i).k,.int .i64 (C.op t i).a,.int .i64 (C.op t i).b,.int .u32 (C.op t i).K] X4 (λw5 g1 g2 g3 g4=>?_);have hb5:Below wr.heap.size wr w5:=l4.trans (g3 _ (by simp only[Hid]at f4;omega));clear X4 l4 f4 g2 g3 g4;replace hLM:=hLM.below hb5;replace hbz:=hbz.trans (hb5.mono hbz.size);clear hb5;obtain⟨st,hst⟩:=Zh (g5 C t (C.op t) ([],S) i);rw[<-hst.out]at hLM hk5 hl5 hs5 hs6
     have hnx:g5 C t (C.op t) ([],S) (i+1)=opF C t st.2 st.1 (C.op t i):=by rw[hst.out];rfl
     have hcl:=Ft (x:=C.op t i) (hM.below hal) (hN.below hal) (hI.below hal) hbz hF (by omega) hxa hxK (by omega) (by omega) hLM (by omega);rw[<-hnx]at hcl;unfold xv at hcl;obtain⟨y0,y1,y2,y3⟩:=cl4 g1;go_wp2_with fail;refine hcl.mono ?_;rintro e w6 ⟨rfl,F',hL6,hU6⟩
     have hF':∀k,F' k->wz.heap.size<=k:=λk hk=>by
      rcases hU6.foot k hk with h|h
      ·exact hF k h
      ·have:=hbz.size;omega
     have hbz':=hbz.trans (hU6.low _ hF hbz.size);clear hcl hLM hst hnx hU6 y0 y1 y2 y3;go_wp2;go_roundw
     case rel=>exact⟨i+1,F',by go_num,by omega,hL6,hF',hbz'⟩
     case measure=>simp[intOf];omega
  have hl0:(0:Int)<=i:=by omega
  have hl1:(i:Int)<C.no:=by omega
  obtain⟨bA,oA,hA0⟩:=lp hM.objs (by omega);have hO:Objs w (some ⟨bA,oA,none⟩) C.no C.f:=hA0▸hM.objs;have hRP:=hok.objs i hlt;have hfl:=qF hRP;have hfp:=uq hRP;obtain⟨hm0,hm1,_⟩:=jV hok i hi;have hno:=hok.no;have hfc:=λw' (h:Below w.heap.size w w')=>ug (C.f i) C.nt hRP w' (hN.below h);rw[hA0];go_upto_region 7 with(fail);refine ab ?_;refine aG rfl (.pointer (some ⟨bA,oA+i * 4,none⟩)) ?_ ?_
  ·go_simp
  refine Zk ?_;refine Zu (ov (C.f i)) (j8 (.tmp 35) rfl bA oA i hO hal hlt rfl) ?_;refine Za 43 #[.int .i64 0,.int .i64 0,.int .i64 0,.int .i64 0] (λw4 b9 X4 l4 f4=>?_);unfold ov;refine Zo 43 b9 #[.int .i64 (C.f i).k,.int .i64 (C.f i).n,.int .i64 (C.f i).a,.int .i64 (C.f i).b] X4 (λw5 g1 g2 g3 g4=>?_);have hb5:Below wr.heap.size wr w5:=l4.trans (g3 _ (by simp only[Hid]at f4;omega))
  have hb9:wr.heap.size<=b9:=by simp only[Hid]at f4;omega
  clear X4 l4 f4 g2 g3 g4;obtain⟨pm,cm,rfl⟩:=hOm.form2;replace hOm:=hOm.below hb5;replace XP:=keep XP hb5;replace XC:=keep XC hb5;replace XR:=keep XR hb5;replace hal:=hal.trans (hb5.mono hal.size)
  have hs5:w1.heap.size<=w5.heap.size:=by have:=aB XP;omega
  clear hb5;go_upto_region 8 with(fail);refine bR 6 7 10 (λw'=>Below w5.heap.size w5 w') _ rfl (by kernel_rfl) (by kernel_rfl) (by decide) (by kernel_rfl) ?_;simp only[List.take_succ_cons,List.take_zero];refine Zf ?_;refine bm rfl (by kernel_rfl) _ (λw' h'=>aE (by have c:w'.cell? ⟨kP,1,none⟩=some (.slice pm (bf C i).length cm):=ae w' kP 1 _ 57 _ (keep XP h');go_simp;try with_reducible rfl)) (Zj ?_);refine bm rfl (by kernel_rfl) _ (λw' h'=>fF 43 (.tmp 9) rfl _ rfl _ _ (0,0) _ (keep g1 h') Tryz.underlying43 rfl (by kernel_rfl)) (Zj ?_);refine Zf ?_;refine bm rfl (by kernel_rfl) _ (λw' h'=>aE (by have c:=ae w' kC 4 _ 26 _ (keep XC h');go_simp;try with_reducible rfl)) (Zj ?_);refine Zf ?_;refine gJ ?_;show dU _ _ _ _ _ _ _ _ _ _;have q0:Below w5.heap.size w5 w5.drew:=Below.drew (ak _ _);have XPk:=XP;replace XP:=keep XP q0;refine ZM 6 (λd6 r6=>⟨λ_=>q0.trans (r6.mono q0.size),?_⟩);replace q0:=q0.trans (r6.mono q0.size);replace XP:=keep XP r6;have hz6:=hal.trans (q0.mono hal.size)
  refine fW rfl rfl 26 #[ov (C.f i),.int .i64 C.nt] (λv w'=>∃V c,v=.slice V (aT (C.f i) C.nt).length c/\Wd w' V (aT (C.f i) C.nt).length (pt (aT (C.f i) C.nt))/\Below d6.heap.size d6 w') ?_ ((hfc d6 hz6).mono (λe w' hh=>by
   obtain⟨V,c,rfl,h5,h6⟩:=hh
   exact⟨_,rfl,V,c,rfl,h5,h6⟩)) (λv w6 hv=>?_)
  ·unfold ov;first|(go_simp;done)|(go_simp;rfl)
  obtain⟨V,cV,rfl,hWd,h6⟩:=hv;replace q0:=q0.trans (h6.mono q0.size);replace XP:=keep XP h6;clear h6;obtain⟨bV,oV,rfl,hbV,hRV⟩:=Eg hWd hfp;refine ZM 7 (λd7 r7=>⟨λ_=>q0.trans (r7.mono q0.size),?_⟩);replace q0:=q0.trans (r7.mono q0.size);replace XP:=keep XP r7;have hO3:=hOm.below q0;have hR7:RowAt eU d7 bV oV (aT (C.f i) C.nt):=hRV.below r7 hbV;refine iM jE rfl rfl 55 Tryz.underlying55 4 zK (.tmp 38) (.tmp 43) rfl _ (bf C i) (aT (C.f i) C.nt) rfl hO3 bV oV cV rfl hR7 (by omega) (by decide) (λvc' v4 hO4 hg4 hl4=>?_);have hal3:=q0;have Xb:=fD hO3 XP (by decide) hg4;obtain⟨p,c4,rfl⟩:=hO4.form2;generalize hn4:(bf C i++aT (C.f i) C.nt).length=n4 at *;refine ZM 8 (λv5 r5=>⟨(λe=>absurd (show true=false from e) (by decide)),?_⟩);refine aR rfl rfl (.pointer (some ⟨kP,1,none⟩)) (by go_simp) ?_;refine ZM 9 (λv7 r7=>⟨(λe=>absurd (show true=false from e) (by decide)),?_⟩);have hb7:Below v4.heap.size v4 v7:=r5.trans (r7.mono r5.size);have Xc:=keep Xb hb7;refine du rfl rfl 55 (λw=>by kernel_rfl) (.tmp 45) (.tmp 44) rfl kP 1 p n4 c4 _ 57 rfl rfl Xc (by simp) (λv8 p1 p2 p3=>?_);refine bl (by kernel_rfl) (by kernel_rfl) (λv9 r9=>?_);have hA:j7 eU w5 v9 kP 1 57 #[.slice none 0 0,.slice pm (bf C i).length cm,.int .i64 C.room] (.slice pm (bf C i).length cm) (.slice p n4 c4) ((bf C i)++(aT (C.f i) C.nt)):=io hal3 hg4 hl4 hO4 Xb (by decide) hb7 p1 p2 p3 r9
  clear q0 r5 r7 r9 Xb Xc hb7 hg4 hl4 hO4 p1 p2 p3 hal3
  have hv':∀k,(Value.slice p n4 c4).ownBlock=some k->w1.heap.size<=k:=λk hk=>by
   rcases hA.new k hk with h|h
   ·exact hvm k h
   ·omega
  have XC':=(hA.oth kC (aB XC) (λe=>hPC e.symm) (λe=>by have:=hvm kC e;omega)).trans XC;have XR':=(hA.oth kR (aB XR) (λe=>hPR e.symm) (λe=>by have:=hvm kR e;omega)).trans XR;have hal':=hal.trans (hA.low _ hwP hal.size (λk e=>ar hs1 (hvm k e)));have hO9:=hA.own;have XP9:=hA.blk;clear hA hWd hRV hO3 hR7 XP hOm;go_wp2;go_roundw
  case rel=>exact⟨i+1,_,by go_num,by omega,XP9,hO9,hv',hal',(by rw[hA0]at XC';exact XC'),XR'⟩
  case measure=>simp[intOf];omega
end Go.Proofs.YtldlcnaphednnaaGreatDoor
