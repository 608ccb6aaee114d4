/- A machine of a program that did nothing yet: New. -/
import Derived.Test.YtldlcnaphednnaaGreatDoorM20
import Derived.Test.YtldlcnaphednnaaGreatDoorM18
set_option maxRecDepth 100000
set_option maxHeartbeats 32000000
set_option linter.unusedVariables false
set_option linter.unusedSimpArgs false
namespace Go.Proofs.YtldlcnaphednnaaGreatDoor
open Go.RowKit Go.Maps
def th0:Th:=⟨0,λ_=>0,0⟩
theorem G6:(Tryz.prog.info? eT.ty).map (λi=>(i.zero.map (·.cells),i.size,i.bytes))=some (some (eT.enc th0).toArray,eT.sz,48):=by kernel_rfl
theorem EC:(Tryz.prog.info? eB.ty).map (λi=>(i.zero.map (·.cells.size),i.size,i.bytes))=some (some eB.sz,eB.sz,280):=by kernel_rfl
def jd(codes:List (List Ins))(mem:List Int)(room:Int):Mac:=⟨codes,List.replicate codes.length th0,List.replicate codes.length (bf0 room),mem,[],[]⟩
theorem newC{vc vm:Value}{codes:List (List Ins)}{mem:List Int}{room:Int}(hlen:1<=codes.length/\codes.length<=8)(hroom:1<=room/\room<=16)(hmem:mem.length<=1024)(hK:∀L∈codes,KOk L)(hcl:∀L∈codes,L.length<=100000)(w:World)(hP:PgM w vc vm codes mem)(hI:IsaW w):Calls Tryz.prog 13 #[.agg #[vc,vm,.int .i64 room]] w λe w'=>(if j9 codes=0 then ∃b F,e=.returned (.tuple #[.pointer (some ⟨b,0,none⟩),.int .i64 0])/\MMem w' b F (jd codes mem room)/\∀k,F k->w.heap.size<=k else e=.returned (.tuple #[.pointer none,.int .i64 (j9 codes)]))/\Below w.heap.size w w':=by
 have hck:=λw' (h:Below w.heap.size w w')=>Ff (vc:=vc) (vm:=vm) hlen hroom hmem hK w' (⟨hP.1.elim λvs h'=>⟨vs,h'.1.below h,h'.2.below h⟩,hP.2.below h⟩) (hI.below h);obtain⟨ha0,ha1⟩:=hlen;obtain⟨⟨vs,hOv,hCM⟩,hOm⟩:=hP;have hvl:Hid (vs.length=codes.length):=hCM.len
 obtain⟨gv,cv,rfl⟩:∃g c,vc=.slice (some ⟨g,0,none⟩) vs.length c:=by
  have hvl':=hvl.out;rcases hOv.form with⟨_,e⟩|⟨g,c,e,_⟩
  ·rw[e]at hvl';simp at hvl';omega
  ·exact⟨g,c,e⟩
 obtain⟨pm,cm,rfl⟩:=hOm.form2
 have hnv0:1<=vs.length:=by have:=hvl.out;omega
 have hnv1:vs.length<=8:=by have:=hvl.out;omega
 obtain⟨R,hR⟩:=Zh (j9 codes);rw[<-hR.out]at hck ⊢
 by_cases h3:R=0
 case neg=>
  simp only[af h3]
  have q3:(R != 0)=true:=by simp[h3]
  go_enter Tryz.func13,Tryz.ntmps13;go_upto_region 1 with(fail);obtain⟨W,kP,e0,e1,XP,hal⟩:=aO w #[.slice (some ⟨gv,0,none⟩) vs.length cv,.slice pm mem.length cm,.int .i64 room] 57;rw[e0,e1];have hkP:w.heap.size<=kP:=aD e1;clear e0 e1;obtain⟨y0,y1,y2⟩:=cl3 XP;go_wp2_with fail;refine(hck W hal).mono ?_;rintro e w1 ⟨⟨ea,eb,rfl⟩,hb1⟩;clear y0 y1 y2;replace XP:=keep XP hb1;replace hal:=hal.trans (hb1.mono hal.size);clear hb1;obtain⟨y0,y1,y2⟩:=cl3 XP;go_wp2;go_ret2;exact⟨rfl,hal⟩
 simp only[ag h3];subst h3;go_enter Tryz.func13,Tryz.ntmps13;go_upto_region 1 with(fail);obtain⟨W,kP,e0,e1,XP,hal⟩:=aO w #[.slice (some ⟨gv,0,none⟩) vs.length cv,.slice pm mem.length cm,.int .i64 room] 57;rw[e0,e1];have hkP:w.heap.size<=kP:=aD e1;clear e0 e1;obtain⟨y0,y1,y2⟩:=cl3 XP;go_wp2_with fail;refine(hck W hal).mono ?_;rintro e w1 ⟨⟨ea,eb,rfl⟩,hb1⟩;clear y0 y1 y2;replace XP:=keep XP hb1;replace hal:=hal.trans (hb1.mono hal.size);clear hb1;obtain⟨y0,y1,y2⟩:=cl3 XP;clear hck hR y0 y1 y2;replace hOv:=hOv.below hal;replace hOm:=hOm.below hal;replace hCM:=hCM.below hal;have hz52:∀w:World,∃w',(Instr.makeSlice 99 (.int .i64 (vs.length:Int)) (.int .i64 (vs.length:Int))).run Tryz.prog w=.ok (.slice (some ⟨w.heap.size,0,none⟩) vs.length vs.length) w'/\Own eT w' (.slice (some ⟨w.heap.size,0,none⟩) vs.length vs.length) (List.replicate vs.length th0)/\Below w.heap.size w w':=λw=>oN n9 w 99 Tryz.underlying99 th0 48 G6 (by decide) vs.length (by omega);go_upto_region 4 with(fail);go_cut [7] from 21 to 29 (λs7 wx=>∃(kM kT:Nat)(vm':Value),s7=.pointer (some ⟨kM,0,none⟩)/\wx.heap[kM]? = some (.cells #[.slice none 0 0,.slice (some ⟨kT,0,none⟩) vs.length vs.length,.slice none 0 0,vm',.slice none 0 0,.slice none 0 0] 105 (0,0))/\Own eT wx (.slice (some ⟨kT,0,none⟩) vs.length vs.length) (List.replicate vs.length th0)/\Own eU wx vm' mem/\w1.heap.size<=kM/\w1.heap.size<=kT/\(∀k,vm'.ownBlock=some k->w1.heap.size<=k)/\Below w1.heap.size w1 wx)
 case first=>
  refine i6 2 (λw'=>Below w1.heap.size w1 w') rfl (by kernel_rfl) (by decide) (by kernel_rfl) ?_;simp only[List.take_succ_cons,List.take_zero];refine Zr ?_;refine bP rfl _ (λw' h'=>aE (by have c:=ae w' kP 1 _ 57 _ (keep XP h');go_simp;try with_reducible rfl)) (Zj ?_);refine oh ?_;have q0:Below w1.heap.size w1 w1.drew:=Below.drew (ak _ _);refine qK 3 3 5 rfl (by decide) (by kernel_rfl) (by kernel_rfl) ?_;simp only[List.drop_succ_cons,List.drop_zero,List.take_succ_cons,List.take_zero];refine Zr ?_;refine bP rfl _ (λw' h'=>aE (by have c:=ae w' kP 0 _ 57 _ (keep XP h');go_simp;try with_reducible rfl)) (Zj ?_);refine Zr ?_;refine oh ?_;refine hH [2,6] (by kernel_rfl) (by simp) (λd0 r0=>⟨q0.trans (r0.mono q0.size),?_⟩);replace q0:=q0.trans (r0.mono q0.size);intro j hj;simp only[List.mem_cons,List.not_mem_nil,or_false]at hj;rcases hj with rfl|rfl
  ·refine fW rfl rfl 29 #[.slice pm mem.length cm] (λv w'=>(Own eU w' v mem/\∀k,v.ownBlock=some k->d0.heap.size<=k)/\Below d0.heap.size d0 w') ?_ ((Aw (.slice pm mem.length cm) mem (by omega) d0 (hOm.below q0)).mono (λe w' hh=>by
    obtain⟨⟨v',rfl,h5,h6⟩,h7⟩:=hh
    exact⟨_,rfl,⟨h5,h6⟩,h7⟩)) (λvm' x2 hv=>?_)
   ·first|(go_simp;done)|(go_simp;rfl)
   obtain⟨⟨hOM,hvm⟩,hbc⟩:=hv;have hvm1:∀k,vm'.ownBlock=some k->w1.heap.size<=k:=λk e=>ar q0.size (hvm k e);replace q0:=q0.trans (hbc.mono q0.size);refine ZG 6 (λd1 r1=>⟨q0.trans (r1.mono q0.size),?_⟩);replace q0:=q0.trans (r1.mono q0.size);replace hOM:=hOM.below r1;obtain⟨x1,hrun,hOT,hbx⟩:=hz52 d1
   refine je rfl rfl (.slice (some ⟨d1.heap.size,0,none⟩) vs.length vs.length) (w':=x1) (by first|(go_simp;done)|(go_simp;simp[hrun])) ?_
   obtain⟨kT,hkT⟩:∃q,Hid (d1.heap.size=q):=⟨_,rfl⟩;rw[hkT.out]at hOT ⊢
   have hT1:w1.heap.size<=kT:=by rw[<-hkT.out];exact q0.size
   replace q0:=q0.trans (hbx.mono q0.size);replace hOM:=hOM.below hbx;refine ZG 7 (λd7 r7=>⟨q0.trans (r7.mono q0.size),?_⟩);replace q0:=q0.trans (r7.mono q0.size);replace hOT:=hOT.below r7;replace hOM:=hOM.below r7;obtain⟨pq,cq,rfl⟩:=hOM.form2;refine aR rfl rfl (.agg #[.slice none 0 0,.slice (some ⟨kT,0,none⟩) vs.length vs.length,.slice none 0 0,.slice pq mem.length cq,.slice none 0 0,.slice none 0 0]) (by go_simp) ?_;refine ZG 8 (λd8 r8=>⟨q0.trans (r8.mono q0.size),?_⟩);replace q0:=q0.trans (r8.mono q0.size);replace hOT:=hOT.below r8;replace hOM:=hOM.below r8
   refine je rfl rfl (.pointer (some ⟨d8.heap.size,0,none⟩)) (w':=d8.alloc (.cells #[.slice none 0 0,.slice (some ⟨kT,0,none⟩) vs.length vs.length,.slice none 0 0,.slice pq mem.length cq,.slice none 0 0,.slice none 0 0] 105)) (by first|kernel_rfl|go_simp) ?_
   obtain⟨x9,kM,e8,eg,XM,hb8⟩:=aO d8 #[.slice none 0 0,.slice (some ⟨kT,0,none⟩) vs.length vs.length,.slice none 0 0,.slice pq mem.length cq,.slice none 0 0,.slice none 0 0] 105;rw[e8,eg]
   have hM1:w1.heap.size<=kM:=by rw[<-eg];exact q0.size
   clear e8 eg;replace hOT:=hOT.below hb8;replace hOM:=hOM.below hb8;replace q0:=q0.trans (hb8.mono q0.size);refine ZG 9 (λd9 r9=>⟨q0.trans (r9.mono q0.size),?_⟩);replace q0:=q0.trans (r9.mono q0.size);replace hOT:=hOT.below r9;replace hOM:=hOM.below r9;replace XM:=keep XM r9;refine aR rfl rfl (.pointer (some ⟨kM,0,none⟩)) (by go_simp) ?_;refine fB (by kernel_rfl) (λx4 r4=>⟨q0.trans (r4.mono q0.size),?_⟩);go_wp2_with fail;go_meet;exact⟨kM,kT,_,rfl,keep XM r4,hOT.below r4,hOM.below r4,hM1,hT1,hvm1,q0.trans (r4.mono q0.size)⟩
  ·obtain⟨x1,hrun,hOT,hbx⟩:=hz52 d0
   refine je rfl rfl (.slice (some ⟨d0.heap.size,0,none⟩) vs.length vs.length) (w':=x1) (by first|(go_simp;done)|(go_simp;simp[hrun])) ?_
   obtain⟨kT,hkT⟩:∃q,Hid (d0.heap.size=q):=⟨_,rfl⟩;rw[hkT.out]at hOT ⊢
   have hT1:w1.heap.size<=kT:=by rw[<-hkT.out];exact q0.size
   replace q0:=q0.trans (hbx.mono q0.size);refine ZG 2 (λd1 r1=>⟨q0.trans (r1.mono q0.size),?_⟩);replace q0:=q0.trans (r1.mono q0.size);replace hOT:=hOT.below r1
   refine fW rfl rfl 29 #[.slice pm mem.length cm] (λv w'=>(Own eU w' v mem/\∀k,v.ownBlock=some k->d1.heap.size<=k)/\Below d1.heap.size d1 w') ?_ ((Aw (.slice pm mem.length cm) mem (by omega) d1 (hOm.below q0)).mono (λe w' hh=>by
    obtain⟨⟨v',rfl,h5,h6⟩,h7⟩:=hh
    exact⟨_,rfl,⟨h5,h6⟩,h7⟩)) (λvm' x2 hv=>?_)
   ·first|(go_simp;done)|(go_simp;rfl)
   obtain⟨⟨hOM,hvm⟩,hbc⟩:=hv;have hvm1:∀k,vm'.ownBlock=some k->w1.heap.size<=k:=λk e=>ar q0.size (hvm k e);replace q0:=q0.trans (hbc.mono q0.size);replace hOT:=hOT.below hbc;refine ZG 7 (λd7 r7=>⟨q0.trans (r7.mono q0.size),?_⟩);replace q0:=q0.trans (r7.mono q0.size);replace hOT:=hOT.below r7;replace hOM:=hOM.below r7;obtain⟨pq,cq,rfl⟩:=hOM.form2;refine aR rfl rfl (.agg #[.slice none 0 0,.slice (some ⟨kT,0,none⟩) vs.length vs.length,.slice none 0 0,.slice pq mem.length cq,.slice none 0 0,.slice none 0 0]) (by go_simp) ?_;refine ZG 8 (λd8 r8=>⟨q0.trans (r8.mono q0.size),?_⟩);replace q0:=q0.trans (r8.mono q0.size);replace hOT:=hOT.below r8;replace hOM:=hOM.below r8
   refine je rfl rfl (.pointer (some ⟨d8.heap.size,0,none⟩)) (w':=d8.alloc (.cells #[.slice none 0 0,.slice (some ⟨kT,0,none⟩) vs.length vs.length,.slice none 0 0,.slice pq mem.length cq,.slice none 0 0,.slice none 0 0] 105)) (by first|kernel_rfl|go_simp) ?_
   obtain⟨x9,kM,e8,eg,XM,hb8⟩:=aO d8 #[.slice none 0 0,.slice (some ⟨kT,0,none⟩) vs.length vs.length,.slice none 0 0,.slice pq mem.length cq,.slice none 0 0,.slice none 0 0] 105;rw[e8,eg]
   have hM1:w1.heap.size<=kM:=by rw[<-eg];exact q0.size
   clear e8 eg;replace hOT:=hOT.below hb8;replace hOM:=hOM.below hb8;replace q0:=q0.trans (hb8.mono q0.size);refine ZG 9 (λd9 r9=>⟨q0.trans (r9.mono q0.size),?_⟩);replace q0:=q0.trans (r9.mono q0.size);replace hOT:=hOT.below r9;replace hOM:=hOM.below r9;replace XM:=keep XM r9;refine aR rfl rfl (.pointer (some ⟨kM,0,none⟩)) (by go_simp) ?_;refine fB (by kernel_rfl) (λx4 r4=>⟨q0.trans (r4.mono q0.size),?_⟩);go_wp2_with fail;go_meet;exact⟨kM,kT,_,rfl,keep XM r4,hOT.below r4,hOM.below r4,hM1,hT1,hvm1,q0.trans (r4.mono q0.size)⟩
 obtain⟨kM,kT,vm',rfl,XM,hOT,hOM,hkM,hkT,hvm',hb2⟩:=hcut;have hs1:=hal.size
 have hM0:MMem wc kM (λk=>k=kM\/(Value.slice none 0 0).ownBlock=some k\/(Value.slice (some ⟨kT,0,none⟩) vs.length vs.length).ownBlock=some k\/(Value.slice none 0 0).ownBlock=some k\/vm'.ownBlock=some k\/(Value.slice none 0 0).ownBlock=some k\/(Value.slice none 0 0).ownBlock=some k) ⟨codes.take 0,List.replicate vs.length th0,List.replicate 0 (bf0 room),mem,[],[]⟩:=
  ⟨⟨.slice none 0 0,.slice (some ⟨kT,0,none⟩) vs.length vs.length,.slice none 0 0,vm',.slice none 0 0,.slice none 0 0⟩,[],⟨XM,Own.nil _,by rw[List.take_zero];exact CodesM.nil _,hOT,Own.nil _,hOM,Own.nil _,Own.nil _,λk=>Iff.rfl⟩⟩
 have hF0:∀k,(k=kM\/(Value.slice none 0 0).ownBlock=some k\/(Value.slice (some ⟨kT,0,none⟩) vs.length vs.length).ownBlock=some k\/(Value.slice none 0 0).ownBlock=some k\/vm'.ownBlock=some k\/(Value.slice none 0 0).ownBlock=some k\/(Value.slice none 0 0).ownBlock=some k)->w1.heap.size<=k:=λk h=>by
  rcases h with rfl|e|e|e|e|e|e
  ·exact hkM
  ·cases e
  ·cases e;exact hkT
  ·cases e
  ·exact hvm' k e
  ·cases e
  ·cases e
 have y0:=ae wc kP 0 _ 57 _ (keep XP hb2);go_upto_region 6 with(fail);clear y0 XM hOT hOM hvm' hz52;go_loopw [33] (λv wr=>∃(i:Nat)(F:Nat->Prop),v=.int .i64 i/\i<=vs.length/\MMem wr kM F ⟨codes.take i,List.replicate vs.length th0,List.replicate i (bf0 room),mem,[],[]⟩/\(∀k,F k->w1.heap.size<=k)/\Below w1.heap.size w1 wr) (λv _=>vs.length - (intOf v).toNat)
 case atStart=>exact⟨0,_,rfl,au _,hM0,hF0,hb2⟩
 case round=>
  clear hM0 hF0;obtain⟨i,F,rfl,hi,hMM,hF,hbr⟩:=hrel
  by_cases hlt:i<vs.length
  case neg=>
   obtain rfl:i=vs.length:=by omega
   have hl1:¬((vs.length:Int)<vs.length):=by omega
   have e1:codes.take vs.length=codes:=by rw[hvl.out];exact List.take_length
   rw[e1,hvl.out]at hMM;go_wp2;go_ret2;exact⟨⟨kM,rfl,F,hMM,λk hk=>ar hs1 (hF k hk)⟩,hal.trans (hbr.mono hs1)⟩
  have hl0:(0:Int)<=i:=by omega
  have hl1:(i:Int)<vs.length:=by omega
  obtain⟨v,hv⟩:∃v,vs[i]? = some v:=⟨vs[i],aq hlt⟩;obtain⟨L,hL⟩:∃L,codes[i]? = some L:=⟨codes[i]'(by have:=hvl.out;omega),aq (by have:=hvl.out;omega)⟩;have hLl:=hcl L (aC hL)
  have htk:codes.take (i+1)=codes.take i++[L]:=by rw[List.take_add_one,hL];rfl
  have hOL:=hCM.code i v L hv hL;obtain⟨pv,nv,cvv⟩:=v;have hOL1:=hOL;obtain⟨V,c',e,_,hnil⟩:=i9 (v:=.slice pv nv cvv) (L:=L) hOL;simp only[Value.slice.injEq]at e;obtain⟨rfl,rfl,rfl⟩:=e
  have yv:wr.cell? ⟨gv,i,none⟩=some (.slice pv L.length cvv):=by
   have h1:=(((hOv.below hbr).at nT).elem nT hv) 0 _ rfl
   simpa[eV] using h1
  have XPr:=keep XP hbr;have y2:=ae wr kP 2 _ 57 _ XPr;go_upto_region 8 with(fail);refine ab ?_
  iterate 2 refine Zv ?_
  refine Zc 30 #[.int .i64 room] (.tuple #[.agg (mz (bf0 room)).toArray,.int .i64 0]) (E0 room hroom wr) (λw2 hb3=>?_);refine Zv ?_;refine aG rfl (.agg #[.int .i64 0,.int .u32 0,.int .i64 0,.int .u32 0,.int .i64 0,.int .u32 0,.int .i64 0,.int .u32 0,.int .i64 0,.int .u32 0,.int .i64 0,.int .u32 0,.int .i64 0,.int .u32 0,.int .i64 0,.int .u32 0,.int .i64 0,.int .u32 0,.int .i64 0,.int .u32 0,.int .i64 0,.int .u32 0,.int .i64 0,.int .u32 0,.int .i64 0,.int .u32 0,.int .i64 0,.int .u32 0,.int .i64 0,.int .u32 0,.int .i64 0,.int .u32 0,.int .i64 0,.int .i64 0,.int .i64 room]) ?_ ?_
  ·first|(go_simp;done)|(go_simp;rfl)
  refine Zk ?_;refine Zv ?_;refine Za 110 #[.int .i64 0,.int .u32 0,.int .i64 0,.int .u32 0,.int .i64 0,.int .u32 0,.int .i64 0,.int .u32 0,.int .i64 0,.int .u32 0,.int .i64 0,.int .u32 0,.int .i64 0,.int .u32 0,.int .i64 0,.int .u32 0,.int .i64 0,.int .u32 0,.int .i64 0,.int .u32 0,.int .i64 0,.int .u32 0,.int .i64 0,.int .u32 0,.int .i64 0,.int .u32 0,.int .i64 0,.int .u32 0,.int .i64 0,.int .u32 0,.int .i64 0,.int .u32 0,.int .i64 0,.int .i64 0,.int .i64 0] (λw4 kB XB l4 f4=>?_);refine Zo 110 kB #[.int .i64 0,.int .u32 0,.int .i64 0,.int .u32 0,.int .i64 0,.int .u32 0,.int .i64 0,.int .u32 0,.int .i64 0,.int .u32 0,.int .i64 0,.int .u32 0,.int .i64 0,.int .u32 0,.int .i64 0,.int .u32 0,.int .i64 0,.int .u32 0,.int .i64 0,.int .u32 0,.int .i64 0,.int .u32 0,.int .i64 0,.int .u32 0,.int .i64 0,.int .u32 0,.int .i64 0,.int .u32 0,.int .i64 0,.int .u32 0,.int .i64 0,.int .u32 0,.int .i64 0,.int .i64 0,.int .i64 room] XB (λw5 g1 g2 g3 g4=>?_);refine Zv ?_;have hb5:Below wr.heap.size wr w5:=(hb3.trans (l4.mono hb3.size)).trans (g3 _ (by have:=hb3.size;simp only[Hid]at f4;omega));clear XB l4 f4 g2 g3 g4 hb3 yv y2;have XB:=g1;clear g1;replace hMM:=hMM.below hb5;replace hbr:=hbr.trans (hb5.mono hbr.size);clear hb5 XPr;obtain⟨V,ws,hMv⟩:=hMM;have hcM:=hMv.cm;have hrc:=hMv.rc;obtain⟨Vc,Vt,Vf,Vm,Vk,Ve⟩:=V;obtain⟨pc,cc,rfl⟩:=hMv.rc.form2;have hrf0:Own eB w5 Vf (List.replicate i (bf0 room)):=hMv.rf
  obtain⟨pf,cf,ef⟩:=hrf0.form2;rw[List.length_replicate]at ef;subst ef;clear hrf0
  have hws:ws.length<=8:=by rw[hcM.len,List.length_take];omega
  go_upto_region 9 with(fail);have XM:=hMv.blk;refine bR 6 8 12 (λw'=>Below w5.heap.size w5 w') _ rfl (by kernel_rfl) (by kernel_rfl) (by decide) (by kernel_rfl) ?_;simp only[List.take_succ_cons,List.take_zero]
  iterate 4 refine Zf ?_
  refine bm rfl (by kernel_rfl) _ (λw' h'=>aE (by have c:w'.cell? ⟨kM,0,none⟩=some (.slice pc ws.length cc):=ae w' kM 0 _ 105 _ (keep XM h');go_simp;try with_reducible rfl)) (Zj ?_);refine Zf ?_;refine gJ ?_;show dU _ _ _ _ _ _ _ _ _ _;have q0:Below w5.heap.size w5 w5.drew:=Below.drew (ak _ _);have XMm:=keep XM q0;refine ZM 6 (λd6 r6=>⟨λ_=>q0.trans (r6.mono q0.size),?_⟩);replace q0:=q0.trans (r6.mono q0.size);replace XMm:=keep XMm r6;obtain⟨V',cV',eV',hRV,_⟩:=i9 (v:=.slice pv L.length cvv) (L:=L) (hOL1.below (hbr.trans (q0.mono hbr.size)));simp only[Value.slice.injEq]at eV';obtain⟨rfl,-,rfl⟩:=eV'
  refine fW rfl rfl 31 #[.slice pv L.length cvv] (λv w'=>kZ w' v L/\Below d6.heap.size d6 w') ?_ ((zD pv L cvv hLl hnil d6 hRV).mono (λe w' hh=>by
   obtain⟨⟨v',rfl,h5,h6⟩,h7⟩:=hh
   exact⟨_,rfl,h5,h7⟩)) (λv x6 hv=>?_)
  ·first|(go_simp;done)|(go_simp;rfl)
  obtain⟨hOc',hbx⟩:=hv;have hOc:Own eI x6 v L:=hOc';obtain⟨pq,cq,rfl⟩:=hOc.form2;replace q0:=q0.trans (hbx.mono q0.size);replace XMm:=keep XMm hbx;clear hbx hRV hOc';refine ZM 7 (λd7 r7=>⟨λ_=>q0.trans (r7.mono q0.size),?_⟩);replace q0:=q0.trans (r7.mono q0.size);replace XMm:=keep XMm r7;replace hOc:=hOc.below r7
  refine je rfl rfl (.slice (some ⟨d7.heap.size,0,none⟩) 1 1) (w':=d7.alloc (.cells #[.slice pq L.length cq] 93)) (by first|kernel_rfl|go_simp) ?_
  obtain⟨e7,bN,e8,eg,BN,hb8⟩:=aO d7 #[.slice pq L.length cq] 93;rw[e8,eg];clear e8 eg;replace q0:=q0.trans (hb8.mono q0.size);replace XMm:=keep XMm hb8;replace hOc:=hOc.below hb8;clear hb8;refine ZM 8 (λd8 r8=>⟨λ_=>q0.trans (r8.mono q0.size),?_⟩);replace q0:=q0.trans (r8.mono q0.size);replace XMm:=keep XMm r8;replace BN:=keep BN r8;replace hOc:=hOc.below r8;have hO3:=hrc.below q0
  refine iM nT rfl rfl 54 Tryz.underlying54 24 ud (.tmp 47) (.tmp 50) rfl _ ws [⟨pq,L.length,cq⟩] rfl hO3 bN 0 1 rfl (cG BN _ rfl) (by simp<;>omega) (by decide) (λvc' v4 hO4 hg4 hl4=>?_)
  have hal3:=q0;have Xb:=fD hO3 XMm (by decide) hg4
  have hOc4:=hOc.keep (w':=v4) (λg e=>hg4.block g (hOc.lt e) (λe2=>by
   obtain⟨_,h5⟩:=hOc.blk e;obtain⟨_,h6⟩:=hO3.blk e2.symm
   exact aK h5 h6 (show(115:Nat)≠93 by decide) rfl))
  obtain⟨p,c4,rfl⟩:=hO4.form2;generalize hn4:(ws++[(⟨pq,L.length,cq⟩:Sl)]).length=n4 at *;refine ZM 9 (λv5 r5=>⟨(λe=>absurd (show true=false from e) (by decide)),?_⟩);refine aR rfl rfl (.pointer (some ⟨kM,0,none⟩)) (by go_simp) ?_;refine ZM 10 (λv6 r6=>⟨(λe=>absurd (show true=false from e) (by decide)),?_⟩);refine aR rfl rfl (.pointer (some ⟨kM,0,none⟩)) (by go_simp) ?_;refine ZM 11 (λv7 r7=>⟨(λe=>absurd (show true=false from e) (by decide)),?_⟩);have hb7:Below v4.heap.size v4 v7:=(r5.trans (r6.mono r5.size)).trans (r7.mono (ar r5.size r6.size));have Xc:=keep Xb hb7;refine du rfl rfl 54 (λw=>by kernel_rfl) (.tmp 53) (.tmp 51) rfl kM 0 p n4 c4 _ 105 rfl rfl Xc (by show 0<6;decide) (λv8 p1 p2 p3=>?_);refine bl (by kernel_rfl) (by kernel_rfl) (λv9 r9=>?_);have hA:j7 eV w5 v9 kM 0 105 #[.slice pc ws.length cc,Vt,.slice pf i cf,Vm,Vk,Ve] (.slice pc ws.length cc) (.slice p n4 c4) (ws++[(⟨pq,L.length,cq⟩:Sl)]):=io hal3 hg4 hl4 hO4 Xb (by decide) hb7 p1 p2 p3 r9
  have hOc9:=((hOc4.below hb7).keep (w':=v8) (λg e=>p2 g (λe'=>by
   obtain⟨_,h5⟩:=(hOc4.below hb7).blk e
   exact aK h5 Xc (show(115:Nat)≠105 by decide) e'))).below r9
  clear q0 r5 r6 r7 r9 Xb Xc hb7 hg4 hl4 hO4 p1 p2 p3 hal3;have hCM9:=CodesM.snoc (v:=⟨pq,L.length,cq⟩) (L:=L) hcM (λv l h=>h.other (i8 hA hMv.blk hMv.rc) (by decide) (by decide)) hOc9;rw[<-htk]at hCM9;obtain⟨F1,hMv1,hU1⟩:=hMv.app_c hA hCM9;have XB9:=(i8 hA hMv.blk hMv.rc kB _ _ XB (by decide) (by decide)).trans XB;have hbr1:=hbr.trans (hU1.low _ hF hbr.size)
  have hF1:∀k,F1 k->w1.heap.size<=k:=λk hk=>by
   rcases hU1.foot k hk with h|h
   ·exact hF k h
   ·have:=hbr.size;omega
  clear hA hCM9 hOc9 hO3 hOc hOc4 XMm BN hU1 hMv hcM hrc XM;go_upto_region 10 with(fail);have XM:=hMv1.blk;have hrf:Own eB v9 (.slice pf i cf) (List.replicate i (bf0 room)):=hMv1.rf;refine bR 6 7 11 (λw'=>Below v9.heap.size v9 w') _ rfl (by kernel_rfl) (by kernel_rfl) (by decide) (by kernel_rfl) ?_;simp only[List.take_succ_cons,List.take_zero]
  iterate 4 refine Zf ?_
  refine bm rfl (by kernel_rfl) _ (λw' h'=>aE (by have c:w'.cell? ⟨kM,2,none⟩=some (.slice pf i cf):=ae w' kM 2 _ 105 _ (keep XM h');go_simp;try with_reducible rfl)) (Zj ?_);refine bm rfl (by kernel_rfl) _ (λw' h'=>fF 110 (.tmp 10) rfl _ rfl _ _ (0,0) _ (keep XB9 h') Tryz.underlying110 rfl (by kernel_rfl)) (Zj ?_);refine gJ ?_;show dU _ _ _ _ _ _ _ _ _ _;have q0:Below v9.heap.size v9 v9.drew:=Below.drew (ak _ _);have XMm:=keep XM q0;refine ZM 6 (λd6 r6=>⟨λ_=>q0.trans (r6.mono q0.size),?_⟩);replace q0:=q0.trans (r6.mono q0.size);replace XMm:=keep XMm r6
  refine je rfl rfl (.slice (some ⟨d6.heap.size,0,none⟩) 1 1) (w':=d6.alloc (.cells #[.int .i64 0,.int .u32 0,.int .i64 0,.int .u32 0,.int .i64 0,.int .u32 0,.int .i64 0,.int .u32 0,.int .i64 0,.int .u32 0,.int .i64 0,.int .u32 0,.int .i64 0,.int .u32 0,.int .i64 0,.int .u32 0,.int .i64 0,.int .u32 0,.int .i64 0,.int .u32 0,.int .i64 0,.int .u32 0,.int .i64 0,.int .u32 0,.int .i64 0,.int .u32 0,.int .i64 0,.int .u32 0,.int .i64 0,.int .u32 0,.int .i64 0,.int .u32 0,.int .i64 0,.int .i64 0,.int .i64 room] 110)) (by first|kernel_rfl|go_simp) ?_
  obtain⟨e6,bN,e8,eg,BN,hb8⟩:=aO d6 #[.int .i64 0,.int .u32 0,.int .i64 0,.int .u32 0,.int .i64 0,.int .u32 0,.int .i64 0,.int .u32 0,.int .i64 0,.int .u32 0,.int .i64 0,.int .u32 0,.int .i64 0,.int .u32 0,.int .i64 0,.int .u32 0,.int .i64 0,.int .u32 0,.int .i64 0,.int .u32 0,.int .i64 0,.int .u32 0,.int .i64 0,.int .u32 0,.int .i64 0,.int .u32 0,.int .i64 0,.int .u32 0,.int .i64 0,.int .u32 0,.int .i64 0,.int .u32 0,.int .i64 0,.int .i64 0,.int .i64 room] 110;rw[e8,eg];clear e8 eg;replace q0:=q0.trans (hb8.mono q0.size);replace XMm:=keep XMm hb8;clear hb8;refine ZM 7 (λd7 r7=>⟨λ_=>q0.trans (r7.mono q0.size),?_⟩);replace q0:=q0.trans (r7.mono q0.size);replace XMm:=keep XMm r7;replace BN:=keep BN r7;have hO3:=hrf.below q0
  refine iM eB_ok rfl rfl 100 Tryz.underlying100 280 EC (.tmp 58) (.tmp 60) rfl _ (List.replicate i (bf0 room)) [bf0 room] rfl hO3 bN 0 1 rfl (cG BN _ rfl) (by simp<;>omega) (by decide) (λvc' v4 hO4 hg4 hl4=>?_)
  have hal3:=q0;have Xb:=fD hO3 XMm (by decide) hg4;generalize hn5:(List.replicate i (bf0 room)++[bf0 room]).length=n5 at *;obtain⟨p5,c5,e5⟩:=hO4.form2;subst e5;rw[hn5]at *;refine ZM 8 (λv5 r5=>⟨(λe=>absurd (show true=false from e) (by decide)),?_⟩);refine aR rfl rfl (.pointer (some ⟨kM,0,none⟩)) (by go_simp) ?_;refine ZM 9 (λv6 r6=>⟨(λe=>absurd (show true=false from e) (by decide)),?_⟩);refine aR rfl rfl (.pointer (some ⟨kM,2,none⟩)) (by go_simp) ?_;refine ZM 10 (λv7 r7=>⟨(λe=>absurd (show true=false from e) (by decide)),?_⟩);have hb7:Below v4.heap.size v4 v7:=(r5.trans (r6.mono r5.size)).trans (r7.mono (ar r5.size r6.size));have Xc:=keep Xb hb7;refine du rfl rfl 100 (λw=>by kernel_rfl) (.tmp 63) (.tmp 61) rfl kM 2 p5 n5 c5 _ 105 rfl rfl Xc (by show 2<6;decide) (λv8 p1 p2 p3=>?_);refine bl (by kernel_rfl) (by kernel_rfl) (λv19 r9=>?_);have hA:j7 eB v9 v19 kM 2 105 #[.slice p n4 c4,Vt,.slice pf i cf,Vm,Vk,Ve] (.slice pf i cf) (.slice p5 n5 c5) ((List.replicate i (bf0 room))++[bf0 room]):=io hal3 hg4 hl4 hO4 Xb (by decide) hb7 p1 p2 p3 r9;clear q0 r5 r6 r7 r9 Xb Xc hb7 hg4 hl4 hO4 p1 p2 p3 hal3;obtain⟨F2,hMv2,hU2⟩:=hMv1.app_f hA;have hbr2:=hbr1.trans (hU2.low _ hF1 hbr1.size)
  have hF2:∀k,F2 k->w1.heap.size<=k:=λk hk=>by
   rcases hU2.foot k hk with h|h
   ·exact hF1 k h
   ·have:=hbr1.size;omega
  have e9:List.replicate i (bf0 room)++[bf0 room]=List.replicate (i+1) (bf0 room):=by rw[List.replicate_succ']
  rw[e9]at hMv2;have hMM9:MMem v19 kM F2 ⟨codes.take (i+1),List.replicate vs.length th0,List.replicate (i+1) (bf0 room),mem,[],[]⟩:=⟨_,_,hMv2⟩;clear hA hO3 XMm BN hU2 hMv2 hMv1 XM hrf XB9 XB hbr hbr1 hF hF1 htk hOL hOL1 hnil;go_wp2;go_roundw
  case rel=>exact⟨i+1,F2,by go_num,by omega,hMM9,hF2,hbr2⟩
  case measure=>simp[intOf];omega
end Go.Proofs.YtldlcnaphednnaaGreatDoor
