/- A mutex's two calls are judged: New, Do, fits, Judge. -/
import Derived.Test.YtldlcnaphednnaaGreatDoorM37
import Derived.Test.YtldlcnaphednnaaGreatDoorM35
import Derived.Laws.ResultCell
set_option maxRecDepth 100000
set_option maxHeartbeats 32000000
set_option linter.unusedVariables false
set_option linter.unusedSimpArgs false
namespace Go.Proofs.YtldlcnaphednnaaGreatDoor
open Go.RowKit Go.Maps
def stL(x:Int):List Value:=[.int .i64 10,.int .i64 0,.int .i64 0,.int .i64 0,.int .i64 x,.bool false,.bool false,.bool false,.bool false,.bool false,.bool false,.bool false,.bool false,.int .u32 0,.int .u32 0,.int .u32 0,.int .u32 0,.int .u32 0,.int .u32 0,.int .i64 0,.bool false,.int .i64 0,.int .i64 0,.int .i64 0,.int .i64 0,.int .i64 0,.int .i64 0,.int .i64 0,.int .i64 0,.int .i64 0,.int .i64 0,.int .i64 0,.int .i64 0,.int .i64 0,.int .i64 0,.int .i64 0,.int .i64 0,.int .i64 0]
def eM:Enc Int:=⟨133,38,stL⟩
theorem iH:eM.Ok:=⟨λx=>rfl,λx u hu=>by
 simp only[eM,stL,List.mem_cons,List.not_mem_nil,or_false]at hu
 rcases hu with rfl|rfl|rfl|rfl|rfl|rfl|rfl|rfl|rfl|rfl|rfl|rfl|rfl|rfl|rfl|rfl|rfl|rfl|rfl|rfl|rfl|rfl|rfl|rfl|rfl|rfl|rfl|rfl|rfl|rfl|rfl|rfl|rfl|rfl|rfl|rfl|rfl|rfl<;>rfl,by decide⟩
theorem GL:(Tryz.prog.info? eM.ty).map (λi=>(i.zero.map (·.cells.size),i.size,i.bytes))=some (some eM.sz,eM.sz,224):=by kernel_rfl
abbrev pT:Value:=.tuple #[.agg #[.int .u32 0,.slice none 0 0],.bool true]
theorem oD{fn:Func}{R:Ending->World->Prop}{a:Go.Act}{w:World}{c u:Tmp}(hr:fn.results=#[.cell c 79,.tmp u])(b:Nat)(hd:a.defers=[])(hx:a.tmps.getD c undef=.pointer (some ⟨b,0,none⟩))(hok:a.tmps.getD u undef=.bool true)
  (hg:w.heap[b]? = some (.cells #[.int .u32 0,.slice none 0 0] 79 (0,0))) (hR:R (.returned pT) w):bodyPost Tryz.prog fn R .ret a w:=by
 refine bodyPost_ret (v:=pT) ?_ hd hR;have hl:=run_loadVar_row (P:=Tryz.prog) w b 79 79 #[.int .u32 0,.slice none 0 0] (0,0) _ hg Tryz.underlying79 rfl (by kernel_rfl);rw[results_cell_tmp hr,hx,hok];simp only[asAddr,Sem.run_pure,Result.andThen_ok,hl]
theorem DX(w:World):Calls Tryz.prog 68 #[] w λe w'=>e=.returned pT/\Below w.heap.size w w':=by
 go_enter Tryz.func68,Tryz.ntmps68;go_wp2;exact oD rfl _ rfl rfl rfl (heap_alloc_new w _) ⟨rfl,(ak _ _).alloc (ah _) _⟩
theorem Gp(aw ao ac aa av site at_:Int)(w:World):Calls Tryz.prog 21 #[.agg (gY ⟨aw,ao,ac,0,aa,av,site,at_,true,0⟩).toArray,.agg #[.int .u32 0,.slice none 0 0]] w λe w'=>e=.returned (.bool true)/\Below w.heap.size w w':=by
 unfold gY;go_enter Tryz.func21,Tryz.ntmps21;go_upto_region 1 with(fail);obtain⟨W,b1,b2,e0,e1,e2,X1,X2,hal⟩:=lW w #[.int .i64 aw,.int .i64 ao,.int .i64 ac,.int .i64 0,.int .u32 aa,.int .u32 av,.int .i64 site,.int .i64 at_,.bool true,.int .u32 0,.slice none 0 0] #[.int .u32 0,.slice none 0 0] 77 79;rw[e0,e2,e1];clear e0 e2 e1;have y3:=ae W b1 3 _ 77 _ X1;have y8:=ae W b1 8 _ 77 _ X1;have y9:=ae W b1 9 _ 77 _ X1;have y10:=ae W b1 10 _ 77 _ X1;obtain⟨z0,z1⟩:=cl2 X2;go_wp2;go_loopw [39] (λv wr=>v=.int .i64 0/\wr=W) (λ_ _=>0)
 case atStart=>exact⟨rfl,rfl⟩
 case round=>
  obtain⟨rfl,rfl⟩:=hrel;go_wp2;go_ret;exact⟨rfl,hal⟩
theorem Fu{P:Program}{ops:Array Oper}{Q:Exit->Go.Act->World->Prop}{rest:List Oper}{o:Oper}{a:Go.Act}{w:World}(hgd:o.guard=none)(ty:TypeId)(x y:Operand)(ho:o.op=.store ty x y)(b off:Nat)(vs:List Value)(hinf:(P.info? ty).map (·.size)=some vs.length)(hone:∀u∈vs,u.oneCell'=true)(cur:Array Value)(t:TypeId)
  (hx:a.eval x=.pointer (some ⟨b,off,none⟩)) (hy:a.eval y=.agg vs.toArray) (hg:w.heap[b]? = some (.cells cur t (0,0))) (hs:off+vs.length<=cur.size)
  (h:∀w',(∀k,k≠b->w'.heap[k]? = w.heap[k]?)->(∀B,B<=b->Below B w w')->∀K:Go.Act->World->Prop,(∀a w,wpList P ops Q rest a w->K a w)->K (a.put o.dst undef) w'):wpList P ops Q (o :: rest) a w:=by
 refine wpList_plain hgd λK hK=>?_
 obtain⟨cur',h1,h2,h3,h4,h5⟩:=dQ b t vs off w cur hg hs
 have hth:w.there b off vs.length:=λj hj=>by
  refine⟨?_,frozen_of_row w b _ cur t hg⟩;rw[ae w b _ cur t _ hg,Array.getElem?_eq_getElem (by omega)];rfl
 unfold Oper.wp execOp;simp only[ho,hx,hy,Instr.storeAt,Instr.sureAddr,Sem.run_bind,Sem.run_pure,Result.andThen_ok,run_storeVar_mid w b off ty vs.toArray (by simpa using hth) (by rw[hinf];simp) (all_oneCell_toArray hone)];exact h _ h3 h4 K hK
theorem FT(g c:Nat)(w:World)(hO:Own eM w (.slice (some ⟨g,0,none⟩) 1 c) [-1]):Calls Tryz.prog 46 #[.pointer (some ⟨g,0,none⟩),.agg #[.int .i64 0,.int .i64 0,.int .i64 1,.int .i64 0,.int .u32 0,.int .u32 0]] w λe w'=>e=.returned pT/\Own eM w' (.slice (some ⟨g,0,none⟩) 1 c) [0]/\(∀k,k<w.heap.size->k≠g->w'.heap[k]? = w.heap[k]?)/\∀B,B<=g->Below B w w':=by
 go_enter Tryz.func46,Tryz.ntmps46;go_upto_region 1 with(fail);obtain⟨W,b3,b4,e0,e1,e2,X3,X4,hal⟩:=lW w #[.int .i64 0,.int .i64 0,.int .i64 1,.int .i64 0,.int .u32 0,.int .u32 0] #[.int .u32 0,.slice none 0 0] 75 79;rw[e0,e2,e1];have z3:w.heap.size<=b3:=aD e1
 have z4:w.heap.size<=b4:=by omega
 clear e0 e2 e1;have y2:=ae W b3 2 _ 75 _ X3;have y0:=ae W b3 0 _ 75 _ X3;have O:=hO.below hal;obtain⟨cur,hcu,hcs⟩:=ex iH O
 have g4:W.cell? ⟨g,4,none⟩=some (.int .i64 (-1)):=((O.at iH).elem iH (i:=0) rfl) 4 _ (by rfl) |> λh=>by simpa using h
 have gn3:g≠b4:=λe=>by rw[e,X4]at hcu;simp[eM]at hcu
 go_upto_region 11 with(fail);refine ab ?_
 iterate 5 refine Zv ?_
 refine Zw 3 4 (.int .i64 0) (dw _) hcu (by simp only[List.length_singleton,eM]at hcs;omega) (λw1 s1 s2 s3=>?_);have O1:Own eM w1 (.slice (some ⟨g,0,none⟩) 1 c) [0]:=dG (i:=0) (x:=-1) (y:=0) (q:=4) (u:=.int .i64 0) iH O hcu rfl (by decide) rfl (by simpa[eM] using s1);replace X4:=(s2 b4 gn3.symm).trans X4;go_upto_region 12 with(fail);refine ab ?_;refine Zc 68 #[] pT (DX w1) (λw5 hd=>?_)
 iterate 2 refine Zv ?_
 refine Zo 79 b4 #[.int .u32 0,.slice none 0 0] (keep X4 hd) (λw6 m1 m2 m3 m4=>?_);refine aG rfl (.bool true) ?_ ?_
 ·go_simp
 refine Zk ?_;have gl:=hO.lt (g:=g) rfl;have k6:∀k,k<w.heap.size->k≠g->w6.heap[k]? = w.heap[k]? := λk hk hn=>(m2 k (by omega)).trans ((hd.block k (by have:=(s3 0 (au _)).size;have:=hal.size;omega)).trans ((s2 k hn).trans (hal.block k hk)));have B6:∀B,B<=g->Below B w w6:=λB hB=>(((hal.mono (by omega)).trans (s3 B hB)).trans (hd.mono (by have:=(s3 0 (au _)).size;have:=hal.size;omega))).trans (m3 B (by omega))
 have O6:Own eM w6 (.slice (some ⟨g,0,none⟩) 1 c) [0]:=(O1.below hd).keep λk hk=>by cases hk;exact m2 g gn3
 clear O1 O hd hal s1 s2 s3 hcu hcs m2 m3;go_wp2;exact oD rfl b4 rfl rfl rfl m1 ⟨rfl,O6,k6,B6⟩
theorem GZ(g c:Nat)(w:World)(hO:Own eM w (.slice (some ⟨g,0,none⟩) 1 c) [0]):Calls Tryz.prog 46 #[.pointer (some ⟨g,0,none⟩),.agg #[.int .i64 0,.int .i64 0,.int .i64 2,.int .i64 0,.int .u32 0,.int .u32 0]] w λe w'=>e=.returned pT/\(∀k,k<w.heap.size->k≠g->w'.heap[k]? = w.heap[k]?)/\∀B,B<=g->Below B w w':=by
 go_enter Tryz.func46,Tryz.ntmps46;go_upto_region 1 with(fail);obtain⟨W,b3,b4,e0,e1,e2,X3,X4,hal⟩:=lW w #[.int .i64 0,.int .i64 0,.int .i64 2,.int .i64 0,.int .u32 0,.int .u32 0] #[.int .u32 0,.slice none 0 0] 75 79;rw[e0,e2,e1];have z3:w.heap.size<=b3:=aD e1
 have z4:w.heap.size<=b4:=by omega
 clear e0 e2 e1;have y2:=ae W b3 2 _ 75 _ X3;have y0:∀w',Below W.heap.size W w'->w'.cell? ⟨b3,0,none⟩=some (.int .i64 0):=λw' hb=>ae w' b3 0 _ 75 _ (keep X3 hb);have O:=hO.below hal
 have g4:∀w',Below W.heap.size W w'->w'.cell? ⟨g,4,none⟩=some (.int .i64 0):=λw' hb=>(((O.below hb).at iH).elem iH (i:=0) rfl) 4 _ (by rfl) |> λh=>by simpa using h
 go_upto_region 2 with(fail);refine ZA W ?_
 iterate 7 refine Zz ?_
 refine aQ (λw0 h0=>?_);have O0:=O.below h0;obtain⟨cur,hcu,hcs⟩:=ex iH O0;replace X4:=keep X4 h0
 have gn3:g≠b4:=λe=>by rw[e,X4]at hcu;simp[eM]at hcu
 clear y2 y0 g4;go_upto_region 4 with(fail);refine ab ?_
 iterate 3 refine Zv ?_
 refine Zw 3 4 (.int .i64 (-1)) (dw _) hcu (by simp only[List.length_singleton,eM]at hcs;omega) (λw1 s1 s2 s3=>?_);have O1:Own eM w1 (.slice (some ⟨g,0,none⟩) 1 c) [-1]:=dG (i:=0) (x:=0) (y:=-1) (q:=4) (u:=.int .i64 (-1)) iH O0 hcu rfl (by decide) rfl (by simpa[eM] using s1);replace X4:=(s2 b4 gn3.symm).trans X4;obtain⟨cur1,hcu1,hcs1⟩:=ex iH O1
 have hr:w1.rangeAt g 16 [.int .u32 0,.int .u32 0,.int .u32 0]:=λq v hv=>by
  have:=((O1.at iH).elem iH (i:=0) rfl) (16+q) v (by
   match q,hv with
   | 0,hv=>exact hv
   | 1,hv=>exact hv
   | 2,hv=>exact hv
   | q+3,hv=>simp at hv)
  simpa[Nat.add_assoc] using this
 go_upto_region 5 with(fail);refine ab ?_
 iterate 4 refine Zv ?_
 refine dJ rfl (.agg [.int .u32 0,.int .u32 0,.int .u32 0].toArray) (aZ 130 (.tmp 25) rfl g 16 rfl _ _ hr Tryz.underlying130 rfl (by kernel_rfl)) ?_;refine Zk ?_
 iterate 2 refine Zv ?_
 refine Fu rfl 130 (.tmp 28) (.tmp 26) rfl g 13 [.int .u32 0,.int .u32 0,.int .u32 0] (by kernel_rfl) (by simp[Value.oneCell']) cur1 133 rfl rfl hcu1 (by simp only[List.length_singleton,eM]at hcs1;simp<;>omega) (λw2 t2 t3=>?_)
 refine Zk ?_;replace X4:=(t2 b4 gn3.symm).trans X4;go_upto_region 6 with(fail);refine ab ?_;refine Zc 68 #[] pT (DX w2) (λw5 hd=>?_)
 iterate 2 refine Zv ?_
 refine Zo 79 b4 #[.int .u32 0,.slice none 0 0] (keep X4 hd) (λw6 m1 m2 m3 m4=>?_);refine aG rfl (.bool true) ?_ ?_
 ·go_simp
 refine Zk ?_;have gl:=hO.lt (g:=g) rfl
 have B6:∀B,B<=g->Below B w w6:=λB hB=>by
  have h1:=hal.size;have h2:=h0.size;have h3:=(s3 0 (au _)).size;have h4:=(t3 0 (au _)).size;exact(((((hal.mono (by omega)).trans (h0.mono (by omega))).trans (s3 B hB)).trans (t3 B hB)).trans (hd.mono (by omega))).trans (m3 B (by omega))
 have k6:∀k,k<w.heap.size->k≠g->w6.heap[k]? = w.heap[k]? := λk hk hn=>by
  have h1:=hal.size;have h2:=h0.size;have h3:=(s3 0 (au _)).size;have h4:=(t3 0 (au _)).size;exact(m2 k (by omega)).trans ((hd.block k (by omega)).trans ((t2 k hn).trans ((s2 k hn).trans ((h0.block k (by omega)).trans (hal.block k hk)))))
 clear O1 O O0 hd hal h0 s1 s2 s3 t2 t3 hcu hcs hcu1 hcs1 hr m2 m3;go_wp2;exact oD rfl b4 rfl rfl rfl m1 ⟨rfl,k6,B6⟩
theorem Gx(call ow:Int)(hc:(call=1/\ow=-1)\/(call=2/\ow=0))(g c:Nat)(w:World)(hO:Own eM w (.slice (some ⟨g,0,none⟩) 1 c) [ow]):Calls Tryz.prog 46 #[.pointer (some ⟨g,0,none⟩),.agg #[.int .i64 0,.int .i64 0,.int .i64 call,.int .i64 0,.int .u32 0,.int .u32 0]] w λe w'=>e=.returned pT/\(call=1->Own eM w' (.slice (some ⟨g,0,none⟩) 1 c) [0])/\(∀k,k<w.heap.size->k≠g->w'.heap[k]? = w.heap[k]?)/\∀B,B<=g->Below B w w':=by
 rcases hc with⟨rfl,rfl⟩|⟨rfl,rfl⟩
 ·exact(FT g c w hO).mono λe w' h=>⟨h.1,λ_=>h.2.1,h.2.2.1,h.2.2.2⟩
 ·exact(GZ g c w hO).mono λe w' h=>⟨h.1,λe=>absurd e (by decide),h.2⟩
theorem doC1(call ow:Int)(hc:(call=1/\ow=-1)\/(call=2/\ow=0))(bM g c:Nat)(w:World)(hN:NmW w)(XM:w.heap[bM]? = some (.cells #[.int .i64 1,.slice (some ⟨g,0,none⟩) 1 c] 127 (0,0)))(hO:Own eM w (.slice (some ⟨g,0,none⟩) 1 c) [ow]):Calls Tryz.prog 20 #[.pointer (some ⟨bM,0,none⟩),.agg #[.int .i64 0,.int .i64 0,.int .i64 call,.int .i64 0,.int .u32 0,.int .u32 0]] w λe w'=>e=.returned pT/\(call=1->Own eM w' (.slice (some ⟨g,0,none⟩) 1 c) [0])/\(∀k,k<w.heap.size->k≠g->w'.heap[k]? = w.heap[k]?)/\∀B,B<=g->Below B w w':=by
 have hm:Hid (a8 ⟨10,0,0,0⟩ call 1 0=true):=by
  rcases hc with⟨rfl,_⟩|⟨rfl,_⟩
  ·exact(show a8 ⟨10,0,0,0⟩ 1 1 0=true by decide +kernel)
  ·exact(show a8 ⟨10,0,0,0⟩ 2 1 0=true by decide +kernel)
 go_enter Tryz.func20,Tryz.ntmps20;go_upto_region 1 with(fail);obtain⟨W,b3,b4,e0,e1,e2,X3,X4,hal⟩:=lW w #[.int .i64 0,.int .i64 0,.int .i64 call,.int .i64 0,.int .u32 0,.int .u32 0] #[.int .u32 0,.slice none 0 0] 75 79;rw[e0,e2,e1];have z3:w.heap.size<=b3:=aD e1
 have z4:w.heap.size<=b4:=by omega
 clear e0 e2 e1;have y0:∀w',Below W.heap.size W w'->w'.cell? ⟨b3,0,none⟩=some (.int .i64 0):=λw' hb=>ae w' b3 0 _ 75 _ (keep X3 hb);have y1:∀w',Below W.heap.size W w'->w'.cell? ⟨b3,1,none⟩=some (.int .i64 0):=λw' hb=>ae w' b3 1 _ 75 _ (keep X3 hb);have y2:∀w',Below W.heap.size W w'->w'.cell? ⟨b3,2,none⟩=some (.int .i64 call):=λw' hb=>ae w' b3 2 _ 75 _ (keep X3 hb);have y3:∀w',Below W.heap.size W w'->w'.cell? ⟨b3,3,none⟩=some (.int .i64 0):=λw' hb=>ae w' b3 3 _ 75 _ (keep X3 hb);have m0:∀w',Below W.heap.size W w'->w'.cell? ⟨bM,0,none⟩=some (.int .i64 1):=λw' hb=>ae w' bM 0 _ 127 _ (keep (keep XM hal) hb);have m1:∀w',Below W.heap.size W w'->w'.cell? ⟨bM,1,none⟩=some (.slice (some ⟨g,0,none⟩) 1 c):=λw' hb=>ae w' bM 1 _ 127 _ (keep (keep XM hal) hb);have O:=hO.below hal
 have g0:∀w',Below W.heap.size W w'->w'.cell? ⟨g,0,none⟩=some (.int .i64 10):=λw' hb=>(((O.below hb).at iH).elem iH (i:=0) rfl) 0 _ (by rfl) |> λh=>by simpa using h
 have gR:∀w',Below W.heap.size W w'->w'.rangeAt g 0 [.int .i64 10,.int .i64 0,.int .i64 0,.int .i64 0]:=λw' hb q v hv=>(((O.below hb).at iH).elem iH (i:=0) rfl) q v (by
   match q,hv with
   | 0,hv=>exact hv
   | 1,hv=>exact hv
   | 2,hv=>exact hv
   | 3,hv=>exact hv
   | q+4,hv=>simp at hv) |> λh=>by simpa using h
 have hNW:=hN.below hal;go_upto_region 1 with(fail);refine ZA W ?_
 iterate 13 refine Zz ?_
 refine aQ (λw1 h1=>?_);have down:∀{q:World->Prop},(∀w',Below W.heap.size W w'->q w')->∀w',Below w1.heap.size w1 w'->q w':=λh w' hb=>h w' (h1.trans (hb.mono h1.size));replace y0:=down y0;replace y1:=down y1;replace y2:=down y2;replace y3:=down y3;replace m0:=down m0;replace m1:=down m1;replace g0:=down g0;replace gR:=down gR;clear down;replace hal:=hal.trans (h1.mono hal.size);replace hNW:=hNW.below h1;replace O:=O.below h1;replace X3:=keep X3 h1;replace X4:=keep X4 h1;clear h1;go_upto_region 3 with(fail);refine ZA w1 ?_
 iterate 6 refine Zz ?_
 refine Zy (.pointer (some ⟨g,0,none⟩)) (λw' h'=>by first|(go_simp;done)|kernel_rfl|(go_simp;rfl)) ?_
 refine Zz ?_;refine aQ (λw2 h2=>?_);have down:∀{q:World->Prop},(∀w',Below w1.heap.size w1 w'->q w')->∀w',Below w2.heap.size w2 w'->q w':=λh w' hb=>h w' (h2.trans (hb.mono h2.size));replace y0:=down y0;replace y1:=down y1;replace y2:=down y2;replace y3:=down y3;replace m0:=down m0;replace m1:=down m1;replace g0:=down g0;replace gR:=down gR;clear down;replace hal:=hal.trans (h2.mono hal.size);replace hNW:=hNW.below h2;replace O:=O.below h2;replace X3:=keep X3 h2;replace X4:=keep X4 h2;clear h2
 have hmay:∀w',Below w2.heap.size w2 w'->Calls Tryz.prog 38 #[.agg #[.int .i64 10,.int .i64 0,.int .i64 0,.int .i64 0],.int .i64 call,.int .i64 1,.int .i64 0] w' λe w''=>e=.returned (.bool true)/\Below w'.heap.size w' w'':=λw' h'=>by
  have:=i4 ⟨10,0,0,0⟩ call 1 0 w' (hNW.below h');rw[hm.out]at this;exact this
 have hc4:(call == 4)=false:=by rcases hc with⟨rfl,_⟩|⟨rfl,_⟩<;>rfl
 go_upto_region 4 with(fail);refine ZA w2 ?_
 iterate 3 refine Zz ?_
 refine Zy (.agg [.int .i64 10,.int .i64 0,.int .i64 0,.int .i64 0].toArray) (λw' h'=>aZ 43 (.tmp 32) rfl g 0 rfl _ _ (gR w' h') Tryz.underlying43 rfl (by kernel_rfl)) ?_
 iterate 8 refine Zz ?_
 refine qe 38 #[.agg #[.int .i64 10,.int .i64 0,.int .i64 0,.int .i64 0],.int .i64 call,.int .i64 1,.int .i64 0] (.bool true) hmay (λw'=>by first|(go_simp;done)|(go_simp;rfl)) (Zj ?_)
 iterate 4 refine Zz ?_
 refine Zy (.bool false) (λw' h'=>by go_simp;try rw[hc4]) ?_;refine Zz ?_
 iterate 10 refine Zs ?_
 iterate 2 refine Zz ?_
 refine aQ (λw3 h3=>?_);have a0:=g0 w3 h3;have a3:=y3 w3 h3;replace hal:=hal.trans (h3.mono hal.size);replace O:=O.below h3;replace X3:=keep X3 h3;replace X4:=keep X4 h3;clear y0 y1 y2 y3 m0 m1 g0 gR hmay h3 hm hc4;go_upto_region 24 with(fail);refine ab ?_;refine Zv ?_;refine Zd 75 X3 Tryz.underlying75 ?_;refine aP rfl 46 #[.pointer (some ⟨g,0,none⟩),.agg #[.int .i64 0,.int .i64 0,.int .i64 call,.int .i64 0,.int .u32 0,.int .u32 0]] (λv w'=>v=pT/\(call=1->Own eM w' (.slice (some ⟨g,0,none⟩) 1 c) [0])/\(∀k,k<w3.heap.size->k≠g->w'.heap[k]? = w3.heap[k]?)/\∀B,B<=g->Below B w3 w') ?_ ((Gx call ow hc g c w3 O).mono λe w' h=>⟨_,h.1,rfl,h.2⟩) ?_
 ·first|(go_simp;done)|(go_simp;rfl)
 rintro _ w4 ⟨rfl,hA,hk4,hB⟩;refine Zk ?_
 iterate 2 refine Zv ?_
 have gn4:g≠b4:=λe=>by
  obtain⟨cu,hcu⟩:=O.blk (g:=g) rfl;rw[e,X4]at hcu;simp[eM]at hcu
 replace X4:=(hk4 b4 (aB X4) gn4.symm).trans X4;refine Zo 79 b4 #[.int .u32 0,.slice none 0 0] X4 (λw6 m1 m2 m3 m4=>?_);refine aG rfl (.bool true) ?_ ?_
 ·go_simp
 refine Zk ?_;have gl:=hO.lt (g:=g) rfl;have k6:∀k,k<w.heap.size->k≠g->w6.heap[k]? = w.heap[k]? := λk hk hn=>(m2 k (by omega)).trans ((hk4 k (aA hk hal.size) hn).trans (hal.block k hk));have B6:∀B,B<=g->Below B w w6:=λB hl=>((hal.mono (by omega)).trans (hB B hl)).trans (m3 B (by omega))
 have O6:call=1->Own eM w6 (.slice (some ⟨g,0,none⟩) 1 c) [0]:=λe=>(hA e).keep λk hk=>by cases hk;exact m2 g gn4
 clear hA hk4 hB hal m2 m3 O hc;go_wp2;exact oD rfl b4 rfl rfl rfl m1 ⟨rfl,O6,k6,B6⟩
theorem G2(bA ca:Nat)(w0:World)(hA:w0.heap[bA]? = some (.cells #[.int .i64 10,.int .i64 0,.int .i64 0,.int .i64 0] 43 (0,0)))(hNm:NmW w0):
  Calls Tryz.prog 19 #[.slice (some ⟨bA,0,none⟩) 1 ca,.int .i64 1] w0 λe w'=>Below w0.heap.size w0 w'/\∃bM g c,e=.returned (.tuple #[.pointer (some ⟨bM,0,none⟩),.int .i64 0])/\w'.heap[bM]? = some (.cells #[.int .i64 1,.slice (some ⟨g,0,none⟩) 1 c] 127 (0,0))/\Own eM w' (.slice (some ⟨g,0,none⟩) 1 c) [-1]/\w0.heap.size<=bM/\w0.heap.size<=g:=by
 have hr:Hid (rb ⟨10,0,0,0⟩ 1=true):=show rb ⟨10,0,0,0⟩ 1=true by decide +kernel
 go_enter Tryz.func19,Tryz.ntmps19;go_upto_region 5 with(fail);obtain⟨W,bM,e0,e1,XM,halW⟩:=aO w0 #[.int .i64 1,.slice none 0 0] 127;rw[e0,e1];have hz:w0.heap.size<=bM:=aD e1;clear e0 e1;go_loopw [20] (λv wr=>(v=.int .i64 0/\wr=W)\/(v=.int .i64 1/\∃g c,wr.heap[bM]? = some (.cells #[.int .i64 1,.slice (some ⟨g,0,none⟩) 1 c] 127 (0,0))/\Own eM wr (.slice (some ⟨g,0,none⟩) 1 c) [-1]/\Below w0.heap.size w0 wr/\w0.heap.size<=g)) (λv _=>1 - (intOf v).toNat)
 case atStart=>exact .inl ⟨rfl,rfl⟩
 case round=>
  rcases hrel with⟨rfl,rfl⟩|⟨rfl,g,c,h1,h2,h3,h4⟩
  case inr=>
   go_wp2;go_ret2;exact⟨h3,bM,g,c,rfl,h1,h2,hz,h4⟩
  have hA':=keep hA halW;have hAr:wr.rangeAt bA 0 [.int .i64 10,.int .i64 0,.int .i64 0,.int .i64 0]:=ii hA' 0 4;go_upto_region 6 with(fail);refine ab ?_;refine Zv ?_;refine dJ rfl (.agg [.int .i64 10,.int .i64 0,.int .i64 0,.int .i64 0].toArray) (aZ 43 (.tmp 22) rfl bA 0 rfl _ _ hAr Tryz.underlying43 rfl (by kernel_rfl)) ?_;refine Zk ?_;refine Za 43 #[.int .i64 0,.int .i64 0,.int .i64 0,.int .i64 0] (λw4 b8 X4 l4 f4=>?_);refine Zo 43 b8 #[.int .i64 10,.int .i64 0,.int .i64 0,.int .i64 0] X4 (λw5 g1 g2 g3 g4=>?_);have hb5:Below wr.heap.size wr w5:=l4.trans (g3 _ (by simp only[Hid]at f4;omega));clear X4 l4 f4 g2 g3 g4 hAr;replace XM:=keep XM hb5;replace halW:=halW.trans (hb5.mono halW.size);clear hb5;go_upto_region 7 with(fail);refine ab ?_;refine Zd 43 g1 Tryz.underlying43 ?_;refine Zv ?_;have hRt:=jn ⟨10,0,0,0⟩ 1 w5 (hNm.below halW);rw[hr.out]at hRt;refine Zc 36 #[.agg #[.int .i64 10,.int .i64 0,.int .i64 0,.int .i64 0],.int .i64 1] (.bool true) hRt (λw6 hb6=>?_);replace g1:=keep g1 hb6;replace XM:=keep XM hb6;replace halW:=halW.trans (hb6.mono halW.size);clear hb6 hRt hr;go_upto_region 9 with(fail);refine bR 9 10 14 (λw'=>Below w6.heap.size w6 w') _ rfl (by kernel_rfl) (by kernel_rfl) (by decide) (by kernel_rfl) ?_;simp only[List.take_succ_cons,List.take_zero]
  iterate 4 refine Zf ?_
  refine bm rfl (by kernel_rfl) _ (λw' h'=>aE (by have c:w'.cell? ⟨bM,1,none⟩=some (.slice none 0 0):=ae w' bM 1 _ 127 _ (keep XM h');go_simp;try with_reducible rfl)) (Zj ?_);refine bm rfl (by kernel_rfl) _ (λw' h'=>fF 43 (.tmp 8) rfl _ rfl _ _ (0,0) _ (keep g1 h') Tryz.underlying43 rfl (by kernel_rfl)) (Zj ?_);refine Zf ?_;refine bm rfl (by kernel_rfl) _ (λw' h'=>aE (by have c:w'.cell? ⟨b8,1,none⟩=some (.int .i64 0):=ae w' b8 1 _ 43 _ (keep g1 h');go_simp;try with_reducible rfl)) (Zj ?_);refine Zf ?_;refine gJ ?_;show dU _ _ _ _ _ _ _ _ _ _;have q0:Below w6.heap.size w6 w6.drew:=Below.drew (ak _ _);replace XM:=keep XM q0;refine ZM 9 (λd9 r9=>⟨λ_=>q0.trans (r9.mono q0.size),?_⟩);replace q0:=q0.trans (r9.mono q0.size);replace XM:=keep XM r9
  refine je rfl rfl (.slice (some ⟨d9.heap.size,0,none⟩) 1 1) (w':=d9.alloc (.cells (stL (-1)).toArray 133)) (by first|kernel_rfl|go_simp) ?_
  obtain⟨e9,bN,e8,eg,BN,hb8⟩:=aO d9 (stL (-1)).toArray 133;rw[e8,eg];clear e8 eg;replace q0:=q0.trans (hb8.mono q0.size);replace XM:=keep XM hb8;clear hb8;refine ZM 10 (λd10 r10=>⟨λ_=>q0.trans (r10.mono q0.size),?_⟩);replace q0:=q0.trans (r10.mono q0.size);replace XM:=keep XM r10;replace BN:=keep BN r10;refine iM iH rfl rfl 125 Tryz.underlying125 224 GL (.tmp 32) (.tmp 37) rfl _ [] [(-1)] rfl (Own.nil _) bN 0 1 rfl (cG BN (-1) rfl) (by decide) (by decide) (λvc' v4 hO4 hg4 hl4=>?_);have hal3:=q0;have Xb:=fD (E:=eM) (Own.nil _) XM (by decide) hg4;obtain⟨p,c4,rfl⟩:=hO4.form2;generalize hn4:(([]:List Int)++[(-1)]).length=n4 at *;refine ZM 11 (λv5 r5=>⟨(λe=>absurd (show true=false from e) (by decide)),?_⟩);refine aR rfl rfl (.pointer (some ⟨bM,0,none⟩)) (by go_simp) ?_;refine ZM 12 (λv6 r6=>⟨(λe=>absurd (show true=false from e) (by decide)),?_⟩);refine aR rfl rfl (.pointer (some ⟨bM,1,none⟩)) (by go_simp) ?_;refine ZM 13 (λv7 r7=>⟨(λe=>absurd (show true=false from e) (by decide)),?_⟩);have hb7:Below v4.heap.size v4 v7:=(r5.trans (r6.mono r5.size)).trans (r7.mono (ar r5.size r6.size));have Xc:=keep Xb hb7;refine du rfl rfl 125 (λw=>by kernel_rfl) (.tmp 40) (.tmp 38) rfl bM 1 p n4 c4 _ 127 rfl rfl Xc (by simp) (λv8 p1 p2 p3=>?_);refine bl (by kernel_rfl) (by kernel_rfl) (λv9 r9=>?_)
  have hA:j7 eM w6 v9 bM 1 127 #[.int .i64 1,.slice none 0 0] (.slice none 0 0) (.slice p n4 c4) ([]++[(-1)]):=io hal3 hg4 hl4 hO4 Xb (by decide) hb7 p1 p2 p3 r9;clear q0 r5 r6 r7 r9 Xb Xc hb7 hg4 hl4 hO4 p1 p2 p3 hal3
  obtain rfl:n4=1:=by rw[<-hn4];rfl
  have hOw:Own eM v9 (.slice p 1 c4) [-1]:=hA.own;have hXX:v9.heap[bM]? = some (.cells #[.int .i64 1,.slice p 1 c4] 127 (0,0)):=hA.blk;have hBB:Below w0.heap.size w0 v9:=halW.trans (hA.low _ hz halW.size (λk e=>by cases e))
  obtain⟨g,rfl⟩:∃g,p=some ⟨g,0,none⟩:=by
   rcases hOw.form with⟨_,e⟩|⟨g,cc,e,_⟩
   ·cases e
   ·simp only[Value.slice.injEq]at e;exact⟨g,e.1⟩
  have hg0:w0.heap.size<=g:=by
   rcases hA.new g rfl with e|e
   ·cases e
   ·have:=halW.size;omega
  clear hA hn4 XM g1;go_wp2;go_roundw
  case rel=>exact .inr ⟨by go_num,g,c4,hXX,hOw,hBB,hg0⟩
  case measure=>simp[intOf]
theorem Ec(C:Cl)(bA:Nat)(hCA:C.A=some ⟨bA,0,none⟩)(hno:C.no=1)(hnt:C.nt=1)(w:World)(hN:NmW w)(hA:w.heap[bA]? = some (.cells #[.int .i64 10,.int .i64 0,.int .i64 0,.int .i64 0] 43 (0,0)))(v:Value)(s1 a1 s2 a2:Int)(hL:Own eA w v [⟨0,0,1,0,0,0,s1,a1,true,0⟩,⟨0,0,2,0,0,0,s2,a2,true,0⟩]):Calls Tryz.prog 10 #[C.v,v] w λe w'=>e=.returned (.int .i64 (-1))/\Below w.heap.size w w':=by
 obtain⟨g,c,rfl⟩:∃g c,v=.slice (some ⟨g,0,none⟩) 2 c:=by
  rcases hL.form with⟨_,e⟩|⟨g,c,e,_⟩
  ·cases e
  ·exact⟨g,c,e⟩
 unfold Cl.v;rw[hCA,hno,hnt];go_enter Tryz.func10,Tryz.ntmps10;go_upto_region 1 with(fail);obtain⟨W,kC,e0,e1,XC,hal⟩:=aO w #[.slice (some ⟨bA,0,none⟩) 1 C.ca,.int .i64 C.vars,.slice C.W C.nw C.cw,.int .i64 C.room,.slice C.T 1 C.ct] 26;rw[e0,e1];clear e0 e1;have y0:=ae W kC 0 _ 26 _ XC;have y4:=ae W kC 4 _ 26 _ XC;go_upto_region 1 with(fail);refine ab ?_
 iterate 5 refine Zv ?_
 refine aP rfl 19 #[.slice (some ⟨bA,0,none⟩) 1 C.ca,.int .i64 1] (λv w'=>Below W.heap.size W w'/\∃bM g c,v=.tuple #[.pointer (some ⟨bM,0,none⟩),.int .i64 0]/\w'.heap[bM]? = some (.cells #[.int .i64 1,.slice (some ⟨g,0,none⟩) 1 c] 127 (0,0))/\Own eM w' (.slice (some ⟨g,0,none⟩) 1 c) [-1]/\W.heap.size<=bM/\W.heap.size<=g) ?_ ((G2 bA C.ca W (keep hA hal) (hN.below hal)).mono λe w' h=>let⟨h1,bM,g,c,h2,h3⟩:=h;⟨_,h2,h1,bM,g,c,rfl,h3⟩) ?_
 ·first|(go_simp;done)|(go_simp;rfl)
 rintro _ w1 ⟨hb1,bM,gM,cM,rfl,XM,hOM,hM1,hM2⟩;refine Zk ?_
 iterate 5 refine Zv ?_
 have hal1:=hal.trans (hb1.mono hal.size);have hM3:w.heap.size<=gM:=ar hal.size hM2
 have hgM:bM≠gM:=λe=>by
  obtain⟨cu,hcu⟩:=hOM.blk (g:=gM) rfl;rw[<-e,XM]at hcu;simp[eM]at hcu
 clear hb1 XC hal y0 y4 hM1 hM2;go_upto_region 5 with(fail);go_loopw [24] (λv wr=>∃k:Nat,v=.int .i64 k/\k<=2/\(k<2->wr.heap[bM]? = some (.cells #[.int .i64 1,.slice (some ⟨gM,0,none⟩) 1 cM] 127 (0,0))/\Own eM wr (.slice (some ⟨gM,0,none⟩) 1 cM) [(k:Int) - 1])/\Below w.heap.size w wr) (λv _=>2 - (intOf v).toNat)
 case atStart=>exact⟨0,rfl,by decide,λ_=>⟨XM,hOM⟩,hal1⟩
 case round=>
  clear XM hOM hal1;obtain⟨k,rfl,hk,hs,hal⟩:=hrel
  by_cases hlt:k<2
  case neg=>
   have hl1:¬((k:Int)<2):=by omega
   clear hs hlt;go_wp2;go_ret;exact⟨rfl,hal⟩
  obtain⟨XM,hOM⟩:=hs hlt;clear hs
  obtain⟨sx,ax,hx⟩:∃sx ax,([⟨0,0,1,0,0,0,s1,a1,true,0⟩,⟨0,0,2,0,0,0,s2,a2,true,0⟩]:List Act)[k]? = some ⟨0,0,(k:Int)+1,0,0,0,sx,ax,true,0⟩:=by
   obtain rfl|rfl:k=0\/k=1:=by omega
   ·exact⟨s1,a1,rfl⟩
   ·exact⟨s2,a2,rfl⟩
  have hrow:=((hL.below hal).at ir).elem ir hx;rw[Nat.zero_add]at hrow
  have hc:(((k:Int)+1=1)/\(k:Int) - 1=-1)\/(((k:Int)+1=2)/\(k:Int) - 1=0):=by omega
  have hk1:(k:Int)+1=1->((k:Int)+1) - 1=0:=by omega
  have hkk:k+1<2->(k:Int)+1=1:=by omega
  obtain⟨cl,hcl⟩:∃cl,Hid (cl=(k:Int)+1):=⟨_,rfl⟩;obtain⟨ow,how⟩:∃ow,Hid (ow=(k:Int) - 1):=⟨_,rfl⟩;rw[<-hcl.out]at hrow hc hk1 hkk;rw[<-how.out]at hOM hc
  have l0:(0:Int)<=k:=by omega
  have l1:(k:Int)<2:=by omega
  go_upto_region 6 with(fail);refine ab ?_;refine Zv ?_;refine Ze (.pointer (some ⟨g,k * 11,none⟩)) ?_;refine dJ rfl (.agg (gY ⟨0,0,cl,0,0,0,sx,ax,true,0⟩).toArray) (aZ 77 (.tmp 27) rfl g (k * 11) rfl _ _ hrow Tryz.underlying77 rfl (by kernel_rfl)) ?_;refine Zk ?_;refine Za 77 #[.int .i64 0,.int .i64 0,.int .i64 0,.int .i64 0,.int .u32 0,.int .u32 0,.int .i64 0,.int .i64 0,.bool false,.int .u32 0,.slice none 0 0] (λw4 b8 X4 l4 f4=>?_);refine Zv ?_;refine Zo 77 b8 #[.int .i64 0,.int .i64 0,.int .i64 cl,.int .i64 0,.int .u32 0,.int .u32 0,.int .i64 sx,.int .i64 ax,.bool true,.int .u32 0,.slice none 0 0] X4 (λw5 g1 g2 g3 g4=>?_);have hb5:Below wr.heap.size wr w5:=l4.trans (g3 _ (by simp only[Hid]at f4;omega));clear X4 l4 f4 g2 g3 g4 hrow;replace XM:=keep XM hb5;replace hOM:=hOM.below hb5;replace hal:=hal.trans (hb5.mono hal.size);clear hb5;go_upto_region 7 with(fail);refine ab ?_
  iterate 2 refine Zv ?_
  refine dJ rfl (.agg [.int .i64 0,.int .i64 0,.int .i64 cl,.int .i64 0,.int .u32 0,.int .u32 0].toArray) (aZ 75 (.tmp 31) rfl b8 0 rfl [.int .i64 0,.int .i64 0,.int .i64 cl,.int .i64 0,.int .u32 0,.int .u32 0] _ (ii (cs:=[.int .i64 0,.int .i64 0,.int .i64 cl,.int .i64 0,.int .u32 0,.int .u32 0,.int .i64 sx,.int .i64 ax,.bool true,.int .u32 0,.slice none 0 0]) g1 0 6) Tryz.underlying75 rfl (by kernel_rfl)) ?_;refine Zk ?_;refine aP rfl 20 #[.pointer (some ⟨bM,0,none⟩),.agg #[.int .i64 0,.int .i64 0,.int .i64 cl,.int .i64 0,.int .u32 0,.int .u32 0]] (λv w'=>v=pT/\(cl=1->Own eM w' (.slice (some ⟨gM,0,none⟩) 1 cM) [0])/\(∀k,k<w5.heap.size->k≠gM->w'.heap[k]? = w5.heap[k]?)/\∀B,B<=gM->Below B w5 w') ?_ ((doC1 cl ow hc bM gM cM w5 (hN.below hal) XM hOM).mono λe w' h=>⟨_,h.1,rfl,h.2⟩) ?_
  ·first|(go_simp;done)|(go_simp;rfl)
  rintro _ w6 ⟨rfl,hA6,hk6,hB6⟩;refine Zk ?_
  iterate 3 refine Zv ?_
  have hgs:w5.heap.size<=w6.heap.size:=(hB6 0 (au _)).size
  have gn8:b8≠gM:=λe=>by
   obtain⟨cu,hcu⟩:=hOM.blk (g:=gM) rfl;rw[<-e,g1]at hcu;simp[eM]at hcu
  replace g1:=(hk6 b8 (aB g1) gn8).trans g1;replace XM:=(hk6 bM (aB XM) hgM).trans XM;replace hal:=hal.trans (hB6 _ hM3);clear hk6 hB6 hOM;refine Za 79 #[.int .u32 0,.slice none 0 0] (λw7 b9 X7 l7 f7=>?_);refine Zo 79 b9 #[.int .u32 0,.slice none 0 0] X7 (λw8 m1 m2 m3 m4=>?_);refine Zv ?_;have hb8:Below w6.heap.size w6 w8:=l7.trans (m3 _ (by simp only[Hid]at f7;omega));replace g1:=keep g1 hb8;replace XM:=keep XM hb8;replace hal:=hal.trans (hb8.mono hal.size);have hA8:=λe=>(hA6 e).below hb8;clear hb8 X7 l7 f7 m2 m3 m4 hA6 hgs;go_upto_region 8 with(fail);refine ab ?_
  iterate 3 refine Zv ?_
  with_reducible refine bw (by kernel_rfl) (.agg #[.int .i64 0,.int .i64 0,.int .i64 cl,.int .i64 0,.int .u32 0,.int .u32 0,.int .i64 sx,.int .i64 ax,.bool true,.int .u32 0,.slice none 0 0]) ?_ ?_
  ·exact aZ 77 (.tmp 8) rfl b8 0 rfl _ _ (ii (cs:=[.int .i64 0,.int .i64 0,.int .i64 cl,.int .i64 0,.int .u32 0,.int .u32 0,.int .i64 sx,.int .i64 ax,.bool true,.int .u32 0,.slice none 0 0]) g1 0 11) Tryz.underlying77 rfl (by kernel_rfl)
  refine Zk ?_
  with_reducible refine bw (by kernel_rfl) (.agg #[.int .u32 0,.slice none 0 0]) ?_ ?_
  ·exact aZ 79 (.tmp 9) rfl b9 0 rfl _ _ (ii (cs:=[.int .u32 0,.slice none 0 0]) m1 0 2) Tryz.underlying79 rfl (by kernel_rfl)
  refine Zk ?_;have hf:Calls Tryz.prog 21 #[.agg #[.int .i64 0,.int .i64 0,.int .i64 cl,.int .i64 0,.int .u32 0,.int .u32 0,.int .i64 sx,.int .i64 ax,.bool true,.int .u32 0,.slice none 0 0],.agg #[.int .u32 0,.slice none 0 0]] w8 λe w'=>e=.returned (.bool true)/\Below w8.heap.size w8 w':=Gp 0 0 cl 0 0 sx ax w8
  with_reducible refine jj (by kernel_rfl) 21 #[.agg #[.int .i64 0,.int .i64 0,.int .i64 cl,.int .i64 0,.int .u32 0,.int .u32 0,.int .i64 sx,.int .i64 ax,.bool true,.int .u32 0,.slice none 0 0],.agg #[.int .u32 0,.slice none 0 0]] ?_ hf (λw9 h9=>?_)
  ·first|(go_simp;done)|(go_simp;rfl)
  refine Zk ?_;replace XM:=keep XM h9;replace hal:=hal.trans (h9.mono hal.size);have hA9:=λe=>(hA8 e).below h9;clear h9 hA8 g1 m1;go_wp2;go_roundw
  case rel=>exact⟨k+1,by go_num,by omega,λh=>⟨XM,by have:=hA9 (hkk h);rw[show((k+1:Nat):Int) - 1=0 by omega];exact this⟩,hal⟩
  case measure=>simp[intOf];omega
end Go.Proofs.YtldlcnaphednnaaGreatDoor
