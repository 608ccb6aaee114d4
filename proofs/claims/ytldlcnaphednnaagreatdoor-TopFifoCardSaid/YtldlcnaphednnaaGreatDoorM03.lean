/- The builder's places: names, At. Rows of elements of one kind: own, read, written in place, appended to. -/
import Derived.Test.YtldlcnaphednnaaGreatDoorM02
import Derived.Lib.OthersKept
import Derived.Laws.RangeAny
import Derived.Laws.RangeString
import Derived.Deep.MidRow
set_option maxRecDepth 100000
set_option maxHeartbeats 32000000
set_option linter.unusedVariables false
set_option linter.unusedSimpArgs false
namespace Go.Proofs.YtldlcnaphednnaaGreatDoor
open Go.RowKit Go.Maps
def eF(s:ByteArray):Prop:=∀w,Calls Tryz.prog 206 #[.string s] w λe w'=>e=.returned (.bool true)/\Below w.heap.size w w'
theorem uD(w:World)(s:ByteArray)(pos:Nat):Below w.heap.size w (w.iter s pos):=by
 unfold World.iter;exact(ak _ _).alloc (ah _) _
theorem dL(s:ByteArray)(hne:s.toList.isEmpty=false)(h1:0<s.size)(h2:s.size<=20)(hb:∀i (h:i<s.size),97<=(s[i]'h).toNat/\(s[i]'h).toNat<=122):eF s:=λw=>by
 have hne2:¬s.toList=[]:=λe=>by rw[e]at hne;cases hne
 have h20:¬(20:Int)<(s.size:Int):=by omega
 go_enter Tryz.func206,Tryz.ntmps206;go_wp2;go_loopw [3] (λn w'=>∃(pos:Nat),w'=w.iter s pos/\pos<=s.size) (λ_ w'=>s.size - w'.iterPos w.heap.size)
 case atStart=>exact⟨0,rfl,au _⟩
 case round=>
  obtain⟨pos,rfl,hps⟩:=hrel
  by_cases hp:pos<s.size
  ·obtain⟨b1,b2⟩:=hb pos hp
   have hnx:∀ty,(Instr.next (.pointer (some ⟨w.heap.size,0,none⟩)) true ty).run Tryz.prog (w.iter s pos)=.ok (.tuple #[.bool true,.int .i64 pos,.int .i32 (s[pos]'hp).toNat]) (w.iter s (pos+1)):=λty=>by
    rw[run_next_any w s pos ty hp,decode_ascii s pos hp (by omega)]
   generalize (s[pos]'hp).toNat=c at *
   have c1:¬(c:Int)<97:=by omega
   have c2:¬(122:Int)<c:=by omega
   go_wp2;go_roundw
   case rel=>exact⟨pos+1,rfl,hp⟩
   case measure=>simp<;>omega
  ·have hnx:∀ty,(Instr.next (.pointer (some ⟨w.heap.size,0,none⟩)) true ty).run Tryz.prog (w.iter s pos)=_:=λty=>run_next_end w s pos ty hp
   go_wp2;go_ret;exact⟨rfl,uD _ _ _⟩
theorem jH:eF ⟨#[115,112,105,110]⟩:=dL _ (by kernel_rfl) (by decide) (by decide) (by decide)
theorem wE:eF ⟨#[102,114,101,101]⟩:=dL _ (by kernel_rfl) (by decide) (by decide) (by decide)
theorem uL:eF ⟨#[101,110,100]⟩:=dL _ (by kernel_rfl) (by decide) (by decide) (by decide)
theorem wC:eF ⟨#[109,105,110,101]⟩:=dL _ (by kernel_rfl) (by decide) (by decide) (by decide)
theorem mA:eF ⟨#[103,111,116]⟩:=dL _ (by kernel_rfl) (by decide) (by decide) (by decide)
theorem ji:eF ⟨#[97,103,97,105,110]⟩:=dL _ (by kernel_rfl) (by decide) (by decide) (by decide)
theorem rP:eF ⟨#[119,97,105,116]⟩:=dL _ (by kernel_rfl) (by decide) (by decide) (by decide)
theorem lM:eF ⟨#[100,111,110,101]⟩:=dL _ (by kernel_rfl) (by decide) (by decide) (by decide)
theorem vW:eF ⟨#[108,111,111,107]⟩:=dL _ (by kernel_rfl) (by decide) (by decide) (by decide)
theorem B2:eF ⟨#[112,97,115,115]⟩:=dL _ (by kernel_rfl) (by decide) (by decide) (by decide)
theorem Dy:eF ⟨#[115,108,111,119]⟩:=dL _ (by kernel_rfl) (by decide) (by decide) (by decide)
theorem Ey:eF ⟨#[116,114,121]⟩:=dL _ (by kernel_rfl) (by decide) (by decide) (by decide)
theorem B3:eF ⟨#[111,118,101,114]⟩:=dL _ (by kernel_rfl) (by decide) (by decide) (by decide)
theorem A7:eF ⟨#[121,111,117,114,115]⟩:=dL _ (by kernel_rfl) (by decide) (by decide) (by decide)
theorem yg:eF ⟨#[114,101,97,100,101,114]⟩:=dL _ (by kernel_rfl) (by decide) (by decide) (by decide)
theorem Bb:eF ⟨#[115,108,101,101,112]⟩:=dL _ (by kernel_rfl) (by decide) (by decide) (by decide)
theorem Dc:eF ⟨#[119,97,107,101]⟩:=dL _ (by kernel_rfl) (by decide) (by decide) (by decide)
theorem xD:Keyed Tryz.prog 9:=string_keyed Tryz.underlying9
theorem vX(w:World):(zeroValue 3).run Tryz.prog w=.ok (.int .i64 0) w:=by kernel_rfl
section
variable {P:Program} {ops:Array Oper} {Q:Exit->Act->World->Prop}
theorem FB{rest:List Oper}{o:Oper}{a:Act}{w:World}(hgd:o.guard=none)(ty:TypeId)(hsz:∀w,(sizeOf ty).run P w=.ok 1 w)(x y:Operand)(ho:o.op=.store ty x y)(b j:Nat)(v:Value)(hv:v.cells=#[v])(hsv:∀(w:World)(p:Addr)(u:Value),w.cell? p=some u->w.frozen? p=false->(store p v).run P w=.ok () (w.setCell p v))(cs:Array Value)(t:TypeId)(hx:a.eval x=.pointer (some ⟨b,j,none⟩))(hy:a.eval y=v)
  (hg:w.heap[b]? = some (.cells cs t (0,0))) (hj:j<cs.size)
  (hh:∀w',w'.heap[b]? = some (.cells (cs.setIfInBounds j v) t (0,0))->(∀k,k≠b->w'.heap[k]? = w.heap[k]?)->(∀B,B<=b->Below B w w')->∀K:Act->World->Prop,(∀a w,wpList P ops Q rest a w->K a w)->K (a.put o.dst undef) w'):wpList P ops Q (o :: rest) a w:=by
 refine wpList_plain hgd λK hK=>?_
 have hc:w.cell? ⟨b,j,none⟩=some (cs[j]'hj):=by rw[ae w b j cs t _ hg];exact Array.getElem?_eq_getElem hj
 have hf:=frozen_of_row w b j cs t hg;have hst:=hsv w ⟨b,j,none⟩ _ hc hf;unfold Oper.wp execOp;simp only[ho,hx,hy,Instr.storeAt,Instr.sureAddr,Sem.run_bind,Sem.run_pure,Result.andThen_ok]
 have h1:(storeVar ty ⟨b,j,none⟩ v).run P w=.ok () (w.setCell ⟨b,j,none⟩ v):=by
  unfold storeVar;simp only[Sem.run_bind,hsz,hv,Result.andThen_ok];simp[storeCells,bX,hst]
 rw[h1];exact hh _ (heap_setCell_same w b j cs t _ hg) (λk hk=>heap_setCell_other _ _ k _ hk) (λB hB=>(ak B w).setCell (p:=⟨b,j,none⟩) hB _) K hK
section
variable {P:Program} {ops:Array Oper} {Q:Exit->Act->World->Prop} {rest:List Oper} {o:Oper} {a a':Act} {w:World}
theorem Zw{x y:Operand}{b:Nat}{cs:Array Value}{t:TypeId}(ty:TypeId)(j:Nat)(v:Value)(hsv:∀(w:World)(p:Addr)(u:Value),w.cell? p=some u->w.frozen? p=false->(store p v).run P w=.ok () (w.setCell p v))(hg:w.heap[b]? = some (.cells cs t (0,0)))(hj:j<cs.size)(h:∀w',w'.heap[b]? = some (.cells (cs.setIfInBounds j v) t (0,0))->(∀k,k≠b->w'.heap[k]? = w.heap[k]?)->(∀B,B<=b->Below B w w')->wpList P ops Q rest a' w')(hgd:o.guard=none:=by rfl)(hsz:∀w,(sizeOf ty).run P w=.ok 1 w:=by intro w;kernel_rfl)(ho:o.op=.store ty x y:=by rfl)(hx:a.eval x=.pointer (some ⟨b,j,none⟩):=by rfl)(hy:a.eval y=v:=by rfl)(hv:v.cells=#[v]:=by rfl)(ha:a.put o.dst undef=a':=by go_simp;try rfl):wpList P ops Q (o :: rest) a w:=by subst ha;exact FB hgd ty hsz x y ho b j v hv hsv cs t hx hy hg hj λw' p1 p2 p3 K hK=>hK _ _ (h w' p1 p2 p3)
end
end
theorem EP(o:Option Nat)(w:World)(p:Addr)(u:Value)(hc:w.cell? p=some u)(hf:w.frozen? p=false):(store p (.map o)).run Tryz.prog w=.ok () (w.setCell p (.map o)):=by simp[go_sem,stored,hc,hf]
theorem oy(o:Bool)(w:World)(p:Addr)(u:Value)(hc:w.cell? p=some u)(hf:w.frozen? p=false):(store p (.bool o)).run Tryz.prog w=.ok () (w.setCell p (.bool o)):=by simp[go_sem,stored,hc,hf]
theorem aY{b:Nat}{F:Nat->Prop}{st:BS}{name:ByteArray}{w:World}(hB:BMem w b F st)(hn:eF name)(hl:name.size<=maxLen)(hs:st.sz<=4000):Calls Tryz.prog 174 #[.pointer (some ⟨b,0,none⟩),.string name] w λe w'=>e=.returned (.tuple #[])/\∃F',BMem w' b F' (st.place name)/\Upd F F' w w':=by
 obtain⟨vc,vl,vm,hB⟩:=hB
 have hsz:st.code.length<=4000:=by unfold BS.sz at hs;omega
 have hnp:st.np<maxLen:=by unfold BS.sz at hs;simp only[maxLen];omega
 have hkey:keyOf Tryz.prog 9 (.string name)=some (nmL name):=Go.WideMaps.keyOf_string_mk Tryz.underlying9 hl;obtain⟨pc,cc,rfl⟩:=nO hB.code;have fb:F b:=(hB.foot b).2 (.inl rfl)
 have heq1:∀w:World,(binOp BinOp.eql 199 (Value.map none) (Value.map none)).run Tryz.prog w=.ok (.bool true) w:=λw=>by kernel_rfl
 have heq2:∀(B:Nat)(w:World),(binOp BinOp.eql 199 (Value.map (some B)) (Value.map none)).run Tryz.prog w=.ok (.bool false) w:=λB w=>by kernel_rfl
 rcases hB.places with⟨rfl,hD⟩|⟨B,rfl,hown⟩
 ·have y1:=ae w b 1 _ 202 _ hB.blk
  go_enter Tryz.func174,Tryz.ntmps174;go_upto_region 1 with(fail);clear y1;refine ab ?_;refine Zv ?_
  refine wpList_plain rfl λK hK=>?_
  unfold Oper.wp execOp;simp only[Option.map_none,run_makeMap,Sem.run_bind,Result.andThen_ok];have hown0:=World.ownsMap_made w Tryz.prog 9 (plainElem (H:=Unit) Tryz.prog 3);have hb1:Below w.heap.size w (w.alloc (.map #[] 0)):=(ak _ _).alloc (ah _) _;obtain⟨B,eB⟩:∃B,w.heap.size=B:=⟨_,rfl⟩;rw[eB]at hown0;rw[eB];generalize w.alloc (.map #[] 0)=w1 at *;have hB1:=hB.below hb1;go_simp;refine hK _ _ ?_;clear hK K
  iterate 2 refine Zv ?_
  refine Zw 199 1 (.map (some B)) (EP (some B)) hB1.blk (by simp) (λw2 p1 p2 p3=>?_)
  have nbB:b≠B:=by have:=aB hB.blk;omega
  have hown:w2.ownsMap Tryz.prog 9 (plainElem Tryz.prog 3) B st.np st.places:=by
   rw[hD];have h0:PlM w1 (.map (some B)) (.map []) 0:=.inr ⟨B,rfl,hown0⟩;have h2:PlM w2 (.map (some B)) (.map []) 0:=iC h0 (λg e=>p2 g (λe'=>nbB (by cases e;exact e'.symm)));have h3:w2.ownsMap Tryz.prog 9 (plainElem Tryz.prog 3) B 0 (.map []):=(h2.resolve_left (λh=>by cases h.1)).elim (λB' h=>by cases h.1;exact h.2);exact h3.mono (au _)
  have hB2:BMv w2 b (λk=>k=b\/(Value.slice pc st.code.length cc).ownBlock=some k\/vl.ownBlock=some k\/ou (.map (some B))=some k) st (.slice pc st.code.length cc) vl (.map (some B)):=by
   refine⟨by simpa using p1,?_,?_,.inr ⟨B,rfl,hown⟩,λk=>Iff.rfl⟩
   ·exact bq hB1.code (λg e=>p2 g (λe'=>by
     obtain⟨_,h1⟩:=a9 hB1.code e
     exact aK h1 hB1.blk (by decide) e'))
   ·exact bq hB1.links (λg e=>p2 g (λe'=>by
     obtain⟨_,h1⟩:=a9 hB1.links e
     exact aK h1 hB1.blk (by decide) e'))
  have hU2:Upd F (λk=>k=b\/(Value.slice pc st.code.length cc).ownBlock=some k\/vl.ownBlock=some k\/ou (.map (some B))=some k) w w2:=by
   refine⟨λB' hF hB'=>(hb1.mono hB').trans (p3 B' (hF b fb)),λk hk hF=>(p2 k (λe=>hF (by rw[e];exact fb))).trans (hb1.block k hk),?_⟩;rintro k (e|e|e|e)
   ·exact .inl (by rw[e];exact fb)
   ·exact .inl ((hB.foot k).2 (.inr (.inl e)))
   ·exact .inl ((hB.foot k).2 (.inr (.inr (.inl e))))
   ·cases e;exact .inr (aD eB)
  clear p1 p2 p3 hB1 hown0 hb1 hD;have y1:=ae w2 b 1 _ 202 _ hB2.blk;have y0:=ae w2 b 0 _ 202 _ hB2.blk;go_upto_region 2 with(fail);refine ab ?_
  iterate 5 refine Zv ?_
  refine wpList_lookup_own_ok_int _ rfl _ _ 199 rfl 9 3 .i64 xD Tryz.underlying199 Tryz.underlying3 (vX _) B _ _ rfl hown _ _ rfl hkey ?_;intro c hat hwc;go_simp
  iterate 5 refine Zv ?_
  by_cases hh:Maps.has st.places (nmL name)=true
  ·rw[hh]
   go_upto_region 4 with(fail);refine ab ?_
   iterate 3 refine Zv ?_
   refine Zw 4 3 (.bool true) (oy true) hB2.blk (by simp) (λw5 p1 p2 p3=>?_);go_wp2;refine bodyPost_ret (v:=.tuple #[]) (results_none rfl _ _ _) rfl ?_;have e:st.place name={ st with bad:=true,np:=st.np+1 }:=ag hh;rw[e];refine⟨rfl,_,⟨_,vl,.map (some B),⟨show w5.heap[b]? = some (.cells #[.slice pc st.code.length cc,.map (some B),vl,.bool true] 202 (0,0)) from by simpa using p1,?_,?_,?_,hB2.foot⟩⟩,hU2.trans ⟨λB' hF _=>p3 B' (hF b ((hB2.foot b).2 (.inl rfl))),λk hk hF=>p2 k (λe=>hF (by rw[e];exact(hB2.foot b).2 (.inl rfl))),λk h=>.inl h⟩⟩
   ·exact bq hB2.code (λg e=>p2 g (λe'=>by
     obtain⟨_,h1⟩:=a9 hB2.code e
     exact aK h1 hB2.blk (by decide) e'))
   ·exact bq hB2.links (λg e=>p2 g (λe'=>by
     obtain⟨_,h1⟩:=a9 hB2.links e
     exact aK h1 hB2.blk (by decide) e'))
   ·exact .inr ⟨B,rfl,((iC (.inr ⟨B,rfl,hown⟩:PlM w2 (.map (some B)) st.places st.np) (λg e=>p2 g (λe'=>by
     obtain⟨_,_,h1⟩:=eG (.inr ⟨B,rfl,hown⟩:PlM w2 (.map (some B)) st.places st.np) e
     exact iG hB2.blk h1 e'.symm))).resolve_left (λh=>by cases h.1)).elim (λB' h=>by cases h.1;exact h.2.mono (Nat.le_succ _))⟩
  ·have hh:Maps.has st.places (nmL name)=false:=by simpa using hh
   rw[hh];go_wp2_with fail;refine(hn w2).mono ?_;rintro e w5 ⟨rfl,hb5⟩;clear y0 y1;have hB5:=hB2.below hb5;have hal5:=hU2.trans (Upd.of_below hb5);go_upto_region 5 with(fail);refine ZT 10 w5 ?_;simp only[List.take_succ_cons,List.take_zero,List.drop_succ_cons,List.drop_zero]
   iterate 3 refine Zz ?_
   refine Zy _ (λw' h'=>by have c:=ae w' b 1 _ 202 _ (keep hB5.blk h');go_simp;try with_reducible rfl) ?_
   iterate 4 refine Zz ?_
   refine Zy _ (λw' h'=>by have c:=ae w' b 0 _ 202 _ (keep hB5.blk h');go_simp;try with_reducible rfl) ?_;refine Zz ?_;refine aQ ?_;intro w6 h6;have hB6:=hB5.below h6;have hal6:=hal5.trans (Upd.of_below h6);have own6:w6.ownsMap Tryz.prog 9 (plainElem Tryz.prog 3) B st.np st.places:=(hB6.places.resolve_left (λh=>by cases h.1)).elim (λB' h=>by cases h.1;exact h.2);refine wpList_mapUpdate_own _ rfl _ _ _ 199 rfl 9 3 xD Tryz.underlying199 _ B _ _ rfl own6 hnp _ _ _ rfl rfl hkey _ [] (plainElem_int Tryz.underlying3 (WalkArith.wf_i64 (by omega))) ?_;intro w7 hown7 hg7;go_simp;go_wp2;go_end0;have e:st.place name={ st with places:=st.places.put (nmL name) (.lit (.int .i64 st.code.length)),np:=st.np+1 }:=af (by rw[hh];exact Bool.false_ne_true);rw[e]
   have nbB:b≠B:=by
    obtain⟨_,_,h1⟩:=eG hB6.places rfl;exact iG hB6.blk h1
   refine⟨rfl,_,⟨_,vl,.map (some B),⟨(hg7.block b (aB hB6.blk) (λe=>nbB (by cases e;rfl))).trans hB6.blk,?_,?_,.inr ⟨B,rfl,hown7⟩,hB6.foot⟩⟩,hal6.trans ⟨λB' hF hB'=>(ak B' w6).grown hg7 hB' (λk e=>hF k ((hB6.foot k).2 (.inr (.inr (.inr e))))),λk hk hF=>hg7.block k hk (λe=>hF ((hB6.foot k).2 (.inr (.inr (.inr e.symm))))),λk h=>.inl h⟩⟩
   ·exact bq hB6.code (λg e=>hg7.block g (by obtain⟨_,h1⟩:=a9 hB6.code e;exact aB h1) (λe2=>by
     obtain⟨_,h1⟩:=a9 hB6.code e;obtain⟨_,_,h2⟩:=eG hB6.places (show ou (.map (some B))=some g from by cases e2;rfl)
     exact iG h1 h2 rfl))
   ·exact bq hB6.links (λg e=>hg7.block g (by obtain⟨_,h1⟩:=a9 hB6.links e;exact aB h1) (λe2=>by
     obtain⟨_,h1⟩:=a9 hB6.links e;obtain⟨_,_,h2⟩:=eG hB6.places (show ou (.map (some B))=some g from by cases e2;rfl)
     exact iG h1 h2 rfl))
 ·have y1:=ae w b 1 _ 202 _ hB.blk
  go_enter Tryz.func174,Tryz.ntmps174;have y1:=ae w b 1 _ 202 _ hB.blk;have y0:=ae w b 0 _ 202 _ hB.blk;go_upto_region 2 with(fail);refine ab ?_
  iterate 5 refine Zv ?_
  refine wpList_lookup_own_ok_int _ rfl _ _ 199 rfl 9 3 .i64 xD Tryz.underlying199 Tryz.underlying3 (vX _) B _ _ rfl hown _ _ rfl hkey ?_;intro c hat hwc;go_simp
  iterate 5 refine Zv ?_
  by_cases hh:Maps.has st.places (nmL name)=true
  ·rw[hh]
   go_upto_region 4 with(fail);refine ab ?_
   iterate 3 refine Zv ?_
   refine Zw 4 3 (.bool true) (oy true) hB.blk (by simp) (λw5 p1 p2 p3=>?_);go_wp2;refine bodyPost_ret (v:=.tuple #[]) (results_none rfl _ _ _) rfl ?_;have e:st.place name={ st with bad:=true,np:=st.np+1 }:=ag hh;rw[e];refine⟨rfl,_,⟨_,vl,.map (some B),⟨show w5.heap[b]? = some (.cells #[.slice pc st.code.length cc,.map (some B),vl,.bool true] 202 (0,0)) from by simpa using p1,?_,?_,?_,hB.foot⟩⟩,(Upd.refl F w).trans ⟨λB' hF _=>p3 B' (hF b ((hB.foot b).2 (.inl rfl))),λk hk hF=>p2 k (λe=>hF (by rw[e];exact(hB.foot b).2 (.inl rfl))),λk h=>.inl h⟩⟩
   ·exact bq hB.code (λg e=>p2 g (λe'=>by
     obtain⟨_,h1⟩:=a9 hB.code e
     exact aK h1 hB.blk (by decide) e'))
   ·exact bq hB.links (λg e=>p2 g (λe'=>by
     obtain⟨_,h1⟩:=a9 hB.links e
     exact aK h1 hB.blk (by decide) e'))
   ·exact .inr ⟨B,rfl,((iC (.inr ⟨B,rfl,hown⟩:PlM w (.map (some B)) st.places st.np) (λg e=>p2 g (λe'=>by
     obtain⟨_,_,h1⟩:=eG (.inr ⟨B,rfl,hown⟩:PlM w (.map (some B)) st.places st.np) e
     exact iG hB.blk h1 e'.symm))).resolve_left (λh=>by cases h.1)).elim (λB' h=>by cases h.1;exact h.2.mono (Nat.le_succ _))⟩
  ·have hh:Maps.has st.places (nmL name)=false:=by simpa using hh
   rw[hh];go_wp2_with fail;refine(hn w).mono ?_;rintro e w5 ⟨rfl,hb5⟩;clear y0 y1;have hB5:=hB.below hb5;have hal5:=(Upd.refl F w).trans (Upd.of_below hb5);go_upto_region 5 with(fail);refine ZT 10 w5 ?_;simp only[List.take_succ_cons,List.take_zero,List.drop_succ_cons,List.drop_zero]
   iterate 3 refine Zz ?_
   refine Zy _ (λw' h'=>by have c:=ae w' b 1 _ 202 _ (keep hB5.blk h');go_simp;try with_reducible rfl) ?_
   iterate 4 refine Zz ?_
   refine Zy _ (λw' h'=>by have c:=ae w' b 0 _ 202 _ (keep hB5.blk h');go_simp;try with_reducible rfl) ?_;refine Zz ?_;refine aQ ?_;intro w6 h6;have hB6:=hB5.below h6;have hal6:=hal5.trans (Upd.of_below h6);have own6:w6.ownsMap Tryz.prog 9 (plainElem Tryz.prog 3) B st.np st.places:=(hB6.places.resolve_left (λh=>by cases h.1)).elim (λB' h=>by cases h.1;exact h.2);refine wpList_mapUpdate_own _ rfl _ _ _ 199 rfl 9 3 xD Tryz.underlying199 _ B _ _ rfl own6 hnp _ _ _ rfl rfl hkey _ [] (plainElem_int Tryz.underlying3 (WalkArith.wf_i64 (by omega))) ?_;intro w7 hown7 hg7;go_simp;go_wp2;go_end0;have e:st.place name={ st with places:=st.places.put (nmL name) (.lit (.int .i64 st.code.length)),np:=st.np+1 }:=af (by rw[hh];exact Bool.false_ne_true);rw[e]
   have nbB:b≠B:=by
    obtain⟨_,_,h1⟩:=eG hB6.places rfl;exact iG hB6.blk h1
   refine⟨rfl,_,⟨_,vl,.map (some B),⟨(hg7.block b (aB hB6.blk) (λe=>nbB (by cases e;rfl))).trans hB6.blk,?_,?_,.inr ⟨B,rfl,hown7⟩,hB6.foot⟩⟩,hal6.trans ⟨λB' hF hB'=>(ak B' w6).grown hg7 hB' (λk e=>hF k ((hB6.foot k).2 (.inr (.inr (.inr e))))),λk hk hF=>hg7.block k hk (λe=>hF ((hB6.foot k).2 (.inr (.inr (.inr e.symm))))),λk h=>.inl h⟩⟩
   ·exact bq hB6.code (λg e=>hg7.block g (by obtain⟨_,h1⟩:=a9 hB6.code e;exact aB h1) (λe2=>by
     obtain⟨_,h1⟩:=a9 hB6.code e;obtain⟨_,_,h2⟩:=eG hB6.places (show ou (.map (some B))=some g from by cases e2;rfl)
     exact iG h1 h2 rfl))
   ·exact bq hB6.links (λg e=>hg7.block g (by obtain⟨_,h1⟩:=a9 hB6.links e;exact aB h1) (λe2=>by
     obtain⟨_,h1⟩:=a9 hB6.links e;obtain⟨_,_,h2⟩:=eG hB6.places (show ou (.map (some B))=some g from by cases e2;rfl)
     exact iG h1 h2 rfl))
end Go.Proofs.YtldlcnaphednnaaGreatDoor
namespace Go.Proofs.YtldlcnaphednnaaGreatDoor
open Go.RowKit
structure Enc(α:Type) where
 ty:TypeId
 sz:Nat
 enc:α->List Value
structure Enc.Ok{α:Type}(E:Enc α):Prop where
 len:∀x,(E.enc x).length=E.sz
 one:∀x,∀u∈E.enc x,u.oneCell'=true
 pos:0<E.sz
def Own{α:Type}(E:Enc α)(w:World)(v:Value)(l:List α):Prop:=w.ownsRow 0 E.ty E.sz v l.length (l.flatMap E.enc)
section
variable {α:Type} {E:Enc α}
theorem fU(hE:E.Ok):∀l:List α,(l.flatMap E.enc).length=l.length * E.sz
 | []=>by simp
 | x :: l=>by rw[List.flatMap_cons,List.length_append,fU hE l,hE.len,List.length_cons,Nat.add_mul];omega
theorem mY(hE:E.Ok):∀(l:List α)(i q:Nat)(x:α),l[i]? = some x->q<E.sz->(l.flatMap E.enc)[i * E.sz+q]? = (E.enc x)[q]?
 | [],i,q,x,h,hq=>by simp at h
 | y :: l,0,q,x,h,hq=>by
  simp at h;subst h;rw[List.flatMap_cons,Nat.zero_mul,Nat.zero_add,List.getElem?_append_left (by rw[hE.len];exact hq)]
 | y :: l,i+1,q,x,h,hq=>by
  have e:(i+1) * E.sz+q=E.sz+(i * E.sz+q):=by rw[Nat.add_mul];omega
  rw[List.flatMap_cons,e,List.getElem?_append_right (by rw[hE.len];omega),hE.len,Nat.add_sub_cancel_left];exact mY hE l i q x (by simpa using h) hq
theorem s8(hE:E.Ok):∀(l:List α)(i:Nat)(x y:α),l[i]? = some x->(l.flatMap E.enc).take (i * E.sz)++E.enc y++(l.flatMap E.enc).drop (i * E.sz+E.sz)=(l.set i y).flatMap E.enc
 | [],i,x,y,h=>by simp at h
 | z :: l,0,x,y,h=>by
  simp only[Nat.zero_mul,List.take_zero,List.nil_append,Nat.zero_add,List.set_cons_zero,List.flatMap_cons];rw[<-hE.len z,List.drop_left]
 | z :: l,i+1,x,y,h=>by
  have ih:=s8 hE l i x y (by simpa using h)
  have e:(i+1) * E.sz=(E.enc z).length+i * E.sz:=by rw[Nat.add_mul,hE.len];omega
  rw[List.set_cons_succ,List.flatMap_cons,List.flatMap_cons,<-ih,e,List.take_length_add_append,Nat.add_assoc,List.drop_length_add_append];simp
theorem qU(hE:E.Ok):∀(l:List α)(i q:Nat)(x y:α)(u:Value),l[i]? = some x->q<E.sz->E.enc y=(E.enc x).set q u->(l.flatMap E.enc).set (i * E.sz+q) u=(l.set i y).flatMap E.enc
 | [],i,q,x,y,u,h,hq,hy=>by simp at h
 | z :: l,0,q,x,y,u,h,hq,hy=>by
  simp at h;subst h;rw[List.flatMap_cons,Nat.zero_mul,Nat.zero_add,List.set_append_left _ _ (by rw[hE.len];exact hq),<-hy,List.set_cons_zero,List.flatMap_cons]
 | z :: l,i+1,q,x,y,u,h,hq,hy=>by
  have ih:=qU hE l i q x y u (by simpa using h) hq hy
  have e:(i+1) * E.sz+q=(E.enc z).length+(i * E.sz+q):=by rw[Nat.add_mul,hE.len];omega
  rw[List.set_cons_succ,List.flatMap_cons,List.flatMap_cons,<-ih,e,List.set_append_right _ _ (by omega),Nat.add_sub_cancel_left]
theorem sJ(hE:E.Ok)(l:List α):∀u∈l.flatMap E.enc,u.oneCell'=true:=λu hu=>by
 obtain⟨x,_,hx⟩:=List.mem_flatMap.1 hu;exact hE.one x u hx
def RowAt(E:Enc α)(w:World)(b off:Nat)(l:List α):Prop:=w.rangeAt b off (l.flatMap E.enc)
theorem RowAt.elem(hE:E.Ok){w:World}{b off:Nat}{l:List α}(h:RowAt E w b off l){i:Nat}{x:α}(hi:l[i]? = some x):w.rangeAt b (off+i * E.sz) (E.enc x):=λj v hv=>by
 have hj:j<E.sz:=by rw[<-hE.len x];exact(aj.1 hv).1
 have:=h (i * E.sz+j) v ((mY hE l i j x hi hj).trans hv)
 rwa [Nat.add_assoc]
theorem RowAt.below{w w':World}{b off:Nat}{l:List α}(h:RowAt E w b off l){B:Nat}(hb:Below B w w')(hB:b<B):RowAt E w' b off l:=λj v hv=>(hb.cell (p:=⟨b,off+j,none⟩) hB).trans (h j v hv)
theorem RowAt.keep{w w':World}{b off:Nat}{l:List α}(h:RowAt E w b off l)(hb:w'.heap[b]? = w.heap[b]?):RowAt E w' b off l:=λj v hv=>(World.cell?_of_block (a:=⟨b,off+j,none⟩) hb).trans (h j v hv)
theorem Own.at(hE:E.Ok){w:World}{g n c:Nat}{l:List α}(h:Own E w (.slice (some ⟨g,0,none⟩) n c) l):RowAt E w g 0 l:=λj u hu=>by
 rcases h.2 with⟨h',_⟩|⟨g',cap,cur,h',_,h4,_,_,_,h8⟩
 ·cases h'
 ·cases h'
  have hj:j<l.length * E.sz:=by have:=(aj.1 hu).1;rwa [fU hE]at this
  rw[ae w g _ cur E.ty _ h4,Nat.zero_add,<-hu,<-h8,List.getElem?_take,ag hj,Array.getElem?_toList]
theorem Own.form{w:World}{v:Value}{l:List α}(h:Own E w v l):(v=.slice none 0 0/\l=[])\/∃g c,v=.slice (some ⟨g,0,none⟩) l.length c/\l.length<=c:=by
 rcases h.2 with⟨h',h0⟩|⟨g',cap,cur,h',_,h4,h5,_,_,h8⟩
 ·exact .inl ⟨h',List.eq_nil_of_length_eq_zero h0⟩
 ·exact .inr ⟨g',cap,h',h5⟩
theorem Own.form2{w:World}{v:Value}{l:List α}(h:Own E w v l):∃p c,v=.slice p l.length c:=by
 rcases h.form with⟨e,rfl⟩|⟨g,c,e,_⟩
 ·exact⟨none,0,e⟩
 ·exact⟨_,c,e⟩
theorem Own.blk{w:World}{v:Value}{l:List α}(h:Own E w v l){g:Nat}(hg:v.ownBlock=some g):∃cur,w.heap[g]? = some (.cells cur E.ty (0,0)):=a9 h hg
theorem Own.keep{w w':World}{v:Value}{l:List α}(h:Own E w v l)(hb:∀g,v.ownBlock=some g->w'.heap[g]? = w.heap[g]?):Own E w' v l:=bq h hb
theorem Own.below{w w':World}{v:Value}{l:List α}(h:Own E w v l)(hb:Below w.heap.size w w'):Own E w' v l:=h.keep λg e=>by
 obtain⟨_,h1⟩:=h.blk e;exact hb.block g (aB h1)
theorem Own.lt{w:World}{v:Value}{l:List α}(h:Own E w v l){g:Nat}(hg:v.ownBlock=some g):g<w.heap.size:=by
 obtain⟨_,h1⟩:=h.blk hg;exact aB h1
theorem Own.nil(w:World):Own E w (.slice none 0 0) []:=World.ownsRow_nil _ _ _ _
theorem dQ(b:Nat)(t:TypeId):∀(vs:List Value)(o:Nat)(w:World)(cur:Array Value),w.heap[b]? = some (.cells cur t (0,0))->o+vs.length<=cur.size->
  ∃cur',(w.setCells b o vs).heap[b]? = some (.cells cur' t (0,0))/\cur'.toList=cur.toList.take o++vs++cur.toList.drop (o+vs.length)/\(∀k,k≠b->(w.setCells b o vs).heap[k]? = w.heap[k]?)/\(∀B,B<=b->Below B w (w.setCells b o vs))/\(w.setCells b o vs).heap.size=w.heap.size
 | [],o,w,cur,h,hs=>⟨cur,h,by simp,λk _=>rfl,λB _=>ak B w,rfl⟩
 | v :: vs,o,w,cur,h,hs=>by
  simp only[List.length_cons]at hs
  obtain⟨cur',h1,h2,h3,h4,h5⟩:=dQ b t vs (o+1) (w.setCell ⟨b,o,none⟩ v) (cur.setIfInBounds o v) (heap_setCell_same w b o cur t _ h) (by simp<;>omega)
  refine⟨cur',h1,?_,λk hk=>(h3 k hk).trans (heap_setCell_other _ _ k _ hk),λB hB=>((ak B w).setCell (p:=⟨b,o,none⟩) hB v).trans (h4 B hB),by rw[World.setCells,h5];simp⟩;rw[h2,Array.toList_setIfInBounds]
  have ho:o<cur.toList.length:=by simp<;>omega
  have e1:(cur.toList.set o v).take (o+1)=cur.toList.take o++[v]:=by
   rw[List.take_set,List.take_add_one,aq ho,Option.toList_some,List.set_append_right _ _ (by simp<;>omega)]
   have:o - (cur.toList.take o).length=0:=by simp<;>omega
   rw[this];rfl
  have e2:(cur.toList.set o v).drop (o+1+vs.length)=cur.toList.drop (o+1+vs.length):=List.drop_set_of_lt (by omega);rw[e1,e2,List.length_cons,show o+(vs.length+1)=o+1+vs.length by omega];simp
theorem vz(hE:E.Ok){w:World}{g n c:Nat}{l:List α}{i:Nat}{x y:α}(h:Own E w (.slice (some ⟨g,0,none⟩) n c) l)(hi:l[i]? = some x):
  w.there g (i * E.sz) (E.enc y).length/\Own E (w.setCells g (i * E.sz) (E.enc y)) (.slice (some ⟨g,0,none⟩) n c) (l.set i y)/\(∀k,k≠g->(w.setCells g (i * E.sz) (E.enc y)).heap[k]? = w.heap[k]?)/\(∀B,B<=g->Below B w (w.setCells g (i * E.sz) (E.enc y)))/\(w.setCells g (i * E.sz) (E.enc y)).heap.size=w.heap.size:=by
 have hil:i<l.length:=(aj.1 hi).1
 have hm:i * E.sz+E.sz<=l.length * E.sz:=by rw[<-Nat.succ_mul];exact Nat.mul_le_mul_right _ hil
 rcases h.2 with⟨h',_⟩|⟨g',cap,cur,h',hb,h4,h5,h6,h7,h8⟩
 ·cases h'
 ·simp only[Value.slice.injEq,Option.some.injEq,Addr.mk.injEq,and_true,true_and]at h'
  obtain⟨rfl,rfl,rfl⟩:=h'
  have hcs:l.length * E.sz<=cur.size:=by rw[h7];exact Nat.mul_le_mul_right _ h5
  have hlen:=hE.len y
  have hth:w.there g (i * E.sz) (E.enc y).length:=λj hj=>by
   rw[hlen]at hj;refine⟨?_,frozen_of_row w g _ cur E.ty h4⟩;rw[ae w g _ cur E.ty _ h4,Array.getElem?_eq_getElem (by omega)];rfl
  obtain⟨cur',k1,k2,k3,k4,k5⟩:=dQ g E.ty (E.enc y) (i * E.sz) w cur h4 (by omega);refine⟨hth,⟨by rw[fU hE],.inr ⟨g,c,cur',by rw[List.length_set],hb,k1,by rw[List.length_set];exact h5,h6,?_,?_⟩⟩,k3,k4,k5⟩
  ·rw[<-Array.length_toList,k2];simp<;>omega
  ·rw[k2,List.length_set,<-s8 hE l i x y hi,<-h8,hlen]
   have e1:(List.take (l.length * E.sz) cur.toList).take (i * E.sz)=cur.toList.take (i * E.sz):=by rw[List.take_take,Nat.min_eq_left (by omega)]
   have e2:(List.take (l.length * E.sz) cur.toList).drop (i * E.sz+E.sz)=(cur.toList.drop (i * E.sz+E.sz)).take (l.length * E.sz - (i * E.sz+E.sz)):=by rw[List.drop_take]
   rw[e1,e2,List.take_append,List.take_of_length_le (by simp<;>omega)]
   congr 2
   simp<;>omega
theorem dG(hE:E.Ok){w w':World}{g n c:Nat}{l:List α}{i q:Nat}{x y:α}{u:Value}{cur:Array Value}(h:Own E w (.slice (some ⟨g,0,none⟩) n c) l)(hg:w.heap[g]? = some (.cells cur E.ty (0,0)))(hi:l[i]? = some x)(hq:q<E.sz)(hy:E.enc y=(E.enc x).set q u)
  (hg':w'.heap[g]? = some (.cells (cur.setIfInBounds (i * E.sz+q) u) E.ty (0,0))):Own E w' (.slice (some ⟨g,0,none⟩) n c) (l.set i y):=by
 unfold Own at *;rw[List.length_set];refine⟨by rw[fU hE,List.length_set],?_⟩;rcases h.2 with⟨h',_⟩|⟨g',cap,cur',h',hb,h4,h5,h6,h7,h8⟩
 ·simp at h'
 ·simp only[Value.slice.injEq,Option.some.injEq,Addr.mk.injEq,and_true,true_and]at h'
  obtain⟨rfl,rfl,rfl⟩:=h';rw[hg]at h4;simp only[Option.some.injEq,Obj.cells.injEq]at h4;obtain⟨rfl,-⟩:=h4;refine .inr ⟨_,_,_,rfl,hb,hg',h5,h6,by simpa using h7,?_⟩;rw[Array.toList_setIfInBounds,List.take_set,h8,qU hE l i q x y u hi hq hy]
theorem ex(hE:E.Ok){w:World}{g n c:Nat}{l:List α}(h:Own E w (.slice (some ⟨g,0,none⟩) n c) l):∃cur,w.heap[g]? = some (.cells cur E.ty (0,0))/\l.length * E.sz<=cur.size:=by
 rcases h.2 with⟨h',_⟩|⟨g',cap,cur',h',hb,h4,h5,h6,h7,h8⟩
 ·simp at h'
 ·simp only[Value.slice.injEq,Option.some.injEq,Addr.mk.injEq,and_true,true_and]at h'
  obtain⟨rfl,rfl,rfl⟩:=h';exact⟨cur',h4,by rw[h7];exact Nat.mul_le_mul_right _ h5⟩
end
section
variable {α:Type} {E:Enc α} {P:Program} {ops:Array Oper} {Q:Exit->Act->World->Prop}
theorem aZ{o:Oper}{a:Act}{w:World}(ty:TypeId)(y:Operand)(ho:o.op=.load ty y)(b off:Nat)(hx:a.eval y=.pointer (some ⟨b,off,none⟩))(cs:List Value)(d:TypeDesc)(hc:w.rangeAt b off cs)(hu:P.underlying ty=some d)(hd:d.isRow=true)(hi:(P.info? ty).map (·.size)=some cs.length):
  (execOp a.eval o).run P w=.ok (.value (.agg cs.toArray)) w:=by
 unfold execOp;simp only[ho,hx,Instr.loadAt,Instr.sureAddr,Sem.run_bind,Sem.run_pure,Result.andThen_ok,run_loadVar_mid w b off ty cs d hc hu hd hi]
section
variable {P:Program} {ops:Array Oper} {Q:Exit->Act->World->Prop} {rest:List Oper} {o:Oper} {a a':Act} {w:World}
theorem Zm{x:Operand}{b off:Nat}{d:TypeDesc}(ty:TypeId)(cs:Array Value)(hc:w.rangeAt b off cs.toList)(hu:P.underlying ty=some d)(h:wpList P ops Q rest a' w)(hgd:o.guard=none:=by rfl)(ho:o.op=.load ty x:=by rfl)(hx:a.eval x=.pointer (some ⟨b,off,none⟩):=by rfl)(hd:d.isRow=true:=by rfl)(hi:(P.info? ty).map (·.size)=some cs.toList.length:=by kernel_rfl)(ha:a.put o.dst (.agg cs)=a':=by go_simp;try rfl):wpList P ops Q (o :: rest) a w:=by subst ha;exact aG hgd _ (aZ ty x ho b off hx cs.toList d hc hu hd hi) λK hK=>hK _ _ h
end
theorem pF(hE:E.Ok){rest:List Oper}{o:Oper}{a:Act}{w:World}(hgd:o.guard=none)(ty:TypeId)(hinf:(P.info? ty).map (·.size)=some E.sz)(x y:Operand)(ho:o.op=.store ty x y)(g i n c:Nat)(l:List α)(z e:α)(hx:a.eval x=.pointer (some ⟨g,i * E.sz,none⟩))(hy:a.eval y=.agg (E.enc e).toArray)
  (hown:Own E w (.slice (some ⟨g,0,none⟩) n c) l) (hz:l[i]? = some z)
  (h:∀w',Own E w' (.slice (some ⟨g,0,none⟩) n c) (l.set i e)->(∀k,k≠g->w'.heap[k]? = w.heap[k]?)->(∀B,B<=g->Below B w w')->Hid (w'.heap.size=w.heap.size)->∀K:Act->World->Prop,(∀a w,wpList P ops Q rest a w->K a w)->K (a.put o.dst undef) w'):wpList P ops Q (o :: rest) a w:=by
 refine wpList_plain hgd λK hK=>?_
 obtain⟨h1,h2,h3,h4,h5⟩:=vz hE (y:=e) hown hz;unfold Oper.wp execOp;simp only[ho,hx,hy,Instr.storeAt,Instr.sureAddr,Sem.run_bind,Sem.run_pure,Result.andThen_ok,run_storeVar_mid w g (i * E.sz) ty (E.enc e).toArray (by simpa using h1) (by rw[hinf];simp[hE.len]) (all_oneCell_toArray (hE.one e))];exact h _ h2 h3 h4 h5 K hK
theorem uc(hE:E.Ok){w:World}(t ty:TypeId)(ht:P.underlying t=some (.slice E.ty))(by':Nat)(hinf:(P.info? E.ty).map (λi=>(i.zero.map (·.cells.size),i.size,i.bytes))=some (some E.sz,E.sz,by'))
  (v:Value) (l L:List α) (hown:Own E w v l) (b off c:Nat) (hR:RowAt E w b off L) (hk:l.length+L.length<=4000000) (hby:by'<=10000):
  ∃v' w',(Builtin.append_ #[t,t] ty #[v,.slice (some ⟨b,off,none⟩) L.length c]).run P w=.ok v' w'/\Own E w' v' (l++L)/\w.grownBy w' v.ownBlock/\(v'.ownBlock=v.ownBlock\/v'.ownBlock=some w.heap.size):=by
 obtain⟨i0,z,hi0,hz0,hzc,hz1,hz2⟩:=m6 hinf
 obtain⟨v',w',hrun,h2,h3,_,h5⟩:=run_append_own_at (P:=P) w 0 t ty E.ty i0 z E.sz by' ht hi0 hz0 hz1 hz2 hzc hE.pos v l.length _ hown ⟨b,off,none⟩ L.length c (L.flatMap E.enc) (fU hE L)
  (λj u hu=>by rw[bX];exact hR j u hu) (sJ hE L) (by simp only[maxLen];omega)
  (ar (Nat.mul_le_mul hk hby) (by decide)) (au _)
 refine⟨v',w',hrun,?_,h3,h5⟩;unfold Own;rw[List.flatMap_append,List.length_append];exact h2
theorem iM(hE:E.Ok){i:Nat}{K:Act->World->Prop}{o:Oper}{a:Act}{w:World}(hi:ops[i]? = some o)(hgd:o.guard=none)(t:TypeId)(ht:P.underlying t=some (.slice E.ty))(by':Nat)(hinf:(P.info? E.ty).map (λi=>(i.zero.map (·.cells.size),i.size,i.bytes))=some (some E.sz,E.sz,by'))
  (s x:Operand) (ho:o.op=.call { callee:=.builtin .append,args:=#[s,x],argTypes:=#[t,t] })
  (v:Value) (l L:List α) (hs:a.eval s=v) (hown:Own E w v l) (b off c:Nat) (hx:a.eval x=.slice (some ⟨b,off,none⟩) L.length c) (hR:RowAt E w b off L) (hk:l.length+L.length<=4000000) (hby:by'<=10000)
  (h:∀v' w',Own E w' v' (l++L)->w.grownBy w' v.ownBlock->(v'.ownBlock=v.ownBlock\/v'.ownBlock=some w.heap.size)->K (a.put o.dst v') w'):wpOp P ops Q i K a w:=by
 obtain⟨v',w',hrun,h2,h3,h5⟩:=uc hE (w:=w) t o.type ht by' hinf v l L hown b off c hR hk hby
 unfold wpOp;simp only[hi]
 have hw:Region.wanted o (yielded ops a.tmps)=true:=by simp[Region.wanted,hgd]
 rw[ag hw];refine .inl ?_;unfold Oper.wp execOp;simp only[ho,resolve,invoke,builtin,Sem.run_bind,Sem.run_pure,Result.andThen_ok,List.map_toArray,List.map_cons,List.map_nil,hs,hx,hrun];exact h v' w' h2 h3 h5
theorem i5(hE:E.Ok){rest:List Oper}{o:Oper}{a:Act}{w:World}(hgd:o.guard=none)(t:TypeId)(ht:P.underlying t=some (.slice E.ty))(by':Nat)(hinf:(P.info? E.ty).map (λi=>(i.zero.map (·.cells.size),i.size,i.bytes))=some (some E.sz,E.sz,by'))
  (s x:Operand) (ho:o.op=.call { callee:=.builtin .append,args:=#[s,x],argTypes:=#[t,t] })
  (v:Value) (l L:List α) (hs:a.eval s=v) (hown:Own E w v l) (b off c:Nat) (hx:a.eval x=.slice (some ⟨b,off,none⟩) L.length c) (hR:RowAt E w b off L) (hk:l.length+L.length<=4000000) (hby:by'<=10000)
  (h:∀v' w',Own E w' v' (l++L)->w.grownBy w' v.ownBlock->(v'.ownBlock=v.ownBlock\/v'.ownBlock=some w.heap.size)->∀K:Act->World->Prop,(∀a w,wpList P ops Q rest a w->K a w)->K (a.put o.dst v') w'):wpList P ops Q (o :: rest) a w:=by
 refine wpList_plain hgd λK hK=>?_
 obtain⟨v',w',hrun,h2,h3,h5⟩:=uc hE (w:=w) t o.type ht by' hinf v l L hown b off c hR hk hby
 unfold Oper.wp execOp;simp only[ho,resolve,invoke,builtin,Sem.run_bind,Sem.run_pure,Result.andThen_ok,List.map_toArray,List.map_cons,List.map_nil,hs,hx,hrun];exact h v' w' h2 h3 h5 K hK
end
end Go.Proofs.YtldlcnaphednnaaGreatDoor
