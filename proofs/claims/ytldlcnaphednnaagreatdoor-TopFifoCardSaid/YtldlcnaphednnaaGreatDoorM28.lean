/- A thread's instruction: its register; it notes an event; it ends. A thread's instruction: it changes a word of memory; whether it jumps; its address. A thread's instruction: what asks memory. -/
import Derived.Test.YtldlcnaphednnaaGreatDoorM27
set_option maxRecDepth 100000
set_option maxHeartbeats 32000000
set_option linter.unusedVariables false
set_option linter.unusedSimpArgs false
namespace Go.Proofs.YtldlcnaphednnaaGreatDoor
open Go.RowKit Go.Maps
section
variable {P:Program} {ops:Array Oper} {C:World->Prop} {Q:Act->Prop} {a:Act} {o:Oper} {rest:List Oper}
theorem qv(v:Value)(hv:∀w,C w->(execOp a.eval o).run P w=.ok (.value v) w)(h:∀K:Act->Prop,(∀a,Qd P ops C Q rest a->K a)->K (a.put o.dst v))(hw:Region.wanted o (yielded ops a.tmps)=true:=by rfl):Qd P ops C Q (o :: rest) a:=
 lr hw λK hK=>oE v hv (h K hK)
theorem qe{W:World}(f:FuncId)(args:Array Value)(v:Value)(hc:∀w,Below W.heap.size W w->Calls P f args w λe w'=>e=.returned v/\Below w.heap.size w w')(he:∀w,(execOp a.eval o).run P w=.ok (.enter f args) w)(h:∀K:Act->Prop,(∀a,Qd P ops (λw'=>Below W.heap.size W w') Q rest a->K a)->K (a.put o.dst v))(hw:Region.wanted o (yielded ops a.tmps)=true:=by rfl):Qd P ops (λw'=>Below W.heap.size W w') Q (o :: rest) a:=
 lr hw λK hK=>wG f args v he (λw' h'=>(hc w' h').mono λe w'' hh=>⟨hh.1,h'.trans (hh.2.mono h'.size)⟩) (h K hK)
end
theorem RM.cell{b ti n kR:Nat}{F:Nat->Prop}{M:Mac}{T:Th}{I:Ins}{A:Int}{w:World}(h:RM w b kR F M T I A ti n){j:Nat}{v:Value}(hv:(kh b ti n T I A)[j]? = some v):w.cell? ⟨kR,j,none⟩=some v:=(ae w kR j _ 192 _ h.r).trans hv
theorem qc{b ti n kR:Nat}{F:Nat->Prop}{M:Mac}{T:Th}{I:Ins}{A:Int}{w:World}(hR:RM w b kR F M T I A ti n)(a:Nat)(ha:I.a=a)(h8:a<8):Calls Tryz.prog 163 #[.pointer (some ⟨kR,0,none⟩)] w λe w'=>e=.returned (.pointer (some ⟨kR,1+a,none⟩))/\Below w.heap.size w w':=by
 go_enter Tryz.func163,Tryz.ntmps163
 have h0:(0:Int)<=a:=by omega
 have h1:(a:Int)<8:=by omega
 have ca:∀w':World,Below w.heap.size w w'->w'.cell? ⟨kR,11,none⟩=some (.int .i64 (a:Nat)):=λw' h'=>(hR.below h').cell (by rw[<-ha];rfl);clear ha;go_upto_region 1 with(fail);refine ZA w ?_
 iterate 11 refine Zz ?_
 refine aQ (λw2 h2=>?_);go_wp2;go_ret;exact⟨rfl,h2⟩
theorem j5{b ti n kR:Nat}{F:Nat->Prop}{M:Mac}{T:Th}{I:Ins}{A:Int}{w:World}(hR:RM w b kR F M T I A ti n)(x:Evt)(hs:M.evs.length<=3000000):Calls Tryz.prog 162 #[.pointer (some ⟨kR,0,none⟩),.agg (fp x).toArray] w λe w'=>e=.returned (.tuple #[])/\∃F',RM w' b kR F' (bK M ti T A x) (T) I (A) ti n/\Upd (Or1 F kR) (Or1 F' kR) w w':=by
 obtain⟨ek,ew,ep,ea,ev,eo,eK,eb⟩:=x;unfold fp;go_enter Tryz.func162,Tryz.ntmps162;go_upto_region 1 with(fail);obtain⟨W,kX,e0,e1,XX,hal⟩:=aO w #[.int .i64 ek,.int .i64 ew,.int .i64 ep,.int .i64 ea,.int .u32 ev,.int .u32 eo,.int .u32 eK,.bool eb] 46;rw[e0,e1]
 have hkX:w.heap.size<=kX:=by omega
 clear e0 e1;have hR0:=hR;have hn:=(hR.fresh hkX).1;replace hR:=hR.below hal;have D0:∀w':World,w'.heap[kR]? = W.heap[kR]? -> w'.cell? ⟨kR,0,none⟩=some (.int .i64 T.pc):=λw' h'=>ae w' kR 0 _ 192 _ (h'.trans hR.r);have D1:∀w':World,w'.heap[kR]? = W.heap[kR]? -> w'.cell? ⟨kR,26,none⟩=some (.int .i64 A):=λw' h'=>ae w' kR 26 _ 192 _ (h'.trans hR.r);have hb:∀w':World,Below W.heap.size W w'->w'.heap[kR]? = W.heap[kR]? := λw' h'=>h'.block kR (aB hR.r);refine gq [0,1,2,3,4,5,6,7,8,9] 12 13 (λw'=>w'.heap[kR]? = W.heap[kR]?) _ rfl (by kernel_rfl) (by kernel_rfl) (by decide) (by kernel_rfl) ?_
 iterate 9 refine ZR ?_
 refine ZF ?_;refine jS ?_;show dU _ _ _ _ _ _ _ _ _ _;clear D0 D1;have q0:Below W.heap.size W W.drew:=Below.drew (ak _ _);refine ZM 10 (λw1 r1=>⟨λ_=>hb _ (q0.trans (r1.mono q0.size)),?_⟩);have q1:=q0.trans (r1.mono q0.size);refine pr rfl rfl 3 (λw=>by kernel_rfl) (.tmp 13) (.tmp 8) rfl kX 2 (.int .i64 T.pc) rfl (dw _) _ 46 rfl rfl (keep XX q1) (by simp) (λw2 p1 p2 p3=>?_);refine ZM 11 (λw21 r21=>⟨λ_=>((r21.block kR (aB ((p2 kR hn.symm).trans (hR.below q1).r))).trans (p2 kR hn.symm)).trans (hb _ q1),?_⟩);refine aR rfl rfl (.pointer (some ⟨kX,3,none⟩)) (by go_simp) ?_;refine ZM 12 (λw3 r30=>⟨λ_=>(((r21.trans (r30.mono r21.size)).block kR (aB ((p2 kR hn.symm).trans (hR.below q1).r))).trans (p2 kR hn.symm)).trans (hb _ q1),?_⟩);have r3:=r21.trans (r30.mono r21.size);clear r21 r30;refine pr rfl rfl 3 (λw=>by kernel_rfl) (.tmp 14) (.tmp 12) rfl kX 3 (.int .i64 A) rfl (dw _) _ 46 rfl rfl (keep p1 r3) (by simp) (λw4 s1 s2 s3=>?_);refine bl (by kernel_rfl) (by kernel_rfl) (λw5 r5=>?_);have X5:w5.heap[kX]? = some (.cells #[.int .i64 ek,.int .i64 ew,.int .i64 T.pc,.int .i64 A,.int .u32 ev,.int .u32 eo,.int .u32 eK,.bool eb] 46 (0,0)):=keep s1 r5;have hal5:Below w.heap.size w w5:=((((hal.trans (q1.mono hal.size)).trans (p3 _ hkX)).trans (r3.mono (by have:=hal.size;have:=q1.size;have:=(p3 0 (au _)).size;omega))).trans (s3 _ hkX)).trans (r5.mono (by have:=hal.size;have:=q1.size;have:=(p3 0 (au _)).size;have:=r3.size;have:=(s3 0 (au _)).size;omega))
 replace hR:=hR0.below hal5;clear p1 p2 p3 s1 s2 s3 r1 r3 r5 q0 q1 hb hn XX hkX;go_upto_region 2 with(fail);have c25:∀w':World,Below w5.heap.size w5 w'->w'.cell? ⟨kR,25,none⟩=some (fnV b ti 62):=λw' h'=>(hR.below h').cell rfl;refine ZT 6 w5 ?_;simp only[List.take_succ_cons,List.take_zero]
 iterate 5 refine Zz ?_
 refine Zl 46 #[.int .i64 ek,.int .i64 ew,.int .i64 T.pc,.int .i64 A,.int .u32 ev,.int .u32 eo,.int .u32 eK,.bool eb] (λw' h'=>keep X5 h') Tryz.underlying46 ?_;refine aQ (λw6 r6=>?_);simp only[List.drop_succ_cons,List.drop_zero];have hc:=oY (ti:=ti) (hR.m.below r6) ⟨ek,ew,T.pc,A,ev,eo,eK,eb⟩ hs;refine aP rfl 62 #[sdV b ti,.agg #[.int .i64 ek,.int .i64 ew,.int .i64 T.pc,.int .i64 A,.int .u32 ev,.int .u32 eo,.int .u32 eK,.bool eb]] (λv w'=>v=.tuple #[]/\∃F',MMem w' b F' (bK M ti T A ⟨ek,ew,ep,ea,ev,eo,eK,eb⟩)/\Upd F F' w6 w') ?_ (hc.mono λe w' h=>⟨_,h.1,rfl,h.2⟩) ?_
 ·first|(go_simp;done)|(go_simp;rfl)
 rintro v w7 ⟨rfl,F',hM,hU⟩;refine Zk ?_;obtain⟨hR7,hU7⟩:=(hR.below r6).call hM hU;have hal6:=hal5.trans (r6.mono hal5.size);clear hR r6 c25 X5 hc;go_wp2;go_end0;exact⟨rfl,F',hR7,(Upd.of_below hal6).trans hU7⟩
theorem fK{fn:Func}{d:List Deferred}{w:World}{R:Ending->World->Prop}{tmps:Array Value}{p:Tmp}{b:Nat}{cs:Array Value}{ty:TypeId}{ds:TypeDesc}(hr:fn.results=#[.cell p ty])(hx:tmps.getD p undef=.pointer (some ⟨b,0,none⟩))
  (hg:w.heap[b]? = some (.cells cs ty (0,0))) (hd':ds.isRow=true) (hu:Tryz.prog.underlying ty=some ds) (hi:(Tryz.prog.info? ty).map (·.size)=some cs.size) (hd:d=[]) (hR:R (.returned (.agg cs)) w):bodyPost Tryz.prog fn R (.ret) ⟨tmps,d⟩ w:=by
 refine bodyPost_ret ?_ hd hR
 rw[results_cell_row hr tmps w b ty cs (0,0) _ hx hg hu (by cases ds<;>first|rfl|cases hd') hi]
section
variable {ops:Array Oper} {Q:Exit->Act->World->Prop} {b ti n kR:Nat} {F:Nat->Prop} {M M':Mac} {T T':Th} {I:Ins} {A:Int} {w:World}
theorem eZ{rest:List Oper}{o:Oper}{a:Act}(hgd:o.guard=none)(g:FuncId)(args:Array Value){v0:Value}(h:(execOp a.eval o).run Tryz.prog w=.ok (.enter g args) w)
  (hc:Calls Tryz.prog g args w λe w'=>e=.returned v0/\∃F',RM w' b kR F' M' T' I A ti n/\Upd (Or1 F kR) (Or1 F' kR) w w')
  (hK:∀F' w',RM w' b kR F' M' T' I A ti n->Upd (Or1 F kR) (Or1 F' kR) w w'->∀K:Act->World->Prop,(∀a w,wpList Tryz.prog ops Q rest a w->K a w)->K (a.put o.dst v0) w'):wpList Tryz.prog ops Q (o :: rest) a w:=
 aP hgd g args (λv w'=>v=v0/\∃F',RM w' b kR F' M' T' I A ti n/\Upd (Or1 F kR) (Or1 F' kR) w w') h (hc.mono λe w' hh=>⟨v0,hh.1,rfl,hh.2⟩) λv w' hh K hK'=>by
  obtain⟨rfl,F',h1,h2⟩:=hh;exact hK F' w' h1 h2 K hK'
theorem Upd.fresh{F F':Nat->Prop}{w w3 w4:World}{k:Nat}(h:Upd F F' w w3)(hk:w.heap.size<=k)(g2:∀j,j≠k->w4.heap[j]? = w3.heap[j]?)(g3:∀B,B<=k->Below B w3 w4):Upd F F' w w4:=
 ⟨λB hF hB=>(h.low B hF hB).trans (g3 B (by omega)),λj hj hn=>(g2 j (by omega)).trans (h.blk j hj hn),h.foot⟩
theorem MMem.keptF{k:Nat}{w w':World}{cs:Array Value}{ty:TypeId}(h:MMem w b F M)(hF:¬F k)(hk:w.heap[k]? = some (.cells cs ty (0,0)))(h1:115≠ty)(p2:∀j,j≠k->w'.heap[j]? = w.heap[j]?):MMem w' b F M:=by
 obtain⟨V,vs,h⟩:=h;have ho:∀{α:Type} {E:Enc α} {v:Value} {l:List α},(∀j,v.ownBlock=some j->F j)->Own E w v l->Own E w' v l:=λhv hO=>hO.keep λg e=>p2 g (λe'=>hF (e'▸hv g e));exact⟨V,vs,(p2 b (λe=>hF (e▸(h.foot b).2 (.inl rfl)))).trans h.blk,ho (λj e=>(h.foot j).2 (.inr (.inl e))) h.rc,⟨h.cm.len,λi v L e1 e2=>(h.cm.code i v L e1 e2).kept hk h1 p2⟩,ho (λj e=>(h.foot j).2 (.inr (.inr (.inl e)))) h.rt,ho (λj e=>(h.foot j).2 (.inr (.inr (.inr (.inl e))))) h.rf,ho (λj e=>(h.foot j).2 (.inr (.inr (.inr (.inr (.inl e)))))) h.rm,ho (λj e=>(h.foot j).2 (.inr (.inr (.inr (.inr (.inr (.inl e))))))) h.rk,ho (λj e=>(h.foot j).2 (.inr (.inr (.inr (.inr (.inr (.inr e))))))) h.re,h.foot⟩
theorem RM.box{k:Nat}{w w':World}{cs:Array Value}{ty:TypeId}(h:RM w b kR F M T I A ti n)(hn:¬Or1 F kR k)(hk:w.heap[k]? = some (.cells cs ty (0,0)))(h1:115≠ty)(p2:∀j,j≠k->w'.heap[j]? = w.heap[j]?):RM w' b kR F M T I A ti n:=⟨h.m.keptF (λe=>hn (.inl e)) hk h1 p2,(p2 kR (λe=>hn (.inr e.symm))).trans h.r,h.f⟩
theorem Upd.not{F F':Nat->Prop}{w w':World}{k:Nat}(h:Upd F F' w w')(hn:¬F k)(hk:k<w.heap.size):¬F' k:=λhF=>by
 rcases h.foot k hF with h1|h1
 ·exact hn h1
 ·omega
theorem RM.th(h:RM w b kR F M T I A ti n):w.rangeAt kR 0 (bp T):=λq v hv=>by
 rw[Nat.zero_add,ae w kR q _ 192 _ h.r]
 match q,hv with
 | 0,hv|1,hv|2,hv|3,hv|4,hv|5,hv|6,hv|7,hv|8,hv|9,hv=>exact hv
 | q+10,hv=>simp[bp]at hv
theorem RM.ins(h:RM w b kR F M T I A ti n):w.rangeAt kR 10 (dH I):=λq v hv=>by
 rw[ae w kR (10+q) _ 192 _ h.r]
 match q,hv with
 | 0,hv|1,hv|2,hv|3,hv|4,hv=>exact hv
 | q+5,hv=>simp[dH]at hv
end
theorem vY{b ti n kR:Nat}{F:Nat->Prop}{M:Mac}{T:Th}{I:Ins}{A:Int}{w:World}(hR:RM w b kR F M T I A ti n)(hs:M.evs.length<=3000000):Calls Tryz.prog 97 #[.pointer (some ⟨kR,0,none⟩)] w λe w'=>e=.returned (.agg (bp (jw T 3)).toArray)/\∃F',RM w' b kR F' (bK M ti (jw T 3) A (ev 13 0 0 0 false)) (jw T 3) I (A) ti n/\Upd (Or1 F kR) (Or1 F' kR) w w':=by
 go_enter Tryz.func97,Tryz.ntmps97;go_upto_region 1 with(fail);obtain⟨W,kX,e0,e1,XX,hal⟩:=aO w #[.int .i64 0,.int .u32 0,.int .u32 0,.int .u32 0,.int .u32 0,.int .u32 0,.int .u32 0,.int .u32 0,.int .u32 0,.int .i64 0] 153;rw[e0,e1]
 have hkX:w.heap.size<=kX:=by omega
 clear e0 e1;have hf:=hR.fresh hkX
 have hn:¬Or1 F kR kX:=λh=>h.elim hf.2 hf.1
 have hkW:=aB XX;have hR1:=hR.below hal;refine ab ?_
 iterate 4 refine Zv ?_
 refine Zw 3 9 (.int .i64 3) (dw 3) hR1.r (by show 9<27;decide) (λw1 p1 p2 p3=>?_);obtain⟨hR2,hU2⟩:=hR1.put p1 (rN 3) p2 p3;have X1:=(p2 kX hf.1).trans XX;have hU:=hU2;clear p1 p2 p3 hU2 XX hR1;go_upto_region 2 with(fail);refine ab ?_
 iterate 2 refine Zv ?_
 refine eZ rfl 162 #[.pointer (some ⟨kR,0,none⟩),.agg (fp (ev 13 0 0 0 false)).toArray] ?_ (j5 hR2 (ev 13 0 0 0 false) hs) (λF3 w3 hR3 hU3=>?_)
 ·first|(go_simp;done)|(go_simp;rfl)
 refine Zk ?_;have X3:=hU3.kept X1 hn;replace hU:=hU.trans hU3;have hT:=hR3.th;clear hU3 X1 hR2;go_upto_region 3 with(fail);refine ab ?_
 iterate 3 refine Zv ?_
 refine dJ rfl (.agg (bp (jw T 3)).toArray) (aZ 153 (.tmp 12) rfl kR 0 rfl (bp (jw T 3)) _ hT Tryz.underlying153 rfl (by kernel_rfl)) ?_;refine Zk ?_;refine bx rfl 153 (.tmp 2) (.tmp 13) rfl kX (bp (jw T 3)).toArray rfl rfl 153 _ X3 (by kernel_rfl) rfl (by simp[Value.oneCell',bp]) (λw4 g1 g2 g3 g4=>?_);refine Zk ?_;go_wp2;refine fK rfl rfl g1 rfl Tryz.underlying153 (by kernel_rfl) rfl ?_;exact⟨rfl,F3,hR3.box (hU.not hn hkW) X3 (by decide) g2,((Upd.of_below hal).trans hU).fresh hkX g2 g3⟩
theorem uU{b ti n kR:Nat}{F:Nat->Prop}{M:Mac}{T:Th}{I:Ins}{A:Int}{w:World}(hR:RM w b kR F M T I A ti n)(hs:M.evs.length<=3000000):Calls Tryz.prog 96 #[.pointer (some ⟨kR,0,none⟩)] w λe w'=>e=.returned (.agg (bp (jw T 2)).toArray)/\∃F',RM w' b kR F' (bK M ti (jw T 2) A (ev 12 0 0 0 false)) (jw T 2) I (A) ti n/\Upd (Or1 F kR) (Or1 F' kR) w w':=by
 go_enter Tryz.func96,Tryz.ntmps96;go_upto_region 1 with(fail);obtain⟨W,kX,e0,e1,XX,hal⟩:=aO w #[.int .i64 0,.int .u32 0,.int .u32 0,.int .u32 0,.int .u32 0,.int .u32 0,.int .u32 0,.int .u32 0,.int .u32 0,.int .i64 0] 153;rw[e0,e1]
 have hkX:w.heap.size<=kX:=by omega
 clear e0 e1;have hf:=hR.fresh hkX
 have hn:¬Or1 F kR kX:=λh=>h.elim hf.2 hf.1
 have hkW:=aB XX;have hR1:=hR.below hal;refine ab ?_
 iterate 4 refine Zv ?_
 refine Zw 3 9 (.int .i64 2) (dw 2) hR1.r (by show 9<27;decide) (λw1 p1 p2 p3=>?_);obtain⟨hR2,hU2⟩:=hR1.put p1 (rN 2) p2 p3;have X1:=(p2 kX hf.1).trans XX;have hU:=hU2;clear p1 p2 p3 hU2 XX hR1;go_upto_region 2 with(fail);refine ab ?_
 iterate 2 refine Zv ?_
 refine eZ rfl 162 #[.pointer (some ⟨kR,0,none⟩),.agg (fp (ev 12 0 0 0 false)).toArray] ?_ (j5 hR2 (ev 12 0 0 0 false) hs) (λF3 w3 hR3 hU3=>?_)
 ·first|(go_simp;done)|(go_simp;rfl)
 refine Zk ?_;have X3:=hU3.kept X1 hn;replace hU:=hU.trans hU3;have hT:=hR3.th;clear hU3 X1 hR2;go_upto_region 3 with(fail);refine ab ?_
 iterate 3 refine Zv ?_
 refine dJ rfl (.agg (bp (jw T 2)).toArray) (aZ 153 (.tmp 12) rfl kR 0 rfl (bp (jw T 2)) _ hT Tryz.underlying153 rfl (by kernel_rfl)) ?_;refine Zk ?_;refine bx rfl 153 (.tmp 2) (.tmp 13) rfl kX (bp (jw T 2)).toArray rfl rfl 153 _ X3 (by kernel_rfl) rfl (by simp[Value.oneCell',bp]) (λw4 g1 g2 g3 g4=>?_);refine Zk ?_;go_wp2;refine fK rfl rfl g1 rfl Tryz.underlying153 (by kernel_rfl) rfl ?_;exact⟨rfl,F3,hR3.box (hU.not hn hkW) X3 (by decide) g2,((Upd.of_below hal).trans hU).fresh hkX g2 g3⟩
section
variable {ops:Array Oper} {Q:Exit->Act->World->Prop} {b ti n kR:Nat} {F:Nat->Prop} {M M':Mac} {T T':Th} {I:Ins} {A:Int} {w:World}
theorem qR{rest:List Oper}{o:Oper}{a:Act}(hgd:o.guard=none)(hR:RM w b kR F M T I A ti n)(g:FuncId)(args:Array Value){v0:Value}(h:(execOp a.eval o).run Tryz.prog w=.ok (.enter g args) w)
  (hc:Calls Tryz.prog g args w λe w'=>e=.returned v0/\∃F',MMem w' b F' M'/\Upd F F' w w')
  (hK:∀F' w',RM w' b kR F' M' T I A ti n->Upd (Or1 F kR) (Or1 F' kR) w w'->∀K:Act->World->Prop,(∀a w,wpList Tryz.prog ops Q rest a w->K a w)->K (a.put o.dst v0) w'):wpList Tryz.prog ops Q (o :: rest) a w:=
 eZ hgd g args h (hc.mono λe w' hh=>⟨hh.1,hh.2.elim λF' h2=>⟨F',hR.call h2.1 h2.2⟩⟩) hK
theorem D3{rest:List Oper}{o:Oper}{a:Act}(hgd:o.guard=none)(g:FuncId)(args:Array Value){v0:Value}(h:(execOp a.eval o).run Tryz.prog w=.ok (.enter g args) w)
  (hc:Calls Tryz.prog g args w λe w'=>e=.returned v0/\Below w.heap.size w w')
  (hK:∀w',Below w.heap.size w w'->∀K:Act->World->Prop,(∀a w,wpList Tryz.prog ops Q rest a w->K a w)->K (a.put o.dst v0) w'):wpList Tryz.prog ops Q (o :: rest) a w:=
 aP hgd g args (λv w'=>v=v0/\Below w.heap.size w w') h (hc.mono λe w' hh=>⟨v0,hh.1,rfl,hh.2⟩) λv w' hh K hK'=>by
  obtain⟨rfl,h1⟩:=hh;exact hK w' h1 K hK'
end
theorem rp{b ti n kR:Nat}{F:Nat->Prop}{M:Mac}{T:Th}{I:Ins}{an:Nat}{w:World}(hR:RM w b kR F M T I (an:Nat) ti n)(hA:an<M.mem.length)(a:Nat)(ha:I.a=a)(h8:a<8)(old v:Int)(ok:Bool)(hs:M.evs.length<=3000000):Calls Tryz.prog 164 #[.pointer (some ⟨kR,0,none⟩),.int .u32 old,.int .u32 v,.bool ok] w λe w'=>e=.returned (.tuple #[])/\∃F',RM w' b kR F' ((bz M ti T a an old v ok).1) ((bz M ti T a an old v ok).2) I (an) ti n/\Upd (Or1 F kR) (Or1 F' kR) w w':=by
 go_enter Tryz.func164,Tryz.ntmps164
 cases ok with
 | true=>
  go_upto_region 1 with(fail);have c21:∀w':World,Below w.heap.size w w'->w'.cell? ⟨kR,21,none⟩=some (fnV b ti 108):=λw' h'=>(hR.below h').cell rfl;have c26:∀w':World,Below w.heap.size w w'->w'.cell? ⟨kR,26,none⟩=some (.int .i64 an):=λw' h'=>(hR.below h').cell rfl;refine ZT 10 w ?_;simp only[List.take_succ_cons,List.take_zero]
  iterate 10 refine Zz ?_
  refine aQ (λw1 h1=>?_);clear c21 c26;simp only[List.drop_succ_cons,List.drop_zero];refine qR rfl (hR.below h1) 108 #[sdV b ti,.int .i64 an,.int .u32 v] ?_ (AZ (ti:=ti) (hR.m.below h1) an hA v) (λF2 w2 hR2 hU2=>?_)
  ·first|(go_simp;done)|(go_simp;rfl)
  refine Zk ?_;have hU:=(Upd.of_below (F:=Or1 F kR) h1).trans hU2;clear hU2 h1;go_upto_region 3 with(fail);refine ab ?_
  iterate 5 refine Zv ?_
  refine eZ rfl 162 #[.pointer (some ⟨kR,0,none⟩),.agg (fp (ev 4 v old 0 true)).toArray] ?_ (j5 hR2 (ev 4 v old 0 true) hs) (λF3 w3 hR3 hU3=>?_)
  ·first|(go_simp;done)|(go_simp;rfl)
  refine Zk ?_;go_upto_region 4 with(fail);refine ab ?_;refine Zv ?_;refine Zq 163 #[.pointer (some ⟨kR,0,none⟩)] (qc hR3 a ha h8) (λw4 hb4=>?_)
  iterate 2 refine Zv ?_
  refine Zw 37 (1+a) (.int .u32 old) gW (hR3.below hb4).r (by show 1+a<27;omega) (λw5 p1 p2 p3=>?_);obtain⟨hR9,hU9⟩:=(hR3.below hb4).put p1 (fG h8 (old)) p2 p3;clear p1 p2 p3;go_wp2;go_end0;exact⟨rfl,F3,hR9,((hU.trans hU3).trans (Upd.of_below hb4)).trans hU9⟩
 | false=>
  go_upto_region 3 with(fail);refine ab ?_
  iterate 5 refine Zv ?_
  refine eZ rfl 162 #[.pointer (some ⟨kR,0,none⟩),.agg (fp (ev 4 old old 0 false)).toArray] ?_ (j5 hR (ev 4 old old 0 false) hs) (λF3 w3 hR3 hU3=>?_)
  ·first|(go_simp;done)|(go_simp;rfl)
  refine Zk ?_;go_upto_region 4 with(fail);refine ab ?_;refine Zv ?_;refine Zq 163 #[.pointer (some ⟨kR,0,none⟩)] (qc hR3 a ha h8) (λw4 hb4=>?_)
  iterate 2 refine Zv ?_
  refine Zw 37 (1+a) (.int .u32 old) gW (hR3.below hb4).r (by show 1+a<27;omega) (λw5 p1 p2 p3=>?_);obtain⟨hR9,hU9⟩:=(hR3.below hb4).put p1 (fG h8 (old)) p2 p3;clear p1 p2 p3;go_wp2;go_end0;exact⟨rfl,F3,hR9,(((Upd.refl _ _).trans hU3).trans (Upd.of_below hb4)).trans hU9⟩
theorem Gk{b ti n kR:Nat}{F:Nat->Prop}{M:Mac}{T:Th}{I:Ins}{A:Int}{w:World}(hR:RM w b kR F M T I A ti n)(a:Nat)(ha:I.a=a)(h8:a<8):Calls Tryz.prog 101 #[.pointer (some ⟨kR,0,none⟩)] w λe w'=>e=.returned (.bool (mf T I))/\Below w.heap.size w w':=by
 have y10:w.cell? ⟨kR,10,none⟩=some (.int .i64 I.op):=hR.cell rfl;have hreg:=qc hR a ha h8;have hrg:∀w':World,Below w.heap.size w w'->w'.cell? ⟨kR,1+a,none⟩=some (.int .u32 (T.regs a)):=λw' h'=>(hR.below h').cell (mX h8);unfold mf;obtain⟨op,ia,ib,ic,k⟩:=I;have ha':Hid (ia=(a:Int)):=ha;simp only at y10 ⊢;rw[ha'.out];clear ha ha';obtain⟨rv,hrv⟩:=Zh (T.regs a);rw[Int.toNat_natCast,<-hrv.out];rw[<-hrv.out]at hrg;clear hR hrv
 by_cases h1:op=13
 ·subst h1
  go_enter Tryz.func101,Tryz.ntmps101;go_wp2;go_ret;exact⟨rfl,ak _ _⟩
 by_cases h2:op=14
 ·subst h2
  go_enter Tryz.func101,Tryz.ntmps101;go_wp2_with fail;refine hreg.mono ?_;rintro e w' ⟨rfl,hb⟩;have c:=hrg w' hb;clear hrg hreg;go_wp2;go_ret;exact⟨rfl,hb⟩
 go_enter Tryz.func101,Tryz.ntmps101;go_wp2_with fail;refine hreg.mono ?_;rintro e w' ⟨rfl,hb⟩;have c:=hrg w' hb;clear hrg hreg;go_wp2;go_ret;refine⟨?_,hb⟩;simp[h1,h2]
 try rfl
theorem GQ(T:Th)(I:Ins)(hT:RU T)(hk:U32 I.k)(w:World):Calls Tryz.prog 99 #[.agg (bp T).toArray,iV I] w λe w'=>e=.returned (.int .u32 (jx T I))/\Below w.heap.size w w':=by
 obtain⟨op,ia,ib,ic,k⟩:=I;have hk':U32 k:=hk
 by_cases h2:ib<0\/8<=ib
 ·have e:jx T ⟨op,ia,ib,ic,k⟩=k:=ag h2
  rw[e];clear e;go_enter Tryz.func99,Tryz.ntmps99;go_upto_region 1 with(fail);obtain⟨W,kT,kI,e0,e1,e2,XT,XI,hal⟩:=lW w (bp T).toArray (iP ⟨op,ia,ib,ic,k⟩) 153 115;unfold iV;rw[e0,e2,e1];clear e0 e1 e2;have y2:W.cell? ⟨kI,2,none⟩=some (.int .i64 ib):=ae W kI 2 _ 115 _ XI;have y4:W.cell? ⟨kI,4,none⟩=some (.int .u32 k):=ae W kI 4 _ 115 _ XI
  by_cases h1:ib<0
  ·go_wp2
   go_ret;exact⟨rfl,hal⟩
  ·have h3:8<=ib:=by omega
   clear h2;go_wp2;go_ret;exact⟨rfl,hal⟩
 obtain⟨q,rfl⟩:∃q:Nat,ib=q:=⟨ib.toNat,by omega⟩
 have h8:q<8:=by omega
 have e:jx T ⟨op,ia,q,ic,k⟩=gj 3 (T.regs q) k:=af h2;obtain⟨rv,hrv⟩:=Zh (T.regs q);rw[e,<-hrv.out];clear e h2;go_enter Tryz.func99,Tryz.ntmps99;go_upto_region 1 with(fail);obtain⟨W,kT,kI,e0,e1,e2,XT,XI,hal⟩:=lW w (bp T).toArray (iP ⟨op,ia,q,ic,k⟩) 153 115;unfold iV;rw[e0,e2,e1];clear e0 e1 e2;have y2:W.cell? ⟨kI,2,none⟩=some (.int .i64 (q:Nat)):=ae W kI 2 _ 115 _ XI
 have h4:(0:Int)<=q:=by omega
 have h5:(q:Int)<8:=by omega
 have h6:¬(q:Int)<0:=by omega
 have h7:¬(8:Int)<=q:=by omega
 have cq:∀w':World,Below W.heap.size W w'->w'.cell? ⟨kT,1+q,none⟩=some (.int .u32 (T.regs q)):=λw' h'=>(ae w' kT (1+q) _ 153 _ (keep XT h')).trans (zb (P:=λa=>((bp T).toArray)[1+a]? = some (.int .u32 (T.regs a))) h8 ⟨rfl,rfl,rfl,rfl,rfl,rfl,rfl,rfl⟩);have c2:∀w':World,Below W.heap.size W w'->w'.cell? ⟨kI,2,none⟩=some (.int .i64 (q:Nat)):=λw' h'=>ae w' kI 2 _ 115 _ (keep XI h');have c4:∀w':World,Below W.heap.size W w'->w'.cell? ⟨kI,4,none⟩=some (.int .u32 k):=λw' h'=>ae w' kI 4 _ 115 _ (keep XI h');rw[<-hrv.out]at cq
 have hru:U32 rv:=by rw[hrv.out];exact hT q
 clear hrv;go_upto_region 3 with(fail);refine ZA W ?_
 iterate 7 refine Zz ?_
 refine qe 95 #[.int .i64 3,.int .u32 rv,.int .u32 k] (.tuple #[.int .u32 (gj 3 rv k),.bool (decide ((3:Int)<=3/\(3:Int)<=12))]) (λw' h'=>zq 3 rv k hru hk' w') (λw'=>?_) (λK hK=>?_)
 ·first|(go_simp;done)|(go_simp;rfl)
 go_simp;refine hK _ ?_;clear hK K
 iterate 5 refine Zz ?_
 refine aQ (λw2 h2=>?_);clear c2 c4 cq;go_wp2;go_ret;exact⟨rfl,hal.trans (h2.mono hal.size)⟩
theorem qM{b ti:Nat}{F:Nat->Prop}{M:Mac}{w:World}(hM:MMem w b F M)(h:MOk M)(hi:ti<M.threads.length)(a:Nat)(ha:a<M.mem.length):Calls Tryz.prog 104 #[sdV b ti,.int .i64 a] w λe w'=>e=.returned (.int .u32 (fo M ti a))/\Below w.heap.size w w':=by
 obtain⟨x,hx⟩:=h.at hi
 have e:fo M ti a=qL M x a:=by simp only[fo,hx,Int.toNat_natCast]
 rw[e];exact Ba hM hx (h.buf hx).1 a ha
theorem uP{b ti:Nat}{F:Nat->Prop}{M:Mac}{w:World}(hM:MMem w b F M)(h:MOk M)(hi:ti<M.threads.length)(hf:eu M ti=false)(a:Nat)(v:Int):Calls Tryz.prog 106 #[sdV b ti,.int .i64 a,.int .u32 v] w λe w'=>e=.returned (.tuple #[])/\∃F',MMem w' b F' (fj M ti a v)/\Upd F F' w w':=by
 obtain⟨x,hx⟩:=h.at hi
 have e:fj M ti a v={ M with bufs:=M.bufs.set ti (ed x a v) }:=by simp only[fj,hx]
 rw[e];simp only[eu,hx,decide_eq_false_iff_not]at hf;exact yd hM hx (h.buf hx).1 (by omega) a v
theorem qE(T:Th)(a:Nat)(v:Int):(jg T a v).regs a=v:=by simp[jg]
theorem RM.reg{b ti n kR:Nat}{F:Nat->Prop}{M:Mac}{T:Th}{I:Ins}{A:Int}{w:World}(h:RM w b kR F M T I A ti n){a:Nat}(h8:a<8){r:Int}(hr:Hid (r=T.regs a)):w.cell? ⟨kR,1+a,none⟩=some (.int .u32 r):=by rw[hr.out];exact h.cell (mX h8)
theorem G0{b ti n kR:Nat}{F:Nat->Prop}{M:Mac}{T:Th}{I:Ins}{an:Nat}{w:World}(hR:RM w b kR F M T I (an:Nat) ti n)(hok:MOk M)(hi:ti<M.threads.length)(hA:an<M.mem.length)(a:Nat)(ha:I.a=a)(h8:a<8)(hs:M.evs.length<=3000000)(hl:M.slp.length<=90000):Calls Tryz.prog 165 #[.pointer (some ⟨kR,0,none⟩)] w λe w'=>e=.returned (.tuple #[])/\∃F',RM w' b kR F' ((me M ti T a an).1) ((me M ti T a an).2) I (an) ti n/\Upd (Or1 F kR) (Or1 F' kR) w w':=by
 obtain⟨v,hv⟩:=Zh (fo M ti an);obtain⟨r,hr⟩:=Zh (T.regs a);obtain⟨X,hX⟩:=Zh (me M ti T a an);rw[<-hX.out]
 have hX':Hid (X=if v=r then(xd (bK M ti T an (ev 8 v 0 0 true)) ti an,jw (jg T a 0) 1) else(bK M ti T an (ev 8 v 0 0 false),jg T a 1)):=by rw[hv.out,hr.out];exact hX.out
 clear hX;go_enter Tryz.func165,Tryz.ntmps165;go_upto_region 0 with(fail);refine ab ?_;refine Zv ?_;refine Zq 163 #[.pointer (some ⟨kR,0,none⟩)] (qc hR a ha h8) (λw1 hb1=>?_);refine Zv ?_;have hR1:=hR.below hb1;have hld:=λ(w':World) (h':Below w1.heap.size w1 w')=>qM (hR1.m.below h') hok hi an hA;rw[<-hv.out]at hld;have c16:∀w':World,Below w1.heap.size w1 w'->w'.cell? ⟨kR,16,none⟩=some (fnV b ti 104):=λw' h'=>(hR1.below h').cell rfl;have c26:∀w':World,Below w1.heap.size w1 w'->w'.cell? ⟨kR,26,none⟩=some (.int .i64 an):=λw' h'=>(hR1.below h').cell rfl;go_upto_region 1 with(fail);refine ZA w1 ?_
 iterate 9 refine Zz ?_
 refine qe 104 #[sdV b ti,.int .i64 an] (.int .u32 v) (λw' h'=>hld w' h') (λw'=>?_) (λK hK=>?_)
 ·first|(go_simp;done)|(go_simp;rfl)
 go_simp;refine hK _ ?_;clear hK K;refine Zz ?_;refine aQ (λw2 h2=>?_);clear c16 c26 hld;have hR2:=hR1.below h2;have hU:=(Upd.of_below (F:=Or1 F kR) hb1).trans (Upd.of_below h2);have yr:=hR2.reg h8 hr;clear hR1 hb1 h2 hv
 by_cases hvr:v=r
 ·subst hvr
  obtain rfl:X=_:=hX'.out.trans (ag rfl);clear hX';go_upto_region 2 with(fail);refine ab ?_
  iterate 8 refine Zv ?_
  refine eZ rfl 162 #[.pointer (some ⟨kR,0,none⟩),.agg (fp (ev 8 v 0 0 true)).toArray] ?_ (j5 hR2 (ev 8 v 0 0 true) hs) (λF3 w3 hR3 hU3=>?_)
  ·first|(go_simp;done)|(go_simp;rfl)
  refine Zk ?_;have yr3:=hR3.reg h8 hr;clear yr;go_upto_region 5 with(fail);refine ab ?_
  iterate 2 refine Zv ?_
  refine Zw 37 (1+a) (.int .u32 0) gW hR3.r (by show 1+a<27;omega) (λw4 p1 p2 p3=>?_);obtain⟨hR4,hU4⟩:=hR3.put p1 (fG h8 (0)) p2 p3;clear p1 p2 p3;have c22:∀w':World,Below w4.heap.size w4 w'->w'.cell? ⟨kR,22,none⟩=some (fnV b ti 109):=λw' h'=>(hR4.below h').cell rfl;have c26:∀w':World,Below w4.heap.size w4 w'->w'.cell? ⟨kR,26,none⟩=some (.int .i64 an):=λw' h'=>(hR4.below h').cell rfl;clear yr3;go_upto_region 6 with(fail);refine ZT 9 w4 ?_;simp only[List.take_succ_cons,List.take_zero]
  iterate 9 refine Zz ?_
  refine aQ (λw5 h5=>?_);clear c22 c26;simp only[List.drop_succ_cons,List.drop_zero];refine qR rfl (hR4.below h5) 109 #[sdV b ti,.int .i64 an] ?_ (xe (ti:=ti) (hR4.m.below h5) (by have:=hok.nt1;omega) hl an) (λF6 w6 hR6 hU6=>?_)
  ·first|(go_simp;done)|(go_simp;rfl)
  refine Zk ?_;go_upto_region 7 with(fail);refine ab ?_
  iterate 4 refine Zv ?_
  refine Zw 3 9 (.int .i64 1) (dw 1) hR6.r (by show 9<27;decide) (λw7 p1 p2 p3=>?_);obtain⟨hR7,hU7⟩:=hR6.put p1 (rN 1) p2 p3;clear p1 p2 p3;go_wp2;go_end0;exact⟨rfl,F6,hR7,((((hU.trans hU3).trans hU4).trans (Upd.of_below h5)).trans hU6).trans hU7⟩
 obtain rfl:X=_:=hX'.out.trans (af hvr)
 have hvb:(v == r)=false:=by simp[hvr]
 clear hX';go_upto_region 2 with(fail);refine ab ?_
 iterate 8 refine Zv ?_
 refine eZ rfl 162 #[.pointer (some ⟨kR,0,none⟩),.agg (fp (ev 8 v 0 0 false)).toArray] ?_ (j5 hR2 (ev 8 v 0 0 false) hs) (λF3 w3 hR3 hU3=>?_)
 ·first|(go_simp;done)|(go_simp;rfl)
 refine Zk ?_;have yr3:=hR3.reg h8 hr;clear yr;go_upto_region 4 with(fail);refine ab ?_
 iterate 2 refine Zv ?_
 refine Zw 37 (1+a) (.int .u32 1) gW hR3.r (by show 1+a<27;omega) (λw4 p1 p2 p3=>?_);obtain⟨hR4,hU4⟩:=hR3.put p1 (fG h8 (1)) p2 p3;clear p1 p2 p3;go_wp2;refine bodyPost_ret (v:=.tuple #[]) (results_none (by rfl) _ _ _) rfl ?_;exact⟨rfl,F3,hR4,(hU.trans hU3).trans hU4⟩
theorem EM{b ti n kR:Nat}{F:Nat->Prop}{M:Mac}{T:Th}{I:Ins}{an:Nat}{w:World}(hR:RM w b kR F M T I (an:Nat) ti n)(hok:MOk M)(hi:ti<M.threads.length)(hA:an<M.mem.length)(a:Nat)(ha:I.a=a)(h8:a<8)(hs:M.evs.length<=3000000)(hl:M.slp.length<=80000)(hT:RU T)(hf0:I.op=17->eu M ti=false)(hc0:I.op=21->∃c:Nat,I.c=c/\c<8)(hop:I.op=16\/I.op=17\/I.op=19\/I.op=20\/I.op=21\/I.op=23\/I.op=24):Calls Tryz.prog 102 #[.pointer (some ⟨kR,0,none⟩)] w λe w'=>e=.returned (.tuple #[])/\∃F',RM w' b kR F' ((cR M ti T I an).1) ((cR M ti T I an).2) I (an) ti n/\Upd (Or1 F kR) (Or1 F' kR) w w':=by
 obtain⟨v,hv⟩:=Zh (fo M ti an);obtain⟨r,hr⟩:=Zh (T.regs a)
 have hru:U32 r:=by rw[hr.out];exact hT a
 clear hT;obtain⟨X,hX⟩:=Zh (cR M ti T I an);rw[<-hX.out];unfold cR at hX;rw[<-hv.out,ha,Int.toNat_natCast,<-hr.out]at hX;go_enter Tryz.func102,Tryz.ntmps102;go_upto_region 0 with(fail);refine ab ?_;refine Zv ?_;refine Zq 163 #[.pointer (some ⟨kR,0,none⟩)] (qc hR a ha h8) (λw1 hb1=>?_);refine Zv ?_;have hR1:=hR.below hb1;have hld:=λ(w':World) (h':Below w1.heap.size w1 w')=>qM (hR1.m.below h') hok hi an hA;rw[<-hv.out]at hld;have y10:w1.cell? ⟨kR,10,none⟩=some (.int .i64 I.op):=hR1.cell rfl;have hU:=Upd.of_below (F:=Or1 F kR) hb1;clear hb1 hR hv;obtain⟨op,hope⟩:=Zh (I.op);rw[<-hope.out]at y10 hop hX hf0 hc0;clear hope;rcases hop with rfl|rfl|rfl|rfl|rfl|rfl|rfl
 ·have hX2:Hid (X=(bK M ti T an (ev 1 v 0 0 false),jg T a v)):=hX.out
  clear hX;have hX:=hX2;clear hX2;go_upto_region 3 with(fail);have c16:∀w':World,Below w1.heap.size w1 w'->w'.cell? ⟨kR,16,none⟩=some (fnV b ti 104):=λw' h'=>(hR1.below h').cell rfl;have c26:∀w':World,Below w1.heap.size w1 w'->w'.cell? ⟨kR,26,none⟩=some (.int .i64 an):=λw' h'=>(hR1.below h').cell rfl;refine ZT 12 w1 ?_;simp only[List.take_succ_cons,List.take_zero]
  iterate 10 refine Zz ?_
  refine qe 104 #[sdV b ti,.int .i64 an] (.int .u32 v) (λw' h'=>hld w' h') (λw'=>?_) (λK hK=>?_)
  ·first|(go_simp;done)|(go_simp;rfl)
  go_simp;refine hK _ ?_;clear hK K;refine Zz ?_;refine aQ (λw2 h2=>?_);have hR2:=hR1.below h2;replace hU:=hU.trans (Upd.of_below h2);clear hld;simp only[List.drop_succ_cons,List.drop_zero];clear c16 c26;refine Zw 37 (1+a) (.int .u32 v) gW hR2.r (by show 1+a<27;omega) (λw3 p1 p2 p3=>?_);obtain⟨hR3,hU3⟩:=hR2.put p1 (fG h8 (v)) p2 p3;clear p1 p2 p3;have yv:w3.cell? ⟨kR,1+a,none⟩=some (.int .u32 v):=(hR3.cell (mX h8)).trans (by rw[qE]);go_upto_region 4 with(fail);refine ab ?_
  iterate 5 refine Zv ?_
  refine eZ rfl 162 #[.pointer (some ⟨kR,0,none⟩),.agg (fp (ev 1 v 0 0 false)).toArray] ?_ (j5 hR3 (ev 1 v 0 0 false) hs) (λF4 w4 hR4 hU4=>?_)
  ·first|(go_simp;done)|(go_simp;rfl)
  refine Zk ?_;clear yv;go_wp2;go_end0;rw[hX.out];exact⟨rfl,F4,hR4,(hU.trans hU3).trans hU4⟩
 ·have hX2:Hid (X=(bK (fj M ti an r) ti T an (ev 2 r 0 0 false),T)):=hX.out
  clear hX;have hX:=hX2;clear hX2;have hf:=hf0 rfl;go_upto_region 6 with(fail);have c18:∀w':World,Below w1.heap.size w1 w'->w'.cell? ⟨kR,18,none⟩=some (fnV b ti 106):=λw' h'=>(hR1.below h').cell rfl;have c26:∀w':World,Below w1.heap.size w1 w'->w'.cell? ⟨kR,26,none⟩=some (.int .i64 an):=λw' h'=>(hR1.below h').cell rfl;have cr:∀w':World,Below w1.heap.size w1 w'->w'.cell? ⟨kR,1+a,none⟩=some (.int .u32 (r)):=λw' h'=>(hR1.below h').reg h8 hr;refine ZT 12 w1 ?_;simp only[List.take_succ_cons,List.take_zero]
  iterate 12 refine Zz ?_
  refine aQ (λw2 h2=>?_);have hR2:=hR1.below h2;replace hU:=hU.trans (Upd.of_below h2);clear hld;simp only[List.drop_succ_cons,List.drop_zero];clear c18 c26 cr;refine qR rfl hR2 106 #[sdV b ti,.int .i64 an,.int .u32 r] ?_ (uP hR2.m hok hi hf an r) (λF3 w3 hR3 hU3=>?_)
  ·first|(go_simp;done)|(go_simp;rfl)
  refine Zk ?_;have yv:=hR3.reg h8 hr;go_upto_region 7 with(fail);refine ab ?_
  iterate 5 refine Zv ?_
  refine eZ rfl 162 #[.pointer (some ⟨kR,0,none⟩),.agg (fp (ev 2 r 0 0 false)).toArray] ?_ (j5 hR3 (ev 2 r 0 0 false) (by rw[show(fj M ti an r).evs=M.evs from by unfold fj;split<;>rfl];exact hs)) (λF4 w4 hR4 hU4=>?_)
  ·first|(go_simp;done)|(go_simp;rfl)
  refine Zk ?_;clear yv;go_wp2;go_end0;rw[hX.out];exact⟨rfl,F4,hR4,(hU.trans hU3).trans hU4⟩
 ·have hX2:Hid (X=bz M ti T a an v r true):=hX.out
  clear hX;have hX:=hX2;clear hX2;go_upto_region 9 with(fail);have c16:∀w':World,Below w1.heap.size w1 w'->w'.cell? ⟨kR,16,none⟩=some (fnV b ti 104):=λw' h'=>(hR1.below h').cell rfl;have c26:∀w':World,Below w1.heap.size w1 w'->w'.cell? ⟨kR,26,none⟩=some (.int .i64 an):=λw' h'=>(hR1.below h').cell rfl;have cr:∀w':World,Below w1.heap.size w1 w'->w'.cell? ⟨kR,1+a,none⟩=some (.int .u32 (r)):=λw' h'=>(hR1.below h').reg h8 hr;refine ZT 14 w1 ?_;simp only[List.take_succ_cons,List.take_zero]
  iterate 10 refine Zz ?_
  refine qe 104 #[sdV b ti,.int .i64 an] (.int .u32 v) (λw' h'=>hld w' h') (λw'=>?_) (λK hK=>?_)
  ·first|(go_simp;done)|(go_simp;rfl)
  go_simp;refine hK _ ?_;clear hK K
  iterate 3 refine Zz ?_
  refine aQ (λw2 h2=>?_);have hR2:=hR1.below h2;replace hU:=hU.trans (Upd.of_below h2);clear hld;simp only[List.drop_succ_cons,List.drop_zero];clear c16 c26 cr;refine eZ rfl 164 #[.pointer (some ⟨kR,0,none⟩),.int .u32 v,.int .u32 r,.bool true] ?_ (rp hR2 hA a ha h8 v r true hs) (λF3 w3 hR3 hU3=>?_)
  ·first|(go_simp;done)|(go_simp;rfl)
  refine Zk ?_;go_wp2;go_end0;rw[hX.out];exact⟨rfl,F3,hR3,hU.trans hU3⟩
 ·have hX2:Hid (X=bz M ti T a an v ((v+r)%4294967296) true):=hX.out
  clear hX;have hX:=hX2;clear hX2;go_upto_region 11 with(fail);have c16:∀w':World,Below w1.heap.size w1 w'->w'.cell? ⟨kR,16,none⟩=some (fnV b ti 104):=λw' h'=>(hR1.below h').cell rfl;have c26:∀w':World,Below w1.heap.size w1 w'->w'.cell? ⟨kR,26,none⟩=some (.int .i64 an):=λw' h'=>(hR1.below h').cell rfl;refine ZA w1 ?_
  iterate 9 refine Zz ?_
  refine qe 104 #[sdV b ti,.int .i64 an] (.int .u32 v) (λw' h'=>hld w' h') (λw'=>?_) (λK hK=>?_)
  ·first|(go_simp;done)|(go_simp;rfl)
  go_simp;refine hK _ ?_;clear hK K;refine Zz ?_;refine aQ (λw2 h2=>?_);have hR2:=hR1.below h2;replace hU:=hU.trans (Upd.of_below h2);clear hld;clear c16 c26;have yv:=hR2.reg h8 hr;go_upto_region 12 with(fail);refine ab ?_
  iterate 6 refine Zv ?_
  refine aG rfl (.int .u32 ((v+r)%4294967296)) ?_ ?_
  ·go_simp;try rfl
  refine Zk ?_;refine eZ rfl 164 #[.pointer (some ⟨kR,0,none⟩),.int .u32 v,.int .u32 ((v+r)%4294967296),.bool true] ?_ (rp hR2 hA a ha h8 v ((v+r)%4294967296) true hs) (λF3 w3 hR3 hU3=>?_)
  ·first|(go_simp;done)|(go_simp;rfl)
  refine Zk ?_;go_wp2;go_end0;rw[hX.out];exact⟨rfl,F3,hR3,hU.trans hU3⟩
 ·have hX2:Hid (X=bz M ti T a an v (T.regs I.c.toNat) (v == r)):=hX.out
  clear hX;have hX:=hX2;clear hX2;obtain⟨c,hc,c8⟩:=hc0 rfl;obtain⟨rc,hrc⟩:=Zh (T.regs c)
  have hXc:Hid (X=bz M ti T a an v rc (v == r)):=by rw[hrc.out];exact hX.out.trans (by rw[hc,Int.toNat_natCast])
  clear hX;have hX:=hXc;clear hXc;go_upto_region 14 with(fail);have c16:∀w':World,Below w1.heap.size w1 w'->w'.cell? ⟨kR,16,none⟩=some (fnV b ti 104):=λw' h'=>(hR1.below h').cell rfl;have c26:∀w':World,Below w1.heap.size w1 w'->w'.cell? ⟨kR,26,none⟩=some (.int .i64 an):=λw' h'=>(hR1.below h').cell rfl;refine ZA w1 ?_
  iterate 9 refine Zz ?_
  refine qe 104 #[sdV b ti,.int .i64 an] (.int .u32 v) (λw' h'=>hld w' h') (λw'=>?_) (λK hK=>?_)
  ·first|(go_simp;done)|(go_simp;rfl)
  go_simp;refine hK _ ?_;clear hK K;refine Zz ?_;refine aQ (λw2 h2=>?_);have hR2:=hR1.below h2;replace hU:=hU.trans (Upd.of_below h2);clear hld;clear c16 c26;go_upto_region 15 with(fail);have cc:∀w':World,Below w2.heap.size w2 w'->w'.cell? ⟨kR,13,none⟩=some (.int .i64 (c:Nat)):=λw' h'=>(hR2.below h').cell (by rw[<-hc];rfl);have cr:∀w':World,Below w2.heap.size w2 w'->w'.cell? ⟨kR,1+a,none⟩=some (.int .u32 (r)):=λw' h'=>(hR2.below h').reg h8 hr;have crc:∀w':World,Below w2.heap.size w2 w'->w'.cell? ⟨kR,1+c,none⟩=some (.int .u32 (rc)):=λw' h'=>(hR2.below h').reg c8 hrc
  have j0:(0:Int)<=c:=by omega
  have j1:(c:Int)<8:=by omega
  clear hc hrc;refine ZT 18 w2 ?_;simp only[List.take_succ_cons,List.take_zero]
  iterate 18 refine Zz ?_
  refine aQ (λw22 h22=>?_);replace hR2:=hR2.below h22;replace hU:=hU.trans (Upd.of_below h22);clear cc cr crc;simp only[List.drop_succ_cons,List.drop_zero];refine eZ rfl 164 #[.pointer (some ⟨kR,0,none⟩),.int .u32 v,.int .u32 rc,.bool (v == r)] ?_ (rp hR2 hA a ha h8 v rc (v == r) hs) (λF3 w3 hR3 hU3=>?_)
  ·first|(go_simp;done)|(go_simp;rfl)
  refine Zk ?_;go_wp2;go_end0;rw[hX.out];exact⟨rfl,F3,hR3,hU.trans hU3⟩
 ·have hX2:Hid (X=me M ti T a an):=hX.out
  clear hX;have hX:=hX2;clear hX2;go_upto_region 17 with(fail);refine ab ?_;refine Zv ?_;refine eZ rfl 165 #[.pointer (some ⟨kR,0,none⟩)] ?_ (G0 hR1 hok hi hA a ha h8 hs (ar hl (by decide))) (λF3 w3 hR3 hU3=>?_)
  ·first|(go_simp;done)|(go_simp;rfl)
  refine Zk ?_;go_wp2;go_end0;rw[hX.out];exact⟨rfl,F3,hR3,hU.trans hU3⟩
 ·have hX2:Hid (X=(bK (og M an r) ti T an (ev 9 (jF M an r) 0 0 false),jg T a (jF M an r))):=hX.out
  clear hX;have hX:=hX2;clear hX2;go_upto_region 19 with(fail);have c23:∀w':World,Below w1.heap.size w1 w'->w'.cell? ⟨kR,23,none⟩=some (fnV b ti 110):=λw' h'=>(hR1.below h').cell rfl;have c26:∀w':World,Below w1.heap.size w1 w'->w'.cell? ⟨kR,26,none⟩=some (.int .i64 an):=λw' h'=>(hR1.below h').cell rfl;have cr:∀w':World,Below w1.heap.size w1 w'->w'.cell? ⟨kR,1+a,none⟩=some (.int .u32 (r)):=λw' h'=>(hR1.below h').reg h8 hr;refine gq [0,1,2,3,4,5,6,7,8,9,10,11,12] 13 16 (λw'=>Below w1.heap.size w1 w') _ rfl (by kernel_rfl) (by kernel_rfl) (by decide) (by kernel_rfl) ?_;refine ZF ?_
  iterate 12 refine ZR ?_
  refine jS ?_;show dU _ _ _ _ _ _ _ _ _ _;clear c23 c26 cr;have q0:Below w1.heap.size w1 w1.drew:=Below.drew (ak _ _);refine ZM 13 (λw2 r2=>⟨λ_=>q0.trans (r2.mono q0.size),?_⟩);have hR2:=hR1.below (q0.trans (r2.mono q0.size));replace hU:=hU.trans (Upd.of_below (q0.trans (r2.mono q0.size)));clear hld q0 r2
  refine fW rfl rfl 110 #[sdV b ti,.int .i64 an,.int .u32 r] (λv w'=>v=.int .u32 (jF M an r)/\∃F',MMem w' b F' (og M an r)/\Upd F F' w2 w') (by first|(go_simp;done)|(go_simp;rfl)) ((yB (ti:=ti) hR2.m an r hru hl hok.slp).mono λe w' h=>⟨_,h.1,rfl,h.2⟩) ?_
  rintro _ w22 ⟨rfl,F3,hM3,hU3⟩;obtain⟨hR3,hU3⟩:=hR2.call hM3 hU3;clear hM3;refine ZM 14 (λw23 r23=>⟨(λe=>absurd (show true=false from e) (by decide)),?_⟩);refine aR rfl rfl (.pointer (some ⟨kR,1+a,none⟩)) (by go_simp) ?_;refine ZM 15 (λw3 r3=>⟨(λe=>absurd (show true=false from e) (by decide)),?_⟩);replace hU:=(hU.trans hU3).trans (Upd.of_below (r23.trans (r3.mono r23.size)));replace hR3:=hR3.below (r23.trans (r3.mono r23.size));clear r23 r3 hU3;refine pr rfl rfl 37 (λw=>by kernel_rfl) (.tmp 141) (.tmp 140) rfl kR (1+a) (.int .u32 (jF M an r)) rfl gW _ 192 rfl rfl hR3.r (by show 1+a<27;omega) (λw41 p1 p2 p3=>?_);refine bl (by kernel_rfl) (by kernel_rfl) (λw4 r4=>?_);obtain⟨hR4,hU4⟩:=hR3.put p1 (fG h8 (jF M an r)) p2 p3;replace hR4:=hR4.below r4;replace hU4:=hU4.trans (Upd.of_below r4);clear p1 p2 p3 r4;have yv:w4.cell? ⟨kR,1+a,none⟩=some (.int .u32 (jF M an r)):=(hR4.cell (mX h8)).trans (by rw[qE]);go_upto_region 20 with(fail);refine ab ?_
  iterate 5 refine Zv ?_
  refine eZ rfl 162 #[.pointer (some ⟨kR,0,none⟩),.agg (fp (ev 9 (jF M an r) 0 0 false)).toArray] ?_ (j5 hR4 (ev 9 (jF M an r) 0 0 false) hs) (λF5 w5 hR5 hU5=>?_)
  ·first|(go_simp;done)|(go_simp;rfl)
  refine Zk ?_;go_wp2;go_end0;rw[hX.out];exact⟨rfl,F5,hR5,(hU.trans hU4).trans hU5⟩
end Go.Proofs.YtldlcnaphednnaaGreatDoor
