/- General lemmas of this claim: from a walk that answers true and leaves all old memory alone to what the row asks; arguments that are arrays of eight numbers. No program in sight. General lemmas of this claim: a region that draws its order, whose first operations read, or call what only makes new memory, and whose last operations stand in one forced order; whole arrays in a block. No program in sight. -/
import Derived.Below
import Derived.ChangeSame
import Derived.ProofKit
import Derived.OpenShut
import Derived.WideKeyArgs
import Derived.StillTail
import Derived.Deep.Quiet
import Derived.WalkKit
import Derived.WalkLawsBesides
import Derived.WalkSpells
import Derived.Deep.Cut
import Derived.Deep.CutRange
import Derived.DeepKeys
import Derived.StillTactics
set_option maxRecDepth 100000
set_option maxHeartbeats 32000000
set_option linter.unusedVariables false
set_option linter.unusedSimpArgs false
namespace Go.Proofs.YtldlcnaphednnaaGreatDoor
open Go.ChangeShapes Go.WideShapes Go.ChangeAt Go.RowKit
section
variable {H:Type} {enc:TypeId×Value->H} {P:Program}
theorem qi(hl:laidOutB P=true){W W':World}{sp':Nat->Bool}(hb:Below W.heap.size W W'):∀{ts:List TypeId} {vs:List Value} {ds:List (DataW H)} {ps:List MemPlace},
  (∀t∈ts,P.readableRec t=true/\t<P.types.size)->DataW.TrodAll enc P W 0 (λ_=>true) true ts vs ds ps->(∀p∈ps,p.block<W.heap.size)->(∀p∈ps,sp' p.block=true)->DataW.TrodAll enc P W' 0 sp' true ts vs ds ps:=by
 intro ts
 induction ts with
 | nil=>intro vs ds ps _ h _ _;obtain⟨rfl,rfl,rfl⟩:=trodAll_nil h;exact trodAll_mk0
 | cons t ts ih=>
  intro vs ds ps hts h hlt hs;obtain⟨v0,vs0,d0,ds0,p0,q0,rfl,rfl,rfl,h0,r0⟩:=trodAll_cons h;have ht:=hts t (by simp)
  exact trodAll_cons_mk (WideElems.Trod_stays hl ht.1 ht.2 h0 (λx hx=>hb.same (hlt x (by simp[hx]))) (λx hx=>hs x (by simp[hx])))
   (ih (λt' h'=>hts t' (by simp[h'])) r0 (λx hx=>hlt x (by simp[hx])) (λx hx=>hs x (by simp[hx])))

theorem zk{f:Func}{s:ChangeSpec}{again:Bool}{W W':World}{args:Array Value}{ds gs:List (DataW H)}{before:List MemPlace}(hl:laidOutB P=true)(hts:∀t∈f.params.toList,P.readableRec t=true/\t<P.types.size)
  (hW:DataW.Whole enc P f.params.toList s.vars false W args.toList ds gs before) {pa:List MemPlace} (hA:DataW.TrodAll enc P W 0 (λ_=>true) true f.params.toList args.toList ds pa) (hq:before=pa)
  (hres:(s.fn H (ds++gs)).results=[.lit (.bool true)]) (hargs:(s.fn H (ds++gs)).args=ds) (hvars:s.vars=[]) (hvars':(s.fn H (ds++gs)).vars=[]) {tb:TypeId} (hrt:f.resultTypes=#[tb]) (htb:P.underlying tb=some .bool)
  (hb:Below W.heap.size W W'):s.post enc P f false true false again W args (.bool true) W':=by
 have hlt:∀p∈before,p.block<W.heap.size:=λp hp=>hW.lt p hp
 have hold:∀p∈before,(λb=>decide (b<W.heap.size)) p.block=true:=λp hp=>by simpa using hlt p hp
 have hresT:∀(b:Nat)(sp:Nat->Bool)(hd:Bool),DataW.TrodAll enc P W' b sp hd f.resultTypes.toList ((Value.bool true).resultList f.resultTypes.size) (s.fn H (ds++gs)).results []:=λb sp hd=>by
  rw[hres,hrt];exact trodAll_cons_mk (shut_bool htb true) trodAll_mk0
 have hargsT:∀sp:Nat->Bool,(∀p∈before,sp p.block=true)->DataW.TrodAll enc P W' 0 sp true f.params.toList args.toList (s.fn H (ds++gs)).args pa:=λsp hsp=>by
  rw[hargs];exact qi hl hb hts hA (λp hp=>hlt p (hq▸hp)) (λp hp=>hsp p (hq▸hp))
 have hvarsT:∀sp:Nat->Bool,DataW.TrodVars enc P W' sp s.vars (s.fn H (ds++gs)).vars []:=λsp=>by
  rw[hvars,hvars'];exact rfl
 have hok:∀(j:Nat)(t:TypeId)(r:Value),f.resultTypes[j]? = some t->((Value.bool true).resultList f.resultTypes.size)[j]? = some r->Value.okWide P W' .any 0 t r:=by
  rw[hrt];exact ok_one (f:={ f with resultTypes:=#[tb] }) rfl rfl (okWide_bool_mk htb true)
 refine⟨ds,gs,before,[],pa,[],hW,hresT _ _ _,hargsT _ hold,hvarsT _,World.keptBut_mono (λp hp=>⟨hp,?_⟩) (hb.frame (·∈before)),λ_=>?_⟩
 ·rw[hq]at hp
  exact Or.inr (Or.inl hp)
 ·obtain⟨_,_,_,_,_,hz,hn⟩:=hW
  refine⟨hok,_,_,([]++pa)++[],⟨[]++pa,[],trodAll_append (hargsT _ (λ_ _=>rfl)) (hresT _ _ _),hvarsT _,rfl,?_,?_⟩,?_⟩
  ·intro b off hp
   have hin:MemPlace.cell b off∈before:=by rw[hq];simpa using hp
   rw[hb.frozen (hlt _ hin)];exact hz b off hin
  ·intro ha
   cases ha
  ·intro p hp _
   rw[hq]
   simpa using hp
end
end Go.Proofs.YtldlcnaphednnaaGreatDoor
namespace Go.Proofs.YtldlcnaphednnaaGreatDoor
open Go.RowKit
section
variable {P:Program} {ops:Array Oper} {md:Region.Mode} {C:World->Prop}

def mZ(P:Program)(md:Region.Mode)(ops:Array Oper)(C:World->Prop)(n:Nat)(L:Array Bool->Act->Prop):Nat->Array Bool->Act->Prop
 | 0,listed,a=>L listed a
 | f+1,listed,a=>Region.ready md ops listed≠[]/\∀i∈Region.ready md ops listed,i<n/\qOp P ops C i (mZ P md ops C n L f (listed.setIfInBounds i true)) a

theorem nJ{n g:Nat}{L:Array Bool->Act->Prop}{Q:Exit->Act->World->Prop}(hL:∀listed a w,C w->L listed a->wpAny P md ops Q g listed a w):
  ∀(f:Nat)(listed:Array Bool)(a:Act)(w:World),C w->mZ P md ops C n L f listed a->wpAny P md ops Q (f+g) listed a w:=by
 intro f
 induction f with
 | zero=>intro listed a w hw h;rw[Nat.zero_add];exact hL _ _ _ hw h
 | succ f ih=>
  intro listed a w hw h;rw[Nat.succ_add];refine⟨λh0=>absurd h0 h.1,λi hi=>?_⟩;exact wpOp_of_qOp hw (λa' w' hw' h'=>ih _ a' w' hw' h') (h.2 i hi).2

theorem p6{n i:Nat}{oi:Oper}{v:Value}{L:Array Bool->Act->Prop}(hi:ops[i]? = some oi)(hsel:∀(j:Nat) (o:Oper) cs b,ops[j]? = some o->o.op≠.select cs b)
  (hs:Region.sinkB md ops n=true) (hc:Region.chainB md ops n=true) (hn:n<ops.size) (hin:i<n)
  (hdone:∀listed a,L listed a->∀j∈Region.ready md ops listed,n<=j):
  ∀(f:Nat)(listed:Array Bool)(a:Act),HeadInv md ops n listed->
   (∀j oj,ops[j]? = some oj->j≠i->listed.getD j true=false->(∀e∈oj.after,Region.binds md e=true->e.on≠i)->oi.apart ops oj=true)->
   i∈Region.ready md ops listed->YieldsIn P ops C oi v a->
   mZ P md ops C n L f (listed.setIfInBounds i true) (a.put oi.dst v)->mZ P md ops C n L (f+1) listed a:=by
 intro f
 induction f with
 | zero=>
  intro listed a inv _ hr hy H;refine⟨λh=>(by rw[h]at hr;cases hr),λj hj=>?_⟩;have hjn:j<n:=(Nat.lt_or_ge j n).elim id λh=>absurd hj (tail_waits hs hc hn inv _ i rfl hin (mem_ready.1 hr).1 j h);refine⟨hjn,?_⟩
  by_cases hji:j=i
  ·subst hji;exact hy.qOp hi H
  ·have:=hdone _ _ H j (ready_mono hj hji)
   omega
 | succ f ih=>
  intro listed a inv hfree hr hy H;have hun:=(mem_ready.1 hr).1;refine⟨λh=>(by rw[h]at hr;cases hr),λj hj=>?_⟩;have hjn:j<n:=(Nat.lt_or_ge j n).elim id λh=>absurd hj (tail_waits hs hc hn inv _ i rfl hin hun j h);refine⟨hjn,?_⟩
  by_cases hji:j=i
  ·subst hji;exact hy.qOp hi H
  ·obtain⟨hjun,oj,hoj,hall⟩:=mem_ready.1 hj
   have hnot:∀e∈oj.after,Region.binds md e=true->e.on≠i:=λe he hb heq=>by
    have h1:=hall e he hb;rw[heq,getD_both hun]at h1;cases h1
   have h2:=qOp_put hoj (hfree j oj hoj hji hjun hnot) (λcs b=>hsel i oi cs b hi) (λcs b=>hsel j oj cs b hoj) hy (H.2 j (ready_mono hj hji)).2;refine qOp_mono (λa' h3=>ih (listed.setIfInBounds j true) a' (inv.set hj hjn) (λk ok hk hki hun' hno=>hfree k ok hk hki ?_ hno) (ready_mono hr (Ne.symm hji)) h3.1 ?_) h2
   ·by_cases hjk:j=k
    ·subst hjk;exact hjun
    ·rw[getD_set_ne true hjk]at hun';exact hun'
   ·rw[Array.setIfInBounds_comm _ _ hji]
    exact h3.2

theorem sV{n g:Nat}{Lq:Act->Prop}(hsel:Region.noSelect ops=true)(hs:Region.sinkB md ops n=true)(hc:Region.chainB md ops n=true)(hn:n<ops.size):
  ∀(l:List Oper)(k:Nat)(listed:Array Bool)(a:Act),(∀j,j<l.length->l[j]? = ops[k+j]?)->k+l.length=n->HeadInv md ops n listed->
  Region.lexHead md ops g l.length k listed=true->wpQuiet P ops C Lq l a->
  mZ P md ops C n (λlisted' a'=>Region.seqB md ops g n listed'=true/\Lq a') l.length listed a:=by
 intro l
 induction l with
 | nil=>
  intro k listed a _ hk _ hB h
  have:k=n:=by simpa using hk
  subst this;exact⟨by simpa[Region.lexHead] using hB,h⟩
 | cons o l ih=>
  intro k listed a hl hk inv hB h
  have h0:ops[k]? = some o:=by simpa using(hl 0 (by simp)).symm
  simp only[List.length_cons,Region.lexHead,Bool.and_eq_true]at hB;obtain⟨⟨hr,hf⟩,hB'⟩:=hB
  have hkn:k<n:=by simp only[List.length_cons]at hk;omega
  have hr':k∈Region.ready md ops listed:=by simpa using hr
  have hst:qOp P ops C k (wpQuiet P ops C Lq l) a:=by unfold qOp;simp only[h0];exact h
  obtain⟨v,hy,hK⟩:=yieldsIn_of_qOp h0 hst;refine p6 h0 (Region.noSelect_spec hsel) hs hc hn hkn (λlisted' a' hL=>seqB_ready hL.1) l.length listed a inv (Region.free_spec h0 hf) hr' hy ?_
  exact ih (k+1) _ _ (λj hj=>by have:=hl (j+1) (by simp<;>omega);simpa[Nat.add_assoc,Nat.add_comm 1 j] using this) (by simp only[List.length_cons]at hk;omega) (inv.set hr' hkn) hB' hK

structure Qd(P:Program)(ops:Array Oper)(C:World->Prop)(Q:Act->Prop)(l:List Oper)(a:Act):Prop where
 out:wpQuiet P ops C Q l a
theorem u9{id:Nat}{Q:Exit->Act->World->Prop}{a:Act}{w:World}{l:List Oper}(n:Nat)(C:World->Prop)(hm:P.follows .mixedOrders=true)(hB:Region.lexTailB .any l.toArray n=true)(hC:C w.drew)
  (h:Qd P l.toArray C (λa'=>∀w',C w'->wpList P l.toArray Q (l.drop n) a' w') (l.take n) a):(Code.region id l.toArray true).wp P Q a w:=by
 simp only[Region.lexTailB,Bool.and_eq_true,decide_eq_true_eq]at hB;obtain⟨⟨⟨⟨hsel,hn⟩,hs⟩,hc⟩,hlex⟩:=hB
 have hn':n<l.length:=by simpa using hn
 have htl:(l.take n).length=n:=by simp<;>omega
 have hdl:(l.drop n).length=l.toArray.size - n:=by simp
 have inv0:HeadInv .any l.toArray n (Array.replicate l.toArray.size false):=
  ⟨by simp,λj oj _ hl=>(by rw[getD_replicate_false]at hl;cases hl),λt _ ht=>getD_in (by simpa using ht) (getD_replicate_false _ _)⟩
 have H:=sV (md:=.any) (g:=l.toArray.size - n) hsel hs hc hn (l.take n) 0 _ a (λj hj=>by
  have hj':j<n:=by rw[htl]at hj;exact hj
  simp[hj']) (by simpa using htl) inv0 (by rw[htl];exact hlex) h.out
 refine wp_region_any hm ?_
 have:=nJ (Q:=Q) (g:=l.toArray.size - n) (λlisted a' w' hw' hL=>by
  have:=wpAny_of_seq (md:=.any) (Q':=Q) (l.drop n) n listed a' w' (λj=>by simp[List.getElem?_drop]) (by rw[hdl];exact hL.1) (hL.2 w' hw')
  rwa [hdl]at this) _ _ _ w.drew hC H
 rw[htl,show n+(l.toArray.size - n)=l.toArray.size by omega]at this;exact this

theorem xP{id:Nat}{Q:Exit->Act->World->Prop}{a:Act}{w:World}{l:List Oper}(C:World->Prop)(hm:P.follows .mixedOrders=true)(hB:Region.lexB .any l.toArray=true)(hC:C w.drew)
  (h:Qd P l.toArray C (λa'=>∀w',C w'->Q .normal a' w') l a):(Code.region id l.toArray true).wp P Q a w:=
 wp_region_quiet hm hB hC (by simpa using h.out)

theorem lr{Q:Act->Prop}{a:Act}{o:Oper}{rest:List Oper}(hw:Region.wanted o (yielded ops a.tmps)=true)
  (h:∀K:Act->Prop,(∀a,Qd P ops C Q rest a->K a)->o.quiet P a C K):Qd P ops C Q (o :: rest) a:=by
 refine⟨?_⟩;simp only[wpQuiet,hw,if_true];exact h _ λ_ h=>h.out
theorem FH{Q:Act->Prop}{a:Act}{o:Oper}{rest:List Oper}(hw:Region.wanted o (yielded ops a.tmps)=false)
  (h:∀K:Act->Prop,(∀a,Qd P ops C Q rest a->K a)->K (a.put o.dst undef)):Qd P ops C Q (o :: rest) a:=by
 refine⟨?_⟩;simp only[wpQuiet,hw];exact h _ λ_ h=>h.out
theorem aQ{Q:Act->Prop}{a:Act}(h:Q a):Qd P ops C Q [] a:=⟨wpQuiet_nil h⟩
theorem oE{o:Oper}{a:Act}{K:Act->Prop}(v:Value)(h:∀w,C w->(execOp a.eval o).run P w=.ok (.value v) w)(hK:K (a.put o.dst v)):o.quiet P a C K:=
 ⟨v,λw hw=>by unfold Oper.quietAt;rw[h w hw];exact⟨rfl,rfl⟩,hK⟩
theorem wG{o:Oper}{a:Act}{K:Act->Prop}(f:FuncId)(args:Array Value)(v:Value)(h:∀w,(execOp a.eval o).run P w=.ok (.enter f args) w)
  (hc:∀w,C w->Calls P f args w λe w'=>e=.returned v/\C w') (hK:K (a.put o.dst v)):o.quiet P a C K:=
 ⟨v,λw hw=>by unfold Oper.quietAt;rw[h w];exact⟨rfl,hc w hw⟩,hK⟩
theorem nH{o:Oper}{a:Act}{K:Act->Prop}(ty:TypeId)(x:Operand)(ho:o.op=.load ty x)(b:Nat)(hx:a.eval x=.pointer (some ⟨b,0,none⟩))(t:TypeId)(cs:Array Value)(fr:Nat×Nat)(d:TypeDesc)
  (hb:∀w,C w->w.heap[b]? = some (.cells cs t fr)) (hu:P.underlying ty=some d) (hd:(match d with|.struct _|.array _ _=>true|_=>false)=true) (hi:(P.info? ty).map (·.size)=some cs.size)
  (hK:K (a.put o.dst (.agg cs))):o.quiet P a C K:=
 oE (.agg cs) (λw hw=>by
  unfold execOp
  simp only[ho,hx,Instr.loadAt,Instr.sureAddr,Sem.run_bind,Sem.run_pure,Result.andThen_ok,run_loadVar_row w b t ty cs fr d (hb w hw) hu hd hi]) hK
end

section
variable {P:Program} {ops:Array Oper} {Q:Exit->Act->World->Prop}
theorem uf{rest:List Oper}{o:Oper}{a:Act}{w:World}(hgd:o.guard=none)(ty:TypeId)(ho:o.op=.alloc ty)(z:Value)(cs:Array Value)(hz:∀w,(zeroValue ty).run P w=.ok z w)(hcs:z.cells=cs)
  (h:∀(w':World)(b:Nat),w'.heap[b]? = some (.cells cs ty (0,0))->Below w.heap.size w w'->Hid (b=w.heap.size)->∀K:Act->World->Prop,(∀a w,wpList P ops Q rest a w->K a w)->K (a.put o.dst (.pointer (some ⟨b,0,none⟩))) w'):
  wpList P ops Q (o :: rest) a w:=by
 refine wpList_plain hgd λK hK=>?_
 unfold Oper.wp execOp
 have hr:(Instr.alloc ty true (.tuple #[])).run P w=.ok (.pointer (some ⟨w.heap.size,0,none⟩)) (w.alloc (.cells cs ty)):=by
  unfold Instr.alloc;simp only[Sem.run_bind,hz,Result.andThen_ok];simp only[newVar,newRow,hcs];rfl
 simp only[ho,Sem.run_bind,hr,Result.andThen_ok];exact h _ _ (heap_alloc_new w _) ((Below.refl _ _).alloc (Nat.le_refl _) _) rfl K hK

theorem bx{rest:List Oper}{o:Oper}{a:Act}{w:World}(hgd:o.guard=none)(ty:TypeId)(x y:Operand)(ho:o.op=.store ty x y)(b:Nat)(cs:Array Value)(hx:a.eval x=.pointer (some ⟨b,0,none⟩))(hy:a.eval y=.agg cs)
  (t:TypeId) (old:Array Value) (hg:w.heap[b]? = some (.cells old t (0,0))) (hi:(P.info? ty).map (·.size)=some cs.size) (hold:old.size=cs.size) (h1:cs.all (·.oneCell')=true)
  (h:∀w':World,w'.heap[b]? = some (.cells cs t (0,0))->(∀k,k≠b->w'.heap[k]? = w.heap[k]?)->(∀B,B<=b->Below B w w')->Hid (w'.heap.size=w.heap.size)->
   ∀K:Act->World->Prop,(∀a w,wpList P ops Q rest a w->K a w)->K (a.put o.dst undef) w'):wpList P ops Q (o :: rest) a w:=by
 refine wpList_plain hgd λK hK=>?_
 have hB:∀k,k≠b->(w.setRow b cs).heap[k]? = w.heap[k]? := λk hk=>setRow_other w b k cs hk
 refine wp_store_row ty x y ho b cs hx hy t old hg hi hold h1 ?_;exact h _ (setRow_heap w b old cs t (0,0) hg) hB (λB hB'=>⟨rfl,rfl,rfl,by simp,λk hk=>hB k (by omega)⟩) (show(w.setRow b cs).heap.size=w.heap.size by simp) K hK
end

theorem aB{w:World}{b:Nat}{o:Obj}(h:w.heap[b]? = some o):b<w.heap.size:=(Array.getElem?_eq_some_iff.1 h).1
theorem keep{b:Nat}{w w':World}{o:Obj}(h:w.heap[b]? = some o)(hB:Below w.heap.size w w'):w'.heap[b]? = some o:=(hB.block b (aB h)).trans h
theorem Zh{α:Sort _}(x:α):∃r,Hid (r=x):=⟨x,rfl⟩
theorem Zj{R:Act->Prop}{a a':Act}(h:R a')(ha:a=a':=by go_simp;try rfl):∀K:Act->Prop,(∀a,R a->K a)->K a:=by subst ha;exact λK hK=>hK _ h
theorem Zk{R:Act->World->Prop}{a a':Act}{w:World}(h:R a' w)(ha:a=a':=by go_simp;try rfl):∀K:Act->World->Prop,(∀a w,R a w->K a w)->K a w:=by subst ha;exact λK hK=>hK _ _ h
section
variable {P:Program} {ops:Array Oper} {C:World->Prop} {Q:Act->Prop} {rest:List Oper} {o:Oper} {a a':Act} {v:Value}
theorem Zz(h:Qd P ops C Q rest a')(hv:∀w,C w->(execOp a.eval o).run P w=.ok (.value v) w:=by intro w' h';go_simp;try with_reducible rfl)(ha:a.put o.dst v=a':=by go_simp;try rfl)(hw:Region.wanted o (yielded ops a.tmps)=true:=by rfl):Qd P ops C Q (o :: rest) a:=by subst ha;exact lr hw λK hK=>oE v hv (hK _ h)
theorem Zy(v:Value)(hv:∀w,C w->(execOp a.eval o).run P w=.ok (.value v) w)(h:Qd P ops C Q rest a')(ha:a.put o.dst v=a':=by go_simp;try rfl)(hw:Region.wanted o (yielded ops a.tmps)=true:=by rfl):Qd P ops C Q (o :: rest) a:=by subst ha;exact lr hw λK hK=>oE v hv (hK _ h)
theorem Zs(h:Qd P ops C Q rest a')(hw:Region.wanted o (yielded ops a.tmps)=false:=by rfl)(ha:a.put o.dst undef=a':=by go_simp;try rfl):Qd P ops C Q (o :: rest) a:=by subst ha;exact FH hw λK hK=>hK _ h
theorem Zl{x:Operand}{b:Nat}{t:TypeId}{fr:Nat×Nat}{d:TypeDesc}(ty:TypeId)(cs:Array Value)(hb:∀w,C w->w.heap[b]? = some (.cells cs t fr))(hu:P.underlying ty=some d)(h:Qd P ops C Q rest a')(ho:o.op=.load ty x:=by rfl)(hx:a.eval x=.pointer (some ⟨b,0,none⟩):=by rfl)(hd:(match d with|.struct _|.array _ _=>true|_=>false)=true:=by rfl)(hi:(P.info? ty).map (·.size)=some cs.size:=by kernel_rfl)(ha:a.put o.dst (.agg cs)=a':=by go_simp;try rfl)(hw:Region.wanted o (yielded ops a.tmps)=true:=by rfl):Qd P ops C Q (o :: rest) a:=by subst ha;exact lr hw λK hK=>nH ty x ho b hx t cs fr d hb hu hd hi (hK _ h)
theorem Zn(f:FuncId)(args:Array Value)(v:Value)(hc:∀w,C w->Calls P f args w λe w'=>e=.returned v/\C w')(h:Qd P ops C Q rest a')(he:∀w,(execOp a.eval o).run P w=.ok (.enter f args) w:=by intro w';first|(go_simp;done)|(go_simp;rfl)|(go_simp;simp only[IntKind.wrap_u32];omega))(ha:a.put o.dst v=a':=by go_simp;try rfl)(hw:Region.wanted o (yielded ops a.tmps)=true:=by rfl):Qd P ops C Q (o :: rest) a:=by subst ha;exact lr hw λK hK=>wG f args v he hc (hK _ h)
theorem ZA{id:Nat}{Q:Exit->Act->World->Prop}{w:World}{l:List Oper}(W:World)(h:Qd P l.toArray (λw'=>Below W.heap.size W w') (λa'=>∀w',Below W.heap.size W w'->Q .normal a' w') l a)(hC:Below W.heap.size W w.drew:=by exact Below.drew (Below.refl _ _))(hm:P.follows .mixedOrders=true:=by kernel_rfl)(hB:Region.lexB .any l.toArray=true:=by kernel_rfl):(Code.region id l.toArray true).wp P Q a w:=xP _ hm hB hC h
theorem ZT{id:Nat}{Q:Exit->Act->World->Prop}{w:World}{l:List Oper}(n:Nat)(W:World)(h:Qd P l.toArray (λw'=>Below W.heap.size W w') (λa'=>∀w',Below W.heap.size W w'->wpList P l.toArray Q (l.drop n) a' w') (l.take n) a)(hC:Below W.heap.size W w.drew:=by exact Below.drew (Below.refl _ _))(hm:P.follows .mixedOrders=true:=by kernel_rfl)(hB:Region.lexTailB .any l.toArray n=true:=by kernel_rfl):(Code.region id l.toArray true).wp P Q a w:=u9 n _ hm hB hC h
theorem Zt(v:Value)(h:Qd P ops C Q rest a')(hv:∀w,C w->(execOp a.eval o).run P w=.ok (.value v) w:=by intro w' h';first|(go_simp;done)|(go_simp;simp[*];done)|(go_simp;rfl))(ha:a.put o.dst v=a':=by go_simp;try rfl)(hw:Region.wanted o (yielded ops a.tmps)=true:=by rfl):Qd P ops C Q (o :: rest) a:=Zy v hv h ha hw
end
theorem cl2{w:World}{k:Nat}{cs:Array Value}{t:TypeId}(h:w.heap[k]? = some (.cells cs t (0,0))):w.cell? ⟨k,0,none⟩=cs[0]? /\ w.cell? ⟨k,1,none⟩=cs[1]? := ⟨cell_of_row w k 0 cs t _ h,cell_of_row w k 1 cs t _ h⟩
theorem cl3{w:World}{k:Nat}{cs:Array Value}{t:TypeId}(h:w.heap[k]? = some (.cells cs t (0,0))):w.cell? ⟨k,0,none⟩=cs[0]? /\ w.cell? ⟨k,1,none⟩=cs[1]? /\ w.cell? ⟨k,2,none⟩=cs[2]? := ⟨cell_of_row w k 0 cs t _ h,cell_of_row w k 1 cs t _ h,cell_of_row w k 2 cs t _ h⟩
theorem cl4{w:World}{k:Nat}{cs:Array Value}{t:TypeId}(h:w.heap[k]? = some (.cells cs t (0,0))):w.cell? ⟨k,0,none⟩=cs[0]? /\ w.cell? ⟨k,1,none⟩=cs[1]? /\ w.cell? ⟨k,2,none⟩=cs[2]? /\ w.cell? ⟨k,3,none⟩=cs[3]? := ⟨cell_of_row w k 0 cs t _ h,cell_of_row w k 1 cs t _ h,cell_of_row w k 2 cs t _ h,cell_of_row w k 3 cs t _ h⟩
theorem cl5{w:World}{k:Nat}{cs:Array Value}{t:TypeId}(h:w.heap[k]? = some (.cells cs t (0,0))):w.cell? ⟨k,0,none⟩=cs[0]? /\ w.cell? ⟨k,1,none⟩=cs[1]? /\ w.cell? ⟨k,2,none⟩=cs[2]? /\ w.cell? ⟨k,3,none⟩=cs[3]? /\ w.cell? ⟨k,4,none⟩=cs[4]? := ⟨cell_of_row w k 0 cs t _ h,cell_of_row w k 1 cs t _ h,cell_of_row w k 2 cs t _ h,cell_of_row w k 3 cs t _ h,cell_of_row w k 4 cs t _ h⟩
theorem cl6{w:World}{k:Nat}{cs:Array Value}{t:TypeId}(h:w.heap[k]? = some (.cells cs t (0,0))):w.cell? ⟨k,0,none⟩=cs[0]? /\ w.cell? ⟨k,1,none⟩=cs[1]? /\ w.cell? ⟨k,2,none⟩=cs[2]? /\ w.cell? ⟨k,3,none⟩=cs[3]? /\ w.cell? ⟨k,4,none⟩=cs[4]? /\ w.cell? ⟨k,5,none⟩=cs[5]? := ⟨cell_of_row w k 0 cs t _ h,cell_of_row w k 1 cs t _ h,cell_of_row w k 2 cs t _ h,cell_of_row w k 3 cs t _ h,cell_of_row w k 4 cs t _ h,cell_of_row w k 5 cs t _ h⟩
theorem cl7{w:World}{k:Nat}{cs:Array Value}{t:TypeId}(h:w.heap[k]? = some (.cells cs t (0,0))):w.cell? ⟨k,0,none⟩=cs[0]? /\ w.cell? ⟨k,1,none⟩=cs[1]? /\ w.cell? ⟨k,2,none⟩=cs[2]? /\ w.cell? ⟨k,3,none⟩=cs[3]? /\ w.cell? ⟨k,4,none⟩=cs[4]? /\ w.cell? ⟨k,5,none⟩=cs[5]? /\ w.cell? ⟨k,6,none⟩=cs[6]? := ⟨cell_of_row w k 0 cs t _ h,cell_of_row w k 1 cs t _ h,cell_of_row w k 2 cs t _ h,cell_of_row w k 3 cs t _ h,cell_of_row w k 4 cs t _ h,cell_of_row w k 5 cs t _ h,cell_of_row w k 6 cs t _ h⟩
theorem cl8{w:World}{k:Nat}{cs:Array Value}{t:TypeId}(h:w.heap[k]? = some (.cells cs t (0,0))):w.cell? ⟨k,0,none⟩=cs[0]? /\ w.cell? ⟨k,1,none⟩=cs[1]? /\ w.cell? ⟨k,2,none⟩=cs[2]? /\ w.cell? ⟨k,3,none⟩=cs[3]? /\ w.cell? ⟨k,4,none⟩=cs[4]? /\ w.cell? ⟨k,5,none⟩=cs[5]? /\ w.cell? ⟨k,6,none⟩=cs[6]? /\ w.cell? ⟨k,7,none⟩=cs[7]? := ⟨cell_of_row w k 0 cs t _ h,cell_of_row w k 1 cs t _ h,cell_of_row w k 2 cs t _ h,cell_of_row w k 3 cs t _ h,cell_of_row w k 4 cs t _ h,cell_of_row w k 5 cs t _ h,cell_of_row w k 6 cs t _ h,cell_of_row w k 7 cs t _ h⟩
section
variable {P:Program} {ops:Array Oper} {Q:Exit->Act->World->Prop} {rest:List Oper} {o:Oper} {a a':Act} {w:World}
theorem Zo{x y:Operand}(ty:TypeId)(b:Nat)(cs:Array Value){t:TypeId}{old:Array Value}(hg:w.heap[b]? = some (.cells old t (0,0)))(h:∀w':World,w'.heap[b]? = some (.cells cs t (0,0))->(∀k,k≠b->w'.heap[k]? = w.heap[k]?)->(∀B,B<=b->Below B w w')->Hid (w'.heap.size=w.heap.size)->wpList P ops Q rest a' w')(hgd:o.guard=none:=by rfl)(ho:o.op=.store ty x y:=by rfl)(hx:a.eval x=.pointer (some ⟨b,0,none⟩):=by rfl)(hy:a.eval y=.agg cs:=by rfl)(hi:(P.info? ty).map (·.size)=some cs.size:=by kernel_rfl)(hold:old.size=cs.size:=by rfl)(h1:cs.all (·.oneCell')=true:=by simp[Value.oneCell'])(ha:a.put o.dst undef=a':=by go_simp;try rfl):wpList P ops Q (o :: rest) a w:=by subst ha;exact bx hgd ty x y ho b cs hx hy t old hg hi hold h1 λw' p1 p2 p3 p4 K hK=>hK _ _ (h w' p1 p2 p3 p4)
theorem Za{a':Nat->Act}(ty:TypeId)(cs:Array Value)(h:∀(w':World)(b:Nat),w'.heap[b]? = some (.cells cs ty (0,0))->Below w.heap.size w w'->Hid (b=w.heap.size)->wpList P ops Q rest (a' b) w')(hgd:o.guard=none:=by rfl)(ho:o.op=.alloc ty:=by rfl)(hz:∀w,(zeroValue ty).run P w=.ok (.agg cs) w:=by intro w;kernel_rfl)(ha:∀b,a.put o.dst (.pointer (some ⟨b,0,none⟩))=a' b:=by intro b;go_simp;try rfl):wpList P ops Q (o :: rest) a w:=uf hgd ty ho (.agg cs) cs hz rfl λw' b p1 p2 p3 K hK=>hK _ _ (ha b▸h w' b p1 p2 p3)
end
theorem ab{P:Program}{Q:Exit->Act->World->Prop}{a:Act}{w:World}{id:Nat}{l:List Oper}(h:wpList P l.toArray Q l a w):(Code.region id l.toArray false).wp P Q a w:=wp_region_lit h
theorem ag{c:Prop}{h:Decidable c}(k:c){α:Sort _}{t e:α}:(if c then t else e)=t:=if_pos k
theorem af{c:Prop}{h:Decidable c}(k:¬c){α:Sort _}{t e:α}:(if c then t else e)=e:=if_neg k
theorem aj{α:Type _}{i:Nat}{a:α}{l:List α}:l[i]? = some a↔∃h,l[i]'h=a:=List.getElem?_eq_some_iff
theorem aq{α:Type _}{l:List α}{i:Nat}(h:i<l.length):l[i]? = some l[i]:=List.getElem?_eq_getElem h
theorem ah(n:Nat):n<=n:=Nat.le_refl n
theorem ar{n m k:Nat}:n<=m->m<=k->n<=k:=Nat.le_trans
theorem au(n:Nat):0<=n:=Nat.zero_le n
theorem ae(w:World)(g j:Nat)(cs:Array Value)(t:TypeId)(fr:Nat×Nat)(hg:w.heap[g]? = some (.cells cs t fr)):w.cell? ⟨g,j,none⟩=cs[j]? :=cell_of_row w g j cs t fr hg
theorem ak(B:Nat)(w:World):Below B w w:=Below.refl B w
theorem aA{n m k:Nat}:n<m->m<=k->n<k:=Nat.lt_of_lt_of_le
theorem az{p:Prop}[i:Decidable p]:¬p->decide p=false:=decide_eq_false
theorem ay{p:Prop}[i:Decidable p]:p->decide p=true:=decide_eq_true
theorem aC{α:Type _}{l:List α}{i:Nat}{a:α}(h:l[i]? = some a):a∈l:=List.mem_of_getElem? h
theorem aD{n m:Nat}:n=m->n<=m:=Nat.le_of_eq
end Go.Proofs.YtldlcnaphednnaaGreatDoor
