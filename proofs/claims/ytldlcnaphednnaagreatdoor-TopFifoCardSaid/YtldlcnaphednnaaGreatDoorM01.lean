/- General lemmas of this claim: a region that draws its order, in which new variables are laid beside what is read and called: what only reads, or calls what only makes new memory, may be taken first. No program in sight. General lemmas of this claim: a region that draws its order, in which what has been read ahead of an append is turned by the append and by the store behind it. No program in sight. -/
import Derived.Test.YtldlcnaphednnaaGreatDoorM00
set_option maxRecDepth 100000
set_option maxHeartbeats 32000000
set_option linter.unusedVariables false
set_option linter.unusedSimpArgs false
namespace Go.Proofs.YtldlcnaphednnaaGreatDoor
open Go.RowKit
section
variable {P:Program} {ops:Array Oper} {md:Region.Mode} {Q:Exit->Act->World->Prop} {C:World->Prop}

def pg(P:Program)(w:World)(v:Value):Result Next->Prop
 | .ok (.value u) w'=>u=v/\Below w.heap.size w w'
 | .ok (.enter f args) w'=>w'=w/\Calls P f args w (λe w''=>e=.returned v/\Below w.heap.size w w'')
 | _=>False
def fi(P:Program)(o:Oper)(a:Act)(w:World)(v:Value):Prop:=pg P w v ((execOp a.eval o).run P w)

def lg(P:Program)(md:Region.Mode)(ops:Array Oper)(C:World->Prop)(Q:Exit->Act->World->Prop):Nat->Array Bool->Act->World->Prop
 | 0,listed,a,w=>∀w',Below w.heap.size w w'->C w'/\Region.ready md ops listed=[]/\Q .normal a w'
 | f+1,listed,a,w=>∀w',Below w.heap.size w w'->C w'/\(Region.ready md ops listed=[]->Q .normal a w')/\
   ∀i∈Region.ready md ops listed,wpOp P ops Q i (lg P md ops C Q f (listed.setIfInBounds i true)) a w'

theorem nf{a b c:World}(h:Below a.heap.size a b)(k:Below b.heap.size b c):Below a.heap.size a c:=h.trans (k.mono h.size)
theorem jM{f:Nat}{listed:Array Bool}{a:Act}{w w1:World}(h:lg P md ops C Q f listed a w)(hb:Below w.heap.size w w1):lg P md ops C Q f listed a w1:=by
 cases f with
 | zero=>intro w' hw';exact h w' (nf hb hw')
 | succ f=>intro w' hw';exact h w' (nf hb hw')
theorem l9:∀(f:Nat)(listed:Array Bool)(a:Act)(w:World),lg P md ops C Q f listed a w->wpAny P md ops Q f listed a w
 | 0,_,_,w,h=>(h w (ak _ _)).2
 | f+1,_,_,w,h=>⟨(h w (ak _ _)).2.1,λi hi=>wpOp_mono (λa' w' h'=>l9 f _ a' w' h') ((h w (ak _ _)).2.2 i hi)⟩

def YG(P:Program)(ops:Array Oper)(C:World->Prop)(o:Oper)(v:Value)(a:Act):Prop:=
 (Region.wanted o (yielded ops a.tmps)=true/\∀w,C w->fi P o a w v)\/(Region.wanted o (yielded ops a.tmps)=false/\v=undef)
theorem YG.same{o:Oper}{v:Value}{a a':Act}(hy:YG P ops C o v a)(he:execOp a'.eval o=execOp a.eval o)(hw:Region.wanted o (yielded ops a'.tmps)=Region.wanted o (yielded ops a.tmps)):YG P ops C o v a':=by
 unfold YG fi at *;rw[he,hw];exact hy
theorem YG.wpOp{i:Nat}{o:Oper}{v:Value}{a:Act}(hi:ops[i]? = some o)(hy:YG P ops C o v a){K:Act->World->Prop}{w:World}(hC:C w)
  (h:∀w',Below w.heap.size w w'->K (a.put o.dst v) w'):wpOp P ops Q i K a w:=by
 unfold Go.wpOp;simp only[hi];rcases hy with⟨hw,hv⟩|⟨hw,rfl⟩
 ·simp only[hw,if_true]
  refine .inl ?_;have h1:=hv w hC;unfold fi at h1;unfold Oper.wp;generalize (execOp a.eval o).run P w=r at *
  cases r with
  | ok n w'=>
   cases n<;>simp only[pg]at h1<;>simp only[Oper.upon]
   case value u=>obtain⟨e1,e2⟩:=h1;rw[e1];exact h _ e2
   case enter f args=>
    obtain⟨e1,hc⟩:=h1;rw[e1]
    exact hc.mono λe w'' ⟨he,hw''⟩=>by subst he;exact h _ hw''
  | halt x w'=>simp only[pg]at h1
 ·simp only[hw,Bool.false_eq_true,if_false];exact h _ (ak _ _)

theorem yo{j:Nat}{oi oj:Oper}{v:Value}(hj:ops[j]? = some oj)(hap:oi.apart ops oj=true)(hsi:∀cs b,oi.op≠.select cs b)(hsj:∀cs b,oj.op≠.select cs b)
  (hQ:∀c a w,Q (.panic c) (a.put oi.dst v) w->Q (.panic c) a w) {K:Act->World->Prop} {a:Act} {w:World} (hy:YG P ops C oi v a) (h:wpOp P ops Q j K (a.put oi.dst v) w):
  wpOp P ops Q j (λa' w'=>YG P ops C oi v a'/\K (a'.put oi.dst v) w') a w:=by
 obtain⟨h1,h2,h3⟩:=Oper.apart_spec hap;have keepY:∀(a:Act),YG P ops C oi v a->∀u,YG P ops C oi v (a.put oj.dst u):=λa hy u=>hy.same (execOp_put oi hsi a oj.dst u h3) (wanted_put oi a oj.dst u h3);unfold wpOp at *;simp only[hj]at *;rw[wanted_put oj a oi.dst v h1]at h
 split
 ·rename_i hw
  simp only[hw,if_true]at h;rcases h with h|⟨hasks,hlets⟩
  case inr=>exact .inr ⟨by unfold Oper.asks at *;rw[execOp_put oj hsj a oi.dst v h1]at hasks;exact hasks,hlets⟩
  refine .inl ?_;unfold Oper.wp at *;rw[execOp_put oj hsj a oi.dst v h1]at h;generalize (execOp a.eval oj).run P w=r at *
  cases r with
  | ok n w'=>
   cases n<;>simp only[Oper.upon]at h ⊢
   case value u=>exact⟨keepY a hy u,by rw[<-Act.put_comm a v u h2];exact h⟩
   case skip=>exact⟨keepY a hy _,by rw[<-Act.put_comm a v undef h2];exact h⟩
   case defer d=>
    have hyd:YG P ops C oi v { a with defers:=d :: a.defers }:=hy.same rfl rfl;refine⟨keepY _ hyd _,?_⟩;rw[<-Act.put_comm _ v undef h2,<-Act.put_defers];exact h
   case enter f args=>
    refine Calls.mono h λe w'' he=>?_
    cases e with
    | returned u=>exact⟨keepY a hy u,by rw[<-Act.put_comm a v u h2];exact he⟩
    | panicked c=>exact hQ _ _ _ he
    | outgrown=>exact he
   case row row args=>exact Rows.mono h λu w'' he=>⟨keepY a hy u,by rw[<-Act.put_comm a v u h2];exact he⟩
  | halt x w'=>
   cases x<;>simp only[Oper.upon]at h ⊢
   case panic u=>exact hQ _ _ _ h
 ·rename_i hw
  simp only[hw]at h;exact⟨keepY a hy _,by rw[<-Act.put_comm a v undef h2];exact h⟩

theorem oU{i:Nat}{oi:Oper}{v:Value}(hi:ops[i]? = some oi)(hsel:∀(j:Nat) (o:Oper) cs b,ops[j]? = some o->o.op≠.select cs b)(hQ:∀c a w,Q (.panic c) (a.put oi.dst v) w->Q (.panic c) a w):
  ∀(f:Nat)(listed:Array Bool)(a:Act)(w:World),
   (∀j oj,ops[j]? = some oj->j≠i->listed.getD j true=false->(∀e∈oj.after,Region.binds md e=true->e.on≠i)->oi.apart ops oj=true)->
   i∈Region.ready md ops listed->YG P ops C oi v a->
   lg P md ops C Q f (listed.setIfInBounds i true) (a.put oi.dst v) w->lg P md ops C Q (f+1) listed a w:=by
 intro f
 induction f with
 | zero=>
  intro listed a w _ hr hy H w' hw';have H':=H w' hw';refine⟨H'.1,λh=>(by rw[h]at hr;cases hr),λj hj=>?_⟩
  by_cases hji:j=i
  ·subst hji;exact hy.wpOp hi H'.1 λw'' hb=>jM (jM (f:=0) H hw') hb
  ·have:=ready_mono hj hji
   rw[H'.2.1]at this;cases this
 | succ f ih=>
  intro listed a w hfree hr hy H w' hw';have H':=H w' hw';refine⟨H'.1,λh=>(by rw[h]at hr;cases hr),λj hj=>?_⟩
  by_cases hji:j=i
  ·subst hji;exact hy.wpOp hi H'.1 λw'' hb=>jM (jM (f:=f+1) H hw') hb
  ·have h1:=H'.2.2 j (ready_mono hj hji)
   obtain⟨hjun,oj,hoj,hall⟩:=mem_ready.1 hj
   have hnot:∀e∈oj.after,Region.binds md e=true->e.on≠i:=λe he hb heq=>by
    have h1:=hall e he hb;have h0:=(mem_ready.1 hr).1;rw[heq,getD_both h0]at h1;cases h1
   have h2:=yo hoj (hfree j oj hoj hji hjun hnot) (λcs b=>hsel i oi cs b hi) (λcs b=>hsel j oj cs b hoj) hQ hy h1;refine wpOp_mono (λa' w'' h3=>ih (listed.setIfInBounds j true) a' w'' (λk ok hk hki hun hno=>hfree k ok hk hki ?_ hno) (ready_mono hr (Ne.symm hji)) h3.1 ?_) h2
   ·by_cases hjk:j=k
    ·subst hjk;exact hjun
    ·rw[getD_set_ne true hjk]at hun;exact hun
   ·rw[Array.setIfInBounds_comm _ _ hji]
    exact h3.2

def ij(P:Program)(ops:Array Oper)(C:World->Prop)(R:Act->Prop):List Oper->Act->Prop
 | [],a=>R a
 | o :: rest,a=>if Region.wanted o (yielded ops a.tmps) then ∃v,(∀w,C w->fi P o a w v)/\ij P ops C R rest (a.put o.dst v) else ij P ops C R rest (a.put o.dst undef)
def xF(md:Region.Mode)(ops:Array Oper):Nat->Nat->Array Bool->Bool
 | 0,_,_=>true
 | f+1,k,listed=>(Region.ready md ops listed).contains k && Region.free md ops listed k && xF md ops f (k+1) (listed.setIfInBounds k true)
def kJ(k:Nat):Nat->Array Bool->Array Bool
 | 0,listed=>listed
 | f+1,listed=>kJ (k+1) f (listed.setIfInBounds k true)
theorem sY{g:Nat}{R:Act->Prop}{w:World}(hs:Region.noSelect ops=true)(hQ:∀c a d v w,Q (.panic c) (Act.put a d v) w->Q (.panic c) a w):
  ∀(l:List Oper)(k:Nat)(listed:Array Bool)(a:Act),(∀j,j<l.length->l[j]? = ops[k+j]?)->xF md ops l.length k listed=true->
   (∀a',R a'->lg P md ops C Q g (kJ k l.length listed) a' w)->ij P ops C R l a->lg P md ops C Q (l.length+g) listed a w:=by
 intro l
 induction l with
 | nil=>intro k listed a _ _ hR h;rw[List.length_nil,Nat.zero_add];exact hR a h
 | cons o l ih=>
  intro k listed a hl hB hR h
  have h0:ops[k]? = some o:=by simpa using(hl 0 (by simp)).symm
  simp only[List.length_cons,xF,Bool.and_eq_true]at hB;obtain⟨⟨hr,hf⟩,hB'⟩:=hB
  have hl':∀j,j<l.length->l[j]? = ops[k+1+j]? := λj hj=>by have:=hl (j+1) (by simp<;>omega);simpa[Nat.add_assoc,Nat.add_comm 1 j] using this
  rw[show(o :: l).length+g=(l.length+g)+1 by simp only[List.length_cons];omega];simp only[ij]at h
  by_cases hw:Region.wanted o (yielded ops a.tmps)=true
  ·rw[ag hw]at h
   obtain⟨v,hv,h'⟩:=h;exact oU h0 (Region.noSelect_spec hs) (λc a w=>hQ c a _ _ w) _ listed a w (Region.free_spec h0 hf) (by simpa using hr) (.inl ⟨hw,hv⟩) (ih (k+1) _ _ hl' hB' hR h')
  ·rw[af hw]at h
   exact oU h0 (Region.noSelect_spec hs) (λc a w=>hQ c a _ _ w) _ listed a w (Region.free_spec h0 hf) (by simpa using hr) (.inr ⟨by simpa using hw,rfl⟩) (ih (k+1) _ _ hl' hB' hR h)
def noP(Q:Exit->Act->World->Prop):Exit->Act->World->Prop
 | .panic _,_,_=>False
 | e,a,w=>Q e a w
theorem mS(e:Exit)(a:Act)(w:World)(h:noP Q e a w):Q e a w:=by
 cases e<;>first|exact h|exact False.elim h
theorem i6{id:Nat}{a:Act}{w:World}{l:List Oper}(n:Nat)(C:World->Prop)(hm:P.follows .mixedOrders=true)(hs:Region.noSelect l.toArray=true)
  (hn:n<=l.length) (hB:xF .any l.toArray n 0 (Array.replicate l.toArray.size false)=true)
  (h:ij P l.toArray C (λa'=>lg P .any l.toArray C (noP Q) (l.length - n) (kJ 0 n (Array.replicate l.toArray.size false)) a' w.drew) (l.take n) a):(Code.region id l.toArray true).wp P Q a w:=by
 refine wp_mono (Q:=noP Q) ?_ mS;refine wp_region_any hm ?_
 have htl:(l.take n).length=n:=by simp<;>omega
 have:=sY (md:=.any) (g:=l.length - n) (w:=w.drew) hs (λ_ _ _ _ _ h=>h) (l.take n) 0 (Array.replicate l.toArray.size false) a (λj hj=>by
  have hj':j<n:=by rw[htl]at hj;exact hj
  simp[hj']) (by rw[htl];exact hB) (by rw[htl];exact λa' h=>h) h
 rw[htl,show n+(l.length - n)=l.toArray.size by simp<;>omega]at this
 exact l9 _ _ _ _ this

theorem oh{R:Act->Prop}{a:Act}(h:R a):ij P ops C R [] a:=h
theorem bP{R:Act->Prop}{a:Act}{o:Oper}{rest:List Oper}(hw:Region.wanted o (yielded ops a.tmps)=true)(v:Value)(hv:∀w,C w->fi P o a w v)
  (h:∀K:Act->Prop,(∀a,ij P ops C R rest a->K a)->K (a.put o.dst v)):ij P ops C R (o :: rest) a:=by
 simp only[ij,hw,if_true];exact⟨v,hv,h _ λ_ h=>h⟩
theorem aE{o:Oper}{a:Act}{w:World}{v:Value}(h:(execOp a.eval o).run P w=.ok (.value v) w):fi P o a w v:=by
 unfold fi;rw[h];exact⟨rfl,ak _ _⟩
theorem fF{o:Oper}{a:Act}{w:World}(ty:TypeId)(x:Operand)(ho:o.op=.load ty x)(b:Nat)(hx:a.eval x=.pointer (some ⟨b,0,none⟩))(t:TypeId)(cs:Array Value)(fr:Nat×Nat)(d:TypeDesc)
  (hb:w.heap[b]? = some (.cells cs t fr)) (hu:P.underlying ty=some d) (hd:(match d with|.struct _|.array _ _=>true|_=>false)=true) (hi:(P.info? ty).map (·.size)=some cs.size):fi P o a w (.agg cs):=
 aE (by
  unfold execOp
  simp only[ho,hx,Instr.loadAt,Instr.sureAddr,Sem.run_bind,Sem.run_pure,Result.andThen_ok,run_loadVar_row w b t ty cs fr d hb hu hd hi])
theorem hH{f:Nat}{listed:Array Bool}{a:Act}{w:World}(rs:List Nat)(hr:Region.ready md ops listed=rs)(hne:rs≠[])
  (h:∀w',Below w.heap.size w w'->C w'/\∀i∈rs,wpOp P ops Q i (lg P md ops C Q f (listed.setIfInBounds i true)) a w'):lg P md ops C Q (f+1) listed a w:=
 λw' hw'=>⟨(h w' hw').1,λh0=>absurd (hr▸h0) hne,λi hi=>(h w' hw').2 i (hr▸hi)⟩
theorem fB{f:Nat}{listed:Array Bool}{a:Act}{w:World}(hr:Region.ready md ops listed=[])(h:∀w',Below w.heap.size w w'->C w'/\Q .normal a w'):lg P md ops C (noP Q) f listed a w:=by
 cases f with
 | zero=>exact λw' hw'=>⟨(h w' hw').1,hr,(h w' hw').2⟩
 | succ f=>exact λw' hw'=>⟨(h w' hw').1,λ_=>(h w' hw').2,λi hi=>by rw[hr]at hi;cases hi⟩
theorem dK{i:Nat}{K:Act->World->Prop}{o:Oper}{a:Act}{w:World}(hi:ops[i]? = some o)(hgd:o.guard=none)(ty:TypeId)(ho:o.op=.alloc ty)(z:Value)(cs:Array Value)(hz:∀w,(zeroValue ty).run P w=.ok z w)(hcs:z.cells=cs)
  (h:∀(w':World)(b:Nat),w'.heap[b]? = some (.cells cs ty (0,0))->Below w.heap.size w w'->Hid (b=w.heap.size)->K (a.put o.dst (.pointer (some ⟨b,0,none⟩))) w'):wpOp P ops Q i K a w:=by
 unfold wpOp;simp only[hi]
 have hw:Region.wanted o (yielded ops a.tmps)=true:=by simp[Region.wanted,hgd]
 rw[ag hw];refine .inl ?_;unfold Oper.wp execOp
 have hr:(Instr.alloc ty true (.tuple #[])).run P w=.ok (.pointer (some ⟨w.heap.size,0,none⟩)) (w.alloc (.cells cs ty)):=by
  unfold Instr.alloc;simp only[Sem.run_bind,hz,Result.andThen_ok];simp only[newVar,newRow,hcs];rfl
 simp only[ho,Sem.run_bind,hr,Result.andThen_ok];exact h _ _ (heap_alloc_new w _) ((ak _ _).alloc (ah _) _) rfl
theorem bZ{i:Nat}{K:Act->World->Prop}{o:Oper}{a:Act}{w:World}(hi:ops[i]? = some o)(hgd:o.guard=none)(ty:TypeId)(x y:Operand)(ho:o.op=.store ty x y)(b:Nat)(cs:Array Value)(hx:a.eval x=.pointer (some ⟨b,0,none⟩))(hy:a.eval y=.agg cs)
  (t:TypeId) (old:Array Value) (hg:w.heap[b]? = some (.cells old t (0,0))) (hin:(P.info? ty).map (·.size)=some cs.size) (hold:old.size=cs.size) (h1:cs.all (·.oneCell')=true)
  (h:∀w':World,w'.heap[b]? = some (.cells cs t (0,0))->(∀k,k≠b->w'.heap[k]? = w.heap[k]?)->(∀B,B<=b->Below B w w')->K (a.put o.dst undef) w'):wpOp P ops Q i K a w:=by
 unfold wpOp;simp only[hi]
 have hw:Region.wanted o (yielded ops a.tmps)=true:=by simp[Region.wanted,hgd]
 rw[ag hw];refine .inl ?_
 have hB:∀k,k≠b->(w.setRow b cs).heap[k]? = w.heap[k]? := λk hk=>setRow_other w b k cs hk
 refine wp_store_row ty x y ho b cs hx hy t old hg hin hold h1 ?_;exact h _ (setRow_heap w b old cs t (0,0) hg) hB (λB hB'=>⟨rfl,rfl,rfl,by simp,λk hk=>hB k (by omega)⟩)
theorem Zr{o:Oper}{rest:List Oper}{a a':Act}{R:Act->Prop}{v:Value}(h:ij P ops C R rest a')(hv:∀w,C w->(execOp a.eval o).run P w=.ok (.value v) w:=by intro w' h';go_simp;try with_reducible rfl)(ha:a.put o.dst v=a':=by go_simp;try rfl)(hw:Region.wanted o (yielded ops a.tmps)=true:=by rfl):ij P ops C R (o :: rest) a:=by subst ha;exact bP hw v (λw h'=>aE (hv w h')) λK hK=>hK _ h
theorem ZG{f:Nat}{listed:Array Bool}{a:Act}{w:World}(k:Nat)(h:∀w',Below w.heap.size w w'->C w'/\wpOp P ops Q k (lg P md ops C Q f (listed.setIfInBounds k true)) a w')(hr:Region.ready md ops listed=[k]:=by kernel_rfl):lg P md ops C Q (f+1) listed a w:=hH [k] hr (by simp) λw' hw=>⟨(h w' hw).1,λi hi=>by
 rw[List.mem_singleton]at hi;subst hi;exact(h w' hw).2⟩
end
section
variable {P:Program} {ops:Array Oper} {md:Region.Mode} {Q:Exit->Act->World->Prop} {D:World->Prop}
def Closed(md:Region.Mode)(ops:Array Oper)(listed:Array Bool):Prop:=∀j oj,ops[j]? = some oj->listed.getD j false=true->∀e∈oj.after,Region.binds md e=true->listed.getD e.on false=true
def anc(md:Region.Mode)(ops:Array Oper):Nat->Nat->List Nat
 | 0,_=>[]
 | f+1,j=>match ops[j]? with
  | none=>[]
  | some o=>(o.after.toList.filter (Region.binds md)).flatMap λe=>e.on :: anc md ops f e.on
theorem oS{listed:Array Bool}(hc:Closed md ops listed):∀(f j:Nat)(oj:Oper),ops[j]? = some oj->(∀e∈oj.after,Region.binds md e=true->listed.getD e.on false=true)->∀x∈anc md ops f j,listed.getD x false=true:=by
 intro f
 induction f with
 | zero=>intro j oj _ _ x hx;cases hx
 | succ f ih=>
  intro j oj hj hall x hx;simp only[anc,hj]at hx;obtain⟨e,he,hx⟩:=List.mem_flatMap.1 hx;obtain⟨he1,he2⟩:=List.mem_filter.1 he;have h1:=hall e (by simpa using he1) he2;rcases List.mem_cons.1 hx with rfl|hx
  ·exact h1
  ·cases ho:ops[e.on]? with
   | none=>cases f with
    | zero=>cases hx
    | succ f=>simp[anc,ho]at hx
   | some oe=>exact ih e.on oe ho (hc e.on oe ho h1) x hx
theorem Closed.set{listed:Array Bool}(hc:Closed md ops listed){j:Nat}(hj:j∈Region.ready md ops listed):Closed md ops (listed.setIfInBounds j true):=by
 obtain⟨hjun,oj,hoj,hall⟩:=mem_ready.1 hj;intro k ok hk hl e he hb
 have up:∀x,listed.getD x false=true->(listed.setIfInBounds j true).getD x false=true:=λx hx=>by
  by_cases e:j=x
  ·subst e;rw[getD_both hjun]at hx;cases hx
  ·rw[getD_set_ne false e];exact hx
 by_cases e1:j=k
 ·subst e1
  obtain rfl:=Option.some.inj (hoj.symm.trans hk);exact up _ (hall e he hb)
 ·rw[getD_set_ne false e1]at hl
  exact up _ (hc k ok hk hl e he hb)
def dU(P:Program)(md:Region.Mode)(ops:Array Oper)(D:World->Prop)(m:Nat)(Q:Exit->Act->World->Prop):Nat->Array Bool->Act->World->Prop
 | 0,listed,a,w=>∀w',Below w.heap.size w w'->(listed.getD m false=false->D w')/\Region.ready md ops listed=[]/\Q .normal a w'
 | f+1,listed,a,w=>∀w',Below w.heap.size w w'->(listed.getD m false=false->D w')/\(Region.ready md ops listed=[]->Q .normal a w')/\
   ∀i∈Region.ready md ops listed,wpOp P ops Q i (dU P md ops D m Q f (listed.setIfInBounds i true)) a w'
theorem jy{m f:Nat}{listed:Array Bool}{a:Act}{w w1:World}(h:dU P md ops D m Q f listed a w)(hb:Below w.heap.size w w1):dU P md ops D m Q f listed a w1:=by
 cases f with
 | zero=>intro w' hw';exact h w' (nf hb hw')
 | succ f=>intro w' hw';exact h w' (nf hb hw')
theorem iq{m:Nat}:∀(f:Nat)(listed:Array Bool)(a:Act)(w:World),dU P md ops D m Q f listed a w->wpAny P md ops Q f listed a w
 | 0,_,_,w,h=>(h w (ak _ _)).2
 | f+1,_,_,w,h=>⟨(h w (ak _ _)).2.1,λi hi=>wpOp_mono (λa' w' h'=>iq f _ a' w' h') ((h w (ak _ _)).2.2 i hi)⟩
theorem kz{m i:Nat}{E:World->Prop}{oi:Oper}{v:Value}(hi:ops[i]? = some oi)(hsel:∀(j:Nat) (o:Oper) cs b,ops[j]? = some o->o.op≠.select cs b)(hQ:∀c a w,Q (.panic c) (a.put oi.dst v) w->Q (.panic c) a w)
  (hE:∀(listed:Array Bool)(w:World),Closed md ops listed->listed.getD i true=false->((listed.setIfInBounds i true).getD m false=false->D w)->E w):
  ∀(f:Nat)(listed:Array Bool)(a:Act)(w:World),Closed md ops listed->
   (∀j oj,ops[j]? = some oj->j≠i->listed.getD j true=false->(∀e∈oj.after,Region.binds md e=true->e.on≠i)->oi.apart ops oj=true)->
   i∈Region.ready md ops listed->YG P ops E oi v a->
   dU P md ops D m Q f (listed.setIfInBounds i true) (a.put oi.dst v) w->((listed.setIfInBounds i true).getD m false=listed.getD m false)->dU P md ops D m Q (f+1) listed a w:=by
 intro f
 induction f with
 | zero=>
  intro listed a w hcl _ hr hy H hm w' hw';have H':=H w' hw';refine⟨λh=>H'.1 (hm.trans h),λh=>(by rw[h]at hr;cases hr),λj hj=>?_⟩
  by_cases hji:j=i
  ·subst hji;exact hy.wpOp hi (hE listed w' hcl (mem_ready.1 hr).1 H'.1) λw'' hb=>jy (jy (f:=0) H hw') hb
  ·have:=ready_mono hj hji
   rw[H'.2.1]at this;cases this
 | succ f ih=>
  intro listed a w hcl hfree hr hy H hm w' hw';have H':=H w' hw';refine⟨λh=>H'.1 (hm.trans h),λh=>(by rw[h]at hr;cases hr),λj hj=>?_⟩
  by_cases hji:j=i
  ·subst hji;exact hy.wpOp hi (hE listed w' hcl (mem_ready.1 hr).1 H'.1) λw'' hb=>jy (jy (f:=f+1) H hw') hb
  ·have h1:=H'.2.2 j (ready_mono hj hji)
   obtain⟨hjun,oj,hoj,hall⟩:=mem_ready.1 hj
   have hnot:∀e∈oj.after,Region.binds md e=true->e.on≠i:=λe he hb heq=>by
    have h1:=hall e he hb;have h0:=(mem_ready.1 hr).1;rw[heq,getD_both h0]at h1;cases h1
   have h2:=yo hoj (hfree j oj hoj hji hjun hnot) (λcs b=>hsel i oi cs b hi) (λcs b=>hsel j oj cs b hoj) hQ hy h1;refine wpOp_mono (λa' w'' h3=>ih (listed.setIfInBounds j true) a' w'' (hcl.set hj) (λk ok hk hki hun hno=>hfree k ok hk hki ?_ hno) (ready_mono hr (Ne.symm hji)) h3.1 ?_ ?_) h2
   ·by_cases hjk:j=k
    ·subst hjk;exact hjun
    ·rw[getD_set_ne true hjk]at hun;exact hun
   ·rw[Array.setIfInBounds_comm _ _ hji]
    exact h3.2
   ·by_cases him:i=m
    ·subst him
     have h0:=(mem_ready.1 hr).1;rw[getD_both h0]at hm
     have hlt:i<listed.size:=by
      by_cases hlt:i<listed.size
      ·exact hlt
      ·rw[Array.getD_eq_getD_getElem?,Array.getElem?_eq_none (by omega)]at h0;cases h0
     rw[Array.getD_eq_getD_getElem?,Array.getElem?_setIfInBounds_self_of_lt hlt]at hm;cases hm
    ·rw[getD_set_ne false him]
def fI(P:Program)(md:Region.Mode)(ops:Array Oper)(D:World->Prop)(m F:Nat)(R:Act->Prop):Nat->List Oper->Act->Prop
 | _,[],a=>R a
 | k,o :: rest,a=>Region.wanted o (yielded ops a.tmps)=true/\∃v,(((anc md ops F m).contains k=true/\∀w,D w->fi P o a w v)\/∀w,fi P o a w v)/\fI P md ops D m F R (k+1) rest (a.put o.dst v)
def Dk(md:Region.Mode)(ops:Array Oper)(m:Nat):Nat->Nat->Array Bool->Bool
 | 0,_,_=>true
 | f+1,k,listed=>(Region.ready md ops listed).contains k && Region.free md ops listed k && (k != m) && Dk md ops m f (k+1) (listed.setIfInBounds k true)
theorem Az{g m F:Nat}{R:Act->Prop}{w:World}(hs:Region.noSelect ops=true)(hQ:∀c a d v w,Q (.panic c) (Act.put a d v) w->Q (.panic c) a w)(om:Oper)(hm:ops[m]? = some om):
  ∀(l:List Oper)(k:Nat)(listed:Array Bool)(a:Act),Closed md ops listed->(∀j,j<l.length->l[j]? = ops[k+j]?)->Dk md ops m l.length k listed=true->
   (∀a',R a'->dU P md ops D m Q g (kJ k l.length listed) a' w)->fI P md ops D m F R k l a->dU P md ops D m Q (l.length+g) listed a w:=by
 intro l
 induction l with
 | nil=>intro k listed a _ _ _ hR h;rw[List.length_nil,Nat.zero_add];exact hR a h
 | cons o l ih=>
  intro k listed a hcl hl hB hR h
  have h0:ops[k]? = some o:=by simpa using(hl 0 (by simp)).symm
  simp only[List.length_cons,Dk,Bool.and_eq_true,bne_iff_ne,ne_eq]at hB;obtain⟨⟨⟨hr,hf⟩,hne⟩,hB'⟩:=hB
  have hr':k∈Region.ready md ops listed:=by simpa using hr
  have hl':∀j,j<l.length->l[j]? = ops[k+1+j]? := λj hj=>by have:=hl (j+1) (by simp<;>omega);simpa[Nat.add_assoc,Nat.add_comm 1 j] using this
  rw[show(o :: l).length+g=(l.length+g)+1 by simp only[List.length_cons];omega];simp only[fI]at h;obtain⟨hw,v,hv,h'⟩:=h;have next:=ih (k+1) _ _ (hcl.set hr') hl' hB' hR h';have hmm:(listed.setIfInBounds k true).getD m false=listed.getD m false:=getD_set_ne false hne;rcases hv with⟨hanc,hv⟩|hv
  ·refine kz (E:=D) h0 (Region.noSelect_spec hs) (λc a w=>hQ c a _ _ w) (λlisted w hcl hun hD=>hD ?_) _ listed a w hcl (Region.free_spec h0 hf) hr' (.inl ⟨hw,hv⟩) next hmm
   rw[getD_set_ne false hne]
   cases hlm:listed.getD m false with
   | false=>rfl
   | true=>
    have:=oS hcl F m om hm (hcl m om hm hlm) k (by simpa using hanc);rw[getD_both hun]at this;cases this
  ·exact kz (E:=λ_=>True) h0 (Region.noSelect_spec hs) (λc a w=>hQ c a _ _ w) (λ_ _ _ _ _=>trivial) _ listed a w hcl (Region.free_spec h0 hf) hr' (.inl ⟨hw,λw _=>hv w⟩) next hmm
theorem bR{id:Nat}{a:Act}{w:World}{l:List Oper}(n m F:Nat)(D:World->Prop)(om:Oper)(hom:l.toArray[m]? = some om)(hm:P.follows .mixedOrders=true)(hs:Region.noSelect l.toArray=true)
  (hn:n<=l.length) (hB:Dk .any l.toArray m n 0 (Array.replicate l.toArray.size false)=true)
  (h:fI P .any l.toArray D m F (λa'=>dU P .any l.toArray D m (noP Q) (l.length - n) (kJ 0 n (Array.replicate l.toArray.size false)) a' w.drew) 0 (l.take n) a):(Code.region id l.toArray true).wp P Q a w:=by
 refine wp_mono (Q:=noP Q) ?_ mS;refine wp_region_any hm ?_
 have htl:(l.take n).length=n:=by simp<;>omega
 have hc0:Closed .any l.toArray (Array.replicate l.toArray.size false):=λj oj _ hl=>by rw[getD_replicate_false]at hl;cases hl
 have:=Az (md:=.any) (g:=l.length - n) (m:=m) (F:=F) (w:=w.drew) hs (λ_ _ _ _ _ h=>h) om hom (l.take n) 0 (Array.replicate l.toArray.size false) a hc0 (λj hj=>by
  have hj':j<n:=by rw[htl]at hj;exact hj
  simp[hj']) (by rw[htl];exact hB) (by rw[htl];exact λa' h=>h) h
 rw[htl,show n+(l.length - n)=l.toArray.size by simp<;>omega]at this
 exact iq _ _ _ _ this
theorem gJ{m F k:Nat}{R:Act->Prop}{a:Act}(h:R a):fI P md ops D m F R k [] a:=h
theorem bm{m F k:Nat}{R:Act->Prop}{a:Act}{o:Oper}{rest:List Oper}(hw:Region.wanted o (yielded ops a.tmps)=true)(hanc:(anc md ops F m).contains k=true)(v:Value)(hv:∀w,D w->fi P o a w v)
  (h:∀K:Act->Prop,(∀a,fI P md ops D m F R (k+1) rest a->K a)->K (a.put o.dst v)):fI P md ops D m F R k (o :: rest) a:=by
 simp only[fI];exact⟨hw,v,.inl ⟨hanc,hv⟩,h _ λ_ h=>h⟩
theorem jK{m F k:Nat}{R:Act->Prop}{a:Act}{o:Oper}{rest:List Oper}(hw:Region.wanted o (yielded ops a.tmps)=true)(v:Value)(hv:∀w,fi P o a w v)
  (h:∀K:Act->Prop,(∀a,fI P md ops D m F R (k+1) rest a->K a)->K (a.put o.dst v)):fI P md ops D m F R k (o :: rest) a:=by
 simp only[fI];exact⟨hw,v,.inr hv,h _ λ_ h=>h⟩
theorem pR{m f:Nat}{listed:Array Bool}{a:Act}{w:World}(rs:List Nat)(hr:Region.ready md ops listed=rs)(hne:rs≠[])
  (h:∀w',Below w.heap.size w w'->(listed.getD m false=false->D w')/\∀i∈rs,wpOp P ops Q i (dU P md ops D m Q f (listed.setIfInBounds i true)) a w'):dU P md ops D m Q (f+1) listed a w:=
 λw' hw'=>⟨(h w' hw').1,λh0=>absurd (hr▸h0) hne,λi hi=>(h w' hw').2 i (hr▸hi)⟩
theorem bl{m f:Nat}{listed:Array Bool}{a:Act}{w:World}(hr:Region.ready md ops listed=[])(hl:listed.getD m false=true)(h:∀w',Below w.heap.size w w'->Q .normal a w'):dU P md ops D m (noP Q) f listed a w:=by
 cases f with
 | zero=>exact λw' hw'=>⟨λe=>(by rw[hl]at e;cases e),hr,h w' hw'⟩
 | succ f=>exact λw' hw'=>⟨λe=>(by rw[hl]at e;cases e),λ_=>h w' hw',λi hi=>by rw[hr]at hi;cases hi⟩
theorem Zf{m F k:Nat}{R:Act->Prop}{a a':Act}{o:Oper}{rest:List Oper}{v:Value}(h:fI P md ops D m F R (k+1) rest a')(hv:∀w,(execOp a.eval o).run P w=.ok (.value v) w:=by intro w';go_simp;try with_reducible rfl)(ha:a.put o.dst v=a':=by go_simp;try rfl)(hw:Region.wanted o (yielded ops a.tmps)=true:=by rfl):fI P md ops D m F R k (o :: rest) a:=by subst ha;exact jK hw v (λw=>aE (hv w)) λK hK=>hK _ h
theorem ZM{m f:Nat}{listed:Array Bool}{a:Act}{w:World}(k:Nat)(h:∀w',Below w.heap.size w w'->(listed.getD m false=false->D w')/\wpOp P ops Q k (dU P md ops D m Q f (listed.setIfInBounds k true)) a w')(hr:Region.ready md ops listed=[k]:=by kernel_rfl):dU P md ops D m Q (f+1) listed a w:=pR [k] hr (by simp) λw' hw=>⟨(h w' hw).1,λi hi=>by
 rw[List.mem_singleton]at hi;subst hi;exact(h w' hw).2⟩
end
end Go.Proofs.YtldlcnaphednnaaGreatDoor
