/- General lemmas: operations of a list, of a drawn region; new blocks as letters. No program in sight. A builder of code in memory: its code, places and links. The builder's own calls that add an instruction. The builder's calls. -/
import Derived.Test.YtldlcnaphednnaaGreatDoorM01
import Derived.Laws.ResultCell
import Derived.Test.YtldlcnaphednnaaGreatDoorChecked
import Derived.Maps.Own
import Derived.Maps.OwnOps
import Derived.Maps.OwnSet
import Derived.Maps.AppendAt
import Derived.Carry
import Derived.Below
set_option maxRecDepth 100000
set_option maxHeartbeats 32000000
set_option linter.unusedVariables false
set_option linter.unusedSimpArgs false
namespace Go.Proofs.YtldlcnaphednnaaGreatDoor
open Go.RowKit
theorem bX(b off j:Nat):(⟨b,off,none⟩:Addr).add j=⟨b,off+j,none⟩:=by unfold Addr.add;split<;>simp_all
section
variable {ops:Array Oper} {Q:Exit->Act->World->Prop}
theorem aG{P:Program}{rest:List Oper}{o:Oper}{a:Act}{w:World}(hgd:o.guard=none)(v:Value)(h:(execOp a.eval o).run P w=.ok (.value v) w)(hK:∀K:Act->World->Prop,(∀a w,wpList P ops Q rest a w->K a w)->K (a.put o.dst v) w):wpList P ops Q (o :: rest) a w:=by
 refine wpList_plain hgd λK hK'=>?_
 unfold Oper.wp;rw[h];exact hK K hK'
theorem rJ{P:Program}{rest:List Oper}{o:Oper}{a:Act}{w:World}(hgd:o.guard=none)(g:FuncId)(args:Array Value)(v:Value)(R:World->Prop)(h:(execOp a.eval o).run P w=.ok (.enter g args) w)
  (hc:Calls P g args w λe w'=>e=.returned v/\R w') (hK:∀w',R w'->∀K:Act->World->Prop,(∀a w,wpList P ops Q rest a w->K a w)->K (a.put o.dst v) w'):wpList P ops Q (o :: rest) a w:=by
 refine wpList_plain hgd λK hK'=>?_
 unfold Oper.wp;rw[h,Oper.upon_enter]
 refine hc.mono λe w' hr=>?_
 obtain⟨rfl,hr⟩:=hr;exact hK w' hr K hK'
theorem aP{P:Program}{rest:List Oper}{o:Oper}{a:Act}{w:World}(hgd:o.guard=none)(g:FuncId)(args:Array Value)(R:Value->World->Prop)(h:(execOp a.eval o).run P w=.ok (.enter g args) w)
  (hc:Calls P g args w λe w'=>∃v,e=.returned v/\R v w') (hK:∀v w',R v w'->∀K:Act->World->Prop,(∀a w,wpList P ops Q rest a w->K a w)->K (a.put o.dst v) w'):wpList P ops Q (o :: rest) a w:=by
 refine wpList_plain hgd λK hK'=>?_
 unfold Oper.wp;rw[h,Oper.upon_enter]
 refine hc.mono λe w' hr=>?_
 obtain⟨v,rfl,hr⟩:=hr;exact hK v w' hr K hK'
end
theorem lW(w:World)(c1 c2:Array Value)(t1 t2:TypeId):∃W b1 b2,(w.alloc (.cells c1 t1)).alloc (.cells c2 t2)=W/\w.heap.size=b1/\w.heap.size+1=b2/\W.heap[b1]? = some (.cells c1 t1 (0,0))/\W.heap[b2]? = some (.cells c2 t2 (0,0))/\Below w.heap.size w W:=
 ⟨_,_,_,rfl,rfl,rfl,keep (heap_alloc_new w _) ((ak _ _).alloc (ah _) _),by simpa using heap_alloc_new (w.alloc (.cells c1 t1)) (.cells c2 t2),((ak _ _).alloc (ah _) _).alloc (by simp) _⟩
theorem aO(w:World)(c1:Array Value)(t1:TypeId):∃W b1,w.alloc (.cells c1 t1)=W/\w.heap.size=b1/\W.heap[b1]? = some (.cells c1 t1 (0,0))/\Below w.heap.size w W:=
 ⟨_,_,rfl,rfl,heap_alloc_new w _,(ak _ _).alloc (ah _) _⟩
section
variable {ops:Array Oper} {Q:Exit->Act->World->Prop}
theorem mG{P:Program}{rest:List Oper}{o:Oper}{a:Act}{w:World}(hgd:o.guard=none)(ty:TypeId)(x:Operand)(ho:o.op=.load ty x)(b:Nat)(hx:a.eval x=.pointer (some ⟨b,0,none⟩))(t:TypeId)(cs:Array Value)(fr:Nat×Nat)(d:TypeDesc)
  (hb:w.heap[b]? = some (.cells cs t fr)) (hu:P.underlying ty=some d) (hd:(match d with|.struct _|.array _ _=>true|_=>false)=true) (hi:(P.info? ty).map (·.size)=some cs.size)
  (hK:∀K:Act->World->Prop,(∀a w,wpList P ops Q rest a w->K a w)->K (a.put o.dst (.agg cs)) w):wpList P ops Q (o :: rest) a w:=
 aG hgd (.agg cs) (by
  unfold execOp
  simp only[ho,hx,Instr.loadAt,Instr.sureAddr,Sem.run_bind,Sem.run_pure,Result.andThen_ok,run_loadVar_row w b t ty cs fr d hb hu hd hi]) hK
end
section
variable {P:Program} {ops:Array Oper} {md:Region.Mode} {Q:Exit->Act->World->Prop} {C:World->Prop}
theorem xS{g k:Nat}{listed:Array Bool}{a:Act}{w:World}(l:List Oper)(hs:Region.noSelect ops=true)(hl:∀j,j<l.length->l[j]? = ops[k+j]?)(hB:xF md ops l.length k listed=true)
  (h:ij P ops C (λa'=>lg P md ops C (noP Q) g (kJ k l.length listed) a' w) l a):lg P md ops C (noP Q) (l.length+g) listed a w:=
 sY hs (λ_ _ _ _ _ h=>h) l k listed a hl hB (λa' h=>h) h
theorem je{i:Nat}{K:Act->World->Prop}{o:Oper}{a:Act}{w w':World}(hi:ops[i]? = some o)(hgd:o.guard=none)(v:Value)(h:(execOp a.eval o).run P w=.ok (.value v) w')(hK:K (a.put o.dst v) w'):wpOp P ops Q i K a w:=by
 unfold wpOp;simp only[hi]
 have hw:Region.wanted o (yielded ops a.tmps)=true:=by simp[Region.wanted,hgd]
 rw[ag hw];refine .inl ?_;unfold Oper.wp;rw[h];exact hK
theorem du{i:Nat}{K:Act->World->Prop}{o:Oper}{a:Act}{w:World}(hi:ops[i]? = some o)(hgd:o.guard=none)(ty:TypeId)(hsz:∀w,(sizeOf ty).run P w=.ok 1 w)(x y:Operand)(ho:o.op=.store ty x y)(b j:Nat)(p:Option Addr)(n c:Nat)(cs:Array Value)(t:TypeId)(hx:a.eval x=.pointer (some ⟨b,j,none⟩))(hy:a.eval y=.slice p n c)
  (hg:w.heap[b]? = some (.cells cs t (0,0))) (hj:j<cs.size)
  (hh:∀w',w'.heap[b]? = some (.cells (cs.setIfInBounds j (.slice p n c)) t (0,0))->(∀k,k≠b->w'.heap[k]? = w.heap[k]?)->(∀B,B<=b->Below B w w')->K (a.put o.dst undef) w'):wpOp P ops Q i K a w:=by
 unfold wpOp;simp only[hi]
 have hw:Region.wanted o (yielded ops a.tmps)=true:=by simp[Region.wanted,hgd]
 rw[ag hw];refine .inl ?_
 have hc:w.cell? ⟨b,j,none⟩=some (cs[j]'hj):=by rw[ae w b j cs t _ hg];exact Array.getElem?_eq_getElem hj
 have hf:=frozen_of_row w b j cs t hg
 have hst:(store ⟨b,j,none⟩ (.slice p n c)).run P w=.ok () (w.setCell ⟨b,j,none⟩ (.slice p n c)):=by simp[go_sem,stored,hc,hf]
 unfold Oper.wp execOp;simp only[ho,hx,hy,Instr.storeAt,Instr.sureAddr,Sem.run_bind,Sem.run_pure,Result.andThen_ok]
 have hsv:(storeVar ty ⟨b,j,none⟩ (.slice p n c)).run P w=.ok () (w.setCell ⟨b,j,none⟩ (.slice p n c)):=by
  unfold storeVar;have hv:(Value.slice p n c).cells=#[.slice p n c]:=rfl;simp only[Sem.run_bind,hsz,hv,Result.andThen_ok];simp[storeCells,bX,hst]
 rw[hsv];exact hh _ (heap_setCell_same w b j cs t _ hg) (λk hk=>heap_setCell_other _ _ k _ hk) (λB hB=>(ak B w).setCell (p:=⟨b,j,none⟩) hB _)
end
section
variable {P:Program} {ops:Array Oper} {md:Region.Mode} {Q:Exit->Act->World->Prop} {C:World->Prop}
theorem aR{i:Nat}{K:Act->World->Prop}{o:Oper}{a:Act}{w:World}(hi:ops[i]? = some o)(hgd:o.guard=none)(v:Value)(h:(execOp a.eval o).run P w=.ok (.value v) w)(hK:K (a.put o.dst v) w):wpOp P ops Q i K a w:=by
 unfold wpOp;simp only[hi]
 have hw:Region.wanted o (yielded ops a.tmps)=true:=by simp[Region.wanted,hgd]
 rw[ag hw];refine .inl ?_;unfold Oper.wp;rw[h];exact hK
end
section
variable {P:Program} {ops:Array Oper} {Q:Exit->Act->World->Prop} {rest:List Oper} {o:Oper} {a a':Act} {w:World}
theorem Zv{v:Value}(h:wpList P ops Q rest a' w)(hgd:o.guard=none:=by rfl)(hx:(execOp a.eval o).run P w=.ok (.value v) w:=by go_simp;try with_reducible rfl)(ha:a.put o.dst v=a':=by go_simp;try rfl):wpList P ops Q (o :: rest) a w:=by subst ha;exact aG hgd v hx (λK hK=>hK _ _ h)
theorem Zc(g:FuncId)(args:Array Value)(v:Value){R:World->Prop}(hc:Calls P g args w λe w'=>e=.returned v/\R w')(hK:∀w',R w'->wpList P ops Q rest a' w')(hgd:o.guard=none:=by rfl)(h:(execOp a.eval o).run P w=.ok (.enter g args) w:=by first|(go_simp;done)|(go_simp;rfl)|(go_simp;simp only[IntKind.wrap_u32];omega))(ha:a.put o.dst v=a':=by go_simp;try rfl):wpList P ops Q (o :: rest) a w:=by subst ha;exact rJ hgd g args v R h hc λw' hr K hK'=>hK' _ _ (hK w' hr)
theorem Zq(g:FuncId)(args:Array Value){v0:Value}(hc:Calls P g args w λe w'=>e=.returned v0/\Below w.heap.size w w')(hK:∀w',Below w.heap.size w w'->wpList P ops Q rest a' w')(hgd:o.guard=none:=by rfl)(h:(execOp a.eval o).run P w=.ok (.enter g args) w:=by first|(go_simp;done)|(go_simp;rfl)|(go_simp;simp only[IntKind.wrap_u32];omega))(ha:a.put o.dst v0=a':=by go_simp;try rfl):wpList P ops Q (o :: rest) a w:=Zc g args v0 hc hK hgd h ha
theorem Zd{x:Operand}{b:Nat}{t:TypeId}{cs:Array Value}{fr:Nat×Nat}{d:TypeDesc}(ty:TypeId)(hb:w.heap[b]? = some (.cells cs t fr))(hu:P.underlying ty=some d)(h:wpList P ops Q rest a' w)(hgd:o.guard=none:=by rfl)(ho:o.op=.load ty x:=by rfl)(hx:a.eval x=.pointer (some ⟨b,0,none⟩):=by rfl)(hd:(match d with|.struct _|.array _ _=>true|_=>false)=true:=by rfl)(hi:(P.info? ty).map (·.size)=some cs.size:=by kernel_rfl)(ha:a.put o.dst (.agg cs)=a':=by go_simp;try rfl):wpList P ops Q (o :: rest) a w:=by subst ha;exact mG hgd ty x ho b hx t cs fr d hb hu hd hi λK hK=>hK _ _ h
theorem Ze(v:Value)(h:wpList P ops Q rest a' w)(hgd:o.guard=none:=by rfl)(hx:(execOp a.eval o).run P w=.ok (.value v) w:=by first|(go_simp;done)|(go_simp;rfl))(ha:a.put o.dst v=a':=by go_simp;try rfl):wpList P ops Q (o :: rest) a w:=Zv h hgd hx ha
theorem Zu(v:Value)(hx:(execOp a.eval o).run P w=.ok (.value v) w)(h:wpList P ops Q rest a' w)(hgd:o.guard=none:=by rfl)(ha:a.put o.dst v=a':=by go_simp;try rfl):wpList P ops Q (o :: rest) a w:=Zv h hgd hx ha
end
open Go.Maps
structure Ins where
 op:Int
 a:Int
 b:Int
 c:Int
 k:Int
def dH(x:Ins):List Value:=[.int .i64 x.op,.int .i64 x.a,.int .i64 x.b,.int .i64 x.c,.int .u32 x.k]
def iP(x:Ins):Array Value:=#[.int .i64 x.op,.int .i64 x.a,.int .i64 x.b,.int .i64 x.c,.int .u32 x.k]
def iV(x:Ins):Value:=.agg (iP x)
structure Lnk where
 at':Int
 name:ByteArray
def qf(x:Lnk):List Value:=[.int .i64 x.at',.string x.name]
abbrev Plc:=DataW Unit
def nmL(s:ByteArray):Lit:=.string s.data.toList
structure BS where
 code:List Ins
 places:Plc
 links:List Lnk
 bad:Bool
 np:Nat
def BS.sz(st:BS):Nat:=st.np+st.code.length+st.links.length
def BS.emit(st:BS)(x:Ins):BS:={ st with code:=st.code++[x] }
def BS.set(st:BS)(a k:Int):BS:=st.emit ⟨1,a,0,0,k⟩
def BS.alu(st:BS)(op a x y:Int):BS:=st.emit ⟨op,a,x,y,0⟩
def BS.ask(st:BS)(op a addr:Int):BS:=st.emit ⟨op,a,8,0,addr⟩
def BS.cas(st:BS)(a c addr:Int):BS:=st.emit ⟨21,a,8,c,addr⟩
def BS.go(st:BS)(op a:Int)(name:ByteArray):BS:={ st with links:=st.links++[⟨st.code.length,name⟩],code:=st.code++[⟨op,a,0,0,0⟩] }
def BS.place(st:BS)(name:ByteArray):BS:=if Maps.has st.places (nmL name)=true then { st with bad:=true,np:=st.np+1 } else { st with places:=st.places.put (nmL name) (.lit (.int .i64 st.code.length)),np:=st.np+1 }
def BS.zero:BS:=⟨[],.map [],[],false,0⟩
@[simp] theorem cH(st:BS)(x:Ins):(st.emit x).sz=st.sz+1:=by simp[BS.sz,BS.emit];omega
@[simp] theorem fP(st:BS)(a k:Int):(st.set a k).sz=st.sz+1:=cH _ _
@[simp] theorem fL(st:BS)(op a x y:Int):(st.alu op a x y).sz=st.sz+1:=cH _ _
@[simp] theorem ft(st:BS)(op a addr:Int):(st.ask op a addr).sz=st.sz+1:=cH _ _
@[simp] theorem fN(st:BS)(a c addr:Int):(st.cas a c addr).sz=st.sz+1:=cH _ _
@[simp] theorem iI(st:BS)(op a:Int)(name:ByteArray):(st.go op a name).sz=st.sz+2:=by simp[BS.sz,BS.go];omega
@[simp] theorem cU(st:BS)(name:ByteArray):(st.place name).sz=st.sz+1:=by
 unfold BS.place
 split<;>simp[BS.sz]<;>omega
def kZ(w:World)(v:Value)(l:List Ins):Prop:=w.ownsRow 0 115 5 v l.length (l.flatMap dH)
def AD(w:World)(v:Value)(l:List Lnk):Prop:=w.ownsRow 0 243 2 v l.length (l.flatMap qf)
theorem lI:∀l:List Ins,(l.flatMap dH).length=l.length * 5
 | []=>rfl
 | x :: l=>by rw[List.flatMap_cons,List.length_append,lI l];simp[dH];omega
def ou:Value->Option Nat
 | .map o=>o
 | _=>none
def PlM(w:World)(v:Value)(D:Plc)(n:Nat):Prop:=(v=.map none/\D=.map [])\/∃B,v=.map (some B)/\w.ownsMap Tryz.prog 9 (plainElem Tryz.prog 3) B n D
theorem bq{w w':World}{ty:TypeId}{sz:Nat}{v:Value}{n:Nat}{xs:List Value}(h:w.ownsRow 0 ty sz v n xs)(hb:∀g,v.ownBlock=some g->w'.heap[g]? = w.heap[g]?):w'.ownsRow 0 ty sz v n xs:=by
 refine⟨h.1,?_⟩;rcases h.2 with h2|⟨g,cap,cur,rfl,h3,h4,r⟩
 ·exact .inl h2
 ·exact .inr ⟨g,cap,cur,rfl,h3,(hb g rfl).trans h4,r⟩
theorem a9{w:World}{ty:TypeId}{sz:Nat}{v:Value}{n:Nat}{xs:List Value}(h:w.ownsRow 0 ty sz v n xs){g:Nat}(hg:v.ownBlock=some g):∃cur,w.heap[g]? = some (.cells cur ty (0,0)):=by
 rcases h.2 with⟨rfl,_⟩|⟨g',cap,cur,rfl,h3,h4,r⟩
 ·cases hg
 ·cases hg;exact⟨cur,h4⟩
theorem m5{w:World}{ty:TypeId}{sz:Nat}{v:Value}{n:Nat}{xs:List Value}(h:w.ownsRow 0 ty sz v n xs):∃p m c,v=.slice p m c:=by
 rcases h.2 with⟨rfl,h0⟩|⟨g',cap,cur,rfl,h3,h4,r⟩
 ·exact⟨none,0,0,rfl⟩
 ·exact⟨_,_,_,rfl⟩
theorem eG{w:World}{v:Value}{D:Plc}{n:Nat}(h:PlM w v D n){g:Nat}(hg:ou v=some g):∃es clock,w.heap[g]? = some (.map es clock):=by
 rcases h with⟨rfl,_⟩|⟨B,rfl,es,clock,h1,_⟩
 ·cases hg
 ·cases hg;exact⟨es,clock,h1⟩
theorem iC{w w':World}{v:Value}{D:Plc}{n:Nat}(h:PlM w v D n)(hb:∀g,ou v=some g->w'.heap[g]? = w.heap[g]?):PlM w' v D n:=by
 rcases h with h|⟨B,rfl,es,clock,h1,r⟩
 ·exact .inl h
 ·exact .inr ⟨B,rfl,es,clock,(hb B rfl).trans h1,r⟩
structure BMv(w:World)(b:Nat)(F:Nat->Prop)(st:BS)(vc vl vm:Value):Prop where
 blk:w.heap[b]? = some (.cells #[vc,vm,vl,.bool st.bad] 202 (0,0))
 code:kZ w vc st.code
 links:AD w vl st.links
 places:PlM w vm st.places st.np
 foot:∀k,F k↔(k=b\/vc.ownBlock=some k\/vl.ownBlock=some k\/ou vm=some k)
def BMem(w:World)(b:Nat)(F:Nat->Prop)(st:BS):Prop:=∃vc vl vm,BMv w b F st vc vl vm
structure Upd(F F':Nat->Prop)(w w':World):Prop where
 low:∀B,(∀k,F k->B<=k)->B<=w.heap.size->Below B w w'
 blk:∀k,k<w.heap.size->¬F k->w'.heap[k]? = w.heap[k]?
 foot:∀k,F' k->F k\/w.heap.size<=k
theorem Upd.size{F F':Nat->Prop}{w w':World}(h:Upd F F' w w'):w.heap.size<=w'.heap.size:=(h.low 0 (λ_ _=>au _) (au _)).size
theorem Upd.refl(F:Nat->Prop)(w:World):Upd F F w w:=⟨λB _ _=>ak B w,λ_ _ _=>rfl,λ_ h=>.inl h⟩
theorem Upd.trans{F F' F'':Nat->Prop}{w w' w'':World}(h:Upd F F' w w')(h':Upd F' F'' w' w''):Upd F F'' w w'':=by
 refine⟨λB hF hB=>(h.low B hF hB).trans (h'.low B (λk hk=>?_) (ar hB h.size)),λk hk hF=>?_,λk hk=>?_⟩
 ·rcases h.foot k hk with h1|h1
  ·exact hF k h1
  ·omega
 ·refine(h'.blk k (aA hk h.size) (λhk'=>?_)).trans (h.blk k hk hF)
  rcases h.foot k hk' with h1|h1
  ·exact hF h1
  ·omega
 ·rcases h'.foot k hk with h1|h1
  ·exact h.foot k h1
  ·have:=h.size;exact .inr (by omega)
theorem Upd.of_below{F:Nat->Prop}{w w':World}(h:Below w.heap.size w w'):Upd F F w w':=⟨λB _ hB=>h.mono hB,λk hk _=>h.block k hk,λ_ h=>.inl h⟩
theorem BMv.lt{w:World}{b:Nat}{F:Nat->Prop}{st:BS}{vc vl vm:Value}(h:BMv w b F st vc vl vm):∀k,F k->k<w.heap.size:=λk hk=>by
 rcases(h.foot k).1 hk with rfl|e|e|e
 ·exact aB h.blk
 ·obtain⟨_,h1⟩:=a9 h.code e;exact aB h1
 ·obtain⟨_,h1⟩:=a9 h.links e;exact aB h1
 ·obtain⟨_,_,h1⟩:=eG h.places e;exact aB h1
theorem BMv.keep{w w':World}{b:Nat}{F:Nat->Prop}{st:BS}{vc vl vm:Value}(h:BMv w b F st vc vl vm)(hb:∀k,F k->w'.heap[k]? = w.heap[k]?):BMv w' b F st vc vl vm:=
 ⟨(hb b ((h.foot b).2 (.inl rfl))).trans h.blk,bq h.code (λg e=>hb g ((h.foot g).2 (.inr (.inl e)))),bq h.links (λg e=>hb g ((h.foot g).2 (.inr (.inr (.inl e))))),iC h.places (λg e=>hb g ((h.foot g).2 (.inr (.inr (.inr e))))),h.foot⟩
theorem BMv.below{w w':World}{b:Nat}{F:Nat->Prop}{st:BS}{vc vl vm:Value}(h:BMv w b F st vc vl vm)(hb:Below w.heap.size w w'):BMv w' b F st vc vl vm:=h.keep λk hk=>hb.block k (h.lt k hk)
theorem BMem.below{w w':World}{b:Nat}{F:Nat->Prop}{st:BS}(h:BMem w b F st)(hb:Below w.heap.size w w'):BMem w' b F st:=by
 obtain⟨vc,vl,vm,h⟩:=h;exact⟨vc,vl,vm,h.below hb⟩
theorem BMem.lt{w:World}{b:Nat}{F:Nat->Prop}{st:BS}(h:BMem w b F st):∀k,F k->k<w.heap.size:=by
 obtain⟨vc,vl,vm,h⟩:=h;exact h.lt
theorem aK{w:World}{i j:Nat}{cs ds:Array Value}{t u:TypeId}{f g:Nat×Nat}(h:w.heap[i]? = some (.cells cs t f))(h':w.heap[j]? = some (.cells ds u g))(n:t≠u):i≠j:=λe=>by
 subst e;rw[h]at h';simp only[Option.some.injEq,Obj.cells.injEq]at h';exact n h'.2.1
theorem iG{w:World}{i j:Nat}{cs:Array Value}{t:TypeId}{f:Nat×Nat}{es:Array MapEntry}{c:Nat}(h:w.heap[i]? = some (.cells cs t f))(h':w.heap[j]? = some (.map es c)):i≠j:=λe=>by
 subst e;rw[h]at h';cases h'
theorem sd:(Tryz.prog.info? 115).map (λi=>(i.zero.map (·.cells.size),i.size,i.bytes))=some (some 5,5,40):=by kernel_rfl
theorem B1:(Tryz.prog.info? 243).map (λi=>(i.zero.map (·.cells.size),i.size,i.bytes))=some (some 2,2,24):=by kernel_rfl
theorem m6{P:Program}{e:TypeId}{c s b:Nat}(h1:(P.info? e).map (λi=>(i.zero.map (·.cells.size),i.size,i.bytes))=some (some c,s,b)):∃(i0:TypeInfo)(z:Value),P.info? e=some i0/\i0.zero=some z/\z.cells.size=c/\i0.size=s/\i0.bytes=b:=by
 cases e1:P.info? e with
 | none=>rw[e1]at h1;cases h1
 | some ti=>
  rw[e1]at h1;simp only[Option.map_some,Option.some.injEq,Prod.mk.injEq]at h1
  cases e2:ti.zero with
  | none=>rw[e2]at h1;simp at h1
  | some z=>
   rw[e2]at h1;simp only[Option.map_some,Option.some.injEq]at h1;exact⟨ti,z,rfl,e2,h1.1,h1.2.1,h1.2.2⟩
section
variable {ops:Array Oper} {Q:Exit->Act->World->Prop}
theorem Cj{i:Nat}{K:Act->World->Prop}{o:Oper}{a:Act}{w:World}(hi:ops[i]? = some o)(hgd:o.guard=none)(s x:Operand)(ho:o.op=.call { callee:=.builtin .append,args:=#[s,x],argTypes:=#[93,93] })
  (v:Value) (l:List Ins) (e:Ins) (hs:a.eval s=v) (hown:kZ w v l) (b:Nat) (hx:a.eval x=.slice (some ⟨b,0,none⟩) 1 1) (hb:w.heap[b]? = some (.cells (iP e) 115 (0,0))) (hk:l.length<=4001)
  (h:∀v' w',kZ w' v' (l++[e])->w.grownBy w' v.ownBlock->(v'.ownBlock=v.ownBlock\/v'.ownBlock=some w.heap.size)->K (a.put o.dst v') w'):wpOp Tryz.prog ops Q i K a w:=by
 obtain⟨i0,z,hi0,hz0,hzc,hz1,hz2⟩:=m6 sd
 obtain⟨v',w',hrun,h2,h3,_,h5⟩:=run_append_own_at (P:=Tryz.prog) w 0 93 o.type 115 i0 z 5 40 Tryz.underlying93 hi0 hz0 hz1 hz2 hzc (by omega) v l.length _ hown ⟨b,0,none⟩ 1 1 (dH e) (by simp[dH])
  (λj u hu=>by
   rw[bX,Nat.zero_add,ae w b j _ 115 _ hb,<-Array.getElem?_toList];exact hu)
  (λu hu=>by
   simp only[dH,List.mem_cons,List.not_mem_nil,or_false]at hu
   rcases hu with rfl|rfl|rfl|rfl|rfl<;>rfl) (by simp only[maxLen];omega) (by omega) (au _)
 unfold wpOp;simp only[hi]
 have hw:Region.wanted o (yielded ops a.tmps)=true:=by simp[Region.wanted,hgd]
 rw[ag hw];refine .inl ?_;unfold Oper.wp execOp;simp only[ho,resolve,invoke,builtin,Sem.run_bind,Sem.run_pure,Result.andThen_ok,List.map_toArray,List.map_cons,List.map_nil,hs,hx,hrun];refine h v' w' ?_ h3 h5;unfold kZ;rw[List.flatMap_append,List.length_append]
 simpa using h2
theorem Du{i:Nat}{K:Act->World->Prop}{o:Oper}{a:Act}{w:World}(hi:ops[i]? = some o)(hgd:o.guard=none)(s x:Operand)(ho:o.op=.call { callee:=.builtin .append,args:=#[s,x],argTypes:=#[200,200] })
  (v:Value) (l:List Lnk) (e:Lnk) (hs:a.eval s=v) (hown:AD w v l) (b:Nat) (hx:a.eval x=.slice (some ⟨b,0,none⟩) 1 1) (hb:w.heap[b]? = some (.cells #[.int .i64 e.at',.string e.name] 243 (0,0))) (hk:l.length<=4001)
  (h:∀v' w',AD w' v' (l++[e])->w.grownBy w' v.ownBlock->(v'.ownBlock=v.ownBlock\/v'.ownBlock=some w.heap.size)->K (a.put o.dst v') w'):wpOp Tryz.prog ops Q i K a w:=by
 obtain⟨i0,z,hi0,hz0,hzc,hz1,hz2⟩:=m6 B1
 obtain⟨v',w',hrun,h2,h3,_,h5⟩:=run_append_own_at (P:=Tryz.prog) w 0 200 o.type 243 i0 z 2 24 Tryz.underlying200 hi0 hz0 hz1 hz2 hzc (by omega) v l.length _ hown ⟨b,0,none⟩ 1 1 (qf e) (by simp[qf])
  (λj u hu=>by
   rw[bX,Nat.zero_add,ae w b j _ 243 _ hb,<-Array.getElem?_toList];exact hu)
  (λu hu=>by
   simp only[qf,List.mem_cons,List.not_mem_nil,or_false]at hu
   rcases hu with rfl|rfl<;>rfl) (by simp only[maxLen];omega) (by omega) (au _)
 unfold wpOp;simp only[hi]
 have hw:Region.wanted o (yielded ops a.tmps)=true:=by simp[Region.wanted,hgd]
 rw[ag hw];refine .inl ?_;unfold Oper.wp execOp;simp only[ho,resolve,invoke,builtin,Sem.run_bind,Sem.run_pure,Result.andThen_ok,List.map_toArray,List.map_cons,List.map_nil,hs,hx,hrun];refine h v' w' ?_ h3 h5;unfold AD;rw[List.flatMap_append,List.length_append]
 simpa using h2
end
theorem Upd.kept{F F':Nat->Prop}{w w':World}{k:Nat}{o:Obj}(h:Upd F F' w w')(hg:w.heap[k]? = some o)(hF:¬F k):w'.heap[k]? = some o:=(h.blk k (aB hg) hF).trans hg
theorem Ci{F0 F F':Nat->Prop}{w0 w w':World}{k:Nat}{o:Obj}(hU':Upd F F' w w')(X:w.heap[k]? = some o)(hF:¬F k)(hkl:k<w.heap.size)(hU:Upd F0 F w0 w):w'.heap[k]? = some o/\¬F' k/\k<w'.heap.size/\Upd F0 F' w0 w':=
 have X':=hU'.kept X hF
 ⟨X',λh=>(hU'.foot k h).elim hF (λh=>by omega),aB X',hU.trans hU'⟩
section
variable {F0 F:Nat->Prop} {w0 w:World} {k b:Nat} {ob:Obj} {st:BS}
theorem Zb{P:Program}{ops:Array Oper}{Q:Exit->Act->World->Prop}{rest:List Oper}{o:Oper}{a a':Act}(g:FuncId)(args:Array Value)(hc:Calls P g args w λe w'=>e=.returned (.tuple #[])/\∃F',BMem w' b F' st/\Upd F F' w w')(X:w.heap[k]? = some ob)(hF:¬F k)(hkl:k<w.heap.size)(hU:Upd F0 F w0 w)(hK:∀w' F',w'.heap[k]? = some ob->¬F' k->k<w'.heap.size->Upd F0 F' w0 w'->BMem w' b F' st->wpList P ops Q rest a' w')
 (hgd:o.guard=none:=by rfl) (h:(execOp a.eval o).run P w=.ok (.enter g args) w:=by first|(go_simp;done)|(go_simp;rfl)|(go_simp;simp only[IntKind.wrap_u32];omega)) (ha:a.put o.dst (.tuple #[])=a':=by go_simp;try rfl):wpList P ops Q (o :: rest) a w:=Zc g args (.tuple #[]) hc (λw' ⟨F',hB',hU'⟩=>have q:=Ci hU' X hF hkl hU;hK w' F' q.1 q.2.1 q.2.2.1 q.2.2.2 hB') hgd h ha
theorem Zx{P:Program}{f:FuncId}{args:Array Value}{e0:Ending}(hU:Upd F0 F w0 w)(hc:Calls P f args w λe w'=>e=e0/\∃F',BMem w' b F' st/\Upd F F' w w'):Calls P f args w λe w'=>e=e0/\∃F',BMem w' b F' st/\Upd F0 F' w0 w':=hc.mono λe w' ⟨h,F',hB,hU'⟩=>⟨h,F',hB,hU.trans hU'⟩
theorem Z1{P:Program}{f:FuncId}{args:Array Value}{e0:Ending}(X:w.heap[k]? = some ob)(hF:¬F k)(hkl:k<w.heap.size)(hU:Upd F0 F w0 w)(hc:Calls P f args w λe w'=>e=e0/\∃F',BMem w' b F' st/\Upd F F' w w'):Calls P f args w λe w'=>e=e0/\∃F',BMem w' b F' st/\w'.heap[k]? = some ob/\¬F' k/\k<w'.heap.size/\Upd F0 F' w0 w':=hc.mono λe w' ⟨h,F',hB,hU'⟩=>⟨h,F',hB,Ci hU' X hF hkl hU⟩
theorem Z2{P:Program}{f:FuncId}{args:Array Value}{e0:Ending}{k2:Nat}{ob2:Obj}(X:w.heap[k]? = some ob)(hF:¬F k)(hkl:k<w.heap.size)(hU:Upd F0 F w0 w)(Y:w.heap[k2]? = some ob2)(hG:¬F k2)(hc:Calls P f args w λe w'=>e=e0/\∃F',BMem w' b F' st/\Upd F F' w w'):Calls P f args w λe w'=>e=e0/\∃F',BMem w' b F' st/\w'.heap[k]? = some ob/\¬F' k/\k<w'.heap.size/\Upd F0 F' w0 w'/\w'.heap[k2]? = some ob2/\¬F' k2/\k2<w'.heap.size:=hc.mono λe w' ⟨h,F',hB,hU'⟩=>by
 obtain⟨q1,q2,q3,q4⟩:=Ci hU' X hF hkl hU
 obtain⟨p1,p2,p3,_⟩:=Ci hU' Y hG (aB Y) hU
 exact⟨h,F',hB,q1,q2,q3,q4,p1,p2,p3⟩
end
theorem kg{b:Nat}{F:Nat->Prop}{st:BS}(x:Ins)(w:World)(hB:BMem w b F st)(hs:st.sz<=4001:=by first|omega|(simp<;>omega)):Calls Tryz.prog 183 #[.pointer (some ⟨b,0,none⟩),iV x] w λe w'=>e=.returned (.tuple #[])/\∃F',BMem w' b F' (st.emit x)/\Upd F F' w w':=by
 obtain⟨vc,vl,vm,hB⟩:=hB
 have hlen:st.code.length<=4001:=by unfold BS.sz at hs;omega
 unfold iV iP;go_enter Tryz.func183,Tryz.ntmps183;go_upto_region 1 with(fail);obtain⟨W,b3,e0,e1,X3,hal⟩:=aO w #[.int .i64 x.op,.int .i64 x.a,.int .i64 x.b,.int .i64 x.c,.int .u32 x.k] 115;rw[e0,e1];have z3:w.heap.size<=b3:=aD e1;clear e0 e1;have hBW:=hB.below hal;refine bR 6 7 8 (λw'=>Below W.heap.size W w') _ rfl (by kernel_rfl) (by kernel_rfl) (by decide) (by kernel_rfl) ?_;simp only[List.take_succ_cons,List.take_zero]
 iterate 4 refine Zf ?_
 refine bm rfl (by kernel_rfl) _ (λw' h'=>aE (by have c:=ae w' b 0 _ 202 _ (keep hBW.blk h');go_simp;try with_reducible rfl)) (Zj ?_);refine bm rfl (by kernel_rfl) _ (λw' h'=>fF 115 (.tmp 3) rfl _ rfl _ _ (0,0) _ (keep X3 h') Tryz.underlying115 rfl (by kernel_rfl)) (Zj ?_);refine gJ ?_;show dU _ _ _ _ _ _ _ _ _ _;have q0:Below W.heap.size W W.drew:=Below.drew (ak _ _);refine ZM 6 (λv1 r1=>⟨λ_=>q0.trans (r1.mono q0.size),?_⟩);have q1:=q0.trans (r1.mono q0.size)
 refine je rfl rfl (.slice (some ⟨v1.heap.size,0,none⟩) 1 1) (w':=v1.alloc (.cells (iP x) 115)) (by first|kernel_rfl|go_simp) ?_
 obtain⟨v2,bN,e8,eg,BN,hb8⟩:=aO v1 (iP x) 115;rw[e8,eg];clear e8 eg;have q2:=q1.trans (hb8.mono q1.size);refine ZM 7 (λv3 r3=>⟨λ_=>q2.trans (r3.mono q2.size),?_⟩);have q3:=q2.trans (r3.mono q2.size);replace BN:=keep BN r3;have hB3:=hBW.below q3;refine Cj rfl rfl (.tmp 8) (.tmp 10) rfl vc st.code x rfl hB3.code bN rfl BN hlen (λvc' v4 hO4 hg4 hl4=>?_);have hal3:=hal.trans (q3.mono hal.size)
 have nb:some b≠vc.ownBlock:=λe=>by
  obtain⟨_,h1⟩:=a9 hB3.code e.symm;exact aK hB3.blk h1 (by decide) rfl
 have Xb:=(hg4.block b (aB hB3.blk) nb).trans hB3.blk
 have HL:=bq hB3.links (λg e=>hg4.block g (by obtain⟨_,h1⟩:=a9 hB3.links e;exact aB h1) (λe2=>by
  obtain⟨_,h1⟩:=a9 hB3.code e2.symm;obtain⟨_,h2⟩:=a9 hB3.links e
  exact aK h1 h2 (by decide) rfl))
 have HP:=iC hB3.places (λg e=>hg4.block g (by obtain⟨_,_,h1⟩:=eG hB3.places e;exact aB h1) (λe2=>by
  obtain⟨_,h1⟩:=a9 hB3.code e2.symm;obtain⟨_,_,h2⟩:=eG hB3.places e
  exact iG h1 h2 rfl))
 have U4:∀k,k<w.heap.size->¬F k->v4.heap[k]? = w.heap[k]? := λk hk hF=>(hg4.block k (by have:=hal3.size;omega) (λe=>hF ((hB.foot k).2 (.inr (.inl e.symm))))).trans (hal3.block k hk);have L4:∀B,(∀k,F k->B<=k)->B<=w.heap.size->Below B w v4:=λB hF hB'=>(hal3.mono hB').grown hg4 (by have:=hal3.size;omega) (λk e=>hF k ((hB.foot k).2 (.inr (.inl e))));have fb:F b:=(hB.foot b).2 (.inl rfl)
 have foot4:∀k,vc'.ownBlock=some k->F k\/w.heap.size<=k:=λk e=>by
  rcases hl4 with h|h
  ·exact .inl ((hB.foot k).2 (.inr (.inl (by rw[<-h];exact e))))
  ·rw[h]at e;cases e;exact .inr (ar hal3.size (ah _))
 obtain⟨p,n4,c,rfl⟩:=m5 hO4;clear q0 q1 q2 q3 hb8 r1 r3 BN hg4 hal3 nb hl4;refine ZM 8 (λv5 r5=>⟨(λe=>absurd (show true=false from e) (by decide)),?_⟩);refine aR rfl rfl (.pointer (some ⟨b,0,none⟩)) (by go_simp) ?_;refine ZM 9 (λv6 r6=>⟨(λe=>absurd (show true=false from e) (by decide)),?_⟩);refine aR rfl rfl (.pointer (some ⟨b,0,none⟩)) (by go_simp) ?_;refine ZM 10 (λv7 r7=>⟨(λe=>absurd (show true=false from e) (by decide)),?_⟩);have hb7:Below v4.heap.size v4 v7:=(r5.trans (r6.mono r5.size)).trans (r7.mono (ar r5.size r6.size));have X4b:=Xb;replace Xb:=keep Xb hb7;refine du rfl rfl 93 (λw=>by kernel_rfl) (.tmp 13) (.tmp 11) rfl b 0 p n4 c _ 202 rfl rfl Xb (by simp) (λv8 p1 p2 p3=>?_);refine bl (by kernel_rfl) (by kernel_rfl) (λv9 r9=>?_);have hb9:∀k,k<v4.heap.size->k≠b->v9.heap[k]? = v4.heap[k]? := λk hk hn=>((r9.block k (by have:=hb7.size;have:=(p3 0 (au _)).size;omega)).trans (p2 k hn)).trans (hb7.block k hk);have hs9:v4.heap.size<=v9.heap.size:=ar hb7.size (ar (p3 0 (au _)).size r9.size);have hs4:w.heap.size<=v4.heap.size:=(L4 0 (λ_ _=>au _) (au _)).size;have p9:=keep p1 r9;go_wp2;go_end0;refine⟨rfl,λk=>k=b\/(Value.slice p n4 c).ownBlock=some k\/vl.ownBlock=some k\/ou vm=some k,⟨.slice p n4 c,vl,vm,⟨show v9.heap[b]? = some (.cells #[.slice p n4 c,vm,vl,.bool st.bad] 202 (0,0)) from by simpa using p9,?_,?_,?_,λk=>Iff.rfl⟩⟩,⟨?_,?_,?_⟩⟩
 ·exact bq hO4 (λg e=>by
   obtain⟨_,h1⟩:=a9 hO4 e
   exact hb9 g (aB h1) (λe'=>aK h1 X4b (by decide) e'))
 ·exact bq HL (λg e=>by
   obtain⟨_,h1⟩:=a9 HL e
   exact hb9 g (aB h1) (λe'=>aK h1 X4b (by decide) e'))
 ·exact iC HP (λg e=>by
   obtain⟨_,_,h1⟩:=eG HP e
   exact hb9 g (aB h1) (λe'=>iG X4b h1 e'.symm))
 ·intro B hF hB'
  have hbB:=hF b fb;exact(((L4 B hF hB').trans (hb7.mono (by omega))).trans (p3 B hbB)).trans (r9.mono (by have:=hb7.size;have:=(p3 0 (au _)).size;omega))
 ·intro k hk hF
  exact(hb9 k (by omega) (λe=>hF (by rw[e];exact fb))).trans (U4 k hk hF)
 ·rintro k (e|e|e|e)
  ·exact .inl (by rw[e];exact fb)
  ·exact foot4 k e
  ·exact .inl ((hB.foot k).2 (.inr (.inr (.inl e))))
  ·exact .inl ((hB.foot k).2 (.inr (.inr (.inr e))))
theorem bF{b:Nat}{F:Nat->Prop}{st:BS}{a k:Int}{w:World}(hB:BMem w b F st)(hs:st.sz<=4000:=by first|omega|(simp<;>omega)):Calls Tryz.prog 130 #[.pointer (some ⟨b,0,none⟩),.int .i64 a,.int .u32 k] w λe w'=>e=.returned (.tuple #[])/\∃F',BMem w' b F' (st.set a k)/\Upd F F' w w':=by
 have hc:=kg ⟨1,a,0,0,k⟩ w hB (Nat.le_succ_of_le hs);unfold iV iP at hc;go_enter Tryz.func130,Tryz.ntmps130;go_wp2_with fail;refine hc.mono ?_;rintro e w' ⟨rfl,F',h1,h2⟩;go_wp2;go_end0;exact⟨rfl,F',h1,h2⟩
theorem jT{b:Nat}{F:Nat->Prop}{st:BS}{op a x y:Int}{w:World}(hB:BMem w b F st)(hs:st.sz<=4000:=by first|omega|(simp<;>omega)):Calls Tryz.prog 176 #[.pointer (some ⟨b,0,none⟩),.int .i64 op,.int .i64 a,.int .i64 x,.int .i64 y] w λe w'=>e=.returned (.tuple #[])/\∃F',BMem w' b F' (st.alu op a x y)/\Upd F F' w w':=by
 have hc:=kg ⟨op,a,x,y,0⟩ w hB (Nat.le_succ_of_le hs);unfold iV iP at hc;go_enter Tryz.func176,Tryz.ntmps176;go_wp2_with fail;refine hc.mono ?_;rintro e w' ⟨rfl,F',h1,h2⟩;go_wp2;go_end0;exact⟨rfl,F',h1,h2⟩
theorem bi{b:Nat}{F:Nat->Prop}{st:BS}{op a addr:Int}{w:World}(hB:BMem w b F st)(hs:st.sz<=4000:=by first|omega|(simp<;>omega)):Calls Tryz.prog 138 #[.pointer (some ⟨b,0,none⟩),.int .i64 op,.int .i64 a,.int .u32 addr] w λe w'=>e=.returned (.tuple #[])/\∃F',BMem w' b F' (st.ask op a addr)/\Upd F F' w w':=by
 have hc:=kg ⟨op,a,8,0,addr⟩ w hB (Nat.le_succ_of_le hs);unfold iV iP at hc;go_enter Tryz.func138,Tryz.ntmps138;go_wp2_with fail;refine hc.mono ?_;rintro e w' ⟨rfl,F',h1,h2⟩;go_wp2;go_end0;exact⟨rfl,F',h1,h2⟩
theorem qd{b:Nat}{F:Nat->Prop}{st:BS}{a c addr:Int}{w:World}(hB:BMem w b F st)(hs:st.sz<=4000:=by first|omega|(simp<;>omega)):Calls Tryz.prog 175 #[.pointer (some ⟨b,0,none⟩),.int .i64 a,.int .i64 c,.int .u32 addr] w λe w'=>e=.returned (.tuple #[])/\∃F',BMem w' b F' (st.cas a c addr)/\Upd F F' w w':=by
 have hc:=kg ⟨21,a,8,c,addr⟩ w hB (Nat.le_succ_of_le hs);unfold iV iP at hc;go_enter Tryz.func175,Tryz.ntmps175;go_wp2_with fail;refine hc.mono ?_;rintro e w' ⟨rfl,F',h1,h2⟩;go_wp2;go_end0;exact⟨rfl,F',h1,h2⟩
theorem nO{w:World}{ty:TypeId}{sz:Nat}{v:Value}{n:Nat}{xs:List Value}(h:w.ownsRow 0 ty sz v n xs):∃p c,v=.slice p n c:=by
 rcases h.2 with⟨rfl,h0⟩|⟨g',cap,cur,rfl,h3,h4,r⟩
 ·exact⟨none,0,by rw[h0]⟩
 ·exact⟨_,_,rfl⟩
theorem goC{b:Nat}{F:Nat->Prop}{st:BS}{op a:Int}{name:ByteArray}{w:World}(hB:BMem w b F st)(hs:st.sz<=4000:=by first|omega|(simp<;>omega)):Calls Tryz.prog 173 #[.pointer (some ⟨b,0,none⟩),.int .i64 op,.int .i64 a,.string name] w λe w'=>e=.returned (.tuple #[])/\∃F',BMem w' b F' (st.go op a name)/\Upd F F' w w':=by
 obtain⟨vc,vl,vm,hB⟩:=hB
 have hlen:st.links.length<=4000:=by unfold BS.sz at hs;omega
 have hsz:st.code.length<=4000:=by unfold BS.sz at hs;omega
 obtain⟨pc,cc,rfl⟩:=nO hB.code;go_enter Tryz.func173,Tryz.ntmps173;go_upto_region 0 with(fail);refine bR 12 13 10 (λw'=>Below w.heap.size w w') _ rfl (by kernel_rfl) (by kernel_rfl) (by decide) (by kernel_rfl) ?_;simp only[List.take_succ_cons,List.take_zero]
 iterate 4 refine Zf ?_
 refine bm rfl (by kernel_rfl) _ (λw' h'=>aE (by have c:=ae w' b 2 _ 202 _ (keep hB.blk h');go_simp;try with_reducible rfl)) (Zj ?_)
 iterate 3 refine Zf ?_
 refine bm rfl (by kernel_rfl) _ (λw' h'=>aE (by have c:=ae w' b 0 _ 202 _ (keep hB.blk h');go_simp;try with_reducible rfl)) (Zj ?_)
 iterate 3 refine Zf ?_
 refine gJ ?_;show dU _ _ _ _ _ _ _ _ _ _;have q0:Below w.heap.size w w.drew:=Below.drew (ak _ _);refine ZM 12 (λv1 r1=>⟨λ_=>q0.trans (r1.mono q0.size),?_⟩);have q1:=q0.trans (r1.mono q0.size)
 refine je rfl rfl (.slice (some ⟨v1.heap.size,0,none⟩) 1 1) (w':=v1.alloc (.cells #[.int .i64 st.code.length,.string name] 243)) (by first|kernel_rfl|go_simp) ?_
 obtain⟨v2,bN,e8,eg,BN,hb8⟩:=aO v1 #[.int .i64 st.code.length,.string name] 243;rw[e8,eg];clear e8 eg;have q2:=q1.trans (hb8.mono q1.size);refine ZM 13 (λv3 r3=>⟨λ_=>q2.trans (r3.mono q2.size),?_⟩);have q3:=q2.trans (r3.mono q2.size);replace BN:=keep BN r3;have hB3:=hB.below q3;refine Du rfl rfl (.tmp 12) (.tmp 20) rfl vl st.links ⟨st.code.length,name⟩ rfl hB3.links bN rfl BN (Nat.le_succ_of_le hlen) (λvl' v4 hO4 hg4 hl4=>?_);have hal3:=q3
 have nb:some b≠vl.ownBlock:=λe=>by
  obtain⟨_,h1⟩:=a9 hB3.links e.symm;exact aK hB3.blk h1 (by decide) rfl
 have Xb:=(hg4.block b (aB hB3.blk) nb).trans hB3.blk
 have HL:=bq hB3.code (λg e=>hg4.block g (by obtain⟨_,h1⟩:=a9 hB3.code e;exact aB h1) (λe2=>by
  obtain⟨_,h1⟩:=a9 hB3.links e2.symm;obtain⟨_,h2⟩:=a9 hB3.code e
  exact aK h1 h2 (by decide) rfl))
 have HP:=iC hB3.places (λg e=>hg4.block g (by obtain⟨_,_,h1⟩:=eG hB3.places e;exact aB h1) (λe2=>by
  obtain⟨_,h1⟩:=a9 hB3.links e2.symm;obtain⟨_,_,h2⟩:=eG hB3.places e
  exact iG h1 h2 rfl))
 have U4:∀k,k<w.heap.size->¬F k->v4.heap[k]? = w.heap[k]? := λk hk hF=>(hg4.block k (by have:=hal3.size;omega) (λe=>hF ((hB.foot k).2 (.inr (.inr (.inl e.symm)))))).trans (hal3.block k hk);have L4:∀B,(∀k,F k->B<=k)->B<=w.heap.size->Below B w v4:=λB hF hB'=>(hal3.mono hB').grown hg4 (by have:=hal3.size;omega) (λk e=>hF k ((hB.foot k).2 (.inr (.inr (.inl e)))));have fb:F b:=(hB.foot b).2 (.inl rfl)
 have foot4:∀k,vl'.ownBlock=some k->F k\/w.heap.size<=k:=λk e=>by
  rcases hl4 with h|h
  ·exact .inl ((hB.foot k).2 (.inr (.inr (.inl (by rw[<-h];exact e)))))
  ·rw[h]at e;cases e;exact .inr hal3.size
 obtain⟨p,n4,c,rfl⟩:=m5 hO4;clear q0 q1 q2 q3 hb8 r1 r3 BN hg4 hal3 nb hl4;refine ZM 14 (λv5 r5=>⟨(λe=>absurd (show true=false from e) (by decide)),?_⟩);refine aR rfl rfl (.pointer (some ⟨b,0,none⟩)) (by go_simp) ?_;refine ZM 15 (λv6 r6=>⟨(λe=>absurd (show true=false from e) (by decide)),?_⟩);refine aR rfl rfl (.pointer (some ⟨b,2,none⟩)) (by go_simp) ?_;refine ZM 16 (λv7 r7=>⟨(λe=>absurd (show true=false from e) (by decide)),?_⟩);have hb7:Below v4.heap.size v4 v7:=(r5.trans (r6.mono r5.size)).trans (r7.mono (ar r5.size r6.size));have X4b:=Xb;replace Xb:=keep Xb hb7;refine du rfl rfl 200 (λw=>by kernel_rfl) (.tmp 23) (.tmp 21) rfl b 2 p n4 c _ 202 rfl rfl Xb (by simp) (λv8 p1 p2 p3=>?_);refine bl (by kernel_rfl) (by kernel_rfl) (λv9 r9=>?_);have hb9:∀k,k<v4.heap.size->k≠b->v9.heap[k]? = v4.heap[k]? := λk hk hn=>((r9.block k (by have:=hb7.size;have:=(p3 0 (au _)).size;omega)).trans (p2 k hn)).trans (hb7.block k hk);have hs9:v4.heap.size<=v9.heap.size:=ar hb7.size (ar (p3 0 (au _)).size r9.size);have hs4:w.heap.size<=v4.heap.size:=(L4 0 (λ_ _=>au _) (au _)).size;have p9:=keep p1 r9
 have hM9:BMem v9 b (λk=>k=b\/(Value.slice pc st.code.length cc).ownBlock=some k\/(Value.slice p n4 c).ownBlock=some k\/ou vm=some k) { st with links:=st.links++[⟨st.code.length,name⟩] }:=by
  refine⟨_,.slice p n4 c,vm,⟨show v9.heap[b]? = some (.cells #[.slice pc st.code.length cc,vm,.slice p n4 c,.bool st.bad] 202 (0,0)) from by simpa using p9,?_,?_,?_,λk=>Iff.rfl⟩⟩
  ·exact bq HL (λg e=>by
    obtain⟨_,h1⟩:=a9 HL e
    exact hb9 g (aB h1) (λe'=>aK h1 X4b (by decide) e'))
  ·exact bq hO4 (λg e=>by
    obtain⟨_,h1⟩:=a9 hO4 e
    exact hb9 g (aB h1) (λe'=>aK h1 X4b (by decide) e'))
  ·exact iC HP (λg e=>by
    obtain⟨_,_,h1⟩:=eG HP e
    exact hb9 g (aB h1) (λe'=>iG X4b h1 e'.symm))
 have hU9:Upd F (λk=>k=b\/(Value.slice pc st.code.length cc).ownBlock=some k\/(Value.slice p n4 c).ownBlock=some k\/ou vm=some k) w v9:=by
  refine⟨?_,?_,?_⟩
  ·intro B hF hB'
   have hbB:=hF b fb;exact(((L4 B hF hB').trans (hb7.mono (by omega))).trans (p3 B hbB)).trans (r9.mono (by have:=hb7.size;have:=(p3 0 (au _)).size;omega))
  ·intro k hk hF
   exact(hb9 k (by omega) (λe=>hF (by rw[e];exact fb))).trans (U4 k hk hF)
  ·rintro k (e|e|e|e)
   ·exact .inl (by rw[e];exact fb)
   ·exact .inl ((hB.foot k).2 (.inr (.inl e)))
   ·exact foot4 k e
   ·exact .inl ((hB.foot k).2 (.inr (.inr (.inr e))))
 have hs':({ st with links:=st.links++[⟨st.code.length,name⟩] }:BS).sz<=4001:=by
  simp only[BS.sz,List.length_append,List.length_cons,List.length_nil]at hs ⊢;omega
 have hc:=kg ⟨op,a,0,0,0⟩ v9 hM9 hs';unfold iV iP at hc;clear hM9 hs' hb9 hs9 hs4 p9 p1 p2 p3 r9 r5 r6 r7 hb7 X4b Xb HL HP U4 L4 foot4 hO4 hB hB3;go_wp2_with fail;refine hc.mono ?_;rintro e w' ⟨rfl,F',h1,h2⟩;go_wp2;go_end0;exact⟨rfl,F',h1,hU9.trans h2⟩
end Go.Proofs.YtldlcnaphednnaaGreatDoor
