/- A region in a round of a range over a function: walked as anywhere. No program in sight. Acts in a heap: its methods. -/
import Derived.RangeFuncNested
import Derived.RangeFuncBound
import Derived.RangeFuncCalls
import Derived.RangeFuncLeaves
import Derived.OwnWalkIn
import Derived.Test.YtldlcnaphednnaaGreatDoorM27
import Derived.Test.YtldlcnaphednnaaGreatDoorM05
import Derived.Test.YtldlcnaphednnaaGreatDoorM03
import Derived.Test.YtldlcnaphednnaaGreatDoorM28
import Derived.Test.YtldlcnaphednnaaGreatDoorM23
import Derived.Test.YtldlcnaphednnaaGreatDoorM25
set_option maxRecDepth 100000
set_option maxHeartbeats 32000000
set_option linter.unusedVariables false
set_option linter.unusedSimpArgs false
namespace Go.Proofs.YtldlcnaphednnaaGreatDoor
open Go.RowKit
section
variable {P:Program} {ops:Array Oper} {md:Region.Mode} {Q:Exit->Act->World->Prop} {r n:Nat}
def lT(l:List Oper):Bool:=l.all λo=>match o.op with|.defer _=>false|_=>true
theorem tG{o:Oper}{a:Act}{w:World}{K:Act->World->Prop}(hnd:∀c,o.op≠.defer c)(hl:¬LetsOut Q)(h:o.wp P a w K Q\/(o.asks P a w/\LetsOut Q)):o.wpIn (Fence.wide.inRound r) n P a w K Q:=by
 rcases h with h|h
 ·refine⟨λ_ _=>trivial,?_⟩
  rw[Oper.semAt_eq _ _ _ hnd];unfold Oper.wp at h;generalize (execOp a.eval o).run P w=x at *
  cases x with
  | ok x w'=>
   cases x<;>simp only[Oper.upon]at h
   case value=>exact h
   case skip=>exact h
   case defer=>exact h
   case enter f args=>
    refine⟨λe=>(by cases e),CallsIn.inRound r ((callsIn_wide (n:=n - 1)).2 (h.mono ?_))⟩;intro e w'' he
    cases e<;>exact he
   case row row args=>exact⟨λe=>(by cases e),λc cs _=>let⟨v,w',x,s⟩:=h c cs;⟨v,w',x,(StepsIn.of_steps s).mono λm _=>fenced_wide P m⟩⟩
   all_goals exact False.elim h
  | halt x w'=>
   cases x<;>simp only[Oper.upon]at h
   case panic=>exact h
 ·exact absurd h.2 hl
theorem my(hl:¬LetsOut Q):∀(l:List Oper),lT l=true->∀(a:Act)(w:World),wpList P ops Q l a w->wpListIn (Fence.wide.inRound r) n P ops Q l a w
 | [],_,a,w,h=>h
 | o :: l,hd,a,w,h=>by
  simp only[lT,List.all_cons,Bool.and_eq_true]at hd
  have ho:∀c,o.op≠.defer c:=λc e=>by rw[e]at hd;exact absurd hd.1 (by simp)
  simp only[wpList]at h;simp only[wpListIn]
  split
  ·rename_i hw
   rw[ag hw]at h;exact Oper.wpIn_mono (λa w=>my hl l hd.2 a w) (tG ho hl h)
  ·rename_i hw
   rw[af hw]at h;exact⟨λ_ _=>trivial,my hl l hd.2 _ _ h⟩
theorem jX(hl:¬LetsOut Q)(hd:lT ops.toList=true):∀(f:Nat)(listed:Array Bool)(a:Act)(w:World),wpAny P md ops Q f listed a w->wpAnyIn (Fence.wide.inRound r) n P md ops Q f listed a w
 | 0,_,_,_,h=>h
 | f+1,listed,a,w,h=>⟨h.1,λi hi=>by
  have h:=h.2 i hi;unfold wpOp at h;unfold wpOpIn
  cases ho:ops[i]? with
  | none=>rw[ho]at h;exact jX hl hd f _ _ _ h
  | some o=>
   simp only[ho]at h ⊢
   have hnd:∀c,o.op≠.defer c:=λc e=>by
    have:=List.all_eq_true.1 hd o (by have:=Array.mem_of_getElem? ho;exact Array.mem_toList_iff.2 this);rw[e]at this;exact absurd this (by simp)
   split
   ·rename_i hw
    rw[ag hw]at h;exact Oper.wpIn_mono (λa w=>jX hl hd f _ a w) (tG hnd hl h)
   ·rename_i hw
    rw[af hw]at h
    exact⟨λ_ _=>trivial,jX hl hd f _ _ _ h⟩⟩
theorem lk{id:Nat}{a:Act}{w:World}{l:List Oper}(hl:¬LetsOut Q)(hd:lT l=true)(C:World->Prop)(hm:P.follows .mixedOrders=true)(hB:Region.lexB .any l.toArray=true)(hC:C w.drew)
  (h:Qd P l.toArray C (λa'=>∀w',C w'->Q .normal a' w') l a):(Code.region id l.toArray true).wpIn (Fence.wide.inRound r) n P Q a w:=by
 simp only[Region.lexB,Bool.and_eq_true]at hB;refine wpIn_region_any hm (jX hl (by simpa using hd) _ _ _ _ (wpAny_of_quiet (Q:=λa'=>∀w',C w'->Q .normal a' w') (λ_ w' hw' h=>h w' hw') _ _ _ _ hC ?_));have:=wpAnyQ_lex (C:=C) (md:=.any) hB.1 l 0 (Array.replicate l.toArray.size false) a (by simp) (by simpa using hB.2) h.out
 simpa using this
theorem uV{D:World->Prop}{id:Nat}{a:Act}{w:World}{l:List Oper}(hl:¬LetsOut Q)(hd:lT l=true)(is:List Nat)(m F:Nat)(om:Oper)(hom:l.toArray[m]? = some om)(hm:P.follows .mixedOrders=true)(hs:Region.noSelect l.toArray=true)
  (hn:is.length<=l.length) (hB:ye .any l.toArray m is (Array.replicate l.toArray.size false)=true)
  (h:dM P .any l.toArray D m F (λa'=>dU P .any l.toArray D m (noP Q) (l.length - is.length) (tZ is (Array.replicate l.toArray.size false)) a' w.drew) is a):(Code.region id l.toArray true).wpIn (Fence.wide.inRound r) n P Q a w:=by
 refine wpIn_mono (Q:=noP Q) ?_ mS
 have hl':¬LetsOut (noP Q):=λ⟨a,w,h⟩=>hl ⟨a,w,mS _ _ _ h⟩
 refine wpIn_region_any hm (jX hl' (by simpa using hd) _ _ _ _ ?_)
 have hc0:Closed .any l.toArray (Array.replicate l.toArray.size false):=λj oj _ hl=>by rw[getD_replicate_false]at hl;cases hl
 have:=nK (md:=.any) (g:=l.length - is.length) (m:=m) (F:=F) (w:=w.drew) hs (λ_ _ _ _ _ h=>h) om hom is (Array.replicate l.toArray.size false) a hc0 hB (λa' h=>h) h
 rw[show is.length+(l.length - is.length)=l.toArray.size by simp<;>omega]at this
 exact iq _ _ _ _ this
theorem g8{id:Nat}{a:Act}{w:World}{l:List Oper}(hl:¬LetsOut Q)(hd:lT l=true)(h:wpList P l.toArray Q l a w):(Code.region id l.toArray false).wpIn (Fence.wide.inRound r) n P Q a w:=
 wpIn_region_lit (my hl l hd a w h)
end
open Go.Maps
structure Act where
 who:Int
 obj:Int
 call:Int
 part:Int
 arg:Int
 value:Int
 site:Int
 at_:Int
 ended:Bool
 result:Int
def gY(x:Act):List Value:=[.int .i64 x.who,.int .i64 x.obj,.int .i64 x.call,.int .i64 x.part,.int .u32 x.arg,.int .u32 x.value,.int .i64 x.site,.int .i64 x.at_,.bool x.ended,.int .u32 x.result,.slice none 0 0]
def eA:Enc Act:=⟨77,11,gY⟩
theorem ir:eA.Ok:=⟨λx=>rfl,λx u hu=>by
 simp only[eA,gY,List.mem_cons,List.not_mem_nil,or_false]at hu
 rcases hu with rfl|rfl|rfl|rfl|rfl|rfl|rfl|rfl|rfl|rfl|rfl<;>rfl,by decide⟩
theorem DC:(Tryz.prog.info? eA.ty).map (λi=>(i.zero.map (·.cells.size),i.size,i.bytes))=some (some eA.sz,eA.sz,88):=by kernel_rfl
structure HB(B0:Nat)(w:World)(k:Nat)(v:Value)(L:List Act):Prop where
 box:w.heap[k]? = some (.cells #[v] 84 (0,0))
 own:Own eA w v L
 k0:B0<=k
 v0:∀j,v.ownBlock=some j->B0<=j
theorem HB.below{B0:Nat}{w w':World}{k:Nat}{v:Value}{L:List Act}(h:HB B0 w k v L)(hb:Below w.heap.size w w'):HB B0 w' k v L:=⟨keep h.box hb,h.own.below hb,h.k0,h.v0⟩
structure KH(B0 k:Nat)(v:Value)(w w':World):Prop where
 low:Below B0 w w'
 oth:∀j,j<w.heap.size->j≠k->v.ownBlock≠some j->w'.heap[j]? = w.heap[j]?
theorem KH.trans{B0 k:Nat}{v:Value}{w w1 w':World}(h:KH B0 k v w w1)(h2:KH B0 k v w1 w'):KH B0 k v w w':=
 ⟨h.low.trans h2.low,λj hj a b=>(h2.oth j (aA hj h.low.size) a b).trans (h.oth j hj a b)⟩
theorem KH.of_below{B0 k:Nat}{v:Value}{w w':World}(h:Below w.heap.size w w')(hw:B0<=w.heap.size):KH B0 k v w w':=⟨h.mono hw,λj hj _ _=>h.block j hj⟩
theorem Ei(k:Nat)(w:World):(method 367 83 (.pointer (some ⟨k,0,none⟩)) "Push").run Tryz.prog w=.ok (226,.pointer (some ⟨k,0,none⟩)) w:=by kernel_rfl
theorem Gs(k:Nat)(w:World):(method 367 83 (.pointer (some ⟨k,0,none⟩)) "Pop").run Tryz.prog w=.ok (225,.pointer (some ⟨k,0,none⟩)) w:=by kernel_rfl
theorem uG{k:Nat}{w:World}{v:Value}(h:w.heap[k]? = some (.cells #[v] 84 (0,0))):(loadVar 84 ⟨k,0,none⟩).run Tryz.prog w=.ok v w:=by
 have c:w.cell? ⟨k,0,none⟩=some v:=ae w k 0 _ 84 _ h;simp[go_sem,c]
theorem DF{k:Nat}{w:World}{v:Value}(h:w.heap[k]? = some (.cells #[v] 84 (0,0))):(method 367 83 (.pointer (some ⟨k,0,none⟩)) "Len").run Tryz.prog w=.ok (23,v) w:=by
 have e:(method 367 83 (.pointer (some ⟨k,0,none⟩)) "Len").run Tryz.prog w=((loadVar 84 ⟨k,0,none⟩ >>= λv=>pure (23,v):Sem (FuncId×Value))).run Tryz.prog w:=by kernel_rfl
 rw[e,Sem.run_bind,uG h];rfl
theorem FN{k:Nat}{w:World}{v:Value}(h:w.heap[k]? = some (.cells #[v] 84 (0,0))):(method 367 83 (.pointer (some ⟨k,0,none⟩)) "Less").run Tryz.prog w=.ok (224,v) w:=by
 have e:(method 367 83 (.pointer (some ⟨k,0,none⟩)) "Less").run Tryz.prog w=((loadVar 84 ⟨k,0,none⟩ >>= λv=>pure (224,v):Sem (FuncId×Value))).run Tryz.prog w:=by kernel_rfl
 rw[e,Sem.run_bind,uG h];rfl
theorem D7{k:Nat}{w:World}{v:Value}(h:w.heap[k]? = some (.cells #[v] 84 (0,0))):(method 367 83 (.pointer (some ⟨k,0,none⟩)) "Swap").run Tryz.prog w=.ok (227,v) w:=by
 have e:(method 367 83 (.pointer (some ⟨k,0,none⟩)) "Swap").run Tryz.prog w=((loadVar 84 ⟨k,0,none⟩ >>= λv=>pure (227,v):Sem (FuncId×Value))).run Tryz.prog w:=by kernel_rfl
 rw[e,Sem.run_bind,uG h];rfl
theorem rR(p:Option Addr)(n c:Nat)(w:World):Calls Tryz.prog 23 #[.slice p n c] w λe w'=>e=.returned (.int .i64 n)/\w'=w:=by
 go_enter Tryz.func23,Tryz.ntmps23;go_wp2;go_ret;exact⟨rfl,rfl⟩
theorem AF{w:World}{g n c i j:Nat}{L:List Act}{x y:Act}(hO:Own eA w (.slice (some ⟨g,0,none⟩) n c) L)(hx:L[i]? = some x)(hy:L[j]? = some y)(hn:n=L.length):Calls Tryz.prog 224 #[.slice (some ⟨g,0,none⟩) n c,.int .i64 i,.int .i64 j] w λe w'=>e=.returned (.bool (decide (x.at_<y.at_)))/\Below w.heap.size w w':=by
 have hi:i<n:=by rw[hn];exact(aj.1 hx).1
 have hj:j<n:=by rw[hn];exact(aj.1 hy).1
 have i0:(0:Int)<=i:=by omega
 have i1:(i:Int)<n:=by omega
 have j0:(0:Int)<=j:=by omega
 have j1:(j:Int)<n:=by omega
 have cx:∀w':World,Below w.heap.size w w'->w'.cell? ⟨g,i * 11+7,none⟩=some (.int .i64 x.at_):=λw' h'=>by
  have h1:=((hO.below h').at ir).elem ir hx;rw[Nat.zero_add]at h1;exact h1 7 _ rfl
 have cy:∀w':World,Below w.heap.size w w'->w'.cell? ⟨g,j * 11+7,none⟩=some (.int .i64 y.at_):=λw' h'=>by
  have h1:=((hO.below h').at ir).elem ir hy;rw[Nat.zero_add]at h1;exact h1 7 _ rfl
 clear hn hO hx hy;go_enter Tryz.func224,Tryz.ntmps224;go_upto_region 1 with(fail);refine ZA w ?_
 iterate 12 refine Zz ?_
 refine aQ (λw2 h2=>?_);clear cx cy;go_wp2;go_ret;exact⟨rfl,h2⟩
theorem Bd{w:World}{g n c i j:Nat}{L:List Act}{x y:Act}(hO:Own eA w (.slice (some ⟨g,0,none⟩) n c) L)(hx:L[i]? = some x)(hy:L[j]? = some y)(hn:n=L.length):Calls Tryz.prog 227 #[.slice (some ⟨g,0,none⟩) n c,.int .i64 i,.int .i64 j] w λe w'=>e=.returned (.tuple #[])/\Own eA w' (.slice (some ⟨g,0,none⟩) n c) ((L.set i y).set j x)/\(∀k,k<w.heap.size->k≠g->w'.heap[k]? = w.heap[k]?)/\(∀B,B<=g->B<=w.heap.size->Below B w w'):=by
 have hi:i<n:=by rw[hn];exact(aj.1 hx).1
 have hj:j<n:=by rw[hn];exact(aj.1 hy).1
 have i0:(0:Int)<=i:=by omega
 have i1:(i:Int)<n:=by omega
 have j0:(0:Int)<=j:=by omega
 have j1:(j:Int)<n:=by omega
 have hx2:∃z,(L.set i y)[j]? = some z:=by
  by_cases e:i=j
  ·subst e;exact⟨y,by rw[List.getElem?_set_self (by rw[<-hn];exact hi)]⟩
  ·exact⟨y,by rw[List.getElem?_set_ne e];exact hy⟩
 obtain⟨z,hz⟩:=hx2;clear hn;go_enter Tryz.func227,Tryz.ntmps227;go_upto_region 0 with(fail);refine gq [0,1,2,3,4,5,6,7,8,9,10,11] 13 16 (λw'=>Below w.heap.size w w') _ rfl (by kernel_rfl) (by kernel_rfl) (by decide) (by kernel_rfl) ?_
 iterate 6 refine ZF ?_
 refine ox rfl rfl (.pointer (some ⟨g,j * 11,none⟩)) (λw'=>aE (by first|(go_simp;done)|(go_simp;rfl))) (Zj ?_)
 refine jt rfl rfl (by kernel_rfl) (.agg (gY y).toArray) (λw' h'=>aE (aZ 77 (.tmp 12) rfl g (j * 11) rfl (gY y) _ (by have h1:=((hO.below h').at ir).elem ir hy;rw[Nat.zero_add]at h1;exact h1) Tryz.underlying77 rfl (by kernel_rfl))) (Zj ?_)
 iterate 2 refine ZF ?_
 refine ox rfl rfl (.pointer (some ⟨g,i * 11,none⟩)) (λw'=>aE (by first|(go_simp;done)|(go_simp;rfl))) (Zj ?_)
 refine jt rfl rfl (by kernel_rfl) (.agg (gY x).toArray) (λw' h'=>aE (aZ 77 (.tmp 16) rfl g (i * 11) rfl (gY x) _ (by have h1:=((hO.below h').at ir).elem ir hx;rw[Nat.zero_add]at h1;exact h1) Tryz.underlying77 rfl (by kernel_rfl))) (Zj ?_);refine jS ?_;show dU _ _ _ _ _ _ _ _ _ _;have q0:Below w.heap.size w w.drew:=Below.drew (ak _ _);refine ZM 12 (λw1 r1=>⟨λ_=>q0.trans (r1.mono q0.size),?_⟩);have q1:=q0.trans (r1.mono q0.size);refine aR rfl rfl (.pointer (some ⟨g,i * 11,none⟩)) (by go_simp) ?_;refine ZM 13 (λw2 r2=>⟨λ_=>q1.trans (r2.mono q1.size),?_⟩);have q2:=q1.trans (r2.mono q1.size);refine rZ ir rfl rfl 77 (by kernel_rfl) (.tmp 18) (.tmp 13) rfl g i n c L x y rfl rfl (hO.below q2) hx (λw3 hO3 s2 s3=>?_);refine ZM 14 (λw4 r4=>⟨(λe=>absurd (show true=false from e) (by decide)),?_⟩);refine aR rfl rfl (.pointer (some ⟨g,j * 11,none⟩)) (by go_simp) ?_;refine ZM 15 (λw5 r5=>⟨(λe=>absurd (show true=false from e) (by decide)),?_⟩);have q5:Below w3.heap.size w3 w5:=r4.trans (r5.mono r4.size);refine rZ ir rfl rfl 77 (by kernel_rfl) (.tmp 19) (.tmp 17) rfl g j n c (L.set i y) z x rfl rfl (hO3.below q5) hz (λw6 hO6 u2 u3=>?_);refine bl (by kernel_rfl) (by kernel_rfl) (λw7 r7=>?_);have e3:=(s3 0 (au _)).size;have e6:=(u3 0 (au _)).size;have e2:=q2.size;have e5:=q5.size;have hO7:=hO6.below r7
 have hk:∀k,k<w.heap.size->k≠g->w7.heap[k]? = w.heap[k]? := λk hk hn=>((((r7.block k (by omega)).trans (u2 k hn)).trans (q5.block k (by omega))).trans (s2 k hn)).trans (q2.block k hk);have hB:∀B,B<=g->B<=w.heap.size->Below B w w7:=λB h1 h2=>((((q2.mono h2).trans (s3 B h1)).trans (q5.mono (by omega))).trans (u3 B h1)).trans (r7.mono (by omega));clear hO hO3 hO6 s2 s3 u2 u3 q0 q1 q2 q5 r1 r2 r4 r5 r7 hx hy hz;go_wp2;go_end0;exact⟨rfl,hO7,hk,hB⟩
theorem zg{B0 k:Nat}{w:World}{v:Value}{L:List Act}(h:HB B0 w k v L)(a:Act)(hl:L.length<=100000)(hw:B0<=w.heap.size):Calls Tryz.prog 226 #[.pointer (some ⟨k,0,none⟩),.iface 77 (.agg (gY a).toArray)] w λe w'=>e=.returned (.tuple #[])/\(∃v',HB B0 w' k v' (L++[a]))/\KH B0 k v w w':=by
 obtain⟨p,c,rfl⟩:=h.own.form2;obtain⟨n,hn⟩:=Zh (L.length);rw[<-hn.out]at h hl;go_enter Tryz.func226,Tryz.ntmps226;go_upto_region 0 with(fail);have cb:∀w':World,Below w.heap.size w w'->w'.cell? ⟨k,0,none⟩=some (.slice p n c):=λw' h'=>ae w' k 0 _ 84 _ (keep h.box h');refine gq [0,1,2,3,4,5] 7 9 (λw'=>Below w.heap.size w w') _ rfl (by kernel_rfl) (by kernel_rfl) (by decide) (by kernel_rfl) ?_
 iterate 3 refine ZF ?_
 refine ZR ?_;refine ZF ?_
 refine ox rfl rfl (.agg (gY a).toArray) (λw'=>aE (by first|(go_simp;done)|kernel_rfl|(go_simp;rfl))) (Zj ?_)
 refine jS ?_;show dU _ _ _ _ _ _ _ _ _ _;clear cb;have q0:Below w.heap.size w w.drew:=Below.drew (ak _ _);refine ZM 6 (λw1 r1=>⟨λ_=>q0.trans (r1.mono q0.size),?_⟩);have q1:=q0.trans (r1.mono q0.size)
 refine je rfl rfl (.slice (some ⟨w1.heap.size,0,none⟩) 1 1) (w':=w1.alloc (.cells (gY a).toArray 77)) (by first|kernel_rfl|go_simp) ?_
 obtain⟨w2,bN,e8,eg,BN,hb8⟩:=aO w1 (gY a).toArray 77;rw[e8,eg];clear e8 eg q0 r1;have q2:=q1.trans (hb8.mono q1.size);refine ZM 7 (λw3 r3=>⟨λ_=>q2.trans (r3.mono q2.size),?_⟩);have q3:=q2.trans (r3.mono q2.size);refine iM ir rfl rfl 84 Tryz.underlying84 88 DC (.tmp 7) (.tmp 10) rfl (.slice p n c) L [a] rfl (h.own.below q3) bN 0 1 rfl (cG (keep BN r3) _ rfl) (by rw[<-hn.out,List.length_singleton];omega) (by decide) (λv4 w4 hO4 hg4 hl4=>?_);obtain⟨p4,c4,rfl⟩:=hO4.form2
 have X4:w4.heap[k]? = some (.cells #[.slice p n c] 84 (0,0)):=(hg4.block k (aB (keep h.box q3)) (λe=>by
  obtain⟨cs,h5⟩:=(h.own.below q3).blk e.symm
  exact aK (keep h.box q3) h5 (by decide) rfl)).trans (keep h.box q3)
 have hs3:=q3.size;have q4:Below B0 w w4:=(q3.mono hw).grown hg4 (by omega) (λj e=>h.v0 j e)
 have hv4:∀j,(Value.slice p4 (L++[a]).length c4).ownBlock=some j->B0<=j:=λj e=>by
  rcases hl4 with h1|h1
  ·exact h.v0 j (h1.symm.trans e)
  ·rw[h1]at e;cases e;omega
 refine ZM 8 (λw45 r45=>⟨(λe=>absurd (show true=false from e) (by decide)),?_⟩);refine aR rfl rfl (.pointer (some ⟨k,0,none⟩)) (by go_simp) ?_;refine ZM 9 (λw5 r50=>⟨(λe=>absurd (show true=false from e) (by decide)),?_⟩);have r5:=r45.trans (r50.mono r45.size);clear r45 r50;refine du rfl rfl 84 (λw=>by kernel_rfl) (.tmp 12) (.tmp 11) rfl k 0 p4 _ c4 _ 84 rfl rfl (keep X4 r5) (by simp) (λw6 s1 s2 s3=>?_);refine bl (by kernel_rfl) (by kernel_rfl) (λw7 r7=>?_);have hs4:=q4.size;have hs5:=r5.size;have hs6:=(s3 0 (au _)).size;have h7:HB B0 w7 k (.slice p4 (L++[a]).length c4) (L++[a]):=⟨keep s1 r7,(Own.kept (hO4.below r5) (keep X4 r5) (by decide) s2).below r7,h.k0,hv4⟩
 have q7:KH B0 k (.slice p n c) w w7:=⟨((q4.trans (r5.mono (by omega))).trans (s3 _ h.k0)).trans (r7.mono (by omega)),λj hj jk jv=>
  (r7.block j (by have:=hg4.size;omega)).trans ((s2 j jk).trans ((r5.block j (by have:=hg4.size;omega)).trans ((hg4.block j (by omega) (λe=>jv e.symm)).trans (q3.block j hj))))⟩
 clear h hO4 hg4 hl4 X4 q1 q2 q3 q4 r3 r5 r7 s1 s2 s3 BN hb8;go_wp2;go_end0;exact⟨rfl,⟨_,h7⟩,hn.out▸q7⟩
theorem Cp{B0 k:Nat}{w:World}{v:Value}{L:List Act}{a:Act}(h:HB B0 w k v (L++[a]))(hl:L.length<=100000)(hw:B0<=w.heap.size):Calls Tryz.prog 225 #[.pointer (some ⟨k,0,none⟩)] w λe w'=>e=.returned (.iface 77 (.agg (gY a).toArray))/\(∃v',HB B0 w' k v' L/\∀j,v'.ownBlock=some j->v.ownBlock=some j)/\KH B0 k v w w':=by
 obtain⟨n,hn⟩:=Zh (L.length)
 have hn1:Hid ((L++[a]).length=n+1):=by rw[hn.out];simp[Hid]
 obtain⟨g,c,rfl⟩:∃g c,v=.slice (some ⟨g,0,none⟩) (n+1) c:=by
  rcases h.own.form with⟨_,e⟩|⟨g,c,e,_⟩
  ·simp at e
  ·exact⟨g,c,by rw[e,hn1.out]⟩
 have hO:=h.own
 have ha:(L++[a])[n]? = some a:=by rw[hn.out];simp
 have hrg:w.rangeAt g (n * 11) (gY a):=by
  have h1:=(hO.at ir).elem ir ha;rw[Nat.zero_add]at h1;exact h1
 have hcut:=wF ir hO n (by rw[hn1.out];omega)
 have hcL:(L++[a]).take n=L:=by rw[hn.out];simp
 rw[hcL]at hcut;obtain⟨_,hz1,_,_,hcc,hcm,hz2⟩:=i7 hO;clear hz1 hz2;rw[hn1.out]at hcc;rw[<-hn.out]at hl;have y0:w.cell? ⟨k,0,none⟩=some (.slice (some ⟨g,0,none⟩) (n+1) c):=ae w k 0 _ 84 _ h.box
 have n0:(0:Int)<=n:=by omega
 have n1:(n:Int)<((n+1:Nat):Int):=by omega
 clear ha hcL hO;go_enter Tryz.func225,Tryz.ntmps225;go_upto_region 2 with(fail);refine ab ?_
 iterate 3 refine Zv ?_
 refine aG rfl (.int .i64 n) ?_ ?_
 ·go_simp;try (rw[IntKind.wrap_i64];omega)
 refine Zk ?_;refine aG rfl (.pointer (some ⟨g,n * 11,none⟩)) ?_ ?_
 ·go_simp;try (intro hh;exact absurd hh (by omega))
 refine Zk ?_;refine dJ rfl (.agg (gY a).toArray) (aZ 77 (.tmp 12) rfl g (n * 11) rfl (gY a) _ hrg Tryz.underlying77 rfl (by kernel_rfl)) ?_;refine Zk ?_;refine Za 77 #[.int .i64 0,.int .i64 0,.int .i64 0,.int .i64 0,.int .u32 0,.int .u32 0,.int .i64 0,.int .i64 0,.bool false,.int .u32 0,.slice none 0 0] (λw1 kX XX l1 f1=>?_);refine bx rfl 77 (.tmp 4) (.tmp 13) rfl kX (gY a).toArray rfl rfl 77 _ XX (by kernel_rfl) rfl (by simp[Value.oneCell',gY]) (λw2 X2 g2 g3 g4=>?_);refine Zk ?_;have hb2:Below w.heap.size w w2:=l1.trans (g3 _ (by simp only[Hid]at f1;omega));have hb:=keep h.box hb2;clear g2 g3 g4 XX l1 f1 hrg y0;go_upto_region 3 with(fail);refine ab ?_
 iterate 4 refine Zv ?_
 refine aG rfl (.int .i64 n) ?_ ?_
 ·go_simp;try (rw[IntKind.wrap_i64];omega)
 refine Zk ?_;refine aG rfl (.slice (some ⟨g,0,none⟩) n c) ?_ ?_
 ·go_simp;try (intro hh;exact absurd hh (by omega))
 refine Zk ?_;refine Zv ?_;refine Zw 84 0 (.slice (some ⟨g,0,none⟩) n c) (gK _ _ _) hb (by simp) (λw3 s1 s2 s3=>?_);have X3:=(s2 kX (λe=>aK X2 hb (by decide) e)).trans X2;go_upto_region 4 with(fail);refine ab ?_;refine Zd 77 X3 Tryz.underlying77 ?_
 iterate 2 refine Zv ?_
 have h3:HB B0 w3 k (.slice (some ⟨g,0,none⟩) n c) L:=⟨s1,Own.kept (hcut.below hb2) hb (by decide) s2,h.k0,λj e=>h.v0 j e⟩;have hB:KH B0 k (.slice (some ⟨g,0,none⟩) (n+1) c) w w3:=⟨(hb2.mono hw).trans (s3 _ h.k0),λj hj jk _=>(s2 j jk).trans (hb2.block j hj)⟩;go_wp2;go_ret;exact⟨rfl,⟨_,h3,λj e=>e⟩,hB⟩
end Go.Proofs.YtldlcnaphednnaaGreatDoor
