/- Arguments opened (the lemma open_slice_fields is the guide's); what the listed variable gives. -/
import Derived.Test.YtldlcnaphednnaaGreatDoorRows
import Derived.Test.YtldlcnaphednnaaGreatDoorM00
import Derived.Test.YtldlcnaphednnaaGreatDoorM32
import Derived.Deep.Slices
import Derived.Deep.Fields
import Derived.ChangeSame
import Derived.LaidMore
import Derived.LaidLaws
import Derived.LaidHandle
import Derived.Stop.Joined
import Derived.ProofKit
import Derived.OpenShut
import Derived.Lib.SmallJoins
set_option maxRecDepth 100000
set_option maxHeartbeats 32000000
set_option linter.unusedVariables false
set_option linter.unusedSimpArgs false
namespace Go.Proofs.YtldlcnaphednnaaGreatDoor
open Go.ChangeShapes Go.WideShapes Go.ChangeAt Go.RowKit Go.Deep
theorem own:ownKnob Tryz.prog.godebug=none:=by kernel_rfl
theorem laid:laidOutB Tryz.prog=true:=by kernel_rfl
def ub:List (String×DataW Unit):=[("deadlatch/isa.uses", Rows.laid_deadlatch_isa_uses),("deadlatch/isa.names", Rows.laid_deadlatch_isa_names),("deadlatch/obj.names", Rows.laid_deadlatch_obj_names)]
theorem EV{s t:ByteArray}(h:s.data.toList=t.data.toList):s=t:=by
 obtain⟨⟨l⟩⟩:=s;obtain⟨⟨l'⟩⟩:=t;simp at h;rw[h]
theorem nU{W:World}{nm:String}{g0 ty n:Nat}{cs0:Array Value}{f0:Nat}{p0:List MemPlace}{dt:DataW Unit}(L:List (List UInt8))(hL:L.length=n)(hdt:dt=.agg (L.map λb=>.lit (.string b)))(hu:Tryz.prog.underlying ty=some (.array n 9))(hC:Tryz.prog.cellsOf ty=n)
  (hg0:Tryz.prog.globalNamed nm=some g0) (hv0:W.var? Tryz.prog nm=some cs0) (hd0:DataW.trod (H:=Unit) (λ_=>()) Tryz.prog W 0 (λ_=>true) false f0 ty cs0.toList=some (dt,p0)) (B:Nat->ByteArray) (hB:∀i,i<n->(B i).data.toList=L.getD i []):∀i,i<n->W.cell? ⟨g0,i,none⟩=some (.string (B i)):=by
 obtain⟨xs,m1,_,hx1,hlen,hn,hel⟩:=DataW.trod_array hu hd0
 have hC9:Tryz.prog.cellsOf 9=1:=by kernel_rfl
 have hxs:xs.map (·.1)=L.map λb=>(.lit (.string b):DataW Unit):=by
  have h1:=(Prod.mk.inj hx1).1;rw[hdt]at h1;injection h1 with h1;exact h1.symm
 intro i hi;have h1:=hel i hi;rw[hC9,Nat.mul_one]at h1
 have hil:i<cs0.toList.length:=by rw[hlen,hC];exact hi
 have hone:(cs0.toList.drop i).take 1=[cs0.toList[i]]:=by
  rw[List.drop_eq_getElem_cons hil];rfl
 rw[hone,aq (by omega)]at h1;obtain⟨s,hs1,hs2,_⟩:=DataW.trod_string Tryz.underlying9 h1
 have hiL:i<L.length:=by omega
 have hxi:(xs.map (·.1))[i]? = some (.lit (.string s.data.toList)):=by
  rw[List.getElem?_map,aq (by omega)];simp[hs2]
 rw[hxs,List.getElem?_map,aq hiL]at hxi
 have hb:s.data.toList=L[i]:=by simpa[eq_comm] using hxi
 have hcell:=World.var?_cell hg0 hv0 i
 have hc:cs0[i]? = some (.string s):=by
  rw[<-Array.getElem?_toList,aq hil]
  have:cs0.toList[i]=.string s:=by simpa using hs1
  rw[this]
 rw[hcell,hc];have h2:=hB i hi
 have h3:L.getD i []=L[i]:=by simp[List.getD,aq hiL]
 rw[h3,<-hb]at h2;rw[EV h2]
theorem tg{W:World}{nm:String}{g0 ty n:Nat}{cs0:Array Value}{f0:Nat}{p0:List MemPlace}{dt:DataW Unit}(L:List Int)(hL:L.length=n)(hdt:dt=.agg (L.map λb=>.lit (.int .i64 b)))(hu:Tryz.prog.underlying ty=some (.array n 3))(hC:Tryz.prog.cellsOf ty=n)
  (hg0:Tryz.prog.globalNamed nm=some g0) (hv0:W.var? Tryz.prog nm=some cs0) (hd0:DataW.trod (H:=Unit) (λ_=>()) Tryz.prog W 0 (λ_=>true) false f0 ty cs0.toList=some (dt,p0)):∀i,i<n->W.cell? ⟨g0,i,none⟩=some (.int .i64 (L.getD i 0)):=by
 obtain⟨xs,m1,_,hx1,hlen,hn,hel⟩:=DataW.trod_array hu hd0
 have hC3:Tryz.prog.cellsOf 3=1:=by kernel_rfl
 have hxs:xs.map (·.1)=L.map λb=>(.lit (.int .i64 b):DataW Unit):=by
  have h1:=(Prod.mk.inj hx1).1;rw[hdt]at h1;injection h1 with h1;exact h1.symm
 intro i hi;have h1:=hel i hi;rw[hC3,Nat.mul_one]at h1
 have hil:i<cs0.toList.length:=by rw[hlen,hC];exact hi
 have hone:(cs0.toList.drop i).take 1=[cs0.toList[i]]:=by
  rw[List.drop_eq_getElem_cons hil];rfl
 rw[hone,aq (by omega)]at h1;obtain⟨s,hs1,hs2,_⟩:=DataW.trod_int Tryz.underlying3 h1
 have hiL:i<L.length:=by omega
 have hxi:(xs.map (·.1))[i]? = some (.lit (.int .i64 s)):=by
  rw[List.getElem?_map,aq (by omega)];simp[hs2]
 rw[hxs,List.getElem?_map,aq hiL]at hxi
 have hb:s=L[i]:=by simpa[eq_comm] using hxi
 have hcell:=World.var?_cell hg0 hv0 i
 have hc:cs0[i]? = some (.int .i64 s):=by
  rw[<-Array.getElem?_toList,aq hil]
  have:cs0.toList[i]=.int .i64 s:=by simpa using hs1
  rw[this]
 rw[hcell,hc]
 have h3:L.getD i 0=L[i]:=by simp[List.getD,aq hiL]
 rw[h3,<-hb]
theorem gN:Tryz.prog.globalNamed "deadlatch/obj.names" = some 1:=by kernel_rfl
theorem gI:Tryz.prog.globalNamed "deadlatch/isa.names" = some 2:=by kernel_rfl
theorem gU:Tryz.prog.globalNamed "deadlatch/isa.uses" = some 0:=by kernel_rfl
theorem tN:(Tryz.prog.globals[1]?).map (·.type)=some 183:=by kernel_rfl
theorem tI:(Tryz.prog.globals[2]?).map (·.type)=some 189:=by kernel_rfl
theorem tU:(Tryz.prog.globals[0]?).map (·.type)=some 167:=by kernel_rfl
def nmT:List (List UInt8):=(List.range 16).map λi=>(nmB i).data.toList
def isL:List (List UInt8):=(List.range 28).map λi=>(uJ i).data.toList
def usL:List Int:=(List.range 28).map λi=>(eJ i:Int)
theorem od{W:World}(h:laidMetH Tryz.prog ub W):NmW W/\IsaW W:=by
 rw[MakeChecks.laidMetH_plain _ _ _ (by kernel_rfl)]at h;obtain⟨ps,⟨g0,t0,cs0,f0,p0,q0,hg0,ht0,hv0,hd0,⟨g1,t1,cs1,f1,p1,q1,hg1,ht1,hv1,hd1,⟨g2,t2,cs2,f2,p2,q2,hg2,ht2,hv2,hd2,_,_⟩,_⟩,_⟩,_,_⟩:=h;obtain rfl:=Option.some.inj (gU.symm.trans hg0);obtain rfl:=Option.some.inj (tU.symm.trans ht0);obtain rfl:=Option.some.inj (gI.symm.trans hg1);obtain rfl:=Option.some.inj (tI.symm.trans ht1);obtain rfl:=Option.some.inj (gN.symm.trans hg2);obtain rfl:=Option.some.inj (tN.symm.trans ht2);refine⟨nU nmT (by decide +kernel) (by kernel_rfl) Tryz.underlying183 (by kernel_rfl) hg2 hv2 hd2 nmB (λi hi=>by simp[nmT,hi]),⟨λi hi=>?_,nU isL (by decide +kernel) (by kernel_rfl) Tryz.underlying189 (by kernel_rfl) hg1 hv1 hd1 uJ (λi hi=>by simp[isL,hi])⟩⟩;have:=tg usL (by decide +kernel) (by kernel_rfl) Tryz.underlying167 (by kernel_rfl) hg0 hv0 hd0 i hi;rw[this];simp[usL,hi]
theorem zh(os:Os)(args:Array Value):laidMetH Tryz.prog ub ((World.doorLaid Tryz.prog 400 os).forCall (λ_ _=>0) ⟨#[],args,[]⟩).memory:=
 laidMetH_of_parts3 (fuel:=8) (laidMet_of_run' 8 (by kernel_rfl) (by kernel_rfl)) (by kernel_rfl) (by kernel_rfl)
section
variable {H:Type} {enc:TypeId×Value->H} {P:Program} {w:World} {base:Nat} {spare:Nat->Bool} {held:Bool}
theorem jL{t e:TypeId}{fs:Array Field}{fuel:Nat}{cs:List Value}{x:DataW H×List MemPlace}(ht:P.underlying t=some (.slice e))(he:P.underlying e=some (.struct fs))
  (hone:oneCellFields P fs=true) (hC:P.cellsOf e=fs.size) (h:DataW.trod enc P w base spare held fuel t cs=some x):
  (cs=[.slice none 0 0]/\x=(.nil,[])) \/
  ∃(a:Addr)(len cap m:Nat)(D:Nat->DataW H)(Pl:Nat->List MemPlace),cs=[.slice (some a) len cap]/\base<=a.block/\len<=cap/\cap<=maxLen/\m=(if spare a.block then cap else len)/\
   x=(.slice ((List.range len).map D) ((List.range (m - len)).map λj=>D (len+j)),MemPlace.row a (m * fs.size)++(List.range m).flatMap Pl)/\
   ∀i,i<m->∃(ys:List (DataW H×List MemPlace)) (n:Nat),D i=.agg (ys.map (·.1))/\Pl i=ys.flatMap (·.2)/\ys.length=fs.size/\
    ∀(j:Nat)(f:Field),fs[j]? = some f->∃(v:Value)(y:DataW H×List MemPlace),w.cell? (a.add (i * fs.size+j))=some v/\ys[j]? = some y/\DataW.trod enc P w base spare held n f.type [v]=some y:=by
 rcases open_slice ht h with h0|⟨a,len,cap,m,n,D,Pl,hcs,hb,hl,hm,hmm,hx,hi⟩
 ·exact .inl h0
 ·refine .inr ⟨a,len,cap,m,D,Pl,hcs,hb,hl,hm,hmm,by rw[hC]at hx;exact hx,λi him=>?_⟩
  obtain⟨cs',hc,ht'⟩:=hi i him;rw[hC]at hc;obtain⟨ys,n',hn',hy,hlen,hyl,hf⟩:=DataW.trod_struct he ht';obtain⟨_,hcl,hat⟩:=World.cells?_some hc;simp only[Prod.mk.injEq]at hy;refine⟨ys,n',hy.1,hy.2,hyl,λj f hj=>?_⟩;obtain⟨ho,hk⟩:=hone_of hone j f hj;have hjl:j<fs.size:=(Array.getElem?_eq_some_iff.1 hj).1;have hcell:=hat j hjl;have hv:cs'[j]? = some (cs'[j]'(by omega)):=aq (by omega);have h1:=hf j f hj;rw[ho,hk]at h1
  have hone':(cs'.drop j).take 1=[cs'[j]'(by omega)]:=by
   rw[List.drop_eq_getElem_cons (by omega)];rfl
  rw[hone']at h1;have hys:ys[j]? = some (ys[j]'(by omega)):=aq (by omega);refine⟨_,_,?_,hys,h1.trans hys⟩;rw[<-Go.Deep.add_add,hcell,hv]
end
section
variable {H:Type} {enc:TypeId×Value->H} {P:Program} {w:World} {base:Nat} {spare:Nat->Bool} {held:Bool}
theorem xt{r:Reach}{b0:Nat}{t:TypeId}{f0 f1 f2 f3 f4:Field}{v:Value}{d:DataW H}{p:List MemPlace}(hs:P.underlying t=some (.struct #[f0,f1,f2,f3,f4]))(hone:oneCellFields P #[f0,f1,f2,f3,f4]=true)(hC:P.cellsOf t=5)
  (hv:Value.okWide P w r b0 t v) (h:DataW.Trod enc P w base spare held t v d p):
  ∃(v0 v1 v2 v3 v4:Value)(y0 y1 y2 y3 y4:DataW H×List MemPlace)(n:Nat),v=.agg #[v0,v1,v2,v3,v4]/\
   DataW.trod enc P w base spare held n f0.type [v0]=some y0/\DataW.trod enc P w base spare held n f1.type [v1]=some y1/\DataW.trod enc P w base spare held n f2.type [v2]=some y2/\DataW.trod enc P w base spare held n f3.type [v3]=some y3/\DataW.trod enc P w base spare held n f4.type [v4]=some y4:=by
 obtain⟨cs,rfl,hsz⟩:=okWide_struct hs hv;have hsz5:cs.size=5:=hsz.trans hC;obtain⟨fuel,hf⟩:=h;obtain⟨xs,n,_,hx,hl,hlen,hfl⟩:=DataW.trod_struct hs hf;obtain⟨o0,k0⟩:=hone_of hone 0 f0 rfl;obtain⟨o1,k1⟩:=hone_of hone 1 f1 rfl;obtain⟨o2,k2⟩:=hone_of hone 2 f2 rfl;obtain⟨o3,k3⟩:=hone_of hone 3 f3 rfl;obtain⟨o4,k4⟩:=hone_of hone 4 f4 rfl;obtain⟨l⟩:=cs
 match l,hsz5,xs,hlen with
 | [v0,v1,v2,v3,v4],_,[y0,y1,y2,y3,y4],_=>
  have t0:=hfl 0 f0 rfl;have t1:=hfl 1 f1 rfl;have t2:=hfl 2 f2 rfl;have t3:=hfl 3 f3 rfl;have t4:=hfl 4 f4 rfl;rw[o0,k0]at t0;rw[o1,k1]at t1;rw[o2,k2]at t2;rw[o3,k3]at t3;rw[o4,k4]at t4;exact⟨v0,v1,v2,v3,v4,y0,y1,y2,y3,y4,n,rfl,t0,t1,t2,t3,t4⟩
end
section
variable {H:Type} {enc:TypeId×Value->H} {w:World} {base:Nat} {spare:Nat->Bool} {held:Bool}
theorem fX{cs:List Value}{fuel:Nat}{x:DataW H×List MemPlace}(h:DataW.trod enc Tryz.prog w base spare held fuel 3 cs=some x):∃n,cs=[.int .i64 n]/\-9223372036854775808<=n/\n<=9223372036854775807:=by
 obtain⟨n,h1,_,hw⟩:=DataW.trod_int Tryz.underlying3 h;exact⟨n,h1,bounds_i64 hw⟩
theorem AX{cs:List Value}{fuel:Nat}{x:DataW H×List MemPlace}(h:DataW.trod enc Tryz.prog w base spare held fuel 37 cs=some x):∃n,cs=[.int .u32 n]/\0<=n/\n<=4294967295:=by
 obtain⟨n,h1,_,hw⟩:=DataW.trod_int Tryz.underlying37 h;exact⟨n,h1,bounds_u32 hw⟩
theorem iv{w:World}{b off:Nat}{v:Value}(h:w.cell? ⟨b,off,none⟩=some v):b<w.heap.size:=by
 unfold World.cell? at h
 split at h
 ·rename_i h';exact aB h'
 ·cases h
theorem xT{v:Value}{fuel:Nat}{y:DataW H×List MemPlace}(h:DataW.trod enc Tryz.prog w base spare held fuel 22 [v]=some y):∃A n cn f,v=.slice A n cn/\Objs w A n f/\n<=cn/\∀i,i<n->-9223372036854775808<=(f i).n/\(f i).n<=9223372036854775807:=by
 rcases jL Tryz.underlying22 Tryz.underlying43 (by kernel_rfl) (by kernel_rfl) h with⟨e,_⟩|⟨a,len,cap,m,D,Pl,e,hb,hl,hm,hmm,hx,hi⟩
 ·have e':v=.slice none 0 0:=by simpa using e
  subst e';exact⟨_,_,_,λ_=>⟨0,0,0,0⟩,rfl,λh=>absurd h (by omega),ah _,λi hi=>absurd hi (by omega)⟩
 ·have e':v=.slice (some a) len cap:=by simpa using e
  subst e'
  have hml:len<=m:=by rw[hmm];split<;>omega
  have hc':∀i,∃x:O,i<len->(w.cell? (a.add (i * 4+0))=some (.int .i64 x.k)/\w.cell? (a.add (i * 4+1))=some (.int .i64 x.n)/\w.cell? (a.add (i * 4+2))=some (.int .i64 x.a)/\w.cell? (a.add (i * 4+3))=some (.int .i64 x.b))/\-9223372036854775808<=x.n/\x.n<=9223372036854775807:=λi=>by
   by_cases hil:i<len
   ·obtain⟨ys,n,_,_,_,hfld⟩:=hi i (by omega)
    obtain⟨v0,y0,c0,_,t0⟩:=hfld 0 _ rfl;obtain⟨k0,e0,r0⟩:=fX t0;simp only[List.cons.injEq,and_true]at e0;subst e0;obtain⟨v1,y1,c1,_,t1⟩:=hfld 1 _ rfl;obtain⟨k1,e1,r1⟩:=fX t1;simp only[List.cons.injEq,and_true]at e1;subst e1;obtain⟨v2,y2,c2,_,t2⟩:=hfld 2 _ rfl;obtain⟨k2,e2,r2⟩:=fX t2;simp only[List.cons.injEq,and_true]at e2;subst e2;obtain⟨v3,y3,c3,_,t3⟩:=hfld 3 _ rfl;obtain⟨k3,e3,r3⟩:=fX t3;simp only[List.cons.injEq,and_true]at e3;subst e3;exact⟨⟨k0,k1,k2,k3⟩,λ_=>⟨⟨c0,c1,c2,c3⟩,r1⟩⟩
   ·exact⟨⟨0,0,0,0⟩,λh=>absurd h hil⟩
  obtain⟨g,hg⟩:=Classical.axiomOfChoice hc';refine⟨_,_,_,g,rfl,λhn=>?_,hl,λi hil=>(hg i hil).2⟩;obtain⟨b,off,spot⟩:=a;obtain⟨⟨z0,_,_,_⟩,_⟩:=hg 0 hn
  have hspot:spot=none:=by simpa[Addr.add] using World.cell?_spot z0
  subst hspot;refine⟨b,off,rfl,?_,λi hil=>?_⟩
  ·simp only[bX]at z0;exact iv z0
  ·have h:=(hg i hil).1
   simp only[bX,Nat.add_zero,<-Nat.add_assoc]at h;exact h
theorem Bp{v:Value}{fuel:Nat}{y:DataW H×List MemPlace}(h:DataW.trod enc Tryz.prog w base spare held fuel 50 [v]=some y):∃A n cn f,v=.slice A n cn/\Ops w A n f/\n<=cn/\∀i,i<n->0<=(f i).K/\(f i).K<4294967296:=by
 rcases jL Tryz.underlying50 Tryz.underlying49 (by kernel_rfl) (by kernel_rfl) h with⟨e,_⟩|⟨a,len,cap,m,D,Pl,e,hb,hl,hm,hmm,hx,hi⟩
 ·have e':v=.slice none 0 0:=by simpa using e
  subst e';exact⟨_,_,_,λ_=>⟨0,0,0,0⟩,rfl,λh=>absurd h (by omega),ah _,λi hi=>absurd hi (by omega)⟩
 ·have e':v=.slice (some a) len cap:=by simpa using e
  subst e'
  have hml:len<=m:=by rw[hmm];split<;>omega
  have hc':∀i,∃x:X,i<len->(w.cell? (a.add (i * 4+0))=some (.int .i64 x.k)/\w.cell? (a.add (i * 4+1))=some (.int .i64 x.a)/\w.cell? (a.add (i * 4+2))=some (.int .i64 x.b)/\w.cell? (a.add (i * 4+3))=some (.int .u32 x.K))/\0<=x.K/\x.K<4294967296:=λi=>by
   by_cases hil:i<len
   ·obtain⟨ys,n,_,_,_,hfld⟩:=hi i (by omega)
    obtain⟨v0,y0,c0,_,t0⟩:=hfld 0 _ rfl;obtain⟨k0,e0,r0⟩:=fX t0;simp only[List.cons.injEq,and_true]at e0;subst e0;obtain⟨v1,y1,c1,_,t1⟩:=hfld 1 _ rfl;obtain⟨k1,e1,r1⟩:=fX t1;simp only[List.cons.injEq,and_true]at e1;subst e1;obtain⟨v2,y2,c2,_,t2⟩:=hfld 2 _ rfl;obtain⟨k2,e2,r2⟩:=fX t2;simp only[List.cons.injEq,and_true]at e2;subst e2;obtain⟨v3,y3,c3,_,t3⟩:=hfld 3 _ rfl;obtain⟨k3,e3,r3⟩:=AX t3;simp only[List.cons.injEq,and_true]at e3;subst e3;exact⟨⟨k0,k1,k2,k3⟩,λ_=>⟨⟨c0,c1,c2,c3⟩,⟨r3.1,by show k3<4294967296;omega⟩⟩⟩
   ·exact⟨⟨0,0,0,0⟩,λh=>absurd h hil⟩
  obtain⟨g,hg⟩:=Classical.axiomOfChoice hc';refine⟨_,_,_,g,rfl,λhn=>?_,hl,λi hil=>(hg i hil).2⟩;obtain⟨b,off,spot⟩:=a;obtain⟨⟨z0,_,_,_⟩,_⟩:=hg 0 hn
  have hspot:spot=none:=by simpa[Addr.add] using World.cell?_spot z0
  subst hspot;refine⟨b,off,rfl,?_,λi hil=>?_⟩
  ·simp only[bX]at z0;exact iv z0
  ·have h:=(hg i hil).1
   simp only[bX,Nat.add_zero,<-Nat.add_assoc]at h;exact h
theorem vk{v:Value}{fuel:Nat}{y:DataW H×List MemPlace}(h:DataW.trod enc Tryz.prog w base spare held fuel 23 [v]=some y):∃(A:Option Addr)(n cn:Nat),v=.slice A n cn/\n<=cn/\(0<n->∃b off,A=some ⟨b,off,none⟩/\b<w.heap.size/\∀i,i<n->∃u fuel y,w.cell? ⟨b,off+i,none⟩=some u/\DataW.trod enc Tryz.prog w base spare held fuel 3 [u]=some y):=by
 have hC:Tryz.prog.cellsOf 3=1:=by kernel_rfl
 rcases open_slice Tryz.underlying23 h with⟨e,_⟩|⟨a,len,cap,m,n,D,Pl,e,hb,hl,hm,hmm,hx,hi⟩
 ·have e':v=.slice none 0 0:=by simpa using e
  subst e';exact⟨_,_,_,rfl,ah _,λh=>absurd h (by omega)⟩
 ·have e':v=.slice (some a) len cap:=by simpa using e
  subst e'
  have hml:len<=m:=by rw[hmm];split<;>omega
  have hc':∀i,i<len->∃u fuel y,w.cell? (a.add i)=some u/\DataW.trod enc Tryz.prog w base spare held fuel 3 [u]=some y:=λi hil=>by
   obtain⟨cs',hc,ht'⟩:=hi i (by omega);rw[hC,Nat.mul_one]at hc;obtain⟨_,hcl,hat⟩:=World.cells?_some hc;have h0:=hat 0 (by omega)
   have hcs:cs'=[cs'[0]'(by omega)]:=by
    match cs',hcl with
    | [u],_=>rfl
   rw[hcs]at ht';refine⟨cs'[0]'(by omega),_,_,?_,ht'⟩;rw[<-aq (by omega),<-h0,Go.Deep.add_add,Nat.add_zero]
  refine⟨_,_,_,rfl,hl,λhn=>?_⟩;obtain⟨b,off,spot⟩:=a;obtain⟨u,_,_,z0,_⟩:=hc' 0 hn
  have hspot:spot=none:=by simpa[Addr.add] using World.cell?_spot z0
  subst hspot;refine⟨b,off,rfl,?_,λi hil=>?_⟩
  ·simp only[bX]at z0;exact iv z0
  ·have h:=hc' i hil
   simp only[bX]at h;exact h
theorem u6{v:Value}{fuel:Nat}{y:DataW H×List MemPlace}(h:DataW.trod enc Tryz.prog w base spare held fuel 24 [v]=some y):∃(A:Option Addr)(n cn:Nat),v=.slice A n cn/\n<=cn/\(0<n->∃b off,A=some ⟨b,off,none⟩/\b<w.heap.size/\∀i,i<n->∃u fuel y,w.cell? ⟨b,off+i,none⟩=some u/\DataW.trod enc Tryz.prog w base spare held fuel 50 [u]=some y):=by
 have hC:Tryz.prog.cellsOf 50=1:=by kernel_rfl
 rcases open_slice Tryz.underlying24 h with⟨e,_⟩|⟨a,len,cap,m,n,D,Pl,e,hb,hl,hm,hmm,hx,hi⟩
 ·have e':v=.slice none 0 0:=by simpa using e
  subst e';exact⟨_,_,_,rfl,ah _,λh=>absurd h (by omega)⟩
 ·have e':v=.slice (some a) len cap:=by simpa using e
  subst e'
  have hml:len<=m:=by rw[hmm];split<;>omega
  have hc':∀i,i<len->∃u fuel y,w.cell? (a.add i)=some u/\DataW.trod enc Tryz.prog w base spare held fuel 50 [u]=some y:=λi hil=>by
   obtain⟨cs',hc,ht'⟩:=hi i (by omega);rw[hC,Nat.mul_one]at hc;obtain⟨_,hcl,hat⟩:=World.cells?_some hc;have h0:=hat 0 (by omega)
   have hcs:cs'=[cs'[0]'(by omega)]:=by
    match cs',hcl with
    | [u],_=>rfl
   rw[hcs]at ht';refine⟨cs'[0]'(by omega),_,_,?_,ht'⟩;rw[<-aq (by omega),<-h0,Go.Deep.add_add,Nat.add_zero]
  refine⟨_,_,_,rfl,hl,λhn=>?_⟩;obtain⟨b,off,spot⟩:=a;obtain⟨u,_,_,z0,_⟩:=hc' 0 hn
  have hspot:spot=none:=by simpa[Addr.add] using World.cell?_spot z0
  subst hspot;refine⟨b,off,rfl,?_,λi hil=>?_⟩
  ·simp only[bX]at z0;exact iv z0
  ·have h:=hc' i hil
   simp only[bX]at h;exact h
theorem ui{r:Reach}{b0:Nat}{v:Value}{d:DataW H}{ps:List MemPlace}(hv:Value.okWide Tryz.prog w r b0 26 v)(h:DataW.Trod enc Tryz.prog w base spare held 26 v d ps):∃C:Cl,v=C.v/\MemC w C:=by
 obtain⟨v0,v1,v2,v3,v4,y0,y1,y2,y3,y4,n,rfl,t0,t1,t2,t3,t4⟩:=xt Tryz.underlying26 (by kernel_rfl) (by kernel_rfl) hv h;obtain⟨A,no,ca,f,rfl,hA,hca,hfr⟩:=xT t0;obtain⟨vars,ev,_⟩:=fX t1;obtain⟨W,nw,cw,rfl,hcw,hW⟩:=vk t2;obtain⟨room,er,_⟩:=fX t3;obtain⟨T,nt,ct,rfl,hct,hT⟩:=u6 t4;simp only[List.cons.injEq,and_true]at ev er;subst ev er
 have hown:∃own:Nat->Int,IntsF w W nw own:=by
  by_cases h0:0<nw
  ·obtain⟨b,off,e,hb,hc⟩:=hW h0
   have hc':∀i,∃k:Int,i<nw->w.cell? ⟨b,off+i,none⟩=some (.int .i64 k):=λi=>by
    by_cases hi:i<nw
    ·obtain⟨u,fu,y,c,tt⟩:=hc i hi
     obtain⟨k,ek,_⟩:=fX tt;simp only[List.cons.injEq,and_true]at ek;subst ek;exact⟨k,λ_=>c⟩
    ·exact⟨0,λh=>absurd h hi⟩
   obtain⟨g,hg⟩:=Classical.axiomOfChoice hc';exact⟨g,λ_=>⟨b,off,e,hb,λi hi=>hg i hi⟩⟩
  ·exact⟨λ_=>0,λh=>absurd h h0⟩
 obtain⟨own,hown⟩:=hown
 have hthr:∃(tp:Nat->Option Addr)(len tc:Nat->Nat)(op:Nat->Nat->X),Thr w T nt tp len tc/\∀i,i<nt->Ops w (tp i) (len i) (op i)/\len i<=tc i/\∀j,j<len i->0<=(op i j).K/\(op i j).K<4294967296:=by
  by_cases h0:0<nt
  ·obtain⟨b,off,e,hb,hc⟩:=hT h0
   have hc':∀i,∃q:Option Addr×Nat×Nat×(Nat->X),i<nt->w.cell? ⟨b,off+i,none⟩=some (.slice q.1 q.2.1 q.2.2.1)/\Ops w q.1 q.2.1 q.2.2.2/\q.2.1<=q.2.2.1/\∀j,j<q.2.1->0<=(q.2.2.2 j).K/\(q.2.2.2 j).K<4294967296:=λi=>by
    by_cases hi:i<nt
    ·obtain⟨u,fu,y,c,tt⟩:=hc i hi
     obtain⟨P,n',c',f',rfl,h1,h2,h3⟩:=Bp tt;exact⟨(P,n',c',f'),λ_=>⟨c,h1,h2,h3⟩⟩
    ·exact⟨(none,0,0,λ_=>⟨0,0,0,0⟩),λh=>absurd h hi⟩
   obtain⟨g,hg⟩:=Classical.axiomOfChoice hc';exact⟨λi=>(g i).1,λi=>(g i).2.1,λi=>(g i).2.2.1,λi=>(g i).2.2.2,λ_=>⟨b,off,e,hb,λi hi=>(hg i hi).1⟩,λi hi=>(hg i hi).2⟩
  ·exact⟨λ_=>none,λ_=>0,λ_=>0,λ_ _=>⟨0,0,0,0⟩,λh=>absurd h h0,λi hi=>absurd hi (by omega)⟩
 obtain⟨tp,len,tc,op,h1,h2⟩:=hthr;exact⟨⟨A,no,ca,f,vars,W,nw,cw,own,room,T,nt,ct,tp,len,tc,op⟩,rfl,⟨hA,hown,h1,λt ht=>(h2 t ht).1,hca,hcw,hct,λt ht=>(h2 t ht).2.1,hfr,λt i ht hi=>(h2 t ht).2.2 i hi⟩⟩
theorem xh{v:Value}{fuel:Nat}{y:DataW H×List MemPlace}(h:DataW.trod enc Tryz.prog w base spare held fuel 27 [v]=some y):∃(A:Option Addr)(n cn:Nat),v=.slice A n cn/\n<=cn/\(0<n->∃b off,A=some ⟨b,off,none⟩/\b<w.heap.size/\∀i,i<n->∃u fuel y,w.cell? ⟨b,off+i,none⟩=some u/\DataW.trod enc Tryz.prog w base spare held fuel 5 [u]=some y):=by
 have hC:Tryz.prog.cellsOf 5=1:=by kernel_rfl
 rcases open_slice Tryz.underlying27 h with⟨e,_⟩|⟨a,len,cap,m,n,D,Pl,e,hb,hl,hm,hmm,hx,hi⟩
 ·have e':v=.slice none 0 0:=by simpa using e
  subst e';exact⟨_,_,_,rfl,ah _,λh=>absurd h (by omega)⟩
 ·have e':v=.slice (some a) len cap:=by simpa using e
  subst e'
  have hml:len<=m:=by rw[hmm];split<;>omega
  have hc':∀i,i<len->∃u fuel y,w.cell? (a.add i)=some u/\DataW.trod enc Tryz.prog w base spare held fuel 5 [u]=some y:=λi hil=>by
   obtain⟨cs',hc,ht'⟩:=hi i (by omega);rw[hC,Nat.mul_one]at hc;obtain⟨_,hcl,hat⟩:=World.cells?_some hc;have h0:=hat 0 (by omega)
   have hcs:cs'=[cs'[0]'(by omega)]:=by
    match cs',hcl with
    | [u],_=>rfl
   rw[hcs]at ht';refine⟨cs'[0]'(by omega),_,_,?_,ht'⟩;rw[<-aq (by omega),<-h0,Go.Deep.add_add,Nat.add_zero]
  refine⟨_,_,_,rfl,hl,λhn=>?_⟩;obtain⟨b,off,spot⟩:=a;obtain⟨u,_,_,z0,_⟩:=hc' 0 hn
  have hspot:spot=none:=by simpa[Addr.add] using World.cell?_spot z0
  subst hspot;refine⟨b,off,rfl,?_,λi hil=>?_⟩
  ·simp only[bX]at z0;exact iv z0
  ·have h:=hc' i hil
   simp only[bX]at h;exact h
theorem Bz{r:Reach}{b0:Nat}{v:Value}{d:DataW H}{ps:List MemPlace}(hv:Value.okWide Tryz.prog w r b0 27 v)(h:DataW.Trod enc Tryz.prog w base spare held 27 v d ps):∃s,R8 w v s:=by
 obtain⟨a0,len0,cap0,rfl⟩:=okWide_slice Tryz.underlying27 hv;obtain⟨fuel,hf⟩:=h;obtain⟨A,n,cn,e,_,hW⟩:=xh (v:=.slice a0 len0 cap0) hf;cases e
 by_cases h0:0<len0
 ·obtain⟨b,off,e,hb,hc⟩:=hW h0
  subst e
  have hc':∀i,∃k:Int,i<len0->w.cell? ⟨b,off+i,none⟩=some (.int .u8 k)/\0<=k/\k<=255:=λi=>by
   by_cases hi:i<len0
   ·obtain⟨u,fu,y,c,tt⟩:=hc i hi
    obtain⟨k,ek,_,hw⟩:=DataW.trod_int Tryz.underlying5 tt;simp only[List.cons.injEq,and_true]at ek;subst ek;exact⟨k,λ_=>⟨c,bounds_u8 hw⟩⟩
   ·exact⟨0,λh=>absurd h hi⟩
  obtain⟨g,hg⟩:=Classical.axiomOfChoice hc';refine⟨(List.range len0).map g,λx hx=>?_,.inr ⟨⟨b,off,none⟩,cap0,by simp,λ_=>⟨b,off,rfl,hb,λj u hu=>?_⟩⟩⟩
  ·obtain⟨i,hi,rfl⟩:=List.mem_map.1 hx
   have:=(hg i (by simpa using hi)).2;omega
  ·have hjl:j<len0:=by
    have:=(aj.1 hu).1;rw[fU sU]at this;simpa[eY] using this
   have h2:=mY sU ((List.range len0).map g) j 0 (g j) (by simp[hjl]) (by decide);simp only[eY,Nat.mul_one,Nat.add_zero,List.getElem?_cons_zero]at h2;have h3:=hu.symm.trans h2;cases h3;exact(hg j hjl).1
 ·obtain rfl:len0=0:=by omega
  cases a0 with
  | none=>
   rcases open_slice Tryz.underlying27 hf with⟨e,_⟩|⟨a,_,_,_,_,_,_,e,_⟩
   ·injection e with e' _
    cases e'
    exact⟨[],λx hx=>(by cases hx),.inl ⟨rfl,rfl⟩⟩
   ·injection e with e' _
    cases e'
  | some a=>exact⟨[],λx hx=>(by cases hx),.inr ⟨a,cap0,rfl,λh=>absurd h (Nat.lt_irrefl 0)⟩⟩
end
end Go.Proofs.YtldlcnaphednnaaGreatDoor
