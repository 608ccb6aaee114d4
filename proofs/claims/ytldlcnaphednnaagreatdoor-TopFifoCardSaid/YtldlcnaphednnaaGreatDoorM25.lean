/- A thread's side of a machine: what it reads. A thread's side of a machine: what it stores, swaps, notes; that it sleeps. -/
import Derived.Test.YtldlcnaphednnaaGreatDoorM24
import Derived.Test.YtldlcnaphednnaaGreatDoorM22
set_option maxRecDepth 100000
set_option maxHeartbeats 32000000
set_option linter.unusedVariables false
set_option linter.unusedSimpArgs false
namespace Go.Proofs.YtldlcnaphednnaaGreatDoor
open Go.RowKit Go.Maps
def Bt(o:Option Int)(d:Int):Int:=match o with
 | some v=>v
 | none=>d
def qL(M:Mac)(x:Bf)(a:Nat):Int:=Bt (lQ x a) (M.mem.getD a 0)
theorem yF{b:Nat}{F:Nat->Prop}{M:Mac}{ti:Nat}{x:Bf}{w:World}(hM:MMem w b F M)(hx:M.bufs[ti]? = some x):Calls Tryz.prog 105 #[.agg #[.pointer (some ⟨b,0,none⟩),.int .i64 ti]] w λe w'=>e=.returned (.bool (!decide (x.room<=x.n)))/\Below w.heap.size w w':=by
 obtain⟨V,vs,hM⟩:=hM;obtain⟨Vc,Vt,Vf,Vm,Vk,Ve⟩:=V;have hf0:Own eB w Vf M.bufs:=hM.rf
 obtain⟨g,cf,rfl⟩:∃g c,Vf=.slice (some ⟨g,0,none⟩) M.bufs.length c:=by
  have hxl:=(aj.1 hx).1;rcases hf0.form with⟨_,e⟩|⟨g,c,e,_⟩
  ·rw[e]at hxl;exact absurd hxl (Nat.not_lt_zero _)
  ·exact⟨g,c,e⟩
 have hti:ti<M.bufs.length:=(aj.1 hx).1
 have f0:(0:Int)<=ti:=by omega
 have f1:(ti:Int)<M.bufs.length:=by omega
 go_enter Tryz.func105,Tryz.ntmps105;go_upto_region 1 with(fail);obtain⟨W,kS,e0,e1,XS,hal⟩:=aO w #[.pointer (some ⟨b,0,none⟩),.int .i64 ti] 148;rw[e0,e1];have hkS:w.heap.size<=kS:=aD e1;clear e0 e1;refine ZA W ?_;refine Zz ?_;refine Zy _ (λw' h'=>by have c:=ae w' kS 0 _ 148 _ (keep XS h');go_simp;try with_reducible rfl) ?_
 iterate 2 refine Zz ?_
 refine Zy _ (λw' h'=>by have c:w'.cell? ⟨b,2,none⟩=some (.slice (some ⟨g,0,none⟩) M.bufs.length cf):=ae w' b 2 _ 105 _ (keep (hM.below hal).blk h');go_simp;try with_reducible rfl) ?_;refine Zz ?_;refine Zy _ (λw' h'=>by have c:=ae w' kS 1 _ 148 _ (keep XS h');go_simp;try with_reducible rfl) ?_;refine Zy (.pointer (some ⟨g,ti * 35,none⟩)) (λw' h'=>by go_simp) ?_;refine Zy (.agg (bE x)) (λw' h'=>aZ 110 (.tmp 10) rfl g (ti * 35) rfl (mz x) _ (by have h1:=((hf0.below (hal.trans (h'.mono hal.size))).at eB_ok).elem eB_ok hx;rw[Nat.zero_add]at h1;exact h1) Tryz.underlying110 rfl (by rw[jY];kernel_rfl)) ?_;refine Zn 167 #[.agg (bE x)] (.bool (decide (x.room<=x.n))) (λw' h'=>(vT x w').mono (λe w'' hh=>⟨hh.1,h'.trans (hh.2.mono h'.size)⟩)) ?_
 iterate 2 refine Zz ?_
 refine aQ (λw2 h2=>?_);go_wp2;go_ret;exact⟨rfl,hal.trans (h2.mono hal.size)⟩
theorem xM{b:Nat}{F:Nat->Prop}{M:Mac}{ti:Nat}{x:Bf}{w:World}(hM:MMem w b F M)(hx:M.bufs[ti]? = some x):Calls Tryz.prog 107 #[.agg #[.pointer (some ⟨b,0,none⟩),.int .i64 ti]] w λe w'=>e=.returned (.bool (x.n == 0))/\Below w.heap.size w w':=by
 obtain⟨V,vs,hM⟩:=hM;obtain⟨Vc,Vt,Vf,Vm,Vk,Ve⟩:=V;have hf0:Own eB w Vf M.bufs:=hM.rf
 obtain⟨g,cf,rfl⟩:∃g c,Vf=.slice (some ⟨g,0,none⟩) M.bufs.length c:=by
  have hxl:=(aj.1 hx).1;rcases hf0.form with⟨_,e⟩|⟨g,c,e,_⟩
  ·rw[e]at hxl;exact absurd hxl (Nat.not_lt_zero _)
  ·exact⟨g,c,e⟩
 have hti:ti<M.bufs.length:=(aj.1 hx).1
 have f0:(0:Int)<=ti:=by omega
 have f1:(ti:Int)<M.bufs.length:=by omega
 go_enter Tryz.func107,Tryz.ntmps107;go_upto_region 1 with(fail);obtain⟨W,kS,e0,e1,XS,hal⟩:=aO w #[.pointer (some ⟨b,0,none⟩),.int .i64 ti] 148;rw[e0,e1];have hkS:w.heap.size<=kS:=aD e1;clear e0 e1;refine ZA W ?_;refine Zz ?_;refine Zy _ (λw' h'=>by have c:=ae w' kS 0 _ 148 _ (keep XS h');go_simp;try with_reducible rfl) ?_
 iterate 2 refine Zz ?_
 refine Zy _ (λw' h'=>by have c:w'.cell? ⟨b,2,none⟩=some (.slice (some ⟨g,0,none⟩) M.bufs.length cf):=ae w' b 2 _ 105 _ (keep (hM.below hal).blk h');go_simp;try with_reducible rfl) ?_;refine Zz ?_;refine Zy _ (λw' h'=>by have c:=ae w' kS 1 _ 148 _ (keep XS h');go_simp;try with_reducible rfl) ?_;refine Zy (.pointer (some ⟨g,ti * 35,none⟩)) (λw' h'=>by go_simp) ?_;refine Zy (.agg (bE x)) (λw' h'=>aZ 110 (.tmp 10) rfl g (ti * 35) rfl (mz x) _ (by have h1:=((hf0.below (hal.trans (h'.mono hal.size))).at eB_ok).elem eB_ok hx;rw[Nat.zero_add]at h1;exact h1) Tryz.underlying110 rfl (by rw[jY];kernel_rfl)) ?_;refine Zn 169 #[.agg (bE x)] (.int .i64 x.n) (λw' h'=>(Fn x w').mono (λe w'' hh=>⟨hh.1,h'.trans (hh.2.mono h'.size)⟩)) ?_
 iterate 2 refine Zz ?_
 refine aQ (λw2 h2=>?_);go_wp2;go_ret;exact⟨rfl,hal.trans (h2.mono hal.size)⟩
theorem Ba{b:Nat}{F:Nat->Prop}{M:Mac}{ti:Nat}{x:Bf}{w:World}(hM:MMem w b F M)(hx:M.bufs[ti]? = some x)(hk:lD x)(a:Nat)(ha:a<M.mem.length):Calls Tryz.prog 104 #[.agg #[.pointer (some ⟨b,0,none⟩),.int .i64 ti],.int .i64 a] w λe w'=>e=.returned (.int .u32 (qL M x a))/\Below w.heap.size w w':=by
 have hfd:=λw'=>zm x a hk w'
 obtain⟨RV,hRV⟩:=Zh (qL M x a);rw[<-hRV.out];obtain⟨R,hR⟩:=Zh (lQ x a)
 have hRV':Hid (RV=Bt R (M.mem.getD a 0)):=by rw[hR.out];exact hRV.out
 rw[<-hR.out]at hfd;clear hR hRV;obtain⟨V,vs,hM⟩:=hM;obtain⟨Vc,Vt,Vf,Vm,Vk,Ve⟩:=V;have hf0:Own eB w Vf M.bufs:=hM.rf
 obtain⟨g,cf,rfl⟩:∃g c,Vf=.slice (some ⟨g,0,none⟩) M.bufs.length c:=by
  have hxl:=(aj.1 hx).1;rcases hf0.form with⟨_,e⟩|⟨g,c,e,_⟩
  ·rw[e]at hxl;exact absurd hxl (Nat.not_lt_zero _)
  ·exact⟨g,c,e⟩
 have hti:ti<M.bufs.length:=(aj.1 hx).1
 have f0:(0:Int)<=ti:=by omega
 have f1:(ti:Int)<M.bufs.length:=by omega
 go_enter Tryz.func104,Tryz.ntmps104;go_upto_region 1 with(fail);obtain⟨W,kS,e0,e1,XS,hal⟩:=aO w #[.pointer (some ⟨b,0,none⟩),.int .i64 ti] 148;rw[e0,e1];have hkS:w.heap.size<=kS:=aD e1;clear e0 e1;refine ZA W ?_;refine Zz ?_;refine Zy _ (λw' h'=>by have c:=ae w' kS 0 _ 148 _ (keep XS h');go_simp;try with_reducible rfl) ?_
 iterate 2 refine Zz ?_
 refine Zy _ (λw' h'=>by have c:w'.cell? ⟨b,2,none⟩=some (.slice (some ⟨g,0,none⟩) M.bufs.length cf):=ae w' b 2 _ 105 _ (keep (hM.below hal).blk h');go_simp;try with_reducible rfl) ?_;refine Zz ?_;refine Zy _ (λw' h'=>by have c:=ae w' kS 1 _ 148 _ (keep XS h');go_simp;try with_reducible rfl) ?_;refine Zy (.pointer (some ⟨g,ti * 35,none⟩)) (λw' h'=>by go_simp) ?_;refine Zy (.agg (bE x)) (λw' h'=>aZ 110 (.tmp 15) rfl g (ti * 35) rfl (mz x) _ (by have h1:=((hf0.below (hal.trans (h'.mono hal.size))).at eB_ok).elem eB_ok hx;rw[Nat.zero_add]at h1;exact h1) Tryz.underlying110 rfl (by rw[jY];kernel_rfl)) ?_;refine Zz ?_;refine Zn 166 #[.agg (bE x),.int .i64 a] (Co R) (λw' h'=>(hfd w').mono (λe w'' hh=>⟨hh.1,h'.trans (hh.2.mono h'.size)⟩)) ?_
 cases R with
 | some v=>
  obtain rfl:RV=v:=hRV'.out;clear hRV';unfold Co
  iterate 5 refine Zz ?_
  refine aQ (λw2 h2=>?_);go_wp2;go_ret;exact⟨rfl,hal.trans (h2.mono hal.size)⟩
 | none=>
  unfold Co
  iterate 5 refine Zz ?_
  refine aQ (λw2 h2=>?_);have hm0:Own eU w Vm M.mem:=hM.rm
  obtain⟨gm,cm,rfl⟩:∃g c,Vm=.slice (some ⟨g,0,none⟩) M.mem.length c:=by
   rcases hm0.form with⟨_,e⟩|⟨g,c,e,_⟩
   ·rw[e]at ha;exact absurd ha (Nat.not_lt_zero _)
   ·exact⟨g,c,e⟩
  have hal2:=hal.trans (h2.mono hal.size);have y3:w2.cell? ⟨b,3,none⟩=some (.slice (some ⟨gm,0,none⟩) M.mem.length cm):=ae w2 b 3 _ 105 _ (hM.below hal2).blk;have yS:=ae w2 kS 0 _ 148 _ (keep XS h2)
  have ym:w2.cell? ⟨gm,a,none⟩=some (.int .u32 (M.mem.getD a 0)):=by
   have:=((hm0.below hal2).at jE).elem jE (i:=a) (x:=M.mem.getD a 0) (by rw[aq ha,List.getD_eq_getElem?_getD,aq ha];rfl) 0 _ rfl
   simpa[eU] using this
  have hmv:Hid (RV=M.mem.getD a 0):=hRV'.out;clear hRV';rw[<-hmv.out]at ym
  have f2:(0:Int)<=a:=by omega
  have f3:(a:Int)<M.mem.length:=by omega
  go_wp2;go_ret;exact⟨rfl,hal2⟩
section
variable {α:Type} {E:Enc α} {P:Program} {ops:Array Oper} {Q:Exit->Act->World->Prop}
theorem rZ(hE:E.Ok){j:Nat}{K:Act->World->Prop}{o:Oper}{a:Act}{w:World}(hi':ops[j]? = some o)(hgd:o.guard=none)(ty:TypeId)(hinf:(P.info? ty).map (·.size)=some E.sz)(x y:Operand)(ho:o.op=.store ty x y)(g i n c:Nat)(l:List α)(z e:α)(hx:a.eval x=.pointer (some ⟨g,i * E.sz,none⟩))(hy:a.eval y=.agg (E.enc e).toArray)
  (hown:Own E w (.slice (some ⟨g,0,none⟩) n c) l) (hz:l[i]? = some z)
  (h:∀w',Own E w' (.slice (some ⟨g,0,none⟩) n c) (l.set i e)->(∀k,k≠g->w'.heap[k]? = w.heap[k]?)->(∀B,B<=g->Below B w w')->K (a.put o.dst undef) w'):wpOp P ops Q j K a w:=by
 unfold wpOp;simp only[hi']
 have hw:Region.wanted o (yielded ops a.tmps)=true:=by simp[Region.wanted,hgd]
 rw[ag hw];refine .inl ?_;obtain⟨h1,h2,h3,h4,h5⟩:=vz hE (y:=e) hown hz;unfold Oper.wp execOp;simp only[ho,hx,hy,Instr.storeAt,Instr.sureAddr,Sem.run_bind,Sem.run_pure,Result.andThen_ok,run_storeVar_mid w g (i * E.sz) ty (E.enc e).toArray (by simpa using h1) (by rw[hinf];simp[hE.len]) (all_oneCell_toArray (hE.one e))];exact h _ h2 h3 h4
end
theorem yd{b:Nat}{F:Nat->Prop}{M:Mac}{ti:Nat}{x:Bf}{w:World}(hM:MMem w b F M)(hx:M.bufs[ti]? = some x)(hk:lD x)(hn:x.n<x.room)(a v:Int):Calls Tryz.prog 106 #[.agg #[.pointer (some ⟨b,0,none⟩),.int .i64 ti],.int .i64 a,.int .u32 v] w λe w'=>e=.returned (.tuple #[])/\∃F',MMem w' b F' { M with bufs:=M.bufs.set ti (ed x a v) }/\Upd F F' w w':=by
 have hpt:=λw'=>BC x a v hk hn w'
 obtain⟨x',hx'⟩:∃q,Hid (q=ed x a v):=⟨_,rfl⟩;rw[<-hx'.out]at hpt ⊢;obtain⟨V,vs,hM⟩:=hM;obtain⟨Vc,Vt,Vf,Vm,Vk,Ve⟩:=V;have hf0:Own eB w Vf M.bufs:=hM.rf
 obtain⟨g,cf,rfl⟩:∃g c,Vf=.slice (some ⟨g,0,none⟩) M.bufs.length c:=by
  have hxl:=(aj.1 hx).1;rcases hf0.form with⟨_,e⟩|⟨g,c,e,_⟩
  ·rw[e]at hxl;exact absurd hxl (Nat.not_lt_zero _)
  ·exact⟨g,c,e⟩
 have hti:ti<M.bufs.length:=(aj.1 hx).1
 have f0:(0:Int)<=ti:=by omega
 have f1:(ti:Int)<M.bufs.length:=by omega
 go_enter Tryz.func106,Tryz.ntmps106;go_upto_region 1 with(fail);obtain⟨W,kS,e0,e1,XS,hal⟩:=aO w #[.pointer (some ⟨b,0,none⟩),.int .i64 ti] 148;rw[e0,e1];have hkS:w.heap.size<=kS:=aD e1;clear e0 e1;refine bR 24 24 25 (λw'=>Below W.heap.size W w') _ rfl (by kernel_rfl) (by kernel_rfl) (by decide) (by kernel_rfl) ?_;simp only[List.take_succ_cons,List.take_zero];refine Zf ?_;refine bm rfl (by kernel_rfl) _ (λw' h'=>aE (by have c:=ae w' kS 0 _ 148 _ (keep XS h');go_simp;try with_reducible rfl)) (Zj ?_)
 iterate 2 refine Zf ?_
 refine bm rfl (by kernel_rfl) _ (λw' h'=>aE (by have c:w'.cell? ⟨b,2,none⟩=some (.slice (some ⟨g,0,none⟩) M.bufs.length cf):=ae w' b 2 _ 105 _ (keep (hM.below hal).blk h');go_simp;try with_reducible rfl)) (Zj ?_);refine Zf ?_;refine bm rfl (by kernel_rfl) _ (λw' h'=>aE (by have c:=ae w' kS 1 _ 148 _ (keep XS h');go_simp;try with_reducible rfl)) (Zj ?_);refine Zf ?_;refine bm rfl (by kernel_rfl) _ (λw' h'=>aE (by have c:=ae w' kS 0 _ 148 _ (keep XS h');go_simp;try with_reducible rfl)) (Zj ?_)
 iterate 2 refine Zf ?_
 refine bm rfl (by kernel_rfl) _ (λw' h'=>aE (by have c:w'.cell? ⟨b,2,none⟩=some (.slice (some ⟨g,0,none⟩) M.bufs.length cf):=ae w' b 2 _ 105 _ (keep (hM.below hal).blk h');go_simp;try with_reducible rfl)) (Zj ?_);refine Zf ?_;refine bm rfl (by kernel_rfl) _ (λw' h'=>aE (by have c:=ae w' kS 1 _ 148 _ (keep XS h');go_simp;try with_reducible rfl)) (Zj ?_)
 refine jK rfl (.pointer (some ⟨g,ti * 35,none⟩)) (λw'=>aE (by first|(go_simp;done)|(go_simp;rfl))) (Zj ?_)
 refine bm rfl (by kernel_rfl) (.agg (bE x)) (λw' h'=>aE (aZ 110 (.tmp 21) rfl g (ti * 35) rfl (mz x) _ (by have h1:=((hf0.below (hal.trans (h'.mono hal.size))).at eB_ok).elem eB_ok hx;rw[Nat.zero_add]at h1;exact h1) Tryz.underlying110 rfl (by rw[jY];kernel_rfl))) (Zj ?_)
 iterate 3 refine Zf ?_
 refine bm rfl (by kernel_rfl) (.tuple #[.agg (bE x'),.bool true]) (λw' h'=>kf 168 #[.agg (bE x),.agg #[.int .i64 a,.int .u32 v]] (hpt w') ?_) (λK hK=>?_)
 ·first|(go_simp;done)|(go_simp;rfl)
 go_simp;refine hK _ ?_;clear hK K
 refine jK rfl (.tuple #[.agg (bE x'),.bool true]) (λw'=>aE (by first|(go_simp;done)|(go_simp;rfl))) (Zj ?_)
 refine jK rfl (.agg (bE x')) (λw'=>aE (by first|(go_simp;done)|(go_simp;rfl))) (Zj ?_)
 refine jK rfl (.bool true) (λw'=>aE (by first|(go_simp;done)|(go_simp;rfl))) (Zj ?_)
 refine jK rfl (.pointer (some ⟨g,ti * 35,none⟩)) (λw'=>aE (by first|(go_simp;done)|(go_simp;rfl))) (Zj ?_)
 refine gJ ?_;show dU _ _ _ _ _ _ _ _ _ _;have q0:Below W.heap.size W W.drew:=Below.drew (ak _ _);refine ZM 24 (λw1 r1=>⟨λ_=>q0.trans (r1.mono q0.size),?_⟩);replace q0:=q0.trans (r1.mono q0.size);have hal1:=hal.trans (q0.mono hal.size);have hf1:=hf0.below hal1;refine rZ eB_ok rfl rfl 110 (by kernel_rfl) (.tmp 29) (.tmp 27) rfl g ti M.bufs.length cf M.bufs x x' rfl rfl hf1 hx (λw2 hO2 hk2 hB2=>?_);obtain⟨hM2,hU2⟩:=(hM.below hal1).put_f hO2 (λk hne=>hk2 k (λe=>hne (by rw[e];rfl))) (λB h1 _=>hB2 B (h1 g rfl));refine bl (by kernel_rfl) (by kernel_rfl) (λw3 r3=>?_);have hM3:=hM2.below r3;have hU3:=((Upd.of_below (F:=F) hal1).trans hU2).trans (Upd.of_below r3);clear hM2 hU2 hO2 hk2 hB2 q0 r1 r3 hf1;go_wp2;go_end0;exact⟨rfl,F,⟨_,_,hM3⟩,hU3⟩
theorem xe{b:Nat}{F:Nat->Prop}{M:Mac}{ti:Nat}{w:World}(hM:MMem w b F M)(ht:ti<8)(hs:M.slp.length<=90000)(a:Int):Calls Tryz.prog 109 #[.agg #[.pointer (some ⟨b,0,none⟩),.int .i64 ti],.int .i64 a] w λe w'=>e=.returned (.tuple #[])/\∃F',MMem w' b F' { M with slp:=ly M.slp ti a }/\Upd F F' w w':=by
 go_enter Tryz.func109,Tryz.ntmps109;go_upto_region 1 with(fail);obtain⟨W,kS,e0,e1,XS,hal⟩:=aO w #[.pointer (some ⟨b,0,none⟩),.int .i64 ti] 148;rw[e0,e1];have hkS:w.heap.size<=kS:=aD e1;clear e0 e1;refine ZT 7 W ?_;simp only[List.take_succ_cons,List.take_zero];refine Zz ?_;refine Zy _ (λw' h'=>by have c:=ae w' kS 0 _ 148 _ (keep XS h');go_simp;try with_reducible rfl) ?_
 iterate 3 refine Zz ?_
 refine Zy _ (λw' h'=>by have c:=ae w' kS 1 _ 148 _ (keep XS h');go_simp;try with_reducible rfl) ?_;refine Zz ?_;refine aQ (λw2 h2=>?_);simp only[List.drop_succ_cons,List.drop_zero];have hal2:=hal.trans (h2.mono hal.size);have hks:=yh (ti:Int) a ⟨by omega,by omega⟩ (hM.below hal2) hs;refine aP rfl 170 #[.pointer (some ⟨b,4,none⟩),.int .i64 ti,.int .i64 a] (λv w'=>∃F',MMem w' b F' { M with slp:=ly M.slp ti a }/\Upd F F' w2 w') ?_ hks ?_
 ·first|(go_simp;done)|(go_simp;rfl)
 rintro v w3 ⟨F',hM3,hU3⟩;refine Zk ?_;have hU:=(Upd.of_below (F:=F) hal2).trans hU3;clear hks hM hU3;go_wp2;go_end0;exact⟨rfl,F',hM3,hU⟩
theorem oY{b:Nat}{F:Nat->Prop}{M:Mac}{ti:Nat}{w:World}(hM:MMem w b F M)(x:Evt)(hs:M.evs.length<=3000000):Calls Tryz.prog 62 #[.agg #[.pointer (some ⟨b,0,none⟩),.int .i64 ti],.agg (fp x).toArray] w λe w'=>e=.returned (.tuple #[])/\∃F',MMem w' b F' { M with evs:=M.evs++[{ x with who:=ti }] }/\Upd F F' w w':=by
 obtain⟨ek,ew,ep,ea,ev,eo,eK,eb⟩:=x;obtain⟨V,vs,hM⟩:=hM;obtain⟨Vc,Vt,Vf,Vm,Vk,Ve⟩:=V;have he0:Own eE w Ve M.evs:=hM.re;obtain⟨pe,ce,rfl⟩:=he0.form2;unfold fp;go_enter Tryz.func62,Tryz.ntmps62;go_upto_region 1 with(fail);obtain⟨W,kS,kX,e0,e1,e2,XS,XX,hal⟩:=lW w #[.pointer (some ⟨b,0,none⟩),.int .i64 ti] #[.int .i64 ek,.int .i64 ew,.int .i64 ep,.int .i64 ea,.int .u32 ev,.int .u32 eo,.int .u32 eK,.bool eb] 148 46;rw[e0,e2,e1]
 have hkX:w.heap.size<=kX:=by omega
 have hSX:kS≠kX:=by omega
 clear e0 e1 e2;have yS:=ae W kS 1 _ 148 _ XS;refine ab ?_
 iterate 3 refine Zv ?_
 refine Zw 3 1 (.int .i64 ti) (dw ti) XX (by simp) (λw1 p1 p2 p3=>?_);have XS1:=(p2 kS hSX).trans XS;have XX1:w1.heap[kX]? = some (.cells #[.int .i64 ek,.int .i64 ti,.int .i64 ep,.int .i64 ea,.int .u32 ev,.int .u32 eo,.int .u32 eK,.bool eb] 46 (0,0)):=p1;have hal1:=hal.trans (p3 _ hkX);have hM1:=hM.below hal1;have he1:=he0.below hal1;have XM:=hM1.blk;clear p1 p2 p3 XX yS;go_upto_region 2 with(fail);refine bR 8 12 13 (λw'=>w'.heap[kS]? = some (.cells #[.pointer (some ⟨b,0,none⟩),.int .i64 ti] 148 (0,0))/\w'.heap[kX]? = some (.cells #[.int .i64 ek,.int .i64 ti,.int .i64 ep,.int .i64 ea,.int .u32 ev,.int .u32 eo,.int .u32 eK,.bool eb] 46 (0,0))/\w'.heap[b]? = some (.cells (iE ⟨Vc,Vt,Vf,Vm,Vk,.slice pe M.evs.length ce⟩) 105 (0,0))) _ rfl (by kernel_rfl) (by kernel_rfl) (by decide) (by kernel_rfl) ?_;simp only[List.take_succ_cons,List.take_zero];refine Zf ?_;refine bm rfl (by kernel_rfl) _ (λw' h'=>aE (by have c:=ae w' kS 0 _ 148 _ h'.1;go_simp;try with_reducible rfl)) (Zj ?_);refine Zf ?_;refine bm rfl (by kernel_rfl) _ (λw' h'=>aE (by have c:=ae w' kS 0 _ 148 _ h'.1;go_simp;try with_reducible rfl)) (Zj ?_)
 iterate 2 refine Zf ?_
 refine bm rfl (by kernel_rfl) _ (λw' h'=>aE (by have c:w'.cell? ⟨b,5,none⟩=some (.slice pe M.evs.length ce):=ae w' b 5 _ 105 _ h'.2.2;go_simp;try with_reducible rfl)) (Zj ?_);refine bm rfl (by kernel_rfl) _ (λw' h'=>fF 46 (.tmp 3) rfl _ rfl _ _ (0,0) _ h'.2.1 Tryz.underlying46 rfl (by kernel_rfl)) (Zj ?_);refine gJ ?_;show dU _ _ _ _ _ _ _ _ _ _;have q0:Below w1.heap.size w1 w1.drew:=Below.drew (ak _ _);refine ZM 8 (λd8 r8=>⟨λ_=>have q:=q0.trans (r8.mono q0.size);⟨keep XS1 q,keep XX1 q,keep XM q⟩,?_⟩);replace q0:=q0.trans (r8.mono q0.size)
 refine je rfl rfl (.slice (some ⟨d8.heap.size,0,none⟩) 1 1) (w':=d8.alloc (.cells #[.int .i64 ek,.int .i64 ti,.int .i64 ep,.int .i64 ea,.int .u32 ev,.int .u32 eo,.int .u32 eK,.bool eb] 46)) (by first|kernel_rfl|go_simp) ?_
 obtain⟨e8,bN,e8',eg,BN,hb8⟩:=aO d8 #[.int .i64 ek,.int .i64 ti,.int .i64 ep,.int .i64 ea,.int .u32 ev,.int .u32 eo,.int .u32 eK,.bool eb] 46;rw[e8',eg];clear e8' eg;replace q0:=q0.trans (hb8.mono q0.size);refine ZM 9 (λd9 r9=>⟨λ_=>have q:=q0.trans (r9.mono q0.size);⟨keep XS1 q,keep XX1 q,keep XM q⟩,?_⟩);replace q0:=q0.trans (r9.mono q0.size);replace BN:=keep BN r9;have hO3:=he1.below q0;have XMm:=keep XM q0
 refine iM eE_ok rfl rfl 30 Tryz.underlying30 48 zG (.tmp 13) (.tmp 15) rfl _ M.evs [(⟨ek,ti,ep,ea,ev,eo,eK,eb⟩:Evt)] rfl hO3 bN 0 1 rfl (cG BN _ rfl) (by simp<;>omega) (by decide) (λvc' v4 hO4 hg4 hl4=>?_)
 have hal3:=q0;have Xb:=fD hO3 XMm (by decide) hg4;have XS4:v4.heap[kS]? = some (.cells #[.pointer (some ⟨b,0,none⟩),.int .i64 ti] 148 (0,0)):=fD hO3 (keep XS1 q0) (by decide) hg4
 have XX4:v4.heap[kX]? = some (.cells #[.int .i64 ek,.int .i64 ti,.int .i64 ep,.int .i64 ea,.int .u32 ev,.int .u32 eo,.int .u32 eK,.bool eb] 46 (0,0)):=(hg4.block kX (aB (keep XX1 q0)) (λe=>by
  have:=he0.lt e.symm;omega)).trans (keep XX1 q0)
 obtain⟨p,c4,rfl⟩:=hO4.form2;generalize hn4:(M.evs++[(⟨ek,ti,ep,ea,ev,eo,eK,eb⟩:Evt)]).length=n4 at *;refine ZM 10 (λv5 r5=>⟨λ_=>⟨keep XS4 r5,keep XX4 r5,keep Xb r5⟩,?_⟩);refine aR rfl rfl (.pointer (some ⟨b,0,none⟩)) (by go_simp) ?_;refine ZM 11 (λv6 r6=>⟨λ_=>have q:=r5.trans (r6.mono r5.size);⟨keep XS4 q,keep XX4 q,keep Xb q⟩,?_⟩);refine aR rfl rfl (.pointer (some ⟨b,5,none⟩)) (by go_simp) ?_;refine ZM 12 (λv7 r7=>⟨λ_=>have q:=(r5.trans (r6.mono r5.size)).trans (r7.mono (ar r5.size r6.size));⟨keep XS4 q,keep XX4 q,keep Xb q⟩,?_⟩);have hb7:Below v4.heap.size v4 v7:=(r5.trans (r6.mono r5.size)).trans (r7.mono (ar r5.size r6.size));have Xc:=keep Xb hb7;refine du rfl rfl 30 (λw=>by kernel_rfl) (.tmp 18) (.tmp 16) rfl b 5 p n4 c4 _ 105 rfl rfl Xc (by show 5<6;decide) (λv8 p1 p2 p3=>?_);refine bl (by kernel_rfl) (by kernel_rfl) (λv9 r9=>?_);have hA:j7 eE w1 v9 b 5 105 (iE ⟨Vc,Vt,Vf,Vm,Vk,.slice pe M.evs.length ce⟩) (.slice pe M.evs.length ce) (.slice p n4 c4) (M.evs++[(⟨ek,ti,ep,ea,ev,eo,eK,eb⟩:Evt)]):=io hal3 hg4 hl4 hO4 Xb (by decide) hb7 p1 p2 p3 r9;clear q0 r5 r6 r7 r9 Xb Xc hb7 hg4 hl4 hO4 p1 p2 p3 hal3;obtain⟨F',hM',hU⟩:=hM1.app_e hA;have hU':=(Upd.of_below (F:=F) hal1).trans hU;clear hA hO3 XMm BN hU hM1 XM he1 XS4 XX4;go_wp2;go_end0;exact⟨rfl,F',⟨_,_,hM'⟩,hU'⟩
theorem AZ{b:Nat}{F:Nat->Prop}{M:Mac}{ti:Nat}{w:World}(hM:MMem w b F M)(a:Nat)(ha:a<M.mem.length)(v:Int):Calls Tryz.prog 108 #[.agg #[.pointer (some ⟨b,0,none⟩),.int .i64 ti],.int .i64 a,.int .u32 v] w λe w'=>e=.returned (.int .u32 (M.mem.getD a 0))/\∃F',MMem w' b F' { M with mem:=M.mem.set a v }/\Upd F F' w w':=by
 obtain⟨V,vs,hM⟩:=hM;obtain⟨Vc,Vt,Vf,Vm,Vk,Ve⟩:=V;have hm0:Own eU w Vm M.mem:=hM.rm
 obtain⟨gm,cm,rfl⟩:∃g c,Vm=.slice (some ⟨g,0,none⟩) M.mem.length c:=by
  rcases hm0.form with⟨_,e⟩|⟨g,c,e,_⟩
  ·rw[e]at ha;exact absurd ha (Nat.not_lt_zero _)
  ·exact⟨g,c,e⟩
 have hz:M.mem[a]? = some (M.mem.getD a 0):=by rw[aq ha,List.getD_eq_getElem?_getD,aq ha];rfl
 obtain⟨mv,hmv⟩:=Zh (M.mem.getD a 0);rw[<-hmv.out]at hz ⊢
 have f2:(0:Int)<=a:=by omega
 have f3:(a:Int)<M.mem.length:=by omega
 go_enter Tryz.func108,Tryz.ntmps108;go_upto_region 1 with(fail);obtain⟨W,kS,e0,e1,XS,hal⟩:=aO w #[.pointer (some ⟨b,0,none⟩),.int .i64 ti] 148;rw[e0,e1];clear e0 e1;have hM1:=hM.below hal;have hm1:=hm0.below hal;have y3:W.cell? ⟨b,3,none⟩=some (.slice (some ⟨gm,0,none⟩) M.mem.length cm):=ae W b 3 _ 105 _ hM1.blk;have yS:=ae W kS 0 _ 148 _ XS
 have ym:W.cell? ⟨gm,a,none⟩=some (.int .u32 mv):=by
  have:=(hm1.at jE).elem jE hz 0 _ rfl
  simpa[eU] using this
 go_upto_region 2 with(fail);obtain⟨cur,hcur,hcs⟩:=ex jE hm1;refine ab ?_
 iterate 7 refine Zv ?_
 refine aG rfl (.pointer (some ⟨gm,a,none⟩)) ?_ ?_
 ·go_simp
 refine Zk ?_;refine Zw 37 a (.int .u32 v) gW hcur (by simp only[eU]at hcs;omega) (λw2 p1 p2 p3=>?_);have hO2:=dG jE hm1 hcur (i:=a) (q:=0) (x:=mv) (y:=v) hz (by decide) rfl (by simpa[eU] using p1);obtain⟨hM2,hU2⟩:=hM1.put_m hO2 (λk hne=>p2 k (λe=>hne (by rw[e];rfl))) (λB h1 _=>p3 B (h1 gm rfl));have hU:=(Upd.of_below (F:=F) hal).trans hU2;clear hO2 p1 p2 p3 hcur hcs y3 yS ym hU2 hm1;go_wp2;go_ret;exact⟨rfl,F,⟨_,_,hM2⟩,hU⟩
end Go.Proofs.YtldlcnaphednnaaGreatDoor
