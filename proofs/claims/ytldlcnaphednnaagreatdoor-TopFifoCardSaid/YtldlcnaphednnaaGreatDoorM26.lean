/- A thread's side of a machine: it lets memory have the oldest store. A thread's side of a machine: it wakes others. What holds of machines while they run; flushes. -/
import Derived.Test.YtldlcnaphednnaaGreatDoorM25
import Derived.Deep.LoopGhost
set_option maxRecDepth 100000
set_option maxHeartbeats 32000000
set_option linter.unusedVariables false
set_option linter.unusedSimpArgs false
namespace Go.Proofs.YtldlcnaphednnaaGreatDoor
open Go.RowKit Go.Maps
def fM(M:Mac)(ti:Nat)(x:Bf):Mac:={ M with bufs:=M.bufs.set ti (eD x),mem:=M.mem.set (x.ra x.first.toNat).toNat (x.rv x.first.toNat),evs:=M.evs++[⟨3,ti,0,x.ra x.first.toNat,x.rv x.first.toNat,0,0,false⟩] }
theorem E1{b:Nat}{F:Nat->Prop}{M:Mac}{ti:Nat}{x:Bf}{w:World}(hM:MMem w b F M)(hx:M.bufs[ti]? = some x)(h0:x.n=0):Calls Tryz.prog 60 #[.agg #[.pointer (some ⟨b,0,none⟩),.int .i64 ti]] w λe w'=>e=.returned (.tuple #[])/\Below w.heap.size w w':=by
 have hpop:=λw'=>B5 x h0 w'
 clear h0;obtain⟨V,vs,hM⟩:=hM;obtain⟨Vc,Vt,Vf,Vm,Vk,Ve⟩:=V;have hf0:Own eB w Vf M.bufs:=hM.rf
 obtain⟨g,cf,rfl⟩:∃g c,Vf=.slice (some ⟨g,0,none⟩) M.bufs.length c:=by
  have hxl:=(aj.1 hx).1;rcases hf0.form with⟨_,e⟩|⟨g,c,e,_⟩
  ·rw[e]at hxl;exact absurd hxl (Nat.not_lt_zero _)
  ·exact⟨g,c,e⟩
 have hti:ti<M.bufs.length:=(aj.1 hx).1
 have f0:(0:Int)<=ti:=by omega
 have f1:(ti:Int)<M.bufs.length:=by omega
 go_enter Tryz.func60,Tryz.ntmps60;go_upto_region 1 with(fail);obtain⟨W,kS,e0,e1,XS,hal⟩:=aO w #[.pointer (some ⟨b,0,none⟩),.int .i64 ti] 148;rw[e0,e1];have hkS:w.heap.size<=kS:=aD e1;clear e0 e1;go_cut [2,3,4] from 5 to 18 (λs2 s3 s4 wx=>∃kE kX,s2=.pointer (some ⟨kE,0,none⟩)/\s3=.pointer (some ⟨kX,0,none⟩)/\s4=.bool false/\wx.heap[kE]? = some (.cells #[.int .i64 0,.int .u32 0] 107 (0,0))/\wx.heap[kX]? = some (.cells (bE x) 110 (0,0))/\W.heap.size<=kE/\kX≠kE/\Below W.heap.size W wx)
 case first=>
  refine i6 14 (λw'=>Below W.heap.size W w') rfl (by kernel_rfl) (by decide) (by kernel_rfl) ?_;simp only[List.take_succ_cons,List.take_zero];refine Zr ?_;refine bP rfl _ (λw' h'=>aE (by have c:=ae w' kS 0 _ 148 _ (keep XS h');go_simp;try with_reducible rfl)) (Zj ?_)
  iterate 2 refine Zr ?_
  refine bP rfl _ (λw' h'=>aE (by have c:w'.cell? ⟨b,2,none⟩=some (.slice (some ⟨g,0,none⟩) M.bufs.length cf):=ae w' b 2 _ 105 _ (keep (hM.below hal).blk h');go_simp;try with_reducible rfl)) (Zj ?_);refine Zr ?_;refine bP rfl _ (λw' h'=>aE (by have c:=ae w' kS 1 _ 148 _ (keep XS h');go_simp;try with_reducible rfl)) (Zj ?_);refine bP rfl (.pointer (some ⟨g,ti * 35,none⟩)) (λw' h'=>aE (by go_simp)) (Zj ?_);refine bP rfl (.agg (bE x)) (λw' h'=>aE (aZ 110 (.tmp 13) rfl g (ti * 35) rfl (mz x) _ (by have h1:=((hf0.below (hal.trans (h'.mono hal.size))).at eB_ok).elem eB_ok hx;rw[Nat.zero_add]at h1;exact h1) Tryz.underlying110 rfl (by rw[jY];kernel_rfl))) (Zj ?_);refine bP rfl (.tuple #[.agg #[.int .i64 0,.int .u32 0],.agg (bE x),.bool false]) (λw' h'=>kf 82 #[.agg (bE x)] (hpop w') ?_) (λK hK=>?_)
  ·first|(go_simp;done)|(go_simp;rfl)
  go_simp;refine hK _ ?_;clear hK K
  refine bP rfl (.tuple #[.agg #[.int .i64 0,.int .u32 0],.agg (bE x),.bool false]) (λw' h'=>aE (by first|(go_simp;done)|(go_simp;rfl))) (Zj ?_)
  refine bP rfl (.agg #[.int .i64 0,.int .u32 0]) (λw' h'=>aE (by first|(go_simp;done)|(go_simp;rfl))) (Zj ?_)
  refine bP rfl (.agg (bE x)) (λw' h'=>aE (by first|(go_simp;done)|(go_simp;rfl))) (Zj ?_)
  refine bP rfl (.bool false) (λw' h'=>aE (by first|(go_simp;done)|(go_simp;rfl))) (Zj ?_)
  refine oh ?_;have q0:Below W.heap.size W W.drew:=Below.drew (ak _ _);refine hH [14,15] (by kernel_rfl) (by simp) (λd0 r0=>⟨q0.trans (r0.mono q0.size),?_⟩);replace q0:=q0.trans (r0.mono q0.size);intro j hj;simp only[List.mem_cons,List.not_mem_nil,or_false]at hj;rcases hj with rfl|rfl
  ·refine dK rfl rfl 107 rfl (.agg #[.int .i64 0,.int .u32 0]) #[.int .i64 0,.int .u32 0] (λw=>by kernel_rfl) rfl (λx1 kE XE lkE fkE=>?_)
   have hkE:W.heap.size<=kE:=by have:=q0.size;simp only[Hid]at fkE;omega
   replace q0:=q0.trans (lkE.mono q0.size);refine ZG 15 (λd1 r1=>⟨q0.trans (r1.mono q0.size),?_⟩);replace q0:=q0.trans (r1.mono q0.size);replace XE:=keep XE r1;refine dK rfl rfl 110 rfl (.agg #[.int .i64 0,.int .u32 0,.int .i64 0,.int .u32 0,.int .i64 0,.int .u32 0,.int .i64 0,.int .u32 0,.int .i64 0,.int .u32 0,.int .i64 0,.int .u32 0,.int .i64 0,.int .u32 0,.int .i64 0,.int .u32 0,.int .i64 0,.int .u32 0,.int .i64 0,.int .u32 0,.int .i64 0,.int .u32 0,.int .i64 0,.int .u32 0,.int .i64 0,.int .u32 0,.int .i64 0,.int .u32 0,.int .i64 0,.int .u32 0,.int .i64 0,.int .u32 0,.int .i64 0,.int .i64 0,.int .i64 0]) #[.int .i64 0,.int .u32 0,.int .i64 0,.int .u32 0,.int .i64 0,.int .u32 0,.int .i64 0,.int .u32 0,.int .i64 0,.int .u32 0,.int .i64 0,.int .u32 0,.int .i64 0,.int .u32 0,.int .i64 0,.int .u32 0,.int .i64 0,.int .u32 0,.int .i64 0,.int .u32 0,.int .i64 0,.int .u32 0,.int .i64 0,.int .u32 0,.int .i64 0,.int .u32 0,.int .i64 0,.int .u32 0,.int .i64 0,.int .u32 0,.int .i64 0,.int .u32 0,.int .i64 0,.int .i64 0,.int .i64 0] (λw=>by kernel_rfl) rfl (λx2 kX XX lkX fkX=>?_)
   have hkX:W.heap.size<=kX:=by have:=q0.size;simp only[Hid]at fkX;omega
   replace q0:=q0.trans (lkX.mono q0.size)
   have hne:kE≠kX:=by have:=aB XE;simp only[Hid]at fkX;omega
   replace XE:=keep XE lkX
   have hXE:kX≠kE:=λe=>hne e.symm
   refine ZG 16 (λd2 r2=>⟨q0.trans (r2.mono q0.size),?_⟩);replace q0:=q0.trans (r2.mono q0.size);replace XE:=keep XE r2;replace XX:=keep XX r2;refine bZ rfl rfl 107 (.tmp 2) (.tmp 16) rfl kE #[.int .i64 0,.int .u32 0] rfl rfl 107 _ XE (by kernel_rfl) rfl (by simp[Value.oneCell']) (λx3 g1 g2 g3=>?_);replace XX:=(g2 kX hXE).trans XX;replace q0:=q0.trans (g3 _ hkE);have XE2:=g1;clear g1 g2 g3 XE;refine ZG 17 (λd3 r3=>⟨q0.trans (r3.mono q0.size),?_⟩);replace q0:=q0.trans (r3.mono q0.size);replace XE2:=keep XE2 r3;replace XX:=keep XX r3;refine bZ rfl rfl 110 (.tmp 3) (.tmp 17) rfl kX _ rfl rfl 110 _ XX (by rw[bd];kernel_rfl) rfl (jh _) (λx4 g1 g2 g3=>?_);replace XE2:=(g2 kE (λe=>hXE e.symm)).trans XE2;replace q0:=q0.trans (g3 _ hkX);have XX2:=g1;clear g1 g2 g3 XX;refine ZG 18 (λd4 r4=>⟨q0.trans (r4.mono q0.size),?_⟩);replace q0:=q0.trans (r4.mono q0.size);replace XE2:=keep XE2 r4;replace XX2:=keep XX2 r4;refine aR rfl rfl (.bool false) (by go_simp) ?_;refine fB (by kernel_rfl) (λx5 r5=>⟨q0.trans (r5.mono q0.size),?_⟩);go_wp2_with fail;go_meet;exact⟨kE,kX,rfl,rfl,rfl,keep XE2 r5,keep XX2 r5,hkE,hXE,q0.trans (r5.mono q0.size)⟩
  ·refine dK rfl rfl 110 rfl (.agg #[.int .i64 0,.int .u32 0,.int .i64 0,.int .u32 0,.int .i64 0,.int .u32 0,.int .i64 0,.int .u32 0,.int .i64 0,.int .u32 0,.int .i64 0,.int .u32 0,.int .i64 0,.int .u32 0,.int .i64 0,.int .u32 0,.int .i64 0,.int .u32 0,.int .i64 0,.int .u32 0,.int .i64 0,.int .u32 0,.int .i64 0,.int .u32 0,.int .i64 0,.int .u32 0,.int .i64 0,.int .u32 0,.int .i64 0,.int .u32 0,.int .i64 0,.int .u32 0,.int .i64 0,.int .i64 0,.int .i64 0]) #[.int .i64 0,.int .u32 0,.int .i64 0,.int .u32 0,.int .i64 0,.int .u32 0,.int .i64 0,.int .u32 0,.int .i64 0,.int .u32 0,.int .i64 0,.int .u32 0,.int .i64 0,.int .u32 0,.int .i64 0,.int .u32 0,.int .i64 0,.int .u32 0,.int .i64 0,.int .u32 0,.int .i64 0,.int .u32 0,.int .i64 0,.int .u32 0,.int .i64 0,.int .u32 0,.int .i64 0,.int .u32 0,.int .i64 0,.int .u32 0,.int .i64 0,.int .u32 0,.int .i64 0,.int .i64 0,.int .i64 0] (λw=>by kernel_rfl) rfl (λx1 kX XX lkX fkX=>?_)
   have hkX:W.heap.size<=kX:=by have:=q0.size;simp only[Hid]at fkX;omega
   replace q0:=q0.trans (lkX.mono q0.size);refine ZG 14 (λd1 r1=>⟨q0.trans (r1.mono q0.size),?_⟩);replace q0:=q0.trans (r1.mono q0.size);replace XX:=keep XX r1;refine dK rfl rfl 107 rfl (.agg #[.int .i64 0,.int .u32 0]) #[.int .i64 0,.int .u32 0] (λw=>by kernel_rfl) rfl (λx2 kE XE lkE fkE=>?_)
   have hkE:W.heap.size<=kE:=by have:=q0.size;simp only[Hid]at fkE;omega
   replace q0:=q0.trans (lkE.mono q0.size)
   have hne:kX≠kE:=by have:=aB XX;simp only[Hid]at fkE;omega
   replace XX:=keep XX lkE;have hXE:kX≠kE:=hne;refine ZG 16 (λd2 r2=>⟨q0.trans (r2.mono q0.size),?_⟩);replace q0:=q0.trans (r2.mono q0.size);replace XE:=keep XE r2;replace XX:=keep XX r2;refine bZ rfl rfl 107 (.tmp 2) (.tmp 16) rfl kE #[.int .i64 0,.int .u32 0] rfl rfl 107 _ XE (by kernel_rfl) rfl (by simp[Value.oneCell']) (λx3 g1 g2 g3=>?_);replace XX:=(g2 kX hXE).trans XX;replace q0:=q0.trans (g3 _ hkE);have XE2:=g1;clear g1 g2 g3 XE;refine ZG 17 (λd3 r3=>⟨q0.trans (r3.mono q0.size),?_⟩);replace q0:=q0.trans (r3.mono q0.size);replace XE2:=keep XE2 r3;replace XX:=keep XX r3;refine bZ rfl rfl 110 (.tmp 3) (.tmp 17) rfl kX _ rfl rfl 110 _ XX (by rw[bd];kernel_rfl) rfl (jh _) (λx4 g1 g2 g3=>?_);replace XE2:=(g2 kE (λe=>hXE e.symm)).trans XE2;replace q0:=q0.trans (g3 _ hkX);have XX2:=g1;clear g1 g2 g3 XX;refine ZG 18 (λd4 r4=>⟨q0.trans (r4.mono q0.size),?_⟩);replace q0:=q0.trans (r4.mono q0.size);replace XE2:=keep XE2 r4;replace XX2:=keep XX2 r4;refine aR rfl rfl (.bool false) (by go_simp) ?_;refine fB (by kernel_rfl) (λx5 r5=>⟨q0.trans (r5.mono q0.size),?_⟩);go_wp2_with fail;go_meet;exact⟨kE,kX,rfl,rfl,rfl,keep XE2 r5,keep XX2 r5,hkE,hXE,q0.trans (r5.mono q0.size)⟩
 obtain⟨kE,kX,rfl,rfl,rfl,XE,XX,hkE,hXE,hbw⟩:=hcut;go_wp2;refine bodyPost_ret (v:=.tuple #[]) (results_none rfl _ _ _) rfl ?_;exact⟨rfl,hal.trans (hbw.mono hal.size)⟩
theorem EE{b:Nat}{F:Nat->Prop}{M:Mac}{ti:Nat}{x:Bf}{w:World}(hM:MMem w b F M)(hx:M.bufs[ti]? = some x)(hk:lD x)(h0:0<x.n)(hadr:0<=x.ra x.first.toNat/\x.ra x.first.toNat<M.mem.length)(hs:M.evs.length<=3000000):Calls Tryz.prog 60 #[.agg #[.pointer (some ⟨b,0,none⟩),.int .i64 ti]] w λe w'=>e=.returned (.tuple #[])/\∃F',MMem w' b F' (fM M ti x)/\Upd F F' w w':=by
 have hpop:=λw'=>C2 x hk h0 w'
 obtain⟨N,hN⟩:=Zh (fM M ti x);rw[<-hN.out];obtain⟨hadr0,hadr1⟩:=hadr;obtain⟨a,hae⟩:∃a:Nat,Hid ((a:Int)=x.ra x.first.toNat):=⟨(x.ra x.first.toNat).toNat,by simp only[Hid];omega⟩;obtain⟨v,hve⟩:=Zh (x.rv x.first.toNat);obtain⟨x',hxe⟩:∃q,Hid (q=eD x):=⟨_,rfl⟩
 have hN':Hid (N={ M with bufs:=M.bufs.set ti x',mem:=M.mem.set a v,evs:=M.evs++[⟨3,ti,0,a,v,0,0,false⟩] }):=by
  have h:=hN.out;unfold fM at h;rw[<-hae.out,<-hve.out,<-hxe.out]at h;exact h
 rw[<-hae.out,<-hve.out,<-hxe.out]at hpop;rw[<-hae.out]at hadr0 hadr1;clear hN hae hve hxe
 have hal':a<M.mem.length:=by omega
 obtain⟨V,vs,hM⟩:=hM;obtain⟨Vc,Vt,Vf,Vm,Vk,Ve⟩:=V;have hf0:Own eB w Vf M.bufs:=hM.rf
 obtain⟨g,cf,rfl⟩:∃g c,Vf=.slice (some ⟨g,0,none⟩) M.bufs.length c:=by
  have hxl:=(aj.1 hx).1;rcases hf0.form with⟨_,e⟩|⟨g,c,e,_⟩
  ·rw[e]at hxl;exact absurd hxl (Nat.not_lt_zero _)
  ·exact⟨g,c,e⟩
 have hti:ti<M.bufs.length:=(aj.1 hx).1
 have f0:(0:Int)<=ti:=by omega
 have f1:(ti:Int)<M.bufs.length:=by omega
 go_enter Tryz.func60,Tryz.ntmps60;go_upto_region 1 with(fail);obtain⟨W,kS,e0,e1,XS,hal⟩:=aO w #[.pointer (some ⟨b,0,none⟩),.int .i64 ti] 148;rw[e0,e1];have hkS:w.heap.size<=kS:=aD e1;clear e0 e1;go_cut [2,3,4] from 5 to 18 (λs2 s3 s4 wx=>∃kE kX,s2=.pointer (some ⟨kE,0,none⟩)/\s3=.pointer (some ⟨kX,0,none⟩)/\s4=.bool true/\wx.heap[kE]? = some (.cells #[.int .i64 a,.int .u32 v] 107 (0,0))/\wx.heap[kX]? = some (.cells (bE x') 110 (0,0))/\W.heap.size<=kE/\kX≠kE/\Below W.heap.size W wx)
 case first=>
  refine i6 14 (λw'=>Below W.heap.size W w') rfl (by kernel_rfl) (by decide) (by kernel_rfl) ?_;simp only[List.take_succ_cons,List.take_zero];refine Zr ?_;refine bP rfl _ (λw' h'=>aE (by have c:=ae w' kS 0 _ 148 _ (keep XS h');go_simp;try with_reducible rfl)) (Zj ?_)
  iterate 2 refine Zr ?_
  refine bP rfl _ (λw' h'=>aE (by have c:w'.cell? ⟨b,2,none⟩=some (.slice (some ⟨g,0,none⟩) M.bufs.length cf):=ae w' b 2 _ 105 _ (keep (hM.below hal).blk h');go_simp;try with_reducible rfl)) (Zj ?_);refine Zr ?_;refine bP rfl _ (λw' h'=>aE (by have c:=ae w' kS 1 _ 148 _ (keep XS h');go_simp;try with_reducible rfl)) (Zj ?_);refine bP rfl (.pointer (some ⟨g,ti * 35,none⟩)) (λw' h'=>aE (by go_simp)) (Zj ?_);refine bP rfl (.agg (bE x)) (λw' h'=>aE (aZ 110 (.tmp 13) rfl g (ti * 35) rfl (mz x) _ (by have h1:=((hf0.below (hal.trans (h'.mono hal.size))).at eB_ok).elem eB_ok hx;rw[Nat.zero_add]at h1;exact h1) Tryz.underlying110 rfl (by rw[jY];kernel_rfl))) (Zj ?_);refine bP rfl (.tuple #[.agg #[.int .i64 a,.int .u32 v],.agg (bE x'),.bool true]) (λw' h'=>kf 82 #[.agg (bE x)] (hpop w') ?_) (λK hK=>?_)
  ·first|(go_simp;done)|(go_simp;rfl)
  go_simp;refine hK _ ?_;clear hK K
  refine bP rfl (.tuple #[.agg #[.int .i64 a,.int .u32 v],.agg (bE x'),.bool true]) (λw' h'=>aE (by first|(go_simp;done)|(go_simp;rfl))) (Zj ?_)
  refine bP rfl (.agg #[.int .i64 a,.int .u32 v]) (λw' h'=>aE (by first|(go_simp;done)|(go_simp;rfl))) (Zj ?_)
  refine bP rfl (.agg (bE x')) (λw' h'=>aE (by first|(go_simp;done)|(go_simp;rfl))) (Zj ?_)
  refine bP rfl (.bool true) (λw' h'=>aE (by first|(go_simp;done)|(go_simp;rfl))) (Zj ?_)
  refine oh ?_;have q0:Below W.heap.size W W.drew:=Below.drew (ak _ _);refine hH [14,15] (by kernel_rfl) (by simp) (λd0 r0=>⟨q0.trans (r0.mono q0.size),?_⟩);replace q0:=q0.trans (r0.mono q0.size);intro j hj;simp only[List.mem_cons,List.not_mem_nil,or_false]at hj;rcases hj with rfl|rfl
  ·refine dK rfl rfl 107 rfl (.agg #[.int .i64 0,.int .u32 0]) #[.int .i64 0,.int .u32 0] (λw=>by kernel_rfl) rfl (λx1 kE XE lkE fkE=>?_)
   have hkE:W.heap.size<=kE:=by have:=q0.size;simp only[Hid]at fkE;omega
   replace q0:=q0.trans (lkE.mono q0.size);refine ZG 15 (λd1 r1=>⟨q0.trans (r1.mono q0.size),?_⟩);replace q0:=q0.trans (r1.mono q0.size);replace XE:=keep XE r1;refine dK rfl rfl 110 rfl (.agg #[.int .i64 0,.int .u32 0,.int .i64 0,.int .u32 0,.int .i64 0,.int .u32 0,.int .i64 0,.int .u32 0,.int .i64 0,.int .u32 0,.int .i64 0,.int .u32 0,.int .i64 0,.int .u32 0,.int .i64 0,.int .u32 0,.int .i64 0,.int .u32 0,.int .i64 0,.int .u32 0,.int .i64 0,.int .u32 0,.int .i64 0,.int .u32 0,.int .i64 0,.int .u32 0,.int .i64 0,.int .u32 0,.int .i64 0,.int .u32 0,.int .i64 0,.int .u32 0,.int .i64 0,.int .i64 0,.int .i64 0]) #[.int .i64 0,.int .u32 0,.int .i64 0,.int .u32 0,.int .i64 0,.int .u32 0,.int .i64 0,.int .u32 0,.int .i64 0,.int .u32 0,.int .i64 0,.int .u32 0,.int .i64 0,.int .u32 0,.int .i64 0,.int .u32 0,.int .i64 0,.int .u32 0,.int .i64 0,.int .u32 0,.int .i64 0,.int .u32 0,.int .i64 0,.int .u32 0,.int .i64 0,.int .u32 0,.int .i64 0,.int .u32 0,.int .i64 0,.int .u32 0,.int .i64 0,.int .u32 0,.int .i64 0,.int .i64 0,.int .i64 0] (λw=>by kernel_rfl) rfl (λx2 kX XX lkX fkX=>?_)
   have hkX:W.heap.size<=kX:=by have:=q0.size;simp only[Hid]at fkX;omega
   replace q0:=q0.trans (lkX.mono q0.size)
   have hne:kE≠kX:=by have:=aB XE;simp only[Hid]at fkX;omega
   replace XE:=keep XE lkX
   have hXE:kX≠kE:=λe=>hne e.symm
   refine ZG 16 (λd2 r2=>⟨q0.trans (r2.mono q0.size),?_⟩);replace q0:=q0.trans (r2.mono q0.size);replace XE:=keep XE r2;replace XX:=keep XX r2;refine bZ rfl rfl 107 (.tmp 2) (.tmp 16) rfl kE #[.int .i64 a,.int .u32 v] rfl rfl 107 _ XE (by kernel_rfl) rfl (by simp[Value.oneCell']) (λx3 g1 g2 g3=>?_);replace XX:=(g2 kX hXE).trans XX;replace q0:=q0.trans (g3 _ hkE);have XE2:=g1;clear g1 g2 g3 XE;refine ZG 17 (λd3 r3=>⟨q0.trans (r3.mono q0.size),?_⟩);replace q0:=q0.trans (r3.mono q0.size);replace XE2:=keep XE2 r3;replace XX:=keep XX r3;refine bZ rfl rfl 110 (.tmp 3) (.tmp 17) rfl kX _ rfl rfl 110 _ XX (by rw[bd];kernel_rfl) rfl (jh _) (λx4 g1 g2 g3=>?_);replace XE2:=(g2 kE (λe=>hXE e.symm)).trans XE2;replace q0:=q0.trans (g3 _ hkX);have XX2:=g1;clear g1 g2 g3 XX;refine ZG 18 (λd4 r4=>⟨q0.trans (r4.mono q0.size),?_⟩);replace q0:=q0.trans (r4.mono q0.size);replace XE2:=keep XE2 r4;replace XX2:=keep XX2 r4;refine aR rfl rfl (.bool true) (by go_simp) ?_;refine fB (by kernel_rfl) (λx5 r5=>⟨q0.trans (r5.mono q0.size),?_⟩);go_wp2_with fail;go_meet;exact⟨kE,kX,rfl,rfl,rfl,keep XE2 r5,keep XX2 r5,hkE,hXE,q0.trans (r5.mono q0.size)⟩
  ·refine dK rfl rfl 110 rfl (.agg #[.int .i64 0,.int .u32 0,.int .i64 0,.int .u32 0,.int .i64 0,.int .u32 0,.int .i64 0,.int .u32 0,.int .i64 0,.int .u32 0,.int .i64 0,.int .u32 0,.int .i64 0,.int .u32 0,.int .i64 0,.int .u32 0,.int .i64 0,.int .u32 0,.int .i64 0,.int .u32 0,.int .i64 0,.int .u32 0,.int .i64 0,.int .u32 0,.int .i64 0,.int .u32 0,.int .i64 0,.int .u32 0,.int .i64 0,.int .u32 0,.int .i64 0,.int .u32 0,.int .i64 0,.int .i64 0,.int .i64 0]) #[.int .i64 0,.int .u32 0,.int .i64 0,.int .u32 0,.int .i64 0,.int .u32 0,.int .i64 0,.int .u32 0,.int .i64 0,.int .u32 0,.int .i64 0,.int .u32 0,.int .i64 0,.int .u32 0,.int .i64 0,.int .u32 0,.int .i64 0,.int .u32 0,.int .i64 0,.int .u32 0,.int .i64 0,.int .u32 0,.int .i64 0,.int .u32 0,.int .i64 0,.int .u32 0,.int .i64 0,.int .u32 0,.int .i64 0,.int .u32 0,.int .i64 0,.int .u32 0,.int .i64 0,.int .i64 0,.int .i64 0] (λw=>by kernel_rfl) rfl (λx1 kX XX lkX fkX=>?_)
   have hkX:W.heap.size<=kX:=by have:=q0.size;simp only[Hid]at fkX;omega
   replace q0:=q0.trans (lkX.mono q0.size);refine ZG 14 (λd1 r1=>⟨q0.trans (r1.mono q0.size),?_⟩);replace q0:=q0.trans (r1.mono q0.size);replace XX:=keep XX r1;refine dK rfl rfl 107 rfl (.agg #[.int .i64 0,.int .u32 0]) #[.int .i64 0,.int .u32 0] (λw=>by kernel_rfl) rfl (λx2 kE XE lkE fkE=>?_)
   have hkE:W.heap.size<=kE:=by have:=q0.size;simp only[Hid]at fkE;omega
   replace q0:=q0.trans (lkE.mono q0.size)
   have hne:kX≠kE:=by have:=aB XX;simp only[Hid]at fkE;omega
   replace XX:=keep XX lkE;have hXE:kX≠kE:=hne;refine ZG 16 (λd2 r2=>⟨q0.trans (r2.mono q0.size),?_⟩);replace q0:=q0.trans (r2.mono q0.size);replace XE:=keep XE r2;replace XX:=keep XX r2;refine bZ rfl rfl 107 (.tmp 2) (.tmp 16) rfl kE #[.int .i64 a,.int .u32 v] rfl rfl 107 _ XE (by kernel_rfl) rfl (by simp[Value.oneCell']) (λx3 g1 g2 g3=>?_);replace XX:=(g2 kX hXE).trans XX;replace q0:=q0.trans (g3 _ hkE);have XE2:=g1;clear g1 g2 g3 XE;refine ZG 17 (λd3 r3=>⟨q0.trans (r3.mono q0.size),?_⟩);replace q0:=q0.trans (r3.mono q0.size);replace XE2:=keep XE2 r3;replace XX:=keep XX r3;refine bZ rfl rfl 110 (.tmp 3) (.tmp 17) rfl kX _ rfl rfl 110 _ XX (by rw[bd];kernel_rfl) rfl (jh _) (λx4 g1 g2 g3=>?_);replace XE2:=(g2 kE (λe=>hXE e.symm)).trans XE2;replace q0:=q0.trans (g3 _ hkX);have XX2:=g1;clear g1 g2 g3 XX;refine ZG 18 (λd4 r4=>⟨q0.trans (r4.mono q0.size),?_⟩);replace q0:=q0.trans (r4.mono q0.size);replace XE2:=keep XE2 r4;replace XX2:=keep XX2 r4;refine aR rfl rfl (.bool true) (by go_simp) ?_;refine fB (by kernel_rfl) (λx5 r5=>⟨q0.trans (r5.mono q0.size),?_⟩);go_wp2_with fail;go_meet;exact⟨kE,kX,rfl,rfl,rfl,keep XE2 r5,keep XX2 r5,hkE,hXE,q0.trans (r5.mono q0.size)⟩
 obtain⟨kE,kX,rfl,rfl,rfl,XE,XX,hkE,hXE,hbw⟩:=hcut;have XSc:=keep XS hbw;have hal2:=hal.trans (hbw.mono hal.size);have hM2:=hM.below hal2;have hf2:Own eB wc (.slice (some ⟨g,0,none⟩) M.bufs.length cf) M.bufs:=hM2.rf;clear hpop;go_upto_region 3 with(fail);refine ZT 8 wc ?_;simp only[List.take_succ_cons,List.take_zero];refine Zz ?_;refine Zy _ (λw' h'=>by have c:=ae w' kS 0 _ 148 _ (keep XSc h');go_simp;try with_reducible rfl) ?_
 iterate 2 refine Zz ?_
 refine Zy _ (λw' h'=>by have c:w'.cell? ⟨b,2,none⟩=some (.slice (some ⟨g,0,none⟩) M.bufs.length cf):=ae w' b 2 _ 105 _ (keep hM2.blk h');go_simp;try with_reducible rfl) ?_;refine Zz ?_;refine Zy _ (λw' h'=>by have c:=ae w' kS 1 _ 148 _ (keep XSc h');go_simp;try with_reducible rfl) ?_;refine lr rfl (λK hK=>?_);refine nH 110 (.tmp 3) rfl _ rfl 110 _ (0,0) _ (λw' h'=>(keep XX h')) Tryz.underlying110 rfl (by rw[bd];kernel_rfl) ?_;go_simp;refine hK _ ?_;clear hK K;refine aQ (λw3 h3=>?_);simp only[List.drop_succ_cons,List.drop_zero];have hM3:=hM2.below h3;have hf3:=hf2.below h3;replace XSc:=keep XSc h3;replace XE:=keep XE h3;replace hal2:=hal2.trans (h3.mono hal2.size);refine aG rfl (.pointer (some ⟨g,ti * 35,none⟩)) ?_ ?_
 ·go_simp
 refine Zk ?_;refine pF eB_ok rfl 110 (by kernel_rfl) (.tmp 29) (.tmp 28) rfl g ti M.bufs.length cf M.bufs x x' rfl rfl hf3 hx (λw4 hO4 hk4 hB4 hs4=>?_);refine Zk ?_;obtain⟨hM4,hU4⟩:=hM3.put_f hO4 (λk hne=>hk4 k (λe=>hne (by rw[e];rfl))) (λB h1 _=>hB4 B (h1 g rfl));have XS4:=(hk4 kS (λe=>by have:=hf0.lt (g:=g) rfl;omega)).trans XSc;have XE4:=(hk4 kE (λe=>by have:=hf0.lt (g:=g) rfl;have:=hal.size;omega)).trans XE;have hU4':=(Upd.of_below (F:=F) hal2).trans hU4;clear hO4 hk4 hB4 hs4 hU4 hM3 hf3 hf2 XX hM2 h3 hbw;have hm4:Own eU w4 Vm M.mem:=hM4.rm
 obtain⟨gm,cm,rfl⟩:∃g c,Vm=.slice (some ⟨g,0,none⟩) M.mem.length c:=by
  rcases hm4.form with⟨_,e⟩|⟨g,c,e,_⟩
  ·rw[e]at hal';exact absurd hal' (Nat.not_lt_zero _)
  ·exact⟨g,c,e⟩
 have f2:(0:Int)<=a:=by omega
 have f3:(a:Int)<M.mem.length:=by omega
 have hgm:gm<w.heap.size:=(show Own eU w (.slice (some ⟨gm,0,none⟩) M.mem.length cm) M.mem from hM.rm).lt rfl;go_upto_region 4 with(fail);refine ZT 9 w4 ?_;simp only[List.take_succ_cons,List.take_zero];refine Zz ?_;refine Zy _ (λw' h'=>by have c:=ae w' kS 0 _ 148 _ (keep XS4 h');go_simp;try with_reducible rfl) ?_
 iterate 2 refine Zz ?_
 refine Zy _ (λw' h'=>by have c:w'.cell? ⟨b,3,none⟩=some (.slice (some ⟨gm,0,none⟩) M.mem.length cm):=ae w' b 3 _ 105 _ (keep hM4.blk h');go_simp;try with_reducible rfl) ?_;refine Zz ?_;refine Zy _ (λw' h'=>by have c:=ae w' kE 0 _ 107 _ (keep XE4 h');go_simp;try with_reducible rfl) ?_;refine Zz ?_;refine Zy _ (λw' h'=>by have c:=ae w' kE 1 _ 107 _ (keep XE4 h');go_simp;try with_reducible rfl) ?_;refine aQ (λw5 h5=>?_);simp only[List.drop_succ_cons,List.drop_zero];have hM5:=hM4.below h5;have hm5:=hm4.below h5;replace XS4:=keep XS4 h5;replace XE4:=keep XE4 h5;have hU5:=hU4'.trans (Upd.of_below h5);obtain⟨cur,hcur,hcs⟩:=ex jE hm5;refine aG rfl (.pointer (some ⟨gm,a,none⟩)) ?_ ?_
 ·go_simp
 refine Zk ?_;refine Zw 37 a (.int .u32 v) gW hcur (by simp only[eU]at hcs;omega) (λw6 p1 p2 p3=>?_);have hO6:=dG jE hm5 hcur (i:=a) (q:=0) (x:=M.mem[a]) (y:=v) (aq hal') (by decide) rfl (by simpa[eU] using p1);obtain⟨hM6,hU6⟩:=hM5.put_m hO6 (λk hne=>p2 k (λe=>hne (by rw[e];rfl))) (λB h1 _=>p3 B (h1 gm rfl));have XS6:=(p2 kS (λe=>by omega)).trans XS4;have XE6:=(p2 kE (λe=>by have:=hal.size;omega)).trans XE4;have hU6':=hU5.trans hU6;clear hO6 p1 p2 p3 hcur hcs hU6 hm5 hm4 hM5 hM4 h5 hU4' hU5 XS4 XE4;obtain⟨yS0,yS1⟩:=cl2 XS6;obtain⟨yE0,yE1⟩:=cl2 XE6;have hnt:=oY (ti:=ti) (⟨_,_,hM6⟩:MMem w6 b F _) ⟨3,0,0,a,v,0,0,false⟩ hs;rw[<-hN'.out]at hnt;clear hN' hM6;unfold fp at hnt;simp only at hnt;go_wp2_with fail;refine hnt.mono ?_;rintro e w7 ⟨rfl,F',hM7,hU7⟩;have hU:=hU6'.trans hU7;clear hnt hU6' hU7 yS0 yS1 yE0 yE1;go_wp2;go_end0;exact⟨rfl,F',hM7,hU⟩
def kY(l:List Th)(i:Nat)(s:Int):List Th:=match l[i]? with
 | some x=>l.set i { x with st:=s }
 | none=>l
theorem rh(l:List Th)(i:Nat)(s:Int):(kY l i s).length=l.length:=by unfold kY;split<;>simp
def mO(l:List Th)(o:List Int):List Th:=o.foldl (λl who=>kY l who.toNat 0) l
theorem qA(o:List Int):∀l:List Th,(mO l o).length=l.length:=by
 induction o with
 | nil=>intro l;rfl
 | cons x o ih=>intro l;exact(ih _).trans (rh _ _ _)
def og(M:Mac)(addr n:Int):Mac:={ M with slp:=(bB addr n M.slp []).1,threads:=mO M.threads (bB addr n M.slp []).2 }
theorem jW(addr n:Int):∀(L:List Slp)(o:List Int),(∀s∈(bB addr n L o).1,s∈L)/\(∀v∈(bB addr n L o).2,v∈o\/∃s∈L,s.who=v)/\(bB addr n L o).1.length<=L.length/\(bB addr n L o).2.length<=o.length+L.length
 | [],o=>⟨λs h=>(by cases h),λv h=>.inl h,by simp[bB],by simp[bB]⟩
 | x :: L,o=>by
  unfold bB
  split
  ·obtain⟨h1,h2,h3,h4⟩:=jW addr n L (o++[x.who])
   refine⟨λs h=>List.mem_cons_of_mem _ (h1 s h),λv h=>?_,by simp only[List.length_cons];omega,by simp only[List.length_cons,List.length_append,List.length_nil]at h4 ⊢;omega⟩;rcases h2 v h with h5|⟨s,h5,h6⟩
   ·rcases List.mem_append.1 h5 with h6|h6
    ·exact .inl h6
    ·rw[List.mem_singleton]at h6;exact .inr ⟨x,List.mem_cons_self ..,h6.symm⟩
   ·exact .inr ⟨s,List.mem_cons_of_mem _ h5,h6⟩
  ·obtain⟨h1,h2,h3,h4⟩:=jW addr n L o
   refine⟨λs h=>?_,λv h=>?_,by simp only[List.length_cons];omega,by simp only[List.length_cons];omega⟩
   ·rcases List.mem_cons.1 h with h5|h5
    ·rw[h5];exact List.mem_cons_self ..
    ·exact List.mem_cons_of_mem _ (h1 s h5)
   ·rcases h2 v h with h5|⟨s,h5,h6⟩
    ·exact .inl h5
    ·exact .inr ⟨s,List.mem_cons_of_mem _ h5,h6⟩
theorem yB{b:Nat}{F:Nat->Prop}{M:Mac}{ti:Nat}{w:World}(hM:MMem w b F M)(addr n:Int)(hn:0<=n/\n<4294967296)(hs:M.slp.length<=80000)(hS:∀s∈M.slp,0<=s.who/\s.who<M.threads.length):Calls Tryz.prog 110 #[.agg #[.pointer (some ⟨b,0,none⟩),.int .i64 ti],.int .i64 addr,.int .u32 n] w λe w'=>e=.returned (.int .u32 ((bB addr n M.slp []).2.length:Int))/\∃F',MMem w' b F' (og M addr n)/\Upd F F' w w':=by
 unfold og;obtain⟨hsub1,hsub2,hsl1,hsl2⟩:=jW addr n M.slp [];have hkw0:=λw' (h:Below w.heap.size w w')=>zO addr n hn (hM.below h) hs;obtain⟨T,hT⟩:=Zh (bB addr n M.slp []);rw[<-hT.out]at hsub1 hsub2 hsl1 hsl2 hkw0 ⊢;clear hT
 have hout:∀v∈T.2,0<=v/\v<M.threads.length:=λv hv=>by
  rcases hsub2 v hv with h|⟨s,h1,rfl⟩
  ·cases h
  ·exact hS s h1
 clear hsub1 hsub2;simp only[List.length_nil]at hsl2;go_enter Tryz.func110,Tryz.ntmps110;go_upto_region 1 with(fail);obtain⟨W,kS,e0,e1,XS,hal⟩:=aO w #[.pointer (some ⟨b,0,none⟩),.int .i64 ti] 148;rw[e0,e1];have hkS:w.heap.size<=kS:=aD e1;clear e0 e1;have yS:=ae W kS 0 _ 148 _ XS;have hkw:=hkw0 W hal;refine ab ?_
 iterate 6 refine Zv ?_
 refine aP rfl 171 #[.pointer (some ⟨b,4,none⟩),.int .i64 addr,.int .u32 n] (λv w'=>Own eN w' v T.2/\∃F',(MMem w' b F' { M with slp:=T.1 }/\(∀k,v.ownBlock=some k->W.heap.size<=k/\¬F' k))/\Upd F F' W w') ?_ hkw ?_
 ·first|(go_simp;done)|(go_simp;rfl)
 rintro lv w1 ⟨hOl,F1,⟨hM1,hF1⟩,hU1⟩;clear hkw hkw0 yS;obtain⟨pl,cl,rfl⟩:=hOl.form2;refine Zk ?_;refine Zv ?_;have hU:=(Upd.of_below (F:=F) hal).trans hU1
 have XS1:w1.heap[kS]? = some (.cells #[.pointer (some ⟨b,0,none⟩),.int .i64 ti] 148 (0,0)):=hU1.kept XS (λhF=>by
  have:=hM.lt kS hF;omega)
 have hSF:¬F1 kS:=λhF=>by
  rcases hU1.foot kS hF with h|h
  ·have:=hM.lt kS h;omega
  ·have:=aB XS;omega
 clear hU1;go_upto_region 3 with(fail);go_loopw [19] (λv wr=>∃i:Nat,v=.int .i64 i/\i<=T.2.length/\Own eN wr (.slice pl T.2.length cl) T.2/\MMem wr b F1 { M with slp:=T.1,threads:=mO M.threads (T.2.take i) }/\wr.heap[kS]? = some (.cells #[.pointer (some ⟨b,0,none⟩),.int .i64 ti] 148 (0,0))/\Upd F F1 w wr) (λv _=>T.2.length - (intOf v).toNat)
 case atStart=>exact⟨0,rfl,au _,hOl,hM1,XS1,hU⟩
 case round=>
  clear hOl hM1 XS1 hU;obtain⟨i,rfl,hi,hOl,hMi,XS1,hU⟩:=hrel
  by_cases hlt:i<T.2.length
  case neg=>
   obtain rfl:i=T.2.length:=by omega
   have hl1:¬((T.2.length:Int)<T.2.length):=by omega
   rw[List.take_length]at hMi;clear hlt;go_wp2;go_ret;exact⟨rfl,F1,hMi,hU⟩
  have hl0:(0:Int)<=i:=by omega
  have hl1:(i:Int)<T.2.length:=by omega
  obtain⟨q,hq⟩:∃q,T.2[i]? = some q:=⟨T.2[i],aq hlt⟩;obtain⟨hq0,hq1⟩:=hout q (aC hq);obtain⟨k,rfl⟩:∃k:Nat,q=k:=⟨q.toNat,by omega⟩
  obtain⟨gl,rfl⟩:∃gl,pl=some ⟨gl,0,none⟩:=by
   rcases hOl.form with⟨_,e⟩|⟨g,c,e,_⟩
   ·rw[e]at hlt;exact absurd hlt (Nat.not_lt_zero _)
   ·simp only[Value.slice.injEq]at e;exact⟨g,e.1⟩
  have yl:wr.cell? ⟨gl,i,none⟩=some (.int .i64 k):=by
   have:=(hOl.at jc).elem jc hq 0 _ rfl
   simpa[eN] using this
  obtain⟨V,vs,hMi⟩:=hMi;obtain⟨Vc,Vt,Vf,Vm,Vk,Ve⟩:=V;obtain⟨TH,hTH⟩:=Zh (mO M.threads (T.2.take i))
  have hTl:Hid (TH.length=M.threads.length):=by rw[hTH.out];exact qA _ _
  have hkT:k<TH.length:=by have:=hTl.out;omega
  rw[<-hTH.out]at hMi;have ht0:Own eT wr Vt TH:=hMi.rt
  obtain⟨gt,ct,rfl⟩:∃g c,Vt=.slice (some ⟨g,0,none⟩) TH.length c:=by
   rcases ht0.form with⟨_,e⟩|⟨g,c,e,_⟩
   ·rw[e]at hkT;exact absurd hkT (Nat.not_lt_zero _)
   ·exact⟨g,c,e⟩
  have y1:wr.cell? ⟨b,1,none⟩=some (.slice (some ⟨gt,0,none⟩) TH.length ct):=ae wr b 1 _ 105 _ hMi.blk;have yS:=ae wr kS 0 _ 148 _ XS1
  have hk0:(0:Int)<=k:=by omega
  have hk1:(k:Int)<TH.length:=by omega
  obtain⟨z,hz⟩:∃z,TH[k]? = some z:=⟨TH[k],aq hkT⟩;obtain⟨cur,hcur,hcs⟩:=ex n9 ht0
  have hcs':k * 10+9<cur.size:=by
   have:eT.sz=10:=rfl;rw[this]at hcs;omega
  go_upto_region 5 with(fail);refine ab ?_
  iterate 6 refine Zv ?_
  refine aG rfl (.pointer (some ⟨gt,k * 10,none⟩)) ?_ ?_
  ·go_simp
  refine Zk ?_;refine aG rfl (.pointer (some ⟨gt,k * 10+9,none⟩)) ?_ ?_
  ·go_simp
  refine Zk ?_;refine Zw 3 (k * 10+9) (.int .i64 0) (dw 0) hcur hcs' (λw2 p1 p2 p3=>?_);have hO2:=dG n9 ht0 hcur (i:=k) (q:=9) (x:=z) (y:={ z with st:=0 }) hz (by decide) rfl p1;obtain⟨hM2,hU2⟩:=hMi.put_t hO2 (λk hne=>p2 k (λe=>hne (by rw[e];rfl))) (λB h1 _=>p3 B (h1 gt rfl));have hOl2:=hOl.keep (w':=w2) (λg e=>hU2.blk g (hOl.lt e) (hF1 g e).2);have XS2:=hU2.kept XS1 hSF;have hUU:=hU.trans hU2
  have hTN:TH.set k { z with st:=0 }=mO M.threads (T.2.take (i+1)):=by
   rw[List.take_add_one,hq];unfold mO;rw[List.foldl_append];show _=kY (mO M.threads (T.2.take i)) (k:Int).toNat 0;rw[<-hTH.out,Int.toNat_natCast];unfold kY;rw[hz]
  rw[hTN]at hM2;clear hO2 p1 p2 p3 hcur hcs hcs' yl y1 yS hU2 hMi ht0 hOl XS1 hU hTH hTl hz;go_wp2;go_roundw
  case rel=>exact⟨i+1,by go_num,by omega,hOl2,⟨_,_,hM2⟩,XS2,hUU⟩
  case measure=>simp[intOf];omega
theorem fJ:U32 0:=⟨by omega,by omega⟩
theorem AG:U32 1:=⟨by omega,by omega⟩
structure nZ(n:Nat)(x:Bf):Prop where
 a:∀j,0<=x.ra j/\(x.ra j=0\/x.ra j<n)
 v:∀j,U32 (x.rv j)
 p:0<x.n->0<n
structure MOk(M:Mac):Prop where
 nt0:1<=M.threads.length
 nt1:M.threads.length<=8
 nb:M.bufs.length=M.threads.length
 nc:M.codes.length=M.threads.length
 mem:M.mem.length<=1024
 memU:∀v∈M.mem,U32 v
 bufs:∀x∈M.bufs,lD x/\nZ M.mem.length x
 slp:∀s∈M.slp,0<=s.who/\s.who<M.threads.length
 regs:∀x∈M.threads,∀j,U32 (x.regs j)
 codes:∀L∈M.codes,KOk L/\L.length<=4000
structure St(M M':Mac)(k s:Nat):Prop where
 ok:MOk M'
 ev:M'.evs.length<=M.evs.length+k
 slp:M'.slp.length<=M.slp.length+s
 pre:M.evs <+: M'.evs
 tl:M'.threads.length=M.threads.length
 ml:M'.mem.length=M.mem.length
 cd:M'.codes=M.codes
theorem St.refl{M:Mac}(h:MOk M):St M M 0 0:=⟨h,ah _,ah _,List.prefix_refl _,rfl,rfl,rfl⟩
theorem St.trans{A B C:Mac}{k s k' s':Nat}(h:St A B k s)(h':St B C k' s'):St A C (k+k') (s+s'):=⟨h'.ok,by have:=h.ev;have:=h'.ev;omega,by have:=h.slp;have:=h'.slp;omega,h.pre.trans h'.pre,h'.tl.trans h.tl,h'.ml.trans h.ml,h'.cd.trans h.cd⟩
theorem St.mono{A B:Mac}{k s k' s':Nat}(h:St A B k s)(hk:k<=k')(hs:s<=s'):St A B k' s':=⟨h.ok,by have:=h.ev;omega,by have:=h.slp;omega,h.pre,h.tl,h.ml,h.cd⟩
theorem Ae{x:Bf}(h:lD x)(h0:0<x.n):lD (eD x):=⟨(nM x 1).1,(nM x 1).2,by simp only[eD];omega,by have:=h.n1;simp only[eD];omega,h.r1⟩
theorem A5{x:Bf}(h:lD x)(hr:x.n<x.room)(a v:Int):lD (ed x a v):=⟨h.f0,h.f1,by have:=h.n0;simp only[ed];omega,by simp only[ed];omega,h.r1⟩
theorem CB{x:Bf}{n:Nat}(h:nZ n x):nZ n (eD x):=⟨λj=>by
 simp only[eD];split
 ·exact⟨Int.le_refl _,.inl rfl⟩
 ·exact h.a j,λj=>by
 simp only[eD];split
 ·exact fJ
 ·exact h.v j,λhp=>h.p (by simp only[eD]at hp;omega)⟩
theorem C9{x:Bf}{n:Nat}(h:nZ n x){a v:Int}(ha:0<=a/\a<n)(hv:U32 v):nZ n (ed x a v):=⟨λj=>by
 simp only[ed];split
 ·exact⟨ha.1,.inr ha.2⟩
 ·exact h.a j,λj=>by
 simp only[ed];split
 ·exact hv
 ·exact h.v j,λ_=>by omega⟩
theorem lR{x:Bf}{n:Nat}(h:nZ n x)(h0:0<x.n)(j:Nat):0<=x.ra j/\x.ra j<n:=⟨(h.a j).1,by
 have:=h.p h0
 rcases(h.a j).2 with e|e<;>omega⟩
theorem jm{α:Type}{l:List α}{i:Nat}{y z:α}(h:z∈l.set i y):z∈l\/z=y:=List.mem_or_eq_of_mem_set h
theorem MOk.buf{M:Mac}(h:MOk M){i:Nat}{x:Bf}(hx:M.bufs[i]? = some x):lD x/\nZ M.mem.length x:=h.bufs x (aC hx)
theorem MOk.at{M:Mac}(h:MOk M){i:Nat}(hi:i<M.threads.length):∃x,M.bufs[i]? = some x:=⟨M.bufs[i]'(h.nb▸hi),aq _⟩
theorem yH{M:Mac}(h:MOk M){i:Nat}{x:Bf}(hx:M.bufs[i]? = some x)(h0:0<x.n):St M (fM M i x) 1 0:=by
 obtain⟨hb,he⟩:=h.buf hx;refine⟨⟨h.nt0,h.nt1,by simp only[fM,List.length_set];exact h.nb,h.nc,by simp only[fM,List.length_set];exact h.mem,λv hv=>?_,λy hy=>?_,h.slp,h.regs,h.codes⟩,by simp[fM],ah _,⟨_,rfl⟩,rfl,by simp[fM],rfl⟩
 ·rcases jm hv with h1|rfl
  ·exact h.memU v h1
  ·exact he.v _
 ·simp only[fM,List.length_set]
  rcases jm hy with h1|rfl
  ·exact h.bufs y h1
  ·exact⟨Ae hb h0,CB he⟩
def bD(M:Mac)(ti:Nat):Mac:=match M.bufs[ti]? with
 | some x=>if 0<x.n then fM M ti x else M
 | none=>M
theorem rQ{M:Mac}{i:Nat}{x:Bf}(hx:M.bufs[i]? = some x)(h0:0<x.n):bD M i=fM M i x:=by simp only[bD,hx,ag h0]
theorem vp{M:Mac}{i:Nat}{x:Bf}(hx:M.bufs[i]? = some x)(h0:¬0<x.n):bD M i=M:=by simp only[bD,hx,af h0]
theorem nx{M:Mac}(h:MOk M)(i:Nat):St M (bD M i) 1 0:=by
 unfold bD
 split
 ·rename_i x hx
  split
  ·rename_i h0;exact yH h hx h0
  ·exact(St.refl h).mono (by omega) (by omega)
 ·exact(St.refl h).mono (by omega) (by omega)
theorem lK{b:Nat}{F:Nat->Prop}{M:Mac}{ti:Nat}{w:World}(hM:MMem w b F M)(h:MOk M)(hi:ti<M.threads.length)(hs:M.evs.length<=3000000):Calls Tryz.prog 60 #[.agg #[.pointer (some ⟨b,0,none⟩),.int .i64 ti]] w λe w'=>e=.returned (.tuple #[])/\∃F',MMem w' b F' (bD M ti)/\Upd F F' w w':=by
 obtain⟨x,hx⟩:=h.at hi;obtain⟨hb,he⟩:=h.buf hx
 by_cases h0:0<x.n
 ·rw[rQ hx h0]
  exact EE hM hx hb h0 (lR he h0 _) hs
 ·rw[vp hx h0]
  have e0:x.n=0:=by have:=hb.n0;omega
  exact Calls.mono (E1 hM hx e0) λe w' h'=>⟨h'.1,F,hM.below h'.2,Upd.of_below h'.2⟩
def fH(M:Mac)(i:Nat):Nat:=match M.bufs[i]? with
 | some x=>x.n.toNat
 | none=>0
theorem sm{M:Mac}{i:Nat}{x:Bf}(hx:M.bufs[i]? = some x):fH M i=x.n.toNat:=by simp only[fH,hx]
theorem wH{M:Mac}(h:MOk M)(i:Nat):fH M i<=16:=by
 unfold fH
 split
 ·rename_i x hx
  have h1:=(h.buf hx).1.n1;have h2:=(h.buf hx).1.r1;omega
 ·omega
theorem uZ(M:Mac)(i:Nat):fH (bD M i) i=fH M i - 1:=by
 cases hx:M.bufs[i]? with
 | none=>simp only[bD,fH,hx]
 | some x=>
  have hi:=(aj.1 hx).1
  by_cases h0:0<x.n
  ·rw[rQ hx h0,sm hx]
   simp only[fH,fM,List.getElem?_set_self hi,eD];omega
  ·rw[vp hx h0,sm hx];omega
def gr(M:Mac)(i:Nat):Nat->Mac
 | 0=>M
 | k+1=>bD (gr M i k) i
def AJ(M:Mac)(i:Nat):Mac:=gr M i (fH M i)
def fY(M:Mac):Nat->Mac
 | 0=>M
 | k+1=>AJ (fY M k) k
theorem pj(M:Mac)(i:Nat):∀k,fH (gr M i k) i=fH M i - k
 | 0=>rfl
 | k+1=>by rw[gr,uZ,pj M i k];omega
theorem kc{M:Mac}(h:MOk M)(i:Nat):∀k,St M (gr M i k) k 0
 | 0=>St.refl h
 | k+1=>(kc h i k).trans (nx (kc h i k).ok i)
theorem wX{M:Mac}(h:MOk M)(i:Nat):St M (AJ M i) 16 0:=(kc h i _).mono (wH h i) (ah _)
theorem im{M:Mac}(h:MOk M):∀k,St M (fY M k) (16 * k) 0
 | 0=>St.refl h
 | k+1=>((im h k).trans (wX (im h k).ok k)).mono (by omega) (by omega)
end Go.Proofs.YtldlcnaphednnaaGreatDoor
