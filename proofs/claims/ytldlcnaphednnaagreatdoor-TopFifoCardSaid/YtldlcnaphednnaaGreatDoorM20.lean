/- May a program be: its answer, as a function of its codes. A machine in memory: its rows; what stays while one of them turns. Slices of words, of events, cloned; an empty buffer. -/
import Derived.Test.YtldlcnaphednnaaGreatDoorM19
import Derived.Test.YtldlcnaphednnaaGreatDoorM04
import Derived.Test.YtldlcnaphednnaaGreatDoorM05
import Derived.Test.YtldlcnaphednnaaGreatDoorM18
set_option maxRecDepth 100000
set_option maxHeartbeats 32000000
set_option linter.unusedVariables false
set_option linter.unusedSimpArgs false
namespace Go.Proofs.YtldlcnaphednnaaGreatDoor
open Go.RowKit Go.Maps
def uv(L:List Ins):Bool:=L.all λx=>ik x L.length
def lG(L:List Ins):Int:=if 4000<L.length then 4 else if uv L=true then 0 else 3
def j9:List (List Ins)->Int
 | []=>0
 | L :: r=>if lG L=0 then j9 r else lG L
theorem xm{codes:List (List Ins)}{i:Nat}{L:List Ins}(h:codes[i]? = some L)(e:lG L=0):j9 (codes.drop i)=j9 (codes.drop (i+1)):=by
 have hi:i<codes.length:=(aj.1 h).1;rw[List.drop_eq_getElem_cons hi,j9];have:codes[i]=L:=(aj.1 h).2;rw[this,ag e]
theorem qC{codes:List (List Ins)}{i:Nat}{L:List Ins}(h:codes[i]? = some L)(e:lG L≠0):j9 (codes.drop i)=lG L:=by
 have hi:i<codes.length:=(aj.1 h).1;rw[List.drop_eq_getElem_cons hi,j9];have:codes[i]=L:=(aj.1 h).2;rw[this,af e]
theorem oQ{L:List Ins}(h:4000<L.length):lG L=4:=ag h
theorem Ab{L:List Ins}(h:¬4000<L.length)(h2:∀(j:Nat)(x:Ins),L[j]? = some x->ik x L.length=true):lG L=0:=by
 unfold lG;rw[af h,ag];unfold uv;rw[List.all_eq_true];intro x hx;obtain⟨j,hj⟩:=List.getElem?_of_mem hx;exact h2 j x hj
theorem qX{L:List Ins}(h:¬4000<L.length){x:Ins}{j:Nat}(hx:L[j]? = some x)(h2:ik x L.length=false):lG L=3:=by
 unfold lG;rw[af h,af];unfold uv;rw[List.all_eq_true];intro h3;have:=h3 x (aC hx);rw[h2]at this;cases this
theorem Ff{vc vm:Value}{codes:List (List Ins)}{mem:List Int}{room:Int}(hlen:1<=codes.length/\codes.length<=8)(hroom:1<=room/\room<=16)(hmem:mem.length<=1024)(hK:∀L∈codes,KOk L)(w:World)(hP:PgM w vc vm codes mem)(hI:IsaW w):Calls Tryz.prog 28 #[.agg #[vc,vm,.int .i64 room]] w λe w'=>(∃a b:Int,e=.returned (.tuple #[.int .i64 a,.int .i64 b,.int .i64 (j9 codes)]))/\Below w.heap.size w w':=by
 obtain⟨ha0,ha1⟩:=hlen;obtain⟨hr0,hr1⟩:=hroom;obtain⟨⟨vs,hOv,hCM⟩,hOm⟩:=hP;have hvl:Hid (vs.length=codes.length):=hCM.len;have hvl':=hvl.out
 obtain⟨gv,cv,rfl⟩:∃g c,vc=.slice (some ⟨g,0,none⟩) vs.length c:=by
  rcases hOv.form with⟨_,e⟩|⟨g,c,e,_⟩
  ·rw[e]at hvl';simp at hvl';omega
  ·exact⟨g,c,e⟩
 obtain⟨pm,cm,rfl⟩:=hOm.form2
 have hnv0:1<=vs.length:=by omega
 have hnv1:vs.length<=8:=by omega
 clear hvl';obtain⟨R,hR⟩:=Zh (j9 codes);rw[<-hR.out]
 have f1:¬((vs.length:Int)<1):=by omega
 have f2:¬((8:Int)<vs.length):=by omega
 have f3:¬(room<1):=by omega
 have f4:¬((16:Int)<room):=by omega
 have f5:¬((1024:Int)<mem.length):=by omega
 go_enter Tryz.func28,Tryz.ntmps28;go_upto_region 1 with(fail);obtain⟨W,kP,e0,e1,XP,hal⟩:=aO w #[.slice (some ⟨gv,0,none⟩) vs.length cv,.slice pm mem.length cm,.int .i64 room] 57;rw[e0,e1];clear e0 e1;obtain⟨y0,y1,y2⟩:=cl3 XP;go_upto_region 6 with(fail);clear y0 y1 y2 f1 f2 f3 f4 f5 XP;go_loopw [36] (λv wr=>∃i:Nat,v=.int .i64 i/\i<=vs.length/\Hid (R=j9 (codes.drop i))/\Below w.heap.size w wr) (λv _=>vs.length - (intOf v).toNat)
 case atStart=>exact⟨0,rfl,au _,hR,hal⟩
 case round=>
  clear hal hR;obtain⟨i,rfl,hi,hR,hal⟩:=hrel
  by_cases hlt:i<vs.length
  case neg=>
   obtain rfl:i=vs.length:=by omega
   have hl1:¬((vs.length:Int)<vs.length):=by omega
   obtain rfl:R=0:=hR.out.trans (by rw[hvl.out,List.drop_length];rfl);clear hR;go_wp2;go_ret3;exact⟨⟨_,_,rfl⟩,hal⟩
  have hl0:(0:Int)<=i:=by omega
  have hl1:(i:Int)<vs.length:=by omega
  obtain⟨v,hv⟩:∃v,vs[i]? = some v:=⟨vs[i],aq hlt⟩;obtain⟨L,hL⟩:∃L,codes[i]? = some L:=⟨codes[i]'(by have:=hvl.out;omega),aq (by have:=hvl.out;omega)⟩;have hOL:=hCM.code i v L hv hL;have hKL:=hK L (aC hL);obtain⟨pv,nv,cvv⟩:=v;obtain⟨V,c',e,hRV,_⟩:=i9 (w:=w) (v:=.slice pv nv cvv) (L:=L) hOL;simp only[Value.slice.injEq]at e;obtain⟨rfl,rfl,rfl⟩:=e
  have yv:wr.cell? ⟨gv,i,none⟩=some (.slice pv L.length cvv):=by
   have h1:=((hOv.at nT).below hal (hOv.lt rfl)).elem nT hv 0 _ rfl
   simpa[eV] using h1
  go_upto_region 8 with(fail);clear yv
  by_cases h4:4000<L.length
  ·have q4:(4000:Int)<L.length:=by omega
   obtain rfl:R=4:=hR.out.trans ((qC hL (by rw[oQ h4];decide)).trans (oQ h4));clear hR h4;go_wp2;go_ret3;exact⟨⟨_,_,rfl⟩,hal⟩
  have q4:¬((4000:Int)<L.length):=by omega
  obtain⟨wz,rfl⟩:∃z,z=wr:=⟨_,rfl⟩;go_upto_region 11 with(fail);go_loopw [47] (λv wr=>∃k:Nat,v=.int .i64 k/\k<=L.length/\(∀(j:Nat)(x:Ins),j<k->L[j]? = some x->ik x L.length=true)/\Below w.heap.size w wr) (λv _=>L.length - (intOf v).toNat)
  case atStart=>exact⟨0,rfl,au _,λj x hj=>absurd hj (Nat.not_lt_zero _),hal⟩
  case round=>
   clear hal;obtain⟨k,rfl,hk,hpre,hal⟩:=hrel
   by_cases hkt:k<L.length
   case neg=>
    obtain rfl:k=L.length:=by omega
    have hm1:¬((L.length:Int)<L.length):=by omega
    have hR':Hid (R=j9 (codes.drop (i+1))):=hR.out.trans (xm hL (Ab h4 (λj x hx=>hpre j x (aj.1 hx).1 hx)));clear hR hpre;go_wp2;go_roundw
    case rel=>exact⟨i+1,by go_num,by omega,hR',hal⟩
    case measure=>simp[intOf];omega
   have hm0:(0:Int)<=k:=by omega
   have hm1:(k:Int)<L.length:=by omega
   obtain⟨x,hx⟩:∃x,L[k]? = some x:=⟨L[k],aq hkt⟩;have hxk:=hKL x (aC hx);obtain⟨bL,off,rfl,hbl,hcl⟩:=(hRV.below hal) (by omega);have hxr:wr.rangeAt bL (off+k * 5) (dH x):=RowAt.elem (E:=eI) lB (λj u hu=>hcl j u hu) hx;clear hcl;obtain⟨rb',hrb⟩:∃q,Hid (q=ik x L.length):=⟨_,rfl⟩;have hri:=λw' (h:Below w.heap.size w w')=>tD x L.length hxk ⟨by omega,by omega⟩ w' (hI.below h);rw[<-hrb.out]at hri;obtain⟨xo,xa,xb,xc,xk⟩:=x;unfold iV iP at hri;simp only at hri;go_upto_region 12 with(fail);refine ab ?_;refine Zv ?_;refine aG rfl (.pointer (some ⟨bL,off+k * 5,none⟩)) ?_ ?_
   ·go_simp
   refine Zk ?_;refine aG rfl (.agg #[.int .i64 xo,.int .i64 xa,.int .i64 xb,.int .i64 xc,.int .u32 xk]) (aZ 115 (.tmp 50) rfl bL (off+k * 5) rfl (dH ⟨xo,xa,xb,xc,xk⟩) _ hxr Tryz.underlying115 rfl (by kernel_rfl)) ?_;refine Zk ?_;refine Za 115 #[.int .i64 0,.int .i64 0,.int .i64 0,.int .i64 0,.int .u32 0] (λw4 b6 X6 l6 f6=>?_);refine Zv ?_;refine Zo 115 b6 #[.int .i64 xo,.int .i64 xa,.int .i64 xb,.int .i64 xc,.int .u32 xk] X6 (λw5 g1 g2 g3 g4=>?_);have hb5:Below wr.heap.size wr w5:=l6.trans (g3 _ (by simp only[Hid]at f6;omega));clear X6 l6 f6 g2 g3 g4 hxr;replace hal:=hal.trans (hb5.mono hal.size);clear hb5;obtain⟨y0,y1,y2,y3,y4⟩:=cl5 g1;go_wp2_with fail;refine(hri w5 hal).mono ?_;rintro e w6 ⟨rfl,hb6⟩;clear y0 y1 y2 y3 y4;replace hal:=hal.trans (hb6.mono hal.size);clear hb6 hri g1
   cases rb'
   ·obtain rfl:R=3:=hR.out.trans ((qC hL (by rw[qX h4 hx hrb.out.symm];decide)).trans (qX h4 hx hrb.out.symm))
    clear hR hpre hrb;go_wp2;go_ret3;exact⟨⟨_,_,rfl⟩,hal⟩
   ·have hpre':∀(j:Nat)(x:Ins),j<k+1->L[j]? = some x->ik x L.length=true:=λj x hj hjx=>by
     by_cases hjk:j<k
     ·exact hpre j x hjk hjx
     ·obtain rfl:j=k:=by omega
      rw[hx]at hjx;cases hjx;exact hrb.out.symm
    clear hpre hrb;go_wp2;go_roundw
    case rel=>exact⟨k+1,by go_num,by omega,hpre',hal⟩
    case measure=>simp[intOf];omega
structure Mac where
 codes:List (List Ins)
 threads:List Th
 bufs:List Bf
 mem:List Int
 slp:List Slp
 evs:List Evt
structure MV where
 c:Value
 t:Value
 f:Value
 m:Value
 k:Value
 e:Value
def iE(V:MV):Array Value:=#[V.c,V.t,V.f,V.m,V.k,V.e]
structure MMv(w:World)(b:Nat)(F:Nat->Prop)(M:Mac)(V:MV)(vs:List Sl):Prop where
 blk:w.heap[b]? = some (.cells (iE V) 105 (0,0))
 rc:Own eV w V.c vs
 cm:CodesM w vs M.codes
 rt:Own eT w V.t M.threads
 rf:Own eB w V.f M.bufs
 rm:Own eU w V.m M.mem
 rk:Own eS w V.k M.slp
 re:Own eE w V.e M.evs
 foot:∀k,F k↔(k=b\/V.c.ownBlock=some k\/V.t.ownBlock=some k\/V.f.ownBlock=some k\/V.m.ownBlock=some k\/V.k.ownBlock=some k\/V.e.ownBlock=some k)
def MMem(w:World)(b:Nat)(F:Nat->Prop)(M:Mac):Prop:=∃V vs,MMv w b F M V vs
section
variable {w w':World} {b:Nat} {F:Nat->Prop} {M:Mac} {V:MV} {vs:List Sl}
theorem MMv.lt(h:MMv w b F M V vs):∀k,F k->k<w.heap.size:=λk hk=>by
 rcases(h.foot k).1 hk with rfl|e|e|e|e|e|e
 ·exact aB h.blk
 ·exact h.rc.lt e
 ·exact h.rt.lt e
 ·exact h.rf.lt e
 ·exact h.rm.lt e
 ·exact h.rk.lt e
 ·exact h.re.lt e
theorem MMv.below(h:MMv w b F M V vs)(hb:Below w.heap.size w w'):MMv w' b F M V vs:=⟨keep h.blk hb,h.rc.below hb,h.cm.below hb,h.rt.below hb,h.rf.below hb,h.rm.below hb,h.rk.below hb,h.re.below hb,h.foot⟩
theorem MMem.below(h:MMem w b F M)(hb:Below w.heap.size w w'):MMem w' b F M:=by
 obtain⟨V,vs,h⟩:=h;exact⟨V,vs,h.below hb⟩
theorem MMem.lt(h:MMem w b F M):∀k,F k->k<w.heap.size:=by
 obtain⟨V,vs,h⟩:=h;exact h.lt
theorem Own.other{α:Type}{E:Enc α}{v:Value}{l:List α}{X:TypeId}(h:Own E w v l)(ho:∀(k:Nat)(cs:Array Value)(ty:TypeId),w.heap[k]? = some (Obj.cells cs ty (0,0))->ty≠X->ty≠105->w'.heap[k]? = w.heap[k]?)(h1:E.ty≠X)(h2:E.ty≠105):Own E w' v l:=h.keep λg e=>by
 obtain⟨cs,h5⟩:=h.blk e;exact ho g cs _ h5 h1 h2
theorem CodesM.other{codes:List (List Ins)}{X:TypeId}(h:CodesM w vs codes)(ho:∀(k:Nat)(cs:Array Value)(ty:TypeId),w.heap[k]? = some (Obj.cells cs ty (0,0))->ty≠X->ty≠105->w'.heap[k]? = w.heap[k]?)(h1:(115:Nat)≠X):CodesM w' vs codes:=⟨h.len,λi v L e1 e2=>(h.code i v L e1 e2).other ho h1 (by decide)⟩
theorem i8{α:Type}{E:Enc α}{cs:Array Value}{off:Nat}{vc vc':Value}{l l':List α}(hA:j7 E w w' b off 105 cs vc vc' l')(hX:w.heap[b]? = some (.cells cs 105 (0,0)))(hO:Own E w vc l):∀(k:Nat)(cs:Array Value)(ty:TypeId),w.heap[k]? = some (Obj.cells cs ty (0,0))->ty≠E.ty->ty≠105->w'.heap[k]? = w.heap[k]? := λk cs ty hk h1 h2=>hA.oth k (aB hk) (λe=>aK hk hX h2 e) (λe=>by
 obtain⟨_,h5⟩:=hO.blk e
 exact aK hk h5 h1 rfl)
theorem nP{α:Type}{E:Enc α}{v:Value}{l:List α}(hO:Own E w v l)(hk:∀k,v.ownBlock≠some k->w'.heap[k]? = w.heap[k]?):∀(k:Nat)(cs:Array Value)(ty:TypeId),w.heap[k]? = some (Obj.cells cs ty (0,0))->ty≠E.ty->w'.heap[k]? = w.heap[k]? := λk cs ty h h1=>hk k (λe=>by
 obtain⟨_,h5⟩:=hO.blk e
 exact aK h h5 h1 rfl)
theorem MMv.app_c{v':Value}{vs':List Sl}{codes':List (List Ins)}(h:MMv w b F M V vs)(hA:j7 eV w w' b 0 105 (iE V) V.c v' vs')(hC:CodesM w' vs' codes'):∃F',MMv w' b F' { M with codes:=codes' } { V with c:=v' } vs'/\Upd F F' w w':=by
 have ho:=i8 hA h.blk h.rc;have fb:F b:=(h.foot b).2 (.inl rfl);have fv:∀k,V.c.ownBlock=some k->F k:=λk e=>(h.foot k).2 (.inr (.inl e));refine⟨λk=>k=b\/(v').ownBlock=some k\/(V.t).ownBlock=some k\/(V.f).ownBlock=some k\/(V.m).ownBlock=some k\/(V.k).ownBlock=some k\/(V.e).ownBlock=some k,⟨hA.blk,hA.own,hC,h.rt.other ho (by decide) (by decide),h.rf.other ho (by decide) (by decide),h.rm.other ho (by decide) (by decide),h.rk.other ho (by decide) (by decide),h.re.other ho (by decide) (by decide),λk=>Iff.rfl⟩,⟨λB hF hB=>hA.low B (hF b fb) hB (λk e=>hF k (fv k e)),λk hk hF=>hA.oth k hk (λe=>hF (e▸fb)) (λe=>hF (fv k e)),λk hk=>?_⟩⟩;rcases hk with rfl|e|e|e|e|e|e
 ·exact .inl fb
 ·rcases hA.new k e with h1|h1
  ·exact .inl (fv k h1)
  ·exact .inr h1
 ·exact .inl ((h.foot k).2 (.inr (.inr (.inl e))))
 ·exact .inl ((h.foot k).2 (.inr (.inr (.inr (.inl e)))))
 ·exact .inl ((h.foot k).2 (.inr (.inr (.inr (.inr (.inl e))))))
 ·exact .inl ((h.foot k).2 (.inr (.inr (.inr (.inr (.inr (.inl e)))))))
 ·exact .inl ((h.foot k).2 (.inr (.inr (.inr (.inr (.inr (.inr (e))))))))
theorem MMv.put_t{l':List Th}(h:MMv w b F M V vs)(hO:Own eT w' V.t l')(hk:∀k,V.t.ownBlock≠some k->w'.heap[k]? = w.heap[k]?)(hB:∀B,(∀k,V.t.ownBlock=some k->B<=k)->B<=w.heap.size->Below B w w'):MMv w' b F { M with threads:=l' } V vs/\Upd F F w w':=by
 have ho':=nP h.rt hk
 have ho:∀(k:Nat)(cs:Array Value)(ty:TypeId),w.heap[k]? = some (Obj.cells cs ty (0,0))->ty≠eT.ty->ty≠105->w'.heap[k]? = w.heap[k]? := λk cs ty a b' _=>ho' k cs ty a b'
 have fv:∀k,V.t.ownBlock=some k->F k:=λk e=>(h.foot k).2 (.inr (.inr (.inl e)));exact⟨⟨(ho' b _ _ h.blk (by decide)).trans h.blk,h.rc.other ho (by decide) (by decide),h.cm.other ho (by decide),hO,h.rf.other ho (by decide) (by decide),h.rm.other ho (by decide) (by decide),h.rk.other ho (by decide) (by decide),h.re.other ho (by decide) (by decide),h.foot⟩,⟨λB hF hB'=>hB B (λk e=>hF k (fv k e)) hB',λk _ hF=>hk k (λe=>hF (fv k e)),λk hk=>.inl hk⟩⟩
theorem MMv.app_f{v':Value}{l':List Bf}(h:MMv w b F M V vs)(hA:j7 eB w w' b 2 105 (iE V) V.f v' l'):∃F',MMv w' b F' { M with bufs:=l' } { V with f:=v' } vs/\Upd F F' w w':=by
 have ho:=i8 hA h.blk h.rf;have fb:F b:=(h.foot b).2 (.inl rfl);have fv:∀k,V.f.ownBlock=some k->F k:=λk e=>(h.foot k).2 (.inr (.inr (.inr (.inl e))));refine⟨λk=>k=b\/(V.c).ownBlock=some k\/(V.t).ownBlock=some k\/(v').ownBlock=some k\/(V.m).ownBlock=some k\/(V.k).ownBlock=some k\/(V.e).ownBlock=some k,⟨hA.blk,h.rc.other ho (by decide) (by decide),h.cm.other ho (by decide),h.rt.other ho (by decide) (by decide),hA.own,h.rm.other ho (by decide) (by decide),h.rk.other ho (by decide) (by decide),h.re.other ho (by decide) (by decide),λk=>Iff.rfl⟩,⟨λB hF hB=>hA.low B (hF b fb) hB (λk e=>hF k (fv k e)),λk hk hF=>hA.oth k hk (λe=>hF (e▸fb)) (λe=>hF (fv k e)),λk hk=>?_⟩⟩;rcases hk with rfl|e|e|e|e|e|e
 ·exact .inl fb
 ·exact .inl ((h.foot k).2 (.inr (.inl e)))
 ·exact .inl ((h.foot k).2 (.inr (.inr (.inl e))))
 ·rcases hA.new k e with h1|h1
  ·exact .inl (fv k h1)
  ·exact .inr h1
 ·exact .inl ((h.foot k).2 (.inr (.inr (.inr (.inr (.inl e))))))
 ·exact .inl ((h.foot k).2 (.inr (.inr (.inr (.inr (.inr (.inl e)))))))
 ·exact .inl ((h.foot k).2 (.inr (.inr (.inr (.inr (.inr (.inr (e))))))))
theorem MMv.put_f{l':List Bf}(h:MMv w b F M V vs)(hO:Own eB w' V.f l')(hk:∀k,V.f.ownBlock≠some k->w'.heap[k]? = w.heap[k]?)(hB:∀B,(∀k,V.f.ownBlock=some k->B<=k)->B<=w.heap.size->Below B w w'):MMv w' b F { M with bufs:=l' } V vs/\Upd F F w w':=by
 have ho':=nP h.rf hk
 have ho:∀(k:Nat)(cs:Array Value)(ty:TypeId),w.heap[k]? = some (Obj.cells cs ty (0,0))->ty≠eB.ty->ty≠105->w'.heap[k]? = w.heap[k]? := λk cs ty a b' _=>ho' k cs ty a b'
 have fv:∀k,V.f.ownBlock=some k->F k:=λk e=>(h.foot k).2 (.inr (.inr (.inr (.inl e))));exact⟨⟨(ho' b _ _ h.blk (by decide)).trans h.blk,h.rc.other ho (by decide) (by decide),h.cm.other ho (by decide),h.rt.other ho (by decide) (by decide),hO,h.rm.other ho (by decide) (by decide),h.rk.other ho (by decide) (by decide),h.re.other ho (by decide) (by decide),h.foot⟩,⟨λB hF hB'=>hB B (λk e=>hF k (fv k e)) hB',λk _ hF=>hk k (λe=>hF (fv k e)),λk hk=>.inl hk⟩⟩
theorem MMv.put_m{l':List Int}(h:MMv w b F M V vs)(hO:Own eU w' V.m l')(hk:∀k,V.m.ownBlock≠some k->w'.heap[k]? = w.heap[k]?)(hB:∀B,(∀k,V.m.ownBlock=some k->B<=k)->B<=w.heap.size->Below B w w'):MMv w' b F { M with mem:=l' } V vs/\Upd F F w w':=by
 have ho':=nP h.rm hk
 have ho:∀(k:Nat)(cs:Array Value)(ty:TypeId),w.heap[k]? = some (Obj.cells cs ty (0,0))->ty≠eU.ty->ty≠105->w'.heap[k]? = w.heap[k]? := λk cs ty a b' _=>ho' k cs ty a b'
 have fv:∀k,V.m.ownBlock=some k->F k:=λk e=>(h.foot k).2 (.inr (.inr (.inr (.inr (.inl e)))));exact⟨⟨(ho' b _ _ h.blk (by decide)).trans h.blk,h.rc.other ho (by decide) (by decide),h.cm.other ho (by decide),h.rt.other ho (by decide) (by decide),h.rf.other ho (by decide) (by decide),hO,h.rk.other ho (by decide) (by decide),h.re.other ho (by decide) (by decide),h.foot⟩,⟨λB hF hB'=>hB B (λk e=>hF k (fv k e)) hB',λk _ hF=>hk k (λe=>hF (fv k e)),λk hk=>.inl hk⟩⟩
theorem MMv.app_k{v':Value}{l':List Slp}(h:MMv w b F M V vs)(hA:j7 eS w w' b 4 105 (iE V) V.k v' l'):∃F',MMv w' b F' { M with slp:=l' } { V with k:=v' } vs/\Upd F F' w w':=by
 have ho:=i8 hA h.blk h.rk;have fb:F b:=(h.foot b).2 (.inl rfl);have fv:∀k,V.k.ownBlock=some k->F k:=λk e=>(h.foot k).2 (.inr (.inr (.inr (.inr (.inr (.inl e))))));refine⟨λk=>k=b\/(V.c).ownBlock=some k\/(V.t).ownBlock=some k\/(V.f).ownBlock=some k\/(V.m).ownBlock=some k\/(v').ownBlock=some k\/(V.e).ownBlock=some k,⟨hA.blk,h.rc.other ho (by decide) (by decide),h.cm.other ho (by decide),h.rt.other ho (by decide) (by decide),h.rf.other ho (by decide) (by decide),h.rm.other ho (by decide) (by decide),hA.own,h.re.other ho (by decide) (by decide),λk=>Iff.rfl⟩,⟨λB hF hB=>hA.low B (hF b fb) hB (λk e=>hF k (fv k e)),λk hk hF=>hA.oth k hk (λe=>hF (e▸fb)) (λe=>hF (fv k e)),λk hk=>?_⟩⟩;rcases hk with rfl|e|e|e|e|e|e
 ·exact .inl fb
 ·exact .inl ((h.foot k).2 (.inr (.inl e)))
 ·exact .inl ((h.foot k).2 (.inr (.inr (.inl e))))
 ·exact .inl ((h.foot k).2 (.inr (.inr (.inr (.inl e)))))
 ·exact .inl ((h.foot k).2 (.inr (.inr (.inr (.inr (.inl e))))))
 ·rcases hA.new k e with h1|h1
  ·exact .inl (fv k h1)
  ·exact .inr h1
 ·exact .inl ((h.foot k).2 (.inr (.inr (.inr (.inr (.inr (.inr (e))))))))
theorem MMv.app_e{v':Value}{l':List Evt}(h:MMv w b F M V vs)(hA:j7 eE w w' b 5 105 (iE V) V.e v' l'):∃F',MMv w' b F' { M with evs:=l' } { V with e:=v' } vs/\Upd F F' w w':=by
 have ho:=i8 hA h.blk h.re;have fb:F b:=(h.foot b).2 (.inl rfl);have fv:∀k,V.e.ownBlock=some k->F k:=λk e=>(h.foot k).2 (.inr (.inr (.inr (.inr (.inr (.inr (e)))))));refine⟨λk=>k=b\/(V.c).ownBlock=some k\/(V.t).ownBlock=some k\/(V.f).ownBlock=some k\/(V.m).ownBlock=some k\/(V.k).ownBlock=some k\/(v').ownBlock=some k,⟨hA.blk,h.rc.other ho (by decide) (by decide),h.cm.other ho (by decide),h.rt.other ho (by decide) (by decide),h.rf.other ho (by decide) (by decide),h.rm.other ho (by decide) (by decide),h.rk.other ho (by decide) (by decide),hA.own,λk=>Iff.rfl⟩,⟨λB hF hB=>hA.low B (hF b fb) hB (λk e=>hF k (fv k e)),λk hk hF=>hA.oth k hk (λe=>hF (e▸fb)) (λe=>hF (fv k e)),λk hk=>?_⟩⟩;rcases hk with rfl|e|e|e|e|e|e
 ·exact .inl fb
 ·exact .inl ((h.foot k).2 (.inr (.inl e)))
 ·exact .inl ((h.foot k).2 (.inr (.inr (.inl e))))
 ·exact .inl ((h.foot k).2 (.inr (.inr (.inr (.inl e)))))
 ·exact .inl ((h.foot k).2 (.inr (.inr (.inr (.inr (.inl e))))))
 ·exact .inl ((h.foot k).2 (.inr (.inr (.inr (.inr (.inr (.inl e)))))))
 ·rcases hA.new k e with h1|h1
  ·exact .inl (fv k h1)
  ·exact .inr h1
end
theorem Di(w:World):(Instr.buildSlice 55 0 #[]).run Tryz.prog w=.ok (.slice (some ⟨w.heap.size,0,none⟩) 0 0) (w.alloc (.cells #[] 37)):=by
 kernel_rfl
section
variable {ops:Array Oper} {Q:Exit->Act->World->Prop}
theorem Ep{rest:List Oper}{o:Oper}{a:Act}{w:World}(hgd:o.guard=none)(ho:o.op=.buildSlice 55 0 #[])
  (h:∀(w':World)(r:Nat),Own eU w' (.slice (some ⟨r,0,none⟩) 0 0) []->Below w.heap.size w w'->Hid (r=w.heap.size)->∀K:Act->World->Prop,(∀a w,wpList Tryz.prog ops Q rest a w->K a w)->K (a.put o.dst (.slice (some ⟨r,0,none⟩) 0 0)) w'):wpList Tryz.prog ops Q (o :: rest) a w:=by
 refine wpList_plain hgd λK hK=>?_
 unfold Oper.wp execOp;have hr:=Di w;simp only[ho,List.map_toArray,List.map_nil,Sem.run_bind,hr,Result.andThen_ok];exact h _ _ (Own.empty w) ((ak _ _).alloc (ah _) _) rfl K hK
end
theorem Eh:(Tryz.prog.info? eU.ty).map (λi=>(i.zero.map (·.cells.size),i.size,i.bytes))=some (some eU.sz,eU.sz,4):=by kernel_rfl
theorem Aw(v:Value)(L:List Int)(hL:L.length<=2000000)(w:World)(hO:Own eU w v L):Calls Tryz.prog 29 #[v] w λe w'=>(∃v',e=.returned v'/\Own eU w' v' L/\∀k,v'.ownBlock=some k->w.heap.size<=k)/\Below w.heap.size w w':=by
 have heq1:∀(n c:Nat)(w:World),(binOp BinOp.eql 55 (Value.slice none n c) (Value.slice none 0 0)).run Tryz.prog w=.ok (.bool true) w:=λn c w=>by kernel_rfl
 have heq2:∀(ad:Addr)(n c:Nat)(w:World),(binOp BinOp.eql 55 (Value.slice (some ad) n c) (Value.slice none 0 0)).run Tryz.prog w=.ok (.bool false) w:=λad n c w=>by kernel_rfl
 rcases hO.form with⟨rfl,rfl⟩|⟨g,c,rfl,_⟩
 ·go_enter Tryz.func29,Tryz.ntmps29
  go_wp2;go_ret;exact⟨⟨.slice none 0 0,rfl,Own.nil _,λk h=>by cases h⟩,ak _ _⟩
 ·go_enter Tryz.func29,Tryz.ntmps29
  go_upto_region 3 with(fail);refine ab ?_;refine Ep rfl rfl (λw1 r hO1 hb1 fr=>?_);refine Zk ?_;refine Zv ?_;have hO0:=hO.below hb1
  refine i5 jE rfl 55 Tryz.underlying55 4 Eh (.tmp 5) (.tmp 6) rfl _ [] L rfl hO1 g 0 c rfl (hO0.at jE) (by simp<;>omega) (by decide) (λv' w2 hO2 hg2 hl2=>?_)
  refine Zk ?_;refine Zv ?_
  have er:w.heap.size<=r:=by simp only[Hid]at fr;omega
  go_wp2;go_ret;refine⟨⟨v',rfl,by simpa using hO2,λk h=>?_⟩,hb1.grown hg2 hb1.size (λk e=>by cases e;exact er)⟩;rcases hl2 with e|e
  ·rw[e]at h;cases h;exact er
  ·rw[e]at h;cases h;exact hb1.size
theorem Al(w:World):(Instr.buildSlice 30 0 #[]).run Tryz.prog w=.ok (.slice (some ⟨w.heap.size,0,none⟩) 0 0) (w.alloc (.cells #[] 46)):=by
 kernel_rfl
section
variable {ops:Array Oper} {Q:Exit->Act->World->Prop}
theorem Cs{rest:List Oper}{o:Oper}{a:Act}{w:World}(hgd:o.guard=none)(ho:o.op=.buildSlice 30 0 #[])
  (h:∀(w':World)(r:Nat),Own eE w' (.slice (some ⟨r,0,none⟩) 0 0) []->Below w.heap.size w w'->Hid (r=w.heap.size)->∀K:Act->World->Prop,(∀a w,wpList Tryz.prog ops Q rest a w->K a w)->K (a.put o.dst (.slice (some ⟨r,0,none⟩) 0 0)) w'):wpList Tryz.prog ops Q (o :: rest) a w:=by
 refine wpList_plain hgd λK hK=>?_
 unfold Oper.wp execOp;have hr:=Al w;simp only[ho,List.map_toArray,List.map_nil,Sem.run_bind,hr,Result.andThen_ok];exact h _ _ (Own.empty w) ((ak _ _).alloc (ah _) _) rfl K hK
end
theorem zG:(Tryz.prog.info? eE.ty).map (λi=>(i.zero.map (·.cells.size),i.size,i.bytes))=some (some eE.sz,eE.sz,48):=by kernel_rfl
theorem CV(v:Value)(L:List Evt)(hL:L.length<=2000000)(w:World)(hO:Own eE w v L):Calls Tryz.prog 34 #[v] w λe w'=>(∃v',e=.returned v'/\Own eE w' v' L/\∀k,v'.ownBlock=some k->w.heap.size<=k)/\Below w.heap.size w w':=by
 have heq1:∀(n c:Nat)(w:World),(binOp BinOp.eql 30 (Value.slice none n c) (Value.slice none 0 0)).run Tryz.prog w=.ok (.bool true) w:=λn c w=>by kernel_rfl
 have heq2:∀(ad:Addr)(n c:Nat)(w:World),(binOp BinOp.eql 30 (Value.slice (some ad) n c) (Value.slice none 0 0)).run Tryz.prog w=.ok (.bool false) w:=λad n c w=>by kernel_rfl
 rcases hO.form with⟨rfl,rfl⟩|⟨g,c,rfl,_⟩
 ·go_enter Tryz.func34,Tryz.ntmps34
  go_wp2;go_ret;exact⟨⟨.slice none 0 0,rfl,Own.nil _,λk h=>by cases h⟩,ak _ _⟩
 ·go_enter Tryz.func34,Tryz.ntmps34
  go_upto_region 3 with(fail);refine ab ?_;refine Cs rfl rfl (λw1 r hO1 hb1 fr=>?_);refine Zk ?_;refine Zv ?_;have hO0:=hO.below hb1
  refine i5 eE_ok rfl 30 Tryz.underlying30 48 zG (.tmp 5) (.tmp 6) rfl _ [] L rfl hO1 g 0 c rfl (hO0.at eE_ok) (by simp<;>omega) (by decide) (λv' w2 hO2 hg2 hl2=>?_)
  refine Zk ?_;refine Zv ?_
  have er:w.heap.size<=r:=by simp only[Hid]at fr;omega
  go_wp2;go_ret;refine⟨⟨v',rfl,by simpa using hO2,λk h=>?_⟩,hb1.grown hg2 hb1.size (λk e=>by cases e;exact er)⟩;rcases hl2 with e|e
  ·rw[e]at h;cases h;exact er
  ·rw[e]at h;cases h;exact hb1.size
theorem Ac{fn:Func}{d:List Deferred}{w:World}{R:Ending->World->Prop}{tmps:Array Value}{p u:Tmp}{b:Nat}{cs:Array Value}{ok:Value}{ty:TypeId}{ds:TypeDesc}(hr:fn.results=#[.cell p ty,.tmp u])(hx:tmps.getD p undef=.pointer (some ⟨b,0,none⟩))(hok:tmps.getD u undef=ok)
  (hg:w.heap[b]? = some (.cells cs ty (0,0))) (hd':ds.isRow=true) (hu:Tryz.prog.underlying ty=some ds) (hi:(Tryz.prog.info? ty).map (·.size)=some cs.size) (hd:d=[]) (hR:R (.returned (.tuple #[.agg cs,ok])) w):bodyPost Tryz.prog fn R (.ret) ⟨tmps,d⟩ w:=by
 refine bodyPost_ret ?_ hd hR;rw[results_cell_tmp hr,hx,hok];simp only[asAddr,Sem.run_pure,Result.andThen_ok]
 rw[run_loadVar_row w b ty ty cs (0,0) _ hg hu (by cases ds<;>first|rfl|cases hd') hi]
 rfl
def bf0(room:Int):Bf:=⟨λ_=>0,λ_=>0,0,0,room⟩
theorem E0(room:Int)(hr:1<=room/\room<=16)(w:World):Calls Tryz.prog 30 #[.int .i64 room] w λe w'=>e=.returned (.tuple #[.agg (mz (bf0 room)).toArray,.int .i64 0])/\Below w.heap.size w w':=by
 obtain⟨h0,h1⟩:=hr
 have f1:¬room<1:=by omega
 have f2:¬(16:Int)<room:=by omega
 go_enter Tryz.func30,Tryz.ntmps30;go_upto_region 1 with(fail);obtain⟨W,kR,e0,e1,XR,hal⟩:=aO w #[.int .i64 0,.int .u32 0,.int .i64 0,.int .u32 0,.int .i64 0,.int .u32 0,.int .i64 0,.int .u32 0,.int .i64 0,.int .u32 0,.int .i64 0,.int .u32 0,.int .i64 0,.int .u32 0,.int .i64 0,.int .u32 0,.int .i64 0,.int .u32 0,.int .i64 0,.int .u32 0,.int .i64 0,.int .u32 0,.int .i64 0,.int .u32 0,.int .i64 0,.int .u32 0,.int .i64 0,.int .u32 0,.int .i64 0,.int .u32 0,.int .i64 0,.int .u32 0,.int .i64 0,.int .i64 0,.int .i64 0] 110;rw[e0,e1];have hk:w.heap.size<=kR:=aD e1;clear e0 e1;go_upto_region 3 with(fail);refine ab ?_
 iterate 2 refine Zv ?_
 refine Zo 110 kR #[.int .i64 0,.int .u32 0,.int .i64 0,.int .u32 0,.int .i64 0,.int .u32 0,.int .i64 0,.int .u32 0,.int .i64 0,.int .u32 0,.int .i64 0,.int .u32 0,.int .i64 0,.int .u32 0,.int .i64 0,.int .u32 0,.int .i64 0,.int .u32 0,.int .i64 0,.int .u32 0,.int .i64 0,.int .u32 0,.int .i64 0,.int .u32 0,.int .i64 0,.int .u32 0,.int .i64 0,.int .u32 0,.int .i64 0,.int .u32 0,.int .i64 0,.int .u32 0,.int .i64 0,.int .i64 0,.int .i64 room] XR (λw2 g1 g2 g3 g4=>?_);go_wp2;refine Ac rfl rfl rfl g1 rfl Tryz.underlying110 (by kernel_rfl) rfl ?_;exact⟨rfl,hal.trans (g3 _ hk)⟩
end Go.Proofs.YtldlcnaphednnaaGreatDoor
