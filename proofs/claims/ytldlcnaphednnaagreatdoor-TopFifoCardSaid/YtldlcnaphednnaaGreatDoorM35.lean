/- A heap of at most two acts. A teller tells a mutex's call. A thread's events, one by one: an iterator. -/
import Derived.Test.YtldlcnaphednnaaGreatDoorM34
import Derived.Test.YtldlcnaphednnaaGreatDoorM29
import Derived.RangeFuncNested
import Derived.RangeFuncBound
import Derived.RangeFuncCalls
import Derived.RangeFuncLeaves
import Derived.Shelf.Abstract
import Derived.Shelf.RegionOpen
import Derived.WalkKit
import Derived.OwnWalkIn
import Derived.TacticsInMore
import Derived.LoopNIn
import Derived.LoopIn
set_option maxRecDepth 100000
set_option maxHeartbeats 32000000
set_option linter.unusedVariables false
set_option linter.unusedSimpArgs false
namespace Go.Proofs.YtldlcnaphednnaaGreatDoor
open Go.RowKit Go.Maps
theorem Fv{B0 k:Nat}{w:World}{v:Value}{L:List Act}(h:HB B0 w k v L)(j:Nat)(hj:(j=0/\∃x,L=[x])\/(j=1/\∃x y,L=[x,y]/\¬y.at_<x.at_)):Calls Tryz.prog 115 #[.iface 83 (.pointer (some ⟨k,0,none⟩)),.int .i64 j] w λe w'=>e=.returned (.tuple #[])/\Below w.heap.size w w':=by
 rcases hj with⟨rfl,_⟩|⟨rfl,x,y,rfl,hlt⟩
 ·go_enter Tryz.func115,Tryz.ntmps115
  go_upto_region 0 with(fail);go_loopw [1] (λv wr=>v=.int .i64 0/\wr=w) (λ_ _=>0)
  case atStart=>exact⟨rfl,rfl⟩
  case round=>
   obtain⟨rfl,rfl⟩:=hrel;go_wp2;go_end0;exact⟨rfl,ak _ _⟩
 ·obtain⟨g,c,rfl⟩:∃g c,v=.slice (some ⟨g,0,none⟩) 2 c:=by
   rcases h.own.form with⟨_,e⟩|⟨g,c,e,_⟩
   ·cases e
   ·exact⟨g,c,e⟩
  have hls:=λw' (h':Below w.heap.size w w')=>AF (i:=1) (j:=0) (h.own.below h') (x:=y) (y:=x) rfl rfl rfl;have hd:decide (y.at_<x.at_)=false:=az hlt;rw[hd]at hls;clear hd hlt;go_enter Tryz.func115,Tryz.ntmps115;go_upto_region 0 with(fail);go_loopw [1] (λv wr=>v=.int .i64 1/\wr=w) (λ_ _=>0)
  case atStart=>exact⟨rfl,rfl⟩
  case round=>
   obtain⟨rfl,rfl⟩:=hrel;go_upto_region 1 with(fail);refine ab ?_
   iterate 4 refine Zv ?_
   iterate 3
    with_reducible refine bw (by kernel_rfl) ?_ ?_ ?_
    rotate_left
    ·go_simp;try with_reducible rfl
    refine Zk ?_
   with_reducible refine jj (by kernel_rfl) 224 #[.slice (some ⟨g,0,none⟩) 2 c,.int .i64 1,.int .i64 0] ?_ (hls _ (ak _ _)) (λw2 h2=>?_)
   ·go_simp;rw[FN h.box];first|rfl|kernel_rfl
   refine Zk ?_
   with_reducible refine bw (by kernel_rfl) ?_ ?_ ?_
   rotate_left
   ·go_simp;try with_reducible rfl
   refine Zk ?_;refine Zv ?_;go_wp2;go_end0;exact⟨rfl,h2⟩
theorem zQ{B0 k:Nat}{w:World}{v:Value}{L:List Act}(h:HB B0 w k v L)(a:Act)(hL:L=[]\/∃x,L=[x]/\¬a.at_<x.at_)(hw:B0<=w.heap.size):Calls Tryz.prog 85 #[.iface 83 (.pointer (some ⟨k,0,none⟩)),.iface 77 (.agg (gY a).toArray)] w λe w'=>e=.returned (.tuple #[])/\(∃v',HB B0 w' k v' (L++[a]))/\KH B0 k v w w':=by
 have hl:L.length<=1:=by rcases hL with rfl|⟨x,rfl,_⟩<;>simp
 have hps:=zg h a (by omega) hw;obtain⟨n,hn⟩:=Zh (L.length)
 have hup:(n=0/\∃x,L++[a]=[x])\/(n=1/\∃x y,L++[a]=[x,y]/\¬y.at_<x.at_):=by
  rw[hn.out];rcases hL with rfl|⟨x,rfl,hx⟩
  ·exact .inl ⟨rfl,a,rfl⟩
  ·exact .inr ⟨rfl,x,a,rfl,hx⟩
 have hn1:Hid ((L++[a]).length=n+1):=by rw[hn.out];simp[Hid]
 rw[<-hn.out]at hl;clear hL;go_enter Tryz.func85,Tryz.ntmps85;go_upto_region 0 with(fail);refine ab ?_
 iterate 2 refine Zv ?_
 refine aP rfl 226 #[.pointer (some ⟨k,0,none⟩),.iface 77 (.agg (gY a).toArray)] (λu w'=>u=.tuple #[]/\(∃v',HB B0 w' k v' (L++[a]))/\KH B0 k v w w') ?_ (hps.mono λe w' h=>⟨_,h.1,rfl,h.2⟩) ?_
 ·go_simp;rw[Ei k];first|rfl|kernel_rfl
 rintro _ w2 ⟨rfl,⟨v2,h2⟩,hb2⟩;refine Zk ?_;obtain⟨p,c,rfl⟩:=h2.own.form2;rw[hn1.out]at h2;clear hps;go_upto_region 1 with(fail);refine ab ?_
 iterate 2 refine Zv ?_
 refine D3 rfl 23 #[.slice p (n+1) c] ?_ ((rR p (n+1) c w2).mono λe w' h=>⟨h.1,(by rw[h.2];exact ak _ _)⟩) (λw3 h3=>?_)
 ·go_simp;rw[DF h2.box];first|rfl|kernel_rfl
 refine Zk ?_;refine aG rfl (.int .i64 n) ?_ ?_
 ·go_simp;try (rw[IntKind.wrap_i64];omega)
 refine Zk ?_;refine Zq 115 #[.iface 83 (.pointer (some ⟨k,0,none⟩)),.int .i64 n] (Fv (h2.below h3) n hup) (λw4 h4=>?_);have h5:=(h2.below h3).below h4;have hb5:KH B0 k v w w4:=(hb2.trans (.of_below h3 (ar hw hb2.low.size))).trans (.of_below h4 (ar (ar hw hb2.low.size) h3.size));go_wp2;go_end0;exact⟨rfl,⟨_,h5⟩,hb5⟩
theorem Bc{k:Nat}{w:World}(n:Nat)(hn:n<=1):Calls Tryz.prog 53 #[.iface 83 (.pointer (some ⟨k,0,none⟩)),.int .i64 0,.int .i64 n] w λe w'=>(∃v,e=.returned v)/\w'=w:=by
 have h1:(n:Int)<=1:=by omega
 have h0:(0:Int)<=n:=by omega
 go_enter Tryz.func53,Tryz.ntmps53;go_upto_region 2 with(fail);go_loopw [7] (λv wr=>v=.int .i64 0/\wr=w) (λ_ _=>0)
 case atStart=>exact⟨rfl,rfl⟩
 case round=>
  obtain⟨rfl,rfl⟩:=hrel;go_wp2;go_ret;exact⟨⟨_,rfl⟩,rfl⟩
theorem Cr{B0 k:Nat}{w:World}{v:Value}{x:Act}{r:List Act}(h:HB B0 w k v (x :: r))(hr:r.length<=1)(hw:B0<=w.heap.size):Calls Tryz.prog 24 #[.iface 83 (.pointer (some ⟨k,0,none⟩))] w λe w'=>e=.returned (.iface 77 (.agg (gY x).toArray))/\(∃v',HB B0 w' k v' r/\∀j,v'.ownBlock=some j->v.ownBlock=some j)/\KH B0 k v w w':=by
 obtain⟨n,hn⟩:=Zh (r.length)
 have hn1:Hid ((x :: r).length=n+1):=by rw[hn.out];simp[Hid]
 rw[<-hn.out]at hr
 obtain⟨g,c,rfl⟩:∃g c,v=.slice (some ⟨g,0,none⟩) (n+1) c:=by
  rcases h.own.form with⟨_,e⟩|⟨g,c,e,_⟩
  ·cases e
  ·exact⟨g,c,by rw[e,hn1.out]⟩
 obtain⟨y,hy⟩:∃y,(x :: r)[n]? = some y:=⟨_,aq (by rw[hn1.out];omega)⟩
 have hset:((x :: r).set 0 y).set n x=r++[x]:=by
  have hn':=hn.out
  match r,hn' with
  | [],hn'=>subst hn';rfl
  | [z],hn'=>subst hn';simp at hy;subst hy;rfl
  | a :: b :: l,hn'=>simp at hn';omega
 have hsw:=λw' (hb:Below w.heap.size w w')=>Bd (i:=0) (j:=n) (h.own.below hb) (x:=x) (y:=y) rfl hy hn1.out.symm;rw[hset]at hsw;clear hset hy;go_enter Tryz.func24,Tryz.ntmps24;go_upto_region 1 with(fail);refine ab ?_;refine Zv ?_;refine D3 rfl 23 #[.slice (some ⟨g,0,none⟩) (n+1) c] ?_ ((rR _ (n+1) c w).mono λe w' h=>⟨h.1,(by rw[h.2];exact ak _ _)⟩) (λw2 h2=>?_)
 ·go_simp;rw[DF h.box];first|rfl|kernel_rfl
 refine Zk ?_;refine aG rfl (.int .i64 n) ?_ ?_
 ·go_simp;try (rw[IntKind.wrap_i64];omega)
 refine Zk ?_;refine Zv ?_;go_upto_region 2 with(fail);refine ab ?_
 iterate 2 refine Zv ?_
 refine aP rfl 227 #[.slice (some ⟨g,0,none⟩) (n+1) c,.int .i64 0,.int .i64 n] (λv w'=>v=.tuple #[]/\Own eA w' (.slice (some ⟨g,0,none⟩) (n+1) c) (r++[x])/\(∀k,k<w2.heap.size->k≠g->w'.heap[k]? = w2.heap[k]?)/\(∀B,B<=g->B<=w2.heap.size->Below B w2 w')) ?_ ((hsw w2 h2).mono λe w' h=>⟨_,h.1,rfl,h.2⟩) ?_
 ·go_simp;rw[D7 (h.below h2).box];first|rfl|kernel_rfl
 rintro _ w3 ⟨rfl,hO3,hk3,hB3⟩;refine Zk ?_;have hb2:=(h.below h2).box
 have hX3:w3.heap[k]? = some (.cells #[.slice (some ⟨g,0,none⟩) (n+1) c] 84 (0,0)):=(hk3 k (aB hb2) (λe=>by
  obtain⟨cs,h5⟩:=(h.own.below h2).blk rfl
  exact aK hb2 h5 (by decide) e)).trans hb2
 have h3:HB B0 w3 k (.slice (some ⟨g,0,none⟩) (n+1) c) (r++[x]):=⟨hX3,hO3,h.k0,h.v0⟩;have hBW:KH B0 k (.slice (some ⟨g,0,none⟩) (n+1) c) w w3:=⟨(h2.mono hw).trans (hB3 B0 (h.v0 g rfl) (ar hw h2.size)),λj hj jk jv=>(hk3 j (aA hj h2.size) (λe=>jv (by rw[e];rfl))).trans (h2.block j hj)⟩;clear hsw hO3 hk3 hB3 hb2 hX3 h;go_upto_region 3 with(fail);refine ab ?_
 iterate 2 refine Zv ?_
 refine aP rfl 53 #[.iface 83 (.pointer (some ⟨k,0,none⟩)),.int .i64 0,.int .i64 n] (λv w'=>w'=w3) ?_ ((Bc n hr).mono λe w' h=>h.1.elim λv hv=>⟨v,hv,h.2⟩) ?_
 ·first|(go_simp;done)|(go_simp;rfl)
 rintro vd w3 rfl;refine Zk ?_;go_upto_region 4 with(fail);refine ab ?_;refine Zv ?_;refine aP rfl 225 #[.pointer (some ⟨k,0,none⟩)] (λv w'=>v=.iface 77 (.agg (gY x).toArray)/\(∃v',HB B0 w' k v' r/\∀j,v'.ownBlock=some j->(Value.slice (some ⟨g,0,none⟩) (n+1) c).ownBlock=some j)/\KH B0 k (.slice (some ⟨g,0,none⟩) (n+1) c) w3 w') ?_ ((Cp h3 (by rw[<-hn.out];omega) (ar hw hBW.low.size)).mono λe w' h=>⟨_,h.1,rfl,h.2⟩) ?_
 ·go_simp;rw[Gs k];first|rfl|kernel_rfl
 rintro _ w4 ⟨rfl,h4,hb4⟩;refine Zk ?_;go_wp2;go_ret;exact⟨rfl,h4,hBW.trans hb4⟩
theorem ii{w:World}{k:Nat}{cs:List Value}{ty:TypeId}(h:w.heap[k]? = some (.cells cs.toArray ty (0,0)))(off n:Nat):w.rangeAt k off ((cs.drop off).take n):=λq v hv=>by
 rw[ae w k _ _ ty _ h];rw[List.getElem?_take]at hv
 split at hv
 ·rw[List.getElem?_drop]at hv
  simpa using hv
 ·cases hv
theorem GW{B0 k:Nat}{w:World}{v:Value}{L:List Act}(h:HB B0 w k v L)(hw:B0<=w.heap.size)(site who beg fin res:Int)(pi pl:Option Addr)(ni ci nl cl:Nat)(ok on oa ob base aw ao ac ap aa av:Int)(hf:0<=fin)(at_:Int)(hL:L=[]\/∃x,L=[x]/\¬at_<x.at_):Calls Tryz.prog 72 #[.agg #[.int .i64 site,.int .i64 who,.int .i64 beg,.int .i64 fin,.int .u32 res,(.slice pi ni ci),(.slice pl nl cl),.int .i64 ok,.int .i64 on,.int .i64 oa,.int .i64 ob,.int .i64 base,.int .i64 aw,.int .i64 ao,.int .i64 ac,.int .i64 ap,.int .u32 aa,.int .u32 av,.pointer (some ⟨k,0,none⟩)],.int .i64 at_,.slice none 0 0] w λe w'=>e=.returned (.tuple #[])/\(∃v',HB B0 w' k v' (L++[⟨aw,ao,ac,ap,aa,av,site,at_,true,res⟩]))/\KH B0 k v w w':=by
 have hps:=λ(w':World) (h':Below w.heap.size w w')=>zQ (h.below h') (⟨aw,ao,ac,ap,aa,av,site,at_,true,res⟩:Act) hL (ar hw h'.size);go_enter Tryz.func72,Tryz.ntmps72;go_upto_region 1 with(fail);obtain⟨W,kX,e0,e1,XX,hal⟩:=aO w #[.int .i64 site,.int .i64 who,.int .i64 beg,.int .i64 fin,.int .u32 res,(.slice pi ni ci),(.slice pl nl cl),.int .i64 ok,.int .i64 on,.int .i64 oa,.int .i64 ob,.int .i64 base,.int .i64 aw,.int .i64 ao,.int .i64 ac,.int .i64 ap,.int .u32 aa,.int .u32 av,.pointer (some ⟨k,0,none⟩)] 86;rw[e0,e1];clear e0 e1;have hb:=h.below hal;have hw2:B0<=W.heap.size:=ar hw hal.size;have y18:W.cell? ⟨kX,18,none⟩=some (.pointer (some ⟨k,0,none⟩)):=ae W kX 18 _ 86 _ XX;have y0:W.cell? ⟨kX,0,none⟩=some (.int .i64 site):=ae W kX 0 _ 86 _ XX;have y3:W.cell? ⟨kX,3,none⟩=some (.int .i64 fin):=ae W kX 3 _ 86 _ XX;have y4:W.cell? ⟨kX,4,none⟩=some (.int .u32 res):=ae W kX 4 _ 86 _ XX;refine ab ?_
 iterate 4 refine Zv ?_
 refine Zm 75 #[.int .i64 aw,.int .i64 ao,.int .i64 ac,.int .i64 ap,.int .u32 aa,.int .u32 av] (ii XX 12 6) Tryz.underlying75 ?_
 iterate 7 refine Zv ?_
 refine aG rfl (.bool true) ?_ ?_
 ·go_simp;try exact hf
 refine Zk ?_
 iterate 4 refine Zv ?_
 refine aG rfl (.agg (gY ⟨aw,ao,ac,ap,aa,av,site,at_,true,res⟩).toArray) ?_ ?_
 ·first|(go_simp;done)|kernel_rfl|(go_simp;rfl)
 refine Zk ?_;refine Zv ?_;refine aP rfl 85 #[.iface 83 (.pointer (some ⟨k,0,none⟩)),.iface 77 (.agg (gY ⟨aw,ao,ac,ap,aa,av,site,at_,true,res⟩).toArray)] (λu w'=>u=.tuple #[]/\(∃v',HB B0 w' k v' (L++[⟨aw,ao,ac,ap,aa,av,site,at_,true,res⟩]))/\KH B0 k v W w') ?_ ((hps W hal).mono λe w' h=>⟨_,h.1,rfl,h.2⟩) ?_
 ·first|(go_simp;done)|(go_simp;rfl)
 rintro _ w3 ⟨rfl,h3,hb3⟩;refine Zk ?_;go_wp2;go_end0;exact⟨rfl,h3,(KH.of_below hal hw).trans hb3⟩
theorem yJ{B0 k:Nat}{w:World}{v:Value}{L:List Act}(h:HB B0 w k v L)(hw:B0<=w.heap.size)(site who beg fin res:Int)(pi pl:Option Addr)(ni ci nl cl:Nat)(ok on oa ob base aw ao ac ap aa av:Int)(hf:0<=fin)(hL:L=[]\/∃x,L=[x]/\¬beg<x.at_):Calls Tryz.prog 52 #[.agg #[.int .i64 site,.int .i64 who,.int .i64 beg,.int .i64 fin,.int .u32 res,(.slice pi ni ci),(.slice pl nl cl),.int .i64 ok,.int .i64 on,.int .i64 oa,.int .i64 ob,.int .i64 base,.int .i64 aw,.int .i64 ao,.int .i64 ac,.int .i64 ap,.int .u32 aa,.int .u32 av,.pointer (some ⟨k,0,none⟩)]] w λe w'=>e=.returned (.tuple #[])/\(∃v',HB B0 w' k v' (L++[⟨aw,ao,ac,ap,aa,av,site,beg,true,res⟩]))/\KH B0 k v w w':=by
 go_enter Tryz.func52,Tryz.ntmps52;go_upto_region 1 with(fail);obtain⟨W,kX,e0,e1,XX,hal⟩:=aO w #[.int .i64 site,.int .i64 who,.int .i64 beg,.int .i64 fin,.int .u32 res,(.slice pi ni ci),(.slice pl nl cl),.int .i64 ok,.int .i64 on,.int .i64 oa,.int .i64 ob,.int .i64 base,.int .i64 aw,.int .i64 ao,.int .i64 ac,.int .i64 ap,.int .u32 aa,.int .u32 av,.pointer (some ⟨k,0,none⟩)] 86;rw[e0,e1];clear e0 e1;have hb:=h.below hal;have hw2:B0<=W.heap.size:=ar hw hal.size;have y2:W.cell? ⟨kX,2,none⟩=some (.int .i64 beg):=ae W kX 2 _ 86 _ XX;refine ab ?_;refine Zd 86 XX Tryz.underlying86 ?_
 iterate 3 refine Zv ?_
 refine aP rfl 72 #[.agg #[.int .i64 site,.int .i64 who,.int .i64 beg,.int .i64 fin,.int .u32 res,(.slice pi ni ci),(.slice pl nl cl),.int .i64 ok,.int .i64 on,.int .i64 oa,.int .i64 ob,.int .i64 base,.int .i64 aw,.int .i64 ao,.int .i64 ac,.int .i64 ap,.int .u32 aa,.int .u32 av,.pointer (some ⟨k,0,none⟩)],.int .i64 beg,.slice none 0 0] (λu w'=>u=.tuple #[]/\(∃v',HB B0 w' k v' (L++[⟨aw,ao,ac,ap,aa,av,site,beg,true,res⟩]))/\KH B0 k v W w') ?_ ((GW hb hw2 site who beg fin res pi pl ni ci nl cl ok on oa ob base aw ao ac ap aa av hf beg hL).mono λe w' h=>⟨_,h.1,rfl,h.2⟩) ?_
 ·first|(go_simp;done)|(go_simp;rfl)
 rintro _ w3 ⟨rfl,h3,hb3⟩;refine Zk ?_;go_wp2;go_end0;exact⟨rfl,h3,(KH.of_below hal hw).trans hb3⟩
theorem FC{B0 k:Nat}{w:World}{v:Value}{L:List Act}(h:HB B0 w k v L)(hw:B0<=w.heap.size)(site who beg fin res:Int)(pi pl:Option Addr)(ni ci nl cl:Nat)(ok on oa ob base aw ao ac ap aa av:Int)(hf:0<=fin)(hL:L=[]\/∃x,L=[x]/\¬fin<x.at_):Calls Tryz.prog 49 #[.agg #[.int .i64 site,.int .i64 who,.int .i64 beg,.int .i64 fin,.int .u32 res,(.slice pi ni ci),(.slice pl nl cl),.int .i64 ok,.int .i64 on,.int .i64 oa,.int .i64 ob,.int .i64 base,.int .i64 aw,.int .i64 ao,.int .i64 ac,.int .i64 ap,.int .u32 aa,.int .u32 av,.pointer (some ⟨k,0,none⟩)]] w λe w'=>e=.returned (.tuple #[])/\(∃v',HB B0 w' k v' (L++[⟨aw,ao,ac,ap,aa,av,site,fin,true,res⟩]))/\KH B0 k v w w':=by
 go_enter Tryz.func49,Tryz.ntmps49;go_upto_region 1 with(fail);obtain⟨W,kX,e0,e1,XX,hal⟩:=aO w #[.int .i64 site,.int .i64 who,.int .i64 beg,.int .i64 fin,.int .u32 res,(.slice pi ni ci),(.slice pl nl cl),.int .i64 ok,.int .i64 on,.int .i64 oa,.int .i64 ob,.int .i64 base,.int .i64 aw,.int .i64 ao,.int .i64 ac,.int .i64 ap,.int .u32 aa,.int .u32 av,.pointer (some ⟨k,0,none⟩)] 86;rw[e0,e1];clear e0 e1;have hb:=h.below hal;have hw2:B0<=W.heap.size:=ar hw hal.size;have y3:W.cell? ⟨kX,3,none⟩=some (.int .i64 fin):=ae W kX 3 _ 86 _ XX;go_upto_region 2 with(fail);refine ab ?_;refine Zd 86 XX Tryz.underlying86 ?_
 iterate 3 refine Zv ?_
 refine aP rfl 72 #[.agg #[.int .i64 site,.int .i64 who,.int .i64 beg,.int .i64 fin,.int .u32 res,(.slice pi ni ci),(.slice pl nl cl),.int .i64 ok,.int .i64 on,.int .i64 oa,.int .i64 ob,.int .i64 base,.int .i64 aw,.int .i64 ao,.int .i64 ac,.int .i64 ap,.int .u32 aa,.int .u32 av,.pointer (some ⟨k,0,none⟩)],.int .i64 fin,.slice none 0 0] (λu w'=>u=.tuple #[]/\(∃v',HB B0 w' k v' (L++[⟨aw,ao,ac,ap,aa,av,site,fin,true,res⟩]))/\KH B0 k v W w') ?_ ((GW hb hw2 site who beg fin res pi pl ni ci nl cl ok on oa ob base aw ao ac ap aa av hf fin hL).mono λe w' h=>⟨_,h.1,rfl,h.2⟩) ?_
 ·first|(go_simp;done)|(go_simp;rfl)
 rintro _ w3 ⟨rfl,h3,hb3⟩;refine Zk ?_;go_wp2;go_end0;exact⟨rfl,h3,(KH.of_below hal hw).trans hb3⟩
theorem GY{B0 k:Nat}{w:World}{v:Value}{L:List Act}(h:HB B0 w k v L)(hw:B0<=w.heap.size)(site who beg fin res:Int)(pi pl:Option Addr)(ni ci nl cl:Nat)(ok on oa ob base aw ao ac ap aa av:Int)(hf:0<=fin)(at_:Int)(hc:(ac=2/\beg=at_)\/(ac=1/\fin=at_))(hL:L=[]\/∃x,L=[x]/\¬at_<x.at_):Calls Tryz.prog 22 #[.agg #[.int .i64 site,.int .i64 who,.int .i64 beg,.int .i64 fin,.int .u32 res,(.slice pi ni ci),(.slice pl nl cl),.int .i64 10,.int .i64 on,.int .i64 oa,.int .i64 ob,.int .i64 base,.int .i64 aw,.int .i64 ao,.int .i64 ac,.int .i64 ap,.int .u32 aa,.int .u32 av,.pointer (some ⟨k,0,none⟩)]] w λe w'=>e=.returned (.tuple #[])/\(∃v',HB B0 w' k v' (L++[⟨aw,ao,ac,ap,aa,av,site,at_,true,res⟩]))/\KH B0 k v w w':=by
 rcases hc with⟨rfl,rfl⟩|⟨rfl,rfl⟩
 ·go_enter Tryz.func22,Tryz.ntmps22
  go_upto_region 1 with(fail);obtain⟨W,kX,e0,e1,XX,hal⟩:=aO w #[.int .i64 site,.int .i64 who,.int .i64 beg,.int .i64 fin,.int .u32 res,(.slice pi ni ci),(.slice pl nl cl),.int .i64 10,.int .i64 on,.int .i64 oa,.int .i64 ob,.int .i64 base,.int .i64 aw,.int .i64 ao,.int .i64 2,.int .i64 ap,.int .u32 aa,.int .u32 av,.pointer (some ⟨k,0,none⟩)] 86;rw[e0,e1];clear e0 e1;have hb:=h.below hal;have hw2:B0<=W.heap.size:=ar hw hal.size;have y7:W.cell? ⟨kX,7,none⟩=some (.int .i64 10):=ae W kX 7 _ 86 _ XX;have y14:W.cell? ⟨kX,14,none⟩=some (.int .i64 2):=ae W kX 14 _ 86 _ XX;go_upto_region 3 with(fail);refine ab ?_;refine Zd 86 XX Tryz.underlying86 ?_;refine aP rfl 52 #[.agg #[.int .i64 site,.int .i64 who,.int .i64 beg,.int .i64 fin,.int .u32 res,(.slice pi ni ci),(.slice pl nl cl),.int .i64 10,.int .i64 on,.int .i64 oa,.int .i64 ob,.int .i64 base,.int .i64 aw,.int .i64 ao,.int .i64 2,.int .i64 ap,.int .u32 aa,.int .u32 av,.pointer (some ⟨k,0,none⟩)]] (λu w'=>u=.tuple #[]/\(∃v',HB B0 w' k v' (L++[⟨aw,ao,2,ap,aa,av,site,beg,true,res⟩]))/\KH B0 k v W w') ?_ ((yJ hb hw2 site who beg fin res pi pl ni ci nl cl 10 on oa ob base aw ao 2 ap aa av hf hL).mono λe w' h=>⟨_,h.1,rfl,h.2⟩) ?_
  ·first|(go_simp;done)|(go_simp;rfl)
  rintro _ w3 ⟨rfl,h3,hb3⟩;refine Zk ?_;go_wp2;go_end0;exact⟨rfl,h3,(KH.of_below hal hw).trans hb3⟩
 ·go_enter Tryz.func22,Tryz.ntmps22
  go_upto_region 1 with(fail);obtain⟨W,kX,e0,e1,XX,hal⟩:=aO w #[.int .i64 site,.int .i64 who,.int .i64 beg,.int .i64 fin,.int .u32 res,(.slice pi ni ci),(.slice pl nl cl),.int .i64 10,.int .i64 on,.int .i64 oa,.int .i64 ob,.int .i64 base,.int .i64 aw,.int .i64 ao,.int .i64 1,.int .i64 ap,.int .u32 aa,.int .u32 av,.pointer (some ⟨k,0,none⟩)] 86;rw[e0,e1];clear e0 e1;have hb:=h.below hal;have hw2:B0<=W.heap.size:=ar hw hal.size;have y7:W.cell? ⟨kX,7,none⟩=some (.int .i64 10):=ae W kX 7 _ 86 _ XX;have y14:W.cell? ⟨kX,14,none⟩=some (.int .i64 1):=ae W kX 14 _ 86 _ XX;go_upto_region 4 with(fail);refine ab ?_;refine Zd 86 XX Tryz.underlying86 ?_;refine aP rfl 49 #[.agg #[.int .i64 site,.int .i64 who,.int .i64 beg,.int .i64 fin,.int .u32 res,(.slice pi ni ci),(.slice pl nl cl),.int .i64 10,.int .i64 on,.int .i64 oa,.int .i64 ob,.int .i64 base,.int .i64 aw,.int .i64 ao,.int .i64 1,.int .i64 ap,.int .u32 aa,.int .u32 av,.pointer (some ⟨k,0,none⟩)]] (λu w'=>u=.tuple #[]/\(∃v',HB B0 w' k v' (L++[⟨aw,ao,1,ap,aa,av,site,fin,true,res⟩]))/\KH B0 k v W w') ?_ ((FC hb hw2 site who beg fin res pi pl ni ci nl cl 10 on oa ob base aw ao 1 ap aa av hf hL).mono λe w' h=>⟨_,h.1,rfl,h.2⟩) ?_
  ·first|(go_simp;done)|(go_simp;rfl)
  rintro _ w3 ⟨rfl,h3,hb3⟩;refine Zk ?_;go_wp2;go_end0;exact⟨rfl,h3,(KH.of_below hal hw).trans hb3⟩
open Go.Shelf
section
attribute [local go_sem] Oper.semAt_some
def fm(t:Int)(E:List Evt):Nat->List (Fin E.length)
 | 0=>[]
 | k+1=>fm t E k++(if h:k<E.length then(if(E[k]).who=t then[⟨k,h⟩] else[]) else[])
theorem lN(t:Int)(E:List Evt):∀k,(fm t E k).length<=k
 | 0=>ah _
 | k+1=>by
  have:=lN t E k;unfold fm;rw[List.length_append]
  split
  ·split<;>simp<;>omega
  ·simp<;>omega
abbrev AK(E:List Evt)(i:Fin E.length):Array Value:=#[.int .i64 (i.1:Int),.agg (fp E[i.1]).toArray]
def KpT(kT g:Nat)(W W':World):Prop:=W'.heap[kT]? = W.heap[kT]? /\ W'.heap[g]? = W.heap[g]? /\ W.heap.size<=W'.heap.size
theorem KpT.refl(kT g:Nat)(W:World):KpT kT g W W:=⟨rfl,rfl,ah _⟩
theorem KpT.trans{kT g:Nat}{A B C:World}(h:KpT kT g A B)(h':KpT kT g B C):KpT kT g A C:=⟨h'.1.trans h.1,h'.2.1.trans h.2.1,ar h.2.2 h'.2.2⟩
theorem KpT.of_below{kT g:Nat}{W W':World}(h:Below W.heap.size W W')(hk:kT<W.heap.size)(hg:g<W.heap.size):KpT kT g W W':=⟨h.block _ hk,h.block _ hg,h.size⟩
theorem ET(F:Fence)(n:Nat)(h63:F.fn 63)(hro:F.round=none)(hn:1<=n)(l kE kT g c:Nat){p:Option Addr}{ty0:TypeId}(E:List Evt)(t:Int)(hE:E.length<=400000)(J Jx:List (Fin E.length)->World->Prop)
  (hY:∀pre x W,J pre W->pre.length<E.length->YieldAt F (n - 1) Tryz.prog l (AK E x) W λe W'=>
   (e=.returned (.bool true)/\J (pre++[x]) W'/\KpT kT g W W')\/(e=.returned (.bool false)/\Jx (pre++[x]) W'))
  (W:World) (hJ:AbidesFrom W.heap.size J) (hcE:W.cell? ⟨kE,0,none⟩=some (.slice p E.length c)) (hT:W.heap[kT]? = some (.cells #[.int .i64 t] 3 (0,0))) (cur:Array Value) (hG:W.heap[g]? = some (.cells cur ty0 (0,0))) (hc:∀i x,E[i]? = some x->∀q v,(fp x)[q]? = some v->cur[i * 8+q]? = some v) (hp:0<E.length->p=some ⟨g,0,none⟩/\ty0=46) (h0:J [] W):
  CallsIn F n Tryz.prog 63 #[.func (.yield l) #[] #[],.pointer (some ⟨kE,0,none⟩),.pointer (some ⟨kT,0,none⟩)] W λe W'=>(∃v,e=.returned v)/\
   ((∃ys,ys=fm t E E.length/\J ys W')\/(∃pre,True/\Jx pre W')):=by
 obtain⟨N,hN⟩:=Zh (E.length);have hY':∀(pre:List (Fin E.length)) (x:Fin E.length) (W:World),J pre W->pre.length<N->YieldAt F (n - 1) Tryz.prog l (AK E x) W λe W'=>(e=.returned (.bool true)/\J (pre++[x]) W'/\KpT kT g W W')\/(e=.returned (.bool false)/\Jx (pre++[x]) W'):=λpre x W h1 h2=>hY pre x W h1 (by have:=hN.out;omega)
 have hfE:∀W',J (fm t E N) W'->J (fm t E E.length) W':=λW' h=>by
  have e:=congrArg (fm t E) hN.out;rw[e]at h;exact h
 clear hY;replace hp:Hid (0<E.length->p=some ⟨g,0,none⟩/\ty0=46):=hp;rw[<-hN.out]at hcE hE;refine callsIn_of_wp Tryz.func63 rfl h63 ?_ hro;simp only[Tryz.ntmps63,List.size_toArray,List.length_cons,List.length_nil,Nat.reduceAdd,Nat.reduceSub,Array.replicate_succ,Array.replicate_zero,List.push_toArray,List.append_toArray,List.nil_append,List.cons_append];gi_wp2;gi_loopw [8] (λi wr=>∃k:Nat,k<=N/\i=.int .i64 k/\J (fm t E k) wr/\KpT kT g W wr) (λi _=>N - (intOf i).toNat)
 case atStart=>exact⟨0,au _,rfl,h0,KpT.refl _ _ _⟩
 case round=>
  obtain⟨k,hk,rfl,hJs,hnx⟩:=hrel;have hsz:=hnx.2.2;have hTr:=hnx.1.trans hT;have hGr:=hnx.2.1.trans hG
  by_cases hlt:k<N
  case neg=>
   obtain rfl:k=N:=by omega
   gi_wp2;go_end0;exact⟨⟨_,rfl⟩,.inl ⟨_,rfl,hfE _ hJs⟩⟩
  have hl0:(0:Int)<=k:=by omega
  have hl1:(k:Int)<N:=by omega
  obtain⟨rfl,rfl⟩:=hp.out (by have:=hN.out;omega);obtain⟨x,hx⟩:∃x,E[k]? = some x:=⟨E[k]'(by have:=hN.out;omega),aq _⟩;have hr:=hc k x hx
  have hkE':k<E.length:=by have:=hN.out;omega
  have hEx:E[k]=x:=(aj.1 hx).2
  have hfs:fm t E (k+1)=fm t E k++(if x.who=t then[⟨k,hkE'⟩] else[]):=by
   show fm t E k++_=_;rw[dif_pos hkE',hEx]
  have hYx:=hY' (fm t E k) ⟨k,hkE'⟩;unfold AK at hYx;simp only[hEx]at hYx;have hlen:(fm t E k).length<N:=Nat.lt_of_le_of_lt (lN t E k) hlt;have hr':wr.rangeAt g (k * 8) (fp x):=λq v hv=>(ae wr g _ _ 46 _ hGr).trans (hr q v hv);obtain⟨q1,q2,q3,q4,q5,q6,q7,q8⟩:=x;have d0:wr.cell? ⟨g,k * 8,none⟩=some (.int .i64 q1):=hr' 0 _ rfl;have d1:wr.cell? ⟨g,k * 8+1,none⟩=some (.int .i64 q2):=hr' 1 _ rfl;have d2:wr.cell? ⟨g,k * 8+2,none⟩=some (.int .i64 q3):=hr' 2 _ rfl;have d3:wr.cell? ⟨g,k * 8+3,none⟩=some (.int .i64 q4):=hr' 3 _ rfl;have d4:wr.cell? ⟨g,k * 8+4,none⟩=some (.int .u32 q5):=hr' 4 _ rfl;have d5:wr.cell? ⟨g,k * 8+5,none⟩=some (.int .u32 q6):=hr' 5 _ rfl;have d6:wr.cell? ⟨g,k * 8+6,none⟩=some (.int .u32 q7):=hr' 6 _ rfl;have d7:wr.cell? ⟨g,k * 8+7,none⟩=some (.bool q8):=hr' 7 _ rfl;have hJa:J (fm t E k) (wr.alloc (.cells #[.int .i64 q1,.int .i64 q2,.int .i64 q3,.int .i64 q4,.int .u32 q5,.int .u32 q6,.int .u32 q7,.bool q8] 46)):=hJ _ _ _ none hJs (World.grownBy_alloc wr _ none) (λr e=>by cases e);have hba:Below wr.heap.size wr (wr.alloc (.cells #[.int .i64 q1,.int .i64 q2,.int .i64 q3,.int .i64 q4,.int .u32 q5,.int .u32 q6,.int .u32 q7,.bool q8] 46)):=(ak _ _).alloc (ah _) _;have hna:KpT kT g W (wr.alloc (.cells #[.int .i64 q1,.int .i64 q2,.int .i64 q3,.int .i64 q4,.int .u32 q5,.int .u32 q6,.int .u32 q7,.bool q8] 46)):=hnx.trans (KpT.of_below hba (aB hTr) (aB hGr))
  have cT:wr.cell? ⟨kT,0,none⟩=some (.int .i64 t):=ae wr kT 0 _ 3 _ hTr;have cT':(wr.alloc (.cells #[.int .i64 q1,.int .i64 q2,.int .i64 q3,.int .i64 q4,.int .u32 q5,.int .u32 q6,.int .u32 q7,.bool q8] 46)).cell? ⟨kT,0,none⟩=some (.int .i64 t):=ae _ kT 0 _ 3 _ (keep hTr hba);clear hba;simp only at hfs;clear hr hr' hx hJs hnx hc hEx hY' hTr hGr hG hT
  by_cases hw:q2=t
  case neg=>
   rw[af hw,List.append_nil]at hfs
   have hwb:(q2 == t)=false:=by rw[beq_eq_false_iff_ne];exact hw
   gi_wp2;refine⟨λ_ h=>(by cases h),?_⟩;gi_wp2;go_roundw
   case rel=>exact⟨k+1,by omega,by go_num,by rw[hfs];exact hJa,hna⟩
   case measure=>simp[intOf];omega
  subst hw;rw[ag rfl]at hfs;obtain⟨fn,tmps,assign,body,hy,hR⟩:=hYx _ hJa hlen;dsimp only[fp]at hy;gi_wp2;refine hR.mono ?_;rintro e W3 (⟨rfl,hJ3,hk3⟩|⟨rfl,hJx3⟩)
  ·gi_wp2
   go_roundw
   case rel=>exact⟨k+1,by omega,by go_num,by rw[hfs];exact hJ3,hna.trans hk3⟩
   case measure=>simp[intOf];omega
  ·gi_wp2
   refine bodyPost_ret (results_none rfl _ _ _) rfl ?_;exact⟨⟨_,rfl⟩,.inr ⟨_,trivial,hJx3⟩⟩
theorem yX(F:Fence)(n:Nat)(h63:F.fn 63)(hro:F.round=none)(hn:1<=n)(kE kT g c:Nat){p:Option Addr}{ty0:TypeId}(E:List Evt)(t:Int)(hE:E.length<=400000)(w:World)(hcE:w.heap[kE]? = some (.cells #[.slice p E.length c] 30 (0,0)))(hT:w.heap[kT]? = some (.cells #[.int .i64 t] 3 (0,0)))(cur:Array Value)(hG:w.heap[g]? = some (.cells cur ty0 (0,0)))(hc:∀i x,E[i]? = some x->∀q v,(fp x)[q]? = some v->cur[i * 8+q]? = some v)(hp:0<E.length->p=some ⟨g,0,none⟩/\ty0=46):
  SeqStopsK F n Tryz.prog 63 #[.pointer (some ⟨kE,0,none⟩),.pointer (some ⟨kT,0,none⟩)] (AK E) (KpT kT g) (λys=>ys=fm t E E.length) (λ_=>True) E.length w:=λl J Jx W hW hJ _ hY h0=>
 ET F n h63 hro hn l kE kT g c E t hE J Jx hY W hJ (ae W kE 0 _ 30 _ (keep hcE hW)) (keep hT hW) cur (keep hG hW) hc hp h0
theorem Ga(p:Option Addr)(n c:Nat)(t:Int)(w:World):Calls Tryz.prog 35 #[.slice p n c,.int .i64 t] w λe w'=>e=.returned (.func (.func 63) #[] #[.pointer (some ⟨w.heap.size,0,none⟩),.pointer (some ⟨w.heap.size+1,0,none⟩)])/\w'=(w.alloc (.cells #[.slice p n c] 30)).alloc (.cells #[.int .i64 t] 3):=by
 go_enter Tryz.func35,Tryz.ntmps35;go_wp2;go_ret;exact⟨rfl,rfl⟩
end
end Go.Proofs.YtldlcnaphednnaaGreatDoor
