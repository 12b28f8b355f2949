/- What the functions compute that ProtestsAdmissibleSpec reaches, and that their calls refine it (part 3 of 5). -/
import Derived.Test.YtbhpipneolcmkaaGreatDoorW21Ad2
set_option linter.unusedVariables false
set_option linter.unusedSimpArgs false
set_option maxRecDepth 100000
set_option maxHeartbeats 4000000
namespace Go.Sw
open List(map)
open Int(toNat)
open Go.IntKind(i64 u64 u8)
open Go.Proofs Tryz
def F_io(n:Nat)(m:Course)(p:List Fact)(a:(List (Int×Fact))×Int):Option (Ctl ((List (Int×Fact))×Int) (List (Int×Fact))):=(bif decide (a.2<(p.length:Int))then((idx p a.2).bind λd=>((bif (d.Kind != 1)then some true else(F_au n d).bind λe=>(bif (e != 0)then some true else(bif decide ((m.Distances.length:Int)<=d.Starter.Distance)then some true else some (decide ((m.Waves.length:Int)<=d.Starter.Wave))))):Option Bool).bind λf=>(bif f then some a.1 else(some (Qy a.1 d.Starter.Bib Uk)).bind λg=>((bif (!(Qbj a.1 d.Starter.Bib))then some true else(F_am n d g).bind λh=>some (decide (h<0))):Option Bool).bind λi=>((bif i then(some (Yk a.1 d.Starter.Bib d)).bind λj=>some j else some a.1):Option (List (Int×Fact))).bind λk=>some k):Option (List (Int×Fact))).bind λl=>some (.cont (l,i64.wrap (a.2+1)))else some (.done a.1))
def F_dr(n:Nat)(e:List Fact)(a:(List Starter)×(List (Int×Bool))×Int):Option (Ctl ((List Starter)×(List (Int×Bool))×Int) (Ctl (List Starter) ((List Starter)×Int))):=(bif decide (a.2.2<(e.length:Int))then(idx e a.2.2).bind λd=>(some (Qy a.2.1 d.Starter.Chip false)).bind λf=>(bif f then some (.done (.done ([],180)))else(some (Yk a.2.1 d.Starter.Chip true)).bind λg=>(app a.1 [d.Starter]).bind λh=>some (.cont (h,g,i64.wrap (a.2.2+1))))else some (.done (.cont a.1)))
def F_de(n:Nat)(g:Course)(i:List Fact):Option ((List Starter)×Int):=(F_r n g).bind λh=>(bif (h != 0)then some ([],h)else(iter (F_io n g i) n ([],0):Option (List (Int×Fact))).bind λd=>(bif decide (4000<(d.length:Int))then some ([],2)else(F_db n d).bind λe=>(iter (F_dr n e) n ([],[],0):Option (Ctl (List Starter) ((List Starter)×Int))).bind λf=>match f with|.cont a=>(some (a,0))|.done a=>some a))
theorem k_de(n:Nat)(a1:Course)(a2:List Fact):Kq (F_de n a1 a2) 26 [.agg (Course.c a1),.rsl 57 (map Fact.c a2)] [] (λr=>.tup [.osl 0 0 r.1.length 8,I r.2]) (λr=>[.row 46 8 (map Starter.c r.1)]):=by
 refine Kg 11 func26 Z Z Z Z λr h=>Cz [] h (k_r _ _) Z λr1 bd h=>Go 9 Z (Cn Z h (λan h=>?_) (λan h=>?_))
 .refine Gc 9 Z ?_;obtain rfl:=Oi h;refine R2 4 5 Z Z ?_;refine Em (Eo (s:=4) (k:=8) (t:=46) (XO Z) Z) ?_;exact Lr [1]
 refine Gc 4 Z (vH Yt ?_);refine Fg 7 Z Z (Lg 3 Z Z (Bd h λy ai h=>Ct y [1] [4,7] Ze (λy=>[(0,.map (Qx (λx=>A.int .i64 x) (λx=>A.agg (Fact.c x)) y))]) Zf ?_ (λenv H u=>?_)))
 .refine G0 1 Z (Lp [0,1] [2,4,7,22,23] (λm=>[(24,I m.2)]) (λm=>[(1,.map (Qx (λx=>A.int .i64 x) (λx=>A.agg (Fact.c x)) m.1))]) ai Zf (Lr [0,1]) λm av j N=>?_);refine G0 6 Z (Yd Z j (λO j=>?_) (λO j=>?_))
  .exact Gc 2 Z (Qh j (Gx 1 Z (cQo N j (Lr [1]))))
  refine Gc 3 Z (Bd j λE d j=>Ct E [0,1] [2,4,7,22,23,24] Ze (λE=>[(1,.map (Qx (λx=>A.int .i64 x) (λx=>A.agg (Fact.c x)) E))]) Zf ?_ (λenv H u=>?_))
  .refine G0 3 Z (Bd d λz P d=>Iz P Z (Go 15 Z (Bd d λF f d=>Ct F [0,1,2,3] [2,4,7,9,10,22,23,24] (λF=>[(53,.bool F)]) Ze Zf ?_ (λenv H u=>?_))))
   .refine G0 5 Z (Is 33 f Z (λQ f=>?_) (λQ f=>?_))
    .exact Gl 21 Z f [0,1,2,3]
    .refine Go 1 Z (Cz [] f (k_au _ _) Z λaw aq f=>Go 3 Z (Is 38 f Z (λR f=>?_) (λR f=>?_)))
     .exact Gl 16 Z f [0,1,2,3]
     .refine Go 4 Z (Lg 3 Z Z (Is 46 f Z (λT f=>?_) (λT f=>?_)))
      .exact Gl 8 Z f [0,1,2,3]
      .exact Go 4 Z (Lm Z (Gl 3 Z f [0,1,2,3]))
   refine Gx 1 Z (Qd u (Cn Z d (λV d=>?_) (λV d=>?_)))
   .exact YC 3 Z d [0,1]
   refine Gc 7 Z (Bd d λaj W d=>?_);refine vX (.tup [.agg (Fact.c aj),.bool (Qbj m.1 z.Starter.Bib)]) (QlY (ev:=(λx=>A.agg (Fact.c x))) (z0:=Uk) (k:=z.Starter.Bib) (l:=m.1) JF W Gm Gj (zrC Z)) ?_;refine Go 9 Z (Bd d λG p d=>Ct G [0,1,2,3] [2,4,7,9,10,22,23,24] (λG=>[(68,.bool G)]) Ze Zf ?_ (λenv H u=>?_))
   .refine G0 4 Z (Is 63 p Z (λX p=>?_) (λX p=>?_))
    .exact Gl 6 Z p [0,1,2,3]
    .exact Go 2 Z (Cz [] p (k_am _ _ _) Z λax ar p=>Gl 3 Z p [0,1,2,3])
   refine Gx 1 Z (Qd u (Bd d λJ q d=>Ct J [0,1] [2,4,7,22,23,24] Ze (λJ=>[(1,.map (Qx (λx=>A.int .i64 x) (λx=>A.agg (Fact.c x)) J))]) Zf ?_ (λenv H u=>?_)))
   .refine G0 0 Z (Cn Z q (λY q=>?_) (λY q=>?_))
    .refine Gc 5 Z (Bd q λay aa q=>?_);refine vU (YW (ev:=(λx=>A.agg (Fact.c x))) (k:=z.Starter.Bib) (v:=z) (l:=m.1) JF aa Z Gm) ?_;exact FE Z (Gl 1 Z q [0,1])
    exact YC 1 Z q [0,1]
   refine Gx 1 Z ?_;cases d;exact Qar (Em u (Lr [0,1]))
  exact Gx 1 Z (Qd u (Gc 4 Z (Qf j (Lr [0,1]))))
 refine Gx 1 Z (Qd u (Gc 4 Z ?_));refine vX (I (y.length:Int)) (Qdm (l:=y) Gm Z) ?_;refine Go 3 Z (Cn Z h (λab h=>?_) (λab h=>?_))
 .refine Gc 8 Z ?_;obtain rfl:=Oi h;refine R2 4 5 Z Z ?_;refine Em (Eo (s:=4) (k:=8) (t:=46) (XO Z) Z) ?_;exact Lr [1]
 refine Gc 4 Z (vH Yt ?_);refine Fg 7 Z Z (Cd [0] h (k_db _ _) Z λaz au h=>Fg 4 Z Z (Bd h λak al h=>CgE (b:=ak) [0] [] (λw=>[(4,.osl 0 0 w.length 8)]) (λw=>[(0,.row 46 8 (map Starter.c w))]) Zf ?_ (λw ao=>?_)))
 .refine G0 1 Z (Lp [0,1,2] [13,79,80] (λg=>[(4,.osl 0 0 g.1.length 8),(81,I g.2.2)]) (λg=>[(0,.row 46 8 (map Starter.c g.1)),(1,.map (Qx (λx=>A.int .i64 x) A.bool g.2.1))]) al Zf ?_ ?_)
  .refine Em (Eo (s:=4) (k:=8) (t:=46) (XO Z) Z) ?_;exact Lr [3,1,2]
  intro g ba a L;refine G0 6 Z (Yd Z a (λac a=>?_) (λac a=>?_))
  .exact Gc 2 Z (Qh a (Gx 1 Z (JB L a Z (Lr [0]))))
  refine Gc 6 Z (Bd a λB M a=>?_);refine vX (.ptr 2 (toNat g.2.2*57)) (Qp M Z EA EB) ?_;refine vX (.agg (Fact.c B)) (Qn Z EJ EB Z (Qo M) Z Z) ?_;refine Go 11 Z (Bd a λam ae a=>?_);refine vX (.bool am) (YM (ev:=A.bool) (z0:=false) (k:=B.Starter.Chip) (l:=g.2.1) JF ae EQ ET ZR.bool) ?_;refine Go 2 Z (Cn Z a (λaf a=>?_) (λaf a=>?_))
  .refine Gc 10 Z (Qw a ?_);obtain rfl:=Oj L a;refine Gx 1 Z (Qq (Gx 1 Z ?_));obtain rfl:=Oi h;refine R2 4 5 Z Z ?_;refine Em (Eo (s:=4) (k:=8) (t:=46) (XO Z) Z) ?_;exact Lr [4]
  refine Gc 8 Z (Bd a λbb ag a=>?_);refine vU (YW (ev:=A.bool) (k:=B.Starter.Chip) (v:=true) (l:=g.2.1) JF ag Z EQ) ?_;refine Fg 6 Z Z (vH (Ej (xs:=[.tmp 96]) (es:=map Starter.c [B.Starter]) QcY Z Z Z Z Z ⟨Z,trivial⟩ Z Z) ?_);refine FE Z (Bd a λbc ah a=>vH (Qg (e:=Starter.c) ah QcY EG (QM (i:=4))) ?_);exact Fg 8 Z Z (Qf a (Lr [5,1,2]))
 subst ao;refine Gc 8 Z ?_;obtain rfl:=Oi h;exact R2 4 5 Z Z (Lr [0])
def F_gs(n:Nat)(a:Starter)(d:Protest)(e:List (Int×Bool)):Option Bool:=((bif (a.Bib==d.By)then(some (Qy e a.Distance false)).bind λf=>some f else some false):Option Bool).bind λg=>some g
theorem k_gs(n:Nat)(d:Starter)(g:Protest)(e:List (Int×Bool)):Ks (F_gs n d g e) 28 [.agg (Starter.c d),.ptr 0 0,.ptr 1 0] [.cells 36 (Protest.c g),.cells 88 [.map 2],.map (Qx (λx=>A.int .i64 x) A.bool e)] (λr=>.bool r):=by
 refine Kg 7 func28 Z Z Z Z λr h=>Bd h λf a h=>Cg f [0,1,2] [] (λf=>[(4,.bool f)]) Ze Zf ?_ ?_
 .refine G0 7 Z (Is 10 a Z (λi a=>?_) (λi a=>?_))
  .refine Go 3 Z (Bd a λm j a=>?_);refine vX (.bool m) (YM (ev:=A.bool) (z0:=false) (k:=d.Distance) (l:=e) JF j EQ ET ZR.bool) ?_ (gT Z);exact Gl 3 Z a [0,1,2]
  .exact Gl 7 Z a [0,1,2]
 exact QG 1 Z h 4 [0,1,2]
def F_le(n:Nat)(d:List Starter)(g:Protest)(h:List (Int×Bool))(a:Int):Option (Ctl Int (Ctl Unit Int)):=(bif decide (a<(d.length:Int))then(idx d a).bind λe=>(F_gs n e g h).bind λf=>(bif f then some (.done (.done a))else some (.cont (i64.wrap (a+1))))else some (.done (.cont ())))
def F_jk(n:Nat)(e:List Starter)(f:Protest)(g:List (Int×Bool)):Option Int:=(iter (F_le n e f g) n 0:Option (Ctl Unit Int)).bind λd=>match d with|.cont a=>(some (-1))|.done a=>some a
theorem k_jk(n:Nat)(g:List Starter)(k:Protest)(l:List (Int×Bool)):Ks (F_jk n g k l) 66 [.osl 0 0 g.length 8,.fn (.func 28) [] [.ptr 1 0,.ptr 2 0]] [.row 46 8 (map Starter.c g),.cells 36 (Protest.c k),.cells 88 [.map 3],.map (Qx (λx=>A.int .i64 x) A.bool l)] (λr=>I r):=by
 refine Kg 13 func66 Z Z Z Z λr h=>Bd h λm p h=>CgE (b:=m) [0,1,2,3] [] Ze Ze Zf ?_ (λt q=>?_)
 .refine G0 1 Z (Lp [0,1,2,3] [0,1,7] (λd=>[(8,I d)]) Ze p Zf (Lr [0,1,2,3]) λd w a e=>?_);refine G0 6 Z (Yd Z a (λi a=>?_) (λi a=>?_))
  .exact Gc 2 Z (Qh a (Gx 1 Z (JB e a Z (Lr [0,1,2,3]))))
  refine Gc 15 Z (Bd a λs f a=>?_);refine vX (.ptr 0 (toNat d*8)) (Qp f Z EG EM) ?_;refine vX (.agg (Starter.c s)) (Qn Z isAgg46 EM Z (Qo f) Z Z) ?_;refine Cz [1,2,3] a (k_gs _ _ _ _) Z λy u a=>Go 2 Z (Cn Z a (λj a=>?_) (λj a=>?_))
  .refine Gc 9 Z (Qw a ?_);obtain rfl:=Oj e a;exact Gx 1 Z (Qq (Gx 1 Z (Rt h 4 [0,1,2,3])))
  exact Gc 7 Z (Qf a (Lr [0,1,2,3]))
 subst q;exact QG 6 Z h 4 [0,1,2,3]
def F_jr(n:Nat)(a:List Starter)(d:Protest)(e:List (Int×Bool)):Option Bool:=(F_jk n a d e).bind λf=>some (decide (0<=f))
theorem k_jr(n:Nat)(a:List Starter)(d:Protest)(e:List (Int×Bool)):Ks (F_jr n a d e) 27 [.osl 0 0 a.length 8,.fn (.func 28) [] [.ptr 1 0,.ptr 2 0]] [.row 46 8 (map Starter.c a),.cells 36 (Protest.c d),.cells 88 [.map 3],.map (Qx (λx=>A.int .i64 x) A.bool e)] (λr=>.bool r):=by
 exact Kg 9 func27 Z Z Z Z λr h=>Cz [0,1,2,3] h (k_jk _ _ _ _) Z λg f h=>Gt 5 Z h 4 [0,1,2,3]
def F_ji(n:Nat)(e:(List (Int×Bool))×Bool)(a:Fact):Option (Ctl ((List (Int×Bool))×Bool) Bool):=(some (Yk e.1 (i64.wrap (a.Report.Bib+a.Ruling.Bib)) true)).bind λd=>some (.cont (d,true))
def F_ma(n:Nat)(f:List (Int×Bool))(d:(List Starter)×Int)(a:(List (Int×Bool))×Int):Option (Ctl ((List (Int×Bool))×Int) (List (Int×Bool))):=(bif decide (a.2<(d.1.length:Int))then(idx d.1 a.2).bind λe=>(some (Qy f e.Bib false)).bind λg=>((bif g then(some (Yk a.1 e.Distance true)).bind λh=>some h else some a.1):Option (List (Int×Bool))).bind λi=>some (.cont (i,i64.wrap (a.2+1)))else some (.done a.1))
def F_al(n:Nat)(l:Course)(g:List Fact)(d:Protest):Option Bool:=(F_bb n g d.Case).bind λp=>(F_bh n g d.Case).bind λy2=>(QcP (F_ji n) y2.1 ([],false):Option (Ctl ((List (Int×Bool))×Bool) Bool)).bind λm=>match m with|.cont a=>((some (mdel a.1 0)).bind λf=>((bif (!a.2)then some true else(bif (d.By==0)then some true else(some (Qy f d.By false)).bind λh=>some h)):Option Bool).bind λi=>(bif i then some a.2 else(F_de n l g).bind λe=>(bif (e.2 != 0)then some false else(iter (F_ma n f e) n ([],0):Option (List (Int×Bool))).bind λj=>(F_jr n e.1 d j).bind λk=>some k)))|.done a=>some a
theorem k_al(n:Nat)(w:Course)(V:List Fact)(g:Protest):Ks (F_al n w V g) 10 [.agg (Course.c w),.rsl 57 (map Fact.c V),.agg (Protest.c g)] [] (λr=>.bool r):=by
 refine Kg 9 func10 Z Z Z Z λr h=>vH Yt ?_;refine Fg 16 Z Z (Cd [] h (k_bb _ _ _) Z λr1 ag h=>Fg 3 Z Z (Bd h λy2 hy2 h=>Bd h λD9 W h=>?_));refine QeD [5,6] (λy=>[.cells 33 (Course.c w),.cells 36 (Protest.c g),.map (Qx (λx=>A.int .i64 x) A.bool y.1),.cells 88 [.map 2],.cells 4 [.bool y.2],.dead,.dead]) W (k_bh _ _ _ _ hy2) Zf call56 Z Z Z Z (by decide) Z (Qi5 Z) ?_ ?_
 .intro y X ah i ac;refine G0 4 Z (And.intro Z ?_);refine G0 15 Z (Bd i λai E i=>?_);refine vU (YW (ev:=A.bool) (k:=(i64.wrap (X.Report.Bib+X.Ruling.Bib))) (v:=true) (l:=y.1) JF E Z EQ) ?_;exact Fg 2 Z Z (Qil i (Lr [0,1,2,3,4,5,6]))
 rintro z rfl;refine Gx 5 Z (Bd h λj F h=>?_);refine vN (OpH.mdel (ev:=A.bool) (k:=0) (l:=z.1) JF F EQ) ?_;refine QeB (H:=[.cells 33 (Course.c w),.cells 36 (Protest.c g),.map (Qx (λx=>A.int .i64 x) A.bool j),.cells 88 [.map 2],.cells 4 [.bool z.2],.dead,.dead]) Z ?_;refine Go 4 Z (Bd h λm d h=>Ct m [0,1,3,2,4] [1,3,5,7,8] (λm=>[(42,.bool m)]) (λ_=>[(2,.cells 88 [.map 3])]) Zf ?_ (λenv H p=>?_))
 .refine G0 4 Z (Is 32 d Z (λG d=>?_) (λG d=>?_))
  .exact Gl 11 Z d [0,1,3,2,4]
  .refine Go 5 Z (Is 37 d Z (λJ d=>?_) (λJ d=>?_))
   .exact Gl 6 Z d [0,1,3,2,4]
   .refine Go 3 Z (Bd d λY L d=>?_);refine vX (.bool Y) (YM (ev:=A.bool) (z0:=false) (k:=g.By) (l:=j) JF L EQ ET ZR.bool) ?_ (gT Z);exact Gl 2 Z d [0,1,3,2,4]
 refine Gx 1 Z (Qd p (Cn Z h (λM h=>?_) (λM h=>?_)))
 .exact QG 8 Z h 6 []
 refine Gc 6 Z (Cd [] h (k_de _ _ _) Z λB ae h=>Fg 14 Z Z (Cn Z h (λN h=>?_) (λN h=>?_)))
 .exact QG 7 Z h 6 []
 refine Gc 4 Z (vH Yt ?_);refine Fg 12 Z Z (Bd h λq aa h=>Cg q [0,3,4,5] [] (λ_=>[(5,.ptr 0 0),(10,.osl 1 0 B.1.length 8),(12,.ptr 2 0)]) (λq=>[(0,.cells 36 (Protest.c g)),(1,.row 46 8 (map Starter.c B.1)),(2,.cells 88 [.map 3]),(3,.map (Qx (λx=>A.int .i64 x) A.bool q))]) Zf ?_ ?_)
 .refine G0 1 Z (Lp [1,2,3,5,7,6] [5,7,10,12,53,54] (λf=>[(55,I f.2)]) (λf=>[(1,.cells 88 [.map 2]),(4,.cells 88 [.map 5]),(5,.map (Qx (λx=>A.int .i64 x) A.bool f.1))]) aa Zf (Lr [1,2,3,5,7,6]) λf aj a O=>?_);refine G0 6 Z (Yd Z a (λP a=>?_) (λP a=>?_))
  .exact Gc 2 Z (Qh a (Gx 1 Z (cQo O a (Lr [0,3,4,5]))))
  refine Gc 6 Z (Bd a λs t a=>?_);refine vX (.ptr 3 (toNat f.2*8)) (Qp t Z EG EM) ?_;refine vX (.agg (Starter.c s)) (Qn Z isAgg46 EM Z (Qo t) Z Z) ?_;refine Go 9 Z (Bd a λab Q a=>?_);refine vX (.bool ab) (YM (ev:=A.bool) (z0:=false) (k:=s.Bib) (l:=j) JF Q EQ ET ZR.bool) ?_;refine Go 2 Z (Bd a λu e a=>Ct u [0,1,2,3,4,5] [5,7,10,12,53,54,55] Ze (λu=>[(5,.map (Qx (λx=>A.int .i64 x) A.bool u))]) Zf ?_ (λenv H p=>?_))
  .refine G0 0 Z (Cn Z e (λR e=>?_) (λR e=>?_))
   .refine Gc 4 Z (Bd e λak T e=>?_);refine vU (YW (ev:=A.bool) (k:=s.Distance) (v:=true) (l:=f.1) JF T Z EQ) ?_;exact FE Z (Gl 1 Z e [0,1,2,3,4,5])
   exact YC 1 Z e [0,1,2,3,4,5]
  exact Gx 2 Z (Qd p (Gc 4 Z (Qf a (Lr [0,1,2,3,4,5]))))
 exact Gc 4 Z (Cz [1,0,2,3] h (k_jr _ _ _ _) Z λal af h=>Gt 4 Z h 6 [])
def F_kc(n:Nat)(a:Course)(d:List Fact)(e:Protest):Option Bool:=(F_al n a d e).bind λf=>some f
theorem k_kc(n:Nat)(a:Course)(d:List Fact)(e:Protest):Ks (F_kc n a d e) 40 [.ptr 0 0,.ptr 1 0,.ptr 2 0] [.cells 33 (Course.c a),.cells 34 [.rsl 57 (map Fact.c d)],.cells 36 (Protest.c e)] (λr=>.bool r):=by
 exact Kg 10 func40 Z Z Z Z λr h=>Cz [] h (k_al _ _ _ _) Z λg f h=>Gt 4 Z h 3 [0,1,2]
def F_ek(n:Nat)(a:Course)(d:List Fact)(e:Protest):Option Bool:=(F_kc n a d e).bind λf=>some (!f)
theorem k_ek(n:Nat)(a:Course)(d:List Fact)(e:Protest):Ks (F_ek n a d e) 42 [.agg [.fn (.func 40) [] [.ptr 0 0,.ptr 1 0,.ptr 2 0]]] [.cells 33 (Course.c a),.cells 34 [.rsl 57 (map Fact.c d)],.cells 36 (Protest.c e)] (λr=>.bool r):=by
 exact Kg 10 func42 Z Z Z Z λr h=>Cz [0,1,2] h (k_kc _ _ _ _) Z λg f h=>Gt 5 Z h 2 [0,1,2]
def F_fg(n:Nat)(a:Protest)(d:Course)(e:List Fact)(f:Fact):Option Int:=(F_ex n a).bind λj=>(bif (!(a.Form==1))then some 0 else(F_fa n a d).bind λg=>(bif g then some 1 else(F_ej n d e a f).bind λh=>(bif h then some 2 else(F_ek n d e a).bind λi=>(bif i then some 3 else some (-1)))))
theorem k_fg(n:Nat)(a:Protest)(d:Course)(g:List Fact)(i:Fact):Ks (F_fg n a d g i) 69 [.osl 0 0 4 1,.fn (.func 42) [] []] [.rowr 102 1 [[.fn (.func 37) [] [.ptr 1 0]],[.fn (.func 38) [] [.ptr 1 0,.ptr 2 0]],[.fn (.func 39) [] [.ptr 2 0,.ptr 3 0,.ptr 1 0,.ptr 4 0]],[.fn (.func 40) [] [.ptr 2 0,.ptr 3 0,.ptr 1 0]]],.cells 36 (Protest.c a),.cells 33 (Course.c d),.cells 34 [.rsl 57 (map Fact.c g)],.cells 68 (Fact.c i)] (λr=>I r):=by
 refine Kg 17 func69 Z Z Z Z λr h=>?_;refine vX (.bool true) (OpV.lss (m:=0) (n:=4) Z Z Z) ?_;refine Go 19 Z ?_;refine vX (.ptr 0 0) (Qfy (j:=0) Z Z Gd E7) ?_;refine vX (.agg [.fn (.func 37) [] [.ptr 1 0]]) (Qn Z isAgg102 E7 Z (QcI (e:=0) (f:=0) Z) Z Z) ?_;refine Cz [1] h (k_ex _ _) Z λx s h=>Go 2 Z (Cn Z h (λk h=>?_) (λk h=>?_))
 .exact QG 12 Z h 4 [0,1,2,3,4]
 refine Gc 4 Z ?_;refine vX (I 1) (OpV.add (m:=0) (n:=1) Z Z Z) ?_;refine Go 5 Z ?_;refine vX (.bool true) (OpV.lss (m:=1) (n:=4) Z Z Z) ?_;refine Go 19 Z ?_;refine vX (.ptr 0 1) (Qfy (j:=1) Z Z Gd E7) ?_;refine vX (.agg [.fn (.func 38) [] [.ptr 1 0,.ptr 2 0]]) (Qn Z isAgg102 E7 Z (QcI (e:=1) (f:=0) Z) Z Z) ?_;refine Cz [1,2] h (k_fa _ _ _) Z λy t h=>Go 2 Z (Cn Z h (λl h=>?_) (λl h=>?_))
 .exact QG 12 Z h 4 [0,1,2,3,4]
 refine Gc 4 Z ?_;refine vX (I 2) (OpV.add (m:=1) (n:=1) Z Z Z) ?_;refine Go 5 Z ?_;refine vX (.bool true) (OpV.lss (m:=2) (n:=4) Z Z Z) ?_;refine Go 19 Z ?_;refine vX (.ptr 0 2) (Qfy (j:=2) Z Z Gd E7) ?_;refine vX (.agg [.fn (.func 39) [] [.ptr 2 0,.ptr 3 0,.ptr 1 0,.ptr 4 0]]) (Qn Z isAgg102 E7 Z (QcI (e:=2) (f:=0) Z) Z Z) ?_;refine Cz [2,3,1,4] h (k_ej _ _ _ _ _) Z λz u h=>Go 2 Z (Cn Z h (λp h=>?_) (λp h=>?_))
 .exact QG 12 Z h 4 [0,1,2,3,4]
 refine Gc 4 Z ?_;refine vX (I 3) (OpV.add (m:=2) (n:=1) Z Z Z) ?_;refine Go 5 Z ?_;refine vX (.bool true) (OpV.lss (m:=3) (n:=4) Z Z Z) ?_;refine Go 19 Z ?_;refine vX (.ptr 0 3) (Qfy (j:=3) Z Z Gd E7) ?_;refine vX (.agg [.fn (.func 40) [] [.ptr 2 0,.ptr 3 0,.ptr 1 0]]) (Qn Z isAgg102 E7 Z (QcI (e:=3) (f:=0) Z) Z Z) ?_;refine Cz [2,3,1] h (k_ek _ _ _ _) Z λB w h=>Go 2 Z (Cn Z h (λq h=>?_) (λq h=>?_))
 .exact QG 12 Z h 4 [0,1,2,3,4]
 refine Gc 4 Z ?_;refine vX (I 4) (OpV.add (m:=3) (n:=1) Z Z Z) ?_;refine Go 5 Z ?_;refine vX (.bool false) (OpV.lss (m:=4) (n:=4) Z Z Z) ?_;exact Gt 15 Z h 4 [0,1,2,3,4]
def F_fl(n:Nat)(a:Protest)(d:Course)(e:List Fact)(f:Fact):Option Bool:=(F_fg n a d e f).bind λg=>some (decide (0<=g))
theorem k_fl(n:Nat)(a:Protest)(d:Course)(e:List Fact)(f:Fact):Ks (F_fl n a d e f) 41 [.osl 0 0 4 1,.fn (.func 42) [] []] [.rowr 102 1 [[.fn (.func 37) [] [.ptr 1 0]],[.fn (.func 38) [] [.ptr 1 0,.ptr 2 0]],[.fn (.func 39) [] [.ptr 2 0,.ptr 3 0,.ptr 1 0,.ptr 4 0]],[.fn (.func 40) [] [.ptr 2 0,.ptr 3 0,.ptr 1 0]]],.cells 36 (Protest.c a),.cells 33 (Course.c d),.cells 34 [.rsl 57 (map Fact.c e)],.cells 68 (Fact.c f)] (λr=>.bool r):=by
 exact Kg 9 func41 Z Z Z Z λr h=>Cz [0,1,2,3,4] h (k_fg _ _ _ _ _) Z λi g h=>Gt 5 Z h 4 [0,1,2,3,4]
def F_t(n:Nat)(e:Course)(f:List Fact)(a:Fact):Option Bool:=((F_au n a).bind λg=>(bif (g != 0)then some true else some (a.Kind != 9)):Option Bool).bind λh=>(bif h then some false else(F_bu n f).bind λi=>(F_gl n i a).bind λj=>(F_fl n a.Protest e j a).bind λd=>some (!d))
theorem k_t(n:Nat)(e:Course)(f:List Fact)(g:Fact):Ks (F_t n e f g) 12 [.agg (Course.c e),.rsl 57 (map Fact.c f),.agg (Fact.c g)] [] (λr=>.bool r):=by
 refine Kg 9 func12 Z Z Z Z λr h=>Bd h λd a h=>Cg d [0,1] [1,3,5] (λd=>[(17,.bool d)]) Ze Zf ?_ ?_
 .refine G0 2 Z (Cz [] a (k_au _ _) Z λs l a=>Go 2 Z (Is 13 a Z (λi a=>?_) (λi a=>?_)))
  iterate 2 exact Gl 5 Z a [0,1]
 refine Cn Z h (λj h=>?_) (λj h=>?_)
 .exact QG 7 Z h 6 []
 refine Gc 13 Z (Cd [] h (k_bu _ _) Z λt m h=>Fg 1 Z Z (Cd [3,1] h (k_gl _ _ _) Z λu p h=>Fg 14 Z Z (vH (Y1 (xs:=[.tmp 25,.tmp 27,.tmp 29,.tmp 31]) Qrz Z Z Z Z Z ⟨Z,Z,Z,Z,trivial⟩ Z) ?_)));refine Fg 6 Z Z ?_;refine QH (Qau [(23,_)] Z Z (QpL.cons Z En QpL.nil) (Ec (Ec (Ec (Ec (FzH.cells (Ed En (Ei _)) (Jl _))))))) ?_;exact Cz [5,2,0,4,1] h (k_fl _ _ _ _ _) Z λq k h=>Gt 5 Z h 6 []
def F_fs(n:Nat)(a:List (Int×Bool)):Option Unit:=some ()
theorem k_fs(n:Nat)(a:List (Int×Bool)):Kq (F_fs n a) 45 [.map 0] [.map (Qx (λx=>A.int .i64 x) A.bool a)] (λ_=>.fn (.func 77) [] [.ptr 1 0]) (λ_=>[.map (Qx (λx=>A.int .i64 x) A.bool a),.cells 88 [.map 0]]):=by
 exact Kg 13 func45 Z Z Z Z λr h=>Rt h 2 [0,1]
def F_ew(n:Nat)(a:List (Int×Bool)):Option (List Int):=QnH (map Prod.fst a) λp1=>(sortI p1).bind λd=>some d
theorem k_ew(n:Nat)(d:List (Int×Bool)):Kq (F_ew n d) 44 [.fn (.func 77) [] [.ptr 0 0]] [.cells 88 [.map 1],.map (Qx (λx=>A.int .i64 x) A.bool d)] (λr=>.osl 2 0 r.length 1) (λr=>[.dead,.fmap (Qx (λx=>A.int .i64 x) A.bool d),.row 3 1 (map (Qe .i64) r)]):=by
 refine Kg 8 func44 Z Z Z Z λr h=>?_;refine QH (QmS (i:=1) Z) ?_;refine QeB (H:=[.cells 88 [.map 1],.fmap (Qx (λx=>A.int .i64 x) A.bool d)]) Z ?_;obtain⟨e,h⟩:=QmM h;refine QX [0,1] (OpC.fn call75 Z Z Z) (Qna _ e) ?_;rintro _ _ ⟨p1,f,rfl,rfl⟩;have h:=h p1 f;refine Fg 6 Z Z (Bd h λg a h=>?_);refine QX [2] (OpC.fn call76 Z Z Z) (QmY QdI a) ?_;rintro _ _ ⟨rfl,rfl⟩;refine FE Z ?_;refine QH (Q7 (s:=3) Z (congrArg (λn=>A.osl 2 0 n 1) (Qab a))) ?_;refine QH (Q7 (s:=5) Z (congrArg (λn=>A.osl 2 0 n 1) (Qab a))) ?_;refine QH (Q7 (s:=6) Z (congrArg (λn=>A.osl 2 0 n 1) (Qab a))) ?_;exact Gt 9 Z h 2 [0,1,2]
def F_jj(n:Nat)(d:Fact)(e:Bool)(a:Fact):Option (Ctl Bool (List (Int×Bool))):=((bif e then some true else(bif (a.Kind==10)then some (decide (d.At<a.At))else some false)):Option Bool).bind λf=>some (.cont f)
def F_ld(n:Nat)(p:Course)(f:List Fact)(a:(List (Int×Bool))×Int):Option (Ctl ((List (Int×Bool))×Int) (List (Int×Bool))):=(bif decide (a.2<(f.length:Int))then((idx f a.2).bind λd=>((some (Qy a.1 d.Protest.Case false)).bind λg=>(bif g then some true else(F_t n p f d).bind λh=>some (!h)):Option Bool).bind λi=>(bif i then some a.1 else(F_bb n f d.Protest.Case).bind λq=>(F_bh n f d.Protest.Case).bind λy248=>(QcP (F_jj n d) y248.1 false:Option (Ctl Bool (List (Int×Bool)))).bind λj=>match j with|.cont e=>(((bif (!e)then(some (Yk a.1 d.Protest.Case true)).bind λk=>some k else some a.1):Option (List (Int×Bool))).bind λl=>some l)|.done e=>some e):Option (List (Int×Bool))).bind λm=>some (.cont (m,i64.wrap (a.2+1)))else some (.done a.1))
def F_ba(n:Nat)(e:Course)(f:List Fact):Option (List Int):=(iter (F_ld n e f) n ([],0):Option (List (Int×Bool))).bind λa=>(F_fs n a).bind λg=>(F_ew n a).bind λd=>some d
theorem k_ba(n:Nat)(P:Course)(V:List Fact):Kq (F_ba n P V) 15 [.agg (Course.c P),.rsl 57 (map Fact.c V)] [] (λr=>.osl 0 0 r.length 1) (λr=>[.row 3 1 (map (Qe .i64) r)]):=by
 refine Kg 8 func15 Z Z Z Z λr h=>vH Yt ?_;refine Fg 7 Z Z (Lg 3 Z Z (Bd h λm Q h=>Cg m [1] [5] Ze (λm=>[(0,.map (Qx (λx=>A.int .i64 x) A.bool m))]) Zf ?_ ?_))
 .refine G0 1 Z (Lp [0,1] [1,2,5,11,12] (λg=>[(13,I g.2)]) (λg=>[(1,.map (Qx (λx=>A.int .i64 x) A.bool g.1))]) Q Zf (Lr [0,1]) λg ac f z=>?_);refine G0 6 Z (Yd Z f (λB f=>?_) (λB f=>?_))
  .exact Gc 2 Z (Qh f (Gx 1 Z (cQo z f (Lr [1]))))
  refine Gc 3 Z (Bd f λp a f=>Cg p [0,1] [1,2,5,11,12,13] Ze (λp=>[(1,.map (Qx (λx=>A.int .i64 x) A.bool p))]) Zf ?_ ?_)
  .refine G0 3 Z (Bd a λq E a=>Iz E Z (Go 7 Z (Bd a λs d a=>Ct s [0,1,2] [1,2,5,7,11,12,13] (λs=>[(28,.bool s)]) Ze Zf ?_ (λenv H j=>?_))))
   .refine G0 5 Z (Bd d λR F d=>?_);refine vX (.bool R) (YM (ev:=A.bool) (z0:=false) (k:=q.Protest.Case) (l:=g.1) JF F EQ ET ZR.bool) ?_;refine Go 1 Z (Is 22 d Z (λG d=>?_) (λG d=>?_))
    .exact Gl 7 Z d [0,1,2]
    .exact Go 3 Z (Cz [] d (k_t _ _ _ _) Z λae W d=>Gl 3 Z d [0,1,2])
   refine Gx 1 Z (Qd j (Cn Z a (λJ a=>?_) (λJ a=>?_)))
   .exact YC 3 Z a [0,1]
   refine Gc 15 Z (Cd [] a (k_bb _ _ _) Z λaf X a=>Fg 3 Z Z (Bd a λy248 hy248 a=>Bd a λag T a=>?_));refine QeD [4,5] (λy=>[.cells 33 (Course.c P),.map (Qx (λx=>A.int .i64 x) A.bool g.1),.cells 68 (Fact.c q),.cells 4 [.bool y],.dead,.dead]) T (k_bh _ _ _ _ hy248) Zf call56 Z Z Z Z (by decide) Z (Qi5 Z) ?_ ?_
   .intro y ah ai t Y;refine G0 4 Z (And.intro Z ?_);refine G0 1 Z (Bd t λu e t=>Ct u [0,1,2,3,4,5] [] Ze (λu=>[(3,.cells 4 [.bool u])]) Zf ?_ (λenv H j=>?_))
    .refine G0 3 Z (Is 36 e Z (λL e=>?_) (λL e=>?_))
     .exact Gl 13 Z e [0,1,2,3,4,5]
     .refine Go 4 Z (Is 40 e Z (λM e=>?_) (λM e=>?_))
      iterate 2 exact Gl 9 Z e [0,1,2,3,4,5]
    exact Gx 1 Z (Qil t (Em j (Lr [0,1,2,3,4,5])))
   rintro aj rfl;refine Gx 8 Z (Bd a λw i a=>Ct w [0,1] [1,2,5,11,12,13] Ze (λw=>[(1,.map (Qx (λx=>A.int .i64 x) A.bool w))]) Zf ?_ (λenv H j=>?_))
   .refine G0 0 Z (Cn Z i (λN i=>?_) (λN i=>?_))
    .refine Gc 5 Z (Bd i λak O i=>?_);refine vU (YW (ev:=A.bool) (k:=q.Protest.Case) (v:=true) (l:=g.1) JF O Z EQ) ?_;exact FE Z (Gl 1 Z i [0,1])
    exact YC 1 Z i [0,1]
   refine Gx 1 Z ?_;cases a;exact Qar (Em j (Lr [0,1]))
  exact Gc 4 Z (Qf f (Lr [0,1]))
 exact Gc 3 Z (Cd [0] h (k_fs _ _) Z λal aa h=>FE Z (Cd [1,0] h (k_ew _ _) Z λam ab h=>FE Z (Gt 4 Z h 4 [2])))
def F_md(n:Nat)(d:List Int)(g:List Int)(a:Int):Option (Ctl Int (Ctl Unit Bool)):=(bif decide (a<(d.length:Int))then(idx d a).bind λe=>(idx g a).bind λf=>(bif (e != f)then some (.done (.done false))else some (.cont (i64.wrap (a+1))))else some (.done (.cont ())))
def F_by(n:Nat)(d:List Int)(e:List Int):Option Bool:=(bif ((d.length:Int) != (e.length:Int))then some false else(iter (F_md n d e) n 0:Option (Ctl Unit Bool)).bind λf=>match f with|.cont a=>(some true)|.done a=>some a)
theorem k_by(n:Nat)(k:List Int)(l:List Int):Ks (F_by n k l) 14 [.rsl 1 (map (Qe .i64) k),.rsl 1 (map (Qe .i64) l)] [] (λr=>.bool r):=by
 refine Kg 9 func14 Z Z Z Z λr h=>Lg 1 Z Z (Lg 3 Z Z (Cn Z h (λm h=>?_) (λm h=>?_)))
 .exact QG 7 Z h 4 []
 refine Gc 8 Z (Bd h λp q h=>CgE (b:=p) [] [] Ze Ze Zf ?_ (λw s=>?_))
 .refine G0 1 Z (Lp [] [0,1] (λe=>[(5,I e)]) Ze q Zf (Lr []) λe y a d=>?_);refine G0 5 Z (Lg 3 Z Z (Yd Z a (λf a=>?_) (λf a=>?_)))
  .exact Gc 2 Z (Qh a (Gx 1 Z (JB d a Z (Lr []))))
  refine Gc 5 Z (DSs 8 Z (D 2 Z ?_));obtain⟨t,g,a⟩:=YB a;refine DS.wo (x:=.rp [I t]) ?_ ?_
  .exact Ix g EC EF Z Wp
  refine D 3 Z ?_;obtain⟨u,i,a⟩:=YB a;refine DS.wo (x:=.rp [I u]) ?_ ?_
  .exact Ix i EC EF Z Wp
  refine D 1 Z (Eg Z (Go 3 Z (Cn Z a (λj a=>?_) (λj a=>?_))))
  .refine Gc 8 Z (Qw a ?_);obtain rfl:=Oj d a;exact Gx 1 Z (Qq (Gx 1 Z (Rt h 4 [])))
  exact Gc 8 Z (Qf a (Lr []))
 subst s;exact QG 6 Z h 4 []
abbrev lit_2:List Fact:=[{Uk with No:=1,At:=100,Kind:=8,Report:={Case:=1,Bib:=5,Offence:=0,Position:=0:Report}:Fact},{Uk with No:=2,Kind:=1,Starter:={Ut with Bib:=5,Chip:=5:Starter}:Fact},{Uk with No:=3,Kind:=1,Starter:={Ut with Bib:=6,Chip:=6:Starter}:Fact},{Uk with No:=4,Kind:=1,Starter:={Ut with Bib:=7,Distance:=1,Chip:=7:Starter}:Fact}]
abbrev lit_3:List Distance:=[{Name:=[98,114,105,101,102],Route:=[Un,{Un with Mat:=1:Part}],Timing:=1,Cutoffs:=[],Extra:=(-1):Distance},{Name:=[108,111,110,103],Route:=[Un,{Un with Mat:=1:Part}],Timing:=1,Cutoffs:=[],Extra:=(-1):Distance}]
abbrev lit_6:Fact:={Uk with No:=5,At:=150,Kind:=9,Protest:={Case:=1,By:=6,Fee:=500,Form:=1:Protest}:Fact}
abbrev lit_4:List Fact:=[lit_6,{Uk with No:=6,At:=160,Kind:=10,Ruling:={Ur with Case:=1,Instance:=1,Kind:=2:Ruling}:Fact}]
abbrev lit_5:List Fact:=[lit_6]
abbrev lit_7:Fact:={Uk with No:=5,At:=151,Kind:=9,Protest:={Case:=1,By:=6,Fee:=500,Form:=1:Protest}:Fact}
abbrev lit_8:List Mat:=[{Name:=[108,105,110,101],Kind:=1:Mat},{Name:=[102,105,110,105,115,104],Kind:=3:Mat}]
abbrev lit_9:List Wave:=[{Name:=[101,108,105,116,101],Gun:=0:Wave}]
abbrev lit_0:List A:=[.str [115,97,109,112,108,101],.rsl 2 (map Mat.c lit_8),.rsl 4 (map Leg.c [{From:=0,To:=1,Min:=10,Max:=100:Leg}]),.rsl 5 (map Distance.c lit_3),.rsl 2 (map Wave.c lit_9),.rsl 4 (map Offence.c []),.rsl 3 (map Category.c []),.rsl 4 (map Prize.c []),.rsl 8 (map Step.enc [{Uu with Kind:=1,By:=4:Step}]),I 0,I 0,I 0,I 0,I 0,I 500,I 50]
abbrev lit_1:Course:={Name:=[115,97,109,112,108,101],Mats:=lit_8,Legs:=[{From:=0,To:=1,Min:=10,Max:=100:Leg}],Distances:=lit_3,Waves:=lit_9,Offences:=[],Categories:=[],Prizes:=[],Ties:=[{Uu with Kind:=1,By:=4:Step}],Faults:=Ul,Fee:=500,Deadline:=50:Course}
def F_eq(n:Nat):Option Bool:=(F_jm n).bind λt=>(F_ay n (lit_1) lit_2 1).bind λa=>(F_ay n (lit_1) [] 1).bind λm=>(app lit_2 lit_5).bind λp=>(F_ba n (lit_1) p).bind λq=>(app lit_2 lit_4).bind λr=>(F_ba n (lit_1) r).bind λs=>((bif (a.1==150)then(bif a.2 then(bif (!m.2)then(F_al n (lit_1) lit_2 ({Case:=1,By:=6,Fee:=500,Form:=1:Protest})).bind λd=>(bif d then(F_al n (lit_1) lit_2 ({Case:=1,By:=7,Fee:=0,Form:=0:Protest})).bind λe=>(bif (!e)then(F_al n (lit_1) [] ({Case:=1,By:=6,Fee:=500,Form:=1:Protest})).bind λf=>some (!f)else some false)else some false)else some false)else some false)else some false):Option Bool).bind λg=>((bif g then(F_t n (lit_1) lit_2 (lit_6)).bind λh=>(bif h then(F_t n (lit_1) lit_2 (lit_7)).bind λi=>(bif (!i)then(F_t n (lit_1) lit_2 Uk).bind λj=>(bif (!j)then(F_by n q [1]).bind λk=>(bif k then some ((s.length:Int)==0)else some false)else some false)else some false)else some false)else some false):Option Bool).bind λl=>some l
theorem k_eq(n:Nat):Ks (F_eq n) 5 [] [] (λr=>.bool r):=by
 refine Kg 7 func5 Z Z Z Z λr h=>Cd [] h (k_jm _) Z λr1 Y h=>?_;refine aV (.agg [.str [115,97,109,112,108,101],.osl 0 0 (lit_8.length) 2,.osl 1 0 ([{From:=0,To:=1,Min:=10,Max:=100:Leg}].length) 4,.osl 2 0 (lit_3.length) 5,.osl 3 0 (lit_9.length) 2,.rsl 4 (map Offence.c []),.rsl 3 (map Category.c []),.rsl 4 (map Prize.c []),.osl 4 0 ([{Uu with Kind:=1,By:=4:Step}].length) 8,I 0,I 0,I 0,I 0,I 0,I 500,I 50]) [.row 79 2 (map Mat.c lit_8),.row 113 4 (map Leg.c [{From:=0,To:=1,Min:=10,Max:=100:Leg}]),.row 77 5 (map Distance.c lit_3),.row 115 2 (map Wave.c lit_9),.row 120 8 (map Step.enc [{Uu with Kind:=1,By:=4:Step}]),.cells 33 [.str [115,97,109,112,108,101],.osl 0 0 (lit_8.length) 2,.osl 1 0 ([{From:=0,To:=1,Min:=10,Max:=100:Leg}].length) 4,.osl 2 0 (lit_3.length) 5,.osl 3 0 (lit_9.length) 2,.rsl 4 (map Offence.c []),.rsl 3 (map Category.c []),.rsl 4 (map Prize.c []),.osl 4 0 ([{Uu with Kind:=1,By:=4:Step}].length) 8,I 0,I 0,I 0,I 0,I 0,I 500,I 50]] Z Z ?_;refine Go 14 Z (vH (QpE (xs:=[.tmp 14,.tmp 16,.tmp 18,.tmp 20]) (es:=map Fact.c lit_2) YF Z Z Z Z Z ⟨Z,Z,Z,Z,trivial⟩ Z Z) ?_);refine aV (.osl 7 0 (lit_2.length) 57) [_,_,_,_,_,_,_,.frow 68 57 (map Fact.c lit_2)] Z Z ?_;refine Go 7 Z ?_;refine QH (Le.frow (s:=24) Z Z Z) ?_;refine QH (Qau [(12,_),(23,_)] Z Z (QpL.cons Z (FzA.agg (Ed (Ee _) (Ed En (Ei _)))) (QpL.cons Z (FzA.agg (Ed (Ee _) (Ed En (Ei _)))) QpL.nil)) (Ec (Ec (Ec (Ec (Ec (FzH.cells (Ed (Ee _) (Ed En (Ei _))) (FzH.cells (Ed (Ee _) (Ed En (Ei _))) (Jl _))))))))) ?_;refine QH (Qau [(12,_),(23,_)] Z Z (QpL.cons Z (FzA.agg (Ed (Ee _) (Ed (Ee _) (Ed En (Ei _))))) (QpL.cons Z (FzA.agg (Ed (Ee _) (Ed (Ee _) (Ed En (Ei _))))) QpL.nil)) (Ec (Ec (Ec (Ec (Ec (FzH.cells (Ed (Ee _) (Ed (Ee _) (Ed En (Ei _)))) (FzH.cells (Ed (Ee _) (Ed (Ee _) (Ed En (Ei _)))) (Jl _))))))))) ?_;refine QH (Qau [(12,_),(23,_)] Z Z (QpL.cons Z (FzA.agg (Ed (Ee _) (Ed (Ee _) (Ed (Ee _) (Ed En (Ei _)))))) (QpL.cons Z (FzA.agg (Ed (Ee _) (Ed (Ee _) (Ed (Ee _) (Ed En (Ei _)))))) QpL.nil)) (Ec (Ec (Ec (Ec (Ec (FzH.cells (Ed (Ee _) (Ed (Ee _) (Ed (Ee _) (Ed En (Ei _))))) (FzH.cells (Ed (Ee _) (Ed (Ee _) (Ed (Ee _) (Ed En (Ei _))))) (Jl _))))))))) ?_;refine QH (Qau [(12,_),(23,_)] Z Z (QpL.cons Z (FzA.agg (Ed (Ee _) (Ed (Ee _) (Ed (Ee _) (Ed (Ee _) (Ed En (Ei _))))))) (QpL.cons Z (FzA.agg (Ed (Ee _) (Ed (Ee _) (Ed (Ee _) (Ed (Ee _) (Ed En (Ei _))))))) QpL.nil)) (Ec (Ec (Ec (Ec (Ec (FzH.cells (Ed (Ee _) (Ed (Ee _) (Ed (Ee _) (Ed (Ee _) (Ed En (Ei _)))))) (FzH.cells (Ed (Ee _) (Ed (Ee _) (Ed (Ee _) (Ed (Ee _) (Ed En (Ei _)))))) (Jl _))))))))) ?_;refine QH (Qau [(12,_),(23,_)] Z Z (QpL.cons Z (FzA.agg (Ed (Ee _) (Ed (Ee _) (Ed (Ee _) (Ed (Ee _) (Ed (Ee _) (Ed (Ee _) (Ed (Ee _) (Ed (Ee _) (Ed En (Ei _))))))))))) (QpL.cons Z (FzA.agg (Ed (Ee _) (Ed (Ee _) (Ed (Ee _) (Ed (Ee _) (Ed (Ee _) (Ed (Ee _) (Ed (Ee _) (Ed (Ee _) (Ed En (Ei _))))))))))) QpL.nil)) (Ec (Ec (Ec (Ec (Ec (FzH.cells (Ed (Ee _) (Ed (Ee _) (Ed (Ee _) (Ed (Ee _) (Ed (Ee _) (Ed (Ee _) (Ed (Ee _) (Ed (Ee _) (Ed En (Ei _)))))))))) (FzH.cells (Ed (Ee _) (Ed (Ee _) (Ed (Ee _) (Ed (Ee _) (Ed (Ee _) (Ed (Ee _) (Ed (Ee _) (Ed (Ee _) (Ed En (Ei _)))))))))) (Jl _))))))))) ?_;refine Cd [] h (k_ay _ _ _ _) Z λf aa h=>?_;refine aV (.tup [I f.1,.bool f.2]) [.dead,.dead,.dead,.dead,.dead,.cells 33 lit_0,.cells 33 lit_0,_,.cells 3 [I f.1],.cells 4 [.bool f.2]] Z Z ?_;refine Go 10 Z (Bd h λg J h=>?_);refine QX [] (OpC.fn call8 Z Z Z) (C.nils (Ql1.eq (Ql1.nl (Ql1.eq Ql1.nil))) (k_ay _ _ _ _ _ J)) ?_;rintro _ _ ⟨rfl,rfl⟩;refine aV (.tup [I g.1,.bool g.2]) [_,_,_,_,_,_,_,_,_,_,.cells 3 [I g.1],.cells 4 [.bool g.2]] Z Z ?_;refine Go 29 Z ?_;obtain⟨l,L,h⟩:=YB h;refine QaV 5 0 [37,38,39,40,41] [false,false,false,false,true] [[],[],[],[],[]] [[],[4]] [[(0,0),(1,1)],[(0,0)],[(0,0)],[(0,0)],[(0,1)]] [.agg lit_0,.osl 7 0 (lit_2.length) 57,.agg (Fact.c (lit_6)),.rsl 57 (map Fact.c lit_5),.rsl 57 (map Fact.c l)] [[.dead,.dead,.dead,.dead,.dead,.cells 33 lit_0,.cells 33 lit_0,.frow 68 57 (map Fact.c lit_2),.cells 3 [I f.1],.cells 4 [.bool f.2],.cells 3 [I g.1],.cells 4 [.bool g.2],.cells 68 (Fact.c (lit_6)),.cells 68 (Fact.c (lit_7))],[.dead,.dead,.dead,.dead,.dead,.cells 33 lit_0,.cells 33 lit_0,.frow 68 57 (map Fact.c lit_2),.cells 3 [I f.1],.cells 4 [.bool f.2],.cells 3 [I g.1],.cells 4 [.bool g.2],.cells 68 (Fact.c (lit_6)),.cells 68 (Fact.c (lit_7)),.dead]] ([.dead,.dead,.dead,.dead,.dead,.cells 33 lit_0,.cells 33 lit_0,.frow 68 57 (map Fact.c lit_2),.cells 3 [I f.1],.cells 4 [.bool f.2],.cells 3 [I g.1],.cells 4 [.bool g.2],.cells 68 (Fact.c (lit_6)),.cells 68 (Fact.c (lit_7)),.dead]) draws Z Z Z Z Z Z Z ?_ Z ?_
 .refine Qi4.cons (Qc (v0 Z Z) (Qc (v0 Z Z) (Qm))) (Qi4.cons (Qc (v0 Z Z) (Qm)) (Qi4.cons (Qc (v0 Z Z) (Qm)) (Qi4.cons ?_ (Qi4.cons ?_ (Qi4.nil)))))
  .refine Qc ?_ (Qm)
   .refine Om Z (sD 2 sN) ?_;refine vH (Q5 (xs:=[.tmp 39]) (es:=map Fact.c lit_5) YF Z Z Z Z Z ⟨Z,trivial⟩ Z Z) ?_;refine aV (.rsl 57 (map Fact.c lit_5)) [_,_,_,_,_,_,_,_,_,_,_,_,_,_] Z Z ?_;exact Wp
  .refine Qc ?_ (Qm)
   .refine Om1 Z (sD 1 (sD 3 sN)) ?_;refine vH (QkN (e:=Fact.c) (m:=lit_5) L YF EA Jd) ?_;refine aV (.osl 14 0 l.length 57) [_,_,_,_,_,_,_,_,_,_,_,_,_,_,.row 68 57 (map Fact.c l)] Z Z ?_;refine QH (Qau [(41,_)] Z Z (QpL.cons Z En QpL.nil) (Ec (Ec (Ec (Ec (Ec (Ec (Ec (Ec (Ec (Ec (Ec (Ec (Ec (Ec (Ec (Jl _))))))))))))))))) ?_;refine QH QpJ ?_;exact Wp
 refine Cd [] h (k_ba _ _ _) Z λi ab h=>?_;refine aV (.osl 15 0 i.length 1) [_,_,_,_,_,_,_,_,_,_,_,_,_,_,_,.row 3 1 (map (Qe .i64) i)] Z Z ?_;refine Go 4 Z ?_;obtain⟨p,M,h⟩:=YB h;refine QaV 7 0 [43,44,45,46,47,48,49] [false,false,false,false,false,false,true] [[],[],[],[],[],[],[]] [[],[6]] [[(0,0),(1,1)],[(0,0)],[(0,0)],[(0,0)],[(0,0)],[(0,0)],[(0,1)]] [.agg lit_0,.osl 7 0 (lit_2.length) 57,.agg (Fact.c (lit_6)),.agg [I 1,I 1,I 2,I 0,I 0,I 0],.agg (Fact.c ({Uk with No:=6,At:=160,Kind:=10,Ruling:={Ur with Case:=1,Instance:=1,Kind:=2:Ruling}:Fact})),.rsl 57 (map Fact.c lit_4),.rsl 57 (map Fact.c p)] [[.dead,.dead,.dead,.dead,.dead,.cells 33 lit_0,.cells 33 lit_0,.frow 68 57 (map Fact.c lit_2),.cells 3 [I f.1],.cells 4 [.bool f.2],.cells 3 [I g.1],.cells 4 [.bool g.2],.cells 68 (Fact.c (lit_6)),.cells 68 (Fact.c (lit_7)),.dead,.row 3 1 (map (Qe .i64) i)],[.dead,.dead,.dead,.dead,.dead,.cells 33 lit_0,.cells 33 lit_0,.frow 68 57 (map Fact.c lit_2),.cells 3 [I f.1],.cells 4 [.bool f.2],.cells 3 [I g.1],.cells 4 [.bool g.2],.cells 68 (Fact.c (lit_6)),.cells 68 (Fact.c (lit_7)),.dead,.row 3 1 (map (Qe .i64) i),.dead]] ([.dead,.dead,.dead,.dead,.dead,.cells 33 lit_0,.cells 33 lit_0,.frow 68 57 (map Fact.c lit_2),.cells 3 [I f.1],.cells 4 [.bool f.2],.cells 3 [I g.1],.cells 4 [.bool g.2],.cells 68 (Fact.c (lit_6)),.cells 68 (Fact.c (lit_7)),.dead,.row 3 1 (map (Qe .i64) i),.dead]) draws Z Z Z Z Z Z Z ?_ Z ?_
 .refine Qi4.cons (Qc (v0 Z Z) (Qc (v0 Z Z) (Qm))) (Qi4.cons (Qc (v0 Z Z) (Qm)) (Qi4.cons (Qc (v0 Z Z) (Qm)) (Qi4.cons (Qc (v0 Z Z) (Qm)) (Qi4.cons (Qc (v0 Z Z) (Qm)) (Qi4.cons ?_ (Qi4.cons ?_ (Qi4.nil)))))))
  .refine Qc ?_ (Qm)
   .refine Om Z (sD 2 (sD 4 sN)) ?_;refine vH (Q5 (xs:=[.tmp 45,.tmp 47]) (es:=map Fact.c lit_4) YF Z Z Z Z Z ⟨Z,Z,trivial⟩ Z Z) ?_;refine aV (.rsl 57 (map Fact.c lit_4)) [_,_,_,_,_,_,_,_,_,_,_,_,_,_,_,_] Z Z ?_;exact Wp
  .refine Qc ?_ (Qm)
   .refine Om1 Z (sD 1 (sD 5 sN)) ?_;refine vH (QkN (e:=Fact.c) (m:=lit_4) M YF EA Jd) ?_;refine aV (.osl 16 0 p.length 57) [_,_,_,_,_,_,_,_,_,_,_,_,_,_,_,_,.row 68 57 (map Fact.c p)] Z Z ?_;refine QH (Qau [(49,_)] Z Z (QpL.cons Z En QpL.nil) (Ec (Ec (Ec (Ec (Ec (Ec (Ec (Ec (Ec (Ec (Ec (Ec (Ec (Ec (Ec (Ec (Ec (Jl _))))))))))))))))))) ?_;refine QH QpJ ?_;exact Wp
 refine Cd [] h (k_ba _ _ _) Z λN ac h=>?_;refine aV (.osl 17 0 N.length 1) [_,_,_,_,_,_,_,_,_,_,_,_,_,_,_,_,_,.row 3 1 (map (Qe .i64) N)] Z Z ?_;refine Go 4 Z (Bd h λj d h=>Ct j [6,7,12,13,15,17] [1,2,7,8,9,10] (λj=>[(11,.bool j)]) Ze Zf ?_ (λenv H O=>?_))
 .refine G0 4 Z (Is 53 d Z (λq d=>?_) (λq d=>?_))
  .refine Go 3 Z (Is 56 d Z (λt d=>?_) (λt d=>?_))
   .refine Go 4 Z (Is 60 d Z (λu d=>?_) (λu d=>?_))
    .refine Go 4 Z ?_;refine QH (Le.frow (s:=62) Z Z Z) ?_;refine Cz [] d (k_al _ _ _ _) Z λae Q d=>Go 2 Z (Is 67 d Z (λw d=>?_) (λw d=>?_))
     .refine Go 3 Z ?_;refine QH (Le.frow (s:=69) Z Z Z) ?_;refine Cz [] d (k_al _ _ _ _) Z λaf R d=>Go 3 Z (Is 74 d Z (λx d=>?_) (λx d=>?_))
      .refine Go 3 Z (Bd d λP y d=>?_);refine QX [] (OpC.fn call10 Z Z Z) (C.nils (Ql1.eq (Ql1.nl (Ql1.eq Ql1.nil))) (k_al _ _ _ _ _ y)) ?_ (hg:=(gT Z));rintro _ _ ⟨rfl,rfl⟩;refine aV (.bool P) [_,_,_,_,_,_,_,_,_,_,_,_,_,_,_,_,_,_] Z Z ?_;exact Gl 4 Z d [6,7,12,13,15,17]
      .exact Gl 8 Z d [6,7,12,13,15,17]
     .exact Gl 15 Z d [6,7,12,13,15,17]
    .exact Gl 22 Z d [6,7,12,13,15,17]
   .exact Gl 26 Z d [6,7,12,13,15,17]
  .exact Gl 29 Z d [6,7,12,13,15,17]
 refine Gx 1 Z (Qd O (Gc 1 Z (Bd h λk a h=>Cg k [] [] (λk=>[(0,.bool k)]) Ze Zf ?_ ?_)))
 .refine G0 3 Z (Is 82 a Z (λz a=>?_) (λz a=>?_))
  .refine Go 3 Z ?_;refine QH (Le.frow (s:=84) Z Z Z) ?_;refine Cz [] a (k_t _ _ _ _) Z λag T a=>Go 2 Z (Is 88 a Z (λB a=>?_) (λB a=>?_))
   .refine Go 3 Z ?_;refine QH (Le.frow (s:=90) Z Z Z) ?_;refine Cz [] a (k_t _ _ _ _) Z λah V a=>Go 3 Z (Is 95 a Z (λE a=>?_) (λE a=>?_))
    .refine Go 3 Z ?_;refine QH (Le.frow (s:=97) Z Z Z) ?_;refine Cz [] a (k_t _ _ _ _) Z λai W a=>Go 3 Z (Is 102 a Z (λF a=>?_) (λF a=>?_))
     .refine Go 1 Z (vH (Ej (xs:=[.const (.int .i64 1)]) (es:=map (Qe .i64) [1]) Qv Z Z Z Z Z ⟨Z,trivial⟩ Z Z) ?_ (gT Z));refine aV (.osl 6 0 ([1].length) 1) [_,_,_,_,_,_,.row 3 1 (map (Qe .i64) [1])] Z Z ?_;refine Cb a (k_by _ _ _) Z (lo (lo ln)) λaj X a=>Go 2 Z (Is 107 a Z (λG a=>?_) (λG a=>?_))
      iterate 2 exact Gl 6 Z a []
     .exact Gl 11 Z a []
    .exact Gl 18 Z a []
   .exact Gl 25 Z a []
  .exact Gl 31 Z a []
 exact QG 1 Z h 0 []
def F_em(n:Nat)(d:List Part)(h:Int)(rec201:(List Part)->Int->Option Int)(a:Int×Int):Option (Ctl (Int×Int) Int):=((bif decide (a.2<(d.length:Int))then some (decide (a.1<500))else some false):Option Bool).bind λe=>(bif e then(idx d a.2).bind λf=>(rec201 f.Parts (i64.wrap (h+1))).bind λg=>some (.cont (i64.wrap (a.1+g),i64.wrap (a.2+1)))else some (.done a.1))
def B_s(rec201:(List Part)->Int->Option Int)(n:Nat)(a:List Part)(d:Int):Option Int:=(bif decide (20<d)then some 500 else(iter (F_em n a d rec201) n ((a.length:Int),0):Option Int).bind λe=>some e)
theorem Qbq(rec201:(List Part)->Int->Option Int)(e:∀(f:List Part) (g:Int) (r:Int),rec201 f g=some r->Csm prog 18 [.rsl 3 (map Part.enc f),I g] [] (λr=>I r) r)(n:Nat)(f:List Part)(g:Int)(r:Int)(h:B_s rec201 n f g=some r):Csm prog 18 [.rsl 3 (map Part.enc f),I g] [] (λr=>I r) r:=by
 refine QF func18 Z Z Z ?_;refine G0 8 Z (Lg 10 Z Z (Cn Z h (λs h=>?_) (λs h=>?_)))
 .exact QG 7 Z h 4 []
 refine Gc 8 Z (Bd h λi t h=>Cg i [] [] (λi=>[(5,I i)]) Ze Zf ?_ ?_)
 .refine G0 1 Z (Lp [] [0,1] (λj=>[(5,I j.1),(6,I j.2)]) Ze t Zf (Lr []) λj x a l=>?_);refine G0 2 Z (Bd a λk d a=>Cg k [] [0,1,5,6] (λk=>[(18,.bool k)]) Ze Zf ?_ ?_)
  .refine G0 3 Z (Lg 2 Z Z (Is 15 d Z (λm d=>?_) (λm d=>?_)))
   iterate 2 exact Gl 4 Z d []
  refine Yd Z a (λp a=>?_) (λp a=>?_)
  .exact Gc 2 Z (Qh a (Gx 1 Z (cQo l a (Lr []))))
  exact Gc 8 Z (Bd a λu q a=>IzE q (Yb u) Z (Go 4 Z (Cz [] a (e _ _) Z λy w a=>Go 10 Z (Qf a (Lr [])))))
 exact QG 7 Z h 4 []
def F_s:Nat->(List Part)->Int->Option Int
  |0=>λ_ _=>none
  |n+1=>B_s (F_s n) n
theorem k_s(n:Nat):∀(a:List Part) (d:Int) (r:Int),F_s n a d=some r->Csm prog 18 [.rsl 3 (map Part.enc a),I d] [] (λr=>I r) r:=by
  induction n with
  |zero=>intro a d r h;cases h
  |succ n ih=>intro a d r h;exact Qbq _ ih n a d r h
def F_fm(n:Nat)(d:List Cond)(h:Int)(rec203:(List Cond)->Int->Option Int)(a:Int×Int):Option (Ctl (Int×Int) Int):=((bif decide (a.2<(d.length:Int))then some (decide (a.1<500))else some false):Option Bool).bind λe=>(bif e then(idx d a.2).bind λf=>(rec203 f.Parts (i64.wrap (h+1))).bind λg=>some (.cont (i64.wrap (a.1+g),i64.wrap (a.2+1)))else some (.done a.1))
def B_u(rec203:(List Cond)->Int->Option Int)(n:Nat)(a:List Cond)(d:Int):Option Int:=(bif decide (20<d)then some 500 else(iter (F_fm n a d rec203) n ((a.length:Int),0):Option Int).bind λe=>some e)
theorem Qbd(rec203:(List Cond)->Int->Option Int)(e:∀(f:List Cond) (g:Int) (r:Int),rec203 f g=some r->Csm prog 48 [.rsl 4 (map Cond.enc f),I g] [] (λr=>I r) r)(n:Nat)(f:List Cond)(g:Int)(r:Int)(h:B_u rec203 n f g=some r):Csm prog 48 [.rsl 4 (map Cond.enc f),I g] [] (λr=>I r) r:=by
 refine QF func48 Z Z Z ?_;refine G0 8 Z (Lg 10 Z Z (Cn Z h (λs h=>?_) (λs h=>?_)))
 .exact QG 7 Z h 4 []
 refine Gc 8 Z (Bd h λi t h=>Cg i [] [] (λi=>[(5,I i)]) Ze Zf ?_ ?_)
 .refine G0 1 Z (Lp [] [0,1] (λj=>[(5,I j.1),(6,I j.2)]) Ze t Zf (Lr []) λj x a l=>?_);refine G0 2 Z (Bd a λk d a=>Cg k [] [0,1,5,6] (λk=>[(18,.bool k)]) Ze Zf ?_ ?_)
  .refine G0 3 Z (Lg 2 Z Z (Is 15 d Z (λm d=>?_) (λm d=>?_)))
   iterate 2 exact Gl 4 Z d []
  refine Yd Z a (λp a=>?_) (λp a=>?_)
  .exact Gc 2 Z (Qh a (Gx 1 Z (cQo l a (Lr []))))
  exact Gc 8 Z (Bd a λu q a=>IzE q (Jw u) Z (Go 4 Z (Cz [] a (e _ _) Z λy w a=>Go 10 Z (Qf a (Lr [])))))
 exact QG 7 Z h 4 []
def F_u:Nat->(List Cond)->Int->Option Int
  |0=>λ_ _=>none
  |n+1=>B_u (F_u n) n
theorem k_u(n:Nat):∀(a:List Cond) (d:Int) (r:Int),F_u n a d=some r->Csm prog 48 [.rsl 4 (map Cond.enc a),I d] [] (λr=>I r) r:=by
  induction n with
  |zero=>intro a d r h;cases h
  |succ n ih=>intro a d r h;exact Qbd _ ih n a d r h
def F_fy(n:Nat)(d:List Step)(e:Int)(rec202:(List Step)->Int->Option Int)(a:Int×Int):Option (Ctl (Int×Int) Int):=((bif decide (a.2<(d.length:Int))then some (decide (a.1<500))else some false):Option Bool).bind λf=>(bif f then(idx d a.2).bind λg=>(F_u n [g.Cond] 0).bind λh=>(idx d a.2).bind λi=>(rec202 i.Then (i64.wrap (e+1))).bind λj=>(idx d a.2).bind λk=>(rec202 k.Else (i64.wrap (e+1))).bind λl=>some (.cont (i64.wrap ((i64.wrap ((i64.wrap (a.1+h))+j))+l),i64.wrap (a.2+1)))else some (.done a.1))
def B_p(rec202:(List Step)->Int->Option Int)(n:Nat)(a:List Step)(d:Int):Option Int:=(bif decide (20<d)then some 500 else(iter (F_fy n a d rec202) n ((a.length:Int),0):Option Int).bind λe=>some e)
theorem Qbc(rec202:(List Step)->Int->Option Int)(i:∀(k:List Step) (l:Int) (r:Int),rec202 k l=some r->Csm prog 19 [.rsl 8 (map Step.enc k),I l] [] (λr=>I r) r)(n:Nat)(k:List Step)(l:Int)(r:Int)(h:B_p rec202 n k l=some r):Csm prog 19 [.rsl 8 (map Step.enc k),I l] [] (λr=>I r) r:=by
 refine QF func19 Z Z Z ?_;refine G0 8 Z (Lg 10 Z Z (Cn Z h (λB h=>?_) (λB h=>?_)))
 .exact QG 7 Z h 4 []
 refine Gc 8 Z (Bd h λm E h=>Cg m [] [] (λm=>[(5,I m)]) Ze Zf ?_ ?_)
 .refine G0 1 Z (Lp [] [0,1] (λp=>[(5,I p.1),(6,I p.2)]) Ze E Zf (Lr []) λp L a s=>?_);refine G0 2 Z (Bd a λq j a=>Cg q [] [0,1,5,6] (λq=>[(18,.bool q)]) Ze Zf ?_ ?_)
  .refine G0 3 Z (Lg 2 Z Z (Is 15 j Z (λt j=>?_) (λt j=>?_)))
   iterate 2 exact Gl 4 Z j []
  refine Yd Z a (λu a=>?_) (λu a=>?_)
  .exact Gc 2 Z (Qh a (Gx 1 Z (cQo s a (Lr []))))
  refine Gc 4 Z (DSs 26 Z (D 3 Z ?_));obtain⟨d,w,a⟩:=YB a;refine DS.v (x:=(.rp [I d.Kind,I d.By,I d.Cond.Kind,I d.Cond.Var,I d.Cond.N,.rsl 4 (map Cond.enc d.Cond.Parts),.rsl 8 (map Step.enc d.Then),.rsl 8 (map Step.enc d.Else)])) (QgX (e:=Step.enc) w (Yq d) Gs GG) ?_;refine D 2 Z ?_;refine DS.wo (x:=.rsl 4 (map Cond.enc [d.Cond])) ?_ ?_
  .refine vH (Q5 (xs:=[.tmp 26]) (es:=[Cond.c d.Cond]) Qry Z Z Z Z Z ⟨Z,trivial⟩ Z Z) ?_;refine QlQ (x:=(.rsl 4 (map Cond.enc [d.Cond]))) (H:=[]) (by simp[Jw]) Z ?_;exact Wp
  refine Dz [] a (k_u _ _ _) Z λM F a=>D 3 Z ?_;obtain⟨f,y,a⟩:=YB a;refine DS.v (x:=(.rp [I f.Kind,I f.By,I f.Cond.Kind,I f.Cond.Var,I f.Cond.N,.rsl 4 (map Cond.enc f.Cond.Parts),.rsl 8 (map Step.enc f.Then),.rsl 8 (map Step.enc f.Else)])) (QgX (e:=Step.enc) y (Yq f) Gs GG) ?_;refine D 4 Z ?_;refine Dz [] a (i _ _) Z λO G a=>D 3 Z ?_;obtain⟨g,z,a⟩:=YB a;refine DS.v (x:=(.rp [I g.Kind,I g.By,I g.Cond.Kind,I g.Cond.Var,I g.Cond.N,.rsl 4 (map Cond.enc g.Cond.Parts),.rsl 8 (map Step.enc g.Then),.rsl 8 (map Step.enc g.Else)])) (QgX (e:=Step.enc) z (Yq g) Gs GG) ?_;refine D 4 Z ?_;exact Dz [] a (i _ _) Z λP J a=>Eg Z (Go 10 Z (Qf a (Lr [])))
 exact QG 7 Z h 4 []
def F_p:Nat->(List Step)->Int->Option Int
  |0=>λ_ _=>none
  |n+1=>B_p (F_p n) n
theorem k_p(n:Nat):∀(a:List Step) (d:Int) (r:Int),F_p n a d=some r->Csm prog 19 [.rsl 8 (map Step.enc a),I d] [] (λr=>I r) r:=by
  induction n with
  |zero=>intro a d r h;cases h
  |succ n ih=>intro a d r h;exact Qbc _ ih n a d r h
def F_gk(n:Nat)(d:Course)(a:Int):Option (Ctl Int (Ctl Unit Bool)):=(bif decide (a<(d.Distances.length:Int))then((idx d.Distances a).bind λe=>(F_s n e.Route 0).bind λf=>(bif decide (24<f)then some true else(idx d.Distances a).bind λg=>(bif decide (12<(g.Cutoffs.length:Int))then some true else(idx d.Distances a).bind λh=>some (decide (60<(h.Name.length:Int))))):Option Bool).bind λi=>(bif i then some (.done (.done false))else some (.cont (i64.wrap (a+1))))else some (.done (.cont ())))
def F_iz(n:Nat)(d:Course)(a:Int):Option (Ctl Int (Ctl Unit Bool)):=(bif decide (a<(d.Mats.length:Int))then(idx d.Mats a).bind λe=>(bif decide (60<(e.Name.length:Int))then some (.done (.done false))else some (.cont (i64.wrap (a+1))))else some (.done (.cont ())))
def F_be(n:Nat)(a:Course):Option Bool:=(iter (F_gk n a) n 0:Option (Ctl Unit Bool)).bind λf=>match f with|.cont d=>((iter (F_iz n a) n 0:Option (Ctl Unit Bool)).bind λg=>match g with|.cont e=>(((bif decide (12<(a.Mats.length:Int))then some true else(bif decide (30<(a.Legs.length:Int))then some true else(bif decide (4<(a.Distances.length:Int))then some true else(bif decide (6<(a.Waves.length:Int))then some true else(bif decide (6<(a.Offences.length:Int))then some true else(bif decide (6<(a.Categories.length:Int))then some true else(bif decide (6<(a.Prizes.length:Int))then some true else some (decide (60<(a.Name.length:Int)))))))))):Option Bool).bind λh=>(bif h then some false else(F_p n a.Ties 0).bind λi=>some (decide (i<=100))))|.done e=>some e)|.done d=>some d
theorem k_be(n:Nat)(s:Course):Ks (F_be n s) 6 [.agg (Course.c s)] [] (λr=>.bool r):=by
 refine Kg 12 func6 Z Z Z Z λr h=>Bd h λT V h=>CtE (b:=T) [0] [1] Ze Ze Zf ?_ (λab env H i g=>?_)
 .refine G0 1 Z (Lp [0] [1] (λp=>[(3,I p)]) Ze V Zf (Lr [0]) λp ag e j=>?_);refine G0 6 Z (Lg 3 Z Z (Yd Z e (λt e=>?_) (λt e=>?_)))
  .exact Gc 2 Z (Qh e (Gx 1 Z (JB j e Z (Lr [0]))))
  refine Gc 5 Z (Bd e λk d e=>Ct k [0] [1,3] (λk=>[(39,.bool k)]) Ze Zf ?_ (λenv H g=>?_))
  .refine G0 4 Z (Bd d λah u d=>Iz u Z (Go 2 Z (Cz [] d (k_s _ _ _) Z λai ac d=>Go 2 Z (Is 20 d Z (λw d=>?_) (λw d=>?_)))))
   .exact Gl 20 Z d [0]
   .refine Go 3 Z (Bd d λaj x d=>Iz x Z (Go 2 Z (Lg 3 Z Z (Is 30 d Z (λy d=>?_) (λy d=>?_)))))
    .exact Gl 10 Z d [0]
    .refine Go 3 Z (Bd d λW z d=>Iz z Z (Go 2 Z ?_));refine vX (I (W.Name.length:Int)) (Y2 Z Z EE Z) ?_ (gT Z);exact Gl 3 Z d [0]
  refine Gx 1 Z (Qd g (Cn Z e (λB e=>?_) (λB e=>?_)))
  .refine Gc 8 Z (Qw e ?_);obtain rfl:=Oj j e;exact Gx 1 Z (Qq (Gx 1 Z (Rt h 2 [])))
  exact Gc 8 Z (Qf e (Lr [0]))
 subst i;refine Gx 1 Z (Qd g (Gc 6 Z (Bd h λX Y h=>CtE (b:=X) [0] [1] Ze Ze Zf ?_ (λae env H i g=>?_))))
 .refine G0 1 Z (Lp [0] [1] (λq=>[(4,I q)]) Ze Y Zf (Lr [0]) λq ak f l=>?_);refine G0 6 Z (Lg 3 Z Z (Yd Z f (λE f=>?_) (λE f=>?_)))
  .exact Gc 2 Z (Qh f (Gx 1 Z (JB l f Z (Lr [0]))))
  refine Gc 9 Z (Bd f λaa F f=>Iz F Z (Go 2 Z ?_));refine vX (I (aa.Name.length:Int)) (Y2 Z Z EE Z) ?_;refine Go 3 Z (Cn Z f (λG f=>?_) (λG f=>?_))
  .refine Gc 8 Z (Qw f ?_);obtain rfl:=Oj l f;exact Gx 1 Z (Qq (Gx 1 Z (Rt h 2 [])))
  exact Gc 8 Z (Qf f (Lr [0]))
 subst i;refine Gx 1 Z (Qd g (Gc 2 Z (Bd h λm a h=>Cg m [0] [1] (λm=>[(100,.bool m)]) Ze Zf ?_ ?_)))
 .refine G0 3 Z (Lg 2 Z Z (Is 59 a Z (λJ a=>?_) (λJ a=>?_)))
  .exact Gl 42 Z a [0]
  .refine Go 2 Z (Lg 3 Z Z (Is 65 a Z (λL a=>?_) (λL a=>?_)))
   .exact Gl 36 Z a [0]
   .refine Go 2 Z (Lg 3 Z Z (Is 71 a Z (λM a=>?_) (λM a=>?_)))
    .exact Gl 30 Z a [0]
    .refine Go 2 Z (Lg 3 Z Z (Is 77 a Z (λN a=>?_) (λN a=>?_)))
     .exact Gl 24 Z a [0]
     .refine Go 2 Z (Lg 3 Z Z (Is 83 a Z (λO a=>?_) (λO a=>?_)))
      .exact Gl 18 Z a [0]
      .refine Go 2 Z (Lg 3 Z Z (Is 89 a Z (λP a=>?_) (λP a=>?_)))
       .exact Gl 12 Z a [0]
       .refine Go 2 Z (Lg 3 Z Z (Is 95 a Z (λQ a=>?_) (λQ a=>?_)))
        .exact Gl 6 Z a [0]
        .refine Go 2 Z ?_;refine vX (I (s.Name.length:Int)) (Y2 Z Z EE Z) ?_ (gT Z);exact Gl 3 Z a [0]
 refine Cn Z h (λR h=>?_) (λR h=>?_)
 .exact QG 7 Z h 2 []
 exact Gc 6 Z (Cz [] h (k_p _ _ _) Z λal af h=>Gt 5 Z h 2 [])
def F_js(n:Nat)(a:List Fact)(d:Int):Option Unit:=some ()
theorem k_js(n:Nat)(a:List Fact)(d:Int):Ks (F_js n a d) 7 [.rsl 57 (map Fact.c a),I d] [] (λ_=>.bool (decide ((a.length:Int)<=d))):=by
 exact Kg 8 func7 Z Z Z Z λr h=>Lm Z (Gt 6 Z h 4 [])
def F_b(n:Nat)(a:Int)(d:Int)(e:Int):Option Bool:=((bif decide (d<=a)then some (decide (a<=e))else some false):Option Bool).bind λb2=>some b2
theorem k_b(n:Nat)(d:Int)(e:Int)(f:Int):Ks (F_b n d e f) 72 [I d,I e,I f] [] (λr=>.bool r):=by
 refine Kg 6 func72 Z Z Z Z λr h=>Bd h λb2 a h=>Cg b2 [] [] (λb2=>[(6,.bool b2)]) Ze Zf ?_ ?_
 .refine G0 5 Z (Is 10 a Z (λg a=>?_) (λg a=>?_))
  iterate 2 exact Gl 6 Z a []
 exact QG 1 Z h 6 []
def F_aq(n:Nat)(a:Int):Option Bool:=(F_b n a 0 31).bind λd=>some d
theorem Qnh(n:Nat)(a:Int):Ks (F_aq n a) 70 [I a] [] (λr=>.bool r):=by
 exact Kg 8 func70 Z Z Z Z λr h=>Cz [] h (k_b _ _ _ _) Z λe d h=>Gt 4 Z h 2 []
def F_ar(n:Nat)(a:Int):Option Bool:=(F_b n a 1 1048576).bind λd=>some d
theorem QoD(n:Nat)(a:Int):Ks (F_ar n a) 71 [I a] [] (λr=>.bool r):=by
 exact Kg 8 func71 Z Z Z Z λr h=>Cz [] h (k_b _ _ _ _) Z λe d h=>Gt 4 Z h 2 []
def F_g(n:Nat)(a:Int):Option Bool:=(F_b n a 1 9999).bind λd=>some d
theorem k_g(n:Nat)(a:Int):Ks (F_g n a) 148 [I a] [] (λr=>.bool r):=by
 exact Kg 8 func148 Z Z Z Z λr h=>Cz [] h (k_b _ _ _ _) Z λe d h=>Gt 4 Z h 2 []
def F_d(n:Nat)(a:Int):Option Bool:=(F_b n a (-1099511627776) 1099511627776).bind λd=>some d
theorem k_d(n:Nat)(a:Int):Ks (F_d n a) 146 [I a] [] (λr=>.bool r):=by
 exact Kg 8 func146 Z Z Z Z λr h=>Cz [] h (k_b _ _ _ _) Z λe d h=>Gt 4 Z h 2 []
def F_bp(n:Nat)(a:Int):Option Bool:=(F_b n a 0 1048576).bind λd=>some d
theorem k_bp(n:Nat)(a:Int):Ks (F_bp n a) 145 [I a] [] (λr=>.bool r):=by
 exact Kg 8 func145 Z Z Z Z λr h=>Cz [] h (k_b _ _ _ _) Z λe d h=>Gt 4 Z h 2 []
def F_ff(n:Nat)(a:Starter):Option Bool:=((F_g n a.Bib).bind λd=>(bif d then(F_b n a.Distance 0 7).bind λe=>(bif e then(F_b n a.Wave 0 31).bind λf=>(bif f then(F_d n a.Slot).bind λg=>(bif g then(F_b n a.Age 0 120).bind λh=>(bif h then(F_bp n a.Chip).bind λi=>(bif i then(F_b n a.Team 0 9999).bind λj=>(bif j then(F_b n a.Lot 0 1048576).bind λk=>some k else some false)else some false)else some false)else some false)else some false)else some false)else some false):Option Bool).bind λl=>some l
theorem k_ff(n:Nat)(m:Starter):Ks (F_ff n m) 142 [.agg (Starter.c m)] [] (λr=>.bool r):=by
 refine Kg 7 func142 Z Z Z Z λr h=>Bd h λd a h=>Cg d [] [] (λd=>[(2,.bool d)]) Ze Zf ?_ ?_
 .refine G0 3 Z (Cz [] a (k_g _ _) Z λz p a=>Go 1 Z (Is 6 a Z (λe a=>?_) (λe a=>?_)))
  .refine Go 2 Z (Cz [] a (k_b _ _ _ _) Z λB q a=>Go 2 Z (Is 11 a Z (λf a=>?_) (λf a=>?_)))
   .refine Go 2 Z (Cz [] a (k_b _ _ _ _) Z λE s a=>Go 2 Z (Is 16 a Z (λg a=>?_) (λg a=>?_)))
    .refine Go 2 Z (Cz [] a (k_d _ _) Z λF t a=>Go 2 Z (Is 21 a Z (λi a=>?_) (λi a=>?_)))
     .refine Go 2 Z (Cz [] a (k_b _ _ _ _) Z λG u a=>Go 2 Z (Is 26 a Z (λj a=>?_) (λj a=>?_)))
      .refine Go 2 Z (Cz [] a (k_bp _ _) Z λH w a=>Go 2 Z (Is 31 a Z (λk a=>?_) (λk a=>?_)))
       .refine Go 2 Z (Cz [] a (k_b _ _ _ _) Z λJ x a=>Go 2 Z (Is 36 a Z (λl a=>?_) (λl a=>?_)))
        .exact Go 2 Z (Cz [] a (k_b _ _ _ _) Z λL y a=>Gl 3 Z a [])
        .exact Gl 6 Z a []
       .exact Gl 11 Z a []
      .exact Gl 16 Z a []
     .exact Gl 21 Z a []
    .exact Gl 26 Z a []
   .exact Gl 31 Z a []
  .exact Gl 36 Z a []
 exact QG 1 Z h 2 []
def F_aa(n:Nat)(a:Int):Option Bool:=(F_b n a 0 39).bind λd=>some d
theorem QoG(n:Nat)(a:Int):Ks (F_aa n a) 143 [I a] [] (λr=>.bool r):=by
 exact Kg 8 func143 Z Z Z Z λr h=>Cz [] h (k_b _ _ _ _) Z λe d h=>Gt 4 Z h 2 []
def F_x(n:Nat)(a:Int):Option Bool:=(F_b n a 0 255).bind λd=>some d
theorem k_x(n:Nat)(a:Int):Ks (F_x n a) 144 [I a] [] (λr=>.bool r):=by
 exact Kg 8 func144 Z Z Z Z λr h=>Cz [] h (k_b _ _ _ _) Z λe d h=>Gt 4 Z h 2 []
def F_he(n:Nat)(a:Sync):Option Bool:=((F_aa n a.MatA).bind λd=>(bif d then(F_aa n a.MatB).bind λe=>(bif e then(F_x n a.EpochA).bind λf=>(bif f then(F_x n a.EpochB).bind λg=>(bif g then(F_d n a.LocalA).bind λh=>(bif h then(F_d n a.LocalB).bind λi=>(bif i then(F_d n a.Min).bind λj=>(bif j then(F_d n a.Max).bind λk=>(bif k then some (decide (a.Min<=a.Max))else some false)else some false)else some false)else some false)else some false)else some false)else some false)else some false):Option Bool).bind λl=>some l
theorem k_he(n:Nat)(p:Sync):Ks (F_he n p) 147 [.agg (Sync.c p)] [] (λr=>.bool r):=by
 refine Kg 7 func147 Z Z Z Z λr h=>Bd h λd a h=>Cg d [] [] (λd=>[(2,.bool d)]) Ze Zf ?_ ?_
 .refine G0 3 Z (Cz [] a (QoG _ _) Z λB q a=>Go 1 Z (Is 6 a Z (λe a=>?_) (λe a=>?_)))
  .refine Go 2 Z (Cz [] a (QoG _ _) Z λE s a=>Go 2 Z (Is 11 a Z (λf a=>?_) (λf a=>?_)))
   .refine Go 2 Z (Cz [] a (k_x _ _) Z λF t a=>Go 2 Z (Is 16 a Z (λg a=>?_) (λg a=>?_)))
    .refine Go 2 Z (Cz [] a (k_x _ _) Z λG u a=>Go 2 Z (Is 21 a Z (λi a=>?_) (λi a=>?_)))
     .refine Go 2 Z (Cz [] a (k_d _ _) Z λH w a=>Go 2 Z (Is 26 a Z (λj a=>?_) (λj a=>?_)))
      .refine Go 2 Z (Cz [] a (k_d _ _) Z λJ x a=>Go 2 Z (Is 31 a Z (λk a=>?_) (λk a=>?_)))
       .refine Go 2 Z (Cz [] a (k_d _ _) Z λL y a=>Go 2 Z (Is 36 a Z (λl a=>?_) (λl a=>?_)))
        .refine Go 2 Z (Cz [] a (k_d _ _) Z λM z a=>Go 2 Z (Is 41 a Z (λm a=>?_) (λm a=>?_)))
         iterate 2 exact Gl 8 Z a []
        .exact Gl 13 Z a []
       .exact Gl 18 Z a []
      .exact Gl 23 Z a []
     .exact Gl 28 Z a []
    .exact Gl 33 Z a []
   .exact Gl 38 Z a []
  .exact Gl 43 Z a []
 exact QG 1 Z h 2 []
def F_w(n:Nat)(a:Int):Option Bool:=(F_b n a 0 255).bind λd=>some d
theorem k_w(n:Nat)(a:Int):Ks (F_w n a) 149 [I a] [] (λr=>.bool r):=by
 exact Kg 8 func149 Z Z Z Z λr h=>Cz [] h (k_b _ _ _ _) Z λe d h=>Gt 4 Z h 2 []
def F_ak(n:Nat)(a:Int):Option Bool:=(F_b n a 1 1048576).bind λd=>some d
theorem k_ak(n:Nat)(a:Int):Ks (F_ak n a) 150 [I a] [] (λr=>.bool r):=by
 exact Kg 8 func150 Z Z Z Z λr h=>Cz [] h (k_b _ _ _ _) Z λe d h=>Gt 4 Z h 2 []
def F_ey(n:Nat)(a:Ruling):Option Bool:=((F_ak n a.Case).bind λs=>(bif (!s)then some true else(F_b n a.Instance 1 2).bind λt=>some (!t)):Option Bool).bind λu=>(bif u then some false else((bif (a.Kind==1)then some (a.Kind==1)else some (a.Kind==2)):Option Bool).bind λd=>(bif d then((bif (a.Bib==0)then(bif (a.Position==0)then some (a.Amount==0)else some false)else some false):Option Bool).bind λe=>some e else(bif (a.Kind==3)then((F_g n a.Bib).bind λf=>(bif f then(F_w n a.Position).bind λg=>(bif g then(F_b n a.Amount 1 1099511627776).bind λh=>some h else some false)else some false):Option Bool).bind λi=>some i else(bif (a.Kind==4)then((F_g n a.Bib).bind λj=>(bif j then(F_w n a.Position).bind λk=>(bif k then(F_b n a.Amount 1 64).bind λl=>some l else some false)else some false):Option Bool).bind λm=>some m else(bif (a.Kind==5)then((F_g n a.Bib).bind λp=>(bif p then(F_w n a.Position).bind λq=>(bif q then some (a.Amount==0)else some false)else some false):Option Bool).bind λr=>some r else some false)))))
theorem k_ey(n:Nat)(N:Ruling):Ks (F_ey n N) 151 [.agg (Ruling.c N)] [] (λr=>.bool r):=by
 refine Kg 8 func151 Z Z Z Z λr h=>Bd h λs i h=>Ct s [0] [1] (λs=>[(12,.bool s)]) Ze Zf ?_ (λenv H f=>?_)
 .refine G0 3 Z (Cz [] i (k_ak _ _) Z λr6 ab i=>Go 2 Z (Is 7 i Z (λO i=>?_) (λO i=>?_)))
  .exact Gl 6 Z i [0]
  .exact Go 2 Z (Cz [] i (k_b _ _ _ _) Z λr8 ac i=>Gl 3 Z i [0])
 refine Gx 1 Z (Qd f (Cn Z h (λP h=>?_) (λP h=>?_)))
 .exact QG 7 Z h 2 []
 refine Gc 17 Z (Bd h λk j h=>Ct k [0] [1,14] (λk=>[(15,.bool k)]) Ze Zf ?_ (λenv H f=>?_))
 .refine G0 0 Z (Cn Z j (λt j=>?_) (λt j=>?_))
  .exact YC 1 Z j [0]
  exact YC 4 Z j [0]
 refine Gx 1 Z (Qd f (Cn Z h (λu h=>?_) (λu h=>?_)))
 .refine Gc 1 Z (Bd h λl g h=>Ct l [] [] (λl=>[(2,.bool l)]) Ze Zf ?_ (λenv H f=>?_))
  .refine G0 5 Z (Is 21 g Z (λw g=>?_) (λw g=>?_))
   .refine Go 5 Z (Is 26 g Z (λx g=>?_) (λx g=>?_))
    iterate 2 exact Gl 6 Z g []
   .exact Gl 11 Z g []
  exact Gx 1 Z (Qd f (QG 3 Z h 2 []))
 refine Gc 6 Z (Cn Z h (λy h=>?_) (λy h=>?_))
 .refine Gc 1 Z (Bd h λm a h=>Ct m [] [] (λm=>[(2,.bool m)]) Ze Zf ?_ (λenv H f=>?_))
  .refine G0 3 Z (Cz [] a (k_g _ _) Z λae Q a=>Go 1 Z (Is 36 a Z (λz a=>?_) (λz a=>?_)))
   .refine Go 2 Z (Cz [] a (k_w _ _) Z λaf R a=>Go 2 Z (Is 41 a Z (λB a=>?_) (λB a=>?_)))
    .exact Go 2 Z (Cz [] a (k_b _ _ _ _) Z λag T a=>Gl 3 Z a [])
    .exact Gl 6 Z a []
   .exact Gl 11 Z a []
  exact Gx 1 Z (Qd f (QG 3 Z h 2 []))
 refine Gc 6 Z (Cn Z h (λE h=>?_) (λE h=>?_))
 .refine Gc 1 Z (Bd h λp d h=>Ct p [] [] (λp=>[(2,.bool p)]) Ze Zf ?_ (λenv H f=>?_))
  .refine G0 3 Z (Cz [] d (k_g _ _) Z λah V d=>Go 1 Z (Is 51 d Z (λF d=>?_) (λF d=>?_)))
   .refine Go 2 Z (Cz [] d (k_w _ _) Z λai W d=>Go 2 Z (Is 56 d Z (λG d=>?_) (λG d=>?_)))
    .exact Go 2 Z (Cz [] d (k_b _ _ _ _) Z λaj X d=>Gl 3 Z d [])
    .exact Gl 6 Z d []
   .exact Gl 11 Z d []
  exact Gx 1 Z (Qd f (QG 3 Z h 2 []))
 refine Gc 6 Z (Cn Z h (λJ h=>?_) (λJ h=>?_))
 .refine Gc 1 Z (Bd h λq e h=>Cg q [] [] (λq=>[(2,.bool q)]) Ze Zf ?_ ?_)
  .refine G0 3 Z (Cz [] e (k_g _ _) Z λak Y e=>Go 1 Z (Is 66 e Z (λL e=>?_) (λL e=>?_)))
   .refine Go 2 Z (Cz [] e (k_w _ _) Z λal aa e=>Go 2 Z (Is 71 e Z (λM e=>?_) (λM e=>?_)))
    iterate 2 exact Gl 6 Z e []
   .exact Gl 11 Z e []
  exact QG 3 Z h 2 []
 exact QG 9 Z h 2 []
def F_cd(n:Nat)(a:Fact):Option Bool:=(bif (a.Kind==1)then(F_ff n a.Starter).bind λr2=>some r2 else(bif (a.Kind==2)then((F_aa n a.Read.Mat).bind λu=>(bif u then(F_x n a.Read.Epoch).bind λw=>(bif w then(F_bp n a.Read.Chip).bind λx=>(bif x then(F_d n a.Read.Local).bind λy=>some y else some false)else some false)else some false):Option Bool).bind λz=>some z else(bif (a.Kind==3)then((F_aa n a.Beacon.Mat).bind λE=>(bif E then(F_x n a.Beacon.Epoch).bind λF=>(bif F then(F_d n a.Beacon.Local).bind λG=>(bif G then(F_d n a.Beacon.True).bind λH=>(bif H then(F_b n a.Beacon.Err 0 1099511627776).bind λJ=>some J else some false)else some false)else some false)else some false):Option Bool).bind λL=>some L else(bif (a.Kind==4)then(F_he n a.Sync).bind λM=>some M else(bif (a.Kind==5)then((F_g n a.Hand.Bib).bind λN=>(bif N then(F_w n a.Hand.Position).bind λO=>(bif O then(F_d n a.Hand.Lo).bind λP=>(bif P then(F_d n a.Hand.Hi).bind λQ=>(bif Q then some (decide (a.Hand.Lo<=a.Hand.Hi))else some false)else some false)else some false)else some false):Option Bool).bind λR=>some R else(bif (a.Kind==6)then((F_aa n a.Silence.Mat).bind λT=>(bif T then(F_x n a.Silence.Epoch).bind λV=>(bif V then(F_d n a.Silence.Lo).bind λW=>(bif W then(F_d n a.Silence.Hi).bind λX=>(bif X then some (decide (a.Silence.Lo<=a.Silence.Hi))else some false)else some false)else some false)else some false):Option Bool).bind λY=>some Y else(bif (a.Kind==7)then((F_g n a.Pair.A).bind λaa=>(bif aa then(F_g n a.Pair.B).bind λab=>(bif ab then some (decide (a.Pair.A<a.Pair.B))else some false)else some false):Option Bool).bind λac=>some ac else(bif (a.Kind==8)then((F_ak n a.Report.Case).bind λd=>(bif d then(F_g n a.Report.Bib).bind λe=>(bif e then(F_b n a.Report.Offence 0 31).bind λf=>(bif f then(F_w n a.Report.Position).bind λg=>some g else some false)else some false)else some false):Option Bool).bind λh=>some h else(bif (a.Kind==9)then((F_ak n a.Protest.Case).bind λi=>(bif i then(F_b n a.Protest.By 0 9999).bind λj=>(bif j then(F_b n a.Protest.Fee 0 1125899906842624).bind λk=>(bif k then(F_b n a.Protest.Form 0 1).bind λl=>some l else some false)else some false)else some false):Option Bool).bind λm=>some m else(bif (a.Kind==10)then(F_ey n a.Ruling).bind λp=>some p else(bif (a.Kind==11)then(F_ak n a.Appeal.Case).bind λq=>some q else(bif (a.Kind==12)then some true else(bif (a.Kind==13)then((F_aq n a.Void.Crew).bind λr=>(bif r then(F_ar n a.Void.No).bind λs=>some s else some false):Option Bool).bind λt=>some t else some false)))))))))))))
theorem k_cd(n:Nat)(a1:Fact):Ks (F_cd n a1) 73 [.agg (Fact.c a1)] [] (λr=>.bool r):=by
 refine Kg 20 func73 Z Z Z Z λr h=>Cn Z h (λau h=>?_) (λau h=>?_)
 .exact Gc 4 Z (Cz [] h (k_ff _ _) Z λr2 cp h=>Gt 6 Z h 2 [])
 refine Gc 6 Z (Cn Z h (λav h=>?_) (λav h=>?_))
 .refine Gc 1 Z (Bd h λs i h=>Ct s [] [] (λs=>[(2,.bool s)]) Ze Zf ?_ (λenv H j=>?_))
  .refine G0 4 Z (Cz [] i (QoG _ _) Z λcq bi i=>Go 1 Z (Is 16 i Z (λQ i=>?_) (λQ i=>?_)))
   .refine Go 3 Z (Cz [] i (k_x _ _) Z λcr bj i=>Go 2 Z (Is 22 i Z (λR i=>?_) (λR i=>?_)))
    .refine Go 3 Z (Cz [] i (k_bp _ _) Z λcs bk i=>Go 2 Z (Is 28 i Z (λT i=>?_) (λT i=>?_)))
     .exact Go 3 Z (Cz [] i (k_d _ _) Z λct bl i=>Gl 3 Z i [])
     .exact Gl 7 Z i []
    .exact Gl 13 Z i []
   .exact Gl 19 Z i []
  exact Gx 1 Z (Qd j (QG 3 Z h 2 []))
 refine Gc 6 Z (Cn Z h (λV h=>?_) (λV h=>?_))
 .refine Gc 1 Z (Bd h λt e h=>Ct t [] [] (λt=>[(2,.bool t)]) Ze Zf ?_ (λenv H j=>?_))
  .refine G0 4 Z (Cz [] e (QoG _ _) Z λcu bm e=>Go 1 Z (Is 40 e Z (λW e=>?_) (λW e=>?_)))
   .refine Go 3 Z (Cz [] e (k_x _ _) Z λcv bn e=>Go 2 Z (Is 46 e Z (λX e=>?_) (λX e=>?_)))
    .refine Go 3 Z (Cz [] e (k_d _ _) Z λcw bo e=>Go 2 Z (Is 52 e Z (λY e=>?_) (λY e=>?_)))
     .refine Go 3 Z (Cz [] e (k_d _ _) Z λcx bp e=>Go 2 Z (Is 58 e Z (λaa e=>?_) (λaa e=>?_)))
      .exact Go 3 Z (Cz [] e (k_b _ _ _ _) Z λcy bq e=>Gl 3 Z e [])
      .exact Gl 7 Z e []
     .exact Gl 13 Z e []
    .exact Gl 19 Z e []
   .exact Gl 25 Z e []
  exact Gx 1 Z (Qd j (QG 3 Z h 2 []))
 refine Gc 6 Z (Cn Z h (λab h=>?_) (λab h=>?_))
 .exact Gc 4 Z (Cz [] h (k_he _ _) Z λcz br h=>Gt 6 Z h 2 [])
 refine Gc 6 Z (Cn Z h (λac h=>?_) (λac h=>?_))
 .refine Gc 1 Z (Bd h λu f h=>Ct u [] [] (λu=>[(2,.bool u)]) Ze Zf ?_ (λenv H j=>?_))
  .refine G0 4 Z (Cz [] f (k_g _ _) Z λda bs f=>Go 1 Z (Is 75 f Z (λae f=>?_) (λae f=>?_)))
   .refine Go 3 Z (Cz [] f (k_w _ _) Z λdb bt f=>Go 2 Z (Is 81 f Z (λaf f=>?_) (λaf f=>?_)))
    .refine Go 3 Z (Cz [] f (k_d _ _) Z λdc bu f=>Go 2 Z (Is 87 f Z (λag f=>?_) (λag f=>?_)))
     .refine Go 3 Z (Cz [] f (k_d _ _) Z λde bv f=>Go 2 Z (Is 93 f Z (λah f=>?_) (λah f=>?_)))
      iterate 2 exact Gl 10 Z f []
     .exact Gl 16 Z f []
    .exact Gl 22 Z f []
   .exact Gl 28 Z f []
  exact Gx 1 Z (Qd j (QG 3 Z h 2 []))
 refine Gc 6 Z (Cn Z h (λai h=>?_) (λai h=>?_))
 .refine Gc 1 Z (Bd h λw g h=>Ct w [] [] (λw=>[(2,.bool w)]) Ze Zf ?_ (λenv H j=>?_))
  .refine G0 4 Z (Cz [] g (QoG _ _) Z λdf bw g=>Go 1 Z (Is 108 g Z (λaj g=>?_) (λaj g=>?_)))
   .refine Go 3 Z (Cz [] g (k_x _ _) Z λdg bx g=>Go 2 Z (Is 114 g Z (λak g=>?_) (λak g=>?_)))
    .refine Go 3 Z (Cz [] g (k_d _ _) Z λdh bz g=>Go 2 Z (Is 120 g Z (λal g=>?_) (λal g=>?_)))
     .refine Go 3 Z (Cz [] g (k_d _ _) Z λdi ca g=>Go 2 Z (Is 126 g Z (λam g=>?_) (λam g=>?_)))
      iterate 2 exact Gl 10 Z g []
     .exact Gl 16 Z g []
    .exact Gl 22 Z g []
   .exact Gl 28 Z g []
  exact Gx 1 Z (Qd j (QG 3 Z h 2 []))
 refine Gc 6 Z (Cn Z h (λan h=>?_) (λan h=>?_))
 .refine Gc 1 Z (Bd h λx k h=>Ct x [] [] (λx=>[(2,.bool x)]) Ze Zf ?_ (λenv H j=>?_))
  .refine G0 4 Z (Cz [] k (k_g _ _) Z λdj cb k=>Go 1 Z (Is 141 k Z (λao k=>?_) (λao k=>?_)))
   .refine Go 3 Z (Cz [] k (k_g _ _) Z λdk cc k=>Go 2 Z (Is 147 k Z (λaq k=>?_) (λaq k=>?_)))
    iterate 2 exact Gl 10 Z k []
   .exact Gl 16 Z k []
  exact Gx 1 Z (Qd j (QG 3 Z h 2 []))
 refine Gc 6 Z (Cn Z h (λar h=>?_) (λar h=>?_))
 .refine Gc 1 Z (Bd h λm a h=>Ct m [] [] (λm=>[(2,.bool m)]) Ze Zf ?_ (λenv H j=>?_))
  .refine G0 4 Z (Cz [] a (k_ak _ _) Z λcd aw a=>Go 1 Z (Is 162 a Z (λy a=>?_) (λy a=>?_)))
   .refine Go 3 Z (Cz [] a (k_g _ _) Z λce ax a=>Go 2 Z (Is 168 a Z (λz a=>?_) (λz a=>?_)))
    .refine Go 3 Z (Cz [] a (k_b _ _ _ _) Z λcf ay a=>Go 2 Z (Is 174 a Z (λB a=>?_) (λB a=>?_)))
     .exact Go 3 Z (Cz [] a (k_w _ _) Z λcg az a=>Gl 3 Z a [])
     .exact Gl 7 Z a []
    .exact Gl 13 Z a []
   .exact Gl 19 Z a []
  exact Gx 1 Z (Qd j (QG 3 Z h 2 []))
 refine Gc 6 Z (Cn Z h (λE h=>?_) (λE h=>?_))
 .refine Gc 1 Z (Bd h λp d h=>Ct p [] [] (λp=>[(2,.bool p)]) Ze Zf ?_ (λenv H j=>?_))
  .refine G0 4 Z (Cz [] d (k_ak _ _) Z λch ba d=>Go 1 Z (Is 186 d Z (λF d=>?_) (λF d=>?_)))
   .refine Go 3 Z (Cz [] d (k_b _ _ _ _) Z λci bb d=>Go 2 Z (Is 192 d Z (λG d=>?_) (λG d=>?_)))
    .refine Go 3 Z (Cz [] d (k_b _ _ _ _) Z λcj bc d=>Go 2 Z (Is 198 d Z (λJ d=>?_) (λJ d=>?_)))
     .exact Go 3 Z (Cz [] d (k_b _ _ _ _) Z λck bd d=>Gl 3 Z d [])
     .exact Gl 7 Z d []
    .exact Gl 13 Z d []
   .exact Gl 19 Z d []
  exact Gx 1 Z (Qd j (QG 3 Z h 2 []))
 refine Gc 6 Z (Cn Z h (λL h=>?_) (λL h=>?_))
 .exact Gc 4 Z (Cz [] h (k_ey _ _) Z λcl be h=>Gt 6 Z h 2 [])
 refine Gc 6 Z (Cn Z h (λM h=>?_) (λM h=>?_))
 .exact Gc 5 Z (Cz [] h (k_ak _ _) Z λcm bf h=>Gt 6 Z h 2 [])
 refine Gc 6 Z (Cn Z h (λN h=>?_) (λN h=>?_))
 .exact QG 8 Z h 2 []
 refine Gc 6 Z (Cn Z h (λO h=>?_) (λO h=>?_))
 .refine Gc 1 Z (Bd h λq l h=>Cg q [] [] (λq=>[(2,.bool q)]) Ze Zf ?_ ?_)
  .refine G0 4 Z (Cz [] l (Qnh _ _) Z λcn bg l=>Go 1 Z (Is 223 l Z (λP l=>?_) (λP l=>?_)))
   .exact Go 3 Z (Cz [] l (QoD _ _) Z λco bh l=>Gl 3 Z l [])
   .exact Gl 7 Z l []
  exact QG 3 Z h 2 []
 exact QG 9 Z h 2 []
def F_cn(n:Nat)(a:Fact):Option Fact:=((bif (a.Kind==1)then some ({Uk with Crew:=a.Crew,No:=a.No,At:=a.At,Kind:=a.Kind,Starter:=a.Starter:Fact})else(bif (a.Kind==2)then some ({Uk with Crew:=a.Crew,No:=a.No,At:=a.At,Kind:=a.Kind,Read:=a.Read:Fact})else(bif (a.Kind==3)then some ({Uk with Crew:=a.Crew,No:=a.No,At:=a.At,Kind:=a.Kind,Beacon:=a.Beacon:Fact})else(bif (a.Kind==4)then some ({Uk with Crew:=a.Crew,No:=a.No,At:=a.At,Kind:=a.Kind,Sync:=a.Sync:Fact})else(bif (a.Kind==5)then some ({Uk with Crew:=a.Crew,No:=a.No,At:=a.At,Kind:=a.Kind,Hand:=a.Hand:Fact})else(bif (a.Kind==6)then some ({Uk with Crew:=a.Crew,No:=a.No,At:=a.At,Kind:=a.Kind,Silence:=a.Silence:Fact})else(bif (a.Kind==7)then some ({Uk with Crew:=a.Crew,No:=a.No,At:=a.At,Kind:=a.Kind,Pair:=a.Pair:Fact})else(bif (a.Kind==8)then some ({Uk with Crew:=a.Crew,No:=a.No,At:=a.At,Kind:=a.Kind,Report:=a.Report:Fact})else(bif (a.Kind==9)then some ({Uk with Crew:=a.Crew,No:=a.No,At:=a.At,Kind:=a.Kind,Protest:=a.Protest:Fact})else(bif (a.Kind==10)then some ({Uk with Crew:=a.Crew,No:=a.No,At:=a.At,Kind:=a.Kind,Ruling:=a.Ruling:Fact})else(bif (a.Kind==11)then some ({Uk with Crew:=a.Crew,No:=a.No,At:=a.At,Kind:=a.Kind,Appeal:=a.Appeal:Fact})else(bif (a.Kind==13)then some ({Uk with Crew:=a.Crew,No:=a.No,At:=a.At,Kind:=a.Kind,Void:=a.Void:Fact})else some ({Uk with Crew:=a.Crew,No:=a.No,At:=a.At,Kind:=a.Kind:Fact}))))))))))))):Option Fact).bind λd=>some d
theorem k_cn(n:Nat)(u:Fact):Kq (F_cn n u) 74 [.agg (Fact.c u)] [] (λr=>.agg (Fact.c r)) (λr=>[.cells 68 (Fact.c r)]):=by
 refine Kg 35 func74 Z Z Z Z λr h=>Bd h λd a h=>Ct d [1,2] [2,3] Ze (λd=>[(1,.cells 68 (Fact.c d))]) Zf ?_ (λenv H w=>?_)
 .refine G0 0 Z (Cn Z a (λe a=>?_) (λe a=>?_))
  .exact YC 6 Z a [1,2]
  refine Gc 6 Z (Cn Z a (λf a=>?_) (λf a=>?_))
  .exact YC 6 Z a [1,2]
  refine Gc 6 Z (Cn Z a (λg a=>?_) (λg a=>?_))
  .exact YC 6 Z a [1,2]
  refine Gc 6 Z (Cn Z a (λi a=>?_) (λi a=>?_))
  .exact YC 6 Z a [1,2]
  refine Gc 6 Z (Cn Z a (λj a=>?_) (λj a=>?_))
  .exact YC 6 Z a [1,2]
  refine Gc 6 Z (Cn Z a (λk a=>?_) (λk a=>?_))
  .exact YC 6 Z a [1,2]
  refine Gc 6 Z (Cn Z a (λl a=>?_) (λl a=>?_))
  .exact YC 6 Z a [1,2]
  refine Gc 6 Z (Cn Z a (λm a=>?_) (λm a=>?_))
  .exact YC 6 Z a [1,2]
  refine Gc 6 Z (Cn Z a (λp a=>?_) (λp a=>?_))
  .exact YC 6 Z a [1,2]
  refine Gc 6 Z (Cn Z a (λq a=>?_) (λq a=>?_))
  .exact YC 6 Z a [1,2]
  refine Gc 6 Z (Cn Z a (λs a=>?_) (λs a=>?_))
  .exact YC 6 Z a [1,2]
  refine Gc 6 Z (Cn Z a (λt a=>?_) (λt a=>?_))
  .exact YC 6 Z a [1,2]
  exact YC 1 Z a [1,2]
 refine Gx 2 Z (Qd w (Gc 7 Z ?_));obtain rfl:=Oi h;exact Rx [0] [2] Z (Je Z (QE EJ EB Z Z Z)) ⟨Z,Z⟩
def F_az(n:Nat)(a:Fact):Option Int:=((F_aq n a.Crew).bind λd=>(bif (!d)then some true else(F_ar n a.No).bind λe=>(bif (!e)then some true else(F_b n a.At 0 1099511627776).bind λf=>(bif (!f)then some true else(F_cd n a).bind λg=>(bif (!g)then some true else(F_cn n a).bind λh=>some (a != h))))):Option Bool).bind λi=>(bif i then some 120 else some 0)
theorem k_az(n:Nat)(f:Fact):Ks (F_az n f) 43 [.agg (Fact.c f)] [] (λr=>I r):=by
 refine Kg 8 func43 Z Z Z Z λr h=>Bd h λx e h=>Cg x [] [] (λx=>[(29,.bool x)]) Ze Zf ?_ ?_
 .refine G0 0 Z ?_;obtain⟨k,s,e⟩:=YB e;refine If e (λa e=>?_) (λa e=>?_)
  .refine TC.draw0 25 [3,4,5,6,7,8,9,10,11,12,13,14,15,16,17,18,19,20,21,22,23,24,25,26,27] [.ptr 0 0,I f.Crew,.bool k,.bool (!k),.bool (!k),.tup [],.tup [],.tup [],.tup [],.bool true,.bool true,.tup [],.tup [],.tup [],.tup [],.bool true,.bool true,.tup [],.tup [],.tup [],.bool true,.bool true,.tup [],.tup [],.tup []] draws Z Z Z ?_ ?_
   .refine ov (ov (Oq.c ?_ (Oq.c ?_ (ov (Oq.c ?_ (Oq.c ?_ (Oq.c ?_ (Oq.c ?_ (Oq.c ?_ (ov (Oq.c ?_ (Oq.c ?_ (Oq.c ?_ (Oq.c ?_ (Oq.c ?_ (ov (Oq.c ?_ (Oq.c ?_ (Oq.c ?_ (Oq.c ?_ (ov (Oq.c ?_ (Oq.c ?_ (Oq.c ?_ (Oq.n)))))))))))))))))))))))))
    .refine Om Z (sD 1 sN) ?_;exact Pc [] Z (OpC.fn call70 Z Z Z) (Qnh _ _ _ s) Z Wp
    .refine Om Z (sD 2 sN) ?_;exact S Z Wp
    .refine Om Z (sO 1 (sD 4 sN)) ?_;exact K (gF a) Z Wp
    .refine Om Z (sD 4 (sD 5 sN)) ?_;exact K (gF a) Z Wp
    .refine Om Z (sD 4 (sD 6 sN)) ?_;exact K (gF a) Z Wp
    .refine Om Z (sD 4 (sD 7 sN)) ?_;exact K (gF a) Z Wp
    .refine Om Z (sD 4 (sD 8 sN)) ?_;exact Pk a Z Wp
    .refine Om Z (sO 1 (sD 10 sN)) ?_;exact K (gF Z) Z Wp
    .refine Om Z (sD 10 (sD 11 sN)) ?_;exact K (gF Z) Z Wp
    .refine Om Z (sD 10 (sD 12 sN)) ?_;exact K (gF Z) Z Wp
    .refine Om Z (sD 10 (sD 13 sN)) ?_;exact K (gF Z) Z Wp
    .refine Om Z (sD 10 (sD 14 sN)) ?_;exact S Z Wp
    .refine Om Z (sO 1 (sD 16 sN)) ?_;exact K (gF Z) Z Wp
    .refine Om Z (sD 16 (sD 17 sN)) ?_;exact K (gF Z) Z Wp
    .refine Om Z (sD 16 (sD 18 sN)) ?_;exact K (gF Z) Z Wp
    .refine Om Z (sD 16 (sD 19 sN)) ?_;exact S Z Wp
    iterate 2 refine Om Z (sO 1 (sD 21 sN)) ?_;exact K (gF Z) Z Wp
    .refine Om Z (sD 21 (sD 23 sN)) ?_;exact K (gF Z) Z Wp
   exact Gl 3 Z e []
  .obtain⟨j,t,e⟩:=YB e;refine If e (λd e=>?_) (λd e=>?_)
   .refine TC.draw0 25 [3,4,5,6,7,8,9,10,11,12,13,14,15,16,17,18,19,20,21,22,23,24,25,26,27] [.ptr 0 0,I f.Crew,.bool k,.bool (!k),.bool (!k),.ptr 0 1,I f.No,.bool j,.bool (!j),.bool (!j),.bool (!j),.tup [],.tup [],.tup [],.tup [],.bool true,.bool true,.tup [],.tup [],.tup [],.bool true,.bool true,.tup [],.tup [],.tup []] draws Z Z Z ?_ ?_
    .refine ov (ov (Oq.c ?_ (Oq.c ?_ (ov (Oq.c ?_ (Oq.c ?_ (Oq.c ?_ (Oq.c ?_ (Oq.c ?_ (ov (Oq.c ?_ (Oq.c ?_ (Oq.c ?_ (Oq.c ?_ (Oq.c ?_ (ov (Oq.c ?_ (Oq.c ?_ (Oq.c ?_ (Oq.c ?_ (ov (Oq.c ?_ (Oq.c ?_ (Oq.c ?_ (Oq.n)))))))))))))))))))))))))
     .refine Om Z (sD 1 sN) ?_;exact Pc [] Z (OpC.fn call70 Z Z Z) (Qnh _ _ _ s) Z Wp
     .refine Om Z (sD 2 sN) ?_;exact S Z Wp
     .refine Om Z (sO 1 (sD 4 sN)) ?_;exact Fpg (gT a) QdQ Z Wp
     .refine Om Z (sD 4 (sD 5 sN)) ?_;exact Ldg (gT a) ED Z Wp
     .refine Om Z (sD 4 (sD 6 sN)) ?_;exact Pc [] Z (OpC.fn call71 Z Z Z) (QoD _ _ _ t) (hg:=(gT a)) Z Wp
     .refine Om Z (sD 4 (sD 7 sN)) ?_;exact Sg (gT a) Z Wp
     .refine Om Z (sD 4 (sD 8 sN)) ?_;exact Pk a Z Wp
     .refine Om Z (sO 1 (sD 10 sN)) ?_;exact K (gF d) Z Wp
     .refine Om Z (sD 10 (sD 11 sN)) ?_;exact K (gF d) Z Wp
     .refine Om Z (sD 10 (sD 12 sN)) ?_;exact K (gF d) Z Wp
     .refine Om Z (sD 10 (sD 13 sN)) ?_;exact K (gF d) Z Wp
     .refine Om Z (sD 10 (sD 14 sN)) ?_;exact Pk d Z Wp
     .refine Om Z (sO 1 (sD 16 sN)) ?_;exact K (gF Z) Z Wp
     .refine Om Z (sD 16 (sD 17 sN)) ?_;exact K (gF Z) Z Wp
     .refine Om Z (sD 16 (sD 18 sN)) ?_;exact K (gF Z) Z Wp
     .refine Om Z (sD 16 (sD 19 sN)) ?_;exact S Z Wp
     iterate 2 refine Om Z (sO 1 (sD 21 sN)) ?_;exact K (gF Z) Z Wp
     .refine Om Z (sD 21 (sD 23 sN)) ?_;exact K (gF Z) Z Wp
    exact Gl 3 Z e []
   .obtain⟨l,w,e⟩:=YB e;refine If e (λg e=>?_) (λg e=>?_)
    .refine TC.draw0 25 [3,4,5,6,7,8,9,10,11,12,13,14,15,16,17,18,19,20,21,22,23,24,25,26,27] [.ptr 0 0,I f.Crew,.bool k,.bool (!k),.bool (!k),.ptr 0 1,I f.No,.bool j,.bool (!j),.bool (!j),.bool (!j),.ptr 0 2,I f.At,.bool l,.bool (!l),.bool (!l),.bool (!l),.tup [],.tup [],.tup [],.bool true,.bool true,.tup [],.tup [],.tup []] draws Z Z Z ?_ ?_
     .refine ov (ov (Oq.c ?_ (Oq.c ?_ (ov (Oq.c ?_ (Oq.c ?_ (Oq.c ?_ (Oq.c ?_ (Oq.c ?_ (ov (Oq.c ?_ (Oq.c ?_ (Oq.c ?_ (Oq.c ?_ (Oq.c ?_ (ov (Oq.c ?_ (Oq.c ?_ (Oq.c ?_ (Oq.c ?_ (ov (Oq.c ?_ (Oq.c ?_ (Oq.c ?_ (Oq.n)))))))))))))))))))))))))
      .refine Om Z (sD 1 sN) ?_;exact Pc [] Z (OpC.fn call70 Z Z Z) (Qnh _ _ _ s) Z Wp
      .refine Om Z (sD 2 sN) ?_;exact S Z Wp
      .refine Om Z (sO 1 (sD 4 sN)) ?_;exact Fpg (gT a) QdQ Z Wp
      .refine Om Z (sD 4 (sD 5 sN)) ?_;exact Ldg (gT a) ED Z Wp
      .refine Om Z (sD 4 (sD 6 sN)) ?_;exact Pc [] Z (OpC.fn call71 Z Z Z) (QoD _ _ _ t) (hg:=(gT a)) Z Wp
      .refine Om Z (sD 4 (sD 7 sN)) ?_;exact Sg (gT a) Z Wp
      .refine Om Z (sD 4 (sD 8 sN)) ?_;exact Pk a Z Wp
      .refine Om Z (sO 1 (sD 10 sN)) ?_;exact Fpg (gT d) QdP Z Wp
      .refine Om Z (sD 10 (sD 11 sN)) ?_;exact Ldg (gT d) ED Z Wp
      .refine Om Z (sD 10 (sD 12 sN)) ?_;exact Pc [] Z (OpC.fn call72 Z Z Z) (k_b _ _ _ _ _ w) (hg:=(gT d)) Z Wp
      .refine Om Z (sD 10 (sD 13 sN)) ?_;exact Sg (gT d) Z Wp
      .refine Om Z (sD 10 (sD 14 sN)) ?_;exact Pk d Z Wp
      .refine Om Z (sO 1 (sD 16 sN)) ?_;exact K (gF g) Z Wp
      .refine Om Z (sD 16 (sD 17 sN)) ?_;exact K (gF g) Z Wp
      .refine Om Z (sD 16 (sD 18 sN)) ?_;exact K (gF g) Z Wp
      .refine Om Z (sD 16 (sD 19 sN)) ?_;exact Pk g Z Wp
      iterate 2 refine Om Z (sO 1 (sD 21 sN)) ?_;exact K (gF Z) Z Wp
      .refine Om Z (sD 21 (sD 23 sN)) ?_;exact K (gF Z) Z Wp
     exact Gl 3 Z e []
    .obtain⟨m,y,e⟩:=YB e;refine If e (λi e=>?_) (λi e=>?_)
     .refine TC.draw0 25 [3,4,5,6,7,8,9,10,11,12,13,14,15,16,17,18,19,20,21,22,23,24,25,26,27] [.ptr 0 0,I f.Crew,.bool k,.bool (!k),.bool (!k),.ptr 0 1,I f.No,.bool j,.bool (!j),.bool (!j),.bool (!j),.ptr 0 2,I f.At,.bool l,.bool (!l),.bool (!l),.bool (!l),.agg (Fact.c f),.bool m,.bool (!m),.bool (!m),.bool (!m),.tup [],.tup [],.tup []] draws Z Z Z ?_ ?_
      .refine ov (ov (Oq.c ?_ (Oq.c ?_ (ov (Oq.c ?_ (Oq.c ?_ (Oq.c ?_ (Oq.c ?_ (Oq.c ?_ (ov (Oq.c ?_ (Oq.c ?_ (Oq.c ?_ (Oq.c ?_ (Oq.c ?_ (ov (Oq.c ?_ (Oq.c ?_ (Oq.c ?_ (Oq.c ?_ (ov (Oq.c ?_ (Oq.c ?_ (Oq.c ?_ (Oq.n)))))))))))))))))))))))))
       .refine Om Z (sD 1 sN) ?_;exact Pc [] Z (OpC.fn call70 Z Z Z) (Qnh _ _ _ s) Z Wp
       .refine Om Z (sD 2 sN) ?_;exact S Z Wp
       .refine Om Z (sO 1 (sD 4 sN)) ?_;exact Fpg (gT a) QdQ Z Wp
       .refine Om Z (sD 4 (sD 5 sN)) ?_;exact Ldg (gT a) ED Z Wp
       .refine Om Z (sD 4 (sD 6 sN)) ?_;exact Pc [] Z (OpC.fn call71 Z Z Z) (QoD _ _ _ t) (hg:=(gT a)) Z Wp
       .refine Om Z (sD 4 (sD 7 sN)) ?_;exact Sg (gT a) Z Wp
       .refine Om Z (sD 4 (sD 8 sN)) ?_;exact Pk a Z Wp
       .refine Om Z (sO 1 (sD 10 sN)) ?_;exact Fpg (gT d) QdP Z Wp
       .refine Om Z (sD 10 (sD 11 sN)) ?_;exact Ldg (gT d) ED Z Wp
       .refine Om Z (sD 10 (sD 12 sN)) ?_;exact Pc [] Z (OpC.fn call72 Z Z Z) (k_b _ _ _ _ _ w) (hg:=(gT d)) Z Wp
       .refine Om Z (sD 10 (sD 13 sN)) ?_;exact Sg (gT d) Z Wp
       .refine Om Z (sD 10 (sD 14 sN)) ?_;exact Pk d Z Wp
       .refine Om Z (sO 1 (sD 16 sN)) ?_;refine vX (.agg (Fact.c f)) (Qn Z EJ EB Z (Pts.cells Z Z) Z Z) ?_ (gT g);exact Wp
       .refine Om Z (sD 16 (sD 17 sN)) ?_;exact Pc [] Z (OpC.fn call73 Z Z Z) (k_cd _ _ _ y) (hg:=(gT g)) Z Wp
       .refine Om Z (sD 16 (sD 18 sN)) ?_;exact Sg (gT g) Z Wp
       .refine Om Z (sD 16 (sD 19 sN)) ?_;exact Pk g Z Wp
       iterate 2 refine Om Z (sO 1 (sD 21 sN)) ?_;exact K (gF i) Z Wp
       .refine Om Z (sD 21 (sD 23 sN)) ?_;exact K (gF i) Z Wp
      exact KF i Z (Pk i Z (Gl 1 Z e []))
     .obtain⟨u,z,e⟩:=YB e;refine QaV 25 0 [3,4,5,6,7,8,9,10,11,12,13,14,15,16,17,18,19,20,21,22,23,24,25,26,27] [false,false,false,false,false,false,false,false,false,false,false,false,false,false,false,false,false,false,false,false,false,false,false,false,true] [[],[],[],[],[],[],[],[],[],[],[],[],[],[],[],[],[],[],[],[],[],[],[],[],[]] [[],[24]] [[(0,0)],[(0,0)],[(0,0)],[(0,0)],[(0,0)],[(0,0)],[(0,0)],[(0,0)],[(0,0)],[(0,0)],[(0,0)],[(0,0)],[(0,0)],[(0,0)],[(0,0)],[(0,0)],[(0,0)],[(0,0)],[(0,0)],[(0,0)],[(0,0)],[(0,0)],[(0,0),(1,1)],[(0,0)],[(0,1)]] [.ptr 0 0,I f.Crew,.bool k,.bool (!k),.bool (!k),.ptr 0 1,I f.No,.bool j,.bool (!j),.bool (!j),.bool (!j),.ptr 0 2,I f.At,.bool l,.bool (!l),.bool (!l),.bool (!l),.agg (Fact.c f),.bool m,.bool (!m),.bool (!m),.bool (!m),.agg (Fact.c f),.agg (Fact.c f),.agg (Fact.c u)] [[.cells 68 (Fact.c f)],[.cells 68 (Fact.c f),.cells 68 (Fact.c u)]] ([.cells 68 (Fact.c f),.cells 68 (Fact.c u)]) draws Z Z Z Z Z Z Z ?_ Z ?_
      .refine Qi4.cons (Qc (v0 Z Z) (Qm)) (Qi4.cons (Qc (v0 Z Z) (Qm)) (Qi4.cons ?_ (Qi4.cons ?_ (Qi4.cons (Qc (v0 Z Z) (Qm)) (Qi4.cons ?_ (Qi4.cons ?_ (Qi4.cons ?_ (Qi4.cons ?_ (Qi4.cons ?_ (Qi4.cons (Qc (v0 Z Z) (Qm)) (Qi4.cons ?_ (Qi4.cons ?_ (Qi4.cons ?_ (Qi4.cons ?_ (Qi4.cons ?_ (Qi4.cons (Qc (v0 Z Z) (Qm)) (Qi4.cons ?_ (Qi4.cons ?_ (Qi4.cons ?_ (Qi4.cons ?_ (Qi4.cons (Qc (v0 Z Z) (Qm)) (Qi4.cons ?_ (Qi4.cons ?_ (Qi4.cons ?_ (Qi4.nil)))))))))))))))))))))))))
       .refine Qc ?_ (Qm)
        .refine Om Z (sD 1 sN) ?_;exact Pc [] Z (OpC.fn call70 Z Z Z) (Qnh _ _ _ s) Z Wp
       .refine Qc ?_ (Qm)
        .refine Om Z (sD 2 sN) ?_;exact S Z Wp
       .refine Qc ?_ (Qm)
        .refine Om Z (sO 1 (sD 4 sN)) ?_;exact Fpg (gT a) QdQ Z Wp
       .refine Qc ?_ (Qm)
        .refine Om Z (sD 4 (sD 5 sN)) ?_;exact Ldg (gT a) ED Z Wp
       .refine Qc ?_ (Qm)
        .refine Om Z (sD 4 (sD 6 sN)) ?_;exact Pc [] Z (OpC.fn call71 Z Z Z) (QoD _ _ _ t) (hg:=(gT a)) Z Wp
       .refine Qc ?_ (Qm)
        .refine Om Z (sD 4 (sD 7 sN)) ?_;exact Sg (gT a) Z Wp
       .refine Qc ?_ (Qm)
        .refine Om Z (sD 4 (sD 8 sN)) ?_;exact Pk a Z Wp
       .refine Qc ?_ (Qm)
        .refine Om Z (sO 1 (sD 10 sN)) ?_;exact Fpg (gT d) QdP Z Wp
       .refine Qc ?_ (Qm)
        .refine Om Z (sD 10 (sD 11 sN)) ?_;exact Ldg (gT d) ED Z Wp
       .refine Qc ?_ (Qm)
        .refine Om Z (sD 10 (sD 12 sN)) ?_;exact Pc [] Z (OpC.fn call72 Z Z Z) (k_b _ _ _ _ _ w) (hg:=(gT d)) Z Wp
       .refine Qc ?_ (Qm)
        .refine Om Z (sD 10 (sD 13 sN)) ?_;exact Sg (gT d) Z Wp
       .refine Qc ?_ (Qm)
        .refine Om Z (sD 10 (sD 14 sN)) ?_;exact Pk d Z Wp
       .refine Qc ?_ (Qm)
        .refine Om Z (sO 1 (sD 16 sN)) ?_;refine vX (.agg (Fact.c f)) (Qn Z EJ EB Z (Pts.cells Z Z) Z Z) ?_ (gT g);exact Wp
       .refine Qc ?_ (Qm)
        .refine Om Z (sD 16 (sD 17 sN)) ?_;exact Pc [] Z (OpC.fn call73 Z Z Z) (k_cd _ _ _ y) (hg:=(gT g)) Z Wp
       .refine Qc ?_ (Qm)
        .refine Om Z (sD 16 (sD 18 sN)) ?_;exact Sg (gT g) Z Wp
       .refine Qc ?_ (Qm)
        .refine Om Z (sD 16 (sD 19 sN)) ?_;exact Pk g Z Wp
       .refine Qc ?_ (Qc ?_ (Qm))
        iterate 2 refine Om Z (sO 1 (sD 21 sN)) ?_;refine vX (.agg (Fact.c f)) (Qn Z EJ EB Z (Pts.cells Z Z) Z Z) ?_ (gT i);exact Wp
       .refine Qc ?_ (Qm)
        .refine Om Z (sO 1 (sD 21 sN)) ?_;refine vX (.agg (Fact.c f)) (Qn Z EJ EB Z (Pts.cells Z Z) Z Z) ?_ (gT i);exact Wp
       .refine Qc ?_ (Qm)
        .refine Om1 Z (sD 21 (sD 23 sN)) ?_;refine QX [] (OpC.fn call74 Z Z Z) (k_cn _ _ _ z) ?_ (hg:=(gT i));rintro _ _ ⟨rfl,rfl⟩;exact FE Z Wp
      refine vX (.bool (f != u)) (Qh6 (p:=f) (q:=u) QlH Z Z) ?_ (gT i);exact Pk i Z (Gl 1 Z e [])
 refine Cn Z h (λB h=>?_) (λB h=>?_)
 .exact QG 7 Z h 2 []
 exact QG 8 Z h 2 []
def F_dd(n:Nat)(e:List Part)(f:Int)(rec225:(List Part)->Int->Option Int)(a:Int×Int):Option (Ctl (Int×Int) Int):=((bif decide (a.2<(e.length:Int))then some (decide (0<f))else some false):Option Bool).bind λg=>(bif g then(idx e a.2).bind λh=>((bif ((h.Parts.length:Int) != 0)then(idx e a.2).bind λi=>(rec225 i.Parts (i64.wrap (f-1))).bind λd=>some (if a.1<i64.wrap (1+d)then i64.wrap (1+d)else a.1)else some a.1):Option Int).bind λj=>some (.cont (j,i64.wrap (a.2+1)))else some (.done a.1))
def B_v(rec225:(List Part)->Int->Option Int)(n:Nat)(d:List Part)(e:Int):Option Int:=(iter (F_dd n d e rec225) n (0,0):Option Int).bind λa=>some a
theorem Qbg(rec225:(List Part)->Int->Option Int)(g:∀(i:List Part) (j:Int) (r:Int),rec225 i j=some r->Csm prog 125 [.rsl 3 (map Part.enc i),I j] [] (λr=>I r) r)(n:Nat)(i:List Part)(j:Int)(r:Int)(h:B_v rec225 n i j=some r):Csm prog 125 [.rsl 3 (map Part.enc i),I j] [] (λr=>I r) r:=by
 refine QF func125 Z Z Z ?_;refine G0 16 Z (Bd h λk z h=>Cg k [] [] (λk=>[(5,I k)]) Ze Zf ?_ ?_)
 .refine G0 1 Z (Lp [] [0,1] (λe=>[(5,I e.1),(6,I e.2)]) Ze z Zf (Lr []) λe G a s=>?_);refine G0 2 Z (Bd a λl f a=>Ct l [] [0,1,5,6] (λl=>[(14,.bool l)]) Ze Zf ?_ (λenv H m=>?_))
  .refine G0 3 Z (Lg 2 Z Z (Is 11 f Z (λt f=>?_) (λt f=>?_)))
   iterate 2 exact Gl 4 Z f []
  refine Gx 1 Z (Qd m (Yd Z a (λu a=>?_) (λu a=>?_)))
  .exact Gc 2 Z (Qh a (Gx 1 Z (cQo s a (Lr []))))
  refine Gc 8 Z (Bd a λB w a=>IzE w (Yb B) Z (Go 2 Z (Lg 3 Z Z (Bd a λp d a=>Ct p [] [0,1,6] (λp=>[(5,I p)]) Ze Zf ?_ (λenv H m=>?_)))))
  .refine G0 0 Z (Cn Z d (λx d=>?_) (λx d=>?_))
   .refine Gc 4 Z (Bd d λE y d=>IzE y (Yb E) Z (Go 4 Z (Cz [] d (g _ _) Z λq F d=>Go 1 Z ?_)));refine vX (I (if e.1<i64.wrap (1+q)then i64.wrap (1+q)else e.1)) (OpV.max Z Z Z Z) ?_;exact Gl 2 Z d []
   exact YC 1 Z d []
  exact Gx 2 Z (Qd m (Gc 5 Z (Qf a (Lr []))))
 exact QG 7 Z h 4 []
def F_v:Nat->(List Part)->Int->Option Int
  |0=>λ_ _=>none
  |n+1=>B_v (F_v n) n
theorem k_v(n:Nat):∀(a:List Part) (d:Int) (r:Int),F_v n a d=some r->Csm prog 125 [.rsl 3 (map Part.enc a),I d] [] (λr=>I r) r:=by
  induction n with
  |zero=>intro a d r h;cases h
  |succ n ih=>intro a d r h;exact Qbg _ ih n a d r h
def F_hf(n:Nat)(d:List Part)(rec226:(List Part)->Option Int)(a:Int×Int):Option (Ctl (Int×Int) Int):=((bif decide (a.2<(d.length:Int))then some (decide (a.1<=256))else some false):Option Bool).bind λe=>(bif e then(idx d a.2).bind λf=>(rec226 f.Parts).bind λg=>some (.cont (i64.wrap (a.1+g),i64.wrap (a.2+1)))else some (.done a.1))
def B_ao(rec226:(List Part)->Option Int)(n:Nat)(d:List Part):Option Int:=(iter (F_hf n d rec226) n ((d.length:Int),0):Option Int).bind λa=>some (if 257<a then 257 else a)
theorem Qbh(rec226:(List Part)->Option Int)(f:∀(g:List Part) (r:Int),rec226 g=some r->Csm prog 126 [.rsl 3 (map Part.enc g)] [] (λr=>I r) r)(n:Nat)(g:List Part)(r:Int)(h:B_ao rec226 n g=some r):Csm prog 126 [.rsl 3 (map Part.enc g)] [] (λr=>I r) r:=by
 refine QF func126 Z Z Z ?_;refine G0 8 Z (Lg 9 Z Z (Bd h λd q h=>Cg d [] [] (λd=>[(3,I d)]) Ze Zf ?_ ?_))
 .refine G0 1 Z (Lp [] [0] (λi=>[(3,I i.1),(4,I i.2)]) Ze q Zf (Lr []) λi u a k=>?_);refine G0 2 Z (Bd a λj e a=>Cg j [] [0,3,4] (λj=>[(14,.bool j)]) Ze Zf ?_ ?_)
  .refine G0 3 Z (Lg 2 Z Z (Is 11 e Z (λl e=>?_) (λl e=>?_)))
   iterate 2 exact Gl 4 Z e []
  refine Yd Z a (λm a=>?_) (λm a=>?_)
  .exact Gc 2 Z (Qh a (Gx 1 Z (cQo k a (Lr []))))
  exact Gc 8 Z (Bd a λs p a=>IzE p (Yb s) Z (Go 2 Z (Cz [] a (f _) Z λw t a=>Go 10 Z (Qf a (Lr [])))))
 refine Gc 3 Z ?_;refine vX (I (if 257<d then 257 else d)) (OpV.min Z Z Z Z) ?_;exact Gt 4 Z h 2 []
def F_ao:Nat->(List Part)->Option Int
  |0=>λ_=>none
  |n+1=>B_ao (F_ao n) n
theorem k_ao(n:Nat):∀(a:List Part) (r:Int),F_ao n a=some r->Csm prog 126 [.rsl 3 (map Part.enc a)] [] (λr=>I r) r:=by
  induction n with
  |zero=>intro a r h;cases h
  |succ n ih=>intro a r h;exact Qbh _ ih n a r h
def F_gz(n:Nat)(e:Course)(a:Int):Option (Ctl Int (Ctl Unit Bool)):=(bif decide (a<(e.Distances.length:Int))then(idx e.Distances a).bind λd=>((bif decide (64<(d.Cutoffs.length:Int))then some true else(F_v n d.Route 17).bind λf=>(bif decide (16<f)then some true else(F_ao n d.Route).bind λg=>some (decide (256<g)))):Option Bool).bind λh=>(bif h then some (.done (.done false))else some (.cont (i64.wrap (a+1))))else some (.done (.cont ())))
def F_bq(n:Nat)(a:Course):Option Bool:=((bif decide (40<(a.Mats.length:Int))then some true else(bif decide (512<(a.Legs.length:Int))then some true else(bif decide (8<(a.Distances.length:Int))then some true else(bif decide (32<(a.Waves.length:Int))then some true else(bif decide (32<(a.Offences.length:Int))then some true else(bif decide (32<(a.Categories.length:Int))then some true else some (decide (32<(a.Prizes.length:Int))))))))):Option Bool).bind λf=>(bif f then some false else(iter (F_gz n a) n 0:Option (Ctl Unit Bool)).bind λe=>match e with|.cont d=>(some true)|.done d=>some d)
theorem k_bq(n:Nat)(z:Course):Ks (F_bq n z) 59 [.agg (Course.c z)] [] (λr=>.bool r):=by
 refine Kg 8 func59 Z Z Z Z λr h=>Bd h λj a h=>Ct j [0] [1] (λj=>[(44,.bool j)]) Ze Zf ?_ (λenv H B=>?_)
 .refine G0 3 Z (Lg 2 Z Z (Is 9 a Z (λE a=>?_) (λE a=>?_)))
  .exact Gl 36 Z a [0]
  .refine Go 2 Z (Lg 3 Z Z (Is 15 a Z (λk a=>?_) (λk a=>?_)))
   .exact Gl 30 Z a [0]
   .refine Go 2 Z (Lg 3 Z Z (Is 21 a Z (λl a=>?_) (λl a=>?_)))
    .exact Gl 24 Z a [0]
    .refine Go 2 Z (Lg 3 Z Z (Is 27 a Z (λm a=>?_) (λm a=>?_)))
     .exact Gl 18 Z a [0]
     .refine Go 2 Z (Lg 3 Z Z (Is 33 a Z (λp a=>?_) (λp a=>?_)))
      .exact Gl 12 Z a [0]
      .refine Go 2 Z (Lg 3 Z Z (Is 39 a Z (λq a=>?_) (λq a=>?_)))
       .exact Gl 6 Z a [0]
       .exact Go 2 Z (Lm Z (Gl 3 Z a [0]))
 refine Gx 1 Z (Qd B (Cn Z h (λs h=>?_) (λs h=>?_)))
 .exact QG 7 Z h 2 []
 refine Gc 8 Z (Bd h λF G h=>CgE (b:=F) [] [] Ze Ze Zf ?_ (λL J=>?_))
 .refine G0 1 Z (Lp [0] [1] (λi=>[(3,I i)]) Ze G Zf (Lr [0]) λi O d f=>?_);refine G0 6 Z (Lg 3 Z Z (Yd Z d (λt d=>?_) (λt d=>?_)))
  .exact Gc 2 Z (Qh d (Gx 1 Z (JB f d Z (Lr []))))
  refine Gc 9 Z (Bd d λP u d=>Iz u Z (Go 6 Z (Bd d λg e d=>Cg g [0] [1,3] (λg=>[(72,.bool g)]) Ze Zf ?_ ?_)))
  .refine G0 3 Z (Lg 2 Z Z (Is 61 e Z (λw e=>?_) (λw e=>?_)))
   .exact Gl 12 Z e [0]
   .refine Go 2 Z (Cz [] e (k_v _ _ _) Z λQ M e=>Go 3 Z (Is 67 e Z (λx e=>?_) (λx e=>?_)))
    .exact Gl 6 Z e [0]
    .exact Go 2 Z (Cz [] e (k_ao _ _) Z λR N e=>Gl 3 Z e [0])
  refine Cn Z d (λy d=>?_) (λy d=>?_)
  .refine Gc 8 Z (Qw d ?_);obtain rfl:=Oj f d;exact Gx 1 Z (Qq (Gx 1 Z (Rt h 2 [])))
  exact Gc 8 Z (Qf d (Lr [0]))
 subst J;exact QG 6 Z h 2 []
def F_dg(n:Nat)(a:List UInt8):Option Bool:=((bif (a==[99,111,117,114,115,101])then some (a==[99,111,117,114,115,101])else(bif (a==[109,97,116,115])then some (a==[109,97,116,115])else(bif (a==[115,116,97,114,116])then some (a==[115,116,97,114,116])else(bif (a==[112,97,115,115])then some (a==[112,97,115,115])else(bif (a==[101,110,100])then some (a==[101,110,100])else(bif (a==[108,101,103])then some (a==[108,101,103])else(bif (a==[116,111])then some (a==[116,111])else(bif (a==[100,105,115,116,97,110,99,101])then some (a==[100,105,115,116,97,110,99,101])else(bif (a==[103,117,110])then some (a==[103,117,110])else(bif (a==[99,104,105,112])then some (a==[99,104,105,112])else(bif (a==[115,108,111,116])then some (a==[115,108,111,116])else(bif (a==[108,97,112,115])then some (a==[108,97,112,115])else(bif (a==[108,97,112])then some (a==[108,97,112])else(bif (a==[99,117,116,111,102,102])then some (a==[99,117,116,111,102,102])else(bif (a==[101,120,116,114,97])then some (a==[101,120,116,114,97])else(bif (a==[119,97,118,101])then some (a==[119,97,118,101])else(bif (a==[111,102,102,101,110,99,101])then some (a==[111,102,102,101,110,99,101])else(bif (a==[111,117,116])then some (a==[111,117,116])else(bif (a==[99,97,116,101,103,111,114,121])then some (a==[99,97,116,101,103,111,114,121])else(bif (a==[112,114,105,122,101])then some (a==[112,114,105,122,101])else(bif (a==[97,108,108])then some (a==[97,108,108])else some (a==[116,105,101,115])))))))))))))))))))))):Option Bool).bind λd=>(bif d then some true else((bif (a==[105,102])then some (a==[105,102])else(bif (a==[101,108,115,101])then some (a==[101,108,115,101])else(bif (a==[97,110,100])then some (a==[97,110,100])else(bif (a==[111,114])then some (a==[111,114])else(bif (a==[110,111,116])then some (a==[110,111,116])else(bif (a==[111,108,100,101,114])then some (a==[111,108,100,101,114])else(bif (a==[121,111,117,110,103,101,114])then some (a==[121,111,117,110,103,101,114])else(bif (a==[98,105,98])then some (a==[98,105,98])else(bif (a==[100,114,97,119])then some (a==[100,114,97,119])else(bif (a==[102,105,101,108,100])then some (a==[102,105,101,108,100])else(bif (a==[115,104,111,114,116])then some (a==[115,104,111,114,116])else(bif (a==[102,97,117,108,116,115])then some (a==[102,97,117,108,116,115])else(bif (a==[109,105,115,115,101,115])then some (a==[109,105,115,115,101,115])else(bif (a==[115,116,114,97,121,115])then some (a==[115,116,114,97,121,115])else(bif (a==[119,105,110,100,111,119])then some (a==[119,105,110,100,111,119])else(bif (a==[114,101,115,105,100,117,97,108])then some (a==[114,101,115,105,100,117,97,108])else(bif (a==[100,114,105,102,116])then some (a==[100,114,105,102,116])else(bif (a==[112,114,111,116,101,115,116])then some (a==[112,114,111,116,101,115,116])else(bif (a==[102,101,101])then some (a==[102,101,101])else some (a==[100,101,97,100,108,105,110,101])))))))))))))))))))):Option Bool).bind λe=>(bif e then some true else some false))
theorem k_dg(n:Nat)(a1:List UInt8):Ks (F_dg n a1) 188 [.str a1] [] (λr=>.bool r):=by
 refine Kg 19 func188 Z Z Z Z λr h=>Bd h λe a h=>Ct e [] [3] (λe=>[(4,.bool e)]) Ze Zf ?_ (λenv H al=>?_)
 .refine G0 0 Z (Cn Z a (λg a=>?_) (λg a=>?_))
  .exact YC 1 Z a []
  refine Gc 6 Z (Cn Z a (λi a=>?_) (λi a=>?_))
  .exact YC 1 Z a []
  refine Gc 6 Z (Cn Z a (λj a=>?_) (λj a=>?_))
  .exact YC 1 Z a []
  refine Gc 6 Z (Cn Z a (λk a=>?_) (λk a=>?_))
  .exact YC 1 Z a []
  refine Gc 6 Z (Cn Z a (λl a=>?_) (λl a=>?_))
  .exact YC 1 Z a []
  refine Gc 6 Z (Cn Z a (λm a=>?_) (λm a=>?_))
  .exact YC 1 Z a []
  refine Gc 6 Z (Cn Z a (λp a=>?_) (λp a=>?_))
  .exact YC 1 Z a []
  refine Gc 6 Z (Cn Z a (λq a=>?_) (λq a=>?_))
  .exact YC 1 Z a []
  refine Gc 6 Z (Cn Z a (λs a=>?_) (λs a=>?_))
  .exact YC 1 Z a []
  refine Gc 6 Z (Cn Z a (λt a=>?_) (λt a=>?_))
  .exact YC 1 Z a []
  refine Gc 6 Z (Cn Z a (λu a=>?_) (λu a=>?_))
  .exact YC 1 Z a []
  refine Gc 6 Z (Cn Z a (λw a=>?_) (λw a=>?_))
  .exact YC 1 Z a []
  refine Gc 6 Z (Cn Z a (λx a=>?_) (λx a=>?_))
  .exact YC 1 Z a []
  refine Gc 6 Z (Cn Z a (λy a=>?_) (λy a=>?_))
  .exact YC 1 Z a []
  refine Gc 6 Z (Cn Z a (λz a=>?_) (λz a=>?_))
  .exact YC 1 Z a []
  refine Gc 6 Z (Cn Z a (λB a=>?_) (λB a=>?_))
  .exact YC 1 Z a []
  refine Gc 6 Z (Cn Z a (λE a=>?_) (λE a=>?_))
  .exact YC 1 Z a []
  refine Gc 6 Z (Cn Z a (λF a=>?_) (λF a=>?_))
  .exact YC 1 Z a []
  refine Gc 6 Z (Cn Z a (λG a=>?_) (λG a=>?_))
  .exact YC 1 Z a []
  refine Gc 6 Z (Cn Z a (λJ a=>?_) (λJ a=>?_))
  .exact YC 1 Z a []
  refine Gc 6 Z (Cn Z a (λL a=>?_) (λL a=>?_))
  .exact YC 1 Z a []
  exact YC 4 Z a []
 refine Gx 1 Z (Qd al (Cn Z h (λM h=>?_) (λM h=>?_)))
 .exact QG 8 Z h 2 []
 refine Gc 7 Z (Bd h λf d h=>Cg f [] [] (λf=>[(27,.bool f)]) Ze Zf ?_ ?_)
 .refine G0 0 Z (Cn Z d (λN d=>?_) (λN d=>?_))
  .exact YC 1 Z d []
  refine Gc 6 Z (Cn Z d (λO d=>?_) (λO d=>?_))
  .exact YC 1 Z d []
  refine Gc 6 Z (Cn Z d (λP d=>?_) (λP d=>?_))
  .exact YC 1 Z d []
  refine Gc 6 Z (Cn Z d (λQ d=>?_) (λQ d=>?_))
  .exact YC 1 Z d []
  refine Gc 6 Z (Cn Z d (λR d=>?_) (λR d=>?_))
  .exact YC 1 Z d []
  refine Gc 6 Z (Cn Z d (λT d=>?_) (λT d=>?_))
  .exact YC 1 Z d []
  refine Gc 6 Z (Cn Z d (λV d=>?_) (λV d=>?_))
  .exact YC 1 Z d []
  refine Gc 6 Z (Cn Z d (λW d=>?_) (λW d=>?_))
  .exact YC 1 Z d []
  refine Gc 6 Z (Cn Z d (λX d=>?_) (λX d=>?_))
  .exact YC 1 Z d []
  refine Gc 6 Z (Cn Z d (λY d=>?_) (λY d=>?_))
  .exact YC 1 Z d []
  refine Gc 6 Z (Cn Z d (λaa d=>?_) (λaa d=>?_))
  .exact YC 1 Z d []
  refine Gc 6 Z (Cn Z d (λab d=>?_) (λab d=>?_))
  .exact YC 1 Z d []
  refine Gc 6 Z (Cn Z d (λac d=>?_) (λac d=>?_))
  .exact YC 1 Z d []
  refine Gc 6 Z (Cn Z d (λae d=>?_) (λae d=>?_))
  .exact YC 1 Z d []
  refine Gc 6 Z (Cn Z d (λaf d=>?_) (λaf d=>?_))
  .exact YC 1 Z d []
  refine Gc 6 Z (Cn Z d (λag d=>?_) (λag d=>?_))
  .exact YC 1 Z d []
  refine Gc 6 Z (Cn Z d (λah d=>?_) (λah d=>?_))
  .exact YC 1 Z d []
  refine Gc 6 Z (Cn Z d (λai d=>?_) (λai d=>?_))
  .exact YC 1 Z d []
  refine Gc 6 Z (Cn Z d (λaj d=>?_) (λaj d=>?_))
  .exact YC 1 Z d []
  exact YC 4 Z d []
 refine Cn Z h (λak h=>?_) (λak h=>?_)
 .exact QG 8 Z h 2 []
 exact QG 9 Z h 2 []
def F_kh(n:Nat)(d:List UInt8)(a:Int):Option (Ctl Int (Ctl Unit Bool)):=(bif decide (a<(d.length:Int))then((idx d a).bind λe=>(bif decide ((e.toNat:Int)<97)then(idx d a).bind λf=>(bif decide ((f.toNat:Int)<48)then(idx d a).bind λg=>some ((g.toNat:Int) != 95)else(idx d a).bind λh=>(bif decide (57<(h.toNat:Int))then(idx d a).bind λi=>some ((i.toNat:Int) != 95)else some false))else(idx d a).bind λj=>(bif decide (122<(j.toNat:Int))then(idx d a).bind λk=>(bif decide ((k.toNat:Int)<48)then(idx d a).bind λl=>some ((l.toNat:Int) != 95)else(idx d a).bind λm=>(bif decide (57<(m.toNat:Int))then(idx d a).bind λp=>some ((p.toNat:Int) != 95)else some false))else some false)):Option Bool).bind λq=>(bif q then some (.done (.done false))else some (.cont (i64.wrap (a+1))))else some (.done (.cont ())))
def F_bz(n:Nat)(a:List UInt8):Option Bool:=((bif decide ((a.length:Int)<1)then some true else(bif decide (24<(a.length:Int))then some true else(idx a 0).bind λf=>(bif decide ((f.toNat:Int)<97)then some true else(idx a 0).bind λg=>some (decide (122<(g.toNat:Int)))))):Option Bool).bind λi=>(bif i then some false else(iter (F_kh n a) n 1:Option (Ctl Unit Bool)).bind λh=>match h with|.cont d=>((F_dg n a).bind λe=>some (!e))|.done d=>some d)
theorem k_bz(n:Nat)(g:List UInt8):Ks (F_bz n g) 127 [.str g] [] (λr=>.bool r):=by
 refine Kg 7 func127 Z Z Z Z λr h=>Bd h λL e h=>Ct L [] [0] (λL=>[(21,.bool L)]) Ze Zf ?_ (λenv H af=>?_)
 .refine G0 2 Z ?_;refine vX (I (g.length:Int)) (Y2 Z Z EE Z) ?_;refine Go 2 Z (Is 7 e Z (λag e=>?_) (λag e=>?_))
  .exact Gl 15 Z e []
  .refine Go 1 Z ?_;refine vX (I (g.length:Int)) (Y2 Z Z EE Z) ?_ (gT Z);refine Go 3 Z (Is 12 e Z (λah e=>?_) (λah e=>?_))
   .exact Gl 10 Z e []
   .refine Go 1 Z (Bd e λai M e=>?_);refine vX (.int .u8 (ai.toNat:Int)) (Q4 M EE) ?_ (gT Z);refine Go 3 Z (Is 17 e Z (λN e=>?_) (λN e=>?_))
    .exact Gl 5 Z e []
    .refine Go 1 Z (Bd e λaj O e=>?_);refine vX (.int .u8 (aj.toNat:Int)) (Q4 O EE) ?_ (gT Z);exact Gl 3 Z e []
 refine Gx 1 Z (Qd af (Cn Z h (λP h=>?_) (λP h=>?_)))
 .exact QG 7 Z h 2 []
 refine Gc 8 Z (Bd h λak al h=>CgE (b:=ak) [] [0] Ze Ze Zf ?_ (λao am=>?_))
 .refine G0 1 Z (Lp [] [0] (λJ=>[(3,I J)]) Ze al Zf (Lr []) λJ ar d i=>?_);refine G0 5 Z ?_;refine vX (I (g.length:Int)) (Y2 Z Z EE Z) ?_;refine Go 3 Z (Yd Z d (λQ d=>?_) (λQ d=>?_))
  .exact Gc 2 Z (Qh d (Gx 1 Z (JB i d Z (Lr []))))
  refine Gc 5 Z (Bd d λf a d=>Cg f [] [0,3] (λf=>[(55,.bool f)]) Ze Zf ?_ ?_)
  .refine G0 3 Z (Bd a λR j a=>?_);refine vX (.int .u8 (R.toNat:Int)) (Q4 j EE) ?_;refine Go 2 Z (Is 32 a Z (λk a=>?_) (λk a=>?_))
   .refine Go 8 Z (Bd a λT l a=>?_);refine vX (.int .u8 (T.toNat:Int)) (Q4 l EE) ?_ (gT Z);refine Go 2 Z (Is 43 a Z (λm a=>?_) (λm a=>?_))
    .refine Go 9 Z (Bd a λV p a=>?_);refine vX (.int .u8 (V.toNat:Int)) (Q4 p EE) ?_ (gT Z);exact Gl 3 Z a []
    .refine Go 2 Z (Bd a λW q a=>?_);refine vX (.int .u8 (W.toNat:Int)) (Q4 q EE) ?_ (gT Z);refine Go 4 Z (Is 50 a Z (λs a=>?_) (λs a=>?_))
     .refine Go 2 Z (Bd a λX t a=>?_);refine vX (.int .u8 (X.toNat:Int)) (Q4 t EE) ?_ (gT Z);exact Gl 3 Z a []
     .exact Gl 6 Z a []
   .refine Go 2 Z (Bd a λY u a=>?_);refine vX (.int .u8 (Y.toNat:Int)) (Q4 u EE) ?_ (gT Z);refine Go 3 Z (Is 38 a Z (λw a=>?_) (λw a=>?_))
    .refine Go 2 Z (Bd a λaa x a=>?_);refine vX (.int .u8 (aa.toNat:Int)) (Q4 x EE) ?_ (gT Z);refine Go 2 Z (Is 43 a Z (λy a=>?_) (λy a=>?_))
     .refine Go 9 Z (Bd a λab z a=>?_);refine vX (.int .u8 (ab.toNat:Int)) (Q4 z EE) ?_ (gT Z);exact Gl 3 Z a []
     .refine Go 2 Z (Bd a λac B a=>?_);refine vX (.int .u8 (ac.toNat:Int)) (Q4 B EE) ?_ (gT Z);refine Go 4 Z (Is 50 a Z (λE a=>?_) (λE a=>?_))
      .refine Go 2 Z (Bd a λae F a=>?_);refine vX (.int .u8 (ae.toNat:Int)) (Q4 F EE) ?_ (gT Z);exact Gl 3 Z a []
      .exact Gl 6 Z a []
    .exact Gl 18 Z a []
  refine Cn Z d (λG d=>?_) (λG d=>?_)
  .refine Gc 8 Z (Qw d ?_);obtain rfl:=Oj i d;exact Gx 1 Z (Qq (Gx 1 Z (Rt h 2 [])))
  exact Gc 8 Z (Qf d (Lr []))
 subst am;exact Gc 3 Z (Cz [] h (k_dg _ _) Z λaq an h=>Gt 5 Z h 2 [])
def F_hv(n:Nat)(e:List (List UInt8))(d:Int)(a:Int):Option (Ctl Int (Ctl Unit (Ctl Int (Ctl Unit Bool)))):=(bif decide (a<d)then(idx e a).bind λf=>(idx e d).bind λg=>(bif (f==g)then some (.done (.done (.done (.done false))))else some (.cont (i64.wrap (a+1))))else some (.done (.cont ())))
def F_lq(n:Nat)(e:List (List UInt8))(a:Int):Option (Ctl Int (Ctl Unit Bool)):=(bif decide (a<(e.length:Int))then(idx e a).bind λf=>(F_bz n f).bind λg=>(bif (!g)then some (.done (.done false))else(iter (F_hv n e a) n 0:Option (Ctl Unit (Ctl Int (Ctl Unit Bool)))).bind λh=>match h with|.cont d=>(some (.cont (i64.wrap (a+1))))|.done d=>some d)else some (.done (.cont ())))
def F_ab(n:Nat)(e:List (List UInt8)):Option Bool:=(iter (F_lq n e) n 0:Option (Ctl Unit Bool)).bind λd=>match d with|.cont a=>(some true)|.done a=>some a
theorem QoF(n:Nat)(u:List (List UInt8)):Ks (F_ab n u) 128 [.rsl 1 (map JW u)] [] (λr=>.bool r):=by
 refine Kg 11 func128 Z Z Z Z λr h=>Bd h λw y h=>CgE (b:=w) [] [] Ze Ze Zf ?_ (λJ f=>?_)
 .refine G0 1 Z (Lp [] [0] (λi=>[(3,I i)]) Ze y Zf (Lr []) λi N a e=>?_);refine G0 5 Z (Lg 3 Z Z (Yd Z a (λk a=>?_) (λk a=>?_)))
  .exact Gc 2 Z (Qh a (Gx 1 Z (JB e a Z (Lr []))))
  refine Gc 9 Z (Bd a λO l a=>Iz l Z (Go 1 Z (Cz [] a (k_bz _ _) Z λP L a=>Go 3 Z (Cn Z a (λm a=>?_) (λm a=>?_)))))
  .refine Gc 9 Z (Qw a ?_);obtain rfl:=Oj e a;exact Gx 1 Z (Qq (Gx 1 Z (Rt h 2 [])))
  refine Gc 7 Z (Bd a λz B a=>CtE (b:=z) [] [0,3] Ze Ze Zf ?_ (λM env H f E=>?_))
  .refine G0 1 Z (Lp [] [0,3] (λj=>[(4,I j)]) Ze B Zf (Lr []) λj Q d g=>?_);refine G0 8 Z (Yd Z d (λp d=>?_) (λp d=>?_))
   .exact Gc 2 Z (Qh d (Gx 1 Z (JB g d Z (Lr []))))
   refine Gc 5 Z (DSs 8 Z (D 2 Z ?_));obtain⟨F,q,d⟩:=YB d;refine DS.wo (x:=.rp [.str F]) ?_ ?_
   .exact Ix q EV GO Z Wp
   refine D 3 Z ?_;obtain⟨G,s,d⟩:=YB d;refine DS.wo (x:=.rp [.str G]) ?_ ?_
   .exact Ix s EV GO Z Wp
   refine D 1 Z (Eg Z (Go 3 Z (Cn Z d (λt d=>?_) (λt d=>?_))))
   .refine Gc 8 Z (Qw d ?_);obtain rfl:=Oj g d;refine Gx 1 Z (Qq (Gx 2 Z (Qw a ?_)));obtain rfl:=Oj e a;exact Gx 1 Z (Qq (Gx 1 Z (Rt h 2 [])))
   exact Gc 8 Z (Qf d (Lr []))
  subst f;exact Gx 2 Z (Qd E (Gc 5 Z (Qf a (Lr []))))
 subst f;exact QG 6 Z h 2 []
def F_ms(n:Nat)(d:Course)(a:(List (List UInt8))×Int):Option (Ctl ((List (List UInt8))×Int) (List (List UInt8))):=(bif decide (a.2<(d.Mats.length:Int))then(idx d.Mats a.2).bind λe=>(app a.1 [e.Name]).bind λf=>some (.cont (f,i64.wrap (a.2+1)))else some (.done a.1))
def F_mn(n:Nat)(d:Course)(a:(List (List UInt8))×Int):Option (Ctl ((List (List UInt8))×Int) (List (List UInt8))):=(bif decide (a.2<(d.Distances.length:Int))then(idx d.Distances a.2).bind λe=>(app a.1 [e.Name]).bind λf=>some (.cont (f,i64.wrap (a.2+1)))else some (.done a.1))
def F_mu(n:Nat)(d:Course)(a:(List (List UInt8))×Int):Option (Ctl ((List (List UInt8))×Int) (List (List UInt8))):=(bif decide (a.2<(d.Waves.length:Int))then(idx d.Waves a.2).bind λe=>(app a.1 [e.Name]).bind λf=>some (.cont (f,i64.wrap (a.2+1)))else some (.done a.1))
def F_mh(n:Nat)(d:Course)(a:(List (List UInt8))×Int):Option (Ctl ((List (List UInt8))×Int) (List (List UInt8))):=(bif decide (a.2<(d.Offences.length:Int))then(idx d.Offences a.2).bind λe=>(app a.1 [e.Name]).bind λf=>some (.cont (f,i64.wrap (a.2+1)))else some (.done a.1))
def F_mz(n:Nat)(d:Course)(a:(List (List UInt8))×Int):Option (Ctl ((List (List UInt8))×Int) (List (List UInt8))):=(bif decide (a.2<(d.Categories.length:Int))then(idx d.Categories a.2).bind λe=>(app a.1 [e.Name]).bind λf=>some (.cont (f,i64.wrap (a.2+1)))else some (.done a.1))
def F_fb(n:Nat)(a:Course):Option Bool:=(iter (F_ms n a) n (([]:List (List UInt8)),0):Option (List (List UInt8))).bind λq=>(iter (F_mn n a) n (([]:List (List UInt8)),0):Option (List (List UInt8))).bind λg=>(iter (F_mu n a) n (([]:List (List UInt8)),0):Option (List (List UInt8))).bind λh=>(iter (F_mh n a) n (([]:List (List UInt8)),0):Option (List (List UInt8))).bind λi=>(iter (F_mz n a) n (([]:List (List UInt8)),0):Option (List (List UInt8))).bind λj=>((F_bz n a.Name).bind λk=>(bif k then(F_ab n q).bind λl=>(bif l then(F_ab n g).bind λm=>(bif m then(F_ab n h).bind λd=>(bif d then(F_ab n i).bind λe=>(bif e then(F_ab n j).bind λf=>some f else some false)else some false)else some false)else some false)else some false):Option Bool).bind λp=>some p
theorem k_fb(n:Nat)(a1:Course):Ks (F_fb n a1) 60 [.agg (Course.c a1)] [] (λr=>.bool r):=by
 refine Kg 8 func60 Z Z Z Z λr h=>vH (Ej (xs:=[]) (es:=map JW []) JQ Z Z Z Z Z trivial Z Z) ?_;refine Fg 9 Z Z (Bd h λz h9 h=>Ct z [0,1] [1] (λz=>[(3,.osl 1 0 z.length 1)]) (λz=>[(1,.row 9 1 (map JW z))]) Zf ?_ (λenv H l=>?_))
 .refine G0 1 Z (Lp [0,1] [1] (λm=>[(3,.osl 1 0 m.1.length 1),(4,I m.2)]) (λm=>[(1,.row 9 1 (map JW m.1))]) h9 Zf (Lr [0,1]) λm bf d G=>?_);refine G0 6 Z (Lg 3 Z Z (Yd Z d (λJ d=>?_) (λJ d=>?_)))
  .exact Gc 2 Z (Qh d (Gx 1 Z (cQo G d (Lr [0,1]))))
  refine Gc 9 Z (Bd d λak L d=>Iz L Z (Go 2 Z (vH (Ej (xs:=[.tmp 27]) (es:=map JW [ak.Name]) JQ Z Z Z Z Z ⟨Z,trivial⟩ Z Z) ?_)));refine FE Z (Bd d λbg M d=>vH (Qg (e:=JW) M JQ EV (QM (i:=2))) ?_);exact Fg 9 Z Z (Qf d (Lr [0,3]))
 refine Gx 1 Z (Qd l (Gc 2 Z (vH (Ej (xs:=[]) (es:=map JW []) JQ Z Z Z Z Z trivial Z Z) ?_)));refine Fg 9 Z Z (Bd h λp al h=>Ct p [0,1,2] [1,3] (λp=>[(5,.osl 2 0 p.length 1)]) (λp=>[(2,.row 9 1 (map JW p))]) Zf ?_ (λenv H l=>?_))
 .refine G0 1 Z (Lp [0,1,2] [1,3] (λq=>[(5,.osl 2 0 q.1.length 1),(6,I q.2)]) (λq=>[(2,.row 9 1 (map JW q.1))]) al Zf (Lr [0,1,2]) λq bh f N=>?_);refine G0 6 Z (Lg 3 Z Z (Yd Z f (λO f=>?_) (λO f=>?_)))
  .exact Gc 2 Z (Qh f (Gx 1 Z (cQo N f (Lr [0,1,2]))))
  refine Gc 9 Z (Bd f λam P f=>Iz P Z (Go 2 Z (vH (Ej (xs:=[.tmp 44]) (es:=map JW [am.Name]) JQ Z Z Z Z Z ⟨Z,trivial⟩ Z Z) ?_)));refine FE Z (Bd f λbi Q f=>vH (Qg (e:=JW) Q JQ EV (QM (i:=3))) ?_);exact Fg 9 Z Z (Qf f (Lr [0,1,4]))
 refine Gx 1 Z (Qd l (Gc 2 Z (vH (Ej (xs:=[]) (es:=map JW []) JQ Z Z Z Z Z trivial Z Z) ?_)));refine Fg 9 Z Z (Bd h λs an h=>Ct s [0,1,2,3] [1,3,5] (λs=>[(7,.osl 3 0 s.length 1)]) (λs=>[(3,.row 9 1 (map JW s))]) Zf ?_ (λenv H l=>?_))
 .refine G0 1 Z (Lp [0,1,2,3] [1,3,5] (λt=>[(7,.osl 3 0 t.1.length 1),(8,I t.2)]) (λt=>[(3,.row 9 1 (map JW t.1))]) an Zf (Lr [0,1,2,3]) λt bj g R=>?_);refine G0 6 Z (Lg 3 Z Z (Yd Z g (λT g=>?_) (λT g=>?_)))
  .exact Gc 2 Z (Qh g (Gx 1 Z (cQo R g (Lr [0,1,2,3]))))
  refine Gc 9 Z (Bd g λao V g=>Iz V Z (Go 2 Z (vH (Ej (xs:=[.tmp 61]) (es:=map JW [ao.Name]) JQ Z Z Z Z Z ⟨Z,trivial⟩ Z Z) ?_)));refine FE Z (Bd g λbk W g=>vH (Qg (e:=JW) W JQ EV (QM (i:=4))) ?_);exact Fg 9 Z Z (Qf g (Lr [0,1,2,5]))
 refine Gx 1 Z (Qd l (Gc 2 Z (vH (Ej (xs:=[]) (es:=map JW []) JQ Z Z Z Z Z trivial Z Z) ?_)));refine Fg 9 Z Z (Bd h λu aq h=>Ct u [0,1,2,3,4] [1,3,5,7] (λu=>[(9,.osl 4 0 u.length 1)]) (λu=>[(4,.row 9 1 (map JW u))]) Zf ?_ (λenv H l=>?_))
 .refine G0 1 Z (Lp [0,1,2,3,4] [1,3,5,7] (λw=>[(9,.osl 4 0 w.1.length 1),(10,I w.2)]) (λw=>[(4,.row 9 1 (map JW w.1))]) aq Zf (Lr [0,1,2,3,4]) λw bl j X=>?_);refine G0 6 Z (Lg 3 Z Z (Yd Z j (λY j=>?_) (λY j=>?_)))
  .exact Gc 2 Z (Qh j (Gx 1 Z (cQo X j (Lr [0,1,2,3,4]))))
  refine Gc 9 Z (Bd j λar aa j=>Iz aa Z (Go 2 Z (vH (Ej (xs:=[.tmp 78]) (es:=map JW [ar.Name]) JQ Z Z Z Z Z ⟨Z,trivial⟩ Z Z) ?_)));refine FE Z (Bd j λbm ab j=>vH (Qg (e:=JW) ab JQ EV (QM (i:=5))) ?_);exact Fg 9 Z Z (Qf j (Lr [0,1,2,3,6]))
 refine Gx 1 Z (Qd l (Gc 2 Z (vH (Ej (xs:=[]) (es:=map JW []) JQ Z Z Z Z Z trivial Z Z) ?_)));refine Fg 9 Z Z (Bd h λx au h=>Ct x [0,1,2,3,4,5] [1,3,5,7,9] (λx=>[(11,.osl 5 0 x.length 1)]) (λx=>[(5,.row 9 1 (map JW x))]) Zf ?_ (λenv H l=>?_))
 .refine G0 1 Z (Lp [0,1,2,3,4,5] [1,3,5,7,9] (λy=>[(11,.osl 5 0 y.1.length 1),(12,I y.2)]) (λy=>[(5,.row 9 1 (map JW y.1))]) au Zf (Lr [0,1,2,3,4,5]) λy bn k ac=>?_);refine G0 6 Z (Lg 3 Z Z (Yd Z k (λae k=>?_) (λae k=>?_)))
  .exact Gc 2 Z (Qh k (Gx 1 Z (cQo ac k (Lr [0,1,2,3,4,5]))))
  refine Gc 9 Z (Bd k λav af k=>Iz af Z (Go 2 Z (vH (Ej (xs:=[.tmp 95]) (es:=map JW [av.Name]) JQ Z Z Z Z Z ⟨Z,trivial⟩ Z Z) ?_)));refine FE Z (Bd k λbo ag k=>vH (Qg (e:=JW) ag JQ EV (QM (i:=6))) ?_);exact Fg 9 Z Z (Qf k (Lr [0,1,2,3,4,7]))
 refine Gx 1 Z (Qd l (Gc 1 Z (Bd h λB a h=>Cg B [] [] (λB=>[(2,.bool B)]) Ze Zf ?_ ?_)))
 .refine G0 3 Z (Cz [] a (k_bz _ _) Z λbp az a=>Go 1 Z (Is 101 a Z (λah a=>?_) (λah a=>?_)))
  .refine Go 1 Z (Cb a (QoF _ _) Z (lo ln) λbq ba a=>Go 2 Z (Is 105 a Z (λai a=>?_) (λai a=>?_)))
   .refine Go 1 Z (Cb a (QoF _ _) Z (lo ln) λbr bb a=>Go 2 Z (Is 109 a Z (λaj a=>?_) (λaj a=>?_)))
    .refine Go 1 Z (Cb a (QoF _ _) Z (lo ln) λbc aw a=>Go 2 Z (Is 113 a Z (λE a=>?_) (λE a=>?_)))
     .refine Go 1 Z (Cb a (QoF _ _) Z (lo ln) λbd ax a=>Go 2 Z (Is 117 a Z (λF a=>?_) (λF a=>?_)))
      .exact Go 1 Z (Cb a (QoF _ _) Z (lo ln) λbe ay a=>Gl 3 Z a [])
      .exact Gl 5 Z a []
     .exact Gl 9 Z a []
    .exact Gl 13 Z a []
   .exact Gl 17 Z a []
  .exact Gl 21 Z a []
 exact QG 1 Z h 2 []
def F_c(n:Nat)(a:Int)(d:Int)(e:Int):Option Bool:=((bif decide (d<=a)then some (decide (a<=e))else some false):Option Bool).bind λb2=>some b2
theorem k_c(n:Nat)(d:Int)(e:Int)(f:Int):Ks (F_c n d e f) 129 [I d,I e,I f] [] (λr=>.bool r):=by
 refine Kg 6 func129 Z Z Z Z λr h=>Bd h λb2 a h=>Cg b2 [] [] (λb2=>[(6,.bool b2)]) Ze Zf ?_ ?_
 .refine G0 5 Z (Is 10 a Z (λg a=>?_) (λg a=>?_))
  iterate 2 exact Gl 6 Z a []
 exact QG 1 Z h 6 []
end Go.Sw
