/- What the functions compute that ProtestsOpen reaches, and that their calls refine it (part 3 of 3). -/
import Derived.Test.YthihlfoplokmiaaGreatDoorW21Op2
set_option linter.unusedVariables false
set_option linter.unusedSimpArgs false
set_option maxRecDepth 100000
set_option maxHeartbeats 4000000
namespace Go.Sw
open Go.Proofs Tryz
def F_hm(n:Nat)(f:List (Int×Fact))(b:List Int)(a:(List Fact)×Int):Option (Ctl ((List Fact)×Int) (List Fact)):=
  (bif decide (a.2<(b.length:Int))then(idx b a.2).bind λc=>(some (Qo f c Uk)).bind λd=>(app a.1 [d]).bind λe=>some (.cont (e,IntKind.i64.wrap (a.2+1)))else some (.done a.1))
def F_az(n:Nat)(a:List (Int×Fact)):Option (List Fact):=
  (F_dv n a).bind λd=>(F_cd n a).bind λc=>(iter (F_hm n a c) n ([],0):Option (List Fact)).bind λb=>some b
theorem k_az(n:Nat)(g:List (Int×Fact))(r:List Fact)(h:F_az n g=some r):
    C prog 73 [.map 0] [.map (Qk (λx=>A.int .i64 x) (λx=>A.agg (Fact.c x)) g)] (RQ (λr=>.osl 1 0 r.length 57) (λr=>[.fmap (Qk (λx=>A.int .i64 x) (λx=>A.agg (Fact.c x)) g),.row 68 57 (List.map Fact.c r)]) r):=by
 refine Qb func73 Z Z Z ?_;refine G0 9 Z (Cd [0] h (k_dv _ _) Z λJ B h=>FE Z (Cd [1,0] h (k_cd _ _) Z λL E h=>FE Z (Go 4 Z (Bd h λd y h=>?_))));refine Ct d [0,1] [] (λd=>[(2,.osl 1 0 d.length 57)]) (λd=>[(1,.row 68 57 (List.map Fact.c d))]) Zf ?_ (λenv H z=>?_)
 .refine G0 1 Z ?_;refine Lp [0,0,2] [0,7,8] (λb=>[(2,.osl 1 0 b.1.length 57),(9,I b.2)]) (λb=>[(1,.row 68 57 (List.map Fact.c b.1))]) y Zf ?_ ?_
  .refine Em (Ep (s:=2) (k:=57) (t:=68) (XS Z) Z) ?_;exact Lr [0,3,2]
  intro b F a p;refine G0 6 Z (Jl Z a (λq a=>?_) (λq a=>?_))
  .refine Gc 2 Z (Qy a ?_);obtain rfl:=Oj p a;exact Gx 1 Z (QH (Lr [0,1]))
  refine Gc 6 Z (Bd a λj f a=>?_);refine vX (.ptr 2 (Int.toNat b.2*1)) (Q7 f Z runUnderlying40 sizeOf3) ?_;refine vX (I j) (Ey Z isAgg3 Z (Qu f)) ?_;refine Go 7 Z (Bd a λm u a=>?_);refine vX (.agg (Fact.c m)) (Qln (ev:=(λx=>A.agg (Fact.c x))) (z0:=Uk) (k:=j) (l:=g) YR u underlying147 zeroValue68 (zrC Z)) ?_;refine vH (Ek (xs:=[.tmp 16]) (es:=List.map Fact.c [m]) Qab Z Z Z Z Z ⟨Z,trivial⟩ Z Z) ?_;refine FE Z (Bd a λG w a=>?_);refine vH (QR (e:=Fact.c) w Qab runUnderlying34 (Jy (i:=3))) ?_;exact FE Z (Go 8 Z (Qt a (Lr [0,4,2])))
 exact Gx 1 Z (Ef z (Gc 7 Z (Rt h 2 [0,1])))
def F_go(n:Nat)(k:Course)(l:List Fact)(a:(List (Int×Fact))×Int):Option (Ctl ((List (Int×Fact))×Int) (List (Int×Fact))):=
  (bif decide (a.2<(l.length:Int))then((idx l a.2).bind λb=>((bif (b.Kind != 1)then some true else(F_o n b).bind λc=>(bif (c != 0)then some true else(bif decide ((k.Distances.length:Int)<=b.Starter.Distance)then some true else some (decide ((k.Waves.length:Int)<=b.Starter.Wave))))):Option Bool).bind λd=>(bif d then some a.1 else(some (Qo a.1 b.Starter.Bib Uk)).bind λe=>((bif (!(Qbr a.1 b.Starter.Bib))then some true else(F_r n b e).bind λf=>some (decide (f<0))):Option Bool).bind λg=>((bif g then(some (QO a.1 b.Starter.Bib b)).bind λh=>some h else some a.1):Option (List (Int×Fact))).bind λi=>some i):Option (List (Int×Fact))).bind λj=>some (.cont (j,IntKind.i64.wrap (a.2+1)))else some (.done a.1))
def F_bz(n:Nat)(c:List Fact)(a:(List Starter)×(List (Int×Bool))×Int):Option (Ctl ((List Starter)×(List (Int×Bool))×Int) (Ctl (List Starter) ((List Starter)×Int))):=
  (bif decide (a.2.2<(c.length:Int))then(idx c a.2.2).bind λb=>(some (Qo a.2.1 b.Starter.Chip false)).bind λd=>(bif d then some (.done (.done ([],180)))else(some (QO a.2.1 b.Starter.Chip true)).bind λe=>(app a.1 [b.Starter]).bind λf=>some (.cont (f,e,IntKind.i64.wrap (a.2.2+1))))else some (.done (.cont a.1)))
def F_ax(n:Nat)(e:Course)(g:List Fact):Option ((List Starter)×Int):=
  (F_h n e).bind λf=>(bif (f != 0)then some ([],f)else(iter (F_go n e g) n ([],0):Option (List (Int×Fact))).bind λb=>(bif decide (4000<(b.length:Int))then some ([],2)else(F_az n b).bind λc=>(iter (F_bz n c) n ([],[],0):Option (Ctl (List Starter) ((List Starter)×Int))).bind λd=>match d with|.cont a=>(some (a,0))|.done a=>some a))
theorem k_ax(n:Nat)(a1:Course)(a2:List Fact)(r:(List Starter)×Int)(h:F_ax n a1 a2=some r):
    C prog 33 [.agg (Course.c a1),.rsl 57 (List.map Fact.c a2)] [] (RQ (λr=>.tup [.osl 0 0 r.1.length 8,I r.2]) (λr=>[.row 46 8 (List.map Starter.c r.1)]) r):=by
 refine Qb func33 Z Z Z ?_;refine G0 11 Z (Cz [] h (k_h _ _) Z λr1 bd h=>Go 9 Z (Cn Z h (λan h=>?_) (λan h=>?_)))
 .refine Gc 9 Z ?_;obtain rfl:=Oi h;refine R2 4 5 Z Z ?_;refine Em (Ep (s:=4) (k:=8) (t:=46) (XS Z) Z) ?_;exact Lr [1]
 refine Gc 4 Z ?_;refine vH Q6 ?_;refine FE Z (Go 7 Z (Lm Z (Go 3 Z (Bd h λy ai h=>?_))));refine Ct y [1] [4,7] Ze (λy=>[(0,.map (Qk (λx=>A.int .i64 x) (λx=>A.agg (Fact.c x)) y))]) Zf ?_ (λenv H j=>?_)
 .refine G0 1 Z ?_;refine Lp [0,1] [2,4,7,22,23] (λp=>[(24,I p.2)]) (λp=>[(1,.map (Qk (λx=>A.int .i64 x) (λx=>A.agg (Fact.c x)) p.1))]) ai Zf (Lr [0,1]) λp av m N=>?_;refine G0 6 Z (Jl Z m (λO m=>?_) (λO m=>?_))
  .refine Gc 2 Z (Qy m ?_);obtain rfl:=Oj N m;exact Gx 1 Z (QH (Lr [1]))
  refine Gc 3 Z (Bd m λE d m=>?_);refine Ct E [0,1] [2,4,7,22,23,24] Ze (λE=>[(1,.map (Qk (λx=>A.int .i64 x) (λx=>A.agg (Fact.c x)) E))]) Zf ?_ (λenv H j=>?_)
  .refine G0 3 Z (Bd d λz P d=>Iz P Z (Go 15 Z (Bd d λF f d=>?_)));refine Ct F [0,1,2,3] [2,4,7,9,10,22,23,24] (λF=>[(53,.bool F)]) Ze Zf ?_ (λenv H j=>?_)
   .refine G0 5 Z (Is 33 f Z (λQ f=>?_) (λQ f=>?_))
    .exact Go 21 Z (Cl f [0,1,2,3])
    .refine Go 1 Z (Cz [] f (k_o _ _) Z λaw aq f=>Go 3 Z (Is 38 f Z (λR f=>?_) (λR f=>?_)))
     .exact Go 16 Z (Cl f [0,1,2,3])
     .refine Go 4 Z (Lm Z (Go 3 Z (Is 46 f Z (λT f=>?_) (λT f=>?_))))
      .exact Go 8 Z (Cl f [0,1,2,3])
      .exact Go 4 Z (Lm Z (Go 3 Z (Cl f [0,1,2,3])))
   refine Gx 1 Z (Ef j (Cn Z d (λV d=>?_) (λV d=>?_)))
   .exact Gc 3 Z (Cl d [0,1])
   refine Gc 7 Z (Bd d λaj W d=>?_);refine vX (.tup [.agg (Fact.c aj),.bool (Qbr p.1 z.Starter.Bib)]) (QjG (ev:=(λx=>A.agg (Fact.c x))) (z0:=Uk) (k:=z.Starter.Bib) (l:=p.1) YR W underlying147 zeroValue68 (zrC Z)) ?_;refine Go 9 Z (Bd d λG q d=>?_);refine Ct G [0,1,2,3] [2,4,7,9,10,22,23,24] (λG=>[(68,.bool G)]) Ze Zf ?_ (λenv H j=>?_)
   .refine G0 4 Z (Is 63 q Z (λX q=>?_) (λX q=>?_))
    .exact Go 6 Z (Cl q [0,1,2,3])
    .exact Go 2 Z (Cz [] q (k_r _ _ _) Z λax ar q=>Go 3 Z (Cl q [0,1,2,3]))
   refine Gx 1 Z (Ef j (Bd d λJ u d=>?_));refine Ct J [0,1] [2,4,7,22,23,24] Ze (λJ=>[(1,.map (Qk (λx=>A.int .i64 x) (λx=>A.agg (Fact.c x)) J))]) Zf ?_ (λenv H j=>?_)
   .refine G0 0 Z (Cn Z u (λY u=>?_) (λY u=>?_))
    .refine Gc 5 Z (Bd u λay aa u=>?_);refine vU (Yr (ev:=(λx=>A.agg (Fact.c x))) (k:=z.Starter.Bib) (v:=z) (l:=p.1) YR aa Z underlying147) ?_;exact FE Z (Go 1 Z (Cl u [0,1]))
    exact Gc 1 Z (Cl u [0,1])
   refine Gx 1 Z ?_;cases d;exact QH (Em j (Lr [0,1]))
  exact Gx 1 Z (Ef j (Gc 4 Z (Qt m (Lr [0,1]))))
 refine Gx 1 Z (Ef j (Gc 4 Z ?_));refine vX (I (y.length:Int)) (QbE (l:=y) underlying147 Z) ?_;refine Go 3 Z (Cn Z h (λab h=>?_) (λab h=>?_))
 .refine Gc 8 Z ?_;obtain rfl:=Oi h;refine R2 4 5 Z Z ?_;refine Em (Ep (s:=4) (k:=8) (t:=46) (XS Z) Z) ?_;exact Lr [1]
 refine Gc 4 Z ?_;refine vH Q6 ?_;refine FE Z (Go 7 Z (Cd [0] h (k_az _ _) Z λaz au h=>FE Z (Go 4 Z (Bd h λak al h=>?_))));refine CtE (b:=ak) [0] [] (λw=>[(4,.osl 0 0 w.length 8)]) (λw=>[(0,.row 46 8 (List.map Starter.c w))]) Zf ?_ (λw env H ao j=>?_)
 .refine G0 1 Z ?_;refine Lp [0,1,2] [13,79,80] (λg=>[(4,.osl 0 0 g.1.length 8),(81,I g.2.2)]) (λg=>[(0,.row 46 8 (List.map Starter.c g.1)),(1,.map (Qk (λx=>A.int .i64 x) A.bool g.2.1))]) al Zf ?_ ?_
  .refine Em (Ep (s:=4) (k:=8) (t:=46) (XS Z) Z) ?_;exact Lr [3,1,2]
  intro g ba a L;refine G0 6 Z (Jl Z a (λac a=>?_) (λac a=>?_))
  .refine Gc 2 Z (Qy a ?_);obtain rfl:=Oj L a;exact Gx 1 Z (QI Z (Lr [0]))
  refine Gc 6 Z (Bd a λB M a=>?_);refine vX (.ptr 2 (Int.toNat g.2.2*57)) (Q7 M Z runUnderlying34 sizeOf68) ?_;refine vX (.agg (Fact.c B)) (Qh Z isAgg68 sizeOf68 Z (Qu M) Z Z) ?_;refine Go 11 Z (Bd a λam ae a=>?_);refine vX (.bool am) (Yj (ev:=A.bool) (z0:=false) (k:=B.Starter.Chip) (l:=g.2.1) YR ae underlying78 zeroValue4 ZR.bool) ?_;refine Go 2 Z (Cn Z a (λaf a=>?_) (λaf a=>?_))
  .refine Gc 10 Z (Yt a ?_);obtain rfl:=Oj L a;refine Gx 1 Z (Q4 (Gx 1 Z ?_));obtain rfl:=Oi h;refine R2 4 5 Z Z ?_;refine Em (Ep (s:=4) (k:=8) (t:=46) (XS Z) Z) ?_;exact Lr [4]
  refine Gc 8 Z (Bd a λbb ag a=>?_);refine vU (Yr (ev:=A.bool) (k:=B.Starter.Chip) (v:=true) (l:=g.2.1) YR ag Z underlying78) ?_;refine FE Z (Go 6 Z ?_);refine vH (Ek (xs:=[.tmp 96]) (es:=List.map Starter.c [B.Starter]) Qoz Z Z Z Z Z ⟨Z,trivial⟩ Z Z) ?_;refine FE Z (Bd a λbc ah a=>?_);refine vH (QR (e:=Starter.c) ah Qoz runUnderlying95 (Jy (i:=4))) ?_;exact FE Z (Go 8 Z (Qt a (Lr [5,1,2])))
 subst ao;refine Gx 1 Z (Ef j (Gc 8 Z ?_));obtain rfl:=Oi h;exact R2 4 5 Z Z (Lr [0])
def F_di(n:Nat)(a:Starter)(b:Protest)(c:List (Int×Bool)):Option Bool:=
  ((bif (a.Bib==b.By)then(some (Qo c a.Distance false)).bind λd=>some d else some false):Option Bool).bind λe=>some e
theorem k_di(n:Nat)(b:Starter)(f:Protest)(d:List (Int×Bool))(r:Bool)(h:F_di n b f d=some r):
    Csm prog 35 [.agg (Starter.c b),.ptr 0 0,.ptr 1 0] [.cells 36 (Protest.c f),.cells 78 [.map 2],.map (Qk (λx=>A.int .i64 x) A.bool d)] (λr=>.bool r) r:=by
 refine Qb func35 Z Z Z ?_;refine G0 7 Z (Bd h λe a h=>?_);refine Ct e [0,1,2] [] (λe=>[(4,.bool e)]) Ze Zf ?_ (λenv H g=>?_)
 .refine G0 7 Z (Is 10 a Z (λi a=>?_) (λi a=>?_))
  .refine Go 3 Z (Bd a λm j a=>?_);refine vX (.bool m) (Yj (ev:=A.bool) (z0:=false) (k:=b.Distance) (l:=d) YR j underlying78 zeroValue4 ZR.bool) ?_ (gT Z);exact Go 3 Z (Cl a [0,1,2])
  .exact Go 7 Z (Cl a [0,1,2])
 exact Gx 1 Z (Ef g (Gc 1 Z (Rt h 4 [0,1,2])))
def F_hn(n:Nat)(b:List Starter)(e:Protest)(f:List (Int×Bool))(a:Int):Option (Ctl Int (Ctl Unit Int)):=
  (bif decide (a<(b.length:Int))then(idx b a).bind λc=>(F_di n c e f).bind λd=>(bif d then some (.done (.done a))else some (.cont (IntKind.i64.wrap (a+1))))else some (.done (.cont ())))
def F_fp(n:Nat)(c:List Starter)(d:Protest)(e:List (Int×Bool)):Option Int:=
  (iter (F_hn n c d e) n 0:Option (Ctl Unit Int)).bind λb=>match b with|.cont a=>(some (-1))|.done a=>some a
theorem k_fp(n:Nat)(g:List Starter)(k:Protest)(l:List (Int×Bool))(r:Int)(h:F_fp n g k l=some r):
    Csm prog 74 [.osl 0 0 g.length 8,.fn (.func 35) [] [.ptr 1 0,.ptr 2 0]] [.row 46 8 (List.map Starter.c g),.cells 36 (Protest.c k),.cells 78 [.map 3],.map (Qk (λx=>A.int .i64 x) A.bool l)] (λr=>I r) r:=by
 refine Qb func74 Z Z Z ?_;refine G0 13 Z (Bd h λm p h=>?_);refine CtE (b:=m) [0,1,2,3] [] Ze Ze Zf ?_ (λu env H q s=>?_)
 .refine G0 1 Z ?_;refine Lp [0,1,2,3] [0,1,7] (λd=>[(8,I d)]) Ze p Zf (Lr [0,1,2,3]) λd y a e=>?_;refine G0 6 Z (Jl Z a (λi a=>?_) (λi a=>?_))
  .refine Gc 2 Z (Qy a ?_);obtain rfl:=Oj e a;exact Gx 1 Z (QI Z (Lr [0,1,2,3]))
  refine Gc 15 Z (Bd a λt f a=>?_);refine vX (.ptr 0 (Int.toNat d*8)) (Q7 f Z runUnderlying95 sizeOf46) ?_;refine vX (.agg (Starter.c t)) (Qh Z isAgg46 sizeOf46 Z (Qu f) Z Z) ?_;refine Cz [1,2,3] a (k_di _ _ _ _) Z λz w a=>Go 2 Z (Cn Z a (λj a=>?_) (λj a=>?_))
  .refine Gc 9 Z (Yt a ?_);obtain rfl:=Oj e a;exact Gx 1 Z (Q4 (Gx 1 Z (Rt h 4 [0,1,2,3])))
  exact Gc 7 Z (Qt a (Lr [0,1,2,3]))
 subst q;exact Gx 1 Z (Ef s (Gc 6 Z (Rt h 4 [0,1,2,3])))
def F_dy(n:Nat)(a:List Starter)(b:Protest)(c:List (Int×Bool)):Option Bool:=
  (F_fp n a b c).bind λd=>some (decide (0<=d))
theorem k_dy(n:Nat)(a:List Starter)(b:Protest)(d:List (Int×Bool))(r:Bool)(h:F_dy n a b d=some r):
    Csm prog 34 [.osl 0 0 a.length 8,.fn (.func 35) [] [.ptr 1 0,.ptr 2 0]] [.row 46 8 (List.map Starter.c a),.cells 36 (Protest.c b),.cells 78 [.map 3],.map (Qk (λx=>A.int .i64 x) A.bool d)] (λr=>.bool r) r:=by
 refine Qb func34 Z Z Z ?_;exact G0 9 Z (Cz [0,1,2,3] h (k_fp _ _ _ _) Z λf e h=>Go 5 Z (Rt h 4 [0,1,2,3]))
def F_gr(n:Nat)(c:(List (Int×Bool))×Bool)(a:Fact):Option (Ctl ((List (Int×Bool))×Bool) Bool):=
  (some (QO c.1 (IntKind.i64.wrap (a.Report.Bib+a.Ruling.Bib)) true)).bind λb=>some (.cont (b,true))
def F_hi(n:Nat)(d:List (Int×Bool))(b:(List Starter)×Int)(a:(List (Int×Bool))×Int):Option (Ctl ((List (Int×Bool))×Int) (List (Int×Bool))):=
  (bif decide (a.2<(b.1.length:Int))then(idx b.1 a.2).bind λc=>(some (Qo d c.Bib false)).bind λe=>((bif e then(some (QO a.1 c.Distance true)).bind λf=>some f else some a.1):Option (List (Int×Bool))).bind λg=>some (.cont (g,IntKind.i64.wrap (a.2+1)))else some (.done a.1))
def F_u(n:Nat)(j:Course)(e:List Fact)(b:Protest):Option Bool:=
  (F_v n e b.Case).bind λl=>(F_y n e b.Case).bind λy2=>(Qci (F_gr n) y2.1 ([],false):Option (Ctl ((List (Int×Bool))×Bool) Bool)).bind λk=>match k with|.cont a=>((some (mdel a.1 0)).bind λd=>((bif (!a.2)then some true else(bif (b.By==0)then some true else(some (Qo d b.By false)).bind λf=>some f)):Option Bool).bind λg=>(bif g then some a.2 else(F_ax n j e).bind λc=>(bif (c.2 != 0)then some false else(iter (F_hi n d c) n ([],0):Option (List (Int×Bool))).bind λh=>(F_dy n c.1 b h).bind λi=>some i)))|.done a=>some a
theorem k_u(n:Nat)(u:Course)(T:List Fact)(g:Protest)(r:Bool)(h:F_u n u T g=some r):
    Csm prog 15 [.agg (Course.c u),.rsl 57 (List.map Fact.c T),.agg (Protest.c g)] [] (λr=>.bool r) r:=by
 refine Qb func15 Z Z Z ?_;refine G0 9 Z ?_;refine vH Q6 ?_;refine FE Z (Go 16 Z (Cd [] h (k_v _ _ _) Z λr1 af h=>FE Z (Go 3 Z (Bd h λy2 hy2 h=>Bd h λD9 V h=>?_))));refine QdF [5,6] (λw=>[.cells 33 (Course.c u),.cells 36 (Protest.c g),.map (Qk (λx=>A.int .i64 x) A.bool w.1),.cells 78 [.map 2],.cells 4 [.bool w.2],.dead,.dead]) V (k_y _ _ _ _ hy2) Zf call71 Z Z Z Z (by decide) Z (Lr [0,1,2,3,4,5,6]) ?_ ?_
 .intro w W ag i ab;refine G0 4 Z (And.intro Z ?_);refine G0 15 Z (Bd i λah B i=>?_);refine vU (Yr (ev:=A.bool) (k:=(IntKind.i64.wrap (W.Report.Bib+W.Ruling.Bib))) (v:=true) (l:=w.1) YR B Z underlying78) ?_;exact FE Z (Go 2 Z (QgL i (Lr [0,1,2,3,4,5,6])))
 rintro y rfl;refine Gx 5 Z (Bd h λj E h=>?_);refine vN (OpH.mdel (ev:=A.bool) (k:=0) (l:=y.1) YR E underlying78) ?_;refine QdD (H:=[.cells 33 (Course.c u),.cells 36 (Protest.c g),.map (Qk (λx=>A.int .i64 x) A.bool j),.cells 78 [.map 2],.cells 4 [.bool y.2],.dead,.dead]) Z ?_;refine Go 4 Z (Bd h λm b h=>?_);refine Ct m [0,1,3,2,4] [1,3,5,7,8] (λm=>[(42,.bool m)]) (λ_=>[(2,.cells 78 [.map 3])]) Zf ?_ (λenv H f=>?_)
 .refine G0 4 Z (Is 32 b Z (λF b=>?_) (λF b=>?_))
  .exact Go 11 Z (Cl b [0,1,3,2,4])
  .refine Go 5 Z (Is 37 b Z (λG b=>?_) (λG b=>?_))
   .exact Go 6 Z (Cl b [0,1,3,2,4])
   .refine Go 3 Z (Bd b λX J b=>?_);refine vX (.bool X) (Yj (ev:=A.bool) (z0:=false) (k:=g.By) (l:=j) YR J underlying78 zeroValue4 ZR.bool) ?_ (gT Z);exact Go 2 Z (Cl b [0,1,3,2,4])
 refine Gx 1 Z (Ef f (Cn Z h (λL h=>?_) (λL h=>?_)))
 .exact Gc 8 Z (Rt h 6 [])
 refine Gc 6 Z (Cd [] h (k_ax _ _ _) Z λz ac h=>FE Z (Go 14 Z (Cn Z h (λM h=>?_) (λM h=>?_))))
 .exact Gc 7 Z (Rt h 6 [])
 refine Gc 4 Z ?_;refine vH Q6 ?_;refine FE Z (Go 12 Z (Bd h λp Y h=>?_));refine Ct p [0,3,4,5] [] (λ_=>[(5,.ptr 0 0),(10,.osl 1 0 z.1.length 8),(12,.ptr 2 0)]) (λp=>[(0,.cells 36 (Protest.c g)),(1,.row 46 8 (List.map Starter.c z.1)),(2,.cells 78 [.map 3]),(3,.map (Qk (λx=>A.int .i64 x) A.bool p))]) Zf ?_ (λenv H f=>?_)
 .refine G0 1 Z ?_;refine Lp [1,2,3,5,7,6] [5,7,10,12,53,54] (λe=>[(55,I e.2)]) (λe=>[(1,.cells 78 [.map 2]),(4,.cells 78 [.map 5]),(5,.map (Qk (λx=>A.int .i64 x) A.bool e.1))]) Y Zf (Lr [1,2,3,5,7,6]) λe ai a N=>?_;refine G0 6 Z (Jl Z a (λO a=>?_) (λO a=>?_))
  .refine Gc 2 Z (Qy a ?_);obtain rfl:=Oj N a;exact Gx 1 Z (QH (Lr [0,3,4,5]))
  refine Gc 6 Z (Bd a λq s a=>?_);refine vX (.ptr 3 (Int.toNat e.2*8)) (Q7 s Z runUnderlying95 sizeOf46) ?_;refine vX (.agg (Starter.c q)) (Qh Z isAgg46 sizeOf46 Z (Qu s) Z Z) ?_;refine Go 9 Z (Bd a λaa P a=>?_);refine vX (.bool aa) (Yj (ev:=A.bool) (z0:=false) (k:=q.Bib) (l:=j) YR P underlying78 zeroValue4 ZR.bool) ?_;refine Go 2 Z (Bd a λt d a=>?_);refine Ct t [0,1,2,3,4,5] [5,7,10,12,53,54,55] Ze (λt=>[(5,.map (Qk (λx=>A.int .i64 x) A.bool t))]) Zf ?_ (λenv H f=>?_)
  .refine G0 0 Z (Cn Z d (λQ d=>?_) (λQ d=>?_))
   .refine Gc 4 Z (Bd d λaj R d=>?_);refine vU (Yr (ev:=A.bool) (k:=q.Distance) (v:=true) (l:=e.1) YR R Z underlying78) ?_;exact FE Z (Go 1 Z (Cl d [0,1,2,3,4,5]))
   exact Gc 1 Z (Cl d [0,1,2,3,4,5])
  exact Gx 2 Z (Ef f (Gc 4 Z (Qt a (Lr [0,1,2,3,4,5]))))
 exact Gx 1 Z (Ef f (Gc 4 Z (Cz [1,0,2,3] h (k_dy _ _ _ _) Z λak ae h=>Go 4 Z (Rt h 6 []))))
def F_df(n:Nat)(a:Course)(b:List Fact)(c:Protest):Option Bool:=
  (F_u n a b c).bind λd=>some d
theorem k_df(n:Nat)(a:Course)(b:List Fact)(d:Protest)(r:Bool)(h:F_df n a b d=some r):
    Csm prog 46 [.ptr 0 0,.ptr 1 0,.ptr 2 0] [.cells 33 (Course.c a),.cells 34 [.rsl 57 (List.map Fact.c b)],.cells 36 (Protest.c d)] (λr=>.bool r) r:=by
 refine Qb func46 Z Z Z ?_;exact G0 10 Z (Cz [] h (k_u _ _ _ _) Z λf e h=>Go 4 Z (Rt h 3 [0,1,2]))
def F_cv(n:Nat)(a:Course)(b:List Fact)(c:Protest):Option Bool:=
  (F_df n a b c).bind λd=>some (!d)
theorem k_cv(n:Nat)(a:Course)(b:List Fact)(d:Protest)(r:Bool)(h:F_cv n a b d=some r):
    Csm prog 48 [.agg [.fn (.func 46) [] [.ptr 0 0,.ptr 1 0,.ptr 2 0]]] [.cells 33 (Course.c a),.cells 34 [.rsl 57 (List.map Fact.c b)],.cells 36 (Protest.c d)] (λr=>.bool r) r:=by
 refine Qb func48 Z Z Z ?_;exact G0 10 Z (Cz [0,1,2] h (k_df _ _ _ _) Z λf e h=>Go 5 Z (Rt h 2 [0,1,2]))
def F_dx(n:Nat)(a:Protest)(b:Course)(c:List Fact)(d:Fact):Option Int:=
  (F_dm n a).bind λh=>(bif (!(a.Form==1))then some 0 else(F_db n a b).bind λe=>(bif e then some 1 else(F_bc n b c a d).bind λf=>(bif f then some 2 else(F_cv n b c a).bind λg=>(bif g then some 3 else some (-1)))))
theorem k_dx(n:Nat)(a:Protest)(b:Course)(d:List Fact)(g:Fact)(r:Int)(h:F_dx n a b d g=some r):
    Csm prog 76 [.osl 0 0 4 1,.fn (.func 48) [] []] [.rowr 107 1 [[.fn (.func 43) [] [.ptr 1 0]],[.fn (.func 44) [] [.ptr 1 0,.ptr 2 0]],[.fn (.func 45) [] [.ptr 2 0,.ptr 3 0,.ptr 1 0,.ptr 4 0]],[.fn (.func 46) [] [.ptr 2 0,.ptr 3 0,.ptr 1 0]]],.cells 36 (Protest.c a),.cells 33 (Course.c b),.cells 34 [.rsl 57 (List.map Fact.c d)],.cells 68 (Fact.c g)] (λr=>I r) r:=by
 refine Qb func76 Z Z Z ?_;refine G0 17 Z ?_;refine vX (.bool true) (OpV.lss (m:=0) (n:=4) Z Z Z) ?_;refine Go 19 Z ?_;refine vX (.ptr 0 0) (Qes (j:=0) Z Z runUnderlying108 sizeOf107) ?_;refine vX (.agg [.fn (.func 43) [] [.ptr 1 0]]) (Qh Z isAgg107 sizeOf107 Z (Qcc (e:=0) (f:=0) Z) Z Z) ?_;refine Cz [1] h (k_dm _ _) Z λw q h=>Go 2 Z (Cn Z h (λi h=>?_) (λi h=>?_))
 .exact Gc 12 Z (Rt h 4 [0,1,2,3,4])
 refine Gc 4 Z ?_;refine vX (I 1) (OpV.add (m:=0) (n:=1) Z Z Z) ?_;refine Go 5 Z ?_;refine vX (.bool true) (OpV.lss (m:=1) (n:=4) Z Z Z) ?_;refine Go 19 Z ?_;refine vX (.ptr 0 1) (Qes (j:=1) Z Z runUnderlying108 sizeOf107) ?_;refine vX (.agg [.fn (.func 44) [] [.ptr 1 0,.ptr 2 0]]) (Qh Z isAgg107 sizeOf107 Z (Qcc (e:=1) (f:=0) Z) Z Z) ?_;refine Cz [1,2] h (k_db _ _ _) Z λx s h=>Go 2 Z (Cn Z h (λk h=>?_) (λk h=>?_))
 .exact Gc 12 Z (Rt h 4 [0,1,2,3,4])
 refine Gc 4 Z ?_;refine vX (I 2) (OpV.add (m:=1) (n:=1) Z Z Z) ?_;refine Go 5 Z ?_;refine vX (.bool true) (OpV.lss (m:=2) (n:=4) Z Z Z) ?_;refine Go 19 Z ?_;refine vX (.ptr 0 2) (Qes (j:=2) Z Z runUnderlying108 sizeOf107) ?_;refine vX (.agg [.fn (.func 45) [] [.ptr 2 0,.ptr 3 0,.ptr 1 0,.ptr 4 0]]) (Qh Z isAgg107 sizeOf107 Z (Qcc (e:=2) (f:=0) Z) Z Z) ?_;refine Cz [2,3,1,4] h (k_bc _ _ _ _ _) Z λy t h=>Go 2 Z (Cn Z h (λl h=>?_) (λl h=>?_))
 .exact Gc 12 Z (Rt h 4 [0,1,2,3,4])
 refine Gc 4 Z ?_;refine vX (I 3) (OpV.add (m:=2) (n:=1) Z Z Z) ?_;refine Go 5 Z ?_;refine vX (.bool true) (OpV.lss (m:=3) (n:=4) Z Z Z) ?_;refine Go 19 Z ?_;refine vX (.ptr 0 3) (Qes (j:=3) Z Z runUnderlying108 sizeOf107) ?_;refine vX (.agg [.fn (.func 46) [] [.ptr 2 0,.ptr 3 0,.ptr 1 0]]) (Qh Z isAgg107 sizeOf107 Z (Qcc (e:=3) (f:=0) Z) Z Z) ?_;refine Cz [2,3,1] h (k_cv _ _ _ _) Z λz u h=>Go 2 Z (Cn Z h (λp h=>?_) (λp h=>?_))
 .exact Gc 12 Z (Rt h 4 [0,1,2,3,4])
 refine Gc 4 Z ?_;refine vX (I 4) (OpV.add (m:=3) (n:=1) Z Z Z) ?_;refine Go 5 Z ?_;refine vX (.bool false) (OpV.lss (m:=4) (n:=4) Z Z Z) ?_;exact Go 15 Z (Rt h 4 [0,1,2,3,4])
def F_eh(n:Nat)(a:Protest)(b:Course)(c:List Fact)(d:Fact):Option Bool:=
  (F_dx n a b c d).bind λe=>some (decide (0<=e))
theorem k_eh(n:Nat)(a:Protest)(b:Course)(d:List Fact)(e:Fact)(r:Bool)(h:F_eh n a b d e=some r):
    Csm prog 47 [.osl 0 0 4 1,.fn (.func 48) [] []] [.rowr 107 1 [[.fn (.func 43) [] [.ptr 1 0]],[.fn (.func 44) [] [.ptr 1 0,.ptr 2 0]],[.fn (.func 45) [] [.ptr 2 0,.ptr 3 0,.ptr 1 0,.ptr 4 0]],[.fn (.func 46) [] [.ptr 2 0,.ptr 3 0,.ptr 1 0]]],.cells 36 (Protest.c a),.cells 33 (Course.c b),.cells 34 [.rsl 57 (List.map Fact.c d)],.cells 68 (Fact.c e)] (λr=>.bool r) r:=by
 refine Qb func47 Z Z Z ?_;exact G0 9 Z (Cz [0,1,2,3,4] h (k_dx _ _ _ _ _) Z λg f h=>Go 5 Z (Rt h 4 [0,1,2,3,4]))
def F_m(n:Nat)(c:Course)(d:List Fact)(a:Fact):Option Bool:=
  ((F_o n a).bind λe=>(bif (e != 0)then some true else some (a.Kind != 9)):Option Bool).bind λf=>(bif f then some false else(F_al n d).bind λg=>(F_bt n g a).bind λh=>(F_eh n a.Protest c h a).bind λb=>some (!b))
theorem k_m(n:Nat)(d:Course)(e:List Fact)(f:Fact)(r:Bool)(h:F_m n d e f=some r):
    Csm prog 17 [.agg (Course.c d),.rsl 57 (List.map Fact.c e),.agg (Fact.c f)] [] (λr=>.bool r) r:=by
 refine Qb func17 Z Z Z ?_;refine G0 9 Z (Bd h λb a h=>?_);refine Ct b [0,1] [1,3,5] (λb=>[(17,.bool b)]) Ze Zf ?_ (λenv H g=>?_)
 .refine G0 2 Z (Cz [] a (k_o _ _) Z λs l a=>Go 2 Z (Is 13 a Z (λi a=>?_) (λi a=>?_)))
  .exact Go 5 Z (Cl a [0,1])
  .exact Go 5 Z (Cl a [0,1])
 refine Gx 1 Z (Ef g (Cn Z h (λj h=>?_) (λj h=>?_)))
 .exact Gc 7 Z (Rt h 6 [])
 refine Gc 13 Z (Cd [] h (k_al _ _) Z λt m h=>FE Z (Go 1 Z (Cd [3,1] h (k_bt _ _ _) Z λu p h=>FE Z (Go 14 Z ?_))));refine vH (YF (xs:=[.tmp 25,.tmp 27,.tmp 29,.tmp 31]) Qps Z Z Z Z Z ⟨Z,Z,Z,Z,trivial⟩ Z) ?_;refine FE Z (Go 6 Z ?_);refine Er (QaU [(23,_)] Z Z (Qnn.cons Z Eo Qnn.nil) (Ec (Ec (Ec (Ec (FzH.cells (Ed Eo (Ej _)) (Y8 _))))))) ?_;exact Cz [5,2,0,4,1] h (k_eh _ _ _ _ _) Z λq k h=>Go 5 Z (Rt h 6 [])
def F_dj(n:Nat)(a:List (Int×Bool)):Option Unit:=
  some ()
theorem k_dj(n:Nat)(a:List (Int×Bool))(r:Unit)(h:F_dj n a=some r):
    C prog 51 [.map 0] [.map (Qk (λx=>A.int .i64 x) A.bool a)] (RQ (λ_=>.fn (.func 84) [] [.ptr 1 0]) (λ_=>[.map (Qk (λx=>A.int .i64 x) A.bool a),.cells 78 [.map 0]]) r):=by
 refine Qb func51 Z Z Z ?_;exact G0 13 Z (Rt h 2 [0,1])
def F_ex(n:Nat)(a:List (Int×Bool)):Option (List Int):=
  Qlc (List.map Prod.fst a) λp1=>(sortI p1).bind λb=>some b
theorem k_ex(n:Nat)(b:List (Int×Bool))(r:List Int)(h:F_ex n b=some r):
    C prog 50 [.fn (.func 84) [] [.ptr 0 0]] [.cells 78 [.map 1],.map (Qk (λx=>A.int .i64 x) A.bool b)] (RQ (λr=>.osl 2 0 r.length 1) (λr=>[.dead,.fmap (Qk (λx=>A.int .i64 x) A.bool b),.row 3 1 (List.map (Qj .i64) r)]) r):=by
 refine Qb func50 Z Z Z ?_;refine G0 8 Z ?_;refine Er (Qkw (i:=1) Z) ?_;refine QdD (H:=[.cells 78 [.map 1],.fmap (Qk (λx=>A.int .i64 x) A.bool b)]) Z ?_;obtain⟨c,h⟩:=Qkr h;refine QP [0,1] (OpC.fn call82 Z Z Z) (QkL _ c) ?_;rintro _ _ ⟨p1,d,rfl,rfl⟩;have h:=h p1 d;refine FE Z (Go 6 Z (Bd h λe a h=>?_));refine QP [2] (OpC.fn call83 Z Z Z) (QkB QcT a) ?_;rintro _ _ ⟨rfl,rfl⟩;refine FE Z ?_;refine Er (QT (s:=3) Z (congrArg (λn=>A.osl 2 0 n 1) (Qaf a))) ?_;refine Er (QT (s:=5) Z (congrArg (λn=>A.osl 2 0 n 1) (Qaf a))) ?_;refine Er (QT (s:=6) Z (congrArg (λn=>A.osl 2 0 n 1) (Qaf a))) ?_;exact Go 9 Z (Rt h 2 [0,1,2])
def F_gn(n:Nat)(b:Fact)(c:Bool)(a:Fact):Option (Ctl Bool (List (Int×Bool))):=
  ((bif c then some true else(bif (a.Kind==10)then some (decide (b.At<a.At))else some false)):Option Bool).bind λd=>some (.cont d)
def F_hj(n:Nat)(l:Course)(d:List Fact)(a:(List (Int×Bool))×Int):Option (Ctl ((List (Int×Bool))×Int) (List (Int×Bool))):=
  (bif decide (a.2<(d.length:Int))then((idx d a.2).bind λb=>((some (Qo a.1 b.Protest.Case false)).bind λe=>(bif e then some true else(F_m n l d b).bind λf=>some (!f)):Option Bool).bind λg=>(bif g then some a.1 else(F_v n d b.Protest.Case).bind λm=>(F_y n d b.Protest.Case).bind λy248=>(Qci (F_gn n b) y248.1 false:Option (Ctl Bool (List (Int×Bool)))).bind λh=>match h with|.cont c=>(((bif (!c)then(some (QO a.1 b.Protest.Case true)).bind λi=>some i else some a.1):Option (List (Int×Bool))).bind λj=>some j)|.done c=>some c):Option (List (Int×Bool))).bind λk=>some (.cont (k,IntKind.i64.wrap (a.2+1)))else some (.done a.1))
def F_w(n:Nat)(c:Course)(d:List Fact):Option (List Int):=
  (iter (F_hj n c d) n ([],0):Option (List (Int×Bool))).bind λa=>(F_dj n a).bind λe=>(F_ex n a).bind λb=>some b
theorem k_w(n:Nat)(O:Course)(T:List Fact)(r:List Int)(h:F_w n O T=some r):
    C prog 20 [.agg (Course.c O),.rsl 57 (List.map Fact.c T)] [] (RQ (λr=>.osl 0 0 r.length 1) (λr=>[.row 3 1 (List.map (Qj .i64) r)]) r):=by
 refine Qb func20 Z Z Z ?_;refine G0 8 Z ?_;refine vH Q6 ?_;refine FE Z (Go 7 Z (Lm Z (Go 3 Z (Bd h λj P h=>?_))));refine Ct j [1] [5] Ze (λj=>[(0,.map (Qk (λx=>A.int .i64 x) A.bool j))]) Zf ?_ (λenv H i=>?_)
 .refine G0 1 Z ?_;refine Lp [0,1] [1,2,5,11,12] (λf=>[(13,I f.2)]) (λf=>[(1,.map (Qk (λx=>A.int .i64 x) A.bool f.1))]) P Zf (Lr [0,1]) λf ab e y=>?_;refine G0 6 Z (Jl Z e (λz e=>?_) (λz e=>?_))
  .refine Gc 2 Z (Qy e ?_);obtain rfl:=Oj y e;exact Gx 1 Z (QH (Lr [1]))
  refine Gc 3 Z (Bd e λm a e=>?_);refine Ct m [0,1] [1,2,5,11,12,13] Ze (λm=>[(1,.map (Qk (λx=>A.int .i64 x) A.bool m))]) Zf ?_ (λenv H i=>?_)
  .refine G0 3 Z (Bd a λp B a=>Iz B Z (Go 7 Z (Bd a λq b a=>?_)));refine Ct q [0,1,2] [1,2,5,7,11,12,13] (λq=>[(28,.bool q)]) Ze Zf ?_ (λenv H i=>?_)
   .refine G0 5 Z (Bd b λQ E b=>?_);refine vX (.bool Q) (Yj (ev:=A.bool) (z0:=false) (k:=p.Protest.Case) (l:=f.1) YR E underlying78 zeroValue4 ZR.bool) ?_;refine Go 1 Z (Is 22 b Z (λF b=>?_) (λF b=>?_))
    .exact Go 7 Z (Cl b [0,1,2])
    .exact Go 3 Z (Cz [] b (k_m _ _ _ _) Z λac V b=>Go 3 Z (Cl b [0,1,2]))
   refine Gx 1 Z (Ef i (Cn Z a (λG a=>?_) (λG a=>?_)))
   .exact Gc 3 Z (Cl a [0,1])
   refine Gc 15 Z (Cd [] a (k_v _ _ _) Z λae W a=>FE Z (Go 3 Z (Bd a λy248 hy248 a=>Bd a λaf R a=>?_)));refine QdF [4,5] (λw=>[.cells 33 (Course.c O),.map (Qk (λx=>A.int .i64 x) A.bool f.1),.cells 68 (Fact.c p),.cells 4 [.bool w],.dead,.dead]) R (k_y _ _ _ _ hy248) Zf call71 Z Z Z Z (by decide) Z (Lr [0,1,2,3,4,5]) ?_ ?_
   .intro w ag ah s X;refine G0 4 Z (And.intro Z ?_);refine G0 1 Z (Bd s λt d s=>?_);refine Ct t [0,1,2,3,4,5] [] Ze (λt=>[(3,.cells 4 [.bool t])]) Zf ?_ (λenv H i=>?_)
    .refine G0 3 Z (Is 36 d Z (λJ d=>?_) (λJ d=>?_))
     .exact Go 13 Z (Cl d [0,1,2,3,4,5])
     .refine Go 4 Z (Is 40 d Z (λL d=>?_) (λL d=>?_))
      .exact Go 9 Z (Cl d [0,1,2,3,4,5])
      .exact Go 9 Z (Cl d [0,1,2,3,4,5])
    exact Gx 1 Z (QgL s (Em i (Lr [0,1,2,3,4,5])))
   rintro ai rfl;refine Gx 8 Z (Bd a λu g a=>?_);refine Ct u [0,1] [1,2,5,11,12,13] Ze (λu=>[(1,.map (Qk (λx=>A.int .i64 x) A.bool u))]) Zf ?_ (λenv H i=>?_)
   .refine G0 0 Z (Cn Z g (λM g=>?_) (λM g=>?_))
    .refine Gc 5 Z (Bd g λaj N g=>?_);refine vU (Yr (ev:=A.bool) (k:=p.Protest.Case) (v:=true) (l:=f.1) YR N Z underlying78) ?_;exact FE Z (Go 1 Z (Cl g [0,1]))
    exact Gc 1 Z (Cl g [0,1])
   refine Gx 1 Z ?_;cases a;exact QH (Em i (Lr [0,1]))
  exact Gx 1 Z (Ef i (Gc 4 Z (Qt e (Lr [0,1]))))
 exact Gx 1 Z (Ef i (Gc 3 Z (Cd [0] h (k_dj _ _) Z λak Y h=>FE Z (Cd [1,0] h (k_ex _ _) Z λal aa h=>FE Z (Go 4 Z (Rt h 4 [2]))))))
def F_in(n:Nat)(b:List Int)(e:List Int)(a:Int):Option (Ctl Int (Ctl Unit Bool)):=
  (bif decide (a<(b.length:Int))then(idx b a).bind λc=>(idx e a).bind λd=>(bif (c != d)then some (.done (.done false))else some (.cont (IntKind.i64.wrap (a+1))))else some (.done (.cont ())))
def F_gp(n:Nat)(b:List Int)(c:List Int):Option Bool:=
  (bif ((b.length:Int) != (c.length:Int))then some false else(iter (F_in n b c) n 0:Option (Ctl Unit Bool)).bind λd=>match d with|.cont a=>(some true)|.done a=>some a)
theorem k_gp(n:Nat)(j:List Int)(k:List Int)(r:Bool)(h:F_gp n j k=some r):
    Csm prog 19 [.rsl 1 (List.map (Qj .i64) j),.rsl 1 (List.map (Qj .i64) k)] [] (λr=>.bool r) r:=by
 refine Qb func19 Z Z Z ?_;refine G0 9 Z (Lm Z (Go 1 Z (Lm Z (Go 3 Z (Cn Z h (λl h=>?_) (λl h=>?_))))))
 .exact Gc 7 Z (Rt h 4 [])
 refine Gc 8 Z (Bd h λm p h=>?_);refine CtE (b:=m) [] [] Ze Ze Zf ?_ (λw env H q s=>?_)
 .refine G0 1 Z ?_;refine Lp [] [0,1] (λd=>[(5,I d)]) Ze p Zf (Lr []) λd y a c=>?_;refine G0 5 Z (Lm Z (Go 3 Z (Jl Z a (λe a=>?_) (λe a=>?_))))
  .refine Gc 2 Z (Qy a ?_);obtain rfl:=Oj c a;exact Gx 1 Z (QI Z (Lr []))
  refine Gc 5 Z (DSs 8 Z (D 2 Z ?_));obtain⟨t,f,a⟩:=bnd a;refine DS.wo (x:=.rp [I t]) ?_ ?_
  .exact Ix f runUnderlying40 sizeOf3 Z Wp
  refine D 3 Z ?_;obtain⟨u,g,a⟩:=bnd a;refine DS.wo (x:=.rp [I u]) ?_ ?_
  .exact Ix g runUnderlying40 sizeOf3 Z Wp
  refine D 1 Z (Eh Z (Go 3 Z (Cn Z a (λi a=>?_) (λi a=>?_))))
  .refine Gc 8 Z (Yt a ?_);obtain rfl:=Oj c a;exact Gx 1 Z (Q4 (Gx 1 Z (Rt h 4 [])))
  exact Gc 8 Z (Qt a (Lr []))
 subst q;exact Gx 1 Z (Ef s (Gc 6 Z (Rt h 4 [])))
abbrev lit_2:List Fact:=[{Uk with No:=1,At:=100,Kind:=8,Report:={Case:=1,Bib:=5,Offence:=0,Position:=0:Report}:Fact},{Uk with No:=2,Kind:=1,Starter:={Ut with Bib:=5,Chip:=5:Starter}:Fact},{Uk with No:=3,Kind:=1,Starter:={Ut with Bib:=6,Chip:=6:Starter}:Fact},{Uk with No:=4,Kind:=1,Starter:={Ut with Bib:=7,Distance:=1,Chip:=7:Starter}:Fact}]
abbrev lit_3:List Distance:=[{Name:=[98,114,105,101,102],Route:=[Un,{Un with Mat:=1:Part}],Timing:=1,Cutoffs:=[],Extra:=(-1):Distance},{Name:=[108,111,110,103],Route:=[Un,{Un with Mat:=1:Part}],Timing:=1,Cutoffs:=[],Extra:=(-1):Distance}]
abbrev lit_6:Fact:={Uk with No:=5,At:=150,Kind:=9,Protest:={Case:=1,By:=6,Fee:=500,Form:=1:Protest}:Fact}
abbrev lit_4:List Fact:=[lit_6,{Uk with No:=6,At:=160,Kind:=10,Ruling:={Ur with Case:=1,Instance:=1,Kind:=2:Ruling}:Fact}]
abbrev lit_5:List Fact:=[lit_6]
abbrev lit_7:Fact:={Uk with No:=5,At:=151,Kind:=9,Protest:={Case:=1,By:=6,Fee:=500,Form:=1:Protest}:Fact}
abbrev lit_8:List Mat:=[{Name:=[108,105,110,101],Kind:=1:Mat},{Name:=[102,105,110,105,115,104],Kind:=3:Mat}]
abbrev lit_9:List Wave:=[{Name:=[101,108,105,116,101],Gun:=0:Wave}]
abbrev lit_0:List A:=[.str [115,97,109,112,108,101],.rsl 2 (List.map Mat.c lit_8),.rsl 4 (List.map Leg.c [{From:=0,To:=1,Min:=10,Max:=100:Leg}]),.rsl 5 (List.map Distance.c lit_3),.rsl 2 (List.map Wave.c lit_9),.rsl 4 (List.map Offence.c []),.rsl 3 (List.map Category.c []),.rsl 4 (List.map Prize.c []),.rsl 8 (List.map Step.enc [{Uu with Kind:=1,By:=4:Step}]),I 0,I 0,I 0,I 0,I 0,I 500,I 50]
abbrev lit_1:Course:={Name:=[115,97,109,112,108,101],Mats:=lit_8,Legs:=[{From:=0,To:=1,Min:=10,Max:=100:Leg}],Distances:=lit_3,Waves:=lit_9,Offences:=[],Categories:=[],Prizes:=[],Ties:=[{Uu with Kind:=1,By:=4:Step}],Faults:=Ul,Fee:=500,Deadline:=50:Course}
def F_ey(n:Nat):Option Bool:=
  (F_gl n).bind λr=>(F_aa n (lit_1) lit_2 1).bind λa=>(F_aa n (lit_1) [] 1).bind λk=>(app lit_2 lit_5).bind λl=>(F_w n (lit_1) l).bind λm=>(app lit_2 lit_4).bind λp=>(F_w n (lit_1) p).bind λq=>((bif (a.1==150)then(bif a.2 then(bif (!k.2)then(F_u n (lit_1) lit_2 ({Case:=1,By:=6,Fee:=500,Form:=1:Protest})).bind λb=>(bif b then(F_u n (lit_1) lit_2 ({Case:=1,By:=7,Fee:=0,Form:=0:Protest})).bind λc=>(bif (!c)then(F_u n (lit_1) [] ({Case:=1,By:=6,Fee:=500,Form:=1:Protest})).bind λd=>some (!d)else some false)else some false)else some false)else some false)else some false):Option Bool).bind λe=>((bif e then(F_m n (lit_1) lit_2 (lit_6)).bind λf=>(bif f then(F_m n (lit_1) lit_2 (lit_7)).bind λg=>(bif (!g)then(F_m n (lit_1) lit_2 Uk).bind λh=>(bif (!h)then(F_gp n m [1]).bind λi=>(bif i then some ((q.length:Int)==0)else some false)else some false)else some false)else some false)else some false):Option Bool).bind λj=>some j
theorem k_ey(n:Nat)(r:Bool)(h:F_ey n=some r):
    Csm prog 10 [] [] (λr=>.bool r) r:=by
 refine Qb func10 Z Z Z ?_;refine G0 7 Z (Cd [] h (k_gl _) Z λr1 X h=>?_);refine aV (.agg [.str [115,97,109,112,108,101],.osl 0 0 (lit_8.length) 2,.osl 1 0 ([{From:=0,To:=1,Min:=10,Max:=100:Leg}].length) 4,.osl 2 0 (lit_3.length) 5,.osl 3 0 (lit_9.length) 2,.rsl 4 (List.map Offence.c []),.rsl 3 (List.map Category.c []),.rsl 4 (List.map Prize.c []),.osl 4 0 ([{Uu with Kind:=1,By:=4:Step}].length) 8,I 0,I 0,I 0,I 0,I 0,I 500,I 50]) [.row 88 2 (List.map Mat.c lit_8),.row 131 4 (List.map Leg.c [{From:=0,To:=1,Min:=10,Max:=100:Leg}]),.row 86 5 (List.map Distance.c lit_3),.row 133 2 (List.map Wave.c lit_9),.row 138 8 (List.map Step.enc [{Uu with Kind:=1,By:=4:Step}]),.cells 33 [.str [115,97,109,112,108,101],.osl 0 0 (lit_8.length) 2,.osl 1 0 ([{From:=0,To:=1,Min:=10,Max:=100:Leg}].length) 4,.osl 2 0 (lit_3.length) 5,.osl 3 0 (lit_9.length) 2,.rsl 4 (List.map Offence.c []),.rsl 3 (List.map Category.c []),.rsl 4 (List.map Prize.c []),.osl 4 0 ([{Uu with Kind:=1,By:=4:Step}].length) 8,I 0,I 0,I 0,I 0,I 0,I 500,I 50]] Z Z ?_;refine Go 14 Z ?_;refine vH (Qnf (xs:=[.tmp 14,.tmp 16,.tmp 18,.tmp 20]) (es:=List.map Fact.c lit_2) Qab Z Z Z Z Z ⟨Z,Z,Z,Z,trivial⟩ Z Z) ?_;refine aV (.osl 7 0 (lit_2.length) 57) [_,_,_,_,_,_,_,.frow 68 57 (List.map Fact.c lit_2)] Z Z ?_;refine Go 7 Z ?_;refine Er (Le.frow (s:=24) Z Z Z) ?_;refine Er (QaU [(12,_),(23,_)] Z Z (Qnn.cons Z (FzA.agg (Ed (Ee _) (Ed Eo (Ej _)))) (Qnn.cons Z (FzA.agg (Ed (Ee _) (Ed Eo (Ej _)))) Qnn.nil)) (Ec (Ec (Ec (Ec (Ec (FzH.cells (Ed (Ee _) (Ed Eo (Ej _))) (FzH.cells (Ed (Ee _) (Ed Eo (Ej _))) (Y8 _))))))))) ?_;refine Er (QaU [(12,_),(23,_)] Z Z (Qnn.cons Z (FzA.agg (Ed (Ee _) (Ed (Ee _) (Ed Eo (Ej _))))) (Qnn.cons Z (FzA.agg (Ed (Ee _) (Ed (Ee _) (Ed Eo (Ej _))))) Qnn.nil)) (Ec (Ec (Ec (Ec (Ec (FzH.cells (Ed (Ee _) (Ed (Ee _) (Ed Eo (Ej _)))) (FzH.cells (Ed (Ee _) (Ed (Ee _) (Ed Eo (Ej _)))) (Y8 _))))))))) ?_;refine Er (QaU [(12,_),(23,_)] Z Z (Qnn.cons Z (FzA.agg (Ed (Ee _) (Ed (Ee _) (Ed (Ee _) (Ed Eo (Ej _)))))) (Qnn.cons Z (FzA.agg (Ed (Ee _) (Ed (Ee _) (Ed (Ee _) (Ed Eo (Ej _)))))) Qnn.nil)) (Ec (Ec (Ec (Ec (Ec (FzH.cells (Ed (Ee _) (Ed (Ee _) (Ed (Ee _) (Ed Eo (Ej _))))) (FzH.cells (Ed (Ee _) (Ed (Ee _) (Ed (Ee _) (Ed Eo (Ej _))))) (Y8 _))))))))) ?_;refine Er (QaU [(12,_),(23,_)] Z Z (Qnn.cons Z (FzA.agg (Ed (Ee _) (Ed (Ee _) (Ed (Ee _) (Ed (Ee _) (Ed Eo (Ej _))))))) (Qnn.cons Z (FzA.agg (Ed (Ee _) (Ed (Ee _) (Ed (Ee _) (Ed (Ee _) (Ed Eo (Ej _))))))) Qnn.nil)) (Ec (Ec (Ec (Ec (Ec (FzH.cells (Ed (Ee _) (Ed (Ee _) (Ed (Ee _) (Ed (Ee _) (Ed Eo (Ej _)))))) (FzH.cells (Ed (Ee _) (Ed (Ee _) (Ed (Ee _) (Ed (Ee _) (Ed Eo (Ej _)))))) (Y8 _))))))))) ?_;refine Er (QaU [(12,_),(23,_)] Z Z (Qnn.cons Z (FzA.agg (Ed (Ee _) (Ed (Ee _) (Ed (Ee _) (Ed (Ee _) (Ed (Ee _) (Ed (Ee _) (Ed (Ee _) (Ed (Ee _) (Ed Eo (Ej _))))))))))) (Qnn.cons Z (FzA.agg (Ed (Ee _) (Ed (Ee _) (Ed (Ee _) (Ed (Ee _) (Ed (Ee _) (Ed (Ee _) (Ed (Ee _) (Ed (Ee _) (Ed Eo (Ej _))))))))))) Qnn.nil)) (Ec (Ec (Ec (Ec (Ec (FzH.cells (Ed (Ee _) (Ed (Ee _) (Ed (Ee _) (Ed (Ee _) (Ed (Ee _) (Ed (Ee _) (Ed (Ee _) (Ed (Ee _) (Ed Eo (Ej _)))))))))) (FzH.cells (Ed (Ee _) (Ed (Ee _) (Ed (Ee _) (Ed (Ee _) (Ed (Ee _) (Ed (Ee _) (Ed (Ee _) (Ed (Ee _) (Ed Eo (Ej _)))))))))) (Y8 _))))))))) ?_;refine Cd [] h (k_aa _ _ _ _) Z λd Y h=>?_;refine aV (.tup [I d.1,.bool d.2]) [.dead,.dead,.dead,.dead,.dead,.cells 33 lit_0,.cells 33 lit_0,_,.cells 3 [I d.1],.cells 4 [.bool d.2]] Z Z ?_;refine Go 10 Z (Bd h λf J h=>?_);refine QP [] (OpC.fn call13 Z Z Z) (C.nils (QjJ.eq (QjJ.nl (QjJ.eq QjJ.nil))) (k_aa _ _ _ _ _ J)) ?_;rintro _ _ ⟨rfl,rfl⟩;refine aV (.tup [I f.1,.bool f.2]) [_,_,_,_,_,_,_,_,_,_,.cells 3 [I f.1],.cells 4 [.bool f.2]] Z Z ?_;refine Go 29 Z ?_;obtain⟨l,L,h⟩:=bnd h;refine QbZ 5 0 [37,38,39,40,41] [false,false,false,false,true] [[],[],[],[],[]] [[],[4]] [[(0,0),(1,1)],[(0,0)],[(0,0)],[(0,0)],[(0,1)]] [.agg lit_0,.osl 7 0 (lit_2.length) 57,.agg (Fact.c (lit_6)),.rsl 57 (List.map Fact.c lit_5),.rsl 57 (List.map Fact.c l)] [[.dead,.dead,.dead,.dead,.dead,.cells 33 lit_0,.cells 33 lit_0,.frow 68 57 (List.map Fact.c lit_2),.cells 3 [I d.1],.cells 4 [.bool d.2],.cells 3 [I f.1],.cells 4 [.bool f.2],.cells 68 (Fact.c (lit_6)),.cells 68 (Fact.c (lit_7))],[.dead,.dead,.dead,.dead,.dead,.cells 33 lit_0,.cells 33 lit_0,.frow 68 57 (List.map Fact.c lit_2),.cells 3 [I d.1],.cells 4 [.bool d.2],.cells 3 [I f.1],.cells 4 [.bool f.2],.cells 68 (Fact.c (lit_6)),.cells 68 (Fact.c (lit_7)),.dead]] ([.dead,.dead,.dead,.dead,.dead,.cells 33 lit_0,.cells 33 lit_0,.frow 68 57 (List.map Fact.c lit_2),.cells 3 [I d.1],.cells 4 [.bool d.2],.cells 3 [I f.1],.cells 4 [.bool f.2],.cells 68 (Fact.c (lit_6)),.cells 68 (Fact.c (lit_7)),.dead]) draws Z Z Z Z Z Z Z ?_ Z ?_
 .refine Qhp.cons (Qf (v0 Z Z) (Qf (v0 Z Z) (Q3))) (Qhp.cons (Qf (v0 Z Z) (Q3)) (Qhp.cons (Qf (v0 Z Z) (Q3)) (Qhp.cons ?_ (Qhp.cons ?_ (Qhp.nil)))))
  .refine Qf ?_ (Q3)
   .refine Om Z (sD 2 sN) ?_;refine vH (YP (xs:=[.tmp 39]) (es:=List.map Fact.c lit_5) Qab Z Z Z Z Z ⟨Z,trivial⟩ Z Z) ?_;refine aV (.rsl 57 (List.map Fact.c lit_5)) [_,_,_,_,_,_,_,_,_,_,_,_,_,_] Z Z ?_;exact Wp
  .refine Qf ?_ (Q3)
   .refine Om1 Z (sD 1 (sD 3 sN)) ?_;refine vH (QiJ (e:=Fact.c) (m:=lit_5) L Qab runUnderlying34 Qai) ?_;refine aV (.osl 14 0 l.length 57) [_,_,_,_,_,_,_,_,_,_,_,_,_,_,.row 68 57 (List.map Fact.c l)] Z Z ?_;refine Er (QaU [(41,_)] Z Z (Qnn.cons Z Eo Qnn.nil) (Ec (Ec (Ec (Ec (Ec (Ec (Ec (Ec (Ec (Ec (Ec (Ec (Ec (Ec (Ec (Y8 _))))))))))))))))) ?_;refine Er Qnl ?_;exact Wp
 refine Cd [] h (k_w _ _ _) Z λg aa h=>?_;refine aV (.osl 15 0 g.length 1) [_,_,_,_,_,_,_,_,_,_,_,_,_,_,_,.row 3 1 (List.map (Qj .i64) g)] Z Z ?_;refine Go 4 Z ?_;obtain⟨p,M,h⟩:=bnd h;refine QbZ 7 0 [43,44,45,46,47,48,49] [false,false,false,false,false,false,true] [[],[],[],[],[],[],[]] [[],[6]] [[(0,0),(1,1)],[(0,0)],[(0,0)],[(0,0)],[(0,0)],[(0,0)],[(0,1)]] [.agg lit_0,.osl 7 0 (lit_2.length) 57,.agg (Fact.c (lit_6)),.agg [I 1,I 1,I 2,I 0,I 0,I 0],.agg (Fact.c ({Uk with No:=6,At:=160,Kind:=10,Ruling:={Ur with Case:=1,Instance:=1,Kind:=2:Ruling}:Fact})),.rsl 57 (List.map Fact.c lit_4),.rsl 57 (List.map Fact.c p)] [[.dead,.dead,.dead,.dead,.dead,.cells 33 lit_0,.cells 33 lit_0,.frow 68 57 (List.map Fact.c lit_2),.cells 3 [I d.1],.cells 4 [.bool d.2],.cells 3 [I f.1],.cells 4 [.bool f.2],.cells 68 (Fact.c (lit_6)),.cells 68 (Fact.c (lit_7)),.dead,.row 3 1 (List.map (Qj .i64) g)],[.dead,.dead,.dead,.dead,.dead,.cells 33 lit_0,.cells 33 lit_0,.frow 68 57 (List.map Fact.c lit_2),.cells 3 [I d.1],.cells 4 [.bool d.2],.cells 3 [I f.1],.cells 4 [.bool f.2],.cells 68 (Fact.c (lit_6)),.cells 68 (Fact.c (lit_7)),.dead,.row 3 1 (List.map (Qj .i64) g),.dead]] ([.dead,.dead,.dead,.dead,.dead,.cells 33 lit_0,.cells 33 lit_0,.frow 68 57 (List.map Fact.c lit_2),.cells 3 [I d.1],.cells 4 [.bool d.2],.cells 3 [I f.1],.cells 4 [.bool f.2],.cells 68 (Fact.c (lit_6)),.cells 68 (Fact.c (lit_7)),.dead,.row 3 1 (List.map (Qj .i64) g),.dead]) draws Z Z Z Z Z Z Z ?_ Z ?_
 .refine Qhp.cons (Qf (v0 Z Z) (Qf (v0 Z Z) (Q3))) (Qhp.cons (Qf (v0 Z Z) (Q3)) (Qhp.cons (Qf (v0 Z Z) (Q3)) (Qhp.cons (Qf (v0 Z Z) (Q3)) (Qhp.cons (Qf (v0 Z Z) (Q3)) (Qhp.cons ?_ (Qhp.cons ?_ (Qhp.nil)))))))
  .refine Qf ?_ (Q3)
   .refine Om Z (sD 2 (sD 4 sN)) ?_;refine vH (YP (xs:=[.tmp 45,.tmp 47]) (es:=List.map Fact.c lit_4) Qab Z Z Z Z Z ⟨Z,Z,trivial⟩ Z Z) ?_;refine aV (.rsl 57 (List.map Fact.c lit_4)) [_,_,_,_,_,_,_,_,_,_,_,_,_,_,_,_] Z Z ?_;exact Wp
  .refine Qf ?_ (Q3)
   .refine Om1 Z (sD 1 (sD 5 sN)) ?_;refine vH (QiJ (e:=Fact.c) (m:=lit_4) M Qab runUnderlying34 Qai) ?_;refine aV (.osl 16 0 p.length 57) [_,_,_,_,_,_,_,_,_,_,_,_,_,_,_,_,.row 68 57 (List.map Fact.c p)] Z Z ?_;refine Er (QaU [(49,_)] Z Z (Qnn.cons Z Eo Qnn.nil) (Ec (Ec (Ec (Ec (Ec (Ec (Ec (Ec (Ec (Ec (Ec (Ec (Ec (Ec (Ec (Ec (Ec (Y8 _))))))))))))))))))) ?_;refine Er Qnl ?_;exact Wp
 refine Cd [] h (k_w _ _ _) Z λN ab h=>?_;refine aV (.osl 17 0 N.length 1) [_,_,_,_,_,_,_,_,_,_,_,_,_,_,_,_,_,.row 3 1 (List.map (Qj .i64) N)] Z Z ?_;refine Go 4 Z (Bd h λi b h=>?_);refine Ct i [6,7,12,13,15,17] [1,2,7,8,9,10] (λi=>[(11,.bool i)]) Ze Zf ?_ (λenv H j=>?_)
 .refine G0 4 Z (Is 53 b Z (λq b=>?_) (λq b=>?_))
  .refine Go 3 Z (Is 56 b Z (λt b=>?_) (λt b=>?_))
   .refine Go 4 Z (Is 60 b Z (λu b=>?_) (λu b=>?_))
    .refine Go 4 Z ?_;refine Er (Le.frow (s:=62) Z Z Z) ?_;refine Cz [] b (k_u _ _ _ _) Z λac P b=>Go 2 Z (Is 67 b Z (λw b=>?_) (λw b=>?_))
     .refine Go 3 Z ?_;refine Er (Le.frow (s:=69) Z Z Z) ?_;refine Cz [] b (k_u _ _ _ _) Z λae Q b=>Go 3 Z (Is 74 b Z (λx b=>?_) (λx b=>?_))
      .refine Go 3 Z (Bd b λO y b=>?_);refine QP [] (OpC.fn call15 Z Z Z) (C.nils (QjJ.eq (QjJ.nl (QjJ.eq QjJ.nil))) (k_u _ _ _ _ _ y)) ?_ (hg:=(gT Z));rintro _ _ ⟨rfl,rfl⟩;refine aV (.bool O) [_,_,_,_,_,_,_,_,_,_,_,_,_,_,_,_,_,_] Z Z ?_;exact Go 4 Z (Cl b [6,7,12,13,15,17])
      .exact Go 8 Z (Cl b [6,7,12,13,15,17])
     .exact Go 15 Z (Cl b [6,7,12,13,15,17])
    .exact Go 22 Z (Cl b [6,7,12,13,15,17])
   .exact Go 26 Z (Cl b [6,7,12,13,15,17])
  .exact Go 29 Z (Cl b [6,7,12,13,15,17])
 refine Gx 1 Z (Ef j (Gc 1 Z (Bd h λk a h=>?_)));refine Ct k [] [] (λk=>[(0,.bool k)]) Ze Zf ?_ (λenv H j=>?_)
 .refine G0 3 Z (Is 82 a Z (λz a=>?_) (λz a=>?_))
  .refine Go 3 Z ?_;refine Er (Le.frow (s:=84) Z Z Z) ?_;refine Cz [] a (k_m _ _ _ _) Z λaf R a=>Go 2 Z (Is 88 a Z (λB a=>?_) (λB a=>?_))
   .refine Go 3 Z ?_;refine Er (Le.frow (s:=90) Z Z Z) ?_;refine Cz [] a (k_m _ _ _ _) Z λag T a=>Go 3 Z (Is 95 a Z (λE a=>?_) (λE a=>?_))
    .refine Go 3 Z ?_;refine Er (Le.frow (s:=97) Z Z Z) ?_;refine Cz [] a (k_m _ _ _ _) Z λah V a=>Go 3 Z (Is 102 a Z (λF a=>?_) (λF a=>?_))
     .refine Go 1 Z ?_;refine vH (Ek (xs:=[.const (.int .i64 1)]) (es:=List.map (Qj .i64) [1]) Yh Z Z Z Z Z ⟨Z,trivial⟩ Z Z) ?_ (gT Z);refine aV (.osl 6 0 ([1].length) 1) [_,_,_,_,_,_,.row 3 1 (List.map (Qj .i64) [1])] Z Z ?_;refine Cb a (k_gp _ _ _) Z (lo (lo ln)) λai W a=>Go 2 Z (Is 107 a Z (λG a=>?_) (λG a=>?_))
      .exact Go 6 Z (Cl a [])
      .exact Go 6 Z (Cl a [])
     .exact Go 11 Z (Cl a [])
    .exact Go 18 Z (Cl a [])
   .exact Go 25 Z (Cl a [])
  .exact Go 31 Z (Cl a [])
 exact Gx 1 Z (Ef j (Gc 1 Z (Rt h 0 [])))
def F_ea(n:Nat)(b:List Part)(f:Int)(rec201:(List Part)->Int->Option Int)(a:Int×Int):Option (Ctl (Int×Int) Int):=
  ((bif decide (a.2<(b.length:Int))then some (decide (a.1<500))else some false):Option Bool).bind λc=>(bif c then(idx b a.2).bind λd=>(rec201 d.Parts (IntKind.i64.wrap (f+1))).bind λe=>some (.cont (IntKind.i64.wrap (a.1+e),IntKind.i64.wrap (a.2+1)))else some (.done a.1))
def B_l(rec201:(List Part)->Int->Option Int)(n:Nat)(a:List Part)(b:Int):Option Int:=
  (bif decide (20<b)then some 500 else(iter (F_ea n a b rec201) n ((a.length:Int),0):Option Int).bind λc=>some c)
theorem Qbb(rec201:(List Part)->Int->Option Int)(c:∀(d:List Part) (e:Int) (r:Int),rec201 d e=some r->Csm prog 26 [.rsl 3 (List.map Part.enc d),I e] [] (λr=>I r) r)(n:Nat)(d:List Part)(e:Int)(r:Int)(h:B_l rec201 n d e=some r):
    Csm prog 26 [.rsl 3 (List.map Part.enc d),I e] [] (λr=>I r) r:=by
 refine Qb func26 Z Z Z ?_;refine G0 8 Z (Lm Z (Go 10 Z (Cn Z h (λq h=>?_) (λq h=>?_))))
 .exact Gc 7 Z (Rt h 4 [])
 refine Gc 8 Z (Bd h λf s h=>?_);refine Ct f [] [] (λf=>[(5,I f)]) Ze Zf ?_ (λenv H g=>?_)
 .refine G0 1 Z ?_;refine Lp [] [0,1] (λi=>[(5,I i.1),(6,I i.2)]) Ze s Zf (Lr []) λi w a k=>?_;refine G0 2 Z (Bd a λj b a=>?_);refine Ct j [] [0,1,5,6] (λj=>[(18,.bool j)]) Ze Zf ?_ (λenv H g=>?_)
  .refine G0 3 Z (Lm Z (Go 2 Z (Is 15 b Z (λl b=>?_) (λl b=>?_))))
   .exact Go 4 Z (Cl b [])
   .exact Go 4 Z (Cl b [])
  refine Gx 1 Z (Ef g (Jl Z a (λm a=>?_) (λm a=>?_)))
  .refine Gc 2 Z (Qy a ?_);obtain rfl:=Oj k a;exact Gx 1 Z (QH (Lr []))
  exact Gc 8 Z (Bd a λt p a=>IzE p (Jo t) Z (Go 4 Z (Cz [] a (c _ _) Z λx u a=>Go 10 Z (Qt a (Lr [])))))
 exact Gx 1 Z (Ef g (Gc 7 Z (Rt h 4 [])))
def F_l:Nat->(List Part)->Int->Option Int
  |0=>λ_ _=>none
  |n+1=>B_l (F_l n) n
theorem k_l(n:Nat):∀(a:List Part) (b:Int) (r:Int),F_l n a b=some r->Csm prog 26 [.rsl 3 (List.map Part.enc a),I b] [] (λr=>I r) r:=by
  induction n with
  |zero=>intro a b r h;cases h
  |succ n ih=>intro a b r h;exact Qbb _ ih n a b r h
def F_fm(n:Nat)(b:List Cond)(f:Int)(rec203:(List Cond)->Int->Option Int)(a:Int×Int):Option (Ctl (Int×Int) Int):=
  ((bif decide (a.2<(b.length:Int))then some (decide (a.1<500))else some false):Option Bool).bind λc=>(bif c then(idx b a.2).bind λd=>(rec203 d.Parts (IntKind.i64.wrap (f+1))).bind λe=>some (.cont (IntKind.i64.wrap (a.1+e),IntKind.i64.wrap (a.2+1)))else some (.done a.1))
def B_g(rec203:(List Cond)->Int->Option Int)(n:Nat)(a:List Cond)(b:Int):Option Int:=
  (bif decide (20<b)then some 500 else(iter (F_fm n a b rec203) n ((a.length:Int),0):Option Int).bind λc=>some c)
theorem Qa5(rec203:(List Cond)->Int->Option Int)(c:∀(d:List Cond) (e:Int) (r:Int),rec203 d e=some r->Csm prog 63 [.rsl 4 (List.map Cond.enc d),I e] [] (λr=>I r) r)(n:Nat)(d:List Cond)(e:Int)(r:Int)(h:B_g rec203 n d e=some r):
    Csm prog 63 [.rsl 4 (List.map Cond.enc d),I e] [] (λr=>I r) r:=by
 refine Qb func63 Z Z Z ?_;refine G0 8 Z (Lm Z (Go 10 Z (Cn Z h (λq h=>?_) (λq h=>?_))))
 .exact Gc 7 Z (Rt h 4 [])
 refine Gc 8 Z (Bd h λf s h=>?_);refine Ct f [] [] (λf=>[(5,I f)]) Ze Zf ?_ (λenv H g=>?_)
 .refine G0 1 Z ?_;refine Lp [] [0,1] (λi=>[(5,I i.1),(6,I i.2)]) Ze s Zf (Lr []) λi w a k=>?_;refine G0 2 Z (Bd a λj b a=>?_);refine Ct j [] [0,1,5,6] (λj=>[(18,.bool j)]) Ze Zf ?_ (λenv H g=>?_)
  .refine G0 3 Z (Lm Z (Go 2 Z (Is 15 b Z (λl b=>?_) (λl b=>?_))))
   .exact Go 4 Z (Cl b [])
   .exact Go 4 Z (Cl b [])
  refine Gx 1 Z (Ef g (Jl Z a (λm a=>?_) (λm a=>?_)))
  .refine Gc 2 Z (Qy a ?_);obtain rfl:=Oj k a;exact Gx 1 Z (QH (Lr []))
  exact Gc 8 Z (Bd a λt p a=>IzE p (Qav t) Z (Go 4 Z (Cz [] a (c _ _) Z λx u a=>Go 10 Z (Qt a (Lr [])))))
 exact Gx 1 Z (Ef g (Gc 7 Z (Rt h 4 [])))
def F_g:Nat->(List Cond)->Int->Option Int
  |0=>λ_ _=>none
  |n+1=>B_g (F_g n) n
theorem k_g(n:Nat):∀(a:List Cond) (b:Int) (r:Int),F_g n a b=some r->Csm prog 63 [.rsl 4 (List.map Cond.enc a),I b] [] (λr=>I r) r:=by
  induction n with
  |zero=>intro a b r h;cases h
  |succ n ih=>intro a b r h;exact Qa5 _ ih n a b r h
def F_fx(n:Nat)(b:List Step)(c:Int)(rec202:(List Step)->Int->Option Int)(a:Int×Int):Option (Ctl (Int×Int) Int):=
  ((bif decide (a.2<(b.length:Int))then some (decide (a.1<500))else some false):Option Bool).bind λd=>(bif d then(idx b a.2).bind λe=>(F_g n [e.Cond] 0).bind λf=>(idx b a.2).bind λg=>(rec202 g.Then (IntKind.i64.wrap (c+1))).bind λh=>(idx b a.2).bind λi=>(rec202 i.Else (IntKind.i64.wrap (c+1))).bind λj=>some (.cont (IntKind.i64.wrap ((IntKind.i64.wrap ((IntKind.i64.wrap (a.1+f))+h))+j),IntKind.i64.wrap (a.2+1)))else some (.done a.1))
def B_j(rec202:(List Step)->Int->Option Int)(n:Nat)(a:List Step)(b:Int):Option Int:=
  (bif decide (20<b)then some 500 else(iter (F_fx n a b rec202) n ((a.length:Int),0):Option Int).bind λc=>some c)
theorem Qa4(rec202:(List Step)->Int->Option Int)(g:∀(j:List Step) (k:Int) (r:Int),rec202 j k=some r->Csm prog 27 [.rsl 8 (List.map Step.enc j),I k] [] (λr=>I r) r)(n:Nat)(j:List Step)(k:Int)(r:Int)(h:B_j rec202 n j k=some r):
    Csm prog 27 [.rsl 8 (List.map Step.enc j),I k] [] (λr=>I r) r:=by
 refine Qb func27 Z Z Z ?_;refine G0 8 Z (Lm Z (Go 10 Z (Cn Z h (λB h=>?_) (λB h=>?_))))
 .exact Gc 7 Z (Rt h 4 [])
 refine Gc 8 Z (Bd h λl E h=>?_);refine Ct l [] [] (λl=>[(5,I l)]) Ze Zf ?_ (λenv H m=>?_)
 .refine G0 1 Z ?_;refine Lp [] [0,1] (λp=>[(5,I p.1),(6,I p.2)]) Ze E Zf (Lr []) λp L a s=>?_;refine G0 2 Z (Bd a λq i a=>?_);refine Ct q [] [0,1,5,6] (λq=>[(18,.bool q)]) Ze Zf ?_ (λenv H m=>?_)
  .refine G0 3 Z (Lm Z (Go 2 Z (Is 15 i Z (λt i=>?_) (λt i=>?_))))
   .exact Go 4 Z (Cl i [])
   .exact Go 4 Z (Cl i [])
  refine Gx 1 Z (Ef m (Jl Z a (λu a=>?_) (λu a=>?_)))
  .refine Gc 2 Z (Qy a ?_);obtain rfl:=Oj s a;exact Gx 1 Z (QH (Lr []))
  refine Gc 4 Z (DSs 26 Z (D 3 Z ?_));obtain⟨b,w,a⟩:=bnd a;refine DS.v (x:=(.rp [I b.Kind,I b.By,I b.Cond.Kind,I b.Cond.Var,I b.Cond.N,.rsl 4 (List.map Cond.enc b.Cond.Parts),.rsl 8 (List.map Step.enc b.Then),.rsl 8 (List.map Step.enc b.Else)])) (Qfu (e:=Step.enc) w (YZ b) runUnderlying29 sizeOf138) ?_;refine D 2 Z ?_;refine DS.wo (x:=.rsl 4 (List.map Cond.enc [b.Cond])) ?_ ?_
  .refine vH (YP (xs:=[.tmp 26]) (es:=[Cond.c b.Cond]) Qpr Z Z Z Z Z ⟨Z,trivial⟩ Z Z) ?_;refine Qm4 (x:=(.rsl 4 (List.map Cond.enc [b.Cond]))) (H:=[]) (by simp[Qav]) Z ?_;exact Wp
  refine Dz [] a (k_g _ _ _) Z λM F a=>D 3 Z ?_;obtain⟨d,y,a⟩:=bnd a;refine DS.v (x:=(.rp [I d.Kind,I d.By,I d.Cond.Kind,I d.Cond.Var,I d.Cond.N,.rsl 4 (List.map Cond.enc d.Cond.Parts),.rsl 8 (List.map Step.enc d.Then),.rsl 8 (List.map Step.enc d.Else)])) (Qfu (e:=Step.enc) y (YZ d) runUnderlying29 sizeOf138) ?_;refine D 4 Z ?_;refine Dz [] a (g _ _) Z λO G a=>D 3 Z ?_;obtain⟨f,z,a⟩:=bnd a;refine DS.v (x:=(.rp [I f.Kind,I f.By,I f.Cond.Kind,I f.Cond.Var,I f.Cond.N,.rsl 4 (List.map Cond.enc f.Cond.Parts),.rsl 8 (List.map Step.enc f.Then),.rsl 8 (List.map Step.enc f.Else)])) (Qfu (e:=Step.enc) z (YZ f) runUnderlying29 sizeOf138) ?_;refine D 4 Z ?_;exact Dz [] a (g _ _) Z λP J a=>Eh Z (Go 10 Z (Qt a (Lr [])))
 exact Gx 1 Z (Ef m (Gc 7 Z (Rt h 4 [])))
def F_j:Nat->(List Step)->Int->Option Int
  |0=>λ_ _=>none
  |n+1=>B_j (F_j n) n
theorem k_j(n:Nat):∀(a:List Step) (b:Int) (r:Int),F_j n a b=some r->Csm prog 27 [.rsl 8 (List.map Step.enc a),I b] [] (λr=>I r) r:=by
  induction n with
  |zero=>intro a b r h;cases h
  |succ n ih=>intro a b r h;exact Qa4 _ ih n a b r h
def F_fi(n:Nat)(b:Course)(a:Int):Option (Ctl Int (Ctl Unit Bool)):=
  (bif decide (a<(b.Distances.length:Int))then((idx b.Distances a).bind λc=>(F_l n c.Route 0).bind λd=>(bif decide (24<d)then some true else(idx b.Distances a).bind λe=>(bif decide (12<(e.Cutoffs.length:Int))then some true else(idx b.Distances a).bind λf=>some (decide (60<(f.Name.length:Int))))):Option Bool).bind λg=>(bif g then some (.done (.done false))else some (.cont (IntKind.i64.wrap (a+1))))else some (.done (.cont ())))
def F_ge(n:Nat)(b:Course)(a:Int):Option (Ctl Int (Ctl Unit Bool)):=
  (bif decide (a<(b.Mats.length:Int))then(idx b.Mats a).bind λc=>(bif decide (60<(c.Name.length:Int))then some (.done (.done false))else some (.cont (IntKind.i64.wrap (a+1))))else some (.done (.cont ())))
def F_ab(n:Nat)(a:Course):Option Bool:=
  (iter (F_fi n a) n 0:Option (Ctl Unit Bool)).bind λd=>match d with|.cont b=>((iter (F_ge n a) n 0:Option (Ctl Unit Bool)).bind λe=>match e with|.cont c=>(((bif decide (12<(a.Mats.length:Int))then some true else(bif decide (30<(a.Legs.length:Int))then some true else(bif decide (4<(a.Distances.length:Int))then some true else(bif decide (6<(a.Waves.length:Int))then some true else(bif decide (6<(a.Offences.length:Int))then some true else(bif decide (6<(a.Categories.length:Int))then some true else(bif decide (6<(a.Prizes.length:Int))then some true else some (decide (60<(a.Name.length:Int)))))))))):Option Bool).bind λf=>(bif f then some false else(F_j n a.Ties 0).bind λg=>some (decide (g<=100))))|.done c=>some c)|.done b=>some b
theorem k_ab(n:Nat)(s:Course)(r:Bool)(h:F_ab n s=some r):
    Csm prog 11 [.agg (Course.c s)] [] (λr=>.bool r) r:=by
 refine Qb func11 Z Z Z ?_;refine G0 12 Z (Bd h λT V h=>?_);refine CtE (b:=T) [0] [1] Ze Ze Zf ?_ (λab env H i g=>?_)
 .refine G0 1 Z ?_;refine Lp [0] [1] (λp=>[(3,I p)]) Ze V Zf (Lr [0]) λp ag e j=>?_;refine G0 6 Z (Lm Z (Go 3 Z (Jl Z e (λt e=>?_) (λt e=>?_))))
  .refine Gc 2 Z (Qy e ?_);obtain rfl:=Oj j e;exact Gx 1 Z (QI Z (Lr [0]))
  refine Gc 5 Z (Bd e λk d e=>?_);refine Ct k [0] [1,3] (λk=>[(39,.bool k)]) Ze Zf ?_ (λenv H g=>?_)
  .refine G0 4 Z (Bd d λah u d=>Iz u Z (Go 2 Z (Cz [] d (k_l _ _ _) Z λai ac d=>Go 2 Z (Is 20 d Z (λw d=>?_) (λw d=>?_)))))
   .exact Go 20 Z (Cl d [0])
   .refine Go 3 Z (Bd d λaj x d=>Iz x Z (Go 2 Z (Lm Z (Go 3 Z (Is 30 d Z (λy d=>?_) (λy d=>?_))))))
    .exact Go 10 Z (Cl d [0])
    .refine Go 3 Z (Bd d λW z d=>Iz z Z (Go 2 Z ?_));refine vX (I (W.Name.length:Int)) (Jk Z Z runUnderlying9 Z) ?_ (gT Z);exact Go 3 Z (Cl d [0])
  refine Gx 1 Z (Ef g (Cn Z e (λB e=>?_) (λB e=>?_)))
  .refine Gc 8 Z (Yt e ?_);obtain rfl:=Oj j e;exact Gx 1 Z (Q4 (Gx 1 Z (Rt h 2 [])))
  exact Gc 8 Z (Qt e (Lr [0]))
 subst i;refine Gx 1 Z (Ef g (Gc 6 Z (Bd h λX Y h=>?_)));refine CtE (b:=X) [0] [1] Ze Ze Zf ?_ (λae env H i g=>?_)
 .refine G0 1 Z ?_;refine Lp [0] [1] (λq=>[(4,I q)]) Ze Y Zf (Lr [0]) λq ak f l=>?_;refine G0 6 Z (Lm Z (Go 3 Z (Jl Z f (λE f=>?_) (λE f=>?_))))
  .refine Gc 2 Z (Qy f ?_);obtain rfl:=Oj l f;exact Gx 1 Z (QI Z (Lr [0]))
  refine Gc 9 Z (Bd f λaa F f=>Iz F Z (Go 2 Z ?_));refine vX (I (aa.Name.length:Int)) (Jk Z Z runUnderlying9 Z) ?_;refine Go 3 Z (Cn Z f (λG f=>?_) (λG f=>?_))
  .refine Gc 8 Z (Yt f ?_);obtain rfl:=Oj l f;exact Gx 1 Z (Q4 (Gx 1 Z (Rt h 2 [])))
  exact Gc 8 Z (Qt f (Lr [0]))
 subst i;refine Gx 1 Z (Ef g (Gc 2 Z (Bd h λm a h=>?_)));refine Ct m [0] [1] (λm=>[(100,.bool m)]) Ze Zf ?_ (λenv H g=>?_)
 .refine G0 3 Z (Lm Z (Go 2 Z (Is 59 a Z (λJ a=>?_) (λJ a=>?_))))
  .exact Go 42 Z (Cl a [0])
  .refine Go 2 Z (Lm Z (Go 3 Z (Is 65 a Z (λL a=>?_) (λL a=>?_))))
   .exact Go 36 Z (Cl a [0])
   .refine Go 2 Z (Lm Z (Go 3 Z (Is 71 a Z (λM a=>?_) (λM a=>?_))))
    .exact Go 30 Z (Cl a [0])
    .refine Go 2 Z (Lm Z (Go 3 Z (Is 77 a Z (λN a=>?_) (λN a=>?_))))
     .exact Go 24 Z (Cl a [0])
     .refine Go 2 Z (Lm Z (Go 3 Z (Is 83 a Z (λO a=>?_) (λO a=>?_))))
      .exact Go 18 Z (Cl a [0])
      .refine Go 2 Z (Lm Z (Go 3 Z (Is 89 a Z (λP a=>?_) (λP a=>?_))))
       .exact Go 12 Z (Cl a [0])
       .refine Go 2 Z (Lm Z (Go 3 Z (Is 95 a Z (λQ a=>?_) (λQ a=>?_))))
        .exact Go 6 Z (Cl a [0])
        .refine Go 2 Z ?_;refine vX (I (s.Name.length:Int)) (Jk Z Z runUnderlying9 Z) ?_ (gT Z);exact Go 3 Z (Cl a [0])
 refine Gx 1 Z (Ef g (Cn Z h (λR h=>?_) (λR h=>?_)))
 .exact Gc 7 Z (Rt h 2 [])
 exact Gc 6 Z (Cz [] h (k_j _ _ _) Z λal af h=>Go 5 Z (Rt h 2 []))
def F_gc(n:Nat)(a:List Fact)(b:Int):Option Unit:=
  some ()
theorem k_gc(n:Nat)(a:List Fact)(b:Int)(r:Unit)(h:F_gc n a b=some r):
    Csm prog 12 [.rsl 57 (List.map Fact.c a),I b] [] (λ_=>.bool (decide ((a.length:Int)<=b))) r:=by
 refine Qb func12 Z Z Z ?_;exact G0 8 Z (Lm Z (Go 6 Z (Rt h 4 [])))
def F_gz(n:Nat)(e:List Ref)(b:Fact)(a:Bool×Int):Option (Ctl (Bool×Int) Bool):=
  (bif decide (a.2<(e.length:Int))then(idx e a.2).bind λc=>((bif a.1 then some (({Crew:=c.Crew,No:=c.No:Ref}) != ({Crew:=b.Crew,No:=b.No:Ref}))else some false):Option Bool).bind λd=>some (.cont (d,IntKind.i64.wrap (a.2+1)))else some (.done a.1))
def F_hc(n:Nat)(i:List Fact)(j:List Ref)(c:Fact)(a:Bool×Int):Option (Ctl (Bool×Int) Bool):=
  (bif decide (a.2<(i.length:Int))then((idx i a.2).bind λb=>((bif (b.Kind != 10)then some true else(F_o n b).bind λd=>(bif (d != 0)then some true else(bif (b.Ruling.Case != c.Protest.Case)then some true else some (decide (b.At<=c.At))))):Option Bool).bind λe=>(bif e then some a.1 else(iter (F_gz n j b) n (true,0):Option Bool).bind λf=>((bif a.1 then some (!f)else some false):Option Bool).bind λg=>some g):Option Bool).bind λh=>some (.cont (h,IntKind.i64.wrap (a.2+1)))else some (.done a.1))
def F_gw(n:Nat)(j:Course)(c:List Fact)(i:List Ref)(a:(List (Int×Bool))×Int):Option (Ctl ((List (Int×Bool))×Int) (List (Int×Bool))):=
  (bif decide (a.2<(c.length:Int))then((idx c a.2).bind λb=>(F_m n j c b).bind λd=>(bif (!d)then some a.1 else(iter (F_hc n c i b) n (true,0):Option Bool).bind λe=>((bif e then(some (QO a.1 b.Protest.Case true)).bind λf=>some f else some a.1):Option (List (Int×Bool))).bind λg=>some g):Option (List (Int×Bool))).bind λh=>some (.cont (h,IntKind.i64.wrap (a.2+1)))else some (.done a.1))
def F_hb(n:Nat)(c:List Int)(d:List (Int×Bool))(a:Int):Option (Ctl Int (Ctl Unit Bool)):=
  (bif decide (a<(c.length:Int))then(idx c a).bind λb=>((some (Qo d b false)).bind λe=>(bif (!e)then some true else(bif decide (0<a)then(idx c (IntKind.i64.wrap (a-1))).bind λf=>some (decide (b<=f))else some false)):Option Bool).bind λg=>(bif g then some (.done (.done false))else some (.cont (IntKind.i64.wrap (a+1))))else some (.done (.cont ())))
def F_gb(n:Nat)(f:Course)(c:List Fact):Option Bool:=
  (F_ey 300).bind λh=>(bif (!h)then some false else((F_ab n f).bind λi=>(bif (!i)then some true else(F_gc n c 12).bind λk=>some (!(decide ((c.length:Int)<=12)))):Option Bool).bind λj=>(bif j then some true else(F_ao n c).bind λg=>(F_w n f c).bind λe=>(iter (F_gw n f c g) n ([],0):Option (List (Int×Bool))).bind λb=>(iter (F_hb n e b) n 0:Option (Ctl Unit Bool)).bind λd=>match d with|.cont a=>(some ((e.length:Int)==(b.length:Int)))|.done a=>some a))
theorem k_gb(n:Nat)(a1:Course)(a2:List Fact)(r:Bool)(h:F_gb n a1 a2=some r):
    Csm prog 8 [.agg (Course.c a1),.rsl 57 (List.map Fact.c a2)] [] (λr=>.bool r) r:=by
 refine Qb func8 Z Z Z ?_;refine G0 9 Z (Cz [] h (k_ey _) Z λr1 cd h=>Go 3 Z (Cn Z h (λbm h=>?_) (λbm h=>?_)))
 .exact Gc 7 Z (Rt h 4 [])
 refine Gc 4 Z (Bd h λb6 J h=>?_);refine Ct b6 [0] [1,2] (λb6=>[(27,.bool b6)]) Ze Zf ?_ (λenv H e=>?_)
 .refine G0 2 Z (Cz [] J (k_ab _ _) Z λr8 ce J=>Go 2 Z (Is 23 J Z (λbn J=>?_) (λbn J=>?_)))
  .exact Go 5 Z (Cl J [0])
  .exact Go 1 Z (Cz [] J (k_gc _ _ _) Z λcf ca J=>Go 3 Z (Cl J [0]))
 refine Gx 1 Z (Ef e (Cn Z h (λbl h=>?_) (λbl h=>?_)))
 .exact Gc 7 Z (Rt h 4 [])
 refine Gc 5 Z (Cd [] h (k_ao _ _) Z λcg cb h=>FE Z (Go 7 Z (Cd [] h (k_w _ _ _) Z λch cc h=>FE Z (Go 5 Z ?_))));refine vH Q6 ?_;refine FE Z (Go 7 Z (Lm Z (Go 3 Z (Bd h λu bd h=>?_))));refine Ct u [2,3] [6,7] Ze (λu=>[(1,.map (Qk (λx=>A.int .i64 x) A.bool u))]) Zf ?_ (λenv H e=>?_)
 .refine G0 1 Z ?_;refine Lp [0,1,2,3] [1,2,5,6,7,34,35] (λy=>[(36,I y.2)]) (λy=>[(3,.map (Qk (λx=>A.int .i64 x) A.bool y.1))]) bd Zf (Lr [0,1,2,3]) λy bs m ae=>?_;refine G0 6 Z (Jl Z m (λaf m=>?_) (λaf m=>?_))
  .refine Gc 2 Z (Qy m ?_);obtain rfl:=Oj ae m;exact Gx 1 Z (QH (Lr [2,3]))
  refine Gc 3 Z (Bd m λL f m=>?_);refine Ct L [0,1,2,3] [1,2,5,6,7,34,35,36] Ze (λL=>[(3,.map (Qk (λx=>A.int .i64 x) A.bool L))]) Zf ?_ (λenv H e=>?_)
  .refine G0 3 Z (Bd f λbe ag f=>Iz ag Z (Go 11 Z (Cz [] f (k_m _ _ _ _) Z λbt bo f=>Go 3 Z (Cn Z f (λah f=>?_) (λah f=>?_)))))
   .exact Gc 3 Z (Cl f [0,1,2,3])
   refine Gc 11 Z (Lm Z (Go 3 Z (Bd f λM bf f=>?_)));refine Ct M [0,1,2,3,4] [1,2,5,6,7,9,34,35,36] (λM=>[(10,.bool M)]) Ze Zf ?_ (λenv H e=>?_)
   .refine G0 1 Z ?_;refine Lp [0,1,2,3,4] [1,2,5,6,7,9,34,35,36,45,46] (λN=>[(10,.bool N.1),(47,I N.2)]) Ze bf Zf (Lr [0,1,2,3,4]) λN bu s ai=>?_;refine G0 6 Z (Jl Z s (λaj s=>?_) (λaj s=>?_))
    .refine Gc 2 Z (Qy s ?_);obtain rfl:=Oj ai s;exact Gx 1 Z (QH (Lr [0,1,2,3,4]))
    refine Gc 3 Z (Bd s λO g s=>?_);refine Ct O [0,1,2,3,4] [1,2,5,6,7,9,34,35,36,45,46,47] (λO=>[(10,.bool O)]) Ze Zf ?_ (λenv H e=>?_)
    .refine G0 3 Z (Bd g λE ak g=>Iz ak Z (Go 7 Z (Bd g λP a g=>?_)));refine Ct P [0,1,2,3,4,5] [1,2,5,6,7,9,10,12,34,35,36,45,46,47] (λP=>[(74,.bool P)]) Ze Zf ?_ (λenv H e=>?_)
     .refine G0 5 Z (Is 54 a Z (λal a=>?_) (λal a=>?_))
      .exact Go 21 Z (Cl a [0,1,2,3,4,5])
      .refine Go 1 Z (Cz [] a (k_o _ _) Z λbv bp a=>Go 3 Z (Is 59 a Z (λam a=>?_) (λam a=>?_)))
       .exact Go 16 Z (Cl a [0,1,2,3,4,5])
       .refine Go 9 Z (Is 68 a Z (λan a=>?_) (λan a=>?_))
        .exact Go 7 Z (Cl a [0,1,2,3,4,5])
        .exact Go 7 Z (Cl a [0,1,2,3,4,5])
     refine Gx 1 Z (Ef e (Cn Z g (λao g=>?_) (λao g=>?_)))
     .exact Gc 3 Z (Cl g [0,1,2,3,4])
     refine Gc 15 Z (Bd g λQ bg g=>?_);refine Ct Q [0,1,2,3,4] [1,2,5,6,7,9,10,34,35,36,45,46,47] (λQ=>[(13,.bool Q)]) Ze Zf ?_ (λenv H e=>?_)
     .refine G0 1 Z ?_;refine Lp [0,1,2,3,4,5] [1,2,5,6,7,9,10,12,34,35,36,45,46,47,75,76] (λF=>[(13,.bool F.1),(77,I F.2)]) Ze bg Zf (Lr [0,1,2,3,4,5]) λF bw j aq=>?_;refine G0 6 Z (Jl Z j (λar j=>?_) (λar j=>?_))
      .refine Gc 2 Z (Qy j ?_);obtain rfl:=Oj aq j;exact Gx 1 Z (QH (Lr [0,1,2,3,4]))
      refine Gc 6 Z (Bd j λw X j=>?_);refine vX (.ptr 1 (Int.toNat F.2*2)) (Q7 X Z runUnderlying76 sizeOf66) ?_;refine vX (.agg [I w.Crew,I w.No]) (Qh Z isAgg66 sizeOf66 Z (Qu X) Z Z) ?_;refine Go 4 Z (Bd j λR z j=>?_);refine Ct R [0,1,2,3,4,5] [1,2,5,6,7,9,10,12,34,35,36,45,46,47,75,76,77] (λR=>[(13,.bool R)]) Ze Zf ?_ (λenv H e=>?_)
      .refine G0 3 Z (Is 82 z Z (λau z=>?_) (λau z=>?_))
       .refine Go 6 Z ?_;refine vX (.bool (({Crew:=w.Crew,No:=w.No:Ref}) != ({Crew:=E.Crew,No:=E.No:Ref}))) (Qlr (p:={Crew:=w.Crew,No:=w.No:Ref}) (q:={Crew:=E.Crew,No:=E.No:Ref}) Qpq Z Z) ?_ (gT Z);exact Go 3 Z (Cl z [0,1,2,3,4,5])
       .exact Go 10 Z (Cl z [0,1,2,3,4,5])
      exact Gx 2 Z (Ef e (Gc 4 Z (Qt j (Lr [0,1,2,3,4,5]))))
     refine Gx 1 Z (Ef e (Bd g λT B g=>?_));refine Ct T [0,1,2,3,4] [1,2,5,6,7,9,34,35,36,45,46,47] (λT=>[(10,.bool T)]) Ze Zf ?_ (λenv H e=>?_)
     .refine G0 3 Z (Is 93 B Z (λav B=>?_) (λav B=>?_))
      .exact Go 5 Z (Cl B [0,1,2,3,4])
      .exact Go 5 Z (Cl B [0,1,2,3,4])
     refine Gx 1 Z ?_;cases g;exact QH (Em e (Lr [0,1,2,3,4]))
    exact Gx 1 Z (Ef e (Gc 4 Z (Qt s (Lr [0,1,2,3,4]))))
   refine Gx 1 Z (Ef e (Gc 5 Z (Bd f λV t f=>?_)));refine Ct V [0,1,2,3] [1,2,5,6,7,34,35,36] Ze (λV=>[(3,.map (Qk (λx=>A.int .i64 x) A.bool V))]) Zf ?_ (λenv H e=>?_)
   .refine G0 0 Z (Cn Z t (λaw t=>?_) (λaw t=>?_))
    .refine Gc 5 Z (Bd t λbx ax t=>?_);refine vU (Yr (ev:=A.bool) (k:=be.Protest.Case) (v:=true) (l:=y.1) YR ax Z underlying78) ?_;exact FE Z (Go 1 Z (Cl t [0,1,2,3]))
    exact Gc 1 Z (Cl t [0,1,2,3])
   refine Gx 1 Z ?_;cases f;exact QH (Em e (Lr [0,1,2,3]))
  exact Gx 1 Z (Ef e (Gc 4 Z (Qt m (Lr [0,1,2,3]))))
 refine Gx 1 Z (Ef e (Gc 8 Z (Bd h λbh bi h=>?_)));refine CtE (b:=bh) [0,1] [6,7] Ze Ze Zf ?_ (λbq env H br e=>?_)
 .refine G0 1 Z ?_;refine Lp [0,1] [6,7,104,105] (λG=>[(106,I G)]) Ze bi Zf (Lr [0,1]) λG bz d Y=>?_;refine G0 6 Z (Jl Z d (λay d=>?_) (λay d=>?_))
  .refine Gc 2 Z (Qy d ?_);obtain rfl:=Oj Y d;exact Gx 1 Z (QI Z (Lr [0,1]))
  refine Gc 7 Z (Bd d λac aa d=>?_);refine vX (.ptr 0 (Int.toNat G*1)) (Q7 aa Z runUnderlying40 sizeOf3) ?_;refine vX (I ac) (Ey Z isAgg3 Z (Qu aa)) ?_;refine Go 5 Z (Bd d λW i d=>?_);refine Ct W [0,1] [6,7,104,105,106] (λW=>[(127,.bool W)]) Ze Zf ?_ (λenv H e=>?_)
  .refine G0 3 Z (Bd i λbj az i=>?_);refine vX (.bool bj) (Yj (ev:=A.bool) (z0:=false) (k:=ac) (l:=u) YR az underlying78 zeroValue4 ZR.bool) ?_;refine Go 2 Z (Is 115 i Z (λba i=>?_) (λba i=>?_))
   .exact Go 13 Z (Cl i [0,1])
   .refine Go 3 Z (Is 118 i Z (λbb i=>?_) (λbb i=>?_))
    .refine Go 3 Z (Bd i λbk ab i=>?_);refine vX (.ptr 0 (Int.toNat (IntKind.i64.wrap (G-1))*1)) (Q7 ab Z runUnderlying40 sizeOf3) ?_ (gT Z);refine vX (I bk) (Ey Z isAgg3 Z (Qu ab)) ?_ (gT Z);exact Go 5 Z (Cl i [0,1])
    .exact Go 10 Z (Cl i [0,1])
  refine Gx 1 Z (Ef e (Cn Z d (λbc d=>?_) (λbc d=>?_)))
  .refine Gc 8 Z (Yt d ?_);obtain rfl:=Oj Y d;exact Gx 1 Z (Q4 (Gx 1 Z (Rt h 4 [])))
  exact Gc 7 Z (Qt d (Lr [0,1]))
 subst br;refine Gx 1 Z (Ef e (Gc 5 Z ?_));refine vX (I (u.length:Int)) (QbE (l:=u) underlying78 Z) ?_;exact Go 5 Z (Rt h 4 [])
end Go.Sw
