/- What the functions compute that ProtestsDeadline reaches, and that their calls refine it (part 3 of 4). -/
import Derived.Test.YthihlfoplokmiaaGreatDoorW21De2
set_option linter.unusedVariables false
set_option linter.unusedSimpArgs false
set_option maxRecDepth 100000
set_option maxHeartbeats 4000000
namespace Go.Sw
open Go.Proofs Tryz
def F_jh(n:Nat)(f:List (Int×Fact))(b:List Int)(a:(List Fact)×Int):Option (Ctl ((List Fact)×Int) (List Fact)):=
  (bif decide (a.2<(b.length:Int))then(idx b a.2).bind λc=>(some (Qx f c Uk)).bind λd=>(app a.1 [d]).bind λe=>some (.cont (e,IntKind.i64.wrap (a.2+1)))else some (.done a.1))
def F_dm(n:Nat)(a:List (Int×Fact)):Option (List Fact):=
  (F_ed n a).bind λd=>(F_cd n a).bind λc=>(iter (F_jh n a c) n ([],0):Option (List Fact)).bind λb=>some b
theorem k_dm(n:Nat)(g:List (Int×Fact))(r:List Fact)(h:F_dm n g=some r):
    C prog 73 [.map 0] [.map (Qm (λx=>A.int .i64 x) (λx=>A.agg (Fact.c x)) g)] (RQ (λr=>.osl 1 0 r.length 57) (λr=>[.fmap (Qm (λx=>A.int .i64 x) (λx=>A.agg (Fact.c x)) g),.row 68 57 (List.map Fact.c r)]) r):=by
 refine Qb func73 Z Z Z ?_;refine G0 9 Z (Cd [0] h (k_ed _ _) Z λJ B h=>FE Z (Cd [1,0] h (k_cd _ _) Z λL E h=>FE Z (Go 4 Z (Bd h λd y h=>?_))));refine Ct d [0,1] [] (λd=>[(2,.osl 1 0 d.length 57)]) (λd=>[(1,.row 68 57 (List.map Fact.c d))]) Zf ?_ (λenv H z=>?_)
 .refine G0 1 Z ?_;refine Lp [0,0,2] [0,7,8] (λb=>[(2,.osl 1 0 b.1.length 57),(9,I b.2)]) (λb=>[(1,.row 68 57 (List.map Fact.c b.1))]) y Zf ?_ ?_
  .refine En (Er (s:=2) (k:=57) (t:=68) (XT Z) Z) ?_;exact Lr [0,3,2]
  intro b F a p;refine G0 6 Z (YH Z a (λq a=>?_) (λq a=>?_))
  .refine Gc 2 Z (Ql a ?_);obtain rfl:=Oj p a;exact Gx 1 Z (QC (Lr [0,1]))
  refine Gc 6 Z (Bd a λj f a=>?_);refine vX (.ptr 2 (Int.toNat b.2*1)) (Yf f Z runUnderlying40 sizeOf3) ?_;refine vX (I j) (Ez Z isAgg3 Z (Qw f)) ?_;refine Go 7 Z (Bd a λm u a=>?_);refine vX (.agg (Fact.c m)) (Ql0 (ev:=(λx=>A.agg (Fact.c x))) (z0:=Uk) (k:=j) (l:=g) Jh u underlying147 zeroValue68 (zrC Z)) ?_;refine vH (El (xs:=[.tmp 16]) (es:=List.map Fact.c [m]) Qab Z Z Z Z Z ⟨Z,trivial⟩ Z Z) ?_;refine FE Z (Bd a λG w a=>?_);refine vH (QB (e:=Fact.c) w Qab runUnderlying34 (YP (i:=3))) ?_;exact FE Z (Go 8 Z (Qj a (Lr [0,4,2])))
 exact Gx 1 Z (Ef z (Gc 7 Z (Rt h 2 [0,1])))
def F_ht(n:Nat)(k:Course)(l:List Fact)(a:(List (Int×Fact))×Int):Option (Ctl ((List (Int×Fact))×Int) (List (Int×Fact))):=
  (bif decide (a.2<(l.length:Int))then((idx l a.2).bind λb=>((bif (b.Kind != 1)then some true else(F_ae n b).bind λc=>(bif (c != 0)then some true else(bif decide ((k.Distances.length:Int)<=b.Starter.Distance)then some true else some (decide ((k.Waves.length:Int)<=b.Starter.Wave))))):Option Bool).bind λd=>(bif d then some a.1 else(some (Qx a.1 b.Starter.Bib Uk)).bind λe=>((bif (!(Qcl a.1 b.Starter.Bib))then some true else(F_ad n b e).bind λf=>some (decide (f<0))):Option Bool).bind λg=>((bif g then(some (Q5 a.1 b.Starter.Bib b)).bind λh=>some h else some a.1):Option (List (Int×Fact))).bind λi=>some i):Option (List (Int×Fact))).bind λj=>some (.cont (j,IntKind.i64.wrap (a.2+1)))else some (.done a.1))
def F_dc(n:Nat)(c:List Fact)(a:(List Starter)×(List (Int×Bool))×Int):Option (Ctl ((List Starter)×(List (Int×Bool))×Int) (Ctl (List Starter) ((List Starter)×Int))):=
  (bif decide (a.2.2<(c.length:Int))then(idx c a.2.2).bind λb=>(some (Qx a.2.1 b.Starter.Chip false)).bind λd=>(bif d then some (.done (.done ([],180)))else(some (Q5 a.2.1 b.Starter.Chip true)).bind λe=>(app a.1 [b.Starter]).bind λf=>some (.cont (f,e,IntKind.i64.wrap (a.2.2+1))))else some (.done (.cont a.1)))
def F_ck(n:Nat)(e:Course)(g:List Fact):Option ((List Starter)×Int):=
  (F_c n e).bind λf=>(bif (f != 0)then some ([],f)else(iter (F_ht n e g) n ([],0):Option (List (Int×Fact))).bind λb=>(bif decide (4000<(b.length:Int))then some ([],2)else(F_dm n b).bind λc=>(iter (F_dc n c) n ([],[],0):Option (Ctl (List Starter) ((List Starter)×Int))).bind λd=>match d with|.cont a=>(some (a,0))|.done a=>some a))
theorem k_ck(n:Nat)(a1:Course)(a2:List Fact)(r:(List Starter)×Int)(h:F_ck n a1 a2=some r):
    C prog 33 [.agg (Course.c a1),.rsl 57 (List.map Fact.c a2)] [] (RQ (λr=>.tup [.osl 0 0 r.1.length 8,I r.2]) (λr=>[.row 46 8 (List.map Starter.c r.1)]) r):=by
 refine Qb func33 Z Z Z ?_;refine G0 11 Z (Cz [] h (k_c _ _) Z λr1 bd h=>Go 9 Z (Cn Z h (λan h=>?_) (λan h=>?_)))
 .refine Gc 9 Z ?_;obtain rfl:=Oi h;refine R2 4 5 Z Z ?_;refine En (Er (s:=4) (k:=8) (t:=46) (XT Z) Z) ?_;exact Lr [1]
 refine Gc 4 Z ?_;refine vH Yk ?_;refine FE Z (Go 7 Z (Lm Z (Go 3 Z (Bd h λy ai h=>?_))));refine Ct y [1] [4,7] Ze (λy=>[(0,.map (Qm (λx=>A.int .i64 x) (λx=>A.agg (Fact.c x)) y))]) Zf ?_ (λenv H j=>?_)
 .refine G0 1 Z ?_;refine Lp [0,1] [2,4,7,22,23] (λp=>[(24,I p.2)]) (λp=>[(1,.map (Qm (λx=>A.int .i64 x) (λx=>A.agg (Fact.c x)) p.1))]) ai Zf (Lr [0,1]) λp av m N=>?_;refine G0 6 Z (YH Z m (λO m=>?_) (λO m=>?_))
  .refine Gc 2 Z (Ql m ?_);obtain rfl:=Oj N m;exact Gx 1 Z (QC (Lr [1]))
  refine Gc 3 Z (Bd m λE d m=>?_);refine Ct E [0,1] [2,4,7,22,23,24] Ze (λE=>[(1,.map (Qm (λx=>A.int .i64 x) (λx=>A.agg (Fact.c x)) E))]) Zf ?_ (λenv H j=>?_)
  .refine G0 3 Z (Bd d λz P d=>Iz P Z (Go 15 Z (Bd d λF f d=>?_)));refine Ct F [0,1,2,3] [2,4,7,9,10,22,23,24] (λF=>[(53,.bool F)]) Ze Zf ?_ (λenv H j=>?_)
   .refine G0 5 Z (Is 33 f Z (λQ f=>?_) (λQ f=>?_))
    .exact Go 21 Z (Cl f [0,1,2,3])
    .refine Go 1 Z (Cz [] f (k_ae _ _) Z λaw aq f=>Go 3 Z (Is 38 f Z (λR f=>?_) (λR f=>?_)))
     .exact Go 16 Z (Cl f [0,1,2,3])
     .refine Go 4 Z (Lm Z (Go 3 Z (Is 46 f Z (λT f=>?_) (λT f=>?_))))
      .exact Go 8 Z (Cl f [0,1,2,3])
      .exact Go 4 Z (Lm Z (Go 3 Z (Cl f [0,1,2,3])))
   refine Gx 1 Z (Ef j (Cn Z d (λV d=>?_) (λV d=>?_)))
   .exact Gc 3 Z (Cl d [0,1])
   refine Gc 7 Z (Bd d λaj W d=>?_);refine vX (.tup [.agg (Fact.c aj),.bool (Qcl p.1 z.Starter.Bib)]) (Qkk (ev:=(λx=>A.agg (Fact.c x))) (z0:=Uk) (k:=z.Starter.Bib) (l:=p.1) Jh W underlying147 zeroValue68 (zrC Z)) ?_;refine Go 9 Z (Bd d λG q d=>?_);refine Ct G [0,1,2,3] [2,4,7,9,10,22,23,24] (λG=>[(68,.bool G)]) Ze Zf ?_ (λenv H j=>?_)
   .refine G0 4 Z (Is 63 q Z (λX q=>?_) (λX q=>?_))
    .exact Go 6 Z (Cl q [0,1,2,3])
    .exact Go 2 Z (Cz [] q (k_ad _ _ _) Z λax ar q=>Go 3 Z (Cl q [0,1,2,3]))
   refine Gx 1 Z (Ef j (Bd d λJ u d=>?_));refine Ct J [0,1] [2,4,7,22,23,24] Ze (λJ=>[(1,.map (Qm (λx=>A.int .i64 x) (λx=>A.agg (Fact.c x)) J))]) Zf ?_ (λenv H j=>?_)
   .refine G0 0 Z (Cn Z u (λY u=>?_) (λY u=>?_))
    .refine Gc 5 Z (Bd u λay aa u=>?_);refine vU (YG (ev:=(λx=>A.agg (Fact.c x))) (k:=z.Starter.Bib) (v:=z) (l:=p.1) Jh aa Z underlying147) ?_;exact FE Z (Go 1 Z (Cl u [0,1]))
    exact Gc 1 Z (Cl u [0,1])
   refine Gx 1 Z ?_;cases d;exact QC (En j (Lr [0,1]))
  exact Gx 1 Z (Ef j (Gc 4 Z (Qj m (Lr [0,1]))))
 refine Gx 1 Z (Ef j (Gc 4 Z ?_));refine vX (I (y.length:Int)) (QcM (l:=y) underlying147 Z) ?_;refine Go 3 Z (Cn Z h (λab h=>?_) (λab h=>?_))
 .refine Gc 8 Z ?_;obtain rfl:=Oi h;refine R2 4 5 Z Z ?_;refine En (Er (s:=4) (k:=8) (t:=46) (XT Z) Z) ?_;exact Lr [1]
 refine Gc 4 Z ?_;refine vH Yk ?_;refine FE Z (Go 7 Z (Cd [0] h (k_dm _ _) Z λaz au h=>FE Z (Go 4 Z (Bd h λak al h=>?_))));refine CtE (b:=ak) [0] [] (λw=>[(4,.osl 0 0 w.length 8)]) (λw=>[(0,.row 46 8 (List.map Starter.c w))]) Zf ?_ (λw env H ao j=>?_)
 .refine G0 1 Z ?_;refine Lp [0,1,2] [13,79,80] (λg=>[(4,.osl 0 0 g.1.length 8),(81,I g.2.2)]) (λg=>[(0,.row 46 8 (List.map Starter.c g.1)),(1,.map (Qm (λx=>A.int .i64 x) A.bool g.2.1))]) al Zf ?_ ?_
  .refine En (Er (s:=4) (k:=8) (t:=46) (XT Z) Z) ?_;exact Lr [3,1,2]
  intro g ba a L;refine G0 6 Z (YH Z a (λac a=>?_) (λac a=>?_))
  .refine Gc 2 Z (Ql a ?_);obtain rfl:=Oj L a;exact Gx 1 Z (Qo Z (Lr [0]))
  refine Gc 6 Z (Bd a λB M a=>?_);refine vX (.ptr 2 (Int.toNat g.2.2*57)) (Yf M Z runUnderlying34 sizeOf68) ?_;refine vX (.agg (Fact.c B)) (Qi Z isAgg68 sizeOf68 Z (Qw M) Z Z) ?_;refine Go 11 Z (Bd a λam ae a=>?_);refine vX (.bool am) (YC (ev:=A.bool) (z0:=false) (k:=B.Starter.Chip) (l:=g.2.1) Jh ae underlying78 zeroValue4 ZR.bool) ?_;refine Go 2 Z (Cn Z a (λaf a=>?_) (λaf a=>?_))
  .refine Gc 10 Z (QD a ?_);obtain rfl:=Oj L a;refine Gx 1 Z (Qs (Gx 1 Z ?_));obtain rfl:=Oi h;refine R2 4 5 Z Z ?_;refine En (Er (s:=4) (k:=8) (t:=46) (XT Z) Z) ?_;exact Lr [4]
  refine Gc 8 Z (Bd a λbb ag a=>?_);refine vU (YG (ev:=A.bool) (k:=B.Starter.Chip) (v:=true) (l:=g.2.1) Jh ag Z underlying78) ?_;refine FE Z (Go 6 Z ?_);refine vH (El (xs:=[.tmp 96]) (es:=List.map Starter.c [B.Starter]) Qpb Z Z Z Z Z ⟨Z,trivial⟩ Z Z) ?_;refine FE Z (Bd a λbc ah a=>?_);refine vH (QB (e:=Starter.c) ah Qpb runUnderlying95 (YP (i:=4))) ?_;exact FE Z (Go 8 Z (Qj a (Lr [5,1,2])))
 subst ao;refine Gx 1 Z (Ef j (Gc 8 Z ?_));obtain rfl:=Oi h;exact R2 4 5 Z Z (Lr [0])
def F_fq(n:Nat)(a:Starter)(b:Protest)(c:List (Int×Bool)):Option Bool:=
  ((bif (a.Bib==b.By)then(some (Qx c a.Distance false)).bind λd=>some d else some false):Option Bool).bind λe=>some e
theorem k_fq(n:Nat)(b:Starter)(f:Protest)(d:List (Int×Bool))(r:Bool)(h:F_fq n b f d=some r):
    Csm prog 35 [.agg (Starter.c b),.ptr 0 0,.ptr 1 0] [.cells 36 (Protest.c f),.cells 78 [.map 2],.map (Qm (λx=>A.int .i64 x) A.bool d)] (λr=>.bool r) r:=by
 refine Qb func35 Z Z Z ?_;refine G0 7 Z (Bd h λe a h=>?_);refine Ct e [0,1,2] [] (λe=>[(4,.bool e)]) Ze Zf ?_ (λenv H g=>?_)
 .refine G0 7 Z (Is 10 a Z (λi a=>?_) (λi a=>?_))
  .refine Go 3 Z (Bd a λm j a=>?_);refine vX (.bool m) (YC (ev:=A.bool) (z0:=false) (k:=b.Distance) (l:=d) Jh j underlying78 zeroValue4 ZR.bool) ?_ (gT Z);exact Go 3 Z (Cl a [0,1,2])
  .exact Go 7 Z (Cl a [0,1,2])
 exact Gx 1 Z (Ef g (Gc 1 Z (Rt h 4 [0,1,2])))
def F_io(n:Nat)(b:List Starter)(e:Protest)(f:List (Int×Bool))(a:Int):Option (Ctl Int (Ctl Unit Int)):=
  (bif decide (a<(b.length:Int))then(idx b a).bind λc=>(F_fq n c e f).bind λd=>(bif d then some (.done (.done a))else some (.cont (IntKind.i64.wrap (a+1))))else some (.done (.cont ())))
def F_fk(n:Nat)(c:List Starter)(d:Protest)(e:List (Int×Bool)):Option Int:=
  (iter (F_io n c d e) n 0:Option (Ctl Unit Int)).bind λb=>match b with|.cont a=>(some (-1))|.done a=>some a
theorem k_fk(n:Nat)(g:List Starter)(k:Protest)(l:List (Int×Bool))(r:Int)(h:F_fk n g k l=some r):
    Csm prog 74 [.osl 0 0 g.length 8,.fn (.func 35) [] [.ptr 1 0,.ptr 2 0]] [.row 46 8 (List.map Starter.c g),.cells 36 (Protest.c k),.cells 78 [.map 3],.map (Qm (λx=>A.int .i64 x) A.bool l)] (λr=>I r) r:=by
 refine Qb func74 Z Z Z ?_;refine G0 13 Z (Bd h λm p h=>?_);refine CtE (b:=m) [0,1,2,3] [] Ze Ze Zf ?_ (λu env H q s=>?_)
 .refine G0 1 Z ?_;refine Lp [0,1,2,3] [0,1,7] (λd=>[(8,I d)]) Ze p Zf (Lr [0,1,2,3]) λd y a e=>?_;refine G0 6 Z (YH Z a (λi a=>?_) (λi a=>?_))
  .refine Gc 2 Z (Ql a ?_);obtain rfl:=Oj e a;exact Gx 1 Z (Qo Z (Lr [0,1,2,3]))
  refine Gc 15 Z (Bd a λt f a=>?_);refine vX (.ptr 0 (Int.toNat d*8)) (Yf f Z runUnderlying95 sizeOf46) ?_;refine vX (.agg (Starter.c t)) (Qi Z isAgg46 sizeOf46 Z (Qw f) Z Z) ?_;refine Cz [1,2,3] a (k_fq _ _ _ _) Z λz w a=>Go 2 Z (Cn Z a (λj a=>?_) (λj a=>?_))
  .refine Gc 9 Z (QD a ?_);obtain rfl:=Oj e a;exact Gx 1 Z (Qs (Gx 1 Z (Rt h 4 [0,1,2,3])))
  exact Gc 7 Z (Qj a (Lr [0,1,2,3]))
 subst q;exact Gx 1 Z (Ef s (Gc 6 Z (Rt h 4 [0,1,2,3])))
def F_fg(n:Nat)(a:List Starter)(b:Protest)(c:List (Int×Bool)):Option Bool:=
  (F_fk n a b c).bind λd=>some (decide (0<=d))
theorem k_fg(n:Nat)(a:List Starter)(b:Protest)(d:List (Int×Bool))(r:Bool)(h:F_fg n a b d=some r):
    Csm prog 34 [.osl 0 0 a.length 8,.fn (.func 35) [] [.ptr 1 0,.ptr 2 0]] [.row 46 8 (List.map Starter.c a),.cells 36 (Protest.c b),.cells 78 [.map 3],.map (Qm (λx=>A.int .i64 x) A.bool d)] (λr=>.bool r) r:=by
 refine Qb func34 Z Z Z ?_;exact G0 9 Z (Cz [0,1,2,3] h (k_fk _ _ _ _) Z λf e h=>Go 5 Z (Rt h 4 [0,1,2,3]))
def F_ho(n:Nat)(c:(List (Int×Bool))×Bool)(a:Fact):Option (Ctl ((List (Int×Bool))×Bool) Bool):=
  (some (Q5 c.1 (IntKind.i64.wrap (a.Report.Bib+a.Ruling.Bib)) true)).bind λb=>some (.cont (b,true))
def F_je(n:Nat)(d:List (Int×Bool))(b:(List Starter)×Int)(a:(List (Int×Bool))×Int):Option (Ctl ((List (Int×Bool))×Int) (List (Int×Bool))):=
  (bif decide (a.2<(b.1.length:Int))then(idx b.1 a.2).bind λc=>(some (Qx d c.Bib false)).bind λe=>((bif e then(some (Q5 a.1 c.Distance true)).bind λf=>some f else some a.1):Option (List (Int×Bool))).bind λg=>some (.cont (g,IntKind.i64.wrap (a.2+1)))else some (.done a.1))
def F_ab(n:Nat)(j:Course)(e:List Fact)(b:Protest):Option Bool:=
  (F_ah n e b.Case).bind λl=>(F_aj n e b.Case).bind λy2=>(Qen (F_ho n) y2.1 ([],false):Option (Ctl ((List (Int×Bool))×Bool) Bool)).bind λk=>match k with|.cont a=>((some (mdel a.1 0)).bind λd=>((bif (!a.2)then some true else(bif (b.By==0)then some true else(some (Qx d b.By false)).bind λf=>some f)):Option Bool).bind λg=>(bif g then some a.2 else(F_ck n j e).bind λc=>(bif (c.2 != 0)then some false else(iter (F_je n d c) n ([],0):Option (List (Int×Bool))).bind λh=>(F_fg n c.1 b h).bind λi=>some i)))|.done a=>some a
theorem k_ab(n:Nat)(u:Course)(T:List Fact)(g:Protest)(r:Bool)(h:F_ab n u T g=some r):
    Csm prog 15 [.agg (Course.c u),.rsl 57 (List.map Fact.c T),.agg (Protest.c g)] [] (λr=>.bool r) r:=by
 refine Qb func15 Z Z Z ?_;refine G0 9 Z ?_;refine vH Yk ?_;refine FE Z (Go 16 Z (Cd [] h (k_ah _ _ _) Z λr1 af h=>FE Z (Go 3 Z (Bd h λy2 hy2 h=>Bd h λD9 V h=>?_))));refine QdP [5,6] (λw=>[.cells 33 (Course.c u),.cells 36 (Protest.c g),.map (Qm (λx=>A.int .i64 x) A.bool w.1),.cells 78 [.map 2],.cells 4 [.bool w.2],.dead,.dead]) V (k_aj _ _ _ _ hy2) Zf call71 Z Z Z Z (by decide) Z (Lr [0,1,2,3,4,5,6]) ?_ ?_
 .intro w W ag i ab;refine G0 4 Z (And.intro Z ?_);refine G0 15 Z (Bd i λah B i=>?_);refine vU (YG (ev:=A.bool) (k:=(IntKind.i64.wrap (W.Report.Bib+W.Ruling.Bib))) (v:=true) (l:=w.1) Jh B Z underlying78) ?_;exact FE Z (Go 2 Z (Qhd i (Lr [0,1,2,3,4,5,6])))
 rintro y rfl;refine Gx 5 Z (Bd h λj E h=>?_);refine vN (OpH.mdel (ev:=A.bool) (k:=0) (l:=y.1) Jh E underlying78) ?_;refine QdN (H:=[.cells 33 (Course.c u),.cells 36 (Protest.c g),.map (Qm (λx=>A.int .i64 x) A.bool j),.cells 78 [.map 2],.cells 4 [.bool y.2],.dead,.dead]) Z ?_;refine Go 4 Z (Bd h λm b h=>?_);refine Ct m [0,1,3,2,4] [1,3,5,7,8] (λm=>[(42,.bool m)]) (λ_=>[(2,.cells 78 [.map 3])]) Zf ?_ (λenv H f=>?_)
 .refine G0 4 Z (Is 32 b Z (λF b=>?_) (λF b=>?_))
  .exact Go 11 Z (Cl b [0,1,3,2,4])
  .refine Go 5 Z (Is 37 b Z (λG b=>?_) (λG b=>?_))
   .exact Go 6 Z (Cl b [0,1,3,2,4])
   .refine Go 3 Z (Bd b λX J b=>?_);refine vX (.bool X) (YC (ev:=A.bool) (z0:=false) (k:=g.By) (l:=j) Jh J underlying78 zeroValue4 ZR.bool) ?_ (gT Z);exact Go 2 Z (Cl b [0,1,3,2,4])
 refine Gx 1 Z (Ef f (Cn Z h (λL h=>?_) (λL h=>?_)))
 .exact Gc 8 Z (Rt h 6 [])
 refine Gc 6 Z (Cd [] h (k_ck _ _ _) Z λz ac h=>FE Z (Go 14 Z (Cn Z h (λM h=>?_) (λM h=>?_))))
 .exact Gc 7 Z (Rt h 6 [])
 refine Gc 4 Z ?_;refine vH Yk ?_;refine FE Z (Go 12 Z (Bd h λp Y h=>?_));refine Ct p [0,3,4,5] [] (λ_=>[(5,.ptr 0 0),(10,.osl 1 0 z.1.length 8),(12,.ptr 2 0)]) (λp=>[(0,.cells 36 (Protest.c g)),(1,.row 46 8 (List.map Starter.c z.1)),(2,.cells 78 [.map 3]),(3,.map (Qm (λx=>A.int .i64 x) A.bool p))]) Zf ?_ (λenv H f=>?_)
 .refine G0 1 Z ?_;refine Lp [1,2,3,5,7,6] [5,7,10,12,53,54] (λe=>[(55,I e.2)]) (λe=>[(1,.cells 78 [.map 2]),(4,.cells 78 [.map 5]),(5,.map (Qm (λx=>A.int .i64 x) A.bool e.1))]) Y Zf (Lr [1,2,3,5,7,6]) λe ai a N=>?_;refine G0 6 Z (YH Z a (λO a=>?_) (λO a=>?_))
  .refine Gc 2 Z (Ql a ?_);obtain rfl:=Oj N a;exact Gx 1 Z (QC (Lr [0,3,4,5]))
  refine Gc 6 Z (Bd a λq s a=>?_);refine vX (.ptr 3 (Int.toNat e.2*8)) (Yf s Z runUnderlying95 sizeOf46) ?_;refine vX (.agg (Starter.c q)) (Qi Z isAgg46 sizeOf46 Z (Qw s) Z Z) ?_;refine Go 9 Z (Bd a λaa P a=>?_);refine vX (.bool aa) (YC (ev:=A.bool) (z0:=false) (k:=q.Bib) (l:=j) Jh P underlying78 zeroValue4 ZR.bool) ?_;refine Go 2 Z (Bd a λt d a=>?_);refine Ct t [0,1,2,3,4,5] [5,7,10,12,53,54,55] Ze (λt=>[(5,.map (Qm (λx=>A.int .i64 x) A.bool t))]) Zf ?_ (λenv H f=>?_)
  .refine G0 0 Z (Cn Z d (λQ d=>?_) (λQ d=>?_))
   .refine Gc 4 Z (Bd d λaj R d=>?_);refine vU (YG (ev:=A.bool) (k:=q.Distance) (v:=true) (l:=e.1) Jh R Z underlying78) ?_;exact FE Z (Go 1 Z (Cl d [0,1,2,3,4,5]))
   exact Gc 1 Z (Cl d [0,1,2,3,4,5])
  exact Gx 2 Z (Ef f (Gc 4 Z (Qj a (Lr [0,1,2,3,4,5]))))
 exact Gx 1 Z (Ef f (Gc 4 Z (Cz [1,0,2,3] h (k_fg _ _ _ _) Z λak ae h=>Go 4 Z (Rt h 6 []))))
def F_ei(n:Nat)(a:Course)(b:List Fact)(c:Protest):Option Bool:=
  (F_ab n a b c).bind λd=>some d
theorem k_ei(n:Nat)(a:Course)(b:List Fact)(d:Protest)(r:Bool)(h:F_ei n a b d=some r):
    Csm prog 46 [.ptr 0 0,.ptr 1 0,.ptr 2 0] [.cells 33 (Course.c a),.cells 34 [.rsl 57 (List.map Fact.c b)],.cells 36 (Protest.c d)] (λr=>.bool r) r:=by
 refine Qb func46 Z Z Z ?_;exact G0 10 Z (Cz [] h (k_ab _ _ _ _) Z λf e h=>Go 4 Z (Rt h 3 [0,1,2]))
def F_cp(n:Nat)(a:Course)(b:List Fact)(c:Protest):Option Bool:=
  (F_ei n a b c).bind λd=>some (!d)
theorem k_cp(n:Nat)(a:Course)(b:List Fact)(d:Protest)(r:Bool)(h:F_cp n a b d=some r):
    Csm prog 48 [.agg [.fn (.func 46) [] [.ptr 0 0,.ptr 1 0,.ptr 2 0]]] [.cells 33 (Course.c a),.cells 34 [.rsl 57 (List.map Fact.c b)],.cells 36 (Protest.c d)] (λr=>.bool r) r:=by
 refine Qb func48 Z Z Z ?_;exact G0 10 Z (Cz [0,1,2] h (k_ei _ _ _ _) Z λf e h=>Go 5 Z (Rt h 2 [0,1,2]))
def F_ex(n:Nat)(a:Protest)(b:Course)(c:List Fact)(d:Fact):Option Int:=
  (F_er n a).bind λh=>(bif (!(a.Form==1))then some 0 else(F_ew n a b).bind λe=>(bif e then some 1 else(F_dx n b c a d).bind λf=>(bif f then some 2 else(F_cp n b c a).bind λg=>(bif g then some 3 else some (-1)))))
theorem k_ex(n:Nat)(a:Protest)(b:Course)(d:List Fact)(g:Fact)(r:Int)(h:F_ex n a b d g=some r):
    Csm prog 76 [.osl 0 0 4 1,.fn (.func 48) [] []] [.rowr 107 1 [[.fn (.func 43) [] [.ptr 1 0]],[.fn (.func 44) [] [.ptr 1 0,.ptr 2 0]],[.fn (.func 45) [] [.ptr 2 0,.ptr 3 0,.ptr 1 0,.ptr 4 0]],[.fn (.func 46) [] [.ptr 2 0,.ptr 3 0,.ptr 1 0]]],.cells 36 (Protest.c a),.cells 33 (Course.c b),.cells 34 [.rsl 57 (List.map Fact.c d)],.cells 68 (Fact.c g)] (λr=>I r) r:=by
 refine Qb func76 Z Z Z ?_;refine G0 17 Z ?_;refine vX (.bool true) (OpV.lss (m:=0) (n:=4) Z Z Z) ?_;refine Go 19 Z ?_;refine vX (.ptr 0 0) (QeH (j:=0) Z Z runUnderlying108 sizeOf107) ?_;refine vX (.agg [.fn (.func 43) [] [.ptr 1 0]]) (Qi Z isAgg107 sizeOf107 Z (Qcf (e:=0) (f:=0) Z) Z Z) ?_;refine Cz [1] h (k_er _ _) Z λw q h=>Go 2 Z (Cn Z h (λi h=>?_) (λi h=>?_))
 .exact Gc 12 Z (Rt h 4 [0,1,2,3,4])
 refine Gc 4 Z ?_;refine vX (I 1) (OpV.add (m:=0) (n:=1) Z Z Z) ?_;refine Go 5 Z ?_;refine vX (.bool true) (OpV.lss (m:=1) (n:=4) Z Z Z) ?_;refine Go 19 Z ?_;refine vX (.ptr 0 1) (QeH (j:=1) Z Z runUnderlying108 sizeOf107) ?_;refine vX (.agg [.fn (.func 44) [] [.ptr 1 0,.ptr 2 0]]) (Qi Z isAgg107 sizeOf107 Z (Qcf (e:=1) (f:=0) Z) Z Z) ?_;refine Cz [1,2] h (k_ew _ _ _) Z λx s h=>Go 2 Z (Cn Z h (λk h=>?_) (λk h=>?_))
 .exact Gc 12 Z (Rt h 4 [0,1,2,3,4])
 refine Gc 4 Z ?_;refine vX (I 2) (OpV.add (m:=1) (n:=1) Z Z Z) ?_;refine Go 5 Z ?_;refine vX (.bool true) (OpV.lss (m:=2) (n:=4) Z Z Z) ?_;refine Go 19 Z ?_;refine vX (.ptr 0 2) (QeH (j:=2) Z Z runUnderlying108 sizeOf107) ?_;refine vX (.agg [.fn (.func 45) [] [.ptr 2 0,.ptr 3 0,.ptr 1 0,.ptr 4 0]]) (Qi Z isAgg107 sizeOf107 Z (Qcf (e:=2) (f:=0) Z) Z Z) ?_;refine Cz [2,3,1,4] h (k_dx _ _ _ _ _) Z λy t h=>Go 2 Z (Cn Z h (λl h=>?_) (λl h=>?_))
 .exact Gc 12 Z (Rt h 4 [0,1,2,3,4])
 refine Gc 4 Z ?_;refine vX (I 3) (OpV.add (m:=2) (n:=1) Z Z Z) ?_;refine Go 5 Z ?_;refine vX (.bool true) (OpV.lss (m:=3) (n:=4) Z Z Z) ?_;refine Go 19 Z ?_;refine vX (.ptr 0 3) (QeH (j:=3) Z Z runUnderlying108 sizeOf107) ?_;refine vX (.agg [.fn (.func 46) [] [.ptr 2 0,.ptr 3 0,.ptr 1 0]]) (Qi Z isAgg107 sizeOf107 Z (Qcf (e:=3) (f:=0) Z) Z Z) ?_;refine Cz [2,3,1] h (k_cp _ _ _ _) Z λz u h=>Go 2 Z (Cn Z h (λp h=>?_) (λp h=>?_))
 .exact Gc 12 Z (Rt h 4 [0,1,2,3,4])
 refine Gc 4 Z ?_;refine vX (I 4) (OpV.add (m:=3) (n:=1) Z Z Z) ?_;refine Go 5 Z ?_;refine vX (.bool false) (OpV.lss (m:=4) (n:=4) Z Z Z) ?_;exact Go 15 Z (Rt h 4 [0,1,2,3,4])
def F_ft(n:Nat)(a:Protest)(b:Course)(c:List Fact)(d:Fact):Option Bool:=
  (F_ex n a b c d).bind λe=>some (decide (0<=e))
theorem k_ft(n:Nat)(a:Protest)(b:Course)(d:List Fact)(e:Fact)(r:Bool)(h:F_ft n a b d e=some r):
    Csm prog 47 [.osl 0 0 4 1,.fn (.func 48) [] []] [.rowr 107 1 [[.fn (.func 43) [] [.ptr 1 0]],[.fn (.func 44) [] [.ptr 1 0,.ptr 2 0]],[.fn (.func 45) [] [.ptr 2 0,.ptr 3 0,.ptr 1 0,.ptr 4 0]],[.fn (.func 46) [] [.ptr 2 0,.ptr 3 0,.ptr 1 0]]],.cells 36 (Protest.c a),.cells 33 (Course.c b),.cells 34 [.rsl 57 (List.map Fact.c d)],.cells 68 (Fact.c e)] (λr=>.bool r) r:=by
 refine Qb func47 Z Z Z ?_;exact G0 9 Z (Cz [0,1,2,3,4] h (k_ex _ _ _ _ _) Z λg f h=>Go 5 Z (Rt h 4 [0,1,2,3,4]))
def F_i(n:Nat)(c:Course)(d:List Fact)(a:Fact):Option Bool:=
  ((F_ae n a).bind λe=>(bif (e != 0)then some true else some (a.Kind != 9)):Option Bool).bind λf=>(bif f then some false else(F_av n d).bind λg=>(F_ch n g a).bind λh=>(F_ft n a.Protest c h a).bind λb=>some (!b))
theorem k_i(n:Nat)(d:Course)(e:List Fact)(f:Fact)(r:Bool)(h:F_i n d e f=some r):
    Csm prog 17 [.agg (Course.c d),.rsl 57 (List.map Fact.c e),.agg (Fact.c f)] [] (λr=>.bool r) r:=by
 refine Qb func17 Z Z Z ?_;refine G0 9 Z (Bd h λb a h=>?_);refine Ct b [0,1] [1,3,5] (λb=>[(17,.bool b)]) Ze Zf ?_ (λenv H g=>?_)
 .refine G0 2 Z (Cz [] a (k_ae _ _) Z λs l a=>Go 2 Z (Is 13 a Z (λi a=>?_) (λi a=>?_)))
  .exact Go 5 Z (Cl a [0,1])
  .exact Go 5 Z (Cl a [0,1])
 refine Gx 1 Z (Ef g (Cn Z h (λj h=>?_) (λj h=>?_)))
 .exact Gc 7 Z (Rt h 6 [])
 refine Gc 13 Z (Cd [] h (k_av _ _) Z λt m h=>FE Z (Go 1 Z (Cd [3,1] h (k_ch _ _ _) Z λu p h=>FE Z (Go 14 Z ?_))));refine vH (YM (xs:=[.tmp 25,.tmp 27,.tmp 29,.tmp 31]) QpZ Z Z Z Z Z ⟨Z,Z,Z,Z,trivial⟩ Z) ?_;refine FE Z (Go 6 Z ?_);refine Et (QaS [(23,_)] Z Z (QnY.cons Z Ep QnY.nil) (Ec (Ec (Ec (Ec (FzH.cells (Ed Ep (Ek _)) (Jk _))))))) ?_;exact Cz [5,2,0,4,1] h (k_ft _ _ _ _ _) Z λq k h=>Go 5 Z (Rt h 6 [])
def F_ic(n:Nat)(a:List (Int×Bool)):Option Unit:=
  some ()
theorem k_ic(n:Nat)(a:List (Int×Bool))(r:Unit)(h:F_ic n a=some r):
    C prog 51 [.map 0] [.map (Qm (λx=>A.int .i64 x) A.bool a)] (RQ (λ_=>.fn (.func 84) [] [.ptr 1 0]) (λ_=>[.map (Qm (λx=>A.int .i64 x) A.bool a),.cells 78 [.map 0]]) r):=by
 refine Qb func51 Z Z Z ?_;exact G0 13 Z (Rt h 2 [0,1])
def F_im(n:Nat)(a:List (Int×Bool)):Option (List Int):=
  QnD (List.map Prod.fst a) λp1=>(sortI p1).bind λb=>some b
theorem k_im(n:Nat)(b:List (Int×Bool))(r:List Int)(h:F_im n b=some r):
    C prog 50 [.fn (.func 84) [] [.ptr 0 0]] [.cells 78 [.map 1],.map (Qm (λx=>A.int .i64 x) A.bool b)] (RQ (λr=>.osl 2 0 r.length 1) (λr=>[.dead,.fmap (Qm (λx=>A.int .i64 x) A.bool b),.row 3 1 (List.map (Qh .i64) r)]) r):=by
 refine Qb func50 Z Z Z ?_;refine G0 8 Z ?_;refine Et (Qk5 (i:=1) Z) ?_;refine QdN (H:=[.cells 78 [.map 1],.fmap (Qm (λx=>A.int .i64 x) A.bool b)]) Z ?_;obtain⟨c,h⟩:=Qk0 h;refine QQ [0,1] (OpC.fn call82 Z Z Z) (Qlm _ c) ?_;rintro _ _ ⟨p1,d,rfl,rfl⟩;have h:=h p1 d;refine FE Z (Go 6 Z (Bd h λe a h=>?_));refine QQ [2] (OpC.fn call83 Z Z Z) (Qlb Qc3 a) ?_;rintro _ _ ⟨rfl,rfl⟩;refine FE Z ?_;refine Et (QT (s:=3) Z (congrArg (λn=>A.osl 2 0 n 1) (Qae a))) ?_;refine Et (QT (s:=5) Z (congrArg (λn=>A.osl 2 0 n 1) (Qae a))) ?_;refine Et (QT (s:=6) Z (congrArg (λn=>A.osl 2 0 n 1) (Qae a))) ?_;exact Go 9 Z (Rt h 2 [0,1,2])
def F_kn(n:Nat)(b:Fact)(c:Bool)(a:Fact):Option (Ctl Bool (List (Int×Bool))):=
  ((bif c then some true else(bif (a.Kind==10)then some (decide (b.At<a.At))else some false)):Option Bool).bind λd=>some (.cont d)
def F_jz(n:Nat)(l:Course)(d:List Fact)(a:(List (Int×Bool))×Int):Option (Ctl ((List (Int×Bool))×Int) (List (Int×Bool))):=
  (bif decide (a.2<(d.length:Int))then((idx d a.2).bind λb=>((some (Qx a.1 b.Protest.Case false)).bind λe=>(bif e then some true else(F_i n l d b).bind λf=>some (!f)):Option Bool).bind λg=>(bif g then some a.1 else(F_ah n d b.Protest.Case).bind λm=>(F_aj n d b.Protest.Case).bind λy248=>(Qen (F_kn n b) y248.1 false:Option (Ctl Bool (List (Int×Bool)))).bind λh=>match h with|.cont c=>(((bif (!c)then(some (Q5 a.1 b.Protest.Case true)).bind λi=>some i else some a.1):Option (List (Int×Bool))).bind λj=>some j)|.done c=>some c):Option (List (Int×Bool))).bind λk=>some (.cont (k,IntKind.i64.wrap (a.2+1)))else some (.done a.1))
def F_de(n:Nat)(c:Course)(d:List Fact):Option (List Int):=
  (iter (F_jz n c d) n ([],0):Option (List (Int×Bool))).bind λa=>(F_ic n a).bind λe=>(F_im n a).bind λb=>some b
theorem k_de(n:Nat)(O:Course)(T:List Fact)(r:List Int)(h:F_de n O T=some r):
    C prog 20 [.agg (Course.c O),.rsl 57 (List.map Fact.c T)] [] (RQ (λr=>.osl 0 0 r.length 1) (λr=>[.row 3 1 (List.map (Qh .i64) r)]) r):=by
 refine Qb func20 Z Z Z ?_;refine G0 8 Z ?_;refine vH Yk ?_;refine FE Z (Go 7 Z (Lm Z (Go 3 Z (Bd h λj P h=>?_))));refine Ct j [1] [5] Ze (λj=>[(0,.map (Qm (λx=>A.int .i64 x) A.bool j))]) Zf ?_ (λenv H i=>?_)
 .refine G0 1 Z ?_;refine Lp [0,1] [1,2,5,11,12] (λf=>[(13,I f.2)]) (λf=>[(1,.map (Qm (λx=>A.int .i64 x) A.bool f.1))]) P Zf (Lr [0,1]) λf ab e y=>?_;refine G0 6 Z (YH Z e (λz e=>?_) (λz e=>?_))
  .refine Gc 2 Z (Ql e ?_);obtain rfl:=Oj y e;exact Gx 1 Z (QC (Lr [1]))
  refine Gc 3 Z (Bd e λm a e=>?_);refine Ct m [0,1] [1,2,5,11,12,13] Ze (λm=>[(1,.map (Qm (λx=>A.int .i64 x) A.bool m))]) Zf ?_ (λenv H i=>?_)
  .refine G0 3 Z (Bd a λp B a=>Iz B Z (Go 7 Z (Bd a λq b a=>?_)));refine Ct q [0,1,2] [1,2,5,7,11,12,13] (λq=>[(28,.bool q)]) Ze Zf ?_ (λenv H i=>?_)
   .refine G0 5 Z (Bd b λQ E b=>?_);refine vX (.bool Q) (YC (ev:=A.bool) (z0:=false) (k:=p.Protest.Case) (l:=f.1) Jh E underlying78 zeroValue4 ZR.bool) ?_;refine Go 1 Z (Is 22 b Z (λF b=>?_) (λF b=>?_))
    .exact Go 7 Z (Cl b [0,1,2])
    .exact Go 3 Z (Cz [] b (k_i _ _ _ _) Z λac V b=>Go 3 Z (Cl b [0,1,2]))
   refine Gx 1 Z (Ef i (Cn Z a (λG a=>?_) (λG a=>?_)))
   .exact Gc 3 Z (Cl a [0,1])
   refine Gc 15 Z (Cd [] a (k_ah _ _ _) Z λae W a=>FE Z (Go 3 Z (Bd a λy248 hy248 a=>Bd a λaf R a=>?_)));refine QdP [4,5] (λw=>[.cells 33 (Course.c O),.map (Qm (λx=>A.int .i64 x) A.bool f.1),.cells 68 (Fact.c p),.cells 4 [.bool w],.dead,.dead]) R (k_aj _ _ _ _ hy248) Zf call71 Z Z Z Z (by decide) Z (Lr [0,1,2,3,4,5]) ?_ ?_
   .intro w ag ah s X;refine G0 4 Z (And.intro Z ?_);refine G0 1 Z (Bd s λt d s=>?_);refine Ct t [0,1,2,3,4,5] [] Ze (λt=>[(3,.cells 4 [.bool t])]) Zf ?_ (λenv H i=>?_)
    .refine G0 3 Z (Is 36 d Z (λJ d=>?_) (λJ d=>?_))
     .exact Go 13 Z (Cl d [0,1,2,3,4,5])
     .refine Go 4 Z (Is 40 d Z (λL d=>?_) (λL d=>?_))
      .exact Go 9 Z (Cl d [0,1,2,3,4,5])
      .exact Go 9 Z (Cl d [0,1,2,3,4,5])
    exact Gx 1 Z (Qhd s (En i (Lr [0,1,2,3,4,5])))
   rintro ai rfl;refine Gx 8 Z (Bd a λu g a=>?_);refine Ct u [0,1] [1,2,5,11,12,13] Ze (λu=>[(1,.map (Qm (λx=>A.int .i64 x) A.bool u))]) Zf ?_ (λenv H i=>?_)
   .refine G0 0 Z (Cn Z g (λM g=>?_) (λM g=>?_))
    .refine Gc 5 Z (Bd g λaj N g=>?_);refine vU (YG (ev:=A.bool) (k:=p.Protest.Case) (v:=true) (l:=f.1) Jh N Z underlying78) ?_;exact FE Z (Go 1 Z (Cl g [0,1]))
    exact Gc 1 Z (Cl g [0,1])
   refine Gx 1 Z ?_;cases a;exact QC (En i (Lr [0,1]))
  exact Gx 1 Z (Ef i (Gc 4 Z (Qj e (Lr [0,1]))))
 exact Gx 1 Z (Ef i (Gc 3 Z (Cd [0] h (k_ic _ _) Z λak Y h=>FE Z (Cd [1,0] h (k_im _ _) Z λal aa h=>FE Z (Go 4 Z (Rt h 4 [2]))))))
def F_jx(n:Nat)(b:List Int)(e:List Int)(a:Int):Option (Ctl Int (Ctl Unit Bool)):=
  (bif decide (a<(b.length:Int))then(idx b a).bind λc=>(idx e a).bind λd=>(bif (c != d)then some (.done (.done false))else some (.cont (IntKind.i64.wrap (a+1))))else some (.done (.cont ())))
def F_hv(n:Nat)(b:List Int)(c:List Int):Option Bool:=
  (bif ((b.length:Int) != (c.length:Int))then some false else(iter (F_jx n b c) n 0:Option (Ctl Unit Bool)).bind λd=>match d with|.cont a=>(some true)|.done a=>some a)
theorem k_hv(n:Nat)(j:List Int)(k:List Int)(r:Bool)(h:F_hv n j k=some r):
    Csm prog 19 [.rsl 1 (List.map (Qh .i64) j),.rsl 1 (List.map (Qh .i64) k)] [] (λr=>.bool r) r:=by
 refine Qb func19 Z Z Z ?_;refine G0 9 Z (Lm Z (Go 1 Z (Lm Z (Go 3 Z (Cn Z h (λl h=>?_) (λl h=>?_))))))
 .exact Gc 7 Z (Rt h 4 [])
 refine Gc 8 Z (Bd h λm p h=>?_);refine CtE (b:=m) [] [] Ze Ze Zf ?_ (λw env H q s=>?_)
 .refine G0 1 Z ?_;refine Lp [] [0,1] (λd=>[(5,I d)]) Ze p Zf (Lr []) λd y a c=>?_;refine G0 5 Z (Lm Z (Go 3 Z (YH Z a (λe a=>?_) (λe a=>?_))))
  .refine Gc 2 Z (Ql a ?_);obtain rfl:=Oj c a;exact Gx 1 Z (Qo Z (Lr []))
  refine Gc 5 Z (DSs 8 Z (D 2 Z ?_));obtain⟨t,f,a⟩:=bnd a;refine DS.wo (x:=.rp [I t]) ?_ ?_
  .exact Ix f runUnderlying40 sizeOf3 Z Wp
  refine D 3 Z ?_;obtain⟨u,g,a⟩:=bnd a;refine DS.wo (x:=.rp [I u]) ?_ ?_
  .exact Ix g runUnderlying40 sizeOf3 Z Wp
  refine D 1 Z (Eh Z (Go 3 Z (Cn Z a (λi a=>?_) (λi a=>?_))))
  .refine Gc 8 Z (QD a ?_);obtain rfl:=Oj c a;exact Gx 1 Z (Qs (Gx 1 Z (Rt h 4 [])))
  exact Gc 8 Z (Qj a (Lr []))
 subst q;exact Gx 1 Z (Ef s (Gc 6 Z (Rt h 4 [])))
abbrev lit_1:List Fact:=[{Uk with No:=1,At:=100,Kind:=8,Report:={Case:=1,Bib:=5,Offence:=0,Position:=0:Report}:Fact},{Uk with No:=2,Kind:=1,Starter:={Ut with Bib:=5,Chip:=5:Starter}:Fact},{Uk with No:=3,Kind:=1,Starter:={Ut with Bib:=6,Chip:=6:Starter}:Fact},{Uk with No:=4,Kind:=1,Starter:={Ut with Bib:=7,Distance:=1,Chip:=7:Starter}:Fact}]
abbrev lit_2:List Distance:=[{Name:=[98,114,105,101,102],Route:=[Un,{Un with Mat:=1:Part}],Timing:=1,Cutoffs:=[],Extra:=(-1):Distance},{Name:=[108,111,110,103],Route:=[Un,{Un with Mat:=1:Part}],Timing:=1,Cutoffs:=[],Extra:=(-1):Distance}]
abbrev lit_5:Fact:={Uk with No:=5,At:=150,Kind:=9,Protest:={Case:=1,By:=6,Fee:=500,Form:=1:Protest}:Fact}
abbrev lit_3:List Fact:=[lit_5,{Uk with No:=6,At:=160,Kind:=10,Ruling:={Ur with Case:=1,Instance:=1,Kind:=2:Ruling}:Fact}]
abbrev lit_4:List Fact:=[lit_5]
abbrev lit_6:Fact:={Uk with No:=5,At:=151,Kind:=9,Protest:={Case:=1,By:=6,Fee:=500,Form:=1:Protest}:Fact}
abbrev lit_7:List Mat:=[{Name:=[108,105,110,101],Kind:=1:Mat},{Name:=[102,105,110,105,115,104],Kind:=3:Mat}]
abbrev lit_8:List Wave:=[{Name:=[101,108,105,116,101],Gun:=0:Wave}]
abbrev lit_9:List Leg:=[{From:=0,To:=1,Min:=10,Max:=100:Leg}]
abbrev lit_10:List Step:=[{Uu with Kind:=1,By:=4:Step}]
abbrev lit_0:Course:={Name:=[115,97,109,112,108,101],Mats:=lit_7,Legs:=lit_9,Distances:=lit_2,Waves:=lit_8,Offences:=[],Categories:=[],Prizes:=[],Ties:=lit_10,Faults:=Ul,Fee:=500,Deadline:=50:Course}
def F_hd(n:Nat):Option Bool:=
  (F_if n).bind λr=>(F_w n (lit_0) lit_1 1).bind λa=>(F_w n (lit_0) [] 1).bind λk=>(app lit_1 lit_4).bind λl=>(F_de n (lit_0) l).bind λm=>(app lit_1 lit_3).bind λp=>(F_de n (lit_0) p).bind λq=>((bif (a.1==150)then(bif a.2 then(bif (!k.2)then(F_ab n (lit_0) lit_1 ({Case:=1,By:=6,Fee:=500,Form:=1:Protest})).bind λb=>(bif b then(F_ab n (lit_0) lit_1 ({Case:=1,By:=7,Fee:=0,Form:=0:Protest})).bind λc=>(bif (!c)then(F_ab n (lit_0) [] ({Case:=1,By:=6,Fee:=500,Form:=1:Protest})).bind λd=>some (!d)else some false)else some false)else some false)else some false)else some false):Option Bool).bind λe=>((bif e then(F_i n (lit_0) lit_1 (lit_5)).bind λf=>(bif f then(F_i n (lit_0) lit_1 (lit_6)).bind λg=>(bif (!g)then(F_i n (lit_0) lit_1 Uk).bind λh=>(bif (!h)then(F_hv n m [1]).bind λi=>(bif i then some ((q.length:Int)==0)else some false)else some false)else some false)else some false)else some false):Option Bool).bind λj=>some j
theorem k_hd(n:Nat)(r:Bool)(h:F_hd n=some r):
    Csm prog 10 [] [] (λr=>.bool r) r:=by
 refine Qb func10 Z Z Z ?_;refine G0 7 Z (Cd [] h (k_if _) Z λr1 X h=>?_);refine aV (.agg [.str [115,97,109,112,108,101],.osl 0 0 (lit_7.length) 2,.osl 1 0 (lit_9.length) 4,.osl 2 0 (lit_2.length) 5,.osl 3 0 (lit_8.length) 2,.rsl 4 (List.map Offence.c []),.rsl 3 (List.map Category.c []),.rsl 4 (List.map Prize.c []),.osl 4 0 (lit_10.length) 8,I 0,I 0,I 0,I 0,I 0,I 500,I 50]) [.row 88 2 (List.map Mat.c lit_7),.row 131 4 (List.map Leg.c lit_9),.row 86 5 (List.map Distance.c lit_2),.row 133 2 (List.map Wave.c lit_8),.row 138 8 (List.map Step.enc lit_10),.cells 33 [.str [115,97,109,112,108,101],.osl 0 0 (lit_7.length) 2,.osl 1 0 (lit_9.length) 4,.osl 2 0 (lit_2.length) 5,.osl 3 0 (lit_8.length) 2,.rsl 4 (List.map Offence.c []),.rsl 3 (List.map Category.c []),.rsl 4 (List.map Prize.c []),.osl 4 0 (lit_10.length) 8,I 0,I 0,I 0,I 0,I 0,I 500,I 50]] Z Z ?_;refine Go 14 Z ?_;refine vH (QnR (xs:=[.tmp 14,.tmp 16,.tmp 18,.tmp 20]) (es:=List.map Fact.c lit_1) Qab Z Z Z Z Z ⟨Z,Z,Z,Z,trivial⟩ Z Z) ?_;refine aV (.osl 7 0 (lit_1.length) 57) [_,_,_,_,_,_,_,.frow 68 57 (List.map Fact.c lit_1)] Z Z ?_;refine Go 7 Z ?_;refine Et (Le.frow (s:=24) Z Z Z) ?_;refine Et (QaS [(12,_),(23,_)] Z Z (QnY.cons Z (FzA.agg (Ed (Ee _) (Ed Ep (Ek _)))) (QnY.cons Z (FzA.agg (Ed (Ee _) (Ed Ep (Ek _)))) QnY.nil)) (Ec (Ec (Ec (Ec (Ec (FzH.cells (Ed (Ee _) (Ed Ep (Ek _))) (FzH.cells (Ed (Ee _) (Ed Ep (Ek _))) (Jk _))))))))) ?_;refine Et (QaS [(12,_),(23,_)] Z Z (QnY.cons Z (FzA.agg (Ed (Ee _) (Ed (Ee _) (Ed Ep (Ek _))))) (QnY.cons Z (FzA.agg (Ed (Ee _) (Ed (Ee _) (Ed Ep (Ek _))))) QnY.nil)) (Ec (Ec (Ec (Ec (Ec (FzH.cells (Ed (Ee _) (Ed (Ee _) (Ed Ep (Ek _)))) (FzH.cells (Ed (Ee _) (Ed (Ee _) (Ed Ep (Ek _)))) (Jk _))))))))) ?_;refine Et (QaS [(12,_),(23,_)] Z Z (QnY.cons Z (FzA.agg (Ed (Ee _) (Ed (Ee _) (Ed (Ee _) (Ed Ep (Ek _)))))) (QnY.cons Z (FzA.agg (Ed (Ee _) (Ed (Ee _) (Ed (Ee _) (Ed Ep (Ek _)))))) QnY.nil)) (Ec (Ec (Ec (Ec (Ec (FzH.cells (Ed (Ee _) (Ed (Ee _) (Ed (Ee _) (Ed Ep (Ek _))))) (FzH.cells (Ed (Ee _) (Ed (Ee _) (Ed (Ee _) (Ed Ep (Ek _))))) (Jk _))))))))) ?_;refine Et (QaS [(12,_),(23,_)] Z Z (QnY.cons Z (FzA.agg (Ed (Ee _) (Ed (Ee _) (Ed (Ee _) (Ed (Ee _) (Ed Ep (Ek _))))))) (QnY.cons Z (FzA.agg (Ed (Ee _) (Ed (Ee _) (Ed (Ee _) (Ed (Ee _) (Ed Ep (Ek _))))))) QnY.nil)) (Ec (Ec (Ec (Ec (Ec (FzH.cells (Ed (Ee _) (Ed (Ee _) (Ed (Ee _) (Ed (Ee _) (Ed Ep (Ek _)))))) (FzH.cells (Ed (Ee _) (Ed (Ee _) (Ed (Ee _) (Ed (Ee _) (Ed Ep (Ek _)))))) (Jk _))))))))) ?_;refine Et (QaS [(12,_),(23,_)] Z Z (QnY.cons Z (FzA.agg (Ed (Ee _) (Ed (Ee _) (Ed (Ee _) (Ed (Ee _) (Ed (Ee _) (Ed (Ee _) (Ed (Ee _) (Ed (Ee _) (Ed Ep (Ek _))))))))))) (QnY.cons Z (FzA.agg (Ed (Ee _) (Ed (Ee _) (Ed (Ee _) (Ed (Ee _) (Ed (Ee _) (Ed (Ee _) (Ed (Ee _) (Ed (Ee _) (Ed Ep (Ek _))))))))))) QnY.nil)) (Ec (Ec (Ec (Ec (Ec (FzH.cells (Ed (Ee _) (Ed (Ee _) (Ed (Ee _) (Ed (Ee _) (Ed (Ee _) (Ed (Ee _) (Ed (Ee _) (Ed (Ee _) (Ed Ep (Ek _)))))))))) (FzH.cells (Ed (Ee _) (Ed (Ee _) (Ed (Ee _) (Ed (Ee _) (Ed (Ee _) (Ed (Ee _) (Ed (Ee _) (Ed (Ee _) (Ed Ep (Ek _)))))))))) (Jk _))))))))) ?_;refine Cd [] h (k_w _ _ _ _) Z λd Y h=>?_;refine aV (.tup [I d.1,.bool d.2]) [.dead,.dead,.dead,.dead,.dead,.cells 33 [.str [115,97,109,112,108,101],.rsl 2 (List.map Mat.c lit_7),.rsl 4 (List.map Leg.c lit_9),.rsl 5 (List.map Distance.c lit_2),.rsl 2 (List.map Wave.c lit_8),.rsl 4 (List.map Offence.c []),.rsl 3 (List.map Category.c []),.rsl 4 (List.map Prize.c []),.rsl 8 (List.map Step.enc lit_10),I 0,I 0,I 0,I 0,I 0,I 500,I 50],.cells 33 [.str [115,97,109,112,108,101],.rsl 2 (List.map Mat.c lit_7),.rsl 4 (List.map Leg.c lit_9),.rsl 5 (List.map Distance.c lit_2),.rsl 2 (List.map Wave.c lit_8),.rsl 4 (List.map Offence.c []),.rsl 3 (List.map Category.c []),.rsl 4 (List.map Prize.c []),.rsl 8 (List.map Step.enc lit_10),I 0,I 0,I 0,I 0,I 0,I 500,I 50],_,.cells 3 [I d.1],.cells 4 [.bool d.2]] Z Z ?_;refine Go 10 Z (Bd h λf J h=>?_);refine QQ [] (OpC.fn call13 Z Z Z) (C.nils (Qkn.eq (Qkn.nl (Qkn.eq Qkn.nil))) (k_w _ _ _ _ _ J)) ?_;rintro _ _ ⟨rfl,rfl⟩;refine aV (.tup [I f.1,.bool f.2]) [_,_,_,_,_,_,_,_,_,_,.cells 3 [I f.1],.cells 4 [.bool f.2]] Z Z ?_;refine Go 29 Z ?_;obtain⟨l,L,h⟩:=bnd h;refine Qb4 5 0 [37,38,39,40,41] [false,false,false,false,true] [[],[],[],[],[]] [[],[4]] [[(0,0),(1,1)],[(0,0)],[(0,0)],[(0,0)],[(0,1)]] [.agg [.str [115,97,109,112,108,101],.rsl 2 (List.map Mat.c lit_7),.rsl 4 (List.map Leg.c lit_9),.rsl 5 (List.map Distance.c lit_2),.rsl 2 (List.map Wave.c lit_8),.rsl 4 (List.map Offence.c []),.rsl 3 (List.map Category.c []),.rsl 4 (List.map Prize.c []),.rsl 8 (List.map Step.enc lit_10),I 0,I 0,I 0,I 0,I 0,I 500,I 50],.osl 7 0 (lit_1.length) 57,.agg (Fact.c (lit_5)),.rsl 57 (List.map Fact.c lit_4),.rsl 57 (List.map Fact.c l)] [[.dead,.dead,.dead,.dead,.dead,.cells 33 [.str [115,97,109,112,108,101],.rsl 2 (List.map Mat.c lit_7),.rsl 4 (List.map Leg.c lit_9),.rsl 5 (List.map Distance.c lit_2),.rsl 2 (List.map Wave.c lit_8),.rsl 4 (List.map Offence.c []),.rsl 3 (List.map Category.c []),.rsl 4 (List.map Prize.c []),.rsl 8 (List.map Step.enc lit_10),I 0,I 0,I 0,I 0,I 0,I 500,I 50],.cells 33 [.str [115,97,109,112,108,101],.rsl 2 (List.map Mat.c lit_7),.rsl 4 (List.map Leg.c lit_9),.rsl 5 (List.map Distance.c lit_2),.rsl 2 (List.map Wave.c lit_8),.rsl 4 (List.map Offence.c []),.rsl 3 (List.map Category.c []),.rsl 4 (List.map Prize.c []),.rsl 8 (List.map Step.enc lit_10),I 0,I 0,I 0,I 0,I 0,I 500,I 50],.frow 68 57 (List.map Fact.c lit_1),.cells 3 [I d.1],.cells 4 [.bool d.2],.cells 3 [I f.1],.cells 4 [.bool f.2],.cells 68 (Fact.c (lit_5)),.cells 68 (Fact.c (lit_6))],[.dead,.dead,.dead,.dead,.dead,.cells 33 [.str [115,97,109,112,108,101],.rsl 2 (List.map Mat.c lit_7),.rsl 4 (List.map Leg.c lit_9),.rsl 5 (List.map Distance.c lit_2),.rsl 2 (List.map Wave.c lit_8),.rsl 4 (List.map Offence.c []),.rsl 3 (List.map Category.c []),.rsl 4 (List.map Prize.c []),.rsl 8 (List.map Step.enc lit_10),I 0,I 0,I 0,I 0,I 0,I 500,I 50],.cells 33 [.str [115,97,109,112,108,101],.rsl 2 (List.map Mat.c lit_7),.rsl 4 (List.map Leg.c lit_9),.rsl 5 (List.map Distance.c lit_2),.rsl 2 (List.map Wave.c lit_8),.rsl 4 (List.map Offence.c []),.rsl 3 (List.map Category.c []),.rsl 4 (List.map Prize.c []),.rsl 8 (List.map Step.enc lit_10),I 0,I 0,I 0,I 0,I 0,I 500,I 50],.frow 68 57 (List.map Fact.c lit_1),.cells 3 [I d.1],.cells 4 [.bool d.2],.cells 3 [I f.1],.cells 4 [.bool f.2],.cells 68 (Fact.c (lit_5)),.cells 68 (Fact.c (lit_6)),.dead]] ([.dead,.dead,.dead,.dead,.dead,.cells 33 [.str [115,97,109,112,108,101],.rsl 2 (List.map Mat.c lit_7),.rsl 4 (List.map Leg.c lit_9),.rsl 5 (List.map Distance.c lit_2),.rsl 2 (List.map Wave.c lit_8),.rsl 4 (List.map Offence.c []),.rsl 3 (List.map Category.c []),.rsl 4 (List.map Prize.c []),.rsl 8 (List.map Step.enc lit_10),I 0,I 0,I 0,I 0,I 0,I 500,I 50],.cells 33 [.str [115,97,109,112,108,101],.rsl 2 (List.map Mat.c lit_7),.rsl 4 (List.map Leg.c lit_9),.rsl 5 (List.map Distance.c lit_2),.rsl 2 (List.map Wave.c lit_8),.rsl 4 (List.map Offence.c []),.rsl 3 (List.map Category.c []),.rsl 4 (List.map Prize.c []),.rsl 8 (List.map Step.enc lit_10),I 0,I 0,I 0,I 0,I 0,I 500,I 50],.frow 68 57 (List.map Fact.c lit_1),.cells 3 [I d.1],.cells 4 [.bool d.2],.cells 3 [I f.1],.cells 4 [.bool f.2],.cells 68 (Fact.c (lit_5)),.cells 68 (Fact.c (lit_6)),.dead]) draws Z Z Z Z Z Z Z ?_ Z ?_
 .refine QhU.cons (Qf (v0 Z Z) (Qf (v0 Z Z) (Ya))) (QhU.cons (Qf (v0 Z Z) (Ya)) (QhU.cons (Qf (v0 Z Z) (Ya)) (QhU.cons ?_ (QhU.cons ?_ (QhU.nil)))))
  .refine Qf ?_ (Ya)
   .refine Om Z (sD 2 sN) ?_;refine vH (YX (xs:=[.tmp 39]) (es:=List.map Fact.c lit_4) Qab Z Z Z Z Z ⟨Z,trivial⟩ Z Z) ?_;refine aV (.rsl 57 (List.map Fact.c lit_4)) [_,_,_,_,_,_,_,_,_,_,_,_,_,_] Z Z ?_;exact Wp
  .refine Qf ?_ (Ya)
   .refine Om1 Z (sD 1 (sD 3 sN)) ?_;refine vH (Qjk (e:=Fact.c) (m:=lit_4) L Qab runUnderlying34 Qai) ?_;refine aV (.osl 14 0 l.length 57) [_,_,_,_,_,_,_,_,_,_,_,_,_,_,.row 68 57 (List.map Fact.c l)] Z Z ?_;refine Et (QaS [(41,_)] Z Z (QnY.cons Z Ep QnY.nil) (Ec (Ec (Ec (Ec (Ec (Ec (Ec (Ec (Ec (Ec (Ec (Ec (Ec (Ec (Ec (Jk _))))))))))))))))) ?_;refine Et QnW ?_;exact Wp
 refine Cd [] h (k_de _ _ _) Z λg aa h=>?_;refine aV (.osl 15 0 g.length 1) [_,_,_,_,_,_,_,_,_,_,_,_,_,_,_,.row 3 1 (List.map (Qh .i64) g)] Z Z ?_;refine Go 4 Z ?_;obtain⟨p,M,h⟩:=bnd h;refine Qb4 7 0 [43,44,45,46,47,48,49] [false,false,false,false,false,false,true] [[],[],[],[],[],[],[]] [[],[6]] [[(0,0),(1,1)],[(0,0)],[(0,0)],[(0,0)],[(0,0)],[(0,0)],[(0,1)]] [.agg [.str [115,97,109,112,108,101],.rsl 2 (List.map Mat.c lit_7),.rsl 4 (List.map Leg.c lit_9),.rsl 5 (List.map Distance.c lit_2),.rsl 2 (List.map Wave.c lit_8),.rsl 4 (List.map Offence.c []),.rsl 3 (List.map Category.c []),.rsl 4 (List.map Prize.c []),.rsl 8 (List.map Step.enc lit_10),I 0,I 0,I 0,I 0,I 0,I 500,I 50],.osl 7 0 (lit_1.length) 57,.agg (Fact.c (lit_5)),.agg [I 1,I 1,I 2,I 0,I 0,I 0],.agg (Fact.c ({Uk with No:=6,At:=160,Kind:=10,Ruling:={Ur with Case:=1,Instance:=1,Kind:=2:Ruling}:Fact})),.rsl 57 (List.map Fact.c lit_3),.rsl 57 (List.map Fact.c p)] [[.dead,.dead,.dead,.dead,.dead,.cells 33 [.str [115,97,109,112,108,101],.rsl 2 (List.map Mat.c lit_7),.rsl 4 (List.map Leg.c lit_9),.rsl 5 (List.map Distance.c lit_2),.rsl 2 (List.map Wave.c lit_8),.rsl 4 (List.map Offence.c []),.rsl 3 (List.map Category.c []),.rsl 4 (List.map Prize.c []),.rsl 8 (List.map Step.enc lit_10),I 0,I 0,I 0,I 0,I 0,I 500,I 50],.cells 33 [.str [115,97,109,112,108,101],.rsl 2 (List.map Mat.c lit_7),.rsl 4 (List.map Leg.c lit_9),.rsl 5 (List.map Distance.c lit_2),.rsl 2 (List.map Wave.c lit_8),.rsl 4 (List.map Offence.c []),.rsl 3 (List.map Category.c []),.rsl 4 (List.map Prize.c []),.rsl 8 (List.map Step.enc lit_10),I 0,I 0,I 0,I 0,I 0,I 500,I 50],.frow 68 57 (List.map Fact.c lit_1),.cells 3 [I d.1],.cells 4 [.bool d.2],.cells 3 [I f.1],.cells 4 [.bool f.2],.cells 68 (Fact.c (lit_5)),.cells 68 (Fact.c (lit_6)),.dead,.row 3 1 (List.map (Qh .i64) g)],[.dead,.dead,.dead,.dead,.dead,.cells 33 [.str [115,97,109,112,108,101],.rsl 2 (List.map Mat.c lit_7),.rsl 4 (List.map Leg.c lit_9),.rsl 5 (List.map Distance.c lit_2),.rsl 2 (List.map Wave.c lit_8),.rsl 4 (List.map Offence.c []),.rsl 3 (List.map Category.c []),.rsl 4 (List.map Prize.c []),.rsl 8 (List.map Step.enc lit_10),I 0,I 0,I 0,I 0,I 0,I 500,I 50],.cells 33 [.str [115,97,109,112,108,101],.rsl 2 (List.map Mat.c lit_7),.rsl 4 (List.map Leg.c lit_9),.rsl 5 (List.map Distance.c lit_2),.rsl 2 (List.map Wave.c lit_8),.rsl 4 (List.map Offence.c []),.rsl 3 (List.map Category.c []),.rsl 4 (List.map Prize.c []),.rsl 8 (List.map Step.enc lit_10),I 0,I 0,I 0,I 0,I 0,I 500,I 50],.frow 68 57 (List.map Fact.c lit_1),.cells 3 [I d.1],.cells 4 [.bool d.2],.cells 3 [I f.1],.cells 4 [.bool f.2],.cells 68 (Fact.c (lit_5)),.cells 68 (Fact.c (lit_6)),.dead,.row 3 1 (List.map (Qh .i64) g),.dead]] ([.dead,.dead,.dead,.dead,.dead,.cells 33 [.str [115,97,109,112,108,101],.rsl 2 (List.map Mat.c lit_7),.rsl 4 (List.map Leg.c lit_9),.rsl 5 (List.map Distance.c lit_2),.rsl 2 (List.map Wave.c lit_8),.rsl 4 (List.map Offence.c []),.rsl 3 (List.map Category.c []),.rsl 4 (List.map Prize.c []),.rsl 8 (List.map Step.enc lit_10),I 0,I 0,I 0,I 0,I 0,I 500,I 50],.cells 33 [.str [115,97,109,112,108,101],.rsl 2 (List.map Mat.c lit_7),.rsl 4 (List.map Leg.c lit_9),.rsl 5 (List.map Distance.c lit_2),.rsl 2 (List.map Wave.c lit_8),.rsl 4 (List.map Offence.c []),.rsl 3 (List.map Category.c []),.rsl 4 (List.map Prize.c []),.rsl 8 (List.map Step.enc lit_10),I 0,I 0,I 0,I 0,I 0,I 500,I 50],.frow 68 57 (List.map Fact.c lit_1),.cells 3 [I d.1],.cells 4 [.bool d.2],.cells 3 [I f.1],.cells 4 [.bool f.2],.cells 68 (Fact.c (lit_5)),.cells 68 (Fact.c (lit_6)),.dead,.row 3 1 (List.map (Qh .i64) g),.dead]) draws Z Z Z Z Z Z Z ?_ Z ?_
 .refine QhU.cons (Qf (v0 Z Z) (Qf (v0 Z Z) (Ya))) (QhU.cons (Qf (v0 Z Z) (Ya)) (QhU.cons (Qf (v0 Z Z) (Ya)) (QhU.cons (Qf (v0 Z Z) (Ya)) (QhU.cons (Qf (v0 Z Z) (Ya)) (QhU.cons ?_ (QhU.cons ?_ (QhU.nil)))))))
  .refine Qf ?_ (Ya)
   .refine Om Z (sD 2 (sD 4 sN)) ?_;refine vH (YX (xs:=[.tmp 45,.tmp 47]) (es:=List.map Fact.c lit_3) Qab Z Z Z Z Z ⟨Z,Z,trivial⟩ Z Z) ?_;refine aV (.rsl 57 (List.map Fact.c lit_3)) [_,_,_,_,_,_,_,_,_,_,_,_,_,_,_,_] Z Z ?_;exact Wp
  .refine Qf ?_ (Ya)
   .refine Om1 Z (sD 1 (sD 5 sN)) ?_;refine vH (Qjk (e:=Fact.c) (m:=lit_3) M Qab runUnderlying34 Qai) ?_;refine aV (.osl 16 0 p.length 57) [_,_,_,_,_,_,_,_,_,_,_,_,_,_,_,_,.row 68 57 (List.map Fact.c p)] Z Z ?_;refine Et (QaS [(49,_)] Z Z (QnY.cons Z Ep QnY.nil) (Ec (Ec (Ec (Ec (Ec (Ec (Ec (Ec (Ec (Ec (Ec (Ec (Ec (Ec (Ec (Ec (Ec (Jk _))))))))))))))))))) ?_;refine Et QnW ?_;exact Wp
 refine Cd [] h (k_de _ _ _) Z λN ab h=>?_;refine aV (.osl 17 0 N.length 1) [_,_,_,_,_,_,_,_,_,_,_,_,_,_,_,_,_,.row 3 1 (List.map (Qh .i64) N)] Z Z ?_;refine Go 4 Z (Bd h λi b h=>?_);refine Ct i [6,7,12,13,15,17] [1,2,7,8,9,10] (λi=>[(11,.bool i)]) Ze Zf ?_ (λenv H j=>?_)
 .refine G0 4 Z (Is 53 b Z (λq b=>?_) (λq b=>?_))
  .refine Go 3 Z (Is 56 b Z (λt b=>?_) (λt b=>?_))
   .refine Go 4 Z (Is 60 b Z (λu b=>?_) (λu b=>?_))
    .refine Go 4 Z ?_;refine Et (Le.frow (s:=62) Z Z Z) ?_;refine Cz [] b (k_ab _ _ _ _) Z λac P b=>Go 2 Z (Is 67 b Z (λw b=>?_) (λw b=>?_))
     .refine Go 3 Z ?_;refine Et (Le.frow (s:=69) Z Z Z) ?_;refine Cz [] b (k_ab _ _ _ _) Z λae Q b=>Go 3 Z (Is 74 b Z (λx b=>?_) (λx b=>?_))
      .refine Go 3 Z (Bd b λO y b=>?_);refine QQ [] (OpC.fn call15 Z Z Z) (C.nils (Qkn.eq (Qkn.nl (Qkn.eq Qkn.nil))) (k_ab _ _ _ _ _ y)) ?_ (hg:=(gT Z));rintro _ _ ⟨rfl,rfl⟩;refine aV (.bool O) [_,_,_,_,_,_,_,_,_,_,_,_,_,_,_,_,_,_] Z Z ?_;exact Go 4 Z (Cl b [6,7,12,13,15,17])
      .exact Go 8 Z (Cl b [6,7,12,13,15,17])
     .exact Go 15 Z (Cl b [6,7,12,13,15,17])
    .exact Go 22 Z (Cl b [6,7,12,13,15,17])
   .exact Go 26 Z (Cl b [6,7,12,13,15,17])
  .exact Go 29 Z (Cl b [6,7,12,13,15,17])
 refine Gx 1 Z (Ef j (Gc 1 Z (Bd h λk a h=>?_)));refine Ct k [] [] (λk=>[(0,.bool k)]) Ze Zf ?_ (λenv H j=>?_)
 .refine G0 3 Z (Is 82 a Z (λz a=>?_) (λz a=>?_))
  .refine Go 3 Z ?_;refine Et (Le.frow (s:=84) Z Z Z) ?_;refine Cz [] a (k_i _ _ _ _) Z λaf R a=>Go 2 Z (Is 88 a Z (λB a=>?_) (λB a=>?_))
   .refine Go 3 Z ?_;refine Et (Le.frow (s:=90) Z Z Z) ?_;refine Cz [] a (k_i _ _ _ _) Z λag T a=>Go 3 Z (Is 95 a Z (λE a=>?_) (λE a=>?_))
    .refine Go 3 Z ?_;refine Et (Le.frow (s:=97) Z Z Z) ?_;refine Cz [] a (k_i _ _ _ _) Z λah V a=>Go 3 Z (Is 102 a Z (λF a=>?_) (λF a=>?_))
     .refine Go 1 Z ?_;refine vH (El (xs:=[.const (.int .i64 1)]) (es:=List.map (Qh .i64) [1]) Yc Z Z Z Z Z ⟨Z,trivial⟩ Z Z) ?_ (gT Z);refine aV (.osl 6 0 ([1].length) 1) [_,_,_,_,_,_,.row 3 1 (List.map (Qh .i64) [1])] Z Z ?_;refine Cb a (k_hv _ _ _) Z (lo (lo ln)) λai W a=>Go 2 Z (Is 107 a Z (λG a=>?_) (λG a=>?_))
      .exact Go 6 Z (Cl a [])
      .exact Go 6 Z (Cl a [])
     .exact Go 11 Z (Cl a [])
    .exact Go 18 Z (Cl a [])
   .exact Go 25 Z (Cl a [])
  .exact Go 31 Z (Cl a [])
 exact Gx 1 Z (Ef j (Gc 1 Z (Rt h 0 [])))
def F_fh(n:Nat)(b:List Part)(f:Int)(rec201:(List Part)->Int->Option Int)(a:Int×Int):Option (Ctl (Int×Int) Int):=
  ((bif decide (a.2<(b.length:Int))then some (decide (a.1<500))else some false):Option Bool).bind λc=>(bif c then(idx b a.2).bind λd=>(rec201 d.Parts (IntKind.i64.wrap (f+1))).bind λe=>some (.cont (IntKind.i64.wrap (a.1+e),IntKind.i64.wrap (a.2+1)))else some (.done a.1))
def B_p(rec201:(List Part)->Int->Option Int)(n:Nat)(a:List Part)(b:Int):Option Int:=
  (bif decide (20<b)then some 500 else(iter (F_fh n a b rec201) n ((a.length:Int),0):Option Int).bind λc=>some c)
theorem Qbe(rec201:(List Part)->Int->Option Int)(c:∀(d:List Part) (e:Int) (r:Int),rec201 d e=some r->Csm prog 26 [.rsl 3 (List.map Part.enc d),I e] [] (λr=>I r) r)(n:Nat)(d:List Part)(e:Int)(r:Int)(h:B_p rec201 n d e=some r):
    Csm prog 26 [.rsl 3 (List.map Part.enc d),I e] [] (λr=>I r) r:=by
 refine Qb func26 Z Z Z ?_;refine G0 8 Z (Lm Z (Go 10 Z (Cn Z h (λq h=>?_) (λq h=>?_))))
 .exact Gc 7 Z (Rt h 4 [])
 refine Gc 8 Z (Bd h λf s h=>?_);refine Ct f [] [] (λf=>[(5,I f)]) Ze Zf ?_ (λenv H g=>?_)
 .refine G0 1 Z ?_;refine Lp [] [0,1] (λi=>[(5,I i.1),(6,I i.2)]) Ze s Zf (Lr []) λi w a k=>?_;refine G0 2 Z (Bd a λj b a=>?_);refine Ct j [] [0,1,5,6] (λj=>[(18,.bool j)]) Ze Zf ?_ (λenv H g=>?_)
  .refine G0 3 Z (Lm Z (Go 2 Z (Is 15 b Z (λl b=>?_) (λl b=>?_))))
   .exact Go 4 Z (Cl b [])
   .exact Go 4 Z (Cl b [])
  refine Gx 1 Z (Ef g (YH Z a (λm a=>?_) (λm a=>?_)))
  .refine Gc 2 Z (Ql a ?_);obtain rfl:=Oj k a;exact Gx 1 Z (QC (Lr []))
  exact Gc 8 Z (Bd a λt p a=>IzE p (Q0 t) Z (Go 4 Z (Cz [] a (c _ _) Z λx u a=>Go 10 Z (Qj a (Lr [])))))
 exact Gx 1 Z (Ef g (Gc 7 Z (Rt h 4 [])))
def F_p:Nat->(List Part)->Int->Option Int
  |0=>λ_ _=>none
  |n+1=>B_p (F_p n) n
theorem k_p(n:Nat):∀(a:List Part) (b:Int) (r:Int),F_p n a b=some r->Csm prog 26 [.rsl 3 (List.map Part.enc a),I b] [] (λr=>I r) r:=by
  induction n with
  |zero=>intro a b r h;cases h
  |succ n ih=>intro a b r h;exact Qbe _ ih n a b r h
def F_gi(n:Nat)(b:List Cond)(f:Int)(rec203:(List Cond)->Int->Option Int)(a:Int×Int):Option (Ctl (Int×Int) Int):=
  ((bif decide (a.2<(b.length:Int))then some (decide (a.1<500))else some false):Option Bool).bind λc=>(bif c then(idx b a.2).bind λd=>(rec203 d.Parts (IntKind.i64.wrap (f+1))).bind λe=>some (.cont (IntKind.i64.wrap (a.1+e),IntKind.i64.wrap (a.2+1)))else some (.done a.1))
def B_q(rec203:(List Cond)->Int->Option Int)(n:Nat)(a:List Cond)(b:Int):Option Int:=
  (bif decide (20<b)then some 500 else(iter (F_gi n a b rec203) n ((a.length:Int),0):Option Int).bind λc=>some c)
theorem Qa4(rec203:(List Cond)->Int->Option Int)(c:∀(d:List Cond) (e:Int) (r:Int),rec203 d e=some r->Csm prog 63 [.rsl 4 (List.map Cond.enc d),I e] [] (λr=>I r) r)(n:Nat)(d:List Cond)(e:Int)(r:Int)(h:B_q rec203 n d e=some r):
    Csm prog 63 [.rsl 4 (List.map Cond.enc d),I e] [] (λr=>I r) r:=by
 refine Qb func63 Z Z Z ?_;refine G0 8 Z (Lm Z (Go 10 Z (Cn Z h (λq h=>?_) (λq h=>?_))))
 .exact Gc 7 Z (Rt h 4 [])
 refine Gc 8 Z (Bd h λf s h=>?_);refine Ct f [] [] (λf=>[(5,I f)]) Ze Zf ?_ (λenv H g=>?_)
 .refine G0 1 Z ?_;refine Lp [] [0,1] (λi=>[(5,I i.1),(6,I i.2)]) Ze s Zf (Lr []) λi w a k=>?_;refine G0 2 Z (Bd a λj b a=>?_);refine Ct j [] [0,1,5,6] (λj=>[(18,.bool j)]) Ze Zf ?_ (λenv H g=>?_)
  .refine G0 3 Z (Lm Z (Go 2 Z (Is 15 b Z (λl b=>?_) (λl b=>?_))))
   .exact Go 4 Z (Cl b [])
   .exact Go 4 Z (Cl b [])
  refine Gx 1 Z (Ef g (YH Z a (λm a=>?_) (λm a=>?_)))
  .refine Gc 2 Z (Ql a ?_);obtain rfl:=Oj k a;exact Gx 1 Z (QC (Lr []))
  exact Gc 8 Z (Bd a λt p a=>IzE p (Jd t) Z (Go 4 Z (Cz [] a (c _ _) Z λx u a=>Go 10 Z (Qj a (Lr [])))))
 exact Gx 1 Z (Ef g (Gc 7 Z (Rt h 4 [])))
def F_q:Nat->(List Cond)->Int->Option Int
  |0=>λ_ _=>none
  |n+1=>B_q (F_q n) n
theorem k_q(n:Nat):∀(a:List Cond) (b:Int) (r:Int),F_q n a b=some r->Csm prog 63 [.rsl 4 (List.map Cond.enc a),I b] [] (λr=>I r) r:=by
  induction n with
  |zero=>intro a b r h;cases h
  |succ n ih=>intro a b r h;exact Qa4 _ ih n a b r h
def F_hj(n:Nat)(b:List Step)(c:Int)(rec202:(List Step)->Int->Option Int)(a:Int×Int):Option (Ctl (Int×Int) Int):=
  ((bif decide (a.2<(b.length:Int))then some (decide (a.1<500))else some false):Option Bool).bind λd=>(bif d then(idx b a.2).bind λe=>(F_q n [e.Cond] 0).bind λf=>(idx b a.2).bind λg=>(rec202 g.Then (IntKind.i64.wrap (c+1))).bind λh=>(idx b a.2).bind λi=>(rec202 i.Else (IntKind.i64.wrap (c+1))).bind λj=>some (.cont (IntKind.i64.wrap ((IntKind.i64.wrap ((IntKind.i64.wrap (a.1+f))+h))+j),IntKind.i64.wrap (a.2+1)))else some (.done a.1))
def B_r(rec202:(List Step)->Int->Option Int)(n:Nat)(a:List Step)(b:Int):Option Int:=
  (bif decide (20<b)then some 500 else(iter (F_hj n a b rec202) n ((a.length:Int),0):Option Int).bind λc=>some c)
theorem Qa3(rec202:(List Step)->Int->Option Int)(g:∀(j:List Step) (k:Int) (r:Int),rec202 j k=some r->Csm prog 27 [.rsl 8 (List.map Step.enc j),I k] [] (λr=>I r) r)(n:Nat)(j:List Step)(k:Int)(r:Int)(h:B_r rec202 n j k=some r):
    Csm prog 27 [.rsl 8 (List.map Step.enc j),I k] [] (λr=>I r) r:=by
 refine Qb func27 Z Z Z ?_;refine G0 8 Z (Lm Z (Go 10 Z (Cn Z h (λB h=>?_) (λB h=>?_))))
 .exact Gc 7 Z (Rt h 4 [])
 refine Gc 8 Z (Bd h λl E h=>?_);refine Ct l [] [] (λl=>[(5,I l)]) Ze Zf ?_ (λenv H m=>?_)
 .refine G0 1 Z ?_;refine Lp [] [0,1] (λp=>[(5,I p.1),(6,I p.2)]) Ze E Zf (Lr []) λp L a s=>?_;refine G0 2 Z (Bd a λq i a=>?_);refine Ct q [] [0,1,5,6] (λq=>[(18,.bool q)]) Ze Zf ?_ (λenv H m=>?_)
  .refine G0 3 Z (Lm Z (Go 2 Z (Is 15 i Z (λt i=>?_) (λt i=>?_))))
   .exact Go 4 Z (Cl i [])
   .exact Go 4 Z (Cl i [])
  refine Gx 1 Z (Ef m (YH Z a (λu a=>?_) (λu a=>?_)))
  .refine Gc 2 Z (Ql a ?_);obtain rfl:=Oj s a;exact Gx 1 Z (QC (Lr []))
  refine Gc 4 Z (DSs 26 Z (D 3 Z ?_));obtain⟨b,w,a⟩:=bnd a;refine DS.v (x:=(.rp [I b.Kind,I b.By,I b.Cond.Kind,I b.Cond.Var,I b.Cond.N,.rsl 4 (List.map Cond.enc b.Cond.Parts),.rsl 8 (List.map Step.enc b.Then),.rsl 8 (List.map Step.enc b.Else)])) (QfT (e:=Step.enc) w (Yg b) runUnderlying29 sizeOf138) ?_;refine D 2 Z ?_;refine DS.wo (x:=.rsl 4 (List.map Cond.enc [b.Cond])) ?_ ?_
  .refine vH (YX (xs:=[.tmp 26]) (es:=[Cond.c b.Cond]) QpY Z Z Z Z Z ⟨Z,trivial⟩ Z Z) ?_;refine QnG (x:=(.rsl 4 (List.map Cond.enc [b.Cond]))) (H:=[]) (by simp[Jd]) Z ?_;exact Wp
  refine Dz [] a (k_q _ _ _) Z λM F a=>D 3 Z ?_;obtain⟨d,y,a⟩:=bnd a;refine DS.v (x:=(.rp [I d.Kind,I d.By,I d.Cond.Kind,I d.Cond.Var,I d.Cond.N,.rsl 4 (List.map Cond.enc d.Cond.Parts),.rsl 8 (List.map Step.enc d.Then),.rsl 8 (List.map Step.enc d.Else)])) (QfT (e:=Step.enc) y (Yg d) runUnderlying29 sizeOf138) ?_;refine D 4 Z ?_;refine Dz [] a (g _ _) Z λO G a=>D 3 Z ?_;obtain⟨f,z,a⟩:=bnd a;refine DS.v (x:=(.rp [I f.Kind,I f.By,I f.Cond.Kind,I f.Cond.Var,I f.Cond.N,.rsl 4 (List.map Cond.enc f.Cond.Parts),.rsl 8 (List.map Step.enc f.Then),.rsl 8 (List.map Step.enc f.Else)])) (QfT (e:=Step.enc) z (Yg f) runUnderlying29 sizeOf138) ?_;refine D 4 Z ?_;exact Dz [] a (g _ _) Z λP J a=>Eh Z (Go 10 Z (Qj a (Lr [])))
 exact Gx 1 Z (Ef m (Gc 7 Z (Rt h 4 [])))
def F_r:Nat->(List Step)->Int->Option Int
  |0=>λ_ _=>none
  |n+1=>B_r (F_r n) n
theorem k_r(n:Nat):∀(a:List Step) (b:Int) (r:Int),F_r n a b=some r->Csm prog 27 [.rsl 8 (List.map Step.enc a),I b] [] (λr=>I r) r:=by
  induction n with
  |zero=>intro a b r h;cases h
  |succ n ih=>intro a b r h;exact Qa3 _ ih n a b r h
def F_fe(n:Nat)(b:Course)(a:Int):Option (Ctl Int (Ctl Unit Bool)):=
  (bif decide (a<(b.Distances.length:Int))then((idx b.Distances a).bind λc=>(F_p n c.Route 0).bind λd=>(bif decide (24<d)then some true else(idx b.Distances a).bind λe=>(bif decide (12<(e.Cutoffs.length:Int))then some true else(idx b.Distances a).bind λf=>some (decide (60<(f.Name.length:Int))))):Option Bool).bind λg=>(bif g then some (.done (.done false))else some (.cont (IntKind.i64.wrap (a+1))))else some (.done (.cont ())))
def F_il(n:Nat)(b:Course)(a:Int):Option (Ctl Int (Ctl Unit Bool)):=
  (bif decide (a<(b.Mats.length:Int))then(idx b.Mats a).bind λc=>(bif decide (60<(c.Name.length:Int))then some (.done (.done false))else some (.cont (IntKind.i64.wrap (a+1))))else some (.done (.cont ())))
def F_ap(n:Nat)(a:Course):Option Bool:=
  (iter (F_fe n a) n 0:Option (Ctl Unit Bool)).bind λd=>match d with|.cont b=>((iter (F_il n a) n 0:Option (Ctl Unit Bool)).bind λe=>match e with|.cont c=>(((bif decide (12<(a.Mats.length:Int))then some true else(bif decide (30<(a.Legs.length:Int))then some true else(bif decide (4<(a.Distances.length:Int))then some true else(bif decide (6<(a.Waves.length:Int))then some true else(bif decide (6<(a.Offences.length:Int))then some true else(bif decide (6<(a.Categories.length:Int))then some true else(bif decide (6<(a.Prizes.length:Int))then some true else some (decide (60<(a.Name.length:Int)))))))))):Option Bool).bind λf=>(bif f then some false else(F_r n a.Ties 0).bind λg=>some (decide (g<=100))))|.done c=>some c)|.done b=>some b
theorem k_ap(n:Nat)(s:Course)(r:Bool)(h:F_ap n s=some r):
    Csm prog 11 [.agg (Course.c s)] [] (λr=>.bool r) r:=by
 refine Qb func11 Z Z Z ?_;refine G0 12 Z (Bd h λT V h=>?_);refine CtE (b:=T) [0] [1] Ze Ze Zf ?_ (λab env H i g=>?_)
 .refine G0 1 Z ?_;refine Lp [0] [1] (λp=>[(3,I p)]) Ze V Zf (Lr [0]) λp ag e j=>?_;refine G0 6 Z (Lm Z (Go 3 Z (YH Z e (λt e=>?_) (λt e=>?_))))
  .refine Gc 2 Z (Ql e ?_);obtain rfl:=Oj j e;exact Gx 1 Z (Qo Z (Lr [0]))
  refine Gc 5 Z (Bd e λk d e=>?_);refine Ct k [0] [1,3] (λk=>[(39,.bool k)]) Ze Zf ?_ (λenv H g=>?_)
  .refine G0 4 Z (Bd d λah u d=>Iz u Z (Go 2 Z (Cz [] d (k_p _ _ _) Z λai ac d=>Go 2 Z (Is 20 d Z (λw d=>?_) (λw d=>?_)))))
   .exact Go 20 Z (Cl d [0])
   .refine Go 3 Z (Bd d λaj x d=>Iz x Z (Go 2 Z (Lm Z (Go 3 Z (Is 30 d Z (λy d=>?_) (λy d=>?_))))))
    .exact Go 10 Z (Cl d [0])
    .refine Go 3 Z (Bd d λW z d=>Iz z Z (Go 2 Z ?_));refine vX (I (W.Name.length:Int)) (YQ Z Z runUnderlying9 Z) ?_ (gT Z);exact Go 3 Z (Cl d [0])
  refine Gx 1 Z (Ef g (Cn Z e (λB e=>?_) (λB e=>?_)))
  .refine Gc 8 Z (QD e ?_);obtain rfl:=Oj j e;exact Gx 1 Z (Qs (Gx 1 Z (Rt h 2 [])))
  exact Gc 8 Z (Qj e (Lr [0]))
 subst i;refine Gx 1 Z (Ef g (Gc 6 Z (Bd h λX Y h=>?_)));refine CtE (b:=X) [0] [1] Ze Ze Zf ?_ (λae env H i g=>?_)
 .refine G0 1 Z ?_;refine Lp [0] [1] (λq=>[(4,I q)]) Ze Y Zf (Lr [0]) λq ak f l=>?_;refine G0 6 Z (Lm Z (Go 3 Z (YH Z f (λE f=>?_) (λE f=>?_))))
  .refine Gc 2 Z (Ql f ?_);obtain rfl:=Oj l f;exact Gx 1 Z (Qo Z (Lr [0]))
  refine Gc 9 Z (Bd f λaa F f=>Iz F Z (Go 2 Z ?_));refine vX (I (aa.Name.length:Int)) (YQ Z Z runUnderlying9 Z) ?_;refine Go 3 Z (Cn Z f (λG f=>?_) (λG f=>?_))
  .refine Gc 8 Z (QD f ?_);obtain rfl:=Oj l f;exact Gx 1 Z (Qs (Gx 1 Z (Rt h 2 [])))
  exact Gc 8 Z (Qj f (Lr [0]))
 subst i;refine Gx 1 Z (Ef g (Gc 2 Z (Bd h λm a h=>?_)));refine Ct m [0] [1] (λm=>[(100,.bool m)]) Ze Zf ?_ (λenv H g=>?_)
 .refine G0 3 Z (Lm Z (Go 2 Z (Is 59 a Z (λJ a=>?_) (λJ a=>?_))))
  .exact Go 42 Z (Cl a [0])
  .refine Go 2 Z (Lm Z (Go 3 Z (Is 65 a Z (λL a=>?_) (λL a=>?_))))
   .exact Go 36 Z (Cl a [0])
   .refine Go 2 Z (Lm Z (Go 3 Z (Is 71 a Z (λM a=>?_) (λM a=>?_))))
    .exact Go 30 Z (Cl a [0])
    .refine Go 2 Z (Lm Z (Go 3 Z (Is 77 a Z (λN a=>?_) (λN a=>?_))))
     .exact Go 24 Z (Cl a [0])
     .refine Go 2 Z (Lm Z (Go 3 Z (Is 83 a Z (λO a=>?_) (λO a=>?_))))
      .exact Go 18 Z (Cl a [0])
      .refine Go 2 Z (Lm Z (Go 3 Z (Is 89 a Z (λP a=>?_) (λP a=>?_))))
       .exact Go 12 Z (Cl a [0])
       .refine Go 2 Z (Lm Z (Go 3 Z (Is 95 a Z (λQ a=>?_) (λQ a=>?_))))
        .exact Go 6 Z (Cl a [0])
        .refine Go 2 Z ?_;refine vX (I (s.Name.length:Int)) (YQ Z Z runUnderlying9 Z) ?_ (gT Z);exact Go 3 Z (Cl a [0])
 refine Gx 1 Z (Ef g (Cn Z h (λR h=>?_) (λR h=>?_)))
 .exact Gc 7 Z (Rt h 2 [])
 exact Gc 6 Z (Cz [] h (k_r _ _ _) Z λal af h=>Go 5 Z (Rt h 2 []))
def F_hr(n:Nat)(a:List Fact)(b:Int):Option Unit:=
  some ()
theorem k_hr(n:Nat)(a:List Fact)(b:Int)(r:Unit)(h:F_hr n a b=some r):
    Csm prog 12 [.rsl 57 (List.map Fact.c a),I b] [] (λ_=>.bool (decide ((a.length:Int)<=b))) r:=by
 refine Qb func12 Z Z Z ?_;exact G0 8 Z (Lm Z (Go 6 Z (Rt h 4 [])))
def F_cv(n:Nat)(c:List Part)(d:Int)(rec207:(List Part)->Int->Option Int)(a:Int×Int):Option (Ctl (Int×Int) Int):=
  ((bif decide (a.2<(c.length:Int))then some (decide (0<d))else some false):Option Bool).bind λe=>(bif e then(idx c a.2).bind λf=>((bif ((f.Parts.length:Int) != 0)then(idx c a.2).bind λg=>(rec207 g.Parts (IntKind.i64.wrap (d-1))).bind λb=>some (if a.1<IntKind.i64.wrap (1+b)then IntKind.i64.wrap (1+b)else a.1)else some a.1):Option Int).bind λh=>some (.cont (h,IntKind.i64.wrap (a.2+1)))else some (.done a.1))
def B_t(rec207:(List Part)->Int->Option Int)(n:Nat)(b:List Part)(c:Int):Option Int:=
  (iter (F_cv n b c rec207) n (0,0):Option Int).bind λa=>some a
theorem Qa7(rec207:(List Part)->Int->Option Int)(f:∀(g:List Part) (i:Int) (r:Int),rec207 g i=some r->Csm prog 99 [.rsl 3 (List.map Part.enc g),I i] [] (λr=>I r) r)(n:Nat)(g:List Part)(i:Int)(r:Int)(h:B_t rec207 n g i=some r):
    Csm prog 99 [.rsl 3 (List.map Part.enc g),I i] [] (λr=>I r) r:=by
 refine Qb func99 Z Z Z ?_;refine G0 16 Z (Bd h λj x h=>?_);refine Ct j [] [] (λj=>[(5,I j)]) Ze Zf ?_ (λenv H c=>?_)
 .refine G0 1 Z ?_;refine Lp [] [0,1] (λd=>[(5,I d.1),(6,I d.2)]) Ze x Zf (Lr []) λd E a p=>?_;refine G0 2 Z (Bd a λk e a=>?_);refine Ct k [] [0,1,5,6] (λk=>[(14,.bool k)]) Ze Zf ?_ (λenv H c=>?_)
  .refine G0 3 Z (Lm Z (Go 2 Z (Is 11 e Z (λq e=>?_) (λq e=>?_))))
   .exact Go 4 Z (Cl e [])
   .exact Go 4 Z (Cl e [])
  refine Gx 1 Z (Ef c (YH Z a (λs a=>?_) (λs a=>?_)))
  .refine Gc 2 Z (Ql a ?_);obtain rfl:=Oj p a;exact Gx 1 Z (QC (Lr []))
  refine Gc 8 Z (Bd a λy t a=>IzE t (Q0 y) Z (Go 2 Z (Lm Z (Go 3 Z (Bd a λl b a=>?_)))));refine Ct l [] [0,1,6] (λl=>[(5,I l)]) Ze Zf ?_ (λenv H c=>?_)
  .refine G0 0 Z (Cn Z b (λu b=>?_) (λu b=>?_))
   .refine Gc 4 Z (Bd b λz w b=>IzE w (Q0 z) Z (Go 4 Z (Cz [] b (f _ _) Z λm B b=>Go 1 Z ?_)));refine vX (I (if d.1<IntKind.i64.wrap (1+m)then IntKind.i64.wrap (1+m)else d.1)) (OpV.max Z Z Z Z) ?_;exact Go 2 Z (Cl b [])
   exact Gc 1 Z (Cl b [])
  exact Gx 2 Z (Ef c (Gc 5 Z (Qj a (Lr []))))
 exact Gx 1 Z (Ef c (Gc 7 Z (Rt h 4 [])))
def F_t:Nat->(List Part)->Int->Option Int
  |0=>λ_ _=>none
  |n+1=>B_t (F_t n) n
theorem k_t(n:Nat):∀(a:List Part) (b:Int) (r:Int),F_t n a b=some r->Csm prog 99 [.rsl 3 (List.map Part.enc a),I b] [] (λr=>I r) r:=by
  induction n with
  |zero=>intro a b r h;cases h
  |succ n ih=>intro a b r h;exact Qa7 _ ih n a b r h
def F_eq(n:Nat)(b:List Part)(rec208:(List Part)->Option Int)(a:Int×Int):Option (Ctl (Int×Int) Int):=
  ((bif decide (a.2<(b.length:Int))then some (decide (a.1<=256))else some false):Option Bool).bind λc=>(bif c then(idx b a.2).bind λd=>(rec208 d.Parts).bind λe=>some (.cont (IntKind.i64.wrap (a.1+e),IntKind.i64.wrap (a.2+1)))else some (.done a.1))
def B_y(rec208:(List Part)->Option Int)(n:Nat)(b:List Part):Option Int:=
  (iter (F_eq n b rec208) n ((b.length:Int),0):Option Int).bind λa=>some (if 257<a then 257 else a)
theorem Qa8(rec208:(List Part)->Option Int)(d:∀(e:List Part) (r:Int),rec208 e=some r->Csm prog 100 [.rsl 3 (List.map Part.enc e)] [] (λr=>I r) r)(n:Nat)(e:List Part)(r:Int)(h:B_y rec208 n e=some r):
    Csm prog 100 [.rsl 3 (List.map Part.enc e)] [] (λr=>I r) r:=by
 refine Qb func100 Z Z Z ?_;refine G0 8 Z (Lm Z (Go 9 Z (Bd h λb p h=>?_)));refine Ct b [] [] (λb=>[(3,I b)]) Ze Zf ?_ (λenv H f=>?_)
 .refine G0 1 Z ?_;refine Lp [] [0] (λg=>[(3,I g.1),(4,I g.2)]) Ze p Zf (Lr []) λg t a j=>?_;refine G0 2 Z (Bd a λi c a=>?_);refine Ct i [] [0,3,4] (λi=>[(14,.bool i)]) Ze Zf ?_ (λenv H f=>?_)
  .refine G0 3 Z (Lm Z (Go 2 Z (Is 11 c Z (λk c=>?_) (λk c=>?_))))
   .exact Go 4 Z (Cl c [])
   .exact Go 4 Z (Cl c [])
  refine Gx 1 Z (Ef f (YH Z a (λl a=>?_) (λl a=>?_)))
  .refine Gc 2 Z (Ql a ?_);obtain rfl:=Oj j a;exact Gx 1 Z (QC (Lr []))
  exact Gc 8 Z (Bd a λq m a=>IzE m (Q0 q) Z (Go 2 Z (Cz [] a (d _) Z λu s a=>Go 10 Z (Qj a (Lr [])))))
 refine Gx 1 Z (Ef f (Gc 3 Z ?_));refine vX (I (if 257<b then 257 else b)) (OpV.min Z Z Z Z) ?_;exact Go 4 Z (Rt h 2 [])
def F_y:Nat->(List Part)->Option Int
  |0=>λ_=>none
  |n+1=>B_y (F_y n) n
theorem k_y(n:Nat):∀(a:List Part) (r:Int),F_y n a=some r->Csm prog 100 [.rsl 3 (List.map Part.enc a)] [] (λr=>I r) r:=by
  induction n with
  |zero=>intro a r h;cases h
  |succ n ih=>intro a r h;exact Qa8 _ ih n a r h
def F_em(n:Nat)(c:Course)(a:Int):Option (Ctl Int (Ctl Unit Bool)):=
  (bif decide (a<(c.Distances.length:Int))then(idx c.Distances a).bind λb=>((bif decide (64<(b.Cutoffs.length:Int))then some true else(F_t n b.Route 17).bind λd=>(bif decide (16<d)then some true else(F_y n b.Route).bind λe=>some (decide (256<e)))):Option Bool).bind λf=>(bif f then some (.done (.done false))else some (.cont (IntKind.i64.wrap (a+1))))else some (.done (.cont ())))
def F_be(n:Nat)(a:Course):Option Bool:=
  ((bif decide (40<(a.Mats.length:Int))then some true else(bif decide (512<(a.Legs.length:Int))then some true else(bif decide (8<(a.Distances.length:Int))then some true else(bif decide (32<(a.Waves.length:Int))then some true else(bif decide (32<(a.Offences.length:Int))then some true else(bif decide (32<(a.Categories.length:Int))then some true else some (decide (32<(a.Prizes.length:Int))))))))):Option Bool).bind λd=>(bif d then some false else(iter (F_em n a) n 0:Option (Ctl Unit Bool)).bind λc=>match c with|.cont b=>(some true)|.done b=>some b)
theorem k_be(n:Nat)(B:Course)(r:Bool)(h:F_be n B=some r):
    Csm prog 58 [.agg (Course.c B)] [] (λr=>.bool r) r:=by
 refine Qb func58 Z Z Z ?_;refine G0 8 Z (Bd h λk a h=>?_);refine Ct k [0] [1] (λk=>[(44,.bool k)]) Ze Zf ?_ (λenv H f=>?_)
 .refine G0 3 Z (Lm Z (Go 2 Z (Is 9 a Z (λE a=>?_) (λE a=>?_))))
  .exact Go 36 Z (Cl a [0])
  .refine Go 2 Z (Lm Z (Go 3 Z (Is 15 a Z (λl a=>?_) (λl a=>?_))))
   .exact Go 30 Z (Cl a [0])
   .refine Go 2 Z (Lm Z (Go 3 Z (Is 21 a Z (λm a=>?_) (λm a=>?_))))
    .exact Go 24 Z (Cl a [0])
    .refine Go 2 Z (Lm Z (Go 3 Z (Is 27 a Z (λp a=>?_) (λp a=>?_))))
     .exact Go 18 Z (Cl a [0])
     .refine Go 2 Z (Lm Z (Go 3 Z (Is 33 a Z (λq a=>?_) (λq a=>?_))))
      .exact Go 12 Z (Cl a [0])
      .refine Go 2 Z (Lm Z (Go 3 Z (Is 39 a Z (λs a=>?_) (λs a=>?_))))
       .exact Go 6 Z (Cl a [0])
       .exact Go 2 Z (Lm Z (Go 3 Z (Cl a [0])))
 refine Gx 1 Z (Ef f (Cn Z h (λt h=>?_) (λt h=>?_)))
 .exact Gc 7 Z (Rt h 2 [])
 refine Gc 8 Z (Bd h λF G h=>?_);refine CtE (b:=F) [] [] Ze Ze Zf ?_ (λL env H J f=>?_)
 .refine G0 1 Z ?_;refine Lp [0] [1] (λj=>[(3,I j)]) Ze G Zf (Lr [0]) λj O d g=>?_;refine G0 6 Z (Lm Z (Go 3 Z (YH Z d (λu d=>?_) (λu d=>?_))))
  .refine Gc 2 Z (Ql d ?_);obtain rfl:=Oj g d;exact Gx 1 Z (Qo Z (Lr []))
  refine Gc 9 Z (Bd d λP w d=>Iz w Z (Go 6 Z (Bd d λi e d=>?_)));refine Ct i [0] [1,3] (λi=>[(72,.bool i)]) Ze Zf ?_ (λenv H f=>?_)
  .refine G0 3 Z (Lm Z (Go 2 Z (Is 61 e Z (λx e=>?_) (λx e=>?_))))
   .exact Go 12 Z (Cl e [0])
   .refine Go 2 Z (Cz [] e (k_t _ _ _) Z λQ M e=>Go 3 Z (Is 67 e Z (λy e=>?_) (λy e=>?_)))
    .exact Go 6 Z (Cl e [0])
    .exact Go 2 Z (Cz [] e (k_y _ _) Z λR N e=>Go 3 Z (Cl e [0]))
  refine Gx 1 Z (Ef f (Cn Z d (λz d=>?_) (λz d=>?_)))
  .refine Gc 8 Z (QD d ?_);obtain rfl:=Oj g d;exact Gx 1 Z (Qs (Gx 1 Z (Rt h 2 [])))
  exact Gc 8 Z (Qj d (Lr [0]))
 subst J;exact Gx 1 Z (Ef f (Gc 6 Z (Rt h 2 [])))
def F_cz(n:Nat)(a:List UInt8):Option Bool:=
  ((bif (a==[99,111,117,114,115,101])then some (a==[99,111,117,114,115,101])else(bif (a==[109,97,116,115])then some (a==[109,97,116,115])else(bif (a==[115,116,97,114,116])then some (a==[115,116,97,114,116])else(bif (a==[112,97,115,115])then some (a==[112,97,115,115])else(bif (a==[101,110,100])then some (a==[101,110,100])else(bif (a==[108,101,103])then some (a==[108,101,103])else(bif (a==[116,111])then some (a==[116,111])else(bif (a==[100,105,115,116,97,110,99,101])then some (a==[100,105,115,116,97,110,99,101])else(bif (a==[103,117,110])then some (a==[103,117,110])else(bif (a==[99,104,105,112])then some (a==[99,104,105,112])else(bif (a==[115,108,111,116])then some (a==[115,108,111,116])else(bif (a==[108,97,112,115])then some (a==[108,97,112,115])else(bif (a==[108,97,112])then some (a==[108,97,112])else(bif (a==[99,117,116,111,102,102])then some (a==[99,117,116,111,102,102])else(bif (a==[101,120,116,114,97])then some (a==[101,120,116,114,97])else(bif (a==[119,97,118,101])then some (a==[119,97,118,101])else(bif (a==[111,102,102,101,110,99,101])then some (a==[111,102,102,101,110,99,101])else(bif (a==[111,117,116])then some (a==[111,117,116])else(bif (a==[99,97,116,101,103,111,114,121])then some (a==[99,97,116,101,103,111,114,121])else(bif (a==[112,114,105,122,101])then some (a==[112,114,105,122,101])else(bif (a==[97,108,108])then some (a==[97,108,108])else some (a==[116,105,101,115])))))))))))))))))))))):Option Bool).bind λb=>(bif b then some true else((bif (a==[105,102])then some (a==[105,102])else(bif (a==[101,108,115,101])then some (a==[101,108,115,101])else(bif (a==[97,110,100])then some (a==[97,110,100])else(bif (a==[111,114])then some (a==[111,114])else(bif (a==[110,111,116])then some (a==[110,111,116])else(bif (a==[111,108,100,101,114])then some (a==[111,108,100,101,114])else(bif (a==[121,111,117,110,103,101,114])then some (a==[121,111,117,110,103,101,114])else(bif (a==[98,105,98])then some (a==[98,105,98])else(bif (a==[100,114,97,119])then some (a==[100,114,97,119])else(bif (a==[102,105,101,108,100])then some (a==[102,105,101,108,100])else(bif (a==[115,104,111,114,116])then some (a==[115,104,111,114,116])else(bif (a==[102,97,117,108,116,115])then some (a==[102,97,117,108,116,115])else(bif (a==[109,105,115,115,101,115])then some (a==[109,105,115,115,101,115])else(bif (a==[115,116,114,97,121,115])then some (a==[115,116,114,97,121,115])else(bif (a==[119,105,110,100,111,119])then some (a==[119,105,110,100,111,119])else(bif (a==[114,101,115,105,100,117,97,108])then some (a==[114,101,115,105,100,117,97,108])else(bif (a==[100,114,105,102,116])then some (a==[100,114,105,102,116])else(bif (a==[112,114,111,116,101,115,116])then some (a==[112,114,111,116,101,115,116])else(bif (a==[102,101,101])then some (a==[102,101,101])else some (a==[100,101,97,100,108,105,110,101])))))))))))))))))))):Option Bool).bind λc=>(bif c then some true else some false))
theorem k_cz(n:Nat)(a1:List UInt8)(r:Bool)(h:F_cz n a1=some r):
    Csm prog 180 [.str a1] [] (λr=>.bool r) r:=by
 refine Qb func180 Z Z Z ?_;refine G0 19 Z (Bd h λc a h=>?_);refine Ct c [] [3] (λc=>[(4,.bool c)]) Ze Zf ?_ (λenv H d=>?_)
 .refine G0 0 Z (Cn Z a (λf a=>?_) (λf a=>?_))
  .exact Gc 1 Z (Cl a [])
  refine Gc 6 Z (Cn Z a (λg a=>?_) (λg a=>?_))
  .exact Gc 1 Z (Cl a [])
  refine Gc 6 Z (Cn Z a (λi a=>?_) (λi a=>?_))
  .exact Gc 1 Z (Cl a [])
  refine Gc 6 Z (Cn Z a (λj a=>?_) (λj a=>?_))
  .exact Gc 1 Z (Cl a [])
  refine Gc 6 Z (Cn Z a (λk a=>?_) (λk a=>?_))
  .exact Gc 1 Z (Cl a [])
  refine Gc 6 Z (Cn Z a (λl a=>?_) (λl a=>?_))
  .exact Gc 1 Z (Cl a [])
  refine Gc 6 Z (Cn Z a (λm a=>?_) (λm a=>?_))
  .exact Gc 1 Z (Cl a [])
  refine Gc 6 Z (Cn Z a (λp a=>?_) (λp a=>?_))
  .exact Gc 1 Z (Cl a [])
  refine Gc 6 Z (Cn Z a (λq a=>?_) (λq a=>?_))
  .exact Gc 1 Z (Cl a [])
  refine Gc 6 Z (Cn Z a (λs a=>?_) (λs a=>?_))
  .exact Gc 1 Z (Cl a [])
  refine Gc 6 Z (Cn Z a (λt a=>?_) (λt a=>?_))
  .exact Gc 1 Z (Cl a [])
  refine Gc 6 Z (Cn Z a (λu a=>?_) (λu a=>?_))
  .exact Gc 1 Z (Cl a [])
  refine Gc 6 Z (Cn Z a (λw a=>?_) (λw a=>?_))
  .exact Gc 1 Z (Cl a [])
  refine Gc 6 Z (Cn Z a (λx a=>?_) (λx a=>?_))
  .exact Gc 1 Z (Cl a [])
  refine Gc 6 Z (Cn Z a (λy a=>?_) (λy a=>?_))
  .exact Gc 1 Z (Cl a [])
  refine Gc 6 Z (Cn Z a (λz a=>?_) (λz a=>?_))
  .exact Gc 1 Z (Cl a [])
  refine Gc 6 Z (Cn Z a (λB a=>?_) (λB a=>?_))
  .exact Gc 1 Z (Cl a [])
  refine Gc 6 Z (Cn Z a (λE a=>?_) (λE a=>?_))
  .exact Gc 1 Z (Cl a [])
  refine Gc 6 Z (Cn Z a (λF a=>?_) (λF a=>?_))
  .exact Gc 1 Z (Cl a [])
  refine Gc 6 Z (Cn Z a (λG a=>?_) (λG a=>?_))
  .exact Gc 1 Z (Cl a [])
  refine Gc 6 Z (Cn Z a (λJ a=>?_) (λJ a=>?_))
  .exact Gc 1 Z (Cl a [])
  exact Gc 4 Z (Cl a [])
 refine Gx 1 Z (Ef d (Cn Z h (λL h=>?_) (λL h=>?_)))
 .exact Gc 8 Z (Rt h 2 [])
 refine Gc 7 Z (Bd h λe b h=>?_);refine Ct e [] [] (λe=>[(27,.bool e)]) Ze Zf ?_ (λenv H d=>?_)
 .refine G0 0 Z (Cn Z b (λM b=>?_) (λM b=>?_))
  .exact Gc 1 Z (Cl b [])
  refine Gc 6 Z (Cn Z b (λN b=>?_) (λN b=>?_))
  .exact Gc 1 Z (Cl b [])
  refine Gc 6 Z (Cn Z b (λO b=>?_) (λO b=>?_))
  .exact Gc 1 Z (Cl b [])
  refine Gc 6 Z (Cn Z b (λP b=>?_) (λP b=>?_))
  .exact Gc 1 Z (Cl b [])
  refine Gc 6 Z (Cn Z b (λQ b=>?_) (λQ b=>?_))
  .exact Gc 1 Z (Cl b [])
  refine Gc 6 Z (Cn Z b (λR b=>?_) (λR b=>?_))
  .exact Gc 1 Z (Cl b [])
  refine Gc 6 Z (Cn Z b (λT b=>?_) (λT b=>?_))
  .exact Gc 1 Z (Cl b [])
  refine Gc 6 Z (Cn Z b (λV b=>?_) (λV b=>?_))
  .exact Gc 1 Z (Cl b [])
  refine Gc 6 Z (Cn Z b (λW b=>?_) (λW b=>?_))
  .exact Gc 1 Z (Cl b [])
  refine Gc 6 Z (Cn Z b (λX b=>?_) (λX b=>?_))
  .exact Gc 1 Z (Cl b [])
  refine Gc 6 Z (Cn Z b (λY b=>?_) (λY b=>?_))
  .exact Gc 1 Z (Cl b [])
  refine Gc 6 Z (Cn Z b (λaa b=>?_) (λaa b=>?_))
  .exact Gc 1 Z (Cl b [])
  refine Gc 6 Z (Cn Z b (λab b=>?_) (λab b=>?_))
  .exact Gc 1 Z (Cl b [])
  refine Gc 6 Z (Cn Z b (λac b=>?_) (λac b=>?_))
  .exact Gc 1 Z (Cl b [])
  refine Gc 6 Z (Cn Z b (λae b=>?_) (λae b=>?_))
  .exact Gc 1 Z (Cl b [])
  refine Gc 6 Z (Cn Z b (λaf b=>?_) (λaf b=>?_))
  .exact Gc 1 Z (Cl b [])
  refine Gc 6 Z (Cn Z b (λag b=>?_) (λag b=>?_))
  .exact Gc 1 Z (Cl b [])
  refine Gc 6 Z (Cn Z b (λah b=>?_) (λah b=>?_))
  .exact Gc 1 Z (Cl b [])
  refine Gc 6 Z (Cn Z b (λai b=>?_) (λai b=>?_))
  .exact Gc 1 Z (Cl b [])
  exact Gc 4 Z (Cl b [])
 refine Gx 1 Z (Ef d (Cn Z h (λaj h=>?_) (λaj h=>?_)))
 .exact Gc 8 Z (Rt h 2 [])
 exact Gc 9 Z (Rt h 2 [])
def F_in(n:Nat)(b:List UInt8)(a:Int):Option (Ctl Int (Ctl Unit Bool)):=
  (bif decide (a<(b.length:Int))then((idx b a).bind λc=>(bif decide ((c.toNat:Int)<97)then(idx b a).bind λd=>(bif decide ((d.toNat:Int)<48)then(idx b a).bind λe=>some ((e.toNat:Int) != 95)else(idx b a).bind λf=>(bif decide (57<(f.toNat:Int))then(idx b a).bind λg=>some ((g.toNat:Int) != 95)else some false))else(idx b a).bind λh=>(bif decide (122<(h.toNat:Int))then(idx b a).bind λi=>(bif decide ((i.toNat:Int)<48)then(idx b a).bind λj=>some ((j.toNat:Int) != 95)else(idx b a).bind λk=>(bif decide (57<(k.toNat:Int))then(idx b a).bind λl=>some ((l.toNat:Int) != 95)else some false))else some false)):Option Bool).bind λm=>(bif m then some (.done (.done false))else some (.cont (IntKind.i64.wrap (a+1))))else some (.done (.cont ())))
def F_bb(n:Nat)(a:List UInt8):Option Bool:=
  ((bif decide ((a.length:Int)<1)then some true else(bif decide (24<(a.length:Int))then some true else(idx a 0).bind λd=>(bif decide ((d.toNat:Int)<97)then some true else(idx a 0).bind λe=>some (decide (122<(e.toNat:Int)))))):Option Bool).bind λg=>(bif g then some false else(iter (F_in n a) n 1:Option (Ctl Unit Bool)).bind λf=>match f with|.cont b=>((F_cz n a).bind λc=>some (!c))|.done b=>some b)
theorem k_bb(n:Nat)(g:List UInt8)(r:Bool)(h:F_bb n g=some r):
    Csm prog 101 [.str g] [] (λr=>.bool r) r:=by
 refine Qb func101 Z Z Z ?_;refine G0 7 Z (Bd h λL d h=>?_);refine Ct L [] [0] (λL=>[(21,.bool L)]) Ze Zf ?_ (λenv H e=>?_)
 .refine G0 2 Z ?_;refine vX (I (g.length:Int)) (YQ Z Z runUnderlying9 Z) ?_;refine Go 2 Z (Is 7 d Z (λaf d=>?_) (λaf d=>?_))
  .exact Go 15 Z (Cl d [])
  .refine Go 1 Z ?_;refine vX (I (g.length:Int)) (YQ Z Z runUnderlying9 Z) ?_ (gT Z);refine Go 3 Z (Is 12 d Z (λag d=>?_) (λag d=>?_))
   .exact Go 10 Z (Cl d [])
   .refine Go 1 Z (Bd d λah M d=>?_);refine vX (.int .u8 (ah.toNat:Int)) (QS M runUnderlying9) ?_ (gT Z);refine Go 3 Z (Is 17 d Z (λN d=>?_) (λN d=>?_))
    .exact Go 5 Z (Cl d [])
    .refine Go 1 Z (Bd d λai O d=>?_);refine vX (.int .u8 (ai.toNat:Int)) (QS O runUnderlying9) ?_ (gT Z);exact Go 3 Z (Cl d [])
 refine Gx 1 Z (Ef e (Cn Z h (λP h=>?_) (λP h=>?_)))
 .exact Gc 7 Z (Rt h 2 [])
 refine Gc 8 Z (Bd h λaj ak h=>?_);refine CtE (b:=aj) [] [0] Ze Ze Zf ?_ (λan env H al e=>?_)
 .refine G0 1 Z ?_;refine Lp [] [0] (λJ=>[(3,I J)]) Ze ak Zf (Lr []) λJ aq c i=>?_;refine G0 5 Z ?_;refine vX (I (g.length:Int)) (YQ Z Z runUnderlying9 Z) ?_;refine Go 3 Z (YH Z c (λQ c=>?_) (λQ c=>?_))
  .refine Gc 2 Z (Ql c ?_);obtain rfl:=Oj i c;exact Gx 1 Z (Qo Z (Lr []))
  refine Gc 5 Z (Bd c λf a c=>?_);refine Ct f [] [0,3] (λf=>[(55,.bool f)]) Ze Zf ?_ (λenv H e=>?_)
  .refine G0 3 Z (Bd a λR j a=>?_);refine vX (.int .u8 (R.toNat:Int)) (QS j runUnderlying9) ?_;refine Go 2 Z (Is 32 a Z (λk a=>?_) (λk a=>?_))
   .refine Go 8 Z (Bd a λT l a=>?_);refine vX (.int .u8 (T.toNat:Int)) (QS l runUnderlying9) ?_ (gT Z);refine Go 2 Z (Is 43 a Z (λm a=>?_) (λm a=>?_))
    .refine Go 9 Z (Bd a λV p a=>?_);refine vX (.int .u8 (V.toNat:Int)) (QS p runUnderlying9) ?_ (gT Z);exact Go 3 Z (Cl a [])
    .refine Go 2 Z (Bd a λW q a=>?_);refine vX (.int .u8 (W.toNat:Int)) (QS q runUnderlying9) ?_ (gT Z);refine Go 4 Z (Is 50 a Z (λs a=>?_) (λs a=>?_))
     .refine Go 2 Z (Bd a λX t a=>?_);refine vX (.int .u8 (X.toNat:Int)) (QS t runUnderlying9) ?_ (gT Z);exact Go 3 Z (Cl a [])
     .exact Go 6 Z (Cl a [])
   .refine Go 2 Z (Bd a λY u a=>?_);refine vX (.int .u8 (Y.toNat:Int)) (QS u runUnderlying9) ?_ (gT Z);refine Go 3 Z (Is 38 a Z (λw a=>?_) (λw a=>?_))
    .refine Go 2 Z (Bd a λaa x a=>?_);refine vX (.int .u8 (aa.toNat:Int)) (QS x runUnderlying9) ?_ (gT Z);refine Go 2 Z (Is 43 a Z (λy a=>?_) (λy a=>?_))
     .refine Go 9 Z (Bd a λab z a=>?_);refine vX (.int .u8 (ab.toNat:Int)) (QS z runUnderlying9) ?_ (gT Z);exact Go 3 Z (Cl a [])
     .refine Go 2 Z (Bd a λac B a=>?_);refine vX (.int .u8 (ac.toNat:Int)) (QS B runUnderlying9) ?_ (gT Z);refine Go 4 Z (Is 50 a Z (λE a=>?_) (λE a=>?_))
      .refine Go 2 Z (Bd a λae F a=>?_);refine vX (.int .u8 (ae.toNat:Int)) (QS F runUnderlying9) ?_ (gT Z);exact Go 3 Z (Cl a [])
      .exact Go 6 Z (Cl a [])
    .exact Go 18 Z (Cl a [])
  refine Gx 1 Z (Ef e (Cn Z c (λG c=>?_) (λG c=>?_)))
  .refine Gc 8 Z (QD c ?_);obtain rfl:=Oj i c;exact Gx 1 Z (Qs (Gx 1 Z (Rt h 2 [])))
  exact Gc 8 Z (Qj c (Lr []))
 subst al;exact Gx 1 Z (Ef e (Gc 3 Z (Cz [] h (k_cz _ _) Z λao am h=>Go 5 Z (Rt h 2 []))))
def F_fw(n:Nat)(c:List (List UInt8))(b:Int)(a:Int):Option (Ctl Int (Ctl Unit (Ctl Int (Ctl Unit Bool)))):=
  (bif decide (a<b)then(idx c a).bind λd=>(idx c b).bind λe=>(bif (d==e)then some (.done (.done (.done (.done false))))else some (.cont (IntKind.i64.wrap (a+1))))else some (.done (.cont ())))
def F_iy(n:Nat)(c:List (List UInt8))(a:Int):Option (Ctl Int (Ctl Unit Bool)):=
  (bif decide (a<(c.length:Int))then(idx c a).bind λd=>(F_bb n d).bind λe=>(bif (!e)then some (.done (.done false))else(iter (F_fw n c a) n 0:Option (Ctl Unit (Ctl Int (Ctl Unit Bool)))).bind λf=>match f with|.cont b=>(some (.cont (IntKind.i64.wrap (a+1))))|.done b=>some b)else some (.done (.cont ())))
def F_s(n:Nat)(c:List (List UInt8)):Option Bool:=
  (iter (F_iy n c) n 0:Option (Ctl Unit Bool)).bind λb=>match b with|.cont a=>(some true)|.done a=>some a
theorem k_s(n:Nat)(u:List (List UInt8))(r:Bool)(h:F_s n u=some r):
    Csm prog 102 [.rsl 1 (List.map JA u)] [] (λr=>.bool r) r:=by
 refine Qb func102 Z Z Z ?_;refine G0 11 Z (Bd h λw y h=>?_);refine CtE (b:=w) [] [] Ze Ze Zf ?_ (λG env H e f=>?_)
 .refine G0 1 Z ?_;refine Lp [] [0] (λi=>[(3,I i)]) Ze y Zf (Lr []) λi M a d=>?_;refine G0 5 Z (Lm Z (Go 3 Z (YH Z a (λk a=>?_) (λk a=>?_))))
  .refine Gc 2 Z (Ql a ?_);obtain rfl:=Oj d a;exact Gx 1 Z (Qo Z (Lr []))
  refine Gc 9 Z (Bd a λN l a=>Iz l Z (Go 1 Z (Cz [] a (k_bb _ _) Z λO J a=>Go 3 Z (Cn Z a (λm a=>?_) (λm a=>?_)))))
  .refine Gc 9 Z (QD a ?_);obtain rfl:=Oj d a;exact Gx 1 Z (Qs (Gx 1 Z (Rt h 2 [])))
  refine Gc 7 Z (Bd a λz B a=>?_);refine CtE (b:=z) [] [0,3] Ze Ze Zf ?_ (λL env H e f=>?_)
  .refine G0 1 Z ?_;refine Lp [] [0,3] (λj=>[(4,I j)]) Ze B Zf (Lr []) λj P c g=>?_;refine G0 8 Z (YH Z c (λp c=>?_) (λp c=>?_))
   .refine Gc 2 Z (Ql c ?_);obtain rfl:=Oj g c;exact Gx 1 Z (Qo Z (Lr []))
   refine Gc 5 Z (DSs 8 Z (D 2 Z ?_));obtain⟨E,q,c⟩:=bnd c;refine DS.wo (x:=.rp [.str E]) ?_ ?_
   .exact Ix q runUnderlying183 sizeOf9 Z Wp
   refine D 3 Z ?_;obtain⟨F,s,c⟩:=bnd c;refine DS.wo (x:=.rp [.str F]) ?_ ?_
   .exact Ix s runUnderlying183 sizeOf9 Z Wp
   refine D 1 Z (Eh Z (Go 3 Z (Cn Z c (λt c=>?_) (λt c=>?_))))
   .refine Gc 8 Z (QD c ?_);obtain rfl:=Oj g c;refine Gx 1 Z (Qs (Gx 2 Z (QD a ?_)));obtain rfl:=Oj d a;exact Gx 1 Z (Qs (Gx 1 Z (Rt h 2 [])))
   exact Gc 8 Z (Qj c (Lr []))
  subst e;exact Gx 2 Z (Ef f (Gc 5 Z (Qj a (Lr []))))
 subst e;exact Gx 1 Z (Ef f (Gc 6 Z (Rt h 2 [])))
def F_kl(n:Nat)(b:Course)(a:(List (List UInt8))×Int):Option (Ctl ((List (List UInt8))×Int) (List (List UInt8))):=
  (bif decide (a.2<(b.Mats.length:Int))then(idx b.Mats a.2).bind λc=>(app a.1 [c.Name]).bind λd=>some (.cont (d,IntKind.i64.wrap (a.2+1)))else some (.done a.1))
def F_jt(n:Nat)(b:Course)(a:(List (List UInt8))×Int):Option (Ctl ((List (List UInt8))×Int) (List (List UInt8))):=
  (bif decide (a.2<(b.Distances.length:Int))then(idx b.Distances a.2).bind λc=>(app a.1 [c.Name]).bind λd=>some (.cont (d,IntKind.i64.wrap (a.2+1)))else some (.done a.1))
def F_jp(n:Nat)(b:Course)(a:(List (List UInt8))×Int):Option (Ctl ((List (List UInt8))×Int) (List (List UInt8))):=
  (bif decide (a.2<(b.Waves.length:Int))then(idx b.Waves a.2).bind λc=>(app a.1 [c.Name]).bind λd=>some (.cont (d,IntKind.i64.wrap (a.2+1)))else some (.done a.1))
def F_jr(n:Nat)(b:Course)(a:(List (List UInt8))×Int):Option (Ctl ((List (List UInt8))×Int) (List (List UInt8))):=
  (bif decide (a.2<(b.Offences.length:Int))then(idx b.Offences a.2).bind λc=>(app a.1 [c.Name]).bind λd=>some (.cont (d,IntKind.i64.wrap (a.2+1)))else some (.done a.1))
def F_jv(n:Nat)(b:Course)(a:(List (List UInt8))×Int):Option (Ctl ((List (List UInt8))×Int) (List (List UInt8))):=
  (bif decide (a.2<(b.Categories.length:Int))then(idx b.Categories a.2).bind λc=>(app a.1 [c.Name]).bind λd=>some (.cont (d,IntKind.i64.wrap (a.2+1)))else some (.done a.1))
def F_dk(n:Nat)(a:Course):Option Bool:=
  (iter (F_kl n a) n (([]:List (List UInt8)),0):Option (List (List UInt8))).bind λm=>(iter (F_jt n a) n (([]:List (List UInt8)),0):Option (List (List UInt8))).bind λe=>(iter (F_jp n a) n (([]:List (List UInt8)),0):Option (List (List UInt8))).bind λf=>(iter (F_jr n a) n (([]:List (List UInt8)),0):Option (List (List UInt8))).bind λg=>(iter (F_jv n a) n (([]:List (List UInt8)),0):Option (List (List UInt8))).bind λh=>((F_bb n a.Name).bind λi=>(bif i then(F_s n m).bind λj=>(bif j then(F_s n e).bind λk=>(bif k then(F_s n f).bind λb=>(bif b then(F_s n g).bind λc=>(bif c then(F_s n h).bind λd=>some d else some false)else some false)else some false)else some false)else some false):Option Bool).bind λl=>some l
theorem k_dk(n:Nat)(a1:Course)(r:Bool)(h:F_dk n a1=some r):
    Csm prog 59 [.agg (Course.c a1)] [] (λr=>.bool r) r:=by
 refine Qb func59 Z Z Z ?_;refine G0 8 Z ?_;refine vH (El (xs:=[]) (es:=List.map JA []) Jt Z Z Z Z Z trivial Z Z) ?_;refine FE Z (Go 9 Z (Bd h λy h9 h=>?_));refine Ct y [0,1] [1] (λy=>[(3,.osl 1 0 y.length 1)]) (λy=>[(1,.row 9 1 (List.map JA y))]) Zf ?_ (λenv H b=>?_)
 .refine G0 1 Z ?_;refine Lp [0,1] [1] (λl=>[(3,.osl 1 0 l.1.length 1),(4,I l.2)]) (λl=>[(1,.row 9 1 (List.map JA l.1))]) h9 Zf (Lr [0,1]) λl be d F=>?_;refine G0 6 Z (Lm Z (Go 3 Z (YH Z d (λG d=>?_) (λG d=>?_))))
  .refine Gc 2 Z (Ql d ?_);obtain rfl:=Oj F d;exact Gx 1 Z (QC (Lr [0,1]))
  refine Gc 9 Z (Bd d λaj J d=>Iz J Z (Go 2 Z ?_));refine vH (El (xs:=[.tmp 27]) (es:=List.map JA [aj.Name]) Jt Z Z Z Z Z ⟨Z,trivial⟩ Z Z) ?_;refine FE Z (Bd d λbf L d=>?_);refine vH (QB (e:=JA) L Jt runUnderlying183 (YP (i:=2))) ?_;exact FE Z (Go 9 Z (Qj d (Lr [0,3])))
 refine Gx 1 Z (Ef b (Gc 2 Z ?_));refine vH (El (xs:=[]) (es:=List.map JA []) Jt Z Z Z Z Z trivial Z Z) ?_;refine FE Z (Go 9 Z (Bd h λm ak h=>?_));refine Ct m [0,1,2] [1,3] (λm=>[(5,.osl 2 0 m.length 1)]) (λm=>[(2,.row 9 1 (List.map JA m))]) Zf ?_ (λenv H b=>?_)
 .refine G0 1 Z ?_;refine Lp [0,1,2] [1,3] (λp=>[(5,.osl 2 0 p.1.length 1),(6,I p.2)]) (λp=>[(2,.row 9 1 (List.map JA p.1))]) ak Zf (Lr [0,1,2]) λp bg f M=>?_;refine G0 6 Z (Lm Z (Go 3 Z (YH Z f (λN f=>?_) (λN f=>?_))))
  .refine Gc 2 Z (Ql f ?_);obtain rfl:=Oj M f;exact Gx 1 Z (QC (Lr [0,1,2]))
  refine Gc 9 Z (Bd f λal O f=>Iz O Z (Go 2 Z ?_));refine vH (El (xs:=[.tmp 44]) (es:=List.map JA [al.Name]) Jt Z Z Z Z Z ⟨Z,trivial⟩ Z Z) ?_;refine FE Z (Bd f λbh P f=>?_);refine vH (QB (e:=JA) P Jt runUnderlying183 (YP (i:=3))) ?_;exact FE Z (Go 9 Z (Qj f (Lr [0,1,4])))
 refine Gx 1 Z (Ef b (Gc 2 Z ?_));refine vH (El (xs:=[]) (es:=List.map JA []) Jt Z Z Z Z Z trivial Z Z) ?_;refine FE Z (Go 9 Z (Bd h λq am h=>?_));refine Ct q [0,1,2,3] [1,3,5] (λq=>[(7,.osl 3 0 q.length 1)]) (λq=>[(3,.row 9 1 (List.map JA q))]) Zf ?_ (λenv H b=>?_)
 .refine G0 1 Z ?_;refine Lp [0,1,2,3] [1,3,5] (λs=>[(7,.osl 3 0 s.1.length 1),(8,I s.2)]) (λs=>[(3,.row 9 1 (List.map JA s.1))]) am Zf (Lr [0,1,2,3]) λs bi g Q=>?_;refine G0 6 Z (Lm Z (Go 3 Z (YH Z g (λR g=>?_) (λR g=>?_))))
  .refine Gc 2 Z (Ql g ?_);obtain rfl:=Oj Q g;exact Gx 1 Z (QC (Lr [0,1,2,3]))
  refine Gc 9 Z (Bd g λan T g=>Iz T Z (Go 2 Z ?_));refine vH (El (xs:=[.tmp 61]) (es:=List.map JA [an.Name]) Jt Z Z Z Z Z ⟨Z,trivial⟩ Z Z) ?_;refine FE Z (Bd g λbj V g=>?_);refine vH (QB (e:=JA) V Jt runUnderlying183 (YP (i:=4))) ?_;exact FE Z (Go 9 Z (Qj g (Lr [0,1,2,5])))
 refine Gx 1 Z (Ef b (Gc 2 Z ?_));refine vH (El (xs:=[]) (es:=List.map JA []) Jt Z Z Z Z Z trivial Z Z) ?_;refine FE Z (Go 9 Z (Bd h λt ao h=>?_));refine Ct t [0,1,2,3,4] [1,3,5,7] (λt=>[(9,.osl 4 0 t.length 1)]) (λt=>[(4,.row 9 1 (List.map JA t))]) Zf ?_ (λenv H b=>?_)
 .refine G0 1 Z ?_;refine Lp [0,1,2,3,4] [1,3,5,7] (λu=>[(9,.osl 4 0 u.1.length 1),(10,I u.2)]) (λu=>[(4,.row 9 1 (List.map JA u.1))]) ao Zf (Lr [0,1,2,3,4]) λu bk j W=>?_;refine G0 6 Z (Lm Z (Go 3 Z (YH Z j (λX j=>?_) (λX j=>?_))))
  .refine Gc 2 Z (Ql j ?_);obtain rfl:=Oj W j;exact Gx 1 Z (QC (Lr [0,1,2,3,4]))
  refine Gc 9 Z (Bd j λaq Y j=>Iz Y Z (Go 2 Z ?_));refine vH (El (xs:=[.tmp 78]) (es:=List.map JA [aq.Name]) Jt Z Z Z Z Z ⟨Z,trivial⟩ Z Z) ?_;refine FE Z (Bd j λbl aa j=>?_);refine vH (QB (e:=JA) aa Jt runUnderlying183 (YP (i:=5))) ?_;exact FE Z (Go 9 Z (Qj j (Lr [0,1,2,3,6])))
 refine Gx 1 Z (Ef b (Gc 2 Z ?_));refine vH (El (xs:=[]) (es:=List.map JA []) Jt Z Z Z Z Z trivial Z Z) ?_;refine FE Z (Go 9 Z (Bd h λw ar h=>?_));refine Ct w [0,1,2,3,4,5] [1,3,5,7,9] (λw=>[(11,.osl 5 0 w.length 1)]) (λw=>[(5,.row 9 1 (List.map JA w))]) Zf ?_ (λenv H b=>?_)
 .refine G0 1 Z ?_;refine Lp [0,1,2,3,4,5] [1,3,5,7,9] (λx=>[(11,.osl 5 0 x.1.length 1),(12,I x.2)]) (λx=>[(5,.row 9 1 (List.map JA x.1))]) ar Zf (Lr [0,1,2,3,4,5]) λx bm k ab=>?_;refine G0 6 Z (Lm Z (Go 3 Z (YH Z k (λac k=>?_) (λac k=>?_))))
  .refine Gc 2 Z (Ql k ?_);obtain rfl:=Oj ab k;exact Gx 1 Z (QC (Lr [0,1,2,3,4,5]))
  refine Gc 9 Z (Bd k λau ae k=>Iz ae Z (Go 2 Z ?_));refine vH (El (xs:=[.tmp 95]) (es:=List.map JA [au.Name]) Jt Z Z Z Z Z ⟨Z,trivial⟩ Z Z) ?_;refine FE Z (Bd k λbn af k=>?_);refine vH (QB (e:=JA) af Jt runUnderlying183 (YP (i:=6))) ?_;exact FE Z (Go 9 Z (Qj k (Lr [0,1,2,3,4,7])))
 refine Gx 1 Z (Ef b (Gc 1 Z (Bd h λz a h=>?_)));refine Ct z [] [] (λz=>[(2,.bool z)]) Ze Zf ?_ (λenv H b=>?_)
 .refine G0 3 Z (Cz [] a (k_bb _ _) Z λbo ay a=>Go 1 Z (Is 101 a Z (λag a=>?_) (λag a=>?_)))
  .refine Go 1 Z (Cb a (k_s _ _) Z (lo ln) λbp az a=>Go 2 Z (Is 105 a Z (λah a=>?_) (λah a=>?_)))
   .refine Go 1 Z (Cb a (k_s _ _) Z (lo ln) λbq ba a=>Go 2 Z (Is 109 a Z (λai a=>?_) (λai a=>?_)))
    .refine Go 1 Z (Cb a (k_s _ _) Z (lo ln) λbb av a=>Go 2 Z (Is 113 a Z (λB a=>?_) (λB a=>?_)))
     .refine Go 1 Z (Cb a (k_s _ _) Z (lo ln) λbc aw a=>Go 2 Z (Is 117 a Z (λE a=>?_) (λE a=>?_)))
      .exact Go 1 Z (Cb a (k_s _ _) Z (lo ln) λbd ax a=>Go 3 Z (Cl a []))
      .exact Go 5 Z (Cl a [])
     .exact Go 9 Z (Cl a [])
    .exact Go 13 Z (Cl a [])
   .exact Go 17 Z (Cl a [])
  .exact Go 21 Z (Cl a [])
 exact Gx 1 Z (Ef b (Gc 1 Z (Rt h 2 [])))
def F_b(n:Nat)(a:Int)(b:Int)(c:Int):Option Bool:=
  ((bif decide (b<=a)then some (decide (a<=c))else some false):Option Bool).bind λb2=>some b2
theorem k_b(n:Nat)(b:Int)(c:Int)(d:Int)(r:Bool)(h:F_b n b c d=some r):
    Csm prog 103 [I b,I c,I d] [] (λr=>.bool r) r:=by
 refine Qb func103 Z Z Z ?_;refine G0 6 Z (Bd h λb2 a h=>?_);refine Ct b2 [] [] (λb2=>[(6,.bool b2)]) Ze Zf ?_ (λenv H e=>?_)
 .refine G0 5 Z (Is 10 a Z (λf a=>?_) (λf a=>?_))
  .exact Go 6 Z (Cl a [])
  .exact Go 6 Z (Cl a [])
 exact Gx 1 Z (Ef e (Gc 1 Z (Rt h 6 [])))
def F_j(n:Nat)(a:Course)(b:Int):Option Bool:=
  (F_b n b 0 (IntKind.i64.wrap ((a.Mats.length:Int)-1))).bind λc=>some c
theorem k_j(n:Nat)(a:Course)(b:Int)(r:Bool)(h:F_j n a b=some r):
    Csm prog 104 [.agg (Course.c a),I b] [] (λr=>.bool r) r:=by
 refine Qb func104 Z Z Z ?_;exact G0 11 Z (Lm Z (Go 1 Z (Cz [] h (k_b _ _ _ _) Z λe d h=>Go 4 Z (Rt h 4 []))))
def F_hy(n:Nat)(c:Course)(d:List Part)(rec217:Course->(List Part)->Option Bool)(b:Int):Option (Ctl Int (Ctl Unit Bool)):=
  (bif decide (b<(d.length:Int))then(idx d b).bind λa=>((bif (a.Laps==0)then(F_j n c a.Mat).bind λe=>(bif e then some ((a.Parts.length:Int)==0)else some false)else some false):Option Bool).bind λf=>((F_b n a.Laps 1 64).bind λg=>(bif g then(bif (a.Mat==0)then(bif decide (0<(a.Parts.length:Int))then(rec217 c a.Parts).bind λh=>some h else some false)else some false)else some false):Option Bool).bind λi=>((bif (!f)then some (!i)else some false):Option Bool).bind λj=>(bif j then some (.done (.done false))else some (.cont (IntKind.i64.wrap (b+1))))else some (.done (.cont ())))
def B_n(rec217:Course->(List Part)->Option Bool)(n:Nat)(c:Course)(d:List Part):Option Bool:=
  (iter (F_hy n c d rec217) n 0:Option (Ctl Unit Bool)).bind λb=>match b with|.cont a=>(some true)|.done a=>some a
theorem QaW(rec217:Course->(List Part)->Option Bool)(i:∀(j:Course) (k:List Part) (r:Bool),rec217 j k=some r->Csm prog 181 [.agg (Course.c j),.rsl 3 (List.map Part.enc k)] [] (λr=>.bool r) r)(n:Nat)(j:Course)(k:List Part)(r:Bool)(h:B_n rec217 n j k=some r):
    Csm prog 181 [.agg (Course.c j),.rsl 3 (List.map Part.enc k)] [] (λr=>.bool r) r:=by
 refine Qb func181 Z Z Z ?_;refine G0 12 Z (Bd h λG J h=>?_);refine CtE (b:=G) [] [] Ze Ze Zf ?_ (λN env H L f=>?_)
 .refine G0 1 Z ?_;refine Lp [0] [1,2] (λs=>[(5,I s)]) Ze J Zf (Lr [0]) λs R a l=>?_;refine G0 5 Z (Lm Z (Go 3 Z (YH Z a (λt a=>?_) (λt a=>?_))))
  .refine Gc 2 Z (Ql a ?_);obtain rfl:=Oj l a;exact Gx 1 Z (Qo Z (Lr []))
  refine Gc 8 Z (Bd a λM u a=>IzE u (Q0 M) Z (Go 6 Z (Bd a λm e a=>?_)));refine Ct m [0,1] [1,2,5,6] (λm=>[(7,.bool m)]) Ze Zf ?_ (λenv H f=>?_)
  .refine G0 5 Z (Is 22 e Z (λw e=>?_) (λw e=>?_))
   .refine Go 3 Z (Cz [] e (k_j _ _ _) Z λT O e=>Go 2 Z (Is 28 e Z (λx e=>?_) (λx e=>?_)))
    .exact Go 2 Z (Lm Z (Go 4 Z (Cl e [0,1])))
    .exact Go 7 Z (Cl e [0,1])
   .exact Go 13 Z (Cl e [0,1])
  refine Gx 1 Z (Ef f (Gc 1 Z (Bd a λp d a=>?_)));refine Ct p [0] [1,2,5,7] (λp=>[(8,.bool p)]) Ze Zf ?_ (λenv H f=>?_)
  .refine G0 3 Z (Cz [] d (k_b _ _ _ _) Z λV P d=>Go 1 Z (Is 37 d Z (λy d=>?_) (λy d=>?_)))
   .refine Go 5 Z (Is 42 d Z (λz d=>?_) (λz d=>?_))
    .refine Go 2 Z (Lm Z (Go 3 Z (Is 48 d Z (λB d=>?_) (λB d=>?_))))
     .exact Go 3 Z (Cz [] d (i _ _) Z λW Q d=>Go 3 Z (Cl d [0]))
     .exact Go 7 Z (Cl d [0])
    .exact Go 13 Z (Cl d [0])
   .exact Go 18 Z (Cl d [0])
  refine Gx 1 Z (Ef f (Gc 1 Z (Bd a λq g a=>?_)));refine Ct q [0] [1,2,5] (λq=>[(59,.bool q)]) Ze Zf ?_ (λenv H f=>?_)
  .refine G0 4 Z (Is 56 g Z (λE g=>?_) (λE g=>?_))
   .exact Go 4 Z (Cl g [0])
   .exact Go 4 Z (Cl g [0])
  refine Gx 1 Z (Ef f (Cn Z a (λF a=>?_) (λF a=>?_)))
  .refine Gc 8 Z (QD a ?_);obtain rfl:=Oj l a;exact Gx 1 Z (Qs (Gx 1 Z (Rt h 4 [])))
  exact Gc 8 Z (Qj a (Lr [0]))
 subst L;exact Gx 1 Z (Ef f (Gc 6 Z (Rt h 4 [])))
def F_n:Nat->Course->(List Part)->Option Bool
  |0=>λ_ _=>none
  |n+1=>B_n (F_n n) n
theorem k_n(n:Nat):∀(a:Course) (b:List Part) (r:Bool),F_n n a b=some r->Csm prog 181 [.agg (Course.c a),.rsl 3 (List.map Part.enc b)] [] (λr=>.bool r) r:=by
  induction n with
  |zero=>intro a b r h;cases h
  |succ n ih=>intro a b r h;exact QaW _ ih n a b r h
def F_ib(n:Nat)(g:Course)(c:Distance)(a:Int):Option (Ctl Int (Ctl Unit Bool)):=
  (bif decide (a<(c.Cutoffs.length:Int))then(idx c.Cutoffs a).bind λb=>((F_j n g b.Mat).bind λd=>(bif (!d)then some true else(bif decide (b.Lap<1)then some true else(F_b n b.Limit 0 1099511627776).bind λe=>some (!e))):Option Bool).bind λf=>(bif f then some (.done (.done false))else some (.cont (IntKind.i64.wrap (a+1))))else some (.done (.cont ())))
def F_dr(n:Nat)(c:Course)(a:Distance):Option Bool:=
  (iter (F_ib n c a) n 0:Option (Ctl Unit Bool)).bind λd=>match d with|.cont b=>(((F_b n a.Timing 1 3).bind λe=>(bif e then(F_n n c a.Route).bind λf=>(bif f then(bif (a.Extra==(-1))then some true else(F_j n c a.Extra).bind λg=>some g)else some false)else some false):Option Bool).bind λh=>some h)|.done b=>some b
theorem k_dr(n:Nat)(x:Course)(y:Distance)(r:Bool)(h:F_dr n x y=some r):
    Csm prog 105 [.agg (Course.c x),.agg (Distance.c y)] [] (λr=>.bool r) r:=by
 refine Qb func105 Z Z Z ?_;refine G0 13 Z (Bd h λz B h=>?_);refine CtE (b:=z) [0,1] [2,3] Ze Ze Zf ?_ (λF env H E f=>?_)
 .refine G0 1 Z ?_;refine Lp [0,1] [2,3] (λk=>[(5,I k)]) Ze B Zf (Lr [0,1]) λk O d g=>?_;refine G0 6 Z (Lm Z (Go 3 Z (YH Z d (λl d=>?_) (λl d=>?_))))
  .refine Gc 2 Z (Ql d ?_);obtain rfl:=Oj g d;exact Gx 1 Z (Qo Z (Lr [0,1]))
  refine Gc 9 Z (Bd d λP m d=>Iz m Z (Go 6 Z (Bd d λi e d=>?_)));refine Ct i [0,1] [2,3,5] (λi=>[(34,.bool i)]) Ze Zf ?_ (λenv H f=>?_)
  .refine G0 4 Z (Cz [] e (k_j _ _ _) Z λQ G e=>Go 2 Z (Is 24 e Z (λp e=>?_) (λp e=>?_)))
   .exact Go 11 Z (Cl e [0,1])
   .refine Go 5 Z (Is 29 e Z (λq e=>?_) (λq e=>?_))
    .exact Go 6 Z (Cl e [0,1])
    .exact Go 2 Z (Cz [] e (k_b _ _ _ _) Z λR J e=>Go 3 Z (Cl e [0,1]))
  refine Gx 1 Z (Ef f (Cn Z d (λs d=>?_) (λs d=>?_)))
  .refine Gc 8 Z (QD d ?_);obtain rfl:=Oj g d;exact Gx 1 Z (Qs (Gx 1 Z (Rt h 4 [])))
  exact Gc 8 Z (Qj d (Lr [0,1]))
 subst E;refine Gx 1 Z (Ef f (Gc 1 Z (Bd h λj a h=>?_)));refine Ct j [] [] (λj=>[(4,.bool j)]) Ze Zf ?_ (λenv H f=>?_)
 .refine G0 3 Z (Cz [] a (k_b _ _ _ _) Z λT L a=>Go 1 Z (Is 38 a Z (λt a=>?_) (λt a=>?_)))
  .refine Go 3 Z (Cz [] a (k_n _ _ _) Z λV M a=>Go 2 Z (Is 44 a Z (λu a=>?_) (λu a=>?_)))
   .refine Go 4 Z (Is 48 a Z (λw a=>?_) (λw a=>?_))
    .exact Go 8 Z (Cl a [])
    .exact Go 3 Z (Cz [] a (k_j _ _ _) Z λW N a=>Go 4 Z (Cl a []))
   .exact Go 12 Z (Cl a [])
  .exact Go 18 Z (Cl a [])
 exact Gx 1 Z (Ef f (Gc 1 Z (Rt h 4 [])))
def F_ii(n:Nat)(b:Course)(a:Int):Option (Ctl Int (Ctl Unit Bool)):=
  (bif decide (a<(b.Mats.length:Int))then(idx b.Mats a).bind λc=>(F_b n c.Kind 1 3).bind λd=>(bif (!d)then some (.done (.done false))else some (.cont (IntKind.i64.wrap (a+1))))else some (.done (.cont ())))
def F_gx(n:Nat)(g:Course)(c:Int)(b:Leg)(a:Int):Option (Ctl Int (Ctl Unit (Ctl Int (Ctl Unit Bool)))):=
  (bif decide (a<c)then((idx g.Legs a).bind λd=>(bif (d.From==b.From)then(idx g.Legs a).bind λe=>some (e.To==b.To)else some false):Option Bool).bind λf=>(bif f then some (.done (.done (.done (.done false))))else some (.cont (IntKind.i64.wrap (a+1))))else some (.done (.cont ())))
def F_cq(n:Nat)(d:Course)(b:Int):Option (Ctl Int (Ctl Unit Bool)):=
  (bif decide (b<(d.Legs.length:Int))then(idx d.Legs b).bind λa=>((F_j n d a.From).bind λe=>(bif (!e)then some true else(F_j n d a.To).bind λf=>(bif (!f)then some true else(bif decide (a.Min<0)then some true else(bif decide (a.Max<a.Min)then some true else some (decide (68719476736<a.Max)))))):Option Bool).bind λg=>(bif g then some (.done (.done false))else(iter (F_gx n d b a) n 0:Option (Ctl Unit (Ctl Int (Ctl Unit Bool)))).bind λh=>match h with|.cont c=>(some (.cont (IntKind.i64.wrap (b+1))))|.done c=>some c)else some (.done (.cont ())))
def F_hs(n:Nat)(b:Course)(a:Int):Option (Ctl Int (Ctl Unit Bool)):=
  (bif decide (a<(b.Distances.length:Int))then(idx b.Distances a).bind λc=>(F_dr n b c).bind λd=>(bif (!d)then some (.done (.done false))else some (.cont (IntKind.i64.wrap (a+1))))else some (.done (.cont ())))
def F_ij(n:Nat)(d:Course)(a:Int):Option (Ctl Int (Ctl Unit Bool)):=
  (bif decide (a<(d.Waves.length:Int))then(idx d.Waves a).bind λb=>(F_b n b.Gun 0 1099511627776).bind λc=>(bif (!c)then some (.done (.done false))else some (.cont (IntKind.i64.wrap (a+1))))else some (.done (.cont ())))
def F_id(n:Nat)(i:Course)(b:Int):Option (Ctl Int (Ctl Unit Bool)):=
  (bif decide (b<(i.Offences.length:Int))then(idx i.Offences b).bind λa=>((F_b n a.Time 0 68719476736).bind λc=>(bif c then(bif (a.Laps==0)then some (!a.Out)else some false)else some false):Option Bool).bind λd=>((bif (a.Time==0)then(F_b n a.Laps 1 64).bind λe=>(bif e then some (!a.Out)else some false)else some false):Option Bool).bind λf=>((bif (a.Time==0)then(bif (a.Laps==0)then some a.Out else some false)else some false):Option Bool).bind λg=>((bif (!d)then(bif (!f)then some (!g)else some false)else some false):Option Bool).bind λh=>(bif h then some (.done (.done false))else some (.cont (IntKind.i64.wrap (b+1))))else some (.done (.cont ())))
def F_ik(n:Nat)(d:Course)(b:Int):Option (Ctl Int (Ctl Unit Bool)):=
  (bif decide (b<(d.Categories.length:Int))then(idx d.Categories b).bind λa=>((bif decide (a.From<0)then some true else(bif decide (a.To<a.From)then some true else some (decide (120<a.To)))):Option Bool).bind λc=>(bif c then some (.done (.done false))else some (.cont (IntKind.i64.wrap (b+1))))else some (.done (.cont ())))
def F_hf(n:Nat)(f:Course)(d:Int)(a:Prize)(b:Int):Option (Ctl Int (Ctl Unit (Ctl Int (Ctl Unit Bool)))):=
  (bif decide (b<d)then(idx f.Prizes b).bind λc=>((bif (c.Distance==a.Distance)then(bif (c.Category==a.Category)then some (c.Rank==a.Rank)else some false)else some false):Option Bool).bind λe=>(bif e then some (.done (.done (.done (.done false))))else some (.cont (IntKind.i64.wrap (b+1))))else some (.done (.cont ())))
def F_bn(n:Nat)(d:Course)(b:Int):Option (Ctl Int (Ctl Unit Bool)):=
  (bif decide (b<(d.Prizes.length:Int))then(idx d.Prizes b).bind λa=>((F_b n a.Distance 0 (IntKind.i64.wrap ((d.Distances.length:Int)-1))).bind λe=>(bif (!e)then some true else(F_b n a.Category (-1) (IntKind.i64.wrap ((d.Categories.length:Int)-1))).bind λf=>(bif (!f)then some true else(F_b n a.Rank 1 4000).bind λg=>(bif (!g)then some true else(F_b n a.Amount 1 1125899906842624).bind λh=>some (!h)))):Option Bool).bind λi=>(bif i then some (.done (.done false))else(iter (F_hf n d b a) n 0:Option (Ctl Unit (Ctl Int (Ctl Unit Bool)))).bind λj=>match j with|.cont c=>(some (.cont (IntKind.i64.wrap (b+1))))|.done c=>some c)else some (.done (.cont ())))
def F_cn(n:Nat)(a:Course):Option Bool:=
  (iter (F_ii n a) n 0:Option (Ctl Unit Bool)).bind λy=>match y with|.cont g=>((iter (F_cq n a) n 0:Option (Ctl Unit Bool)).bind λz=>match z with|.cont h=>((iter (F_hs n a) n 0:Option (Ctl Unit Bool)).bind λi=>match i with|.cont b=>((iter (F_ij n a) n 0:Option (Ctl Unit Bool)).bind λj=>match j with|.cont c=>((iter (F_id n a) n 0:Option (Ctl Unit Bool)).bind λk=>match k with|.cont d=>((iter (F_ik n a) n 0:Option (Ctl Unit Bool)).bind λl=>match l with|.cont e=>((iter (F_bn n a) n 0:Option (Ctl Unit Bool)).bind λm=>match m with|.cont f=>(((F_b n a.Faults.Misses 0 16).bind λp=>(bif p then(F_b n a.Faults.Strays 0 16).bind λq=>(bif q then(F_b n a.Faults.Window 0 4294967296).bind λr=>(bif r then(F_b n a.Faults.Residual 0 4294967296).bind λs=>(bif s then(F_b n a.Faults.Drift 0 100000).bind λt=>(bif t then(F_b n a.Fee 0 1125899906842624).bind λu=>(bif u then(F_b n a.Deadline 0 1099511627776).bind λw=>some w else some false)else some false)else some false)else some false)else some false)else some false):Option Bool).bind λx=>some x)|.done f=>some f)|.done e=>some e)|.done d=>some d)|.done c=>some c)|.done b=>some b)|.done h=>some h)|.done g=>some g
theorem k_cn(n:Nat)(a1:Course)(r:Bool)(h:F_cn n a1=some r):
    Csm prog 60 [.agg (Course.c a1)] [] (λr=>.bool r) r:=by
 refine Qb func60 Z Z Z ?_;refine G0 12 Z (Bd h λds dt h=>?_);refine CtE (b:=ds) [0] [1] Ze Ze Zf ?_ (λew env H u d=>?_)
 .refine G0 1 Z ?_;refine Lp [0] [1] (λcw=>[(3,I cw)]) Ze dt Zf (Lr [0]) λcw gk w ak=>?_;refine G0 6 Z (Lm Z (Go 3 Z (YH Z w (λcx w=>?_) (λcx w=>?_))))
  .refine Gc 2 Z (Ql w ?_);obtain rfl:=Oj ak w;exact Gx 1 Z (Qo Z (Lr [0]))
  refine Gc 9 Z (Bd w λgl cy w=>Iz cy Z (Go 2 Z (Cz [] w (k_b _ _ _ _) Z λgm ey w=>Go 3 Z (Cn Z w (λcz w=>?_) (λcz w=>?_)))))
  .refine Gc 8 Z (QD w ?_);obtain rfl:=Oj ak w;exact Gx 1 Z (Qs (Gx 1 Z (Rt h 2 [])))
  exact Gc 8 Z (Qj w (Lr [0]))
 subst u;refine Gx 1 Z (Ef d (Gc 6 Z (Bd h λdu da h=>?_)));refine CtE (b:=du) [0] [1] Ze Ze Zf ?_ (λez env H u d=>?_)
 .refine G0 1 Z ?_;refine Lp [0] [1] (λal=>[(4,I al)]) Ze da Zf (Lr [0]) λal fa j N=>?_;refine G0 6 Z (Lm Z (Go 3 Z (YH Z j (λaw j=>?_) (λaw j=>?_))))
  .refine Gc 2 Z (Ql j ?_);obtain rfl:=Oj N j;exact Gx 1 Z (Qo Z (Lr [0]))
  refine Gc 9 Z (Bd j λfc ax j=>Iz ax Z (Go 7 Z (Bd j λQ f j=>?_)));refine Ct Q [0,1] [1,4,5] (λQ=>[(76,.bool Q)]) Ze Zf ?_ (λenv H d=>?_)
  .refine G0 4 Z (Cz [] f (k_j _ _ _) Z λfd dv f=>Go 2 Z (Is 53 f Z (λay f=>?_) (λay f=>?_)))
   .exact Go 24 Z (Cl f [0,1])
   .refine Go 3 Z (Cz [] f (k_j _ _ _) Z λfe dw f=>Go 3 Z (Is 60 f Z (λaz f=>?_) (λaz f=>?_)))
    .exact Go 17 Z (Cl f [0,1])
    .refine Go 5 Z (Is 65 f Z (λba f=>?_) (λba f=>?_))
     .exact Go 12 Z (Cl f [0,1])
     .refine Go 7 Z (Is 72 f Z (λbb f=>?_) (λbb f=>?_))
      .exact Go 5 Z (Cl f [0,1])
      .exact Go 5 Z (Cl f [0,1])
  refine Gx 1 Z (Ef d (Cn Z j (λbc j=>?_) (λbc j=>?_)))
  .refine Gc 9 Z (QD j ?_);obtain rfl:=Oj N j;exact Gx 1 Z (Qs (Gx 1 Z (Rt h 2 [])))
  refine Gc 7 Z (Bd j λdb dc j=>?_);refine CtE (b:=db) [0] [1,4] Ze Ze Zf ?_ (λdx env H u d=>?_)
  .refine G0 1 Z ?_;refine Lp [0,1] [1,4,5] (λam=>[(6,I am)]) Ze dc Zf (Lr [0,1]) λam fg t ae=>?_;refine G0 8 Z (YH Z t (λbd t=>?_) (λbd t=>?_))
   .refine Gc 2 Z (Ql t ?_);obtain rfl:=Oj ae t;exact Gx 1 Z (Qo Z (Lr [0]))
   refine Gc 5 Z (Bd t λR B t=>?_);refine Ct R [0,1] [1,4,5,6] (λR=>[(101,.bool R)]) Ze Zf ?_ (λenv H d=>?_)
   .refine G0 0 Z (DSs 18 Z (D 3 Z ?_));obtain⟨O,be,B⟩:=bnd B;refine DS.wo (x:=.rp [I O.From,I O.To,I O.Min,I O.Max]) ?_ ?_
    .exact Ix be runUnderlying23 sizeOf131 Z Wp
    refine D 6 Z (Qla 9 B Z Z Z (λbf B=>?_) (λbf B=>?_))
    .refine D 3 Z ?_;obtain⟨L,bg,B⟩:=bnd B;refine DS.v (x:=(.rp [I L.From,I L.To,I L.Min,I L.Max])) (QeG (e:=Leg.c) (l:=a1.Legs) (v:=L) bg runUnderlying23 sizeOf131) ?_ (hg:=(gT Z));exact D 4 Z (Eh Z (Go 3 Z (Cl B [0,1])))
    .exact D 8 Z (Eh Z (Go 3 Z (Cl B [0,1])))
   refine Gx 1 Z (Ef d (Cn Z t (λbh t=>?_) (λbh t=>?_)))
   .refine Gc 8 Z (QD t ?_);obtain rfl:=Oj ae t;refine Gx 1 Z (Qs (Gx 2 Z (QD j ?_)));obtain rfl:=Oj N j;exact Gx 1 Z (Qs (Gx 1 Z (Rt h 2 [])))
   exact Gc 8 Z (Qj t (Lr [0,1]))
  subst u;exact Gx 2 Z (Ef d (Gc 5 Z (Qj j (Lr [0]))))
 subst u;refine Gx 1 Z (Ef d (Gc 6 Z (Bd h λde df h=>?_)));refine CtE (b:=de) [0] [1] Ze Ze Zf ?_ (λdy env H u d=>?_)
 .refine G0 1 Z ?_;refine Lp [0] [1] (λan=>[(7,I an)]) Ze df Zf (Lr [0]) λan fh m af=>?_;refine G0 6 Z (Lm Z (Go 3 Z (YH Z m (λbi m=>?_) (λbi m=>?_))))
  .refine Gc 2 Z (Ql m ?_);obtain rfl:=Oj af m;exact Gx 1 Z (Qo Z (Lr [0]))
  refine Gc 5 Z (DSs 6 Z (D 4 Z ?_));obtain⟨M,bj,m⟩:=bnd m;refine DS.wo (x:=.rp [.str M.Name,.rsl 3 (List.map Part.enc M.Route),I M.Timing,.rsl 3 (List.map Cutoff.c M.Cutoffs),I M.Extra]) ?_ ?_
  .exact Ix bj runUnderlying24 sizeOf86 Z Wp
  refine D 1 Z (Eh Z (Cz [] m (k_dr _ _ _) Z λfi dz m=>Go 3 Z (Cn Z m (λbk m=>?_) (λbk m=>?_))))
  .refine Gc 8 Z (QD m ?_);obtain rfl:=Oj af m;exact Gx 1 Z (Qs (Gx 1 Z (Rt h 2 [])))
  exact Gc 8 Z (Qj m (Lr [0]))
 subst u;refine Gx 1 Z (Ef d (Gc 6 Z (Bd h λdg dh h=>?_)));refine CtE (b:=dg) [0] [1] Ze Ze Zf ?_ (λea env H u d=>?_)
 .refine G0 1 Z ?_;refine Lp [0] [1] (λao=>[(8,I ao)]) Ze dh Zf (Lr [0]) λao fj p ag=>?_;refine G0 6 Z (Lm Z (Go 3 Z (YH Z p (λbl p=>?_) (λbl p=>?_))))
  .refine Gc 2 Z (Ql p ?_);obtain rfl:=Oj ag p;exact Gx 1 Z (Qo Z (Lr [0]))
  refine Gc 9 Z (Bd p λfk bm p=>Iz bm Z (Go 2 Z (Cz [] p (k_b _ _ _ _) Z λfm eb p=>Go 3 Z (Cn Z p (λbn p=>?_) (λbn p=>?_)))))
  .refine Gc 8 Z (QD p ?_);obtain rfl:=Oj ag p;exact Gx 1 Z (Qs (Gx 1 Z (Rt h 2 [])))
  exact Gc 8 Z (Qj p (Lr [0]))
 subst u;refine Gx 1 Z (Ef d (Gc 6 Z (Bd h λdi dj h=>?_)));refine CtE (b:=di) [0] [1] Ze Ze Zf ?_ (λec env H u d=>?_)
 .refine G0 1 Z ?_;refine Lp [0] [1] (λaq=>[(9,I aq)]) Ze dj Zf (Lr [0]) λaq fo g ah=>?_;refine G0 6 Z (Lm Z (Go 3 Z (YH Z g (λbo g=>?_) (λbo g=>?_))))
  .refine Gc 2 Z (Ql g ?_);obtain rfl:=Oj ah g;exact Gx 1 Z (Qo Z (Lr [0]))
  refine Gc 9 Z (Bd g λfp bp g=>Iz bp Z (Go 6 Z (Bd g λT y g=>?_)));refine Ct T [0,1] [1,9,10] (λT=>[(11,.bool T)]) Ze Zf ?_ (λenv H d=>?_)
  .refine G0 3 Z (Cz [] y (k_b _ _ _ _) Z λfq ed y=>Go 1 Z (Is 147 y Z (λbq y=>?_) (λbq y=>?_)))
   .refine Go 5 Z (Is 152 y Z (λbr y=>?_) (λbr y=>?_))
    .exact Go 6 Z (Cl y [0,1])
    .exact Go 6 Z (Cl y [0,1])
   .exact Go 11 Z (Cl y [0,1])
  refine Gx 1 Z (Ef d (Gc 1 Z (Bd g λV z g=>?_)));refine Ct V [0,1] [1,9,10,11] (λV=>[(12,.bool V)]) Ze Zf ?_ (λenv H d=>?_)
  .refine G0 5 Z (Is 160 z Z (λbs z=>?_) (λbs z=>?_))
   .refine Go 2 Z (Cz [] z (k_b _ _ _ _) Z λfr ee z=>Go 2 Z (Is 165 z Z (λbt z=>?_) (λbt z=>?_)))
    .exact Go 6 Z (Cl z [0,1])
    .exact Go 6 Z (Cl z [0,1])
   .exact Go 11 Z (Cl z [0,1])
  refine Gx 1 Z (Ef d (Gc 1 Z (Bd g λW E g=>?_)));refine Ct W [0] [1,9,11,12] (λW=>[(13,.bool W)]) Ze Zf ?_ (λenv H d=>?_)
  .refine G0 5 Z (Is 173 E Z (λbu E=>?_) (λbu E=>?_))
   .refine Go 5 Z (Is 178 E Z (λbv E=>?_) (λbv E=>?_))
    .exact Go 5 Z (Cl E [0])
    .exact Go 5 Z (Cl E [0])
   .exact Go 10 Z (Cl E [0])
  refine Gx 1 Z (Ef d (Gc 1 Z (Bd g λX F g=>?_)));refine Ct X [0] [1,9] (λX=>[(191,.bool X)]) Ze Zf ?_ (λenv H d=>?_)
  .refine G0 4 Z (Is 184 F Z (λbw F=>?_) (λbw F=>?_))
   .refine Go 4 Z (Is 188 F Z (λbx F=>?_) (λbx F=>?_))
    .exact Go 4 Z (Cl F [0])
    .exact Go 4 Z (Cl F [0])
   .exact Go 8 Z (Cl F [0])
  refine Gx 1 Z (Ef d (Cn Z g (λbz g=>?_) (λbz g=>?_)))
  .refine Gc 8 Z (QD g ?_);obtain rfl:=Oj ah g;exact Gx 1 Z (Qs (Gx 1 Z (Rt h 2 [])))
  exact Gc 8 Z (Qj g (Lr [0]))
 subst u;refine Gx 1 Z (Ef d (Gc 6 Z (Bd h λdk dm h=>?_)));refine CtE (b:=dk) [0] [1] Ze Ze Zf ?_ (λef env H u d=>?_)
 .refine G0 1 Z ?_;refine Lp [0] [1] (λar=>[(14,I ar)]) Ze dm Zf (Lr [0]) λar fs q ai=>?_;refine G0 6 Z (Lm Z (Go 3 Z (YH Z q (λca q=>?_) (λca q=>?_))))
  .refine Gc 2 Z (Ql q ?_);obtain rfl:=Oj ai q;exact Gx 1 Z (Qo Z (Lr [0]))
  refine Gc 9 Z (Bd q λft cb q=>Iz cb Z (Go 6 Z (Bd q λY G q=>?_)));refine Ct Y [0] [1,14] (λY=>[(218,.bool Y)]) Ze Zf ?_ (λenv H d=>?_)
  .refine G0 5 Z (Is 207 G Z (λcc G=>?_) (λcc G=>?_))
   .exact Go 12 Z (Cl G [0])
   .refine Go 7 Z (Is 214 G Z (λcd G=>?_) (λcd G=>?_))
    .exact Go 5 Z (Cl G [0])
    .exact Go 5 Z (Cl G [0])
  refine Gx 1 Z (Ef d (Cn Z q (λce q=>?_) (λce q=>?_)))
  .refine Gc 8 Z (QD q ?_);obtain rfl:=Oj ai q;exact Gx 1 Z (Qs (Gx 1 Z (Rt h 2 [])))
  exact Gc 8 Z (Qj q (Lr [0]))
 subst u;refine Gx 1 Z (Ef d (Gc 6 Z (Bd h λdn dp h=>?_)));refine CtE (b:=dn) [0] [1] Ze Ze Zf ?_ (λeg env H u d=>?_)
 .refine G0 1 Z ?_;refine Lp [0] [1] (λau=>[(16,I au)]) Ze dp Zf (Lr [0]) λau fu k P=>?_;refine G0 6 Z (Lm Z (Go 3 Z (YH Z k (λcf k=>?_) (λcf k=>?_))))
  .refine Gc 2 Z (Ql k ?_);obtain rfl:=Oj P k;exact Gx 1 Z (Qo Z (Lr [0]))
  refine Gc 9 Z (Bd k λfv cg k=>Iz cg Z (Go 7 Z (Bd k λaa i k=>?_)));refine Ct aa [0,1] [1,16,17] (λaa=>[(260,.bool aa)]) Ze Zf ?_ (λenv H d=>?_)
  .refine G0 5 Z (Lm Z (Go 1 Z (Cz [] i (k_b _ _ _ _) Z λfw eh i=>Go 2 Z (Is 239 i Z (λch i=>?_) (λch i=>?_)))))
   .exact Go 22 Z (Cl i [0,1])
   .refine Go 4 Z (Lm Z (Go 1 Z (Cz [] i (k_b _ _ _ _) Z λfx ei i=>Go 3 Z (Is 249 i Z (λci i=>?_) (λci i=>?_)))))
    .exact Go 12 Z (Cl i [0,1])
    .refine Go 2 Z (Cz [] i (k_b _ _ _ _) Z λfy ej i=>Go 3 Z (Is 255 i Z (λcj i=>?_) (λcj i=>?_)))
     .exact Go 6 Z (Cl i [0,1])
     .exact Go 2 Z (Cz [] i (k_b _ _ _ _) Z λga ek i=>Go 3 Z (Cl i [0,1]))
  refine Gx 1 Z (Ef d (Cn Z k (λck k=>?_) (λck k=>?_)))
  .refine Gc 9 Z (QD k ?_);obtain rfl:=Oj P k;exact Gx 1 Z (Qs (Gx 1 Z (Rt h 2 [])))
  refine Gc 7 Z (Bd k λdq dr k=>?_);refine CtE (b:=dq) [0] [1,16] Ze Ze Zf ?_ (λel env H u d=>?_)
  .refine G0 1 Z ?_;refine Lp [0,1] [1,16,17] (λav=>[(18,I av)]) Ze dr Zf (Lr [0,1]) λav gb s aj=>?_;refine G0 8 Z (YH Z s (λcl s=>?_) (λcl s=>?_))
   .refine Gc 2 Z (Ql s ?_);obtain rfl:=Oj aj s;exact Gx 1 Z (Qo Z (Lr [0]))
   refine Gc 9 Z (Bd s λgc cm s=>Iz cm Z (Go 6 Z (Bd s λab J s=>?_)));refine Ct ab [0,1] [1,16,17,18] (λab=>[(289,.bool ab)]) Ze Zf ?_ (λenv H d=>?_)
   .refine G0 7 Z (Is 276 J Z (λcn J=>?_) (λcn J=>?_))
    .refine Go 7 Z (Is 283 J Z (λco J=>?_) (λco J=>?_))
     .exact Go 7 Z (Cl J [0,1])
     .exact Go 7 Z (Cl J [0,1])
    .exact Go 14 Z (Cl J [0,1])
   refine Gx 1 Z (Ef d (Cn Z s (λcp s=>?_) (λcp s=>?_)))
   .refine Gc 8 Z (QD s ?_);obtain rfl:=Oj aj s;refine Gx 1 Z (Qs (Gx 2 Z (QD k ?_)));obtain rfl:=Oj P k;exact Gx 1 Z (Qs (Gx 1 Z (Rt h 2 [])))
   exact Gc 8 Z (Qj s (Lr [0,1]))
  subst u;exact Gx 2 Z (Ef d (Gc 5 Z (Qj k (Lr [0]))))
 subst u;refine Gx 1 Z (Ef d (Gc 9 Z (Bd h λac a h=>?_)));refine Ct ac [] [] (λac=>[(2,.bool ac)]) Ze Zf ?_ (λenv H d=>?_)
 .refine G0 3 Z (Cz [] a (k_b _ _ _ _) Z λgd em a=>Go 1 Z (Is 295 a Z (λcq a=>?_) (λcq a=>?_)))
  .refine Go 2 Z (Cz [] a (k_b _ _ _ _) Z λge en a=>Go 2 Z (Is 300 a Z (λcr a=>?_) (λcr a=>?_)))
   .refine Go 2 Z (Cz [] a (k_b _ _ _ _) Z λgf eo a=>Go 2 Z (Is 305 a Z (λcs a=>?_) (λcs a=>?_)))
    .refine Go 2 Z (Cz [] a (k_b _ _ _ _) Z λgg ep a=>Go 2 Z (Is 310 a Z (λct a=>?_) (λct a=>?_)))
     .refine Go 2 Z (Cz [] a (k_b _ _ _ _) Z λgh es a=>Go 2 Z (Is 315 a Z (λcu a=>?_) (λcu a=>?_)))
      .refine Go 2 Z (Cz [] a (k_b _ _ _ _) Z λgi et a=>Go 2 Z (Is 320 a Z (λcv a=>?_) (λcv a=>?_)))
       .exact Go 2 Z (Cz [] a (k_b _ _ _ _) Z λgj eu a=>Go 3 Z (Cl a []))
       .exact Go 6 Z (Cl a [])
      .exact Go 11 Z (Cl a [])
     .exact Go 16 Z (Cl a [])
    .exact Go 21 Z (Cl a [])
   .exact Go 26 Z (Cl a [])
  .exact Go 31 Z (Cl a [])
 exact Gx 1 Z (Ef d (Gc 1 Z (Rt h 2 [])))
def F_aw(n:Nat)(a:Cond):Option Bool:=
  ((bif (a.Kind==0)then(bif (a.Var==0)then(bif (a.N==0)then some ((a.Parts.length:Int)==0)else some false)else some false)else some false):Option Bool).bind λb=>some b
theorem k_aw(n:Nat)(d:Cond)(r:Bool)(h:F_aw n d=some r):
    Csm prog 182 [.agg (Cond.c d)] [] (λr=>.bool r) r:=by
 refine Qb func182 Z Z Z ?_;refine G0 7 Z (Bd h λb a h=>?_);refine Ct b [] [] (λb=>[(2,.bool b)]) Ze Zf ?_ (λenv H e=>?_)
 .refine G0 5 Z (Is 6 a Z (λf a=>?_) (λf a=>?_))
  .refine Go 5 Z (Is 11 a Z (λg a=>?_) (λg a=>?_))
   .refine Go 5 Z (Is 16 a Z (λi a=>?_) (λi a=>?_))
    .exact Go 2 Z (Lm Z (Go 4 Z (Cl a [])))
    .exact Go 7 Z (Cl a [])
   .exact Go 12 Z (Cl a [])
  .exact Go 17 Z (Cl a [])
 exact Gx 1 Z (Ef e (Gc 1 Z (Rt h 2 [])))
def F_ej(n:Nat)(b:Cond)(f:Int)(rec221:Cond->Int->Option Int)(a:Int×Int):Option (Ctl (Int×Int) Int):=
  ((bif decide (a.2<(b.Parts.length:Int))then some (decide (a.1<=256))else some false):Option Bool).bind λc=>(bif c then(idx b.Parts a.2).bind λd=>(rec221 d (IntKind.i64.wrap (f+1))).bind λe=>some (.cont (IntKind.i64.wrap (a.1+e),IntKind.i64.wrap (a.2+1)))else some (.done a.1))
def B_l(rec221:Cond->Int->Option Int)(n:Nat)(c:Cond)(a:Int):Option Int:=
  (bif decide (16<a)then some 1000 else(iter (F_ej n c a rec221) n (1,0):Option Int).bind λb=>some b)
theorem Qap(rec221:Cond->Int->Option Int)(d:∀(e:Cond) (f:Int) (r:Int),rec221 e f=some r->Csm prog 183 [.agg (Cond.c e),I f] [] (λr=>I r) r)(n:Nat)(e:Cond)(f:Int)(r:Int)(h:B_l rec221 n e f=some r):
    Csm prog 183 [.agg (Cond.c e),I f] [] (λr=>I r) r:=by
 refine Qb func183 Z Z Z ?_;refine G0 13 Z (Cn Z h (λs h=>?_) (λs h=>?_))
 .exact Gc 7 Z (Rt h 4 [])
 refine Gc 13 Z (Bd h λg t h=>?_);refine Ct g [] [] (λg=>[(5,I g)]) Ze Zf ?_ (λenv H i=>?_)
 .refine G0 1 Z ?_;refine Lp [0] [1,2] (λj=>[(5,I j.1),(6,I j.2)]) Ze t Zf (Lr [0]) λj x a l=>?_;refine G0 2 Z (Bd a λk b a=>?_);refine Ct k [0] [1,2,5,6] (λk=>[(17,.bool k)]) Ze Zf ?_ (λenv H i=>?_)
  .refine G0 4 Z (Lm Z (Go 2 Z (Is 14 b Z (λm b=>?_) (λm b=>?_))))
   .exact Go 4 Z (Cl b [0])
   .exact Go 4 Z (Cl b [0])
  refine Gx 1 Z (Ef i (YH Z a (λp a=>?_) (λp a=>?_)))
  .refine Gc 2 Z (Ql a ?_);obtain rfl:=Oj l a;exact Gx 1 Z (QC (Lr []))
  exact Gc 9 Z (Bd a λu q a=>IzE q (Jd u) Z (Go 3 Z (Cz [] a (d _ _) Z λy w a=>Go 10 Z (Qj a (Lr [0])))))
 exact Gx 1 Z (Ef i (Gc 7 Z (Rt h 4 [])))
def F_l:Nat->Cond->Int->Option Int
  |0=>λ_ _=>none
  |n+1=>B_l (F_l n) n
theorem k_l(n:Nat):∀(a:Cond) (b:Int) (r:Int),F_l n a b=some r->Csm prog 183 [.agg (Cond.c a),I b] [] (λr=>I r) r:=by
  induction n with
  |zero=>intro a b r h;cases h
  |succ n ih=>intro a b r h;exact Qap _ ih n a b r h
def F_et(n:Nat)(b:List Step)(e:Int)(rec219:(List Step)->Int->Option (Int×Int))(a:Int×Int×Int):Option (Ctl (Int×Int×Int) (Int×Int)):=
  ((bif decide (a.2.2<(b.length:Int))then(bif decide (a.1<=64)then some (decide (a.2.1<=256))else some false)else some false):Option Bool).bind λf=>(bif f then(idx b a.2.2).bind λg=>(rec219 g.Then (IntKind.i64.wrap (e+1))).bind λc=>(idx b a.2.2).bind λh=>(rec219 h.Else (IntKind.i64.wrap (e+1))).bind λd=>(idx b a.2.2).bind λi=>(F_aw n i.Cond).bind λj=>((bif (!j)then(idx b a.2.2).bind λk=>(F_l n k.Cond 0).bind λl=>some (IntKind.i64.wrap ((IntKind.i64.wrap ((IntKind.i64.wrap (a.2.1+c.2))+d.2))+l))else some (IntKind.i64.wrap ((IntKind.i64.wrap (a.2.1+c.2))+d.2))):Option Int).bind λm=>some (.cont (IntKind.i64.wrap ((IntKind.i64.wrap ((IntKind.i64.wrap (a.1+1))+c.1))+d.1),m,IntKind.i64.wrap (a.2.2+1)))else some (.done (a.1,a.2.1)))
def B_v(rec219:(List Step)->Int->Option (Int×Int))(n:Nat)(b:List Step)(c:Int):Option (Int×Int):=
  ((bif decide (0<(b.length:Int))then some (decide (16<c))else some false):Option Bool).bind λb2=>(bif b2 then some (1000,1000)else(iter (F_et n b c rec219) n (0,0,0):Option (Int×Int)).bind λa=>some (a.1,a.2))
theorem Qbf(rec219:(List Step)->Int->Option (Int×Int))(e:∀(i:List Step) (j:Int) (r:Int×Int),rec219 i j=some r->Csm prog 106 [.rsl 8 (List.map Step.enc i),I j] [] (λr=>.tup [I r.1,I r.2]) r)(n:Nat)(i:List Step)(j:Int)(r:Int×Int)(h:B_v rec219 n i j=some r):
    Csm prog 106 [.rsl 8 (List.map Step.enc i),I j] [] (λr=>.tup [I r.1,I r.2]) r:=by
 refine Qb func106 Z Z Z ?_;refine G0 8 Z (Bd h λb2 k h=>?_);refine Ct b2 [] [0,1] (λb2=>[(19,.bool b2)]) Ze Zf ?_ (λenv H d=>?_)
 .refine G0 2 Z (Lm Z (Go 2 Z (Is 16 k Z (λB k=>?_) (λB k=>?_))))
  .exact Go 4 Z (Cl k [])
  .exact Go 4 Z (Cl k [])
 refine Gx 1 Z (Ef d (Cn Z h (λE h=>?_) (λE h=>?_)))
 .refine Gc 8 Z ?_;obtain rfl:=Oi h;exact R2 4 5 Z Z (Lr [])
 refine Gc 18 Z (Bd h λf F h=>?_);refine Ct f [] [] (λf=>[(6,I f.1),(7,I f.2)]) Ze Zf ?_ (λenv H d=>?_)
 .refine G0 1 Z ?_;refine Lp [] [0,1] (λg=>[(6,I g.1),(7,I g.2.1),(8,I g.2.2)]) Ze F Zf (Lr []) λg R a p=>?_;refine G0 2 Z (Bd a λl b a=>?_);refine Ct l [] [0,1,6,7,8] (λl=>[(31,.bool l)]) Ze Zf ?_ (λenv H d=>?_)
  .refine G0 3 Z (Lm Z (Go 2 Z (Is 24 b Z (λq b=>?_) (λq b=>?_))))
   .refine Go 4 Z (Is 28 b Z (λs b=>?_) (λs b=>?_))
    .exact Go 4 Z (Cl b [])
    .exact Go 4 Z (Cl b [])
   .exact Go 8 Z (Cl b [])
  refine Gx 1 Z (Ef d (YH Z a (λt a=>?_) (λt a=>?_)))
  .refine Gc 2 Z (Ql a ?_);obtain rfl:=Oj p a;exact Gx 1 Z (QC (Lr []))
  refine Gc 8 Z (Bd a λG u a=>IzE u (Yg G) Z (Go 4 Z (Cd [] a (e _ _) Z λT N a=>FE Z (Go 11 Z (Bd a λJ w a=>IzE w (Yg J) Z (Go 4 Z (Cd [] a (e _ _) Z λV O a=>FE Z (Go 32 Z (Bd a λL x a=>IzE x (Yg L) Z (Go 2 Z (Cz [] a (k_aw _ _) Z λW P a=>Go 3 Z (Bd a λm c a=>?_))))))))))));refine Ct m [] [0,1,6,8] (λm=>[(7,I m)]) Ze Zf ?_ (λenv H d=>?_)
  .refine G0 0 Z (Cn Z c (λy c=>?_) (λy c=>?_))
   .exact Gc 4 Z (Bd c λM z c=>IzE z (Yg M) Z (Go 2 Z (Cz [] c (k_l _ _ _) Z λX Q c=>Go 3 Z (Cl c []))))
   exact Gc 1 Z (Cl c [])
  exact Gx 2 Z (Ef d (Gc 5 Z (Qj a (Lr []))))
 refine Gx 1 Z (Ef d (Gc 9 Z ?_));obtain rfl:=Oi h;exact R2 4 5 Z Z (Lr [])
def F_v:Nat->(List Step)->Int->Option (Int×Int)
  |0=>λ_ _=>none
  |n+1=>B_v (F_v n) n
theorem k_v(n:Nat):∀(a:List Step) (b:Int) (r:Int×Int),F_v n a b=some r->Csm prog 106 [.rsl 8 (List.map Step.enc a),I b] [] (λr=>.tup [I r.1,I r.2]) r:=by
  induction n with
  |zero=>intro a b r h;cases h
  |succ n ih=>intro a b r h;exact Qbf _ ih n a b r h
end Go.Sw
