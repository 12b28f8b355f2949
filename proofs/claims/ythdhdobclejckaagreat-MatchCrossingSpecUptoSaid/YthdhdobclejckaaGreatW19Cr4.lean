/- What the functions compute that MatchCrossingSpec reaches, and that their calls refine it (part 4 of 5). -/
import Derived.Test.YthdhdobclejckaaGreatW19Cr3
set_option linter.unusedVariables false
set_option linter.unusedSimpArgs false
set_option maxRecDepth 100000
set_option maxHeartbeats 4000000
namespace Go.Sw
open List(map)
open Int(toNat)
open Go.IntKind(i64 u64 u8)
open Go.Proofs Tryz
def F_ja(n:Nat)(i:Course)(e:Distance)(a:Int):Option (Ctl Int (Ctl Unit Bool)):=(bif decide (a<(e.Cutoffs.length:Int))then(idx e.Cutoffs a).bind λd=>((F_h n i d.Mat).bind λf=>(bif (!f)then some true else(bif decide (d.Lap<1)then some true else(F_b n d.Limit 0 1099511627776).bind λg=>some (!g))):Option Bool).bind λh=>(bif h then some (.done (.done false))else some (.cont (i64.wrap (a+1))))else some (.done (.cont ())))
def F_ga(n:Nat)(e:Course)(a:Distance):Option Bool:=(iter (F_ja n e a) n 0:Option (Ctl Unit Bool)).bind λf=>match f with|.cont d=>(((F_b n a.Timing 1 3).bind λg=>(bif g then(F_u n e a.Route).bind λh=>(bif h then(bif (a.Extra==(-1))then some true else(F_h n e a.Extra).bind λi=>some i)else some false)else some false):Option Bool).bind λj=>some j)|.done d=>some d
theorem k_ga(n:Nat)(x:Course)(y:Distance):Ks (F_ga n x y) 145 [.agg (Course.c x),.agg (Distance.c y)] [] (λr=>.bool r):=by
 refine Kg 13 func145 Z Z Z Z λr h=>Bd h λz B h=>CtE (b:=z) [0,1] [2,3] Ze Ze Zf ?_ (λF env H E f=>?_)
 .refine G0 1 Z (Lp [0,1] [2,3] (λk=>[(5,I k)]) Ze B Zf (Lr [0,1]) λk O d g=>?_);refine G0 6 Z (Lg 3 Z Z (QV Z d (λl d=>?_) (λl d=>?_)))
  .exact Gc 2 Z (Qk d (Gx 1 Z (YC g d Z (Lr [0,1]))))
  refine Gc 9 Z (Bd d λP m d=>Iz m Z (Go 6 Z (Bd d λi e d=>Ct i [0,1] [2,3,5] (λi=>[(34,.bool i)]) Ze Zf ?_ (λenv H f=>?_))))
  .refine G0 4 Z (Cz [] e (k_h _ _ _) Z λQ G e=>Go 2 Z (Is 24 e Z (λp e=>?_) (λp e=>?_)))
   .exact Gl 11 Z e [0,1]
   .refine Go 5 Z (Is 29 e Z (λq e=>?_) (λq e=>?_))
    .exact Gl 6 Z e [0,1]
    .exact Go 2 Z (Cz [] e (k_b _ _ _ _) Z λR J e=>Gl 3 Z e [0,1])
  refine Gx 1 Z (Ef f (Cn Z d (λs d=>?_) (λs d=>?_)))
  .refine Gc 8 Z (Qp d ?_);obtain rfl:=Oj g d;exact Gx 1 Z (Ql (Gx 1 Z (Rt h 4 [])))
  exact Gc 8 Z (Qi d (Lr [0,1]))
 subst E;refine Gx 1 Z (Ef f (Gc 1 Z (Bd h λj a h=>Cg j [] [] (λj=>[(4,.bool j)]) Ze Zf ?_ ?_)))
 .refine G0 3 Z (Cz [] a (k_b _ _ _ _) Z λT L a=>Go 1 Z (Is 38 a Z (λt a=>?_) (λt a=>?_)))
  .refine Go 3 Z (Cz [] a (k_u _ _ _) Z λV M a=>Go 2 Z (Is 44 a Z (λu a=>?_) (λu a=>?_)))
   .refine Go 4 Z (Is 48 a Z (λw a=>?_) (λw a=>?_))
    .exact Gl 8 Z a []
    .exact Go 3 Z (Cz [] a (k_h _ _ _) Z λW N a=>Gl 4 Z a [])
   .exact Gl 12 Z a []
  .exact Gl 18 Z a []
 exact QC 1 Z h 4 []
def F_jw(n:Nat)(d:Course)(a:Int):Option (Ctl Int (Ctl Unit Bool)):=(bif decide (a<(d.Mats.length:Int))then(idx d.Mats a).bind λe=>(F_b n e.Kind 1 3).bind λf=>(bif (!f)then some (.done (.done false))else some (.cont (i64.wrap (a+1))))else some (.done (.cont ())))
def F_gg(n:Nat)(i:Course)(e:Int)(d:Leg)(a:Int):Option (Ctl Int (Ctl Unit (Ctl Int (Ctl Unit Bool)))):=(bif decide (a<e)then((idx i.Legs a).bind λf=>(bif (f.From==d.From)then(idx i.Legs a).bind λg=>some (g.To==d.To)else some false):Option Bool).bind λh=>(bif h then some (.done (.done (.done (.done false))))else some (.cont (i64.wrap (a+1))))else some (.done (.cont ())))
def F_dt(n:Nat)(f:Course)(d:Int):Option (Ctl Int (Ctl Unit Bool)):=(bif decide (d<(f.Legs.length:Int))then(idx f.Legs d).bind λa=>((F_h n f a.From).bind λg=>(bif (!g)then some true else(F_h n f a.To).bind λh=>(bif (!h)then some true else(bif decide (a.Min<0)then some true else(bif decide (a.Max<a.Min)then some true else some (decide (68719476736<a.Max)))))):Option Bool).bind λi=>(bif i then some (.done (.done false))else(iter (F_gg n f d a) n 0:Option (Ctl Unit (Ctl Int (Ctl Unit Bool)))).bind λj=>match j with|.cont e=>(some (.cont (i64.wrap (d+1))))|.done e=>some e)else some (.done (.cont ())))
def F_iz(n:Nat)(d:Course)(a:Int):Option (Ctl Int (Ctl Unit Bool)):=(bif decide (a<(d.Distances.length:Int))then(idx d.Distances a).bind λe=>(F_ga n d e).bind λf=>(bif (!f)then some (.done (.done false))else some (.cont (i64.wrap (a+1))))else some (.done (.cont ())))
def F_ji(n:Nat)(f:Course)(a:Int):Option (Ctl Int (Ctl Unit Bool)):=(bif decide (a<(f.Waves.length:Int))then(idx f.Waves a).bind λd=>(F_b n d.Gun 0 1099511627776).bind λe=>(bif (!e)then some (.done (.done false))else some (.cont (i64.wrap (a+1))))else some (.done (.cont ())))
def F_ju(n:Nat)(k:Course)(d:Int):Option (Ctl Int (Ctl Unit Bool)):=(bif decide (d<(k.Offences.length:Int))then(idx k.Offences d).bind λa=>((F_b n a.Time 0 68719476736).bind λe=>(bif e then(bif (a.Laps==0)then some (!a.Out)else some false)else some false):Option Bool).bind λf=>((bif (a.Time==0)then(F_b n a.Laps 1 64).bind λg=>(bif g then some (!a.Out)else some false)else some false):Option Bool).bind λh=>((bif (a.Time==0)then(bif (a.Laps==0)then some a.Out else some false)else some false):Option Bool).bind λi=>((bif (!f)then(bif (!h)then some (!i)else some false)else some false):Option Bool).bind λj=>(bif j then some (.done (.done false))else some (.cont (i64.wrap (d+1))))else some (.done (.cont ())))
def F_kk(n:Nat)(f:Course)(d:Int):Option (Ctl Int (Ctl Unit Bool)):=(bif decide (d<(f.Categories.length:Int))then(idx f.Categories d).bind λa=>((bif decide (a.From<0)then some true else(bif decide (a.To<a.From)then some true else some (decide (120<a.To)))):Option Bool).bind λe=>(bif e then some (.done (.done false))else some (.cont (i64.wrap (d+1))))else some (.done (.cont ())))
def F_ho(n:Nat)(h:Course)(f:Int)(a:Prize)(d:Int):Option (Ctl Int (Ctl Unit (Ctl Int (Ctl Unit Bool)))):=(bif decide (d<f)then(idx h.Prizes d).bind λe=>((bif (e.Distance==a.Distance)then(bif (e.Category==a.Category)then some (e.Rank==a.Rank)else some false)else some false):Option Bool).bind λg=>(bif g then some (.done (.done (.done (.done false))))else some (.cont (i64.wrap (d+1))))else some (.done (.cont ())))
def F_da(n:Nat)(f:Course)(d:Int):Option (Ctl Int (Ctl Unit Bool)):=(bif decide (d<(f.Prizes.length:Int))then(idx f.Prizes d).bind λa=>((F_b n a.Distance 0 (i64.wrap ((f.Distances.length:Int)-1))).bind λg=>(bif (!g)then some true else(F_b n a.Category (-1) (i64.wrap ((f.Categories.length:Int)-1))).bind λh=>(bif (!h)then some true else(F_b n a.Rank 1 4000).bind λi=>(bif (!i)then some true else(F_b n a.Amount 1 1125899906842624).bind λj=>some (!j)))):Option Bool).bind λk=>(bif k then some (.done (.done false))else(iter (F_ho n f d a) n 0:Option (Ctl Unit (Ctl Int (Ctl Unit Bool)))).bind λl=>match l with|.cont e=>(some (.cont (i64.wrap (d+1))))|.done e=>some e)else some (.done (.cont ())))
def F_eh(n:Nat)(a:Course):Option Bool:=(iter (F_jw n a) n 0:Option (Ctl Unit Bool)).bind λB=>match B with|.cont i=>((iter (F_dt n a) n 0:Option (Ctl Unit Bool)).bind λE=>match E with|.cont j=>((iter (F_iz n a) n 0:Option (Ctl Unit Bool)).bind λk=>match k with|.cont d=>((iter (F_ji n a) n 0:Option (Ctl Unit Bool)).bind λl=>match l with|.cont e=>((iter (F_ju n a) n 0:Option (Ctl Unit Bool)).bind λm=>match m with|.cont f=>((iter (F_kk n a) n 0:Option (Ctl Unit Bool)).bind λp=>match p with|.cont g=>((iter (F_da n a) n 0:Option (Ctl Unit Bool)).bind λq=>match q with|.cont h=>(((F_b n a.Faults.Misses 0 16).bind λr=>(bif r then(F_b n a.Faults.Strays 0 16).bind λs=>(bif s then(F_b n a.Faults.Window 0 4294967296).bind λt=>(bif t then(F_b n a.Faults.Residual 0 4294967296).bind λu=>(bif u then(F_b n a.Faults.Drift 0 100000).bind λw=>(bif w then(F_b n a.Fee 0 1125899906842624).bind λx=>(bif x then(F_b n a.Deadline 0 1099511627776).bind λy=>some y else some false)else some false)else some false)else some false)else some false)else some false):Option Bool).bind λz=>some z)|.done h=>some h)|.done g=>some g)|.done f=>some f)|.done e=>some e)|.done d=>some d)|.done j=>some j)|.done i=>some i
theorem k_eh(n:Nat)(a1:Course):Ks (F_eh n a1) 95 [.agg (Course.c a1)] [] (λr=>.bool r):=by
 refine Kg 12 func95 Z Z Z Z λr h=>Bd h λdr ds h=>CtE (b:=dr) [0] [1] Ze Ze Zf ?_ (λeu env H u d=>?_)
 .refine G0 1 Z (Lp [0] [1] (λcx=>[(3,I cx)]) Ze ds Zf (Lr [0]) λcx gj w aj=>?_);refine G0 6 Z (Lg 3 Z Z (QV Z w (λcy w=>?_) (λcy w=>?_)))
  .exact Gc 2 Z (Qk w (Gx 1 Z (YC aj w Z (Lr [0]))))
  refine Gc 9 Z (Bd w λgk cz w=>Iz cz Z (Go 2 Z (Cz [] w (k_b _ _ _ _) Z λgl ew w=>Go 3 Z (Cn Z w (λda w=>?_) (λda w=>?_)))))
  .refine Gc 8 Z (Qp w ?_);obtain rfl:=Oj aj w;exact Gx 1 Z (Ql (Gx 1 Z (Rt h 2 [])))
  exact Gc 8 Z (Qi w (Lr [0]))
 subst u;refine Gx 1 Z (Ef d (Gc 6 Z (Bd h λdt db h=>CtE (b:=dt) [0] [1] Ze Ze Zf ?_ (λey env H u d=>?_))))
 .refine G0 1 Z (Lp [0] [1] (λak=>[(4,I ak)]) Ze db Zf (Lr [0]) λak ez j N=>?_);refine G0 6 Z (Lg 3 Z Z (QV Z j (λav j=>?_) (λav j=>?_)))
  .exact Gc 2 Z (Qk j (Gx 1 Z (YC N j Z (Lr [0]))))
  refine Gc 9 Z (Bd j λfa aw j=>Iz aw Z (Go 7 Z (Bd j λQ f j=>Ct Q [0,1] [1,4,5] (λQ=>[(76,.bool Q)]) Ze Zf ?_ (λenv H d=>?_))))
  .refine G0 4 Z (Cz [] f (k_h _ _ _) Z λfc du f=>Go 2 Z (Is 53 f Z (λax f=>?_) (λax f=>?_)))
   .exact Gl 24 Z f [0,1]
   .refine Go 3 Z (Cz [] f (k_h _ _ _) Z λfd dv f=>Go 3 Z (Is 60 f Z (λay f=>?_) (λay f=>?_)))
    .exact Gl 17 Z f [0,1]
    .refine Go 5 Z (Is 65 f Z (λaz f=>?_) (λaz f=>?_))
     .exact Gl 12 Z f [0,1]
     .refine Go 7 Z (Is 72 f Z (λba f=>?_) (λba f=>?_))
      iterate 2 exact Gl 5 Z f [0,1]
  refine Gx 1 Z (Ef d (Cn Z j (λbb j=>?_) (λbb j=>?_)))
  .refine Gc 9 Z (Qp j ?_);obtain rfl:=Oj N j;exact Gx 1 Z (Ql (Gx 1 Z (Rt h 2 [])))
  refine Gc 7 Z (Bd j λdc dd j=>CtE (b:=dc) [0] [1,4] Ze Ze Zf ?_ (λdw env H u d=>?_))
  .refine G0 1 Z (Lp [0,1] [1,4,5] (λal=>[(6,I al)]) Ze dd Zf (Lr [0,1]) λal fe t ad=>?_);refine G0 8 Z (QV Z t (λbc t=>?_) (λbc t=>?_))
   .exact Gc 2 Z (Qk t (Gx 1 Z (YC ad t Z (Lr [0]))))
   refine Gc 5 Z (Bd t λR B t=>Ct R [0,1] [1,4,5,6] (λR=>[(101,.bool R)]) Ze Zf ?_ (λenv H d=>?_))
   .refine G0 0 Z (DSs 18 Z (D 3 Z ?_));obtain⟨O,bd,B⟩:=Yh B;refine DS.wo (x:=.rp [I O.From,I O.To,I O.Min,I O.Max]) ?_ ?_
    .exact Ix bd EV E3 Z Wp
    refine D 6 Z (DS.is 9 B Z Z Z (λbe B=>?_) (λbe B=>?_))
    .refine D 3 Z ?_;obtain⟨L,bg,B⟩:=Yh B;refine DS.v (x:=(.rp [I L.From,I L.To,I L.Min,I L.Max])) (Js (e:=Leg.c) (l:=a1.Legs) (v:=L) bg EV E3) ?_ (hg:=(gT Z));exact D 4 Z (Eh Z (Gl 3 Z B [0,1]))
    .exact D 8 Z (Eh Z (Gl 3 Z B [0,1]))
   refine Gx 1 Z (Ef d (Cn Z t (λbh t=>?_) (λbh t=>?_)))
   .refine Gc 8 Z (Qp t ?_);obtain rfl:=Oj ad t;refine Gx 1 Z (Ql (Gx 2 Z (Qp j ?_)));obtain rfl:=Oj N j;exact Gx 1 Z (Ql (Gx 1 Z (Rt h 2 [])))
   exact Gc 8 Z (Qi t (Lr [0,1]))
  subst u;exact Gx 2 Z (Ef d (Gc 5 Z (Qi j (Lr [0]))))
 subst u;refine Gx 1 Z (Ef d (Gc 6 Z (Bd h λde df h=>CtE (b:=de) [0] [1] Ze Ze Zf ?_ (λdx env H u d=>?_))))
 .refine G0 1 Z (Lp [0] [1] (λam=>[(7,I am)]) Ze df Zf (Lr [0]) λam fg m ae=>?_);refine G0 6 Z (Lg 3 Z Z (QV Z m (λbi m=>?_) (λbi m=>?_)))
  .exact Gc 2 Z (Qk m (Gx 1 Z (YC ae m Z (Lr [0]))))
  refine Gc 5 Z (DSs 6 Z (D 4 Z ?_));obtain⟨M,bj,m⟩:=Yh m;refine DS.wo (x:=.rp [.str M.Name,.rsl 3 (map Part.enc M.Route),I M.Timing,.rsl 3 (map Cutoff.c M.Cutoffs),I M.Extra]) ?_ ?_
  .exact Ix bj E0 E4 Z Wp
  refine D 1 Z (Eh Z (Cz [] m (k_ga _ _ _) Z λfh dy m=>Go 3 Z (Cn Z m (λbk m=>?_) (λbk m=>?_))))
  .refine Gc 8 Z (Qp m ?_);obtain rfl:=Oj ae m;exact Gx 1 Z (Ql (Gx 1 Z (Rt h 2 [])))
  exact Gc 8 Z (Qi m (Lr [0]))
 subst u;refine Gx 1 Z (Ef d (Gc 6 Z (Bd h λdg dh h=>CtE (b:=dg) [0] [1] Ze Ze Zf ?_ (λdz env H u d=>?_))))
 .refine G0 1 Z (Lp [0] [1] (λan=>[(8,I an)]) Ze dh Zf (Lr [0]) λan fi p af=>?_);refine G0 6 Z (Lg 3 Z Z (QV Z p (λbl p=>?_) (λbl p=>?_)))
  .exact Gc 2 Z (Qk p (Gx 1 Z (YC af p Z (Lr [0]))))
  refine Gc 9 Z (Bd p λfj bm p=>Iz bm Z (Go 2 Z (Cz [] p (k_b _ _ _ _) Z λfk ea p=>Go 3 Z (Cn Z p (λbn p=>?_) (λbn p=>?_)))))
  .refine Gc 8 Z (Qp p ?_);obtain rfl:=Oj af p;exact Gx 1 Z (Ql (Gx 1 Z (Rt h 2 [])))
  exact Gc 8 Z (Qi p (Lr [0]))
 subst u;refine Gx 1 Z (Ef d (Gc 6 Z (Bd h λdi dj h=>CtE (b:=di) [0] [1] Ze Ze Zf ?_ (λeb env H u d=>?_))))
 .refine G0 1 Z (Lp [0] [1] (λao=>[(9,I ao)]) Ze dj Zf (Lr [0]) λao fm g ag=>?_);refine G0 6 Z (Lg 3 Z Z (QV Z g (λbo g=>?_) (λbo g=>?_)))
  .exact Gc 2 Z (Qk g (Gx 1 Z (YC ag g Z (Lr [0]))))
  refine Gc 9 Z (Bd g λfo bp g=>Iz bp Z (Go 6 Z (Bd g λT y g=>Ct T [0,1] [1,9,10] (λT=>[(11,.bool T)]) Ze Zf ?_ (λenv H d=>?_))))
  .refine G0 3 Z (Cz [] y (k_b _ _ _ _) Z λfp ec y=>Go 1 Z (Is 147 y Z (λbq y=>?_) (λbq y=>?_)))
   .refine Go 5 Z (Is 152 y Z (λbr y=>?_) (λbr y=>?_))
    iterate 2 exact Gl 6 Z y [0,1]
   .exact Gl 11 Z y [0,1]
  refine Gx 1 Z (Ef d (Gc 1 Z (Bd g λV z g=>Ct V [0,1] [1,9,10,11] (λV=>[(12,.bool V)]) Ze Zf ?_ (λenv H d=>?_))))
  .refine G0 5 Z (Is 160 z Z (λbs z=>?_) (λbs z=>?_))
   .refine Go 2 Z (Cz [] z (k_b _ _ _ _) Z λfq ed z=>Go 2 Z (Is 165 z Z (λbu z=>?_) (λbu z=>?_)))
    iterate 2 exact Gl 6 Z z [0,1]
   .exact Gl 11 Z z [0,1]
  refine Gx 1 Z (Ef d (Gc 1 Z (Bd g λW E g=>Ct W [0] [1,9,11,12] (λW=>[(13,.bool W)]) Ze Zf ?_ (λenv H d=>?_))))
  .refine G0 5 Z (Is 173 E Z (λbv E=>?_) (λbv E=>?_))
   .refine Go 5 Z (Is 178 E Z (λbw E=>?_) (λbw E=>?_))
    iterate 2 exact Gl 5 Z E [0]
   .exact Gl 10 Z E [0]
  refine Gx 1 Z (Ef d (Gc 1 Z (Bd g λX F g=>Ct X [0] [1,9] (λX=>[(191,.bool X)]) Ze Zf ?_ (λenv H d=>?_))))
  .refine G0 4 Z (Is 184 F Z (λbx F=>?_) (λbx F=>?_))
   .refine Go 4 Z (Is 188 F Z (λbz F=>?_) (λbz F=>?_))
    iterate 2 exact Gl 4 Z F [0]
   .exact Gl 8 Z F [0]
  refine Gx 1 Z (Ef d (Cn Z g (λca g=>?_) (λca g=>?_)))
  .refine Gc 8 Z (Qp g ?_);obtain rfl:=Oj ag g;exact Gx 1 Z (Ql (Gx 1 Z (Rt h 2 [])))
  exact Gc 8 Z (Qi g (Lr [0]))
 subst u;refine Gx 1 Z (Ef d (Gc 6 Z (Bd h λdk dl h=>CtE (b:=dk) [0] [1] Ze Ze Zf ?_ (λee env H u d=>?_))))
 .refine G0 1 Z (Lp [0] [1] (λaq=>[(14,I aq)]) Ze dl Zf (Lr [0]) λaq fr q ah=>?_);refine G0 6 Z (Lg 3 Z Z (QV Z q (λcb q=>?_) (λcb q=>?_)))
  .exact Gc 2 Z (Qk q (Gx 1 Z (YC ah q Z (Lr [0]))))
  refine Gc 9 Z (Bd q λfs cc q=>Iz cc Z (Go 6 Z (Bd q λY G q=>Ct Y [0] [1,14] (λY=>[(218,.bool Y)]) Ze Zf ?_ (λenv H d=>?_))))
  .refine G0 5 Z (Is 207 G Z (λcd G=>?_) (λcd G=>?_))
   .exact Gl 12 Z G [0]
   .refine Go 7 Z (Is 214 G Z (λce G=>?_) (λce G=>?_))
    iterate 2 exact Gl 5 Z G [0]
  refine Gx 1 Z (Ef d (Cn Z q (λcf q=>?_) (λcf q=>?_)))
  .refine Gc 8 Z (Qp q ?_);obtain rfl:=Oj ah q;exact Gx 1 Z (Ql (Gx 1 Z (Rt h 2 [])))
  exact Gc 8 Z (Qi q (Lr [0]))
 subst u;refine Gx 1 Z (Ef d (Gc 6 Z (Bd h λdm dn h=>CtE (b:=dm) [0] [1] Ze Ze Zf ?_ (λef env H u d=>?_))))
 .refine G0 1 Z (Lp [0] [1] (λar=>[(16,I ar)]) Ze dn Zf (Lr [0]) λar ft k P=>?_);refine G0 6 Z (Lg 3 Z Z (QV Z k (λcg k=>?_) (λcg k=>?_)))
  .exact Gc 2 Z (Qk k (Gx 1 Z (YC P k Z (Lr [0]))))
  refine Gc 9 Z (Bd k λfu ch k=>Iz ch Z (Go 7 Z (Bd k λaa i k=>Ct aa [0,1] [1,16,17] (λaa=>[(260,.bool aa)]) Ze Zf ?_ (λenv H d=>?_))))
  .refine G0 5 Z (Lg 1 Z Z (Cz [] i (k_b _ _ _ _) Z λfv eg i=>Go 2 Z (Is 239 i Z (λci i=>?_) (λci i=>?_))))
   .exact Gl 22 Z i [0,1]
   .refine Go 4 Z (Lg 1 Z Z (Cz [] i (k_b _ _ _ _) Z λfw eh i=>Go 3 Z (Is 249 i Z (λcj i=>?_) (λcj i=>?_))))
    .exact Gl 12 Z i [0,1]
    .refine Go 2 Z (Cz [] i (k_b _ _ _ _) Z λfx ei i=>Go 3 Z (Is 255 i Z (λck i=>?_) (λck i=>?_)))
     .exact Gl 6 Z i [0,1]
     .exact Go 2 Z (Cz [] i (k_b _ _ _ _) Z λfy ej i=>Gl 3 Z i [0,1])
  refine Gx 1 Z (Ef d (Cn Z k (λcl k=>?_) (λcl k=>?_)))
  .refine Gc 9 Z (Qp k ?_);obtain rfl:=Oj P k;exact Gx 1 Z (Ql (Gx 1 Z (Rt h 2 [])))
  refine Gc 7 Z (Bd k λdp dq k=>CtE (b:=dp) [0] [1,16] Ze Ze Zf ?_ (λek env H u d=>?_))
  .refine G0 1 Z (Lp [0,1] [1,16,17] (λau=>[(18,I au)]) Ze dq Zf (Lr [0,1]) λau ga s ai=>?_);refine G0 8 Z (QV Z s (λcm s=>?_) (λcm s=>?_))
   .exact Gc 2 Z (Qk s (Gx 1 Z (YC ai s Z (Lr [0]))))
   refine Gc 9 Z (Bd s λgb cn s=>Iz cn Z (Go 6 Z (Bd s λab J s=>Ct ab [0,1] [1,16,17,18] (λab=>[(289,.bool ab)]) Ze Zf ?_ (λenv H d=>?_))))
   .refine G0 7 Z (Is 276 J Z (λco J=>?_) (λco J=>?_))
    .refine Go 7 Z (Is 283 J Z (λcp J=>?_) (λcp J=>?_))
     iterate 2 exact Gl 7 Z J [0,1]
    .exact Gl 14 Z J [0,1]
   refine Gx 1 Z (Ef d (Cn Z s (λcq s=>?_) (λcq s=>?_)))
   .refine Gc 8 Z (Qp s ?_);obtain rfl:=Oj ai s;refine Gx 1 Z (Ql (Gx 2 Z (Qp k ?_)));obtain rfl:=Oj P k;exact Gx 1 Z (Ql (Gx 1 Z (Rt h 2 [])))
   exact Gc 8 Z (Qi s (Lr [0,1]))
  subst u;exact Gx 2 Z (Ef d (Gc 5 Z (Qi k (Lr [0]))))
 subst u;refine Gx 1 Z (Ef d (Gc 9 Z (Bd h λac a h=>Cg ac [] [] (λac=>[(2,.bool ac)]) Ze Zf ?_ ?_)))
 .refine G0 3 Z (Cz [] a (k_b _ _ _ _) Z λgc el a=>Go 1 Z (Is 295 a Z (λcr a=>?_) (λcr a=>?_)))
  .refine Go 2 Z (Cz [] a (k_b _ _ _ _) Z λgd em a=>Go 2 Z (Is 300 a Z (λcs a=>?_) (λcs a=>?_)))
   .refine Go 2 Z (Cz [] a (k_b _ _ _ _) Z λge en a=>Go 2 Z (Is 305 a Z (λct a=>?_) (λct a=>?_)))
    .refine Go 2 Z (Cz [] a (k_b _ _ _ _) Z λgf eo a=>Go 2 Z (Is 310 a Z (λcu a=>?_) (λcu a=>?_)))
     .refine Go 2 Z (Cz [] a (k_b _ _ _ _) Z λgg ep a=>Go 2 Z (Is 315 a Z (λcv a=>?_) (λcv a=>?_)))
      .refine Go 2 Z (Cz [] a (k_b _ _ _ _) Z λgh es a=>Go 2 Z (Is 320 a Z (λcw a=>?_) (λcw a=>?_)))
       .exact Go 2 Z (Cz [] a (k_b _ _ _ _) Z λgi et a=>Gl 3 Z a [])
       .exact Gl 6 Z a []
      .exact Gl 11 Z a []
     .exact Gl 16 Z a []
    .exact Gl 21 Z a []
   .exact Gl 26 Z a []
  .exact Gl 31 Z a []
 exact QC 1 Z h 2 []
def F_fg(n:Nat)(d:Cond)(rec205:Cond->Option Bool)(a:Int):Option (Ctl Int (Ctl Unit Bool)):=(bif decide (a<(d.Parts.length:Int))then(idx d.Parts a).bind λe=>(rec205 e).bind λf=>(bif (!f)then some (.done (.done false))else some (.cont (i64.wrap (a+1))))else some (.done (.cont ())))
def B_x(rec205:Cond->Option Bool)(n:Nat)(a:Cond):Option Bool:=(bif (a.Kind==1)then((bif decide (1<=a.Var)then(bif decide (a.Var<=3)then(bif decide (0<=a.N)then(bif decide (a.N<=10000)then some ((a.Parts.length:Int)==0)else some false)else some false)else some false)else some false):Option Bool).bind λk=>some k else((bif (a.Kind==2)then some (a.Kind==2)else some (a.Kind==3)):Option Bool).bind λf=>((bif f then((bif decide ((a.Parts.length:Int)<1)then some true else some (decide (16<(a.Parts.length:Int)))):Option Bool).bind λg=>(bif g then some (.done false)else some (.cont ()))else(bif (a.Kind==4)then(bif ((a.Parts.length:Int) != 1)then some (.done false)else some (.cont ()))else some (.done false))):Option (Ctl Unit Bool)).bind λh=>match h with|.cont d=>(((bif (a.Var != 0)then some true else some (a.N != 0)):Option Bool).bind λi=>(bif i then some false else(iter (F_fg n a rec205) n 0:Option (Ctl Unit Bool)).bind λj=>match j with|.cont e=>(some true)|.done e=>some e))|.done d=>some d)
theorem QaX(rec205:Cond->Option Bool)(k:∀(l:Cond) (r:Bool),rec205 l=some r->Csm prog 232 [.agg (Cond.c l)] [] (λr=>.bool r) r)(n:Nat)(l:Cond)(r:Bool)(h:B_x rec205 n l=some r):Csm prog 232 [.agg (Cond.c l)] [] (λr=>.bool r) r:=by
 refine QW func232 Z Z Z ?_;refine G0 20 Z (Cn Z h (λP h=>?_) (λP h=>?_))
 .refine Gc 1 Z (Bd h λu e h=>Ct u [] [] (λu=>[(2,.bool u)]) Ze Zf ?_ (λenv H f=>?_))
  .refine G0 5 Z (Is 11 e Z (λQ e=>?_) (λQ e=>?_))
   .refine Go 5 Z (Is 16 e Z (λR e=>?_) (λR e=>?_))
    .refine Go 5 Z (Is 21 e Z (λw e=>?_) (λw e=>?_))
     .refine Go 5 Z (Is 26 e Z (λx e=>?_) (λx e=>?_))
      .exact Go 2 Z (Lm Z (Gl 4 Z e []))
      .exact Gl 7 Z e []
     .exact Gl 12 Z e []
    .exact Gl 17 Z e []
   .exact Gl 22 Z e []
  exact Gx 1 Z (Ef f (QC 3 Z h 2 []))
 refine Gc 7 Z (Bd h λm g h=>Ct m [0] [1,5] (λm=>[(32,.bool m)]) Ze Zf ?_ (λenv H f=>?_))
 .refine G0 0 Z (Cn Z g (λy g=>?_) (λy g=>?_))
  .exact YJ 1 Z g [0]
  exact YJ 4 Z g [0]
 refine Gx 1 Z (Ef f (Bd h λT a h=>CtE (b:=T) [0] [1] Ze Ze Zf ?_ (λaa env H hb f=>?_)))
 .refine G0 0 Z (Cn Z a (λz a=>?_) (λz a=>?_))
  .refine Gc 1 Z (Bd a λp i a=>Ct p [0] [1] (λp=>[(44,.bool p)]) Ze Zf ?_ (λenv H f=>?_))
   .refine G0 3 Z (Lg 2 Z Z (Is 39 i Z (λB i=>?_) (λB i=>?_)))
    .exact Gl 6 Z i [0]
    .exact Go 2 Z (Lm Z (Gl 3 Z i [0]))
   refine Gx 1 Z (Ef f (Cn Z a (λE a=>?_) (λE a=>?_)))
   .refine Gc 6 Z ?_;cases a;exact Ql (Gx 2 Z (Rt h 2 []))
   refine Gc 1 Z ?_;cases a;exact Yp Z (Lr [0])
  refine Gc 6 Z (QV Z a (λF a=>?_) (λF a=>?_))
  .refine Gc 6 Z ?_;cases a;exact Ql (Gx 2 Z (Rt h 2 []))
  refine Gc 4 Z (Lg 3 Z Z (Cn Z a (λG a=>?_) (λG a=>?_)))
  .refine Gc 6 Z ?_;cases a;exact Ql (Gx 2 Z (Rt h 2 []))
  refine Gc 1 Z ?_;cases a;exact Yp Z (Lr [0])
 subst hb;refine Gx 2 Z (Ef f (Gc 2 Z (Bd h λq j h=>Ct q [0] [1] (λq=>[(58,.bool q)]) Ze Zf ?_ (λenv H f=>?_))))
 .refine G0 5 Z (Is 54 j Z (λJ j=>?_) (λJ j=>?_))
  iterate 2 exact Gl 5 Z j [0]
 refine Gx 1 Z (Ef f (Cn Z h (λL h=>?_) (λL h=>?_)))
 .exact QC 7 Z h 2 []
 refine Gc 8 Z (Bd h λV W h=>Jn (b:=V) [] [] Ze Ze Zf ?_ (λab X=>?_))
 .refine G0 1 Z (Lp [0] [1] (λt=>[(3,I t)]) Ze W Zf (Lr [0]) λt ad d s=>?_);refine G0 6 Z (Lg 3 Z Z (QV Z d (λM d=>?_) (λM d=>?_)))
  .exact Gc 2 Z (Qk d (Gx 1 Z (YC s d Z (Lr []))))
  refine Gc 9 Z (Bd d λY N d=>IzE N (Qar Y) Z (Go 1 Z (Cz [] d (k _) Z λae ac d=>Go 3 Z (Cn Z d (λO d=>?_) (λO d=>?_)))))
  .refine Gc 8 Z (Qp d ?_);obtain rfl:=Oj s d;exact Gx 1 Z (Ql (Gx 1 Z (Rt h 2 [])))
  exact Gc 8 Z (Qi d (Lr [0]))
 subst X;exact QC 6 Z h 2 []
def F_x:Nat->Cond->Option Bool
  |0=>λ_=>none
  |n+1=>B_x (F_x n) n
theorem k_x(n:Nat):∀(a:Cond) (r:Bool),F_x n a=some r->Csm prog 232 [.agg (Cond.c a)] [] (λr=>.bool r) r:=by
  induction n with
  |zero=>intro a r h;cases h
  |succ n ih=>intro a r h;exact QaX _ ih n a r h
def F_eb(n:Nat)(a:Cond):Option Int:=(F_j n a 0).bind λd=>(bif decide (256<d)then some 2 else(F_x n a).bind λe=>(bif (!e)then some 71 else some 0))
theorem k_eb(n:Nat)(a:Cond):Ks (F_eb n a) 207 [.agg (Cond.c a)] [] (λr=>I r):=by
 refine Kg 10 func207 Z Z Z Z λr h=>Cz [] h (k_j _ _ _) Z λi f h=>Go 3 Z (Cn Z h (λd h=>?_) (λd h=>?_))
 .exact QC 7 Z h 2 []
 refine Gc 6 Z (Cz [] h (k_x _ _) Z λj g h=>Go 3 Z (Cn Z h (λe h=>?_) (λe h=>?_)))
 .exact QC 7 Z h 2 []
 exact QC 8 Z h 2 []
def F_jc(n:Nat)(m:List Step)(rec203:(List Step)->Option Bool)(d:Int):Option (Ctl Int (Ctl Unit Bool)):=(bif decide (d<(m.length:Int))then(idx m d).bind λa=>((bif (a.Kind==1)then((bif decide (a.By<1)then some true else(bif decide (5<a.By)then some true else(F_bz n a.Cond).bind λf=>(bif (!f)then some true else(bif ((a.Then.length:Int) != 0)then some true else some ((a.Else.length:Int) != 0))))):Option Bool).bind λg=>(bif g then some (.done (.done (.done false)))else some (.cont ()))else(bif (a.Kind==2)then((bif (a.By != 0)then some true else(F_eb n a.Cond).bind λh=>(bif (h != 0)then some true else(bif ((a.Then.length:Int)==0)then some true else(rec203 a.Then).bind λi=>(bif (!i)then some true else(rec203 a.Else).bind λj=>some (!j))))):Option Bool).bind λk=>(bif k then some (.done (.done (.done false)))else some (.cont ()))else some (.done (.done (.done false))))):Option (Ctl Unit (Ctl Int (Ctl Unit Bool)))).bind λl=>match l with|.cont e=>(some (.cont (i64.wrap (d+1))))|.done e=>some e else some (.done (.cont ())))
def B_f(rec203:(List Step)->Option Bool)(n:Nat)(e:List Step):Option Bool:=(iter (F_jc n e rec203) n 0:Option (Ctl Unit Bool)).bind λd=>match d with|.cont a=>(some true)|.done a=>some a
theorem QaW(rec203:(List Step)->Option Bool)(i:∀(m:List Step) (r:Bool),rec203 m=some r->Csm prog 146 [.rsl 8 (map Step.enc m)] [] (λr=>.bool r) r)(n:Nat)(m:List Step)(r:Bool)(h:B_f rec203 n m=some r):Csm prog 146 [.rsl 8 (map Step.enc m)] [] (λr=>.bool r) r:=by
 refine QW func146 Z Z Z ?_;refine G0 11 Z (Bd h λM N h=>Jn (b:=M) [] [] Ze Ze Zf ?_ (λR Q=>?_))
 .refine G0 1 Z (Lp [] [0] (λp=>[(3,I p)]) Ze N Zf (Lr []) λp aa f g=>?_);refine G0 5 Z (Lg 3 Z Z (QV Z f (λq f=>?_) (λq f=>?_)))
  .exact Gc 2 Z (Qk f (Gx 1 Z (YC g f Z (Lr []))))
  refine Gc 8 Z (Bd f λO s f=>IzE s (Yx O) Z (Go 18 Z (Bd f λP d f=>CtE (b:=P) [] [0,3] Ze Ze Zf ?_ (λT env H hb j=>?_))))
  .refine G0 0 Z (Cn Z d (λt d=>?_) (λt d=>?_))
   .refine Gc 1 Z (Bd d λk e d=>Ct k [] [0,3] (λk=>[(44,.bool k)]) Ze Zf ?_ (λenv H j=>?_))
    .refine G0 5 Z (Is 22 e Z (λu e=>?_) (λu e=>?_))
     .exact Gl 23 Z e []
     .refine Go 5 Z (Is 27 e Z (λw e=>?_) (λw e=>?_))
      .exact Gl 18 Z e []
      .refine Go 2 Z (Cz [] e (k_bz _ _) Z λab V e=>Go 3 Z (Is 33 e Z (λx e=>?_) (λx e=>?_)))
       .exact Gl 12 Z e []
       .refine Go 2 Z (Lg 3 Z Z (Is 39 e Z (λy e=>?_) (λy e=>?_)))
        .exact Gl 6 Z e []
        .exact Go 2 Z (Lm Z (Gl 3 Z e []))
    refine Gx 1 Z (Ef j (Cn Z d (λz d=>?_) (λz d=>?_)))
    .refine Gc 6 Z ?_;cases d;refine Ql (Gx 3 Z (Qp f ?_));obtain rfl:=Oj g f;exact Gx 1 Z (Ql (Gx 1 Z (Rt h 2 [])))
    refine Gc 1 Z ?_;cases d;exact Yp Z (Lr [])
   refine Gc 6 Z (QV Z d (λB d=>?_) (λB d=>?_))
   .refine Gc 6 Z ?_;cases d;refine Ql (Gx 3 Z (Qp f ?_));obtain rfl:=Oj g f;exact Gx 1 Z (Ql (Gx 1 Z (Rt h 2 [])))
   refine Gc 1 Z (Bd d λl a d=>Ct l [] [0,3] (λl=>[(73,.bool l)]) Ze Zf ?_ (λenv H j=>?_))
   .refine G0 5 Z (Is 50 a Z (λE a=>?_) (λE a=>?_))
    .exact Gl 24 Z a []
    .refine Go 2 Z (Cz [] a (k_eb _ _) Z λac W a=>Go 3 Z (Is 56 a Z (λF a=>?_) (λF a=>?_)))
     .exact Gl 18 Z a []
     .refine Go 2 Z (Lg 3 Z Z (Is 62 a Z (λG a=>?_) (λG a=>?_)))
      .exact Gl 12 Z a []
      .refine Go 2 Z (Cz [] a (i _) Z λad X a=>Go 3 Z (Is 68 a Z (λJ a=>?_) (λJ a=>?_)))
       .exact Gl 6 Z a []
       .exact Go 2 Z (Cz [] a (i _) Z λae Y a=>Gl 3 Z a [])
   refine Gx 1 Z (Ef j (Cn Z d (λL d=>?_) (λL d=>?_)))
   .refine Gc 6 Z ?_;cases d;refine Ql (Gx 3 Z (Qp f ?_));obtain rfl:=Oj g f;exact Gx 1 Z (Ql (Gx 1 Z (Rt h 2 [])))
   refine Gc 1 Z ?_;cases d;exact Yp Z (Lr [])
  subst hb;exact Gx 3 Z (Ef j (Gc 5 Z (Qi f (Lr []))))
 subst Q;exact QC 6 Z h 2 []
def F_f:Nat->(List Step)->Option Bool
  |0=>λ_=>none
  |n+1=>B_f (F_f n) n
theorem k_f(n:Nat):∀(a:List Step) (r:Bool),F_f n a=some r->Csm prog 146 [.rsl 8 (map Step.enc a)] [] (λr=>.bool r) r:=by
  induction n with
  |zero=>intro a r h;cases h
  |succ n ih=>intro a r h;exact QaW _ ih n a r h
def F_fe(n:Nat)(a:List Step):Option Int:=(F_m n a 0).bind λd=>((bif decide (64<d.1)then some true else some (decide (256<d.2))):Option Bool).bind λf=>(bif f then some 2 else((bif ((a.length:Int)==0)then some true else(F_f n a).bind λe=>some (!e)):Option Bool).bind λg=>(bif g then some 71 else some 0))
theorem k_fe(n:Nat)(j:List Step):Ks (F_fe n j) 96 [.rsl 8 (map Step.enc j)] [] (λr=>I r):=by
 refine Kg 8 func96 Z Z Z Z λr h=>Cd [] h (k_m _ _ _) Z λt q h=>Fg 9 Z Z (Bd h λe d h=>Ct e [] [0] (λe=>[(15,.bool e)]) Ze Zf ?_ (λenv H k=>?_))
 .refine G0 4 Z (Is 12 d Z (λl d=>?_) (λl d=>?_))
  iterate 2 exact Gl 4 Z d []
 refine Gx 1 Z (Ef k (Cn Z h (λm h=>?_) (λm h=>?_)))
 .exact QC 7 Z h 2 []
 refine Gc 4 Z (Bd h λf a h=>Cg f [] [] (λf=>[(23,.bool f)]) Ze Zf ?_ ?_)
 .refine G0 2 Z (Lg 2 Z Z (Is 19 a Z (λg a=>?_) (λg a=>?_)))
  .exact Gl 5 Z a []
  .exact Go 1 Z (Cz [] a (k_f _ _) Z λs p a=>Gl 3 Z a [])
 refine Cn Z h (λi h=>?_) (λi h=>?_)
 .exact QC 7 Z h 2 []
 exact QC 8 Z h 2 []
def F_gs(n:Nat)(i:List Part)(d:(List Int)×Int)(e:List Int)(a:(List Int)×Int):Option (Ctl ((List Int)×Int) (List Int)):=((idx i d.2).bind λf=>(bif decide (a.2<f.Laps)then some (decide ((a.1.length:Int)<=256))else some false):Option Bool).bind λg=>(bif g then(app a.1 e).bind λh=>some (.cont (h,i64.wrap (a.2+1)))else some (.done a.1))
def F_fh(n:Nat)(d:List Part)(rec207:(List Part)->Option (List Int))(a:(List Int)×Int):Option (Ctl ((List Int)×Int) (List Int)):=((bif decide (a.2<(d.length:Int))then some (decide ((a.1.length:Int)<=256))else some false):Option Bool).bind λe=>(bif e then((idx d a.2).bind λf=>(bif (f.Laps==0)then(idx d a.2).bind λg=>(app a.1 [g.Mat]).bind λh=>some h else(idx d a.2).bind λi=>(rec207 i.Parts).bind λj=>(iter (F_gs n d a j) n (a.1,0):Option (List Int)).bind λk=>some k):Option (List Int)).bind λl=>some (.cont (l,i64.wrap (a.2+1)))else some (.done a.1))
def B_z(rec207:(List Part)->Option (List Int))(n:Nat)(d:List Part):Option (List Int):=(iter (F_fh n d rec207) n (([]:List Int),0):Option (List Int)).bind λa=>some a
theorem QaR(rec207:(List Part)->Option (List Int))(w:∀(x:List Part) (r:List Int),rec207 x=some r->C prog 147 [.rsl 3 (map Part.enc x)] [] (RQ (λr=>.osl 0 0 r.length 1) (λr=>[.row 3 1 (map (Qe .i64) r)]) r))(n:Nat)(x:List Part)(r:List Int)(h:B_z rec207 n x=some r):C prog 147 [.rsl 3 (map Part.enc x)] [] (RQ (λr=>.osl 0 0 r.length 1) (λr=>[.row 3 1 (map (Qe .i64) r)]) r):=by
 refine QW func147 Z Z Z ?_;refine G0 7 Z (vH (El (xs:=[]) (es:=map (Qe .i64) []) QE Z Z Z Z Z trivial Z Z) ?_);refine Fg 9 Z Z (Bd h λj T h=>Cg j [0] [] (λj=>[(3,.osl 0 0 j.length 1)]) (λj=>[(0,.row 3 1 (map (Qe .i64) j))]) Zf ?_ ?_)
 .refine G0 1 Z (Lp [0] [0] (λk=>[(3,.osl 0 0 k.1.length 1),(4,I k.2)]) (λk=>[(0,.row 3 1 (map (Qe .i64) k.1))]) T Zf (Lr [0]) λk ab d z=>?_);refine G0 2 Z (Bd d λt l d=>Ct t [0] [0,3,4] (λt=>[(16,.bool t)]) Ze Zf ?_ (λenv H s=>?_))
  .refine G0 3 Z (Lg 2 Z Z (Is 12 l Z (λB l=>?_) (λB l=>?_)))
   iterate 2 exact Gl 5 Z l [0]
  refine Gx 1 Z (Ef s (QV Z d (λE d=>?_) (λE d=>?_)))
  .exact Gc 2 Z (Qk d (Gx 1 Z (cQo z d (Lr [0]))))
  refine Gc 3 Z (Bd d λm a d=>Cg m [0] [0,4] (λm=>[(3,.osl 0 0 m.length 1)]) (λm=>[(0,.row 3 1 (map (Qe .i64) m))]) Zf ?_ ?_)
  .refine G0 6 Z (Bd a λV F a=>IzE F (QF V) Z (Go 5 Z (Cn Z a (λG a=>?_) (λG a=>?_))))
   .refine Gc 5 Z (Bd a λy J a=>IzE J (QF y) Z (Go 2 Z (vH (El (xs:=[.tmp 30]) (es:=map (Qe .i64) [y.Mat]) QE Z Z Z Z Z ⟨Z,trivial⟩ Z Z) ?_)));refine FE Z (Bd a λac L a=>vH (QR (e:=(Qe .i64)) L QE EB (YP (i:=1))) ?_);exact FE Z (Gl 6 Z a [2])
   refine Gc 6 Z (Bd a λW M a=>IzE M (QF W) Z (Go 2 Z (Cd [] a (w _) Z λad aa a=>Fg 8 Z Z (Bd a λp X a=>Ct p [0] [0,4] (λp=>[(3,.osl 0 0 p.length 1)]) (λp=>[(0,.row 3 1 (map (Qe .i64) p))]) Zf ?_ (λenv H s=>?_)))))
   .refine G0 1 Z (Lp [0,1] [0,4,5] (λq=>[(3,.osl 0 0 q.1.length 1),(6,I q.2)]) (λq=>[(0,.row 3 1 (map (Qe .i64) q.1))]) X Zf (Lr [0,1]) λq ae f N=>?_);refine G0 2 Z (Bd f λu g f=>Ct u [0,1] [0,3,4,5,6] (λu=>[(50,.bool u)]) Ze Zf ?_ (λenv H s=>?_))
    .refine G0 4 Z (Bd g λY O g=>IzE O (QF Y) Z (Go 4 Z (Is 46 g Z (λP g=>?_) (λP g=>?_))))
     iterate 2 exact Gl 5 Z g [0,1]
    refine Gx 1 Z (Ef s (QV Z f (λQ f=>?_) (λQ f=>?_)))
    .exact Gc 2 Z (Qk f (Gx 1 Z (cQo N f (Lr [0]))))
    refine Gc 7 Z (Bd f λaf R f=>vH (QR (e:=(Qe .i64)) R QE EB (YP (i:=1))) ?_);exact Fg 9 Z Z (Qi f (Lr [2,1]))
   refine Gx 1 Z ?_;cases a;exact QbQ (Eo s (Lr [0]))
  exact Gc 5 Z (Qi d (Lr [0]))
 exact QC 7 Z h 2 [0]
def F_z:Nat->(List Part)->Option (List Int)
  |0=>λ_=>none
  |n+1=>B_z (F_z n) n
theorem k_z(n:Nat):∀(a:List Part) (r:List Int),F_z n a=some r->C prog 147 [.rsl 3 (map Part.enc a)] [] (RQ (λr=>.osl 0 0 r.length 1) (λr=>[.row 3 1 (map (Qe .i64) r)]) r):=by
  induction n with
  |zero=>intro a r h;cases h
  |succ n ih=>intro a r h;exact QaR _ ih n a r h
def F_gz(n:Nat)(d:Course)(h:Int)(i:Int)(a:Int):Option (Ctl Int (Ctl Unit Int)):=(bif decide (a<(d.Legs.length:Int))then((idx d.Legs a).bind λe=>(bif (e.From==h)then(idx d.Legs a).bind λf=>some (f.To==i)else some false):Option Bool).bind λg=>(bif g then some (.done (.done a))else some (.cont (i64.wrap (a+1))))else some (.done (.cont ())))
def F_bc(n:Nat)(e:Course)(f:Int)(g:Int):Option Int:=(iter (F_gz n e f g) n 0:Option (Ctl Unit Int)).bind λd=>match d with|.cont a=>(some (-1))|.done a=>some a
theorem k_bc(n:Nat)(p:Course)(q:Int)(s:Int):Ks (F_bc n p q s) 148 [.agg (Course.c p),I q,I s] [] (λr=>I r):=by
 refine Kg 12 func148 Z Z Z Z λr h=>Bd h λt u h=>Jn (b:=t) [] [] Ze Ze Zf ?_ (λx w=>?_)
 .refine G0 1 Z (Lp [0] [1,2,3] (λg=>[(7,I g)]) Ze u Zf (Lr [0]) λg y a e=>?_);refine G0 6 Z (Lg 3 Z Z (QV Z a (λi a=>?_) (λi a=>?_)))
  .exact Gc 2 Z (Qk a (Gx 1 Z (YC e a Z (Lr []))))
  refine Gc 5 Z (Bd a λf d a=>Cg f [0] [1,2,3,7] (λf=>[(32,.bool f)]) Ze Zf ?_ ?_)
  .refine G0 4 Z (Bd d λz j d=>Iz j Z (Go 5 Z (Is 23 d Z (λk d=>?_) (λk d=>?_))))
   .exact Go 3 Z (Bd d λB l d=>Iz l Z (Gl 6 Z d [0]))
   .exact Gl 10 Z d [0]
  refine Cn Z a (λm a=>?_) (λm a=>?_)
  .refine Gc 9 Z (Qp a ?_);obtain rfl:=Oj e a;exact Gx 1 Z (Ql (Gx 1 Z (Rt h 6 [])))
  exact Gc 8 Z (Qi a (Lr [0]))
 subst w;exact QC 6 Z h 6 []
def F_gu(n:Nat)(d:List Int)(g:Int)(a:Int×Int):Option (Ctl (Int×Int) Int):=(bif decide (a.2<(d.length:Int))then(idx d a.2).bind λe=>((bif (e==g)then some (i64.wrap (a.1+1))else some a.1):Option Int).bind λf=>some (.cont (f,i64.wrap (a.2+1)))else some (.done a.1))
def F_bv(n:Nat)(d:List Int)(e:Int):Option Int:=(iter (F_gu n d e) n (0,0):Option Int).bind λa=>some a
theorem k_bv(n:Nat)(m:List Int)(p:Int):Ks (F_bv n m p) 149 [.rsl 1 (map (Qe .i64) m),I p] [] (λr=>I r):=by
 refine Kg 16 func149 Z Z Z Z λr h=>Bd h λe q h=>Cg e [] [] (λe=>[(5,I e)]) Ze Zf ?_ ?_
 .refine G0 1 Z (Lp [] [0,1] (λf=>[(5,I f.1),(6,I f.2)]) Ze q Zf (Lr []) λf t a i=>?_);refine G0 5 Z (Lg 3 Z Z (QV Z a (λj a=>?_) (λj a=>?_)))
  .exact Gc 2 Z (Qk a (Gx 1 Z (cQo i a (Lr []))))
  refine Gc 8 Z (Bd a λu k a=>Iz k Z (Go 5 Z (Bd a λg d a=>Ct g [] [0,1,6] (λg=>[(5,I g)]) Ze Zf ?_ (λenv H s=>?_))))
  .refine G0 0 Z (Cn Z d (λl d=>?_) (λl d=>?_))
   .exact YJ 5 Z d []
   exact YJ 1 Z d []
  exact Gx 2 Z (Ef s (Gc 5 Z (Qi a (Lr []))))
 exact QC 7 Z h 4 []
def F_et(n:Nat)(e:Course)(d:List Int)(a:Int):Option (Ctl Int (Ctl Unit Bool)):=(bif decide (a<(d.length:Int))then((bif (a==0)then some 1 else(bif (a==(i64.wrap ((d.length:Int)-1)))then some 3 else some 2)):Option Int).bind λf=>((idx d a).bind λg=>(idx e.Mats g).bind λh=>(bif (h.Kind != f)then some true else(bif decide (0<a)then(idx d (i64.wrap (a-1))).bind λi=>(idx d a).bind λj=>(F_bc n e i j).bind λk=>some (decide (k<0))else some false)):Option Bool).bind λl=>(bif l then some (.done (.done false))else some (.cont (i64.wrap (a+1))))else some (.done (.cont ())))
def F_kr(n:Nat)(d:Distance)(h:List Int)(a:Int):Option (Ctl Int (Ctl Unit Bool)):=(bif decide (a<(d.Cutoffs.length:Int))then(idx d.Cutoffs a).bind λe=>(F_bv n h e.Mat).bind λf=>(idx d.Cutoffs a).bind λg=>(bif decide (f<g.Lap)then some (.done (.done false))else some (.cont (i64.wrap (a+1))))else some (.done (.cont ())))
def F_cy(n:Nat)(g:Course)(a:Distance):Option Bool:=(F_z n a.Route).bind λd=>((bif decide ((d.length:Int)<2)then some true else some (decide (256<(d.length:Int)))):Option Bool).bind λp=>(bif p then some false else(iter (F_et n g d) n 0:Option (Ctl Unit Bool)).bind λh=>match h with|.cont e=>(((bif (a.Extra != (-1))then(idx g.Mats a.Extra).bind λi=>(bif (i.Kind != 2)then some true else(F_bv n d a.Extra).bind λj=>(bif (j==0)then some true else(F_bc n g a.Extra a.Extra).bind λk=>some (decide (k<0))))else some false):Option Bool).bind λl=>(bif l then some false else(iter (F_kr n a d) n 0:Option (Ctl Unit Bool)).bind λm=>match m with|.cont f=>(some true)|.done f=>some f))|.done e=>some e)
theorem k_cy(n:Nat)(a1:Course)(a2:Distance):Ks (F_cy n a1 a2) 97 [.agg (Course.c a1),.agg (Distance.c a2)] [] (λr=>.bool r):=by
 refine Kg 11 func97 Z Z Z Z λr h=>Cd [] h (k_z _ _) Z λr1 ax h=>Fg 12 Z Z (Bd h λO p h=>Ct O [0,1,2] [2,3,5,6] (λO=>[(20,.bool O)]) Ze Zf ?_ (λenv H g=>?_))
 .refine G0 4 Z (Is 17 p Z (λaf p=>?_) (λaf p=>?_))
  iterate 2 exact Gl 4 Z p [0,1,2]
 refine Gx 1 Z (Ef g (Cn Z h (λag h=>?_) (λag h=>?_)))
 .exact QC 7 Z h 4 []
 refine Gc 8 Z (Bd h λah ai h=>CtE (b:=ah) [0,1,2] [2,3,5] Ze Ze Zf ?_ (λao env H q g=>?_))
 .refine G0 1 Z (Lp [0,1,2] [2,3,5,6] (λj=>[(7,I j)]) Ze ai Zf (Lr [0,1,2]) λj ay f s=>?_);refine G0 8 Z (QV Z f (λP f=>?_) (λP f=>?_))
  .exact Gc 2 Z (Qk f (Gx 1 Z (YC s f Z (Lr [0,1,2]))))
  refine Gc 22 Z (Bd f λt i f=>Ct t [0,1,2] [2,3,5,6,7] (λt=>[(8,I t)]) Ze Zf ?_ (λenv H g=>?_))
  .refine G0 0 Z (Cn Z i (λQ i=>?_) (λQ i=>?_))
   .exact YJ 3 Z i [0,1,2]
   refine Gc 8 Z (Cn Z i (λR i=>?_) (λR i=>?_))
   .exact YJ 3 Z i [0,1,2]
   exact YJ 1 Z i [0,1,2]
  refine Gx 2 Z (Ef g (Gc 1 Z (Bd f λu d f=>Ct u [0,1,2] [2,3,5,6,7] (λu=>[(61,.bool u)]) Ze Zf ?_ (λenv H g=>?_))))
  .refine G0 0 Z (DSs 25 Z (D 4 Z ?_));obtain⟨aj,w,d⟩:=Yh d;refine DS.v (x:=(.ptr 2 (toNat j*1))) (Y7 w Z EB EC) ?_;refine DS.v (x:=(I aj)) (Ez Z EQ Z (YD w)) ?_;obtain⟨N,T,d⟩:=Yh d;refine DS.wo (x:=.rp [.str N.Name,I N.Kind]) ?_ ?_
   .exact Ix T runUnderlying22 sizeOf108 Z Wp
   refine D 5 Z (DS.is 11 d Z Z Z (λV d=>?_) (λV d=>?_))
   .exact D 13 Z (Eh Z (Gl 5 Z d [0,1,2]))
   .refine D 3 Z (DS.is 14 d Z Z Z (λW d=>?_) (λW d=>?_))
    .refine D 4 Z ?_;obtain⟨ak,y,d⟩:=Yh d;refine DS.v (x:=(.ptr 2 (toNat (i64.wrap (j-1))*1))) (Y7 y Z EB EC) ?_ (hg:=(gT Z));refine DS.v (x:=(I ak)) (Ez Z EQ Z (YD y)) ?_ (hg:=(gT Z));refine D 2 Z ?_;obtain⟨al,z,d⟩:=Yh d;refine DS.v (x:=(.ptr 2 (toNat j*1))) (Y7 z Z EB EC) ?_ (hg:=(gT Z));refine DS.v (x:=(I al)) (Ez Z EQ Z (YD z)) ?_ (hg:=(gT Z));exact Eh Z (Cz [] d (k_bc _ _ _ _) Z λaz aq d=>Gl 4 Z d [0,1,2])
    .exact D 10 Z (Eh Z (Gl 5 Z d [0,1,2]))
  refine Gx 1 Z (Ef g (Cn Z f (λX f=>?_) (λX f=>?_)))
  .refine Gc 8 Z (Qp f ?_);obtain rfl:=Oj s f;exact Gx 1 Z (Ql (Gx 1 Z (Rt h 4 [])))
  exact Gc 8 Z (Qi f (Lr [0,1,2]))
 subst q;refine Gx 1 Z (Ef g (Gc 2 Z (Bd h λB e h=>Ct B [1,2] [3,5] (λB=>[(90,.bool B)]) Ze Zf ?_ (λenv H g=>?_))))
 .refine G0 5 Z (Is 65 e Z (λY e=>?_) (λY e=>?_))
  .refine Go 4 Z (Bd e λba aa e=>Iz aa Z (Go 4 Z (Is 74 e Z (λab e=>?_) (λab e=>?_))))
   .exact Gl 17 Z e [1,2]
   .refine Go 3 Z (Cb e (k_bv _ _ _) Z (lo (ls ln)) λbb ar e=>Go 3 Z (Is 81 e Z (λac e=>?_) (λac e=>?_)))
    .exact Gl 10 Z e [1,2]
    .exact Go 5 Z (Cz [] e (k_bc _ _ _ _) Z λbc au e=>Gl 4 Z e [1,2])
  .exact Gl 26 Z e [1,2]
 refine Gx 1 Z (Ef g (Cn Z h (λad h=>?_) (λad h=>?_)))
 .exact QC 7 Z h 4 []
 refine Gc 8 Z (Bd h λam an h=>Jn (b:=am) [] [] Ze Ze Zf ?_ (λav q=>?_))
 .refine G0 1 Z (Lp [0,1] [3,5] (λE=>[(9,I E)]) Ze an Zf (Lr [0,1]) λE aw a m=>?_);refine G0 6 Z (Lg 3 Z Z (QV Z a (λF a=>?_) (λF a=>?_)))
  .exact Gc 2 Z (Qk a (Gx 1 Z (YC m a Z (Lr []))))
  refine Gc 5 Z (DSs 14 Z (D 4 Z ?_));obtain⟨k,G,a⟩:=Yh a;refine DS.wo (x:=.rp [I k.Mat,I k.Lap,I k.Limit]) ?_ ?_
  .exact Ix G Gj sizeOf230 Z Wp
  refine D 2 Z ?_;obtain⟨ae,J,a⟩:=Yh a;refine DS.wo (x:=I ae) ?_ ?_
  .refine QcT (OpC.fn call149 rfl rfl rfl) (Qbh.cons rfl (.inr ⟨_,_,_,_,_,rfl,rfl,X2 ..,rfl⟩) (Qbh.cons rfl (.inl ⟨rfl,rfl⟩) Qbh.nil)) (k_bv _ _ _ _ J) (by rintro _ _ ⟨rfl,rfl⟩;rfl) ?_;rintro _ _ ⟨rfl,rfl⟩;exact FE Z Wp
  refine D 3 Z ?_;obtain⟨l,L,a⟩:=Yh a;refine DS.wo (x:=.rp [I l.Mat,I l.Lap,I l.Limit]) ?_ ?_
  .exact Ix L Gj sizeOf230 Z Wp
  refine D 2 Z (Eh Z (Go 3 Z (Cn Z a (λM a=>?_) (λM a=>?_))))
  .refine Gc 8 Z (Qp a ?_);obtain rfl:=Oj m a;exact Gx 1 Z (Ql (Gx 1 Z (Rt h 4 [])))
  exact Gc 8 Z (Qi a (Lr [0,1]))
 subst q;exact QC 6 Z h 4 []
def F_ky(n:Nat)(d:Course)(a:Int):Option (Ctl Int (Ctl Unit Int)):=(bif decide (a<(d.Distances.length:Int))then(idx d.Distances a).bind λe=>(F_cy n d e).bind λf=>(bif (!f)then some (.done (.done 72))else some (.cont (i64.wrap (a+1))))else some (.done (.cont ())))
def F_c(n:Nat)(a:Course):Option Int:=(F_ex n a).bind λg=>(bif (!g)then some 2 else(F_hm n a).bind λh=>(bif (!h)then some 70 else(F_eh n a).bind λi=>(bif (!i)then some 71 else(F_fe n a.Ties).bind λe=>(bif (e != 0)then some e else(iter (F_ky n a) n 0:Option (Ctl Unit Int)).bind λf=>match f with|.cont d=>(some 0)|.done d=>some d))))
theorem k_c(n:Nat)(k:Course):Ks (F_c n k) 50 [.agg (Course.c k)] [] (λr=>I r):=by
 refine Kg 10 func50 Z Z Z Z λr h=>Cz [] h (k_ex _ _) Z λJ z h=>Go 3 Z (Cn Z h (λl h=>?_) (λl h=>?_))
 .exact QC 7 Z h 2 []
 refine Gc 6 Z (Cz [] h (k_hm _ _) Z λL B h=>Go 3 Z (Cn Z h (λm h=>?_) (λm h=>?_)))
 .exact QC 7 Z h 2 []
 refine Gc 6 Z (Cz [] h (k_eh _ _) Z λM E h=>Go 3 Z (Cn Z h (λp h=>?_) (λp h=>?_)))
 .exact QC 7 Z h 2 []
 refine Gc 6 Z (Cz [] h (k_fe _ _) Z λN F h=>Go 10 Z (Cn Z h (λq h=>?_) (λq h=>?_)))
 .exact QC 8 Z h 2 []
 refine Gc 8 Z (Bd h λs t h=>Jn (b:=s) [] [] Ze Ze Zf ?_ (λw u=>?_))
 .refine G0 1 Z (Lp [0] [1] (λf=>[(4,I f)]) Ze t Zf (Lr [0]) λf G a e=>?_);refine G0 6 Z (Lg 3 Z Z (QV Z a (λg a=>?_) (λg a=>?_)))
  .exact Gc 2 Z (Qk a (Gx 1 Z (YC e a Z (Lr []))))
  refine Gc 5 Z (DSs 6 Z (D 4 Z ?_));obtain⟨d,i,a⟩:=Yh a;refine DS.wo (x:=.rp [.str d.Name,.rsl 3 (map Part.enc d.Route),I d.Timing,.rsl 3 (map Cutoff.c d.Cutoffs),I d.Extra]) ?_ ?_
  .exact Ix i E0 E4 Z Wp
  refine D 1 Z (Eh Z (Cz [] a (k_cy _ _ _) Z λH y a=>Go 3 Z (Cn Z a (λj a=>?_) (λj a=>?_))))
  .refine Gc 8 Z (Qp a ?_);obtain rfl:=Oj e a;exact Gx 1 Z (Ql (Gx 1 Z (Rt h 2 [])))
  exact Gc 8 Z (Qi a (Lr [0]))
 subst u;exact QC 6 Z h 2 []
def F_cl(n:Nat)(a:Course)(d:Int):Option Int:=(F_c n a).bind λe=>(bif (e != 0)then some e else((bif decide (d<0)then some true else some (decide ((a.Distances.length:Int)<=d))):Option Bool).bind λf=>(bif f then some 90 else some 0))
theorem k_cl(n:Nat)(e:Course)(f:Int):Ks (F_cl n e f) 90 [.agg (Course.c e),I f] [] (λr=>I r):=by
 refine Kg 9 func90 Z Z Z Z λr h=>Cz [] h (k_c _ _) Z λl k h=>Go 10 Z (Cn Z h (λg h=>?_) (λg h=>?_))
 .exact QC 8 Z h 4 []
 refine Gc 4 Z (Bd h λd a h=>Cg d [] [] (λd=>[(19,.bool d)]) Ze Zf ?_ ?_)
 .refine G0 4 Z (Is 13 a Z (λi a=>?_) (λi a=>?_))
  .exact Gl 7 Z a []
  .exact Go 3 Z (Lm Z (Gl 3 Z a []))
 refine Cn Z h (λj h=>?_) (λj h=>?_)
 .exact QC 7 Z h 4 []
 exact QC 8 Z h 4 []
def F_hw(n:Nat)(i:List Part)(e:(List Int)×Int)(d:List Int)(a:(List Int)×Int):Option (Ctl ((List Int)×Int) (List Int)):=((idx i e.2).bind λf=>(bif decide (a.2<f.Laps)then(bif decide (0<(d.length:Int))then some (decide ((a.1.length:Int)<=300))else some false)else some false):Option Bool).bind λg=>(bif g then(app a.1 d).bind λh=>some (.cont (h,i64.wrap (a.2+1)))else some (.done a.1))
def F_ij(n:Nat)(d:List Part)(rec210:(List Part)->Option (List Int))(a:(List Int)×Int):Option (Ctl ((List Int)×Int) (List Int)):=(bif decide (a.2<(d.length:Int))then((idx d a.2).bind λe=>(bif (e.Laps==0)then(idx d a.2).bind λf=>(app a.1 [f.Mat]).bind λg=>some g else(idx d a.2).bind λh=>(rec210 h.Parts).bind λi=>(iter (F_hw n d a i) n (a.1,0):Option (List Int)).bind λj=>some j):Option (List Int)).bind λk=>some (.cont (k,i64.wrap (a.2+1)))else some (.done a.1))
def B_w(rec210:(List Part)->Option (List Int))(n:Nat)(d:List Part):Option (List Int):=(iter (F_ij n d rec210) n (([]:List Int),0):Option (List Int)).bind λa=>some a
theorem QaP(rec210:(List Part)->Option (List Int))(s:∀(t:List Part) (r:List Int),rec210 t=some r->C prog 91 [.rsl 3 (map Part.enc t)] [] (RQ (λr=>.osl 0 0 r.length 1) (λr=>[.row 3 1 (map (Qe .i64) r)]) r))(n:Nat)(t:List Part)(r:List Int)(h:B_w rec210 n t=some r):C prog 91 [.rsl 3 (map Part.enc t)] [] (RQ (λr=>.osl 0 0 r.length 1) (λr=>[.row 3 1 (map (Qe .i64) r)]) r):=by
 refine QW func91 Z Z Z ?_;refine G0 7 Z (vH (El (xs:=[]) (es:=map (Qe .i64) []) QE Z Z Z Z Z trivial Z Z) ?_);refine Fg 9 Z Z (Bd h λj Q h=>Cg j [0] [] (λj=>[(3,.osl 0 0 j.length 1)]) (λj=>[(0,.row 3 1 (map (Qe .i64) j))]) Zf ?_ ?_)
 .refine G0 1 Z (Lp [0] [0] (λk=>[(3,.osl 0 0 k.1.length 1),(4,I k.2)]) (λk=>[(0,.row 3 1 (map (Qe .i64) k.1))]) Q Zf (Lr [0]) λk Y g x=>?_);refine G0 5 Z (Lg 3 Z Z (QV Z g (λy g=>?_) (λy g=>?_)))
  .exact Gc 2 Z (Qk g (Gx 1 Z (cQo x g (Lr [0]))))
  refine Gc 3 Z (Bd g λl a g=>Cg l [0] [0,4] (λl=>[(3,.osl 0 0 l.length 1)]) (λl=>[(0,.row 3 1 (map (Qe .i64) l))]) Zf ?_ ?_)
  .refine G0 6 Z (Bd a λR z a=>IzE z (QF R) Z (Go 5 Z (Cn Z a (λB a=>?_) (λB a=>?_))))
   .refine Gc 5 Z (Bd a λu E a=>IzE E (QF u) Z (Go 2 Z (vH (El (xs:=[.tmp 25]) (es:=map (Qe .i64) [u.Mat]) QE Z Z Z Z Z ⟨Z,trivial⟩ Z Z) ?_)));refine FE Z (Bd a λaa F a=>vH (QR (e:=(Qe .i64)) F QE EB (YP (i:=1))) ?_);exact FE Z (Gl 6 Z a [2])
   refine Gc 6 Z (Bd a λT G a=>IzE G (QF T) Z (Go 2 Z (Cd [] a (s _) Z λab X a=>Fg 8 Z Z (Bd a λm V a=>Ct m [0] [0,4] (λm=>[(3,.osl 0 0 m.length 1)]) (λm=>[(0,.row 3 1 (map (Qe .i64) m))]) Zf ?_ (λenv H w=>?_)))))
   .refine G0 1 Z (Lp [0,1] [0,4,5] (λp=>[(3,.osl 0 0 p.1.length 1),(6,I p.2)]) (λp=>[(0,.row 3 1 (map (Qe .i64) p.1))]) V Zf (Lr [0,1]) λp ac f J=>?_);refine G0 2 Z (Bd f λq d f=>Ct q [0,1] [0,3,4,5,6] (λq=>[(50,.bool q)]) Ze Zf ?_ (λenv H w=>?_))
    .refine G0 4 Z (Bd d λW L d=>IzE L (QF W) Z (Go 4 Z (Is 41 d Z (λM d=>?_) (λM d=>?_))))
     .refine Go 5 Z (Is 46 d Z (λN d=>?_) (λN d=>?_))
      iterate 2 exact Gl 5 Z d [0,1]
     .exact Gl 10 Z d [0,1]
    refine Gx 1 Z (Ef w (QV Z f (λO f=>?_) (λO f=>?_)))
    .exact Gc 2 Z (Qk f (Gx 1 Z (cQo J f (Lr [0]))))
    refine Gc 7 Z (Bd f λad P f=>vH (QR (e:=(Qe .i64)) P QE EB (YP (i:=1))) ?_);exact Fg 9 Z Z (Qi f (Lr [2,1]))
   refine Gx 1 Z ?_;cases a;exact QbQ (Eo w (Lr [0]))
  exact Gc 5 Z (Qi g (Lr [0]))
 exact QC 7 Z h 2 [0]
def F_w:Nat->(List Part)->Option (List Int)
  |0=>λ_=>none
  |n+1=>B_w (F_w n) n
theorem k_w(n:Nat):∀(a:List Part) (r:List Int),F_w n a=some r->C prog 91 [.rsl 3 (map Part.enc a)] [] (RQ (λr=>.osl 0 0 r.length 1) (λr=>[.row 3 1 (map (Qe .i64) r)]) r):=by
  induction n with
  |zero=>intro a r h;cases h
  |succ n ih=>intro a r h;exact QaP _ ih n a r h
def F_ih(n:Nat)(d:List Int)(g:Int)(a:Int×Int):Option (Ctl (Int×Int) Int):=(bif decide (a.2<(d.length:Int))then(idx d a.2).bind λe=>((bif (e==g)then some a.2 else some a.1):Option Int).bind λf=>some (.cont (f,i64.wrap (a.2+1)))else some (.done a.1))
def F_de(n:Nat)(d:List Int)(e:Int):Option Int:=(iter (F_ih n d e) n ((-1),0):Option Int).bind λa=>some a
theorem k_de(n:Nat)(m:List Int)(p:Int):Ks (F_de n m p) 92 [.rsl 1 (map (Qe .i64) m),I p] [] (λr=>I r):=by
 refine Kg 16 func92 Z Z Z Z λr h=>Bd h λe q h=>Cg e [] [] (λe=>[(5,I e)]) Ze Zf ?_ ?_
 .refine G0 1 Z (Lp [] [0,1] (λf=>[(5,I f.1),(6,I f.2)]) Ze q Zf (Lr []) λf t a i=>?_);refine G0 5 Z (Lg 3 Z Z (QV Z a (λj a=>?_) (λj a=>?_)))
  .exact Gc 2 Z (Qk a (Gx 1 Z (cQo i a (Lr []))))
  refine Gc 8 Z (Bd a λu k a=>Iz k Z (Go 5 Z (Bd a λg d a=>Ct g [] [0,1,6] (λg=>[(5,I g)]) Ze Zf ?_ (λenv H s=>?_))))
  .refine G0 0 Z (Cn Z d (λl d=>?_) (λl d=>?_))
   .exact YJ 4 Z d []
   exact YJ 1 Z d []
  exact Gx 2 Z (Ef s (Gc 5 Z (Qi a (Lr []))))
 exact QC 7 Z h 4 []
def F_ia(n:Nat)(e:Int)(f:Distance)(a:(List Int)×Int):Option (Ctl ((List Int)×Int) (List Int)):=(bif decide (a.2<e)then(app a.1 [f.Extra]).bind λd=>some (.cont (d,i64.wrap (a.2+1)))else some (.done a.1))
def F_ac(n:Nat)(g:Course)(h:Int)(d:Int):Option ((List Int)×Int):=(F_cl n g h).bind λi=>(bif (i != 0)then some ([],i)else(idx g.Distances h).bind λe=>((bif decide (d<0)then some true else(bif decide (0<d)then some (e.Extra==(-1))else some false)):Option Bool).bind λr=>(bif r then some ([],90)else(F_w n e.Route).bind λa=>((bif decide (256<d)then some true else some (decide (256<(i64.wrap ((a.length:Int)+d))))):Option Bool).bind λj=>(bif j then some ([],2)else(bif (d==0)then some (a,0)else(F_de n a e.Extra).bind λf=>(slc a 0 (i64.wrap (f+1))).bind λk=>(app ([]:List Int) k).bind λl=>(iter (F_ia n d e) n (l,0):Option (List Int)).bind λm=>(slc a (i64.wrap (f+1)) (a.length:Int)).bind λp=>(app m p).bind λq=>some (q,0)))))
theorem k_ac(n:Nat)(O:Course)(P:Int)(Q:Int):Kq (F_ac n O P Q) 49 [.agg (Course.c O),I P,I Q] [] (λr=>.tup [.osl 0 0 r.1.length 1,I r.2]) (λr=>[.row 3 1 (map (Qe .i64) r.1)]):=by
 refine Kg 11 func49 Z Z Z Z λr h=>Cz [] h (k_cl _ _ _) Z λr1 ac h=>Go 10 Z (Cn Z h (λR h=>?_) (λR h=>?_))
 .refine Gc 9 Z ?_;obtain rfl:=Oi h;refine R2 6 7 Z Z ?_;refine Eo (Et (s:=6) (k:=1) (t:=3) (XR Z) Z) ?_;exact Lr [1]
 refine Gc 7 Z (Bd h λY T h=>Iz T Z (Go 7 Z (Bd h λy d h=>Ct y [1] [2,9] (λy=>[(35,.bool y)]) Ze Zf ?_ (λenv H m=>?_))))
 .refine G0 4 Z (Is 27 d Z (λV d=>?_) (λV d=>?_))
  .exact Gl 9 Z d [1]
  .refine Go 3 Z (Is 30 d Z (λW d=>?_) (λW d=>?_))
   iterate 2 exact Gl 6 Z d [1]
 refine Gx 1 Z (Ef m (Cn Z h (λz h=>?_) (λz h=>?_)))
 .refine Gc 8 Z ?_;obtain rfl:=Oi h;refine R2 6 7 Z Z ?_;refine Eo (Et (s:=6) (k:=1) (t:=3) (XR Z) Z) ?_;exact Lr [1]
 refine Gc 6 Z (Cd [] h (k_w _ _) Z λp aa h=>Fg 5 Z Z (Bd h λq f h=>Ct q [0,1] [2,9,10] (λq=>[(47,.bool q)]) Ze Zf ?_ (λenv H m=>?_)))
 .refine G0 4 Z (Is 41 f Z (λB f=>?_) (λB f=>?_))
  iterate 2 exact Gl 7 Z f [0,1]
 refine Gx 1 Z (Ef m (Cn Z h (λE h=>?_) (λE h=>?_)))
 .refine Gc 8 Z ?_;obtain rfl:=Oi h;refine R2 6 7 Z Z ?_;refine Eo (Et (s:=6) (k:=1) (t:=3) (XR Z) Z) ?_;exact Lr [2]
 refine Gc 9 Z (Cn Z h (λF h=>?_) (λF h=>?_))
 .refine Gc 9 Z ?_;obtain rfl:=Oi h;exact R2 6 7 Z Z (Lr [1])
 refine Gc 7 Z (Cb h (k_de _ _ _) Z (lo (ls ln)) λu ab h=>Go 6 Z (vH (El (xs:=[]) (es:=map (Qe .i64) []) QE Z Z Z Z Z trivial Z Z) ?_));refine Fg 2 Z Z (Bd h λad w h=>?_);refine vX (.osl 1 (0+toNat 0) (toNat (i64.wrap (u+1))-toNat 0) 1) (Qb7 (l:=p) w EB EC (.inl ⟨Z,Z⟩) (.inr ⟨_,Z,Z⟩)) ?_;refine Bd h λae G h=>vH (QR (e:=(Qe .i64)) G QE EB (QlJ (b:=1) w)) ?_;refine Fg 9 Z Z (Bd h λg X h=>Cg g [1,2] [10,11] (λg=>[(12,.osl 1 0 g.length 1)]) (λg=>[(1,.row 3 1 (map (Qe .i64) g))]) Zf ?_ ?_)
 .refine G0 1 Z (Lp [0,1,3] [2,9,10,11] (λj=>[(12,.osl 2 0 j.1.length 1),(13,I j.2)]) (λj=>[(2,.row 3 1 (map (Qe .i64) j.1))]) X Zf (Lr [0,1,3]) λj af a J=>?_);refine G0 8 Z (QV Z a (λL a=>?_) (λL a=>?_))
  .exact Gc 2 Z (Qk a (Gx 1 Z (cQo J a (Lr [1,2]))))
  refine Gc 8 Z (vH (El (xs:=[.tmp 68]) (es:=map (Qe .i64) [Y.Extra]) QE Z Z Z Z Z ⟨Z,trivial⟩ Z Z) ?_);refine FE Z (Bd a λag M a=>vH (QR (e:=(Qe .i64)) M QE EB (YP (i:=3))) ?_);exact Fg 9 Z Z (Qi a (Lr [0,1,4]))
 refine Gc 5 Z (Bd h λah x h=>?_);refine vX (.osl 0 (0+toNat (i64.wrap (u+1))) (toNat (p.length:Int)-toNat (i64.wrap (u+1))) 1) (Qb7 (l:=p) x EB EC (.inr ⟨_,Z,Z⟩) (.inl ⟨Z,Z⟩)) ?_;refine Bd h λai N h=>vH (QR (e:=(Qe .i64)) N QE EB (QlJ (b:=0) x)) ?_;refine Fg 5 Z Z ?_;obtain rfl:=Oi h;exact R2 6 7 Z Z (Lr [2])
def F_ea(n:Nat)(a:Course)(i:Clocks)(e:Starter)(j:Int)(k:List Hit)(l:List Hand):Option Bool:=((F_cr n a).bind λm=>(bif (!m)then some true else(bif decide (8<(a.Mats.length:Int))then some true else(F_ej n i).bind λf=>(bif (!f)then some true else(bif decide (4<(k.length:Int))then some true else some (decide (6<(l.length:Int))))))):Option Bool).bind λp=>(bif p then some false else((bif decide (e.Distance<0)then some true else some (decide ((a.Distances.length:Int)<=e.Distance))):Option Bool).bind λg=>(bif g then some true else(F_ac n a e.Distance j).bind λd=>((bif (d.2 != 0)then some true else some (decide ((d.1.length:Int)<=8))):Option Bool).bind λh=>some h))
theorem k_ea(n:Nat)(w:Course)(x:Clocks)(y:Starter)(z:Int)(B:List Hit)(E:List Hand):Ks (F_ea n w x y z B E) 23 [.agg (Course.c w),.agg (Clocks.c x),.agg (Starter.c y),I z,.rsl 5 (map Hit.c B),.rsl 4 (map Hand.c E)] [] (λr=>.bool r):=by
 refine Kg 10 func23 Z Z Z Z λr h=>Bd h λj a h=>Ct j [0,2] [3,6,8] (λj=>[(38,.bool j)]) Ze Zf ?_ (λenv H f=>?_)
 .refine G0 2 Z (Cz [] a (k_cr _ _) Z λN J a=>Go 2 Z (Is 18 a Z (λk a=>?_) (λk a=>?_)))
  .exact Gl 21 Z a [0,2]
  .refine Go 2 Z (Lg 3 Z Z (Is 24 a Z (λl a=>?_) (λl a=>?_)))
   .exact Gl 15 Z a [0,2]
   .refine Go 1 Z (Cz [] a (k_ej _ _) Z λL F a=>Go 3 Z (Is 29 a Z (λm a=>?_) (λm a=>?_)))
    .exact Gl 10 Z a [0,2]
    .refine Go 1 Z (Lg 3 Z Z (Is 34 a Z (λp a=>?_) (λp a=>?_)))
     .exact Gl 5 Z a [0,2]
     .exact Go 1 Z (Lm Z (Gl 3 Z a [0,2]))
 refine Gx 1 Z (Ef f (Cn Z h (λq h=>?_) (λq h=>?_)))
 .exact QC 7 Z h 12 []
 refine Gc 4 Z (Bd h λg d h=>Ct g [0,1] [3,6,8] (λg=>[(49,.bool g)]) Ze Zf ?_ (λenv H f=>?_))
 .refine G0 5 Z (Is 42 d Z (λs d=>?_) (λs d=>?_))
  .exact Gl 8 Z d [0,1]
  .exact Go 4 Z (Lm Z (Gl 3 Z d [0,1]))
 refine Gx 1 Z (Ef f (Cn Z h (λt h=>?_) (λt h=>?_)))
 .exact QC 7 Z h 12 []
 refine Gc 8 Z (Cd [] h (k_ac _ _ _ _) Z λM G h=>Fg 8 Z Z (Bd h λi e h=>Cg i [] [] (λi=>[(12,.bool i)]) Ze Zf ?_ ?_))
 .refine G0 4 Z (Is 60 e Z (λu e=>?_) (λu e=>?_))
  iterate 2 exact Gl 6 Z e []
 exact QC 1 Z h 12 []
def F_ar(n:Nat)(a:stopwatchlaw19_Input):Option Bool:=(F_ea n a.C a.K a.S a.Extra a.Hits a.Hands).bind λd=>some d
theorem k_ar(n:Nat)(a:stopwatchlaw19_Input):Ks (F_ar n a) 10 [.agg (stopwatchlaw19_Input.c a)] [] (λr=>.bool r):=by
 exact Kg 20 func10 Z Z Z Z λr h=>Cz [] h (k_ea _ _ _ _ _ _ _) Z λe d h=>Gt 4 Z h 2 []
def F_k(n:Nat)(a:Int):Option Bool:=((bif decide ((-1099511627776)<=a)then some (decide (a<=1099511627776))else some false):Option Bool).bind λd=>some d
theorem k_k(n:Nat)(e:Int):Ks (F_k n e) 98 [I e] [] (λr=>.bool r):=by
 refine Kg 6 func98 Z Z Z Z λr h=>Bd h λd a h=>Cg d [] [] (λd=>[(2,.bool d)]) Ze Zf ?_ ?_
 .refine G0 4 Z (Is 5 a Z (λf a=>?_) (λf a=>?_))
  iterate 2 exact Gl 5 Z a []
 exact QC 1 Z h 2 []
def F_eg(n:Nat)(a:Segment)(d:Segment):Option Bool:=((bif decide (a.Mat<d.Mat)then some true else(bif (a.Mat==d.Mat)then some (decide (a.Epoch<d.Epoch))else some false)):Option Bool).bind λe=>some e
theorem k_eg(n:Nat)(e:Segment)(f:Segment):Ks (F_eg n e f) 99 [.agg (Segment.c e),.agg (Segment.c f)] [] (λr=>.bool r):=by
 refine Kg 8 func99 Z Z Z Z λr h=>Bd h λd a h=>Cg d [] [] (λd=>[(4,.bool d)]) Ze Zf ?_ ?_
 .refine G0 7 Z (Is 10 a Z (λg a=>?_) (λg a=>?_))
  .exact Gl 15 Z a []
  .refine Go 6 Z (Is 16 a Z (λi a=>?_) (λi a=>?_))
   iterate 2 exact Gl 9 Z a []
 exact QC 1 Z h 4 []
def F_jb(n:Nat)(e:Clocks)(d:Int):Option (Ctl Int (Ctl Unit Int)):=(bif decide (d<(e.Segments.length:Int))then(idx e.Segments d).bind λa=>((bif decide (a.Mat<0)then some true else(bif decide (40<=a.Mat)then some true else(bif decide (a.Epoch<0)then some true else(bif decide (255<a.Epoch)then some true else(F_k n a.Anchor).bind λf=>(bif (!f)then some true else(bif decide (0<d)then(idx e.Segments (i64.wrap (d-1))).bind λg=>(F_eg n g a).bind λh=>some (!h)else some false)))))):Option Bool).bind λi=>(bif i then some (.done (.done 160))else some (.cont (i64.wrap (d+1))))else some (.done (.cont ())))
def F_kx(n:Nat)(e:Clocks)(d:Int)(a:Int):Option (Ctl Int (Ctl Unit (Ctl Int (Ctl Unit Int)))):=(bif decide (a<=(e.Segments.length:Int))then((idx e.Far d).bind λf=>(idx f a).bind λg=>(bif decide (g<(-2199023255552))then some true else(idx e.Far d).bind λh=>(idx h a).bind λi=>some (decide (2199023255552<i))):Option Bool).bind λj=>(bif j then some (.done (.done (.done (.done 160))))else some (.cont (i64.wrap (a+1))))else some (.done (.cont ())))
def F_kb(n:Nat)(e:Clocks)(a:Int):Option (Ctl Int (Ctl Unit Int)):=(bif decide (a<=(e.Segments.length:Int))then((idx e.Far a).bind λf=>(bif ((f.length:Int) != (i64.wrap ((e.Segments.length:Int)+1)))then some true else(idx e.Far a).bind λg=>(idx g a).bind λh=>some (h != 0)):Option Bool).bind λi=>(bif i then some (.done (.done 160))else(iter (F_kx n e a) n 0:Option (Ctl Unit (Ctl Int (Ctl Unit Int)))).bind λj=>match j with|.cont d=>(some (.cont (i64.wrap (a+1))))|.done d=>some d)else some (.done (.cont ())))
def F_lb(n:Nat)(f:Clocks)(d:Int)(e:Int)(a:Int):Option (Ctl Int (Ctl Unit (Ctl Int (Ctl Unit (Ctl Int (Ctl Unit Int)))))):=(bif decide (a<=(f.Segments.length:Int))then(idx f.Far d).bind λg=>(idx g a).bind λh=>(idx f.Far d).bind λi=>(idx i e).bind λj=>(idx f.Far e).bind λk=>(idx k a).bind λl=>(bif decide ((i64.wrap (j+l))<h)then some (.done (.done (.done (.done (.done (.done 160))))))else some (.cont (i64.wrap (a+1))))else some (.done (.cont ())))
def F_ld(n:Nat)(g:Clocks)(e:Int)(a:Int):Option (Ctl Int (Ctl Unit (Ctl Int (Ctl Unit Int)))):=(bif decide (a<=(g.Segments.length:Int))then(iter (F_lb n g e a) n 0:Option (Ctl Unit (Ctl Int (Ctl Unit (Ctl Int (Ctl Unit Int)))))).bind λf=>match f with|.cont d=>(some (.cont (i64.wrap (a+1))))|.done d=>some d else some (.done (.cont ())))
def F_id(n:Nat)(f:Clocks)(a:Int):Option (Ctl Int (Ctl Unit Int)):=(bif decide (a<=(f.Segments.length:Int))then(iter (F_ld n f a) n 0:Option (Ctl Unit (Ctl Int (Ctl Unit Int)))).bind λe=>match e with|.cont d=>(some (.cont (i64.wrap (a+1))))|.done d=>some d else some (.done (.cont ())))
def F_be(n:Nat)(e:Clocks):Option Int:=((bif decide (511<(e.Segments.length:Int))then some true else some ((e.Far.length:Int) != (i64.wrap ((e.Segments.length:Int)+1)))):Option Bool).bind λj=>(bif j then some 160 else(iter (F_jb n e) n 0:Option (Ctl Unit Int)).bind λi=>match i with|.cont f=>((iter (F_kb n e) n 0:Option (Ctl Unit Int)).bind λg=>match g with|.cont a=>((iter (F_id n e) n 0:Option (Ctl Unit Int)).bind λh=>match h with|.cont d=>(some 0)|.done d=>some d)|.done a=>some a)|.done f=>some f)
theorem k_be(n:Nat)(a1:Clocks):Ks (F_be n a1) 51 [.agg (Clocks.c a1)] [] (λr=>I r):=by
 refine Kg 10 func51 Z Z Z Z λr h=>Lg 5 Z Z (Bd h λb2 G h=>Ct b2 [0] [1,3] (λb2=>[(23,.bool b2)]) Ze Zf ?_ (λenv H j=>?_))
 .refine G0 4 Z (Is 16 G Z (λbx G=>?_) (λbx G=>?_))
  .exact Gl 8 Z G [0]
  .exact Go 2 Z (Lm Z (Gl 5 Z G [0]))
 refine Gx 1 Z (Ef j (Cn Z h (λbz h=>?_) (λbz h=>?_)))
 .exact QC 7 Z h 2 []
 refine Gc 8 Z (Bd h λca cb h=>CtE (b:=ca) [0] [1,3] Ze Ze Zf ?_ (λch env H s j=>?_))
 .refine G0 1 Z (Lp [0] [1,3] (λau=>[(4,I au)]) Ze cb Zf (Lr [0]) λau cw k J=>?_);refine G0 8 Z (QV Z k (λav k=>?_) (λav k=>?_))
  .exact Gc 2 Z (Qk k (Gx 1 Z (YC J k Z (Lr [0]))))
  refine Gc 9 Z (Bd k λcx aw k=>Iz aw Z (Go 6 Z (Bd k λL a k=>Ct L [0] [1,3,4] (λL=>[(72,.bool L)]) Ze Zf ?_ (λenv H j=>?_))))
  .refine G0 0 Z (DSs 35 Z (D 4 Z (DS.is 3 a Z Z Z (λax a=>?_) (λax a=>?_))))
   .exact D 31 Z (Eh Z (Gl 5 Z a [0]))
   .refine D 5 Z (DS.is 8 a Z Z Z (λay a=>?_) (λay a=>?_))
    .exact D 26 Z (Eh Z (Gl 5 Z a [0]))
    .refine D 5 Z (DS.is 13 a Z Z Z (λaz a=>?_) (λaz a=>?_))
     .exact D 21 Z (Eh Z (Gl 5 Z a [0]))
     .refine D 5 Z (DS.is 18 a Z Z Z (λba a=>?_) (λba a=>?_))
      .exact D 16 Z (Eh Z (Gl 5 Z a [0]))
      .refine D 2 Z ?_;refine Dz [] a (k_k _ _) Z λcy ci a=>D 3 Z (DS.is 24 a Z Z Z (λbb a=>?_) (λbb a=>?_))
       .exact D 10 Z (Eh Z (Gl 5 Z a [0]))
       .refine D 3 Z (DS.is 27 a Z Z Z (λbc a=>?_) (λbc a=>?_))
        .refine D 4 Z ?_;obtain⟨y,bd,a⟩:=Yh a;refine DS.v (x:=(.rp [I y.Mat,I y.Epoch,I y.Anchor])) (Js (e:=Segment.c) (l:=a1.Segments) (v:=y) bd runUnderlying34 sizeOf155) ?_ (hg:=(gT Z));exact D 2 Z (Eh Z (Cz [] a (k_eg _ _ _) Z λcz cj a=>Gl 4 Z a [0]))
        .exact D 7 Z (Eh Z (Gl 5 Z a [0]))
  refine Gx 1 Z (Ef j (Cn Z k (λbe k=>?_) (λbe k=>?_)))
  .refine Gc 8 Z (Qp k ?_);obtain rfl:=Oj J k;exact Gx 1 Z (Ql (Gx 1 Z (Rt h 2 [])))
  exact Gc 8 Z (Qi k (Lr [0]))
 subst s;refine Gx 1 Z (Ef j (Gc 6 Z (Bd h λbg bh h=>CtE (b:=bg) [0] [1,3] Ze Ze Zf ?_ (λcc env H s j=>?_))))
 .refine G0 1 Z (Lp [0] [1,3] (λM=>[(6,I M)]) Ze bh Zf (Lr [0]) λM ck f t=>?_);refine G0 8 Z (QV Z f (λR f=>?_) (λR f=>?_))
  .exact Gc 2 Z (Qk f (Gx 1 Z (YC t f Z (Lr [0]))))
  refine Gc 6 Z (Bd f λu m f=>Ct u [0] [1,3,6] (λu=>[(97,.bool u)]) Ze Zf ?_ (λenv H j=>?_))
  .refine G0 4 Z (Bd m λcl T m=>Iz T Z (Go 1 Z (Lg 4 Z Z (Is 87 m Z (λV m=>?_) (λV m=>?_)))))
   .exact Gl 11 Z m [0]
   .exact Go 3 Z (Bd m λcm W m=>Iz W Z (Go 2 Z (Bd m λcn X m=>Iz X Z (Gl 4 Z m [0]))))
  refine Gx 1 Z (Ef j (Cn Z f (λY f=>?_) (λY f=>?_)))
  .refine Gc 9 Z (Qp f ?_);obtain rfl:=Oj t f;exact Gx 1 Z (Ql (Gx 1 Z (Rt h 2 [])))
  refine Gc 7 Z (Bd f λbi bj f=>CtE (b:=bi) [0] [1,3,6] Ze Ze Zf ?_ (λcd env H s j=>?_))
  .refine G0 1 Z (Lp [0] [1,3,6] (λN=>[(7,I N)]) Ze bj Zf (Lr [0]) λN co g z=>?_);refine G0 8 Z (QV Z g (λaa g=>?_) (λaa g=>?_))
   .exact Gc 2 Z (Qk g (Gx 1 Z (YC z g Z (Lr [0]))))
   refine Gc 5 Z (Bd g λw i g=>Ct w [0] [1,3,6,7] (λw=>[(122,.bool w)]) Ze Zf ?_ (λenv H j=>?_))
   .refine G0 4 Z (Bd i λcp ab i=>Iz ab Z (Go 2 Z (Bd i λcq ac i=>Iz ac Z (Go 3 Z (Is 112 i Z (λad i=>?_) (λad i=>?_))))))
    .exact Gl 11 Z i [0]
    .exact Go 3 Z (Bd i λcr ae i=>Iz ae Z (Go 2 Z (Bd i λcs af i=>Iz af Z (Gl 4 Z i [0]))))
   refine Gx 1 Z (Ef j (Cn Z g (λag g=>?_) (λag g=>?_)))
   .refine Gc 8 Z (Qp g ?_);obtain rfl:=Oj z g;refine Gx 1 Z (Ql (Gx 2 Z (Qp f ?_)));obtain rfl:=Oj t f;exact Gx 1 Z (Ql (Gx 1 Z (Rt h 2 [])))
   exact Gc 8 Z (Qi g (Lr [0]))
  subst s;exact Gx 2 Z (Ef j (Gc 5 Z (Qi f (Lr [0]))))
 subst s;refine Gx 1 Z (Ef j (Gc 6 Z (Bd h λbk bl h=>Jn (b:=bk) [] [] Ze Ze Zf ?_ (λce s=>?_))))
 .refine G0 1 Z (Lp [0] [1,3] (λO=>[(8,I O)]) Ze bl Zf (Lr [0]) λO ct p B=>?_);refine G0 8 Z (QV Z p (λah p=>?_) (λah p=>?_))
  .exact Gc 2 Z (Qk p (Gx 1 Z (YC B p Z (Lr []))))
  refine Gc 9 Z (Bd p λbm bn p=>CtE (b:=bm) [0] [1,3,8] Ze Ze Zf ?_ (λcf env H s j=>?_))
  .refine G0 1 Z (Lp [0] [1,3,8] (λP=>[(9,I P)]) Ze bn Zf (Lr [0]) λP cu q E=>?_);refine G0 8 Z (QV Z q (λai q=>?_) (λai q=>?_))
   .exact Gc 2 Z (Qk q (Gx 1 Z (YC E q Z (Lr [0]))))
   refine Gc 9 Z (Bd q λbo bp q=>CtE (b:=bo) [0] [1,3,8,9] Ze Ze Zf ?_ (λcg env H s j=>?_))
   .refine G0 1 Z (Lp [0] [1,3,8,9] (λQ=>[(10,I Q)]) Ze bp Zf (Lr [0]) λQ cv d F=>?_);refine G0 8 Z (QV Z d (λaj d=>?_) (λaj d=>?_))
    .exact Gc 2 Z (Qk d (Gx 1 Z (YC F d Z (Lr [0]))))
    refine Gc 5 Z (DSs 25 Z (D 3 Z ?_));obtain⟨bq,ak,d⟩:=Yh d;refine DS.wo (x:=.rp [.rsl 1 (map (Qe .i64) bq)]) ?_ ?_
    .exact Ix ak EF EI Z Wp
    refine D 2 Z ?_;obtain⟨br,al,d⟩:=Yh d;refine DS.wo (x:=.rp [I br]) ?_ ?_
    .exact Ix al EB EC Z Wp
    refine D 4 Z ?_;obtain⟨bs,am,d⟩:=Yh d;refine DS.wo (x:=.rp [.rsl 1 (map (Qe .i64) bs)]) ?_ ?_
    .exact Ix am EF EI Z Wp
    refine D 2 Z ?_;obtain⟨bu,an,d⟩:=Yh d;refine DS.wo (x:=.rp [I bu]) ?_ ?_
    .exact Ix an EB EC Z Wp
    refine D 4 Z ?_;obtain⟨bv,ao,d⟩:=Yh d;refine DS.wo (x:=.rp [.rsl 1 (map (Qe .i64) bv)]) ?_ ?_
    .exact Ix ao EF EI Z Wp
    refine D 2 Z ?_;obtain⟨bw,aq,d⟩:=Yh d;refine DS.wo (x:=.rp [I bw]) ?_ ?_
    .exact Ix aq EB EC Z Wp
    refine D 2 Z (Eh Z (Go 3 Z (Cn Z d (λar d=>?_) (λar d=>?_))))
    .refine Gc 8 Z (Qp d ?_);obtain rfl:=Oj F d;refine Gx 1 Z (Ql (Gx 2 Z (Qp q ?_)));obtain rfl:=Oj E q;refine Gx 1 Z (Ql (Gx 2 Z (Qp p ?_)));obtain rfl:=Oj B p;exact Gx 1 Z (Ql (Gx 1 Z (Rt h 2 [])))
    exact Gc 8 Z (Qi d (Lr [0]))
   subst s;exact Gx 2 Z (Ef j (Gc 5 Z (Qi q (Lr [0]))))
  subst s;exact Gx 2 Z (Ef j (Gc 5 Z (Qi p (Lr [0]))))
 subst s;exact QC 6 Z h 2 []
def F_bq(n:Nat)(a:Int):Option Bool:=((bif decide ((-1099511627776)<=a)then some (decide (a<=1099511627776))else some false):Option Bool).bind λd=>some d
theorem k_bq(n:Nat)(e:Int):Ks (F_bq n e) 52 [I e] [] (λr=>.bool r):=by
 refine Kg 6 func52 Z Z Z Z λr h=>Bd h λd a h=>Cg d [] [] (λd=>[(2,.bool d)]) Ze Zf ?_ ?_
 .refine G0 4 Z (Is 5 a Z (λf a=>?_) (λf a=>?_))
  iterate 2 exact Gl 5 Z a []
 exact QC 1 Z h 2 []
def F_aq(n:Nat)(a:Int)(d:Int)(e:Int):Option Bool:=((bif decide (d<=a)then some (decide (a<=e))else some false):Option Bool).bind λf=>some f
theorem k_aq(n:Nat)(e:Int)(f:Int)(g:Int):Ks (F_aq n e f g) 150 [I e,I f,I g] [] (λr=>.bool r):=by
 refine Kg 6 func150 Z Z Z Z λr h=>Bd h λd a h=>Cg d [] [] (λd=>[(6,.bool d)]) Ze Zf ?_ ?_
 .refine G0 5 Z (Is 10 a Z (λi a=>?_) (λi a=>?_))
  iterate 2 exact Gl 6 Z a []
 exact QC 1 Z h 6 []
def F_cb(n:Nat)(a:Int):Option Bool:=(F_aq n a 0 255).bind λd=>some d
theorem k_cb(n:Nat)(a:Int):Ks (F_cb n a) 100 [I a] [] (λr=>.bool r):=by
 exact Kg 8 func100 Z Z Z Z λr h=>Cz [] h (k_aq _ _ _ _) Z λe d h=>Gt 4 Z h 2 []
def F_ci(n:Nat)(a:Int):Option Bool:=(F_aq n a 0 1048576).bind λd=>some d
theorem k_ci(n:Nat)(a:Int):Ks (F_ci n a) 101 [I a] [] (λr=>.bool r):=by
 exact Kg 8 func101 Z Z Z Z λr h=>Cz [] h (k_aq _ _ _ _) Z λe d h=>Gt 4 Z h 2 []
def F_ap(n:Nat)(a:Int):Option Bool:=(F_aq n a (-1099511627776) 1099511627776).bind λd=>some d
theorem k_ap(n:Nat)(a:Int):Ks (F_ap n a) 102 [I a] [] (λr=>.bool r):=by
 exact Kg 8 func102 Z Z Z Z λr h=>Cz [] h (k_aq _ _ _ _) Z λe d h=>Gt 4 Z h 2 []
def F_eu(n:Nat)(a:Hit)(d:Hit)(e:Int):Option Bool:=(bif (a.Chip != d.Chip)then some (decide (a.Chip<d.Chip))else(bif (a.Mat != d.Mat)then some (decide (a.Mat<d.Mat))else(bif (a.Epoch != d.Epoch)then some (decide (a.Epoch<d.Epoch))else some (decide (e<(i64.wrap (d.First-a.Last)))))))
theorem k_eu(n:Nat)(a:Hit)(d:Hit)(e:Int):Ks (F_eu n a d e) 103 [.agg (Hit.c a),.agg (Hit.c d),I e] [] (λr=>.bool r):=by
 refine Kg 17 func103 Z Z Z Z λr h=>Cn Z h (λf h=>?_) (λf h=>?_)
 .exact QC 12 Z h 6 []
 refine Gc 12 Z (Cn Z h (λg h=>?_) (λg h=>?_))
 .exact QC 12 Z h 6 []
 refine Gc 12 Z (Cn Z h (λi h=>?_) (λi h=>?_))
 .exact QC 12 Z h 6 []
 exact QC 15 Z h 6 []
def F_jh(n:Nat)(h:Course)(e:List Hit)(d:Int):Option (Ctl Int (Ctl Unit Int)):=(bif decide (d<(e.length:Int))then(idx e d).bind λa=>((bif decide (a.Mat<0)then some true else(bif decide ((h.Mats.length:Int)<=a.Mat)then some true else(F_cb n a.Epoch).bind λi=>(bif (!i)then some true else(F_ci n a.Chip).bind λj=>(bif (!j)then some true else(F_ap n a.First).bind λk=>(bif (!k)then some true else(F_ap n a.Last).bind λl=>(bif (!l)then some true else some (decide (a.Last<a.First)))))))):Option Bool).bind λm=>(bif m then some (.done (.done 170))else((bif decide (0<d)then(idx e (i64.wrap (d-1))).bind λf=>(F_eu n f a h.Faults.Window).bind λg=>some (!g)else some false):Option Bool).bind λp=>(bif p then some (.done (.done 170))else some (.cont (i64.wrap (d+1)))))else some (.done (.cont ())))
def F_ee(n:Nat)(d:Course)(g:List Hit):Option Int:=(F_c n d).bind λe=>(bif (e != 0)then some e else(iter (F_jh n d g) n 0:Option (Ctl Unit Int)).bind λf=>match f with|.cont a=>(some 0)|.done a=>some a)
theorem k_ee(n:Nat)(L:Course)(t:List Hit):Ks (F_ee n L t) 53 [.agg (Course.c L),.rsl 5 (map Hit.c t)] [] (λr=>I r):=by
 refine Kg 9 func53 Z Z Z Z λr h=>Cz [] h (k_c _ _) Z λr1 ab h=>Go 10 Z (Cn Z h (λM h=>?_) (λM h=>?_))
 .exact QC 8 Z h 4 []
 refine Gc 8 Z (Bd h λN O h=>Jn (b:=N) [] [] Ze Ze Zf ?_ (λT P=>?_))
 .refine G0 1 Z (Lp [0] [1,2] (λs=>[(6,I s)]) Ze O Zf (Lr [0]) λs ac d i=>?_);refine G0 5 Z (Lg 3 Z Z (QV Z d (λu d=>?_) (λu d=>?_)))
  .exact Gc 2 Z (Qk d (Gx 1 Z (YC i d Z (Lr []))))
  refine Gc 8 Z (Bd d λad w d=>Iz w Z (Go 7 Z (Bd d λj a d=>Ct j [0,1] [1,2,6,7] (λj=>[(64,.bool j)]) Ze Zf ?_ (λenv H Q=>?_))))
  .refine G0 5 Z (Is 26 a Z (λy a=>?_) (λy a=>?_))
   .exact Gl 39 Z a [0,1]
   .refine Go 4 Z (Lg 3 Z Z (Is 34 a Z (λz a=>?_) (λz a=>?_)))
    .exact Gl 31 Z a [0,1]
    .refine Go 2 Z (Cz [] a (k_cb _ _) Z λae V a=>Go 3 Z (Is 40 a Z (λB a=>?_) (λB a=>?_)))
     .exact Gl 25 Z a [0,1]
     .refine Go 2 Z (Cz [] a (k_ci _ _) Z λaf W a=>Go 3 Z (Is 46 a Z (λE a=>?_) (λE a=>?_)))
      .exact Gl 19 Z a [0,1]
      .refine Go 2 Z (Cz [] a (k_ap _ _) Z λag X a=>Go 3 Z (Is 52 a Z (λF a=>?_) (λF a=>?_)))
       .exact Gl 13 Z a [0,1]
       .refine Go 2 Z (Cz [] a (k_ap _ _) Z λah Y a=>Go 3 Z (Is 58 a Z (λG a=>?_) (λG a=>?_)))
        iterate 2 exact Gl 7 Z a [0,1]
  refine Gx 1 Z (Ef Q (Cn Z d (λJ d=>?_) (λJ d=>?_)))
  .refine Gc 9 Z (Qp d ?_);obtain rfl:=Oj i d;exact Gx 1 Z (Ql (Gx 1 Z (Rt h 4 [])))
  refine Gc 3 Z (Bd d λk f d=>Cg k [0] [1,2,6] (λk=>[(79,.bool k)]) Ze Zf ?_ ?_)
  .refine G0 0 Z (DSs 12 Z (D 3 Z (DS.is 2 f Z Z Z (λm f=>?_) (λm f=>?_))))
   .refine D 3 Z ?_;obtain⟨g,p,f⟩:=Yh f;refine DS.v (x:=(.rp [I g.Mat,I g.Epoch,I g.Chip,I g.First,I g.Last])) (Js (e:=Hit.c) (l:=t) (v:=g) p EJ EW) ?_ (hg:=(gT Z));exact D 5 Z (Eh Z (Cz [] f (k_eu _ _ _ _) Z λaa R f=>Gl 3 Z f [0]))
   .exact D 9 Z (Eh Z (Gl 4 Z f [0]))
  refine Cn Z d (λq d=>?_) (λq d=>?_)
  .refine Gc 8 Z (Qp d ?_);obtain rfl:=Oj i d;exact Gx 1 Z (Ql (Gx 1 Z (Rt h 4 [])))
  exact Gc 8 Z (Qi d (Lr [0]))
 subst P;exact QC 6 Z h 4 []
def F_ah(n:Nat)(a:Course)(d:Int):Option Bool:=(idx a.Mats d).bind λe=>some (e.Kind==1)
theorem k_ah(n:Nat)(a:Course)(d:Int):Ks (F_ah n a d) 54 [.agg (Course.c a),I d] [] (λr=>.bool r):=by
 exact Kg 11 func54 Z Z Z Z λr h=>Bd h λf e h=>Iz e Z (Gt 7 Z h 4 [])
def F_fj(n:Nat)(d:List Segment)(h:Int)(i:Int)(a:Int):Option (Ctl Int (Ctl Unit Int)):=(bif decide (a<(d.length:Int))then((idx d a).bind λe=>(bif (e.Mat==h)then(idx d a).bind λf=>some (f.Epoch==i)else some false):Option Bool).bind λg=>(bif g then some (.done (.done (i64.wrap (a+1))))else some (.cont (i64.wrap (a+1))))else some (.done (.cont ())))
def F_by(n:Nat)(e:List Segment)(f:Int)(g:Int):Option Int:=(iter (F_fj n e f g) n 0:Option (Ctl Unit Int)).bind λd=>match d with|.cont a=>(some 0)|.done a=>some a
theorem k_by(n:Nat)(p:List Segment)(q:Int)(s:Int):Ks (F_by n p q s) 55 [.rsl 3 (map Segment.c p),I q,I s] [] (λr=>I r):=by
 refine Kg 11 func55 Z Z Z Z λr h=>Bd h λt u h=>Jn (b:=t) [] [] Ze Ze Zf ?_ (λx w=>?_)
 .refine G0 1 Z (Lp [] [0,1,2] (λg=>[(7,I g)]) Ze u Zf (Lr []) λg y a e=>?_);refine G0 5 Z (Lg 3 Z Z (QV Z a (λi a=>?_) (λi a=>?_)))
  .exact Gc 2 Z (Qk a (Gx 1 Z (YC e a Z (Lr []))))
  refine Gc 5 Z (Bd a λf d a=>Cg f [] [0,1,2,7] (λf=>[(29,.bool f)]) Ze Zf ?_ ?_)
  .refine G0 3 Z (Bd d λz j d=>Iz j Z (Go 5 Z (Is 21 d Z (λk d=>?_) (λk d=>?_))))
   .exact Go 2 Z (Bd d λB l d=>Iz l Z (Gl 6 Z d []))
   .exact Gl 9 Z d []
  refine Cn Z a (λm a=>?_) (λm a=>?_)
  .refine Gc 10 Z (Qp a ?_);obtain rfl:=Oj e a;exact Gx 1 Z (Ql (Gx 1 Z (Rt h 6 [])))
  exact Gc 8 Z (Qi a (Lr []))
 subst w;exact QC 6 Z h 6 []
def F_hz(n:Nat)(e:List Hand)(d:Int):Option (Ctl Int (Ctl Unit Int)):=(bif decide (d<(e.length:Int))then(idx e d).bind λa=>((bif decide (a.Hi<a.Lo)then some true else(F_bq n a.Lo).bind λf=>(bif (!f)then some true else(F_bq n a.Hi).bind λg=>(bif (!g)then some true else some (decide (a.Position<0))))):Option Bool).bind λh=>(bif h then some (.done (.done 1))else some (.cont (i64.wrap (d+1))))else some (.done (.cont ())))
def F_io(n:Nat)(k:Course)(l:Clocks)(d:List Hit)(a:Int):Option (Ctl Int (Ctl Unit Int)):=(bif decide (a<(d.length:Int))then((idx d a).bind λe=>(F_ah n k e.Mat).bind λf=>(bif (!f)then(idx d a).bind λg=>(idx d a).bind λh=>(F_by n l.Segments g.Mat h.Epoch).bind λi=>some (i==0)else some false):Option Bool).bind λj=>(bif j then some (.done (.done 170))else some (.cont (i64.wrap (a+1))))else some (.done (.cont ())))
def F_dg(n:Nat)(d:Course)(j:Clocks)(e:Starter)(s:Int)(k:List Hit)(t:List Hand):Option Int:=(F_c n d).bind λl=>((bif (l==0)then(F_be n j).bind λu=>some u else some l):Option Int).bind λm=>(bif (m != 0)then some m else((bif decide (e.Distance<0)then some true else(bif decide ((d.Distances.length:Int)<=e.Distance)then some true else(bif decide (e.Wave<0)then some true else some (decide ((d.Waves.length:Int)<=e.Wave))))):Option Bool).bind λp=>(bif p then some 1 else(iter (F_hz n t) n 0:Option (Ctl Unit Int)).bind λq=>match q with|.cont f=>((F_ac n d e.Distance s).bind λg=>((bif (g.2==0)then(F_ee n d k).bind λr=>some r else some g.2):Option Int).bind λh=>(bif (h != 0)then some h else(iter (F_io n d j k) n 0:Option (Ctl Unit Int)).bind λi=>match i with|.cont a=>(some 0)|.done a=>some a))|.done f=>some f))
theorem k_dg(n:Nat)(a1:Course)(a2:Clocks)(a3:Starter)(a4:Int)(G:List Hit)(a6:List Hand):Ks (F_dg n a1 a2 a3 a4 G a6) 24 [.agg (Course.c a1),.agg (Clocks.c a2),.agg (Starter.c a3),I a4,.rsl 5 (map Hit.c G),.rsl 4 (map Hand.c a6)] [] (λr=>I r):=by
 refine Kg 11 func24 Z Z Z Z λr h=>Cz [] h (k_c _ _) Z λr1 bb h=>Go 10 Z (Bd h λR s h=>Ct R [0,1,2] [3,4,5,6,7,8] (λR=>[(13,I R)]) Ze Zf ?_ (λenv H j=>?_))
 .refine G0 0 Z (Cn Z s (λaj s=>?_) (λaj s=>?_))
  .exact Gc 2 Z (Cz [] s (k_be _ _) Z λr7 bc s=>Gl 2 Z s [0,1,2])
  exact YJ 1 Z s [0,1,2]
 refine Gx 1 Z (Ef j (Gc 7 Z (Cn Z h (λak h=>?_) (λak h=>?_))))
 .exact QC 8 Z h 12 []
 refine Gc 4 Z (Bd h λw i h=>Ct w [0,1,2] [3,4,5,6,7,8] (λw=>[(49,.bool w)]) Ze Zf ?_ (λenv H j=>?_))
 .refine G0 5 Z (Is 29 i Z (λT i=>?_) (λT i=>?_))
  .exact Gl 21 Z i [0,1,2]
  .refine Go 4 Z (Lg 3 Z Z (Is 37 i Z (λV i=>?_) (λV i=>?_)))
   .exact Gl 13 Z i [0,1,2]
   .refine Go 5 Z (Is 42 i Z (λW i=>?_) (λW i=>?_))
    .exact Gl 8 Z i [0,1,2]
    .exact Go 4 Z (Lm Z (Gl 3 Z i [0,1,2]))
 refine Gx 1 Z (Ef j (Cn Z h (λX h=>?_) (λX h=>?_)))
 .exact QC 7 Z h 12 []
 refine Gc 8 Z (Bd h λal am h=>CtE (b:=al) [0,1,2] [3,4,6,7,8] Ze Ze Zf ?_ (λar env H y j=>?_))
 .refine G0 1 Z (Lp [0,1,2] [3,4,5,6,7,8] (λQ=>[(14,I Q)]) Ze am Zf (Lr [0,1,2]) λQ bd g z=>?_);refine G0 5 Z (Lg 3 Z Z (QV Z g (λY g=>?_) (λY g=>?_)))
  .exact Gc 2 Z (Qk g (Gx 1 Z (YC z g Z (Lr [0,1,2]))))
  refine Gc 8 Z (Bd g λbe aa g=>Iz aa Z (Go 6 Z (Bd g λB f g=>Ct B [0,1,2] [3,4,5,6,7,8,14] (λB=>[(81,.bool B)]) Ze Zf ?_ (λenv H j=>?_))))
  .refine G0 7 Z (Is 65 f Z (λab f=>?_) (λab f=>?_))
   .exact Gl 17 Z f [0,1,2]
   .refine Go 2 Z (Cz [] f (k_bq _ _) Z λbg au f=>Go 3 Z (Is 71 f Z (λac f=>?_) (λac f=>?_)))
    .exact Gl 11 Z f [0,1,2]
    .refine Go 2 Z (Cz [] f (k_bq _ _) Z λbh av f=>Go 3 Z (Is 77 f Z (λad f=>?_) (λad f=>?_)))
     iterate 2 exact Gl 5 Z f [0,1,2]
  refine Gx 1 Z (Ef j (Cn Z g (λae g=>?_) (λae g=>?_)))
  .refine Gc 8 Z (Qp g ?_);obtain rfl:=Oj z g;exact Gx 1 Z (Ql (Gx 1 Z (Rt h 12 [])))
  exact Gc 8 Z (Qi g (Lr [0,1,2]))
 subst y;refine Gx 1 Z (Ef j (Gc 6 Z (Cd [] h (k_ac _ _ _ _) Z λbi aw h=>Fg 13 Z Z (Bd h λE p h=>Ct E [0,1] [4,6,7] (λE=>[(13,I E)]) Ze Zf ?_ (λenv H j=>?_)))))
 .refine G0 0 Z (Cn Z p (λaf p=>?_) (λaf p=>?_))
  .exact Gc 3 Z (Cz [] p (k_ee _ _ _) Z λbj ax p=>Gl 2 Z p [0,1])
  exact YJ 1 Z p [0,1]
 refine Gx 1 Z (Ef j (Gc 7 Z (Cn Z h (λag h=>?_) (λag h=>?_))))
 .exact QC 8 Z h 12 []
 refine Gc 8 Z (Bd h λah ai h=>Jn (b:=ah) [] [] Ze Ze Zf ?_ (λan y=>?_))
 .refine G0 1 Z (Lp [0,1] [4,6,7] (λF=>[(16,I F)]) Ze ai Zf (Lr [0,1]) λF ay d u=>?_);refine G0 5 Z (Lg 3 Z Z (QV Z d (λJ d=>?_) (λJ d=>?_)))
  .exact Gc 2 Z (Qk d (Gx 1 Z (YC u d Z (Lr []))))
  refine Gc 5 Z (Bd d λt a d=>Cg t [0,1] [4,6,7,16] (λt=>[(127,.bool t)]) Ze Zf ?_ ?_)
  .refine G0 0 Z (DSs 21 Z (D 3 Z ?_));obtain⟨q,L,a⟩:=Yh a;refine DS.wo (x:=.rp [I q.Mat,I q.Epoch,I q.Chip,I q.First,I q.Last]) ?_ ?_
   .exact Ix L EJ EW Z Wp
   refine D 2 Z ?_;refine Dz [] a (k_ah _ _ _) Z λaz ao a=>D 2 Z (DS.is 8 a Z Z Z (λM a=>?_) (λM a=>?_))
   .refine D 4 Z ?_;obtain⟨k,N,a⟩:=Yh a;refine DS.v (x:=(.rp [I k.Mat,I k.Epoch,I k.Chip,I k.First,I k.Last])) (Js (e:=Hit.c) (l:=G) (v:=k) N EJ EW) ?_ (hg:=(gT Z));refine D 4 Z ?_;obtain⟨m,O,a⟩:=Yh a;refine DS.v (x:=(.rp [I m.Mat,I m.Epoch,I m.Chip,I m.First,I m.Last])) (Js (e:=Hit.c) (l:=G) (v:=m) O EJ EW) ?_ (hg:=(gT Z));exact D 2 Z (Eh Z (Cz [] a (k_by _ _ _ _) Z λba aq a=>Gl 3 Z a [0,1]))
   .exact D 12 Z (Eh Z (Gl 4 Z a [0,1]))
  refine Cn Z d (λP d=>?_) (λP d=>?_)
  .refine Gc 8 Z (Qp d ?_);obtain rfl:=Oj u d;exact Gx 1 Z (Ql (Gx 1 Z (Rt h 12 [])))
  exact Gc 8 Z (Qi d (Lr [0,1]))
 subst y;exact QC 6 Z h 12 []
def F_ge(n:Nat)(d:Course)(i:Int)(j:Int)(a:Int):Option (Ctl Int (Ctl Unit Leg)):=(bif decide (a<(d.Legs.length:Int))then((idx d.Legs a).bind λe=>(bif (e.From==i)then(idx d.Legs a).bind λf=>some (f.To==j)else some false):Option Bool).bind λg=>(bif g then(idx d.Legs a).bind λh=>some (.done (.done h))else some (.cont (i64.wrap (a+1))))else some (.done (.cont ())))
def F_cn(n:Nat)(e:Course)(f:Int)(g:Int):Option Leg:=(iter (F_ge n e f g) n 0:Option (Ctl Unit Leg)).bind λd=>match d with|.cont a=>(some Us)|.done a=>some a
theorem k_cn(n:Nat)(q:Course)(s:Int)(t:Int):Kq (F_cn n q s t) 151 [.agg (Course.c q),I s,I t] [] (λr=>.agg (Leg.c r)) (λr=>[.cells 110 (Leg.c r)]):=by
 refine Kg 12 func151 Z Z Z Z λr h=>Bd h λu w h=>Jn (b:=u) [1] [6] Ze Ze Zf ?_ (λy x=>?_)
 .refine G0 1 Z (Lp [0,1] [1,2,3,6] (λg=>[(7,I g)]) Ze w Zf (Lr [0,1]) λg z a e=>?_);refine G0 6 Z (Lg 3 Z Z (QV Z a (λi a=>?_) (λi a=>?_)))
  .exact Gc 2 Z (Qk a (Gx 1 Z (YC e a Z (Lr [1]))))
  refine Gc 5 Z (Bd a λf d a=>Cg f [0,1] [1,2,3,6,7] (λf=>[(32,.bool f)]) Ze Zf ?_ ?_)
  .refine G0 4 Z (Bd d λB j d=>Iz j Z (Go 5 Z (Is 23 d Z (λk d=>?_) (λk d=>?_))))
   .exact Go 3 Z (Bd d λE l d=>Iz l Z (Gl 6 Z d [0,1]))
   .exact Gl 10 Z d [0,1]
  refine Cn Z a (λm a=>?_) (λm a=>?_)
  .refine Gc 5 Z (Bd a λF p a=>Iz p Z (Go 7 Z (Qp a ?_)));obtain rfl:=Oj e a;refine Gx 1 Z (Ql (Gx 1 Z ?_));obtain rfl:=Oi h;exact Rx [1] [6] Z (QL Z (Qf isAgg110 E3 Z Z Z)) ⟨Z,Z⟩
  exact Gc 8 Z (Qi a (Lr [0,1]))
 subst x;refine Gc 7 Z ?_;obtain rfl:=Oi h;exact Rx [0] [6] Z (QL Z (Qf isAgg110 E3 Z Z Z)) ⟨Z,Z⟩
def F_jx(n:Nat)(h:Course)(e:List Int)(i:Int)(a:Span×Int):Option (Ctl (Span×Int) Span):=(bif decide (a.2<i)then(idx e a.2).bind λf=>(idx e (i64.wrap (a.2+1))).bind λg=>(F_cn n h f g).bind λd=>some (.cont ({Lo:=(if i64.wrap (a.1.Lo+d.Min)<2199023255552 then i64.wrap (a.1.Lo+d.Min)else 2199023255552),Hi:=(if i64.wrap (a.1.Hi+d.Max)<2199023255552 then i64.wrap (a.1.Hi+d.Max)else 2199023255552):Span},i64.wrap (a.2+1)))else some (.done ({Lo:=a.1.Lo,Hi:=a.1.Hi:Span})))
def F_dl(n:Nat)(d:Course)(e:List Int)(f:Int)(g:Int):Option Span:=(iter (F_jx n d e g) n ({Lo:=0,Hi:=0:Span},f):Option Span).bind λa=>some ({Lo:=a.Lo,Hi:=a.Hi:Span})
theorem k_dl(n:Nat)(f:Course)(l:List Int)(t:Int)(u:Int):Kq (F_dl n f l t u) 104 [.agg (Course.c f),.rsl 1 (map (Qe .i64) l),I t,I u] [] (λr=>.agg [I r.Lo,I r.Hi]) (λr=>[.cells 55 [I r.Lo,I r.Hi]]):=by
 refine Kg 20 func104 Z Z Z Z λr h=>Bd h λg w h=>Cg g [1,2] [8,9] Ze (λg=>[(1,.cells 55 [I g.Lo,I g.Hi])]) Zf ?_ ?_
 .refine G0 1 Z (Lp [0,1,2] [1,3,4,8,9] (λa=>[(10,I a.2)]) (λa=>[(2,.cells 55 [I a.1.Lo,I a.1.Hi])]) w Zf (Lr [0,1,2]) λa x d q=>?_);refine G0 8 Z (QV Z d (λs d=>?_) (λs d=>?_))
  .exact Gc 2 Z (Qk d (Gx 1 Z (cQo q d (Lr [1,2]))))
  refine Gc 5 Z ?_;obtain⟨m,i,d⟩:=Yh d;obtain⟨p,j,d⟩:=Yh d;obtain⟨e,k,d⟩:=Yh d;refine QY 12 1 [19,20,21,22,23,24,25,26,27,28,29,11] [false,false,false,false,false,false,false,false,false,false,true,true] [[],[],[],[],[],[],[],[],[],[],[],[]] [[],[10],[11],[10,11]] [[(0,0),(2,2)],[(0,0),(2,2)],[(0,0),(2,2)],[(0,0),(2,2)],[(0,0),(2,2)],[(0,0),(2,2)],[(0,0),(2,2)],[(0,0),(2,2)],[(0,0),(2,2)],[(0,0),(2,2)],[(0,1),(2,3)],[(0,2),(1,3)]] [.agg (Course.c f),.rsl 1 (map (Qe .i64) l),I a.2,.rp [I m],I m,.rsl 1 (map (Qe .i64) l),I a.2,I (i64.wrap (a.2+1)),.rp [I p],I p,.agg (Leg.c e),.ptr 3 0] [[.cells 33 (Course.c f),.cells 55 [I 0,I 0],.cells 55 [I a.1.Lo,I a.1.Hi],.dead],[.cells 33 (Course.c f),.cells 55 [I 0,I 0],.cells 55 [I a.1.Lo,I a.1.Hi],.dead,.cells 110 (Leg.c e)],[.cells 33 (Course.c f),.cells 55 [I 0,I 0],.cells 55 [I a.1.Lo,I a.1.Hi],.cells 110 (Leg.c Us)],[.cells 33 (Course.c f),.cells 55 [I 0,I 0],.cells 55 [I a.1.Lo,I a.1.Hi],.cells 110 (Leg.c Us),.cells 110 (Leg.c e)]] ([.cells 33 (Course.c f),.cells 55 [I 0,I 0],.cells 55 [I a.1.Lo,I a.1.Hi],.cells 110 (Leg.c Us),.cells 110 (Leg.c e)]) draws Z Z Z Z Z Z Z ?_ Z ?_
  .refine Qgr.cons (Qb (v0 Z Z) (Qb (v0 Z Z) (Qc))) (Qgr.cons (Qb (v0 Z Z) (Qb (v0 Z Z) (Qc))) (Qgr.cons (Qb (v0 Z Z) (Qb (v0 Z Z) (Qc))) (Qgr.cons ?_ (Qgr.cons (Qb (v0 Z Z) (Qb (v0 Z Z) (Qc))) (Qgr.cons (Qb (v0 Z Z) (Qb (v0 Z Z) (Qc))) (Qgr.cons (Qb (v0 Z Z) (Qb (v0 Z Z) (Qc))) (Qgr.cons ?_ (Qgr.cons ?_ (Qgr.cons (Qb (v0 Z Z) (Qb (v0 Z Z) (Qc))) (Qgr.cons ?_ (Qgr.cons ?_ (Qgr.nil))))))))))))
   .refine Qb ?_ (Qb ?_ (Qc))
    iterate 2 refine Om Z (sD 1 (sD 2 sN)) ?_;exact Ix i EB EC Z Wp
   .refine Qb ?_ (Qb ?_ (Qc))
    iterate 2 refine Om Z (sD 6 sN) ?_;exact S Z Wp
   .refine Qb ?_ (Qb ?_ (Qc))
    iterate 2 refine Om Z (sD 5 (sD 7 sN)) ?_;exact Ix j EB EC Z Wp
   .refine Qb ?_ (Qb ?_ (Qc))
    iterate 2 refine Om1 Z (sD 0 (sD 4 (sD 9 sN))) ?_;refine Qy [] (OpC.fn call151 Z Z Z) (k_cn _ _ _ _ _ k) ?_;rintro _ _ ⟨rfl,rfl⟩;exact FE Z Wp
   .refine Qb ?_ (Qb ?_ (Qc))
    iterate 2 exact Jm.alloc _ 11 110 3 _ Z Z Z Z Z Z Z (OpZ.alloc (v:=(.agg [I 0,I 0,I 0,I 0])) Gq (zrC Z)) Z
  refine Go 10 Z ?_;refine vX (I (if i64.wrap (a.1.Lo+e.Min)<2199023255552 then i64.wrap (a.1.Lo+e.Min)else 2199023255552)) (OpV.min Z Z Z Z) ?_;refine Go 10 Z ?_;refine vX (I (if i64.wrap (a.1.Hi+e.Max)<2199023255552 then i64.wrap (a.1.Hi+e.Max)else 2199023255552)) (OpV.min Z Z Z Z) ?_;exact Go 10 Z (Qi d (Lr [0,1,2]))
 refine Gc 7 Z ?_;obtain rfl:=Oi h;exact Rx [0] [8] Z (QL Z (Qf EG ED Z Z Z)) ⟨Z,Z⟩
def F_dv(n:Nat)(g:Course)(h:Int)(i:Int)(e:Int)(f:Int):Option (Span×Int):=(F_ac n g h i).bind λa=>(bif (a.2 != 0)then some ({Lo:=0,Hi:=0:Span},a.2)else((bif decide (e<0)then some true else(bif decide (f<e)then some true else some (decide ((a.1.length:Int)<=f)))):Option Bool).bind λj=>(bif j then some ({Lo:=0,Hi:=0:Span},90)else(F_dl n g a.1 e f).bind λd=>some ({Lo:=d.Lo,Hi:=d.Hi:Span},0)))
theorem k_dv(n:Nat)(e:Course)(f:Int)(g:Int)(i:Int)(j:Int):Kq (F_dv n e f g i j) 56 [.agg (Course.c e),I f,I g,I i,I j] [] (λr=>.tup [.agg [I r.1.Lo,I r.1.Hi],I r.2]) (λr=>[.cells 55 [I r.1.Lo,I r.1.Hi]]):=by
 refine Kg 12 func56 Z Z Z Z λr h=>Cd [] h (k_ac _ _ _ _) Z λu s h=>Fg 14 Z Z (Cn Z h (λk h=>?_) (λk h=>?_))
 .refine Gc 10 Z ?_;obtain rfl:=Oi h;exact Rx [1] [10,11] Z (Qg Z Z (Qif.cons (Qf EG ED Z Z Z) (Qif.cons QcX.tmp Qif.nil))) ⟨Z,Z⟩
 refine Gc 4 Z (Bd h λd a h=>Cg d [0,1,2] [3,4,5,10,12] (λd=>[(37,.bool d)]) Ze Zf ?_ ?_)
 .refine G0 4 Z (Is 27 a Z (λl a=>?_) (λl a=>?_))
  .exact Gl 11 Z a [0,1,2]
  .refine Go 5 Z (Is 32 a Z (λm a=>?_) (λm a=>?_))
   iterate 2 exact Gl 6 Z a [0,1,2]
 refine Cn Z h (λp h=>?_) (λp h=>?_)
 .refine Gc 9 Z ?_;obtain rfl:=Oi h;exact Rx [1] [10,11] Z (Qg Z Z (Qif.cons (Qf EG ED Z Z Z) (Qif.cons QcX.tmp Qif.nil))) ⟨Z,Z⟩
 refine Gc 8 Z ?_;refine Eu (YF [(12,_),(40,_)] Z Z (QlR.cons Z Er (QlR.cons Z Er QlR.nil)) (Ec (Ec (Ec (Q2 _))))) ?_;refine Cd [] h (k_dl _ _ _ _ _) Z λt q h=>Fg 5 Z Z ?_;obtain rfl:=Oi h;exact Rx [1] [10,11] Z (Qg Z Z (Qif.cons (Qf EG ED Z Z Z) (Qif.cons QcX.tmp Qif.nil))) ⟨Z,Z⟩
def F_hi(n:Nat)(g:Course)(h:Starter)(i:Int)(j:(List Int)×Int)(d:(List (List Span))×Int)(a:(List Span)×Int):Option (Ctl ((List Span)×Int) (List Span)):=(bif decide (a.2<(j.1.length:Int))then(F_dv n g h.Distance i (if a.2<d.2 then a.2 else d.2) (if d.2<a.2 then a.2 else d.2)).bind λe=>(app a.1 [{Lo:=e.1.Lo,Hi:=e.1.Hi:Span}]).bind λf=>some (.cont (f,i64.wrap (a.2+1)))else some (.done a.1))
def F_kc(n:Nat)(g:Course)(h:Starter)(i:Int)(d:(List Int)×Int)(a:(List (List Span))×Int):Option (Ctl ((List (List Span))×Int) (List (List Span))):=(bif decide (a.2<(d.1.length:Int))then(iter (F_hi n g h i d a) n (([]:List Span),0):Option (List Span)).bind λe=>(app a.1 [e]).bind λf=>some (.cont (f,i64.wrap (a.2+1)))else some (.done a.1))
def F_bx(n:Nat)(a:Course)(h:Clocks)(d:Starter)(e:Int)(i:List Hit)(j:List Hand):Option ((List Int)×(List (List Span))):=(F_ac n a d.Distance e).bind λf=>(iter (F_kc n a d e f) n ([],0):Option (List (List Span))).bind λg=>some (f.1,g)
theorem k_bx(n:Nat)(a:Course)(l:Clocks)(H:Starter)(J:Int)(q:List Hit)(s:List Hand):Kq (F_bx n a l H J q s) 25 [.agg (Course.c a),.agg (Clocks.c l),.agg (Starter.c H),I J,.rsl 5 (map Hit.c q),.rsl 4 (map Hand.c s)] [] (λr=>.agg [.str a.Name,.rsl 2 (map Mat.c a.Mats),.rsl 4 (map Leg.c a.Legs),.rsl 5 (map Distance.c a.Distances),.rsl 2 (map Wave.c a.Waves),.rsl 4 (map Offence.c a.Offences),.rsl 3 (map Category.c a.Categories),.rsl 4 (map Prize.c a.Prizes),.rsl 8 (map Step.enc a.Ties),I a.Faults.Misses,I a.Faults.Strays,I a.Faults.Window,I a.Faults.Residual,I a.Faults.Drift,I a.Fee,I a.Deadline,.rsl 3 (map Segment.c l.Segments),.rsl 1 (map (QN 1 (Qe .i64)) l.Far),.rsl 5 (map Hit.c q),.rsl 4 (map Hand.c s),.osl 0 0 r.1.length 1,.osl 1 0 r.2.length 1]) (λr=>[.row 3 1 (map (Qe .i64) r.1),.row 94 1 (map (QN 2 Span.c) r.2),.cells 80 [.str a.Name,.rsl 2 (map Mat.c a.Mats),.rsl 4 (map Leg.c a.Legs),.rsl 5 (map Distance.c a.Distances),.rsl 2 (map Wave.c a.Waves),.rsl 4 (map Offence.c a.Offences),.rsl 3 (map Category.c a.Categories),.rsl 4 (map Prize.c a.Prizes),.rsl 8 (map Step.enc a.Ties),I a.Faults.Misses,I a.Faults.Strays,I a.Faults.Window,I a.Faults.Residual,I a.Faults.Drift,I a.Fee,I a.Deadline,.rsl 3 (map Segment.c l.Segments),.rsl 1 (map (QN 1 (Qe .i64)) l.Far),.rsl 5 (map Hit.c q),.rsl 4 (map Hand.c s),.osl 0 0 r.1.length 1,.osl 1 0 r.2.length 1]]):=by
 refine Kg 14 func25 Z Z Z Z λr h=>?_;refine vX (.agg [.str a.Name,.rsl 2 (map Mat.c a.Mats),.rsl 4 (map Leg.c a.Legs),.rsl 5 (map Distance.c a.Distances),.rsl 2 (map Wave.c a.Waves),.rsl 4 (map Offence.c a.Offences),.rsl 3 (map Category.c a.Categories),.rsl 4 (map Prize.c a.Prizes),.rsl 8 (map Step.enc a.Ties),I a.Faults.Misses,I a.Faults.Strays,I a.Faults.Window,I a.Faults.Residual,I a.Faults.Drift,I a.Fee,I a.Deadline,.rsl 3 (map Segment.c l.Segments),.rsl 1 (map (QN 1 (Qe .i64)) l.Far),.rsl 5 (map Hit.c q),.rsl 4 (map Hand.c s),.rsl 1 (map (Qe .i64) []),.nils]) (OpV.build (zs:=[.str [],.rsl 2 (map Mat.c []),.rsl 4 (map Leg.c []),.rsl 5 (map Distance.c []),.rsl 2 (map Wave.c []),.rsl 4 (map Offence.c []),.rsl 3 (map Category.c []),.rsl 4 (map Prize.c []),.rsl 8 (map Step.enc []),I 0,I 0,I 0,I 0,I 0,I 0,I 0,.rsl 3 (map Segment.c []),.rsl 1 (map (QN 1 (Qe .i64)) []),.rsl 5 (map Hit.c []),.rsl 4 (map Hand.c []),.rsl 1 (map (Qe .i64) []),.nils]) zeroValue80 (zrC Z) pl_80) ?_;refine vH (Qag (v:=(.agg [.str [],.rsl 2 (map Mat.c []),.rsl 4 (map Leg.c []),.rsl 5 (map Distance.c []),.rsl 2 (map Wave.c []),.rsl 4 (map Offence.c []),.rsl 3 (map Category.c []),.rsl 4 (map Prize.c []),.rsl 8 (map Step.enc []),I 0,I 0,I 0,I 0,I 0,I 0,I 0,.rsl 3 (map Segment.c []),.rsl 1 (map (QN 1 (Qe .i64)) []),.rsl 5 (map Hit.c []),.rsl 4 (map Hand.c []),.rsl 1 (map (Qe .i64) []),.nils])) zeroValue80 (zrC Z)) ?_;refine Fg 9 Z Z (Cd [] h (k_ac _ _ _ _) Z λx O h=>Fg 13 Z Z (Bd h λu L h=>Cg u [2,3,4,5] [] (λ_=>[(12,.ptr 0 0),(13,.ptr 1 0)]) (λu=>[(0,.cells 80 (stopwatchref19_input.cells z_stopwatchref19_input)),(1,.cells 80 [.str a.Name,.rsl 2 (map Mat.c a.Mats),.rsl 4 (map Leg.c a.Legs),.rsl 5 (map Distance.c a.Distances),.rsl 2 (map Wave.c a.Waves),.rsl 4 (map Offence.c a.Offences),.rsl 3 (map Category.c a.Categories),.rsl 4 (map Prize.c a.Prizes),.rsl 8 (map Step.enc a.Ties),I a.Faults.Misses,I a.Faults.Strays,I a.Faults.Window,I a.Faults.Residual,I a.Faults.Drift,I a.Fee,I a.Deadline,.rsl 3 (map Segment.c l.Segments),.rsl 1 (map (QN 1 (Qe .i64)) l.Far),.rsl 5 (map Hit.c q),.rsl 4 (map Hand.c s),.osl 2 0 x.1.length 1,.osl 3 0 u.length 1]),(2,.row 3 1 (map (Qe .i64) x.1)),(3,.row 94 1 (map (QN 2 Span.c) u))]) Zf ?_ ?_))
 .refine G0 1 Z (Lp [0,2,3,4,5,0] [3,6,8,12,13] (λg=>[(14,I g.2)]) (λg=>[(3,.cells 80 [.str a.Name,.rsl 2 (map Mat.c a.Mats),.rsl 4 (map Leg.c a.Legs),.rsl 5 (map Distance.c a.Distances),.rsl 2 (map Wave.c a.Waves),.rsl 4 (map Offence.c a.Offences),.rsl 3 (map Category.c a.Categories),.rsl 4 (map Prize.c a.Prizes),.rsl 8 (map Step.enc a.Ties),I a.Faults.Misses,I a.Faults.Strays,I a.Faults.Window,I a.Faults.Residual,I a.Faults.Drift,I a.Fee,I a.Deadline,.rsl 3 (map Segment.c l.Segments),.rsl 1 (map (QN 1 (Qe .i64)) l.Far),.rsl 5 (map Hit.c q),.rsl 4 (map Hand.c s),.osl 4 0 x.1.length 1,.osl 5 0 g.1.length 1]),(5,.row 94 1 (map (QN 2 Span.c) g.1))]) L Zf ?_ ?_)
  .refine Eo (YK (i:=4) (m:=21) (t:=94) (k:=1) Z Z Z) ?_;exact Lr [0,2,3,4,5,6]
  intro g P d y;refine G0 10 Z (QV Z d (λz d=>?_) (λz d=>?_))
  .exact Gc 2 Z (Qk d (Gx 1 Z (cQo y d (Lr [2,3,4,5]))))
  refine Gc 6 Z (vH (El (xs:=[]) (es:=map Span.c []) Qhm Z Z Z Z Z trivial Z Z) ?_);refine Fg 9 Z Z (Bd d λp M d=>Cg p [0,1,2,3,4,5,6] [3,6,8,12,13,14] (λp=>[(15,.osl 6 0 p.length 2)]) (λp=>[(6,.row 55 2 (map Span.c p))]) Zf ?_ ?_)
  .refine G0 1 Z (Lp [0,1,2,3,4,5,6] [3,6,8,12,13,14] (λj=>[(15,.osl 6 0 j.1.length 2),(16,I j.2)]) (λj=>[(6,.row 55 2 (map Span.c j.1))]) M Zf (Lr [0,1,2,3,4,5,6]) λj Q f B=>?_);refine G0 10 Z (QV Z f (λE f=>?_) (λE f=>?_))
   .exact Gc 2 Z (Qk f (Gx 1 Z (cQo B f (Lr [0,1,2,3,4,5,6]))))
   refine Gc 12 Z ?_;refine vX (I (if j.2<g.2 then j.2 else g.2)) (OpV.min Z Z Z Z) ?_;refine Go 2 Z ?_;refine vX (I (if g.2<j.2 then j.2 else g.2)) (OpV.max Z Z Z Z) ?_;refine Cd [] f (k_dv _ _ _ _ _ _) Z λw N f=>Fg 11 Z Z (vH (El (xs:=[.tmp 63]) (es:=map Span.c [{Lo:=w.1.Lo,Hi:=w.1.Hi:Span}]) Qhm Z Z Z Z Z ⟨Z,trivial⟩ Z Z) ?_);refine FE Z (Bd f λR F f=>vH (QR (e:=Span.c) F Qhm EP (YP (i:=9))) ?_);exact Fg 9 Z Z (Qi f (Lr [0,1,2,3,4,5,10]))
  refine Gc 4 Z ?_;refine Eu (YF [(15,_),(68,_)] Z Z (QlR.cons Z Er (QlR.cons Z Er QlR.nil)) (Ec (Ec (Ec (Ec (Ec (Ec (Ec (Q2 _))))))))) ?_;refine vH (El (xs:=[.tmp 68]) (es:=map (QN 2 Span.c) [p]) Qm0 Z Z Z Z Z ⟨Z,trivial⟩ Z Z) ?_;refine FE Z (Bd d λT G d=>vH (QR (e:=(QN 2 Span.c)) G Qm0 Gk (YP (i:=7))) ?_);exact Fg 10 Z Z (Qi d (Lr [0,1,2,3,4,8]))
 refine Gc 7 Z ?_;obtain rfl:=Oi h;exact Rx [2,3,0] [12] Z (QL Z (Qf isAgg80 sizeOf80 Z Z Z)) ⟨Z,Z⟩
def F_cs(n:Nat)(g:Way)(d:Int)(e:Int)(a:Int):Option (Ctl Int (Ctl Unit (Ctl Unit (Ctl Int (Ctl Unit Bool))))):=(bif decide (a<d)then(idx g.Hits a).bind λf=>(bif (f==e)then some (.done (.done (.done (.done (.done false)))))else some (.cont (i64.wrap (a+1))))else some (.done (.cont ())))
def F_co(n:Nat)(g:stopwatchref19_input)(h:Way)(a:Int):Option (Ctl Int (Ctl Unit Bool)):=(bif decide (a<(g.route.length:Int))then((idx h.Hits a).bind λd=>(bif (d==(-1))then some (.cont ())else((bif decide (d<0)then some true else(bif decide ((g.hits.length:Int)<=d)then some true else(idx g.hits d).bind λi=>(idx g.route a).bind λj=>(bif (i.Mat != j)then some true else some (decide (h.Last<a))))):Option Bool).bind λk=>(bif k then some (.done (.done (.done false)))else(iter (F_cs n h a d) n 0:Option (Ctl Unit (Ctl Unit (Ctl Int (Ctl Unit Bool))))).bind λl=>match l with|.cont e=>(some (.cont ()))|.done e=>some e)):Option (Ctl Unit (Ctl Int (Ctl Unit Bool)))).bind λm=>match m with|.cont f=>(some (.cont (i64.wrap (a+1))))|.done f=>some f else some (.done (.cont ())))
def F_jk(n:Nat)(e:stopwatchref19_input)(f:Way)(a:Int):Option (Ctl Int (Ctl Unit Bool)):=(bif decide (a<(e.hands.length:Int))then(idx e.hands a).bind λd=>(bif decide (f.Last<d.Position)then some (.done (.done false))else some (.cont (i64.wrap (a+1))))else some (.done (.cont ())))
def F_el(n:Nat)(f:stopwatchref19_input)(e:Way):Option Bool:=((bif ((e.Hits.length:Int) != (f.route.length:Int))then some true else(bif decide (e.Last<(-1))then some true else some (decide ((f.route.length:Int)<=e.Last)))):Option Bool).bind λi=>(bif i then some false else(iter (F_co n f e) n 0:Option (Ctl Unit Bool)).bind λg=>match g with|.cont a=>((iter (F_jk n f e) n 0:Option (Ctl Unit Bool)).bind λh=>match h with|.cont d=>(some true)|.done d=>some d)|.done a=>some a)
theorem k_el(n:Nat)(y:stopwatchref19_input)(a2:Way):Ks (F_el n y a2) 57 [.agg (stopwatchref19_input.cells y),.agg (Way.c a2)] [] (λr=>.bool r):=by
 refine Kg 11 func57 Z Z Z Z λr h=>Lg 5 Z Z (Bd h λb3 m h=>Ct b3 [0,1] [2,3,5] (λb3=>[(28,.bool b3)]) Ze Zf ?_ (λenv H j=>?_))
 .refine G0 3 Z (Lg 3 Z Z (Is 18 m Z (λai m=>?_) (λai m=>?_)))
  .exact Gl 11 Z m [0,1]
  .refine Go 5 Z (Is 23 m Z (λaj m=>?_) (λaj m=>?_))
   iterate 2 exact Gl 6 Z m [0,1]
 refine Gx 1 Z (Ef j (Cn Z h (λak h=>?_) (λak h=>?_)))
 .exact QC 7 Z h 4 []
 refine Gc 8 Z (Bd h λab ac h=>CtE (b:=ab) [0,1] [2,3] Ze Ze Zf ?_ (λal env H s j=>?_))
 .refine G0 1 Z (Lp [0,1] [2,3,5] (λz=>[(6,I z)]) Ze ac Zf (Lr [0,1]) λz aq i p=>?_);refine G0 8 Z (QV Z i (λG i=>?_) (λG i=>?_))
  .exact Gc 2 Z (Qk i (Gx 1 Z (YC p i Z (Lr [0,1]))))
  refine Gc 3 Z (Bd i λad d i=>CtE (b:=ad) [0,1] [2,3,5,6] Ze Ze Zf ?_ (λam env H hb j=>?_))
  .refine G0 6 Z (Bd d λar J d=>Iz J Z (Go 11 Z (Cn Z d (λL d=>?_) (λL d=>?_))))
   .refine Gc 3 Z ?_;cases d;exact Yp Z (Lr [0,1])
   refine Gc 4 Z (Bd d λt a d=>Ct t [0,1] [2,3,5,6,7] (λt=>[(69,.bool t)]) Ze Zf ?_ (λenv H j=>?_))
   .refine G0 0 Z (DSs 27 Z (D 3 Z (DS.is 2 a Z Z Z (λM a=>?_) (λM a=>?_))))
    .exact D 24 Z (Eh Z (Gl 3 Z a [0,1]))
    .refine D 3 Z ?_;refine DS.v (x:=(I (y.hits.length:Int))) (Qe1 (e:=Hit.c) (l:=y.hits) EJ) ?_ (hg:=(gT Z));refine D 3 Z (DS.is 9 a Z Z Z (λN a=>?_) (λN a=>?_))
     .exact D 17 Z (Eh Z (Gl 3 Z a [0,1]))
     .refine D 3 Z ?_;obtain⟨k,O,a⟩:=Yh a;refine DS.v (x:=(.rp [I k.Mat,I k.Epoch,I k.Chip,I k.First,I k.Last])) (Js (e:=Hit.c) (l:=y.hits) (v:=k) O EJ EW) ?_ (hg:=(gT Z));refine D 5 Z ?_;obtain⟨B,P,a⟩:=Yh a;refine DS.v (x:=(.rp [I B])) (Js (e:=(Qe .i64)) (l:=y.route) (v:=B) P EB EC) ?_ (hg:=(gT Z));refine D 4 Z (DS.is 23 a Z Z Z (λQ a=>?_) (λQ a=>?_))
      iterate 2 exact D 3 Z (Eh Z (Gl 3 Z a [0,1]))
   refine Gx 1 Z (Ef j (Cn Z d (λR d=>?_) (λR d=>?_)))
   .refine Gc 8 Z ?_;cases d;refine Ql (Gx 1 Z (Qp i ?_));obtain rfl:=Oj p i;exact Gx 1 Z (Ql (Gx 1 Z (Rt h 4 [])))
   refine Gc 7 Z (Bd d λae af d=>CtE (b:=ae) [0,1] [2,3,5,6] Ze Ze Zf ?_ (λan env H s j=>?_))
   .refine G0 1 Z (Lp [0,1] [2,3,5,6,7] (λE=>[(8,I E)]) Ze af Zf (Lr [0,1]) λE au f u=>?_);refine G0 8 Z (QV Z f (λT f=>?_) (λT f=>?_))
    .exact Gc 2 Z (Qk f (Gx 1 Z (YC u f Z (Lr [0,1]))))
    refine Gc 9 Z (Bd f λav V f=>Iz V Z (Go 5 Z (Cn Z f (λW f=>?_) (λW f=>?_))))
    .refine Gc 8 Z (Qp f ?_);obtain rfl:=Oj u f;refine Gx 1 Z (Ql (Gx 1 Z ?_));cases d;refine Ql (Gx 1 Z (Qp i ?_));obtain rfl:=Oj p i;exact Gx 1 Z (Ql (Gx 1 Z (Rt h 4 [])))
    exact Gc 8 Z (Qi f (Lr [0,1]))
   subst s;refine Gx 1 Z ?_;cases d;exact Yp Z (Eo j (Lr [0,1]))
  subst hb;exact Gx 1 Z (Ef j (Gc 5 Z (Qi i (Lr [0,1]))))
 subst s;refine Gx 1 Z (Ef j (Gc 6 Z (Bd h λag ah h=>Jn (b:=ag) [] [] Ze Ze Zf ?_ (λao s=>?_))))
 .refine G0 1 Z (Lp [0,1] [2,3] (λF=>[(9,I F)]) Ze ah Zf (Lr [0,1]) λF aw g w=>?_);refine G0 6 Z (Lg 3 Z Z (QV Z g (λX g=>?_) (λX g=>?_)))
  .exact Gc 2 Z (Qk g (Gx 1 Z (YC w g Z (Lr []))))
  refine Gc 5 Z (DSs 8 Z (D 3 Z ?_));obtain⟨q,Y,g⟩:=Yh g;refine DS.wo (x:=.rp [I q.Bib,I q.Position,I q.Lo,I q.Hi]) ?_ ?_
  .exact Ix Y runUnderlying41 sizeOf63 Z Wp
  refine D 4 Z (Eh Z (Go 3 Z (Cn Z g (λaa g=>?_) (λaa g=>?_))))
  .refine Gc 8 Z (Qp g ?_);obtain rfl:=Oj w g;exact Gx 1 Z (Ql (Gx 1 Z (Rt h 4 [])))
  exact Gc 8 Z (Qi g (Lr [0,1]))
 subst s;exact QC 6 Z h 4 []
def F_hx(n:Nat)(d:List Int)(f:Int)(a:Int):Option (Ctl Int (Ctl Unit Bool)):=(bif decide (a<(d.length:Int))then(idx d a).bind λe=>(bif (e==f)then some (.done (.done true))else some (.cont (i64.wrap (a+1))))else some (.done (.cont ())))
def F_eq(n:Nat)(d:List Int)(e:Int):Option Bool:=(iter (F_hx n d e) n 0:Option (Ctl Unit Bool)).bind λf=>match f with|.cont a=>(some false)|.done a=>some a
theorem k_eq(n:Nat)(j:List Int)(k:Int):Ks (F_eq n j k) 28 [.rsl 1 (map (Qe .i64) j),I k] [] (λr=>.bool r):=by
 refine Kg 11 func28 Z Z Z Z λr h=>Bd h λm p h=>Jn (b:=m) [] [] Ze Ze Zf ?_ (λq l=>?_)
 .refine G0 1 Z (Lp [] [0,1] (λe=>[(5,I e)]) Ze p Zf (Lr []) λe s a d=>?_);refine G0 5 Z (Lg 3 Z Z (QV Z a (λf a=>?_) (λf a=>?_)))
  .exact Gc 2 Z (Qk a (Gx 1 Z (YC d a Z (Lr []))))
  refine Gc 8 Z (Bd a λt g a=>Iz g Z (Go 5 Z (Cn Z a (λi a=>?_) (λi a=>?_))))
  .refine Gc 8 Z (Qp a ?_);obtain rfl:=Oj d a;exact Gx 1 Z (Ql (Gx 1 Z (Rt h 4 [])))
  exact Gc 8 Z (Qi a (Lr []))
 subst l;exact QC 6 Z h 4 []
def F_hy(n:Nat)(f:List Hit)(g:Way)(a:Int×Int):Option (Ctl (Int×Int) Int):=(bif decide (a.2<(f.length:Int))then(F_eq n g.Hits a.2).bind λd=>((bif (!d)then some (i64.wrap (a.1+1))else some a.1):Option Int).bind λe=>some (.cont (e,i64.wrap (a.2+1)))else some (.done a.1))
def F_cx(n:Nat)(d:List Hit)(e:Way):Option Int:=(iter (F_hy n d e) n (0,0):Option Int).bind λa=>some a
theorem k_cx(n:Nat)(l:List Hit)(m:Way):Ks (F_cx n l m) 14 [.rsl 5 (map Hit.c l),.agg (Way.c m)] [] (λr=>I r):=by
 refine Kg 17 func14 Z Z Z Z λr h=>Bd h λe p h=>Cg e [] [] (λe=>[(5,I e)]) Ze Zf ?_ ?_
 .refine G0 1 Z (Lp [0] [0,3] (λf=>[(5,I f.1),(6,I f.2)]) Ze p Zf (Lr [0]) λf t a i=>?_);refine G0 5 Z (Lg 3 Z Z (QV Z a (λj a=>?_) (λj a=>?_)))
  .exact Gc 2 Z (Qk a (Gx 1 Z (cQo i a (Lr []))))
  refine Gc 9 Z (Cz [] a (k_eq _ _ _) Z λu s a=>Go 3 Z (Bd a λg d a=>Ct g [0] [0,3,6] (λg=>[(5,I g)]) Ze Zf ?_ (λenv H q=>?_)))
  .refine G0 0 Z (Cn Z d (λk d=>?_) (λk d=>?_))
   .exact YJ 5 Z d [0]
   exact YJ 1 Z d [0]
  exact Gx 2 Z (Ef q (Gc 5 Z (Qi a (Lr [0]))))
 exact QC 7 Z h 4 []
def F_hc(n:Nat)(d:stopwatchref19_input)(g:Int)(a:Int):Option (Ctl Int (Ctl Unit (Hand×Bool))):=(bif decide (a<(d.hands.length:Int))then(idx d.hands a).bind λe=>(bif (e.Position==g)then(idx d.hands a).bind λf=>some (.done (.done (f,true)))else some (.cont (i64.wrap (a+1))))else some (.done (.cont ())))
def F_bi(n:Nat)(e:stopwatchref19_input)(f:Int):Option (Hand×Bool):=(iter (F_hc n e f) n 0:Option (Ctl Unit (Hand×Bool))).bind λd=>match d with|.cont a=>(some (Uq,false))|.done a=>some a
theorem k_bi(n:Nat)(k:stopwatchref19_input)(l:Int):Kq (F_bi n k l) 59 [.agg (stopwatchref19_input.cells k),I l] [] (λr=>.tup [.agg (Hand.c r.1),.bool r.2]) (λr=>[.cells 63 (Hand.c r.1)]):=by
 refine Kg 13 func59 Z Z Z Z λr h=>Bd h λm p h=>Jn (b:=m) [1] [4] Ze Ze Zf ?_ (λs q=>?_)
 .refine G0 1 Z (Lp [0,1] [1,2,4] (λe=>[(6,I e)]) Ze p Zf (Lr [0,1]) λe t a d=>?_);refine G0 6 Z (Lg 3 Z Z (QV Z a (λf a=>?_) (λf a=>?_)))
  .exact Gc 2 Z (Qk a (Gx 1 Z (YC d a Z (Lr [1]))))
  refine Gc 9 Z (Bd a λu g a=>Iz g Z (Go 6 Z (Cn Z a (λi a=>?_) (λi a=>?_))))
  .refine Gc 5 Z (Bd a λw j a=>Iz j Z (Go 8 Z (Qp a ?_)));obtain rfl:=Oj d a;refine Gx 1 Z (Ql (Gx 1 Z ?_));obtain rfl:=Oi h;exact Rx [1] [4,5] Z (Qg Z Z (Qif.cons (Qf isAgg63 sizeOf63 Z Z Z) (Qif.cons QcX.tmp Qif.nil))) ⟨Z,Z⟩
  exact Gc 8 Z (Qi a (Lr [0,1]))
 subst q;refine Gc 8 Z ?_;obtain rfl:=Oi h;exact Rx [0] [4,5] Z (Qg Z Z (Qif.cons (Qf isAgg63 sizeOf63 Z Z Z) (Qif.cons QcX.tmp Qif.nil))) ⟨Z,Z⟩
def F_p(n:Nat)(d:stopwatchref19_input)(a:Hit):Option Int:=(F_ah n d.c a.Mat).bind λe=>(bif e then some (-1)else(F_by n d.k.Segments a.Mat a.Epoch).bind λf=>some (i64.wrap (f-1)))
theorem k_p(n:Nat)(a:stopwatchref19_input)(d:Hit):Ks (F_p n a d) 61 [.agg (stopwatchref19_input.cells a),.agg (Hit.c d)] [] (λr=>I r):=by
 refine Kg 14 func61 Z Z Z Z λr h=>Cz [] h (k_ah _ _ _) Z λi f h=>Go 2 Z (Cn Z h (λe h=>?_) (λe h=>?_))
 .exact QC 7 Z h 4 []
 exact Gc 11 Z (Cz [] h (k_by _ _ _ _) Z λj g h=>Gt 5 Z h 4 [])
def F_aw(n:Nat)(d:Course)(a:Int):Option Bool:=((bif decide (0<=a)then some (decide (a<(d.Mats.length:Int)))else some false):Option Bool).bind λe=>some e
theorem k_aw(n:Nat)(e:Course)(f:Int):Ks (F_aw n e f) 105 [.agg (Course.c e),I f] [] (λr=>.bool r):=by
 refine Kg 7 func105 Z Z Z Z λr h=>Bd h λd a h=>Cg d [] [] (λd=>[(4,.bool d)]) Ze Zf ?_ ?_
 .refine G0 4 Z (Is 7 a Z (λg a=>?_) (λg a=>?_))
  .exact Go 3 Z (Lm Z (Gl 4 Z a []))
  .exact Gl 8 Z a []
 exact QC 1 Z h 4 []
def F_dm(n:Nat)(e:Int)(d:Int):Option (Int×Int):=((bif decide (e<(-2199023255552))then some true else(bif decide (2199023255552<e)then some true else(bif decide (d<0)then some true else some (decide (100000<d))))):Option Bool).bind λg=>(bif g then some (0,1)else((bif decide (e<0)then some (i64.wrap (0-e))else some e):Option Int).bind λa=>((bif decide ((i64.wrap ((i64.wrap (Int.tdiv (i64.wrap (a*d)) 1000000))*1000000))<(i64.wrap (a*d)))then some (i64.wrap ((i64.wrap (Int.tdiv (i64.wrap (a*d)) 1000000))+1))else some (i64.wrap (Int.tdiv (i64.wrap (a*d)) 1000000))):Option Int).bind λf=>some (f,0))
theorem k_dm(n:Nat)(p:Int)(j:Int):Ks (F_dm n p j) 152 [I p,I j] [] (λr=>.tup [I r.1,I r.2]):=by
 refine Kg 8 func152 Z Z Z Z λr h=>Bd h λk a h=>Ct k [] [0,1] (λk=>[(20,.bool k)]) Ze Zf ?_ (λenv H g=>?_)
 .refine G0 4 Z (Is 9 a Z (λq a=>?_) (λq a=>?_))
  .exact Gl 12 Z a []
  .refine Go 4 Z (Is 13 a Z (λs a=>?_) (λs a=>?_))
   .exact Gl 8 Z a []
   .refine Go 4 Z (Is 17 a Z (λt a=>?_) (λt a=>?_))
    iterate 2 exact Gl 4 Z a []
 refine Gx 1 Z (Ef g (Cn Z h (λu h=>?_) (λu h=>?_)))
 .refine Gc 8 Z ?_;obtain rfl:=Oi h;exact R2 4 5 Z Z (Lr [])
 refine Gc 9 Z (Bd h λf d h=>Ct f [] [1] (λf=>[(0,I f)]) Ze Zf ?_ (λenv H g=>?_))
 .refine G0 0 Z (Cn Z d (λl d=>?_) (λl d=>?_))
  .exact YJ 5 Z d []
  exact YJ 1 Z d []
 refine Gx 1 Z (Ef g (Gc 5 Z ?_));refine vV (x:=(I (i64.wrap (Int.tdiv (i64.wrap (f*j)) 1000000)))) (OpV.quo Z Z Z (by decide)) ?_;refine Go 14 Z (Bd h λi e h=>Cg i [] [] (λi=>[(6,I i)]) Ze Zf ?_ ?_)
 .refine G0 0 Z (Cn Z e (λm e=>?_) (λm e=>?_))
  .exact YJ 5 Z e []
  exact YJ 1 Z e []
 refine Gc 8 Z ?_;obtain rfl:=Oi h;exact R2 4 5 Z Z (Lr [])
def F_ab(n:Nat)(a:Course)(d:Segment)(f:Int):Option Span:=(F_ah n a d.Mat).bind λg=>(bif g then some ({Lo:=0,Hi:=a.Faults.Residual:Span})else(F_dm n (i64.wrap (f-d.Anchor)) a.Faults.Drift).bind λe=>some ({Lo:=i64.wrap (0-e.1),Hi:=i64.wrap (a.Faults.Residual+e.1):Span}))
theorem k_ab(n:Nat)(a:Course)(d:Segment)(e:Int):Kq (F_ab n a d e) 106 [.agg (Course.c a),.agg (Segment.c d),I e] [] (λr=>.agg [I r.Lo,I r.Hi]) (λr=>[.cells 55 [I r.Lo,I r.Hi]]):=by
 refine Kg 13 func106 Z Z Z Z λr h=>Cz [] h (k_ah _ _ _) Z λj g h=>Go 2 Z (Cn Z h (λf h=>?_) (λf h=>?_))
 .refine Gc 11 Z ?_;obtain rfl:=Oi h;exact Rx [2] [6] Z (QL Z (Qf EG ED Z Z Z)) ⟨Z,Z⟩
 refine Gc 11 Z (Cd [] h (k_dm _ _ _) Z λk i h=>Fg 21 Z Z ?_);obtain rfl:=Oi h;exact Rx [2] [6] Z (QL Z (Qf EG ED Z Z Z)) ⟨Z,Z⟩
def F_bo(n:Nat)(d:Course)(e:Segment)(f:Int):Option (Span×Int):=(F_c n d).bind λg=>(bif (g != 0)then some ({Lo:=0,Hi:=0:Span},g)else((F_aw n d e.Mat).bind λh=>(bif (!h)then some true else(F_k n f).bind λi=>(bif (!i)then some true else(F_k n e.Anchor).bind λj=>some (!j))):Option Bool).bind λk=>(bif k then some ({Lo:=0,Hi:=0:Span},1)else(F_ab n d e f).bind λa=>some ({Lo:=a.Lo,Hi:=a.Hi:Span},0)))
theorem k_bo(n:Nat)(i:Course)(j:Segment)(k:Int):Kq (F_bo n i j k) 123 [.agg (Course.c i),.agg (Segment.c j),I k] [] (λr=>.tup [.agg [I r.1.Lo,I r.1.Hi],I r.2]) (λr=>[.cells 55 [I r.1.Lo,I r.1.Hi]]):=by
 refine Kg 11 func123 Z Z Z Z λr h=>Cz [] h (k_c _ _) Z λz t h=>Go 10 Z (Cn Z h (λl h=>?_) (λl h=>?_))
 .refine Gc 10 Z ?_;obtain rfl:=Oi h;exact Rx [2] [6,7] Z (Qg Z Z (Qif.cons (Qf EG ED Z Z Z) (Qif.cons QcX.tmp Qif.nil))) ⟨Z,Z⟩
 refine Gc 4 Z (Bd h λd a h=>Cg d [0,1,2] [2,3,4,6] (λd=>[(30,.bool d)]) Ze Zf ?_ ?_)
 .refine G0 4 Z (Cz [] a (k_aw _ _ _) Z λu m a=>Go 2 Z (Is 20 a Z (λe a=>?_) (λe a=>?_)))
  .exact Gl 11 Z a [0,1,2]
  .refine Go 1 Z (Cz [] a (k_k _ _) Z λw p a=>Go 3 Z (Is 25 a Z (λf a=>?_) (λf a=>?_)))
   .exact Gl 6 Z a [0,1,2]
   .exact Go 2 Z (Cz [] a (k_k _ _) Z λx q a=>Gl 3 Z a [0,1,2])
 refine Cn Z h (λg h=>?_) (λg h=>?_)
 .refine Gc 9 Z ?_;obtain rfl:=Oi h;exact Rx [2] [6,7] Z (Qg Z Z (Qif.cons (Qf EG ED Z Z Z) (Qif.cons QcX.tmp Qif.nil))) ⟨Z,Z⟩
 refine Gc 7 Z (Cd [] h (k_ab _ _ _ _) Z λy s h=>Fg 5 Z Z ?_);obtain rfl:=Oi h;exact Rx [2] [6,7] Z (Qg Z Z (Qif.cons (Qf EG ED Z Z Z) (Qif.cons QcX.tmp Qif.nil))) ⟨Z,Z⟩
def F_ck(n:Nat)(d:stopwatchref19_input)(a:Hit):Option Span:=(F_p n d a).bind λh=>((bif decide (0<=h)then(F_p n d a).bind λi=>(idx d.k.Segments i).bind λj=>some j else some ({Mat:=a.Mat,Epoch:=a.Epoch,Anchor:=0:Segment})):Option Segment).bind λe=>(F_bo n d.c e a.First).bind λf=>(F_bo n d.c e a.Last).bind λg=>some ({Lo:=i64.wrap (a.First+f.1.Lo),Hi:=i64.wrap (a.Last+g.1.Hi):Span})
theorem k_ck(n:Nat)(e:stopwatchref19_input)(f:Hit):Kq (F_ck n e f) 77 [.agg (stopwatchref19_input.cells e),.agg (Hit.c f)] [] (λr=>.agg [I r.Lo,I r.Hi]) (λr=>[.cells 55 [I r.Lo,I r.Hi]]):=by
 refine Kg 23 func77 Z Z Z Z λr h=>Cz [] h (k_p _ _ _) Z λs l h=>Go 3 Z (Bd h λd a h=>Cg d [0,1,2,3] [2,3,4,5] Ze (λd=>[(3,.cells 155 (Segment.c d))]) Zf ?_ ?_)
 .refine G0 0 Z (Cn Z a (λg a=>?_) (λg a=>?_))
  .refine DSs 6 Z (D 5 Z ?_);exact Dz [] a (k_p _ _ _) Z λt m a=>Eh Z (Bd a λu i a=>Iz i Z (Gl 3 Z a [0,1,2,3]))
  exact YJ 1 Z a [0,1,2,3]
 refine Gc 7 Z (Cd [] h (k_bo _ _ _ _) Z λp j h=>Fg 15 Z Z (Cd [] h (k_bo _ _ _ _) Z λq k h=>Fg 25 Z Z ?_));obtain rfl:=Oi h;exact Rx [2] [4] Z (QL Z (Qf EG ED Z Z Z)) ⟨Z,Z⟩
def F_t(n:Nat)(a:stopwatchref19_input)(f:Way)(d:Int):Option (Int×Span×Bool):=(F_bi n a d).bind λe=>(bif e.2 then some ((-1),{Lo:=e.1.Lo,Hi:=e.1.Hi:Span},true)else(idx f.Hits d).bind λi=>(bif decide (i<0)then some ((-1),{Lo:=0,Hi:=0:Span},false)else(idx f.Hits d).bind λj=>(idx a.hits j).bind λg=>(F_p n a g).bind λk=>(F_ck n a g).bind λh=>some (k,{Lo:=h.Lo,Hi:=h.Hi:Span},true)))
theorem k_t(n:Nat)(a:stopwatchref19_input)(d:Way)(j:Int):Kq (F_t n a d j) 33 [.agg (stopwatchref19_input.cells a),.agg (Way.c d),I j] [] (λr=>.tup [I r.1,.agg [I r.2.1.Lo,I r.2.1.Hi],.bool r.2.2]) (λr=>[.cells 55 [I r.2.1.Lo,I r.2.1.Hi]]):=by
 refine Kg 13 func33 Z Z Z Z λr h=>Cd [] h (k_bi _ _ _) Z λe q h=>Fg 14 Z Z (Cn Z h (λk h=>?_) (λk h=>?_))
 .refine Gc 1 Z (DSs 6 Z (D 6 Z (Eh Z (Go 6 Z ?_))));obtain rfl:=Oi h;exact Rx [2] [6,7,8] Z (Qg Z Z (Qif.cons QcX.tmp (Qif.cons (Qf EG ED Z Z Z) (Qif.cons QcX.tmp Qif.nil)))) ⟨Z,Z⟩
 refine Gc 8 Z (Bd h λu l h=>Iz l Z (Go 4 Z (Cn Z h (λm h=>?_) (λm h=>?_))))
 .refine Gc 10 Z ?_;obtain rfl:=Oi h;exact Rx [2] [6,7,8] Z (Qg Z Z (Qif.cons QcX.tmp (Qif.cons (Qf EG ED Z Z Z) (Qif.cons QcX.tmp Qif.nil)))) ⟨Z,Z⟩
 refine Gc 3 Z ?_;obtain⟨p,g,h⟩:=Yh h;obtain⟨f,i,h⟩:=Yh h;refine QY 10 0 [31,32,33,34,35,36,37,38,39,11] [false,false,false,false,false,false,false,false,false,true] [[],[],[],[],[],[],[],[],[],[]] [[],[9]] [[(0,0),(1,1)],[(0,0),(1,1)],[(0,0),(1,1)],[(0,0),(1,1)],[(0,0),(1,1)],[(0,0),(1,1)],[(0,0),(1,1)],[(0,0),(1,1)],[(0,0),(1,1)],[(0,1)]] [.ptr 0 18,.rsl 5 (map Hit.c a.hits),.ptr 1 0,.rsl 1 (map (Qe .i64) d.Hits),I j,.rp [I p],I p,.rp [I f.Mat,I f.Epoch,I f.Chip,I f.First,I f.Last],.agg (Hit.c f),.ptr 5 0] [[.cells 80 (stopwatchref19_input.cells a),.cells 46 (Way.c d),.cells 55 [I 0,I 0],.cells 63 (Hand.c e.1),.cells 63 (Hand.c e.1)],[.cells 80 (stopwatchref19_input.cells a),.cells 46 (Way.c d),.cells 55 [I 0,I 0],.cells 63 (Hand.c e.1),.cells 63 (Hand.c e.1),.cells 65 (Hit.c Ur)]] ([.cells 80 (stopwatchref19_input.cells a),.cells 46 (Way.c d),.cells 55 [I 0,I 0],.cells 63 (Hand.c e.1),.cells 63 (Hand.c e.1),.cells 65 (Hit.c Ur)]) draws Z Z Z Z Z Z Z ?_ Z ?_
 .refine Qgr.cons (Qb (v0 Z Z) (Qb (v0 Z Z) (Qc))) (Qgr.cons (Qb (v0 Z Z) (Qb (v0 Z Z) (Qc))) (Qgr.cons (Qb (v0 Z Z) (Qb (v0 Z Z) (Qc))) (Qgr.cons (Qb (v0 Z Z) (Qb (v0 Z Z) (Qc))) (Qgr.cons (Qb (v0 Z Z) (Qb (v0 Z Z) (Qc))) (Qgr.cons ?_ (Qgr.cons (Qb (v0 Z Z) (Qb (v0 Z Z) (Qc))) (Qgr.cons ?_ (Qgr.cons (Qb (v0 Z Z) (Qb (v0 Z Z) (Qc))) (Qgr.cons ?_ (Qgr.nil))))))))))
  .refine Qb ?_ (Qb ?_ (Qc))
   iterate 2 refine Om Z (sD 3 (sD 4 sN)) ?_;exact Ix g EB EC Z Wp
  .refine Qb ?_ (Qb ?_ (Qc))
   iterate 2 refine Om Z (sD 1 (sD 6 sN)) ?_;exact Ix i EJ EW Z Wp
  .refine Qb ?_ (Qc)
   .refine Om1 Z sN ?_;refine vH (Qag (v:=(.agg [I 0,I 0,I 0,I 0,I 0])) zeroValue65 (zrC Z)) ?_;exact FE Z Wp
 refine Go 4 Z (DSs 5 Z (D 2 Z ?_));refine Dz [] h (k_p _ _ _) Z λw s h=>D 2 Z (Eh Z (Cd [] h (k_ck _ _ _) Z λx t h=>Fg 6 Z Z ?_));obtain rfl:=Oi h;exact Rx [2] [6,7,8] Z (Qg Z Z (Qif.cons QcX.tmp (Qif.cons (Qf EG ED Z Z Z) (Qif.cons QcX.tmp Qif.nil)))) ⟨Z,Z⟩
def F_bh(n:Nat)(e:Course)(f:Clocks)(d:Int)(a:Span):Option (Span×Int):=(F_c n e).bind λh=>((bif (h==0)then(F_be n f).bind λw=>some w else some h):Option Int).bind λi=>(bif (i != 0)then some ({Lo:=0,Hi:=0:Span},i)else((bif decide (d<(-1))then some true else(bif decide ((f.Segments.length:Int)<=d)then some true else(F_k n a.Lo).bind λj=>(bif (!j)then some true else(F_k n a.Hi).bind λk=>(bif (!k)then some true else some (decide (a.Hi<a.Lo)))))):Option Bool).bind λl=>(bif l then some ({Lo:=0,Hi:=0:Span},1)else(bif (d==(-1))then some ({Lo:=a.Lo,Hi:=i64.wrap (a.Hi+e.Faults.Residual):Span},0)else(idx f.Segments d).bind λg=>(F_aw n e g.Mat).bind λm=>(bif (!m)then some ({Lo:=0,Hi:=0:Span},1)else(F_ab n e g a.Lo).bind λp=>(idx f.Far (i64.wrap (d+1))).bind λq=>(idx q 0).bind λr=>(F_ab n e g a.Hi).bind λs=>(idx f.Far 0).bind λt=>(idx t (i64.wrap (d+1))).bind λu=>some ({Lo:=i64.wrap ((i64.wrap (a.Lo+p.Lo))-r),Hi:=i64.wrap ((i64.wrap (a.Hi+s.Hi))+u):Span},0)))))
theorem k_bh(n:Nat)(i:Course)(j:Clocks)(w:Int)(e:Span):Kq (F_bh n i j w e) 60 [.agg (Course.c i),.agg (Clocks.c j),I w,.agg [I e.Lo,I e.Hi]] [] (λr=>.tup [.agg [I r.1.Lo,I r.1.Hi],I r.2]) (λr=>[.cells 55 [I r.1.Lo,I r.1.Hi]]):=by
 refine Kg 12 func60 Z Z Z Z λr h=>Cz [] h (k_c _ _) Z λr1 Y h=>Go 10 Z (Bd h λz k h=>Ct z [0,1,2,3] [2,4,5,7,8] (λz=>[(10,I z)]) Ze Zf ?_ (λenv H Q=>?_))
 .refine G0 0 Z (Cn Z k (λR k=>?_) (λR k=>?_))
  .exact Gc 2 Z (Cz [] k (k_be _ _) Z λr7 aa k=>Gl 2 Z k [0,1,2,3])
  exact YJ 1 Z k [0,1,2,3]
 refine Gx 1 Z (Ef Q (Gc 7 Z (Cn Z h (λT h=>?_) (λT h=>?_))))
 .refine Gc 10 Z ?_;obtain rfl:=Oi h;exact Rx [3] [8,9] Z (Qg Z Z (Qif.cons (Qf EG ED Z Z Z) (Qif.cons QcX.tmp Qif.nil))) ⟨Z,Z⟩
 refine Gc 4 Z (Bd h λs a h=>Cg s [0,1,2,3] [2,4,5,7,8] (λs=>[(50,.bool s)]) Ze Zf ?_ ?_)
 .refine G0 4 Z (Is 25 a Z (λB a=>?_) (λB a=>?_))
  .exact Gl 26 Z a [0,1,2,3]
  .refine Go 3 Z (Lg 3 Z Z (Is 32 a Z (λE a=>?_) (λE a=>?_)))
   .exact Gl 19 Z a [0,1,2,3]
   .refine Go 2 Z (Cz [] a (k_k _ _) Z λab V a=>Go 3 Z (Is 38 a Z (λF a=>?_) (λF a=>?_)))
    .exact Gl 13 Z a [0,1,2,3]
    .refine Go 2 Z (Cz [] a (k_k _ _) Z λac W a=>Go 3 Z (Is 44 a Z (λG a=>?_) (λG a=>?_)))
     iterate 2 exact Gl 7 Z a [0,1,2,3]
 refine Cn Z h (λJ h=>?_) (λJ h=>?_)
 .refine Gc 9 Z ?_;obtain rfl:=Oi h;exact Rx [3] [8,9] Z (Qg Z Z (Qif.cons (Qf EG ED Z Z Z) (Qif.cons QcX.tmp Qif.nil))) ⟨Z,Z⟩
 refine Gc 9 Z (Cn Z h (λL h=>?_) (λL h=>?_))
 .refine Gc 17 Z ?_;obtain rfl:=Oi h;exact Rx [3] [8,9] Z (Qg Z Z (Qif.cons (Qf EG ED Z Z Z) (Qif.cons QcX.tmp Qif.nil))) ⟨Z,Z⟩
 refine Gc 7 Z (Bd h λg M h=>Iz M Z (Go 11 Z (Cz [] h (k_aw _ _ _) Z λad X h=>Go 3 Z (Cn Z h (λN h=>?_) (λN h=>?_)))))
 .refine Gc 9 Z ?_;obtain rfl:=Oi h;exact Rx [3] [8,9] Z (Qg Z Z (Qif.cons (Qf EG ED Z Z Z) (Qif.cons QcX.tmp Qif.nil))) ⟨Z,Z⟩
 refine Gc 10 Z ?_;obtain⟨d,O,h⟩:=Yh h;obtain⟨x,l,h⟩:=Yh h;obtain⟨t,m,h⟩:=Yh h;obtain⟨f,P,h⟩:=Yh h;obtain⟨y,p,h⟩:=Yh h;obtain⟨u,q,h⟩:=Yh h;refine QY 34 0 [76,77,78,79,80,81,82,83,84,85,86,87,88,89,90,91,92,93,94,95,96,97,98,99,100,101,102,103,104,105,106,107,108,109] [false,false,false,false,false,false,true,false,false,false,false,false,false,false,false,false,false,false,false,false,false,false,false,true,false,false,false,false,false,false,false,false,false,false] [[],[],[],[],[],[],[],[6],[6],[],[],[],[],[],[],[],[6],[],[],[],[],[],[],[6],[6,23],[6,23],[],[],[],[],[],[],[],[6,23]] [[],[6],[6,23]] [[(0,0),(1,1),(2,2)],[(0,0),(1,1),(2,2)],[(0,0)],[(0,0)],[(0,0)],[(0,0)],[(0,1)],[(1,1),(2,2)],[(1,1),(2,2)],[(0,0),(1,1),(2,2)],[(0,0),(1,1),(2,2)],[(0,0),(1,1),(2,2)],[(0,0),(1,1),(2,2)],[(0,0),(1,1),(2,2)],[(0,0),(1,1),(2,2)],[(0,0),(1,1),(2,2)],[(1,1),(2,2)],[(0,0),(1,1),(2,2)],[(0,0),(1,1),(2,2)],[(0,0),(1,1)],[(0,0),(1,1)],[(0,0),(1,1)],[(0,0),(1,1)],[(1,2)],[(2,2)],[(2,2)],[(0,0),(1,1),(2,2)],[(0,0),(1,1),(2,2)],[(0,0),(1,1),(2,2)],[(0,0),(1,1),(2,2)],[(0,0),(1,1),(2,2)],[(0,0),(1,1),(2,2)],[(0,0),(1,1),(2,2)],[(2,2)]] [.ptr 2 0,I e.Lo,.agg (Course.c i),.agg (Segment.c g),.ptr 2 0,I e.Lo,.agg [I d.Lo,I d.Hi],I d.Lo,I (i64.wrap (e.Lo+d.Lo)),.ptr 1 1,.rsl 1 (map (QN 1 (Qe .i64)) j.Far),I (i64.wrap (w+1)),.rp [.rsl 1 (map (Qe .i64) x)],.rsl 1 (map (Qe .i64) x),.rp [I t],I t,I (i64.wrap ((i64.wrap (e.Lo+d.Lo))-t)),.ptr 2 1,I e.Hi,.agg (Course.c i),.agg (Segment.c g),.ptr 2 1,I e.Hi,.agg [I f.Lo,I f.Hi],I f.Hi,I (i64.wrap (e.Hi+f.Hi)),.ptr 1 1,.rsl 1 (map (QN 1 (Qe .i64)) j.Far),.rp [.rsl 1 (map (Qe .i64) y)],.rsl 1 (map (Qe .i64) y),I (i64.wrap (w+1)),.rp [I u],I u,I (i64.wrap ((i64.wrap (e.Hi+f.Hi))+u))] [[.cells 33 (Course.c i),.cells 37 (Clocks.c j),.cells 55 [I e.Lo,I e.Hi],.cells 55 [I 0,I 0],.cells 155 (Segment.c g)],[.cells 33 (Course.c i),.cells 37 (Clocks.c j),.cells 55 [I e.Lo,I e.Hi],.cells 55 [I 0,I 0],.cells 155 (Segment.c g),.cells 55 [I d.Lo,I d.Hi]],[.cells 33 (Course.c i),.cells 37 (Clocks.c j),.cells 55 [I e.Lo,I e.Hi],.cells 55 [I 0,I 0],.cells 155 (Segment.c g),.cells 55 [I d.Lo,I d.Hi],.cells 55 [I f.Lo,I f.Hi]]] ([.cells 33 (Course.c i),.cells 37 (Clocks.c j),.cells 55 [I e.Lo,I e.Hi],.cells 55 [I 0,I 0],.cells 155 (Segment.c g),.cells 55 [I d.Lo,I d.Hi],.cells 55 [I f.Lo,I f.Hi]]) draws Z Z Z Z Z Z Z ?_ Z ?_
 .refine Qgr.cons (Qb (v0 Z Z) (Qb (v0 Z Z) (Qb (v0 Z Z) (Qc)))) (Qgr.cons (Qb (v0 Z Z) (Qb (v0 Z Z) (Qb (v0 Z Z) (Qc)))) (Qgr.cons (Qb (v0 Z Z) (Qc)) (Qgr.cons (Qb (v0 Z Z) (Qc)) (Qgr.cons (Qb (v0 Z Z) (Qc)) (Qgr.cons (Qb (v0 Z Z) (Qc)) (Qgr.cons ?_ (Qgr.cons ?_ (Qgr.cons ?_ (Qgr.cons (Qb (v0 Z Z) (Qb (v0 Z Z) (Qb (v0 Z Z) (Qc)))) (Qgr.cons (Qb (v0 Z Z) (Qb (v0 Z Z) (Qb (v0 Z Z) (Qc)))) (Qgr.cons (Qb (v0 Z Z) (Qb (v0 Z Z) (Qb (v0 Z Z) (Qc)))) (Qgr.cons ?_ (Qgr.cons (Qb (v0 Z Z) (Qb (v0 Z Z) (Qb (v0 Z Z) (Qc)))) (Qgr.cons ?_ (Qgr.cons (Qb (v0 Z Z) (Qb (v0 Z Z) (Qb (v0 Z Z) (Qc)))) (Qgr.cons ?_ (Qgr.cons (Qb (v0 Z Z) (Qb (v0 Z Z) (Qb (v0 Z Z) (Qc)))) (Qgr.cons (Qb (v0 Z Z) (Qb (v0 Z Z) (Qb (v0 Z Z) (Qc)))) (Qgr.cons (Qb (v0 Z Z) (Qb (v0 Z Z) (Qc))) (Qgr.cons (Qb (v0 Z Z) (Qb (v0 Z Z) (Qc))) (Qgr.cons (Qb (v0 Z Z) (Qb (v0 Z Z) (Qc))) (Qgr.cons (Qb (v0 Z Z) (Qb (v0 Z Z) (Qc))) (Qgr.cons ?_ (Qgr.cons ?_ (Qgr.cons ?_ (Qgr.cons (Qb (v0 Z Z) (Qb (v0 Z Z) (Qb (v0 Z Z) (Qc)))) (Qgr.cons (Qb (v0 Z Z) (Qb (v0 Z Z) (Qb (v0 Z Z) (Qc)))) (Qgr.cons ?_ (Qgr.cons (Qb (v0 Z Z) (Qb (v0 Z Z) (Qb (v0 Z Z) (Qc)))) (Qgr.cons (Qb (v0 Z Z) (Qb (v0 Z Z) (Qb (v0 Z Z) (Qc)))) (Qgr.cons ?_ (Qgr.cons (Qb (v0 Z Z) (Qb (v0 Z Z) (Qb (v0 Z Z) (Qc)))) (Qgr.cons ?_ (Qgr.nil))))))))))))))))))))))))))))))))))
  .refine Qb ?_ (Qc)
   .refine Om1 Z (sD 2 (sD 3 (sD 5 sN))) ?_;refine Qy [] (OpC.fn call106 Z Z Z) (k_ab _ _ _ _ _ O) ?_;rintro _ _ ⟨rfl,rfl⟩;exact FE Z Wp
  .refine Qb ?_ (Qb ?_ (Qc))
   iterate 2 refine Om Z (sD 6 sN) ?_;refine vX (I d.Lo) (Qaf QdZ EO Z EQ) ?_;exact Wp
  .refine Qb ?_ (Qb ?_ (Qc))
   iterate 2 refine Om Z (sD 1 (sD 7 sN)) ?_;exact S Z Wp
  .refine Qb ?_ (Qb ?_ (Qb ?_ (Qc)))
   iterate 3 refine Om Z (sD 10 (sD 11 sN)) ?_;exact Ix l EF EI Z Wp
  .refine Qb ?_ (Qb ?_ (Qb ?_ (Qc)))
   iterate 3 refine Om Z (sD 13 sN) ?_;exact Ix m EB EC Z Wp
  .refine Qb ?_ (Qb ?_ (Qc))
   iterate 2 refine Om Z (sD 8 (sD 15 sN)) ?_;exact S Z Wp
  .refine Qb ?_ (Qc)
   .refine Om1 Z (sD 19 (sD 20 (sD 22 sN))) ?_;refine Qy [] (OpC.fn call106 Z Z Z) (k_ab _ _ _ _ _ P) ?_;rintro _ _ ⟨rfl,rfl⟩;exact FE Z Wp
  .refine Qb ?_ (Qc)
   .refine Om Z (sD 23 sN) ?_;refine vX (I f.Hi) (Qaf QiI EO Z EQ) ?_;exact Wp
  .refine Qb ?_ (Qc)
   .refine Om Z (sD 18 (sD 24 sN)) ?_;exact S Z Wp
  .refine Qb ?_ (Qb ?_ (Qb ?_ (Qc)))
   iterate 3 refine Om Z (sD 27 sN) ?_;exact Ix p EF EI Z Wp
  .refine Qb ?_ (Qb ?_ (Qb ?_ (Qc)))
   iterate 3 refine Om Z (sD 29 (sD 30 sN)) ?_;exact Ix q EB EC Z Wp
  .refine Qb ?_ (Qc)
   .refine Om Z (sD 25 (sD 32 sN)) ?_;exact S Z Wp
 refine Go 6 Z ?_;obtain rfl:=Oi h;exact Rx [3] [8,9] Z (Qg Z Z (Qif.cons (Qf EG ED Z Z Z) (Qif.cons QcX.tmp Qif.nil))) ⟨Z,Z⟩
def F_ca(n:Nat)(a:Span)(d:Span):Option Unit:=some ()
theorem k_ca(n:Nat)(a:Span)(d:Span):Ks (F_ca n a d) 58 [.agg [I a.Lo,I a.Hi],.agg [I d.Lo,I d.Hi]] [] (λ_=>.bool (decide ((if a.Lo<d.Lo then d.Lo else a.Lo)<=(if d.Hi<a.Hi then d.Hi else a.Hi)))):=by
 refine Kg 13 func58 Z Z Z Z λr h=>?_;refine vX (I (if a.Lo<d.Lo then d.Lo else a.Lo)) (OpV.max Z Z Z Z) ?_;refine Go 4 Z ?_;refine vX (I (if d.Hi<a.Hi then d.Hi else a.Hi)) (OpV.min Z Z Z Z) ?_;exact Gt 5 Z h 4 []
end Go.Sw
