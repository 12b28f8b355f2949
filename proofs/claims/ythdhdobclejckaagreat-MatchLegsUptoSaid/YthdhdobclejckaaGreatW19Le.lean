/- What the functions compute that MatchLegs reaches, and that their calls refine it (part 4 of 4). -/
import Derived.Test.YthdhdobclejckaaGreatW19Le3
set_option linter.unusedVariables false
set_option linter.unusedSimpArgs false
set_option maxRecDepth 100000
set_option maxHeartbeats 4000000
namespace Go.Sw
open List(map)
open Int(toNat)
open Go.IntKind(i64 u64 u8)
open Go.Proofs Tryz
def F_ik(n:Nat)(i:Course)(e:Distance)(a:Int):Option (Ctl Int (Ctl Unit Bool)):=(bif decide (a<(e.Cutoffs.length:Int))then(idx e.Cutoffs a).bind λd=>((F_g n i d.Mat).bind λf=>(bif (!f)then some true else(bif decide (d.Lap<1)then some true else(F_b n d.Limit 0 1099511627776).bind λg=>some (!g))):Option Bool).bind λh=>(bif h then some (.done (.done false))else some (.cont (i64.wrap (a+1))))else some (.done (.cont ())))
def F_fo(n:Nat)(e:Course)(a:Distance):Option Bool:=(iter (F_ik n e a) n 0:Option (Ctl Unit Bool)).bind λf=>match f with|.cont d=>(((F_b n a.Timing 1 3).bind λg=>(bif g then(F_r n e a.Route).bind λh=>(bif h then(bif (a.Extra==(-1))then some true else(F_g n e a.Extra).bind λi=>some i)else some false)else some false):Option Bool).bind λj=>some j)|.done d=>some d
theorem k_fo(n:Nat)(x:Course)(y:Distance):Ks (F_fo n x y) 145 [.agg (Course.c x),.agg (Distance.c y)] [] (λr=>.bool r):=by
 refine Kg 13 func145 Z Z Z Z λr h=>Bd h λz B h=>CtE (b:=z) [0,1] [2,3] Ze Ze Zf ?_ (λF env H E f=>?_)
 .refine G0 1 Z (Lp [0,1] [2,3] (λk=>[(5,I k)]) Ze B Zf (Lr [0,1]) λk O d g=>?_);refine G0 6 Z (Lg 3 Z Z (Q5 Z d (λl d=>?_) (λl d=>?_)))
  .exact Gc 2 Z (Qn d (Gx 1 Z (Y4 g d Z (Lr [0,1]))))
  refine Gc 9 Z (Bd d λP m d=>Iz m Z (Go 6 Z (Bd d λi e d=>Ct i [0,1] [2,3,5] (λi=>[(34,.bool i)]) Ze Zf ?_ (λenv H f=>?_))))
  .refine G0 4 Z (Cz [] e (k_g _ _ _) Z λQ G e=>Go 2 Z (Is 24 e Z (λp e=>?_) (λp e=>?_)))
   .exact Gl 11 Z e [0,1]
   .refine Go 5 Z (Is 29 e Z (λq e=>?_) (λq e=>?_))
    .exact Gl 6 Z e [0,1]
    .exact Go 2 Z (Cz [] e (k_b _ _ _ _) Z λR J e=>Gl 3 Z e [0,1])
  refine Gx 1 Z (Ef f (Cn Z d (λs d=>?_) (λs d=>?_)))
  .refine Gc 8 Z (Qq d ?_);obtain rfl:=Oj g d;exact Gx 1 Z (Qp (Gx 1 Z (Rt h 4 [])))
  exact Gc 8 Z (Qm d (Lr [0,1]))
 subst E;refine Gx 1 Z (Ef f (Gc 1 Z (Bd h λj a h=>Cg j [] [] (λj=>[(4,.bool j)]) Ze Zf ?_ ?_)))
 .refine G0 3 Z (Cz [] a (k_b _ _ _ _) Z λT L a=>Go 1 Z (Is 38 a Z (λt a=>?_) (λt a=>?_)))
  .refine Go 3 Z (Cz [] a (k_r _ _ _) Z λV M a=>Go 2 Z (Is 44 a Z (λu a=>?_) (λu a=>?_)))
   .refine Go 4 Z (Is 48 a Z (λw a=>?_) (λw a=>?_))
    .exact Gl 8 Z a []
    .exact Go 3 Z (Cz [] a (k_g _ _ _) Z λW N a=>Gl 4 Z a [])
   .exact Gl 12 Z a []
  .exact Gl 18 Z a []
 exact QI 1 Z h 4 []
def F_gq(n:Nat)(d:Course)(a:Int):Option (Ctl Int (Ctl Unit Bool)):=(bif decide (a<(d.Mats.length:Int))then(idx d.Mats a).bind λe=>(F_b n e.Kind 1 3).bind λf=>(bif (!f)then some (.done (.done false))else some (.cont (i64.wrap (a+1))))else some (.done (.cont ())))
def F_fe(n:Nat)(i:Course)(e:Int)(d:Leg)(a:Int):Option (Ctl Int (Ctl Unit (Ctl Int (Ctl Unit Bool)))):=(bif decide (a<e)then((idx i.Legs a).bind λf=>(bif (f.From==d.From)then(idx i.Legs a).bind λg=>some (g.To==d.To)else some false):Option Bool).bind λh=>(bif h then some (.done (.done (.done (.done false))))else some (.cont (i64.wrap (a+1))))else some (.done (.cont ())))
def F_cb(n:Nat)(f:Course)(d:Int):Option (Ctl Int (Ctl Unit Bool)):=(bif decide (d<(f.Legs.length:Int))then(idx f.Legs d).bind λa=>((F_g n f a.From).bind λg=>(bif (!g)then some true else(F_g n f a.To).bind λh=>(bif (!h)then some true else(bif decide (a.Min<0)then some true else(bif decide (a.Max<a.Min)then some true else some (decide (68719476736<a.Max)))))):Option Bool).bind λi=>(bif i then some (.done (.done false))else(iter (F_fe n f d a) n 0:Option (Ctl Unit (Ctl Int (Ctl Unit Bool)))).bind λj=>match j with|.cont e=>(some (.cont (i64.wrap (d+1))))|.done e=>some e)else some (.done (.cont ())))
def F_go(n:Nat)(d:Course)(a:Int):Option (Ctl Int (Ctl Unit Bool)):=(bif decide (a<(d.Distances.length:Int))then(idx d.Distances a).bind λe=>(F_fo n d e).bind λf=>(bif (!f)then some (.done (.done false))else some (.cont (i64.wrap (a+1))))else some (.done (.cont ())))
def F_hu(n:Nat)(f:Course)(a:Int):Option (Ctl Int (Ctl Unit Bool)):=(bif decide (a<(f.Waves.length:Int))then(idx f.Waves a).bind λd=>(F_b n d.Gun 0 1099511627776).bind λe=>(bif (!e)then some (.done (.done false))else some (.cont (i64.wrap (a+1))))else some (.done (.cont ())))
def F_hx(n:Nat)(k:Course)(d:Int):Option (Ctl Int (Ctl Unit Bool)):=(bif decide (d<(k.Offences.length:Int))then(idx k.Offences d).bind λa=>((F_b n a.Time 0 68719476736).bind λe=>(bif e then(bif (a.Laps==0)then some (!a.Out)else some false)else some false):Option Bool).bind λf=>((bif (a.Time==0)then(F_b n a.Laps 1 64).bind λg=>(bif g then some (!a.Out)else some false)else some false):Option Bool).bind λh=>((bif (a.Time==0)then(bif (a.Laps==0)then some a.Out else some false)else some false):Option Bool).bind λi=>((bif (!f)then(bif (!h)then some (!i)else some false)else some false):Option Bool).bind λj=>(bif j then some (.done (.done false))else some (.cont (i64.wrap (d+1))))else some (.done (.cont ())))
def F_im(n:Nat)(f:Course)(d:Int):Option (Ctl Int (Ctl Unit Bool)):=(bif decide (d<(f.Categories.length:Int))then(idx f.Categories d).bind λa=>((bif decide (a.From<0)then some true else(bif decide (a.To<a.From)then some true else some (decide (120<a.To)))):Option Bool).bind λe=>(bif e then some (.done (.done false))else some (.cont (i64.wrap (d+1))))else some (.done (.cont ())))
def F_fj(n:Nat)(h:Course)(f:Int)(a:Prize)(d:Int):Option (Ctl Int (Ctl Unit (Ctl Int (Ctl Unit Bool)))):=(bif decide (d<f)then(idx h.Prizes d).bind λe=>((bif (e.Distance==a.Distance)then(bif (e.Category==a.Category)then some (e.Rank==a.Rank)else some false)else some false):Option Bool).bind λg=>(bif g then some (.done (.done (.done (.done false))))else some (.cont (i64.wrap (d+1))))else some (.done (.cont ())))
def F_dq(n:Nat)(f:Course)(d:Int):Option (Ctl Int (Ctl Unit Bool)):=(bif decide (d<(f.Prizes.length:Int))then(idx f.Prizes d).bind λa=>((F_b n a.Distance 0 (i64.wrap ((f.Distances.length:Int)-1))).bind λg=>(bif (!g)then some true else(F_b n a.Category (-1) (i64.wrap ((f.Categories.length:Int)-1))).bind λh=>(bif (!h)then some true else(F_b n a.Rank 1 4000).bind λi=>(bif (!i)then some true else(F_b n a.Amount 1 1125899906842624).bind λj=>some (!j)))):Option Bool).bind λk=>(bif k then some (.done (.done false))else(iter (F_fj n f d a) n 0:Option (Ctl Unit (Ctl Int (Ctl Unit Bool)))).bind λl=>match l with|.cont e=>(some (.cont (i64.wrap (d+1))))|.done e=>some e)else some (.done (.cont ())))
def F_dc(n:Nat)(a:Course):Option Bool:=(iter (F_gq n a) n 0:Option (Ctl Unit Bool)).bind λB=>match B with|.cont i=>((iter (F_cb n a) n 0:Option (Ctl Unit Bool)).bind λE=>match E with|.cont j=>((iter (F_go n a) n 0:Option (Ctl Unit Bool)).bind λk=>match k with|.cont d=>((iter (F_hu n a) n 0:Option (Ctl Unit Bool)).bind λl=>match l with|.cont e=>((iter (F_hx n a) n 0:Option (Ctl Unit Bool)).bind λm=>match m with|.cont f=>((iter (F_im n a) n 0:Option (Ctl Unit Bool)).bind λp=>match p with|.cont g=>((iter (F_dq n a) n 0:Option (Ctl Unit Bool)).bind λq=>match q with|.cont h=>(((F_b n a.Faults.Misses 0 16).bind λr=>(bif r then(F_b n a.Faults.Strays 0 16).bind λs=>(bif s then(F_b n a.Faults.Window 0 4294967296).bind λt=>(bif t then(F_b n a.Faults.Residual 0 4294967296).bind λu=>(bif u then(F_b n a.Faults.Drift 0 100000).bind λw=>(bif w then(F_b n a.Fee 0 1125899906842624).bind λx=>(bif x then(F_b n a.Deadline 0 1099511627776).bind λy=>some y else some false)else some false)else some false)else some false)else some false)else some false):Option Bool).bind λz=>some z)|.done h=>some h)|.done g=>some g)|.done f=>some f)|.done e=>some e)|.done d=>some d)|.done j=>some j)|.done i=>some i
theorem k_dc(n:Nat)(a1:Course):Ks (F_dc n a1) 95 [.agg (Course.c a1)] [] (λr=>.bool r):=by
 refine Kg 12 func95 Z Z Z Z λr h=>Bd h λdr ds h=>CtE (b:=dr) [0] [1] Ze Ze Zf ?_ (λeu env H u d=>?_)
 .refine G0 1 Z (Lp [0] [1] (λcx=>[(3,I cx)]) Ze ds Zf (Lr [0]) λcx gj w aj=>?_);refine G0 6 Z (Lg 3 Z Z (Q5 Z w (λcy w=>?_) (λcy w=>?_)))
  .exact Gc 2 Z (Qn w (Gx 1 Z (Y4 aj w Z (Lr [0]))))
  refine Gc 9 Z (Bd w λgk cz w=>Iz cz Z (Go 2 Z (Cz [] w (k_b _ _ _ _) Z λgl ew w=>Go 3 Z (Cn Z w (λda w=>?_) (λda w=>?_)))))
  .refine Gc 8 Z (Qq w ?_);obtain rfl:=Oj aj w;exact Gx 1 Z (Qp (Gx 1 Z (Rt h 2 [])))
  exact Gc 8 Z (Qm w (Lr [0]))
 subst u;refine Gx 1 Z (Ef d (Gc 6 Z (Bd h λdt db h=>CtE (b:=dt) [0] [1] Ze Ze Zf ?_ (λey env H u d=>?_))))
 .refine G0 1 Z (Lp [0] [1] (λak=>[(4,I ak)]) Ze db Zf (Lr [0]) λak ez j N=>?_);refine G0 6 Z (Lg 3 Z Z (Q5 Z j (λav j=>?_) (λav j=>?_)))
  .exact Gc 2 Z (Qn j (Gx 1 Z (Y4 N j Z (Lr [0]))))
  refine Gc 9 Z (Bd j λfa aw j=>Iz aw Z (Go 7 Z (Bd j λQ f j=>Ct Q [0,1] [1,4,5] (λQ=>[(76,.bool Q)]) Ze Zf ?_ (λenv H d=>?_))))
  .refine G0 4 Z (Cz [] f (k_g _ _ _) Z λfc du f=>Go 2 Z (Is 53 f Z (λax f=>?_) (λax f=>?_)))
   .exact Gl 24 Z f [0,1]
   .refine Go 3 Z (Cz [] f (k_g _ _ _) Z λfd dv f=>Go 3 Z (Is 60 f Z (λay f=>?_) (λay f=>?_)))
    .exact Gl 17 Z f [0,1]
    .refine Go 5 Z (Is 65 f Z (λaz f=>?_) (λaz f=>?_))
     .exact Gl 12 Z f [0,1]
     .refine Go 7 Z (Is 72 f Z (λba f=>?_) (λba f=>?_))
      iterate 2 exact Gl 5 Z f [0,1]
  refine Gx 1 Z (Ef d (Cn Z j (λbb j=>?_) (λbb j=>?_)))
  .refine Gc 9 Z (Qq j ?_);obtain rfl:=Oj N j;exact Gx 1 Z (Qp (Gx 1 Z (Rt h 2 [])))
  refine Gc 7 Z (Bd j λdc dd j=>CtE (b:=dc) [0] [1,4] Ze Ze Zf ?_ (λdw env H u d=>?_))
  .refine G0 1 Z (Lp [0,1] [1,4,5] (λal=>[(6,I al)]) Ze dd Zf (Lr [0,1]) λal fe t ad=>?_);refine G0 8 Z (Q5 Z t (λbc t=>?_) (λbc t=>?_))
   .exact Gc 2 Z (Qn t (Gx 1 Z (Y4 ad t Z (Lr [0]))))
   refine Gc 5 Z (Bd t λR B t=>Ct R [0,1] [1,4,5,6] (λR=>[(101,.bool R)]) Ze Zf ?_ (λenv H d=>?_))
   .refine G0 0 Z (DSs 18 Z (D 3 Z ?_));obtain⟨O,bd,B⟩:=YH B;refine DS.wo (x:=.rp [I O.From,I O.To,I O.Min,I O.Max]) ?_ ?_
    .exact Ix bd ES Gd Z Wp
    refine D 6 Z (DS.is 9 B Z Z Z (λbe B=>?_) (λbe B=>?_))
    .refine D 3 Z ?_;obtain⟨L,bg,B⟩:=YH B;refine DS.v (x:=(.rp [I L.From,I L.To,I L.Min,I L.Max])) (QcN (e:=Leg.c) (l:=a1.Legs) (v:=L) bg ES Gd) ?_ (hg:=(gT Z));exact D 4 Z (Eh Z (Gl 3 Z B [0,1]))
    .exact D 8 Z (Eh Z (Gl 3 Z B [0,1]))
   refine Gx 1 Z (Ef d (Cn Z t (λbh t=>?_) (λbh t=>?_)))
   .refine Gc 8 Z (Qq t ?_);obtain rfl:=Oj ad t;refine Gx 1 Z (Qp (Gx 2 Z (Qq j ?_)));obtain rfl:=Oj N j;exact Gx 1 Z (Qp (Gx 1 Z (Rt h 2 [])))
   exact Gc 8 Z (Qm t (Lr [0,1]))
  subst u;exact Gx 2 Z (Ef d (Gc 5 Z (Qm j (Lr [0]))))
 subst u;refine Gx 1 Z (Ef d (Gc 6 Z (Bd h λde df h=>CtE (b:=de) [0] [1] Ze Ze Zf ?_ (λdx env H u d=>?_))))
 .refine G0 1 Z (Lp [0] [1] (λam=>[(7,I am)]) Ze df Zf (Lr [0]) λam fg m ae=>?_);refine G0 6 Z (Lg 3 Z Z (Q5 Z m (λbi m=>?_) (λbi m=>?_)))
  .exact Gc 2 Z (Qn m (Gx 1 Z (Y4 ae m Z (Lr [0]))))
  refine Gc 5 Z (DSs 6 Z (D 4 Z ?_));obtain⟨M,bj,m⟩:=YH m;refine DS.wo (x:=.rp [.str M.Name,.rsl 3 (map Part.enc M.Route),I M.Timing,.rsl 3 (map Cutoff.c M.Cutoffs),I M.Extra]) ?_ ?_
  .exact Ix bj EY E0 Z Wp
  refine D 1 Z (Eh Z (Cz [] m (k_fo _ _ _) Z λfh dy m=>Go 3 Z (Cn Z m (λbk m=>?_) (λbk m=>?_))))
  .refine Gc 8 Z (Qq m ?_);obtain rfl:=Oj ae m;exact Gx 1 Z (Qp (Gx 1 Z (Rt h 2 [])))
  exact Gc 8 Z (Qm m (Lr [0]))
 subst u;refine Gx 1 Z (Ef d (Gc 6 Z (Bd h λdg dh h=>CtE (b:=dg) [0] [1] Ze Ze Zf ?_ (λdz env H u d=>?_))))
 .refine G0 1 Z (Lp [0] [1] (λan=>[(8,I an)]) Ze dh Zf (Lr [0]) λan fi p af=>?_);refine G0 6 Z (Lg 3 Z Z (Q5 Z p (λbl p=>?_) (λbl p=>?_)))
  .exact Gc 2 Z (Qn p (Gx 1 Z (Y4 af p Z (Lr [0]))))
  refine Gc 9 Z (Bd p λfj bm p=>Iz bm Z (Go 2 Z (Cz [] p (k_b _ _ _ _) Z λfk ea p=>Go 3 Z (Cn Z p (λbn p=>?_) (λbn p=>?_)))))
  .refine Gc 8 Z (Qq p ?_);obtain rfl:=Oj af p;exact Gx 1 Z (Qp (Gx 1 Z (Rt h 2 [])))
  exact Gc 8 Z (Qm p (Lr [0]))
 subst u;refine Gx 1 Z (Ef d (Gc 6 Z (Bd h λdi dj h=>CtE (b:=di) [0] [1] Ze Ze Zf ?_ (λeb env H u d=>?_))))
 .refine G0 1 Z (Lp [0] [1] (λao=>[(9,I ao)]) Ze dj Zf (Lr [0]) λao fm g ag=>?_);refine G0 6 Z (Lg 3 Z Z (Q5 Z g (λbo g=>?_) (λbo g=>?_)))
  .exact Gc 2 Z (Qn g (Gx 1 Z (Y4 ag g Z (Lr [0]))))
  refine Gc 9 Z (Bd g λfo bp g=>Iz bp Z (Go 6 Z (Bd g λT y g=>Ct T [0,1] [1,9,10] (λT=>[(11,.bool T)]) Ze Zf ?_ (λenv H d=>?_))))
  .refine G0 3 Z (Cz [] y (k_b _ _ _ _) Z λfp ec y=>Go 1 Z (Is 147 y Z (λbq y=>?_) (λbq y=>?_)))
   .refine Go 5 Z (Is 152 y Z (λbr y=>?_) (λbr y=>?_))
    iterate 2 exact Gl 6 Z y [0,1]
   .exact Gl 11 Z y [0,1]
  refine Gx 1 Z (Ef d (Gc 1 Z (Bd g λV z g=>Ct V [0,1] [1,9,10,11] (λV=>[(12,.bool V)]) Ze Zf ?_ (λenv H d=>?_))))
  .refine G0 5 Z (Is 160 z Z (λbs z=>?_) (λbs z=>?_))
   .refine Go 2 Z (Cz [] z (k_b _ _ _ _) Z λfq ed z=>Go 2 Z (Is 165 z Z (λbu z=>?_) (λbu z=>?_)))
    iterate 2 exact Gl 6 Z z [0,1]
   .exact Gl 11 Z z [0,1]
  refine Gx 1 Z (Ef d (Gc 1 Z (Bd g λW E g=>Ct W [0] [1,9,11,12] (λW=>[(13,.bool W)]) Ze Zf ?_ (λenv H d=>?_))))
  .refine G0 5 Z (Is 173 E Z (λbv E=>?_) (λbv E=>?_))
   .refine Go 5 Z (Is 178 E Z (λbw E=>?_) (λbw E=>?_))
    iterate 2 exact Gl 5 Z E [0]
   .exact Gl 10 Z E [0]
  refine Gx 1 Z (Ef d (Gc 1 Z (Bd g λX F g=>Ct X [0] [1,9] (λX=>[(191,.bool X)]) Ze Zf ?_ (λenv H d=>?_))))
  .refine G0 4 Z (Is 184 F Z (λbx F=>?_) (λbx F=>?_))
   .refine Go 4 Z (Is 188 F Z (λbz F=>?_) (λbz F=>?_))
    iterate 2 exact Gl 4 Z F [0]
   .exact Gl 8 Z F [0]
  refine Gx 1 Z (Ef d (Cn Z g (λca g=>?_) (λca g=>?_)))
  .refine Gc 8 Z (Qq g ?_);obtain rfl:=Oj ag g;exact Gx 1 Z (Qp (Gx 1 Z (Rt h 2 [])))
  exact Gc 8 Z (Qm g (Lr [0]))
 subst u;refine Gx 1 Z (Ef d (Gc 6 Z (Bd h λdk dl h=>CtE (b:=dk) [0] [1] Ze Ze Zf ?_ (λee env H u d=>?_))))
 .refine G0 1 Z (Lp [0] [1] (λaq=>[(14,I aq)]) Ze dl Zf (Lr [0]) λaq fr q ah=>?_);refine G0 6 Z (Lg 3 Z Z (Q5 Z q (λcb q=>?_) (λcb q=>?_)))
  .exact Gc 2 Z (Qn q (Gx 1 Z (Y4 ah q Z (Lr [0]))))
  refine Gc 9 Z (Bd q λfs cc q=>Iz cc Z (Go 6 Z (Bd q λY G q=>Ct Y [0] [1,14] (λY=>[(218,.bool Y)]) Ze Zf ?_ (λenv H d=>?_))))
  .refine G0 5 Z (Is 207 G Z (λcd G=>?_) (λcd G=>?_))
   .exact Gl 12 Z G [0]
   .refine Go 7 Z (Is 214 G Z (λce G=>?_) (λce G=>?_))
    iterate 2 exact Gl 5 Z G [0]
  refine Gx 1 Z (Ef d (Cn Z q (λcf q=>?_) (λcf q=>?_)))
  .refine Gc 8 Z (Qq q ?_);obtain rfl:=Oj ah q;exact Gx 1 Z (Qp (Gx 1 Z (Rt h 2 [])))
  exact Gc 8 Z (Qm q (Lr [0]))
 subst u;refine Gx 1 Z (Ef d (Gc 6 Z (Bd h λdm dn h=>CtE (b:=dm) [0] [1] Ze Ze Zf ?_ (λef env H u d=>?_))))
 .refine G0 1 Z (Lp [0] [1] (λar=>[(16,I ar)]) Ze dn Zf (Lr [0]) λar ft k P=>?_);refine G0 6 Z (Lg 3 Z Z (Q5 Z k (λcg k=>?_) (λcg k=>?_)))
  .exact Gc 2 Z (Qn k (Gx 1 Z (Y4 P k Z (Lr [0]))))
  refine Gc 9 Z (Bd k λfu ch k=>Iz ch Z (Go 7 Z (Bd k λaa i k=>Ct aa [0,1] [1,16,17] (λaa=>[(260,.bool aa)]) Ze Zf ?_ (λenv H d=>?_))))
  .refine G0 5 Z (Lg 1 Z Z (Cz [] i (k_b _ _ _ _) Z λfv eg i=>Go 2 Z (Is 239 i Z (λci i=>?_) (λci i=>?_))))
   .exact Gl 22 Z i [0,1]
   .refine Go 4 Z (Lg 1 Z Z (Cz [] i (k_b _ _ _ _) Z λfw eh i=>Go 3 Z (Is 249 i Z (λcj i=>?_) (λcj i=>?_))))
    .exact Gl 12 Z i [0,1]
    .refine Go 2 Z (Cz [] i (k_b _ _ _ _) Z λfx ei i=>Go 3 Z (Is 255 i Z (λck i=>?_) (λck i=>?_)))
     .exact Gl 6 Z i [0,1]
     .exact Go 2 Z (Cz [] i (k_b _ _ _ _) Z λfy ej i=>Gl 3 Z i [0,1])
  refine Gx 1 Z (Ef d (Cn Z k (λcl k=>?_) (λcl k=>?_)))
  .refine Gc 9 Z (Qq k ?_);obtain rfl:=Oj P k;exact Gx 1 Z (Qp (Gx 1 Z (Rt h 2 [])))
  refine Gc 7 Z (Bd k λdp dq k=>CtE (b:=dp) [0] [1,16] Ze Ze Zf ?_ (λek env H u d=>?_))
  .refine G0 1 Z (Lp [0,1] [1,16,17] (λau=>[(18,I au)]) Ze dq Zf (Lr [0,1]) λau ga s ai=>?_);refine G0 8 Z (Q5 Z s (λcm s=>?_) (λcm s=>?_))
   .exact Gc 2 Z (Qn s (Gx 1 Z (Y4 ai s Z (Lr [0]))))
   refine Gc 9 Z (Bd s λgb cn s=>Iz cn Z (Go 6 Z (Bd s λab J s=>Ct ab [0,1] [1,16,17,18] (λab=>[(289,.bool ab)]) Ze Zf ?_ (λenv H d=>?_))))
   .refine G0 7 Z (Is 276 J Z (λco J=>?_) (λco J=>?_))
    .refine Go 7 Z (Is 283 J Z (λcp J=>?_) (λcp J=>?_))
     iterate 2 exact Gl 7 Z J [0,1]
    .exact Gl 14 Z J [0,1]
   refine Gx 1 Z (Ef d (Cn Z s (λcq s=>?_) (λcq s=>?_)))
   .refine Gc 8 Z (Qq s ?_);obtain rfl:=Oj ai s;refine Gx 1 Z (Qp (Gx 2 Z (Qq k ?_)));obtain rfl:=Oj P k;exact Gx 1 Z (Qp (Gx 1 Z (Rt h 2 [])))
   exact Gc 8 Z (Qm s (Lr [0,1]))
  subst u;exact Gx 2 Z (Ef d (Gc 5 Z (Qm k (Lr [0]))))
 subst u;refine Gx 1 Z (Ef d (Gc 9 Z (Bd h λac a h=>Cg ac [] [] (λac=>[(2,.bool ac)]) Ze Zf ?_ ?_)))
 .refine G0 3 Z (Cz [] a (k_b _ _ _ _) Z λgc el a=>Go 1 Z (Is 295 a Z (λcr a=>?_) (λcr a=>?_)))
  .refine Go 2 Z (Cz [] a (k_b _ _ _ _) Z λgd em a=>Go 2 Z (Is 300 a Z (λcs a=>?_) (λcs a=>?_)))
   .refine Go 2 Z (Cz [] a (k_b _ _ _ _) Z λge en a=>Go 2 Z (Is 305 a Z (λct a=>?_) (λct a=>?_)))
    .refine Go 2 Z (Cz [] a (k_b _ _ _ _) Z λgf eo a=>Go 2 Z (Is 310 a Z (λcu a=>?_) (λcu a=>?_)))
     .refine Go 2 Z (Cz [] a (k_b _ _ _ _) Z λgg ep a=>Go 2 Z (Is 315 a Z (λcv a=>?_) (λcv a=>?_)))
      .refine Go 2 Z (Cz [] a (k_b _ _ _ _) Z λgh es a=>Go 2 Z (Is 320 a Z (λcw a=>?_) (λcw a=>?_)))
       .exact Go 2 Z (Cz [] a (k_b _ _ _ _) Z λgi et a=>Gl 3 Z a [])
       .exact Gl 6 Z a []
      .exact Gl 11 Z a []
     .exact Gl 16 Z a []
    .exact Gl 21 Z a []
   .exact Gl 26 Z a []
  .exact Gl 31 Z a []
 exact QI 1 Z h 2 []
def F_fz(n:Nat)(d:Cond)(rec205:Cond->Option Bool)(a:Int):Option (Ctl Int (Ctl Unit Bool)):=(bif decide (a<(d.Parts.length:Int))then(idx d.Parts a).bind λe=>(rec205 e).bind λf=>(bif (!f)then some (.done (.done false))else some (.cont (i64.wrap (a+1))))else some (.done (.cont ())))
def B_u(rec205:Cond->Option Bool)(n:Nat)(a:Cond):Option Bool:=(bif (a.Kind==1)then((bif decide (1<=a.Var)then(bif decide (a.Var<=3)then(bif decide (0<=a.N)then(bif decide (a.N<=10000)then some ((a.Parts.length:Int)==0)else some false)else some false)else some false)else some false):Option Bool).bind λk=>some k else((bif (a.Kind==2)then some (a.Kind==2)else some (a.Kind==3)):Option Bool).bind λf=>((bif f then((bif decide ((a.Parts.length:Int)<1)then some true else some (decide (16<(a.Parts.length:Int)))):Option Bool).bind λg=>(bif g then some (.done false)else some (.cont ()))else(bif (a.Kind==4)then(bif ((a.Parts.length:Int) != 1)then some (.done false)else some (.cont ()))else some (.done false))):Option (Ctl Unit Bool)).bind λh=>match h with|.cont d=>(((bif (a.Var != 0)then some true else some (a.N != 0)):Option Bool).bind λi=>(bif i then some false else(iter (F_fz n a rec205) n 0:Option (Ctl Unit Bool)).bind λj=>match j with|.cont e=>(some true)|.done e=>some e))|.done d=>some d)
theorem QaQ(rec205:Cond->Option Bool)(k:∀(l:Cond) (r:Bool),rec205 l=some r->Csm prog 232 [.agg (Cond.c l)] [] (λr=>.bool r) r)(n:Nat)(l:Cond)(r:Bool)(h:B_u rec205 n l=some r):Csm prog 232 [.agg (Cond.c l)] [] (λr=>.bool r) r:=by
 refine QQ func232 Z Z Z ?_;refine G0 20 Z (Cn Z h (λP h=>?_) (λP h=>?_))
 .refine Gc 1 Z (Bd h λu e h=>Ct u [] [] (λu=>[(2,.bool u)]) Ze Zf ?_ (λenv H f=>?_))
  .refine G0 5 Z (Is 11 e Z (λQ e=>?_) (λQ e=>?_))
   .refine Go 5 Z (Is 16 e Z (λR e=>?_) (λR e=>?_))
    .refine Go 5 Z (Is 21 e Z (λw e=>?_) (λw e=>?_))
     .refine Go 5 Z (Is 26 e Z (λx e=>?_) (λx e=>?_))
      .exact Go 2 Z (Lm Z (Gl 4 Z e []))
      .exact Gl 7 Z e []
     .exact Gl 12 Z e []
    .exact Gl 17 Z e []
   .exact Gl 22 Z e []
  exact Gx 1 Z (Ef f (QI 3 Z h 2 []))
 refine Gc 7 Z (Bd h λm g h=>Ct m [0] [1,5] (λm=>[(32,.bool m)]) Ze Zf ?_ (λenv H f=>?_))
 .refine G0 0 Z (Cn Z g (λy g=>?_) (λy g=>?_))
  .exact YN 1 Z g [0]
  exact YN 4 Z g [0]
 refine Gx 1 Z (Ef f (Bd h λT a h=>CtE (b:=T) [0] [1] Ze Ze Zf ?_ (λaa env H hb f=>?_)))
 .refine G0 0 Z (Cn Z a (λz a=>?_) (λz a=>?_))
  .refine Gc 1 Z (Bd a λp i a=>Ct p [0] [1] (λp=>[(44,.bool p)]) Ze Zf ?_ (λenv H f=>?_))
   .refine G0 3 Z (Lg 2 Z Z (Is 39 i Z (λB i=>?_) (λB i=>?_)))
    .exact Gl 6 Z i [0]
    .exact Go 2 Z (Lm Z (Gl 3 Z i [0]))
   refine Gx 1 Z (Ef f (Cn Z a (λE a=>?_) (λE a=>?_)))
   .refine Gc 6 Z ?_;cases a;exact Qp (Gx 2 Z (Rt h 2 []))
   refine Gc 1 Z ?_;cases a;exact YQ Z (Lr [0])
  refine Gc 6 Z (Q5 Z a (λF a=>?_) (λF a=>?_))
  .refine Gc 6 Z ?_;cases a;exact Qp (Gx 2 Z (Rt h 2 []))
  refine Gc 4 Z (Lg 3 Z Z (Cn Z a (λG a=>?_) (λG a=>?_)))
  .refine Gc 6 Z ?_;cases a;exact Qp (Gx 2 Z (Rt h 2 []))
  refine Gc 1 Z ?_;cases a;exact YQ Z (Lr [0])
 subst hb;refine Gx 2 Z (Ef f (Gc 2 Z (Bd h λq j h=>Ct q [0] [1] (λq=>[(58,.bool q)]) Ze Zf ?_ (λenv H f=>?_))))
 .refine G0 5 Z (Is 54 j Z (λJ j=>?_) (λJ j=>?_))
  iterate 2 exact Gl 5 Z j [0]
 refine Gx 1 Z (Ef f (Cn Z h (λL h=>?_) (λL h=>?_)))
 .exact QI 7 Z h 2 []
 refine Gc 8 Z (Bd h λV W h=>CgE (b:=V) [] [] Ze Ze Zf ?_ (λab X=>?_))
 .refine G0 1 Z (Lp [0] [1] (λt=>[(3,I t)]) Ze W Zf (Lr [0]) λt ad d s=>?_);refine G0 6 Z (Lg 3 Z Z (Q5 Z d (λM d=>?_) (λM d=>?_)))
  .exact Gc 2 Z (Qn d (Gx 1 Z (Y4 s d Z (Lr []))))
  refine Gc 9 Z (Bd d λY N d=>IzE N (Qam Y) Z (Go 1 Z (Cz [] d (k _) Z λae ac d=>Go 3 Z (Cn Z d (λO d=>?_) (λO d=>?_)))))
  .refine Gc 8 Z (Qq d ?_);obtain rfl:=Oj s d;exact Gx 1 Z (Qp (Gx 1 Z (Rt h 2 [])))
  exact Gc 8 Z (Qm d (Lr [0]))
 subst X;exact QI 6 Z h 2 []
def F_u:Nat->Cond->Option Bool
  |0=>λ_=>none
  |n+1=>B_u (F_u n) n
theorem k_u(n:Nat):∀(a:Cond) (r:Bool),F_u n a=some r->Csm prog 232 [.agg (Cond.c a)] [] (λr=>.bool r) r:=by
  induction n with
  |zero=>intro a r h;cases h
  |succ n ih=>intro a r h;exact QaQ _ ih n a r h
def F_by(n:Nat)(a:Cond):Option Int:=(F_h n a 0).bind λd=>(bif decide (256<d)then some 2 else(F_u n a).bind λe=>(bif (!e)then some 71 else some 0))
theorem k_by(n:Nat)(a:Cond):Ks (F_by n a) 207 [.agg (Cond.c a)] [] (λr=>I r):=by
 refine Kg 10 func207 Z Z Z Z λr h=>Cz [] h (k_h _ _ _) Z λi f h=>Go 3 Z (Cn Z h (λd h=>?_) (λd h=>?_))
 .exact QI 7 Z h 2 []
 refine Gc 6 Z (Cz [] h (k_u _ _) Z λj g h=>Go 3 Z (Cn Z h (λe h=>?_) (λe h=>?_)))
 .exact QI 7 Z h 2 []
 exact QI 8 Z h 2 []
def F_hf(n:Nat)(m:List Step)(rec203:(List Step)->Option Bool)(d:Int):Option (Ctl Int (Ctl Unit Bool)):=(bif decide (d<(m.length:Int))then(idx m d).bind λa=>((bif (a.Kind==1)then((bif decide (a.By<1)then some true else(bif decide (5<a.By)then some true else(F_bf n a.Cond).bind λf=>(bif (!f)then some true else(bif ((a.Then.length:Int) != 0)then some true else some ((a.Else.length:Int) != 0))))):Option Bool).bind λg=>(bif g then some (.done (.done (.done false)))else some (.cont ()))else(bif (a.Kind==2)then((bif (a.By != 0)then some true else(F_by n a.Cond).bind λh=>(bif (h != 0)then some true else(bif ((a.Then.length:Int)==0)then some true else(rec203 a.Then).bind λi=>(bif (!i)then some true else(rec203 a.Else).bind λj=>some (!j))))):Option Bool).bind λk=>(bif k then some (.done (.done (.done false)))else some (.cont ()))else some (.done (.done (.done false))))):Option (Ctl Unit (Ctl Int (Ctl Unit Bool)))).bind λl=>match l with|.cont e=>(some (.cont (i64.wrap (d+1))))|.done e=>some e else some (.done (.cont ())))
def B_f(rec203:(List Step)->Option Bool)(n:Nat)(e:List Step):Option Bool:=(iter (F_hf n e rec203) n 0:Option (Ctl Unit Bool)).bind λd=>match d with|.cont a=>(some true)|.done a=>some a
theorem QaP(rec203:(List Step)->Option Bool)(i:∀(m:List Step) (r:Bool),rec203 m=some r->Csm prog 146 [.rsl 8 (map Step.enc m)] [] (λr=>.bool r) r)(n:Nat)(m:List Step)(r:Bool)(h:B_f rec203 n m=some r):Csm prog 146 [.rsl 8 (map Step.enc m)] [] (λr=>.bool r) r:=by
 refine QQ func146 Z Z Z ?_;refine G0 11 Z (Bd h λM N h=>CgE (b:=M) [] [] Ze Ze Zf ?_ (λR Q=>?_))
 .refine G0 1 Z (Lp [] [0] (λp=>[(3,I p)]) Ze N Zf (Lr []) λp aa f g=>?_);refine G0 5 Z (Lg 3 Z Z (Q5 Z f (λq f=>?_) (λq f=>?_)))
  .exact Gc 2 Z (Qn f (Gx 1 Z (Y4 g f Z (Lr []))))
  refine Gc 8 Z (Bd f λO s f=>IzE s (Yw O) Z (Go 18 Z (Bd f λP d f=>CtE (b:=P) [] [0,3] Ze Ze Zf ?_ (λT env H hb j=>?_))))
  .refine G0 0 Z (Cn Z d (λt d=>?_) (λt d=>?_))
   .refine Gc 1 Z (Bd d λk e d=>Ct k [] [0,3] (λk=>[(44,.bool k)]) Ze Zf ?_ (λenv H j=>?_))
    .refine G0 5 Z (Is 22 e Z (λu e=>?_) (λu e=>?_))
     .exact Gl 23 Z e []
     .refine Go 5 Z (Is 27 e Z (λw e=>?_) (λw e=>?_))
      .exact Gl 18 Z e []
      .refine Go 2 Z (Cz [] e (k_bf _ _) Z λab V e=>Go 3 Z (Is 33 e Z (λx e=>?_) (λx e=>?_)))
       .exact Gl 12 Z e []
       .refine Go 2 Z (Lg 3 Z Z (Is 39 e Z (λy e=>?_) (λy e=>?_)))
        .exact Gl 6 Z e []
        .exact Go 2 Z (Lm Z (Gl 3 Z e []))
    refine Gx 1 Z (Ef j (Cn Z d (λz d=>?_) (λz d=>?_)))
    .refine Gc 6 Z ?_;cases d;refine Qp (Gx 3 Z (Qq f ?_));obtain rfl:=Oj g f;exact Gx 1 Z (Qp (Gx 1 Z (Rt h 2 [])))
    refine Gc 1 Z ?_;cases d;exact YQ Z (Lr [])
   refine Gc 6 Z (Q5 Z d (λB d=>?_) (λB d=>?_))
   .refine Gc 6 Z ?_;cases d;refine Qp (Gx 3 Z (Qq f ?_));obtain rfl:=Oj g f;exact Gx 1 Z (Qp (Gx 1 Z (Rt h 2 [])))
   refine Gc 1 Z (Bd d λl a d=>Ct l [] [0,3] (λl=>[(73,.bool l)]) Ze Zf ?_ (λenv H j=>?_))
   .refine G0 5 Z (Is 50 a Z (λE a=>?_) (λE a=>?_))
    .exact Gl 24 Z a []
    .refine Go 2 Z (Cz [] a (k_by _ _) Z λac W a=>Go 3 Z (Is 56 a Z (λF a=>?_) (λF a=>?_)))
     .exact Gl 18 Z a []
     .refine Go 2 Z (Lg 3 Z Z (Is 62 a Z (λG a=>?_) (λG a=>?_)))
      .exact Gl 12 Z a []
      .refine Go 2 Z (Cz [] a (i _) Z λad X a=>Go 3 Z (Is 68 a Z (λJ a=>?_) (λJ a=>?_)))
       .exact Gl 6 Z a []
       .exact Go 2 Z (Cz [] a (i _) Z λae Y a=>Gl 3 Z a [])
   refine Gx 1 Z (Ef j (Cn Z d (λL d=>?_) (λL d=>?_)))
   .refine Gc 6 Z ?_;cases d;refine Qp (Gx 3 Z (Qq f ?_));obtain rfl:=Oj g f;exact Gx 1 Z (Qp (Gx 1 Z (Rt h 2 [])))
   refine Gc 1 Z ?_;cases d;exact YQ Z (Lr [])
  subst hb;exact Gx 3 Z (Ef j (Gc 5 Z (Qm f (Lr []))))
 subst Q;exact QI 6 Z h 2 []
def F_f:Nat->(List Step)->Option Bool
  |0=>λ_=>none
  |n+1=>B_f (F_f n) n
theorem k_f(n:Nat):∀(a:List Step) (r:Bool),F_f n a=some r->Csm prog 146 [.rsl 8 (map Step.enc a)] [] (λr=>.bool r) r:=by
  induction n with
  |zero=>intro a r h;cases h
  |succ n ih=>intro a r h;exact QaP _ ih n a r h
def F_ec(n:Nat)(a:List Step):Option Int:=(F_j n a 0).bind λd=>((bif decide (64<d.1)then some true else some (decide (256<d.2))):Option Bool).bind λf=>(bif f then some 2 else((bif ((a.length:Int)==0)then some true else(F_f n a).bind λe=>some (!e)):Option Bool).bind λg=>(bif g then some 71 else some 0))
theorem k_ec(n:Nat)(j:List Step):Ks (F_ec n j) 96 [.rsl 8 (map Step.enc j)] [] (λr=>I r):=by
 refine Kg 8 func96 Z Z Z Z λr h=>Cd [] h (k_j _ _ _) Z λt q h=>Fg 9 Z Z (Bd h λe d h=>Ct e [] [0] (λe=>[(15,.bool e)]) Ze Zf ?_ (λenv H k=>?_))
 .refine G0 4 Z (Is 12 d Z (λl d=>?_) (λl d=>?_))
  iterate 2 exact Gl 4 Z d []
 refine Gx 1 Z (Ef k (Cn Z h (λm h=>?_) (λm h=>?_)))
 .exact QI 7 Z h 2 []
 refine Gc 4 Z (Bd h λf a h=>Cg f [] [] (λf=>[(23,.bool f)]) Ze Zf ?_ ?_)
 .refine G0 2 Z (Lg 2 Z Z (Is 19 a Z (λg a=>?_) (λg a=>?_)))
  .exact Gl 5 Z a []
  .exact Go 1 Z (Cz [] a (k_f _ _) Z λs p a=>Gl 3 Z a [])
 refine Cn Z h (λi h=>?_) (λi h=>?_)
 .exact QI 7 Z h 2 []
 exact QI 8 Z h 2 []
def F_ff(n:Nat)(i:List Part)(d:(List Int)×Int)(e:List Int)(a:(List Int)×Int):Option (Ctl ((List Int)×Int) (List Int)):=((idx i d.2).bind λf=>(bif decide (a.2<f.Laps)then some (decide ((a.1.length:Int)<=256))else some false):Option Bool).bind λg=>(bif g then(app a.1 e).bind λh=>some (.cont (h,i64.wrap (a.2+1)))else some (.done a.1))
def F_fh(n:Nat)(d:List Part)(rec207:(List Part)->Option (List Int))(a:(List Int)×Int):Option (Ctl ((List Int)×Int) (List Int)):=((bif decide (a.2<(d.length:Int))then some (decide ((a.1.length:Int)<=256))else some false):Option Bool).bind λe=>(bif e then((idx d a.2).bind λf=>(bif (f.Laps==0)then(idx d a.2).bind λg=>(app a.1 [g.Mat]).bind λh=>some h else(idx d a.2).bind λi=>(rec207 i.Parts).bind λj=>(iter (F_ff n d a j) n (a.1,0):Option (List Int)).bind λk=>some k):Option (List Int)).bind λl=>some (.cont (l,i64.wrap (a.2+1)))else some (.done a.1))
def B_v(rec207:(List Part)->Option (List Int))(n:Nat)(d:List Part):Option (List Int):=(iter (F_fh n d rec207) n (([]:List Int),0):Option (List Int)).bind λa=>some a
theorem QaL(rec207:(List Part)->Option (List Int))(w:∀(x:List Part) (r:List Int),rec207 x=some r->C prog 147 [.rsl 3 (map Part.enc x)] [] (RQ (λr=>.osl 0 0 r.length 1) (λr=>[.row 3 1 (map (Qe .i64) r)]) r))(n:Nat)(x:List Part)(r:List Int)(h:B_v rec207 n x=some r):C prog 147 [.rsl 3 (map Part.enc x)] [] (RQ (λr=>.osl 0 0 r.length 1) (λr=>[.row 3 1 (map (Qe .i64) r)]) r):=by
 refine QQ func147 Z Z Z ?_;refine G0 7 Z (vH (El (xs:=[]) (es:=map (Qe .i64) []) QB Z Z Z Z Z trivial Z Z) ?_);refine Fg 9 Z Z (Bd h λj T h=>Cg j [0] [] (λj=>[(3,.osl 0 0 j.length 1)]) (λj=>[(0,.row 3 1 (map (Qe .i64) j))]) Zf ?_ ?_)
 .refine G0 1 Z (Lp [0] [0] (λk=>[(3,.osl 0 0 k.1.length 1),(4,I k.2)]) (λk=>[(0,.row 3 1 (map (Qe .i64) k.1))]) T Zf (Lr [0]) λk ab d z=>?_);refine G0 2 Z (Bd d λt l d=>Ct t [0] [0,3,4] (λt=>[(16,.bool t)]) Ze Zf ?_ (λenv H s=>?_))
  .refine G0 3 Z (Lg 2 Z Z (Is 12 l Z (λB l=>?_) (λB l=>?_)))
   iterate 2 exact Gl 5 Z l [0]
  refine Gx 1 Z (Ef s (Q5 Z d (λE d=>?_) (λE d=>?_)))
  .exact Gc 2 Z (Qn d (Gx 1 Z (cQo z d (Lr [0]))))
  refine Gc 3 Z (Bd d λm a d=>Cg m [0] [0,4] (λm=>[(3,.osl 0 0 m.length 1)]) (λm=>[(0,.row 3 1 (map (Qe .i64) m))]) Zf ?_ ?_)
  .refine G0 6 Z (Bd a λV F a=>IzE F (QC V) Z (Go 5 Z (Cn Z a (λG a=>?_) (λG a=>?_))))
   .refine Gc 5 Z (Bd a λy J a=>IzE J (QC y) Z (Go 2 Z (vH (El (xs:=[.tmp 30]) (es:=map (Qe .i64) [y.Mat]) QB Z Z Z Z Z ⟨Z,trivial⟩ Z Z) ?_)));refine FE Z (Bd a λac L a=>vH (QT (e:=(Qe .i64)) L QB EB (Y6 (i:=1))) ?_);exact FE Z (Gl 6 Z a [2])
   refine Gc 6 Z (Bd a λW M a=>IzE M (QC W) Z (Go 2 Z (Cd [] a (w _) Z λad aa a=>Fg 8 Z Z (Bd a λp X a=>Ct p [0] [0,4] (λp=>[(3,.osl 0 0 p.length 1)]) (λp=>[(0,.row 3 1 (map (Qe .i64) p))]) Zf ?_ (λenv H s=>?_)))))
   .refine G0 1 Z (Lp [0,1] [0,4,5] (λq=>[(3,.osl 0 0 q.1.length 1),(6,I q.2)]) (λq=>[(0,.row 3 1 (map (Qe .i64) q.1))]) X Zf (Lr [0,1]) λq ae f N=>?_);refine G0 2 Z (Bd f λu g f=>Ct u [0,1] [0,3,4,5,6] (λu=>[(50,.bool u)]) Ze Zf ?_ (λenv H s=>?_))
    .refine G0 4 Z (Bd g λY O g=>IzE O (QC Y) Z (Go 4 Z (Is 46 g Z (λP g=>?_) (λP g=>?_))))
     iterate 2 exact Gl 5 Z g [0,1]
    refine Gx 1 Z (Ef s (Q5 Z f (λQ f=>?_) (λQ f=>?_)))
    .exact Gc 2 Z (Qn f (Gx 1 Z (cQo N f (Lr [0]))))
    refine Gc 7 Z (Bd f λaf R f=>vH (QT (e:=(Qe .i64)) R QB EB (Y6 (i:=1))) ?_);exact Fg 9 Z Z (Qm f (Lr [2,1]))
   refine Gx 1 Z ?_;cases a;exact QbG (Eo s (Lr [0]))
  exact Gc 5 Z (Qm d (Lr [0]))
 exact QI 7 Z h 2 [0]
def F_v:Nat->(List Part)->Option (List Int)
  |0=>λ_=>none
  |n+1=>B_v (F_v n) n
theorem k_v(n:Nat):∀(a:List Part) (r:List Int),F_v n a=some r->C prog 147 [.rsl 3 (map Part.enc a)] [] (RQ (λr=>.osl 0 0 r.length 1) (λr=>[.row 3 1 (map (Qe .i64) r)]) r):=by
  induction n with
  |zero=>intro a r h;cases h
  |succ n ih=>intro a r h;exact QaL _ ih n a r h
def F_du(n:Nat)(d:Course)(h:Int)(i:Int)(a:Int):Option (Ctl Int (Ctl Unit Int)):=(bif decide (a<(d.Legs.length:Int))then((idx d.Legs a).bind λe=>(bif (e.From==h)then(idx d.Legs a).bind λf=>some (f.To==i)else some false):Option Bool).bind λg=>(bif g then some (.done (.done a))else some (.cont (i64.wrap (a+1))))else some (.done (.cont ())))
def F_ao(n:Nat)(e:Course)(f:Int)(g:Int):Option Int:=(iter (F_du n e f g) n 0:Option (Ctl Unit Int)).bind λd=>match d with|.cont a=>(some (-1))|.done a=>some a
theorem k_ao(n:Nat)(p:Course)(q:Int)(s:Int):Ks (F_ao n p q s) 148 [.agg (Course.c p),I q,I s] [] (λr=>I r):=by
 refine Kg 12 func148 Z Z Z Z λr h=>Bd h λt u h=>CgE (b:=t) [] [] Ze Ze Zf ?_ (λx w=>?_)
 .refine G0 1 Z (Lp [0] [1,2,3] (λg=>[(7,I g)]) Ze u Zf (Lr [0]) λg y a e=>?_);refine G0 6 Z (Lg 3 Z Z (Q5 Z a (λi a=>?_) (λi a=>?_)))
  .exact Gc 2 Z (Qn a (Gx 1 Z (Y4 e a Z (Lr []))))
  refine Gc 5 Z (Bd a λf d a=>Cg f [0] [1,2,3,7] (λf=>[(32,.bool f)]) Ze Zf ?_ ?_)
  .refine G0 4 Z (Bd d λz j d=>Iz j Z (Go 5 Z (Is 23 d Z (λk d=>?_) (λk d=>?_))))
   .exact Go 3 Z (Bd d λB l d=>Iz l Z (Gl 6 Z d [0]))
   .exact Gl 10 Z d [0]
  refine Cn Z a (λm a=>?_) (λm a=>?_)
  .refine Gc 9 Z (Qq a ?_);obtain rfl:=Oj e a;exact Gx 1 Z (Qp (Gx 1 Z (Rt h 6 [])))
  exact Gc 8 Z (Qm a (Lr [0]))
 subst w;exact QI 6 Z h 6 []
def F_fm(n:Nat)(d:List Int)(g:Int)(a:Int×Int):Option (Ctl (Int×Int) Int):=(bif decide (a.2<(d.length:Int))then(idx d a.2).bind λe=>((bif (e==g)then some (i64.wrap (a.1+1))else some a.1):Option Int).bind λf=>some (.cont (f,i64.wrap (a.2+1)))else some (.done a.1))
def F_av(n:Nat)(d:List Int)(e:Int):Option Int:=(iter (F_fm n d e) n (0,0):Option Int).bind λa=>some a
theorem k_av(n:Nat)(m:List Int)(p:Int):Ks (F_av n m p) 149 [.rsl 1 (map (Qe .i64) m),I p] [] (λr=>I r):=by
 refine Kg 16 func149 Z Z Z Z λr h=>Bd h λe q h=>Cg e [] [] (λe=>[(5,I e)]) Ze Zf ?_ ?_
 .refine G0 1 Z (Lp [] [0,1] (λf=>[(5,I f.1),(6,I f.2)]) Ze q Zf (Lr []) λf t a i=>?_);refine G0 5 Z (Lg 3 Z Z (Q5 Z a (λj a=>?_) (λj a=>?_)))
  .exact Gc 2 Z (Qn a (Gx 1 Z (cQo i a (Lr []))))
  refine Gc 8 Z (Bd a λu k a=>Iz k Z (Go 5 Z (Bd a λg d a=>Ct g [] [0,1,6] (λg=>[(5,I g)]) Ze Zf ?_ (λenv H s=>?_))))
  .refine G0 0 Z (Cn Z d (λl d=>?_) (λl d=>?_))
   .exact YN 5 Z d []
   exact YN 1 Z d []
  exact Gx 2 Z (Ef s (Gc 5 Z (Qm a (Lr []))))
 exact QI 7 Z h 4 []
def F_bv(n:Nat)(e:Course)(d:List Int)(a:Int):Option (Ctl Int (Ctl Unit Bool)):=(bif decide (a<(d.length:Int))then((bif (a==0)then some 1 else(bif (a==(i64.wrap ((d.length:Int)-1)))then some 3 else some 2)):Option Int).bind λf=>((idx d a).bind λg=>(idx e.Mats g).bind λh=>(bif (h.Kind != f)then some true else(bif decide (0<a)then(idx d (i64.wrap (a-1))).bind λi=>(idx d a).bind λj=>(F_ao n e i j).bind λk=>some (decide (k<0))else some false)):Option Bool).bind λl=>(bif l then some (.done (.done false))else some (.cont (i64.wrap (a+1))))else some (.done (.cont ())))
def F_iz(n:Nat)(d:Distance)(h:List Int)(a:Int):Option (Ctl Int (Ctl Unit Bool)):=(bif decide (a<(d.Cutoffs.length:Int))then(idx d.Cutoffs a).bind λe=>(F_av n h e.Mat).bind λf=>(idx d.Cutoffs a).bind λg=>(bif decide (f<g.Lap)then some (.done (.done false))else some (.cont (i64.wrap (a+1))))else some (.done (.cont ())))
def F_cf(n:Nat)(g:Course)(a:Distance):Option Bool:=(F_v n a.Route).bind λd=>((bif decide ((d.length:Int)<2)then some true else some (decide (256<(d.length:Int)))):Option Bool).bind λp=>(bif p then some false else(iter (F_bv n g d) n 0:Option (Ctl Unit Bool)).bind λh=>match h with|.cont e=>(((bif (a.Extra != (-1))then(idx g.Mats a.Extra).bind λi=>(bif (i.Kind != 2)then some true else(F_av n d a.Extra).bind λj=>(bif (j==0)then some true else(F_ao n g a.Extra a.Extra).bind λk=>some (decide (k<0))))else some false):Option Bool).bind λl=>(bif l then some false else(iter (F_iz n a d) n 0:Option (Ctl Unit Bool)).bind λm=>match m with|.cont f=>(some true)|.done f=>some f))|.done e=>some e)
theorem k_cf(n:Nat)(a1:Course)(a2:Distance):Ks (F_cf n a1 a2) 97 [.agg (Course.c a1),.agg (Distance.c a2)] [] (λr=>.bool r):=by
 refine Kg 11 func97 Z Z Z Z λr h=>Cd [] h (k_v _ _) Z λr1 ax h=>Fg 12 Z Z (Bd h λO p h=>Ct O [0,1,2] [2,3,5,6] (λO=>[(20,.bool O)]) Ze Zf ?_ (λenv H g=>?_))
 .refine G0 4 Z (Is 17 p Z (λaf p=>?_) (λaf p=>?_))
  iterate 2 exact Gl 4 Z p [0,1,2]
 refine Gx 1 Z (Ef g (Cn Z h (λag h=>?_) (λag h=>?_)))
 .exact QI 7 Z h 4 []
 refine Gc 8 Z (Bd h λah ai h=>CtE (b:=ah) [0,1,2] [2,3,5] Ze Ze Zf ?_ (λao env H q g=>?_))
 .refine G0 1 Z (Lp [0,1,2] [2,3,5,6] (λj=>[(7,I j)]) Ze ai Zf (Lr [0,1,2]) λj ay f s=>?_);refine G0 8 Z (Q5 Z f (λP f=>?_) (λP f=>?_))
  .exact Gc 2 Z (Qn f (Gx 1 Z (Y4 s f Z (Lr [0,1,2]))))
  refine Gc 22 Z (Bd f λt i f=>Ct t [0,1,2] [2,3,5,6,7] (λt=>[(8,I t)]) Ze Zf ?_ (λenv H g=>?_))
  .refine G0 0 Z (Cn Z i (λQ i=>?_) (λQ i=>?_))
   .exact YN 3 Z i [0,1,2]
   refine Gc 8 Z (Cn Z i (λR i=>?_) (λR i=>?_))
   .exact YN 3 Z i [0,1,2]
   exact YN 1 Z i [0,1,2]
  refine Gx 2 Z (Ef g (Gc 1 Z (Bd f λu d f=>Ct u [0,1,2] [2,3,5,6,7] (λu=>[(61,.bool u)]) Ze Zf ?_ (λenv H g=>?_))))
  .refine G0 0 Z (DSs 25 Z (D 4 Z ?_));obtain⟨aj,w,d⟩:=YH d;refine DS.v (x:=(.ptr 2 (toNat j*1))) (Y3 w Z EB EC) ?_;refine DS.v (x:=(I aj)) (Ez Z EO Z (Yz w)) ?_;obtain⟨N,T,d⟩:=YH d;refine DS.wo (x:=.rp [.str N.Name,I N.Kind]) ?_ ?_
   .exact Ix T runUnderlying22 sizeOf108 Z Wp
   refine D 5 Z (DS.is 11 d Z Z Z (λV d=>?_) (λV d=>?_))
   .exact D 13 Z (Eh Z (Gl 5 Z d [0,1,2]))
   .refine D 3 Z (DS.is 14 d Z Z Z (λW d=>?_) (λW d=>?_))
    .refine D 4 Z ?_;obtain⟨ak,y,d⟩:=YH d;refine DS.v (x:=(.ptr 2 (toNat (i64.wrap (j-1))*1))) (Y3 y Z EB EC) ?_ (hg:=(gT Z));refine DS.v (x:=(I ak)) (Ez Z EO Z (Yz y)) ?_ (hg:=(gT Z));refine D 2 Z ?_;obtain⟨al,z,d⟩:=YH d;refine DS.v (x:=(.ptr 2 (toNat j*1))) (Y3 z Z EB EC) ?_ (hg:=(gT Z));refine DS.v (x:=(I al)) (Ez Z EO Z (Yz z)) ?_ (hg:=(gT Z));exact Eh Z (Cz [] d (k_ao _ _ _ _) Z λaz aq d=>Gl 4 Z d [0,1,2])
    .exact D 10 Z (Eh Z (Gl 5 Z d [0,1,2]))
  refine Gx 1 Z (Ef g (Cn Z f (λX f=>?_) (λX f=>?_)))
  .refine Gc 8 Z (Qq f ?_);obtain rfl:=Oj s f;exact Gx 1 Z (Qp (Gx 1 Z (Rt h 4 [])))
  exact Gc 8 Z (Qm f (Lr [0,1,2]))
 subst q;refine Gx 1 Z (Ef g (Gc 2 Z (Bd h λB e h=>Ct B [1,2] [3,5] (λB=>[(90,.bool B)]) Ze Zf ?_ (λenv H g=>?_))))
 .refine G0 5 Z (Is 65 e Z (λY e=>?_) (λY e=>?_))
  .refine Go 4 Z (Bd e λba aa e=>Iz aa Z (Go 4 Z (Is 74 e Z (λab e=>?_) (λab e=>?_))))
   .exact Gl 17 Z e [1,2]
   .refine Go 3 Z (Cb e (k_av _ _ _) Z (lo (ls ln)) λbb ar e=>Go 3 Z (Is 81 e Z (λac e=>?_) (λac e=>?_)))
    .exact Gl 10 Z e [1,2]
    .exact Go 5 Z (Cz [] e (k_ao _ _ _ _) Z λbc au e=>Gl 4 Z e [1,2])
  .exact Gl 26 Z e [1,2]
 refine Gx 1 Z (Ef g (Cn Z h (λad h=>?_) (λad h=>?_)))
 .exact QI 7 Z h 4 []
 refine Gc 8 Z (Bd h λam an h=>CgE (b:=am) [] [] Ze Ze Zf ?_ (λav q=>?_))
 .refine G0 1 Z (Lp [0,1] [3,5] (λE=>[(9,I E)]) Ze an Zf (Lr [0,1]) λE aw a m=>?_);refine G0 6 Z (Lg 3 Z Z (Q5 Z a (λF a=>?_) (λF a=>?_)))
  .exact Gc 2 Z (Qn a (Gx 1 Z (Y4 m a Z (Lr []))))
  refine Gc 5 Z (DSs 14 Z (D 4 Z ?_));obtain⟨k,G,a⟩:=YH a;refine DS.wo (x:=.rp [I k.Mat,I k.Lap,I k.Limit]) ?_ ?_
  .exact Ix G Gh sizeOf230 Z Wp
  refine D 2 Z ?_;obtain⟨ae,J,a⟩:=YH a;refine DS.wo (x:=I ae) ?_ ?_
  .refine QcF (OpC.fn call149 rfl rfl rfl) (Qa9.cons rfl (.inr ⟨_,_,_,_,_,rfl,rfl,X0 ..,rfl⟩) (Qa9.cons rfl (.inl ⟨rfl,rfl⟩) Qa9.nil)) (k_av _ _ _ _ J) (by rintro _ _ ⟨rfl,rfl⟩;rfl) ?_;rintro _ _ ⟨rfl,rfl⟩;exact FE Z Wp
  refine D 3 Z ?_;obtain⟨l,L,a⟩:=YH a;refine DS.wo (x:=.rp [I l.Mat,I l.Lap,I l.Limit]) ?_ ?_
  .exact Ix L Gh sizeOf230 Z Wp
  refine D 2 Z (Eh Z (Go 3 Z (Cn Z a (λM a=>?_) (λM a=>?_))))
  .refine Gc 8 Z (Qq a ?_);obtain rfl:=Oj m a;exact Gx 1 Z (Qp (Gx 1 Z (Rt h 4 [])))
  exact Gc 8 Z (Qm a (Lr [0,1]))
 subst q;exact QI 6 Z h 4 []
def F_jf(n:Nat)(d:Course)(a:Int):Option (Ctl Int (Ctl Unit Int)):=(bif decide (a<(d.Distances.length:Int))then(idx d.Distances a).bind λe=>(F_cf n d e).bind λf=>(bif (!f)then some (.done (.done 72))else some (.cont (i64.wrap (a+1))))else some (.done (.cont ())))
def F_bb(n:Nat)(a:Course):Option Int:=(F_dd n a).bind λg=>(bif (!g)then some 2 else(F_ex n a).bind λh=>(bif (!h)then some 70 else(F_dc n a).bind λi=>(bif (!i)then some 71 else(F_ec n a.Ties).bind λe=>(bif (e != 0)then some e else(iter (F_jf n a) n 0:Option (Ctl Unit Int)).bind λf=>match f with|.cont d=>(some 0)|.done d=>some d))))
theorem k_bb(n:Nat)(k:Course):Ks (F_bb n k) 50 [.agg (Course.c k)] [] (λr=>I r):=by
 refine Kg 10 func50 Z Z Z Z λr h=>Cz [] h (k_dd _ _) Z λJ z h=>Go 3 Z (Cn Z h (λl h=>?_) (λl h=>?_))
 .exact QI 7 Z h 2 []
 refine Gc 6 Z (Cz [] h (k_ex _ _) Z λL B h=>Go 3 Z (Cn Z h (λm h=>?_) (λm h=>?_)))
 .exact QI 7 Z h 2 []
 refine Gc 6 Z (Cz [] h (k_dc _ _) Z λM E h=>Go 3 Z (Cn Z h (λp h=>?_) (λp h=>?_)))
 .exact QI 7 Z h 2 []
 refine Gc 6 Z (Cz [] h (k_ec _ _) Z λN F h=>Go 10 Z (Cn Z h (λq h=>?_) (λq h=>?_)))
 .exact QI 8 Z h 2 []
 refine Gc 8 Z (Bd h λs t h=>CgE (b:=s) [] [] Ze Ze Zf ?_ (λw u=>?_))
 .refine G0 1 Z (Lp [0] [1] (λf=>[(4,I f)]) Ze t Zf (Lr [0]) λf G a e=>?_);refine G0 6 Z (Lg 3 Z Z (Q5 Z a (λg a=>?_) (λg a=>?_)))
  .exact Gc 2 Z (Qn a (Gx 1 Z (Y4 e a Z (Lr []))))
  refine Gc 5 Z (DSs 6 Z (D 4 Z ?_));obtain⟨d,i,a⟩:=YH a;refine DS.wo (x:=.rp [.str d.Name,.rsl 3 (map Part.enc d.Route),I d.Timing,.rsl 3 (map Cutoff.c d.Cutoffs),I d.Extra]) ?_ ?_
  .exact Ix i EY E0 Z Wp
  refine D 1 Z (Eh Z (Cz [] a (k_cf _ _ _) Z λH y a=>Go 3 Z (Cn Z a (λj a=>?_) (λj a=>?_))))
  .refine Gc 8 Z (Qq a ?_);obtain rfl:=Oj e a;exact Gx 1 Z (Qp (Gx 1 Z (Rt h 2 [])))
  exact Gc 8 Z (Qm a (Lr [0]))
 subst u;exact QI 6 Z h 2 []
def F_bm(n:Nat)(a:Course)(d:Int):Option Int:=(F_bb n a).bind λe=>(bif (e != 0)then some e else((bif decide (d<0)then some true else some (decide ((a.Distances.length:Int)<=d))):Option Bool).bind λf=>(bif f then some 90 else some 0))
theorem k_bm(n:Nat)(e:Course)(f:Int):Ks (F_bm n e f) 90 [.agg (Course.c e),I f] [] (λr=>I r):=by
 refine Kg 9 func90 Z Z Z Z λr h=>Cz [] h (k_bb _ _) Z λl k h=>Go 10 Z (Cn Z h (λg h=>?_) (λg h=>?_))
 .exact QI 8 Z h 4 []
 refine Gc 4 Z (Bd h λd a h=>Cg d [] [] (λd=>[(19,.bool d)]) Ze Zf ?_ ?_)
 .refine G0 4 Z (Is 13 a Z (λi a=>?_) (λi a=>?_))
  .exact Gl 7 Z a []
  .exact Go 3 Z (Lm Z (Gl 3 Z a []))
 refine Cn Z h (λj h=>?_) (λj h=>?_)
 .exact QI 7 Z h 4 []
 exact QI 8 Z h 4 []
def F_el(n:Nat)(i:List Part)(e:(List Int)×Int)(d:List Int)(a:(List Int)×Int):Option (Ctl ((List Int)×Int) (List Int)):=((idx i e.2).bind λf=>(bif decide (a.2<f.Laps)then(bif decide (0<(d.length:Int))then some (decide ((a.1.length:Int)<=300))else some false)else some false):Option Bool).bind λg=>(bif g then(app a.1 d).bind λh=>some (.cont (h,i64.wrap (a.2+1)))else some (.done a.1))
def F_hp(n:Nat)(d:List Part)(rec210:(List Part)->Option (List Int))(a:(List Int)×Int):Option (Ctl ((List Int)×Int) (List Int)):=(bif decide (a.2<(d.length:Int))then((idx d a.2).bind λe=>(bif (e.Laps==0)then(idx d a.2).bind λf=>(app a.1 [f.Mat]).bind λg=>some g else(idx d a.2).bind λh=>(rec210 h.Parts).bind λi=>(iter (F_el n d a i) n (a.1,0):Option (List Int)).bind λj=>some j):Option (List Int)).bind λk=>some (.cont (k,i64.wrap (a.2+1)))else some (.done a.1))
def B_s(rec210:(List Part)->Option (List Int))(n:Nat)(d:List Part):Option (List Int):=(iter (F_hp n d rec210) n (([]:List Int),0):Option (List Int)).bind λa=>some a
theorem QaJ(rec210:(List Part)->Option (List Int))(s:∀(t:List Part) (r:List Int),rec210 t=some r->C prog 91 [.rsl 3 (map Part.enc t)] [] (RQ (λr=>.osl 0 0 r.length 1) (λr=>[.row 3 1 (map (Qe .i64) r)]) r))(n:Nat)(t:List Part)(r:List Int)(h:B_s rec210 n t=some r):C prog 91 [.rsl 3 (map Part.enc t)] [] (RQ (λr=>.osl 0 0 r.length 1) (λr=>[.row 3 1 (map (Qe .i64) r)]) r):=by
 refine QQ func91 Z Z Z ?_;refine G0 7 Z (vH (El (xs:=[]) (es:=map (Qe .i64) []) QB Z Z Z Z Z trivial Z Z) ?_);refine Fg 9 Z Z (Bd h λj Q h=>Cg j [0] [] (λj=>[(3,.osl 0 0 j.length 1)]) (λj=>[(0,.row 3 1 (map (Qe .i64) j))]) Zf ?_ ?_)
 .refine G0 1 Z (Lp [0] [0] (λk=>[(3,.osl 0 0 k.1.length 1),(4,I k.2)]) (λk=>[(0,.row 3 1 (map (Qe .i64) k.1))]) Q Zf (Lr [0]) λk Y g x=>?_);refine G0 5 Z (Lg 3 Z Z (Q5 Z g (λy g=>?_) (λy g=>?_)))
  .exact Gc 2 Z (Qn g (Gx 1 Z (cQo x g (Lr [0]))))
  refine Gc 3 Z (Bd g λl a g=>Cg l [0] [0,4] (λl=>[(3,.osl 0 0 l.length 1)]) (λl=>[(0,.row 3 1 (map (Qe .i64) l))]) Zf ?_ ?_)
  .refine G0 6 Z (Bd a λR z a=>IzE z (QC R) Z (Go 5 Z (Cn Z a (λB a=>?_) (λB a=>?_))))
   .refine Gc 5 Z (Bd a λu E a=>IzE E (QC u) Z (Go 2 Z (vH (El (xs:=[.tmp 25]) (es:=map (Qe .i64) [u.Mat]) QB Z Z Z Z Z ⟨Z,trivial⟩ Z Z) ?_)));refine FE Z (Bd a λaa F a=>vH (QT (e:=(Qe .i64)) F QB EB (Y6 (i:=1))) ?_);exact FE Z (Gl 6 Z a [2])
   refine Gc 6 Z (Bd a λT G a=>IzE G (QC T) Z (Go 2 Z (Cd [] a (s _) Z λab X a=>Fg 8 Z Z (Bd a λm V a=>Ct m [0] [0,4] (λm=>[(3,.osl 0 0 m.length 1)]) (λm=>[(0,.row 3 1 (map (Qe .i64) m))]) Zf ?_ (λenv H w=>?_)))))
   .refine G0 1 Z (Lp [0,1] [0,4,5] (λp=>[(3,.osl 0 0 p.1.length 1),(6,I p.2)]) (λp=>[(0,.row 3 1 (map (Qe .i64) p.1))]) V Zf (Lr [0,1]) λp ac f J=>?_);refine G0 2 Z (Bd f λq d f=>Ct q [0,1] [0,3,4,5,6] (λq=>[(50,.bool q)]) Ze Zf ?_ (λenv H w=>?_))
    .refine G0 4 Z (Bd d λW L d=>IzE L (QC W) Z (Go 4 Z (Is 41 d Z (λM d=>?_) (λM d=>?_))))
     .refine Go 5 Z (Is 46 d Z (λN d=>?_) (λN d=>?_))
      iterate 2 exact Gl 5 Z d [0,1]
     .exact Gl 10 Z d [0,1]
    refine Gx 1 Z (Ef w (Q5 Z f (λO f=>?_) (λO f=>?_)))
    .exact Gc 2 Z (Qn f (Gx 1 Z (cQo J f (Lr [0]))))
    refine Gc 7 Z (Bd f λad P f=>vH (QT (e:=(Qe .i64)) P QB EB (Y6 (i:=1))) ?_);exact Fg 9 Z Z (Qm f (Lr [2,1]))
   refine Gx 1 Z ?_;cases a;exact QbG (Eo w (Lr [0]))
  exact Gc 5 Z (Qm g (Lr [0]))
 exact QI 7 Z h 2 [0]
def F_s:Nat->(List Part)->Option (List Int)
  |0=>λ_=>none
  |n+1=>B_s (F_s n) n
theorem k_s(n:Nat):∀(a:List Part) (r:List Int),F_s n a=some r->C prog 91 [.rsl 3 (map Part.enc a)] [] (RQ (λr=>.osl 0 0 r.length 1) (λr=>[.row 3 1 (map (Qe .i64) r)]) r):=by
  induction n with
  |zero=>intro a r h;cases h
  |succ n ih=>intro a r h;exact QaJ _ ih n a r h
def F_ht(n:Nat)(d:List Int)(g:Int)(a:Int×Int):Option (Ctl (Int×Int) Int):=(bif decide (a.2<(d.length:Int))then(idx d a.2).bind λe=>((bif (e==g)then some a.2 else some a.1):Option Int).bind λf=>some (.cont (f,i64.wrap (a.2+1)))else some (.done a.1))
def F_cw(n:Nat)(d:List Int)(e:Int):Option Int:=(iter (F_ht n d e) n ((-1),0):Option Int).bind λa=>some a
theorem k_cw(n:Nat)(m:List Int)(p:Int):Ks (F_cw n m p) 92 [.rsl 1 (map (Qe .i64) m),I p] [] (λr=>I r):=by
 refine Kg 16 func92 Z Z Z Z λr h=>Bd h λe q h=>Cg e [] [] (λe=>[(5,I e)]) Ze Zf ?_ ?_
 .refine G0 1 Z (Lp [] [0,1] (λf=>[(5,I f.1),(6,I f.2)]) Ze q Zf (Lr []) λf t a i=>?_);refine G0 5 Z (Lg 3 Z Z (Q5 Z a (λj a=>?_) (λj a=>?_)))
  .exact Gc 2 Z (Qn a (Gx 1 Z (cQo i a (Lr []))))
  refine Gc 8 Z (Bd a λu k a=>Iz k Z (Go 5 Z (Bd a λg d a=>Ct g [] [0,1,6] (λg=>[(5,I g)]) Ze Zf ?_ (λenv H s=>?_))))
  .refine G0 0 Z (Cn Z d (λl d=>?_) (λl d=>?_))
   .exact YN 4 Z d []
   exact YN 1 Z d []
  exact Gx 2 Z (Ef s (Gc 5 Z (Qm a (Lr []))))
 exact QI 7 Z h 4 []
def F_hy(n:Nat)(e:Int)(f:Distance)(a:(List Int)×Int):Option (Ctl ((List Int)×Int) (List Int)):=(bif decide (a.2<e)then(app a.1 [f.Extra]).bind λd=>some (.cont (d,i64.wrap (a.2+1)))else some (.done a.1))
def F_dl(n:Nat)(g:Course)(h:Int)(d:Int):Option ((List Int)×Int):=(F_bm n g h).bind λi=>(bif (i != 0)then some ([],i)else(idx g.Distances h).bind λe=>((bif decide (d<0)then some true else(bif decide (0<d)then some (e.Extra==(-1))else some false)):Option Bool).bind λr=>(bif r then some ([],90)else(F_s n e.Route).bind λa=>((bif decide (256<d)then some true else some (decide (256<(i64.wrap ((a.length:Int)+d))))):Option Bool).bind λj=>(bif j then some ([],2)else(bif (d==0)then some (a,0)else(F_cw n a e.Extra).bind λf=>(slc a 0 (i64.wrap (f+1))).bind λk=>(app ([]:List Int) k).bind λl=>(iter (F_hy n d e) n (l,0):Option (List Int)).bind λm=>(slc a (i64.wrap (f+1)) (a.length:Int)).bind λp=>(app m p).bind λq=>some (q,0)))))
theorem k_dl(n:Nat)(O:Course)(P:Int)(Q:Int):Kq (F_dl n O P Q) 49 [.agg (Course.c O),I P,I Q] [] (λr=>.tup [.osl 0 0 r.1.length 1,I r.2]) (λr=>[.row 3 1 (map (Qe .i64) r.1)]):=by
 refine Kg 11 func49 Z Z Z Z λr h=>Cz [] h (k_bm _ _ _) Z λr1 ac h=>Go 10 Z (Cn Z h (λR h=>?_) (λR h=>?_))
 .refine Gc 9 Z ?_;obtain rfl:=Oi h;refine R2 6 7 Z Z ?_;refine Eo (Et (s:=6) (k:=1) (t:=3) (XQ Z) Z) ?_;exact Lr [1]
 refine Gc 7 Z (Bd h λY T h=>Iz T Z (Go 7 Z (Bd h λy d h=>Ct y [1] [2,9] (λy=>[(35,.bool y)]) Ze Zf ?_ (λenv H m=>?_))))
 .refine G0 4 Z (Is 27 d Z (λV d=>?_) (λV d=>?_))
  .exact Gl 9 Z d [1]
  .refine Go 3 Z (Is 30 d Z (λW d=>?_) (λW d=>?_))
   iterate 2 exact Gl 6 Z d [1]
 refine Gx 1 Z (Ef m (Cn Z h (λz h=>?_) (λz h=>?_)))
 .refine Gc 8 Z ?_;obtain rfl:=Oi h;refine R2 6 7 Z Z ?_;refine Eo (Et (s:=6) (k:=1) (t:=3) (XQ Z) Z) ?_;exact Lr [1]
 refine Gc 6 Z (Cd [] h (k_s _ _) Z λp aa h=>Fg 5 Z Z (Bd h λq f h=>Ct q [0,1] [2,9,10] (λq=>[(47,.bool q)]) Ze Zf ?_ (λenv H m=>?_)))
 .refine G0 4 Z (Is 41 f Z (λB f=>?_) (λB f=>?_))
  iterate 2 exact Gl 7 Z f [0,1]
 refine Gx 1 Z (Ef m (Cn Z h (λE h=>?_) (λE h=>?_)))
 .refine Gc 8 Z ?_;obtain rfl:=Oi h;refine R2 6 7 Z Z ?_;refine Eo (Et (s:=6) (k:=1) (t:=3) (XQ Z) Z) ?_;exact Lr [2]
 refine Gc 9 Z (Cn Z h (λF h=>?_) (λF h=>?_))
 .refine Gc 9 Z ?_;obtain rfl:=Oi h;exact R2 6 7 Z Z (Lr [1])
 refine Gc 7 Z (Cb h (k_cw _ _ _) Z (lo (ls ln)) λu ab h=>Go 6 Z (vH (El (xs:=[]) (es:=map (Qe .i64) []) QB Z Z Z Z Z trivial Z Z) ?_));refine Fg 2 Z Z (Bd h λad w h=>?_);refine vX (.osl 1 (0+toNat 0) (toNat (i64.wrap (u+1))-toNat 0) 1) (QbU (l:=p) w EB EC (.inl ⟨Z,Z⟩) (.inr ⟨_,Z,Z⟩)) ?_;refine Bd h λae G h=>vH (QT (e:=(Qe .i64)) G QB EB (Qlb (b:=1) w)) ?_;refine Fg 9 Z Z (Bd h λg X h=>Cg g [1,2] [10,11] (λg=>[(12,.osl 1 0 g.length 1)]) (λg=>[(1,.row 3 1 (map (Qe .i64) g))]) Zf ?_ ?_)
 .refine G0 1 Z (Lp [0,1,3] [2,9,10,11] (λj=>[(12,.osl 2 0 j.1.length 1),(13,I j.2)]) (λj=>[(2,.row 3 1 (map (Qe .i64) j.1))]) X Zf (Lr [0,1,3]) λj af a J=>?_);refine G0 8 Z (Q5 Z a (λL a=>?_) (λL a=>?_))
  .exact Gc 2 Z (Qn a (Gx 1 Z (cQo J a (Lr [1,2]))))
  refine Gc 8 Z (vH (El (xs:=[.tmp 68]) (es:=map (Qe .i64) [Y.Extra]) QB Z Z Z Z Z ⟨Z,trivial⟩ Z Z) ?_);refine FE Z (Bd a λag M a=>vH (QT (e:=(Qe .i64)) M QB EB (Y6 (i:=3))) ?_);exact Fg 9 Z Z (Qm a (Lr [0,1,4]))
 refine Gc 5 Z (Bd h λah x h=>?_);refine vX (.osl 0 (0+toNat (i64.wrap (u+1))) (toNat (p.length:Int)-toNat (i64.wrap (u+1))) 1) (QbU (l:=p) x EB EC (.inr ⟨_,Z,Z⟩) (.inl ⟨Z,Z⟩)) ?_;refine Bd h λai N h=>vH (QT (e:=(Qe .i64)) N QB EB (Qlb (b:=0) x)) ?_;refine Fg 5 Z Z ?_;obtain rfl:=Oi h;exact R2 6 7 Z Z (Lr [2])
def F_ca(n:Nat)(a:Course)(i:Clocks)(e:Starter)(j:Int)(k:List Hit)(l:List Hand):Option Bool:=((F_br n a).bind λm=>(bif (!m)then some true else(bif decide (8<(a.Mats.length:Int))then some true else(F_cg n i).bind λf=>(bif (!f)then some true else(bif decide (4<(k.length:Int))then some true else some (decide (6<(l.length:Int))))))):Option Bool).bind λp=>(bif p then some false else((bif decide (e.Distance<0)then some true else some (decide ((a.Distances.length:Int)<=e.Distance))):Option Bool).bind λg=>(bif g then some true else(F_dl n a e.Distance j).bind λd=>((bif (d.2 != 0)then some true else some (decide ((d.1.length:Int)<=8))):Option Bool).bind λh=>some h))
theorem k_ca(n:Nat)(w:Course)(x:Clocks)(y:Starter)(z:Int)(B:List Hit)(E:List Hand):Ks (F_ca n w x y z B E) 23 [.agg (Course.c w),.agg (Clocks.c x),.agg (Starter.c y),I z,.rsl 5 (map Hit.c B),.rsl 4 (map Hand.c E)] [] (λr=>.bool r):=by
 refine Kg 10 func23 Z Z Z Z λr h=>Bd h λj a h=>Ct j [0,2] [3,6,8] (λj=>[(38,.bool j)]) Ze Zf ?_ (λenv H f=>?_)
 .refine G0 2 Z (Cz [] a (k_br _ _) Z λN J a=>Go 2 Z (Is 18 a Z (λk a=>?_) (λk a=>?_)))
  .exact Gl 21 Z a [0,2]
  .refine Go 2 Z (Lg 3 Z Z (Is 24 a Z (λl a=>?_) (λl a=>?_)))
   .exact Gl 15 Z a [0,2]
   .refine Go 1 Z (Cz [] a (k_cg _ _) Z λL F a=>Go 3 Z (Is 29 a Z (λm a=>?_) (λm a=>?_)))
    .exact Gl 10 Z a [0,2]
    .refine Go 1 Z (Lg 3 Z Z (Is 34 a Z (λp a=>?_) (λp a=>?_)))
     .exact Gl 5 Z a [0,2]
     .exact Go 1 Z (Lm Z (Gl 3 Z a [0,2]))
 refine Gx 1 Z (Ef f (Cn Z h (λq h=>?_) (λq h=>?_)))
 .exact QI 7 Z h 12 []
 refine Gc 4 Z (Bd h λg d h=>Ct g [0,1] [3,6,8] (λg=>[(49,.bool g)]) Ze Zf ?_ (λenv H f=>?_))
 .refine G0 5 Z (Is 42 d Z (λs d=>?_) (λs d=>?_))
  .exact Gl 8 Z d [0,1]
  .exact Go 4 Z (Lm Z (Gl 3 Z d [0,1]))
 refine Gx 1 Z (Ef f (Cn Z h (λt h=>?_) (λt h=>?_)))
 .exact QI 7 Z h 12 []
 refine Gc 8 Z (Cd [] h (k_dl _ _ _ _) Z λM G h=>Fg 8 Z Z (Bd h λi e h=>Cg i [] [] (λi=>[(12,.bool i)]) Ze Zf ?_ ?_))
 .refine G0 4 Z (Is 60 e Z (λu e=>?_) (λu e=>?_))
  iterate 2 exact Gl 6 Z e []
 exact QI 1 Z h 12 []
def F_an(n:Nat)(a:stopwatchlaw19_Input):Option Bool:=(F_ca n a.C a.K a.S a.Extra a.Hits a.Hands).bind λd=>some d
theorem k_an(n:Nat)(a:stopwatchlaw19_Input):Ks (F_an n a) 10 [.agg (stopwatchlaw19_Input.c a)] [] (λr=>.bool r):=by
 exact Kg 20 func10 Z Z Z Z λr h=>Cz [] h (k_ca _ _ _ _ _ _ _) Z λe d h=>Gt 4 Z h 2 []
def F_dh(n:Nat)(a:stopwatchlaw19_Input)(d:Way):Option Int:=(F_aw n a.C a.K a.S a.Extra a.Hits a.Hands d).bind λe=>some e
theorem k_dh(n:Nat)(a:stopwatchlaw19_Input)(d:Way):Ks (F_dh n a d) 11 [.agg (stopwatchlaw19_Input.c a),.agg (Way.c d)] [] (λr=>I r):=by
 exact Kg 22 func11 Z Z Z Z λr h=>Cz [] h (k_aw _ _ _ _ _ _ _ _) Z λf e h=>Gt 4 Z h 4 []
def F_jm(n:Nat)(d:List Int)(e:Int)(a:Span×Int):Option (Ctl (Span×Int) Span):=(bif decide (a.2<e)then(idx d a.2).bind λf=>(idx d (i64.wrap (a.2+1))).bind λg=>some (.cont ({Lo:=(if i64.wrap (a.1.Lo+0)<2199023255552 then i64.wrap (a.1.Lo+0)else 2199023255552),Hi:=(if i64.wrap (a.1.Hi+0)<2199023255552 then i64.wrap (a.1.Hi+0)else 2199023255552):Span},i64.wrap (a.2+1)))else some (.done ({Lo:=a.1.Lo,Hi:=a.1.Hi:Span})))
def F_hm(n:Nat)(d:List Int)(e:Int)(f:Int):Option Span:=(iter (F_jm n d f) n ({Lo:=0,Hi:=0:Span},e):Option Span).bind λa=>some ({Lo:=a.Lo,Hi:=a.Hi:Span})
theorem k_hm(n:Nat)(g:List Int)(q:Int)(s:Int):Kq (F_hm n g q s) 35 [.agg [.rsl 1 (map (Qe .i64) g),.nilm],I q,I s] [] (λr=>.agg [I r.Lo,I r.Hi]) (λr=>[.cells 55 [I r.Lo,I r.Hi]]):=by
 refine Kg 13 func35 Z Z Z Z λr h=>Bd h λl t h=>Cg l [1] [6] Ze (λl=>[(0,.cells 55 [I l.Lo,I l.Hi])]) Zf ?_ ?_
 .refine G0 1 Z (Lp [0,1] [2,3,6] (λa=>[(7,I a.2)]) (λa=>[(1,.cells 55 [I a.1.Lo,I a.1.Hi])]) t Zf (Lr [0,1]) λa u d m=>?_);refine G0 8 Z (Q5 Z d (λp d=>?_) (λp d=>?_))
  .exact Gc 2 Z (Qn d (Gx 1 Z (cQo m d (Lr [1]))))
  refine Gc 5 Z ?_;obtain⟨e,i,d⟩:=YH d;obtain⟨f,j,d⟩:=YH d;refine Yc 16 0 [15,16,17,18,19,20,21,22,23,24,25,26,27,28,29,8] [false,false,false,false,false,false,false,false,false,false,false,false,false,false,false,true] [[],[],[],[],[],[],[],[],[],[],[],[],[],[],[],[]] [[],[15]] [[(0,0),(1,1)],[(0,0),(1,1)],[(0,0),(1,1)],[(0,0),(1,1)],[(0,0),(1,1)],[(0,0),(1,1)],[(0,0),(1,1)],[(0,0),(1,1)],[(0,0),(1,1)],[(0,0),(1,1)],[(0,0),(1,1)],[(0,0),(1,1)],[(0,0),(1,1)],[(0,0),(1,1)],[(0,0),(1,1)],[(0,1)]] [.ptr 0 1,.nilm,.ptr 0 0,.rsl 1 (map (Qe .i64) g),I a.2,.rp [I e],I e,.ptr 0 0,.rsl 1 (map (Qe .i64) g),I a.2,I (i64.wrap (a.2+1)),.rp [I f],I f,.agg [I e,I f],.agg (Leg.c Us),.ptr 2 0] [[.cells 97 [.rsl 1 (map (Qe .i64) g),.nilm],.cells 55 [I a.1.Lo,I a.1.Hi]],[.cells 97 [.rsl 1 (map (Qe .i64) g),.nilm],.cells 55 [I a.1.Lo,I a.1.Hi],.cells 110 (Leg.c Us)]] ([.cells 97 [.rsl 1 (map (Qe .i64) g),.nilm],.cells 55 [I a.1.Lo,I a.1.Hi],.cells 110 (Leg.c Us)]) draws Z Z Z Z Z Z Z ?_ Z ?_
  .refine Qgg.cons (Qb (v0 Z Z) (Qb (v0 Z Z) (Qc))) (Qgg.cons (Qb (v0 Z Z) (Qb (v0 Z Z) (Qc))) (Qgg.cons (Qb (v0 Z Z) (Qb (v0 Z Z) (Qc))) (Qgg.cons (Qb (v0 Z Z) (Qb (v0 Z Z) (Qc))) (Qgg.cons (Qb (v0 Z Z) (Qb (v0 Z Z) (Qc))) (Qgg.cons ?_ (Qgg.cons (Qb (v0 Z Z) (Qb (v0 Z Z) (Qc))) (Qgg.cons (Qb (v0 Z Z) (Qb (v0 Z Z) (Qc))) (Qgg.cons (Qb (v0 Z Z) (Qb (v0 Z Z) (Qc))) (Qgg.cons (Qb (v0 Z Z) (Qb (v0 Z Z) (Qc))) (Qgg.cons ?_ (Qgg.cons ?_ (Qgg.cons (Qb (v0 Z Z) (Qb (v0 Z Z) (Qc))) (Qgg.cons (Qb (v0 Z Z) (Qb (v0 Z Z) (Qc))) (Qgg.cons ?_ (Qgg.cons ?_ (Qgg.nil))))))))))))))))
   .refine Qb ?_ (Qb ?_ (Qc))
    iterate 2 refine Om Z (sD 3 (sD 4 sN)) ?_;exact Ix i EB EC Z Wp
   .refine Qb ?_ (Qb ?_ (Qc))
    iterate 2 refine Om Z (sD 9 sN) ?_;exact S Z Wp
   .refine Qb ?_ (Qb ?_ (Qc))
    iterate 2 refine Om Z (sD 8 (sD 10 sN)) ?_;exact Ix j EB EC Z Wp
   .refine Qb ?_ (Qb ?_ (Qc))
    iterate 2 refine Om Z (sD 1 (sD 13 sN)) ?_;refine vX (.agg (Leg.c Us)) (Qdz (ev:=(λx=>A.agg (Leg.c x))) (z0:=Us) (k:=({from_:=e,to_:=f:Ub})) Qcw Gb EU (zrC Z)) ?_;exact Wp
   .refine Qb ?_ (Qc)
    .refine Om1 Z sN ?_;refine vH (Qbl (v:=(.agg [I 0,I 0,I 0,I 0])) EU (zrC Z)) ?_;exact FE Z Wp
  refine Go 9 Z ?_;refine vX (I (if i64.wrap (a.1.Lo+0)<2199023255552 then i64.wrap (a.1.Lo+0)else 2199023255552)) (OpV.min Z Z Z Z) ?_;refine Go 5 Z ?_;refine vX (I (if i64.wrap (a.1.Hi+0)<2199023255552 then i64.wrap (a.1.Hi+0)else 2199023255552)) (OpV.min Z Z Z Z) ?_;exact Go 10 Z (Qm d (Lr [0,1]))
 refine Gc 7 Z ?_;obtain rfl:=Oi h;exact Rx [0] [6] Z (Q8 Z (Qg EG EE Z Z Z)) ⟨Z,Z⟩
def F_hc(n:Nat)(e:List Int)(h:Int)(i:List (Ub×Leg))(a:Span×Int):Option (Ctl (Span×Int) Span):=(bif decide (a.2<h)then(idx e a.2).bind λf=>(idx e (i64.wrap (a.2+1))).bind λg=>(some (QA i ({from_:=f,to_:=g:Ub}) Us)).bind λd=>some (.cont ({Lo:=(if i64.wrap (a.1.Lo+d.Min)<2199023255552 then i64.wrap (a.1.Lo+d.Min)else 2199023255552),Hi:=(if i64.wrap (a.1.Hi+d.Max)<2199023255552 then i64.wrap (a.1.Hi+d.Max)else 2199023255552):Span},i64.wrap (a.2+1)))else some (.done ({Lo:=a.1.Lo,Hi:=a.1.Hi:Span})))
def F_ft(n:Nat)(d:List Int)(e:Int)(f:Int)(g:List (Ub×Leg)):Option Span:=(iter (F_hc n d f g) n ({Lo:=0,Hi:=0:Span},e):Option Span).bind λa=>some ({Lo:=a.Lo,Hi:=a.Hi:Span})
theorem k_ft(n:Nat)(j:List Int)(w:Int)(y:Int)(f:List (Ub×Leg)):Kq (F_ft n j w y f) 35 [.agg [.rsl 1 (map (Qe .i64) j),.map 0],I w,I y] [.map (Qf (λx=>A.agg (Ub.c x)) (λx=>A.agg (Leg.c x)) f)] (λr=>.agg [I r.Lo,I r.Hi]) (λr=>[.map (Qf (λx=>A.agg (Ub.c x)) (λx=>A.agg (Leg.c x)) f),.cells 55 [I r.Lo,I r.Hi]]):=by
 refine Kg 13 func35 Z Z Z Z λr h=>Bd h λm z h=>Cg m [0,2] [6] Ze (λm=>[(1,.cells 55 [I m.Lo,I m.Hi])]) Zf ?_ ?_
 .refine G0 1 Z (Lp [0,1,2] [2,3,6] (λa=>[(7,I a.2)]) (λa=>[(2,.cells 55 [I a.1.Lo,I a.1.Hi])]) z Zf (Lr [0,1,2]) λa B d t=>?_);refine G0 8 Z (Q5 Z d (λu d=>?_) (λu d=>?_))
  .exact Gc 2 Z (Qn d (Gx 1 Z (cQo t d (Lr [0,2]))))
  refine Gc 5 Z ?_;obtain⟨g,p,d⟩:=YH d;obtain⟨i,q,d⟩:=YH d;obtain⟨e,s,d⟩:=YH d;refine Yc 16 0 [15,16,17,18,19,20,21,22,23,24,25,26,27,28,29,8] [false,false,false,false,false,false,false,false,false,false,false,false,false,false,false,true] [[],[],[],[],[],[],[],[],[],[],[],[],[],[],[],[]] [[],[15]] [[(0,0),(1,1)],[(0,0),(1,1)],[(0,0),(1,1)],[(0,0),(1,1)],[(0,0),(1,1)],[(0,0),(1,1)],[(0,0),(1,1)],[(0,0),(1,1)],[(0,0),(1,1)],[(0,0),(1,1)],[(0,0),(1,1)],[(0,0),(1,1)],[(0,0),(1,1)],[(0,0),(1,1)],[(0,0),(1,1)],[(0,1)]] [.ptr 1 1,.map 0,.ptr 1 0,.rsl 1 (map (Qe .i64) j),I a.2,.rp [I g],I g,.ptr 1 0,.rsl 1 (map (Qe .i64) j),I a.2,I (i64.wrap (a.2+1)),.rp [I i],I i,.agg [I g,I i],.agg (Leg.c e),.ptr 3 0] [[.map (Qf (λx=>A.agg (Ub.c x)) (λx=>A.agg (Leg.c x)) f),.cells 97 [.rsl 1 (map (Qe .i64) j),.map 0],.cells 55 [I a.1.Lo,I a.1.Hi]],[.map (Qf (λx=>A.agg (Ub.c x)) (λx=>A.agg (Leg.c x)) f),.cells 97 [.rsl 1 (map (Qe .i64) j),.map 0],.cells 55 [I a.1.Lo,I a.1.Hi],.cells 110 (Leg.c Us)]] ([.map (Qf (λx=>A.agg (Ub.c x)) (λx=>A.agg (Leg.c x)) f),.cells 97 [.rsl 1 (map (Qe .i64) j),.map 0],.cells 55 [I a.1.Lo,I a.1.Hi],.cells 110 (Leg.c Us)]) draws Z Z Z Z Z Z Z ?_ Z ?_
  .refine Qgg.cons (Qb (v0 Z Z) (Qb (v0 Z Z) (Qc))) (Qgg.cons (Qb (v0 Z Z) (Qb (v0 Z Z) (Qc))) (Qgg.cons (Qb (v0 Z Z) (Qb (v0 Z Z) (Qc))) (Qgg.cons (Qb (v0 Z Z) (Qb (v0 Z Z) (Qc))) (Qgg.cons (Qb (v0 Z Z) (Qb (v0 Z Z) (Qc))) (Qgg.cons ?_ (Qgg.cons (Qb (v0 Z Z) (Qb (v0 Z Z) (Qc))) (Qgg.cons (Qb (v0 Z Z) (Qb (v0 Z Z) (Qc))) (Qgg.cons (Qb (v0 Z Z) (Qb (v0 Z Z) (Qc))) (Qgg.cons (Qb (v0 Z Z) (Qb (v0 Z Z) (Qc))) (Qgg.cons ?_ (Qgg.cons ?_ (Qgg.cons (Qb (v0 Z Z) (Qb (v0 Z Z) (Qc))) (Qgg.cons (Qb (v0 Z Z) (Qb (v0 Z Z) (Qc))) (Qgg.cons ?_ (Qgg.cons ?_ (Qgg.nil))))))))))))))))
   .refine Qb ?_ (Qb ?_ (Qc))
    iterate 2 refine Om Z (sD 3 (sD 4 sN)) ?_;exact Ix p EB EC Z Wp
   .refine Qb ?_ (Qb ?_ (Qc))
    iterate 2 refine Om Z (sD 9 sN) ?_;exact S Z Wp
   .refine Qb ?_ (Qb ?_ (Qc))
    iterate 2 refine Om Z (sD 8 (sD 10 sN)) ?_;exact Ix q EB EC Z Wp
   .refine Qb ?_ (Qb ?_ (Qc))
    iterate 2 refine Om Z (sD 1 (sD 13 sN)) ?_;refine vX (.agg (Leg.c e)) (QY (ev:=(λx=>A.agg (Leg.c x))) (z0:=Us) (k:=({from_:=g,to_:=i:Ub})) (l:=f) Qcw s Gb EU (zrC Z)) ?_;exact Wp
   .refine Qb ?_ (Qc)
    .refine Om1 Z sN ?_;refine vH (Qbl (v:=(.agg [I 0,I 0,I 0,I 0])) EU (zrC Z)) ?_;exact FE Z Wp
  refine Go 9 Z ?_;refine vX (I (if i64.wrap (a.1.Lo+e.Min)<2199023255552 then i64.wrap (a.1.Lo+e.Min)else 2199023255552)) (OpV.min Z Z Z Z) ?_;refine Go 5 Z ?_;refine vX (I (if i64.wrap (a.1.Hi+e.Max)<2199023255552 then i64.wrap (a.1.Hi+e.Max)else 2199023255552)) (OpV.min Z Z Z Z) ?_;exact Go 10 Z (Qm d (Lr [0,1,2]))
 refine Gc 7 Z ?_;obtain rfl:=Oi h;exact Rx [0,1] [6] Z (Q8 Z (Qg EG EE Z Z Z)) ⟨Z,Z⟩
def F_bw(n:Nat)(k:Course)(l:Int)(m:Int)(a:Int)(d:Int):Option (Span×Int):=(F_z n k l m).bind λp=>(match p with|.c0 h=>((bif (h != 0)then some ({Lo:=0,Hi:=0:Span},h)else((bif decide (a<0)then some true else(bif decide (d<a)then some true else some (decide ((([]:List Int).length:Int)<=d)))):Option Bool).bind λi=>(bif i then some ({Lo:=0,Hi:=0:Span},90)else(F_hm n [] a d).bind λe=>some ({Lo:=e.Lo,Hi:=e.Hi:Span},0))))|.c1 q=>(some ({Lo:=0,Hi:=0:Span},90))|.c2 r=>(some ({Lo:=0,Hi:=0:Span},2))|.c3 g=>(((bif decide (a<0)then some true else(bif decide (d<a)then some true else some (decide ((g.1.length:Int)<=d)))):Option Bool).bind λj=>(bif j then some ({Lo:=0,Hi:=0:Span},90)else(F_ft n g.1 a d g.2).bind λf=>some ({Lo:=f.Lo,Hi:=f.Hi:Span},0))))
theorem k_bw(n:Nat)(j:Course)(u:Int)(w:Int)(y:Int)(z:Int):Kq (F_bw n j u w y z) 18 [.agg (Course.c j),I u,I w,I y,I z] [] (λr=>.tup [.agg [I r.1.Lo,I r.1.Hi],I r.2]) (λr=>[.cells 55 [I r.1.Lo,I r.1.Hi]]):=by
 refine Kg 12 func18 Z Z Z Z λr h=>Bd h λG B h=>?_;refine Qw [] (OpC.fn call34 Z Z Z) (k_z _ _ _ _ _ B) ?_;intro ra rH g;rcases G with O|P|Q|i
 .obtain⟨rfl,rfl⟩:=g;refine Fg 15 Z Z (Cn Z h (λE h=>?_) (λE h=>?_))
  .refine Gc 10 Z ?_;obtain rfl:=Oi h;exact Rx [1] [10,11] Z (Qi Z Z (Qh3.cons (Qg EG EE Z Z Z) (Qh3.cons QcJ.tmp Qh3.nil))) ⟨Z,Z⟩
  refine Gc 4 Z (Bd h λe a h=>Ct e [1,3] [3,4,10,12] (λe=>[(37,.bool e)]) Ze Zf ?_ (λenv H F=>?_))
  .refine G0 4 Z (Is 26 a Z (λk a=>?_) (λk a=>?_))
   .exact Gl 12 Z a [1,3]
   .refine Go 5 Z (Is 31 a Z (λl a=>?_) (λl a=>?_))
    .exact Gl 7 Z a [1,3]
    .exact Go 3 Z (Lm Z (Gl 3 Z a [1,3]))
  refine Gx 1 Z (Ef F (Cn Z h (λp h=>?_) (λp h=>?_)))
  .refine Gc 9 Z ?_;obtain rfl:=Oi h;exact Rx [0] [10,11] Z (Qi Z Z (Qh3.cons (Qg EG EE Z Z Z) (Qh3.cons QcJ.tmp Qh3.nil))) ⟨Z,Z⟩
  refine Gc 7 Z (Cd [] h (k_hm _ _ _ _) Z λM J h=>Fg 5 Z Z ?_);obtain rfl:=Oi h;exact Rx [0] [10,11] Z (Qi Z Z (Qh3.cons (Qg EG EE Z Z Z) (Qh3.cons QcJ.tmp Qh3.nil))) ⟨Z,Z⟩
 .obtain⟨rfl,rfl⟩:=g;refine Fg 12 Z Z ?_;refine vX (.bool true) (OpV.neq (m:=90) (n:=0) Z Z Z) ?_;refine Go 13 Z ?_;obtain rfl:=Oi h;exact Rx [1] [10,11] Z (Qi Z Z (Qh3.cons (Qg EG EE Z Z Z) (Qh3.cons QcJ.tmp Qh3.nil))) ⟨Z,Z⟩
 .obtain⟨rfl,rfl⟩:=g;refine Fg 12 Z Z ?_;refine vX (.bool true) (OpV.neq (m:=2) (n:=0) Z Z Z) ?_;refine Go 13 Z ?_;obtain rfl:=Oi h;exact Rx [1] [10,11] Z (Qi Z Z (Qh3.cons (Qg EG EE Z Z Z) (Qh3.cons QcJ.tmp Qh3.nil))) ⟨Z,Z⟩
 .obtain⟨rfl,rfl⟩:=g;refine aV (.tup [.agg [.osl 2 0 i.1.length 1,.map 3],I 0]) [.cells 33 (Course.c j),.cells 55 [I 0,I 0],.row 3 1 (map (Qe .i64) i.1),.map (Qf (λx=>A.agg (Ub.c x)) (λx=>A.agg (Leg.c x)) i.2),.cells 97 [.osl 2 0 i.1.length 1,.map 3]] Z Z ?_;refine Go 12 Z ?_;refine vX (.bool false) (OpV.neq (m:=0) (n:=0) Z Z Z) ?_;refine Go 7 Z (Bd h λf d h=>Cg f [1,5,2,3] [3,4,10,12] (λf=>[(37,.bool f)]) Ze Zf ?_ ?_)
  .refine G0 4 Z (Is 26 d Z (λq d=>?_) (λq d=>?_))
   .exact Gl 12 Z d [1,5,2,3]
   .refine Go 5 Z (Is 31 d Z (λs d=>?_) (λs d=>?_))
    iterate 2 exact Gl 7 Z d [1,5,2,3]
  refine Cn Z h (λt h=>?_) (λt h=>?_)
  .refine Gc 9 Z ?_;obtain rfl:=Oi h;exact Rx [0] [10,11] Z (Qi Z Z (Qh3.cons (Qg EG EE Z Z Z) (Qh3.cons QcJ.tmp Qh3.nil))) ⟨Z,Z⟩
  refine Gc 7 Z ?_;refine Eu (YW [(39,_)] Z Z (Qlj.cons Z (FzA.agg (Ed Er (Ek _))) Qlj.nil) (Ec (FzH.cells (Ed Er (Ek _)) (Ec (Ym _))))) ?_;refine Cd [3] h (k_ft _ _ _ _ _) Z λN L h=>Fg 5 Z Z ?_;obtain rfl:=Oi h;exact Rx [0] [10,11] Z (Qi Z Z (Qh3.cons (Qg EG EE Z Z Z) (Qh3.cons QcJ.tmp Qh3.nil))) ⟨Z,Z⟩
def F_fb(n:Nat)(a:stopwatchlaw19_Input)(h:Way)(g:Int):Option Bool:=(F_ee 300).bind λu=>(bif (!u)then some false else((F_an n a).bind λk=>(bif (!k)then some true else(bif decide (300<(h.Hits.length:Int))then some true else(F_dh n a h).bind λl=>(bif (l != 0)then some true else(bif decide (g<0)then some true else some (decide (h.Last<=g)))))):Option Bool).bind λw=>(bif w then some true else(F_ad n a.C a.K a.S a.Extra a.Hits a.Hands h g).bind λd=>(F_ad n a.C a.K a.S a.Extra a.Hits a.Hands h (i64.wrap (g+1))).bind λe=>(F_bw n a.C a.S.Distance a.Extra g (i64.wrap (g+1))).bind λf=>((bif (d.2.2 != 0)then some true else(bif (e.2.2 != 0)then some true else(bif (f.2 != 0)then some true else(bif decide (d.1<(-1))then some true else(bif decide (e.1<(-1))then some true else(bif decide ((a.K.Far.length:Int)<=(i64.wrap (d.1+1)))then some true else some (decide ((a.K.Far.length:Int)<=(i64.wrap (e.1+1)))))))))):Option Bool).bind λm=>(bif m then some false else((idx a.K.Far (i64.wrap (e.1+1))).bind λp=>(bif decide ((p.length:Int)<=(i64.wrap (d.1+1)))then some true else(idx a.K.Far (i64.wrap (d.1+1))).bind λq=>some (decide ((q.length:Int)<=(i64.wrap (e.1+1))))):Option Bool).bind λr=>(bif r then some false else(idx a.K.Far (i64.wrap (e.1+1))).bind λs=>(idx s (i64.wrap (d.1+1))).bind λi=>(idx a.K.Far (i64.wrap (d.1+1))).bind λt=>(idx t (i64.wrap (e.1+1))).bind λj=>some (decide ((if i64.wrap ((i64.wrap (e.2.1.Lo-d.2.1.Hi))-i)<f.1.Lo then f.1.Lo else i64.wrap ((i64.wrap (e.2.1.Lo-d.2.1.Hi))-i))<=(if f.1.Hi<i64.wrap ((i64.wrap (e.2.1.Hi-d.2.1.Lo))+j)then f.1.Hi else i64.wrap ((i64.wrap (e.2.1.Hi-d.2.1.Lo))+j))))))))
theorem k_fb(n:Nat)(W:stopwatchlaw19_Input)(X:Way)(Y:Int):Ks (F_fb n W X Y) 8 [.agg (stopwatchlaw19_Input.c W),.agg (Way.c X),I Y] [] (λr=>.bool r):=by
 refine Kg 10 func8 Z Z Z Z λr h=>Cz [] h (k_ee _) Z λr1 ai h=>Go 3 Z (Cn Z h (λaa h=>?_) (λaa h=>?_))
 .exact QI 7 Z h 6 []
 refine Gc 4 Z (Bd h λq d h=>Ct q [0,1] [2,3,4] (λq=>[(43,.bool q)]) Ze Zf ?_ (λenv H j=>?_))
 .refine G0 2 Z (Cz [] d (k_an _ _) Z λaj ad d=>Go 2 Z (Is 22 d Z (λs d=>?_) (λs d=>?_)))
  .exact Gl 22 Z d [0,1]
  .refine Go 2 Z (Lg 3 Z Z (Is 28 d Z (λt d=>?_) (λt d=>?_)))
   .exact Gl 16 Z d [0,1]
   .refine Go 2 Z (Cz [] d (k_dh _ _ _) Z λak ae d=>Go 3 Z (Is 34 d Z (λu d=>?_) (λu d=>?_)))
    .exact Gl 10 Z d [0,1]
    .refine Go 4 Z (Is 38 d Z (λw d=>?_) (λw d=>?_))
     iterate 2 exact Gl 6 Z d [0,1]
 refine Gx 1 Z (Ef j (Cn Z h (λy h=>?_) (λy h=>?_)))
 .exact QI 7 Z h 6 []
 refine Gc 18 Z (Cd [] h (k_ad _ _ _ _ _ _ _ _ _) Z λf af h=>Fg 27 Z Z (Cd [] h (k_ad _ _ _ _ _ _ _ _ _) Z λg ag h=>Fg 22 Z Z (Cd [] h (k_bw _ _ _ _ _ _) Z λi ah h=>Fg 10 Z Z (Bd h λk a h=>Ct k [0,3,5,7] [3,7,8,10,11,13] (λk=>[(132,.bool k)]) Ze Zf ?_ (λenv H j=>?_)))))
 .refine G0 4 Z (Is 99 a Z (λz a=>?_) (λz a=>?_))
  .exact Gl 34 Z a [0,3,5,7]
  .refine Go 4 Z (Is 103 a Z (λB a=>?_) (λB a=>?_))
   .exact Gl 30 Z a [0,3,5,7]
   .refine Go 4 Z (Is 107 a Z (λE a=>?_) (λE a=>?_))
    .exact Gl 26 Z a [0,3,5,7]
    .refine Go 4 Z (Is 111 a Z (λF a=>?_) (λF a=>?_))
     .exact Gl 22 Z a [0,3,5,7]
     .refine Go 4 Z (Is 115 a Z (λG a=>?_) (λG a=>?_))
      .exact Gl 18 Z a [0,3,5,7]
      .refine Go 5 Z (Lg 3 Z Z (Is 124 a Z (λJ a=>?_) (λJ a=>?_)))
       .exact Gl 9 Z a [0,3,5,7]
       .exact Go 5 Z (Lm Z (Gl 3 Z a [0,3,5,7]))
 refine Gx 1 Z (Ef j (Cn Z h (λL h=>?_) (λL h=>?_)))
 .exact QI 7 Z h 6 []
 refine Gc 4 Z (Bd h λl e h=>Cg l [0,1,2,3] [3,7,8,10,11,13] (λl=>[(156,.bool l)]) Ze Zf ?_ ?_)
 .refine G0 8 Z (Bd e λal M e=>Iz M Z (Go 1 Z (Lg 2 Z Z (Is 144 e Z (λN e=>?_) (λN e=>?_)))))
  .exact Gl 13 Z e [0,1,2,3]
  .exact Go 7 Z (Bd e λam O e=>Iz O Z (Go 1 Z (Lm Z (Gl 3 Z e [0,1,2,3]))))
 refine Cn Z h (λP h=>?_) (λP h=>?_)
 .exact QI 7 Z h 6 []
 refine Gc 3 Z (DSs 35 Z (D 10 Z ?_));obtain⟨ab,Q,h⟩:=YH h;refine DS.wo (x:=.rp [.rsl 1 (map (Qe .i64) ab)]) ?_ ?_
 .exact Ix Q EH EM Z Wp
 refine D 3 Z ?_;obtain⟨m,R,h⟩:=YH h;refine DS.wo (x:=.rp [I m]) ?_ ?_
 .exact Ix R EB EC Z Wp
 refine D 12 Z ?_;obtain⟨ac,T,h⟩:=YH h;refine DS.wo (x:=.rp [.rsl 1 (map (Qe .i64) ac)]) ?_ ?_
 .exact Ix T EH EM Z Wp
 refine D 3 Z ?_;obtain⟨p,V,h⟩:=YH h;refine DS.wo (x:=.rp [I p]) ?_ ?_
 .exact Ix V EB EC Z Wp
 refine D 3 Z (Eh Z (Go 8 Z ?_));refine vV (x:=(I (if i64.wrap ((i64.wrap (g.2.1.Lo-f.2.1.Hi))-m)<i.1.Lo then i.1.Lo else i64.wrap ((i64.wrap (g.2.1.Lo-f.2.1.Hi))-m)))) (OpV.max Z Z Z Z) ?_;refine Go 3 Z ?_;refine vV (x:=(I (if i.1.Hi<i64.wrap ((i64.wrap (g.2.1.Hi-f.2.1.Lo))+p)then i.1.Hi else i64.wrap ((i64.wrap (g.2.1.Hi-f.2.1.Lo))+p)))) (OpV.min Z Z Z Z) ?_;exact Gt 5 Z h 6 []
end Go.Sw
