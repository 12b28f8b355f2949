/- What the functions compute that PenaltiesOfSpec reaches, and that their calls refine it (part 4 of 5). -/
import Derived.Test.YtdlojdpflfdgcaaGreatDoorW22Os3
set_option linter.unusedVariables false
set_option linter.unusedSimpArgs false
set_option maxRecDepth 100000
set_option maxHeartbeats 4000000
namespace Go.Sw
variable (n:Nat)
open List(map)
open Int(toNat)
open Go.IntKind(i64 u64 u8)
open Go.Proofs Tryz
def Ln(d:AE)(a:Int):AB (AG Int (AG Unit Bool)):=(bif a<(d.Mats.length:Int) then(AJ d.Mats a).bind λe=>(C4 n e.Kind 1 3).bind λf=>(bif (!f)then some (.d (.d false))else some (.k (i64.wrap (a+1))))else some (.d (.k ())))
def IS(n:Nat)(i:AE)(e:Int)(d:BE)(a:Int):AB (AG Int (AG Unit (AG Int (AG Unit Bool)))):=(bif a<e then((AJ i.Legs a).bind λf=>(bif (f.From==d.From)then(AJ i.Legs a).bind λg=>some (g.To==d.To)else some false):AB Bool).bind λh=>(bif h then some (.d (.d (.d (.d false))))else some (.k (i64.wrap (a+1))))else some (.d (.k ())))
def HC(f:AE)(d:Int):AB (AG Int (AG Unit Bool)):=(bif d<(f.Legs.length:Int) then(AJ f.Legs d).bind λa=>((II n f a.From).bind λg=>(bif (!g)then some true else(II n f a.To).bind λh=>(bif (!h)then some true else(bif a.Min<0 then some true else(bif a.Max<a.Min then some true else some (decide (68719476736<a.Max)))))):AB Bool).bind λi=>(bif i then some (.d (.d false))else(iter (IS n f d a) n 0:AB (AG Unit (AG Int (AG Unit Bool)))).bind λj=>match j with|.k e=>(some (.k (i64.wrap (d+1))))|.d e=>some e)else some (.d (.k ())))
def LN(d:AE)(a:Int):AB (AG Int (AG Unit Bool)):=(bif a<(d.Distances.length:Int) then(AJ d.Distances a).bind λe=>(RH n d e).bind λf=>(bif (!f)then some (.d (.d false))else some (.k (i64.wrap (a+1))))else some (.d (.k ())))
def Lh(f:AE)(a:Int):AB (AG Int (AG Unit Bool)):=(bif a<(f.Waves.length:Int) then(AJ f.Waves a).bind λd=>(C4 n d.Gun 0 1099511627776).bind λe=>(bif (!e)then some (.d (.d false))else some (.k (i64.wrap (a+1))))else some (.d (.k ())))
def Ll(k:AE)(d:Int):AB (AG Int (AG Unit Bool)):=(bif d<(k.Offences.length:Int) then(AJ k.Offences d).bind λa=>((C4 n a.Time 0 68719476736).bind λe=>(bif e then(bif (a.Laps==0)then some (!a.Out)else some false)else some false):AB Bool).bind λf=>((bif (a.Time==0)then(C4 n a.Laps 1 64).bind λg=>(bif g then some (!a.Out)else some false)else some false):AB Bool).bind λh=>((bif (a.Time==0)then(bif (a.Laps==0)then some a.Out else some false)else some false):AB Bool).bind λi=>((bif (!f)then(bif (!h)then some (!i)else some false)else some false):AB Bool).bind λj=>(bif j then some (.d (.d false))else some (.k (i64.wrap (d+1))))else some (.d (.k ())))
def LO(n:Nat)(f:AE)(d:Int):AB (AG Int (AG Unit Bool)):=(bif d<(f.Categories.length:Int) then(AJ f.Categories d).bind λa=>((bif a.From<0 then some true else(bif a.To<a.From then some true else some (decide (120<a.To)))):AB Bool).bind λe=>(bif e then some (.d (.d false))else some (.k (i64.wrap (d+1))))else some (.d (.k ())))
def IX(n:Nat)(h:AE)(f:Int)(a:AW)(d:Int):AB (AG Int (AG Unit (AG Int (AG Unit Bool)))):=(bif d<f then(AJ h.Prizes d).bind λe=>((bif (e.Distance==a.Distance)then(bif (e.Category==a.Category)then some (e.Rank==a.Rank)else some false)else some false):AB Bool).bind λg=>(bif g then some (.d (.d (.d (.d false))))else some (.k (i64.wrap (d+1))))else some (.d (.k ())))
def HG(f:AE)(d:Int):AB (AG Int (AG Unit Bool)):=(bif d<(f.Prizes.length:Int) then(AJ f.Prizes d).bind λa=>((C4 n a.Distance 0 (i64.wrap ((f.Distances.length:Int)-1))).bind λg=>(bif (!g)then some true else(C4 n a.Category (-1) (i64.wrap ((f.Categories.length:Int)-1))).bind λh=>(bif (!h)then some true else(C4 n a.Rank 1 4000).bind λi=>(bif (!i)then some true else(C4 n a.Amount 1 1125899906842624).bind λj=>some (!j)))):AB Bool).bind λk=>(bif k then some (.d (.d false))else(iter (IX n f d a) n 0:AB (AG Unit (AG Int (AG Unit Bool)))).bind λl=>match l with|.k e=>(some (.k (i64.wrap (d+1))))|.d e=>some e)else some (.d (.k ())))
def MZ(a:AE):AB Bool:=(iter (Ln n a) n 0:AB (AG Unit Bool)).bind λB=>match B with|.k i=>((iter (HC n a) n 0:AB (AG Unit Bool)).bind λE=>match E with|.k j=>((iter (LN n a) n 0:AB (AG Unit Bool)).bind λk=>match k with|.k d=>((iter (Lh n a) n 0:AB (AG Unit Bool)).bind λl=>match l with|.k e=>((iter (Ll n a) n 0:AB (AG Unit Bool)).bind λm=>match m with|.k f=>((iter (LO n a) n 0:AB (AG Unit Bool)).bind λp=>match p with|.k g=>((iter (HG n a) n 0:AB (AG Unit Bool)).bind λq=>match q with|.k h=>(((C4 n a.Faults.Misses 0 16).bind λr=>(bif r then(C4 n a.Faults.Strays 0 16).bind λs=>(bif s then(C4 n a.Faults.Window 0 4294967296).bind λt=>(bif t then(C4 n a.Faults.Residual 0 4294967296).bind λu=>(bif u then(C4 n a.Faults.Drift 0 100000).bind λw=>(bif w then(C4 n a.Fee 0 1125899906842624).bind λx=>(bif x then(C4 n a.Deadline 0 1099511627776).bind λy=>some y else some false)else some false)else some false)else some false)else some false)else some false):AB Bool).bind λz=>some z)|.d h=>some h)|.d g=>some g)|.d f=>some f)|.d e=>some e)|.d d=>some d)|.d j=>some j)|.d i=>some i
theorem iS(a1:AE):Ks (MZ n a1) 52 [.agg (AE.c a1)] [] (λr=>.bool r):=by
 refine Kg 12 func52 Z Z Z Z λr h=>Bd h λds dt h=>DD (b:=ds) [0] [1] Ze Ze Zf ?_ (λew env H u d=>?_)
 .refine G0 1 Z (Lp [0] [1] (λcw=>[(3,I cw)]) Ze dt Zf (Lr [0]) λcw gk w ak=>?_);refine G0 6 Z (Lg 3 Z Z (Q5 Z w (λ_ w=>?_) (λ_ w=>?_)))
  .exact Gc 2 Z (Qi w (Gx 1 Z (JD ak w Z (Lr [0]))))
  refine Gc 9 Z (Bd w λgl cy w=>Iz cy Z (Go 2 Z (Cz [] w (Dw _ _ _ _) Z λgm ey w=>Go 3 Z (Cn Z w (λ_ w=>?_) (λ_ w=>?_)))))
  .refine Gc 8 Z (Qx w ?_);obtain rfl:=Oj ak w;exact Gx 1 Z (Qq (Gx 1 Z (Rt h 2 [])))
  exact Gc 8 Z (Qg w (Lr [0]))
 subst u;refine Gx 1 Z (Qd d (Gc 6 Z (Bd h λdu da h=>DD (b:=du) [0] [1] Ze Ze Zf ?_ (λez env H u d=>?_))))
 .refine G0 1 Z (Lp [0] [1] (λal=>[(4,I al)]) Ze da Zf (Lr [0]) λal fa j N=>?_);refine G0 6 Z (Lg 3 Z Z (Q5 Z j (λ_ j=>?_) (λ_ j=>?_)))
  .exact Gc 2 Z (Qi j (Gx 1 Z (JD N j Z (Lr [0]))))
  refine Gc 9 Z (Bd j λfc ax j=>Iz ax Z (Go 7 Z (Bd j λQ f j=>Ct Q [0,1] [1,4,5] (λQ=>[(76,.bool Q)]) Ze Zf ?_ (λenv H d=>?_))))
  .refine G0 4 Z (Cz [] f (T4 _ _ _) Z λfd dv f=>Go 2 Z (Is 53 f Z (λ_ f=>?_) (λ_ f=>?_)))
   .exact Gl 24 Z f [0,1]
   .refine Go 3 Z (Cz [] f (T4 _ _ _) Z λfe dw f=>Go 3 Z (Is 60 f Z (λ_ f=>?_) (λ_ f=>?_)))
    .exact Gl 17 Z f [0,1]
    .refine Go 5 Z (Is 65 f Z (λ_ f=>?_) (λ_ f=>?_))
     .exact Gl 12 Z f [0,1]
     .refine Go 7 Z (Is 72 f Z (λ_ f=>?_) (λ_ f=>?_))
      iterate 2 exact Gl 5 Z f [0,1]
  refine Gx 1 Z (Qd d (Cn Z j (λ_ j=>?_) (λ_ j=>?_)))
  .refine Gc 9 Z (Qx j ?_);obtain rfl:=Oj N j;exact Gx 1 Z (Qq (Gx 1 Z (Rt h 2 [])))
  refine Gc 7 Z (Bd j λdb dc j=>DD (b:=db) [0] [1,4] Ze Ze Zf ?_ (λdx env H u d=>?_))
  .refine G0 1 Z (Lp [0,1] [1,4,5] (λam=>[(6,I am)]) Ze dc Zf (Lr [0,1]) λam fg t ae=>?_);refine G0 8 Z (Q5 Z t (λ_ t=>?_) (λ_ t=>?_))
   .exact Gc 2 Z (Qi t (Gx 1 Z (JD ae t Z (Lr [0]))))
   refine Gc 5 Z (Bd t λR B t=>Ct R [0,1] [1,4,5,6] (λR=>[(101,.bool R)]) Ze Zf ?_ (λenv H d=>?_))
   .refine G0 0 Z (Bj 18 Z (D 3 Z ?_));obtain⟨O,be,B⟩:=YE B;refine DS.wo (x:=.rp [I O.From,I O.To,I O.Min,I O.Max]) ?_ ?_
    .exact Ix be GG sizeOf118 Z Wp
    refine D 6 Z (KN 9 B Z Z Z (λ_ B=>?_) (λ_ B=>?_))
    .refine D 3 Z ?_;obtain⟨L,bg,B⟩:=YE B;refine DS.v (x:=(.rp [I L.From,I L.To,I L.Min,I L.Max])) (O5 (e:=BE.c) (l:=a1.Legs) (v:=L) bg GG sizeOf118) ?_ (hg:=(gT Z));exact D 4 Z (Eg Z (Gl 3 Z B [0,1]))
    .exact D 8 Z (Eg Z (Gl 3 Z B [0,1]))
   refine Gx 1 Z (Qd d (Cn Z t (λ_ t=>?_) (λ_ t=>?_)))
   .refine Gc 8 Z (Qx t ?_);obtain rfl:=Oj ae t;refine Gx 1 Z (Qq (Gx 2 Z (Qx j ?_)));obtain rfl:=Oj N j;exact Gx 1 Z (Qq (Gx 1 Z (Rt h 2 [])))
   exact Gc 8 Z (Qg t (Lr [0,1]))
  subst u;exact Gx 2 Z (Qd d (Gc 5 Z (Qg j (Lr [0]))))
 subst u;refine Gx 1 Z (Qd d (Gc 6 Z (Bd h λde df h=>DD (b:=de) [0] [1] Ze Ze Zf ?_ (λdy env H u d=>?_))))
 .refine G0 1 Z (Lp [0] [1] (λan=>[(7,I an)]) Ze df Zf (Lr [0]) λan fh m af=>?_);refine G0 6 Z (Lg 3 Z Z (Q5 Z m (λ_ m=>?_) (λ_ m=>?_)))
  .exact Gc 2 Z (Qi m (Gx 1 Z (JD af m Z (Lr [0]))))
  refine Gc 5 Z (Bj 6 Z (D 4 Z ?_));obtain⟨M,bj,m⟩:=YE m;refine DS.wo (x:=.rp [.str M.Name,.rsl 3 (map AF.enc M.Route),I M.Timing,.rsl 3 (map AP.c M.Cutoffs),I M.Extra]) ?_ ?_
  .exact Ix bj Gm Gq Z Wp
  refine D 1 Z (Eg Z (Cz [] m (fU _ _ _) Z λfi dz m=>Go 3 Z (Cn Z m (λ_ m=>?_) (λ_ m=>?_))))
  .refine Gc 8 Z (Qx m ?_);obtain rfl:=Oj af m;exact Gx 1 Z (Qq (Gx 1 Z (Rt h 2 [])))
  exact Gc 8 Z (Qg m (Lr [0]))
 subst u;refine Gx 1 Z (Qd d (Gc 6 Z (Bd h λdg dh h=>DD (b:=dg) [0] [1] Ze Ze Zf ?_ (λea env H u d=>?_))))
 .refine G0 1 Z (Lp [0] [1] (λao=>[(8,I ao)]) Ze dh Zf (Lr [0]) λao fj p ag=>?_);refine G0 6 Z (Lg 3 Z Z (Q5 Z p (λ_ p=>?_) (λ_ p=>?_)))
  .exact Gc 2 Z (Qi p (Gx 1 Z (JD ag p Z (Lr [0]))))
  refine Gc 9 Z (Bd p λfk bm p=>Iz bm Z (Go 2 Z (Cz [] p (Dw _ _ _ _) Z λfm eb p=>Go 3 Z (Cn Z p (λ_ p=>?_) (λ_ p=>?_)))))
  .refine Gc 8 Z (Qx p ?_);obtain rfl:=Oj ag p;exact Gx 1 Z (Qq (Gx 1 Z (Rt h 2 [])))
  exact Gc 8 Z (Qg p (Lr [0]))
 subst u;refine Gx 1 Z (Qd d (Gc 6 Z (Bd h λdi dj h=>DD (b:=di) [0] [1] Ze Ze Zf ?_ (λec env H u d=>?_))))
 .refine G0 1 Z (Lp [0] [1] (λaq=>[(9,I aq)]) Ze dj Zf (Lr [0]) λaq fo g ah=>?_);refine G0 6 Z (Lg 3 Z Z (Q5 Z g (λ_ g=>?_) (λ_ g=>?_)))
  .exact Gc 2 Z (Qi g (Gx 1 Z (JD ah g Z (Lr [0]))))
  refine Gc 9 Z (Bd g λfp bp g=>Iz bp Z (Go 6 Z (Bd g λT y g=>Ct T [0,1] [1,9,10] (λT=>[(11,.bool T)]) Ze Zf ?_ (λenv H d=>?_))))
  .refine G0 3 Z (Cz [] y (Dw _ _ _ _) Z λfq ed y=>Go 1 Z (Is 147 y Z (λ_ y=>?_) (λ_ y=>?_)))
   .refine Go 5 Z (Is 152 y Z (λ_ y=>?_) (λ_ y=>?_))
    iterate 2 exact Gl 6 Z y [0,1]
   .exact Gl 11 Z y [0,1]
  refine Gx 1 Z (Qd d (Gc 1 Z (Bd g λV z g=>Ct V [0,1] [1,9,10,11] (λV=>[(12,.bool V)]) Ze Zf ?_ (λenv H d=>?_))))
  .refine G0 5 Z (Is 160 z Z (λ_ z=>?_) (λ_ z=>?_))
   .refine Go 2 Z (Cz [] z (Dw _ _ _ _) Z λfr ee z=>Go 2 Z (Is 165 z Z (λ_ z=>?_) (λ_ z=>?_)))
    iterate 2 exact Gl 6 Z z [0,1]
   .exact Gl 11 Z z [0,1]
  refine Gx 1 Z (Qd d (Gc 1 Z (Bd g λW E g=>Ct W [0] [1,9,11,12] (λW=>[(13,.bool W)]) Ze Zf ?_ (λenv H d=>?_))))
  .refine G0 5 Z (Is 173 E Z (λ_ E=>?_) (λ_ E=>?_))
   .refine Go 5 Z (Is 178 E Z (λ_ E=>?_) (λ_ E=>?_))
    iterate 2 exact Gl 5 Z E [0]
   .exact Gl 10 Z E [0]
  refine Gx 1 Z (Qd d (Gc 1 Z (Bd g λX F g=>Ct X [0] [1,9] (λX=>[(191,.bool X)]) Ze Zf ?_ (λenv H d=>?_))))
  .refine G0 4 Z (Is 184 F Z (λ_ F=>?_) (λ_ F=>?_))
   .refine Go 4 Z (Is 188 F Z (λ_ F=>?_) (λ_ F=>?_))
    iterate 2 exact Gl 4 Z F [0]
   .exact Gl 8 Z F [0]
  refine Gx 1 Z (Qd d (Cn Z g (λ_ g=>?_) (λ_ g=>?_)))
  .refine Gc 8 Z (Qx g ?_);obtain rfl:=Oj ah g;exact Gx 1 Z (Qq (Gx 1 Z (Rt h 2 [])))
  exact Gc 8 Z (Qg g (Lr [0]))
 subst u;refine Gx 1 Z (Qd d (Gc 6 Z (Bd h λdk dm h=>DD (b:=dk) [0] [1] Ze Ze Zf ?_ (λef env H u d=>?_))))
 .refine G0 1 Z (Lp [0] [1] (λar=>[(14,I ar)]) Ze dm Zf (Lr [0]) λar fs q ai=>?_);refine G0 6 Z (Lg 3 Z Z (Q5 Z q (λ_ q=>?_) (λ_ q=>?_)))
  .exact Gc 2 Z (Qi q (Gx 1 Z (JD ai q Z (Lr [0]))))
  refine Gc 9 Z (Bd q λft cb q=>Iz cb Z (Go 6 Z (Bd q λY G q=>Ct Y [0] [1,14] (λY=>[(218,.bool Y)]) Ze Zf ?_ (λenv H d=>?_))))
  .refine G0 5 Z (Is 207 G Z (λ_ G=>?_) (λ_ G=>?_))
   .exact Gl 12 Z G [0]
   .refine Go 7 Z (Is 214 G Z (λ_ G=>?_) (λ_ G=>?_))
    iterate 2 exact Gl 5 Z G [0]
  refine Gx 1 Z (Qd d (Cn Z q (λ_ q=>?_) (λ_ q=>?_)))
  .refine Gc 8 Z (Qx q ?_);obtain rfl:=Oj ai q;exact Gx 1 Z (Qq (Gx 1 Z (Rt h 2 [])))
  exact Gc 8 Z (Qg q (Lr [0]))
 subst u;refine Gx 1 Z (Qd d (Gc 6 Z (Bd h λdn dp h=>DD (b:=dn) [0] [1] Ze Ze Zf ?_ (λeg env H u d=>?_))))
 .refine G0 1 Z (Lp [0] [1] (λau=>[(16,I au)]) Ze dp Zf (Lr [0]) λau fu k P=>?_);refine G0 6 Z (Lg 3 Z Z (Q5 Z k (λ_ k=>?_) (λ_ k=>?_)))
  .exact Gc 2 Z (Qi k (Gx 1 Z (JD P k Z (Lr [0]))))
  refine Gc 9 Z (Bd k λfv cg k=>Iz cg Z (Go 7 Z (Bd k λaa i k=>Ct aa [0,1] [1,16,17] (λaa=>[(260,.bool aa)]) Ze Zf ?_ (λenv H d=>?_))))
  .refine G0 5 Z (Lg 1 Z Z (Cz [] i (Dw _ _ _ _) Z λfw eh i=>Go 2 Z (Is 239 i Z (λ_ i=>?_) (λ_ i=>?_))))
   .exact Gl 22 Z i [0,1]
   .refine Go 4 Z (Lg 1 Z Z (Cz [] i (Dw _ _ _ _) Z λfx ei i=>Go 3 Z (Is 249 i Z (λ_ i=>?_) (λ_ i=>?_))))
    .exact Gl 12 Z i [0,1]
    .refine Go 2 Z (Cz [] i (Dw _ _ _ _) Z λfy ej i=>Go 3 Z (Is 255 i Z (λ_ i=>?_) (λ_ i=>?_)))
     .exact Gl 6 Z i [0,1]
     .exact Go 2 Z (Cz [] i (Dw _ _ _ _) Z λga ek i=>Gl 3 Z i [0,1])
  refine Gx 1 Z (Qd d (Cn Z k (λ_ k=>?_) (λ_ k=>?_)))
  .refine Gc 9 Z (Qx k ?_);obtain rfl:=Oj P k;exact Gx 1 Z (Qq (Gx 1 Z (Rt h 2 [])))
  refine Gc 7 Z (Bd k λdq dr k=>DD (b:=dq) [0] [1,16] Ze Ze Zf ?_ (λel env H u d=>?_))
  .refine G0 1 Z (Lp [0,1] [1,16,17] (λav=>[(18,I av)]) Ze dr Zf (Lr [0,1]) λav gb s aj=>?_);refine G0 8 Z (Q5 Z s (λ_ s=>?_) (λ_ s=>?_))
   .exact Gc 2 Z (Qi s (Gx 1 Z (JD aj s Z (Lr [0]))))
   refine Gc 9 Z (Bd s λgc cm s=>Iz cm Z (Go 6 Z (Bd s λab J s=>Ct ab [0,1] [1,16,17,18] (λab=>[(289,.bool ab)]) Ze Zf ?_ (λenv H d=>?_))))
   .refine G0 7 Z (Is 276 J Z (λ_ J=>?_) (λ_ J=>?_))
    .refine Go 7 Z (Is 283 J Z (λ_ J=>?_) (λ_ J=>?_))
     iterate 2 exact Gl 7 Z J [0,1]
    .exact Gl 14 Z J [0,1]
   refine Gx 1 Z (Qd d (Cn Z s (λ_ s=>?_) (λ_ s=>?_)))
   .refine Gc 8 Z (Qx s ?_);obtain rfl:=Oj aj s;refine Gx 1 Z (Qq (Gx 2 Z (Qx k ?_)));obtain rfl:=Oj P k;exact Gx 1 Z (Qq (Gx 1 Z (Rt h 2 [])))
   exact Gc 8 Z (Qg s (Lr [0,1]))
  subst u;exact Gx 2 Z (Qd d (Gc 5 Z (Qg k (Lr [0]))))
 subst u;refine Gx 1 Z (Qd d (Gc 9 Z (Bd h λac a h=>Cg ac [] [] (λac=>[(2,.bool ac)]) Ze Zf ?_ ?_)))
 .refine G0 3 Z (Cz [] a (Dw _ _ _ _) Z λgd em a=>Go 1 Z (Is 295 a Z (λ_ a=>?_) (λ_ a=>?_)))
  .refine Go 2 Z (Cz [] a (Dw _ _ _ _) Z λge en a=>Go 2 Z (Is 300 a Z (λ_ a=>?_) (λ_ a=>?_)))
   .refine Go 2 Z (Cz [] a (Dw _ _ _ _) Z λgf eo a=>Go 2 Z (Is 305 a Z (λ_ a=>?_) (λ_ a=>?_)))
    .refine Go 2 Z (Cz [] a (Dw _ _ _ _) Z λgg ep a=>Go 2 Z (Is 310 a Z (λ_ a=>?_) (λ_ a=>?_)))
     .refine Go 2 Z (Cz [] a (Dw _ _ _ _) Z λgh es a=>Go 2 Z (Is 315 a Z (λ_ a=>?_) (λ_ a=>?_)))
      .refine Go 2 Z (Cz [] a (Dw _ _ _ _) Z λgi et a=>Go 2 Z (Is 320 a Z (λ_ a=>?_) (λ_ a=>?_)))
       .exact Go 2 Z (Cz [] a (Dw _ _ _ _) Z λgj eu a=>Gl 3 Z a [])
       .exact Gl 6 Z a []
      .exact Gl 11 Z a []
     .exact Gl 16 Z a []
    .exact Gl 21 Z a []
   .exact Gl 26 Z a []
  .exact Gl 31 Z a []
 exact QJ 1 Z h 2 []
def IQ(n:Nat)(d:Cond)(rec233:Cond->AB Bool)(a:Int):AB (AG Int (AG Unit Bool)):=(bif a<(d.Parts.length:Int) then(AJ d.Parts a).bind λe=>(rec233 e).bind λf=>(bif (!f)then some (.d (.d false))else some (.k (i64.wrap (a+1))))else some (.d (.k ())))
def SL(rec233:Cond->AB Bool)(n:Nat)(a:Cond):AB Bool:=(bif (a.Kind==1)then((bif 1<=a.Var then(bif a.Var<=3 then(bif 0<=a.N then(bif a.N<=10000 then some ((a.Parts.length:Int)==0)else some false)else some false)else some false)else some false):AB Bool).bind λk=>some k else((bif (a.Kind==2)then some (a.Kind==2)else some (a.Kind==3)):AB Bool).bind λf=>((bif f then((bif (a.Parts.length:Int)<1 then some true else some (decide (16<(a.Parts.length:Int)))):AB Bool).bind λg=>(bif g then some (.d false)else some (.k ()))else(bif (a.Kind==4)then(bif ((a.Parts.length:Int) != 1)then some (.d false)else some (.k ()))else some (.d false))):AB (AG Unit Bool)).bind λh=>match h with|.k d=>(((bif (a.Var != 0)then some true else some (a.N != 0)):AB Bool).bind λi=>(bif i then some false else(iter (IQ n a rec233) n 0:AB (AG Unit Bool)).bind λj=>match j with|.k e=>(some true)|.d e=>some e))|.d d=>some d)
theorem Qba(rec233:Cond->AB Bool)(k:∀(l:Cond) (r:Bool),rec233 l=some r->Bk prog 234 [.agg (Cond.c l)] [] (λr=>.bool r) r)(n:Nat)(l:Cond)(r:Bool)(h:SL rec233 n l=some r):Bk prog 234 [.agg (Cond.c l)] [] (λr=>.bool r) r:=by
 refine QG func234 Z Z Z ?_;refine G0 20 Z (Cn Z h (λ_ h=>?_) (λ_ h=>?_))
 .refine Gc 1 Z (Bd h λu e h=>Ct u [] [] (λu=>[(2,.bool u)]) Ze Zf ?_ (λenv H f=>?_))
  .refine G0 5 Z (Is 11 e Z (λ_ e=>?_) (λ_ e=>?_))
   .refine Go 5 Z (Is 16 e Z (λ_ e=>?_) (λ_ e=>?_))
    .refine Go 5 Z (Is 21 e Z (λ_ e=>?_) (λ_ e=>?_))
     .refine Go 5 Z (Is 26 e Z (λ_ e=>?_) (λ_ e=>?_))
      .exact Go 2 Z (Lm Z (Gl 4 Z e []))
      .exact Gl 7 Z e []
     .exact Gl 12 Z e []
    .exact Gl 17 Z e []
   .exact Gl 22 Z e []
  exact Gx 1 Z (Qd f (QJ 3 Z h 2 []))
 refine Gc 7 Z (Bd h λm g h=>Ct m [0] [1,5] (λm=>[(32,.bool m)]) Ze Zf ?_ (λenv H f=>?_))
 .refine G0 0 Z (Cn Z g (λ_ g=>?_) (λ_ g=>?_))
  .exact YM 1 Z g [0]
  exact YM 4 Z g [0]
 refine Gx 1 Z (Qd f (Bd h λT a h=>DD (b:=T) [0] [1] Ze Ze Zf ?_ (λaa env H hb f=>?_)))
 .refine G0 0 Z (Cn Z a (λ_ a=>?_) (λ_ a=>?_))
  .refine Gc 1 Z (Bd a λp i a=>Ct p [0] [1] (λp=>[(44,.bool p)]) Ze Zf ?_ (λenv H f=>?_))
   .refine G0 3 Z (Lg 2 Z Z (Is 39 i Z (λ_ i=>?_) (λ_ i=>?_)))
    .exact Gl 6 Z i [0]
    .exact Go 2 Z (Lm Z (Gl 3 Z i [0]))
   refine Gx 1 Z (Qd f (Cn Z a (λ_ a=>?_) (λ_ a=>?_)))
   .refine Gc 6 Z ?_;cases a;exact Qq (Gx 2 Z (Rt h 2 []))
   refine Gc 1 Z ?_;cases a;exact YC Z (Lr [0])
  refine Gc 6 Z (Q5 Z a (λ_ a=>?_) (λ_ a=>?_))
  .refine Gc 6 Z ?_;cases a;exact Qq (Gx 2 Z (Rt h 2 []))
  refine Gc 4 Z (Lg 3 Z Z (Cn Z a (λ_ a=>?_) (λ_ a=>?_)))
  .refine Gc 6 Z ?_;cases a;exact Qq (Gx 2 Z (Rt h 2 []))
  refine Gc 1 Z ?_;cases a;exact YC Z (Lr [0])
 subst hb;refine Gx 2 Z (Qd f (Gc 2 Z (Bd h λq j h=>Ct q [0] [1] (λq=>[(58,.bool q)]) Ze Zf ?_ (λenv H f=>?_))))
 .refine G0 5 Z (Is 54 j Z (λ_ j=>?_) (λ_ j=>?_))
  iterate 2 exact Gl 5 Z j [0]
 refine Gx 1 Z (Qd f (Cn Z h (λ_ h=>?_) (λ_ h=>?_)))
 .exact QJ 7 Z h 2 []
 refine Gc 8 Z (Bd h λV W h=>BZ (b:=V) [] [] Ze Ze Zf ?_ (λ_ X=>?_))
 .refine G0 1 Z (Lp [0] [1] (λt=>[(3,I t)]) Ze W Zf (Lr [0]) λt ae d s=>?_);refine G0 6 Z (Lg 3 Z Z (Q5 Z d (λ_ d=>?_) (λ_ d=>?_)))
  .exact Gc 2 Z (Qi d (Gx 1 Z (JD s d Z (Lr []))))
  refine Gc 9 Z (Bd d λY N d=>CQ N (W3 Y) Z (Go 1 Z (Cz [] d (k _) Z λaf ac d=>Go 3 Z (Cn Z d (λ_ d=>?_) (λ_ d=>?_)))))
  .refine Gc 8 Z (Qx d ?_);obtain rfl:=Oj s d;exact Gx 1 Z (Qq (Gx 1 Z (Rt h 2 [])))
  exact Gc 8 Z (Qg d (Lr [0]))
 subst X;exact QJ 6 Z h 2 []
def Fv:Nat->Cond->AB Bool
  |0=>λ_=>none
  |n+1=>SL (Fv n) n
theorem i8:∀(a:Cond) (r:Bool),Fv n a=some r->Bk prog 234 [.agg (Cond.c a)] [] (λr=>.bool r) r:=by
  induction n with
  |zero=>intro a r h;cases h
  |succ n ih=>intro a r h;exact Qba _ ih n a r h
def Mi(a:Cond):AB Int:=(LM n a 0).bind λd=>(bif 256<d then some 2 else(Fv n a).bind λe=>(bif (!e)then some 71 else some 0))
theorem ic(a:Cond):Ks (Mi n a) 182 [.agg (Cond.c a)] [] (λr=>I r):=by
 refine Kg 10 func182 Z Z Z Z λr h=>Cz [] h (mu _ _ _) Z λi f h=>Go 3 Z (Cn Z h (λ_ h=>?_) (λ_ h=>?_))
 .exact QJ 7 Z h 2 []
 refine Gc 6 Z (Cz [] h (i8 _ _) Z λj g h=>Go 3 Z (Cn Z h (λ_ h=>?_) (λ_ h=>?_)))
 .exact QJ 7 Z h 2 []
 exact QJ 8 Z h 2 []
def LW(m:AA Step)(rec231:(AA Step)->AB Bool)(d:Int):AB (AG Int (AG Unit Bool)):=(bif d<(m.length:Int) then(AJ m d).bind λa=>((bif (a.Kind==1)then((bif a.By<1 then some true else(bif 5<a.By then some true else(I5 n a.Cond).bind λf=>(bif (!f)then some true else(bif ((a.Then.length:Int) != 0)then some true else some ((a.Else.length:Int) != 0))))):AB Bool).bind λg=>(bif g then some (.d (.d (.d false)))else some (.k ()))else(bif (a.Kind==2)then((bif (a.By != 0)then some true else(Mi n a.Cond).bind λh=>(bif (h != 0)then some true else(bif ((a.Then.length:Int)==0)then some true else(rec231 a.Then).bind λi=>(bif (!i)then some true else(rec231 a.Else).bind λj=>some (!j))))):AB Bool).bind λk=>(bif k then some (.d (.d (.d false)))else some (.k ()))else some (.d (.d (.d false))))):AB (AG Unit (AG Int (AG Unit Bool)))).bind λl=>match l with|.k e=>(some (.k (i64.wrap (d+1))))|.d e=>some e else some (.d (.k ())))
def dG(rec231:(AA Step)->AB Bool)(n:Nat)(e:AA Step):AB Bool:=(iter (LW n e rec231) n 0:AB (AG Unit Bool)).bind λd=>match d with|.k a=>(some true)|.d a=>some a
theorem Qa9(rec231:(AA Step)->AB Bool)(i:∀(m:AA Step) (r:Bool),rec231 m=some r->Bk prog 126 [.rsl 8 (map Step.enc m)] [] (λr=>.bool r) r)(n:Nat)(m:AA Step)(r:Bool)(h:dG rec231 n m=some r):Bk prog 126 [.rsl 8 (map Step.enc m)] [] (λr=>.bool r) r:=by
 refine QG func126 Z Z Z ?_;refine G0 11 Z (Bd h λM N h=>BZ (b:=M) [] [] Ze Ze Zf ?_ (λ_ Q=>?_))
 .refine G0 1 Z (Lp [] [0] (λp=>[(3,I p)]) Ze N Zf (Lr []) λp aa f g=>?_);refine G0 5 Z (Lg 3 Z Z (Q5 Z f (λ_ f=>?_) (λ_ f=>?_)))
  .exact Gc 2 Z (Qi f (Gx 1 Z (JD g f Z (Lr []))))
  refine Gc 8 Z (Bd f λO s f=>CQ s (YX O) Z (Go 18 Z (Bd f λP d f=>DD (b:=P) [] [0,3] Ze Ze Zf ?_ (λT env H hb j=>?_))))
  .refine G0 0 Z (Cn Z d (λ_ d=>?_) (λ_ d=>?_))
   .refine Gc 1 Z (Bd d λk e d=>Ct k [] [0,3] (λk=>[(44,.bool k)]) Ze Zf ?_ (λenv H j=>?_))
    .refine G0 5 Z (Is 22 e Z (λ_ e=>?_) (λ_ e=>?_))
     .exact Gl 23 Z e []
     .refine Go 5 Z (Is 27 e Z (λ_ e=>?_) (λ_ e=>?_))
      .exact Gl 18 Z e []
      .refine Go 2 Z (Cz [] e (UR _ _) Z λab V e=>Go 3 Z (Is 33 e Z (λ_ e=>?_) (λ_ e=>?_)))
       .exact Gl 12 Z e []
       .refine Go 2 Z (Lg 3 Z Z (Is 39 e Z (λ_ e=>?_) (λ_ e=>?_)))
        .exact Gl 6 Z e []
        .exact Go 2 Z (Lm Z (Gl 3 Z e []))
    refine Gx 1 Z (Qd j (Cn Z d (λ_ d=>?_) (λ_ d=>?_)))
    .refine Gc 6 Z ?_;cases d;refine Qq (Gx 3 Z (Qx f ?_));obtain rfl:=Oj g f;exact Gx 1 Z (Qq (Gx 1 Z (Rt h 2 [])))
    refine Gc 1 Z ?_;cases d;exact YC Z (Lr [])
   refine Gc 6 Z (Q5 Z d (λ_ d=>?_) (λ_ d=>?_))
   .refine Gc 6 Z ?_;cases d;refine Qq (Gx 3 Z (Qx f ?_));obtain rfl:=Oj g f;exact Gx 1 Z (Qq (Gx 1 Z (Rt h 2 [])))
   refine Gc 1 Z (Bd d λl a d=>Ct l [] [0,3] (λl=>[(73,.bool l)]) Ze Zf ?_ (λenv H j=>?_))
   .refine G0 5 Z (Is 50 a Z (λ_ a=>?_) (λ_ a=>?_))
    .exact Gl 24 Z a []
    .refine Go 2 Z (Cz [] a (ic _ _) Z λac W a=>Go 3 Z (Is 56 a Z (λ_ a=>?_) (λ_ a=>?_)))
     .exact Gl 18 Z a []
     .refine Go 2 Z (Lg 3 Z Z (Is 62 a Z (λ_ a=>?_) (λ_ a=>?_)))
      .exact Gl 12 Z a []
      .refine Go 2 Z (Cz [] a (i _) Z λae X a=>Go 3 Z (Is 68 a Z (λ_ a=>?_) (λ_ a=>?_)))
       .exact Gl 6 Z a []
       .exact Go 2 Z (Cz [] a (i _) Z λaf Y a=>Gl 3 Z a [])
   refine Gx 1 Z (Qd j (Cn Z d (λ_ d=>?_) (λ_ d=>?_)))
   .refine Gc 6 Z ?_;cases d;refine Qq (Gx 3 Z (Qx f ?_));obtain rfl:=Oj g f;exact Gx 1 Z (Qq (Gx 1 Z (Rt h 2 [])))
   refine Gc 1 Z ?_;cases d;exact YC Z (Lr [])
  subst hb;exact Gx 3 Z (Qd j (Gc 5 Z (Qg f (Lr []))))
 subst Q;exact QJ 6 Z h 2 []
def IJ:Nat->(AA Step)->AB Bool
  |0=>λ_=>none
  |n+1=>dG (IJ n) n
theorem ti:∀(a:AA Step) (r:Bool),IJ n a=some r->Bk prog 126 [.rsl 8 (map Step.enc a)] [] (λr=>.bool r) r:=by
  induction n with
  |zero=>intro a r h;cases h
  |succ n ih=>intro a r h;exact Qa9 _ ih n a r h
def Rv(a:AA Step):AB Int:=(Nz n a 0).bind λd=>((bif 64<d.1 then some true else some (decide (256<d.2))):AB Bool).bind λf=>(bif f then some 2 else((bif ((a.length:Int)==0)then some true else(IJ n a).bind λe=>some (!e)):AB Bool).bind λg=>(bif g then some 71 else some 0))
theorem gL(j:AA Step):Ks (Rv n j) 53 [.rsl 8 (map Step.enc j)] [] (λr=>I r):=by
 refine Kg 8 func53 Z Z Z Z λr h=>Cd [] h (mt _ _ _) Z λt q h=>Fg 9 Z Z (Bd h λe d h=>Ct e [] [0] (λe=>[(15,.bool e)]) Ze Zf ?_ (λenv H k=>?_))
 .refine G0 4 Z (Is 12 d Z (λ_ d=>?_) (λ_ d=>?_))
  iterate 2 exact Gl 4 Z d []
 refine Gx 1 Z (Qd k (Cn Z h (λ_ h=>?_) (λ_ h=>?_)))
 .exact QJ 7 Z h 2 []
 refine Gc 4 Z (Bd h λf a h=>Cg f [] [] (λf=>[(23,.bool f)]) Ze Zf ?_ ?_)
 .refine G0 2 Z (Lg 2 Z Z (Is 19 a Z (λ_ a=>?_) (λ_ a=>?_)))
  .exact Gl 5 Z a []
  .exact Go 1 Z (Cz [] a (ti _ _) Z λs p a=>Gl 3 Z a [])
 refine Cn Z h (λ_ h=>?_) (λ_ h=>?_)
 .exact QJ 7 Z h 2 []
 exact QJ 8 Z h 2 []
def IW(n:Nat)(i:AA AF)(d:(AA Int)×Int)(e:AA Int)(a:(AA Int)×Int):AB (AG ((AA Int)×Int) (AA Int)):=((AJ i d.2).bind λf=>(bif a.2<f.Laps then some (decide ((a.1.length:Int)<=256))else some false):AB Bool).bind λg=>(bif g then(app a.1 e).bind λh=>some (.k (h,i64.wrap (a.2+1)))else some (.d a.1))
def IO(d:AA AF)(rec235:(AA AF)->AB (AA Int))(a:(AA Int)×Int):AB (AG ((AA Int)×Int) (AA Int)):=((bif a.2<(d.length:Int) then some (decide ((a.1.length:Int)<=256))else some false):AB Bool).bind λe=>(bif e then((AJ d a.2).bind λf=>(bif (f.Laps==0)then(AJ d a.2).bind λg=>(app a.1 [g.Mat]).bind λh=>some h else(AJ d a.2).bind λi=>(rec235 i.Parts).bind λj=>(iter (IW n d a j) n (a.1,0):AB (AA Int)).bind λk=>some k):AB (AA Int)).bind λl=>some (.k (l,i64.wrap (a.2+1)))else some (.d a.1))
def M'(rec235:(AA AF)->AB (AA Int))(n:Nat)(d:AA AF):AB (AA Int):=(iter (IO n d rec235) n (([]:AA Int),0):AB (AA Int)).bind λa=>some a
theorem QaV(rec235:(AA AF)->AB (AA Int))(w:∀(x:AA AF) (r:AA Int),rec235 x=some r->C prog 127 [.rsl 3 (map AF.enc x)] [] (RQ (λr=>.osl 0 0 r.length 1) (λr=>[.row 3 1 (map (Qc .i64) r)]) r))(n:Nat)(x:AA AF)(r:AA Int)(h:M' rec235 n x=some r):C prog 127 [.rsl 3 (map AF.enc x)] [] (RQ (λr=>.osl 0 0 r.length 1) (λr=>[.row 3 1 (map (Qc .i64) r)]) r):=by
 refine QG func127 Z Z Z ?_;refine G0 7 Z (vH (Ek (xs:=[]) (es:=map (Qc .i64) []) Qs Z Z Z Z Z trivial Z Z) ?_);refine Fg 9 Z Z (Bd h λj T h=>Cg j [0] [] (λj=>[(3,.osl 0 0 j.length 1)]) (λj=>[(0,.row 3 1 (map (Qc .i64) j))]) Zf ?_ ?_)
 .refine G0 1 Z (Lp [0] [0] (λk=>[(3,.osl 0 0 k.1.length 1),(4,I k.2)]) (λk=>[(0,.row 3 1 (map (Qc .i64) k.1))]) T Zf (Lr [0]) λk ab d z=>?_);refine G0 2 Z (Bd d λt l d=>Ct t [0] [0,3,4] (λt=>[(16,.bool t)]) Ze Zf ?_ (λenv H s=>?_))
  .refine G0 3 Z (Lg 2 Z Z (Is 12 l Z (λ_ l=>?_) (λ_ l=>?_)))
   iterate 2 exact Gl 5 Z l [0]
  refine Gx 1 Z (Qd s (Q5 Z d (λ_ d=>?_) (λ_ d=>?_)))
  .exact Gc 2 Z (Qi d (Gx 1 Z (JC z d (Lr [0]))))
  refine Gc 3 Z (Bd d λm a d=>Cg m [0] [0,4] (λm=>[(3,.osl 0 0 m.length 1)]) (λm=>[(0,.row 3 1 (map (Qc .i64) m))]) Zf ?_ ?_)
  .refine G0 6 Z (Bd a λV F a=>CQ F (QP V) Z (Go 5 Z (Cn Z a (λ_ a=>?_) (λ_ a=>?_))))
   .refine Gc 5 Z (Bd a λy J a=>CQ J (QP y) Z (Go 2 Z (vH (Ek (xs:=[.tmp 30]) (es:=map (Qc .i64) [y.Mat]) Qs Z Z Z Z Z ⟨Z,trivial⟩ Z Z) ?_)));refine FE Z (Bd a λac L a=>vH (Qh (e:=(Qc .i64)) L Qs EB (QF (i:=1))) ?_);exact FE Z (Gl 6 Z a [2])
   refine Gc 6 Z (Bd a λW M a=>CQ M (QP W) Z (Go 2 Z (Cd [] a (w _) Z λae aa a=>Fg 8 Z Z (Bd a λp X a=>Ct p [0] [0,4] (λp=>[(3,.osl 0 0 p.length 1)]) (λp=>[(0,.row 3 1 (map (Qc .i64) p))]) Zf ?_ (λenv H s=>?_)))))
   .refine G0 1 Z (Lp [0,1] [0,4,5] (λq=>[(3,.osl 0 0 q.1.length 1),(6,I q.2)]) (λq=>[(0,.row 3 1 (map (Qc .i64) q.1))]) X Zf (Lr [0,1]) λq af f N=>?_);refine G0 2 Z (Bd f λu g f=>Ct u [0,1] [0,3,4,5,6] (λu=>[(50,.bool u)]) Ze Zf ?_ (λenv H s=>?_))
    .refine G0 4 Z (Bd g λY O g=>CQ O (QP Y) Z (Go 4 Z (Is 46 g Z (λ_ g=>?_) (λ_ g=>?_))))
     iterate 2 exact Gl 5 Z g [0,1]
    refine Gx 1 Z (Qd s (Q5 Z f (λ_ f=>?_) (λ_ f=>?_)))
    .exact Gc 2 Z (Qi f (Gx 1 Z (JC N f (Lr [0]))))
    refine Gc 7 Z (Bd f λag R f=>vH (Qh (e:=(Qc .i64)) R Qs EB (QF (i:=1))) ?_);exact Fg 9 Z Z (Qg f (Lr [2,1]))
   refine Gx 1 Z ?_;cases a;exact JE (En s (Lr [0]))
  exact Gc 5 Z (Qg d (Lr [0]))
 exact QJ 7 Z h 2 [0]
def HX:Nat->(AA AF)->AB (AA Int)
  |0=>λ_=>none
  |n+1=>M' (HX n) n
theorem jA:∀(a:AA AF) (r:AA Int),HX n a=some r->C prog 127 [.rsl 3 (map AF.enc a)] [] (RQ (λr=>.osl 0 0 r.length 1) (λr=>[.row 3 1 (map (Qc .i64) r)]) r):=by
  induction n with
  |zero=>intro a r h;cases h
  |succ n ih=>intro a r h;exact QaV _ ih n a r h
def Im(n:Nat)(d:AE)(h:Int)(i:Int)(a:Int):AB (AG Int (AG Unit Int)):=(bif a<(d.Legs.length:Int) then((AJ d.Legs a).bind λe=>(bif (e.From==h)then(AJ d.Legs a).bind λf=>some (f.To==i)else some false):AB Bool).bind λg=>(bif g then some (.d (.d a))else some (.k (i64.wrap (a+1))))else some (.d (.k ())))
def HL(e:AE)(f:Int)(g:Int):AB Int:=(iter (Im n e f g) n 0:AB (AG Unit Int)).bind λd=>match d with|.k a=>(some (-1))|.d a=>some a
theorem UZ(p:AE)(q:Int)(s:Int):Ks (HL n p q s) 128 [.agg (AE.c p),I q,I s] [] (λr=>I r):=by
 refine Kg 12 func128 Z Z Z Z λr h=>Bd h λt u h=>BZ (b:=t) [] [] Ze Ze Zf ?_ (λ_ w=>?_)
 .refine G0 1 Z (Lp [0] [1,2,3] (λg=>[(7,I g)]) Ze u Zf (Lr [0]) λg y a e=>(G0 6 Z (Lg 3 Z Z (Q5 Z a (λ_ a=>?_) (λ_ a=>?_)))))
  .exact Gc 2 Z (Qi a (Gx 1 Z (JD e a Z (Lr []))))
  refine Gc 5 Z (Bd a λf d a=>Cg f [0] [1,2,3,7] (λf=>[(32,.bool f)]) Ze Zf ?_ ?_)
  .refine G0 4 Z (Bd d λz j d=>Iz j Z (Go 5 Z (Is 23 d Z (λ_ d=>?_) (λ_ d=>?_))))
   .exact Go 3 Z (Bd d λB l d=>Iz l Z (Gl 6 Z d [0]))
   .exact Gl 10 Z d [0]
  refine Cn Z a (λ_ a=>?_) (λ_ a=>?_)
  .refine Gc 9 Z (Qx a ?_);obtain rfl:=Oj e a;exact Gx 1 Z (Qq (Gx 1 Z (Rt h 6 [])))
  exact Gc 8 Z (Qg a (Lr [0]))
 subst w;exact QJ 6 Z h 6 []
def IZ(n:Nat)(d:AA Int)(g:Int)(a:Int×Int):AB (AG (Int×Int) Int):=(bif a.2<(d.length:Int) then(AJ d a.2).bind λe=>((bif (e==g)then some (i64.wrap (a.1+1))else some a.1):AB Int).bind λf=>some (.k (f,i64.wrap (a.2+1)))else some (.d a.1))
def I2(d:AA Int)(e:Int):AB Int:=(iter (IZ n d e) n (0,0):AB Int).bind λa=>some a
theorem UO(m:AA Int)(p:Int):Ks (I2 n m p) 129 [.rsl 1 (map (Qc .i64) m),I p] [] (λr=>I r):=by
 refine Kg 16 func129 Z Z Z Z λr h=>Bd h λe q h=>Cg e [] [] (λe=>[(5,I e)]) Ze Zf ?_ ?_
 .refine G0 1 Z (Lp [] [0,1] (λf=>[(5,I f.1),(6,I f.2)]) Ze q Zf (Lr []) λf t a i=>?_);refine G0 5 Z (Lg 3 Z Z (Q5 Z a (λ_ a=>?_) (λ_ a=>?_)))
  .exact Gc 2 Z (Qi a (Gx 1 Z (JC i a (Lr []))))
  refine Gc 8 Z (Bd a λu k a=>Iz k Z (Go 5 Z (Bd a λg d a=>Ct g [] [0,1,6] (λg=>[(5,I g)]) Ze Zf ?_ (λenv H s=>?_))))
  .refine G0 0 Z (Cn Z d (λ_ d=>?_) (λ_ d=>?_))
   .exact YM 5 Z d []
   exact YM 1 Z d []
  exact Gx 2 Z (Qd s (Gc 5 Z (Qg a (Lr []))))
 exact QJ 7 Z h 4 []
def HF(e:AE)(d:AA Int)(a:Int):AB (AG Int (AG Unit Bool)):=(bif a<(d.length:Int) then((bif (a==0)then some 1 else(bif (a==(i64.wrap ((d.length:Int)-1)))then some 3 else some 2)):AB Int).bind λf=>((AJ d a).bind λg=>(AJ e.Mats g).bind λh=>(bif (h.Kind != f)then some true else(bif 0<a then(AJ d (i64.wrap (a-1))).bind λi=>(AJ d a).bind λj=>(HL n e i j).bind λk=>some (decide (k<0))else some false)):AB Bool).bind λl=>(bif l then some (.d (.d false))else some (.k (i64.wrap (a+1))))else some (.d (.k ())))
def Pp(d:Distance)(h:AA Int)(a:Int):AB (AG Int (AG Unit Bool)):=(bif a<(d.Cutoffs.length:Int) then(AJ d.Cutoffs a).bind λe=>(I2 n h e.Mat).bind λf=>(AJ d.Cutoffs a).bind λg=>(bif f<g.Lap then some (.d (.d false))else some (.k (i64.wrap (a+1))))else some (.d (.k ())))
def MV(g:AE)(a:Distance):AB Bool:=(HX n a.Route).bind λd=>((bif (d.length:Int)<2 then some true else some (decide (256<(d.length:Int)))):AB Bool).bind λp=>(bif p then some false else(iter (HF n g d) n 0:AB (AG Unit Bool)).bind λh=>match h with|.k e=>(((bif (a.Extra != (-1))then(AJ g.Mats a.Extra).bind λi=>(bif (i.Kind != 2)then some true else(I2 n d a.Extra).bind λj=>(bif (j==0)then some true else(HL n g a.Extra a.Extra).bind λk=>some (decide (k<0))))else some false):AB Bool).bind λl=>(bif l then some false else(iter (Pp n a d) n 0:AB (AG Unit Bool)).bind λm=>match m with|.k f=>(some true)|.d f=>some f))|.d e=>some e)
theorem iO(a1:AE)(a2:Distance):Ks (MV n a1 a2) 54 [.agg (AE.c a1),.agg (Distance.c a2)] [] (λr=>.bool r):=by
 refine Kg 11 func54 Z Z Z Z λr h=>Cd [] h (jA _ _) Z λr1 ay h=>Fg 12 Z Z (Bd h λO p h=>Ct O [0,1,2] [2,3,5,6] (λO=>[(20,.bool O)]) Ze Zf ?_ (λenv H g=>?_))
 .refine G0 4 Z (Is 17 p Z (λ_ p=>?_) (λ_ p=>?_))
  iterate 2 exact Gl 4 Z p [0,1,2]
 refine Gx 1 Z (Qd g (Cn Z h (λ_ h=>?_) (λ_ h=>?_)))
 .exact QJ 7 Z h 4 []
 refine Gc 8 Z (Bd h λai aj h=>DD (b:=ai) [0,1,2] [2,3,5] Ze Ze Zf ?_ (λaq env H q g=>?_))
 .refine G0 1 Z (Lp [0,1,2] [2,3,5,6] (λj=>[(7,I j)]) Ze aj Zf (Lr [0,1,2]) λj az f s=>?_);refine G0 8 Z (Q5 Z f (λ_ f=>?_) (λ_ f=>?_))
  .exact Gc 2 Z (Qi f (Gx 1 Z (JD s f Z (Lr [0,1,2]))))
  refine Gc 22 Z (Bd f λt i f=>Ct t [0,1,2] [2,3,5,6,7] (λt=>[(8,I t)]) Ze Zf ?_ (λenv H g=>?_))
  .refine G0 0 Z (Cn Z i (λ_ i=>?_) (λ_ i=>?_))
   .exact YM 3 Z i [0,1,2]
   refine Gc 8 Z (Cn Z i (λ_ i=>?_) (λ_ i=>?_))
   .exact YM 3 Z i [0,1,2]
   exact YM 1 Z i [0,1,2]
  refine Gx 2 Z (Qd g (Gc 1 Z (Bd f λu d f=>Ct u [0,1,2] [2,3,5,6,7] (λu=>[(61,.bool u)]) Ze Zf ?_ (λenv H g=>?_))))
  .refine G0 0 Z (Bj 25 Z (D 4 Z ?_));obtain⟨ak,w,d⟩:=YE d;refine DS.v (x:=(.ptr 2 (toNat j*1))) (Qn w Z EB EG) ?_;refine DS.v (x:=(I ak)) (Ez Z EH Z (Qj w)) ?_;obtain⟨N,T,d⟩:=YE d;refine DS.wo (x:=.rp [.str N.Name,I N.Kind]) ?_ ?_
   .exact Ix T runUnderlying22 sizeOf116 Z Wp
   refine D 5 Z (KN 11 d Z Z Z (λ_ d=>?_) (λ_ d=>?_))
   .exact D 13 Z (Eg Z (Gl 5 Z d [0,1,2]))
   .refine D 3 Z (KN 14 d Z Z Z (λ_ d=>?_) (λ_ d=>?_))
    .refine D 4 Z ?_;obtain⟨al,y,d⟩:=YE d;refine DS.v (x:=(.ptr 2 (toNat (i64.wrap (j-1))*1))) (Qn y Z EB EG) ?_ (hg:=(gT Z));refine DS.v (x:=(I al)) (Ez Z EH Z (Qj y)) ?_ (hg:=(gT Z));refine D 2 Z ?_;obtain⟨am,z,d⟩:=YE d;refine DS.v (x:=(.ptr 2 (toNat j*1))) (Qn z Z EB EG) ?_ (hg:=(gT Z));refine DS.v (x:=(I am)) (Ez Z EH Z (Qj z)) ?_ (hg:=(gT Z));exact Eg Z (Cz [] d (UZ _ _ _ _) Z λba ar d=>Gl 4 Z d [0,1,2])
    .exact D 10 Z (Eg Z (Gl 5 Z d [0,1,2]))
  refine Gx 1 Z (Qd g (Cn Z f (λ_ f=>?_) (λ_ f=>?_)))
  .refine Gc 8 Z (Qx f ?_);obtain rfl:=Oj s f;exact Gx 1 Z (Qq (Gx 1 Z (Rt h 4 [])))
  exact Gc 8 Z (Qg f (Lr [0,1,2]))
 subst q;refine Gx 1 Z (Qd g (Gc 2 Z (Bd h λB e h=>Ct B [1,2] [3,5] (λB=>[(90,.bool B)]) Ze Zf ?_ (λenv H g=>?_))))
 .refine G0 5 Z (Is 65 e Z (λ_ e=>?_) (λ_ e=>?_))
  .refine Go 4 Z (Bd e λbb aa e=>Iz aa Z (Go 4 Z (Is 74 e Z (λ_ e=>?_) (λ_ e=>?_))))
   .exact Gl 17 Z e [1,2]
   .refine Go 3 Z (Cb e (UO _ _ _) Z (lo (ls ln)) λbc au e=>Go 3 Z (Is 81 e Z (λ_ e=>?_) (λ_ e=>?_)))
    .exact Gl 10 Z e [1,2]
    .exact Go 5 Z (Cz [] e (UZ _ _ _ _) Z λbd av e=>Gl 4 Z e [1,2])
  .exact Gl 26 Z e [1,2]
 refine Gx 1 Z (Qd g (Cn Z h (λ_ h=>?_) (λ_ h=>?_)))
 .exact QJ 7 Z h 4 []
 refine Gc 8 Z (Bd h λan ao h=>BZ (b:=an) [] [] Ze Ze Zf ?_ (λ_ q=>?_))
 .refine G0 1 Z (Lp [0,1] [3,5] (λE=>[(9,I E)]) Ze ao Zf (Lr [0,1]) λE ax a m=>?_);refine G0 6 Z (Lg 3 Z Z (Q5 Z a (λ_ a=>?_) (λ_ a=>?_)))
  .exact Gc 2 Z (Qi a (Gx 1 Z (JD m a Z (Lr []))))
  refine Gc 5 Z (Bj 14 Z (D 4 Z ?_));obtain⟨k,G,a⟩:=YE a;refine DS.wo (x:=.rp [I k.Mat,I k.Lap,I k.Limit]) ?_ ?_
  .exact Ix G GJ sizeOf193 Z Wp
  refine D 2 Z ?_;obtain⟨af,J,a⟩:=YE a;refine DS.wo (x:=I af) ?_ ?_
  .refine b7 (Bh.fn call129 rfl rfl rfl) (DI.cons rfl (.inr ⟨_,_,_,_,_,rfl,rfl,XZ ..,rfl⟩) (DI.cons rfl (.inl ⟨rfl,rfl⟩) DI.nil)) (UO _ _ _ _ J) (by rintro _ _ ⟨rfl,rfl⟩;rfl) ?_;rintro _ _ ⟨rfl,rfl⟩;exact FE Z Wp
  refine D 3 Z ?_;obtain⟨l,L,a⟩:=YE a;refine DS.wo (x:=.rp [I l.Mat,I l.Lap,I l.Limit]) ?_ ?_
  .exact Ix L GJ sizeOf193 Z Wp
  refine D 2 Z (Eg Z (Go 3 Z (Cn Z a (λ_ a=>?_) (λ_ a=>?_))))
  .refine Gc 8 Z (Qx a ?_);obtain rfl:=Oj m a;exact Gx 1 Z (Qq (Gx 1 Z (Rt h 4 [])))
  exact Gc 8 Z (Qg a (Lr [0,1]))
 subst q;exact QJ 6 Z h 4 []
def Ph(d:AE)(a:Int):AB (AG Int (AG Unit Int)):=(bif a<(d.Distances.length:Int) then(AJ d.Distances a).bind λe=>(MV n d e).bind λf=>(bif (!f)then some (.d (.d 72))else some (.k (i64.wrap (a+1))))else some (.d (.k ())))
def IH(a:AE):AB Int:=(MX n a).bind λg=>(bif (!g)then some 2 else(RA n a).bind λh=>(bif (!h)then some 70 else(MZ n a).bind λi=>(bif (!i)then some 71 else(Rv n a.Ties).bind λe=>(bif (e != 0)then some e else(iter (Ph n a) n 0:AB (AG Unit Int)).bind λf=>match f with|.k d=>(some 0)|.d d=>some d))))
theorem dY(k:AE):Ks (IH n k) 20 [.agg (AE.c k)] [] (λr=>I r):=by
 refine Kg 10 func20 Z Z Z Z λr h=>Cz [] h (iQ _ _) Z λJ z h=>Go 3 Z (Cn Z h (λ_ h=>?_) (λ_ h=>?_))
 .exact QJ 7 Z h 2 []
 refine Gc 6 Z (Cz [] h (fO _ _) Z λL B h=>Go 3 Z (Cn Z h (λ_ h=>?_) (λ_ h=>?_)))
 .exact QJ 7 Z h 2 []
 refine Gc 6 Z (Cz [] h (iS _ _) Z λM E h=>Go 3 Z (Cn Z h (λ_ h=>?_) (λ_ h=>?_)))
 .exact QJ 7 Z h 2 []
 refine Gc 6 Z (Cz [] h (gL _ _) Z λN F h=>Go 10 Z (Cn Z h (λ_ h=>?_) (λ_ h=>?_)))
 .exact QJ 8 Z h 2 []
 refine Gc 8 Z (Bd h λs t h=>BZ (b:=s) [] [] Ze Ze Zf ?_ (λ_ u=>?_))
 .refine G0 1 Z (Lp [0] [1] (λf=>[(4,I f)]) Ze t Zf (Lr [0]) λf G a e=>(G0 6 Z (Lg 3 Z Z (Q5 Z a (λ_ a=>?_) (λ_ a=>?_)))))
  .exact Gc 2 Z (Qi a (Gx 1 Z (JD e a Z (Lr []))))
  refine Gc 5 Z (Bj 6 Z (D 4 Z ?_));obtain⟨d,i,a⟩:=YE a;refine DS.wo (x:=.rp [.str d.Name,.rsl 3 (map AF.enc d.Route),I d.Timing,.rsl 3 (map AP.c d.Cutoffs),I d.Extra]) ?_ ?_
  .exact Ix i Gm Gq Z Wp
  refine D 1 Z (Eg Z (Cz [] a (iO _ _ _) Z λH y a=>Go 3 Z (Cn Z a (λ_ a=>?_) (λ_ a=>?_))))
  .refine Gc 8 Z (Qx a ?_);obtain rfl:=Oj e a;exact Gx 1 Z (Qq (Gx 1 Z (Rt h 2 [])))
  exact Gc 8 Z (Qg a (Lr [0]))
 subst u;exact QJ 6 Z h 2 []
def C5(n:Nat)(a:Int)(d:Int)(e:Int):AB Bool:=((bif d<=a then some (decide (a<=e))else some false):AB Bool).bind λb2=>some b2
theorem DO(d:Int)(e:Int)(f:Int):Ks (C5 n d e f) 185 [I d,I e,I f] [] (λr=>.bool r):=by
 refine Kg 6 func185 Z Z Z Z λr h=>Bd h λb2 a h=>Cg b2 [] [] (λb2=>[(6,.bool b2)]) Ze Zf ?_ ?_
 .refine G0 5 Z (Is 10 a Z (λ_ a=>?_) (λ_ a=>?_))
  iterate 2 exact Gl 6 Z a []
 exact QJ 1 Z h 6 []
def I4(a:Int):AB Bool:=(C5 n a 0 31).bind λd=>some d
theorem UQ(a:Int):Ks (I4 n a) 183 [I a] [] (λr=>.bool r):=by
 exact Kg 8 func183 Z Z Z Z λr h=>Cz [] h (DO _ _ _ _) Z λe d h=>Gt 4 Z h 2 []
def I9(a:Int):AB Bool:=(C5 n a 1 1048576).bind λd=>some d
theorem UV(a:Int):Ks (I9 n a) 184 [I a] [] (λr=>.bool r):=by
 exact Kg 8 func184 Z Z Z Z λr h=>Cz [] h (DO _ _ _ _) Z λe d h=>Gt 4 Z h 2 []
def Iq(a:Int):AB Bool:=(C5 n a 1 9999).bind λd=>some d
theorem NO(a:Int):Ks (Iq n a) 241 [I a] [] (λr=>.bool r):=by
 exact Kg 8 func241 Z Z Z Z λr h=>Cz [] h (DO _ _ _ _) Z λe d h=>Gt 4 Z h 2 []
def Fo(a:Int):AB Bool:=(C5 n a (-1099511627776) 1099511627776).bind λd=>some d
theorem Hf(a:Int):Ks (Fo n a) 239 [I a] [] (λr=>.bool r):=by
 exact Kg 8 func239 Z Z Z Z λr h=>Cz [] h (DO _ _ _ _) Z λe d h=>Gt 4 Z h 2 []
def Iu(a:Int):AB Bool:=(C5 n a 0 1048576).bind λd=>some d
theorem UI(a:Int):Ks (Iu n a) 238 [I a] [] (λr=>.bool r):=by
 exact Kg 8 func238 Z Z Z Z λr h=>Cz [] h (DO _ _ _ _) Z λe d h=>Gt 4 Z h 2 []
def R3(a:Starter):AB Bool:=((Iq n a.Bib).bind λd=>(bif d then(C5 n a.Distance 0 7).bind λe=>(bif e then(C5 n a.Wave 0 31).bind λf=>(bif f then(Fo n a.Slot).bind λg=>(bif g then(C5 n a.Age 0 120).bind λh=>(bif h then(Iu n a.Chip).bind λi=>(bif i then(C5 n a.Team 0 9999).bind λj=>(bif j then(C5 n a.Lot 0 1048576).bind λk=>some k else some false)else some false)else some false)else some false)else some false)else some false)else some false):AB Bool).bind λl=>some l
theorem gR(m:Starter):Ks (R3 n m) 235 [.agg (Starter.c m)] [] (λr=>.bool r):=by
 refine Kg 7 func235 Z Z Z Z λr h=>Bd h λd a h=>Cg d [] [] (λd=>[(2,.bool d)]) Ze Zf ?_ ?_
 .refine G0 3 Z (Cz [] a (NO _ _) Z λz p a=>Go 1 Z (Is 6 a Z (λ_ a=>?_) (λ_ a=>?_)))
  .refine Go 2 Z (Cz [] a (DO _ _ _ _) Z λB q a=>Go 2 Z (Is 11 a Z (λ_ a=>?_) (λ_ a=>?_)))
   .refine Go 2 Z (Cz [] a (DO _ _ _ _) Z λE s a=>Go 2 Z (Is 16 a Z (λ_ a=>?_) (λ_ a=>?_)))
    .refine Go 2 Z (Cz [] a (Hf _ _) Z λF t a=>Go 2 Z (Is 21 a Z (λ_ a=>?_) (λ_ a=>?_)))
     .refine Go 2 Z (Cz [] a (DO _ _ _ _) Z λG u a=>Go 2 Z (Is 26 a Z (λ_ a=>?_) (λ_ a=>?_)))
      .refine Go 2 Z (Cz [] a (UI _ _) Z λH w a=>Go 2 Z (Is 31 a Z (λ_ a=>?_) (λ_ a=>?_)))
       .refine Go 2 Z (Cz [] a (DO _ _ _ _) Z λJ x a=>Go 2 Z (Is 36 a Z (λ_ a=>?_) (λ_ a=>?_)))
        .exact Go 2 Z (Cz [] a (DO _ _ _ _) Z λL y a=>Gl 3 Z a [])
        .exact Gl 6 Z a []
       .exact Gl 11 Z a []
      .exact Gl 16 Z a []
     .exact Gl 21 Z a []
    .exact Gl 26 Z a []
   .exact Gl 31 Z a []
  .exact Gl 36 Z a []
 exact QJ 1 Z h 2 []
def Nt(a:Int):AB Bool:=(C5 n a 0 39).bind λd=>some d
theorem Tw(a:Int):Ks (Nt n a) 236 [I a] [] (λr=>.bool r):=by
 exact Kg 8 func236 Z Z Z Z λr h=>Cz [] h (DO _ _ _ _) Z λe d h=>Gt 4 Z h 2 []
def Nv(a:Int):AB Bool:=(C5 n a 0 255).bind λd=>some d
theorem Tz(a:Int):Ks (Nv n a) 237 [I a] [] (λr=>.bool r):=by
 exact Kg 8 func237 Z Z Z Z λr h=>Cz [] h (DO _ _ _ _) Z λe d h=>Gt 4 Z h 2 []
def P5(a:Sync):AB Bool:=((Nt n a.MatA).bind λd=>(bif d then(Nt n a.MatB).bind λe=>(bif e then(Nv n a.EpochA).bind λf=>(bif f then(Nv n a.EpochB).bind λg=>(bif g then(Fo n a.LocalA).bind λh=>(bif h then(Fo n a.LocalB).bind λi=>(bif i then(Fo n a.Min).bind λj=>(bif j then(Fo n a.Max).bind λk=>(bif k then some (decide (a.Min<=a.Max))else some false)else some false)else some false)else some false)else some false)else some false)else some false)else some false):AB Bool).bind λl=>some l
theorem fG(p:Sync):Ks (P5 n p) 240 [.agg (Sync.c p)] [] (λr=>.bool r):=by
 refine Kg 7 func240 Z Z Z Z λr h=>Bd h λd a h=>Cg d [] [] (λd=>[(2,.bool d)]) Ze Zf ?_ ?_
 .refine G0 3 Z (Cz [] a (Tw _ _) Z λB q a=>Go 1 Z (Is 6 a Z (λ_ a=>?_) (λ_ a=>?_)))
  .refine Go 2 Z (Cz [] a (Tw _ _) Z λE s a=>Go 2 Z (Is 11 a Z (λ_ a=>?_) (λ_ a=>?_)))
   .refine Go 2 Z (Cz [] a (Tz _ _) Z λF t a=>Go 2 Z (Is 16 a Z (λ_ a=>?_) (λ_ a=>?_)))
    .refine Go 2 Z (Cz [] a (Tz _ _) Z λG u a=>Go 2 Z (Is 21 a Z (λ_ a=>?_) (λ_ a=>?_)))
     .refine Go 2 Z (Cz [] a (Hf _ _) Z λH w a=>Go 2 Z (Is 26 a Z (λ_ a=>?_) (λ_ a=>?_)))
      .refine Go 2 Z (Cz [] a (Hf _ _) Z λJ x a=>Go 2 Z (Is 31 a Z (λ_ a=>?_) (λ_ a=>?_)))
       .refine Go 2 Z (Cz [] a (Hf _ _) Z λL y a=>Go 2 Z (Is 36 a Z (λ_ a=>?_) (λ_ a=>?_)))
        .refine Go 2 Z (Cz [] a (Hf _ _) Z λM z a=>Go 2 Z (Is 41 a Z (λ_ a=>?_) (λ_ a=>?_)))
         iterate 2 exact Gl 8 Z a []
        .exact Gl 13 Z a []
       .exact Gl 18 Z a []
      .exact Gl 23 Z a []
     .exact Gl 28 Z a []
    .exact Gl 33 Z a []
   .exact Gl 38 Z a []
  .exact Gl 43 Z a []
 exact QJ 1 Z h 2 []
def Nu(a:Int):AB Bool:=(C5 n a 0 255).bind λd=>some d
theorem Ty(a:Int):Ks (Nu n a) 242 [I a] [] (λr=>.bool r):=by
 exact Kg 8 func242 Z Z Z Z λr h=>Cz [] h (DO _ _ _ _) Z λe d h=>Gt 4 Z h 2 []
def Ft(a:Int):AB Bool:=(C5 n a 1 1048576).bind λd=>some d
theorem Kt(a:Int):Ks (Ft n a) 243 [I a] [] (λr=>.bool r):=by
 exact Kg 8 func243 Z Z Z Z λr h=>Cz [] h (DO _ _ _ _) Z λe d h=>Gt 4 Z h 2 []
def SC(a:Ruling):AB Bool:=((Ft n a.Case).bind λs=>(bif (!s)then some true else(C5 n a.Instance 1 2).bind λt=>some (!t)):AB Bool).bind λu=>(bif u then some false else((bif (a.Kind==1)then some (a.Kind==1)else some (a.Kind==2)):AB Bool).bind λd=>(bif d then((bif (a.Bib==0)then(bif (a.Position==0)then some (a.Amount==0)else some false)else some false):AB Bool).bind λe=>some e else(bif (a.Kind==3)then((Iq n a.Bib).bind λf=>(bif f then(Nu n a.Position).bind λg=>(bif g then(C5 n a.Amount 1 1099511627776).bind λh=>some h else some false)else some false):AB Bool).bind λi=>some i else(bif (a.Kind==4)then((Iq n a.Bib).bind λj=>(bif j then(Nu n a.Position).bind λk=>(bif k then(C5 n a.Amount 1 64).bind λl=>some l else some false)else some false):AB Bool).bind λm=>some m else(bif (a.Kind==5)then((Iq n a.Bib).bind λp=>(bif p then(Nu n a.Position).bind λq=>(bif q then some (a.Amount==0)else some false)else some false):AB Bool).bind λr=>some r else some false)))))
theorem ge(N:Ruling):Ks (SC n N) 244 [.agg (Ruling.c N)] [] (λr=>.bool r):=by
 refine Kg 8 func244 Z Z Z Z λr h=>Bd h λs i h=>Ct s [0] [1] (λs=>[(12,.bool s)]) Ze Zf ?_ (λenv H f=>?_)
 .refine G0 3 Z (Cz [] i (Kt _ _) Z λr6 ab i=>Go 2 Z (Is 7 i Z (λ_ i=>?_) (λ_ i=>?_)))
  .exact Gl 6 Z i [0]
  .exact Go 2 Z (Cz [] i (DO _ _ _ _) Z λr8 ac i=>Gl 3 Z i [0])
 refine Gx 1 Z (Qd f (Cn Z h (λ_ h=>?_) (λ_ h=>?_)))
 .exact QJ 7 Z h 2 []
 refine Gc 17 Z (Bd h λk j h=>Ct k [0] [1,14] (λk=>[(15,.bool k)]) Ze Zf ?_ (λenv H f=>?_))
 .refine G0 0 Z (Cn Z j (λ_ j=>?_) (λ_ j=>?_))
  .exact YM 1 Z j [0]
  exact YM 4 Z j [0]
 refine Gx 1 Z (Qd f (Cn Z h (λ_ h=>?_) (λ_ h=>?_)))
 .refine Gc 1 Z (Bd h λl g h=>Ct l [] [] (λl=>[(2,.bool l)]) Ze Zf ?_ (λenv H f=>?_))
  .refine G0 5 Z (Is 21 g Z (λ_ g=>?_) (λ_ g=>?_))
   .refine Go 5 Z (Is 26 g Z (λ_ g=>?_) (λ_ g=>?_))
    iterate 2 exact Gl 6 Z g []
   .exact Gl 11 Z g []
  exact Gx 1 Z (Qd f (QJ 3 Z h 2 []))
 refine Gc 6 Z (Cn Z h (λ_ h=>?_) (λ_ h=>?_))
 .refine Gc 1 Z (Bd h λm a h=>Ct m [] [] (λm=>[(2,.bool m)]) Ze Zf ?_ (λenv H f=>?_))
  .refine G0 3 Z (Cz [] a (NO _ _) Z λae Q a=>Go 1 Z (Is 36 a Z (λ_ a=>?_) (λ_ a=>?_)))
   .refine Go 2 Z (Cz [] a (Ty _ _) Z λaf R a=>Go 2 Z (Is 41 a Z (λ_ a=>?_) (λ_ a=>?_)))
    .exact Go 2 Z (Cz [] a (DO _ _ _ _) Z λag T a=>Gl 3 Z a [])
    .exact Gl 6 Z a []
   .exact Gl 11 Z a []
  exact Gx 1 Z (Qd f (QJ 3 Z h 2 []))
 refine Gc 6 Z (Cn Z h (λ_ h=>?_) (λ_ h=>?_))
 .refine Gc 1 Z (Bd h λp d h=>Ct p [] [] (λp=>[(2,.bool p)]) Ze Zf ?_ (λenv H f=>?_))
  .refine G0 3 Z (Cz [] d (NO _ _) Z λah V d=>Go 1 Z (Is 51 d Z (λ_ d=>?_) (λ_ d=>?_)))
   .refine Go 2 Z (Cz [] d (Ty _ _) Z λai W d=>Go 2 Z (Is 56 d Z (λ_ d=>?_) (λ_ d=>?_)))
    .exact Go 2 Z (Cz [] d (DO _ _ _ _) Z λaj X d=>Gl 3 Z d [])
    .exact Gl 6 Z d []
   .exact Gl 11 Z d []
  exact Gx 1 Z (Qd f (QJ 3 Z h 2 []))
 refine Gc 6 Z (Cn Z h (λ_ h=>?_) (λ_ h=>?_))
 .refine Gc 1 Z (Bd h λq e h=>Cg q [] [] (λq=>[(2,.bool q)]) Ze Zf ?_ ?_)
  .refine G0 3 Z (Cz [] e (NO _ _) Z λak Y e=>Go 1 Z (Is 66 e Z (λ_ e=>?_) (λ_ e=>?_)))
   .refine Go 2 Z (Cz [] e (Ty _ _) Z λal aa e=>Go 2 Z (Is 71 e Z (λ_ e=>?_) (λ_ e=>?_)))
    iterate 2 exact Gl 6 Z e []
   .exact Gl 11 Z e []
  exact QJ 3 Z h 2 []
 exact QJ 9 Z h 2 []
def MJ(a:AC):AB Bool:=(bif (a.Kind==1)then(R3 n a.Starter).bind λr2=>some r2 else(bif (a.Kind==2)then((Nt n a.Read.Mat).bind λu=>(bif u then(Nv n a.Read.Epoch).bind λw=>(bif w then(Iu n a.Read.Chip).bind λx=>(bif x then(Fo n a.Read.Local).bind λy=>some y else some false)else some false)else some false):AB Bool).bind λz=>some z else(bif (a.Kind==3)then((Nt n a.Beacon.Mat).bind λE=>(bif E then(Nv n a.Beacon.Epoch).bind λF=>(bif F then(Fo n a.Beacon.Local).bind λG=>(bif G then(Fo n a.Beacon.True).bind λH=>(bif H then(C5 n a.Beacon.Err 0 1099511627776).bind λJ=>some J else some false)else some false)else some false)else some false):AB Bool).bind λL=>some L else(bif (a.Kind==4)then(P5 n a.Sync).bind λM=>some M else(bif (a.Kind==5)then((Iq n a.Hand.Bib).bind λN=>(bif N then(Nu n a.Hand.Position).bind λO=>(bif O then(Fo n a.Hand.Lo).bind λP=>(bif P then(Fo n a.Hand.Hi).bind λQ=>(bif Q then some (decide (a.Hand.Lo<=a.Hand.Hi))else some false)else some false)else some false)else some false):AB Bool).bind λR=>some R else(bif (a.Kind==6)then((Nt n a.Silence.Mat).bind λT=>(bif T then(Nv n a.Silence.Epoch).bind λV=>(bif V then(Fo n a.Silence.Lo).bind λW=>(bif W then(Fo n a.Silence.Hi).bind λX=>(bif X then some (decide (a.Silence.Lo<=a.Silence.Hi))else some false)else some false)else some false)else some false):AB Bool).bind λY=>some Y else(bif (a.Kind==7)then((Iq n a.Pair.A).bind λaa=>(bif aa then(Iq n a.Pair.B).bind λab=>(bif ab then some (decide (a.Pair.A<a.Pair.B))else some false)else some false):AB Bool).bind λac=>some ac else(bif (a.Kind==8)then((Ft n a.Report.Case).bind λd=>(bif d then(Iq n a.Report.Bib).bind λe=>(bif e then(C5 n a.Report.Offence 0 31).bind λf=>(bif f then(Nu n a.Report.Position).bind λg=>some g else some false)else some false)else some false):AB Bool).bind λh=>some h else(bif (a.Kind==9)then((Ft n a.Protest.Case).bind λi=>(bif i then(C5 n a.Protest.By 0 9999).bind λj=>(bif j then(C5 n a.Protest.Fee 0 1125899906842624).bind λk=>(bif k then(C5 n a.Protest.Form 0 1).bind λl=>some l else some false)else some false)else some false):AB Bool).bind λm=>some m else(bif (a.Kind==10)then(SC n a.Ruling).bind λp=>some p else(bif (a.Kind==11)then(Ft n a.Appeal.Case).bind λq=>some q else(bif (a.Kind==12)then some true else(bif (a.Kind==13)then((I4 n a.Void.Crew).bind λr=>(bif r then(I9 n a.Void.No).bind λs=>some s else some false):AB Bool).bind λt=>some t else some false)))))))))))))
theorem iD(a1:AC):Ks (MJ n a1) 186 [.agg (AC.c a1)] [] (λr=>.bool r):=by
 refine Kg 20 func186 Z Z Z Z λr h=>Cn Z h (λ_ h=>?_) (λ_ h=>?_)
 .exact Gc 4 Z (Cz [] h (gR _ _) Z λr2 cp h=>Gt 6 Z h 2 [])
 refine Gc 6 Z (Cn Z h (λ_ h=>?_) (λ_ h=>?_))
 .refine Gc 1 Z (Bd h λs i h=>Ct s [] [] (λs=>[(2,.bool s)]) Ze Zf ?_ (λenv H j=>?_))
  .refine G0 4 Z (Cz [] i (Tw _ _) Z λcq bi i=>Go 1 Z (Is 16 i Z (λ_ i=>?_) (λ_ i=>?_)))
   .refine Go 3 Z (Cz [] i (Tz _ _) Z λcr bj i=>Go 2 Z (Is 22 i Z (λ_ i=>?_) (λ_ i=>?_)))
    .refine Go 3 Z (Cz [] i (UI _ _) Z λcs bk i=>Go 2 Z (Is 28 i Z (λ_ i=>?_) (λ_ i=>?_)))
     .exact Go 3 Z (Cz [] i (Hf _ _) Z λct bl i=>Gl 3 Z i [])
     .exact Gl 7 Z i []
    .exact Gl 13 Z i []
   .exact Gl 19 Z i []
  exact Gx 1 Z (Qd j (QJ 3 Z h 2 []))
 refine Gc 6 Z (Cn Z h (λ_ h=>?_) (λ_ h=>?_))
 .refine Gc 1 Z (Bd h λt e h=>Ct t [] [] (λt=>[(2,.bool t)]) Ze Zf ?_ (λenv H j=>?_))
  .refine G0 4 Z (Cz [] e (Tw _ _) Z λcu bm e=>Go 1 Z (Is 40 e Z (λ_ e=>?_) (λ_ e=>?_)))
   .refine Go 3 Z (Cz [] e (Tz _ _) Z λcv bn e=>Go 2 Z (Is 46 e Z (λ_ e=>?_) (λ_ e=>?_)))
    .refine Go 3 Z (Cz [] e (Hf _ _) Z λcw bo e=>Go 2 Z (Is 52 e Z (λ_ e=>?_) (λ_ e=>?_)))
     .refine Go 3 Z (Cz [] e (Hf _ _) Z λcx bp e=>Go 2 Z (Is 58 e Z (λ_ e=>?_) (λ_ e=>?_)))
      .exact Go 3 Z (Cz [] e (DO _ _ _ _) Z λcy bq e=>Gl 3 Z e [])
      .exact Gl 7 Z e []
     .exact Gl 13 Z e []
    .exact Gl 19 Z e []
   .exact Gl 25 Z e []
  exact Gx 1 Z (Qd j (QJ 3 Z h 2 []))
 refine Gc 6 Z (Cn Z h (λ_ h=>?_) (λ_ h=>?_))
 .exact Gc 4 Z (Cz [] h (fG _ _) Z λcz br h=>Gt 6 Z h 2 [])
 refine Gc 6 Z (Cn Z h (λ_ h=>?_) (λ_ h=>?_))
 .refine Gc 1 Z (Bd h λu f h=>Ct u [] [] (λu=>[(2,.bool u)]) Ze Zf ?_ (λenv H j=>?_))
  .refine G0 4 Z (Cz [] f (NO _ _) Z λda bs f=>Go 1 Z (Is 75 f Z (λ_ f=>?_) (λ_ f=>?_)))
   .refine Go 3 Z (Cz [] f (Ty _ _) Z λdb bt f=>Go 2 Z (Is 81 f Z (λ_ f=>?_) (λ_ f=>?_)))
    .refine Go 3 Z (Cz [] f (Hf _ _) Z λdc bu f=>Go 2 Z (Is 87 f Z (λ_ f=>?_) (λ_ f=>?_)))
     .refine Go 3 Z (Cz [] f (Hf _ _) Z λde bv f=>Go 2 Z (Is 93 f Z (λ_ f=>?_) (λ_ f=>?_)))
      iterate 2 exact Gl 10 Z f []
     .exact Gl 16 Z f []
    .exact Gl 22 Z f []
   .exact Gl 28 Z f []
  exact Gx 1 Z (Qd j (QJ 3 Z h 2 []))
 refine Gc 6 Z (Cn Z h (λ_ h=>?_) (λ_ h=>?_))
 .refine Gc 1 Z (Bd h λw g h=>Ct w [] [] (λw=>[(2,.bool w)]) Ze Zf ?_ (λenv H j=>?_))
  .refine G0 4 Z (Cz [] g (Tw _ _) Z λdf bw g=>Go 1 Z (Is 108 g Z (λ_ g=>?_) (λ_ g=>?_)))
   .refine Go 3 Z (Cz [] g (Tz _ _) Z λdg bx g=>Go 2 Z (Is 114 g Z (λ_ g=>?_) (λ_ g=>?_)))
    .refine Go 3 Z (Cz [] g (Hf _ _) Z λdh bz g=>Go 2 Z (Is 120 g Z (λ_ g=>?_) (λ_ g=>?_)))
     .refine Go 3 Z (Cz [] g (Hf _ _) Z λdi ca g=>Go 2 Z (Is 126 g Z (λ_ g=>?_) (λ_ g=>?_)))
      iterate 2 exact Gl 10 Z g []
     .exact Gl 16 Z g []
    .exact Gl 22 Z g []
   .exact Gl 28 Z g []
  exact Gx 1 Z (Qd j (QJ 3 Z h 2 []))
 refine Gc 6 Z (Cn Z h (λ_ h=>?_) (λ_ h=>?_))
 .refine Gc 1 Z (Bd h λx k h=>Ct x [] [] (λx=>[(2,.bool x)]) Ze Zf ?_ (λenv H j=>?_))
  .refine G0 4 Z (Cz [] k (NO _ _) Z λdj cb k=>Go 1 Z (Is 141 k Z (λ_ k=>?_) (λ_ k=>?_)))
   .refine Go 3 Z (Cz [] k (NO _ _) Z λdk cc k=>Go 2 Z (Is 147 k Z (λ_ k=>?_) (λ_ k=>?_)))
    iterate 2 exact Gl 10 Z k []
   .exact Gl 16 Z k []
  exact Gx 1 Z (Qd j (QJ 3 Z h 2 []))
 refine Gc 6 Z (Cn Z h (λ_ h=>?_) (λ_ h=>?_))
 .refine Gc 1 Z (Bd h λm a h=>Ct m [] [] (λm=>[(2,.bool m)]) Ze Zf ?_ (λenv H j=>?_))
  .refine G0 4 Z (Cz [] a (Kt _ _) Z λcd aw a=>Go 1 Z (Is 162 a Z (λ_ a=>?_) (λ_ a=>?_)))
   .refine Go 3 Z (Cz [] a (NO _ _) Z λce ax a=>Go 2 Z (Is 168 a Z (λ_ a=>?_) (λ_ a=>?_)))
    .refine Go 3 Z (Cz [] a (DO _ _ _ _) Z λcf ay a=>Go 2 Z (Is 174 a Z (λ_ a=>?_) (λ_ a=>?_)))
     .exact Go 3 Z (Cz [] a (Ty _ _) Z λcg az a=>Gl 3 Z a [])
     .exact Gl 7 Z a []
    .exact Gl 13 Z a []
   .exact Gl 19 Z a []
  exact Gx 1 Z (Qd j (QJ 3 Z h 2 []))
 refine Gc 6 Z (Cn Z h (λ_ h=>?_) (λ_ h=>?_))
 .refine Gc 1 Z (Bd h λp d h=>Ct p [] [] (λp=>[(2,.bool p)]) Ze Zf ?_ (λenv H j=>?_))
  .refine G0 4 Z (Cz [] d (Kt _ _) Z λch ba d=>Go 1 Z (Is 186 d Z (λ_ d=>?_) (λ_ d=>?_)))
   .refine Go 3 Z (Cz [] d (DO _ _ _ _) Z λci bb d=>Go 2 Z (Is 192 d Z (λ_ d=>?_) (λ_ d=>?_)))
    .refine Go 3 Z (Cz [] d (DO _ _ _ _) Z λcj bc d=>Go 2 Z (Is 198 d Z (λ_ d=>?_) (λ_ d=>?_)))
     .exact Go 3 Z (Cz [] d (DO _ _ _ _) Z λck bd d=>Gl 3 Z d [])
     .exact Gl 7 Z d []
    .exact Gl 13 Z d []
   .exact Gl 19 Z d []
  exact Gx 1 Z (Qd j (QJ 3 Z h 2 []))
 refine Gc 6 Z (Cn Z h (λ_ h=>?_) (λ_ h=>?_))
 .exact Gc 4 Z (Cz [] h (ge _ _) Z λcl be h=>Gt 6 Z h 2 [])
 refine Gc 6 Z (Cn Z h (λ_ h=>?_) (λ_ h=>?_))
 .exact Gc 5 Z (Cz [] h (Kt _ _) Z λcm bf h=>Gt 6 Z h 2 [])
 refine Gc 6 Z (Cn Z h (λ_ h=>?_) (λ_ h=>?_))
 .exact QJ 8 Z h 2 []
 refine Gc 6 Z (Cn Z h (λ_ h=>?_) (λ_ h=>?_))
 .refine Gc 1 Z (Bd h λq l h=>Cg q [] [] (λq=>[(2,.bool q)]) Ze Zf ?_ ?_)
  .refine G0 4 Z (Cz [] l (UQ _ _) Z λcn bg l=>Go 1 Z (Is 223 l Z (λ_ l=>?_) (λ_ l=>?_)))
   .exact Go 3 Z (Cz [] l (UV _ _) Z λco bh l=>Gl 3 Z l [])
   .exact Gl 7 Z l []
  exact QJ 3 Z h 2 []
 exact QJ 9 Z h 2 []
def MA(n:Nat)(a:AC):AB AC:=((bif (a.Kind==1)then some ({Up with Crew:=a.Crew,No:=a.No,At:=a.At,Kind:=a.Kind,Starter:=a.Starter:AC})else(bif (a.Kind==2)then some ({Up with Crew:=a.Crew,No:=a.No,At:=a.At,Kind:=a.Kind,Read:=a.Read:AC})else(bif (a.Kind==3)then some ({Up with Crew:=a.Crew,No:=a.No,At:=a.At,Kind:=a.Kind,Beacon:=a.Beacon:AC})else(bif (a.Kind==4)then some ({Up with Crew:=a.Crew,No:=a.No,At:=a.At,Kind:=a.Kind,Sync:=a.Sync:AC})else(bif (a.Kind==5)then some ({Up with Crew:=a.Crew,No:=a.No,At:=a.At,Kind:=a.Kind,Hand:=a.Hand:AC})else(bif (a.Kind==6)then some ({Up with Crew:=a.Crew,No:=a.No,At:=a.At,Kind:=a.Kind,Silence:=a.Silence:AC})else(bif (a.Kind==7)then some ({Up with Crew:=a.Crew,No:=a.No,At:=a.At,Kind:=a.Kind,Pair:=a.Pair:AC})else(bif (a.Kind==8)then some ({Up with Crew:=a.Crew,No:=a.No,At:=a.At,Kind:=a.Kind,Report:=a.Report:AC})else(bif (a.Kind==9)then some ({Up with Crew:=a.Crew,No:=a.No,At:=a.At,Kind:=a.Kind,Protest:=a.Protest:AC})else(bif (a.Kind==10)then some ({Up with Crew:=a.Crew,No:=a.No,At:=a.At,Kind:=a.Kind,Ruling:=a.Ruling:AC})else(bif (a.Kind==11)then some ({Up with Crew:=a.Crew,No:=a.No,At:=a.At,Kind:=a.Kind,Appeal:=a.Appeal:AC})else(bif (a.Kind==13)then some ({Up with Crew:=a.Crew,No:=a.No,At:=a.At,Kind:=a.Kind,Void:=a.Void:AC})else some ({Up with Crew:=a.Crew,No:=a.No,At:=a.At,Kind:=a.Kind:AC}))))))))))))):AB AC).bind λd=>some d
theorem hJ(u:AC):Kq (MA n u) 187 [.agg (AC.c u)] [] (λr=>.agg (AC.c r)) (λr=>[.cells 72 (AC.c r)]):=by
 refine Kg 35 func187 Z Z Z Z λr h=>Bd h λd a h=>Ct d [1,2] [2,3] Ze (λd=>[(1,.cells 72 (AC.c d))]) Zf ?_ (λenv H w=>?_)
 .refine G0 0 Z (Cn Z a (λ_ a=>?_) (λ_ a=>?_))
  .exact YM 6 Z a [1,2]
  iterate 11 (refine Gc 6 Z (Cn Z a (λ_ a=>?_) (λ_ a=>?_));exact YM 6 Z a [1,2])
  exact YM 1 Z a [1,2]
 refine Gx 2 Z (Qd w (Gc 7 Z ?_));obtain rfl:=Oi h;exact Rx [0] [2] Z (Yk Z (Qk E5 EF Z Z Z)) ⟨Z,Z⟩
def J8(a:AC):AB Int:=((I4 n a.Crew).bind λd=>(bif (!d)then some true else(I9 n a.No).bind λe=>(bif (!e)then some true else(C5 n a.At 0 1099511627776).bind λf=>(bif (!f)then some true else(MJ n a).bind λg=>(bif (!g)then some true else(MA n a).bind λh=>some (a != h))))):AB Bool).bind λi=>(bif i then some 120 else some 0)
theorem UY(e:AC):Ks (J8 n e) 130 [.agg (AC.c e)] [] (λr=>I r):=by
 refine Kg 8 func130 Z Z Z Z λr h=>Bd h λf a h=>Cg f [] [] (λf=>[(29,.bool f)]) Ze Zf ?_ ?_
 .refine G0 0 Z (FC 25 [24] [(0,0,0),(0,0,0),(0,0,0),(0,0,0),(0,0,0),(0,0,0),(0,0,0),(0,0,0),(0,0,0),(0,0,0),(0,0,0),(0,0,0),(0,0,0),(0,0,0),(0,0,0),(0,0,0),(0,0,0),(0,0,0),(0,0,0),(0,0,0),(0,0,0),(0,0,0),(0,0,1),(0,0,0),(1,0,0)] (by kernel_rfl) (Dk 2 Z ?_));obtain⟨y,g,a⟩:=YE a;refine DK.wo (x:=.bool y) ?_ ?_
  .exact Pc [] Z (Bh.fn call183 Z Z Z) (UQ _ _ _ g) Z Wp
  refine Dk 2 Z (WH 4 a Z Z Z (λ_ a=>?_) (λ_ a=>?_))
  .exact Dk 20 Z (DK.done Z Z (Gl 3 Z a []))
  .refine Dk 2 Z ?_;obtain⟨z,j,a⟩:=YE a;refine DK.wo (x:=.bool z) ?_ ?_
   .exact Pc [] Z (Bh.fn call184 Z Z Z) (UV _ _ _ j) (hg:=(gT Z)) Z Wp
   refine Dk 3 Z (WH 10 a Z Z Z (λ_ a=>?_) (λ_ a=>?_))
   .exact Dk 14 Z (DK.done Z Z (Gl 3 Z a []))
   .refine Dk 2 Z ?_;obtain⟨B,l,a⟩:=YE a;refine DK.wo (x:=.bool B) ?_ ?_
    .exact Pc [] Z (Bh.fn call185 Z Z Z) (DO _ _ _ _ _ l) (hg:=(gT Z)) Z Wp
    refine Dk 3 Z (WH 16 a Z Z Z (λ_ a=>?_) (λ_ a=>?_))
    .exact Dk 8 Z (DK.done Z Z (Gl 3 Z a []))
    .refine Dk 1 Z ?_;obtain⟨E,s,a⟩:=YE a;refine DK.wo (x:=.bool E) ?_ ?_
     .exact Pc [] Z (Bh.fn call186 Z Z Z) (iD _ _ _ s) (hg:=(gT Z)) Z Wp
     refine Dk 3 Z (WH 21 a Z Z Z (λ_ a=>?_) (λ_ a=>?_))
     .exact Dk 3 Z (DK.done Z Z (Gl 3 Z a []))
     .refine Fb (lo:=0) (x:=.agg (AC.c e)) ⟨Z,trivial⟩ ?_;refine Dk 1 Z ?_;obtain⟨d,u,a⟩:=YE a;refine Ex (x:=.agg (AC.c d)) (X1:=[.cells 72 (AC.c e),.cells 72 (AC.c d)]) ?_ ?_
      .refine QC [] (Bh.fn call187 Z Z Z) (hJ _ _ _ u) ?_ (hg:=(gT Z));rintro _ _ ⟨rfl,rfl⟩;exact FE Z Wp
      refine DK.done Z Z ?_;refine vX (.bool (e != d)) (rQ (p:=e) (q:=d) jf Z Z) ?_ (gT Z);exact Gl 2 Z a []
 refine Cn Z h (λ_ h=>?_) (λ_ h=>?_)
 .exact QJ 7 Z h 2 []
 exact QJ 8 Z h 2 []
def MK(n:Nat)(a:AC):AB (AA Int):=(bif (a.Kind==1)then(app [a.Kind,a.Crew,a.No,a.At] [a.Starter.Bib,a.Starter.Distance,a.Starter.Wave,a.Starter.Slot,a.Starter.Age,a.Starter.Chip,a.Starter.Team,a.Starter.Lot]).bind λm=>some m else(bif (a.Kind==2)then(app [a.Kind,a.Crew,a.No,a.At] [a.Read.Mat,a.Read.Epoch,a.Read.Chip,a.Read.Local]).bind λp=>some p else(bif (a.Kind==3)then(app [a.Kind,a.Crew,a.No,a.At] [a.Beacon.Mat,a.Beacon.Epoch,a.Beacon.Local,a.Beacon.True,a.Beacon.Err]).bind λq=>some q else(bif (a.Kind==4)then(app [a.Kind,a.Crew,a.No,a.At] [a.Sync.MatA,a.Sync.EpochA,a.Sync.LocalA,a.Sync.MatB,a.Sync.EpochB,a.Sync.LocalB,a.Sync.Min,a.Sync.Max]).bind λr=>some r else(bif (a.Kind==5)then(app [a.Kind,a.Crew,a.No,a.At] [a.Hand.Bib,a.Hand.Position,a.Hand.Lo,a.Hand.Hi]).bind λd=>some d else(bif (a.Kind==6)then(app [a.Kind,a.Crew,a.No,a.At] [a.Silence.Mat,a.Silence.Epoch,a.Silence.Lo,a.Silence.Hi]).bind λe=>some e else(bif (a.Kind==7)then(app [a.Kind,a.Crew,a.No,a.At] [a.Pair.A,a.Pair.B]).bind λf=>some f else(bif (a.Kind==8)then(app [a.Kind,a.Crew,a.No,a.At] [a.Report.Case,a.Report.Bib,a.Report.Offence,a.Report.Position]).bind λg=>some g else(bif (a.Kind==9)then(app [a.Kind,a.Crew,a.No,a.At] [a.Protest.Case,a.Protest.By,a.Protest.Fee,a.Protest.Form]).bind λh=>some h else(bif (a.Kind==10)then(app [a.Kind,a.Crew,a.No,a.At] [a.Ruling.Case,a.Ruling.Instance,a.Ruling.Kind,a.Ruling.Bib,a.Ruling.Position,a.Ruling.Amount]).bind λi=>some i else(bif (a.Kind==11)then(bif a.Appeal.Suspends then(app [a.Kind,a.Crew,a.No,a.At] [a.Appeal.Case,1]).bind λj=>some j else(app [a.Kind,a.Crew,a.No,a.At] [a.Appeal.Case,0]).bind λk=>some k)else(bif (a.Kind==13)then(app [a.Kind,a.Crew,a.No,a.At] [a.Void.Crew,a.Void.No]).bind λl=>some l else some [a.Kind,a.Crew,a.No,a.At]))))))))))))
theorem iE(a:AC):Kq (MK n a) 247 [.agg (AC.c a)] [] (λr=>.osl 0 0 r.length 1) (λr=>[.row 3 1 (map (Qc .i64) r)]):=by
 refine Kg 16 func247 Z Z Z Z λr h=>vH (Ek (xs:=[.tmp 14,.tmp 16,.tmp 18,.tmp 20]) (es:=map (Qc .i64) [a.Kind,a.Crew,a.No,a.At]) Qs Z Z Z Z Z ⟨Z,Z,Z,Z,trivial⟩ Z Z) ?_;refine Fg 17 Z Z (Cn Z h (λ_ h=>?_) (λ_ h=>?_))
 .refine Gc 27 Z (vH (Ek (xs:=[.tmp 30,.tmp 32,.tmp 34,.tmp 36,.tmp 38,.tmp 40,.tmp 42,.tmp 44]) (es:=map (Qc .i64) [a.Starter.Bib,a.Starter.Distance,a.Starter.Wave,a.Starter.Slot,a.Starter.Age,a.Starter.Chip,a.Starter.Team,a.Starter.Lot]) Qs Z Z Z Z Z ⟨Z,Z,Z,Z,Z,Z,Z,Z,trivial⟩ Z Z) ?_);refine FE Z (Bd h λl2 G h=>vH (Qh (e:=(Qc .i64)) G Qs EB (QF (i:=3))) ?_);exact FE Z (Gt 6 Z h 2 [4])
 refine Gc 6 Z (Cn Z h (λ_ h=>?_) (λ_ h=>?_))
 .refine Gc 19 Z (vH (Ek (xs:=[.tmp 53,.tmp 55,.tmp 57,.tmp 59]) (es:=map (Qc .i64) [a.Read.Mat,a.Read.Epoch,a.Read.Chip,a.Read.Local]) Qs Z Z Z Z Z ⟨Z,Z,Z,Z,trivial⟩ Z Z) ?_);refine FE Z (Bd h λl4 J h=>vH (Qh (e:=(Qc .i64)) J Qs EB (QF (i:=3))) ?_);exact FE Z (Gt 6 Z h 2 [4])
 refine Gc 6 Z (Cn Z h (λ_ h=>?_) (λ_ h=>?_))
 .refine Gc 21 Z (vH (Ek (xs:=[.tmp 68,.tmp 70,.tmp 72,.tmp 74,.tmp 76]) (es:=map (Qc .i64) [a.Beacon.Mat,a.Beacon.Epoch,a.Beacon.Local,a.Beacon.True,a.Beacon.Err]) Qs Z Z Z Z Z ⟨Z,Z,Z,Z,Z,trivial⟩ Z Z) ?_);refine FE Z (Bd h λl6 M h=>vH (Qh (e:=(Qc .i64)) M Qs EB (QF (i:=3))) ?_);exact FE Z (Gt 6 Z h 2 [4])
 refine Gc 6 Z (Cn Z h (λ_ h=>?_) (λ_ h=>?_))
 .refine Gc 27 Z (vH (Ek (xs:=[.tmp 85,.tmp 87,.tmp 89,.tmp 91,.tmp 93,.tmp 95,.tmp 97,.tmp 99]) (es:=map (Qc .i64) [a.Sync.MatA,a.Sync.EpochA,a.Sync.LocalA,a.Sync.MatB,a.Sync.EpochB,a.Sync.LocalB,a.Sync.Min,a.Sync.Max]) Qs Z Z Z Z Z ⟨Z,Z,Z,Z,Z,Z,Z,Z,trivial⟩ Z Z) ?_);refine FE Z (Bd h λl8 O h=>vH (Qh (e:=(Qc .i64)) O Qs EB (QF (i:=3))) ?_);exact FE Z (Gt 6 Z h 2 [4])
 refine Gc 6 Z (Cn Z h (λ_ h=>?_) (λ_ h=>?_))
 .refine Gc 19 Z (vH (Ek (xs:=[.tmp 108,.tmp 110,.tmp 112,.tmp 114]) (es:=map (Qc .i64) [a.Hand.Bib,a.Hand.Position,a.Hand.Lo,a.Hand.Hi]) Qs Z Z Z Z Z ⟨Z,Z,Z,Z,trivial⟩ Z Z) ?_);refine FE Z (Bd h λQ d h=>vH (Qh (e:=(Qc .i64)) d Qs EB (QF (i:=3))) ?_);exact FE Z (Gt 6 Z h 2 [4])
 refine Gc 6 Z (Cn Z h (λ_ h=>?_) (λ_ h=>?_))
 .refine Gc 19 Z (vH (Ek (xs:=[.tmp 123,.tmp 125,.tmp 127,.tmp 129]) (es:=map (Qc .i64) [a.Silence.Mat,a.Silence.Epoch,a.Silence.Lo,a.Silence.Hi]) Qs Z Z Z Z Z ⟨Z,Z,Z,Z,trivial⟩ Z Z) ?_);refine FE Z (Bd h λR g h=>vH (Qh (e:=(Qc .i64)) g Qs EB (QF (i:=3))) ?_);exact FE Z (Gt 6 Z h 2 [4])
 refine Gc 6 Z (Cn Z h (λ_ h=>?_) (λ_ h=>?_))
 .refine Gc 9 Z (vH (Ek (xs:=[.tmp 137,.tmp 140]) (es:=map (Qc .i64) [a.Pair.A,a.Pair.B]) Qs Z Z Z Z Z ⟨Z,Z,trivial⟩ Z Z) ?_);refine FE Z (Bd h λT k h=>vH (Qh (e:=(Qc .i64)) k Qs EB (QF (i:=2))) ?_);exact FE Z (Gt 6 Z h 2 [3])
 refine Gc 6 Z (Cn Z h (λ_ h=>?_) (λ_ h=>?_))
 .refine Gc 19 Z (vH (Ek (xs:=[.tmp 149,.tmp 151,.tmp 153,.tmp 155]) (es:=map (Qc .i64) [a.Report.Case,a.Report.Bib,a.Report.Offence,a.Report.Position]) Qs Z Z Z Z Z ⟨Z,Z,Z,Z,trivial⟩ Z Z) ?_);refine FE Z (Bd h λV m h=>vH (Qh (e:=(Qc .i64)) m Qs EB (QF (i:=3))) ?_);exact FE Z (Gt 6 Z h 2 [4])
 refine Gc 6 Z (Cn Z h (λ_ h=>?_) (λ_ h=>?_))
 .refine Gc 19 Z (vH (Ek (xs:=[.tmp 164,.tmp 166,.tmp 168,.tmp 170]) (es:=map (Qc .i64) [a.Protest.Case,a.Protest.By,a.Protest.Fee,a.Protest.Form]) Qs Z Z Z Z Z ⟨Z,Z,Z,Z,trivial⟩ Z Z) ?_);refine FE Z (Bd h λW q h=>vH (Qh (e:=(Qc .i64)) q Qs EB (QF (i:=3))) ?_);exact FE Z (Gt 6 Z h 2 [4])
 refine Gc 6 Z (Cn Z h (λ_ h=>?_) (λ_ h=>?_))
 .refine Gc 23 Z (vH (Ek (xs:=[.tmp 179,.tmp 181,.tmp 183,.tmp 185,.tmp 187,.tmp 189]) (es:=map (Qc .i64) [a.Ruling.Case,a.Ruling.Instance,a.Ruling.Kind,a.Ruling.Bib,a.Ruling.Position,a.Ruling.Amount]) Qs Z Z Z Z Z ⟨Z,Z,Z,Z,Z,Z,trivial⟩ Z Z) ?_);refine FE Z (Bd h λX t h=>vH (Qh (e:=(Qc .i64)) t Qs EB (QF (i:=3))) ?_);exact FE Z (Gt 6 Z h 2 [4])
 refine Gc 6 Z (Cn Z h (λ_ h=>?_) (λ_ h=>?_))
 .refine Gc 8 Z (Cn Z h (λ_ h=>?_) (λ_ h=>?_))
  .refine Gc 6 Z (vH (Ek (xs:=[.tmp 200,.const (.int .i64 1)]) (es:=map (Qc .i64) [a.Appeal.Case,1]) Qs Z Z Z Z Z ⟨Z,Z,trivial⟩ Z Z) ?_);refine FE Z (Bd h λY x h=>vH (Qh (e:=(Qc .i64)) x Qs EB (QF (i:=2))) ?_);exact FE Z (Gt 7 Z h 2 [3])
  refine Gc 8 Z (vH (Ek (xs:=[.tmp 206,.const (.int .i64 0)]) (es:=map (Qc .i64) [a.Appeal.Case,0]) Qs Z Z Z Z Z ⟨Z,Z,trivial⟩ Z Z) ?_);refine FE Z (Bd h λaa y h=>vH (Qh (e:=(Qc .i64)) y Qs EB (QF (i:=2))) ?_);exact FE Z (Gt 6 Z h 2 [3])
 refine Gc 6 Z (Cn Z h (λ_ h=>?_) (λ_ h=>?_))
 .refine Gc 9 Z (vH (Ek (xs:=[.tmp 214,.tmp 217]) (es:=map (Qc .i64) [a.Void.Crew,a.Void.No]) Qs Z Z Z Z Z ⟨Z,Z,trivial⟩ Z Z) ?_);refine FE Z (Bd h λab E h=>vH (Qh (e:=(Qc .i64)) E Qs EB (QF (i:=2))) ?_);exact FE Z (Gt 6 Z h 2 [3])
 exact QJ 10 Z h 2 [1]
def RG(n:Nat)(a:Int):AB Unit:=some ()
theorem fT(a:Int):Kq (RG n a) 273 [I a] [] (λ_=>.agg [I 1,I a,.str [],.rsl 4 (map Value.enc [])]) (λ_=>[.cells 296 [I 1,I a,.str [],.rsl 4 (map Value.enc [])]]):=by
 refine Kg 13 func273 Z Z Z Z λr h=>?_;exact Rx [0] [2] Z (Yk Z (Qk GF Gz Z Z Z)) ⟨Z,Z⟩
def PR(e:AA Int)(a:(AA Value)×Int):AB (AG ((AA Value)×Int) (AA Value)):=(bif a.2<(e.length:Int) then(AJ e a.2).bind λd=>(RG n d).bind λg=>(app a.1 [{Kind:=1,N:=d,S:=[],L:=[]:Value}]).bind λf=>some (.k (f,i64.wrap (a.2+1)))else some (.d a.1))
def RE(d:AA Int):AB (AA Value):=(iter (PR n d) n ([],0):AB (AA Value)).bind λa=>some a
theorem fR(u:AA Int):Kq (RE n u) 246 [.rsl 1 (map (Qc .i64) u)] [] (λr=>.agg [I 3,I 0,.str [],.osl 0 0 r.length 4]) (λr=>[.row 296 4 (map Value.enc r),.cells 296 [I 3,I 0,.str [],.osl 0 0 r.length 4]]):=by
 refine Kg 7 func246 Z Z Z Z λr h=>?_;refine vX (.agg [I 3,I 0,.str [],.nils]) (AK.build (zs:=[I 0,I 0,.str [],.nils]) GE (Ds Z) nq) ?_;refine vH (rh (v:=(.agg [I 0,I 0,.str [],.nils])) GE (Ds Z)) ?_;refine Fg 9 Z Z (Bd h λg w h=>Cg g [0,1,0] [2,3] Ze (λg=>[(1,.cells 296 [I 3,I 0,.str [],.osl 2 0 g.length 4]),(2,.row 296 4 (map Value.enc g))]) Zf ?_ ?_)
 .refine G0 1 Z (Lp [0,1,0] [0,2,3] (λd=>[(4,I d.2)]) (λd=>[(1,.cells 296 [I 3,I 0,.str [],.osl 2 0 d.1.length 4]),(2,.row 296 4 (map Value.enc d.1))]) w Zf ?_ ?_)
  .refine En (YY (i:=1) (m:=3) (t:=296) (k:=4) Z Z Z) ?_;exact Lr [0,1,2]
  intro d y a j;refine G0 5 Z (Lg 3 Z Z (Q5 Z a (λ_ a=>?_) (λ_ a=>?_)))
  .exact Gc 2 Z (Qi a (Gx 1 Z (JC j a (Lr [0,1,2]))))
  refine Gc 4 Z (FC 8 [6] [(0,0,1),(0,0,1),(0,0,0),(0,0,0),(0,0,0),(0,0,0),(1,0,0),(0,1,1)] (by kernel_rfl) (Dk 1 Z ?_));refine Fb (lo:=0) (x:=.osl 2 0 d.1.length 4) ⟨Z,trivial⟩ ?_;refine Dk 2 Z ?_;obtain⟨f,p,a⟩:=YE a;refine DK.wo (x:=.rp [I f]) ?_ ?_
  .exact Ix p EB EG Z Wp
  refine Dk 1 Z ?_;obtain⟨z,q,a⟩:=YE a;refine Ex (x:=.agg [I 1,I f,.str [],.rsl 4 (map Value.enc [])]) (X1:=[.cells 296 (Value.c UC),.cells 296 [I 3,I 0,.str [],.osl 2 0 d.1.length 4],.row 296 4 (map Value.enc d.1),.cells 296 [I 1,I f,.str [],.rsl 4 (map Value.enc [])]]) ?_ ?_
  .refine QC [] (Bh.fn call273 Z Z Z) (fT _ _ _ q) ?_;rintro _ _ ⟨rfl,rfl⟩;exact FE Z Wp
  refine DK.wo (x:=.rsl 4 (map Value.enc [{Kind:=1,N:=f,S:=[],L:=[]:Value}])) ?_ ?_
  .refine vH (Ym (xs:=[.tmp 18]) (es:=[Value.c ({Kind:=1,N:=f,S:=[],L:=[]:Value})]) aX Z Z Z Z Z ⟨Z,trivial⟩ Z Z) ?_;refine nN (x:=(.rsl 4 (map Value.enc [{Kind:=1,N:=f,S:=[],L:=[]:Value}]))) (H:=[_,_,_,_]) (by simp[Jb]) Z ?_;exact Wp
  refine DK.done Z Z (Bd a λB s a=>?_);refine vH (Qh (e:=Value.enc) s aX EZ JR) ?_;exact Fg 10 Z Z (Qg a (Lr [0,1,4]))
 refine Gc 7 Z ?_;obtain rfl:=Oi h;exact Rx [2,0] [2] Z (Yk Z (Qk GF Gz Z Z Z)) ⟨Z,Z⟩
def Pq(n:Nat)(d:Value)(rec262:Value->AB Bool)(a:Int):AB (AG Int (AG Unit Bool)):=(bif a<(d.L.length:Int) then(AJ d.L a).bind λe=>(rec262 e).bind λf=>(bif (!f)then some (.d (.d false))else some (.k (i64.wrap (a+1))))else some (.d (.k ())))
def M8(rec262:Value->AB Bool)(n:Nat)(a:Value):AB Bool:=(bif (a.Kind==1)then((bif (a.S==[])then some ((a.L.length:Int)==0)else some false):AB Bool).bind λg=>some g else(bif (a.Kind==2)then((bif (a.N==0)then some ((a.L.length:Int)==0)else some false):AB Bool).bind λh=>some h else(bif (a.Kind==3)then(iter (Pq n a rec262) n 0:AB (AG Unit Bool)).bind λe=>match e with|.k d=>(((bif (a.N==0)then some (a.S==[])else some false):AB Bool).bind λf=>some f)|.d d=>some d else some false)))
theorem QaX(rec262:Value->AB Bool)(f:∀(g:Value) (r:Bool),rec262 g=some r->Bk prog 301 [.agg (Value.c g)] [] (λr=>.bool r) r)(n:Nat)(g:Value)(r:Bool)(h:M8 rec262 n g=some r):Bk prog 301 [.agg (Value.c g)] [] (λr=>.bool r) r:=by
 refine QG func301 Z Z Z ?_;refine G0 20 Z (Cn Z h (λ_ h=>?_) (λ_ h=>?_))
 .refine Gc 1 Z (Bd h λp i h=>Ct p [] [] (λp=>[(2,.bool p)]) Ze Zf ?_ (λenv H d=>?_))
  .refine G0 5 Z (Is 11 i Z (λ_ i=>?_) (λ_ i=>?_))
   .exact Go 2 Z (Lm Z (Gl 4 Z i []))
   .exact Gl 7 Z i []
  exact Gx 1 Z (Qd d (QJ 3 Z h 2 []))
 refine Gc 6 Z (Cn Z h (λ_ h=>?_) (λ_ h=>?_))
 .refine Gc 1 Z (Bd h λq j h=>Ct q [] [] (λq=>[(2,.bool q)]) Ze Zf ?_ (λenv H d=>?_))
  .refine G0 5 Z (Is 22 j Z (λ_ j=>?_) (λ_ j=>?_))
   .exact Go 2 Z (Lm Z (Gl 4 Z j []))
   .exact Gl 7 Z j []
  exact Gx 1 Z (Qd d (QJ 3 Z h 2 []))
 refine Gc 6 Z (Cn Z h (λ_ h=>?_) (λ_ h=>?_))
 .refine Gc 6 Z (Bd h λF G h=>DD (b:=F) [0] [1] Ze Ze Zf ?_ (λM env H J d=>?_))
  .refine G0 1 Z (Lp [0] [1] (λm=>[(3,I m)]) Ze G Zf (Lr [0]) λm O a k=>?_);refine G0 6 Z (Lg 3 Z Z (Q5 Z a (λ_ a=>?_) (λ_ a=>?_)))
   .exact Gc 2 Z (Qi a (Gx 1 Z (JD k a Z (Lr [0]))))
   refine Gc 9 Z (Bd a λL w a=>CQ w (Jb L) Z (Go 1 Z (Cz [] a (f _) Z λP N a=>Go 3 Z (Cn Z a (λ_ a=>?_) (λ_ a=>?_)))))
   .refine Gc 8 Z (Qx a ?_);obtain rfl:=Oj k a;exact Gx 1 Z (Qq (Gx 3 Z (Rt h 2 [])))
   exact Gc 8 Z (Qg a (Lr [0]))
  subst J;refine Gx 1 Z (Qd d (Gc 1 Z (Bd h λl e h=>Cg l [] [] (λl=>[(2,.bool l)]) Ze Zf ?_ ?_)))
  .refine G0 5 Z (Is 47 e Z (λ_ e=>?_) (λ_ e=>?_))
   iterate 2 exact Gl 6 Z e []
  exact QJ 3 Z h 2 []
 exact QJ 9 Z h 2 []
def HU:Nat->Value->AB Bool
  |0=>λ_=>none
  |n+1=>M8 (HU n) n
theorem i6:∀(a:Value) (r:Bool),HU n a=some r->Bk prog 301 [.agg (Value.c a)] [] (λr=>.bool r) r:=by
  induction n with
  |zero=>intro a r h;cases h
  |succ n ih=>intro a r h;exact QaX _ ih n a r h
def Po(n:Nat)(e:Value)(rec263:Value->AB Int)(a:Int×Int):AB (AG (Int×Int) Int):=(bif a.2<(e.L.length:Int) then(AJ e.L a.2).bind λf=>(rec263 f).bind λd=>some (.k ((if a.1<d then d else a.1),i64.wrap (a.2+1)))else some (.d a.1))
def M9(rec263:Value->AB Int)(n:Nat)(a:Value):AB Int:=(bif (a.Kind != 3)then some 0 else(iter (Po n a rec263) n (0,0):AB Int).bind λd=>some (i64.wrap (d+1)))
theorem Qbd(rec263:Value->AB Int)(e:∀(f:Value) (r:Int),rec263 f=some r->Bk prog 302 [.agg (Value.c f)] [] (λr=>I r) r)(n:Nat)(f:Value)(r:Int)(h:M9 rec263 n f=some r):Bk prog 302 [.agg (Value.c f)] [] (λr=>I r) r:=by
 refine QG func302 Z Z Z ?_;refine G0 14 Z (Cn Z h (λ_ h=>?_) (λ_ h=>?_))
 .exact QJ 7 Z h 2 []
 refine Gc 13 Z (Bd h λi p h=>Cg i [] [] (λi=>[(3,I i)]) Ze Zf ?_ ?_)
 .refine G0 1 Z (Lp [0] [1] (λd=>[(3,I d.1),(4,I d.2)]) Ze p Zf (Lr [0]) λd t a j=>?_);refine G0 6 Z (Lg 3 Z Z (Q5 Z a (λ_ a=>?_) (λ_ a=>?_)))
  .exact Gc 2 Z (Qi a (Gx 1 Z (JC j a (Lr []))))
  refine Gc 9 Z (Bd a λq l a=>CQ l (Jb q) Z (Go 1 Z (Cz [] a (e _) Z λg s a=>?_)));refine vX (I (if d.1<g then g else d.1)) (AK.max Z Z Z Z) ?_;exact Go 9 Z (Qg a (Lr [0]))
 exact QJ 8 Z h 2 []
def HV:Nat->Value->AB Int
  |0=>λ_=>none
  |n+1=>M9 (HV n) n
theorem i7:∀(a:Value) (r:Int),HV n a=some r->Bk prog 302 [.agg (Value.c a)] [] (λr=>I r) r:=by
  induction n with
  |zero=>intro a r h;cases h
  |succ n ih=>intro a r h;exact Qbd _ ih n a r h
def Za(a:Value):AB Int:=(HU n a).bind λd=>(bif (!d)then some 1 else(HV n a).bind λe=>(bif 16<e then some 2 else some 0))
theorem eO(a:Value):Ks (Za n a) 271 [.agg (Value.c a)] [] (λr=>I r):=by
 refine Kg 10 func271 Z Z Z Z λr h=>Cz [] h (i6 _ _) Z λi f h=>Go 3 Z (Cn Z h (λ_ h=>?_) (λ_ h=>?_))
 .exact QJ 7 Z h 2 []
 refine Gc 6 Z (Cz [] h (i7 _ _) Z λj g h=>Go 3 Z (Cn Z h (λ_ h=>?_) (λ_ h=>?_)))
 .exact QJ 7 Z h 2 []
 exact QJ 8 Z h 2 []
def Mc(n:Nat)(a:Int):AB Int:=(bif 0<=a then some (u64.wrap (2*(u64.wrap a)))else some (u64.wrap ((u64.wrap (2*(u64.wrap (i64.wrap (0-(i64.wrap (a+1)))))))+1)))
theorem iV(a:Int):Ks (Mc n a) 304 [I a] [] (λr=>.int .u64 r):=by
 refine Kg 12 func304 Z Z Z Z λr h=>Cn Z h (λ_ h=>?_) (λ_ h=>?_)
 .refine Gc 3 Z (vV (Y7 Z EN EL Z) ?_);exact Gt 6 Z h 2 []
 refine Gc 7 Z (vV (Y7 Z EN EL Z) ?_);exact Gt 6 Z h 2 []
def TI(rec266:Int->AB (AA Int))(n:Nat)(a:Int):AB (AA Int):=(bif a<128 then some [u8.wrap a]else(rec266 (u64.wrap (Int.tdiv a 128))).bind λd=>(app [u8.wrap (u64.wrap ((Int.tmod a 128)+128))] d).bind λe=>some e)
theorem QaN(rec266:Int->AB (AA Int))(d:∀(a:Int) (r:AA Int),rec266 a=some r->C prog 303 [.int .u64 a] [] (RQ (λr=>.osl 0 0 r.length 1) (λr=>[.row 5 1 (map (Qc .u8) r)]) r))(n:Nat)(a:Int)(r:AA Int)(h:TI rec266 n a=some r):C prog 303 [.int .u64 a] [] (RQ (λr=>.osl 0 0 r.length 1) (λr=>[.row 5 1 (map (Qc .u8) r)]) r):=by
 refine QG func303 Z Z Z ?_;refine G0 12 Z (Cn Z h (λ_ h=>?_) (λ_ h=>?_))
 .refine Gc 3 Z ?_;refine vX (.int .u8 (u8.wrap a)) (Y7 Z EL E4 Z) ?_;refine vH (Ek (xs:=[.tmp 6]) (es:=map (Qc .u8) [u8.wrap a]) YU Z Z Z Z Z ⟨Z,trivial⟩ Z Z) ?_;exact FE Z (Gt 5 Z h 2 [0])
 refine Gc 5 Z ?_;refine vX (.int .u64 (Int.tmod a 128)) (AK.rem Z Z Z (by decide)) ?_;refine Go 1 Z ?_;refine vV (x:=(.int .u8 (u8.wrap (u64.wrap ((Int.tmod a 128)+128))))) (Y7 Z EL E4 Z) ?_;refine vH (Ek (xs:=[.tmp 11]) (es:=map (Qc .u8) [u8.wrap (u64.wrap ((Int.tmod a 128)+128))]) YU Z Z Z Z Z ⟨Z,trivial⟩ Z Z) ?_;refine Fg 1 Z Z ?_;refine vX (.int .u64 (u64.wrap (Int.tdiv a 128))) (AK.quo Z Z Z (by decide)) ?_;refine Cd [] h (d _) Z λk j h=>FE Z (Bd h λl g h=>vH (Qh (e:=(Qc .u8)) g YU EK (QF (i:=1))) ?_);exact FE Z (Gt 4 Z h 2 [2])
def N1:Nat->Int->AB (AA Int)
  |0=>λ_=>none
  |n+1=>TI (N1 n) n
theorem mv:∀(a:Int) (r:AA Int),N1 n a=some r->C prog 303 [.int .u64 a] [] (RQ (λr=>.osl 0 0 r.length 1) (λr=>[.row 5 1 (map (Qc .u8) r)]) r):=by
  induction n with
  |zero=>intro a r h;cases h
  |succ n ih=>intro a r h;exact QaN _ ih n a r h
def Lt(n:Nat)(d:Value)(rec264:Value->AB (AA Int))(a:(AA Int)×Int):AB (AG ((AA Int)×Int) (AA Int)):=(bif a.2<(d.L.length:Int) then(AJ d.L a.2).bind λe=>(rec264 e).bind λf=>(app a.1 f).bind λg=>some (.k (g,i64.wrap (a.2+1)))else some (.d a.1))
def TH(rec264:Value->AB (AA Int))(n:Nat)(a:Value):AB (AA Int):=(bif (a.Kind==1)then(Mc n a.N).bind λe=>(N1 n e).bind λf=>(app [1] f).bind λg=>some g else(bif (a.Kind==2)then none else(N1 n (u64.wrap (a.L.length:Int))).bind λh=>(app [3] h).bind λi=>(iter (Lt n a rec264) n (i,0):AB (AA Int)).bind λd=>some d))
theorem QaW(rec264:Value->AB (AA Int))(g:∀(j:Value) (r:AA Int),rec264 j=some r->C prog 272 [.agg (Value.c j)] [] (RQ (λr=>.osl 0 0 r.length 1) (λr=>[.row 5 1 (map (Qc .u8) r)]) r))(n:Nat)(j:Value)(r:AA Int)(h:TH rec264 n j=some r):C prog 272 [.agg (Value.c j)] [] (RQ (λr=>.osl 0 0 r.length 1) (λr=>[.row 5 1 (map (Qc .u8) r)]) r):=by
 refine QG func272 Z Z Z ?_;refine G0 20 Z (Cn Z h (λ_ h=>?_) (λ_ h=>?_))
 .refine Gc 2 Z (vH (Ek (xs:=[.const (.int .u8 1)]) (es:=map (Qc .u8) [1]) YU Z Z Z Z Z ⟨Z,trivial⟩ Z Z) ?_);refine Fg 2 Z Z (Cz [] h (iV _ _) Z λJ z h=>Cd [] h (mv _ _) Z λM B h=>FE Z (Bd h λN s h=>vH (Qh (e:=(Qc .u8)) s YU EK (QF (i:=2))) ?_));exact FE Z (Gt 6 Z h 2 [3])
 refine Gc 6 Z (Cn Z h (λ_ h=>?_) (λ_ h=>?_))
 .refine Gc 1 Z ?_;cases h
 refine Gc 5 Z (vH (Ek (xs:=[.const (.int .u8 3)]) (es:=map (Qc .u8) [3]) YU Z Z Z Z Z ⟨Z,trivial⟩ Z Z) ?_);refine Fg 2 Z Z (Lm Z ?_);refine vX (.int .u64 (u64.wrap (j.L.length:Int))) (Y7 Z EN EL Z) ?_;refine Cd [] h (mv _ _) Z λO E h=>FE Z (Bd h λP u h=>vH (Qh (e:=(Qc .u8)) u YU EK (QF (i:=2))) ?_);refine Fg 9 Z Z (Bd h λd w h=>Cg d [1] [] (λd=>[(3,.osl 0 0 d.length 1)]) (λd=>[(0,.row 5 1 (map (Qc .u8) d))]) Zf ?_ ?_)
 .refine G0 1 Z (Lp [0,3] [1] (λf=>[(3,.osl 1 0 f.1.length 1),(4,I f.2)]) (λf=>[(1,.row 5 1 (map (Qc .u8) f.1))]) w Zf (Lr [0,3]) λf F a k=>?_);refine G0 6 Z (Lg 3 Z Z (Q5 Z a (λ_ a=>?_) (λ_ a=>?_)))
  .exact Gc 2 Z (Qi a (Gx 1 Z (JC k a (Lr [1]))))
  refine Gc 9 Z (Bd a λx m a=>CQ m (Jb x) Z (Go 1 Z (Cd [] a (g _) Z λG y a=>FE Z (Bd a λH p a=>vH (Qh (e:=(Qc .u8)) p YU EK (QF (i:=2))) ?_))));exact Fg 9 Z Z (Qg a (Lr [0,3]))
 exact QJ 7 Z h 2 [0]
def N0:Nat->Value->AB (AA Int)
  |0=>λ_=>none
  |n+1=>TH (N0 n) n
theorem th:∀(a:Value) (r:AA Int),N0 n a=some r->C prog 272 [.agg (Value.c a)] [] (RQ (λr=>.osl 0 0 r.length 1) (λr=>[.row 5 1 (map (Qc .u8) r)]) r):=by
  induction n with
  |zero=>intro a r h;cases h
  |succ n ih=>intro a r h;exact QaW _ ih n a r h
def ZD(a:Value):AB ((AA Int)×Int):=(Za n a).bind λd=>(bif (d != 0)then some ([],d)else(N0 n a).bind λe=>some (e,0))
theorem dx(a:Value):Kq (ZD n a) 245 [.agg (Value.c a)] [] (λr=>.tup [.osl 0 0 r.1.length 1,I r.2]) (λr=>[.row 5 1 (map (Qc .u8) r.1)]):=by
 refine Kg 10 func245 Z Z Z Z λr h=>Cz [] h (eO _ _) Z λg e h=>Go 10 Z (Cn Z h (λ_ h=>?_) (λ_ h=>?_))
 .refine Gc 9 Z ?_;obtain rfl:=Oi h;refine R2 2 3 Z Z ?_;exact En (Ep (s:=2) (XP Z) Z) (Lr [1])
 refine Gc 5 Z (Cd [] h (th _ _) Z λi f h=>Fg 5 Z Z ?_);obtain rfl:=Oi h;exact R2 2 3 Z Z (Lr [1])
def M4(a:AC):AB ((AA Int)×Int):=(J8 n a).bind λe=>(bif (e != 0)then some ([],120)else(MK n a).bind λf=>(RE n f).bind λg=>(ZD n ({Kind:=3,N:=0,S:=[],L:=g:Value})).bind λd=>some (d.1,d.2))
theorem UH(a:AC):Kq (M4 n a) 188 [.agg (AC.c a)] [] (λr=>.tup [.osl 0 0 r.1.length 1,I r.2]) (λr=>[.row 5 1 (map (Qc .u8) r.1)]):=by
 refine Kg 11 func188 Z Z Z Z λr h=>Cz [] h (UY _ _) Z λj e h=>Go 3 Z (Cn Z h (λ_ h=>?_) (λ_ h=>?_))
 .refine Gc 8 Z ?_;obtain rfl:=Oi h;refine R2 2 3 Z Z ?_;exact En (Ep (s:=2) (XP Z) Z) (Lr [1])
 refine Gc 5 Z (Cd [] h (iE _ _) Z λk f h=>FE Z (QB (Ji [(8,_)] Z Z (Aw.cons Z Eo Aw.nil) (Ec (Ec (YL _)))) ?_));refine Cd [] h (fR _ _) Z λl g h=>FE Z (QB (Ji [(9,_)] Z Z (Aw.cons Z (BP.agg (Ed (Ee _) (Ed (Ee _) (Ed (Ee _) (Ed Eo (Ej _)))))) Aw.nil) (Ec (Ec (Ec (CE.cells (Ed (Ee _) (Ed (Ee _) (Ed (Ee _) (Ed Eo (Ej _))))) (YL _)))))) ?_);refine Cd [] h (dx _ _) Z λm i h=>Fg 7 Z Z ?_;obtain rfl:=Oi h;exact R2 2 3 Z Z (Lr [4])
def Ij(n:Nat)(d:AC)(e:AC)(a:Int):AB (AG Int (AG Unit Int)):=(bif a<3 then(AJ [d.At,d.Crew,d.No] a).bind λf=>(AJ [e.At,e.Crew,e.No] a).bind λg=>(bif f<g then some (.d (.d (-1)))else(AJ [d.At,d.Crew,d.No] a).bind λh=>(AJ [e.At,e.Crew,e.No] a).bind λi=>(bif i<h then some (.d (.d 1))else some (.k (i64.wrap (a+1)))))else some (.d (.k ())))
def MT(f:AC)(g:AC):AB Int:=(iter (Ij n f g) n 0:AB (AG Unit Int)).bind λh=>match h with|.k a=>((M4 n f).bind λd=>(M4 n g).bind λe=>(bif Op.bytesLess (map Yp d.1) (map Yp e.1)then some (-1)else(bif (!(Op.bytesLess (map Yp d.1) (map Yp e.1)||(map Yp d.1)==(map Yp e.1)))then some 1 else some 0)))|.d a=>some a
theorem iM(j:AC)(k:AC):Ks (MT n j k) 131 [.agg (AC.c j),.agg (AC.c k)] [] (λr=>I r):=by
 refine Kg 15 func131 Z Z Z Z λr h=>vH (Ek (xs:=[.tmp 13,.tmp 15,.tmp 17]) (es:=map (Qc .i64) [j.At,j.Crew,j.No]) Qs Z Z Z Z Z ⟨Z,Z,Z,trivial⟩ Z Z) ?_;refine Fg 11 Z Z (vH (Ek (xs:=[.tmp 20,.tmp 22,.tmp 24]) (es:=map (Qc .i64) [k.At,k.Crew,k.No]) Qs Z Z Z Z Z ⟨Z,Z,Z,trivial⟩ Z Z) ?_);refine Fg 9 Z Z (Bd h λB E h=>BZ (b:=B) [0,1] [2,3] Ze Ze Zf ?_ (λ_ F=>?_))
 .refine G0 1 Z (Lp [0,1,2,3] [2,3,5,6] (λd=>[(7,I d)]) Ze E Zf (Lr [0,1,2,3]) λd P a e=>?_);refine G0 7 Z (Q5 Z a (λ_ a=>?_) (λ_ a=>?_))
  .exact Gc 2 Z (Qi a (Gx 1 Z (JD e a Z (Lr [0,1]))))
  refine Gc 6 Z (Bj 8 Z (D 2 Z ?_));obtain⟨G,m,a⟩:=YE a;refine DS.v (x:=(.ptr 2 (toNat d*1))) (Qn m Z EB EG) ?_;refine DS.v (x:=(I G)) (Ez Z EH Z (Qj m)) ?_;refine D 2 Z ?_;obtain⟨H,p,a⟩:=YE a;refine DS.v (x:=(.ptr 3 (toNat d*1))) (Qn p Z EB EG) ?_;refine DS.v (x:=(I H)) (Ez Z EH Z (Qj p)) ?_;refine Eg Z (Go 3 Z (Cn Z a (λ_ a=>?_) (λ_ a=>?_)))
  .refine Gc 9 Z (Qx a ?_);obtain rfl:=Oj e a;exact Gx 1 Z (Qq (Gx 1 Z (Rt h 4 [])))
  refine Gc 3 Z (Bj 8 Z (D 2 Z ?_));obtain⟨J,q,a⟩:=YE a;refine DS.v (x:=(.ptr 2 (toNat d*1))) (Qn q Z EB EG) ?_;refine DS.v (x:=(I J)) (Ez Z EH Z (Qj q)) ?_;refine D 2 Z ?_;obtain⟨L,s,a⟩:=YE a;refine DS.v (x:=(.ptr 3 (toNat d*1))) (Qn s Z EB EG) ?_;refine DS.v (x:=(I L)) (Ez Z EH Z (Qj s)) ?_;refine Eg Z (Go 3 Z (Cn Z a (λ_ a=>?_) (λ_ a=>?_)))
  .refine Gc 8 Z (Qx a ?_);obtain rfl:=Oj e a;exact Gx 1 Z (Qq (Gx 1 Z (Rt h 4 [])))
  exact Gc 8 Z (Qg a (Lr [0,1,2,3]))
 subst F;refine Gc 3 Z (Cd [] h (UH _ _) Z λf N h=>Fg 10 Z Z (Cd [] h (UH _ _) Z λg O h=>Fg 11 Z Z ?_));refine vX (.str (map Yp f.1)) (cM (l:=f.1) (FX.row (i:=2)) EK E4 EE) ?_;refine Go 1 Z ?_;refine vX (.str (map Yp g.1)) (cM (l:=g.1) (FX.row (i:=3)) EK E4 EE) ?_;refine Go 3 Z (Cn Z h (λ_ h=>?_) (λ_ h=>?_))
 .exact QJ 7 Z h 4 []
 refine Gc 6 Z ?_;refine vX (.str (map Yp f.1)) (cM (l:=f.1) (FX.row (i:=2)) EK E4 EE) ?_;refine Go 1 Z ?_;refine vX (.str (map Yp g.1)) (cM (l:=g.1) (FX.row (i:=3)) EK E4 EE) ?_;refine vV (wy Z Z Z) ?_;refine Go 2 Z (Cn Z h (λ_ h=>?_) (λ_ h=>?_))
 .exact QJ 7 Z h 4 []
 exact QJ 8 Z h 4 []
def HI(i:AA AC)(d:(AA AC)×Int)(a:Int):AB (AG Int Int):=((bif a<(d.1.length:Int) then(AJ d.1 a).bind λe=>(AJ i d.2).bind λf=>(MT n e f).bind λg=>some (decide (g<0))else some false):AB Bool).bind λh=>(bif h then some (.k (i64.wrap (a+1)))else some (.d a))
def PO(e:AA AC)(a:(AA AC)×Int):AB (AG ((AA AC)×Int) (AA AC)):=(bif a.2<(e.length:Int) then((AJ e a.2).bind λf=>(J8 n f).bind λg=>(bif (g != 0)then some a.1 else(iter (HI n e a) n 0:AB Int).bind λd=>((bif d<(a.1.length:Int) then(AJ a.1 d).bind λh=>(AJ e a.2).bind λi=>some (h==i)else some false):AB Bool).bind λj=>(bif j then some a.1 else(CU a.1 0 d).bind λk=>(app ([]:AA AC) k).bind λl=>(AJ e a.2).bind λm=>(app l [m]).bind λp=>(CU a.1 d (a.1.length:Int)).bind λq=>(app p q).bind λr=>some r)):AB (AA AC)).bind λs=>some (.k (s,i64.wrap (a.2+1)))else some (.d a.1))
def HQ(d:AA AC):AB (AA AC):=(iter (PO n d) n (([]:AA AC),0):AB (AA AC)).bind λa=>some a
theorem Kl(R:AA AC):Kq (HQ n R) 55 [.rsl 57 (map AC.c R)] [] (λr=>.osl 0 0 r.length 57) (λr=>[.row 72 57 (map AC.c r)]):=by
 refine Kg 7 func55 Z Z Z Z λr h=>vH (Ek (xs:=[]) (es:=map AC.c []) Jf Z Z Z Z Z trivial Z Z) ?_;refine Fg 9 Z Z (Bd h λw ak h=>Cg w [0] [] (λw=>[(3,.osl 0 0 w.length 57)]) (λw=>[(0,.row 72 57 (map AC.c w))]) Zf ?_ ?_)
 .refine G0 1 Z (Lp [0] [0] (λi=>[(3,.osl 0 0 i.1.length 57),(4,I i.2)]) (λi=>[(0,.row 72 57 (map AC.c i.1))]) ak Zf (Lr [0]) λi aq s T=>?_);refine G0 5 Z (Lg 3 Z Z (Q5 Z s (λ_ s=>?_) (λ_ s=>?_)))
  .exact Gc 2 Z (Qi s (Gx 1 Z (JC T s (Lr [0]))))
  refine Gc 3 Z (Bd s λy g s=>Cg y [0] [0,4] (λy=>[(3,.osl 0 0 y.length 57)]) (λy=>[(0,.row 72 57 (map AC.c y))]) Zf ?_ ?_)
  .refine G0 6 Z (Bd g λar W g=>Iz W Z (Go 1 Z (Cz [] g (UY _ _) Z λau an g=>Go 3 Z (Cn Z g (λ_ g=>?_) (λ_ g=>?_)))))
   .exact YM 3 Z g [0]
   refine Gc 8 Z (Bd g λj al g=>Ct j [0] [0,3,4] (λj=>[(5,I j)]) Ze Zf ?_ (λenv H O=>?_))
   .refine G0 1 Z (Lp [0] [0,3,4] (λF=>[(5,I F)]) Ze al Zf (Lr [0]) λF av t Y=>?_);refine G0 2 Z (Bd t λG k t=>Ct G [0] [0,3,4,5] (λG=>[(34,.bool G)]) Ze Zf ?_ (λenv H O=>?_))
    .refine G0 0 Z (Bj 13 Z (D 5 Z (KN 4 k Z Z Z (λ_ k=>?_) (λ_ k=>?_))))
     .refine D 2 Z ?_;obtain⟨am,M,k⟩:=YE k;refine DS.v (x:=(.ptr 0 (toNat F*57))) (Qn M Z EC EF) ?_ (hg:=(gT Z));refine DS.v (x:=(.agg (AC.c am))) (Qv Z E5 EF Z (Qj M) Z Z) ?_ (hg:=(gT Z));refine D 2 Z ?_;obtain⟨f,ab,k⟩:=YE k;refine DS.v (x:=(.rp [I f.Crew,I f.No,I f.At,I f.Kind,I f.Starter.Bib,I f.Starter.Distance,I f.Starter.Wave,I f.Starter.Slot,I f.Starter.Age,I f.Starter.Chip,I f.Starter.Team,I f.Starter.Lot,I f.Read.Mat,I f.Read.Epoch,I f.Read.Chip,I f.Read.Local,I f.Beacon.Mat,I f.Beacon.Epoch,I f.Beacon.Local,I f.Beacon.True,I f.Beacon.Err,I f.Sync.MatA,I f.Sync.EpochA,I f.Sync.LocalA,I f.Sync.MatB,I f.Sync.EpochB,I f.Sync.LocalB,I f.Sync.Min,I f.Sync.Max,I f.Hand.Bib,I f.Hand.Position,I f.Hand.Lo,I f.Hand.Hi,I f.Silence.Mat,I f.Silence.Epoch,I f.Silence.Lo,I f.Silence.Hi,I f.Pair.A,I f.Pair.B,I f.Report.Case,I f.Report.Bib,I f.Report.Offence,I f.Report.Position,I f.Protest.Case,I f.Protest.By,I f.Protest.Fee,I f.Protest.Form,I f.Ruling.Case,I f.Ruling.Instance,I f.Ruling.Kind,I f.Ruling.Bib,I f.Ruling.Position,I f.Ruling.Amount,I f.Appeal.Case,.bool f.Appeal.Suspends,I f.Void.Crew,I f.Void.No])) (O5 (e:=AC.c) (l:=R) (v:=f) ab EC EF) ?_ (hg:=(gT Z));exact D 1 Z (Eg Z (Cz [] k (iM _ _ _) Z λaw ao k=>Gl 3 Z k [0]))
     .exact D 8 Z (Eg Z (Gl 4 Z k [0]))
    refine Gx 1 Z (Qd O (Q5 Z t (λ_ t=>?_) (λ_ t=>?_)))
    .exact Gc 2 Z (Qi t (Gx 1 Z (JC Y t (Lr [0]))))
    exact Gc 9 Z (Qg t (Lr [0]))
   refine Gx 1 Z (Qd O (Gc 2 Z (Bd g λJ m g=>Cg J [0] [0,3,4,5] (λJ=>[(51,.bool J)]) Ze Zf ?_ ?_)))
   .refine G0 0 Z (Bj 13 Z (D 5 Z (KN 4 m Z Z Z (λ_ m=>?_) (λ_ m=>?_))))
    .refine D 2 Z ?_;obtain⟨L,N,m⟩:=YE m;refine DS.v (x:=(.ptr 0 (toNat j*57))) (Qn N Z EC EF) ?_ (hg:=(gT Z));refine DS.v (x:=(.agg (AC.c L))) (Qv Z E5 EF Z (Qj N) Z Z) ?_ (hg:=(gT Z));refine D 2 Z ?_;obtain⟨d,af,m⟩:=YE m;refine DS.v (x:=(.rp [I d.Crew,I d.No,I d.At,I d.Kind,I d.Starter.Bib,I d.Starter.Distance,I d.Starter.Wave,I d.Starter.Slot,I d.Starter.Age,I d.Starter.Chip,I d.Starter.Team,I d.Starter.Lot,I d.Read.Mat,I d.Read.Epoch,I d.Read.Chip,I d.Read.Local,I d.Beacon.Mat,I d.Beacon.Epoch,I d.Beacon.Local,I d.Beacon.True,I d.Beacon.Err,I d.Sync.MatA,I d.Sync.EpochA,I d.Sync.LocalA,I d.Sync.MatB,I d.Sync.EpochB,I d.Sync.LocalB,I d.Sync.Min,I d.Sync.Max,I d.Hand.Bib,I d.Hand.Position,I d.Hand.Lo,I d.Hand.Hi,I d.Silence.Mat,I d.Silence.Epoch,I d.Silence.Lo,I d.Silence.Hi,I d.Pair.A,I d.Pair.B,I d.Report.Case,I d.Report.Bib,I d.Report.Offence,I d.Report.Position,I d.Protest.Case,I d.Protest.By,I d.Protest.Fee,I d.Protest.Form,I d.Ruling.Case,I d.Ruling.Instance,I d.Ruling.Kind,I d.Ruling.Bib,I d.Ruling.Position,I d.Ruling.Amount,I d.Appeal.Case,.bool d.Appeal.Suspends,I d.Void.Crew,I d.Void.No])) (O5 (e:=AC.c) (l:=R) (v:=d) af EC EF) ?_ (hg:=(gT Z));refine D 1 Z (Eg Z ?_);refine vX (.bool (L==d)) (rP (p:=L) (q:=d) jf Z Z) ?_ (gT Z);exact Gl 2 Z m [0]
    .exact D 8 Z (Eg Z (Gl 3 Z m [0]))
   refine Cn Z g (λ_ g=>?_) (λ_ g=>?_)
   .exact YM 3 Z g [0]
   refine Gc 2 Z (FC 14 [0,4,10] [(1,0,0),(0,0,1),(0,0,1),(0,0,1),(1,1,0),(0,0,2),(0,0,2),(0,0,2),(0,0,2),(0,0,2),(1,2,0),(0,0,3),(0,0,3),(0,0,3)] (by kernel_rfl) ?_);refine Ex (x:=.osl 1 0 (([]:AA AC).length) 57) (X1:=[.row 72 57 (map AC.c i.1),.row 72 57 (map AC.c ([]:AA AC))]) ?_ ?_
   .refine vH (Ek (xs:=[]) (es:=map AC.c []) Jf Z Z Z Z Z trivial Z Z) ?_;exact FE Z Wp
   refine Dk 2 Z ?_;obtain⟨ax,z,g⟩:=YE g;refine Nd (lo:=0) (hi:=1) (x:=.osl 0 (0+toNat 0) (toNat j-toNat 0) 57) ⟨?_,?_,trivial⟩ ?_
   iterate 2 refine vX (.osl 0 (0+toNat 0) (toNat j-toNat 0) 57) (Yf (l:=i.1) z EC EF (.inl ⟨Z,Z⟩) (.inr ⟨_,Z,Z⟩)) ?_;exact Wp
   obtain⟨P,ah,g⟩:=YE g;refine Ex (x:=.osl 2 0 P.length 57) (X1:=[.row 72 57 (map AC.c i.1),.dead,.row 72 57 (map AC.c P)]) ?_ ?_
   .refine vH (Qh (e:=AC.c) ah Jf EC (O1 (b:=0) z)) ?_;exact FE Z Wp
   refine Dk 2 Z ?_;obtain⟨a,E,g⟩:=YE g;refine Nd (lo:=0) (hi:=2) (x:=.rp [I a.Crew,I a.No,I a.At,I a.Kind,I a.Starter.Bib,I a.Starter.Distance,I a.Starter.Wave,I a.Starter.Slot,I a.Starter.Age,I a.Starter.Chip,I a.Starter.Team,I a.Starter.Lot,I a.Read.Mat,I a.Read.Epoch,I a.Read.Chip,I a.Read.Local,I a.Beacon.Mat,I a.Beacon.Epoch,I a.Beacon.Local,I a.Beacon.True,I a.Beacon.Err,I a.Sync.MatA,I a.Sync.EpochA,I a.Sync.LocalA,I a.Sync.MatB,I a.Sync.EpochB,I a.Sync.LocalB,I a.Sync.Min,I a.Sync.Max,I a.Hand.Bib,I a.Hand.Position,I a.Hand.Lo,I a.Hand.Hi,I a.Silence.Mat,I a.Silence.Epoch,I a.Silence.Lo,I a.Silence.Hi,I a.Pair.A,I a.Pair.B,I a.Report.Case,I a.Report.Bib,I a.Report.Offence,I a.Report.Position,I a.Protest.Case,I a.Protest.By,I a.Protest.Fee,I a.Protest.Form,I a.Ruling.Case,I a.Ruling.Instance,I a.Ruling.Kind,I a.Ruling.Bib,I a.Ruling.Position,I a.Ruling.Amount,I a.Appeal.Case,.bool a.Appeal.Suspends,I a.Void.Crew,I a.Void.No]) ⟨?_,?_,?_,trivial⟩ ?_
   iterate 3 exact Ix E EC EF Z Wp
   refine Dk 1 Z ?_;refine Nd (lo:=0) (hi:=2) (x:=.rsl 57 (map AC.c [a])) ⟨?_,?_,?_,trivial⟩ ?_
   iterate 3 refine vH (Ym (xs:=[.tmp 60]) (es:=map AC.c [a]) Jf Z Z Z Z Z ⟨Z,trivial⟩ Z Z) ?_;exact FE Z Wp
   obtain⟨Q,ai,g⟩:=YE g;refine Ex (x:=.osl 3 0 Q.length 57) (X1:=[.row 72 57 (map AC.c i.1),.dead,.dead,.row 72 57 (map AC.c Q)]) ?_ ?_
   .refine vH (Qh (e:=AC.c) ai Jf EC JR) ?_;exact FE Z Wp
   refine Dk 2 Z ?_;obtain⟨ay,u,g⟩:=YE g;refine Nd (lo:=0) (hi:=3) (x:=.osl 0 (0+toNat j) (toNat (i.1.length:Int)-toNat j) 57) ⟨?_,?_,?_,?_,trivial⟩ ?_
   iterate 4 refine vX (.osl 0 (0+toNat j) (toNat (i.1.length:Int)-toNat j) 57) (Yf (l:=i.1) u EC EF (.inr ⟨_,Z,Z⟩) (.inl ⟨Z,Z⟩)) ?_;exact Wp
   refine DK.done Z Z (Bd g λaz aj g=>?_);refine vH (Qh (e:=AC.c) aj Jf EC (O1 (b:=0) u)) ?_;exact FE Z (Gl 3 Z g [4])
  exact Gc 5 Z (Qg s (Lr [0]))
 exact QJ 7 Z h 2 [0]
def LZ(n:Nat)(d:AA Starter)(f:Int)(a:Int):AB (AG Int (AG Unit Int)):=(bif a<(d.length:Int) then(AJ d a).bind λe=>(bif (e.Bib==f)then some (.d (.d a))else some (.k (i64.wrap (a+1))))else some (.d (.k ())))
def Rl(d:AA Starter)(e:Int):AB Int:=(iter (LZ n d e) n 0:AB (AG Unit Int)).bind λf=>match f with|.k a=>(some (-1))|.d a=>some a
theorem gC(j:AA Starter)(k:Int):Ks (Rl n j k) 68 [.rsl 8 (map Starter.c j),I k] [] (λr=>I r):=by
 refine Kg 11 func68 Z Z Z Z λr h=>Bd h λm p h=>BZ (b:=m) [] [] Ze Ze Zf ?_ (λ_ l=>?_)
 .refine G0 1 Z (Lp [] [0,1] (λe=>[(5,I e)]) Ze p Zf (Lr []) λe s a d=>?_);refine G0 5 Z (Lg 3 Z Z (Q5 Z a (λ_ a=>?_) (λ_ a=>?_)))
  .exact Gc 2 Z (Qi a (Gx 1 Z (JD d a Z (Lr []))))
  refine Gc 8 Z (Bd a λt g a=>Iz g Z (Go 6 Z (Cn Z a (λ_ a=>?_) (λ_ a=>?_))))
  .refine Gc 9 Z (Qx a ?_);obtain rfl:=Oj d a;exact Gx 1 Z (Qq (Gx 1 Z (Rt h 4 [])))
  exact Gc 8 Z (Qg a (Lr []))
 subst l;exact QJ 6 Z h 4 []
def HB(n:Nat)(d:(AA Starter)×Int)(e:AC)(a:Int):AB (AG Int Int):=((bif a<(d.1.length:Int) then(AJ d.1 a).bind λf=>some (decide (f.Bib<e.Starter.Bib))else some false):AB Bool).bind λg=>(bif g then some (.k (i64.wrap (a+1)))else some (.d a))
def Lb(r:AE)(f:AA AC)(a:(AA Starter)×Int):AB (AG ((AA Starter)×Int) (AA Starter)):=(bif a.2<(f.length:Int) then((AJ f a.2).bind λd=>((AJ f a.2).bind λg=>(bif (g.Kind != 1)then some true else(bif (r.Distances.length:Int)<=d.Starter.Distance then some true else(bif (r.Waves.length:Int)<=d.Starter.Wave then some true else(Rl n a.1 d.Starter.Bib).bind λh=>some (decide (0<=h))))):AB Bool).bind λi=>(bif i then some a.1 else(iter (HB n a d) n 0:AB Int).bind λe=>(CU a.1 0 e).bind λj=>(app ([]:AA Starter) j).bind λk=>(app k [d.Starter]).bind λl=>(CU a.1 e (a.1.length:Int)).bind λm=>(app l m).bind λp=>some p):AB (AA Starter)).bind λq=>some (.k (q,i64.wrap (a.2+1)))else some (.d a.1))
def D2(n:Nat)(d:AA Starter)(e:Int)(a:Int):AB (AG Int (AG Unit (AG Int (AG Unit ((AA Starter)×Int))))):=(bif a<e then(AJ d e).bind λf=>(AJ d a).bind λg=>(bif (f.Chip==g.Chip)then some (.d (.d (.d (.d ([],180)))))else some (.k (i64.wrap (a+1))))else some (.d (.k ())))
def HE(e:AA Starter)(a:Int):AB (AG Int (AG Unit ((AA Starter)×Int))):=(bif a<(e.length:Int) then(iter (D2 n e a) n 0:AB (AG Unit (AG Int (AG Unit ((AA Starter)×Int))))).bind λf=>match f with|.k d=>(some (.k (i64.wrap (a+1))))|.d d=>some d else some (.d (.k ())))
def MN(f:AE)(h:AA AC):AB ((AA Starter)×Int):=(IH n f).bind λg=>(bif (g != 0)then some ([],g)else(HQ n h).bind λi=>(iter (Lb n f i) n (([]:AA Starter),0):AB (AA Starter)).bind λa=>(bif 4000<(a.length:Int) then some ([],2)else(iter (HE n a) n 0:AB (AG Unit ((AA Starter)×Int))).bind λe=>match e with|.k d=>(some (a,0))|.d d=>some d))
theorem iH(X:AE)(a2:AA AC):Kq (MN n X a2) 31 [.agg (AE.c X),.rsl 57 (map AC.c a2)] [] (λr=>.tup [.osl 0 0 r.1.length 8,I r.2]) (λr=>[.row 48 8 (map Starter.c r.1)]):=by
 refine Kg 10 func31 Z Z Z Z λr h=>Cz [] h (dY _ _) Z λr1 bs h=>Go 10 Z (Cn Z h (λ_ h=>?_) (λ_ h=>?_))
 .refine Gc 9 Z ?_;obtain rfl:=Oi h;refine R2 4 5 Z Z ?_;refine En (Ep (s:=4) (k:=8) (t:=48) (XP Z) Z) ?_;exact Lr [1]
 refine Gc 5 Z (Cd [] h (Kl _ _) Z λr3 bt h=>Fg 5 Z Z (vH (Ek (xs:=[]) (es:=map Starter.c []) Ni Z Z Z Z Z trivial Z Z) ?_));refine Fg 9 Z Z (Bd h λB aw h=>Ct B [2] [] (λB=>[(7,.osl 0 0 B.length 8)]) (λB=>[(0,.row 48 8 (map Starter.c B))]) Zf ?_ (λenv H q=>?_))
 .refine G0 1 Z (Lp [1,0,2] [1,2] (λa=>[(7,.osl 2 0 a.1.length 8),(8,I a.2)]) (λa=>[(2,.row 48 8 (map Starter.c a.1))]) aw Zf (Lr [1,0,2]) λa bk u ac=>?_);refine G0 9 Z (Q5 Z u (λ_ u=>?_) (λ_ u=>?_))
  .exact Gc 2 Z (Qi u (Gx 1 Z (JC ac u (Lr [2]))))
  refine Gc 3 Z (Bd u λE d u=>Ct E [0,1,2] [1,2,8] (λE=>[(7,.osl 2 0 E.length 8)]) (λE=>[(2,.row 48 8 (map Starter.c E))]) Zf ?_ (λenv H q=>?_))
  .refine G0 5 Z (Bd d λp O d=>?_);refine vX (.ptr 0 (toNat a.2*57)) (Qn O Z EC EF) ?_;refine Fp v9 Z ?_;refine vX (.agg (Starter.c p.Starter)) (Qv Z isAgg48 EP Z (Y5 (f:=4) O) Z Z) ?_;refine Go 6 Z (Bd d λM g d=>Ct M [0,1,2,3] [1,2,7,8,9] (λM=>[(60,.bool M)]) Ze Zf ?_ (λenv H q=>?_))
   .refine G0 3 Z (Bd g λax P g=>?_);refine vX (.ptr 0 (toNat a.2*57)) (Qn P Z EC EF) ?_;refine Fp oX Z ?_;refine vX (I ax.Kind) (Ez Z EH Z (Y5 (f:=3) P)) ?_;refine Go 2 Z (Is 38 g Z (λ_ g=>?_) (λ_ g=>?_))
    .exact Gl 23 Z g [0,1,2,3]
    .refine Go 4 Z (Lg 3 Z Z (Is 46 g Z (λ_ g=>?_) (λ_ g=>?_)))
     .exact Gl 15 Z g [0,1,2,3]
     .refine Go 4 Z (Lg 3 Z Z (Is 54 g Z (λ_ g=>?_) (λ_ g=>?_)))
      .exact Gl 7 Z g [0,1,2,3]
      .exact Go 3 Z (Cb g (gC _ _ _) Z (lo (ls ln)) λbl bh g=>Gl 3 Z g [0,1,2,3])
   refine Gx 1 Z (Qd q (Cn Z d (λ_ d=>?_) (λ_ d=>?_)))
   .exact YM 3 Z d [0,1,2]
   refine Gc 8 Z (Bd d λi ay d=>Ct i [0,1,2,3] [1,2,7,8,9] (λi=>[(10,I i)]) Ze Zf ?_ (λenv H q=>?_))
   .refine G0 1 Z (Lp [0,1,2,3] [1,2,7,8,9] (λF=>[(10,I F)]) Ze ay Zf (Lr [0,1,2,3]) λF bm w aj=>?_);refine G0 2 Z (Bd w λN y w=>Ct N [0,1,2,3] [1,2,7,8,9,10] (λN=>[(74,.bool N)]) Ze Zf ?_ (λenv H q=>?_))
    .refine G0 0 Z (Bj 12 Z (D 5 Z (KN 4 y Z Z Z (λ_ y=>?_) (λ_ y=>?_))))
     .refine D 2 Z ?_;obtain⟨az,Q,y⟩:=YE y;refine DS.v (x:=(.ptr 2 (toNat F*8))) (Qn Q Z EJ EP) ?_ (hg:=(gT Z));refine DS.wo (x:=.ptr 2 (toNat F*8)) ?_ ?_
      .exact Y' (gT Z) oT Z Wp
      refine DS.v (x:=(I az.Bib)) (Ez Z EH Z (Qj Q)) ?_ (hg:=(gT Z));exact D 2 Z (Eg Z (Gl 3 Z y [0,1,2,3]))
     .exact D 7 Z (Eg Z (Gl 3 Z y [0,1,2,3]))
    refine Gx 1 Z (Qd q (Q5 Z w (λ_ w=>?_) (λ_ w=>?_)))
    .exact Gc 2 Z (Qi w (Gx 1 Z (JC aj w (Lr [0,1,2,3]))))
    exact Gc 9 Z (Qg w (Lr [0,1,2,3]))
   refine Gx 1 Z (Qd q (FC 11 [0,4,7] [(1,0,0),(0,0,1),(0,0,1),(0,0,1),(1,1,0),(0,0,2),(0,0,2),(1,2,0),(0,0,3),(0,0,3),(0,0,3)] (by kernel_rfl) ?_));refine Ex (x:=.osl 4 0 (([]:AA Starter).length) 8) (X1:=[.row 72 57 (map AC.c r3),.cells 33 (AE.c X),.row 48 8 (map Starter.c a.1),.cells 48 (Starter.c p.Starter),.row 48 8 (map Starter.c ([]:AA Starter))]) ?_ ?_
   .refine vH (Ek (xs:=[]) (es:=map Starter.c []) Ni Z Z Z Z Z trivial Z Z) ?_;exact FE Z Wp
   refine Dk 2 Z ?_;obtain⟨bn,G,d⟩:=YE d;refine Nd (lo:=0) (hi:=1) (x:=.osl 2 (0+toNat 0) (toNat i-toNat 0) 8) ⟨?_,?_,trivial⟩ ?_
   iterate 2 refine vX (.osl 2 (0+toNat 0) (toNat i-toNat 0) 8) (Yf (l:=a.1) G EJ EP (.inl ⟨Z,Z⟩) (.inr ⟨_,Z,Z⟩)) ?_;exact Wp
   obtain⟨Y,am,d⟩:=YE d;refine Ex (x:=.osl 5 0 Y.length 8) (X1:=[.row 72 57 (map AC.c r3),.cells 33 (AE.c X),.row 48 8 (map Starter.c a.1),.cells 48 (Starter.c p.Starter),.dead,.row 48 8 (map Starter.c Y)]) ?_ ?_
   .refine vH (Qh (e:=Starter.c) am Ni EJ (O1 (b:=2) G)) ?_;exact FE Z Wp
   refine tU (lo:=0) (hi:=2) (x:=.agg (Starter.c p.Starter)) ⟨Z,Z,Z,trivial⟩ ?_;refine Nd (lo:=0) (hi:=2) (x:=.rsl 8 (map Starter.c [p.Starter])) ⟨?_,?_,?_,trivial⟩ ?_
   iterate 3 refine vH (Ym (xs:=[.tmp 82]) (es:=map Starter.c [p.Starter]) Ni Z Z Z Z Z ⟨Z,trivial⟩ Z Z) ?_;exact FE Z Wp
   obtain⟨aa,an,d⟩:=YE d;refine Ex (x:=.osl 6 0 aa.length 8) (X1:=[.row 72 57 (map AC.c r3),.cells 33 (AE.c X),.row 48 8 (map Starter.c a.1),.cells 48 (Starter.c p.Starter),.dead,.dead,.row 48 8 (map Starter.c aa)]) ?_ ?_
   .refine vH (Qh (e:=Starter.c) an Ni EJ JR) ?_;exact FE Z Wp
   refine Dk 2 Z ?_;obtain⟨bo,z,d⟩:=YE d;refine Nd (lo:=0) (hi:=3) (x:=.osl 2 (0+toNat i) (toNat (a.1.length:Int)-toNat i) 8) ⟨?_,?_,?_,?_,trivial⟩ ?_
   iterate 4 refine vX (.osl 2 (0+toNat i) (toNat (a.1.length:Int)-toNat i) 8) (Yf (l:=a.1) z EJ EP (.inr ⟨_,Z,Z⟩) (.inl ⟨Z,Z⟩)) ?_;exact Wp
   refine DK.done Z Z (Bd d λbp ao d=>?_);refine vH (Qh (e:=Starter.c) ao Ni EJ (O1 (b:=2) z)) ?_;exact FE Z (Gl 3 Z d [0,1,7])
  exact Gx 1 Z (Qd q (Gc 5 Z (Qg u (Lr [0,1,2]))))
 refine Gx 1 Z (Qd q (Gc 8 Z (Cn Z h (λ_ h=>?_) (λ_ h=>?_))))
 .refine Gc 8 Z ?_;obtain rfl:=Oi h;refine R2 4 5 Z Z ?_;refine En (Ep (s:=4) (k:=8) (t:=48) (XP Z) Z) ?_;exact Lr [1]
 refine Gc 8 Z (Bd h λba bb h=>BZ (b:=ba) [0] [7] Ze Ze Zf ?_ (λ_ ab=>?_))
 .refine G0 1 Z (Lp [0] [7] (λJ=>[(11,I J)]) Ze bb Zf (Lr [0]) λJ bq m R=>?_);refine G0 9 Z (Q5 Z m (λ_ m=>?_) (λ_ m=>?_))
  .exact Gc 2 Z (Qi m (Gx 1 Z (JD R m Z (Lr [0]))))
  refine Gc 9 Z (Bd m λbc bd m=>DD (b:=bc) [0] [7,11] Ze Ze Zf ?_ (λbj env H ab q=>?_))
  .refine G0 1 Z (Lp [0] [7,11] (λL=>[(12,I L)]) Ze bd Zf (Lr [0]) λL br j T=>?_);refine G0 8 Z (Q5 Z j (λ_ j=>?_) (λ_ j=>?_))
   .exact Gc 2 Z (Qi j (Gx 1 Z (JD T j Z (Lr [0]))))
   refine Gc 5 Z (Bj 10 Z (D 2 Z ?_));obtain⟨be,V,j⟩:=YE j;refine DS.v (x:=(.ptr 0 (toNat J*8))) (Qn V Z EJ EP) ?_;refine DS.wo (x:=.ptr 0 (toNat J*8+5)) ?_ ?_
   .exact Fp oV Z Wp
   refine DS.v (x:=(I be.Chip)) (Ez Z EH Z (Y5 (f:=5) V)) ?_;refine D 2 Z ?_;obtain⟨bf,W,j⟩:=YE j;refine DS.v (x:=(.ptr 0 (toNat L*8))) (Qn W Z EJ EP) ?_;refine DS.wo (x:=.ptr 0 (toNat L*8+5)) ?_ ?_
   .exact Fp oV Z Wp
   refine DS.v (x:=(I bf.Chip)) (Ez Z EH Z (Y5 (f:=5) W)) ?_;refine Eg Z (Go 3 Z (Cn Z j (λ_ j=>?_) (λ_ j=>?_)))
   .refine Gc 9 Z (Qx j ?_);obtain rfl:=Oj T j;refine Gx 1 Z (Qq (Gx 2 Z (Qx m ?_)));obtain rfl:=Oj R m;refine Gx 1 Z (Qq (Gx 1 Z ?_));obtain rfl:=Oi h;refine R2 4 5 Z Z ?_;refine En (Ep (s:=4) (k:=8) (t:=48) (XP Z) Z) ?_;exact Lr [1]
   exact Gc 8 Z (Qg j (Lr [0]))
  subst ab;exact Gx 2 Z (Qd q (Gc 5 Z (Qg m (Lr [0]))))
 subst ab;refine Gc 8 Z ?_;obtain rfl:=Oi h;exact R2 4 5 Z Z (Lr [0])
def mY(n:Nat)(d:(AA Int)×Int)(e:AC)(f:AC)(a:Int):AB (AG Int Int):=((bif a<(d.1.length:Int) then(AJ d.1 a).bind λg=>some (decide (g<(i64.wrap (e.Ruling.Case+f.Report.Case))))else some false):AB Bool).bind λh=>(bif h then some (.k (i64.wrap (a+1)))else some (.d a))
def PN(g:AA AC)(r:Int)(a:(AA Int)×Int):AB (AG ((AA Int)×Int) (AA Int)):=(bif a.2<(g.length:Int) then((AJ g a.2).bind λh=>(bif (h.Kind != r)then some a.1 else(AJ g a.2).bind λe=>(AJ g a.2).bind λf=>(iter (mY n a e f) n 0:AB Int).bind λd=>((bif d<(a.1.length:Int) then(AJ a.1 d).bind λi=>some (i==(i64.wrap (e.Ruling.Case+f.Report.Case)))else some false):AB Bool).bind λj=>(bif j then some a.1 else(CU a.1 d (a.1.length:Int)).bind λk=>(app [i64.wrap (e.Ruling.Case+f.Report.Case)] k).bind λl=>(CU a.1 0 d).bind λm=>(app m l).bind λp=>some p)):AB (AA Int)).bind λq=>some (.k (q,i64.wrap (a.2+1)))else some (.d a.1))
def I7(d:AA AC)(e:Int):AB (AA Int):=(iter (PN n d e) n (([]:AA Int),0):AB (AA Int)).bind λa=>some a
theorem UT(a1:AA AC)(a2:Int):Kq (I7 n a1 a2) 56 [.rsl 57 (map AC.c a1),I a2] [] (λr=>.osl 0 0 r.length 1) (λr=>[.row 3 1 (map (Qc .i64) r)]):=by
 refine Kg 7 func56 Z Z Z Z λr h=>vH (Ek (xs:=[]) (es:=map (Qc .i64) []) Qs Z Z Z Z Z trivial Z Z) ?_;refine Fg 9 Z Z (Bd h λs ab h=>Cg s [0] [] (λs=>[(5,.osl 0 0 s.length 1)]) (λs=>[(0,.row 3 1 (map (Qc .i64) s))]) Zf ?_ ?_)
 .refine G0 1 Z (Lp [0] [0,1] (λg=>[(5,.osl 0 0 g.1.length 1),(6,I g.2)]) (λg=>[(0,.row 3 1 (map (Qc .i64) g.1))]) ab Zf (Lr [0]) λg ag j L=>?_);refine G0 5 Z (Lg 3 Z Z (Q5 Z j (λ_ j=>?_) (λ_ j=>?_)))
  .exact Gc 2 Z (Qi j (Gx 1 Z (JC L j (Lr [0]))))
  refine Gc 3 Z (Bd j λt f j=>Cg t [0] [0,1,6] (λt=>[(5,.osl 0 0 t.length 1)]) (λt=>[(0,.row 3 1 (map (Qc .i64) t))]) Zf ?_ ?_)
  .refine G0 6 Z (Bd f λah N f=>Iz N Z (Go 6 Z (Cn Z f (λ_ f=>?_) (λ_ f=>?_))))
   .exact YM 3 Z f [0]
   refine Gc 3 Z (Bj 12 Z (D 2 Z ?_));obtain⟨a,P,f⟩:=YE f;refine DS.wo (x:=.rp [I a.Crew,I a.No,I a.At,I a.Kind,I a.Starter.Bib,I a.Starter.Distance,I a.Starter.Wave,I a.Starter.Slot,I a.Starter.Age,I a.Starter.Chip,I a.Starter.Team,I a.Starter.Lot,I a.Read.Mat,I a.Read.Epoch,I a.Read.Chip,I a.Read.Local,I a.Beacon.Mat,I a.Beacon.Epoch,I a.Beacon.Local,I a.Beacon.True,I a.Beacon.Err,I a.Sync.MatA,I a.Sync.EpochA,I a.Sync.LocalA,I a.Sync.MatB,I a.Sync.EpochB,I a.Sync.LocalB,I a.Sync.Min,I a.Sync.Max,I a.Hand.Bib,I a.Hand.Position,I a.Hand.Lo,I a.Hand.Hi,I a.Silence.Mat,I a.Silence.Epoch,I a.Silence.Lo,I a.Silence.Hi,I a.Pair.A,I a.Pair.B,I a.Report.Case,I a.Report.Bib,I a.Report.Offence,I a.Report.Position,I a.Protest.Case,I a.Protest.By,I a.Protest.Fee,I a.Protest.Form,I a.Ruling.Case,I a.Ruling.Instance,I a.Ruling.Kind,I a.Ruling.Bib,I a.Ruling.Position,I a.Ruling.Amount,I a.Appeal.Case,.bool a.Appeal.Suspends,I a.Void.Crew,I a.Void.No]) ?_ ?_
   .exact Ix P EC EF Z Wp
   refine D 5 Z ?_;obtain⟨d,Q,f⟩:=YE f;refine DS.wo (x:=.rp [I d.Crew,I d.No,I d.At,I d.Kind,I d.Starter.Bib,I d.Starter.Distance,I d.Starter.Wave,I d.Starter.Slot,I d.Starter.Age,I d.Starter.Chip,I d.Starter.Team,I d.Starter.Lot,I d.Read.Mat,I d.Read.Epoch,I d.Read.Chip,I d.Read.Local,I d.Beacon.Mat,I d.Beacon.Epoch,I d.Beacon.Local,I d.Beacon.True,I d.Beacon.Err,I d.Sync.MatA,I d.Sync.EpochA,I d.Sync.LocalA,I d.Sync.MatB,I d.Sync.EpochB,I d.Sync.LocalB,I d.Sync.Min,I d.Sync.Max,I d.Hand.Bib,I d.Hand.Position,I d.Hand.Lo,I d.Hand.Hi,I d.Silence.Mat,I d.Silence.Epoch,I d.Silence.Lo,I d.Silence.Hi,I d.Pair.A,I d.Pair.B,I d.Report.Case,I d.Report.Bib,I d.Report.Offence,I d.Report.Position,I d.Protest.Case,I d.Protest.By,I d.Protest.Fee,I d.Protest.Form,I d.Ruling.Case,I d.Ruling.Instance,I d.Ruling.Kind,I d.Ruling.Bib,I d.Ruling.Position,I d.Ruling.Amount,I d.Appeal.Case,.bool d.Appeal.Suspends,I d.Void.Crew,I d.Void.No]) ?_ ?_
   .exact Ix Q EC EF Z Wp
   refine D 3 Z (Eg Z (Go 10 Z (Bd f λm ac f=>?_)));refine Ct m [0] [0,1,5,6,7] (λm=>[(8,I m)]) Ze Zf ?_ (λenv H J=>?_)
   .refine G0 1 Z (Lp [0] [0,1,5,6,7] (λu=>[(8,I u)]) Ze ac Zf (Lr [0]) λu ai k R=>?_);refine G0 2 Z (Bd k λw p k=>Ct w [0] [0,1,5,6,7,8] (λw=>[(48,.bool w)]) Ze Zf ?_ (λenv H J=>?_))
    .refine G0 6 Z (Is 41 p Z (λ_ p=>?_) (λ_ p=>?_))
     .refine Go 2 Z (Bd p λae z p=>?_);refine vX (.ptr 0 (toNat u*1)) (Qn z Z EB EG) ?_ (gT Z);refine vX (I ae) (Ez Z EH Z (Qj z)) ?_ (gT Z);exact Gl 4 Z p [0]
     .exact Gl 8 Z p [0]
    refine Gx 1 Z (Qd J (Q5 Z k (λ_ k=>?_) (λ_ k=>?_)))
    .exact Gc 2 Z (Qi k (Gx 1 Z (JC R k (Lr [0]))))
    exact Gc 9 Z (Qg k (Lr [0]))
   refine Gx 1 Z (Qd J (Gc 2 Z (Bd f λy q f=>Cg y [0] [0,1,5,6,7,8] (λy=>[(62,.bool y)]) Ze Zf ?_ ?_)))
   .refine G0 6 Z (Is 55 q Z (λ_ q=>?_) (λ_ q=>?_))
    .refine Go 2 Z (Bd q λaf E q=>?_);refine vX (.ptr 0 (toNat m*1)) (Qn E Z EB EG) ?_ (gT Z);refine vX (I af) (Ez Z EH Z (Qj E)) ?_ (gT Z);exact Gl 4 Z q [0]
    .exact Gl 8 Z q [0]
   refine Cn Z f (λ_ f=>?_) (λ_ f=>?_)
   .exact YM 3 Z f [0]
   refine Gc 5 Z (vH (Ek (xs:=[.tmp 63]) (es:=map (Qc .i64) [i64.wrap (a.Ruling.Case+d.Report.Case)]) Qs Z Z Z Z Z ⟨Z,trivial⟩ Z Z) ?_);refine Fg 2 Z Z (Bd f λaj F f=>?_);refine vX (.osl 0 (0+toNat m) (toNat (g.1.length:Int)-toNat m) 1) (Yf (l:=g.1) F EB EG (.inr ⟨_,Z,Z⟩) (.inl ⟨Z,Z⟩)) ?_;refine Bd f λak Y f=>vH (Qh (e:=(Qc .i64)) Y Qs EB (O1 (b:=0) F)) ?_;refine Fg 7 Z Z (Bd f λal G f=>?_);refine vX (.osl 0 (0+toNat 0) (toNat m-toNat 0) 1) (kV (l:=g.1) G EB EG) ?_;refine Go 1 Z (Bd f λam aa f=>vH (kU (e:=(Qc .i64)) G aa Qs EB (QF (i:=2))) ?_);exact FE Z (Gl 3 Z f [3])
  exact Gc 5 Z (Qg j (Lr [0]))
 exact QJ 7 Z h 4 [0]
def Id(n:Nat)(e:AA AC)(l:AA Int)(d:(AA Report)×Int)(a:Int):AB (AG Int (AA Report)):=(bif a<(e.length:Int) then((AJ e a).bind λf=>(bif (f.Kind==8)then(AJ e a).bind λg=>(AJ l d.2).bind λh=>some (g.Report.Case==h)else some false):AB Bool).bind λi=>(bif i then(AJ e a).bind λj=>(app d.1 [j.Report]).bind λk=>some (.d k)else some (.k (i64.wrap (a+1))))else some (.d d.1))
def PP(f:AA AC)(e:AA Int)(a:(AA Report)×Int):AB (AG ((AA Report)×Int) (AA Report)):=(bif a.2<(e.length:Int) then(iter (Id n f e a) n 0:AB (AA Report)).bind λd=>some (.k (d,i64.wrap (a.2+1)))else some (.d a.1))
def I0(e:AA AC):AB (AA Report):=(HQ n e).bind λd=>(I7 n d 8).bind λf=>(iter (PP n d f) n (([]:AA Report),0):AB (AA Report)).bind λa=>some a
theorem UM(T:AA AC):Kq (I0 n T) 21 [.rsl 57 (map AC.c T)] [] (λr=>.osl 0 0 r.length 4) (λr=>[.row 62 4 (map Report.c r)]):=by
 refine Kg 8 func21 Z Z Z Z λr h=>Cd [] h (Kl _ _) Z λV aa h=>Fg 6 Z Z ?_;refine QB (Ji [(3,_),(9,_),(10,_)] Z Z (Aw.cons Z Eo (Aw.cons Z Eo (Aw.cons Z Eo Aw.nil))) (Ec (YL _))) ?_;refine Cd [] h (UT _ _ _) Z λr2 ab h=>Fg 5 Z Z (vH (Ek (xs:=[]) (es:=map Report.c []) WE Z Z Z Z Z trivial Z Z) ?_);refine Fg 9 Z Z (Bd h λk N h=>Cg k [1] [] (λk=>[(5,.osl 0 0 k.length 4)]) (λk=>[(0,.row 62 4 (map Report.c k))]) Zf ?_ ?_)
 .refine G0 1 Z (Lp [1,2] [3,4] (λj=>[(5,.osl 1 0 j.1.length 4),(6,I j.2)]) (λj=>[(1,.row 62 4 (map Report.c j.1))]) N Zf (Lr [1,2]) λj W g w=>?_);refine G0 9 Z (Q5 Z g (λ_ g=>?_) (λ_ g=>?_))
  .exact Gc 2 Z (Qi g (Gx 1 Z (JC w g (Lr [1]))))
  refine Gc 9 Z (Bd g λm O g=>Ct m [0,1] [3,4,6] (λm=>[(5,.osl 1 0 m.length 4)]) (λm=>[(1,.row 62 4 (map Report.c m))]) Zf ?_ (λenv H t=>?_))
  .refine G0 1 Z (Lp [0,1] [3,4,5,6] (λu=>[(7,I u)]) Ze O Zf (Lr [0,1]) λu X d q=>?_);refine G0 5 Z (Lg 3 Z Z (Q5 Z d (λ_ d=>?_) (λ_ d=>?_)))
   .exact Gc 2 Z (Qi d (Gx 1 Z (JC q d (Lr [0,1]))))
   refine Gc 5 Z (Bd d λp f d=>Ct p [0,1] [3,4,5,6,7] (λp=>[(43,.bool p)]) Ze Zf ?_ (λenv H t=>?_))
   .refine G0 0 Z (Bj 17 Z (D 2 Z ?_));obtain⟨a,E,f⟩:=YE f;refine DS.wo (x:=.rp [I a.Crew,I a.No,I a.At,I a.Kind,I a.Starter.Bib,I a.Starter.Distance,I a.Starter.Wave,I a.Starter.Slot,I a.Starter.Age,I a.Starter.Chip,I a.Starter.Team,I a.Starter.Lot,I a.Read.Mat,I a.Read.Epoch,I a.Read.Chip,I a.Read.Local,I a.Beacon.Mat,I a.Beacon.Epoch,I a.Beacon.Local,I a.Beacon.True,I a.Beacon.Err,I a.Sync.MatA,I a.Sync.EpochA,I a.Sync.LocalA,I a.Sync.MatB,I a.Sync.EpochB,I a.Sync.LocalB,I a.Sync.Min,I a.Sync.Max,I a.Hand.Bib,I a.Hand.Position,I a.Hand.Lo,I a.Hand.Hi,I a.Silence.Mat,I a.Silence.Epoch,I a.Silence.Lo,I a.Silence.Hi,I a.Pair.A,I a.Pair.B,I a.Report.Case,I a.Report.Bib,I a.Report.Offence,I a.Report.Position,I a.Protest.Case,I a.Protest.By,I a.Protest.Fee,I a.Protest.Form,I a.Ruling.Case,I a.Ruling.Instance,I a.Ruling.Kind,I a.Ruling.Bib,I a.Ruling.Position,I a.Ruling.Amount,I a.Appeal.Case,.bool a.Appeal.Suspends,I a.Void.Crew,I a.Void.No]) ?_ ?_
    .exact Ix E EC EF Z Wp
    refine D 4 Z (KN 6 f Z Z Z (λ_ f=>?_) (λ_ f=>?_))
    .refine D 2 Z ?_;obtain⟨P,G,f⟩:=YE f;refine DS.v (O5 (e:=AC.c) (l:=V) (v:=P) G EC EF) ?_ (hg:=(gT Z));refine D 5 Z ?_;obtain⟨Q,s,f⟩:=YE f;refine DS.v (x:=(.ptr 0 (toNat j.2*1))) (Qn s Z EB EG) ?_ (hg:=(gT Z));refine DS.v (x:=(I Q)) (Ez Z EH Z (Qj s)) ?_ (hg:=(gT Z));exact Eg Z (Gl 3 Z f [0,1])
    .exact D 10 Z (Eg Z (Gl 3 Z f [0,1]))
   refine Gx 1 Z (Qd t (Cn Z d (λ_ d=>?_) (λ_ d=>?_)))
   .refine Gc 5 Z (Bd d λR L d=>Iz L Z (Go 2 Z (vH (Ek (xs:=[.tmp 49]) (es:=map Report.c [R.Report]) WE Z Z Z Z Z ⟨Z,trivial⟩ Z Z) ?_)));refine FE Z (Bd d λY M d=>vH (Qh (e:=Report.c) M WE ET (QF (i:=2))) ?_);refine Fg 6 Z Z (Qi d ?_);obtain rfl:=Oj q d;exact Gx 1 Z (JE (Lr [0,3]))
   exact Gc 8 Z (Qg d (Lr [0,1]))
  exact Gx 2 Z (Qd t (Gc 5 Z (Qg g (Lr [0,1]))))
 exact QJ 7 Z h 2 [0]
def mP(n:Nat)(d:AA Int)(g:Int)(a:Int):AB (AG Int Int):=((bif a<(d.length:Int) then(AJ d a).bind λe=>some (decide (e<g))else some false):AB Bool).bind λf=>(bif f then some (.k (i64.wrap (a+1)))else some (.d a))
def I6(a:AA Int)(e:Int):AB (AA Int):=(iter (mP n a e) n 0:AB Int).bind λd=>((bif d<(a.length:Int) then(AJ a d).bind λf=>some (f==e)else some false):AB Bool).bind λg=>(bif g then some a else(CU a d (a.length:Int)).bind λh=>(app [e] h).bind λi=>(CU a 0 d).bind λj=>(app j i).bind λk=>some k)
theorem US(g:AA Int)(L:Int):Kq (I6 n g L) 22 [.osl 0 0 g.length 1,I L] [.row 3 1 (map (Qc .i64) g)] (λr=>.osl 1 0 r.length 1) (λr=>[.dead,.row 3 1 (map (Qc .i64) r)]):=by
 refine Kg 11 func22 Z Z Z Z λr h=>Bd h λj M h=>Ct j [0] [0,1] (λj=>[(5,I j)]) Ze Zf ?_ (λenv H k=>?_)
 .refine G0 1 Z (Lp [0] [0,1] (λx=>[(5,I x)]) Ze M Zf (Lr [0]) λx O a y=>?_);refine G0 2 Z (Bd a λm d a=>Ct m [0] [0,1,5] (λm=>[(18,.bool m)]) Ze Zf ?_ (λenv H k=>?_))
  .refine G0 6 Z (Is 11 d Z (λ_ d=>?_) (λ_ d=>?_))
   .refine Go 2 Z (Bd d λP p d=>?_);refine vV (Qn p Z EB EG) ?_ (gT Z);refine vV (Ez Z EH Z (Qj p)) ?_ (gT Z);exact Gl 4 Z d [0]
   .exact Gl 8 Z d [0]
  refine Gx 1 Z (Qd k (Q5 Z a (λ_ a=>?_) (λ_ a=>?_)))
  .exact Gc 2 Z (Qi a (Gx 1 Z (JC y a (Lr [0]))))
  exact Gc 9 Z (Qg a (Lr [0]))
 refine Gx 1 Z (Qd k (Gc 2 Z (Bd h λq f h=>Cg q [0] [0,1,5] (λq=>[(32,.bool q)]) Ze Zf ?_ ?_)))
 .refine G0 6 Z (Is 25 f Z (λ_ f=>?_) (λ_ f=>?_))
  .refine Go 2 Z (Bd f λN t f=>?_);refine vV (Qn t Z EB EG) ?_ (gT Z);refine vX (I N) (Ez Z EH Z (Qj t)) ?_ (gT Z);exact Gl 4 Z f [0]
  .exact Gl 8 Z f [0]
 refine Cn Z h (λ_ h=>?_) (λ_ h=>?_)
 .refine Gc 8 Z ?_;obtain rfl:=Oi h;refine R1 4 Z ?_;refine En (rN (s:=4) (i:=0) Z Z Z) ?_;exact Lr [0,1]
 refine Gc 5 Z (vH (Ek (xs:=[.tmp 34]) Qs Z Z Z Z Z ⟨Z,trivial⟩ Z Z) ?_);refine Fg 2 Z Z (Bd h λQ u h=>?_);refine vV (Yf (l:=g) u EB EG (.inr ⟨_,Z,Z⟩) (.inl ⟨Z,Z⟩)) ?_;refine Bd h λR G h=>vH (Qh (e:=(Qc .i64)) G Qs EB (O1 (b:=0) u)) ?_;refine Fg 8 Z Z (Bd h λT w h=>?_);refine vV (kV (l:=g) w EB EG) ?_;refine Go 1 Z (Bd h λV J h=>vH (kU (e:=(Qc .i64)) w J Qs EB (QF (i:=2))) ?_);exact FE Z (Gt 4 Z h 4 [0,3])
def Px(n:Nat)(d:AA AC)(i:Int)(j:Int)(a:Int):AB (AG Int (AG Unit Int)):=(bif a<(d.length:Int) then((AJ d a).bind λe=>(bif (e.Kind==10)then(AJ d a).bind λf=>(bif (f.Ruling.Case==i)then(AJ d a).bind λg=>some (g.Ruling.Instance==j)else some false)else some false):AB Bool).bind λh=>(bif h then some (.d (.d a))else some (.k (i64.wrap (a+1))))else some (.d (.k ())))
def HO(e:AA AC)(f:Int)(g:Int):AB Int:=(iter (Px n e f g) n 0:AB (AG Unit Int)).bind λd=>match d with|.k a=>(some (-1))|.d a=>some a
theorem Kj(s:AA AC)(t:Int)(u:Int):Ks (HO n s t u) 133 [.rsl 57 (map AC.c s),I t,I u] [] (λr=>I r):=by
 refine Kg 11 func133 Z Z Z Z λr h=>Bd h λw x h=>BZ (b:=w) [] [] Ze Ze Zf ?_ (λ_ y=>?_)
 .refine G0 1 Z (Lp [] [0,1,2] (λg=>[(7,I g)]) Ze x Zf (Lr []) λg B d e=>(G0 5 Z (Lg 3 Z Z (Q5 Z d (λ_ d=>?_) (λ_ d=>?_)))))
  .exact Gc 2 Z (Qi d (Gx 1 Z (JD e d Z (Lr []))))
  refine Gc 5 Z (Bd d λf a d=>Cg f [] [0,1,2,7] (λf=>[(39,.bool f)]) Ze Zf ?_ ?_)
  .refine G0 3 Z (Bd a λE j a=>Iz j Z (Go 4 Z (Is 20 a Z (λ_ a=>?_) (λ_ a=>?_))))
   .refine Go 2 Z (Bd a λF l a=>Iz l Z (Go 7 Z (Is 30 a Z (λ_ a=>?_) (λ_ a=>?_))))
    .exact Go 2 Z (Bd a λG p a=>Iz p Z (Gl 7 Z a []))
    .exact Gl 10 Z a []
   .exact Gl 20 Z a []
  refine Cn Z d (λ_ d=>?_) (λ_ d=>?_)
  .refine Gc 9 Z (Qx d ?_);obtain rfl:=Oj e d;exact Gx 1 Z (Qq (Gx 1 Z (Rt h 6 [])))
  exact Gc 8 Z (Qg d (Lr []))
 subst y;exact QJ 6 Z h 6 []
def PS(n:Nat)(d:AA AC)(i:Int)(a:Int):AB (AG Int (AG Unit Bool)):=(bif a<(d.length:Int) then((AJ d a).bind λe=>(bif (e.Kind==11)then(AJ d a).bind λf=>(bif (f.Appeal.Case==i)then(AJ d a).bind λg=>some g.Appeal.Suspends else some false)else some false):AB Bool).bind λh=>(bif h then some (.d (.d true))else some (.k (i64.wrap (a+1))))else some (.d (.k ())))
def Mt(d:AA AC)(e:Int):AB Bool:=((HO n d e 1).bind λg=>(bif g<0 then some true else(HO n d e 2).bind λh=>some (decide (0<=h))):AB Bool).bind λi=>(bif i then some false else(iter (PS n d e) n 0:AB (AG Unit Bool)).bind λf=>match f with|.k a=>(some false)|.d a=>some a)
theorem ir(u:AA AC)(w:Int):Ks (Mt n u w) 132 [.rsl 57 (map AC.c u),I w] [] (λr=>.bool r):=by
 refine Kg 7 func132 Z Z Z Z λr h=>Bd h λj e h=>Ct j [] [0,1] (λj=>[(15,.bool j)]) Ze Zf ?_ (λenv H x=>?_)
 .refine G0 3 Z (Cz [] e (Kj _ _ _ _) Z λQ J e=>Go 2 Z (Is 10 e Z (λ_ e=>?_) (λ_ e=>?_)))
  .exact Gl 6 Z e []
  .exact Go 2 Z (Cz [] e (Kj _ _ _ _) Z λR L e=>Gl 3 Z e [])
 refine Gx 1 Z (Qd x (Cn Z h (λ_ h=>?_) (λ_ h=>?_)))
 .exact QJ 7 Z h 4 []
 refine Gc 8 Z (Bd h λB E h=>BZ (b:=B) [] [] Ze Ze Zf ?_ (λ_ F=>?_))
 .refine G0 1 Z (Lp [] [0,1] (λi=>[(5,I i)]) Ze E Zf (Lr []) λi M d f=>(G0 5 Z (Lg 3 Z Z (Q5 Z d (λ_ d=>?_) (λ_ d=>?_)))))
  .exact Gc 2 Z (Qi d (Gx 1 Z (JD f d Z (Lr []))))
  refine Gc 5 Z (Bd d λg a d=>Cg g [] [0,1,5] (λg=>[(45,.bool g)]) Ze Zf ?_ ?_)
  .refine G0 3 Z (Bd a λN l a=>Iz l Z (Go 4 Z (Is 28 a Z (λ_ a=>?_) (λ_ a=>?_))))
   .refine Go 2 Z (Bd a λO p a=>Iz p Z (Go 7 Z (Is 38 a Z (λ_ a=>?_) (λ_ a=>?_))))
    .exact Go 2 Z (Bd a λP s a=>Iz s Z (Gl 5 Z a []))
    .exact Gl 8 Z a []
   .exact Gl 18 Z a []
  refine Cn Z d (λ_ d=>?_) (λ_ d=>?_)
  .refine Gc 8 Z (Qx d ?_);obtain rfl:=Oj f d;exact Gx 1 Z (Qq (Gx 1 Z (Rt h 4 [])))
  exact Gc 8 Z (Qg d (Lr []))
 subst F;exact QJ 6 Z h 4 []
def I1(a:AA AC)(d:Int):AB Int:=(Mt n a d).bind λf=>(bif f then some (-1)else(HO n a d 2).bind λe=>(bif 0<=e then some e else(HO n a d 1).bind λg=>some g))
theorem UN(a:AA AC)(d:Int):Ks (I1 n a d) 57 [.rsl 57 (map AC.c a),I d] [] (λr=>I r):=by
 refine Kg 10 func57 Z Z Z Z λr h=>Cz [] h (ir _ _ _) Z λk g h=>Go 2 Z (Cn Z h (λ_ h=>?_) (λ_ h=>?_))
 .exact QJ 7 Z h 4 []
 refine Gc 6 Z (Cz [] h (Kj _ _ _ _) Z λl i h=>Go 10 Z (Cn Z h (λ_ h=>?_) (λ_ h=>?_)))
 .exact QJ 8 Z h 4 []
 exact Gc 6 Z (Cz [] h (Kj _ _ _ _) Z λm j h=>Gt 4 Z h 4 [])
def Pv(e:AA AC)(f:AA Int)(a:(AA Ruling)×Int):AB (AG ((AA Ruling)×Int) (AA Ruling)):=(bif a.2<(f.length:Int) then(AJ f a.2).bind λg=>(I1 n e g).bind λd=>((bif 0<=d then(AJ e d).bind λh=>(app a.1 [h.Ruling]).bind λi=>some i else some a.1):AB (AA Ruling)).bind λj=>some (.k (j,i64.wrap (a.2+1)))else some (.d a.1))
def Me(e:AA AC):AB (AA Ruling):=(HQ n e).bind λa=>(I7 n a 10).bind λf=>(iter (Pv n a f) n (([]:AA Ruling),0):AB (AA Ruling)).bind λd=>some d
theorem iX(t:AA AC):Kq (Me n t) 23 [.rsl 57 (map AC.c t)] [] (λr=>.osl 0 0 r.length 6) (λr=>[.row 66 6 (map Ruling.c r)]):=by
 refine Kg 8 func23 Z Z Z Z λr h=>Cd [] h (Kl _ _) Z λL y h=>Fg 6 Z Z ?_;refine QB (Ji [(3,_),(9,_),(10,_)] Z Z (Aw.cons Z Eo (Aw.cons Z Eo (Aw.cons Z Eo Aw.nil))) (Ec (YL _))) (Cd [] h (UT _ _ _) Z λM z h=>Fg 5 Z Z (vH (Ek (xs:=[]) WG Z Z Z Z Z trivial Z Z) ?_));refine Fg 9 Z Z (Bd h λf u h=>Cg f [1] [] (λf=>[(5,.osl 0 0 f.length 6)]) (λf=>[(0,.row 66 6 (map Ruling.c f))]) Zf ?_ ?_)
 .refine G0 1 Z (Lp [1,2] [3,4] (λg=>[(5,.osl 1 0 g.1.length 6),(6,I g.2)]) (λg=>[(1,.row 66 6 (map Ruling.c g.1))]) u Zf (Lr [1,2]) λg B a l=>?_);refine G0 9 Z (Q5 Z a (λ_ a=>?_) (λ_ a=>?_))
  .exact Gc 2 Z (Qi a (Gx 1 Z (JC l a (Lr [1]))))
  refine Gc 9 Z (Bd a λE k a=>(vV (Qn k Z EB EG) ?_));refine vV (Ez Z EH Z (Qj k)) ?_;refine Cz [] a (UN _ _ _) Z λF x a=>Go 9 Z (Bd a λj d a=>Ct j [0,0] [3,4,6] (λj=>[(5,.osl 1 0 j.length 6)]) (λj=>[(1,.row 66 6 (map Ruling.c j))]) Zf ?_ (λenv H w=>?_))
  .refine G0 0 Z (Cn Z d (λ_ d=>?_) (λ_ d=>?_))
   .refine Gc 4 Z (Bd d λG q d=>Iz q Z (Go 2 Z (vH (Ek (xs:=[.tmp 32]) WG Z Z Z Z Z ⟨Z,trivial⟩ Z Z) ?_)));refine FE Z (Bd d λJ s d=>vH (Qh (e:=Ruling.c) s WG Gp (QF (i:=2))) ?_);exact FE Z (Gl 2 Z d [0,3])
   exact YM 1 Z d [0,1]
  exact Gx 2 Z (Qd w (Gc 5 Z (Qg a (Lr [0,1]))))
 exact QJ 7 Z h 2 [0]
def Mm(e:AA AC)(f:Int):AB (Ruling×Bool):=(HQ n e).bind λa=>(I1 n a f).bind λd=>(bif d<0 then some (Ux,false)else(AJ a d).bind λg=>some (g.Ruling,true))
theorem ij(d:AA AC)(e:Int):Kq (Mm n d e) 58 [.rsl 57 (map AC.c d),I e] [] (λr=>.tup [.agg (Ruling.c r.1),.bool r.2]) (λr=>[.cells 66 (Ruling.c r.1)]):=by
 refine Kg 9 func58 Z Z Z Z λr h=>Cd [] h (Kl _ _) Z λj g h=>Fg 7 Z Z (Cb h (UN _ _ _) Z (lo (ls ln)) λk i h=>Go 10 Z (Cn Z h (λ_ h=>?_) (λ_ h=>?_)))
 .refine Gc 9 Z ?_;obtain rfl:=Oi h;exact Rx [0] [4,5] Z (Qo Z Z (Aa.cons (Qk GB E7 Z Z Z) (Aa.cons BT.tmp Aa.nil))) ⟨Z,Z⟩
 refine Gc 6 Z (Bd h λl a h=>(vV (Qn a Z EC EF) ?_));refine Fp Nl Z (vV (Qv Z GB E7 Z (Y5 a) Z Z) ?_);refine Go 5 Z ?_;obtain rfl:=Oi h;exact Rx [0] [4,5] Z (Qo Z Z (Aa.cons (Qk GB E7 Z Z Z) (Aa.cons BT.tmp Aa.nil))) ⟨Z,Z⟩
end Go.Sw
