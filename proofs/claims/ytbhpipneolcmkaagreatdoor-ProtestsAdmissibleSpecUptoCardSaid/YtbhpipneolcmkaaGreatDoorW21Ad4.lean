/- What the functions compute that ProtestsAdmissibleSpec reaches, and that their calls refine it (part 4 of 5). -/
import Derived.Test.YtbhpipneolcmkaaGreatDoorW21Ad3
set_option linter.unusedVariables false
set_option linter.unusedSimpArgs false
set_option maxRecDepth 100000
set_option maxHeartbeats 4000000
namespace Go.Sw
open List(map)
open Int(toNat)
open Go.IntKind(i64 u64 u8)
open Go.Proofs Tryz
def F_n(n:Nat)(a:Course)(d:Int):Option Bool:=(F_c n d 0 (i64.wrap ((a.Mats.length:Int)-1))).bind λe=>some e
theorem k_n(n:Nat)(a:Course)(d:Int):Ks (F_n n a d) 130 [.agg (Course.c a),I d] [] (λr=>.bool r):=by
 exact Kg 11 func130 Z Z Z Z λr h=>Lg 1 Z Z (Cz [] h (k_c _ _ _ _) Z λf e h=>Gt 4 Z h 4 [])
def F_kk(n:Nat)(e:Course)(f:List Part)(rec235:Course->(List Part)->Option Bool)(d:Int):Option (Ctl Int (Ctl Unit Bool)):=(bif decide (d<(f.length:Int))then(idx f d).bind λa=>((bif (a.Laps==0)then(F_n n e a.Mat).bind λg=>(bif g then some ((a.Parts.length:Int)==0)else some false)else some false):Option Bool).bind λh=>((F_c n a.Laps 1 64).bind λi=>(bif i then(bif (a.Mat==0)then(bif decide (0<(a.Parts.length:Int))then(rec235 e a.Parts).bind λj=>some j else some false)else some false)else some false):Option Bool).bind λk=>((bif (!h)then some (!k)else some false):Option Bool).bind λl=>(bif l then some (.done (.done false))else some (.cont (i64.wrap (d+1))))else some (.done (.cont ())))
def B_ac(rec235:Course->(List Part)->Option Bool)(n:Nat)(e:Course)(f:List Part):Option Bool:=(iter (F_kk n e f rec235) n 0:Option (Ctl Unit Bool)).bind λd=>match d with|.cont a=>(some true)|.done a=>some a
theorem Qa0(rec235:Course->(List Part)->Option Bool)(g:∀(i:Course) (j:List Part) (r:Bool),rec235 i j=some r->Csm prog 189 [.agg (Course.c i),.rsl 3 (map Part.enc j)] [] (λr=>.bool r) r)(n:Nat)(i:Course)(j:List Part)(r:Bool)(h:B_ac rec235 n i j=some r):Csm prog 189 [.agg (Course.c i),.rsl 3 (map Part.enc j)] [] (λr=>.bool r) r:=by
 refine QF func189 Z Z Z ?_;refine G0 12 Z (Bd h λG J h=>CgE (b:=G) [] [] Ze Ze Zf ?_ (λN L=>?_))
 .refine G0 1 Z (Lp [0] [1,2] (λs=>[(5,I s)]) Ze J Zf (Lr [0]) λs R a k=>?_);refine G0 5 Z (Lg 3 Z Z (Yd Z a (λt a=>?_) (λt a=>?_)))
  .exact Gc 2 Z (Qh a (Gx 1 Z (JB k a Z (Lr []))))
  refine Gc 8 Z (Bd a λM u a=>IzE u (Yb M) Z (Go 6 Z (Bd a λl e a=>Ct l [0,1] [1,2,5,6] (λl=>[(7,.bool l)]) Ze Zf ?_ (λenv H m=>?_))))
  .refine G0 5 Z (Is 22 e Z (λw e=>?_) (λw e=>?_))
   .refine Go 3 Z (Cz [] e (k_n _ _ _) Z λT O e=>Go 2 Z (Is 28 e Z (λx e=>?_) (λx e=>?_)))
    .exact Go 2 Z (Lm Z (Gl 4 Z e [0,1]))
    .exact Gl 7 Z e [0,1]
   .exact Gl 13 Z e [0,1]
  refine Gx 1 Z (Qd m (Gc 1 Z (Bd a λp d a=>Ct p [0] [1,2,5,7] (λp=>[(8,.bool p)]) Ze Zf ?_ (λenv H m=>?_))))
  .refine G0 3 Z (Cz [] d (k_c _ _ _ _) Z λV P d=>Go 1 Z (Is 37 d Z (λy d=>?_) (λy d=>?_)))
   .refine Go 5 Z (Is 42 d Z (λz d=>?_) (λz d=>?_))
    .refine Go 2 Z (Lg 3 Z Z (Is 48 d Z (λB d=>?_) (λB d=>?_)))
     .exact Go 3 Z (Cz [] d (g _ _) Z λW Q d=>Gl 3 Z d [0])
     .exact Gl 7 Z d [0]
    .exact Gl 13 Z d [0]
   .exact Gl 18 Z d [0]
  refine Gx 1 Z (Qd m (Gc 1 Z (Bd a λq f a=>Cg q [0] [1,2,5] (λq=>[(59,.bool q)]) Ze Zf ?_ ?_)))
  .refine G0 4 Z (Is 56 f Z (λE f=>?_) (λE f=>?_))
   iterate 2 exact Gl 4 Z f [0]
  refine Cn Z a (λF a=>?_) (λF a=>?_)
  .refine Gc 8 Z (Qw a ?_);obtain rfl:=Oj k a;exact Gx 1 Z (Qq (Gx 1 Z (Rt h 4 [])))
  exact Gc 8 Z (Qf a (Lr [0]))
 subst L;exact QG 6 Z h 4 []
def F_ac:Nat->Course->(List Part)->Option Bool
  |0=>λ_ _=>none
  |n+1=>B_ac (F_ac n) n
theorem k_ac(n:Nat):∀(a:Course) (d:List Part) (r:Bool),F_ac n a d=some r->Csm prog 189 [.agg (Course.c a),.rsl 3 (map Part.enc d)] [] (λr=>.bool r) r:=by
  induction n with
  |zero=>intro a d r h;cases h
  |succ n ih=>intro a d r h;exact Qa0 _ ih n a d r h
def F_jw(n:Nat)(i:Course)(e:Distance)(a:Int):Option (Ctl Int (Ctl Unit Bool)):=(bif decide (a<(e.Cutoffs.length:Int))then(idx e.Cutoffs a).bind λd=>((F_n n i d.Mat).bind λf=>(bif (!f)then some true else(bif decide (d.Lap<1)then some true else(F_c n d.Limit 0 1099511627776).bind λg=>some (!g))):Option Bool).bind λh=>(bif h then some (.done (.done false))else some (.cont (i64.wrap (a+1))))else some (.done (.cont ())))
def F_gv(n:Nat)(e:Course)(a:Distance):Option Bool:=(iter (F_jw n e a) n 0:Option (Ctl Unit Bool)).bind λf=>match f with|.cont d=>(((F_c n a.Timing 1 3).bind λg=>(bif g then(F_ac n e a.Route).bind λh=>(bif h then(bif (a.Extra==(-1))then some true else(F_n n e a.Extra).bind λi=>some i)else some false)else some false):Option Bool).bind λj=>some j)|.done d=>some d
theorem k_gv(n:Nat)(x:Course)(y:Distance):Ks (F_gv n x y) 131 [.agg (Course.c x),.agg (Distance.c y)] [] (λr=>.bool r):=by
 refine Kg 13 func131 Z Z Z Z λr h=>Bd h λz B h=>CtE (b:=z) [0,1] [2,3] Ze Ze Zf ?_ (λF env H E f=>?_)
 .refine G0 1 Z (Lp [0,1] [2,3] (λk=>[(5,I k)]) Ze B Zf (Lr [0,1]) λk O d g=>?_);refine G0 6 Z (Lg 3 Z Z (Yd Z d (λl d=>?_) (λl d=>?_)))
  .exact Gc 2 Z (Qh d (Gx 1 Z (JB g d Z (Lr [0,1]))))
  refine Gc 9 Z (Bd d λP m d=>Iz m Z (Go 6 Z (Bd d λi e d=>Ct i [0,1] [2,3,5] (λi=>[(34,.bool i)]) Ze Zf ?_ (λenv H f=>?_))))
  .refine G0 4 Z (Cz [] e (k_n _ _ _) Z λQ G e=>Go 2 Z (Is 24 e Z (λp e=>?_) (λp e=>?_)))
   .exact Gl 11 Z e [0,1]
   .refine Go 5 Z (Is 29 e Z (λq e=>?_) (λq e=>?_))
    .exact Gl 6 Z e [0,1]
    .exact Go 2 Z (Cz [] e (k_c _ _ _ _) Z λR J e=>Gl 3 Z e [0,1])
  refine Gx 1 Z (Qd f (Cn Z d (λs d=>?_) (λs d=>?_)))
  .refine Gc 8 Z (Qw d ?_);obtain rfl:=Oj g d;exact Gx 1 Z (Qq (Gx 1 Z (Rt h 4 [])))
  exact Gc 8 Z (Qf d (Lr [0,1]))
 subst E;refine Gx 1 Z (Qd f (Gc 1 Z (Bd h λj a h=>Cg j [] [] (λj=>[(4,.bool j)]) Ze Zf ?_ ?_)))
 .refine G0 3 Z (Cz [] a (k_c _ _ _ _) Z λT L a=>Go 1 Z (Is 38 a Z (λt a=>?_) (λt a=>?_)))
  .refine Go 3 Z (Cz [] a (k_ac _ _ _) Z λV M a=>Go 2 Z (Is 44 a Z (λu a=>?_) (λu a=>?_)))
   .refine Go 4 Z (Is 48 a Z (λw a=>?_) (λw a=>?_))
    .exact Gl 8 Z a []
    .exact Go 3 Z (Cz [] a (k_n _ _ _) Z λW N a=>Gl 4 Z a [])
   .exact Gl 12 Z a []
  .exact Gl 18 Z a []
 exact QG 1 Z h 4 []
def F_in(n:Nat)(d:Course)(a:Int):Option (Ctl Int (Ctl Unit Bool)):=(bif decide (a<(d.Mats.length:Int))then(idx d.Mats a).bind λe=>(F_c n e.Kind 1 3).bind λf=>(bif (!f)then some (.done (.done false))else some (.cont (i64.wrap (a+1))))else some (.done (.cont ())))
def F_gg(n:Nat)(i:Course)(e:Int)(d:Leg)(a:Int):Option (Ctl Int (Ctl Unit (Ctl Int (Ctl Unit Bool)))):=(bif decide (a<e)then((idx i.Legs a).bind λf=>(bif (f.From==d.From)then(idx i.Legs a).bind λg=>some (g.To==d.To)else some false):Option Bool).bind λh=>(bif h then some (.done (.done (.done (.done false))))else some (.cont (i64.wrap (a+1))))else some (.done (.cont ())))
def F_dz(n:Nat)(f:Course)(d:Int):Option (Ctl Int (Ctl Unit Bool)):=(bif decide (d<(f.Legs.length:Int))then(idx f.Legs d).bind λa=>((F_n n f a.From).bind λg=>(bif (!g)then some true else(F_n n f a.To).bind λh=>(bif (!h)then some true else(bif decide (a.Min<0)then some true else(bif decide (a.Max<a.Min)then some true else some (decide (68719476736<a.Max)))))):Option Bool).bind λi=>(bif i then some (.done (.done false))else(iter (F_gg n f d a) n 0:Option (Ctl Unit (Ctl Int (Ctl Unit Bool)))).bind λj=>match j with|.cont e=>(some (.cont (i64.wrap (d+1))))|.done e=>some e)else some (.done (.cont ())))
def F_ik(n:Nat)(d:Course)(a:Int):Option (Ctl Int (Ctl Unit Bool)):=(bif decide (a<(d.Distances.length:Int))then(idx d.Distances a).bind λe=>(F_gv n d e).bind λf=>(bif (!f)then some (.done (.done false))else some (.cont (i64.wrap (a+1))))else some (.done (.cont ())))
def F_jb(n:Nat)(f:Course)(a:Int):Option (Ctl Int (Ctl Unit Bool)):=(bif decide (a<(f.Waves.length:Int))then(idx f.Waves a).bind λd=>(F_c n d.Gun 0 1099511627776).bind λe=>(bif (!e)then some (.done (.done false))else some (.cont (i64.wrap (a+1))))else some (.done (.cont ())))
def F_ja(n:Nat)(k:Course)(d:Int):Option (Ctl Int (Ctl Unit Bool)):=(bif decide (d<(k.Offences.length:Int))then(idx k.Offences d).bind λa=>((F_c n a.Time 0 68719476736).bind λe=>(bif e then(bif (a.Laps==0)then some (!a.Out)else some false)else some false):Option Bool).bind λf=>((bif (a.Time==0)then(F_c n a.Laps 1 64).bind λg=>(bif g then some (!a.Out)else some false)else some false):Option Bool).bind λh=>((bif (a.Time==0)then(bif (a.Laps==0)then some a.Out else some false)else some false):Option Bool).bind λi=>((bif (!f)then(bif (!h)then some (!i)else some false)else some false):Option Bool).bind λj=>(bif j then some (.done (.done false))else some (.cont (i64.wrap (d+1))))else some (.done (.cont ())))
def F_iu(n:Nat)(f:Course)(d:Int):Option (Ctl Int (Ctl Unit Bool)):=(bif decide (d<(f.Categories.length:Int))then(idx f.Categories d).bind λa=>((bif decide (a.From<0)then some true else(bif decide (a.To<a.From)then some true else some (decide (120<a.To)))):Option Bool).bind λe=>(bif e then some (.done (.done false))else some (.cont (i64.wrap (d+1))))else some (.done (.cont ())))
def F_hh(n:Nat)(h:Course)(f:Int)(a:Prize)(d:Int):Option (Ctl Int (Ctl Unit (Ctl Int (Ctl Unit Bool)))):=(bif decide (d<f)then(idx h.Prizes d).bind λe=>((bif (e.Distance==a.Distance)then(bif (e.Category==a.Category)then some (e.Rank==a.Rank)else some false)else some false):Option Bool).bind λg=>(bif g then some (.done (.done (.done (.done false))))else some (.cont (i64.wrap (d+1))))else some (.done (.cont ())))
def F_cx(n:Nat)(f:Course)(d:Int):Option (Ctl Int (Ctl Unit Bool)):=(bif decide (d<(f.Prizes.length:Int))then(idx f.Prizes d).bind λa=>((F_c n a.Distance 0 (i64.wrap ((f.Distances.length:Int)-1))).bind λg=>(bif (!g)then some true else(F_c n a.Category (-1) (i64.wrap ((f.Categories.length:Int)-1))).bind λh=>(bif (!h)then some true else(F_c n a.Rank 1 4000).bind λi=>(bif (!i)then some true else(F_c n a.Amount 1 1125899906842624).bind λj=>some (!j)))):Option Bool).bind λk=>(bif k then some (.done (.done false))else(iter (F_hh n f d a) n 0:Option (Ctl Unit (Ctl Int (Ctl Unit Bool)))).bind λl=>match l with|.cont e=>(some (.cont (i64.wrap (d+1))))|.done e=>some e)else some (.done (.cont ())))
def F_eh(n:Nat)(a:Course):Option Bool:=(iter (F_in n a) n 0:Option (Ctl Unit Bool)).bind λB=>match B with|.cont i=>((iter (F_dz n a) n 0:Option (Ctl Unit Bool)).bind λE=>match E with|.cont j=>((iter (F_ik n a) n 0:Option (Ctl Unit Bool)).bind λk=>match k with|.cont d=>((iter (F_jb n a) n 0:Option (Ctl Unit Bool)).bind λl=>match l with|.cont e=>((iter (F_ja n a) n 0:Option (Ctl Unit Bool)).bind λm=>match m with|.cont f=>((iter (F_iu n a) n 0:Option (Ctl Unit Bool)).bind λp=>match p with|.cont g=>((iter (F_cx n a) n 0:Option (Ctl Unit Bool)).bind λq=>match q with|.cont h=>(((F_c n a.Faults.Misses 0 16).bind λr=>(bif r then(F_c n a.Faults.Strays 0 16).bind λs=>(bif s then(F_c n a.Faults.Window 0 4294967296).bind λt=>(bif t then(F_c n a.Faults.Residual 0 4294967296).bind λu=>(bif u then(F_c n a.Faults.Drift 0 100000).bind λw=>(bif w then(F_c n a.Fee 0 1125899906842624).bind λx=>(bif x then(F_c n a.Deadline 0 1099511627776).bind λy=>some y else some false)else some false)else some false)else some false)else some false)else some false):Option Bool).bind λz=>some z)|.done h=>some h)|.done g=>some g)|.done f=>some f)|.done e=>some e)|.done d=>some d)|.done j=>some j)|.done i=>some i
theorem k_eh(n:Nat)(a1:Course):Ks (F_eh n a1) 61 [.agg (Course.c a1)] [] (λr=>.bool r):=by
 refine Kg 12 func61 Z Z Z Z λr h=>Bd h λds dt h=>CtE (b:=ds) [0] [1] Ze Ze Zf ?_ (λew env H u d=>?_)
 .refine G0 1 Z (Lp [0] [1] (λcw=>[(3,I cw)]) Ze dt Zf (Lr [0]) λcw gk w ak=>?_);refine G0 6 Z (Lg 3 Z Z (Yd Z w (λcx w=>?_) (λcx w=>?_)))
  .exact Gc 2 Z (Qh w (Gx 1 Z (JB ak w Z (Lr [0]))))
  refine Gc 9 Z (Bd w λgl cy w=>Iz cy Z (Go 2 Z (Cz [] w (k_c _ _ _ _) Z λgm ey w=>Go 3 Z (Cn Z w (λcz w=>?_) (λcz w=>?_)))))
  .refine Gc 8 Z (Qw w ?_);obtain rfl:=Oj ak w;exact Gx 1 Z (Qq (Gx 1 Z (Rt h 2 [])))
  exact Gc 8 Z (Qf w (Lr [0]))
 subst u;refine Gx 1 Z (Qd d (Gc 6 Z (Bd h λdu da h=>CtE (b:=du) [0] [1] Ze Ze Zf ?_ (λez env H u d=>?_))))
 .refine G0 1 Z (Lp [0] [1] (λal=>[(4,I al)]) Ze da Zf (Lr [0]) λal fa j N=>?_);refine G0 6 Z (Lg 3 Z Z (Yd Z j (λaw j=>?_) (λaw j=>?_)))
  .exact Gc 2 Z (Qh j (Gx 1 Z (JB N j Z (Lr [0]))))
  refine Gc 9 Z (Bd j λfc ax j=>Iz ax Z (Go 7 Z (Bd j λQ f j=>Ct Q [0,1] [1,4,5] (λQ=>[(76,.bool Q)]) Ze Zf ?_ (λenv H d=>?_))))
  .refine G0 4 Z (Cz [] f (k_n _ _ _) Z λfd dv f=>Go 2 Z (Is 53 f Z (λay f=>?_) (λay f=>?_)))
   .exact Gl 24 Z f [0,1]
   .refine Go 3 Z (Cz [] f (k_n _ _ _) Z λfe dw f=>Go 3 Z (Is 60 f Z (λaz f=>?_) (λaz f=>?_)))
    .exact Gl 17 Z f [0,1]
    .refine Go 5 Z (Is 65 f Z (λba f=>?_) (λba f=>?_))
     .exact Gl 12 Z f [0,1]
     .refine Go 7 Z (Is 72 f Z (λbb f=>?_) (λbb f=>?_))
      iterate 2 exact Gl 5 Z f [0,1]
  refine Gx 1 Z (Qd d (Cn Z j (λbc j=>?_) (λbc j=>?_)))
  .refine Gc 9 Z (Qw j ?_);obtain rfl:=Oj N j;exact Gx 1 Z (Qq (Gx 1 Z (Rt h 2 [])))
  refine Gc 7 Z (Bd j λdb dc j=>CtE (b:=db) [0] [1,4] Ze Ze Zf ?_ (λdx env H u d=>?_))
  .refine G0 1 Z (Lp [0,1] [1,4,5] (λam=>[(6,I am)]) Ze dc Zf (Lr [0,1]) λam fg t ae=>?_);refine G0 8 Z (Yd Z t (λbd t=>?_) (λbd t=>?_))
   .exact Gc 2 Z (Qh t (Gx 1 Z (JB ae t Z (Lr [0]))))
   refine Gc 5 Z (Bd t λR B t=>Ct R [0,1] [1,4,5,6] (λR=>[(101,.bool R)]) Ze Zf ?_ (λenv H d=>?_))
   .refine G0 0 Z (DSs 18 Z (D 3 Z ?_));obtain⟨O,be,B⟩:=YB B;refine DS.wo (x:=.rp [I O.From,I O.To,I O.Min,I O.Max]) ?_ ?_
    .exact Ix be GA sizeOf113 Z Wp
    refine D 6 Z (QbE 9 B Z Z Z (λbf B=>?_) (λbf B=>?_))
    .refine D 3 Z ?_;obtain⟨L,bg,B⟩:=YB B;refine DS.v (x:=(.rp [I L.From,I L.To,I L.Min,I L.Max])) (QcL (e:=Leg.c) (l:=a1.Legs) (v:=L) bg GA sizeOf113) ?_ (hg:=(gT Z));exact D 4 Z (Eg Z (Gl 3 Z B [0,1]))
    .exact D 8 Z (Eg Z (Gl 3 Z B [0,1]))
   refine Gx 1 Z (Qd d (Cn Z t (λbh t=>?_) (λbh t=>?_)))
   .refine Gc 8 Z (Qw t ?_);obtain rfl:=Oj ae t;refine Gx 1 Z (Qq (Gx 2 Z (Qw j ?_)));obtain rfl:=Oj N j;exact Gx 1 Z (Qq (Gx 1 Z (Rt h 2 [])))
   exact Gc 8 Z (Qf t (Lr [0,1]))
  subst u;exact Gx 2 Z (Qd d (Gc 5 Z (Qf j (Lr [0]))))
 subst u;refine Gx 1 Z (Qd d (Gc 6 Z (Bd h λde df h=>CtE (b:=de) [0] [1] Ze Ze Zf ?_ (λdy env H u d=>?_))))
 .refine G0 1 Z (Lp [0] [1] (λan=>[(7,I an)]) Ze df Zf (Lr [0]) λan fh m af=>?_);refine G0 6 Z (Lg 3 Z Z (Yd Z m (λbi m=>?_) (λbi m=>?_)))
  .exact Gc 2 Z (Qh m (Gx 1 Z (JB af m Z (Lr [0]))))
  refine Gc 5 Z (DSs 6 Z (D 4 Z ?_));obtain⟨M,bj,m⟩:=YB m;refine DS.wo (x:=.rp [.str M.Name,.rsl 3 (map Part.enc M.Route),I M.Timing,.rsl 3 (map Cutoff.c M.Cutoffs),I M.Extra]) ?_ ?_
  .exact Ix bj GB sizeOf77 Z Wp
  refine D 1 Z (Eg Z (Cz [] m (k_gv _ _ _) Z λfi dz m=>Go 3 Z (Cn Z m (λbk m=>?_) (λbk m=>?_))))
  .refine Gc 8 Z (Qw m ?_);obtain rfl:=Oj af m;exact Gx 1 Z (Qq (Gx 1 Z (Rt h 2 [])))
  exact Gc 8 Z (Qf m (Lr [0]))
 subst u;refine Gx 1 Z (Qd d (Gc 6 Z (Bd h λdg dh h=>CtE (b:=dg) [0] [1] Ze Ze Zf ?_ (λea env H u d=>?_))))
 .refine G0 1 Z (Lp [0] [1] (λao=>[(8,I ao)]) Ze dh Zf (Lr [0]) λao fj p ag=>?_);refine G0 6 Z (Lg 3 Z Z (Yd Z p (λbl p=>?_) (λbl p=>?_)))
  .exact Gc 2 Z (Qh p (Gx 1 Z (JB ag p Z (Lr [0]))))
  refine Gc 9 Z (Bd p λfk bm p=>Iz bm Z (Go 2 Z (Cz [] p (k_c _ _ _ _) Z λfm eb p=>Go 3 Z (Cn Z p (λbn p=>?_) (λbn p=>?_)))))
  .refine Gc 8 Z (Qw p ?_);obtain rfl:=Oj ag p;exact Gx 1 Z (Qq (Gx 1 Z (Rt h 2 [])))
  exact Gc 8 Z (Qf p (Lr [0]))
 subst u;refine Gx 1 Z (Qd d (Gc 6 Z (Bd h λdi dj h=>CtE (b:=di) [0] [1] Ze Ze Zf ?_ (λec env H u d=>?_))))
 .refine G0 1 Z (Lp [0] [1] (λaq=>[(9,I aq)]) Ze dj Zf (Lr [0]) λaq fo g ah=>?_);refine G0 6 Z (Lg 3 Z Z (Yd Z g (λbo g=>?_) (λbo g=>?_)))
  .exact Gc 2 Z (Qh g (Gx 1 Z (JB ah g Z (Lr [0]))))
  refine Gc 9 Z (Bd g λfp bp g=>Iz bp Z (Go 6 Z (Bd g λT y g=>Ct T [0,1] [1,9,10] (λT=>[(11,.bool T)]) Ze Zf ?_ (λenv H d=>?_))))
  .refine G0 3 Z (Cz [] y (k_c _ _ _ _) Z λfq ed y=>Go 1 Z (Is 147 y Z (λbq y=>?_) (λbq y=>?_)))
   .refine Go 5 Z (Is 152 y Z (λbr y=>?_) (λbr y=>?_))
    iterate 2 exact Gl 6 Z y [0,1]
   .exact Gl 11 Z y [0,1]
  refine Gx 1 Z (Qd d (Gc 1 Z (Bd g λV z g=>Ct V [0,1] [1,9,10,11] (λV=>[(12,.bool V)]) Ze Zf ?_ (λenv H d=>?_))))
  .refine G0 5 Z (Is 160 z Z (λbs z=>?_) (λbs z=>?_))
   .refine Go 2 Z (Cz [] z (k_c _ _ _ _) Z λfr ee z=>Go 2 Z (Is 165 z Z (λbt z=>?_) (λbt z=>?_)))
    iterate 2 exact Gl 6 Z z [0,1]
   .exact Gl 11 Z z [0,1]
  refine Gx 1 Z (Qd d (Gc 1 Z (Bd g λW E g=>Ct W [0] [1,9,11,12] (λW=>[(13,.bool W)]) Ze Zf ?_ (λenv H d=>?_))))
  .refine G0 5 Z (Is 173 E Z (λbu E=>?_) (λbu E=>?_))
   .refine Go 5 Z (Is 178 E Z (λbv E=>?_) (λbv E=>?_))
    iterate 2 exact Gl 5 Z E [0]
   .exact Gl 10 Z E [0]
  refine Gx 1 Z (Qd d (Gc 1 Z (Bd g λX F g=>Ct X [0] [1,9] (λX=>[(191,.bool X)]) Ze Zf ?_ (λenv H d=>?_))))
  .refine G0 4 Z (Is 184 F Z (λbw F=>?_) (λbw F=>?_))
   .refine Go 4 Z (Is 188 F Z (λbx F=>?_) (λbx F=>?_))
    iterate 2 exact Gl 4 Z F [0]
   .exact Gl 8 Z F [0]
  refine Gx 1 Z (Qd d (Cn Z g (λbz g=>?_) (λbz g=>?_)))
  .refine Gc 8 Z (Qw g ?_);obtain rfl:=Oj ah g;exact Gx 1 Z (Qq (Gx 1 Z (Rt h 2 [])))
  exact Gc 8 Z (Qf g (Lr [0]))
 subst u;refine Gx 1 Z (Qd d (Gc 6 Z (Bd h λdk dm h=>CtE (b:=dk) [0] [1] Ze Ze Zf ?_ (λef env H u d=>?_))))
 .refine G0 1 Z (Lp [0] [1] (λar=>[(14,I ar)]) Ze dm Zf (Lr [0]) λar fs q ai=>?_);refine G0 6 Z (Lg 3 Z Z (Yd Z q (λca q=>?_) (λca q=>?_)))
  .exact Gc 2 Z (Qh q (Gx 1 Z (JB ai q Z (Lr [0]))))
  refine Gc 9 Z (Bd q λft cb q=>Iz cb Z (Go 6 Z (Bd q λY G q=>Ct Y [0] [1,14] (λY=>[(218,.bool Y)]) Ze Zf ?_ (λenv H d=>?_))))
  .refine G0 5 Z (Is 207 G Z (λcc G=>?_) (λcc G=>?_))
   .exact Gl 12 Z G [0]
   .refine Go 7 Z (Is 214 G Z (λcd G=>?_) (λcd G=>?_))
    iterate 2 exact Gl 5 Z G [0]
  refine Gx 1 Z (Qd d (Cn Z q (λce q=>?_) (λce q=>?_)))
  .refine Gc 8 Z (Qw q ?_);obtain rfl:=Oj ai q;exact Gx 1 Z (Qq (Gx 1 Z (Rt h 2 [])))
  exact Gc 8 Z (Qf q (Lr [0]))
 subst u;refine Gx 1 Z (Qd d (Gc 6 Z (Bd h λdn dp h=>CtE (b:=dn) [0] [1] Ze Ze Zf ?_ (λeg env H u d=>?_))))
 .refine G0 1 Z (Lp [0] [1] (λau=>[(16,I au)]) Ze dp Zf (Lr [0]) λau fu k P=>?_);refine G0 6 Z (Lg 3 Z Z (Yd Z k (λcf k=>?_) (λcf k=>?_)))
  .exact Gc 2 Z (Qh k (Gx 1 Z (JB P k Z (Lr [0]))))
  refine Gc 9 Z (Bd k λfv cg k=>Iz cg Z (Go 7 Z (Bd k λaa i k=>Ct aa [0,1] [1,16,17] (λaa=>[(260,.bool aa)]) Ze Zf ?_ (λenv H d=>?_))))
  .refine G0 5 Z (Lg 1 Z Z (Cz [] i (k_c _ _ _ _) Z λfw eh i=>Go 2 Z (Is 239 i Z (λch i=>?_) (λch i=>?_))))
   .exact Gl 22 Z i [0,1]
   .refine Go 4 Z (Lg 1 Z Z (Cz [] i (k_c _ _ _ _) Z λfx ei i=>Go 3 Z (Is 249 i Z (λci i=>?_) (λci i=>?_))))
    .exact Gl 12 Z i [0,1]
    .refine Go 2 Z (Cz [] i (k_c _ _ _ _) Z λfy ej i=>Go 3 Z (Is 255 i Z (λcj i=>?_) (λcj i=>?_)))
     .exact Gl 6 Z i [0,1]
     .exact Go 2 Z (Cz [] i (k_c _ _ _ _) Z λga ek i=>Gl 3 Z i [0,1])
  refine Gx 1 Z (Qd d (Cn Z k (λck k=>?_) (λck k=>?_)))
  .refine Gc 9 Z (Qw k ?_);obtain rfl:=Oj P k;exact Gx 1 Z (Qq (Gx 1 Z (Rt h 2 [])))
  refine Gc 7 Z (Bd k λdq dr k=>CtE (b:=dq) [0] [1,16] Ze Ze Zf ?_ (λel env H u d=>?_))
  .refine G0 1 Z (Lp [0,1] [1,16,17] (λav=>[(18,I av)]) Ze dr Zf (Lr [0,1]) λav gb s aj=>?_);refine G0 8 Z (Yd Z s (λcl s=>?_) (λcl s=>?_))
   .exact Gc 2 Z (Qh s (Gx 1 Z (JB aj s Z (Lr [0]))))
   refine Gc 9 Z (Bd s λgc cm s=>Iz cm Z (Go 6 Z (Bd s λab J s=>Ct ab [0,1] [1,16,17,18] (λab=>[(289,.bool ab)]) Ze Zf ?_ (λenv H d=>?_))))
   .refine G0 7 Z (Is 276 J Z (λcn J=>?_) (λcn J=>?_))
    .refine Go 7 Z (Is 283 J Z (λco J=>?_) (λco J=>?_))
     iterate 2 exact Gl 7 Z J [0,1]
    .exact Gl 14 Z J [0,1]
   refine Gx 1 Z (Qd d (Cn Z s (λcp s=>?_) (λcp s=>?_)))
   .refine Gc 8 Z (Qw s ?_);obtain rfl:=Oj aj s;refine Gx 1 Z (Qq (Gx 2 Z (Qw k ?_)));obtain rfl:=Oj P k;exact Gx 1 Z (Qq (Gx 1 Z (Rt h 2 [])))
   exact Gc 8 Z (Qf s (Lr [0,1]))
  subst u;exact Gx 2 Z (Qd d (Gc 5 Z (Qf k (Lr [0]))))
 subst u;refine Gx 1 Z (Qd d (Gc 9 Z (Bd h λac a h=>Cg ac [] [] (λac=>[(2,.bool ac)]) Ze Zf ?_ ?_)))
 .refine G0 3 Z (Cz [] a (k_c _ _ _ _) Z λgd em a=>Go 1 Z (Is 295 a Z (λcq a=>?_) (λcq a=>?_)))
  .refine Go 2 Z (Cz [] a (k_c _ _ _ _) Z λge en a=>Go 2 Z (Is 300 a Z (λcr a=>?_) (λcr a=>?_)))
   .refine Go 2 Z (Cz [] a (k_c _ _ _ _) Z λgf eo a=>Go 2 Z (Is 305 a Z (λcs a=>?_) (λcs a=>?_)))
    .refine Go 2 Z (Cz [] a (k_c _ _ _ _) Z λgg ep a=>Go 2 Z (Is 310 a Z (λct a=>?_) (λct a=>?_)))
     .refine Go 2 Z (Cz [] a (k_c _ _ _ _) Z λgh es a=>Go 2 Z (Is 315 a Z (λcu a=>?_) (λcu a=>?_)))
      .refine Go 2 Z (Cz [] a (k_c _ _ _ _) Z λgi et a=>Go 2 Z (Is 320 a Z (λcv a=>?_) (λcv a=>?_)))
       .exact Go 2 Z (Cz [] a (k_c _ _ _ _) Z λgj eu a=>Gl 3 Z a [])
       .exact Gl 6 Z a []
      .exact Gl 11 Z a []
     .exact Gl 16 Z a []
    .exact Gl 21 Z a []
   .exact Gl 26 Z a []
  .exact Gl 31 Z a []
 exact QG 1 Z h 2 []
def F_bs(n:Nat)(a:Cond):Option Bool:=((bif (a.Kind==0)then(bif (a.Var==0)then(bif (a.N==0)then some ((a.Parts.length:Int)==0)else some false)else some false)else some false):Option Bool).bind λd=>some d
theorem k_bs(n:Nat)(e:Cond):Ks (F_bs n e) 190 [.agg (Cond.c e)] [] (λr=>.bool r):=by
 refine Kg 7 func190 Z Z Z Z λr h=>Bd h λd a h=>Cg d [] [] (λd=>[(2,.bool d)]) Ze Zf ?_ ?_
 .refine G0 5 Z (Is 6 a Z (λf a=>?_) (λf a=>?_))
  .refine Go 5 Z (Is 11 a Z (λg a=>?_) (λg a=>?_))
   .refine Go 5 Z (Is 16 a Z (λi a=>?_) (λi a=>?_))
    .exact Go 2 Z (Lm Z (Gl 4 Z a []))
    .exact Gl 7 Z a []
   .exact Gl 12 Z a []
  .exact Gl 17 Z a []
 exact QG 1 Z h 2 []
def F_hq(n:Nat)(d:Cond)(h:Int)(rec239:Cond->Int->Option Int)(a:Int×Int):Option (Ctl (Int×Int) Int):=((bif decide (a.2<(d.Parts.length:Int))then some (decide (a.1<=256))else some false):Option Bool).bind λe=>(bif e then(idx d.Parts a.2).bind λf=>(rec239 f (i64.wrap (h+1))).bind λg=>some (.cont (i64.wrap (a.1+g),i64.wrap (a.2+1)))else some (.done a.1))
def B_l(rec239:Cond->Int->Option Int)(n:Nat)(e:Cond)(a:Int):Option Int:=(bif decide (16<a)then some 1000 else(iter (F_hq n e a rec239) n (1,0):Option Int).bind λd=>some d)
theorem Qam(rec239:Cond->Int->Option Int)(e:∀(f:Cond) (g:Int) (r:Int),rec239 f g=some r->Csm prog 191 [.agg (Cond.c f),I g] [] (λr=>I r) r)(n:Nat)(f:Cond)(g:Int)(r:Int)(h:B_l rec239 n f g=some r):Csm prog 191 [.agg (Cond.c f),I g] [] (λr=>I r) r:=by
 refine QF func191 Z Z Z ?_;refine G0 13 Z (Cn Z h (λs h=>?_) (λs h=>?_))
 .exact QG 7 Z h 4 []
 refine Gc 13 Z (Bd h λi t h=>Cg i [] [] (λi=>[(5,I i)]) Ze Zf ?_ ?_)
 .refine G0 1 Z (Lp [0] [1,2] (λj=>[(5,I j.1),(6,I j.2)]) Ze t Zf (Lr [0]) λj x a l=>?_);refine G0 2 Z (Bd a λk d a=>Cg k [0] [1,2,5,6] (λk=>[(17,.bool k)]) Ze Zf ?_ ?_)
  .refine G0 4 Z (Lg 2 Z Z (Is 14 d Z (λm d=>?_) (λm d=>?_)))
   iterate 2 exact Gl 4 Z d [0]
  refine Yd Z a (λp a=>?_) (λp a=>?_)
  .exact Gc 2 Z (Qh a (Gx 1 Z (cQo l a (Lr []))))
  exact Gc 9 Z (Bd a λu q a=>IzE q (Jw u) Z (Go 3 Z (Cz [] a (e _ _) Z λy w a=>Go 10 Z (Qf a (Lr [0])))))
 exact QG 7 Z h 4 []
def F_l:Nat->Cond->Int->Option Int
  |0=>λ_ _=>none
  |n+1=>B_l (F_l n) n
theorem k_l(n:Nat):∀(a:Cond) (d:Int) (r:Int),F_l n a d=some r->Csm prog 191 [.agg (Cond.c a),I d] [] (λr=>I r) r:=by
  induction n with
  |zero=>intro a d r h;cases h
  |succ n ih=>intro a d r h;exact Qam _ ih n a d r h
def F_fn(n:Nat)(d:List Step)(g:Int)(rec237:(List Step)->Int->Option (Int×Int))(a:Int×Int×Int):Option (Ctl (Int×Int×Int) (Int×Int)):=((bif decide (a.2.2<(d.length:Int))then(bif decide (a.1<=64)then some (decide (a.2.1<=256))else some false)else some false):Option Bool).bind λh=>(bif h then(idx d a.2.2).bind λi=>(rec237 i.Then (i64.wrap (g+1))).bind λe=>(idx d a.2.2).bind λj=>(rec237 j.Else (i64.wrap (g+1))).bind λf=>(idx d a.2.2).bind λk=>(F_bs n k.Cond).bind λl=>((bif (!l)then(idx d a.2.2).bind λm=>(F_l n m.Cond 0).bind λp=>some (i64.wrap ((i64.wrap ((i64.wrap (a.2.1+e.2))+f.2))+p))else some (i64.wrap ((i64.wrap (a.2.1+e.2))+f.2))):Option Int).bind λq=>some (.cont (i64.wrap ((i64.wrap ((i64.wrap (a.1+1))+e.1))+f.1),q,i64.wrap (a.2.2+1)))else some (.done (a.1,a.2.1)))
def B_y(rec237:(List Step)->Int->Option (Int×Int))(n:Nat)(d:List Step)(e:Int):Option (Int×Int):=((bif decide (0<(d.length:Int))then some (decide (16<e))else some false):Option Bool).bind λb2=>(bif b2 then some (1000,1000)else(iter (F_fn n d e rec237) n (0,0,0):Option (Int×Int)).bind λa=>some (a.1,a.2))
theorem Qbr(rec237:(List Step)->Int->Option (Int×Int))(f:∀(k:List Step) (l:Int) (r:Int×Int),rec237 k l=some r->Csm prog 132 [.rsl 8 (map Step.enc k),I l] [] (λr=>.tup [I r.1,I r.2]) r)(n:Nat)(k:List Step)(l:Int)(r:Int×Int)(h:B_y rec237 n k l=some r):Csm prog 132 [.rsl 8 (map Step.enc k),I l] [] (λr=>.tup [I r.1,I r.2]) r:=by
 refine QF func132 Z Z Z ?_;refine G0 8 Z (Bd h λb2 m h=>Ct b2 [] [0,1] (λb2=>[(19,.bool b2)]) Ze Zf ?_ (λenv H g=>?_))
 .refine G0 2 Z (Lg 2 Z Z (Is 16 m Z (λF m=>?_) (λF m=>?_)))
  iterate 2 exact Gl 4 Z m []
 refine Gx 1 Z (Qd g (Cn Z h (λG h=>?_) (λG h=>?_)))
 .refine Gc 8 Z ?_;obtain rfl:=Oi h;exact R2 4 5 Z Z (Lr [])
 refine Gc 18 Z (Bd h λi J h=>Cg i [] [] (λi=>[(6,I i.1),(7,I i.2)]) Ze Zf ?_ ?_)
 .refine G0 1 Z (Lp [] [0,1] (λj=>[(6,I j.1),(7,I j.2.1),(8,I j.2.2)]) Ze J Zf (Lr []) λj V a s=>?_);refine G0 2 Z (Bd a λp d a=>Ct p [] [0,1,6,7,8] (λp=>[(31,.bool p)]) Ze Zf ?_ (λenv H g=>?_))
  .refine G0 3 Z (Lg 2 Z Z (Is 24 d Z (λt d=>?_) (λt d=>?_)))
   .refine Go 4 Z (Is 28 d Z (λu d=>?_) (λu d=>?_))
    iterate 2 exact Gl 4 Z d []
   .exact Gl 8 Z d []
  refine Gx 1 Z (Qd g (Yd Z a (λw a=>?_) (λw a=>?_)))
  .exact Gc 2 Z (Qh a (Gx 1 Z (cQo s a (Lr []))))
  refine Gc 8 Z (Bd a λL x a=>IzE x (Yq L) Z (Go 4 Z (Cd [] a (f _ _) Z λW P a=>Fg 11 Z Z (Bd a λM y a=>IzE y (Yq M) Z (Go 4 Z (Cd [] a (f _ _) Z λX Q a=>Fg 32 Z Z (Bd a λN z a=>IzE z (Yq N) Z (Go 2 Z (Cz [] a (k_bs _ _) Z λY R a=>Go 3 Z (Bd a λq e a=>Ct q [] [0,1,6,8] (λq=>[(7,I q)]) Ze Zf ?_ (λenv H g=>?_)))))))))))
  .refine G0 0 Z (Cn Z e (λB e=>?_) (λB e=>?_))
   .exact Gc 4 Z (Bd e λO E e=>IzE E (Yq O) Z (Go 2 Z (Cz [] e (k_l _ _ _) Z λaa T e=>Gl 3 Z e [])))
   exact YC 1 Z e []
  exact Gx 2 Z (Qd g (Gc 5 Z (Qf a (Lr []))))
 refine Gc 9 Z ?_;obtain rfl:=Oi h;exact R2 4 5 Z Z (Lr [])
def F_y:Nat->(List Step)->Int->Option (Int×Int)
  |0=>λ_ _=>none
  |n+1=>B_y (F_y n) n
theorem k_y(n:Nat):∀(a:List Step) (d:Int) (r:Int×Int),F_y n a d=some r->Csm prog 132 [.rsl 8 (map Step.enc a),I d] [] (λr=>.tup [I r.1,I r.2]) r:=by
  induction n with
  |zero=>intro a d r h;cases h
  |succ n ih=>intro a d r h;exact Qbr _ ih n a d r h
def F_gf(n:Nat)(d:Cond)(rec242:Cond->Option Bool)(a:Int):Option (Ctl Int (Ctl Unit Bool)):=(bif decide (a<(d.Parts.length:Int))then(idx d.Parts a).bind λe=>(rec242 e).bind λf=>(bif (!f)then some (.done (.done false))else some (.cont (i64.wrap (a+1))))else some (.done (.cont ())))
def B_af(rec242:Cond->Option Bool)(n:Nat)(a:Cond):Option Bool:=(bif (a.Kind==1)then((bif decide (1<=a.Var)then(bif decide (a.Var<=3)then(bif decide (0<=a.N)then(bif decide (a.N<=10000)then some ((a.Parts.length:Int)==0)else some false)else some false)else some false)else some false):Option Bool).bind λk=>some k else((bif (a.Kind==2)then some (a.Kind==2)else some (a.Kind==3)):Option Bool).bind λf=>((bif f then((bif decide ((a.Parts.length:Int)<1)then some true else some (decide (16<(a.Parts.length:Int)))):Option Bool).bind λg=>(bif g then some (.done false)else some (.cont ()))else(bif (a.Kind==4)then(bif ((a.Parts.length:Int) != 1)then some (.done false)else some (.cont ()))else some (.done false))):Option (Ctl Unit Bool)).bind λh=>match h with|.cont d=>(((bif (a.Var != 0)then some true else some (a.N != 0)):Option Bool).bind λi=>(bif i then some false else(iter (F_gf n a rec242) n 0:Option (Ctl Unit Bool)).bind λj=>match j with|.cont e=>(some true)|.done e=>some e))|.done d=>some d)
theorem Qbf(rec242:Cond->Option Bool)(k:∀(l:Cond) (r:Bool),rec242 l=some r->Csm prog 234 [.agg (Cond.c l)] [] (λr=>.bool r) r)(n:Nat)(l:Cond)(r:Bool)(h:B_af rec242 n l=some r):Csm prog 234 [.agg (Cond.c l)] [] (λr=>.bool r) r:=by
 refine QF func234 Z Z Z ?_;refine G0 20 Z (Cn Z h (λP h=>?_) (λP h=>?_))
 .refine Gc 1 Z (Bd h λu e h=>Ct u [] [] (λu=>[(2,.bool u)]) Ze Zf ?_ (λenv H f=>?_))
  .refine G0 5 Z (Is 11 e Z (λQ e=>?_) (λQ e=>?_))
   .refine Go 5 Z (Is 16 e Z (λR e=>?_) (λR e=>?_))
    .refine Go 5 Z (Is 21 e Z (λw e=>?_) (λw e=>?_))
     .refine Go 5 Z (Is 26 e Z (λx e=>?_) (λx e=>?_))
      .exact Go 2 Z (Lm Z (Gl 4 Z e []))
      .exact Gl 7 Z e []
     .exact Gl 12 Z e []
    .exact Gl 17 Z e []
   .exact Gl 22 Z e []
  exact Gx 1 Z (Qd f (QG 3 Z h 2 []))
 refine Gc 7 Z (Bd h λm g h=>Ct m [0] [1,5] (λm=>[(32,.bool m)]) Ze Zf ?_ (λenv H f=>?_))
 .refine G0 0 Z (Cn Z g (λy g=>?_) (λy g=>?_))
  .exact YC 1 Z g [0]
  exact YC 4 Z g [0]
 refine Gx 1 Z (Qd f (Bd h λT a h=>CtE (b:=T) [0] [1] Ze Ze Zf ?_ (λaa env H hb f=>?_)))
 .refine G0 0 Z (Cn Z a (λz a=>?_) (λz a=>?_))
  .refine Gc 1 Z (Bd a λp i a=>Ct p [0] [1] (λp=>[(44,.bool p)]) Ze Zf ?_ (λenv H f=>?_))
   .refine G0 3 Z (Lg 2 Z Z (Is 39 i Z (λB i=>?_) (λB i=>?_)))
    .exact Gl 6 Z i [0]
    .exact Go 2 Z (Lm Z (Gl 3 Z i [0]))
   refine Gx 1 Z (Qd f (Cn Z a (λE a=>?_) (λE a=>?_)))
   .refine Gc 6 Z ?_;cases a;exact Qq (Gx 2 Z (Rt h 2 []))
   refine Gc 1 Z ?_;cases a;exact Y3 Z (Lr [0])
  refine Gc 6 Z (Yd Z a (λF a=>?_) (λF a=>?_))
  .refine Gc 6 Z ?_;cases a;exact Qq (Gx 2 Z (Rt h 2 []))
  refine Gc 4 Z (Lg 3 Z Z (Cn Z a (λG a=>?_) (λG a=>?_)))
  .refine Gc 6 Z ?_;cases a;exact Qq (Gx 2 Z (Rt h 2 []))
  refine Gc 1 Z ?_;cases a;exact Y3 Z (Lr [0])
 subst hb;refine Gx 2 Z (Qd f (Gc 2 Z (Bd h λq j h=>Ct q [0] [1] (λq=>[(58,.bool q)]) Ze Zf ?_ (λenv H f=>?_))))
 .refine G0 5 Z (Is 54 j Z (λJ j=>?_) (λJ j=>?_))
  iterate 2 exact Gl 5 Z j [0]
 refine Gx 1 Z (Qd f (Cn Z h (λL h=>?_) (λL h=>?_)))
 .exact QG 7 Z h 2 []
 refine Gc 8 Z (Bd h λV W h=>CgE (b:=V) [] [] Ze Ze Zf ?_ (λab X=>?_))
 .refine G0 1 Z (Lp [0] [1] (λt=>[(3,I t)]) Ze W Zf (Lr [0]) λt ae d s=>?_);refine G0 6 Z (Lg 3 Z Z (Yd Z d (λM d=>?_) (λM d=>?_)))
  .exact Gc 2 Z (Qh d (Gx 1 Z (JB s d Z (Lr []))))
  refine Gc 9 Z (Bd d λY N d=>IzE N (Jw Y) Z (Go 1 Z (Cz [] d (k _) Z λaf ac d=>Go 3 Z (Cn Z d (λO d=>?_) (λO d=>?_)))))
  .refine Gc 8 Z (Qw d ?_);obtain rfl:=Oj s d;exact Gx 1 Z (Qq (Gx 1 Z (Rt h 2 [])))
  exact Gc 8 Z (Qf d (Lr [0]))
 subst X;exact QG 6 Z h 2 []
def F_af:Nat->Cond->Option Bool
  |0=>λ_=>none
  |n+1=>B_af (F_af n) n
theorem k_af(n:Nat):∀(a:Cond) (r:Bool),F_af n a=some r->Csm prog 234 [.agg (Cond.c a)] [] (λr=>.bool r) r:=by
  induction n with
  |zero=>intro a r h;cases h
  |succ n ih=>intro a r h;exact Qbf _ ih n a r h
def F_cu(n:Nat)(a:Cond):Option Int:=(F_l n a 0).bind λd=>(bif decide (256<d)then some 2 else(F_af n a).bind λe=>(bif (!e)then some 71 else some 0))
theorem k_cu(n:Nat)(a:Cond):Ks (F_cu n a) 192 [.agg (Cond.c a)] [] (λr=>I r):=by
 refine Kg 10 func192 Z Z Z Z λr h=>Cz [] h (k_l _ _ _) Z λi f h=>Go 3 Z (Cn Z h (λd h=>?_) (λd h=>?_))
 .exact QG 7 Z h 2 []
 refine Gc 6 Z (Cz [] h (k_af _ _) Z λj g h=>Go 3 Z (Cn Z h (λe h=>?_) (λe h=>?_)))
 .exact QG 7 Z h 2 []
 exact QG 8 Z h 2 []
def F_kb(n:Nat)(m:List Step)(rec240:(List Step)->Option Bool)(d:Int):Option (Ctl Int (Ctl Unit Bool)):=(bif decide (d<(m.length:Int))then(idx m d).bind λa=>((bif (a.Kind==1)then((bif decide (a.By<1)then some true else(bif decide (5<a.By)then some true else(F_bs n a.Cond).bind λf=>(bif (!f)then some true else(bif ((a.Then.length:Int) != 0)then some true else some ((a.Else.length:Int) != 0))))):Option Bool).bind λg=>(bif g then some (.done (.done (.done false)))else some (.cont ()))else(bif (a.Kind==2)then((bif (a.By != 0)then some true else(F_cu n a.Cond).bind λh=>(bif (h != 0)then some true else(bif ((a.Then.length:Int)==0)then some true else(rec240 a.Then).bind λi=>(bif (!i)then some true else(rec240 a.Else).bind λj=>some (!j))))):Option Bool).bind λk=>(bif k then some (.done (.done (.done false)))else some (.cont ()))else some (.done (.done (.done false))))):Option (Ctl Unit (Ctl Int (Ctl Unit Bool)))).bind λl=>match l with|.cont e=>(some (.cont (i64.wrap (d+1))))|.done e=>some e else some (.done (.cont ())))
def B_i(rec240:(List Step)->Option Bool)(n:Nat)(e:List Step):Option Bool:=(iter (F_kb n e rec240) n 0:Option (Ctl Unit Bool)).bind λd=>match d with|.cont a=>(some true)|.done a=>some a
theorem Qbe(rec240:(List Step)->Option Bool)(i:∀(m:List Step) (r:Bool),rec240 m=some r->Csm prog 133 [.rsl 8 (map Step.enc m)] [] (λr=>.bool r) r)(n:Nat)(m:List Step)(r:Bool)(h:B_i rec240 n m=some r):Csm prog 133 [.rsl 8 (map Step.enc m)] [] (λr=>.bool r) r:=by
 refine QF func133 Z Z Z ?_;refine G0 11 Z (Bd h λM N h=>CgE (b:=M) [] [] Ze Ze Zf ?_ (λR Q=>?_))
 .refine G0 1 Z (Lp [] [0] (λp=>[(3,I p)]) Ze N Zf (Lr []) λp aa f g=>?_);refine G0 5 Z (Lg 3 Z Z (Yd Z f (λq f=>?_) (λq f=>?_)))
  .exact Gc 2 Z (Qh f (Gx 1 Z (JB g f Z (Lr []))))
  refine Gc 8 Z (Bd f λO s f=>IzE s (Yq O) Z (Go 18 Z (Bd f λP d f=>CtE (b:=P) [] [0,3] Ze Ze Zf ?_ (λT env H hb j=>?_))))
  .refine G0 0 Z (Cn Z d (λt d=>?_) (λt d=>?_))
   .refine Gc 1 Z (Bd d λk e d=>Ct k [] [0,3] (λk=>[(44,.bool k)]) Ze Zf ?_ (λenv H j=>?_))
    .refine G0 5 Z (Is 22 e Z (λu e=>?_) (λu e=>?_))
     .exact Gl 23 Z e []
     .refine Go 5 Z (Is 27 e Z (λw e=>?_) (λw e=>?_))
      .exact Gl 18 Z e []
      .refine Go 2 Z (Cz [] e (k_bs _ _) Z λab V e=>Go 3 Z (Is 33 e Z (λx e=>?_) (λx e=>?_)))
       .exact Gl 12 Z e []
       .refine Go 2 Z (Lg 3 Z Z (Is 39 e Z (λy e=>?_) (λy e=>?_)))
        .exact Gl 6 Z e []
        .exact Go 2 Z (Lm Z (Gl 3 Z e []))
    refine Gx 1 Z (Qd j (Cn Z d (λz d=>?_) (λz d=>?_)))
    .refine Gc 6 Z ?_;cases d;refine Qq (Gx 3 Z (Qw f ?_));obtain rfl:=Oj g f;exact Gx 1 Z (Qq (Gx 1 Z (Rt h 2 [])))
    refine Gc 1 Z ?_;cases d;exact Y3 Z (Lr [])
   refine Gc 6 Z (Yd Z d (λB d=>?_) (λB d=>?_))
   .refine Gc 6 Z ?_;cases d;refine Qq (Gx 3 Z (Qw f ?_));obtain rfl:=Oj g f;exact Gx 1 Z (Qq (Gx 1 Z (Rt h 2 [])))
   refine Gc 1 Z (Bd d λl a d=>Ct l [] [0,3] (λl=>[(73,.bool l)]) Ze Zf ?_ (λenv H j=>?_))
   .refine G0 5 Z (Is 50 a Z (λE a=>?_) (λE a=>?_))
    .exact Gl 24 Z a []
    .refine Go 2 Z (Cz [] a (k_cu _ _) Z λac W a=>Go 3 Z (Is 56 a Z (λF a=>?_) (λF a=>?_)))
     .exact Gl 18 Z a []
     .refine Go 2 Z (Lg 3 Z Z (Is 62 a Z (λG a=>?_) (λG a=>?_)))
      .exact Gl 12 Z a []
      .refine Go 2 Z (Cz [] a (i _) Z λae X a=>Go 3 Z (Is 68 a Z (λJ a=>?_) (λJ a=>?_)))
       .exact Gl 6 Z a []
       .exact Go 2 Z (Cz [] a (i _) Z λaf Y a=>Gl 3 Z a [])
   refine Gx 1 Z (Qd j (Cn Z d (λL d=>?_) (λL d=>?_)))
   .refine Gc 6 Z ?_;cases d;refine Qq (Gx 3 Z (Qw f ?_));obtain rfl:=Oj g f;exact Gx 1 Z (Qq (Gx 1 Z (Rt h 2 [])))
   refine Gc 1 Z ?_;cases d;exact Y3 Z (Lr [])
  subst hb;exact Gx 3 Z (Qd j (Gc 5 Z (Qf f (Lr []))))
 subst Q;exact QG 6 Z h 2 []
def F_i:Nat->(List Step)->Option Bool
  |0=>λ_=>none
  |n+1=>B_i (F_i n) n
theorem k_i(n:Nat):∀(a:List Step) (r:Bool),F_i n a=some r->Csm prog 133 [.rsl 8 (map Step.enc a)] [] (λr=>.bool r) r:=by
  induction n with
  |zero=>intro a r h;cases h
  |succ n ih=>intro a r h;exact Qbe _ ih n a r h
def F_hk(n:Nat)(a:List Step):Option Int:=(F_y n a 0).bind λd=>((bif decide (64<d.1)then some true else some (decide (256<d.2))):Option Bool).bind λf=>(bif f then some 2 else((bif ((a.length:Int)==0)then some true else(F_i n a).bind λe=>some (!e)):Option Bool).bind λg=>(bif g then some 71 else some 0))
theorem k_hk(n:Nat)(j:List Step):Ks (F_hk n j) 62 [.rsl 8 (map Step.enc j)] [] (λr=>I r):=by
 refine Kg 8 func62 Z Z Z Z λr h=>Cd [] h (k_y _ _ _) Z λt q h=>Fg 9 Z Z (Bd h λe d h=>Ct e [] [0] (λe=>[(15,.bool e)]) Ze Zf ?_ (λenv H k=>?_))
 .refine G0 4 Z (Is 12 d Z (λl d=>?_) (λl d=>?_))
  iterate 2 exact Gl 4 Z d []
 refine Gx 1 Z (Qd k (Cn Z h (λm h=>?_) (λm h=>?_)))
 .exact QG 7 Z h 2 []
 refine Gc 4 Z (Bd h λf a h=>Cg f [] [] (λf=>[(23,.bool f)]) Ze Zf ?_ ?_)
 .refine G0 2 Z (Lg 2 Z Z (Is 19 a Z (λg a=>?_) (λg a=>?_)))
  .exact Gl 5 Z a []
  .exact Go 1 Z (Cz [] a (k_i _ _) Z λs p a=>Gl 3 Z a [])
 refine Cn Z h (λi h=>?_) (λi h=>?_)
 .exact QG 7 Z h 2 []
 exact QG 8 Z h 2 []
def F_fc(n:Nat)(i:List Part)(d:(List Int)×Int)(e:List Int)(a:(List Int)×Int):Option (Ctl ((List Int)×Int) (List Int)):=((idx i d.2).bind λf=>(bif decide (a.2<f.Laps)then some (decide ((a.1.length:Int)<=256))else some false):Option Bool).bind λg=>(bif g then(app a.1 e).bind λh=>some (.cont (h,i64.wrap (a.2+1)))else some (.done a.1))
def F_hi(n:Nat)(d:List Part)(rec244:(List Part)->Option (List Int))(a:(List Int)×Int):Option (Ctl ((List Int)×Int) (List Int)):=((bif decide (a.2<(d.length:Int))then some (decide ((a.1.length:Int)<=256))else some false):Option Bool).bind λe=>(bif e then((idx d a.2).bind λf=>(bif (f.Laps==0)then(idx d a.2).bind λg=>(app a.1 [g.Mat]).bind λh=>some h else(idx d a.2).bind λi=>(rec244 i.Parts).bind λj=>(iter (F_fc n d a j) n (a.1,0):Option (List Int)).bind λk=>some k):Option (List Int)).bind λl=>some (.cont (l,i64.wrap (a.2+1)))else some (.done a.1))
def B_ag(rec244:(List Part)->Option (List Int))(n:Nat)(d:List Part):Option (List Int):=(iter (F_hi n d rec244) n (([]:List Int),0):Option (List Int)).bind λa=>some a
theorem Qa1(rec244:(List Part)->Option (List Int))(w:∀(x:List Part) (r:List Int),rec244 x=some r->C prog 134 [.rsl 3 (map Part.enc x)] [] (RQ (λr=>.osl 0 0 r.length 1) (λr=>[.row 3 1 (map (Qe .i64) r)]) r))(n:Nat)(x:List Part)(r:List Int)(h:B_ag rec244 n x=some r):C prog 134 [.rsl 3 (map Part.enc x)] [] (RQ (λr=>.osl 0 0 r.length 1) (λr=>[.row 3 1 (map (Qe .i64) r)]) r):=by
 refine QF func134 Z Z Z ?_;refine G0 7 Z (vH (Ej (xs:=[]) (es:=map (Qe .i64) []) Qv Z Z Z Z Z trivial Z Z) ?_);refine Fg 9 Z Z (Bd h λj T h=>Cg j [0] [] (λj=>[(3,.osl 0 0 j.length 1)]) (λj=>[(0,.row 3 1 (map (Qe .i64) j))]) Zf ?_ ?_)
 .refine G0 1 Z (Lp [0] [0] (λk=>[(3,.osl 0 0 k.1.length 1),(4,I k.2)]) (λk=>[(0,.row 3 1 (map (Qe .i64) k.1))]) T Zf (Lr [0]) λk ab d z=>?_);refine G0 2 Z (Bd d λt l d=>Ct t [0] [0,3,4] (λt=>[(16,.bool t)]) Ze Zf ?_ (λenv H s=>?_))
  .refine G0 3 Z (Lg 2 Z Z (Is 12 l Z (λB l=>?_) (λB l=>?_)))
   iterate 2 exact Gl 5 Z l [0]
  refine Gx 1 Z (Qd s (Yd Z d (λE d=>?_) (λE d=>?_)))
  .exact Gc 2 Z (Qh d (Gx 1 Z (cQo z d (Lr [0]))))
  refine Gc 3 Z (Bd d λm a d=>Cg m [0] [0,4] (λm=>[(3,.osl 0 0 m.length 1)]) (λm=>[(0,.row 3 1 (map (Qe .i64) m))]) Zf ?_ ?_)
  .refine G0 6 Z (Bd a λV F a=>IzE F (Yb V) Z (Go 5 Z (Cn Z a (λG a=>?_) (λG a=>?_))))
   .refine Gc 5 Z (Bd a λy J a=>IzE J (Yb y) Z (Go 2 Z (vH (Ej (xs:=[.tmp 30]) (es:=map (Qe .i64) [y.Mat]) Qv Z Z Z Z Z ⟨Z,trivial⟩ Z Z) ?_)));refine FE Z (Bd a λac L a=>vH (Qg (e:=(Qe .i64)) L Qv EC (QM (i:=1))) ?_);exact FE Z (Gl 6 Z a [2])
   refine Gc 6 Z (Bd a λW M a=>IzE M (Yb W) Z (Go 2 Z (Cd [] a (w _) Z λae aa a=>Fg 8 Z Z (Bd a λp X a=>Ct p [0] [0,4] (λp=>[(3,.osl 0 0 p.length 1)]) (λp=>[(0,.row 3 1 (map (Qe .i64) p))]) Zf ?_ (λenv H s=>?_)))))
   .refine G0 1 Z (Lp [0,1] [0,4,5] (λq=>[(3,.osl 0 0 q.1.length 1),(6,I q.2)]) (λq=>[(0,.row 3 1 (map (Qe .i64) q.1))]) X Zf (Lr [0,1]) λq af f N=>?_);refine G0 2 Z (Bd f λu g f=>Ct u [0,1] [0,3,4,5,6] (λu=>[(50,.bool u)]) Ze Zf ?_ (λenv H s=>?_))
    .refine G0 4 Z (Bd g λY O g=>IzE O (Yb Y) Z (Go 4 Z (Is 46 g Z (λP g=>?_) (λP g=>?_))))
     iterate 2 exact Gl 5 Z g [0,1]
    refine Gx 1 Z (Qd s (Yd Z f (λQ f=>?_) (λQ f=>?_)))
    .exact Gc 2 Z (Qh f (Gx 1 Z (cQo N f (Lr [0]))))
    refine Gc 7 Z (Bd f λag R f=>vH (Qg (e:=(Qe .i64)) R Qv EC (QM (i:=1))) ?_);exact Fg 9 Z Z (Qf f (Lr [2,1]))
   refine Gx 1 Z ?_;cases a;exact Qar (Em s (Lr [0]))
  exact Gc 5 Z (Qf d (Lr [0]))
 exact QG 7 Z h 2 [0]
def F_ag:Nat->(List Part)->Option (List Int)
  |0=>λ_=>none
  |n+1=>B_ag (F_ag n) n
theorem k_ag(n:Nat):∀(a:List Part) (r:List Int),F_ag n a=some r->C prog 134 [.rsl 3 (map Part.enc a)] [] (RQ (λr=>.osl 0 0 r.length 1) (λr=>[.row 3 1 (map (Qe .i64) r)]) r):=by
  induction n with
  |zero=>intro a r h;cases h
  |succ n ih=>intro a r h;exact Qa1 _ ih n a r h
def F_fo(n:Nat)(d:Course)(h:Int)(i:Int)(a:Int):Option (Ctl Int (Ctl Unit Int)):=(bif decide (a<(d.Legs.length:Int))then((idx d.Legs a).bind λe=>(bif (e.From==h)then(idx d.Legs a).bind λf=>some (f.To==i)else some false):Option Bool).bind λg=>(bif g then some (.done (.done a))else some (.cont (i64.wrap (a+1))))else some (.done (.cont ())))
def F_bg(n:Nat)(e:Course)(f:Int)(g:Int):Option Int:=(iter (F_fo n e f g) n 0:Option (Ctl Unit Int)).bind λd=>match d with|.cont a=>(some (-1))|.done a=>some a
theorem k_bg(n:Nat)(p:Course)(q:Int)(s:Int):Ks (F_bg n p q s) 135 [.agg (Course.c p),I q,I s] [] (λr=>I r):=by
 refine Kg 12 func135 Z Z Z Z λr h=>Bd h λt u h=>CgE (b:=t) [] [] Ze Ze Zf ?_ (λx w=>?_)
 .refine G0 1 Z (Lp [0] [1,2,3] (λg=>[(7,I g)]) Ze u Zf (Lr [0]) λg y a e=>?_);refine G0 6 Z (Lg 3 Z Z (Yd Z a (λi a=>?_) (λi a=>?_)))
  .exact Gc 2 Z (Qh a (Gx 1 Z (JB e a Z (Lr []))))
  refine Gc 5 Z (Bd a λf d a=>Cg f [0] [1,2,3,7] (λf=>[(32,.bool f)]) Ze Zf ?_ ?_)
  .refine G0 4 Z (Bd d λz j d=>Iz j Z (Go 5 Z (Is 23 d Z (λk d=>?_) (λk d=>?_))))
   .exact Go 3 Z (Bd d λB l d=>Iz l Z (Gl 6 Z d [0]))
   .exact Gl 10 Z d [0]
  refine Cn Z a (λm a=>?_) (λm a=>?_)
  .refine Gc 9 Z (Qw a ?_);obtain rfl:=Oj e a;exact Gx 1 Z (Qq (Gx 1 Z (Rt h 6 [])))
  exact Gc 8 Z (Qf a (Lr [0]))
 subst w;exact QG 6 Z h 6 []
def F_ic(n:Nat)(d:List Int)(g:Int)(a:Int×Int):Option (Ctl (Int×Int) Int):=(bif decide (a.2<(d.length:Int))then(idx d a.2).bind λe=>((bif (e==g)then some (i64.wrap (a.1+1))else some a.1):Option Int).bind λf=>some (.cont (f,i64.wrap (a.2+1)))else some (.done a.1))
def F_bj(n:Nat)(d:List Int)(e:Int):Option Int:=(iter (F_ic n d e) n (0,0):Option Int).bind λa=>some a
theorem k_bj(n:Nat)(m:List Int)(p:Int):Ks (F_bj n m p) 136 [.rsl 1 (map (Qe .i64) m),I p] [] (λr=>I r):=by
 refine Kg 16 func136 Z Z Z Z λr h=>Bd h λe q h=>Cg e [] [] (λe=>[(5,I e)]) Ze Zf ?_ ?_
 .refine G0 1 Z (Lp [] [0,1] (λf=>[(5,I f.1),(6,I f.2)]) Ze q Zf (Lr []) λf t a i=>?_);refine G0 5 Z (Lg 3 Z Z (Yd Z a (λj a=>?_) (λj a=>?_)))
  .exact Gc 2 Z (Qh a (Gx 1 Z (cQo i a (Lr []))))
  refine Gc 8 Z (Bd a λu k a=>Iz k Z (Go 5 Z (Bd a λg d a=>Ct g [] [0,1,6] (λg=>[(5,I g)]) Ze Zf ?_ (λenv H s=>?_))))
  .refine G0 0 Z (Cn Z d (λl d=>?_) (λl d=>?_))
   .exact YC 5 Z d []
   exact YC 1 Z d []
  exact Gx 2 Z (Qd s (Gc 5 Z (Qf a (Lr []))))
 exact QG 7 Z h 4 []
def F_cq(n:Nat)(e:Course)(d:List Int)(a:Int):Option (Ctl Int (Ctl Unit Bool)):=(bif decide (a<(d.length:Int))then((bif (a==0)then some 1 else(bif (a==(i64.wrap ((d.length:Int)-1)))then some 3 else some 2)):Option Int).bind λf=>((idx d a).bind λg=>(idx e.Mats g).bind λh=>(bif (h.Kind != f)then some true else(bif decide (0<a)then(idx d (i64.wrap (a-1))).bind λi=>(idx d a).bind λj=>(F_bg n e i j).bind λk=>some (decide (k<0))else some false)):Option Bool).bind λl=>(bif l then some (.done (.done false))else some (.cont (i64.wrap (a+1))))else some (.done (.cont ())))
def F_lr(n:Nat)(d:Distance)(h:List Int)(a:Int):Option (Ctl Int (Ctl Unit Bool)):=(bif decide (a<(d.Cutoffs.length:Int))then(idx d.Cutoffs a).bind λe=>(F_bj n h e.Mat).bind λf=>(idx d.Cutoffs a).bind λg=>(bif decide (f<g.Lap)then some (.done (.done false))else some (.cont (i64.wrap (a+1))))else some (.done (.cont ())))
def F_do(n:Nat)(g:Course)(a:Distance):Option Bool:=(F_ag n a.Route).bind λd=>((bif decide ((d.length:Int)<2)then some true else some (decide (256<(d.length:Int)))):Option Bool).bind λp=>(bif p then some false else(iter (F_cq n g d) n 0:Option (Ctl Unit Bool)).bind λh=>match h with|.cont e=>(((bif (a.Extra != (-1))then(idx g.Mats a.Extra).bind λi=>(bif (i.Kind != 2)then some true else(F_bj n d a.Extra).bind λj=>(bif (j==0)then some true else(F_bg n g a.Extra a.Extra).bind λk=>some (decide (k<0))))else some false):Option Bool).bind λl=>(bif l then some false else(iter (F_lr n a d) n 0:Option (Ctl Unit Bool)).bind λm=>match m with|.cont f=>(some true)|.done f=>some f))|.done e=>some e)
theorem k_do(n:Nat)(a1:Course)(a2:Distance):Ks (F_do n a1 a2) 63 [.agg (Course.c a1),.agg (Distance.c a2)] [] (λr=>.bool r):=by
 refine Kg 11 func63 Z Z Z Z λr h=>Cd [] h (k_ag _ _) Z λr1 ay h=>Fg 12 Z Z (Bd h λO p h=>Ct O [0,1,2] [2,3,5,6] (λO=>[(20,.bool O)]) Ze Zf ?_ (λenv H g=>?_))
 .refine G0 4 Z (Is 17 p Z (λag p=>?_) (λag p=>?_))
  iterate 2 exact Gl 4 Z p [0,1,2]
 refine Gx 1 Z (Qd g (Cn Z h (λah h=>?_) (λah h=>?_)))
 .exact QG 7 Z h 4 []
 refine Gc 8 Z (Bd h λai aj h=>CtE (b:=ai) [0,1,2] [2,3,5] Ze Ze Zf ?_ (λaq env H q g=>?_))
 .refine G0 1 Z (Lp [0,1,2] [2,3,5,6] (λj=>[(7,I j)]) Ze aj Zf (Lr [0,1,2]) λj az f s=>?_);refine G0 8 Z (Yd Z f (λP f=>?_) (λP f=>?_))
  .exact Gc 2 Z (Qh f (Gx 1 Z (JB s f Z (Lr [0,1,2]))))
  refine Gc 22 Z (Bd f λt i f=>Ct t [0,1,2] [2,3,5,6,7] (λt=>[(8,I t)]) Ze Zf ?_ (λenv H g=>?_))
  .refine G0 0 Z (Cn Z i (λQ i=>?_) (λQ i=>?_))
   .exact YC 3 Z i [0,1,2]
   refine Gc 8 Z (Cn Z i (λR i=>?_) (λR i=>?_))
   .exact YC 3 Z i [0,1,2]
   exact YC 1 Z i [0,1,2]
  refine Gx 2 Z (Qd g (Gc 1 Z (Bd f λu d f=>Ct u [0,1,2] [2,3,5,6,7] (λu=>[(61,.bool u)]) Ze Zf ?_ (λenv H g=>?_))))
  .refine G0 0 Z (DSs 25 Z (D 4 Z ?_));obtain⟨ak,w,d⟩:=YB d;refine DS.v (x:=(.ptr 2 (toNat j*1))) (Qp w Z EC EF) ?_;refine DS.v (x:=(I ak)) (Ey Z ED Z (Qo w)) ?_;obtain⟨N,T,d⟩:=YB d;refine DS.wo (x:=.rp [.str N.Name,I N.Kind]) ?_ ?_
   .exact Ix T runUnderlying22 sizeOf79 Z Wp
   refine D 5 Z (QbE 11 d Z Z Z (λV d=>?_) (λV d=>?_))
   .exact D 13 Z (Eg Z (Gl 5 Z d [0,1,2]))
   .refine D 3 Z (QbE 14 d Z Z Z (λW d=>?_) (λW d=>?_))
    .refine D 4 Z ?_;obtain⟨al,y,d⟩:=YB d;refine DS.v (x:=(.ptr 2 (toNat (i64.wrap (j-1))*1))) (Qp y Z EC EF) ?_ (hg:=(gT Z));refine DS.v (x:=(I al)) (Ey Z ED Z (Qo y)) ?_ (hg:=(gT Z));refine D 2 Z ?_;obtain⟨am,z,d⟩:=YB d;refine DS.v (x:=(.ptr 2 (toNat j*1))) (Qp z Z EC EF) ?_ (hg:=(gT Z));refine DS.v (x:=(I am)) (Ey Z ED Z (Qo z)) ?_ (hg:=(gT Z));exact Eg Z (Cz [] d (k_bg _ _ _ _) Z λba ar d=>Gl 4 Z d [0,1,2])
    .exact D 10 Z (Eg Z (Gl 5 Z d [0,1,2]))
  refine Gx 1 Z (Qd g (Cn Z f (λX f=>?_) (λX f=>?_)))
  .refine Gc 8 Z (Qw f ?_);obtain rfl:=Oj s f;exact Gx 1 Z (Qq (Gx 1 Z (Rt h 4 [])))
  exact Gc 8 Z (Qf f (Lr [0,1,2]))
 subst q;refine Gx 1 Z (Qd g (Gc 2 Z (Bd h λB e h=>Ct B [1,2] [3,5] (λB=>[(90,.bool B)]) Ze Zf ?_ (λenv H g=>?_))))
 .refine G0 5 Z (Is 65 e Z (λY e=>?_) (λY e=>?_))
  .refine Go 4 Z (Bd e λbb aa e=>Iz aa Z (Go 4 Z (Is 74 e Z (λab e=>?_) (λab e=>?_))))
   .exact Gl 17 Z e [1,2]
   .refine Go 3 Z (Cb e (k_bj _ _ _) Z (lo (ls ln)) λbc au e=>Go 3 Z (Is 81 e Z (λac e=>?_) (λac e=>?_)))
    .exact Gl 10 Z e [1,2]
    .exact Go 5 Z (Cz [] e (k_bg _ _ _ _) Z λbd av e=>Gl 4 Z e [1,2])
  .exact Gl 26 Z e [1,2]
 refine Gx 1 Z (Qd g (Cn Z h (λae h=>?_) (λae h=>?_)))
 .exact QG 7 Z h 4 []
 refine Gc 8 Z (Bd h λan ao h=>CgE (b:=an) [] [] Ze Ze Zf ?_ (λaw q=>?_))
 .refine G0 1 Z (Lp [0,1] [3,5] (λE=>[(9,I E)]) Ze ao Zf (Lr [0,1]) λE ax a m=>?_);refine G0 6 Z (Lg 3 Z Z (Yd Z a (λF a=>?_) (λF a=>?_)))
  .exact Gc 2 Z (Qh a (Gx 1 Z (JB m a Z (Lr []))))
  refine Gc 5 Z (DSs 14 Z (D 4 Z ?_));obtain⟨k,G,a⟩:=YB a;refine DS.wo (x:=.rp [I k.Mat,I k.Lap,I k.Limit]) ?_ ?_
  .exact Ix G runUnderlying75 sizeOf166 Z Wp
  refine D 2 Z ?_;obtain⟨af,J,a⟩:=YB a;refine DS.wo (x:=I af) ?_ ?_
  .refine QbA (OpC.fn call136 rfl rfl rfl) (QbC.cons rfl (.inr ⟨_,_,_,_,_,rfl,rfl,XX ..,rfl⟩) (QbC.cons rfl (.inl ⟨rfl,rfl⟩) QbC.nil)) (k_bj _ _ _ _ J) (by rintro _ _ ⟨rfl,rfl⟩;rfl) ?_;rintro _ _ ⟨rfl,rfl⟩;exact FE Z Wp
  refine D 3 Z ?_;obtain⟨l,L,a⟩:=YB a;refine DS.wo (x:=.rp [I l.Mat,I l.Lap,I l.Limit]) ?_ ?_
  .exact Ix L runUnderlying75 sizeOf166 Z Wp
  refine D 2 Z (Eg Z (Go 3 Z (Cn Z a (λM a=>?_) (λM a=>?_))))
  .refine Gc 8 Z (Qw a ?_);obtain rfl:=Oj m a;exact Gx 1 Z (Qq (Gx 1 Z (Rt h 4 [])))
  exact Gc 8 Z (Qf a (Lr [0,1]))
 subst q;exact QG 6 Z h 4 []
def F_lm(n:Nat)(d:Course)(a:Int):Option (Ctl Int (Ctl Unit Int)):=(bif decide (a<(d.Distances.length:Int))then(idx d.Distances a).bind λe=>(F_do n d e).bind λf=>(bif (!f)then some (.done (.done 72))else some (.cont (i64.wrap (a+1))))else some (.done (.cont ())))
def F_q(n:Nat)(a:Course):Option Int:=(F_bq n a).bind λg=>(bif (!g)then some 2 else(F_fb n a).bind λh=>(bif (!h)then some 70 else(F_eh n a).bind λi=>(bif (!i)then some 71 else(F_hk n a.Ties).bind λe=>(bif (e != 0)then some e else(iter (F_lm n a) n 0:Option (Ctl Unit Int)).bind λf=>match f with|.cont d=>(some 0)|.done d=>some d))))
theorem k_q(n:Nat)(k:Course):Ks (F_q n k) 22 [.agg (Course.c k)] [] (λr=>I r):=by
 refine Kg 10 func22 Z Z Z Z λr h=>Cz [] h (k_bq _ _) Z λJ z h=>Go 3 Z (Cn Z h (λl h=>?_) (λl h=>?_))
 .exact QG 7 Z h 2 []
 refine Gc 6 Z (Cz [] h (k_fb _ _) Z λL B h=>Go 3 Z (Cn Z h (λm h=>?_) (λm h=>?_)))
 .exact QG 7 Z h 2 []
 refine Gc 6 Z (Cz [] h (k_eh _ _) Z λM E h=>Go 3 Z (Cn Z h (λp h=>?_) (λp h=>?_)))
 .exact QG 7 Z h 2 []
 refine Gc 6 Z (Cz [] h (k_hk _ _) Z λN F h=>Go 10 Z (Cn Z h (λq h=>?_) (λq h=>?_)))
 .exact QG 8 Z h 2 []
 refine Gc 8 Z (Bd h λs t h=>CgE (b:=s) [] [] Ze Ze Zf ?_ (λw u=>?_))
 .refine G0 1 Z (Lp [0] [1] (λf=>[(4,I f)]) Ze t Zf (Lr [0]) λf G a e=>?_);refine G0 6 Z (Lg 3 Z Z (Yd Z a (λg a=>?_) (λg a=>?_)))
  .exact Gc 2 Z (Qh a (Gx 1 Z (JB e a Z (Lr []))))
  refine Gc 5 Z (DSs 6 Z (D 4 Z ?_));obtain⟨d,i,a⟩:=YB a;refine DS.wo (x:=.rp [.str d.Name,.rsl 3 (map Part.enc d.Route),I d.Timing,.rsl 3 (map Cutoff.c d.Cutoffs),I d.Extra]) ?_ ?_
  .exact Ix i GB sizeOf77 Z Wp
  refine D 1 Z (Eg Z (Cz [] a (k_do _ _ _) Z λH y a=>Go 3 Z (Cn Z a (λj a=>?_) (λj a=>?_))))
  .refine Gc 8 Z (Qw a ?_);obtain rfl:=Oj e a;exact Gx 1 Z (Qq (Gx 1 Z (Rt h 2 [])))
  exact Gc 8 Z (Qf a (Lr [0]))
 subst u;exact QG 6 Z h 2 []
def F_dm(n:Nat)(a:Fact):Option (List Int):=(bif (a.Kind==1)then(app [a.Kind,a.Crew,a.No,a.At] [a.Starter.Bib,a.Starter.Distance,a.Starter.Wave,a.Starter.Slot,a.Starter.Age,a.Starter.Chip,a.Starter.Team,a.Starter.Lot]).bind λm=>some m else(bif (a.Kind==2)then(app [a.Kind,a.Crew,a.No,a.At] [a.Read.Mat,a.Read.Epoch,a.Read.Chip,a.Read.Local]).bind λp=>some p else(bif (a.Kind==3)then(app [a.Kind,a.Crew,a.No,a.At] [a.Beacon.Mat,a.Beacon.Epoch,a.Beacon.Local,a.Beacon.True,a.Beacon.Err]).bind λq=>some q else(bif (a.Kind==4)then(app [a.Kind,a.Crew,a.No,a.At] [a.Sync.MatA,a.Sync.EpochA,a.Sync.LocalA,a.Sync.MatB,a.Sync.EpochB,a.Sync.LocalB,a.Sync.Min,a.Sync.Max]).bind λr=>some r else(bif (a.Kind==5)then(app [a.Kind,a.Crew,a.No,a.At] [a.Hand.Bib,a.Hand.Position,a.Hand.Lo,a.Hand.Hi]).bind λd=>some d else(bif (a.Kind==6)then(app [a.Kind,a.Crew,a.No,a.At] [a.Silence.Mat,a.Silence.Epoch,a.Silence.Lo,a.Silence.Hi]).bind λe=>some e else(bif (a.Kind==7)then(app [a.Kind,a.Crew,a.No,a.At] [a.Pair.A,a.Pair.B]).bind λf=>some f else(bif (a.Kind==8)then(app [a.Kind,a.Crew,a.No,a.At] [a.Report.Case,a.Report.Bib,a.Report.Offence,a.Report.Position]).bind λg=>some g else(bif (a.Kind==9)then(app [a.Kind,a.Crew,a.No,a.At] [a.Protest.Case,a.Protest.By,a.Protest.Fee,a.Protest.Form]).bind λh=>some h else(bif (a.Kind==10)then(app [a.Kind,a.Crew,a.No,a.At] [a.Ruling.Case,a.Ruling.Instance,a.Ruling.Kind,a.Ruling.Bib,a.Ruling.Position,a.Ruling.Amount]).bind λi=>some i else(bif (a.Kind==11)then(bif a.Appeal.Suspends then(app [a.Kind,a.Crew,a.No,a.At] [a.Appeal.Case,1]).bind λj=>some j else(app [a.Kind,a.Crew,a.No,a.At] [a.Appeal.Case,0]).bind λk=>some k)else(bif (a.Kind==13)then(app [a.Kind,a.Crew,a.No,a.At] [a.Void.Crew,a.Void.No]).bind λl=>some l else some [a.Kind,a.Crew,a.No,a.At]))))))))))))
theorem k_dm(n:Nat)(a:Fact):Kq (F_dm n a) 212 [.agg (Fact.c a)] [] (λr=>.osl 0 0 r.length 1) (λr=>[.row 3 1 (map (Qe .i64) r)]):=by
 refine Kg 16 func212 Z Z Z Z λr h=>vH (Ej (xs:=[.tmp 14,.tmp 16,.tmp 18,.tmp 20]) (es:=map (Qe .i64) [a.Kind,a.Crew,a.No,a.At]) Qv Z Z Z Z Z ⟨Z,Z,Z,Z,trivial⟩ Z Z) ?_;refine Fg 17 Z Z (Cn Z h (λF h=>?_) (λF h=>?_))
 .refine Gc 27 Z (vH (Ej (xs:=[.tmp 30,.tmp 32,.tmp 34,.tmp 36,.tmp 38,.tmp 40,.tmp 42,.tmp 44]) (es:=map (Qe .i64) [a.Starter.Bib,a.Starter.Distance,a.Starter.Wave,a.Starter.Slot,a.Starter.Age,a.Starter.Chip,a.Starter.Team,a.Starter.Lot]) Qv Z Z Z Z Z ⟨Z,Z,Z,Z,Z,Z,Z,Z,trivial⟩ Z Z) ?_);refine FE Z (Bd h λl2 G h=>vH (Qg (e:=(Qe .i64)) G Qv EC (QM (i:=3))) ?_);exact FE Z (Gt 6 Z h 2 [4])
 refine Gc 6 Z (Cn Z h (λH h=>?_) (λH h=>?_))
 .refine Gc 19 Z (vH (Ej (xs:=[.tmp 53,.tmp 55,.tmp 57,.tmp 59]) (es:=map (Qe .i64) [a.Read.Mat,a.Read.Epoch,a.Read.Chip,a.Read.Local]) Qv Z Z Z Z Z ⟨Z,Z,Z,Z,trivial⟩ Z Z) ?_);refine FE Z (Bd h λl4 J h=>vH (Qg (e:=(Qe .i64)) J Qv EC (QM (i:=3))) ?_);exact FE Z (Gt 6 Z h 2 [4])
 refine Gc 6 Z (Cn Z h (λL h=>?_) (λL h=>?_))
 .refine Gc 21 Z (vH (Ej (xs:=[.tmp 68,.tmp 70,.tmp 72,.tmp 74,.tmp 76]) (es:=map (Qe .i64) [a.Beacon.Mat,a.Beacon.Epoch,a.Beacon.Local,a.Beacon.True,a.Beacon.Err]) Qv Z Z Z Z Z ⟨Z,Z,Z,Z,Z,trivial⟩ Z Z) ?_);refine FE Z (Bd h λl6 M h=>vH (Qg (e:=(Qe .i64)) M Qv EC (QM (i:=3))) ?_);exact FE Z (Gt 6 Z h 2 [4])
 refine Gc 6 Z (Cn Z h (λN h=>?_) (λN h=>?_))
 .refine Gc 27 Z (vH (Ej (xs:=[.tmp 85,.tmp 87,.tmp 89,.tmp 91,.tmp 93,.tmp 95,.tmp 97,.tmp 99]) (es:=map (Qe .i64) [a.Sync.MatA,a.Sync.EpochA,a.Sync.LocalA,a.Sync.MatB,a.Sync.EpochB,a.Sync.LocalB,a.Sync.Min,a.Sync.Max]) Qv Z Z Z Z Z ⟨Z,Z,Z,Z,Z,Z,Z,Z,trivial⟩ Z Z) ?_);refine FE Z (Bd h λl8 O h=>vH (Qg (e:=(Qe .i64)) O Qv EC (QM (i:=3))) ?_);exact FE Z (Gt 6 Z h 2 [4])
 refine Gc 6 Z (Cn Z h (λP h=>?_) (λP h=>?_))
 .refine Gc 19 Z (vH (Ej (xs:=[.tmp 108,.tmp 110,.tmp 112,.tmp 114]) (es:=map (Qe .i64) [a.Hand.Bib,a.Hand.Position,a.Hand.Lo,a.Hand.Hi]) Qv Z Z Z Z Z ⟨Z,Z,Z,Z,trivial⟩ Z Z) ?_);refine FE Z (Bd h λQ d h=>vH (Qg (e:=(Qe .i64)) d Qv EC (QM (i:=3))) ?_);exact FE Z (Gt 6 Z h 2 [4])
 refine Gc 6 Z (Cn Z h (λf h=>?_) (λf h=>?_))
 .refine Gc 19 Z (vH (Ej (xs:=[.tmp 123,.tmp 125,.tmp 127,.tmp 129]) (es:=map (Qe .i64) [a.Silence.Mat,a.Silence.Epoch,a.Silence.Lo,a.Silence.Hi]) Qv Z Z Z Z Z ⟨Z,Z,Z,Z,trivial⟩ Z Z) ?_);refine FE Z (Bd h λR g h=>vH (Qg (e:=(Qe .i64)) g Qv EC (QM (i:=3))) ?_);exact FE Z (Gt 6 Z h 2 [4])
 refine Gc 6 Z (Cn Z h (λj h=>?_) (λj h=>?_))
 .refine Gc 9 Z (vH (Ej (xs:=[.tmp 137,.tmp 140]) (es:=map (Qe .i64) [a.Pair.A,a.Pair.B]) Qv Z Z Z Z Z ⟨Z,Z,trivial⟩ Z Z) ?_);refine FE Z (Bd h λT k h=>vH (Qg (e:=(Qe .i64)) k Qv EC (QM (i:=2))) ?_);exact FE Z (Gt 6 Z h 2 [3])
 refine Gc 6 Z (Cn Z h (λl h=>?_) (λl h=>?_))
 .refine Gc 19 Z (vH (Ej (xs:=[.tmp 149,.tmp 151,.tmp 153,.tmp 155]) (es:=map (Qe .i64) [a.Report.Case,a.Report.Bib,a.Report.Offence,a.Report.Position]) Qv Z Z Z Z Z ⟨Z,Z,Z,Z,trivial⟩ Z Z) ?_);refine FE Z (Bd h λV m h=>vH (Qg (e:=(Qe .i64)) m Qv EC (QM (i:=3))) ?_);exact FE Z (Gt 6 Z h 2 [4])
 refine Gc 6 Z (Cn Z h (λp h=>?_) (λp h=>?_))
 .refine Gc 19 Z (vH (Ej (xs:=[.tmp 164,.tmp 166,.tmp 168,.tmp 170]) (es:=map (Qe .i64) [a.Protest.Case,a.Protest.By,a.Protest.Fee,a.Protest.Form]) Qv Z Z Z Z Z ⟨Z,Z,Z,Z,trivial⟩ Z Z) ?_);refine FE Z (Bd h λW q h=>vH (Qg (e:=(Qe .i64)) q Qv EC (QM (i:=3))) ?_);exact FE Z (Gt 6 Z h 2 [4])
 refine Gc 6 Z (Cn Z h (λs h=>?_) (λs h=>?_))
 .refine Gc 23 Z (vH (Ej (xs:=[.tmp 179,.tmp 181,.tmp 183,.tmp 185,.tmp 187,.tmp 189]) (es:=map (Qe .i64) [a.Ruling.Case,a.Ruling.Instance,a.Ruling.Kind,a.Ruling.Bib,a.Ruling.Position,a.Ruling.Amount]) Qv Z Z Z Z Z ⟨Z,Z,Z,Z,Z,Z,trivial⟩ Z Z) ?_);refine FE Z (Bd h λX t h=>vH (Qg (e:=(Qe .i64)) t Qv EC (QM (i:=3))) ?_);exact FE Z (Gt 6 Z h 2 [4])
 refine Gc 6 Z (Cn Z h (λu h=>?_) (λu h=>?_))
 .refine Gc 8 Z (Cn Z h (λw h=>?_) (λw h=>?_))
  .refine Gc 6 Z (vH (Ej (xs:=[.tmp 200,.const (.int .i64 1)]) (es:=map (Qe .i64) [a.Appeal.Case,1]) Qv Z Z Z Z Z ⟨Z,Z,trivial⟩ Z Z) ?_);refine FE Z (Bd h λY x h=>vH (Qg (e:=(Qe .i64)) x Qv EC (QM (i:=2))) ?_);exact FE Z (Gt 7 Z h 2 [3])
  refine Gc 8 Z (vH (Ej (xs:=[.tmp 206,.const (.int .i64 0)]) (es:=map (Qe .i64) [a.Appeal.Case,0]) Qv Z Z Z Z Z ⟨Z,Z,trivial⟩ Z Z) ?_);refine FE Z (Bd h λaa y h=>vH (Qg (e:=(Qe .i64)) y Qv EC (QM (i:=2))) ?_);exact FE Z (Gt 6 Z h 2 [3])
 refine Gc 6 Z (Cn Z h (λz h=>?_) (λz h=>?_))
 .refine Gc 9 Z (vH (Ej (xs:=[.tmp 214,.tmp 217]) (es:=map (Qe .i64) [a.Void.Crew,a.Void.No]) Qv Z Z Z Z Z ⟨Z,Z,trivial⟩ Z Z) ?_);refine FE Z (Bd h λab E h=>vH (Qg (e:=(Qe .i64)) E Qv EC (QM (i:=2))) ?_);exact FE Z (Gt 6 Z h 2 [3])
 exact QG 10 Z h 2 [1]
def F_fh(n:Nat)(a:Int):Option Unit:=some ()
theorem k_fh(n:Nat)(a:Int):Kq (F_fh n a) 242 [I a] [] (λ_=>.agg [I 1,I a,.str [],.rsl 4 (map Value.enc [])]) (λ_=>[.cells 260 [I 1,I a,.str [],.rsl 4 (map Value.enc [])]]):=by
 refine Kg 13 func242 Z Z Z Z λr h=>?_;obtain rfl:=Oi h;exact Rx [0] [2] Z (Je Z (QE Gz Gq Z Z Z)) ⟨Z,Z⟩
def F_kq(n:Nat)(e:List Int)(a:(List Value)×Int):Option (Ctl ((List Value)×Int) (List Value)):=(bif decide (a.2<(e.length:Int))then(idx e a.2).bind λd=>(F_fh n d).bind λg=>(app a.1 [{Kind:=1,N:=d,S:=[],L:=[]:Value}]).bind λf=>some (.cont (f,i64.wrap (a.2+1)))else some (.done a.1))
def F_gm(n:Nat)(d:List Int):Option (List Value):=(iter (F_kq n d) n ([],0):Option (List Value)).bind λa=>some a
theorem k_gm(n:Nat)(j:List Int):Kq (F_gm n j) 211 [.rsl 1 (map (Qe .i64) j)] [] (λr=>.agg [I 3,I 0,.str [],.osl 0 0 r.length 4]) (λr=>[.row 260 4 (map Value.enc r),.cells 260 [I 3,I 0,.str [],.osl 0 0 r.length 4]]):=by
 refine Kg 7 func211 Z Z Z Z λr h=>?_;refine vX (.agg [I 3,I 0,.str [],.nils]) (OpV.build (zs:=[I 0,I 0,.str [],.nils]) Gu (zrC Z) Qon) ?_;refine vH (Qdo (v:=(.agg [I 0,I 0,.str [],.nils])) Gu (zrC Z)) ?_;refine Fg 9 Z Z (Bd h λg w h=>Cg g [0,1,0] [2,3] Ze (λg=>[(1,.cells 260 [I 3,I 0,.str [],.osl 2 0 g.length 4]),(2,.row 260 4 (map Value.enc g))]) Zf ?_ ?_)
 .refine G0 1 Z (Lp [0,1,0] [0,2,3] (λa=>[(4,I a.2)]) (λa=>[(1,.cells 260 [I 3,I 0,.str [],.osl 2 0 a.1.length 4]),(2,.row 260 4 (map Value.enc a.1))]) w Zf ?_ ?_)
  .refine Em (Qcr (i:=1) (m:=3) (t:=260) (k:=4) Z Z Z) ?_;exact Lr [0,1,2]
  intro a y d l;refine G0 5 Z (Lg 3 Z Z (Yd Z d (λp d=>?_) (λp d=>?_)))
  .exact Gc 2 Z (Qh d (Gx 1 Z (cQo l d (Lr [0,1,2]))))
  refine Gc 4 Z ?_;obtain⟨f,q,d⟩:=YB d;obtain⟨z,s,d⟩:=YB d;refine QaV 8 0 [12,13,14,15,16,17,18,19] [false,false,false,false,false,false,true,false] [[],[],[],[],[],[],[],[6]] [[],[6]] [[(0,0),(1,1)],[(0,0),(1,1)],[(0,0)],[(0,0)],[(0,0)],[(0,0)],[(0,1)],[(1,1)]] [.ptr 1 3,.osl 2 0 a.1.length 4,.rsl 1 (map (Qe .i64) j),I a.2,.rp [I f],I f,.agg [I 1,I f,.str [],.rsl 4 (map Value.enc [])],.rsl 4 (map Value.enc [{Kind:=1,N:=f,S:=[],L:=[]:Value}])] [[.cells 260 (Value.c Uw),.cells 260 [I 3,I 0,.str [],.osl 2 0 a.1.length 4],.row 260 4 (map Value.enc a.1)],[.cells 260 (Value.c Uw),.cells 260 [I 3,I 0,.str [],.osl 2 0 a.1.length 4],.row 260 4 (map Value.enc a.1),.cells 260 [I 1,I f,.str [],.rsl 4 (map Value.enc [])]]] ([.cells 260 (Value.c Uw),.cells 260 [I 3,I 0,.str [],.osl 2 0 a.1.length 4],.row 260 4 (map Value.enc a.1),.cells 260 [I 1,I f,.str [],.rsl 4 (map Value.enc [])]]) draws Z Z Z Z Z Z Z ?_ Z ?_
  .refine Qi4.cons (Qc (v0 Z Z) (Qc (v0 Z Z) (Qm))) (Qi4.cons (Qc (v0 Z Z) (Qc (v0 Z Z) (Qm))) (Qi4.cons (Qc (v0 Z Z) (Qm)) (Qi4.cons (Qc (v0 Z Z) (Qm)) (Qi4.cons ?_ (Qi4.cons (Qc (v0 Z Z) (Qm)) (Qi4.cons ?_ (Qi4.cons ?_ (Qi4.nil))))))))
   .refine Qc ?_ (Qm)
    .refine Om Z (sD 2 (sD 3 sN)) ?_;exact Ix q EC EF Z Wp
   .refine Qc ?_ (Qm)
    .refine Om1 Z (sD 5 sN) ?_;refine QX [] (OpC.fn call242 Z Z Z) (k_fh _ _ _ s) ?_;rintro _ _ ⟨rfl,rfl⟩;exact FE Z Wp
   .refine Qc ?_ (Qm)
    .refine Om Z (sD 6 sN) ?_;refine vH (Q5 (xs:=[.tmp 18]) (es:=[Value.c ({Kind:=1,N:=f,S:=[],L:=[]:Value})]) QiR Z Z Z Z Z ⟨Z,trivial⟩ Z Z) ?_;refine QlQ (x:=(.rsl 4 (map Value.enc [{Kind:=1,N:=f,S:=[],L:=[]:Value}]))) (H:=[_,_,_,_]) (by simp[Jc]) Z ?_;exact Wp
  refine Bd d λB u d=>vH (Qg (e:=Value.enc) u QiR EX Jd) ?_;exact Fg 10 Z Z (Qf d (Lr [0,1,4]))
 refine Gc 7 Z ?_;obtain rfl:=Oi h;exact Rx [2,0] [2] Z (Je Z (QE Gz Gq Z Z Z)) ⟨Z,Z⟩
def F_lx(n:Nat)(d:Value)(rec257:Value->Option Bool)(a:Int):Option (Ctl Int (Ctl Unit Bool)):=(bif decide (a<(d.L.length:Int))then(idx d.L a).bind λe=>(rec257 e).bind λf=>(bif (!f)then some (.done (.done false))else some (.cont (i64.wrap (a+1))))else some (.done (.cont ())))
def B_ae(rec257:Value->Option Bool)(n:Nat)(a:Value):Option Bool:=(bif (a.Kind==1)then((bif (a.S==[])then some ((a.L.length:Int)==0)else some false):Option Bool).bind λg=>some g else(bif (a.Kind==2)then((bif (a.N==0)then some ((a.L.length:Int)==0)else some false):Option Bool).bind λh=>some h else(bif (a.Kind==3)then(iter (F_lx n a rec257) n 0:Option (Ctl Unit Bool)).bind λe=>match e with|.cont d=>(((bif (a.N==0)then some (a.S==[])else some false):Option Bool).bind λf=>some f)|.done d=>some d else some false)))
theorem Qa3(rec257:Value->Option Bool)(f:∀(g:Value) (r:Bool),rec257 g=some r->Csm prog 263 [.agg (Value.c g)] [] (λr=>.bool r) r)(n:Nat)(g:Value)(r:Bool)(h:B_ae rec257 n g=some r):Csm prog 263 [.agg (Value.c g)] [] (λr=>.bool r) r:=by
 refine QF func263 Z Z Z ?_;refine G0 20 Z (Cn Z h (λz h=>?_) (λz h=>?_))
 .refine Gc 1 Z (Bd h λp i h=>Ct p [] [] (λp=>[(2,.bool p)]) Ze Zf ?_ (λenv H d=>?_))
  .refine G0 5 Z (Is 11 i Z (λB i=>?_) (λB i=>?_))
   .exact Go 2 Z (Lm Z (Gl 4 Z i []))
   .exact Gl 7 Z i []
  exact Gx 1 Z (Qd d (QG 3 Z h 2 []))
 refine Gc 6 Z (Cn Z h (λE h=>?_) (λE h=>?_))
 .refine Gc 1 Z (Bd h λq j h=>Ct q [] [] (λq=>[(2,.bool q)]) Ze Zf ?_ (λenv H d=>?_))
  .refine G0 5 Z (Is 22 j Z (λs j=>?_) (λs j=>?_))
   .exact Go 2 Z (Lm Z (Gl 4 Z j []))
   .exact Gl 7 Z j []
  exact Gx 1 Z (Qd d (QG 3 Z h 2 []))
 refine Gc 6 Z (Cn Z h (λt h=>?_) (λt h=>?_))
 .refine Gc 6 Z (Bd h λF G h=>CtE (b:=F) [0] [1] Ze Ze Zf ?_ (λM env H J d=>?_))
  .refine G0 1 Z (Lp [0] [1] (λm=>[(3,I m)]) Ze G Zf (Lr [0]) λm O a k=>?_);refine G0 6 Z (Lg 3 Z Z (Yd Z a (λu a=>?_) (λu a=>?_)))
   .exact Gc 2 Z (Qh a (Gx 1 Z (JB k a Z (Lr [0]))))
   refine Gc 9 Z (Bd a λL w a=>IzE w (Jc L) Z (Go 1 Z (Cz [] a (f _) Z λP N a=>Go 3 Z (Cn Z a (λx a=>?_) (λx a=>?_)))))
   .refine Gc 8 Z (Qw a ?_);obtain rfl:=Oj k a;exact Gx 1 Z (Qq (Gx 3 Z (Rt h 2 [])))
   exact Gc 8 Z (Qf a (Lr [0]))
  subst J;refine Gx 1 Z (Qd d (Gc 1 Z (Bd h λl e h=>Cg l [] [] (λl=>[(2,.bool l)]) Ze Zf ?_ ?_)))
  .refine G0 5 Z (Is 47 e Z (λy e=>?_) (λy e=>?_))
   iterate 2 exact Gl 6 Z e []
  exact QG 3 Z h 2 []
 exact QG 9 Z h 2 []
def F_ae:Nat->Value->Option Bool
  |0=>λ_=>none
  |n+1=>B_ae (F_ae n) n
theorem k_ae(n:Nat):∀(a:Value) (r:Bool),F_ae n a=some r->Csm prog 263 [.agg (Value.c a)] [] (λr=>.bool r) r:=by
  induction n with
  |zero=>intro a r h;cases h
  |succ n ih=>intro a r h;exact Qa3 _ ih n a r h
def F_lb(n:Nat)(e:Value)(rec258:Value->Option Int)(a:Int×Int):Option (Ctl (Int×Int) Int):=(bif decide (a.2<(e.L.length:Int))then(idx e.L a.2).bind λf=>(rec258 f).bind λd=>some (.cont ((if a.1<d then d else a.1),i64.wrap (a.2+1)))else some (.done a.1))
def B_ai(rec258:Value->Option Int)(n:Nat)(a:Value):Option Int:=(bif (a.Kind != 3)then some 0 else(iter (F_lb n a rec258) n (0,0):Option Int).bind λd=>some (i64.wrap (d+1)))
theorem Qbi(rec258:Value->Option Int)(e:∀(f:Value) (r:Int),rec258 f=some r->Csm prog 264 [.agg (Value.c f)] [] (λr=>I r) r)(n:Nat)(f:Value)(r:Int)(h:B_ai rec258 n f=some r):Csm prog 264 [.agg (Value.c f)] [] (λr=>I r) r:=by
 refine QF func264 Z Z Z ?_;refine G0 14 Z (Cn Z h (λm h=>?_) (λm h=>?_))
 .exact QG 7 Z h 2 []
 refine Gc 13 Z (Bd h λi p h=>Cg i [] [] (λi=>[(3,I i)]) Ze Zf ?_ ?_)
 .refine G0 1 Z (Lp [0] [1] (λd=>[(3,I d.1),(4,I d.2)]) Ze p Zf (Lr [0]) λd t a j=>?_);refine G0 6 Z (Lg 3 Z Z (Yd Z a (λk a=>?_) (λk a=>?_)))
  .exact Gc 2 Z (Qh a (Gx 1 Z (cQo j a (Lr []))))
  refine Gc 9 Z (Bd a λq l a=>IzE l (Jc q) Z (Go 1 Z (Cz [] a (e _) Z λg s a=>?_)));refine vX (I (if d.1<g then g else d.1)) (OpV.max Z Z Z Z) ?_;exact Go 9 Z (Qf a (Lr [0]))
 exact QG 8 Z h 2 []
def F_ai:Nat->Value->Option Int
  |0=>λ_=>none
  |n+1=>B_ai (F_ai n) n
theorem k_ai(n:Nat):∀(a:Value) (r:Int),F_ai n a=some r->Csm prog 264 [.agg (Value.c a)] [] (λr=>I r) r:=by
  induction n with
  |zero=>intro a r h;cases h
  |succ n ih=>intro a r h;exact Qbi _ ih n a r h
def F_il(n:Nat)(a:Value):Option Int:=(F_ae n a).bind λd=>(bif (!d)then some 1 else(F_ai n a).bind λe=>(bif decide (16<e)then some 2 else some 0))
theorem k_il(n:Nat)(a:Value):Ks (F_il n a) 240 [.agg (Value.c a)] [] (λr=>I r):=by
 refine Kg 10 func240 Z Z Z Z λr h=>Cz [] h (k_ae _ _) Z λi f h=>Go 3 Z (Cn Z h (λd h=>?_) (λd h=>?_))
 .exact QG 7 Z h 2 []
 refine Gc 6 Z (Cz [] h (k_ai _ _) Z λj g h=>Go 3 Z (Cn Z h (λe h=>?_) (λe h=>?_)))
 .exact QG 7 Z h 2 []
 exact QG 8 Z h 2 []
def F_ea(n:Nat)(a:Int):Option Int:=(bif decide (0<=a)then some (u64.wrap (2*(u64.wrap a)))else some (u64.wrap ((u64.wrap (2*(u64.wrap (i64.wrap (0-(i64.wrap (a+1)))))))+1)))
theorem k_ea(n:Nat)(a:Int):Ks (F_ea n a) 266 [I a] [] (λr=>.int .u64 r):=by
 refine Kg 12 func266 Z Z Z Z λr h=>Cn Z h (λd h=>?_) (λd h=>?_)
 .refine Gc 3 Z ?_;refine vX (.int .u64 (u64.wrap a)) (Y7 Z EL EI Z) ?_;exact Gt 6 Z h 2 []
 refine Gc 7 Z ?_;refine vV (x:=(.int .u64 (u64.wrap (i64.wrap (0-(i64.wrap (a+1))))))) (Y7 Z EL EI Z) ?_;exact Gt 6 Z h 2 []
def B_j(rec261:Int->Option (List Int))(n:Nat)(a:Int):Option (List Int):=(bif decide (a<128)then some [u8.wrap a]else(rec261 (u64.wrap (Int.tdiv a 128))).bind λd=>(app [u8.wrap (u64.wrap ((Int.tmod a 128)+128))] d).bind λe=>some e)
theorem QaO(rec261:Int->Option (List Int))(d:∀(a:Int) (r:List Int),rec261 a=some r->C prog 265 [.int .u64 a] [] (RQ (λr=>.osl 0 0 r.length 1) (λr=>[.row 5 1 (map (Qe .u8) r)]) r))(n:Nat)(a:Int)(r:List Int)(h:B_j rec261 n a=some r):C prog 265 [.int .u64 a] [] (RQ (λr=>.osl 0 0 r.length 1) (λr=>[.row 5 1 (map (Qe .u8) r)]) r):=by
 refine QF func265 Z Z Z ?_;refine G0 12 Z (Cn Z h (λf h=>?_) (λf h=>?_))
 .refine Gc 3 Z ?_;refine vX (.int .u8 (u8.wrap a)) (Y7 Z EI EZ Z) ?_;refine vH (Ej (xs:=[.tmp 6]) (es:=map (Qe .u8) [u8.wrap a]) YZ Z Z Z Z Z ⟨Z,trivial⟩ Z Z) ?_;exact FE Z (Gt 5 Z h 2 [0])
 refine Gc 5 Z ?_;refine vX (.int .u64 (Int.tmod a 128)) (OpV.rem Z Z Z (by decide)) ?_;refine Go 1 Z ?_;refine vV (x:=(.int .u8 (u8.wrap (u64.wrap ((Int.tmod a 128)+128))))) (Y7 Z EI EZ Z) ?_;refine vH (Ej (xs:=[.tmp 11]) (es:=map (Qe .u8) [u8.wrap (u64.wrap ((Int.tmod a 128)+128))]) YZ Z Z Z Z Z ⟨Z,trivial⟩ Z Z) ?_;refine Fg 1 Z Z ?_;refine vX (.int .u64 (u64.wrap (Int.tdiv a 128))) (OpV.quo Z Z Z (by decide)) ?_;refine Cd [] h (d _) Z λk j h=>FE Z (Bd h λl g h=>vH (Qg (e:=(Qe .u8)) g YZ EH (QM (i:=1))) ?_);exact FE Z (Gt 4 Z h 2 [2])
def F_j:Nat->Int->Option (List Int)
  |0=>λ_=>none
  |n+1=>B_j (F_j n) n
theorem k_j(n:Nat):∀(a:Int) (r:List Int),F_j n a=some r->C prog 265 [.int .u64 a] [] (RQ (λr=>.osl 0 0 r.length 1) (λr=>[.row 5 1 (map (Qe .u8) r)]) r):=by
  induction n with
  |zero=>intro a r h;cases h
  |succ n ih=>intro a r h;exact QaO _ ih n a r h
def F_kf(n:Nat)(d:Value)(rec259:Value->Option (List Int))(a:(List Int)×Int):Option (Ctl ((List Int)×Int) (List Int)):=(bif decide (a.2<(d.L.length:Int))then(idx d.L a.2).bind λe=>(rec259 e).bind λf=>(app a.1 f).bind λg=>some (.cont (g,i64.wrap (a.2+1)))else some (.done a.1))
def B_m(rec259:Value->Option (List Int))(n:Nat)(a:Value):Option (List Int):=(bif (a.Kind==1)then(F_ea n a.N).bind λe=>(F_j n e).bind λf=>(app [1] f).bind λg=>some g else(bif (a.Kind==2)then none else(F_j n (u64.wrap (a.L.length:Int))).bind λh=>(app [3] h).bind λi=>(iter (F_kf n a rec259) n (i,0):Option (List Int)).bind λd=>some d))
theorem Qa2(rec259:Value->Option (List Int))(g:∀(j:Value) (r:List Int),rec259 j=some r->C prog 241 [.agg (Value.c j)] [] (RQ (λr=>.osl 0 0 r.length 1) (λr=>[.row 5 1 (map (Qe .u8) r)]) r))(n:Nat)(j:Value)(r:List Int)(h:B_m rec259 n j=some r):C prog 241 [.agg (Value.c j)] [] (RQ (λr=>.osl 0 0 r.length 1) (λr=>[.row 5 1 (map (Qe .u8) r)]) r):=by
 refine QF func241 Z Z Z ?_;refine G0 20 Z (Cn Z h (λq h=>?_) (λq h=>?_))
 .refine Gc 2 Z (vH (Ej (xs:=[.const (.int .u8 1)]) (es:=map (Qe .u8) [1]) YZ Z Z Z Z Z ⟨Z,trivial⟩ Z Z) ?_);refine Fg 2 Z Z (Cz [] h (k_ea _ _) Z λJ z h=>Cd [] h (k_j _ _) Z λM B h=>FE Z (Bd h λN s h=>vH (Qg (e:=(Qe .u8)) s YZ EH (QM (i:=2))) ?_));exact FE Z (Gt 6 Z h 2 [3])
 refine Gc 6 Z (Cn Z h (λt h=>?_) (λt h=>?_))
 .refine Gc 1 Z ?_;cases h
 refine Gc 5 Z (vH (Ej (xs:=[.const (.int .u8 3)]) (es:=map (Qe .u8) [3]) YZ Z Z Z Z Z ⟨Z,trivial⟩ Z Z) ?_);refine Fg 2 Z Z (Lm Z ?_);refine vX (.int .u64 (u64.wrap (j.L.length:Int))) (Y7 Z EL EI Z) ?_;refine Cd [] h (k_j _ _) Z λO E h=>FE Z (Bd h λP u h=>vH (Qg (e:=(Qe .u8)) u YZ EH (QM (i:=2))) ?_);refine Fg 9 Z Z (Bd h λd w h=>Cg d [1] [] (λd=>[(3,.osl 0 0 d.length 1)]) (λd=>[(0,.row 5 1 (map (Qe .u8) d))]) Zf ?_ ?_)
 .refine G0 1 Z (Lp [0,3] [1] (λf=>[(3,.osl 1 0 f.1.length 1),(4,I f.2)]) (λf=>[(1,.row 5 1 (map (Qe .u8) f.1))]) w Zf (Lr [0,3]) λf F a k=>?_);refine G0 6 Z (Lg 3 Z Z (Yd Z a (λl a=>?_) (λl a=>?_)))
  .exact Gc 2 Z (Qh a (Gx 1 Z (cQo k a (Lr [1]))))
  refine Gc 9 Z (Bd a λx m a=>IzE m (Jc x) Z (Go 1 Z (Cd [] a (g _) Z λG y a=>FE Z (Bd a λH p a=>vH (Qg (e:=(Qe .u8)) p YZ EH (QM (i:=2))) ?_))));exact Fg 9 Z Z (Qf a (Lr [0,3]))
 exact QG 7 Z h 2 [0]
def F_m:Nat->Value->Option (List Int)
  |0=>λ_=>none
  |n+1=>B_m (F_m n) n
theorem k_m(n:Nat):∀(a:Value) (r:List Int),F_m n a=some r->C prog 241 [.agg (Value.c a)] [] (RQ (λr=>.osl 0 0 r.length 1) (λr=>[.row 5 1 (map (Qe .u8) r)]) r):=by
  induction n with
  |zero=>intro a r h;cases h
  |succ n ih=>intro a r h;exact Qa2 _ ih n a r h
def F_kg(n:Nat)(a:Value):Option ((List Int)×Int):=(F_il n a).bind λd=>(bif (d != 0)then some ([],d)else(F_m n a).bind λe=>some (e,0))
theorem k_kg(n:Nat)(a:Value):Kq (F_kg n a) 210 [.agg (Value.c a)] [] (λr=>.tup [.osl 0 0 r.1.length 1,I r.2]) (λr=>[.row 5 1 (map (Qe .u8) r.1)]):=by
 refine Kg 10 func210 Z Z Z Z λr h=>Cz [] h (k_il _ _) Z λg e h=>Go 10 Z (Cn Z h (λd h=>?_) (λd h=>?_))
 .refine Gc 9 Z ?_;obtain rfl:=Oi h;refine R2 2 3 Z Z ?_;refine Em (Eo (s:=2) (k:=1) (t:=5) (XO Z) Z) ?_;exact Lr [1]
 refine Gc 5 Z (Cd [] h (k_m _ _) Z λi f h=>Fg 5 Z Z ?_);obtain rfl:=Oi h;exact R2 2 3 Z Z (Lr [1])
def F_cb(n:Nat)(a:Fact):Option ((List Int)×Int):=(F_az n a).bind λe=>(bif (e != 0)then some ([],120)else(F_dm n a).bind λf=>(F_gm n f).bind λg=>(F_kg n ({Kind:=3,N:=0,S:=[],L:=g:Value})).bind λd=>some (d.1,d.2))
theorem k_cb(n:Nat)(a:Fact):Kq (F_cb n a) 155 [.agg (Fact.c a)] [] (λr=>.tup [.osl 0 0 r.1.length 1,I r.2]) (λr=>[.row 5 1 (map (Qe .u8) r.1)]):=by
 refine Kg 11 func155 Z Z Z Z λr h=>Cz [] h (k_az _ _) Z λj e h=>Go 3 Z (Cn Z h (λd h=>?_) (λd h=>?_))
 .refine Gc 8 Z ?_;obtain rfl:=Oi h;refine R2 2 3 Z Z ?_;refine Em (Eo (s:=2) (k:=1) (t:=5) (XO Z) Z) ?_;exact Lr [1]
 refine Gc 5 Z (Cd [] h (k_dm _ _) Z λl f h=>FE Z ?_);refine QH (Qau [(8,_)] Z Z (QpL.cons Z En QpL.nil) (Ec (Ec (Jl _)))) ?_;refine Cd [] h (k_gm _ _) Z λm g h=>FE Z ?_;refine QH (Qau [(9,_)] Z Z (QpL.cons Z (FzA.agg (Ed (Ee _) (Ed (Ee _) (Ed (Ee _) (Ed En (Ei _)))))) QpL.nil) (Ec (Ec (Ec (FzH.cells (Ed (Ee _) (Ed (Ee _) (Ed (Ee _) (Ed En (Ei _))))) (Jl _)))))) ?_;refine Cd [] h (k_kg _ _) Z λp i h=>Fg 7 Z Z ?_;obtain rfl:=Oi h;exact R2 2 3 Z Z (Lr [4])
def F_el(n:Nat)(d:Fact)(e:Fact)(a:Int):Option (Ctl Int (Ctl Unit Int)):=(bif decide (a<3)then(idx [d.At,d.Crew,d.No] a).bind λf=>(idx [e.At,e.Crew,e.No] a).bind λg=>(bif decide (f<g)then some (.done (.done (-1)))else(idx [d.At,d.Crew,d.No] a).bind λh=>(idx [e.At,e.Crew,e.No] a).bind λi=>(bif decide (i<h)then some (.done (.done 1))else some (.cont (i64.wrap (a+1)))))else some (.done (.cont ())))
def F_dc(n:Nat)(f:Fact)(g:Fact):Option Int:=(iter (F_el n f g) n 0:Option (Ctl Unit Int)).bind λh=>match h with|.cont a=>((F_cb n f).bind λd=>(F_cb n g).bind λe=>(bif Op.bytesLess (map Yc d.1) (map Yc e.1)then some (-1)else(bif (!(Op.bytesLess (map Yc d.1) (map Yc e.1)||(map Yc d.1)==(map Yc e.1)))then some 1 else some 0)))|.done a=>some a
theorem k_dc(n:Nat)(j:Fact)(k:Fact):Ks (F_dc n j k) 78 [.agg (Fact.c j),.agg (Fact.c k)] [] (λr=>I r):=by
 refine Kg 15 func78 Z Z Z Z λr h=>vH (Ej (xs:=[.tmp 13,.tmp 15,.tmp 17]) (es:=map (Qe .i64) [j.At,j.Crew,j.No]) Qv Z Z Z Z Z ⟨Z,Z,Z,trivial⟩ Z Z) ?_;refine Fg 11 Z Z (vH (Ej (xs:=[.tmp 20,.tmp 22,.tmp 24]) (es:=map (Qe .i64) [k.At,k.Crew,k.No]) Qv Z Z Z Z Z ⟨Z,Z,Z,trivial⟩ Z Z) ?_);refine Fg 9 Z Z (Bd h λB E h=>CgE (b:=B) [0,1] [2,3] Ze Ze Zf ?_ (λM F=>?_))
 .refine G0 1 Z (Lp [0,1,2,3] [2,3,5,6] (λd=>[(7,I d)]) Ze E Zf (Lr [0,1,2,3]) λd P a g=>?_);refine G0 7 Z (Yd Z a (λt a=>?_) (λt a=>?_))
  .exact Gc 2 Z (Qh a (Gx 1 Z (JB g a Z (Lr [0,1]))))
  refine Gc 6 Z (DSs 8 Z (D 2 Z ?_));obtain⟨G,m,a⟩:=YB a;refine DS.v (x:=(.ptr 2 (toNat d*1))) (Qp m Z EC EF) ?_;refine DS.v (x:=(I G)) (Ey Z ED Z (Qo m)) ?_;refine D 2 Z ?_;obtain⟨H,p,a⟩:=YB a;refine DS.v (x:=(.ptr 3 (toNat d*1))) (Qp p Z EC EF) ?_;refine DS.v (x:=(I H)) (Ey Z ED Z (Qo p)) ?_;refine Eg Z (Go 3 Z (Cn Z a (λu a=>?_) (λu a=>?_)))
  .refine Gc 9 Z (Qw a ?_);obtain rfl:=Oj g a;exact Gx 1 Z (Qq (Gx 1 Z (Rt h 4 [])))
  refine Gc 3 Z (DSs 8 Z (D 2 Z ?_));obtain⟨J,q,a⟩:=YB a;refine DS.v (x:=(.ptr 2 (toNat d*1))) (Qp q Z EC EF) ?_;refine DS.v (x:=(I J)) (Ey Z ED Z (Qo q)) ?_;refine D 2 Z ?_;obtain⟨L,s,a⟩:=YB a;refine DS.v (x:=(.ptr 3 (toNat d*1))) (Qp s Z EC EF) ?_;refine DS.v (x:=(I L)) (Ey Z ED Z (Qo s)) ?_;refine Eg Z (Go 3 Z (Cn Z a (λw a=>?_) (λw a=>?_)))
  .refine Gc 8 Z (Qw a ?_);obtain rfl:=Oj g a;exact Gx 1 Z (Qq (Gx 1 Z (Rt h 4 [])))
  exact Gc 8 Z (Qf a (Lr [0,1,2,3]))
 subst F;refine Gc 3 Z (Cd [] h (k_cb _ _) Z λe N h=>Fg 10 Z Z (Cd [] h (k_cb _ _) Z λf O h=>Fg 11 Z Z ?_));refine vX (.str (map Yc e.1)) (QcM (l:=e.1) (QlS.row (i:=2)) EH EZ EE) ?_;refine Go 1 Z ?_;refine vX (.str (map Yc f.1)) (QcM (l:=f.1) (QlS.row (i:=3)) EH EZ EE) ?_;refine Go 3 Z (Cn Z h (λy h=>?_) (λy h=>?_))
 .exact QG 7 Z h 4 []
 refine Gc 6 Z ?_;refine vX (.str (map Yc e.1)) (QcM (l:=e.1) (QlS.row (i:=2)) EH EZ EE) ?_;refine Go 1 Z ?_;refine vX (.str (map Yc f.1)) (QcM (l:=f.1) (QlS.row (i:=3)) EH EZ EE) ?_;refine vX (.bool (!(Op.bytesLess (map Yc e.1) (map Yc f.1)||(map Yc e.1)==(map Yc f.1)))) (QnS Z Z Z) ?_;refine Go 2 Z (Cn Z h (λz h=>?_) (λz h=>?_))
 .exact QG 7 Z h 4 []
 exact QG 8 Z h 4 []
def F_cv(n:Nat)(i:List Fact)(d:(List Fact)×Int)(a:Int):Option (Ctl Int Int):=((bif decide (a<(d.1.length:Int))then(idx d.1 a).bind λe=>(idx i d.2).bind λf=>(F_dc n e f).bind λg=>some (decide (g<0))else some false):Option Bool).bind λh=>(bif h then some (.cont (i64.wrap (a+1)))else some (.done a))
def F_lg(n:Nat)(e:List Fact)(a:(List Fact)×Int):Option (Ctl ((List Fact)×Int) (List Fact)):=(bif decide (a.2<(e.length:Int))then((idx e a.2).bind λf=>(F_az n f).bind λg=>(bif (g != 0)then some a.1 else(iter (F_cv n e a) n 0:Option Int).bind λd=>((bif decide (d<(a.1.length:Int))then(idx a.1 d).bind λh=>(idx e a.2).bind λi=>some (h==i)else some false):Option Bool).bind λj=>(bif j then some a.1 else(slc a.1 0 d).bind λk=>(app ([]:List Fact) k).bind λl=>(idx e a.2).bind λm=>(app l [m]).bind λp=>(slc a.1 d (a.1.length:Int)).bind λq=>(app p q).bind λr=>some r)):Option (List Fact)).bind λs=>some (.cont (s,i64.wrap (a.2+1)))else some (.done a.1))
def F_ad(n:Nat)(d:List Fact):Option (List Fact):=(iter (F_lg n d) n (([]:List Fact),0):Option (List Fact)).bind λa=>some a
theorem QoE(n:Nat)(R:List Fact):Kq (F_ad n R) 46 [.rsl 57 (map Fact.c R)] [] (λr=>.osl 0 0 r.length 57) (λr=>[.row 68 57 (map Fact.c r)]):=by
 refine Kg 7 func46 Z Z Z Z λr h=>vH (Ej (xs:=[]) (es:=map Fact.c []) YF Z Z Z Z Z trivial Z Z) ?_;refine Fg 9 Z Z (Bd h λw ak h=>Cg w [0] [] (λw=>[(3,.osl 0 0 w.length 57)]) (λw=>[(0,.row 68 57 (map Fact.c w))]) Zf ?_ ?_)
 .refine G0 1 Z (Lp [0] [0] (λi=>[(3,.osl 0 0 i.1.length 57),(4,I i.2)]) (λi=>[(0,.row 68 57 (map Fact.c i.1))]) ak Zf (Lr [0]) λi aq s T=>?_);refine G0 5 Z (Lg 3 Z Z (Yd Z s (λV s=>?_) (λV s=>?_)))
  .exact Gc 2 Z (Qh s (Gx 1 Z (cQo T s (Lr [0]))))
  refine Gc 3 Z (Bd s λy g s=>Cg y [0] [0,4] (λy=>[(3,.osl 0 0 y.length 57)]) (λy=>[(0,.row 68 57 (map Fact.c y))]) Zf ?_ ?_)
  .refine G0 6 Z (Bd g λar W g=>Iz W Z (Go 1 Z (Cz [] g (k_az _ _) Z λau an g=>Go 3 Z (Cn Z g (λX g=>?_) (λX g=>?_)))))
   .exact YC 3 Z g [0]
   refine Gc 8 Z (Bd g λj al g=>Ct j [0] [0,3,4] (λj=>[(5,I j)]) Ze Zf ?_ (λenv H O=>?_))
   .refine G0 1 Z (Lp [0] [0,3,4] (λF=>[(5,I F)]) Ze al Zf (Lr [0]) λF av t Y=>?_);refine G0 2 Z (Bd t λG k t=>Ct G [0] [0,3,4,5] (λG=>[(34,.bool G)]) Ze Zf ?_ (λenv H O=>?_))
    .refine G0 0 Z (DSs 13 Z (D 5 Z (QbE 4 k Z Z Z (λaa k=>?_) (λaa k=>?_))))
     .refine D 2 Z ?_;obtain⟨am,M,k⟩:=YB k;refine DS.v (x:=(.ptr 0 (toNat F*57))) (Qp M Z EA EB) ?_ (hg:=(gT Z));refine DS.v (x:=(.agg (Fact.c am))) (Qn Z EJ EB Z (Qo M) Z Z) ?_ (hg:=(gT Z));refine D 2 Z ?_;obtain⟨f,ab,k⟩:=YB k;refine DS.v (x:=(.rp [I f.Crew,I f.No,I f.At,I f.Kind,I f.Starter.Bib,I f.Starter.Distance,I f.Starter.Wave,I f.Starter.Slot,I f.Starter.Age,I f.Starter.Chip,I f.Starter.Team,I f.Starter.Lot,I f.Read.Mat,I f.Read.Epoch,I f.Read.Chip,I f.Read.Local,I f.Beacon.Mat,I f.Beacon.Epoch,I f.Beacon.Local,I f.Beacon.True,I f.Beacon.Err,I f.Sync.MatA,I f.Sync.EpochA,I f.Sync.LocalA,I f.Sync.MatB,I f.Sync.EpochB,I f.Sync.LocalB,I f.Sync.Min,I f.Sync.Max,I f.Hand.Bib,I f.Hand.Position,I f.Hand.Lo,I f.Hand.Hi,I f.Silence.Mat,I f.Silence.Epoch,I f.Silence.Lo,I f.Silence.Hi,I f.Pair.A,I f.Pair.B,I f.Report.Case,I f.Report.Bib,I f.Report.Offence,I f.Report.Position,I f.Protest.Case,I f.Protest.By,I f.Protest.Fee,I f.Protest.Form,I f.Ruling.Case,I f.Ruling.Instance,I f.Ruling.Kind,I f.Ruling.Bib,I f.Ruling.Position,I f.Ruling.Amount,I f.Appeal.Case,.bool f.Appeal.Suspends,I f.Void.Crew,I f.Void.No])) (QcL (e:=Fact.c) (l:=R) (v:=f) ab EA EB) ?_ (hg:=(gT Z));exact D 1 Z (Eg Z (Cz [] k (k_dc _ _ _) Z λaw ao k=>Gl 3 Z k [0]))
     .exact D 8 Z (Eg Z (Gl 4 Z k [0]))
    refine Gx 1 Z (Qd O (Yd Z t (λac t=>?_) (λac t=>?_)))
    .exact Gc 2 Z (Qh t (Gx 1 Z (cQo Y t (Lr [0]))))
    exact Gc 9 Z (Qf t (Lr [0]))
   refine Gx 1 Z (Qd O (Gc 2 Z (Bd g λJ m g=>Cg J [0] [0,3,4,5] (λJ=>[(51,.bool J)]) Ze Zf ?_ ?_)))
   .refine G0 0 Z (DSs 13 Z (D 5 Z (QbE 4 m Z Z Z (λae m=>?_) (λae m=>?_))))
    .refine D 2 Z ?_;obtain⟨L,N,m⟩:=YB m;refine DS.v (x:=(.ptr 0 (toNat j*57))) (Qp N Z EA EB) ?_ (hg:=(gT Z));refine DS.v (x:=(.agg (Fact.c L))) (Qn Z EJ EB Z (Qo N) Z Z) ?_ (hg:=(gT Z));refine D 2 Z ?_;obtain⟨d,af,m⟩:=YB m;refine DS.v (x:=(.rp [I d.Crew,I d.No,I d.At,I d.Kind,I d.Starter.Bib,I d.Starter.Distance,I d.Starter.Wave,I d.Starter.Slot,I d.Starter.Age,I d.Starter.Chip,I d.Starter.Team,I d.Starter.Lot,I d.Read.Mat,I d.Read.Epoch,I d.Read.Chip,I d.Read.Local,I d.Beacon.Mat,I d.Beacon.Epoch,I d.Beacon.Local,I d.Beacon.True,I d.Beacon.Err,I d.Sync.MatA,I d.Sync.EpochA,I d.Sync.LocalA,I d.Sync.MatB,I d.Sync.EpochB,I d.Sync.LocalB,I d.Sync.Min,I d.Sync.Max,I d.Hand.Bib,I d.Hand.Position,I d.Hand.Lo,I d.Hand.Hi,I d.Silence.Mat,I d.Silence.Epoch,I d.Silence.Lo,I d.Silence.Hi,I d.Pair.A,I d.Pair.B,I d.Report.Case,I d.Report.Bib,I d.Report.Offence,I d.Report.Position,I d.Protest.Case,I d.Protest.By,I d.Protest.Fee,I d.Protest.Form,I d.Ruling.Case,I d.Ruling.Instance,I d.Ruling.Kind,I d.Ruling.Bib,I d.Ruling.Position,I d.Ruling.Amount,I d.Appeal.Case,.bool d.Appeal.Suspends,I d.Void.Crew,I d.Void.No])) (QcL (e:=Fact.c) (l:=R) (v:=d) af EA EB) ?_ (hg:=(gT Z));refine D 1 Z (Eg Z ?_);refine vX (.bool (L==d)) (Qh7 (p:=L) (q:=d) QlH Z Z) ?_ (gT Z);exact Gl 2 Z m [0]
    .exact D 8 Z (Eg Z (Gl 3 Z m [0]))
   refine Cn Z g (λag g=>?_) (λag g=>?_)
   .exact YC 3 Z g [0]
   refine Gc 2 Z (DKs 14 [0,4,10] [(1,0,0),(0,0,1),(0,0,1),(0,0,1),(1,1,0),(0,0,2),(0,0,2),(0,0,2),(0,0,2),(0,0,2),(1,2,0),(0,0,3),(0,0,3),(0,0,3)] (by kernel_rfl) ?_);refine Ew (x:=.osl 1 0 (([]:List Fact).length) 57) (X1:=[.row 68 57 (map Fact.c i.1),.row 68 57 (map Fact.c ([]:List Fact))]) ?_ ?_
   .refine vH (Ej (xs:=[]) (es:=map Fact.c []) YF Z Z Z Z Z trivial Z Z) ?_;exact FE Z Wp
   refine Dk 2 Z ?_;obtain⟨ax,z,g⟩:=YB g;refine QaZ (lo:=0) (hi:=1) (x:=.osl 0 (0+toNat 0) (toNat j-toNat 0) 57) ⟨?_,?_,trivial⟩ ?_
   iterate 2 refine vX (.osl 0 (0+toNat 0) (toNat j-toNat 0) 57) (Q6 (l:=i.1) z EA EB (.inl ⟨Z,Z⟩) (.inr ⟨_,Z,Z⟩)) ?_;exact Wp
   obtain⟨P,ah,g⟩:=YB g;refine Ew (x:=.osl 2 0 P.length 57) (X1:=[.row 68 57 (map Fact.c i.1),.dead,.row 68 57 (map Fact.c P)]) ?_ ?_
   .refine vH (Qg (e:=Fact.c) ah YF EA (QeE (b:=0) z)) ?_;exact FE Z Wp
   refine Dk 2 Z ?_;obtain⟨a,E,g⟩:=YB g;refine QaZ (lo:=0) (hi:=2) (x:=.rp [I a.Crew,I a.No,I a.At,I a.Kind,I a.Starter.Bib,I a.Starter.Distance,I a.Starter.Wave,I a.Starter.Slot,I a.Starter.Age,I a.Starter.Chip,I a.Starter.Team,I a.Starter.Lot,I a.Read.Mat,I a.Read.Epoch,I a.Read.Chip,I a.Read.Local,I a.Beacon.Mat,I a.Beacon.Epoch,I a.Beacon.Local,I a.Beacon.True,I a.Beacon.Err,I a.Sync.MatA,I a.Sync.EpochA,I a.Sync.LocalA,I a.Sync.MatB,I a.Sync.EpochB,I a.Sync.LocalB,I a.Sync.Min,I a.Sync.Max,I a.Hand.Bib,I a.Hand.Position,I a.Hand.Lo,I a.Hand.Hi,I a.Silence.Mat,I a.Silence.Epoch,I a.Silence.Lo,I a.Silence.Hi,I a.Pair.A,I a.Pair.B,I a.Report.Case,I a.Report.Bib,I a.Report.Offence,I a.Report.Position,I a.Protest.Case,I a.Protest.By,I a.Protest.Fee,I a.Protest.Form,I a.Ruling.Case,I a.Ruling.Instance,I a.Ruling.Kind,I a.Ruling.Bib,I a.Ruling.Position,I a.Ruling.Amount,I a.Appeal.Case,.bool a.Appeal.Suspends,I a.Void.Crew,I a.Void.No]) ⟨?_,?_,?_,trivial⟩ ?_
   iterate 3 exact Ix E EA EB Z Wp
   refine Dk 1 Z ?_;refine QaZ (lo:=0) (hi:=2) (x:=.rsl 57 (map Fact.c [a])) ⟨?_,?_,?_,trivial⟩ ?_
   iterate 3 refine vH (Q5 (xs:=[.tmp 60]) (es:=map Fact.c [a]) YF Z Z Z Z Z ⟨Z,trivial⟩ Z Z) ?_;exact FE Z Wp
   obtain⟨Q,ai,g⟩:=YB g;refine Ew (x:=.osl 3 0 Q.length 57) (X1:=[.row 68 57 (map Fact.c i.1),.dead,.dead,.row 68 57 (map Fact.c Q)]) ?_ ?_
   .refine vH (Qg (e:=Fact.c) ai YF EA Jd) ?_;exact FE Z Wp
   refine Dk 2 Z ?_;obtain⟨ay,u,g⟩:=YB g;refine QaZ (lo:=0) (hi:=3) (x:=.osl 0 (0+toNat j) (toNat (i.1.length:Int)-toNat j) 57) ⟨?_,?_,?_,?_,trivial⟩ ?_
   iterate 4 refine vX (.osl 0 (0+toNat j) (toNat (i.1.length:Int)-toNat j) 57) (Q6 (l:=i.1) u EA EB (.inr ⟨_,Z,Z⟩) (.inl ⟨Z,Z⟩)) ?_;exact Wp
   refine DK.done Z Z (Bd g λaz aj g=>?_);refine vH (Qg (e:=Fact.c) aj YF EA (QeE (b:=0) u)) ?_;exact FE Z (Gl 3 Z g [4])
  exact Gc 5 Z (Qf s (Lr [0]))
 exact QG 7 Z h 2 [0]
def F_lp(n:Nat)(i:Int)(d:List Fact)(a:Int):Option (Ctl Int (Ctl Unit (Fact×Bool))):=(bif decide (a<(d.length:Int))then((idx d a).bind λe=>(bif (e.Kind==8)then(idx d a).bind λf=>some (f.Report.Case==i)else some false):Option Bool).bind λg=>(bif g then(idx d a).bind λh=>some (.done (.done (h,true)))else some (.cont (i64.wrap (a+1))))else some (.done (.cont ())))
def F_aw(n:Nat)(e:List Fact)(f:Int):Option (Fact×Bool):=(F_ad n e).bind λg=>(iter (F_lp n f g) n 0:Option (Ctl Unit (Fact×Bool))).bind λd=>match d with|.cont a=>(some (Uk,false))|.done a=>some a
theorem k_aw(n:Nat)(s:List Fact)(t:Int):Kq (F_aw n s t) 24 [.rsl 57 (map Fact.c s),I t] [] (λr=>.tup [.agg (Fact.c r.1),.bool r.2]) (λr=>[.cells 68 (Fact.c r.1)]):=by
 refine Kg 9 func24 Z Z Z Z λr h=>Cd [] h (QoE _ _) Z λH F h=>Fg 9 Z Z (Bd h λu w h=>CgE (b:=u) [1] [4] Ze (λ_=>[(0,.cells 68 (Fact.c Uk))]) Zf ?_ (λE x=>?_))
 .refine G0 1 Z (Lp [1,0] [0,1,4] (λe=>[(6,I e)]) Ze w Zf (Lr [1,0]) λe G a g=>?_);refine G0 9 Z (Yd Z a (λm a=>?_) (λm a=>?_))
  .exact Gc 2 Z (Qh a (Gx 1 Z (JB g a Z (Lr [1]))))
  refine Gc 5 Z (Bd a λi d a=>Cg i [0,1] [0,1,4,6] (λi=>[(30,.bool i)]) Ze Zf ?_ ?_)
  .refine G0 3 Z (Bd d λy j d=>?_);refine vX (.ptr 0 (toNat e*57)) (Qp j Z EA EB) ?_;refine Fp QdO Z ?_;refine vX (I y.Kind) (Ey Z ED Z (QR (f:=3) j)) ?_;refine Go 2 Z (Is 21 d Z (λp d=>?_) (λp d=>?_))
   .refine Go 2 Z (Bd d λz k d=>?_);refine vX (.ptr 0 (toNat e*57)) (Qp k Z EA EB) ?_ (gT Z);refine Fpg (gT Z) Qgo Z (Fpg (gT Z) QmB Z ?_);refine vX (I z.Report.Case) (Ey Z ED Z (QR (f:=39) k)) ?_ (gT Z);exact Gl 4 Z d [0,1]
   .exact Gl 10 Z d [0,1]
  refine Cn Z a (λq a=>?_) (λq a=>?_)
  .refine Gc 4 Z (Bd a λB l a=>?_);refine vX (.ptr 0 (toNat e*57)) (Qp l Z EA EB) ?_;refine vX (.agg (Fact.c B)) (Qn Z EJ EB Z (Qo l) Z Z) ?_;refine Go 7 Z (Qw a ?_);obtain rfl:=Oj g a;refine Gx 1 Z (Qq (Gx 1 Z ?_));obtain rfl:=Oi h;exact Rx [1] [4,5] Z (QU Z Z (QlU.cons (QE EJ EB Z Z Z) (QlU.cons Qd6.tmp QlU.nil))) ⟨Z,Z⟩
  exact Gc 8 Z (Qf a (Lr [0,1]))
 subst x;refine Gc 8 Z ?_;obtain rfl:=Oi h;exact Rx [0] [4,5] Z (QU Z Z (QlU.cons (QE EJ EB Z Z Z) (QlU.cons Qd6.tmp QlU.nil))) ⟨Z,Z⟩
def F_kx(n:Nat)(d:List Fact)(i:Int)(j:Int)(a:Int):Option (Ctl Int (Ctl Unit Int)):=(bif decide (a<(d.length:Int))then((idx d a).bind λe=>(bif (e.Kind==10)then(idx d a).bind λf=>(bif (f.Ruling.Case==i)then(idx d a).bind λg=>some (g.Ruling.Instance==j)else some false)else some false):Option Bool).bind λh=>(bif h then some (.done (.done a))else some (.cont (i64.wrap (a+1))))else some (.done (.cont ())))
def F_fx(n:Nat)(e:List Fact)(f:Int)(g:Int):Option Int:=(iter (F_kx n e f g) n 0:Option (Ctl Unit Int)).bind λd=>match d with|.cont a=>(some (-1))|.done a=>some a
theorem k_fx(n:Nat)(s:List Fact)(t:Int)(u:Int):Ks (F_fx n s t u) 137 [.rsl 57 (map Fact.c s),I t,I u] [] (λr=>I r):=by
 refine Kg 11 func137 Z Z Z Z λr h=>Bd h λw x h=>CgE (b:=w) [] [] Ze Ze Zf ?_ (λz y=>?_)
 .refine G0 1 Z (Lp [] [0,1,2] (λg=>[(7,I g)]) Ze x Zf (Lr []) λg B d e=>?_);refine G0 5 Z (Lg 3 Z Z (Yd Z d (λi d=>?_) (λi d=>?_)))
  .exact Gc 2 Z (Qh d (Gx 1 Z (JB e d Z (Lr []))))
  refine Gc 5 Z (Bd d λf a d=>Cg f [] [0,1,2,7] (λf=>[(39,.bool f)]) Ze Zf ?_ ?_)
  .refine G0 3 Z (Bd a λE j a=>Iz j Z (Go 4 Z (Is 20 a Z (λk a=>?_) (λk a=>?_))))
   .refine Go 2 Z (Bd a λF l a=>Iz l Z (Go 7 Z (Is 30 a Z (λm a=>?_) (λm a=>?_))))
    .exact Go 2 Z (Bd a λG p a=>Iz p Z (Gl 7 Z a []))
    .exact Gl 10 Z a []
   .exact Gl 20 Z a []
  refine Cn Z d (λq d=>?_) (λq d=>?_)
  .refine Gc 9 Z (Qw d ?_);obtain rfl:=Oj e d;exact Gx 1 Z (Qq (Gx 1 Z (Rt h 6 [])))
  exact Gc 8 Z (Qf d (Lr []))
 subst y;exact QG 6 Z h 6 []
def F_lf(n:Nat)(d:List Fact)(a:(List Ref)×Int):Option (Ctl ((List Ref)×Int) (List Ref)):=(bif decide (a.2<(d.length:Int))then((idx d a.2).bind λe=>(bif (e.Kind==10)then(idx d a.2).bind λf=>(idx d a.2).bind λg=>(F_fx n d f.Ruling.Case g.Ruling.Instance).bind λh=>some (h != a.2)else some false):Option Bool).bind λi=>((bif i then(idx d a.2).bind λj=>(idx d a.2).bind λk=>(app a.1 [{Crew:=j.Crew,No:=k.No:Ref}]).bind λl=>some l else some a.1):Option (List Ref)).bind λm=>some (.cont (m,i64.wrap (a.2+1)))else some (.done a.1))
def F_gh(n:Nat)(d:List Fact):Option (List Ref):=(F_ad n d).bind λe=>(iter (F_lf n e) n (([]:List Ref),0):Option (List Ref)).bind λa=>some a
theorem k_gh(n:Nat)(L:List Fact):Kq (F_gh n L) 64 [.rsl 57 (map Fact.c L)] [] (λr=>.osl 0 0 r.length 2) (λr=>[.row 66 2 (map Ref.c r)]):=by
 refine Kg 8 func64 Z Z Z Z λr h=>Cd [] h (QoE _ _) Z λW R h=>Fg 5 Z Z (vH (Ej (xs:=[]) (es:=map Ref.c []) QgL Z Z Z Z Z trivial Z Z) ?_);refine Fg 9 Z Z (Bd h λj M h=>Cg j [1] [] (λj=>[(4,.osl 0 0 j.length 2)]) (λj=>[(0,.row 66 2 (map Ref.c j))]) Zf ?_ ?_)
 .refine G0 1 Z (Lp [0,1] [3] (λa=>[(4,.osl 1 0 a.1.length 2),(5,I a.2)]) (λa=>[(1,.row 66 2 (map Ref.c a.1))]) M Zf (Lr [0,1]) λa T i z=>?_);refine G0 9 Z (Yd Z i (λB i=>?_) (λB i=>?_))
  .exact Gc 2 Z (Qh i (Gx 1 Z (cQo z i (Lr [1]))))
  refine Gc 5 Z (Bd i λl d i=>Ct l [0,1] [3,4,5] (λl=>[(38,.bool l)]) Ze Zf ?_ (λenv H m=>?_))
  .refine G0 0 Z (DSs 22 Z (D 2 Z ?_));obtain⟨N,p,d⟩:=YB d;refine DS.v (x:=(.ptr 0 (toNat a.2*57))) (Qp p Z EA EB) ?_;refine DS.wo (x:=.ptr 0 (toNat a.2*57+3)) ?_ ?_
   .exact Fp QdO Z Wp
   refine DS.v (x:=(I N.Kind)) (Ey Z ED Z (QR (f:=3) p)) ?_;refine D 2 Z (QbE 6 d Z Z Z (λE d=>?_) (λE d=>?_))
   .refine D 3 Z ?_;obtain⟨O,q,d⟩:=YB d;refine DS.v (x:=(.ptr 0 (toNat a.2*57))) (Qp q Z EA EB) ?_ (hg:=(gT Z));refine DS.wo (x:=.ptr 0 (toNat a.2*57+47)) ?_ ?_
    .exact Fpg (gT Z) Jp Z Wp
    refine DS.wo (x:=.ptr 0 (toNat a.2*57+47)) ?_ ?_
    .exact Fpg (gT Z) QmA Z Wp
    refine DS.v (x:=(I O.Ruling.Case)) (Ey Z ED Z (QR (f:=47) q)) ?_ (hg:=(gT Z));refine D 2 Z ?_;obtain⟨P,s,d⟩:=YB d;refine DS.v (x:=(.ptr 0 (toNat a.2*57))) (Qp s Z EA EB) ?_ (hg:=(gT Z));refine DS.wo (x:=.ptr 0 (toNat a.2*57+47)) ?_ ?_
    .exact Fpg (gT Z) Jp Z Wp
    refine DS.wo (x:=.ptr 0 (toNat a.2*57+48)) ?_ ?_
    .exact Fpg (gT Z) QbM Z Wp
    refine DS.v (x:=(I P.Ruling.Instance)) (Ey Z ED Z (QR (f:=48) s)) ?_ (hg:=(gT Z));obtain⟨Q,F,d⟩:=YB d;refine DS.wo (x:=I Q) ?_ ?_
    .refine QbA (OpC.fn call137 rfl rfl rfl) (QbC.cons rfl (.inr ⟨_,_,_,_,_,rfl,rfl,XX ..,rfl⟩) (QbC.cons rfl (.inl ⟨rfl,rfl⟩) (QbC.cons rfl (.inl ⟨rfl,rfl⟩) QbC.nil))) (k_fx _ _ _ _ _ F) (by rintro _ _ ⟨rfl,rfl⟩;rfl) ?_ (gT rfl);rintro _ _ ⟨rfl,rfl⟩;exact FE Z Wp
    exact D 1 Z (Eg Z (Gl 3 Z d [0,1]))
   .exact D 15 Z (Eg Z (Gl 3 Z d [0,1]))
  refine Gx 1 Z (Qd m (Bd i λk g i=>Ct k [0,0] [3,5] (λk=>[(4,.osl 1 0 k.length 2)]) (λk=>[(1,.row 66 2 (map Ref.c k))]) Zf ?_ (λenv H m=>?_)))
  .refine G0 0 Z (Cn Z g (λG g=>?_) (λG g=>?_))
   .refine DSs 13 Z (D 3 Z ?_);obtain⟨t,u,g⟩:=YB g;refine DS.v (x:=(.ptr 0 (toNat a.2*57))) (Qp u Z EA EB) ?_;refine DS.wo (x:=.ptr 0 (toNat a.2*57)) ?_ ?_
    .exact Fp Qqk Z Wp
    refine DS.v (x:=(I t.Crew)) (Ey Z ED Z (Qo u)) ?_;refine D 2 Z ?_;obtain⟨w,y,g⟩:=YB g;refine DS.v (x:=(.ptr 0 (toNat a.2*57))) (Qp y Z EA EB) ?_;refine DS.wo (x:=.ptr 0 (toNat a.2*57+1)) ?_ ?_
    .exact Fp QdQ Z Wp
    refine DS.v (x:=(I w.No)) (Ey Z ED Z (QR (f:=1) y)) ?_;refine D 1 Z ?_;refine DS.wo (x:=.rsl 2 (map Ref.c [{Crew:=t.Crew,No:=w.No:Ref}])) ?_ ?_
    .refine vH (Q5 (xs:=[.tmp 50]) (es:=map Ref.c [{Crew:=t.Crew,No:=w.No:Ref}]) QgL Z Z Z Z Z ⟨Z,trivial⟩ Z Z) ?_;exact FE Z Wp
    refine Eg Z (Bd g λV J g=>vH (Qg (e:=Ref.c) J QgL Gb Jd) ?_);exact FE Z (Gl 2 Z g [0,2])
   exact YC 1 Z g [0,1]
  exact Gx 2 Z (Qd m (Gc 5 Z (Qf i (Lr [0,1]))))
 exact QG 7 Z h 2 [0]
def F_lc(n:Nat)(g:List Ref)(e:Fact)(a:Bool×Int):Option (Ctl (Bool×Int) Bool):=(bif decide (a.2<(g.length:Int))then((bif a.1 then(idx g a.2).bind λd=>some (({Crew:=d.Crew,No:=d.No:Ref}) != ({Crew:=e.Crew,No:=e.No:Ref}))else some false):Option Bool).bind λf=>some (.cont (f,i64.wrap (a.2+1)))else some (.done a.1))
def F_lz(n:Nat)(j:Int)(k:List Ref)(h:List Fact)(a:(List Fact)×Int):Option (Ctl ((List Fact)×Int) (List Fact)):=(bif decide (a.2<(h.length:Int))then(idx h a.2).bind λd=>((bif (d.Kind==10)then some (d.Ruling.Case==j)else some false):Option Bool).bind λi=>(iter (F_lc n k d) n (i,0):Option Bool).bind λe=>((bif e then(app a.1 [d]).bind λf=>some f else some a.1):Option (List Fact)).bind λg=>some (.cont (g,i64.wrap (a.2+1)))else some (.done a.1))
def F_ap(n:Nat)(a:List Fact)(e:Int):Option (List Fact):=(F_gh n a).bind λf=>(F_ad n a).bind λg=>(iter (F_lz n e f g) n (([]:List Fact),0):Option (List Fact)).bind λd=>some d
theorem k_ap(n:Nat)(T:List Fact)(V:Int):Kq (F_ap n T V) 25 [.rsl 57 (map Fact.c T),I V] [] (λr=>.osl 0 0 r.length 57) (λr=>[.row 68 57 (map Fact.c r)]):=by
 refine Kg 8 func25 Z Z Z Z λr h=>Cd [] h (k_gh _ _) Z λr1 aa h=>Fg 5 Z Z (vH (Ej (xs:=[]) (es:=map Fact.c []) YF Z Z Z Z Z trivial Z Z) ?_);refine Fg 6 Z Z (Cd [] h (QoE _ _) Z λr2 ab h=>Fg 9 Z Z (Bd h λu W h=>Cg u [2] [] (λu=>[(6,.osl 0 0 u.length 57)]) (λu=>[(0,.row 68 57 (map Fact.c u))]) Zf ?_ ?_))
 .refine G0 1 Z (Lp [2,0,1] [0,1,5] (λm=>[(6,.osl 2 0 m.1.length 57),(7,I m.2)]) (λm=>[(2,.row 68 57 (map Fact.c m.1))]) W Zf (Lr [2,0,1]) λm ac a O=>?_);refine G0 9 Z (Yd Z a (λP a=>?_) (λP a=>?_))
  .exact Gc 2 Z (Qh a (Gx 1 Z (cQo O a (Lr [2]))))
  refine Gc 8 Z (Bd a λs E a=>?_);refine vX (.ptr 0 (toNat m.2*57)) (Qp E Z EA EB) ?_;refine vX (.agg (Fact.c s)) (Qn Z EJ EB Z (Qo E) Z Z) ?_;refine Go 5 Z (Bd a λF w a=>Ct F [0,1,2,3] [0,1,5,6,7,8] (λF=>[(9,.bool F)]) Ze Zf ?_ (λenv H k=>?_))
  .refine G0 5 Z (Is 29 w Z (λQ w=>?_) (λQ w=>?_))
   iterate 2 exact Gl 8 Z w [0,1,2,3]
  refine Gx 1 Z (Qd k (Gc 6 Z (Bd a λy R a=>Ct y [0,1,2,3] [0,1,5,6,7,8] (λy=>[(9,.bool y)]) Ze Zf ?_ (λenv H k=>?_))))
  .refine G0 1 Z (Lp [0,1,2,3] [0,1,5,6,7,8] (λt=>[(9,.bool t.1),(10,I t.2)]) Ze R Zf (Lr [0,1,2,3]) λt X d G=>?_);refine G0 9 Z (Yd Z d (λJ d=>?_) (λJ d=>?_))
   .exact Gc 2 Z (Qh d (Gx 1 Z (cQo G d (Lr [0,1,2,3]))))
   refine Gc 4 Z (Bd d λz f d=>Ct z [0,1,2,3] [0,1,5,6,7,8,10] (λz=>[(9,.bool z)]) Ze Zf ?_ (λenv H k=>?_))
   .refine G0 0 Z (DSs 11 Z (D 2 Z (QbE 1 f Z Z Z (λL f=>?_) (λL f=>?_))))
    .refine D 2 Z ?_;obtain⟨j,B,f⟩:=YB f;refine DS.v (x:=(.ptr 1 (toNat t.2*2))) (Qp B Z Gb Gv) ?_ (hg:=(gT Z));refine DS.v (x:=(.agg [I j.Crew,I j.No])) (Qn Z isAgg66 Gv Z (Qo B) Z Z) ?_ (hg:=(gT Z));refine D 5 Z (Eg Z ?_);refine vX (.bool (({Crew:=j.Crew,No:=j.No:Ref}) != ({Crew:=s.Crew,No:=s.No:Ref}))) (Qh6 (p:={Crew:=j.Crew,No:=j.No:Ref}) (q:={Crew:=s.Crew,No:=s.No:Ref}) Qrx Z Z) ?_ (gT Z);exact Gl 3 Z f [0,1,2,3]
    .exact D 9 Z (Eg Z (Gl 4 Z f [0,1,2,3]))
   exact Gx 2 Z (Qd k (Gc 5 Z (Qf d (Lr [0,1,2,3]))))
  refine Gx 1 Z (Qd k (Gc 5 Z (Bd a λl g a=>Ct l [0,1,0] [0,1,5,7] (λl=>[(6,.osl 2 0 l.length 57)]) (λl=>[(2,.row 68 57 (map Fact.c l))]) Zf ?_ (λenv H k=>?_))))
  .refine G0 0 Z (Cn Z g (λM g=>?_) (λM g=>?_))
   .refine Gc 3 Z (vH (Ej (xs:=[.tmp 57]) (es:=map Fact.c [s]) YF Z Z Z Z Z ⟨Z,trivial⟩ Z Z) ?_);refine FE Z (Bd g λY N g=>vH (Qg (e:=Fact.c) N YF EA (QM (i:=4))) ?_);exact FE Z (Gl 2 Z g [0,1,5])
   exact YC 1 Z g [0,1,2]
  exact Gx 2 Z (Qd k (Gc 5 Z (Qf a (Lr [0,1,2]))))
 exact QG 7 Z h 4 [0]
def F_cg(n:Nat)(a:List Fact)(d:Int):Option Bool:=(F_aw n a d).bind λe=>((bif e.2 then some true else(F_ap n a d).bind λf=>some (decide (0<(f.length:Int)))):Option Bool).bind λg=>some g
theorem k_cg(n:Nat)(e:List Fact)(f:Int):Ks (F_cg n e f) 23 [.rsl 57 (map Fact.c e),I f] [] (λr=>.bool r):=by
 refine Kg 9 func23 Z Z Z Z λr h=>Cd [] h (k_aw _ _ _) Z λk i h=>Fg 9 Z Z (Bd h λd a h=>Cg d [] [] (λd=>[(4,.bool d)]) Ze Zf ?_ ?_)
 .refine G0 3 Z (Is 14 a Z (λg a=>?_) (λg a=>?_))
  .exact Gl 8 Z a []
  .exact Go 2 Z (Cd [] a (k_ap _ _ _) Z λl j a=>FE Z (Gl 5 Z a []))
 exact QG 1 Z h 4 []
def F_lk(n:Nat)(d:List Fact)(a:Int×Int):Option (Ctl (Int×Int) Int):=(bif decide (a.2<(d.length:Int))then(idx d a.2).bind λe=>some (.cont ((if a.1<e.At then e.At else a.1),i64.wrap (a.2+1)))else some (.done a.1))
def F_dq(n:Nat)(f:Course)(d:List Fact)(e:Int):Option (Int×Bool):=((F_q n f).bind λj=>(bif (j != 0)then some true else(F_cg n d e).bind λk=>some (!k)):Option Bool).bind λl=>(bif l then some (0,false)else(F_aw n d e).bind λa=>((bif a.2 then some a.1.At else some 0):Option Int).bind λg=>(F_ap n d e).bind λh=>(iter (F_lk n h) n (g,0):Option Int).bind λi=>some (i64.wrap (i+f.Deadline),true))
theorem k_dq(n:Nat)(u:Course)(w:List Fact)(x:Int):Ks (F_dq n u w x) 9 [.agg (Course.c u),.rsl 57 (map Fact.c w),I x] [] (λr=>.tup [I r.1,.bool r.2]):=by
 refine Kg 9 func9 Z Z Z Z λr h=>Bd h λp e h=>Ct p [0] [1,2,3] (λp=>[(21,.bool p)]) Ze Zf ?_ (λenv H i=>?_)
 .refine G0 2 Z (Cz [] e (k_q _ _) Z λO G e=>Go 2 Z (Is 16 e Z (λy e=>?_) (λy e=>?_)))
  .exact Gl 6 Z e [0]
  .exact Go 2 Z (Cz [] e (k_cg _ _ _) Z λP J e=>Gl 3 Z e [0])
 refine Gx 1 Z (Qd i (Cn Z h (λz h=>?_) (λz h=>?_)))
 .refine Gc 8 Z ?_;obtain rfl:=Oi h;exact R2 6 7 Z Z (Lr [])
 refine Gc 11 Z (Cd [] h (k_aw _ _ _) Z λL E h=>Fg 14 Z Z (Bd h λj g h=>Ct j [0] [1,2,3] (λj=>[(8,I j)]) Ze Zf ?_ (λenv H i=>?_)))
 .refine G0 0 Z (Cn Z g (λq g=>?_) (λq g=>?_))
  .exact YC 5 Z g [0]
  exact YC 1 Z g [0]
 refine Gx 1 Z (Qd i (Gc 4 Z (Cd [] h (k_ap _ _ _) Z λM F h=>Fg 9 Z Z (Bd h λk B h=>Cg k [0] [3] (λk=>[(8,I k)]) Ze Zf ?_ ?_))))
 .refine G0 1 Z (Lp [0,1] [3,11] (λd=>[(8,I d.1),(12,I d.2)]) Ze B Zf (Lr [0,1]) λd N a s=>?_);refine G0 9 Z (Yd Z a (λt a=>?_) (λt a=>?_))
  .exact Gc 2 Z (Qh a (Gx 1 Z (cQo s a (Lr [0]))))
  refine Gc 8 Z (Bd a λl m a=>?_);refine vX (.ptr 1 (toNat d.2*57)) (Qp m Z EA EB) ?_;refine Fp QdP Z ?_;refine vX (I l.At) (Ey Z ED Z (QR (f:=2) m)) ?_;refine vX (I (if d.1<l.At then l.At else d.1)) (OpV.max Z Z Z Z) ?_;exact Go 9 Z (Qf a (Lr [0,1]))
 refine Gc 11 Z ?_;obtain rfl:=Oi h;exact R2 6 7 Z Z (Lr [])
def F_lh(n:Nat)(d:List Fact)(a:(List Int)×Int):Option (Ctl ((List Int)×Int) (List Int)):=(bif decide (a.2<(d.length:Int))then(idx d a.2).bind λe=>((bif (e.Ruling.Bib != 0)then(idx d a.2).bind λf=>(app a.1 [f.Ruling.Bib]).bind λg=>some g else some a.1):Option (List Int)).bind λh=>some (.cont (h,i64.wrap (a.2+1)))else some (.done a.1))
def F_gr(n:Nat)(a:List Fact)(d:Int):Option (List Int):=(F_aw n a d).bind λe=>((bif e.2 then(app ([]:List Int) [e.1.Report.Bib]).bind λg=>some g else some ([]:List Int)):Option (List Int)).bind λh=>(F_ap n a d).bind λi=>(iter (F_lh n i) n (h,0):Option (List Int)).bind λf=>some f
theorem k_gr(n:Nat)(z:List Fact)(B:Int):Kq (F_gr n z B) 29 [.rsl 57 (map Fact.c z),I B] [] (λr=>.osl 0 0 r.length 1) (λr=>[.row 3 1 (map (Qe .i64) r)]):=by
 refine Kg 7 func29 Z Z Z Z λr h=>vH (Ej (xs:=[]) (es:=map (Qe .i64) []) Qv Z Z Z Z Z trivial Z Z) ?_;refine Fg 7 Z Z (Cd [] h (k_aw _ _ _) Z λL M h=>Fg 14 Z Z (Bd h λm l h=>Ct m [0] [0,1] (λm=>[(5,.osl 0 0 m.length 1)]) (λm=>[(0,.row 3 1 (map (Qe .i64) m))]) Zf ?_ (λenv H p=>?_)))
 .refine G0 0 Z (Cn Z l (λE l=>?_) (λE l=>?_))
  .refine Gc 5 Z (vH (Ej (xs:=[.tmp 21]) (es:=map (Qe .i64) [L.1.Report.Bib]) Qv Z Z Z Z Z ⟨Z,trivial⟩ Z Z) ?_);refine FE Z (Bd l λQ F l=>vH (Qg (e:=(Qe .i64)) F Qv EC (QM (i:=3))) ?_);exact FE Z (Gl 2 Z l [4])
  exact YC 1 Z l [0]
 refine Gx 1 Z (Qd p (Gc 4 Z (Cd [] h (k_ap _ _ _) Z λR N h=>Fg 9 Z Z (Bd h λj G h=>Cg j [0] [] (λj=>[(5,.osl 0 0 j.length 1)]) (λj=>[(0,.row 3 1 (map (Qe .i64) j))]) Zf ?_ ?_))))
 .refine G0 1 Z (Lp [0,1] [8] (λg=>[(5,.osl 0 0 g.1.length 1),(9,I g.2)]) (λg=>[(0,.row 3 1 (map (Qe .i64) g.1))]) G Zf (Lr [0,1]) λg O a u=>?_);refine G0 9 Z (Yd Z a (λw a=>?_) (λw a=>?_))
  .exact Gc 2 Z (Qh a (Gx 1 Z (cQo u a (Lr [0]))))
  refine Gc 8 Z (Bd a λJ q a=>?_);refine vX (.ptr 1 (toNat g.2*57)) (Qp q Z EA EB) ?_;refine Fp Jp Z (Fp Qmz Z ?_);refine vX (I J.Ruling.Bib) (Ey Z ED Z (QR (f:=50) q)) ?_;refine Go 3 Z (Bd a λk d a=>Ct k [0,1] [8,9] (λk=>[(5,.osl 0 0 k.length 1)]) (λk=>[(0,.row 3 1 (map (Qe .i64) k))]) Zf ?_ (λenv H p=>?_))
  .refine G0 0 Z (Cn Z d (λx d=>?_) (λx d=>?_))
   .refine Gc 4 Z (Bd d λt s d=>?_);refine vX (.ptr 1 (toNat g.2*57)) (Qp s Z EA EB) ?_;refine Fp Jp Z (Fp Qmz Z ?_);refine vX (I t.Ruling.Bib) (Ey Z ED Z (QR (f:=50) s)) ?_;refine vH (Ej (xs:=[.tmp 46]) (es:=map (Qe .i64) [t.Ruling.Bib]) Qv Z Z Z Z Z ⟨Z,trivial⟩ Z Z) ?_;refine FE Z (Bd d λP y d=>vH (Qg (e:=(Qe .i64)) y Qv EC (QM (i:=2))) ?_);exact FE Z (Gl 2 Z d [3,1])
   exact YC 1 Z d [0,1]
  exact Gx 2 Z (Qd p (Gc 5 Z (Qf a (Lr [0,1]))))
 exact QG 7 Z h 4 [0]
def F_lv(n:Nat)(d:List Int)(f:Int)(a:Int):Option (Ctl Int (Ctl Unit Bool)):=(bif decide (a<(d.length:Int))then(idx d a).bind λe=>(bif (e==f)then some (.done (.done true))else some (.cont (i64.wrap (a+1))))else some (.done (.cont ())))
def F_bd(n:Nat)(d:List Int)(e:Int):Option Bool:=(iter (F_lv n d e) n 0:Option (Ctl Unit Bool)).bind λf=>match f with|.cont a=>(some false)|.done a=>some a
theorem k_bd(n:Nat)(j:List Int)(k:Int):Ks (F_bd n j k) 30 [.rsl 1 (map (Qe .i64) j),I k] [] (λr=>.bool r):=by
 refine Kg 11 func30 Z Z Z Z λr h=>Bd h λm p h=>CgE (b:=m) [] [] Ze Ze Zf ?_ (λq l=>?_)
 .refine G0 1 Z (Lp [] [0,1] (λe=>[(5,I e)]) Ze p Zf (Lr []) λe s a d=>?_);refine G0 5 Z (Lg 3 Z Z (Yd Z a (λf a=>?_) (λf a=>?_)))
  .exact Gc 2 Z (Qh a (Gx 1 Z (JB d a Z (Lr []))))
  refine Gc 8 Z (Bd a λt g a=>Iz g Z (Go 5 Z (Cn Z a (λi a=>?_) (λi a=>?_))))
  .refine Gc 8 Z (Qw a ?_);obtain rfl:=Oj d a;exact Gx 1 Z (Qq (Gx 1 Z (Rt h 4 [])))
  exact Gc 8 Z (Qf a (Lr []))
 subst l;exact QG 6 Z h 4 []
def F_iv(n:Nat)(d:List Starter)(f:Int)(a:Int):Option (Ctl Int (Ctl Unit Int)):=(bif decide (a<(d.length:Int))then(idx d a).bind λe=>(bif (e.Bib==f)then some (.done (.done a))else some (.cont (i64.wrap (a+1))))else some (.done (.cont ())))
def F_cc(n:Nat)(d:List Starter)(e:Int):Option Int:=(iter (F_iv n d e) n 0:Option (Ctl Unit Int)).bind λf=>match f with|.cont a=>(some (-1))|.done a=>some a
theorem k_cc(n:Nat)(j:List Starter)(k:Int):Ks (F_cc n j k) 32 [.rsl 8 (map Starter.c j),I k] [] (λr=>I r):=by
 refine Kg 11 func32 Z Z Z Z λr h=>Bd h λm p h=>CgE (b:=m) [] [] Ze Ze Zf ?_ (λq l=>?_)
 .refine G0 1 Z (Lp [] [0,1] (λe=>[(5,I e)]) Ze p Zf (Lr []) λe s a d=>?_);refine G0 5 Z (Lg 3 Z Z (Yd Z a (λf a=>?_) (λf a=>?_)))
  .exact Gc 2 Z (Qh a (Gx 1 Z (JB d a Z (Lr []))))
  refine Gc 8 Z (Bd a λt g a=>Iz g Z (Go 6 Z (Cn Z a (λi a=>?_) (λi a=>?_))))
  .refine Gc 9 Z (Qw a ?_);obtain rfl:=Oj d a;exact Gx 1 Z (Qq (Gx 1 Z (Rt h 4 [])))
  exact Gc 8 Z (Qf a (Lr []))
 subst l;exact QG 6 Z h 4 []
def F_df(n:Nat)(d:(List Starter)×Int)(e:Fact)(a:Int):Option (Ctl Int Int):=((bif decide (a<(d.1.length:Int))then(idx d.1 a).bind λf=>some (decide (f.Bib<e.Starter.Bib))else some false):Option Bool).bind λg=>(bif g then some (.cont (i64.wrap (a+1)))else some (.done a))
def F_ko(n:Nat)(r:Course)(f:List Fact)(a:(List Starter)×Int):Option (Ctl ((List Starter)×Int) (List Starter)):=(bif decide (a.2<(f.length:Int))then((idx f a.2).bind λd=>((idx f a.2).bind λg=>(bif (g.Kind != 1)then some true else(bif decide ((r.Distances.length:Int)<=d.Starter.Distance)then some true else(bif decide ((r.Waves.length:Int)<=d.Starter.Wave)then some true else(F_cc n a.1 d.Starter.Bib).bind λh=>some (decide (0<=h))))):Option Bool).bind λi=>(bif i then some a.1 else(iter (F_df n a d) n 0:Option Int).bind λe=>(slc a.1 0 e).bind λj=>(app ([]:List Starter) j).bind λk=>(app k [d.Starter]).bind λl=>(slc a.1 e (a.1.length:Int)).bind λm=>(app l m).bind λp=>some p):Option (List Starter)).bind λq=>some (.cont (q,i64.wrap (a.2+1)))else some (.done a.1))
def F_bf(n:Nat)(d:List Starter)(e:Int)(a:Int):Option (Ctl Int (Ctl Unit (Ctl Int (Ctl Unit ((List Starter)×Int))))):=(bif decide (a<e)then(idx d e).bind λf=>(idx d a).bind λg=>(bif (f.Chip==g.Chip)then some (.done (.done (.done (.done ([],180)))))else some (.cont (i64.wrap (a+1))))else some (.done (.cont ())))
def F_ct(n:Nat)(e:List Starter)(a:Int):Option (Ctl Int (Ctl Unit ((List Starter)×Int))):=(bif decide (a<(e.length:Int))then(iter (F_bf n e a) n 0:Option (Ctl Unit (Ctl Int (Ctl Unit ((List Starter)×Int))))).bind λf=>match f with|.cont d=>(some (.cont (i64.wrap (a+1))))|.done d=>some d else some (.done (.cont ())))
def F_cw(n:Nat)(f:Course)(h:List Fact):Option ((List Starter)×Int):=(F_q n f).bind λg=>(bif (g != 0)then some ([],g)else(F_ad n h).bind λi=>(iter (F_ko n f i) n (([]:List Starter),0):Option (List Starter)).bind λa=>(bif decide (4000<(a.length:Int))then some ([],2)else(iter (F_ct n a) n 0:Option (Ctl Unit ((List Starter)×Int))).bind λe=>match e with|.cont d=>(some (a,0))|.done d=>some d))
theorem k_cw(n:Nat)(X:Course)(a2:List Fact):Kq (F_cw n X a2) 31 [.agg (Course.c X),.rsl 57 (map Fact.c a2)] [] (λr=>.tup [.osl 0 0 r.1.length 8,I r.2]) (λr=>[.row 46 8 (map Starter.c r.1)]):=by
 refine Kg 10 func31 Z Z Z Z λr h=>Cz [] h (k_q _ _) Z λr1 bs h=>Go 10 Z (Cn Z h (λbg h=>?_) (λbg h=>?_))
 .refine Gc 9 Z ?_;obtain rfl:=Oi h;refine R2 4 5 Z Z ?_;refine Em (Eo (s:=4) (k:=8) (t:=46) (XO Z) Z) ?_;exact Lr [1]
 refine Gc 5 Z (Cd [] h (QoE _ _) Z λr3 bt h=>Fg 5 Z Z (vH (Ej (xs:=[]) (es:=map Starter.c []) QcY Z Z Z Z Z trivial Z Z) ?_));refine Fg 9 Z Z (Bd h λB aw h=>Ct B [2] [] (λB=>[(7,.osl 0 0 B.length 8)]) (λB=>[(0,.row 46 8 (map Starter.c B))]) Zf ?_ (λenv H q=>?_))
 .refine G0 1 Z (Lp [1,0,2] [1,2] (λa=>[(7,.osl 2 0 a.1.length 8),(8,I a.2)]) (λa=>[(2,.row 46 8 (map Starter.c a.1))]) aw Zf (Lr [1,0,2]) λa bk u ac=>?_);refine G0 9 Z (Yd Z u (λae u=>?_) (λae u=>?_))
  .exact Gc 2 Z (Qh u (Gx 1 Z (cQo ac u (Lr [2]))))
  refine Gc 3 Z (Bd u λE d u=>Ct E [0,1,2] [1,2,8] (λE=>[(7,.osl 2 0 E.length 8)]) (λE=>[(2,.row 46 8 (map Starter.c E))]) Zf ?_ (λenv H q=>?_))
  .refine G0 5 Z (Bd d λp O d=>?_);refine vX (.ptr 0 (toNat a.2*57)) (Qp O Z EA EB) ?_;refine Fp Qqj Z ?_;refine vX (.agg (Starter.c p.Starter)) (Qn Z isAgg46 EM Z (QR (f:=4) O) Z Z) ?_;refine Go 6 Z (Bd d λM g d=>Ct M [0,1,2,3] [1,2,7,8,9] (λM=>[(60,.bool M)]) Ze Zf ?_ (λenv H q=>?_))
   .refine G0 3 Z (Bd g λax P g=>?_);refine vX (.ptr 0 (toNat a.2*57)) (Qp P Z EA EB) ?_;refine Fp QdO Z ?_;refine vX (I ax.Kind) (Ey Z ED Z (QR (f:=3) P)) ?_;refine Go 2 Z (Is 38 g Z (λaf g=>?_) (λaf g=>?_))
    .exact Gl 23 Z g [0,1,2,3]
    .refine Go 4 Z (Lg 3 Z Z (Is 46 g Z (λag g=>?_) (λag g=>?_)))
     .exact Gl 15 Z g [0,1,2,3]
     .refine Go 4 Z (Lg 3 Z Z (Is 54 g Z (λah g=>?_) (λah g=>?_)))
      .exact Gl 7 Z g [0,1,2,3]
      .exact Go 3 Z (Cb g (k_cc _ _ _) Z (lo (ls ln)) λbl bh g=>Gl 3 Z g [0,1,2,3])
   refine Gx 1 Z (Qd q (Cn Z d (λai d=>?_) (λai d=>?_)))
   .exact YC 3 Z d [0,1,2]
   refine Gc 8 Z (Bd d λi ay d=>Ct i [0,1,2,3] [1,2,7,8,9] (λi=>[(10,I i)]) Ze Zf ?_ (λenv H q=>?_))
   .refine G0 1 Z (Lp [0,1,2,3] [1,2,7,8,9] (λF=>[(10,I F)]) Ze ay Zf (Lr [0,1,2,3]) λF bm w aj=>?_);refine G0 2 Z (Bd w λN y w=>Ct N [0,1,2,3] [1,2,7,8,9,10] (λN=>[(74,.bool N)]) Ze Zf ?_ (λenv H q=>?_))
    .refine G0 0 Z (DSs 12 Z (D 5 Z (QbE 4 y Z Z Z (λak y=>?_) (λak y=>?_))))
     .refine D 2 Z ?_;obtain⟨az,Q,y⟩:=YB y;refine DS.v (x:=(.ptr 2 (toNat F*8))) (Qp Q Z EG EM) ?_ (hg:=(gT Z));refine DS.wo (x:=.ptr 2 (toNat F*8)) ?_ ?_
      .exact Fpg (gT Z) QmE Z Wp
      refine DS.v (x:=(I az.Bib)) (Ey Z ED Z (Qo Q)) ?_ (hg:=(gT Z));exact D 2 Z (Eg Z (Gl 3 Z y [0,1,2,3]))
     .exact D 7 Z (Eg Z (Gl 3 Z y [0,1,2,3]))
    refine Gx 1 Z (Qd q (Yd Z w (λal w=>?_) (λal w=>?_)))
    .exact Gc 2 Z (Qh w (Gx 1 Z (cQo aj w (Lr [0,1,2,3]))))
    exact Gc 9 Z (Qf w (Lr [0,1,2,3]))
   refine Gx 1 Z (Qd q (DKs 11 [0,4,7] [(1,0,0),(0,0,1),(0,0,1),(0,0,1),(1,1,0),(0,0,2),(0,0,2),(1,2,0),(0,0,3),(0,0,3),(0,0,3)] (by kernel_rfl) ?_));refine Ew (x:=.osl 4 0 (([]:List Starter).length) 8) (X1:=[.row 68 57 (map Fact.c r3),.cells 33 (Course.c X),.row 46 8 (map Starter.c a.1),.cells 46 (Starter.c p.Starter),.row 46 8 (map Starter.c ([]:List Starter))]) ?_ ?_
   .refine vH (Ej (xs:=[]) (es:=map Starter.c []) QcY Z Z Z Z Z trivial Z Z) ?_;exact FE Z Wp
   refine Dk 2 Z ?_;obtain⟨bn,G,d⟩:=YB d;refine QaZ (lo:=0) (hi:=1) (x:=.osl 2 (0+toNat 0) (toNat i-toNat 0) 8) ⟨?_,?_,trivial⟩ ?_
   iterate 2 refine vX (.osl 2 (0+toNat 0) (toNat i-toNat 0) 8) (Q6 (l:=a.1) G EG EM (.inl ⟨Z,Z⟩) (.inr ⟨_,Z,Z⟩)) ?_;exact Wp
   obtain⟨Y,am,d⟩:=YB d;refine Ew (x:=.osl 5 0 Y.length 8) (X1:=[.row 68 57 (map Fact.c r3),.cells 33 (Course.c X),.row 46 8 (map Starter.c a.1),.cells 46 (Starter.c p.Starter),.dead,.row 46 8 (map Starter.c Y)]) ?_ ?_
   .refine vH (Qg (e:=Starter.c) am QcY EG (QeE (b:=2) G)) ?_;exact FE Z Wp
   refine Dks (lo:=0) (hi:=2) (x:=.agg (Starter.c p.Starter)) ⟨Z,Z,Z,trivial⟩ ?_;refine QaZ (lo:=0) (hi:=2) (x:=.rsl 8 (map Starter.c [p.Starter])) ⟨?_,?_,?_,trivial⟩ ?_
   iterate 3 refine vH (Q5 (xs:=[.tmp 82]) (es:=map Starter.c [p.Starter]) QcY Z Z Z Z Z ⟨Z,trivial⟩ Z Z) ?_;exact FE Z Wp
   obtain⟨aa,an,d⟩:=YB d;refine Ew (x:=.osl 6 0 aa.length 8) (X1:=[.row 68 57 (map Fact.c r3),.cells 33 (Course.c X),.row 46 8 (map Starter.c a.1),.cells 46 (Starter.c p.Starter),.dead,.dead,.row 46 8 (map Starter.c aa)]) ?_ ?_
   .refine vH (Qg (e:=Starter.c) an QcY EG Jd) ?_;exact FE Z Wp
   refine Dk 2 Z ?_;obtain⟨bo,z,d⟩:=YB d;refine QaZ (lo:=0) (hi:=3) (x:=.osl 2 (0+toNat i) (toNat (a.1.length:Int)-toNat i) 8) ⟨?_,?_,?_,?_,trivial⟩ ?_
   iterate 4 refine vX (.osl 2 (0+toNat i) (toNat (a.1.length:Int)-toNat i) 8) (Q6 (l:=a.1) z EG EM (.inr ⟨_,Z,Z⟩) (.inl ⟨Z,Z⟩)) ?_;exact Wp
   refine DK.done Z Z (Bd d λbp ao d=>?_);refine vH (Qg (e:=Starter.c) ao QcY EG (QeE (b:=2) z)) ?_;exact FE Z (Gl 3 Z d [0,1,7])
  exact Gx 1 Z (Qd q (Gc 5 Z (Qf u (Lr [0,1,2]))))
 refine Gx 1 Z (Qd q (Gc 8 Z (Cn Z h (λaq h=>?_) (λaq h=>?_))))
 .refine Gc 8 Z ?_;obtain rfl:=Oi h;refine R2 4 5 Z Z ?_;refine Em (Eo (s:=4) (k:=8) (t:=46) (XO Z) Z) ?_;exact Lr [1]
 refine Gc 8 Z (Bd h λba bb h=>CgE (b:=ba) [0] [7] Ze Ze Zf ?_ (λbi ab=>?_))
 .refine G0 1 Z (Lp [0] [7] (λJ=>[(11,I J)]) Ze bb Zf (Lr [0]) λJ bq m R=>?_);refine G0 9 Z (Yd Z m (λar m=>?_) (λar m=>?_))
  .exact Gc 2 Z (Qh m (Gx 1 Z (JB R m Z (Lr [0]))))
  refine Gc 9 Z (Bd m λbc bd m=>CtE (b:=bc) [0] [7,11] Ze Ze Zf ?_ (λbj env H ab q=>?_))
  .refine G0 1 Z (Lp [0] [7,11] (λL=>[(12,I L)]) Ze bd Zf (Lr [0]) λL br j T=>?_);refine G0 8 Z (Yd Z j (λau j=>?_) (λau j=>?_))
   .exact Gc 2 Z (Qh j (Gx 1 Z (JB T j Z (Lr [0]))))
   refine Gc 5 Z (DSs 10 Z (D 2 Z ?_));obtain⟨be,V,j⟩:=YB j;refine DS.v (x:=(.ptr 0 (toNat J*8))) (Qp V Z EG EM) ?_;refine DS.wo (x:=.ptr 0 (toNat J*8+5)) ?_ ?_
   .exact Fp QmC Z Wp
   refine DS.v (x:=(I be.Chip)) (Ey Z ED Z (QR (f:=5) V)) ?_;refine D 2 Z ?_;obtain⟨bf,W,j⟩:=YB j;refine DS.v (x:=(.ptr 0 (toNat L*8))) (Qp W Z EG EM) ?_;refine DS.wo (x:=.ptr 0 (toNat L*8+5)) ?_ ?_
   .exact Fp QmC Z Wp
   refine DS.v (x:=(I bf.Chip)) (Ey Z ED Z (QR (f:=5) W)) ?_;refine Eg Z (Go 3 Z (Cn Z j (λav j=>?_) (λav j=>?_)))
   .refine Gc 9 Z (Qw j ?_);obtain rfl:=Oj T j;refine Gx 1 Z (Qq (Gx 2 Z (Qw m ?_)));obtain rfl:=Oj R m;refine Gx 1 Z (Qq (Gx 1 Z ?_));obtain rfl:=Oi h;refine R2 4 5 Z Z ?_;refine Em (Eo (s:=4) (k:=8) (t:=46) (XO Z) Z) ?_;exact Lr [1]
   exact Gc 8 Z (Qf j (Lr [0]))
  subst ab;exact Gx 2 Z (Qd q (Gc 5 Z (Qf m (Lr [0]))))
 subst ab;refine Gc 8 Z ?_;obtain rfl:=Oi h;exact R2 4 5 Z Z (Lr [0])
def F_ly(n:Nat)(k:List Int)(a:(List Starter)×Int)(e:Int)(d:Int):Option (Ctl Int (Ctl Unit Bool)):=(bif decide (d<(a.1.length:Int))then((idx a.1 d).bind λf=>(F_bd n k f.Bib).bind λg=>(bif g then(idx a.1 d).bind λh=>(idx a.1 e).bind λi=>some (h.Distance==i.Distance)else some false):Option Bool).bind λj=>(bif j then some (.done (.done true))else some (.cont (i64.wrap (d+1))))else some (.done (.cont ())))
def F_da(n:Nat)(k:Course)(g:List Fact)(a:Protest):Option Bool:=(F_cg n g a.Case).bind λl=>(bif (!l)then some false else(F_gr n g a.Case).bind λh=>((bif (a.By==0)then some true else(F_bd n h a.By).bind λm=>some m):Option Bool).bind λp=>(bif p then some true else(F_cw n k g).bind λd=>(F_cc n d.1 a.By).bind λf=>((bif (d.2 != 0)then some true else some (decide (f<0))):Option Bool).bind λi=>(bif i then some false else(iter (F_ly n h d f) n 0:Option (Ctl Unit Bool)).bind λj=>match j with|.cont e=>(some false)|.done e=>some e)))
theorem k_da(n:Nat)(J:Course)(L:List Fact)(M:Protest):Ks (F_da n J L M) 11 [.agg (Course.c J),.rsl 57 (map Fact.c L),.agg (Protest.c M)] [] (λr=>.bool r):=by
 refine Kg 13 func11 Z Z Z Z λr h=>Cz [] h (k_cg _ _ _) Z λr1 ac h=>Go 3 Z (Cn Z h (λN h=>?_) (λN h=>?_))
 .exact QG 7 Z h 6 []
 refine Gc 7 Z (Cd [] h (k_gr _ _ _) Z λr3 ae h=>Fg 5 Z Z (Bd h λu i h=>Ct u [0,1,2] [1,3,5,7] (λu=>[(29,.bool u)]) Ze Zf ?_ (λenv H j=>?_)))
 .refine G0 5 Z (Is 24 i Z (λO i=>?_) (λO i=>?_))
  .exact Gl 6 Z i [0,1,2]
  .exact Go 3 Z (Cb i (k_bd _ _ _) Z (lo (ls ln)) λr9 af i=>Gl 2 Z i [0,1,2])
 refine Gx 1 Z (Qd j (Cn Z h (λw h=>?_) (λw h=>?_)))
 .exact QG 7 Z h 6 []
 refine Gc 6 Z (Cd [] h (k_cw _ _ _) Z λag Y h=>Fg 12 Z Z (Cb h (k_cc _ _ _) Z (lo (ls ln)) λt aa h=>Go 5 Z (Bd h λk g h=>Ct k [2,3] [7,8,10] (λk=>[(45,.bool k)]) Ze Zf ?_ (λenv H j=>?_))))
 .refine G0 4 Z (Is 42 g Z (λy g=>?_) (λy g=>?_))
  iterate 2 exact Gl 4 Z g [2,3]
 refine Gx 1 Z (Qd j (Cn Z h (λz h=>?_) (λz h=>?_)))
 .exact QG 7 Z h 6 []
 refine Gc 8 Z (Bd h λP Q h=>CgE (b:=P) [] [] Ze Ze Zf ?_ (λab R=>?_))
 .refine G0 1 Z (Lp [0,1] [7,8,10] (λe=>[(11,I e)]) Ze Q Zf (Lr [0,1]) λe ah a l=>?_);refine G0 9 Z (Yd Z a (λB a=>?_) (λB a=>?_))
  .exact Gc 2 Z (Qh a (Gx 1 Z (JB l a Z (Lr []))))
  refine Gc 5 Z (Bd a λm d a=>Cg m [0,1] [7,8,10,11] (λm=>[(71,.bool m)]) Ze Zf ?_ ?_)
  .refine G0 0 Z (DSs 18 Z (D 3 Z ?_));obtain⟨T,p,d⟩:=YB d;refine DS.v (x:=(.ptr 1 (toNat e*8))) (Qp p Z EG EM) ?_;refine DS.wo (x:=.ptr 1 (toNat e*8)) ?_ ?_
   .exact Fp QmE Z Wp
   refine DS.v (x:=(I T.Bib)) (Ey Z ED Z (Qo p)) ?_;obtain⟨V,E,d⟩:=YB d;refine DS.wo (x:=.bool V) ?_ ?_
   .refine QbA (OpC.fn call30 rfl rfl rfl) (QbC.cons rfl (.inr ⟨_,_,_,_,_,rfl,rfl,XX ..,rfl⟩) (QbC.cons rfl (.inl ⟨rfl,rfl⟩) QbC.nil)) (k_bd _ _ _ _ E) (by rintro _ _ ⟨rfl,rfl⟩;rfl) ?_;rintro _ _ ⟨rfl,rfl⟩;exact FE Z Wp
   refine D 1 Z (QbE 7 d Z Z Z (λF d=>?_) (λF d=>?_))
   .refine D 2 Z ?_;obtain⟨W,q,d⟩:=YB d;refine DS.v (x:=(.ptr 1 (toNat e*8))) (Qp q Z EG EM) ?_ (hg:=(gT Z));refine DS.wo (x:=.ptr 1 (toNat e*8+1)) ?_ ?_
    .exact Fpg (gT Z) QmD Z Wp
    refine DS.v (x:=(I W.Distance)) (Ey Z ED Z (QR (f:=1) q)) ?_ (hg:=(gT Z));refine D 2 Z ?_;obtain⟨X,s,d⟩:=YB d;refine DS.v (x:=(.ptr 1 (toNat t*8))) (Qp s Z EG EM) ?_ (hg:=(gT Z));refine DS.wo (x:=.ptr 1 (toNat t*8+1)) ?_ ?_
    .exact Fpg (gT Z) QmD Z Wp
    refine DS.v (x:=(I X.Distance)) (Ey Z ED Z (QR (f:=1) s)) ?_ (hg:=(gT Z));exact Eg Z (Gl 3 Z d [0,1])
   .exact D 10 Z (Eg Z (Gl 3 Z d [0,1]))
  refine Cn Z a (λG a=>?_) (λG a=>?_)
  .refine Gc 8 Z (Qw a ?_);obtain rfl:=Oj l a;exact Gx 1 Z (Qq (Gx 1 Z (Rt h 6 [])))
  exact Gc 8 Z (Qf a (Lr [0,1]))
 subst R;exact QG 6 Z h 6 []
def F_kv(n:Nat)(d:List Fact)(i:Fact)(a:(List Fact)×Int):Option (Ctl ((List Fact)×Int) (List Fact)):=(bif decide (a.2<(d.length:Int))then(idx d a.2).bind λe=>((bif decide (e.At<=i.At)then(idx d a.2).bind λf=>(app a.1 [f]).bind λg=>some g else some a.1):Option (List Fact)).bind λh=>some (.cont (h,i64.wrap (a.2+1)))else some (.done a.1))
def F_bl(n:Nat)(f:Course)(i:List Fact)(a:Fact):Option Bool:=((F_az n a).bind λj=>(bif (j != 0)then some true else some (a.Kind != 9)):Option Bool).bind λk=>(bif k then some false else(iter (F_kv n i a) n (([]:List Fact),0):Option (List Fact)).bind λd=>(F_dq n f d a.Protest.Case).bind λe=>((F_da n f d a.Protest).bind λg=>(bif g then(bif e.2 then(bif decide (a.At<=e.1)then(bif (a.Protest.Form==1)then(bif (a.Protest.By==0)then some true else some (decide (f.Fee<=a.Protest.Fee)))else some false)else some false)else some false)else some false):Option Bool).bind λh=>some h)
theorem k_bl(n:Nat)(O:Course)(P:List Fact)(Q:Fact):Ks (F_bl n O P Q) 13 [.agg (Course.c O),.rsl 57 (map Fact.c P),.agg (Fact.c Q)] [] (λr=>.bool r):=by
 refine Kg 9 func13 Z Z Z Z λr h=>Bd h λs p h=>Ct s [0,1] [1,3,5] (λs=>[(19,.bool s)]) Ze Zf ?_ (λenv H j=>?_)
 .refine G0 2 Z (Cz [] p (k_az _ _) Z λr5 Y p=>Go 2 Z (Is 15 p Z (λR p=>?_) (λR p=>?_)))
  iterate 2 exact Gl 5 Z p [0,1]
 refine Gx 1 Z (Qd j (Cn Z h (λT h=>?_) (λT h=>?_)))
 .exact QG 7 Z h 6 []
 refine Gc 4 Z (vH (Ej (xs:=[]) (es:=map Fact.c []) YF Z Z Z Z Z trivial Z Z) ?_);refine Fg 9 Z Z (Bd h λk V h=>Ct k [0,1,2] [3,5] (λk=>[(7,.osl 2 0 k.length 57)]) (λk=>[(2,.row 68 57 (map Fact.c k))]) Zf ?_ (λenv H j=>?_))
 .refine G0 1 Z (Lp [0,1,2] [1,3,5] (λl=>[(7,.osl 2 0 l.1.length 57),(8,I l.2)]) (λl=>[(2,.row 68 57 (map Fact.c l.1))]) V Zf (Lr [0,1,2]) λl aa f t=>?_);refine G0 5 Z (Lg 3 Z Z (Yd Z f (λu f=>?_) (λu f=>?_)))
  .exact Gc 2 Z (Qh f (Gx 1 Z (cQo t f (Lr [0,1,2]))))
  refine Gc 5 Z (DSs 7 Z (D 2 Z ?_));obtain⟨a,w,f⟩:=YB f;refine DS.wo (x:=.rp [I a.Crew,I a.No,I a.At,I a.Kind,I a.Starter.Bib,I a.Starter.Distance,I a.Starter.Wave,I a.Starter.Slot,I a.Starter.Age,I a.Starter.Chip,I a.Starter.Team,I a.Starter.Lot,I a.Read.Mat,I a.Read.Epoch,I a.Read.Chip,I a.Read.Local,I a.Beacon.Mat,I a.Beacon.Epoch,I a.Beacon.Local,I a.Beacon.True,I a.Beacon.Err,I a.Sync.MatA,I a.Sync.EpochA,I a.Sync.LocalA,I a.Sync.MatB,I a.Sync.EpochB,I a.Sync.LocalB,I a.Sync.Min,I a.Sync.Max,I a.Hand.Bib,I a.Hand.Position,I a.Hand.Lo,I a.Hand.Hi,I a.Silence.Mat,I a.Silence.Epoch,I a.Silence.Lo,I a.Silence.Hi,I a.Pair.A,I a.Pair.B,I a.Report.Case,I a.Report.Bib,I a.Report.Offence,I a.Report.Position,I a.Protest.Case,I a.Protest.By,I a.Protest.Fee,I a.Protest.Form,I a.Ruling.Case,I a.Ruling.Instance,I a.Ruling.Kind,I a.Ruling.Bib,I a.Ruling.Position,I a.Ruling.Amount,I a.Appeal.Case,.bool a.Appeal.Suspends,I a.Void.Crew,I a.Void.No]) ?_ ?_
  .exact Ix w EA EB Z Wp
  refine D 4 Z (Eg Z (Go 3 Z (Bd f λm g f=>?_)));refine Ct m [0,1,0] [1,3,5,8] (λm=>[(7,.osl 2 0 m.length 57)]) (λm=>[(2,.row 68 57 (map Fact.c m))]) Zf ?_ (λenv H j=>?_)
  .refine G0 0 Z (Cn Z g (λy g=>?_) (λy g=>?_))
   .refine Gc 4 Z (Bd g λW z g=>Iz z Z (Go 1 Z (vH (Ej (xs:=[.tmp 39]) (es:=map Fact.c [W]) YF Z Z Z Z Z ⟨Z,trivial⟩ Z Z) ?_)));refine FE Z (Bd g λab E g=>vH (Qg (e:=Fact.c) E YF EA (QM (i:=3))) ?_);exact FE Z (Gl 2 Z g [0,1,4])
   exact YC 1 Z g [0,1,2]
  exact Gx 2 Z (Qd j (Gc 5 Z (Qf f (Lr [0,1,2]))))
 refine Gx 1 Z (Qd j (Gc 14 Z (Bd h λac F h=>?_)));refine QbA (OpC.fn call9 rfl rfl rfl) (QbC.cons rfl (.inl ⟨rfl,rfl⟩) (QbC.cons rfl (.inr ⟨_,_,_,_,_,rfl,rfl,XX ..,rfl⟩) (QbC.cons rfl (.inl ⟨rfl,rfl⟩) QbC.nil))) (k_dq _ _ _ _ _ F) (by rintro _ _ ⟨rfl,rfl⟩;rfl) ?_;rintro _ _ ⟨rfl,rfl⟩;refine Fg 8 Z Z (Bd h λq d h=>Cg q [] [] (λq=>[(6,.bool q)]) Ze Zf ?_ ?_)
 .refine G0 4 Z (Cb d (k_da _ _ _ _) Z (ls (lo (ls ln))) λae X d=>Go 1 Z (Is 56 d Z (λG d=>?_) (λG d=>?_)))
  .refine Go 3 Z (Is 59 d Z (λJ d=>?_) (λJ d=>?_))
   .refine Go 6 Z (Is 65 d Z (λL d=>?_) (λL d=>?_))
    .refine Go 5 Z (Is 70 d Z (λM d=>?_) (λM d=>?_))
     .refine Go 4 Z (Is 74 d Z (λN d=>?_) (λN d=>?_))
      iterate 2 exact Gl 9 Z d []
     .exact Gl 13 Z d []
    .exact Gl 18 Z d []
   .exact Gl 24 Z d []
  .exact Gl 27 Z d []
 exact QG 1 Z h 6 []
def F_kr(n:Nat)(f:Fact)(d:List Fact)(a:Int):Option (Ctl Int (Ctl Unit Bool)):=(bif decide (a<(d.length:Int))then(idx d a).bind λe=>(bif decide (f.At<e.At)then some (.done (.done false))else some (.cont (i64.wrap (a+1))))else some (.done (.cont ())))
def F_cr(n:Nat)(g:Course)(e:List Fact)(d:Fact):Option Bool:=(F_ap n e d.Protest.Case).bind λh=>(iter (F_kr n d h) n 0:Option (Ctl Unit Bool)).bind λi=>match i with|.cont a=>((F_bl n g e d).bind λf=>some f)|.done a=>some a
theorem k_cr(n:Nat)(k:Course)(l:List Fact)(m:Fact):Ks (F_cr n k l m) 47 [.agg (Course.c k),.rsl 57 (map Fact.c l),.agg (Fact.c m)] [] (λr=>.bool r):=by
 refine Kg 13 func47 Z Z Z Z λr h=>Cd [] h (k_ap _ _ _) Z λE w h=>Fg 9 Z Z (Bd h λt p h=>CgE (b:=t) [0,1] [1,3,5] Ze Ze Zf ?_ (λy q=>?_))
 .refine G0 1 Z (Lp [0,1,2] [1,3,5,7] (λd=>[(8,I d)]) Ze p Zf (Lr [0,1,2]) λd z a e=>?_);refine G0 9 Z (Yd Z a (λi a=>?_) (λi a=>?_))
  .exact Gc 2 Z (Qh a (Gx 1 Z (JB e a Z (Lr [0,1]))))
  refine Gc 5 Z (DSs 7 Z (D 2 Z ?_));obtain⟨s,g,a⟩:=YB a;refine DS.v (x:=(.ptr 2 (toNat d*57))) (Qp g Z EA EB) ?_;refine DS.wo (x:=.ptr 2 (toNat d*57+2)) ?_ ?_
  .exact Fp QdP Z Wp
  refine DS.v (x:=(I s.At)) (Ey Z ED Z (QR (f:=2) g)) ?_;refine D 2 Z (Eg Z (Go 3 Z (Cn Z a (λj a=>?_) (λj a=>?_))))
  .refine Gc 8 Z (Qw a ?_);obtain rfl:=Oj e a;exact Gx 1 Z (Qq (Gx 1 Z (Rt h 6 [])))
  exact Gc 8 Z (Qf a (Lr [0,1,2]))
 subst q;exact Gc 5 Z (Cz [] h (k_bl _ _ _ _) Z λB u h=>Gt 4 Z h 6 [])
end Go.Sw
