/- What the functions compute that PenaltiesCasesSpec reaches, and that their calls refine it (part 4 of 5). -/
import Derived.Test.YtdlojdpflfdgcaaGreatDoorW22Cs3
set_option linter.unusedVariables false
set_option linter.unusedSimpArgs false
set_option maxRecDepth 100000
set_option maxHeartbeats 4000000
namespace Go.Sw
variable (n:Nat)
open List(map)
open Int(toNat)
open Go.IntKind(i64 u64 u8)
open Go.Proofs Tryz
def F_c(n:Nat)(a:Int)(d:Int)(e:Int):Option Bool:=((bif decide (d<=a)then some (decide (a<=e))else some false):Option Bool).bind λb2=>some b2
theorem k_c(d:Int)(e:Int)(f:Int):Ks (F_c n d e f) 123 [I d,I e,I f] [] (λr=>.bool r):=by
 refine Kg 6 func123 Z Z Z Z λr h=>Bd h λb2 a h=>Cg b2 [] [] (λb2=>[(6,.bool b2)]) Ze Zf ?_ ?_
 .refine G0 5 Z (Is 10 a Z (λ_ a=>?_) (λ_ a=>?_))
  iterate 2 exact Gl 6 Z a []
 exact QI 1 Z h 6 []
def F_m(a:Course)(d:Int):Option Bool:=(F_c n d 0 (i64.wrap ((a.Mats.length:Int)-1))).bind λe=>some e
theorem k_m(a:Course)(d:Int):Ks (F_m n a d) 124 [.agg (Course.c a),I d] [] (λr=>.bool r):=by
 exact Kg 11 func124 Z Z Z Z λr h=>Lg 1 Z Z (Cz [] h (k_c _ _ _ _) Z λf e h=>Gt 4 Z h 4 [])
def F_hh(e:Course)(f:List Part)(rec228:Course->(List Part)->Option Bool)(d:Int):Option (Ctl Int (Ctl Unit Bool)):=(bif decide (d<(f.length:Int))then(idx f d).bind λa=>((bif (a.Laps==0)then(F_m n e a.Mat).bind λg=>(bif g then some ((a.Parts.length:Int)==0)else some false)else some false):Option Bool).bind λh=>((F_c n a.Laps 1 64).bind λi=>(bif i then(bif (a.Mat==0)then(bif decide (0<(a.Parts.length:Int))then(rec228 e a.Parts).bind λj=>some j else some false)else some false)else some false):Option Bool).bind λk=>((bif (!h)then some (!k)else some false):Option Bool).bind λl=>(bif l then some (.done (.done false))else some (.cont (i64.wrap (d+1))))else some (.done (.cont ())))
def B_q(rec228:Course->(List Part)->Option Bool)(n:Nat)(e:Course)(f:List Part):Option Bool:=(iter (F_hh n e f rec228) n 0:Option (Ctl Unit Bool)).bind λd=>match d with|.cont a=>(some true)|.done a=>some a
theorem QaS(rec228:Course->(List Part)->Option Bool)(g:∀(i:Course) (j:List Part) (r:Bool),rec228 i j=some r->Csm prog 181 [.agg (Course.c i),.rsl 3 (map Part.enc j)] [] (λr=>.bool r) r)(n:Nat)(i:Course)(j:List Part)(r:Bool)(h:B_q rec228 n i j=some r):Csm prog 181 [.agg (Course.c i),.rsl 3 (map Part.enc j)] [] (λr=>.bool r) r:=by
 refine QE func181 Z Z Z ?_;refine G0 12 Z (Bd h λG J h=>CgE (b:=G) [] [] Ze Ze Zf ?_ (λ_ L=>?_))
 .refine G0 1 Z (Lp [0] [1,2] (λs=>[(5,I s)]) Ze J Zf (Lr [0]) λs R a k=>?_);refine G0 5 Z (Lg 3 Z Z (Q8 Z a (λ_ a=>?_) (λ_ a=>?_)))
  .exact Gc 2 Z (Ql a (Gx 1 Z (JN k a Z (Lr []))))
  refine Gc 8 Z (Bd a λM u a=>IzE u (Q4 M) Z (Go 6 Z (Bd a λl e a=>Ct l [0,1] [1,2,5,6] (λl=>[(7,.bool l)]) Ze Zf ?_ (λenv H m=>?_))))
  .refine G0 5 Z (Is 22 e Z (λ_ e=>?_) (λ_ e=>?_))
   .refine Go 3 Z (Cz [] e (k_m _ _ _) Z λT O e=>Go 2 Z (Is 28 e Z (λ_ e=>?_) (λ_ e=>?_)))
    .exact Go 2 Z (Lm Z (Gl 4 Z e [0,1]))
    .exact Gl 7 Z e [0,1]
   .exact Gl 13 Z e [0,1]
  refine Gx 1 Z (Qf m (Gc 1 Z (Bd a λp d a=>Ct p [0] [1,2,5,7] (λp=>[(8,.bool p)]) Ze Zf ?_ (λenv H m=>?_))))
  .refine G0 3 Z (Cz [] d (k_c _ _ _ _) Z λV P d=>Go 1 Z (Is 37 d Z (λ_ d=>?_) (λ_ d=>?_)))
   .refine Go 5 Z (Is 42 d Z (λ_ d=>?_) (λ_ d=>?_))
    .refine Go 2 Z (Lg 3 Z Z (Is 48 d Z (λ_ d=>?_) (λ_ d=>?_)))
     .exact Go 3 Z (Cz [] d (g _ _) Z λW Q d=>Gl 3 Z d [0])
     .exact Gl 7 Z d [0]
    .exact Gl 13 Z d [0]
   .exact Gl 18 Z d [0]
  refine Gx 1 Z (Qf m (Gc 1 Z (Bd a λq f a=>Cg q [0] [1,2,5] (λq=>[(59,.bool q)]) Ze Zf ?_ ?_)))
  .refine G0 4 Z (Is 56 f Z (λ_ f=>?_) (λ_ f=>?_))
   iterate 2 exact Gl 4 Z f [0]
  refine Cn Z a (λ_ a=>?_) (λ_ a=>?_)
  .refine Gc 8 Z (Qx a ?_);obtain rfl:=Oj k a;exact Gx 1 Z (Qt (Gx 1 Z (Rt h 4 [])))
  exact Gc 8 Z (Qj a (Lr [0]))
 subst L;exact QI 6 Z h 4 []
def F_q:Nat->Course->(List Part)->Option Bool
  |0=>λ_ _=>none
  |n+1=>B_q (F_q n) n
theorem k_q:∀(a:Course) (d:List Part) (r:Bool),F_q n a d=some r->Csm prog 181 [.agg (Course.c a),.rsl 3 (map Part.enc d)] [] (λr=>.bool r) r:=by
  induction n with
  |zero=>intro a d r h;cases h
  |succ n ih=>intro a d r h;exact QaS _ ih n a d r h
def F_hv(i:Course)(e:Distance)(a:Int):Option (Ctl Int (Ctl Unit Bool)):=(bif decide (a<(e.Cutoffs.length:Int))then(idx e.Cutoffs a).bind λd=>((F_m n i d.Mat).bind λf=>(bif (!f)then some true else(bif decide (d.Lap<1)then some true else(F_c n d.Limit 0 1099511627776).bind λg=>some (!g))):Option Bool).bind λh=>(bif h then some (.done (.done false))else some (.cont (i64.wrap (a+1))))else some (.done (.cont ())))
def F_hf(e:Course)(a:Distance):Option Bool:=(iter (F_hv n e a) n 0:Option (Ctl Unit Bool)).bind λf=>match f with|.cont d=>(((F_c n a.Timing 1 3).bind λg=>(bif g then(F_q n e a.Route).bind λh=>(bif h then(bif (a.Extra==(-1))then some true else(F_m n e a.Extra).bind λi=>some i)else some false)else some false):Option Bool).bind λj=>some j)|.done d=>some d
theorem k_hf(x:Course)(y:Distance):Ks (F_hf n x y) 125 [.agg (Course.c x),.agg (Distance.c y)] [] (λr=>.bool r):=by
 refine Kg 13 func125 Z Z Z Z λr h=>Bd h λz B h=>CtE (b:=z) [0,1] [2,3] Ze Ze Zf ?_ (λF env H E f=>?_)
 .refine G0 1 Z (Lp [0,1] [2,3] (λk=>[(5,I k)]) Ze B Zf (Lr [0,1]) λk O d g=>?_);refine G0 6 Z (Lg 3 Z Z (Q8 Z d (λ_ d=>?_) (λ_ d=>?_)))
  .exact Gc 2 Z (Ql d (Gx 1 Z (JN g d Z (Lr [0,1]))))
  refine Gc 9 Z (Bd d λP m d=>Iz m Z (Go 6 Z (Bd d λi e d=>Ct i [0,1] [2,3,5] (λi=>[(34,.bool i)]) Ze Zf ?_ (λenv H f=>?_))))
  .refine G0 4 Z (Cz [] e (k_m _ _ _) Z λQ G e=>Go 2 Z (Is 24 e Z (λ_ e=>?_) (λ_ e=>?_)))
   .exact Gl 11 Z e [0,1]
   .refine Go 5 Z (Is 29 e Z (λ_ e=>?_) (λ_ e=>?_))
    .exact Gl 6 Z e [0,1]
    .exact Go 2 Z (Cz [] e (k_c _ _ _ _) Z λR J e=>Gl 3 Z e [0,1])
  refine Gx 1 Z (Qf f (Cn Z d (λ_ d=>?_) (λ_ d=>?_)))
  .refine Gc 8 Z (Qx d ?_);obtain rfl:=Oj g d;exact Gx 1 Z (Qt (Gx 1 Z (Rt h 4 [])))
  exact Gc 8 Z (Qj d (Lr [0,1]))
 subst E;refine Gx 1 Z (Qf f (Gc 1 Z (Bd h λj a h=>Cg j [] [] (λj=>[(4,.bool j)]) Ze Zf ?_ ?_)))
 .refine G0 3 Z (Cz [] a (k_c _ _ _ _) Z λT L a=>Go 1 Z (Is 38 a Z (λ_ a=>?_) (λ_ a=>?_)))
  .refine Go 3 Z (Cz [] a (k_q _ _ _) Z λV M a=>Go 2 Z (Is 44 a Z (λ_ a=>?_) (λ_ a=>?_)))
   .refine Go 4 Z (Is 48 a Z (λ_ a=>?_) (λ_ a=>?_))
    .exact Gl 8 Z a []
    .exact Go 3 Z (Cz [] a (k_m _ _ _) Z λW N a=>Gl 4 Z a [])
   .exact Gl 12 Z a []
  .exact Gl 18 Z a []
 exact QI 1 Z h 4 []
def F_jd(d:Course)(a:Int):Option (Ctl Int (Ctl Unit Bool)):=(bif decide (a<(d.Mats.length:Int))then(idx d.Mats a).bind λe=>(F_c n e.Kind 1 3).bind λf=>(bif (!f)then some (.done (.done false))else some (.cont (i64.wrap (a+1))))else some (.done (.cont ())))
def F_he(n:Nat)(i:Course)(e:Int)(d:Leg)(a:Int):Option (Ctl Int (Ctl Unit (Ctl Int (Ctl Unit Bool)))):=(bif decide (a<e)then((idx i.Legs a).bind λf=>(bif (f.From==d.From)then(idx i.Legs a).bind λg=>some (g.To==d.To)else some false):Option Bool).bind λh=>(bif h then some (.done (.done (.done (.done false))))else some (.cont (i64.wrap (a+1))))else some (.done (.cont ())))
def F_dq(f:Course)(d:Int):Option (Ctl Int (Ctl Unit Bool)):=(bif decide (d<(f.Legs.length:Int))then(idx f.Legs d).bind λa=>((F_m n f a.From).bind λg=>(bif (!g)then some true else(F_m n f a.To).bind λh=>(bif (!h)then some true else(bif decide (a.Min<0)then some true else(bif decide (a.Max<a.Min)then some true else some (decide (68719476736<a.Max)))))):Option Bool).bind λi=>(bif i then some (.done (.done false))else(iter (F_he n f d a) n 0:Option (Ctl Unit (Ctl Int (Ctl Unit Bool)))).bind λj=>match j with|.cont e=>(some (.cont (i64.wrap (d+1))))|.done e=>some e)else some (.done (.cont ())))
def F_jz(d:Course)(a:Int):Option (Ctl Int (Ctl Unit Bool)):=(bif decide (a<(d.Distances.length:Int))then(idx d.Distances a).bind λe=>(F_hf n d e).bind λf=>(bif (!f)then some (.done (.done false))else some (.cont (i64.wrap (a+1))))else some (.done (.cont ())))
def F_jf(f:Course)(a:Int):Option (Ctl Int (Ctl Unit Bool)):=(bif decide (a<(f.Waves.length:Int))then(idx f.Waves a).bind λd=>(F_c n d.Gun 0 1099511627776).bind λe=>(bif (!e)then some (.done (.done false))else some (.cont (i64.wrap (a+1))))else some (.done (.cont ())))
def F_is(k:Course)(d:Int):Option (Ctl Int (Ctl Unit Bool)):=(bif decide (d<(k.Offences.length:Int))then(idx k.Offences d).bind λa=>((F_c n a.Time 0 68719476736).bind λe=>(bif e then(bif (a.Laps==0)then some (!a.Out)else some false)else some false):Option Bool).bind λf=>((bif (a.Time==0)then(F_c n a.Laps 1 64).bind λg=>(bif g then some (!a.Out)else some false)else some false):Option Bool).bind λh=>((bif (a.Time==0)then(bif (a.Laps==0)then some a.Out else some false)else some false):Option Bool).bind λi=>((bif (!f)then(bif (!h)then some (!i)else some false)else some false):Option Bool).bind λj=>(bif j then some (.done (.done false))else some (.cont (i64.wrap (d+1))))else some (.done (.cont ())))
def F_kc(n:Nat)(f:Course)(d:Int):Option (Ctl Int (Ctl Unit Bool)):=(bif decide (d<(f.Categories.length:Int))then(idx f.Categories d).bind λa=>((bif decide (a.From<0)then some true else(bif decide (a.To<a.From)then some true else some (decide (120<a.To)))):Option Bool).bind λe=>(bif e then some (.done (.done false))else some (.cont (i64.wrap (d+1))))else some (.done (.cont ())))
def F_ez(n:Nat)(h:Course)(f:Int)(a:Prize)(d:Int):Option (Ctl Int (Ctl Unit (Ctl Int (Ctl Unit Bool)))):=(bif decide (d<f)then(idx h.Prizes d).bind λe=>((bif (e.Distance==a.Distance)then(bif (e.Category==a.Category)then some (e.Rank==a.Rank)else some false)else some false):Option Bool).bind λg=>(bif g then some (.done (.done (.done (.done false))))else some (.cont (i64.wrap (d+1))))else some (.done (.cont ())))
def F_dx(f:Course)(d:Int):Option (Ctl Int (Ctl Unit Bool)):=(bif decide (d<(f.Prizes.length:Int))then(idx f.Prizes d).bind λa=>((F_c n a.Distance 0 (i64.wrap ((f.Distances.length:Int)-1))).bind λg=>(bif (!g)then some true else(F_c n a.Category (-1) (i64.wrap ((f.Categories.length:Int)-1))).bind λh=>(bif (!h)then some true else(F_c n a.Rank 1 4000).bind λi=>(bif (!i)then some true else(F_c n a.Amount 1 1125899906842624).bind λj=>some (!j)))):Option Bool).bind λk=>(bif k then some (.done (.done false))else(iter (F_ez n f d a) n 0:Option (Ctl Unit (Ctl Int (Ctl Unit Bool)))).bind λl=>match l with|.cont e=>(some (.cont (i64.wrap (d+1))))|.done e=>some e)else some (.done (.cont ())))
def F_ci(a:Course):Option Bool:=(iter (F_jd n a) n 0:Option (Ctl Unit Bool)).bind λB=>match B with|.cont i=>((iter (F_dq n a) n 0:Option (Ctl Unit Bool)).bind λE=>match E with|.cont j=>((iter (F_jz n a) n 0:Option (Ctl Unit Bool)).bind λk=>match k with|.cont d=>((iter (F_jf n a) n 0:Option (Ctl Unit Bool)).bind λl=>match l with|.cont e=>((iter (F_is n a) n 0:Option (Ctl Unit Bool)).bind λm=>match m with|.cont f=>((iter (F_kc n a) n 0:Option (Ctl Unit Bool)).bind λp=>match p with|.cont g=>((iter (F_dx n a) n 0:Option (Ctl Unit Bool)).bind λq=>match q with|.cont h=>(((F_c n a.Faults.Misses 0 16).bind λr=>(bif r then(F_c n a.Faults.Strays 0 16).bind λs=>(bif s then(F_c n a.Faults.Window 0 4294967296).bind λt=>(bif t then(F_c n a.Faults.Residual 0 4294967296).bind λu=>(bif u then(F_c n a.Faults.Drift 0 100000).bind λw=>(bif w then(F_c n a.Fee 0 1125899906842624).bind λx=>(bif x then(F_c n a.Deadline 0 1099511627776).bind λy=>some y else some false)else some false)else some false)else some false)else some false)else some false):Option Bool).bind λz=>some z)|.done h=>some h)|.done g=>some g)|.done f=>some f)|.done e=>some e)|.done d=>some d)|.done j=>some j)|.done i=>some i
theorem k_ci(a1:Course):Ks (F_ci n a1) 52 [.agg (Course.c a1)] [] (λr=>.bool r):=by
 refine Kg 12 func52 Z Z Z Z λr h=>Bd h λds dt h=>CtE (b:=ds) [0] [1] Ze Ze Zf ?_ (λew env H u d=>?_)
 .refine G0 1 Z (Lp [0] [1] (λcw=>[(3,I cw)]) Ze dt Zf (Lr [0]) λcw gk w ak=>?_);refine G0 6 Z (Lg 3 Z Z (Q8 Z w (λ_ w=>?_) (λ_ w=>?_)))
  .exact Gc 2 Z (Ql w (Gx 1 Z (JN ak w Z (Lr [0]))))
  refine Gc 9 Z (Bd w λgl cy w=>Iz cy Z (Go 2 Z (Cz [] w (k_c _ _ _ _) Z λgm ey w=>Go 3 Z (Cn Z w (λ_ w=>?_) (λ_ w=>?_)))))
  .refine Gc 8 Z (Qx w ?_);obtain rfl:=Oj ak w;exact Gx 1 Z (Qt (Gx 1 Z (Rt h 2 [])))
  exact Gc 8 Z (Qj w (Lr [0]))
 subst u;refine Gx 1 Z (Qf d (Gc 6 Z (Bd h λdu da h=>CtE (b:=du) [0] [1] Ze Ze Zf ?_ (λez env H u d=>?_))))
 .refine G0 1 Z (Lp [0] [1] (λal=>[(4,I al)]) Ze da Zf (Lr [0]) λal fa j N=>?_);refine G0 6 Z (Lg 3 Z Z (Q8 Z j (λ_ j=>?_) (λ_ j=>?_)))
  .exact Gc 2 Z (Ql j (Gx 1 Z (JN N j Z (Lr [0]))))
  refine Gc 9 Z (Bd j λfc ax j=>Iz ax Z (Go 7 Z (Bd j λQ f j=>Ct Q [0,1] [1,4,5] (λQ=>[(76,.bool Q)]) Ze Zf ?_ (λenv H d=>?_))))
  .refine G0 4 Z (Cz [] f (k_m _ _ _) Z λfd dv f=>Go 2 Z (Is 53 f Z (λ_ f=>?_) (λ_ f=>?_)))
   .exact Gl 24 Z f [0,1]
   .refine Go 3 Z (Cz [] f (k_m _ _ _) Z λfe dw f=>Go 3 Z (Is 60 f Z (λ_ f=>?_) (λ_ f=>?_)))
    .exact Gl 17 Z f [0,1]
    .refine Go 5 Z (Is 65 f Z (λ_ f=>?_) (λ_ f=>?_))
     .exact Gl 12 Z f [0,1]
     .refine Go 7 Z (Is 72 f Z (λ_ f=>?_) (λ_ f=>?_))
      iterate 2 exact Gl 5 Z f [0,1]
  refine Gx 1 Z (Qf d (Cn Z j (λ_ j=>?_) (λ_ j=>?_)))
  .refine Gc 9 Z (Qx j ?_);obtain rfl:=Oj N j;exact Gx 1 Z (Qt (Gx 1 Z (Rt h 2 [])))
  refine Gc 7 Z (Bd j λdb dc j=>CtE (b:=db) [0] [1,4] Ze Ze Zf ?_ (λdx env H u d=>?_))
  .refine G0 1 Z (Lp [0,1] [1,4,5] (λam=>[(6,I am)]) Ze dc Zf (Lr [0,1]) λam fg t ae=>?_);refine G0 8 Z (Q8 Z t (λ_ t=>?_) (λ_ t=>?_))
   .exact Gc 2 Z (Ql t (Gx 1 Z (JN ae t Z (Lr [0]))))
   refine Gc 5 Z (Bd t λR B t=>Ct R [0,1] [1,4,5,6] (λR=>[(101,.bool R)]) Ze Zf ?_ (λenv H d=>?_))
   .refine G0 0 Z (DSs 18 Z (D 3 Z ?_));obtain⟨O,be,B⟩:=YM B;refine DS.wo (x:=.rp [I O.From,I O.To,I O.Min,I O.Max]) ?_ ?_
    .exact Ix be GD sizeOf118 Z Wp
    refine D 6 Z (QeG 9 B Z Z Z (λ_ B=>?_) (λ_ B=>?_))
    .refine D 3 Z ?_;obtain⟨L,bg,B⟩:=YM B;refine DS.v (x:=(.rp [I L.From,I L.To,I L.Min,I L.Max])) (Qcs (e:=Leg.c) (l:=a1.Legs) (v:=L) bg GD sizeOf118) ?_ (hg:=(gT Z));exact D 4 Z (Eg Z (Gl 3 Z B [0,1]))
    .exact D 8 Z (Eg Z (Gl 3 Z B [0,1]))
   refine Gx 1 Z (Qf d (Cn Z t (λ_ t=>?_) (λ_ t=>?_)))
   .refine Gc 8 Z (Qx t ?_);obtain rfl:=Oj ae t;refine Gx 1 Z (Qt (Gx 2 Z (Qx j ?_)));obtain rfl:=Oj N j;exact Gx 1 Z (Qt (Gx 1 Z (Rt h 2 [])))
   exact Gc 8 Z (Qj t (Lr [0,1]))
  subst u;exact Gx 2 Z (Qf d (Gc 5 Z (Qj j (Lr [0]))))
 subst u;refine Gx 1 Z (Qf d (Gc 6 Z (Bd h λde df h=>CtE (b:=de) [0] [1] Ze Ze Zf ?_ (λdy env H u d=>?_))))
 .refine G0 1 Z (Lp [0] [1] (λan=>[(7,I an)]) Ze df Zf (Lr [0]) λan fh m af=>?_);refine G0 6 Z (Lg 3 Z Z (Q8 Z m (λ_ m=>?_) (λ_ m=>?_)))
  .exact Gc 2 Z (Ql m (Gx 1 Z (JN af m Z (Lr [0]))))
  refine Gc 5 Z (DSs 6 Z (D 4 Z ?_));obtain⟨M,bj,m⟩:=YM m;refine DS.wo (x:=.rp [.str M.Name,.rsl 3 (map Part.enc M.Route),I M.Timing,.rsl 3 (map Cutoff.c M.Cutoffs),I M.Extra]) ?_ ?_
  .exact Ix bj Gj Gm Z Wp
  refine D 1 Z (Eg Z (Cz [] m (k_hf _ _ _) Z λfi dz m=>Go 3 Z (Cn Z m (λ_ m=>?_) (λ_ m=>?_))))
  .refine Gc 8 Z (Qx m ?_);obtain rfl:=Oj af m;exact Gx 1 Z (Qt (Gx 1 Z (Rt h 2 [])))
  exact Gc 8 Z (Qj m (Lr [0]))
 subst u;refine Gx 1 Z (Qf d (Gc 6 Z (Bd h λdg dh h=>CtE (b:=dg) [0] [1] Ze Ze Zf ?_ (λea env H u d=>?_))))
 .refine G0 1 Z (Lp [0] [1] (λao=>[(8,I ao)]) Ze dh Zf (Lr [0]) λao fj p ag=>?_);refine G0 6 Z (Lg 3 Z Z (Q8 Z p (λ_ p=>?_) (λ_ p=>?_)))
  .exact Gc 2 Z (Ql p (Gx 1 Z (JN ag p Z (Lr [0]))))
  refine Gc 9 Z (Bd p λfk bm p=>Iz bm Z (Go 2 Z (Cz [] p (k_c _ _ _ _) Z λfm eb p=>Go 3 Z (Cn Z p (λ_ p=>?_) (λ_ p=>?_)))))
  .refine Gc 8 Z (Qx p ?_);obtain rfl:=Oj ag p;exact Gx 1 Z (Qt (Gx 1 Z (Rt h 2 [])))
  exact Gc 8 Z (Qj p (Lr [0]))
 subst u;refine Gx 1 Z (Qf d (Gc 6 Z (Bd h λdi dj h=>CtE (b:=di) [0] [1] Ze Ze Zf ?_ (λec env H u d=>?_))))
 .refine G0 1 Z (Lp [0] [1] (λaq=>[(9,I aq)]) Ze dj Zf (Lr [0]) λaq fo g ah=>?_);refine G0 6 Z (Lg 3 Z Z (Q8 Z g (λ_ g=>?_) (λ_ g=>?_)))
  .exact Gc 2 Z (Ql g (Gx 1 Z (JN ah g Z (Lr [0]))))
  refine Gc 9 Z (Bd g λfp bp g=>Iz bp Z (Go 6 Z (Bd g λT y g=>Ct T [0,1] [1,9,10] (λT=>[(11,.bool T)]) Ze Zf ?_ (λenv H d=>?_))))
  .refine G0 3 Z (Cz [] y (k_c _ _ _ _) Z λfq ed y=>Go 1 Z (Is 147 y Z (λ_ y=>?_) (λ_ y=>?_)))
   .refine Go 5 Z (Is 152 y Z (λ_ y=>?_) (λ_ y=>?_))
    iterate 2 exact Gl 6 Z y [0,1]
   .exact Gl 11 Z y [0,1]
  refine Gx 1 Z (Qf d (Gc 1 Z (Bd g λV z g=>Ct V [0,1] [1,9,10,11] (λV=>[(12,.bool V)]) Ze Zf ?_ (λenv H d=>?_))))
  .refine G0 5 Z (Is 160 z Z (λ_ z=>?_) (λ_ z=>?_))
   .refine Go 2 Z (Cz [] z (k_c _ _ _ _) Z λfr ee z=>Go 2 Z (Is 165 z Z (λ_ z=>?_) (λ_ z=>?_)))
    iterate 2 exact Gl 6 Z z [0,1]
   .exact Gl 11 Z z [0,1]
  refine Gx 1 Z (Qf d (Gc 1 Z (Bd g λW E g=>Ct W [0] [1,9,11,12] (λW=>[(13,.bool W)]) Ze Zf ?_ (λenv H d=>?_))))
  .refine G0 5 Z (Is 173 E Z (λ_ E=>?_) (λ_ E=>?_))
   .refine Go 5 Z (Is 178 E Z (λ_ E=>?_) (λ_ E=>?_))
    iterate 2 exact Gl 5 Z E [0]
   .exact Gl 10 Z E [0]
  refine Gx 1 Z (Qf d (Gc 1 Z (Bd g λX F g=>Ct X [0] [1,9] (λX=>[(191,.bool X)]) Ze Zf ?_ (λenv H d=>?_))))
  .refine G0 4 Z (Is 184 F Z (λ_ F=>?_) (λ_ F=>?_))
   .refine Go 4 Z (Is 188 F Z (λ_ F=>?_) (λ_ F=>?_))
    iterate 2 exact Gl 4 Z F [0]
   .exact Gl 8 Z F [0]
  refine Gx 1 Z (Qf d (Cn Z g (λ_ g=>?_) (λ_ g=>?_)))
  .refine Gc 8 Z (Qx g ?_);obtain rfl:=Oj ah g;exact Gx 1 Z (Qt (Gx 1 Z (Rt h 2 [])))
  exact Gc 8 Z (Qj g (Lr [0]))
 subst u;refine Gx 1 Z (Qf d (Gc 6 Z (Bd h λdk dm h=>CtE (b:=dk) [0] [1] Ze Ze Zf ?_ (λef env H u d=>?_))))
 .refine G0 1 Z (Lp [0] [1] (λar=>[(14,I ar)]) Ze dm Zf (Lr [0]) λar fs q ai=>?_);refine G0 6 Z (Lg 3 Z Z (Q8 Z q (λ_ q=>?_) (λ_ q=>?_)))
  .exact Gc 2 Z (Ql q (Gx 1 Z (JN ai q Z (Lr [0]))))
  refine Gc 9 Z (Bd q λft cb q=>Iz cb Z (Go 6 Z (Bd q λY G q=>Ct Y [0] [1,14] (λY=>[(218,.bool Y)]) Ze Zf ?_ (λenv H d=>?_))))
  .refine G0 5 Z (Is 207 G Z (λ_ G=>?_) (λ_ G=>?_))
   .exact Gl 12 Z G [0]
   .refine Go 7 Z (Is 214 G Z (λ_ G=>?_) (λ_ G=>?_))
    iterate 2 exact Gl 5 Z G [0]
  refine Gx 1 Z (Qf d (Cn Z q (λ_ q=>?_) (λ_ q=>?_)))
  .refine Gc 8 Z (Qx q ?_);obtain rfl:=Oj ai q;exact Gx 1 Z (Qt (Gx 1 Z (Rt h 2 [])))
  exact Gc 8 Z (Qj q (Lr [0]))
 subst u;refine Gx 1 Z (Qf d (Gc 6 Z (Bd h λdn dp h=>CtE (b:=dn) [0] [1] Ze Ze Zf ?_ (λeg env H u d=>?_))))
 .refine G0 1 Z (Lp [0] [1] (λau=>[(16,I au)]) Ze dp Zf (Lr [0]) λau fu k P=>?_);refine G0 6 Z (Lg 3 Z Z (Q8 Z k (λ_ k=>?_) (λ_ k=>?_)))
  .exact Gc 2 Z (Ql k (Gx 1 Z (JN P k Z (Lr [0]))))
  refine Gc 9 Z (Bd k λfv cg k=>Iz cg Z (Go 7 Z (Bd k λaa i k=>Ct aa [0,1] [1,16,17] (λaa=>[(260,.bool aa)]) Ze Zf ?_ (λenv H d=>?_))))
  .refine G0 5 Z (Lg 1 Z Z (Cz [] i (k_c _ _ _ _) Z λfw eh i=>Go 2 Z (Is 239 i Z (λ_ i=>?_) (λ_ i=>?_))))
   .exact Gl 22 Z i [0,1]
   .refine Go 4 Z (Lg 1 Z Z (Cz [] i (k_c _ _ _ _) Z λfx ei i=>Go 3 Z (Is 249 i Z (λ_ i=>?_) (λ_ i=>?_))))
    .exact Gl 12 Z i [0,1]
    .refine Go 2 Z (Cz [] i (k_c _ _ _ _) Z λfy ej i=>Go 3 Z (Is 255 i Z (λ_ i=>?_) (λ_ i=>?_)))
     .exact Gl 6 Z i [0,1]
     .exact Go 2 Z (Cz [] i (k_c _ _ _ _) Z λga ek i=>Gl 3 Z i [0,1])
  refine Gx 1 Z (Qf d (Cn Z k (λ_ k=>?_) (λ_ k=>?_)))
  .refine Gc 9 Z (Qx k ?_);obtain rfl:=Oj P k;exact Gx 1 Z (Qt (Gx 1 Z (Rt h 2 [])))
  refine Gc 7 Z (Bd k λdq dr k=>CtE (b:=dq) [0] [1,16] Ze Ze Zf ?_ (λel env H u d=>?_))
  .refine G0 1 Z (Lp [0,1] [1,16,17] (λav=>[(18,I av)]) Ze dr Zf (Lr [0,1]) λav gb s aj=>?_);refine G0 8 Z (Q8 Z s (λ_ s=>?_) (λ_ s=>?_))
   .exact Gc 2 Z (Ql s (Gx 1 Z (JN aj s Z (Lr [0]))))
   refine Gc 9 Z (Bd s λgc cm s=>Iz cm Z (Go 6 Z (Bd s λab J s=>Ct ab [0,1] [1,16,17,18] (λab=>[(289,.bool ab)]) Ze Zf ?_ (λenv H d=>?_))))
   .refine G0 7 Z (Is 276 J Z (λ_ J=>?_) (λ_ J=>?_))
    .refine Go 7 Z (Is 283 J Z (λ_ J=>?_) (λ_ J=>?_))
     iterate 2 exact Gl 7 Z J [0,1]
    .exact Gl 14 Z J [0,1]
   refine Gx 1 Z (Qf d (Cn Z s (λ_ s=>?_) (λ_ s=>?_)))
   .refine Gc 8 Z (Qx s ?_);obtain rfl:=Oj aj s;refine Gx 1 Z (Qt (Gx 2 Z (Qx k ?_)));obtain rfl:=Oj P k;exact Gx 1 Z (Qt (Gx 1 Z (Rt h 2 [])))
   exact Gc 8 Z (Qj s (Lr [0,1]))
  subst u;exact Gx 2 Z (Qf d (Gc 5 Z (Qj k (Lr [0]))))
 subst u;refine Gx 1 Z (Qf d (Gc 9 Z (Bd h λac a h=>Cg ac [] [] (λac=>[(2,.bool ac)]) Ze Zf ?_ ?_)))
 .refine G0 3 Z (Cz [] a (k_c _ _ _ _) Z λgd em a=>Go 1 Z (Is 295 a Z (λ_ a=>?_) (λ_ a=>?_)))
  .refine Go 2 Z (Cz [] a (k_c _ _ _ _) Z λge en a=>Go 2 Z (Is 300 a Z (λ_ a=>?_) (λ_ a=>?_)))
   .refine Go 2 Z (Cz [] a (k_c _ _ _ _) Z λgf eo a=>Go 2 Z (Is 305 a Z (λ_ a=>?_) (λ_ a=>?_)))
    .refine Go 2 Z (Cz [] a (k_c _ _ _ _) Z λgg ep a=>Go 2 Z (Is 310 a Z (λ_ a=>?_) (λ_ a=>?_)))
     .refine Go 2 Z (Cz [] a (k_c _ _ _ _) Z λgh es a=>Go 2 Z (Is 315 a Z (λ_ a=>?_) (λ_ a=>?_)))
      .refine Go 2 Z (Cz [] a (k_c _ _ _ _) Z λgi et a=>Go 2 Z (Is 320 a Z (λ_ a=>?_) (λ_ a=>?_)))
       .exact Go 2 Z (Cz [] a (k_c _ _ _ _) Z λgj eu a=>Gl 3 Z a [])
       .exact Gl 6 Z a []
      .exact Gl 11 Z a []
     .exact Gl 16 Z a []
    .exact Gl 21 Z a []
   .exact Gl 26 Z a []
  .exact Gl 31 Z a []
 exact QI 1 Z h 2 []
def F_eq(n:Nat)(d:Cond)(rec232:Cond->Option Bool)(a:Int):Option (Ctl Int (Ctl Unit Bool)):=(bif decide (a<(d.Parts.length:Int))then(idx d.Parts a).bind λe=>(rec232 e).bind λf=>(bif (!f)then some (.done (.done false))else some (.cont (i64.wrap (a+1))))else some (.done (.cont ())))
def B_ab(rec232:Cond->Option Bool)(n:Nat)(a:Cond):Option Bool:=(bif (a.Kind==1)then((bif decide (1<=a.Var)then(bif decide (a.Var<=3)then(bif decide (0<=a.N)then(bif decide (a.N<=10000)then some ((a.Parts.length:Int)==0)else some false)else some false)else some false)else some false):Option Bool).bind λk=>some k else((bif (a.Kind==2)then some (a.Kind==2)else some (a.Kind==3)):Option Bool).bind λf=>((bif f then((bif decide ((a.Parts.length:Int)<1)then some true else some (decide (16<(a.Parts.length:Int)))):Option Bool).bind λg=>(bif g then some (.done false)else some (.cont ()))else(bif (a.Kind==4)then(bif ((a.Parts.length:Int) != 1)then some (.done false)else some (.cont ()))else some (.done false))):Option (Ctl Unit Bool)).bind λh=>match h with|.cont d=>(((bif (a.Var != 0)then some true else some (a.N != 0)):Option Bool).bind λi=>(bif i then some false else(iter (F_eq n a rec232) n 0:Option (Ctl Unit Bool)).bind λj=>match j with|.cont e=>(some true)|.done e=>some e))|.done d=>some d)
theorem Qa4(rec232:Cond->Option Bool)(k:∀(l:Cond) (r:Bool),rec232 l=some r->Csm prog 234 [.agg (Cond.c l)] [] (λr=>.bool r) r)(n:Nat)(l:Cond)(r:Bool)(h:B_ab rec232 n l=some r):Csm prog 234 [.agg (Cond.c l)] [] (λr=>.bool r) r:=by
 refine QE func234 Z Z Z ?_;refine G0 20 Z (Cn Z h (λ_ h=>?_) (λ_ h=>?_))
 .refine Gc 1 Z (Bd h λu e h=>Ct u [] [] (λu=>[(2,.bool u)]) Ze Zf ?_ (λenv H f=>?_))
  .refine G0 5 Z (Is 11 e Z (λ_ e=>?_) (λ_ e=>?_))
   .refine Go 5 Z (Is 16 e Z (λ_ e=>?_) (λ_ e=>?_))
    .refine Go 5 Z (Is 21 e Z (λ_ e=>?_) (λ_ e=>?_))
     .refine Go 5 Z (Is 26 e Z (λ_ e=>?_) (λ_ e=>?_))
      .exact Go 2 Z (Lm Z (Gl 4 Z e []))
      .exact Gl 7 Z e []
     .exact Gl 12 Z e []
    .exact Gl 17 Z e []
   .exact Gl 22 Z e []
  exact Gx 1 Z (Qf f (QI 3 Z h 2 []))
 refine Gc 7 Z (Bd h λm g h=>Ct m [0] [1,5] (λm=>[(32,.bool m)]) Ze Zf ?_ (λenv H f=>?_))
 .refine G0 0 Z (Cn Z g (λ_ g=>?_) (λ_ g=>?_))
  .exact YC 1 Z g [0]
  exact YC 4 Z g [0]
 refine Gx 1 Z (Qf f (Bd h λT a h=>CtE (b:=T) [0] [1] Ze Ze Zf ?_ (λaa env H hb f=>?_)))
 .refine G0 0 Z (Cn Z a (λ_ a=>?_) (λ_ a=>?_))
  .refine Gc 1 Z (Bd a λp i a=>Ct p [0] [1] (λp=>[(44,.bool p)]) Ze Zf ?_ (λenv H f=>?_))
   .refine G0 3 Z (Lg 2 Z Z (Is 39 i Z (λ_ i=>?_) (λ_ i=>?_)))
    .exact Gl 6 Z i [0]
    .exact Go 2 Z (Lm Z (Gl 3 Z i [0]))
   refine Gx 1 Z (Qf f (Cn Z a (λ_ a=>?_) (λ_ a=>?_)))
   .refine Gc 6 Z ?_;cases a;exact Qt (Gx 2 Z (Rt h 2 []))
   refine Gc 1 Z ?_;cases a;exact Yv Z (Lr [0])
  refine Gc 6 Z (Q8 Z a (λ_ a=>?_) (λ_ a=>?_))
  .refine Gc 6 Z ?_;cases a;exact Qt (Gx 2 Z (Rt h 2 []))
  refine Gc 4 Z (Lg 3 Z Z (Cn Z a (λ_ a=>?_) (λ_ a=>?_)))
  .refine Gc 6 Z ?_;cases a;exact Qt (Gx 2 Z (Rt h 2 []))
  refine Gc 1 Z ?_;cases a;exact Yv Z (Lr [0])
 subst hb;refine Gx 2 Z (Qf f (Gc 2 Z (Bd h λq j h=>Ct q [0] [1] (λq=>[(58,.bool q)]) Ze Zf ?_ (λenv H f=>?_))))
 .refine G0 5 Z (Is 54 j Z (λ_ j=>?_) (λ_ j=>?_))
  iterate 2 exact Gl 5 Z j [0]
 refine Gx 1 Z (Qf f (Cn Z h (λ_ h=>?_) (λ_ h=>?_)))
 .exact QI 7 Z h 2 []
 refine Gc 8 Z (Bd h λV W h=>CgE (b:=V) [] [] Ze Ze Zf ?_ (λ_ X=>?_))
 .refine G0 1 Z (Lp [0] [1] (λt=>[(3,I t)]) Ze W Zf (Lr [0]) λt ae d s=>?_);refine G0 6 Z (Lg 3 Z Z (Q8 Z d (λ_ d=>?_) (λ_ d=>?_)))
  .exact Gc 2 Z (Ql d (Gx 1 Z (JN s d Z (Lr []))))
  refine Gc 9 Z (Bd d λY N d=>IzE N (Qap Y) Z (Go 1 Z (Cz [] d (k _) Z λaf ac d=>Go 3 Z (Cn Z d (λ_ d=>?_) (λ_ d=>?_)))))
  .refine Gc 8 Z (Qx d ?_);obtain rfl:=Oj s d;exact Gx 1 Z (Qt (Gx 1 Z (Rt h 2 [])))
  exact Gc 8 Z (Qj d (Lr [0]))
 subst X;exact QI 6 Z h 2 []
def F_ab:Nat->Cond->Option Bool
  |0=>λ_=>none
  |n+1=>B_ab (F_ab n) n
theorem k_ab:∀(a:Cond) (r:Bool),F_ab n a=some r->Csm prog 234 [.agg (Cond.c a)] [] (λr=>.bool r) r:=by
  induction n with
  |zero=>intro a r h;cases h
  |succ n ih=>intro a r h;exact Qa4 _ ih n a r h
def F_ce(a:Cond):Option Int:=(F_l n a 0).bind λd=>(bif decide (256<d)then some 2 else(F_ab n a).bind λe=>(bif (!e)then some 71 else some 0))
theorem k_ce(a:Cond):Ks (F_ce n a) 182 [.agg (Cond.c a)] [] (λr=>I r):=by
 refine Kg 10 func182 Z Z Z Z λr h=>Cz [] h (k_l _ _ _) Z λi f h=>Go 3 Z (Cn Z h (λ_ h=>?_) (λ_ h=>?_))
 .exact QI 7 Z h 2 []
 refine Gc 6 Z (Cz [] h (k_ab _ _) Z λj g h=>Go 3 Z (Cn Z h (λ_ h=>?_) (λ_ h=>?_)))
 .exact QI 7 Z h 2 []
 exact QI 8 Z h 2 []
def F_kf(m:List Step)(rec230:(List Step)->Option Bool)(d:Int):Option (Ctl Int (Ctl Unit Bool)):=(bif decide (d<(m.length:Int))then(idx m d).bind λa=>((bif (a.Kind==1)then((bif decide (a.By<1)then some true else(bif decide (5<a.By)then some true else(F_be n a.Cond).bind λf=>(bif (!f)then some true else(bif ((a.Then.length:Int) != 0)then some true else some ((a.Else.length:Int) != 0))))):Option Bool).bind λg=>(bif g then some (.done (.done (.done false)))else some (.cont ()))else(bif (a.Kind==2)then((bif (a.By != 0)then some true else(F_ce n a.Cond).bind λh=>(bif (h != 0)then some true else(bif ((a.Then.length:Int)==0)then some true else(rec230 a.Then).bind λi=>(bif (!i)then some true else(rec230 a.Else).bind λj=>some (!j))))):Option Bool).bind λk=>(bif k then some (.done (.done (.done false)))else some (.cont ()))else some (.done (.done (.done false))))):Option (Ctl Unit (Ctl Int (Ctl Unit Bool)))).bind λl=>match l with|.cont e=>(some (.cont (i64.wrap (d+1))))|.done e=>some e else some (.done (.cont ())))
def B_i(rec230:(List Step)->Option Bool)(n:Nat)(e:List Step):Option Bool:=(iter (F_kf n e rec230) n 0:Option (Ctl Unit Bool)).bind λd=>match d with|.cont a=>(some true)|.done a=>some a
theorem Qa3(rec230:(List Step)->Option Bool)(i:∀(m:List Step) (r:Bool),rec230 m=some r->Csm prog 126 [.rsl 8 (map Step.enc m)] [] (λr=>.bool r) r)(n:Nat)(m:List Step)(r:Bool)(h:B_i rec230 n m=some r):Csm prog 126 [.rsl 8 (map Step.enc m)] [] (λr=>.bool r) r:=by
 refine QE func126 Z Z Z ?_;refine G0 11 Z (Bd h λM N h=>CgE (b:=M) [] [] Ze Ze Zf ?_ (λ_ Q=>?_))
 .refine G0 1 Z (Lp [] [0] (λp=>[(3,I p)]) Ze N Zf (Lr []) λp aa f g=>?_);refine G0 5 Z (Lg 3 Z Z (Q8 Z f (λ_ f=>?_) (λ_ f=>?_)))
  .exact Gc 2 Z (Ql f (Gx 1 Z (JN g f Z (Lr []))))
  refine Gc 8 Z (Bd f λO s f=>IzE s (YT O) Z (Go 18 Z (Bd f λP d f=>CtE (b:=P) [] [0,3] Ze Ze Zf ?_ (λT env H hb j=>?_))))
  .refine G0 0 Z (Cn Z d (λ_ d=>?_) (λ_ d=>?_))
   .refine Gc 1 Z (Bd d λk e d=>Ct k [] [0,3] (λk=>[(44,.bool k)]) Ze Zf ?_ (λenv H j=>?_))
    .refine G0 5 Z (Is 22 e Z (λ_ e=>?_) (λ_ e=>?_))
     .exact Gl 23 Z e []
     .refine Go 5 Z (Is 27 e Z (λ_ e=>?_) (λ_ e=>?_))
      .exact Gl 18 Z e []
      .refine Go 2 Z (Cz [] e (k_be _ _) Z λab V e=>Go 3 Z (Is 33 e Z (λ_ e=>?_) (λ_ e=>?_)))
       .exact Gl 12 Z e []
       .refine Go 2 Z (Lg 3 Z Z (Is 39 e Z (λ_ e=>?_) (λ_ e=>?_)))
        .exact Gl 6 Z e []
        .exact Go 2 Z (Lm Z (Gl 3 Z e []))
    refine Gx 1 Z (Qf j (Cn Z d (λ_ d=>?_) (λ_ d=>?_)))
    .refine Gc 6 Z ?_;cases d;refine Qt (Gx 3 Z (Qx f ?_));obtain rfl:=Oj g f;exact Gx 1 Z (Qt (Gx 1 Z (Rt h 2 [])))
    refine Gc 1 Z ?_;cases d;exact Yv Z (Lr [])
   refine Gc 6 Z (Q8 Z d (λ_ d=>?_) (λ_ d=>?_))
   .refine Gc 6 Z ?_;cases d;refine Qt (Gx 3 Z (Qx f ?_));obtain rfl:=Oj g f;exact Gx 1 Z (Qt (Gx 1 Z (Rt h 2 [])))
   refine Gc 1 Z (Bd d λl a d=>Ct l [] [0,3] (λl=>[(73,.bool l)]) Ze Zf ?_ (λenv H j=>?_))
   .refine G0 5 Z (Is 50 a Z (λ_ a=>?_) (λ_ a=>?_))
    .exact Gl 24 Z a []
    .refine Go 2 Z (Cz [] a (k_ce _ _) Z λac W a=>Go 3 Z (Is 56 a Z (λ_ a=>?_) (λ_ a=>?_)))
     .exact Gl 18 Z a []
     .refine Go 2 Z (Lg 3 Z Z (Is 62 a Z (λ_ a=>?_) (λ_ a=>?_)))
      .exact Gl 12 Z a []
      .refine Go 2 Z (Cz [] a (i _) Z λae X a=>Go 3 Z (Is 68 a Z (λ_ a=>?_) (λ_ a=>?_)))
       .exact Gl 6 Z a []
       .exact Go 2 Z (Cz [] a (i _) Z λaf Y a=>Gl 3 Z a [])
   refine Gx 1 Z (Qf j (Cn Z d (λ_ d=>?_) (λ_ d=>?_)))
   .refine Gc 6 Z ?_;cases d;refine Qt (Gx 3 Z (Qx f ?_));obtain rfl:=Oj g f;exact Gx 1 Z (Qt (Gx 1 Z (Rt h 2 [])))
   refine Gc 1 Z ?_;cases d;exact Yv Z (Lr [])
  subst hb;exact Gx 3 Z (Qf j (Gc 5 Z (Qj f (Lr []))))
 subst Q;exact QI 6 Z h 2 []
def F_i:Nat->(List Step)->Option Bool
  |0=>λ_=>none
  |n+1=>B_i (F_i n) n
theorem k_i:∀(a:List Step) (r:Bool),F_i n a=some r->Csm prog 126 [.rsl 8 (map Step.enc a)] [] (λr=>.bool r) r:=by
  induction n with
  |zero=>intro a r h;cases h
  |succ n ih=>intro a r h;exact Qa3 _ ih n a r h
def F_gr(a:List Step):Option Int:=(F_n n a 0).bind λd=>((bif decide (64<d.1)then some true else some (decide (256<d.2))):Option Bool).bind λf=>(bif f then some 2 else((bif ((a.length:Int)==0)then some true else(F_i n a).bind λe=>some (!e)):Option Bool).bind λg=>(bif g then some 71 else some 0))
theorem k_gr(j:List Step):Ks (F_gr n j) 53 [.rsl 8 (map Step.enc j)] [] (λr=>I r):=by
 refine Kg 8 func53 Z Z Z Z λr h=>Cd [] h (k_n _ _ _) Z λt q h=>Fg 9 Z Z (Bd h λe d h=>Ct e [] [0] (λe=>[(15,.bool e)]) Ze Zf ?_ (λenv H k=>?_))
 .refine G0 4 Z (Is 12 d Z (λ_ d=>?_) (λ_ d=>?_))
  iterate 2 exact Gl 4 Z d []
 refine Gx 1 Z (Qf k (Cn Z h (λ_ h=>?_) (λ_ h=>?_)))
 .exact QI 7 Z h 2 []
 refine Gc 4 Z (Bd h λf a h=>Cg f [] [] (λf=>[(23,.bool f)]) Ze Zf ?_ ?_)
 .refine G0 2 Z (Lg 2 Z Z (Is 19 a Z (λ_ a=>?_) (λ_ a=>?_)))
  .exact Gl 5 Z a []
  .exact Go 1 Z (Cz [] a (k_i _ _) Z λs p a=>Gl 3 Z a [])
 refine Cn Z h (λ_ h=>?_) (λ_ h=>?_)
 .exact QI 7 Z h 2 []
 exact QI 8 Z h 2 []
def F_fs(n:Nat)(i:List Part)(d:(List Int)×Int)(e:List Int)(a:(List Int)×Int):Option (Ctl ((List Int)×Int) (List Int)):=((idx i d.2).bind λf=>(bif decide (a.2<f.Laps)then some (decide ((a.1.length:Int)<=256))else some false):Option Bool).bind λg=>(bif g then(app a.1 e).bind λh=>some (.cont (h,i64.wrap (a.2+1)))else some (.done a.1))
def F_hc(d:List Part)(rec234:(List Part)->Option (List Int))(a:(List Int)×Int):Option (Ctl ((List Int)×Int) (List Int)):=((bif decide (a.2<(d.length:Int))then some (decide ((a.1.length:Int)<=256))else some false):Option Bool).bind λe=>(bif e then((idx d a.2).bind λf=>(bif (f.Laps==0)then(idx d a.2).bind λg=>(app a.1 [g.Mat]).bind λh=>some h else(idx d a.2).bind λi=>(rec234 i.Parts).bind λj=>(iter (F_fs n d a j) n (a.1,0):Option (List Int)).bind λk=>some k):Option (List Int)).bind λl=>some (.cont (l,i64.wrap (a.2+1)))else some (.done a.1))
def B_ac(rec234:(List Part)->Option (List Int))(n:Nat)(d:List Part):Option (List Int):=(iter (F_hc n d rec234) n (([]:List Int),0):Option (List Int)).bind λa=>some a
theorem QaT(rec234:(List Part)->Option (List Int))(w:∀(x:List Part) (r:List Int),rec234 x=some r->C prog 127 [.rsl 3 (map Part.enc x)] [] (RQ (λr=>.osl 0 0 r.length 1) (λr=>[.row 3 1 (map (Qe .i64) r)]) r))(n:Nat)(x:List Part)(r:List Int)(h:B_ac rec234 n x=some r):C prog 127 [.rsl 3 (map Part.enc x)] [] (RQ (λr=>.osl 0 0 r.length 1) (λr=>[.row 3 1 (map (Qe .i64) r)]) r):=by
 refine QE func127 Z Z Z ?_;refine G0 7 Z (vH (Ek (xs:=[]) (es:=map (Qe .i64) []) Qu Z Z Z Z Z trivial Z Z) ?_);refine Fg 9 Z Z (Bd h λj T h=>Cg j [0] [] (λj=>[(3,.osl 0 0 j.length 1)]) (λj=>[(0,.row 3 1 (map (Qe .i64) j))]) Zf ?_ ?_)
 .refine G0 1 Z (Lp [0] [0] (λk=>[(3,.osl 0 0 k.1.length 1),(4,I k.2)]) (λk=>[(0,.row 3 1 (map (Qe .i64) k.1))]) T Zf (Lr [0]) λk ab d z=>?_);refine G0 2 Z (Bd d λt l d=>Ct t [0] [0,3,4] (λt=>[(16,.bool t)]) Ze Zf ?_ (λenv H s=>?_))
  .refine G0 3 Z (Lg 2 Z Z (Is 12 l Z (λ_ l=>?_) (λ_ l=>?_)))
   iterate 2 exact Gl 5 Z l [0]
  refine Gx 1 Z (Qf s (Q8 Z d (λ_ d=>?_) (λ_ d=>?_)))
  .exact Gc 2 Z (Ql d (Gx 1 Z (cQo z d (Lr [0]))))
  refine Gc 3 Z (Bd d λm a d=>Cg m [0] [0,4] (λm=>[(3,.osl 0 0 m.length 1)]) (λm=>[(0,.row 3 1 (map (Qe .i64) m))]) Zf ?_ ?_)
  .refine G0 6 Z (Bd a λV F a=>IzE F (Q4 V) Z (Go 5 Z (Cn Z a (λ_ a=>?_) (λ_ a=>?_))))
   .refine Gc 5 Z (Bd a λy J a=>IzE J (Q4 y) Z (Go 2 Z (vH (Ek (xs:=[.tmp 30]) (es:=map (Qe .i64) [y.Mat]) Qu Z Z Z Z Z ⟨Z,trivial⟩ Z Z) ?_)));refine FE Z (Bd a λac L a=>vH (Qk (e:=(Qe .i64)) L Qu EA (QH (i:=1))) ?_);exact FE Z (Gl 6 Z a [2])
   refine Gc 6 Z (Bd a λW M a=>IzE M (Q4 W) Z (Go 2 Z (Cd [] a (w _) Z λae aa a=>Fg 8 Z Z (Bd a λp X a=>Ct p [0] [0,4] (λp=>[(3,.osl 0 0 p.length 1)]) (λp=>[(0,.row 3 1 (map (Qe .i64) p))]) Zf ?_ (λenv H s=>?_)))))
   .refine G0 1 Z (Lp [0,1] [0,4,5] (λq=>[(3,.osl 0 0 q.1.length 1),(6,I q.2)]) (λq=>[(0,.row 3 1 (map (Qe .i64) q.1))]) X Zf (Lr [0,1]) λq af f N=>?_);refine G0 2 Z (Bd f λu g f=>Ct u [0,1] [0,3,4,5,6] (λu=>[(50,.bool u)]) Ze Zf ?_ (λenv H s=>?_))
    .refine G0 4 Z (Bd g λY O g=>IzE O (Q4 Y) Z (Go 4 Z (Is 46 g Z (λ_ g=>?_) (λ_ g=>?_))))
     iterate 2 exact Gl 5 Z g [0,1]
    refine Gx 1 Z (Qf s (Q8 Z f (λ_ f=>?_) (λ_ f=>?_)))
    .exact Gc 2 Z (Ql f (Gx 1 Z (cQo N f (Lr [0]))))
    refine Gc 7 Z (Bd f λag R f=>vH (Qk (e:=(Qe .i64)) R Qu EA (QH (i:=1))) ?_);exact Fg 9 Z Z (Qj f (Lr [2,1]))
   refine Gx 1 Z ?_;cases a;exact JM (En s (Lr [0]))
  exact Gc 5 Z (Qj d (Lr [0]))
 exact QI 7 Z h 2 [0]
def F_ac:Nat->(List Part)->Option (List Int)
  |0=>λ_=>none
  |n+1=>B_ac (F_ac n) n
theorem k_ac:∀(a:List Part) (r:List Int),F_ac n a=some r->C prog 127 [.rsl 3 (map Part.enc a)] [] (RQ (λr=>.osl 0 0 r.length 1) (λr=>[.row 3 1 (map (Qe .i64) r)]) r):=by
  induction n with
  |zero=>intro a r h;cases h
  |succ n ih=>intro a r h;exact QaT _ ih n a r h
def F_fu(n:Nat)(d:Course)(h:Int)(i:Int)(a:Int):Option (Ctl Int (Ctl Unit Int)):=(bif decide (a<(d.Legs.length:Int))then((idx d.Legs a).bind λe=>(bif (e.From==h)then(idx d.Legs a).bind λf=>some (f.To==i)else some false):Option Bool).bind λg=>(bif g then some (.done (.done a))else some (.cont (i64.wrap (a+1))))else some (.done (.cont ())))
def F_as(e:Course)(f:Int)(g:Int):Option Int:=(iter (F_fu n e f g) n 0:Option (Ctl Unit Int)).bind λd=>match d with|.cont a=>(some (-1))|.done a=>some a
theorem k_as(p:Course)(q:Int)(s:Int):Ks (F_as n p q s) 128 [.agg (Course.c p),I q,I s] [] (λr=>I r):=by
 refine Kg 12 func128 Z Z Z Z λr h=>Bd h λt u h=>CgE (b:=t) [] [] Ze Ze Zf ?_ (λ_ w=>?_)
 .refine G0 1 Z (Lp [0] [1,2,3] (λg=>[(7,I g)]) Ze u Zf (Lr [0]) λg y a e=>(G0 6 Z (Lg 3 Z Z (Q8 Z a (λ_ a=>?_) (λ_ a=>?_)))))
  .exact Gc 2 Z (Ql a (Gx 1 Z (JN e a Z (Lr []))))
  refine Gc 5 Z (Bd a λf d a=>Cg f [0] [1,2,3,7] (λf=>[(32,.bool f)]) Ze Zf ?_ ?_)
  .refine G0 4 Z (Bd d λz j d=>Iz j Z (Go 5 Z (Is 23 d Z (λ_ d=>?_) (λ_ d=>?_))))
   .exact Go 3 Z (Bd d λB l d=>Iz l Z (Gl 6 Z d [0]))
   .exact Gl 10 Z d [0]
  refine Cn Z a (λ_ a=>?_) (λ_ a=>?_)
  .refine Gc 9 Z (Qx a ?_);obtain rfl:=Oj e a;exact Gx 1 Z (Qt (Gx 1 Z (Rt h 6 [])))
  exact Gc 8 Z (Qj a (Lr [0]))
 subst w;exact QI 6 Z h 6 []
def F_gy(n:Nat)(d:List Int)(g:Int)(a:Int×Int):Option (Ctl (Int×Int) Int):=(bif decide (a.2<(d.length:Int))then(idx d a.2).bind λe=>((bif (e==g)then some (i64.wrap (a.1+1))else some a.1):Option Int).bind λf=>some (.cont (f,i64.wrap (a.2+1)))else some (.done a.1))
def F_bk(d:List Int)(e:Int):Option Int:=(iter (F_gy n d e) n (0,0):Option Int).bind λa=>some a
theorem k_bk(m:List Int)(p:Int):Ks (F_bk n m p) 129 [.rsl 1 (map (Qe .i64) m),I p] [] (λr=>I r):=by
 refine Kg 16 func129 Z Z Z Z λr h=>Bd h λe q h=>Cg e [] [] (λe=>[(5,I e)]) Ze Zf ?_ ?_
 .refine G0 1 Z (Lp [] [0,1] (λf=>[(5,I f.1),(6,I f.2)]) Ze q Zf (Lr []) λf t a i=>?_);refine G0 5 Z (Lg 3 Z Z (Q8 Z a (λ_ a=>?_) (λ_ a=>?_)))
  .exact Gc 2 Z (Ql a (Gx 1 Z (cQo i a (Lr []))))
  refine Gc 8 Z (Bd a λu k a=>Iz k Z (Go 5 Z (Bd a λg d a=>Ct g [] [0,1,6] (λg=>[(5,I g)]) Ze Zf ?_ (λenv H s=>?_))))
  .refine G0 0 Z (Cn Z d (λ_ d=>?_) (λ_ d=>?_))
   .exact YC 5 Z d []
   exact YC 1 Z d []
  exact Gx 2 Z (Qf s (Gc 5 Z (Qj a (Lr []))))
 exact QI 7 Z h 4 []
def F_dl(e:Course)(d:List Int)(a:Int):Option (Ctl Int (Ctl Unit Bool)):=(bif decide (a<(d.length:Int))then((bif (a==0)then some 1 else(bif (a==(i64.wrap ((d.length:Int)-1)))then some 3 else some 2)):Option Int).bind λf=>((idx d a).bind λg=>(idx e.Mats g).bind λh=>(bif (h.Kind != f)then some true else(bif decide (0<a)then(idx d (i64.wrap (a-1))).bind λi=>(idx d a).bind λj=>(F_as n e i j).bind λk=>some (decide (k<0))else some false)):Option Bool).bind λl=>(bif l then some (.done (.done false))else some (.cont (i64.wrap (a+1))))else some (.done (.cont ())))
def F_kl(d:Distance)(h:List Int)(a:Int):Option (Ctl Int (Ctl Unit Bool)):=(bif decide (a<(d.Cutoffs.length:Int))then(idx d.Cutoffs a).bind λe=>(F_bk n h e.Mat).bind λf=>(idx d.Cutoffs a).bind λg=>(bif decide (f<g.Lap)then some (.done (.done false))else some (.cont (i64.wrap (a+1))))else some (.done (.cont ())))
def F_cz(g:Course)(a:Distance):Option Bool:=(F_ac n a.Route).bind λd=>((bif decide ((d.length:Int)<2)then some true else some (decide (256<(d.length:Int)))):Option Bool).bind λp=>(bif p then some false else(iter (F_dl n g d) n 0:Option (Ctl Unit Bool)).bind λh=>match h with|.cont e=>(((bif (a.Extra != (-1))then(idx g.Mats a.Extra).bind λi=>(bif (i.Kind != 2)then some true else(F_bk n d a.Extra).bind λj=>(bif (j==0)then some true else(F_as n g a.Extra a.Extra).bind λk=>some (decide (k<0))))else some false):Option Bool).bind λl=>(bif l then some false else(iter (F_kl n a d) n 0:Option (Ctl Unit Bool)).bind λm=>match m with|.cont f=>(some true)|.done f=>some f))|.done e=>some e)
theorem k_cz(a1:Course)(a2:Distance):Ks (F_cz n a1 a2) 54 [.agg (Course.c a1),.agg (Distance.c a2)] [] (λr=>.bool r):=by
 refine Kg 11 func54 Z Z Z Z λr h=>Cd [] h (k_ac _ _) Z λr1 ay h=>Fg 12 Z Z (Bd h λO p h=>Ct O [0,1,2] [2,3,5,6] (λO=>[(20,.bool O)]) Ze Zf ?_ (λenv H g=>?_))
 .refine G0 4 Z (Is 17 p Z (λ_ p=>?_) (λ_ p=>?_))
  iterate 2 exact Gl 4 Z p [0,1,2]
 refine Gx 1 Z (Qf g (Cn Z h (λ_ h=>?_) (λ_ h=>?_)))
 .exact QI 7 Z h 4 []
 refine Gc 8 Z (Bd h λai aj h=>CtE (b:=ai) [0,1,2] [2,3,5] Ze Ze Zf ?_ (λaq env H q g=>?_))
 .refine G0 1 Z (Lp [0,1,2] [2,3,5,6] (λj=>[(7,I j)]) Ze aj Zf (Lr [0,1,2]) λj az f s=>?_);refine G0 8 Z (Q8 Z f (λ_ f=>?_) (λ_ f=>?_))
  .exact Gc 2 Z (Ql f (Gx 1 Z (JN s f Z (Lr [0,1,2]))))
  refine Gc 22 Z (Bd f λt i f=>Ct t [0,1,2] [2,3,5,6,7] (λt=>[(8,I t)]) Ze Zf ?_ (λenv H g=>?_))
  .refine G0 0 Z (Cn Z i (λ_ i=>?_) (λ_ i=>?_))
   .exact YC 3 Z i [0,1,2]
   refine Gc 8 Z (Cn Z i (λ_ i=>?_) (λ_ i=>?_))
   .exact YC 3 Z i [0,1,2]
   exact YC 1 Z i [0,1,2]
  refine Gx 2 Z (Qf g (Gc 1 Z (Bd f λu d f=>Ct u [0,1,2] [2,3,5,6,7] (λu=>[(61,.bool u)]) Ze Zf ?_ (λenv H g=>?_))))
  .refine G0 0 Z (DSs 25 Z (D 4 Z ?_));obtain⟨ak,w,d⟩:=YM d;refine DS.v (x:=(.ptr 2 (toNat j*1))) (Qv w Z EA EE) ?_;refine DS.v (x:=(I ak)) (Ey Z EF Z (Qi w)) ?_;obtain⟨N,T,d⟩:=YM d;refine DS.wo (x:=.rp [.str N.Name,I N.Kind]) ?_ ?_
   .exact Ix T runUnderlying22 sizeOf116 Z Wp
   refine D 5 Z (QeG 11 d Z Z Z (λ_ d=>?_) (λ_ d=>?_))
   .exact D 13 Z (Eg Z (Gl 5 Z d [0,1,2]))
   .refine D 3 Z (QeG 14 d Z Z Z (λ_ d=>?_) (λ_ d=>?_))
    .refine D 4 Z ?_;obtain⟨al,y,d⟩:=YM d;refine DS.v (x:=(.ptr 2 (toNat (i64.wrap (j-1))*1))) (Qv y Z EA EE) ?_ (hg:=(gT Z));refine DS.v (x:=(I al)) (Ey Z EF Z (Qi y)) ?_ (hg:=(gT Z));refine D 2 Z ?_;obtain⟨am,z,d⟩:=YM d;refine DS.v (x:=(.ptr 2 (toNat j*1))) (Qv z Z EA EE) ?_ (hg:=(gT Z));refine DS.v (x:=(I am)) (Ey Z EF Z (Qi z)) ?_ (hg:=(gT Z));exact Eg Z (Cz [] d (k_as _ _ _ _) Z λba ar d=>Gl 4 Z d [0,1,2])
    .exact D 10 Z (Eg Z (Gl 5 Z d [0,1,2]))
  refine Gx 1 Z (Qf g (Cn Z f (λ_ f=>?_) (λ_ f=>?_)))
  .refine Gc 8 Z (Qx f ?_);obtain rfl:=Oj s f;exact Gx 1 Z (Qt (Gx 1 Z (Rt h 4 [])))
  exact Gc 8 Z (Qj f (Lr [0,1,2]))
 subst q;refine Gx 1 Z (Qf g (Gc 2 Z (Bd h λB e h=>Ct B [1,2] [3,5] (λB=>[(90,.bool B)]) Ze Zf ?_ (λenv H g=>?_))))
 .refine G0 5 Z (Is 65 e Z (λ_ e=>?_) (λ_ e=>?_))
  .refine Go 4 Z (Bd e λbb aa e=>Iz aa Z (Go 4 Z (Is 74 e Z (λ_ e=>?_) (λ_ e=>?_))))
   .exact Gl 17 Z e [1,2]
   .refine Go 3 Z (Cb e (k_bk _ _ _) Z (lo (ls ln)) λbc au e=>Go 3 Z (Is 81 e Z (λ_ e=>?_) (λ_ e=>?_)))
    .exact Gl 10 Z e [1,2]
    .exact Go 5 Z (Cz [] e (k_as _ _ _ _) Z λbd av e=>Gl 4 Z e [1,2])
  .exact Gl 26 Z e [1,2]
 refine Gx 1 Z (Qf g (Cn Z h (λ_ h=>?_) (λ_ h=>?_)))
 .exact QI 7 Z h 4 []
 refine Gc 8 Z (Bd h λan ao h=>CgE (b:=an) [] [] Ze Ze Zf ?_ (λ_ q=>?_))
 .refine G0 1 Z (Lp [0,1] [3,5] (λE=>[(9,I E)]) Ze ao Zf (Lr [0,1]) λE ax a m=>?_);refine G0 6 Z (Lg 3 Z Z (Q8 Z a (λ_ a=>?_) (λ_ a=>?_)))
  .exact Gc 2 Z (Ql a (Gx 1 Z (JN m a Z (Lr []))))
  refine Gc 5 Z (DSs 14 Z (D 4 Z ?_));obtain⟨k,G,a⟩:=YM a;refine DS.wo (x:=.rp [I k.Mat,I k.Lap,I k.Limit]) ?_ ?_
  .exact Ix G GE sizeOf193 Z Wp
  refine D 2 Z ?_;obtain⟨af,J,a⟩:=YM a;refine DS.wo (x:=I af) ?_ ?_
  .refine Qgh (OpC.fn call129 rfl rfl rfl) (Qbp.cons rfl (.inr ⟨_,_,_,_,_,rfl,rfl,XX ..,rfl⟩) (Qbp.cons rfl (.inl ⟨rfl,rfl⟩) Qbp.nil)) (k_bk _ _ _ _ J) (by rintro _ _ ⟨rfl,rfl⟩;rfl) ?_;rintro _ _ ⟨rfl,rfl⟩;exact FE Z Wp
  refine D 3 Z ?_;obtain⟨l,L,a⟩:=YM a;refine DS.wo (x:=.rp [I l.Mat,I l.Lap,I l.Limit]) ?_ ?_
  .exact Ix L GE sizeOf193 Z Wp
  refine D 2 Z (Eg Z (Go 3 Z (Cn Z a (λ_ a=>?_) (λ_ a=>?_))))
  .refine Gc 8 Z (Qx a ?_);obtain rfl:=Oj m a;exact Gx 1 Z (Qt (Gx 1 Z (Rt h 4 [])))
  exact Gc 8 Z (Qj a (Lr [0,1]))
 subst q;exact QI 6 Z h 4 []
def F_lh(d:Course)(a:Int):Option (Ctl Int (Ctl Unit Int)):=(bif decide (a<(d.Distances.length:Int))then(idx d.Distances a).bind λe=>(F_cz n d e).bind λf=>(bif (!f)then some (.done (.done 72))else some (.cont (i64.wrap (a+1))))else some (.done (.cont ())))
def F_bd(a:Course):Option Int:=(F_dh n a).bind λg=>(bif (!g)then some 2 else(F_ej n a).bind λh=>(bif (!h)then some 70 else(F_ci n a).bind λi=>(bif (!i)then some 71 else(F_gr n a.Ties).bind λe=>(bif (e != 0)then some e else(iter (F_lh n a) n 0:Option (Ctl Unit Int)).bind λf=>match f with|.cont d=>(some 0)|.done d=>some d))))
theorem k_bd(k:Course):Ks (F_bd n k) 20 [.agg (Course.c k)] [] (λr=>I r):=by
 refine Kg 10 func20 Z Z Z Z λr h=>Cz [] h (k_dh _ _) Z λJ z h=>Go 3 Z (Cn Z h (λ_ h=>?_) (λ_ h=>?_))
 .exact QI 7 Z h 2 []
 refine Gc 6 Z (Cz [] h (k_ej _ _) Z λL B h=>Go 3 Z (Cn Z h (λ_ h=>?_) (λ_ h=>?_)))
 .exact QI 7 Z h 2 []
 refine Gc 6 Z (Cz [] h (k_ci _ _) Z λM E h=>Go 3 Z (Cn Z h (λ_ h=>?_) (λ_ h=>?_)))
 .exact QI 7 Z h 2 []
 refine Gc 6 Z (Cz [] h (k_gr _ _) Z λN F h=>Go 10 Z (Cn Z h (λ_ h=>?_) (λ_ h=>?_)))
 .exact QI 8 Z h 2 []
 refine Gc 8 Z (Bd h λs t h=>CgE (b:=s) [] [] Ze Ze Zf ?_ (λ_ u=>?_))
 .refine G0 1 Z (Lp [0] [1] (λf=>[(4,I f)]) Ze t Zf (Lr [0]) λf G a e=>(G0 6 Z (Lg 3 Z Z (Q8 Z a (λ_ a=>?_) (λ_ a=>?_)))))
  .exact Gc 2 Z (Ql a (Gx 1 Z (JN e a Z (Lr []))))
  refine Gc 5 Z (DSs 6 Z (D 4 Z ?_));obtain⟨d,i,a⟩:=YM a;refine DS.wo (x:=.rp [.str d.Name,.rsl 3 (map Part.enc d.Route),I d.Timing,.rsl 3 (map Cutoff.c d.Cutoffs),I d.Extra]) ?_ ?_
  .exact Ix i Gj Gm Z Wp
  refine D 1 Z (Eg Z (Cz [] a (k_cz _ _ _) Z λH y a=>Go 3 Z (Cn Z a (λ_ a=>?_) (λ_ a=>?_))))
  .refine Gc 8 Z (Qx a ?_);obtain rfl:=Oj e a;exact Gx 1 Z (Qt (Gx 1 Z (Rt h 2 [])))
  exact Gc 8 Z (Qj a (Lr [0]))
 subst u;exact QI 6 Z h 2 []
def F_b(n:Nat)(a:Int)(d:Int)(e:Int):Option Bool:=((bif decide (d<=a)then some (decide (a<=e))else some false):Option Bool).bind λb2=>some b2
theorem k_b(d:Int)(e:Int)(f:Int):Ks (F_b n d e f) 185 [I d,I e,I f] [] (λr=>.bool r):=by
 refine Kg 6 func185 Z Z Z Z λr h=>Bd h λb2 a h=>Cg b2 [] [] (λb2=>[(6,.bool b2)]) Ze Zf ?_ ?_
 .refine G0 5 Z (Is 10 a Z (λ_ a=>?_) (λ_ a=>?_))
  iterate 2 exact Gl 6 Z a []
 exact QI 1 Z h 6 []
def F_ah(a:Int):Option Bool:=(F_b n a 0 31).bind λd=>some d
theorem QmI(a:Int):Ks (F_ah n a) 183 [I a] [] (λr=>.bool r):=by
 exact Kg 8 func183 Z Z Z Z λr h=>Cz [] h (k_b _ _ _ _) Z λe d h=>Gt 4 Z h 2 []
def F_al(a:Int):Option Bool:=(F_b n a 1 1048576).bind λd=>some d
theorem Qob(a:Int):Ks (F_al n a) 184 [I a] [] (λr=>.bool r):=by
 exact Kg 8 func184 Z Z Z Z λr h=>Cz [] h (k_b _ _ _ _) Z λe d h=>Gt 4 Z h 2 []
def F_e(a:Int):Option Bool:=(F_b n a 1 9999).bind λd=>some d
theorem k_e(a:Int):Ks (F_e n a) 241 [I a] [] (λr=>.bool r):=by
 exact Kg 8 func241 Z Z Z Z λr h=>Cz [] h (k_b _ _ _ _) Z λe d h=>Gt 4 Z h 2 []
def F_d(a:Int):Option Bool:=(F_b n a (-1099511627776) 1099511627776).bind λd=>some d
theorem k_d(a:Int):Ks (F_d n a) 239 [I a] [] (λr=>.bool r):=by
 exact Kg 8 func239 Z Z Z Z λr h=>Cz [] h (k_b _ _ _ _) Z λe d h=>Gt 4 Z h 2 []
def F_bb(a:Int):Option Bool:=(F_b n a 0 1048576).bind λd=>some d
theorem k_bb(a:Int):Ks (F_bb n a) 238 [I a] [] (λr=>.bool r):=by
 exact Kg 8 func238 Z Z Z Z λr h=>Cz [] h (k_b _ _ _ _) Z λe d h=>Gt 4 Z h 2 []
def F_gz(a:Starter):Option Bool:=((F_e n a.Bib).bind λd=>(bif d then(F_b n a.Distance 0 7).bind λe=>(bif e then(F_b n a.Wave 0 31).bind λf=>(bif f then(F_d n a.Slot).bind λg=>(bif g then(F_b n a.Age 0 120).bind λh=>(bif h then(F_bb n a.Chip).bind λi=>(bif i then(F_b n a.Team 0 9999).bind λj=>(bif j then(F_b n a.Lot 0 1048576).bind λk=>some k else some false)else some false)else some false)else some false)else some false)else some false)else some false):Option Bool).bind λl=>some l
theorem k_gz(m:Starter):Ks (F_gz n m) 235 [.agg (Starter.c m)] [] (λr=>.bool r):=by
 refine Kg 7 func235 Z Z Z Z λr h=>Bd h λd a h=>Cg d [] [] (λd=>[(2,.bool d)]) Ze Zf ?_ ?_
 .refine G0 3 Z (Cz [] a (k_e _ _) Z λz p a=>Go 1 Z (Is 6 a Z (λ_ a=>?_) (λ_ a=>?_)))
  .refine Go 2 Z (Cz [] a (k_b _ _ _ _) Z λB q a=>Go 2 Z (Is 11 a Z (λ_ a=>?_) (λ_ a=>?_)))
   .refine Go 2 Z (Cz [] a (k_b _ _ _ _) Z λE s a=>Go 2 Z (Is 16 a Z (λ_ a=>?_) (λ_ a=>?_)))
    .refine Go 2 Z (Cz [] a (k_d _ _) Z λF t a=>Go 2 Z (Is 21 a Z (λ_ a=>?_) (λ_ a=>?_)))
     .refine Go 2 Z (Cz [] a (k_b _ _ _ _) Z λG u a=>Go 2 Z (Is 26 a Z (λ_ a=>?_) (λ_ a=>?_)))
      .refine Go 2 Z (Cz [] a (k_bb _ _) Z λH w a=>Go 2 Z (Is 31 a Z (λ_ a=>?_) (λ_ a=>?_)))
       .refine Go 2 Z (Cz [] a (k_b _ _ _ _) Z λJ x a=>Go 2 Z (Is 36 a Z (λ_ a=>?_) (λ_ a=>?_)))
        .exact Go 2 Z (Cz [] a (k_b _ _ _ _) Z λL y a=>Gl 3 Z a [])
        .exact Gl 6 Z a []
       .exact Gl 11 Z a []
      .exact Gl 16 Z a []
     .exact Gl 21 Z a []
    .exact Gl 26 Z a []
   .exact Gl 31 Z a []
  .exact Gl 36 Z a []
 exact QI 1 Z h 2 []
def F_s(a:Int):Option Bool:=(F_b n a 0 39).bind λd=>some d
theorem k_s(a:Int):Ks (F_s n a) 236 [I a] [] (λr=>.bool r):=by
 exact Kg 8 func236 Z Z Z Z λr h=>Cz [] h (k_b _ _ _ _) Z λe d h=>Gt 4 Z h 2 []
def F_x(a:Int):Option Bool:=(F_b n a 0 255).bind λd=>some d
theorem k_x(a:Int):Ks (F_x n a) 237 [I a] [] (λr=>.bool r):=by
 exact Kg 8 func237 Z Z Z Z λr h=>Cz [] h (k_b _ _ _ _) Z λe d h=>Gt 4 Z h 2 []
def F_fg(a:Sync):Option Bool:=((F_s n a.MatA).bind λd=>(bif d then(F_s n a.MatB).bind λe=>(bif e then(F_x n a.EpochA).bind λf=>(bif f then(F_x n a.EpochB).bind λg=>(bif g then(F_d n a.LocalA).bind λh=>(bif h then(F_d n a.LocalB).bind λi=>(bif i then(F_d n a.Min).bind λj=>(bif j then(F_d n a.Max).bind λk=>(bif k then some (decide (a.Min<=a.Max))else some false)else some false)else some false)else some false)else some false)else some false)else some false)else some false):Option Bool).bind λl=>some l
theorem k_fg(p:Sync):Ks (F_fg n p) 240 [.agg (Sync.c p)] [] (λr=>.bool r):=by
 refine Kg 7 func240 Z Z Z Z λr h=>Bd h λd a h=>Cg d [] [] (λd=>[(2,.bool d)]) Ze Zf ?_ ?_
 .refine G0 3 Z (Cz [] a (k_s _ _) Z λB q a=>Go 1 Z (Is 6 a Z (λ_ a=>?_) (λ_ a=>?_)))
  .refine Go 2 Z (Cz [] a (k_s _ _) Z λE s a=>Go 2 Z (Is 11 a Z (λ_ a=>?_) (λ_ a=>?_)))
   .refine Go 2 Z (Cz [] a (k_x _ _) Z λF t a=>Go 2 Z (Is 16 a Z (λ_ a=>?_) (λ_ a=>?_)))
    .refine Go 2 Z (Cz [] a (k_x _ _) Z λG u a=>Go 2 Z (Is 21 a Z (λ_ a=>?_) (λ_ a=>?_)))
     .refine Go 2 Z (Cz [] a (k_d _ _) Z λH w a=>Go 2 Z (Is 26 a Z (λ_ a=>?_) (λ_ a=>?_)))
      .refine Go 2 Z (Cz [] a (k_d _ _) Z λJ x a=>Go 2 Z (Is 31 a Z (λ_ a=>?_) (λ_ a=>?_)))
       .refine Go 2 Z (Cz [] a (k_d _ _) Z λL y a=>Go 2 Z (Is 36 a Z (λ_ a=>?_) (λ_ a=>?_)))
        .refine Go 2 Z (Cz [] a (k_d _ _) Z λM z a=>Go 2 Z (Is 41 a Z (λ_ a=>?_) (λ_ a=>?_)))
         iterate 2 exact Gl 8 Z a []
        .exact Gl 13 Z a []
       .exact Gl 18 Z a []
      .exact Gl 23 Z a []
     .exact Gl 28 Z a []
    .exact Gl 33 Z a []
   .exact Gl 38 Z a []
  .exact Gl 43 Z a []
 exact QI 1 Z h 2 []
def F_z(a:Int):Option Bool:=(F_b n a 0 255).bind λd=>some d
theorem k_z(a:Int):Ks (F_z n a) 242 [I a] [] (λr=>.bool r):=by
 exact Kg 8 func242 Z Z Z Z λr h=>Cz [] h (k_b _ _ _ _) Z λe d h=>Gt 4 Z h 2 []
def F_ai(a:Int):Option Bool:=(F_b n a 1 1048576).bind λd=>some d
theorem k_ai(a:Int):Ks (F_ai n a) 243 [I a] [] (λr=>.bool r):=by
 exact Kg 8 func243 Z Z Z Z λr h=>Cz [] h (k_b _ _ _ _) Z λe d h=>Gt 4 Z h 2 []
def F_fc(a:Ruling):Option Bool:=((F_ai n a.Case).bind λs=>(bif (!s)then some true else(F_b n a.Instance 1 2).bind λt=>some (!t)):Option Bool).bind λu=>(bif u then some false else((bif (a.Kind==1)then some (a.Kind==1)else some (a.Kind==2)):Option Bool).bind λd=>(bif d then((bif (a.Bib==0)then(bif (a.Position==0)then some (a.Amount==0)else some false)else some false):Option Bool).bind λe=>some e else(bif (a.Kind==3)then((F_e n a.Bib).bind λf=>(bif f then(F_z n a.Position).bind λg=>(bif g then(F_b n a.Amount 1 1099511627776).bind λh=>some h else some false)else some false):Option Bool).bind λi=>some i else(bif (a.Kind==4)then((F_e n a.Bib).bind λj=>(bif j then(F_z n a.Position).bind λk=>(bif k then(F_b n a.Amount 1 64).bind λl=>some l else some false)else some false):Option Bool).bind λm=>some m else(bif (a.Kind==5)then((F_e n a.Bib).bind λp=>(bif p then(F_z n a.Position).bind λq=>(bif q then some (a.Amount==0)else some false)else some false):Option Bool).bind λr=>some r else some false)))))
theorem k_fc(N:Ruling):Ks (F_fc n N) 244 [.agg (Ruling.c N)] [] (λr=>.bool r):=by
 refine Kg 8 func244 Z Z Z Z λr h=>Bd h λs i h=>Ct s [0] [1] (λs=>[(12,.bool s)]) Ze Zf ?_ (λenv H f=>?_)
 .refine G0 3 Z (Cz [] i (k_ai _ _) Z λr6 ab i=>Go 2 Z (Is 7 i Z (λ_ i=>?_) (λ_ i=>?_)))
  .exact Gl 6 Z i [0]
  .exact Go 2 Z (Cz [] i (k_b _ _ _ _) Z λr8 ac i=>Gl 3 Z i [0])
 refine Gx 1 Z (Qf f (Cn Z h (λ_ h=>?_) (λ_ h=>?_)))
 .exact QI 7 Z h 2 []
 refine Gc 17 Z (Bd h λk j h=>Ct k [0] [1,14] (λk=>[(15,.bool k)]) Ze Zf ?_ (λenv H f=>?_))
 .refine G0 0 Z (Cn Z j (λ_ j=>?_) (λ_ j=>?_))
  .exact YC 1 Z j [0]
  exact YC 4 Z j [0]
 refine Gx 1 Z (Qf f (Cn Z h (λ_ h=>?_) (λ_ h=>?_)))
 .refine Gc 1 Z (Bd h λl g h=>Ct l [] [] (λl=>[(2,.bool l)]) Ze Zf ?_ (λenv H f=>?_))
  .refine G0 5 Z (Is 21 g Z (λ_ g=>?_) (λ_ g=>?_))
   .refine Go 5 Z (Is 26 g Z (λ_ g=>?_) (λ_ g=>?_))
    iterate 2 exact Gl 6 Z g []
   .exact Gl 11 Z g []
  exact Gx 1 Z (Qf f (QI 3 Z h 2 []))
 refine Gc 6 Z (Cn Z h (λ_ h=>?_) (λ_ h=>?_))
 .refine Gc 1 Z (Bd h λm a h=>Ct m [] [] (λm=>[(2,.bool m)]) Ze Zf ?_ (λenv H f=>?_))
  .refine G0 3 Z (Cz [] a (k_e _ _) Z λae Q a=>Go 1 Z (Is 36 a Z (λ_ a=>?_) (λ_ a=>?_)))
   .refine Go 2 Z (Cz [] a (k_z _ _) Z λaf R a=>Go 2 Z (Is 41 a Z (λ_ a=>?_) (λ_ a=>?_)))
    .exact Go 2 Z (Cz [] a (k_b _ _ _ _) Z λag T a=>Gl 3 Z a [])
    .exact Gl 6 Z a []
   .exact Gl 11 Z a []
  exact Gx 1 Z (Qf f (QI 3 Z h 2 []))
 refine Gc 6 Z (Cn Z h (λ_ h=>?_) (λ_ h=>?_))
 .refine Gc 1 Z (Bd h λp d h=>Ct p [] [] (λp=>[(2,.bool p)]) Ze Zf ?_ (λenv H f=>?_))
  .refine G0 3 Z (Cz [] d (k_e _ _) Z λah V d=>Go 1 Z (Is 51 d Z (λ_ d=>?_) (λ_ d=>?_)))
   .refine Go 2 Z (Cz [] d (k_z _ _) Z λai W d=>Go 2 Z (Is 56 d Z (λ_ d=>?_) (λ_ d=>?_)))
    .exact Go 2 Z (Cz [] d (k_b _ _ _ _) Z λaj X d=>Gl 3 Z d [])
    .exact Gl 6 Z d []
   .exact Gl 11 Z d []
  exact Gx 1 Z (Qf f (QI 3 Z h 2 []))
 refine Gc 6 Z (Cn Z h (λ_ h=>?_) (λ_ h=>?_))
 .refine Gc 1 Z (Bd h λq e h=>Cg q [] [] (λq=>[(2,.bool q)]) Ze Zf ?_ ?_)
  .refine G0 3 Z (Cz [] e (k_e _ _) Z λak Y e=>Go 1 Z (Is 66 e Z (λ_ e=>?_) (λ_ e=>?_)))
   .refine Go 2 Z (Cz [] e (k_z _ _) Z λal aa e=>Go 2 Z (Is 71 e Z (λ_ e=>?_) (λ_ e=>?_)))
    iterate 2 exact Gl 6 Z e []
   .exact Gl 11 Z e []
  exact QI 3 Z h 2 []
 exact QI 9 Z h 2 []
def F_bs(a:Fact):Option Bool:=(bif (a.Kind==1)then(F_gz n a.Starter).bind λr2=>some r2 else(bif (a.Kind==2)then((F_s n a.Read.Mat).bind λu=>(bif u then(F_x n a.Read.Epoch).bind λw=>(bif w then(F_bb n a.Read.Chip).bind λx=>(bif x then(F_d n a.Read.Local).bind λy=>some y else some false)else some false)else some false):Option Bool).bind λz=>some z else(bif (a.Kind==3)then((F_s n a.Beacon.Mat).bind λE=>(bif E then(F_x n a.Beacon.Epoch).bind λF=>(bif F then(F_d n a.Beacon.Local).bind λG=>(bif G then(F_d n a.Beacon.True).bind λH=>(bif H then(F_b n a.Beacon.Err 0 1099511627776).bind λJ=>some J else some false)else some false)else some false)else some false):Option Bool).bind λL=>some L else(bif (a.Kind==4)then(F_fg n a.Sync).bind λM=>some M else(bif (a.Kind==5)then((F_e n a.Hand.Bib).bind λN=>(bif N then(F_z n a.Hand.Position).bind λO=>(bif O then(F_d n a.Hand.Lo).bind λP=>(bif P then(F_d n a.Hand.Hi).bind λQ=>(bif Q then some (decide (a.Hand.Lo<=a.Hand.Hi))else some false)else some false)else some false)else some false):Option Bool).bind λR=>some R else(bif (a.Kind==6)then((F_s n a.Silence.Mat).bind λT=>(bif T then(F_x n a.Silence.Epoch).bind λV=>(bif V then(F_d n a.Silence.Lo).bind λW=>(bif W then(F_d n a.Silence.Hi).bind λX=>(bif X then some (decide (a.Silence.Lo<=a.Silence.Hi))else some false)else some false)else some false)else some false):Option Bool).bind λY=>some Y else(bif (a.Kind==7)then((F_e n a.Pair.A).bind λaa=>(bif aa then(F_e n a.Pair.B).bind λab=>(bif ab then some (decide (a.Pair.A<a.Pair.B))else some false)else some false):Option Bool).bind λac=>some ac else(bif (a.Kind==8)then((F_ai n a.Report.Case).bind λd=>(bif d then(F_e n a.Report.Bib).bind λe=>(bif e then(F_b n a.Report.Offence 0 31).bind λf=>(bif f then(F_z n a.Report.Position).bind λg=>some g else some false)else some false)else some false):Option Bool).bind λh=>some h else(bif (a.Kind==9)then((F_ai n a.Protest.Case).bind λi=>(bif i then(F_b n a.Protest.By 0 9999).bind λj=>(bif j then(F_b n a.Protest.Fee 0 1125899906842624).bind λk=>(bif k then(F_b n a.Protest.Form 0 1).bind λl=>some l else some false)else some false)else some false):Option Bool).bind λm=>some m else(bif (a.Kind==10)then(F_fc n a.Ruling).bind λp=>some p else(bif (a.Kind==11)then(F_ai n a.Appeal.Case).bind λq=>some q else(bif (a.Kind==12)then some true else(bif (a.Kind==13)then((F_ah n a.Void.Crew).bind λr=>(bif r then(F_al n a.Void.No).bind λs=>some s else some false):Option Bool).bind λt=>some t else some false)))))))))))))
theorem k_bs(a1:Fact):Ks (F_bs n a1) 186 [.agg (Fact.c a1)] [] (λr=>.bool r):=by
 refine Kg 20 func186 Z Z Z Z λr h=>Cn Z h (λ_ h=>?_) (λ_ h=>?_)
 .exact Gc 4 Z (Cz [] h (k_gz _ _) Z λr2 cp h=>Gt 6 Z h 2 [])
 refine Gc 6 Z (Cn Z h (λ_ h=>?_) (λ_ h=>?_))
 .refine Gc 1 Z (Bd h λs i h=>Ct s [] [] (λs=>[(2,.bool s)]) Ze Zf ?_ (λenv H j=>?_))
  .refine G0 4 Z (Cz [] i (k_s _ _) Z λcq bi i=>Go 1 Z (Is 16 i Z (λ_ i=>?_) (λ_ i=>?_)))
   .refine Go 3 Z (Cz [] i (k_x _ _) Z λcr bj i=>Go 2 Z (Is 22 i Z (λ_ i=>?_) (λ_ i=>?_)))
    .refine Go 3 Z (Cz [] i (k_bb _ _) Z λcs bk i=>Go 2 Z (Is 28 i Z (λ_ i=>?_) (λ_ i=>?_)))
     .exact Go 3 Z (Cz [] i (k_d _ _) Z λct bl i=>Gl 3 Z i [])
     .exact Gl 7 Z i []
    .exact Gl 13 Z i []
   .exact Gl 19 Z i []
  exact Gx 1 Z (Qf j (QI 3 Z h 2 []))
 refine Gc 6 Z (Cn Z h (λ_ h=>?_) (λ_ h=>?_))
 .refine Gc 1 Z (Bd h λt e h=>Ct t [] [] (λt=>[(2,.bool t)]) Ze Zf ?_ (λenv H j=>?_))
  .refine G0 4 Z (Cz [] e (k_s _ _) Z λcu bm e=>Go 1 Z (Is 40 e Z (λ_ e=>?_) (λ_ e=>?_)))
   .refine Go 3 Z (Cz [] e (k_x _ _) Z λcv bn e=>Go 2 Z (Is 46 e Z (λ_ e=>?_) (λ_ e=>?_)))
    .refine Go 3 Z (Cz [] e (k_d _ _) Z λcw bo e=>Go 2 Z (Is 52 e Z (λ_ e=>?_) (λ_ e=>?_)))
     .refine Go 3 Z (Cz [] e (k_d _ _) Z λcx bp e=>Go 2 Z (Is 58 e Z (λ_ e=>?_) (λ_ e=>?_)))
      .exact Go 3 Z (Cz [] e (k_b _ _ _ _) Z λcy bq e=>Gl 3 Z e [])
      .exact Gl 7 Z e []
     .exact Gl 13 Z e []
    .exact Gl 19 Z e []
   .exact Gl 25 Z e []
  exact Gx 1 Z (Qf j (QI 3 Z h 2 []))
 refine Gc 6 Z (Cn Z h (λ_ h=>?_) (λ_ h=>?_))
 .exact Gc 4 Z (Cz [] h (k_fg _ _) Z λcz br h=>Gt 6 Z h 2 [])
 refine Gc 6 Z (Cn Z h (λ_ h=>?_) (λ_ h=>?_))
 .refine Gc 1 Z (Bd h λu f h=>Ct u [] [] (λu=>[(2,.bool u)]) Ze Zf ?_ (λenv H j=>?_))
  .refine G0 4 Z (Cz [] f (k_e _ _) Z λda bs f=>Go 1 Z (Is 75 f Z (λ_ f=>?_) (λ_ f=>?_)))
   .refine Go 3 Z (Cz [] f (k_z _ _) Z λdb bt f=>Go 2 Z (Is 81 f Z (λ_ f=>?_) (λ_ f=>?_)))
    .refine Go 3 Z (Cz [] f (k_d _ _) Z λdc bu f=>Go 2 Z (Is 87 f Z (λ_ f=>?_) (λ_ f=>?_)))
     .refine Go 3 Z (Cz [] f (k_d _ _) Z λde bv f=>Go 2 Z (Is 93 f Z (λ_ f=>?_) (λ_ f=>?_)))
      iterate 2 exact Gl 10 Z f []
     .exact Gl 16 Z f []
    .exact Gl 22 Z f []
   .exact Gl 28 Z f []
  exact Gx 1 Z (Qf j (QI 3 Z h 2 []))
 refine Gc 6 Z (Cn Z h (λ_ h=>?_) (λ_ h=>?_))
 .refine Gc 1 Z (Bd h λw g h=>Ct w [] [] (λw=>[(2,.bool w)]) Ze Zf ?_ (λenv H j=>?_))
  .refine G0 4 Z (Cz [] g (k_s _ _) Z λdf bw g=>Go 1 Z (Is 108 g Z (λ_ g=>?_) (λ_ g=>?_)))
   .refine Go 3 Z (Cz [] g (k_x _ _) Z λdg bx g=>Go 2 Z (Is 114 g Z (λ_ g=>?_) (λ_ g=>?_)))
    .refine Go 3 Z (Cz [] g (k_d _ _) Z λdh bz g=>Go 2 Z (Is 120 g Z (λ_ g=>?_) (λ_ g=>?_)))
     .refine Go 3 Z (Cz [] g (k_d _ _) Z λdi ca g=>Go 2 Z (Is 126 g Z (λ_ g=>?_) (λ_ g=>?_)))
      iterate 2 exact Gl 10 Z g []
     .exact Gl 16 Z g []
    .exact Gl 22 Z g []
   .exact Gl 28 Z g []
  exact Gx 1 Z (Qf j (QI 3 Z h 2 []))
 refine Gc 6 Z (Cn Z h (λ_ h=>?_) (λ_ h=>?_))
 .refine Gc 1 Z (Bd h λx k h=>Ct x [] [] (λx=>[(2,.bool x)]) Ze Zf ?_ (λenv H j=>?_))
  .refine G0 4 Z (Cz [] k (k_e _ _) Z λdj cb k=>Go 1 Z (Is 141 k Z (λ_ k=>?_) (λ_ k=>?_)))
   .refine Go 3 Z (Cz [] k (k_e _ _) Z λdk cc k=>Go 2 Z (Is 147 k Z (λ_ k=>?_) (λ_ k=>?_)))
    iterate 2 exact Gl 10 Z k []
   .exact Gl 16 Z k []
  exact Gx 1 Z (Qf j (QI 3 Z h 2 []))
 refine Gc 6 Z (Cn Z h (λ_ h=>?_) (λ_ h=>?_))
 .refine Gc 1 Z (Bd h λm a h=>Ct m [] [] (λm=>[(2,.bool m)]) Ze Zf ?_ (λenv H j=>?_))
  .refine G0 4 Z (Cz [] a (k_ai _ _) Z λcd aw a=>Go 1 Z (Is 162 a Z (λ_ a=>?_) (λ_ a=>?_)))
   .refine Go 3 Z (Cz [] a (k_e _ _) Z λce ax a=>Go 2 Z (Is 168 a Z (λ_ a=>?_) (λ_ a=>?_)))
    .refine Go 3 Z (Cz [] a (k_b _ _ _ _) Z λcf ay a=>Go 2 Z (Is 174 a Z (λ_ a=>?_) (λ_ a=>?_)))
     .exact Go 3 Z (Cz [] a (k_z _ _) Z λcg az a=>Gl 3 Z a [])
     .exact Gl 7 Z a []
    .exact Gl 13 Z a []
   .exact Gl 19 Z a []
  exact Gx 1 Z (Qf j (QI 3 Z h 2 []))
 refine Gc 6 Z (Cn Z h (λ_ h=>?_) (λ_ h=>?_))
 .refine Gc 1 Z (Bd h λp d h=>Ct p [] [] (λp=>[(2,.bool p)]) Ze Zf ?_ (λenv H j=>?_))
  .refine G0 4 Z (Cz [] d (k_ai _ _) Z λch ba d=>Go 1 Z (Is 186 d Z (λ_ d=>?_) (λ_ d=>?_)))
   .refine Go 3 Z (Cz [] d (k_b _ _ _ _) Z λci bb d=>Go 2 Z (Is 192 d Z (λ_ d=>?_) (λ_ d=>?_)))
    .refine Go 3 Z (Cz [] d (k_b _ _ _ _) Z λcj bc d=>Go 2 Z (Is 198 d Z (λ_ d=>?_) (λ_ d=>?_)))
     .exact Go 3 Z (Cz [] d (k_b _ _ _ _) Z λck bd d=>Gl 3 Z d [])
     .exact Gl 7 Z d []
    .exact Gl 13 Z d []
   .exact Gl 19 Z d []
  exact Gx 1 Z (Qf j (QI 3 Z h 2 []))
 refine Gc 6 Z (Cn Z h (λ_ h=>?_) (λ_ h=>?_))
 .exact Gc 4 Z (Cz [] h (k_fc _ _) Z λcl be h=>Gt 6 Z h 2 [])
 refine Gc 6 Z (Cn Z h (λ_ h=>?_) (λ_ h=>?_))
 .exact Gc 5 Z (Cz [] h (k_ai _ _) Z λcm bf h=>Gt 6 Z h 2 [])
 refine Gc 6 Z (Cn Z h (λ_ h=>?_) (λ_ h=>?_))
 .exact QI 8 Z h 2 []
 refine Gc 6 Z (Cn Z h (λ_ h=>?_) (λ_ h=>?_))
 .refine Gc 1 Z (Bd h λq l h=>Cg q [] [] (λq=>[(2,.bool q)]) Ze Zf ?_ ?_)
  .refine G0 4 Z (Cz [] l (QmI _ _) Z λcn bg l=>Go 1 Z (Is 223 l Z (λ_ l=>?_) (λ_ l=>?_)))
   .exact Go 3 Z (Cz [] l (Qob _ _) Z λco bh l=>Gl 3 Z l [])
   .exact Gl 7 Z l []
  exact QI 3 Z h 2 []
 exact QI 9 Z h 2 []
def F_cc(n:Nat)(a:Fact):Option Fact:=((bif (a.Kind==1)then some ({Up with Crew:=a.Crew,No:=a.No,At:=a.At,Kind:=a.Kind,Starter:=a.Starter:Fact})else(bif (a.Kind==2)then some ({Up with Crew:=a.Crew,No:=a.No,At:=a.At,Kind:=a.Kind,Read:=a.Read:Fact})else(bif (a.Kind==3)then some ({Up with Crew:=a.Crew,No:=a.No,At:=a.At,Kind:=a.Kind,Beacon:=a.Beacon:Fact})else(bif (a.Kind==4)then some ({Up with Crew:=a.Crew,No:=a.No,At:=a.At,Kind:=a.Kind,Sync:=a.Sync:Fact})else(bif (a.Kind==5)then some ({Up with Crew:=a.Crew,No:=a.No,At:=a.At,Kind:=a.Kind,Hand:=a.Hand:Fact})else(bif (a.Kind==6)then some ({Up with Crew:=a.Crew,No:=a.No,At:=a.At,Kind:=a.Kind,Silence:=a.Silence:Fact})else(bif (a.Kind==7)then some ({Up with Crew:=a.Crew,No:=a.No,At:=a.At,Kind:=a.Kind,Pair:=a.Pair:Fact})else(bif (a.Kind==8)then some ({Up with Crew:=a.Crew,No:=a.No,At:=a.At,Kind:=a.Kind,Report:=a.Report:Fact})else(bif (a.Kind==9)then some ({Up with Crew:=a.Crew,No:=a.No,At:=a.At,Kind:=a.Kind,Protest:=a.Protest:Fact})else(bif (a.Kind==10)then some ({Up with Crew:=a.Crew,No:=a.No,At:=a.At,Kind:=a.Kind,Ruling:=a.Ruling:Fact})else(bif (a.Kind==11)then some ({Up with Crew:=a.Crew,No:=a.No,At:=a.At,Kind:=a.Kind,Appeal:=a.Appeal:Fact})else(bif (a.Kind==13)then some ({Up with Crew:=a.Crew,No:=a.No,At:=a.At,Kind:=a.Kind,Void:=a.Void:Fact})else some ({Up with Crew:=a.Crew,No:=a.No,At:=a.At,Kind:=a.Kind:Fact}))))))))))))):Option Fact).bind λd=>some d
theorem k_cc(u:Fact):Kq (F_cc n u) 187 [.agg (Fact.c u)] [] (λr=>.agg (Fact.c r)) (λr=>[.cells 72 (Fact.c r)]):=by
 refine Kg 35 func187 Z Z Z Z λr h=>Bd h λd a h=>Ct d [1,2] [2,3] Ze (λd=>[(1,.cells 72 (Fact.c d))]) Zf ?_ (λenv H w=>?_)
 .refine G0 0 Z (Cn Z a (λ_ a=>?_) (λ_ a=>?_))
  .exact YC 6 Z a [1,2]
  iterate 11 (refine Gc 6 Z (Cn Z a (λ_ a=>?_) (λ_ a=>?_));exact YC 6 Z a [1,2])
  exact YC 1 Z a [1,2]
 refine Gx 2 Z (Qf w (Gc 7 Z ?_));obtain rfl:=Oi h;exact Rx [0] [2] Z (Yd Z (Qg EP EC Z Z Z)) ⟨Z,Z⟩
def F_az(a:Fact):Option Int:=((F_ah n a.Crew).bind λd=>(bif (!d)then some true else(F_al n a.No).bind λe=>(bif (!e)then some true else(F_b n a.At 0 1099511627776).bind λf=>(bif (!f)then some true else(F_bs n a).bind λg=>(bif (!g)then some true else(F_cc n a).bind λh=>some (a != h))))):Option Bool).bind λi=>(bif i then some 120 else some 0)
theorem k_az(f:Fact):Ks (F_az n f) 130 [.agg (Fact.c f)] [] (λr=>I r):=by
 refine Kg 8 func130 Z Z Z Z λr h=>Bd h λx e h=>Cg x [] [] (λx=>[(29,.bool x)]) Ze Zf ?_ ?_
 .refine G0 0 Z ?_;obtain⟨k,s,e⟩:=YM e;refine If e (λa e=>?_) (λa e=>?_)
  .refine TC.draw0 25 [3,4,5,6,7,8,9,10,11,12,13,14,15,16,17,18,19,20,21,22,23,24,25,26,27] [.ptr 0 0,I f.Crew,.bool k,.bool (!k),.bool (!k),.tup [],.tup [],.tup [],.tup [],.bool true,.bool true,.tup [],.tup [],.tup [],.tup [],.bool true,.bool true,.tup [],.tup [],.tup [],.bool true,.bool true,.tup [],.tup [],.tup []] draws Z Z Z ?_ ?_
   .refine ov (ov (Oq.c ?_ (Oq.c ?_ (ov (Oq.c ?_ (Oq.c ?_ (Oq.c ?_ (Oq.c ?_ (Oq.c ?_ (ov (Oq.c ?_ (Oq.c ?_ (Oq.c ?_ (Oq.c ?_ (Oq.c ?_ (ov (Oq.c ?_ (Oq.c ?_ (Oq.c ?_ (Oq.c ?_ (ov (Oq.c ?_ (Oq.c ?_ (Oq.c ?_ (Oq.n)))))))))))))))))))))))))
    .refine Om Z (sD 1 sN) ?_;exact Pc [] Z (OpC.fn call183 Z Z Z) (QmI _ _ _ s) Z Wp
    .refine Om Z (sD 2 sN) ?_;exact S Z Wp
    .refine Om Z (sO 1 (sD 4 sN)) ?_;exact K (gF a) Z Wp
    .refine Om Z (sD 4 (sD 5 sN)) ?_;exact K (gF a) Z Wp
    .refine Om Z (sD 4 (sD 6 sN)) ?_;exact K (gF a) Z Wp
    .refine Om Z (sD 4 (sD 7 sN)) ?_;exact K (gF a) Z Wp
    .refine Om Z (sD 4 (sD 8 sN)) ?_;exact Pk a Z Wp
    .refine Om Z (sO 1 (sD 10 sN)) ?_;exact K (gF Z) Z Wp
    .refine Om Z (sD 10 (sD 11 sN)) ?_;exact K (gF Z) Z Wp
    .refine Om Z (sD 10 (sD 12 sN)) ?_;exact K (gF Z) Z Wp
    .refine Om Z (sD 10 (sD 13 sN)) ?_;exact K (gF Z) Z Wp
    .refine Om Z (sD 10 (sD 14 sN)) ?_;exact S Z Wp
    .refine Om Z (sO 1 (sD 16 sN)) ?_;exact K (gF Z) Z Wp
    .refine Om Z (sD 16 (sD 17 sN)) ?_;exact K (gF Z) Z Wp
    .refine Om Z (sD 16 (sD 18 sN)) ?_;exact K (gF Z) Z Wp
    .refine Om Z (sD 16 (sD 19 sN)) ?_;exact S Z Wp
    iterate 2 refine Om Z (sO 1 (sD 21 sN)) ?_;exact K (gF Z) Z Wp
    .refine Om Z (sD 21 (sD 23 sN)) ?_;exact K (gF Z) Z Wp
   exact Gl 3 Z e []
  .obtain⟨j,t,e⟩:=YM e;refine If e (λd e=>?_) (λd e=>?_)
   .refine TC.draw0 25 [3,4,5,6,7,8,9,10,11,12,13,14,15,16,17,18,19,20,21,22,23,24,25,26,27] [.ptr 0 0,I f.Crew,.bool k,.bool (!k),.bool (!k),.ptr 0 1,I f.No,.bool j,.bool (!j),.bool (!j),.bool (!j),.tup [],.tup [],.tup [],.tup [],.bool true,.bool true,.tup [],.tup [],.tup [],.bool true,.bool true,.tup [],.tup [],.tup []] draws Z Z Z ?_ ?_
    .refine ov (ov (Oq.c ?_ (Oq.c ?_ (ov (Oq.c ?_ (Oq.c ?_ (Oq.c ?_ (Oq.c ?_ (Oq.c ?_ (ov (Oq.c ?_ (Oq.c ?_ (Oq.c ?_ (Oq.c ?_ (Oq.c ?_ (ov (Oq.c ?_ (Oq.c ?_ (Oq.c ?_ (Oq.c ?_ (ov (Oq.c ?_ (Oq.c ?_ (Oq.c ?_ (Oq.n)))))))))))))))))))))))))
     .refine Om Z (sD 1 sN) ?_;exact Pc [] Z (OpC.fn call183 Z Z Z) (QmI _ _ _ s) Z Wp
     .refine Om Z (sD 2 sN) ?_;exact S Z Wp
     .refine Om Z (sO 1 (sD 4 sN)) ?_;exact Fpg (gT a) QeX Z Wp
     .refine Om Z (sD 4 (sD 5 sN)) ?_;exact Ldg (gT a) EF Z Wp
     .refine Om Z (sD 4 (sD 6 sN)) ?_;exact Pc [] Z (OpC.fn call184 Z Z Z) (Qob _ _ _ t) (hg:=(gT a)) Z Wp
     .refine Om Z (sD 4 (sD 7 sN)) ?_;exact Sg (gT a) Z Wp
     .refine Om Z (sD 4 (sD 8 sN)) ?_;exact Pk a Z Wp
     .refine Om Z (sO 1 (sD 10 sN)) ?_;exact K (gF d) Z Wp
     .refine Om Z (sD 10 (sD 11 sN)) ?_;exact K (gF d) Z Wp
     .refine Om Z (sD 10 (sD 12 sN)) ?_;exact K (gF d) Z Wp
     .refine Om Z (sD 10 (sD 13 sN)) ?_;exact K (gF d) Z Wp
     .refine Om Z (sD 10 (sD 14 sN)) ?_;exact Pk d Z Wp
     .refine Om Z (sO 1 (sD 16 sN)) ?_;exact K (gF Z) Z Wp
     .refine Om Z (sD 16 (sD 17 sN)) ?_;exact K (gF Z) Z Wp
     .refine Om Z (sD 16 (sD 18 sN)) ?_;exact K (gF Z) Z Wp
     .refine Om Z (sD 16 (sD 19 sN)) ?_;exact S Z Wp
     iterate 2 refine Om Z (sO 1 (sD 21 sN)) ?_;exact K (gF Z) Z Wp
     .refine Om Z (sD 21 (sD 23 sN)) ?_;exact K (gF Z) Z Wp
    exact Gl 3 Z e []
   .obtain⟨l,w,e⟩:=YM e;refine If e (λg e=>?_) (λg e=>?_)
    .refine TC.draw0 25 [3,4,5,6,7,8,9,10,11,12,13,14,15,16,17,18,19,20,21,22,23,24,25,26,27] [.ptr 0 0,I f.Crew,.bool k,.bool (!k),.bool (!k),.ptr 0 1,I f.No,.bool j,.bool (!j),.bool (!j),.bool (!j),.ptr 0 2,I f.At,.bool l,.bool (!l),.bool (!l),.bool (!l),.tup [],.tup [],.tup [],.bool true,.bool true,.tup [],.tup [],.tup []] draws Z Z Z ?_ ?_
     .refine ov (ov (Oq.c ?_ (Oq.c ?_ (ov (Oq.c ?_ (Oq.c ?_ (Oq.c ?_ (Oq.c ?_ (Oq.c ?_ (ov (Oq.c ?_ (Oq.c ?_ (Oq.c ?_ (Oq.c ?_ (Oq.c ?_ (ov (Oq.c ?_ (Oq.c ?_ (Oq.c ?_ (Oq.c ?_ (ov (Oq.c ?_ (Oq.c ?_ (Oq.c ?_ (Oq.n)))))))))))))))))))))))))
      .refine Om Z (sD 1 sN) ?_;exact Pc [] Z (OpC.fn call183 Z Z Z) (QmI _ _ _ s) Z Wp
      .refine Om Z (sD 2 sN) ?_;exact S Z Wp
      .refine Om Z (sO 1 (sD 4 sN)) ?_;exact Fpg (gT a) QeX Z Wp
      .refine Om Z (sD 4 (sD 5 sN)) ?_;exact Ldg (gT a) EF Z Wp
      .refine Om Z (sD 4 (sD 6 sN)) ?_;exact Pc [] Z (OpC.fn call184 Z Z Z) (Qob _ _ _ t) (hg:=(gT a)) Z Wp
      .refine Om Z (sD 4 (sD 7 sN)) ?_;exact Sg (gT a) Z Wp
      .refine Om Z (sD 4 (sD 8 sN)) ?_;exact Pk a Z Wp
      .refine Om Z (sO 1 (sD 10 sN)) ?_;exact Fpg (gT d) Qh6 Z Wp
      .refine Om Z (sD 10 (sD 11 sN)) ?_;exact Ldg (gT d) EF Z Wp
      .refine Om Z (sD 10 (sD 12 sN)) ?_;exact Pc [] Z (OpC.fn call185 Z Z Z) (k_b _ _ _ _ _ w) (hg:=(gT d)) Z Wp
      .refine Om Z (sD 10 (sD 13 sN)) ?_;exact Sg (gT d) Z Wp
      .refine Om Z (sD 10 (sD 14 sN)) ?_;exact Pk d Z Wp
      .refine Om Z (sO 1 (sD 16 sN)) ?_;exact K (gF g) Z Wp
      .refine Om Z (sD 16 (sD 17 sN)) ?_;exact K (gF g) Z Wp
      .refine Om Z (sD 16 (sD 18 sN)) ?_;exact K (gF g) Z Wp
      .refine Om Z (sD 16 (sD 19 sN)) ?_;exact Pk g Z Wp
      iterate 2 refine Om Z (sO 1 (sD 21 sN)) ?_;exact K (gF Z) Z Wp
      .refine Om Z (sD 21 (sD 23 sN)) ?_;exact K (gF Z) Z Wp
     exact Gl 3 Z e []
    .obtain⟨m,y,e⟩:=YM e;refine If e (λi e=>?_) (λi e=>?_)
     .refine TC.draw0 25 [3,4,5,6,7,8,9,10,11,12,13,14,15,16,17,18,19,20,21,22,23,24,25,26,27] [.ptr 0 0,I f.Crew,.bool k,.bool (!k),.bool (!k),.ptr 0 1,I f.No,.bool j,.bool (!j),.bool (!j),.bool (!j),.ptr 0 2,I f.At,.bool l,.bool (!l),.bool (!l),.bool (!l),.agg (Fact.c f),.bool m,.bool (!m),.bool (!m),.bool (!m),.tup [],.tup [],.tup []] draws Z Z Z ?_ ?_
      .refine ov (ov (Oq.c ?_ (Oq.c ?_ (ov (Oq.c ?_ (Oq.c ?_ (Oq.c ?_ (Oq.c ?_ (Oq.c ?_ (ov (Oq.c ?_ (Oq.c ?_ (Oq.c ?_ (Oq.c ?_ (Oq.c ?_ (ov (Oq.c ?_ (Oq.c ?_ (Oq.c ?_ (Oq.c ?_ (ov (Oq.c ?_ (Oq.c ?_ (Oq.c ?_ (Oq.n)))))))))))))))))))))))))
       .refine Om Z (sD 1 sN) ?_;exact Pc [] Z (OpC.fn call183 Z Z Z) (QmI _ _ _ s) Z Wp
       .refine Om Z (sD 2 sN) ?_;exact S Z Wp
       .refine Om Z (sO 1 (sD 4 sN)) ?_;exact Fpg (gT a) QeX Z Wp
       .refine Om Z (sD 4 (sD 5 sN)) ?_;exact Ldg (gT a) EF Z Wp
       .refine Om Z (sD 4 (sD 6 sN)) ?_;exact Pc [] Z (OpC.fn call184 Z Z Z) (Qob _ _ _ t) (hg:=(gT a)) Z Wp
       .refine Om Z (sD 4 (sD 7 sN)) ?_;exact Sg (gT a) Z Wp
       .refine Om Z (sD 4 (sD 8 sN)) ?_;exact Pk a Z Wp
       .refine Om Z (sO 1 (sD 10 sN)) ?_;exact Fpg (gT d) Qh6 Z Wp
       .refine Om Z (sD 10 (sD 11 sN)) ?_;exact Ldg (gT d) EF Z Wp
       .refine Om Z (sD 10 (sD 12 sN)) ?_;exact Pc [] Z (OpC.fn call185 Z Z Z) (k_b _ _ _ _ _ w) (hg:=(gT d)) Z Wp
       .refine Om Z (sD 10 (sD 13 sN)) ?_;exact Sg (gT d) Z Wp
       .refine Om Z (sD 10 (sD 14 sN)) ?_;exact Pk d Z Wp
       .refine Om Z (sO 1 (sD 16 sN)) ?_;refine vX (.agg (Fact.c f)) (Qs Z EP EC Z (Pts.cells Z Z) Z Z) ?_ (gT g);exact Wp
       .refine Om Z (sD 16 (sD 17 sN)) ?_;exact Pc [] Z (OpC.fn call186 Z Z Z) (k_bs _ _ _ y) (hg:=(gT g)) Z Wp
       .refine Om Z (sD 16 (sD 18 sN)) ?_;exact Sg (gT g) Z Wp
       .refine Om Z (sD 16 (sD 19 sN)) ?_;exact Pk g Z Wp
       iterate 2 refine Om Z (sO 1 (sD 21 sN)) ?_;exact K (gF i) Z Wp
       .refine Om Z (sD 21 (sD 23 sN)) ?_;exact K (gF i) Z Wp
      exact KF i Z (Pk i Z (Gl 1 Z e []))
     .obtain⟨u,z,e⟩:=YM e;refine YS 25 0 [3,4,5,6,7,8,9,10,11,12,13,14,15,16,17,18,19,20,21,22,23,24,25,26,27] [false,false,false,false,false,false,false,false,false,false,false,false,false,false,false,false,false,false,false,false,false,false,false,false,true] [[],[],[],[],[],[],[],[],[],[],[],[],[],[],[],[],[],[],[],[],[],[],[],[],[]] [[],[24]] [[(0,0)],[(0,0)],[(0,0)],[(0,0)],[(0,0)],[(0,0)],[(0,0)],[(0,0)],[(0,0)],[(0,0)],[(0,0)],[(0,0)],[(0,0)],[(0,0)],[(0,0)],[(0,0)],[(0,0)],[(0,0)],[(0,0)],[(0,0)],[(0,0)],[(0,0)],[(0,0),(1,1)],[(0,0)],[(0,1)]] [.ptr 0 0,I f.Crew,.bool k,.bool (!k),.bool (!k),.ptr 0 1,I f.No,.bool j,.bool (!j),.bool (!j),.bool (!j),.ptr 0 2,I f.At,.bool l,.bool (!l),.bool (!l),.bool (!l),.agg (Fact.c f),.bool m,.bool (!m),.bool (!m),.bool (!m),.agg (Fact.c f),.agg (Fact.c f),.agg (Fact.c u)] [[.cells 72 (Fact.c f)],[.cells 72 (Fact.c f),.cells 72 (Fact.c u)]] ([.cells 72 (Fact.c f),.cells 72 (Fact.c u)]) draws Z Z Z Z Z Z Z ?_ Z ?_
      .refine QiA.cons (Qb (v0 Z Z) (Qd)) (QiA.cons (Qb (v0 Z Z) (Qd)) (QiA.cons ?_ (QiA.cons ?_ (QiA.cons (Qb (v0 Z Z) (Qd)) (QiA.cons ?_ (QiA.cons ?_ (QiA.cons ?_ (QiA.cons ?_ (QiA.cons ?_ (QiA.cons (Qb (v0 Z Z) (Qd)) (QiA.cons ?_ (QiA.cons ?_ (QiA.cons ?_ (QiA.cons ?_ (QiA.cons ?_ (QiA.cons (Qb (v0 Z Z) (Qd)) (QiA.cons ?_ (QiA.cons ?_ (QiA.cons ?_ (QiA.cons ?_ (QiA.cons (Qb (v0 Z Z) (Qd)) (QiA.cons ?_ (QiA.cons ?_ (QiA.cons ?_ (QiA.nil)))))))))))))))))))))))))
       .refine Qb ?_ (Qd)
        .refine Om Z (sD 1 sN) ?_;exact Pc [] Z (OpC.fn call183 Z Z Z) (QmI _ _ _ s) Z Wp
       .refine Qb ?_ (Qd)
        .refine Om Z (sD 2 sN) ?_;exact S Z Wp
       .refine Qb ?_ (Qd)
        .refine Om Z (sO 1 (sD 4 sN)) ?_;exact Fpg (gT a) QeX Z Wp
       .refine Qb ?_ (Qd)
        .refine Om Z (sD 4 (sD 5 sN)) ?_;exact Ldg (gT a) EF Z Wp
       .refine Qb ?_ (Qd)
        .refine Om Z (sD 4 (sD 6 sN)) ?_;exact Pc [] Z (OpC.fn call184 Z Z Z) (Qob _ _ _ t) (hg:=(gT a)) Z Wp
       .refine Qb ?_ (Qd)
        .refine Om Z (sD 4 (sD 7 sN)) ?_;exact Sg (gT a) Z Wp
       .refine Qb ?_ (Qd)
        .refine Om Z (sD 4 (sD 8 sN)) ?_;exact Pk a Z Wp
       .refine Qb ?_ (Qd)
        .refine Om Z (sO 1 (sD 10 sN)) ?_;exact Fpg (gT d) Qh6 Z Wp
       .refine Qb ?_ (Qd)
        .refine Om Z (sD 10 (sD 11 sN)) ?_;exact Ldg (gT d) EF Z Wp
       .refine Qb ?_ (Qd)
        .refine Om Z (sD 10 (sD 12 sN)) ?_;exact Pc [] Z (OpC.fn call185 Z Z Z) (k_b _ _ _ _ _ w) (hg:=(gT d)) Z Wp
       .refine Qb ?_ (Qd)
        .refine Om Z (sD 10 (sD 13 sN)) ?_;exact Sg (gT d) Z Wp
       .refine Qb ?_ (Qd)
        .refine Om Z (sD 10 (sD 14 sN)) ?_;exact Pk d Z Wp
       .refine Qb ?_ (Qd)
        .refine Om Z (sO 1 (sD 16 sN)) ?_;refine vX (.agg (Fact.c f)) (Qs Z EP EC Z (Pts.cells Z Z) Z Z) ?_ (gT g);exact Wp
       .refine Qb ?_ (Qd)
        .refine Om Z (sD 16 (sD 17 sN)) ?_;exact Pc [] Z (OpC.fn call186 Z Z Z) (k_bs _ _ _ y) (hg:=(gT g)) Z Wp
       .refine Qb ?_ (Qd)
        .refine Om Z (sD 16 (sD 18 sN)) ?_;exact Sg (gT g) Z Wp
       .refine Qb ?_ (Qd)
        .refine Om Z (sD 16 (sD 19 sN)) ?_;exact Pk g Z Wp
       .refine Qb ?_ (Qb ?_ (Qd))
        iterate 2 refine Om Z (sO 1 (sD 21 sN)) ?_;refine vX (.agg (Fact.c f)) (Qs Z EP EC Z (Pts.cells Z Z) Z Z) ?_ (gT i);exact Wp
       .refine Qb ?_ (Qd)
        .refine Om Z (sO 1 (sD 21 sN)) ?_;refine vX (.agg (Fact.c f)) (Qs Z EP EC Z (Pts.cells Z Z) Z Z) ?_ (gT i);exact Wp
       .refine Qb ?_ (Qd)
        .refine Om1 Z (sD 21 (sD 23 sN)) ?_;refine QD [] (OpC.fn call187 Z Z Z) (k_cc _ _ _ z) ?_ (hg:=(gT i));rintro _ _ ⟨rfl,rfl⟩;exact FE Z Wp
      refine vX (.bool (f != u)) (Qhu (p:=f) (q:=u) QkX Z Z) ?_ (gT i);exact Pk i Z (Gl 1 Z e [])
 refine Cn Z h (λ_ h=>?_) (λ_ h=>?_)
 .exact QI 7 Z h 2 []
 exact QI 8 Z h 2 []
def F_cf(n:Nat)(a:Fact):Option (List Int):=(bif (a.Kind==1)then(app [a.Kind,a.Crew,a.No,a.At] [a.Starter.Bib,a.Starter.Distance,a.Starter.Wave,a.Starter.Slot,a.Starter.Age,a.Starter.Chip,a.Starter.Team,a.Starter.Lot]).bind λm=>some m else(bif (a.Kind==2)then(app [a.Kind,a.Crew,a.No,a.At] [a.Read.Mat,a.Read.Epoch,a.Read.Chip,a.Read.Local]).bind λp=>some p else(bif (a.Kind==3)then(app [a.Kind,a.Crew,a.No,a.At] [a.Beacon.Mat,a.Beacon.Epoch,a.Beacon.Local,a.Beacon.True,a.Beacon.Err]).bind λq=>some q else(bif (a.Kind==4)then(app [a.Kind,a.Crew,a.No,a.At] [a.Sync.MatA,a.Sync.EpochA,a.Sync.LocalA,a.Sync.MatB,a.Sync.EpochB,a.Sync.LocalB,a.Sync.Min,a.Sync.Max]).bind λr=>some r else(bif (a.Kind==5)then(app [a.Kind,a.Crew,a.No,a.At] [a.Hand.Bib,a.Hand.Position,a.Hand.Lo,a.Hand.Hi]).bind λd=>some d else(bif (a.Kind==6)then(app [a.Kind,a.Crew,a.No,a.At] [a.Silence.Mat,a.Silence.Epoch,a.Silence.Lo,a.Silence.Hi]).bind λe=>some e else(bif (a.Kind==7)then(app [a.Kind,a.Crew,a.No,a.At] [a.Pair.A,a.Pair.B]).bind λf=>some f else(bif (a.Kind==8)then(app [a.Kind,a.Crew,a.No,a.At] [a.Report.Case,a.Report.Bib,a.Report.Offence,a.Report.Position]).bind λg=>some g else(bif (a.Kind==9)then(app [a.Kind,a.Crew,a.No,a.At] [a.Protest.Case,a.Protest.By,a.Protest.Fee,a.Protest.Form]).bind λh=>some h else(bif (a.Kind==10)then(app [a.Kind,a.Crew,a.No,a.At] [a.Ruling.Case,a.Ruling.Instance,a.Ruling.Kind,a.Ruling.Bib,a.Ruling.Position,a.Ruling.Amount]).bind λi=>some i else(bif (a.Kind==11)then(bif a.Appeal.Suspends then(app [a.Kind,a.Crew,a.No,a.At] [a.Appeal.Case,1]).bind λj=>some j else(app [a.Kind,a.Crew,a.No,a.At] [a.Appeal.Case,0]).bind λk=>some k)else(bif (a.Kind==13)then(app [a.Kind,a.Crew,a.No,a.At] [a.Void.Crew,a.Void.No]).bind λl=>some l else some [a.Kind,a.Crew,a.No,a.At]))))))))))))
theorem k_cf(a:Fact):Kq (F_cf n a) 247 [.agg (Fact.c a)] [] (λr=>.osl 0 0 r.length 1) (λr=>[.row 3 1 (map (Qe .i64) r)]):=by
 refine Kg 16 func247 Z Z Z Z λr h=>vH (Ek (xs:=[.tmp 14,.tmp 16,.tmp 18,.tmp 20]) (es:=map (Qe .i64) [a.Kind,a.Crew,a.No,a.At]) Qu Z Z Z Z Z ⟨Z,Z,Z,Z,trivial⟩ Z Z) ?_;refine Fg 17 Z Z (Cn Z h (λ_ h=>?_) (λ_ h=>?_))
 .refine Gc 27 Z (vH (Ek (xs:=[.tmp 30,.tmp 32,.tmp 34,.tmp 36,.tmp 38,.tmp 40,.tmp 42,.tmp 44]) (es:=map (Qe .i64) [a.Starter.Bib,a.Starter.Distance,a.Starter.Wave,a.Starter.Slot,a.Starter.Age,a.Starter.Chip,a.Starter.Team,a.Starter.Lot]) Qu Z Z Z Z Z ⟨Z,Z,Z,Z,Z,Z,Z,Z,trivial⟩ Z Z) ?_);refine FE Z (Bd h λl2 G h=>vH (Qk (e:=(Qe .i64)) G Qu EA (QH (i:=3))) ?_);exact FE Z (Gt 6 Z h 2 [4])
 refine Gc 6 Z (Cn Z h (λ_ h=>?_) (λ_ h=>?_))
 .refine Gc 19 Z (vH (Ek (xs:=[.tmp 53,.tmp 55,.tmp 57,.tmp 59]) (es:=map (Qe .i64) [a.Read.Mat,a.Read.Epoch,a.Read.Chip,a.Read.Local]) Qu Z Z Z Z Z ⟨Z,Z,Z,Z,trivial⟩ Z Z) ?_);refine FE Z (Bd h λl4 J h=>vH (Qk (e:=(Qe .i64)) J Qu EA (QH (i:=3))) ?_);exact FE Z (Gt 6 Z h 2 [4])
 refine Gc 6 Z (Cn Z h (λ_ h=>?_) (λ_ h=>?_))
 .refine Gc 21 Z (vH (Ek (xs:=[.tmp 68,.tmp 70,.tmp 72,.tmp 74,.tmp 76]) (es:=map (Qe .i64) [a.Beacon.Mat,a.Beacon.Epoch,a.Beacon.Local,a.Beacon.True,a.Beacon.Err]) Qu Z Z Z Z Z ⟨Z,Z,Z,Z,Z,trivial⟩ Z Z) ?_);refine FE Z (Bd h λl6 M h=>vH (Qk (e:=(Qe .i64)) M Qu EA (QH (i:=3))) ?_);exact FE Z (Gt 6 Z h 2 [4])
 refine Gc 6 Z (Cn Z h (λ_ h=>?_) (λ_ h=>?_))
 .refine Gc 27 Z (vH (Ek (xs:=[.tmp 85,.tmp 87,.tmp 89,.tmp 91,.tmp 93,.tmp 95,.tmp 97,.tmp 99]) (es:=map (Qe .i64) [a.Sync.MatA,a.Sync.EpochA,a.Sync.LocalA,a.Sync.MatB,a.Sync.EpochB,a.Sync.LocalB,a.Sync.Min,a.Sync.Max]) Qu Z Z Z Z Z ⟨Z,Z,Z,Z,Z,Z,Z,Z,trivial⟩ Z Z) ?_);refine FE Z (Bd h λl8 O h=>vH (Qk (e:=(Qe .i64)) O Qu EA (QH (i:=3))) ?_);exact FE Z (Gt 6 Z h 2 [4])
 refine Gc 6 Z (Cn Z h (λ_ h=>?_) (λ_ h=>?_))
 .refine Gc 19 Z (vH (Ek (xs:=[.tmp 108,.tmp 110,.tmp 112,.tmp 114]) (es:=map (Qe .i64) [a.Hand.Bib,a.Hand.Position,a.Hand.Lo,a.Hand.Hi]) Qu Z Z Z Z Z ⟨Z,Z,Z,Z,trivial⟩ Z Z) ?_);refine FE Z (Bd h λQ d h=>vH (Qk (e:=(Qe .i64)) d Qu EA (QH (i:=3))) ?_);exact FE Z (Gt 6 Z h 2 [4])
 refine Gc 6 Z (Cn Z h (λ_ h=>?_) (λ_ h=>?_))
 .refine Gc 19 Z (vH (Ek (xs:=[.tmp 123,.tmp 125,.tmp 127,.tmp 129]) (es:=map (Qe .i64) [a.Silence.Mat,a.Silence.Epoch,a.Silence.Lo,a.Silence.Hi]) Qu Z Z Z Z Z ⟨Z,Z,Z,Z,trivial⟩ Z Z) ?_);refine FE Z (Bd h λR g h=>vH (Qk (e:=(Qe .i64)) g Qu EA (QH (i:=3))) ?_);exact FE Z (Gt 6 Z h 2 [4])
 refine Gc 6 Z (Cn Z h (λ_ h=>?_) (λ_ h=>?_))
 .refine Gc 9 Z (vH (Ek (xs:=[.tmp 137,.tmp 140]) (es:=map (Qe .i64) [a.Pair.A,a.Pair.B]) Qu Z Z Z Z Z ⟨Z,Z,trivial⟩ Z Z) ?_);refine FE Z (Bd h λT k h=>vH (Qk (e:=(Qe .i64)) k Qu EA (QH (i:=2))) ?_);exact FE Z (Gt 6 Z h 2 [3])
 refine Gc 6 Z (Cn Z h (λ_ h=>?_) (λ_ h=>?_))
 .refine Gc 19 Z (vH (Ek (xs:=[.tmp 149,.tmp 151,.tmp 153,.tmp 155]) (es:=map (Qe .i64) [a.Report.Case,a.Report.Bib,a.Report.Offence,a.Report.Position]) Qu Z Z Z Z Z ⟨Z,Z,Z,Z,trivial⟩ Z Z) ?_);refine FE Z (Bd h λV m h=>vH (Qk (e:=(Qe .i64)) m Qu EA (QH (i:=3))) ?_);exact FE Z (Gt 6 Z h 2 [4])
 refine Gc 6 Z (Cn Z h (λ_ h=>?_) (λ_ h=>?_))
 .refine Gc 19 Z (vH (Ek (xs:=[.tmp 164,.tmp 166,.tmp 168,.tmp 170]) (es:=map (Qe .i64) [a.Protest.Case,a.Protest.By,a.Protest.Fee,a.Protest.Form]) Qu Z Z Z Z Z ⟨Z,Z,Z,Z,trivial⟩ Z Z) ?_);refine FE Z (Bd h λW q h=>vH (Qk (e:=(Qe .i64)) q Qu EA (QH (i:=3))) ?_);exact FE Z (Gt 6 Z h 2 [4])
 refine Gc 6 Z (Cn Z h (λ_ h=>?_) (λ_ h=>?_))
 .refine Gc 23 Z (vH (Ek (xs:=[.tmp 179,.tmp 181,.tmp 183,.tmp 185,.tmp 187,.tmp 189]) (es:=map (Qe .i64) [a.Ruling.Case,a.Ruling.Instance,a.Ruling.Kind,a.Ruling.Bib,a.Ruling.Position,a.Ruling.Amount]) Qu Z Z Z Z Z ⟨Z,Z,Z,Z,Z,Z,trivial⟩ Z Z) ?_);refine FE Z (Bd h λX t h=>vH (Qk (e:=(Qe .i64)) t Qu EA (QH (i:=3))) ?_);exact FE Z (Gt 6 Z h 2 [4])
 refine Gc 6 Z (Cn Z h (λ_ h=>?_) (λ_ h=>?_))
 .refine Gc 8 Z (Cn Z h (λ_ h=>?_) (λ_ h=>?_))
  .refine Gc 6 Z (vH (Ek (xs:=[.tmp 200,.const (.int .i64 1)]) (es:=map (Qe .i64) [a.Appeal.Case,1]) Qu Z Z Z Z Z ⟨Z,Z,trivial⟩ Z Z) ?_);refine FE Z (Bd h λY x h=>vH (Qk (e:=(Qe .i64)) x Qu EA (QH (i:=2))) ?_);exact FE Z (Gt 7 Z h 2 [3])
  refine Gc 8 Z (vH (Ek (xs:=[.tmp 206,.const (.int .i64 0)]) (es:=map (Qe .i64) [a.Appeal.Case,0]) Qu Z Z Z Z Z ⟨Z,Z,trivial⟩ Z Z) ?_);refine FE Z (Bd h λaa y h=>vH (Qk (e:=(Qe .i64)) y Qu EA (QH (i:=2))) ?_);exact FE Z (Gt 6 Z h 2 [3])
 refine Gc 6 Z (Cn Z h (λ_ h=>?_) (λ_ h=>?_))
 .refine Gc 9 Z (vH (Ek (xs:=[.tmp 214,.tmp 217]) (es:=map (Qe .i64) [a.Void.Crew,a.Void.No]) Qu Z Z Z Z Z ⟨Z,Z,trivial⟩ Z Z) ?_);refine FE Z (Bd h λab E h=>vH (Qk (e:=(Qe .i64)) E Qu EA (QH (i:=2))) ?_);exact FE Z (Gt 6 Z h 2 [3])
 exact QI 10 Z h 2 [1]
def F_gg(n:Nat)(a:Int):Option Unit:=some ()
theorem k_gg(a:Int):Kq (F_gg n a) 273 [I a] [] (λ_=>.agg [I 1,I a,.str [],.rsl 4 (map Value.enc [])]) (λ_=>[.cells 296 [I 1,I a,.str [],.rsl 4 (map Value.enc [])]]):=by
 refine Kg 13 func273 Z Z Z Z λr h=>?_;exact Rx [0] [2] Z (Yd Z (Qg GC Gv Z Z Z)) ⟨Z,Z⟩
def F_kx(e:List Int)(a:(List Value)×Int):Option (Ctl ((List Value)×Int) (List Value)):=(bif decide (a.2<(e.length:Int))then(idx e a.2).bind λd=>(F_gg n d).bind λg=>(app a.1 [{Kind:=1,N:=d,S:=[],L:=[]:Value}]).bind λf=>some (.cont (f,i64.wrap (a.2+1)))else some (.done a.1))
def F_ew(d:List Int):Option (List Value):=(iter (F_kx n d) n ([],0):Option (List Value)).bind λa=>some a
theorem k_ew(j:List Int):Kq (F_ew n j) 246 [.rsl 1 (map (Qe .i64) j)] [] (λr=>.agg [I 3,I 0,.str [],.osl 0 0 r.length 4]) (λr=>[.row 296 4 (map Value.enc r),.cells 296 [I 3,I 0,.str [],.osl 0 0 r.length 4]]):=by
 refine Kg 7 func246 Z Z Z Z λr h=>?_;refine vV (OpV.build (zs:=[I 0,I 0,.str [],.nils]) GL (zrC Z) QnS) ?_;refine Fg 9 Z Z (Bd h λg w h=>Cg g [0,1,0] [2,3] Ze (λg=>[(1,.cells 296 [I 3,I 0,.str [],.osl 2 0 g.length 4]),(2,.row 296 4 (map Value.enc g))]) Zf ?_ ?_)
 .refine G0 1 Z (Lp [0,1,0] [0,2,3] (λa=>[(4,I a.2)]) (λa=>[(1,.cells 296 [I 3,I 0,.str [],.osl 2 0 a.1.length 4]),(2,.row 296 4 (map Value.enc a.1))]) w Zf ?_ ?_)
  .refine En (YU (i:=1) (m:=3) (t:=296) (k:=4) Z Z Z) ?_;exact Lr [0,1,2]
  intro a x d l;refine G0 5 Z (Lg 3 Z Z (Q8 Z d (λ_ d=>?_) (λ_ d=>?_)))
  .exact Gc 2 Z (Ql d (Gx 1 Z (cQo l d (Lr [0,1,2]))))
  refine Gc 4 Z ?_;obtain⟨f,q,d⟩:=YM d;obtain⟨y,s,d⟩:=YM d;refine YS 8 0 [12,13,14,15,16,17,18,19] [false,false,false,false,false,false,true,false] [[],[],[],[],[],[],[],[6]] [[],[6]] [[(0,0),(1,1)],[(0,0),(1,1)],[(0,0)],[(0,0)],[(0,0)],[(0,0)],[(0,1)],[(1,1)]] [.ptr 1 3,.osl 2 0 a.1.length 4,.rsl 1 (map (Qe .i64) j),I a.2,.rp [I f],I f,.agg [I 1,I f,.str [],.rsl 4 (map Value.enc [])],.rsl 4 (map Value.enc [{Kind:=1,N:=f,S:=[],L:=[]:Value}])] [[.cells 296 (Value.c UC),.cells 296 [I 3,I 0,.str [],.osl 2 0 a.1.length 4],.row 296 4 (map Value.enc a.1)],[.cells 296 (Value.c UC),.cells 296 [I 3,I 0,.str [],.osl 2 0 a.1.length 4],.row 296 4 (map Value.enc a.1),.cells 296 [I 1,I f,.str [],.rsl 4 (map Value.enc [])]]] ([.cells 296 (Value.c UC),.cells 296 [I 3,I 0,.str [],.osl 2 0 a.1.length 4],.row 296 4 (map Value.enc a.1),.cells 296 [I 1,I f,.str [],.rsl 4 (map Value.enc [])]]) draws Z Z Z Z Z Z Z ?_ Z ?_
  .refine QiA.cons (Qb (v0 Z Z) (Qb (v0 Z Z) (Qd))) (QiA.cons (Qb (v0 Z Z) (Qb (v0 Z Z) (Qd))) (QiA.cons (Qb (v0 Z Z) (Qd)) (QiA.cons (Qb (v0 Z Z) (Qd)) (QiA.cons ?_ (QiA.cons (Qb (v0 Z Z) (Qd)) (QiA.cons ?_ (QiA.cons ?_ (QiA.nil))))))))
   .refine Qb ?_ (Qd)
    .refine Om Z (sD 2 (sD 3 sN)) ?_;exact Ix q EA EE Z Wp
   .refine Qb ?_ (Qd)
    .refine Om1 Z (sD 5 sN) ?_;refine QD [] (OpC.fn call273 Z Z Z) (k_gg _ _ _ s) ?_;rintro _ _ ⟨rfl,rfl⟩;exact FE Z Wp
   .refine Qb ?_ (Qd)
    .refine Om Z (sD 6 sN) ?_;refine vH (YB (xs:=[.tmp 18]) Qik Z Z Z Z Z ⟨Z,trivial⟩ Z Z) ?_;exact Wp
  refine Bd d λz u d=>vH (Qk (e:=Value.enc) u Qik EX JY) ?_;exact Fg 10 Z Z (Qj d (Lr [0,1,4]))
 refine Gc 7 Z ?_;obtain rfl:=Oi h;exact Rx [2,0] [2] Z (Yd Z (Qg GC Gv Z Z Z)) ⟨Z,Z⟩
def F_kv(n:Nat)(d:Value)(rec262:Value->Option Bool)(a:Int):Option (Ctl Int (Ctl Unit Bool)):=(bif decide (a<(d.L.length:Int))then(idx d.L a).bind λe=>(rec262 e).bind λf=>(bif (!f)then some (.done (.done false))else some (.cont (i64.wrap (a+1))))else some (.done (.cont ())))
def B_ae(rec262:Value->Option Bool)(n:Nat)(a:Value):Option Bool:=(bif (a.Kind==1)then((bif (a.S==[])then some ((a.L.length:Int)==0)else some false):Option Bool).bind λg=>some g else(bif (a.Kind==2)then((bif (a.N==0)then some ((a.L.length:Int)==0)else some false):Option Bool).bind λh=>some h else(bif (a.Kind==3)then(iter (F_kv n a rec262) n 0:Option (Ctl Unit Bool)).bind λe=>match e with|.cont d=>(((bif (a.N==0)then some (a.S==[])else some false):Option Bool).bind λf=>some f)|.done d=>some d else some false)))
theorem QaV(rec262:Value->Option Bool)(f:∀(g:Value) (r:Bool),rec262 g=some r->Csm prog 301 [.agg (Value.c g)] [] (λr=>.bool r) r)(n:Nat)(g:Value)(r:Bool)(h:B_ae rec262 n g=some r):Csm prog 301 [.agg (Value.c g)] [] (λr=>.bool r) r:=by
 refine QE func301 Z Z Z ?_;refine G0 20 Z (Cn Z h (λ_ h=>?_) (λ_ h=>?_))
 .refine Gc 1 Z (Bd h λp i h=>Ct p [] [] (λp=>[(2,.bool p)]) Ze Zf ?_ (λenv H d=>?_))
  .refine G0 5 Z (Is 11 i Z (λ_ i=>?_) (λ_ i=>?_))
   .exact Go 2 Z (Lm Z (Gl 4 Z i []))
   .exact Gl 7 Z i []
  exact Gx 1 Z (Qf d (QI 3 Z h 2 []))
 refine Gc 6 Z (Cn Z h (λ_ h=>?_) (λ_ h=>?_))
 .refine Gc 1 Z (Bd h λq j h=>Ct q [] [] (λq=>[(2,.bool q)]) Ze Zf ?_ (λenv H d=>?_))
  .refine G0 5 Z (Is 22 j Z (λ_ j=>?_) (λ_ j=>?_))
   .exact Go 2 Z (Lm Z (Gl 4 Z j []))
   .exact Gl 7 Z j []
  exact Gx 1 Z (Qf d (QI 3 Z h 2 []))
 refine Gc 6 Z (Cn Z h (λ_ h=>?_) (λ_ h=>?_))
 .refine Gc 6 Z (Bd h λF G h=>CtE (b:=F) [0] [1] Ze Ze Zf ?_ (λM env H J d=>?_))
  .refine G0 1 Z (Lp [0] [1] (λm=>[(3,I m)]) Ze G Zf (Lr [0]) λm O a k=>?_);refine G0 6 Z (Lg 3 Z Z (Q8 Z a (λ_ a=>?_) (λ_ a=>?_)))
   .exact Gc 2 Z (Ql a (Gx 1 Z (JN k a Z (Lr [0]))))
   refine Gc 9 Z (Bd a λL w a=>IzE w (Jq L) Z (Go 1 Z (Cz [] a (f _) Z λP N a=>Go 3 Z (Cn Z a (λ_ a=>?_) (λ_ a=>?_)))))
   .refine Gc 8 Z (Qx a ?_);obtain rfl:=Oj k a;exact Gx 1 Z (Qt (Gx 3 Z (Rt h 2 [])))
   exact Gc 8 Z (Qj a (Lr [0]))
  subst J;refine Gx 1 Z (Qf d (Gc 1 Z (Bd h λl e h=>Cg l [] [] (λl=>[(2,.bool l)]) Ze Zf ?_ ?_)))
  .refine G0 5 Z (Is 47 e Z (λ_ e=>?_) (λ_ e=>?_))
   iterate 2 exact Gl 6 Z e []
  exact QI 3 Z h 2 []
 exact QI 9 Z h 2 []
def F_ae:Nat->Value->Option Bool
  |0=>λ_=>none
  |n+1=>B_ae (F_ae n) n
theorem k_ae:∀(a:Value) (r:Bool),F_ae n a=some r->Csm prog 301 [.agg (Value.c a)] [] (λr=>.bool r) r:=by
  induction n with
  |zero=>intro a r h;cases h
  |succ n ih=>intro a r h;exact QaV _ ih n a r h
def F_li(n:Nat)(e:Value)(rec263:Value->Option Int)(a:Int×Int):Option (Ctl (Int×Int) Int):=(bif decide (a.2<(e.L.length:Int))then(idx e.L a.2).bind λf=>(rec263 f).bind λd=>some (.cont ((if a.1<d then d else a.1),i64.wrap (a.2+1)))else some (.done a.1))
def B_aa(rec263:Value->Option Int)(n:Nat)(a:Value):Option Int:=(bif (a.Kind != 3)then some 0 else(iter (F_li n a rec263) n (0,0):Option Int).bind λd=>some (i64.wrap (d+1)))
theorem Qa7(rec263:Value->Option Int)(e:∀(f:Value) (r:Int),rec263 f=some r->Csm prog 302 [.agg (Value.c f)] [] (λr=>I r) r)(n:Nat)(f:Value)(r:Int)(h:B_aa rec263 n f=some r):Csm prog 302 [.agg (Value.c f)] [] (λr=>I r) r:=by
 refine QE func302 Z Z Z ?_;refine G0 14 Z (Cn Z h (λ_ h=>?_) (λ_ h=>?_))
 .exact QI 7 Z h 2 []
 refine Gc 13 Z (Bd h λi p h=>Cg i [] [] (λi=>[(3,I i)]) Ze Zf ?_ ?_)
 .refine G0 1 Z (Lp [0] [1] (λd=>[(3,I d.1),(4,I d.2)]) Ze p Zf (Lr [0]) λd t a j=>?_);refine G0 6 Z (Lg 3 Z Z (Q8 Z a (λ_ a=>?_) (λ_ a=>?_)))
  .exact Gc 2 Z (Ql a (Gx 1 Z (cQo j a (Lr []))))
  refine Gc 9 Z (Bd a λq l a=>IzE l (Jq q) Z (Go 1 Z (Cz [] a (e _) Z λg s a=>?_)));refine vX (I (if d.1<g then g else d.1)) (OpV.max Z Z Z Z) ?_;exact Go 9 Z (Qj a (Lr [0]))
 exact QI 8 Z h 2 []
def F_aa:Nat->Value->Option Int
  |0=>λ_=>none
  |n+1=>B_aa (F_aa n) n
theorem k_aa:∀(a:Value) (r:Int),F_aa n a=some r->Csm prog 302 [.agg (Value.c a)] [] (λr=>I r) r:=by
  induction n with
  |zero=>intro a r h;cases h
  |succ n ih=>intro a r h;exact Qa7 _ ih n a r h
def F_ii(a:Value):Option Int:=(F_ae n a).bind λd=>(bif (!d)then some 1 else(F_aa n a).bind λe=>(bif decide (16<e)then some 2 else some 0))
theorem k_ii(a:Value):Ks (F_ii n a) 271 [.agg (Value.c a)] [] (λr=>I r):=by
 refine Kg 10 func271 Z Z Z Z λr h=>Cz [] h (k_ae _ _) Z λi f h=>Go 3 Z (Cn Z h (λ_ h=>?_) (λ_ h=>?_))
 .exact QI 7 Z h 2 []
 refine Gc 6 Z (Cz [] h (k_aa _ _) Z λj g h=>Go 3 Z (Cn Z h (λ_ h=>?_) (λ_ h=>?_)))
 .exact QI 7 Z h 2 []
 exact QI 8 Z h 2 []
def F_cw(n:Nat)(a:Int):Option Int:=(bif decide (0<=a)then some (u64.wrap (2*(u64.wrap a)))else some (u64.wrap ((u64.wrap (2*(u64.wrap (i64.wrap (0-(i64.wrap (a+1)))))))+1)))
theorem k_cw(a:Int):Ks (F_cw n a) 304 [I a] [] (λr=>.int .u64 r):=by
 refine Kg 12 func304 Z Z Z Z λr h=>Cn Z h (λ_ h=>?_) (λ_ h=>?_)
 .refine Gc 3 Z (vV (YZ Z EL EJ Z) ?_);exact Gt 6 Z h 2 []
 refine Gc 7 Z (vV (YZ Z EL EJ Z) ?_);exact Gt 6 Z h 2 []
def B_h(rec266:Int->Option (List Int))(n:Nat)(a:Int):Option (List Int):=(bif decide (a<128)then some [u8.wrap a]else(rec266 (u64.wrap (Int.tdiv a 128))).bind λd=>(app [u8.wrap (u64.wrap ((Int.tmod a 128)+128))] d).bind λe=>some e)
theorem QaL(rec266:Int->Option (List Int))(d:∀(a:Int) (r:List Int),rec266 a=some r->C prog 303 [.int .u64 a] [] (RQ (λr=>.osl 0 0 r.length 1) (λr=>[.row 5 1 (map (Qe .u8) r)]) r))(n:Nat)(a:Int)(r:List Int)(h:B_h rec266 n a=some r):C prog 303 [.int .u64 a] [] (RQ (λr=>.osl 0 0 r.length 1) (λr=>[.row 5 1 (map (Qe .u8) r)]) r):=by
 refine QE func303 Z Z Z ?_;refine G0 12 Z (Cn Z h (λ_ h=>?_) (λ_ h=>?_))
 .refine Gc 3 Z ?_;refine vX (.int .u8 (u8.wrap a)) (YZ Z EJ E0 Z) ?_;refine vH (Ek (xs:=[.tmp 6]) (es:=map (Qe .u8) [u8.wrap a]) YO Z Z Z Z Z ⟨Z,trivial⟩ Z Z) ?_;exact FE Z (Gt 5 Z h 2 [0])
 refine Gc 5 Z ?_;refine vX (.int .u64 (Int.tmod a 128)) (OpV.rem Z Z Z (by decide)) ?_;refine Go 1 Z ?_;refine vV (x:=(.int .u8 (u8.wrap (u64.wrap ((Int.tmod a 128)+128))))) (YZ Z EJ E0 Z) ?_;refine vH (Ek (xs:=[.tmp 11]) (es:=map (Qe .u8) [u8.wrap (u64.wrap ((Int.tmod a 128)+128))]) YO Z Z Z Z Z ⟨Z,trivial⟩ Z Z) ?_;refine Fg 1 Z Z ?_;refine vX (.int .u64 (u64.wrap (Int.tdiv a 128))) (OpV.quo Z Z Z (by decide)) ?_;refine Cd [] h (d _) Z λk j h=>FE Z (Bd h λl g h=>vH (Qk (e:=(Qe .u8)) g YO EH (QH (i:=1))) ?_);exact FE Z (Gt 4 Z h 2 [2])
def F_h:Nat->Int->Option (List Int)
  |0=>λ_=>none
  |n+1=>B_h (F_h n) n
theorem k_h:∀(a:Int) (r:List Int),F_h n a=some r->C prog 303 [.int .u64 a] [] (RQ (λr=>.osl 0 0 r.length 1) (λr=>[.row 5 1 (map (Qe .u8) r)]) r):=by
  induction n with
  |zero=>intro a r h;cases h
  |succ n ih=>intro a r h;exact QaL _ ih n a r h
def F_jp(n:Nat)(d:Value)(rec264:Value->Option (List Int))(a:(List Int)×Int):Option (Ctl ((List Int)×Int) (List Int)):=(bif decide (a.2<(d.L.length:Int))then(idx d.L a.2).bind λe=>(rec264 e).bind λf=>(app a.1 f).bind λg=>some (.cont (g,i64.wrap (a.2+1)))else some (.done a.1))
def B_k(rec264:Value->Option (List Int))(n:Nat)(a:Value):Option (List Int):=(bif (a.Kind==1)then(F_cw n a.N).bind λe=>(F_h n e).bind λf=>(app [1] f).bind λg=>some g else(bif (a.Kind==2)then none else(F_h n (u64.wrap (a.L.length:Int))).bind λh=>(app [3] h).bind λi=>(iter (F_jp n a rec264) n (i,0):Option (List Int)).bind λd=>some d))
theorem QaU(rec264:Value->Option (List Int))(g:∀(j:Value) (r:List Int),rec264 j=some r->C prog 272 [.agg (Value.c j)] [] (RQ (λr=>.osl 0 0 r.length 1) (λr=>[.row 5 1 (map (Qe .u8) r)]) r))(n:Nat)(j:Value)(r:List Int)(h:B_k rec264 n j=some r):C prog 272 [.agg (Value.c j)] [] (RQ (λr=>.osl 0 0 r.length 1) (λr=>[.row 5 1 (map (Qe .u8) r)]) r):=by
 refine QE func272 Z Z Z ?_;refine G0 20 Z (Cn Z h (λ_ h=>?_) (λ_ h=>?_))
 .refine Gc 2 Z (vH (Ek (xs:=[.const (.int .u8 1)]) (es:=map (Qe .u8) [1]) YO Z Z Z Z Z ⟨Z,trivial⟩ Z Z) ?_);refine Fg 2 Z Z (Cz [] h (k_cw _ _) Z λJ z h=>Cd [] h (k_h _ _) Z λM B h=>FE Z (Bd h λN s h=>vH (Qk (e:=(Qe .u8)) s YO EH (QH (i:=2))) ?_));exact FE Z (Gt 6 Z h 2 [3])
 refine Gc 6 Z (Cn Z h (λ_ h=>?_) (λ_ h=>?_))
 .refine Gc 1 Z ?_;cases h
 refine Gc 5 Z (vH (Ek (xs:=[.const (.int .u8 3)]) (es:=map (Qe .u8) [3]) YO Z Z Z Z Z ⟨Z,trivial⟩ Z Z) ?_);refine Fg 2 Z Z (Lm Z ?_);refine vX (.int .u64 (u64.wrap (j.L.length:Int))) (YZ Z EL EJ Z) ?_;refine Cd [] h (k_h _ _) Z λO E h=>FE Z (Bd h λP u h=>vH (Qk (e:=(Qe .u8)) u YO EH (QH (i:=2))) ?_);refine Fg 9 Z Z (Bd h λd w h=>Cg d [1] [] (λd=>[(3,.osl 0 0 d.length 1)]) (λd=>[(0,.row 5 1 (map (Qe .u8) d))]) Zf ?_ ?_)
 .refine G0 1 Z (Lp [0,3] [1] (λf=>[(3,.osl 1 0 f.1.length 1),(4,I f.2)]) (λf=>[(1,.row 5 1 (map (Qe .u8) f.1))]) w Zf (Lr [0,3]) λf F a k=>?_);refine G0 6 Z (Lg 3 Z Z (Q8 Z a (λ_ a=>?_) (λ_ a=>?_)))
  .exact Gc 2 Z (Ql a (Gx 1 Z (cQo k a (Lr [1]))))
  refine Gc 9 Z (Bd a λx m a=>IzE m (Jq x) Z (Go 1 Z (Cd [] a (g _) Z λG y a=>FE Z (Bd a λH p a=>vH (Qk (e:=(Qe .u8)) p YO EH (QH (i:=2))) ?_))));exact Fg 9 Z Z (Qj a (Lr [0,3]))
 exact QI 7 Z h 2 [0]
def F_k:Nat->Value->Option (List Int)
  |0=>λ_=>none
  |n+1=>B_k (F_k n) n
theorem k_k:∀(a:Value) (r:List Int),F_k n a=some r->C prog 272 [.agg (Value.c a)] [] (RQ (λr=>.osl 0 0 r.length 1) (λr=>[.row 5 1 (map (Qe .u8) r)]) r):=by
  induction n with
  |zero=>intro a r h;cases h
  |succ n ih=>intro a r h;exact QaU _ ih n a r h
def F_hz(a:Value):Option ((List Int)×Int):=(F_ii n a).bind λd=>(bif (d != 0)then some ([],d)else(F_k n a).bind λe=>some (e,0))
theorem k_hz(a:Value):Kq (F_hz n a) 245 [.agg (Value.c a)] [] (λr=>.tup [.osl 0 0 r.1.length 1,I r.2]) (λr=>[.row 5 1 (map (Qe .u8) r.1)]):=by
 refine Kg 10 func245 Z Z Z Z λr h=>Cz [] h (k_ii _ _) Z λg e h=>Go 10 Z (Cn Z h (λ_ h=>?_) (λ_ h=>?_))
 .refine Gc 9 Z ?_;obtain rfl:=Oi h;refine R2 2 3 Z Z ?_;exact En (Ep (s:=2) (XO Z) Z) (Lr [1])
 refine Gc 5 Z (Cd [] h (k_k _ _) Z λi f h=>Fg 5 Z Z ?_);obtain rfl:=Oi h;exact R2 2 3 Z Z (Lr [1])
def F_bt(a:Fact):Option ((List Int)×Int):=(F_az n a).bind λe=>(bif (e != 0)then some ([],120)else(F_cf n a).bind λf=>(F_ew n f).bind λg=>(F_hz n ({Kind:=3,N:=0,S:=[],L:=g:Value})).bind λd=>some (d.1,d.2))
theorem k_bt(a:Fact):Kq (F_bt n a) 188 [.agg (Fact.c a)] [] (λr=>.tup [.osl 0 0 r.1.length 1,I r.2]) (λr=>[.row 5 1 (map (Qe .u8) r.1)]):=by
 refine Kg 11 func188 Z Z Z Z λr h=>Cz [] h (k_az _ _) Z λj e h=>Go 3 Z (Cn Z h (λ_ h=>?_) (λ_ h=>?_))
 .refine Gc 8 Z ?_;obtain rfl:=Oi h;refine R2 2 3 Z Z ?_;exact En (Ep (s:=2) (XO Z) Z) (Lr [1])
 refine Gc 5 Z (Cd [] h (k_cf _ _) Z λk f h=>FE Z (QG (Jm [(8,_)] Z Z (Qpf.cons Z Eo Qpf.nil) (Ec (Ec (YD _)))) ?_));refine Cd [] h (k_ew _ _) Z λl g h=>FE Z (QG (Jm [(9,_)] Z Z (Qpf.cons Z (FzA.agg (Ed (Ee _) (Ed (Ee _) (Ed (Ee _) (Ed Eo (Ej _)))))) Qpf.nil) (Ec (Ec (Ec (FzH.cells (Ed (Ee _) (Ed (Ee _) (Ed (Ee _) (Ed Eo (Ej _))))) (YD _)))))) ?_);refine Cd [] h (k_hz _ _) Z λm i h=>Fg 7 Z Z ?_;obtain rfl:=Oi h;exact R2 2 3 Z Z (Lr [4])
def F_fk(n:Nat)(d:Fact)(e:Fact)(a:Int):Option (Ctl Int (Ctl Unit Int)):=(bif decide (a<3)then(idx [d.At,d.Crew,d.No] a).bind λf=>(idx [e.At,e.Crew,e.No] a).bind λg=>(bif decide (f<g)then some (.done (.done (-1)))else(idx [d.At,d.Crew,d.No] a).bind λh=>(idx [e.At,e.Crew,e.No] a).bind λi=>(bif decide (i<h)then some (.done (.done 1))else some (.cont (i64.wrap (a+1)))))else some (.done (.cont ())))
def F_dm(f:Fact)(g:Fact):Option Int:=(iter (F_fk n f g) n 0:Option (Ctl Unit Int)).bind λh=>match h with|.cont a=>((F_bt n f).bind λd=>(F_bt n g).bind λe=>(bif Op.bytesLess (map Yh d.1) (map Yh e.1)then some (-1)else(bif (!(Op.bytesLess (map Yh d.1) (map Yh e.1)||(map Yh d.1)==(map Yh e.1)))then some 1 else some 0)))|.done a=>some a
theorem k_dm(j:Fact)(k:Fact):Ks (F_dm n j k) 131 [.agg (Fact.c j),.agg (Fact.c k)] [] (λr=>I r):=by
 refine Kg 15 func131 Z Z Z Z λr h=>vH (Ek (xs:=[.tmp 13,.tmp 15,.tmp 17]) (es:=map (Qe .i64) [j.At,j.Crew,j.No]) Qu Z Z Z Z Z ⟨Z,Z,Z,trivial⟩ Z Z) ?_;refine Fg 11 Z Z (vH (Ek (xs:=[.tmp 20,.tmp 22,.tmp 24]) (es:=map (Qe .i64) [k.At,k.Crew,k.No]) Qu Z Z Z Z Z ⟨Z,Z,Z,trivial⟩ Z Z) ?_);refine Fg 9 Z Z (Bd h λB E h=>CgE (b:=B) [0,1] [2,3] Ze Ze Zf ?_ (λ_ F=>?_))
 .refine G0 1 Z (Lp [0,1,2,3] [2,3,5,6] (λd=>[(7,I d)]) Ze E Zf (Lr [0,1,2,3]) λd P a e=>?_);refine G0 7 Z (Q8 Z a (λ_ a=>?_) (λ_ a=>?_))
  .exact Gc 2 Z (Ql a (Gx 1 Z (JN e a Z (Lr [0,1]))))
  refine Gc 6 Z (DSs 8 Z (D 2 Z ?_));obtain⟨G,m,a⟩:=YM a;refine DS.v (x:=(.ptr 2 (toNat d*1))) (Qv m Z EA EE) ?_;refine DS.v (x:=(I G)) (Ey Z EF Z (Qi m)) ?_;refine D 2 Z ?_;obtain⟨H,p,a⟩:=YM a;refine DS.v (x:=(.ptr 3 (toNat d*1))) (Qv p Z EA EE) ?_;refine DS.v (x:=(I H)) (Ey Z EF Z (Qi p)) ?_;refine Eg Z (Go 3 Z (Cn Z a (λ_ a=>?_) (λ_ a=>?_)))
  .refine Gc 9 Z (Qx a ?_);obtain rfl:=Oj e a;exact Gx 1 Z (Qt (Gx 1 Z (Rt h 4 [])))
  refine Gc 3 Z (DSs 8 Z (D 2 Z ?_));obtain⟨J,q,a⟩:=YM a;refine DS.v (x:=(.ptr 2 (toNat d*1))) (Qv q Z EA EE) ?_;refine DS.v (x:=(I J)) (Ey Z EF Z (Qi q)) ?_;refine D 2 Z ?_;obtain⟨L,s,a⟩:=YM a;refine DS.v (x:=(.ptr 3 (toNat d*1))) (Qv s Z EA EE) ?_;refine DS.v (x:=(I L)) (Ey Z EF Z (Qi s)) ?_;refine Eg Z (Go 3 Z (Cn Z a (λ_ a=>?_) (λ_ a=>?_)))
  .refine Gc 8 Z (Qx a ?_);obtain rfl:=Oj e a;exact Gx 1 Z (Qt (Gx 1 Z (Rt h 4 [])))
  exact Gc 8 Z (Qj a (Lr [0,1,2,3]))
 subst F;refine Gc 3 Z (Cd [] h (k_bt _ _) Z λf N h=>Fg 10 Z Z (Cd [] h (k_bt _ _) Z λg O h=>Fg 11 Z Z ?_));refine vX (.str (map Yh f.1)) (Qct (l:=f.1) (Qk9.row (i:=2)) EH E0 ED) ?_;refine Go 1 Z ?_;refine vX (.str (map Yh g.1)) (Qct (l:=g.1) (Qk9.row (i:=3)) EH E0 ED) ?_;refine Go 3 Z (Cn Z h (λ_ h=>?_) (λ_ h=>?_))
 .exact QI 7 Z h 4 []
 refine Gc 6 Z ?_;refine vX (.str (map Yh f.1)) (Qct (l:=f.1) (Qk9.row (i:=2)) EH E0 ED) ?_;refine Go 1 Z ?_;refine vX (.str (map Yh g.1)) (Qct (l:=g.1) (Qk9.row (i:=3)) EH E0 ED) ?_;refine vV (Qnn Z Z Z) ?_;refine Go 2 Z (Cn Z h (λ_ h=>?_) (λ_ h=>?_))
 .exact QI 7 Z h 4 []
 exact QI 8 Z h 4 []
def F_dp(i:List Fact)(d:(List Fact)×Int)(a:Int):Option (Ctl Int Int):=((bif decide (a<(d.1.length:Int))then(idx d.1 a).bind λe=>(idx i d.2).bind λf=>(F_dm n e f).bind λg=>some (decide (g<0))else some false):Option Bool).bind λh=>(bif h then some (.cont (i64.wrap (a+1)))else some (.done a))
def F_kn(e:List Fact)(a:(List Fact)×Int):Option (Ctl ((List Fact)×Int) (List Fact)):=(bif decide (a.2<(e.length:Int))then((idx e a.2).bind λf=>(F_az n f).bind λg=>(bif (g != 0)then some a.1 else(iter (F_dp n e a) n 0:Option Int).bind λd=>((bif decide (d<(a.1.length:Int))then(idx a.1 d).bind λh=>(idx e a.2).bind λi=>some (h==i)else some false):Option Bool).bind λj=>(bif j then some a.1 else(slc a.1 0 d).bind λk=>(app ([]:List Fact) k).bind λl=>(idx e a.2).bind λm=>(app l [m]).bind λp=>(slc a.1 d (a.1.length:Int)).bind λq=>(app p q).bind λr=>some r)):Option (List Fact)).bind λs=>some (.cont (s,i64.wrap (a.2+1)))else some (.done a.1))
def F_ar(d:List Fact):Option (List Fact):=(iter (F_kn n d) n (([]:List Fact),0):Option (List Fact)).bind λa=>some a
theorem k_ar(R:List Fact):Kq (F_ar n R) 55 [.rsl 57 (map Fact.c R)] [] (λr=>.osl 0 0 r.length 57) (λr=>[.row 72 57 (map Fact.c r)]):=by
 refine Kg 7 func55 Z Z Z Z λr h=>vH (Ek (xs:=[]) (es:=map Fact.c []) Y9 Z Z Z Z Z trivial Z Z) ?_;refine Fg 9 Z Z (Bd h λw ak h=>Cg w [0] [] (λw=>[(3,.osl 0 0 w.length 57)]) (λw=>[(0,.row 72 57 (map Fact.c w))]) Zf ?_ ?_)
 .refine G0 1 Z (Lp [0] [0] (λi=>[(3,.osl 0 0 i.1.length 57),(4,I i.2)]) (λi=>[(0,.row 72 57 (map Fact.c i.1))]) ak Zf (Lr [0]) λi aq s T=>?_);refine G0 5 Z (Lg 3 Z Z (Q8 Z s (λ_ s=>?_) (λ_ s=>?_)))
  .exact Gc 2 Z (Ql s (Gx 1 Z (cQo T s (Lr [0]))))
  refine Gc 3 Z (Bd s λy g s=>Cg y [0] [0,4] (λy=>[(3,.osl 0 0 y.length 57)]) (λy=>[(0,.row 72 57 (map Fact.c y))]) Zf ?_ ?_)
  .refine G0 6 Z (Bd g λar W g=>Iz W Z (Go 1 Z (Cz [] g (k_az _ _) Z λau an g=>Go 3 Z (Cn Z g (λ_ g=>?_) (λ_ g=>?_)))))
   .exact YC 3 Z g [0]
   refine Gc 8 Z (Bd g λj al g=>Ct j [0] [0,3,4] (λj=>[(5,I j)]) Ze Zf ?_ (λenv H O=>?_))
   .refine G0 1 Z (Lp [0] [0,3,4] (λF=>[(5,I F)]) Ze al Zf (Lr [0]) λF av t Y=>?_);refine G0 2 Z (Bd t λG k t=>Ct G [0] [0,3,4,5] (λG=>[(34,.bool G)]) Ze Zf ?_ (λenv H O=>?_))
    .refine G0 0 Z (DSs 13 Z (D 5 Z (QeG 4 k Z Z Z (λ_ k=>?_) (λ_ k=>?_))))
     .refine D 2 Z ?_;obtain⟨am,M,k⟩:=YM k;refine DS.v (x:=(.ptr 0 (toNat F*57))) (Qv M Z EB EC) ?_ (hg:=(gT Z));refine DS.v (x:=(.agg (Fact.c am))) (Qs Z EP EC Z (Qi M) Z Z) ?_ (hg:=(gT Z));refine D 2 Z ?_;obtain⟨f,ab,k⟩:=YM k;refine DS.v (x:=(.rp [I f.Crew,I f.No,I f.At,I f.Kind,I f.Starter.Bib,I f.Starter.Distance,I f.Starter.Wave,I f.Starter.Slot,I f.Starter.Age,I f.Starter.Chip,I f.Starter.Team,I f.Starter.Lot,I f.Read.Mat,I f.Read.Epoch,I f.Read.Chip,I f.Read.Local,I f.Beacon.Mat,I f.Beacon.Epoch,I f.Beacon.Local,I f.Beacon.True,I f.Beacon.Err,I f.Sync.MatA,I f.Sync.EpochA,I f.Sync.LocalA,I f.Sync.MatB,I f.Sync.EpochB,I f.Sync.LocalB,I f.Sync.Min,I f.Sync.Max,I f.Hand.Bib,I f.Hand.Position,I f.Hand.Lo,I f.Hand.Hi,I f.Silence.Mat,I f.Silence.Epoch,I f.Silence.Lo,I f.Silence.Hi,I f.Pair.A,I f.Pair.B,I f.Report.Case,I f.Report.Bib,I f.Report.Offence,I f.Report.Position,I f.Protest.Case,I f.Protest.By,I f.Protest.Fee,I f.Protest.Form,I f.Ruling.Case,I f.Ruling.Instance,I f.Ruling.Kind,I f.Ruling.Bib,I f.Ruling.Position,I f.Ruling.Amount,I f.Appeal.Case,.bool f.Appeal.Suspends,I f.Void.Crew,I f.Void.No])) (Qcs (e:=Fact.c) (l:=R) (v:=f) ab EB EC) ?_ (hg:=(gT Z));exact D 1 Z (Eg Z (Cz [] k (k_dm _ _ _) Z λaw ao k=>Gl 3 Z k [0]))
     .exact D 8 Z (Eg Z (Gl 4 Z k [0]))
    refine Gx 1 Z (Qf O (Q8 Z t (λ_ t=>?_) (λ_ t=>?_)))
    .exact Gc 2 Z (Ql t (Gx 1 Z (cQo Y t (Lr [0]))))
    exact Gc 9 Z (Qj t (Lr [0]))
   refine Gx 1 Z (Qf O (Gc 2 Z (Bd g λJ m g=>Cg J [0] [0,3,4,5] (λJ=>[(51,.bool J)]) Ze Zf ?_ ?_)))
   .refine G0 0 Z (DSs 13 Z (D 5 Z (QeG 4 m Z Z Z (λ_ m=>?_) (λ_ m=>?_))))
    .refine D 2 Z ?_;obtain⟨L,N,m⟩:=YM m;refine DS.v (x:=(.ptr 0 (toNat j*57))) (Qv N Z EB EC) ?_ (hg:=(gT Z));refine DS.v (x:=(.agg (Fact.c L))) (Qs Z EP EC Z (Qi N) Z Z) ?_ (hg:=(gT Z));refine D 2 Z ?_;obtain⟨d,af,m⟩:=YM m;refine DS.v (x:=(.rp [I d.Crew,I d.No,I d.At,I d.Kind,I d.Starter.Bib,I d.Starter.Distance,I d.Starter.Wave,I d.Starter.Slot,I d.Starter.Age,I d.Starter.Chip,I d.Starter.Team,I d.Starter.Lot,I d.Read.Mat,I d.Read.Epoch,I d.Read.Chip,I d.Read.Local,I d.Beacon.Mat,I d.Beacon.Epoch,I d.Beacon.Local,I d.Beacon.True,I d.Beacon.Err,I d.Sync.MatA,I d.Sync.EpochA,I d.Sync.LocalA,I d.Sync.MatB,I d.Sync.EpochB,I d.Sync.LocalB,I d.Sync.Min,I d.Sync.Max,I d.Hand.Bib,I d.Hand.Position,I d.Hand.Lo,I d.Hand.Hi,I d.Silence.Mat,I d.Silence.Epoch,I d.Silence.Lo,I d.Silence.Hi,I d.Pair.A,I d.Pair.B,I d.Report.Case,I d.Report.Bib,I d.Report.Offence,I d.Report.Position,I d.Protest.Case,I d.Protest.By,I d.Protest.Fee,I d.Protest.Form,I d.Ruling.Case,I d.Ruling.Instance,I d.Ruling.Kind,I d.Ruling.Bib,I d.Ruling.Position,I d.Ruling.Amount,I d.Appeal.Case,.bool d.Appeal.Suspends,I d.Void.Crew,I d.Void.No])) (Qcs (e:=Fact.c) (l:=R) (v:=d) af EB EC) ?_ (hg:=(gT Z));refine D 1 Z (Eg Z ?_);refine vX (.bool (L==d)) (Qhv (p:=L) (q:=d) QkX Z Z) ?_ (gT Z);exact Gl 2 Z m [0]
    .exact D 8 Z (Eg Z (Gl 3 Z m [0]))
   refine Cn Z g (λ_ g=>?_) (λ_ g=>?_)
   .exact YC 3 Z g [0]
   refine Gc 2 Z (DKs 14 [0,4,10] [(1,0,0),(0,0,1),(0,0,1),(0,0,1),(1,1,0),(0,0,2),(0,0,2),(0,0,2),(0,0,2),(0,0,2),(1,2,0),(0,0,3),(0,0,3),(0,0,3)] (by kernel_rfl) ?_);refine DK.op (x:=.osl 1 0 (([]:List Fact).length) 57) (X1:=[.row 72 57 (map Fact.c i.1),.row 72 57 (map Fact.c ([]:List Fact))]) ?_ ?_
   .refine vH (Ek (xs:=[]) (es:=map Fact.c []) Y9 Z Z Z Z Z trivial Z Z) ?_;exact FE Z Wp
   refine Dk 2 Z ?_;obtain⟨ax,z,g⟩:=YM g;refine Qkg (lo:=0) (hi:=1) (x:=.osl 0 (0+toNat 0) (toNat j-toNat 0) 57) ⟨?_,?_,trivial⟩ ?_
   iterate 2 refine vX (.osl 0 (0+toNat 0) (toNat j-toNat 0) 57) (Jr (l:=i.1) z EB EC (.inl ⟨Z,Z⟩) (.inr ⟨_,Z,Z⟩)) ?_;exact Wp
   obtain⟨P,ah,g⟩:=YM g;refine DK.op (x:=.osl 2 0 P.length 57) (X1:=[.row 72 57 (map Fact.c i.1),.dead,.row 72 57 (map Fact.c P)]) ?_ ?_
   .refine vH (Qk (e:=Fact.c) ah Y9 EB (Qis (b:=0) z)) ?_;exact FE Z Wp
   refine Dk 2 Z ?_;obtain⟨a,E,g⟩:=YM g;refine Qkg (lo:=0) (hi:=2) (x:=.rp [I a.Crew,I a.No,I a.At,I a.Kind,I a.Starter.Bib,I a.Starter.Distance,I a.Starter.Wave,I a.Starter.Slot,I a.Starter.Age,I a.Starter.Chip,I a.Starter.Team,I a.Starter.Lot,I a.Read.Mat,I a.Read.Epoch,I a.Read.Chip,I a.Read.Local,I a.Beacon.Mat,I a.Beacon.Epoch,I a.Beacon.Local,I a.Beacon.True,I a.Beacon.Err,I a.Sync.MatA,I a.Sync.EpochA,I a.Sync.LocalA,I a.Sync.MatB,I a.Sync.EpochB,I a.Sync.LocalB,I a.Sync.Min,I a.Sync.Max,I a.Hand.Bib,I a.Hand.Position,I a.Hand.Lo,I a.Hand.Hi,I a.Silence.Mat,I a.Silence.Epoch,I a.Silence.Lo,I a.Silence.Hi,I a.Pair.A,I a.Pair.B,I a.Report.Case,I a.Report.Bib,I a.Report.Offence,I a.Report.Position,I a.Protest.Case,I a.Protest.By,I a.Protest.Fee,I a.Protest.Form,I a.Ruling.Case,I a.Ruling.Instance,I a.Ruling.Kind,I a.Ruling.Bib,I a.Ruling.Position,I a.Ruling.Amount,I a.Appeal.Case,.bool a.Appeal.Suspends,I a.Void.Crew,I a.Void.No]) ⟨?_,?_,?_,trivial⟩ ?_
   iterate 3 exact Ix E EB EC Z Wp
   refine Dk 1 Z ?_;refine Qkg (lo:=0) (hi:=2) (x:=.rsl 57 (map Fact.c [a])) ⟨?_,?_,?_,trivial⟩ ?_
   iterate 3 refine vH (YB (xs:=[.tmp 60]) (es:=map Fact.c [a]) Y9 Z Z Z Z Z ⟨Z,trivial⟩ Z Z) ?_;exact FE Z Wp
   obtain⟨Q,ai,g⟩:=YM g;refine DK.op (x:=.osl 3 0 Q.length 57) (X1:=[.row 72 57 (map Fact.c i.1),.dead,.dead,.row 72 57 (map Fact.c Q)]) ?_ ?_
   .refine vH (Qk (e:=Fact.c) ai Y9 EB JY) ?_;exact FE Z Wp
   refine Dk 2 Z ?_;obtain⟨ay,u,g⟩:=YM g;refine Qkg (lo:=0) (hi:=3) (x:=.osl 0 (0+toNat j) (toNat (i.1.length:Int)-toNat j) 57) ⟨?_,?_,?_,?_,trivial⟩ ?_
   iterate 4 refine vX (.osl 0 (0+toNat j) (toNat (i.1.length:Int)-toNat j) 57) (Jr (l:=i.1) u EB EC (.inr ⟨_,Z,Z⟩) (.inl ⟨Z,Z⟩)) ?_;exact Wp
   refine DK.done Z Z (Bd g λaz aj g=>?_);refine vH (Qk (e:=Fact.c) aj Y9 EB (Qis (b:=0) u)) ?_;exact FE Z (Gl 3 Z g [4])
  exact Gc 5 Z (Qj s (Lr [0]))
 exact QI 7 Z h 2 [0]
def F_ne(n:Nat)(d:(List Int)×Int)(e:Fact)(f:Fact)(a:Int):Option (Ctl Int Int):=((bif decide (a<(d.1.length:Int))then(idx d.1 a).bind λg=>some (decide (g<(i64.wrap (e.Ruling.Case+f.Report.Case))))else some false):Option Bool).bind λh=>(bif h then some (.cont (i64.wrap (a+1)))else some (.done a))
def F_kj(g:List Fact)(r:Int)(a:(List Int)×Int):Option (Ctl ((List Int)×Int) (List Int)):=(bif decide (a.2<(g.length:Int))then((idx g a.2).bind λh=>(bif (h.Kind != r)then some a.1 else(idx g a.2).bind λe=>(idx g a.2).bind λf=>(iter (F_ne n a e f) n 0:Option Int).bind λd=>((bif decide (d<(a.1.length:Int))then(idx a.1 d).bind λi=>some (i==(i64.wrap (e.Ruling.Case+f.Report.Case)))else some false):Option Bool).bind λj=>(bif j then some a.1 else(slc a.1 d (a.1.length:Int)).bind λk=>(app [i64.wrap (e.Ruling.Case+f.Report.Case)] k).bind λl=>(slc a.1 0 d).bind λm=>(app m l).bind λp=>some p)):Option (List Int)).bind λq=>some (.cont (q,i64.wrap (a.2+1)))else some (.done a.1))
def F_ba(d:List Fact)(e:Int):Option (List Int):=(iter (F_kj n d e) n (([]:List Int),0):Option (List Int)).bind λa=>some a
theorem k_ba(a1:List Fact)(a2:Int):Kq (F_ba n a1 a2) 56 [.rsl 57 (map Fact.c a1),I a2] [] (λr=>.osl 0 0 r.length 1) (λr=>[.row 3 1 (map (Qe .i64) r)]):=by
 refine Kg 7 func56 Z Z Z Z λr h=>vH (Ek (xs:=[]) (es:=map (Qe .i64) []) Qu Z Z Z Z Z trivial Z Z) ?_;refine Fg 9 Z Z (Bd h λs ab h=>Cg s [0] [] (λs=>[(5,.osl 0 0 s.length 1)]) (λs=>[(0,.row 3 1 (map (Qe .i64) s))]) Zf ?_ ?_)
 .refine G0 1 Z (Lp [0] [0,1] (λg=>[(5,.osl 0 0 g.1.length 1),(6,I g.2)]) (λg=>[(0,.row 3 1 (map (Qe .i64) g.1))]) ab Zf (Lr [0]) λg ag j L=>?_);refine G0 5 Z (Lg 3 Z Z (Q8 Z j (λ_ j=>?_) (λ_ j=>?_)))
  .exact Gc 2 Z (Ql j (Gx 1 Z (cQo L j (Lr [0]))))
  refine Gc 3 Z (Bd j λt f j=>Cg t [0] [0,1,6] (λt=>[(5,.osl 0 0 t.length 1)]) (λt=>[(0,.row 3 1 (map (Qe .i64) t))]) Zf ?_ ?_)
  .refine G0 6 Z (Bd f λah N f=>Iz N Z (Go 6 Z (Cn Z f (λ_ f=>?_) (λ_ f=>?_))))
   .exact YC 3 Z f [0]
   refine Gc 3 Z (DSs 12 Z (D 2 Z ?_));obtain⟨a,P,f⟩:=YM f;refine DS.wo (x:=.rp [I a.Crew,I a.No,I a.At,I a.Kind,I a.Starter.Bib,I a.Starter.Distance,I a.Starter.Wave,I a.Starter.Slot,I a.Starter.Age,I a.Starter.Chip,I a.Starter.Team,I a.Starter.Lot,I a.Read.Mat,I a.Read.Epoch,I a.Read.Chip,I a.Read.Local,I a.Beacon.Mat,I a.Beacon.Epoch,I a.Beacon.Local,I a.Beacon.True,I a.Beacon.Err,I a.Sync.MatA,I a.Sync.EpochA,I a.Sync.LocalA,I a.Sync.MatB,I a.Sync.EpochB,I a.Sync.LocalB,I a.Sync.Min,I a.Sync.Max,I a.Hand.Bib,I a.Hand.Position,I a.Hand.Lo,I a.Hand.Hi,I a.Silence.Mat,I a.Silence.Epoch,I a.Silence.Lo,I a.Silence.Hi,I a.Pair.A,I a.Pair.B,I a.Report.Case,I a.Report.Bib,I a.Report.Offence,I a.Report.Position,I a.Protest.Case,I a.Protest.By,I a.Protest.Fee,I a.Protest.Form,I a.Ruling.Case,I a.Ruling.Instance,I a.Ruling.Kind,I a.Ruling.Bib,I a.Ruling.Position,I a.Ruling.Amount,I a.Appeal.Case,.bool a.Appeal.Suspends,I a.Void.Crew,I a.Void.No]) ?_ ?_
   .exact Ix P EB EC Z Wp
   refine D 5 Z ?_;obtain⟨d,Q,f⟩:=YM f;refine DS.wo (x:=.rp [I d.Crew,I d.No,I d.At,I d.Kind,I d.Starter.Bib,I d.Starter.Distance,I d.Starter.Wave,I d.Starter.Slot,I d.Starter.Age,I d.Starter.Chip,I d.Starter.Team,I d.Starter.Lot,I d.Read.Mat,I d.Read.Epoch,I d.Read.Chip,I d.Read.Local,I d.Beacon.Mat,I d.Beacon.Epoch,I d.Beacon.Local,I d.Beacon.True,I d.Beacon.Err,I d.Sync.MatA,I d.Sync.EpochA,I d.Sync.LocalA,I d.Sync.MatB,I d.Sync.EpochB,I d.Sync.LocalB,I d.Sync.Min,I d.Sync.Max,I d.Hand.Bib,I d.Hand.Position,I d.Hand.Lo,I d.Hand.Hi,I d.Silence.Mat,I d.Silence.Epoch,I d.Silence.Lo,I d.Silence.Hi,I d.Pair.A,I d.Pair.B,I d.Report.Case,I d.Report.Bib,I d.Report.Offence,I d.Report.Position,I d.Protest.Case,I d.Protest.By,I d.Protest.Fee,I d.Protest.Form,I d.Ruling.Case,I d.Ruling.Instance,I d.Ruling.Kind,I d.Ruling.Bib,I d.Ruling.Position,I d.Ruling.Amount,I d.Appeal.Case,.bool d.Appeal.Suspends,I d.Void.Crew,I d.Void.No]) ?_ ?_
   .exact Ix Q EB EC Z Wp
   refine D 3 Z (Eg Z (Go 10 Z (Bd f λm ac f=>?_)));refine Ct m [0] [0,1,5,6,7] (λm=>[(8,I m)]) Ze Zf ?_ (λenv H J=>?_)
   .refine G0 1 Z (Lp [0] [0,1,5,6,7] (λu=>[(8,I u)]) Ze ac Zf (Lr [0]) λu ai k R=>?_);refine G0 2 Z (Bd k λw p k=>Ct w [0] [0,1,5,6,7,8] (λw=>[(48,.bool w)]) Ze Zf ?_ (λenv H J=>?_))
    .refine G0 6 Z (Is 41 p Z (λ_ p=>?_) (λ_ p=>?_))
     .refine Go 2 Z (Bd p λae z p=>?_);refine vX (.ptr 0 (toNat u*1)) (Qv z Z EA EE) ?_ (gT Z);refine vX (I ae) (Ey Z EF Z (Qi z)) ?_ (gT Z);exact Gl 4 Z p [0]
     .exact Gl 8 Z p [0]
    refine Gx 1 Z (Qf J (Q8 Z k (λ_ k=>?_) (λ_ k=>?_)))
    .exact Gc 2 Z (Ql k (Gx 1 Z (cQo R k (Lr [0]))))
    exact Gc 9 Z (Qj k (Lr [0]))
   refine Gx 1 Z (Qf J (Gc 2 Z (Bd f λy q f=>Cg y [0] [0,1,5,6,7,8] (λy=>[(62,.bool y)]) Ze Zf ?_ ?_)))
   .refine G0 6 Z (Is 55 q Z (λ_ q=>?_) (λ_ q=>?_))
    .refine Go 2 Z (Bd q λaf E q=>?_);refine vX (.ptr 0 (toNat m*1)) (Qv E Z EA EE) ?_ (gT Z);refine vX (I af) (Ey Z EF Z (Qi E)) ?_ (gT Z);exact Gl 4 Z q [0]
    .exact Gl 8 Z q [0]
   refine Cn Z f (λ_ f=>?_) (λ_ f=>?_)
   .exact YC 3 Z f [0]
   refine Gc 5 Z (vH (Ek (xs:=[.tmp 63]) (es:=map (Qe .i64) [i64.wrap (a.Ruling.Case+d.Report.Case)]) Qu Z Z Z Z Z ⟨Z,trivial⟩ Z Z) ?_);refine Fg 2 Z Z (Bd f λaj F f=>?_);refine vX (.osl 0 (0+toNat m) (toNat (g.1.length:Int)-toNat m) 1) (Jr (l:=g.1) F EA EE (.inr ⟨_,Z,Z⟩) (.inl ⟨Z,Z⟩)) ?_;refine Bd f λak Y f=>vH (Qk (e:=(Qe .i64)) Y Qu EA (Qis (b:=0) F)) ?_;refine Fg 7 Z Z (Bd f λal G f=>?_);refine vX (.osl 0 (0+toNat 0) (toNat m-toNat 0) 1) (Qj6 (l:=g.1) G EA EE) ?_;refine Go 1 Z (Bd f λam aa f=>vH (Qj7 (e:=(Qe .i64)) G aa Qu EA (QH (i:=2))) ?_);exact FE Z (Gl 3 Z f [3])
  exact Gc 5 Z (Qj j (Lr [0]))
 exact QI 7 Z h 4 [0]
def F_gs(n:Nat)(e:List Fact)(l:List Int)(d:(List Report)×Int)(a:Int):Option (Ctl Int (List Report)):=(bif decide (a<(e.length:Int))then((idx e a).bind λf=>(bif (f.Kind==8)then(idx e a).bind λg=>(idx l d.2).bind λh=>some (g.Report.Case==h)else some false):Option Bool).bind λi=>(bif i then(idx e a).bind λj=>(app d.1 [j.Report]).bind λk=>some (.done k)else some (.cont (i64.wrap (a+1))))else some (.done d.1))
def F_kz(f:List Fact)(e:List Int)(a:(List Report)×Int):Option (Ctl ((List Report)×Int) (List Report)):=(bif decide (a.2<(e.length:Int))then(iter (F_gs n f e a) n 0:Option (List Report)).bind λd=>some (.cont (d,i64.wrap (a.2+1)))else some (.done a.1))
def F_bf(e:List Fact):Option (List Report):=(F_ar n e).bind λd=>(F_ba n d 8).bind λf=>(iter (F_kz n d f) n (([]:List Report),0):Option (List Report)).bind λa=>some a
theorem k_bf(T:List Fact):Kq (F_bf n T) 21 [.rsl 57 (map Fact.c T)] [] (λr=>.osl 0 0 r.length 4) (λr=>[.row 62 4 (map Report.c r)]):=by
 refine Kg 8 func21 Z Z Z Z λr h=>Cd [] h (k_ar _ _) Z λV aa h=>Fg 6 Z Z ?_;refine QG (Jm [(3,_),(9,_),(10,_)] Z Z (Qpf.cons Z Eo (Qpf.cons Z Eo (Qpf.cons Z Eo Qpf.nil))) (Ec (YD _))) ?_;refine Cd [] h (k_ba _ _ _) Z λr2 ab h=>Fg 5 Z Z (vH (Ek (xs:=[]) (es:=map Report.c []) QjO Z Z Z Z Z trivial Z Z) ?_);refine Fg 9 Z Z (Bd h λk N h=>Cg k [1] [] (λk=>[(5,.osl 0 0 k.length 4)]) (λk=>[(0,.row 62 4 (map Report.c k))]) Zf ?_ ?_)
 .refine G0 1 Z (Lp [1,2] [3,4] (λj=>[(5,.osl 1 0 j.1.length 4),(6,I j.2)]) (λj=>[(1,.row 62 4 (map Report.c j.1))]) N Zf (Lr [1,2]) λj W g w=>?_);refine G0 9 Z (Q8 Z g (λ_ g=>?_) (λ_ g=>?_))
  .exact Gc 2 Z (Ql g (Gx 1 Z (cQo w g (Lr [1]))))
  refine Gc 9 Z (Bd g λm O g=>Ct m [0,1] [3,4,6] (λm=>[(5,.osl 1 0 m.length 4)]) (λm=>[(1,.row 62 4 (map Report.c m))]) Zf ?_ (λenv H t=>?_))
  .refine G0 1 Z (Lp [0,1] [3,4,5,6] (λu=>[(7,I u)]) Ze O Zf (Lr [0,1]) λu X d q=>?_);refine G0 5 Z (Lg 3 Z Z (Q8 Z d (λ_ d=>?_) (λ_ d=>?_)))
   .exact Gc 2 Z (Ql d (Gx 1 Z (cQo q d (Lr [0,1]))))
   refine Gc 5 Z (Bd d λp f d=>Ct p [0,1] [3,4,5,6,7] (λp=>[(43,.bool p)]) Ze Zf ?_ (λenv H t=>?_))
   .refine G0 0 Z (DSs 17 Z (D 2 Z ?_));obtain⟨a,E,f⟩:=YM f;refine DS.wo (x:=.rp [I a.Crew,I a.No,I a.At,I a.Kind,I a.Starter.Bib,I a.Starter.Distance,I a.Starter.Wave,I a.Starter.Slot,I a.Starter.Age,I a.Starter.Chip,I a.Starter.Team,I a.Starter.Lot,I a.Read.Mat,I a.Read.Epoch,I a.Read.Chip,I a.Read.Local,I a.Beacon.Mat,I a.Beacon.Epoch,I a.Beacon.Local,I a.Beacon.True,I a.Beacon.Err,I a.Sync.MatA,I a.Sync.EpochA,I a.Sync.LocalA,I a.Sync.MatB,I a.Sync.EpochB,I a.Sync.LocalB,I a.Sync.Min,I a.Sync.Max,I a.Hand.Bib,I a.Hand.Position,I a.Hand.Lo,I a.Hand.Hi,I a.Silence.Mat,I a.Silence.Epoch,I a.Silence.Lo,I a.Silence.Hi,I a.Pair.A,I a.Pair.B,I a.Report.Case,I a.Report.Bib,I a.Report.Offence,I a.Report.Position,I a.Protest.Case,I a.Protest.By,I a.Protest.Fee,I a.Protest.Form,I a.Ruling.Case,I a.Ruling.Instance,I a.Ruling.Kind,I a.Ruling.Bib,I a.Ruling.Position,I a.Ruling.Amount,I a.Appeal.Case,.bool a.Appeal.Suspends,I a.Void.Crew,I a.Void.No]) ?_ ?_
    .exact Ix E EB EC Z Wp
    refine D 4 Z (QeG 6 f Z Z Z (λ_ f=>?_) (λ_ f=>?_))
    .refine D 2 Z ?_;obtain⟨P,G,f⟩:=YM f;refine DS.v (Qcs (e:=Fact.c) (l:=V) (v:=P) G EB EC) ?_ (hg:=(gT Z));refine D 5 Z ?_;obtain⟨Q,s,f⟩:=YM f;refine DS.v (x:=(.ptr 0 (toNat j.2*1))) (Qv s Z EA EE) ?_ (hg:=(gT Z));refine DS.v (x:=(I Q)) (Ey Z EF Z (Qi s)) ?_ (hg:=(gT Z));exact Eg Z (Gl 3 Z f [0,1])
    .exact D 10 Z (Eg Z (Gl 3 Z f [0,1]))
   refine Gx 1 Z (Qf t (Cn Z d (λ_ d=>?_) (λ_ d=>?_)))
   .refine Gc 5 Z (Bd d λR L d=>Iz L Z (Go 2 Z (vH (Ek (xs:=[.tmp 49]) (es:=map Report.c [R.Report]) QjO Z Z Z Z Z ⟨Z,trivial⟩ Z Z) ?_)));refine FE Z (Bd d λY M d=>vH (Qk (e:=Report.c) M QjO EQ (QH (i:=2))) ?_);refine Fg 6 Z Z (Ql d ?_);obtain rfl:=Oj q d;exact Gx 1 Z (JM (Lr [0,3]))
   exact Gc 8 Z (Qj d (Lr [0,1]))
  exact Gx 2 Z (Qf t (Gc 5 Z (Qj g (Lr [0,1]))))
 exact QI 7 Z h 2 [0]
def F_nb(n:Nat)(d:List Int)(g:Int)(a:Int):Option (Ctl Int Int):=((bif decide (a<(d.length:Int))then(idx d a).bind λe=>some (decide (e<g))else some false):Option Bool).bind λf=>(bif f then some (.cont (i64.wrap (a+1)))else some (.done a))
def F_ay(a:List Int)(e:Int):Option (List Int):=(iter (F_nb n a e) n 0:Option Int).bind λd=>((bif decide (d<(a.length:Int))then(idx a d).bind λf=>some (f==e)else some false):Option Bool).bind λg=>(bif g then some a else(slc a d (a.length:Int)).bind λh=>(app [e] h).bind λi=>(slc a 0 d).bind λj=>(app j i).bind λk=>some k)
theorem k_ay(g:List Int)(L:Int):Kq (F_ay n g L) 22 [.osl 0 0 g.length 1,I L] [.row 3 1 (map (Qe .i64) g)] (λr=>.osl 1 0 r.length 1) (λr=>[.dead,.row 3 1 (map (Qe .i64) r)]):=by
 refine Kg 11 func22 Z Z Z Z λr h=>Bd h λj M h=>Ct j [0] [0,1] (λj=>[(5,I j)]) Ze Zf ?_ (λenv H k=>?_)
 .refine G0 1 Z (Lp [0] [0,1] (λx=>[(5,I x)]) Ze M Zf (Lr [0]) λx O a y=>?_);refine G0 2 Z (Bd a λm d a=>Ct m [0] [0,1,5] (λm=>[(18,.bool m)]) Ze Zf ?_ (λenv H k=>?_))
  .refine G0 6 Z (Is 11 d Z (λ_ d=>?_) (λ_ d=>?_))
   .refine Go 2 Z (Bd d λP p d=>?_);refine vV (Qv p Z EA EE) ?_ (gT Z);refine vV (Ey Z EF Z (Qi p)) ?_ (gT Z);exact Gl 4 Z d [0]
   .exact Gl 8 Z d [0]
  refine Gx 1 Z (Qf k (Q8 Z a (λ_ a=>?_) (λ_ a=>?_)))
  .exact Gc 2 Z (Ql a (Gx 1 Z (cQo y a (Lr [0]))))
  exact Gc 9 Z (Qj a (Lr [0]))
 refine Gx 1 Z (Qf k (Gc 2 Z (Bd h λq f h=>Cg q [0] [0,1,5] (λq=>[(32,.bool q)]) Ze Zf ?_ ?_)))
 .refine G0 6 Z (Is 25 f Z (λ_ f=>?_) (λ_ f=>?_))
  .refine Go 2 Z (Bd f λN t f=>?_);refine vV (Qv t Z EA EE) ?_ (gT Z);refine vX (I N) (Ey Z EF Z (Qi t)) ?_ (gT Z);exact Gl 4 Z f [0]
  .exact Gl 8 Z f [0]
 refine Cn Z h (λ_ h=>?_) (λ_ h=>?_)
 .refine Gc 8 Z ?_;obtain rfl:=Oi h;refine R1 4 Z ?_;refine En (Qhx (s:=4) (i:=0) Z Z Z) ?_;exact Lr [0,1]
 refine Gc 5 Z (vH (Ek (xs:=[.tmp 34]) Qu Z Z Z Z Z ⟨Z,trivial⟩ Z Z) ?_);refine Fg 2 Z Z (Bd h λQ u h=>?_);refine vV (Jr (l:=g) u EA EE (.inr ⟨_,Z,Z⟩) (.inl ⟨Z,Z⟩)) ?_;refine Bd h λR G h=>vH (Qk (e:=(Qe .i64)) G Qu EA (Qis (b:=0) u)) ?_;refine Fg 8 Z Z (Bd h λT w h=>?_);refine vV (Qj6 (l:=g) w EA EE) ?_;refine Go 1 Z (Bd h λV J h=>vH (Qj7 (e:=(Qe .i64)) w J Qu EA (QH (i:=2))) ?_);exact FE Z (Gt 4 Z h 4 [0,3])
def F_lc(n:Nat)(d:List Fact)(i:Int)(j:Int)(a:Int):Option (Ctl Int (Ctl Unit Int)):=(bif decide (a<(d.length:Int))then((idx d a).bind λe=>(bif (e.Kind==10)then(idx d a).bind λf=>(bif (f.Ruling.Case==i)then(idx d a).bind λg=>some (g.Ruling.Instance==j)else some false)else some false):Option Bool).bind λh=>(bif h then some (.done (.done a))else some (.cont (i64.wrap (a+1))))else some (.done (.cont ())))
def F_aj(e:List Fact)(f:Int)(g:Int):Option Int:=(iter (F_lc n e f g) n 0:Option (Ctl Unit Int)).bind λd=>match d with|.cont a=>(some (-1))|.done a=>some a
theorem k_aj(s:List Fact)(t:Int)(u:Int):Ks (F_aj n s t u) 133 [.rsl 57 (map Fact.c s),I t,I u] [] (λr=>I r):=by
 refine Kg 11 func133 Z Z Z Z λr h=>Bd h λw x h=>CgE (b:=w) [] [] Ze Ze Zf ?_ (λ_ y=>?_)
 .refine G0 1 Z (Lp [] [0,1,2] (λg=>[(7,I g)]) Ze x Zf (Lr []) λg B d e=>(G0 5 Z (Lg 3 Z Z (Q8 Z d (λ_ d=>?_) (λ_ d=>?_)))))
  .exact Gc 2 Z (Ql d (Gx 1 Z (JN e d Z (Lr []))))
  refine Gc 5 Z (Bd d λf a d=>Cg f [] [0,1,2,7] (λf=>[(39,.bool f)]) Ze Zf ?_ ?_)
  .refine G0 3 Z (Bd a λE j a=>Iz j Z (Go 4 Z (Is 20 a Z (λ_ a=>?_) (λ_ a=>?_))))
   .refine Go 2 Z (Bd a λF l a=>Iz l Z (Go 7 Z (Is 30 a Z (λ_ a=>?_) (λ_ a=>?_))))
    .exact Go 2 Z (Bd a λG p a=>Iz p Z (Gl 7 Z a []))
    .exact Gl 10 Z a []
   .exact Gl 20 Z a []
  refine Cn Z d (λ_ d=>?_) (λ_ d=>?_)
  .refine Gc 9 Z (Qx d ?_);obtain rfl:=Oj e d;exact Gx 1 Z (Qt (Gx 1 Z (Rt h 6 [])))
  exact Gc 8 Z (Qj d (Lr []))
 subst y;exact QI 6 Z h 6 []
end Go.Sw
