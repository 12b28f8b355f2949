/- What the functions compute that PrizesInSpec reaches, and that their calls refine it (part 4 of 4). -/
import Derived.Test.YtkfjchmhgpkcbaaGreatW31In3
set_option linter.unusedVariables false
set_option linter.unusedSimpArgs false
set_option maxRecDepth 100000
set_option maxHeartbeats 4000000
namespace Go.Sw
open Go.Proofs Tryz
def F_dj(n:Nat)(b:Course)(r1:List Int)(a:Int):Option (Ctl Int (Ctl Unit Bool)):=
  (bif decide (a<(r1.length:Int))then((bif (a==0)then some 1 else(bif (a==(IntKind.i64.wrap ((r1.length:Int)-1)))then some 3 else some 2)):Option Int).bind λc=>((idx r1 a).bind λd=>(idx b.Mats d).bind λe=>(bif (e.Kind != c)then some true else(bif decide (0<a)then(idx r1 (IntKind.i64.wrap (a-1))).bind λf=>(idx r1 a).bind λg=>(F_ai n b f g).bind λh=>some (decide (h<0))else some false)):Option Bool).bind λi=>(bif i then some (.done (.done false))else some (.cont (IntKind.i64.wrap (a+1))))else some (.done (.cont ())))
def F_mv(n:Nat)(b:Distance)(r1:List Int)(a:Int):Option (Ctl Int (Ctl Unit Bool)):=
  (bif decide (a<(b.Cutoffs.length:Int))then(idx b.Cutoffs a).bind λc=>(F_am n r1 c.Mat).bind λd=>(idx b.Cutoffs a).bind λe=>(bif decide (d<e.Lap)then some (.done (.done false))else some (.cont (IntKind.i64.wrap (a+1))))else some (.done (.cont ())))
def F_eh(n:Nat)(d:Course)(a:Distance):Option Bool:=
  (F_u n a.Route).bind λr1=>((bif decide ((r1.length:Int)<2)then some true else some (decide (256<(r1.length:Int)))):Option Bool).bind λk=>(bif k then some false else(iter (F_dj n d r1) n 0:Option (Ctl Unit Bool)).bind λe=>match e with|.cont b=>(((bif (a.Extra != (-1))then(idx d.Mats a.Extra).bind λf=>(bif (f.Kind != 2)then some true else(F_am n r1 a.Extra).bind λg=>(bif (g==0)then some true else(F_ai n d a.Extra a.Extra).bind λh=>some (decide (h<0))))else some false):Option Bool).bind λi=>(bif i then some false else(iter (F_mv n a r1) n 0:Option (Ctl Unit Bool)).bind λj=>match j with|.cont c=>(some true)|.done c=>some c))|.done b=>some b)
theorem k_eh(n:Nat)(a1:Course)(a2:Distance)(r:Bool)(h:F_eh n a1 a2=some r):
    Csm prog 111 [.agg (Course.c a1),.agg (Distance.c a2)] [] (λr=>.bool r) r:=by
 refine Qb func111 Z Z Z ?_;refine G0 11 Z (Cd [] h (k_u _ _) Z λr1 ax h=>FE Z (Go 12 Z (Bd h λO p h=>?_)));refine Ct O [0,1,2] [2,3,5,6] (λO=>[(20,.bool O)]) Ze Zf ?_ (λenv H g=>?_)
 .refine G0 4 Z (Is 17 p Z (λaf p=>?_) (λaf p=>?_))
  .exact Go 4 Z (Cl p [0,1,2])
  .exact Go 4 Z (Cl p [0,1,2])
 refine Gx 1 Z (Ef g (Cn Z h (λag h=>?_) (λag h=>?_)))
 .exact Gc 7 Z (Rt h 4 [])
 refine Gc 8 Z (Bd h λah ai h=>?_);refine YH (b:=ah) [0,1,2] [2,3,5] Ze Ze Zf ?_ (λao env H q g=>?_)
 .refine G0 1 Z ?_;refine Lp [0,1,2] [2,3,5,6] (λj=>[(7,I j)]) Ze ai Zf (Lr [0,1,2]) λj ay f s=>?_;refine G0 8 Z (QW Z f (λP f=>?_) (λP f=>?_))
  .refine Gc 2 Z (Qh f ?_);obtain rfl:=Oj s f;exact Gx 1 Z (Qn Z (Lr [0,1,2]))
  refine Gc 22 Z (Bd f λt i f=>?_);refine Ct t [0,1,2] [2,3,5,6,7] (λt=>[(8,I t)]) Ze Zf ?_ (λenv H g=>?_)
  .refine G0 0 Z (Cn Z i (λQ i=>?_) (λQ i=>?_))
   .exact Gc 3 Z (Cl i [0,1,2])
   refine Gc 8 Z (Cn Z i (λR i=>?_) (λR i=>?_))
   .exact Gc 3 Z (Cl i [0,1,2])
   exact Gc 1 Z (Cl i [0,1,2])
  refine Gx 2 Z (Ef g (Gc 1 Z (Bd f λu d f=>?_)));refine Ct u [0,1,2] [2,3,5,6,7] (λu=>[(61,.bool u)]) Ze Zf ?_ (λenv H g=>?_)
  .refine G0 0 Z (DSs 25 Z (D 4 Z ?_));obtain⟨aj,w,d⟩:=Yy d;refine DS.v (x:=(.ptr 2 (Int.toNat j*1))) (QG w Z runUnderlying32 sizeOf3) ?_;refine DS.v (x:=(I aj)) (Ez Z isAgg3 Z (Qo w)) ?_;obtain⟨N,T,d⟩:=Yy d;refine DS.wo (x:=.rp [.str N.Name,I N.Kind]) ?_ ?_
   .exact Ix T runUnderlying38 sizeOf101 Z Wp
   refine D 5 Z (Yr 11 d Z Z Z (λV d=>?_) (λV d=>?_))
   .exact D 13 Z (Eh Z (Go 5 Z (Cl d [0,1,2])))
   .refine D 3 Z (Yr 14 d Z Z Z (λW d=>?_) (λW d=>?_))
    .refine D 4 Z ?_;obtain⟨ak,y,d⟩:=Yy d;refine DS.v (x:=(.ptr 2 (Int.toNat (IntKind.i64.wrap (j-1))*1))) (QG y Z runUnderlying32 sizeOf3) ?_ (hg:=(gT Z));refine DS.v (x:=(I ak)) (Ez Z isAgg3 Z (Qo y)) ?_ (hg:=(gT Z));refine D 2 Z ?_;obtain⟨al,z,d⟩:=Yy d;refine DS.v (x:=(.ptr 2 (Int.toNat j*1))) (QG z Z runUnderlying32 sizeOf3) ?_ (hg:=(gT Z));refine DS.v (x:=(I al)) (Ez Z isAgg3 Z (Qo z)) ?_ (hg:=(gT Z));exact Eh Z (Cz [] d (k_ai _ _ _ _) Z λaz aq d=>Go 4 Z (Cl d [0,1,2]))
    .exact D 10 Z (Eh Z (Go 5 Z (Cl d [0,1,2])))
  refine Gx 1 Z (Ef g (Cn Z f (λX f=>?_) (λX f=>?_)))
  .refine Gc 8 Z (Qm f ?_);obtain rfl:=Oj s f;exact Gx 1 Z (Qi (Gx 1 Z (Rt h 4 [])))
  exact Gc 8 Z (Qg f (Lr [0,1,2]))
 subst q;refine Gx 1 Z (Ef g (Gc 2 Z (Bd h λB e h=>?_)));refine Ct B [1,2] [3,5] (λB=>[(90,.bool B)]) Ze Zf ?_ (λenv H g=>?_)
 .refine G0 5 Z (Is 65 e Z (λY e=>?_) (λY e=>?_))
  .refine Go 4 Z (Bd e λba aa e=>Iz aa Z (Go 4 Z (Is 74 e Z (λab e=>?_) (λab e=>?_))))
   .exact Go 17 Z (Cl e [1,2])
   .refine Go 3 Z (Cb e (k_am _ _ _) Z (lo (ls ln)) λbb ar e=>Go 3 Z (Is 81 e Z (λac e=>?_) (λac e=>?_)))
    .exact Go 10 Z (Cl e [1,2])
    .exact Go 5 Z (Cz [] e (k_ai _ _ _ _) Z λbc au e=>Go 4 Z (Cl e [1,2]))
  .exact Go 26 Z (Cl e [1,2])
 refine Gx 1 Z (Ef g (Cn Z h (λad h=>?_) (λad h=>?_)))
 .exact Gc 7 Z (Rt h 4 [])
 refine Gc 8 Z (Bd h λam an h=>?_);refine YH (b:=am) [] [] Ze Ze Zf ?_ (λav env H q g=>?_)
 .refine G0 1 Z ?_;refine Lp [0,1] [3,5] (λE=>[(9,I E)]) Ze an Zf (Lr [0,1]) λE aw a m=>?_;refine G0 6 Z (Lm Z (Go 3 Z (QW Z a (λF a=>?_) (λF a=>?_))))
  .refine Gc 2 Z (Qh a ?_);obtain rfl:=Oj m a;exact Gx 1 Z (Qn Z (Lr []))
  refine Gc 5 Z (DSs 14 Z (D 4 Z ?_));obtain⟨k,G,a⟩:=Yy a;refine DS.wo (x:=.rp [I k.Mat,I k.Lap,I k.Limit]) ?_ ?_
  .exact Ix G runUnderlying97 sizeOf249 Z Wp
  refine D 2 Z ?_;obtain⟨ae,J,a⟩:=Yy a;refine DS.wo (x:=I ae) ?_ ?_
  .refine QcN (OpC.fn call165 rfl rfl rfl) (Qbc.cons rfl (.inr ⟨_,_,_,_,_,rfl,rfl,Va ..,rfl⟩) (Qbc.cons rfl (.inl ⟨rfl,rfl⟩) Qbc.nil)) (k_am _ _ _ _ J) (by rintro _ _ ⟨rfl,rfl⟩;rfl) ?_;rintro _ _ ⟨rfl,rfl⟩;exact FE Z Wp
  refine D 3 Z ?_;obtain⟨l,L,a⟩:=Yy a;refine DS.wo (x:=.rp [I l.Mat,I l.Lap,I l.Limit]) ?_ ?_
  .exact Ix L runUnderlying97 sizeOf249 Z Wp
  refine D 2 Z (Eh Z (Go 3 Z (Cn Z a (λM a=>?_) (λM a=>?_))))
  .refine Gc 8 Z (Qm a ?_);obtain rfl:=Oj m a;exact Gx 1 Z (Qi (Gx 1 Z (Rt h 4 [])))
  exact Gc 8 Z (Qg a (Lr [0,1]))
 subst q;exact Gx 1 Z (Ef g (Gc 6 Z (Rt h 4 [])))
def F_mo(n:Nat)(b:Course)(a:Int):Option (Ctl Int (Ctl Unit Int)):=
  (bif decide (a<(b.Distances.length:Int))then(idx b.Distances a).bind λc=>(F_eh n b c).bind λd=>(bif (!d)then some (.done (.done 72))else some (.cont (IntKind.i64.wrap (a+1))))else some (.done (.cont ())))
def F_ad(n:Nat)(a:Course):Option Int:=
  (F_ar n a).bind λr1=>(bif (!r1)then some 2 else(F_cy n a).bind λe=>(bif (!e)then some 70 else(F_el n a).bind λf=>(bif (!f)then some 71 else(F_ep n a.Ties).bind λc=>(bif (c != 0)then some c else(iter (F_mo n a) n 0:Option (Ctl Unit Int)).bind λd=>match d with|.cont b=>(some 0)|.done b=>some b))))
theorem k_ad(n:Nat)(k:Course)(r:Int)(h:F_ad n k=some r):
    Csm prog 70 [.agg (Course.c k)] [] (λr=>I r) r:=by
 refine Qb func70 Z Z Z ?_;refine G0 10 Z (Cz [] h (k_ar _ _) Z λr1 B h=>Go 3 Z (Cn Z h (λl h=>?_) (λl h=>?_)))
 .exact Gc 7 Z (Rt h 2 [])
 refine Gc 6 Z (Cz [] h (k_cy _ _) Z λM E h=>Go 3 Z (Cn Z h (λm h=>?_) (λm h=>?_)))
 .exact Gc 7 Z (Rt h 2 [])
 refine Gc 6 Z (Cz [] h (k_el _ _) Z λN F h=>Go 3 Z (Cn Z h (λp h=>?_) (λp h=>?_)))
 .exact Gc 7 Z (Rt h 2 [])
 refine Gc 6 Z (Cz [] h (k_ep _ _) Z λO G h=>Go 10 Z (Cn Z h (λq h=>?_) (λq h=>?_)))
 .exact Gc 8 Z (Rt h 2 [])
 refine Gc 8 Z (Bd h λs t h=>?_);refine YH (b:=s) [] [] Ze Ze Zf ?_ (λy env H u w=>?_)
 .refine G0 1 Z ?_;refine Lp [0] [1] (λf=>[(4,I f)]) Ze t Zf (Lr [0]) λf J a e=>?_;refine G0 6 Z (Lm Z (Go 3 Z (QW Z a (λg a=>?_) (λg a=>?_))))
  .refine Gc 2 Z (Qh a ?_);obtain rfl:=Oj e a;exact Gx 1 Z (Qn Z (Lr []))
  refine Gc 5 Z (DSs 6 Z (D 4 Z ?_));obtain⟨d,i,a⟩:=Yy a;refine DS.wo (x:=.rp [.str d.Name,.rsl 3 (List.map Part.enc d.Route),I d.Timing,.rsl 3 (List.map Cutoff.c d.Cutoffs),I d.Extra]) ?_ ?_
  .exact Ix i runUnderlying40 sizeOf99 Z Wp
  refine D 1 Z (Eh Z (Cz [] a (k_eh _ _ _) Z λL z a=>Go 3 Z (Cn Z a (λj a=>?_) (λj a=>?_))))
  .refine Gc 8 Z (Qm a ?_);obtain rfl:=Oj e a;exact Gx 1 Z (Qi (Gx 1 Z (Rt h 2 [])))
  exact Gc 8 Z (Qg a (Lr [0]))
 subst u;exact Gx 1 Z (Ef w (Gc 6 Z (Rt h 2 [])))
def F_dt(n:Nat)(a:Int):Option Bool:=
  ((bif decide ((-1099511627776)<=a)then some (decide (a<=1099511627776))else some false):Option Bool).bind λb=>some b
theorem k_dt(n:Nat)(c:Int)(r:Bool)(h:F_dt n c=some r):
    Csm prog 99 [I c] [] (λr=>.bool r) r:=by
 refine Qb func99 Z Z Z ?_;refine G0 6 Z (Bd h λb a h=>?_);refine Ct b [] [] (λb=>[(2,.bool b)]) Ze Zf ?_ (λenv H d=>?_)
 .refine G0 4 Z (Is 5 a Z (λe a=>?_) (λe a=>?_))
  .exact Go 5 Z (Cl a [])
  .exact Go 5 Z (Cl a [])
 exact Gx 1 Z (Ef d (Gc 1 Z (Rt h 2 [])))
def F_ei(n:Nat)(a:Segment)(b:Segment):Option Bool:=
  ((bif decide (a.Mat<b.Mat)then some true else(bif (a.Mat==b.Mat)then some (decide (a.Epoch<b.Epoch))else some false)):Option Bool).bind λc=>some c
theorem k_ei(n:Nat)(d:Segment)(e:Segment)(r:Bool)(h:F_ei n d e=some r):
    Csm prog 100 [.agg (Segment.c d),.agg (Segment.c e)] [] (λr=>.bool r) r:=by
 refine Qb func100 Z Z Z ?_;refine G0 8 Z (Bd h λb a h=>?_);refine Ct b [] [] (λb=>[(4,.bool b)]) Ze Zf ?_ (λenv H f=>?_)
 .refine G0 7 Z (Is 10 a Z (λg a=>?_) (λg a=>?_))
  .exact Go 15 Z (Cl a [])
  .refine Go 6 Z (Is 16 a Z (λi a=>?_) (λi a=>?_))
   .exact Go 9 Z (Cl a [])
   .exact Go 9 Z (Cl a [])
 exact Gx 1 Z (Ef f (Gc 1 Z (Rt h 4 [])))
def F_jz(n:Nat)(c:Clocks)(b:Int):Option (Ctl Int (Ctl Unit Int)):=
  (bif decide (b<(c.Segments.length:Int))then(idx c.Segments b).bind λa=>((bif decide (a.Mat<0)then some true else(bif decide (40<=a.Mat)then some true else(bif decide (a.Epoch<0)then some true else(bif decide (255<a.Epoch)then some true else(F_dt n a.Anchor).bind λd=>(bif (!d)then some true else(bif decide (0<b)then(idx c.Segments (IntKind.i64.wrap (b-1))).bind λe=>(F_ei n e a).bind λf=>some (!f)else some false)))))):Option Bool).bind λg=>(bif g then some (.done (.done 160))else some (.cont (IntKind.i64.wrap (b+1))))else some (.done (.cont ())))
def F_mx(n:Nat)(c:Clocks)(b:Int)(a:Int):Option (Ctl Int (Ctl Unit (Ctl Int (Ctl Unit Int)))):=
  (bif decide (a<=(c.Segments.length:Int))then((idx c.Far b).bind λd=>(idx d a).bind λe=>(bif decide (e<(-2199023255552))then some true else(idx c.Far b).bind λf=>(idx f a).bind λg=>some (decide (2199023255552<g))):Option Bool).bind λh=>(bif h then some (.done (.done (.done (.done 160))))else some (.cont (IntKind.i64.wrap (a+1))))else some (.done (.cont ())))
def F_lg(n:Nat)(c:Clocks)(a:Int):Option (Ctl Int (Ctl Unit Int)):=
  (bif decide (a<=(c.Segments.length:Int))then((idx c.Far a).bind λd=>(bif ((d.length:Int) != (IntKind.i64.wrap ((c.Segments.length:Int)+1)))then some true else(idx c.Far a).bind λe=>(idx e a).bind λf=>some (f != 0)):Option Bool).bind λg=>(bif g then some (.done (.done 160))else(iter (F_mx n c a) n 0:Option (Ctl Unit (Ctl Int (Ctl Unit Int)))).bind λh=>match h with|.cont b=>(some (.cont (IntKind.i64.wrap (a+1))))|.done b=>some b)else some (.done (.cont ())))
def F_mp(n:Nat)(d:Clocks)(b:Int)(c:Int)(a:Int):Option (Ctl Int (Ctl Unit (Ctl Int (Ctl Unit (Ctl Int (Ctl Unit Int)))))):=
  (bif decide (a<=(d.Segments.length:Int))then(idx d.Far b).bind λe=>(idx e a).bind λf=>(idx d.Far b).bind λg=>(idx g c).bind λh=>(idx d.Far c).bind λi=>(idx i a).bind λj=>(bif decide ((IntKind.i64.wrap (h+j))<f)then some (.done (.done (.done (.done (.done (.done 160))))))else some (.cont (IntKind.i64.wrap (a+1))))else some (.done (.cont ())))
def F_mt(n:Nat)(e:Clocks)(c:Int)(a:Int):Option (Ctl Int (Ctl Unit (Ctl Int (Ctl Unit Int)))):=
  (bif decide (a<=(e.Segments.length:Int))then(iter (F_mp n e c a) n 0:Option (Ctl Unit (Ctl Int (Ctl Unit (Ctl Int (Ctl Unit Int)))))).bind λd=>match d with|.cont b=>(some (.cont (IntKind.i64.wrap (a+1))))|.done b=>some b else some (.done (.cont ())))
def F_ki(n:Nat)(d:Clocks)(a:Int):Option (Ctl Int (Ctl Unit Int)):=
  (bif decide (a<=(d.Segments.length:Int))then(iter (F_mt n d a) n 0:Option (Ctl Unit (Ctl Int (Ctl Unit Int)))).bind λc=>match c with|.cont b=>(some (.cont (IntKind.i64.wrap (a+1))))|.done b=>some b else some (.done (.cont ())))
def F_aq(n:Nat)(c:Clocks):Option Int:=
  ((bif decide (511<(c.Segments.length:Int))then some true else some ((c.Far.length:Int) != (IntKind.i64.wrap ((c.Segments.length:Int)+1)))):Option Bool).bind λh=>(bif h then some 160 else(iter (F_jz n c) n 0:Option (Ctl Unit Int)).bind λg=>match g with|.cont d=>((iter (F_lg n c) n 0:Option (Ctl Unit Int)).bind λe=>match e with|.cont a=>((iter (F_ki n c) n 0:Option (Ctl Unit Int)).bind λf=>match f with|.cont b=>(some 0)|.done b=>some b)|.done a=>some a)|.done d=>some d)
theorem k_aq(n:Nat)(a1:Clocks)(r:Int)(h:F_aq n a1=some r):
    Csm prog 63 [.agg (Clocks.c a1)] [] (λr=>I r) r:=by
 refine Qb func63 Z Z Z ?_;refine G0 10 Z (Lm Z (Go 5 Z (Bd h λb2 G h=>?_)));refine Ct b2 [0] [1,3] (λb2=>[(23,.bool b2)]) Ze Zf ?_ (λenv H g=>?_)
 .refine G0 4 Z (Is 16 G Z (λbv G=>?_) (λbv G=>?_))
  .exact Go 8 Z (Cl G [0])
  .exact Go 2 Z (Lm Z (Go 5 Z (Cl G [0])))
 refine Gx 1 Z (Ef g (Cn Z h (λbw h=>?_) (λbw h=>?_)))
 .exact Gc 7 Z (Rt h 2 [])
 refine Gc 8 Z (Bd h λbx bz h=>?_);refine YH (b:=bx) [0] [1,3] Ze Ze Zf ?_ (λcf env H s g=>?_)
 .refine G0 1 Z ?_;refine Lp [0] [1,3] (λau=>[(4,I au)]) Ze bz Zf (Lr [0]) λau cu k J=>?_;refine G0 8 Z (QW Z k (λav k=>?_) (λav k=>?_))
  .refine Gc 2 Z (Qh k ?_);obtain rfl:=Oj J k;exact Gx 1 Z (Qn Z (Lr [0]))
  refine Gc 9 Z (Bd k λcv aw k=>Iz aw Z (Go 6 Z (Bd k λL a k=>?_)));refine Ct L [0] [1,3,4] (λL=>[(72,.bool L)]) Ze Zf ?_ (λenv H g=>?_)
  .refine G0 0 Z (DSs 35 Z (D 4 Z (Yr 3 a Z Z Z (λax a=>?_) (λax a=>?_))))
   .exact D 31 Z (Eh Z (Go 5 Z (Cl a [0])))
   .refine D 5 Z (Yr 8 a Z Z Z (λay a=>?_) (λay a=>?_))
    .exact D 26 Z (Eh Z (Go 5 Z (Cl a [0])))
    .refine D 5 Z (Yr 13 a Z Z Z (λaz a=>?_) (λaz a=>?_))
     .exact D 21 Z (Eh Z (Go 5 Z (Cl a [0])))
     .refine D 5 Z (Yr 18 a Z Z Z (λba a=>?_) (λba a=>?_))
      .exact D 16 Z (Eh Z (Go 5 Z (Cl a [0])))
      .refine D 2 Z ?_;refine Dz [] a (k_dt _ _) Z λcw cg a=>D 3 Z (Yr 24 a Z Z Z (λbb a=>?_) (λbb a=>?_))
       .exact D 10 Z (Eh Z (Go 5 Z (Cl a [0])))
       .refine D 3 Z (Yr 27 a Z Z Z (λbc a=>?_) (λbc a=>?_))
        .refine D 4 Z ?_;obtain⟨y,bd,a⟩:=Yy a;refine DS.v (x:=(.rp [I y.Mat,I y.Epoch,I y.Anchor])) (Yw (e:=Segment.c) (l:=a1.Segments) (v:=y) bd runUnderlying22 sizeOf198) ?_ (hg:=(gT Z));exact D 2 Z (Eh Z (Cz [] a (k_ei _ _ _) Z λcx ch a=>Go 4 Z (Cl a [0])))
        .exact D 7 Z (Eh Z (Go 5 Z (Cl a [0])))
  refine Gx 1 Z (Ef g (Cn Z k (λbe k=>?_) (λbe k=>?_)))
  .refine Gc 8 Z (Qm k ?_);obtain rfl:=Oj J k;exact Gx 1 Z (Qi (Gx 1 Z (Rt h 2 [])))
  exact Gc 8 Z (Qg k (Lr [0]))
 subst s;refine Gx 1 Z (Ef g (Gc 6 Z (Bd h λbf bg h=>?_)));refine YH (b:=bf) [0] [1,3] Ze Ze Zf ?_ (λca env H s g=>?_)
 .refine G0 1 Z ?_;refine Lp [0] [1,3] (λM=>[(6,I M)]) Ze bg Zf (Lr [0]) λM ci f t=>?_;refine G0 8 Z (QW Z f (λR f=>?_) (λR f=>?_))
  .refine Gc 2 Z (Qh f ?_);obtain rfl:=Oj t f;exact Gx 1 Z (Qn Z (Lr [0]))
  refine Gc 6 Z (Bd f λu m f=>?_);refine Ct u [0] [1,3,6] (λu=>[(97,.bool u)]) Ze Zf ?_ (λenv H g=>?_)
  .refine G0 4 Z (Bd m λcj T m=>Iz T Z (Go 1 Z (Lm Z (Go 4 Z (Is 87 m Z (λV m=>?_) (λV m=>?_))))))
   .exact Go 11 Z (Cl m [0])
   .exact Go 3 Z (Bd m λck W m=>Iz W Z (Go 2 Z (Bd m λcl X m=>Iz X Z (Go 4 Z (Cl m [0])))))
  refine Gx 1 Z (Ef g (Cn Z f (λY f=>?_) (λY f=>?_)))
  .refine Gc 9 Z (Qm f ?_);obtain rfl:=Oj t f;exact Gx 1 Z (Qi (Gx 1 Z (Rt h 2 [])))
  refine Gc 7 Z (Bd f λbh bi f=>?_);refine YH (b:=bh) [0] [1,3,6] Ze Ze Zf ?_ (λcb env H s g=>?_)
  .refine G0 1 Z ?_;refine Lp [0] [1,3,6] (λN=>[(7,I N)]) Ze bi Zf (Lr [0]) λN cm i z=>?_;refine G0 8 Z (QW Z i (λaa i=>?_) (λaa i=>?_))
   .refine Gc 2 Z (Qh i ?_);obtain rfl:=Oj z i;exact Gx 1 Z (Qn Z (Lr [0]))
   refine Gc 5 Z (Bd i λw j i=>?_);refine Ct w [0] [1,3,6,7] (λw=>[(122,.bool w)]) Ze Zf ?_ (λenv H g=>?_)
   .refine G0 4 Z (Bd j λcn ab j=>Iz ab Z (Go 2 Z (Bd j λco ac j=>Iz ac Z (Go 3 Z (Is 112 j Z (λad j=>?_) (λad j=>?_))))))
    .exact Go 11 Z (Cl j [0])
    .exact Go 3 Z (Bd j λcp ae j=>Iz ae Z (Go 2 Z (Bd j λcq af j=>Iz af Z (Go 4 Z (Cl j [0])))))
   refine Gx 1 Z (Ef g (Cn Z i (λag i=>?_) (λag i=>?_)))
   .refine Gc 8 Z (Qm i ?_);obtain rfl:=Oj z i;refine Gx 1 Z (Qi (Gx 2 Z (Qm f ?_)));obtain rfl:=Oj t f;exact Gx 1 Z (Qi (Gx 1 Z (Rt h 2 [])))
   exact Gc 8 Z (Qg i (Lr [0]))
  subst s;exact Gx 2 Z (Ef g (Gc 5 Z (Qg f (Lr [0]))))
 subst s;refine Gx 1 Z (Ef g (Gc 6 Z (Bd h λbj bk h=>?_)));refine YH (b:=bj) [] [] Ze Ze Zf ?_ (λcc env H s g=>?_)
 .refine G0 1 Z ?_;refine Lp [0] [1,3] (λO=>[(8,I O)]) Ze bk Zf (Lr [0]) λO cr p B=>?_;refine G0 8 Z (QW Z p (λah p=>?_) (λah p=>?_))
  .refine Gc 2 Z (Qh p ?_);obtain rfl:=Oj B p;exact Gx 1 Z (Qn Z (Lr []))
  refine Gc 9 Z (Bd p λbl bm p=>?_);refine YH (b:=bl) [0] [1,3,8] Ze Ze Zf ?_ (λcd env H s g=>?_)
  .refine G0 1 Z ?_;refine Lp [0] [1,3,8] (λP=>[(9,I P)]) Ze bm Zf (Lr [0]) λP cs q E=>?_;refine G0 8 Z (QW Z q (λai q=>?_) (λai q=>?_))
   .refine Gc 2 Z (Qh q ?_);obtain rfl:=Oj E q;exact Gx 1 Z (Qn Z (Lr [0]))
   refine Gc 9 Z (Bd q λbn bo q=>?_);refine YH (b:=bn) [0] [1,3,8,9] Ze Ze Zf ?_ (λce env H s g=>?_)
   .refine G0 1 Z ?_;refine Lp [0] [1,3,8,9] (λQ=>[(10,I Q)]) Ze bo Zf (Lr [0]) λQ ct d F=>?_;refine G0 8 Z (QW Z d (λaj d=>?_) (λaj d=>?_))
    .refine Gc 2 Z (Qh d ?_);obtain rfl:=Oj F d;exact Gx 1 Z (Qn Z (Lr [0]))
    refine Gc 5 Z (DSs 25 Z (D 3 Z ?_));obtain⟨bp,ak,d⟩:=Yy d;refine DS.wo (x:=.rp [.rsl 1 (List.map (Qd .i64) bp)]) ?_ ?_
    .exact Ix ak runUnderlying23 sizeOf32 Z Wp
    refine D 2 Z ?_;obtain⟨bq,al,d⟩:=Yy d;refine DS.wo (x:=.rp [I bq]) ?_ ?_
    .exact Ix al runUnderlying32 sizeOf3 Z Wp
    refine D 4 Z ?_;obtain⟨br,am,d⟩:=Yy d;refine DS.wo (x:=.rp [.rsl 1 (List.map (Qd .i64) br)]) ?_ ?_
    .exact Ix am runUnderlying23 sizeOf32 Z Wp
    refine D 2 Z ?_;obtain⟨bs,an,d⟩:=Yy d;refine DS.wo (x:=.rp [I bs]) ?_ ?_
    .exact Ix an runUnderlying32 sizeOf3 Z Wp
    refine D 4 Z ?_;obtain⟨bt,ao,d⟩:=Yy d;refine DS.wo (x:=.rp [.rsl 1 (List.map (Qd .i64) bt)]) ?_ ?_
    .exact Ix ao runUnderlying23 sizeOf32 Z Wp
    refine D 2 Z ?_;obtain⟨bu,aq,d⟩:=Yy d;refine DS.wo (x:=.rp [I bu]) ?_ ?_
    .exact Ix aq runUnderlying32 sizeOf3 Z Wp
    refine D 2 Z (Eh Z (Go 3 Z (Cn Z d (λar d=>?_) (λar d=>?_))))
    .refine Gc 8 Z (Qm d ?_);obtain rfl:=Oj F d;refine Gx 1 Z (Qi (Gx 2 Z (Qm q ?_)));obtain rfl:=Oj E q;refine Gx 1 Z (Qi (Gx 2 Z (Qm p ?_)));obtain rfl:=Oj B p;exact Gx 1 Z (Qi (Gx 1 Z (Rt h 2 [])))
    exact Gc 8 Z (Qg d (Lr [0]))
   subst s;exact Gx 2 Z (Ef g (Gc 5 Z (Qg q (Lr [0]))))
  subst s;exact Gx 2 Z (Ef g (Gc 5 Z (Qg p (Lr [0]))))
 subst s;exact Gx 1 Z (Ef g (Gc 6 Z (Rt h 2 [])))
def F_gz(n:Nat)(a:Int)(b:Int)(c:Int):Option Bool:=
  ((bif decide (b<=a)then some (decide (a<=c))else some false):Option Bool).bind λd=>some d
theorem k_gz(n:Nat)(c:Int)(d:Int)(e:Int)(r:Bool)(h:F_gz n c d e=some r):
    Csm prog 101 [I c,I d,I e] [] (λr=>.bool r) r:=by
 refine Qb func101 Z Z Z ?_;refine G0 6 Z (Bd h λb a h=>?_);refine Ct b [] [] (λb=>[(6,.bool b)]) Ze Zf ?_ (λenv H f=>?_)
 .refine G0 5 Z (Is 10 a Z (λg a=>?_) (λg a=>?_))
  .exact Go 6 Z (Cl a [])
  .exact Go 6 Z (Cl a [])
 exact Gx 1 Z (Ef f (Gc 1 Z (Rt h 6 [])))
def F_ee(n:Nat)(a:Int):Option Bool:=
  (F_gz n a 1 9999).bind λr1=>some r1
theorem k_ee(n:Nat)(a:Int)(r:Bool)(h:F_ee n a=some r):
    Csm prog 64 [I a] [] (λr=>.bool r) r:=by
 refine Qb func64 Z Z Z ?_;exact G0 8 Z (Cz [] h (k_gz _ _ _ _) Z λr1 b h=>Go 4 Z (Rt h 2 []))
def F_cb(n:Nat)(b:Clocks)(a:Outcome):Option Int:=
  (F_aq n b).bind λr1=>(bif (r1 != 0)then some r1 else((bif a.Out then(bif (a.Seg != (-1))then some true else(bif (a.Lo != 0)then some true else(bif (a.Hi != 0)then some true else(bif (!a.Out)then(bif decide (a.Seg<(-1))then some true else(bif decide ((b.Segments.length:Int)<=a.Seg)then some true else(bif decide (a.Lo<(-288230376151711744))then some true else(bif decide (a.Hi<a.Lo)then some true else some (decide (288230376151711744<a.Hi))))))else some false))))else(bif (!a.Out)then(bif decide (a.Seg<(-1))then some true else(bif decide ((b.Segments.length:Int)<=a.Seg)then some true else(bif decide (a.Lo<(-288230376151711744))then some true else(bif decide (a.Hi<a.Lo)then some true else some (decide (288230376151711744<a.Hi))))))else some false)):Option Bool).bind λc=>(bif c then some 230 else some 0))
theorem k_cb(n:Nat)(x:Clocks)(y:Outcome)(r:Int)(h:F_cb n x y=some r):
    Csm prog 65 [.agg (Clocks.c x),.agg (Outcome.c y)] [] (λr=>I r) r:=by
 refine Qb func65 Z Z Z ?_;refine G0 10 Z (Cz [] h (k_aq _ _) Z λr1 E h=>Go 10 Z (Cn Z h (λz h=>?_) (λz h=>?_)))
 .exact Gc 8 Z (Rt h 4 [])
 refine Gc 4 Z (Bd h λb a h=>?_);refine Ct b [] [] (λb=>[(62,.bool b)]) Ze Zf ?_ (λenv H B=>?_)
 .refine G0 4 Z (Is 13 a Z (λd a=>?_) (λd a=>?_))
  .refine Go 4 Z (Is 17 a Z (λe a=>?_) (λe a=>?_))
   .exact Go 46 Z (Cl a [])
   .refine Go 5 Z (Is 22 a Z (λf a=>?_) (λf a=>?_))
    .exact Go 41 Z (Cl a [])
    .refine Go 6 Z (Is 28 a Z (λg a=>?_) (λg a=>?_))
     .exact Go 35 Z (Cl a [])
     .refine Go 4 Z (Is 32 a Z (λi a=>?_) (λi a=>?_))
      .refine Go 4 Z (Is 36 a Z (λj a=>?_) (λj a=>?_))
       .exact Go 27 Z (Cl a [])
       .refine Go 4 Z (Lm Z (Go 3 Z (Is 44 a Z (λk a=>?_) (λk a=>?_))))
        .exact Go 19 Z (Cl a [])
        .refine Go 5 Z (Is 49 a Z (λl a=>?_) (λl a=>?_))
         .exact Go 14 Z (Cl a [])
         .refine Go 7 Z (Is 56 a Z (λm a=>?_) (λm a=>?_))
          .exact Go 7 Z (Cl a [])
          .exact Go 7 Z (Cl a [])
      .exact Go 31 Z (Cl a [])
  .refine Go 19 Z (Is 32 a Z (λp a=>?_) (λp a=>?_))
   .refine Go 4 Z (Is 36 a Z (λq a=>?_) (λq a=>?_))
    .exact Go 27 Z (Cl a [])
    .refine Go 4 Z (Lm Z (Go 3 Z (Is 44 a Z (λs a=>?_) (λs a=>?_))))
     .exact Go 19 Z (Cl a [])
     .refine Go 5 Z (Is 49 a Z (λt a=>?_) (λt a=>?_))
      .exact Go 14 Z (Cl a [])
      .refine Go 7 Z (Is 56 a Z (λu a=>?_) (λu a=>?_))
       .exact Go 7 Z (Cl a [])
       .exact Go 7 Z (Cl a [])
   .exact Go 31 Z (Cl a [])
 refine Gx 1 Z (Ef B (Cn Z h (λw h=>?_) (λw h=>?_)))
 .exact Gc 7 Z (Rt h 4 [])
 exact Gc 8 Z (Rt h 4 [])
def F_lu(n:Nat)(b:Field)(c:Int)(a:Int):Option (Ctl Int (Ctl Unit Bool)):=
  (bif decide (a<(b.Runners.length:Int))then((bif decide (c<0)then some true else(idx b.Runners a).bind λd=>(bif decide ((d.Worlds.length:Int)<=c)then some true else(idx b.Runners a).bind λe=>(idx e.Worlds c).bind λf=>some ((f.length:Int)==0))):Option Bool).bind λg=>(bif g then some (.done (.done false))else some (.cont (IntKind.i64.wrap (a+1))))else some (.done (.cont ())))
def F_fj(n:Nat)(c:Field)(d:Int):Option Bool:=
  (iter (F_lu n c d) n 0:Option (Ctl Unit Bool)).bind λb=>match b with|.cont a=>(some true)|.done a=>some a
theorem k_fj(n:Nat)(t:Field)(u:Int)(r:Bool)(h:F_fj n t u=some r):
    Csm prog 102 [.agg (Field.c t),I u] [] (λr=>.bool r) r:=by
 refine Qb func102 Z Z Z ?_;refine G0 12 Z (Bd h λw x h=>?_);refine YH (b:=w) [] [] Ze Ze Zf ?_ (λz env H y e=>?_)
 .refine G0 1 Z ?_;refine Lp [0] [1,2] (λi=>[(5,I i)]) Ze x Zf (Lr [0]) λi B d f=>?_;refine G0 6 Z (Lm Z (Go 3 Z (QW Z d (λj d=>?_) (λj d=>?_))))
  .refine Gc 2 Z (Qh d ?_);obtain rfl:=Oj f d;exact Gx 1 Z (Qn Z (Lr []))
  refine Gc 5 Z (Bd d λg a d=>?_);refine Ct g [0] [1,2,5] (λg=>[(38,.bool g)]) Ze Zf ?_ (λenv H e=>?_)
  .refine G0 4 Z (Is 15 a Z (λk a=>?_) (λk a=>?_))
   .exact Go 24 Z (Cl a [0])
   .refine Go 4 Z (Bd a λE l a=>Iz l Z (Go 2 Z (Lm Z (Go 3 Z (Is 26 a Z (λm a=>?_) (λm a=>?_))))))
    .exact Go 13 Z (Cl a [0])
    .exact Go 3 Z (Bd a λF p a=>Iz p Z (Go 3 Z (Bd a λG q a=>Iz q Z (Go 1 Z (Lm Z (Go 3 Z (Cl a [0])))))))
  refine Gx 1 Z (Ef e (Cn Z d (λs d=>?_) (λs d=>?_)))
  .refine Gc 8 Z (Qm d ?_);obtain rfl:=Oj f d;exact Gx 1 Z (Qi (Gx 1 Z (Rt h 4 [])))
  exact Gc 8 Z (Qg d (Lr [0]))
 subst y;exact Gx 1 Z (Ef e (Gc 6 Z (Rt h 4 [])))
def F_la(n:Nat)(b:Field)(a:Int):Option (Ctl Int (Ctl Unit Bool)):=
  (bif decide (a<=(b.Pairs.length:Int))then(F_fj n b a).bind λc=>(bif c then some (.done (.done true))else some (.cont (IntKind.i64.wrap (a+1))))else some (.done (.cont ())))
def F_bu(n:Nat)(b:Field):Option Bool:=
  (iter (F_la n b) n 0:Option (Ctl Unit Bool)).bind λc=>match c with|.cont a=>(some false)|.done a=>some a
theorem k_bu(n:Nat)(i:Field)(r:Bool)(h:F_bu n i=some r):
    Csm prog 66 [.agg (Field.c i)] [] (λr=>.bool r) r:=by
 refine Qb func66 Z Z Z ?_;refine G0 12 Z (Bd h λl m h=>?_);refine YH (b:=l) [] [] Ze Ze Zf ?_ (λq env H j k=>?_)
 .refine G0 1 Z ?_;refine Lp [0] [1] (λe=>[(3,I e)]) Ze m Zf (Lr [0]) λe s a d=>?_;refine G0 6 Z (Lm Z (Go 3 Z (QW Z a (λf a=>?_) (λf a=>?_))))
  .refine Gc 2 Z (Qh a ?_);obtain rfl:=Oj d a;exact Gx 1 Z (Qn Z (Lr []))
  refine Gc 8 Z (Cz [] a (k_fj _ _ _) Z λt p a=>Go 2 Z (Cn Z a (λg a=>?_) (λg a=>?_)))
  .refine Gc 8 Z (Qm a ?_);obtain rfl:=Oj d a;exact Gx 1 Z (Qi (Gx 1 Z (Rt h 2 [])))
  exact Gc 8 Z (Qg a (Lr [0]))
 subst j;exact Gx 1 Z (Ef k (Gc 6 Z (Rt h 2 [])))
def F_kq(n:Nat)(c:Field)(a:Int):Option (Ctl Int (Ctl Unit Int)):=
  (bif decide (a<(c.Pairs.length:Int))then(idx c.Pairs a).bind λb=>((bif decide (b.A<1)then some true else(bif decide (b.B<=b.A)then some true else some (decide (9999<b.B)))):Option Bool).bind λd=>(bif d then some (.done (.done 240))else((bif decide (0<a)then(idx c.Pairs (IntKind.i64.wrap (a-1))).bind λe=>(bif decide (b.A<e.A)then some true else(idx c.Pairs (IntKind.i64.wrap (a-1))).bind λf=>(bif (f.A==b.A)then(idx c.Pairs (IntKind.i64.wrap (a-1))).bind λg=>some (decide (b.B<=g.B))else some false))else some false):Option Bool).bind λh=>(bif h then some (.done (.done 240))else some (.cont (IntKind.i64.wrap (a+1)))))else some (.done (.cont ())))
def F_my(n:Nat)(h:Field)(b:Runner)(c:Int)(a:Int):Option (Ctl Int (Ctl Unit (Ctl Int (Ctl Unit (Ctl Int (Ctl Unit Int)))))):=
  (idx b.Worlds c).bind λd=>(bif decide (a<(d.length:Int))then(idx b.Worlds c).bind λe=>(idx e a).bind λf=>(F_cb n h.Clocks f).bind λg=>(bif (g != 0)then some (.done (.done (.done (.done (.done (.done 240))))))else some (.cont (IntKind.i64.wrap (a+1))))else some (.done (.cont ())))
def F_mr(n:Nat)(e:Field)(c:Runner)(a:Int):Option (Ctl Int (Ctl Unit (Ctl Int (Ctl Unit Int)))):=
  (bif decide (a<(c.Worlds.length:Int))then(iter (F_my n e c a) n 0:Option (Ctl Unit (Ctl Int (Ctl Unit (Ctl Int (Ctl Unit Int)))))).bind λd=>match d with|.cont b=>(some (.cont (IntKind.i64.wrap (a+1))))|.done b=>some b else some (.done (.cont ())))
def F_kr(n:Nat)(c:Field)(b:Int):Option (Ctl Int (Ctl Unit Int)):=
  (bif decide (b<(c.Runners.length:Int))then(idx c.Runners b).bind λa=>((F_ee n a.Bib).bind λe=>(bif (!e)then some true else(bif decide (0<b)then(idx c.Runners (IntKind.i64.wrap (b-1))).bind λf=>(bif decide (a.Bib<=f.Bib)then some true else(idx c.Runners 0).bind λg=>(bif ((a.Keys.length:Int) != (g.Keys.length:Int))then some true else some ((a.Worlds.length:Int) != (IntKind.i64.wrap ((c.Pairs.length:Int)+1)))))else(idx c.Runners 0).bind λh=>(bif ((a.Keys.length:Int) != (h.Keys.length:Int))then some true else some ((a.Worlds.length:Int) != (IntKind.i64.wrap ((c.Pairs.length:Int)+1)))))):Option Bool).bind λi=>(bif i then some (.done (.done 240))else(iter (F_mr n c a) n 0:Option (Ctl Unit (Ctl Int (Ctl Unit Int)))).bind λj=>match j with|.cont d=>(some (.cont (IntKind.i64.wrap (b+1))))|.done d=>some d)else some (.done (.cont ())))
def F_ap(n:Nat)(a:Field):Option Int:=
  ((F_aq n a.Clocks).bind λg=>(bif (g != 0)then some true else(bif decide (16<(a.Pairs.length:Int))then some true else(bif decide ((a.Runners.length:Int)<1)then some true else some (decide (4000<(a.Runners.length:Int)))))):Option Bool).bind λh=>(bif h then some 240 else(iter (F_kq n a) n 0:Option (Ctl Unit Int)).bind λf=>match f with|.cont c=>((iter (F_kr n a) n 0:Option (Ctl Unit Int)).bind λd=>match d with|.cont b=>((F_bu n a).bind λe=>(bif (!e)then some 240 else some 0))|.done b=>some b)|.done c=>some c)
theorem k_ap(n:Nat)(u:Field)(r:Int)(h:F_ap n u=some r):
    Csm prog 35 [.agg (Field.c u)] [] (λr=>I r) r:=by
 refine Qb func35 Z Z Z ?_;refine G0 8 Z (Bd h λb5 p h=>?_);refine Ct b5 [0] [1] (λb5=>[(30,.bool b5)]) Ze Zf ?_ (λenv H j=>?_)
 .refine G0 3 Z (Cz [] p (k_aq _ _) Z λr7 ch p=>Go 2 Z (Is 13 p Z (λbo p=>?_) (λbo p=>?_)))
  .exact Go 18 Z (Cl p [0])
  .refine Go 2 Z (Lm Z (Go 3 Z (Is 19 p Z (λbp p=>?_) (λbp p=>?_))))
   .exact Go 12 Z (Cl p [0])
   .refine Go 2 Z (Lm Z (Go 3 Z (Is 25 p Z (λar p=>?_) (λar p=>?_))))
    .exact Go 6 Z (Cl p [0])
    .exact Go 2 Z (Lm Z (Go 3 Z (Cl p [0])))
 refine Gx 1 Z (Ef j (Cn Z h (λau h=>?_) (λau h=>?_)))
 .exact Gc 7 Z (Rt h 2 [])
 refine Gc 8 Z (Bd h λbq br h=>?_);refine YH (b:=bq) [0] [1] Ze Ze Zf ?_ (λbz env H w j=>?_)
 .refine G0 1 Z ?_;refine Lp [0] [1] (λaq=>[(3,I aq)]) Ze br Zf (Lr [0]) λaq ci g F=>?_;refine G0 6 Z (Lm Z (Go 3 Z (QW Z g (λav g=>?_) (λav g=>?_))))
  .refine Gc 2 Z (Qh g ?_);obtain rfl:=Oj F g;exact Gx 1 Z (Qn Z (Lr [0]))
  refine Gc 9 Z (Bd g λcj aw g=>Iz aw Z (Go 7 Z (Bd g λM q g=>?_)));refine Ct M [0,1] [1,3,4] (λM=>[(57,.bool M)]) Ze Zf ?_ (λenv H j=>?_)
  .refine G0 5 Z (Is 46 q Z (λax q=>?_) (λax q=>?_))
   .exact Go 12 Z (Cl q [0,1])
   .refine Go 7 Z (Is 53 q Z (λay q=>?_) (λay q=>?_))
    .exact Go 5 Z (Cl q [0,1])
    .exact Go 5 Z (Cl q [0,1])
  refine Gx 1 Z (Ef j (Cn Z g (λaz g=>?_) (λaz g=>?_)))
  .refine Gc 9 Z (Qm g ?_);obtain rfl:=Oj F g;exact Gx 1 Z (Qi (Gx 1 Z (Rt h 2 [])))
  refine Gc 3 Z (Bd g λN i g=>?_);refine Ct N [0] [1,3] (λN=>[(95,.bool N)]) Ze Zf ?_ (λenv H j=>?_)
  .refine G0 0 Z (DSs 34 Z (D 3 Z (Yr 2 i Z Z Z (λba i=>?_) (λba i=>?_))))
   .refine D 4 Z ?_;obtain⟨O,bb,i⟩:=Yy i;refine DS.v (x:=(.rp [I O.A,I O.B])) (Yw (e:=Pair.c) (l:=u.Pairs) (v:=O) bb runUnderlying26 sizeOf149) ?_ (hg:=(gT Z));refine D 6 Z (Yr 13 i Z Z Z (λbc i=>?_) (λbc i=>?_))
    .exact D 20 Z (Eh Z (Go 5 Z (Cl i [0])))
    .refine D 4 Z ?_;obtain⟨P,bd,i⟩:=Yy i;refine DS.v (x:=(.rp [I P.A,I P.B])) (Yw (e:=Pair.c) (l:=u.Pairs) (v:=P) bd runUnderlying26 sizeOf149) ?_ (hg:=(gT Z));refine D 6 Z (Yr 24 i Z Z Z (λbe i=>?_) (λbe i=>?_))
     .refine D 4 Z ?_;obtain⟨Q,bf,i⟩:=Yy i;refine DS.v (x:=(.rp [I Q.A,I Q.B])) (Yw (e:=Pair.c) (l:=u.Pairs) (v:=Q) bf runUnderlying26 sizeOf149) ?_ (hg:=(gT Z));exact D 4 Z (Eh Z (Go 5 Z (Cl i [0])))
     .exact D 9 Z (Eh Z (Go 5 Z (Cl i [0])))
   .exact D 31 Z (Eh Z (Go 5 Z (Cl i [0])))
  refine Gx 1 Z (Ef j (Cn Z g (λbg g=>?_) (λbg g=>?_)))
  .refine Gc 8 Z (Qm g ?_);obtain rfl:=Oj F g;exact Gx 1 Z (Qi (Gx 1 Z (Rt h 2 [])))
  exact Gc 8 Z (Qg g (Lr [0]))
 subst w;refine Gx 1 Z (Ef j (Gc 6 Z (Bd h λbh bi h=>?_)));refine YH (b:=bh) [0] [1] Ze Ze Zf ?_ (λbs env H w j=>?_)
 .refine G0 1 Z ?_;refine Lp [0] [1] (λR=>[(5,I R)]) Ze bi Zf (Lr [0]) λR ca d y=>?_;refine G0 6 Z (Lm Z (Go 3 Z (QW Z d (λW d=>?_) (λW d=>?_))))
  .refine Gc 2 Z (Qh d ?_);obtain rfl:=Oj y d;exact Gx 1 Z (Qn Z (Lr [0]))
  refine Gc 9 Z (Bd d λm X d=>Iz X Z (Go 7 Z (Bd d λG a d=>?_)));refine Ct G [0,1] [1,5,6] (λG=>[(149,.bool G)]) Ze Zf ?_ (λenv H j=>?_)
  .refine G0 0 Z (DSs 40 Z (D 2 Z ?_));refine Dz [] a (k_ee _ _) Z λcb bt a=>D 2 Z (Yr 4 a Z Z Z (λY a=>?_) (λY a=>?_))
   .exact D 35 Z (Eh Z (Go 3 Z (Cl a [0,1])))
   .refine D 3 Z (Yr 7 a Z Z Z (λaa a=>?_) (λaa a=>?_))
    .refine D 4 Z ?_;obtain⟨z,ab,a⟩:=Yy a;refine DS.v (x:=(.rp [I z.Bib,.rsl 1 (List.map (Qd .i64) z.Keys),.rsl 1 (List.map (YF 4 Outcome.c) z.Worlds)])) (Yw (e:=Runner.c) (l:=u.Runners) (v:=z) ab runUnderlying27 sizeOf68) ?_ (hg:=(gT Z));refine D 8 Z (Yr 20 a Z Z Z (λac a=>?_) (λac a=>?_))
     .exact D 19 Z (Eh Z (Go 3 Z (Cl a [0,1])))
     .refine D 2 Z ?_;refine DS.v (x:=(I (m.Keys.length:Int))) (YM (e:=(Qd .i64)) (l:=m.Keys) runUnderlying32) ?_ (hg:=(gT Z));refine D 2 Z ?_;obtain⟨s,ad,a⟩:=Yy a;refine DS.v (x:=(.rp [I s.Bib,.rsl 1 (List.map (Qd .i64) s.Keys),.rsl 1 (List.map (YF 4 Outcome.c) s.Worlds)])) (Yw (e:=Runner.c) (l:=u.Runners) (v:=s) ad runUnderlying27 sizeOf68) ?_ (hg:=(gT Z));refine D 2 Z ?_;refine DS.v (x:=(I (s.Keys.length:Int))) (YM (e:=(Qd .i64)) (l:=s.Keys) runUnderlying32) ?_ (hg:=(gT Z));refine D 3 Z (Yr 32 a Z Z Z (λae a=>?_) (λae a=>?_))
      .exact D 7 Z (Eh Z (Go 3 Z (Cl a [0,1])))
      .refine D 2 Z ?_;refine DS.v (x:=(I (m.Worlds.length:Int))) (YM (e:=(YF 4 Outcome.c)) (l:=m.Worlds) runUnderlying66) ?_ (hg:=(gT Z));refine D 2 Z ?_;refine DS.v (x:=(I (u.Pairs.length:Int))) (YM (e:=Pair.c) (l:=u.Pairs) runUnderlying26) ?_ (hg:=(gT Z));exact D 1 Z (Eh Z (Go 3 Z (Cl a [0,1])))
    .refine D 15 Z ?_;refine DS.v (x:=(I (m.Keys.length:Int))) (YM (e:=(Qd .i64)) (l:=m.Keys) runUnderlying32) ?_ (hg:=(gT Z));refine D 2 Z ?_;obtain⟨t,af,a⟩:=Yy a;refine DS.v (x:=(.rp [I t.Bib,.rsl 1 (List.map (Qd .i64) t.Keys),.rsl 1 (List.map (YF 4 Outcome.c) t.Worlds)])) (Yw (e:=Runner.c) (l:=u.Runners) (v:=t) af runUnderlying27 sizeOf68) ?_ (hg:=(gT Z));refine D 2 Z ?_;refine DS.v (x:=(I (t.Keys.length:Int))) (YM (e:=(Qd .i64)) (l:=t.Keys) runUnderlying32) ?_ (hg:=(gT Z));refine D 3 Z (Yr 32 a Z Z Z (λag a=>?_) (λag a=>?_))
     .exact D 7 Z (Eh Z (Go 3 Z (Cl a [0,1])))
     .refine D 2 Z ?_;refine DS.v (x:=(I (m.Worlds.length:Int))) (YM (e:=(YF 4 Outcome.c)) (l:=m.Worlds) runUnderlying66) ?_ (hg:=(gT Z));refine D 2 Z ?_;refine DS.v (x:=(I (u.Pairs.length:Int))) (YM (e:=Pair.c) (l:=u.Pairs) runUnderlying26) ?_ (hg:=(gT Z));exact D 1 Z (Eh Z (Go 3 Z (Cl a [0,1])))
  refine Gx 1 Z (Ef j (Cn Z d (λah d=>?_) (λah d=>?_)))
  .refine Gc 9 Z (Qm d ?_);obtain rfl:=Oj y d;exact Gx 1 Z (Qi (Gx 1 Z (Rt h 2 [])))
  refine Gc 7 Z (Bd d λbj bk d=>?_);refine YH (b:=bj) [0] [1,5] Ze Ze Zf ?_ (λbu env H w j=>?_)
  .refine G0 1 Z ?_;refine Lp [0,1] [1,5,6] (λT=>[(7,I T)]) Ze bk Zf (Lr [0,1]) λT cc k J=>?_;refine G0 6 Z (Lm Z (Go 3 Z (QW Z k (λai k=>?_) (λai k=>?_))))
   .refine Gc 2 Z (Qh k ?_);obtain rfl:=Oj J k;exact Gx 1 Z (Qn Z (Lr [0]))
   refine Gc 9 Z (Bd k λbl bm k=>?_);refine YH (b:=bl) [0,1] [1,5,6,7] Ze Ze Zf ?_ (λbv env H w j=>?_)
   .refine G0 1 Z ?_;refine Lp [0,1] [1,5,6,7] (λV=>[(8,I V)]) Ze bm Zf (Lr [0,1]) λV cd f L=>?_;refine G0 7 Z (Bd f λce aj f=>Iz aj Z (Go 1 Z (Lm Z (Go 3 Z (QW Z f (λak f=>?_) (λak f=>?_))))))
    .refine Gc 2 Z (Qh f ?_);obtain rfl:=Oj L f;exact Gx 1 Z (Qn Z (Lr [0,1]))
    refine Gc 5 Z (DSs 10 Z (D 5 Z ?_));obtain⟨bn,al,f⟩:=Yy f;refine DS.wo (x:=.rp [.rsl 4 (List.map Outcome.c bn)]) ?_ ?_
    .exact Ix al runUnderlying66 sizeOf88 Z Wp
    refine D 2 Z ?_;obtain⟨E,am,f⟩:=Yy f;refine DS.wo (x:=.rp [.bool E.Out,I E.Seg,I E.Lo,I E.Hi]) ?_ ?_
    .exact Ix am runUnderlying88 sizeOf146 Z Wp
    refine D 1 Z (Eh Z (Cz [] f (k_cb _ _ _) Z λcf bw f=>Go 3 Z (Cn Z f (λan f=>?_) (λan f=>?_))))
    .refine Gc 8 Z (Qm f ?_);obtain rfl:=Oj L f;refine Gx 1 Z (Qi (Gx 2 Z (Qm k ?_)));obtain rfl:=Oj J k;refine Gx 1 Z (Qi (Gx 2 Z (Qm d ?_)));obtain rfl:=Oj y d;exact Gx 1 Z (Qi (Gx 1 Z (Rt h 2 [])))
    exact Gc 8 Z (Qg f (Lr [0,1]))
   subst w;exact Gx 2 Z (Ef j (Gc 5 Z (Qg k (Lr [0,1]))))
  subst w;exact Gx 2 Z (Ef j (Gc 5 Z (Qg d (Lr [0]))))
 subst w;refine Gx 1 Z (Ef j (Gc 4 Z (Cz [] h (k_bu _ _) Z λcg bx h=>Go 3 Z (Cn Z h (λao h=>?_) (λao h=>?_)))))
 .exact Gc 7 Z (Rt h 2 [])
 exact Gc 8 Z (Rt h 2 [])
def F_en(n:Nat)(a:Course)(e:Field)(b:Int)(c:Int):Option Int:=
  (F_ad n a).bind λr1=>(bif (r1 != 0)then some r1 else((bif decide (b<0)then some true else(bif decide ((a.Distances.length:Int)<=b)then some true else(bif decide (c<(-1))then some true else some (decide ((a.Categories.length:Int)<=c))))):Option Bool).bind λf=>(bif f then some 310 else(F_ap n e).bind λd=>(bif (d != 0)then some 240 else some 0)))
theorem k_en(n:Nat)(g:Course)(i:Field)(j:Int)(k:Int)(r:Int)(h:F_en n g i j k=some r):
    Csm prog 41 [.agg (Course.c g),.agg (Field.c i),I j,I k] [] (λr=>I r) r:=by
 refine Qb func41 Z Z Z ?_;refine G0 10 Z (Cz [] h (k_ad _ _) Z λr1 t h=>Go 10 Z (Cn Z h (λl h=>?_) (λl h=>?_)))
 .exact Gc 8 Z (Rt h 8 [])
 refine Gc 4 Z (Bd h λb a h=>?_);refine Ct b [1] [5] (λb=>[(34,.bool b)]) Ze Zf ?_ (λenv H m=>?_)
 .refine G0 4 Z (Is 17 a Z (λp a=>?_) (λp a=>?_))
  .exact Go 18 Z (Cl a [1])
  .refine Go 3 Z (Lm Z (Go 3 Z (Is 24 a Z (λq a=>?_) (λq a=>?_))))
   .exact Go 11 Z (Cl a [1])
   .refine Go 4 Z (Is 28 a Z (λd a=>?_) (λd a=>?_))
    .exact Go 7 Z (Cl a [1])
    .exact Go 3 Z (Lm Z (Go 3 Z (Cl a [1])))
 refine Gx 1 Z (Ef m (Cn Z h (λe h=>?_) (λe h=>?_)))
 .exact Gc 7 Z (Rt h 8 [])
 refine Gc 6 Z (Cz [] h (k_ap _ _) Z λu s h=>Go 3 Z (Cn Z h (λf h=>?_) (λf h=>?_)))
 .exact Gc 7 Z (Rt h 8 [])
 exact Gc 8 Z (Rt h 8 [])
def F_ms(n:Nat)(b:Field)(c:Int)(a:Int):Option (Ctl Int (Ctl Unit Bool)):=
  (bif decide (a<(b.Runners.length:Int))then((idx b.Runners a).bind λd=>(bif decide ((d.Worlds.length:Int)<=c)then some true else(idx b.Runners a).bind λe=>(idx e.Worlds c).bind λf=>some ((f.length:Int)==0)):Option Bool).bind λg=>(bif g then some (.done (.done false))else some (.cont (IntKind.i64.wrap (a+1))))else some (.done (.cont ())))
def F_bm(n:Nat)(c:Field)(b:Int):Option Bool:=
  ((bif decide (b<0)then some true else some (decide ((c.Pairs.length:Int)<b))):Option Bool).bind λe=>(bif e then some false else(iter (F_ms n c b) n 0:Option (Ctl Unit Bool)).bind λd=>match d with|.cont a=>(some true)|.done a=>some a)
theorem k_bm(n:Nat)(u:Field)(w:Int)(r:Bool)(h:F_bm n u w=some r):
    Csm prog 84 [.agg (Field.c u),I w] [] (λr=>.bool r) r:=by
 refine Qb func84 Z Z Z ?_;refine G0 8 Z (Bd h λk f h=>?_);refine Ct k [0] [1,2] (λk=>[(14,.bool k)]) Ze Zf ?_ (λenv H e=>?_)
 .refine G0 4 Z (Is 8 f Z (λx f=>?_) (λx f=>?_))
  .exact Go 7 Z (Cl f [0])
  .exact Go 3 Z (Lm Z (Go 3 Z (Cl f [0])))
 refine Gx 1 Z (Ef e (Cn Z h (λy h=>?_) (λy h=>?_)))
 .exact Gc 7 Z (Rt h 4 [])
 refine Gc 8 Z (Bd h λz B h=>?_);refine YH (b:=z) [] [] Ze Ze Zf ?_ (λF env H E e=>?_)
 .refine G0 1 Z ?_;refine Lp [0] [1,2] (λj=>[(5,I j)]) Ze B Zf (Lr [0]) λj G a g=>?_;refine G0 6 Z (Lm Z (Go 3 Z (QW Z a (λl a=>?_) (λl a=>?_))))
  .refine Gc 2 Z (Qh a ?_);obtain rfl:=Oj g a;exact Gx 1 Z (Qn Z (Lr []))
  refine Gc 5 Z (Bd a λi d a=>?_);refine Ct i [0] [1,2,5] (λi=>[(43,.bool i)]) Ze Zf ?_ (λenv H e=>?_)
  .refine G0 5 Z (Bd d λJ m d=>Iz m Z (Go 2 Z (Lm Z (Go 2 Z (Is 31 d Z (λp d=>?_) (λp d=>?_))))))
   .exact Go 13 Z (Cl d [0])
   .exact Go 3 Z (Bd d λL q d=>Iz q Z (Go 3 Z (Bd d λM s d=>Iz s Z (Go 1 Z (Lm Z (Go 3 Z (Cl d [0])))))))
  refine Gx 1 Z (Ef e (Cn Z a (λt a=>?_) (λt a=>?_)))
  .refine Gc 8 Z (Qm a ?_);obtain rfl:=Oj g a;exact Gx 1 Z (Qi (Gx 1 Z (Rt h 4 [])))
  exact Gc 8 Z (Qg a (Lr [0]))
 subst E;exact Gx 1 Z (Ef e (Gc 6 Z (Rt h 4 [])))
def F_mc(n:Nat)(b:List Int)(a:Int):Option (Ctl Int (Ctl Unit Bool)):=
  (bif decide (a<(b.length:Int))then((idx b a).bind λc=>(bif decide (c<(-1125899906842624))then some true else(idx b a).bind λd=>some (decide (1125899906842624<d))):Option Bool).bind λe=>(bif e then some (.done (.done false))else some (.cont (IntKind.i64.wrap (a+1))))else some (.done (.cont ())))
def F_mf(n:Nat)(h:Field)(b:List Int)(c:Int)(a:Int):Option (Ctl Int (Ctl Unit (Ctl Int (Ctl Unit Bool)))):=
  (bif decide (a<(b.length:Int))then(idx b a).bind λd=>(idx b c).bind λe=>(idx h.Clocks.Far c).bind λf=>(idx f a).bind λg=>(bif decide (g<(IntKind.i64.wrap (d-e)))then some (.done (.done (.done (.done false))))else some (.cont (IntKind.i64.wrap (a+1))))else some (.done (.cont ())))
def F_md(n:Nat)(e:Field)(c:List Int)(a:Int):Option (Ctl Int (Ctl Unit Bool)):=
  (bif decide (a<(c.length:Int))then(iter (F_mf n e c a) n 0:Option (Ctl Unit (Ctl Int (Ctl Unit Bool)))).bind λd=>match d with|.cont b=>(some (.cont (IntKind.i64.wrap (a+1))))|.done b=>some b else some (.done (.cont ())))
def F_mi(n:Nat)(i:Field)(e:History)(c:Int):Option (Ctl Int (Ctl Unit Bool)):=
  (bif decide (c<(e.Choices.length:Int))then(idx i.Runners c).bind λf=>(idx f.Worlds e.World).bind λd=>(idx e.Choices c).bind λa=>((bif decide (a.Outcome<0)then some true else some (decide ((d.length:Int)<=a.Outcome))):Option Bool).bind λg=>(bif g then some (.done (.done false))else(idx d a.Outcome).bind λb=>((bif b.Out then(bif (a.X != 0)then some true else(bif (!b.Out)then(bif decide (a.X<b.Lo)then some true else some (decide (b.Hi<a.X)))else some false))else(bif (!b.Out)then(bif decide (a.X<b.Lo)then some true else some (decide (b.Hi<a.X)))else some false)):Option Bool).bind λh=>(bif h then some (.done (.done false))else some (.cont (IntKind.i64.wrap (c+1)))))else some (.done (.cont ())))
def F_et(n:Nat)(c:Field)(d:History):Option Bool:=
  ((F_bm n c d.World).bind λj=>(bif (!j)then some true else(bif ((d.Offsets.length:Int) != (c.Clocks.Segments.length:Int))then some true else some ((d.Choices.length:Int) != (c.Runners.length:Int)))):Option Bool).bind λk=>(bif k then some false else(app [0] d.Offsets).bind λf=>(iter (F_mc n f) n 0:Option (Ctl Unit Bool)).bind λi=>match i with|.cont e=>((iter (F_md n c f) n 0:Option (Ctl Unit Bool)).bind λg=>match g with|.cont a=>((iter (F_mi n c d) n 0:Option (Ctl Unit Bool)).bind λh=>match h with|.cont b=>(some true)|.done b=>some b)|.done a=>some a)|.done e=>some e)
theorem k_et(n:Nat)(a1:Field)(a2:History)(r:Bool)(h:F_et n a1 a2=some r):
    Csm prog 53 [.agg (Field.c a1),.agg (History.c a2)] [] (λr=>.bool r) r:=by
 refine Qb func53 Z Z Z ?_;refine G0 9 Z (Bd h λb4 l h=>?_);refine Ct b4 [0,1] [2,3] (λb4=>[(36,.bool b4)]) Ze Zf ?_ (λenv H g=>?_)
 .refine G0 4 Z (Cz [] l (k_bm _ _ _) Z λr6 bu l=>Go 2 Z (Is 18 l Z (λbd l=>?_) (λbd l=>?_)))
  .exact Go 19 Z (Cl l [0,1])
  .refine Go 2 Z (Lm Z (Go 3 Z (Lm Z (Go 3 Z (Is 28 l Z (λbe l=>?_) (λbe l=>?_))))))
   .exact Go 9 Z (Cl l [0,1])
   .exact Go 2 Z (Lm Z (Go 2 Z (Lm Z (Go 3 Z (Cl l [0,1])))))
 refine Gx 1 Z (Ef g (Cn Z h (λbf h=>?_) (λbf h=>?_)))
 .exact Gc 7 Z (Rt h 4 [])
 refine Gc 4 Z ?_;refine vH (El (xs:=[.const (.int .i64 0)]) (es:=List.map (Qd .i64) [0]) Qs Z Z Z Z Z ⟨Z,trivial⟩ Z Z) ?_;refine FE Z (Go 2 Z (Bd h λal am h=>?_));refine vH (Qt (e:=(Qd .i64)) am Qs runUnderlying32 Qcn) ?_;refine FE Z (Go 9 Z (Bd h λbg bh h=>?_));refine YH (b:=bg) [0,1,2] [2,3] (λ_=>[(5,.osl 2 0 al.length 1)]) (λ_=>[(2,.row 3 1 (List.map (Qd .i64) al))]) Zf ?_ (λbn env H m g=>?_)
 .refine G0 1 Z ?_;refine Lp [0,1,3] [2,3,5] (λz=>[(6,I z)]) Ze bh Zf (Lr [0,1,3]) λz bv j J=>?_;refine G0 9 Z (QW Z j (λan j=>?_) (λan j=>?_))
  .refine Gc 2 Z (Qh j ?_);obtain rfl:=Oj J j;exact Gx 1 Z (Qn Z (Lr [0,1,2]))
  refine Gc 5 Z (Bd j λL k j=>?_);refine Ct L [0,1,2] [2,3,5,6] (λL=>[(58,.bool L)]) Ze Zf ?_ (λenv H g=>?_)
  .refine G0 3 Z (Bd k λbi M k=>?_);refine vX (.ptr 2 (Int.toNat z*1)) (QG M Z runUnderlying32 sizeOf3) ?_;refine vX (I bi) (Ez Z isAgg3 Z (Qo M)) ?_;refine Go 2 Z (Is 52 k Z (λao k=>?_) (λao k=>?_))
   .exact Go 7 Z (Cl k [0,1,2])
   .refine Go 2 Z (Bd k λbj N k=>?_);refine vX (.ptr 2 (Int.toNat z*1)) (QG N Z runUnderlying32 sizeOf3) ?_ (gT Z);refine vX (I bj) (Ez Z isAgg3 Z (Qo N)) ?_ (gT Z);exact Go 3 Z (Cl k [0,1,2])
  refine Gx 1 Z (Ef g (Cn Z j (λaq j=>?_) (λaq j=>?_)))
  .refine Gc 8 Z (Qm j ?_);obtain rfl:=Oj J j;exact Gx 1 Z (Qi (Gx 1 Z (Rt h 4 [])))
  exact Gc 8 Z (Qg j (Lr [0,1,2]))
 subst m;refine Gx 1 Z (Ef g (Gc 6 Z (Bd h λar au h=>?_)));refine YH (b:=ar) [0,1] [2,3] Ze Ze Zf ?_ (λbk env H m g=>?_)
 .refine G0 1 Z ?_;refine Lp [0,1,2] [2,3,5] (λs=>[(7,I s)]) Ze au Zf (Lr [0,1,2]) λs bo i B=>?_;refine G0 9 Z (QW Z i (λP i=>?_) (λP i=>?_))
  .refine Gc 2 Z (Qh i ?_);obtain rfl:=Oj B i;exact Gx 1 Z (Qn Z (Lr [0,1]))
  refine Gc 9 Z (Bd i λav aw i=>?_);refine YH (b:=av) [0,1,2] [2,3,5,7] Ze Ze Zf ?_ (λbl env H m g=>?_)
  .refine G0 1 Z ?_;refine Lp [0,1,2] [2,3,5,7] (λt=>[(8,I t)]) Ze aw Zf (Lr [0,1,2]) λt bp f E=>?_;refine G0 9 Z (QW Z f (λQ f=>?_) (λQ f=>?_))
   .refine Gc 2 Z (Qh f ?_);obtain rfl:=Oj E f;exact Gx 1 Z (Qn Z (Lr [0,1,2]))
   refine Gc 5 Z (DSs 18 Z (D 2 Z ?_));obtain⟨ax,F,f⟩:=Yy f;refine DS.v (x:=(.ptr 2 (Int.toNat t*1))) (QG F Z runUnderlying32 sizeOf3) ?_;refine DS.v (x:=(I ax)) (Ez Z isAgg3 Z (Qo F)) ?_;refine D 2 Z ?_;obtain⟨ay,G,f⟩:=Yy f;refine DS.v (x:=(.ptr 2 (Int.toNat s*1))) (QG G Z runUnderlying32 sizeOf3) ?_;refine DS.v (x:=(I ay)) (Ez Z isAgg3 Z (Qo G)) ?_;refine D 5 Z ?_;obtain⟨az,R,f⟩:=Yy f;refine DS.wo (x:=.rp [.rsl 1 (List.map (Qd .i64) az)]) ?_ ?_
   .exact Ix R runUnderlying23 sizeOf32 Z Wp
   refine D 2 Z ?_;obtain⟨ba,T,f⟩:=Yy f;refine DS.wo (x:=.rp [I ba]) ?_ ?_
   .exact Ix T runUnderlying32 sizeOf3 Z Wp
   refine D 1 Z (Eh Z (Go 3 Z (Cn Z f (λV f=>?_) (λV f=>?_))))
   .refine Gc 8 Z (Qm f ?_);obtain rfl:=Oj E f;refine Gx 1 Z (Qi (Gx 2 Z (Qm i ?_)));obtain rfl:=Oj B i;exact Gx 1 Z (Qi (Gx 1 Z (Rt h 4 [])))
   exact Gc 8 Z (Qg f (Lr [0,1,2]))
  subst m;exact Gx 2 Z (Ef g (Gc 5 Z (Qg i (Lr [0,1,2]))))
 subst m;refine Gx 1 Z (Ef g (Gc 6 Z (Bd h λbb bc h=>?_)));refine YH (b:=bb) [] [] Ze Ze Zf ?_ (λbm env H m g=>?_)
 .refine G0 1 Z ?_;refine Lp [0,1] [2,3] (λO=>[(9,I O)]) Ze bc Zf (Lr [0,1]) λO bq a q=>?_;refine G0 6 Z (Lm Z (Go 3 Z (QW Z a (λW a=>?_) (λW a=>?_))))
  .refine Gc 2 Z (Qh a ?_);obtain rfl:=Oj q a;exact Gx 1 Z (Qn Z (Lr []))
  refine Gc 5 Z (DSs 8 Z (D 3 Z ?_));obtain⟨u,X,a⟩:=Yy a;refine DS.wo (x:=.rp [I u.Bib,.rsl 1 (List.map (Qd .i64) u.Keys),.rsl 1 (List.map (YF 4 Outcome.c) u.Worlds)]) ?_ ?_
  .exact Ix X runUnderlying27 sizeOf68 Z Wp
  refine D 4 Z (Eh Z (Bd a λbr Y a=>Iz Y Z (Go 9 Z (Bd a λbs aa a=>Iz aa Z (Go 7 Z (Bd a λw p a=>?_))))));refine Ct w [0,1,2] [2,3,9,10,11] (λw=>[(121,.bool w)]) Ze Zf ?_ (λenv H g=>?_)
  .refine G0 5 Z (Is 115 p Z (λab p=>?_) (λab p=>?_))
   .exact Go 7 Z (Cl p [0,1,2])
   .exact Go 3 Z (Lm Z (Go 3 Z (Cl p [0,1,2])))
  refine Gx 1 Z (Ef g (Cn Z a (λac a=>?_) (λac a=>?_)))
  .refine Gc 9 Z (Qm a ?_);obtain rfl:=Oj q a;exact Gx 1 Z (Qi (Gx 1 Z (Rt h 4 [])))
  refine Gc 7 Z (Bd a λbt ad a=>Iz ad Z (Go 6 Z (Bd a λy d a=>?_)));refine Ct y [0,1] [2,3,9] (λy=>[(152,.bool y)]) Ze Zf ?_ (λenv H g=>?_)
  .refine G0 4 Z (Is 129 d Z (λae d=>?_) (λae d=>?_))
   .refine Go 5 Z (Is 134 d Z (λaf d=>?_) (λaf d=>?_))
    .exact Go 19 Z (Cl d [0,1])
    .refine Go 4 Z (Is 138 d Z (λag d=>?_) (λag d=>?_))
     .refine Go 6 Z (Is 144 d Z (λah d=>?_) (λah d=>?_))
      .exact Go 9 Z (Cl d [0,1])
      .exact Go 9 Z (Cl d [0,1])
     .exact Go 15 Z (Cl d [0,1])
   .refine Go 9 Z (Is 138 d Z (λai d=>?_) (λai d=>?_))
    .refine Go 6 Z (Is 144 d Z (λaj d=>?_) (λaj d=>?_))
     .exact Go 9 Z (Cl d [0,1])
     .exact Go 9 Z (Cl d [0,1])
    .exact Go 15 Z (Cl d [0,1])
  refine Gx 1 Z (Ef g (Cn Z a (λak a=>?_) (λak a=>?_)))
  .refine Gc 8 Z (Qm a ?_);obtain rfl:=Oj q a;exact Gx 1 Z (Qi (Gx 1 Z (Rt h 4 [])))
  exact Gc 8 Z (Qg a (Lr [0,1]))
 subst m;exact Gx 1 Z (Ef g (Gc 6 Z (Rt h 4 [])))
def F_dq(n:Nat)(a:Field)(b:History):Option Int:=
  (F_ap n a).bind λr1=>(bif (r1 != 0)then some 240 else(F_et n a b).bind λc=>(bif (!c)then some 260 else some 0))
theorem k_dq(n:Nat)(a:Field)(b:History)(r:Int)(h:F_dq n a b=some r):
    Csm prog 24 [.agg (Field.c a),.agg (History.c b)] [] (λr=>I r) r:=by
 refine Qb func24 Z Z Z ?_;refine G0 11 Z (Cz [] h (k_ap _ _) Z λr1 f h=>Go 3 Z (Cn Z h (λd h=>?_) (λd h=>?_)))
 .exact Gc 7 Z (Rt h 4 [])
 refine Gc 7 Z (Cz [] h (k_et _ _ _) Z λi g h=>Go 3 Z (Cn Z h (λe h=>?_) (λe h=>?_)))
 .exact Gc 7 Z (Rt h 4 [])
 exact Gc 8 Z (Rt h 4 [])
def F_im(n:Nat)(c:Field)(a:History)(b:Int):Option Outcome:=
  (idx c.Runners b).bind λd=>(idx d.Worlds a.World).bind λe=>(idx a.Choices b).bind λf=>(idx e f.Outcome).bind λg=>some g
theorem k_im(n:Nat)(b:Field)(d:History)(e:Int)(r:Outcome)(h:F_im n b d e=some r):
    C prog 131 [.agg (Field.c b),.agg (History.c d),I e] [] (RQ (λr=>.agg (Outcome.c r)) (λr=>[.cells 146 (Outcome.c r)]) r):=by
 refine Qb func131 Z Z Z ?_;refine G0 8 Z (DSs 16 Z (D 3 Z ?_));obtain⟨a,f,h⟩:=Yy h;refine DS.wo (x:=.rp [I a.Bib,.rsl 1 (List.map (Qd .i64) a.Keys),.rsl 1 (List.map (YF 4 Outcome.c) a.Worlds)]) ?_ ?_
 .exact Ix f runUnderlying27 sizeOf68 Z Wp
 refine D 4 Z ?_;obtain⟨l,g,h⟩:=Yy h;refine DS.wo (x:=.rp [.rsl 4 (List.map Outcome.c l)]) ?_ ?_
 .exact Ix g runUnderlying66 sizeOf88 Z Wp
 refine D 4 Z ?_;obtain⟨i,j,h⟩:=Yy h;refine DS.wo (x:=.rp [I i.Outcome,I i.X]) ?_ ?_
 .exact Ix j runUnderlying57 sizeOf87 Z Wp
 refine D 2 Z (Eh Z (Bd h λm k h=>Iz k Z (Go 5 Z ?_)));obtain rfl:=Oi h;exact Rx [2] [6] Z (QV Z (QB isAgg146 sizeOf146 Z Z Z)) ⟨Z,Z⟩
def F_hl(n:Nat)(b:History)(a:Outcome):Option Int:=
  (bif decide (a.Seg<0)then some 0 else(idx b.Offsets a.Seg).bind λc=>some c)
theorem k_hl(n:Nat)(a:History)(b:Outcome)(r:Int)(h:F_hl n a b=some r):
    Csm prog 132 [.agg (History.c a),.agg (Outcome.c b)] [] (λr=>I r) r:=by
 refine Qb func132 Z Z Z ?_;refine G0 15 Z (Cn Z h (λd h=>?_) (λd h=>?_))
 .exact Gc 7 Z (Rt h 4 [])
 exact Gc 8 Z (Bd h λf e h=>Iz e Z (Go 5 Z (Rt h 4 [])))
def F_ah(n:Nat)(c:Field)(a:History)(b:Int):Option (Int×Bool):=
  (F_im n c a b).bind λr1=>(bif r1.Out then some (0,false)else(idx a.Choices b).bind λd=>(F_hl n a r1).bind λe=>some (IntKind.i64.wrap (d.X+e),true))
theorem k_ah(n:Nat)(a:Field)(b:History)(d:Int)(r:Int×Bool)(h:F_ah n a b d=some r):
    Csm prog 81 [.agg (Field.c a),.agg (History.c b),I d] [] (λr=>.tup [I r.1,.bool r.2]) r:=by
 refine Qb func81 Z Z Z ?_;refine G0 13 Z (Cd [] h (k_im _ _ _ _) Z λr1 i h=>FE Z (Go 11 Z (Cn Z h (λe h=>?_) (λe h=>?_))))
 .refine Gc 8 Z ?_;obtain rfl:=Oi h;exact R2 6 7 Z Z (Lr [])
 refine Gc 3 Z (DSs 9 Z (D 3 Z ?_));obtain⟨f,g,h⟩:=Yy h;refine DS.wo (x:=.rp [I f.Outcome,I f.X]) ?_ ?_
 .exact Ix g runUnderlying57 sizeOf87 Z Wp
 refine D 4 Z ?_;refine Dz [] h (k_hl _ _ _) Z λk j h=>Eh Z (Go 6 Z ?_);obtain rfl:=Oi h;exact R2 6 7 Z Z (Lr [])
def F_eb(n:Nat)(b:List Int)(c:List Int)(a:Int):Option (Ctl Int (Ctl Unit Bool)):=
  ((bif decide (a<(b.length:Int))then some (decide (a<(c.length:Int)))else some false):Option Bool).bind λd=>(bif d then(idx b a).bind λe=>(idx c a).bind λf=>(bif (e != f)then(idx b a).bind λg=>(idx c a).bind λh=>some (.done (.done (decide (g<h))))else some (.cont (IntKind.i64.wrap (a+1))))else some (.done (.cont ())))
def F_ey(n:Nat)(b:List Int)(c:List Int):Option Bool:=
  (iter (F_eb n b c) n 0:Option (Ctl Unit Bool)).bind λd=>match d with|.cont a=>(some (decide ((b.length:Int)<(c.length:Int))))|.done a=>some a
theorem k_ey(n:Nat)(s:List Int)(t:List Int)(r:Bool)(h:F_ey n s t=some r):
    Csm prog 133 [.rsl 1 (List.map (Qd .i64) s),.rsl 1 (List.map (Qd .i64) t)] [] (λr=>.bool r) r:=by
 refine Qb func133 Z Z Z ?_;refine G0 11 Z (Bd h λu w h=>?_);refine YH (b:=u) [] [0,1] Ze Ze Zf ?_ (λG env H y d=>?_)
 .refine G0 1 Z ?_;refine Lp [] [0,1] (λg=>[(5,I g)]) Ze w Zf (Lr []) λg J a e=>?_;refine G0 2 Z (Bd a λf c a=>?_);refine Ct f [] [0,1,5] (λf=>[(15,.bool f)]) Ze Zf ?_ (λenv H d=>?_)
  .refine G0 3 Z (Lm Z (Go 2 Z (Is 10 c Z (λi c=>?_) (λi c=>?_))))
   .exact Go 2 Z (Lm Z (Go 3 Z (Cl c [])))
   .exact Go 6 Z (Cl c [])
  refine Gx 1 Z (Ef d (QW Z a (λj a=>?_) (λj a=>?_)))
  .refine Gc 2 Z (Qh a ?_);obtain rfl:=Oj e a;exact Gx 1 Z (Qn Z (Lr []))
  refine Gc 5 Z (DSs 8 Z (D 2 Z ?_));obtain⟨z,k,a⟩:=Yy a;refine DS.wo (x:=.rp [I z]) ?_ ?_
  .exact Ix k runUnderlying32 sizeOf3 Z Wp
  refine D 3 Z ?_;obtain⟨B,l,a⟩:=Yy a;refine DS.wo (x:=.rp [I B]) ?_ ?_
  .exact Ix l runUnderlying32 sizeOf3 Z Wp
  refine D 1 Z (Eh Z (Go 3 Z (Cn Z a (λm a=>?_) (λm a=>?_))))
  .refine Gc 1 Z (DSs 8 Z (D 2 Z ?_));obtain⟨E,p,a⟩:=Yy a;refine DS.wo (x:=.rp [I E]) ?_ ?_
   .exact Ix p runUnderlying32 sizeOf3 Z Wp
   refine D 3 Z ?_;obtain⟨F,q,a⟩:=Yy a;refine DS.wo (x:=.rp [I F]) ?_ ?_
   .exact Ix q runUnderlying32 sizeOf3 Z Wp
   refine D 1 Z (Eh Z (Go 7 Z (Qm a ?_)));obtain rfl:=Oj e a;exact Gx 1 Z (Qi (Gx 1 Z (Rt h 4 [])))
  exact Gc 8 Z (Qg a (Lr []))
 subst y;exact Gx 1 Z (Ef d (Gc 3 Z (Lm Z (Go 1 Z (Lm Z (Go 5 Z (Rt h 4 [])))))))
def F_iv(n:Nat)(a:Field)(b:History)(c:Int)(d:Int):Option Bool:=
  (F_ah n a b c).bind λr1=>(F_ah n a b d).bind λr2=>((bif (!r1.2)then some true else some (!r2.2)):Option Bool).bind λi=>(bif i then some r1.2 else((bif decide (r1.1<r2.1)then some true else(bif (r1.1==r2.1)then(idx a.Runners c).bind λe=>(idx a.Runners d).bind λf=>(F_ey n e.Keys f.Keys).bind λg=>some g else some false)):Option Bool).bind λh=>some h)
theorem k_iv(n:Nat)(j:Field)(t:History)(u:Int)(w:Int)(r:Bool)(h:F_iv n j t u w=some r):
    Csm prog 82 [.agg (Field.c j),.agg (History.c t),I u,I w] [] (λr=>.bool r) r:=by
 refine Qb func82 Z Z Z ?_;refine G0 12 Z (Cd [] h (k_ah _ _ _ _) Z λr1 E h=>FE Z (Go 12 Z (Cd [] h (k_ah _ _ _ _) Z λr2 F h=>FE Z (Go 9 Z (Bd h λk f h=>?_)))));refine Ct k [0] [2,3,4,9,10,11] (λk=>[(32,.bool k)]) Ze Zf ?_ (λenv H g=>?_)
 .refine G0 4 Z (Is 29 f Z (λy f=>?_) (λy f=>?_))
  .exact Go 4 Z (Cl f [0])
  .exact Go 4 Z (Cl f [0])
 refine Gx 1 Z (Ef g (Cn Z h (λz h=>?_) (λz h=>?_)))
 .exact Gc 8 Z (Rt h 8 [])
 refine Gc 3 Z (Bd h λi a h=>?_);refine Ct i [] [] (λi=>[(8,.bool i)]) Ze Zf ?_ (λenv H g=>?_)
 .refine G0 0 Z (DSs 20 Z (D 4 Z (Yr 3 a Z Z Z (λm a=>?_) (λm a=>?_))))
  .exact D 16 Z (Eh Z (Go 5 Z (Cl a [])))
  .refine D 4 Z (Yr 7 a Z Z Z (λp a=>?_) (λp a=>?_))
   .refine D 3 Z ?_;obtain⟨b,q,a⟩:=Yy a;refine DS.v (x:=(.rp [I b.Bib,.rsl 1 (List.map (Qd .i64) b.Keys),.rsl 1 (List.map (YF 4 Outcome.c) b.Worlds)])) (Yw (e:=Runner.c) (l:=j.Runners) (v:=b) q runUnderlying27 sizeOf68) ?_ (hg:=(gT Z));refine D 5 Z ?_;obtain⟨d,s,a⟩:=Yy a;refine DS.v (x:=(.rp [I d.Bib,.rsl 1 (List.map (Qd .i64) d.Keys),.rsl 1 (List.map (YF 4 Outcome.c) d.Worlds)])) (Yw (e:=Runner.c) (l:=j.Runners) (v:=d) s runUnderlying27 sizeOf68) ?_ (hg:=(gT Z));exact D 2 Z (Eh Z (Cz [] a (k_ey _ _ _) Z λG B a=>Go 4 Z (Cl a [])))
   .exact D 12 Z (Eh Z (Go 5 Z (Cl a [])))
 exact Gx 1 Z (Ef g (Gc 1 Z (Rt h 8 [])))
def F_mg(n:Nat)(b:Field)(e:History)(f:Int)(a:Int×Int):Option (Ctl (Int×Int) Int):=
  (bif decide (a.2<(b.Runners.length:Int))then(F_iv n b e a.2 f).bind λc=>((bif c then some (IntKind.i64.wrap (a.1+1))else some a.1):Option Int).bind λd=>some (.cont (d,IntKind.i64.wrap (a.2+1)))else some (.done a.1))
def F_dy(n:Nat)(a:Field)(b:History)(c:Int):Option Int:=
  (F_ah n a b c).bind λr1=>(bif (!r1.2)then some 0 else(iter (F_mg n a b c) n (1,0):Option Int).bind λd=>some d)
theorem k_dy(n:Nat)(l:Field)(m:History)(p:Int)(r:Int)(h:F_dy n l m p=some r):
    Csm prog 50 [.agg (Field.c l),.agg (History.c m),I p] [] (λr=>I r) r:=by
 refine Qb func50 Z Z Z ?_;refine G0 12 Z (Cd [] h (k_ah _ _ _ _) Z λr1 u h=>FE Z (Go 14 Z (Cn Z h (λq h=>?_) (λq h=>?_))))
 .exact Gc 7 Z (Rt h 6 [])
 refine Gc 13 Z (Bd h λd s h=>?_);refine Ct d [] [] (λd=>[(9,I d)]) Ze Zf ?_ (λenv H e=>?_)
 .refine G0 1 Z ?_;refine Lp [0,1] [2,3,4] (λf=>[(9,I f.1),(10,I f.2)]) Ze s Zf (Lr [0,1]) λf w a i=>?_;refine G0 6 Z (Lm Z (Go 3 Z (QW Z a (λj a=>?_) (λj a=>?_))))
  .refine Gc 2 Z (Qh a ?_);obtain rfl:=Oj i a;exact Gx 1 Z (QC (Lr []))
  refine Gc 10 Z (Cz [] a (k_iv _ _ _ _ _) Z λx t a=>Go 2 Z (Bd a λg b a=>?_));refine Ct g [0,1] [2,3,4,10] (λg=>[(9,I g)]) Ze Zf ?_ (λenv H e=>?_)
  .refine G0 0 Z (Cn Z b (λk b=>?_) (λk b=>?_))
   .exact Gc 5 Z (Cl b [0,1])
   exact Gc 1 Z (Cl b [0,1])
  exact Gx 2 Z (Ef e (Gc 5 Z (Qg a (Lr [0,1]))))
 exact Gx 1 Z (Ef e (Gc 7 Z (Rt h 6 [])))
def F_jf(n:Nat)(c:Course)(e:Int)(f:Int)(g:Int)(b:Int):Option (Ctl Int (Ctl Unit Int)):=
  (bif decide (b<(c.Prizes.length:Int))then(idx c.Prizes b).bind λa=>((bif (a.Distance==e)then(bif (a.Category==f)then some (a.Rank==g)else some false)else some false):Option Bool).bind λd=>(bif d then some (.done (.done a.Amount))else some (.cont (IntKind.i64.wrap (b+1))))else some (.done (.cont ())))
def F_cs(n:Nat)(c:Course)(d:Int)(e:Int)(f:Int):Option Int:=
  (iter (F_jf n c d e f) n 0:Option (Ctl Unit Int)).bind λb=>match b with|.cont a=>(some 0)|.done a=>some a
theorem k_cs(n:Nat)(q:Course)(s:Int)(t:Int)(u:Int)(r:Int)(h:F_cs n q s t u=some r):
    Csm prog 28 [.agg (Course.c q),I s,I t,I u] [] (λr=>I r) r:=by
 refine Qb func28 Z Z Z ?_;refine G0 12 Z (Bd h λw x h=>?_);refine YH (b:=w) [] [] Ze Ze Zf ?_ (λz env H y e=>?_)
 .refine G0 1 Z ?_;refine Lp [0] [1,2,3,4] (λi=>[(9,I i)]) Ze x Zf (Lr [0]) λi B a f=>?_;refine G0 6 Z (Lm Z (Go 3 Z (QW Z a (λj a=>?_) (λj a=>?_))))
  .refine Gc 2 Z (Qh a ?_);obtain rfl:=Oj f a;exact Gx 1 Z (Qn Z (Lr []))
  refine Gc 9 Z (Bd a λE k a=>Iz k Z (Go 6 Z (Bd a λg d a=>?_)));refine Ct g [0,1] [1,2,3,4,9,10] (λg=>[(38,.bool g)]) Ze Zf ?_ (λenv H e=>?_)
  .refine G0 6 Z (Is 27 d Z (λl d=>?_) (λl d=>?_))
   .refine Go 6 Z (Is 33 d Z (λm d=>?_) (λm d=>?_))
    .exact Go 6 Z (Cl d [0,1])
    .exact Go 6 Z (Cl d [0,1])
   .exact Go 12 Z (Cl d [0,1])
  refine Gx 1 Z (Ef e (Cn Z a (λp a=>?_) (λp a=>?_)))
  .refine Gc 10 Z (Qm a ?_);obtain rfl:=Oj f a;exact Gx 1 Z (Qi (Gx 1 Z (Rt h 8 [])))
  exact Gc 8 Z (Qg a (Lr [0]))
 subst y;exact Gx 1 Z (Ef e (Gc 6 Z (Rt h 8 [])))
def F_aa(n:Nat)(a:Int):Option Int:=
  ((bif decide (1125899906842624<a)then some true else some (decide (a<(-1125899906842624)))):Option Bool).bind λb=>(bif b then some 300 else some 0)
theorem k_aa(n:Nat)(c:Int)(r:Int)(h:F_aa n c=some r):
    Csm prog 83 [I c] [] (λr=>I r) r:=by
 refine Qb func83 Z Z Z ?_;refine G0 7 Z (Bd h λb a h=>?_);refine Ct b [] [] (λb=>[(8,.bool b)]) Ze Zf ?_ (λenv H d=>?_)
 .refine G0 4 Z (Is 5 a Z (λe a=>?_) (λe a=>?_))
  .exact Go 4 Z (Cl a [])
  .exact Go 4 Z (Cl a [])
 refine Gx 1 Z (Ef d (Cn Z h (λf h=>?_) (λf h=>?_)))
 .exact Gc 7 Z (Rt h 2 [])
 exact Gc 8 Z (Rt h 2 [])
def F_li(n:Nat)(b:List Int)(a:Int×Int):Option (Ctl (Int×Int) (Ctl Int (Int×Int))):=
  (bif decide (a.2<(b.length:Int))then((idx b a.2).bind λc=>(F_aa n c).bind λd=>(bif (d != 0)then some true else(idx b a.2).bind λe=>(F_aa n (IntKind.i64.wrap (a.1+e))).bind λf=>some (f != 0)):Option Bool).bind λg=>(bif g then some (.done (.done (0,300)))else(idx b a.2).bind λh=>some (.cont (IntKind.i64.wrap (a.1+h),IntKind.i64.wrap (a.2+1))))else some (.done (.cont a.1)))
def F_fc(n:Nat)(c:List Int):Option (Int×Int):=
  (iter (F_li n c) n (0,0):Option (Ctl Int (Int×Int))).bind λb=>match b with|.cont a=>(some (a,0))|.done a=>some a
theorem k_fc(n:Nat)(s:List Int)(r:Int×Int)(h:F_fc n s=some r):
    Csm prog 51 [.rsl 1 (List.map (Qd .i64) s)] [] (λr=>.tup [I r.1,I r.2]) r:=by
 refine Qb func51 Z Z Z ?_;refine G0 17 Z (Bd h λt u h=>?_);refine YH (b:=t) [] [] (λd=>[(4,I d)]) Ze Zf ?_ (λd env H w e=>?_)
 .refine G0 1 Z ?_;refine Lp [] [0] (λf=>[(4,I f.1),(5,I f.2)]) Ze u Zf (Lr []) λf z a g=>?_;refine G0 5 Z (Lm Z (Go 3 Z (QW Z a (λj a=>?_) (λj a=>?_))))
  .refine Gc 2 Z (Qh a ?_);obtain rfl:=Oj g a;exact Gx 1 Z (Qn Z (Lr []))
  refine Gc 6 Z (Bd a λi c a=>?_);refine Ct i [] [0,4,5] (λi=>[(27,.bool i)]) Ze Zf ?_ (λenv H e=>?_)
  .refine G0 3 Z (Bd c λB k c=>Iz k Z (Go 1 Z (Cz [] c (k_aa _ _) Z λE x c=>Go 2 Z (Is 18 c Z (λl c=>?_) (λl c=>?_)))))
   .exact Go 10 Z (Cl c [])
   .exact Go 3 Z (Bd c λF m c=>Iz m Z (Go 2 Z (Cz [] c (k_aa _ _) Z λG y c=>Go 3 Z (Cl c []))))
  refine Gx 1 Z (Ef e (Cn Z a (λp a=>?_) (λp a=>?_)))
  .refine Gc 10 Z (Qm a ?_);obtain rfl:=Oj g a;refine Gx 1 Z (Qi (Gx 1 Z ?_));obtain rfl:=Oi h;exact R2 2 3 Z Z (Lr [])
  exact Gc 6 Z (Bd a λJ q a=>Iz q Z (Go 11 Z (Qg a (Lr []))))
 subst w;refine Gx 1 Z (Ef e (Gc 8 Z ?_));obtain rfl:=Oi h;exact R2 2 3 Z Z (Lr [])
def F_lz(n:Nat)(b:List Int)(a:Int×Int):Option (Ctl (Int×Int) (Ctl Int ((List Int)×Int))):=
  (bif decide (a.2<(b.length:Int))then((idx b a.2).bind λc=>(bif decide (c<0)then some true else(idx b a.2).bind λd=>some (decide (1000<d))):Option Bool).bind λe=>(bif e then some (.done (.done ([],1)))else(idx b a.2).bind λf=>some (.cont (IntKind.i64.wrap (a.1+f),IntKind.i64.wrap (a.2+1))))else some (.done (.cont a.1)))
def F_mw(n:Nat)(c:Int)(e:List Int)(b:Int)(a:(List Int)×(List Int)×Int×Int):Option (Ctl ((List Int)×(List Int)×Int×Int) ((List Int)×(List Int)×Int)):=
  (bif decide (a.2.2.2<(e.length:Int))then(idx e a.2.2.2).bind λf=>(nz b).bind λj=>(app a.1 [IntKind.i64.wrap (Int.tdiv (IntKind.i64.wrap ((if c<IntKind.i64.wrap (0-c)then IntKind.i64.wrap (0-c)else c)*f)) b)]).bind λd=>(idx e a.2.2.2).bind λg=>(nz b).bind λk=>(app a.2.1 [Int.tmod (IntKind.i64.wrap ((if c<IntKind.i64.wrap (0-c)then IntKind.i64.wrap (0-c)else c)*g)) b]).bind λh=>(idx d a.2.2.2).bind λi=>some (.cont (d,h,IntKind.i64.wrap (a.2.2.1-i),IntKind.i64.wrap (a.2.2.2+1)))else some (.done (a.1,a.2.1,a.2.2.1)))
def F_lr(n:Nat)(b:(List Int)×(List Int)×Int)(a:Int×Int):Option (Ctl (Int×Int) Int):=
  (bif decide (a.2<(b.2.1.length:Int))then(idx b.2.1 a.2).bind λc=>(idx b.2.1 a.1).bind λd=>((bif decide (d<c)then some a.2 else some a.1):Option Int).bind λe=>some (.cont (e,IntKind.i64.wrap (a.2+1)))else some (.done a.1))
def F_lq(n:Nat)(a:(List Int)×(List Int)×Int):Option (Ctl ((List Int)×(List Int)×Int) (List Int)):=
  (bif decide (0<a.2.2)then(iter (F_lr n a) n (0,1):Option Int).bind λb=>(idx a.1 b).bind λc=>(idx a.1 b).bind λf=>(Qbz a.1 b (IntKind.i64.wrap (c+1))).bind λd=>(idx a.2.1 b).bind λg=>(Qbz a.2.1 b (-1)).bind λe=>some (.cont (d,e,IntKind.i64.wrap (a.2.2-1)))else some (.done a.1))
def F_na(n:Nat)(e:Int)(a:(List Int)×Int):Option (Ctl ((List Int)×Int) (List Int)):=
  ((bif decide (a.2<(a.1.length:Int))then some (decide (e<0))else some false):Option Bool).bind λb=>(bif b then(idx a.1 a.2).bind λc=>(idx a.1 a.2).bind λf=>(Qbz a.1 a.2 (IntKind.i64.wrap (0-c))).bind λd=>some (.cont (d,IntKind.i64.wrap (a.2+1)))else some (.done a.1))
def F_es(n:Nat)(b:Int)(d:List Int):Option ((List Int)×Int):=
  (F_aa n b).bind λr1=>(bif (r1 != 0)then some ([],300)else(iter (F_lz n d) n (0,0):Option (Ctl Int ((List Int)×Int))).bind λg=>match g with|.cont a=>(((bif decide ((d.length:Int)<1)then some true else(bif decide (256<(d.length:Int))then some true else some (a==0))):Option Bool).bind λh=>(bif h then some ([],1)else(iter (F_mw n b d a) n (([]:List Int),([]:List Int),(if b<IntKind.i64.wrap (0-b)then IntKind.i64.wrap (0-b)else b),0):Option ((List Int)×(List Int)×Int)).bind λc=>(iter (F_lq n) n (c.1,c.2.1,c.2.2):Option (List Int)).bind λe=>(iter (F_na n b) n (e,0):Option (List Int)).bind λf=>some (f,0)))|.done a=>some a)
theorem k_es(n:Nat)(m:Int)(a2:List Int)(r:(List Int)×Int)(h:F_es n m a2=some r):
    C prog 52 [I m,.rsl 1 (List.map (Qd .i64) a2)] [] (RQ (λr=>.tup [.osl 0 0 r.1.length 1,I r.2]) (λr=>[.row 3 1 (List.map (Qd .i64) r.1)]) r):=by
 refine Qb func52 Z Z Z ?_;refine G0 10 Z (Cz [] h (k_aa _ _) Z λr1 ci h=>Go 3 Z (Cn Z h (λbs h=>?_) (λbs h=>?_)))
 .refine Gc 8 Z ?_;obtain rfl:=Oi h;refine R2 4 5 Z Z ?_;refine En (Er (s:=4) (k:=1) (t:=3) (XZ Z) Z) ?_;exact Lr [0]
 refine Gc 13 Z (Bd h λbt bu h=>?_);refine YH (b:=bt) [] [0,1] (λz=>[(6,I z)]) Ze Zf ?_ (λz env H bv g=>?_)
 .refine G0 1 Z ?_;refine Lp [] [0,1] (λac=>[(6,I ac.1),(7,I ac.2)]) Ze bu Zf (Lr []) λac cj l ad=>?_;refine G0 5 Z (Lm Z (Go 3 Z (QW Z l (λau l=>?_) (λau l=>?_))))
  .refine Gc 2 Z (Qh l ?_);obtain rfl:=Oj ad l;exact Gx 1 Z (Qn Z (Lr []))
  refine Gc 6 Z (Bd l λae u l=>?_);refine Ct ae [] [0,1,6,7] (λae=>[(36,.bool ae)]) Ze Zf ?_ (λenv H g=>?_)
  .refine G0 3 Z (Bd u λck av u=>Iz av Z (Go 3 Z (Is 30 u Z (λaw u=>?_) (λaw u=>?_))))
   .exact Go 7 Z (Cl u [])
   .exact Go 2 Z (Bd u λcl ax u=>Iz ax Z (Go 4 Z (Cl u [])))
  refine Gx 1 Z (Ef g (Cn Z l (λay l=>?_) (λay l=>?_)))
  .refine Gc 10 Z (Qm l ?_);obtain rfl:=Oj ad l;refine Gx 1 Z (Qi (Gx 1 Z ?_));obtain rfl:=Oi h;refine R2 4 5 Z Z ?_;refine En (Er (s:=4) (k:=1) (t:=3) (XZ Z) Z) ?_;exact Lr [0]
  exact Gc 6 Z (Bd l λcm az l=>Iz az Z (Go 11 Z (Qg l (Lr []))))
 subst bv;refine Gx 1 Z (Ef g (Gc 2 Z (Bd h λaf w h=>?_)));refine Ct af [] [0,1,6] (λaf=>[(54,.bool af)]) Ze Zf ?_ (λenv H g=>?_)
 .refine G0 2 Z (Lm Z (Go 2 Z (Is 46 w Z (λba w=>?_) (λba w=>?_))))
  .exact Go 9 Z (Cl w [])
  .refine Go 1 Z (Lm Z (Go 3 Z (Is 51 w Z (λbb w=>?_) (λbb w=>?_))))
   .exact Go 4 Z (Cl w [])
   .exact Go 4 Z (Cl w [])
 refine Gx 1 Z (Ef g (Cn Z h (λbc h=>?_) (λbc h=>?_)))
 .refine Gc 8 Z ?_;obtain rfl:=Oi h;refine R2 4 5 Z Z ?_;refine En (Er (s:=4) (k:=1) (t:=3) (XZ Z) Z) ?_;exact Lr [0]
 refine Gc 7 Z ?_;refine vX (I (if m<IntKind.i64.wrap (0-m)then IntKind.i64.wrap (0-m)else m)) (OpV.max Z Z Z Z) ?_;refine Go 5 Z ?_;refine vH (El (xs:=[]) (es:=List.map (Qd .i64) []) Qs Z Z Z Z Z trivial Z Z) ?_;refine FE Z (Go 5 Z ?_);refine vH (El (xs:=[]) (es:=List.map (Qd .i64) []) Qs Z Z Z Z Z trivial Z Z) ?_;refine FE Z (Go 15 Z (Bd h λE bw h=>?_));refine Ct E [0,1] [0] (λE=>[(9,.osl 0 0 E.1.length 1),(10,.osl 1 0 E.2.1.length 1),(11,I E.2.2)]) (λE=>[(0,.row 3 1 (List.map (Qd .i64) E.1)),(1,.row 3 1 (List.map (Qd .i64) E.2.1))]) Zf ?_ (λenv H g=>?_)
 .refine G0 1 Z ?_;refine Lp [0,1] [0,1,6,8] (λy=>[(9,.osl 0 0 y.1.length 1),(10,.osl 1 0 y.2.1.length 1),(11,I y.2.2.1),(12,I y.2.2.2)]) (λy=>[(0,.row 3 1 (List.map (Qd .i64) y.1)),(1,.row 3 1 (List.map (Qd .i64) y.2.1))]) bw Zf (Lr [0,1]) λy cn c bd=>?_;refine G0 5 Z (Lm Z (Go 3 Z (QW Z c (λbe c=>?_) (λbe c=>?_))))
  .refine Gc 2 Z (Qh c ?_);obtain rfl:=Oj bd c;exact Gx 1 Z (QC (Lr [0,1]))
  refine Gc 10 Z (Bd c λaq bf c=>Iz bf Z (Go 3 Z (Bd c λco bg c=>?_)));refine vV (x:=(I (IntKind.i64.wrap (Int.tdiv (IntKind.i64.wrap ((if m<IntKind.i64.wrap (0-m)then IntKind.i64.wrap (0-m)else m)*aq)) z)))) (OpV.quo Z Z Z (Qjd bg)) ?_;refine vH (El (xs:=[.tmp 76]) (es:=List.map (Qd .i64) [IntKind.i64.wrap (Int.tdiv (IntKind.i64.wrap ((if m<IntKind.i64.wrap (0-m)then IntKind.i64.wrap (0-m)else m)*aq)) z)]) Qs Z Z Z Z Z ⟨Z,trivial⟩ Z Z) ?_;refine FE Z (Bd c λcp bh c=>?_);refine vH (Qt (e:=(Qd .i64)) bh Qs runUnderlying32 (Yd (i:=2))) ?_;refine FE Z (Go 9 Z (Bd c λar bi c=>Iz bi Z (Go 3 Z (Bd c λcq bj c=>?_))));refine vV (x:=(I (Int.tmod (IntKind.i64.wrap ((if m<IntKind.i64.wrap (0-m)then IntKind.i64.wrap (0-m)else m)*ar)) z))) (OpV.rem Z Z Z (Qjd bj)) ?_;refine vH (El (xs:=[.tmp 87]) (es:=List.map (Qd .i64) [Int.tmod (IntKind.i64.wrap ((if m<IntKind.i64.wrap (0-m)then IntKind.i64.wrap (0-m)else m)*ar)) z]) Qs Z Z Z Z Z ⟨Z,trivial⟩ Z Z) ?_;refine FE Z (Bd c λcr bk c=>?_);refine vH (Qt (e:=(Qd .i64)) bk Qs runUnderlying32 (Yd (i:=4))) ?_;refine FE Z (Go 7 Z (Bd c λbx ag c=>?_));refine vX (.ptr 3 (Int.toNat y.2.2.2*1)) (QG ag Z runUnderlying32 sizeOf3) ?_;refine vX (I bx) (Ez Z isAgg3 Z (Qo ag)) ?_;exact Go 10 Z (Qg c (Lr [3,5]))
 refine Gx 1 Z (Ef g (Gc 1 Z (Bd h λJ bl h=>?_)));refine Ct J [0] [0] (λJ=>[(9,.osl 0 0 J.length 1)]) (λJ=>[(0,.row 3 1 (List.map (Qd .i64) J))]) Zf ?_ (λenv H g=>?_)
 .refine G0 1 Z ?_;refine Lp [0,1] [0] (λp=>[(9,.osl 0 0 p.1.length 1),(10,.osl 1 0 p.2.1.length 1),(11,I p.2.2)]) (λp=>[(0,.row 3 1 (List.map (Qd .i64) p.1)),(1,.row 3 1 (List.map (Qd .i64) p.2.1))]) bl Zf (Lr [0,1]) λp bz a ah=>?_;refine G0 7 Z (QW Z a (λai a=>?_) (λai a=>?_))
  .refine Gc 2 Z (Qh a ?_);obtain rfl:=Oj ah a;exact Gx 1 Z (QC (Lr [0]))
  refine Gc 14 Z (Bd a λB bm a=>?_);refine Ct B [0,1] [0,9,10,11] (λB=>[(13,I B)]) Ze Zf ?_ (λenv H g=>?_)
  .refine G0 1 Z ?_;refine Lp [0,1] [0,9,10,11] (λL=>[(13,I L.1),(14,I L.2)]) Ze bm Zf (Lr [0,1]) λL ca j aj=>?_;refine G0 9 Z (QW Z j (λak j=>?_) (λak j=>?_))
   .refine Gc 2 Z (Qh j ?_);obtain rfl:=Oj aj j;exact Gx 1 Z (QC (Lr [0,1]))
   refine Gc 5 Z (DSs 8 Z (D 2 Z ?_));obtain⟨bn,T,j⟩:=Yy j;refine DS.v (x:=(.ptr 1 (Int.toNat L.2*1))) (QG T Z runUnderlying32 sizeOf3) ?_;refine DS.v (x:=(I bn)) (Ez Z isAgg3 Z (Qo T)) ?_;refine D 2 Z ?_;obtain⟨bo,V,j⟩:=Yy j;refine DS.v (x:=(.ptr 1 (Int.toNat L.1*1))) (QG V Z runUnderlying32 sizeOf3) ?_;refine DS.v (x:=(I bo)) (Ez Z isAgg3 Z (Qo V)) ?_;refine Eh Z (Go 3 Z (Bd j λQ M j=>?_));refine Ct Q [0,1] [0,9,10,11,14] (λQ=>[(13,I Q)]) Ze Zf ?_ (λenv H g=>?_)
   .refine G0 0 Z (Cn Z M (λal M=>?_) (λal M=>?_))
    .exact Gc 4 Z (Cl M [0,1])
    exact Gc 1 Z (Cl M [0,1])
   exact Gx 2 Z (Ef g (Gc 5 Z (Qg j (Lr [0,1]))))
  refine Gx 1 Z (Ef g (Gc 6 Z (Bd a λbp W a=>?_)));refine vX (.ptr 0 (Int.toNat B*1)) (QG W Z runUnderlying32 sizeOf3) ?_;refine vX (I bp) (Ez Z isAgg3 Z (Qo W)) ?_;refine Go 1 Z (Bd a λcb X a=>?_);refine vX (.ptr 0 (Int.toNat B*1)) (QG X Z runUnderlying32 sizeOf3) ?_;refine Bd a λcc F a=>?_;refine vU (Jf (e:=(Qd .i64)) (k:=1) (f:=0) X F sizeOf3 Z Z) ?_;refine FE Z ?_;refine Et (QQ (s:=9) Z (congrArg (λn=>A.osl 0 0 n 1) (Qah F))) ?_;refine Et (QQ (s:=114) Z (congrArg (λn=>A.osl 0 0 n 1) (Qah F))) ?_;refine Et (QQ (s:=116) Z (congrArg (λn=>A.osl 0 0 n 1) (Qah F))) ?_;refine Go 6 Z (Bd a λcd Y a=>?_);refine vX (.ptr 1 (Int.toNat B*1)) (QG Y Z runUnderlying32 sizeOf3) ?_;refine Bd a λce P a=>?_;refine vU (Jf (e:=(Qd .i64)) (k:=1) (f:=0) Y P sizeOf3 Z Z) ?_;refine FE Z ?_;refine Et (QQ (s:=10) Z (congrArg (λn=>A.osl 1 0 n 1) (Qah P))) ?_;refine Et (QQ (s:=122) Z (congrArg (λn=>A.osl 1 0 n 1) (Qah P))) ?_;exact Go 8 Z (Qg a (Lr [0,1]))
 refine Gx 1 Z (Ef g (Gc 6 Z (Bd h λN bq h=>?_)));refine Ct N [0] [] (λN=>[(9,.osl 0 0 N.length 1)]) (λN=>[(0,.row 3 1 (List.map (Qd .i64) N))]) Zf ?_ (λenv H g=>?_)
 .refine G0 1 Z ?_;refine Lp [0] [0] (λq=>[(9,.osl 0 0 q.1.length 1),(15,I q.2)]) (λq=>[(0,.row 3 1 (List.map (Qd .i64) q.1))]) bq Zf (Lr [0]) λq cf d am=>?_;refine G0 2 Z (Bd d λR O d=>?_);refine Ct R [0] [0,9,15] (λR=>[(134,.bool R)]) Ze Zf ?_ (λenv H g=>?_)
  .refine G0 6 Z (Is 131 O Z (λan O=>?_) (λan O=>?_))
   .exact Go 4 Z (Cl O [0])
   .exact Go 4 Z (Cl O [0])
  refine Gx 1 Z (Ef g (QW Z d (λao d=>?_) (λao d=>?_)))
  .refine Gc 2 Z (Qh d ?_);obtain rfl:=Oj am d;exact Gx 1 Z (QC (Lr [0]))
  refine Gc 9 Z (Bd d λbr aa d=>?_);refine vX (.ptr 0 (Int.toNat q.2*1)) (QG aa Z runUnderlying32 sizeOf3) ?_;refine vX (I br) (Ez Z isAgg3 Z (Qo aa)) ?_;refine Go 1 Z (Bd d λcg ab d=>?_);refine vX (.ptr 0 (Int.toNat q.2*1)) (QG ab Z runUnderlying32 sizeOf3) ?_;refine Bd d λch G d=>?_;refine vU (Jf (e:=(Qd .i64)) (k:=1) (f:=0) ab G sizeOf3 Z Z) ?_;refine FE Z ?_;refine Et (QQ (s:=9) Z (congrArg (λn=>A.osl 0 0 n 1) (Qah G))) ?_;refine Et (QQ (s:=137) Z (congrArg (λn=>A.osl 0 0 n 1) (Qah G))) ?_;refine Et (QQ (s:=139) Z (congrArg (λn=>A.osl 0 0 n 1) (Qah G))) ?_;exact Go 8 Z (Qg d (Lr [0]))
 refine Gx 1 Z (Ef g (Gc 8 Z ?_));obtain rfl:=Oi h;exact R2 4 5 Z Z (Lr [0])
def F_gn(n:Nat)(b:List Payment)(e:Payment)(a:Int):Option (Ctl Int Int):=
  ((bif decide (a<(b.length:Int))then(idx b a).bind λc=>some (decide (c.Bib<e.Bib))else some false):Option Bool).bind λd=>(bif d then some (.cont (IntKind.i64.wrap (a+1)))else some (.done a))
def F_dg(n:Nat)(a:List Payment)(c:Payment):Option (List Payment):=
  (iter (F_gn n a c) n 0:Option Int).bind λb=>(slc a 0 b).bind λd=>(app ([]:List Payment) d).bind λe=>(app e [c]).bind λf=>(slc a b (a.length:Int)).bind λg=>(app f g).bind λh=>some h
theorem k_dg(n:Nat)(s:List Payment)(d:Payment)(r:List Payment)(h:F_dg n s d=some r):
    C prog 43 [.rsl 2 (List.map Payment.c s),.agg (Payment.c d)] [] (RQ (λr=>.osl 0 0 r.length 2) (λr=>[.row 65 2 (List.map Payment.c r)]) r):=by
 refine Qb func43 Z Z Z ?_;refine G0 12 Z (Bd h λi L h=>?_);refine Ct i [0] [0,3] (λi=>[(5,I i)]) Ze Zf ?_ (λenv H j=>?_)
 .refine G0 1 Z ?_;refine Lp [0] [0,3] (λt=>[(5,I t)]) Ze L Zf (Lr [0]) λt M a y=>?_;refine G0 2 Z (Bd a λk b a=>?_);refine Ct k [0] [0,3,5] (λk=>[(19,.bool k)]) Ze Zf ?_ (λenv H j=>?_)
  .refine G0 0 Z (DSs 12 Z (D 2 Z ?_));refine DS.wo (x:=I (s.length:Int)) ?_ ?_
   .exact LnM runUnderlying51 Z Wp
   refine D 2 Z (Yr 4 b Z Z Z (λz b=>?_) (λz b=>?_))
   .refine D 2 Z ?_;obtain⟨m,B,b⟩:=Yy b;refine DS.v (x:=(.rp [I m.Bib,I m.Amount])) (Yw (e:=Payment.c) (l:=s) (v:=m) B runUnderlying51 sizeOf65) ?_ (hg:=(gT Z));exact D 4 Z (Eh Z (Go 3 Z (Cl b [0])))
   .exact D 7 Z (Eh Z (Go 3 Z (Cl b [0])))
  refine Gx 1 Z (Ef j (QW Z a (λE a=>?_) (λE a=>?_)))
  .refine Gc 2 Z (Qh a ?_);obtain rfl:=Oj y a;exact Gx 1 Z (QC (Lr [0]))
  exact Gc 9 Z (Qg a (Lr [0]))
 refine Gx 1 Z (Ef j (Gc 1 Z (DKs 11 [0,4,7] [(1,0,0),(0,0,1),(0,0,1),(0,0,1),(1,1,0),(0,0,2),(0,0,2),(1,2,0),(0,0,3),(0,0,3),(0,0,3)] (by kernel_rfl) ?_)));refine DK.op (x:=.osl 1 0 (([]:List Payment).length) 2) (X1:=[.cells 65 (Payment.c d),.row 65 2 (List.map Payment.c ([]:List Payment))]) ?_ ?_
 .refine vH (El (xs:=[]) (es:=List.map Payment.c []) QaO Z Z Z Z Z trivial Z Z) ?_;exact FE Z Wp
 refine Dk 2 Z ?_;obtain⟨p,q,h⟩:=Yy h;refine QjQ (lo:=0) (hi:=1) (x:=.rsl 2 (List.map Payment.c p)) ⟨?_,?_,trivial⟩ ?_
 .refine vX (.rsl 2 (List.map Payment.c p)) (Qba q runUnderlying51 sizeOf65 (.inl ⟨Z,Z⟩) (.inr ⟨_,Z,Z⟩)) ?_;exact Wp
 .refine vX (.rsl 2 (List.map Payment.c p)) (Qba q runUnderlying51 sizeOf65 (.inl ⟨Z,Z⟩) (.inr ⟨_,Z,Z⟩)) ?_;exact Wp
 obtain⟨u,F,h⟩:=Yy h;refine DK.op (x:=.osl 2 0 u.length 2) (X1:=[.cells 65 (Payment.c d),.dead,.row 65 2 (List.map Payment.c u)]) ?_ ?_
 .refine vH (Qt (e:=Payment.c) F QaO runUnderlying51 Qcn) ?_;exact FE Z Wp
 refine Dks (lo:=0) (hi:=2) (x:=.agg (Payment.c d)) ⟨Z,Z,Z,trivial⟩ ?_;refine QjQ (lo:=0) (hi:=2) (x:=.rsl 2 (List.map Payment.c [d])) ⟨?_,?_,?_,trivial⟩ ?_
 .refine vH (QaH (xs:=[.tmp 27]) (es:=List.map Payment.c [d]) QaO Z Z Z Z Z ⟨Z,trivial⟩ Z Z) ?_;exact FE Z Wp
 .refine vH (QaH (xs:=[.tmp 27]) (es:=List.map Payment.c [d]) QaO Z Z Z Z Z ⟨Z,trivial⟩ Z Z) ?_;exact FE Z Wp
 .refine vH (QaH (xs:=[.tmp 27]) (es:=List.map Payment.c [d]) QaO Z Z Z Z Z ⟨Z,trivial⟩ Z Z) ?_;exact FE Z Wp
 obtain⟨w,G,h⟩:=Yy h;refine DK.op (x:=.osl 3 0 w.length 2) (X1:=[.cells 65 (Payment.c d),.dead,.dead,.row 65 2 (List.map Payment.c w)]) ?_ ?_
 .refine vH (Qt (e:=Payment.c) G QaO runUnderlying51 Qcn) ?_;exact FE Z Wp
 refine Dk 2 Z ?_;obtain⟨g,f,h⟩:=Yy h;refine QjQ (lo:=0) (hi:=3) (x:=.rsl 2 (List.map Payment.c g)) ⟨?_,?_,?_,?_,trivial⟩ ?_
 .refine vX (.rsl 2 (List.map Payment.c g)) (Qba f runUnderlying51 sizeOf65 (.inr ⟨_,Z,Z⟩) (.inl ⟨Z,Z⟩)) ?_;exact Wp
 .refine vX (.rsl 2 (List.map Payment.c g)) (Qba f runUnderlying51 sizeOf65 (.inr ⟨_,Z,Z⟩) (.inl ⟨Z,Z⟩)) ?_;exact Wp
 .refine vX (.rsl 2 (List.map Payment.c g)) (Qba f runUnderlying51 sizeOf65 (.inr ⟨_,Z,Z⟩) (.inl ⟨Z,Z⟩)) ?_;exact Wp
 .refine vX (.rsl 2 (List.map Payment.c g)) (Qba f runUnderlying51 sizeOf65 (.inr ⟨_,Z,Z⟩) (.inl ⟨Z,Z⟩)) ?_;exact Wp
 refine DK.done Z Z (Bd h λN J h=>?_);refine vH (Qt (e:=Payment.c) J QaO runUnderlying51 Qcn) ?_;exact FE Z (Go 4 Z (Rt h 4 [4]))
def F_lo(n:Nat)(c:Field)(i:History)(d:(List Payment)×Int)(a:(List Int)×(List Int)×Int):Option (Ctl ((List Int)×(List Int)×Int) ((List Int)×(List Int))):=
  (bif decide (a.2.2<(c.Runners.length:Int))then(F_dy n c i a.2.2).bind λe=>((bif (e==d.2)then(idx c.Runners a.2.2).bind λf=>(app a.1 [f.Bib]).bind λg=>(app a.2.1 [1]).bind λh=>some (g,h)else some (a.1,a.2.1)):Option ((List Int)×(List Int))).bind λb=>some (.cont (b.1,b.2,IntKind.i64.wrap (a.2.2+1)))else some (.done (a.1,a.2.1)))
def F_ks(n:Nat)(f:Course)(g:Int)(h:Int)(b:(List Payment)×Int)(c:(List Int)×(List Int))(a:(List Int)×Int):Option (Ctl ((List Int)×Int) (List Int)):=
  (bif decide (a.2<(c.1.length:Int))then(F_cs n f g h (IntKind.i64.wrap (b.2+a.2))).bind λd=>(app a.1 [d]).bind λe=>some (.cont (e,IntKind.i64.wrap (a.2+1)))else some (.done a.1))
def F_jd(n:Nat)(b:(List Int)×(List Int))(c:(List Int)×Int)(a:(List Payment)×Int):Option (Ctl ((List Payment)×Int) (List Payment)):=
  (bif decide (a.2<(b.1.length:Int))then(idx c.1 a.2).bind λd=>((bif decide (0<d)then(idx b.1 a.2).bind λe=>(idx c.1 a.2).bind λf=>(F_dg n a.1 ({Bib:=e,Amount:=f:Payment})).bind λg=>some g else some a.1):Option (List Payment)).bind λh=>some (.cont (h,IntKind.i64.wrap (a.2+1)))else some (.done a.1))
def F_ce(n:Nat)(j:Course)(i:Field)(k:Int)(l:Int)(m:History)(a:(List Payment)×Int):Option (Ctl ((List Payment)×Int) (Ctl (List Payment) ((List Payment)×Int))):=
  (bif decide (a.2<=(i.Runners.length:Int))then((iter (F_lo n i m a) n (([]:List Int),([]:List Int),0):Option ((List Int)×(List Int))).bind λb=>(bif ((b.1.length:Int)==0)then some (.cont a.1)else(iter (F_ks n j k l a b) n (([]:List Int),0):Option (List Int)).bind λf=>(F_fc n f).bind λd=>(bif (d.2 != 0)then some (.done (.done (.done ([],d.2))))else(F_es n d.1 b.2).bind λe=>(bif (e.2 != 0)then some (.done (.done (.done ([],e.2))))else(iter (F_jd n b e) n (a.1,0):Option (List Payment)).bind λg=>some (.cont g)))):Option (Ctl (List Payment) (Ctl ((List Payment)×Int) (Ctl (List Payment) ((List Payment)×Int))))).bind λh=>match h with|.cont c=>(some (.cont (c,IntKind.i64.wrap (a.2+1))))|.done c=>some c else some (.done (.cont a.1)))
def F_cp(n:Nat)(d:Course)(b:Field)(e:Int)(f:Int)(g:History):Option ((List Payment)×Int):=
  (F_en n d b e f).bind λr1=>(bif (r1 != 0)then some ([],r1)else(F_dq n b g).bind λh=>(bif (h != 0)then some ([],h)else(iter (F_ce n d b e f g) n (([]:List Payment),1):Option (Ctl (List Payment) ((List Payment)×Int))).bind λc=>match c with|.cont a=>(some (a,0))|.done a=>some a))
theorem k_cp(n:Nat)(a1:Course)(a2:Field)(a3:Int)(a4:Int)(a5:History)(r:(List Payment)×Int)(h:F_cp n a1 a2 a3 a4 a5=some r):
    C prog 23 [.agg (Course.c a1),.agg (Field.c a2),I a3,I a4,.agg (History.c a5)] [] (RQ (λr=>.tup [.osl 0 0 r.1.length 2,I r.2]) (λr=>[.row 65 2 (List.map Payment.c r.1)]) r):=by
 refine Qb func23 Z Z Z ?_;refine G0 15 Z (Cz [] h (k_en _ _ _ _ _) Z λr1 bq h=>Go 10 Z (Cn Z h (λay h=>?_) (λay h=>?_)))
 .refine Gc 9 Z ?_;obtain rfl:=Oi h;refine R2 10 11 Z Z ?_;refine En (Er (s:=10) (k:=2) (t:=65) (XZ Z) Z) ?_;exact Lr [3]
 refine Gc 6 Z (Cz [] h (k_dq _ _ _) Z λr3 br h=>Go 10 Z (Cn Z h (λaz h=>?_) (λaz h=>?_)))
 .refine Gc 9 Z ?_;obtain rfl:=Oi h;refine R2 10 11 Z Z ?_;refine En (Er (s:=10) (k:=2) (t:=65) (XZ Z) Z) ?_;exact Lr [3]
 refine Gc 4 Z ?_;refine vH (El (xs:=[]) (es:=List.map Payment.c []) QaO Z Z Z Z Z trivial Z Z) ?_;refine FE Z (Go 9 Z (Bd h λak al h=>?_));refine YH (b:=ak) [3] [] (λz=>[(14,.osl 0 0 z.length 2)]) (λz=>[(0,.row 65 2 (List.map Payment.c z))]) Zf ?_ (λz env H ba p=>?_)
 .refine G0 1 Z ?_;refine Lp [0,1,2,3] [2,3,5,6,9] (λE=>[(14,.osl 3 0 E.1.length 2),(15,I E.2)]) (λE=>[(3,.row 65 2 (List.map Payment.c E.1))]) al Zf (Lr [0,1,2,3]) λE bf d M=>?_;refine G0 6 Z (Lm Z (Go 3 Z (QW Z d (λQ d=>?_) (λQ d=>?_))))
  .refine Gc 2 Z (Qh d ?_);obtain rfl:=Oj M d;exact Gx 1 Z (Qn Z (Lr [3]))
  refine Gc 3 Z (Bd d λam a d=>?_);refine YH (b:=am) [0,1,2,3] [2,3,5,6,9,15] (λB=>[(14,.osl 3 0 B.length 2)]) (λB=>[(3,.row 65 2 (List.map Payment.c B))]) Zf ?_ (λB env H hb p=>?_)
  .refine G0 3 Z ?_;refine vH (El (xs:=[]) (es:=List.map (Qd .i64) []) Qs Z Z Z Z Z trivial Z Z) ?_;refine FE Z (Go 5 Z ?_);refine vH (El (xs:=[]) (es:=List.map (Qd .i64) []) Qs Z Z Z Z Z trivial Z Z) ?_;refine FE Z (Go 9 Z (Bd a λu an a=>?_));refine Ct u [0,1,2,3,4,5] [2,3,5,6,9,14,15] (λu=>[(16,.osl 4 0 u.1.length 1),(17,.osl 5 0 u.2.length 1)]) (λu=>[(4,.row 3 1 (List.map (Qd .i64) u.1)),(5,.row 3 1 (List.map (Qd .i64) u.2))]) Zf ?_ (λenv H p=>?_)
   .refine G0 1 Z ?_;refine Lp [0,1,2,3,4,5] [2,3,5,6,9,14,15] (λw=>[(16,.osl 4 0 w.1.length 1),(17,.osl 5 0 w.2.1.length 1),(18,I w.2.2)]) (λw=>[(4,.row 3 1 (List.map (Qd .i64) w.1)),(5,.row 3 1 (List.map (Qd .i64) w.2.1))]) an Zf (Lr [0,1,2,3,4,5]) λw bg j R=>?_;refine G0 6 Z (Lm Z (Go 3 Z (QW Z j (λT j=>?_) (λT j=>?_))))
    .refine Gc 2 Z (Qh j ?_);obtain rfl:=Oj R j;exact Gx 1 Z (QC (Lr [0,1,2,3,4,5]))
    refine Gc 9 Z (Cz [] j (k_dy _ _ _ _) Z λbh bb j=>Go 4 Z (Bd j λy f j=>?_));refine Ct y [0,1,2,3,0,0] [2,3,5,6,9,14,15,18] (λy=>[(16,.osl 4 0 y.1.length 1),(17,.osl 5 0 y.2.length 1)]) (λy=>[(4,.row 3 1 (List.map (Qd .i64) y.1)),(5,.row 3 1 (List.map (Qd .i64) y.2))]) Zf ?_ (λenv H p=>?_)
    .refine G0 0 Z (Cn Z f (λV f=>?_) (λV f=>?_))
     .refine Gc 6 Z (Bd f λao W f=>Iz W Z (Go 2 Z ?_));refine vH (El (xs:=[.tmp 69]) (es:=List.map (Qd .i64) [ao.Bib]) Qs Z Z Z Z Z ⟨Z,trivial⟩ Z Z) ?_;refine FE Z (Bd f λbi X f=>?_);refine vH (Qt (e:=(Qd .i64)) X Qs runUnderlying32 (Yd (i:=6))) ?_;refine FE Z (Go 5 Z ?_);refine vH (El (xs:=[.const (.int .i64 1)]) (es:=List.map (Qd .i64) [1]) Qs Z Z Z Z Z ⟨Z,trivial⟩ Z Z) ?_;refine FE Z (Bd f λbj Y f=>?_);refine vH (Qt (e:=(Qd .i64)) Y Qs runUnderlying32 (Yd (i:=8))) ?_;exact FE Z (Go 2 Z (Cl f [0,1,2,3,7,9]))
     exact Gc 1 Z (Cl f [0,1,2,3,4,5])
    exact Gx 2 Z (Ef p (Gc 5 Z (Qg j (Lr [0,1,2,3,4,5]))))
   refine Gx 1 Z (Ef p (Gc 8 Z (Cn Z a (λaa a=>?_) (λaa a=>?_))))
   .refine Gc 3 Z ?_;cases a;exact Qn Z (Lr [0,1,2,3])
   refine Gc 4 Z ?_;refine vH (El (xs:=[]) (es:=List.map (Qd .i64) []) Qs Z Z Z Z Z trivial Z Z) ?_;refine FE Z (Go 9 Z (Bd a λF aq a=>?_));refine Ct F [0,1,2,3,4,5,6] [2,3,5,6,9,14,15,16,17] (λF=>[(19,.osl 6 0 F.length 1)]) (λF=>[(6,.row 3 1 (List.map (Qd .i64) F))]) Zf ?_ (λenv H p=>?_)
   .refine G0 1 Z ?_;refine Lp [0,1,2,3,4,5,6] [2,3,5,6,9,14,15,16,17] (λG=>[(19,.osl 6 0 G.1.length 1),(20,I G.2)]) (λG=>[(6,.row 3 1 (List.map (Qd .i64) G.1))]) aq Zf (Lr [0,1,2,3,4,5,6]) λG bk l ab=>?_;refine G0 9 Z (QW Z l (λac l=>?_) (λac l=>?_))
    .refine Gc 2 Z (Qh l ?_);obtain rfl:=Oj ab l;exact Gx 1 Z (QC (Lr [0,1,2,3,4,5,6]))
    refine Gc 12 Z (Cz [] l (k_cs _ _ _ _ _) Z λar bc l=>?_);refine vH (El (xs:=[.tmp 92]) (es:=List.map (Qd .i64) [ar]) Qs Z Z Z Z Z ⟨Z,trivial⟩ Z Z) ?_;refine FE Z (Bd l λbl ad l=>?_);refine vH (Qt (e:=(Qd .i64)) ad Qs runUnderlying32 (Yd (i:=7))) ?_;exact FE Z (Go 9 Z (Qg l (Lr [0,1,2,3,4,5,8])))
   refine Gx 1 Z (Ef p (Gc 3 Z (Bd a λbm ae a=>?_)));refine QcN (OpC.fn call51 rfl rfl rfl) (Qbc.cons rfl (.inr ⟨_,_,_,_,_,rfl,rfl,Va ..,rfl⟩) Qbc.nil) (k_fc _ _ _ ae) (by rintro _ _ ⟨rfl,rfl⟩;rfl) ?_;rintro _ _ ⟨rfl,rfl⟩;refine FE Z (Go 14 Z (Cn Z a (λaf a=>?_) (λaf a=>?_)))
   .refine Gc 10 Z ?_;cases a;refine Qi (Gx 1 Z (Qm d ?_));obtain rfl:=Oj M d;refine Gx 1 Z (Qi (Gx 1 Z ?_));obtain rfl:=Oi h;refine R2 10 11 Z Z ?_;refine En (Er (s:=10) (k:=2) (t:=65) (XZ Z) Z) ?_;exact Lr [7]
   refine Gc 6 Z ?_;refine Et (YD [(17,_),(105,_)] Z Z (Qm6.cons Z Ep (Qm6.cons Z Ep Qm6.nil)) (Ec (Ec (Ec (Ec (Ec (Ec (Ya _)))))))) ?_;refine Cd [] a (k_es _ _ _) Z λbn bd a=>FE Z (Go 14 Z (Cn Z a (λag a=>?_) (λag a=>?_)))
   .refine Gc 10 Z ?_;cases a;refine Qi (Gx 1 Z (Qm d ?_));obtain rfl:=Oj M d;refine Gx 1 Z (Qi (Gx 1 Z ?_));obtain rfl:=Oi h;refine R2 10 11 Z Z ?_;refine En (Er (s:=10) (k:=2) (t:=65) (XZ Z) Z) ?_;exact Lr [8]
   refine Gc 7 Z (Bd a λJ au a=>?_);refine Ct J [0,1,2,3] [2,3,5,6,9,15] (λJ=>[(14,.osl 3 0 J.length 2)]) (λJ=>[(3,.row 65 2 (List.map Payment.c J))]) Zf ?_ (λenv H p=>?_)
   .refine G0 1 Z ?_;refine Lp [0,1,2,3,4,7] [2,3,5,6,9,15,16,23] (λq=>[(14,.osl 3 0 q.1.length 2),(25,I q.2)]) (λq=>[(3,.row 65 2 (List.map Payment.c q.1))]) au Zf (Lr [0,1,2,3,4,7]) λq bo m ah=>?_;refine G0 9 Z (QW Z m (λai m=>?_) (λai m=>?_))
    .refine Gc 2 Z (Qh m ?_);obtain rfl:=Oj ah m;exact Gx 1 Z (QC (Lr [0,1,2,3]))
    refine Gc 8 Z (Bd m λav N m=>?_);refine vX (.ptr 5 (Int.toNat q.2*1)) (QG N Z runUnderlying32 sizeOf3) ?_;refine vX (I av) (Ez Z isAgg3 Z (Qo N)) ?_;refine Go 3 Z (Bd m λL g m=>?_);refine Ct L [0,1,2,0,4,5] [2,3,5,6,9,15,16,23,25] (λL=>[(14,.osl 3 0 L.length 2)]) (λL=>[(3,.row 65 2 (List.map Payment.c L))]) Zf ?_ (λenv H p=>?_)
    .refine G0 0 Z (Cn Z g (λaj g=>?_) (λaj g=>?_))
     .refine DSs 10 Z (D 3 Z ?_);obtain⟨aw,O,g⟩:=Yy g;refine DS.v (x:=(.ptr 4 (Int.toNat q.2*1))) (QG O Z runUnderlying32 sizeOf3) ?_;refine DS.v (x:=(I aw)) (Ez Z isAgg3 Z (Qo O)) ?_;refine D 2 Z ?_;obtain⟨ax,P,g⟩:=Yy g;refine DS.v (x:=(.ptr 5 (Int.toNat q.2*1))) (QG P Z runUnderlying32 sizeOf3) ?_;refine DS.v (x:=(I ax)) (Ez Z isAgg3 Z (Qo P)) ?_;refine D 1 Z (Eh Z ?_);refine Et (YD [(14,_),(123,_)] Z Z (Qm6.cons Z Ep (Qm6.cons Z Ep Qm6.nil)) (Ec (Ec (Ec (Ec (Ya _)))))) ?_;exact Cd [] g (k_dg _ _ _) Z λbp be g=>FE Z (Go 2 Z (Cl g [0,1,2,6,4,5]))
     exact Gc 1 Z (Cl g [0,1,2,3,4,5])
    exact Gx 2 Z (Ef p (Gc 5 Z (Qg m (Lr [0,1,2,3,4,5]))))
   refine Gx 1 Z ?_;cases a;exact Qn Z (En p (Lr [0,1,2,3]))
  subst hb;exact Gx 1 Z (Ef p (Gc 5 Z (Qg d (Lr [0,1,2,3]))))
 subst ba;refine Gx 1 Z (Ef p (Gc 8 Z ?_));obtain rfl:=Oi h;exact R2 10 11 Z Z (Lr [0])
def F_gh(n:Nat)(c:Course)(d:Field)(f:Int)(g:Int)(e:History):Option Bool:=
  (F_ij 300).bind λr1=>(bif (!r1)then some false else((F_al n c).bind λh=>(bif (!h)then some true else(F_dc n d).bind λi=>(bif (!i)then some true else(F_cn n e).bind λj=>some (!j))):Option Bool).bind λm=>(bif m then some true else(F_be n c d f g e).bind λa=>(F_cp n c d f g e).bind λb=>((F_ac n a.1 b.1).bind λk=>(bif k then some (a.2==b.2)else some false):Option Bool).bind λl=>some l))
theorem k_gh(n:Nat)(l:Course)(m:Field)(p:Int)(q:Int)(s:History)(r:Bool)(h:F_gh n l m p q s=some r):
    Csm prog 5 [.agg (Course.c l),.agg (Field.c m),I p,I q,.agg (History.c s)] [] (λr=>.bool r) r:=by
 refine Qb func5 Z Z Z ?_;refine G0 11 Z (Cz [] h (k_ij _) Z λr1 E h=>Go 3 Z (Cn Z h (λt h=>?_) (λt h=>?_)))
 .exact Gc 7 Z (Rt h 10 [])
 refine Gc 4 Z (Bd h λf a h=>?_);refine Ct f [0,1,2] [2,3,5,6,9] (λf=>[(29,.bool f)]) Ze Zf ?_ (λenv H d=>?_)
 .refine G0 2 Z (Cz [] a (k_al _ _) Z λF u a=>Go 2 Z (Is 20 a Z (λg a=>?_) (λg a=>?_)))
  .exact Go 10 Z (Cl a [0,1,2])
  .refine Go 1 Z (Cz [] a (k_dc _ _) Z λG w a=>Go 3 Z (Is 25 a Z (λi a=>?_) (λi a=>?_)))
   .exact Go 5 Z (Cl a [0,1,2])
   .exact Go 1 Z (Cz [] a (k_cn _ _) Z λJ x a=>Go 3 Z (Cl a [0,1,2]))
 refine Gx 1 Z (Ef d (Cn Z h (λj h=>?_) (λj h=>?_)))
 .exact Gc 7 Z (Rt h 10 [])
 refine Gc 9 Z (Cd [] h (k_be _ _ _ _ _ _) Z λL y h=>FE Z (Go 14 Z (Cd [] h (k_cp _ _ _ _ _ _) Z λM z h=>FE Z (Go 8 Z (Bd h λe b h=>?_)))));refine Ct e [] [] (λe=>[(10,.bool e)]) Ze Zf ?_ (λenv H d=>?_)
 .refine G0 3 Z (Cb b (k_ac _ _ _) Z (lo (lo ln)) λN B b=>Go 1 Z (Is 51 b Z (λk b=>?_) (λk b=>?_)))
  .exact Go 6 Z (Cl b [])
  .exact Go 6 Z (Cl b [])
 exact Gx 1 Z (Ef d (Gc 1 Z (Rt h 10 [])))
end Go.Sw
