/- What the functions compute that PrizesCertainSpec reaches, and that their calls refine it (part 4 of 4). -/
import Derived.Test.YtkfjchmhgpkcbaaGreatW31Ce3
set_option linter.unusedVariables false
set_option linter.unusedSimpArgs false
set_option maxRecDepth 100000
set_option maxHeartbeats 4000000
namespace Go.Sw
open Go.Proofs Tryz
def F_fo(n:Nat)(c:Course)(b:List Int)(a:Int):Option (Ctl Int (Ctl Unit Bool)):=
  (bif decide (a<(b.length:Int))then((bif (a==0)then some 1 else(bif (a==(IntKind.i64.wrap ((b.length:Int)-1)))then some 3 else some 2)):Option Int).bind λd=>((idx b a).bind λe=>(idx c.Mats e).bind λf=>(bif (f.Kind != d)then some true else(bif decide (0<a)then(idx b (IntKind.i64.wrap (a-1))).bind λg=>(idx b a).bind λh=>(F_ak n c g h).bind λi=>some (decide (i<0))else some false)):Option Bool).bind λj=>(bif j then some (.done (.done false))else some (.cont (IntKind.i64.wrap (a+1))))else some (.done (.cont ())))
def F_ms(n:Nat)(b:Distance)(f:List Int)(a:Int):Option (Ctl Int (Ctl Unit Bool)):=
  (bif decide (a<(b.Cutoffs.length:Int))then(idx b.Cutoffs a).bind λc=>(F_ap n f c.Mat).bind λd=>(idx b.Cutoffs a).bind λe=>(bif decide (d<e.Lap)then some (.done (.done false))else some (.cont (IntKind.i64.wrap (a+1))))else some (.done (.cont ())))
def F_fc(n:Nat)(e:Course)(a:Distance):Option Bool:=
  (F_v n a.Route).bind λb=>((bif decide ((b.length:Int)<2)then some true else some (decide (256<(b.length:Int)))):Option Bool).bind λl=>(bif l then some false else(iter (F_fo n e b) n 0:Option (Ctl Unit Bool)).bind λf=>match f with|.cont c=>(((bif (a.Extra != (-1))then(idx e.Mats a.Extra).bind λg=>(bif (g.Kind != 2)then some true else(F_ap n b a.Extra).bind λh=>(bif (h==0)then some true else(F_ak n e a.Extra a.Extra).bind λi=>some (decide (i<0))))else some false):Option Bool).bind λj=>(bif j then some false else(iter (F_ms n a b) n 0:Option (Ctl Unit Bool)).bind λk=>match k with|.cont d=>(some true)|.done d=>some d))|.done c=>some c)
theorem k_fc(n:Nat)(a1:Course)(a2:Distance)(r:Bool)(h:F_fc n a1 a2=some r):
    Csm prog 111 [.agg (Course.c a1),.agg (Distance.c a2)] [] (λr=>.bool r) r:=by
 refine Qb func111 Z Z Z ?_;refine G0 11 Z (Cd [] h (k_v _ _) Z λr1 ax h=>FE Z (Go 12 Z (Bd h λO p h=>?_)));refine Ct O [0,1,2] [2,3,5,6] (λO=>[(20,.bool O)]) (λ_=>[]) (λ_=>rfl) ?_ (λenv H g=>?_)
 .refine G0 4 Z (Is 17 p Z (λaf p=>?_) (λaf p=>?_))
  .exact Go 4 Z (Cl p [0,1,2])
  .exact Go 4 Z (Cl p [0,1,2])
 refine Gx 1 Z (TC.le g (Cn Z h (λag h=>?_) (λag h=>?_)))
 .exact Gc 7 Z (Rt h 4 [])
 refine Gc 8 Z (Bd h λah ai h=>?_);refine YM (b:=ah) [0,1,2] [2,3,5] (λ_=>[]) (λ_=>[]) (λ_=>rfl) ?_ (λao env H q g=>?_)
 .refine G0 1 Z ?_;refine Lp [0,1,2] [2,3,5,6] (λj=>[(7,I j)]) (λ_=>[]) ai (λ_=>rfl) (Lr [0,1,2]) λj ay f s=>?_;refine G0 8 Z (QX Z f (λP f=>?_) (λP f=>?_))
  .refine Gc 2 Z (Qh f ?_);obtain rfl:=Oj s f;exact Gx 1 Z (Qn Z (Lr [0,1,2]))
  refine Gc 22 Z (Bd f λt i f=>?_);refine Ct t [0,1,2] [2,3,5,6,7] (λt=>[(8,I t)]) (λ_=>[]) (λ_=>rfl) ?_ (λenv H g=>?_)
  .refine G0 0 Z (Cn Z i (λQ i=>?_) (λQ i=>?_))
   .exact Gc 3 Z (Cl i [0,1,2])
   refine Gc 8 Z (Cn Z i (λR i=>?_) (λR i=>?_))
   .exact Gc 3 Z (Cl i [0,1,2])
   exact Gc 1 Z (Cl i [0,1,2])
  refine Gx 2 Z (TC.le g (Gc 1 Z (Bd f λu d f=>?_)));refine Ct u [0,1,2] [2,3,5,6,7] (λu=>[(61,.bool u)]) (λ_=>[]) (λ_=>rfl) ?_ (λenv H g=>?_)
  .refine G0 0 Z (DSs 25 Z (D 4 Z ?_));obtain⟨aj,w,d⟩:=YB d;refine DS.v (x:=(.ptr 2 (Int.toNat j*1))) (YC w Z runUnderlying32 sizeOf3) ?_;refine DS.v (x:=(I aj)) (OpV.load Z isAgg3 Z (QL w)) ?_;obtain⟨N,T,d⟩:=YB d;refine DS.wo (x:=.rp [.str N.Name,I N.Kind]) ?_ ?_
   .exact Ix T runUnderlying38 sizeOf101 Z Wp
   refine D 5 Z (Yg 11 d Z Z Z (λV d=>?_) (λV d=>?_))
   .exact D 13 Z (DS.done Z (Go 5 Z (Cl d [0,1,2])))
   .refine D 3 Z (Yg 14 d Z Z Z (λW d=>?_) (λW d=>?_))
    .refine D 4 Z ?_;obtain⟨ak,y,d⟩:=YB d;refine DS.v (x:=(.ptr 2 (Int.toNat (IntKind.i64.wrap (j-1))*1))) (YC y Z runUnderlying32 sizeOf3) ?_ (hg:=(gT Z));refine DS.v (x:=(I ak)) (OpV.load Z isAgg3 Z (QL y)) ?_ (hg:=(gT Z));refine D 2 Z ?_;obtain⟨al,z,d⟩:=YB d;refine DS.v (x:=(.ptr 2 (Int.toNat j*1))) (YC z Z runUnderlying32 sizeOf3) ?_ (hg:=(gT Z));refine DS.v (x:=(I al)) (OpV.load Z isAgg3 Z (QL z)) ?_ (hg:=(gT Z));exact DS.done Z (Cz [] d (k_ak _ _ _ _) Z λaz aq d=>Go 4 Z (Cl d [0,1,2]))
    .exact D 10 Z (DS.done Z (Go 5 Z (Cl d [0,1,2])))
  refine Gx 1 Z (TC.le g (Cn Z f (λX f=>?_) (λX f=>?_)))
  .refine Gc 8 Z (Qm f ?_);obtain rfl:=Oj s f;exact Gx 1 Z (Ql (Gx 1 Z (Rt h 4 [])))
  exact Gc 8 Z (Qg f (Lr [0,1,2]))
 subst q;refine Gx 1 Z (TC.le g (Gc 2 Z (Bd h λB e h=>?_)));refine Ct B [1,2] [3,5] (λB=>[(90,.bool B)]) (λ_=>[]) (λ_=>rfl) ?_ (λenv H g=>?_)
 .refine G0 5 Z (Is 65 e Z (λY e=>?_) (λY e=>?_))
  .refine Go 4 Z (Bd e λba aa e=>Iz aa Z (Go 4 Z (Is 74 e Z (λab e=>?_) (λab e=>?_))))
   .exact Go 17 Z (Cl e [1,2])
   .refine Go 3 Z (Cb e (k_ap _ _ _) Z (lo (ls ln)) λbb ar e=>Go 3 Z (Is 81 e Z (λac e=>?_) (λac e=>?_)))
    .exact Go 10 Z (Cl e [1,2])
    .exact Go 5 Z (Cz [] e (k_ak _ _ _ _) Z λbc au e=>Go 4 Z (Cl e [1,2]))
  .exact Go 26 Z (Cl e [1,2])
 refine Gx 1 Z (TC.le g (Cn Z h (λad h=>?_) (λad h=>?_)))
 .exact Gc 7 Z (Rt h 4 [])
 refine Gc 8 Z (Bd h λam an h=>?_);refine YM (b:=am) [] [] (λ_=>[]) (λ_=>[]) (λ_=>rfl) ?_ (λav env H q g=>?_)
 .refine G0 1 Z ?_;refine Lp [0,1] [3,5] (λE=>[(9,I E)]) (λ_=>[]) an (λ_=>rfl) (Lr [0,1]) λE aw a m=>?_;refine G0 6 Z (Lm Z (Go 3 Z (QX Z a (λF a=>?_) (λF a=>?_))))
  .refine Gc 2 Z (Qh a ?_);obtain rfl:=Oj m a;exact Gx 1 Z (Qn Z (Lr []))
  refine Gc 5 Z (DSs 14 Z (D 4 Z ?_));obtain⟨k,G,a⟩:=YB a;refine DS.wo (x:=.rp [I k.Mat,I k.Lap,I k.Limit]) ?_ ?_
  .exact Ix G runUnderlying97 sizeOf249 Z Wp
  refine D 2 Z ?_;obtain⟨ae,J,a⟩:=YB a;refine DS.wo (x:=I ae) ?_ ?_
  .refine Qe0 (OpC.fn call165 rfl rfl rfl) (Qbh.cons rfl (.inr ⟨_,_,_,_,_,rfl,rfl,X9 ..,rfl⟩) (Qbh.cons rfl (.inl ⟨rfl,rfl⟩) Qbh.nil)) (k_ap _ _ _ _ J) (by rintro _ _ ⟨rfl,rfl⟩;rfl) ?_;rintro _ _ ⟨rfl,rfl⟩;exact FE Z Wp
  refine D 3 Z ?_;obtain⟨l,L,a⟩:=YB a;refine DS.wo (x:=.rp [I l.Mat,I l.Lap,I l.Limit]) ?_ ?_
  .exact Ix L runUnderlying97 sizeOf249 Z Wp
  refine D 2 Z (DS.done Z (Go 3 Z (Cn Z a (λM a=>?_) (λM a=>?_))))
  .refine Gc 8 Z (Qm a ?_);obtain rfl:=Oj m a;exact Gx 1 Z (Ql (Gx 1 Z (Rt h 4 [])))
  exact Gc 8 Z (Qg a (Lr [0,1]))
 subst q;exact Gx 1 Z (TC.le g (Gc 6 Z (Rt h 4 [])))
def F_ml(n:Nat)(b:Course)(a:Int):Option (Ctl Int (Ctl Unit Int)):=
  (bif decide (a<(b.Distances.length:Int))then(idx b.Distances a).bind λc=>(F_fc n b c).bind λd=>(bif (!d)then some (.done (.done 72))else some (.cont (IntKind.i64.wrap (a+1))))else some (.done (.cont ())))
def F_z(n:Nat)(a:Course):Option Int:=
  (F_au n a).bind λe=>(bif (!e)then some 2 else(F_fi n a).bind λf=>(bif (!f)then some 70 else(F_ds n a).bind λg=>(bif (!g)then some 71 else(F_co n a.Ties).bind λc=>(bif (c != 0)then some c else(iter (F_ml n a) n 0:Option (Ctl Unit Int)).bind λd=>match d with|.cont b=>(some 0)|.done b=>some b))))
theorem k_z(n:Nat)(k:Course)(r:Int)(h:F_z n k=some r):
    Csm prog 70 [.agg (Course.c k)] [] (λr=>I r) r:=by
 refine Qb func70 Z Z Z ?_;refine G0 10 Z (Cz [] h (k_au _ _) Z λM B h=>Go 3 Z (Cn Z h (λl h=>?_) (λl h=>?_)))
 .exact Gc 7 Z (Rt h 2 [])
 refine Gc 6 Z (Cz [] h (k_fi _ _) Z λN E h=>Go 3 Z (Cn Z h (λm h=>?_) (λm h=>?_)))
 .exact Gc 7 Z (Rt h 2 [])
 refine Gc 6 Z (Cz [] h (k_ds _ _) Z λO F h=>Go 3 Z (Cn Z h (λp h=>?_) (λp h=>?_)))
 .exact Gc 7 Z (Rt h 2 [])
 refine Gc 6 Z (Cz [] h (k_co _ _) Z λP G h=>Go 10 Z (Cn Z h (λq h=>?_) (λq h=>?_)))
 .exact Gc 8 Z (Rt h 2 [])
 refine Gc 8 Z (Bd h λs t h=>?_);refine YM (b:=s) [] [] (λ_=>[]) (λ_=>[]) (λ_=>rfl) ?_ (λy env H u w=>?_)
 .refine G0 1 Z ?_;refine Lp [0] [1] (λf=>[(4,I f)]) (λ_=>[]) t (λ_=>rfl) (Lr [0]) λf J a e=>?_;refine G0 6 Z (Lm Z (Go 3 Z (QX Z a (λg a=>?_) (λg a=>?_))))
  .refine Gc 2 Z (Qh a ?_);obtain rfl:=Oj e a;exact Gx 1 Z (Qn Z (Lr []))
  refine Gc 5 Z (DSs 6 Z (D 4 Z ?_));obtain⟨d,i,a⟩:=YB a;refine DS.wo (x:=.rp [.str d.Name,.rsl 3 (List.map Part.enc d.Route),I d.Timing,.rsl 3 (List.map Cutoff.c d.Cutoffs),I d.Extra]) ?_ ?_
  .exact Ix i runUnderlying40 sizeOf99 Z Wp
  refine D 1 Z (DS.done Z (Cz [] a (k_fc _ _ _) Z λL z a=>Go 3 Z (Cn Z a (λj a=>?_) (λj a=>?_))))
  .refine Gc 8 Z (Qm a ?_);obtain rfl:=Oj e a;exact Gx 1 Z (Ql (Gx 1 Z (Rt h 2 [])))
  exact Gc 8 Z (Qg a (Lr [0]))
 subst u;exact Gx 1 Z (TC.le w (Gc 6 Z (Rt h 2 [])))
def F_eg(n:Nat)(a:Int):Option Bool:=
  ((bif decide ((-1099511627776)<=a)then some (decide (a<=1099511627776))else some false):Option Bool).bind λb=>some b
theorem k_eg(n:Nat)(c:Int)(r:Bool)(h:F_eg n c=some r):
    Csm prog 99 [I c] [] (λr=>.bool r) r:=by
 refine Qb func99 Z Z Z ?_;refine G0 6 Z (Bd h λb a h=>?_);refine Ct b [] [] (λb=>[(2,.bool b)]) (λ_=>[]) (λ_=>rfl) ?_ (λenv H d=>?_)
 .refine G0 4 Z (Is 5 a Z (λe a=>?_) (λe a=>?_))
  .exact Go 5 Z (Cl a [])
  .exact Go 5 Z (Cl a [])
 exact Gx 1 Z (TC.le d (Gc 1 Z (Rt h 2 [])))
def F_dz(n:Nat)(a:Segment)(b:Segment):Option Bool:=
  ((bif decide (a.Mat<b.Mat)then some true else(bif (a.Mat==b.Mat)then some (decide (a.Epoch<b.Epoch))else some false)):Option Bool).bind λc=>some c
theorem k_dz(n:Nat)(d:Segment)(e:Segment)(r:Bool)(h:F_dz n d e=some r):
    Csm prog 100 [.agg (Segment.c d),.agg (Segment.c e)] [] (λr=>.bool r) r:=by
 refine Qb func100 Z Z Z ?_;refine G0 8 Z (Bd h λb a h=>?_);refine Ct b [] [] (λb=>[(4,.bool b)]) (λ_=>[]) (λ_=>rfl) ?_ (λenv H f=>?_)
 .refine G0 7 Z (Is 10 a Z (λg a=>?_) (λg a=>?_))
  .exact Go 15 Z (Cl a [])
  .refine Go 6 Z (Is 16 a Z (λi a=>?_) (λi a=>?_))
   .exact Go 9 Z (Cl a [])
   .exact Go 9 Z (Cl a [])
 exact Gx 1 Z (TC.le f (Gc 1 Z (Rt h 4 [])))
def F_ks(n:Nat)(c:Clocks)(b:Int):Option (Ctl Int (Ctl Unit Int)):=
  (bif decide (b<(c.Segments.length:Int))then(idx c.Segments b).bind λa=>((bif decide (a.Mat<0)then some true else(bif decide (40<=a.Mat)then some true else(bif decide (a.Epoch<0)then some true else(bif decide (255<a.Epoch)then some true else(F_eg n a.Anchor).bind λd=>(bif (!d)then some true else(bif decide (0<b)then(idx c.Segments (IntKind.i64.wrap (b-1))).bind λe=>(F_dz n e a).bind λf=>some (!f)else some false)))))):Option Bool).bind λg=>(bif g then some (.done (.done 160))else some (.cont (IntKind.i64.wrap (b+1))))else some (.done (.cont ())))
def F_mb(n:Nat)(c:Clocks)(b:Int)(a:Int):Option (Ctl Int (Ctl Unit (Ctl Int (Ctl Unit Int)))):=
  (bif decide (a<=(c.Segments.length:Int))then((idx c.Far b).bind λd=>(idx d a).bind λe=>(bif decide (e<(-2199023255552))then some true else(idx c.Far b).bind λf=>(idx f a).bind λg=>some (decide (2199023255552<g))):Option Bool).bind λh=>(bif h then some (.done (.done (.done (.done 160))))else some (.cont (IntKind.i64.wrap (a+1))))else some (.done (.cont ())))
def F_jm(n:Nat)(c:Clocks)(a:Int):Option (Ctl Int (Ctl Unit Int)):=
  (bif decide (a<=(c.Segments.length:Int))then((idx c.Far a).bind λd=>(bif ((d.length:Int) != (IntKind.i64.wrap ((c.Segments.length:Int)+1)))then some true else(idx c.Far a).bind λe=>(idx e a).bind λf=>some (f != 0)):Option Bool).bind λg=>(bif g then some (.done (.done 160))else(iter (F_mb n c a) n 0:Option (Ctl Unit (Ctl Int (Ctl Unit Int)))).bind λh=>match h with|.cont b=>(some (.cont (IntKind.i64.wrap (a+1))))|.done b=>some b)else some (.done (.cont ())))
def F_lq(n:Nat)(d:Clocks)(b:Int)(c:Int)(a:Int):Option (Ctl Int (Ctl Unit (Ctl Int (Ctl Unit (Ctl Int (Ctl Unit Int)))))):=
  (bif decide (a<=(d.Segments.length:Int))then(idx d.Far b).bind λe=>(idx e a).bind λf=>(idx d.Far b).bind λg=>(idx g c).bind λh=>(idx d.Far c).bind λi=>(idx i a).bind λj=>(bif decide ((IntKind.i64.wrap (h+j))<f)then some (.done (.done (.done (.done (.done (.done 160))))))else some (.cont (IntKind.i64.wrap (a+1))))else some (.done (.cont ())))
def F_ma(n:Nat)(e:Clocks)(c:Int)(a:Int):Option (Ctl Int (Ctl Unit (Ctl Int (Ctl Unit Int)))):=
  (bif decide (a<=(e.Segments.length:Int))then(iter (F_lq n e c a) n 0:Option (Ctl Unit (Ctl Int (Ctl Unit (Ctl Int (Ctl Unit Int)))))).bind λd=>match d with|.cont b=>(some (.cont (IntKind.i64.wrap (a+1))))|.done b=>some b else some (.done (.cont ())))
def F_kj(n:Nat)(d:Clocks)(a:Int):Option (Ctl Int (Ctl Unit Int)):=
  (bif decide (a<=(d.Segments.length:Int))then(iter (F_ma n d a) n 0:Option (Ctl Unit (Ctl Int (Ctl Unit Int)))).bind λc=>match c with|.cont b=>(some (.cont (IntKind.i64.wrap (a+1))))|.done b=>some b else some (.done (.cont ())))
def F_bf(n:Nat)(c:Clocks):Option Int:=
  ((bif decide (511<(c.Segments.length:Int))then some true else some ((c.Far.length:Int) != (IntKind.i64.wrap ((c.Segments.length:Int)+1)))):Option Bool).bind λh=>(bif h then some 160 else(iter (F_ks n c) n 0:Option (Ctl Unit Int)).bind λg=>match g with|.cont d=>((iter (F_jm n c) n 0:Option (Ctl Unit Int)).bind λe=>match e with|.cont a=>((iter (F_kj n c) n 0:Option (Ctl Unit Int)).bind λf=>match f with|.cont b=>(some 0)|.done b=>some b)|.done a=>some a)|.done d=>some d)
theorem k_bf(n:Nat)(a1:Clocks)(r:Int)(h:F_bf n a1=some r):
    Csm prog 63 [.agg (Clocks.c a1)] [] (λr=>I r) r:=by
 refine Qb func63 Z Z Z ?_;refine G0 10 Z (Lm Z (Go 5 Z (Bd h λb2 G h=>?_)));refine Ct b2 [0] [1,3] (λb2=>[(23,.bool b2)]) (λ_=>[]) (λ_=>rfl) ?_ (λenv H g=>?_)
 .refine G0 4 Z (Is 16 G Z (λbv G=>?_) (λbv G=>?_))
  .exact Go 8 Z (Cl G [0])
  .exact Go 2 Z (Lm Z (Go 5 Z (Cl G [0])))
 refine Gx 1 Z (TC.le g (Cn Z h (λbw h=>?_) (λbw h=>?_)))
 .exact Gc 7 Z (Rt h 2 [])
 refine Gc 8 Z (Bd h λbx bz h=>?_);refine YM (b:=bx) [0] [1,3] (λ_=>[]) (λ_=>[]) (λ_=>rfl) ?_ (λcf env H s g=>?_)
 .refine G0 1 Z ?_;refine Lp [0] [1,3] (λau=>[(4,I au)]) (λ_=>[]) bz (λ_=>rfl) (Lr [0]) λau cu k J=>?_;refine G0 8 Z (QX Z k (λav k=>?_) (λav k=>?_))
  .refine Gc 2 Z (Qh k ?_);obtain rfl:=Oj J k;exact Gx 1 Z (Qn Z (Lr [0]))
  refine Gc 9 Z (Bd k λcv aw k=>Iz aw Z (Go 6 Z (Bd k λL a k=>?_)));refine Ct L [0] [1,3,4] (λL=>[(72,.bool L)]) (λ_=>[]) (λ_=>rfl) ?_ (λenv H g=>?_)
  .refine G0 0 Z (DSs 35 Z (D 4 Z (Yg 3 a Z Z Z (λax a=>?_) (λax a=>?_))))
   .exact D 31 Z (DS.done Z (Go 5 Z (Cl a [0])))
   .refine D 5 Z (Yg 8 a Z Z Z (λay a=>?_) (λay a=>?_))
    .exact D 26 Z (DS.done Z (Go 5 Z (Cl a [0])))
    .refine D 5 Z (Yg 13 a Z Z Z (λaz a=>?_) (λaz a=>?_))
     .exact D 21 Z (DS.done Z (Go 5 Z (Cl a [0])))
     .refine D 5 Z (Yg 18 a Z Z Z (λba a=>?_) (λba a=>?_))
      .exact D 16 Z (DS.done Z (Go 5 Z (Cl a [0])))
      .refine D 2 Z ?_;refine Dz [] a (k_eg _ _) Z λcw cg a=>D 3 Z (Yg 24 a Z Z Z (λbb a=>?_) (λbb a=>?_))
       .exact D 10 Z (DS.done Z (Go 5 Z (Cl a [0])))
       .refine D 3 Z (Yg 27 a Z Z Z (λbc a=>?_) (λbc a=>?_))
        .refine D 4 Z ?_;obtain⟨y,bd,a⟩:=YB a;refine DS.v (x:=(.rp [I y.Mat,I y.Epoch,I y.Anchor])) (Yi (e:=Segment.c) (l:=a1.Segments) (v:=y) bd runUnderlying22 sizeOf198) ?_ (hg:=(gT Z));exact D 2 Z (DS.done Z (Cz [] a (k_dz _ _ _) Z λcx ch a=>Go 4 Z (Cl a [0])))
        .exact D 7 Z (DS.done Z (Go 5 Z (Cl a [0])))
  refine Gx 1 Z (TC.le g (Cn Z k (λbe k=>?_) (λbe k=>?_)))
  .refine Gc 8 Z (Qm k ?_);obtain rfl:=Oj J k;exact Gx 1 Z (Ql (Gx 1 Z (Rt h 2 [])))
  exact Gc 8 Z (Qg k (Lr [0]))
 subst s;refine Gx 1 Z (TC.le g (Gc 6 Z (Bd h λbf bg h=>?_)));refine YM (b:=bf) [0] [1,3] (λ_=>[]) (λ_=>[]) (λ_=>rfl) ?_ (λca env H s g=>?_)
 .refine G0 1 Z ?_;refine Lp [0] [1,3] (λM=>[(6,I M)]) (λ_=>[]) bg (λ_=>rfl) (Lr [0]) λM ci f t=>?_;refine G0 8 Z (QX Z f (λR f=>?_) (λR f=>?_))
  .refine Gc 2 Z (Qh f ?_);obtain rfl:=Oj t f;exact Gx 1 Z (Qn Z (Lr [0]))
  refine Gc 6 Z (Bd f λu m f=>?_);refine Ct u [0] [1,3,6] (λu=>[(97,.bool u)]) (λ_=>[]) (λ_=>rfl) ?_ (λenv H g=>?_)
  .refine G0 4 Z (Bd m λcj T m=>Iz T Z (Go 1 Z (Lm Z (Go 4 Z (Is 87 m Z (λV m=>?_) (λV m=>?_))))))
   .exact Go 11 Z (Cl m [0])
   .exact Go 3 Z (Bd m λck W m=>Iz W Z (Go 2 Z (Bd m λcl X m=>Iz X Z (Go 4 Z (Cl m [0])))))
  refine Gx 1 Z (TC.le g (Cn Z f (λY f=>?_) (λY f=>?_)))
  .refine Gc 9 Z (Qm f ?_);obtain rfl:=Oj t f;exact Gx 1 Z (Ql (Gx 1 Z (Rt h 2 [])))
  refine Gc 7 Z (Bd f λbh bi f=>?_);refine YM (b:=bh) [0] [1,3,6] (λ_=>[]) (λ_=>[]) (λ_=>rfl) ?_ (λcb env H s g=>?_)
  .refine G0 1 Z ?_;refine Lp [0] [1,3,6] (λN=>[(7,I N)]) (λ_=>[]) bi (λ_=>rfl) (Lr [0]) λN cm i z=>?_;refine G0 8 Z (QX Z i (λaa i=>?_) (λaa i=>?_))
   .refine Gc 2 Z (Qh i ?_);obtain rfl:=Oj z i;exact Gx 1 Z (Qn Z (Lr [0]))
   refine Gc 5 Z (Bd i λw j i=>?_);refine Ct w [0] [1,3,6,7] (λw=>[(122,.bool w)]) (λ_=>[]) (λ_=>rfl) ?_ (λenv H g=>?_)
   .refine G0 4 Z (Bd j λcn ab j=>Iz ab Z (Go 2 Z (Bd j λco ac j=>Iz ac Z (Go 3 Z (Is 112 j Z (λad j=>?_) (λad j=>?_))))))
    .exact Go 11 Z (Cl j [0])
    .exact Go 3 Z (Bd j λcp ae j=>Iz ae Z (Go 2 Z (Bd j λcq af j=>Iz af Z (Go 4 Z (Cl j [0])))))
   refine Gx 1 Z (TC.le g (Cn Z i (λag i=>?_) (λag i=>?_)))
   .refine Gc 8 Z (Qm i ?_);obtain rfl:=Oj z i;refine Gx 1 Z (Ql (Gx 2 Z (Qm f ?_)));obtain rfl:=Oj t f;exact Gx 1 Z (Ql (Gx 1 Z (Rt h 2 [])))
   exact Gc 8 Z (Qg i (Lr [0]))
  subst s;exact Gx 2 Z (TC.le g (Gc 5 Z (Qg f (Lr [0]))))
 subst s;refine Gx 1 Z (TC.le g (Gc 6 Z (Bd h λbj bk h=>?_)));refine YM (b:=bj) [] [] (λ_=>[]) (λ_=>[]) (λ_=>rfl) ?_ (λcc env H s g=>?_)
 .refine G0 1 Z ?_;refine Lp [0] [1,3] (λO=>[(8,I O)]) (λ_=>[]) bk (λ_=>rfl) (Lr [0]) λO cr p B=>?_;refine G0 8 Z (QX Z p (λah p=>?_) (λah p=>?_))
  .refine Gc 2 Z (Qh p ?_);obtain rfl:=Oj B p;exact Gx 1 Z (Qn Z (Lr []))
  refine Gc 9 Z (Bd p λbl bm p=>?_);refine YM (b:=bl) [0] [1,3,8] (λ_=>[]) (λ_=>[]) (λ_=>rfl) ?_ (λcd env H s g=>?_)
  .refine G0 1 Z ?_;refine Lp [0] [1,3,8] (λP=>[(9,I P)]) (λ_=>[]) bm (λ_=>rfl) (Lr [0]) λP cs q E=>?_;refine G0 8 Z (QX Z q (λai q=>?_) (λai q=>?_))
   .refine Gc 2 Z (Qh q ?_);obtain rfl:=Oj E q;exact Gx 1 Z (Qn Z (Lr [0]))
   refine Gc 9 Z (Bd q λbn bo q=>?_);refine YM (b:=bn) [0] [1,3,8,9] (λ_=>[]) (λ_=>[]) (λ_=>rfl) ?_ (λce env H s g=>?_)
   .refine G0 1 Z ?_;refine Lp [0] [1,3,8,9] (λQ=>[(10,I Q)]) (λ_=>[]) bo (λ_=>rfl) (Lr [0]) λQ ct d F=>?_;refine G0 8 Z (QX Z d (λaj d=>?_) (λaj d=>?_))
    .refine Gc 2 Z (Qh d ?_);obtain rfl:=Oj F d;exact Gx 1 Z (Qn Z (Lr [0]))
    refine Gc 5 Z (DSs 25 Z (D 3 Z ?_));obtain⟨bp,ak,d⟩:=YB d;refine DS.wo (x:=.rp [.rsl 1 (List.map (Qd .i64) bp)]) ?_ ?_
    .exact Ix ak runUnderlying23 sizeOf32 Z Wp
    refine D 2 Z ?_;obtain⟨bq,al,d⟩:=YB d;refine DS.wo (x:=.rp [I bq]) ?_ ?_
    .exact Ix al runUnderlying32 sizeOf3 Z Wp
    refine D 4 Z ?_;obtain⟨br,am,d⟩:=YB d;refine DS.wo (x:=.rp [.rsl 1 (List.map (Qd .i64) br)]) ?_ ?_
    .exact Ix am runUnderlying23 sizeOf32 Z Wp
    refine D 2 Z ?_;obtain⟨bs,an,d⟩:=YB d;refine DS.wo (x:=.rp [I bs]) ?_ ?_
    .exact Ix an runUnderlying32 sizeOf3 Z Wp
    refine D 4 Z ?_;obtain⟨bt,ao,d⟩:=YB d;refine DS.wo (x:=.rp [.rsl 1 (List.map (Qd .i64) bt)]) ?_ ?_
    .exact Ix ao runUnderlying23 sizeOf32 Z Wp
    refine D 2 Z ?_;obtain⟨bu,aq,d⟩:=YB d;refine DS.wo (x:=.rp [I bu]) ?_ ?_
    .exact Ix aq runUnderlying32 sizeOf3 Z Wp
    refine D 2 Z (DS.done Z (Go 3 Z (Cn Z d (λar d=>?_) (λar d=>?_))))
    .refine Gc 8 Z (Qm d ?_);obtain rfl:=Oj F d;refine Gx 1 Z (Ql (Gx 2 Z (Qm q ?_)));obtain rfl:=Oj E q;refine Gx 1 Z (Ql (Gx 2 Z (Qm p ?_)));obtain rfl:=Oj B p;exact Gx 1 Z (Ql (Gx 1 Z (Rt h 2 [])))
    exact Gc 8 Z (Qg d (Lr [0]))
   subst s;exact Gx 2 Z (TC.le g (Gc 5 Z (Qg q (Lr [0]))))
  subst s;exact Gx 2 Z (TC.le g (Gc 5 Z (Qg p (Lr [0]))))
 subst s;exact Gx 1 Z (TC.le g (Gc 6 Z (Rt h 2 [])))
def F_gg(n:Nat)(a:Int)(b:Int)(c:Int):Option Bool:=
  ((bif decide (b<=a)then some (decide (a<=c))else some false):Option Bool).bind λd=>some d
theorem k_gg(n:Nat)(c:Int)(d:Int)(e:Int)(r:Bool)(h:F_gg n c d e=some r):
    Csm prog 101 [I c,I d,I e] [] (λr=>.bool r) r:=by
 refine Qb func101 Z Z Z ?_;refine G0 6 Z (Bd h λb a h=>?_);refine Ct b [] [] (λb=>[(6,.bool b)]) (λ_=>[]) (λ_=>rfl) ?_ (λenv H f=>?_)
 .refine G0 5 Z (Is 10 a Z (λg a=>?_) (λg a=>?_))
  .exact Go 6 Z (Cl a [])
  .exact Go 6 Z (Cl a [])
 exact Gx 1 Z (TC.le f (Gc 1 Z (Rt h 6 [])))
def F_ec(n:Nat)(a:Int):Option Bool:=
  (F_gg n a 1 9999).bind λb=>some b
theorem k_ec(n:Nat)(a:Int)(r:Bool)(h:F_ec n a=some r):
    Csm prog 64 [I a] [] (λr=>.bool r) r:=by
 refine Qb func64 Z Z Z ?_;exact G0 8 Z (Cz [] h (k_gg _ _ _ _) Z λc b h=>Go 4 Z (Rt h 2 []))
def F_et(n:Nat)(b:Clocks)(a:Outcome):Option Int:=
  (F_bf n b).bind λc=>(bif (c != 0)then some c else((bif a.Out then(bif (a.Seg != (-1))then some true else(bif (a.Lo != 0)then some true else(bif (a.Hi != 0)then some true else(bif (!a.Out)then(bif decide (a.Seg<(-1))then some true else(bif decide ((b.Segments.length:Int)<=a.Seg)then some true else(bif decide (a.Lo<(-288230376151711744))then some true else(bif decide (a.Hi<a.Lo)then some true else some (decide (288230376151711744<a.Hi))))))else some false))))else(bif (!a.Out)then(bif decide (a.Seg<(-1))then some true else(bif decide ((b.Segments.length:Int)<=a.Seg)then some true else(bif decide (a.Lo<(-288230376151711744))then some true else(bif decide (a.Hi<a.Lo)then some true else some (decide (288230376151711744<a.Hi))))))else some false)):Option Bool).bind λd=>(bif d then some 230 else some 0))
theorem k_et(n:Nat)(x:Clocks)(y:Outcome)(r:Int)(h:F_et n x y=some r):
    Csm prog 65 [.agg (Clocks.c x),.agg (Outcome.c y)] [] (λr=>I r) r:=by
 refine Qb func65 Z Z Z ?_;refine G0 10 Z (Cz [] h (k_bf _ _) Z λF E h=>Go 10 Z (Cn Z h (λz h=>?_) (λz h=>?_)))
 .exact Gc 8 Z (Rt h 4 [])
 refine Gc 4 Z (Bd h λb a h=>?_);refine Ct b [] [] (λb=>[(62,.bool b)]) (λ_=>[]) (λ_=>rfl) ?_ (λenv H B=>?_)
 .refine G0 4 Z (Is 13 a Z (λd a=>?_) (λd a=>?_))
  .refine Go 4 Z (Is 17 a Z (λe a=>?_) (λe a=>?_))
   .exact Go 46 Z (Cl a [])
   .refine Go 5 Z (Is 22 a Z (λf a=>?_) (λf a=>?_))
    .exact Go 41 Z (Cl a [])
    .refine Go 6 Z (Is 28 a Z (λg a=>?_) (λg a=>?_))
     .exact Go 35 Z (Cl a [])
     .refine Go 4 Z (Is 32 a Z (λi a=>?_) (λi a=>?_))
      .refine Go 4 Z (Is 36 a Z (λj a=>?_) (λj a=>?_))
       .exact Go 27 Z (Cl a [])
       .refine Go 4 Z (Lm Z (Go 3 Z (Is 44 a Z (λk a=>?_) (λk a=>?_))))
        .exact Go 19 Z (Cl a [])
        .refine Go 5 Z (Is 49 a Z (λl a=>?_) (λl a=>?_))
         .exact Go 14 Z (Cl a [])
         .refine Go 7 Z (Is 56 a Z (λm a=>?_) (λm a=>?_))
          .exact Go 7 Z (Cl a [])
          .exact Go 7 Z (Cl a [])
      .exact Go 31 Z (Cl a [])
  .refine Go 19 Z (Is 32 a Z (λp a=>?_) (λp a=>?_))
   .refine Go 4 Z (Is 36 a Z (λq a=>?_) (λq a=>?_))
    .exact Go 27 Z (Cl a [])
    .refine Go 4 Z (Lm Z (Go 3 Z (Is 44 a Z (λs a=>?_) (λs a=>?_))))
     .exact Go 19 Z (Cl a [])
     .refine Go 5 Z (Is 49 a Z (λt a=>?_) (λt a=>?_))
      .exact Go 14 Z (Cl a [])
      .refine Go 7 Z (Is 56 a Z (λu a=>?_) (λu a=>?_))
       .exact Go 7 Z (Cl a [])
       .exact Go 7 Z (Cl a [])
   .exact Go 31 Z (Cl a [])
 refine Gx 1 Z (TC.le B (Cn Z h (λw h=>?_) (λw h=>?_)))
 .exact Gc 7 Z (Rt h 4 [])
 exact Gc 8 Z (Rt h 4 [])
def F_mn(n:Nat)(b:Field)(c:Int)(a:Int):Option (Ctl Int (Ctl Unit Bool)):=
  (bif decide (a<(b.Runners.length:Int))then((bif decide (c<0)then some true else(idx b.Runners a).bind λd=>(bif decide ((d.Worlds.length:Int)<=c)then some true else(idx b.Runners a).bind λe=>(idx e.Worlds c).bind λf=>some ((f.length:Int)==0))):Option Bool).bind λg=>(bif g then some (.done (.done false))else some (.cont (IntKind.i64.wrap (a+1))))else some (.done (.cont ())))
def F_fr(n:Nat)(c:Field)(d:Int):Option Bool:=
  (iter (F_mn n c d) n 0:Option (Ctl Unit Bool)).bind λb=>match b with|.cont a=>(some true)|.done a=>some a
theorem k_fr(n:Nat)(t:Field)(u:Int)(r:Bool)(h:F_fr n t u=some r):
    Csm prog 102 [.agg (Field.c t),I u] [] (λr=>.bool r) r:=by
 refine Qb func102 Z Z Z ?_;refine G0 12 Z (Bd h λw x h=>?_);refine YM (b:=w) [] [] (λ_=>[]) (λ_=>[]) (λ_=>rfl) ?_ (λz env H y e=>?_)
 .refine G0 1 Z ?_;refine Lp [0] [1,2] (λi=>[(5,I i)]) (λ_=>[]) x (λ_=>rfl) (Lr [0]) λi B d f=>?_;refine G0 6 Z (Lm Z (Go 3 Z (QX Z d (λj d=>?_) (λj d=>?_))))
  .refine Gc 2 Z (Qh d ?_);obtain rfl:=Oj f d;exact Gx 1 Z (Qn Z (Lr []))
  refine Gc 5 Z (Bd d λg a d=>?_);refine Ct g [0] [1,2,5] (λg=>[(38,.bool g)]) (λ_=>[]) (λ_=>rfl) ?_ (λenv H e=>?_)
  .refine G0 4 Z (Is 15 a Z (λk a=>?_) (λk a=>?_))
   .exact Go 24 Z (Cl a [0])
   .refine Go 4 Z (Bd a λE l a=>Iz l Z (Go 2 Z (Lm Z (Go 3 Z (Is 26 a Z (λm a=>?_) (λm a=>?_))))))
    .exact Go 13 Z (Cl a [0])
    .exact Go 3 Z (Bd a λF p a=>Iz p Z (Go 3 Z (Bd a λG q a=>Iz q Z (Go 1 Z (Lm Z (Go 3 Z (Cl a [0])))))))
  refine Gx 1 Z (TC.le e (Cn Z d (λs d=>?_) (λs d=>?_)))
  .refine Gc 8 Z (Qm d ?_);obtain rfl:=Oj f d;exact Gx 1 Z (Ql (Gx 1 Z (Rt h 4 [])))
  exact Gc 8 Z (Qg d (Lr [0]))
 subst y;exact Gx 1 Z (TC.le e (Gc 6 Z (Rt h 4 [])))
def F_ki(n:Nat)(b:Field)(a:Int):Option (Ctl Int (Ctl Unit Bool)):=
  (bif decide (a<=(b.Pairs.length:Int))then(F_fr n b a).bind λc=>(bif c then some (.done (.done true))else some (.cont (IntKind.i64.wrap (a+1))))else some (.done (.cont ())))
def F_ch(n:Nat)(b:Field):Option Bool:=
  (iter (F_ki n b) n 0:Option (Ctl Unit Bool)).bind λc=>match c with|.cont a=>(some false)|.done a=>some a
theorem k_ch(n:Nat)(i:Field)(r:Bool)(h:F_ch n i=some r):
    Csm prog 66 [.agg (Field.c i)] [] (λr=>.bool r) r:=by
 refine Qb func66 Z Z Z ?_;refine G0 12 Z (Bd h λl m h=>?_);refine YM (b:=l) [] [] (λ_=>[]) (λ_=>[]) (λ_=>rfl) ?_ (λq env H j k=>?_)
 .refine G0 1 Z ?_;refine Lp [0] [1] (λe=>[(3,I e)]) (λ_=>[]) m (λ_=>rfl) (Lr [0]) λe s a d=>?_;refine G0 6 Z (Lm Z (Go 3 Z (QX Z a (λf a=>?_) (λf a=>?_))))
  .refine Gc 2 Z (Qh a ?_);obtain rfl:=Oj d a;exact Gx 1 Z (Qn Z (Lr []))
  refine Gc 8 Z (Cz [] a (k_fr _ _ _) Z λt p a=>Go 2 Z (Cn Z a (λg a=>?_) (λg a=>?_)))
  .refine Gc 8 Z (Qm a ?_);obtain rfl:=Oj d a;exact Gx 1 Z (Ql (Gx 1 Z (Rt h 2 [])))
  exact Gc 8 Z (Qg a (Lr [0]))
 subst j;exact Gx 1 Z (TC.le k (Gc 6 Z (Rt h 2 [])))
def F_jk(n:Nat)(c:Field)(a:Int):Option (Ctl Int (Ctl Unit Int)):=
  (bif decide (a<(c.Pairs.length:Int))then(idx c.Pairs a).bind λb=>((bif decide (b.A<1)then some true else(bif decide (b.B<=b.A)then some true else some (decide (9999<b.B)))):Option Bool).bind λd=>(bif d then some (.done (.done 240))else((bif decide (0<a)then(idx c.Pairs (IntKind.i64.wrap (a-1))).bind λe=>(bif decide (b.A<e.A)then some true else(idx c.Pairs (IntKind.i64.wrap (a-1))).bind λf=>(bif (f.A==b.A)then(idx c.Pairs (IntKind.i64.wrap (a-1))).bind λg=>some (decide (b.B<=g.B))else some false))else some false):Option Bool).bind λh=>(bif h then some (.done (.done 240))else some (.cont (IntKind.i64.wrap (a+1)))))else some (.done (.cont ())))
def F_mh(n:Nat)(h:Field)(b:Runner)(c:Int)(a:Int):Option (Ctl Int (Ctl Unit (Ctl Int (Ctl Unit (Ctl Int (Ctl Unit Int)))))):=
  (idx b.Worlds c).bind λd=>(bif decide (a<(d.length:Int))then(idx b.Worlds c).bind λe=>(idx e a).bind λf=>(F_et n h.Clocks f).bind λg=>(bif (g != 0)then some (.done (.done (.done (.done (.done (.done 240))))))else some (.cont (IntKind.i64.wrap (a+1))))else some (.done (.cont ())))
def F_me(n:Nat)(e:Field)(c:Runner)(a:Int):Option (Ctl Int (Ctl Unit (Ctl Int (Ctl Unit Int)))):=
  (bif decide (a<(c.Worlds.length:Int))then(iter (F_mh n e c a) n 0:Option (Ctl Unit (Ctl Int (Ctl Unit (Ctl Int (Ctl Unit Int)))))).bind λd=>match d with|.cont b=>(some (.cont (IntKind.i64.wrap (a+1))))|.done b=>some b else some (.done (.cont ())))
def F_kn(n:Nat)(c:Field)(b:Int):Option (Ctl Int (Ctl Unit Int)):=
  (bif decide (b<(c.Runners.length:Int))then(idx c.Runners b).bind λa=>((F_ec n a.Bib).bind λe=>(bif (!e)then some true else(bif decide (0<b)then(idx c.Runners (IntKind.i64.wrap (b-1))).bind λf=>(bif decide (a.Bib<=f.Bib)then some true else(idx c.Runners 0).bind λg=>(bif ((a.Keys.length:Int) != (g.Keys.length:Int))then some true else some ((a.Worlds.length:Int) != (IntKind.i64.wrap ((c.Pairs.length:Int)+1)))))else(idx c.Runners 0).bind λh=>(bif ((a.Keys.length:Int) != (h.Keys.length:Int))then some true else some ((a.Worlds.length:Int) != (IntKind.i64.wrap ((c.Pairs.length:Int)+1)))))):Option Bool).bind λi=>(bif i then some (.done (.done 240))else(iter (F_me n c a) n 0:Option (Ctl Unit (Ctl Int (Ctl Unit Int)))).bind λj=>match j with|.cont d=>(some (.cont (IntKind.i64.wrap (b+1))))|.done d=>some d)else some (.done (.cont ())))
def F_ab(n:Nat)(a:Field):Option Int:=
  ((F_bf n a.Clocks).bind λg=>(bif (g != 0)then some true else(bif decide (16<(a.Pairs.length:Int))then some true else(bif decide ((a.Runners.length:Int)<1)then some true else some (decide (4000<(a.Runners.length:Int)))))):Option Bool).bind λh=>(bif h then some 240 else(iter (F_jk n a) n 0:Option (Ctl Unit Int)).bind λf=>match f with|.cont c=>((iter (F_kn n a) n 0:Option (Ctl Unit Int)).bind λd=>match d with|.cont b=>((F_ch n a).bind λe=>(bif (!e)then some 240 else some 0))|.done b=>some b)|.done c=>some c)
theorem k_ab(n:Nat)(u:Field)(r:Int)(h:F_ab n u=some r):
    Csm prog 35 [.agg (Field.c u)] [] (λr=>I r) r:=by
 refine Qb func35 Z Z Z ?_;refine G0 8 Z (Bd h λb5 p h=>?_);refine Ct b5 [0] [1] (λb5=>[(30,.bool b5)]) (λ_=>[]) (λ_=>rfl) ?_ (λenv H j=>?_)
 .refine G0 3 Z (Cz [] p (k_bf _ _) Z λr7 ch p=>Go 2 Z (Is 13 p Z (λbo p=>?_) (λbo p=>?_)))
  .exact Go 18 Z (Cl p [0])
  .refine Go 2 Z (Lm Z (Go 3 Z (Is 19 p Z (λbp p=>?_) (λbp p=>?_))))
   .exact Go 12 Z (Cl p [0])
   .refine Go 2 Z (Lm Z (Go 3 Z (Is 25 p Z (λar p=>?_) (λar p=>?_))))
    .exact Go 6 Z (Cl p [0])
    .exact Go 2 Z (Lm Z (Go 3 Z (Cl p [0])))
 refine Gx 1 Z (TC.le j (Cn Z h (λau h=>?_) (λau h=>?_)))
 .exact Gc 7 Z (Rt h 2 [])
 refine Gc 8 Z (Bd h λbq br h=>?_);refine YM (b:=bq) [0] [1] (λ_=>[]) (λ_=>[]) (λ_=>rfl) ?_ (λbz env H w j=>?_)
 .refine G0 1 Z ?_;refine Lp [0] [1] (λaq=>[(3,I aq)]) (λ_=>[]) br (λ_=>rfl) (Lr [0]) λaq ci g F=>?_;refine G0 6 Z (Lm Z (Go 3 Z (QX Z g (λav g=>?_) (λav g=>?_))))
  .refine Gc 2 Z (Qh g ?_);obtain rfl:=Oj F g;exact Gx 1 Z (Qn Z (Lr [0]))
  refine Gc 9 Z (Bd g λcj aw g=>Iz aw Z (Go 7 Z (Bd g λM q g=>?_)));refine Ct M [0,1] [1,3,4] (λM=>[(57,.bool M)]) (λ_=>[]) (λ_=>rfl) ?_ (λenv H j=>?_)
  .refine G0 5 Z (Is 46 q Z (λax q=>?_) (λax q=>?_))
   .exact Go 12 Z (Cl q [0,1])
   .refine Go 7 Z (Is 53 q Z (λay q=>?_) (λay q=>?_))
    .exact Go 5 Z (Cl q [0,1])
    .exact Go 5 Z (Cl q [0,1])
  refine Gx 1 Z (TC.le j (Cn Z g (λaz g=>?_) (λaz g=>?_)))
  .refine Gc 9 Z (Qm g ?_);obtain rfl:=Oj F g;exact Gx 1 Z (Ql (Gx 1 Z (Rt h 2 [])))
  refine Gc 3 Z (Bd g λN i g=>?_);refine Ct N [0] [1,3] (λN=>[(95,.bool N)]) (λ_=>[]) (λ_=>rfl) ?_ (λenv H j=>?_)
  .refine G0 0 Z (DSs 34 Z (D 3 Z (Yg 2 i Z Z Z (λba i=>?_) (λba i=>?_))))
   .refine D 4 Z ?_;obtain⟨O,bb,i⟩:=YB i;refine DS.v (x:=(.rp [I O.A,I O.B])) (Yi (e:=Pair.c) (l:=u.Pairs) (v:=O) bb runUnderlying26 sizeOf149) ?_ (hg:=(gT Z));refine D 6 Z (Yg 13 i Z Z Z (λbc i=>?_) (λbc i=>?_))
    .exact D 20 Z (DS.done Z (Go 5 Z (Cl i [0])))
    .refine D 4 Z ?_;obtain⟨P,bd,i⟩:=YB i;refine DS.v (x:=(.rp [I P.A,I P.B])) (Yi (e:=Pair.c) (l:=u.Pairs) (v:=P) bd runUnderlying26 sizeOf149) ?_ (hg:=(gT Z));refine D 6 Z (Yg 24 i Z Z Z (λbe i=>?_) (λbe i=>?_))
     .refine D 4 Z ?_;obtain⟨Q,bf,i⟩:=YB i;refine DS.v (x:=(.rp [I Q.A,I Q.B])) (Yi (e:=Pair.c) (l:=u.Pairs) (v:=Q) bf runUnderlying26 sizeOf149) ?_ (hg:=(gT Z));exact D 4 Z (DS.done Z (Go 5 Z (Cl i [0])))
     .exact D 9 Z (DS.done Z (Go 5 Z (Cl i [0])))
   .exact D 31 Z (DS.done Z (Go 5 Z (Cl i [0])))
  refine Gx 1 Z (TC.le j (Cn Z g (λbg g=>?_) (λbg g=>?_)))
  .refine Gc 8 Z (Qm g ?_);obtain rfl:=Oj F g;exact Gx 1 Z (Ql (Gx 1 Z (Rt h 2 [])))
  exact Gc 8 Z (Qg g (Lr [0]))
 subst w;refine Gx 1 Z (TC.le j (Gc 6 Z (Bd h λbh bi h=>?_)));refine YM (b:=bh) [0] [1] (λ_=>[]) (λ_=>[]) (λ_=>rfl) ?_ (λbs env H w j=>?_)
 .refine G0 1 Z ?_;refine Lp [0] [1] (λR=>[(5,I R)]) (λ_=>[]) bi (λ_=>rfl) (Lr [0]) λR ca d y=>?_;refine G0 6 Z (Lm Z (Go 3 Z (QX Z d (λW d=>?_) (λW d=>?_))))
  .refine Gc 2 Z (Qh d ?_);obtain rfl:=Oj y d;exact Gx 1 Z (Qn Z (Lr [0]))
  refine Gc 9 Z (Bd d λm X d=>Iz X Z (Go 7 Z (Bd d λG a d=>?_)));refine Ct G [0,1] [1,5,6] (λG=>[(149,.bool G)]) (λ_=>[]) (λ_=>rfl) ?_ (λenv H j=>?_)
  .refine G0 0 Z (DSs 40 Z (D 2 Z ?_));refine Dz [] a (k_ec _ _) Z λcb bt a=>D 2 Z (Yg 4 a Z Z Z (λY a=>?_) (λY a=>?_))
   .exact D 35 Z (DS.done Z (Go 3 Z (Cl a [0,1])))
   .refine D 3 Z (Yg 7 a Z Z Z (λaa a=>?_) (λaa a=>?_))
    .refine D 4 Z ?_;obtain⟨z,ab,a⟩:=YB a;refine DS.v (x:=(.rp [I z.Bib,.rsl 1 (List.map (Qd .i64) z.Keys),.rsl 1 (List.map (YD 4 Outcome.c) z.Worlds)])) (Yi (e:=Runner.c) (l:=u.Runners) (v:=z) ab runUnderlying27 sizeOf68) ?_ (hg:=(gT Z));refine D 8 Z (Yg 20 a Z Z Z (λac a=>?_) (λac a=>?_))
     .exact D 19 Z (DS.done Z (Go 3 Z (Cl a [0,1])))
     .refine D 2 Z ?_;refine DS.v (x:=(I (m.Keys.length:Int))) (YJ (e:=(Qd .i64)) (l:=m.Keys) runUnderlying32) ?_ (hg:=(gT Z));refine D 2 Z ?_;obtain⟨s,ad,a⟩:=YB a;refine DS.v (x:=(.rp [I s.Bib,.rsl 1 (List.map (Qd .i64) s.Keys),.rsl 1 (List.map (YD 4 Outcome.c) s.Worlds)])) (Yi (e:=Runner.c) (l:=u.Runners) (v:=s) ad runUnderlying27 sizeOf68) ?_ (hg:=(gT Z));refine D 2 Z ?_;refine DS.v (x:=(I (s.Keys.length:Int))) (YJ (e:=(Qd .i64)) (l:=s.Keys) runUnderlying32) ?_ (hg:=(gT Z));refine D 3 Z (Yg 32 a Z Z Z (λae a=>?_) (λae a=>?_))
      .exact D 7 Z (DS.done Z (Go 3 Z (Cl a [0,1])))
      .refine D 2 Z ?_;refine DS.v (x:=(I (m.Worlds.length:Int))) (YJ (e:=(YD 4 Outcome.c)) (l:=m.Worlds) runUnderlying66) ?_ (hg:=(gT Z));refine D 2 Z ?_;refine DS.v (x:=(I (u.Pairs.length:Int))) (YJ (e:=Pair.c) (l:=u.Pairs) runUnderlying26) ?_ (hg:=(gT Z));exact D 1 Z (DS.done Z (Go 3 Z (Cl a [0,1])))
    .refine D 15 Z ?_;refine DS.v (x:=(I (m.Keys.length:Int))) (YJ (e:=(Qd .i64)) (l:=m.Keys) runUnderlying32) ?_ (hg:=(gT Z));refine D 2 Z ?_;obtain⟨t,af,a⟩:=YB a;refine DS.v (x:=(.rp [I t.Bib,.rsl 1 (List.map (Qd .i64) t.Keys),.rsl 1 (List.map (YD 4 Outcome.c) t.Worlds)])) (Yi (e:=Runner.c) (l:=u.Runners) (v:=t) af runUnderlying27 sizeOf68) ?_ (hg:=(gT Z));refine D 2 Z ?_;refine DS.v (x:=(I (t.Keys.length:Int))) (YJ (e:=(Qd .i64)) (l:=t.Keys) runUnderlying32) ?_ (hg:=(gT Z));refine D 3 Z (Yg 32 a Z Z Z (λag a=>?_) (λag a=>?_))
     .exact D 7 Z (DS.done Z (Go 3 Z (Cl a [0,1])))
     .refine D 2 Z ?_;refine DS.v (x:=(I (m.Worlds.length:Int))) (YJ (e:=(YD 4 Outcome.c)) (l:=m.Worlds) runUnderlying66) ?_ (hg:=(gT Z));refine D 2 Z ?_;refine DS.v (x:=(I (u.Pairs.length:Int))) (YJ (e:=Pair.c) (l:=u.Pairs) runUnderlying26) ?_ (hg:=(gT Z));exact D 1 Z (DS.done Z (Go 3 Z (Cl a [0,1])))
  refine Gx 1 Z (TC.le j (Cn Z d (λah d=>?_) (λah d=>?_)))
  .refine Gc 9 Z (Qm d ?_);obtain rfl:=Oj y d;exact Gx 1 Z (Ql (Gx 1 Z (Rt h 2 [])))
  refine Gc 7 Z (Bd d λbj bk d=>?_);refine YM (b:=bj) [0] [1,5] (λ_=>[]) (λ_=>[]) (λ_=>rfl) ?_ (λbu env H w j=>?_)
  .refine G0 1 Z ?_;refine Lp [0,1] [1,5,6] (λT=>[(7,I T)]) (λ_=>[]) bk (λ_=>rfl) (Lr [0,1]) λT cc k J=>?_;refine G0 6 Z (Lm Z (Go 3 Z (QX Z k (λai k=>?_) (λai k=>?_))))
   .refine Gc 2 Z (Qh k ?_);obtain rfl:=Oj J k;exact Gx 1 Z (Qn Z (Lr [0]))
   refine Gc 9 Z (Bd k λbl bm k=>?_);refine YM (b:=bl) [0,1] [1,5,6,7] (λ_=>[]) (λ_=>[]) (λ_=>rfl) ?_ (λbv env H w j=>?_)
   .refine G0 1 Z ?_;refine Lp [0,1] [1,5,6,7] (λV=>[(8,I V)]) (λ_=>[]) bm (λ_=>rfl) (Lr [0,1]) λV cd f L=>?_;refine G0 7 Z (Bd f λce aj f=>Iz aj Z (Go 1 Z (Lm Z (Go 3 Z (QX Z f (λak f=>?_) (λak f=>?_))))))
    .refine Gc 2 Z (Qh f ?_);obtain rfl:=Oj L f;exact Gx 1 Z (Qn Z (Lr [0,1]))
    refine Gc 5 Z (DSs 10 Z (D 5 Z ?_));obtain⟨bn,al,f⟩:=YB f;refine DS.wo (x:=.rp [.rsl 4 (List.map Outcome.c bn)]) ?_ ?_
    .exact Ix al runUnderlying66 sizeOf88 Z Wp
    refine D 2 Z ?_;obtain⟨E,am,f⟩:=YB f;refine DS.wo (x:=.rp [.bool E.Out,I E.Seg,I E.Lo,I E.Hi]) ?_ ?_
    .exact Ix am runUnderlying88 sizeOf146 Z Wp
    refine D 1 Z (DS.done Z (Cz [] f (k_et _ _ _) Z λcf bw f=>Go 3 Z (Cn Z f (λan f=>?_) (λan f=>?_))))
    .refine Gc 8 Z (Qm f ?_);obtain rfl:=Oj L f;refine Gx 1 Z (Ql (Gx 2 Z (Qm k ?_)));obtain rfl:=Oj J k;refine Gx 1 Z (Ql (Gx 2 Z (Qm d ?_)));obtain rfl:=Oj y d;exact Gx 1 Z (Ql (Gx 1 Z (Rt h 2 [])))
    exact Gc 8 Z (Qg f (Lr [0,1]))
   subst w;exact Gx 2 Z (TC.le j (Gc 5 Z (Qg k (Lr [0,1]))))
  subst w;exact Gx 2 Z (TC.le j (Gc 5 Z (Qg d (Lr [0]))))
 subst w;refine Gx 1 Z (TC.le j (Gc 4 Z (Cz [] h (k_ch _ _) Z λcg bx h=>Go 3 Z (Cn Z h (λao h=>?_) (λao h=>?_)))))
 .exact Gc 7 Z (Rt h 2 [])
 exact Gc 8 Z (Rt h 2 [])
def F_at(n:Nat)(a:Course)(f:Field)(b:Int)(c:Int):Option Int:=
  (F_z n a).bind λd=>(bif (d != 0)then some d else((bif decide (b<0)then some true else(bif decide ((a.Distances.length:Int)<=b)then some true else(bif decide (c<(-1))then some true else some (decide ((a.Categories.length:Int)<=c))))):Option Bool).bind λg=>(bif g then some 310 else(F_ab n f).bind λe=>(bif (e != 0)then some 240 else some 0)))
theorem k_at(n:Nat)(g:Course)(i:Field)(j:Int)(k:Int)(r:Int)(h:F_at n g i j k=some r):
    Csm prog 41 [.agg (Course.c g),.agg (Field.c i),I j,I k] [] (λr=>I r) r:=by
 refine Qb func41 Z Z Z ?_;refine G0 10 Z (Cz [] h (k_z _ _) Z λw t h=>Go 10 Z (Cn Z h (λl h=>?_) (λl h=>?_)))
 .exact Gc 8 Z (Rt h 8 [])
 refine Gc 4 Z (Bd h λb a h=>?_);refine Ct b [1] [5] (λb=>[(34,.bool b)]) (λ_=>[]) (λ_=>rfl) ?_ (λenv H m=>?_)
 .refine G0 4 Z (Is 17 a Z (λp a=>?_) (λp a=>?_))
  .exact Go 18 Z (Cl a [1])
  .refine Go 3 Z (Lm Z (Go 3 Z (Is 24 a Z (λq a=>?_) (λq a=>?_))))
   .exact Go 11 Z (Cl a [1])
   .refine Go 4 Z (Is 28 a Z (λd a=>?_) (λd a=>?_))
    .exact Go 7 Z (Cl a [1])
    .exact Go 3 Z (Lm Z (Go 3 Z (Cl a [1])))
 refine Gx 1 Z (TC.le m (Cn Z h (λe h=>?_) (λe h=>?_)))
 .exact Gc 7 Z (Rt h 8 [])
 refine Gc 6 Z (Cz [] h (k_ab _ _) Z λu s h=>Go 3 Z (Cn Z h (λf h=>?_) (λf h=>?_)))
 .exact Gc 7 Z (Rt h 8 [])
 exact Gc 8 Z (Rt h 8 [])
def F_hy(n:Nat)(c:Course)(e:Int)(f:Int)(g:Int)(b:Int):Option (Ctl Int (Ctl Unit Int)):=
  (bif decide (b<(c.Prizes.length:Int))then(idx c.Prizes b).bind λa=>((bif (a.Distance==e)then(bif (a.Category==f)then some (a.Rank==g)else some false)else some false):Option Bool).bind λd=>(bif d then some (.done (.done a.Amount))else some (.cont (IntKind.i64.wrap (b+1))))else some (.done (.cont ())))
def F_aq(n:Nat)(c:Course)(d:Int)(e:Int)(f:Int):Option Int:=
  (iter (F_hy n c d e f) n 0:Option (Ctl Unit Int)).bind λb=>match b with|.cont a=>(some 0)|.done a=>some a
theorem k_aq(n:Nat)(q:Course)(s:Int)(t:Int)(u:Int)(r:Int)(h:F_aq n q s t u=some r):
    Csm prog 28 [.agg (Course.c q),I s,I t,I u] [] (λr=>I r) r:=by
 refine Qb func28 Z Z Z ?_;refine G0 12 Z (Bd h λw x h=>?_);refine YM (b:=w) [] [] (λ_=>[]) (λ_=>[]) (λ_=>rfl) ?_ (λz env H y e=>?_)
 .refine G0 1 Z ?_;refine Lp [0] [1,2,3,4] (λi=>[(9,I i)]) (λ_=>[]) x (λ_=>rfl) (Lr [0]) λi B a f=>?_;refine G0 6 Z (Lm Z (Go 3 Z (QX Z a (λj a=>?_) (λj a=>?_))))
  .refine Gc 2 Z (Qh a ?_);obtain rfl:=Oj f a;exact Gx 1 Z (Qn Z (Lr []))
  refine Gc 9 Z (Bd a λE k a=>Iz k Z (Go 6 Z (Bd a λg d a=>?_)));refine Ct g [0,1] [1,2,3,4,9,10] (λg=>[(38,.bool g)]) (λ_=>[]) (λ_=>rfl) ?_ (λenv H e=>?_)
  .refine G0 6 Z (Is 27 d Z (λl d=>?_) (λl d=>?_))
   .refine Go 6 Z (Is 33 d Z (λm d=>?_) (λm d=>?_))
    .exact Go 6 Z (Cl d [0,1])
    .exact Go 6 Z (Cl d [0,1])
   .exact Go 12 Z (Cl d [0,1])
  refine Gx 1 Z (TC.le e (Cn Z a (λp a=>?_) (λp a=>?_)))
  .refine Gc 10 Z (Qm a ?_);obtain rfl:=Oj f a;exact Gx 1 Z (Ql (Gx 1 Z (Rt h 8 [])))
  exact Gc 8 Z (Qg a (Lr [0]))
 subst y;exact Gx 1 Z (TC.le e (Gc 6 Z (Rt h 8 [])))
def F_gv(n:Nat)(a:Field)(b:Int):Option Int:=
  (F_ab n a).bind λc=>(bif (c != 0)then some 240 else((bif decide (b<0)then some true else some (decide ((a.Runners.length:Int)<=b))):Option Bool).bind λd=>(bif d then some 250 else some 0))
theorem k_gv(n:Nat)(d:Field)(e:Int)(r:Int)(h:F_gv n d e=some r):
    Csm prog 103 [.agg (Field.c d),I e] [] (λr=>I r) r:=by
 refine Qb func103 Z Z Z ?_;refine G0 9 Z (Cz [] h (k_ab _ _) Z λl k h=>Go 10 Z (Cn Z h (λf h=>?_) (λf h=>?_)))
 .exact Gc 7 Z (Rt h 4 [])
 refine Gc 4 Z (Bd h λb a h=>?_);refine Ct b [] [] (λb=>[(18,.bool b)]) (λ_=>[]) (λ_=>rfl) ?_ (λenv H g=>?_)
 .refine G0 4 Z (Is 12 a Z (λi a=>?_) (λi a=>?_))
  .exact Go 7 Z (Cl a [])
  .exact Go 3 Z (Lm Z (Go 3 Z (Cl a [])))
 refine Gx 1 Z (TC.le g (Cn Z h (λj h=>?_) (λj h=>?_)))
 .exact Gc 7 Z (Rt h 4 [])
 exact Gc 8 Z (Rt h 4 [])
def F_mm(n:Nat)(b:Field)(c:Int)(a:Int):Option (Ctl Int (Ctl Unit Bool)):=
  (bif decide (a<(b.Runners.length:Int))then((idx b.Runners a).bind λd=>(bif decide ((d.Worlds.length:Int)<=c)then some true else(idx b.Runners a).bind λe=>(idx e.Worlds c).bind λf=>some ((f.length:Int)==0)):Option Bool).bind λg=>(bif g then some (.done (.done false))else some (.cont (IntKind.i64.wrap (a+1))))else some (.done (.cont ())))
def F_dg(n:Nat)(c:Field)(b:Int):Option Bool:=
  ((bif decide (b<0)then some true else some (decide ((c.Pairs.length:Int)<b))):Option Bool).bind λe=>(bif e then some false else(iter (F_mm n c b) n 0:Option (Ctl Unit Bool)).bind λd=>match d with|.cont a=>(some true)|.done a=>some a)
theorem k_dg(n:Nat)(u:Field)(w:Int)(r:Bool)(h:F_dg n u w=some r):
    Csm prog 84 [.agg (Field.c u),I w] [] (λr=>.bool r) r:=by
 refine Qb func84 Z Z Z ?_;refine G0 8 Z (Bd h λk f h=>?_);refine Ct k [0] [1,2] (λk=>[(14,.bool k)]) (λ_=>[]) (λ_=>rfl) ?_ (λenv H e=>?_)
 .refine G0 4 Z (Is 8 f Z (λx f=>?_) (λx f=>?_))
  .exact Go 7 Z (Cl f [0])
  .exact Go 3 Z (Lm Z (Go 3 Z (Cl f [0])))
 refine Gx 1 Z (TC.le e (Cn Z h (λy h=>?_) (λy h=>?_)))
 .exact Gc 7 Z (Rt h 4 [])
 refine Gc 8 Z (Bd h λz B h=>?_);refine YM (b:=z) [] [] (λ_=>[]) (λ_=>[]) (λ_=>rfl) ?_ (λF env H E e=>?_)
 .refine G0 1 Z ?_;refine Lp [0] [1,2] (λj=>[(5,I j)]) (λ_=>[]) B (λ_=>rfl) (Lr [0]) λj G a g=>?_;refine G0 6 Z (Lm Z (Go 3 Z (QX Z a (λl a=>?_) (λl a=>?_))))
  .refine Gc 2 Z (Qh a ?_);obtain rfl:=Oj g a;exact Gx 1 Z (Qn Z (Lr []))
  refine Gc 5 Z (Bd a λi d a=>?_);refine Ct i [0] [1,2,5] (λi=>[(43,.bool i)]) (λ_=>[]) (λ_=>rfl) ?_ (λenv H e=>?_)
  .refine G0 5 Z (Bd d λJ m d=>Iz m Z (Go 2 Z (Lm Z (Go 2 Z (Is 31 d Z (λp d=>?_) (λp d=>?_))))))
   .exact Go 13 Z (Cl d [0])
   .exact Go 3 Z (Bd d λL q d=>Iz q Z (Go 3 Z (Bd d λM s d=>Iz s Z (Go 1 Z (Lm Z (Go 3 Z (Cl d [0])))))))
  refine Gx 1 Z (TC.le e (Cn Z a (λt a=>?_) (λt a=>?_)))
  .refine Gc 8 Z (Qm a ?_);obtain rfl:=Oj g a;exact Gx 1 Z (Ql (Gx 1 Z (Rt h 4 [])))
  exact Gc 8 Z (Qg a (Lr [0]))
 subst E;exact Gx 1 Z (TC.le e (Gc 6 Z (Rt h 4 [])))
def F_es(n:Nat)(b:List Int)(c:List Int)(a:Int):Option (Ctl Int (Ctl Unit Bool)):=
  ((bif decide (a<(b.length:Int))then some (decide (a<(c.length:Int)))else some false):Option Bool).bind λd=>(bif d then(idx b a).bind λe=>(idx c a).bind λf=>(bif (e != f)then(idx b a).bind λg=>(idx c a).bind λh=>some (.done (.done (decide (g<h))))else some (.cont (IntKind.i64.wrap (a+1))))else some (.done (.cont ())))
def F_bk(n:Nat)(b:List Int)(c:List Int):Option Bool:=
  (iter (F_es n b c) n 0:Option (Ctl Unit Bool)).bind λd=>match d with|.cont a=>(some (decide ((b.length:Int)<(c.length:Int))))|.done a=>some a
theorem k_bk(n:Nat)(s:List Int)(t:List Int)(r:Bool)(h:F_bk n s t=some r):
    Csm prog 133 [.rsl 1 (List.map (Qd .i64) s),.rsl 1 (List.map (Qd .i64) t)] [] (λr=>.bool r) r:=by
 refine Qb func133 Z Z Z ?_;refine G0 11 Z (Bd h λu w h=>?_);refine YM (b:=u) [] [0,1] (λ_=>[]) (λ_=>[]) (λ_=>rfl) ?_ (λG env H y d=>?_)
 .refine G0 1 Z ?_;refine Lp [] [0,1] (λg=>[(5,I g)]) (λ_=>[]) w (λ_=>rfl) (Lr []) λg J a e=>?_;refine G0 2 Z (Bd a λf c a=>?_);refine Ct f [] [0,1,5] (λf=>[(15,.bool f)]) (λ_=>[]) (λ_=>rfl) ?_ (λenv H d=>?_)
  .refine G0 3 Z (Lm Z (Go 2 Z (Is 10 c Z (λi c=>?_) (λi c=>?_))))
   .exact Go 2 Z (Lm Z (Go 3 Z (Cl c [])))
   .exact Go 6 Z (Cl c [])
  refine Gx 1 Z (TC.le d (QX Z a (λj a=>?_) (λj a=>?_)))
  .refine Gc 2 Z (Qh a ?_);obtain rfl:=Oj e a;exact Gx 1 Z (Qn Z (Lr []))
  refine Gc 5 Z (DSs 8 Z (D 2 Z ?_));obtain⟨z,k,a⟩:=YB a;refine DS.wo (x:=.rp [I z]) ?_ ?_
  .exact Ix k runUnderlying32 sizeOf3 Z Wp
  refine D 3 Z ?_;obtain⟨B,l,a⟩:=YB a;refine DS.wo (x:=.rp [I B]) ?_ ?_
  .exact Ix l runUnderlying32 sizeOf3 Z Wp
  refine D 1 Z (DS.done Z (Go 3 Z (Cn Z a (λm a=>?_) (λm a=>?_))))
  .refine Gc 1 Z (DSs 8 Z (D 2 Z ?_));obtain⟨E,p,a⟩:=YB a;refine DS.wo (x:=.rp [I E]) ?_ ?_
   .exact Ix p runUnderlying32 sizeOf3 Z Wp
   refine D 3 Z ?_;obtain⟨F,q,a⟩:=YB a;refine DS.wo (x:=.rp [I F]) ?_ ?_
   .exact Ix q runUnderlying32 sizeOf3 Z Wp
   refine D 1 Z (DS.done Z (Go 7 Z (Qm a ?_)));obtain rfl:=Oj e a;exact Gx 1 Z (Ql (Gx 1 Z (Rt h 4 [])))
  exact Gc 8 Z (Qg a (Lr []))
 subst y;exact Gx 1 Z (TC.le d (Gc 3 Z (Lm Z (Go 1 Z (Lm Z (Go 5 Z (Rt h 4 [])))))))
def F_fq(n:Nat)(b:Field)(c:Outcome)(h:Int)(a:Outcome)(i:Int):Option Bool:=
  (bif a.Out then some true else(idx b.Clocks.Far (IntKind.i64.wrap (c.Seg+1))).bind λj=>(idx j (IntKind.i64.wrap (a.Seg+1))).bind λd=>((bif decide (0<(IntKind.i64.wrap ((IntKind.i64.wrap (a.Hi+d))-c.Lo)))then some true else(bif ((IntKind.i64.wrap ((IntKind.i64.wrap (a.Hi+d))-c.Lo))==0)then(idx b.Runners i).bind λe=>(idx b.Runners h).bind λf=>(F_bk n e.Keys f.Keys).bind λg=>some (!g)else some false)):Option Bool).bind λk=>some k)
theorem k_fq(n:Nat)(f:Field)(p:Outcome)(q:Int)(s:Outcome)(t:Int)(r:Bool)(h:F_fq n f p q s t=some r):
    Csm prog 228 [.agg (Field.c f),.agg (Outcome.c p),I q,.agg (Outcome.c s),I t] [] (λr=>.bool r) r:=by
 refine Qb func228 Z Z Z ?_;refine G0 15 Z (Cn Z h (λu h=>?_) (λu h=>?_))
 .exact Gc 7 Z (Rt h 10 [])
 refine Gc 3 Z (DSs 18 Z (D 8 Z ?_));obtain⟨B,w,h⟩:=YB h;refine DS.wo (x:=.rp [.rsl 1 (List.map (Qd .i64) B)]) ?_ ?_
 .exact Ix w runUnderlying23 sizeOf32 Z Wp
 refine D 4 Z ?_;obtain⟨E,y,h⟩:=YB h;refine DS.wo (x:=.rp [I E]) ?_ ?_
 .exact Ix y runUnderlying32 sizeOf3 Z Wp
 refine D 4 Z (DS.done Z (Go 5 Z (Bd h λg a h=>?_)));refine Ct g [] [] (λg=>[(10,.bool g)]) (λ_=>[]) (λ_=>rfl) ?_ (λenv H z=>?_)
 .refine G0 0 Z (DSs 18 Z (D 3 Z (Yg 2 a Z Z Z (λi a=>?_) (λi a=>?_))))
  .exact D 15 Z (DS.done Z (Go 6 Z (Cl a [])))
  .refine D 3 Z (Yg 5 a Z Z Z (λj a=>?_) (λj a=>?_))
   .refine D 3 Z ?_;obtain⟨b,k,a⟩:=YB a;refine DS.v (x:=(.rp [I b.Bib,.rsl 1 (List.map (Qd .i64) b.Keys),.rsl 1 (List.map (YD 4 Outcome.c) b.Worlds)])) (Yi (e:=Runner.c) (l:=f.Runners) (v:=b) k runUnderlying27 sizeOf68) ?_ (hg:=(gT Z));refine D 5 Z ?_;obtain⟨d,m,a⟩:=YB a;refine DS.v (x:=(.rp [I d.Bib,.rsl 1 (List.map (Qd .i64) d.Keys),.rsl 1 (List.map (YD 4 Outcome.c) d.Worlds)])) (Yi (e:=Runner.c) (l:=f.Runners) (v:=d) m runUnderlying27 sizeOf68) ?_ (hg:=(gT Z));exact D 2 Z (DS.done Z (Cz [] a (k_bk _ _ _) Z λG F a=>Go 5 Z (Cl a [])))
   .exact D 12 Z (DS.done Z (Go 6 Z (Cl a [])))
 exact Gx 1 Z (TC.le z (Gc 1 Z (Rt h 10 [])))
def F_mj(n:Nat)(e:Field)(f:Outcome)(g:Int)(h:Int)(b:List Outcome)(a:Int):Option (Ctl Int (Ctl Unit Bool)):=
  (bif decide (a<(b.length:Int))then(idx b a).bind λc=>(F_fq n e f g c h).bind λd=>(bif d then some (.done (.done true))else some (.cont (IntKind.i64.wrap (a+1))))else some (.done (.cont ())))
def F_eb(n:Nat)(b:Field)(e:Int)(f:Outcome)(g:Int)(c:Int):Option Bool:=
  (idx b.Runners c).bind λh=>(idx h.Worlds e).bind λi=>(iter (F_mj n b f g c i) n 0:Option (Ctl Unit Bool)).bind λd=>match d with|.cont a=>(some false)|.done a=>some a
theorem k_eb(n:Nat)(k:Field)(l:Int)(m:Outcome)(p:Int)(q:Int)(r:Bool)(h:F_eb n k l m p q=some r):
    Csm prog 151 [.agg (Field.c k),I l,.agg (Outcome.c m),I p,I q] [] (λr=>.bool r) r:=by
 refine Qb func151 Z Z Z ?_;refine G0 12 Z (Bd h λJ s h=>Iz s Z (Go 3 Z (Bd h λL t h=>Iz t Z (Go 10 Z (Bd h λu w h=>?_)))));refine YM (b:=u) [] [] (λ_=>[]) (λ_=>[]) (λ_=>rfl) ?_ (λB env H y z=>?_)
 .refine G0 1 Z ?_;refine Lp [0,1] [3,4,5,7,11] (λf=>[(12,I f)]) (λ_=>[]) w (λ_=>rfl) (Lr [0,1]) λf F a e=>?_;refine G0 5 Z (Lm Z (Go 3 Z (QX Z a (λg a=>?_) (λg a=>?_))))
  .refine Gc 2 Z (Qh a ?_);obtain rfl:=Oj e a;exact Gx 1 Z (Qn Z (Lr []))
  refine Gc 5 Z (DSs 8 Z (D 5 Z ?_));obtain⟨d,i,a⟩:=YB a;refine DS.wo (x:=.rp [.bool d.Out,I d.Seg,I d.Lo,I d.Hi]) ?_ ?_
  .exact Ix i runUnderlying88 sizeOf146 Z Wp
  refine D 2 Z (DS.done Z (Cz [] a (k_fq _ _ _ _ _ _) Z λG E a=>Go 2 Z (Cn Z a (λj a=>?_) (λj a=>?_))))
  .refine Gc 8 Z (Qm a ?_);obtain rfl:=Oj e a;exact Gx 1 Z (Ql (Gx 1 Z (Rt h 10 [])))
  exact Gc 8 Z (Qg a (Lr [0,1]))
 subst y;exact Gx 1 Z (TC.le z (Gc 6 Z (Rt h 10 [])))
def F_ee(n:Nat)(b:Field)(c:Outcome)(h:Int)(a:Outcome)(i:Int):Option Bool:=
  (bif a.Out then some false else(idx b.Clocks.Far (IntKind.i64.wrap (a.Seg+1))).bind λj=>(idx j (IntKind.i64.wrap (c.Seg+1))).bind λd=>((bif decide ((IntKind.i64.wrap ((IntKind.i64.wrap (a.Lo-d))-c.Hi))<0)then some true else(bif ((IntKind.i64.wrap ((IntKind.i64.wrap (a.Lo-d))-c.Hi))==0)then(idx b.Runners i).bind λe=>(idx b.Runners h).bind λf=>(F_bk n e.Keys f.Keys).bind λg=>some g else some false)):Option Bool).bind λk=>some k)
theorem k_ee(n:Nat)(f:Field)(p:Outcome)(q:Int)(s:Outcome)(t:Int)(r:Bool)(h:F_ee n f p q s t=some r):
    Csm prog 229 [.agg (Field.c f),.agg (Outcome.c p),I q,.agg (Outcome.c s),I t] [] (λr=>.bool r) r:=by
 refine Qb func229 Z Z Z ?_;refine G0 15 Z (Cn Z h (λu h=>?_) (λu h=>?_))
 .exact Gc 7 Z (Rt h 10 [])
 refine Gc 3 Z (DSs 18 Z (D 8 Z ?_));obtain⟨B,w,h⟩:=YB h;refine DS.wo (x:=.rp [.rsl 1 (List.map (Qd .i64) B)]) ?_ ?_
 .exact Ix w runUnderlying23 sizeOf32 Z Wp
 refine D 4 Z ?_;obtain⟨E,y,h⟩:=YB h;refine DS.wo (x:=.rp [I E]) ?_ ?_
 .exact Ix y runUnderlying32 sizeOf3 Z Wp
 refine D 4 Z (DS.done Z (Go 5 Z (Bd h λg a h=>?_)));refine Ct g [] [] (λg=>[(10,.bool g)]) (λ_=>[]) (λ_=>rfl) ?_ (λenv H z=>?_)
 .refine G0 0 Z (DSs 18 Z (D 3 Z (Yg 2 a Z Z Z (λi a=>?_) (λi a=>?_))))
  .exact D 15 Z (DS.done Z (Go 5 Z (Cl a [])))
  .refine D 3 Z (Yg 5 a Z Z Z (λj a=>?_) (λj a=>?_))
   .refine D 3 Z ?_;obtain⟨b,k,a⟩:=YB a;refine DS.v (x:=(.rp [I b.Bib,.rsl 1 (List.map (Qd .i64) b.Keys),.rsl 1 (List.map (YD 4 Outcome.c) b.Worlds)])) (Yi (e:=Runner.c) (l:=f.Runners) (v:=b) k runUnderlying27 sizeOf68) ?_ (hg:=(gT Z));refine D 5 Z ?_;obtain⟨d,m,a⟩:=YB a;refine DS.v (x:=(.rp [I d.Bib,.rsl 1 (List.map (Qd .i64) d.Keys),.rsl 1 (List.map (YD 4 Outcome.c) d.Worlds)])) (Yi (e:=Runner.c) (l:=f.Runners) (v:=d) m runUnderlying27 sizeOf68) ?_ (hg:=(gT Z));exact D 2 Z (DS.done Z (Cz [] a (k_bk _ _ _) Z λG F a=>Go 4 Z (Cl a [])))
   .exact D 12 Z (DS.done Z (Go 5 Z (Cl a [])))
 exact Gx 1 Z (TC.le z (Gc 1 Z (Rt h 10 [])))
def F_md(n:Nat)(e:Field)(f:Outcome)(g:Int)(h:Int)(b:List Outcome)(a:Int):Option (Ctl Int (Ctl Unit Bool)):=
  (bif decide (a<(b.length:Int))then(idx b a).bind λc=>(F_ee n e f g c h).bind λd=>(bif d then some (.done (.done true))else some (.cont (IntKind.i64.wrap (a+1))))else some (.done (.cont ())))
def F_dv(n:Nat)(b:Field)(e:Int)(f:Outcome)(g:Int)(c:Int):Option Bool:=
  (idx b.Runners c).bind λh=>(idx h.Worlds e).bind λi=>(iter (F_md n b f g c i) n 0:Option (Ctl Unit Bool)).bind λd=>match d with|.cont a=>(some false)|.done a=>some a
theorem k_dv(n:Nat)(k:Field)(l:Int)(m:Outcome)(p:Int)(q:Int)(r:Bool)(h:F_dv n k l m p q=some r):
    Csm prog 152 [.agg (Field.c k),I l,.agg (Outcome.c m),I p,I q] [] (λr=>.bool r) r:=by
 refine Qb func152 Z Z Z ?_;refine G0 12 Z (Bd h λJ s h=>Iz s Z (Go 3 Z (Bd h λL t h=>Iz t Z (Go 10 Z (Bd h λu w h=>?_)))));refine YM (b:=u) [] [] (λ_=>[]) (λ_=>[]) (λ_=>rfl) ?_ (λB env H y z=>?_)
 .refine G0 1 Z ?_;refine Lp [0,1] [3,4,5,7,11] (λf=>[(12,I f)]) (λ_=>[]) w (λ_=>rfl) (Lr [0,1]) λf F a e=>?_;refine G0 5 Z (Lm Z (Go 3 Z (QX Z a (λg a=>?_) (λg a=>?_))))
  .refine Gc 2 Z (Qh a ?_);obtain rfl:=Oj e a;exact Gx 1 Z (Qn Z (Lr []))
  refine Gc 5 Z (DSs 8 Z (D 5 Z ?_));obtain⟨d,i,a⟩:=YB a;refine DS.wo (x:=.rp [.bool d.Out,I d.Seg,I d.Lo,I d.Hi]) ?_ ?_
  .exact Ix i runUnderlying88 sizeOf146 Z Wp
  refine D 2 Z (DS.done Z (Cz [] a (k_ee _ _ _ _ _ _) Z λG E a=>Go 2 Z (Cn Z a (λj a=>?_) (λj a=>?_))))
  .refine Gc 8 Z (Qm a ?_);obtain rfl:=Oj e a;exact Gx 1 Z (Ql (Gx 1 Z (Rt h 10 [])))
  exact Gc 8 Z (Qg a (Lr [0,1]))
 subst y;exact Gx 1 Z (TC.le z (Gc 6 Z (Rt h 10 [])))
def F_mo(n:Nat)(c:Field)(e:Int)(f:Outcome)(d:Int)(a:Int×Int×Int):Option (Ctl (Int×Int×Int) (Int×Int)):=
  (bif decide (a.2.2<(c.Runners.length:Int))then((bif (a.2.2==d)then some (a.1,a.2.1)else(F_eb n c e f d a.2.2).bind λg=>((bif (!g)then some (IntKind.i64.wrap (a.1+1))else some a.1):Option Int).bind λh=>(F_dv n c e f d a.2.2).bind λi=>((bif i then some (IntKind.i64.wrap (a.2.1+1))else some a.2.1):Option Int).bind λj=>some (h,j)):Option (Int×Int)).bind λb=>some (.cont (b.1,b.2,IntKind.i64.wrap (a.2.2+1)))else some (.done (a.1,a.2.1)))
def F_ek(n:Nat)(b:Field)(c:Int)(d:Outcome)(e:Int):Option (Int×Int):=
  (iter (F_mo n b c d e) n (1,1,0):Option (Int×Int)).bind λa=>some (a.1,a.2)
theorem k_ek(n:Nat)(u:Field)(w:Int)(x:Outcome)(y:Int)(r:Int×Int)(h:F_ek n u w x y=some r):
    Csm prog 104 [.agg (Field.c u),I w,.agg (Outcome.c x),I y] [] (λr=>.tup [I r.1,I r.2]) r:=by
 refine Qb func104 Z Z Z ?_;refine G0 24 Z (Bd h λg z h=>?_);refine Ct g [] [] (λg=>[(10,I g.1),(11,I g.2)]) (λ_=>[]) (λ_=>rfl) ?_ (λenv H d=>?_)
 .refine G0 1 Z ?_;refine Lp [0,1] [1,3,4,6] (λi=>[(10,I i.1),(11,I i.2.1),(12,I i.2.2)]) (λ_=>[]) z (λ_=>rfl) (Lr [0,1]) λi F b m=>?_;refine G0 6 Z (Lm Z (Go 3 Z (QX Z b (λp b=>?_) (λp b=>?_))))
  .refine Gc 2 Z (Qh b ?_);obtain rfl:=Oj m b;exact Gx 1 Z (QB (Lr []))
  refine Gc 3 Z (Bd b λj a b=>?_);refine Ct j [0,1] [1,3,4,6,12] (λj=>[(10,I j.1),(11,I j.2)]) (λ_=>[]) (λ_=>rfl) ?_ (λenv H d=>?_)
  .refine G0 9 Z (Cn Z a (λq a=>?_) (λq a=>?_))
   .exact Gc 3 Z (Cl a [0,1])
   refine Gc 10 Z (Cz [] a (k_eb _ _ _ _ _ _) Z λG B a=>Go 3 Z (Bd a λk e a=>?_));refine Ct k [0,1] [1,3,4,6,11,12] (λk=>[(10,I k)]) (λ_=>[]) (λ_=>rfl) ?_ (λenv H d=>?_)
   .refine G0 0 Z (Cn Z e (λs e=>?_) (λs e=>?_))
    .exact Gc 5 Z (Cl e [0,1])
    exact Gc 1 Z (Cl e [0,1])
   refine Gx 1 Z (TC.le d (Gc 7 Z (Cz [] a (k_dv _ _ _ _ _ _) Z λJ E a=>Go 2 Z (Bd a λl f a=>?_))));refine Ct l [0,1] [1,3,4,6,10,12] (λl=>[(11,I l)]) (λ_=>[]) (λ_=>rfl) ?_ (λenv H d=>?_)
   .refine G0 0 Z (Cn Z f (λt f=>?_) (λt f=>?_))
    .exact Gc 5 Z (Cl f [0,1])
    exact Gc 1 Z (Cl f [0,1])
   refine Gx 1 Z ?_;cases a;exact QB (Le.trans d (Lr [0,1]))
  exact Gx 1 Z (TC.le d (Gc 5 Z (Qg b (Lr [0,1]))))
 refine Gx 1 Z (TC.le d (Gc 9 Z ?_));obtain rfl:=Oi h;exact R2 8 9 Z Z (Lr [])
def F_kf(n:Nat)(l:Field)(m:Int)(e:Rank×Int)(c:List Outcome)(a:Rank×Int):Option (Ctl (Rank×Int) Rank):=
  ((bif decide (a.2<(c.length:Int))then(F_dg n l e.2).bind λf=>some f else some false):Option Bool).bind λg=>(bif g then((idx c a.2).bind λh=>(bif h.Out then some ({a.1 with Out:=true:Rank})else(idx c a.2).bind λi=>(F_ek n l e.2 i m).bind λb=>((bif (a.1.Lo==0)then some true else some (decide (b.1<a.1.Lo))):Option Bool).bind λj=>((bif j then some ({a.1 with Lo:=b.1:Rank})else some a.1):Option Rank).bind λd=>some ({d with Hi:=(if d.Hi<b.2 then b.2 else d.Hi):Rank})):Option Rank).bind λk=>some (.cont (k,IntKind.i64.wrap (a.2+1)))else some (.done a.1))
def F_mi(n:Nat)(b:Field)(f:Int)(a:Rank×Int):Option (Ctl (Rank×Int) Rank):=
  (bif decide (a.2<=(b.Pairs.length:Int))then(idx b.Runners f).bind λc=>(idx c.Worlds a.2).bind λd=>(iter (F_kf n b f a d) n (a.1,0):Option Rank).bind λe=>some (.cont (e,IntKind.i64.wrap (a.2+1)))else some (.done a.1))
def F_ao(n:Nat)(b:Field)(c:Int):Option (Rank×Int):=
  (F_gv n b c).bind λf=>(bif (f != 0)then some (z_Rank,f)else(idx b.Runners c).bind λg=>(iter (F_mi n b c) n ({z_Rank with Bib:=g.Bib:Rank},0):Option Rank).bind λa=>((bif (a.Lo==0)then some ({a with Kind:=3:Rank})else((bif (a.Lo==a.Hi)then some (!a.Out)else some false):Option Bool).bind λd=>(bif d then some ({a with Kind:=1:Rank})else some ({a with Kind:=2:Rank}))):Option Rank).bind λe=>some (e,0))
theorem k_ao(n:Nat)(a1:Field)(a2:Int)(r:Rank×Int)(h:F_ao n a1 a2=some r):
    C prog 67 [.agg (Field.c a1),I a2] [] (RQ (λr=>.tup [.agg (Rank.c r.1),I r.2]) (λr=>[.cells 78 (Rank.c r.1)]) r):=by
 refine Qb func67 Z Z Z ?_;refine G0 11 Z (Cz [] h (k_gv _ _ _) Z λr1 am h=>Go 10 Z (Cn Z h (λad h=>?_) (λad h=>?_)))
 .refine Gc 10 Z ?_;obtain rfl:=Oi h;exact Rx [1] [4,5] Z (QK Z Z (QiK.cons (Qw isAgg78 sizeOf78 Z Z Z) (QiK.cons QcT.tmp QiK.nil))) ⟨Z,Z⟩
 refine Gc 7 Z (Bd h λx3 ae h=>Iz ae Z (Go 13 Z (Bd h λt ab h=>?_)));refine Ct t [1,2] [4,7] (λ_=>[]) (λt=>[(1,.cells 78 (Rank.c t))]) (λ_=>rfl) ?_ (λenv H d=>?_)
 .refine G0 1 Z ?_;refine Lp [0,1,2] [1,2,4,7] (λm=>[(8,I m.2)]) (λm=>[(2,.cells 78 (Rank.c m.1))]) ab (λ_=>rfl) (Lr [0,1,2]) λm ag b F=>?_;refine G0 6 Z (Lm Z (Go 3 Z (QX Z b (λG b=>?_) (λG b=>?_))))
  .refine Gc 2 Z (Qh b ?_);obtain rfl:=Oj F b;exact Gx 1 Z (QB (Lr [1,2]))
  refine Gc 9 Z (Bd b λah J b=>Iz J Z (Go 3 Z (Bd b λai L b=>Iz L Z (Go 9 Z (Bd b λu ac b=>?_)))));refine Ct u [0,1,2] [1,2,4,7,8] (λ_=>[]) (λu=>[(2,.cells 78 (Rank.c u))]) (λ_=>rfl) ?_ (λenv H d=>?_)
  .refine G0 1 Z ?_;refine Lp [0,1,2] [1,2,4,7,8,9] (λp=>[(10,I p.2)]) (λp=>[(2,.cells 78 (Rank.c p.1))]) ac (λ_=>rfl) (Lr [0,1,2]) λp aj f M=>?_;refine G0 2 Z (Bd f λw g f=>?_);refine Ct w [0,1,2] [1,2,4,7,8,9,10] (λw=>[(51,.bool w)]) (λ_=>[]) (λ_=>rfl) ?_ (λenv H d=>?_)
   .refine G0 3 Z (Lm Z (Go 2 Z (Is 47 g Z (λN g=>?_) (λN g=>?_))))
    .exact Go 2 Z (Cz [] g (k_dg _ _ _) Z λak af g=>Go 2 Z (Cl g [0,1,2]))
    .exact Go 5 Z (Cl g [0,1,2])
   refine Gx 1 Z (TC.le d (QX Z f (λO f=>?_) (λO f=>?_)))
   .refine Gc 2 Z (Qh f ?_);obtain rfl:=Oj M f;exact Gx 1 Z (QB (Lr [0,1,2]))
   refine Gc 3 Z (Bd f λy a f=>?_);refine Ct y [0,1,2] [1,2,4,7,8,9,10] (λ_=>[]) (λy=>[(2,.cells 78 (Rank.c y))]) (λ_=>rfl) ?_ (λenv H d=>?_)
   .refine G0 6 Z (Bd a λal P a=>Iz P Z (Go 4 Z (Cn Z a (λQ a=>?_) (λQ a=>?_))))
    .exact Gc 9 Z (Cl a [0,1,2])
    refine Gc 3 Z (DSs 12 Z (D 4 Z ?_));obtain⟨q,R,a⟩:=YB a;refine DS.wo (x:=.rp [.bool q.Out,I q.Seg,I q.Lo,I q.Hi]) ?_ ?_
    .exact Ix R runUnderlying88 sizeOf146 Z Wp
    refine D 2 Z ?_;obtain⟨s,T,a⟩:=YB a;refine DS.wo (x:=.tup [I s.1,I s.2]) ?_ ?_
    .refine Qy [] (OpC.fn call104 Z Z Z) (k_ek _ _ _ _ _ _ T) ?_;rintro _ _ ⟨rfl,rfl⟩;exact FE Z Wp
    refine D 4 Z (DS.done Z (Go 5 Z (Bd a λz i a=>?_)));refine Ct z [0,1,2] [1,2,4,7,8,9,10,11,12] (λz=>[(79,.bool z)]) (λ_=>[]) (λ_=>rfl) ?_ (λenv H d=>?_)
    .refine G0 5 Z (Is 74 i Z (λV i=>?_) (λV i=>?_))
     .exact Go 6 Z (Cl i [0,1,2])
     .exact Go 6 Z (Cl i [0,1,2])
    refine Gx 1 Z (TC.le d (Bd a λj k a=>?_));refine Ct j [0,1,2] [1,2,4,7,8,9,10,12] (λ_=>[]) (λj=>[(2,.cells 78 (Rank.c j))]) (λ_=>rfl) ?_ (λenv H d=>?_)
    .refine G0 0 Z (Cn Z k (λW k=>?_) (λW k=>?_))
     .exact Gc 5 Z (Cl k [0,1,2])
     exact Gc 1 Z (Cl k [0,1,2])
    refine Gx 1 Z (TC.le d (Gc 4 Z ?_));refine vX (I (if j.Hi<s.2 then s.2 else j.Hi)) (OpV.max Z Z Z Z) ?_;exact Go 4 Z (Cl a [0,1,2])
   exact Gx 1 Z (TC.le d (Gc 5 Z (Qg f (Lr [0,1,2]))))
  exact Gx 2 Z (TC.le d (Gc 5 Z (Qg b (Lr [0,1,2]))))
 refine Gx 1 Z (TC.le d (Gc 10 Z (Bd h λB e h=>?_)));refine Ct B [0,1] [4,7] (λ_=>[]) (λB=>[(1,.cells 78 (Rank.c B))]) (λ_=>rfl) ?_ (λenv H d=>?_)
 .refine G0 0 Z (Cn Z e (λX e=>?_) (λX e=>?_))
  .exact Gc 4 Z (Cl e [0,1])
  refine Gc 1 Z (Bd e λE l e=>?_);refine Ct E [0,1] [4,7] (λE=>[(93,.bool E)]) (λ_=>[]) (λ_=>rfl) ?_ (λenv H d=>?_)
  .refine G0 7 Z (Is 99 l Z (λY l=>?_) (λY l=>?_))
   .exact Go 6 Z (Cl l [0,1])
   .exact Go 6 Z (Cl l [0,1])
  refine Gx 1 Z (TC.le d (Cn Z e (λaa e=>?_) (λaa e=>?_)))
  .exact Gc 4 Z (Cl e [0,1])
  exact Gc 4 Z (Cl e [0,1])
 refine Gx 2 Z (TC.le d (Gc 8 Z ?_));obtain rfl:=Oi h;exact Rx [0] [4,5] Z (QK Z Z (QiK.cons (Qw isAgg78 sizeOf78 Z Z Z) (QiK.cons QcT.tmp QiK.nil))) ⟨Z,Z⟩
def F_bb(n:Nat)(c:Field)(d:Int)(b:Int):Option Bool:=
  (F_ao n c d).bind λa=>((bif (a.1.Kind != 3)then(bif decide (a.1.Lo<=b)then some (decide (b<=a.1.Hi))else some false)else some false):Option Bool).bind λe=>some e
theorem k_bb(n:Nat)(d:Field)(e:Int)(f:Int)(r:Bool)(h:F_bb n d e f=some r):
    Csm prog 36 [.agg (Field.c d),I e,I f] [] (λr=>.bool r) r:=by
 refine Qb func36 Z Z Z ?_;refine G0 10 Z (Cd [] h (k_ao _ _ _) Z λl k h=>FE Z (Go 9 Z (Bd h λb a h=>?_)));refine Ct b [] [] (λb=>[(6,.bool b)]) (λ_=>[]) (λ_=>rfl) ?_ (λenv H g=>?_)
 .refine G0 5 Z (Is 18 a Z (λi a=>?_) (λi a=>?_))
  .refine Go 6 Z (Is 24 a Z (λj a=>?_) (λj a=>?_))
   .exact Go 7 Z (Cl a [])
   .exact Go 7 Z (Cl a [])
  .exact Go 13 Z (Cl a [])
 exact Gx 1 Z (TC.le g (Gc 1 Z (Rt h 6 [])))
def F_cd(n:Nat)(c:Field)(h:Int)(a:Int×Int):Option (Ctl (Int×Int) (Ctl Int Int)):=
  (bif decide (a.2<(c.Runners.length:Int))then((F_bb n c a.2 h).bind λd=>(bif (!d)then some (.cont a.1)else(F_ao n c a.2).bind λe=>((bif decide (0<=a.1)then some true else some (e.1.Kind != 1)):Option Bool).bind λf=>(bif f then some (.done (.done (.done (-1))))else some (.cont a.2))):Option (Ctl Int (Ctl (Int×Int) (Ctl Int Int)))).bind λg=>match g with|.cont b=>(some (.cont (b,IntKind.i64.wrap (a.2+1))))|.done b=>some b else some (.done (.cont a.1)))
def F_aw(n:Nat)(c:Field)(d:Int):Option Int:=
  (iter (F_cd n c d) n ((-1),0):Option (Ctl Int Int)).bind λb=>match b with|.cont a=>(some a)|.done a=>some a
theorem k_aw(n:Nat)(t:Field)(u:Int)(r:Int)(h:F_aw n t u=some r):
    Csm prog 42 [.agg (Field.c t),I u] [] (λr=>I r) r:=by
 refine Qb func42 Z Z Z ?_;refine G0 17 Z (Bd h λw x h=>?_);refine YM (b:=w) [] [] (λg=>[(5,I g)]) (λ_=>[]) (λ_=>rfl) ?_ (λg env H y e=>?_)
 .refine G0 1 Z ?_;refine Lp [0] [1,2] (λi=>[(5,I i.1),(6,I i.2)]) (λ_=>[]) x (λ_=>rfl) (Lr [0]) λi F d j=>?_;refine G0 6 Z (Lm Z (Go 3 Z (QX Z d (λm d=>?_) (λm d=>?_))))
  .refine Gc 2 Z (Qh d ?_);obtain rfl:=Oj j d;exact Gx 1 Z (Qn Z (Lr []))
  refine Gc 3 Z (Bd d λz a d=>?_);refine YM (b:=z) [0] [1,2,6] (λk=>[(5,I k)]) (λ_=>[]) (λ_=>rfl) ?_ (λk env H hb e=>?_)
  .refine G0 7 Z (Cz [] a (k_bb _ _ _ _) Z λG B a=>Go 3 Z (Cn Z a (λp a=>?_) (λp a=>?_)))
   .refine Gc 3 Z ?_;cases a;exact Qn Z (Lr [0])
   refine Gc 6 Z (Cd [] a (k_ao _ _ _) Z λJ E a=>FE Z (Go 10 Z (Bd a λl f a=>?_)));refine Ct l [0] [1,2,6] (λl=>[(33,.bool l)]) (λ_=>[]) (λ_=>rfl) ?_ (λenv H e=>?_)
   .refine G0 4 Z (Is 29 f Z (λq f=>?_) (λq f=>?_))
    .exact Go 5 Z (Cl f [0])
    .exact Go 5 Z (Cl f [0])
   refine Gx 1 Z (TC.le e (Cn Z a (λs a=>?_) (λs a=>?_)))
   .refine Gc 8 Z ?_;cases a;refine Ql (Gx 1 Z (Qm d ?_));obtain rfl:=Oj j d;exact Gx 1 Z (Ql (Gx 1 Z (Rt h 4 [])))
   refine Gc 7 Z ?_;cases a;exact Qn Z (Lr [0])
  subst hb;exact Gx 1 Z (TC.le e (Gc 5 Z (Qg d (Lr [0]))))
 subst y;exact Gx 1 Z (TC.le e (Gc 7 Z (Rt h 4 [])))
def F_hc(n:Nat)(b:List Payment)(e:Payment)(a:Int):Option (Ctl Int Int):=
  ((bif decide (a<(b.length:Int))then(idx b a).bind λc=>some (decide (c.Bib<e.Bib))else some false):Option Bool).bind λd=>(bif d then some (.cont (IntKind.i64.wrap (a+1)))else some (.done a))
def F_ei(n:Nat)(a:List Payment)(c:Payment):Option (List Payment):=
  (iter (F_hc n a c) n 0:Option Int).bind λb=>(slc a 0 b).bind λd=>(app ([]:List Payment) d).bind λe=>(app e [c]).bind λf=>(slc a b (a.length:Int)).bind λg=>(app f g).bind λh=>some h
theorem k_ei(n:Nat)(s:List Payment)(d:Payment)(r:List Payment)(h:F_ei n s d=some r):
    C prog 43 [.rsl 2 (List.map Payment.c s),.agg (Payment.c d)] [] (RQ (λr=>.osl 0 0 r.length 2) (λr=>[.row 65 2 (List.map Payment.c r)]) r):=by
 refine Qb func43 Z Z Z ?_;refine G0 12 Z (Bd h λi L h=>?_);refine Ct i [0] [0,3] (λi=>[(5,I i)]) (λ_=>[]) (λ_=>rfl) ?_ (λenv H j=>?_)
 .refine G0 1 Z ?_;refine Lp [0] [0,3] (λt=>[(5,I t)]) (λ_=>[]) L (λ_=>rfl) (Lr [0]) λt M a y=>?_;refine G0 2 Z (Bd a λk b a=>?_);refine Ct k [0] [0,3,5] (λk=>[(19,.bool k)]) (λ_=>[]) (λ_=>rfl) ?_ (λenv H j=>?_)
  .refine G0 0 Z (DSs 12 Z (D 2 Z ?_));refine DS.wo (x:=I (s.length:Int)) ?_ ?_
   .exact LnM runUnderlying51 Z Wp
   refine D 2 Z (Yg 4 b Z Z Z (λz b=>?_) (λz b=>?_))
   .refine D 2 Z ?_;obtain⟨m,B,b⟩:=YB b;refine DS.v (x:=(.rp [I m.Bib,I m.Amount])) (Yi (e:=Payment.c) (l:=s) (v:=m) B runUnderlying51 sizeOf65) ?_ (hg:=(gT Z));exact D 4 Z (DS.done Z (Go 3 Z (Cl b [0])))
   .exact D 7 Z (DS.done Z (Go 3 Z (Cl b [0])))
  refine Gx 1 Z (TC.le j (QX Z a (λE a=>?_) (λE a=>?_)))
  .refine Gc 2 Z (Qh a ?_);obtain rfl:=Oj y a;exact Gx 1 Z (QB (Lr [0]))
  exact Gc 9 Z (Qg a (Lr [0]))
 refine Gx 1 Z (TC.le j (Gc 1 Z (DKs 11 [0,4,7] [(1,0,0),(0,0,1),(0,0,1),(0,0,1),(1,1,0),(0,0,2),(0,0,2),(1,2,0),(0,0,3),(0,0,3),(0,0,3)] (by kernel_rfl) ?_)));refine DK.op (x:=.osl 1 0 (([]:List Payment).length) 2) (X1:=[.cells 65 (Payment.c d),.row 65 2 (List.map Payment.c ([]:List Payment))]) ?_ ?_
 .refine vH (OpH.lit (xs:=[]) (es:=List.map Payment.c []) QaR Z Z Z Z Z trivial Z Z) ?_;exact FE Z Wp
 refine Dk 2 Z ?_;obtain⟨p,q,h⟩:=YB h;refine QjE (lo:=0) (hi:=1) (x:=.rsl 2 (List.map Payment.c p)) ⟨?_,?_,trivial⟩ ?_
 .refine vX (.rsl 2 (List.map Payment.c p)) (Qbf q runUnderlying51 sizeOf65 (.inl ⟨Z,Z⟩) (.inr ⟨_,Z,Z⟩)) ?_;exact Wp
 .refine vX (.rsl 2 (List.map Payment.c p)) (Qbf q runUnderlying51 sizeOf65 (.inl ⟨Z,Z⟩) (.inr ⟨_,Z,Z⟩)) ?_;exact Wp
 obtain⟨u,F,h⟩:=YB h;refine DK.op (x:=.osl 2 0 u.length 2) (X1:=[.cells 65 (Payment.c d),.dead,.row 65 2 (List.map Payment.c u)]) ?_ ?_
 .refine vH (Qs (e:=Payment.c) F QaR runUnderlying51 Qdi) ?_;exact FE Z Wp
 refine Dks (lo:=0) (hi:=2) (x:=.agg (Payment.c d)) ⟨Z,Z,Z,trivial⟩ ?_;refine QjE (lo:=0) (hi:=2) (x:=.rsl 2 (List.map Payment.c [d])) ⟨?_,?_,?_,trivial⟩ ?_
 .refine vH (QaH (xs:=[.tmp 27]) (es:=List.map Payment.c [d]) QaR Z Z Z Z Z ⟨Z,trivial⟩ Z Z) ?_;exact FE Z Wp
 .refine vH (QaH (xs:=[.tmp 27]) (es:=List.map Payment.c [d]) QaR Z Z Z Z Z ⟨Z,trivial⟩ Z Z) ?_;exact FE Z Wp
 .refine vH (QaH (xs:=[.tmp 27]) (es:=List.map Payment.c [d]) QaR Z Z Z Z Z ⟨Z,trivial⟩ Z Z) ?_;exact FE Z Wp
 obtain⟨w,G,h⟩:=YB h;refine DK.op (x:=.osl 3 0 w.length 2) (X1:=[.cells 65 (Payment.c d),.dead,.dead,.row 65 2 (List.map Payment.c w)]) ?_ ?_
 .refine vH (Qs (e:=Payment.c) G QaR runUnderlying51 Qdi) ?_;exact FE Z Wp
 refine Dk 2 Z ?_;obtain⟨g,f,h⟩:=YB h;refine QjE (lo:=0) (hi:=3) (x:=.rsl 2 (List.map Payment.c g)) ⟨?_,?_,?_,?_,trivial⟩ ?_
 .refine vX (.rsl 2 (List.map Payment.c g)) (Qbf f runUnderlying51 sizeOf65 (.inr ⟨_,Z,Z⟩) (.inl ⟨Z,Z⟩)) ?_;exact Wp
 .refine vX (.rsl 2 (List.map Payment.c g)) (Qbf f runUnderlying51 sizeOf65 (.inr ⟨_,Z,Z⟩) (.inl ⟨Z,Z⟩)) ?_;exact Wp
 .refine vX (.rsl 2 (List.map Payment.c g)) (Qbf f runUnderlying51 sizeOf65 (.inr ⟨_,Z,Z⟩) (.inl ⟨Z,Z⟩)) ?_;exact Wp
 .refine vX (.rsl 2 (List.map Payment.c g)) (Qbf f runUnderlying51 sizeOf65 (.inr ⟨_,Z,Z⟩) (.inl ⟨Z,Z⟩)) ?_;exact Wp
 refine DK.done Z Z (Bd h λN J h=>?_);refine vH (Qs (e:=Payment.c) J QaR runUnderlying51 Qdi) ?_;exact FE Z (Go 4 Z (Rt h 4 [4]))
def F_lz(n:Nat)(i:Course)(d:Field)(j:Int)(k:Int)(a:(List Payment)×Int):Option (Ctl ((List Payment)×Int) (List Payment)):=
  (bif decide (a.2<=(d.Runners.length:Int))then(F_aq n i j k a.2).bind λb=>(F_aw n d a.2).bind λc=>((bif decide (0<b)then some (decide (0<=c))else some false):Option Bool).bind λe=>((bif e then(idx d.Runners c).bind λf=>(F_ei n a.1 ({Bib:=f.Bib,Amount:=b:Payment})).bind λg=>some g else some a.1):Option (List Payment)).bind λh=>some (.cont (h,IntKind.i64.wrap (a.2+1)))else some (.done a.1))
def F_cw(n:Nat)(a:Course)(b:Field)(c:Int)(d:Int):Option ((List Payment)×Int):=
  (F_at n a b c d).bind λe=>(bif (e != 0)then some ([],e)else(iter (F_lz n a b c d) n (([]:List Payment),1):Option (List Payment)).bind λf=>some (f,0))
theorem k_cw(n:Nat)(w:Course)(x:Field)(y:Int)(z:Int)(r:(List Payment)×Int)(h:F_cw n w x y z=some r):
    C prog 17 [.agg (Course.c w),.agg (Field.c x),I y,I z] [] (RQ (λr=>.tup [.osl 0 0 r.1.length 2,I r.2]) (λr=>[.row 65 2 (List.map Payment.c r.1)]) r):=by
 refine Qb func17 Z Z Z ?_;refine G0 14 Z (Cz [] h (k_at _ _ _ _ _) Z λR L h=>Go 10 Z (Cn Z h (λB h=>?_) (λB h=>?_)))
 .refine Gc 9 Z ?_;obtain rfl:=Oi h;refine R2 8 9 Z Z ?_;refine Le.trans (Le.phantom (s:=8) (k:=2) (t:=65) (XY Z) Z) ?_;exact Lr [2]
 refine Gc 4 Z ?_;refine vH (OpH.lit (xs:=[]) (es:=List.map Payment.c []) QaR Z Z Z Z Z trivial Z Z) ?_;refine FE Z (Go 9 Z (Bd h λd E h=>?_));refine Ct d [2] [] (λd=>[(11,.osl 0 0 d.length 2)]) (λd=>[(0,.row 65 2 (List.map Payment.c d))]) (λ_=>rfl) ?_ (λenv H e=>?_)
 .refine G0 1 Z ?_;refine Lp [0,1,2] [2,3,4,5] (λf=>[(11,.osl 2 0 f.1.length 2),(12,I f.2)]) (λf=>[(2,.row 65 2 (List.map Payment.c f.1))]) E (λ_=>rfl) (Lr [0,1,2]) λf M a l=>?_;refine G0 6 Z (Lm Z (Go 3 Z (QX Z a (λm a=>?_) (λm a=>?_))))
  .refine Gc 2 Z (Qh a ?_);obtain rfl:=Oj l a;exact Gx 1 Z (QB (Lr [2]))
  refine Gc 10 Z (Cz [] a (k_aq _ _ _ _ _) Z λN F a=>Go 7 Z (Cz [] a (k_aw _ _ _) Z λO G a=>Go 4 Z (Bd a λj g a=>?_)));refine Ct j [0,1,2] [2,3,4,5,11,12,13,14] (λj=>[(44,.bool j)]) (λ_=>[]) (λ_=>rfl) ?_ (λenv H e=>?_)
  .refine G0 4 Z (Is 41 g Z (λp g=>?_) (λp g=>?_))
   .exact Go 4 Z (Cl g [0,1,2])
   .exact Go 4 Z (Cl g [0,1,2])
  refine Gx 1 Z (TC.le e (Bd a λi b a=>?_));refine Ct i [0,1,0] [2,3,4,5,12] (λi=>[(11,.osl 2 0 i.length 2)]) (λi=>[(2,.row 65 2 (List.map Payment.c i))]) (λ_=>rfl) ?_ (λenv H e=>?_)
  .refine G0 0 Z (Cn Z b (λq b=>?_) (λq b=>?_))
   .refine Gc 5 Z (Bd b λP u b=>Iz u Z (Go 4 Z ?_));refine WO.le (YE [(11,_),(45,_)] Z Z (QmK.cons Z FzA.o (QmK.cons Z FzA.o QmK.nil)) (FzH.keep (FzH.keep (FzH.keep (Q6 _))))) ?_;exact Cd [] b (k_ei _ _ _) Z λQ J b=>FE Z (Go 2 Z (Cl b [0,1,3]))
   exact Gc 1 Z (Cl b [0,1,2])
  exact Gx 2 Z (TC.le e (Gc 5 Z (Qg a (Lr [0,1,2]))))
 refine Gx 1 Z (TC.le e (Gc 8 Z ?_));obtain rfl:=Oi h;exact R2 8 9 Z Z (Lr [0])
def F_kt(n:Nat)(b:Field)(g:Int)(a:(List Int)×Int):Option (Ctl ((List Int)×Int) (List Int)):=
  (bif decide (a.2<(b.Runners.length:Int))then(F_bb n b a.2 g).bind λc=>((bif c then(idx b.Runners a.2).bind λd=>(app a.1 [d.Bib]).bind λe=>some e else some a.1):Option (List Int)).bind λf=>some (.cont (f,IntKind.i64.wrap (a.2+1)))else some (.done a.1))
def F_dd(n:Nat)(a:Field)(b:Int):Option ((List Int)×Int):=
  (F_ab n a).bind λd=>(bif (d != 0)then some ([],240)else(bif decide (b<1)then some ([],310)else(iter (F_kt n a b) n (([]:List Int),0):Option (List Int)).bind λc=>some (c,0)))
theorem k_dd(n:Nat)(w:Field)(x:Int)(r:(List Int)×Int)(h:F_dd n w x=some r):
    C prog 13 [.agg (Field.c w),I x] [] (RQ (λr=>.tup [.osl 0 0 r.1.length 1,I r.2]) (λr=>[.row 3 1 (List.map (Qd .i64) r.1)]) r):=by
 refine Qb func13 Z Z Z ?_;refine G0 11 Z (Cz [] h (k_ab _ _) Z λN G h=>Go 3 Z (Cn Z h (λy h=>?_) (λy h=>?_)))
 .refine Gc 8 Z ?_;obtain rfl:=Oi h;refine R2 4 5 Z Z ?_;refine Le.trans (Le.phantom (s:=4) (k:=1) (t:=3) (XY Z) Z) ?_;exact Lr [1]
 refine Gc 9 Z (Cn Z h (λz h=>?_) (λz h=>?_))
 .refine Gc 8 Z ?_;obtain rfl:=Oi h;refine R2 4 5 Z Z ?_;refine Le.trans (Le.phantom (s:=4) (k:=1) (t:=3) (XY Z) Z) ?_;exact Lr [1]
 refine Gc 4 Z ?_;refine vH (OpH.lit (xs:=[]) (es:=List.map (Qd .i64) []) Qt Z Z Z Z Z trivial Z Z) ?_;refine FE Z (Go 9 Z (Bd h λd B h=>?_));refine Ct d [1] [] (λd=>[(6,.osl 0 0 d.length 1)]) (λd=>[(0,.row 3 1 (List.map (Qd .i64) d))]) (λ_=>rfl) ?_ (λenv H j=>?_)
 .refine G0 1 Z ?_;refine Lp [0,1] [1,2] (λf=>[(6,.osl 1 0 f.1.length 1),(7,I f.2)]) (λf=>[(1,.row 3 1 (List.map (Qd .i64) f.1))]) B (λ_=>rfl) (Lr [0,1]) λf J a l=>?_;refine G0 6 Z (Lm Z (Go 3 Z (QX Z a (λm a=>?_) (λm a=>?_))))
  .refine Gc 2 Z (Qh a ?_);obtain rfl:=Oj l a;exact Gx 1 Z (QB (Lr [1]))
  refine Gc 9 Z (Cz [] a (k_bb _ _ _ _) Z λL F a=>Go 2 Z (Bd a λg b a=>?_));refine Ct g [0,0] [1,2,7] (λg=>[(6,.osl 1 0 g.length 1)]) (λg=>[(1,.row 3 1 (List.map (Qd .i64) g))]) (λ_=>rfl) ?_ (λenv H j=>?_)
  .refine G0 0 Z (Cn Z b (λp b=>?_) (λp b=>?_))
   .refine Gc 5 Z (Bd b λE q b=>Iz q Z (Go 2 Z ?_));refine vH (OpH.lit (xs:=[.tmp 31]) (es:=List.map (Qd .i64) [E.Bib]) Qt Z Z Z Z Z ⟨Z,trivial⟩ Z Z) ?_;refine FE Z (Bd b λM u b=>?_);refine vH (Qs (e:=(Qd .i64)) u Qt runUnderlying32 (Yk (i:=2))) ?_;exact FE Z (Go 2 Z (Cl b [0,3]))
   exact Gc 1 Z (Cl b [0,1])
  exact Gx 2 Z (TC.le j (Gc 5 Z (Qg a (Lr [0,1]))))
 refine Gx 1 Z (TC.le j (Gc 8 Z ?_));obtain rfl:=Oi h;exact R2 4 5 Z Z (Lr [0])
def F_mg(n:Nat)(i:Course)(b:Field)(j:Int)(k:Int)(a:(List Int)×Int):Option (Ctl ((List Int)×Int) (List Int)):=
  (bif decide (a.2<=(b.Runners.length:Int))then(F_dd n b a.2).bind λc=>((F_aq n i j k a.2).bind λd=>(bif decide (0<d)then(bif decide (0<(c.1.length:Int))then(F_aw n b a.2).bind λe=>some (decide (e<0))else some false)else some false):Option Bool).bind λf=>((bif f then(app a.1 [a.2]).bind λg=>some g else some a.1):Option (List Int)).bind λh=>some (.cont (h,IntKind.i64.wrap (a.2+1)))else some (.done a.1))
def F_fg(n:Nat)(a:Course)(b:Field)(c:Int)(d:Int):Option ((List Int)×Int):=
  (F_at n a b c d).bind λe=>(bif (e != 0)then some ([],e)else(iter (F_mg n a b c d) n (([]:List Int),1):Option (List Int)).bind λf=>some (f,0))
theorem k_fg(n:Nat)(z:Course)(B:Field)(E:Int)(F:Int)(r:(List Int)×Int)(h:F_fg n z B E F=some r):
    C prog 19 [.agg (Course.c z),.agg (Field.c B),I E,I F] [] (RQ (λr=>.tup [.osl 0 0 r.1.length 1,I r.2]) (λr=>[.row 3 1 (List.map (Qd .i64) r.1)]) r):=by
 refine Qb func19 Z Z Z ?_;refine G0 14 Z (Cz [] h (k_at _ _ _ _ _) Z λW O h=>Go 10 Z (Cn Z h (λG h=>?_) (λG h=>?_)))
 .refine Gc 9 Z ?_;obtain rfl:=Oi h;refine R2 8 9 Z Z ?_;refine Le.trans (Le.phantom (s:=8) (k:=1) (t:=3) (XY Z) Z) ?_;exact Lr [2]
 refine Gc 4 Z ?_;refine vH (OpH.lit (xs:=[]) (es:=List.map (Qd .i64) []) Qt Z Z Z Z Z trivial Z Z) ?_;refine FE Z (Go 9 Z (Bd h λg J h=>?_));refine Ct g [2] [] (λg=>[(11,.osl 0 0 g.length 1)]) (λg=>[(0,.row 3 1 (List.map (Qd .i64) g))]) (λ_=>rfl) ?_ (λenv H j=>?_)
 .refine G0 1 Z ?_;refine Lp [0,1,2] [2,3,4,5] (λf=>[(11,.osl 2 0 f.1.length 1),(12,I f.2)]) (λf=>[(2,.row 3 1 (List.map (Qd .i64) f.1))]) J (λ_=>rfl) (Lr [0,1,2]) λf P b p=>?_;refine G0 6 Z (Lm Z (Go 3 Z (QX Z b (λq b=>?_) (λq b=>?_))))
  .refine Gc 2 Z (Qh b ?_);obtain rfl:=Oj p b;exact Gx 1 Z (QB (Lr [2]))
  refine Gc 8 Z (Cd [] b (k_dd _ _ _) Z λQ L b=>FE Z (Go 8 Z (Bd b λm a b=>?_)));refine Ct m [0,1,2] [2,3,4,5,11,12] (λm=>[(53,.bool m)]) (λ_=>[]) (λ_=>rfl) ?_ (λenv H j=>?_)
  .refine G0 5 Z (Cz [] a (k_aq _ _ _ _ _) Z λR M a=>Go 2 Z (Is 43 a Z (λu a=>?_) (λu a=>?_)))
   .refine Go 5 Z (Is 48 a Z (λw a=>?_) (λw a=>?_))
    .exact Go 2 Z (Cz [] a (k_aw _ _ _) Z λT N a=>Go 3 Z (Cl a [0,1,2]))
    .exact Go 6 Z (Cl a [0,1,2])
   .exact Go 11 Z (Cl a [0,1,2])
  refine Gx 1 Z (TC.le j (Bd b λl d b=>?_));refine Ct l [0,1,0] [2,3,4,5,12] (λl=>[(11,.osl 2 0 l.length 1)]) (λl=>[(2,.row 3 1 (List.map (Qd .i64) l))]) (λ_=>rfl) ?_ (λenv H j=>?_)
  .refine G0 0 Z (Cn Z d (λx d=>?_) (λx d=>?_))
   .refine Gc 3 Z ?_;refine vH (OpH.lit (xs:=[.tmp 55]) (es:=List.map (Qd .i64) [f.2]) Qt Z Z Z Z Z ⟨Z,trivial⟩ Z Z) ?_;refine FE Z (Bd d λV y d=>?_);refine vH (Qs (e:=(Qd .i64)) y Qt runUnderlying32 (Yk (i:=3))) ?_;exact FE Z (Go 2 Z (Cl d [0,1,4]))
   exact Gc 1 Z (Cl d [0,1,2])
  exact Gx 2 Z (TC.le j (Gc 5 Z (Qg b (Lr [0,1,2]))))
 refine Gx 1 Z (TC.le j (Gc 8 Z ?_));obtain rfl:=Oi h;exact R2 8 9 Z Z (Lr [0])
def F_iw(n:Nat)(a:Course)(b:Field)(c:Int)(d:Int):Option Bool:=
  (F_fu 300).bind λm=>(bif (!m)then some false else((F_an n a).bind λp=>(bif (!p)then some true else(F_fh n b).bind λi=>some (!i)):Option Bool).bind λq=>(bif q then some true else(F_ah n a b c d).bind λe=>(F_cw n a b c d).bind λf=>(F_ai n a b c d).bind λg=>(F_fg n a b c d).bind λh=>((F_ad n e.1 f.1).bind λj=>(bif j then(bif (e.2==f.2)then(F_ba n g.1 h.1).bind λk=>(bif k then some (g.2==h.2)else some false)else some false)else some false):Option Bool).bind λl=>some l))
theorem k_iw(n:Nat)(l:Course)(m:Field)(p:Int)(q:Int)(r:Bool)(h:F_iw n l m p q=some r):
    Csm prog 4 [.agg (Course.c l),.agg (Field.c m),I p,I q] [] (λr=>.bool r) r:=by
 refine Qb func4 Z Z Z ?_;refine G0 10 Z (Cz [] h (k_fu _) Z λR F h=>Go 3 Z (Cn Z h (λs h=>?_) (λs h=>?_)))
 .exact Gc 7 Z (Rt h 8 [])
 refine Gc 4 Z (Bd h λf b h=>?_);refine Ct f [0,1] [2,3,4,5] (λf=>[(26,.bool f)]) (λ_=>[]) (λ_=>rfl) ?_ (λenv H d=>?_)
 .refine G0 2 Z (Cz [] b (k_an _ _) Z λT G b=>Go 2 Z (Is 22 b Z (λt b=>?_) (λt b=>?_)))
  .exact Go 5 Z (Cl b [0,1])
  .exact Go 1 Z (Cz [] b (k_fh _ _) Z λJ u b=>Go 3 Z (Cl b [0,1]))
 refine Gx 1 Z (TC.le d (Cn Z h (λg h=>?_) (λg h=>?_)))
 .exact Gc 7 Z (Rt h 8 [])
 refine Gc 8 Z (Cd [] h (k_ah _ _ _ _ _) Z λL w h=>FE Z (Go 13 Z (Cd [] h (k_cw _ _ _ _ _) Z λM x h=>FE Z (Go 13 Z (Cd [] h (k_ai _ _ _ _ _) Z λN y h=>FE Z (Go 13 Z (Cd [] h (k_fg _ _ _ _ _) Z λO z h=>FE Z (Go 8 Z (Bd h λe a h=>?_)))))))));refine Ct e [] [] (λe=>[(8,.bool e)]) (λ_=>[]) (λ_=>rfl) ?_ (λenv H d=>?_)
 .refine G0 3 Z (Cb a (k_ad _ _ _) Z (lo (lo ln)) λP B a=>Go 1 Z (Is 62 a Z (λi a=>?_) (λi a=>?_)))
  .refine Go 5 Z (Is 67 a Z (λj a=>?_) (λj a=>?_))
   .refine Go 2 Z (Cb a (k_ba _ _ _) Z (lo (lo ln)) λQ E a=>Go 2 Z (Is 72 a Z (λk a=>?_) (λk a=>?_)))
    .exact Go 6 Z (Cl a [])
    .exact Go 6 Z (Cl a [])
   .exact Go 11 Z (Cl a [])
  .exact Go 16 Z (Cl a [])
 exact Gx 1 Z (TC.le d (Gc 1 Z (Rt h 8 [])))
end Go.Sw
