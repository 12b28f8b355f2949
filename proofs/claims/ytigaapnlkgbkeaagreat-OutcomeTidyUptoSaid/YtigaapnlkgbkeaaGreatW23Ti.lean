/- What the functions compute that OutcomeTidy reaches, and that their calls refine it (part 4 of 4). -/
import Derived.Test.YtigaapnlkgbkeaaGreatW23Ti3
set_option linter.unusedVariables false
set_option linter.unusedSimpArgs false
set_option maxRecDepth 100000
set_option maxHeartbeats 4000000
namespace Go.Sw
open List(map)
open Int(toNat)
open Go.IntKind(i64 u64 u8)
open Go.Proofs Tryz
def F_ak(n:Nat)(e:Outcome)(a:Int)(d:List Outcome):Option (Int×(List Outcome)):=((bif decide (0<=a)then(idx d a).bind λh=>(bif (h.Seg==e.Seg)then(idx d a).bind λi=>(bif decide (e.Lo<=i.Hi)then some true else(idx d a).bind λj=>some ((i64.wrap (e.Lo-1))==j.Hi))else some false)else some false):Option Bool).bind λm=>(bif m then(idx d a).bind λf=>(idx d a).bind λk=>(Qba d a ({k with Hi:=(if f.Hi<e.Hi then e.Hi else f.Hi):Outcome})).bind λl=>some (a,l)else(app d [e]).bind λg=>some (i64.wrap ((g.length:Int)-1),g))
theorem k_ak(n:Nat)(l:Outcome)(d:Int)(z:List Outcome):Kq (F_ak n l d z) 30 [.agg (Outcome.c l),.ptr 0 0,.ptr 1 0] [.cells 3 [I d],.cells 36 [.osl 2 0 z.length 4],.row 27 4 (map Outcome.c z)] (λ_=>.tup []) (λr=>[.cells 3 [I r.1],.cells 36 [.osl 3 0 r.2.length 4],.dead,.row 27 4 (map Outcome.c r.2)]):=by
 refine Kg 7 func30 Z Z Z Z λr h=>Bd h λB a h=>Cg B [0,1,2,3] [1,2,3] (λB=>[(36,.bool B)]) Ze Zf ?_ ?_
 .refine G0 0 Z (DSs 30 Z (D 3 Z (Ye 2 a Z Z Z (λJ a=>?_) (λJ a=>?_))))
  .refine D 2 Z ?_;obtain⟨L,p,a⟩:=Q5 a;refine DS.v (x:=(.ptr 2 (toNat d*4))) (QC p Z Ew Ez) ?_ (hg:=(gT Z));refine DS.wo (x:=.ptr 2 (toNat d*4+1)) ?_ ?_
   .exact Fpg (gT Z) Qb0 Z Wp
   refine DS.v (x:=(I L.Seg)) (Et Z EE Z (Yj (f:=1) p)) ?_ (hg:=(gT Z));refine D 5 Z (Ye 12 a Z Z Z (λE a=>?_) (λE a=>?_))
   .refine D 4 Z ?_;obtain⟨M,q,a⟩:=Q5 a;refine DS.v (x:=(.ptr 2 (toNat d*4))) (QC q Z Ew Ez) ?_ (hg:=(gT Z));refine DS.wo (x:=.ptr 2 (toNat d*4+3)) ?_ ?_
    .exact Fpg (gT Z) Qbt Z Wp
    refine DS.v (x:=(I M.Hi)) (Et Z EE Z (Yj (f:=3) q)) ?_ (hg:=(gT Z));refine D 2 Z (Ye 21 a Z Z Z (λF a=>?_) (λF a=>?_))
    .exact D 8 Z (Eg Z (Gl 4 Z a [0,1,2,3]))
    .refine D 5 Z ?_;obtain⟨N,t,a⟩:=Q5 a;refine DS.v (x:=(.ptr 2 (toNat d*4))) (QC t Z Ew Ez) ?_ (hg:=(gT Z));refine DS.wo (x:=.ptr 2 (toNat d*4+3)) ?_ ?_
     .exact Fpg (gT Z) Qbt Z Wp
     refine DS.v (x:=(I N.Hi)) (Et Z EE Z (Yj (f:=3) t)) ?_ (hg:=(gT Z));exact Eg Z (Gl 4 Z a [0,1,2,3])
   .exact D 17 Z (Eg Z (Gl 4 Z a [0,1,2,3]))
  .exact D 27 Z (Eg Z (Gl 4 Z a [0,1,2,3]))
 refine Cn Z h (λG h=>?_) (λG h=>?_)
 .refine Gc 1 Z (DSs 10 Z (D 4 Z ?_));obtain⟨u,w,h⟩:=Q5 h;refine DS.v (x:=(.ptr 2 (toNat d*4))) (QC w Z Ew Ez) ?_;refine DS.wo (x:=.ptr 2 (toNat d*4+3)) ?_ ?_
  .exact Fp Qbt Z Wp
  refine DS.v (x:=(I u.Hi)) (Et Z EE Z (Yj (f:=3) w)) ?_;refine D 2 Z ?_;refine DS.v (x:=(I (if u.Hi<l.Hi then l.Hi else u.Hi))) (OpV.max Z Z Z Z) ?_;refine Eg Z (Bd h λO y h=>?_);refine vX (.ptr 2 (toNat d*4)) (QC y Z Ew Ez) ?_;refine Fp Qbt Z (Bd h λP g h=>?_);refine vU (YF (e:=Outcome.c) (k:=4) (f:=3) y g Ex Z Z) ?_;refine FE Z ?_;refine Qp (QA (s:=37) Z (congrArg (λn=>A.osl 2 0 n 4) (Q8 g))) ?_;refine Qp (QA (s:=39) Z (congrArg (λn=>A.osl 2 0 n 4) (Q8 g))) ?_;refine Qp (Qcr (i:=1) Z (congrArg (λnz=>Blk.cells 36 [.osl 2 0 nz 4]) (Q8 g))) ?_;refine Go 4 Z ?_;obtain rfl:=Oi h;refine⟨[],_,_,?_,Qa7.nil Z,Z,Z⟩;refine El (Qax (i:=2) (j:=1) (m:=0) Z Z Z Z Z) ?_;exact Lr [0,1,2,4]
 refine Gc 6 Z (vH (Ek (xs:=[.tmp 50]) (es:=map Outcome.c [l]) Yl Z Z Z Z Z ⟨Z,trivial⟩ Z Z) ?_);refine FE Z (Bd h λQ H h=>vH (YA (e:=Outcome.c) H Yl Ew (Qbo (i:=4))) ?_);refine Fg 9 Z Z ?_;obtain rfl:=Oi h;exact Rx [0,1,2,5] [] Z (Qa7.nil Z) ⟨Z,Z⟩
def F_aj(n:Nat)(d:List Outcome)(a:(List Outcome)×Int×Int):Option (Ctl ((List Outcome)×Int×Int) (List Outcome)):=(bif decide (a.2.2<(d.length:Int))then(idx d a.2.2).bind λf=>(F_ak n f a.2.1 a.1).bind λe=>some (.cont (e.2,e.1,i64.wrap (a.2.2+1)))else some (.done a.1))
def F_j(n:Nat)(a:List Outcome):Option (List Outcome):=(F_bc n a).bind λh=>((bif h then(F_c n).bind λk=>(app [] [{Out:=true,Seg:=(-1),Lo:=0,Hi:=0:Outcome}]).bind λi=>some i else some []):Option (List Outcome)).bind λj=>(F_bk n a).bind λd=>(F_ba n d).bind λe=>(Qbx (λx y=>F_aw n x y) e).bind λf=>(iter (F_aj n f) n (j,(-1),0):Option (List Outcome)).bind λg=>some g
theorem k_j(n:Nat)(w:List Outcome):Kq (F_j n w) 10 [.rsl 4 (map Outcome.c w)] [] (λr=>.osl 0 0 r.length 4) (λr=>[.row 27 4 (map Outcome.c r),.cells 36 [.osl 0 0 r.length 4]]):=by
 refine Kg 9 func10 Z Z Z Z λr h=>Cz [] h (k_bc _ _) Z λW O h=>Go 2 Z (Bd h λp f h=>Ct p [0,0] [0,2] Ze (λp=>[(0,.cells 36 [.osl 1 0 p.length 4]),(1,.row 27 4 (map Outcome.c p))]) Zf ?_ (λenv H z=>?_))
 .refine G0 0 Z (Cn Z f (λB f=>?_) (λB f=>?_))
  .obtain⟨X,E,f⟩:=Q5 f;refine QG 3 0 [10,11,12] [false,true,false] [[],[],[1]] [[],[1]] [[(0,0),(1,1)],[(0,1)],[(1,1)]] [.nils,.agg [.bool true,I (-1),I 0,I 0],.rsl 4 (map Outcome.c [{Out:=true,Seg:=(-1),Lo:=0,Hi:=0:Outcome}])] [[.cells 36 [.nils]],[.cells 36 [.nils],.cells 27 [.bool true,I (-1),I 0,I 0]]] ([.cells 36 [.nils],.cells 27 [.bool true,I (-1),I 0,I 0]]) draws Z Z Z Z Z Z Z ?_ Z ?_
   .refine QeS.cons (Qa (v0 Z Z) (Qa (v0 Z Z) (Qb))) (QeS.cons ?_ (QeS.cons ?_ (QeS.nil)))
    .refine Qa ?_ (Qb)
     .refine Om1 Z sN ?_;refine Qh [] (OpC.fn call19 Z Z Z) (k_c _ _ E) ?_;rintro _ _ ⟨rfl,rfl⟩;exact FE Z Wp
    .refine Qa ?_ (Qb)
     .refine Om Z (sD 1 sN) ?_;refine vH (QI (xs:=[.tmp 11]) (es:=map Outcome.c [{Out:=true,Seg:=(-1),Lo:=0,Hi:=0:Outcome}]) Yl Z Z Z Z Z ⟨Z,trivial⟩ Z Z) ?_;exact FE Z Wp
   refine Bd f λY F f=>vH (QiD (e:=Outcome.c) F Yl Ew QdE) ?_;exact FE Z (Gl 2 Z f [0,2])
  refine Gc 1 Z ?_;cases f;refine Qa6 ?_;refine El (Yt (i:=0) (m:=0) (t:=27) (k:=4) Z Z Z) ?_;exact Lr [0,1]
 refine Gx 1 Z (Qn z (Gc 3 Z (Cd [] h (k_bk _ _) Z λP L h=>FE Z (Cd [2] h (k_ba _ _) Z λQ M h=>Fg 6 Z Z (Bd h λR g h=>?_)))));refine Qh [2] (OpC.fn call26 Z Z Z) (QgN (enc:=Outcome.c) Qex g (λx y c h=>k_aw n x y c h) ES Ez call27 Zf Z) ?_;rintro _ _ ⟨rfl,rfl⟩;refine FE Z ?_;refine Qp (QA (s:=3) Z (congrArg (λn=>A.osl 2 0 n 4) (Qaa g))) ?_;refine Qp (QA (s:=16) Z (congrArg (λn=>A.osl 2 0 n 4) (Qaa g))) ?_;refine Qp (QA (s:=17) Z (congrArg (λn=>A.osl 2 0 n 4) (Qaa g))) ?_;refine Go 22 Z (Bd h λj G h=>Cg j [0,1] [2] Ze (λj=>[(0,.cells 36 [.osl 1 0 j.length 4]),(1,.row 27 4 (map Outcome.c j))]) Zf ?_ ?_)
 .refine G0 1 Z (Lp [0,1,3,2] [2,5,20,21] (λd=>[(22,I d.2.2)]) (λd=>[(0,.cells 36 [.osl 1 0 d.1.length 4]),(1,.row 27 4 (map Outcome.c d.1)),(2,.cells 3 [I d.2.1])]) G Zf (Lr [0,1,3,2]) λd T a q=>?_);refine G0 6 Z (Ys Z a (λu a=>?_) (λu a=>?_))
  .exact Gc 2 Z (Qq a (Gx 1 Z (cQo q a (Lr [0,1]))))
  refine Gc 6 Z (Bd a λJ l a=>?_);refine vX (.ptr 3 (toNat d.2.2*4)) (QC l Z Ew Ez) ?_;refine vX (.agg (Outcome.c J)) (Q1 Z ES Ez Z (QU l) Z Z) ?_;exact Go 7 Z (Cd [2,0,1] a (k_ak _ _ _ _) Z λV N a=>Fg 7 Z Z (Qo a (Lr [0,5,2,3])))
 refine Gc 7 Z ?_;obtain rfl:=Oi h;exact Rx [1,0] [2] Z (Qt Z (Qm isAgg36 Z Z)) ⟨Z,Z⟩
def F_hm(n:Nat)(d:(List Way)×Int)(h:Y7×Int)(a:(List Outcome)×Int):Option (Ctl ((List Outcome)×Int) (List Outcome)):=(bif decide (a.2<(d.1.length:Int))then(idx d.1 a.2).bind λe=>(F_br n h.1 e).bind λf=>(app a.1 f).bind λg=>some (.cont (g,i64.wrap (a.2+1)))else some (.done a.1))
def F_ep(n:Nat)(e:Course)(f:Clocks)(g:Starter)(h:List Hit)(i:List Hand)(p:List Penalty)(q:Int):Option ((List Outcome)×Int):=(F_ds n e f g h i p q).bind λj=>(F_cm n e f g j.extra h i).bind λa=>((bif (a.2 != 0)then some (a.2 != 2)else some false):Option Bool).bind λr=>(bif r then some ([],a.2)else(F_cu n j).bind λd=>(bif (d.2 != 0)then some ([],d.2)else(bif (a.2==2)then(F_dy n d.1).bind λk=>some (k,0)else(iter (F_hm n a d) n ([],0):Option (List Outcome)).bind λl=>(F_j n l).bind λm=>some (m,0))))
theorem k_ep(n:Nat)(w:Course)(x:Clocks)(y:Starter)(z:List Hit)(B:List Hand)(E:List Penalty)(F:Int):Kq (F_ep n w x y z B E F) 31 [.agg (Course.c w),.agg (Clocks.c x),.agg (Starter.c y),.rsl 5 (map Hit.c z),.rsl 4 (map Hand.c B),.rsl 4 (map Penalty.c E),I F] [] (λr=>.tup [.osl 0 0 r.1.length 4,I r.2]) (λr=>[.row 27 4 (map Outcome.c r.1)]):=by
 refine Kg 18 func31 Z Z Z Z λr h=>Cd [] h (k_ds _ _ _ _ _ _ _ _) Z λr1 T h=>Fg 13 Z Z (Cd [] h (k_cm _ _ _ _ _ _ _) Z λr2 V h=>Fg 9 Z Z (Bd h λl g h=>Ct l [4,5] [14,15,16,17] (λl=>[(45,.bool l)]) Ze Zf ?_ (λenv H G=>?_)))
 .refine G0 4 Z (Is 42 g Z (λJ g=>?_) (λJ g=>?_))
  iterate 2 exact Gl 4 Z g [4,5]
 refine Gx 1 Z (Qn G (Cn Z h (λL h=>?_) (λL h=>?_)))
 .refine Gc 9 Z ?_;obtain rfl:=Oi h;refine R2 14 15 Z Z ?_;refine El (Eo (s:=14) (k:=4) (t:=27) (XM Z) Z) ?_;exact Lr [2]
 refine Gc 5 Z (Cd [0] h (k_cu _ _) Z λr8 W h=>Fg 9 Z Z (Cn Z h (λM h=>?_) (λM h=>?_)))
 .refine Gc 9 Z ?_;obtain rfl:=Oi h;refine R2 14 15 Z Z ?_;refine El (Eo (s:=14) (k:=4) (t:=27) (XM Z) Z) ?_;exact Lr [2]
 refine Gc 9 Z (Cn Z h (λm h=>?_) (λm h=>?_))
 .refine Gc 3 Z (Cd [] h (k_dy _ _) Z λX P h=>Fg 6 Z Z ?_);obtain rfl:=Oi h;exact R2 14 15 Z Z (Lr [2])
 refine Gc 10 Z (Bd h λf N h=>Cg f [0] [] (λf=>[(14,.osl 0 0 f.length 4)]) (λf=>[(0,.row 27 4 (map Outcome.c f))]) Zf ?_ ?_)
 .refine G0 1 Z (Lp [0,0,1] [55,56] (λd=>[(14,.osl 0 0 d.1.length 4),(16,.ptr 1 0),(57,I d.2)]) (λd=>[(0,.row 27 4 (map Outcome.c d.1))]) N Zf ?_ ?_)
  .refine El (Eo (s:=14) (k:=4) (t:=27) (XM Z) Z) ?_;exact Lr [2,0,1]
  intro d Y a p;refine G0 6 Z (Ys Z a (λq a=>?_) (λq a=>?_))
  .exact Gc 2 Z (Qq a (Gx 1 Z (cQo p a (Lr [0]))))
  refine Gc 6 Z (Bd a λO j a=>?_);refine vX (.ptr 2 (toNat d.2*2)) (QC j Z Gg sizeOf98) ?_;refine vX (.agg (Way.c O)) (Q1 Z isAgg98 sizeOf98 Z (QU j) Z Z) ?_;refine Go 8 Z (Cd [] a (k_br _ _ _) Z λaa Q a=>FE Z (Bd a λab u a=>vH (YA (e:=Outcome.c) u Yl Ew (Qbo (i:=4))) ?_));exact Fg 8 Z Z (Qo a (Lr [5,1,2]))
 refine Gc 3 Z ?_;refine Qp (Yu [(14,_),(67,_)] Z Z (QiF.cons Z En (QiF.cons Z En QiF.nil)) (Ec (QV _))) ?_;refine Cd [] h (k_j _ _) Z λac R h=>Fg 5 Z Z ?_;obtain rfl:=Oi h;exact R2 14 15 Z Z (Lr [1])
def F_gv(n:Nat)(d:List Outcome)(g:List Outcome)(a:Int):Option (Ctl Int (Ctl Unit Bool)):=(bif decide (a<(d.length:Int))then(idx d a).bind λe=>(idx g a).bind λf=>(bif (e != f)then some (.done (.done false))else some (.cont (i64.wrap (a+1))))else some (.done (.cont ())))
def F_am(n:Nat)(d:List Outcome)(e:List Outcome):Option Bool:=(bif ((d.length:Int) != (e.length:Int))then some false else(iter (F_gv n d e) n 0:Option (Ctl Unit Bool)).bind λf=>match f with|.cont a=>(some true)|.done a=>some a)
theorem k_am(n:Nat)(m:List Outcome)(s:List Outcome):Ks (F_am n m s) 12 [.rsl 4 (map Outcome.c m),.rsl 4 (map Outcome.c s)] [] (λr=>.bool r):=by
 refine Kg 9 func12 Z Z Z Z λr h=>Lg 1 Z Z (Lg 3 Z Z (Cn Z h (λt h=>?_) (λt h=>?_)))
 .exact QT 7 Z h 4 []
 refine Gc 8 Z (Bd h λu w h=>CgE (b:=u) [] [] Ze Ze Zf ?_ (λz y=>?_))
 .refine G0 1 Z (Lp [] [0,1] (λg=>[(5,I g)]) Ze w Zf (Lr []) λg B a f=>?_);refine G0 5 Z (Lg 3 Z Z (Ys Z a (λi a=>?_) (λi a=>?_)))
  .exact Gc 2 Z (Qq a (Gx 1 Z (cNo f a Z (Lr []))))
  refine Gc 5 Z (DSs 8 Z (D 2 Z ?_));obtain⟨d,j,a⟩:=Q5 a;refine DS.wo (x:=.rp [.bool d.Out,I d.Seg,I d.Lo,I d.Hi]) ?_ ?_
  .exact Ix j Ew Ez Z Wp
  refine D 3 Z ?_;obtain⟨e,k,a⟩:=Q5 a;refine DS.wo (x:=.rp [.bool e.Out,I e.Seg,I e.Lo,I e.Hi]) ?_ ?_
  .exact Ix k Ew Ez Z Wp
  refine D 1 Z (Eg Z ?_);refine vX (.bool (d != e)) (Qhq (p:=d) (q:=e) Qif Z Z) ?_;refine Go 2 Z (Cn Z a (λl a=>?_) (λl a=>?_))
  .refine Gc 8 Z (Qy a ?_);obtain rfl:=Oj f a;exact Gx 1 Z (Qv (Gx 1 Z (Rt h 4 [])))
  exact Gc 8 Z (Qo a (Lr []))
 subst y;exact QT 6 Z h 4 []
def F_h(n:Nat)(d:Int)(e:List Hand)(f:List Penalty)(g:List Outcome):Option Bool:=(F_ew n d).bind λh=>(F_e n).bind λk=>(F_ep n ({Name:=[99],Mats:=[{Name:=[115],Kind:=1:Mat},{Name:=[101],Kind:=3:Mat}],Legs:=[{From:=0,To:=1,Min:=10,Max:=1000:Leg}],Distances:=h,Waves:=[{Name:=[119],Gun:=0:Wave}],Offences:=[],Categories:=[],Prizes:=[],Ties:=[{Um with Kind:=1,By:=4:Step}],Faults:=Uh,Fee:=0,Deadline:=0:Course}) ({Segments:=[],Far:=[[0]]:Clocks}) ({Ul with Bib:=1:Starter}) [] e f (-1)).bind λa=>((F_am n a.1 g).bind λi=>(bif i then some (a.2==0)else some false):Option Bool).bind λj=>some j
theorem k_h(n:Nat)(e:Int)(f:List Hand)(g:List Penalty)(i:List Outcome):Ks (F_h n e f g i) 13 [I e,.rsl 4 (map Hand.c f),.rsl 4 (map Penalty.c g),.rsl 4 (map Outcome.c i)] [] (λr=>.bool r):=by
 refine Kg 8 func13 Z Z Z Z λr h=>Cd [] h (k_ew _ _) Z λq l h=>FE Z (Cd [] h (k_e _) Z λs m h=>Fg 3 Z Z ?_);refine Qp (Yu [(13,_)] Z Z (QiF.cons Z (FzA.agg (Ed (Ee _) (Ed En (Ej _)))) QiF.nil) (Ec (Ec (Ec (Ec (Ec (FzH.cells (Ed (Ee _) (Ed En (Ej _))) (QV _)))))))) ?_;refine Qp (Yu [(13,_)] Z Z (QiF.cons Z (FzA.agg (Ed (Ee _) (Ed (Ee _) (Ed En (Ej _))))) QiF.nil) (Ec (Ec (Ec (Ec (Ec (FzH.cells (Ed (Ee _) (Ed (Ee _) (Ed En (Ej _)))) (QV _)))))))) ?_;refine Qp (Yu [(13,_)] Z Z (QiF.cons Z (FzA.agg (Ed (Ee _) (Ed (Ee _) (Ed (Ee _) (Ed En (Ej _)))))) QiF.nil) (Ec (Ec (Ec (Ec (Ec (FzH.cells (Ed (Ee _) (Ed (Ee _) (Ed (Ee _) (Ed En (Ej _))))) (QV _)))))))) ?_;refine Qp (Yu [(13,_)] Z Z (QiF.cons Z (FzA.agg (Ed (Ee _) (Ed (Ee _) (Ed (Ee _) (Ed (Ee _) (Ed En (Ej _))))))) QiF.nil) (Ec (Ec (Ec (Ec (Ec (FzH.cells (Ed (Ee _) (Ed (Ee _) (Ed (Ee _) (Ed (Ee _) (Ed En (Ej _)))))) (QV _)))))))) ?_;refine Qp (Yu [(13,_)] Z Z (QiF.cons Z (FzA.agg (Ed (Ee _) (Ed (Ee _) (Ed (Ee _) (Ed (Ee _) (Ed (Ee _) (Ed (Ee _) (Ed (Ee _) (Ed (Ee _) (Ed En (Ej _))))))))))) QiF.nil) (Ec (Ec (Ec (Ec (Ec (FzH.cells (Ed (Ee _) (Ed (Ee _) (Ed (Ee _) (Ed (Ee _) (Ed (Ee _) (Ed (Ee _) (Ed (Ee _) (Ed (Ee _) (Ed En (Ej _)))))))))) (QV _)))))))) ?_;refine Qp (Yu [(14,_)] Z Z (QiF.cons Z (FzA.agg (Ed (Ee _) (Ed En (Ej _)))) QiF.nil) (Ec (Ec (Ec (Ec (Ec (Ec (Ec (FzH.cells (Ed (Ee _) (Ed En (Ej _))) (QV _)))))))))) ?_;refine Bd h λt j h=>?_;refine Qh [] (OpC.fn call31 Z Z Z) (C.nils (Qgc.eq (Qgc.eq (Qgc.eq (Qgc.nl (Qgc.eq (Qgc.eq (Qgc.eq Qgc.nil))))))) (k_ep _ _ _ _ _ _ _ _ _ j)) ?_;rintro _ _ ⟨rfl,rfl⟩;refine Fg 8 Z Z (Bd h λd a h=>Cg d [] [] (λd=>[(8,.bool d)]) Ze Zf ?_ ?_)
 .refine G0 3 Z (Cb a (k_am _ _ _) Z (lo (ls ln)) λu p a=>Go 1 Z (Is 24 a Z (λk a=>?_) (λk a=>?_)))
  iterate 2 exact Gl 5 Z a []
 exact QT 1 Z h 8 []
def F_n(n:Nat):Option Unit:=some ()
theorem k_n(n:Nat):Kq (F_n n) 14 [] [] (λ_=>.osl 0 0 ([{Bib:=1,Position:=0,Lo:=0,Hi:=5:Hand},{Bib:=1,Position:=1,Lo:=100,Hi:=101:Hand}].length) 4) (λ_=>[.row 76 4 (map Hand.c [{Bib:=1,Position:=0,Lo:=0,Hi:=5:Hand},{Bib:=1,Position:=1,Lo:=100,Hi:=101:Hand}])]):=by
 refine Kg 9 func14 Z Z Z Z λr h=>vH (Ek (xs:=[.tmp 1,.tmp 2]) (es:=map Hand.c [{Bib:=1,Position:=0,Lo:=0,Hi:=5:Hand},{Bib:=1,Position:=1,Lo:=100,Hi:=101:Hand}]) el_41 Z Z Z Z Z ⟨Z,Z,trivial⟩ Z Z) ?_;exact FE Z (Gt 4 Z h 0 [0])
def F_t(n:Nat)(d:Clocks)(a:Outcome):Option Int:=(F_af n d).bind λe=>(bif (e != 0)then some e else((bif decide ((-1)<=a.Seg)then(bif decide (a.Seg<(d.Segments.length:Int))then(bif decide ((-288230376151711744)<=a.Lo)then(bif decide (a.Lo<=a.Hi)then some (decide (a.Hi<=288230376151711744))else some false)else some false)else some false)else some false):Option Bool).bind λg=>((bif a.Out then(F_c n).bind λh=>some (a==({Out:=true,Seg:=(-1),Lo:=0,Hi:=0:Outcome}))else some g):Option Bool).bind λf=>(bif (!f)then some 230 else some 0))
theorem k_t(n:Nat)(t:Clocks)(e:Outcome):Ks (F_t n t e) 8 [.agg (Clocks.c t),.agg (Outcome.c e)] [] (λr=>I r):=by
 refine Kg 11 func8 Z Z Z Z λr h=>Cz [] h (k_af _ _) Z λB y h=>Go 9 Z (Cn Z h (λu h=>?_) (λu h=>?_))
 .exact QT 8 Z h 4 []
 refine Gc 3 Z (Bd h λg a h=>Ct g [1] [3] (λg=>[(6,.bool g)]) Ze Zf ?_ (λenv H w=>?_))
 .refine G0 5 Z (Is 15 a Z (λx a=>?_) (λx a=>?_))
  .refine Go 4 Z (Lg 3 Z Z (Is 23 a Z (λi a=>?_) (λi a=>?_)))
   .refine Go 5 Z (Is 28 a Z (λj a=>?_) (λj a=>?_))
    .refine Go 7 Z (Is 35 a Z (λk a=>?_) (λk a=>?_))
     iterate 2 exact Gl 6 Z a [1]
    .exact Gl 13 Z a [1]
   .exact Gl 18 Z a [1]
  .exact Gl 26 Z a [1]
 refine Gx 1 Z (Qn w (Gc 7 Z (Bd h λf d h=>Cg f [] [] (λf=>[(6,.bool f)]) Ze Zf ?_ ?_)))
 .refine G0 0 Z (Cn Z d (λl d=>?_) (λl d=>?_))
  .obtain⟨z,m,d⟩:=Q5 d;refine QG 2 0 [42,43] [false,true] [[],[]] [[],[1]] [[(0,0),(1,1)],[(0,1)]] [.agg (Outcome.c e),.agg [.bool true,I (-1),I 0,I 0]] [[.cells 27 (Outcome.c e)],[.cells 27 (Outcome.c e),.cells 27 [.bool true,I (-1),I 0,I 0]]] ([.cells 27 (Outcome.c e),.cells 27 [.bool true,I (-1),I 0,I 0]]) draws Z Z Z Z Z Z Z ?_ Z ?_
   .refine QeS.cons (Qa (v0 Z Z) (Qa (v0 Z Z) (Qb))) (QeS.cons ?_ (QeS.nil))
    .refine Qa ?_ (Qb)
     .refine Om1 Z sN ?_;refine Qh [] (OpC.fn call19 Z Z Z) (k_c _ _ m) ?_;rintro _ _ ⟨rfl,rfl⟩;exact FE Z Wp
   refine vX (.bool (e==({Out:=true,Seg:=(-1),Lo:=0,Hi:=0:Outcome}))) (Qcq (p:=e) (q:={Out:=true,Seg:=(-1),Lo:=0,Hi:=0:Outcome}) Qif Z Z) ?_;exact Gl 2 Z d []
  exact Gcl 1 Z d []
 refine Gc 7 Z (Cn Z h (λs h=>?_) (λs h=>?_))
 .exact QT 7 Z h 4 []
 exact QT 8 Z h 4 []
def F_y(n:Nat)(d:Clocks)(a:Outcome):Option (Span×Int):=(F_t n d a).bind λe=>(bif (e != 0)then some ({Lo:=0,Hi:=0:Span},e)else(bif a.Out then some ({Lo:=0,Hi:=0:Span},230)else(F_bd n d a.Seg ({Lo:=a.Lo,Hi:=a.Hi:Span})).bind λf=>some ({Lo:=f.Lo,Hi:=f.Hi:Span},0)))
theorem k_y(n:Nat)(a:Clocks)(d:Outcome):Kq (F_y n a d) 6 [.agg (Clocks.c a),.agg (Outcome.c d)] [] (λr=>.tup [.agg [I r.1.Lo,I r.1.Hi],I r.2]) (λr=>[.cells 30 [I r.1.Lo,I r.1.Hi]]):=by
 refine Kg 13 func6 Z Z Z Z λr h=>Cz [] h (k_t _ _ _) Z λj g h=>Go 9 Z (Cn Z h (λe h=>?_) (λe h=>?_))
 .refine Gc 10 Z ?_;obtain rfl:=Oi h;exact Rx [2] [4,5] Z (Qg Z Z (Qf6.cons (Qe ED EA Z Z Z) (Qf6.cons Qb4.tmp Qf6.nil))) ⟨Z,Z⟩
 refine Gc 9 Z (Cn Z h (λf h=>?_) (λf h=>?_))
 .refine Gc 9 Z ?_;obtain rfl:=Oi h;exact Rx [2] [4,5] Z (Qg Z Z (Qf6.cons (Qe ED EA Z Z Z) (Qf6.cons Qb4.tmp Qf6.nil))) ⟨Z,Z⟩
 refine Gc 12 Z (Cd [] h (k_bd _ _ _ _) Z λk i h=>Fg 5 Z Z ?_);obtain rfl:=Oi h;exact Rx [2] [4,5] Z (Qg Z Z (Qf6.cons (Qe ED EA Z Z Z) (Qf6.cons Qb4.tmp Qf6.nil))) ⟨Z,Z⟩
abbrev lit_0:List Outcome:=[{Out:=true,Seg:=(-1),Lo:=0,Hi:=0:Outcome},{Out:=false,Seg:=(-1),Lo:=100,Hi:=101:Outcome}]
abbrev lit_1:List Hand:=[{Bib:=1,Position:=0,Lo:=0,Hi:=5:Hand},{Bib:=1,Position:=1,Lo:=100,Hi:=101:Hand}]
abbrev lit_2:List Outcome:=[{Out:=false,Seg:=1,Lo:=1,Hi:=2:Outcome},{Out:=false,Seg:=1,Lo:=3,Hi:=4:Outcome}]
abbrev lit_3:List Outcome:=[{Out:=false,Seg:=(-1),Lo:=100,Hi:=101:Outcome}]
abbrev lit_4:List Outcome:=[{Out:=false,Seg:=(-1),Lo:=160,Hi:=161:Outcome}]
abbrev lit_5:List Outcome:=[{Out:=true,Seg:=(-1),Lo:=0,Hi:=0:Outcome}]
abbrev lit_6:List Penalty:=[{Uk with Out:=true:Penalty}]
abbrev lit_7:List Penalty:=[{Uk with Time:=60:Penalty}]
abbrev lit_8:Clocks:={Segments:=[],Far:=[[0]]:Clocks}
def F_bo(n:Nat):Option Bool:=((F_h n 0 [] [] lit_5).bind λd=>(bif (!d)then some true else(F_n n).bind λq=>(F_h n 0 lit_1 [] lit_3).bind λe=>(bif (!e)then some true else(F_n n).bind λr=>(F_h n 0 lit_1 lit_6 lit_5).bind λf=>(bif (!f)then some true else(F_n n).bind λs=>(F_h n 100 lit_1 [] lit_0).bind λg=>(bif (!g)then some true else(F_n n).bind λt=>(F_h n 0 lit_1 lit_7 lit_4).bind λh=>some (!h))))):Option Bool).bind λi=>(bif i then some false else(F_e n).bind λu=>(F_y n (lit_8) ({Out:=false,Seg:=(-1),Lo:=100,Hi:=101:Outcome})).bind λa=>(F_e n).bind λw=>(F_y n (lit_8) ({Out:=true,Seg:=(-1),Lo:=0,Hi:=0:Outcome})).bind λj=>((bif (({Lo:=a.1.Lo,Hi:=a.1.Hi:Span})==({Lo:=100,Hi:=101:Span}))then(bif (a.2==0)then(bif (j.2==230)then(F_e n).bind λx=>(F_t n (lit_8) ({Out:=true,Seg:=(-1),Lo:=0,Hi:=0:Outcome})).bind λk=>(bif (k==0)then(F_e n).bind λy=>(F_t n (lit_8) Ui).bind λl=>(bif (l==230)then(F_j n lit_2).bind λm=>some ((m.length:Int)==1)else some false)else some false)else some false)else some false)else some false):Option Bool).bind λp=>some p)
theorem k_bo(n:Nat):Ks (F_bo n) 5 [] [] (λr=>.bool r):=by
 refine Kg 28 func5 Z Z Z Z λr h=>Bd h λg e h=>Ct g [0,1] [1,2] (λg=>[(47,.bool g)]) Ze Zf ?_ (λenv H ae=>?_)
 .refine G0 0 Z (DKs 34 [5,12,21,29] [(0,0,0),(0,0,0),(0,0,0),(0,0,0),(0,0,0),(1,0,0),(0,0,1),(0,0,1),(0,1,1),(0,1,1),(0,1,1),(0,1,1),(1,1,0),(0,1,2),(0,1,2),(0,1,2),(0,1,2),(0,2,2),(0,2,2),(0,2,2),(0,2,2),(1,2,0),(0,2,3),(0,2,3),(0,2,3),(0,3,3),(0,3,3),(0,3,3),(0,3,3),(1,3,0),(0,3,4),(0,3,4),(0,3,4),(0,3,4)] (by kernel_rfl) (Dk 1 Z ?_));refine DK.wo (x:=.rsl 4 (map Outcome.c lit_5)) ?_ ?_
  .refine vH (QI (xs:=[.tmp 11]) (es:=map Outcome.c lit_5) Yl Z Z Z Z Z ⟨Z,trivial⟩ Z Z) ?_;refine aV (.rsl 4 (map Outcome.c lit_5)) [_,_,_] Z Z ?_;exact Wp
  obtain⟨t,z,e⟩:=Q5 e;refine DK.wo (x:=.bool t) ?_ ?_
  .refine Qh [] (OpC.fn call13 Z Z Z) (C.nils (Qgc.eq (Qgc.nl (Qgc.nl (Qgc.eq Qgc.nil)))) (k_h _ _ _ _ _ _ z)) ?_;rintro _ _ ⟨rfl,rfl⟩;refine aV (.bool t) [_,_,_] Z Z ?_;exact Wp
  refine Dk 2 Z (Qb8 4 e Z Z Z (λB e=>?_) (λB e=>?_))
  .exact Dk 29 Z (DK.done Z Z (Gl 4 Z e [0,1]))
  .obtain⟨aj,E,e⟩:=Q5 e;refine DK.op (x:=.osl 3 0 (lit_1.length) 4) (X1:=[.cells 27 [.bool true,I (-1),I 0,I 0],.cells 27 [.bool false,I (-1),I 100,I 101],.cells 27 [.bool false,I (-1),I 160,I 161],.row 76 4 (map Hand.c lit_1)]) ?_ ?_
   .refine Qh [] (OpC.fn call14 Z Z Z) (k_n _ _ E) ?_ (hg:=(gT Z));rintro _ _ ⟨rfl,rfl⟩;refine aV (.osl 3 0 (lit_1.length) 4) [_,_,_,.row 76 4 (map Hand.c lit_1)] Z Z ?_;exact Wp
   refine Dks (lo:=0) (hi:=1) (x:=.agg [.bool false,I (-1),I 100,I 101]) ⟨Z,Z,trivial⟩ ?_;refine QdU (lo:=0) (hi:=1) (x:=.rsl 4 (map Outcome.c lit_3)) ⟨?_,?_,trivial⟩ ?_
   .refine vH (QI (xs:=[.tmp 17]) (es:=map Outcome.c lit_3) Yl Z Z Z Z Z ⟨Z,trivial⟩ Z Z) ?_ (gT Z);refine aV (.rsl 4 (map Outcome.c lit_3)) [_,_,_,_] Z Z ?_;exact Wp
   .refine vH (QI (xs:=[.tmp 17]) (es:=map Outcome.c lit_3) Yl Z Z Z Z Z ⟨Z,trivial⟩ Z Z) ?_ (gT Z);refine aV (.rsl 4 (map Outcome.c lit_3)) [_,_,_] Z Z ?_;exact Wp
   obtain⟨u,F,e⟩:=Q5 e;refine DK.wo (x:=.bool u) ?_ ?_
   .refine Qb3 (OpC.fn call13 rfl rfl rfl) (QaQ.cons rfl (.inl ⟨rfl,rfl⟩) (QaQ.cons rfl (.inr ⟨_,_,_,_,_,rfl,rfl,XW ..,rfl⟩) (QaQ.cons rfl (.inl ⟨rfl,rfl⟩) (QaQ.cons rfl (.inl ⟨rfl,rfl⟩) QaQ.nil)))) (C.nils (Qgc.eq (Qgc.eq (Qgc.nl (Qgc.eq Qgc.nil)))) (k_h _ _ _ _ _ _ F)) (by rintro _ _ ⟨rfl,rfl⟩;rfl) ?_ (gT rfl);rintro _ _ ⟨rfl,rfl⟩;refine aV (.bool u) [_,_,_,_] Z Z ?_;exact Wp
   refine Dk 3 Z (Qb8 11 e Z Z Z (λG e=>?_) (λG e=>?_))
   .exact Dk 22 Z (DK.done Z Z (Gl 4 Z e [0,1]))
   .obtain⟨ak,J,e⟩:=Q5 e;refine DK.op (x:=.osl 4 0 (lit_1.length) 4) (X1:=[.cells 27 [.bool true,I (-1),I 0,I 0],.cells 27 [.bool false,I (-1),I 100,I 101],.cells 27 [.bool false,I (-1),I 160,I 161],.row 76 4 (map Hand.c lit_1),.row 76 4 (map Hand.c lit_1)]) ?_ ?_
    .refine Qh [] (OpC.fn call14 Z Z Z) (k_n _ _ J) ?_ (hg:=(gT Z));rintro _ _ ⟨rfl,rfl⟩;refine aV (.osl 4 0 (lit_1.length) 4) [_,_,_,_,.row 76 4 (map Hand.c lit_1)] Z Z ?_;exact Wp
    refine Dk 1 Z ?_;refine QdU (lo:=1) (hi:=2) (x:=.rsl 4 (map Penalty.c lit_6)) ⟨?_,?_,trivial⟩ ?_
    .refine vH (QI (xs:=[.tmp 24]) (es:=map Penalty.c lit_6) QgB Z Z Z Z Z ⟨Z,trivial⟩ Z Z) ?_ (gT Z);refine aV (.rsl 4 (map Penalty.c lit_6)) [_,_,_,_,_] Z Z ?_;exact Wp
    .refine vH (QI (xs:=[.tmp 24]) (es:=map Penalty.c lit_6) QgB Z Z Z Z Z ⟨Z,trivial⟩ Z Z) ?_ (gT Z);refine aV (.rsl 4 (map Penalty.c lit_6)) [_,_,_,_] Z Z ?_;exact Wp
    refine Dks (lo:=1) (hi:=2) (x:=.agg [.bool true,I (-1),I 0,I 0]) ⟨Z,Z,trivial⟩ ?_;refine QdU (lo:=1) (hi:=2) (x:=.rsl 4 (map Outcome.c lit_5)) ⟨?_,?_,trivial⟩ ?_
    .refine vH (QI (xs:=[.tmp 26]) (es:=map Outcome.c lit_5) Yl Z Z Z Z Z ⟨Z,trivial⟩ Z Z) ?_ (gT Z);refine aV (.rsl 4 (map Outcome.c lit_5)) [_,_,_,_,_] Z Z ?_;exact Wp
    .refine vH (QI (xs:=[.tmp 26]) (es:=map Outcome.c lit_5) Yl Z Z Z Z Z ⟨Z,trivial⟩ Z Z) ?_ (gT Z);refine aV (.rsl 4 (map Outcome.c lit_5)) [_,_,_,_] Z Z ?_;exact Wp
    obtain⟨w,L,e⟩:=Q5 e;refine DK.wo (x:=.bool w) ?_ ?_
    .refine Qb3 (OpC.fn call13 rfl rfl rfl) (QaQ.cons rfl (.inl ⟨rfl,rfl⟩) (QaQ.cons rfl (.inr ⟨_,_,_,_,_,rfl,rfl,XW ..,rfl⟩) (QaQ.cons rfl (.inl ⟨rfl,rfl⟩) (QaQ.cons rfl (.inl ⟨rfl,rfl⟩) QaQ.nil)))) (k_h _ _ _ _ _ _ L) (by rintro _ _ ⟨rfl,rfl⟩;rfl) ?_ (gT rfl);rintro _ _ ⟨rfl,rfl⟩;refine aV (.bool w) [_,_,_,_,_] Z Z ?_;exact Wp
    refine Dk 3 Z (Qb8 20 e Z Z Z (λM e=>?_) (λM e=>?_))
    .exact Dk 13 Z (DK.done Z Z (Gl 4 Z e [0,1]))
    .obtain⟨al,N,e⟩:=Q5 e;refine DK.op (x:=.osl 5 0 (lit_1.length) 4) (X1:=[.cells 27 [.bool true,I (-1),I 0,I 0],.cells 27 [.bool false,I (-1),I 100,I 101],.cells 27 [.bool false,I (-1),I 160,I 161],.row 76 4 (map Hand.c lit_1),.row 76 4 (map Hand.c lit_1),.row 76 4 (map Hand.c lit_1)]) ?_ ?_
     .refine Qh [] (OpC.fn call14 Z Z Z) (k_n _ _ N) ?_ (hg:=(gT Z));rintro _ _ ⟨rfl,rfl⟩;refine aV (.osl 5 0 (lit_1.length) 4) [_,_,_,_,_,.row 76 4 (map Hand.c lit_1)] Z Z ?_;exact Wp
     refine Dks (lo:=2) (hi:=3) (x:=.agg [.bool true,I (-1),I 0,I 0]) ⟨Z,Z,trivial⟩ ?_;refine Dks (lo:=2) (hi:=3) (x:=.agg [.bool false,I (-1),I 100,I 101]) ⟨Z,Z,trivial⟩ ?_;refine QdU (lo:=2) (hi:=3) (x:=.rsl 4 (map Outcome.c lit_0)) ⟨?_,?_,trivial⟩ ?_
     .refine vH (QI (xs:=[.tmp 33,.tmp 34]) (es:=map Outcome.c lit_0) Yl Z Z Z Z Z ⟨Z,Z,trivial⟩ Z Z) ?_ (gT Z);refine aV (.rsl 4 (map Outcome.c lit_0)) [_,_,_,_,_,_] Z Z ?_;exact Wp
     .refine vH (QI (xs:=[.tmp 33,.tmp 34]) (es:=map Outcome.c lit_0) Yl Z Z Z Z Z ⟨Z,Z,trivial⟩ Z Z) ?_ (gT Z);refine aV (.rsl 4 (map Outcome.c lit_0)) [_,_,_,_,_] Z Z ?_;exact Wp
     obtain⟨y,O,e⟩:=Q5 e;refine DK.wo (x:=.bool y) ?_ ?_
     .refine Qb3 (OpC.fn call13 rfl rfl rfl) (QaQ.cons rfl (.inl ⟨rfl,rfl⟩) (QaQ.cons rfl (.inr ⟨_,_,_,_,_,rfl,rfl,XW ..,rfl⟩) (QaQ.cons rfl (.inl ⟨rfl,rfl⟩) (QaQ.cons rfl (.inl ⟨rfl,rfl⟩) QaQ.nil)))) (C.nils (Qgc.eq (Qgc.eq (Qgc.nl (Qgc.eq Qgc.nil)))) (k_h _ _ _ _ _ _ O)) (by rintro _ _ ⟨rfl,rfl⟩;rfl) ?_ (gT rfl);rintro _ _ ⟨rfl,rfl⟩;refine aV (.bool y) [_,_,_,_,_,_] Z Z ?_;exact Wp
     refine Dk 3 Z (Qb8 28 e Z Z Z (λP e=>?_) (λP e=>?_))
     .exact Dk 5 Z (DK.done Z Z (Gl 4 Z e [0,1]))
     .obtain⟨am,Q,e⟩:=Q5 e;refine DK.op (x:=.osl 6 0 (lit_1.length) 4) (X1:=[.cells 27 [.bool true,I (-1),I 0,I 0],.cells 27 [.bool false,I (-1),I 100,I 101],.cells 27 [.bool false,I (-1),I 160,I 161],.row 76 4 (map Hand.c lit_1),.row 76 4 (map Hand.c lit_1),.row 76 4 (map Hand.c lit_1),.row 76 4 (map Hand.c lit_1)]) ?_ ?_
      .refine Qh [] (OpC.fn call14 Z Z Z) (k_n _ _ Q) ?_ (hg:=(gT Z));rintro _ _ ⟨rfl,rfl⟩;refine aV (.osl 6 0 (lit_1.length) 4) [_,_,_,_,_,_,.row 76 4 (map Hand.c lit_1)] Z Z ?_;exact Wp
      refine Dk 1 Z ?_;refine QdU (lo:=3) (hi:=4) (x:=.rsl 4 (map Penalty.c lit_7)) ⟨?_,?_,trivial⟩ ?_
      .refine vH (QI (xs:=[.tmp 41]) (es:=map Penalty.c lit_7) QgB Z Z Z Z Z ⟨Z,trivial⟩ Z Z) ?_ (gT Z);refine aV (.rsl 4 (map Penalty.c lit_7)) [_,_,_,_,_,_,_] Z Z ?_;exact Wp
      .refine vH (QI (xs:=[.tmp 41]) (es:=map Penalty.c lit_7) QgB Z Z Z Z Z ⟨Z,trivial⟩ Z Z) ?_ (gT Z);refine aV (.rsl 4 (map Penalty.c lit_7)) [_,_,_,_,_,_] Z Z ?_;exact Wp
      refine Dks (lo:=3) (hi:=4) (x:=.agg [.bool false,I (-1),I 160,I 161]) ⟨Z,Z,trivial⟩ ?_;refine QdU (lo:=3) (hi:=4) (x:=.rsl 4 (map Outcome.c lit_4)) ⟨?_,?_,trivial⟩ ?_
      .refine vH (QI (xs:=[.tmp 43]) (es:=map Outcome.c lit_4) Yl Z Z Z Z Z ⟨Z,trivial⟩ Z Z) ?_ (gT Z);refine aV (.rsl 4 (map Outcome.c lit_4)) [_,_,_,_,_,_,_] Z Z ?_;exact Wp
      .refine vH (QI (xs:=[.tmp 43]) (es:=map Outcome.c lit_4) Yl Z Z Z Z Z ⟨Z,trivial⟩ Z Z) ?_ (gT Z);refine aV (.rsl 4 (map Outcome.c lit_4)) [_,_,_,_,_,_] Z Z ?_;exact Wp
      exact DK.done Z Z (Cb e (k_h _ _ _ _ _) Z (ls (lo (ls (ls ln)))) λan ah e=>Gl 3 Z e [0,1])
 refine Gx 1 Z (Qn ae (Cn Z h (λR h=>?_) (λR h=>?_)))
 .exact QT 7 Z h 0 []
 refine Gc 3 Z ?_;obtain⟨ao,i,h⟩:=Q5 h;obtain⟨a,j,h⟩:=Q5 h;refine QG 8 1 [49,50,51,48,52,53,4,1000007] [true,false,true,false,false,false,true,true] [[],[],[0],[0,2],[0,2],[0,2],[],[0,2,6]] [[],[0],[6],[0,2],[0,6],[0,2,6],[0,2,6,7]] [[(0,1),(2,4)],[(0,0),(1,1),(2,2),(4,4)],[(1,3),(4,5)],[(3,3),(5,5)],[(3,3),(5,5)],[(3,3),(5,5),(6,6)],[(0,2),(1,4),(3,5)],[(5,6)]] [.agg [.rsl 3 (map Segment.c []),.rsl 1 (map (Qw 1 (Qd .i64)) [[0]])],.agg [.bool false,I (-1),I 100,I 101],.tup [.agg [I a.1.Lo,I a.1.Hi],I a.2],.tup [.agg [I a.1.Lo,I a.1.Hi],I a.2],.agg [I a.1.Lo,I a.1.Hi],I a.2,.ptr 2 0,.any] [[.cells 27 [.bool true,I (-1),I 0,I 0],.cells 27 [.bool false,I (-1),I 100,I 101],.dead],[.cells 27 [.bool true,I (-1),I 0,I 0],.cells 27 [.bool false,I (-1),I 100,I 101],.dead,.dead,.cells 25 [.rsl 3 (map Segment.c []),.rsl 1 (map (Qw 1 (Qd .i64)) [[0]])]],[.cells 27 [.bool true,I (-1),I 0,I 0],.cells 27 [.bool false,I (-1),I 100,I 101],.cells 30 [I 0,I 0]],[.cells 27 [.bool true,I (-1),I 0,I 0],.cells 27 [.bool false,I (-1),I 100,I 101],.dead,.dead,.cells 25 [.rsl 3 (map Segment.c []),.rsl 1 (map (Qw 1 (Qd .i64)) [[0]])],.cells 30 [I a.1.Lo,I a.1.Hi]],[.cells 27 [.bool true,I (-1),I 0,I 0],.cells 27 [.bool false,I (-1),I 100,I 101],.cells 30 [I 0,I 0],.dead,.cells 25 [.rsl 3 (map Segment.c []),.rsl 1 (map (Qw 1 (Qd .i64)) [[0]])]],[.cells 27 [.bool true,I (-1),I 0,I 0],.cells 27 [.bool false,I (-1),I 100,I 101],.cells 30 [I 0,I 0],.dead,.cells 25 [.rsl 3 (map Segment.c []),.rsl 1 (map (Qw 1 (Qd .i64)) [[0]])],.cells 30 [I a.1.Lo,I a.1.Hi]],[.cells 27 [.bool true,I (-1),I 0,I 0],.cells 27 [.bool false,I (-1),I 100,I 101],.cells 30 [I a.1.Lo,I a.1.Hi],.dead,.cells 25 [.rsl 3 (map Segment.c []),.rsl 1 (map (Qw 1 (Qd .i64)) [[0]])],.cells 30 [I a.1.Lo,I a.1.Hi]]] ([.cells 27 [.bool true,I (-1),I 0,I 0],.cells 27 [.bool false,I (-1),I 100,I 101],.cells 30 [I a.1.Lo,I a.1.Hi],.dead,.cells 25 [.rsl 3 (map Segment.c []),.rsl 1 (map (Qw 1 (Qd .i64)) [[0]])],.cells 30 [I a.1.Lo,I a.1.Hi]]) draws Z Z Z Z Z Z Z ?_ Z ?_
 .refine QeS.cons ?_ (QeS.cons (Qa (v0 Z Z) (Qa (v0 Z Z) (Qa (v0 Z Z) (Qa (v0 Z Z) (Qb))))) (QeS.cons ?_ (QeS.cons (Qa (v0 Z Z) (Qa (v0 Z Z) (Qb))) (QeS.cons (Qa (v0 Z Z) (Qa (v0 Z Z) (Qb))) (QeS.cons (Qa (v0 Z Z) (Qa (v0 Z Z) (Qa (v0 Z Z) (Qb)))) (QeS.cons ?_ (QeS.cons ?_ (QeS.nil))))))))
  .refine Qa ?_ (Qa ?_ (Qb))
   iterate 2 refine Om1 Z sN ?_;refine Qh [] (OpC.fn call15 Z Z Z) (k_e _ _ i) ?_;rintro _ _ ⟨rfl,rfl⟩;refine aV (.agg [.rsl 3 (map Segment.c []),.osl 3 0 ([[0]].length) 1]) [_,_,_,.row 77 1 (map (Qw 1 (Qd .i64)) [[0]]),.cells 25 [.rsl 3 (map Segment.c []),.osl 3 0 ([[0]].length) 1]] Z Z ?_;refine Qp (Yu [(49,_)] Z Z (QiF.cons Z (FzA.agg (Ed (Ee _) (Ed En (Ej _)))) QiF.nil) (Ec (Ec (Ec (Ec (FzH.cells (Ed (Ee _) (Ed En (Ej _))) (QV _))))))) ?_;refine Qp QbQ ?_;exact Wp
  .refine Qa ?_ (Qa ?_ (Qb))
   iterate 2 refine Om1 Z (sD 0 (sD 1 sN)) ?_;refine Qh [] (OpC.fn call6 Z Z Z) (k_y _ _ _ _ j) ?_;rintro _ _ ⟨rfl,rfl⟩;refine aV (.tup [.agg [I a.1.Lo,I a.1.Hi],I a.2]) [_,_,_,_,_,.cells 30 [I a.1.Lo,I a.1.Hi]] Z Z ?_;exact Wp
  .refine Qa ?_ (Qa ?_ (Qa ?_ (Qb)))
   iterate 3 exact YS.alloc _ 4 30 2 _ Z Z Z Z Z Z Z (OpZ.alloc (v:=(.agg [I 0,I 0])) EC (zrC Z)) Z
  .refine Qa ?_ (Qb)
   .refine Om2 Z (sD 6 (sD 4 sN)) ?_;refine vU (Er Z Z Z EA Z Z Z Z Z Z Z) ?_;refine QdB (H:=[_,_,.cells 30 [I a.1.Lo,I a.1.Hi],_,_,_]) Z ?_;exact Wp
 refine Go 4 Z ?_;obtain⟨aq,k,h⟩:=Q5 h;obtain⟨d,l,h⟩:=Q5 h;refine QG 8 1 [55,56,57,54,58,59,6,1000007] [true,false,true,false,false,false,true,true] [[],[],[0],[0,2],[0,2],[0,2],[],[0,2,6]] [[],[0],[6],[0,2],[0,6],[0,2,6],[0,2,6,7]] [[(0,1),(2,4)],[(0,0),(1,1),(2,2),(4,4)],[(1,3),(4,5)],[(3,3),(5,5)],[(3,3),(5,5)],[(3,3),(5,5),(6,6)],[(0,2),(1,4),(3,5)],[(5,6)]] [.agg [.rsl 3 (map Segment.c []),.rsl 1 (map (Qw 1 (Qd .i64)) [[0]])],.agg [.bool true,I (-1),I 0,I 0],.tup [.agg [I d.1.Lo,I d.1.Hi],I d.2],.tup [.agg [I d.1.Lo,I d.1.Hi],I d.2],.agg [I d.1.Lo,I d.1.Hi],I d.2,.ptr 6 0,.any] [[.cells 27 [.bool true,I (-1),I 0,I 0],.cells 27 [.bool false,I (-1),I 100,I 101],.cells 30 [I a.1.Lo,I a.1.Hi],.dead,.cells 25 [.rsl 3 (map Segment.c []),.rsl 1 (map (Qw 1 (Qd .i64)) [[0]])],.cells 30 [I a.1.Lo,I a.1.Hi],.dead],[.cells 27 [.bool true,I (-1),I 0,I 0],.cells 27 [.bool false,I (-1),I 100,I 101],.cells 30 [I a.1.Lo,I a.1.Hi],.dead,.cells 25 [.rsl 3 (map Segment.c []),.rsl 1 (map (Qw 1 (Qd .i64)) [[0]])],.cells 30 [I a.1.Lo,I a.1.Hi],.dead,.dead,.cells 25 [.rsl 3 (map Segment.c []),.rsl 1 (map (Qw 1 (Qd .i64)) [[0]])]],[.cells 27 [.bool true,I (-1),I 0,I 0],.cells 27 [.bool false,I (-1),I 100,I 101],.cells 30 [I a.1.Lo,I a.1.Hi],.dead,.cells 25 [.rsl 3 (map Segment.c []),.rsl 1 (map (Qw 1 (Qd .i64)) [[0]])],.cells 30 [I a.1.Lo,I a.1.Hi],.cells 30 [I 0,I 0]],[.cells 27 [.bool true,I (-1),I 0,I 0],.cells 27 [.bool false,I (-1),I 100,I 101],.cells 30 [I a.1.Lo,I a.1.Hi],.dead,.cells 25 [.rsl 3 (map Segment.c []),.rsl 1 (map (Qw 1 (Qd .i64)) [[0]])],.cells 30 [I a.1.Lo,I a.1.Hi],.dead,.dead,.cells 25 [.rsl 3 (map Segment.c []),.rsl 1 (map (Qw 1 (Qd .i64)) [[0]])],.cells 30 [I d.1.Lo,I d.1.Hi]],[.cells 27 [.bool true,I (-1),I 0,I 0],.cells 27 [.bool false,I (-1),I 100,I 101],.cells 30 [I a.1.Lo,I a.1.Hi],.dead,.cells 25 [.rsl 3 (map Segment.c []),.rsl 1 (map (Qw 1 (Qd .i64)) [[0]])],.cells 30 [I a.1.Lo,I a.1.Hi],.cells 30 [I 0,I 0],.dead,.cells 25 [.rsl 3 (map Segment.c []),.rsl 1 (map (Qw 1 (Qd .i64)) [[0]])]],[.cells 27 [.bool true,I (-1),I 0,I 0],.cells 27 [.bool false,I (-1),I 100,I 101],.cells 30 [I a.1.Lo,I a.1.Hi],.dead,.cells 25 [.rsl 3 (map Segment.c []),.rsl 1 (map (Qw 1 (Qd .i64)) [[0]])],.cells 30 [I a.1.Lo,I a.1.Hi],.cells 30 [I 0,I 0],.dead,.cells 25 [.rsl 3 (map Segment.c []),.rsl 1 (map (Qw 1 (Qd .i64)) [[0]])],.cells 30 [I d.1.Lo,I d.1.Hi]],[.cells 27 [.bool true,I (-1),I 0,I 0],.cells 27 [.bool false,I (-1),I 100,I 101],.cells 30 [I a.1.Lo,I a.1.Hi],.dead,.cells 25 [.rsl 3 (map Segment.c []),.rsl 1 (map (Qw 1 (Qd .i64)) [[0]])],.cells 30 [I a.1.Lo,I a.1.Hi],.cells 30 [I d.1.Lo,I d.1.Hi],.dead,.cells 25 [.rsl 3 (map Segment.c []),.rsl 1 (map (Qw 1 (Qd .i64)) [[0]])],.cells 30 [I d.1.Lo,I d.1.Hi]]] ([.cells 27 [.bool true,I (-1),I 0,I 0],.cells 27 [.bool false,I (-1),I 100,I 101],.cells 30 [I a.1.Lo,I a.1.Hi],.dead,.cells 25 [.rsl 3 (map Segment.c []),.rsl 1 (map (Qw 1 (Qd .i64)) [[0]])],.cells 30 [I a.1.Lo,I a.1.Hi],.cells 30 [I d.1.Lo,I d.1.Hi],.dead,.cells 25 [.rsl 3 (map Segment.c []),.rsl 1 (map (Qw 1 (Qd .i64)) [[0]])],.cells 30 [I d.1.Lo,I d.1.Hi]]) draws Z Z Z Z Z Z Z ?_ Z ?_
 .refine QeS.cons ?_ (QeS.cons (Qa (v0 Z Z) (Qa (v0 Z Z) (Qa (v0 Z Z) (Qa (v0 Z Z) (Qb))))) (QeS.cons ?_ (QeS.cons (Qa (v0 Z Z) (Qa (v0 Z Z) (Qb))) (QeS.cons (Qa (v0 Z Z) (Qa (v0 Z Z) (Qb))) (QeS.cons (Qa (v0 Z Z) (Qa (v0 Z Z) (Qa (v0 Z Z) (Qb)))) (QeS.cons ?_ (QeS.cons ?_ (QeS.nil))))))))
  .refine Qa ?_ (Qa ?_ (Qb))
   iterate 2 refine Om1 Z sN ?_;refine Qh [] (OpC.fn call15 Z Z Z) (k_e _ _ k) ?_;rintro _ _ ⟨rfl,rfl⟩;refine aV (.agg [.rsl 3 (map Segment.c []),.osl 7 0 ([[0]].length) 1]) [_,_,_,_,_,_,_,.row 77 1 (map (Qw 1 (Qd .i64)) [[0]]),.cells 25 [.rsl 3 (map Segment.c []),.osl 7 0 ([[0]].length) 1]] Z Z ?_;refine Qp (Yu [(55,_)] Z Z (QiF.cons Z (FzA.agg (Ed (Ee _) (Ed En (Ej _)))) QiF.nil) (Ec (Ec (Ec (Ec (Ec (Ec (Ec (Ec (FzH.cells (Ed (Ee _) (Ed En (Ej _))) (QV _))))))))))) ?_;refine Qp QbQ ?_;exact Wp
  .refine Qa ?_ (Qa ?_ (Qb))
   iterate 2 refine Om1 Z (sD 0 (sD 1 sN)) ?_;refine Qh [] (OpC.fn call6 Z Z Z) (k_y _ _ _ _ l) ?_;rintro _ _ ⟨rfl,rfl⟩;refine aV (.tup [.agg [I d.1.Lo,I d.1.Hi],I d.2]) [_,_,_,_,_,_,_,_,_,.cells 30 [I d.1.Lo,I d.1.Hi]] Z Z ?_;exact Wp
  .refine Qa ?_ (Qa ?_ (Qa ?_ (Qb)))
   iterate 3 exact YS.alloc _ 6 30 6 _ Z Z Z Z Z Z Z (OpZ.alloc (v:=(.agg [I 0,I 0])) EC (zrC Z)) Z
  .refine Qa ?_ (Qb)
   .refine Om2 Z (sD 6 (sD 4 sN)) ?_;refine vU (Er Z Z Z EA Z Z Z Z Z Z Z) ?_;refine QdB (H:=[_,_,_,_,_,_,.cells 30 [I d.1.Lo,I d.1.Hi],_,_,_]) Z ?_;exact Wp
 refine Go 4 Z (Bd h λm f h=>Cg m [] [] (λm=>[(0,.bool m)]) Ze Zf ?_ ?_)
 .refine G0 0 Z (DKs 26 [12,18] [(0,0,0),(0,0,0),(0,0,0),(0,0,0),(0,0,0),(0,0,0),(0,0,0),(0,0,0),(0,0,0),(0,0,0),(0,0,0),(0,0,0),(1,0,0),(0,0,1),(0,1,1),(0,1,1),(0,1,1),(0,1,1),(1,1,0),(0,1,2),(0,2,2),(0,2,2),(0,2,2),(0,2,2),(0,2,2),(0,2,2)] (by kernel_rfl) (Dk 2 Z ?_));refine DK.wo (x:=.bool (({Lo:=a.1.Lo,Hi:=a.1.Hi:Span})==({Lo:=100,Hi:=101:Span}))) ?_ ?_
  .refine vX (.bool (({Lo:=a.1.Lo,Hi:=a.1.Hi:Span})==({Lo:=100,Hi:=101:Span}))) (Qcq (p:={Lo:=a.1.Lo,Hi:=a.1.Hi:Span}) (q:={Lo:=100,Hi:=101:Span}) Qj0 Z Z) ?_;exact Wp
  refine Dk 1 Z (Qb8 3 f Z Z Z (λT f=>?_) (λT f=>?_))
  .refine Dk 4 Z (Qb8 7 f Z Z Z (λV f=>?_) (λV f=>?_))
   .refine Dk 4 Z (Qb8 11 f Z Z Z (λW f=>?_) (λW f=>?_))
    .obtain⟨ar,X,f⟩:=Q5 f;refine DK.op (x:=.agg [.rsl 3 (map Segment.c []),.rsl 1 (map (Qw 1 (Qd .i64)) [[0]])]) (X1:=[.cells 27 [.bool true,I (-1),I 0,I 0],.cells 27 [.bool false,I (-1),I 100,I 101],.cells 30 [I a.1.Lo,I a.1.Hi],.dead,.cells 25 [.rsl 3 (map Segment.c []),.rsl 1 (map (Qw 1 (Qd .i64)) [[0]])],.cells 30 [I a.1.Lo,I a.1.Hi],.cells 30 [I d.1.Lo,I d.1.Hi],.dead,.cells 25 [.rsl 3 (map Segment.c []),.rsl 1 (map (Qw 1 (Qd .i64)) [[0]])],.cells 30 [I d.1.Lo,I d.1.Hi],.dead,.cells 25 [.rsl 3 (map Segment.c []),.rsl 1 (map (Qw 1 (Qd .i64)) [[0]])]]) ?_ ?_
     .refine Qh [] (OpC.fn call15 Z Z Z) (k_e _ _ X) ?_ (hg:=(gT Z));rintro _ _ ⟨rfl,rfl⟩;refine aV (.agg [.rsl 3 (map Segment.c []),.osl 10 0 ([[0]].length) 1]) [_,_,_,_,_,_,_,_,_,_,.row 77 1 (map (Qw 1 (Qd .i64)) [[0]]),.cells 25 [.rsl 3 (map Segment.c []),.osl 10 0 ([[0]].length) 1]] Z Z ?_;refine Qp (Yu [(72,_)] Z Z (QiF.cons Z (FzA.agg (Ed (Ee _) (Ed En (Ej _)))) QiF.nil) (Ec (Ec (Ec (Ec (Ec (Ec (Ec (Ec (Ec (Ec (Ec (FzH.cells (Ed (Ee _) (Ed En (Ej _))) (QV _)))))))))))))) ?_;refine Qp QbQ ?_;exact Wp
     refine Dks (lo:=0) (hi:=1) (x:=.agg [.bool true,I (-1),I 0,I 0]) ⟨Z,Z,trivial⟩ ?_;obtain⟨af,Y,f⟩:=Q5 f;refine DK.wo (x:=I af) ?_ ?_
     .exact Pc [] Z (OpC.fn call8 Z Z Z) (k_t _ _ _ _ Y) (hg:=(gT Z)) Z Wp
     refine Dk 3 Z (Qb8 17 f Z Z Z (λaa f=>?_) (λaa f=>?_))
     .obtain⟨au,ab,f⟩:=Q5 f;refine DK.op (x:=.agg [.rsl 3 (map Segment.c []),.rsl 1 (map (Qw 1 (Qd .i64)) [[0]])]) (X1:=[.cells 27 [.bool true,I (-1),I 0,I 0],.cells 27 [.bool false,I (-1),I 100,I 101],.cells 30 [I a.1.Lo,I a.1.Hi],.dead,.cells 25 [.rsl 3 (map Segment.c []),.rsl 1 (map (Qw 1 (Qd .i64)) [[0]])],.cells 30 [I a.1.Lo,I a.1.Hi],.cells 30 [I d.1.Lo,I d.1.Hi],.dead,.cells 25 [.rsl 3 (map Segment.c []),.rsl 1 (map (Qw 1 (Qd .i64)) [[0]])],.cells 30 [I d.1.Lo,I d.1.Hi],.dead,.cells 25 [.rsl 3 (map Segment.c []),.rsl 1 (map (Qw 1 (Qd .i64)) [[0]])],.dead,.cells 25 [.rsl 3 (map Segment.c []),.rsl 1 (map (Qw 1 (Qd .i64)) [[0]])]]) ?_ ?_
      .refine Qh [] (OpC.fn call15 Z Z Z) (k_e _ _ ab) ?_ (hg:=(gT Z));rintro _ _ ⟨rfl,rfl⟩;refine aV (.agg [.rsl 3 (map Segment.c []),.osl 12 0 ([[0]].length) 1]) [_,_,_,_,_,_,_,_,_,_,_,_,.row 77 1 (map (Qw 1 (Qd .i64)) [[0]]),.cells 25 [.rsl 3 (map Segment.c []),.osl 12 0 ([[0]].length) 1]] Z Z ?_;refine Qp (Yu [(78,_)] Z Z (QiF.cons Z (FzA.agg (Ed (Ee _) (Ed En (Ej _)))) QiF.nil) (Ec (Ec (Ec (Ec (Ec (Ec (Ec (Ec (Ec (Ec (Ec (Ec (Ec (FzH.cells (Ed (Ee _) (Ed En (Ej _))) (QV _)))))))))))))))) ?_;refine Qp QbQ ?_;exact Wp
      refine Dk 1 Z ?_;obtain⟨ag,ac,f⟩:=Q5 f;refine DK.wo (x:=I ag) ?_ ?_
      .exact Pc [] Z (OpC.fn call8 Z Z Z) (k_t _ _ _ _ ac) (hg:=(gT Z)) Z Wp
      refine Dk 3 Z (Qb8 23 f Z Z Z (λad f=>?_) (λad f=>?_))
      .refine Dk 2 Z (DK.done Z Z ?_);refine vH (QI (xs:=[.tmp 84,.tmp 85]) (es:=map Outcome.c lit_2) Yl Z Z Z Z Z ⟨Z,Z,trivial⟩ Z Z) ?_ (gT Z);refine aV (.rsl 4 (map Outcome.c lit_2)) [_,_,_,_,_,_,_,_,_,_,_,_,_,_] Z Z ?_;refine Cd [] f (k_j _ _) Z λs ai f=>?_;refine aV (.osl 14 0 s.length 4) [_,_,_,_,_,_,_,_,_,_,_,_,_,_,.row 27 4 (map Outcome.c s),.cells 36 [.osl 14 0 s.length 4]] Z Z ?_;exact Gl 5 Z f []
      .exact Dk 2 Z (DK.done Z Z (Gl 7 Z f []))
     .exact Dk 8 Z (DK.done Z Z (Gl 7 Z f []))
    .exact Dk 14 Z (DK.done Z Z (Gl 7 Z f []))
   .exact Dk 18 Z (DK.done Z Z (Gl 7 Z f []))
  .exact Dk 22 Z (DK.done Z Z (Gl 7 Z f []))
 exact QT 1 Z h 0 []
def F_bl(n:Nat)(d:List Outcome)(k:Int)(e:Int)(a:Int):Option (Ctl Int (Ctl Unit Bool)):=(bif decide (a<(d.length:Int))then((idx d a).bind λf=>(bif (!f.Out)then(idx d a).bind λg=>(bif (g.Seg==k)then(idx d a).bind λh=>(bif decide (h.Lo<=e)then(idx d a).bind λi=>some (decide (e<=i.Hi))else some false)else some false)else some false):Option Bool).bind λj=>(bif j then some (.done (.done true))else some (.cont (i64.wrap (a+1))))else some (.done (.cont ())))
def F_v(n:Nat)(e:List Outcome)(f:Int)(g:Int):Option Bool:=(iter (F_bl n e f g) n 0:Option (Ctl Unit Bool)).bind λd=>match d with|.cont a=>(some false)|.done a=>some a
theorem k_v(n:Nat)(u:List Outcome)(w:Int)(x:Int):Ks (F_v n u w x) 11 [.rsl 4 (map Outcome.c u),I w,I x] [] (λr=>.bool r):=by
 refine Kg 11 func11 Z Z Z Z λr h=>Bd h λy z h=>CgE (b:=y) [] [] Ze Ze Zf ?_ (λE B=>?_)
 .refine G0 1 Z (Lp [] [0,1,2] (λg=>[(7,I g)]) Ze z Zf (Lr []) λg F d e=>?_);refine G0 5 Z (Lg 3 Z Z (Ys Z d (λi d=>?_) (λi d=>?_)))
  .exact Gc 2 Z (Qq d (Gx 1 Z (cNo e d Z (Lr []))))
  refine Gc 5 Z (Bd d λf a d=>Cg f [] [0,1,2,7] (λf=>[(46,.bool f)]) Ze Zf ?_ ?_)
  .refine G0 3 Z (Bd a λG j a=>Iz j Z (Go 4 Z (Is 20 a Z (λk a=>?_) (λk a=>?_))))
   .refine Go 2 Z (Bd a λH l a=>Iz l Z (Go 6 Z (Is 29 a Z (λm a=>?_) (λm a=>?_))))
    .refine Go 2 Z (Bd a λJ p a=>Iz p Z (Go 6 Z (Is 38 a Z (λq a=>?_) (λq a=>?_))))
     .exact Go 3 Z (Bd a λL s a=>Iz s Z (Gl 5 Z a []))
     .exact Gl 9 Z a []
    .exact Gl 18 Z a []
   .exact Gl 27 Z a []
  refine Cn Z d (λt d=>?_) (λt d=>?_)
  .refine Gc 8 Z (Qy d ?_);obtain rfl:=Oj e d;exact Gx 1 Z (Qv (Gx 1 Z (Rt h 6 [])))
  exact Gc 8 Z (Qo d (Lr []))
 subst B;exact QT 6 Z h 6 []
def F_gu(n:Nat)(d:List Outcome)(a:Bool×Int):Option (Ctl (Bool×Int) Bool):=(bif decide (a.2<(d.length:Int))then((bif a.1 then some true else(idx d a.2).bind λe=>some e.Out):Option Bool).bind λf=>some (.cont (f,i64.wrap (a.2+1)))else some (.done a.1))
def F_bs(n:Nat)(d:List Outcome)(a:Bool×Int):Option (Ctl (Bool×Int) (Ctl Bool Bool)):=(bif decide (a.2<(d.length:Int))then((bif a.1 then some true else(idx d a.2).bind λr=>some r.Out):Option Bool).bind λs=>((bif decide (0<a.2)then(idx d a.2).bind λe=>(bif e.Out then some true else(idx d (i64.wrap (a.2-1))).bind λf=>(bif (!f.Out)then(idx d (i64.wrap (a.2-1))).bind λg=>(idx d a.2).bind λh=>(bif decide (h.Seg<g.Seg)then some true else(idx d (i64.wrap (a.2-1))).bind λi=>(idx d a.2).bind λj=>(bif (i.Seg==j.Seg)then(idx d a.2).bind λk=>(idx d (i64.wrap (a.2-1))).bind λl=>(bif decide (k.Lo<=l.Hi)then some true else(idx d a.2).bind λm=>(idx d (i64.wrap (a.2-1))).bind λp=>some ((i64.wrap (m.Lo-1))==p.Hi))else some false))else some false))else some false):Option Bool).bind λq=>(bif q then some (.done (.done false))else some (.cont (s,i64.wrap (a.2+1))))else some (.done (.cont a.1)))
def F_bh(n:Nat)(d:List Outcome)(k:Int)(l:Int):Option Bool:=(F_bo 300).bind λq=>(bif (!q)then some false else(bif decide (20<(d.length:Int))then some true else(F_j n d).bind λe=>(iter (F_gu n d) n (false,0):Option Bool).bind λm=>(iter (F_bs n e) n (false,0):Option (Ctl Bool Bool)).bind λp=>match p with|.cont a=>(((bif (m==a)then(F_v n d k l).bind λf=>(F_v n e k l).bind λg=>(bif (f==g)then(F_j n e).bind λh=>(F_am n h e).bind λi=>some i else some false)else some false):Option Bool).bind λj=>some j)|.done a=>some a))
theorem k_bh(n:Nat)(a1:List Outcome)(a2:Int)(a3:Int):Ks (F_bh n a1 a2 a3) 4 [.rsl 4 (map Outcome.c a1),I a2,I a3] [] (λr=>.bool r):=by
 refine Kg 8 func4 Z Z Z Z λr h=>Cz [] h (k_bo _) Z λr1 bk h=>Go 3 Z (Cn Z h (λax h=>?_) (λax h=>?_))
 .exact QT 7 Z h 6 []
 refine Gc 6 Z (Lg 3 Z Z (Cn Z h (λay h=>?_) (λay h=>?_)))
 .exact QT 7 Z h 6 []
 refine Gc 5 Z (Cd [] h (k_j _ _) Z λr4 bl h=>Fg 15 Z Z (Bd h λs az h=>Ct s [0] [0,1,2,7,9] (λs=>[(8,.bool s)]) Ze Zf ?_ (λenv H i=>?_)))
 .refine G0 1 Z (Lp [0] [0,1,2,7,9] (λL=>[(8,.bool L.1),(10,I L.2)]) Ze az Zf (Lr [0]) λL bm j ac=>?_);refine G0 5 Z (Lg 3 Z Z (Ys Z j (λad j=>?_) (λad j=>?_)))
  .exact Gc 2 Z (Qq j (Gx 1 Z (cQo ac j (Lr [0]))))
  refine Gc 4 Z (Bd j λM k j=>Ct M [0] [0,1,2,7,9,10] (λM=>[(8,.bool M)]) Ze Zf ?_ (λenv H i=>?_))
  .refine G0 3 Z (Is 26 k Z (λae k=>?_) (λae k=>?_))
   .exact Gl 8 Z k [0]
   .exact Go 2 Z (Bd k λbn af k=>Iz af Z (Gl 5 Z k [0]))
  exact Gx 2 Z (Qn i (Gc 5 Z (Qo j (Lr [0]))))
 refine Gx 1 Z (Qn i (Gc 6 Z (Bd h λba bb h=>CtE (b:=ba) [0] [0,1,2,7,8] (λm=>[(9,.bool m)]) Ze Zf ?_ (λm env H bc i=>?_))))
 .refine G0 1 Z (Lp [0] [0,1,2,7,8] (λd=>[(9,.bool d.1),(11,I d.2)]) Ze bb Zf (Lr [0]) λd bo g N=>?_);refine G0 9 Z (Ys Z g (λag g=>?_) (λag g=>?_))
  .exact Gc 2 Z (Qq g (Gx 1 Z (cNo N g Z (Lr [0]))))
  refine Gc 5 Z (Bd g λO l g=>Ct O [0] [0,1,2,7,8,11] (λO=>[(9,.bool O)]) Ze Zf ?_ (λenv H i=>?_))
  .refine G0 3 Z (Is 40 l Z (λah l=>?_) (λah l=>?_))
   .exact Gl 8 Z l [0]
   .refine Go 2 Z (Bd l λbd P l=>?_);refine vX (.ptr 0 (toNat d.2*4)) (QC P Z Ew Ez) ?_ (gT Z);refine Fpg (gT Z) QeD Z ?_;refine vX (.bool bd.Out) (Et Z Gk Z (QU P)) ?_ (gT Z);exact Gl 3 Z l [0]
  refine Gx 1 Z (Qn i (Gc 1 Z (Bd g λp a g=>Ct p [0] [0,1,2,7,8,9,11] (λp=>[(121,.bool p)]) Ze Zf ?_ (λenv H i=>?_))))
  .refine G0 0 Z (DSs 68 Z (D 3 Z (Ye 2 a Z Z Z (λQ a=>?_) (λQ a=>?_))))
   .refine D 2 Z ?_;obtain⟨ai,t,a⟩:=Q5 a;refine DS.v (x:=(.ptr 0 (toNat d.2*4))) (QC t Z Ew Ez) ?_ (hg:=(gT Z));refine DS.wo (x:=.ptr 0 (toNat d.2*4)) ?_ ?_
    .exact Fpg (gT Z) QeD Z Wp
    refine DS.v (x:=(.bool ai.Out)) (Et Z Gk Z (QU t)) ?_ (hg:=(gT Z));refine D 1 Z (Ye 8 a Z Z Z (λR a=>?_) (λR a=>?_))
    .exact D 59 Z (Eg Z (Gl 8 Z a [0]))
    .refine D 3 Z ?_;obtain⟨aj,u,a⟩:=Q5 a;refine DS.v (x:=(.ptr 0 (toNat (i64.wrap (d.2-1))*4))) (QC u Z Ew Ez) ?_ (hg:=(gT Z));refine DS.wo (x:=.ptr 0 (toNat (i64.wrap (d.2-1))*4)) ?_ ?_
     .exact Fpg (gT Z) QeD Z Wp
     refine DS.v (x:=(.bool aj.Out)) (Et Z Gk Z (QU u)) ?_ (hg:=(gT Z));refine D 2 Z (Ye 16 a Z Z Z (λT a=>?_) (λT a=>?_))
     .refine D 3 Z ?_;obtain⟨ak,w,a⟩:=Q5 a;refine DS.v (x:=(.ptr 0 (toNat (i64.wrap (d.2-1))*4))) (QC w Z Ew Ez) ?_ (hg:=(gT Z));refine DS.wo (x:=.ptr 0 (toNat (i64.wrap (d.2-1))*4+1)) ?_ ?_
      .exact Fpg (gT Z) Qb0 Z Wp
      refine DS.v (x:=(I ak.Seg)) (Et Z EE Z (Yj (f:=1) w)) ?_ (hg:=(gT Z));refine D 2 Z ?_;obtain⟨al,y,a⟩:=Q5 a;refine DS.v (x:=(.ptr 0 (toNat d.2*4))) (QC y Z Ew Ez) ?_ (hg:=(gT Z));refine DS.wo (x:=.ptr 0 (toNat d.2*4+1)) ?_ ?_
      .exact Fpg (gT Z) Qb0 Z Wp
      refine DS.v (x:=(I al.Seg)) (Et Z EE Z (Yj (f:=1) y)) ?_ (hg:=(gT Z));refine D 2 Z (Ye 29 a Z Z Z (λV a=>?_) (λV a=>?_))
      .exact D 38 Z (Eg Z (Gl 8 Z a [0]))
      .refine D 3 Z ?_;obtain⟨am,z,a⟩:=Q5 a;refine DS.v (x:=(.ptr 0 (toNat (i64.wrap (d.2-1))*4))) (QC z Z Ew Ez) ?_ (hg:=(gT Z));refine DS.wo (x:=.ptr 0 (toNat (i64.wrap (d.2-1))*4+1)) ?_ ?_
       .exact Fpg (gT Z) Qb0 Z Wp
       refine DS.v (x:=(I am.Seg)) (Et Z EE Z (Yj (f:=1) z)) ?_ (hg:=(gT Z));refine D 2 Z ?_;obtain⟨an,B,a⟩:=Q5 a;refine DS.v (x:=(.ptr 0 (toNat d.2*4))) (QC B Z Ew Ez) ?_ (hg:=(gT Z));refine DS.wo (x:=.ptr 0 (toNat d.2*4+1)) ?_ ?_
       .exact Fpg (gT Z) Qb0 Z Wp
       refine DS.v (x:=(I an.Seg)) (Et Z EE Z (Yj (f:=1) B)) ?_ (hg:=(gT Z));refine D 2 Z (Ye 42 a Z Z Z (λW a=>?_) (λW a=>?_))
       .refine D 2 Z ?_;obtain⟨ao,E,a⟩:=Q5 a;refine DS.v (x:=(.ptr 0 (toNat d.2*4))) (QC E Z Ew Ez) ?_ (hg:=(gT Z));refine DS.wo (x:=.ptr 0 (toNat d.2*4+2)) ?_ ?_
        .exact Fpg (gT Z) Qgy Z Wp
        refine DS.v (x:=(I ao.Lo)) (Et Z EE Z (Yj (f:=2) E)) ?_ (hg:=(gT Z));refine D 3 Z ?_;obtain⟨aq,F,a⟩:=Q5 a;refine DS.v (x:=(.ptr 0 (toNat (i64.wrap (d.2-1))*4))) (QC F Z Ew Ez) ?_ (hg:=(gT Z));refine DS.wo (x:=.ptr 0 (toNat (i64.wrap (d.2-1))*4+3)) ?_ ?_
        .exact Fpg (gT Z) Qbt Z Wp
        refine DS.v (x:=(I aq.Hi)) (Et Z EE Z (Yj (f:=3) F)) ?_ (hg:=(gT Z));refine D 2 Z (Ye 55 a Z Z Z (λX a=>?_) (λX a=>?_))
        .exact D 12 Z (Eg Z (Gl 8 Z a [0]))
        .refine D 2 Z ?_;obtain⟨ar,G,a⟩:=Q5 a;refine DS.v (x:=(.ptr 0 (toNat d.2*4))) (QC G Z Ew Ez) ?_ (hg:=(gT Z));refine DS.wo (x:=.ptr 0 (toNat d.2*4+2)) ?_ ?_
         .exact Fpg (gT Z) Qgy Z Wp
         refine DS.v (x:=(I ar.Lo)) (Et Z EE Z (Yj (f:=2) G)) ?_ (hg:=(gT Z));refine D 4 Z ?_;obtain⟨au,J,a⟩:=Q5 a;refine DS.v (x:=(.ptr 0 (toNat (i64.wrap (d.2-1))*4))) (QC J Z Ew Ez) ?_ (hg:=(gT Z));refine DS.wo (x:=.ptr 0 (toNat (i64.wrap (d.2-1))*4+3)) ?_ ?_
         .exact Fpg (gT Z) Qbt Z Wp
         refine DS.v (x:=(I au.Hi)) (Et Z EE Z (Yj (f:=3) J)) ?_ (hg:=(gT Z));exact Eg Z (Gl 8 Z a [0])
       .exact D 25 Z (Eg Z (Gl 8 Z a [0]))
     .exact D 51 Z (Eg Z (Gl 8 Z a [0]))
   .exact D 65 Z (Eg Z (Gl 8 Z a [0]))
  refine Gx 1 Z (Qn i (Cn Z g (λY g=>?_) (λY g=>?_)))
  .refine Gc 8 Z (Qy g ?_);obtain rfl:=Oj N g;exact Gx 1 Z (Qv (Gx 1 Z (Rt h 6 [])))
  exact Gc 8 Z (Qo g (Lr [0]))
 subst bc;refine Gx 1 Z (Qn i (Gc 1 Z (Bd h λq e h=>Cg q [] [] (λq=>[(6,.bool q)]) Ze Zf ?_ ?_)))
 .refine G0 3 Z ?_;refine vX (.bool (s==m)) (QdP Ga) ?_;refine Go 1 Z (Is 125 e Z (λaa e=>?_) (λaa e=>?_))
  .refine Go 3 Z (Cz [] e (k_v _ _ _ _) Z λav be e=>Go 3 Z (Cb e (k_v _ _ _ _) Z (lo (ls (ls ln))) λaw bf e=>?_));refine vX (.bool (av==aw)) (QdP Ga) ?_ (gT Z);refine Go 2 Z (Is 136 e Z (λab e=>?_) (λab e=>?_))
   .refine Go 1 Z ?_;refine Qp (Yu [(7,_),(130,_),(137,_)] Z Z (QiF.cons Z En (QiF.cons Z En (QiF.cons Z En QiF.nil))) (Ec (QV _))) ?_;exact Cd [] e (k_j _ _) Z λbi bg e=>Fg 1 Z Z (Cb e (k_am _ _ _) Z (lo (ls ln)) λbj bh e=>Gl 3 Z e [])
   .exact Gl 7 Z e []
  .exact Gl 18 Z e []
 exact QT 1 Z h 6 []
end Go.Sw
