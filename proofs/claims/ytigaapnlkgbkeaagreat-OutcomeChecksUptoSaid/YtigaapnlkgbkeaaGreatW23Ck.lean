/- What the functions compute that OutcomeChecks reaches, and that their calls refine it (part 4 of 4). -/
import Derived.Test.YtigaapnlkgbkeaaGreatW23Ck3
set_option linter.unusedVariables false
set_option linter.unusedSimpArgs false
set_option maxRecDepth 100000
set_option maxHeartbeats 4000000
namespace Go.Sw
open List(map)
open Int(toNat)
open Go.IntKind(i64 u64 u8)
open Go.Proofs Tryz
def F_ev(n:Nat)(e:Outcome)(a:Int)(d:List Outcome):Option (Int×(List Outcome)):=((bif decide (0<=a)then(idx d a).bind λh=>(bif (h.Seg==e.Seg)then(idx d a).bind λi=>(bif decide (e.Lo<=i.Hi)then some true else(idx d a).bind λj=>some ((i64.wrap (e.Lo-1))==j.Hi))else some false)else some false):Option Bool).bind λm=>(bif m then(idx d a).bind λf=>(idx d a).bind λk=>(QbA d a ({k with Hi:=(if f.Hi<e.Hi then e.Hi else f.Hi):Outcome})).bind λl=>some (a,l)else(app d [e]).bind λg=>some (i64.wrap ((g.length:Int)-1),g))
theorem k_ev(n:Nat)(l:Outcome)(d:Int)(z:List Outcome):Kq (F_ev n l d z) 30 [.agg (Outcome.c l),.ptr 0 0,.ptr 1 0] [.cells 3 [I d],.cells 36 [.osl 2 0 z.length 4],.row 27 4 (map Outcome.c z)] (λ_=>.tup []) (λr=>[.cells 3 [I r.1],.cells 36 [.osl 3 0 r.2.length 4],.dead,.row 27 4 (map Outcome.c r.2)]):=by
 refine Kg 7 func30 Z Z Z Z λr h=>Bd h λB a h=>Cg B [0,1,2,3] [1,2,3] (λB=>[(36,.bool B)]) Ze Zf ?_ ?_
 .refine G0 0 Z (DSs 30 Z (D 3 Z (Q7 2 a Z Z Z (λJ a=>?_) (λJ a=>?_))))
  .refine D 2 Z ?_;obtain⟨L,p,a⟩:=Q3 a;refine DS.v (x:=(.ptr 2 (toNat d*4))) (Q5 p Z Ey ED) ?_ (hg:=(gT Z));refine DS.wo (x:=.ptr 2 (toNat d*4+1)) ?_ ?_
   .exact Fpg (gT Z) QiQ Z Wp
   refine DS.v (x:=(I L.Seg)) (Er Z EI Z (Qbn (f:=1) p)) ?_ (hg:=(gT Z));refine D 5 Z (Q7 12 a Z Z Z (λE a=>?_) (λE a=>?_))
   .refine D 4 Z ?_;obtain⟨M,q,a⟩:=Q3 a;refine DS.v (x:=(.ptr 2 (toNat d*4))) (Q5 q Z Ey ED) ?_ (hg:=(gT Z));refine DS.wo (x:=.ptr 2 (toNat d*4+3)) ?_ ?_
    .exact Fpg (gT Z) QcQ Z Wp
    refine DS.v (x:=(I M.Hi)) (Er Z EI Z (Qbn (f:=3) q)) ?_ (hg:=(gT Z));refine D 2 Z (Q7 21 a Z Z Z (λF a=>?_) (λF a=>?_))
    .exact D 8 Z (Eg Z (Gl 4 Z a [0,1,2,3]))
    .refine D 5 Z ?_;obtain⟨N,t,a⟩:=Q3 a;refine DS.v (x:=(.ptr 2 (toNat d*4))) (Q5 t Z Ey ED) ?_ (hg:=(gT Z));refine DS.wo (x:=.ptr 2 (toNat d*4+3)) ?_ ?_
     .exact Fpg (gT Z) QcQ Z Wp
     refine DS.v (x:=(I N.Hi)) (Er Z EI Z (Qbn (f:=3) t)) ?_ (hg:=(gT Z));exact Eg Z (Gl 4 Z a [0,1,2,3])
   .exact D 17 Z (Eg Z (Gl 4 Z a [0,1,2,3]))
  .exact D 27 Z (Eg Z (Gl 4 Z a [0,1,2,3]))
 refine Cn Z h (λG h=>?_) (λG h=>?_)
 .refine Gc 1 Z (DSs 10 Z (D 4 Z ?_));obtain⟨u,w,h⟩:=Q3 h;refine DS.v (x:=(.ptr 2 (toNat d*4))) (Q5 w Z Ey ED) ?_;refine DS.wo (x:=.ptr 2 (toNat d*4+3)) ?_ ?_
  .exact Fp QcQ Z Wp
  refine DS.v (x:=(I u.Hi)) (Er Z EI Z (Qbn (f:=3) w)) ?_;refine D 2 Z ?_;refine DS.v (x:=(I (if u.Hi<l.Hi then l.Hi else u.Hi))) (OpV.max Z Z Z Z) ?_;refine Eg Z (Bd h λO y h=>?_);refine vX (.ptr 2 (toNat d*4)) (Q5 y Z Ey ED) ?_;refine Fp QcQ Z (Bd h λP g h=>?_);refine vU (YE (e:=Outcome.c) (k:=4) (f:=3) y g Eu Z Z) ?_;refine FE Z ?_;refine Qq (QA (s:=37) Z (congrArg (λn=>A.osl 2 0 n 4) (Q8 g))) ?_;refine Qq (QA (s:=39) Z (congrArg (λn=>A.osl 2 0 n 4) (Q8 g))) ?_;refine Qq (Qcj (i:=1) Z (congrArg (λnz=>Blk.cells 36 [.osl 2 0 nz 4]) (Q8 g))) ?_;refine Go 4 Z ?_;obtain rfl:=Oi h;refine⟨[],_,_,?_,Qa6.nil Z,Z,Z⟩;refine El (Qax (i:=2) (j:=1) (m:=0) Z Z Z Z Z) ?_;exact Lr [0,1,2,4]
 refine Gc 6 Z (vH (Ej (xs:=[.tmp 50]) (es:=map Outcome.c [l]) Yh Z Z Z Z Z ⟨Z,trivial⟩ Z Z) ?_);refine FE Z (Bd h λQ H h=>vH (Yx (e:=Outcome.c) H Yh Ey (Qbi (i:=4))) ?_);refine Fg 9 Z Z ?_;obtain rfl:=Oi h;exact Rx [0,1,2,5] [] Z (Qa6.nil Z) ⟨Z,Z⟩
def F_ip(n:Nat)(d:List Outcome)(a:(List Outcome)×Int×Int):Option (Ctl ((List Outcome)×Int×Int) (List Outcome)):=(bif decide (a.2.2<(d.length:Int))then(idx d a.2.2).bind λf=>(F_ev n f a.2.1 a.1).bind λe=>some (.cont (e.2,e.1,i64.wrap (a.2.2+1)))else some (.done a.1))
def F_ay(n:Nat)(a:List Outcome):Option (List Outcome):=(F_dg n a).bind λh=>((bif h then(F_b n).bind λk=>(app [] [{Out:=true,Seg:=(-1),Lo:=0,Hi:=0:Outcome}]).bind λi=>some i else some []):Option (List Outcome)).bind λj=>(F_br n a).bind λd=>(F_fq n d).bind λe=>(QdK (λx y=>F_cr n x y) e).bind λf=>(iter (F_ip n f) n (j,(-1),0):Option (List Outcome)).bind λg=>some g
theorem k_ay(n:Nat)(w:List Outcome):Kq (F_ay n w) 10 [.rsl 4 (map Outcome.c w)] [] (λr=>.osl 0 0 r.length 4) (λr=>[.row 27 4 (map Outcome.c r),.cells 36 [.osl 0 0 r.length 4]]):=by
 refine Kg 9 func10 Z Z Z Z λr h=>Cz [] h (k_dg _ _) Z λW O h=>Go 2 Z (Bd h λp f h=>Ct p [0,0] [0,2] Ze (λp=>[(0,.cells 36 [.osl 1 0 p.length 4]),(1,.row 27 4 (map Outcome.c p))]) Zf ?_ (λenv H z=>?_))
 .refine G0 0 Z (Cn Z f (λB f=>?_) (λB f=>?_))
  .obtain⟨X,E,f⟩:=Q3 f;refine QF 3 0 [10,11,12] [false,true,false] [[],[],[1]] [[],[1]] [[(0,0),(1,1)],[(0,1)],[(1,1)]] [.nils,.agg [.bool true,I (-1),I 0,I 0],.rsl 4 (map Outcome.c [{Out:=true,Seg:=(-1),Lo:=0,Hi:=0:Outcome}])] [[.cells 36 [.nils]],[.cells 36 [.nils],.cells 27 [.bool true,I (-1),I 0,I 0]]] ([.cells 36 [.nils],.cells 27 [.bool true,I (-1),I 0,I 0]]) draws Z Z Z Z Z Z Z ?_ Z ?_
   .refine QeD.cons (Qa (v0 Z Z) (Qa (v0 Z Z) (Qb))) (QeD.cons ?_ (QeD.cons ?_ (QeD.nil)))
    .refine Qa ?_ (Qb)
     .refine Om1 Z sN ?_;refine Qi [] (OpC.fn call19 Z Z Z) (k_b _ _ E) ?_;rintro _ _ ⟨rfl,rfl⟩;exact FE Z Wp
    .refine Qa ?_ (Qb)
     .refine Om Z (sD 1 sN) ?_;refine vH (QH (xs:=[.tmp 11]) (es:=map Outcome.c [{Out:=true,Seg:=(-1),Lo:=0,Hi:=0:Outcome}]) Yh Z Z Z Z Z ⟨Z,trivial⟩ Z Z) ?_;exact FE Z Wp
   refine Bd f λY F f=>vH (Qin (e:=Outcome.c) F Yh Ey Qdn) ?_;exact FE Z (Gl 2 Z f [0,2])
  refine Gc 1 Z ?_;cases f;refine Qa5 ?_;refine El (Yr (i:=0) (m:=0) (t:=27) (k:=4) Z Z Z) ?_;exact Lr [0,1]
 refine Gx 1 Z (Qm z (Gc 3 Z (Cd [] h (k_br _ _) Z λP L h=>FE Z (Cd [2] h (k_fq _ _) Z λQ M h=>Fg 6 Z Z (Bd h λR g h=>?_)))));refine Qi [2] (OpC.fn call26 Z Z Z) (Qgw (enc:=Outcome.c) Qeh g (λx y c h=>k_cr n x y c h) EQ ED call27 Zf Z) ?_;rintro _ _ ⟨rfl,rfl⟩;refine FE Z ?_;refine Qq (QA (s:=3) Z (congrArg (λn=>A.osl 2 0 n 4) (Qaa g))) ?_;refine Qq (QA (s:=16) Z (congrArg (λn=>A.osl 2 0 n 4) (Qaa g))) ?_;refine Qq (QA (s:=17) Z (congrArg (λn=>A.osl 2 0 n 4) (Qaa g))) ?_;refine Go 22 Z (Bd h λj G h=>Cg j [0,1] [2] Ze (λj=>[(0,.cells 36 [.osl 1 0 j.length 4]),(1,.row 27 4 (map Outcome.c j))]) Zf ?_ ?_)
 .refine G0 1 Z (Lp [0,1,3,2] [2,5,20,21] (λd=>[(22,I d.2.2)]) (λd=>[(0,.cells 36 [.osl 1 0 d.1.length 4]),(1,.row 27 4 (map Outcome.c d.1)),(2,.cells 3 [I d.2.1])]) G Zf (Lr [0,1,3,2]) λd T a q=>?_);refine G0 6 Z (Yn Z a (λu a=>?_) (λu a=>?_))
  .exact Gc 2 Z (Qp a (Gx 1 Z (cQo q a (Lr [0,1]))))
  refine Gc 6 Z (Bd a λJ l a=>?_);refine vX (.ptr 3 (toNat d.2.2*4)) (Q5 l Z Ey ED) ?_;refine vX (.agg (Outcome.c J)) (QY Z EQ ED Z (Yj l) Z Z) ?_;exact Go 7 Z (Cd [2,0,1] a (k_ev _ _ _ _) Z λV N a=>Fg 7 Z Z (Qo a (Lr [0,5,2,3])))
 refine Gc 7 Z ?_;obtain rfl:=Oi h;exact Rx [1,0] [2] Z (Qs Z (Qn isAgg36 Z Z)) ⟨Z,Z⟩
def F_hh(n:Nat)(d:(List Way)×Int)(h:Y5×Int)(a:(List Outcome)×Int):Option (Ctl ((List Outcome)×Int) (List Outcome)):=(bif decide (a.2<(d.1.length:Int))then(idx d.1 a.2).bind λe=>(F_fs n h.1 e).bind λf=>(app a.1 f).bind λg=>some (.cont (g,i64.wrap (a.2+1)))else some (.done a.1))
def F_gh(n:Nat)(e:Course)(f:Clocks)(g:Starter)(h:List Hit)(i:List Hand)(p:List Penalty)(q:Int):Option ((List Outcome)×Int):=(F_dm n e f g h i p q).bind λj=>(F_gx n e f g j.extra h i).bind λa=>((bif (a.2 != 0)then some (a.2 != 2)else some false):Option Bool).bind λr=>(bif r then some ([],a.2)else(F_dc n j).bind λd=>(bif (d.2 != 0)then some ([],d.2)else(bif (a.2==2)then(F_de n d.1).bind λk=>some (k,0)else(iter (F_hh n a d) n ([],0):Option (List Outcome)).bind λl=>(F_ay n l).bind λm=>some (m,0))))
theorem k_gh(n:Nat)(w:Course)(x:Clocks)(y:Starter)(z:List Hit)(B:List Hand)(E:List Penalty)(F:Int):Kq (F_gh n w x y z B E F) 31 [.agg (Course.c w),.agg (Clocks.c x),.agg (Starter.c y),.rsl 5 (map Hit.c z),.rsl 4 (map Hand.c B),.rsl 4 (map Penalty.c E),I F] [] (λr=>.tup [.osl 0 0 r.1.length 4,I r.2]) (λr=>[.row 27 4 (map Outcome.c r.1)]):=by
 refine Kg 18 func31 Z Z Z Z λr h=>Cd [] h (k_dm _ _ _ _ _ _ _ _) Z λr1 T h=>Fg 13 Z Z (Cd [] h (k_gx _ _ _ _ _ _ _) Z λr2 V h=>Fg 9 Z Z (Bd h λl g h=>Ct l [4,5] [14,15,16,17] (λl=>[(45,.bool l)]) Ze Zf ?_ (λenv H G=>?_)))
 .refine G0 4 Z (Is 42 g Z (λJ g=>?_) (λJ g=>?_))
  iterate 2 exact Gl 4 Z g [4,5]
 refine Gx 1 Z (Qm G (Cn Z h (λL h=>?_) (λL h=>?_)))
 .refine Gc 9 Z ?_;obtain rfl:=Oi h;refine R2 14 15 Z Z ?_;refine El (Eo (s:=14) (k:=4) (t:=27) (XL Z) Z) ?_;exact Lr [2]
 refine Gc 5 Z (Cd [0] h (k_dc _ _) Z λr8 W h=>Fg 9 Z Z (Cn Z h (λM h=>?_) (λM h=>?_)))
 .refine Gc 9 Z ?_;obtain rfl:=Oi h;refine R2 14 15 Z Z ?_;refine El (Eo (s:=14) (k:=4) (t:=27) (XL Z) Z) ?_;exact Lr [2]
 refine Gc 9 Z (Cn Z h (λm h=>?_) (λm h=>?_))
 .refine Gc 3 Z (Cd [] h (k_de _ _) Z λX P h=>Fg 6 Z Z ?_);obtain rfl:=Oi h;exact R2 14 15 Z Z (Lr [2])
 refine Gc 10 Z (Bd h λf N h=>Cg f [0] [] (λf=>[(14,.osl 0 0 f.length 4)]) (λf=>[(0,.row 27 4 (map Outcome.c f))]) Zf ?_ ?_)
 .refine G0 1 Z (Lp [0,0,1] [55,56] (λd=>[(14,.osl 0 0 d.1.length 4),(16,.ptr 1 0),(57,I d.2)]) (λd=>[(0,.row 27 4 (map Outcome.c d.1))]) N Zf ?_ ?_)
  .refine El (Eo (s:=14) (k:=4) (t:=27) (XL Z) Z) ?_;exact Lr [2,0,1]
  intro d Y a p;refine G0 6 Z (Yn Z a (λq a=>?_) (λq a=>?_))
  .exact Gc 2 Z (Qp a (Gx 1 Z (cQo p a (Lr [0]))))
  refine Gc 6 Z (Bd a λO j a=>?_);refine vX (.ptr 2 (toNat d.2*2)) (Q5 j Z Gd sizeOf98) ?_;refine vX (.agg (Way.c O)) (QY Z isAgg98 sizeOf98 Z (Yj j) Z Z) ?_;refine Go 8 Z (Cd [] a (k_fs _ _ _) Z λaa Q a=>FE Z (Bd a λab u a=>vH (Yx (e:=Outcome.c) u Yh Ey (Qbi (i:=4))) ?_));exact Fg 8 Z Z (Qo a (Lr [5,1,2]))
 refine Gc 3 Z ?_;refine Qq (Yy [(14,_),(67,_)] Z Z (Qip.cons Z En (Qip.cons Z En Qip.nil)) (Ec (QX _))) ?_;refine Cd [] h (k_ay _ _) Z λac R h=>Fg 5 Z Z ?_;obtain rfl:=Oi h;exact R2 14 15 Z Z (Lr [1])
def F_it(n:Nat)(d:List Outcome)(g:List Outcome)(a:Int):Option (Ctl Int (Ctl Unit Bool)):=(bif decide (a<(d.length:Int))then(idx d a).bind λe=>(idx g a).bind λf=>(bif (e != f)then some (.done (.done false))else some (.cont (i64.wrap (a+1))))else some (.done (.cont ())))
def F_es(n:Nat)(d:List Outcome)(e:List Outcome):Option Bool:=(bif ((d.length:Int) != (e.length:Int))then some false else(iter (F_it n d e) n 0:Option (Ctl Unit Bool)).bind λf=>match f with|.cont a=>(some true)|.done a=>some a)
theorem k_es(n:Nat)(m:List Outcome)(s:List Outcome):Ks (F_es n m s) 12 [.rsl 4 (map Outcome.c m),.rsl 4 (map Outcome.c s)] [] (λr=>.bool r):=by
 refine Kg 9 func12 Z Z Z Z λr h=>Lg 1 Z Z (Lg 3 Z Z (Cn Z h (λt h=>?_) (λt h=>?_)))
 .exact QP 7 Z h 4 []
 refine Gc 8 Z (Bd h λu w h=>CgE (b:=u) [] [] Ze Ze Zf ?_ (λz y=>?_))
 .refine G0 1 Z (Lp [] [0,1] (λg=>[(5,I g)]) Ze w Zf (Lr []) λg B a f=>?_);refine G0 5 Z (Lg 3 Z Z (Yn Z a (λi a=>?_) (λi a=>?_)))
  .exact Gc 2 Z (Qp a (Gx 1 Z (cNo f a Z (Lr []))))
  refine Gc 5 Z (DSs 8 Z (D 2 Z ?_));obtain⟨d,j,a⟩:=Q3 a;refine DS.wo (x:=.rp [.bool d.Out,I d.Seg,I d.Lo,I d.Hi]) ?_ ?_
  .exact Ix j Ey ED Z Wp
  refine D 3 Z ?_;obtain⟨e,k,a⟩:=Q3 a;refine DS.wo (x:=.rp [.bool e.Out,I e.Seg,I e.Lo,I e.Hi]) ?_ ?_
  .exact Ix k Ey ED Z Wp
  refine D 1 Z (Eg Z ?_);refine vX (.bool (d != e)) (Qg9 (p:=d) (q:=e) QhY Z Z) ?_;refine Go 2 Z (Cn Z a (λl a=>?_) (λl a=>?_))
  .refine Gc 8 Z (Qw a ?_);obtain rfl:=Oj f a;exact Gx 1 Z (Qu (Gx 1 Z (Rt h 4 [])))
  exact Gc 8 Z (Qo a (Lr []))
 subst y;exact QP 6 Z h 4 []
def F_j(n:Nat)(d:Int)(e:List Hand)(f:List Penalty)(g:List Outcome):Option Bool:=(F_fu n d).bind λh=>(F_f n).bind λk=>(F_gh n ({Name:=[99],Mats:=[{Name:=[115],Kind:=1:Mat},{Name:=[101],Kind:=3:Mat}],Legs:=[{From:=0,To:=1,Min:=10,Max:=1000:Leg}],Distances:=h,Waves:=[{Name:=[119],Gun:=0:Wave}],Offences:=[],Categories:=[],Prizes:=[],Ties:=[{Uk with Kind:=1,By:=4:Step}],Faults:=Uf,Fee:=0,Deadline:=0:Course}) ({Segments:=[],Far:=[[0]]:Clocks}) ({Uj with Bib:=1:Starter}) [] e f (-1)).bind λa=>((F_es n a.1 g).bind λi=>(bif i then some (a.2==0)else some false):Option Bool).bind λj=>some j
theorem k_j(n:Nat)(e:Int)(f:List Hand)(g:List Penalty)(i:List Outcome):Ks (F_j n e f g i) 13 [I e,.rsl 4 (map Hand.c f),.rsl 4 (map Penalty.c g),.rsl 4 (map Outcome.c i)] [] (λr=>.bool r):=by
 refine Kg 8 func13 Z Z Z Z λr h=>Cd [] h (k_fu _ _) Z λq l h=>FE Z (Cd [] h (k_f _) Z λs m h=>Fg 3 Z Z ?_);refine Qq (Yy [(13,_)] Z Z (Qip.cons Z (FzA.agg (Ed (Ee _) (Ed En (Ei _)))) Qip.nil) (Ec (Ec (Ec (Ec (Ec (FzH.cells (Ed (Ee _) (Ed En (Ei _))) (QX _)))))))) ?_;refine Qq (Yy [(13,_)] Z Z (Qip.cons Z (FzA.agg (Ed (Ee _) (Ed (Ee _) (Ed En (Ei _))))) Qip.nil) (Ec (Ec (Ec (Ec (Ec (FzH.cells (Ed (Ee _) (Ed (Ee _) (Ed En (Ei _)))) (QX _)))))))) ?_;refine Qq (Yy [(13,_)] Z Z (Qip.cons Z (FzA.agg (Ed (Ee _) (Ed (Ee _) (Ed (Ee _) (Ed En (Ei _)))))) Qip.nil) (Ec (Ec (Ec (Ec (Ec (FzH.cells (Ed (Ee _) (Ed (Ee _) (Ed (Ee _) (Ed En (Ei _))))) (QX _)))))))) ?_;refine Qq (Yy [(13,_)] Z Z (Qip.cons Z (FzA.agg (Ed (Ee _) (Ed (Ee _) (Ed (Ee _) (Ed (Ee _) (Ed En (Ei _))))))) Qip.nil) (Ec (Ec (Ec (Ec (Ec (FzH.cells (Ed (Ee _) (Ed (Ee _) (Ed (Ee _) (Ed (Ee _) (Ed En (Ei _)))))) (QX _)))))))) ?_;refine Qq (Yy [(13,_)] Z Z (Qip.cons Z (FzA.agg (Ed (Ee _) (Ed (Ee _) (Ed (Ee _) (Ed (Ee _) (Ed (Ee _) (Ed (Ee _) (Ed (Ee _) (Ed (Ee _) (Ed En (Ei _))))))))))) Qip.nil) (Ec (Ec (Ec (Ec (Ec (FzH.cells (Ed (Ee _) (Ed (Ee _) (Ed (Ee _) (Ed (Ee _) (Ed (Ee _) (Ed (Ee _) (Ed (Ee _) (Ed (Ee _) (Ed En (Ei _)))))))))) (QX _)))))))) ?_;refine Qq (Yy [(14,_)] Z Z (Qip.cons Z (FzA.agg (Ed (Ee _) (Ed En (Ei _)))) Qip.nil) (Ec (Ec (Ec (Ec (Ec (Ec (Ec (FzH.cells (Ed (Ee _) (Ed En (Ei _))) (QX _)))))))))) ?_;refine Bd h λt j h=>?_;refine Qi [] (OpC.fn call31 Z Z Z) (C.nils (QfX.eq (QfX.eq (QfX.eq (QfX.nl (QfX.eq (QfX.eq (QfX.eq QfX.nil))))))) (k_gh _ _ _ _ _ _ _ _ _ j)) ?_;rintro _ _ ⟨rfl,rfl⟩;refine Fg 8 Z Z (Bd h λd a h=>Cg d [] [] (λd=>[(8,.bool d)]) Ze Zf ?_ ?_)
 .refine G0 3 Z (Cb a (k_es _ _ _) Z (lo (ls ln)) λu p a=>Go 1 Z (Is 24 a Z (λk a=>?_) (λk a=>?_)))
  iterate 2 exact Gl 5 Z a []
 exact QP 1 Z h 8 []
def F_m(n:Nat):Option Unit:=some ()
theorem k_m(n:Nat):Kq (F_m n) 14 [] [] (λ_=>.osl 0 0 ([{Bib:=1,Position:=0,Lo:=0,Hi:=5:Hand},{Bib:=1,Position:=1,Lo:=100,Hi:=101:Hand}].length) 4) (λ_=>[.row 76 4 (map Hand.c [{Bib:=1,Position:=0,Lo:=0,Hi:=5:Hand},{Bib:=1,Position:=1,Lo:=100,Hi:=101:Hand}])]):=by
 refine Kg 9 func14 Z Z Z Z λr h=>vH (Ej (xs:=[.tmp 1,.tmp 2]) (es:=map Hand.c [{Bib:=1,Position:=0,Lo:=0,Hi:=5:Hand},{Bib:=1,Position:=1,Lo:=100,Hi:=101:Hand}]) el_41 Z Z Z Z Z ⟨Z,Z,trivial⟩ Z Z) ?_;exact FE Z (Gt 4 Z h 0 [0])
def F_g(n:Nat)(d:Clocks)(a:Outcome):Option Int:=(F_p n d).bind λe=>(bif (e != 0)then some e else((bif decide ((-1)<=a.Seg)then(bif decide (a.Seg<(d.Segments.length:Int))then(bif decide ((-288230376151711744)<=a.Lo)then(bif decide (a.Lo<=a.Hi)then some (decide (a.Hi<=288230376151711744))else some false)else some false)else some false)else some false):Option Bool).bind λg=>((bif a.Out then(F_b n).bind λh=>some (a==({Out:=true,Seg:=(-1),Lo:=0,Hi:=0:Outcome}))else some g):Option Bool).bind λf=>(bif (!f)then some 230 else some 0))
theorem k_g(n:Nat)(t:Clocks)(e:Outcome):Ks (F_g n t e) 8 [.agg (Clocks.c t),.agg (Outcome.c e)] [] (λr=>I r):=by
 refine Kg 11 func8 Z Z Z Z λr h=>Cz [] h (k_p _ _) Z λB y h=>Go 9 Z (Cn Z h (λu h=>?_) (λu h=>?_))
 .exact QP 8 Z h 4 []
 refine Gc 3 Z (Bd h λg a h=>Ct g [1] [3] (λg=>[(6,.bool g)]) Ze Zf ?_ (λenv H w=>?_))
 .refine G0 5 Z (Is 15 a Z (λx a=>?_) (λx a=>?_))
  .refine Go 4 Z (Lg 3 Z Z (Is 23 a Z (λi a=>?_) (λi a=>?_)))
   .refine Go 5 Z (Is 28 a Z (λj a=>?_) (λj a=>?_))
    .refine Go 7 Z (Is 35 a Z (λk a=>?_) (λk a=>?_))
     iterate 2 exact Gl 6 Z a [1]
    .exact Gl 13 Z a [1]
   .exact Gl 18 Z a [1]
  .exact Gl 26 Z a [1]
 refine Gx 1 Z (Qm w (Gc 7 Z (Bd h λf d h=>Cg f [] [] (λf=>[(6,.bool f)]) Ze Zf ?_ ?_)))
 .refine G0 0 Z (Cn Z d (λl d=>?_) (λl d=>?_))
  .obtain⟨z,m,d⟩:=Q3 d;refine QF 2 0 [42,43] [false,true] [[],[]] [[],[1]] [[(0,0),(1,1)],[(0,1)]] [.agg (Outcome.c e),.agg [.bool true,I (-1),I 0,I 0]] [[.cells 27 (Outcome.c e)],[.cells 27 (Outcome.c e),.cells 27 [.bool true,I (-1),I 0,I 0]]] ([.cells 27 (Outcome.c e),.cells 27 [.bool true,I (-1),I 0,I 0]]) draws Z Z Z Z Z Z Z ?_ Z ?_
   .refine QeD.cons (Qa (v0 Z Z) (Qa (v0 Z Z) (Qb))) (QeD.cons ?_ (QeD.nil))
    .refine Qa ?_ (Qb)
     .refine Om1 Z sN ?_;refine Qi [] (OpC.fn call19 Z Z Z) (k_b _ _ m) ?_;rintro _ _ ⟨rfl,rfl⟩;exact FE Z Wp
   refine vX (.bool (e==({Out:=true,Seg:=(-1),Lo:=0,Hi:=0:Outcome}))) (Qbp (p:=e) (q:={Out:=true,Seg:=(-1),Lo:=0,Hi:=0:Outcome}) QhY Z Z) ?_;exact Gl 2 Z d []
  exact Gcl 1 Z d []
 refine Gc 7 Z (Cn Z h (λs h=>?_) (λs h=>?_))
 .exact QP 7 Z h 4 []
 exact QP 8 Z h 4 []
def F_k(n:Nat)(d:Clocks)(a:Outcome):Option (Span×Int):=(F_g n d a).bind λe=>(bif (e != 0)then some ({Lo:=0,Hi:=0:Span},e)else(bif a.Out then some ({Lo:=0,Hi:=0:Span},230)else(F_ai n d a.Seg ({Lo:=a.Lo,Hi:=a.Hi:Span})).bind λf=>some ({Lo:=f.Lo,Hi:=f.Hi:Span},0)))
theorem k_k(n:Nat)(a:Clocks)(d:Outcome):Kq (F_k n a d) 6 [.agg (Clocks.c a),.agg (Outcome.c d)] [] (λr=>.tup [.agg [I r.1.Lo,I r.1.Hi],I r.2]) (λr=>[.cells 30 [I r.1.Lo,I r.1.Hi]]):=by
 refine Kg 13 func6 Z Z Z Z λr h=>Cz [] h (k_g _ _ _) Z λj g h=>Go 9 Z (Cn Z h (λe h=>?_) (λe h=>?_))
 .refine Gc 10 Z ?_;obtain rfl:=Oi h;exact Rx [2] [4,5] Z (Qg Z Z (QfR.cons (Qe EB Ew Z Z Z) (QfR.cons QbZ.tmp QfR.nil))) ⟨Z,Z⟩
 refine Gc 9 Z (Cn Z h (λf h=>?_) (λf h=>?_))
 .refine Gc 9 Z ?_;obtain rfl:=Oi h;exact Rx [2] [4,5] Z (Qg Z Z (QfR.cons (Qe EB Ew Z Z Z) (QfR.cons QbZ.tmp QfR.nil))) ⟨Z,Z⟩
 refine Gc 12 Z (Cd [] h (k_ai _ _ _ _) Z λk i h=>Fg 5 Z Z ?_);obtain rfl:=Oi h;exact Rx [2] [4,5] Z (Qg Z Z (QfR.cons (Qe EB Ew Z Z Z) (QfR.cons QbZ.tmp QfR.nil))) ⟨Z,Z⟩
abbrev lit_0:List Outcome:=[{Out:=true,Seg:=(-1),Lo:=0,Hi:=0:Outcome},{Out:=false,Seg:=(-1),Lo:=100,Hi:=101:Outcome}]
abbrev lit_1:List Hand:=[{Bib:=1,Position:=0,Lo:=0,Hi:=5:Hand},{Bib:=1,Position:=1,Lo:=100,Hi:=101:Hand}]
abbrev lit_2:List Outcome:=[{Out:=false,Seg:=1,Lo:=1,Hi:=2:Outcome},{Out:=false,Seg:=1,Lo:=3,Hi:=4:Outcome}]
abbrev lit_3:List Outcome:=[{Out:=false,Seg:=(-1),Lo:=100,Hi:=101:Outcome}]
abbrev lit_4:List Outcome:=[{Out:=false,Seg:=(-1),Lo:=160,Hi:=161:Outcome}]
abbrev lit_5:List Outcome:=[{Out:=true,Seg:=(-1),Lo:=0,Hi:=0:Outcome}]
abbrev lit_6:List Penalty:=[{Ui with Out:=true:Penalty}]
abbrev lit_7:List Penalty:=[{Ui with Time:=60:Penalty}]
abbrev lit_8:Clocks:={Segments:=[],Far:=[[0]]:Clocks}
def F_bf(n:Nat):Option Bool:=((F_j n 0 [] [] lit_5).bind λd=>(bif (!d)then some true else(F_m n).bind λq=>(F_j n 0 lit_1 [] lit_3).bind λe=>(bif (!e)then some true else(F_m n).bind λr=>(F_j n 0 lit_1 lit_6 lit_5).bind λf=>(bif (!f)then some true else(F_m n).bind λs=>(F_j n 100 lit_1 [] lit_0).bind λg=>(bif (!g)then some true else(F_m n).bind λt=>(F_j n 0 lit_1 lit_7 lit_4).bind λh=>some (!h))))):Option Bool).bind λi=>(bif i then some false else(F_f n).bind λu=>(F_k n (lit_8) ({Out:=false,Seg:=(-1),Lo:=100,Hi:=101:Outcome})).bind λa=>(F_f n).bind λw=>(F_k n (lit_8) ({Out:=true,Seg:=(-1),Lo:=0,Hi:=0:Outcome})).bind λj=>((bif (({Lo:=a.1.Lo,Hi:=a.1.Hi:Span})==({Lo:=100,Hi:=101:Span}))then(bif (a.2==0)then(bif (j.2==230)then(F_f n).bind λx=>(F_g n (lit_8) ({Out:=true,Seg:=(-1),Lo:=0,Hi:=0:Outcome})).bind λk=>(bif (k==0)then(F_f n).bind λy=>(F_g n (lit_8) Ug).bind λl=>(bif (l==230)then(F_ay n lit_2).bind λm=>some ((m.length:Int)==1)else some false)else some false)else some false)else some false)else some false):Option Bool).bind λp=>some p)
theorem k_bf(n:Nat):Ks (F_bf n) 5 [] [] (λr=>.bool r):=by
 refine Kg 28 func5 Z Z Z Z λr h=>Bd h λg e h=>Ct g [0,1] [1,2] (λg=>[(47,.bool g)]) Ze Zf ?_ (λenv H ae=>?_)
 .refine G0 0 Z (DKs 34 [5,12,21,29] [(0,0,0),(0,0,0),(0,0,0),(0,0,0),(0,0,0),(1,0,0),(0,0,1),(0,0,1),(0,1,1),(0,1,1),(0,1,1),(0,1,1),(1,1,0),(0,1,2),(0,1,2),(0,1,2),(0,1,2),(0,2,2),(0,2,2),(0,2,2),(0,2,2),(1,2,0),(0,2,3),(0,2,3),(0,2,3),(0,3,3),(0,3,3),(0,3,3),(0,3,3),(1,3,0),(0,3,4),(0,3,4),(0,3,4),(0,3,4)] (by kernel_rfl) (Dk 1 Z ?_));refine DK.wo (x:=.rsl 4 (map Outcome.c lit_5)) ?_ ?_
  .refine vH (QH (xs:=[.tmp 11]) (es:=map Outcome.c lit_5) Yh Z Z Z Z Z ⟨Z,trivial⟩ Z Z) ?_;refine aV (.rsl 4 (map Outcome.c lit_5)) [_,_,_] Z Z ?_;exact Wp
  obtain⟨t,z,e⟩:=Q3 e;refine DK.wo (x:=.bool t) ?_ ?_
  .refine Qi [] (OpC.fn call13 Z Z Z) (C.nils (QfX.eq (QfX.nl (QfX.nl (QfX.eq QfX.nil)))) (k_j _ _ _ _ _ _ z)) ?_;rintro _ _ ⟨rfl,rfl⟩;refine aV (.bool t) [_,_,_] Z Z ?_;exact Wp
  refine Dk 2 Z (Qb4 4 e Z Z Z (λB e=>?_) (λB e=>?_))
  .exact Dk 29 Z (DK.done Z Z (Gl 4 Z e [0,1]))
  .obtain⟨aj,E,e⟩:=Q3 e;refine DK.op (x:=.osl 3 0 (lit_1.length) 4) (X1:=[.cells 27 [.bool true,I (-1),I 0,I 0],.cells 27 [.bool false,I (-1),I 100,I 101],.cells 27 [.bool false,I (-1),I 160,I 161],.row 76 4 (map Hand.c lit_1)]) ?_ ?_
   .refine Qi [] (OpC.fn call14 Z Z Z) (k_m _ _ E) ?_ (hg:=(gT Z));rintro _ _ ⟨rfl,rfl⟩;refine aV (.osl 3 0 (lit_1.length) 4) [_,_,_,.row 76 4 (map Hand.c lit_1)] Z Z ?_;exact Wp
   refine Dks (lo:=0) (hi:=1) (x:=.agg [.bool false,I (-1),I 100,I 101]) ⟨Z,Z,trivial⟩ ?_;refine QdA (lo:=0) (hi:=1) (x:=.rsl 4 (map Outcome.c lit_3)) ⟨?_,?_,trivial⟩ ?_
   .refine vH (QH (xs:=[.tmp 17]) (es:=map Outcome.c lit_3) Yh Z Z Z Z Z ⟨Z,trivial⟩ Z Z) ?_ (gT Z);refine aV (.rsl 4 (map Outcome.c lit_3)) [_,_,_,_] Z Z ?_;exact Wp
   .refine vH (QH (xs:=[.tmp 17]) (es:=map Outcome.c lit_3) Yh Z Z Z Z Z ⟨Z,trivial⟩ Z Z) ?_ (gT Z);refine aV (.rsl 4 (map Outcome.c lit_3)) [_,_,_] Z Z ?_;exact Wp
   obtain⟨u,F,e⟩:=Q3 e;refine DK.wo (x:=.bool u) ?_ ?_
   .refine QbY (OpC.fn call13 rfl rfl rfl) (QaP.cons rfl (.inl ⟨rfl,rfl⟩) (QaP.cons rfl (.inr ⟨_,_,_,_,_,rfl,rfl,XU ..,rfl⟩) (QaP.cons rfl (.inl ⟨rfl,rfl⟩) (QaP.cons rfl (.inl ⟨rfl,rfl⟩) QaP.nil)))) (C.nils (QfX.eq (QfX.eq (QfX.nl (QfX.eq QfX.nil)))) (k_j _ _ _ _ _ _ F)) (by rintro _ _ ⟨rfl,rfl⟩;rfl) ?_ (gT rfl);rintro _ _ ⟨rfl,rfl⟩;refine aV (.bool u) [_,_,_,_] Z Z ?_;exact Wp
   refine Dk 3 Z (Qb4 11 e Z Z Z (λG e=>?_) (λG e=>?_))
   .exact Dk 22 Z (DK.done Z Z (Gl 4 Z e [0,1]))
   .obtain⟨ak,J,e⟩:=Q3 e;refine DK.op (x:=.osl 4 0 (lit_1.length) 4) (X1:=[.cells 27 [.bool true,I (-1),I 0,I 0],.cells 27 [.bool false,I (-1),I 100,I 101],.cells 27 [.bool false,I (-1),I 160,I 161],.row 76 4 (map Hand.c lit_1),.row 76 4 (map Hand.c lit_1)]) ?_ ?_
    .refine Qi [] (OpC.fn call14 Z Z Z) (k_m _ _ J) ?_ (hg:=(gT Z));rintro _ _ ⟨rfl,rfl⟩;refine aV (.osl 4 0 (lit_1.length) 4) [_,_,_,_,.row 76 4 (map Hand.c lit_1)] Z Z ?_;exact Wp
    refine Dk 1 Z ?_;refine QdA (lo:=1) (hi:=2) (x:=.rsl 4 (map Penalty.c lit_6)) ⟨?_,?_,trivial⟩ ?_
    .refine vH (QH (xs:=[.tmp 24]) (es:=map Penalty.c lit_6) Qgm Z Z Z Z Z ⟨Z,trivial⟩ Z Z) ?_ (gT Z);refine aV (.rsl 4 (map Penalty.c lit_6)) [_,_,_,_,_] Z Z ?_;exact Wp
    .refine vH (QH (xs:=[.tmp 24]) (es:=map Penalty.c lit_6) Qgm Z Z Z Z Z ⟨Z,trivial⟩ Z Z) ?_ (gT Z);refine aV (.rsl 4 (map Penalty.c lit_6)) [_,_,_,_] Z Z ?_;exact Wp
    refine Dks (lo:=1) (hi:=2) (x:=.agg [.bool true,I (-1),I 0,I 0]) ⟨Z,Z,trivial⟩ ?_;refine QdA (lo:=1) (hi:=2) (x:=.rsl 4 (map Outcome.c lit_5)) ⟨?_,?_,trivial⟩ ?_
    .refine vH (QH (xs:=[.tmp 26]) (es:=map Outcome.c lit_5) Yh Z Z Z Z Z ⟨Z,trivial⟩ Z Z) ?_ (gT Z);refine aV (.rsl 4 (map Outcome.c lit_5)) [_,_,_,_,_] Z Z ?_;exact Wp
    .refine vH (QH (xs:=[.tmp 26]) (es:=map Outcome.c lit_5) Yh Z Z Z Z Z ⟨Z,trivial⟩ Z Z) ?_ (gT Z);refine aV (.rsl 4 (map Outcome.c lit_5)) [_,_,_,_] Z Z ?_;exact Wp
    obtain⟨w,L,e⟩:=Q3 e;refine DK.wo (x:=.bool w) ?_ ?_
    .refine QbY (OpC.fn call13 rfl rfl rfl) (QaP.cons rfl (.inl ⟨rfl,rfl⟩) (QaP.cons rfl (.inr ⟨_,_,_,_,_,rfl,rfl,XU ..,rfl⟩) (QaP.cons rfl (.inl ⟨rfl,rfl⟩) (QaP.cons rfl (.inl ⟨rfl,rfl⟩) QaP.nil)))) (k_j _ _ _ _ _ _ L) (by rintro _ _ ⟨rfl,rfl⟩;rfl) ?_ (gT rfl);rintro _ _ ⟨rfl,rfl⟩;refine aV (.bool w) [_,_,_,_,_] Z Z ?_;exact Wp
    refine Dk 3 Z (Qb4 20 e Z Z Z (λM e=>?_) (λM e=>?_))
    .exact Dk 13 Z (DK.done Z Z (Gl 4 Z e [0,1]))
    .obtain⟨al,N,e⟩:=Q3 e;refine DK.op (x:=.osl 5 0 (lit_1.length) 4) (X1:=[.cells 27 [.bool true,I (-1),I 0,I 0],.cells 27 [.bool false,I (-1),I 100,I 101],.cells 27 [.bool false,I (-1),I 160,I 161],.row 76 4 (map Hand.c lit_1),.row 76 4 (map Hand.c lit_1),.row 76 4 (map Hand.c lit_1)]) ?_ ?_
     .refine Qi [] (OpC.fn call14 Z Z Z) (k_m _ _ N) ?_ (hg:=(gT Z));rintro _ _ ⟨rfl,rfl⟩;refine aV (.osl 5 0 (lit_1.length) 4) [_,_,_,_,_,.row 76 4 (map Hand.c lit_1)] Z Z ?_;exact Wp
     refine Dks (lo:=2) (hi:=3) (x:=.agg [.bool true,I (-1),I 0,I 0]) ⟨Z,Z,trivial⟩ ?_;refine Dks (lo:=2) (hi:=3) (x:=.agg [.bool false,I (-1),I 100,I 101]) ⟨Z,Z,trivial⟩ ?_;refine QdA (lo:=2) (hi:=3) (x:=.rsl 4 (map Outcome.c lit_0)) ⟨?_,?_,trivial⟩ ?_
     .refine vH (QH (xs:=[.tmp 33,.tmp 34]) (es:=map Outcome.c lit_0) Yh Z Z Z Z Z ⟨Z,Z,trivial⟩ Z Z) ?_ (gT Z);refine aV (.rsl 4 (map Outcome.c lit_0)) [_,_,_,_,_,_] Z Z ?_;exact Wp
     .refine vH (QH (xs:=[.tmp 33,.tmp 34]) (es:=map Outcome.c lit_0) Yh Z Z Z Z Z ⟨Z,Z,trivial⟩ Z Z) ?_ (gT Z);refine aV (.rsl 4 (map Outcome.c lit_0)) [_,_,_,_,_] Z Z ?_;exact Wp
     obtain⟨y,O,e⟩:=Q3 e;refine DK.wo (x:=.bool y) ?_ ?_
     .refine QbY (OpC.fn call13 rfl rfl rfl) (QaP.cons rfl (.inl ⟨rfl,rfl⟩) (QaP.cons rfl (.inr ⟨_,_,_,_,_,rfl,rfl,XU ..,rfl⟩) (QaP.cons rfl (.inl ⟨rfl,rfl⟩) (QaP.cons rfl (.inl ⟨rfl,rfl⟩) QaP.nil)))) (C.nils (QfX.eq (QfX.eq (QfX.nl (QfX.eq QfX.nil)))) (k_j _ _ _ _ _ _ O)) (by rintro _ _ ⟨rfl,rfl⟩;rfl) ?_ (gT rfl);rintro _ _ ⟨rfl,rfl⟩;refine aV (.bool y) [_,_,_,_,_,_] Z Z ?_;exact Wp
     refine Dk 3 Z (Qb4 28 e Z Z Z (λP e=>?_) (λP e=>?_))
     .exact Dk 5 Z (DK.done Z Z (Gl 4 Z e [0,1]))
     .obtain⟨am,Q,e⟩:=Q3 e;refine DK.op (x:=.osl 6 0 (lit_1.length) 4) (X1:=[.cells 27 [.bool true,I (-1),I 0,I 0],.cells 27 [.bool false,I (-1),I 100,I 101],.cells 27 [.bool false,I (-1),I 160,I 161],.row 76 4 (map Hand.c lit_1),.row 76 4 (map Hand.c lit_1),.row 76 4 (map Hand.c lit_1),.row 76 4 (map Hand.c lit_1)]) ?_ ?_
      .refine Qi [] (OpC.fn call14 Z Z Z) (k_m _ _ Q) ?_ (hg:=(gT Z));rintro _ _ ⟨rfl,rfl⟩;refine aV (.osl 6 0 (lit_1.length) 4) [_,_,_,_,_,_,.row 76 4 (map Hand.c lit_1)] Z Z ?_;exact Wp
      refine Dk 1 Z ?_;refine QdA (lo:=3) (hi:=4) (x:=.rsl 4 (map Penalty.c lit_7)) ⟨?_,?_,trivial⟩ ?_
      .refine vH (QH (xs:=[.tmp 41]) (es:=map Penalty.c lit_7) Qgm Z Z Z Z Z ⟨Z,trivial⟩ Z Z) ?_ (gT Z);refine aV (.rsl 4 (map Penalty.c lit_7)) [_,_,_,_,_,_,_] Z Z ?_;exact Wp
      .refine vH (QH (xs:=[.tmp 41]) (es:=map Penalty.c lit_7) Qgm Z Z Z Z Z ⟨Z,trivial⟩ Z Z) ?_ (gT Z);refine aV (.rsl 4 (map Penalty.c lit_7)) [_,_,_,_,_,_] Z Z ?_;exact Wp
      refine Dks (lo:=3) (hi:=4) (x:=.agg [.bool false,I (-1),I 160,I 161]) ⟨Z,Z,trivial⟩ ?_;refine QdA (lo:=3) (hi:=4) (x:=.rsl 4 (map Outcome.c lit_4)) ⟨?_,?_,trivial⟩ ?_
      .refine vH (QH (xs:=[.tmp 43]) (es:=map Outcome.c lit_4) Yh Z Z Z Z Z ⟨Z,trivial⟩ Z Z) ?_ (gT Z);refine aV (.rsl 4 (map Outcome.c lit_4)) [_,_,_,_,_,_,_] Z Z ?_;exact Wp
      .refine vH (QH (xs:=[.tmp 43]) (es:=map Outcome.c lit_4) Yh Z Z Z Z Z ⟨Z,trivial⟩ Z Z) ?_ (gT Z);refine aV (.rsl 4 (map Outcome.c lit_4)) [_,_,_,_,_,_] Z Z ?_;exact Wp
      exact DK.done Z Z (Cb e (k_j _ _ _ _ _) Z (ls (lo (ls (ls ln)))) λan ah e=>Gl 3 Z e [0,1])
 refine Gx 1 Z (Qm ae (Cn Z h (λR h=>?_) (λR h=>?_)))
 .exact QP 7 Z h 0 []
 refine Gc 3 Z ?_;obtain⟨ao,i,h⟩:=Q3 h;obtain⟨a,j,h⟩:=Q3 h;refine QF 8 1 [49,50,51,48,52,53,4,1000007] [true,false,true,false,false,false,true,true] [[],[],[0],[0,2],[0,2],[0,2],[],[0,2,6]] [[],[0],[6],[0,2],[0,6],[0,2,6],[0,2,6,7]] [[(0,1),(2,4)],[(0,0),(1,1),(2,2),(4,4)],[(1,3),(4,5)],[(3,3),(5,5)],[(3,3),(5,5)],[(3,3),(5,5),(6,6)],[(0,2),(1,4),(3,5)],[(5,6)]] [.agg [.rsl 3 (map Segment.c []),.rsl 1 (map (Qy 1 (Qd .i64)) [[0]])],.agg [.bool false,I (-1),I 100,I 101],.tup [.agg [I a.1.Lo,I a.1.Hi],I a.2],.tup [.agg [I a.1.Lo,I a.1.Hi],I a.2],.agg [I a.1.Lo,I a.1.Hi],I a.2,.ptr 2 0,.any] [[.cells 27 [.bool true,I (-1),I 0,I 0],.cells 27 [.bool false,I (-1),I 100,I 101],.dead],[.cells 27 [.bool true,I (-1),I 0,I 0],.cells 27 [.bool false,I (-1),I 100,I 101],.dead,.dead,.cells 25 [.rsl 3 (map Segment.c []),.rsl 1 (map (Qy 1 (Qd .i64)) [[0]])]],[.cells 27 [.bool true,I (-1),I 0,I 0],.cells 27 [.bool false,I (-1),I 100,I 101],.cells 30 [I 0,I 0]],[.cells 27 [.bool true,I (-1),I 0,I 0],.cells 27 [.bool false,I (-1),I 100,I 101],.dead,.dead,.cells 25 [.rsl 3 (map Segment.c []),.rsl 1 (map (Qy 1 (Qd .i64)) [[0]])],.cells 30 [I a.1.Lo,I a.1.Hi]],[.cells 27 [.bool true,I (-1),I 0,I 0],.cells 27 [.bool false,I (-1),I 100,I 101],.cells 30 [I 0,I 0],.dead,.cells 25 [.rsl 3 (map Segment.c []),.rsl 1 (map (Qy 1 (Qd .i64)) [[0]])]],[.cells 27 [.bool true,I (-1),I 0,I 0],.cells 27 [.bool false,I (-1),I 100,I 101],.cells 30 [I 0,I 0],.dead,.cells 25 [.rsl 3 (map Segment.c []),.rsl 1 (map (Qy 1 (Qd .i64)) [[0]])],.cells 30 [I a.1.Lo,I a.1.Hi]],[.cells 27 [.bool true,I (-1),I 0,I 0],.cells 27 [.bool false,I (-1),I 100,I 101],.cells 30 [I a.1.Lo,I a.1.Hi],.dead,.cells 25 [.rsl 3 (map Segment.c []),.rsl 1 (map (Qy 1 (Qd .i64)) [[0]])],.cells 30 [I a.1.Lo,I a.1.Hi]]] ([.cells 27 [.bool true,I (-1),I 0,I 0],.cells 27 [.bool false,I (-1),I 100,I 101],.cells 30 [I a.1.Lo,I a.1.Hi],.dead,.cells 25 [.rsl 3 (map Segment.c []),.rsl 1 (map (Qy 1 (Qd .i64)) [[0]])],.cells 30 [I a.1.Lo,I a.1.Hi]]) draws Z Z Z Z Z Z Z ?_ Z ?_
 .refine QeD.cons ?_ (QeD.cons (Qa (v0 Z Z) (Qa (v0 Z Z) (Qa (v0 Z Z) (Qa (v0 Z Z) (Qb))))) (QeD.cons ?_ (QeD.cons (Qa (v0 Z Z) (Qa (v0 Z Z) (Qb))) (QeD.cons (Qa (v0 Z Z) (Qa (v0 Z Z) (Qb))) (QeD.cons (Qa (v0 Z Z) (Qa (v0 Z Z) (Qa (v0 Z Z) (Qb)))) (QeD.cons ?_ (QeD.cons ?_ (QeD.nil))))))))
  .refine Qa ?_ (Qa ?_ (Qb))
   iterate 2 refine Om1 Z sN ?_;refine Qi [] (OpC.fn call15 Z Z Z) (k_f _ _ i) ?_;rintro _ _ ⟨rfl,rfl⟩;refine aV (.agg [.rsl 3 (map Segment.c []),.osl 3 0 ([[0]].length) 1]) [_,_,_,.row 77 1 (map (Qy 1 (Qd .i64)) [[0]]),.cells 25 [.rsl 3 (map Segment.c []),.osl 3 0 ([[0]].length) 1]] Z Z ?_;refine Qq (Yy [(49,_)] Z Z (Qip.cons Z (FzA.agg (Ed (Ee _) (Ed En (Ei _)))) Qip.nil) (Ec (Ec (Ec (Ec (FzH.cells (Ed (Ee _) (Ed En (Ei _))) (QX _))))))) ?_;refine Qq QbM ?_;exact Wp
  .refine Qa ?_ (Qa ?_ (Qb))
   iterate 2 refine Om1 Z (sD 0 (sD 1 sN)) ?_;refine Qi [] (OpC.fn call6 Z Z Z) (k_k _ _ _ _ j) ?_;rintro _ _ ⟨rfl,rfl⟩;refine aV (.tup [.agg [I a.1.Lo,I a.1.Hi],I a.2]) [_,_,_,_,_,.cells 30 [I a.1.Lo,I a.1.Hi]] Z Z ?_;exact Wp
  .refine Qa ?_ (Qa ?_ (Qa ?_ (Qb)))
   iterate 3 exact YQ.alloc _ 4 30 2 _ Z Z Z Z Z Z Z (OpZ.alloc (v:=(.agg [I 0,I 0])) EC (zrC Z)) Z
  .refine Qa ?_ (Qb)
   .refine Om2 Z (sD 6 (sD 4 sN)) ?_;refine vU (Ep Z Z Z Ew Z Z Z Z Z Z Z) ?_;refine Qdl (H:=[_,_,.cells 30 [I a.1.Lo,I a.1.Hi],_,_,_]) Z ?_;exact Wp
 refine Go 4 Z ?_;obtain⟨aq,k,h⟩:=Q3 h;obtain⟨d,l,h⟩:=Q3 h;refine QF 8 1 [55,56,57,54,58,59,6,1000007] [true,false,true,false,false,false,true,true] [[],[],[0],[0,2],[0,2],[0,2],[],[0,2,6]] [[],[0],[6],[0,2],[0,6],[0,2,6],[0,2,6,7]] [[(0,1),(2,4)],[(0,0),(1,1),(2,2),(4,4)],[(1,3),(4,5)],[(3,3),(5,5)],[(3,3),(5,5)],[(3,3),(5,5),(6,6)],[(0,2),(1,4),(3,5)],[(5,6)]] [.agg [.rsl 3 (map Segment.c []),.rsl 1 (map (Qy 1 (Qd .i64)) [[0]])],.agg [.bool true,I (-1),I 0,I 0],.tup [.agg [I d.1.Lo,I d.1.Hi],I d.2],.tup [.agg [I d.1.Lo,I d.1.Hi],I d.2],.agg [I d.1.Lo,I d.1.Hi],I d.2,.ptr 6 0,.any] [[.cells 27 [.bool true,I (-1),I 0,I 0],.cells 27 [.bool false,I (-1),I 100,I 101],.cells 30 [I a.1.Lo,I a.1.Hi],.dead,.cells 25 [.rsl 3 (map Segment.c []),.rsl 1 (map (Qy 1 (Qd .i64)) [[0]])],.cells 30 [I a.1.Lo,I a.1.Hi],.dead],[.cells 27 [.bool true,I (-1),I 0,I 0],.cells 27 [.bool false,I (-1),I 100,I 101],.cells 30 [I a.1.Lo,I a.1.Hi],.dead,.cells 25 [.rsl 3 (map Segment.c []),.rsl 1 (map (Qy 1 (Qd .i64)) [[0]])],.cells 30 [I a.1.Lo,I a.1.Hi],.dead,.dead,.cells 25 [.rsl 3 (map Segment.c []),.rsl 1 (map (Qy 1 (Qd .i64)) [[0]])]],[.cells 27 [.bool true,I (-1),I 0,I 0],.cells 27 [.bool false,I (-1),I 100,I 101],.cells 30 [I a.1.Lo,I a.1.Hi],.dead,.cells 25 [.rsl 3 (map Segment.c []),.rsl 1 (map (Qy 1 (Qd .i64)) [[0]])],.cells 30 [I a.1.Lo,I a.1.Hi],.cells 30 [I 0,I 0]],[.cells 27 [.bool true,I (-1),I 0,I 0],.cells 27 [.bool false,I (-1),I 100,I 101],.cells 30 [I a.1.Lo,I a.1.Hi],.dead,.cells 25 [.rsl 3 (map Segment.c []),.rsl 1 (map (Qy 1 (Qd .i64)) [[0]])],.cells 30 [I a.1.Lo,I a.1.Hi],.dead,.dead,.cells 25 [.rsl 3 (map Segment.c []),.rsl 1 (map (Qy 1 (Qd .i64)) [[0]])],.cells 30 [I d.1.Lo,I d.1.Hi]],[.cells 27 [.bool true,I (-1),I 0,I 0],.cells 27 [.bool false,I (-1),I 100,I 101],.cells 30 [I a.1.Lo,I a.1.Hi],.dead,.cells 25 [.rsl 3 (map Segment.c []),.rsl 1 (map (Qy 1 (Qd .i64)) [[0]])],.cells 30 [I a.1.Lo,I a.1.Hi],.cells 30 [I 0,I 0],.dead,.cells 25 [.rsl 3 (map Segment.c []),.rsl 1 (map (Qy 1 (Qd .i64)) [[0]])]],[.cells 27 [.bool true,I (-1),I 0,I 0],.cells 27 [.bool false,I (-1),I 100,I 101],.cells 30 [I a.1.Lo,I a.1.Hi],.dead,.cells 25 [.rsl 3 (map Segment.c []),.rsl 1 (map (Qy 1 (Qd .i64)) [[0]])],.cells 30 [I a.1.Lo,I a.1.Hi],.cells 30 [I 0,I 0],.dead,.cells 25 [.rsl 3 (map Segment.c []),.rsl 1 (map (Qy 1 (Qd .i64)) [[0]])],.cells 30 [I d.1.Lo,I d.1.Hi]],[.cells 27 [.bool true,I (-1),I 0,I 0],.cells 27 [.bool false,I (-1),I 100,I 101],.cells 30 [I a.1.Lo,I a.1.Hi],.dead,.cells 25 [.rsl 3 (map Segment.c []),.rsl 1 (map (Qy 1 (Qd .i64)) [[0]])],.cells 30 [I a.1.Lo,I a.1.Hi],.cells 30 [I d.1.Lo,I d.1.Hi],.dead,.cells 25 [.rsl 3 (map Segment.c []),.rsl 1 (map (Qy 1 (Qd .i64)) [[0]])],.cells 30 [I d.1.Lo,I d.1.Hi]]] ([.cells 27 [.bool true,I (-1),I 0,I 0],.cells 27 [.bool false,I (-1),I 100,I 101],.cells 30 [I a.1.Lo,I a.1.Hi],.dead,.cells 25 [.rsl 3 (map Segment.c []),.rsl 1 (map (Qy 1 (Qd .i64)) [[0]])],.cells 30 [I a.1.Lo,I a.1.Hi],.cells 30 [I d.1.Lo,I d.1.Hi],.dead,.cells 25 [.rsl 3 (map Segment.c []),.rsl 1 (map (Qy 1 (Qd .i64)) [[0]])],.cells 30 [I d.1.Lo,I d.1.Hi]]) draws Z Z Z Z Z Z Z ?_ Z ?_
 .refine QeD.cons ?_ (QeD.cons (Qa (v0 Z Z) (Qa (v0 Z Z) (Qa (v0 Z Z) (Qa (v0 Z Z) (Qb))))) (QeD.cons ?_ (QeD.cons (Qa (v0 Z Z) (Qa (v0 Z Z) (Qb))) (QeD.cons (Qa (v0 Z Z) (Qa (v0 Z Z) (Qb))) (QeD.cons (Qa (v0 Z Z) (Qa (v0 Z Z) (Qa (v0 Z Z) (Qb)))) (QeD.cons ?_ (QeD.cons ?_ (QeD.nil))))))))
  .refine Qa ?_ (Qa ?_ (Qb))
   iterate 2 refine Om1 Z sN ?_;refine Qi [] (OpC.fn call15 Z Z Z) (k_f _ _ k) ?_;rintro _ _ ⟨rfl,rfl⟩;refine aV (.agg [.rsl 3 (map Segment.c []),.osl 7 0 ([[0]].length) 1]) [_,_,_,_,_,_,_,.row 77 1 (map (Qy 1 (Qd .i64)) [[0]]),.cells 25 [.rsl 3 (map Segment.c []),.osl 7 0 ([[0]].length) 1]] Z Z ?_;refine Qq (Yy [(55,_)] Z Z (Qip.cons Z (FzA.agg (Ed (Ee _) (Ed En (Ei _)))) Qip.nil) (Ec (Ec (Ec (Ec (Ec (Ec (Ec (Ec (FzH.cells (Ed (Ee _) (Ed En (Ei _))) (QX _))))))))))) ?_;refine Qq QbM ?_;exact Wp
  .refine Qa ?_ (Qa ?_ (Qb))
   iterate 2 refine Om1 Z (sD 0 (sD 1 sN)) ?_;refine Qi [] (OpC.fn call6 Z Z Z) (k_k _ _ _ _ l) ?_;rintro _ _ ⟨rfl,rfl⟩;refine aV (.tup [.agg [I d.1.Lo,I d.1.Hi],I d.2]) [_,_,_,_,_,_,_,_,_,.cells 30 [I d.1.Lo,I d.1.Hi]] Z Z ?_;exact Wp
  .refine Qa ?_ (Qa ?_ (Qa ?_ (Qb)))
   iterate 3 exact YQ.alloc _ 6 30 6 _ Z Z Z Z Z Z Z (OpZ.alloc (v:=(.agg [I 0,I 0])) EC (zrC Z)) Z
  .refine Qa ?_ (Qb)
   .refine Om2 Z (sD 6 (sD 4 sN)) ?_;refine vU (Ep Z Z Z Ew Z Z Z Z Z Z Z) ?_;refine Qdl (H:=[_,_,_,_,_,_,.cells 30 [I d.1.Lo,I d.1.Hi],_,_,_]) Z ?_;exact Wp
 refine Go 4 Z (Bd h λm f h=>Cg m [] [] (λm=>[(0,.bool m)]) Ze Zf ?_ ?_)
 .refine G0 0 Z (DKs 26 [12,18] [(0,0,0),(0,0,0),(0,0,0),(0,0,0),(0,0,0),(0,0,0),(0,0,0),(0,0,0),(0,0,0),(0,0,0),(0,0,0),(0,0,0),(1,0,0),(0,0,1),(0,1,1),(0,1,1),(0,1,1),(0,1,1),(1,1,0),(0,1,2),(0,2,2),(0,2,2),(0,2,2),(0,2,2),(0,2,2),(0,2,2)] (by kernel_rfl) (Dk 2 Z ?_));refine DK.wo (x:=.bool (({Lo:=a.1.Lo,Hi:=a.1.Hi:Span})==({Lo:=100,Hi:=101:Span}))) ?_ ?_
  .refine vX (.bool (({Lo:=a.1.Lo,Hi:=a.1.Hi:Span})==({Lo:=100,Hi:=101:Span}))) (Qbp (p:={Lo:=a.1.Lo,Hi:=a.1.Hi:Span}) (q:={Lo:=100,Hi:=101:Span}) QhX Z Z) ?_;exact Wp
  refine Dk 1 Z (Qb4 3 f Z Z Z (λT f=>?_) (λT f=>?_))
  .refine Dk 4 Z (Qb4 7 f Z Z Z (λV f=>?_) (λV f=>?_))
   .refine Dk 4 Z (Qb4 11 f Z Z Z (λW f=>?_) (λW f=>?_))
    .obtain⟨ar,X,f⟩:=Q3 f;refine DK.op (x:=.agg [.rsl 3 (map Segment.c []),.rsl 1 (map (Qy 1 (Qd .i64)) [[0]])]) (X1:=[.cells 27 [.bool true,I (-1),I 0,I 0],.cells 27 [.bool false,I (-1),I 100,I 101],.cells 30 [I a.1.Lo,I a.1.Hi],.dead,.cells 25 [.rsl 3 (map Segment.c []),.rsl 1 (map (Qy 1 (Qd .i64)) [[0]])],.cells 30 [I a.1.Lo,I a.1.Hi],.cells 30 [I d.1.Lo,I d.1.Hi],.dead,.cells 25 [.rsl 3 (map Segment.c []),.rsl 1 (map (Qy 1 (Qd .i64)) [[0]])],.cells 30 [I d.1.Lo,I d.1.Hi],.dead,.cells 25 [.rsl 3 (map Segment.c []),.rsl 1 (map (Qy 1 (Qd .i64)) [[0]])]]) ?_ ?_
     .refine Qi [] (OpC.fn call15 Z Z Z) (k_f _ _ X) ?_ (hg:=(gT Z));rintro _ _ ⟨rfl,rfl⟩;refine aV (.agg [.rsl 3 (map Segment.c []),.osl 10 0 ([[0]].length) 1]) [_,_,_,_,_,_,_,_,_,_,.row 77 1 (map (Qy 1 (Qd .i64)) [[0]]),.cells 25 [.rsl 3 (map Segment.c []),.osl 10 0 ([[0]].length) 1]] Z Z ?_;refine Qq (Yy [(72,_)] Z Z (Qip.cons Z (FzA.agg (Ed (Ee _) (Ed En (Ei _)))) Qip.nil) (Ec (Ec (Ec (Ec (Ec (Ec (Ec (Ec (Ec (Ec (Ec (FzH.cells (Ed (Ee _) (Ed En (Ei _))) (QX _)))))))))))))) ?_;refine Qq QbM ?_;exact Wp
     refine Dks (lo:=0) (hi:=1) (x:=.agg [.bool true,I (-1),I 0,I 0]) ⟨Z,Z,trivial⟩ ?_;obtain⟨af,Y,f⟩:=Q3 f;refine DK.wo (x:=I af) ?_ ?_
     .exact Pc [] Z (OpC.fn call8 Z Z Z) (k_g _ _ _ _ Y) (hg:=(gT Z)) Z Wp
     refine Dk 3 Z (Qb4 17 f Z Z Z (λaa f=>?_) (λaa f=>?_))
     .obtain⟨au,ab,f⟩:=Q3 f;refine DK.op (x:=.agg [.rsl 3 (map Segment.c []),.rsl 1 (map (Qy 1 (Qd .i64)) [[0]])]) (X1:=[.cells 27 [.bool true,I (-1),I 0,I 0],.cells 27 [.bool false,I (-1),I 100,I 101],.cells 30 [I a.1.Lo,I a.1.Hi],.dead,.cells 25 [.rsl 3 (map Segment.c []),.rsl 1 (map (Qy 1 (Qd .i64)) [[0]])],.cells 30 [I a.1.Lo,I a.1.Hi],.cells 30 [I d.1.Lo,I d.1.Hi],.dead,.cells 25 [.rsl 3 (map Segment.c []),.rsl 1 (map (Qy 1 (Qd .i64)) [[0]])],.cells 30 [I d.1.Lo,I d.1.Hi],.dead,.cells 25 [.rsl 3 (map Segment.c []),.rsl 1 (map (Qy 1 (Qd .i64)) [[0]])],.dead,.cells 25 [.rsl 3 (map Segment.c []),.rsl 1 (map (Qy 1 (Qd .i64)) [[0]])]]) ?_ ?_
      .refine Qi [] (OpC.fn call15 Z Z Z) (k_f _ _ ab) ?_ (hg:=(gT Z));rintro _ _ ⟨rfl,rfl⟩;refine aV (.agg [.rsl 3 (map Segment.c []),.osl 12 0 ([[0]].length) 1]) [_,_,_,_,_,_,_,_,_,_,_,_,.row 77 1 (map (Qy 1 (Qd .i64)) [[0]]),.cells 25 [.rsl 3 (map Segment.c []),.osl 12 0 ([[0]].length) 1]] Z Z ?_;refine Qq (Yy [(78,_)] Z Z (Qip.cons Z (FzA.agg (Ed (Ee _) (Ed En (Ei _)))) Qip.nil) (Ec (Ec (Ec (Ec (Ec (Ec (Ec (Ec (Ec (Ec (Ec (Ec (Ec (FzH.cells (Ed (Ee _) (Ed En (Ei _))) (QX _)))))))))))))))) ?_;refine Qq QbM ?_;exact Wp
      refine Dk 1 Z ?_;obtain⟨ag,ac,f⟩:=Q3 f;refine DK.wo (x:=I ag) ?_ ?_
      .exact Pc [] Z (OpC.fn call8 Z Z Z) (k_g _ _ _ _ ac) (hg:=(gT Z)) Z Wp
      refine Dk 3 Z (Qb4 23 f Z Z Z (λad f=>?_) (λad f=>?_))
      .refine Dk 2 Z (DK.done Z Z ?_);refine vH (QH (xs:=[.tmp 84,.tmp 85]) (es:=map Outcome.c lit_2) Yh Z Z Z Z Z ⟨Z,Z,trivial⟩ Z Z) ?_ (gT Z);refine aV (.rsl 4 (map Outcome.c lit_2)) [_,_,_,_,_,_,_,_,_,_,_,_,_,_] Z Z ?_;refine Cd [] f (k_ay _ _) Z λs ai f=>?_;refine aV (.osl 14 0 s.length 4) [_,_,_,_,_,_,_,_,_,_,_,_,_,_,.row 27 4 (map Outcome.c s),.cells 36 [.osl 14 0 s.length 4]] Z Z ?_;exact Gl 5 Z f []
      .exact Dk 2 Z (DK.done Z Z (Gl 7 Z f []))
     .exact Dk 8 Z (DK.done Z Z (Gl 7 Z f []))
    .exact Dk 14 Z (DK.done Z Z (Gl 7 Z f []))
   .exact Dk 18 Z (DK.done Z Z (Gl 7 Z f []))
  .exact Dk 22 Z (DK.done Z Z (Gl 7 Z f []))
 exact QP 1 Z h 0 []
def F_az(n:Nat)(a:Int):Option Bool:=((bif decide ((-1099511627776)<=a)then some (decide (a<=1099511627776))else some false):Option Bool).bind λd=>some d
theorem k_az(n:Nat)(e:Int):Ks (F_az n e) 37 [I e] [] (λr=>.bool r):=by
 refine Kg 6 func37 Z Z Z Z λr h=>Bd h λd a h=>Cg d [] [] (λd=>[(2,.bool d)]) Ze Zf ?_ ?_
 .refine G0 4 Z (Is 5 a Z (λf a=>?_) (λf a=>?_))
  iterate 2 exact Gl 5 Z a []
 exact QP 1 Z h 2 []
def F_ao(n:Nat)(a:Segment)(d:Segment):Option Bool:=((bif decide (a.Mat<d.Mat)then some true else(bif (a.Mat==d.Mat)then some (decide (a.Epoch<d.Epoch))else some false)):Option Bool).bind λe=>some e
theorem k_ao(n:Nat)(e:Segment)(f:Segment):Ks (F_ao n e f) 38 [.agg (Segment.c e),.agg (Segment.c f)] [] (λr=>.bool r):=by
 refine Kg 8 func38 Z Z Z Z λr h=>Bd h λd a h=>Cg d [] [] (λd=>[(4,.bool d)]) Ze Zf ?_ ?_
 .refine G0 7 Z (Is 10 a Z (λg a=>?_) (λg a=>?_))
  .exact Gl 15 Z a []
  .refine Go 6 Z (Is 16 a Z (λi a=>?_) (λi a=>?_))
   iterate 2 exact Gl 9 Z a []
 exact QP 1 Z h 4 []
def F_fi(n:Nat)(e:Clocks)(d:Int):Option (Ctl Int (Ctl Unit Int)):=(bif decide (d<(e.Segments.length:Int))then(idx e.Segments d).bind λa=>((bif decide (a.Mat<0)then some true else(bif decide (40<=a.Mat)then some true else(bif decide (a.Epoch<0)then some true else(bif decide (255<a.Epoch)then some true else(F_az n a.Anchor).bind λf=>(bif (!f)then some true else(bif decide (0<d)then(idx e.Segments (i64.wrap (d-1))).bind λg=>(F_ao n g a).bind λh=>some (!h)else some false)))))):Option Bool).bind λi=>(bif i then some (.done (.done 160))else some (.cont (i64.wrap (d+1))))else some (.done (.cont ())))
def F_ha(n:Nat)(e:Clocks)(d:Int)(a:Int):Option (Ctl Int (Ctl Unit (Ctl Int (Ctl Unit Int)))):=(bif decide (a<=(e.Segments.length:Int))then((idx e.Far d).bind λf=>(idx f a).bind λg=>(bif decide (g<(-2199023255552))then some true else(idx e.Far d).bind λh=>(idx h a).bind λi=>some (decide (2199023255552<i))):Option Bool).bind λj=>(bif j then some (.done (.done (.done (.done 160))))else some (.cont (i64.wrap (a+1))))else some (.done (.cont ())))
def F_ft(n:Nat)(e:Clocks)(a:Int):Option (Ctl Int (Ctl Unit Int)):=(bif decide (a<=(e.Segments.length:Int))then((idx e.Far a).bind λf=>(bif ((f.length:Int) != (i64.wrap ((e.Segments.length:Int)+1)))then some true else(idx e.Far a).bind λg=>(idx g a).bind λh=>some (h != 0)):Option Bool).bind λi=>(bif i then some (.done (.done 160))else(iter (F_ha n e a) n 0:Option (Ctl Unit (Ctl Int (Ctl Unit Int)))).bind λj=>match j with|.cont d=>(some (.cont (i64.wrap (a+1))))|.done d=>some d)else some (.done (.cont ())))
def F_gz(n:Nat)(f:Clocks)(d:Int)(e:Int)(a:Int):Option (Ctl Int (Ctl Unit (Ctl Int (Ctl Unit (Ctl Int (Ctl Unit Int)))))):=(bif decide (a<=(f.Segments.length:Int))then(idx f.Far d).bind λg=>(idx g a).bind λh=>(idx f.Far d).bind λi=>(idx i e).bind λj=>(idx f.Far e).bind λk=>(idx k a).bind λl=>(bif decide ((i64.wrap (j+l))<h)then some (.done (.done (.done (.done (.done (.done 160))))))else some (.cont (i64.wrap (a+1))))else some (.done (.cont ())))
def F_hb(n:Nat)(g:Clocks)(e:Int)(a:Int):Option (Ctl Int (Ctl Unit (Ctl Int (Ctl Unit Int)))):=(bif decide (a<=(g.Segments.length:Int))then(iter (F_gz n g e a) n 0:Option (Ctl Unit (Ctl Int (Ctl Unit (Ctl Int (Ctl Unit Int)))))).bind λf=>match f with|.cont d=>(some (.cont (i64.wrap (a+1))))|.done d=>some d else some (.done (.cont ())))
def F_cl(n:Nat)(f:Clocks)(a:Int):Option (Ctl Int (Ctl Unit Int)):=(bif decide (a<=(f.Segments.length:Int))then(iter (F_hb n f a) n 0:Option (Ctl Unit (Ctl Int (Ctl Unit Int)))).bind λe=>match e with|.cont d=>(some (.cont (i64.wrap (a+1))))|.done d=>some d else some (.done (.cont ())))
def F_am(n:Nat)(e:Clocks):Option Int:=((bif decide (511<(e.Segments.length:Int))then some true else some ((e.Far.length:Int) != (i64.wrap ((e.Segments.length:Int)+1)))):Option Bool).bind λj=>(bif j then some 160 else(iter (F_fi n e) n 0:Option (Ctl Unit Int)).bind λi=>match i with|.cont f=>((iter (F_ft n e) n 0:Option (Ctl Unit Int)).bind λg=>match g with|.cont a=>((iter (F_cl n e) n 0:Option (Ctl Unit Int)).bind λh=>match h with|.cont d=>(some 0)|.done d=>some d)|.done a=>some a)|.done f=>some f)
theorem k_am(n:Nat)(a1:Clocks):Ks (F_am n a1) 20 [.agg (Clocks.c a1)] [] (λr=>I r):=by
 refine Kg 10 func20 Z Z Z Z λr h=>Lg 5 Z Z (Bd h λb2 G h=>Ct b2 [0] [1,3] (λb2=>[(23,.bool b2)]) Ze Zf ?_ (λenv H j=>?_))
 .refine G0 4 Z (Is 16 G Z (λbv G=>?_) (λbv G=>?_))
  .exact Gl 8 Z G [0]
  .exact Go 2 Z (Lm Z (Gl 5 Z G [0]))
 refine Gx 1 Z (Qm j (Cn Z h (λbw h=>?_) (λbw h=>?_)))
 .exact QP 7 Z h 2 []
 refine Gc 8 Z (Bd h λbx bz h=>CtE (b:=bx) [0] [1,3] Ze Ze Zf ?_ (λcf env H s j=>?_))
 .refine G0 1 Z (Lp [0] [1,3] (λau=>[(4,I au)]) Ze bz Zf (Lr [0]) λau cu k J=>?_);refine G0 8 Z (Yn Z k (λav k=>?_) (λav k=>?_))
  .exact Gc 2 Z (Qp k (Gx 1 Z (cNo J k Z (Lr [0]))))
  refine Gc 9 Z (Bd k λcv aw k=>Iz aw Z (Go 6 Z (Bd k λL a k=>Ct L [0] [1,3,4] (λL=>[(72,.bool L)]) Ze Zf ?_ (λenv H j=>?_))))
  .refine G0 0 Z (DSs 35 Z (D 4 Z (Q7 3 a Z Z Z (λax a=>?_) (λax a=>?_))))
   .exact D 31 Z (Eg Z (Gl 5 Z a [0]))
   .refine D 5 Z (Q7 8 a Z Z Z (λay a=>?_) (λay a=>?_))
    .exact D 26 Z (Eg Z (Gl 5 Z a [0]))
    .refine D 5 Z (Q7 13 a Z Z Z (λaz a=>?_) (λaz a=>?_))
     .exact D 21 Z (Eg Z (Gl 5 Z a [0]))
     .refine D 5 Z (Q7 18 a Z Z Z (λba a=>?_) (λba a=>?_))
      .exact D 16 Z (Eg Z (Gl 5 Z a [0]))
      .refine D 2 Z ?_;refine Dz [] a (k_az _ _) Z λcw cg a=>D 3 Z (Q7 24 a Z Z Z (λbb a=>?_) (λbb a=>?_))
       .exact D 10 Z (Eg Z (Gl 5 Z a [0]))
       .refine D 3 Z (Q7 27 a Z Z Z (λbc a=>?_) (λbc a=>?_))
        .refine D 4 Z ?_;obtain⟨y,bd,a⟩:=Q3 a;refine DS.v (x:=(.rp [I y.Mat,I y.Epoch,I y.Anchor])) (Qb1 (e:=Segment.c) (l:=a1.Segments) (v:=y) bd runUnderlying22 sizeOf79) ?_ (hg:=(gT Z));exact D 2 Z (Eg Z (Cz [] a (k_ao _ _ _) Z λcx ch a=>Gl 4 Z a [0]))
        .exact D 7 Z (Eg Z (Gl 5 Z a [0]))
  refine Gx 1 Z (Qm j (Cn Z k (λbe k=>?_) (λbe k=>?_)))
  .refine Gc 8 Z (Qw k ?_);obtain rfl:=Oj J k;exact Gx 1 Z (Qu (Gx 1 Z (Rt h 2 [])))
  exact Gc 8 Z (Qo k (Lr [0]))
 subst s;refine Gx 1 Z (Qm j (Gc 6 Z (Bd h λbf bg h=>CtE (b:=bf) [0] [1,3] Ze Ze Zf ?_ (λca env H s j=>?_))))
 .refine G0 1 Z (Lp [0] [1,3] (λM=>[(6,I M)]) Ze bg Zf (Lr [0]) λM ci f t=>?_);refine G0 8 Z (Yn Z f (λR f=>?_) (λR f=>?_))
  .exact Gc 2 Z (Qp f (Gx 1 Z (cNo t f Z (Lr [0]))))
  refine Gc 6 Z (Bd f λu m f=>Ct u [0] [1,3,6] (λu=>[(97,.bool u)]) Ze Zf ?_ (λenv H j=>?_))
  .refine G0 4 Z (Bd m λcj T m=>Iz T Z (Go 1 Z (Lg 4 Z Z (Is 87 m Z (λV m=>?_) (λV m=>?_)))))
   .exact Gl 11 Z m [0]
   .exact Go 3 Z (Bd m λck W m=>Iz W Z (Go 2 Z (Bd m λcl X m=>Iz X Z (Gl 4 Z m [0]))))
  refine Gx 1 Z (Qm j (Cn Z f (λY f=>?_) (λY f=>?_)))
  .refine Gc 9 Z (Qw f ?_);obtain rfl:=Oj t f;exact Gx 1 Z (Qu (Gx 1 Z (Rt h 2 [])))
  refine Gc 7 Z (Bd f λbh bi f=>CtE (b:=bh) [0] [1,3,6] Ze Ze Zf ?_ (λcb env H s j=>?_))
  .refine G0 1 Z (Lp [0] [1,3,6] (λN=>[(7,I N)]) Ze bi Zf (Lr [0]) λN cm g z=>?_);refine G0 8 Z (Yn Z g (λaa g=>?_) (λaa g=>?_))
   .exact Gc 2 Z (Qp g (Gx 1 Z (cNo z g Z (Lr [0]))))
   refine Gc 5 Z (Bd g λw i g=>Ct w [0] [1,3,6,7] (λw=>[(122,.bool w)]) Ze Zf ?_ (λenv H j=>?_))
   .refine G0 4 Z (Bd i λcn ab i=>Iz ab Z (Go 2 Z (Bd i λco ac i=>Iz ac Z (Go 3 Z (Is 112 i Z (λad i=>?_) (λad i=>?_))))))
    .exact Gl 11 Z i [0]
    .exact Go 3 Z (Bd i λcp ae i=>Iz ae Z (Go 2 Z (Bd i λcq af i=>Iz af Z (Gl 4 Z i [0]))))
   refine Gx 1 Z (Qm j (Cn Z g (λag g=>?_) (λag g=>?_)))
   .refine Gc 8 Z (Qw g ?_);obtain rfl:=Oj z g;refine Gx 1 Z (Qu (Gx 2 Z (Qw f ?_)));obtain rfl:=Oj t f;exact Gx 1 Z (Qu (Gx 1 Z (Rt h 2 [])))
   exact Gc 8 Z (Qo g (Lr [0]))
  subst s;exact Gx 2 Z (Qm j (Gc 5 Z (Qo f (Lr [0]))))
 subst s;refine Gx 1 Z (Qm j (Gc 6 Z (Bd h λbj bk h=>CgE (b:=bj) [] [] Ze Ze Zf ?_ (λcc s=>?_))))
 .refine G0 1 Z (Lp [0] [1,3] (λO=>[(8,I O)]) Ze bk Zf (Lr [0]) λO cr p B=>?_);refine G0 8 Z (Yn Z p (λah p=>?_) (λah p=>?_))
  .exact Gc 2 Z (Qp p (Gx 1 Z (cNo B p Z (Lr []))))
  refine Gc 9 Z (Bd p λbl bm p=>CtE (b:=bl) [0] [1,3,8] Ze Ze Zf ?_ (λcd env H s j=>?_))
  .refine G0 1 Z (Lp [0] [1,3,8] (λP=>[(9,I P)]) Ze bm Zf (Lr [0]) λP cs q E=>?_);refine G0 8 Z (Yn Z q (λai q=>?_) (λai q=>?_))
   .exact Gc 2 Z (Qp q (Gx 1 Z (cNo E q Z (Lr [0]))))
   refine Gc 9 Z (Bd q λbn bo q=>CtE (b:=bn) [0] [1,3,8,9] Ze Ze Zf ?_ (λce env H s j=>?_))
   .refine G0 1 Z (Lp [0] [1,3,8,9] (λQ=>[(10,I Q)]) Ze bo Zf (Lr [0]) λQ ct d F=>?_);refine G0 8 Z (Yn Z d (λaj d=>?_) (λaj d=>?_))
    .exact Gc 2 Z (Qp d (Gx 1 Z (cNo F d Z (Lr [0]))))
    refine Gc 5 Z (DSs 25 Z (D 3 Z ?_));obtain⟨bp,ak,d⟩:=Q3 d;refine DS.wo (x:=.rp [.rsl 1 (map (Qd .i64) bp)]) ?_ ?_
    .exact Ix ak EA EH Z Wp
    refine D 2 Z ?_;obtain⟨bq,al,d⟩:=Q3 d;refine DS.wo (x:=.rp [I bq]) ?_ ?_
    .exact Ix al Et Eu Z Wp
    refine D 4 Z ?_;obtain⟨br,am,d⟩:=Q3 d;refine DS.wo (x:=.rp [.rsl 1 (map (Qd .i64) br)]) ?_ ?_
    .exact Ix am EA EH Z Wp
    refine D 2 Z ?_;obtain⟨bs,an,d⟩:=Q3 d;refine DS.wo (x:=.rp [I bs]) ?_ ?_
    .exact Ix an Et Eu Z Wp
    refine D 4 Z ?_;obtain⟨bt,ao,d⟩:=Q3 d;refine DS.wo (x:=.rp [.rsl 1 (map (Qd .i64) bt)]) ?_ ?_
    .exact Ix ao EA EH Z Wp
    refine D 2 Z ?_;obtain⟨bu,aq,d⟩:=Q3 d;refine DS.wo (x:=.rp [I bu]) ?_ ?_
    .exact Ix aq Et Eu Z Wp
    refine D 2 Z (Eg Z (Go 3 Z (Cn Z d (λar d=>?_) (λar d=>?_))))
    .refine Gc 8 Z (Qw d ?_);obtain rfl:=Oj F d;refine Gx 1 Z (Qu (Gx 2 Z (Qw q ?_)));obtain rfl:=Oj E q;refine Gx 1 Z (Qu (Gx 2 Z (Qw p ?_)));obtain rfl:=Oj B p;exact Gx 1 Z (Qu (Gx 1 Z (Rt h 2 [])))
    exact Gc 8 Z (Qo d (Lr [0]))
   subst s;exact Gx 2 Z (Qm j (Gc 5 Z (Qo q (Lr [0]))))
  subst s;exact Gx 2 Z (Qm j (Gc 5 Z (Qo p (Lr [0]))))
 subst s;exact QP 6 Z h 2 []
def F_n(n:Nat)(d:Clocks)(a:Outcome):Option Int:=(F_am n d).bind λe=>(bif (e != 0)then some e else((bif a.Out then(bif (a.Seg != (-1))then some true else(bif (a.Lo != 0)then some true else(bif (a.Hi != 0)then some true else(bif (!a.Out)then(bif decide (a.Seg<(-1))then some true else(bif decide ((d.Segments.length:Int)<=a.Seg)then some true else(bif decide (a.Lo<(-288230376151711744))then some true else(bif decide (a.Hi<a.Lo)then some true else some (decide (288230376151711744<a.Hi))))))else some false))))else(bif (!a.Out)then(bif decide (a.Seg<(-1))then some true else(bif decide ((d.Segments.length:Int)<=a.Seg)then some true else(bif decide (a.Lo<(-288230376151711744))then some true else(bif decide (a.Hi<a.Lo)then some true else some (decide (288230376151711744<a.Hi))))))else some false)):Option Bool).bind λf=>(bif f then some 230 else some 0))
theorem k_n(n:Nat)(y:Clocks)(z:Outcome):Ks (F_n n y z) 9 [.agg (Clocks.c y),.agg (Outcome.c z)] [] (λr=>I r):=by
 refine Kg 10 func9 Z Z Z Z λr h=>Cz [] h (k_am _ _) Z λF E h=>Go 10 Z (Cn Z h (λB h=>?_) (λB h=>?_))
 .exact QP 8 Z h 4 []
 refine Gc 4 Z (Bd h λd a h=>Cg d [] [] (λd=>[(62,.bool d)]) Ze Zf ?_ ?_)
 .refine G0 4 Z (Is 13 a Z (λe a=>?_) (λe a=>?_))
  .refine Go 4 Z (Is 17 a Z (λf a=>?_) (λf a=>?_))
   .exact Gl 46 Z a []
   .refine Go 5 Z (Is 22 a Z (λg a=>?_) (λg a=>?_))
    .exact Gl 41 Z a []
    .refine Go 6 Z (Is 28 a Z (λi a=>?_) (λi a=>?_))
     .exact Gl 35 Z a []
     .refine Go 4 Z (Is 32 a Z (λj a=>?_) (λj a=>?_))
      .refine Go 4 Z (Is 36 a Z (λk a=>?_) (λk a=>?_))
       .exact Gl 27 Z a []
       .refine Go 4 Z (Lg 3 Z Z (Is 44 a Z (λl a=>?_) (λl a=>?_)))
        .exact Gl 19 Z a []
        .refine Go 5 Z (Is 49 a Z (λm a=>?_) (λm a=>?_))
         .exact Gl 14 Z a []
         .refine Go 7 Z (Is 56 a Z (λp a=>?_) (λp a=>?_))
          iterate 2 exact Gl 7 Z a []
      .exact Gl 31 Z a []
  .refine Go 19 Z (Is 32 a Z (λq a=>?_) (λq a=>?_))
   .refine Go 4 Z (Is 36 a Z (λs a=>?_) (λs a=>?_))
    .exact Gl 27 Z a []
    .refine Go 4 Z (Lg 3 Z Z (Is 44 a Z (λt a=>?_) (λt a=>?_)))
     .exact Gl 19 Z a []
     .refine Go 5 Z (Is 49 a Z (λu a=>?_) (λu a=>?_))
      .exact Gl 14 Z a []
      .refine Go 7 Z (Is 56 a Z (λw a=>?_) (λw a=>?_))
       iterate 2 exact Gl 7 Z a []
   .exact Gl 31 Z a []
 refine Cn Z h (λx h=>?_) (λx h=>?_)
 .exact QP 7 Z h 4 []
 exact QP 8 Z h 4 []
def F_bi(n:Nat)(e:Clocks)(d:Int)(a:Span):Option Span:=(bif decide (d<0)then some ({Lo:=a.Lo,Hi:=a.Hi:Span})else(idx e.Far (i64.wrap (d+1))).bind λf=>(idx f 0).bind λg=>(idx e.Far 0).bind λh=>(idx h (i64.wrap (d+1))).bind λi=>some ({Lo:=i64.wrap (a.Lo-g),Hi:=i64.wrap (a.Hi+i):Span}))
theorem k_bi(n:Nat)(d:Clocks)(e:Int)(a:Span):Kq (F_bi n d e a) 17 [.agg (Clocks.c d),I e,.agg [I a.Lo,I a.Hi]] [] (λr=>.agg [I r.Lo,I r.Hi]) (λr=>[.cells 30 [I r.Lo,I r.Hi]]):=by
 refine Kg 14 func17 Z Z Z Z λr h=>Cn Z h (λf h=>?_) (λf h=>?_)
 .refine Gc 8 Z ?_;obtain rfl:=Oi h;exact Rx [2] [6] Z (Qs Z (Qe EB Ew Z Z Z)) ⟨Z,Z⟩
 refine Gc 3 Z (DSs 22 Z (D 6 Z ?_));obtain⟨l,g,h⟩:=Q3 h;refine DS.wo (x:=.rp [.rsl 1 (map (Qd .i64) l)]) ?_ ?_
 .exact Ix g EA EH Z Wp
 refine D 1 Z ?_;obtain⟨m,i,h⟩:=Q3 h;refine DS.wo (x:=.rp [I m]) ?_ ?_
 .exact Ix i Et Eu Z Wp
 refine D 6 Z ?_;obtain⟨p,j,h⟩:=Q3 h;refine DS.wo (x:=.rp [.rsl 1 (map (Qd .i64) p)]) ?_ ?_
 .exact Ix j EA EH Z Wp
 refine D 3 Z ?_;obtain⟨q,k,h⟩:=Q3 h;refine DS.wo (x:=.rp [I q]) ?_ ?_
 .exact Ix k Et Eu Z Wp
 refine D 2 Z (Eg Z (Go 5 Z ?_));obtain rfl:=Oi h;exact Rx [2] [6] Z (Qs Z (Qe EB Ew Z Z Z)) ⟨Z,Z⟩
def F_ar(n:Nat)(d:Clocks)(a:Outcome):Option (Span×Int):=(F_n n d a).bind λe=>(bif (e != 0)then some ({Lo:=0,Hi:=0:Span},e)else(bif a.Out then some ({Lo:=0,Hi:=0:Span},230)else(F_bi n d a.Seg ({Lo:=a.Lo,Hi:=a.Hi:Span})).bind λf=>some ({Lo:=f.Lo,Hi:=f.Hi:Span},0)))
theorem k_ar(n:Nat)(a:Clocks)(d:Outcome):Kq (F_ar n a d) 7 [.agg (Clocks.c a),.agg (Outcome.c d)] [] (λr=>.tup [.agg [I r.1.Lo,I r.1.Hi],I r.2]) (λr=>[.cells 30 [I r.1.Lo,I r.1.Hi]]):=by
 refine Kg 12 func7 Z Z Z Z λr h=>Cz [] h (k_n _ _ _) Z λj g h=>Go 10 Z (Cn Z h (λe h=>?_) (λe h=>?_))
 .refine Gc 10 Z ?_;obtain rfl:=Oi h;exact Rx [2] [4,5] Z (Qg Z Z (QfR.cons (Qe EB Ew Z Z Z) (QfR.cons QbZ.tmp QfR.nil))) ⟨Z,Z⟩
 refine Gc 9 Z (Cn Z h (λf h=>?_) (λf h=>?_))
 .refine Gc 9 Z ?_;obtain rfl:=Oi h;exact Rx [2] [4,5] Z (Qg Z Z (QfR.cons (Qe EB Ew Z Z Z) (QfR.cons QbZ.tmp QfR.nil))) ⟨Z,Z⟩
 refine Gc 12 Z (Cd [] h (k_bi _ _ _ _) Z λk i h=>Fg 5 Z Z ?_);obtain rfl:=Oi h;exact Rx [2] [4,5] Z (Qg Z Z (QfR.cons (Qe EB Ew Z Z Z) (QfR.cons QbZ.tmp QfR.nil))) ⟨Z,Z⟩
def F_bm(n:Nat)(a:Clocks)(d:Outcome):Option Bool:=(F_bf 300).bind λj=>(bif (!j)then some false else((bif decide (10<(a.Segments.length:Int))then some true else some (decide (20<(a.Far.length:Int)))):Option Bool).bind λk=>(bif k then some true else(F_k n a d).bind λe=>(F_ar n a d).bind λf=>((bif (({Lo:=e.1.Lo,Hi:=e.1.Hi:Span})==({Lo:=f.1.Lo,Hi:=f.1.Hi:Span}))then(bif (e.2==f.2)then(F_g n a d).bind λg=>(F_n n a d).bind λh=>some (g==h)else some false)else some false):Option Bool).bind λi=>some i))
theorem k_bm(n:Nat)(l:Clocks)(m:Outcome):Ks (F_bm n l m) 3 [.agg (Clocks.c l),.agg (Outcome.c m)] [] (λr=>.bool r):=by
 refine Kg 10 func3 Z Z Z Z λr h=>Cz [] h (k_bf _) Z λL B h=>Go 3 Z (Cn Z h (λs h=>?_) (λs h=>?_))
 .exact QP 7 Z h 4 []
 refine Gc 4 Z (Bd h λi d h=>Ct i [0,1] [2,3] (λi=>[(20,.bool i)]) Ze Zf ?_ (λenv H t=>?_))
 .refine G0 3 Z (Lg 2 Z Z (Is 15 d Z (λu d=>?_) (λu d=>?_)))
  .exact Gl 6 Z d [0,1]
  .exact Go 2 Z (Lm Z (Gl 3 Z d [0,1]))
 refine Gx 1 Z (Qm t (Cn Z h (λw h=>?_) (λw h=>?_)))
 .exact QP 7 Z h 4 []
 refine Gc 6 Z (Cd [] h (k_k _ _ _) Z λf E h=>Fg 12 Z Z (Cd [] h (k_ar _ _ _) Z λg F h=>Fg 9 Z Z (Bd h λe a h=>Cg e [] [] (λe=>[(4,.bool e)]) Ze Zf ?_ ?_)))
 .refine G0 0 Z (DSs 14 Z (D 2 Z ?_));refine DS.v (x:=(.bool (({Lo:=f.1.Lo,Hi:=f.1.Hi:Span})==({Lo:=g.1.Lo,Hi:=g.1.Hi:Span})))) (Qbp (p:={Lo:=f.1.Lo,Hi:=f.1.Hi:Span}) (q:={Lo:=g.1.Lo,Hi:=g.1.Hi:Span}) QhX Z Z) ?_;refine D 1 Z (Q7 3 a Z Z Z (λj a=>?_) (λj a=>?_))
  .refine D 5 Z (Q7 8 a Z Z Z (λk a=>?_) (λk a=>?_))
   .refine D 2 Z ?_;exact Dz [] a (k_g _ _ _) Z λG y a=>D 2 Z (Eg Z (Cz [] a (k_n _ _ _) Z λJ z a=>Gl 4 Z a []))
   .exact D 5 Z (Eg Z (Gl 5 Z a []))
  .exact D 10 Z (Eg Z (Gl 5 Z a []))
 exact QP 1 Z h 4 []
end Go.Sw
