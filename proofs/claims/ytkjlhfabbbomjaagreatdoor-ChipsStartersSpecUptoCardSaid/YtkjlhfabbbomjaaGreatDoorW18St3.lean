/- What the functions compute that ChipsStartersSpec reaches, and that their calls refine it (part 3 of 4). -/
import Derived.Test.YtkjlhfabbbomjaaGreatDoorW18St2
set_option linter.unusedVariables false
set_option linter.unusedSimpArgs false
set_option maxRecDepth 100000
set_option maxHeartbeats 4000000
namespace Go.Sw
open Go.Proofs Tryz
def F_ke(n:Nat)(b:Course)(a:(List (List UInt8))×Int):Option (Ctl ((List (List UInt8))×Int) (List (List UInt8))):=
  (bif decide (a.2<(b.Mats.length:Int))then(idx b.Mats a.2).bind fun c=>(app a.1 [c.Name]).bind fun d=>some (.cont (d,IntKind.i64.wrap (a.2+1)))else some (.done a.1))
def F_ko(n:Nat)(b:Course)(a:(List (List UInt8))×Int):Option (Ctl ((List (List UInt8))×Int) (List (List UInt8))):=
  (bif decide (a.2<(b.Distances.length:Int))then(idx b.Distances a.2).bind fun c=>(app a.1 [c.Name]).bind fun d=>some (.cont (d,IntKind.i64.wrap (a.2+1)))else some (.done a.1))
def F_kh(n:Nat)(b:Course)(a:(List (List UInt8))×Int):Option (Ctl ((List (List UInt8))×Int) (List (List UInt8))):=
  (bif decide (a.2<(b.Waves.length:Int))then(idx b.Waves a.2).bind fun c=>(app a.1 [c.Name]).bind fun d=>some (.cont (d,IntKind.i64.wrap (a.2+1)))else some (.done a.1))
def F_kc(n:Nat)(b:Course)(a:(List (List UInt8))×Int):Option (Ctl ((List (List UInt8))×Int) (List (List UInt8))):=
  (bif decide (a.2<(b.Offences.length:Int))then(idx b.Offences a.2).bind fun c=>(app a.1 [c.Name]).bind fun d=>some (.cont (d,IntKind.i64.wrap (a.2+1)))else some (.done a.1))
def F_kd(n:Nat)(b:Course)(a:(List (List UInt8))×Int):Option (Ctl ((List (List UInt8))×Int) (List (List UInt8))):=
  (bif decide (a.2<(b.Categories.length:Int))then(idx b.Categories a.2).bind fun c=>(app a.1 [c.Name]).bind fun d=>some (.cont (d,IntKind.i64.wrap (a.2+1)))else some (.done a.1))
def F_cy(n:Nat)(a:Course):Option Bool:=
  (iter (F_ke n a) n (([]:List (List UInt8)),0):Option (List (List UInt8))).bind fun m=>(iter (F_ko n a) n (([]:List (List UInt8)),0):Option (List (List UInt8))).bind fun e=>(iter (F_kh n a) n (([]:List (List UInt8)),0):Option (List (List UInt8))).bind fun f=>(iter (F_kc n a) n (([]:List (List UInt8)),0):Option (List (List UInt8))).bind fun g=>(iter (F_kd n a) n (([]:List (List UInt8)),0):Option (List (List UInt8))).bind fun h=>((F_bk n a.Name).bind fun i=>(bif i then(F_x n m).bind fun j=>(bif j then(F_x n e).bind fun k=>(bif k then(F_x n f).bind fun b=>(bif b then(F_x n g).bind fun c=>(bif c then(F_x n h).bind fun d=>some d else some false)else some false)else some false)else some false)else some false):Option Bool).bind fun l=>some l
theorem k_cy(n:Nat)(a1:Course)(r:Bool)(h:F_cy n a1=some r):
    Csm prog 45 [.agg (Course.c a1)] [] (fun r=>.bool r) r:=by
 refine Qb func45 Z Z Z ?_
 refine G0 8 Z ?_
 refine vH (OpH.lit (xs:=[]) (es:=List.map Jo []) Ji Z Z Z Z Z trivial Z Z) ?_
 refine FE Z (Go 9 Z (Bd h fun y h9 h=>?_))
 refine Ct y [0,1] [1] (fun y=>[(3,.osl 1 0 y.length 1)]) (fun y=>[(1,.row 9 1 (List.map Jo y))]) (fun _=>rfl) ?_ (fun env H b=>?_)
 ·refine G0 1 Z ?_
  refine Lp [0,1] [1] (fun l=>[(3,.osl 1 0 l.1.length 1),(4,I l.2)]) (fun l=>[(1,.row 9 1 (List.map Jo l.1))]) h9 (fun _=>rfl) (Lr [0,1]) fun l bd d F=>?_
  refine G0 6 Z (Lm Z (Go 3 Z (Ys Z d (fun G d=>?_) (fun G d=>?_))))
  ·refine Gc 2 Z (Qm d ?_)
   obtain rfl:=Oj F d
   exact Gx 1 Z (QA (Lr [0,1]))
  refine Gc 9 Z (Bd d fun ai J d=>Iz J Z (Go 2 Z ?_))
  refine vH (OpH.lit (xs:=[.tmp 27]) (es:=List.map Jo [ai.Name]) Ji Z Z Z Z Z ⟨Z,trivial⟩ Z Z) ?_
  refine FE Z (Bd d fun be L d=>?_)
  refine vH (Ql (e:=Jo) L Ji runUnderlying150 (QT (i:=2))) ?_
  exact FE Z (Go 9 Z (Qj d (Lr [0,3])))
 refine Gx 1 Z (TC.le b (Gc 2 Z ?_))
 refine vH (OpH.lit (xs:=[]) (es:=List.map Jo []) Ji Z Z Z Z Z trivial Z Z) ?_
 refine FE Z (Go 9 Z (Bd h fun m aj h=>?_))
 refine Ct m [0,1,2] [1,3] (fun m=>[(5,.osl 2 0 m.length 1)]) (fun m=>[(2,.row 9 1 (List.map Jo m))]) (fun _=>rfl) ?_ (fun env H b=>?_)
 ·refine G0 1 Z ?_
  refine Lp [0,1,2] [1,3] (fun p=>[(5,.osl 2 0 p.1.length 1),(6,I p.2)]) (fun p=>[(2,.row 9 1 (List.map Jo p.1))]) aj (fun _=>rfl) (Lr [0,1,2]) fun p bf f M=>?_
  refine G0 6 Z (Lm Z (Go 3 Z (Ys Z f (fun N f=>?_) (fun N f=>?_))))
  ·refine Gc 2 Z (Qm f ?_)
   obtain rfl:=Oj M f
   exact Gx 1 Z (QA (Lr [0,1,2]))
  refine Gc 9 Z (Bd f fun ak O f=>Iz O Z (Go 2 Z ?_))
  refine vH (OpH.lit (xs:=[.tmp 44]) (es:=List.map Jo [ak.Name]) Ji Z Z Z Z Z ⟨Z,trivial⟩ Z Z) ?_
  refine FE Z (Bd f fun bg P f=>?_)
  refine vH (Ql (e:=Jo) P Ji runUnderlying150 (QT (i:=3))) ?_
  exact FE Z (Go 9 Z (Qj f (Lr [0,1,4])))
 refine Gx 1 Z (TC.le b (Gc 2 Z ?_))
 refine vH (OpH.lit (xs:=[]) (es:=List.map Jo []) Ji Z Z Z Z Z trivial Z Z) ?_
 refine FE Z (Go 9 Z (Bd h fun q al h=>?_))
 refine Ct q [0,1,2,3] [1,3,5] (fun q=>[(7,.osl 3 0 q.length 1)]) (fun q=>[(3,.row 9 1 (List.map Jo q))]) (fun _=>rfl) ?_ (fun env H b=>?_)
 ·refine G0 1 Z ?_
  refine Lp [0,1,2,3] [1,3,5] (fun s=>[(7,.osl 3 0 s.1.length 1),(8,I s.2)]) (fun s=>[(3,.row 9 1 (List.map Jo s.1))]) al (fun _=>rfl) (Lr [0,1,2,3]) fun s bh g Q=>?_
  refine G0 6 Z (Lm Z (Go 3 Z (Ys Z g (fun R g=>?_) (fun R g=>?_))))
  ·refine Gc 2 Z (Qm g ?_)
   obtain rfl:=Oj Q g
   exact Gx 1 Z (QA (Lr [0,1,2,3]))
  refine Gc 9 Z (Bd g fun am T g=>Iz T Z (Go 2 Z ?_))
  refine vH (OpH.lit (xs:=[.tmp 61]) (es:=List.map Jo [am.Name]) Ji Z Z Z Z Z ⟨Z,trivial⟩ Z Z) ?_
  refine FE Z (Bd g fun bi V g=>?_)
  refine vH (Ql (e:=Jo) V Ji runUnderlying150 (QT (i:=4))) ?_
  exact FE Z (Go 9 Z (Qj g (Lr [0,1,2,5])))
 refine Gx 1 Z (TC.le b (Gc 2 Z ?_))
 refine vH (OpH.lit (xs:=[]) (es:=List.map Jo []) Ji Z Z Z Z Z trivial Z Z) ?_
 refine FE Z (Go 9 Z (Bd h fun t an h=>?_))
 refine Ct t [0,1,2,3,4] [1,3,5,7] (fun t=>[(9,.osl 4 0 t.length 1)]) (fun t=>[(4,.row 9 1 (List.map Jo t))]) (fun _=>rfl) ?_ (fun env H b=>?_)
 ·refine G0 1 Z ?_
  refine Lp [0,1,2,3,4] [1,3,5,7] (fun u=>[(9,.osl 4 0 u.1.length 1),(10,I u.2)]) (fun u=>[(4,.row 9 1 (List.map Jo u.1))]) an (fun _=>rfl) (Lr [0,1,2,3,4]) fun u bj j W=>?_
  refine G0 6 Z (Lm Z (Go 3 Z (Ys Z j (fun X j=>?_) (fun X j=>?_))))
  ·refine Gc 2 Z (Qm j ?_)
   obtain rfl:=Oj W j
   exact Gx 1 Z (QA (Lr [0,1,2,3,4]))
  refine Gc 9 Z (Bd j fun ao Y j=>Iz Y Z (Go 2 Z ?_))
  refine vH (OpH.lit (xs:=[.tmp 78]) (es:=List.map Jo [ao.Name]) Ji Z Z Z Z Z ⟨Z,trivial⟩ Z Z) ?_
  refine FE Z (Bd j fun bk aa j=>?_)
  refine vH (Ql (e:=Jo) aa Ji runUnderlying150 (QT (i:=5))) ?_
  exact FE Z (Go 9 Z (Qj j (Lr [0,1,2,3,6])))
 refine Gx 1 Z (TC.le b (Gc 2 Z ?_))
 refine vH (OpH.lit (xs:=[]) (es:=List.map Jo []) Ji Z Z Z Z Z trivial Z Z) ?_
 refine FE Z (Go 9 Z (Bd h fun w aq h=>?_))
 refine Ct w [0,1,2,3,4,5] [1,3,5,7,9] (fun w=>[(11,.osl 5 0 w.length 1)]) (fun w=>[(5,.row 9 1 (List.map Jo w))]) (fun _=>rfl) ?_ (fun env H b=>?_)
 ·refine G0 1 Z ?_
  refine Lp [0,1,2,3,4,5] [1,3,5,7,9] (fun x=>[(11,.osl 5 0 x.1.length 1),(12,I x.2)]) (fun x=>[(5,.row 9 1 (List.map Jo x.1))]) aq (fun _=>rfl) (Lr [0,1,2,3,4,5]) fun x bl k ab=>?_
  refine G0 6 Z (Lm Z (Go 3 Z (Ys Z k (fun ac k=>?_) (fun ac k=>?_))))
  ·refine Gc 2 Z (Qm k ?_)
   obtain rfl:=Oj ab k
   exact Gx 1 Z (QA (Lr [0,1,2,3,4,5]))
  refine Gc 9 Z (Bd k fun ar ad k=>Iz ad Z (Go 2 Z ?_))
  refine vH (OpH.lit (xs:=[.tmp 95]) (es:=List.map Jo [ar.Name]) Ji Z Z Z Z Z ⟨Z,trivial⟩ Z Z) ?_
  refine FE Z (Bd k fun bm ae k=>?_)
  refine vH (Ql (e:=Jo) ae Ji runUnderlying150 (QT (i:=6))) ?_
  exact FE Z (Go 9 Z (Qj k (Lr [0,1,2,3,4,7])))
 refine Gx 1 Z (TC.le b (Gc 1 Z (Bd h fun z a h=>?_)))
 refine Ct z [] [] (fun z=>[(2,.bool z)]) (fun _=>[]) (fun _=>rfl) ?_ (fun env H b=>?_)
 ·refine G0 3 Z (Cz [] a (k_bk _ _) Z fun bn ax a=>Go 1 Z (Is 101 a Z (fun af a=>?_) (fun af a=>?_)))
  ·refine Go 1 Z (Cb a (k_x _ _) Z (lo ln) fun bo ay a=>Go 2 Z (Is 105 a Z (fun ag a=>?_) (fun ag a=>?_)))
   ·refine Go 1 Z (Cb a (k_x _ _) Z (lo ln) fun bp az a=>Go 2 Z (Is 109 a Z (fun ah a=>?_) (fun ah a=>?_)))
    ·refine Go 1 Z (Cb a (k_x _ _) Z (lo ln) fun ba au a=>Go 2 Z (Is 113 a Z (fun B a=>?_) (fun B a=>?_)))
     ·refine Go 1 Z (Cb a (k_x _ _) Z (lo ln) fun bb av a=>Go 2 Z (Is 117 a Z (fun E a=>?_) (fun E a=>?_)))
      ·exact Go 1 Z (Cb a (k_x _ _) Z (lo ln) fun bc aw a=>Go 3 Z (Cl a []))
      ·exact Go 5 Z (Cl a [])
     ·exact Go 9 Z (Cl a [])
    ·exact Go 13 Z (Cl a [])
   ·exact Go 17 Z (Cl a [])
  ·exact Go 21 Z (Cl a [])
 exact Gx 1 Z (TC.le b (Gc 1 Z (Rt h 2 [])))
def F_c(n:Nat)(a:Int)(b:Int)(c:Int):Option Bool:=
  ((bif decide (b<=a)then some (decide (a<=c))else some false):Option Bool).bind fun b2=>some b2
theorem k_c(n:Nat)(b:Int)(c:Int)(d:Int)(r:Bool)(h:F_c n b c d=some r):
    Csm prog 74 [I b,I c,I d] [] (fun r=>.bool r) r:=by
 refine Qb func74 Z Z Z ?_
 refine G0 6 Z (Bd h fun b2 a h=>?_)
 refine Ct b2 [] [] (fun b2=>[(6,.bool b2)]) (fun _=>[]) (fun _=>rfl) ?_ (fun env H e=>?_)
 ·refine G0 5 Z (Is 10 a Z (fun f a=>?_) (fun f a=>?_))
  ·exact Go 6 Z (Cl a [])
  ·exact Go 6 Z (Cl a [])
 exact Gx 1 Z (TC.le e (Gc 1 Z (Rt h 6 [])))
def F_n(n:Nat)(a:Course)(b:Int):Option Bool:=
  (F_c n b 0 (IntKind.i64.wrap ((a.Mats.length:Int)-1))).bind fun c=>some c
theorem k_n(n:Nat)(a:Course)(b:Int)(r:Bool)(h:F_n n a b=some r):
    Csm prog 75 [.agg (Course.c a),I b] [] (fun r=>.bool r) r:=by
 refine Qb func75 Z Z Z ?_
 exact G0 11 Z (Lm Z (Go 1 Z (Cz [] h (k_c _ _ _ _) Z fun e d h=>Go 4 Z (Rt h 4 []))))
def F_ij(n:Nat)(c:Course)(d:List Part)(rec194:Course->(List Part)->Option Bool)(b:Int):Option (Ctl Int (Ctl Unit Bool)):=
  (bif decide (b<(d.length:Int))then(idx d b).bind fun a=>((bif (a.Laps==0)then(F_n n c a.Mat).bind fun e=>(bif e then some ((a.Parts.length:Int)==0)else some false)else some false):Option Bool).bind fun f=>((F_c n a.Laps 1 64).bind fun g=>(bif g then(bif (a.Mat==0)then(bif decide (0<(a.Parts.length:Int))then(rec194 c a.Parts).bind fun h=>some h else some false)else some false)else some false):Option Bool).bind fun i=>((bif (!f)then some (!i)else some false):Option Bool).bind fun j=>(bif j then some (.done (.done false))else some (.cont (IntKind.i64.wrap (b+1))))else some (.done (.cont ())))
def B_q(rec194:Course->(List Part)->Option Bool)(n:Nat)(c:Course)(d:List Part):Option Bool:=
  (iter (F_ij n c d rec194) n 0:Option (Ctl Unit Bool)).bind fun b=>match b with|.cont a=>(some true)|.done a=>some a
theorem QaJ(rec194:Course->(List Part)->Option Bool)(i:∀(j:Course) (k:List Part) (r:Bool),rec194 j k=some r->Csm prog 140 [.agg (Course.c j),.rsl 3 (List.map Part.enc k)] [] (fun r=>.bool r) r)(n:Nat)(j:Course)(k:List Part)(r:Bool)(h:B_q rec194 n j k=some r):
    Csm prog 140 [.agg (Course.c j),.rsl 3 (List.map Part.enc k)] [] (fun r=>.bool r) r:=by
 refine Qb func140 Z Z Z ?_
 refine G0 12 Z (Bd h fun G J h=>?_)
 refine CtE (b:=G) [] [] (fun _=>[]) (fun _=>[]) (fun _=>rfl) ?_ (fun N env H L f=>?_)
 ·refine G0 1 Z ?_
  refine Lp [0] [1,2] (fun s=>[(5,I s)]) (fun _=>[]) J (fun _=>rfl) (Lr [0]) fun s R a l=>?_
  refine G0 5 Z (Lm Z (Go 3 Z (Ys Z a (fun t a=>?_) (fun t a=>?_))))
  ·refine Gc 2 Z (Qm a ?_)
   obtain rfl:=Oj l a
   exact Gx 1 Z (Qp Z (Lr []))
  refine Gc 8 Z (Bd a fun M u a=>IzE u (Q0 M) Z (Go 6 Z (Bd a fun m e a=>?_)))
  refine Ct m [0,1] [1,2,5,6] (fun m=>[(7,.bool m)]) (fun _=>[]) (fun _=>rfl) ?_ (fun env H f=>?_)
  ·refine G0 5 Z (Is 22 e Z (fun w e=>?_) (fun w e=>?_))
   ·refine Go 3 Z (Cz [] e (k_n _ _ _) Z fun T O e=>Go 2 Z (Is 28 e Z (fun x e=>?_) (fun x e=>?_)))
    ·exact Go 2 Z (Lm Z (Go 4 Z (Cl e [0,1])))
    ·exact Go 7 Z (Cl e [0,1])
   ·exact Go 13 Z (Cl e [0,1])
  refine Gx 1 Z (TC.le f (Gc 1 Z (Bd a fun p d a=>?_)))
  refine Ct p [0] [1,2,5,7] (fun p=>[(8,.bool p)]) (fun _=>[]) (fun _=>rfl) ?_ (fun env H f=>?_)
  ·refine G0 3 Z (Cz [] d (k_c _ _ _ _) Z fun V P d=>Go 1 Z (Is 37 d Z (fun y d=>?_) (fun y d=>?_)))
   ·refine Go 5 Z (Is 42 d Z (fun z d=>?_) (fun z d=>?_))
    ·refine Go 2 Z (Lm Z (Go 3 Z (Is 48 d Z (fun B d=>?_) (fun B d=>?_))))
     ·exact Go 3 Z (Cz [] d (i _ _) Z fun W Q d=>Go 3 Z (Cl d [0]))
     ·exact Go 7 Z (Cl d [0])
    ·exact Go 13 Z (Cl d [0])
   ·exact Go 18 Z (Cl d [0])
  refine Gx 1 Z (TC.le f (Gc 1 Z (Bd a fun q g a=>?_)))
  refine Ct q [0] [1,2,5] (fun q=>[(59,.bool q)]) (fun _=>[]) (fun _=>rfl) ?_ (fun env H f=>?_)
  ·refine G0 4 Z (Is 56 g Z (fun E g=>?_) (fun E g=>?_))
   ·exact Go 4 Z (Cl g [0])
   ·exact Go 4 Z (Cl g [0])
  refine Gx 1 Z (TC.le f (Cn Z a (fun F a=>?_) (fun F a=>?_)))
  ·refine Gc 8 Z (Qx a ?_)
   obtain rfl:=Oj l a
   exact Gx 1 Z (Qq (Gx 1 Z (Rt h 4 [])))
  exact Gc 8 Z (Qj a (Lr [0]))
 subst L
 exact Gx 1 Z (TC.le f (Gc 6 Z (Rt h 4 [])))
def F_q:Nat->Course->(List Part)->Option Bool
  |0=>fun _ _=>none
  |n+1=>B_q (F_q n) n
theorem k_q(n:Nat):∀(a:Course) (b:List Part) (r:Bool),F_q n a b=some r->Csm prog 140 [.agg (Course.c a),.rsl 3 (List.map Part.enc b)] [] (fun r=>.bool r) r:=by
  induction n with
  |zero=>intro a b r h;cases h
  |succ n ih=>intro a b r h;exact QaJ _ ih n a b r h
def F_iz(n:Nat)(g:Course)(c:Distance)(a:Int):Option (Ctl Int (Ctl Unit Bool)):=
  (bif decide (a<(c.Cutoffs.length:Int))then(idx c.Cutoffs a).bind fun b=>((F_n n g b.Mat).bind fun d=>(bif (!d)then some true else(bif decide (b.Lap<1)then some true else(F_c n b.Limit 0 1099511627776).bind fun e=>some (!e))):Option Bool).bind fun f=>(bif f then some (.done (.done false))else some (.cont (IntKind.i64.wrap (a+1))))else some (.done (.cont ())))
def F_cw(n:Nat)(c:Course)(a:Distance):Option Bool:=
  (iter (F_iz n c a) n 0:Option (Ctl Unit Bool)).bind fun d=>match d with|.cont b=>(((F_c n a.Timing 1 3).bind fun e=>(bif e then(F_q n c a.Route).bind fun f=>(bif f then(bif (a.Extra==(-1))then some true else(F_n n c a.Extra).bind fun g=>some g)else some false)else some false):Option Bool).bind fun h=>some h)|.done b=>some b
theorem k_cw(n:Nat)(x:Course)(y:Distance)(r:Bool)(h:F_cw n x y=some r):
    Csm prog 76 [.agg (Course.c x),.agg (Distance.c y)] [] (fun r=>.bool r) r:=by
 refine Qb func76 Z Z Z ?_
 refine G0 13 Z (Bd h fun z B h=>?_)
 refine CtE (b:=z) [0,1] [2,3] (fun _=>[]) (fun _=>[]) (fun _=>rfl) ?_ (fun F env H E f=>?_)
 ·refine G0 1 Z ?_
  refine Lp [0,1] [2,3] (fun k=>[(5,I k)]) (fun _=>[]) B (fun _=>rfl) (Lr [0,1]) fun k O d g=>?_
  refine G0 6 Z (Lm Z (Go 3 Z (Ys Z d (fun l d=>?_) (fun l d=>?_))))
  ·refine Gc 2 Z (Qm d ?_)
   obtain rfl:=Oj g d
   exact Gx 1 Z (Qp Z (Lr [0,1]))
  refine Gc 9 Z (Bd d fun P m d=>Iz m Z (Go 6 Z (Bd d fun i e d=>?_)))
  refine Ct i [0,1] [2,3,5] (fun i=>[(34,.bool i)]) (fun _=>[]) (fun _=>rfl) ?_ (fun env H f=>?_)
  ·refine G0 4 Z (Cz [] e (k_n _ _ _) Z fun Q G e=>Go 2 Z (Is 24 e Z (fun p e=>?_) (fun p e=>?_)))
   ·exact Go 11 Z (Cl e [0,1])
   ·refine Go 5 Z (Is 29 e Z (fun q e=>?_) (fun q e=>?_))
    ·exact Go 6 Z (Cl e [0,1])
    ·exact Go 2 Z (Cz [] e (k_c _ _ _ _) Z fun R J e=>Go 3 Z (Cl e [0,1]))
  refine Gx 1 Z (TC.le f (Cn Z d (fun s d=>?_) (fun s d=>?_)))
  ·refine Gc 8 Z (Qx d ?_)
   obtain rfl:=Oj g d
   exact Gx 1 Z (Qq (Gx 1 Z (Rt h 4 [])))
  exact Gc 8 Z (Qj d (Lr [0,1]))
 subst E
 refine Gx 1 Z (TC.le f (Gc 1 Z (Bd h fun j a h=>?_)))
 refine Ct j [] [] (fun j=>[(4,.bool j)]) (fun _=>[]) (fun _=>rfl) ?_ (fun env H f=>?_)
 ·refine G0 3 Z (Cz [] a (k_c _ _ _ _) Z fun T L a=>Go 1 Z (Is 38 a Z (fun t a=>?_) (fun t a=>?_)))
  ·refine Go 3 Z (Cz [] a (k_q _ _ _) Z fun V M a=>Go 2 Z (Is 44 a Z (fun u a=>?_) (fun u a=>?_)))
   ·refine Go 4 Z (Is 48 a Z (fun w a=>?_) (fun w a=>?_))
    ·exact Go 8 Z (Cl a [])
    ·exact Go 3 Z (Cz [] a (k_n _ _ _) Z fun W N a=>Go 4 Z (Cl a []))
   ·exact Go 12 Z (Cl a [])
  ·exact Go 18 Z (Cl a [])
 exact Gx 1 Z (TC.le f (Gc 1 Z (Rt h 4 [])))
def F_jd(n:Nat)(b:Course)(a:Int):Option (Ctl Int (Ctl Unit Bool)):=
  (bif decide (a<(b.Mats.length:Int))then(idx b.Mats a).bind fun c=>(F_c n c.Kind 1 3).bind fun d=>(bif (!d)then some (.done (.done false))else some (.cont (IntKind.i64.wrap (a+1))))else some (.done (.cont ())))
def F_fe(n:Nat)(g:Course)(c:Int)(b:Leg)(a:Int):Option (Ctl Int (Ctl Unit (Ctl Int (Ctl Unit Bool)))):=
  (bif decide (a<c)then((idx g.Legs a).bind fun d=>(bif (d.From==b.From)then(idx g.Legs a).bind fun e=>some (e.To==b.To)else some false):Option Bool).bind fun f=>(bif f then some (.done (.done (.done (.done false))))else some (.cont (IntKind.i64.wrap (a+1))))else some (.done (.cont ())))
def F_es(n:Nat)(d:Course)(b:Int):Option (Ctl Int (Ctl Unit Bool)):=
  (bif decide (b<(d.Legs.length:Int))then(idx d.Legs b).bind fun a=>((F_n n d a.From).bind fun e=>(bif (!e)then some true else(F_n n d a.To).bind fun f=>(bif (!f)then some true else(bif decide (a.Min<0)then some true else(bif decide (a.Max<a.Min)then some true else some (decide (68719476736<a.Max)))))):Option Bool).bind fun g=>(bif g then some (.done (.done false))else(iter (F_fe n d b a) n 0:Option (Ctl Unit (Ctl Int (Ctl Unit Bool)))).bind fun h=>match h with|.cont c=>(some (.cont (IntKind.i64.wrap (b+1))))|.done c=>some c)else some (.done (.cont ())))
def F_ih(n:Nat)(b:Course)(a:Int):Option (Ctl Int (Ctl Unit Bool)):=
  (bif decide (a<(b.Distances.length:Int))then(idx b.Distances a).bind fun c=>(F_cw n b c).bind fun d=>(bif (!d)then some (.done (.done false))else some (.cont (IntKind.i64.wrap (a+1))))else some (.done (.cont ())))
def F_ir(n:Nat)(d:Course)(a:Int):Option (Ctl Int (Ctl Unit Bool)):=
  (bif decide (a<(d.Waves.length:Int))then(idx d.Waves a).bind fun b=>(F_c n b.Gun 0 1099511627776).bind fun c=>(bif (!c)then some (.done (.done false))else some (.cont (IntKind.i64.wrap (a+1))))else some (.done (.cont ())))
def F_im(n:Nat)(i:Course)(b:Int):Option (Ctl Int (Ctl Unit Bool)):=
  (bif decide (b<(i.Offences.length:Int))then(idx i.Offences b).bind fun a=>((F_c n a.Time 0 68719476736).bind fun c=>(bif c then(bif (a.Laps==0)then some (!a.Out)else some false)else some false):Option Bool).bind fun d=>((bif (a.Time==0)then(F_c n a.Laps 1 64).bind fun e=>(bif e then some (!a.Out)else some false)else some false):Option Bool).bind fun f=>((bif (a.Time==0)then(bif (a.Laps==0)then some a.Out else some false)else some false):Option Bool).bind fun g=>((bif (!d)then(bif (!f)then some (!g)else some false)else some false):Option Bool).bind fun h=>(bif h then some (.done (.done false))else some (.cont (IntKind.i64.wrap (b+1))))else some (.done (.cont ())))
def F_io(n:Nat)(d:Course)(b:Int):Option (Ctl Int (Ctl Unit Bool)):=
  (bif decide (b<(d.Categories.length:Int))then(idx d.Categories b).bind fun a=>((bif decide (a.From<0)then some true else(bif decide (a.To<a.From)then some true else some (decide (120<a.To)))):Option Bool).bind fun c=>(bif c then some (.done (.done false))else some (.cont (IntKind.i64.wrap (b+1))))else some (.done (.cont ())))
def F_fn(n:Nat)(f:Course)(d:Int)(a:Prize)(b:Int):Option (Ctl Int (Ctl Unit (Ctl Int (Ctl Unit Bool)))):=
  (bif decide (b<d)then(idx f.Prizes b).bind fun c=>((bif (c.Distance==a.Distance)then(bif (c.Category==a.Category)then some (c.Rank==a.Rank)else some false)else some false):Option Bool).bind fun e=>(bif e then some (.done (.done (.done (.done false))))else some (.cont (IntKind.i64.wrap (b+1))))else some (.done (.cont ())))
def F_ch(n:Nat)(d:Course)(b:Int):Option (Ctl Int (Ctl Unit Bool)):=
  (bif decide (b<(d.Prizes.length:Int))then(idx d.Prizes b).bind fun a=>((F_c n a.Distance 0 (IntKind.i64.wrap ((d.Distances.length:Int)-1))).bind fun e=>(bif (!e)then some true else(F_c n a.Category (-1) (IntKind.i64.wrap ((d.Categories.length:Int)-1))).bind fun f=>(bif (!f)then some true else(F_c n a.Rank 1 4000).bind fun g=>(bif (!g)then some true else(F_c n a.Amount 1 1125899906842624).bind fun h=>some (!h)))):Option Bool).bind fun i=>(bif i then some (.done (.done false))else(iter (F_fn n d b a) n 0:Option (Ctl Unit (Ctl Int (Ctl Unit Bool)))).bind fun j=>match j with|.cont c=>(some (.cont (IntKind.i64.wrap (b+1))))|.done c=>some c)else some (.done (.cont ())))
def F_cf(n:Nat)(a:Course):Option Bool:=
  (iter (F_jd n a) n 0:Option (Ctl Unit Bool)).bind fun y=>match y with|.cont g=>((iter (F_es n a) n 0:Option (Ctl Unit Bool)).bind fun z=>match z with|.cont h=>((iter (F_ih n a) n 0:Option (Ctl Unit Bool)).bind fun i=>match i with|.cont b=>((iter (F_ir n a) n 0:Option (Ctl Unit Bool)).bind fun j=>match j with|.cont c=>((iter (F_im n a) n 0:Option (Ctl Unit Bool)).bind fun k=>match k with|.cont d=>((iter (F_io n a) n 0:Option (Ctl Unit Bool)).bind fun l=>match l with|.cont e=>((iter (F_ch n a) n 0:Option (Ctl Unit Bool)).bind fun m=>match m with|.cont f=>(((F_c n a.Faults.Misses 0 16).bind fun p=>(bif p then(F_c n a.Faults.Strays 0 16).bind fun q=>(bif q then(F_c n a.Faults.Window 0 4294967296).bind fun r=>(bif r then(F_c n a.Faults.Residual 0 4294967296).bind fun s=>(bif s then(F_c n a.Faults.Drift 0 100000).bind fun t=>(bif t then(F_c n a.Fee 0 1125899906842624).bind fun u=>(bif u then(F_c n a.Deadline 0 1099511627776).bind fun w=>some w else some false)else some false)else some false)else some false)else some false)else some false):Option Bool).bind fun x=>some x)|.done f=>some f)|.done e=>some e)|.done d=>some d)|.done c=>some c)|.done b=>some b)|.done h=>some h)|.done g=>some g
theorem k_cf(n:Nat)(a1:Course)(r:Bool)(h:F_cf n a1=some r):
    Csm prog 46 [.agg (Course.c a1)] [] (fun r=>.bool r) r:=by
 refine Qb func46 Z Z Z ?_
 refine G0 12 Z (Bd h fun dp dq h=>?_)
 refine CtE (b:=dp) [0] [1] (fun _=>[]) (fun _=>[]) (fun _=>rfl) ?_ (fun er env H u d=>?_)
 ·refine G0 1 Z ?_
  refine Lp [0] [1] (fun cv=>[(3,I cv)]) (fun _=>[]) dq (fun _=>rfl) (Lr [0]) fun cv gg w aj=>?_
  refine G0 6 Z (Lm Z (Go 3 Z (Ys Z w (fun cw w=>?_) (fun cw w=>?_))))
  ·refine Gc 2 Z (Qm w ?_)
   obtain rfl:=Oj aj w
   exact Gx 1 Z (Qp Z (Lr [0]))
  refine Gc 9 Z (Bd w fun gh cx w=>Iz cx Z (Go 2 Z (Cz [] w (k_c _ _ _ _) Z fun gi es w=>Go 3 Z (Cn Z w (fun cy w=>?_) (fun cy w=>?_)))))
  ·refine Gc 8 Z (Qx w ?_)
   obtain rfl:=Oj aj w
   exact Gx 1 Z (Qq (Gx 1 Z (Rt h 2 [])))
  exact Gc 8 Z (Qj w (Lr [0]))
 subst u
 refine Gx 1 Z (TC.le d (Gc 6 Z (Bd h fun dr cz h=>?_)))
 refine CtE (b:=dr) [0] [1] (fun _=>[]) (fun _=>[]) (fun _=>rfl) ?_ (fun et env H u d=>?_)
 ·refine G0 1 Z ?_
  refine Lp [0] [1] (fun ak=>[(4,I ak)]) (fun _=>[]) cz (fun _=>rfl) (Lr [0]) fun ak eu j N=>?_
  refine G0 6 Z (Lm Z (Go 3 Z (Ys Z j (fun av j=>?_) (fun av j=>?_))))
  ·refine Gc 2 Z (Qm j ?_)
   obtain rfl:=Oj N j
   exact Gx 1 Z (Qp Z (Lr [0]))
  refine Gc 9 Z (Bd j fun ew aw j=>Iz aw Z (Go 7 Z (Bd j fun Q f j=>?_)))
  refine Ct Q [0,1] [1,4,5] (fun Q=>[(76,.bool Q)]) (fun _=>[]) (fun _=>rfl) ?_ (fun env H d=>?_)
  ·refine G0 4 Z (Cz [] f (k_n _ _ _) Z fun ey ds f=>Go 2 Z (Is 53 f Z (fun ax f=>?_) (fun ax f=>?_)))
   ·exact Go 24 Z (Cl f [0,1])
   ·refine Go 3 Z (Cz [] f (k_n _ _ _) Z fun ez dt f=>Go 3 Z (Is 60 f Z (fun ay f=>?_) (fun ay f=>?_)))
    ·exact Go 17 Z (Cl f [0,1])
    ·refine Go 5 Z (Is 65 f Z (fun az f=>?_) (fun az f=>?_))
     ·exact Go 12 Z (Cl f [0,1])
     ·refine Go 7 Z (Is 72 f Z (fun ba f=>?_) (fun ba f=>?_))
      ·exact Go 5 Z (Cl f [0,1])
      ·exact Go 5 Z (Cl f [0,1])
  refine Gx 1 Z (TC.le d (Cn Z j (fun bb j=>?_) (fun bb j=>?_)))
  ·refine Gc 9 Z (Qx j ?_)
   obtain rfl:=Oj N j
   exact Gx 1 Z (Qq (Gx 1 Z (Rt h 2 [])))
  refine Gc 7 Z (Bd j fun da db j=>?_)
  refine CtE (b:=da) [0] [1,4] (fun _=>[]) (fun _=>[]) (fun _=>rfl) ?_ (fun du env H u d=>?_)
  ·refine G0 1 Z ?_
   refine Lp [0,1] [1,4,5] (fun al=>[(6,I al)]) (fun _=>[]) db (fun _=>rfl) (Lr [0,1]) fun al fa t ad=>?_
   refine G0 8 Z (Ys Z t (fun bc t=>?_) (fun bc t=>?_))
   ·refine Gc 2 Z (Qm t ?_)
    obtain rfl:=Oj ad t
    exact Gx 1 Z (Qp Z (Lr [0]))
   refine Gc 5 Z (Bd t fun R B t=>?_)
   refine Ct R [0,1] [1,4,5,6] (fun R=>[(101,.bool R)]) (fun _=>[]) (fun _=>rfl) ?_ (fun env H d=>?_)
   ·refine G0 0 Z (DSs 18 Z (D 3 Z ?_))
    obtain⟨O,bd,B⟩:=Y3 B
    refine DS.wo (x:=.rp [I O.From,I O.To,I O.Min,I O.Max]) ?_ ?_
    ·exact Ix bd runUnderlying23 sizeOf123 Z Wp
    refine D 6 Z (Qdg 9 B Z Z Z (fun be B=>?_) (fun be B=>?_))
    ·refine D 3 Z ?_
     obtain⟨L,bf,B⟩:=Y3 B
     refine DS.v (x:=(.rp [I L.From,I L.To,I L.Min,I L.Max])) (Qdb (e:=Leg.c) (l:=a1.Legs) (v:=L) bf runUnderlying23 sizeOf123) ?_ (hg:=(gT Z))
     exact D 4 Z (DS.done Z (Go 3 Z (Cl B [0,1])))
    ·exact D 8 Z (DS.done Z (Go 3 Z (Cl B [0,1])))
   refine Gx 1 Z (TC.le d (Cn Z t (fun bg t=>?_) (fun bg t=>?_)))
   ·refine Gc 8 Z (Qx t ?_)
    obtain rfl:=Oj ad t
    refine Gx 1 Z (Qq (Gx 2 Z (Qx j ?_)))
    obtain rfl:=Oj N j
    exact Gx 1 Z (Qq (Gx 1 Z (Rt h 2 [])))
   exact Gc 8 Z (Qj t (Lr [0,1]))
  subst u
  exact Gx 2 Z (TC.le d (Gc 5 Z (Qj j (Lr [0]))))
 subst u
 refine Gx 1 Z (TC.le d (Gc 6 Z (Bd h fun dc dd h=>?_)))
 refine CtE (b:=dc) [0] [1] (fun _=>[]) (fun _=>[]) (fun _=>rfl) ?_ (fun dv env H u d=>?_)
 ·refine G0 1 Z ?_
  refine Lp [0] [1] (fun am=>[(7,I am)]) (fun _=>[]) dd (fun _=>rfl) (Lr [0]) fun am fc m ae=>?_
  refine G0 6 Z (Lm Z (Go 3 Z (Ys Z m (fun bh m=>?_) (fun bh m=>?_))))
  ·refine Gc 2 Z (Qm m ?_)
   obtain rfl:=Oj ae m
   exact Gx 1 Z (Qp Z (Lr [0]))
  refine Gc 5 Z (DSs 6 Z (D 4 Z ?_))
  obtain⟨M,bi,m⟩:=Y3 m
  refine DS.wo (x:=.rp [.str M.Name,.rsl 3 (List.map Part.enc M.Route),I M.Timing,.rsl 3 (List.map Cutoff.c M.Cutoffs),I M.Extra]) ?_ ?_
  ·exact Ix bi runUnderlying24 sizeOf94 Z Wp
  refine D 1 Z (DS.done Z (Cz [] m (k_cw _ _ _) Z fun fd dw m=>Go 3 Z (Cn Z m (fun bj m=>?_) (fun bj m=>?_))))
  ·refine Gc 8 Z (Qx m ?_)
   obtain rfl:=Oj ae m
   exact Gx 1 Z (Qq (Gx 1 Z (Rt h 2 [])))
  exact Gc 8 Z (Qj m (Lr [0]))
 subst u
 refine Gx 1 Z (TC.le d (Gc 6 Z (Bd h fun de df h=>?_)))
 refine CtE (b:=de) [0] [1] (fun _=>[]) (fun _=>[]) (fun _=>rfl) ?_ (fun dx env H u d=>?_)
 ·refine G0 1 Z ?_
  refine Lp [0] [1] (fun an=>[(8,I an)]) (fun _=>[]) df (fun _=>rfl) (Lr [0]) fun an fe p af=>?_
  refine G0 6 Z (Lm Z (Go 3 Z (Ys Z p (fun bk p=>?_) (fun bk p=>?_))))
  ·refine Gc 2 Z (Qm p ?_)
   obtain rfl:=Oj af p
   exact Gx 1 Z (Qp Z (Lr [0]))
  refine Gc 9 Z (Bd p fun fg bl p=>Iz bl Z (Go 2 Z (Cz [] p (k_c _ _ _ _) Z fun fh dy p=>Go 3 Z (Cn Z p (fun bm p=>?_) (fun bm p=>?_)))))
  ·refine Gc 8 Z (Qx p ?_)
   obtain rfl:=Oj af p
   exact Gx 1 Z (Qq (Gx 1 Z (Rt h 2 [])))
  exact Gc 8 Z (Qj p (Lr [0]))
 subst u
 refine Gx 1 Z (TC.le d (Gc 6 Z (Bd h fun dg dh h=>?_)))
 refine CtE (b:=dg) [0] [1] (fun _=>[]) (fun _=>[]) (fun _=>rfl) ?_ (fun dz env H u d=>?_)
 ·refine G0 1 Z ?_
  refine Lp [0] [1] (fun ao=>[(9,I ao)]) (fun _=>[]) dh (fun _=>rfl) (Lr [0]) fun ao fi g ag=>?_
  refine G0 6 Z (Lm Z (Go 3 Z (Ys Z g (fun bn g=>?_) (fun bn g=>?_))))
  ·refine Gc 2 Z (Qm g ?_)
   obtain rfl:=Oj ag g
   exact Gx 1 Z (Qp Z (Lr [0]))
  refine Gc 9 Z (Bd g fun fj bo g=>Iz bo Z (Go 6 Z (Bd g fun T y g=>?_)))
  refine Ct T [0,1] [1,9,10] (fun T=>[(11,.bool T)]) (fun _=>[]) (fun _=>rfl) ?_ (fun env H d=>?_)
  ·refine G0 3 Z (Cz [] y (k_c _ _ _ _) Z fun fk ea y=>Go 1 Z (Is 147 y Z (fun bp y=>?_) (fun bp y=>?_)))
   ·refine Go 5 Z (Is 152 y Z (fun bq y=>?_) (fun bq y=>?_))
    ·exact Go 6 Z (Cl y [0,1])
    ·exact Go 6 Z (Cl y [0,1])
   ·exact Go 11 Z (Cl y [0,1])
  refine Gx 1 Z (TC.le d (Gc 1 Z (Bd g fun V z g=>?_)))
  refine Ct V [0,1] [1,9,10,11] (fun V=>[(12,.bool V)]) (fun _=>[]) (fun _=>rfl) ?_ (fun env H d=>?_)
  ·refine G0 5 Z (Is 160 z Z (fun br z=>?_) (fun br z=>?_))
   ·refine Go 2 Z (Cz [] z (k_c _ _ _ _) Z fun fm eb z=>Go 2 Z (Is 165 z Z (fun bs z=>?_) (fun bs z=>?_)))
    ·exact Go 6 Z (Cl z [0,1])
    ·exact Go 6 Z (Cl z [0,1])
   ·exact Go 11 Z (Cl z [0,1])
  refine Gx 1 Z (TC.le d (Gc 1 Z (Bd g fun W E g=>?_)))
  refine Ct W [0] [1,9,11,12] (fun W=>[(13,.bool W)]) (fun _=>[]) (fun _=>rfl) ?_ (fun env H d=>?_)
  ·refine G0 5 Z (Is 173 E Z (fun bt E=>?_) (fun bt E=>?_))
   ·refine Go 5 Z (Is 178 E Z (fun bu E=>?_) (fun bu E=>?_))
    ·exact Go 5 Z (Cl E [0])
    ·exact Go 5 Z (Cl E [0])
   ·exact Go 10 Z (Cl E [0])
  refine Gx 1 Z (TC.le d (Gc 1 Z (Bd g fun X F g=>?_)))
  refine Ct X [0] [1,9] (fun X=>[(191,.bool X)]) (fun _=>[]) (fun _=>rfl) ?_ (fun env H d=>?_)
  ·refine G0 4 Z (Is 184 F Z (fun bv F=>?_) (fun bv F=>?_))
   ·refine Go 4 Z (Is 188 F Z (fun bw F=>?_) (fun bw F=>?_))
    ·exact Go 4 Z (Cl F [0])
    ·exact Go 4 Z (Cl F [0])
   ·exact Go 8 Z (Cl F [0])
  refine Gx 1 Z (TC.le d (Cn Z g (fun bx g=>?_) (fun bx g=>?_)))
  ·refine Gc 8 Z (Qx g ?_)
   obtain rfl:=Oj ag g
   exact Gx 1 Z (Qq (Gx 1 Z (Rt h 2 [])))
  exact Gc 8 Z (Qj g (Lr [0]))
 subst u
 refine Gx 1 Z (TC.le d (Gc 6 Z (Bd h fun di dj h=>?_)))
 refine CtE (b:=di) [0] [1] (fun _=>[]) (fun _=>[]) (fun _=>rfl) ?_ (fun ec env H u d=>?_)
 ·refine G0 1 Z ?_
  refine Lp [0] [1] (fun aq=>[(14,I aq)]) (fun _=>[]) dj (fun _=>rfl) (Lr [0]) fun aq fo q ah=>?_
  refine G0 6 Z (Lm Z (Go 3 Z (Ys Z q (fun bz q=>?_) (fun bz q=>?_))))
  ·refine Gc 2 Z (Qm q ?_)
   obtain rfl:=Oj ah q
   exact Gx 1 Z (Qp Z (Lr [0]))
  refine Gc 9 Z (Bd q fun fp ca q=>Iz ca Z (Go 6 Z (Bd q fun Y G q=>?_)))
  refine Ct Y [0] [1,14] (fun Y=>[(218,.bool Y)]) (fun _=>[]) (fun _=>rfl) ?_ (fun env H d=>?_)
  ·refine G0 5 Z (Is 207 G Z (fun cb G=>?_) (fun cb G=>?_))
   ·exact Go 12 Z (Cl G [0])
   ·refine Go 7 Z (Is 214 G Z (fun cc G=>?_) (fun cc G=>?_))
    ·exact Go 5 Z (Cl G [0])
    ·exact Go 5 Z (Cl G [0])
  refine Gx 1 Z (TC.le d (Cn Z q (fun cd q=>?_) (fun cd q=>?_)))
  ·refine Gc 8 Z (Qx q ?_)
   obtain rfl:=Oj ah q
   exact Gx 1 Z (Qq (Gx 1 Z (Rt h 2 [])))
  exact Gc 8 Z (Qj q (Lr [0]))
 subst u
 refine Gx 1 Z (TC.le d (Gc 6 Z (Bd h fun dk dl h=>?_)))
 refine CtE (b:=dk) [0] [1] (fun _=>[]) (fun _=>[]) (fun _=>rfl) ?_ (fun ed env H u d=>?_)
 ·refine G0 1 Z ?_
  refine Lp [0] [1] (fun ar=>[(16,I ar)]) (fun _=>[]) dl (fun _=>rfl) (Lr [0]) fun ar fq k P=>?_
  refine G0 6 Z (Lm Z (Go 3 Z (Ys Z k (fun ce k=>?_) (fun ce k=>?_))))
  ·refine Gc 2 Z (Qm k ?_)
   obtain rfl:=Oj P k
   exact Gx 1 Z (Qp Z (Lr [0]))
  refine Gc 9 Z (Bd k fun fr cf k=>Iz cf Z (Go 7 Z (Bd k fun aa i k=>?_)))
  refine Ct aa [0,1] [1,16,17] (fun aa=>[(260,.bool aa)]) (fun _=>[]) (fun _=>rfl) ?_ (fun env H d=>?_)
  ·refine G0 5 Z (Lm Z (Go 1 Z (Cz [] i (k_c _ _ _ _) Z fun fs ee i=>Go 2 Z (Is 239 i Z (fun cg i=>?_) (fun cg i=>?_)))))
   ·exact Go 22 Z (Cl i [0,1])
   ·refine Go 4 Z (Lm Z (Go 1 Z (Cz [] i (k_c _ _ _ _) Z fun ft ef i=>Go 3 Z (Is 249 i Z (fun ch i=>?_) (fun ch i=>?_)))))
    ·exact Go 12 Z (Cl i [0,1])
    ·refine Go 2 Z (Cz [] i (k_c _ _ _ _) Z fun fu eg i=>Go 3 Z (Is 255 i Z (fun ci i=>?_) (fun ci i=>?_)))
     ·exact Go 6 Z (Cl i [0,1])
     ·exact Go 2 Z (Cz [] i (k_c _ _ _ _) Z fun fv eh i=>Go 3 Z (Cl i [0,1]))
  refine Gx 1 Z (TC.le d (Cn Z k (fun cj k=>?_) (fun cj k=>?_)))
  ·refine Gc 9 Z (Qx k ?_)
   obtain rfl:=Oj P k
   exact Gx 1 Z (Qq (Gx 1 Z (Rt h 2 [])))
  refine Gc 7 Z (Bd k fun dm dn k=>?_)
  refine CtE (b:=dm) [0] [1,16] (fun _=>[]) (fun _=>[]) (fun _=>rfl) ?_ (fun ei env H u d=>?_)
  ·refine G0 1 Z ?_
   refine Lp [0,1] [1,16,17] (fun au=>[(18,I au)]) (fun _=>[]) dn (fun _=>rfl) (Lr [0,1]) fun au fw s ai=>?_
   refine G0 8 Z (Ys Z s (fun ck s=>?_) (fun ck s=>?_))
   ·refine Gc 2 Z (Qm s ?_)
    obtain rfl:=Oj ai s
    exact Gx 1 Z (Qp Z (Lr [0]))
   refine Gc 9 Z (Bd s fun fx cl s=>Iz cl Z (Go 6 Z (Bd s fun ab J s=>?_)))
   refine Ct ab [0,1] [1,16,17,18] (fun ab=>[(289,.bool ab)]) (fun _=>[]) (fun _=>rfl) ?_ (fun env H d=>?_)
   ·refine G0 7 Z (Is 276 J Z (fun cm J=>?_) (fun cm J=>?_))
    ·refine Go 7 Z (Is 283 J Z (fun cn J=>?_) (fun cn J=>?_))
     ·exact Go 7 Z (Cl J [0,1])
     ·exact Go 7 Z (Cl J [0,1])
    ·exact Go 14 Z (Cl J [0,1])
   refine Gx 1 Z (TC.le d (Cn Z s (fun co s=>?_) (fun co s=>?_)))
   ·refine Gc 8 Z (Qx s ?_)
    obtain rfl:=Oj ai s
    refine Gx 1 Z (Qq (Gx 2 Z (Qx k ?_)))
    obtain rfl:=Oj P k
    exact Gx 1 Z (Qq (Gx 1 Z (Rt h 2 [])))
   exact Gc 8 Z (Qj s (Lr [0,1]))
  subst u
  exact Gx 2 Z (TC.le d (Gc 5 Z (Qj k (Lr [0]))))
 subst u
 refine Gx 1 Z (TC.le d (Gc 9 Z (Bd h fun ac a h=>?_)))
 refine Ct ac [] [] (fun ac=>[(2,.bool ac)]) (fun _=>[]) (fun _=>rfl) ?_ (fun env H d=>?_)
 ·refine G0 3 Z (Cz [] a (k_c _ _ _ _) Z fun fy ej a=>Go 1 Z (Is 295 a Z (fun cp a=>?_) (fun cp a=>?_)))
  ·refine Go 2 Z (Cz [] a (k_c _ _ _ _) Z fun ga ek a=>Go 2 Z (Is 300 a Z (fun cq a=>?_) (fun cq a=>?_)))
   ·refine Go 2 Z (Cz [] a (k_c _ _ _ _) Z fun gb el a=>Go 2 Z (Is 305 a Z (fun cr a=>?_) (fun cr a=>?_)))
    ·refine Go 2 Z (Cz [] a (k_c _ _ _ _) Z fun gc em a=>Go 2 Z (Is 310 a Z (fun cs a=>?_) (fun cs a=>?_)))
     ·refine Go 2 Z (Cz [] a (k_c _ _ _ _) Z fun gd en a=>Go 2 Z (Is 315 a Z (fun ct a=>?_) (fun ct a=>?_)))
      ·refine Go 2 Z (Cz [] a (k_c _ _ _ _) Z fun ge eo a=>Go 2 Z (Is 320 a Z (fun cu a=>?_) (fun cu a=>?_)))
       ·exact Go 2 Z (Cz [] a (k_c _ _ _ _) Z fun gf ep a=>Go 3 Z (Cl a []))
       ·exact Go 6 Z (Cl a [])
      ·exact Go 11 Z (Cl a [])
     ·exact Go 16 Z (Cl a [])
    ·exact Go 21 Z (Cl a [])
   ·exact Go 26 Z (Cl a [])
  ·exact Go 31 Z (Cl a [])
 exact Gx 1 Z (TC.le d (Gc 1 Z (Rt h 2 [])))
def F_bb(n:Nat)(a:Cond):Option Bool:=
  ((bif (a.Kind==0)then(bif (a.Var==0)then(bif (a.N==0)then some ((a.Parts.length:Int)==0)else some false)else some false)else some false):Option Bool).bind fun b=>some b
theorem k_bb(n:Nat)(d:Cond)(r:Bool)(h:F_bb n d=some r):
    Csm prog 141 [.agg (Cond.c d)] [] (fun r=>.bool r) r:=by
 refine Qb func141 Z Z Z ?_
 refine G0 7 Z (Bd h fun b a h=>?_)
 refine Ct b [] [] (fun b=>[(2,.bool b)]) (fun _=>[]) (fun _=>rfl) ?_ (fun env H e=>?_)
 ·refine G0 5 Z (Is 6 a Z (fun f a=>?_) (fun f a=>?_))
  ·refine Go 5 Z (Is 11 a Z (fun g a=>?_) (fun g a=>?_))
   ·refine Go 5 Z (Is 16 a Z (fun i a=>?_) (fun i a=>?_))
    ·exact Go 2 Z (Lm Z (Go 4 Z (Cl a [])))
    ·exact Go 7 Z (Cl a [])
   ·exact Go 12 Z (Cl a [])
  ·exact Go 17 Z (Cl a [])
 exact Gx 1 Z (TC.le e (Gc 1 Z (Rt h 2 [])))
def F_ha(n:Nat)(b:Cond)(f:Int)(rec198:Cond->Int->Option Int)(a:Int×Int):Option (Ctl (Int×Int) Int):=
  ((bif decide (a.2<(b.Parts.length:Int))then some (decide (a.1<=256))else some false):Option Bool).bind fun c=>(bif c then(idx b.Parts a.2).bind fun d=>(rec198 d (IntKind.i64.wrap (f+1))).bind fun e=>some (.cont (IntKind.i64.wrap (a.1+e),IntKind.i64.wrap (a.2+1)))else some (.done a.1))
def B_l(rec198:Cond->Int->Option Int)(n:Nat)(c:Cond)(a:Int):Option Int:=
  (bif decide (16<a)then some 1000 else(iter (F_ha n c a rec198) n (1,0):Option Int).bind fun b=>some b)
theorem Qaj(rec198:Cond->Int->Option Int)(d:∀(e:Cond) (f:Int) (r:Int),rec198 e f=some r->Csm prog 142 [.agg (Cond.c e),I f] [] (fun r=>I r) r)(n:Nat)(e:Cond)(f:Int)(r:Int)(h:B_l rec198 n e f=some r):
    Csm prog 142 [.agg (Cond.c e),I f] [] (fun r=>I r) r:=by
 refine Qb func142 Z Z Z ?_
 refine G0 13 Z (Cn Z h (fun s h=>?_) (fun s h=>?_))
 ·exact Gc 7 Z (Rt h 4 [])
 refine Gc 13 Z (Bd h fun g t h=>?_)
 refine Ct g [] [] (fun g=>[(5,I g)]) (fun _=>[]) (fun _=>rfl) ?_ (fun env H i=>?_)
 ·refine G0 1 Z ?_
  refine Lp [0] [1,2] (fun j=>[(5,I j.1),(6,I j.2)]) (fun _=>[]) t (fun _=>rfl) (Lr [0]) fun j x a l=>?_
  refine G0 2 Z (Bd a fun k b a=>?_)
  refine Ct k [0] [1,2,5,6] (fun k=>[(17,.bool k)]) (fun _=>[]) (fun _=>rfl) ?_ (fun env H i=>?_)
  ·refine G0 4 Z (Lm Z (Go 2 Z (Is 14 b Z (fun m b=>?_) (fun m b=>?_))))
   ·exact Go 4 Z (Cl b [0])
   ·exact Go 4 Z (Cl b [0])
  refine Gx 1 Z (TC.le i (Ys Z a (fun p a=>?_) (fun p a=>?_)))
  ·refine Gc 2 Z (Qm a ?_)
   obtain rfl:=Oj l a
   exact Gx 1 Z (QA (Lr []))
  exact Gc 9 Z (Bd a fun u q a=>IzE q (Y2 u) Z (Go 3 Z (Cz [] a (d _ _) Z fun y w a=>Go 10 Z (Qj a (Lr [0])))))
 exact Gx 1 Z (TC.le i (Gc 7 Z (Rt h 4 [])))
def F_l:Nat->Cond->Int->Option Int
  |0=>fun _ _=>none
  |n+1=>B_l (F_l n) n
theorem k_l(n:Nat):∀(a:Cond) (b:Int) (r:Int),F_l n a b=some r->Csm prog 142 [.agg (Cond.c a),I b] [] (fun r=>I r) r:=by
  induction n with
  |zero=>intro a b r h;cases h
  |succ n ih=>intro a b r h;exact Qaj _ ih n a b r h
def F_gx(n:Nat)(b:List Step)(e:Int)(rec196:(List Step)->Int->Option (Int×Int))(a:Int×Int×Int):Option (Ctl (Int×Int×Int) (Int×Int)):=
  ((bif decide (a.2.2<(b.length:Int))then(bif decide (a.1<=64)then some (decide (a.2.1<=256))else some false)else some false):Option Bool).bind fun f=>(bif f then(idx b a.2.2).bind fun g=>(rec196 g.Then (IntKind.i64.wrap (e+1))).bind fun c=>(idx b a.2.2).bind fun h=>(rec196 h.Else (IntKind.i64.wrap (e+1))).bind fun d=>(idx b a.2.2).bind fun i=>(F_bb n i.Cond).bind fun j=>((bif (!j)then(idx b a.2.2).bind fun k=>(F_l n k.Cond 0).bind fun l=>some (IntKind.i64.wrap ((IntKind.i64.wrap ((IntKind.i64.wrap (a.2.1+c.2))+d.2))+l))else some (IntKind.i64.wrap ((IntKind.i64.wrap (a.2.1+c.2))+d.2))):Option Int).bind fun m=>some (.cont (IntKind.i64.wrap ((IntKind.i64.wrap ((IntKind.i64.wrap (a.1+1))+c.1))+d.1),m,IntKind.i64.wrap (a.2.2+1)))else some (.done (a.1,a.2.1)))
def B_z(rec196:(List Step)->Int->Option (Int×Int))(n:Nat)(b:List Step)(c:Int):Option (Int×Int):=
  ((bif decide (0<(b.length:Int))then some (decide (16<c))else some false):Option Bool).bind fun b2=>(bif b2 then some (1000,1000)else(iter (F_gx n b c rec196) n (0,0,0):Option (Int×Int)).bind fun a=>some (a.1,a.2))
theorem Qa9(rec196:(List Step)->Int->Option (Int×Int))(e:∀(i:List Step) (j:Int) (r:Int×Int),rec196 i j=some r->Csm prog 77 [.rsl 8 (List.map Step.enc i),I j] [] (fun r=>.tup [I r.1,I r.2]) r)(n:Nat)(i:List Step)(j:Int)(r:Int×Int)(h:B_z rec196 n i j=some r):
    Csm prog 77 [.rsl 8 (List.map Step.enc i),I j] [] (fun r=>.tup [I r.1,I r.2]) r:=by
 refine Qb func77 Z Z Z ?_
 refine G0 8 Z (Bd h fun b2 k h=>?_)
 refine Ct b2 [] [0,1] (fun b2=>[(19,.bool b2)]) (fun _=>[]) (fun _=>rfl) ?_ (fun env H d=>?_)
 ·refine G0 2 Z (Lm Z (Go 2 Z (Is 16 k Z (fun B k=>?_) (fun B k=>?_))))
  ·exact Go 4 Z (Cl k [])
  ·exact Go 4 Z (Cl k [])
 refine Gx 1 Z (TC.le d (Cn Z h (fun E h=>?_) (fun E h=>?_)))
 ·refine Gc 8 Z ?_
  obtain rfl:=Oi h
  exact R2 4 5 Z Z (Lr [])
 refine Gc 18 Z (Bd h fun f F h=>?_)
 refine Ct f [] [] (fun f=>[(6,I f.1),(7,I f.2)]) (fun _=>[]) (fun _=>rfl) ?_ (fun env H d=>?_)
 ·refine G0 1 Z ?_
  refine Lp [] [0,1] (fun g=>[(6,I g.1),(7,I g.2.1),(8,I g.2.2)]) (fun _=>[]) F (fun _=>rfl) (Lr []) fun g R a p=>?_
  refine G0 2 Z (Bd a fun l b a=>?_)
  refine Ct l [] [0,1,6,7,8] (fun l=>[(31,.bool l)]) (fun _=>[]) (fun _=>rfl) ?_ (fun env H d=>?_)
  ·refine G0 3 Z (Lm Z (Go 2 Z (Is 24 b Z (fun q b=>?_) (fun q b=>?_))))
   ·refine Go 4 Z (Is 28 b Z (fun s b=>?_) (fun s b=>?_))
    ·exact Go 4 Z (Cl b [])
    ·exact Go 4 Z (Cl b [])
   ·exact Go 8 Z (Cl b [])
  refine Gx 1 Z (TC.le d (Ys Z a (fun t a=>?_) (fun t a=>?_)))
  ·refine Gc 2 Z (Qm a ?_)
   obtain rfl:=Oj p a
   exact Gx 1 Z (QA (Lr []))
  refine Gc 8 Z (Bd a fun G u a=>IzE u (Yb G) Z (Go 4 Z (Cd [] a (e _ _) Z fun T N a=>FE Z (Go 11 Z (Bd a fun J w a=>IzE w (Yb J) Z (Go 4 Z (Cd [] a (e _ _) Z fun V O a=>FE Z (Go 32 Z (Bd a fun L x a=>IzE x (Yb L) Z (Go 2 Z (Cz [] a (k_bb _ _) Z fun W P a=>Go 3 Z (Bd a fun m c a=>?_))))))))))))
  refine Ct m [] [0,1,6,8] (fun m=>[(7,I m)]) (fun _=>[]) (fun _=>rfl) ?_ (fun env H d=>?_)
  ·refine G0 0 Z (Cn Z c (fun y c=>?_) (fun y c=>?_))
   ·exact Gc 4 Z (Bd c fun M z c=>IzE z (Yb M) Z (Go 2 Z (Cz [] c (k_l _ _ _) Z fun X Q c=>Go 3 Z (Cl c []))))
   exact Gc 1 Z (Cl c [])
  exact Gx 2 Z (TC.le d (Gc 5 Z (Qj a (Lr []))))
 refine Gx 1 Z (TC.le d (Gc 9 Z ?_))
 obtain rfl:=Oi h
 exact R2 4 5 Z Z (Lr [])
def F_z:Nat->(List Step)->Int->Option (Int×Int)
  |0=>fun _ _=>none
  |n+1=>B_z (F_z n) n
theorem k_z(n:Nat):∀(a:List Step) (b:Int) (r:Int×Int),F_z n a b=some r->Csm prog 77 [.rsl 8 (List.map Step.enc a),I b] [] (fun r=>.tup [I r.1,I r.2]) r:=by
  induction n with
  |zero=>intro a b r h;cases h
  |succ n ih=>intro a b r h;exact Qa9 _ ih n a b r h
def F_hx(n:Nat)(b:Cond)(rec201:Cond->Option Bool)(a:Int):Option (Ctl Int (Ctl Unit Bool)):=
  (bif decide (a<(b.Parts.length:Int))then(idx b.Parts a).bind fun c=>(rec201 c).bind fun d=>(bif (!d)then some (.done (.done false))else some (.cont (IntKind.i64.wrap (a+1))))else some (.done (.cont ())))
def B_aa(rec201:Cond->Option Bool)(n:Nat)(a:Cond):Option Bool:=
  (bif (a.Kind==1)then((bif decide (1<=a.Var)then(bif decide (a.Var<=3)then(bif decide (0<=a.N)then(bif decide (a.N<=10000)then some ((a.Parts.length:Int)==0)else some false)else some false)else some false)else some false):Option Bool).bind fun i=>some i else((bif (a.Kind==2)then some (a.Kind==2)else some (a.Kind==3)):Option Bool).bind fun d=>((bif d then((bif decide ((a.Parts.length:Int)<1)then some true else some (decide (16<(a.Parts.length:Int)))):Option Bool).bind fun e=>(bif e then some (.done false)else some (.cont ()))else(bif (a.Kind==4)then(bif ((a.Parts.length:Int) != 1)then some (.done false)else some (.cont ()))else some (.done false))):Option (Ctl Unit Bool)).bind fun f=>match f with|.cont b=>(((bif (a.Var != 0)then some true else some (a.N != 0)):Option Bool).bind fun g=>(bif g then some false else(iter (F_hx n a rec201) n 0:Option (Ctl Unit Bool)).bind fun h=>match h with|.cont c=>(some true)|.done c=>some c))|.done b=>some b)
theorem QaZ(rec201:Cond->Option Bool)(k:∀(l:Cond) (r:Bool),rec201 l=some r->Csm prog 199 [.agg (Cond.c l)] [] (fun r=>.bool r) r)(n:Nat)(l:Cond)(r:Bool)(h:B_aa rec201 n l=some r):
    Csm prog 199 [.agg (Cond.c l)] [] (fun r=>.bool r) r:=by
 refine Qb func199 Z Z Z ?_
 refine G0 20 Z (Cn Z h (fun P h=>?_) (fun P h=>?_))
 ·refine Gc 1 Z (Bd h fun u e h=>?_)
  refine Ct u [] [] (fun u=>[(2,.bool u)]) (fun _=>[]) (fun _=>rfl) ?_ (fun env H f=>?_)
  ·refine G0 5 Z (Is 11 e Z (fun Q e=>?_) (fun Q e=>?_))
   ·refine Go 5 Z (Is 16 e Z (fun R e=>?_) (fun R e=>?_))
    ·refine Go 5 Z (Is 21 e Z (fun w e=>?_) (fun w e=>?_))
     ·refine Go 5 Z (Is 26 e Z (fun x e=>?_) (fun x e=>?_))
      ·exact Go 2 Z (Lm Z (Go 4 Z (Cl e [])))
      ·exact Go 7 Z (Cl e [])
     ·exact Go 12 Z (Cl e [])
    ·exact Go 17 Z (Cl e [])
   ·exact Go 22 Z (Cl e [])
  exact Gx 1 Z (TC.le f (Gc 3 Z (Rt h 2 [])))
 refine Gc 7 Z (Bd h fun m g h=>?_)
 refine Ct m [0] [1,5] (fun m=>[(32,.bool m)]) (fun _=>[]) (fun _=>rfl) ?_ (fun env H f=>?_)
 ·refine G0 0 Z (Cn Z g (fun y g=>?_) (fun y g=>?_))
  ·exact Gc 1 Z (Cl g [0])
  exact Gc 4 Z (Cl g [0])
 refine Gx 1 Z (TC.le f (Bd h fun T a h=>?_))
 refine CtE (b:=T) [0] [1] (fun _=>[]) (fun _=>[]) (fun _=>rfl) ?_ (fun aa env H hb f=>?_)
 ·refine G0 0 Z (Cn Z a (fun z a=>?_) (fun z a=>?_))
  ·refine Gc 1 Z (Bd a fun p i a=>?_)
   refine Ct p [0] [1] (fun p=>[(44,.bool p)]) (fun _=>[]) (fun _=>rfl) ?_ (fun env H f=>?_)
   ·refine G0 3 Z (Lm Z (Go 2 Z (Is 39 i Z (fun B i=>?_) (fun B i=>?_))))
    ·exact Go 6 Z (Cl i [0])
    ·exact Go 2 Z (Lm Z (Go 3 Z (Cl i [0])))
   refine Gx 1 Z (TC.le f (Cn Z a (fun E a=>?_) (fun E a=>?_)))
   ·refine Gc 6 Z ?_
    cases a
    exact Qq (Gx 2 Z (Rt h 2 []))
   refine Gc 1 Z ?_
   cases a
   exact Qp Z (Lr [0])
  refine Gc 6 Z (Ys Z a (fun F a=>?_) (fun F a=>?_))
  ·refine Gc 6 Z ?_
   cases a
   exact Qq (Gx 2 Z (Rt h 2 []))
  refine Gc 4 Z (Lm Z (Go 3 Z (Cn Z a (fun G a=>?_) (fun G a=>?_))))
  ·refine Gc 6 Z ?_
   cases a
   exact Qq (Gx 2 Z (Rt h 2 []))
  refine Gc 1 Z ?_
  cases a
  exact Qp Z (Lr [0])
 subst hb
 refine Gx 2 Z (TC.le f (Gc 2 Z (Bd h fun q j h=>?_)))
 refine Ct q [0] [1] (fun q=>[(58,.bool q)]) (fun _=>[]) (fun _=>rfl) ?_ (fun env H f=>?_)
 ·refine G0 5 Z (Is 54 j Z (fun J j=>?_) (fun J j=>?_))
  ·exact Go 5 Z (Cl j [0])
  ·exact Go 5 Z (Cl j [0])
 refine Gx 1 Z (TC.le f (Cn Z h (fun L h=>?_) (fun L h=>?_)))
 ·exact Gc 7 Z (Rt h 2 [])
 refine Gc 8 Z (Bd h fun V W h=>?_)
 refine CtE (b:=V) [] [] (fun _=>[]) (fun _=>[]) (fun _=>rfl) ?_ (fun ab env H X f=>?_)
 ·refine G0 1 Z ?_
  refine Lp [0] [1] (fun t=>[(3,I t)]) (fun _=>[]) W (fun _=>rfl) (Lr [0]) fun t ad d s=>?_
  refine G0 6 Z (Lm Z (Go 3 Z (Ys Z d (fun M d=>?_) (fun M d=>?_))))
  ·refine Gc 2 Z (Qm d ?_)
   obtain rfl:=Oj s d
   exact Gx 1 Z (Qp Z (Lr []))
  refine Gc 9 Z (Bd d fun Y N d=>IzE N (Y2 Y) Z (Go 1 Z (Cz [] d (k _) Z fun ae ac d=>Go 3 Z (Cn Z d (fun O d=>?_) (fun O d=>?_)))))
  ·refine Gc 8 Z (Qx d ?_)
   obtain rfl:=Oj s d
   exact Gx 1 Z (Qq (Gx 1 Z (Rt h 2 [])))
  exact Gc 8 Z (Qj d (Lr [0]))
 subst X
 exact Gx 1 Z (TC.le f (Gc 6 Z (Rt h 2 [])))
def F_aa:Nat->Cond->Option Bool
  |0=>fun _=>none
  |n+1=>B_aa (F_aa n) n
theorem k_aa(n:Nat):∀(a:Cond) (r:Bool),F_aa n a=some r->Csm prog 199 [.agg (Cond.c a)] [] (fun r=>.bool r) r:=by
  induction n with
  |zero=>intro a r h;cases h
  |succ n ih=>intro a r h;exact QaZ _ ih n a r h
def F_bv(n:Nat)(a:Cond):Option Int:=
  (F_l n a 0).bind fun b=>(bif decide (256<b)then some 2 else(F_aa n a).bind fun c=>(bif (!c)then some 71 else some 0))
theorem k_bv(n:Nat)(a:Cond)(r:Int)(h:F_bv n a=some r):
    Csm prog 143 [.agg (Cond.c a)] [] (fun r=>I r) r:=by
 refine Qb func143 Z Z Z ?_
 refine G0 10 Z (Cz [] h (k_l _ _ _) Z fun g e h=>Go 3 Z (Cn Z h (fun b h=>?_) (fun b h=>?_)))
 ·exact Gc 7 Z (Rt h 2 [])
 refine Gc 6 Z (Cz [] h (k_aa _ _) Z fun i f h=>Go 3 Z (Cn Z h (fun d h=>?_) (fun d h=>?_)))
 ·exact Gc 7 Z (Rt h 2 [])
 exact Gc 8 Z (Rt h 2 [])
def F_ig(n:Nat)(k:List Step)(rec199:(List Step)->Option Bool)(b:Int):Option (Ctl Int (Ctl Unit Bool)):=
  (bif decide (b<(k.length:Int))then(idx k b).bind fun a=>((bif (a.Kind==1)then((bif decide (a.By<1)then some true else(bif decide (5<a.By)then some true else(F_bb n a.Cond).bind fun d=>(bif (!d)then some true else(bif ((a.Then.length:Int) != 0)then some true else some ((a.Else.length:Int) != 0))))):Option Bool).bind fun e=>(bif e then some (.done (.done (.done false)))else some (.cont ()))else(bif (a.Kind==2)then((bif (a.By != 0)then some true else(F_bv n a.Cond).bind fun f=>(bif (f != 0)then some true else(bif ((a.Then.length:Int)==0)then some true else(rec199 a.Then).bind fun g=>(bif (!g)then some true else(rec199 a.Else).bind fun h=>some (!h))))):Option Bool).bind fun i=>(bif i then some (.done (.done (.done false)))else some (.cont ()))else some (.done (.done (.done false))))):Option (Ctl Unit (Ctl Int (Ctl Unit Bool)))).bind fun j=>match j with|.cont c=>(some (.cont (IntKind.i64.wrap (b+1))))|.done c=>some c else some (.done (.cont ())))
def B_k(rec199:(List Step)->Option Bool)(n:Nat)(c:List Step):Option Bool:=
  (iter (F_ig n c rec199) n 0:Option (Ctl Unit Bool)).bind fun b=>match b with|.cont a=>(some true)|.done a=>some a
theorem QaY(rec199:(List Step)->Option Bool)(i:∀(l:List Step) (r:Bool),rec199 l=some r->Csm prog 78 [.rsl 8 (List.map Step.enc l)] [] (fun r=>.bool r) r)(n:Nat)(l:List Step)(r:Bool)(h:B_k rec199 n l=some r):
    Csm prog 78 [.rsl 8 (List.map Step.enc l)] [] (fun r=>.bool r) r:=by
 refine Qb func78 Z Z Z ?_
 refine G0 11 Z (Bd h fun L M h=>?_)
 refine CtE (b:=L) [] [] (fun _=>[]) (fun _=>[]) (fun _=>rfl) ?_ (fun Q env H P g=>?_)
 ·refine G0 1 Z ?_
  refine Lp [] [0] (fun m=>[(3,I m)]) (fun _=>[]) M (fun _=>rfl) (Lr []) fun m Y e f=>?_
  refine G0 5 Z (Lm Z (Go 3 Z (Ys Z e (fun p e=>?_) (fun p e=>?_))))
  ·refine Gc 2 Z (Qm e ?_)
   obtain rfl:=Oj f e
   exact Gx 1 Z (Qp Z (Lr []))
  refine Gc 8 Z (Bd e fun N q e=>IzE q (Yb N) Z (Go 18 Z (Bd e fun O c e=>?_)))
  refine CtE (b:=O) [] [0,3] (fun _=>[]) (fun _=>[]) (fun _=>rfl) ?_ (fun R env H hb g=>?_)
  ·refine G0 0 Z (Cn Z c (fun s c=>?_) (fun s c=>?_))
   ·refine Gc 1 Z (Bd c fun j d c=>?_)
    refine Ct j [] [0,3] (fun j=>[(44,.bool j)]) (fun _=>[]) (fun _=>rfl) ?_ (fun env H g=>?_)
    ·refine G0 5 Z (Is 22 d Z (fun t d=>?_) (fun t d=>?_))
     ·exact Go 23 Z (Cl d [])
     ·refine Go 5 Z (Is 27 d Z (fun u d=>?_) (fun u d=>?_))
      ·exact Go 18 Z (Cl d [])
      ·refine Go 2 Z (Cz [] d (k_bb _ _) Z fun aa T d=>Go 3 Z (Is 33 d Z (fun w d=>?_) (fun w d=>?_)))
       ·exact Go 12 Z (Cl d [])
       ·refine Go 2 Z (Lm Z (Go 3 Z (Is 39 d Z (fun x d=>?_) (fun x d=>?_))))
        ·exact Go 6 Z (Cl d [])
        ·exact Go 2 Z (Lm Z (Go 3 Z (Cl d [])))
    refine Gx 1 Z (TC.le g (Cn Z c (fun y c=>?_) (fun y c=>?_)))
    ·refine Gc 6 Z ?_
     cases c
     refine Qq (Gx 3 Z (Qx e ?_))
     obtain rfl:=Oj f e
     exact Gx 1 Z (Qq (Gx 1 Z (Rt h 2 [])))
    refine Gc 1 Z ?_
    cases c
    exact Qp Z (Lr [])
   refine Gc 6 Z (Ys Z c (fun z c=>?_) (fun z c=>?_))
   ·refine Gc 6 Z ?_
    cases c
    refine Qq (Gx 3 Z (Qx e ?_))
    obtain rfl:=Oj f e
    exact Gx 1 Z (Qq (Gx 1 Z (Rt h 2 [])))
   refine Gc 1 Z (Bd c fun k a c=>?_)
   refine Ct k [] [0,3] (fun k=>[(73,.bool k)]) (fun _=>[]) (fun _=>rfl) ?_ (fun env H g=>?_)
   ·refine G0 5 Z (Is 50 a Z (fun B a=>?_) (fun B a=>?_))
    ·exact Go 24 Z (Cl a [])
    ·refine Go 2 Z (Cz [] a (k_bv _ _) Z fun ab V a=>Go 3 Z (Is 56 a Z (fun E a=>?_) (fun E a=>?_)))
     ·exact Go 18 Z (Cl a [])
     ·refine Go 2 Z (Lm Z (Go 3 Z (Is 62 a Z (fun F a=>?_) (fun F a=>?_))))
      ·exact Go 12 Z (Cl a [])
      ·refine Go 2 Z (Cz [] a (i _) Z fun ac W a=>Go 3 Z (Is 68 a Z (fun G a=>?_) (fun G a=>?_)))
       ·exact Go 6 Z (Cl a [])
       ·exact Go 2 Z (Cz [] a (i _) Z fun ad X a=>Go 3 Z (Cl a []))
   refine Gx 1 Z (TC.le g (Cn Z c (fun J c=>?_) (fun J c=>?_)))
   ·refine Gc 6 Z ?_
    cases c
    refine Qq (Gx 3 Z (Qx e ?_))
    obtain rfl:=Oj f e
    exact Gx 1 Z (Qq (Gx 1 Z (Rt h 2 [])))
   refine Gc 1 Z ?_
   cases c
   exact Qp Z (Lr [])
  subst hb
  exact Gx 3 Z (TC.le g (Gc 5 Z (Qj e (Lr []))))
 subst P
 exact Gx 1 Z (TC.le g (Gc 6 Z (Rt h 2 [])))
def F_k:Nat->(List Step)->Option Bool
  |0=>fun _=>none
  |n+1=>B_k (F_k n) n
theorem k_k(n:Nat):∀(a:List Step) (r:Bool),F_k n a=some r->Csm prog 78 [.rsl 8 (List.map Step.enc a)] [] (fun r=>.bool r) r:=by
  induction n with
  |zero=>intro a r h;cases h
  |succ n ih=>intro a r h;exact QaY _ ih n a r h
def F_ci(n:Nat)(a:List Step):Option Int:=
  (F_z n a 0).bind fun b=>((bif decide (64<b.1)then some true else some (decide (256<b.2))):Option Bool).bind fun d=>(bif d then some 2 else((bif ((a.length:Int)==0)then some true else(F_k n a).bind fun c=>some (!c)):Option Bool).bind fun e=>(bif e then some 71 else some 0))
theorem k_ci(n:Nat)(i:List Step)(r:Int)(h:F_ci n i=some r):
    Csm prog 47 [.rsl 8 (List.map Step.enc i)] [] (fun r=>I r) r:=by
 refine Qb func47 Z Z Z ?_
 refine G0 8 Z (Cd [] h (k_z _ _ _) Z fun q m h=>FE Z (Go 9 Z (Bd h fun d b h=>?_)))
 refine Ct d [] [0] (fun d=>[(15,.bool d)]) (fun _=>[]) (fun _=>rfl) ?_ (fun env H c=>?_)
 ·refine G0 4 Z (Is 12 b Z (fun j b=>?_) (fun j b=>?_))
  ·exact Go 4 Z (Cl b [])
  ·exact Go 4 Z (Cl b [])
 refine Gx 1 Z (TC.le c (Cn Z h (fun k h=>?_) (fun k h=>?_)))
 ·exact Gc 7 Z (Rt h 2 [])
 refine Gc 4 Z (Bd h fun e a h=>?_)
 refine Ct e [] [] (fun e=>[(23,.bool e)]) (fun _=>[]) (fun _=>rfl) ?_ (fun env H c=>?_)
 ·refine G0 2 Z (Lm Z (Go 2 Z (Is 19 a Z (fun f a=>?_) (fun f a=>?_))))
  ·exact Go 5 Z (Cl a [])
  ·exact Go 1 Z (Cz [] a (k_k _ _) Z fun p l a=>Go 3 Z (Cl a []))
 refine Gx 1 Z (TC.le c (Cn Z h (fun g h=>?_) (fun g h=>?_)))
 ·exact Gc 7 Z (Rt h 2 [])
 exact Gc 8 Z (Rt h 2 [])
def F_ex(n:Nat)(g:List Part)(b:(List Int)×Int)(c:List Int)(a:(List Int)×Int):Option (Ctl ((List Int)×Int) (List Int)):=
  ((idx g b.2).bind fun d=>(bif decide (a.2<d.Laps)then some (decide ((a.1.length:Int)<=256))else some false):Option Bool).bind fun e=>(bif e then(app a.1 c).bind fun f=>some (.cont (f,IntKind.i64.wrap (a.2+1)))else some (.done a.1))
def F_hg(n:Nat)(b:List Part)(rec203:(List Part)->Option (List Int))(a:(List Int)×Int):Option (Ctl ((List Int)×Int) (List Int)):=
  ((bif decide (a.2<(b.length:Int))then some (decide ((a.1.length:Int)<=256))else some false):Option Bool).bind fun c=>(bif c then((idx b a.2).bind fun d=>(bif (d.Laps==0)then(idx b a.2).bind fun e=>(app a.1 [e.Mat]).bind fun f=>some f else(idx b a.2).bind fun g=>(rec203 g.Parts).bind fun h=>(iter (F_ex n b a h) n (a.1,0):Option (List Int)).bind fun i=>some i):Option (List Int)).bind fun j=>some (.cont (j,IntKind.i64.wrap (a.2+1)))else some (.done a.1))
def B_ag(rec203:(List Part)->Option (List Int))(n:Nat)(b:List Part):Option (List Int):=
  (iter (F_hg n b rec203) n (([]:List Int),0):Option (List Int)).bind fun a=>some a
theorem QaK(rec203:(List Part)->Option (List Int))(t:∀(u:List Part) (r:List Int),rec203 u=some r->C prog 79 [.rsl 3 (List.map Part.enc u)] [] (RQ (fun r=>.osl 0 0 r.length 1) (fun r=>[.row 3 1 (List.map (Qf .i64) r)]) r))(n:Nat)(u:List Part)(r:List Int)(h:B_ag rec203 n u=some r):
    C prog 79 [.rsl 3 (List.map Part.enc u)] [] (RQ (fun r=>.osl 0 0 r.length 1) (fun r=>[.row 3 1 (List.map (Qf .i64) r)]) r):=by
 refine Qb func79 Z Z Z ?_
 refine G0 7 Z ?_
 refine vH (OpH.lit (xs:=[]) (es:=List.map (Qf .i64) []) Qu Z Z Z Z Z trivial Z Z) ?_
 refine FE Z (Go 9 Z (Bd h fun g Q h=>?_))
 refine Ct g [0] [] (fun g=>[(3,.osl 0 0 g.length 1)]) (fun g=>[(0,.row 3 1 (List.map (Qf .i64) g))]) (fun _=>rfl) ?_ (fun env H f=>?_)
 ·refine G0 1 Z ?_
  refine Lp [0] [0] (fun j=>[(3,.osl 0 0 j.1.length 1),(4,I j.2)]) (fun j=>[(0,.row 3 1 (List.map (Qf .i64) j.1))]) Q (fun _=>rfl) (Lr [0]) fun j Y b x=>?_
  refine G0 2 Z (Bd b fun q k b=>?_)
  refine Ct q [0] [0,3,4] (fun q=>[(16,.bool q)]) (fun _=>[]) (fun _=>rfl) ?_ (fun env H f=>?_)
  ·refine G0 3 Z (Lm Z (Go 2 Z (Is 12 k Z (fun y k=>?_) (fun y k=>?_))))
   ·exact Go 5 Z (Cl k [0])
   ·exact Go 5 Z (Cl k [0])
  refine Gx 1 Z (TC.le f (Ys Z b (fun z b=>?_) (fun z b=>?_)))
  ·refine Gc 2 Z (Qm b ?_)
   obtain rfl:=Oj x b
   exact Gx 1 Z (QA (Lr [0]))
  refine Gc 3 Z (Bd b fun l a b=>?_)
  refine Ct l [0] [0,4] (fun l=>[(3,.osl 0 0 l.length 1)]) (fun l=>[(0,.row 3 1 (List.map (Qf .i64) l))]) (fun _=>rfl) ?_ (fun env H f=>?_)
  ·refine G0 6 Z (Bd a fun R B a=>IzE B (Q0 R) Z (Go 5 Z (Cn Z a (fun E a=>?_) (fun E a=>?_))))
   ·refine Gc 5 Z (Bd a fun w F a=>IzE F (Q0 w) Z (Go 2 Z ?_))
    refine vH (OpH.lit (xs:=[.tmp 30]) (es:=List.map (Qf .i64) [w.Mat]) Qu Z Z Z Z Z ⟨Z,trivial⟩ Z Z) ?_
    refine FE Z (Bd a fun aa G a=>?_)
    refine vH (Ql (e:=(Qf .i64)) G Qu runUnderlying48 (QT (i:=1))) ?_
    exact FE Z (Go 6 Z (Cl a [2]))
   refine Gc 6 Z (Bd a fun T J a=>IzE J (Q0 T) Z (Go 2 Z (Cd [] a (t _) Z fun ab X a=>FE Z (Go 8 Z (Bd a fun m V a=>?_)))))
   refine Ct m [0] [0,4] (fun m=>[(3,.osl 0 0 m.length 1)]) (fun m=>[(0,.row 3 1 (List.map (Qf .i64) m))]) (fun _=>rfl) ?_ (fun env H f=>?_)
   ·refine G0 1 Z ?_
    refine Lp [0,1] [0,4,5] (fun p=>[(3,.osl 0 0 p.1.length 1),(6,I p.2)]) (fun p=>[(0,.row 3 1 (List.map (Qf .i64) p.1))]) V (fun _=>rfl) (Lr [0,1]) fun p ac c L=>?_
    refine G0 2 Z (Bd c fun s d c=>?_)
    refine Ct s [0,1] [0,3,4,5,6] (fun s=>[(50,.bool s)]) (fun _=>[]) (fun _=>rfl) ?_ (fun env H f=>?_)
    ·refine G0 4 Z (Bd d fun W M d=>IzE M (Q0 W) Z (Go 4 Z (Is 46 d Z (fun N d=>?_) (fun N d=>?_))))
     ·exact Go 5 Z (Cl d [0,1])
     ·exact Go 5 Z (Cl d [0,1])
    refine Gx 1 Z (TC.le f (Ys Z c (fun O c=>?_) (fun O c=>?_)))
    ·refine Gc 2 Z (Qm c ?_)
     obtain rfl:=Oj L c
     exact Gx 1 Z (QA (Lr [0]))
    refine Gc 7 Z (Bd c fun ad P c=>?_)
    refine vH (Ql (e:=(Qf .i64)) P Qu runUnderlying48 (QT (i:=1))) ?_
    exact FE Z (Go 9 Z (Qj c (Lr [2,1])))
   refine Gx 1 Z ?_
   cases a
   exact QA (Le.trans f (Lr [0]))
  exact Gx 1 Z (TC.le f (Gc 5 Z (Qj b (Lr [0]))))
 exact Gx 1 Z (TC.le f (Gc 7 Z (Rt h 2 [0])))
def F_ag:Nat->(List Part)->Option (List Int)
  |0=>fun _=>none
  |n+1=>B_ag (F_ag n) n
theorem k_ag(n:Nat):∀(a:List Part) (r:List Int),F_ag n a=some r->C prog 79 [.rsl 3 (List.map Part.enc a)] [] (RQ (fun r=>.osl 0 0 r.length 1) (fun r=>[.row 3 1 (List.map (Qf .i64) r)]) r):=by
  induction n with
  |zero=>intro a r h;cases h
  |succ n ih=>intro a r h;exact QaK _ ih n a r h
def F_go(n:Nat)(b:Course)(f:Int)(g:Int)(a:Int):Option (Ctl Int (Ctl Unit Int)):=
  (bif decide (a<(b.Legs.length:Int))then((idx b.Legs a).bind fun c=>(bif (c.From==f)then(idx b.Legs a).bind fun d=>some (d.To==g)else some false):Option Bool).bind fun e=>(bif e then some (.done (.done a))else some (.cont (IntKind.i64.wrap (a+1))))else some (.done (.cont ())))
def F_at(n:Nat)(c:Course)(d:Int)(e:Int):Option Int:=
  (iter (F_go n c d e) n 0:Option (Ctl Unit Int)).bind fun b=>match b with|.cont a=>(some (-1))|.done a=>some a
theorem k_at(n:Nat)(q:Course)(s:Int)(t:Int)(r:Int)(h:F_at n q s t=some r):
    Csm prog 80 [.agg (Course.c q),I s,I t] [] (fun r=>I r) r:=by
 refine Qb func80 Z Z Z ?_
 refine G0 12 Z (Bd h fun u w h=>?_)
 refine CtE (b:=u) [] [] (fun _=>[]) (fun _=>[]) (fun _=>rfl) ?_ (fun y env H x e=>?_)
 ·refine G0 1 Z ?_
  refine Lp [0] [1,2,3] (fun i=>[(7,I i)]) (fun _=>[]) w (fun _=>rfl) (Lr [0]) fun i z a f=>?_
  refine G0 6 Z (Lm Z (Go 3 Z (Ys Z a (fun j a=>?_) (fun j a=>?_))))
  ·refine Gc 2 Z (Qm a ?_)
   obtain rfl:=Oj f a
   exact Gx 1 Z (Qp Z (Lr []))
  refine Gc 5 Z (Bd a fun g d a=>?_)
  refine Ct g [0] [1,2,3,7] (fun g=>[(32,.bool g)]) (fun _=>[]) (fun _=>rfl) ?_ (fun env H e=>?_)
  ·refine G0 4 Z (Bd d fun B k d=>Iz k Z (Go 5 Z (Is 23 d Z (fun l d=>?_) (fun l d=>?_))))
   ·exact Go 3 Z (Bd d fun E m d=>Iz m Z (Go 6 Z (Cl d [0])))
   ·exact Go 10 Z (Cl d [0])
  refine Gx 1 Z (TC.le e (Cn Z a (fun p a=>?_) (fun p a=>?_)))
  ·refine Gc 9 Z (Qx a ?_)
   obtain rfl:=Oj f a
   exact Gx 1 Z (Qq (Gx 1 Z (Rt h 6 [])))
  exact Gc 8 Z (Qj a (Lr [0]))
 subst x
 exact Gx 1 Z (TC.le e (Gc 6 Z (Rt h 6 [])))
def F_fq(n:Nat)(b:List Int)(e:Int)(a:Int×Int):Option (Ctl (Int×Int) Int):=
  (bif decide (a.2<(b.length:Int))then(idx b a.2).bind fun c=>((bif (c==e)then some (IntKind.i64.wrap (a.1+1))else some a.1):Option Int).bind fun d=>some (.cont (d,IntKind.i64.wrap (a.2+1)))else some (.done a.1))
def F_az(n:Nat)(b:List Int)(c:Int):Option Int:=
  (iter (F_fq n b c) n (0,0):Option Int).bind fun a=>some a
theorem k_az(n:Nat)(l:List Int)(m:Int)(r:Int)(h:F_az n l m=some r):
    Csm prog 81 [.rsl 1 (List.map (Qf .i64) l),I m] [] (fun r=>I r) r:=by
 refine Qb func81 Z Z Z ?_
 refine G0 16 Z (Bd h fun c p h=>?_)
 refine Ct c [] [] (fun c=>[(5,I c)]) (fun _=>[]) (fun _=>rfl) ?_ (fun env H d=>?_)
 ·refine G0 1 Z ?_
  refine Lp [] [0,1] (fun e=>[(5,I e.1),(6,I e.2)]) (fun _=>[]) p (fun _=>rfl) (Lr []) fun e q a g=>?_
  refine G0 5 Z (Lm Z (Go 3 Z (Ys Z a (fun i a=>?_) (fun i a=>?_))))
  ·refine Gc 2 Z (Qm a ?_)
   obtain rfl:=Oj g a
   exact Gx 1 Z (QA (Lr []))
  refine Gc 8 Z (Bd a fun s j a=>Iz j Z (Go 5 Z (Bd a fun f b a=>?_)))
  refine Ct f [] [0,1,6] (fun f=>[(5,I f)]) (fun _=>[]) (fun _=>rfl) ?_ (fun env H d=>?_)
  ·refine G0 0 Z (Cn Z b (fun k b=>?_) (fun k b=>?_))
   ·exact Gc 5 Z (Cl b [])
   exact Gc 1 Z (Cl b [])
  exact Gx 2 Z (TC.le d (Gc 5 Z (Qj a (Lr []))))
 exact Gx 1 Z (TC.le d (Gc 7 Z (Rt h 4 [])))
def F_dl(n:Nat)(c:Course)(b:List Int)(a:Int):Option (Ctl Int (Ctl Unit Bool)):=
  (bif decide (a<(b.length:Int))then((bif (a==0)then some 1 else(bif (a==(IntKind.i64.wrap ((b.length:Int)-1)))then some 3 else some 2)):Option Int).bind fun d=>((idx b a).bind fun e=>(idx c.Mats e).bind fun f=>(bif (f.Kind != d)then some true else(bif decide (0<a)then(idx b (IntKind.i64.wrap (a-1))).bind fun g=>(idx b a).bind fun h=>(F_at n c g h).bind fun i=>some (decide (i<0))else some false)):Option Bool).bind fun j=>(bif j then some (.done (.done false))else some (.cont (IntKind.i64.wrap (a+1))))else some (.done (.cont ())))
def F_jh(n:Nat)(b:Distance)(f:List Int)(a:Int):Option (Ctl Int (Ctl Unit Bool)):=
  (bif decide (a<(b.Cutoffs.length:Int))then(idx b.Cutoffs a).bind fun c=>(F_az n f c.Mat).bind fun d=>(idx b.Cutoffs a).bind fun e=>(bif decide (d<e.Lap)then some (.done (.done false))else some (.cont (IntKind.i64.wrap (a+1))))else some (.done (.cont ())))
def F_cp(n:Nat)(e:Course)(a:Distance):Option Bool:=
  (F_ag n a.Route).bind fun b=>((bif decide ((b.length:Int)<2)then some true else some (decide (256<(b.length:Int)))):Option Bool).bind fun l=>(bif l then some false else(iter (F_dl n e b) n 0:Option (Ctl Unit Bool)).bind fun f=>match f with|.cont c=>(((bif (a.Extra != (-1))then(idx e.Mats a.Extra).bind fun g=>(bif (g.Kind != 2)then some true else(F_az n b a.Extra).bind fun h=>(bif (h==0)then some true else(F_at n e a.Extra a.Extra).bind fun i=>some (decide (i<0))))else some false):Option Bool).bind fun j=>(bif j then some false else(iter (F_jh n a b) n 0:Option (Ctl Unit Bool)).bind fun k=>match k with|.cont d=>(some true)|.done d=>some d))|.done c=>some c)
theorem k_cp(n:Nat)(a1:Course)(a2:Distance)(r:Bool)(h:F_cp n a1 a2=some r):
    Csm prog 48 [.agg (Course.c a1),.agg (Distance.c a2)] [] (fun r=>.bool r) r:=by
 refine Qb func48 Z Z Z ?_
 refine G0 11 Z (Cd [] h (k_ag _ _) Z fun r1 ax h=>FE Z (Go 12 Z (Bd h fun O p h=>?_)))
 refine Ct O [0,1,2] [2,3,5,6] (fun O=>[(20,.bool O)]) (fun _=>[]) (fun _=>rfl) ?_ (fun env H g=>?_)
 ·refine G0 4 Z (Is 17 p Z (fun af p=>?_) (fun af p=>?_))
  ·exact Go 4 Z (Cl p [0,1,2])
  ·exact Go 4 Z (Cl p [0,1,2])
 refine Gx 1 Z (TC.le g (Cn Z h (fun ag h=>?_) (fun ag h=>?_)))
 ·exact Gc 7 Z (Rt h 4 [])
 refine Gc 8 Z (Bd h fun ah ai h=>?_)
 refine CtE (b:=ah) [0,1,2] [2,3,5] (fun _=>[]) (fun _=>[]) (fun _=>rfl) ?_ (fun ao env H q g=>?_)
 ·refine G0 1 Z ?_
  refine Lp [0,1,2] [2,3,5,6] (fun j=>[(7,I j)]) (fun _=>[]) ai (fun _=>rfl) (Lr [0,1,2]) fun j ay f s=>?_
  refine G0 8 Z (Ys Z f (fun P f=>?_) (fun P f=>?_))
  ·refine Gc 2 Z (Qm f ?_)
   obtain rfl:=Oj s f
   exact Gx 1 Z (Qp Z (Lr [0,1,2]))
  refine Gc 22 Z (Bd f fun t i f=>?_)
  refine Ct t [0,1,2] [2,3,5,6,7] (fun t=>[(8,I t)]) (fun _=>[]) (fun _=>rfl) ?_ (fun env H g=>?_)
  ·refine G0 0 Z (Cn Z i (fun Q i=>?_) (fun Q i=>?_))
   ·exact Gc 3 Z (Cl i [0,1,2])
   refine Gc 8 Z (Cn Z i (fun R i=>?_) (fun R i=>?_))
   ·exact Gc 3 Z (Cl i [0,1,2])
   exact Gc 1 Z (Cl i [0,1,2])
  refine Gx 2 Z (TC.le g (Gc 1 Z (Bd f fun u d f=>?_)))
  refine Ct u [0,1,2] [2,3,5,6,7] (fun u=>[(61,.bool u)]) (fun _=>[]) (fun _=>rfl) ?_ (fun env H g=>?_)
  ·refine G0 0 Z (DSs 25 Z (D 4 Z ?_))
   obtain⟨aj,w,d⟩:=Y3 d
   refine DS.v (x:=(.ptr 2 (Int.toNat j*1))) (QK w Z runUnderlying48 sizeOf3) ?_
   refine DS.v (x:=(I aj)) (OpV.load Z isAgg3 Z (Qw w)) ?_
   obtain⟨N,T,d⟩:=Y3 d
   refine DS.wo (x:=.rp [.str N.Name,I N.Kind]) ?_ ?_
   ·exact Ix T runUnderlying22 sizeOf96 Z Wp
   refine D 5 Z (Qdg 11 d Z Z Z (fun V d=>?_) (fun V d=>?_))
   ·exact D 13 Z (DS.done Z (Go 5 Z (Cl d [0,1,2])))
   ·refine D 3 Z (Qdg 14 d Z Z Z (fun W d=>?_) (fun W d=>?_))
    ·refine D 4 Z ?_
     obtain⟨ak,y,d⟩:=Y3 d
     refine DS.v (x:=(.ptr 2 (Int.toNat (IntKind.i64.wrap (j-1))*1))) (QK y Z runUnderlying48 sizeOf3) ?_ (hg:=(gT Z))
     refine DS.v (x:=(I ak)) (OpV.load Z isAgg3 Z (Qw y)) ?_ (hg:=(gT Z))
     refine D 2 Z ?_
     obtain⟨al,z,d⟩:=Y3 d
     refine DS.v (x:=(.ptr 2 (Int.toNat j*1))) (QK z Z runUnderlying48 sizeOf3) ?_ (hg:=(gT Z))
     refine DS.v (x:=(I al)) (OpV.load Z isAgg3 Z (Qw z)) ?_ (hg:=(gT Z))
     exact DS.done Z (Cz [] d (k_at _ _ _ _) Z fun az aq d=>Go 4 Z (Cl d [0,1,2]))
    ·exact D 10 Z (DS.done Z (Go 5 Z (Cl d [0,1,2])))
  refine Gx 1 Z (TC.le g (Cn Z f (fun X f=>?_) (fun X f=>?_)))
  ·refine Gc 8 Z (Qx f ?_)
   obtain rfl:=Oj s f
   exact Gx 1 Z (Qq (Gx 1 Z (Rt h 4 [])))
  exact Gc 8 Z (Qj f (Lr [0,1,2]))
 subst q
 refine Gx 1 Z (TC.le g (Gc 2 Z (Bd h fun B e h=>?_)))
 refine Ct B [1,2] [3,5] (fun B=>[(90,.bool B)]) (fun _=>[]) (fun _=>rfl) ?_ (fun env H g=>?_)
 ·refine G0 5 Z (Is 65 e Z (fun Y e=>?_) (fun Y e=>?_))
  ·refine Go 4 Z (Bd e fun ba aa e=>Iz aa Z (Go 4 Z (Is 74 e Z (fun ab e=>?_) (fun ab e=>?_))))
   ·exact Go 17 Z (Cl e [1,2])
   ·refine Go 3 Z (Cb e (k_az _ _ _) Z (lo (ls ln)) fun bb ar e=>Go 3 Z (Is 81 e Z (fun ac e=>?_) (fun ac e=>?_)))
    ·exact Go 10 Z (Cl e [1,2])
    ·exact Go 5 Z (Cz [] e (k_at _ _ _ _) Z fun bc au e=>Go 4 Z (Cl e [1,2]))
  ·exact Go 26 Z (Cl e [1,2])
 refine Gx 1 Z (TC.le g (Cn Z h (fun ad h=>?_) (fun ad h=>?_)))
 ·exact Gc 7 Z (Rt h 4 [])
 refine Gc 8 Z (Bd h fun am an h=>?_)
 refine CtE (b:=am) [] [] (fun _=>[]) (fun _=>[]) (fun _=>rfl) ?_ (fun av env H q g=>?_)
 ·refine G0 1 Z ?_
  refine Lp [0,1] [3,5] (fun E=>[(9,I E)]) (fun _=>[]) an (fun _=>rfl) (Lr [0,1]) fun E aw a m=>?_
  refine G0 6 Z (Lm Z (Go 3 Z (Ys Z a (fun F a=>?_) (fun F a=>?_))))
  ·refine Gc 2 Z (Qm a ?_)
   obtain rfl:=Oj m a
   exact Gx 1 Z (Qp Z (Lr []))
  refine Gc 5 Z (DSs 14 Z (D 4 Z ?_))
  obtain⟨k,G,a⟩:=Y3 a
  refine DS.wo (x:=.rp [I k.Mat,I k.Lap,I k.Limit]) ?_ ?_
  ·exact Ix G runUnderlying92 sizeOf168 Z Wp
  refine D 2 Z ?_
  obtain⟨ae,J,a⟩:=Y3 a
  refine DS.wo (x:=I ae) ?_ ?_
  ·refine QbK (OpC.fn call81 rfl rfl rfl) (Qbi.cons rfl (.inr ⟨_,_,_,_,_,rfl,rfl,List.length_map ..,rfl⟩) (Qbi.cons rfl (.inl ⟨rfl,rfl⟩) Qbi.nil)) (k_az _ _ _ _ J) (by rintro _ _ ⟨rfl,rfl⟩;rfl) ?_
   rintro _ _ ⟨rfl,rfl⟩
   exact FE Z Wp
  refine D 3 Z ?_
  obtain⟨l,L,a⟩:=Y3 a
  refine DS.wo (x:=.rp [I l.Mat,I l.Lap,I l.Limit]) ?_ ?_
  ·exact Ix L runUnderlying92 sizeOf168 Z Wp
  refine D 2 Z (DS.done Z (Go 3 Z (Cn Z a (fun M a=>?_) (fun M a=>?_))))
  ·refine Gc 8 Z (Qx a ?_)
   obtain rfl:=Oj m a
   exact Gx 1 Z (Qq (Gx 1 Z (Rt h 4 [])))
  exact Gc 8 Z (Qj a (Lr [0,1]))
 subst q
 exact Gx 1 Z (TC.le g (Gc 6 Z (Rt h 4 [])))
def F_jl(n:Nat)(b:Course)(a:Int):Option (Ctl Int (Ctl Unit Int)):=
  (bif decide (a<(b.Distances.length:Int))then(idx b.Distances a).bind fun c=>(F_cp n b c).bind fun d=>(bif (!d)then some (.done (.done 72))else some (.cont (IntKind.i64.wrap (a+1))))else some (.done (.cont ())))
def F_ap(n:Nat)(a:Course):Option Int:=
  (F_be n a).bind fun e=>(bif (!e)then some 2 else(F_cy n a).bind fun f=>(bif (!f)then some 70 else(F_cf n a).bind fun g=>(bif (!g)then some 71 else(F_ci n a.Ties).bind fun c=>(bif (c != 0)then some c else(iter (F_jl n a) n 0:Option (Ctl Unit Int)).bind fun d=>match d with|.cont b=>(some 0)|.done b=>some b))))
theorem k_ap(n:Nat)(k:Course)(r:Int)(h:F_ap n k=some r):
    Csm prog 25 [.agg (Course.c k)] [] (fun r=>I r) r:=by
 refine Qb func25 Z Z Z ?_
 refine G0 10 Z (Cz [] h (k_be _ _) Z fun M B h=>Go 3 Z (Cn Z h (fun l h=>?_) (fun l h=>?_)))
 ·exact Gc 7 Z (Rt h 2 [])
 refine Gc 6 Z (Cz [] h (k_cy _ _) Z fun N E h=>Go 3 Z (Cn Z h (fun m h=>?_) (fun m h=>?_)))
 ·exact Gc 7 Z (Rt h 2 [])
 refine Gc 6 Z (Cz [] h (k_cf _ _) Z fun O F h=>Go 3 Z (Cn Z h (fun p h=>?_) (fun p h=>?_)))
 ·exact Gc 7 Z (Rt h 2 [])
 refine Gc 6 Z (Cz [] h (k_ci _ _) Z fun P G h=>Go 10 Z (Cn Z h (fun q h=>?_) (fun q h=>?_)))
 ·exact Gc 8 Z (Rt h 2 [])
 refine Gc 8 Z (Bd h fun s t h=>?_)
 refine CtE (b:=s) [] [] (fun _=>[]) (fun _=>[]) (fun _=>rfl) ?_ (fun y env H u w=>?_)
 ·refine G0 1 Z ?_
  refine Lp [0] [1] (fun f=>[(4,I f)]) (fun _=>[]) t (fun _=>rfl) (Lr [0]) fun f J a e=>?_
  refine G0 6 Z (Lm Z (Go 3 Z (Ys Z a (fun g a=>?_) (fun g a=>?_))))
  ·refine Gc 2 Z (Qm a ?_)
   obtain rfl:=Oj e a
   exact Gx 1 Z (Qp Z (Lr []))
  refine Gc 5 Z (DSs 6 Z (D 4 Z ?_))
  obtain⟨d,i,a⟩:=Y3 a
  refine DS.wo (x:=.rp [.str d.Name,.rsl 3 (List.map Part.enc d.Route),I d.Timing,.rsl 3 (List.map Cutoff.c d.Cutoffs),I d.Extra]) ?_ ?_
  ·exact Ix i runUnderlying24 sizeOf94 Z Wp
  refine D 1 Z (DS.done Z (Cz [] a (k_cp _ _ _) Z fun L z a=>Go 3 Z (Cn Z a (fun j a=>?_) (fun j a=>?_))))
  ·refine Gc 8 Z (Qx a ?_)
   obtain rfl:=Oj e a
   exact Gx 1 Z (Qq (Gx 1 Z (Rt h 2 [])))
  exact Gc 8 Z (Qj a (Lr [0]))
 subst u
 exact Gx 1 Z (TC.le w (Gc 6 Z (Rt h 2 [])))
def F_b(n:Nat)(a:Int)(b:Int)(c:Int):Option Bool:=
  ((bif decide (b<=a)then some (decide (a<=c))else some false):Option Bool).bind fun b2=>some b2
theorem k_b(n:Nat)(b:Int)(c:Int)(d:Int)(r:Bool)(h:F_b n b c d=some r):
    Csm prog 132 [I b,I c,I d] [] (fun r=>.bool r) r:=by
 refine Qb func132 Z Z Z ?_
 refine G0 6 Z (Bd h fun b2 a h=>?_)
 refine Ct b2 [] [] (fun b2=>[(6,.bool b2)]) (fun _=>[]) (fun _=>rfl) ?_ (fun env H e=>?_)
 ·refine G0 5 Z (Is 10 a Z (fun f a=>?_) (fun f a=>?_))
  ·exact Go 6 Z (Cl a [])
  ·exact Go 6 Z (Cl a [])
 exact Gx 1 Z (TC.le e (Gc 1 Z (Rt h 6 [])))
def F_ai(n:Nat)(a:Int):Option Bool:=
  (F_b n a 0 31).bind fun b=>some b
theorem QiE(n:Nat)(a:Int)(r:Bool)(h:F_ai n a=some r):
    Csm prog 130 [I a] [] (fun r=>.bool r) r:=by
 refine Qb func130 Z Z Z ?_
 exact G0 8 Z (Cz [] h (k_b _ _ _ _) Z fun c b h=>Go 4 Z (Rt h 2 []))
def F_am(n:Nat)(a:Int):Option Bool:=
  (F_b n a 1 1048576).bind fun b=>some b
theorem Qkh(n:Nat)(a:Int)(r:Bool)(h:F_am n a=some r):
    Csm prog 131 [I a] [] (fun r=>.bool r) r:=by
 refine Qb func131 Z Z Z ?_
 exact G0 8 Z (Cz [] h (k_b _ _ _ _) Z fun c b h=>Go 4 Z (Rt h 2 []))
def F_f(n:Nat)(a:Int):Option Bool:=
  (F_b n a 1 9999).bind fun b=>some b
theorem k_f(n:Nat)(a:Int)(r:Bool)(h:F_f n a=some r):
    Csm prog 182 [I a] [] (fun r=>.bool r) r:=by
 refine Qb func182 Z Z Z ?_
 exact G0 8 Z (Cz [] h (k_b _ _ _ _) Z fun c b h=>Go 4 Z (Rt h 2 []))
def F_d(n:Nat)(a:Int):Option Bool:=
  (F_b n a (-1099511627776) 1099511627776).bind fun b=>some b
theorem k_d(n:Nat)(a:Int)(r:Bool)(h:F_d n a=some r):
    Csm prog 180 [I a] [] (fun r=>.bool r) r:=by
 refine Qb func180 Z Z Z ?_
 exact G0 8 Z (Cz [] h (k_b _ _ _ _) Z fun c b h=>Go 4 Z (Rt h 2 []))
def F_bp(n:Nat)(a:Int):Option Bool:=
  (F_b n a 0 1048576).bind fun b=>some b
theorem k_bp(n:Nat)(a:Int)(r:Bool)(h:F_bp n a=some r):
    Csm prog 179 [I a] [] (fun r=>.bool r) r:=by
 refine Qb func179 Z Z Z ?_
 exact G0 8 Z (Cz [] h (k_b _ _ _ _) Z fun c b h=>Go 4 Z (Rt h 2 []))
def F_gl(n:Nat)(a:Starter):Option Bool:=
  ((F_f n a.Bib).bind fun b=>(bif b then(F_b n a.Distance 0 7).bind fun c=>(bif c then(F_b n a.Wave 0 31).bind fun d=>(bif d then(F_d n a.Slot).bind fun e=>(bif e then(F_b n a.Age 0 120).bind fun f=>(bif f then(F_bp n a.Chip).bind fun g=>(bif g then(F_b n a.Team 0 9999).bind fun h=>(bif h then(F_b n a.Lot 0 1048576).bind fun i=>some i else some false)else some false)else some false)else some false)else some false)else some false)else some false):Option Bool).bind fun j=>some j
theorem k_gl(n:Nat)(l:Starter)(r:Bool)(h:F_gl n l=some r):
    Csm prog 176 [.agg (Starter.c l)] [] (fun r=>.bool r) r:=by
 refine Qb func176 Z Z Z ?_
 refine G0 7 Z (Bd h fun b a h=>?_)
 refine Ct b [] [] (fun b=>[(2,.bool b)]) (fun _=>[]) (fun _=>rfl) ?_ (fun env H m=>?_)
 ·refine G0 3 Z (Cz [] a (k_f _ _) Z fun z p a=>Go 1 Z (Is 6 a Z (fun d a=>?_) (fun d a=>?_)))
  ·refine Go 2 Z (Cz [] a (k_b _ _ _ _) Z fun B q a=>Go 2 Z (Is 11 a Z (fun e a=>?_) (fun e a=>?_)))
   ·refine Go 2 Z (Cz [] a (k_b _ _ _ _) Z fun E s a=>Go 2 Z (Is 16 a Z (fun f a=>?_) (fun f a=>?_)))
    ·refine Go 2 Z (Cz [] a (k_d _ _) Z fun F t a=>Go 2 Z (Is 21 a Z (fun g a=>?_) (fun g a=>?_)))
     ·refine Go 2 Z (Cz [] a (k_b _ _ _ _) Z fun G u a=>Go 2 Z (Is 26 a Z (fun i a=>?_) (fun i a=>?_)))
      ·refine Go 2 Z (Cz [] a (k_bp _ _) Z fun J w a=>Go 2 Z (Is 31 a Z (fun j a=>?_) (fun j a=>?_)))
       ·refine Go 2 Z (Cz [] a (k_b _ _ _ _) Z fun L x a=>Go 2 Z (Is 36 a Z (fun k a=>?_) (fun k a=>?_)))
        ·exact Go 2 Z (Cz [] a (k_b _ _ _ _) Z fun M y a=>Go 3 Z (Cl a []))
        ·exact Go 6 Z (Cl a [])
       ·exact Go 11 Z (Cl a [])
      ·exact Go 16 Z (Cl a [])
     ·exact Go 21 Z (Cl a [])
    ·exact Go 26 Z (Cl a [])
   ·exact Go 31 Z (Cl a [])
  ·exact Go 36 Z (Cl a [])
 exact Gx 1 Z (TC.le m (Gc 1 Z (Rt h 2 [])))
def F_ad(n:Nat)(a:Int):Option Bool:=
  (F_b n a 0 39).bind fun b=>some b
theorem QlF(n:Nat)(a:Int)(r:Bool)(h:F_ad n a=some r):
    Csm prog 177 [I a] [] (fun r=>.bool r) r:=by
 refine Qb func177 Z Z Z ?_
 exact G0 8 Z (Cz [] h (k_b _ _ _ _) Z fun c b h=>Go 4 Z (Rt h 2 []))
def F_ab(n:Nat)(a:Int):Option Bool:=
  (F_b n a 0 255).bind fun b=>some b
theorem QlG(n:Nat)(a:Int)(r:Bool)(h:F_ab n a=some r):
    Csm prog 178 [I a] [] (fun r=>.bool r) r:=by
 refine Qb func178 Z Z Z ?_
 exact G0 8 Z (Cz [] h (k_b _ _ _ _) Z fun c b h=>Go 4 Z (Rt h 2 []))
def F_gi(n:Nat)(a:Sync):Option Bool:=
  ((F_ad n a.MatA).bind fun b=>(bif b then(F_ad n a.MatB).bind fun c=>(bif c then(F_ab n a.EpochA).bind fun d=>(bif d then(F_ab n a.EpochB).bind fun e=>(bif e then(F_d n a.LocalA).bind fun f=>(bif f then(F_d n a.LocalB).bind fun g=>(bif g then(F_d n a.Min).bind fun h=>(bif h then(F_d n a.Max).bind fun i=>(bif i then some (decide (a.Min<=a.Max))else some false)else some false)else some false)else some false)else some false)else some false)else some false)else some false):Option Bool).bind fun j=>some j
theorem k_gi(n:Nat)(m:Sync)(r:Bool)(h:F_gi n m=some r):
    Csm prog 181 [.agg (Sync.c m)] [] (fun r=>.bool r) r:=by
 refine Qb func181 Z Z Z ?_
 refine G0 7 Z (Bd h fun b a h=>?_)
 refine Ct b [] [] (fun b=>[(2,.bool b)]) (fun _=>[]) (fun _=>rfl) ?_ (fun env H p=>?_)
 ·refine G0 3 Z (Cz [] a (QlF _ _) Z fun B q a=>Go 1 Z (Is 6 a Z (fun d a=>?_) (fun d a=>?_)))
  ·refine Go 2 Z (Cz [] a (QlF _ _) Z fun E s a=>Go 2 Z (Is 11 a Z (fun e a=>?_) (fun e a=>?_)))
   ·refine Go 2 Z (Cz [] a (QlG _ _) Z fun F t a=>Go 2 Z (Is 16 a Z (fun f a=>?_) (fun f a=>?_)))
    ·refine Go 2 Z (Cz [] a (QlG _ _) Z fun G u a=>Go 2 Z (Is 21 a Z (fun g a=>?_) (fun g a=>?_)))
     ·refine Go 2 Z (Cz [] a (k_d _ _) Z fun J w a=>Go 2 Z (Is 26 a Z (fun i a=>?_) (fun i a=>?_)))
      ·refine Go 2 Z (Cz [] a (k_d _ _) Z fun L x a=>Go 2 Z (Is 31 a Z (fun j a=>?_) (fun j a=>?_)))
       ·refine Go 2 Z (Cz [] a (k_d _ _) Z fun M y a=>Go 2 Z (Is 36 a Z (fun k a=>?_) (fun k a=>?_)))
        ·refine Go 2 Z (Cz [] a (k_d _ _) Z fun N z a=>Go 2 Z (Is 41 a Z (fun l a=>?_) (fun l a=>?_)))
         ·exact Go 8 Z (Cl a [])
         ·exact Go 8 Z (Cl a [])
        ·exact Go 13 Z (Cl a [])
       ·exact Go 18 Z (Cl a [])
      ·exact Go 23 Z (Cl a [])
     ·exact Go 28 Z (Cl a [])
    ·exact Go 33 Z (Cl a [])
   ·exact Go 38 Z (Cl a [])
  ·exact Go 43 Z (Cl a [])
 exact Gx 1 Z (TC.le p (Gc 1 Z (Rt h 2 [])))
def F_ae(n:Nat)(a:Int):Option Bool:=
  (F_b n a 0 255).bind fun b=>some b
theorem QlE(n:Nat)(a:Int)(r:Bool)(h:F_ae n a=some r):
    Csm prog 183 [I a] [] (fun r=>.bool r) r:=by
 refine Qb func183 Z Z Z ?_
 exact G0 8 Z (Cz [] h (k_b _ _ _ _) Z fun c b h=>Go 4 Z (Rt h 2 []))
def F_ak(n:Nat)(a:Int):Option Bool:=
  (F_b n a 1 1048576).bind fun b=>some b
theorem k_ak(n:Nat)(a:Int)(r:Bool)(h:F_ak n a=some r):
    Csm prog 184 [I a] [] (fun r=>.bool r) r:=by
 refine Qb func184 Z Z Z ?_
 exact G0 8 Z (Cz [] h (k_b _ _ _ _) Z fun c b h=>Go 4 Z (Rt h 2 []))
def F_hp(n:Nat)(a:Ruling):Option Bool:=
  ((F_ak n a.Case).bind fun q=>(bif (!q)then some true else(F_b n a.Instance 1 2).bind fun r=>some (!r)):Option Bool).bind fun s=>(bif s then some false else((bif (a.Kind==1)then some (a.Kind==1)else some (a.Kind==2)):Option Bool).bind fun b=>(bif b then((bif (a.Bib==0)then(bif (a.Position==0)then some (a.Amount==0)else some false)else some false):Option Bool).bind fun c=>some c else(bif (a.Kind==3)then((F_f n a.Bib).bind fun d=>(bif d then(F_ae n a.Position).bind fun e=>(bif e then(F_b n a.Amount 1 1099511627776).bind fun f=>some f else some false)else some false):Option Bool).bind fun g=>some g else(bif (a.Kind==4)then((F_f n a.Bib).bind fun h=>(bif h then(F_ae n a.Position).bind fun i=>(bif i then(F_b n a.Amount 1 64).bind fun j=>some j else some false)else some false):Option Bool).bind fun k=>some k else(bif (a.Kind==5)then((F_f n a.Bib).bind fun l=>(bif l then(F_ae n a.Position).bind fun m=>(bif m then some (a.Amount==0)else some false)else some false):Option Bool).bind fun p=>some p else some false)))))
theorem k_hp(n:Nat)(M:Ruling)(r:Bool)(h:F_hp n M=some r):
    Csm prog 185 [.agg (Ruling.c M)] [] (fun r=>.bool r) r:=by
 refine Qb func185 Z Z Z ?_
 refine G0 8 Z (Bd h fun q g h=>?_)
 refine Ct q [0] [1] (fun q=>[(12,.bool q)]) (fun _=>[]) (fun _=>rfl) ?_ (fun env H e=>?_)
 ·refine G0 3 Z (Cz [] g (k_ak _ _) Z fun r6 aa g=>Go 2 Z (Is 7 g Z (fun N g=>?_) (fun N g=>?_)))
  ·exact Go 6 Z (Cl g [0])
  ·exact Go 2 Z (Cz [] g (k_b _ _ _ _) Z fun r8 ab g=>Go 3 Z (Cl g [0]))
 refine Gx 1 Z (TC.le e (Cn Z h (fun O h=>?_) (fun O h=>?_)))
 ·exact Gc 7 Z (Rt h 2 [])
 refine Gc 17 Z (Bd h fun j i h=>?_)
 refine Ct j [0] [1,14] (fun j=>[(15,.bool j)]) (fun _=>[]) (fun _=>rfl) ?_ (fun env H e=>?_)
 ·refine G0 0 Z (Cn Z i (fun s i=>?_) (fun s i=>?_))
  ·exact Gc 1 Z (Cl i [0])
  exact Gc 4 Z (Cl i [0])
 refine Gx 1 Z (TC.le e (Cn Z h (fun t h=>?_) (fun t h=>?_)))
 ·refine Gc 1 Z (Bd h fun k f h=>?_)
  refine Ct k [] [] (fun k=>[(2,.bool k)]) (fun _=>[]) (fun _=>rfl) ?_ (fun env H e=>?_)
  ·refine G0 5 Z (Is 21 f Z (fun u f=>?_) (fun u f=>?_))
   ·refine Go 5 Z (Is 26 f Z (fun w f=>?_) (fun w f=>?_))
    ·exact Go 6 Z (Cl f [])
    ·exact Go 6 Z (Cl f [])
   ·exact Go 11 Z (Cl f [])
  exact Gx 1 Z (TC.le e (Gc 3 Z (Rt h 2 [])))
 refine Gc 6 Z (Cn Z h (fun x h=>?_) (fun x h=>?_))
 ·refine Gc 1 Z (Bd h fun l a h=>?_)
  refine Ct l [] [] (fun l=>[(2,.bool l)]) (fun _=>[]) (fun _=>rfl) ?_ (fun env H e=>?_)
  ·refine G0 3 Z (Cz [] a (k_f _ _) Z fun ac P a=>Go 1 Z (Is 36 a Z (fun y a=>?_) (fun y a=>?_)))
   ·refine Go 2 Z (Cz [] a (QlE _ _) Z fun ad Q a=>Go 2 Z (Is 41 a Z (fun z a=>?_) (fun z a=>?_)))
    ·exact Go 2 Z (Cz [] a (k_b _ _ _ _) Z fun ae R a=>Go 3 Z (Cl a []))
    ·exact Go 6 Z (Cl a [])
   ·exact Go 11 Z (Cl a [])
  exact Gx 1 Z (TC.le e (Gc 3 Z (Rt h 2 [])))
 refine Gc 6 Z (Cn Z h (fun B h=>?_) (fun B h=>?_))
 ·refine Gc 1 Z (Bd h fun m b h=>?_)
  refine Ct m [] [] (fun m=>[(2,.bool m)]) (fun _=>[]) (fun _=>rfl) ?_ (fun env H e=>?_)
  ·refine G0 3 Z (Cz [] b (k_f _ _) Z fun af T b=>Go 1 Z (Is 51 b Z (fun E b=>?_) (fun E b=>?_)))
   ·refine Go 2 Z (Cz [] b (QlE _ _) Z fun ag V b=>Go 2 Z (Is 56 b Z (fun F b=>?_) (fun F b=>?_)))
    ·exact Go 2 Z (Cz [] b (k_b _ _ _ _) Z fun ah W b=>Go 3 Z (Cl b []))
    ·exact Go 6 Z (Cl b [])
   ·exact Go 11 Z (Cl b [])
  exact Gx 1 Z (TC.le e (Gc 3 Z (Rt h 2 [])))
 refine Gc 6 Z (Cn Z h (fun G h=>?_) (fun G h=>?_))
 ·refine Gc 1 Z (Bd h fun p d h=>?_)
  refine Ct p [] [] (fun p=>[(2,.bool p)]) (fun _=>[]) (fun _=>rfl) ?_ (fun env H e=>?_)
  ·refine G0 3 Z (Cz [] d (k_f _ _) Z fun ai X d=>Go 1 Z (Is 66 d Z (fun J d=>?_) (fun J d=>?_)))
   ·refine Go 2 Z (Cz [] d (QlE _ _) Z fun aj Y d=>Go 2 Z (Is 71 d Z (fun L d=>?_) (fun L d=>?_)))
    ·exact Go 6 Z (Cl d [])
    ·exact Go 6 Z (Cl d [])
   ·exact Go 11 Z (Cl d [])
  exact Gx 1 Z (TC.le e (Gc 3 Z (Rt h 2 [])))
 exact Gc 9 Z (Rt h 2 [])
def F_bq(n:Nat)(a:Fact):Option Bool:=
  (bif (a.Kind==1)then(F_gl n a.Starter).bind fun r2=>some r2 else(bif (a.Kind==2)then((F_ad n a.Read.Mat).bind fun s=>(bif s then(F_ab n a.Read.Epoch).bind fun t=>(bif t then(F_bp n a.Read.Chip).bind fun u=>(bif u then(F_d n a.Read.Local).bind fun w=>some w else some false)else some false)else some false):Option Bool).bind fun x=>some x else(bif (a.Kind==3)then((F_ad n a.Beacon.Mat).bind fun y=>(bif y then(F_ab n a.Beacon.Epoch).bind fun z=>(bif z then(F_d n a.Beacon.Local).bind fun E=>(bif E then(F_d n a.Beacon.True).bind fun F=>(bif F then(F_b n a.Beacon.Err 0 1099511627776).bind fun G=>some G else some false)else some false)else some false)else some false):Option Bool).bind fun H=>some H else(bif (a.Kind==4)then(F_gi n a.Sync).bind fun J=>some J else(bif (a.Kind==5)then((F_f n a.Hand.Bib).bind fun L=>(bif L then(F_ae n a.Hand.Position).bind fun M=>(bif M then(F_d n a.Hand.Lo).bind fun N=>(bif N then(F_d n a.Hand.Hi).bind fun O=>(bif O then some (decide (a.Hand.Lo<=a.Hand.Hi))else some false)else some false)else some false)else some false):Option Bool).bind fun P=>some P else(bif (a.Kind==6)then((F_ad n a.Silence.Mat).bind fun Q=>(bif Q then(F_ab n a.Silence.Epoch).bind fun R=>(bif R then(F_d n a.Silence.Lo).bind fun T=>(bif T then(F_d n a.Silence.Hi).bind fun V=>(bif V then some (decide (a.Silence.Lo<=a.Silence.Hi))else some false)else some false)else some false)else some false):Option Bool).bind fun W=>some W else(bif (a.Kind==7)then((F_f n a.Pair.A).bind fun X=>(bif X then(F_f n a.Pair.B).bind fun Y=>(bif Y then some (decide (a.Pair.A<a.Pair.B))else some false)else some false):Option Bool).bind fun aa=>some aa else(bif (a.Kind==8)then((F_ak n a.Report.Case).bind fun b=>(bif b then(F_f n a.Report.Bib).bind fun c=>(bif c then(F_b n a.Report.Offence 0 31).bind fun d=>(bif d then(F_ae n a.Report.Position).bind fun e=>some e else some false)else some false)else some false):Option Bool).bind fun f=>some f else(bif (a.Kind==9)then((F_ak n a.Protest.Case).bind fun g=>(bif g then(F_b n a.Protest.By 0 9999).bind fun h=>(bif h then(F_b n a.Protest.Fee 0 1125899906842624).bind fun i=>(bif i then(F_b n a.Protest.Form 0 1).bind fun j=>some j else some false)else some false)else some false):Option Bool).bind fun k=>some k else(bif (a.Kind==10)then(F_hp n a.Ruling).bind fun l=>some l else(bif (a.Kind==11)then(F_ak n a.Appeal.Case).bind fun m=>some m else(bif (a.Kind==12)then some true else(bif (a.Kind==13)then((F_ai n a.Void.Crew).bind fun p=>(bif p then(F_am n a.Void.No).bind fun q=>some q else some false):Option Bool).bind fun r=>some r else some false)))))))))))))
theorem k_bq(n:Nat)(a1:Fact)(r:Bool)(h:F_bq n a1=some r):
    Csm prog 133 [.agg (Fact.c a1)] [] (fun r=>.bool r) r:=by
 refine Qb func133 Z Z Z ?_
 refine G0 20 Z (Cn Z h (fun aq h=>?_) (fun aq h=>?_))
 ·exact Gc 4 Z (Cz [] h (k_gl _ _) Z fun r2 cn h=>Go 6 Z (Rt h 2 []))
 refine Gc 6 Z (Cn Z h (fun ar h=>?_) (fun ar h=>?_))
 ·refine Gc 1 Z (Bd h fun q g h=>?_)
  refine Ct q [] [] (fun q=>[(2,.bool q)]) (fun _=>[]) (fun _=>rfl) ?_ (fun env H i=>?_)
  ·refine G0 4 Z (Cz [] g (QlF _ _) Z fun co bg g=>Go 1 Z (Is 16 g Z (fun P g=>?_) (fun P g=>?_)))
   ·refine Go 3 Z (Cz [] g (QlG _ _) Z fun cp bh g=>Go 2 Z (Is 22 g Z (fun Q g=>?_) (fun Q g=>?_)))
    ·refine Go 3 Z (Cz [] g (k_bp _ _) Z fun cq bi g=>Go 2 Z (Is 28 g Z (fun R g=>?_) (fun R g=>?_)))
     ·exact Go 3 Z (Cz [] g (k_d _ _) Z fun cr bj g=>Go 3 Z (Cl g []))
     ·exact Go 7 Z (Cl g [])
    ·exact Go 13 Z (Cl g [])
   ·exact Go 19 Z (Cl g [])
  exact Gx 1 Z (TC.le i (Gc 3 Z (Rt h 2 [])))
 refine Gc 6 Z (Cn Z h (fun T h=>?_) (fun T h=>?_))
 ·refine Gc 1 Z (Bd h fun s d h=>?_)
  refine Ct s [] [] (fun s=>[(2,.bool s)]) (fun _=>[]) (fun _=>rfl) ?_ (fun env H i=>?_)
  ·refine G0 4 Z (Cz [] d (QlF _ _) Z fun cs bk d=>Go 1 Z (Is 40 d Z (fun V d=>?_) (fun V d=>?_)))
   ·refine Go 3 Z (Cz [] d (QlG _ _) Z fun ct bl d=>Go 2 Z (Is 46 d Z (fun W d=>?_) (fun W d=>?_)))
    ·refine Go 3 Z (Cz [] d (k_d _ _) Z fun cu bm d=>Go 2 Z (Is 52 d Z (fun X d=>?_) (fun X d=>?_)))
     ·refine Go 3 Z (Cz [] d (k_d _ _) Z fun cv bn d=>Go 2 Z (Is 58 d Z (fun Y d=>?_) (fun Y d=>?_)))
      ·exact Go 3 Z (Cz [] d (k_b _ _ _ _) Z fun cw bo d=>Go 3 Z (Cl d []))
      ·exact Go 7 Z (Cl d [])
     ·exact Go 13 Z (Cl d [])
    ·exact Go 19 Z (Cl d [])
   ·exact Go 25 Z (Cl d [])
  exact Gx 1 Z (TC.le i (Gc 3 Z (Rt h 2 [])))
 refine Gc 6 Z (Cn Z h (fun aa h=>?_) (fun aa h=>?_))
 ·exact Gc 4 Z (Cz [] h (k_gi _ _) Z fun cx bp h=>Go 6 Z (Rt h 2 []))
 refine Gc 6 Z (Cn Z h (fun ab h=>?_) (fun ab h=>?_))
 ·refine Gc 1 Z (Bd h fun t e h=>?_)
  refine Ct t [] [] (fun t=>[(2,.bool t)]) (fun _=>[]) (fun _=>rfl) ?_ (fun env H i=>?_)
  ·refine G0 4 Z (Cz [] e (k_f _ _) Z fun cy bq e=>Go 1 Z (Is 75 e Z (fun ac e=>?_) (fun ac e=>?_)))
   ·refine Go 3 Z (Cz [] e (QlE _ _) Z fun cz br e=>Go 2 Z (Is 81 e Z (fun ad e=>?_) (fun ad e=>?_)))
    ·refine Go 3 Z (Cz [] e (k_d _ _) Z fun da bs e=>Go 2 Z (Is 87 e Z (fun ae e=>?_) (fun ae e=>?_)))
     ·refine Go 3 Z (Cz [] e (k_d _ _) Z fun db bt e=>Go 2 Z (Is 93 e Z (fun af e=>?_) (fun af e=>?_)))
      ·exact Go 10 Z (Cl e [])
      ·exact Go 10 Z (Cl e [])
     ·exact Go 16 Z (Cl e [])
    ·exact Go 22 Z (Cl e [])
   ·exact Go 28 Z (Cl e [])
  exact Gx 1 Z (TC.le i (Gc 3 Z (Rt h 2 [])))
 refine Gc 6 Z (Cn Z h (fun ag h=>?_) (fun ag h=>?_))
 ·refine Gc 1 Z (Bd h fun u f h=>?_)
  refine Ct u [] [] (fun u=>[(2,.bool u)]) (fun _=>[]) (fun _=>rfl) ?_ (fun env H i=>?_)
  ·refine G0 4 Z (Cz [] f (QlF _ _) Z fun dc bu f=>Go 1 Z (Is 108 f Z (fun ah f=>?_) (fun ah f=>?_)))
   ·refine Go 3 Z (Cz [] f (QlG _ _) Z fun dd bv f=>Go 2 Z (Is 114 f Z (fun ai f=>?_) (fun ai f=>?_)))
    ·refine Go 3 Z (Cz [] f (k_d _ _) Z fun de bw f=>Go 2 Z (Is 120 f Z (fun aj f=>?_) (fun aj f=>?_)))
     ·refine Go 3 Z (Cz [] f (k_d _ _) Z fun df bx f=>Go 2 Z (Is 126 f Z (fun ak f=>?_) (fun ak f=>?_)))
      ·exact Go 10 Z (Cl f [])
      ·exact Go 10 Z (Cl f [])
     ·exact Go 16 Z (Cl f [])
    ·exact Go 22 Z (Cl f [])
   ·exact Go 28 Z (Cl f [])
  exact Gx 1 Z (TC.le i (Gc 3 Z (Rt h 2 [])))
 refine Gc 6 Z (Cn Z h (fun al h=>?_) (fun al h=>?_))
 ·refine Gc 1 Z (Bd h fun w j h=>?_)
  refine Ct w [] [] (fun w=>[(2,.bool w)]) (fun _=>[]) (fun _=>rfl) ?_ (fun env H i=>?_)
  ·refine G0 4 Z (Cz [] j (k_f _ _) Z fun dg bz j=>Go 1 Z (Is 141 j Z (fun am j=>?_) (fun am j=>?_)))
   ·refine Go 3 Z (Cz [] j (k_f _ _) Z fun dh ca j=>Go 2 Z (Is 147 j Z (fun an j=>?_) (fun an j=>?_)))
    ·exact Go 10 Z (Cl j [])
    ·exact Go 10 Z (Cl j [])
   ·exact Go 16 Z (Cl j [])
  exact Gx 1 Z (TC.le i (Gc 3 Z (Rt h 2 [])))
 refine Gc 6 Z (Cn Z h (fun ao h=>?_) (fun ao h=>?_))
 ·refine Gc 1 Z (Bd h fun l a h=>?_)
  refine Ct l [] [] (fun l=>[(2,.bool l)]) (fun _=>[]) (fun _=>rfl) ?_ (fun env H i=>?_)
  ·refine G0 4 Z (Cz [] a (k_ak _ _) Z fun cb au a=>Go 1 Z (Is 162 a Z (fun x a=>?_) (fun x a=>?_)))
   ·refine Go 3 Z (Cz [] a (k_f _ _) Z fun cc av a=>Go 2 Z (Is 168 a Z (fun y a=>?_) (fun y a=>?_)))
    ·refine Go 3 Z (Cz [] a (k_b _ _ _ _) Z fun cd aw a=>Go 2 Z (Is 174 a Z (fun z a=>?_) (fun z a=>?_)))
     ·exact Go 3 Z (Cz [] a (QlE _ _) Z fun ce ax a=>Go 3 Z (Cl a []))
     ·exact Go 7 Z (Cl a [])
    ·exact Go 13 Z (Cl a [])
   ·exact Go 19 Z (Cl a [])
  exact Gx 1 Z (TC.le i (Gc 3 Z (Rt h 2 [])))
 refine Gc 6 Z (Cn Z h (fun B h=>?_) (fun B h=>?_))
 ·refine Gc 1 Z (Bd h fun m b h=>?_)
  refine Ct m [] [] (fun m=>[(2,.bool m)]) (fun _=>[]) (fun _=>rfl) ?_ (fun env H i=>?_)
  ·refine G0 4 Z (Cz [] b (k_ak _ _) Z fun cf ay b=>Go 1 Z (Is 186 b Z (fun E b=>?_) (fun E b=>?_)))
   ·refine Go 3 Z (Cz [] b (k_b _ _ _ _) Z fun cg az b=>Go 2 Z (Is 192 b Z (fun F b=>?_) (fun F b=>?_)))
    ·refine Go 3 Z (Cz [] b (k_b _ _ _ _) Z fun ch ba b=>Go 2 Z (Is 198 b Z (fun G b=>?_) (fun G b=>?_)))
     ·exact Go 3 Z (Cz [] b (k_b _ _ _ _) Z fun ci bb b=>Go 3 Z (Cl b []))
     ·exact Go 7 Z (Cl b [])
    ·exact Go 13 Z (Cl b [])
   ·exact Go 19 Z (Cl b [])
  exact Gx 1 Z (TC.le i (Gc 3 Z (Rt h 2 [])))
 refine Gc 6 Z (Cn Z h (fun J h=>?_) (fun J h=>?_))
 ·exact Gc 4 Z (Cz [] h (k_hp _ _) Z fun cj bc h=>Go 6 Z (Rt h 2 []))
 refine Gc 6 Z (Cn Z h (fun L h=>?_) (fun L h=>?_))
 ·exact Gc 5 Z (Cz [] h (k_ak _ _) Z fun ck bd h=>Go 6 Z (Rt h 2 []))
 refine Gc 6 Z (Cn Z h (fun M h=>?_) (fun M h=>?_))
 ·exact Gc 8 Z (Rt h 2 [])
 refine Gc 6 Z (Cn Z h (fun N h=>?_) (fun N h=>?_))
 ·refine Gc 1 Z (Bd h fun p k h=>?_)
  refine Ct p [] [] (fun p=>[(2,.bool p)]) (fun _=>[]) (fun _=>rfl) ?_ (fun env H i=>?_)
  ·refine G0 4 Z (Cz [] k (QiE _ _) Z fun cl be k=>Go 1 Z (Is 223 k Z (fun O k=>?_) (fun O k=>?_)))
   ·exact Go 3 Z (Cz [] k (Qkh _ _) Z fun cm bf k=>Go 3 Z (Cl k []))
   ·exact Go 7 Z (Cl k [])
  exact Gx 1 Z (TC.le i (Gc 3 Z (Rt h 2 [])))
 exact Gc 9 Z (Rt h 2 [])
def F_cd(n:Nat)(a:Fact):Option Fact:=
  ((bif (a.Kind==1)then some ({z_Fact with Crew:=a.Crew,No:=a.No,At:=a.At,Kind:=a.Kind,Starter:=a.Starter:Fact})else(bif (a.Kind==2)then some ({z_Fact with Crew:=a.Crew,No:=a.No,At:=a.At,Kind:=a.Kind,Read:=a.Read:Fact})else(bif (a.Kind==3)then some ({z_Fact with Crew:=a.Crew,No:=a.No,At:=a.At,Kind:=a.Kind,Beacon:=a.Beacon:Fact})else(bif (a.Kind==4)then some ({z_Fact with Crew:=a.Crew,No:=a.No,At:=a.At,Kind:=a.Kind,Sync:=a.Sync:Fact})else(bif (a.Kind==5)then some ({z_Fact with Crew:=a.Crew,No:=a.No,At:=a.At,Kind:=a.Kind,Hand:=a.Hand:Fact})else(bif (a.Kind==6)then some ({z_Fact with Crew:=a.Crew,No:=a.No,At:=a.At,Kind:=a.Kind,Silence:=a.Silence:Fact})else(bif (a.Kind==7)then some ({z_Fact with Crew:=a.Crew,No:=a.No,At:=a.At,Kind:=a.Kind,Pair:=a.Pair:Fact})else(bif (a.Kind==8)then some ({z_Fact with Crew:=a.Crew,No:=a.No,At:=a.At,Kind:=a.Kind,Report:=a.Report:Fact})else(bif (a.Kind==9)then some ({z_Fact with Crew:=a.Crew,No:=a.No,At:=a.At,Kind:=a.Kind,Protest:=a.Protest:Fact})else(bif (a.Kind==10)then some ({z_Fact with Crew:=a.Crew,No:=a.No,At:=a.At,Kind:=a.Kind,Ruling:=a.Ruling:Fact})else(bif (a.Kind==11)then some ({z_Fact with Crew:=a.Crew,No:=a.No,At:=a.At,Kind:=a.Kind,Appeal:=a.Appeal:Fact})else(bif (a.Kind==13)then some ({z_Fact with Crew:=a.Crew,No:=a.No,At:=a.At,Kind:=a.Kind,Void:=a.Void:Fact})else some ({z_Fact with Crew:=a.Crew,No:=a.No,At:=a.At,Kind:=a.Kind:Fact}))))))))))))):Option Fact).bind fun b=>some b
theorem k_cd(n:Nat)(t:Fact)(r:Fact)(h:F_cd n t=some r):
    C prog 134 [.agg (Fact.c t)] [] (RQ (fun r=>.agg (Fact.c r)) (fun r=>[.cells 81 (Fact.c r)]) r):=by
 refine Qb func134 Z Z Z ?_
 refine G0 35 Z (Bd h fun b a h=>?_)
 refine Ct b [1,2] [2,3] (fun _=>[]) (fun b=>[(1,.cells 81 (Fact.c b))]) (fun _=>rfl) ?_ (fun env H u=>?_)
 ·refine G0 0 Z (Cn Z a (fun d a=>?_) (fun d a=>?_))
  ·exact Gc 6 Z (Cl a [1,2])
  refine Gc 6 Z (Cn Z a (fun e a=>?_) (fun e a=>?_))
  ·exact Gc 6 Z (Cl a [1,2])
  refine Gc 6 Z (Cn Z a (fun f a=>?_) (fun f a=>?_))
  ·exact Gc 6 Z (Cl a [1,2])
  refine Gc 6 Z (Cn Z a (fun g a=>?_) (fun g a=>?_))
  ·exact Gc 6 Z (Cl a [1,2])
  refine Gc 6 Z (Cn Z a (fun i a=>?_) (fun i a=>?_))
  ·exact Gc 6 Z (Cl a [1,2])
  refine Gc 6 Z (Cn Z a (fun j a=>?_) (fun j a=>?_))
  ·exact Gc 6 Z (Cl a [1,2])
  refine Gc 6 Z (Cn Z a (fun k a=>?_) (fun k a=>?_))
  ·exact Gc 6 Z (Cl a [1,2])
  refine Gc 6 Z (Cn Z a (fun l a=>?_) (fun l a=>?_))
  ·exact Gc 6 Z (Cl a [1,2])
  refine Gc 6 Z (Cn Z a (fun m a=>?_) (fun m a=>?_))
  ·exact Gc 6 Z (Cl a [1,2])
  refine Gc 6 Z (Cn Z a (fun p a=>?_) (fun p a=>?_))
  ·exact Gc 6 Z (Cl a [1,2])
  refine Gc 6 Z (Cn Z a (fun q a=>?_) (fun q a=>?_))
  ·exact Gc 6 Z (Cl a [1,2])
  refine Gc 6 Z (Cn Z a (fun s a=>?_) (fun s a=>?_))
  ·exact Gc 6 Z (Cl a [1,2])
  exact Gc 1 Z (Cl a [1,2])
 refine Gx 2 Z (TC.le u (Gc 7 Z ?_))
 obtain rfl:=Oi h
 exact Rx [0] [2] Z (YC Z (Qs isAgg81 sizeOf81 Z Z Z)) ⟨Z,Z⟩
def F_bt(n:Nat)(a:Fact):Option Int:=
  ((F_ai n a.Crew).bind fun b=>(bif (!b)then some true else(F_am n a.No).bind fun c=>(bif (!c)then some true else(F_b n a.At 0 1099511627776).bind fun d=>(bif (!d)then some true else(F_bq n a).bind fun e=>(bif (!e)then some true else(F_cd n a).bind fun f=>some (a != f))))):Option Bool).bind fun g=>(bif g then some 120 else some 0)
theorem k_bt(n:Nat)(f:Fact)(r:Int)(h:F_bt n f=some r):
    Csm prog 62 [.agg (Fact.c f)] [] (fun r=>I r) r:=by
 refine Qb func62 Z Z Z ?_
 refine G0 8 Z (Bd h fun x d h=>?_)
 refine Ct x [] [] (fun x=>[(29,.bool x)]) (fun _=>[]) (fun _=>rfl) ?_ (fun env H B=>?_)
 ·refine G0 0 Z ?_
  obtain⟨j,l,d⟩:=Y3 d
  refine If d (fun a d=>?_) (fun a d=>?_)
  ·refine TC.draw0 25 [3,4,5,6,7,8,9,10,11,12,13,14,15,16,17,18,19,20,21,22,23,24,25,26,27] [.ptr 0 0,I f.Crew,.bool j,.bool (!j),.bool (!j),.tup [],.tup [],.tup [],.tup [],.bool true,.bool true,.tup [],.tup [],.tup [],.tup [],.bool true,.bool true,.tup [],.tup [],.tup [],.bool true,.bool true,.tup [],.tup [],.tup []] draws Z Z Z ?_ ?_
   ·refine ov (ov (Oq.c ?_ (Oq.c ?_ (ov (Oq.c ?_ (Oq.c ?_ (Oq.c ?_ (Oq.c ?_ (Oq.c ?_ (ov (Oq.c ?_ (Oq.c ?_ (Oq.c ?_ (Oq.c ?_ (Oq.c ?_ (ov (Oq.c ?_ (Oq.c ?_ (Oq.c ?_ (Oq.c ?_ (ov (Oq.c ?_ (Oq.c ?_ (Oq.c ?_ (Oq.n)))))))))))))))))))))))))
    ·refine Om Z (sD 1 sN) ?_
     exact Pc [] Z (OpC.fn call130 Z Z Z) (QiE _ _ _ l) Z Wp
    ·refine Om Z (sD 2 sN) ?_
     exact S Z Wp
    ·refine Om Z (sO 1 (sD 4 sN)) ?_
     exact K (gF a) Z Wp
    ·refine Om Z (sD 4 (sD 5 sN)) ?_
     exact K (gF a) Z Wp
    ·refine Om Z (sD 4 (sD 6 sN)) ?_
     exact K (gF a) Z Wp
    ·refine Om Z (sD 4 (sD 7 sN)) ?_
     exact K (gF a) Z Wp
    ·refine Om Z (sD 4 (sD 8 sN)) ?_
     exact Pk a Z Wp
    ·refine Om Z (sO 1 (sD 10 sN)) ?_
     exact K (gF Z) Z Wp
    ·refine Om Z (sD 10 (sD 11 sN)) ?_
     exact K (gF Z) Z Wp
    ·refine Om Z (sD 10 (sD 12 sN)) ?_
     exact K (gF Z) Z Wp
    ·refine Om Z (sD 10 (sD 13 sN)) ?_
     exact K (gF Z) Z Wp
    ·refine Om Z (sD 10 (sD 14 sN)) ?_
     exact S Z Wp
    ·refine Om Z (sO 1 (sD 16 sN)) ?_
     exact K (gF Z) Z Wp
    ·refine Om Z (sD 16 (sD 17 sN)) ?_
     exact K (gF Z) Z Wp
    ·refine Om Z (sD 16 (sD 18 sN)) ?_
     exact K (gF Z) Z Wp
    ·refine Om Z (sD 16 (sD 19 sN)) ?_
     exact S Z Wp
    ·refine Om Z (sO 1 (sD 21 sN)) ?_
     exact K (gF Z) Z Wp
    ·refine Om Z (sO 1 (sD 21 sN)) ?_
     exact K (gF Z) Z Wp
    ·refine Om Z (sD 21 (sD 23 sN)) ?_
     exact K (gF Z) Z Wp
   exact Go 3 Z (Cl d [])
  ·obtain⟨i,s,d⟩:=Y3 d
   refine If d (fun b d=>?_) (fun b d=>?_)
   ·refine TC.draw0 25 [3,4,5,6,7,8,9,10,11,12,13,14,15,16,17,18,19,20,21,22,23,24,25,26,27] [.ptr 0 0,I f.Crew,.bool j,.bool (!j),.bool (!j),.ptr 0 1,I f.No,.bool i,.bool (!i),.bool (!i),.bool (!i),.tup [],.tup [],.tup [],.tup [],.bool true,.bool true,.tup [],.tup [],.tup [],.bool true,.bool true,.tup [],.tup [],.tup []] draws Z Z Z ?_ ?_
    ·refine ov (ov (Oq.c ?_ (Oq.c ?_ (ov (Oq.c ?_ (Oq.c ?_ (Oq.c ?_ (Oq.c ?_ (Oq.c ?_ (ov (Oq.c ?_ (Oq.c ?_ (Oq.c ?_ (Oq.c ?_ (Oq.c ?_ (ov (Oq.c ?_ (Oq.c ?_ (Oq.c ?_ (Oq.c ?_ (ov (Oq.c ?_ (Oq.c ?_ (Oq.c ?_ (Oq.n)))))))))))))))))))))))))
     ·refine Om Z (sD 1 sN) ?_
      exact Pc [] Z (OpC.fn call130 Z Z Z) (QiE _ _ _ l) Z Wp
     ·refine Om Z (sD 2 sN) ?_
      exact S Z Wp
     ·refine Om Z (sO 1 (sD 4 sN)) ?_
      exact Fpg (gT a) QcT Z Wp
     ·refine Om Z (sD 4 (sD 5 sN)) ?_
      exact Ldg (gT a) isAgg3 Z Wp
     ·refine Om Z (sD 4 (sD 6 sN)) ?_
      exact Pc [] Z (OpC.fn call131 Z Z Z) (Qkh _ _ _ s) (hg:=(gT a)) Z Wp
     ·refine Om Z (sD 4 (sD 7 sN)) ?_
      exact Sg (gT a) Z Wp
     ·refine Om Z (sD 4 (sD 8 sN)) ?_
      exact Pk a Z Wp
     ·refine Om Z (sO 1 (sD 10 sN)) ?_
      exact K (gF b) Z Wp
     ·refine Om Z (sD 10 (sD 11 sN)) ?_
      exact K (gF b) Z Wp
     ·refine Om Z (sD 10 (sD 12 sN)) ?_
      exact K (gF b) Z Wp
     ·refine Om Z (sD 10 (sD 13 sN)) ?_
      exact K (gF b) Z Wp
     ·refine Om Z (sD 10 (sD 14 sN)) ?_
      exact Pk b Z Wp
     ·refine Om Z (sO 1 (sD 16 sN)) ?_
      exact K (gF Z) Z Wp
     ·refine Om Z (sD 16 (sD 17 sN)) ?_
      exact K (gF Z) Z Wp
     ·refine Om Z (sD 16 (sD 18 sN)) ?_
      exact K (gF Z) Z Wp
     ·refine Om Z (sD 16 (sD 19 sN)) ?_
      exact S Z Wp
     ·refine Om Z (sO 1 (sD 21 sN)) ?_
      exact K (gF Z) Z Wp
     ·refine Om Z (sO 1 (sD 21 sN)) ?_
      exact K (gF Z) Z Wp
     ·refine Om Z (sD 21 (sD 23 sN)) ?_
      exact K (gF Z) Z Wp
    exact Go 3 Z (Cl d [])
   ·obtain⟨k,t,d⟩:=Y3 d
    refine If d (fun e d=>?_) (fun e d=>?_)
    ·refine TC.draw0 25 [3,4,5,6,7,8,9,10,11,12,13,14,15,16,17,18,19,20,21,22,23,24,25,26,27] [.ptr 0 0,I f.Crew,.bool j,.bool (!j),.bool (!j),.ptr 0 1,I f.No,.bool i,.bool (!i),.bool (!i),.bool (!i),.ptr 0 2,I f.At,.bool k,.bool (!k),.bool (!k),.bool (!k),.tup [],.tup [],.tup [],.bool true,.bool true,.tup [],.tup [],.tup []] draws Z Z Z ?_ ?_
     ·refine ov (ov (Oq.c ?_ (Oq.c ?_ (ov (Oq.c ?_ (Oq.c ?_ (Oq.c ?_ (Oq.c ?_ (Oq.c ?_ (ov (Oq.c ?_ (Oq.c ?_ (Oq.c ?_ (Oq.c ?_ (Oq.c ?_ (ov (Oq.c ?_ (Oq.c ?_ (Oq.c ?_ (Oq.c ?_ (ov (Oq.c ?_ (Oq.c ?_ (Oq.c ?_ (Oq.n)))))))))))))))))))))))))
      ·refine Om Z (sD 1 sN) ?_
       exact Pc [] Z (OpC.fn call130 Z Z Z) (QiE _ _ _ l) Z Wp
      ·refine Om Z (sD 2 sN) ?_
       exact S Z Wp
      ·refine Om Z (sO 1 (sD 4 sN)) ?_
       exact Fpg (gT a) QcT Z Wp
      ·refine Om Z (sD 4 (sD 5 sN)) ?_
       exact Ldg (gT a) isAgg3 Z Wp
      ·refine Om Z (sD 4 (sD 6 sN)) ?_
       exact Pc [] Z (OpC.fn call131 Z Z Z) (Qkh _ _ _ s) (hg:=(gT a)) Z Wp
      ·refine Om Z (sD 4 (sD 7 sN)) ?_
       exact Sg (gT a) Z Wp
      ·refine Om Z (sD 4 (sD 8 sN)) ?_
       exact Pk a Z Wp
      ·refine Om Z (sO 1 (sD 10 sN)) ?_
       exact Fpg (gT b) Qem Z Wp
      ·refine Om Z (sD 10 (sD 11 sN)) ?_
       exact Ldg (gT b) isAgg3 Z Wp
      ·refine Om Z (sD 10 (sD 12 sN)) ?_
       exact Pc [] Z (OpC.fn call132 Z Z Z) (k_b _ _ _ _ _ t) (hg:=(gT b)) Z Wp
      ·refine Om Z (sD 10 (sD 13 sN)) ?_
       exact Sg (gT b) Z Wp
      ·refine Om Z (sD 10 (sD 14 sN)) ?_
       exact Pk b Z Wp
      ·refine Om Z (sO 1 (sD 16 sN)) ?_
       exact K (gF e) Z Wp
      ·refine Om Z (sD 16 (sD 17 sN)) ?_
       exact K (gF e) Z Wp
      ·refine Om Z (sD 16 (sD 18 sN)) ?_
       exact K (gF e) Z Wp
      ·refine Om Z (sD 16 (sD 19 sN)) ?_
       exact Pk e Z Wp
      ·refine Om Z (sO 1 (sD 21 sN)) ?_
       exact K (gF Z) Z Wp
      ·refine Om Z (sO 1 (sD 21 sN)) ?_
       exact K (gF Z) Z Wp
      ·refine Om Z (sD 21 (sD 23 sN)) ?_
       exact K (gF Z) Z Wp
     exact Go 3 Z (Cl d [])
    ·obtain⟨m,w,d⟩:=Y3 d
     refine If d (fun g d=>?_) (fun g d=>?_)
     ·refine TC.draw0 25 [3,4,5,6,7,8,9,10,11,12,13,14,15,16,17,18,19,20,21,22,23,24,25,26,27] [.ptr 0 0,I f.Crew,.bool j,.bool (!j),.bool (!j),.ptr 0 1,I f.No,.bool i,.bool (!i),.bool (!i),.bool (!i),.ptr 0 2,I f.At,.bool k,.bool (!k),.bool (!k),.bool (!k),.agg (Fact.c f),.bool m,.bool (!m),.bool (!m),.bool (!m),.tup [],.tup [],.tup []] draws Z Z Z ?_ ?_
      ·refine ov (ov (Oq.c ?_ (Oq.c ?_ (ov (Oq.c ?_ (Oq.c ?_ (Oq.c ?_ (Oq.c ?_ (Oq.c ?_ (ov (Oq.c ?_ (Oq.c ?_ (Oq.c ?_ (Oq.c ?_ (Oq.c ?_ (ov (Oq.c ?_ (Oq.c ?_ (Oq.c ?_ (Oq.c ?_ (ov (Oq.c ?_ (Oq.c ?_ (Oq.c ?_ (Oq.n)))))))))))))))))))))))))
       ·refine Om Z (sD 1 sN) ?_
        exact Pc [] Z (OpC.fn call130 Z Z Z) (QiE _ _ _ l) Z Wp
       ·refine Om Z (sD 2 sN) ?_
        exact S Z Wp
       ·refine Om Z (sO 1 (sD 4 sN)) ?_
        exact Fpg (gT a) QcT Z Wp
       ·refine Om Z (sD 4 (sD 5 sN)) ?_
        exact Ldg (gT a) isAgg3 Z Wp
       ·refine Om Z (sD 4 (sD 6 sN)) ?_
        exact Pc [] Z (OpC.fn call131 Z Z Z) (Qkh _ _ _ s) (hg:=(gT a)) Z Wp
       ·refine Om Z (sD 4 (sD 7 sN)) ?_
        exact Sg (gT a) Z Wp
       ·refine Om Z (sD 4 (sD 8 sN)) ?_
        exact Pk a Z Wp
       ·refine Om Z (sO 1 (sD 10 sN)) ?_
        exact Fpg (gT b) Qem Z Wp
       ·refine Om Z (sD 10 (sD 11 sN)) ?_
        exact Ldg (gT b) isAgg3 Z Wp
       ·refine Om Z (sD 10 (sD 12 sN)) ?_
        exact Pc [] Z (OpC.fn call132 Z Z Z) (k_b _ _ _ _ _ t) (hg:=(gT b)) Z Wp
       ·refine Om Z (sD 10 (sD 13 sN)) ?_
        exact Sg (gT b) Z Wp
       ·refine Om Z (sD 10 (sD 14 sN)) ?_
        exact Pk b Z Wp
       ·refine Om Z (sO 1 (sD 16 sN)) ?_
        refine vX (.agg (Fact.c f)) (Qo Z isAgg81 sizeOf81 Z (Pts.cells Z Z) Z Z) ?_ (gT e)
        exact Wp
       ·refine Om Z (sD 16 (sD 17 sN)) ?_
        exact Pc [] Z (OpC.fn call133 Z Z Z) (k_bq _ _ _ w) (hg:=(gT e)) Z Wp
       ·refine Om Z (sD 16 (sD 18 sN)) ?_
        exact Sg (gT e) Z Wp
       ·refine Om Z (sD 16 (sD 19 sN)) ?_
        exact Pk e Z Wp
       ·refine Om Z (sO 1 (sD 21 sN)) ?_
        exact K (gF g) Z Wp
       ·refine Om Z (sO 1 (sD 21 sN)) ?_
        exact K (gF g) Z Wp
       ·refine Om Z (sD 21 (sD 23 sN)) ?_
        exact K (gF g) Z Wp
      exact KF g Z (Pk g Z (Go 1 Z (Cl d [])))
     ·obtain⟨u,y,d⟩:=Y3 d
      refine QaG 25 0 [3,4,5,6,7,8,9,10,11,12,13,14,15,16,17,18,19,20,21,22,23,24,25,26,27] [false,false,false,false,false,false,false,false,false,false,false,false,false,false,false,false,false,false,false,false,false,false,false,false,true] [[],[],[],[],[],[],[],[],[],[],[],[],[],[],[],[],[],[],[],[],[],[],[],[],[]] [[],[24]] [[(0,0),(1,1)],[(0,0),(1,1)],[(0,0),(1,1)],[(0,0),(1,1)],[(0,0),(1,1)],[(0,0),(1,1)],[(0,0),(1,1)],[(0,0),(1,1)],[(0,0),(1,1)],[(0,0),(1,1)],[(0,0),(1,1)],[(0,0),(1,1)],[(0,0),(1,1)],[(0,0),(1,1)],[(0,0),(1,1)],[(0,0),(1,1)],[(0,0),(1,1)],[(0,0),(1,1)],[(0,0),(1,1)],[(0,0),(1,1)],[(0,0),(1,1)],[(0,0),(1,1)],[(0,0),(1,1)],[(0,0),(1,1)],[(0,1)]] [.ptr 0 0,I f.Crew,.bool j,.bool (!j),.bool (!j),.ptr 0 1,I f.No,.bool i,.bool (!i),.bool (!i),.bool (!i),.ptr 0 2,I f.At,.bool k,.bool (!k),.bool (!k),.bool (!k),.agg (Fact.c f),.bool m,.bool (!m),.bool (!m),.bool (!m),.agg (Fact.c f),.agg (Fact.c f),.agg (Fact.c u)] [[.cells 81 (Fact.c f)],[.cells 81 (Fact.c f),.cells 81 (Fact.c u)]] ([.cells 81 (Fact.c f),.cells 81 (Fact.c u)]) draws Z Z Z Z Z Z Z ?_ Z ?_
      ·refine Qic.cons (Qc (v0 Z Z) (Qc (v0 Z Z) (Qe))) (Qic.cons (Qc (v0 Z Z) (Qc (v0 Z Z) (Qe))) (Qic.cons ?_ (Qic.cons ?_ (Qic.cons (Qc (v0 Z Z) (Qc (v0 Z Z) (Qe))) (Qic.cons ?_ (Qic.cons ?_ (Qic.cons ?_ (Qic.cons ?_ (Qic.cons ?_ (Qic.cons (Qc (v0 Z Z) (Qc (v0 Z Z) (Qe))) (Qic.cons ?_ (Qic.cons ?_ (Qic.cons ?_ (Qic.cons ?_ (Qic.cons ?_ (Qic.cons (Qc (v0 Z Z) (Qc (v0 Z Z) (Qe))) (Qic.cons ?_ (Qic.cons ?_ (Qic.cons ?_ (Qic.cons ?_ (Qic.cons (Qc (v0 Z Z) (Qc (v0 Z Z) (Qe))) (Qic.cons ?_ (Qic.cons ?_ (Qic.cons ?_ (Qic.nil)))))))))))))))))))))))))
       ·refine Qc ?_ (Qc ?_ (Qe))
        ·refine Om Z (sD 1 sN) ?_
         exact Pc [] Z (OpC.fn call130 Z Z Z) (QiE _ _ _ l) Z Wp
        ·refine Om Z (sD 1 sN) ?_
         exact Pc [] Z (OpC.fn call130 Z Z Z) (QiE _ _ _ l) Z Wp
       ·refine Qc ?_ (Qc ?_ (Qe))
        ·refine Om Z (sD 2 sN) ?_
         exact S Z Wp
        ·refine Om Z (sD 2 sN) ?_
         exact S Z Wp
       ·refine Qc ?_ (Qc ?_ (Qe))
        ·refine Om Z (sO 1 (sD 4 sN)) ?_
         exact Fpg (gT a) QcT Z Wp
        ·refine Om Z (sO 1 (sD 4 sN)) ?_
         exact Fpg (gT a) QcT Z Wp
       ·refine Qc ?_ (Qc ?_ (Qe))
        ·refine Om Z (sD 4 (sD 5 sN)) ?_
         exact Ldg (gT a) isAgg3 Z Wp
        ·refine Om Z (sD 4 (sD 5 sN)) ?_
         exact Ldg (gT a) isAgg3 Z Wp
       ·refine Qc ?_ (Qc ?_ (Qe))
        ·refine Om Z (sD 4 (sD 6 sN)) ?_
         exact Pc [] Z (OpC.fn call131 Z Z Z) (Qkh _ _ _ s) (hg:=(gT a)) Z Wp
        ·refine Om Z (sD 4 (sD 6 sN)) ?_
         exact Pc [] Z (OpC.fn call131 Z Z Z) (Qkh _ _ _ s) (hg:=(gT a)) Z Wp
       ·refine Qc ?_ (Qc ?_ (Qe))
        ·refine Om Z (sD 4 (sD 7 sN)) ?_
         exact Sg (gT a) Z Wp
        ·refine Om Z (sD 4 (sD 7 sN)) ?_
         exact Sg (gT a) Z Wp
       ·refine Qc ?_ (Qc ?_ (Qe))
        ·refine Om Z (sD 4 (sD 8 sN)) ?_
         exact Pk a Z Wp
        ·refine Om Z (sD 4 (sD 8 sN)) ?_
         exact Pk a Z Wp
       ·refine Qc ?_ (Qc ?_ (Qe))
        ·refine Om Z (sO 1 (sD 10 sN)) ?_
         exact Fpg (gT b) Qem Z Wp
        ·refine Om Z (sO 1 (sD 10 sN)) ?_
         exact Fpg (gT b) Qem Z Wp
       ·refine Qc ?_ (Qc ?_ (Qe))
        ·refine Om Z (sD 10 (sD 11 sN)) ?_
         exact Ldg (gT b) isAgg3 Z Wp
        ·refine Om Z (sD 10 (sD 11 sN)) ?_
         exact Ldg (gT b) isAgg3 Z Wp
       ·refine Qc ?_ (Qc ?_ (Qe))
        ·refine Om Z (sD 10 (sD 12 sN)) ?_
         exact Pc [] Z (OpC.fn call132 Z Z Z) (k_b _ _ _ _ _ t) (hg:=(gT b)) Z Wp
        ·refine Om Z (sD 10 (sD 12 sN)) ?_
         exact Pc [] Z (OpC.fn call132 Z Z Z) (k_b _ _ _ _ _ t) (hg:=(gT b)) Z Wp
       ·refine Qc ?_ (Qc ?_ (Qe))
        ·refine Om Z (sD 10 (sD 13 sN)) ?_
         exact Sg (gT b) Z Wp
        ·refine Om Z (sD 10 (sD 13 sN)) ?_
         exact Sg (gT b) Z Wp
       ·refine Qc ?_ (Qc ?_ (Qe))
        ·refine Om Z (sD 10 (sD 14 sN)) ?_
         exact Pk b Z Wp
        ·refine Om Z (sD 10 (sD 14 sN)) ?_
         exact Pk b Z Wp
       ·refine Qc ?_ (Qc ?_ (Qe))
        ·refine Om Z (sO 1 (sD 16 sN)) ?_
         refine vX (.agg (Fact.c f)) (Qo Z isAgg81 sizeOf81 Z (Pts.cells Z Z) Z Z) ?_ (gT e)
         exact Wp
        ·refine Om Z (sO 1 (sD 16 sN)) ?_
         refine vX (.agg (Fact.c f)) (Qo Z isAgg81 sizeOf81 Z (Pts.cells Z Z) Z Z) ?_ (gT e)
         exact Wp
       ·refine Qc ?_ (Qc ?_ (Qe))
        ·refine Om Z (sD 16 (sD 17 sN)) ?_
         exact Pc [] Z (OpC.fn call133 Z Z Z) (k_bq _ _ _ w) (hg:=(gT e)) Z Wp
        ·refine Om Z (sD 16 (sD 17 sN)) ?_
         exact Pc [] Z (OpC.fn call133 Z Z Z) (k_bq _ _ _ w) (hg:=(gT e)) Z Wp
       ·refine Qc ?_ (Qc ?_ (Qe))
        ·refine Om Z (sD 16 (sD 18 sN)) ?_
         exact Sg (gT e) Z Wp
        ·refine Om Z (sD 16 (sD 18 sN)) ?_
         exact Sg (gT e) Z Wp
       ·refine Qc ?_ (Qc ?_ (Qe))
        ·refine Om Z (sD 16 (sD 19 sN)) ?_
         exact Pk e Z Wp
        ·refine Om Z (sD 16 (sD 19 sN)) ?_
         exact Pk e Z Wp
       ·refine Qc ?_ (Qc ?_ (Qe))
        ·refine Om Z (sO 1 (sD 21 sN)) ?_
         refine vX (.agg (Fact.c f)) (Qo Z isAgg81 sizeOf81 Z (Pts.cells Z Z) Z Z) ?_ (gT g)
         exact Wp
        ·refine Om Z (sO 1 (sD 21 sN)) ?_
         refine vX (.agg (Fact.c f)) (Qo Z isAgg81 sizeOf81 Z (Pts.cells Z Z) Z Z) ?_ (gT g)
         exact Wp
       ·refine Qc ?_ (Qc ?_ (Qe))
        ·refine Om Z (sO 1 (sD 21 sN)) ?_
         refine vX (.agg (Fact.c f)) (Qo Z isAgg81 sizeOf81 Z (Pts.cells Z Z) Z Z) ?_ (gT g)
         exact Wp
        ·refine Om Z (sO 1 (sD 21 sN)) ?_
         refine vX (.agg (Fact.c f)) (Qo Z isAgg81 sizeOf81 Z (Pts.cells Z Z) Z Z) ?_ (gT g)
         exact Wp
       ·refine Qc ?_ (Qe)
        ·refine Om1 Z (sD 21 (sD 23 sN)) ?_
         refine QP [] (OpC.fn call134 Z Z Z) (k_cd _ _ _ y) ?_ (hg:=(gT g))
         rintro _ _ ⟨rfl,rfl⟩
         exact FE Z Wp
      refine vX (.bool (f != u)) (QdC (p:=f) (q:=u) QiZ Z Z) ?_ (gT g)
      exact Pk g Z (Go 1 Z (Cl d []))
 refine Gx 1 Z (TC.le B (Cn Z h (fun z h=>?_) (fun z h=>?_)))
 ·exact Gc 7 Z (Rt h 2 [])
 exact Gc 8 Z (Rt h 2 [])
def F_cs(n:Nat)(a:Fact):Option (List Int):=
  (bif (a.Kind==1)then(app [a.Kind,a.Crew,a.No,a.At] [a.Starter.Bib,a.Starter.Distance,a.Starter.Wave,a.Starter.Slot,a.Starter.Age,a.Starter.Chip,a.Starter.Team,a.Starter.Lot]).bind fun k=>some k else(bif (a.Kind==2)then(app [a.Kind,a.Crew,a.No,a.At] [a.Read.Mat,a.Read.Epoch,a.Read.Chip,a.Read.Local]).bind fun l=>some l else(bif (a.Kind==3)then(app [a.Kind,a.Crew,a.No,a.At] [a.Beacon.Mat,a.Beacon.Epoch,a.Beacon.Local,a.Beacon.True,a.Beacon.Err]).bind fun m=>some m else(bif (a.Kind==4)then(app [a.Kind,a.Crew,a.No,a.At] [a.Sync.MatA,a.Sync.EpochA,a.Sync.LocalA,a.Sync.MatB,a.Sync.EpochB,a.Sync.LocalB,a.Sync.Min,a.Sync.Max]).bind fun p=>some p else(bif (a.Kind==5)then(app [a.Kind,a.Crew,a.No,a.At] [a.Hand.Bib,a.Hand.Position,a.Hand.Lo,a.Hand.Hi]).bind fun b=>some b else(bif (a.Kind==6)then(app [a.Kind,a.Crew,a.No,a.At] [a.Silence.Mat,a.Silence.Epoch,a.Silence.Lo,a.Silence.Hi]).bind fun c=>some c else(bif (a.Kind==7)then(app [a.Kind,a.Crew,a.No,a.At] [a.Pair.A,a.Pair.B]).bind fun d=>some d else(bif (a.Kind==8)then(app [a.Kind,a.Crew,a.No,a.At] [a.Report.Case,a.Report.Bib,a.Report.Offence,a.Report.Position]).bind fun e=>some e else(bif (a.Kind==9)then(app [a.Kind,a.Crew,a.No,a.At] [a.Protest.Case,a.Protest.By,a.Protest.Fee,a.Protest.Form]).bind fun f=>some f else(bif (a.Kind==10)then(app [a.Kind,a.Crew,a.No,a.At] [a.Ruling.Case,a.Ruling.Instance,a.Ruling.Kind,a.Ruling.Bib,a.Ruling.Position,a.Ruling.Amount]).bind fun g=>some g else(bif (a.Kind==11)then(bif a.Appeal.Suspends then(app [a.Kind,a.Crew,a.No,a.At] [a.Appeal.Case,1]).bind fun h=>some h else(app [a.Kind,a.Crew,a.No,a.At] [a.Appeal.Case,0]).bind fun i=>some i)else(bif (a.Kind==13)then(app [a.Kind,a.Crew,a.No,a.At] [a.Void.Crew,a.Void.No]).bind fun j=>some j else some [a.Kind,a.Crew,a.No,a.At]))))))))))))
theorem k_cs(n:Nat)(a:Fact)(r:List Int)(h:F_cs n a=some r):
    C prog 188 [.agg (Fact.c a)] [] (RQ (fun r=>.osl 0 0 r.length 1) (fun r=>[.row 3 1 (List.map (Qf .i64) r)]) r):=by
 refine Qb func188 Z Z Z ?_
 refine G0 16 Z ?_
 refine vH (OpH.lit (xs:=[.tmp 14,.tmp 16,.tmp 18,.tmp 20]) (es:=List.map (Qf .i64) [a.Kind,a.Crew,a.No,a.At]) Qu Z Z Z Z Z ⟨Z,Z,Z,Z,trivial⟩ Z Z) ?_
 refine FE Z (Go 17 Z (Cn Z h (fun E h=>?_) (fun E h=>?_)))
 ·refine Gc 27 Z ?_
  refine vH (OpH.lit (xs:=[.tmp 30,.tmp 32,.tmp 34,.tmp 36,.tmp 38,.tmp 40,.tmp 42,.tmp 44]) (es:=List.map (Qf .i64) [a.Starter.Bib,a.Starter.Distance,a.Starter.Wave,a.Starter.Slot,a.Starter.Age,a.Starter.Chip,a.Starter.Team,a.Starter.Lot]) Qu Z Z Z Z Z ⟨Z,Z,Z,Z,Z,Z,Z,Z,trivial⟩ Z Z) ?_
  refine FE Z (Bd h fun l2 F h=>?_)
  refine vH (Ql (e:=(Qf .i64)) F Qu runUnderlying48 (QT (i:=3))) ?_
  exact FE Z (Go 6 Z (Rt h 2 [4]))
 refine Gc 6 Z (Cn Z h (fun G h=>?_) (fun G h=>?_))
 ·refine Gc 19 Z ?_
  refine vH (OpH.lit (xs:=[.tmp 53,.tmp 55,.tmp 57,.tmp 59]) (es:=List.map (Qf .i64) [a.Read.Mat,a.Read.Epoch,a.Read.Chip,a.Read.Local]) Qu Z Z Z Z Z ⟨Z,Z,Z,Z,trivial⟩ Z Z) ?_
  refine FE Z (Bd h fun l4 H h=>?_)
  refine vH (Ql (e:=(Qf .i64)) H Qu runUnderlying48 (QT (i:=3))) ?_
  exact FE Z (Go 6 Z (Rt h 2 [4]))
 refine Gc 6 Z (Cn Z h (fun J h=>?_) (fun J h=>?_))
 ·refine Gc 21 Z ?_
  refine vH (OpH.lit (xs:=[.tmp 68,.tmp 70,.tmp 72,.tmp 74,.tmp 76]) (es:=List.map (Qf .i64) [a.Beacon.Mat,a.Beacon.Epoch,a.Beacon.Local,a.Beacon.True,a.Beacon.Err]) Qu Z Z Z Z Z ⟨Z,Z,Z,Z,Z,trivial⟩ Z Z) ?_
  refine FE Z (Bd h fun l6 L h=>?_)
  refine vH (Ql (e:=(Qf .i64)) L Qu runUnderlying48 (QT (i:=3))) ?_
  exact FE Z (Go 6 Z (Rt h 2 [4]))
 refine Gc 6 Z (Cn Z h (fun M h=>?_) (fun M h=>?_))
 ·refine Gc 27 Z ?_
  refine vH (OpH.lit (xs:=[.tmp 85,.tmp 87,.tmp 89,.tmp 91,.tmp 93,.tmp 95,.tmp 97,.tmp 99]) (es:=List.map (Qf .i64) [a.Sync.MatA,a.Sync.EpochA,a.Sync.LocalA,a.Sync.MatB,a.Sync.EpochB,a.Sync.LocalB,a.Sync.Min,a.Sync.Max]) Qu Z Z Z Z Z ⟨Z,Z,Z,Z,Z,Z,Z,Z,trivial⟩ Z Z) ?_
  refine FE Z (Bd h fun l8 N h=>?_)
  refine vH (Ql (e:=(Qf .i64)) N Qu runUnderlying48 (QT (i:=3))) ?_
  exact FE Z (Go 6 Z (Rt h 2 [4]))
 refine Gc 6 Z (Cn Z h (fun O h=>?_) (fun O h=>?_))
 ·refine Gc 19 Z ?_
  refine vH (OpH.lit (xs:=[.tmp 108,.tmp 110,.tmp 112,.tmp 114]) (es:=List.map (Qf .i64) [a.Hand.Bib,a.Hand.Position,a.Hand.Lo,a.Hand.Hi]) Qu Z Z Z Z Z ⟨Z,Z,Z,Z,trivial⟩ Z Z) ?_
  refine FE Z (Bd h fun P b h=>?_)
  refine vH (Ql (e:=(Qf .i64)) b Qu runUnderlying48 (QT (i:=3))) ?_
  exact FE Z (Go 6 Z (Rt h 2 [4]))
 refine Gc 6 Z (Cn Z h (fun d h=>?_) (fun d h=>?_))
 ·refine Gc 19 Z ?_
  refine vH (OpH.lit (xs:=[.tmp 123,.tmp 125,.tmp 127,.tmp 129]) (es:=List.map (Qf .i64) [a.Silence.Mat,a.Silence.Epoch,a.Silence.Lo,a.Silence.Hi]) Qu Z Z Z Z Z ⟨Z,Z,Z,Z,trivial⟩ Z Z) ?_
  refine FE Z (Bd h fun Q f h=>?_)
  refine vH (Ql (e:=(Qf .i64)) f Qu runUnderlying48 (QT (i:=3))) ?_
  exact FE Z (Go 6 Z (Rt h 2 [4]))
 refine Gc 6 Z (Cn Z h (fun g h=>?_) (fun g h=>?_))
 ·refine Gc 9 Z ?_
  refine vH (OpH.lit (xs:=[.tmp 137,.tmp 140]) (es:=List.map (Qf .i64) [a.Pair.A,a.Pair.B]) Qu Z Z Z Z Z ⟨Z,Z,trivial⟩ Z Z) ?_
  refine FE Z (Bd h fun R j h=>?_)
  refine vH (Ql (e:=(Qf .i64)) j Qu runUnderlying48 (QT (i:=2))) ?_
  exact FE Z (Go 6 Z (Rt h 2 [3]))
 refine Gc 6 Z (Cn Z h (fun k h=>?_) (fun k h=>?_))
 ·refine Gc 19 Z ?_
  refine vH (OpH.lit (xs:=[.tmp 149,.tmp 151,.tmp 153,.tmp 155]) (es:=List.map (Qf .i64) [a.Report.Case,a.Report.Bib,a.Report.Offence,a.Report.Position]) Qu Z Z Z Z Z ⟨Z,Z,Z,Z,trivial⟩ Z Z) ?_
  refine FE Z (Bd h fun T l h=>?_)
  refine vH (Ql (e:=(Qf .i64)) l Qu runUnderlying48 (QT (i:=3))) ?_
  exact FE Z (Go 6 Z (Rt h 2 [4]))
 refine Gc 6 Z (Cn Z h (fun m h=>?_) (fun m h=>?_))
 ·refine Gc 19 Z ?_
  refine vH (OpH.lit (xs:=[.tmp 164,.tmp 166,.tmp 168,.tmp 170]) (es:=List.map (Qf .i64) [a.Protest.Case,a.Protest.By,a.Protest.Fee,a.Protest.Form]) Qu Z Z Z Z Z ⟨Z,Z,Z,Z,trivial⟩ Z Z) ?_
  refine FE Z (Bd h fun V p h=>?_)
  refine vH (Ql (e:=(Qf .i64)) p Qu runUnderlying48 (QT (i:=3))) ?_
  exact FE Z (Go 6 Z (Rt h 2 [4]))
 refine Gc 6 Z (Cn Z h (fun q h=>?_) (fun q h=>?_))
 ·refine Gc 23 Z ?_
  refine vH (OpH.lit (xs:=[.tmp 179,.tmp 181,.tmp 183,.tmp 185,.tmp 187,.tmp 189]) (es:=List.map (Qf .i64) [a.Ruling.Case,a.Ruling.Instance,a.Ruling.Kind,a.Ruling.Bib,a.Ruling.Position,a.Ruling.Amount]) Qu Z Z Z Z Z ⟨Z,Z,Z,Z,Z,Z,trivial⟩ Z Z) ?_
  refine FE Z (Bd h fun W s h=>?_)
  refine vH (Ql (e:=(Qf .i64)) s Qu runUnderlying48 (QT (i:=3))) ?_
  exact FE Z (Go 6 Z (Rt h 2 [4]))
 refine Gc 6 Z (Cn Z h (fun t h=>?_) (fun t h=>?_))
 ·refine Gc 8 Z (Cn Z h (fun u h=>?_) (fun u h=>?_))
  ·refine Gc 6 Z ?_
   refine vH (OpH.lit (xs:=[.tmp 200,.const (.int .i64 1)]) (es:=List.map (Qf .i64) [a.Appeal.Case,1]) Qu Z Z Z Z Z ⟨Z,Z,trivial⟩ Z Z) ?_
   refine FE Z (Bd h fun X w h=>?_)
   refine vH (Ql (e:=(Qf .i64)) w Qu runUnderlying48 (QT (i:=2))) ?_
   exact FE Z (Go 7 Z (Rt h 2 [3]))
  refine Gc 8 Z ?_
  refine vH (OpH.lit (xs:=[.tmp 206,.const (.int .i64 0)]) (es:=List.map (Qf .i64) [a.Appeal.Case,0]) Qu Z Z Z Z Z ⟨Z,Z,trivial⟩ Z Z) ?_
  refine FE Z (Bd h fun Y x h=>?_)
  refine vH (Ql (e:=(Qf .i64)) x Qu runUnderlying48 (QT (i:=2))) ?_
  exact FE Z (Go 6 Z (Rt h 2 [3]))
 refine Gc 6 Z (Cn Z h (fun y h=>?_) (fun y h=>?_))
 ·refine Gc 9 Z ?_
  refine vH (OpH.lit (xs:=[.tmp 214,.tmp 217]) (es:=List.map (Qf .i64) [a.Void.Crew,a.Void.No]) Qu Z Z Z Z Z ⟨Z,Z,trivial⟩ Z Z) ?_
  refine FE Z (Bd h fun aa z h=>?_)
  refine vH (Ql (e:=(Qf .i64)) z Qu runUnderlying48 (QT (i:=2))) ?_
  exact FE Z (Go 6 Z (Rt h 2 [3]))
 exact Gc 10 Z (Rt h 2 [1])
def F_gq(n:Nat)(a:Int):Option Unit:=
  some ()
theorem k_gq(n:Nat)(a:Int)(r:Unit)(h:F_gq n a=some r):
    C prog 231 [I a] [] (RQ (fun _=>.agg [I 1,I a,.str [],.rsl 4 (List.map Value.enc [])]) (fun _=>[.cells 184 [I 1,I a,.str [],.rsl 4 (List.map Value.enc [])]]) r):=by
 refine Qb func231 Z Z Z ?_
 refine G0 13 Z ?_
 obtain rfl:=Oi h
 exact Rx [0] [2] Z (YC Z (Qs isAgg184 sizeOf184 Z Z Z)) ⟨Z,Z⟩
def F_jk(n:Nat)(c:List Int)(a:(List Value)×Int):Option (Ctl ((List Value)×Int) (List Value)):=
  (bif decide (a.2<(c.length:Int))then(idx c a.2).bind fun b=>(F_gq n b).bind fun e=>(app a.1 [{Kind:=1,N:=b,S:=[],L:=[]:Value}]).bind fun d=>some (.cont (d,IntKind.i64.wrap (a.2+1)))else some (.done a.1))
def F_cl(n:Nat)(b:List Int):Option (List Value):=
  (iter (F_jk n b) n ([],0):Option (List Value)).bind fun a=>some a
theorem k_cl(n:Nat)(j:List Int)(r:List Value)(h:F_cl n j=some r):
    C prog 187 [.rsl 1 (List.map (Qf .i64) j)] [] (RQ (fun r=>.agg [I 3,I 0,.str [],.osl 0 0 r.length 4]) (fun r=>[.row 184 4 (List.map Value.enc r),.cells 184 [I 3,I 0,.str [],.osl 0 0 r.length 4]]) r):=by
 refine Qb func187 Z Z Z ?_
 refine G0 7 Z ?_
 refine vX (.agg [I 3,I 0,.str [],.nils]) (OpV.build (zs:=[I 0,I 0,.str [],.nils]) zeroValue184 (zrC Z) Qgt) ?_
 refine vH (QaH (v:=(.agg [I 0,I 0,.str [],.nils])) zeroValue184 (zrC Z)) ?_
 refine FE Z (Go 9 Z (Bd h fun f u h=>?_))
 refine Ct f [0,1,0] [2,3] (fun _=>[]) (fun f=>[(1,.cells 184 [I 3,I 0,.str [],.osl 2 0 f.length 4]),(2,.row 184 4 (List.map Value.enc f))]) (fun _=>rfl) ?_ (fun env H w=>?_)
 ·refine G0 1 Z ?_
  refine Lp [0,1,0] [0,2,3] (fun a=>[(4,I a.2)]) (fun a=>[(1,.cells 184 [I 3,I 0,.str [],.osl 2 0 a.1.length 4]),(2,.row 184 4 (List.map Value.enc a.1))]) u (fun _=>rfl) ?_ ?_
  ·refine Le.trans (Qd5 (i:=1) (m:=3) (t:=184) (k:=4) Z Z Z) ?_
   exact Lr [0,1,2]
  intro a y b l
  refine G0 5 Z (Lm Z (Go 3 Z (Ys Z b (fun p b=>?_) (fun p b=>?_))))
  ·refine Gc 2 Z (Qm b ?_)
   obtain rfl:=Oj l b
   exact Gx 1 Z (QA (Lr [0,1,2]))
  refine Gc 4 Z ?_
  obtain⟨d,g,b⟩:=Y3 b
  obtain⟨z,q,b⟩:=Y3 b
  refine QaG 8 0 [12,13,14,15,16,17,18,19] [false,false,false,false,false,false,true,false] [[],[],[],[],[],[],[],[6]] [[],[6]] [[(0,0),(1,1)],[(0,0),(1,1)],[(0,0),(1,1)],[(0,0),(1,1)],[(0,0),(1,1)],[(0,0),(1,1)],[(0,1)],[(1,1)]] [.ptr 1 3,.osl 2 0 a.1.length 4,.rsl 1 (List.map (Qf .i64) j),I a.2,.rp [I d],I d,.agg [I 1,I d,.str [],.rsl 4 (List.map Value.enc [])],.rsl 4 (List.map Value.enc [{Kind:=1,N:=d,S:=[],L:=[]:Value}])] [[.cells 184 (Value.c z_Value),.cells 184 [I 3,I 0,.str [],.osl 2 0 a.1.length 4],.row 184 4 (List.map Value.enc a.1)],[.cells 184 (Value.c z_Value),.cells 184 [I 3,I 0,.str [],.osl 2 0 a.1.length 4],.row 184 4 (List.map Value.enc a.1),.cells 184 [I 1,I d,.str [],.rsl 4 (List.map Value.enc [])]]] ([.cells 184 (Value.c z_Value),.cells 184 [I 3,I 0,.str [],.osl 2 0 a.1.length 4],.row 184 4 (List.map Value.enc a.1),.cells 184 [I 1,I d,.str [],.rsl 4 (List.map Value.enc [])]]) draws Z Z Z Z Z Z Z ?_ Z ?_
  ·refine Qic.cons (Qc (v0 Z Z) (Qc (v0 Z Z) (Qe))) (Qic.cons (Qc (v0 Z Z) (Qc (v0 Z Z) (Qe))) (Qic.cons (Qc (v0 Z Z) (Qc (v0 Z Z) (Qe))) (Qic.cons (Qc (v0 Z Z) (Qc (v0 Z Z) (Qe))) (Qic.cons ?_ (Qic.cons (Qc (v0 Z Z) (Qc (v0 Z Z) (Qe))) (Qic.cons ?_ (Qic.cons ?_ (Qic.nil))))))))
   ·refine Qc ?_ (Qc ?_ (Qe))
    ·refine Om Z (sD 2 (sD 3 sN)) ?_
     exact Ix g runUnderlying48 sizeOf3 Z Wp
    ·refine Om Z (sD 2 (sD 3 sN)) ?_
     exact Ix g runUnderlying48 sizeOf3 Z Wp
   ·refine Qc ?_ (Qe)
    ·refine Om1 Z (sD 5 sN) ?_
     refine QP [] (OpC.fn call231 Z Z Z) (k_gq _ _ _ q) ?_
     rintro _ _ ⟨rfl,rfl⟩
     exact FE Z Wp
   ·refine Qc ?_ (Qe)
    ·refine Om Z (sD 6 sN) ?_
     refine vH (Q4 (xs:=[.tmp 18]) (es:=[Value.c ({Kind:=1,N:=d,S:=[],L:=[]:Value})]) QgS Z Z Z Z Z ⟨Z,trivial⟩ Z Z) ?_
     refine QgY (x:=(.rsl 4 (List.map Value.enc [{Kind:=1,N:=d,S:=[],L:=[]:Value}]))) (H:=[_,_,_,_]) (by simp[YQ]) Z ?_
     exact Wp
  refine Bd b fun B s b=>?_
  refine vH (Ql (e:=Value.enc) s QgS runUnderlying182 QbL) ?_
  exact FE Z (Go 10 Z (Qj b (Lr [0,1,4])))
 refine Gx 1 Z (TC.le w (Gc 7 Z ?_))
 obtain rfl:=Oi h
 exact Rx [2,0] [2] Z (YC Z (Qs isAgg184 sizeOf184 Z Z Z)) ⟨Z,Z⟩
def F_jp(n:Nat)(b:Value)(rec230:Value->Option Bool)(a:Int):Option (Ctl Int (Ctl Unit Bool)):=
  (bif decide (a<(b.L.length:Int))then(idx b.L a).bind fun c=>(rec230 c).bind fun d=>(bif (!d)then some (.done (.done false))else some (.cont (IntKind.i64.wrap (a+1))))else some (.done (.cont ())))
def B_v(rec230:Value->Option Bool)(n:Nat)(a:Value):Option Bool:=
  (bif (a.Kind==1)then((bif (a.S==[])then some ((a.L.length:Int)==0)else some false):Option Bool).bind fun e=>some e else(bif (a.Kind==2)then((bif (a.N==0)then some ((a.L.length:Int)==0)else some false):Option Bool).bind fun f=>some f else(bif (a.Kind==3)then(iter (F_jp n a rec230) n 0:Option (Ctl Unit Bool)).bind fun c=>match c with|.cont b=>(((bif (a.N==0)then some (a.S==[])else some false):Option Bool).bind fun d=>some d)|.done b=>some b else some false)))
theorem QaM(rec230:Value->Option Bool)(f:∀(g:Value) (r:Bool),rec230 g=some r->Csm prog 244 [.agg (Value.c g)] [] (fun r=>.bool r) r)(n:Nat)(g:Value)(r:Bool)(h:B_v rec230 n g=some r):
    Csm prog 244 [.agg (Value.c g)] [] (fun r=>.bool r) r:=by
 refine Qb func244 Z Z Z ?_
 refine G0 20 Z (Cn Z h (fun z h=>?_) (fun z h=>?_))
 ·refine Gc 1 Z (Bd h fun p i h=>?_)
  refine Ct p [] [] (fun p=>[(2,.bool p)]) (fun _=>[]) (fun _=>rfl) ?_ (fun env H d=>?_)
  ·refine G0 5 Z (Is 11 i Z (fun B i=>?_) (fun B i=>?_))
   ·exact Go 2 Z (Lm Z (Go 4 Z (Cl i [])))
   ·exact Go 7 Z (Cl i [])
  exact Gx 1 Z (TC.le d (Gc 3 Z (Rt h 2 [])))
 refine Gc 6 Z (Cn Z h (fun E h=>?_) (fun E h=>?_))
 ·refine Gc 1 Z (Bd h fun q j h=>?_)
  refine Ct q [] [] (fun q=>[(2,.bool q)]) (fun _=>[]) (fun _=>rfl) ?_ (fun env H d=>?_)
  ·refine G0 5 Z (Is 22 j Z (fun s j=>?_) (fun s j=>?_))
   ·exact Go 2 Z (Lm Z (Go 4 Z (Cl j [])))
   ·exact Go 7 Z (Cl j [])
  exact Gx 1 Z (TC.le d (Gc 3 Z (Rt h 2 [])))
 refine Gc 6 Z (Cn Z h (fun t h=>?_) (fun t h=>?_))
 ·refine Gc 6 Z (Bd h fun F G h=>?_)
  refine CtE (b:=F) [0] [1] (fun _=>[]) (fun _=>[]) (fun _=>rfl) ?_ (fun M env H J d=>?_)
  ·refine G0 1 Z ?_
   refine Lp [0] [1] (fun m=>[(3,I m)]) (fun _=>[]) G (fun _=>rfl) (Lr [0]) fun m O a k=>?_
   refine G0 6 Z (Lm Z (Go 3 Z (Ys Z a (fun u a=>?_) (fun u a=>?_))))
   ·refine Gc 2 Z (Qm a ?_)
    obtain rfl:=Oj k a
    exact Gx 1 Z (Qp Z (Lr [0]))
   refine Gc 9 Z (Bd a fun L w a=>IzE w (YQ L) Z (Go 1 Z (Cz [] a (f _) Z fun P N a=>Go 3 Z (Cn Z a (fun x a=>?_) (fun x a=>?_)))))
   ·refine Gc 8 Z (Qx a ?_)
    obtain rfl:=Oj k a
    exact Gx 1 Z (Qq (Gx 3 Z (Rt h 2 [])))
   exact Gc 8 Z (Qj a (Lr [0]))
  subst J
  refine Gx 1 Z (TC.le d (Gc 1 Z (Bd h fun l e h=>?_)))
  refine Ct l [] [] (fun l=>[(2,.bool l)]) (fun _=>[]) (fun _=>rfl) ?_ (fun env H d=>?_)
  ·refine G0 5 Z (Is 47 e Z (fun y e=>?_) (fun y e=>?_))
   ·exact Go 6 Z (Cl e [])
   ·exact Go 6 Z (Cl e [])
  exact Gx 1 Z (TC.le d (Gc 3 Z (Rt h 2 [])))
 exact Gc 9 Z (Rt h 2 [])
def F_v:Nat->Value->Option Bool
  |0=>fun _=>none
  |n+1=>B_v (F_v n) n
theorem k_v(n:Nat):∀(a:Value) (r:Bool),F_v n a=some r->Csm prog 244 [.agg (Value.c a)] [] (fun r=>.bool r) r:=by
  induction n with
  |zero=>intro a r h;cases h
  |succ n ih=>intro a r h;exact QaM _ ih n a r h
def F_jn(n:Nat)(c:Value)(rec231:Value->Option Int)(a:Int×Int):Option (Ctl (Int×Int) Int):=
  (bif decide (a.2<(c.L.length:Int))then(idx c.L a.2).bind fun d=>(rec231 d).bind fun b=>some (.cont ((if a.1<b then b else a.1),IntKind.i64.wrap (a.2+1)))else some (.done a.1))
def B_w(rec231:Value->Option Int)(n:Nat)(a:Value):Option Int:=
  (bif (a.Kind != 3)then some 0 else(iter (F_jn n a rec231) n (0,0):Option Int).bind fun b=>some (IntKind.i64.wrap (b+1)))
theorem Qa2(rec231:Value->Option Int)(d:∀(e:Value) (r:Int),rec231 e=some r->Csm prog 245 [.agg (Value.c e)] [] (fun r=>I r) r)(n:Nat)(e:Value)(r:Int)(h:B_w rec231 n e=some r):
    Csm prog 245 [.agg (Value.c e)] [] (fun r=>I r) r:=by
 refine Qb func245 Z Z Z ?_
 refine G0 14 Z (Cn Z h (fun l h=>?_) (fun l h=>?_))
 ·exact Gc 7 Z (Rt h 2 [])
 refine Gc 13 Z (Bd h fun g m h=>?_)
 refine Ct g [] [] (fun g=>[(3,I g)]) (fun _=>[]) (fun _=>rfl) ?_ (fun env H p=>?_)
 ·refine G0 1 Z ?_
  refine Lp [0] [1] (fun b=>[(3,I b.1),(4,I b.2)]) (fun _=>[]) m (fun _=>rfl) (Lr [0]) fun b t a i=>?_
  refine G0 6 Z (Lm Z (Go 3 Z (Ys Z a (fun j a=>?_) (fun j a=>?_))))
  ·refine Gc 2 Z (Qm a ?_)
   obtain rfl:=Oj i a
   exact Gx 1 Z (QA (Lr []))
  refine Gc 9 Z (Bd a fun q k a=>IzE k (YQ q) Z (Go 1 Z (Cz [] a (d _) Z fun f s a=>?_)))
  refine vX (I (if b.1<f then f else b.1)) (OpV.max Z Z Z Z) ?_
  exact Go 9 Z (Qj a (Lr [0]))
 exact Gx 1 Z (TC.le p (Gc 8 Z (Rt h 2 [])))
def F_w:Nat->Value->Option Int
  |0=>fun _=>none
  |n+1=>B_w (F_w n) n
theorem k_w(n:Nat):∀(a:Value) (r:Int),F_w n a=some r->Csm prog 245 [.agg (Value.c a)] [] (fun r=>I r) r:=by
  induction n with
  |zero=>intro a r h;cases h
  |succ n ih=>intro a r h;exact Qa2 _ ih n a r h
def F_hj(n:Nat)(a:Value):Option Int:=
  (F_v n a).bind fun b=>(bif (!b)then some 1 else(F_w n a).bind fun c=>(bif decide (16<c)then some 2 else some 0))
theorem k_hj(n:Nat)(a:Value)(r:Int)(h:F_hj n a=some r):
    Csm prog 229 [.agg (Value.c a)] [] (fun r=>I r) r:=by
 refine Qb func229 Z Z Z ?_
 refine G0 10 Z (Cz [] h (k_v _ _) Z fun g e h=>Go 3 Z (Cn Z h (fun b h=>?_) (fun b h=>?_)))
 ·exact Gc 7 Z (Rt h 2 [])
 refine Gc 6 Z (Cz [] h (k_w _ _) Z fun i f h=>Go 3 Z (Cn Z h (fun d h=>?_) (fun d h=>?_)))
 ·exact Gc 7 Z (Rt h 2 [])
 exact Gc 8 Z (Rt h 2 [])
def F_da(n:Nat)(a:Int):Option Int:=
  (bif decide (0<=a)then some (IntKind.u64.wrap (2*(IntKind.u64.wrap a)))else some (IntKind.u64.wrap ((IntKind.u64.wrap (2*(IntKind.u64.wrap (IntKind.i64.wrap (0-(IntKind.i64.wrap (a+1)))))))+1)))
theorem k_da(n:Nat)(a:Int)(r:Int)(h:F_da n a=some r):
    Csm prog 247 [I a] [] (fun r=>.int .u64 r) r:=by
 refine Qb func247 Z Z Z ?_
 refine G0 12 Z (Cn Z h (fun b h=>?_) (fun b h=>?_))
 ·refine Gc 3 Z ?_
  refine vX (.int .u64 (IntKind.u64.wrap a)) (YI Z runUnderlying3 runUnderlying281 Z) ?_
  exact Go 6 Z (Rt h 2 [])
 refine Gc 7 Z ?_
 refine vV (x:=(.int .u64 (IntKind.u64.wrap (IntKind.i64.wrap (0-(IntKind.i64.wrap (a+1))))))) (YI Z runUnderlying3 runUnderlying281 Z) ?_
 exact Go 6 Z (Rt h 2 [])
def B_j(rec234:Int->Option (List Int))(n:Nat)(a:Int):Option (List Int):=
  (bif decide (a<128)then some [IntKind.u8.wrap a]else(rec234 (IntKind.u64.wrap (Int.tdiv a 128))).bind fun b=>(app [IntKind.u8.wrap (IntKind.u64.wrap ((Int.tmod a 128)+128))] b).bind fun c=>some c)
theorem QaD(rec234:Int->Option (List Int))(b:∀(a:Int) (r:List Int),rec234 a=some r->C prog 246 [.int .u64 a] [] (RQ (fun r=>.osl 0 0 r.length 1) (fun r=>[.row 5 1 (List.map (Qf .u8) r)]) r))(n:Nat)(a:Int)(r:List Int)(h:B_j rec234 n a=some r):
    C prog 246 [.int .u64 a] [] (RQ (fun r=>.osl 0 0 r.length 1) (fun r=>[.row 5 1 (List.map (Qf .u8) r)]) r):=by
 refine Qb func246 Z Z Z ?_
 refine G0 12 Z (Cn Z h (fun c h=>?_) (fun c h=>?_))
 ·refine Gc 3 Z ?_
  refine vX (.int .u8 (IntKind.u8.wrap a)) (YI Z runUnderlying281 runUnderlying5 Z) ?_
  refine vH (OpH.lit (xs:=[.tmp 6]) (es:=List.map (Qf .u8) [IntKind.u8.wrap a]) Yw Z Z Z Z Z ⟨Z,trivial⟩ Z Z) ?_
  exact FE Z (Go 5 Z (Rt h 2 [0]))
 refine Gc 5 Z ?_
 refine vX (.int .u64 (Int.tmod a 128)) (OpV.rem Z Z Z (by decide)) ?_
 refine Go 1 Z ?_
 refine vV (x:=(.int .u8 (IntKind.u8.wrap (IntKind.u64.wrap ((Int.tmod a 128)+128))))) (YI Z runUnderlying281 runUnderlying5 Z) ?_
 refine vH (OpH.lit (xs:=[.tmp 11]) (es:=List.map (Qf .u8) [IntKind.u8.wrap (IntKind.u64.wrap ((Int.tmod a 128)+128))]) Yw Z Z Z Z Z ⟨Z,trivial⟩ Z Z) ?_
 refine FE Z (Go 1 Z ?_)
 refine vX (.int .u64 (IntKind.u64.wrap (Int.tdiv a 128))) (OpV.quo Z Z Z (by decide)) ?_
 refine Cd [] h (b _) Z fun g f h=>FE Z (Bd h fun j d h=>?_)
 refine vH (Ql (e:=(Qf .u8)) d Yw runUnderlying118 (QT (i:=1))) ?_
 exact FE Z (Go 4 Z (Rt h 2 [2]))
def F_j:Nat->Int->Option (List Int)
  |0=>fun _=>none
  |n+1=>B_j (F_j n) n
theorem k_j(n:Nat):∀(a:Int) (r:List Int),F_j n a=some r->C prog 246 [.int .u64 a] [] (RQ (fun r=>.osl 0 0 r.length 1) (fun r=>[.row 5 1 (List.map (Qf .u8) r)]) r):=by
  induction n with
  |zero=>intro a r h;cases h
  |succ n ih=>intro a r h;exact QaD _ ih n a r h
def F_ix(n:Nat)(b:Value)(rec232:Value->Option (List Int))(a:(List Int)×Int):Option (Ctl ((List Int)×Int) (List Int)):=
  (bif decide (a.2<(b.L.length:Int))then(idx b.L a.2).bind fun c=>(rec232 c).bind fun d=>(app a.1 d).bind fun e=>some (.cont (e,IntKind.i64.wrap (a.2+1)))else some (.done a.1))
def B_o(rec232:Value->Option (List Int))(n:Nat)(a:Value):Option (List Int):=
  (bif (a.Kind==1)then(F_da n a.N).bind fun c=>(F_j n c).bind fun d=>(app [1] d).bind fun e=>some e else(bif (a.Kind==2)then none else(F_j n (IntKind.u64.wrap (a.L.length:Int))).bind fun f=>(app [3] f).bind fun g=>(iter (F_ix n a rec232) n (g,0):Option (List Int)).bind fun b=>some b))
theorem QaL(rec232:Value->Option (List Int))(f:∀(g:Value) (r:List Int),rec232 g=some r->C prog 230 [.agg (Value.c g)] [] (RQ (fun r=>.osl 0 0 r.length 1) (fun r=>[.row 5 1 (List.map (Qf .u8) r)]) r))(n:Nat)(g:Value)(r:List Int)(h:B_o rec232 n g=some r):
    C prog 230 [.agg (Value.c g)] [] (RQ (fun r=>.osl 0 0 r.length 1) (fun r=>[.row 5 1 (List.map (Qf .u8) r)]) r):=by
 refine Qb func230 Z Z Z ?_
 refine G0 20 Z (Cn Z h (fun p h=>?_) (fun p h=>?_))
 ·refine Gc 2 Z ?_
  refine vH (OpH.lit (xs:=[.const (.int .u8 1)]) (es:=List.map (Qf .u8) [1]) Yw Z Z Z Z Z ⟨Z,trivial⟩ Z Z) ?_
  refine FE Z (Go 2 Z (Cz [] h (k_da _ _) Z fun M z h=>Cd [] h (k_j _ _) Z fun N B h=>FE Z (Bd h fun O q h=>?_)))
  refine vH (Ql (e:=(Qf .u8)) q Yw runUnderlying118 (QT (i:=2))) ?_
  exact FE Z (Go 6 Z (Rt h 2 [3]))
 refine Gc 6 Z (Cn Z h (fun s h=>?_) (fun s h=>?_))
 ·refine Gc 1 Z ?_
  cases h
 refine Gc 5 Z ?_
 refine vH (OpH.lit (xs:=[.const (.int .u8 3)]) (es:=List.map (Qf .u8) [3]) Yw Z Z Z Z Z ⟨Z,trivial⟩ Z Z) ?_
 refine FE Z (Go 2 Z (Lm Z ?_))
 refine vX (.int .u64 (IntKind.u64.wrap (g.L.length:Int))) (YI Z runUnderlying3 runUnderlying281 Z) ?_
 refine Cd [] h (k_j _ _) Z fun P E h=>FE Z (Bd h fun Q t h=>?_)
 refine vH (Ql (e:=(Qf .u8)) t Yw runUnderlying118 (QT (i:=2))) ?_
 refine FE Z (Go 9 Z (Bd h fun b u h=>?_))
 refine Ct b [1] [] (fun b=>[(3,.osl 0 0 b.length 1)]) (fun b=>[(0,.row 5 1 (List.map (Qf .u8) b))]) (fun _=>rfl) ?_ (fun env H w=>?_)
 ·refine G0 1 Z ?_
  refine Lp [0,3] [1] (fun d=>[(3,.osl 1 0 d.1.length 1),(4,I d.2)]) (fun d=>[(1,.row 5 1 (List.map (Qf .u8) d.1))]) u (fun _=>rfl) (Lr [0,3]) fun d F a j=>?_
  refine G0 6 Z (Lm Z (Go 3 Z (Ys Z a (fun k a=>?_) (fun k a=>?_))))
  ·refine Gc 2 Z (Qm a ?_)
   obtain rfl:=Oj j a
   exact Gx 1 Z (QA (Lr [1]))
  refine Gc 9 Z (Bd a fun x l a=>IzE l (YQ x) Z (Go 1 Z (Cd [] a (f _) Z fun G y a=>FE Z (Bd a fun J m a=>?_))))
  refine vH (Ql (e:=(Qf .u8)) m Yw runUnderlying118 (QT (i:=2))) ?_
  exact FE Z (Go 9 Z (Qj a (Lr [0,3])))
 exact Gx 1 Z (TC.le w (Gc 7 Z (Rt h 2 [0])))
def F_o:Nat->Value->Option (List Int)
  |0=>fun _=>none
  |n+1=>B_o (F_o n) n
theorem k_o(n:Nat):∀(a:Value) (r:List Int),F_o n a=some r->C prog 230 [.agg (Value.c a)] [] (RQ (fun r=>.osl 0 0 r.length 1) (fun r=>[.row 5 1 (List.map (Qf .u8) r)]) r):=by
  induction n with
  |zero=>intro a r h;cases h
  |succ n ih=>intro a r h;exact QaL _ ih n a r h
def F_eh(n:Nat)(a:Value):Option ((List Int)×Int):=
  (F_hj n a).bind fun b=>(bif (b != 0)then some ([],b)else(F_o n a).bind fun c=>some (c,0))
theorem k_eh(n:Nat)(a:Value)(r:(List Int)×Int)(h:F_eh n a=some r):
    C prog 186 [.agg (Value.c a)] [] (RQ (fun r=>.tup [.osl 0 0 r.1.length 1,I r.2]) (fun r=>[.row 5 1 (List.map (Qf .u8) r.1)]) r):=by
 refine Qb func186 Z Z Z ?_
 refine G0 10 Z (Cz [] h (k_hj _ _) Z fun f d h=>Go 10 Z (Cn Z h (fun b h=>?_) (fun b h=>?_)))
 ·refine Gc 9 Z ?_
  obtain rfl:=Oi h
  refine R2 2 3 Z Z ?_
  refine Le.trans (Le.phantom (s:=2) (k:=1) (t:=5) (Nat.le_of_ble_eq_true Z) Z) ?_
  exact Lr [1]
 refine Gc 5 Z (Cd [] h (k_o _ _) Z fun g e h=>FE Z (Go 5 Z ?_))
 obtain rfl:=Oi h
 exact R2 2 3 Z Z (Lr [1])
def F_bg(n:Nat)(a:Fact):Option ((List Int)×Int):=
  (F_bt n a).bind fun c=>(bif (c != 0)then some ([],120)else(F_cs n a).bind fun d=>(F_cl n d).bind fun e=>(F_eh n ({Kind:=3,N:=0,S:=[],L:=e:Value})).bind fun b=>some (b.1,b.2))
theorem k_bg(n:Nat)(a:Fact)(r:(List Int)×Int)(h:F_bg n a=some r):
    C prog 135 [.agg (Fact.c a)] [] (RQ (fun r=>.tup [.osl 0 0 r.1.length 1,I r.2]) (fun r=>[.row 5 1 (List.map (Qf .u8) r.1)]) r):=by
 refine Qb func135 Z Z Z ?_
 refine G0 11 Z (Cz [] h (k_bt _ _) Z fun i d h=>Go 3 Z (Cn Z h (fun b h=>?_) (fun b h=>?_)))
 ·refine Gc 8 Z ?_
  obtain rfl:=Oi h
  refine R2 2 3 Z Z ?_
  refine Le.trans (Le.phantom (s:=2) (k:=1) (t:=5) (Nat.le_of_ble_eq_true Z) Z) ?_
  exact Lr [1]
 refine Gc 5 Z (Cd [] h (k_cs _ _) Z fun j e h=>FE Z ?_)
 refine WO.le (QaI [(8,_)] Z Z (QmA.cons Z FzA.o QmA.nil) (FzH.keep (FzH.keep (Y7 _)))) ?_
 refine Cd [] h (k_cl _ _) Z fun l f h=>FE Z ?_
 refine WO.le (QaI [(9,_)] Z Z (QmA.cons Z (FzA.agg (FzL.cons (FzA.refl _) (FzL.cons (FzA.refl _) (FzL.cons (FzA.refl _) (FzL.cons FzA.o (FzL.refl _)))))) QmA.nil) (FzH.keep (FzH.keep (FzH.keep (FzH.cells (FzL.cons (FzA.refl _) (FzL.cons (FzA.refl _) (FzL.cons (FzA.refl _) (FzL.cons FzA.o (FzL.refl _))))) (Y7 _)))))) ?_
 refine Cd [] h (k_eh _ _) Z fun m g h=>FE Z (Go 7 Z ?_)
 obtain rfl:=Oi h
 exact R2 2 3 Z Z (Lr [4])
def F_hm(n:Nat)(b:Fact)(c:Fact)(a:Int):Option (Ctl Int (Ctl Unit Int)):=
  (bif decide (a<3)then(idx [b.At,b.Crew,b.No] a).bind fun d=>(idx [c.At,c.Crew,c.No] a).bind fun e=>(bif decide (d<e)then some (.done (.done (-1)))else(idx [b.At,b.Crew,b.No] a).bind fun f=>(idx [c.At,c.Crew,c.No] a).bind fun g=>(bif decide (g<f)then some (.done (.done 1))else some (.cont (IntKind.i64.wrap (a+1)))))else some (.done (.cont ())))
def F_dk(n:Nat)(d:Fact)(e:Fact):Option Int:=
  (iter (F_hm n d e) n 0:Option (Ctl Unit Int)).bind fun f=>match f with|.cont a=>((F_bg n d).bind fun b=>(F_bg n e).bind fun c=>(bif Op.bytesLess (List.map Q1 b.1) (List.map Q1 c.1)then some (-1)else(bif (!(Op.bytesLess (List.map Q1 b.1) (List.map Q1 c.1)||(List.map Q1 b.1)==(List.map Q1 c.1)))then some 1 else some 0)))|.done a=>some a
theorem k_dk(n:Nat)(j:Fact)(k:Fact)(r:Int)(h:F_dk n j k=some r):
    Csm prog 63 [.agg (Fact.c j),.agg (Fact.c k)] [] (fun r=>I r) r:=by
 refine Qb func63 Z Z Z ?_
 refine G0 15 Z ?_
 refine vH (OpH.lit (xs:=[.tmp 13,.tmp 15,.tmp 17]) (es:=List.map (Qf .i64) [j.At,j.Crew,j.No]) Qu Z Z Z Z Z ⟨Z,Z,Z,trivial⟩ Z Z) ?_
 refine FE Z (Go 11 Z ?_)
 refine vH (OpH.lit (xs:=[.tmp 20,.tmp 22,.tmp 24]) (es:=List.map (Qf .i64) [k.At,k.Crew,k.No]) Qu Z Z Z Z Z ⟨Z,Z,Z,trivial⟩ Z Z) ?_
 refine FE Z (Go 9 Z (Bd h fun B E h=>?_))
 refine CtE (b:=B) [0,1] [2,3] (fun _=>[]) (fun _=>[]) (fun _=>rfl) ?_ (fun O env H F G=>?_)
 ·refine G0 1 Z ?_
  refine Lp [0,1,2,3] [2,3,5,6] (fun d=>[(7,I d)]) (fun _=>[]) E (fun _=>rfl) (Lr [0,1,2,3]) fun d R a g=>?_
  refine G0 7 Z (Ys Z a (fun t a=>?_) (fun t a=>?_))
  ·refine Gc 2 Z (Qm a ?_)
   obtain rfl:=Oj g a
   exact Gx 1 Z (Qp Z (Lr [0,1]))
  refine Gc 6 Z (DSs 8 Z (D 2 Z ?_))
  obtain⟨J,m,a⟩:=Y3 a
  refine DS.v (x:=(.ptr 2 (Int.toNat d*1))) (QK m Z runUnderlying48 sizeOf3) ?_
  refine DS.v (x:=(I J)) (OpV.load Z isAgg3 Z (Qw m)) ?_
  refine D 2 Z ?_
  obtain⟨L,p,a⟩:=Y3 a
  refine DS.v (x:=(.ptr 3 (Int.toNat d*1))) (QK p Z runUnderlying48 sizeOf3) ?_
  refine DS.v (x:=(I L)) (OpV.load Z isAgg3 Z (Qw p)) ?_
  refine DS.done Z (Go 3 Z (Cn Z a (fun u a=>?_) (fun u a=>?_)))
  ·refine Gc 9 Z (Qx a ?_)
   obtain rfl:=Oj g a
   exact Gx 1 Z (Qq (Gx 1 Z (Rt h 4 [])))
  refine Gc 3 Z (DSs 8 Z (D 2 Z ?_))
  obtain⟨M,q,a⟩:=Y3 a
  refine DS.v (x:=(.ptr 2 (Int.toNat d*1))) (QK q Z runUnderlying48 sizeOf3) ?_
  refine DS.v (x:=(I M)) (OpV.load Z isAgg3 Z (Qw q)) ?_
  refine D 2 Z ?_
  obtain⟨N,s,a⟩:=Y3 a
  refine DS.v (x:=(.ptr 3 (Int.toNat d*1))) (QK s Z runUnderlying48 sizeOf3) ?_
  refine DS.v (x:=(I N)) (OpV.load Z isAgg3 Z (Qw s)) ?_
  refine DS.done Z (Go 3 Z (Cn Z a (fun w a=>?_) (fun w a=>?_)))
  ·refine Gc 8 Z (Qx a ?_)
   obtain rfl:=Oj g a
   exact Gx 1 Z (Qq (Gx 1 Z (Rt h 4 [])))
  exact Gc 8 Z (Qj a (Lr [0,1,2,3]))
 subst F
 refine Gx 1 Z (TC.le G (Gc 3 Z (Cd [] h (k_bg _ _) Z fun e P h=>FE Z (Go 10 Z (Cd [] h (k_bg _ _) Z fun f Q h=>FE Z (Go 11 Z ?_))))))
 refine vX (.str (List.map Q1 e.1)) (Qb3 (l:=e.1) (Qi9.row (i:=2)) runUnderlying118 runUnderlying5 runUnderlying9) ?_
 refine Go 1 Z ?_
 refine vX (.str (List.map Q1 f.1)) (Qb3 (l:=f.1) (Qi9.row (i:=3)) runUnderlying118 runUnderlying5 runUnderlying9) ?_
 refine Go 3 Z (Cn Z h (fun y h=>?_) (fun y h=>?_))
 ·exact Gc 7 Z (Rt h 4 [])
 refine Gc 6 Z ?_
 refine vX (.str (List.map Q1 e.1)) (Qb3 (l:=e.1) (Qi9.row (i:=2)) runUnderlying118 runUnderlying5 runUnderlying9) ?_
 refine Go 1 Z ?_
 refine vX (.str (List.map Q1 f.1)) (Qb3 (l:=f.1) (Qi9.row (i:=3)) runUnderlying118 runUnderlying5 runUnderlying9) ?_
 refine vX (.bool (!(Op.bytesLess (List.map Q1 e.1) (List.map Q1 f.1)||(List.map Q1 e.1)==(List.map Q1 f.1)))) (QkM Z Z Z) ?_
 refine Go 2 Z (Cn Z h (fun z h=>?_) (fun z h=>?_))
 ·exact Gc 7 Z (Rt h 4 [])
 exact Gc 8 Z (Rt h 4 [])
end Go.Sw
