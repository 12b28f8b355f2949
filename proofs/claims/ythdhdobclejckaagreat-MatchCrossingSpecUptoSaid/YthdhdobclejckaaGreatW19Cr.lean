/- What the functions compute that MatchCrossingSpec reaches, and that their calls refine it (part 5 of 5). -/
import Derived.Test.YthdhdobclejckaaGreatW19Cr4
set_option linter.unusedVariables false
set_option linter.unusedSimpArgs false
set_option maxRecDepth 100000
set_option maxHeartbeats 4000000
namespace Go.Sw
open List(map)
open Int(toNat)
open Go.IntKind(i64 u64 u8)
open Go.Proofs Tryz
def F_bb(n:Nat)(j:stopwatchref19_input)(s:Way)(a:Int×Int×Int):Option (Ctl (Int×Int×Int) (Ctl Unit Bool)):=(bif decide (a.2.2<=s.Last)then((F_t n j s a.2.2).bind λd=>(bif (!d.2.2)then(bif decide (j.c.Faults.Misses<(i64.wrap (a.1+1)))then some (.done (.done (.done false)))else some (.cont (i64.wrap (a.1+1),a.2.1)))else((bif decide (0<=a.2.1)then(F_t n j s a.2.1).bind λe=>(idx j.k.Far (i64.wrap (d.1+1))).bind λt=>(idx t (i64.wrap (e.1+1))).bind λl=>(idx j.k.Far (i64.wrap (e.1+1))).bind λu=>(idx u (i64.wrap (d.1+1))).bind λm=>(idx j.between a.2.1).bind λw=>(idx w a.2.2).bind λg=>(F_ca n ({Lo:=i64.wrap ((i64.wrap (d.2.1.Lo-e.2.1.Hi))-l),Hi:=i64.wrap ((i64.wrap (d.2.1.Hi-e.2.1.Lo))+m):Span}) ({Lo:=g.Lo,Hi:=g.Hi:Span})).bind λH=>(bif (!(decide ((if(i64.wrap ((i64.wrap (d.2.1.Lo-e.2.1.Hi))-l))<g.Lo then g.Lo else(i64.wrap ((i64.wrap (d.2.1.Lo-e.2.1.Hi))-l)))<=(if g.Hi<(i64.wrap ((i64.wrap (d.2.1.Hi-e.2.1.Lo))+m))then g.Hi else(i64.wrap ((i64.wrap (d.2.1.Hi-e.2.1.Lo))+m))))))then some (.done (.done (.done (.done false))))else some (.cont ()))else some (.cont ())):Option (Ctl Unit (Ctl (Int×Int) (Ctl (Int×Int×Int) (Ctl Unit Bool))))).bind λx=>match x with|.cont q=>((F_bi n j a.2.2).bind λf=>((bif f.2 then(idx s.Hits a.2.2).bind λy=>some (decide (0<=y))else some false):Option Bool).bind λz=>((bif z then(idx s.Hits a.2.2).bind λB=>(idx j.hits B).bind λp=>(F_p n j p).bind λE=>(F_bh n j.c j.k E ({Lo:=p.First,Hi:=p.Last:Span})).bind λh=>(F_ca n ({Lo:=h.1.Lo,Hi:=h.1.Hi:Span}) ({Lo:=f.1.Lo,Hi:=f.1.Hi:Span})).bind λJ=>(bif (!(decide ((if h.1.Lo<f.1.Lo then f.1.Lo else h.1.Lo)<=(if f.1.Hi<h.1.Hi then f.1.Hi else h.1.Hi))))then some (.done (.done (.done (.done false))))else some (.cont ()))else some (.cont ())):Option (Ctl Unit (Ctl (Int×Int) (Ctl (Int×Int×Int) (Ctl Unit Bool))))).bind λF=>match F with|.cont r=>(some (.cont (0,a.2.2)))|.done r=>some r)|.done q=>some q):Option (Ctl (Int×Int) (Ctl (Int×Int×Int) (Ctl Unit Bool)))).bind λG=>match G with|.cont i=>(some (.cont (i.1,i.2,i64.wrap (a.2.2+1))))|.done i=>some i else some (.done (.cont ())))
def F_dh(n:Nat)(d:stopwatchref19_input)(e:Way):Option Bool:=((F_el n d e).bind λg=>(bif (!g)then some true else(F_cx n d.hits e).bind λh=>some (decide (d.c.Faults.Strays<h))):Option Bool).bind λi=>(bif i then some false else(iter (F_bb n d e) n (0,(-1),0):Option (Ctl Unit Bool)).bind λf=>match f with|.cont a=>(some true)|.done a=>some a)
theorem k_dh(n:Nat)(m:stopwatchref19_input)(q:Way):Ks (F_dh n m q) 26 [.agg (stopwatchref19_input.cells m),.agg (Way.c q)] [] (λr=>.bool r):=by
 refine Kg 9 func26 Z Z Z Z λr h=>Bd h λb4 y h=>Ct b4 [0,1] [2,3] (λb4=>[(34,.bool b4)]) Ze Zf ?_ (λenv H u=>?_)
 .refine G0 0 Z (DSs 13 Z (D 2 Z ?_));refine Dz [] y (k_el _ _ _) Z λr6 bj y=>D 2 Z (DS.is 4 y Z Z Z (λar y=>?_) (λar y=>?_))
  .exact D 8 Z (Eh Z (Gl 3 Z y [0,1]))
  .refine D 3 Z ?_;exact Dz [] y (k_cx _ _ _) Z λr8 bk y=>D 4 Z (Eh Z (Gl 3 Z y [0,1]))
 refine Gx 1 Z (Ef u (Cn Z h (λau h=>?_) (λau h=>?_)))
 .exact QC 7 Z h 4 []
 refine Gc 18 Z (Bd h λaj ak h=>Jn (b:=aj) [] [] Ze Ze Zf ?_ (λaw av=>?_))
 .refine G0 1 Z (Lp [0,1] [2,3] (λw=>[(5,I w.1),(6,I w.2.1),(7,I w.2.2)]) Ze ak Zf (Lr [0,1]) λw be l t=>?_);refine G0 9 Z (QV Z l (λX l=>?_) (λX l=>?_))
  .exact Gc 2 Z (Qk l (Gx 1 Z (YC t l Z (Lr []))))
  refine Gc 3 Z (Bd l λal f l=>Jn (b:=al) [0,1] [2,3,7] (λz=>[(5,I z.1),(6,I z.2)]) Ze Zf ?_ (λz hb=>?_))
  .refine G0 6 Z (Cd [] f (k_t _ _ _ _) Z λd ax f=>Fg 17 Z Z (Cn Z f (λY f=>?_) (λY f=>?_)))
   .refine Gc 18 Z (Cn Z f (λaa f=>?_) (λaa f=>?_))
    .refine Gc 9 Z ?_;cases f;refine Ql (Gx 1 Z (Qp l ?_));obtain rfl:=Oj t l;exact Gx 1 Z (Ql (Gx 1 Z (Rt h 4 [])))
    refine Gc 5 Z ?_;cases f;exact Yp Z (Lr [0,1])
   refine Gc 14 Z (Bd f λam a f=>CtE (b:=am) [0,1] [2,3,5,7] Ze Ze Zf ?_ (λay env H hb u=>?_))
   .refine G0 0 Z (Cn Z a (λab a=>?_) (λab a=>?_))
    .refine Gc 5 Z (Cd [] a (k_t _ _ _ _) Z λe az a=>Fg 11 Z Z ?_);obtain⟨R,G,a⟩:=Yh a;obtain⟨B,J,a⟩:=Yh a;obtain⟨T,L,a⟩:=Yh a;obtain⟨E,M,a⟩:=Yh a;refine QY 36 0 [69,70,71,72,73,74,75,76,77,78,79,80,81,82,83,84,85,86,87,88,89,90,91,92,93,94,95,96,97,98,99,100,101,102,103,14] [false,false,false,false,false,false,false,false,false,false,false,false,false,false,false,false,false,false,false,false,false,false,false,false,false,false,false,false,false,false,false,false,false,false,false,true] [[],[],[],[],[],[],[],[],[],[],[],[],[],[],[],[],[],[],[],[],[],[],[],[],[],[],[],[],[],[],[],[],[],[],[],[]] [[],[35]] [[(0,0),(1,1)],[(0,0),(1,1)],[(0,0),(1,1)],[(0,0),(1,1)],[(0,0),(1,1)],[(0,0),(1,1)],[(0,0),(1,1)],[(0,0),(1,1)],[(0,0),(1,1)],[(0,0),(1,1)],[(0,0),(1,1)],[(0,0),(1,1)],[(0,0),(1,1)],[(0,0),(1,1)],[(0,0),(1,1)],[(0,0),(1,1)],[(0,0),(1,1)],[(0,0),(1,1)],[(0,0),(1,1)],[(0,0),(1,1)],[(0,0),(1,1)],[(0,0),(1,1)],[(0,0),(1,1)],[(0,0),(1,1)],[(0,0),(1,1)],[(0,0),(1,1)],[(0,0),(1,1)],[(0,0),(1,1)],[(0,0),(1,1)],[(0,0),(1,1)],[(0,0),(1,1)],[(0,0),(1,1)],[(0,0),(1,1)],[(0,0),(1,1)],[(0,0),(1,1)],[(0,1)]] [.ptr 3 0,I d.2.1.Lo,.ptr 5 1,I e.2.1.Hi,I (i64.wrap (d.2.1.Lo-e.2.1.Hi)),.ptr 0 16,.ptr 0 17,.rsl 1 (map (QN 1 (Qe .i64)) m.k.Far),I d.1,I (i64.wrap (d.1+1)),.rp [.rsl 1 (map (Qe .i64) R)],.rsl 1 (map (Qe .i64) R),I e.1,I (i64.wrap (e.1+1)),.rp [I B],I B,I (i64.wrap ((i64.wrap (d.2.1.Lo-e.2.1.Hi))-B)),.ptr 3 1,I d.2.1.Hi,.ptr 5 0,I e.2.1.Lo,I (i64.wrap (d.2.1.Hi-e.2.1.Lo)),.ptr 0 16,.ptr 0 17,.rsl 1 (map (QN 1 (Qe .i64)) m.k.Far),I e.1,I (i64.wrap (e.1+1)),.rp [.rsl 1 (map (Qe .i64) T)],.rsl 1 (map (Qe .i64) T),I d.1,I (i64.wrap (d.1+1)),.rp [I E],I E,I (i64.wrap ((i64.wrap (d.2.1.Hi-e.2.1.Lo))+E)),.agg [I (i64.wrap ((i64.wrap (d.2.1.Lo-e.2.1.Hi))-B)),I (i64.wrap ((i64.wrap (d.2.1.Hi-e.2.1.Lo))+E))],.ptr 6 0] [[.cells 80 (stopwatchref19_input.cells m),.cells 46 (Way.c q),.cells 55 [I d.2.1.Lo,I d.2.1.Hi],.cells 55 [I d.2.1.Lo,I d.2.1.Hi],.cells 55 [I e.2.1.Lo,I e.2.1.Hi],.cells 55 [I e.2.1.Lo,I e.2.1.Hi]],[.cells 80 (stopwatchref19_input.cells m),.cells 46 (Way.c q),.cells 55 [I d.2.1.Lo,I d.2.1.Hi],.cells 55 [I d.2.1.Lo,I d.2.1.Hi],.cells 55 [I e.2.1.Lo,I e.2.1.Hi],.cells 55 [I e.2.1.Lo,I e.2.1.Hi],.cells 55 [I 0,I 0]]] ([.cells 80 (stopwatchref19_input.cells m),.cells 46 (Way.c q),.cells 55 [I d.2.1.Lo,I d.2.1.Hi],.cells 55 [I d.2.1.Lo,I d.2.1.Hi],.cells 55 [I e.2.1.Lo,I e.2.1.Hi],.cells 55 [I e.2.1.Lo,I e.2.1.Hi],.cells 55 [I 0,I 0]]) draws Z Z Z Z Z Z Z ?_ Z ?_
     .refine Qgr.cons (Qb (v0 Z Z) (Qb (v0 Z Z) (Qc))) (Qgr.cons (Qb (v0 Z Z) (Qb (v0 Z Z) (Qc))) (Qgr.cons (Qb (v0 Z Z) (Qb (v0 Z Z) (Qc))) (Qgr.cons (Qb (v0 Z Z) (Qb (v0 Z Z) (Qc))) (Qgr.cons ?_ (Qgr.cons (Qb (v0 Z Z) (Qb (v0 Z Z) (Qc))) (Qgr.cons (Qb (v0 Z Z) (Qb (v0 Z Z) (Qc))) (Qgr.cons (Qb (v0 Z Z) (Qb (v0 Z Z) (Qc))) (Qgr.cons (Qb (v0 Z Z) (Qb (v0 Z Z) (Qc))) (Qgr.cons ?_ (Qgr.cons ?_ (Qgr.cons (Qb (v0 Z Z) (Qb (v0 Z Z) (Qc))) (Qgr.cons (Qb (v0 Z Z) (Qb (v0 Z Z) (Qc))) (Qgr.cons ?_ (Qgr.cons ?_ (Qgr.cons (Qb (v0 Z Z) (Qb (v0 Z Z) (Qc))) (Qgr.cons ?_ (Qgr.cons (Qb (v0 Z Z) (Qb (v0 Z Z) (Qc))) (Qgr.cons (Qb (v0 Z Z) (Qb (v0 Z Z) (Qc))) (Qgr.cons (Qb (v0 Z Z) (Qb (v0 Z Z) (Qc))) (Qgr.cons (Qb (v0 Z Z) (Qb (v0 Z Z) (Qc))) (Qgr.cons ?_ (Qgr.cons (Qb (v0 Z Z) (Qb (v0 Z Z) (Qc))) (Qgr.cons (Qb (v0 Z Z) (Qb (v0 Z Z) (Qc))) (Qgr.cons (Qb (v0 Z Z) (Qb (v0 Z Z) (Qc))) (Qgr.cons (Qb (v0 Z Z) (Qb (v0 Z Z) (Qc))) (Qgr.cons ?_ (Qgr.cons ?_ (Qgr.cons (Qb (v0 Z Z) (Qb (v0 Z Z) (Qc))) (Qgr.cons (Qb (v0 Z Z) (Qb (v0 Z Z) (Qc))) (Qgr.cons ?_ (Qgr.cons ?_ (Qgr.cons (Qb (v0 Z Z) (Qb (v0 Z Z) (Qc))) (Qgr.cons ?_ (Qgr.cons (Qb (v0 Z Z) (Qb (v0 Z Z) (Qc))) (Qgr.cons ?_ (Qgr.nil))))))))))))))))))))))))))))))))))))
      .refine Qb ?_ (Qb ?_ (Qc))
       iterate 2 refine Om Z (sD 1 (sD 3 sN)) ?_;exact S Z Wp
      .refine Qb ?_ (Qb ?_ (Qc))
       iterate 2 refine Om Z (sD 8 sN) ?_;exact S Z Wp
      .refine Qb ?_ (Qb ?_ (Qc))
       iterate 2 refine Om Z (sD 7 (sD 9 sN)) ?_;exact Ix G EF EI Z Wp
      .refine Qb ?_ (Qb ?_ (Qc))
       iterate 2 refine Om Z (sD 12 sN) ?_;exact S Z Wp
      .refine Qb ?_ (Qb ?_ (Qc))
       iterate 2 refine Om Z (sD 11 (sD 13 sN)) ?_;exact Ix J EB EC Z Wp
      .refine Qb ?_ (Qb ?_ (Qc))
       iterate 2 refine Om Z (sD 4 (sD 15 sN)) ?_;exact S Z Wp
      .refine Qb ?_ (Qb ?_ (Qc))
       iterate 2 refine Om Z (sD 18 (sD 20 sN)) ?_;exact S Z Wp
      .refine Qb ?_ (Qb ?_ (Qc))
       iterate 2 refine Om Z (sD 25 sN) ?_;exact S Z Wp
      .refine Qb ?_ (Qb ?_ (Qc))
       iterate 2 refine Om Z (sD 24 (sD 26 sN)) ?_;exact Ix L EF EI Z Wp
      .refine Qb ?_ (Qb ?_ (Qc))
       iterate 2 refine Om Z (sD 29 sN) ?_;exact S Z Wp
      .refine Qb ?_ (Qb ?_ (Qc))
       iterate 2 refine Om Z (sD 28 (sD 30 sN)) ?_;exact Ix M EB EC Z Wp
      .refine Qb ?_ (Qb ?_ (Qc))
       iterate 2 refine Om Z (sD 21 (sD 32 sN)) ?_;exact S Z Wp
      .refine Qb ?_ (Qc)
       .refine Om1 Z sN ?_;refine vH (Qag (v:=(.agg [I 0,I 0])) E7 (zrC Z)) ?_;exact FE Z Wp
     refine Go 4 Z (DSs 9 Z (D 4 Z ?_));obtain⟨an,ac,a⟩:=Yh a;refine DS.wo (x:=.rp [.rsl 2 (map Span.c an)]) ?_ ?_
     .exact Ix ac Gk sizeOf94 Z Wp
     refine D 2 Z ?_;obtain⟨V,ad,a⟩:=Yh a;refine DS.wo (x:=.rp [I V.Lo,I V.Hi]) ?_ ?_
     .exact Ix ad EP ED Z Wp
     refine D 1 Z (Eh Z (Cz [] a (k_ca _ _ _) Z λbg ba a=>Go 3 Z (Cn Z a (λae a=>?_) (λae a=>?_))))
     .refine Gc 6 Z ?_;cases a;refine Ql (Gx 2 Z ?_);cases f;refine Ql (Gx 1 Z (Qp l ?_));obtain rfl:=Oj t l;exact Gx 1 Z (Ql (Gx 1 Z (Rt h 4 [])))
     refine Gc 1 Z ?_;cases a;exact Yp Z (Lr [0,1])
    refine Gc 1 Z ?_;cases a;exact Yp Z (Lr [0,1])
   subst hb;refine Gx 1 Z (Ef u (Gc 10 Z (Cd [] f (k_bi _ _ _) Z λp bb f=>Fg 9 Z Z (Bd f λF s f=>Ct F [0,1,3] [2,3,5,6,7,15] (λF=>[(130,.bool F)]) Ze Zf ?_ (λenv H u=>?_)))))
   .refine G0 3 Z (Is 123 s Z (λaf s=>?_) (λaf s=>?_))
    .exact Go 3 Z (Bd s λbh ag s=>Iz ag Z (Gl 4 Z s [0,1,3]))
    .exact Gl 8 Z s [0,1,3]
   refine Gx 1 Z (Ef u (Bd f λao i f=>CtE (b:=ao) [0,1] [2,3,5,6,7] Ze Ze Zf ?_ (λbc env H hb u=>?_)))
   .refine G0 0 Z (Cn Z i (λah i=>?_) (λah i=>?_))
    .refine Gc 1 Z ?_;obtain⟨W,N,i⟩:=Yh i;obtain⟨j,O,i⟩:=Yh i;refine QY 10 0 [131,132,133,134,135,136,137,138,139,17] [false,false,false,false,false,false,false,false,false,true] [[],[],[],[],[],[],[],[],[],[]] [[],[9]] [[(0,0),(1,1)],[(0,0),(1,1)],[(0,0),(1,1)],[(0,0),(1,1)],[(0,0),(1,1)],[(0,0),(1,1)],[(0,0),(1,1)],[(0,0),(1,1)],[(0,0),(1,1)],[(0,1)]] [.ptr 0 18,.rsl 5 (map Hit.c m.hits),.ptr 1 0,.rsl 1 (map (Qe .i64) q.Hits),I w.2.2,.rp [I W],I W,.rp [I j.Mat,I j.Epoch,I j.Chip,I j.First,I j.Last],.agg (Hit.c j),.ptr 3 0] [[.cells 80 (stopwatchref19_input.cells m),.cells 46 (Way.c q),.cells 63 (Hand.c p.1)],[.cells 80 (stopwatchref19_input.cells m),.cells 46 (Way.c q),.cells 63 (Hand.c p.1),.cells 65 (Hit.c Ur)]] ([.cells 80 (stopwatchref19_input.cells m),.cells 46 (Way.c q),.cells 63 (Hand.c p.1),.cells 65 (Hit.c Ur)]) draws Z Z Z Z Z Z Z ?_ Z ?_
     .refine Qgr.cons (Qb (v0 Z Z) (Qb (v0 Z Z) (Qc))) (Qgr.cons (Qb (v0 Z Z) (Qb (v0 Z Z) (Qc))) (Qgr.cons (Qb (v0 Z Z) (Qb (v0 Z Z) (Qc))) (Qgr.cons (Qb (v0 Z Z) (Qb (v0 Z Z) (Qc))) (Qgr.cons (Qb (v0 Z Z) (Qb (v0 Z Z) (Qc))) (Qgr.cons ?_ (Qgr.cons (Qb (v0 Z Z) (Qb (v0 Z Z) (Qc))) (Qgr.cons ?_ (Qgr.cons (Qb (v0 Z Z) (Qb (v0 Z Z) (Qc))) (Qgr.cons ?_ (Qgr.nil))))))))))
      .refine Qb ?_ (Qb ?_ (Qc))
       iterate 2 refine Om Z (sD 3 (sD 4 sN)) ?_;exact Ix N EB EC Z Wp
      .refine Qb ?_ (Qb ?_ (Qc))
       iterate 2 refine Om Z (sD 1 (sD 6 sN)) ?_;exact Ix O EJ EW Z Wp
      .refine Qb ?_ (Qc)
       .refine Om1 Z sN ?_;refine vH (Qag (v:=(.agg [I 0,I 0,I 0,I 0,I 0])) zeroValue65 (zrC Z)) ?_;exact FE Z Wp
     refine Go 4 Z ?_;obtain⟨aq,P,i⟩:=Yh i;obtain⟨g,Q,i⟩:=Yh i;refine QY 18 1 [141,142,143,144,145,146,147,148,149,150,151,152,153,140,154,155,18,1000017] [false,false,false,false,false,false,false,false,false,false,false,false,true,false,false,false,true,true] [[],[],[],[],[],[],[],[],[],[],[],[],[],[12],[12],[12],[],[12,16]] [[],[12],[16],[12,16],[12,16,17]] [[(0,0),(2,2)],[(0,0),(2,2)],[(0,0),(2,2)],[(0,0),(2,2)],[(0,0),(2,2)],[(0,0),(2,2)],[(0,0),(2,2)],[(0,0),(2,2)],[(0,0),(2,2)],[(0,0),(2,2)],[(0,0),(2,2)],[(0,0),(2,2)],[(0,1),(2,3)],[(1,1),(3,3)],[(1,1),(3,3)],[(1,1),(3,3),(4,4)],[(0,2),(1,3)],[(3,4)]] [.ptr 0 0,.agg (Course.c m.c),.ptr 0 16,.agg (Clocks.c m.k),.agg (stopwatchref19_input.cells m),.agg (Hit.c j),I aq,.ptr 3 3,I j.First,.ptr 3 4,I j.Last,.agg [I j.First,I j.Last],.tup [.agg [I g.1.Lo,I g.1.Hi],I g.2],.tup [.agg [I g.1.Lo,I g.1.Hi],I g.2],.agg [I g.1.Lo,I g.1.Hi],I g.2,.ptr 4 0,.any] [[.cells 80 (stopwatchref19_input.cells m),.cells 46 (Way.c q),.cells 63 (Hand.c p.1),.cells 65 (Hit.c j),.dead],[.cells 80 (stopwatchref19_input.cells m),.cells 46 (Way.c q),.cells 63 (Hand.c p.1),.cells 65 (Hit.c j),.dead,.cells 55 [I g.1.Lo,I g.1.Hi]],[.cells 80 (stopwatchref19_input.cells m),.cells 46 (Way.c q),.cells 63 (Hand.c p.1),.cells 65 (Hit.c j),.cells 55 [I 0,I 0]],[.cells 80 (stopwatchref19_input.cells m),.cells 46 (Way.c q),.cells 63 (Hand.c p.1),.cells 65 (Hit.c j),.cells 55 [I 0,I 0],.cells 55 [I g.1.Lo,I g.1.Hi]],[.cells 80 (stopwatchref19_input.cells m),.cells 46 (Way.c q),.cells 63 (Hand.c p.1),.cells 65 (Hit.c j),.cells 55 [I g.1.Lo,I g.1.Hi],.cells 55 [I g.1.Lo,I g.1.Hi]]] ([.cells 80 (stopwatchref19_input.cells m),.cells 46 (Way.c q),.cells 63 (Hand.c p.1),.cells 65 (Hit.c j),.cells 55 [I g.1.Lo,I g.1.Hi],.cells 55 [I g.1.Lo,I g.1.Hi]]) draws Z Z Z Z Z Z Z ?_ Z ?_
     .refine Qgr.cons (Qb (v0 Z Z) (Qb (v0 Z Z) (Qc))) (Qgr.cons (Qb (v0 Z Z) (Qb (v0 Z Z) (Qc))) (Qgr.cons (Qb (v0 Z Z) (Qb (v0 Z Z) (Qc))) (Qgr.cons (Qb (v0 Z Z) (Qb (v0 Z Z) (Qc))) (Qgr.cons (Qb (v0 Z Z) (Qb (v0 Z Z) (Qc))) (Qgr.cons (Qb (v0 Z Z) (Qb (v0 Z Z) (Qc))) (Qgr.cons ?_ (Qgr.cons (Qb (v0 Z Z) (Qb (v0 Z Z) (Qc))) (Qgr.cons (Qb (v0 Z Z) (Qb (v0 Z Z) (Qc))) (Qgr.cons (Qb (v0 Z Z) (Qb (v0 Z Z) (Qc))) (Qgr.cons (Qb (v0 Z Z) (Qb (v0 Z Z) (Qc))) (Qgr.cons (Qb (v0 Z Z) (Qb (v0 Z Z) (Qc))) (Qgr.cons ?_ (Qgr.cons (Qb (v0 Z Z) (Qb (v0 Z Z) (Qc))) (Qgr.cons (Qb (v0 Z Z) (Qb (v0 Z Z) (Qc))) (Qgr.cons (Qb (v0 Z Z) (Qb (v0 Z Z) (Qb (v0 Z Z) (Qc)))) (Qgr.cons ?_ (Qgr.cons ?_ (Qgr.nil))))))))))))))))))
      .refine Qb ?_ (Qb ?_ (Qc))
       iterate 2 refine Om Z (sD 4 (sD 5 sN)) ?_;exact Pc [] Z (OpC.fn call61 Z Z Z) (k_p _ _ _ _ P) Z Wp
      .refine Qb ?_ (Qb ?_ (Qc))
       iterate 2 refine Om1 Z (sD 1 (sD 3 (sD 6 (sD 11 sN)))) ?_;refine Qy [] (OpC.fn call60 Z Z Z) (k_bh _ _ _ _ _ _ Q) ?_;rintro _ _ ⟨rfl,rfl⟩;exact FE Z Wp
      .refine Qb ?_ (Qb ?_ (Qc))
       iterate 2 exact Jm.alloc _ 18 55 4 _ Z Z Z Z Z Z Z (OpZ.alloc (v:=(.agg [I 0,I 0])) E7 (zrC Z)) Z
      .refine Qb ?_ (Qc)
       .refine Om2 Z (sD 16 (sD 14 sN)) ?_;refine vU (Ey Z Z Z ED Z Z Z Z Z Z Z) ?_;exact FE Z Wp
     refine Go 11 Z (Cz [] i (k_ca _ _ _) Z λbi bd i=>Go 3 Z (Cn Z i (λai i=>?_) (λai i=>?_)))
     .refine Gc 6 Z ?_;cases i;refine Ql (Gx 1 Z ?_);cases f;refine Ql (Gx 1 Z (Qp l ?_));obtain rfl:=Oj t l;exact Gx 1 Z (Ql (Gx 1 Z (Rt h 4 [])))
     refine Gc 1 Z ?_;cases i;exact Yp Z (Lr [0,1])
    refine Gc 1 Z ?_;cases i;exact Yp Z (Lr [0,1])
   subst hb;refine Gx 1 Z ?_;cases f;exact Yp Z (Eo u (Lr [0,1]))
  subst hb;exact Gc 5 Z (Qi l (Lr [0,1]))
 subst av;exact QC 6 Z h 4 []
def F_ef(n:Nat)(a:Course)(d:Clocks)(g:Starter)(h:Int)(e:List Hit)(f:List Hand)(l:Way):Option Int:=(F_dg n a d g h e f).bind λi=>(bif (i != 0)then some i else(F_bx n a d g h e f).bind λj=>(F_dh n ({c:=a,k:=d,hits:=e,hands:=f,route:=j.1,between:=j.2:stopwatchref19_input}) l).bind λm=>(bif (!m)then some 190 else some 0))
theorem k_ef(n:Nat)(d:Course)(e:Clocks)(j:Starter)(l:Int)(f:List Hit)(g:List Hand)(a:Way):Ks (F_ef n d e j l f g a) 12 [.agg (Course.c d),.agg (Clocks.c e),.agg (Starter.c j),I l,.rsl 5 (map Hit.c f),.rsl 4 (map Hand.c g),.agg (Way.c a)] [] (λr=>I r):=by
 refine Kg 17 func12 Z Z Z Z λr h=>Cz [] h (k_dg _ _ _ _ _ _ _) Z λu s h=>Go 10 Z (Cn Z h (λm h=>?_) (λm h=>?_))
 .exact QC 8 Z h 14 []
 refine Gc 4 Z (DAs 8 6 [0,0,0,0,0,0,1,3] (by kernel_rfl) (Da 6 Z ?_));obtain⟨i,p,h⟩:=Yh h;refine DA.op (x:=.agg (stopwatchref19_input.cells ({c:=d,k:=e,hits:=f,hands:=g,route:=i.1,between:=i.2:stopwatchref19_input}))) (H1:=[.cells 33 (Course.c d),.cells 37 (Clocks.c e),.cells 39 (Starter.c j),.cells 46 (Way.c a),.dead,.dead,.cells 80 (stopwatchref19_input.cells ({c:=d,k:=e,hits:=f,hands:=g,route:=i.1,between:=i.2:stopwatchref19_input}))]) ?_ ?_
 .refine Qy [] (OpC.fn call25 Z Z Z) (k_bx _ _ _ _ _ _ _ _ p) ?_;rintro _ _ ⟨rfl,rfl⟩;refine FE Z ?_;refine Eu (YF [(32,_)] Z Z (QlR.cons Z (FzA.agg (Ed (Ee _) (Ed (Ee _) (Ed (Ee _) (Ed (Ee _) (Ed (Ee _) (Ed (Ee _) (Ed (Ee _) (Ed (Ee _) (Ed (Ee _) (Ed (Ee _) (Ed (Ee _) (Ed (Ee _) (Ed (Ee _) (Ed (Ee _) (Ed (Ee _) (Ed (Ee _) (Ed (Ee _) (Ed (Ee _) (Ed (Ee _) (Ed (Ee _) (Ed Er (Ek _))))))))))))))))))))))) QlR.nil) (Ec (Ec (Ec (Ec (Ec (Ec (FzH.cells (Ed (Ee _) (Ed (Ee _) (Ed (Ee _) (Ed (Ee _) (Ed (Ee _) (Ed (Ee _) (Ed (Ee _) (Ed (Ee _) (Ed (Ee _) (Ed (Ee _) (Ed (Ee _) (Ed (Ee _) (Ed (Ee _) (Ed (Ee _) (Ed (Ee _) (Ed (Ee _) (Ed (Ee _) (Ed (Ee _) (Ed (Ee _) (Ed (Ee _) (Ed Er (Ek _)))))))))))))))))))))) (Q2 _))))))))) ?_;refine Eu Qij ?_;refine Eu (YF [(32,_)] Z Z (QlR.cons Z (FzA.agg (Ed (Ee _) (Ed (Ee _) (Ed (Ee _) (Ed (Ee _) (Ed (Ee _) (Ed (Ee _) (Ed (Ee _) (Ed (Ee _) (Ed (Ee _) (Ed (Ee _) (Ed (Ee _) (Ed (Ee _) (Ed (Ee _) (Ed (Ee _) (Ed (Ee _) (Ed (Ee _) (Ed (Ee _) (Ed (Ee _) (Ed (Ee _) (Ed (Ee _) (Ed (Ee _) (Ed Er (Ek _)))))))))))))))))))))))) QlR.nil) (Ec (Ec (Ec (Ec (Ec (Ec (FzH.cells (Ed (Ee _) (Ed (Ee _) (Ed (Ee _) (Ed (Ee _) (Ed (Ee _) (Ed (Ee _) (Ed (Ee _) (Ed (Ee _) (Ed (Ee _) (Ed (Ee _) (Ed (Ee _) (Ed (Ee _) (Ed (Ee _) (Ed (Ee _) (Ed (Ee _) (Ed (Ee _) (Ed (Ee _) (Ed (Ee _) (Ed (Ee _) (Ed (Ee _) (Ed (Ee _) (Ed Er (Ek _))))))))))))))))))))))) (Q2 _))))))))) ?_;refine Eu Qij ?_;exact Wp
 refine DB.wo2 (x:=.agg (Way.c a)) ?_ ?_ ?_
 iterate 2 refine vX (.agg (Way.c a)) (Qbf Z isAgg46 Gh Z (Pts.cells Z Z) Z Z) ?_;exact Wp
 refine DB.done Z (Cz [] h (k_dh _ _ _) Z λw t h=>Go 3 Z (Cn Z h (λq h=>?_) (λq h=>?_)))
 .exact QC 7 Z h 14 []
 exact QC 8 Z h 14 []
def F_bn(n:Nat)(f:Course)(g:Clocks)(h:List Hit)(i:List Hand)(l:Way)(m:Int)(a:(List Int)×(List (List Span))×Int):Option (Ctl ((List Int)×(List (List Span))×Int) (Ctl stopwatchref19_input (Int×Span×Int))):=(bif decide (0<=a.2.2)then(F_t n ({c:=f,k:=g,hits:=h,hands:=i,route:=a.1,between:=a.2.1:stopwatchref19_input}) l a.2.2).bind λd=>(bif d.2.2 then(idx a.2.1 a.2.2).bind λj=>(idx j m).bind λe=>some (.done (.done (d.1,{Lo:=i64.wrap (d.2.1.Lo+e.Lo),Hi:=i64.wrap (d.2.1.Hi+e.Hi):Span},0)))else some (.cont (a.1,a.2.1,i64.wrap (a.2.2-1))))else some (.done (.cont ({c:=f,k:=g,hits:=h,hands:=i,route:=a.1,between:=a.2.1:stopwatchref19_input}))))
def F_bf(n:Nat)(g:Way)(i:Int)(e:stopwatchref19_input)(a:Int):Option (Ctl Int (Ctl Unit (Int×Span×Int))):=(bif decide (a<=g.Last)then(F_t n e g a).bind λd=>(bif d.2.2 then(idx e.between i).bind λh=>(idx h a).bind λf=>some (.done (.done (d.1,{Lo:=i64.wrap (d.2.1.Lo-f.Hi),Hi:=i64.wrap (d.2.1.Hi-f.Lo):Span},0)))else some (.cont (i64.wrap (a+1))))else some (.done (.cont ())))
def F_ag(n:Nat)(g:Course)(h:Clocks)(k:Starter)(l:Int)(i:List Hit)(j:List Hand)(f:Way)(d:Int):Option (Int×Span×Int):=(F_ef n g h k l i j f).bind λm=>(bif (m != 0)then some (0,{Lo:=0,Hi:=0:Span},m)else((bif decide (d<0)then some true else some (decide (f.Last<d))):Option Bool).bind λs=>(bif s then some (0,{Lo:=0,Hi:=0:Span},1)else(F_bx n g h k l i j).bind λp=>(iter (F_bn n g h i j f d) n (p.1,p.2,d):Option (Ctl stopwatchref19_input (Int×Span×Int))).bind λq=>match q with|.cont a=>((iter (F_bf n f d a) n d:Option (Ctl Unit (Int×Span×Int))).bind λr=>match r with|.cont e=>(some ((-1),{Lo:=(-1099511627776),Hi:=1099511627776:Span},0))|.done e=>some e)|.done a=>some a))
theorem k_ag(n:Nat)(q:Course)(s:Clocks)(M:Starter)(N:Int)(t:List Hit)(u:List Hand)(w:Way)(O:Int):Kq (F_ag n q s M N t u w O) 16 [.agg (Course.c q),.agg (Clocks.c s),.agg (Starter.c M),I N,.rsl 5 (map Hit.c t),.rsl 4 (map Hand.c u),.agg (Way.c w),I O] [] (λr=>.tup [I r.1,.agg [I r.2.1.Lo,I r.2.1.Hi],I r.2.2]) (λr=>[.cells 55 [I r.2.1.Lo,I r.2.1.Hi]]):=by
 refine Kg 20 func16 Z Z Z Z λr h=>Cz [] h (k_ef _ _ _ _ _ _ _ _) Z λr1 ac h=>Go 10 Z (Cn Z h (λP h=>?_) (λP h=>?_))
 .refine Gc 11 Z ?_;obtain rfl:=Oi h;exact Rx [4] [16,17,18] Z (Qg Z Z (Qif.cons QcX.tmp (Qif.cons (Qf EG ED Z Z Z) (Qif.cons QcX.tmp Qif.nil)))) ⟨Z,Z⟩
 refine Gc 4 Z (Bd h λx f h=>Ct x [0,1,2,3,4] [3,4,5,7,8,9,10,14,17] (λx=>[(50,.bool x)]) Ze Zf ?_ (λenv H g=>?_))
 .refine G0 4 Z (Is 45 f Z (λQ f=>?_) (λQ f=>?_))
  iterate 2 exact Gl 6 Z f [0,1,2,3,4]
 refine Gx 1 Z (Ef g (Cn Z h (λR h=>?_) (λR h=>?_)))
 .refine Gc 10 Z ?_;obtain rfl:=Oi h;exact Rx [4] [16,17,18] Z (Qg Z Z (Qif.cons QcX.tmp (Qif.cons (Qf EG ED Z Z Z) (Qif.cons QcX.tmp Qif.nil)))) ⟨Z,Z⟩
 refine Gc 10 Z (Cd [] h (k_bx _ _ _ _ _ _ _) Z λr8 ad h=>Fg 11 Z Z (Bd h λT V h=>CtE (b:=T) [0,1,2] [7] (λ_=>[(14,.ptr 0 0),(17,.ptr 1 0),(20,.ptr 2 0)]) (λi=>[(0,.cells 46 (Way.c w)),(1,.cells 55 [I 0,I 0]),(2,.cells 80 (stopwatchref19_input.cells i))]) Zf ?_ (λi env H j g=>?_)))
 .refine G0 1 Z (Lp [3,4,8] [7,14,17,20] (λe=>[(21,I e.2.2)]) (λe=>[(2,.cells 80 (stopwatchref19_input.cells ({c:=q,k:=s,hits:=t,hands:=u,route:=e.1,between:=e.2.1:stopwatchref19_input})))]) V Zf ?_ ?_)
  .refine Eo (YF [(58,_)] Z Z (QlR.cons Z (FzA.agg (Ed (Ee _) (Ed (Ee _) (Ed (Ee _) (Ed (Ee _) (Ed (Ee _) (Ed (Ee _) (Ed (Ee _) (Ed (Ee _) (Ed (Ee _) (Ed (Ee _) (Ed (Ee _) (Ed (Ee _) (Ed (Ee _) (Ed (Ee _) (Ed (Ee _) (Ed (Ee _) (Ed (Ee _) (Ed (Ee _) (Ed (Ee _) (Ed (Ee _) (Ed Er (Ek _))))))))))))))))))))))) QlR.nil) (Ec (Ec (Ec (Ec (Ec (Ec (Ec (FzH.cells (Ed (Ee _) (Ed (Ee _) (Ed (Ee _) (Ed (Ee _) (Ed (Ee _) (Ed (Ee _) (Ed (Ee _) (Ed (Ee _) (Ed (Ee _) (Ed (Ee _) (Ed (Ee _) (Ed (Ee _) (Ed (Ee _) (Ed (Ee _) (Ed (Ee _) (Ed (Ee _) (Ed (Ee _) (Ed (Ee _) (Ed (Ee _) (Ed (Ee _) (Ed Er (Ek _)))))))))))))))))))))) (FzH.cells (Ed (Ee _) (Ed (Ee _) (Ed (Ee _) (Ed (Ee _) (Ed (Ee _) (Ed (Ee _) (Ed (Ee _) (Ed (Ee _) (Ed (Ee _) (Ed (Ee _) (Ed (Ee _) (Ed (Ee _) (Ed (Ee _) (Ed (Ee _) (Ed (Ee _) (Ed (Ee _) (Ed (Ee _) (Ed (Ee _) (Ed (Ee _) (Ed (Ee _) (Ed Er (Ek _)))))))))))))))))))))) (Q2 _))))))))))) ?_;refine Eo (YF [(58,_)] Z Z (QlR.cons Z (FzA.agg (Ed (Ee _) (Ed (Ee _) (Ed (Ee _) (Ed (Ee _) (Ed (Ee _) (Ed (Ee _) (Ed (Ee _) (Ed (Ee _) (Ed (Ee _) (Ed (Ee _) (Ed (Ee _) (Ed (Ee _) (Ed (Ee _) (Ed (Ee _) (Ed (Ee _) (Ed (Ee _) (Ed (Ee _) (Ed (Ee _) (Ed (Ee _) (Ed (Ee _) (Ed (Ee _) (Ed Er (Ek _)))))))))))))))))))))))) QlR.nil) (Ec (Ec (Ec (Ec (Ec (Ec (Ec (FzH.cells (Ed (Ee _) (Ed (Ee _) (Ed (Ee _) (Ed (Ee _) (Ed (Ee _) (Ed (Ee _) (Ed (Ee _) (Ed (Ee _) (Ed (Ee _) (Ed (Ee _) (Ed (Ee _) (Ed (Ee _) (Ed (Ee _) (Ed (Ee _) (Ed (Ee _) (Ed (Ee _) (Ed (Ee _) (Ed (Ee _) (Ed (Ee _) (Ed (Ee _) (Ed (Ee _) (Ed Er (Ek _))))))))))))))))))))))) (FzH.cells (Ed (Ee _) (Ed (Ee _) (Ed (Ee _) (Ed (Ee _) (Ed (Ee _) (Ed (Ee _) (Ed (Ee _) (Ed (Ee _) (Ed (Ee _) (Ed (Ee _) (Ed (Ee _) (Ed (Ee _) (Ed (Ee _) (Ed (Ee _) (Ed (Ee _) (Ed (Ee _) (Ed (Ee _) (Ed (Ee _) (Ed (Ee _) (Ed (Ee _) (Ed (Ee _) (Ed Er (Ek _))))))))))))))))))))))) (Q2 _))))))))))) ?_;exact Lr [3,4,8]
  intro e ae a l;refine G0 7 Z (QV Z a (λy a=>?_) (λy a=>?_))
  .exact Gc 2 Z (Qk a (Gx 1 Z (YC l a Z (Lr [0,1,2]))))
  refine Gc 9 Z (Cd [] a (k_t _ _ _ _) Z λaf Y a=>Fg 15 Z Z (Cn Z a (λz a=>?_) (λz a=>?_)))
  .refine Gc 5 Z (Bd a λag B a=>Iz B Z (Go 2 Z (Bd a λah E a=>Iz E Z (Go 6 Z (DSs 13 Z (D 13 Z (Eh Z (Go 7 Z (Qp a ?_)))))))));obtain rfl:=Oj l a;refine Gx 1 Z (Ql (Gx 1 Z ?_));obtain rfl:=Oi h;exact Rx [1] [16,17,18] Z (Qg Z Z (Qif.cons QcX.tmp (Qif.cons (Qf EG ED Z Z Z) (Qif.cons QcX.tmp Qif.nil)))) ⟨Z,Z⟩
  exact Gc 8 Z (Qi a (Lr [0,1,2]))
 subst j;refine Gx 1 Z (Ef g (Gc 7 Z (Bd h λW X h=>Jn (b:=W) [1] [17] Ze Ze Zf ?_ (λaa j=>?_))))
 .refine G0 1 Z (Lp [0,1,2] [7,14,17,20] (λp=>[(26,I p)]) Ze X Zf (Lr [0,1,2]) λp ai d m=>?_);refine G0 9 Z (QV Z d (λF d=>?_) (λF d=>?_))
  .exact Gc 2 Z (Qk d (Gx 1 Z (YC m d Z (Lr [1]))))
  refine Gc 9 Z (Cd [] d (k_t _ _ _ _) Z λaj ab d=>Fg 15 Z Z (Cn Z d (λG d=>?_) (λG d=>?_)))
  .refine Gc 5 Z (Bd d λak J d=>Iz J Z (Go 2 Z (Bd d λal L d=>Iz L Z (Go 6 Z (DSs 13 Z (D 13 Z (Eh Z (Go 7 Z (Qp d ?_)))))))));obtain rfl:=Oj m d;refine Gx 1 Z (Ql (Gx 1 Z ?_));obtain rfl:=Oi h;exact Rx [1] [16,17,18] Z (Qg Z Z (Qif.cons QcX.tmp (Qif.cons (Qf EG ED Z Z Z) (Qif.cons QcX.tmp Qif.nil)))) ⟨Z,Z⟩
  exact Gc 8 Z (Qi d (Lr [0,1,2]))
 subst j;refine Gc 9 Z ?_;obtain rfl:=Oi h;exact Rx [0] [16,17,18] Z (Qg Z Z (Qif.cons QcX.tmp (Qif.cons (Qf EG ED Z Z Z) (Qif.cons QcX.tmp Qif.nil)))) ⟨Z,Z⟩
def F_hr(n:Nat)(a:stopwatchlaw19_Input)(f:Way)(g:Int):Option Bool:=(F_hf 300).bind λi=>(bif (!i)then some false else((F_ar n a).bind λj=>(bif (!j)then some true else some (decide (300<(f.Hits.length:Int)))):Option Bool).bind λk=>(bif k then some true else(F_y n a.C a.K a.S a.Extra a.Hits a.Hands f g).bind λd=>(F_ag n a.C a.K a.S a.Extra a.Hits a.Hands f g).bind λe=>((bif (d.1==e.1)then(bif (({Lo:=d.2.1.Lo,Hi:=d.2.1.Hi:Span})==({Lo:=e.2.1.Lo,Hi:=e.2.1.Hi:Span}))then some (d.2.2==e.2.2)else some false)else some false):Option Bool).bind λh=>some h))
theorem k_hr(n:Nat)(l:stopwatchlaw19_Input)(m:Way)(s:Int):Ks (F_hr n l m s) 4 [.agg (stopwatchlaw19_Input.c l),.agg (Way.c m),I s] [] (λr=>.bool r):=by
 refine Kg 10 func4 Z Z Z Z λr h=>Cz [] h (k_hf _) Z λF B h=>Go 3 Z (Cn Z h (λt h=>?_) (λt h=>?_))
 .exact QC 7 Z h 6 []
 refine Gc 4 Z (Bd h λi d h=>Ct i [0,1] [2,3,4] (λi=>[(23,.bool i)]) Ze Zf ?_ (λenv H u=>?_))
 .refine G0 2 Z (Cz [] d (k_ar _ _) Z λG E d=>Go 2 Z (Is 18 d Z (λw d=>?_) (λw d=>?_)))
  .exact Gl 6 Z d [0,1]
  .exact Go 2 Z (Lm Z (Gl 3 Z d [0,1]))
 refine Gx 1 Z (Ef u (Cn Z h (λx h=>?_) (λx h=>?_)))
 .exact QC 7 Z h 6 []
 refine Gc 18 Z (Cd [] h (k_y _ _ _ _ _ _ _ _ _) Z λe y h=>Fg 26 Z Z (Cd [] h (k_ag _ _ _ _ _ _ _ _ _) Z λf z h=>Fg 11 Z Z (Bd h λg a h=>Cg g [] [] (λg=>[(6,.bool g)]) Ze Zf ?_ ?_)))
 .refine G0 5 Z (Is 65 a Z (λj a=>?_) (λj a=>?_))
  .refine Go 2 Z ?_;refine vX (.bool (({Lo:=e.2.1.Lo,Hi:=e.2.1.Hi:Span})==({Lo:=f.2.1.Lo,Hi:=f.2.1.Hi:Span}))) (QfN (p:={Lo:=e.2.1.Lo,Hi:=e.2.1.Hi:Span}) (q:={Lo:=f.2.1.Lo,Hi:=f.2.1.Hi:Span}) Qlo Z Z) ?_ (gT Z);refine Go 2 Z (Is 70 a Z (λk a=>?_) (λk a=>?_))
   iterate 2 exact Gl 6 Z a []
  .exact Gl 11 Z a []
 exact QC 1 Z h 6 []
end Go.Sw
