/- What the functions compute that MatchCheckSpec reaches, and that their calls refine it (part 5 of 5). -/
import Derived.Test.YthdhdobclejckaaGreatW19Ck4
set_option linter.unusedVariables false
set_option linter.unusedSimpArgs false
set_option maxRecDepth 100000
set_option maxHeartbeats 4000000
namespace Go.Sw
open List(map)
open Int(toNat)
open Go.IntKind(i64 u64 u8)
open Go.Proofs Tryz
def F_at(n:Nat)(j:stopwatchref19_input)(s:Way)(a:Int×Int×Int):Option (Ctl (Int×Int×Int) (Ctl Unit Bool)):=(bif decide (a.2.2<=s.Last)then((F_av n j s a.2.2).bind λd=>(bif (!d.2.2)then(bif decide (j.c.Faults.Misses<(i64.wrap (a.1+1)))then some (.done (.done (.done false)))else some (.cont (i64.wrap (a.1+1),a.2.1)))else((bif decide (0<=a.2.1)then(F_av n j s a.2.1).bind λe=>(idx j.k.Far (i64.wrap (d.1+1))).bind λt=>(idx t (i64.wrap (e.1+1))).bind λl=>(idx j.k.Far (i64.wrap (e.1+1))).bind λu=>(idx u (i64.wrap (d.1+1))).bind λm=>(idx j.between a.2.1).bind λw=>(idx w a.2.2).bind λg=>(F_bl n ({Lo:=i64.wrap ((i64.wrap (d.2.1.Lo-e.2.1.Hi))-l),Hi:=i64.wrap ((i64.wrap (d.2.1.Hi-e.2.1.Lo))+m):Span}) ({Lo:=g.Lo,Hi:=g.Hi:Span})).bind λH=>(bif (!(decide ((if(i64.wrap ((i64.wrap (d.2.1.Lo-e.2.1.Hi))-l))<g.Lo then g.Lo else(i64.wrap ((i64.wrap (d.2.1.Lo-e.2.1.Hi))-l)))<=(if g.Hi<(i64.wrap ((i64.wrap (d.2.1.Hi-e.2.1.Lo))+m))then g.Hi else(i64.wrap ((i64.wrap (d.2.1.Hi-e.2.1.Lo))+m))))))then some (.done (.done (.done (.done false))))else some (.cont ()))else some (.cont ())):Option (Ctl Unit (Ctl (Int×Int) (Ctl (Int×Int×Int) (Ctl Unit Bool))))).bind λx=>match x with|.cont q=>((F_bo n j a.2.2).bind λf=>((bif f.2 then(idx s.Hits a.2.2).bind λy=>some (decide (0<=y))else some false):Option Bool).bind λz=>((bif z then(idx s.Hits a.2.2).bind λB=>(idx j.hits B).bind λp=>(F_n n j p).bind λE=>(F_ax n j.c j.k E ({Lo:=p.First,Hi:=p.Last:Span})).bind λh=>(F_bl n ({Lo:=h.1.Lo,Hi:=h.1.Hi:Span}) ({Lo:=f.1.Lo,Hi:=f.1.Hi:Span})).bind λJ=>(bif (!(decide ((if h.1.Lo<f.1.Lo then f.1.Lo else h.1.Lo)<=(if f.1.Hi<h.1.Hi then f.1.Hi else h.1.Hi))))then some (.done (.done (.done (.done false))))else some (.cont ()))else some (.cont ())):Option (Ctl Unit (Ctl (Int×Int) (Ctl (Int×Int×Int) (Ctl Unit Bool))))).bind λF=>match F with|.cont r=>(some (.cont (0,a.2.2)))|.done r=>some r)|.done q=>some q):Option (Ctl (Int×Int) (Ctl (Int×Int×Int) (Ctl Unit Bool)))).bind λG=>match G with|.cont i=>(some (.cont (i.1,i.2,i64.wrap (a.2.2+1))))|.done i=>some i else some (.done (.cont ())))
def F_cz(n:Nat)(d:stopwatchref19_input)(e:Way):Option Bool:=((F_em n d e).bind λg=>(bif (!g)then some true else(F_bj n d.hits e).bind λh=>some (decide (d.c.Faults.Strays<h))):Option Bool).bind λi=>(bif i then some false else(iter (F_at n d e) n (0,(-1),0):Option (Ctl Unit Bool)).bind λf=>match f with|.cont a=>(some true)|.done a=>some a)
theorem k_cz(n:Nat)(m:stopwatchref19_input)(q:Way):Ks (F_cz n m q) 26 [.agg (stopwatchref19_input.cells m),.agg (Way.c q)] [] (λr=>.bool r):=by
 refine Kg 9 func26 Z Z Z Z λr h=>Bd h λb4 y h=>Ct b4 [0,1] [2,3] (λb4=>[(34,.bool b4)]) Ze Zf ?_ (λenv H u=>?_)
 .refine G0 0 Z (DSs 13 Z (D 2 Z ?_));refine Dz [] y (k_em _ _ _) Z λr6 bj y=>D 2 Z (DS.is 4 y Z Z Z (λar y=>?_) (λar y=>?_))
  .exact D 8 Z (Eh Z (Gl 3 Z y [0,1]))
  .refine D 3 Z ?_;exact Dz [] y (k_bj _ _ _) Z λr8 bk y=>D 4 Z (Eh Z (Gl 3 Z y [0,1]))
 refine Gx 1 Z (Ef u (Cn Z h (λau h=>?_) (λau h=>?_)))
 .exact QB 7 Z h 4 []
 refine Gc 18 Z (Bd h λaj ak h=>Jn (b:=aj) [] [] Ze Ze Zf ?_ (λaw av=>?_))
 .refine G0 1 Z (Lp [0,1] [2,3] (λw=>[(5,I w.1),(6,I w.2.1),(7,I w.2.2)]) Ze ak Zf (Lr [0,1]) λw be l t=>?_);refine G0 9 Z (QY Z l (λX l=>?_) (λX l=>?_))
  .exact Gc 2 Z (Qk l (Gx 1 Z (YC t l Z (Lr []))))
  refine Gc 3 Z (Bd l λal f l=>Jn (b:=al) [0,1] [2,3,7] (λz=>[(5,I z.1),(6,I z.2)]) Ze Zf ?_ (λz hb=>?_))
  .refine G0 6 Z (Cd [] f (k_av _ _ _ _) Z λd ax f=>Fg 17 Z Z (Cn Z f (λY f=>?_) (λY f=>?_)))
   .refine Gc 18 Z (Cn Z f (λaa f=>?_) (λaa f=>?_))
    .refine Gc 9 Z ?_;cases f;refine Ql (Gx 1 Z (Qp l ?_));obtain rfl:=Oj t l;exact Gx 1 Z (Ql (Gx 1 Z (Rt h 4 [])))
    refine Gc 5 Z ?_;cases f;exact Yp Z (Lr [0,1])
   refine Gc 14 Z (Bd f λam a f=>CtE (b:=am) [0,1] [2,3,5,7] Ze Ze Zf ?_ (λay env H hb u=>?_))
   .refine G0 0 Z (Cn Z a (λab a=>?_) (λab a=>?_))
    .refine Gc 5 Z (Cd [] a (k_av _ _ _ _) Z λe az a=>Fg 11 Z Z ?_);obtain⟨R,G,a⟩:=Yh a;obtain⟨B,J,a⟩:=Yh a;obtain⟨T,L,a⟩:=Yh a;obtain⟨E,M,a⟩:=Yh a;refine QX 36 0 [69,70,71,72,73,74,75,76,77,78,79,80,81,82,83,84,85,86,87,88,89,90,91,92,93,94,95,96,97,98,99,100,101,102,103,14] [false,false,false,false,false,false,false,false,false,false,false,false,false,false,false,false,false,false,false,false,false,false,false,false,false,false,false,false,false,false,false,false,false,false,false,true] [[],[],[],[],[],[],[],[],[],[],[],[],[],[],[],[],[],[],[],[],[],[],[],[],[],[],[],[],[],[],[],[],[],[],[],[]] [[],[35]] [[(0,0),(1,1)],[(0,0),(1,1)],[(0,0),(1,1)],[(0,0),(1,1)],[(0,0),(1,1)],[(0,0),(1,1)],[(0,0),(1,1)],[(0,0),(1,1)],[(0,0),(1,1)],[(0,0),(1,1)],[(0,0),(1,1)],[(0,0),(1,1)],[(0,0),(1,1)],[(0,0),(1,1)],[(0,0),(1,1)],[(0,0),(1,1)],[(0,0),(1,1)],[(0,0),(1,1)],[(0,0),(1,1)],[(0,0),(1,1)],[(0,0),(1,1)],[(0,0),(1,1)],[(0,0),(1,1)],[(0,0),(1,1)],[(0,0),(1,1)],[(0,0),(1,1)],[(0,0),(1,1)],[(0,0),(1,1)],[(0,0),(1,1)],[(0,0),(1,1)],[(0,0),(1,1)],[(0,0),(1,1)],[(0,0),(1,1)],[(0,0),(1,1)],[(0,0),(1,1)],[(0,1)]] [.ptr 3 0,I d.2.1.Lo,.ptr 5 1,I e.2.1.Hi,I (i64.wrap (d.2.1.Lo-e.2.1.Hi)),.ptr 0 16,.ptr 0 17,.rsl 1 (map (QN 1 (Qe .i64)) m.k.Far),I d.1,I (i64.wrap (d.1+1)),.rp [.rsl 1 (map (Qe .i64) R)],.rsl 1 (map (Qe .i64) R),I e.1,I (i64.wrap (e.1+1)),.rp [I B],I B,I (i64.wrap ((i64.wrap (d.2.1.Lo-e.2.1.Hi))-B)),.ptr 3 1,I d.2.1.Hi,.ptr 5 0,I e.2.1.Lo,I (i64.wrap (d.2.1.Hi-e.2.1.Lo)),.ptr 0 16,.ptr 0 17,.rsl 1 (map (QN 1 (Qe .i64)) m.k.Far),I e.1,I (i64.wrap (e.1+1)),.rp [.rsl 1 (map (Qe .i64) T)],.rsl 1 (map (Qe .i64) T),I d.1,I (i64.wrap (d.1+1)),.rp [I E],I E,I (i64.wrap ((i64.wrap (d.2.1.Hi-e.2.1.Lo))+E)),.agg [I (i64.wrap ((i64.wrap (d.2.1.Lo-e.2.1.Hi))-B)),I (i64.wrap ((i64.wrap (d.2.1.Hi-e.2.1.Lo))+E))],.ptr 6 0] [[.cells 80 (stopwatchref19_input.cells m),.cells 46 (Way.c q),.cells 55 [I d.2.1.Lo,I d.2.1.Hi],.cells 55 [I d.2.1.Lo,I d.2.1.Hi],.cells 55 [I e.2.1.Lo,I e.2.1.Hi],.cells 55 [I e.2.1.Lo,I e.2.1.Hi]],[.cells 80 (stopwatchref19_input.cells m),.cells 46 (Way.c q),.cells 55 [I d.2.1.Lo,I d.2.1.Hi],.cells 55 [I d.2.1.Lo,I d.2.1.Hi],.cells 55 [I e.2.1.Lo,I e.2.1.Hi],.cells 55 [I e.2.1.Lo,I e.2.1.Hi],.cells 55 [I 0,I 0]]] ([.cells 80 (stopwatchref19_input.cells m),.cells 46 (Way.c q),.cells 55 [I d.2.1.Lo,I d.2.1.Hi],.cells 55 [I d.2.1.Lo,I d.2.1.Hi],.cells 55 [I e.2.1.Lo,I e.2.1.Hi],.cells 55 [I e.2.1.Lo,I e.2.1.Hi],.cells 55 [I 0,I 0]]) draws Z Z Z Z Z Z Z ?_ Z ?_
     .refine Qgp.cons (Qb (v0 Z Z) (Qb (v0 Z Z) (Qc))) (Qgp.cons (Qb (v0 Z Z) (Qb (v0 Z Z) (Qc))) (Qgp.cons (Qb (v0 Z Z) (Qb (v0 Z Z) (Qc))) (Qgp.cons (Qb (v0 Z Z) (Qb (v0 Z Z) (Qc))) (Qgp.cons ?_ (Qgp.cons (Qb (v0 Z Z) (Qb (v0 Z Z) (Qc))) (Qgp.cons (Qb (v0 Z Z) (Qb (v0 Z Z) (Qc))) (Qgp.cons (Qb (v0 Z Z) (Qb (v0 Z Z) (Qc))) (Qgp.cons (Qb (v0 Z Z) (Qb (v0 Z Z) (Qc))) (Qgp.cons ?_ (Qgp.cons ?_ (Qgp.cons (Qb (v0 Z Z) (Qb (v0 Z Z) (Qc))) (Qgp.cons (Qb (v0 Z Z) (Qb (v0 Z Z) (Qc))) (Qgp.cons ?_ (Qgp.cons ?_ (Qgp.cons (Qb (v0 Z Z) (Qb (v0 Z Z) (Qc))) (Qgp.cons ?_ (Qgp.cons (Qb (v0 Z Z) (Qb (v0 Z Z) (Qc))) (Qgp.cons (Qb (v0 Z Z) (Qb (v0 Z Z) (Qc))) (Qgp.cons (Qb (v0 Z Z) (Qb (v0 Z Z) (Qc))) (Qgp.cons (Qb (v0 Z Z) (Qb (v0 Z Z) (Qc))) (Qgp.cons ?_ (Qgp.cons (Qb (v0 Z Z) (Qb (v0 Z Z) (Qc))) (Qgp.cons (Qb (v0 Z Z) (Qb (v0 Z Z) (Qc))) (Qgp.cons (Qb (v0 Z Z) (Qb (v0 Z Z) (Qc))) (Qgp.cons (Qb (v0 Z Z) (Qb (v0 Z Z) (Qc))) (Qgp.cons ?_ (Qgp.cons ?_ (Qgp.cons (Qb (v0 Z Z) (Qb (v0 Z Z) (Qc))) (Qgp.cons (Qb (v0 Z Z) (Qb (v0 Z Z) (Qc))) (Qgp.cons ?_ (Qgp.cons ?_ (Qgp.cons (Qb (v0 Z Z) (Qb (v0 Z Z) (Qc))) (Qgp.cons ?_ (Qgp.cons (Qb (v0 Z Z) (Qb (v0 Z Z) (Qc))) (Qgp.cons ?_ (Qgp.nil))))))))))))))))))))))))))))))))))))
      .refine Qb ?_ (Qb ?_ (Qc))
       iterate 2 refine Om Z (sD 1 (sD 3 sN)) ?_;exact S Z Wp
      .refine Qb ?_ (Qb ?_ (Qc))
       iterate 2 refine Om Z (sD 8 sN) ?_;exact S Z Wp
      .refine Qb ?_ (Qb ?_ (Qc))
       iterate 2 refine Om Z (sD 7 (sD 9 sN)) ?_;exact Ix G EF EI Z Wp
      .refine Qb ?_ (Qb ?_ (Qc))
       iterate 2 refine Om Z (sD 12 sN) ?_;exact S Z Wp
      .refine Qb ?_ (Qb ?_ (Qc))
       iterate 2 refine Om Z (sD 11 (sD 13 sN)) ?_;exact Ix J EB EC Z Wp
      .refine Qb ?_ (Qb ?_ (Qc))
       iterate 2 refine Om Z (sD 4 (sD 15 sN)) ?_;exact S Z Wp
      .refine Qb ?_ (Qb ?_ (Qc))
       iterate 2 refine Om Z (sD 18 (sD 20 sN)) ?_;exact S Z Wp
      .refine Qb ?_ (Qb ?_ (Qc))
       iterate 2 refine Om Z (sD 25 sN) ?_;exact S Z Wp
      .refine Qb ?_ (Qb ?_ (Qc))
       iterate 2 refine Om Z (sD 24 (sD 26 sN)) ?_;exact Ix L EF EI Z Wp
      .refine Qb ?_ (Qb ?_ (Qc))
       iterate 2 refine Om Z (sD 29 sN) ?_;exact S Z Wp
      .refine Qb ?_ (Qb ?_ (Qc))
       iterate 2 refine Om Z (sD 28 (sD 30 sN)) ?_;exact Ix M EB EC Z Wp
      .refine Qb ?_ (Qb ?_ (Qc))
       iterate 2 refine Om Z (sD 21 (sD 32 sN)) ?_;exact S Z Wp
      .refine Qb ?_ (Qc)
       .refine Om1 Z sN ?_;refine vH (Qag (v:=(.agg [I 0,I 0])) E7 (zrC Z)) ?_;exact FE Z Wp
     refine Go 4 Z (DSs 9 Z (D 4 Z ?_));obtain⟨an,ac,a⟩:=Yh a;refine DS.wo (x:=.rp [.rsl 2 (map Span.c an)]) ?_ ?_
     .exact Ix ac Gk sizeOf94 Z Wp
     refine D 2 Z ?_;obtain⟨V,ad,a⟩:=Yh a;refine DS.wo (x:=.rp [I V.Lo,I V.Hi]) ?_ ?_
     .exact Ix ad EP ED Z Wp
     refine D 1 Z (Eh Z (Cz [] a (k_bl _ _ _) Z λbg ba a=>Go 3 Z (Cn Z a (λae a=>?_) (λae a=>?_))))
     .refine Gc 6 Z ?_;cases a;refine Ql (Gx 2 Z ?_);cases f;refine Ql (Gx 1 Z (Qp l ?_));obtain rfl:=Oj t l;exact Gx 1 Z (Ql (Gx 1 Z (Rt h 4 [])))
     refine Gc 1 Z ?_;cases a;exact Yp Z (Lr [0,1])
    refine Gc 1 Z ?_;cases a;exact Yp Z (Lr [0,1])
   subst hb;refine Gx 1 Z (Ef u (Gc 10 Z (Cd [] f (k_bo _ _ _) Z λp bb f=>Fg 9 Z Z (Bd f λF s f=>Ct F [0,1,3] [2,3,5,6,7,15] (λF=>[(130,.bool F)]) Ze Zf ?_ (λenv H u=>?_)))))
   .refine G0 3 Z (Is 123 s Z (λaf s=>?_) (λaf s=>?_))
    .exact Go 3 Z (Bd s λbh ag s=>Iz ag Z (Gl 4 Z s [0,1,3]))
    .exact Gl 8 Z s [0,1,3]
   refine Gx 1 Z (Ef u (Bd f λao i f=>CtE (b:=ao) [0,1] [2,3,5,6,7] Ze Ze Zf ?_ (λbc env H hb u=>?_)))
   .refine G0 0 Z (Cn Z i (λah i=>?_) (λah i=>?_))
    .refine Gc 1 Z ?_;obtain⟨W,N,i⟩:=Yh i;obtain⟨j,O,i⟩:=Yh i;refine QX 10 0 [131,132,133,134,135,136,137,138,139,17] [false,false,false,false,false,false,false,false,false,true] [[],[],[],[],[],[],[],[],[],[]] [[],[9]] [[(0,0),(1,1)],[(0,0),(1,1)],[(0,0),(1,1)],[(0,0),(1,1)],[(0,0),(1,1)],[(0,0),(1,1)],[(0,0),(1,1)],[(0,0),(1,1)],[(0,0),(1,1)],[(0,1)]] [.ptr 0 18,.rsl 5 (map Hit.c m.hits),.ptr 1 0,.rsl 1 (map (Qe .i64) q.Hits),I w.2.2,.rp [I W],I W,.rp [I j.Mat,I j.Epoch,I j.Chip,I j.First,I j.Last],.agg (Hit.c j),.ptr 3 0] [[.cells 80 (stopwatchref19_input.cells m),.cells 46 (Way.c q),.cells 63 (Hand.c p.1)],[.cells 80 (stopwatchref19_input.cells m),.cells 46 (Way.c q),.cells 63 (Hand.c p.1),.cells 65 (Hit.c Ur)]] ([.cells 80 (stopwatchref19_input.cells m),.cells 46 (Way.c q),.cells 63 (Hand.c p.1),.cells 65 (Hit.c Ur)]) draws Z Z Z Z Z Z Z ?_ Z ?_
     .refine Qgp.cons (Qb (v0 Z Z) (Qb (v0 Z Z) (Qc))) (Qgp.cons (Qb (v0 Z Z) (Qb (v0 Z Z) (Qc))) (Qgp.cons (Qb (v0 Z Z) (Qb (v0 Z Z) (Qc))) (Qgp.cons (Qb (v0 Z Z) (Qb (v0 Z Z) (Qc))) (Qgp.cons (Qb (v0 Z Z) (Qb (v0 Z Z) (Qc))) (Qgp.cons ?_ (Qgp.cons (Qb (v0 Z Z) (Qb (v0 Z Z) (Qc))) (Qgp.cons ?_ (Qgp.cons (Qb (v0 Z Z) (Qb (v0 Z Z) (Qc))) (Qgp.cons ?_ (Qgp.nil))))))))))
      .refine Qb ?_ (Qb ?_ (Qc))
       iterate 2 refine Om Z (sD 3 (sD 4 sN)) ?_;exact Ix N EB EC Z Wp
      .refine Qb ?_ (Qb ?_ (Qc))
       iterate 2 refine Om Z (sD 1 (sD 6 sN)) ?_;exact Ix O EJ EW Z Wp
      .refine Qb ?_ (Qc)
       .refine Om1 Z sN ?_;refine vH (Qag (v:=(.agg [I 0,I 0,I 0,I 0,I 0])) zeroValue65 (zrC Z)) ?_;exact FE Z Wp
     refine Go 4 Z ?_;obtain⟨aq,P,i⟩:=Yh i;obtain⟨g,Q,i⟩:=Yh i;refine QX 18 1 [141,142,143,144,145,146,147,148,149,150,151,152,153,140,154,155,18,1000017] [false,false,false,false,false,false,false,false,false,false,false,false,true,false,false,false,true,true] [[],[],[],[],[],[],[],[],[],[],[],[],[],[12],[12],[12],[],[12,16]] [[],[12],[16],[12,16],[12,16,17]] [[(0,0),(2,2)],[(0,0),(2,2)],[(0,0),(2,2)],[(0,0),(2,2)],[(0,0),(2,2)],[(0,0),(2,2)],[(0,0),(2,2)],[(0,0),(2,2)],[(0,0),(2,2)],[(0,0),(2,2)],[(0,0),(2,2)],[(0,0),(2,2)],[(0,1),(2,3)],[(1,1),(3,3)],[(1,1),(3,3)],[(1,1),(3,3),(4,4)],[(0,2),(1,3)],[(3,4)]] [.ptr 0 0,.agg (Course.c m.c),.ptr 0 16,.agg (Clocks.c m.k),.agg (stopwatchref19_input.cells m),.agg (Hit.c j),I aq,.ptr 3 3,I j.First,.ptr 3 4,I j.Last,.agg [I j.First,I j.Last],.tup [.agg [I g.1.Lo,I g.1.Hi],I g.2],.tup [.agg [I g.1.Lo,I g.1.Hi],I g.2],.agg [I g.1.Lo,I g.1.Hi],I g.2,.ptr 4 0,.any] [[.cells 80 (stopwatchref19_input.cells m),.cells 46 (Way.c q),.cells 63 (Hand.c p.1),.cells 65 (Hit.c j),.dead],[.cells 80 (stopwatchref19_input.cells m),.cells 46 (Way.c q),.cells 63 (Hand.c p.1),.cells 65 (Hit.c j),.dead,.cells 55 [I g.1.Lo,I g.1.Hi]],[.cells 80 (stopwatchref19_input.cells m),.cells 46 (Way.c q),.cells 63 (Hand.c p.1),.cells 65 (Hit.c j),.cells 55 [I 0,I 0]],[.cells 80 (stopwatchref19_input.cells m),.cells 46 (Way.c q),.cells 63 (Hand.c p.1),.cells 65 (Hit.c j),.cells 55 [I 0,I 0],.cells 55 [I g.1.Lo,I g.1.Hi]],[.cells 80 (stopwatchref19_input.cells m),.cells 46 (Way.c q),.cells 63 (Hand.c p.1),.cells 65 (Hit.c j),.cells 55 [I g.1.Lo,I g.1.Hi],.cells 55 [I g.1.Lo,I g.1.Hi]]] ([.cells 80 (stopwatchref19_input.cells m),.cells 46 (Way.c q),.cells 63 (Hand.c p.1),.cells 65 (Hit.c j),.cells 55 [I g.1.Lo,I g.1.Hi],.cells 55 [I g.1.Lo,I g.1.Hi]]) draws Z Z Z Z Z Z Z ?_ Z ?_
     .refine Qgp.cons (Qb (v0 Z Z) (Qb (v0 Z Z) (Qc))) (Qgp.cons (Qb (v0 Z Z) (Qb (v0 Z Z) (Qc))) (Qgp.cons (Qb (v0 Z Z) (Qb (v0 Z Z) (Qc))) (Qgp.cons (Qb (v0 Z Z) (Qb (v0 Z Z) (Qc))) (Qgp.cons (Qb (v0 Z Z) (Qb (v0 Z Z) (Qc))) (Qgp.cons (Qb (v0 Z Z) (Qb (v0 Z Z) (Qc))) (Qgp.cons ?_ (Qgp.cons (Qb (v0 Z Z) (Qb (v0 Z Z) (Qc))) (Qgp.cons (Qb (v0 Z Z) (Qb (v0 Z Z) (Qc))) (Qgp.cons (Qb (v0 Z Z) (Qb (v0 Z Z) (Qc))) (Qgp.cons (Qb (v0 Z Z) (Qb (v0 Z Z) (Qc))) (Qgp.cons (Qb (v0 Z Z) (Qb (v0 Z Z) (Qc))) (Qgp.cons ?_ (Qgp.cons (Qb (v0 Z Z) (Qb (v0 Z Z) (Qc))) (Qgp.cons (Qb (v0 Z Z) (Qb (v0 Z Z) (Qc))) (Qgp.cons (Qb (v0 Z Z) (Qb (v0 Z Z) (Qb (v0 Z Z) (Qc)))) (Qgp.cons ?_ (Qgp.cons ?_ (Qgp.nil))))))))))))))))))
      .refine Qb ?_ (Qb ?_ (Qc))
       iterate 2 refine Om Z (sD 4 (sD 5 sN)) ?_;exact Pc [] Z (OpC.fn call61 Z Z Z) (k_n _ _ _ _ P) Z Wp
      .refine Qb ?_ (Qb ?_ (Qc))
       iterate 2 refine Om1 Z (sD 1 (sD 3 (sD 6 (sD 11 sN)))) ?_;refine Qw [] (OpC.fn call60 Z Z Z) (k_ax _ _ _ _ _ _ Q) ?_;rintro _ _ ⟨rfl,rfl⟩;exact FE Z Wp
      .refine Qb ?_ (Qb ?_ (Qc))
       iterate 2 exact Jm.alloc _ 18 55 4 _ Z Z Z Z Z Z Z (OpZ.alloc (v:=(.agg [I 0,I 0])) E7 (zrC Z)) Z
      .refine Qb ?_ (Qc)
       .refine Om2 Z (sD 16 (sD 14 sN)) ?_;refine vU (Ey Z Z Z ED Z Z Z Z Z Z Z) ?_;exact FE Z Wp
     refine Go 11 Z (Cz [] i (k_bl _ _ _) Z λbi bd i=>Go 3 Z (Cn Z i (λai i=>?_) (λai i=>?_)))
     .refine Gc 6 Z ?_;cases i;refine Ql (Gx 1 Z ?_);cases f;refine Ql (Gx 1 Z (Qp l ?_));obtain rfl:=Oj t l;exact Gx 1 Z (Ql (Gx 1 Z (Rt h 4 [])))
     refine Gc 1 Z ?_;cases i;exact Yp Z (Lr [0,1])
    refine Gc 1 Z ?_;cases i;exact Yp Z (Lr [0,1])
   subst hb;refine Gx 1 Z ?_;cases f;exact Yp Z (Eo u (Lr [0,1]))
  subst hb;exact Gc 5 Z (Qj l (Lr [0,1]))
 subst av;exact QB 6 Z h 4 []
def F_cr(n:Nat)(a:Course)(d:Clocks)(g:Starter)(h:Int)(e:List Hit)(f:List Hand)(l:Way):Option Int:=(F_cs n a d g h e f).bind λi=>(bif (i != 0)then some i else(F_cx n a d g h e f).bind λj=>(F_cz n ({c:=a,k:=d,hits:=e,hands:=f,route:=j.1,between:=j.2:stopwatchref19_input}) l).bind λm=>(bif (!m)then some 190 else some 0))
theorem k_cr(n:Nat)(d:Course)(e:Clocks)(j:Starter)(l:Int)(f:List Hit)(g:List Hand)(a:Way):Ks (F_cr n d e j l f g a) 12 [.agg (Course.c d),.agg (Clocks.c e),.agg (Starter.c j),I l,.rsl 5 (map Hit.c f),.rsl 4 (map Hand.c g),.agg (Way.c a)] [] (λr=>I r):=by
 refine Kg 17 func12 Z Z Z Z λr h=>Cz [] h (k_cs _ _ _ _ _ _ _) Z λu s h=>Go 10 Z (Cn Z h (λm h=>?_) (λm h=>?_))
 .exact QB 8 Z h 14 []
 refine Gc 4 Z (DAs 8 6 [0,0,0,0,0,0,1,3] (by kernel_rfl) (Da 6 Z ?_));obtain⟨i,p,h⟩:=Yh h;refine DA.op (x:=.agg (stopwatchref19_input.cells ({c:=d,k:=e,hits:=f,hands:=g,route:=i.1,between:=i.2:stopwatchref19_input}))) (H1:=[.cells 33 (Course.c d),.cells 37 (Clocks.c e),.cells 39 (Starter.c j),.cells 46 (Way.c a),.dead,.dead,.cells 80 (stopwatchref19_input.cells ({c:=d,k:=e,hits:=f,hands:=g,route:=i.1,between:=i.2:stopwatchref19_input}))]) ?_ ?_
 .refine Qw [] (OpC.fn call25 Z Z Z) (k_cx _ _ _ _ _ _ _ _ p) ?_;rintro _ _ ⟨rfl,rfl⟩;refine FE Z ?_;refine Eu (YI [(32,_)] Z Z (QlL.cons Z (FzA.agg (Ed (Ee _) (Ed (Ee _) (Ed (Ee _) (Ed (Ee _) (Ed (Ee _) (Ed (Ee _) (Ed (Ee _) (Ed (Ee _) (Ed (Ee _) (Ed (Ee _) (Ed (Ee _) (Ed (Ee _) (Ed (Ee _) (Ed (Ee _) (Ed (Ee _) (Ed (Ee _) (Ed (Ee _) (Ed (Ee _) (Ed (Ee _) (Ed (Ee _) (Ed Er (Ek _))))))))))))))))))))))) QlL.nil) (Ec (Ec (Ec (Ec (Ec (Ec (FzH.cells (Ed (Ee _) (Ed (Ee _) (Ed (Ee _) (Ed (Ee _) (Ed (Ee _) (Ed (Ee _) (Ed (Ee _) (Ed (Ee _) (Ed (Ee _) (Ed (Ee _) (Ed (Ee _) (Ed (Ee _) (Ed (Ee _) (Ed (Ee _) (Ed (Ee _) (Ed (Ee _) (Ed (Ee _) (Ed (Ee _) (Ed (Ee _) (Ed (Ee _) (Ed Er (Ek _)))))))))))))))))))))) (Q8 _))))))))) ?_;refine Eu Qig ?_;refine Eu (YI [(32,_)] Z Z (QlL.cons Z (FzA.agg (Ed (Ee _) (Ed (Ee _) (Ed (Ee _) (Ed (Ee _) (Ed (Ee _) (Ed (Ee _) (Ed (Ee _) (Ed (Ee _) (Ed (Ee _) (Ed (Ee _) (Ed (Ee _) (Ed (Ee _) (Ed (Ee _) (Ed (Ee _) (Ed (Ee _) (Ed (Ee _) (Ed (Ee _) (Ed (Ee _) (Ed (Ee _) (Ed (Ee _) (Ed (Ee _) (Ed Er (Ek _)))))))))))))))))))))))) QlL.nil) (Ec (Ec (Ec (Ec (Ec (Ec (FzH.cells (Ed (Ee _) (Ed (Ee _) (Ed (Ee _) (Ed (Ee _) (Ed (Ee _) (Ed (Ee _) (Ed (Ee _) (Ed (Ee _) (Ed (Ee _) (Ed (Ee _) (Ed (Ee _) (Ed (Ee _) (Ed (Ee _) (Ed (Ee _) (Ed (Ee _) (Ed (Ee _) (Ed (Ee _) (Ed (Ee _) (Ed (Ee _) (Ed (Ee _) (Ed (Ee _) (Ed Er (Ek _))))))))))))))))))))))) (Q8 _))))))))) ?_;refine Eu Qig ?_;exact Wp
 refine DB.wo2 (x:=.agg (Way.c a)) ?_ ?_ ?_
 iterate 2 refine vX (.agg (Way.c a)) (Qbg Z isAgg46 Gh Z (Pts.cells Z Z) Z Z) ?_;exact Wp
 refine DB.done Z (Cz [] h (k_cz _ _ _) Z λw t h=>Go 3 Z (Cn Z h (λq h=>?_) (λq h=>?_)))
 .exact QB 7 Z h 14 []
 exact QB 8 Z h 14 []
def F_ha(n:Nat)(a:stopwatchlaw19_Input)(d:Way):Option Bool:=(F_gl 300).bind λj=>(bif (!j)then some false else((F_ao n a).bind λk=>(bif (!k)then some true else some (decide (300<(d.Hits.length:Int)))):Option Bool).bind λl=>(bif l then some true else((F_dz n a d).bind λe=>(F_cr n a.C a.K a.S a.Extra a.Hits a.Hands d).bind λf=>(bif (e==f)then(F_ap n a.Hits d).bind λg=>(F_bj n a.Hits d).bind λh=>some (g==h)else some false):Option Bool).bind λi=>some i))
theorem k_ha(n:Nat)(i:stopwatchlaw19_Input)(j:Way):Ks (F_ha n i j) 3 [.agg (stopwatchlaw19_Input.c i),.agg (Way.c j)] [] (λr=>.bool r):=by
 refine Kg 10 func3 Z Z Z Z λr h=>Cz [] h (k_gl _) Z λF w h=>Go 3 Z (Cn Z h (λk h=>?_) (λk h=>?_))
 .exact QB 7 Z h 4 []
 refine Gc 4 Z (Bd h λf d h=>Ct f [0,1] [2,3] (λf=>[(15,.bool f)]) Ze Zf ?_ (λenv H l=>?_))
 .refine G0 2 Z (Cz [] d (k_ao _ _) Z λG x d=>Go 2 Z (Is 10 d Z (λm d=>?_) (λm d=>?_)))
  .exact Gl 6 Z d [0,1]
  .exact Go 2 Z (Lm Z (Gl 3 Z d [0,1]))
 refine Gx 1 Z (Ef l (Cn Z h (λp h=>?_) (λp h=>?_)))
 .exact QB 7 Z h 4 []
 refine Gc 3 Z (Bd h λe a h=>Cg e [] [] (λe=>[(4,.bool e)]) Ze Zf ?_ ?_)
 .refine G0 0 Z (DSs 26 Z (D 2 Z ?_));refine Dz [] a (k_dz _ _ _) Z λy q a=>D 13 Z ?_;refine Dz [] a (k_cr _ _ _ _ _ _ _ _) Z λz s a=>D 2 Z (DS.is 18 a Z Z Z (λg a=>?_) (λg a=>?_))
  .refine D 3 Z ?_;exact Dz [] a (k_ap _ _ _) Z λB t a=>D 3 Z (Eh Z (Cz [] a (k_bj _ _ _) Z λE u a=>Gl 4 Z a []))
  .exact D 7 Z (Eh Z (Gl 5 Z a []))
 exact QB 1 Z h 4 []
end Go.Sw
