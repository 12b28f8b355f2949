/- What the functions compute that ClocksExact reaches, and that their calls refine it (part 3 of 3). -/
import Derived.Test.YtgjcbknjiemdgaaGreatDoorW16Ex2
set_option linter.unusedVariables false
set_option linter.unusedSimpArgs false
set_option maxRecDepth 100000
set_option maxHeartbeats 4000000
namespace Go.Sw
open Go.Proofs Tryz
def F_hh(n:Nat)(c:Clocks)(b:Int):Option (Ctl Int (Ctl Unit Int)):=
  (bif decide (b<(c.Segments.length:Int))then(idx c.Segments b).bind λa=>((bif decide (a.Mat<0)then some true else(bif decide (40<=a.Mat)then some true else(bif decide (a.Epoch<0)then some true else(bif decide (255<a.Epoch)then some true else(F_m n a.Anchor).bind λd=>(bif (!d)then some true else(bif decide (0<b)then(idx c.Segments (IntKind.i64.wrap (b-1))).bind λe=>(F_af n e a).bind λf=>some (decide (0<=f))else some false)))))):Option Bool).bind λg=>(bif g then some (.done (.done 160))else some (.cont (IntKind.i64.wrap (b+1))))else some (.done (.cont ())))
def F_gq(n:Nat)(c:Clocks)(a:Int):Option (Ctl Int (Ctl Unit Int)):=
  (bif decide (a<(c.Far.length:Int))then(idx c.Far a).bind λb=>((bif ((b.length:Int) != (IntKind.i64.wrap ((c.Segments.length:Int)+1)))then some true else(idx b a).bind λd=>(bif (d != 0)then some true else(F_bc n b).bind λe=>some e)):Option Bool).bind λf=>(bif f then some (.done (.done 160))else some (.cont (IntKind.i64.wrap (a+1))))else some (.done (.cont ())))
def F_hw(n:Nat)(h:Clocks)(c:Int)(d:Int)(b:List Int)(a:Int):Option (Ctl Int (Ctl Unit (Ctl Int (Ctl Unit (Ctl Int (Ctl Unit Int)))))):=
  (bif decide (a<(b.length:Int))then(idx b a).bind λe=>(idx h.Far c).bind λf=>(idx f a).bind λg=>(bif decide ((IntKind.i64.wrap (d+e))<g)then some (.done (.done (.done (.done (.done (.done 160))))))else some (.cont (IntKind.i64.wrap (a+1))))else some (.done (.cont ())))
def F_hq(n:Nat)(h:Clocks)(d:Int)(c:List Int)(a:Int):Option (Ctl Int (Ctl Unit (Ctl Int (Ctl Unit Int)))):=
  (bif decide (a<(c.length:Int))then(idx c a).bind λe=>(idx h.Far a).bind λf=>(iter (F_hw n h d e f) n 0:Option (Ctl Unit (Ctl Int (Ctl Unit (Ctl Int (Ctl Unit Int)))))).bind λg=>match g with|.cont b=>(some (.cont (IntKind.i64.wrap (a+1))))|.done b=>some b else some (.done (.cont ())))
def F_hk(n:Nat)(c:Clocks)(a:Int):Option (Ctl Int (Ctl Unit Int)):=
  (bif decide (a<(IntKind.i64.wrap ((c.Segments.length:Int)+1)))then(idx c.Far a).bind λd=>(iter (F_hq n c a d) n 0:Option (Ctl Unit (Ctl Int (Ctl Unit Int)))).bind λe=>match e with|.cont b=>(some (.cont (IntKind.i64.wrap (a+1))))|.done b=>some b else some (.done (.cont ())))
def F_v(n:Nat)(c:Clocks):Option Int:=
  ((bif decide (511<(c.Segments.length:Int))then some true else some ((c.Far.length:Int) != (IntKind.i64.wrap ((c.Segments.length:Int)+1)))):Option Bool).bind λb2=>(bif b2 then some 160 else(iter (F_hh n c) n 0:Option (Ctl Unit Int)).bind λg=>match g with|.cont d=>((iter (F_gq n c) n 0:Option (Ctl Unit Int)).bind λe=>match e with|.cont a=>((iter (F_hk n c) n 0:Option (Ctl Unit Int)).bind λf=>match f with|.cont b=>(some 0)|.done b=>some b)|.done a=>some a)|.done d=>some d)
theorem k_v(n:Nat)(a1:Clocks)(r:Int)(h:F_v n a1=some r):
    Csm prog 27 [.agg (Clocks.c a1)] [] (λr=>I r) r:=by
 refine Qc func27 Z Z Z ?_;refine G0 10 Z (Lm Z (Go 5 Z (Bd h λb2 z h=>?_)));refine Ct b2 [0] [1,3] (λb2=>[(25,.bool b2)]) Ze Zf ?_ (λenv H k=>?_)
 .refine G0 4 Z (Is 18 z Z (λbb z=>?_) (λbb z=>?_))
  .exact Go 8 Z (Cl z [0])
  .exact Go 2 Z (Lm Z (Go 5 Z (Cl z [0])))
 refine Gx 1 Z (Ef k (Cn Z h (λbc h=>?_) (λbc h=>?_)))
 .exact Gc 7 Z (Rt h 2 [])
 refine Gc 7 Z (Lm Z (Go 3 Z (Bd h λbd be h=>?_)));refine CtE (b:=bd) [0] [1,3] Ze Ze Zf ?_ (λbl env H p k=>?_)
 .refine G0 1 Z ?_;refine Lp [0] [1,3,27,28] (λaf=>[(29,I af)]) Ze be Zf (Lr [0]) λaf cd m B=>?_;refine G0 6 Z (Ja Z m (λag m=>?_) (λag m=>?_))
  .refine Gc 2 Z (Qz m ?_);obtain rfl:=Oj B m;exact Gx 1 Z (QD Z (Lr [0]))
  refine Gc 7 Z (Bd m λce ah m=>Iz ah Z (Go 7 Z (Bd m λE a m=>?_)));refine Ct E [0] [1,3,27,28,29] (λE=>[(72,.bool E)]) Ze Zf ?_ (λenv H k=>?_)
  .refine G0 0 Z (DSs 35 Z (D 4 Z (Qc2 3 a Z Z Z (λai a=>?_) (λai a=>?_))))
   .exact D 31 Z (Eh Z (Go 5 Z (Cl a [0])))
   .refine D 5 Z (Qc2 8 a Z Z Z (λaj a=>?_) (λaj a=>?_))
    .exact D 26 Z (Eh Z (Go 5 Z (Cl a [0])))
    .refine D 5 Z (Qc2 13 a Z Z Z (λak a=>?_) (λak a=>?_))
     .exact D 21 Z (Eh Z (Go 5 Z (Cl a [0])))
     .refine D 5 Z (Qc2 18 a Z Z Z (λal a=>?_) (λal a=>?_))
      .exact D 16 Z (Eh Z (Go 5 Z (Cl a [0])))
      .refine D 2 Z ?_;refine Dz [] a (k_m _ _) Z λcf bm a=>D 3 Z (Qc2 24 a Z Z Z (λam a=>?_) (λam a=>?_))
       .exact D 10 Z (Eh Z (Go 5 Z (Cl a [0])))
       .refine D 3 Z (Qc2 27 a Z Z Z (λan a=>?_) (λan a=>?_))
        .refine D 4 Z ?_;obtain⟨s,ao,a⟩:=YN a;refine DS.v (x:=(.rp [I s.Mat,I s.Epoch,I s.Anchor])) (Qb0 (e:=Segment.c) (l:=a1.Segments) (v:=s) ao runUnderlying39 sizeOf36) ?_ (hg:=(gT Z));exact D 2 Z (Eh Z (Cz [] a (k_af _ _ _) Z λcg bn a=>Go 4 Z (Cl a [0])))
        .exact D 7 Z (Eh Z (Go 5 Z (Cl a [0])))
  refine Gx 1 Z (Ef k (Cn Z m (λaq m=>?_) (λaq m=>?_)))
  .refine Gc 8 Z (Q4 m ?_);obtain rfl:=Oj B m;exact Gx 1 Z (QR (Gx 1 Z (Rt h 2 [])))
  exact Gc 7 Z (Qv m (Lr [0]))
 subst p;refine Gx 1 Z (Ef k (Gc 5 Z (Lm Z (Go 3 Z (Bd h λar au h=>?_)))));refine CtE (b:=ar) [0] [1,3] Ze Ze Zf ?_ (λbg env H p k=>?_)
 .refine G0 1 Z ?_;refine Lp [0] [1,3,75,76] (λF=>[(77,I F)]) Ze au Zf (Lr [0]) λF bo f t=>?_;refine G0 6 Z (Ja Z f (λM f=>?_) (λM f=>?_))
  .refine Gc 2 Z (Qz f ?_);obtain rfl:=Oj t f;exact Gx 1 Z (QD Z (Lr [0]))
  refine Gc 7 Z (Bd f λbq N f=>Iz N Z (Go 6 Z (Bd f λq i f=>?_)));refine Ct q [0] [1,3,75,76,77] (λq=>[(97,.bool q)]) Ze Zf ?_ (λenv H k=>?_)
  .refine G0 2 Z (Lm Z (Go 4 Z (Is 87 i Z (λO i=>?_) (λO i=>?_))))
   .exact Go 11 Z (Cl i [0])
   .refine Go 2 Z (Bd i λbr P i=>Iz P Z (Go 4 Z (Is 94 i Z (λQ i=>?_) (λQ i=>?_))))
    .exact Go 4 Z (Cl i [0])
    .exact Go 1 Z (Cz [] i (k_bc _ _) Z λbs bh i=>Go 2 Z (Cl i [0]))
  refine Gx 1 Z (Ef k (Cn Z f (λR f=>?_) (λR f=>?_)))
  .refine Gc 8 Z (Q4 f ?_);obtain rfl:=Oj t f;exact Gx 1 Z (QR (Gx 1 Z (Rt h 2 [])))
  exact Gc 7 Z (Qv f (Lr [0]))
 subst p;refine Gx 1 Z (Ef k (Gc 8 Z (Bd h λav aw h=>?_)));refine CtE (b:=av) [] [] Ze Ze Zf ?_ (λbi env H p k=>?_)
 .refine G0 1 Z ?_;refine Lp [0] [1,100] (λG=>[(101,I G)]) Ze aw Zf (Lr [0]) λG bt j u=>?_;refine G0 6 Z (Ja Z j (λT j=>?_) (λT j=>?_))
  .refine Gc 2 Z (Qz j ?_);obtain rfl:=Oj u j;exact Gx 1 Z (QD Z (Lr []))
  refine Gc 15 Z (Bd j λbu V j=>Iz V Z (Go 1 Z (Lm Z (Go 3 Z (Bd j λax ay j=>?_)))));refine CtE (b:=ax) [0] [1,100,101] Ze Ze Zf ?_ (λbj env H p k=>?_)
  .refine G0 1 Z ?_;refine Lp [0] [1,8,100,101,108,109] (λJ=>[(110,I J)]) Ze ay Zf (Lr [0]) λJ bv g w=>?_;refine G0 6 Z (Ja Z g (λW g=>?_) (λW g=>?_))
   .refine Gc 2 Z (Qz g ?_);obtain rfl:=Oj w g;exact Gx 1 Z (QD Z (Lr [0]))
   refine Gc 7 Z (Bd g λbw X g=>Iz X Z (Go 10 Z (Bd g λbx Y g=>Iz Y Z (Go 1 Z (Lm Z (Go 3 Z (Bd g λaz ba g=>?_)))))));refine CtE (b:=az) [0] [1,8,100,101,108,109,110] Ze Ze Zf ?_ (λbk env H p k=>?_)
   .refine G0 1 Z ?_;refine Lp [0] [1,8,10,100,101,108,109,110,119,120] (λL=>[(121,I L)]) Ze ba Zf (Lr [0]) λL bz d y=>?_;refine G0 6 Z (Ja Z d (λaa d=>?_) (λaa d=>?_))
    .refine Gc 2 Z (Qz d ?_);obtain rfl:=Oj y d;exact Gx 1 Z (QD Z (Lr [0]))
    refine Gc 7 Z (Bd d λca ab d=>Iz ab Z (Go 10 Z (Bd d λcb ac d=>Iz ac Z (Go 2 Z (Bd d λcc ad d=>Iz ad Z (Go 7 Z (Cn Z d (λae d=>?_) (λae d=>?_))))))))
    .refine Gc 8 Z (Q4 d ?_);obtain rfl:=Oj y d;refine Gx 1 Z (QR (Gx 2 Z (Q4 g ?_)));obtain rfl:=Oj w g;refine Gx 1 Z (QR (Gx 2 Z (Q4 j ?_)));obtain rfl:=Oj u j;exact Gx 1 Z (QR (Gx 1 Z (Rt h 2 [])))
    exact Gc 7 Z (Qv d (Lr [0]))
   subst p;exact Gx 2 Z (Ef k (Gc 4 Z (Qv g (Lr [0]))))
  subst p;exact Gx 2 Z (Ef k (Gc 4 Z (Qv j (Lr [0]))))
 subst p;exact Gx 1 Z (Ef k (Gc 6 Z (Rt h 2 [])))
def F_gx(n:Nat)(c:Course)(d:Clocks)(b:Int)(a:Span):Option (Span×Int):=
  (F_j n c).bind λf=>(bif (f != 0)then some ({Lo:=0,Hi:=0:Span},f)else(F_v n d).bind λg=>(bif (g != 0)then some ({Lo:=0,Hi:=0:Span},g)else((bif decide (b<(-1))then some true else(bif decide ((d.Segments.length:Int)<=b)then some true else(F_m n a.Lo).bind λh=>(bif (!h)then some true else(F_m n a.Hi).bind λi=>(bif (!i)then some true else some (decide (a.Hi<a.Lo)))))):Option Bool).bind λj=>(bif j then some ({Lo:=0,Hi:=0:Span},1)else(bif decide (b<0)then some ({Lo:=a.Lo,Hi:=IntKind.i64.wrap (a.Hi+c.Faults.Residual):Span},0)else(idx d.Segments b).bind λe=>(F_i n c e.Mat).bind λk=>(bif (!k)then some ({Lo:=0,Hi:=0:Span},1)else(F_aa n c e a.Lo).bind λl=>(idx d.Far (IntKind.i64.wrap (b+1))).bind λm=>(idx m 0).bind λp=>(F_aa n c e a.Hi).bind λq=>(idx d.Far 0).bind λr=>(idx r (IntKind.i64.wrap (b+1))).bind λs=>some ({Lo:=IntKind.i64.wrap ((IntKind.i64.wrap (a.Lo+l.Lo))-p),Hi:=IntKind.i64.wrap ((IntKind.i64.wrap (a.Hi+q.Hi))+s):Span},0))))))
theorem k_gx(n:Nat)(g:Course)(i:Clocks)(t:Int)(d:Span)(r:Span×Int)(h:F_gx n g i t d=some r):
    C prog 24 [.agg (Course.c g),.agg (Clocks.c i),I t,.agg [I d.Lo,I d.Hi]] [] (RQ (λr=>.tup [.agg [I r.1.Lo,I r.1.Hi],I r.2]) (λr=>[.cells 44 [I r.1.Lo,I r.1.Hi]]) r):=by
 refine Qc func24 Z Z Z ?_;refine G0 13 Z (Cz [] h (k_j _ _) Z λr1 V h=>Go 9 Z (Cn Z h (λN h=>?_) (λN h=>?_)))
 .refine Gc 10 Z ?_;obtain rfl:=Oi h;exact Rx [3] [8,9] Z (Qm Z Z (Qjb.cons (Qj isAgg44 sizeOf44 Z Z Z) (Qjb.cons Qd0.tmp Qjb.nil))) ⟨Z,Z⟩
 refine Gc 6 Z (Cz [] h (k_v _ _) Z λr3 W h=>Go 9 Z (Cn Z h (λO h=>?_) (λO h=>?_)))
 .refine Gc 10 Z ?_;obtain rfl:=Oi h;exact Rx [3] [8,9] Z (Qm Z Z (Qjb.cons (Qj isAgg44 sizeOf44 Z Z Z) (Qjb.cons Qd0.tmp Qjb.nil))) ⟨Z,Z⟩
 refine Gc 5 Z (Bd h λp a h=>?_);refine Ct p [0,1,2,3] [2,4,5,7,8] (λp=>[(24,.bool p)]) Ze Zf ?_ (λenv H P=>?_)
 .refine G0 4 Z (Is 27 a Z (λx a=>?_) (λx a=>?_))
  .exact Go 27 Z (Cl a [0,1,2,3])
  .refine Go 3 Z (Lm Z (Go 3 Z (Is 34 a Z (λy a=>?_) (λy a=>?_))))
   .exact Go 20 Z (Cl a [0,1,2,3])
   .refine Go 2 Z (Cz [] a (k_m _ _) Z λX Q a=>Go 3 Z (Is 40 a Z (λz a=>?_) (λz a=>?_)))
    .exact Go 14 Z (Cl a [0,1,2,3])
    .refine Go 2 Z (Cz [] a (k_m _ _) Z λY R a=>Go 3 Z (Is 46 a Z (λB a=>?_) (λB a=>?_)))
     .exact Go 8 Z (Cl a [0,1,2,3])
     .exact Go 8 Z (Cl a [0,1,2,3])
 refine Gx 1 Z (Ef P (Cn Z h (λE h=>?_) (λE h=>?_)))
 .refine Gc 10 Z ?_;obtain rfl:=Oi h;exact Rx [3] [8,9] Z (Qm Z Z (Qjb.cons (Qj isAgg44 sizeOf44 Z Z Z) (Qjb.cons Qd0.tmp Qjb.nil))) ⟨Z,Z⟩
 refine Gc 7 Z (Cn Z h (λF h=>?_) (λF h=>?_))
 .refine Gc 18 Z ?_;obtain rfl:=Oi h;exact Rx [3] [8,9] Z (Qm Z Z (Qjb.cons (Qj isAgg44 sizeOf44 Z Z Z) (Qjb.cons Qd0.tmp Qjb.nil))) ⟨Z,Z⟩
 refine Gc 8 Z (Bd h λf G h=>Iz G Z (Go 11 Z (Cz [] h (k_i _ _ _) Z λaa T h=>Go 3 Z (Cn Z h (λJ h=>?_) (λJ h=>?_)))))
 .refine Gc 9 Z ?_;obtain rfl:=Oi h;exact Rx [3] [8,9] Z (Qm Z Z (Qjb.cons (Qj isAgg44 sizeOf44 Z Z Z) (Qjb.cons Qd0.tmp Qjb.nil))) ⟨Z,Z⟩
 refine Gc 10 Z ?_;obtain⟨b,L,h⟩:=YN h;obtain⟨u,j,h⟩:=YN h;obtain⟨q,k,h⟩:=YN h;obtain⟨e,M,h⟩:=YN h;obtain⟨w,l,h⟩:=YN h;obtain⟨s,m,h⟩:=YN h;refine Jj 34 0 [79,80,81,82,83,84,85,86,87,88,89,90,91,92,93,94,95,96,97,98,99,100,101,102,103,104,105,106,107,108,109,110,111,112] [false,false,false,false,false,false,true,false,false,false,false,false,false,false,false,false,false,false,false,false,false,false,false,true,false,false,false,false,false,false,false,false,false,false] [[],[],[],[],[],[],[],[6],[6],[],[],[],[],[],[],[],[6],[],[],[],[],[],[],[6],[6,23],[6,23],[],[],[],[],[],[],[],[6,23]] [[],[6],[6,23]] [[(0,0),(1,1),(2,2)],[(0,0),(1,1),(2,2)],[(0,0)],[(0,0)],[(0,0)],[(0,0)],[(0,1)],[(1,1),(2,2)],[(1,1),(2,2)],[(0,0),(1,1),(2,2)],[(0,0),(1,1),(2,2)],[(0,0),(1,1),(2,2)],[(0,0),(1,1),(2,2)],[(0,0),(1,1),(2,2)],[(0,0),(1,1),(2,2)],[(0,0),(1,1),(2,2)],[(1,1),(2,2)],[(0,0),(1,1),(2,2)],[(0,0),(1,1),(2,2)],[(0,0),(1,1)],[(0,0),(1,1)],[(0,0),(1,1)],[(0,0),(1,1)],[(1,2)],[(2,2)],[(2,2)],[(0,0),(1,1),(2,2)],[(0,0),(1,1),(2,2)],[(0,0),(1,1),(2,2)],[(0,0),(1,1),(2,2)],[(0,0),(1,1),(2,2)],[(0,0),(1,1),(2,2)],[(0,0),(1,1),(2,2)],[(2,2)]] [.ptr 2 0,I d.Lo,.agg (Course.c g),.agg (Segment.c f),.ptr 2 0,I d.Lo,.agg [I b.Lo,I b.Hi],I b.Lo,I (IntKind.i64.wrap (d.Lo+b.Lo)),.ptr 1 1,.rsl 1 (List.map (Qn 1 (Qe .i64)) i.Far),I (IntKind.i64.wrap (t+1)),.rp [.rsl 1 (List.map (Qe .i64) u)],.rsl 1 (List.map (Qe .i64) u),.rp [I q],I q,I (IntKind.i64.wrap ((IntKind.i64.wrap (d.Lo+b.Lo))-q)),.ptr 2 1,I d.Hi,.agg (Course.c g),.agg (Segment.c f),.ptr 2 1,I d.Hi,.agg [I e.Lo,I e.Hi],I e.Hi,I (IntKind.i64.wrap (d.Hi+e.Hi)),.ptr 1 1,.rsl 1 (List.map (Qn 1 (Qe .i64)) i.Far),.rp [.rsl 1 (List.map (Qe .i64) w)],.rsl 1 (List.map (Qe .i64) w),I (IntKind.i64.wrap (t+1)),.rp [I s],I s,I (IntKind.i64.wrap ((IntKind.i64.wrap (d.Hi+e.Hi))+s))] [[.cells 33 (Course.c g),.cells 58 (Clocks.c i),.cells 44 [I d.Lo,I d.Hi],.cells 44 [I 0,I 0],.cells 36 (Segment.c f)],[.cells 33 (Course.c g),.cells 58 (Clocks.c i),.cells 44 [I d.Lo,I d.Hi],.cells 44 [I 0,I 0],.cells 36 (Segment.c f),.cells 44 [I b.Lo,I b.Hi]],[.cells 33 (Course.c g),.cells 58 (Clocks.c i),.cells 44 [I d.Lo,I d.Hi],.cells 44 [I 0,I 0],.cells 36 (Segment.c f),.cells 44 [I b.Lo,I b.Hi],.cells 44 [I e.Lo,I e.Hi]]] ([.cells 33 (Course.c g),.cells 58 (Clocks.c i),.cells 44 [I d.Lo,I d.Hi],.cells 44 [I 0,I 0],.cells 36 (Segment.c f),.cells 44 [I b.Lo,I b.Hi],.cells 44 [I e.Lo,I e.Hi]]) draws Z Z Z Z Z Z Z ?_ Z ?_
 .refine Qhh.cons (Qb (v0 Z Z) (Qb (v0 Z Z) (Qb (v0 Z Z) (Qf)))) (Qhh.cons (Qb (v0 Z Z) (Qb (v0 Z Z) (Qb (v0 Z Z) (Qf)))) (Qhh.cons (Qb (v0 Z Z) (Qf)) (Qhh.cons (Qb (v0 Z Z) (Qf)) (Qhh.cons (Qb (v0 Z Z) (Qf)) (Qhh.cons (Qb (v0 Z Z) (Qf)) (Qhh.cons ?_ (Qhh.cons ?_ (Qhh.cons ?_ (Qhh.cons (Qb (v0 Z Z) (Qb (v0 Z Z) (Qb (v0 Z Z) (Qf)))) (Qhh.cons (Qb (v0 Z Z) (Qb (v0 Z Z) (Qb (v0 Z Z) (Qf)))) (Qhh.cons (Qb (v0 Z Z) (Qb (v0 Z Z) (Qb (v0 Z Z) (Qf)))) (Qhh.cons ?_ (Qhh.cons (Qb (v0 Z Z) (Qb (v0 Z Z) (Qb (v0 Z Z) (Qf)))) (Qhh.cons ?_ (Qhh.cons (Qb (v0 Z Z) (Qb (v0 Z Z) (Qb (v0 Z Z) (Qf)))) (Qhh.cons ?_ (Qhh.cons (Qb (v0 Z Z) (Qb (v0 Z Z) (Qb (v0 Z Z) (Qf)))) (Qhh.cons (Qb (v0 Z Z) (Qb (v0 Z Z) (Qb (v0 Z Z) (Qf)))) (Qhh.cons (Qb (v0 Z Z) (Qb (v0 Z Z) (Qf))) (Qhh.cons (Qb (v0 Z Z) (Qb (v0 Z Z) (Qf))) (Qhh.cons (Qb (v0 Z Z) (Qb (v0 Z Z) (Qf))) (Qhh.cons (Qb (v0 Z Z) (Qb (v0 Z Z) (Qf))) (Qhh.cons ?_ (Qhh.cons ?_ (Qhh.cons ?_ (Qhh.cons (Qb (v0 Z Z) (Qb (v0 Z Z) (Qb (v0 Z Z) (Qf)))) (Qhh.cons (Qb (v0 Z Z) (Qb (v0 Z Z) (Qb (v0 Z Z) (Qf)))) (Qhh.cons ?_ (Qhh.cons (Qb (v0 Z Z) (Qb (v0 Z Z) (Qb (v0 Z Z) (Qf)))) (Qhh.cons (Qb (v0 Z Z) (Qb (v0 Z Z) (Qb (v0 Z Z) (Qf)))) (Qhh.cons ?_ (Qhh.cons (Qb (v0 Z Z) (Qb (v0 Z Z) (Qb (v0 Z Z) (Qf)))) (Qhh.cons ?_ (Qhh.nil))))))))))))))))))))))))))))))))))
  .refine Qb ?_ (Qf)
   .refine Om1 Z (sD 2 (sD 3 (sD 5 sN))) ?_;refine Qs [] (OpC.fn call47 Z Z Z) (k_aa _ _ _ _ _ L) ?_;rintro _ _ ⟨rfl,rfl⟩;exact FE Z Wp
  .refine Qb ?_ (Qb ?_ (Qf))
   .refine Om Z (sD 6 sN) ?_;refine vX (I b.Lo) (Qct QjO runUnderlying44 Z isAgg3) ?_;exact Wp
   .refine Om Z (sD 6 sN) ?_;refine vX (I b.Lo) (Qct QjO runUnderlying44 Z isAgg3) ?_;exact Wp
  .refine Qb ?_ (Qb ?_ (Qf))
   .refine Om Z (sD 1 (sD 7 sN)) ?_;exact S Z Wp
   .refine Om Z (sD 1 (sD 7 sN)) ?_;exact S Z Wp
  .refine Qb ?_ (Qb ?_ (Qb ?_ (Qf)))
   .refine Om Z (sD 10 (sD 11 sN)) ?_;exact Ix j runUnderlying56 sizeOf66 Z Wp
   .refine Om Z (sD 10 (sD 11 sN)) ?_;exact Ix j runUnderlying56 sizeOf66 Z Wp
   .refine Om Z (sD 10 (sD 11 sN)) ?_;exact Ix j runUnderlying56 sizeOf66 Z Wp
  .refine Qb ?_ (Qb ?_ (Qb ?_ (Qf)))
   .refine Om Z (sD 13 sN) ?_;exact Ix k runUnderlying66 sizeOf3 Z Wp
   .refine Om Z (sD 13 sN) ?_;exact Ix k runUnderlying66 sizeOf3 Z Wp
   .refine Om Z (sD 13 sN) ?_;exact Ix k runUnderlying66 sizeOf3 Z Wp
  .refine Qb ?_ (Qb ?_ (Qf))
   .refine Om Z (sD 8 (sD 15 sN)) ?_;exact S Z Wp
   .refine Om Z (sD 8 (sD 15 sN)) ?_;exact S Z Wp
  .refine Qb ?_ (Qf)
   .refine Om1 Z (sD 19 (sD 20 (sD 22 sN))) ?_;refine Qs [] (OpC.fn call47 Z Z Z) (k_aa _ _ _ _ _ M) ?_;rintro _ _ ⟨rfl,rfl⟩;exact FE Z Wp
  .refine Qb ?_ (Qf)
   .refine Om Z (sD 23 sN) ?_;refine vX (I e.Hi) (Qct QnE runUnderlying44 Z isAgg3) ?_;exact Wp
  .refine Qb ?_ (Qf)
   .refine Om Z (sD 18 (sD 24 sN)) ?_;exact S Z Wp
  .refine Qb ?_ (Qb ?_ (Qb ?_ (Qf)))
   .refine Om Z (sD 27 sN) ?_;exact Ix l runUnderlying56 sizeOf66 Z Wp
   .refine Om Z (sD 27 sN) ?_;exact Ix l runUnderlying56 sizeOf66 Z Wp
   .refine Om Z (sD 27 sN) ?_;exact Ix l runUnderlying56 sizeOf66 Z Wp
  .refine Qb ?_ (Qb ?_ (Qb ?_ (Qf)))
   .refine Om Z (sD 29 (sD 30 sN)) ?_;exact Ix m runUnderlying66 sizeOf3 Z Wp
   .refine Om Z (sD 29 (sD 30 sN)) ?_;exact Ix m runUnderlying66 sizeOf3 Z Wp
   .refine Om Z (sD 29 (sD 30 sN)) ?_;exact Ix m runUnderlying66 sizeOf3 Z Wp
  .refine Qb ?_ (Qf)
   .refine Om Z (sD 25 (sD 32 sN)) ?_;exact S Z Wp
 refine Go 6 Z ?_;obtain rfl:=Oi h;exact Rx [3] [8,9] Z (Qm Z Z (Qjb.cons (Qj isAgg44 sizeOf44 Z Z Z) (Qjb.cons Qd0.tmp Qjb.nil))) ⟨Z,Z⟩
abbrev lit_2:Fact:={Ul with No:=2,Kind:=3,Beacon:={Mat:=1,Epoch:=0,Local:=100,True:=100700,Err:=3:Beacon}:Fact}
abbrev lit_4:Fact:={Ul with No:=1,Kind:=3,Beacon:={Mat:=1,Epoch:=0,Local:=100,True:=700,Err:=3:Beacon}:Fact}
abbrev lit_1:List Fact:=[lit_4,lit_2]
abbrev lit_3:List Fact:=[lit_4]
abbrev lit_5:List Mat:=[{Name:=[108,105,110,101],Kind:=1:Mat},{Name:=[116,117,114,110],Kind:=2:Mat}]
abbrev lit_0:Course:={Uk with Name:=[97],Mats:=lit_5,Ties:=[{Uu with Kind:=1,By:=5:Step}],Faults:={Um with Residual:=5000,Drift:=20:Faults}:Course}
def F_fj(n:Nat):Option Bool:=
  (F_hd n).bind λw=>(F_gw n (lit_0) ({Mat:=1,Epoch:=0,Anchor:=1000:Segment}) 51000).bind λd=>(F_z n Uk []).bind λu=>(F_y n (lit_0) []).bind λe=>(F_f n (lit_0) []).bind λb=>(F_ac n 1 100 700 3).bind λx=>(F_f n (lit_0) lit_3).bind λa=>(F_ac n 1 100 700 3).bind λy=>(F_ac n 2 100 100700 3).bind λz=>(F_f n (lit_0) lit_1).bind λf=>(F_gx n (lit_0) ({Segments:=b.1,Far:=b.2.1:Clocks}) (-1) ({Lo:=5,Hi:=5:Span})).bind λc=>((bif (d.2 != 0)then some true else(bif (u.2 != 70)then some true else(bif (e.2.2 != 0)then some true else(bif (b.2.2 != 0)then some true else(bif (a.2.2 != 0)then some true else(bif (f.2.2 != 160)then some true else(bif (c.2 != 0)then some true else(bif (({Lo:=d.1.Lo,Hi:=d.1.Hi:Span}) != ({Lo:=(-1),Hi:=5001:Span}))then some true else some (({Lo:=c.1.Lo,Hi:=c.1.Hi:Span}) != ({Lo:=5,Hi:=5005:Span})))))))))):Option Bool).bind λg=>(bif g then some false else((bif (e.1 != 1)then some true else(bif ((e.2.1.length:Int) != 0)then some true else(bif ((b.1.length:Int) != 0)then some true else(bif ((b.2.1.length:Int) != 1)then some true else(bif ((a.1.length:Int) != 1)then some true else(idx a.1 0).bind λh=>(bif (h.Anchor != 100)then some true else(bif ((a.2.1.length:Int) != 2)then some true else(idx a.2.1 0).bind λi=>(bif ((i.length:Int) != 2)then some true else(idx a.2.1 1).bind λj=>some ((j.length:Int) != 2))))))))):Option Bool).bind λk=>(bif k then some false else((idx a.2.1 0).bind λl=>(idx l 1).bind λm=>(bif (m==603)then(idx a.2.1 1).bind λp=>(idx p 0).bind λq=>(bif (q==4403)then(F_v n ({Segments:=a.1,Far:=a.2.1:Clocks})).bind λr=>(bif (r==0)then(F_v n ({Segments:=[],Far:=[]:Clocks})).bind λs=>some (s==160)else some false)else some false)else some false):Option Bool).bind λt=>some t))
theorem k_fj(n:Nat)(r:Bool)(h:F_fj n=some r):
    Csm prog 11 [] [] (λr=>.bool r) r:=by
 refine Qc func11 Z Z Z ?_;refine G0 7 Z (Cd [] h (k_hd _) Z λr1 av h=>?_);refine aV (.agg [.str [97],.osl 0 0 (lit_5.length) 2,.rsl 4 (List.map Leg.c []),.rsl 5 (List.map Distance.c []),.rsl 2 (List.map Wave.c []),.rsl 4 (List.map Offence.c []),.rsl 3 (List.map Category.c []),.rsl 4 (List.map Prize.c []),.osl 1 0 ([{Uu with Kind:=1,By:=5:Step}].length) 8,I 0,I 0,I 0,I 5000,I 20,I 0,I 0]) [.row 119 2 (List.map Mat.c lit_5),.row 154 8 (List.map Step.enc [{Uu with Kind:=1,By:=5:Step}]),.cells 33 [.str [97],.osl 0 0 (lit_5.length) 2,.rsl 4 (List.map Leg.c []),.rsl 5 (List.map Distance.c []),.rsl 2 (List.map Wave.c []),.rsl 4 (List.map Offence.c []),.rsl 3 (List.map Category.c []),.rsl 4 (List.map Prize.c []),.osl 1 0 ([{Uu with Kind:=1,By:=5:Step}].length) 8,I 0,I 0,I 0,I 5000,I 20,I 0,I 0]] Z Z ?_;refine Go 8 Z ?_;refine Et (QfB [(16,_),(18,_)] Z Z (Qm2.cons Z (FzA.agg (Ed (Ee _) (Ed Ep (Ek _)))) (Qm2.cons Z (FzA.agg (Ed (Ee _) (Ed Ep (Ek _)))) Qm2.nil)) (Ec (Ec (FzH.cells (Ed (Ee _) (Ed Ep (Ek _))) (FzH.cells (Ed (Ee _) (Ed Ep (Ek _))) (QbP _)))))) ?_;refine Et (QfB [(16,_),(18,_)] Z Z (Qm2.cons Z (FzA.agg (Ed (Ee _) (Ed (Ee _) (Ed (Ee _) (Ed (Ee _) (Ed (Ee _) (Ed (Ee _) (Ed (Ee _) (Ed (Ee _) (Ed Ep (Ek _))))))))))) (Qm2.cons Z (FzA.agg (Ed (Ee _) (Ed (Ee _) (Ed (Ee _) (Ed (Ee _) (Ed (Ee _) (Ed (Ee _) (Ed (Ee _) (Ed (Ee _) (Ed Ep (Ek _))))))))))) Qm2.nil)) (Ec (Ec (FzH.cells (Ed (Ee _) (Ed (Ee _) (Ed (Ee _) (Ed (Ee _) (Ed (Ee _) (Ed (Ee _) (Ed (Ee _) (Ed (Ee _) (Ed Ep (Ek _)))))))))) (FzH.cells (Ed (Ee _) (Ed (Ee _) (Ed (Ee _) (Ed (Ee _) (Ed (Ee _) (Ed (Ee _) (Ed (Ee _) (Ed (Ee _) (Ed Ep (Ek _)))))))))) (QbP _)))))) ?_;refine Cd [] h (k_gw _ _ _ _) Z λa aw h=>?_;refine aV (.tup [.agg [I a.1.Lo,I a.1.Hi],I a.2]) [.dead,.dead,.cells 33 (Course.c (lit_0)),.cells 33 (Course.c (lit_0)),.cells 44 [I a.1.Lo,I a.1.Hi]] Z Z ?_;refine Go 11 Z (Bd h λk am h=>?_);refine Qs [] (OpC.fn call13 Z Z Z) (C.nils (Qjf.eq (Qjf.nl Qjf.nil)) (k_z _ _ _ _ am)) ?_;rintro _ _ ⟨rfl,rfl⟩;refine aV (.tup [.osl 6 0 k.1.length 3,I k.2]) [_,_,_,_,_,_,.row 36 3 (List.map Segment.c k.1)] Z Z ?_;refine Go 10 Z (Bd h λb an h=>?_);refine Qs [] (OpC.fn call18 Z Z Z) (C.nils (Qjf.eq (Qjf.nl Qjf.nil)) (k_y _ _ _ _ an)) ?_;rintro _ _ ⟨rfl,rfl⟩;refine aV (.tup [.agg [I b.1,.rsl 3 (List.map Edge.c b.2.1)],I b.2.2]) [_,_,_,_,_,_,_,.cells 51 [I b.1,.rsl 3 (List.map Edge.c b.2.1)]] Z Z ?_;refine Go 11 Z (Bd h λd ao h=>?_);refine Qs [] (OpC.fn call22 Z Z Z) (C.nils (Qjf.eq (Qjf.nl Qjf.nil)) (k_f _ _ _ _ ao)) ?_;rintro _ _ ⟨rfl,rfl⟩;refine aV (.tup [.agg [.rsl 3 (List.map Segment.c d.1),.rsl 1 (List.map (Qn 1 (Qe .i64)) d.2.1)],I d.2.2]) [_,_,_,_,_,_,_,_,_,.cells 58 [.rsl 3 (List.map Segment.c d.1),.rsl 1 (List.map (Qn 1 (Qe .i64)) d.2.1)]] Z Z ?_;refine Go 9 Z ?_;obtain⟨r6,x,h⟩:=YN h;obtain⟨e,y,h⟩:=YN h;refine Jj 9 1 [39,40,41,42,38,43,44,10,1000008] [false,true,false,true,false,false,false,true,true] [[],[],[1],[1],[1,3],[1,3],[1,3],[],[1,3,7]] [[],[1],[7],[1,3],[1,7],[1,3,7],[1,3,7,8]] [[(0,0),(1,1),(2,2),(4,4)],[(0,1),(2,4)],[(1,1),(4,4)],[(1,3),(4,5)],[(3,3),(5,5)],[(3,3),(5,5)],[(3,3),(5,5),(6,6)],[(0,2),(1,4),(3,5)],[(5,6)]] [.agg (Course.c (lit_0)),.agg (Fact.c (lit_4)),.rsl 57 (List.map Fact.c lit_3),.tup [.agg [.rsl 3 (List.map Segment.c e.1),.rsl 1 (List.map (Qn 1 (Qe .i64)) e.2.1)],I e.2.2],.tup [.agg [.rsl 3 (List.map Segment.c e.1),.rsl 1 (List.map (Qn 1 (Qe .i64)) e.2.1)],I e.2.2],.agg [.rsl 3 (List.map Segment.c e.1),.rsl 1 (List.map (Qn 1 (Qe .i64)) e.2.1)],I e.2.2,.ptr 11 0,.any] [[.dead,.dead,.cells 33 (Course.c (lit_0)),.cells 33 (Course.c (lit_0)),.cells 44 [I a.1.Lo,I a.1.Hi],.cells 44 [I a.1.Lo,I a.1.Hi],.row 36 3 (List.map Segment.c k.1),.cells 51 [I b.1,.rsl 3 (List.map Edge.c b.2.1)],.cells 51 [I b.1,.rsl 3 (List.map Edge.c b.2.1)],.cells 58 [.rsl 3 (List.map Segment.c d.1),.rsl 1 (List.map (Qn 1 (Qe .i64)) d.2.1)],.cells 58 [.rsl 3 (List.map Segment.c d.1),.rsl 1 (List.map (Qn 1 (Qe .i64)) d.2.1)],.dead],[.dead,.dead,.cells 33 (Course.c (lit_0)),.cells 33 (Course.c (lit_0)),.cells 44 [I a.1.Lo,I a.1.Hi],.cells 44 [I a.1.Lo,I a.1.Hi],.row 36 3 (List.map Segment.c k.1),.cells 51 [I b.1,.rsl 3 (List.map Edge.c b.2.1)],.cells 51 [I b.1,.rsl 3 (List.map Edge.c b.2.1)],.cells 58 [.rsl 3 (List.map Segment.c d.1),.rsl 1 (List.map (Qn 1 (Qe .i64)) d.2.1)],.cells 58 [.rsl 3 (List.map Segment.c d.1),.rsl 1 (List.map (Qn 1 (Qe .i64)) d.2.1)],.dead,.cells 96 (Fact.c (lit_4))],[.dead,.dead,.cells 33 (Course.c (lit_0)),.cells 33 (Course.c (lit_0)),.cells 44 [I a.1.Lo,I a.1.Hi],.cells 44 [I a.1.Lo,I a.1.Hi],.row 36 3 (List.map Segment.c k.1),.cells 51 [I b.1,.rsl 3 (List.map Edge.c b.2.1)],.cells 51 [I b.1,.rsl 3 (List.map Edge.c b.2.1)],.cells 58 [.rsl 3 (List.map Segment.c d.1),.rsl 1 (List.map (Qn 1 (Qe .i64)) d.2.1)],.cells 58 [.rsl 3 (List.map Segment.c d.1),.rsl 1 (List.map (Qn 1 (Qe .i64)) d.2.1)],.cells 58 [.rsl 3 (List.map Segment.c []),.rsl 1 (List.map (Qn 1 (Qe .i64)) [])]],[.dead,.dead,.cells 33 (Course.c (lit_0)),.cells 33 (Course.c (lit_0)),.cells 44 [I a.1.Lo,I a.1.Hi],.cells 44 [I a.1.Lo,I a.1.Hi],.row 36 3 (List.map Segment.c k.1),.cells 51 [I b.1,.rsl 3 (List.map Edge.c b.2.1)],.cells 51 [I b.1,.rsl 3 (List.map Edge.c b.2.1)],.cells 58 [.rsl 3 (List.map Segment.c d.1),.rsl 1 (List.map (Qn 1 (Qe .i64)) d.2.1)],.cells 58 [.rsl 3 (List.map Segment.c d.1),.rsl 1 (List.map (Qn 1 (Qe .i64)) d.2.1)],.dead,.cells 96 (Fact.c (lit_4)),.cells 58 [.rsl 3 (List.map Segment.c e.1),.rsl 1 (List.map (Qn 1 (Qe .i64)) e.2.1)]],[.dead,.dead,.cells 33 (Course.c (lit_0)),.cells 33 (Course.c (lit_0)),.cells 44 [I a.1.Lo,I a.1.Hi],.cells 44 [I a.1.Lo,I a.1.Hi],.row 36 3 (List.map Segment.c k.1),.cells 51 [I b.1,.rsl 3 (List.map Edge.c b.2.1)],.cells 51 [I b.1,.rsl 3 (List.map Edge.c b.2.1)],.cells 58 [.rsl 3 (List.map Segment.c d.1),.rsl 1 (List.map (Qn 1 (Qe .i64)) d.2.1)],.cells 58 [.rsl 3 (List.map Segment.c d.1),.rsl 1 (List.map (Qn 1 (Qe .i64)) d.2.1)],.cells 58 [.rsl 3 (List.map Segment.c []),.rsl 1 (List.map (Qn 1 (Qe .i64)) [])],.cells 96 (Fact.c (lit_4))],[.dead,.dead,.cells 33 (Course.c (lit_0)),.cells 33 (Course.c (lit_0)),.cells 44 [I a.1.Lo,I a.1.Hi],.cells 44 [I a.1.Lo,I a.1.Hi],.row 36 3 (List.map Segment.c k.1),.cells 51 [I b.1,.rsl 3 (List.map Edge.c b.2.1)],.cells 51 [I b.1,.rsl 3 (List.map Edge.c b.2.1)],.cells 58 [.rsl 3 (List.map Segment.c d.1),.rsl 1 (List.map (Qn 1 (Qe .i64)) d.2.1)],.cells 58 [.rsl 3 (List.map Segment.c d.1),.rsl 1 (List.map (Qn 1 (Qe .i64)) d.2.1)],.cells 58 [.rsl 3 (List.map Segment.c []),.rsl 1 (List.map (Qn 1 (Qe .i64)) [])],.cells 96 (Fact.c (lit_4)),.cells 58 [.rsl 3 (List.map Segment.c e.1),.rsl 1 (List.map (Qn 1 (Qe .i64)) e.2.1)]],[.dead,.dead,.cells 33 (Course.c (lit_0)),.cells 33 (Course.c (lit_0)),.cells 44 [I a.1.Lo,I a.1.Hi],.cells 44 [I a.1.Lo,I a.1.Hi],.row 36 3 (List.map Segment.c k.1),.cells 51 [I b.1,.rsl 3 (List.map Edge.c b.2.1)],.cells 51 [I b.1,.rsl 3 (List.map Edge.c b.2.1)],.cells 58 [.rsl 3 (List.map Segment.c d.1),.rsl 1 (List.map (Qn 1 (Qe .i64)) d.2.1)],.cells 58 [.rsl 3 (List.map Segment.c d.1),.rsl 1 (List.map (Qn 1 (Qe .i64)) d.2.1)],.cells 58 [.rsl 3 (List.map Segment.c e.1),.rsl 1 (List.map (Qn 1 (Qe .i64)) e.2.1)],.cells 96 (Fact.c (lit_4)),.cells 58 [.rsl 3 (List.map Segment.c e.1),.rsl 1 (List.map (Qn 1 (Qe .i64)) e.2.1)]]] ([.dead,.dead,.cells 33 (Course.c (lit_0)),.cells 33 (Course.c (lit_0)),.cells 44 [I a.1.Lo,I a.1.Hi],.cells 44 [I a.1.Lo,I a.1.Hi],.row 36 3 (List.map Segment.c k.1),.cells 51 [I b.1,.rsl 3 (List.map Edge.c b.2.1)],.cells 51 [I b.1,.rsl 3 (List.map Edge.c b.2.1)],.cells 58 [.rsl 3 (List.map Segment.c d.1),.rsl 1 (List.map (Qn 1 (Qe .i64)) d.2.1)],.cells 58 [.rsl 3 (List.map Segment.c d.1),.rsl 1 (List.map (Qn 1 (Qe .i64)) d.2.1)],.cells 58 [.rsl 3 (List.map Segment.c e.1),.rsl 1 (List.map (Qn 1 (Qe .i64)) e.2.1)],.cells 96 (Fact.c (lit_4)),.cells 58 [.rsl 3 (List.map Segment.c e.1),.rsl 1 (List.map (Qn 1 (Qe .i64)) e.2.1)]]) draws Z Z Z Z Z Z Z ?_ Z ?_
 .refine Qhh.cons (Qb (v0 Z Z) (Qb (v0 Z Z) (Qb (v0 Z Z) (Qb (v0 Z Z) (Qf))))) (Qhh.cons ?_ (Qhh.cons ?_ (Qhh.cons ?_ (Qhh.cons (Qb (v0 Z Z) (Qb (v0 Z Z) (Qf))) (Qhh.cons (Qb (v0 Z Z) (Qb (v0 Z Z) (Qf))) (Qhh.cons (Qb (v0 Z Z) (Qb (v0 Z Z) (Qb (v0 Z Z) (Qf)))) (Qhh.cons ?_ (Qhh.cons ?_ (Qhh.nil)))))))))
  .refine Qb ?_ (Qb ?_ (Qf))
   .refine Om1 Z sN ?_;refine Qs [] (OpC.fn call33 Z Z Z) (Qko _ _ _ _ _ _ x) ?_;rintro _ _ ⟨rfl,rfl⟩;refine aV (.agg (Fact.c (lit_4))) [_,_,_,_,_,_,_,_,_,_,_,_,.cells 96 (Fact.c (lit_4))] Z Z ?_;exact Wp
   .refine Om1 Z sN ?_;refine Qs [] (OpC.fn call33 Z Z Z) (Qko _ _ _ _ _ _ x) ?_;rintro _ _ ⟨rfl,rfl⟩;refine aV (.agg (Fact.c (lit_4))) [_,_,_,_,_,_,_,_,_,_,_,_,.cells 96 (Fact.c (lit_4))] Z Z ?_;exact Wp
  .refine Qb ?_ (Qb ?_ (Qf))
   .refine Om Z (sD 1 sN) ?_;refine vH (YR (xs:=[.tmp 40]) (es:=List.map Fact.c lit_3) Qgf Z Z Z Z Z ⟨Z,trivial⟩ Z Z) ?_;refine aV (.rsl 57 (List.map Fact.c lit_3)) [_,_,_,_,_,_,_,_,_,_,_,_,_] Z Z ?_;exact Wp
   .refine Om Z (sD 1 sN) ?_;refine vH (YR (xs:=[.tmp 40]) (es:=List.map Fact.c lit_3) Qgf Z Z Z Z Z ⟨Z,trivial⟩ Z Z) ?_;refine aV (.rsl 57 (List.map Fact.c lit_3)) [_,_,_,_,_,_,_,_,_,_,_,_,_] Z Z ?_;exact Wp
  .refine Qb ?_ (Qb ?_ (Qf))
   .refine Om1 Z (sD 0 (sD 2 sN)) ?_;refine Qs [] (OpC.fn call22 Z Z Z) (k_f _ _ _ _ y) ?_;rintro _ _ ⟨rfl,rfl⟩;refine aV (.tup [.agg [.rsl 3 (List.map Segment.c e.1),.rsl 1 (List.map (Qn 1 (Qe .i64)) e.2.1)],I e.2.2]) [_,_,_,_,_,_,_,_,_,_,_,_,_,.cells 58 [.rsl 3 (List.map Segment.c e.1),.rsl 1 (List.map (Qn 1 (Qe .i64)) e.2.1)]] Z Z ?_;exact Wp
   .refine Om1 Z (sD 0 (sD 2 sN)) ?_;refine Qs [] (OpC.fn call22 Z Z Z) (k_f _ _ _ _ y) ?_;rintro _ _ ⟨rfl,rfl⟩;refine aV (.tup [.agg [.rsl 3 (List.map Segment.c e.1),.rsl 1 (List.map (Qn 1 (Qe .i64)) e.2.1)],I e.2.2]) [_,_,_,_,_,_,_,_,_,_,_,_,_,.cells 58 [.rsl 3 (List.map Segment.c e.1),.rsl 1 (List.map (Qn 1 (Qe .i64)) e.2.1)]] Z Z ?_;exact Wp
  .refine Qb ?_ (Qb ?_ (Qb ?_ (Qf)))
   .exact Jd.alloc _ 10 58 11 _ Z Z Z Z Z Z Z (OpZ.alloc (v:=(.agg [.rsl 3 (List.map Segment.c []),.rsl 1 (List.map (Qn 1 (Qe .i64)) [])])) zeroValue58 (zrC Z)) Z
   .exact Jd.alloc _ 10 58 11 _ Z Z Z Z Z Z Z (OpZ.alloc (v:=(.agg [.rsl 3 (List.map Segment.c []),.rsl 1 (List.map (Qn 1 (Qe .i64)) [])])) zeroValue58 (zrC Z)) Z
   .exact Jd.alloc _ 10 58 11 _ Z Z Z Z Z Z Z (OpZ.alloc (v:=(.agg [.rsl 3 (List.map Segment.c []),.rsl 1 (List.map (Qn 1 (Qe .i64)) [])])) zeroValue58 (zrC Z)) Z
  .refine Qb ?_ (Qf)
   .refine Om2 Z (sD 7 (sD 5 sN)) ?_;refine vU (Ex Z Z Z sizeOf58 Z Z Z Z Z Z Z) ?_;refine Qdu (H:=[_,_,_,_,_,_,_,_,_,_,_,.cells 58 [.rsl 3 (List.map Segment.c e.1),.rsl 1 (List.map (Qn 1 (Qe .i64)) e.2.1)],_,_]) Z ?_;exact Wp
 refine Go 4 Z ?_;obtain⟨r8,z,h⟩:=YN h;obtain⟨r9,B,h⟩:=YN h;obtain⟨g,s,h⟩:=YN h;refine Jj 10 1 [46,47,48,49,50,45,51,52,12,1000009] [false,true,true,false,true,false,false,false,true,true] [[],[],[1],[1,2],[1,2],[1,2,4],[1,2,4],[1,2,4],[],[1,2,4,8]] [[],[1],[8],[1,2],[1,8],[1,2,4],[1,2,8],[1,2,4,8],[1,2,4,8,9]] [[(0,0),(1,1),(2,2),(3,3),(4,4),(6,6)],[(0,1),(2,4)],[(1,3),(4,6)],[(3,3),(6,6)],[(3,5),(6,7)],[(5,5),(7,7)],[(5,5),(7,7)],[(5,5),(7,7),(8,8)],[(0,2),(1,4),(3,6),(5,7)],[(7,8)]] [.agg (Course.c (lit_0)),.agg (Fact.c (lit_4)),.agg (Fact.c (lit_2)),.rsl 57 (List.map Fact.c lit_1),.tup [.agg [.rsl 3 (List.map Segment.c g.1),.rsl 1 (List.map (Qn 1 (Qe .i64)) g.2.1)],I g.2.2],.tup [.agg [.rsl 3 (List.map Segment.c g.1),.rsl 1 (List.map (Qn 1 (Qe .i64)) g.2.1)],I g.2.2],.agg [.rsl 3 (List.map Segment.c g.1),.rsl 1 (List.map (Qn 1 (Qe .i64)) g.2.1)],I g.2.2,.ptr 14 0,.any] [[.dead,.dead,.cells 33 (Course.c (lit_0)),.cells 33 (Course.c (lit_0)),.cells 44 [I a.1.Lo,I a.1.Hi],.cells 44 [I a.1.Lo,I a.1.Hi],.row 36 3 (List.map Segment.c k.1),.cells 51 [I b.1,.rsl 3 (List.map Edge.c b.2.1)],.cells 51 [I b.1,.rsl 3 (List.map Edge.c b.2.1)],.cells 58 [.rsl 3 (List.map Segment.c d.1),.rsl 1 (List.map (Qn 1 (Qe .i64)) d.2.1)],.cells 58 [.rsl 3 (List.map Segment.c d.1),.rsl 1 (List.map (Qn 1 (Qe .i64)) d.2.1)],.cells 58 [.rsl 3 (List.map Segment.c e.1),.rsl 1 (List.map (Qn 1 (Qe .i64)) e.2.1)],.cells 96 (Fact.c (lit_4)),.cells 58 [.rsl 3 (List.map Segment.c e.1),.rsl 1 (List.map (Qn 1 (Qe .i64)) e.2.1)],.dead],[.dead,.dead,.cells 33 (Course.c (lit_0)),.cells 33 (Course.c (lit_0)),.cells 44 [I a.1.Lo,I a.1.Hi],.cells 44 [I a.1.Lo,I a.1.Hi],.row 36 3 (List.map Segment.c k.1),.cells 51 [I b.1,.rsl 3 (List.map Edge.c b.2.1)],.cells 51 [I b.1,.rsl 3 (List.map Edge.c b.2.1)],.cells 58 [.rsl 3 (List.map Segment.c d.1),.rsl 1 (List.map (Qn 1 (Qe .i64)) d.2.1)],.cells 58 [.rsl 3 (List.map Segment.c d.1),.rsl 1 (List.map (Qn 1 (Qe .i64)) d.2.1)],.cells 58 [.rsl 3 (List.map Segment.c e.1),.rsl 1 (List.map (Qn 1 (Qe .i64)) e.2.1)],.cells 96 (Fact.c (lit_4)),.cells 58 [.rsl 3 (List.map Segment.c e.1),.rsl 1 (List.map (Qn 1 (Qe .i64)) e.2.1)],.dead,.cells 96 (Fact.c (lit_4))],[.dead,.dead,.cells 33 (Course.c (lit_0)),.cells 33 (Course.c (lit_0)),.cells 44 [I a.1.Lo,I a.1.Hi],.cells 44 [I a.1.Lo,I a.1.Hi],.row 36 3 (List.map Segment.c k.1),.cells 51 [I b.1,.rsl 3 (List.map Edge.c b.2.1)],.cells 51 [I b.1,.rsl 3 (List.map Edge.c b.2.1)],.cells 58 [.rsl 3 (List.map Segment.c d.1),.rsl 1 (List.map (Qn 1 (Qe .i64)) d.2.1)],.cells 58 [.rsl 3 (List.map Segment.c d.1),.rsl 1 (List.map (Qn 1 (Qe .i64)) d.2.1)],.cells 58 [.rsl 3 (List.map Segment.c e.1),.rsl 1 (List.map (Qn 1 (Qe .i64)) e.2.1)],.cells 96 (Fact.c (lit_4)),.cells 58 [.rsl 3 (List.map Segment.c e.1),.rsl 1 (List.map (Qn 1 (Qe .i64)) e.2.1)],.cells 58 [.rsl 3 (List.map Segment.c []),.rsl 1 (List.map (Qn 1 (Qe .i64)) [])]],[.dead,.dead,.cells 33 (Course.c (lit_0)),.cells 33 (Course.c (lit_0)),.cells 44 [I a.1.Lo,I a.1.Hi],.cells 44 [I a.1.Lo,I a.1.Hi],.row 36 3 (List.map Segment.c k.1),.cells 51 [I b.1,.rsl 3 (List.map Edge.c b.2.1)],.cells 51 [I b.1,.rsl 3 (List.map Edge.c b.2.1)],.cells 58 [.rsl 3 (List.map Segment.c d.1),.rsl 1 (List.map (Qn 1 (Qe .i64)) d.2.1)],.cells 58 [.rsl 3 (List.map Segment.c d.1),.rsl 1 (List.map (Qn 1 (Qe .i64)) d.2.1)],.cells 58 [.rsl 3 (List.map Segment.c e.1),.rsl 1 (List.map (Qn 1 (Qe .i64)) e.2.1)],.cells 96 (Fact.c (lit_4)),.cells 58 [.rsl 3 (List.map Segment.c e.1),.rsl 1 (List.map (Qn 1 (Qe .i64)) e.2.1)],.dead,.cells 96 (Fact.c (lit_4)),.cells 96 (Fact.c (lit_2))],[.dead,.dead,.cells 33 (Course.c (lit_0)),.cells 33 (Course.c (lit_0)),.cells 44 [I a.1.Lo,I a.1.Hi],.cells 44 [I a.1.Lo,I a.1.Hi],.row 36 3 (List.map Segment.c k.1),.cells 51 [I b.1,.rsl 3 (List.map Edge.c b.2.1)],.cells 51 [I b.1,.rsl 3 (List.map Edge.c b.2.1)],.cells 58 [.rsl 3 (List.map Segment.c d.1),.rsl 1 (List.map (Qn 1 (Qe .i64)) d.2.1)],.cells 58 [.rsl 3 (List.map Segment.c d.1),.rsl 1 (List.map (Qn 1 (Qe .i64)) d.2.1)],.cells 58 [.rsl 3 (List.map Segment.c e.1),.rsl 1 (List.map (Qn 1 (Qe .i64)) e.2.1)],.cells 96 (Fact.c (lit_4)),.cells 58 [.rsl 3 (List.map Segment.c e.1),.rsl 1 (List.map (Qn 1 (Qe .i64)) e.2.1)],.cells 58 [.rsl 3 (List.map Segment.c []),.rsl 1 (List.map (Qn 1 (Qe .i64)) [])],.cells 96 (Fact.c (lit_4))],[.dead,.dead,.cells 33 (Course.c (lit_0)),.cells 33 (Course.c (lit_0)),.cells 44 [I a.1.Lo,I a.1.Hi],.cells 44 [I a.1.Lo,I a.1.Hi],.row 36 3 (List.map Segment.c k.1),.cells 51 [I b.1,.rsl 3 (List.map Edge.c b.2.1)],.cells 51 [I b.1,.rsl 3 (List.map Edge.c b.2.1)],.cells 58 [.rsl 3 (List.map Segment.c d.1),.rsl 1 (List.map (Qn 1 (Qe .i64)) d.2.1)],.cells 58 [.rsl 3 (List.map Segment.c d.1),.rsl 1 (List.map (Qn 1 (Qe .i64)) d.2.1)],.cells 58 [.rsl 3 (List.map Segment.c e.1),.rsl 1 (List.map (Qn 1 (Qe .i64)) e.2.1)],.cells 96 (Fact.c (lit_4)),.cells 58 [.rsl 3 (List.map Segment.c e.1),.rsl 1 (List.map (Qn 1 (Qe .i64)) e.2.1)],.dead,.cells 96 (Fact.c (lit_4)),.cells 96 (Fact.c (lit_2)),.cells 58 [.rsl 3 (List.map Segment.c g.1),.rsl 1 (List.map (Qn 1 (Qe .i64)) g.2.1)]],[.dead,.dead,.cells 33 (Course.c (lit_0)),.cells 33 (Course.c (lit_0)),.cells 44 [I a.1.Lo,I a.1.Hi],.cells 44 [I a.1.Lo,I a.1.Hi],.row 36 3 (List.map Segment.c k.1),.cells 51 [I b.1,.rsl 3 (List.map Edge.c b.2.1)],.cells 51 [I b.1,.rsl 3 (List.map Edge.c b.2.1)],.cells 58 [.rsl 3 (List.map Segment.c d.1),.rsl 1 (List.map (Qn 1 (Qe .i64)) d.2.1)],.cells 58 [.rsl 3 (List.map Segment.c d.1),.rsl 1 (List.map (Qn 1 (Qe .i64)) d.2.1)],.cells 58 [.rsl 3 (List.map Segment.c e.1),.rsl 1 (List.map (Qn 1 (Qe .i64)) e.2.1)],.cells 96 (Fact.c (lit_4)),.cells 58 [.rsl 3 (List.map Segment.c e.1),.rsl 1 (List.map (Qn 1 (Qe .i64)) e.2.1)],.cells 58 [.rsl 3 (List.map Segment.c []),.rsl 1 (List.map (Qn 1 (Qe .i64)) [])],.cells 96 (Fact.c (lit_4)),.cells 96 (Fact.c (lit_2))],[.dead,.dead,.cells 33 (Course.c (lit_0)),.cells 33 (Course.c (lit_0)),.cells 44 [I a.1.Lo,I a.1.Hi],.cells 44 [I a.1.Lo,I a.1.Hi],.row 36 3 (List.map Segment.c k.1),.cells 51 [I b.1,.rsl 3 (List.map Edge.c b.2.1)],.cells 51 [I b.1,.rsl 3 (List.map Edge.c b.2.1)],.cells 58 [.rsl 3 (List.map Segment.c d.1),.rsl 1 (List.map (Qn 1 (Qe .i64)) d.2.1)],.cells 58 [.rsl 3 (List.map Segment.c d.1),.rsl 1 (List.map (Qn 1 (Qe .i64)) d.2.1)],.cells 58 [.rsl 3 (List.map Segment.c e.1),.rsl 1 (List.map (Qn 1 (Qe .i64)) e.2.1)],.cells 96 (Fact.c (lit_4)),.cells 58 [.rsl 3 (List.map Segment.c e.1),.rsl 1 (List.map (Qn 1 (Qe .i64)) e.2.1)],.cells 58 [.rsl 3 (List.map Segment.c []),.rsl 1 (List.map (Qn 1 (Qe .i64)) [])],.cells 96 (Fact.c (lit_4)),.cells 96 (Fact.c (lit_2)),.cells 58 [.rsl 3 (List.map Segment.c g.1),.rsl 1 (List.map (Qn 1 (Qe .i64)) g.2.1)]],[.dead,.dead,.cells 33 (Course.c (lit_0)),.cells 33 (Course.c (lit_0)),.cells 44 [I a.1.Lo,I a.1.Hi],.cells 44 [I a.1.Lo,I a.1.Hi],.row 36 3 (List.map Segment.c k.1),.cells 51 [I b.1,.rsl 3 (List.map Edge.c b.2.1)],.cells 51 [I b.1,.rsl 3 (List.map Edge.c b.2.1)],.cells 58 [.rsl 3 (List.map Segment.c d.1),.rsl 1 (List.map (Qn 1 (Qe .i64)) d.2.1)],.cells 58 [.rsl 3 (List.map Segment.c d.1),.rsl 1 (List.map (Qn 1 (Qe .i64)) d.2.1)],.cells 58 [.rsl 3 (List.map Segment.c e.1),.rsl 1 (List.map (Qn 1 (Qe .i64)) e.2.1)],.cells 96 (Fact.c (lit_4)),.cells 58 [.rsl 3 (List.map Segment.c e.1),.rsl 1 (List.map (Qn 1 (Qe .i64)) e.2.1)],.cells 58 [.rsl 3 (List.map Segment.c g.1),.rsl 1 (List.map (Qn 1 (Qe .i64)) g.2.1)],.cells 96 (Fact.c (lit_4)),.cells 96 (Fact.c (lit_2)),.cells 58 [.rsl 3 (List.map Segment.c g.1),.rsl 1 (List.map (Qn 1 (Qe .i64)) g.2.1)]]] ([.dead,.dead,.cells 33 (Course.c (lit_0)),.cells 33 (Course.c (lit_0)),.cells 44 [I a.1.Lo,I a.1.Hi],.cells 44 [I a.1.Lo,I a.1.Hi],.row 36 3 (List.map Segment.c k.1),.cells 51 [I b.1,.rsl 3 (List.map Edge.c b.2.1)],.cells 51 [I b.1,.rsl 3 (List.map Edge.c b.2.1)],.cells 58 [.rsl 3 (List.map Segment.c d.1),.rsl 1 (List.map (Qn 1 (Qe .i64)) d.2.1)],.cells 58 [.rsl 3 (List.map Segment.c d.1),.rsl 1 (List.map (Qn 1 (Qe .i64)) d.2.1)],.cells 58 [.rsl 3 (List.map Segment.c e.1),.rsl 1 (List.map (Qn 1 (Qe .i64)) e.2.1)],.cells 96 (Fact.c (lit_4)),.cells 58 [.rsl 3 (List.map Segment.c e.1),.rsl 1 (List.map (Qn 1 (Qe .i64)) e.2.1)],.cells 58 [.rsl 3 (List.map Segment.c g.1),.rsl 1 (List.map (Qn 1 (Qe .i64)) g.2.1)],.cells 96 (Fact.c (lit_4)),.cells 96 (Fact.c (lit_2)),.cells 58 [.rsl 3 (List.map Segment.c g.1),.rsl 1 (List.map (Qn 1 (Qe .i64)) g.2.1)]]) draws Z Z Z Z Z Z Z ?_ Z ?_
 .refine Qhh.cons (Qb (v0 Z Z) (Qb (v0 Z Z) (Qb (v0 Z Z) (Qb (v0 Z Z) (Qb (v0 Z Z) (Qb (v0 Z Z) (Qf))))))) (Qhh.cons ?_ (Qhh.cons ?_ (Qhh.cons ?_ (Qhh.cons ?_ (Qhh.cons (Qb (v0 Z Z) (Qb (v0 Z Z) (Qf))) (Qhh.cons (Qb (v0 Z Z) (Qb (v0 Z Z) (Qf))) (Qhh.cons (Qb (v0 Z Z) (Qb (v0 Z Z) (Qb (v0 Z Z) (Qf)))) (Qhh.cons ?_ (Qhh.cons ?_ (Qhh.nil))))))))))
  .refine Qb ?_ (Qb ?_ (Qf))
   .refine Om1 Z sN ?_;refine Qs [] (OpC.fn call33 Z Z Z) (Qko _ _ _ _ _ _ z) ?_;rintro _ _ ⟨rfl,rfl⟩;refine aV (.agg (Fact.c (lit_4))) [_,_,_,_,_,_,_,_,_,_,_,_,_,_,_,.cells 96 (Fact.c (lit_4))] Z Z ?_;exact Wp
   .refine Om1 Z sN ?_;refine Qs [] (OpC.fn call33 Z Z Z) (Qko _ _ _ _ _ _ z) ?_;rintro _ _ ⟨rfl,rfl⟩;refine aV (.agg (Fact.c (lit_4))) [_,_,_,_,_,_,_,_,_,_,_,_,_,_,_,.cells 96 (Fact.c (lit_4))] Z Z ?_;exact Wp
  .refine Qb ?_ (Qb ?_ (Qf))
   .refine Om1 Z sN ?_;refine Qs [] (OpC.fn call33 Z Z Z) (Qko _ _ _ _ _ _ B) ?_;rintro _ _ ⟨rfl,rfl⟩;refine aV (.agg (Fact.c (lit_2))) [_,_,_,_,_,_,_,_,_,_,_,_,_,_,_,_,.cells 96 (Fact.c (lit_2))] Z Z ?_;exact Wp
   .refine Om1 Z sN ?_;refine Qs [] (OpC.fn call33 Z Z Z) (Qko _ _ _ _ _ _ B) ?_;rintro _ _ ⟨rfl,rfl⟩;refine aV (.agg (Fact.c (lit_2))) [_,_,_,_,_,_,_,_,_,_,_,_,_,_,_,_,.cells 96 (Fact.c (lit_2))] Z Z ?_;exact Wp
  .refine Qb ?_ (Qb ?_ (Qf))
   .refine Om Z (sD 1 (sD 2 sN)) ?_;refine vH (YR (xs:=[.tmp 47,.tmp 48]) (es:=List.map Fact.c lit_1) Qgf Z Z Z Z Z ⟨Z,Z,trivial⟩ Z Z) ?_;refine aV (.rsl 57 (List.map Fact.c lit_1)) [_,_,_,_,_,_,_,_,_,_,_,_,_,_,_,_,_] Z Z ?_;exact Wp
   .refine Om Z (sD 1 (sD 2 sN)) ?_;refine vH (YR (xs:=[.tmp 47,.tmp 48]) (es:=List.map Fact.c lit_1) Qgf Z Z Z Z Z ⟨Z,Z,trivial⟩ Z Z) ?_;refine aV (.rsl 57 (List.map Fact.c lit_1)) [_,_,_,_,_,_,_,_,_,_,_,_,_,_,_,_,_] Z Z ?_;exact Wp
  .refine Qb ?_ (Qb ?_ (Qf))
   .refine Om1 Z (sD 0 (sD 3 sN)) ?_;refine Qs [] (OpC.fn call22 Z Z Z) (k_f _ _ _ _ s) ?_;rintro _ _ ⟨rfl,rfl⟩;refine aV (.tup [.agg [.rsl 3 (List.map Segment.c g.1),.rsl 1 (List.map (Qn 1 (Qe .i64)) g.2.1)],I g.2.2]) [_,_,_,_,_,_,_,_,_,_,_,_,_,_,_,_,_,.cells 58 [.rsl 3 (List.map Segment.c g.1),.rsl 1 (List.map (Qn 1 (Qe .i64)) g.2.1)]] Z Z ?_;exact Wp
   .refine Om1 Z (sD 0 (sD 3 sN)) ?_;refine Qs [] (OpC.fn call22 Z Z Z) (k_f _ _ _ _ s) ?_;rintro _ _ ⟨rfl,rfl⟩;refine aV (.tup [.agg [.rsl 3 (List.map Segment.c g.1),.rsl 1 (List.map (Qn 1 (Qe .i64)) g.2.1)],I g.2.2]) [_,_,_,_,_,_,_,_,_,_,_,_,_,_,_,_,_,.cells 58 [.rsl 3 (List.map Segment.c g.1),.rsl 1 (List.map (Qn 1 (Qe .i64)) g.2.1)]] Z Z ?_;exact Wp
  .refine Qb ?_ (Qb ?_ (Qb ?_ (Qb ?_ (Qf))))
   .exact Jd.alloc _ 12 58 14 _ Z Z Z Z Z Z Z (OpZ.alloc (v:=(.agg [.rsl 3 (List.map Segment.c []),.rsl 1 (List.map (Qn 1 (Qe .i64)) [])])) zeroValue58 (zrC Z)) Z
   .exact Jd.alloc _ 12 58 14 _ Z Z Z Z Z Z Z (OpZ.alloc (v:=(.agg [.rsl 3 (List.map Segment.c []),.rsl 1 (List.map (Qn 1 (Qe .i64)) [])])) zeroValue58 (zrC Z)) Z
   .exact Jd.alloc _ 12 58 14 _ Z Z Z Z Z Z Z (OpZ.alloc (v:=(.agg [.rsl 3 (List.map Segment.c []),.rsl 1 (List.map (Qn 1 (Qe .i64)) [])])) zeroValue58 (zrC Z)) Z
   .exact Jd.alloc _ 12 58 14 _ Z Z Z Z Z Z Z (OpZ.alloc (v:=(.agg [.rsl 3 (List.map Segment.c []),.rsl 1 (List.map (Qn 1 (Qe .i64)) [])])) zeroValue58 (zrC Z)) Z
  .refine Qb ?_ (Qf)
   .refine Om2 Z (sD 8 (sD 6 sN)) ?_;refine vU (Ex Z Z Z sizeOf58 Z Z Z Z Z Z Z) ?_;refine Qdu (H:=[_,_,_,_,_,_,_,_,_,_,_,_,_,_,.cells 58 [.rsl 3 (List.map Segment.c g.1),.rsl 1 (List.map (Qn 1 (Qe .i64)) g.2.1)],_,_,_]) Z ?_;exact Wp
 refine Go 8 Z (Cd [] h (k_gx _ _ _ _ _) Z λl aq h=>?_);refine aV (.tup [.agg [I l.1.Lo,I l.1.Hi],I l.2]) [_,_,_,_,_,_,_,_,_,_,_,_,_,_,_,_,_,_,.cells 44 [I l.1.Lo,I l.1.Hi]] Z Z ?_;refine Go 10 Z (Bd h λt i h=>?_);refine Ct t [8,10,11] [6,8,10] (λt=>[(95,.bool t)]) Ze Zf ?_ (λenv H m=>?_)
 .refine G0 4 Z (Is 62 i Z (λE i=>?_) (λE i=>?_))
  .exact Go 34 Z (Cl i [8,10,11])
  .refine Go 4 Z (Is 66 i Z (λF i=>?_) (λF i=>?_))
   .exact Go 30 Z (Cl i [8,10,11])
   .refine Go 4 Z (Is 70 i Z (λG i=>?_) (λG i=>?_))
    .exact Go 26 Z (Cl i [8,10,11])
    .refine Go 4 Z (Is 74 i Z (λJ i=>?_) (λJ i=>?_))
     .exact Go 22 Z (Cl i [8,10,11])
     .refine Go 4 Z (Is 78 i Z (λL i=>?_) (λL i=>?_))
      .exact Go 18 Z (Cl i [8,10,11])
      .refine Go 4 Z (Is 82 i Z (λM i=>?_) (λM i=>?_))
       .exact Go 14 Z (Cl i [8,10,11])
       .refine Go 4 Z (Is 86 i Z (λN i=>?_) (λN i=>?_))
        .exact Go 10 Z (Cl i [8,10,11])
        .refine Go 2 Z ?_;refine vX (.bool (({Lo:=a.1.Lo,Hi:=a.1.Hi:Span}) != ({Lo:=(-1),Hi:=5001:Span}))) (Qgq (p:={Lo:=a.1.Lo,Hi:=a.1.Hi:Span}) (q:={Lo:=(-1),Hi:=5001:Span}) Qmp Z Z) ?_ (gT Z);refine Go 2 Z (Is 91 i Z (λO i=>?_) (λO i=>?_))
         .exact Go 5 Z (Cl i [8,10,11])
         .refine Go 2 Z ?_;refine vX (.bool (({Lo:=l.1.Lo,Hi:=l.1.Hi:Span}) != ({Lo:=5,Hi:=5005:Span}))) (Qgq (p:={Lo:=l.1.Lo,Hi:=l.1.Hi:Span}) (q:={Lo:=5,Hi:=5005:Span}) Qmp Z Z) ?_ (gT Z);exact Go 2 Z (Cl i [8,10,11])
 refine Gx 1 Z (Ef m (Cn Z h (λP h=>?_) (λP h=>?_)))
 .exact Gc 7 Z (Rt h 0 [])
 refine Gc 4 Z (Bd h λu f h=>?_);refine Ct u [2] [10] (λu=>[(152,.bool u)]) Ze Zf ?_ (λenv H m=>?_)
 .refine G0 5 Z (Is 99 f Z (λQ f=>?_) (λQ f=>?_))
  .exact Go 54 Z (Cl f [2])
  .refine Go 2 Z (Lm Z (Go 3 Z (Is 105 f Z (λR f=>?_) (λR f=>?_))))
   .exact Go 48 Z (Cl f [2])
   .refine Go 2 Z (Lm Z (Go 3 Z (Is 111 f Z (λT f=>?_) (λT f=>?_))))
    .exact Go 42 Z (Cl f [2])
    .refine Go 2 Z (Lm Z (Go 3 Z (Is 117 f Z (λV f=>?_) (λV f=>?_))))
     .exact Go 36 Z (Cl f [2])
     .refine Go 2 Z (Lm Z (Go 3 Z (Is 123 f Z (λW f=>?_) (λW f=>?_))))
      .exact Go 30 Z (Cl f [2])
      .refine Go 2 Z (Bd f λax X f=>Iz X Z (Go 5 Z (Is 131 f Z (λY f=>?_) (λY f=>?_))))
       .exact Go 22 Z (Cl f [2])
       .refine Go 2 Z (Lm Z (Go 3 Z (Is 137 f Z (λaa f=>?_) (λaa f=>?_))))
        .exact Go 16 Z (Cl f [2])
        .refine Go 2 Z (Bd f λay ab f=>Iz ab Z (Go 1 Z (Lm Z (Go 3 Z (Is 145 f Z (λac f=>?_) (λac f=>?_))))))
         .exact Go 8 Z (Cl f [2])
         .exact Go 2 Z (Bd f λaz ad f=>Iz ad Z (Go 1 Z (Lm Z (Go 3 Z (Cl f [2])))))
 refine Gx 1 Z (Ef m (Cn Z h (λae h=>?_) (λae h=>?_)))
 .exact Gc 7 Z (Rt h 0 [])
 refine Gc 3 Z (Bd h λw j h=>?_);refine Ct w [] [] (λw=>[(0,.bool w)]) Ze Zf ?_ (λenv H m=>?_)
 .refine G0 3 Z (Bd j λba af j=>Iz af Z (Go 1 Z (Bd j λbb ag j=>Iz ag Z (Go 3 Z (Is 160 j Z (λah j=>?_) (λah j=>?_))))))
  .refine Go 2 Z (Bd j λbc ai j=>Iz ai Z (Go 1 Z (Bd j λbd aj j=>Iz aj Z (Go 4 Z (Is 169 j Z (λak j=>?_) (λak j=>?_))))))
   .refine Go 1 Z (Cz [] j (k_v _ _) Z λbe ar j=>Go 3 Z (Is 174 j Z (λal j=>?_) (λal j=>?_)))
    .exact Go 1 Z (Cz [] j (k_v _ _) Z λbg au j=>Go 4 Z (Cl j []))
    .exact Go 6 Z (Cl j [])
   .exact Go 11 Z (Cl j [])
  .exact Go 20 Z (Cl j [])
 exact Gx 1 Z (Ef m (Gc 1 Z (Rt h 0 [])))
def F_dz(n:Nat)(b:List Part)(rec199:(List Part)->Option Int)(a:Int×Int):Option (Ctl (Int×Int) Int):=
  ((bif decide (a.2<(b.length:Int))then some (decide (a.1<=256))else some false):Option Bool).bind λc=>(bif c then(idx b a.2).bind λd=>(rec199 d.Parts).bind λe=>some (.cont (IntKind.i64.wrap (a.1+e),IntKind.i64.wrap (a.2+1)))else some (.done a.1))
def B_t(rec199:(List Part)->Option Int)(n:Nat)(b:List Part):Option Int:=
  (iter (F_dz n b rec199) n ((b.length:Int),0):Option Int).bind λa=>some (if 257<a then 257 else a)
theorem QaZ(rec199:(List Part)->Option Int)(d:∀(e:List Part) (r:Int),rec199 e=some r->Csm prog 34 [.rsl 3 (List.map Part.enc e)] [] (λr=>I r) r)(n:Nat)(e:List Part)(r:Int)(h:B_t rec199 n e=some r):
    Csm prog 34 [.rsl 3 (List.map Part.enc e)] [] (λr=>I r) r:=by
 refine Qc func34 Z Z Z ?_;refine G0 8 Z (Lm Z (Go 9 Z (Bd h λb p h=>?_)));refine Ct b [] [] (λb=>[(3,I b)]) Ze Zf ?_ (λenv H f=>?_)
 .refine G0 1 Z ?_;refine Lp [] [0] (λg=>[(3,I g.1),(4,I g.2)]) Ze p Zf (Lr []) λg t a j=>?_;refine G0 2 Z (Bd a λi c a=>?_);refine Ct i [] [0,3,4] (λi=>[(14,.bool i)]) Ze Zf ?_ (λenv H f=>?_)
  .refine G0 3 Z (Lm Z (Go 2 Z (Is 11 c Z (λk c=>?_) (λk c=>?_))))
   .exact Go 4 Z (Cl c [])
   .exact Go 4 Z (Cl c [])
  refine Gx 1 Z (Ef f (Ja Z a (λl a=>?_) (λl a=>?_)))
  .refine Gc 2 Z (Qz a ?_);obtain rfl:=Oj j a;exact Gx 1 Z (QW (Lr []))
  exact Gc 8 Z (Bd a λq m a=>IzE m (YG q) Z (Go 2 Z (Cz [] a (d _) Z λu s a=>Go 10 Z (Qv a (Lr [])))))
 refine Gx 1 Z (Ef f (Gc 3 Z ?_));refine vX (I (if 257<b then 257 else b)) (OpV.min Z Z Z Z) ?_;exact Go 4 Z (Rt h 2 [])
def F_t:Nat->(List Part)->Option Int
  |0=>λ_=>none
  |n+1=>B_t (F_t n) n
theorem k_t(n:Nat):∀(a:List Part) (r:Int),F_t n a=some r->Csm prog 34 [.rsl 3 (List.map Part.enc a)] [] (λr=>I r) r:=by
  induction n with
  |zero=>intro a r h;cases h
  |succ n ih=>intro a r h;exact QaZ _ ih n a r h
def F_cl(n:Nat)(c:List Part)(d:Int)(rec200:(List Part)->Int->Option Int)(a:Int×Int):Option (Ctl (Int×Int) Int):=
  ((bif decide (a.2<(c.length:Int))then some (decide (0<d))else some false):Option Bool).bind λe=>(bif e then(idx c a.2).bind λf=>((bif ((f.Parts.length:Int) != 0)then(idx c a.2).bind λg=>(rec200 g.Parts (IntKind.i64.wrap (d-1))).bind λb=>some (if a.1<IntKind.i64.wrap (1+b)then IntKind.i64.wrap (1+b)else a.1)else some a.1):Option Int).bind λh=>some (.cont (h,IntKind.i64.wrap (a.2+1)))else some (.done a.1))
def B_s(rec200:(List Part)->Int->Option Int)(n:Nat)(b:List Part)(c:Int):Option Int:=
  (iter (F_cl n b c rec200) n (0,0):Option Int).bind λa=>some a
theorem QaY(rec200:(List Part)->Int->Option Int)(f:∀(g:List Part) (i:Int) (r:Int),rec200 g i=some r->Csm prog 35 [.rsl 3 (List.map Part.enc g),I i] [] (λr=>I r) r)(n:Nat)(g:List Part)(i:Int)(r:Int)(h:B_s rec200 n g i=some r):
    Csm prog 35 [.rsl 3 (List.map Part.enc g),I i] [] (λr=>I r) r:=by
 refine Qc func35 Z Z Z ?_;refine G0 16 Z (Bd h λj x h=>?_);refine Ct j [] [] (λj=>[(5,I j)]) Ze Zf ?_ (λenv H c=>?_)
 .refine G0 1 Z ?_;refine Lp [] [0,1] (λd=>[(5,I d.1),(6,I d.2)]) Ze x Zf (Lr []) λd E a p=>?_;refine G0 2 Z (Bd a λk e a=>?_);refine Ct k [] [0,1,5,6] (λk=>[(14,.bool k)]) Ze Zf ?_ (λenv H c=>?_)
  .refine G0 3 Z (Lm Z (Go 2 Z (Is 11 e Z (λq e=>?_) (λq e=>?_))))
   .exact Go 4 Z (Cl e [])
   .exact Go 4 Z (Cl e [])
  refine Gx 1 Z (Ef c (Ja Z a (λs a=>?_) (λs a=>?_)))
  .refine Gc 2 Z (Qz a ?_);obtain rfl:=Oj p a;exact Gx 1 Z (QW (Lr []))
  refine Gc 8 Z (Bd a λy t a=>IzE t (YG y) Z (Go 2 Z (Lm Z (Go 3 Z (Bd a λl b a=>?_)))));refine Ct l [] [0,1,6] (λl=>[(5,I l)]) Ze Zf ?_ (λenv H c=>?_)
  .refine G0 0 Z (Cn Z b (λu b=>?_) (λu b=>?_))
   .refine Gc 4 Z (Bd b λz w b=>IzE w (YG z) Z (Go 4 Z (Cz [] b (f _ _) Z λm B b=>Go 1 Z ?_)));refine vX (I (if d.1<IntKind.i64.wrap (1+m)then IntKind.i64.wrap (1+m)else d.1)) (OpV.max Z Z Z Z) ?_;exact Go 2 Z (Cl b [])
   exact Gc 1 Z (Cl b [])
  exact Gx 2 Z (Ef c (Gc 5 Z (Qv a (Lr []))))
 exact Gx 1 Z (Ef c (Gc 7 Z (Rt h 4 [])))
def F_s:Nat->(List Part)->Int->Option Int
  |0=>λ_ _=>none
  |n+1=>B_s (F_s n) n
theorem k_s(n:Nat):∀(a:List Part) (b:Int) (r:Int),F_s n a b=some r->Csm prog 35 [.rsl 3 (List.map Part.enc a),I b] [] (λr=>I r) r:=by
  induction n with
  |zero=>intro a b r h;cases h
  |succ n ih=>intro a b r h;exact QaY _ ih n a b r h
def F_dc(n:Nat)(a:Cond):Option Bool:=
  ((bif (a.Kind==0)then(bif (a.Var==0)then(bif (a.N==0)then some ((a.Parts.length:Int)==0)else some false)else some false)else some false):Option Bool).bind λb=>some b
theorem k_dc(n:Nat)(d:Cond)(r:Bool)(h:F_dc n d=some r):
    Csm prog 104 [.agg (Cond.c d)] [] (λr=>.bool r) r:=by
 refine Qc func104 Z Z Z ?_;refine G0 7 Z (Bd h λb a h=>?_);refine Ct b [] [] (λb=>[(2,.bool b)]) Ze Zf ?_ (λenv H e=>?_)
 .refine G0 5 Z (Is 6 a Z (λf a=>?_) (λf a=>?_))
  .refine Go 5 Z (Is 11 a Z (λg a=>?_) (λg a=>?_))
   .refine Go 5 Z (Is 16 a Z (λi a=>?_) (λi a=>?_))
    .exact Go 2 Z (Lm Z (Go 4 Z (Cl a [])))
    .exact Go 7 Z (Cl a [])
   .exact Go 12 Z (Cl a [])
  .exact Go 17 Z (Cl a [])
 exact Gx 1 Z (Ef e (Gc 1 Z (Rt h 2 [])))
def F_fa(n:Nat)(b:Cond)(f:Int)(rec204:Cond->Int->Option Int)(a:Int×Int):Option (Ctl (Int×Int) Int):=
  ((bif decide (a.2<(b.Parts.length:Int))then some (decide (a.1<=256))else some false):Option Bool).bind λc=>(bif c then(idx b.Parts a.2).bind λd=>(rec204 d (IntKind.i64.wrap (f+1))).bind λe=>some (.cont (IntKind.i64.wrap (a.1+e),IntKind.i64.wrap (a.2+1)))else some (.done a.1))
def B_l(rec204:Cond->Int->Option Int)(n:Nat)(c:Cond)(a:Int):Option Int:=
  (bif decide (16<a)then some 1000 else(iter (F_fa n c a rec204) n (1,0):Option Int).bind λb=>some b)
theorem Qal(rec204:Cond->Int->Option Int)(d:∀(e:Cond) (f:Int) (r:Int),rec204 e f=some r->Csm prog 105 [.agg (Cond.c e),I f] [] (λr=>I r) r)(n:Nat)(e:Cond)(f:Int)(r:Int)(h:B_l rec204 n e f=some r):
    Csm prog 105 [.agg (Cond.c e),I f] [] (λr=>I r) r:=by
 refine Qc func105 Z Z Z ?_;refine G0 13 Z (Cn Z h (λs h=>?_) (λs h=>?_))
 .exact Gc 7 Z (Rt h 4 [])
 refine Gc 13 Z (Bd h λg t h=>?_);refine Ct g [] [] (λg=>[(5,I g)]) Ze Zf ?_ (λenv H i=>?_)
 .refine G0 1 Z ?_;refine Lp [0] [1,2] (λj=>[(5,I j.1),(6,I j.2)]) Ze t Zf (Lr [0]) λj x a l=>?_;refine G0 2 Z (Bd a λk b a=>?_);refine Ct k [0] [1,2,5,6] (λk=>[(17,.bool k)]) Ze Zf ?_ (λenv H i=>?_)
  .refine G0 4 Z (Lm Z (Go 2 Z (Is 14 b Z (λm b=>?_) (λm b=>?_))))
   .exact Go 4 Z (Cl b [0])
   .exact Go 4 Z (Cl b [0])
  refine Gx 1 Z (Ef i (Ja Z a (λp a=>?_) (λp a=>?_)))
  .refine Gc 2 Z (Qz a ?_);obtain rfl:=Oj l a;exact Gx 1 Z (QW (Lr []))
  exact Gc 9 Z (Bd a λu q a=>IzE q (QaW u) Z (Go 3 Z (Cz [] a (d _ _) Z λy w a=>Go 10 Z (Qv a (Lr [0])))))
 exact Gx 1 Z (Ef i (Gc 7 Z (Rt h 4 [])))
def F_l:Nat->Cond->Int->Option Int
  |0=>λ_ _=>none
  |n+1=>B_l (F_l n) n
theorem k_l(n:Nat):∀(a:Cond) (b:Int) (r:Int),F_l n a b=some r->Csm prog 105 [.agg (Cond.c a),I b] [] (λr=>I r) r:=by
  induction n with
  |zero=>intro a b r h;cases h
  |succ n ih=>intro a b r h;exact Qal _ ih n a b r h
def F_gc(n:Nat)(b:List Step)(e:Int)(rec202:(List Step)->Int->Option (Int×Int))(a:Int×Int×Int):Option (Ctl (Int×Int×Int) (Int×Int)):=
  ((bif decide (a.2.2<(b.length:Int))then(bif decide (a.1<=64)then some (decide (a.2.1<=256))else some false)else some false):Option Bool).bind λf=>(bif f then(idx b a.2.2).bind λg=>(rec202 g.Then (IntKind.i64.wrap (e+1))).bind λc=>(idx b a.2.2).bind λh=>(rec202 h.Else (IntKind.i64.wrap (e+1))).bind λd=>(idx b a.2.2).bind λi=>(F_dc n i.Cond).bind λj=>((bif (!j)then(idx b a.2.2).bind λk=>(F_l n k.Cond 0).bind λl=>some (IntKind.i64.wrap ((IntKind.i64.wrap ((IntKind.i64.wrap (a.2.1+c.2))+d.2))+l))else some (IntKind.i64.wrap ((IntKind.i64.wrap (a.2.1+c.2))+d.2))):Option Int).bind λm=>some (.cont (IntKind.i64.wrap ((IntKind.i64.wrap ((IntKind.i64.wrap (a.1+1))+c.1))+d.1),m,IntKind.i64.wrap (a.2.2+1)))else some (.done (a.1,a.2.1)))
def B_n(rec202:(List Step)->Int->Option (Int×Int))(n:Nat)(b:List Step)(c:Int):Option (Int×Int):=
  ((bif decide (0<(b.length:Int))then some (decide (16<c))else some false):Option Bool).bind λb2=>(bif b2 then some (1000,1000)else(iter (F_gc n b c rec202) n (0,0,0):Option (Int×Int)).bind λa=>some (a.1,a.2))
theorem Qa6(rec202:(List Step)->Int->Option (Int×Int))(e:∀(i:List Step) (j:Int) (r:Int×Int),rec202 i j=some r->Csm prog 67 [.rsl 8 (List.map Step.enc i),I j] [] (λr=>.tup [I r.1,I r.2]) r)(n:Nat)(i:List Step)(j:Int)(r:Int×Int)(h:B_n rec202 n i j=some r):
    Csm prog 67 [.rsl 8 (List.map Step.enc i),I j] [] (λr=>.tup [I r.1,I r.2]) r:=by
 refine Qc func67 Z Z Z ?_;refine G0 8 Z (Bd h λb2 k h=>?_);refine Ct b2 [] [0,1] (λb2=>[(19,.bool b2)]) Ze Zf ?_ (λenv H d=>?_)
 .refine G0 2 Z (Lm Z (Go 2 Z (Is 16 k Z (λB k=>?_) (λB k=>?_))))
  .exact Go 4 Z (Cl k [])
  .exact Go 4 Z (Cl k [])
 refine Gx 1 Z (Ef d (Cn Z h (λE h=>?_) (λE h=>?_)))
 .refine Gc 8 Z ?_;obtain rfl:=Oi h;exact R2 4 5 Z Z (Lr [])
 refine Gc 18 Z (Bd h λf F h=>?_);refine Ct f [] [] (λf=>[(6,I f.1),(7,I f.2)]) Ze Zf ?_ (λenv H d=>?_)
 .refine G0 1 Z ?_;refine Lp [] [0,1] (λg=>[(6,I g.1),(7,I g.2.1),(8,I g.2.2)]) Ze F Zf (Lr []) λg R a p=>?_;refine G0 2 Z (Bd a λl b a=>?_);refine Ct l [] [0,1,6,7,8] (λl=>[(31,.bool l)]) Ze Zf ?_ (λenv H d=>?_)
  .refine G0 3 Z (Lm Z (Go 2 Z (Is 24 b Z (λq b=>?_) (λq b=>?_))))
   .refine Go 4 Z (Is 28 b Z (λs b=>?_) (λs b=>?_))
    .exact Go 4 Z (Cl b [])
    .exact Go 4 Z (Cl b [])
   .exact Go 8 Z (Cl b [])
  refine Gx 1 Z (Ef d (Ja Z a (λt a=>?_) (λt a=>?_)))
  .refine Gc 2 Z (Qz a ?_);obtain rfl:=Oj p a;exact Gx 1 Z (QW (Lr []))
  refine Gc 8 Z (Bd a λG u a=>IzE u (YF G) Z (Go 4 Z (Cd [] a (e _ _) Z λT N a=>FE Z (Go 11 Z (Bd a λJ w a=>IzE w (YF J) Z (Go 4 Z (Cd [] a (e _ _) Z λV O a=>FE Z (Go 32 Z (Bd a λL x a=>IzE x (YF L) Z (Go 2 Z (Cz [] a (k_dc _ _) Z λW P a=>Go 3 Z (Bd a λm c a=>?_))))))))))));refine Ct m [] [0,1,6,8] (λm=>[(7,I m)]) Ze Zf ?_ (λenv H d=>?_)
  .refine G0 0 Z (Cn Z c (λy c=>?_) (λy c=>?_))
   .exact Gc 4 Z (Bd c λM z c=>IzE z (YF M) Z (Go 2 Z (Cz [] c (k_l _ _ _) Z λX Q c=>Go 3 Z (Cl c []))))
   exact Gc 1 Z (Cl c [])
  exact Gx 2 Z (Ef d (Gc 5 Z (Qv a (Lr []))))
 refine Gx 1 Z (Ef d (Gc 9 Z ?_));obtain rfl:=Oi h;exact R2 4 5 Z Z (Lr [])
def F_n:Nat->(List Step)->Int->Option (Int×Int)
  |0=>λ_ _=>none
  |n+1=>B_n (F_n n) n
theorem k_n(n:Nat):∀(a:List Step) (b:Int) (r:Int×Int),F_n n a b=some r->Csm prog 67 [.rsl 8 (List.map Step.enc a),I b] [] (λr=>.tup [I r.1,I r.2]) r:=by
  induction n with
  |zero=>intro a b r h;cases h
  |succ n ih=>intro a b r h;exact Qa6 _ ih n a b r h
def F_bx(n:Nat)(a:List Step):Option Bool:=
  (F_n n a 0).bind λb=>((bif decide ((a.length:Int)<=20)then(bif decide (b.1<=80)then some (decide (b.2<=300))else some false)else some false):Option Bool).bind λc=>some c
theorem k_bx(n:Nat)(c:List Step)(r:Bool)(h:F_bx n c=some r):
    Csm prog 36 [.rsl 8 (List.map Step.enc c)] [] (λr=>.bool r) r:=by
 refine Qc func36 Z Z Z ?_;refine G0 8 Z (Cd [] h (k_n _ _ _) Z λi g h=>FE Z (Go 8 Z (Bd h λb a h=>?_)));refine Ct b [] [] (λb=>[(2,.bool b)]) Ze Zf ?_ (λenv H d=>?_)
 .refine G0 2 Z (Lm Z (Go 2 Z (Is 13 a Z (λe a=>?_) (λe a=>?_))))
  .refine Go 4 Z (Is 17 a Z (λf a=>?_) (λf a=>?_))
   .exact Go 5 Z (Cl a [])
   .exact Go 5 Z (Cl a [])
  .exact Go 9 Z (Cl a [])
 exact Gx 1 Z (Ef d (Gc 1 Z (Rt h 2 [])))
def F_bp(n:Nat)(b:Course)(a:Int×Int):Option (Ctl (Int×Int) (Ctl Int Bool)):=
  ((bif decide (a.2<(b.Distances.length:Int))then some (decide (a.1<=200))else some false):Option Bool).bind λc=>(bif c then(idx b.Distances a.2).bind λd=>(idx b.Distances a.2).bind λe=>(F_t n e.Route).bind λf=>(idx b.Distances a.2).bind λg=>(F_s n g.Route 17).bind λh=>(bif decide (16<h)then some (.done (.done false))else some (.cont (IntKind.i64.wrap ((IntKind.i64.wrap (a.1+(d.Cutoffs.length:Int)))+f),IntKind.i64.wrap (a.2+1))))else some (.done (.cont a.1)))
def F_cr(n:Nat)(a:Course):Option Bool:=
  (iter (F_bp n a) n (IntKind.i64.wrap ((IntKind.i64.wrap ((IntKind.i64.wrap ((IntKind.i64.wrap ((IntKind.i64.wrap ((IntKind.i64.wrap ((a.Mats.length:Int)+(a.Legs.length:Int)))+(a.Distances.length:Int)))+(a.Waves.length:Int)))+(a.Offences.length:Int)))+(a.Categories.length:Int)))+(a.Prizes.length:Int)),0):Option (Ctl Int Bool)).bind λc=>match c with|.cont b=>(((bif decide (b<=200)then(bif decide ((a.Name.length:Int)<=100)then(F_bx n a.Ties).bind λd=>some d else some false)else some false):Option Bool).bind λe=>some e)|.done b=>some b
theorem k_cr(n:Nat)(q:Course)(r:Bool)(h:F_cr n q=some r):
    Csm prog 12 [.agg (Course.c q)] [] (λr=>.bool r) r:=by
 refine Qc func12 Z Z Z ?_;refine G0 10 Z (Lm Z (Go 2 Z (Lm Z (Go 3 Z (Lm Z (Go 3 Z (Lm Z (Go 3 Z (Lm Z (Go 3 Z (Lm Z (Go 3 Z (Lm Z (Go 10 Z (Bd h λF G h=>?_)))))))))))))));refine CtE (b:=F) [0] [1] (λj=>[(3,I j)]) Ze Zf ?_ (λj env H J f=>?_)
 .refine G0 1 Z ?_;refine Lp [0] [1] (λk=>[(3,I k.1),(4,I k.2)]) Ze G Zf (Lr [0]) λk O a l=>?_;refine G0 2 Z (Bd a λm g a=>?_);refine Ct m [0] [1,3,4] (λm=>[(40,.bool m)]) Ze Zf ?_ (λenv H f=>?_)
  .refine G0 4 Z (Lm Z (Go 2 Z (Is 37 g Z (λs g=>?_) (λs g=>?_))))
   .exact Go 4 Z (Cl g [0])
   .exact Go 4 Z (Cl g [0])
  refine Gx 1 Z (Ef f (Ja Z a (λt a=>?_) (λt a=>?_)))
  .refine Gc 2 Z (Qz a ?_);obtain rfl:=Oj l a;exact Gx 1 Z (QD Z (Lr [0]))
  refine Gc 5 Z (DSs 16 Z (D 4 Z ?_));obtain⟨e,u,a⟩:=YN a;refine DS.wo (x:=.rp [.str e.Name,.rsl 3 (List.map Part.enc e.Route),I e.Timing,.rsl 3 (List.map Cutoff.c e.Cutoffs),I e.Extra]) ?_ ?_
  .exact Ix u runUnderlying24 sizeOf111 Z Wp
  refine D 2 Z ?_;refine DS.wo (x:=I (e.Cutoffs.length:Int)) ?_ ?_
  .exact LnM runUnderlying109 Z Wp
  refine D 4 Z ?_;obtain⟨i,w,a⟩:=YN a;refine DS.wo (x:=.rp [.str i.Name,.rsl 3 (List.map Part.enc i.Route),I i.Timing,.rsl 3 (List.map Cutoff.c i.Cutoffs),I i.Extra]) ?_ ?_
  .exact Ix w runUnderlying24 sizeOf111 Z Wp
  refine D 2 Z ?_;refine Dz [] a (k_t _ _) Z λP L a=>Eh Z (Go 9 Z (Bd a λQ y a=>Iz y Z (Go 2 Z (Cz [] a (k_s _ _ _) Z λR M a=>Go 3 Z (Cn Z a (λz a=>?_) (λz a=>?_))))))
  .refine Gc 8 Z (Q4 a ?_);obtain rfl:=Oj l a;exact Gx 1 Z (QR (Gx 1 Z (Rt h 2 [])))
  exact Gc 8 Z (Qv a (Lr [0]))
 subst J;refine Gx 1 Z (Ef f (Gc 1 Z (Bd h λp d h=>?_)));refine Ct p [] [] (λp=>[(2,.bool p)]) Ze Zf ?_ (λenv H f=>?_)
 .refine G0 4 Z (Is 70 d Z (λB d=>?_) (λB d=>?_))
  .refine Go 2 Z ?_;refine vX (I (q.Name.length:Int)) (QaN Z Z runUnderlying9 Z) ?_ (gT Z);refine Go 3 Z (Is 76 d Z (λE d=>?_) (λE d=>?_))
   .exact Go 2 Z (Cz [] d (k_bx _ _) Z λT N d=>Go 3 Z (Cl d []))
   .exact Go 6 Z (Cl d [])
  .exact Go 12 Z (Cl d [])
 exact Gx 1 Z (Ef f (Gc 1 Z (Rt h 2 [])))
def F_ha(n:Nat)(b:(List (List Int))×(List Int)×Int)(a:Int):Option (Ctl Int (Ctl Unit ((List (List Int))×Int))):=
  (bif decide (a<(b.1.length:Int))then(idx b.1 a).bind λc=>((idx c 0).bind λd=>(bif (d==1152921504606846976)then some true else(idx b.1 0).bind λe=>(idx e a).bind λf=>some (f==1152921504606846976)):Option Bool).bind λg=>(bif g then some (.done (.done ([],2)))else some (.cont (IntKind.i64.wrap (a+1))))else some (.done (.cont ())))
def F_cd(n:Nat)(d:System)(c:Int)(e:Int):Option ((List (List Int))×Int):=
  (F_ad n d).bind λa=>(bif (a.2.2 != 0)then some ([],a.2.2)else((bif decide (c<0)then some true else some (decide (d.Vertices<=c))):Option Bool).bind λl=>(bif l then some ([],1)else(iter (F_ha n a) n 0:Option (Ctl Unit ((List (List Int))×Int))).bind λf=>match f with|.cont b=>(((idx a.1 c).bind λg=>(idx g 0).bind λh=>(bif decide (e<(IntKind.i64.wrap (0-h)))then some true else(idx a.1 0).bind λi=>(idx i c).bind λj=>some (decide (j<e))):Option Bool).bind λk=>(bif k then some ([],1)else some (a.1,0)))|.done b=>some b))
theorem k_cd(n:Nat)(M:System)(N:Int)(O:Int)(r:(List (List Int))×Int)(h:F_cd n M N O=some r):
    Csm prog 66 [.agg (System.c M),I N,I O] [] (λr=>.tup [.rsl 1 (List.map (Qn 1 (Qe .i64)) r.1),I r.2]) r:=by
 refine Qc func66 Z Z Z ?_;refine G0 10 Z (Cd [] h (k_ad _ _) Z λr1 Y h=>FE Z (Go 15 Z (Cn Z h (λP h=>?_) (λP h=>?_))))
 .refine Gc 9 Z ?_;obtain rfl:=Oi h;refine R2 6 7 Z Z ?_;refine En (Qb2 (s:=6) (k:=1) Z) ?_;exact Lr []
 refine Gc 4 Z (Bd h λp g h=>?_);refine Ct p [] [1,2,6] (λp=>[(26,.bool p)]) Ze Zf ?_ (λenv H f=>?_)
 .refine G0 4 Z (Is 21 g Z (λQ g=>?_) (λQ g=>?_))
  .exact Go 6 Z (Cl g [])
  .exact Go 6 Z (Cl g [])
 refine Gx 1 Z (Ef f (Cn Z h (λR h=>?_) (λR h=>?_)))
 .refine Gc 8 Z ?_;obtain rfl:=Oi h;refine R2 6 7 Z Z ?_;refine En (Qb2 (s:=6) (k:=1) Z) ?_;exact Lr []
 refine Gc 6 Z (Lm Z (Go 3 Z (Bd h λT V h=>?_)));refine CtE (b:=T) [] [1,2,6] Ze Ze Zf ?_ (λX env H W f=>?_)
 .refine G0 1 Z ?_;refine Lp [] [1,2,6,27,28] (λm=>[(29,I m)]) Ze V Zf (Lr []) λm aa a i=>?_;refine G0 6 Z (Ja Z a (λq a=>?_) (λq a=>?_))
  .refine Gc 2 Z (Qz a ?_);obtain rfl:=Oj i a;exact Gx 1 Z (QD Z (Lr []))
  refine Gc 7 Z (Bd a λab t a=>Iz t Z (Go 6 Z (Bd a λj e a=>?_)));refine Ct j [] [1,2,6,27,28,29] (λj=>[(46,.bool j)]) Ze Zf ?_ (λenv H f=>?_)
  .refine G0 2 Z (Bd e λac u e=>Iz u Z (Go 3 Z (Is 38 e Z (λw e=>?_) (λw e=>?_))))
   .exact Go 9 Z (Cl e [])
   .exact Go 1 Z (Bd e λad x e=>Iz x Z (Go 2 Z (Bd e λae y e=>Iz y Z (Go 4 Z (Cl e [])))))
  refine Gx 1 Z (Ef f (Cn Z a (λz a=>?_) (λz a=>?_)))
  .refine Gc 9 Z (Q4 a ?_);obtain rfl:=Oj i a;refine Gx 1 Z (QR (Gx 1 Z ?_));obtain rfl:=Oi h;refine R2 6 7 Z Z ?_;refine En (Qb2 (s:=6) (k:=1) Z) ?_;exact Lr []
  exact Gc 7 Z (Qv a (Lr []))
 subst W;refine Gx 1 Z (Ef f (Gc 2 Z (Bd h λl d h=>?_)));refine Ct l [] [6] (λl=>[(66,.bool l)]) Ze Zf ?_ (λenv H f=>?_)
 .refine G0 4 Z (Bd d λaf B d=>Iz B Z (Go 1 Z (Bd d λag E d=>Iz E Z (Go 4 Z (Is 57 d Z (λF d=>?_) (λF d=>?_))))))
  .exact Go 10 Z (Cl d [])
  .exact Go 2 Z (Bd d λah G d=>Iz G Z (Go 2 Z (Bd d λai J d=>Iz J Z (Go 4 Z (Cl d [])))))
 refine Gx 1 Z (Ef f (Cn Z h (λL h=>?_) (λL h=>?_)))
 .refine Gc 8 Z ?_;obtain rfl:=Oi h;refine R2 6 7 Z Z ?_;refine En (Qb2 (s:=6) (k:=1) Z) ?_;exact Lr []
 refine Gc 10 Z ?_;obtain rfl:=Oi h;exact R2 6 7 Z Z (Lr [])
def F_hl(n:Nat)(i:Int)(e:Int)(d:(List (List Int))×Int)(a:(List Int)×Int):Option (Ctl ((List Int)×Int) (List Int)):=
  (bif decide (a.2<(d.1.length:Int))then(idx d.1 0).bind λf=>(idx f a.2).bind λb=>(idx d.1 i).bind λg=>(idx g a.2).bind λc=>(app a.1 [(if IntKind.i64.wrap (e+c)<b then IntKind.i64.wrap (e+c)else b)]).bind λh=>some (.cont (h,IntKind.i64.wrap (a.2+1)))else some (.done a.1))
def F_ci(n:Nat)(e:System)(b:Int)(c:Int):Option ((List Int)×Int):=
  (F_cd n e b c).bind λa=>(bif (a.2 != 0)then some ([],a.2)else(iter (F_hl n b c a) n ([],0):Option (List Int)).bind λd=>some (d,0))
theorem k_ci(n:Nat)(y:System)(z:Int)(f:Int)(r:(List Int)×Int)(h:F_ci n y z f=some r):
    C prog 31 [.agg (System.c y),I z,I f] [] (RQ (λr=>.tup [.osl 0 0 r.1.length 1,I r.2]) (λr=>[.row 3 1 (List.map (Qe .i64) r.1)]) r):=by
 refine Qc func31 Z Z Z ?_;refine G0 12 Z (Cd [] h (k_cd _ _ _ _) Z λO L h=>FE Z (Go 14 Z (Cn Z h (λB h=>?_) (λB h=>?_))))
 .refine Gc 9 Z ?_;obtain rfl:=Oi h;refine R2 6 7 Z Z ?_;refine En (Er (s:=6) (k:=1) (t:=3) (XR Z) Z) ?_;exact Lr [1]
 refine Gc 6 Z (Lm Z (Go 3 Z (Bd h λg E h=>?_)));refine Ct g [0] [] (λg=>[(6,.osl 0 0 g.length 1)]) (λg=>[(0,.row 3 1 (List.map (Qe .i64) g))]) Zf ?_ (λenv H F=>?_)
 .refine G0 1 Z ?_;refine Lp [0] [1,2,8,21] (λi=>[(6,.osl 0 0 i.1.length 1),(22,I i.2)]) (λi=>[(0,.row 3 1 (List.map (Qe .i64) i.1))]) E Zf ?_ ?_
  .refine En (Er (s:=6) (k:=1) (t:=3) (XR Z) Z) ?_;exact Lr [1]
  intro i M a j;refine G0 6 Z (Ja Z a (λl a=>?_) (λl a=>?_))
  .refine Gc 2 Z (Qz a ?_);obtain rfl:=Oj j a;exact Gx 1 Z (QW (Lr [0]))
  refine Gc 10 Z (DSs 18 Z (D 2 Z ?_));obtain⟨G,m,a⟩:=YN a;refine DS.wo (x:=.rp [.rsl 1 (List.map (Qe .i64) G)]) ?_ ?_
  .exact Ix m runUnderlying56 sizeOf66 Z Wp
  refine D 2 Z ?_;obtain⟨b,p,a⟩:=YN a;refine DS.wo (x:=.rp [I b]) ?_ ?_
  .exact Ix p runUnderlying66 sizeOf3 Z Wp
  refine D 4 Z ?_;obtain⟨J,q,a⟩:=YN a;refine DS.wo (x:=.rp [.rsl 1 (List.map (Qe .i64) J)]) ?_ ?_
  .exact Ix q runUnderlying56 sizeOf66 Z Wp
  refine D 2 Z ?_;obtain⟨d,u,a⟩:=YN a;refine DS.wo (x:=.rp [I d]) ?_ ?_
  .exact Ix u runUnderlying66 sizeOf3 Z Wp
  refine D 2 Z ?_;refine DS.v (x:=(I (if IntKind.i64.wrap (f+d)<b then IntKind.i64.wrap (f+d)else b))) (OpV.min Z Z Z Z) ?_;refine DS.wo (x:=.rsl 1 (List.map (Qe .i64) [(if IntKind.i64.wrap (f+d)<b then IntKind.i64.wrap (f+d)else b)])) ?_ ?_
  .refine vH (YR (xs:=[.tmp 41]) (es:=List.map (Qe .i64) [(if IntKind.i64.wrap (f+d)<b then IntKind.i64.wrap (f+d)else b)]) QS Z Z Z Z Z ⟨Z,trivial⟩ Z Z) ?_;exact FE Z Wp
  refine Eh Z (Bd a λN w a=>?_);refine vH (Yp (e:=(Qe .i64)) w QS runUnderlying66 Qcr) ?_;exact FE Z (Go 8 Z (Qv a (Lr [1])))
 refine Gx 1 Z (Ef F (Gc 8 Z ?_));obtain rfl:=Oi h;exact R2 6 7 Z Z (Lr [0])
def F_ax(n:Nat)(a:Int):Option Bool:=
  ((bif decide (a<(-1152921504606846976))then some true else some (decide (1152921504606846976<a))):Option Bool).bind λb2=>some b2
theorem k_ax(n:Nat)(b:Int)(r:Bool)(h:F_ax n b=some r):
    Csm prog 63 [I b] [] (λr=>.bool r) r:=by
 refine Qc func63 Z Z Z ?_;refine G0 6 Z (Bd h λb2 a h=>?_);refine Ct b2 [] [] (λb2=>[(2,.bool b2)]) Ze Zf ?_ (λenv H c=>?_)
 .refine G0 4 Z (Is 5 a Z (λd a=>?_) (λd a=>?_))
  .exact Go 5 Z (Cl a [])
  .exact Go 5 Z (Cl a [])
 exact Gx 1 Z (Ef c (Gc 1 Z (Rt h 2 [])))
def F_ie(n:Nat)(b:List Int)(a:Int):Option (Ctl Int (Ctl Unit Int)):=
  (bif decide (a<(b.length:Int))then(idx b a).bind λc=>(F_ax n c).bind λd=>(bif d then some (.done (.done a))else some (.cont (IntKind.i64.wrap (a+1))))else some (.done (.cont ())))
def F_ft(n:Nat)(c:List Int):Option Int:=
  (iter (F_ie n c) n 0:Option (Ctl Unit Int)).bind λb=>match b with|.cont a=>(some (-1))|.done a=>some a
theorem k_ft(n:Nat)(a:List Int)(r:Int)(h:F_ft n a=some r):
    Csm prog 99 [.rsl 1 (List.map (Qe .i64) a),.fn (.func 63) [] []] [] (λr=>I r) r:=
 QU (el:=λx=>I x) (g:=λx=>F_ax n x) func99 Z Z Z runUnderlying66 sizeOf3 (λ_ _ _ _ b c=>Ey b isAgg3 c Pts.rp) call63 (λ_ _ h=>k_ax _ _ _ h) h
def F_fm(n:Nat)(a:List Int):Option Bool:=
  (F_ft n a).bind λb=>some (decide (0<=b))
theorem k_fm(n:Nat)(a:List Int)(r:Bool)(h:F_fm n a=some r):
    Csm prog 57 [.rsl 1 (List.map (Qe .i64) a),.fn (.func 63) [] []] [] (λr=>.bool r) r:=by
 refine Qc func57 Z Z Z ?_;exact G0 9 Z (Cz [] h (k_ft _ _) Z λc b h=>Go 5 Z (Rt h 4 []))
def F_ay(n:Nat)(a:Edge)(b:List Int):Option Bool:=
  (idx b a.To).bind λc=>(idx b a.From).bind λd=>some (decide ((IntKind.i64.wrap (d+a.W))<c))
theorem k_ay(n:Nat)(a:Edge)(b:List Int)(r:Bool)(h:F_ay n a b=some r):
    Csm prog 64 [.agg (Edge.c a),.ptr 0 0] [.cells 66 [.rsl 1 (List.map (Qe .i64) b)]] (λr=>.bool r) r:=by
 refine Qc func64 Z Z Z ?_;refine G0 7 Z (DSs 13 Z (D 3 Z ?_));obtain⟨f,d,h⟩:=YN h;refine DS.wo (x:=.rp [I f]) ?_ ?_
 .exact Ix d runUnderlying66 sizeOf3 Z Wp
 refine D 4 Z ?_;obtain⟨g,e,h⟩:=YN h;refine DS.wo (x:=.rp [I g]) ?_ ?_
 .exact Ix e runUnderlying66 sizeOf3 Z Wp
 exact D 4 Z (Eh Z (Go 5 Z (Rt h 3 [0])))
def F_ix(n:Nat)(b:List Edge)(e:List Int)(a:Int):Option (Ctl Int (Ctl Unit Int)):=
  (bif decide (a<(b.length:Int))then(idx b a).bind λc=>(F_ay n c e).bind λd=>(bif d then some (.done (.done a))else some (.cont (IntKind.i64.wrap (a+1))))else some (.done (.cont ())))
def F_du(n:Nat)(c:List Edge)(d:List Int):Option Int:=
  (iter (F_ix n c d) n 0:Option (Ctl Unit Int)).bind λb=>match b with|.cont a=>(some (-1))|.done a=>some a
theorem k_du(n:Nat)(b:List Edge)(a:List Int)(r:Int)(h:F_du n b a=some r):
    Csm prog 103 [.rsl 3 (List.map Edge.c b),.fn (.func 64) [] [.ptr 0 0]] [.cells 66 [.rsl 1 (List.map (Qe .i64) a)]] (λr=>I r) r:=
 QU (el:=λx=>.agg (Edge.c x)) (g:=λx=>F_ay n x a) func103 Z Z Z runUnderlying49 sizeOf70 (λ_ _ _ _ d e=>Qu d isAgg70 sizeOf70 e Pts.rp Z Z) call64 (λ_ _ h=>k_ay _ _ _ _ h) h
def F_eo(n:Nat)(a:List Edge)(b:List Int):Option Bool:=
  (F_du n a b).bind λc=>some (decide (0<=c))
theorem k_eo(n:Nat)(a:List Edge)(b:List Int)(r:Bool)(h:F_eo n a b=some r):
    Csm prog 65 [.rsl 3 (List.map Edge.c a),.fn (.func 64) [] [.ptr 0 0]] [.cells 66 [.rsl 1 (List.map (Qe .i64) b)]] (λr=>.bool r) r:=by
 refine Qc func65 Z Z Z ?_;exact G0 9 Z (Cz [0] h (k_du _ _ _) Z λe d h=>Go 5 Z (Rt h 4 [0]))
def F_ap(n:Nat)(b:System)(a:List Int):Option (Bool×Int):=
  (F_am n b).bind λc=>(bif (c != 0)then some (false,c)else((bif ((a.length:Int) != b.Vertices)then some true else(idx a 0).bind λd=>(bif (d != 0)then some true else(F_fm n a).bind λe=>some e)):Option Bool).bind λg=>(bif g then some (false,0)else(F_eo n b.Edges a).bind λf=>some ((!f),0)))
theorem k_ap(n:Nat)(g:System)(i:List Int)(r:Bool×Int)(h:F_ap n g i=some r):
    Csm prog 30 [.agg (System.c g),.rsl 1 (List.map (Qe .i64) i)] [] (λr=>.tup [.bool r.1,I r.2]) r:=by
 refine Qc func30 Z Z Z ?_;refine G0 3 Z ?_;refine vH (OpH.box Z Z Z Z Z) ?_;refine FE Z (Go 8 Z (Cz [] h (k_am _ _) Z λw q h=>Go 9 Z (Cn Z h (λj h=>?_) (λj h=>?_))))
 .refine Gc 9 Z ?_;obtain rfl:=Oi h;exact R2 4 5 Z Z (Lr [])
 refine Gc 9 Z (Bd h λb a h=>?_);refine Ct b [0,1] [2,3] (λb=>[(29,.bool b)]) Ze Zf ?_ (λenv H k=>?_)
 .refine G0 2 Z (Lm Z (Go 4 Z (Is 19 a Z (λl a=>?_) (λl a=>?_))))
  .exact Go 11 Z (Cl a [0,1])
  .refine Go 1 Z (Bd a λs d a=>Iz d Z (Go 4 Z (Is 25 a Z (λe a=>?_) (λe a=>?_))))
   .exact Go 5 Z (Cl a [0,1])
   .exact Go 2 Z (Cz [] a (k_fm _ _) Z λt m a=>Go 2 Z (Cl a [0,1]))
 refine Gx 1 Z (Ef k (Cn Z h (λf h=>?_) (λf h=>?_)))
 .refine Gc 8 Z ?_;obtain rfl:=Oi h;exact R2 4 5 Z Z (Lr [])
 refine Gc 13 Z (Cz [1] h (k_eo _ _ _) Z λu p h=>Go 6 Z ?_);obtain rfl:=Oi h;exact R2 4 5 Z Z (Lr [])
def F_hc(n:Nat)(d:Int)(a:(List Segment)×(List (List Int))×Int)(c:(List Int)×Int)(b:Int):Option (Ctl Int (Ctl Unit Bool)):=
  (bif decide (b<(IntKind.i64.wrap ((a.1.length:Int)+1)))then(idx c.1 b).bind λe=>(idx c.1 (IntKind.i64.wrap (Int.tmod d (IntKind.u64.wrap (IntKind.i64.wrap ((a.1.length:Int)+1)))))).bind λf=>(idx a.2.1 (IntKind.i64.wrap (Int.tmod d (IntKind.u64.wrap (IntKind.i64.wrap ((a.1.length:Int)+1)))))).bind λg=>(idx g b).bind λh=>(bif ((IntKind.i64.wrap (e-f)) != h)then some (.done (.done false))else some (.cont (IntKind.i64.wrap (b+1))))else some (.done (.cont ())))
def F_gs(n:Nat)(j:List Int)(c:(List Segment)×(List (List Int))×Int)(b:Int)(a:Int):Option (Ctl Int (Ctl Unit (Ctl Int (Ctl Unit Bool)))):=
  (bif decide (a<(IntKind.i64.wrap ((c.1.length:Int)+1)))then((idx c.2.1 b).bind λd=>(bif ((d.length:Int) != (IntKind.i64.wrap ((c.1.length:Int)+1)))then some true else(idx j a).bind λe=>(idx j b).bind λf=>(idx c.2.1 b).bind λg=>(idx g a).bind λh=>some (decide (h<(IntKind.i64.wrap (e-f))))):Option Bool).bind λi=>(bif i then some (.done (.done (.done (.done false))))else some (.cont (IntKind.i64.wrap (a+1))))else some (.done (.cont ())))
def F_he(n:Nat)(e:List Int)(c:(List Segment)×(List (List Int))×Int)(a:Int):Option (Ctl Int (Ctl Unit Bool)):=
  (bif decide (a<(IntKind.i64.wrap ((c.1.length:Int)+1)))then(iter (F_gs n e c a) n 0:Option (Ctl Unit (Ctl Int (Ctl Unit Bool)))).bind λd=>match d with|.cont b=>(some (.cont (IntKind.i64.wrap (a+1))))|.done b=>some b else some (.done (.cont ())))
def F_fn(n:Nat)(i:Course)(j:List Fact)(f:Int)(k:List Int):Option Bool:=
  (F_fj 300).bind λB=>(bif (!B)then some false else((F_cr n i).bind λE=>(bif (!E)then some true else some (decide (14<(j.length:Int)))):Option Bool).bind λF=>(bif F then some true else(F_f n i j).bind λa=>(F_y n i j).bind λb=>(bif (a.2.2 != 0)then((bif ((a.1.length:Int)==0)then(bif (b.2.2==a.2.2)then some true else(bif (b.2.2==0)then some (a.2.2==160)else some false))else some false):Option Bool).bind λm=>some m else((bif (b.2.2 != 0)then some true else(F_v n ({Segments:=a.1,Far:=a.2.1:Clocks})).bind λp=>(bif (p != 0)then some true else(bif (b.1 != (IntKind.i64.wrap ((a.1.length:Int)+1)))then some true else some ((a.2.1.length:Int) != (IntKind.i64.wrap ((a.1.length:Int)+1)))))):Option Bool).bind λq=>(bif q then some false else(nz (IntKind.u64.wrap (IntKind.i64.wrap ((a.1.length:Int)+1)))).bind λG=>((idx a.2.1 (IntKind.i64.wrap (Int.tmod f (IntKind.u64.wrap (IntKind.i64.wrap ((a.1.length:Int)+1)))))).bind λr=>(bif ((r.length:Int) != (IntKind.i64.wrap ((a.1.length:Int)+1)))then some true else(idx a.2.1 0).bind λs=>some ((s.length:Int) != (IntKind.i64.wrap ((a.1.length:Int)+1)))):Option Bool).bind λt=>(bif t then some false else(idx a.2.1 (IntKind.i64.wrap (Int.tmod f (IntKind.u64.wrap (IntKind.i64.wrap ((a.1.length:Int)+1)))))).bind λu=>(idx u 0).bind λw=>(F_ci n ({Vertices:=b.1,Edges:=b.2.1:System}) (IntKind.i64.wrap (Int.tmod f (IntKind.u64.wrap (IntKind.i64.wrap ((a.1.length:Int)+1))))) (IntKind.i64.wrap (0-w))).bind λc=>(F_ap n ({Vertices:=b.1,Edges:=b.2.1:System}) c.1).bind λg=>((bif (c.2 != 0)then some true else(bif (g.2 != 0)then some true else(bif (!g.1)then some true else some ((c.1.length:Int) != (IntKind.i64.wrap ((a.1.length:Int)+1)))))):Option Bool).bind λx=>(bif x then some false else(iter (F_hc n f a c) n 0:Option (Ctl Unit Bool)).bind λy=>match y with|.cont e=>((F_ap n ({Vertices:=b.1,Edges:=b.2.1:System}) k).bind λh=>((bif (!h.1)then some true else(bif (h.2 != 0)then some true else some ((k.length:Int) != (IntKind.i64.wrap ((a.1.length:Int)+1))))):Option Bool).bind λz=>(bif z then some true else(iter (F_he n k a) n 0:Option (Ctl Unit Bool)).bind λl=>match l with|.cont d=>(some true)|.done d=>some d))|.done e=>some e))))))
theorem k_fn(n:Nat)(a1:Course)(a2:List Fact)(E:Int)(a4:List Int)(r:Bool)(h:F_fn n a1 a2 E a4=some r):
    Csm prog 10 [.agg (Course.c a1),.rsl 57 (List.map Fact.c a2),.int .u64 E,.rsl 1 (List.map (Qe .i64) a4)] [] (λr=>.bool r) r:=by
 refine Qc func10 Z Z Z ?_;refine G0 9 Z (Cz [] h (k_fj _) Z λr1 cr h=>Go 3 Z (Cn Z h (λbw h=>?_) (λbw h=>?_)))
 .exact Gc 7 Z (Rt h 8 [])
 refine Gc 4 Z (Bd h λb5 u h=>?_);refine Ct b5 [0] [1,2,3,4] (λb5=>[(33,.bool b5)]) Ze Zf ?_ (λenv H d=>?_)
 .refine G0 2 Z (Cz [] u (k_cr _ _) Z λr7 cs u=>Go 2 Z (Is 29 u Z (λbx u=>?_) (λbx u=>?_)))
  .exact Go 5 Z (Cl u [0])
  .exact Go 1 Z (Lm Z (Go 3 Z (Cl u [0])))
 refine Gx 1 Z (Ef d (Cn Z h (λbz h=>?_) (λbz h=>?_)))
 .exact Gc 7 Z (Rt h 8 [])
 refine Gc 6 Z (Cd [] h (k_f _ _ _) Z λs ck h=>FE Z (Go 12 Z (Cd [] h (k_y _ _ _) Z λak cl h=>FE Z (Go 15 Z (Cn Z h (λal h=>?_) (λal h=>?_))))))
 .refine Gc 1 Z (Bd h λF k h=>?_);refine Ct F [] [] (λF=>[(8,.bool F)]) Ze Zf ?_ (λenv H d=>?_)
  .refine G0 3 Z (Lm Z (Go 2 Z (Is 52 k Z (λam k=>?_) (λam k=>?_))))
   .refine Go 4 Z (Is 56 k Z (λan k=>?_) (λan k=>?_))
    .exact Go 10 Z (Cl k [])
    .refine Go 3 Z (Is 59 k Z (λao k=>?_) (λao k=>?_))
     .exact Go 7 Z (Cl k [])
     .exact Go 7 Z (Cl k [])
   .exact Go 14 Z (Cl k [])
  exact Gx 1 Z (Ef d (Gc 2 Z (Rt h 8 [])))
 refine Gc 6 Z (Lm Z (Go 6 Z (Bd h λG i h=>?_)));refine Ct G [2,4] [2,3,9,11,13] (λG=>[(88,.bool G)]) Ze Zf ?_ (λenv H d=>?_)
 .refine G0 4 Z (Is 71 i Z (λaq i=>?_) (λaq i=>?_))
  .exact Go 18 Z (Cl i [2,4])
  .refine Go 1 Z (Cz [] i (k_v _ _) Z λct cm i=>Go 3 Z (Is 76 i Z (λar i=>?_) (λar i=>?_)))
   .exact Go 13 Z (Cl i [2,4])
   .refine Go 6 Z (Is 82 i Z (λau i=>?_) (λau i=>?_))
    .exact Go 7 Z (Cl i [2,4])
    .exact Go 2 Z (Lm Z (Go 4 Z (Cl i [2,4])))
 refine Gx 1 Z (Ef d (Cn Z h (λav h=>?_) (λav h=>?_)))
 .exact Gc 7 Z (Rt h 8 [])
 refine Gc 6 Z ?_;refine vV (x:=(.int .u64 (IntKind.u64.wrap (IntKind.i64.wrap ((s.1.length:Int)+1))))) (YE Z runUnderlying3 runUnderlying97 Z) ?_;refine Bd h λcu aw h=>?_;refine vV (x:=(.int .u64 (Int.tmod E (IntKind.u64.wrap (IntKind.i64.wrap ((s.1.length:Int)+1)))))) (OpV.rem Z Z Z (nz_ok aw)) ?_;refine vV (x:=(I (IntKind.i64.wrap (Int.tmod E (IntKind.u64.wrap (IntKind.i64.wrap ((s.1.length:Int)+1))))))) (YE Z runUnderlying97 runUnderlying3 Z) ?_;refine Go 5 Z (Bd h λJ p h=>?_);refine Ct J [0,1] [3,9,11,13,14] (λJ=>[(110,.bool J)]) Ze Zf ?_ (λenv H d=>?_)
 .refine G0 4 Z (Bd p λcv ax p=>Iz ax Z (Go 1 Z (Lm Z (Go 3 Z (Is 102 p Z (λay p=>?_) (λay p=>?_))))))
  .exact Go 9 Z (Cl p [0,1])
  .exact Go 2 Z (Bd p λcw az p=>Iz az Z (Go 1 Z (Lm Z (Go 4 Z (Cl p [0,1])))))
 refine Gx 1 Z (Ef d (Cn Z h (λba h=>?_) (λba h=>?_)))
 .exact Gc 7 Z (Rt h 8 [])
 refine Gc 3 Z (DAs 15 10 [0,0,0,0,0,0,0,0,0,0,1,2,2,2,2] (by kernel_rfl) (Da 5 Z ?_));obtain⟨ca,bb,h⟩:=YN h;refine DA.wo (x:=.rp [.rsl 1 (List.map (Qe .i64) ca)]) ?_ ?_
 .exact Ix bb runUnderlying56 sizeOf66 Z Wp
 refine Da 1 Z ?_;obtain⟨cb,bc,h⟩:=YN h;refine DA.wo (x:=.rp [I cb]) ?_ ?_
 .exact Ix bc runUnderlying66 sizeOf3 Z Wp
 refine Da 2 Z ?_;obtain⟨L,bd,h⟩:=YN h;refine DA.op (x:=.tup [.osl 2 0 L.1.length 1,I L.2]) (H1:=[.cells 58 [.rsl 3 (List.map Segment.c s.1),.rsl 1 (List.map (Qn 1 (Qe .i64)) s.2.1)],.cells 51 [I ak.1,.rsl 3 (List.map Edge.c ak.2.1)],.row 3 1 (List.map (Qe .i64) L.1)]) ?_ ?_
 .refine Qs [] (OpC.fn call31 Z Z Z) (k_ci _ _ _ _ _ bd) ?_;rintro _ _ ⟨rfl,rfl⟩;exact FE Z Wp
 refine Db 4 Z (DB.done Z (Go 7 Z (Bd h λcx be h=>?_)));refine Qig (OpC.fn call30 rfl rfl rfl) (Qbg.cons rfl (.inl ⟨rfl,rfl⟩) (Qbg.cons rfl (.inr ⟨_,_,_,_,_,rfl,rfl,X2 ..,rfl⟩) Qbg.nil)) (k_ap _ _ _ _ be) (by rintro _ _ ⟨rfl,rfl⟩;rfl) ?_;rintro _ _ ⟨rfl,rfl⟩;refine FE Z (Go 9 Z (Bd h λM m h=>?_));refine Ct M [0,1,2] [3,9,11,13,14,15] (λM=>[(146,.bool M)]) Ze Zf ?_ (λenv H d=>?_)
 .refine G0 4 Z (Is 133 m Z (λbg m=>?_) (λbg m=>?_))
  .exact Go 14 Z (Cl m [0,1,2])
  .refine Go 4 Z (Is 137 m Z (λbh m=>?_) (λbh m=>?_))
   .exact Go 10 Z (Cl m [0,1,2])
   .refine Go 4 Z (Is 141 m Z (λbi m=>?_) (λbi m=>?_))
    .exact Go 6 Z (Cl m [0,1,2])
    .exact Go 6 Z (Cl m [0,1,2])
 refine Gx 1 Z (Ef d (Cn Z h (λbj h=>?_) (λbj h=>?_)))
 .exact Gc 7 Z (Rt h 8 [])
 refine Gc 8 Z (Bd h λcc cd h=>?_);refine CtE (b:=cc) [0,1] [3,9,11,13] Ze Ze Zf ?_ (λcn env H t d=>?_)
 .refine G0 1 Z ?_;refine Lp [0,1,2] [3,9,11,13,14,15] (λN=>[(19,I N)]) Ze cd Zf (Lr [0,1,2]) λN cy f O=>?_;refine G0 8 Z (Ja Z f (λbk f=>?_) (λbk f=>?_))
  .refine Gc 2 Z (Qz f ?_);obtain rfl:=Oj O f;exact Gx 1 Z (QD Z (Lr [0,1]))
  refine Gc 5 Z (DSs 17 Z (D 2 Z ?_));obtain⟨ce,P,f⟩:=YN f;refine DS.v (x:=(.ptr 2 (Int.toNat N*1))) (QZ P Z runUnderlying66 sizeOf3) ?_;refine DS.v (x:=(I ce)) (Ey Z isAgg3 Z (Qq P)) ?_;refine D 2 Z ?_;obtain⟨cf,Q,f⟩:=YN f;refine DS.v (x:=(.ptr 2 (Int.toNat (IntKind.i64.wrap (Int.tmod E (IntKind.u64.wrap (IntKind.i64.wrap ((s.1.length:Int)+1)))))*1))) (QZ Q Z runUnderlying66 sizeOf3) ?_;refine DS.v (x:=(I cf)) (Ey Z isAgg3 Z (Qq Q)) ?_;refine D 4 Z ?_;obtain⟨cg,bl,f⟩:=YN f;refine DS.wo (x:=.rp [.rsl 1 (List.map (Qe .i64) cg)]) ?_ ?_
  .exact Ix bl runUnderlying56 sizeOf66 Z Wp
  refine D 2 Z ?_;obtain⟨ch,bm,f⟩:=YN f;refine DS.wo (x:=.rp [I ch]) ?_ ?_
  .exact Ix bm runUnderlying66 sizeOf3 Z Wp
  refine D 1 Z (Eh Z (Go 3 Z (Cn Z f (λbn f=>?_) (λbn f=>?_))))
  .refine Gc 8 Z (Q4 f ?_);obtain rfl:=Oj O f;exact Gx 1 Z (QR (Gx 1 Z (Rt h 8 [])))
  exact Gc 8 Z (Qv f (Lr [0,1,2]))
 subst t;refine Gx 1 Z (Ef d (Gc 5 Z (Cd [] h (k_ap _ _ _) Z λcz co h=>FE Z (Go 8 Z (Bd h λR q h=>?_)))));refine Ct R [0] [3,9,13] (λR=>[(187,.bool R)]) Ze Zf ?_ (λenv H d=>?_)
 .refine G0 4 Z (Is 178 q Z (λbo q=>?_) (λbo q=>?_))
  .exact Go 10 Z (Cl q [0])
  .refine Go 4 Z (Is 182 q Z (λbq q=>?_) (λbq q=>?_))
   .exact Go 6 Z (Cl q [0])
   .exact Go 1 Z (Lm Z (Go 4 Z (Cl q [0])))
 refine Gx 1 Z (Ef d (Cn Z h (λbr h=>?_) (λbr h=>?_)))
 .exact Gc 7 Z (Rt h 8 [])
 refine Gc 8 Z (Bd h λbs bt h=>?_);refine CtE (b:=bs) [] [] Ze Ze Zf ?_ (λci env H t d=>?_)
 .refine G0 1 Z ?_;refine Lp [0] [3,9,13] (λT=>[(22,I T)]) Ze bt Zf (Lr [0]) λT cp j z=>?_;refine G0 8 Z (Ja Z j (λab j=>?_) (λab j=>?_))
  .refine Gc 2 Z (Qz j ?_);obtain rfl:=Oj z j;exact Gx 1 Z (QD Z (Lr []))
  refine Gc 9 Z (Bd j λbu bv j=>?_);refine CtE (b:=bu) [0] [3,9,13,22] Ze Ze Zf ?_ (λcj env H t d=>?_)
  .refine G0 1 Z ?_;refine Lp [0] [3,9,13,22] (λV=>[(23,I V)]) Ze bv Zf (Lr [0]) λV cq g B=>?_;refine G0 8 Z (Ja Z g (λac g=>?_) (λac g=>?_))
   .refine Gc 2 Z (Qz g ?_);obtain rfl:=Oj B g;exact Gx 1 Z (QD Z (Lr [0]))
   refine Gc 5 Z (Bd g λw a g=>?_);refine Ct w [0] [3,9,13,22,23] (λw=>[(225,.bool w)]) Ze Zf ?_ (λenv H d=>?_)
   .refine G0 0 Z (DSs 26 Z (D 3 Z ?_));obtain⟨W,ad,a⟩:=YN a;refine DS.wo (x:=.rp [.rsl 1 (List.map (Qe .i64) W)]) ?_ ?_
    .exact Ix ad runUnderlying56 sizeOf66 Z Wp
    refine D 1 Z ?_;refine DS.wo (x:=I (W.length:Int)) ?_ ?_
    .exact LnM runUnderlying66 Z Wp
    refine D 3 Z (Qc2 8 a Z Z Z (λae a=>?_) (λae a=>?_))
    .exact D 17 Z (Eh Z (Go 3 Z (Cl a [0])))
    .refine D 2 Z ?_;obtain⟨X,af,a⟩:=YN a;refine DS.v (x:=(.rp [I X])) (Qb0 (e:=(Qe .i64)) (l:=a4) (v:=X) af runUnderlying66 sizeOf3) ?_ (hg:=(gT Z));refine D 3 Z ?_;obtain⟨Y,ag,a⟩:=YN a;refine DS.v (x:=(.rp [I Y])) (Qb0 (e:=(Qe .i64)) (l:=a4) (v:=Y) ag runUnderlying66 sizeOf3) ?_ (hg:=(gT Z));refine D 5 Z ?_;obtain⟨y,ah,a⟩:=YN a;refine DS.v (x:=(.rp [.rsl 1 (List.map (Qe .i64) y)])) (Qb0 (e:=(Qn 1 (Qe .i64))) (l:=s.2.1) (v:=y) ah runUnderlying56 sizeOf66) ?_ (hg:=(gT Z));refine D 2 Z ?_;obtain⟨aa,ai,a⟩:=YN a;refine DS.v (x:=(.rp [I aa])) (Qb0 (e:=(Qe .i64)) (l:=y) (v:=aa) ai runUnderlying66 sizeOf3) ?_ (hg:=(gT Z));exact D 1 Z (Eh Z (Go 3 Z (Cl a [0])))
   refine Gx 1 Z (Ef d (Cn Z g (λaj g=>?_) (λaj g=>?_)))
   .refine Gc 8 Z (Q4 g ?_);obtain rfl:=Oj B g;refine Gx 1 Z (QR (Gx 2 Z (Q4 j ?_)));obtain rfl:=Oj z j;exact Gx 1 Z (QR (Gx 1 Z (Rt h 8 [])))
   exact Gc 8 Z (Qv g (Lr [0]))
  subst t;exact Gx 2 Z (Ef d (Gc 5 Z (Qv j (Lr [0]))))
 subst t;exact Gx 1 Z (Ef d (Gc 6 Z (Rt h 8 [])))
end Go.Sw
