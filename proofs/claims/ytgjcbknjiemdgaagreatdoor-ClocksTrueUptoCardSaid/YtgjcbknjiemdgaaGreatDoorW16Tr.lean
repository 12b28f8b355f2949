/- What the functions compute that ClocksTrue reaches, and that their calls refine it (part 3 of 3). -/
import Derived.Test.YtgjcbknjiemdgaaGreatDoorW16Tr2
set_option linter.unusedVariables false
set_option linter.unusedSimpArgs false
set_option maxRecDepth 100000
set_option maxHeartbeats 4000000
namespace Go.Sw
open Go.Proofs Tryz
def F_gv(n:Nat)(c:Clocks)(b:Int):Option (Ctl Int (Ctl Unit Int)):=
  (bif decide (b<(c.Segments.length:Int))then(idx c.Segments b).bind λa=>((bif decide (a.Mat<0)then some true else(bif decide (40<=a.Mat)then some true else(bif decide (a.Epoch<0)then some true else(bif decide (255<a.Epoch)then some true else(F_m n a.Anchor).bind λd=>(bif (!d)then some true else(bif decide (0<b)then(idx c.Segments (IntKind.i64.wrap (b-1))).bind λe=>(F_af n e a).bind λf=>some (decide (0<=f))else some false)))))):Option Bool).bind λg=>(bif g then some (.done (.done 160))else some (.cont (IntKind.i64.wrap (b+1))))else some (.done (.cont ())))
def F_gx(n:Nat)(c:Clocks)(a:Int):Option (Ctl Int (Ctl Unit Int)):=
  (bif decide (a<(c.Far.length:Int))then(idx c.Far a).bind λb=>((bif ((b.length:Int) != (IntKind.i64.wrap ((c.Segments.length:Int)+1)))then some true else(idx b a).bind λd=>(bif (d != 0)then some true else(F_aw n b).bind λe=>some e)):Option Bool).bind λf=>(bif f then some (.done (.done 160))else some (.cont (IntKind.i64.wrap (a+1))))else some (.done (.cont ())))
def F_hg(n:Nat)(h:Clocks)(c:Int)(d:Int)(b:List Int)(a:Int):Option (Ctl Int (Ctl Unit (Ctl Int (Ctl Unit (Ctl Int (Ctl Unit Int)))))):=
  (bif decide (a<(b.length:Int))then(idx b a).bind λe=>(idx h.Far c).bind λf=>(idx f a).bind λg=>(bif decide ((IntKind.i64.wrap (d+e))<g)then some (.done (.done (.done (.done (.done (.done 160))))))else some (.cont (IntKind.i64.wrap (a+1))))else some (.done (.cont ())))
def F_ho(n:Nat)(h:Clocks)(d:Int)(c:List Int)(a:Int):Option (Ctl Int (Ctl Unit (Ctl Int (Ctl Unit Int)))):=
  (bif decide (a<(c.length:Int))then(idx c a).bind λe=>(idx h.Far a).bind λf=>(iter (F_hg n h d e f) n 0:Option (Ctl Unit (Ctl Int (Ctl Unit (Ctl Int (Ctl Unit Int)))))).bind λg=>match g with|.cont b=>(some (.cont (IntKind.i64.wrap (a+1))))|.done b=>some b else some (.done (.cont ())))
def F_gt(n:Nat)(c:Clocks)(a:Int):Option (Ctl Int (Ctl Unit Int)):=
  (bif decide (a<(IntKind.i64.wrap ((c.Segments.length:Int)+1)))then(idx c.Far a).bind λd=>(iter (F_ho n c a d) n 0:Option (Ctl Unit (Ctl Int (Ctl Unit Int)))).bind λe=>match e with|.cont b=>(some (.cont (IntKind.i64.wrap (a+1))))|.done b=>some b else some (.done (.cont ())))
def F_ad(n:Nat)(c:Clocks):Option Int:=
  ((bif decide (511<(c.Segments.length:Int))then some true else some ((c.Far.length:Int) != (IntKind.i64.wrap ((c.Segments.length:Int)+1)))):Option Bool).bind λb2=>(bif b2 then some 160 else(iter (F_gv n c) n 0:Option (Ctl Unit Int)).bind λg=>match g with|.cont d=>((iter (F_gx n c) n 0:Option (Ctl Unit Int)).bind λe=>match e with|.cont a=>((iter (F_gt n c) n 0:Option (Ctl Unit Int)).bind λf=>match f with|.cont b=>(some 0)|.done b=>some b)|.done a=>some a)|.done d=>some d)
theorem k_ad(n:Nat)(a1:Clocks)(r:Int)(h:F_ad n a1=some r):
    Csm prog 27 [.agg (Clocks.c a1)] [] (λr=>I r) r:=by
 refine Qc func27 Z Z Z ?_;refine G0 10 Z (Lm Z (Go 5 Z (Bd h λb2 z h=>?_)));refine Ct b2 [0] [1,3] (λb2=>[(25,.bool b2)]) Ze Zf ?_ (λenv H k=>?_)
 .refine G0 4 Z (Is 18 z Z (λbb z=>?_) (λbb z=>?_))
  .exact Go 8 Z (Cl z [0])
  .exact Go 2 Z (Lm Z (Go 5 Z (Cl z [0])))
 refine Gx 1 Z (Ef k (Cn Z h (λbc h=>?_) (λbc h=>?_)))
 .exact Gc 7 Z (Rt h 2 [])
 refine Gc 7 Z (Lm Z (Go 3 Z (Bd h λbd be h=>?_)));refine CtE (b:=bd) [0] [1,3] Ze Ze Zf ?_ (λbl env H p k=>?_)
 .refine G0 1 Z ?_;refine Lp [0] [1,3,27,28] (λaf=>[(29,I af)]) Ze be Zf (Lr [0]) λaf cd m B=>?_;refine G0 6 Z (CnS Z m (λag m=>?_) (λag m=>?_))
  .refine Gc 2 Z (QB m ?_);obtain rfl:=Oj B m;exact Gx 1 Z (QE Z (Lr [0]))
  refine Gc 7 Z (Bd m λce ah m=>Iz ah Z (Go 7 Z (Bd m λE a m=>?_)));refine Ct E [0] [1,3,27,28,29] (λE=>[(72,.bool E)]) Ze Zf ?_ (λenv H k=>?_)
  .refine G0 0 Z (DSs 35 Z (D 4 Z (Qd4 3 a Z Z Z (λai a=>?_) (λai a=>?_))))
   .exact D 31 Z (Eh Z (Go 5 Z (Cl a [0])))
   .refine D 5 Z (Qd4 8 a Z Z Z (λaj a=>?_) (λaj a=>?_))
    .exact D 26 Z (Eh Z (Go 5 Z (Cl a [0])))
    .refine D 5 Z (Qd4 13 a Z Z Z (λak a=>?_) (λak a=>?_))
     .exact D 21 Z (Eh Z (Go 5 Z (Cl a [0])))
     .refine D 5 Z (Qd4 18 a Z Z Z (λal a=>?_) (λal a=>?_))
      .exact D 16 Z (Eh Z (Go 5 Z (Cl a [0])))
      .refine D 2 Z ?_;refine Dz [] a (k_m _ _) Z λcf bm a=>D 3 Z (Qd4 24 a Z Z Z (λam a=>?_) (λam a=>?_))
       .exact D 10 Z (Eh Z (Go 5 Z (Cl a [0])))
       .refine D 3 Z (Qd4 27 a Z Z Z (λan a=>?_) (λan a=>?_))
        .refine D 4 Z ?_;obtain⟨s,ao,a⟩:=Y3 a;refine DS.v (x:=(.rp [I s.Mat,I s.Epoch,I s.Anchor])) (QjY (e:=Segment.c) (l:=a1.Segments) (v:=s) ao runUnderlying39 sizeOf36) ?_ (hg:=(gT Z));exact D 2 Z (Eh Z (Cz [] a (k_af _ _ _) Z λcg bn a=>Go 4 Z (Cl a [0])))
        .exact D 7 Z (Eh Z (Go 5 Z (Cl a [0])))
  refine Gx 1 Z (Ef k (Cn Z m (λaq m=>?_) (λaq m=>?_)))
  .refine Gc 8 Z (Ye m ?_);obtain rfl:=Oj B m;exact Gx 1 Z (QY (Gx 1 Z (Rt h 2 [])))
  exact Gc 7 Z (Qz m (Lr [0]))
 subst p;refine Gx 1 Z (Ef k (Gc 5 Z (Lm Z (Go 3 Z (Bd h λar au h=>?_)))));refine CtE (b:=ar) [0] [1,3] Ze Ze Zf ?_ (λbg env H p k=>?_)
 .refine G0 1 Z ?_;refine Lp [0] [1,3,75,76] (λF=>[(77,I F)]) Ze au Zf (Lr [0]) λF bo f t=>?_;refine G0 6 Z (CnS Z f (λM f=>?_) (λM f=>?_))
  .refine Gc 2 Z (QB f ?_);obtain rfl:=Oj t f;exact Gx 1 Z (QE Z (Lr [0]))
  refine Gc 7 Z (Bd f λbq N f=>Iz N Z (Go 6 Z (Bd f λq i f=>?_)));refine Ct q [0] [1,3,75,76,77] (λq=>[(97,.bool q)]) Ze Zf ?_ (λenv H k=>?_)
  .refine G0 2 Z (Lm Z (Go 4 Z (Is 87 i Z (λO i=>?_) (λO i=>?_))))
   .exact Go 11 Z (Cl i [0])
   .refine Go 2 Z (Bd i λbr P i=>Iz P Z (Go 4 Z (Is 94 i Z (λQ i=>?_) (λQ i=>?_))))
    .exact Go 4 Z (Cl i [0])
    .exact Go 1 Z (Cz [] i (k_aw _ _) Z λbs bh i=>Go 2 Z (Cl i [0]))
  refine Gx 1 Z (Ef k (Cn Z f (λR f=>?_) (λR f=>?_)))
  .refine Gc 8 Z (Ye f ?_);obtain rfl:=Oj t f;exact Gx 1 Z (QY (Gx 1 Z (Rt h 2 [])))
  exact Gc 7 Z (Qz f (Lr [0]))
 subst p;refine Gx 1 Z (Ef k (Gc 8 Z (Bd h λav aw h=>?_)));refine CtE (b:=av) [] [] Ze Ze Zf ?_ (λbi env H p k=>?_)
 .refine G0 1 Z ?_;refine Lp [0] [1,100] (λG=>[(101,I G)]) Ze aw Zf (Lr [0]) λG bt j u=>?_;refine G0 6 Z (CnS Z j (λT j=>?_) (λT j=>?_))
  .refine Gc 2 Z (QB j ?_);obtain rfl:=Oj u j;exact Gx 1 Z (QE Z (Lr []))
  refine Gc 15 Z (Bd j λbu V j=>Iz V Z (Go 1 Z (Lm Z (Go 3 Z (Bd j λax ay j=>?_)))));refine CtE (b:=ax) [0] [1,100,101] Ze Ze Zf ?_ (λbj env H p k=>?_)
  .refine G0 1 Z ?_;refine Lp [0] [1,8,100,101,108,109] (λJ=>[(110,I J)]) Ze ay Zf (Lr [0]) λJ bv g w=>?_;refine G0 6 Z (CnS Z g (λW g=>?_) (λW g=>?_))
   .refine Gc 2 Z (QB g ?_);obtain rfl:=Oj w g;exact Gx 1 Z (QE Z (Lr [0]))
   refine Gc 7 Z (Bd g λbw X g=>Iz X Z (Go 10 Z (Bd g λbx Y g=>Iz Y Z (Go 1 Z (Lm Z (Go 3 Z (Bd g λaz ba g=>?_)))))));refine CtE (b:=az) [0] [1,8,100,101,108,109,110] Ze Ze Zf ?_ (λbk env H p k=>?_)
   .refine G0 1 Z ?_;refine Lp [0] [1,8,10,100,101,108,109,110,119,120] (λL=>[(121,I L)]) Ze ba Zf (Lr [0]) λL bz d y=>?_;refine G0 6 Z (CnS Z d (λaa d=>?_) (λaa d=>?_))
    .refine Gc 2 Z (QB d ?_);obtain rfl:=Oj y d;exact Gx 1 Z (QE Z (Lr [0]))
    refine Gc 7 Z (Bd d λca ab d=>Iz ab Z (Go 10 Z (Bd d λcb ac d=>Iz ac Z (Go 2 Z (Bd d λcc ad d=>Iz ad Z (Go 7 Z (Cn Z d (λae d=>?_) (λae d=>?_))))))))
    .refine Gc 8 Z (Ye d ?_);obtain rfl:=Oj y d;refine Gx 1 Z (QY (Gx 2 Z (Ye g ?_)));obtain rfl:=Oj w g;refine Gx 1 Z (QY (Gx 2 Z (Ye j ?_)));obtain rfl:=Oj u j;exact Gx 1 Z (QY (Gx 1 Z (Rt h 2 [])))
    exact Gc 7 Z (Qz d (Lr [0]))
   subst p;exact Gx 2 Z (Ef k (Gc 4 Z (Qz g (Lr [0]))))
  subst p;exact Gx 2 Z (Ef k (Gc 4 Z (Qz j (Lr [0]))))
 subst p;exact Gx 1 Z (Ef k (Gc 6 Z (Rt h 2 [])))
def F_av(n:Nat)(c:Course)(d:Clocks)(b:Int)(a:Span):Option (Span×Int):=
  (F_e n c).bind λf=>(bif (f != 0)then some ({Lo:=0,Hi:=0:Span},f)else(F_ad n d).bind λg=>(bif (g != 0)then some ({Lo:=0,Hi:=0:Span},g)else((bif decide (b<(-1))then some true else(bif decide ((d.Segments.length:Int)<=b)then some true else(F_m n a.Lo).bind λh=>(bif (!h)then some true else(F_m n a.Hi).bind λi=>(bif (!i)then some true else some (decide (a.Hi<a.Lo)))))):Option Bool).bind λj=>(bif j then some ({Lo:=0,Hi:=0:Span},1)else(bif decide (b<0)then some ({Lo:=a.Lo,Hi:=IntKind.i64.wrap (a.Hi+c.Faults.Residual):Span},0)else(idx d.Segments b).bind λe=>(F_i n c e.Mat).bind λk=>(bif (!k)then some ({Lo:=0,Hi:=0:Span},1)else(F_aa n c e a.Lo).bind λl=>(idx d.Far (IntKind.i64.wrap (b+1))).bind λm=>(idx m 0).bind λp=>(F_aa n c e a.Hi).bind λq=>(idx d.Far 0).bind λr=>(idx r (IntKind.i64.wrap (b+1))).bind λs=>some ({Lo:=IntKind.i64.wrap ((IntKind.i64.wrap (a.Lo+l.Lo))-p),Hi:=IntKind.i64.wrap ((IntKind.i64.wrap (a.Hi+q.Hi))+s):Span},0))))))
theorem k_av(n:Nat)(g:Course)(i:Clocks)(t:Int)(d:Span)(r:Span×Int)(h:F_av n g i t d=some r):
    C prog 24 [.agg (Course.c g),.agg (Clocks.c i),I t,.agg [I d.Lo,I d.Hi]] [] (RQ (λr=>.tup [.agg [I r.1.Lo,I r.1.Hi],I r.2]) (λr=>[.cells 44 [I r.1.Lo,I r.1.Hi]]) r):=by
 refine Qc func24 Z Z Z ?_;refine G0 13 Z (Cz [] h (k_e _ _) Z λr1 V h=>Go 9 Z (Cn Z h (λN h=>?_) (λN h=>?_)))
 .refine Gc 10 Z ?_;obtain rfl:=Oi h;exact Rx [3] [8,9] Z (Qm Z Z (Qi9.cons (Qj isAgg44 sizeOf44 Z Z Z) (Qi9.cons Qd0.tmp Qi9.nil))) ⟨Z,Z⟩
 refine Gc 6 Z (Cz [] h (k_ad _ _) Z λr3 W h=>Go 9 Z (Cn Z h (λO h=>?_) (λO h=>?_)))
 .refine Gc 10 Z ?_;obtain rfl:=Oi h;exact Rx [3] [8,9] Z (Qm Z Z (Qi9.cons (Qj isAgg44 sizeOf44 Z Z Z) (Qi9.cons Qd0.tmp Qi9.nil))) ⟨Z,Z⟩
 refine Gc 5 Z (Bd h λp a h=>?_);refine Ct p [0,1,2,3] [2,4,5,7,8] (λp=>[(24,.bool p)]) Ze Zf ?_ (λenv H P=>?_)
 .refine G0 4 Z (Is 27 a Z (λx a=>?_) (λx a=>?_))
  .exact Go 27 Z (Cl a [0,1,2,3])
  .refine Go 3 Z (Lm Z (Go 3 Z (Is 34 a Z (λy a=>?_) (λy a=>?_))))
   .exact Go 20 Z (Cl a [0,1,2,3])
   .refine Go 2 Z (Cz [] a (k_m _ _) Z λX Q a=>Go 3 Z (Is 40 a Z (λz a=>?_) (λz a=>?_)))
    .exact Go 14 Z (Cl a [0,1,2,3])
    .refine Go 2 Z (Cz [] a (k_m _ _) Z λY R a=>Go 3 Z (Is 46 a Z (λB a=>?_) (λB a=>?_)))
     .exact Go 8 Z (Cl a [0,1,2,3])
     .exact Go 8 Z (Cl a [0,1,2,3])
 refine Gx 1 Z (Ef P (Cn Z h (λE h=>?_) (λE h=>?_)))
 .refine Gc 10 Z ?_;obtain rfl:=Oi h;exact Rx [3] [8,9] Z (Qm Z Z (Qi9.cons (Qj isAgg44 sizeOf44 Z Z Z) (Qi9.cons Qd0.tmp Qi9.nil))) ⟨Z,Z⟩
 refine Gc 7 Z (Cn Z h (λF h=>?_) (λF h=>?_))
 .refine Gc 18 Z ?_;obtain rfl:=Oi h;exact Rx [3] [8,9] Z (Qm Z Z (Qi9.cons (Qj isAgg44 sizeOf44 Z Z Z) (Qi9.cons Qd0.tmp Qi9.nil))) ⟨Z,Z⟩
 refine Gc 8 Z (Bd h λf G h=>Iz G Z (Go 11 Z (Cz [] h (k_i _ _ _) Z λaa T h=>Go 3 Z (Cn Z h (λJ h=>?_) (λJ h=>?_)))))
 .refine Gc 9 Z ?_;obtain rfl:=Oi h;exact Rx [3] [8,9] Z (Qm Z Z (Qi9.cons (Qj isAgg44 sizeOf44 Z Z Z) (Qi9.cons Qd0.tmp Qi9.nil))) ⟨Z,Z⟩
 refine Gc 10 Z ?_;obtain⟨b,L,h⟩:=Y3 h;obtain⟨u,j,h⟩:=Y3 h;obtain⟨q,k,h⟩:=Y3 h;obtain⟨e,M,h⟩:=Y3 h;obtain⟨w,l,h⟩:=Y3 h;obtain⟨s,m,h⟩:=Y3 h;refine Y0 34 0 [79,80,81,82,83,84,85,86,87,88,89,90,91,92,93,94,95,96,97,98,99,100,101,102,103,104,105,106,107,108,109,110,111,112] [false,false,false,false,false,false,true,false,false,false,false,false,false,false,false,false,false,false,false,false,false,false,false,true,false,false,false,false,false,false,false,false,false,false] [[],[],[],[],[],[],[],[6],[6],[],[],[],[],[],[],[],[6],[],[],[],[],[],[],[6],[6,23],[6,23],[],[],[],[],[],[],[],[6,23]] [[],[6],[6,23]] [[(0,0),(1,1),(2,2)],[(0,0),(1,1),(2,2)],[(0,0)],[(0,0)],[(0,0)],[(0,0)],[(0,1)],[(1,1),(2,2)],[(1,1),(2,2)],[(0,0),(1,1),(2,2)],[(0,0),(1,1),(2,2)],[(0,0),(1,1),(2,2)],[(0,0),(1,1),(2,2)],[(0,0),(1,1),(2,2)],[(0,0),(1,1),(2,2)],[(0,0),(1,1),(2,2)],[(1,1),(2,2)],[(0,0),(1,1),(2,2)],[(0,0),(1,1),(2,2)],[(0,0),(1,1)],[(0,0),(1,1)],[(0,0),(1,1)],[(0,0),(1,1)],[(1,2)],[(2,2)],[(2,2)],[(0,0),(1,1),(2,2)],[(0,0),(1,1),(2,2)],[(0,0),(1,1),(2,2)],[(0,0),(1,1),(2,2)],[(0,0),(1,1),(2,2)],[(0,0),(1,1),(2,2)],[(0,0),(1,1),(2,2)],[(2,2)]] [.ptr 2 0,I d.Lo,.agg (Course.c g),.agg (Segment.c f),.ptr 2 0,I d.Lo,.agg [I b.Lo,I b.Hi],I b.Lo,I (IntKind.i64.wrap (d.Lo+b.Lo)),.ptr 1 1,.rsl 1 (List.map (Ql 1 (Qe .i64)) i.Far),I (IntKind.i64.wrap (t+1)),.rp [.rsl 1 (List.map (Qe .i64) u)],.rsl 1 (List.map (Qe .i64) u),.rp [I q],I q,I (IntKind.i64.wrap ((IntKind.i64.wrap (d.Lo+b.Lo))-q)),.ptr 2 1,I d.Hi,.agg (Course.c g),.agg (Segment.c f),.ptr 2 1,I d.Hi,.agg [I e.Lo,I e.Hi],I e.Hi,I (IntKind.i64.wrap (d.Hi+e.Hi)),.ptr 1 1,.rsl 1 (List.map (Ql 1 (Qe .i64)) i.Far),.rp [.rsl 1 (List.map (Qe .i64) w)],.rsl 1 (List.map (Qe .i64) w),I (IntKind.i64.wrap (t+1)),.rp [I s],I s,I (IntKind.i64.wrap ((IntKind.i64.wrap (d.Hi+e.Hi))+s))] [[.cells 33 (Course.c g),.cells 58 (Clocks.c i),.cells 44 [I d.Lo,I d.Hi],.cells 44 [I 0,I 0],.cells 36 (Segment.c f)],[.cells 33 (Course.c g),.cells 58 (Clocks.c i),.cells 44 [I d.Lo,I d.Hi],.cells 44 [I 0,I 0],.cells 36 (Segment.c f),.cells 44 [I b.Lo,I b.Hi]],[.cells 33 (Course.c g),.cells 58 (Clocks.c i),.cells 44 [I d.Lo,I d.Hi],.cells 44 [I 0,I 0],.cells 36 (Segment.c f),.cells 44 [I b.Lo,I b.Hi],.cells 44 [I e.Lo,I e.Hi]]] ([.cells 33 (Course.c g),.cells 58 (Clocks.c i),.cells 44 [I d.Lo,I d.Hi],.cells 44 [I 0,I 0],.cells 36 (Segment.c f),.cells 44 [I b.Lo,I b.Hi],.cells 44 [I e.Lo,I e.Hi]]) draws Z Z Z Z Z Z Z ?_ Z ?_
 .refine Qhj.cons (Qb (v0 Z Z) (Qb (v0 Z Z) (Qb (v0 Z Z) (Qf)))) (Qhj.cons (Qb (v0 Z Z) (Qb (v0 Z Z) (Qb (v0 Z Z) (Qf)))) (Qhj.cons (Qb (v0 Z Z) (Qf)) (Qhj.cons (Qb (v0 Z Z) (Qf)) (Qhj.cons (Qb (v0 Z Z) (Qf)) (Qhj.cons (Qb (v0 Z Z) (Qf)) (Qhj.cons ?_ (Qhj.cons ?_ (Qhj.cons ?_ (Qhj.cons (Qb (v0 Z Z) (Qb (v0 Z Z) (Qb (v0 Z Z) (Qf)))) (Qhj.cons (Qb (v0 Z Z) (Qb (v0 Z Z) (Qb (v0 Z Z) (Qf)))) (Qhj.cons (Qb (v0 Z Z) (Qb (v0 Z Z) (Qb (v0 Z Z) (Qf)))) (Qhj.cons ?_ (Qhj.cons (Qb (v0 Z Z) (Qb (v0 Z Z) (Qb (v0 Z Z) (Qf)))) (Qhj.cons ?_ (Qhj.cons (Qb (v0 Z Z) (Qb (v0 Z Z) (Qb (v0 Z Z) (Qf)))) (Qhj.cons ?_ (Qhj.cons (Qb (v0 Z Z) (Qb (v0 Z Z) (Qb (v0 Z Z) (Qf)))) (Qhj.cons (Qb (v0 Z Z) (Qb (v0 Z Z) (Qb (v0 Z Z) (Qf)))) (Qhj.cons (Qb (v0 Z Z) (Qb (v0 Z Z) (Qf))) (Qhj.cons (Qb (v0 Z Z) (Qb (v0 Z Z) (Qf))) (Qhj.cons (Qb (v0 Z Z) (Qb (v0 Z Z) (Qf))) (Qhj.cons (Qb (v0 Z Z) (Qb (v0 Z Z) (Qf))) (Qhj.cons ?_ (Qhj.cons ?_ (Qhj.cons ?_ (Qhj.cons (Qb (v0 Z Z) (Qb (v0 Z Z) (Qb (v0 Z Z) (Qf)))) (Qhj.cons (Qb (v0 Z Z) (Qb (v0 Z Z) (Qb (v0 Z Z) (Qf)))) (Qhj.cons ?_ (Qhj.cons (Qb (v0 Z Z) (Qb (v0 Z Z) (Qb (v0 Z Z) (Qf)))) (Qhj.cons (Qb (v0 Z Z) (Qb (v0 Z Z) (Qb (v0 Z Z) (Qf)))) (Qhj.cons ?_ (Qhj.cons (Qb (v0 Z Z) (Qb (v0 Z Z) (Qb (v0 Z Z) (Qf)))) (Qhj.cons ?_ (Qhj.nil))))))))))))))))))))))))))))))))))
  .refine Qb ?_ (Qf)
   .refine Om1 Z (sD 2 (sD 3 (sD 5 sN))) ?_;refine Qp [] (OpC.fn call47 Z Z Z) (k_aa _ _ _ _ _ L) ?_;rintro _ _ ⟨rfl,rfl⟩;exact FE Z Wp
  .refine Qb ?_ (Qb ?_ (Qf))
   .refine Om Z (sD 6 sN) ?_;refine vX (I b.Lo) (Qcu QjM runUnderlying44 Z isAgg3) ?_;exact Wp
   .refine Om Z (sD 6 sN) ?_;refine vX (I b.Lo) (Qcu QjM runUnderlying44 Z isAgg3) ?_;exact Wp
  .refine Qb ?_ (Qb ?_ (Qf))
   .refine Om Z (sD 1 (sD 7 sN)) ?_;exact S Z Wp
   .refine Om Z (sD 1 (sD 7 sN)) ?_;exact S Z Wp
  .refine Qb ?_ (Qb ?_ (Qb ?_ (Qf)))
   .refine Om Z (sD 10 (sD 11 sN)) ?_;exact Ix j runUnderlying56 sizeOf66 Z Wp
   .refine Om Z (sD 10 (sD 11 sN)) ?_;exact Ix j runUnderlying56 sizeOf66 Z Wp
   .refine Om Z (sD 10 (sD 11 sN)) ?_;exact Ix j runUnderlying56 sizeOf66 Z Wp
  .refine Qb ?_ (Qb ?_ (Qb ?_ (Qf)))
   .refine Om Z (sD 13 sN) ?_;exact Ix k runUnderlying66 sizeOf3 Z Wp
   .refine Om Z (sD 13 sN) ?_;exact Ix k runUnderlying66 sizeOf3 Z Wp
   .refine Om Z (sD 13 sN) ?_;exact Ix k runUnderlying66 sizeOf3 Z Wp
  .refine Qb ?_ (Qb ?_ (Qf))
   .refine Om Z (sD 8 (sD 15 sN)) ?_;exact S Z Wp
   .refine Om Z (sD 8 (sD 15 sN)) ?_;exact S Z Wp
  .refine Qb ?_ (Qf)
   .refine Om1 Z (sD 19 (sD 20 (sD 22 sN))) ?_;refine Qp [] (OpC.fn call47 Z Z Z) (k_aa _ _ _ _ _ M) ?_;rintro _ _ ⟨rfl,rfl⟩;exact FE Z Wp
  .refine Qb ?_ (Qf)
   .refine Om Z (sD 23 sN) ?_;refine vX (I e.Hi) (Qcu QnE runUnderlying44 Z isAgg3) ?_;exact Wp
  .refine Qb ?_ (Qf)
   .refine Om Z (sD 18 (sD 24 sN)) ?_;exact S Z Wp
  .refine Qb ?_ (Qb ?_ (Qb ?_ (Qf)))
   .refine Om Z (sD 27 sN) ?_;exact Ix l runUnderlying56 sizeOf66 Z Wp
   .refine Om Z (sD 27 sN) ?_;exact Ix l runUnderlying56 sizeOf66 Z Wp
   .refine Om Z (sD 27 sN) ?_;exact Ix l runUnderlying56 sizeOf66 Z Wp
  .refine Qb ?_ (Qb ?_ (Qb ?_ (Qf)))
   .refine Om Z (sD 29 (sD 30 sN)) ?_;exact Ix m runUnderlying66 sizeOf3 Z Wp
   .refine Om Z (sD 29 (sD 30 sN)) ?_;exact Ix m runUnderlying66 sizeOf3 Z Wp
   .refine Om Z (sD 29 (sD 30 sN)) ?_;exact Ix m runUnderlying66 sizeOf3 Z Wp
  .refine Qb ?_ (Qf)
   .refine Om Z (sD 25 (sD 32 sN)) ?_;exact S Z Wp
 refine Go 6 Z ?_;obtain rfl:=Oi h;exact Rx [3] [8,9] Z (Qm Z Z (Qi9.cons (Qj isAgg44 sizeOf44 Z Z Z) (Qi9.cons Qd0.tmp Qi9.nil))) ⟨Z,Z⟩
abbrev lit_2:Fact:={Ul with No:=2,Kind:=3,Beacon:={Mat:=1,Epoch:=0,Local:=100,True:=100700,Err:=3:Beacon}:Fact}
abbrev lit_4:Fact:={Ul with No:=1,Kind:=3,Beacon:={Mat:=1,Epoch:=0,Local:=100,True:=700,Err:=3:Beacon}:Fact}
abbrev lit_1:List Fact:=[lit_4,lit_2]
abbrev lit_3:List Fact:=[lit_4]
abbrev lit_5:List Mat:=[{Name:=[108,105,110,101],Kind:=1:Mat},{Name:=[116,117,114,110],Kind:=2:Mat}]
abbrev lit_0:Course:={Uk with Name:=[97],Mats:=lit_5,Ties:=[{Uu with Kind:=1,By:=5:Step}],Faults:={Um with Residual:=5000,Drift:=20:Faults}:Course}
def F_fw(n:Nat):Option Bool:=
  (F_gr n).bind λw=>(F_ai n (lit_0) ({Mat:=1,Epoch:=0,Anchor:=1000:Segment}) 51000).bind λd=>(F_y n Uk []).bind λu=>(F_w n (lit_0) []).bind λe=>(F_g n (lit_0) []).bind λb=>(F_ab n 1 100 700 3).bind λx=>(F_g n (lit_0) lit_3).bind λa=>(F_ab n 1 100 700 3).bind λy=>(F_ab n 2 100 100700 3).bind λz=>(F_g n (lit_0) lit_1).bind λf=>(F_av n (lit_0) ({Segments:=b.1,Far:=b.2.1:Clocks}) (-1) ({Lo:=5,Hi:=5:Span})).bind λc=>((bif (d.2 != 0)then some true else(bif (u.2 != 70)then some true else(bif (e.2.2 != 0)then some true else(bif (b.2.2 != 0)then some true else(bif (a.2.2 != 0)then some true else(bif (f.2.2 != 160)then some true else(bif (c.2 != 0)then some true else(bif (({Lo:=d.1.Lo,Hi:=d.1.Hi:Span}) != ({Lo:=(-1),Hi:=5001:Span}))then some true else some (({Lo:=c.1.Lo,Hi:=c.1.Hi:Span}) != ({Lo:=5,Hi:=5005:Span})))))))))):Option Bool).bind λg=>(bif g then some false else((bif (e.1 != 1)then some true else(bif ((e.2.1.length:Int) != 0)then some true else(bif ((b.1.length:Int) != 0)then some true else(bif ((b.2.1.length:Int) != 1)then some true else(bif ((a.1.length:Int) != 1)then some true else(idx a.1 0).bind λh=>(bif (h.Anchor != 100)then some true else(bif ((a.2.1.length:Int) != 2)then some true else(idx a.2.1 0).bind λi=>(bif ((i.length:Int) != 2)then some true else(idx a.2.1 1).bind λj=>some ((j.length:Int) != 2))))))))):Option Bool).bind λk=>(bif k then some false else((idx a.2.1 0).bind λl=>(idx l 1).bind λm=>(bif (m==603)then(idx a.2.1 1).bind λp=>(idx p 0).bind λq=>(bif (q==4403)then(F_ad n ({Segments:=a.1,Far:=a.2.1:Clocks})).bind λr=>(bif (r==0)then(F_ad n ({Segments:=[],Far:=[]:Clocks})).bind λs=>some (s==160)else some false)else some false)else some false):Option Bool).bind λt=>some t))
theorem k_fw(n:Nat)(r:Bool)(h:F_fw n=some r):
    Csm prog 11 [] [] (λr=>.bool r) r:=by
 refine Qc func11 Z Z Z ?_;refine G0 7 Z (Cd [] h (k_gr _) Z λr1 av h=>?_);refine aV (.agg [.str [97],.osl 0 0 (lit_5.length) 2,.rsl 4 (List.map Leg.c []),.rsl 5 (List.map Distance.c []),.rsl 2 (List.map Wave.c []),.rsl 4 (List.map Offence.c []),.rsl 3 (List.map Category.c []),.rsl 4 (List.map Prize.c []),.osl 1 0 ([{Uu with Kind:=1,By:=5:Step}].length) 8,I 0,I 0,I 0,I 5000,I 20,I 0,I 0]) [.row 119 2 (List.map Mat.c lit_5),.row 154 8 (List.map Step.enc [{Uu with Kind:=1,By:=5:Step}]),.cells 33 [.str [97],.osl 0 0 (lit_5.length) 2,.rsl 4 (List.map Leg.c []),.rsl 5 (List.map Distance.c []),.rsl 2 (List.map Wave.c []),.rsl 4 (List.map Offence.c []),.rsl 3 (List.map Category.c []),.rsl 4 (List.map Prize.c []),.osl 1 0 ([{Uu with Kind:=1,By:=5:Step}].length) 8,I 0,I 0,I 0,I 5000,I 20,I 0,I 0]] Z Z ?_;refine Go 8 Z ?_;refine Et (QfA [(16,_),(18,_)] Z Z (Qm2.cons Z (FzA.agg (Ed (Ee _) (Ed Ep (Ek _)))) (Qm2.cons Z (FzA.agg (Ed (Ee _) (Ed Ep (Ek _)))) Qm2.nil)) (Ec (Ec (FzH.cells (Ed (Ee _) (Ed Ep (Ek _))) (FzH.cells (Ed (Ee _) (Ed Ep (Ek _))) (QbR _)))))) ?_;refine Et (QfA [(16,_),(18,_)] Z Z (Qm2.cons Z (FzA.agg (Ed (Ee _) (Ed (Ee _) (Ed (Ee _) (Ed (Ee _) (Ed (Ee _) (Ed (Ee _) (Ed (Ee _) (Ed (Ee _) (Ed Ep (Ek _))))))))))) (Qm2.cons Z (FzA.agg (Ed (Ee _) (Ed (Ee _) (Ed (Ee _) (Ed (Ee _) (Ed (Ee _) (Ed (Ee _) (Ed (Ee _) (Ed (Ee _) (Ed Ep (Ek _))))))))))) Qm2.nil)) (Ec (Ec (FzH.cells (Ed (Ee _) (Ed (Ee _) (Ed (Ee _) (Ed (Ee _) (Ed (Ee _) (Ed (Ee _) (Ed (Ee _) (Ed (Ee _) (Ed Ep (Ek _)))))))))) (FzH.cells (Ed (Ee _) (Ed (Ee _) (Ed (Ee _) (Ed (Ee _) (Ed (Ee _) (Ed (Ee _) (Ed (Ee _) (Ed (Ee _) (Ed Ep (Ek _)))))))))) (QbR _)))))) ?_;refine Cd [] h (k_ai _ _ _ _) Z λa aw h=>?_;refine aV (.tup [.agg [I a.1.Lo,I a.1.Hi],I a.2]) [.dead,.dead,.cells 33 (Course.c (lit_0)),.cells 33 (Course.c (lit_0)),.cells 44 [I a.1.Lo,I a.1.Hi]] Z Z ?_;refine Go 11 Z (Bd h λk am h=>?_);refine Qp [] (OpC.fn call13 Z Z Z) (C.nils (Qjd.eq (Qjd.nl Qjd.nil)) (k_y _ _ _ _ am)) ?_;rintro _ _ ⟨rfl,rfl⟩;refine aV (.tup [.osl 6 0 k.1.length 3,I k.2]) [_,_,_,_,_,_,.row 36 3 (List.map Segment.c k.1)] Z Z ?_;refine Go 10 Z (Bd h λb an h=>?_);refine Qp [] (OpC.fn call18 Z Z Z) (C.nils (Qjd.eq (Qjd.nl Qjd.nil)) (k_w _ _ _ _ an)) ?_;rintro _ _ ⟨rfl,rfl⟩;refine aV (.tup [.agg [I b.1,.rsl 3 (List.map Edge.c b.2.1)],I b.2.2]) [_,_,_,_,_,_,_,.cells 51 [I b.1,.rsl 3 (List.map Edge.c b.2.1)]] Z Z ?_;refine Go 11 Z (Bd h λd ao h=>?_);refine Qp [] (OpC.fn call22 Z Z Z) (C.nils (Qjd.eq (Qjd.nl Qjd.nil)) (k_g _ _ _ _ ao)) ?_;rintro _ _ ⟨rfl,rfl⟩;refine aV (.tup [.agg [.rsl 3 (List.map Segment.c d.1),.rsl 1 (List.map (Ql 1 (Qe .i64)) d.2.1)],I d.2.2]) [_,_,_,_,_,_,_,_,_,.cells 58 [.rsl 3 (List.map Segment.c d.1),.rsl 1 (List.map (Ql 1 (Qe .i64)) d.2.1)]] Z Z ?_;refine Go 9 Z ?_;obtain⟨r6,x,h⟩:=Y3 h;obtain⟨e,y,h⟩:=Y3 h;refine Y0 9 1 [39,40,41,42,38,43,44,10,1000008] [false,true,false,true,false,false,false,true,true] [[],[],[1],[1],[1,3],[1,3],[1,3],[],[1,3,7]] [[],[1],[7],[1,3],[1,7],[1,3,7],[1,3,7,8]] [[(0,0),(1,1),(2,2),(4,4)],[(0,1),(2,4)],[(1,1),(4,4)],[(1,3),(4,5)],[(3,3),(5,5)],[(3,3),(5,5)],[(3,3),(5,5),(6,6)],[(0,2),(1,4),(3,5)],[(5,6)]] [.agg (Course.c (lit_0)),.agg (Fact.c (lit_4)),.rsl 57 (List.map Fact.c lit_3),.tup [.agg [.rsl 3 (List.map Segment.c e.1),.rsl 1 (List.map (Ql 1 (Qe .i64)) e.2.1)],I e.2.2],.tup [.agg [.rsl 3 (List.map Segment.c e.1),.rsl 1 (List.map (Ql 1 (Qe .i64)) e.2.1)],I e.2.2],.agg [.rsl 3 (List.map Segment.c e.1),.rsl 1 (List.map (Ql 1 (Qe .i64)) e.2.1)],I e.2.2,.ptr 11 0,.any] [[.dead,.dead,.cells 33 (Course.c (lit_0)),.cells 33 (Course.c (lit_0)),.cells 44 [I a.1.Lo,I a.1.Hi],.cells 44 [I a.1.Lo,I a.1.Hi],.row 36 3 (List.map Segment.c k.1),.cells 51 [I b.1,.rsl 3 (List.map Edge.c b.2.1)],.cells 51 [I b.1,.rsl 3 (List.map Edge.c b.2.1)],.cells 58 [.rsl 3 (List.map Segment.c d.1),.rsl 1 (List.map (Ql 1 (Qe .i64)) d.2.1)],.cells 58 [.rsl 3 (List.map Segment.c d.1),.rsl 1 (List.map (Ql 1 (Qe .i64)) d.2.1)],.dead],[.dead,.dead,.cells 33 (Course.c (lit_0)),.cells 33 (Course.c (lit_0)),.cells 44 [I a.1.Lo,I a.1.Hi],.cells 44 [I a.1.Lo,I a.1.Hi],.row 36 3 (List.map Segment.c k.1),.cells 51 [I b.1,.rsl 3 (List.map Edge.c b.2.1)],.cells 51 [I b.1,.rsl 3 (List.map Edge.c b.2.1)],.cells 58 [.rsl 3 (List.map Segment.c d.1),.rsl 1 (List.map (Ql 1 (Qe .i64)) d.2.1)],.cells 58 [.rsl 3 (List.map Segment.c d.1),.rsl 1 (List.map (Ql 1 (Qe .i64)) d.2.1)],.dead,.cells 96 (Fact.c (lit_4))],[.dead,.dead,.cells 33 (Course.c (lit_0)),.cells 33 (Course.c (lit_0)),.cells 44 [I a.1.Lo,I a.1.Hi],.cells 44 [I a.1.Lo,I a.1.Hi],.row 36 3 (List.map Segment.c k.1),.cells 51 [I b.1,.rsl 3 (List.map Edge.c b.2.1)],.cells 51 [I b.1,.rsl 3 (List.map Edge.c b.2.1)],.cells 58 [.rsl 3 (List.map Segment.c d.1),.rsl 1 (List.map (Ql 1 (Qe .i64)) d.2.1)],.cells 58 [.rsl 3 (List.map Segment.c d.1),.rsl 1 (List.map (Ql 1 (Qe .i64)) d.2.1)],.cells 58 [.rsl 3 (List.map Segment.c []),.rsl 1 (List.map (Ql 1 (Qe .i64)) [])]],[.dead,.dead,.cells 33 (Course.c (lit_0)),.cells 33 (Course.c (lit_0)),.cells 44 [I a.1.Lo,I a.1.Hi],.cells 44 [I a.1.Lo,I a.1.Hi],.row 36 3 (List.map Segment.c k.1),.cells 51 [I b.1,.rsl 3 (List.map Edge.c b.2.1)],.cells 51 [I b.1,.rsl 3 (List.map Edge.c b.2.1)],.cells 58 [.rsl 3 (List.map Segment.c d.1),.rsl 1 (List.map (Ql 1 (Qe .i64)) d.2.1)],.cells 58 [.rsl 3 (List.map Segment.c d.1),.rsl 1 (List.map (Ql 1 (Qe .i64)) d.2.1)],.dead,.cells 96 (Fact.c (lit_4)),.cells 58 [.rsl 3 (List.map Segment.c e.1),.rsl 1 (List.map (Ql 1 (Qe .i64)) e.2.1)]],[.dead,.dead,.cells 33 (Course.c (lit_0)),.cells 33 (Course.c (lit_0)),.cells 44 [I a.1.Lo,I a.1.Hi],.cells 44 [I a.1.Lo,I a.1.Hi],.row 36 3 (List.map Segment.c k.1),.cells 51 [I b.1,.rsl 3 (List.map Edge.c b.2.1)],.cells 51 [I b.1,.rsl 3 (List.map Edge.c b.2.1)],.cells 58 [.rsl 3 (List.map Segment.c d.1),.rsl 1 (List.map (Ql 1 (Qe .i64)) d.2.1)],.cells 58 [.rsl 3 (List.map Segment.c d.1),.rsl 1 (List.map (Ql 1 (Qe .i64)) d.2.1)],.cells 58 [.rsl 3 (List.map Segment.c []),.rsl 1 (List.map (Ql 1 (Qe .i64)) [])],.cells 96 (Fact.c (lit_4))],[.dead,.dead,.cells 33 (Course.c (lit_0)),.cells 33 (Course.c (lit_0)),.cells 44 [I a.1.Lo,I a.1.Hi],.cells 44 [I a.1.Lo,I a.1.Hi],.row 36 3 (List.map Segment.c k.1),.cells 51 [I b.1,.rsl 3 (List.map Edge.c b.2.1)],.cells 51 [I b.1,.rsl 3 (List.map Edge.c b.2.1)],.cells 58 [.rsl 3 (List.map Segment.c d.1),.rsl 1 (List.map (Ql 1 (Qe .i64)) d.2.1)],.cells 58 [.rsl 3 (List.map Segment.c d.1),.rsl 1 (List.map (Ql 1 (Qe .i64)) d.2.1)],.cells 58 [.rsl 3 (List.map Segment.c []),.rsl 1 (List.map (Ql 1 (Qe .i64)) [])],.cells 96 (Fact.c (lit_4)),.cells 58 [.rsl 3 (List.map Segment.c e.1),.rsl 1 (List.map (Ql 1 (Qe .i64)) e.2.1)]],[.dead,.dead,.cells 33 (Course.c (lit_0)),.cells 33 (Course.c (lit_0)),.cells 44 [I a.1.Lo,I a.1.Hi],.cells 44 [I a.1.Lo,I a.1.Hi],.row 36 3 (List.map Segment.c k.1),.cells 51 [I b.1,.rsl 3 (List.map Edge.c b.2.1)],.cells 51 [I b.1,.rsl 3 (List.map Edge.c b.2.1)],.cells 58 [.rsl 3 (List.map Segment.c d.1),.rsl 1 (List.map (Ql 1 (Qe .i64)) d.2.1)],.cells 58 [.rsl 3 (List.map Segment.c d.1),.rsl 1 (List.map (Ql 1 (Qe .i64)) d.2.1)],.cells 58 [.rsl 3 (List.map Segment.c e.1),.rsl 1 (List.map (Ql 1 (Qe .i64)) e.2.1)],.cells 96 (Fact.c (lit_4)),.cells 58 [.rsl 3 (List.map Segment.c e.1),.rsl 1 (List.map (Ql 1 (Qe .i64)) e.2.1)]]] ([.dead,.dead,.cells 33 (Course.c (lit_0)),.cells 33 (Course.c (lit_0)),.cells 44 [I a.1.Lo,I a.1.Hi],.cells 44 [I a.1.Lo,I a.1.Hi],.row 36 3 (List.map Segment.c k.1),.cells 51 [I b.1,.rsl 3 (List.map Edge.c b.2.1)],.cells 51 [I b.1,.rsl 3 (List.map Edge.c b.2.1)],.cells 58 [.rsl 3 (List.map Segment.c d.1),.rsl 1 (List.map (Ql 1 (Qe .i64)) d.2.1)],.cells 58 [.rsl 3 (List.map Segment.c d.1),.rsl 1 (List.map (Ql 1 (Qe .i64)) d.2.1)],.cells 58 [.rsl 3 (List.map Segment.c e.1),.rsl 1 (List.map (Ql 1 (Qe .i64)) e.2.1)],.cells 96 (Fact.c (lit_4)),.cells 58 [.rsl 3 (List.map Segment.c e.1),.rsl 1 (List.map (Ql 1 (Qe .i64)) e.2.1)]]) draws Z Z Z Z Z Z Z ?_ Z ?_
 .refine Qhj.cons (Qb (v0 Z Z) (Qb (v0 Z Z) (Qb (v0 Z Z) (Qb (v0 Z Z) (Qf))))) (Qhj.cons ?_ (Qhj.cons ?_ (Qhj.cons ?_ (Qhj.cons (Qb (v0 Z Z) (Qb (v0 Z Z) (Qf))) (Qhj.cons (Qb (v0 Z Z) (Qb (v0 Z Z) (Qf))) (Qhj.cons (Qb (v0 Z Z) (Qb (v0 Z Z) (Qb (v0 Z Z) (Qf)))) (Qhj.cons ?_ (Qhj.cons ?_ (Qhj.nil)))))))))
  .refine Qb ?_ (Qb ?_ (Qf))
   .refine Om1 Z sN ?_;refine Qp [] (OpC.fn call33 Z Z Z) (Qkn _ _ _ _ _ _ x) ?_;rintro _ _ ⟨rfl,rfl⟩;refine aV (.agg (Fact.c (lit_4))) [_,_,_,_,_,_,_,_,_,_,_,_,.cells 96 (Fact.c (lit_4))] Z Z ?_;exact Wp
   .refine Om1 Z sN ?_;refine Qp [] (OpC.fn call33 Z Z Z) (Qkn _ _ _ _ _ _ x) ?_;rintro _ _ ⟨rfl,rfl⟩;refine aV (.agg (Fact.c (lit_4))) [_,_,_,_,_,_,_,_,_,_,_,_,.cells 96 (Fact.c (lit_4))] Z Z ?_;exact Wp
  .refine Qb ?_ (Qb ?_ (Qf))
   .refine Om Z (sD 1 sN) ?_;refine vH (YU (xs:=[.tmp 40]) (es:=List.map Fact.c lit_3) Qge Z Z Z Z Z ⟨Z,trivial⟩ Z Z) ?_;refine aV (.rsl 57 (List.map Fact.c lit_3)) [_,_,_,_,_,_,_,_,_,_,_,_,_] Z Z ?_;exact Wp
   .refine Om Z (sD 1 sN) ?_;refine vH (YU (xs:=[.tmp 40]) (es:=List.map Fact.c lit_3) Qge Z Z Z Z Z ⟨Z,trivial⟩ Z Z) ?_;refine aV (.rsl 57 (List.map Fact.c lit_3)) [_,_,_,_,_,_,_,_,_,_,_,_,_] Z Z ?_;exact Wp
  .refine Qb ?_ (Qb ?_ (Qf))
   .refine Om1 Z (sD 0 (sD 2 sN)) ?_;refine Qp [] (OpC.fn call22 Z Z Z) (k_g _ _ _ _ y) ?_;rintro _ _ ⟨rfl,rfl⟩;refine aV (.tup [.agg [.rsl 3 (List.map Segment.c e.1),.rsl 1 (List.map (Ql 1 (Qe .i64)) e.2.1)],I e.2.2]) [_,_,_,_,_,_,_,_,_,_,_,_,_,.cells 58 [.rsl 3 (List.map Segment.c e.1),.rsl 1 (List.map (Ql 1 (Qe .i64)) e.2.1)]] Z Z ?_;exact Wp
   .refine Om1 Z (sD 0 (sD 2 sN)) ?_;refine Qp [] (OpC.fn call22 Z Z Z) (k_g _ _ _ _ y) ?_;rintro _ _ ⟨rfl,rfl⟩;refine aV (.tup [.agg [.rsl 3 (List.map Segment.c e.1),.rsl 1 (List.map (Ql 1 (Qe .i64)) e.2.1)],I e.2.2]) [_,_,_,_,_,_,_,_,_,_,_,_,_,.cells 58 [.rsl 3 (List.map Segment.c e.1),.rsl 1 (List.map (Ql 1 (Qe .i64)) e.2.1)]] Z Z ?_;exact Wp
  .refine Qb ?_ (Qb ?_ (Qb ?_ (Qf)))
   .exact Jd.alloc _ 10 58 11 _ Z Z Z Z Z Z Z (OpZ.alloc (v:=(.agg [.rsl 3 (List.map Segment.c []),.rsl 1 (List.map (Ql 1 (Qe .i64)) [])])) zeroValue58 (zrC Z)) Z
   .exact Jd.alloc _ 10 58 11 _ Z Z Z Z Z Z Z (OpZ.alloc (v:=(.agg [.rsl 3 (List.map Segment.c []),.rsl 1 (List.map (Ql 1 (Qe .i64)) [])])) zeroValue58 (zrC Z)) Z
   .exact Jd.alloc _ 10 58 11 _ Z Z Z Z Z Z Z (OpZ.alloc (v:=(.agg [.rsl 3 (List.map Segment.c []),.rsl 1 (List.map (Ql 1 (Qe .i64)) [])])) zeroValue58 (zrC Z)) Z
  .refine Qb ?_ (Qf)
   .refine Om2 Z (sD 7 (sD 5 sN)) ?_;refine vU (Ex Z Z Z sizeOf58 Z Z Z Z Z Z Z) ?_;refine Qdt (H:=[_,_,_,_,_,_,_,_,_,_,_,.cells 58 [.rsl 3 (List.map Segment.c e.1),.rsl 1 (List.map (Ql 1 (Qe .i64)) e.2.1)],_,_]) Z ?_;exact Wp
 refine Go 4 Z ?_;obtain⟨r8,z,h⟩:=Y3 h;obtain⟨r9,B,h⟩:=Y3 h;obtain⟨g,s,h⟩:=Y3 h;refine Y0 10 1 [46,47,48,49,50,45,51,52,12,1000009] [false,true,true,false,true,false,false,false,true,true] [[],[],[1],[1,2],[1,2],[1,2,4],[1,2,4],[1,2,4],[],[1,2,4,8]] [[],[1],[8],[1,2],[1,8],[1,2,4],[1,2,8],[1,2,4,8],[1,2,4,8,9]] [[(0,0),(1,1),(2,2),(3,3),(4,4),(6,6)],[(0,1),(2,4)],[(1,3),(4,6)],[(3,3),(6,6)],[(3,5),(6,7)],[(5,5),(7,7)],[(5,5),(7,7)],[(5,5),(7,7),(8,8)],[(0,2),(1,4),(3,6),(5,7)],[(7,8)]] [.agg (Course.c (lit_0)),.agg (Fact.c (lit_4)),.agg (Fact.c (lit_2)),.rsl 57 (List.map Fact.c lit_1),.tup [.agg [.rsl 3 (List.map Segment.c g.1),.rsl 1 (List.map (Ql 1 (Qe .i64)) g.2.1)],I g.2.2],.tup [.agg [.rsl 3 (List.map Segment.c g.1),.rsl 1 (List.map (Ql 1 (Qe .i64)) g.2.1)],I g.2.2],.agg [.rsl 3 (List.map Segment.c g.1),.rsl 1 (List.map (Ql 1 (Qe .i64)) g.2.1)],I g.2.2,.ptr 14 0,.any] [[.dead,.dead,.cells 33 (Course.c (lit_0)),.cells 33 (Course.c (lit_0)),.cells 44 [I a.1.Lo,I a.1.Hi],.cells 44 [I a.1.Lo,I a.1.Hi],.row 36 3 (List.map Segment.c k.1),.cells 51 [I b.1,.rsl 3 (List.map Edge.c b.2.1)],.cells 51 [I b.1,.rsl 3 (List.map Edge.c b.2.1)],.cells 58 [.rsl 3 (List.map Segment.c d.1),.rsl 1 (List.map (Ql 1 (Qe .i64)) d.2.1)],.cells 58 [.rsl 3 (List.map Segment.c d.1),.rsl 1 (List.map (Ql 1 (Qe .i64)) d.2.1)],.cells 58 [.rsl 3 (List.map Segment.c e.1),.rsl 1 (List.map (Ql 1 (Qe .i64)) e.2.1)],.cells 96 (Fact.c (lit_4)),.cells 58 [.rsl 3 (List.map Segment.c e.1),.rsl 1 (List.map (Ql 1 (Qe .i64)) e.2.1)],.dead],[.dead,.dead,.cells 33 (Course.c (lit_0)),.cells 33 (Course.c (lit_0)),.cells 44 [I a.1.Lo,I a.1.Hi],.cells 44 [I a.1.Lo,I a.1.Hi],.row 36 3 (List.map Segment.c k.1),.cells 51 [I b.1,.rsl 3 (List.map Edge.c b.2.1)],.cells 51 [I b.1,.rsl 3 (List.map Edge.c b.2.1)],.cells 58 [.rsl 3 (List.map Segment.c d.1),.rsl 1 (List.map (Ql 1 (Qe .i64)) d.2.1)],.cells 58 [.rsl 3 (List.map Segment.c d.1),.rsl 1 (List.map (Ql 1 (Qe .i64)) d.2.1)],.cells 58 [.rsl 3 (List.map Segment.c e.1),.rsl 1 (List.map (Ql 1 (Qe .i64)) e.2.1)],.cells 96 (Fact.c (lit_4)),.cells 58 [.rsl 3 (List.map Segment.c e.1),.rsl 1 (List.map (Ql 1 (Qe .i64)) e.2.1)],.dead,.cells 96 (Fact.c (lit_4))],[.dead,.dead,.cells 33 (Course.c (lit_0)),.cells 33 (Course.c (lit_0)),.cells 44 [I a.1.Lo,I a.1.Hi],.cells 44 [I a.1.Lo,I a.1.Hi],.row 36 3 (List.map Segment.c k.1),.cells 51 [I b.1,.rsl 3 (List.map Edge.c b.2.1)],.cells 51 [I b.1,.rsl 3 (List.map Edge.c b.2.1)],.cells 58 [.rsl 3 (List.map Segment.c d.1),.rsl 1 (List.map (Ql 1 (Qe .i64)) d.2.1)],.cells 58 [.rsl 3 (List.map Segment.c d.1),.rsl 1 (List.map (Ql 1 (Qe .i64)) d.2.1)],.cells 58 [.rsl 3 (List.map Segment.c e.1),.rsl 1 (List.map (Ql 1 (Qe .i64)) e.2.1)],.cells 96 (Fact.c (lit_4)),.cells 58 [.rsl 3 (List.map Segment.c e.1),.rsl 1 (List.map (Ql 1 (Qe .i64)) e.2.1)],.cells 58 [.rsl 3 (List.map Segment.c []),.rsl 1 (List.map (Ql 1 (Qe .i64)) [])]],[.dead,.dead,.cells 33 (Course.c (lit_0)),.cells 33 (Course.c (lit_0)),.cells 44 [I a.1.Lo,I a.1.Hi],.cells 44 [I a.1.Lo,I a.1.Hi],.row 36 3 (List.map Segment.c k.1),.cells 51 [I b.1,.rsl 3 (List.map Edge.c b.2.1)],.cells 51 [I b.1,.rsl 3 (List.map Edge.c b.2.1)],.cells 58 [.rsl 3 (List.map Segment.c d.1),.rsl 1 (List.map (Ql 1 (Qe .i64)) d.2.1)],.cells 58 [.rsl 3 (List.map Segment.c d.1),.rsl 1 (List.map (Ql 1 (Qe .i64)) d.2.1)],.cells 58 [.rsl 3 (List.map Segment.c e.1),.rsl 1 (List.map (Ql 1 (Qe .i64)) e.2.1)],.cells 96 (Fact.c (lit_4)),.cells 58 [.rsl 3 (List.map Segment.c e.1),.rsl 1 (List.map (Ql 1 (Qe .i64)) e.2.1)],.dead,.cells 96 (Fact.c (lit_4)),.cells 96 (Fact.c (lit_2))],[.dead,.dead,.cells 33 (Course.c (lit_0)),.cells 33 (Course.c (lit_0)),.cells 44 [I a.1.Lo,I a.1.Hi],.cells 44 [I a.1.Lo,I a.1.Hi],.row 36 3 (List.map Segment.c k.1),.cells 51 [I b.1,.rsl 3 (List.map Edge.c b.2.1)],.cells 51 [I b.1,.rsl 3 (List.map Edge.c b.2.1)],.cells 58 [.rsl 3 (List.map Segment.c d.1),.rsl 1 (List.map (Ql 1 (Qe .i64)) d.2.1)],.cells 58 [.rsl 3 (List.map Segment.c d.1),.rsl 1 (List.map (Ql 1 (Qe .i64)) d.2.1)],.cells 58 [.rsl 3 (List.map Segment.c e.1),.rsl 1 (List.map (Ql 1 (Qe .i64)) e.2.1)],.cells 96 (Fact.c (lit_4)),.cells 58 [.rsl 3 (List.map Segment.c e.1),.rsl 1 (List.map (Ql 1 (Qe .i64)) e.2.1)],.cells 58 [.rsl 3 (List.map Segment.c []),.rsl 1 (List.map (Ql 1 (Qe .i64)) [])],.cells 96 (Fact.c (lit_4))],[.dead,.dead,.cells 33 (Course.c (lit_0)),.cells 33 (Course.c (lit_0)),.cells 44 [I a.1.Lo,I a.1.Hi],.cells 44 [I a.1.Lo,I a.1.Hi],.row 36 3 (List.map Segment.c k.1),.cells 51 [I b.1,.rsl 3 (List.map Edge.c b.2.1)],.cells 51 [I b.1,.rsl 3 (List.map Edge.c b.2.1)],.cells 58 [.rsl 3 (List.map Segment.c d.1),.rsl 1 (List.map (Ql 1 (Qe .i64)) d.2.1)],.cells 58 [.rsl 3 (List.map Segment.c d.1),.rsl 1 (List.map (Ql 1 (Qe .i64)) d.2.1)],.cells 58 [.rsl 3 (List.map Segment.c e.1),.rsl 1 (List.map (Ql 1 (Qe .i64)) e.2.1)],.cells 96 (Fact.c (lit_4)),.cells 58 [.rsl 3 (List.map Segment.c e.1),.rsl 1 (List.map (Ql 1 (Qe .i64)) e.2.1)],.dead,.cells 96 (Fact.c (lit_4)),.cells 96 (Fact.c (lit_2)),.cells 58 [.rsl 3 (List.map Segment.c g.1),.rsl 1 (List.map (Ql 1 (Qe .i64)) g.2.1)]],[.dead,.dead,.cells 33 (Course.c (lit_0)),.cells 33 (Course.c (lit_0)),.cells 44 [I a.1.Lo,I a.1.Hi],.cells 44 [I a.1.Lo,I a.1.Hi],.row 36 3 (List.map Segment.c k.1),.cells 51 [I b.1,.rsl 3 (List.map Edge.c b.2.1)],.cells 51 [I b.1,.rsl 3 (List.map Edge.c b.2.1)],.cells 58 [.rsl 3 (List.map Segment.c d.1),.rsl 1 (List.map (Ql 1 (Qe .i64)) d.2.1)],.cells 58 [.rsl 3 (List.map Segment.c d.1),.rsl 1 (List.map (Ql 1 (Qe .i64)) d.2.1)],.cells 58 [.rsl 3 (List.map Segment.c e.1),.rsl 1 (List.map (Ql 1 (Qe .i64)) e.2.1)],.cells 96 (Fact.c (lit_4)),.cells 58 [.rsl 3 (List.map Segment.c e.1),.rsl 1 (List.map (Ql 1 (Qe .i64)) e.2.1)],.cells 58 [.rsl 3 (List.map Segment.c []),.rsl 1 (List.map (Ql 1 (Qe .i64)) [])],.cells 96 (Fact.c (lit_4)),.cells 96 (Fact.c (lit_2))],[.dead,.dead,.cells 33 (Course.c (lit_0)),.cells 33 (Course.c (lit_0)),.cells 44 [I a.1.Lo,I a.1.Hi],.cells 44 [I a.1.Lo,I a.1.Hi],.row 36 3 (List.map Segment.c k.1),.cells 51 [I b.1,.rsl 3 (List.map Edge.c b.2.1)],.cells 51 [I b.1,.rsl 3 (List.map Edge.c b.2.1)],.cells 58 [.rsl 3 (List.map Segment.c d.1),.rsl 1 (List.map (Ql 1 (Qe .i64)) d.2.1)],.cells 58 [.rsl 3 (List.map Segment.c d.1),.rsl 1 (List.map (Ql 1 (Qe .i64)) d.2.1)],.cells 58 [.rsl 3 (List.map Segment.c e.1),.rsl 1 (List.map (Ql 1 (Qe .i64)) e.2.1)],.cells 96 (Fact.c (lit_4)),.cells 58 [.rsl 3 (List.map Segment.c e.1),.rsl 1 (List.map (Ql 1 (Qe .i64)) e.2.1)],.cells 58 [.rsl 3 (List.map Segment.c []),.rsl 1 (List.map (Ql 1 (Qe .i64)) [])],.cells 96 (Fact.c (lit_4)),.cells 96 (Fact.c (lit_2)),.cells 58 [.rsl 3 (List.map Segment.c g.1),.rsl 1 (List.map (Ql 1 (Qe .i64)) g.2.1)]],[.dead,.dead,.cells 33 (Course.c (lit_0)),.cells 33 (Course.c (lit_0)),.cells 44 [I a.1.Lo,I a.1.Hi],.cells 44 [I a.1.Lo,I a.1.Hi],.row 36 3 (List.map Segment.c k.1),.cells 51 [I b.1,.rsl 3 (List.map Edge.c b.2.1)],.cells 51 [I b.1,.rsl 3 (List.map Edge.c b.2.1)],.cells 58 [.rsl 3 (List.map Segment.c d.1),.rsl 1 (List.map (Ql 1 (Qe .i64)) d.2.1)],.cells 58 [.rsl 3 (List.map Segment.c d.1),.rsl 1 (List.map (Ql 1 (Qe .i64)) d.2.1)],.cells 58 [.rsl 3 (List.map Segment.c e.1),.rsl 1 (List.map (Ql 1 (Qe .i64)) e.2.1)],.cells 96 (Fact.c (lit_4)),.cells 58 [.rsl 3 (List.map Segment.c e.1),.rsl 1 (List.map (Ql 1 (Qe .i64)) e.2.1)],.cells 58 [.rsl 3 (List.map Segment.c g.1),.rsl 1 (List.map (Ql 1 (Qe .i64)) g.2.1)],.cells 96 (Fact.c (lit_4)),.cells 96 (Fact.c (lit_2)),.cells 58 [.rsl 3 (List.map Segment.c g.1),.rsl 1 (List.map (Ql 1 (Qe .i64)) g.2.1)]]] ([.dead,.dead,.cells 33 (Course.c (lit_0)),.cells 33 (Course.c (lit_0)),.cells 44 [I a.1.Lo,I a.1.Hi],.cells 44 [I a.1.Lo,I a.1.Hi],.row 36 3 (List.map Segment.c k.1),.cells 51 [I b.1,.rsl 3 (List.map Edge.c b.2.1)],.cells 51 [I b.1,.rsl 3 (List.map Edge.c b.2.1)],.cells 58 [.rsl 3 (List.map Segment.c d.1),.rsl 1 (List.map (Ql 1 (Qe .i64)) d.2.1)],.cells 58 [.rsl 3 (List.map Segment.c d.1),.rsl 1 (List.map (Ql 1 (Qe .i64)) d.2.1)],.cells 58 [.rsl 3 (List.map Segment.c e.1),.rsl 1 (List.map (Ql 1 (Qe .i64)) e.2.1)],.cells 96 (Fact.c (lit_4)),.cells 58 [.rsl 3 (List.map Segment.c e.1),.rsl 1 (List.map (Ql 1 (Qe .i64)) e.2.1)],.cells 58 [.rsl 3 (List.map Segment.c g.1),.rsl 1 (List.map (Ql 1 (Qe .i64)) g.2.1)],.cells 96 (Fact.c (lit_4)),.cells 96 (Fact.c (lit_2)),.cells 58 [.rsl 3 (List.map Segment.c g.1),.rsl 1 (List.map (Ql 1 (Qe .i64)) g.2.1)]]) draws Z Z Z Z Z Z Z ?_ Z ?_
 .refine Qhj.cons (Qb (v0 Z Z) (Qb (v0 Z Z) (Qb (v0 Z Z) (Qb (v0 Z Z) (Qb (v0 Z Z) (Qb (v0 Z Z) (Qf))))))) (Qhj.cons ?_ (Qhj.cons ?_ (Qhj.cons ?_ (Qhj.cons ?_ (Qhj.cons (Qb (v0 Z Z) (Qb (v0 Z Z) (Qf))) (Qhj.cons (Qb (v0 Z Z) (Qb (v0 Z Z) (Qf))) (Qhj.cons (Qb (v0 Z Z) (Qb (v0 Z Z) (Qb (v0 Z Z) (Qf)))) (Qhj.cons ?_ (Qhj.cons ?_ (Qhj.nil))))))))))
  .refine Qb ?_ (Qb ?_ (Qf))
   .refine Om1 Z sN ?_;refine Qp [] (OpC.fn call33 Z Z Z) (Qkn _ _ _ _ _ _ z) ?_;rintro _ _ ⟨rfl,rfl⟩;refine aV (.agg (Fact.c (lit_4))) [_,_,_,_,_,_,_,_,_,_,_,_,_,_,_,.cells 96 (Fact.c (lit_4))] Z Z ?_;exact Wp
   .refine Om1 Z sN ?_;refine Qp [] (OpC.fn call33 Z Z Z) (Qkn _ _ _ _ _ _ z) ?_;rintro _ _ ⟨rfl,rfl⟩;refine aV (.agg (Fact.c (lit_4))) [_,_,_,_,_,_,_,_,_,_,_,_,_,_,_,.cells 96 (Fact.c (lit_4))] Z Z ?_;exact Wp
  .refine Qb ?_ (Qb ?_ (Qf))
   .refine Om1 Z sN ?_;refine Qp [] (OpC.fn call33 Z Z Z) (Qkn _ _ _ _ _ _ B) ?_;rintro _ _ ⟨rfl,rfl⟩;refine aV (.agg (Fact.c (lit_2))) [_,_,_,_,_,_,_,_,_,_,_,_,_,_,_,_,.cells 96 (Fact.c (lit_2))] Z Z ?_;exact Wp
   .refine Om1 Z sN ?_;refine Qp [] (OpC.fn call33 Z Z Z) (Qkn _ _ _ _ _ _ B) ?_;rintro _ _ ⟨rfl,rfl⟩;refine aV (.agg (Fact.c (lit_2))) [_,_,_,_,_,_,_,_,_,_,_,_,_,_,_,_,.cells 96 (Fact.c (lit_2))] Z Z ?_;exact Wp
  .refine Qb ?_ (Qb ?_ (Qf))
   .refine Om Z (sD 1 (sD 2 sN)) ?_;refine vH (YU (xs:=[.tmp 47,.tmp 48]) (es:=List.map Fact.c lit_1) Qge Z Z Z Z Z ⟨Z,Z,trivial⟩ Z Z) ?_;refine aV (.rsl 57 (List.map Fact.c lit_1)) [_,_,_,_,_,_,_,_,_,_,_,_,_,_,_,_,_] Z Z ?_;exact Wp
   .refine Om Z (sD 1 (sD 2 sN)) ?_;refine vH (YU (xs:=[.tmp 47,.tmp 48]) (es:=List.map Fact.c lit_1) Qge Z Z Z Z Z ⟨Z,Z,trivial⟩ Z Z) ?_;refine aV (.rsl 57 (List.map Fact.c lit_1)) [_,_,_,_,_,_,_,_,_,_,_,_,_,_,_,_,_] Z Z ?_;exact Wp
  .refine Qb ?_ (Qb ?_ (Qf))
   .refine Om1 Z (sD 0 (sD 3 sN)) ?_;refine Qp [] (OpC.fn call22 Z Z Z) (k_g _ _ _ _ s) ?_;rintro _ _ ⟨rfl,rfl⟩;refine aV (.tup [.agg [.rsl 3 (List.map Segment.c g.1),.rsl 1 (List.map (Ql 1 (Qe .i64)) g.2.1)],I g.2.2]) [_,_,_,_,_,_,_,_,_,_,_,_,_,_,_,_,_,.cells 58 [.rsl 3 (List.map Segment.c g.1),.rsl 1 (List.map (Ql 1 (Qe .i64)) g.2.1)]] Z Z ?_;exact Wp
   .refine Om1 Z (sD 0 (sD 3 sN)) ?_;refine Qp [] (OpC.fn call22 Z Z Z) (k_g _ _ _ _ s) ?_;rintro _ _ ⟨rfl,rfl⟩;refine aV (.tup [.agg [.rsl 3 (List.map Segment.c g.1),.rsl 1 (List.map (Ql 1 (Qe .i64)) g.2.1)],I g.2.2]) [_,_,_,_,_,_,_,_,_,_,_,_,_,_,_,_,_,.cells 58 [.rsl 3 (List.map Segment.c g.1),.rsl 1 (List.map (Ql 1 (Qe .i64)) g.2.1)]] Z Z ?_;exact Wp
  .refine Qb ?_ (Qb ?_ (Qb ?_ (Qb ?_ (Qf))))
   .exact Jd.alloc _ 12 58 14 _ Z Z Z Z Z Z Z (OpZ.alloc (v:=(.agg [.rsl 3 (List.map Segment.c []),.rsl 1 (List.map (Ql 1 (Qe .i64)) [])])) zeroValue58 (zrC Z)) Z
   .exact Jd.alloc _ 12 58 14 _ Z Z Z Z Z Z Z (OpZ.alloc (v:=(.agg [.rsl 3 (List.map Segment.c []),.rsl 1 (List.map (Ql 1 (Qe .i64)) [])])) zeroValue58 (zrC Z)) Z
   .exact Jd.alloc _ 12 58 14 _ Z Z Z Z Z Z Z (OpZ.alloc (v:=(.agg [.rsl 3 (List.map Segment.c []),.rsl 1 (List.map (Ql 1 (Qe .i64)) [])])) zeroValue58 (zrC Z)) Z
   .exact Jd.alloc _ 12 58 14 _ Z Z Z Z Z Z Z (OpZ.alloc (v:=(.agg [.rsl 3 (List.map Segment.c []),.rsl 1 (List.map (Ql 1 (Qe .i64)) [])])) zeroValue58 (zrC Z)) Z
  .refine Qb ?_ (Qf)
   .refine Om2 Z (sD 8 (sD 6 sN)) ?_;refine vU (Ex Z Z Z sizeOf58 Z Z Z Z Z Z Z) ?_;refine Qdt (H:=[_,_,_,_,_,_,_,_,_,_,_,_,_,_,.cells 58 [.rsl 3 (List.map Segment.c g.1),.rsl 1 (List.map (Ql 1 (Qe .i64)) g.2.1)],_,_,_]) Z ?_;exact Wp
 refine Go 8 Z (Cd [] h (k_av _ _ _ _ _) Z λl aq h=>?_);refine aV (.tup [.agg [I l.1.Lo,I l.1.Hi],I l.2]) [_,_,_,_,_,_,_,_,_,_,_,_,_,_,_,_,_,_,.cells 44 [I l.1.Lo,I l.1.Hi]] Z Z ?_;refine Go 10 Z (Bd h λt i h=>?_);refine Ct t [8,10,11] [6,8,10] (λt=>[(95,.bool t)]) Ze Zf ?_ (λenv H m=>?_)
 .refine G0 4 Z (Is 62 i Z (λE i=>?_) (λE i=>?_))
  .exact Go 34 Z (Cl i [8,10,11])
  .refine Go 4 Z (Is 66 i Z (λF i=>?_) (λF i=>?_))
   .exact Go 30 Z (Cl i [8,10,11])
   .refine Go 4 Z (Is 70 i Z (λG i=>?_) (λG i=>?_))
    .exact Go 26 Z (Cl i [8,10,11])
    .refine Go 4 Z (Is 74 i Z (λJ i=>?_) (λJ i=>?_))
     .exact Go 22 Z (Cl i [8,10,11])
     .refine Go 4 Z (Is 78 i Z (λL i=>?_) (λL i=>?_))
      .exact Go 18 Z (Cl i [8,10,11])
      .refine Go 4 Z (Is 82 i Z (λM i=>?_) (λM i=>?_))
       .exact Go 14 Z (Cl i [8,10,11])
       .refine Go 4 Z (Is 86 i Z (λN i=>?_) (λN i=>?_))
        .exact Go 10 Z (Cl i [8,10,11])
        .refine Go 2 Z ?_;refine vX (.bool (({Lo:=a.1.Lo,Hi:=a.1.Hi:Span}) != ({Lo:=(-1),Hi:=5001:Span}))) (Qgp (p:={Lo:=a.1.Lo,Hi:=a.1.Hi:Span}) (q:={Lo:=(-1),Hi:=5001:Span}) Qmo Z Z) ?_ (gT Z);refine Go 2 Z (Is 91 i Z (λO i=>?_) (λO i=>?_))
         .exact Go 5 Z (Cl i [8,10,11])
         .refine Go 2 Z ?_;refine vX (.bool (({Lo:=l.1.Lo,Hi:=l.1.Hi:Span}) != ({Lo:=5,Hi:=5005:Span}))) (Qgp (p:={Lo:=l.1.Lo,Hi:=l.1.Hi:Span}) (q:={Lo:=5,Hi:=5005:Span}) Qmo Z Z) ?_ (gT Z);exact Go 2 Z (Cl i [8,10,11])
 refine Gx 1 Z (Ef m (Cn Z h (λP h=>?_) (λP h=>?_)))
 .exact Gc 7 Z (Rt h 0 [])
 refine Gc 4 Z (Bd h λu f h=>?_);refine Ct u [2] [10] (λu=>[(152,.bool u)]) Ze Zf ?_ (λenv H m=>?_)
 .refine G0 5 Z (Is 99 f Z (λQ f=>?_) (λQ f=>?_))
  .exact Go 54 Z (Cl f [2])
  .refine Go 2 Z (Lm Z (Go 3 Z (Is 105 f Z (λR f=>?_) (λR f=>?_))))
   .exact Go 48 Z (Cl f [2])
   .refine Go 2 Z (Lm Z (Go 3 Z (Is 111 f Z (λT f=>?_) (λT f=>?_))))
    .exact Go 42 Z (Cl f [2])
    .refine Go 2 Z (Lm Z (Go 3 Z (Is 117 f Z (λV f=>?_) (λV f=>?_))))
     .exact Go 36 Z (Cl f [2])
     .refine Go 2 Z (Lm Z (Go 3 Z (Is 123 f Z (λW f=>?_) (λW f=>?_))))
      .exact Go 30 Z (Cl f [2])
      .refine Go 2 Z (Bd f λax X f=>Iz X Z (Go 5 Z (Is 131 f Z (λY f=>?_) (λY f=>?_))))
       .exact Go 22 Z (Cl f [2])
       .refine Go 2 Z (Lm Z (Go 3 Z (Is 137 f Z (λaa f=>?_) (λaa f=>?_))))
        .exact Go 16 Z (Cl f [2])
        .refine Go 2 Z (Bd f λay ab f=>Iz ab Z (Go 1 Z (Lm Z (Go 3 Z (Is 145 f Z (λac f=>?_) (λac f=>?_))))))
         .exact Go 8 Z (Cl f [2])
         .exact Go 2 Z (Bd f λaz ad f=>Iz ad Z (Go 1 Z (Lm Z (Go 3 Z (Cl f [2])))))
 refine Gx 1 Z (Ef m (Cn Z h (λae h=>?_) (λae h=>?_)))
 .exact Gc 7 Z (Rt h 0 [])
 refine Gc 3 Z (Bd h λw j h=>?_);refine Ct w [] [] (λw=>[(0,.bool w)]) Ze Zf ?_ (λenv H m=>?_)
 .refine G0 3 Z (Bd j λba af j=>Iz af Z (Go 1 Z (Bd j λbb ag j=>Iz ag Z (Go 3 Z (Is 160 j Z (λah j=>?_) (λah j=>?_))))))
  .refine Go 2 Z (Bd j λbc ai j=>Iz ai Z (Go 1 Z (Bd j λbd aj j=>Iz aj Z (Go 4 Z (Is 169 j Z (λak j=>?_) (λak j=>?_))))))
   .refine Go 1 Z (Cz [] j (k_ad _ _) Z λbe ar j=>Go 3 Z (Is 174 j Z (λal j=>?_) (λal j=>?_)))
    .exact Go 1 Z (Cz [] j (k_ad _ _) Z λbg au j=>Go 4 Z (Cl j []))
    .exact Go 6 Z (Cl j [])
   .exact Go 11 Z (Cl j [])
  .exact Go 20 Z (Cl j [])
 exact Gx 1 Z (Ef m (Gc 1 Z (Rt h 0 [])))
def F_fz(n:Nat)(b:List Part)(rec199:(List Part)->Option Int)(a:Int×Int):Option (Ctl (Int×Int) Int):=
  ((bif decide (a.2<(b.length:Int))then some (decide (a.1<=256))else some false):Option Bool).bind λc=>(bif c then(idx b a.2).bind λd=>(rec199 d.Parts).bind λe=>some (.cont (IntKind.i64.wrap (a.1+e),IntKind.i64.wrap (a.2+1)))else some (.done a.1))
def B_u(rec199:(List Part)->Option Int)(n:Nat)(b:List Part):Option Int:=
  (iter (F_fz n b rec199) n ((b.length:Int),0):Option Int).bind λa=>some (if 257<a then 257 else a)
theorem QaZ(rec199:(List Part)->Option Int)(d:∀(e:List Part) (r:Int),rec199 e=some r->Csm prog 34 [.rsl 3 (List.map Part.enc e)] [] (λr=>I r) r)(n:Nat)(e:List Part)(r:Int)(h:B_u rec199 n e=some r):
    Csm prog 34 [.rsl 3 (List.map Part.enc e)] [] (λr=>I r) r:=by
 refine Qc func34 Z Z Z ?_;refine G0 8 Z (Lm Z (Go 9 Z (Bd h λb p h=>?_)));refine Ct b [] [] (λb=>[(3,I b)]) Ze Zf ?_ (λenv H f=>?_)
 .refine G0 1 Z ?_;refine Lp [] [0] (λg=>[(3,I g.1),(4,I g.2)]) Ze p Zf (Lr []) λg t a j=>?_;refine G0 2 Z (Bd a λi c a=>?_);refine Ct i [] [0,3,4] (λi=>[(14,.bool i)]) Ze Zf ?_ (λenv H f=>?_)
  .refine G0 3 Z (Lm Z (Go 2 Z (Is 11 c Z (λk c=>?_) (λk c=>?_))))
   .exact Go 4 Z (Cl c [])
   .exact Go 4 Z (Cl c [])
  refine Gx 1 Z (Ef f (CnS Z a (λl a=>?_) (λl a=>?_)))
  .refine Gc 2 Z (QB a ?_);obtain rfl:=Oj j a;exact Gx 1 Z (QX (Lr []))
  exact Gc 8 Z (Bd a λq m a=>IzE m (YG q) Z (Go 2 Z (Cz [] a (d _) Z λu s a=>Go 10 Z (Qz a (Lr [])))))
 refine Gx 1 Z (Ef f (Gc 3 Z ?_));refine vX (I (if 257<b then 257 else b)) (OpV.min Z Z Z Z) ?_;exact Go 4 Z (Rt h 2 [])
def F_u:Nat->(List Part)->Option Int
  |0=>λ_=>none
  |n+1=>B_u (F_u n) n
theorem k_u(n:Nat):∀(a:List Part) (r:Int),F_u n a=some r->Csm prog 34 [.rsl 3 (List.map Part.enc a)] [] (λr=>I r) r:=by
  induction n with
  |zero=>intro a r h;cases h
  |succ n ih=>intro a r h;exact QaZ _ ih n a r h
def F_de(n:Nat)(c:List Part)(d:Int)(rec200:(List Part)->Int->Option Int)(a:Int×Int):Option (Ctl (Int×Int) Int):=
  ((bif decide (a.2<(c.length:Int))then some (decide (0<d))else some false):Option Bool).bind λe=>(bif e then(idx c a.2).bind λf=>((bif ((f.Parts.length:Int) != 0)then(idx c a.2).bind λg=>(rec200 g.Parts (IntKind.i64.wrap (d-1))).bind λb=>some (if a.1<IntKind.i64.wrap (1+b)then IntKind.i64.wrap (1+b)else a.1)else some a.1):Option Int).bind λh=>some (.cont (h,IntKind.i64.wrap (a.2+1)))else some (.done a.1))
def B_p(rec200:(List Part)->Int->Option Int)(n:Nat)(b:List Part)(c:Int):Option Int:=
  (iter (F_de n b c rec200) n (0,0):Option Int).bind λa=>some a
theorem QaY(rec200:(List Part)->Int->Option Int)(f:∀(g:List Part) (i:Int) (r:Int),rec200 g i=some r->Csm prog 35 [.rsl 3 (List.map Part.enc g),I i] [] (λr=>I r) r)(n:Nat)(g:List Part)(i:Int)(r:Int)(h:B_p rec200 n g i=some r):
    Csm prog 35 [.rsl 3 (List.map Part.enc g),I i] [] (λr=>I r) r:=by
 refine Qc func35 Z Z Z ?_;refine G0 16 Z (Bd h λj x h=>?_);refine Ct j [] [] (λj=>[(5,I j)]) Ze Zf ?_ (λenv H c=>?_)
 .refine G0 1 Z ?_;refine Lp [] [0,1] (λd=>[(5,I d.1),(6,I d.2)]) Ze x Zf (Lr []) λd E a p=>?_;refine G0 2 Z (Bd a λk e a=>?_);refine Ct k [] [0,1,5,6] (λk=>[(14,.bool k)]) Ze Zf ?_ (λenv H c=>?_)
  .refine G0 3 Z (Lm Z (Go 2 Z (Is 11 e Z (λq e=>?_) (λq e=>?_))))
   .exact Go 4 Z (Cl e [])
   .exact Go 4 Z (Cl e [])
  refine Gx 1 Z (Ef c (CnS Z a (λs a=>?_) (λs a=>?_)))
  .refine Gc 2 Z (QB a ?_);obtain rfl:=Oj p a;exact Gx 1 Z (QX (Lr []))
  refine Gc 8 Z (Bd a λy t a=>IzE t (YG y) Z (Go 2 Z (Lm Z (Go 3 Z (Bd a λl b a=>?_)))));refine Ct l [] [0,1,6] (λl=>[(5,I l)]) Ze Zf ?_ (λenv H c=>?_)
  .refine G0 0 Z (Cn Z b (λu b=>?_) (λu b=>?_))
   .refine Gc 4 Z (Bd b λz w b=>IzE w (YG z) Z (Go 4 Z (Cz [] b (f _ _) Z λm B b=>Go 1 Z ?_)));refine vX (I (if d.1<IntKind.i64.wrap (1+m)then IntKind.i64.wrap (1+m)else d.1)) (OpV.max Z Z Z Z) ?_;exact Go 2 Z (Cl b [])
   exact Gc 1 Z (Cl b [])
  exact Gx 2 Z (Ef c (Gc 5 Z (Qz a (Lr []))))
 exact Gx 1 Z (Ef c (Gc 7 Z (Rt h 4 [])))
def F_p:Nat->(List Part)->Int->Option Int
  |0=>λ_ _=>none
  |n+1=>B_p (F_p n) n
theorem k_p(n:Nat):∀(a:List Part) (b:Int) (r:Int),F_p n a b=some r->Csm prog 35 [.rsl 3 (List.map Part.enc a),I b] [] (λr=>I r) r:=by
  induction n with
  |zero=>intro a b r h;cases h
  |succ n ih=>intro a b r h;exact QaY _ ih n a b r h
def F_cp(n:Nat)(a:Cond):Option Bool:=
  ((bif (a.Kind==0)then(bif (a.Var==0)then(bif (a.N==0)then some ((a.Parts.length:Int)==0)else some false)else some false)else some false):Option Bool).bind λb=>some b
theorem k_cp(n:Nat)(d:Cond)(r:Bool)(h:F_cp n d=some r):
    Csm prog 104 [.agg (Cond.c d)] [] (λr=>.bool r) r:=by
 refine Qc func104 Z Z Z ?_;refine G0 7 Z (Bd h λb a h=>?_);refine Ct b [] [] (λb=>[(2,.bool b)]) Ze Zf ?_ (λenv H e=>?_)
 .refine G0 5 Z (Is 6 a Z (λf a=>?_) (λf a=>?_))
  .refine Go 5 Z (Is 11 a Z (λg a=>?_) (λg a=>?_))
   .refine Go 5 Z (Is 16 a Z (λi a=>?_) (λi a=>?_))
    .exact Go 2 Z (Lm Z (Go 4 Z (Cl a [])))
    .exact Go 7 Z (Cl a [])
   .exact Go 12 Z (Cl a [])
  .exact Go 17 Z (Cl a [])
 exact Gx 1 Z (Ef e (Gc 1 Z (Rt h 2 [])))
def F_ez(n:Nat)(b:Cond)(f:Int)(rec204:Cond->Int->Option Int)(a:Int×Int):Option (Ctl (Int×Int) Int):=
  ((bif decide (a.2<(b.Parts.length:Int))then some (decide (a.1<=256))else some false):Option Bool).bind λc=>(bif c then(idx b.Parts a.2).bind λd=>(rec204 d (IntKind.i64.wrap (f+1))).bind λe=>some (.cont (IntKind.i64.wrap (a.1+e),IntKind.i64.wrap (a.2+1)))else some (.done a.1))
def B_l(rec204:Cond->Int->Option Int)(n:Nat)(c:Cond)(a:Int):Option Int:=
  (bif decide (16<a)then some 1000 else(iter (F_ez n c a rec204) n (1,0):Option Int).bind λb=>some b)
theorem Qal(rec204:Cond->Int->Option Int)(d:∀(e:Cond) (f:Int) (r:Int),rec204 e f=some r->Csm prog 105 [.agg (Cond.c e),I f] [] (λr=>I r) r)(n:Nat)(e:Cond)(f:Int)(r:Int)(h:B_l rec204 n e f=some r):
    Csm prog 105 [.agg (Cond.c e),I f] [] (λr=>I r) r:=by
 refine Qc func105 Z Z Z ?_;refine G0 13 Z (Cn Z h (λs h=>?_) (λs h=>?_))
 .exact Gc 7 Z (Rt h 4 [])
 refine Gc 13 Z (Bd h λg t h=>?_);refine Ct g [] [] (λg=>[(5,I g)]) Ze Zf ?_ (λenv H i=>?_)
 .refine G0 1 Z ?_;refine Lp [0] [1,2] (λj=>[(5,I j.1),(6,I j.2)]) Ze t Zf (Lr [0]) λj x a l=>?_;refine G0 2 Z (Bd a λk b a=>?_);refine Ct k [0] [1,2,5,6] (λk=>[(17,.bool k)]) Ze Zf ?_ (λenv H i=>?_)
  .refine G0 4 Z (Lm Z (Go 2 Z (Is 14 b Z (λm b=>?_) (λm b=>?_))))
   .exact Go 4 Z (Cl b [0])
   .exact Go 4 Z (Cl b [0])
  refine Gx 1 Z (Ef i (CnS Z a (λp a=>?_) (λp a=>?_)))
  .refine Gc 2 Z (QB a ?_);obtain rfl:=Oj l a;exact Gx 1 Z (QX (Lr []))
  exact Gc 9 Z (Bd a λu q a=>IzE q (QaW u) Z (Go 3 Z (Cz [] a (d _ _) Z λy w a=>Go 10 Z (Qz a (Lr [0])))))
 exact Gx 1 Z (Ef i (Gc 7 Z (Rt h 4 [])))
def F_l:Nat->Cond->Int->Option Int
  |0=>λ_ _=>none
  |n+1=>B_l (F_l n) n
theorem k_l(n:Nat):∀(a:Cond) (b:Int) (r:Int),F_l n a b=some r->Csm prog 105 [.agg (Cond.c a),I b] [] (λr=>I r) r:=by
  induction n with
  |zero=>intro a b r h;cases h
  |succ n ih=>intro a b r h;exact Qal _ ih n a b r h
def F_el(n:Nat)(b:List Step)(e:Int)(rec202:(List Step)->Int->Option (Int×Int))(a:Int×Int×Int):Option (Ctl (Int×Int×Int) (Int×Int)):=
  ((bif decide (a.2.2<(b.length:Int))then(bif decide (a.1<=64)then some (decide (a.2.1<=256))else some false)else some false):Option Bool).bind λf=>(bif f then(idx b a.2.2).bind λg=>(rec202 g.Then (IntKind.i64.wrap (e+1))).bind λc=>(idx b a.2.2).bind λh=>(rec202 h.Else (IntKind.i64.wrap (e+1))).bind λd=>(idx b a.2.2).bind λi=>(F_cp n i.Cond).bind λj=>((bif (!j)then(idx b a.2.2).bind λk=>(F_l n k.Cond 0).bind λl=>some (IntKind.i64.wrap ((IntKind.i64.wrap ((IntKind.i64.wrap (a.2.1+c.2))+d.2))+l))else some (IntKind.i64.wrap ((IntKind.i64.wrap (a.2.1+c.2))+d.2))):Option Int).bind λm=>some (.cont (IntKind.i64.wrap ((IntKind.i64.wrap ((IntKind.i64.wrap (a.1+1))+c.1))+d.1),m,IntKind.i64.wrap (a.2.2+1)))else some (.done (a.1,a.2.1)))
def B_n(rec202:(List Step)->Int->Option (Int×Int))(n:Nat)(b:List Step)(c:Int):Option (Int×Int):=
  ((bif decide (0<(b.length:Int))then some (decide (16<c))else some false):Option Bool).bind λb2=>(bif b2 then some (1000,1000)else(iter (F_el n b c rec202) n (0,0,0):Option (Int×Int)).bind λa=>some (a.1,a.2))
theorem Qa6(rec202:(List Step)->Int->Option (Int×Int))(e:∀(i:List Step) (j:Int) (r:Int×Int),rec202 i j=some r->Csm prog 67 [.rsl 8 (List.map Step.enc i),I j] [] (λr=>.tup [I r.1,I r.2]) r)(n:Nat)(i:List Step)(j:Int)(r:Int×Int)(h:B_n rec202 n i j=some r):
    Csm prog 67 [.rsl 8 (List.map Step.enc i),I j] [] (λr=>.tup [I r.1,I r.2]) r:=by
 refine Qc func67 Z Z Z ?_;refine G0 8 Z (Bd h λb2 k h=>?_);refine Ct b2 [] [0,1] (λb2=>[(19,.bool b2)]) Ze Zf ?_ (λenv H d=>?_)
 .refine G0 2 Z (Lm Z (Go 2 Z (Is 16 k Z (λB k=>?_) (λB k=>?_))))
  .exact Go 4 Z (Cl k [])
  .exact Go 4 Z (Cl k [])
 refine Gx 1 Z (Ef d (Cn Z h (λE h=>?_) (λE h=>?_)))
 .refine Gc 8 Z ?_;obtain rfl:=Oi h;exact R2 4 5 Z Z (Lr [])
 refine Gc 18 Z (Bd h λf F h=>?_);refine Ct f [] [] (λf=>[(6,I f.1),(7,I f.2)]) Ze Zf ?_ (λenv H d=>?_)
 .refine G0 1 Z ?_;refine Lp [] [0,1] (λg=>[(6,I g.1),(7,I g.2.1),(8,I g.2.2)]) Ze F Zf (Lr []) λg R a p=>?_;refine G0 2 Z (Bd a λl b a=>?_);refine Ct l [] [0,1,6,7,8] (λl=>[(31,.bool l)]) Ze Zf ?_ (λenv H d=>?_)
  .refine G0 3 Z (Lm Z (Go 2 Z (Is 24 b Z (λq b=>?_) (λq b=>?_))))
   .refine Go 4 Z (Is 28 b Z (λs b=>?_) (λs b=>?_))
    .exact Go 4 Z (Cl b [])
    .exact Go 4 Z (Cl b [])
   .exact Go 8 Z (Cl b [])
  refine Gx 1 Z (Ef d (CnS Z a (λt a=>?_) (λt a=>?_)))
  .refine Gc 2 Z (QB a ?_);obtain rfl:=Oj p a;exact Gx 1 Z (QX (Lr []))
  refine Gc 8 Z (Bd a λG u a=>IzE u (YF G) Z (Go 4 Z (Cd [] a (e _ _) Z λT N a=>FE Z (Go 11 Z (Bd a λJ w a=>IzE w (YF J) Z (Go 4 Z (Cd [] a (e _ _) Z λV O a=>FE Z (Go 32 Z (Bd a λL x a=>IzE x (YF L) Z (Go 2 Z (Cz [] a (k_cp _ _) Z λW P a=>Go 3 Z (Bd a λm c a=>?_))))))))))));refine Ct m [] [0,1,6,8] (λm=>[(7,I m)]) Ze Zf ?_ (λenv H d=>?_)
  .refine G0 0 Z (Cn Z c (λy c=>?_) (λy c=>?_))
   .exact Gc 4 Z (Bd c λM z c=>IzE z (YF M) Z (Go 2 Z (Cz [] c (k_l _ _ _) Z λX Q c=>Go 3 Z (Cl c []))))
   exact Gc 1 Z (Cl c [])
  exact Gx 2 Z (Ef d (Gc 5 Z (Qz a (Lr []))))
 refine Gx 1 Z (Ef d (Gc 9 Z ?_));obtain rfl:=Oi h;exact R2 4 5 Z Z (Lr [])
def F_n:Nat->(List Step)->Int->Option (Int×Int)
  |0=>λ_ _=>none
  |n+1=>B_n (F_n n) n
theorem k_n(n:Nat):∀(a:List Step) (b:Int) (r:Int×Int),F_n n a b=some r->Csm prog 67 [.rsl 8 (List.map Step.enc a),I b] [] (λr=>.tup [I r.1,I r.2]) r:=by
  induction n with
  |zero=>intro a b r h;cases h
  |succ n ih=>intro a b r h;exact Qa6 _ ih n a b r h
def F_bx(n:Nat)(a:List Step):Option Bool:=
  (F_n n a 0).bind λb=>((bif decide ((a.length:Int)<=20)then(bif decide (b.1<=80)then some (decide (b.2<=300))else some false)else some false):Option Bool).bind λc=>some c
theorem k_bx(n:Nat)(c:List Step)(r:Bool)(h:F_bx n c=some r):
    Csm prog 36 [.rsl 8 (List.map Step.enc c)] [] (λr=>.bool r) r:=by
 refine Qc func36 Z Z Z ?_;refine G0 8 Z (Cd [] h (k_n _ _ _) Z λi g h=>FE Z (Go 8 Z (Bd h λb a h=>?_)));refine Ct b [] [] (λb=>[(2,.bool b)]) Ze Zf ?_ (λenv H d=>?_)
 .refine G0 2 Z (Lm Z (Go 2 Z (Is 13 a Z (λe a=>?_) (λe a=>?_))))
  .refine Go 4 Z (Is 17 a Z (λf a=>?_) (λf a=>?_))
   .exact Go 5 Z (Cl a [])
   .exact Go 5 Z (Cl a [])
  .exact Go 9 Z (Cl a [])
 exact Gx 1 Z (Ef d (Gc 1 Z (Rt h 2 [])))
def F_bt(n:Nat)(b:Course)(a:Int×Int):Option (Ctl (Int×Int) (Ctl Int Bool)):=
  ((bif decide (a.2<(b.Distances.length:Int))then some (decide (a.1<=200))else some false):Option Bool).bind λc=>(bif c then(idx b.Distances a.2).bind λd=>(idx b.Distances a.2).bind λe=>(F_u n e.Route).bind λf=>(idx b.Distances a.2).bind λg=>(F_p n g.Route 17).bind λh=>(bif decide (16<h)then some (.done (.done false))else some (.cont (IntKind.i64.wrap ((IntKind.i64.wrap (a.1+(d.Cutoffs.length:Int)))+f),IntKind.i64.wrap (a.2+1))))else some (.done (.cont a.1)))
def F_bn(n:Nat)(a:Course):Option Bool:=
  (iter (F_bt n a) n (IntKind.i64.wrap ((IntKind.i64.wrap ((IntKind.i64.wrap ((IntKind.i64.wrap ((IntKind.i64.wrap ((IntKind.i64.wrap ((a.Mats.length:Int)+(a.Legs.length:Int)))+(a.Distances.length:Int)))+(a.Waves.length:Int)))+(a.Offences.length:Int)))+(a.Categories.length:Int)))+(a.Prizes.length:Int)),0):Option (Ctl Int Bool)).bind λc=>match c with|.cont b=>(((bif decide (b<=200)then(bif decide ((a.Name.length:Int)<=100)then(F_bx n a.Ties).bind λd=>some d else some false)else some false):Option Bool).bind λe=>some e)|.done b=>some b
theorem k_bn(n:Nat)(q:Course)(r:Bool)(h:F_bn n q=some r):
    Csm prog 12 [.agg (Course.c q)] [] (λr=>.bool r) r:=by
 refine Qc func12 Z Z Z ?_;refine G0 10 Z (Lm Z (Go 2 Z (Lm Z (Go 3 Z (Lm Z (Go 3 Z (Lm Z (Go 3 Z (Lm Z (Go 3 Z (Lm Z (Go 3 Z (Lm Z (Go 10 Z (Bd h λF G h=>?_)))))))))))))));refine CtE (b:=F) [0] [1] (λj=>[(3,I j)]) Ze Zf ?_ (λj env H J f=>?_)
 .refine G0 1 Z ?_;refine Lp [0] [1] (λk=>[(3,I k.1),(4,I k.2)]) Ze G Zf (Lr [0]) λk O a l=>?_;refine G0 2 Z (Bd a λm g a=>?_);refine Ct m [0] [1,3,4] (λm=>[(40,.bool m)]) Ze Zf ?_ (λenv H f=>?_)
  .refine G0 4 Z (Lm Z (Go 2 Z (Is 37 g Z (λs g=>?_) (λs g=>?_))))
   .exact Go 4 Z (Cl g [0])
   .exact Go 4 Z (Cl g [0])
  refine Gx 1 Z (Ef f (CnS Z a (λt a=>?_) (λt a=>?_)))
  .refine Gc 2 Z (QB a ?_);obtain rfl:=Oj l a;exact Gx 1 Z (QE Z (Lr [0]))
  refine Gc 5 Z (DSs 16 Z (D 4 Z ?_));obtain⟨e,u,a⟩:=Y3 a;refine DS.wo (x:=.rp [.str e.Name,.rsl 3 (List.map Part.enc e.Route),I e.Timing,.rsl 3 (List.map Cutoff.c e.Cutoffs),I e.Extra]) ?_ ?_
  .exact Ix u runUnderlying24 sizeOf111 Z Wp
  refine D 2 Z ?_;refine DS.wo (x:=I (e.Cutoffs.length:Int)) ?_ ?_
  .exact LnM runUnderlying109 Z Wp
  refine D 4 Z ?_;obtain⟨i,w,a⟩:=Y3 a;refine DS.wo (x:=.rp [.str i.Name,.rsl 3 (List.map Part.enc i.Route),I i.Timing,.rsl 3 (List.map Cutoff.c i.Cutoffs),I i.Extra]) ?_ ?_
  .exact Ix w runUnderlying24 sizeOf111 Z Wp
  refine D 2 Z ?_;refine Dz [] a (k_u _ _) Z λP L a=>Eh Z (Go 9 Z (Bd a λQ y a=>Iz y Z (Go 2 Z (Cz [] a (k_p _ _ _) Z λR M a=>Go 3 Z (Cn Z a (λz a=>?_) (λz a=>?_))))))
  .refine Gc 8 Z (Ye a ?_);obtain rfl:=Oj l a;exact Gx 1 Z (QY (Gx 1 Z (Rt h 2 [])))
  exact Gc 8 Z (Qz a (Lr [0]))
 subst J;refine Gx 1 Z (Ef f (Gc 1 Z (Bd h λp d h=>?_)));refine Ct p [] [] (λp=>[(2,.bool p)]) Ze Zf ?_ (λenv H f=>?_)
 .refine G0 4 Z (Is 70 d Z (λB d=>?_) (λB d=>?_))
  .refine Go 2 Z ?_;refine vX (I (q.Name.length:Int)) (QaN Z Z runUnderlying9 Z) ?_ (gT Z);refine Go 3 Z (Is 76 d Z (λE d=>?_) (λE d=>?_))
   .exact Go 2 Z (Cz [] d (k_bx _ _) Z λT N d=>Go 3 Z (Cl d []))
   .exact Go 6 Z (Cl d [])
  .exact Go 12 Z (Cl d [])
 exact Gx 1 Z (Ef f (Gc 1 Z (Rt h 2 [])))
def F_be(n:Nat)(a:Int):Option Bool:=
  ((bif decide (a<(-1152921504606846976))then some true else some (decide (1152921504606846976<a))):Option Bool).bind λb2=>some b2
theorem k_be(n:Nat)(b:Int)(r:Bool)(h:F_be n b=some r):
    Csm prog 63 [I b] [] (λr=>.bool r) r:=by
 refine Qc func63 Z Z Z ?_;refine G0 6 Z (Bd h λb2 a h=>?_);refine Ct b2 [] [] (λb2=>[(2,.bool b2)]) Ze Zf ?_ (λenv H c=>?_)
 .refine G0 4 Z (Is 5 a Z (λd a=>?_) (λd a=>?_))
  .exact Go 5 Z (Cl a [])
  .exact Go 5 Z (Cl a [])
 exact Gx 1 Z (Ef c (Gc 1 Z (Rt h 2 [])))
def F_ir(n:Nat)(b:List Int)(a:Int):Option (Ctl Int (Ctl Unit Int)):=
  (bif decide (a<(b.length:Int))then(idx b a).bind λc=>(F_be n c).bind λd=>(bif d then some (.done (.done a))else some (.cont (IntKind.i64.wrap (a+1))))else some (.done (.cont ())))
def F_fo(n:Nat)(c:List Int):Option Int:=
  (iter (F_ir n c) n 0:Option (Ctl Unit Int)).bind λb=>match b with|.cont a=>(some (-1))|.done a=>some a
theorem k_fo(n:Nat)(a:List Int)(r:Int)(h:F_fo n a=some r):
    Csm prog 99 [.rsl 1 (List.map (Qe .i64) a),.fn (.func 63) [] []] [] (λr=>I r) r:=
 QS (el:=λx=>I x) (g:=λx=>F_be n x) func99 Z Z Z runUnderlying66 sizeOf3 (λ_ _ _ _ b c=>Ey b isAgg3 c Pts.rp) call63 (λ_ _ h=>k_be _ _ _ h) h
def F_gh(n:Nat)(a:List Int):Option Bool:=
  (F_fo n a).bind λb=>some (decide (0<=b))
theorem k_gh(n:Nat)(a:List Int)(r:Bool)(h:F_gh n a=some r):
    Csm prog 57 [.rsl 1 (List.map (Qe .i64) a),.fn (.func 63) [] []] [] (λr=>.bool r) r:=by
 refine Qc func57 Z Z Z ?_;exact G0 9 Z (Cz [] h (k_fo _ _) Z λc b h=>Go 5 Z (Rt h 4 []))
def F_bc(n:Nat)(a:Edge)(b:List Int):Option Bool:=
  (idx b a.To).bind λc=>(idx b a.From).bind λd=>some (decide ((IntKind.i64.wrap (d+a.W))<c))
theorem k_bc(n:Nat)(a:Edge)(b:List Int)(r:Bool)(h:F_bc n a b=some r):
    Csm prog 64 [.agg (Edge.c a),.ptr 0 0] [.cells 66 [.rsl 1 (List.map (Qe .i64) b)]] (λr=>.bool r) r:=by
 refine Qc func64 Z Z Z ?_;refine G0 7 Z (DSs 13 Z (D 3 Z ?_));obtain⟨f,d,h⟩:=Y3 h;refine DS.wo (x:=.rp [I f]) ?_ ?_
 .exact Ix d runUnderlying66 sizeOf3 Z Wp
 refine D 4 Z ?_;obtain⟨g,e,h⟩:=Y3 h;refine DS.wo (x:=.rp [I g]) ?_ ?_
 .exact Ix e runUnderlying66 sizeOf3 Z Wp
 exact D 4 Z (Eh Z (Go 5 Z (Rt h 3 [0])))
def F_hy(n:Nat)(b:List Edge)(e:List Int)(a:Int):Option (Ctl Int (Ctl Unit Int)):=
  (bif decide (a<(b.length:Int))then(idx b a).bind λc=>(F_bc n c e).bind λd=>(bif d then some (.done (.done a))else some (.cont (IntKind.i64.wrap (a+1))))else some (.done (.cont ())))
def F_gl(n:Nat)(c:List Edge)(d:List Int):Option Int:=
  (iter (F_hy n c d) n 0:Option (Ctl Unit Int)).bind λb=>match b with|.cont a=>(some (-1))|.done a=>some a
theorem k_gl(n:Nat)(b:List Edge)(a:List Int)(r:Int)(h:F_gl n b a=some r):
    Csm prog 103 [.rsl 3 (List.map Edge.c b),.fn (.func 64) [] [.ptr 0 0]] [.cells 66 [.rsl 1 (List.map (Qe .i64) a)]] (λr=>I r) r:=
 QS (el:=λx=>.agg (Edge.c x)) (g:=λx=>F_bc n x a) func103 Z Z Z runUnderlying49 sizeOf70 (λ_ _ _ _ d e=>Qt d isAgg70 sizeOf70 e Pts.rp Z Z) call64 (λ_ _ h=>k_bc _ _ _ _ h) h
def F_fx(n:Nat)(a:List Edge)(b:List Int):Option Bool:=
  (F_gl n a b).bind λc=>some (decide (0<=c))
theorem k_fx(n:Nat)(a:List Edge)(b:List Int)(r:Bool)(h:F_fx n a b=some r):
    Csm prog 65 [.rsl 3 (List.map Edge.c a),.fn (.func 64) [] [.ptr 0 0]] [.cells 66 [.rsl 1 (List.map (Qe .i64) b)]] (λr=>.bool r) r:=by
 refine Qc func65 Z Z Z ?_;exact G0 9 Z (Cz [0] h (k_gl _ _ _) Z λe d h=>Go 5 Z (Rt h 4 [0]))
def F_cr(n:Nat)(b:System)(a:List Int):Option (Bool×Int):=
  (F_ak n b).bind λc=>(bif (c != 0)then some (false,c)else((bif ((a.length:Int) != b.Vertices)then some true else(idx a 0).bind λd=>(bif (d != 0)then some true else(F_gh n a).bind λe=>some e)):Option Bool).bind λg=>(bif g then some (false,0)else(F_fx n b.Edges a).bind λf=>some ((!f),0)))
theorem k_cr(n:Nat)(g:System)(i:List Int)(r:Bool×Int)(h:F_cr n g i=some r):
    Csm prog 30 [.agg (System.c g),.rsl 1 (List.map (Qe .i64) i)] [] (λr=>.tup [.bool r.1,I r.2]) r:=by
 refine Qc func30 Z Z Z ?_;refine G0 3 Z ?_;refine vH (OpH.box Z Z Z Z Z) ?_;refine FE Z (Go 8 Z (Cz [] h (k_ak _ _) Z λw q h=>Go 9 Z (Cn Z h (λj h=>?_) (λj h=>?_))))
 .refine Gc 9 Z ?_;obtain rfl:=Oi h;exact R2 4 5 Z Z (Lr [])
 refine Gc 9 Z (Bd h λb a h=>?_);refine Ct b [0,1] [2,3] (λb=>[(29,.bool b)]) Ze Zf ?_ (λenv H k=>?_)
 .refine G0 2 Z (Lm Z (Go 4 Z (Is 19 a Z (λl a=>?_) (λl a=>?_))))
  .exact Go 11 Z (Cl a [0,1])
  .refine Go 1 Z (Bd a λs d a=>Iz d Z (Go 4 Z (Is 25 a Z (λe a=>?_) (λe a=>?_))))
   .exact Go 5 Z (Cl a [0,1])
   .exact Go 2 Z (Cz [] a (k_gh _ _) Z λt m a=>Go 2 Z (Cl a [0,1]))
 refine Gx 1 Z (Ef k (Cn Z h (λf h=>?_) (λf h=>?_)))
 .refine Gc 8 Z ?_;obtain rfl:=Oi h;exact R2 4 5 Z Z (Lr [])
 refine Gc 13 Z (Cz [1] h (k_fx _ _ _) Z λu p h=>Go 6 Z ?_);obtain rfl:=Oi h;exact R2 4 5 Z Z (Lr [])
def F_dl(n:Nat)(e:Course)(j:List Fact)(k:List Int)(l:Int)(f:Int)(c:Int):Option Bool:=
  (F_fw 300).bind λt=>(bif (!t)then some false else((F_bn n e).bind λu=>(bif (!u)then some true else some (decide (14<(j.length:Int)))):Option Bool).bind λw=>(bif w then some true else(F_g n e j).bind λb=>(F_w n e j).bind λg=>((bif (b.2.2 != 0)then some true else(bif (g.2.2 != 0)then some true else some ((b.1.length:Int)==0))):Option Bool).bind λm=>(bif m then some true else(F_cr n ({Vertices:=g.1,Edges:=g.2.1:System}) k).bind λh=>((bif (!h.1)then some true else(bif (h.2 != 0)then some true else some ((k.length:Int) != (IntKind.i64.wrap ((b.1.length:Int)+1))))):Option Bool).bind λp=>(bif p then some true else(nz (IntKind.u64.wrap (b.1.length:Int))).bind λx=>(idx b.1 (IntKind.i64.wrap (Int.tmod l (IntKind.u64.wrap (b.1.length:Int))))).bind λq=>(F_ai n e q f).bind λa=>(F_av n e ({Segments:=b.1,Far:=b.2.1:Clocks}) (IntKind.i64.wrap (Int.tmod l (IntKind.u64.wrap (b.1.length:Int)))) ({Lo:=f,Hi:=f:Span})).bind λd=>((bif (a.2 != 0)then some true else some (d.2 != 0)):Option Bool).bind λr=>(bif r then some (a.2==d.2)else(idx k (IntKind.i64.wrap ((IntKind.i64.wrap (Int.tmod l (IntKind.u64.wrap (b.1.length:Int))))+1))).bind λi=>((bif decide (d.1.Lo<=(IntKind.i64.wrap ((IntKind.i64.wrap (f+i))+(if a.1.Lo<(if a.1.Hi<c then a.1.Hi else c)then(if a.1.Hi<c then a.1.Hi else c)else a.1.Lo))))then some (decide ((IntKind.i64.wrap ((IntKind.i64.wrap (f+i))+(if a.1.Lo<(if a.1.Hi<c then a.1.Hi else c)then(if a.1.Hi<c then a.1.Hi else c)else a.1.Lo)))<=d.1.Hi))else some false):Option Bool).bind λs=>some s)))))
theorem k_dl(n:Nat)(g:Course)(T:List Fact)(V:List Int)(p:Int)(z:Int)(i:Int)(r:Bool)(h:F_dl n g T V p z i=some r):
    Csm prog 9 [.agg (Course.c g),.rsl 57 (List.map Fact.c T),.rsl 1 (List.map (Qe .i64) V),.int .u64 p,I z,I i] [] (λr=>.bool r) r:=by
 refine Qc func9 Z Z Z ?_;refine G0 9 Z (Cz [] h (k_fw _) Z λr1 af h=>Go 3 Z (Cn Z h (λW h=>?_) (λW h=>?_)))
 .exact Gc 7 Z (Rt h 12 [])
 refine Gc 4 Z (Bd h λB l h=>?_);refine Ct B [0] [1,2,3,4,5,6] (λB=>[(34,.bool B)]) Ze Zf ?_ (λenv H d=>?_)
 .refine G0 2 Z (Cz [] l (k_bn _ _) Z λr7 ag l=>Go 2 Z (Is 30 l Z (λX l=>?_) (λX l=>?_)))
  .exact Go 5 Z (Cl l [0])
  .exact Go 1 Z (Lm Z (Go 3 Z (Cl l [0])))
 refine Gx 1 Z (Ef d (Cn Z h (λY h=>?_) (λY h=>?_)))
 .exact Gc 7 Z (Rt h 12 [])
 refine Gc 6 Z (Cd [] h (k_g _ _ _) Z λb ab h=>FE Z (Go 12 Z (Cd [] h (k_w _ _ _) Z λah ac h=>FE Z (Go 10 Z (Bd h λq e h=>?_)))));refine Ct q [0,2,4] [2,3,4,5,6,13,15] (λq=>[(58,.bool q)]) Ze Zf ?_ (λenv H d=>?_)
 .refine G0 4 Z (Is 49 e Z (λE e=>?_) (λE e=>?_))
  .exact Go 10 Z (Cl e [0,2,4])
  .refine Go 4 Z (Is 53 e Z (λF e=>?_) (λF e=>?_))
   .exact Go 6 Z (Cl e [0,2,4])
   .exact Go 2 Z (Lm Z (Go 3 Z (Cl e [0,2,4])))
 refine Gx 1 Z (Ef d (Cn Z h (λG h=>?_) (λG h=>?_)))
 .exact Gc 7 Z (Rt h 12 [])
 refine Gc 7 Z (Cd [] h (k_cr _ _ _) Z λai ad h=>FE Z (Go 8 Z (Bd h λs f h=>?_)));refine Ct s [0,1] [2,3,4,5,6,13] (λs=>[(79,.bool s)]) Ze Zf ?_ (λenv H d=>?_)
 .refine G0 4 Z (Is 67 f Z (λJ f=>?_) (λJ f=>?_))
  .exact Go 13 Z (Cl f [0,1])
  .refine Go 4 Z (Is 71 f Z (λL f=>?_) (λL f=>?_))
   .exact Go 9 Z (Cl f [0,1])
   .exact Go 1 Z (Lm Z (Go 2 Z (Lm Z (Go 4 Z (Cl f [0,1])))))
 refine Gx 1 Z (Ef d (Cn Z h (λM h=>?_) (λM h=>?_)))
 .exact Gc 7 Z (Rt h 12 [])
 refine Gc 7 Z (Lm Z ?_);refine vX (.int .u64 (IntKind.u64.wrap (b.1.length:Int))) (YE Z runUnderlying3 runUnderlying97 Z) ?_;refine Bd h λaj N h=>?_;refine vX (.int .u64 (Int.tmod p (IntKind.u64.wrap (b.1.length:Int)))) (OpV.rem Z Z Z (nz_ok N)) ?_;refine vV (x:=(I (IntKind.i64.wrap (Int.tmod p (IntKind.u64.wrap (b.1.length:Int)))))) (YE Z runUnderlying97 runUnderlying3 Z) ?_;refine Go 4 Z ?_;obtain⟨m,t,h⟩:=Y3 h;obtain⟨a,u,h⟩:=Y3 h;refine Y0 13 1 [88,89,90,91,92,93,94,95,87,96,97,20,1000012] [false,false,false,false,false,false,false,true,false,false,false,true,true] [[],[],[],[],[],[],[],[],[7],[7],[7],[],[7,11]] [[],[7],[11],[7,11],[7,11,12]] [[(0,0),(2,2)],[(0,0),(2,2)],[(0,0),(2,2)],[(0,0),(2,2)],[(0,0),(2,2)],[(0,0),(2,2)],[(0,0),(2,2)],[(0,1),(2,3)],[(1,1),(3,3)],[(1,1),(3,3)],[(1,1),(3,3),(4,4)],[(0,2),(1,3)],[(3,4)]] [.agg (Course.c g),.ptr 1 0,.rsl 3 (List.map Segment.c b.1),I (IntKind.i64.wrap (Int.tmod p (IntKind.u64.wrap (b.1.length:Int)))),.rp [I m.Mat,I m.Epoch,I m.Anchor],.agg (Segment.c m),I z,.tup [.agg [I a.1.Lo,I a.1.Hi],I a.2],.tup [.agg [I a.1.Lo,I a.1.Hi],I a.2],.agg [I a.1.Lo,I a.1.Hi],I a.2,.ptr 2 0,.any] [[.cells 33 (Course.c g),.cells 58 [.rsl 3 (List.map Segment.c b.1),.rsl 1 (List.map (Ql 1 (Qe .i64)) b.2.1)],.dead],[.cells 33 (Course.c g),.cells 58 [.rsl 3 (List.map Segment.c b.1),.rsl 1 (List.map (Ql 1 (Qe .i64)) b.2.1)],.dead,.cells 44 [I a.1.Lo,I a.1.Hi]],[.cells 33 (Course.c g),.cells 58 [.rsl 3 (List.map Segment.c b.1),.rsl 1 (List.map (Ql 1 (Qe .i64)) b.2.1)],.cells 44 [I 0,I 0]],[.cells 33 (Course.c g),.cells 58 [.rsl 3 (List.map Segment.c b.1),.rsl 1 (List.map (Ql 1 (Qe .i64)) b.2.1)],.cells 44 [I 0,I 0],.cells 44 [I a.1.Lo,I a.1.Hi]],[.cells 33 (Course.c g),.cells 58 [.rsl 3 (List.map Segment.c b.1),.rsl 1 (List.map (Ql 1 (Qe .i64)) b.2.1)],.cells 44 [I a.1.Lo,I a.1.Hi],.cells 44 [I a.1.Lo,I a.1.Hi]]] ([.cells 33 (Course.c g),.cells 58 [.rsl 3 (List.map Segment.c b.1),.rsl 1 (List.map (Ql 1 (Qe .i64)) b.2.1)],.cells 44 [I a.1.Lo,I a.1.Hi],.cells 44 [I a.1.Lo,I a.1.Hi]]) draws Z Z Z Z Z Z Z ?_ Z ?_
 .refine Qhj.cons (Qb (v0 Z Z) (Qb (v0 Z Z) (Qf))) (Qhj.cons (Qb (v0 Z Z) (Qb (v0 Z Z) (Qf))) (Qhj.cons (Qb (v0 Z Z) (Qb (v0 Z Z) (Qf))) (Qhj.cons (Qb (v0 Z Z) (Qb (v0 Z Z) (Qf))) (Qhj.cons ?_ (Qhj.cons (Qb (v0 Z Z) (Qb (v0 Z Z) (Qf))) (Qhj.cons (Qb (v0 Z Z) (Qb (v0 Z Z) (Qf))) (Qhj.cons ?_ (Qhj.cons (Qb (v0 Z Z) (Qb (v0 Z Z) (Qf))) (Qhj.cons (Qb (v0 Z Z) (Qb (v0 Z Z) (Qf))) (Qhj.cons (Qb (v0 Z Z) (Qb (v0 Z Z) (Qb (v0 Z Z) (Qf)))) (Qhj.cons ?_ (Qhj.cons ?_ (Qhj.nil)))))))))))))
  .refine Qb ?_ (Qb ?_ (Qf))
   .refine Om Z (sD 2 (sD 3 sN)) ?_;exact Ix t runUnderlying39 sizeOf36 Z Wp
   .refine Om Z (sD 2 (sD 3 sN)) ?_;exact Ix t runUnderlying39 sizeOf36 Z Wp
  .refine Qb ?_ (Qb ?_ (Qf))
   .refine Om1 Z (sD 0 (sD 5 (sD 6 sN))) ?_;refine Qp [] (OpC.fn call15 Z Z Z) (k_ai _ _ _ _ _ u) ?_;rintro _ _ ⟨rfl,rfl⟩;exact FE Z Wp
   .refine Om1 Z (sD 0 (sD 5 (sD 6 sN))) ?_;refine Qp [] (OpC.fn call15 Z Z Z) (k_ai _ _ _ _ _ u) ?_;rintro _ _ ⟨rfl,rfl⟩;exact FE Z Wp
  .refine Qb ?_ (Qb ?_ (Qf))
   .exact Jd.alloc _ 20 44 2 _ Z Z Z Z Z Z Z (OpZ.alloc (v:=(.agg [I 0,I 0])) zeroValue44 (zrC Z)) Z
   .exact Jd.alloc _ 20 44 2 _ Z Z Z Z Z Z Z (OpZ.alloc (v:=(.agg [I 0,I 0])) zeroValue44 (zrC Z)) Z
  .refine Qb ?_ (Qf)
   .refine Om2 Z (sD 11 (sD 9 sN)) ?_;refine vU (Ex Z Z Z sizeOf44 Z Z Z Z Z Z Z) ?_;exact FE Z Wp
 refine Go 11 Z (Cd [] h (k_av _ _ _ _ _) Z λak ae h=>FE Z (Go 10 Z (Bd h λw j h=>?_)));refine Ct w [2,5] [2,4,5,19,20,21,22,23] (λw=>[(113,.bool w)]) Ze Zf ?_ (λenv H d=>?_)
 .refine G0 4 Z (Is 110 j Z (λO j=>?_) (λO j=>?_))
  .exact Go 4 Z (Cl j [2,5])
  .exact Go 4 Z (Cl j [2,5])
 refine Gx 1 Z (Ef d (Cn Z h (λP h=>?_) (λP h=>?_)))
 .exact Gc 10 Z (Rt h 12 [])
 refine Gc 3 Z (DSs 14 Z (D 4 Z ?_));obtain⟨aa,Q,h⟩:=Y3 h;refine DS.wo (x:=.rp [I aa]) ?_ ?_
 .exact Ix Q runUnderlying66 sizeOf3 Z Wp
 refine D 7 Z ?_;refine DS.v (x:=(I (if a.1.Hi<i then a.1.Hi else i))) (OpV.min Z Z Z Z) ?_;refine DS.v (x:=(I (if a.1.Lo<(if a.1.Hi<i then a.1.Hi else i)then(if a.1.Hi<i then a.1.Hi else i)else a.1.Lo))) (OpV.max Z Z Z Z) ?_;refine Eh Z (Go 5 Z (Bd h λy k h=>?_));refine Ct y [] [] (λy=>[(12,.bool y)]) Ze Zf ?_ (λenv H d=>?_)
 .refine G0 6 Z (Is 136 k Z (λR k=>?_) (λR k=>?_))
  .exact Go 7 Z (Cl k [])
  .exact Go 7 Z (Cl k [])
 exact Gx 1 Z (Ef d (Gc 1 Z (Rt h 12 [])))
end Go.Sw
