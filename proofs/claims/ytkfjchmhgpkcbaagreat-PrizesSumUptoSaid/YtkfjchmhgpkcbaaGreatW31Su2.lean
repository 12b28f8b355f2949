/- What the functions compute that PrizesSum reaches, and that their calls refine it (part 2 of 3). -/
import Derived.Test.YtkfjchmhgpkcbaaGreatW31Su1
set_option linter.unusedVariables false
set_option linter.unusedSimpArgs false
set_option maxRecDepth 100000
set_option maxHeartbeats 4000000
namespace Go.Sw
open Go.Proofs Tryz
def F_ao(n:Nat)(c:List Int)(a:Int):Option (Ctl Int (Ctl Unit Int)):=
  (bif decide (a<(c.length:Int))then(idx c a).bind λb=>(bif (b != 0)then some (.done (.done b))else some (.cont (IntKind.i64.wrap (a+1))))else some (.done (.cont ())))
def F_n(n:Nat)(b:List Int):Option Int:=
  (iter (F_ao n b) n 0:Option (Ctl Unit Int)).bind λc=>match c with|.cont a=>(some 0)|.done a=>some a
theorem k_n(n:Nat)(i:List Int)(r:Int)(h:F_n n i=some r):
    Csm prog 86 [.rsl 1 (List.map (Qd .i64) i)] [] (λr=>I r) r:=by
 refine Qb func86 Z Z Z ?_;refine G0 14 Z (Lm Z (Go 3 Z (Bd h λl m h=>?_)));refine Ja (b:=l) [] [3] Ze Ze Zf ?_ (λp env H j k=>?_)
 .refine G0 1 Z ?_;refine Lp [] [3,6,7] (λd=>[(8,I d)]) Ze m Zf (Lr []) λd q a c=>?_;refine G0 6 Z (Ya Z a (λe a=>?_) (λe a=>?_))
  .refine Gc 2 Z (Qk a ?_);obtain rfl:=Oj c a;exact Gx 1 Z (Qp Z (Lr []))
  refine Gc 6 Z (Bd a λs f a=>Iz f Z (Go 11 Z (Cn Z a (λg a=>?_) (λg a=>?_))))
  .refine Gc 9 Z (Qn a ?_);obtain rfl:=Oj c a;exact Gx 1 Z (Qm (Gx 1 Z (Rt h 2 [])))
  exact Gc 7 Z (Qj a (Lr []))
 subst j;exact Gx 1 Z (Ef k (Gc 7 Z (Rt h 2 [])))
def F_et(n:Nat)(a:clocks_place)(b:clocks_place):Option Int:=
  (F_e n a.mat b.mat).bind λr1=>(F_e n a.epoch b.epoch).bind λr2=>(F_n n [r1,r2]).bind λc=>some c
theorem k_et(n:Nat)(a:clocks_place)(b:clocks_place)(r:Int)(h:F_et n a b=some r):
    Csm prog 257 [.agg (clocks_place.c a),.agg (clocks_place.c b)] [] (λr=>I r) r:=by
 refine Qb func257 Z Z Z ?_;refine G0 8 Z (DSs 9 Z (D 4 Z ?_));refine Dz [] h (k_e _ _ _) Z λr1 d h=>D 4 Z (Eh Z (Cz [] h (k_e _ _ _) Z λr2 e h=>?_));refine vH (QcN (xs:=[.tmp 9,.tmp 14]) (es:=List.map (Qd .i64) [r1,r2]) Qv Z Z Z Z Z ⟨Z,Z,trivial⟩ Z Z) ?_;exact FE Z (Cz [] h (k_n _ _) Z λg f h=>Go 4 Z (Rt h 4 []))
def F_ba(n:Nat)(a:Segment)(b:Segment):Option Int:=
  (F_et n ({mat:=a.Mat,epoch:=a.Epoch:clocks_place}) ({mat:=b.Mat,epoch:=b.Epoch:clocks_place})).bind λr1=>some r1
theorem k_ba(n:Nat)(a:Segment)(b:Segment)(r:Int)(h:F_ba n a b=some r):
    Csm prog 207 [.agg (Segment.c a),.agg (Segment.c b)] [] (λr=>I r) r:=by
 refine Qb func207 Z Z Z ?_;exact G0 19 Z (Cz [] h (k_et _ _ _) Z λr1 d h=>Go 4 Z (Rt h 4 []))
def F_ay(n:Nat)(a:Int):Option Bool:=
  ((bif decide (a<(-2199023255552))then some true else some (decide (2199023255552<a))):Option Bool).bind λb=>some b
theorem k_ay(n:Nat)(c:Int)(r:Bool)(h:F_ay n c=some r):
    Csm prog 208 [I c] [] (λr=>.bool r) r:=by
 refine Qb func208 Z Z Z ?_;refine G0 6 Z (Bd h λb a h=>?_);refine Ct b [] [] (λb=>[(2,.bool b)]) Ze Zf ?_ (λenv H d=>?_)
 .refine G0 4 Z (Is 5 a Z (λe a=>?_) (λe a=>?_))
  .exact Go 5 Z (Cl a [])
  .exact Go 5 Z (Cl a [])
 exact Gx 1 Z (Ef d (Gc 1 Z (Rt h 2 [])))
def F_lf(n:Nat)(b:List Int)(a:Int):Option (Ctl Int (Ctl Unit Int)):=
  (bif decide (a<(b.length:Int))then(idx b a).bind λc=>(F_ay n c).bind λd=>(bif d then some (.done (.done a))else some (.cont (IntKind.i64.wrap (a+1))))else some (.done (.cont ())))
def F_fo(n:Nat)(c:List Int):Option Int:=
  (iter (F_lf n c) n 0:Option (Ctl Unit Int)).bind λb=>match b with|.cont a=>(some (-1))|.done a=>some a
theorem k_fo(n:Nat)(a:List Int)(r:Int)(h:F_fo n a=some r):
    Csm prog 226 [.rsl 1 (List.map (Qd .i64) a),.fn (.func 208) [] []] [] (λr=>I r) r:=
 QJ (el:=λx=>I x) (g:=λx=>F_ay n x) func226 Z Z Z runUnderlying32 sizeOf3 (λ_ _ _ _ b c=>Ey b isAgg3 c Pts.rp) call208 (λ_ _ h=>k_ay _ _ _ h) h
def F_bb(n:Nat)(a:List Int):Option Bool:=
  (F_fo n a).bind λr1=>some (decide (0<=r1))
theorem k_bb(n:Nat)(a:List Int)(r:Bool)(h:F_bb n a=some r):
    Csm prog 147 [.rsl 1 (List.map (Qd .i64) a),.fn (.func 208) [] []] [] (λr=>.bool r) r:=by
 refine Qb func147 Z Z Z ?_;exact G0 9 Z (Cz [] h (k_fo _ _) Z λr1 b h=>Go 5 Z (Rt h 4 []))
def F_hq(n:Nat)(c:Clocks)(b:Int):Option (Ctl Int (Ctl Unit Int)):=
  (bif decide (b<(c.Segments.length:Int))then(idx c.Segments b).bind λa=>((bif decide (a.Mat<0)then some true else(bif decide (40<=a.Mat)then some true else(bif decide (a.Epoch<0)then some true else(bif decide (255<a.Epoch)then some true else(F_ax n a.Anchor).bind λd=>(bif (!d)then some true else(bif decide (0<b)then(idx c.Segments (IntKind.i64.wrap (b-1))).bind λe=>(F_ba n e a).bind λf=>some (decide (0<=f))else some false)))))):Option Bool).bind λg=>(bif g then some (.done (.done 160))else some (.cont (IntKind.i64.wrap (b+1))))else some (.done (.cont ())))
def F_it(n:Nat)(c:Clocks)(a:Int):Option (Ctl Int (Ctl Unit Int)):=
  (bif decide (a<(c.Far.length:Int))then(idx c.Far a).bind λb=>((bif ((b.length:Int) != (IntKind.i64.wrap ((c.Segments.length:Int)+1)))then some true else(idx b a).bind λd=>(bif (d != 0)then some true else(F_bb n b).bind λe=>some e)):Option Bool).bind λf=>(bif f then some (.done (.done 160))else some (.cont (IntKind.i64.wrap (a+1))))else some (.done (.cont ())))
def F_kj(n:Nat)(h:Clocks)(c:Int)(d:Int)(b:List Int)(a:Int):Option (Ctl Int (Ctl Unit (Ctl Int (Ctl Unit (Ctl Int (Ctl Unit Int)))))):=
  (bif decide (a<(b.length:Int))then(idx b a).bind λe=>(idx h.Far c).bind λf=>(idx f a).bind λg=>(bif decide ((IntKind.i64.wrap (d+e))<g)then some (.done (.done (.done (.done (.done (.done 160))))))else some (.cont (IntKind.i64.wrap (a+1))))else some (.done (.cont ())))
def F_jt(n:Nat)(h:Clocks)(d:Int)(c:List Int)(a:Int):Option (Ctl Int (Ctl Unit (Ctl Int (Ctl Unit Int)))):=
  (bif decide (a<(c.length:Int))then(idx c a).bind λe=>(idx h.Far a).bind λf=>(iter (F_kj n h d e f) n 0:Option (Ctl Unit (Ctl Int (Ctl Unit (Ctl Int (Ctl Unit Int)))))).bind λg=>match g with|.cont b=>(some (.cont (IntKind.i64.wrap (a+1))))|.done b=>some b else some (.done (.cont ())))
def F_ih(n:Nat)(c:Clocks)(a:Int):Option (Ctl Int (Ctl Unit Int)):=
  (bif decide (a<(IntKind.i64.wrap ((c.Segments.length:Int)+1)))then(idx c.Far a).bind λd=>(iter (F_jt n c a d) n 0:Option (Ctl Unit (Ctl Int (Ctl Unit Int)))).bind λe=>match e with|.cont b=>(some (.cont (IntKind.i64.wrap (a+1))))|.done b=>some b else some (.done (.cont ())))
def F_af(n:Nat)(c:Clocks):Option Int:=
  ((bif decide (511<(c.Segments.length:Int))then some true else some ((c.Far.length:Int) != (IntKind.i64.wrap ((c.Segments.length:Int)+1)))):Option Bool).bind λh=>(bif h then some 160 else(iter (F_hq n c) n 0:Option (Ctl Unit Int)).bind λg=>match g with|.cont d=>((iter (F_it n c) n 0:Option (Ctl Unit Int)).bind λe=>match e with|.cont a=>((iter (F_ih n c) n 0:Option (Ctl Unit Int)).bind λf=>match f with|.cont b=>(some 0)|.done b=>some b)|.done a=>some a)|.done d=>some d)
theorem k_af(n:Nat)(a1:Clocks)(r:Int)(h:F_af n a1=some r):
    Csm prog 119 [.agg (Clocks.c a1)] [] (λr=>I r) r:=by
 refine Qb func119 Z Z Z ?_;refine G0 10 Z (Lm Z (Go 5 Z (Bd h λb2 z h=>?_)));refine Ct b2 [0] [1,3] (λb2=>[(25,.bool b2)]) Ze Zf ?_ (λenv H k=>?_)
 .refine G0 4 Z (Is 18 z Z (λbb z=>?_) (λbb z=>?_))
  .exact Go 8 Z (Cl z [0])
  .exact Go 2 Z (Lm Z (Go 5 Z (Cl z [0])))
 refine Gx 1 Z (Ef k (Cn Z h (λbc h=>?_) (λbc h=>?_)))
 .exact Gc 7 Z (Rt h 2 [])
 refine Gc 7 Z (Lm Z (Go 3 Z (Bd h λbd be h=>?_)));refine Ja (b:=bd) [0] [1,3] Ze Ze Zf ?_ (λbk env H p k=>?_)
 .refine G0 1 Z ?_;refine Lp [0] [1,3,27,28] (λaf=>[(29,I af)]) Ze be Zf (Lr [0]) λaf cb m B=>?_;refine G0 6 Z (Ya Z m (λag m=>?_) (λag m=>?_))
  .refine Gc 2 Z (Qk m ?_);obtain rfl:=Oj B m;exact Gx 1 Z (Qp Z (Lr [0]))
  refine Gc 7 Z (Bd m λcc ah m=>Iz ah Z (Go 7 Z (Bd m λE a m=>?_)));refine Ct E [0] [1,3,27,28,29] (λE=>[(72,.bool E)]) Ze Zf ?_ (λenv H k=>?_)
  .refine G0 0 Z (DSs 35 Z (D 4 Z (Yr 3 a Z Z Z (λai a=>?_) (λai a=>?_))))
   .exact D 31 Z (Eh Z (Go 5 Z (Cl a [0])))
   .refine D 5 Z (Yr 8 a Z Z Z (λaj a=>?_) (λaj a=>?_))
    .exact D 26 Z (Eh Z (Go 5 Z (Cl a [0])))
    .refine D 5 Z (Yr 13 a Z Z Z (λak a=>?_) (λak a=>?_))
     .exact D 21 Z (Eh Z (Go 5 Z (Cl a [0])))
     .refine D 5 Z (Yr 18 a Z Z Z (λal a=>?_) (λal a=>?_))
      .exact D 16 Z (Eh Z (Go 5 Z (Cl a [0])))
      .refine D 2 Z ?_;refine Dz [] a (k_ax _ _) Z λcd bl a=>D 3 Z (Yr 24 a Z Z Z (λam a=>?_) (λam a=>?_))
       .exact D 10 Z (Eh Z (Go 5 Z (Cl a [0])))
       .refine D 3 Z (Yr 27 a Z Z Z (λan a=>?_) (λan a=>?_))
        .refine D 4 Z ?_;obtain⟨s,ao,a⟩:=YP a;refine DS.v (x:=(.rp [I s.Mat,I s.Epoch,I s.Anchor])) (YJ (e:=Segment.c) (l:=a1.Segments) (v:=s) ao runUnderlying22 sizeOf198) ?_ (hg:=(gT Z));exact D 2 Z (Eh Z (Cz [] a (k_ba _ _ _) Z λce bm a=>Go 4 Z (Cl a [0])))
        .exact D 7 Z (Eh Z (Go 5 Z (Cl a [0])))
  refine Gx 1 Z (Ef k (Cn Z m (λaq m=>?_) (λaq m=>?_)))
  .refine Gc 8 Z (Qn m ?_);obtain rfl:=Oj B m;exact Gx 1 Z (Qm (Gx 1 Z (Rt h 2 [])))
  exact Gc 7 Z (Qj m (Lr [0]))
 subst p;refine Gx 1 Z (Ef k (Gc 5 Z (Lm Z (Go 3 Z (Bd h λar au h=>?_)))));refine Ja (b:=ar) [0] [1,3] Ze Ze Zf ?_ (λbf env H p k=>?_)
 .refine G0 1 Z ?_;refine Lp [0] [1,3,75,76] (λF=>[(77,I F)]) Ze au Zf (Lr [0]) λF bn f t=>?_;refine G0 6 Z (Ya Z f (λM f=>?_) (λM f=>?_))
  .refine Gc 2 Z (Qk f ?_);obtain rfl:=Oj t f;exact Gx 1 Z (Qp Z (Lr [0]))
  refine Gc 7 Z (Bd f λbo N f=>Iz N Z (Go 6 Z (Bd f λq i f=>?_)));refine Ct q [0] [1,3,75,76,77] (λq=>[(97,.bool q)]) Ze Zf ?_ (λenv H k=>?_)
  .refine G0 2 Z (Lm Z (Go 4 Z (Is 87 i Z (λO i=>?_) (λO i=>?_))))
   .exact Go 11 Z (Cl i [0])
   .refine Go 2 Z (Bd i λbp P i=>Iz P Z (Go 4 Z (Is 94 i Z (λQ i=>?_) (λQ i=>?_))))
    .exact Go 4 Z (Cl i [0])
    .exact Go 1 Z (Cz [] i (k_bb _ _) Z λbq bg i=>Go 2 Z (Cl i [0]))
  refine Gx 1 Z (Ef k (Cn Z f (λR f=>?_) (λR f=>?_)))
  .refine Gc 8 Z (Qn f ?_);obtain rfl:=Oj t f;exact Gx 1 Z (Qm (Gx 1 Z (Rt h 2 [])))
  exact Gc 7 Z (Qj f (Lr [0]))
 subst p;refine Gx 1 Z (Ef k (Gc 8 Z (Bd h λav aw h=>?_)));refine Ja (b:=av) [] [] Ze Ze Zf ?_ (λbh env H p k=>?_)
 .refine G0 1 Z ?_;refine Lp [0] [1,100] (λG=>[(101,I G)]) Ze aw Zf (Lr [0]) λG br j u=>?_;refine G0 6 Z (Ya Z j (λT j=>?_) (λT j=>?_))
  .refine Gc 2 Z (Qk j ?_);obtain rfl:=Oj u j;exact Gx 1 Z (Qp Z (Lr []))
  refine Gc 15 Z (Bd j λbs V j=>Iz V Z (Go 1 Z (Lm Z (Go 3 Z (Bd j λax ay j=>?_)))));refine Ja (b:=ax) [0] [1,100,101] Ze Ze Zf ?_ (λbi env H p k=>?_)
  .refine G0 1 Z ?_;refine Lp [0] [1,8,100,101,108,109] (λJ=>[(110,I J)]) Ze ay Zf (Lr [0]) λJ bt g w=>?_;refine G0 6 Z (Ya Z g (λW g=>?_) (λW g=>?_))
   .refine Gc 2 Z (Qk g ?_);obtain rfl:=Oj w g;exact Gx 1 Z (Qp Z (Lr [0]))
   refine Gc 7 Z (Bd g λbu X g=>Iz X Z (Go 10 Z (Bd g λbv Y g=>Iz Y Z (Go 1 Z (Lm Z (Go 3 Z (Bd g λaz ba g=>?_)))))));refine Ja (b:=az) [0] [1,8,100,101,108,109,110] Ze Ze Zf ?_ (λbj env H p k=>?_)
   .refine G0 1 Z ?_;refine Lp [0] [1,8,10,100,101,108,109,110,119,120] (λL=>[(121,I L)]) Ze ba Zf (Lr [0]) λL bw d y=>?_;refine G0 6 Z (Ya Z d (λaa d=>?_) (λaa d=>?_))
    .refine Gc 2 Z (Qk d ?_);obtain rfl:=Oj y d;exact Gx 1 Z (Qp Z (Lr [0]))
    refine Gc 7 Z (Bd d λbx ab d=>Iz ab Z (Go 10 Z (Bd d λbz ac d=>Iz ac Z (Go 2 Z (Bd d λca ad d=>Iz ad Z (Go 7 Z (Cn Z d (λae d=>?_) (λae d=>?_))))))))
    .refine Gc 8 Z (Qn d ?_);obtain rfl:=Oj y d;refine Gx 1 Z (Qm (Gx 2 Z (Qn g ?_)));obtain rfl:=Oj w g;refine Gx 1 Z (Qm (Gx 2 Z (Qn j ?_)));obtain rfl:=Oj u j;exact Gx 1 Z (Qm (Gx 1 Z (Rt h 2 [])))
    exact Gc 7 Z (Qj d (Lr [0]))
   subst p;exact Gx 2 Z (Ef k (Gc 4 Z (Qj g (Lr [0]))))
  subst p;exact Gx 2 Z (Ef k (Gc 4 Z (Qj j (Lr [0]))))
 subst p;exact Gx 1 Z (Ef k (Gc 6 Z (Rt h 2 [])))
def F_ge(n:Nat)(a:Int):Option (List Outcome):=
  ((bif decide (a<0)then none else some ()):Option Unit).bind λd=>((bif decide (0<(IntKind.i64.wrap (a-0)))then(room (IntKind.i64.wrap (a-0))).bind λc=>some ([]:List Outcome)else some []):Option (List Outcome)).bind λb=>some b
theorem k_ge(n:Nat)(i:Int)(r:List Outcome)(h:F_ge n i=some r):
    C prog 209 [.nils,I i] [] (RQ (λr=>.osl 0 0 r.length 4) (λr=>[.row 146 4 (List.map Outcome.c r)]) r):=by
 refine Qb func209 Z Z Z ?_;refine G0 12 Z (Bd h λp b h=>?_);refine Ct p [] [0,1] Ze Ze Zf ?_ (λenv H d=>?_)
 .refine G0 0 Z (Cn Z b (λj b=>?_) (λj b=>?_))
  .cases b
  exact Gc 1 Z (Cl b [])
 refine Gx 1 Z (Ef d (Gc 5 Z ?_));refine vX (I 0) (QhP runUnderlying88) ?_;refine Go 1 Z ?_;refine vX (I 0) (QhN Z Z runUnderlying88 Z) ?_;refine vX (I 0) (OpV.sub (m:=0) (n:=0) Z Z Z) ?_;refine Go 10 Z (Bd h λf a h=>?_);refine Ct f [0] [] (λf=>[(0,.osl 0 0 f.length 4)]) (λf=>[(0,.row 146 4 (List.map Outcome.c f))]) Zf ?_ (λenv H d=>?_)
 .refine G0 0 Z (Cn Z a (λl a=>?_) (λl a=>?_))
  .refine Gc 3 Z ?_;refine vX (I 0) (QhP runUnderlying88) ?_;refine vV (x:=.nils) (Qky runUnderlying88 sizeOf146) ?_;refine Go 1 Z (Bd a λq g a=>?_);refine vH (QmH (e:=Outcome.c) g Qmg runUnderlying3) ?_;refine FE Z (Go 1 Z ?_);refine vX (I 0) (QhN Z Z runUnderlying88 Z) ?_;refine vX (.osl 0 0 (([]:List Outcome).length) 4) (QmC runUnderlying88 sizeOf146) ?_;exact Go 2 Z (Cl a [0])
  refine Gc 1 Z ?_;cases a;refine Q1 ?_;refine En (Er (s:=0) (k:=4) (t:=146) (XY Z) Z) ?_;exact Lr [0]
 exact Gx 1 Z (Ef d (Gc 7 Z (Rt h 4 [0])))
def F_jl(n:Nat)(c:List (List Outcome))(a:Int×Int):Option (Ctl (Int×Int) Int):=
  (bif decide (a.2<(c.length:Int))then(idx c a.2).bind λb=>((bif decide ((IntKind.i64.wrap (a.1+(b.length:Int)))<0)then none else some ()):Option Unit).bind λd=>some (.cont (IntKind.i64.wrap (a.1+(b.length:Int)),IntKind.i64.wrap (a.2+1)))else some (.done a.1))
def F_kd(n:Nat)(b:List (List Outcome))(a:(List Outcome)×Int):Option (Ctl ((List Outcome)×Int) (List Outcome)):=
  (bif decide (a.2<(b.length:Int))then(idx b a.2).bind λc=>(app a.1 c).bind λd=>some (.cont (d,IntKind.i64.wrap (a.2+1)))else some (.done a.1))
def F_dm(n:Nat)(a:List (List Outcome)):Option (List Outcome):=
  (iter (F_jl n a) n (0,0):Option Int).bind λb=>(F_ge n b).bind λc=>(iter (F_kd n a) n (c,0):Option (List Outcome)).bind λd=>some d
theorem k_dm(n:Nat)(x:List (List Outcome))(r:List Outcome)(h:F_dm n x=some r):
    C prog 120 [.rsl 1 (List.map (YC 4 Outcome.c) x)] [] (RQ (λr=>.osl 0 0 r.length 4) (λr=>[.row 146 4 (List.map Outcome.c r)]) r):=by
 refine Qb func120 Z Z Z ?_;refine G0 14 Z (Lm Z (Go 3 Z (Bd h λj y h=>?_)));refine Ct j [] [0] (λj=>[(3,I j)]) Ze Zf ?_ (λenv H d=>?_)
 .refine G0 1 Z ?_;refine Lp [] [0,9,10] (λk=>[(3,I k.1),(11,I k.2)]) Ze y Zf (Lr []) λk F a l=>?_;refine G0 6 Z (Ya Z a (λm a=>?_) (λm a=>?_))
  .refine Gc 2 Z (Qk a ?_);obtain rfl:=Oj l a;exact Gx 1 Z (Q1 (Lr []))
  refine Gc 6 Z (Bd a λG p a=>Iz p Z (Go 8 Z (Lm Z (Go 10 Z (Bd a λz f a=>?_)))));refine Ct z [] [0,3,9,10,11] Ze Ze Zf ?_ (λenv H d=>?_)
  .refine G0 0 Z (Cn Z f (λq f=>?_) (λq f=>?_))
   .cases f
   exact Gc 1 Z (Cl f [])
  exact Gx 2 Z (Ef d (Gc 4 Z (Qj a (Lr []))))
 refine Gx 1 Z (Ef d (Gc 3 Z (Cd [] h (k_ge _ _) Z λJ E h=>FE Z (Go 7 Z (Lm Z (Go 3 Z (Bd h λg B h=>?_)))))));refine Ct g [0] [] (λg=>[(6,.osl 0 0 g.length 4)]) (λg=>[(0,.row 146 4 (List.map Outcome.c g))]) Zf ?_ (λenv H d=>?_)
 .refine G0 1 Z ?_;refine Lp [0] [25,26] (λi=>[(6,.osl 0 0 i.1.length 4),(27,I i.2)]) (λi=>[(0,.row 146 4 (List.map Outcome.c i.1))]) B Zf (Lr [0]) λi L b s=>?_;refine G0 6 Z (Ya Z b (λt b=>?_) (λt b=>?_))
  .refine Gc 2 Z (Qk b ?_);obtain rfl:=Oj s b;exact Gx 1 Z (Q1 (Lr [0]))
  refine Gc 6 Z (Bd b λM u b=>Iz u Z (Go 7 Z (Bd b λN w b=>?_)));refine vH (QM (e:=Outcome.c) w Qmg runUnderlying88 Qgu) ?_;exact FE Z (Go 8 Z (Qj b (Lr [1])))
 exact Gx 1 Z (Ef d (Gc 7 Z (Rt h 2 [0])))
def F_gw(n:Nat):Option Unit:=
  some ()
theorem k_gw(n:Nat)(r:Unit)(h:F_gw n=some r):
    C prog 210 [] [] (RQ (λ_=>.agg [.bool true,I (-1),I 0,I 0]) (λ_=>[.cells 146 [.bool true,I (-1),I 0,I 0]]) r):=by
 refine Qb func210 Z Z Z ?_;refine G0 12 Z ?_;obtain rfl:=Oi h;exact Rx [0] [0] Z (QV Z (QD isAgg146 sizeOf146 Z Z Z)) ⟨Z,Z⟩
def F_ea(n:Nat)(b:Clocks)(a:Outcome):Option Int:=
  (F_af n b).bind λr1=>(bif (r1 != 0)then some r1 else((bif decide ((-1)<=a.Seg)then(bif decide (a.Seg<(b.Segments.length:Int))then(bif decide ((-288230376151711744)<=a.Lo)then(bif decide (a.Lo<=a.Hi)then some (decide (a.Hi<=288230376151711744))else some false)else some false)else some false)else some false):Option Bool).bind λd=>((bif a.Out then(F_gw n).bind λe=>some (a==({Out:=true,Seg:=(-1),Lo:=0,Hi:=0:Outcome}))else some d):Option Bool).bind λc=>(bif (!c)then some 230 else some 0))
theorem k_ea(n:Nat)(t:Clocks)(d:Outcome)(r:Int)(h:F_ea n t d=some r):
    Csm prog 121 [.agg (Clocks.c t),.agg (Outcome.c d)] [] (λr=>I r) r:=by
 refine Qb func121 Z Z Z ?_;refine G0 11 Z (Cz [] h (k_af _ _) Z λr1 x h=>Go 9 Z (Cn Z h (λu h=>?_) (λu h=>?_)))
 .exact Gc 8 Z (Rt h 4 [])
 refine Gc 3 Z (Bd h λg a h=>?_);refine Ct g [1] [3] (λg=>[(6,.bool g)]) Ze Zf ?_ (λenv H e=>?_)
 .refine G0 5 Z (Is 15 a Z (λw a=>?_) (λw a=>?_))
  .refine Go 4 Z (Lm Z (Go 3 Z (Is 23 a Z (λi a=>?_) (λi a=>?_))))
   .refine Go 5 Z (Is 28 a Z (λj a=>?_) (λj a=>?_))
    .refine Go 7 Z (Is 35 a Z (λk a=>?_) (λk a=>?_))
     .exact Go 6 Z (Cl a [1])
     .exact Go 6 Z (Cl a [1])
    .exact Go 13 Z (Cl a [1])
   .exact Go 18 Z (Cl a [1])
  .exact Go 26 Z (Cl a [1])
 refine Gx 1 Z (Ef e (Gc 7 Z (Bd h λf b h=>?_)));refine Ct f [] [] (λf=>[(6,.bool f)]) Ze Zf ?_ (λenv H e=>?_)
 .refine G0 0 Z (Cn Z b (λl b=>?_) (λl b=>?_))
  .obtain⟨y,m,b⟩:=YP b;refine QaE 2 0 [42,43] [false,true] [[],[]] [[],[1]] [[(0,0),(1,1)],[(0,1)]] [.agg (Outcome.c d),.agg [.bool true,I (-1),I 0,I 0]] [[.cells 146 (Outcome.c d)],[.cells 146 (Outcome.c d),.cells 146 [.bool true,I (-1),I 0,I 0]]] ([.cells 146 (Outcome.c d),.cells 146 [.bool true,I (-1),I 0,I 0]]) draws Z Z Z Z Z Z Z ?_ Z ?_
   .refine Qgz.cons (Qe (v0 Z Z) (Qe (v0 Z Z) (Ql))) (Qgz.cons ?_ (Qgz.nil))
    .refine Qe ?_ (Ql)
     .refine Om1 Z sN ?_;refine Qt [] (OpC.fn call210 Z Z Z) (k_gw _ _ m) ?_;rintro _ _ ⟨rfl,rfl⟩;exact FE Z Wp
   refine vX (.bool (d==({Out:=true,Seg:=(-1),Lo:=0,Hi:=0:Outcome}))) (QkA (p:=d) (q:={Out:=true,Seg:=(-1),Lo:=0,Hi:=0:Outcome}) Qnx Z Z) ?_;exact Go 2 Z (Cl b [])
  exact Gc 1 Z (Cl b [])
 refine Gx 1 Z (Ef e (Gc 7 Z (Cn Z h (λs h=>?_) (λs h=>?_))))
 .exact Gc 7 Z (Rt h 4 [])
 exact Gc 8 Z (Rt h 4 [])
def F_av(n:Nat)(a:Runner)(b:Int):Option Bool:=
  (idx a.Worlds b).bind λc=>some ((c.length:Int)==0)
theorem k_av(n:Nat)(a:Runner)(b:Int)(r:Bool)(h:F_av n a b=some r):
    Csm prog 211 [.agg (Runner.c a),.ptr 0 0] [.cells 3 [I b]] (λr=>.bool r) r:=by
 refine Qb func211 Z Z Z ?_;exact G0 11 Z (Bd h λe d h=>Iz d Z (Go 1 Z (Lm Z (Go 5 Z (Rt h 3 [0])))))
def F_ko(n:Nat)(b:List Runner)(e:Int)(a:Int):Option (Ctl Int (Ctl Unit Int)):=
  (bif decide (a<(b.length:Int))then(idx b a).bind λc=>(F_av n c e).bind λd=>(bif d then some (.done (.done a))else some (.cont (IntKind.i64.wrap (a+1))))else some (.done (.cont ())))
def F_fa(n:Nat)(c:List Runner)(d:Int):Option Int:=
  (iter (F_ko n c d) n 0:Option (Ctl Unit Int)).bind λb=>match b with|.cont a=>(some (-1))|.done a=>some a
theorem k_fa(n:Nat)(b:List Runner)(a:Int)(r:Int)(h:F_fa n b a=some r):
    Csm prog 224 [.rsl 3 (List.map Runner.c b),.fn (.func 211) [] [.ptr 0 0]] [.cells 3 [I a]] (λr=>I r) r:=
 QJ (el:=λx=>.agg (Runner.c x)) (g:=λx=>F_av n x a) func224 Z Z Z runUnderlying27 sizeOf68 (λ_ _ _ _ d e=>Qy d isAgg68 sizeOf68 e Pts.rp Z Z) call211 (λ_ _ h=>k_av _ _ _ _ h) h
def F_dw(n:Nat)(a:List Runner)(b:Int):Option Bool:=
  (F_fa n a b).bind λr1=>some (decide (0<=r1))
theorem k_dw(n:Nat)(a:List Runner)(b:Int)(r:Bool)(h:F_dw n a b=some r):
    Csm prog 137 [.rsl 3 (List.map Runner.c a),.fn (.func 211) [] [.ptr 0 0]] [.cells 3 [I b]] (λr=>.bool r) r:=by
 refine Qb func137 Z Z Z ?_;exact G0 9 Z (Cz [0] h (k_fa _ _ _) Z λr1 d h=>Go 5 Z (Rt h 4 [0]))
def F_iz(n:Nat)(b:Field)(a:Int):Option (Ctl Int (Ctl Unit Bool)):=
  (bif decide (a<(IntKind.i64.wrap ((b.Pairs.length:Int)+1)))then(F_dw n b.Runners a).bind λc=>(bif (!c)then some (.done (.done true))else some (.cont (IntKind.i64.wrap (a+1))))else some (.done (.cont ())))
def F_bi(n:Nat)(b:Field):Option Bool:=
  (iter (F_iz n b) n 0:Option (Ctl Unit Bool)).bind λc=>match c with|.cont a=>(some false)|.done a=>some a
theorem k_bi(n:Nat)(i:Field)(r:Bool)(h:F_bi n i=some r):
    Csm prog 122 [.agg (Field.c i)] [] (λr=>.bool r) r:=by
 refine Qb func122 Z Z Z ?_;refine G0 11 Z (Lm Z (Go 4 Z (Bd h λl m h=>?_)));refine Ja (b:=l) [] [] Ze Ze Zf ?_ (λq env H j k=>?_)
 .refine G0 1 Z ?_;refine Lp [0] [1,7] (λe=>[(8,I e)]) Ze m Zf (Lr [0]) λe s a d=>?_;refine G0 6 Z (Ya Z a (λf a=>?_) (λf a=>?_))
  .refine Gc 2 Z (Qk a ?_);obtain rfl:=Oj d a;exact Gx 1 Z (Qp Z (Lr []))
  refine Gc 16 Z (Cz [1] a (k_dw _ _ _) Z λt p a=>Go 3 Z (Cn Z a (λg a=>?_) (λg a=>?_)))
  .refine Gc 8 Z (Qn a ?_);obtain rfl:=Oj d a;exact Gx 1 Z (Qm (Gx 1 Z (Rt h 2 [])))
  exact Gc 7 Z (Qj a (Lr [0]))
 subst j;exact Gx 1 Z (Ef k (Gc 6 Z (Rt h 2 [])))
def F_je(n:Nat)(c:Field)(b:Pair×Int):Option (Ctl (Pair×Int) (Ctl Unit Int)):=
  (bif decide (b.2<(c.Pairs.length:Int))then(idx c.Pairs b.2).bind λa=>((bif decide (a.A<1)then some true else(bif decide (a.B<=a.A)then some true else(bif decide (9999<a.B)then some true else(bif decide (a.A<b.1.A)then some true else(bif (a.A==b.1.A)then some (decide (a.B<=b.1.B))else some false))))):Option Bool).bind λd=>(bif d then some (.done (.done 240))else some (.cont (a,IntKind.i64.wrap (b.2+1))))else some (.done (.cont ())))
def F_jv(n:Nat)(e:Field)(b:List Outcome)(a:Int):Option (Ctl Int (Ctl Unit (Ctl (Int×Int) (Ctl Unit Int)))):=
  (bif decide (a<(b.length:Int))then(idx b a).bind λc=>(F_ea n e.Clocks c).bind λd=>(bif (d != 0)then some (.done (.done (.done (.done 240))))else some (.cont (IntKind.i64.wrap (a+1))))else some (.done (.cont ())))
def F_is(n:Nat)(d:Field)(b:Int×Int):Option (Ctl (Int×Int) (Ctl Unit Int)):=
  (bif decide (b.2<(d.Runners.length:Int))then(idx d.Runners b.2).bind λa=>((bif decide (a.Bib<=b.1)then some true else(bif decide (9999<a.Bib)then some true else(idx d.Runners 0).bind λe=>(bif ((a.Keys.length:Int) != (e.Keys.length:Int))then some true else some ((a.Worlds.length:Int) != (IntKind.i64.wrap ((d.Pairs.length:Int)+1)))))):Option Bool).bind λf=>(bif f then some (.done (.done 240))else(F_dm n a.Worlds).bind λg=>(iter (F_jv n d g) n 0:Option (Ctl Unit (Ctl (Int×Int) (Ctl Unit Int)))).bind λh=>match h with|.cont c=>(some (.cont (a.Bib,IntKind.i64.wrap (b.2+1))))|.done c=>some c)else some (.done (.cont ())))
def F_q(n:Nat)(a:Field):Option Int:=
  ((F_af n a.Clocks).bind λg=>(bif (g != 0)then some true else(bif decide (16<(a.Pairs.length:Int))then some true else(bif decide ((a.Runners.length:Int)<1)then some true else some (decide (4000<(a.Runners.length:Int)))))):Option Bool).bind λh=>(bif h then some 240 else(iter (F_je n a) n ({A:=0,B:=0:Pair},0):Option (Ctl Unit Int)).bind λf=>match f with|.cont c=>((iter (F_is n a) n (0,0):Option (Ctl Unit Int)).bind λd=>match d with|.cont b=>((F_bi n a).bind λe=>(bif (!e)then some 240 else some 0))|.done b=>some b)|.done c=>some c)
theorem k_q(n:Nat)(E:Field)(r:Int)(h:F_q n E=some r):
    Csm prog 72 [.agg (Field.c E)] [] (λr=>I r) r:=by
 refine Qb func72 Z Z Z ?_;refine G0 8 Z (Bd h λW k h=>?_);refine Ct W [0] [1] (λW=>[(32,.bool W)]) Ze Zf ?_ (λenv H j=>?_)
 .refine G0 3 Z (Cz [] k (k_af _ _) Z λr7 bf k=>Go 2 Z (Is 15 k Z (λan k=>?_) (λan k=>?_)))
  .exact Go 18 Z (Cl k [0])
  .refine Go 2 Z (Lm Z (Go 3 Z (Is 21 k Z (λao k=>?_) (λao k=>?_))))
   .exact Go 12 Z (Cl k [0])
   .refine Go 2 Z (Lm Z (Go 3 Z (Is 27 k Z (λX k=>?_) (λX k=>?_))))
    .exact Go 6 Z (Cl k [0])
    .exact Go 2 Z (Lm Z (Go 3 Z (Cl k [0])))
 refine Gx 1 Z (Ef j (Cn Z h (λY h=>?_) (λY h=>?_)))
 .exact Gc 7 Z (Rt h 2 [])
 refine Gc 12 Z (Lm Z (Go 3 Z (Bd h λaq ar h=>?_)));refine Ja (b:=aq) [0] [1] Ze Ze Zf ?_ (λaz env H s j=>?_)
 .refine G0 1 Z ?_;refine Lp [0,1] [1,3,34,35] (λy=>[(36,I y.2)]) (λy=>[(1,.cells 149 (Pair.c y.1))]) ar Zf (Lr [0,1]) λy bg i F=>?_;refine G0 6 Z (Ya Z i (λaa i=>?_) (λaa i=>?_))
  .refine Gc 2 Z (Qk i ?_);obtain rfl:=Oj F i;exact Gx 1 Z (Qp Z (Lr [0]))
  refine Gc 6 Z (Bd i λbh ab i=>Iz ab Z (Go 7 Z (Bd i λG d i=>?_)));refine Ct G [0,1,2] [1,3,5,34,35,36] (λG=>[(75,.bool G)]) Ze Zf ?_ (λenv H j=>?_)
  .refine G0 5 Z (Is 43 d Z (λac d=>?_) (λac d=>?_))
   .exact Go 33 Z (Cl d [0,1,2])
   .refine Go 7 Z (Is 50 d Z (λad d=>?_) (λad d=>?_))
    .exact Go 26 Z (Cl d [0,1,2])
    .refine Go 5 Z (Is 55 d Z (λae d=>?_) (λae d=>?_))
     .exact Go 21 Z (Cl d [0,1,2])
     .refine Go 7 Z (Is 62 d Z (λaf d=>?_) (λaf d=>?_))
      .exact Go 14 Z (Cl d [0,1,2])
      .refine Go 6 Z (Is 68 d Z (λag d=>?_) (λag d=>?_))
       .exact Go 8 Z (Cl d [0,1,2])
       .exact Go 8 Z (Cl d [0,1,2])
  refine Gx 1 Z (Ef j (Cn Z i (λah i=>?_) (λah i=>?_)))
  .refine Gc 9 Z (Qn i ?_);obtain rfl:=Oj F i;exact Gx 1 Z (Qm (Gx 1 Z (Rt h 2 [])))
  exact Gc 12 Z (Qj i (Lr [0,1]))
 subst s;refine Gx 1 Z (Ef j (Gc 10 Z (Lm Z (Go 3 Z (Bd h λai aj h=>?_)))));refine Ja (b:=ai) [0] [1] Ze Ze Zf ?_ (λau env H s j=>?_)
 .refine G0 1 Z ?_;refine Lp [0] [1,79,80] (λt=>[(6,I t.1),(81,I t.2)]) Ze aj Zf (Lr [0]) λt ba a p=>?_;refine G0 6 Z (Ya Z a (λJ a=>?_) (λJ a=>?_))
  .refine Gc 2 Z (Qk a ?_);obtain rfl:=Oj p a;exact Gx 1 Z (Qp Z (Lr [0]))
  refine Gc 6 Z (Bd a λq L a=>Iz L Z (Go 7 Z (Bd a λu f a=>?_)));refine Ct u [0,1] [1,8,79,80,81] (λu=>[(115,.bool u)]) Ze Zf ?_ (λenv H j=>?_)
  .refine G0 0 Z (DSs 29 Z (D 5 Z (Yr 4 f Z Z Z (λM f=>?_) (λM f=>?_))))
   .exact D 24 Z (Eh Z (Go 3 Z (Cl f [0,1])))
   .refine D 5 Z (Yr 9 f Z Z Z (λN f=>?_) (λN f=>?_))
    .exact D 19 Z (Eh Z (Go 3 Z (Cl f [0,1])))
    .refine D 2 Z ?_;refine DS.v (x:=(I (q.Keys.length:Int))) (Yz (e:=(Qd .i64)) (l:=q.Keys) runUnderlying32) ?_ (hg:=(gT Z));refine D 2 Z ?_;obtain⟨m,O,f⟩:=YP f;refine DS.v (x:=(.rp [I m.Bib,.rsl 1 (List.map (Qd .i64) m.Keys),.rsl 1 (List.map (YC 4 Outcome.c) m.Worlds)])) (YJ (e:=Runner.c) (l:=E.Runners) (v:=m) O runUnderlying27 sizeOf68) ?_ (hg:=(gT Z));refine D 2 Z ?_;refine DS.v (x:=(I (m.Keys.length:Int))) (Yz (e:=(Qd .i64)) (l:=m.Keys) runUnderlying32) ?_ (hg:=(gT Z));refine D 3 Z (Yr 21 f Z Z Z (λP f=>?_) (λP f=>?_))
     .exact D 7 Z (Eh Z (Go 3 Z (Cl f [0,1])))
     .refine D 2 Z ?_;refine DS.v (x:=(I (q.Worlds.length:Int))) (Yz (e:=(YC 4 Outcome.c)) (l:=q.Worlds) runUnderlying66) ?_ (hg:=(gT Z));refine D 2 Z ?_;refine DS.v (x:=(I (E.Pairs.length:Int))) (Yz (e:=Pair.c) (l:=E.Pairs) runUnderlying26) ?_ (hg:=(gT Z));exact D 1 Z (Eh Z (Go 3 Z (Cl f [0,1])))
  refine Gx 1 Z (Ef j (Cn Z a (λQ a=>?_) (λQ a=>?_)))
  .refine Gc 9 Z (Qn a ?_);obtain rfl:=Oj p a;exact Gx 1 Z (Qm (Gx 1 Z (Rt h 2 [])))
  refine Gc 13 Z (Cd [] a (k_dm _ _) Z λbb av a=>FE Z (Go 4 Z (Bd a λak al a=>?_)));refine Ja (b:=ak) [0] [1,6,79,80,81] Ze Ze Zf ?_ (λaw env H s j=>?_)
  .refine G0 1 Z ?_;refine Lp [0,2] [1,6,79,80,81,120,121] (λw=>[(122,I w)]) Ze al Zf (Lr [0,2]) λw bc g z=>?_;refine G0 6 Z (Ya Z g (λR g=>?_) (λR g=>?_))
   .refine Gc 2 Z (Qk g ?_);obtain rfl:=Oj z g;exact Gx 1 Z (Qp Z (Lr [0]))
   refine Gc 6 Z (Bd g λam B g=>?_);refine vX (.ptr 1 (Int.toNat w*4)) (QN B Z runUnderlying88 sizeOf146) ?_;refine vX (.agg (Outcome.c am)) (Qy Z isAgg146 sizeOf146 Z (Qo B) Z Z) ?_;refine Go 9 Z (Cz [] g (k_ea _ _ _) Z λbd ax g=>Go 3 Z (Cn Z g (λT g=>?_) (λT g=>?_)))
   .refine Gc 8 Z (Qn g ?_);obtain rfl:=Oj z g;refine Gx 1 Z (Qm (Gx 2 Z (Qn a ?_)));obtain rfl:=Oj p a;exact Gx 1 Z (Qm (Gx 1 Z (Rt h 2 [])))
   exact Gc 7 Z (Qj g (Lr [0,1]))
  subst s;exact Gx 2 Z (Ef j (Gc 4 Z (Qj a (Lr [0]))))
 subst s;refine Gx 1 Z (Ef j (Gc 4 Z (Cz [] h (k_bi _ _) Z λbe ay h=>Go 3 Z (Cn Z h (λV h=>?_) (λV h=>?_)))))
 .exact Gc 7 Z (Rt h 2 [])
 exact Gc 8 Z (Rt h 2 [])
def F_ah(n:Nat)(a:Course)(e:Field)(b:Int)(c:Int):Option Int:=
  (F_l n a).bind λr1=>(bif (r1 != 0)then some r1 else((bif decide (b<0)then some true else(bif decide ((a.Distances.length:Int)<=b)then some true else(bif decide (c<(-1))then some true else some (decide ((a.Categories.length:Int)<=c))))):Option Bool).bind λf=>(bif f then some 310 else(F_q n e).bind λd=>(bif (d != 0)then some 240 else some 0)))
theorem k_ah(n:Nat)(g:Course)(i:Field)(j:Int)(k:Int)(r:Int)(h:F_ah n g i j k=some r):
    Csm prog 44 [.agg (Course.c g),.agg (Field.c i),I j,I k] [] (λr=>I r) r:=by
 refine Qb func44 Z Z Z ?_;refine G0 11 Z (Cz [] h (k_l _ _) Z λr1 t h=>Go 9 Z (Cn Z h (λl h=>?_) (λl h=>?_)))
 .exact Gc 8 Z (Rt h 8 [])
 refine Gc 4 Z (Bd h λb a h=>?_);refine Ct b [1] [5] (λb=>[(34,.bool b)]) Ze Zf ?_ (λenv H m=>?_)
 .refine G0 4 Z (Is 17 a Z (λp a=>?_) (λp a=>?_))
  .exact Go 18 Z (Cl a [1])
  .refine Go 3 Z (Lm Z (Go 3 Z (Is 24 a Z (λq a=>?_) (λq a=>?_))))
   .exact Go 11 Z (Cl a [1])
   .refine Go 4 Z (Is 28 a Z (λd a=>?_) (λd a=>?_))
    .exact Go 7 Z (Cl a [1])
    .exact Go 3 Z (Lm Z (Go 3 Z (Cl a [1])))
 refine Gx 1 Z (Ef m (Cn Z h (λe h=>?_) (λe h=>?_)))
 .exact Gc 7 Z (Rt h 8 [])
 refine Gc 6 Z (Cz [] h (k_q _ _) Z λu s h=>Go 3 Z (Cn Z h (λf h=>?_) (λf h=>?_)))
 .exact Gc 7 Z (Rt h 8 [])
 exact Gc 8 Z (Rt h 8 [])
def F_ln(n:Nat)(e:Field)(c:List Int)(a:Int):Option (Ctl Int (Ctl Unit Int)):=
  (bif decide (a<(c.length:Int))then(idx c a).bind λb=>((bif decide (b<0)then some true else some (decide ((e.Runners.length:Int)<=b))):Option Bool).bind λd=>(bif d then some (.done (.done 250))else some (.cont (IntKind.i64.wrap (a+1))))else some (.done (.cont ())))
def F_iy(n:Nat)(b:Field)(d:List Int):Option Int:=
  (F_q n b).bind λr1=>(bif (r1 != 0)then some 240 else(iter (F_ln n b d) n 0:Option (Ctl Unit Int)).bind λc=>match c with|.cont a=>(some 0)|.done a=>some a)
theorem k_iy(n:Nat)(p:Field)(q:List Int)(r:Int)(h:F_iy n p q=some r):
    Csm prog 58 [.agg (Field.c p),.rsl 1 (List.map (Qd .i64) q)] [] (λr=>I r) r:=by
 refine Qb func58 Z Z Z ?_;refine G0 10 Z (Cz [] h (k_q _ _) Z λr1 y h=>Go 3 Z (Cn Z h (λs h=>?_) (λs h=>?_)))
 .exact Gc 7 Z (Rt h 4 [])
 refine Gc 6 Z (Lm Z (Go 3 Z (Bd h λt u h=>?_)));refine Ja (b:=t) [] [] Ze Ze Zf ?_ (λx env H w e=>?_)
 .refine G0 1 Z ?_;refine Lp [0] [2,10,11] (λi=>[(12,I i)]) Ze u Zf (Lr [0]) λi z a f=>?_;refine G0 6 Z (Ya Z a (λj a=>?_) (λj a=>?_))
  .refine Gc 2 Z (Qk a ?_);obtain rfl:=Oj f a;exact Gx 1 Z (Qp Z (Lr []))
  refine Gc 6 Z (Bd a λB k a=>Iz k Z (Go 5 Z (Bd a λg d a=>?_)));refine Ct g [0] [2,10,11,12] (λg=>[(24,.bool g)]) Ze Zf ?_ (λenv H e=>?_)
  .refine G0 4 Z (Is 18 d Z (λl d=>?_) (λl d=>?_))
   .exact Go 7 Z (Cl d [0])
   .exact Go 3 Z (Lm Z (Go 3 Z (Cl d [0])))
  refine Gx 1 Z (Ef e (Cn Z a (λm a=>?_) (λm a=>?_)))
  .refine Gc 8 Z (Qn a ?_);obtain rfl:=Oj f a;exact Gx 1 Z (Qm (Gx 1 Z (Rt h 4 [])))
  exact Gc 7 Z (Qj a (Lr [0]))
 subst w;exact Gx 1 Z (Ef e (Gc 6 Z (Rt h 4 [])))
def F_al(n:Nat)(a:Field):Option Unit:=
  some ()
theorem k_al(n:Nat)(a:Field)(r:Unit)(h:F_al n a=some r):
    C prog 89 [.agg (Field.c a)] [] (RQ (λ_=>.fn (.func 135) [] [.ptr 0 0]) (λ_=>[.cells 29 (Field.c a)]) r):=by
 refine Qb func89 Z Z Z ?_;exact G0 13 Z (Rt h 2 [0])
def F_es(n:Nat)(a:Runner)(b:Int):Option Bool:=
  (idx a.Worlds b).bind λc=>some ((c.length:Int)==0)
theorem k_es(n:Nat)(a:Runner)(b:Int)(r:Bool)(h:F_es n a b=some r):
    Csm prog 136 [.agg (Runner.c a),.ptr 0 0] [.cells 3 [I b]] (λr=>.bool r) r:=by
 refine Qb func136 Z Z Z ?_;exact G0 11 Z (Bd h λe d h=>Iz d Z (Go 1 Z (Lm Z (Go 5 Z (Rt h 3 [0])))))
def F_kw(n:Nat)(b:List Runner)(e:Int)(a:Int):Option (Ctl Int (Ctl Unit Int)):=
  (bif decide (a<(b.length:Int))then(idx b a).bind λc=>(F_es n c e).bind λd=>(bif d then some (.done (.done a))else some (.cont (IntKind.i64.wrap (a+1))))else some (.done (.cont ())))
def F_ip(n:Nat)(c:List Runner)(d:Int):Option Int:=
  (iter (F_kw n c d) n 0:Option (Ctl Unit Int)).bind λb=>match b with|.cont a=>(some (-1))|.done a=>some a
theorem k_ip(n:Nat)(b:List Runner)(a:Int)(r:Int)(h:F_ip n b a=some r):
    Csm prog 224 [.rsl 3 (List.map Runner.c b),.fn (.func 136) [] [.ptr 0 0]] [.cells 3 [I a]] (λr=>I r) r:=
 QJ (el:=λx=>.agg (Runner.c x)) (g:=λx=>F_es n x a) func224 Z Z Z runUnderlying27 sizeOf68 (λ_ _ _ _ d e=>Qy d isAgg68 sizeOf68 e Pts.rp Z Z) call136 (λ_ _ h=>k_es _ _ _ _ h) h
def F_jg(n:Nat)(a:List Runner)(b:Int):Option Bool:=
  (F_ip n a b).bind λr1=>some (decide (0<=r1))
theorem k_jg(n:Nat)(a:List Runner)(b:Int)(r:Bool)(h:F_jg n a b=some r):
    Csm prog 137 [.rsl 3 (List.map Runner.c a),.fn (.func 136) [] [.ptr 0 0]] [.cells 3 [I b]] (λr=>.bool r) r:=by
 refine Qb func137 Z Z Z ?_;exact G0 9 Z (Cz [0] h (k_ip _ _ _) Z λr1 d h=>Go 5 Z (Rt h 4 [0]))
def F_lw(n:Nat)(b:Field)(a:Int):Option ((List Int)×Ctl Int Unit):=
  (bif decide (a<(IntKind.i64.wrap ((b.Pairs.length:Int)+1)))then(F_jg n b.Runners a).bind λc=>(bif (!c)then yl a (some ([],.cont (IntKind.i64.wrap (a+1))))else some ([],.cont (IntKind.i64.wrap (a+1))))else some ([],.done ()))
def F_ap(n:Nat)(a:Field):Option ((List Int)×Unit):=
  ap (Qbm (F_lw n a) n 0) λb=>some ([],())
theorem k_ap(n:Nat)(j:Field)(p:(List Int)×Unit)(h:F_ap n j=some p):
    Qdx prog 135 [.ptr 0 0] [.cells 29 (Field.c j)] (λx=>[I x]) nxL p.1:=by
 obtain⟨xs,u⟩:=p;refine Qam func135 Z Z Z Z ?_;intro X hE hN;refine Gy0 1 Z (TCy.lf ?_);refine G0 3 Z (Lm Z (Go 3 Z ?_));refine Gyx 1 Z ?_;obtain⟨s,r,k,l,m,rfl⟩:=Qjq h;rw[Vq];refine QcC r (k++[]) [0] [0] Ze Ze Zf ?_ (λenv H t=>?_)
 .refine Gy0 1 Z ?_;refine Qgt [0] [0,1,8] (λd=>[(9,I d)]) Ze l Zf (Lr [0]) λd w y z b f=>?_;refine Gy0 1 Z (TCy.lf ?_);refine G0 3 Z ?_;refine Gyx 2 Z (TCy.lf ?_);refine G0 0 Z (Ya Z b (λg b=>?_) (λg b=>?_))
  .refine Gc 1 Z ?_;refine Gyx 1 Z ?_;obtain⟨rfl,rfl,rfl⟩:=Oy f b;exact Qf8 (Gyx 1 Z (Qjn (Lr [0])))
  refine Gc 1 Z ?_;refine Gyx 4 Z (TCy.lf ?_);refine G0 5 Z ?_;refine Gyx 2 Z (TCy.lf ?_);refine G0 4 Z ?_;refine Gyx 6 Z ?_;refine WOy.step ?_;refine Bd b λB i b=>Pc [1] Z (OpC.fn call137 Z Z Z) (k_jg _ _ _ _ i) Z (WO.nil ⟨Z,?_⟩);refine Gyo 2 Z (If b (λa b=>?_) (λa b=>?_))
  .refine WOy.step ?_;refine Sg (gT a) Z (WO.nil ⟨Z,?_⟩);refine WOy.step ?_;refine Ldg (gT a) isAgg3 Z (WO.nil ⟨Z,?_⟩);obtain⟨E,q,rfl⟩:=QiI b;refine Qmt (x:=d) (e:=λx=>I x) hE hN Z Z Z Z ?_ ?_ (hg:=(gT a))
   .refine WOy.step ?_;refine Sg (gT a) Z (WO.nil ⟨Z,?_⟩);refine WOy.step ?_;refine Pk a Z (WO.nil ⟨Z,?_⟩);refine Gyo 2 Z (TCy.lf ?_);refine G0 2 Z ?_;refine Gyx 2 Z (TCy.lf ?_);refine G0 4 Z ?_;exact Gyx 0 Z (Qeh q (Lr [0]))
   .refine WOy.step ?_;refine Sg (gT a) Z (WO.nil ⟨Z,?_⟩);refine WOy.step ?_;refine Pk a Z (WO.nil ⟨Z,?_⟩);exact Gyo 6 Z (Qf9 (Gyx 1 Z (Qjm (⟨.inr Z,.inr ⟨_,Z⟩⟩))))
  .refine WOy.step (K (gF a) Z (WO.nil ⟨Z,?_⟩));refine WOy.step (K (gF a) Z (WO.nil ⟨Z,?_⟩));refine WOy.step (K (gF a) Z (WO.nil ⟨Z,?_⟩));refine WOy.step (K (gF a) Z (WO.nil ⟨Z,?_⟩));refine WOy.step ?_;refine Pk a Z (WO.nil ⟨Z,?_⟩);refine Gyo 2 Z (TCy.lf ?_);refine G0 2 Z ?_;refine Gyx 2 Z (TCy.lf ?_);refine G0 4 Z ?_;exact Gyx 0 Z (Qeh b (Lr [0]))
 cases m;exact⟨.inl Z,.inl Z⟩
def F_ik(n:Nat)(a:Outcome):Option Unit:=
  some ()
theorem k_ik(n:Nat)(a:Outcome)(r:Unit)(h:F_ik n a=some r):
    Csm prog 91 [.agg (Outcome.c a)] [] (λ_=>.bool a.Out) r:=by
 refine Qb func91 Z Z Z ?_;exact G0 14 Z (Rt h 2 [])
def F_kr(n:Nat)(c:List Outcome)(a:Int):Option (Ctl Int (Ctl Unit Int)):=
  (bif decide (a<(c.length:Int))then(idx c a).bind λb=>(F_ik n b).bind λd=>(bif b.Out then some (.done (.done a))else some (.cont (IntKind.i64.wrap (a+1))))else some (.done (.cont ())))
def F_hy(n:Nat)(c:List Outcome):Option Int:=
  (iter (F_kr n c) n 0:Option (Ctl Unit Int)).bind λb=>match b with|.cont a=>(some (-1))|.done a=>some a
theorem k_hy(n:Nat)(j:List Outcome)(r:Int)(h:F_hy n j=some r):
    Csm prog 138 [.rsl 4 (List.map Outcome.c j),.fn (.func 91) [] []] [] (λr=>I r) r:=by
 refine Qb func138 Z Z Z ?_;refine G0 9 Z (Lm Z (Go 3 Z (Bd h λk l h=>?_)));refine Ja (b:=k) [] [] Ze Ze Zf ?_ (λq env H m p=>?_)
 .refine G0 1 Z ?_;refine Lp [] [0,1,7] (λe=>[(8,I e)]) Ze l Zf (Lr []) λe t a d=>?_;refine G0 6 Z (Ya Z a (λf a=>?_) (λf a=>?_))
  .refine Gc 2 Z (Qk a ?_);obtain rfl:=Oj d a;exact Gx 1 Z (Qp Z (Lr []))
  refine Gc 15 Z (Bd a λu g a=>Iz g Z (Go 1 Z (Cz [] a (k_ik _ _) Z λw s a=>Go 2 Z (Cn Z a (λi a=>?_) (λi a=>?_)))))
  .refine Gc 9 Z (Qn a ?_);obtain rfl:=Oj d a;exact Gx 1 Z (Qm (Gx 1 Z (Rt h 4 [])))
  exact Gc 7 Z (Qj a (Lr []))
 subst m;exact Gx 1 Z (Ef p (Gc 6 Z (Rt h 4 [])))
def F_jd(n:Nat)(a:List Outcome):Option Bool:=
  (F_hy n a).bind λr1=>some (decide (0<=r1))
theorem k_jd(n:Nat)(a:List Outcome)(r:Bool)(h:F_jd n a=some r):
    Csm prog 90 [.rsl 4 (List.map Outcome.c a),.fn (.func 91) [] []] [] (λr=>.bool r) r:=by
 refine Qb func90 Z Z Z ?_;exact G0 9 Z (Cz [] h (k_hy _ _) Z λr1 b h=>Go 5 Z (Rt h 4 []))
def F_eu(n:Nat):Option Unit:=
  some ()
theorem k_eu(n:Nat)(r:Unit)(h:F_eu n=some r):
    C prog 92 [] [] (RQ (λ_=>.agg [.fn (.func 139) [] [],.fn (.func 140) [] [],.fn (.func 141) [] [],.fn (.func 142) [] []]) (λ_=>[.cells 191 [.fn (.func 139) [] [],.fn (.func 140) [] [],.fn (.func 141) [] [],.fn (.func 142) [] []]]) r):=by
 refine Qb func92 Z Z Z ?_;refine G0 12 Z ?_;obtain rfl:=Oi h;exact Rx [0] [0] Z (QV Z (QD isAgg191 sizeOf191 Z Z Z)) ⟨Z,Z⟩
def F_ce(n:Nat)(a:Int)(b:Int):Option Unit:=
  some ()
theorem k_ce(n:Nat)(a:Int)(b:Int)(r:Unit)(h:F_ce n a b=some r):
    Csm prog 142 [I a,I b] [] (λ_=>.bool (decide (a<b))) r:=by
 refine Qb func142 Z Z Z ?_;exact G0 14 Z (Rt h 4 [])
def F_cx(n:Nat)(a:Outcome):Option Unit:=
  some ()
theorem k_cx(n:Nat)(a:Outcome)(r:Unit)(h:F_cx n a=some r):
    Csm prog 140 [.agg (Outcome.c a)] [] (λ_=>I a.Hi) r:=by
 refine Qb func140 Z Z Z ?_;exact G0 14 Z (Rt h 2 [])
def F_ja(n:Nat)(a:List (List Int))(b:Int)(c:Int):Option Int:=
  (idx a b).bind λd=>(idx d c).bind λe=>some e
theorem k_ja(n:Nat)(a:List (List Int))(b:Int)(c:Int)(r:Int)(h:F_ja n a b c=some r):
    Csm prog 141 [.rsl 1 (List.map (YC 1 (Qd .i64)) a),I b,I c] [] (λr=>I r) r:=by
 refine Qb func141 Z Z Z ?_;exact G0 9 Z (Bd h λf d h=>Iz d Z (Go 2 Z (Bd h λg e h=>Iz e Z (Go 5 Z (Rt h 6 [])))))
def F_ck(n:Nat)(a:Outcome):Option Unit:=
  some ()
theorem k_ck(n:Nat)(a:Outcome)(r:Unit)(h:F_ck n a=some r):
    Csm prog 139 [.agg (Outcome.c a)] [] (λ_=>I a.Lo) r:=by
 refine Qb func139 Z Z Z ?_;exact G0 14 Z (Rt h 2 [])
def F_dx(n:Nat)(c:List Int)(d:List Int)(a:Int):Option (Ctl Int (Ctl Unit Int)):=
  (bif decide (a<(c.length:Int))then(idx c a).bind λe=>(bif decide ((d.length:Int)<=a)then some (.done (.done 1))else(idx d a).bind λf=>(F_e n e f).bind λb=>(bif (b != 0)then some (.done (.done b))else some (.cont (IntKind.i64.wrap (a+1)))))else some (.done (.cont ())))
def F_u(n:Nat)(b:List Int)(c:List Int):Option Int:=
  (iter (F_dx n b c) n 0:Option (Ctl Unit Int)).bind λd=>match d with|.cont a=>(bif decide ((b.length:Int)<(c.length:Int))then some (-1)else some 0)|.done a=>some a
theorem k_u(n:Nat)(l:List Int)(m:List Int)(r:Int)(h:F_u n l m=some r):
    Csm prog 88 [.rsl 1 (List.map (Qd .i64) l),.rsl 1 (List.map (Qd .i64) m)] [] (λr=>I r) r:=by
 refine Qb func88 Z Z Z ?_;refine G0 9 Z (Lm Z (Go 3 Z (Bd h λp q h=>?_)));refine Ja (b:=p) [] [0,1] Ze Ze Zf ?_ (λu env H s t=>?_)
 .refine G0 1 Z ?_;refine Lp [] [0,1,9,10] (λd=>[(11,I d)]) Ze q Zf (Lr []) λd x a c=>?_;refine G0 6 Z (Ya Z a (λe a=>?_) (λe a=>?_))
  .refine Gc 2 Z (Qk a ?_);obtain rfl:=Oj c a;exact Gx 1 Z (Qp Z (Lr []))
  refine Gc 7 Z (Bd a λy f a=>Iz f Z (Go 10 Z (Lm Z (Go 3 Z (Cn Z a (λg a=>?_) (λg a=>?_))))))
  .refine Gc 9 Z (Qn a ?_);obtain rfl:=Oj c a;exact Gx 1 Z (Qm (Gx 1 Z (Rt h 4 [])))
  refine Gc 6 Z (Bd a λz i a=>Iz i Z (Go 8 Z (Cz [] a (k_e _ _ _) Z λB w a=>Go 9 Z (Cn Z a (λj a=>?_) (λj a=>?_)))))
  .refine Gc 9 Z (Qn a ?_);obtain rfl:=Oj c a;exact Gx 1 Z (Qm (Gx 1 Z (Rt h 4 [])))
  exact Gc 7 Z (Qj a (Lr []))
 subst s;refine Gx 1 Z (Ef t (Gc 4 Z (Lm Z (Go 1 Z (Lm Z (Go 3 Z (Cn Z h (λk h=>?_) (λk h=>?_))))))))
 .exact Gc 7 Z (Rt h 4 [])
 exact Gc 8 Z (Rt h 4 [])
def F_jc(n:Nat)(c:Field)(i:Int)(b:Outcome)(j:Int)(a:Outcome):Option Bool:=
  (bif a.Out then some false else(F_cx n a).bind λr2=>(F_ja n c.Clocks.Far (IntKind.i64.wrap (b.Seg+1)) (IntKind.i64.wrap (a.Seg+1))).bind λd=>(F_ck n b).bind λk=>((bif decide ((IntKind.i64.wrap ((IntKind.i64.wrap (a.Hi+d))-b.Lo))<0)then some true else(bif ((IntKind.i64.wrap ((IntKind.i64.wrap (a.Hi+d))-b.Lo))==0)then(idx c.Runners j).bind λe=>(idx c.Runners i).bind λf=>(F_u n e.Keys f.Keys).bind λg=>some (decide (g<0))else some false)):Option Bool).bind λh=>some h)
theorem k_jc(n:Nat)(g:Field)(p:Int)(q:Outcome)(s:Int)(t:Outcome)(r:Bool)(h:F_jc n g p q s t=some r):
    Csm prog 225 [.agg [.fn (.func 139) [] [],.fn (.func 140) [] [],.fn (.func 141) [] [],.fn (.func 142) [] []],.agg (Field.c g),I p,.agg (Outcome.c q),I s,.agg (Outcome.c t)] [] (λr=>.bool r) r:=by
 refine Qb func225 Z Z Z ?_;refine G0 16 Z (Cn Z h (λu h=>?_) (λu h=>?_))
 .exact Gc 7 Z (Rt h 12 [])
 refine Gc 3 Z (DSs 21 Z (D 3 Z ?_));refine Dz [] h (k_cx _ _) Z λr2 z h=>D 11 Z ?_;refine Dz [] h (k_ja _ _ _ _) Z λG B h=>D 4 Z ?_;refine Dz [] h (k_ck _ _) Z λJ E h=>Eh Z (Go 5 Z (Bd h λf a h=>?_));refine Ct f [] [] (λf=>[(12,.bool f)]) Ze Zf ?_ (λenv H w=>?_)
 .refine G0 0 Z (DSs 18 Z (D 3 Z (Yr 2 a Z Z Z (λi a=>?_) (λi a=>?_))))
  .exact D 15 Z (Eh Z (Go 6 Z (Cl a [])))
  .refine D 3 Z (Yr 5 a Z Z Z (λj a=>?_) (λj a=>?_))
   .refine D 3 Z ?_;obtain⟨b,k,a⟩:=YP a;refine DS.v (x:=(.rp [I b.Bib,.rsl 1 (List.map (Qd .i64) b.Keys),.rsl 1 (List.map (YC 4 Outcome.c) b.Worlds)])) (YJ (e:=Runner.c) (l:=g.Runners) (v:=b) k runUnderlying27 sizeOf68) ?_ (hg:=(gT Z));refine D 5 Z ?_;obtain⟨d,m,a⟩:=YP a;refine DS.v (x:=(.rp [I d.Bib,.rsl 1 (List.map (Qd .i64) d.Keys),.rsl 1 (List.map (YC 4 Outcome.c) d.Worlds)])) (YJ (e:=Runner.c) (l:=g.Runners) (v:=d) m runUnderlying27 sizeOf68) ?_ (hg:=(gT Z));exact D 2 Z (Eh Z (Cz [] a (k_u _ _ _) Z λF y a=>Go 5 Z (Cl a [])))
   .exact D 12 Z (Eh Z (Go 6 Z (Cl a [])))
 exact Gx 1 Z (Ef w (Gc 1 Z (Rt h 12 [])))
def F_mc(n:Nat)(e:Field)(f:Int)(g:Outcome)(h:Int)(b:List Outcome)(a:Int):Option (Ctl Int (Ctl Unit (Int×Bool))):=
  (bif decide (a<(b.length:Int))then(idx b a).bind λc=>(F_jc n e f g h c).bind λd=>(bif (d==(decide (2<1)))then some (.done (.done (a,decide (2<1))))else some (.cont (IntKind.i64.wrap (a+1))))else some (.done (.cont ())))
def F_jb(n:Nat)(b:Field)(e:Int)(f:Int)(g:Outcome)(c:Int):Option (Int×Bool):=
  (F_ce n 2 1).bind λr1=>(idx b.Runners c).bind λh=>(idx h.Worlds e).bind λi=>(iter (F_mc n b f g c i) n 0:Option (Ctl Unit (Int×Bool))).bind λd=>match d with|.cont a=>(some (0,(!(decide (2<1)))))|.done a=>some a
theorem k_jb(n:Nat)(j:Field)(k:Int)(l:Int)(m:Outcome)(p:Int)(r:Int×Bool)(h:F_jb n j k l m p=some r):
    Csm prog 143 [.agg [.fn (.func 139) [] [],.fn (.func 140) [] [],.fn (.func 141) [] [],.fn (.func 142) [] []],.agg (Field.c j),I k,I l,.agg (Outcome.c m),I p] [] (λr=>.tup [I r.1,.bool r.2]) r:=by
 refine Qb func143 Z Z Z ?_;refine G0 13 Z (Cz [] h (k_ce _ _ _) Z λr1 E h=>Go 9 Z (Bd h λJ q h=>Iz q Z (Go 3 Z (Bd h λL s h=>Iz s Z (Go 1 Z (Lm Z (Go 3 Z (Bd h λt u h=>?_))))))));refine Ja (b:=t) [] [14] Ze Ze Zf ?_ (λz env H w x=>?_)
 .refine G0 1 Z ?_;refine Lp [0,1,2] [3,5,6,7,10,14,28,29] (λe=>[(30,I e)]) Ze u Zf (Lr [0,1,2]) λe F a d=>?_;refine G0 6 Z (Ya Z a (λf a=>?_) (λf a=>?_))
  .refine Gc 2 Z (Qk a ?_);obtain rfl:=Oj d a;exact Gx 1 Z (Qp Z (Lr []))
  refine Gc 7 Z (Bd a λG g a=>Iz g Z (Go 14 Z (Cz [] a (k_jc _ _ _ _ _ _) Z λy B a=>Go 1 Z ?_)));refine vX (.bool (y==(decide (2<1)))) (QeY runUnderlying4) ?_;refine Go 2 Z (Cn Z a (λi a=>?_) (λi a=>?_))
  .refine Gc 11 Z (Qn a ?_);obtain rfl:=Oj d a;refine Gx 1 Z (Qm (Gx 1 Z ?_));obtain rfl:=Oi h;exact R2 12 13 Z Z (Lr [])
  exact Gc 7 Z (Qj a (Lr [0,1,2]))
 subst w;refine Gx 1 Z (Ef x (Gc 9 Z ?_));obtain rfl:=Oi h;exact R2 12 13 Z Z (Lr [])
def F_lm(n:Nat)(f:Field)(g:Int)(h:Int)(b:Outcome)(a:Int×Int):Option (Ctl (Int×Int) Int):=
  (bif decide (a.2<(f.Runners.length:Int))then((bif (a.2==g)then some a.1 else(F_jb n f h g b a.2).bind λc=>((bif c.2 then some (IntKind.i64.wrap (a.1+1))else some a.1):Option Int).bind λd=>some d):Option Int).bind λe=>some (.cont (e,IntKind.i64.wrap (a.2+1)))else some (.done a.1))
def F_lz(n:Nat)(j:Field)(k:Int)(h:Int)(f:List Outcome)(a:ranks_place×Bool×Int):Option (Ctl (ranks_place×Bool×Int) (ranks_place×Bool)):=
  (bif decide (a.2.2<(f.length:Int))then((idx f a.2.2).bind λc=>(bif c.Out then some (a.1,a.2.1)else(iter (F_lm n j k h c) n (1,0):Option Int).bind λb=>((bif (!a.2.1)then some true else(F_ce n b a.1.rank).bind λi=>some (decide (b<a.1.rank))):Option Bool).bind λg=>((bif g then some ({world:=h,outcome:=a.2.2,rank:=b:ranks_place},true)else some (a.1,a.2.1)):Option (ranks_place×Bool)).bind λd=>some (d.1,d.2)):Option (ranks_place×Bool)).bind λe=>some (.cont (e.1,e.2,IntKind.i64.wrap (a.2.2+1)))else some (.done (a.1,a.2.1)))
def F_lq(n:Nat)(d:Field)(e:Int)(f:ranks_place×Bool)(g:Int):Option (Ctl (ranks_place×Bool) (ranks_place×Bool)):=
  (idx d.Runners e).bind λb=>(idx b.Worlds g).bind λc=>(iter (F_lz n d e g c) n (f.1,f.2,0):Option (ranks_place×Bool)).bind λa=>some (.cont (a.1,a.2))
def F_fg(n:Nat)(b:Field)(d:Int):Option (ranks_place×Bool):=
  (F_al n b).bind λr1=>(F_ap n b).bind λy2=>(Qcj (F_lq n b d) y2.1 (z_ranks_place,false):Option (Ctl (ranks_place×Bool) (ranks_place×Bool))).bind λc=>match c with|.cont a=>(some (a.1,a.2))|.done a=>some a
theorem k_fg(n:Nat)(V:Field)(W:Int)(r:ranks_place×Bool)(h:F_fg n V W=some r):
    C prog 93 [.agg [.fn (.func 139) [] [],.fn (.func 140) [] [],.fn (.func 141) [] [],.fn (.func 142) [] []],.agg (Field.c V),I W] [] (RQ (λr=>.tup [.agg (ranks_place.c r.1),.bool r.2]) (λr=>[.cells 185 (ranks_place.c r.1),.cells 4 [.bool r.2]]) r):=by
 refine Qb func93 Z Z Z ?_;refine G0 13 Z (Cd [] h (k_al _ _) Z λr1 am h=>FE Z (Go 3 Z (Bd h λy2 hy2 h=>Bd h λai X h=>?_)));refine Ji [5] (λY=>[.cells 191 [.fn (.func 139) [] [],.fn (.func 140) [] [],.fn (.func 141) [] [],.fn (.func 142) [] []],.cells 29 (Field.c V),.cells 3 [I W],.cells 185 (ranks_place.c Y.1),.cells 4 [.bool Y.2],.dead]) X (k_ap _ _ _ hy2) Zf call135 Z Z Z Z (by decide) Z (Lr [0,1,2,3,4,5]) ?_ ?_
 .intro Y x4 aj i ac;refine G0 3 Z (And.intro Z ?_);refine G0 6 Z (Bd i λak P i=>Iz P Z (Go 3 Z (Bd i λal Q i=>Iz Q Z (Go 1 Z (Lm Z (Go 3 Z (Bd i λm R i=>?_)))))));refine Ct m [0,1,2,3,4,5] [] Ze (λm=>[(3,.cells 185 (ranks_place.c m.1)),(4,.cells 4 [.bool m.2])]) Zf ?_ (λenv H f=>?_)
  .refine G0 1 Z ?_;refine Lp [0,1,2,3,4,5] [3,4,5,6,7,8,26,27] (λj=>[(28,I j.2.2)]) (λj=>[(3,.cells 185 (ranks_place.c j.1)),(4,.cells 4 [.bool j.2.1])]) R Zf (Lr [0,1,2,3,4,5]) λj ad d z=>?_;refine G0 6 Z (Ya Z d (λB d=>?_) (λB d=>?_))
   .refine Gc 2 Z (Qk d ?_);obtain rfl:=Oj z d;exact Gx 1 Z (Q1 (Lr [0,1,2,3,4,5]))
   refine Gc 3 Z (Bd d λp a d=>?_);refine Ct p [0,1,2,3,4,5] [3,4,5,6,7,8,26,27,28] Ze (λp=>[(3,.cells 185 (ranks_place.c p.1)),(4,.cells 4 [.bool p.2])]) Zf ?_ (λenv H f=>?_)
   .refine G0 4 Z (Bd a λae E a=>Iz E Z (Go 13 Z (Cn Z a (λF a=>?_) (λF a=>?_))))
    .exact Gc 3 Z (Cl a [0,1,2,3,4,5])
    refine Gc 12 Z (Lm Z (Go 3 Z (Bd a λs T a=>?_)));refine Ct s [0,1,2,3,4,5] [3,4,5,6,7,8,9,26,27,28] (λs=>[(11,I s)]) Ze Zf ?_ (λenv H f=>?_)
    .refine G0 1 Z ?_;refine Lp [0,1,2,3,4,5,6] [3,4,5,6,7,8,9,10,26,27,28,37] (λt=>[(11,I t.1),(38,I t.2)]) Ze T Zf (Lr [0,1,2,3,4,5,6]) λt af e G=>?_;refine G0 6 Z (Ya Z e (λJ e=>?_) (λJ e=>?_))
     .refine Gc 2 Z (Qk e ?_);obtain rfl:=Oj G e;exact Gx 1 Z (Q1 (Lr [0,1,2,3,4,5]))
     refine Gc 3 Z (Bd e λu b e=>?_);refine Ct u [0,1,2,3,4,5,6] [3,4,5,6,7,8,9,10,26,27,28,37,38] (λu=>[(11,I u)]) Ze Zf ?_ (λenv H f=>?_)
     .refine G0 15 Z (Cn Z b (λL b=>?_) (λL b=>?_))
      .exact Gc 3 Z (Cl b [0,1,2,3,4,5,6])
      refine Gc 10 Z (Cd [] b (k_jb _ _ _ _ _ _) Z λag aa b=>FE Z (Go 12 Z (Bd b λw k b=>?_)));refine Ct w [0,1,2,3,4,5,6] [3,4,5,6,7,8,9,10,26,27,28,37,38] (λw=>[(11,I w)]) Ze Zf ?_ (λenv H f=>?_)
      .refine G0 0 Z (Cn Z k (λM k=>?_) (λM k=>?_))
       .exact Gc 5 Z (Cl k [0,1,2,3,4,5,6])
       exact Gc 1 Z (Cl k [0,1,2,3,4,5,6])
      refine Gx 1 Z ?_;cases b;exact Q1 (En f (Lr [0,1,2,3,4,5,6]))
     exact Gx 1 Z (Ef f (Gc 4 Z (Qj e (Lr [0,1,2,3,4,5,6]))))
    refine Gx 1 Z (Ef f (Gc 1 Z (Bd a λx g a=>?_)));refine Ct x [0,1,2,3,4,5] [3,4,5,6,7,8,9,11,26,27,28] (λx=>[(67,.bool x)]) Ze Zf ?_ (λenv H f=>?_)
    .refine G0 4 Z (Is 60 g Z (λN g=>?_) (λN g=>?_))
     .exact Go 8 Z (Cl g [0,1,2,3,4,5])
     .exact Go 5 Z (Cz [] g (k_ce _ _ _) Z λah ab g=>Go 2 Z (Cl g [0,1,2,3,4,5]))
    refine Gx 1 Z (Ef f (Bd a λq l a=>?_));refine Ct q [0,1,2,3,4,5] [3,4,5,6,7,8,26,27,28] Ze (λq=>[(3,.cells 185 (ranks_place.c q.1)),(4,.cells 4 [.bool q.2])]) Zf ?_ (λenv H f=>?_)
    .refine G0 0 Z (Cn Z l (λO l=>?_) (λO l=>?_))
     .exact Gc 8 Z (Cl l [0,1,2,3,4,5])
     exact Gc 1 Z (Cl l [0,1,2,3,4,5])
    refine Gx 1 Z ?_;cases a;exact Q1 (En f (Lr [0,1,2,3,4,5]))
   exact Gx 1 Z (Ef f (Gc 4 Z (Qj d (Lr [0,1,2,3,4,5]))))
  exact Gx 1 Z (QaI i (En f (Lr [0,1,2,3,4,5])))
 rintro y rfl;refine Gx 3 Z ?_;refine TC.draw0 3 [73,74,1000002] [.agg (ranks_place.c y.1),.bool y.2,.any] draws Z Z Z ?_ ?_
 .refine ov (ov (Oq.c ?_ (Oq.n)))
  .refine Om2 Z (sO 6 (sD 0 sN)) ?_;refine vU (Ex Z Z Z sizeOf185 Z Z Z Z Z Z Z) ?_;exact FE Z Wp
 refine Go 4 Z ?_;obtain rfl:=Oi h;exact Rx [3,4] [6,7] Z (QS Z Z (QiA.cons (QD isAgg185 sizeOf185 Z Z Z) (QiA.cons (Qs isAgg4 Z Z) QiA.nil))) ⟨Z,Z⟩
def F_fq(n:Nat):Option Unit:=
  some ()
theorem k_fq(n:Nat)(r:Unit)(h:F_fq n=some r):
    C prog 94 [] [] (RQ (λ_=>.agg [.fn (.func 140) [] [],.fn (.func 139) [] [],.fn (.func 144) [] [],.fn (.func 145) [] []]) (λ_=>[.cells 191 [.fn (.func 140) [] [],.fn (.func 139) [] [],.fn (.func 144) [] [],.fn (.func 145) [] []]]) r):=by
 refine Qb func94 Z Z Z ?_;refine G0 12 Z ?_;obtain rfl:=Oi h;exact Rx [0] [0] Z (QV Z (QD isAgg191 sizeOf191 Z Z Z)) ⟨Z,Z⟩
def F_cv(n:Nat)(a:Int)(b:Int):Option Unit:=
  some ()
theorem k_cv(n:Nat)(a:Int)(b:Int)(r:Unit)(h:F_cv n a b=some r):
    Csm prog 145 [I a,I b] [] (λ_=>.bool (decide (b<a))) r:=by
 refine Qb func145 Z Z Z ?_;exact G0 14 Z (Rt h 4 [])
def F_io(n:Nat)(a:List (List Int))(b:Int)(c:Int):Option Int:=
  (idx a c).bind λd=>(idx d b).bind λe=>some (IntKind.i64.wrap (0-e))
theorem k_io(n:Nat)(a:List (List Int))(b:Int)(c:Int)(r:Int)(h:F_io n a b c=some r):
    Csm prog 144 [.rsl 1 (List.map (YC 1 (Qd .i64)) a),I b,I c] [] (λr=>I r) r:=by
 refine Qb func144 Z Z Z ?_;exact G0 9 Z (Bd h λf d h=>Iz d Z (Go 2 Z (Bd h λg e h=>Iz e Z (Go 6 Z (Rt h 6 [])))))
def F_ib(n:Nat)(c:Field)(i:Int)(b:Outcome)(j:Int)(a:Outcome):Option Bool:=
  (bif a.Out then some false else(F_ck n a).bind λr2=>(F_io n c.Clocks.Far (IntKind.i64.wrap (b.Seg+1)) (IntKind.i64.wrap (a.Seg+1))).bind λd=>(F_cx n b).bind λk=>((bif decide ((IntKind.i64.wrap ((IntKind.i64.wrap (a.Lo+d))-b.Hi))<0)then some true else(bif ((IntKind.i64.wrap ((IntKind.i64.wrap (a.Lo+d))-b.Hi))==0)then(idx c.Runners j).bind λe=>(idx c.Runners i).bind λf=>(F_u n e.Keys f.Keys).bind λg=>some (decide (g<0))else some false)):Option Bool).bind λh=>some h)
theorem k_ib(n:Nat)(g:Field)(p:Int)(q:Outcome)(s:Int)(t:Outcome)(r:Bool)(h:F_ib n g p q s t=some r):
    Csm prog 225 [.agg [.fn (.func 140) [] [],.fn (.func 139) [] [],.fn (.func 144) [] [],.fn (.func 145) [] []],.agg (Field.c g),I p,.agg (Outcome.c q),I s,.agg (Outcome.c t)] [] (λr=>.bool r) r:=by
 refine Qb func225 Z Z Z ?_;refine G0 16 Z (Cn Z h (λu h=>?_) (λu h=>?_))
 .exact Gc 7 Z (Rt h 12 [])
 refine Gc 3 Z (DSs 21 Z (D 3 Z ?_));refine Dz [] h (k_ck _ _) Z λr2 z h=>D 11 Z ?_;refine Dz [] h (k_io _ _ _ _) Z λG B h=>D 4 Z ?_;refine Dz [] h (k_cx _ _) Z λJ E h=>Eh Z (Go 5 Z (Bd h λf a h=>?_));refine Ct f [] [] (λf=>[(12,.bool f)]) Ze Zf ?_ (λenv H w=>?_)
 .refine G0 0 Z (DSs 18 Z (D 3 Z (Yr 2 a Z Z Z (λi a=>?_) (λi a=>?_))))
  .exact D 15 Z (Eh Z (Go 6 Z (Cl a [])))
  .refine D 3 Z (Yr 5 a Z Z Z (λj a=>?_) (λj a=>?_))
   .refine D 3 Z ?_;obtain⟨b,k,a⟩:=YP a;refine DS.v (x:=(.rp [I b.Bib,.rsl 1 (List.map (Qd .i64) b.Keys),.rsl 1 (List.map (YC 4 Outcome.c) b.Worlds)])) (YJ (e:=Runner.c) (l:=g.Runners) (v:=b) k runUnderlying27 sizeOf68) ?_ (hg:=(gT Z));refine D 5 Z ?_;obtain⟨d,m,a⟩:=YP a;refine DS.v (x:=(.rp [I d.Bib,.rsl 1 (List.map (Qd .i64) d.Keys),.rsl 1 (List.map (YC 4 Outcome.c) d.Worlds)])) (YJ (e:=Runner.c) (l:=g.Runners) (v:=d) m runUnderlying27 sizeOf68) ?_ (hg:=(gT Z));exact D 2 Z (Eh Z (Cz [] a (k_u _ _ _) Z λF y a=>Go 5 Z (Cl a [])))
   .exact D 12 Z (Eh Z (Go 6 Z (Cl a [])))
 exact Gx 1 Z (Ef w (Gc 1 Z (Rt h 12 [])))
def F_mg(n:Nat)(e:Field)(f:Int)(g:Outcome)(h:Int)(b:List Outcome)(a:Int):Option (Ctl Int (Ctl Unit (Int×Bool))):=
  (bif decide (a<(b.length:Int))then(idx b a).bind λc=>(F_ib n e f g h c).bind λd=>(bif (d==(decide (1<2)))then some (.done (.done (a,decide (1<2))))else some (.cont (IntKind.i64.wrap (a+1))))else some (.done (.cont ())))
def F_ix(n:Nat)(b:Field)(e:Int)(f:Int)(g:Outcome)(c:Int):Option (Int×Bool):=
  (F_cv n 2 1).bind λr1=>(idx b.Runners c).bind λh=>(idx h.Worlds e).bind λi=>(iter (F_mg n b f g c i) n 0:Option (Ctl Unit (Int×Bool))).bind λd=>match d with|.cont a=>(some (0,(!(decide (1<2)))))|.done a=>some a
theorem k_ix(n:Nat)(j:Field)(k:Int)(l:Int)(m:Outcome)(p:Int)(r:Int×Bool)(h:F_ix n j k l m p=some r):
    Csm prog 143 [.agg [.fn (.func 140) [] [],.fn (.func 139) [] [],.fn (.func 144) [] [],.fn (.func 145) [] []],.agg (Field.c j),I k,I l,.agg (Outcome.c m),I p] [] (λr=>.tup [I r.1,.bool r.2]) r:=by
 refine Qb func143 Z Z Z ?_;refine G0 13 Z (Cz [] h (k_cv _ _ _) Z λr1 E h=>Go 9 Z (Bd h λJ q h=>Iz q Z (Go 3 Z (Bd h λL s h=>Iz s Z (Go 1 Z (Lm Z (Go 3 Z (Bd h λt u h=>?_))))))));refine Ja (b:=t) [] [14] Ze Ze Zf ?_ (λz env H w x=>?_)
 .refine G0 1 Z ?_;refine Lp [0,1,2] [3,5,6,7,10,14,28,29] (λe=>[(30,I e)]) Ze u Zf (Lr [0,1,2]) λe F a d=>?_;refine G0 6 Z (Ya Z a (λf a=>?_) (λf a=>?_))
  .refine Gc 2 Z (Qk a ?_);obtain rfl:=Oj d a;exact Gx 1 Z (Qp Z (Lr []))
  refine Gc 7 Z (Bd a λG g a=>Iz g Z (Go 14 Z (Cz [] a (k_ib _ _ _ _ _ _) Z λy B a=>Go 1 Z ?_)));refine vX (.bool (y==(decide (1<2)))) (QeY runUnderlying4) ?_;refine Go 2 Z (Cn Z a (λi a=>?_) (λi a=>?_))
  .refine Gc 11 Z (Qn a ?_);obtain rfl:=Oj d a;refine Gx 1 Z (Qm (Gx 1 Z ?_));obtain rfl:=Oi h;exact R2 12 13 Z Z (Lr [])
  exact Gc 7 Z (Qj a (Lr [0,1,2]))
 subst w;refine Gx 1 Z (Ef x (Gc 9 Z ?_));obtain rfl:=Oi h;exact R2 12 13 Z Z (Lr [])
def F_lg(n:Nat)(f:Field)(g:Int)(h:Int)(b:Outcome)(a:Int×Int):Option (Ctl (Int×Int) Int):=
  (bif decide (a.2<(f.Runners.length:Int))then((bif (a.2==g)then some a.1 else(F_ix n f h g b a.2).bind λc=>((bif c.2 then some (IntKind.i64.wrap (a.1+1))else some a.1):Option Int).bind λd=>some d):Option Int).bind λe=>some (.cont (e,IntKind.i64.wrap (a.2+1)))else some (.done a.1))
def F_la(n:Nat)(j:Field)(k:Int)(h:Int)(f:List Outcome)(a:ranks_place×Bool×Int):Option (Ctl (ranks_place×Bool×Int) (ranks_place×Bool)):=
  (bif decide (a.2.2<(f.length:Int))then((idx f a.2.2).bind λc=>(bif c.Out then some (a.1,a.2.1)else(iter (F_lg n j k h c) n (1,0):Option Int).bind λb=>((bif (!a.2.1)then some true else(F_cv n b a.1.rank).bind λi=>some (decide (a.1.rank<b))):Option Bool).bind λg=>((bif g then some ({world:=h,outcome:=a.2.2,rank:=b:ranks_place},true)else some (a.1,a.2.1)):Option (ranks_place×Bool)).bind λd=>some (d.1,d.2)):Option (ranks_place×Bool)).bind λe=>some (.cont (e.1,e.2,IntKind.i64.wrap (a.2.2+1)))else some (.done (a.1,a.2.1)))
def F_ku(n:Nat)(d:Field)(e:Int)(f:ranks_place×Bool)(g:Int):Option (Ctl (ranks_place×Bool) (ranks_place×Bool)):=
  (idx d.Runners e).bind λb=>(idx b.Worlds g).bind λc=>(iter (F_la n d e g c) n (f.1,f.2,0):Option (ranks_place×Bool)).bind λa=>some (.cont (a.1,a.2))
def F_gm(n:Nat)(b:Field)(d:Int):Option (ranks_place×Bool):=
  (F_al n b).bind λr1=>(F_ap n b).bind λy2=>(Qcj (F_ku n b d) y2.1 (z_ranks_place,false):Option (Ctl (ranks_place×Bool) (ranks_place×Bool))).bind λc=>match c with|.cont a=>(some (a.1,a.2))|.done a=>some a
theorem k_gm(n:Nat)(V:Field)(W:Int)(r:ranks_place×Bool)(h:F_gm n V W=some r):
    C prog 93 [.agg [.fn (.func 140) [] [],.fn (.func 139) [] [],.fn (.func 144) [] [],.fn (.func 145) [] []],.agg (Field.c V),I W] [] (RQ (λr=>.tup [.agg (ranks_place.c r.1),.bool r.2]) (λr=>[.cells 185 (ranks_place.c r.1),.cells 4 [.bool r.2]]) r):=by
 refine Qb func93 Z Z Z ?_;refine G0 13 Z (Cd [] h (k_al _ _) Z λr1 am h=>FE Z (Go 3 Z (Bd h λy2 hy2 h=>Bd h λai X h=>?_)));refine Ji [5] (λY=>[.cells 191 [.fn (.func 140) [] [],.fn (.func 139) [] [],.fn (.func 144) [] [],.fn (.func 145) [] []],.cells 29 (Field.c V),.cells 3 [I W],.cells 185 (ranks_place.c Y.1),.cells 4 [.bool Y.2],.dead]) X (k_ap _ _ _ hy2) Zf call135 Z Z Z Z (by decide) Z (Lr [0,1,2,3,4,5]) ?_ ?_
 .intro Y x4 aj i ac;refine G0 3 Z (And.intro Z ?_);refine G0 6 Z (Bd i λak P i=>Iz P Z (Go 3 Z (Bd i λal Q i=>Iz Q Z (Go 1 Z (Lm Z (Go 3 Z (Bd i λm R i=>?_)))))));refine Ct m [0,1,2,3,4,5] [] Ze (λm=>[(3,.cells 185 (ranks_place.c m.1)),(4,.cells 4 [.bool m.2])]) Zf ?_ (λenv H f=>?_)
  .refine G0 1 Z ?_;refine Lp [0,1,2,3,4,5] [3,4,5,6,7,8,26,27] (λj=>[(28,I j.2.2)]) (λj=>[(3,.cells 185 (ranks_place.c j.1)),(4,.cells 4 [.bool j.2.1])]) R Zf (Lr [0,1,2,3,4,5]) λj ad d z=>?_;refine G0 6 Z (Ya Z d (λB d=>?_) (λB d=>?_))
   .refine Gc 2 Z (Qk d ?_);obtain rfl:=Oj z d;exact Gx 1 Z (Q1 (Lr [0,1,2,3,4,5]))
   refine Gc 3 Z (Bd d λp a d=>?_);refine Ct p [0,1,2,3,4,5] [3,4,5,6,7,8,26,27,28] Ze (λp=>[(3,.cells 185 (ranks_place.c p.1)),(4,.cells 4 [.bool p.2])]) Zf ?_ (λenv H f=>?_)
   .refine G0 4 Z (Bd a λae E a=>Iz E Z (Go 13 Z (Cn Z a (λF a=>?_) (λF a=>?_))))
    .exact Gc 3 Z (Cl a [0,1,2,3,4,5])
    refine Gc 12 Z (Lm Z (Go 3 Z (Bd a λs T a=>?_)));refine Ct s [0,1,2,3,4,5] [3,4,5,6,7,8,9,26,27,28] (λs=>[(11,I s)]) Ze Zf ?_ (λenv H f=>?_)
    .refine G0 1 Z ?_;refine Lp [0,1,2,3,4,5,6] [3,4,5,6,7,8,9,10,26,27,28,37] (λt=>[(11,I t.1),(38,I t.2)]) Ze T Zf (Lr [0,1,2,3,4,5,6]) λt af e G=>?_;refine G0 6 Z (Ya Z e (λJ e=>?_) (λJ e=>?_))
     .refine Gc 2 Z (Qk e ?_);obtain rfl:=Oj G e;exact Gx 1 Z (Q1 (Lr [0,1,2,3,4,5]))
     refine Gc 3 Z (Bd e λu b e=>?_);refine Ct u [0,1,2,3,4,5,6] [3,4,5,6,7,8,9,10,26,27,28,37,38] (λu=>[(11,I u)]) Ze Zf ?_ (λenv H f=>?_)
     .refine G0 15 Z (Cn Z b (λL b=>?_) (λL b=>?_))
      .exact Gc 3 Z (Cl b [0,1,2,3,4,5,6])
      refine Gc 10 Z (Cd [] b (k_ix _ _ _ _ _ _) Z λag aa b=>FE Z (Go 12 Z (Bd b λw k b=>?_)));refine Ct w [0,1,2,3,4,5,6] [3,4,5,6,7,8,9,10,26,27,28,37,38] (λw=>[(11,I w)]) Ze Zf ?_ (λenv H f=>?_)
      .refine G0 0 Z (Cn Z k (λM k=>?_) (λM k=>?_))
       .exact Gc 5 Z (Cl k [0,1,2,3,4,5,6])
       exact Gc 1 Z (Cl k [0,1,2,3,4,5,6])
      refine Gx 1 Z ?_;cases b;exact Q1 (En f (Lr [0,1,2,3,4,5,6]))
     exact Gx 1 Z (Ef f (Gc 4 Z (Qj e (Lr [0,1,2,3,4,5,6]))))
    refine Gx 1 Z (Ef f (Gc 1 Z (Bd a λx g a=>?_)));refine Ct x [0,1,2,3,4,5] [3,4,5,6,7,8,9,11,26,27,28] (λx=>[(67,.bool x)]) Ze Zf ?_ (λenv H f=>?_)
    .refine G0 4 Z (Is 60 g Z (λN g=>?_) (λN g=>?_))
     .exact Go 8 Z (Cl g [0,1,2,3,4,5])
     .exact Go 5 Z (Cz [] g (k_cv _ _ _) Z λah ab g=>Go 2 Z (Cl g [0,1,2,3,4,5]))
    refine Gx 1 Z (Ef f (Bd a λq l a=>?_));refine Ct q [0,1,2,3,4,5] [3,4,5,6,7,8,26,27,28] Ze (λq=>[(3,.cells 185 (ranks_place.c q.1)),(4,.cells 4 [.bool q.2])]) Zf ?_ (λenv H f=>?_)
    .refine G0 0 Z (Cn Z l (λO l=>?_) (λO l=>?_))
     .exact Gc 8 Z (Cl l [0,1,2,3,4,5])
     exact Gc 1 Z (Cl l [0,1,2,3,4,5])
    refine Gx 1 Z ?_;cases a;exact Q1 (En f (Lr [0,1,2,3,4,5]))
   exact Gx 1 Z (Ef f (Gc 4 Z (Qj d (Lr [0,1,2,3,4,5]))))
  exact Gx 1 Z (QaI i (En f (Lr [0,1,2,3,4,5])))
 rintro y rfl;refine Gx 3 Z ?_;refine TC.draw0 3 [73,74,1000002] [.agg (ranks_place.c y.1),.bool y.2,.any] draws Z Z Z ?_ ?_
 .refine ov (ov (Oq.c ?_ (Oq.n)))
  .refine Om2 Z (sO 6 (sD 0 sN)) ?_;refine vU (Ex Z Z Z sizeOf185 Z Z Z Z Z Z Z) ?_;exact FE Z Wp
 refine Go 4 Z ?_;obtain rfl:=Oi h;exact Rx [3,4] [6,7] Z (QS Z Z (QiA.cons (QD isAgg185 sizeOf185 Z Z Z) (QiA.cons (Qs isAgg4 Z Z) QiA.nil))) ⟨Z,Z⟩
def F_ma(n:Nat)(f:Field)(g:Int)(a:Rank)(h:Int):Option (Ctl Rank Rank):=
  ((bif a.Out then some ({a with Out:=true:Rank})else(idx f.Runners g).bind λb=>(idx b.Worlds h).bind λc=>(F_jd n c).bind λd=>some ({a with Out:=d:Rank})):Option Rank).bind λe=>some (.cont e)
def F_ic(n:Nat)(c:Field)(e:Int):Option Rank:=
  (idx c.Runners e).bind λi=>(F_al n c).bind λr2=>(F_ap n c).bind λy3=>(Qcj (F_ma n c e) y3.1 ({z_Rank with Bib:=i.Bib,Kind:=3:Rank}):Option (Ctl Rank Rank)).bind λf=>match f with|.cont a=>((F_eu n).bind λj=>(F_fg n c e).bind λb=>(bif (!b.2)then some a else(F_fq n).bind λk=>(F_gm n c e).bind λd=>((bif (b.1.rank==d.1.rank)then some (!a.Out)else some false):Option Bool).bind λg=>((bif g then some ({a with Kind:=1,Lo:=b.1.rank,Hi:=d.1.rank:Rank})else some ({a with Kind:=2,Lo:=b.1.rank,Hi:=d.1.rank:Rank})):Option Rank).bind λh=>some h))|.done a=>some a
theorem k_ic(n:Nat)(e:Field)(f:Int)(r:Rank)(h:F_ic n e f=some r):
    C prog 59 [.agg (Field.c e),I f] [] (RQ (λr=>.agg (Rank.c r)) (λr=>[.cells 78 (Rank.c r)]) r):=by
 refine Qb func59 Z Z Z ?_;refine G0 12 Z (Bd h λY G h=>Iz G Z (Go 11 Z (Cd [] h (k_al _ _) Z λr2 O h=>FE Z (Go 3 Z (Bd h λy3 hy3 h=>Bd h λP J h=>?_)))));refine Ji [4] (λL=>[.cells 29 (Field.c e),.cells 3 [I f],.cells 78 (Rank.c z_Rank),.cells 78 (Rank.c L),.dead]) J (k_ap _ _ _ hy3) Zf call135 Z Z Z Z (by decide) Z (Lr [0,1,2,3,4]) ?_ ?_
 .intro L x5 Q l M;refine G0 3 Z (And.intro Z ?_);refine G0 1 Z (Bd l λm g l=>?_);refine Ct m [0,1,2,3,4] [] Ze (λm=>[(3,.cells 78 (Rank.c m))]) Zf ?_ (λenv H i=>?_)
  .refine G0 4 Z (Is 23 g Z (λx g=>?_) (λx g=>?_))
   .exact Go 14 Z (Cl g [0,1,2,3,4])
   .exact Go 3 Z (Bd g λR y g=>Iz y Z (Go 3 Z (Bd g λT z g=>Iz z Z (Go 1 Z (Cz [] g (k_jd _ _) Z λV N g=>Go 4 Z (Cl g [0,1,2,3,4]))))))
  exact Gx 1 Z (QaI l (En i (Lr [0,1,2,3,4])))
 rintro d rfl;refine Gx 3 Z ?_;obtain⟨W,p,h⟩:=YP h;obtain⟨a,q,h⟩:=YP h;refine QaE 9 1 [37,38,39,40,36,41,42,7,1000008] [true,false,false,true,false,false,false,true,true] [[],[],[],[0],[0,3],[0,3],[0,3],[],[0,3,7]] [[],[0],[7],[0,3],[0,7],[0,3,7],[0,3,7,8]] [[(0,1),(2,4)],[(0,0),(1,1),(2,2),(4,4)],[(0,0),(1,1),(2,2),(4,4)],[(1,3),(4,5)],[(3,3),(5,5)],[(3,3),(5,5)],[(3,3),(5,5),(6,6)],[(0,2),(1,4),(3,5)],[(5,6)]] [.agg [.fn (.func 139) [] [],.fn (.func 140) [] [],.fn (.func 141) [] [],.fn (.func 142) [] []],.agg (Field.c e),I f,.tup [.agg (ranks_place.c a.1),.bool a.2],.tup [.agg (ranks_place.c a.1),.bool a.2],.agg (ranks_place.c a.1),.bool a.2,.ptr 5 0,.any] [[.cells 29 (Field.c e),.cells 3 [I f],.cells 78 (Rank.c z_Rank),.cells 78 (Rank.c d),.dead,.dead],[.cells 29 (Field.c e),.cells 3 [I f],.cells 78 (Rank.c z_Rank),.cells 78 (Rank.c d),.dead,.dead,.cells 191 [.fn (.func 139) [] [],.fn (.func 140) [] [],.fn (.func 141) [] [],.fn (.func 142) [] []]],[.cells 29 (Field.c e),.cells 3 [I f],.cells 78 (Rank.c z_Rank),.cells 78 (Rank.c d),.dead,.cells 185 (ranks_place.c z_ranks_place)],[.cells 29 (Field.c e),.cells 3 [I f],.cells 78 (Rank.c z_Rank),.cells 78 (Rank.c d),.dead,.dead,.cells 191 [.fn (.func 139) [] [],.fn (.func 140) [] [],.fn (.func 141) [] [],.fn (.func 142) [] []],.cells 185 (ranks_place.c a.1),.cells 4 [.bool a.2]],[.cells 29 (Field.c e),.cells 3 [I f],.cells 78 (Rank.c z_Rank),.cells 78 (Rank.c d),.dead,.cells 185 (ranks_place.c z_ranks_place),.cells 191 [.fn (.func 139) [] [],.fn (.func 140) [] [],.fn (.func 141) [] [],.fn (.func 142) [] []]],[.cells 29 (Field.c e),.cells 3 [I f],.cells 78 (Rank.c z_Rank),.cells 78 (Rank.c d),.dead,.cells 185 (ranks_place.c z_ranks_place),.cells 191 [.fn (.func 139) [] [],.fn (.func 140) [] [],.fn (.func 141) [] [],.fn (.func 142) [] []],.cells 185 (ranks_place.c a.1),.cells 4 [.bool a.2]],[.cells 29 (Field.c e),.cells 3 [I f],.cells 78 (Rank.c z_Rank),.cells 78 (Rank.c d),.dead,.cells 185 (ranks_place.c a.1),.cells 191 [.fn (.func 139) [] [],.fn (.func 140) [] [],.fn (.func 141) [] [],.fn (.func 142) [] []],.cells 185 (ranks_place.c a.1),.cells 4 [.bool a.2]]] ([.cells 29 (Field.c e),.cells 3 [I f],.cells 78 (Rank.c z_Rank),.cells 78 (Rank.c d),.dead,.cells 185 (ranks_place.c a.1),.cells 191 [.fn (.func 139) [] [],.fn (.func 140) [] [],.fn (.func 141) [] [],.fn (.func 142) [] []],.cells 185 (ranks_place.c a.1),.cells 4 [.bool a.2]]) draws Z Z Z Z Z Z Z ?_ Z ?_
 .refine Qgz.cons ?_ (Qgz.cons (Qe (v0 Z Z) (Qe (v0 Z Z) (Qe (v0 Z Z) (Qe (v0 Z Z) (Ql))))) (Qgz.cons (Qe (v0 Z Z) (Qe (v0 Z Z) (Qe (v0 Z Z) (Qe (v0 Z Z) (Ql))))) (Qgz.cons ?_ (Qgz.cons (Qe (v0 Z Z) (Qe (v0 Z Z) (Ql))) (Qgz.cons (Qe (v0 Z Z) (Qe (v0 Z Z) (Ql))) (Qgz.cons (Qe (v0 Z Z) (Qe (v0 Z Z) (Qe (v0 Z Z) (Ql)))) (Qgz.cons ?_ (Qgz.cons ?_ (Qgz.nil)))))))))
  .refine Qe ?_ (Qe ?_ (Ql))
   .refine Om1 Z sN ?_;refine Qt [] (OpC.fn call92 Z Z Z) (k_eu _ _ p) ?_;rintro _ _ ⟨rfl,rfl⟩;exact FE Z Wp
   .refine Om1 Z sN ?_;refine Qt [] (OpC.fn call92 Z Z Z) (k_eu _ _ p) ?_;rintro _ _ ⟨rfl,rfl⟩;exact FE Z Wp
  .refine Qe ?_ (Qe ?_ (Ql))
   .refine Om1 Z (sD 0 (sD 1 (sD 2 sN))) ?_;refine Qt [] (OpC.fn call93 Z Z Z) (k_fg _ _ _ _ q) ?_;rintro _ _ ⟨rfl,rfl⟩;exact FE Z Wp
   .refine Om1 Z (sD 0 (sD 1 (sD 2 sN))) ?_;refine Qt [] (OpC.fn call93 Z Z Z) (k_fg _ _ _ _ q) ?_;rintro _ _ ⟨rfl,rfl⟩;exact FE Z Wp
  .refine Qe ?_ (Qe ?_ (Qe ?_ (Ql)))
   .exact Jo.alloc _ 7 185 5 _ Z Z Z Z Z Z Z (OpZ.alloc (v:=(.agg [I 0,I 0,I 0])) zeroValue185 (zrC Z)) Z
   .exact Jo.alloc _ 7 185 5 _ Z Z Z Z Z Z Z (OpZ.alloc (v:=(.agg [I 0,I 0,I 0])) zeroValue185 (zrC Z)) Z
   .exact Jo.alloc _ 7 185 5 _ Z Z Z Z Z Z Z (OpZ.alloc (v:=(.agg [I 0,I 0,I 0])) zeroValue185 (zrC Z)) Z
  .refine Qe ?_ (Ql)
   .refine Om2 Z (sD 7 (sD 5 sN)) ?_;refine vU (Ex Z Z Z sizeOf185 Z Z Z Z Z Z Z) ?_;exact FE Z Wp
 refine Go 10 Z (Cn Z h (λB h=>?_) (λB h=>?_))
 .refine Gc 8 Z ?_;obtain rfl:=Oi h;exact Rx [2] [4] Z (QV Z (QD isAgg78 sizeOf78 Z Z Z)) ⟨Z,Z⟩
 refine Gc 3 Z ?_;obtain⟨X,s,h⟩:=YP h;obtain⟨b,t,h⟩:=YP h;refine QaE 9 1 [47,48,49,50,46,51,52,9,1000008] [true,false,false,true,false,false,false,true,true] [[],[],[],[0],[0,3],[0,3],[0,3],[],[0,3,7]] [[],[0],[7],[0,3],[0,7],[0,3,7],[0,3,7,8]] [[(0,1),(2,4)],[(0,0),(1,1),(2,2),(4,4)],[(0,0),(1,1),(2,2),(4,4)],[(1,3),(4,5)],[(3,3),(5,5)],[(3,3),(5,5)],[(3,3),(5,5),(6,6)],[(0,2),(1,4),(3,5)],[(5,6)]] [.agg [.fn (.func 140) [] [],.fn (.func 139) [] [],.fn (.func 144) [] [],.fn (.func 145) [] []],.agg (Field.c e),I f,.tup [.agg (ranks_place.c b.1),.bool b.2],.tup [.agg (ranks_place.c b.1),.bool b.2],.agg (ranks_place.c b.1),.bool b.2,.ptr 9 0,.any] [[.cells 29 (Field.c e),.cells 3 [I f],.cells 78 (Rank.c z_Rank),.cells 78 (Rank.c d),.dead,.cells 185 (ranks_place.c a.1),.cells 191 [.fn (.func 139) [] [],.fn (.func 140) [] [],.fn (.func 141) [] [],.fn (.func 142) [] []],.cells 185 (ranks_place.c a.1),.cells 4 [.bool a.2],.dead],[.cells 29 (Field.c e),.cells 3 [I f],.cells 78 (Rank.c z_Rank),.cells 78 (Rank.c d),.dead,.cells 185 (ranks_place.c a.1),.cells 191 [.fn (.func 139) [] [],.fn (.func 140) [] [],.fn (.func 141) [] [],.fn (.func 142) [] []],.cells 185 (ranks_place.c a.1),.cells 4 [.bool a.2],.dead,.cells 191 [.fn (.func 140) [] [],.fn (.func 139) [] [],.fn (.func 144) [] [],.fn (.func 145) [] []]],[.cells 29 (Field.c e),.cells 3 [I f],.cells 78 (Rank.c z_Rank),.cells 78 (Rank.c d),.dead,.cells 185 (ranks_place.c a.1),.cells 191 [.fn (.func 139) [] [],.fn (.func 140) [] [],.fn (.func 141) [] [],.fn (.func 142) [] []],.cells 185 (ranks_place.c a.1),.cells 4 [.bool a.2],.cells 185 (ranks_place.c z_ranks_place)],[.cells 29 (Field.c e),.cells 3 [I f],.cells 78 (Rank.c z_Rank),.cells 78 (Rank.c d),.dead,.cells 185 (ranks_place.c a.1),.cells 191 [.fn (.func 139) [] [],.fn (.func 140) [] [],.fn (.func 141) [] [],.fn (.func 142) [] []],.cells 185 (ranks_place.c a.1),.cells 4 [.bool a.2],.dead,.cells 191 [.fn (.func 140) [] [],.fn (.func 139) [] [],.fn (.func 144) [] [],.fn (.func 145) [] []],.cells 185 (ranks_place.c b.1),.cells 4 [.bool b.2]],[.cells 29 (Field.c e),.cells 3 [I f],.cells 78 (Rank.c z_Rank),.cells 78 (Rank.c d),.dead,.cells 185 (ranks_place.c a.1),.cells 191 [.fn (.func 139) [] [],.fn (.func 140) [] [],.fn (.func 141) [] [],.fn (.func 142) [] []],.cells 185 (ranks_place.c a.1),.cells 4 [.bool a.2],.cells 185 (ranks_place.c z_ranks_place),.cells 191 [.fn (.func 140) [] [],.fn (.func 139) [] [],.fn (.func 144) [] [],.fn (.func 145) [] []]],[.cells 29 (Field.c e),.cells 3 [I f],.cells 78 (Rank.c z_Rank),.cells 78 (Rank.c d),.dead,.cells 185 (ranks_place.c a.1),.cells 191 [.fn (.func 139) [] [],.fn (.func 140) [] [],.fn (.func 141) [] [],.fn (.func 142) [] []],.cells 185 (ranks_place.c a.1),.cells 4 [.bool a.2],.cells 185 (ranks_place.c z_ranks_place),.cells 191 [.fn (.func 140) [] [],.fn (.func 139) [] [],.fn (.func 144) [] [],.fn (.func 145) [] []],.cells 185 (ranks_place.c b.1),.cells 4 [.bool b.2]],[.cells 29 (Field.c e),.cells 3 [I f],.cells 78 (Rank.c z_Rank),.cells 78 (Rank.c d),.dead,.cells 185 (ranks_place.c a.1),.cells 191 [.fn (.func 139) [] [],.fn (.func 140) [] [],.fn (.func 141) [] [],.fn (.func 142) [] []],.cells 185 (ranks_place.c a.1),.cells 4 [.bool a.2],.cells 185 (ranks_place.c b.1),.cells 191 [.fn (.func 140) [] [],.fn (.func 139) [] [],.fn (.func 144) [] [],.fn (.func 145) [] []],.cells 185 (ranks_place.c b.1),.cells 4 [.bool b.2]]] ([.cells 29 (Field.c e),.cells 3 [I f],.cells 78 (Rank.c z_Rank),.cells 78 (Rank.c d),.dead,.cells 185 (ranks_place.c a.1),.cells 191 [.fn (.func 139) [] [],.fn (.func 140) [] [],.fn (.func 141) [] [],.fn (.func 142) [] []],.cells 185 (ranks_place.c a.1),.cells 4 [.bool a.2],.cells 185 (ranks_place.c b.1),.cells 191 [.fn (.func 140) [] [],.fn (.func 139) [] [],.fn (.func 144) [] [],.fn (.func 145) [] []],.cells 185 (ranks_place.c b.1),.cells 4 [.bool b.2]]) draws Z Z Z Z Z Z Z ?_ Z ?_
 .refine Qgz.cons ?_ (Qgz.cons (Qe (v0 Z Z) (Qe (v0 Z Z) (Qe (v0 Z Z) (Qe (v0 Z Z) (Ql))))) (Qgz.cons (Qe (v0 Z Z) (Qe (v0 Z Z) (Qe (v0 Z Z) (Qe (v0 Z Z) (Ql))))) (Qgz.cons ?_ (Qgz.cons (Qe (v0 Z Z) (Qe (v0 Z Z) (Ql))) (Qgz.cons (Qe (v0 Z Z) (Qe (v0 Z Z) (Ql))) (Qgz.cons (Qe (v0 Z Z) (Qe (v0 Z Z) (Qe (v0 Z Z) (Ql)))) (Qgz.cons ?_ (Qgz.cons ?_ (Qgz.nil)))))))))
  .refine Qe ?_ (Qe ?_ (Ql))
   .refine Om1 Z sN ?_;refine Qt [] (OpC.fn call94 Z Z Z) (k_fq _ _ s) ?_;rintro _ _ ⟨rfl,rfl⟩;exact FE Z Wp
   .refine Om1 Z sN ?_;refine Qt [] (OpC.fn call94 Z Z Z) (k_fq _ _ s) ?_;rintro _ _ ⟨rfl,rfl⟩;exact FE Z Wp
  .refine Qe ?_ (Qe ?_ (Ql))
   .refine Om1 Z (sD 0 (sD 1 (sD 2 sN))) ?_;refine Qt [] (OpC.fn call93 Z Z Z) (k_gm _ _ _ _ t) ?_;rintro _ _ ⟨rfl,rfl⟩;exact FE Z Wp
   .refine Om1 Z (sD 0 (sD 1 (sD 2 sN))) ?_;refine Qt [] (OpC.fn call93 Z Z Z) (k_gm _ _ _ _ t) ?_;rintro _ _ ⟨rfl,rfl⟩;exact FE Z Wp
  .refine Qe ?_ (Qe ?_ (Qe ?_ (Ql)))
   .exact Jo.alloc _ 9 185 9 _ Z Z Z Z Z Z Z (OpZ.alloc (v:=(.agg [I 0,I 0,I 0])) zeroValue185 (zrC Z)) Z
   .exact Jo.alloc _ 9 185 9 _ Z Z Z Z Z Z Z (OpZ.alloc (v:=(.agg [I 0,I 0,I 0])) zeroValue185 (zrC Z)) Z
   .exact Jo.alloc _ 9 185 9 _ Z Z Z Z Z Z Z (OpZ.alloc (v:=(.agg [I 0,I 0,I 0])) zeroValue185 (zrC Z)) Z
  .refine Qe ?_ (Ql)
   .refine Om2 Z (sD 7 (sD 5 sN)) ?_;refine vU (Ex Z Z Z sizeOf185 Z Z Z Z Z Z Z) ?_;exact FE Z Wp
 refine Go 4 Z ?_;refine QaE 6 0 [53,54,55,56,57,1000005] [false,false,false,false,false,true] [[],[],[],[],[],[]] [[],[5]] [[(0,0)],[(0,0)],[(0,0),(1,1)],[(0,0),(1,1)],[(0,0)],[(0,1)]] [.ptr 5 2,I a.1.rank,.ptr 9 2,I b.1.rank,.ptr 3 2,.any] [[.cells 29 (Field.c e),.cells 3 [I f],.cells 78 (Rank.c z_Rank),.cells 78 (Rank.c d),.dead,.cells 185 (ranks_place.c a.1),.cells 191 [.fn (.func 139) [] [],.fn (.func 140) [] [],.fn (.func 141) [] [],.fn (.func 142) [] []],.cells 185 (ranks_place.c a.1),.cells 4 [.bool a.2],.cells 185 (ranks_place.c b.1),.cells 191 [.fn (.func 140) [] [],.fn (.func 139) [] [],.fn (.func 144) [] [],.fn (.func 145) [] []],.cells 185 (ranks_place.c b.1),.cells 4 [.bool b.2]],[.cells 29 (Field.c e),.cells 3 [I f],.cells 78 (Rank.c z_Rank),.cells 78 (Rank.c ({d with Lo:=a.1.rank:Rank})),.dead,.cells 185 (ranks_place.c a.1),.cells 191 [.fn (.func 139) [] [],.fn (.func 140) [] [],.fn (.func 141) [] [],.fn (.func 142) [] []],.cells 185 (ranks_place.c a.1),.cells 4 [.bool a.2],.cells 185 (ranks_place.c b.1),.cells 191 [.fn (.func 140) [] [],.fn (.func 139) [] [],.fn (.func 144) [] [],.fn (.func 145) [] []],.cells 185 (ranks_place.c b.1),.cells 4 [.bool b.2]]] ([.cells 29 (Field.c e),.cells 3 [I f],.cells 78 (Rank.c z_Rank),.cells 78 (Rank.c ({d with Lo:=a.1.rank:Rank})),.dead,.cells 185 (ranks_place.c a.1),.cells 191 [.fn (.func 139) [] [],.fn (.func 140) [] [],.fn (.func 141) [] [],.fn (.func 142) [] []],.cells 185 (ranks_place.c a.1),.cells 4 [.bool a.2],.cells 185 (ranks_place.c b.1),.cells 191 [.fn (.func 140) [] [],.fn (.func 139) [] [],.fn (.func 144) [] [],.fn (.func 145) [] []],.cells 185 (ranks_place.c b.1),.cells 4 [.bool b.2]]) draws Z Z Z Z Z Z Z ?_ Z ?_
 .refine Qgz.cons (Qe (v0 Z Z) (Ql)) (Qgz.cons (Qe (v0 Z Z) (Ql)) (Qgz.cons (Qe (v0 Z Z) (Qe (v0 Z Z) (Ql))) (Qgz.cons (Qe (v0 Z Z) (Qe (v0 Z Z) (Ql))) (Qgz.cons (Qe (v0 Z Z) (Ql)) (Qgz.cons ?_ (Qgz.nil))))))
  .refine Qe ?_ (Ql)
   .refine Om2 Z (sD 1 (sD 4 sN)) ?_;refine vU (Ex Z Z Z sizeOf3 Z Z Z Z Z Z Z) ?_;exact FE Z Wp
 refine Go 8 Z (Bd h λu j h=>?_);refine Ct u [2,3] [4,5] (λu=>[(69,.bool u)]) Ze Zf ?_ (λenv H i=>?_)
 .refine G0 7 Z (Is 65 j Z (λE j=>?_) (λE j=>?_))
  .exact Go 5 Z (Cl j [2,3])
  .exact Go 5 Z (Cl j [2,3])
 refine Gx 1 Z (Ef i (Bd h λw k h=>?_));refine Ct w [0,1] [4,5] Ze (λw=>[(1,.cells 78 (Rank.c w))]) Zf ?_ (λenv H i=>?_)
 .refine G0 0 Z (Cn Z k (λF k=>?_) (λF k=>?_))
  .exact Gc 4 Z (Cl k [0,1])
  exact Gc 1 Z (Cl k [0,1])
 refine Gx 1 Z (Ef i (Gc 7 Z ?_));obtain rfl:=Oi h;exact Rx [0] [4] Z (QV Z (QD isAgg78 sizeOf78 Z Z Z)) ⟨Z,Z⟩
def F_lr(n:Nat)(b:Field)(a:(List Rank)×Int):Option (Ctl ((List Rank)×Int) (List Rank)):=
  (bif decide (a.2<(b.Runners.length:Int))then(F_ic n b a.2).bind λc=>(app a.1 [c]).bind λd=>some (.cont (d,IntKind.i64.wrap (a.2+1)))else some (.done a.1))
def F_eb(n:Nat)(a:Field):Option ((List Rank)×Int):=
  (F_iy n a []).bind λr1=>(bif (r1 != 0)then some ([],r1)else(iter (F_lr n a) n ([],0):Option (List Rank)).bind λb=>some (b,0))
theorem k_eb(n:Nat)(l:Field)(r:(List Rank)×Int)(h:F_eb n l=some r):
    C prog 33 [.agg (Field.c l)] [] (RQ (λr=>.tup [.osl 0 0 r.1.length 5,I r.2]) (λr=>[.row 78 5 (List.map Rank.c r.1)]) r):=by
 refine Qb func33 Z Z Z ?_;refine G0 11 Z (Bd h λr1 m h=>?_);refine Qt [] (OpC.fn call58 Z Z Z) (C.nils (QiF.eq (QiF.nl QiF.nil)) (k_iy _ _ _ _ m)) ?_;rintro _ _ ⟨rfl,rfl⟩;refine FE Z (Go 9 Z (Cn Z h (λp h=>?_) (λp h=>?_)))
 .refine Gc 9 Z ?_;obtain rfl:=Oi h;refine R2 2 3 Z Z ?_;refine En (Er (s:=2) (k:=5) (t:=78) (XY Z) Z) ?_;exact Lr [1]
 refine Gc 7 Z (Lm Z (Go 3 Z (Bd h λb q h=>?_)));refine Ct b [0] [] (λb=>[(2,.osl 0 0 b.length 5)]) (λb=>[(0,.row 78 5 (List.map Rank.c b))]) Zf ?_ (λenv H u=>?_)
 .refine G0 1 Z ?_;refine Lp [0,0] [1,13] (λd=>[(2,.osl 1 0 d.1.length 5),(14,I d.2)]) (λd=>[(1,.row 78 5 (List.map Rank.c d.1))]) q Zf ?_ ?_
  .refine En (Er (s:=2) (k:=5) (t:=78) (XY Z) Z) ?_;exact Lr [0,1]
  intro d y a f;refine G0 6 Z (Ya Z a (λg a=>?_) (λg a=>?_))
  .refine Gc 2 Z (Qk a ?_);obtain rfl:=Oj f a;exact Gx 1 Z (Q1 (Lr [1]))
  refine Gc 14 Z (Cd [] a (k_ic _ _ _) Z λw x a=>FE Z ?_);refine vH (El (xs:=[.tmp 20]) (es:=List.map Rank.c [w]) Qjl Z Z Z Z Z ⟨Z,trivial⟩ Z Z) ?_;refine FE Z (Bd a λz j a=>?_);refine vH (QM (e:=Rank.c) j Qjl runUnderlying89 (YI (i:=3))) ?_;exact FE Z (Go 8 Z (Qj a (Lr [0,4])))
 refine Gx 1 Z (Ef u (Gc 8 Z ?_));obtain rfl:=Oi h;exact R2 2 3 Z Z (Lr [0])
def F_iq(n:Nat)(c:Course)(g:Int)(h:Int)(a:(List (Int×Int))×Int):Option (Ctl ((List (Int×Int))×Int) (List (Int×Int))):=
  (bif decide (a.2<(c.Prizes.length:Int))then(idx c.Prizes a.2).bind λb=>((bif (b.Distance==g)then some (b.Category==h)else some false):Option Bool).bind λd=>((bif d then(some (QW a.1 b.Rank b.Amount)).bind λe=>some e else some a.1):Option (List (Int×Int))).bind λf=>some (.cont (f,IntKind.i64.wrap (a.2+1)))else some (.done a.1))
def F_aj(n:Nat)(b:Course)(c:Int)(d:Int):Option (List (Int×Int)):=
  (iter (F_iq n b c d) n ([],0):Option (List (Int×Int))).bind λa=>some a
theorem k_aj(n:Nat)(y:Course)(z:Int)(B:Int)(r:List (Int×Int))(h:F_aj n y z B=some r):
    C prog 46 [.agg (Course.c y),I z,I B] [] (RQ (λ_=>.map 0) (λr=>[.map (Qz (λx=>A.int .i64 x) (λx=>A.int .i64 x) r)]) r):=by
 refine Qb func46 Z Z Z ?_;refine G0 8 Z ?_;refine vH Yu ?_;refine FE Z (Go 8 Z (Lm Z (Go 3 Z (Bd h λg E h=>?_))));refine Ct g [0] [] (λ_=>[(7,.map 0)]) (λg=>[(0,.map (Qz (λx=>A.int .i64 x) (λx=>A.int .i64 x) g))]) Zf ?_ (λenv H d=>?_)
 .refine G0 1 Z ?_;refine Lp [1] [1,2,7,12,13] (λe=>[(14,I e.2)]) (λe=>[(0,.map (Qz (λx=>A.int .i64 x) (λx=>A.int .i64 x) e.1))]) E Zf (Lr [1]) λe F a p=>?_;refine G0 6 Z (Ya Z a (λq a=>?_) (λq a=>?_))
  .refine Gc 2 Z (Qk a ?_);obtain rfl:=Oj p a;exact Gx 1 Z (Q1 (Lr [0]))
  refine Gc 6 Z (Bd a λm s a=>Iz s Z (Go 6 Z (Bd a λi f a=>?_)));refine Ct i [0,1] [1,2,7,9,12,13,14] (λi=>[(27,.bool i)]) Ze Zf ?_ (λenv H d=>?_)
  .refine G0 6 Z (Is 22 f Z (λt f=>?_) (λt f=>?_))
   .exact Go 6 Z (Cl f [0,1])
   .exact Go 6 Z (Cl f [0,1])
  refine Gx 1 Z (Ef d (Bd a λj b a=>?_));refine Ct j [0] [1,2,7,12,13,14] Ze (λj=>[(0,.map (Qz (λx=>A.int .i64 x) (λx=>A.int .i64 x) j))]) Zf ?_ (λenv H d=>?_)
  .refine G0 0 Z (Cn Z b (λu b=>?_) (λu b=>?_))
   .refine Gc 6 Z (Bd b λG w b=>?_);refine vU (YL (ev:=(λx=>A.int .i64 x)) (k:=m.Rank) (v:=m.Amount) (l:=e.1) Qbl w Z underlying103) ?_;exact FE Z (Go 1 Z (Cl b [0]))
   exact Gc 1 Z (Cl b [0])
  exact Gx 2 Z (Ef d (Gc 4 Z (Qj a (Lr [0]))))
 exact Gx 1 Z (Ef d (Gc 7 Z (Rt h 6 [0])))
def F_bc(n:Nat)(a:List (Int×Int)):Option Unit:=
  some ()
theorem k_bc(n:Nat)(a:List (Int×Int))(r:Unit)(h:F_bc n a=some r):
    C prog 69 [.map 0] [.map (Qz (λx=>A.int .i64 x) (λx=>A.int .i64 x) a)] (RQ (λ_=>.fn (.func 105) [] [.ptr 1 0]) (λ_=>[.map (Qz (λx=>A.int .i64 x) (λx=>A.int .i64 x) a),.cells 103 [.map 0]]) r):=by
 refine Qb func69 Z Z Z ?_;exact G0 13 Z (Rt h 2 [0,1])
def F_ff(n:Nat)(a:List (Int×Int)):Option Unit:=
  some ()
theorem k_ff(n:Nat)(a:List (Int×Int))(r:Unit)(h:F_ff n a=some r):
    C prog 106 [.map 0] [.map (Qz (λx=>A.int .i64 x) (λx=>A.int .i64 x) a)] (RQ (λ_=>.fn (.func 153) [] [.ptr 1 0]) (λ_=>[.map (Qz (λx=>A.int .i64 x) (λx=>A.int .i64 x) a),.cells 103 [.map 0]]) r):=by
 refine Qb func106 Z Z Z ?_;exact G0 13 Z (Rt h 2 [0,1])
def F_co(n:Nat)(a:List (Int×Int)):Option (List Int):=
  Qkk (List.map Prod.fst a) λp1=>(sortI p1).bind λb=>some b
theorem k_co(n:Nat)(b:List (Int×Int))(r:List Int)(h:F_co n b=some r):
    C prog 74 [.fn (.func 153) [] [.ptr 0 0]] [.cells 103 [.map 1],.map (Qz (λx=>A.int .i64 x) (λx=>A.int .i64 x) b)] (RQ (λr=>.osl 2 0 r.length 1) (λr=>[.dead,.fmap (Qz (λx=>A.int .i64 x) (λx=>A.int .i64 x) b),.row 3 1 (List.map (Qd .i64) r)]) r):=by
 refine Qb func74 Z Z Z ?_;refine G0 8 Z ?_;refine Et (QnP (i:=1) Z) ?_;refine Qo3 (H:=[.cells 103 [.map 1],.fmap (Qz (λx=>A.int .i64 x) (λx=>A.int .i64 x) b)]) Z ?_;obtain⟨c,h⟩:=Qjr h;refine Qt [0,1] (OpC.fn call123 Z Z Z) (QgX _ c) ?_;rintro _ _ ⟨p1,d,rfl,rfl⟩;have h:=h p1 d;refine FE Z (Go 6 Z (Bd h λe a h=>?_));refine Qt [2] (OpC.fn call124 Z Z Z) (QjE QbS a) ?_;rintro _ _ ⟨rfl,rfl⟩;refine FE Z ?_;refine Et (Qu (s:=3) Z (congrArg (λn=>A.osl 2 0 n 1) (Qac a))) ?_;refine Et (Qu (s:=5) Z (congrArg (λn=>A.osl 2 0 n 1) (Qac a))) ?_;refine Et (Qu (s:=6) Z (congrArg (λn=>A.osl 2 0 n 1) (Qac a))) ?_;exact Go 9 Z (Rt h 2 [0,1,2])
def F_hz(n:Nat)(d:List (Int×Int))(r2:List Int)(a:Int):Option ((List (Int×Int))×Ctl Int Unit):=
  (bif decide (a<(r2.length:Int))then(idx r2 a).bind λb=>(some (QF d b 0)).bind λc=>yl (b,c) (some ([],.cont (IntKind.i64.wrap (a+1))))else some ([],.done ()))
def F_ae(n:Nat)(a:List (Int×Int)):Option ((List (Int×Int))×Unit):=
  (F_ff n a).bind λr1=>(F_co n a).bind λr2=>ap (Qbm (F_hz n a r2) n 0) λb=>some ([],())
theorem k_ae(n:Nat)(f:List (Int×Int))(p:(List (Int×Int))×Unit)(h:F_ae n f=some p):
    Qdx prog 105 [.ptr 0 0] [.cells 103 [.map 1],.map (Qz (λx=>A.int .i64 x) (λx=>A.int .i64 x) f)] (λx=>[I x.1,I x.2]) nxL p.1:=by
 obtain⟨xs,u⟩:=p;refine Qam func105 Z Z Z Z ?_;intro X hE hN;refine Gy0 1 Z (TCy.lf ?_);refine G0 2 Z (Cd [1] h (k_ff _ _) Z λr1 w h=>FE Z (Cd [2,1] h (k_co _ _) Z λr2 y h=>FE Z (Go 3 Z ?_)));refine Gyx 1 Z ?_;obtain⟨z,m,q,r,s,rfl⟩:=Qjq h;rw[Vq];refine QcC m (q++[]) [0,1] [0] Ze Ze Zf ?_ (λenv H B=>?_)
 .refine Gy0 1 Z ?_;refine Qgt [0,1,3] [0,1,7,8] (λb=>[(9,I b)]) Ze r Zf (Lr [0,1,3]) λb E F G a g=>?_;refine Gy0 1 Z (TCy.lf ?_);refine G0 3 Z ?_;refine Gyx 2 Z (TCy.lf ?_);refine G0 0 Z (Ya Z a (λi a=>?_) (λi a=>?_))
  .refine Gc 1 Z ?_;refine Gyx 1 Z ?_;obtain⟨rfl,rfl,rfl⟩:=Oy g a;exact Qf8 (Gyx 1 Z (Qjn (Lr [0,1])))
  refine Gc 1 Z ?_;refine Gyx 4 Z (TCy.lf ?_);refine G0 1 Z (Bd a λc d a=>?_);refine vX (.ptr 2 (Int.toNat b*1)) (QN d Z runUnderlying32 sizeOf3) ?_;refine vX (I c) (Ey Z isAgg3 Z (Qo d)) ?_;refine Go 2 Z ?_;refine Gyx 7 Z ?_;refine WOy.step ?_;refine Bd a λe j a=>?_;refine vX (I e) (QfO (ev:=(λx=>A.int .i64 x)) (z0:=0) (k:=c) (l:=f) Qbl j underlying103 zeroValue3 Eo) ?_;refine WO.nil ⟨Z,?_⟩;obtain⟨J,t,rfl⟩:=QiI a;refine Qms (x:=(c,e)) (e1:=λx=>I x.1) (e2:=λx=>I x.2) hE hN Z Z Z Z Z Z ?_ ?_
  .refine Gyo 3 Z (TCy.lf ?_);refine G0 2 Z ?_;refine Gyx 2 Z (TCy.lf ?_);refine G0 4 Z ?_;exact Gyx 0 Z (Qeh t (Lr [0,1,2]))
  .exact Gyo 7 Z (Qf9 (Gyx 1 Z (Qjm (⟨.inr Z,.inr ⟨_,Z⟩⟩))))
 cases s;exact⟨.inl Z,.inl Z⟩
def F_lp(n:Nat)(c:List Rank)(d:Int)(a:(List Rank)×Int):Option (Ctl ((List Rank)×Int) (List Rank)):=
  (bif decide (a.2<(c.length:Int))then(idx c a.2).bind λb=>((bif (b.Kind != 3)then(bif decide (b.Lo<=d)then some (decide (d<=b.Hi))else some false)else some false):Option Bool).bind λe=>((bif e then(app a.1 [b]).bind λf=>some f else some a.1):Option (List Rank)).bind λg=>some (.cont (g,IntKind.i64.wrap (a.2+1)))else some (.done a.1))
def F_bm(n:Nat)(b:List Rank)(c:Int):Option (List Rank):=
  (iter (F_lp n b c) n ([],0):Option (List Rank)).bind λa=>some a
theorem k_bm(n:Nat)(B:List Rank)(E:Int)(r:List Rank)(h:F_bm n B E=some r):
    C prog 34 [.rsl 5 (List.map Rank.c B),I E] [] (RQ (λr=>.osl 0 0 r.length 5) (λr=>[.row 78 5 (List.map Rank.c r)]) r):=by
 refine Qb func34 Z Z Z ?_;refine G0 9 Z (Lm Z (Go 3 Z (Bd h λf F h=>?_)));refine Ct f [0] [] (λf=>[(4,.osl 0 0 f.length 5)]) (λf=>[(0,.row 78 5 (List.map Rank.c f))]) Zf ?_ (λenv H g=>?_)
 .refine G0 1 Z ?_;refine Lp [0] [1,7,8] (λj=>[(4,.osl 0 0 j.1.length 5),(9,I j.2)]) (λj=>[(0,.row 78 5 (List.map Rank.c j.1))]) F Zf ?_ ?_
  .refine En (Er (s:=4) (k:=5) (t:=78) (XY Z) Z) ?_;exact Lr [0]
  intro j J a p;refine G0 6 Z (Ya Z a (λq a=>?_) (λq a=>?_))
  .refine Gc 2 Z (Qk a ?_);obtain rfl:=Oj p a;exact Gx 1 Z (Q1 (Lr [0]))
  refine Gc 6 Z (Bd a λG u a=>Iz u Z (Go 6 Z (Bd a λm b a=>?_)));refine Ct m [0,1] [1,4,6,7,8,9] (λm=>[(27,.bool m)]) Ze Zf ?_ (λenv H g=>?_)
  .refine G0 5 Z (Is 16 b Z (λw b=>?_) (λw b=>?_))
   .refine Go 6 Z (Is 22 b Z (λx b=>?_) (λx b=>?_))
    .exact Go 6 Z (Cl b [0,1])
    .exact Go 6 Z (Cl b [0,1])
   .exact Go 12 Z (Cl b [0,1])
  refine Gx 1 Z (Ef g (Bd a λl d a=>?_));refine Ct l [0] [1,7,8,9] (λl=>[(4,.osl 0 0 l.length 5)]) (λl=>[(0,.row 78 5 (List.map Rank.c l))]) Zf ?_ (λenv H g=>?_)
  .refine G0 0 Z (Cn Z d (λy d=>?_) (λy d=>?_))
   .refine Gc 3 Z ?_;refine vH (El (xs:=[.tmp 29]) (es:=List.map Rank.c [G]) Qjl Z Z Z Z Z ⟨Z,trivial⟩ Z Z) ?_;refine FE Z (Bd d λL z d=>?_);refine vH (QM (e:=Rank.c) z Qjl runUnderlying89 (YI (i:=2))) ?_;exact FE Z (Go 2 Z (Cl d [3]))
   exact Gc 1 Z (Cl d [0])
  exact Gx 2 Z (Ef g (Gc 4 Z (Qj a (Lr [0]))))
 exact Gx 1 Z (Ef g (Gc 7 Z (Rt h 4 [0])))
def Q_prizes_divide(b:Course)(c:Field)(d:Int)(e:Int):U_prizes_divide->Go.Sw.A->Qc->Prop
  |.c0 x,a,H=>a=.tup [.nilm,.nils,I x]/\H=[.cells 103 [.nilm],.cells 32 [.nils]]
  |.c1 x,a,H=>a=.tup [.nilm,.nils,I x]/\H=[.cells 103 [.nilm],.cells 32 [.nils]]
  |.c2 x,a,H=>a=.tup [.map 0,.osl 1 0 x.2.length 1,I 0]/\H=[.map (Qz (λx=>A.int .i64 x) (λx=>A.int .i64 x) x.1),.row 3 1 (List.map (Qd .i64) x.2),.cells 103 [.map 0],.cells 32 [.osl 1 0 x.2.length 1]]
def F_lh(n:Nat)(j:(List Rank)×Int)(a:(List Int)×(List (Int×Int)))(c:Int×Int):Option (Ctl ((List Int)×(List (Int×Int))) U_prizes_divide):=
  (F_bm n j.1 c.1).bind λb=>((bif ((b.length:Int)==0)then some (a.1,a.2)else((bif ((b.length:Int)==1)then(idx b 0).bind λe=>some (e.Kind==1)else some false):Option Bool).bind λf=>(bif f then(idx b 0).bind λg=>(some (QW a.2 g.Bib c.2)).bind λh=>some (a.1,h)else(app a.1 [c.1]).bind λi=>some (i,a.2))):Option ((List Int)×(List (Int×Int)))).bind λd=>some (.cont (d.1,d.2))
def F_dk(n:Nat)(c:Course)(d:Field)(e:Int)(f:Int):Option U_prizes_divide:=
  (F_ah n c d e f).bind λr1=>(bif (r1 != 0)then some (U_prizes_divide.c0 r1)else(F_eb n d).bind λb=>(bif (b.2 != 0)then some (U_prizes_divide.c1 b.2)else(F_aj n c e f).bind λg=>(F_bc n g).bind λi=>(F_ae n g).bind λy11=>(Qcj (F_lh n b) y11.1 ([],[]):Option (Ctl ((List Int)×(List (Int×Int))) U_prizes_divide)).bind λh=>match h with|.cont a=>(some (U_prizes_divide.c2 (a.2,a.1)))|.done a=>some a))
theorem k_dk(n:Nat)(j:Course)(p:Field)(B:Int)(E:Int)(r:U_prizes_divide)(h:F_dk n j p B E=some r):
    C prog 39 [.agg (Course.c j),.agg (Field.c p),I B,I E] [] (Q_prizes_divide j p B E r):=by
 refine Qb func39 Z Z Z ?_;refine G0 16 Z (Cz [] h (k_ah _ _ _ _ _) Z λr1 Y h=>Go 9 Z (Cn Z h (λN h=>?_) (λN h=>?_)))
 .refine Gc 10 Z ?_;obtain rfl:=Oi h;exact Rx [2,3] [8,9,10] Z (QS Z Z (QiA.cons (Qs isAgg103 Z Z) (QiA.cons (Qs isAgg32 Z Z) (QiA.cons QcI.tmp QiA.nil)))) ⟨Z,Z⟩
 refine Gc 5 Z (Cd [] h (k_eb _ _) Z λO aa h=>FE Z (Go 15 Z (Cn Z h (λP h=>?_) (λP h=>?_))))
 .refine Gc 10 Z ?_;obtain rfl:=Oi h;exact Rx [2,3] [8,9,10] Z (QS Z Z (QiA.cons (Qs isAgg103 Z Z) (QiA.cons (Qs isAgg32 Z Z) (QiA.cons QcI.tmp QiA.nil)))) ⟨Z,Z⟩
 refine Gc 4 Z ?_;refine vH Yu ?_;refine FE Z (Go 9 Z (Cd [] h (k_aj _ _ _ _) Z λV ab h=>FE Z (Cd [7] h (k_bc _ _) Z λr6 ac h=>FE Z (Go 3 Z ?_))));refine Ef (YA [(24,_),(26,_),(27,_)] Z Z (QmL.cons Z (FzA.tup (Ed Ep (Ek _))) (QmL.cons Z (FzA.tup (Ed Ep (Ek _))) (QmL.cons Z Ep QmL.nil))) (Ec (Ec (Ec (Ec (Ec (FzH.cells (Ed Ep (Ek _)) (Q3 _)))))))) ?_;refine Ef (Lr (env':=[(8,.ptr 2 0),(9,.ptr 3 0),(12,.ptr 5 0),(37,.fn (.func 105) [] [.ptr 8 0])]) (H':=[.cells 49 (Course.c j),.cells 29 (Field.c p),.cells 103 [.map 6],.cells 32 [.nils],.dead,.cells 89 [.rsl 5 (List.map Rank.c O.1)],.map (Qz (λx=>A.int .i64 x) (λx=>A.int .i64 x) []),.map (Qz (λx=>A.int .i64 x) (λx=>A.int .i64 x) V),.cells 103 [.map 7]]) [0,1,2,3,4,5,6,7,8]) ?_;refine Bd h λy11 hy11 h=>Bd h λad Q h=>?_;refine Ji [8,7] (λd=>[.cells 49 (Course.c j),.cells 29 (Field.c p),.cells 103 [.map 6],.cells 32 [.osl 9 0 d.1.length 1],.dead,.cells 89 [.rsl 5 (List.map Rank.c O.1)],.map (Qz (λx=>A.int .i64 x) (λx=>A.int .i64 x) d.2),.dead,.dead,.row 3 1 (List.map (Qd .i64) d.1)]) Q (k_ae _ _ _ hy11) Zf call105 Z Z Z Z (by decide) Z ?_ ?_ ?_
 .refine En (Q9 (i:=3) (m:=0) (t:=3) (k:=1) Z Z Z) ?_;exact Lr [0,1,2,3,4,5,6,7,8,9]
 .intro d y ae f W;refine G0 8 Z (And.intro Z ?_);refine G0 5 Z (Cd [] f (k_bm _ _ _) Z λaf X f=>FE Z (Go 12 Z (Bd f λg a f=>?_)));refine Ct g [0,1,2,3,4,5,6,7,8,9] [] Ze (λg=>[(3,.cells 32 [.osl 9 0 g.1.length 1]),(6,.map (Qz (λx=>A.int .i64 x) (λx=>A.int .i64 x) g.2)),(9,.row 3 1 (List.map (Qd .i64) g.1))]) Zf ?_ (λenv H q=>?_)
  .refine G0 0 Z (Cn Z a (λF a=>?_) (λF a=>?_))
   .exact Gc 1 Z (Cl a [0,1,2,3,4,5,6,7,8,9])
   refine Gc 1 Z (Bd a λs b a=>?_);refine Ct s [0,1,2,3,4,5,6,7,8,9,10] [8,9,13,14,15] (λs=>[(51,.bool s)]) Ze Zf ?_ (λenv H q=>?_)
   .refine G0 5 Z (Is 55 b Z (λG b=>?_) (λG b=>?_))
    .refine Go 1 Z (Bd b λR u b=>?_);refine vX (.ptr 10 (Int.toNat 0*5)) (QN u Z runUnderlying89 sizeOf78) ?_ (gT Z);refine Fpg (gT Z) Qnh Z ?_;refine vX (I R.Kind) (Ey Z isAgg3 Z (Qkr u)) ?_ (gT Z);exact Go 4 Z (Cl b [0,1,2,3,4,5,6,7,8,9,10])
    .exact Go 8 Z (Cl b [0,1,2,3,4,5,6,7,8,9,10])
   refine Gx 1 Z (Ef q (Cn Z a (λJ a=>?_) (λJ a=>?_)))
   .refine DSs 6 Z (D 2 Z ?_);obtain⟨z,w,a⟩:=YP a;refine DS.v (x:=(.ptr 10 (Int.toNat 0*5))) (QN w Z runUnderlying89 sizeOf78) ?_;refine DS.wo (x:=.ptr 10 (Int.toNat 0*5)) ?_ ?_
    .exact Fp Qni Z Wp
    refine DS.v (x:=(I z.Bib)) (Ey Z isAgg3 Z (Qo w)) ?_;refine D 1 Z (Eh Z (Bd a λag L a=>?_));refine vU (YL (ev:=(λx=>A.int .i64 x)) (k:=z.Bib) (v:=y.2) (l:=d.2) Qbl L Z underlying103) ?_;exact FE Z (Go 1 Z (Cl a [0,1,2,3,4,5,6,7,8,9]))
   refine Gc 3 Z ?_;refine vH (El (xs:=[.tmp 44]) (es:=List.map (Qd .i64) [y.1]) Qv Z Z Z Z Z ⟨Z,trivial⟩ Z Z) ?_;refine FE Z (Bd a λah M a=>?_);refine vH (QM (e:=(Qd .i64)) M Qv runUnderlying32 (YI (i:=11))) ?_;exact FE Z (Go 2 Z (Cl a [0,1,2,3,4,5,6,7,8,12]))
  exact Gx 2 Z (QaI f (En q (Lr [0,1,2,3,4,5,6,7,8,9])))
 rintro T rfl;refine Gx 3 Z ?_;refine TC.draw0 3 [68,69,1000002] [.map 6,.osl 9 0 T.1.length 1,.any] draws Z Z Z ?_ ?_
 .refine ov (ov (Oq.c ?_ (Oq.n)))
  .refine Om2 Z (sO 8 (sD 0 sN)) ?_;refine vU (Ex Z Z Z sizeOf103 Z Z Z Z Z Z Z) ?_;exact FE Z Wp
 refine Go 5 Z ?_;obtain rfl:=Oi h;exact Rx [6,9,2,3] [8,9,10] Z (QS Z Z (QiA.cons (Qs isAgg103 Z Z) (QiA.cons (Qs isAgg32 Z Z) (QiA.cons QcI.tmp QiA.nil)))) ⟨Z,Z⟩
def F_iu(n:Nat):Option Unit:=
  some ()
theorem k_iu(n:Nat)(r:Unit)(h:F_iu n=some r):
    C prog 69 [.nilm] [] (RQ (λ_=>.fn (.func 105) [] [.ptr 0 0]) (λ_=>[.cells 103 [.nilm]]) r):=by
 refine Qb func69 Z Z Z ?_;refine G0 2 Z ?_;refine vH (OpH.box Z Z Z Z Z) ?_;exact FE Z (Go 10 Z (Rt h 2 [0]))
def F_iv(n:Nat):Option ((List (Int×Int))×Unit):=
  none
theorem k_iv(n:Nat)(p:(List (Int×Int))×Unit)(h:F_iv n=some p):
    Qdx prog 105 [.ptr 0 0] [.cells 103 [.nilm]] (λx=>[I x.1,I x.2]) nxL p.1:=by
 obtain⟨xs,u⟩:=p;refine Qam func105 Z Z Z Z ?_;intro X hE hN;refine Gy0 1 Z (TCy.lf ?_);cases h
def F_lj(n:Nat)(c:List Payment)(a:Int×Int):Option (Ctl (List Payment) (List Payment)):=
  (app c [{Bib:=a.1,Amount:=a.2:Payment}]).bind λb=>some (.cont b)
def F_dy(n:Nat):Option (List Payment):=
  (F_iu n).bind λr1=>(F_iv n).bind λy2=>(Qcj (F_lj n) y2.1 []:Option (Ctl (List Payment) (List Payment))).bind λb=>match b with|.cont a=>(some a)|.done a=>some a
theorem k_dy(n:Nat)(r:List Payment)(h:F_dy n=some r):
    C prog 40 [.nilm] [] (RQ (λr=>.osl 0 0 r.length 2) (λr=>[.row 65 2 (List.map Payment.c r),.cells 51 [.osl 0 0 r.length 2]]) r):=by
 refine Qb func40 Z Z Z ?_;refine G0 9 Z (Cd [] h (k_iu _) Z λr1 l h=>FE Z (Go 3 Z (Bd h λy2 hy2 h=>Bd h λu f h=>?_)));refine Ji [1] (λb=>[.cells 51 [.osl 2 0 b.length 2],.dead,.row 65 2 (List.map Payment.c b)]) f (k_iv _ _ hy2) Zf call105 Z Z Z Z (by decide) Z ?_ ?_ ?_
 .refine En (Q9 (i:=0) (m:=0) (t:=65) (k:=2) Z Z Z) ?_;exact Lr [0,1,2]
 .intro b g p a j;refine G0 8 Z (And.intro Z ?_);refine G0 6 Z ?_;refine vH (El (xs:=[.tmp 12]) (es:=List.map Payment.c [{Bib:=g.1,Amount:=g.2:Payment}]) QfG Z Z Z Z Z ⟨Z,trivial⟩ Z Z) ?_;refine FE Z (Bd a λq d a=>?_);refine vH (QM (e:=Payment.c) d QfG runUnderlying51 (YI (i:=3))) ?_;exact FE Z (Go 3 Z (QaI a (Lr [0,1,4])))
 rintro s rfl;refine Gx 9 Z ?_;obtain rfl:=Oi h;exact Rx [2,0] [2] Z (QV Z (Qs isAgg51 Z Z)) ⟨Z,Z⟩
def F_ir(n:Nat)(c:List Payment)(a:Int×Int):Option (Ctl (List Payment) (List Payment)):=
  (app c [{Bib:=a.1,Amount:=a.2:Payment}]).bind λb=>some (.cont b)
def F_ak(n:Nat)(b:List (Int×Int)):Option (List Payment):=
  (F_bc n b).bind λr1=>(F_ae n b).bind λy2=>(Qcj (F_ir n) y2.1 []:Option (Ctl (List Payment) (List Payment))).bind λc=>match c with|.cont a=>(some a)|.done a=>some a
theorem k_ak(n:Nat)(f:List (Int×Int))(r:List Payment)(h:F_ak n f=some r):
    C prog 40 [.map 0] [.map (Qz (λx=>A.int .i64 x) (λx=>A.int .i64 x) f)] (RQ (λr=>.osl 1 0 r.length 2) (λr=>[.dead,.row 65 2 (List.map Payment.c r),.cells 51 [.osl 1 0 r.length 2]]) r):=by
 refine Qb func40 Z Z Z ?_;refine G0 9 Z (Cd [0] h (k_bc _ _) Z λr1 p h=>FE Z (Go 3 Z (Bd h λy2 hy2 h=>Bd h λw g h=>?_)));refine Ji [2,0] (λb=>[.dead,.cells 51 [.osl 3 0 b.length 2],.dead,.row 65 2 (List.map Payment.c b)]) g (k_ae _ _ _ hy2) Zf call105 Z Z Z Z (by decide) Z ?_ ?_ ?_
 .refine En (Q9 (i:=1) (m:=0) (t:=65) (k:=2) Z Z Z) ?_;exact Lr [0,1,2,3]
 .intro b j q a l;refine G0 8 Z (And.intro Z ?_);refine G0 6 Z ?_;refine vH (El (xs:=[.tmp 12]) (es:=List.map Payment.c [{Bib:=j.1,Amount:=j.2:Payment}]) QfG Z Z Z Z Z ⟨Z,trivial⟩ Z Z) ?_;refine FE Z (Bd a λs d a=>?_);refine vH (QM (e:=Payment.c) d QfG runUnderlying51 (YI (i:=4))) ?_;exact FE Z (Go 3 Z (QaI a (Lr [0,1,2,5])))
 rintro u rfl;refine Gx 9 Z ?_;obtain rfl:=Oi h;exact Rx [0,3,1] [2] Z (QV Z (Qs isAgg51 Z Z)) ⟨Z,Z⟩
def F_bj(n:Nat)(d:Course)(e:Field)(f:Int)(g:Int):Option ((List Payment)×Int):=
  (F_dk n d e f g).bind λr1=>(match r1 with|.c0 a=>((bif (a != 0)then some ([],a)else(F_dy n).bind λh=>some (h,0)))|.c1 b=>((bif (b != 0)then some ([],b)else(F_dy n).bind λi=>some (i,0)))|.c2 j=>((F_ak n j.1).bind λc=>some (c,0)))
theorem k_bj(n:Nat)(b:Course)(d:Field)(e:Int)(f:Int)(r:(List Payment)×Int)(h:F_bj n b d e f=some r):
    C prog 16 [.agg (Course.c b),.agg (Field.c d),I e,I f] [] (RQ (λr=>.tup [.osl 0 0 r.1.length 2,I r.2]) (λr=>[.row 65 2 (List.map Payment.c r.1)]) r):=by
 refine Qb func16 Z Z Z ?_;refine G0 14 Z (Bd h λr1 g h=>?_);refine Qt [] (OpC.fn call39 Z Z Z) (k_dk _ _ _ _ _ _ g) ?_;intro ra rH a;rcases r1 with w|x|y
 .obtain⟨rfl,rfl⟩:=a;refine FE Z (Go 16 Z (Cn Z h (λi h=>?_) (λi h=>?_)))
  .refine Gc 9 Z ?_;obtain rfl:=Oi h;refine R2 8 9 Z Z ?_;refine En (Er (s:=8) (k:=2) (t:=65) (XY Z) Z) ?_;exact Lr [4]
  refine Gc 5 Z (Cd [] h (k_dy _) Z λz p h=>FE Z (Go 5 Z ?_));obtain rfl:=Oi h;exact R2 8 9 Z Z (Lr [4])
 .obtain⟨rfl,rfl⟩:=a;refine FE Z (Go 16 Z (Cn Z h (λj h=>?_) (λj h=>?_)))
  .refine Gc 9 Z ?_;obtain rfl:=Oi h;refine R2 8 9 Z Z ?_;refine En (Er (s:=8) (k:=2) (t:=65) (XY Z) Z) ?_;exact Lr [4]
  refine Gc 5 Z (Cd [] h (k_dy _) Z λB q h=>FE Z (Go 5 Z ?_));obtain rfl:=Oi h;exact R2 8 9 Z Z (Lr [4])
 .obtain⟨rfl,rfl⟩:=a;refine FE Z (Go 13 Z ?_);refine vX (.bool false) (OpV.neq (m:=0) (n:=0) Z Z Z) ?_;refine Go 8 Z (Cd [2] h (k_ak _ _) Z λu l h=>FE Z (Go 5 Z ?_));obtain rfl:=Oi h;exact R2 8 9 Z Z (Lr [6])
def F_cj(n:Nat)(a:Course)(b:Field)(c:Int)(d:Int):Option ((List Int)×Int):=
  (F_dk n a b c d).bind λr1=>(match r1 with|.c0 e=>(some ([],e))|.c1 f=>(some ([],f))|.c2 g=>(some (g.2,0)))
theorem k_cj(n:Nat)(b:Course)(d:Field)(e:Int)(f:Int)(r:(List Int)×Int)(h:F_cj n b d e f=some r):
    C prog 18 [.agg (Course.c b),.agg (Field.c d),I e,I f] [] (RQ (λr=>.tup [.osl 0 0 r.1.length 1,I r.2]) (λr=>[.row 3 1 (List.map (Qd .i64) r.1)]) r):=by
 refine Qb func18 Z Z Z ?_;refine G0 14 Z (Bd h λr1 g h=>?_);refine Qt [] (OpC.fn call39 Z Z Z) (k_dk _ _ _ _ _ _ g) ?_;intro ra rH a;rcases r1 with i|j|l
 .obtain⟨rfl,rfl⟩:=a;refine FE Z (Go 17 Z ?_);obtain rfl:=Oi h;refine R2 8 9 Z Z ?_;refine En (Er (s:=8) (k:=1) (t:=3) (XY Z) Z) ?_;exact Lr [4]
 .obtain⟨rfl,rfl⟩:=a;refine FE Z (Go 17 Z ?_);obtain rfl:=Oi h;refine R2 8 9 Z Z ?_;refine En (Er (s:=8) (k:=1) (t:=3) (XY Z) Z) ?_;exact Lr [4]
 .obtain⟨rfl,rfl⟩:=a;refine FE Z (Go 17 Z ?_);obtain rfl:=Oi h;exact R2 8 9 Z Z (Lr [3])
def F_le(n:Nat)(b:List Rank)(a:(List Int)×Int):Option (Ctl ((List Int)×Int) (List Int)):=
  (bif decide (a.2<(b.length:Int))then(idx b a.2).bind λc=>(app a.1 [c.Bib]).bind λd=>some (.cont (d,IntKind.i64.wrap (a.2+1)))else some (.done a.1))
def F_bf(n:Nat)(c:Field)(a:Int):Option ((List Int)×Int):=
  (F_eb n c).bind λr1=>(bif (r1.2 != 0)then some ([],r1.2)else(bif decide (a<1)then some ([],310)else(F_bm n r1.1 a).bind λd=>(iter (F_le n d) n ([],0):Option (List Int)).bind λb=>some (b,0)))
theorem k_bf(n:Nat)(p:Field)(q:Int)(r:(List Int)×Int)(h:F_bf n p q=some r):
    C prog 12 [.agg (Field.c p),I q] [] (RQ (λr=>.tup [.osl 0 0 r.1.length 1,I r.2]) (λr=>[.row 3 1 (List.map (Qd .i64) r.1)]) r):=by
 refine Qb func12 Z Z Z ?_;refine G0 10 Z (Cd [] h (k_eb _ _) Z λr1 z h=>FE Z (Go 14 Z (Cn Z h (λu h=>?_) (λu h=>?_))))
 .refine Gc 9 Z ?_;obtain rfl:=Oi h;refine R2 4 5 Z Z ?_;refine En (Er (s:=4) (k:=1) (t:=3) (XY Z) Z) ?_;exact Lr [2]
 refine Gc 9 Z (Cn Z h (λw h=>?_) (λw h=>?_))
 .refine Gc 8 Z ?_;obtain rfl:=Oi h;refine R2 4 5 Z Z ?_;refine En (Er (s:=4) (k:=1) (t:=3) (XY Z) Z) ?_;exact Lr [2]
 refine Gc 7 Z ?_;refine Et (YA [(6,_),(9,_),(11,_),(12,_),(19,_)] Z Z (QmL.cons Z Ep (QmL.cons Z (FzA.tup (Ed Ep (Ek _))) (QmL.cons Z (FzA.tup (Ed Ep (Ek _))) (QmL.cons Z Ep (QmL.cons Z Ep QmL.nil))))) (Ec (Ec (Q3 _)))) ?_;refine Cd [] h (k_bm _ _ _) Z λG B h=>FE Z (Go 4 Z (Bd h λd x h=>?_));refine Ct d [0] [] (λd=>[(4,.osl 0 0 d.length 1)]) (λd=>[(0,.row 3 1 (List.map (Qd .i64) d))]) Zf ?_ (λenv H y=>?_)
 .refine G0 1 Z ?_;refine Lp [0,2] [21,22] (λb=>[(4,.osl 0 0 b.1.length 1),(23,I b.2)]) (λb=>[(0,.row 3 1 (List.map (Qd .i64) b.1))]) x Zf ?_ ?_
  .refine En (Er (s:=4) (k:=1) (t:=3) (XY Z) Z) ?_;exact Lr [3,2]
  intro b E a j;refine G0 6 Z (Ya Z a (λl a=>?_) (λl a=>?_))
  .refine Gc 2 Z (Qk a ?_);obtain rfl:=Oj j a;exact Gx 1 Z (Q1 (Lr [0]))
  refine Gc 6 Z (Bd a λg f a=>?_);refine vX (.ptr 1 (Int.toNat b.2*5)) (QN f Z runUnderlying89 sizeOf78) ?_;refine vX (.agg (Rank.c g)) (Qy Z isAgg78 sizeOf78 Z (Qo f) Z Z) ?_;refine Go 8 Z ?_;refine vH (El (xs:=[.tmp 29]) (es:=List.map (Qd .i64) [g.Bib]) Qv Z Z Z Z Z ⟨Z,trivial⟩ Z Z) ?_;refine FE Z (Bd a λF m a=>?_);refine vH (QM (e:=(Qd .i64)) m Qv runUnderlying32 (YI (i:=3))) ?_;exact FE Z (Go 8 Z (Qj a (Lr [4,1])))
 refine Gx 1 Z (Ef y (Gc 8 Z ?_));obtain rfl:=Oi h;exact R2 4 5 Z Z (Lr [0])
def F_aw(n:Nat)(a:Runner)(b:Int):Option Bool:=
  (idx a.Worlds b).bind λc=>some ((c.length:Int)==0)
theorem k_aw(n:Nat)(a:Runner)(b:Int)(r:Bool)(h:F_aw n a b=some r):
    Csm prog 146 [.agg (Runner.c a),.ptr 0 0] [.cells 3 [I b]] (λr=>.bool r) r:=by
 refine Qb func146 Z Z Z ?_;exact G0 11 Z (Bd h λe d h=>Iz d Z (Go 1 Z (Lm Z (Go 5 Z (Rt h 3 [0])))))
def F_ll(n:Nat)(b:List Runner)(e:Int)(a:Int):Option (Ctl Int (Ctl Unit Int)):=
  (bif decide (a<(b.length:Int))then(idx b a).bind λc=>(F_aw n c e).bind λd=>(bif d then some (.done (.done a))else some (.cont (IntKind.i64.wrap (a+1))))else some (.done (.cont ())))
def F_ga(n:Nat)(c:List Runner)(d:Int):Option Int:=
  (iter (F_ll n c d) n 0:Option (Ctl Unit Int)).bind λb=>match b with|.cont a=>(some (-1))|.done a=>some a
theorem k_ga(n:Nat)(b:List Runner)(a:Int)(r:Int)(h:F_ga n b a=some r):
    Csm prog 224 [.rsl 3 (List.map Runner.c b),.fn (.func 146) [] [.ptr 0 0]] [.cells 3 [I a]] (λr=>I r) r:=
 QJ (el:=λx=>.agg (Runner.c x)) (g:=λx=>F_aw n x a) func224 Z Z Z runUnderlying27 sizeOf68 (λ_ _ _ _ d e=>Qy d isAgg68 sizeOf68 e Pts.rp Z Z) call146 (λ_ _ h=>k_aw _ _ _ _ h) h
def F_gj(n:Nat)(a:List Runner)(b:Int):Option Bool:=
  (F_ga n a b).bind λr1=>some (decide (0<=r1))
theorem k_gj(n:Nat)(a:List Runner)(b:Int)(r:Bool)(h:F_gj n a b=some r):
    Csm prog 137 [.rsl 3 (List.map Runner.c a),.fn (.func 146) [] [.ptr 0 0]] [.cells 3 [I b]] (λr=>.bool r) r:=by
 refine Qb func137 Z Z Z ?_;exact G0 9 Z (Cz [0] h (k_ga _ _ _) Z λr1 d h=>Go 5 Z (Rt h 4 [0]))
def F_ca(n:Nat)(a:Field)(b:Int):Option Bool:=
  (F_gj n a.Runners b).bind λr1=>some (!r1)
theorem k_ca(n:Nat)(a:Field)(b:Int)(r:Bool)(h:F_ca n a b=some r):
    Csm prog 95 [.agg (Field.c a),I b] [] (λr=>.bool r) r:=by
 refine Qb func95 Z Z Z ?_;exact G0 12 Z (Cz [1] h (k_gj _ _ _) Z λr1 d h=>Go 5 Z (Rt h 4 []))
def F_as(n:Nat)(a:Int):Option Bool:=
  ((bif decide (a<(-2199023255552))then some true else some (decide (2199023255552<a))):Option Bool).bind λb=>some b
theorem k_as(n:Nat)(c:Int)(r:Bool)(h:F_as n c=some r):
    Csm prog 148 [I c] [] (λr=>.bool r) r:=by
 refine Qb func148 Z Z Z ?_;refine G0 6 Z (Bd h λb a h=>?_);refine Ct b [] [] (λb=>[(2,.bool b)]) Ze Zf ?_ (λenv H d=>?_)
 .refine G0 4 Z (Is 5 a Z (λe a=>?_) (λe a=>?_))
  .exact Go 5 Z (Cl a [])
  .exact Go 5 Z (Cl a [])
 exact Gx 1 Z (Ef d (Gc 1 Z (Rt h 2 [])))
def F_kn(n:Nat)(b:List Int)(a:Int):Option (Ctl Int (Ctl Unit Int)):=
  (bif decide (a<(b.length:Int))then(idx b a).bind λc=>(F_as n c).bind λd=>(bif d then some (.done (.done a))else some (.cont (IntKind.i64.wrap (a+1))))else some (.done (.cont ())))
def F_em(n:Nat)(c:List Int):Option Int:=
  (iter (F_kn n c) n 0:Option (Ctl Unit Int)).bind λb=>match b with|.cont a=>(some (-1))|.done a=>some a
theorem k_em(n:Nat)(a:List Int)(r:Int)(h:F_em n a=some r):
    Csm prog 226 [.rsl 1 (List.map (Qd .i64) a),.fn (.func 148) [] []] [] (λr=>I r) r:=
 QJ (el:=λx=>I x) (g:=λx=>F_as n x) func226 Z Z Z runUnderlying32 sizeOf3 (λ_ _ _ _ b c=>Ey b isAgg3 c Pts.rp) call148 (λ_ _ h=>k_as _ _ _ h) h
def F_hf(n:Nat)(a:List Int):Option Bool:=
  (F_em n a).bind λr1=>some (decide (0<=r1))
theorem k_hf(n:Nat)(a:List Int)(r:Bool)(h:F_hf n a=some r):
    Csm prog 147 [.rsl 1 (List.map (Qd .i64) a),.fn (.func 148) [] []] [] (λr=>.bool r) r:=by
 refine Qb func147 Z Z Z ?_;exact G0 9 Z (Cz [] h (k_em _ _) Z λr1 b h=>Go 5 Z (Rt h 4 []))
def F_id(n:Nat)(c:List Int)(d:Int)(b:List Int)(a:Int):Option (Ctl Int (Ctl Unit (Ctl Int (Ctl Unit Bool)))):=
  (bif decide (a<(b.length:Int))then(idx b a).bind λe=>(idx c a).bind λf=>(idx c d).bind λg=>(bif decide (e<(IntKind.i64.wrap (f-g)))then some (.done (.done (.done (.done false))))else some (.cont (IntKind.i64.wrap (a+1))))else some (.done (.cont ())))
def F_jx(n:Nat)(c:Clocks)(f:List Int)(a:Int):Option (Ctl Int (Ctl Unit Bool)):=
  (bif decide (a<(c.Far.length:Int))then(idx c.Far a).bind λd=>(iter (F_id n f a d) n 0:Option (Ctl Unit (Ctl Int (Ctl Unit Bool)))).bind λe=>match e with|.cont b=>(some (.cont (IntKind.i64.wrap (a+1))))|.done b=>some b else some (.done (.cont ())))
def F_cc(n:Nat)(d:Clocks)(e:List Int):Option Bool:=
  (app [0] e).bind λb=>(F_hf n b).bind λr2=>(bif r2 then some false else(iter (F_jx n d b) n 0:Option (Ctl Unit Bool)).bind λc=>match c with|.cont a=>(some true)|.done a=>some a)
theorem k_cc(n:Nat)(y:Clocks)(z:List Int)(r:Bool)(h:F_cc n y z=some r):
    Csm prog 96 [.agg (Clocks.c y),.rsl 1 (List.map (Qd .i64) z)] [] (λr=>.bool r) r:=by
 refine Qb func96 Z Z Z ?_;refine G0 8 Z ?_;refine vH (El (xs:=[.const (.int .i64 0)]) (es:=List.map (Qd .i64) [0]) Qv Z Z Z Z Z ⟨Z,trivial⟩ Z Z) ?_;refine FE Z (Go 1 Z (Bd h λX B h=>?_));refine vH (QM (e:=(Qd .i64)) B Qv runUnderlying32 Qgu) ?_;refine FE Z (Go 7 Z (Cb h (k_hf _ _) Z (lo (ls ln)) λr2 Q h=>Go 2 Z (Cn Z h (λE h=>?_) (λE h=>?_))))
 .exact Gc 7 Z (Rt h 4 [])
 refine Gc 7 Z (Lm Z (Go 3 Z (Bd h λF G h=>?_)));refine Ja (b:=F) [] [] Ze Ze Zf ?_ (λO env H f g=>?_)
 .refine G0 1 Z ?_;refine Lp [2] [5,16,17] (λi=>[(18,I i)]) Ze G Zf (Lr [2]) λi R d j=>?_;refine G0 6 Z (Ya Z d (λq d=>?_) (λq d=>?_))
  .refine Gc 2 Z (Qk d ?_);obtain rfl:=Oj j d;exact Gx 1 Z (Qp Z (Lr []))
  refine Gc 7 Z (Bd d λT s d=>Iz s Z (Go 8 Z (Lm Z (Go 3 Z (Bd d λJ L d=>?_)))));refine Ja (b:=J) [0] [5,16,17,18] Ze Ze Zf ?_ (λP env H f g=>?_)
  .refine G0 1 Z ?_;refine Lp [0] [5,6,16,17,18,23,24] (λk=>[(25,I k)]) Ze L Zf (Lr [0]) λk V a l=>?_;refine G0 6 Z (Ya Z a (λt a=>?_) (λt a=>?_))
   .refine Gc 2 Z (Qk a ?_);obtain rfl:=Oj l a;exact Gx 1 Z (Qp Z (Lr [0]))
   refine Gc 7 Z (Bd a λW u a=>Iz u Z (Go 6 Z (DSs 10 Z (D 2 Z ?_))));obtain⟨M,m,a⟩:=YP a;refine DS.v (x:=(.ptr 0 (Int.toNat k*1))) (QN m Z runUnderlying32 sizeOf3) ?_;refine DS.v (x:=(I M)) (Ey Z isAgg3 Z (Qo m)) ?_;refine D 2 Z ?_;obtain⟨N,p,a⟩:=YP a;refine DS.v (x:=(.ptr 0 (Int.toNat i*1))) (QN p Z runUnderlying32 sizeOf3) ?_;refine DS.v (x:=(I N)) (Ey Z isAgg3 Z (Qo p)) ?_;refine D 2 Z (Eh Z (Go 3 Z (Cn Z a (λw a=>?_) (λw a=>?_))))
   .refine Gc 8 Z (Qn a ?_);obtain rfl:=Oj l a;refine Gx 1 Z (Qm (Gx 2 Z (Qn d ?_)));obtain rfl:=Oj j d;exact Gx 1 Z (Qm (Gx 1 Z (Rt h 4 [])))
   exact Gc 7 Z (Qj a (Lr [0]))
  subst f;exact Gx 2 Z (Ef g (Gc 4 Z (Qj d (Lr [0]))))
 subst f;exact Gx 1 Z (Ef g (Gc 6 Z (Rt h 4 [])))
def F_ag(n:Nat)(a:history_view)(b:Int):Option (List Outcome):=
  (idx a.f.Runners b).bind λc=>(idx c.Worlds a.h.World).bind λd=>some d
theorem k_ag(n:Nat)(b:history_view)(d:Int)(r:List Outcome)(h:F_ag n b d=some r):
    Csm prog 97 [.agg (history_view.c b),I d] [] (λr=>.rsl 4 (List.map Outcome.c r)) r:=by
 refine Qb func97 Z Z Z ?_;refine G0 7 Z (DSs 10 Z (D 4 Z ?_));obtain⟨a,e,h⟩:=YP h;refine DS.wo (x:=.rp [I a.Bib,.rsl 1 (List.map (Qd .i64) a.Keys),.rsl 1 (List.map (YC 4 Outcome.c) a.Worlds)]) ?_ ?_
 .exact Ix e runUnderlying27 sizeOf68 Z Wp
 exact D 5 Z (Eh Z (Bd h λg f h=>Iz f Z (Go 5 Z (Rt h 4 []))))
def F_an(n:Nat)(a:history_view)(b:Int):Option Outcome:=
  (F_ag n a b).bind λr1=>(idx a.h.Choices b).bind λc=>(idx r1 c.Outcome).bind λd=>some d
theorem k_an(n:Nat)(a:history_view)(b:Int)(r:Outcome)(h:F_an n a b=some r):
    C prog 85 [.agg (history_view.c a),I b] [] (RQ (λr=>.agg (Outcome.c r)) (λr=>[.cells 146 (Outcome.c r)]) r):=by
 refine Qb func85 Z Z Z ?_;refine G0 7 Z (DSs 10 Z (D 2 Z ?_));obtain⟨r1,d,h⟩:=YP h;refine DS.wo (x:=.rsl 4 (List.map Outcome.c r1)) ?_ ?_
 .refine Qt [] (OpC.fn call97 Z Z Z) (k_ag _ _ _ _ d) ?_;rintro _ _ ⟨rfl,rfl⟩;exact FE Z Wp
 refine D 4 Z ?_;obtain⟨e,f,h⟩:=YP h;refine DS.wo (x:=.rp [I e.Outcome,I e.X]) ?_ ?_
 .exact Ix f runUnderlying57 sizeOf87 Z Wp
 refine D 2 Z (Eh Z (Bd h λi g h=>Iz g Z (Go 5 Z ?_)));obtain rfl:=Oi h;exact Rx [1] [4] Z (QV Z (QD isAgg146 sizeOf146 Z Z Z)) ⟨Z,Z⟩
def F_iw(n:Nat)(e:Field)(c:History)(a:Int):Option (Ctl Int (Ctl Unit (history_view×Int))):=
  (bif decide (a<(c.Choices.length:Int))then(idx c.Choices a).bind λb=>((bif decide (b.Outcome<0)then some true else(F_ag n ({f:=e,h:=c:history_view}) a).bind λi=>some (decide ((i.length:Int)<=b.Outcome))):Option Bool).bind λj=>(bif j then some (.done (.done ({f:=e,h:=c:history_view},260)))else(F_an n ({f:=e,h:=c:history_view}) a).bind λd=>((bif d.Out then some ({d with Lo:=0,Hi:=0:Outcome})else some d):Option Outcome).bind λg=>((bif decide (b.X<g.Lo)then some true else some (decide (g.Hi<b.X))):Option Bool).bind λk=>(bif k then some (.done (.done ({f:=e,h:=c:history_view},260)))else some (.cont (IntKind.i64.wrap (a+1)))))else some (.done (.cont ())))
def F_w(n:Nat)(a:Field)(b:History):Option (history_view×Int):=
  (F_q n a).bind λr1=>(bif (r1 != 0)then some ({f:=z_Field,h:=z_History:history_view},240)else((bif decide (b.World<0)then some true else(bif decide ((a.Pairs.length:Int)<b.World)then some true else(F_ca n a b.World).bind λd=>(bif (!d)then some true else(bif ((b.Offsets.length:Int) != (a.Clocks.Segments.length:Int))then some true else(bif ((b.Choices.length:Int) != (a.Runners.length:Int))then some true else(F_cc n a.Clocks b.Offsets).bind λe=>some (!e)))))):Option Bool).bind λg=>(bif g then some ({f:=a,h:=b:history_view},260)else(iter (F_iw n a b) n 0:Option (Ctl Unit (history_view×Int))).bind λi=>match i with|.cont c=>(some ({f:=a,h:=b:history_view},0))|.done c=>some c))
theorem k_w(n:Nat)(y:Field)(z:History)(r:history_view×Int)(h:F_w n y z=some r):
    C prog 60 [.agg (Field.c y),.agg (History.c z)] [] (RQ (λr=>.tup [.agg (history_view.c r.1),I r.2]) (λr=>[.cells 119 (history_view.c r.1)]) r):=by
 refine Qb func60 Z Z Z ?_;refine G0 12 Z (Cz [] h (k_q _ _) Z λr1 af h=>Go 3 Z (Cn Z h (λW h=>?_) (λW h=>?_)))
 .refine Gc 9 Z ?_;obtain rfl:=Oi h;exact Rx [2] [4,5] Z (QS Z Z (QiA.cons (QD isAgg119 sizeOf119 Z Z Z) (QiA.cons QcI.tmp QiA.nil))) ⟨Z,Z⟩
 refine Gc 12 Z (Bd h λp d h=>?_);refine Ct p [1,2] [3,4] (λp=>[(60,.bool p)]) Ze Zf ?_ (λenv H g=>?_)
 .refine G0 5 Z (Is 19 d Z (λB d=>?_) (λB d=>?_))
  .exact Go 42 Z (Cl d [1,2])
  .refine Go 4 Z (Lm Z (Go 3 Z (Is 27 d Z (λE d=>?_) (λE d=>?_))))
   .exact Go 34 Z (Cl d [1,2])
   .refine Go 3 Z (Cz [] d (k_ca _ _ _) Z λag ab d=>Go 3 Z (Is 34 d Z (λF d=>?_) (λF d=>?_)))
    .exact Go 27 Z (Cl d [1,2])
    .refine Go 2 Z (Lm Z (Go 3 Z (Lm Z (Go 3 Z (Is 44 d Z (λG d=>?_) (λG d=>?_))))))
     .exact Go 17 Z (Cl d [1,2])
     .refine Go 2 Z (Lm Z (Go 2 Z (Lm Z (Go 3 Z (Is 53 d Z (λJ d=>?_) (λJ d=>?_))))))
      .exact Go 8 Z (Cl d [1,2])
      .exact Go 4 Z (Cz [] d (k_cc _ _ _) Z λah ac d=>Go 3 Z (Cl d [1,2]))
 refine Gx 1 Z (Ef g (Cn Z h (λL h=>?_) (λL h=>?_)))
 .refine Gc 9 Z ?_;obtain rfl:=Oi h;exact Rx [1] [4,5] Z (QS Z Z (QiA.cons (QD isAgg119 sizeOf119 Z Z Z) (QiA.cons QcI.tmp QiA.nil))) ⟨Z,Z⟩
 refine Gc 7 Z (Lm Z (Go 3 Z (Bd h λX Y h=>?_)));refine Ja (b:=X) [0] [] (λ_=>[(4,.ptr 0 0)]) (λ_=>[(0,.cells 119 (history_view.c ({f:=y,h:=z:history_view})))]) Zf ?_ (λad env H aa g=>?_)
 .refine G0 1 Z ?_;refine Lp [1] [4,63,64] (λw=>[(65,I w)]) Ze Y Zf (Lr [1]) λw ai a m=>?_;refine G0 6 Z (Ya Z a (λM a=>?_) (λM a=>?_))
  .refine Gc 2 Z (Qk a ?_);obtain rfl:=Oj m a;exact Gx 1 Z (Qp Z (Lr [0]))
  refine Gc 7 Z (Bd a λaj N a=>Iz N Z (Go 8 Z (Bd a λq i a=>?_)));refine Ct q [0,1] [4,6,7,63,64,65] (λq=>[(81,.bool q)]) Ze Zf ?_ (λenv H g=>?_)
  .refine G0 0 Z (DSs 10 Z (D 4 Z (Yr 3 i Z Z Z (λO i=>?_) (λO i=>?_))))
   .exact D 6 Z (Eh Z (Go 3 Z (Cl i [0,1])))
   .refine D 4 Z ?_;obtain⟨s,P,i⟩:=YP i;refine DS.wo (x:=.rsl 4 (List.map Outcome.c s)) ?_ ?_
    .refine Qt [] (OpC.fn call97 Z Z Z) (k_ag _ _ _ _ P) ?_ (hg:=(gT Z));rintro _ _ ⟨rfl,rfl⟩;exact FE Z Wp
    refine DS.v (x:=(I (s.length:Int))) (Yz (e:=Outcome.c) (l:=s) runUnderlying88) ?_ (hg:=(gT Z));exact Eh Z (Go 3 Z (Cl i [0,1]))
  refine Gx 1 Z (Ef g (Cn Z a (λQ a=>?_) (λQ a=>?_)))
  .refine Gc 11 Z (Qn a ?_);obtain rfl:=Oj m a;refine Gx 1 Z (Qm (Gx 1 Z ?_));obtain rfl:=Oi h;exact Rx [0] [4,5] Z (QS Z Z (QiA.cons (QD isAgg119 sizeOf119 Z Z Z) (QiA.cons QcI.tmp QiA.nil))) ⟨Z,Z⟩
  refine Gc 6 Z (Cd [] a (k_an _ _ _) Z λak ae a=>FE Z (Go 11 Z (Bd a λt j a=>?_)));refine Ct t [0,1,3] [4,7,8,63,64,65] Ze (λt=>[(2,.cells 146 (Outcome.c t))]) Zf ?_ (λenv H g=>?_)
  .refine G0 0 Z (Cn Z j (λR j=>?_) (λR j=>?_))
   .exact Gc 6 Z (Cl j [0,1,3])
   exact Gc 1 Z (Cl j [0,1,3])
  refine Gx 1 Z (Ef g (Gc 1 Z (Bd a λu k a=>?_)));refine Ct u [0] [4,63,64,65] (λu=>[(101,.bool u)]) Ze Zf ?_ (λenv H g=>?_)
  .refine G0 7 Z (Is 95 k Z (λT k=>?_) (λT k=>?_))
   .exact Go 7 Z (Cl k [0])
   .exact Go 7 Z (Cl k [0])
  refine Gx 1 Z (Ef g (Cn Z a (λV a=>?_) (λV a=>?_)))
  .refine Gc 10 Z (Qn a ?_);obtain rfl:=Oj m a;refine Gx 1 Z (Qm (Gx 1 Z ?_));obtain rfl:=Oi h;exact Rx [0] [4,5] Z (QS Z Z (QiA.cons (QD isAgg119 sizeOf119 Z Z Z) (QiA.cons QcI.tmp QiA.nil))) ⟨Z,Z⟩
  exact Gc 7 Z (Qj a (Lr [0]))
 subst aa;refine Gx 1 Z (Ef g (Gc 8 Z ?_));obtain rfl:=Oi h;exact Rx [0] [4,5] Z (QS Z Z (QiA.cons (QD isAgg119 sizeOf119 Z Z Z) (QiA.cons QcI.tmp QiA.nil))) ⟨Z,Z⟩
def F_ec(n:Nat)(a:Field)(b:History):Option Int:=
  (F_w n a b).bind λr1=>some r1.2
theorem k_ec(n:Nat)(a:Field)(b:History)(r:Int)(h:F_ec n a b=some r):
    Csm prog 45 [.agg (Field.c a),.agg (History.c b)] [] (λr=>I r) r:=by
 refine Qb func45 Z Z Z ?_;exact G0 11 Z (Cd [] h (k_w _ _ _) Z λr1 d h=>FE Z (Go 13 Z (Rt h 4 [])))
def F_ft(n:Nat)(a:Field)(c:History)(b:Int):Option (history_view×Int):=
  (F_w n a c).bind λr1=>((bif (r1.2==0)then(bif decide (b<0)then some true else some (decide ((a.Runners.length:Int)<=b)))else some false):Option Bool).bind λd=>((bif d then some 250 else some r1.2):Option Int).bind λe=>some (r1.1,e)
theorem k_ft(n:Nat)(i:Field)(j:History)(k:Int)(r:history_view×Int)(h:F_ft n i j k=some r):
    C prog 54 [.agg (Field.c i),.agg (History.c j),I k] [] (RQ (λr=>.tup [.agg (history_view.c r.1),I r.2]) (λr=>[.cells 119 (history_view.c r.1)]) r):=by
 refine Qb func54 Z Z Z ?_;refine G0 13 Z (Cd [] h (k_w _ _ _) Z λr1 p h=>FE Z (Go 8 Z (Bd h λe a h=>?_)));refine Ct e [2] [6,7] (λe=>[(26,.bool e)]) Ze Zf ?_ (λenv H d=>?_)
 .refine G0 4 Z (Is 16 a Z (λl a=>?_) (λl a=>?_))
  .refine Go 3 Z (Is 19 a Z (λm a=>?_) (λm a=>?_))
   .exact Go 8 Z (Cl a [2])
   .exact Go 3 Z (Lm Z (Go 4 Z (Cl a [2])))
  .exact Go 11 Z (Cl a [2])
 refine Gx 1 Z (Ef d (Bd h λf b h=>?_));refine Ct f [0] [6] (λf=>[(7,I f)]) Ze Zf ?_ (λenv H d=>?_)
 .refine G0 0 Z (Cn Z b (λg b=>?_) (λg b=>?_))
  .exact Gc 3 Z (Cl b [0])
  exact Gc 1 Z (Cl b [0])
 refine Gx 1 Z (Ef d (Gc 9 Z ?_));obtain rfl:=Oi h;exact Rx [0] [6,7] Z (QS Z Z (QiA.cons (QD isAgg119 sizeOf119 Z Z Z) (QiA.cons QcI.tmp QiA.nil))) ⟨Z,Z⟩
def F_ad(n:Nat)(a:history_view)(b:Int):Option (Int×Bool):=
  (F_an n a b).bind λr1=>(bif r1.Out then some (0,false)else(idx a.h.Choices b).bind λc=>((bif decide (0<=r1.Seg)then(idx a.h.Offsets r1.Seg).bind λd=>some (IntKind.i64.wrap (c.X+d))else some c.X):Option Int).bind λe=>some (e,true))
theorem k_ad(n:Nat)(d:history_view)(e:Int)(r:Int×Bool)(h:F_ad n d e=some r):
    Csm prog 55 [.agg (history_view.c d),I e] [] (λr=>.tup [I r.1,.bool r.2]) r:=by
 refine Qb func55 Z Z Z ?_;refine G0 11 Z (Cd [] h (k_an _ _ _) Z λr1 l h=>FE Z (Go 11 Z (Cn Z h (λf h=>?_) (λf h=>?_))))
 .refine Gc 8 Z ?_;obtain rfl:=Oi h;exact R2 4 5 Z Z (Lr [])
 refine Gc 8 Z (Bd h λm g h=>Iz g Z (Go 13 Z (Bd h λb a h=>?_)));refine Ct b [] [] (λb=>[(4,I b)]) Ze Zf ?_ (λenv H i=>?_)
 .refine G0 0 Z (Cn Z a (λj a=>?_) (λj a=>?_))
  .exact Gc 7 Z (Bd a λp k a=>Iz k Z (Go 4 Z (Cl a [])))
  exact Gc 1 Z (Cl a [])
 refine Gx 1 Z (Ef i (Gc 8 Z ?_));obtain rfl:=Oi h;exact R2 4 5 Z Z (Lr [])
def F_kh(n:Nat)(c:history_view)(a:(List history_pair_int__int_)×Int):Option (Ctl ((List history_pair_int__int_)×Int) (List history_pair_int__int_)):=
  (bif decide (a.2<(c.f.Runners.length:Int))then(F_ad n c a.2).bind λb=>((bif b.2 then(app a.1 [{first:=a.2,second:=b.1:history_pair_int__int_}]).bind λd=>some d else some a.1):Option (List history_pair_int__int_)).bind λe=>some (.cont (e,IntKind.i64.wrap (a.2+1)))else some (.done a.1))
def F_am(n:Nat)(b:history_view):Option (List history_pair_int__int_):=
  (iter (F_kh n b) n ([],0):Option (List history_pair_int__int_)).bind λa=>some a
theorem k_am(n:Nat)(u:history_view)(r:List history_pair_int__int_)(h:F_am n u=some r):
    C prog 56 [.agg (history_view.c u)] [] (RQ (λr=>.osl 0 0 r.length 2) (λr=>[.row 125 2 (List.map history_pair_int__int_.c r)]) r):=by
 refine Qb func56 Z Z Z ?_;refine G0 12 Z (Lm Z (Go 3 Z (Bd h λf w h=>?_)));refine Ct f [0] [] (λf=>[(2,.osl 0 0 f.length 2)]) (λf=>[(0,.row 125 2 (List.map history_pair_int__int_.c f))]) Zf ?_ (λenv H j=>?_)
 .refine G0 1 Z ?_;refine Lp [0,0] [1,9] (λd=>[(2,.osl 1 0 d.1.length 2),(10,I d.2)]) (λd=>[(1,.row 125 2 (List.map history_pair_int__int_.c d.1))]) w Zf ?_ ?_
  .refine En (Er (s:=2) (k:=2) (t:=125) (XY Z) Z) ?_;exact Lr [0,1]
  intro d z a l;refine G0 6 Z (Ya Z a (λm a=>?_) (λm a=>?_))
  .refine Gc 2 Z (Qk a ?_);obtain rfl:=Oj l a;exact Gx 1 Z (Q1 (Lr [1]))
  refine Gc 14 Z (Cd [] a (k_ad _ _ _) Z λx y a=>FE Z (Go 12 Z (Bd a λg b a=>?_)));refine Ct g [0,0] [1,9,10] (λg=>[(2,.osl 1 0 g.length 2)]) (λg=>[(1,.row 125 2 (List.map history_pair_int__int_.c g))]) Zf ?_ (λenv H j=>?_)
  .refine G0 0 Z (Cn Z b (λp b=>?_) (λp b=>?_))
   .refine Gc 5 Z ?_;refine vH (El (xs:=[.tmp 23]) (es:=List.map history_pair_int__int_.c [{first:=d.2,second:=x.1:history_pair_int__int_}]) Qmj Z Z Z Z Z ⟨Z,trivial⟩ Z Z) ?_;refine FE Z (Bd b λB q b=>?_);refine vH (QM (e:=history_pair_int__int_.c) q Qmj runUnderlying126 (YI (i:=2))) ?_;exact FE Z (Go 2 Z (Cl b [0,3]))
   exact Gc 1 Z (Cl b [0,1])
  exact Gx 2 Z (Ef j (Gc 4 Z (Qj a (Lr [0,1]))))
 exact Gx 1 Z (Ef j (Gc 7 Z (Rt h 2 [0])))
def F_x(n:Nat)(a:history_view)(b:history_pair_int__int_)(c:history_pair_int__int_):Option Int:=
  (F_e n b.second c.second).bind λr1=>(idx a.f.Runners b.first).bind λd=>(idx a.f.Runners c.first).bind λe=>(F_u n d.Keys e.Keys).bind λg=>(F_n n [r1,g]).bind λh=>some h
theorem k_x(n:Nat)(d:history_view)(e:history_pair_int__int_)(f:history_pair_int__int_)(r:Int)(h:F_x n d e f=some r):
    Csm prog 57 [.agg (history_view.c d),.agg (history_pair_int__int_.c e),.agg (history_pair_int__int_.c f)] [] (λr=>I r) r:=by
 refine Qb func57 Z Z Z ?_;refine G0 9 Z (DSs 21 Z (D 4 Z ?_));refine Dz [] h (k_e _ _ _) Z λr1 k h=>D 5 Z ?_;obtain⟨a,g,h⟩:=YP h;refine DS.wo (x:=.rp [I a.Bib,.rsl 1 (List.map (Qd .i64) a.Keys),.rsl 1 (List.map (YC 4 Outcome.c) a.Worlds)]) ?_ ?_
 .exact Ix g runUnderlying27 sizeOf68 Z Wp
 refine D 7 Z ?_;obtain⟨b,i,h⟩:=YP h;refine DS.wo (x:=.rp [I b.Bib,.rsl 1 (List.map (Qd .i64) b.Keys),.rsl 1 (List.map (YC 4 Outcome.c) b.Worlds)]) ?_ ?_
 .exact Ix i runUnderlying27 sizeOf68 Z Wp
 refine D 2 Z (Eh Z (Cz [] h (k_u _ _ _) Z λj l h=>?_));refine vH (QcN (xs:=[.tmp 11,.tmp 28]) (es:=List.map (Qd .i64) [r1,j]) Qv Z Z Z Z Z ⟨Z,Z,trivial⟩ Z Z) ?_;exact FE Z (Cz [] h (k_n _ _) Z λp m h=>Go 4 Z (Rt h 6 []))
def F_jp(n:Nat)(f:Int)(r1:history_view×Int)(g:Int×Bool)(b:List history_pair_int__int_)(a:Int×Int):Option (Ctl (Int×Int) Int):=
  (bif decide (a.2<(b.length:Int))then(idx b a.2).bind λc=>(F_x n r1.1 c ({first:=f,second:=g.1:history_pair_int__int_})).bind λd=>((bif decide (d<0)then some (IntKind.i64.wrap (a.1+1))else some a.1):Option Int).bind λe=>some (.cont (e,IntKind.i64.wrap (a.2+1)))else some (.done a.1))
def F_ai(n:Nat)(d:Field)(e:History)(a:Int):Option (Int×Int):=
  (F_ft n d e a).bind λr1=>(bif (r1.2 != 0)then some (0,r1.2)else(F_ad n r1.1 a).bind λb=>(bif (!b.2)then some (0,0)else(F_am n r1.1).bind λf=>(iter (F_jp n a r1 b f) n (0,0):Option Int).bind λc=>some (IntKind.i64.wrap (c+1),0)))
theorem k_ai(n:Nat)(m:Field)(p:History)(q:Int)(r:Int×Int)(h:F_ai n m p q=some r):
    Csm prog 25 [.agg (Field.c m),.agg (History.c p),I q] [] (λr=>.tup [I r.1,I r.2]) r:=by
 refine Qb func25 Z Z Z ?_;refine G0 13 Z (Cd [] h (k_ft _ _ _ _) Z λr1 y h=>FE Z (Go 15 Z (Cn Z h (λs h=>?_) (λs h=>?_))))
 .refine Gc 9 Z ?_;obtain rfl:=Oi h;exact R2 6 7 Z Z (Lr [])
 refine Gc 6 Z (Cd [] h (k_ad _ _ _) Z λG z h=>FE Z (Go 14 Z (Cn Z h (λt h=>?_) (λt h=>?_))))
 .refine Gc 8 Z ?_;obtain rfl:=Oi h;exact R2 6 7 Z Z (Lr [])
 refine Gc 15 Z (Cd [] h (k_am _ _) Z λJ B h=>FE Z (Go 4 Z (Bd h λe u h=>?_)));refine Ct e [] [] (λe=>[(6,I e)]) Ze Zf ?_ (λenv H f=>?_)
 .refine G0 1 Z ?_;refine Lp [3,4,5] [8,11,36,37] (λd=>[(6,I d.1),(38,I d.2)]) Ze u Zf (Lr [3,4,5]) λd E a j=>?_;refine G0 6 Z (Ya Z a (λk a=>?_) (λk a=>?_))
  .refine Gc 2 Z (Qk a ?_);obtain rfl:=Oj j a;exact Gx 1 Z (Q1 (Lr []))
  refine Gc 6 Z (Bd a λw g a=>?_);refine vX (.ptr 2 (Int.toNat d.2*2)) (QN g Z runUnderlying126 sizeOf125) ?_;refine vX (.agg (history_pair_int__int_.c w)) (Qy Z isAgg125 sizeOf125 Z (Qo g) Z Z) ?_;refine Go 9 Z (Cz [] a (k_x _ _ _ _) Z λF x a=>Go 3 Z (Bd a λi b a=>?_));refine Ct i [0,1,2] [8,11,36,37,38] (λi=>[(6,I i)]) Ze Zf ?_ (λenv H f=>?_)
  .refine G0 0 Z (Cn Z b (λl b=>?_) (λl b=>?_))
   .exact Gc 5 Z (Cl b [0,1,2])
   exact Gc 1 Z (Cl b [0,1,2])
  exact Gx 2 Z (Ef f (Gc 4 Z (Qj a (Lr [0,1,2]))))
 refine Gx 1 Z (Ef f (Gc 9 Z ?_));obtain rfl:=Oi h;exact R2 6 7 Z Z (Lr [])
def F_fn(n:Nat)(a:List (Int×Option (List Int))):Option Unit:=
  some ()
theorem k_fn(n:Nat)(a:List (Int×Option (List Int)))(r:Unit)(h:F_fn n a=some r):
    C prog 47 [.map 0] [.mapO false 3 1 (QQ (λx=>A.int .i64 x) (Qd .i64) a)] (RQ (λ_=>.fn (.func 73) [] [.ptr 1 0]) (λ_=>[.mapO false 3 1 (QQ (λx=>A.int .i64 x) (Qd .i64) a),.cells 110 [.map 0]]) r):=by
 refine Qb func47 Z Z Z ?_;exact G0 13 Z (Rt h 2 [0,1])
def F_hl(n:Nat)(a:List (Int×List Int)):Option Unit:=
  some ()
theorem k_hl(n:Nat)(a:List (Int×List Int))(r:Unit)(h:F_hl n a=some r):
    C prog 75 [.map 0] [.fmap (Qz (λx=>A.int .i64 x) (λx=>A.rsl 1 (List.map (Qd .i64) x)) a)] (RQ (λ_=>.fn (.func 125) [] [.ptr 1 0]) (λ_=>[.fmap (Qz (λx=>A.int .i64 x) (λx=>A.rsl 1 (List.map (Qd .i64) x)) a),.cells 110 [.map 0]]) r):=by
 refine Qb func75 Z Z Z ?_;exact G0 13 Z (Rt h 2 [0,1])
def F_el(n:Nat)(a:List (Int×List Int)):Option (List Int):=
  Qkk (List.map Prod.fst a) λp1=>(sortI p1).bind λb=>some b
theorem k_el(n:Nat)(b:List (Int×List Int))(r:List Int)(h:F_el n b=some r):
    C prog 74 [.fn (.func 125) [] [.ptr 0 0]] [.cells 110 [.map 1],.fmap (Qz (λx=>A.int .i64 x) (λx=>A.rsl 1 (List.map (Qd .i64) x)) b)] (RQ (λr=>.osl 2 0 r.length 1) (λr=>[.dead,.fmap (Qz (λx=>A.int .i64 x) (λx=>A.rsl 1 (List.map (Qd .i64) x)) b),.row 3 1 (List.map (Qd .i64) r)]) r):=by
 refine Qb func74 Z Z Z ?_;refine G0 8 Z ?_;obtain⟨c,h⟩:=Qjr h;refine Qt [0,1] (OpC.fn call123 Z Z Z) (QgW _ c) ?_;rintro _ _ ⟨p1,d,rfl,rfl⟩;have h:=h p1 d;refine FE Z (Go 6 Z (Bd h λe a h=>?_));refine Qt [2] (OpC.fn call124 Z Z Z) (QjE QbS a) ?_;rintro _ _ ⟨rfl,rfl⟩;refine FE Z ?_;refine Et (Qu (s:=3) Z (congrArg (λn=>A.osl 2 0 n 1) (Qac a))) ?_;refine Et (Qu (s:=5) Z (congrArg (λn=>A.osl 2 0 n 1) (Qac a))) ?_;refine Et (Qu (s:=6) Z (congrArg (λn=>A.osl 2 0 n 1) (Qac a))) ?_;exact Go 9 Z (Rt h 2 [0,1,2])
def F_hr(n:Nat)(d:List (Int×List Int))(r2:List Int)(a:Int):Option ((List (Int×(List Int)))×Ctl Int Unit):=
  (bif decide (a<(r2.length:Int))then(idx r2 a).bind λb=>(some (QF d b [])).bind λc=>yl (b,c) (some ([],.cont (IntKind.i64.wrap (a+1))))else some ([],.done ()))
def F_bt(n:Nat)(a:List (Int×List Int)):Option ((List (Int×(List Int)))×Unit):=
  (F_hl n a).bind λr1=>(F_el n a).bind λr2=>ap (Qbm (F_hr n a r2) n 0) λb=>some ([],())
theorem k_bt(n:Nat)(f:List (Int×List Int))(p:(List (Int×(List Int)))×Unit)(h:F_bt n f=some p):
    Qdx prog 73 [.ptr 0 0] [.cells 110 [.map 1],.fmap (Qz (λx=>A.int .i64 x) (λx=>A.rsl 1 (List.map (Qd .i64) x)) f)] (λx=>[I x.1,.rsl 1 (List.map (Qd .i64) x.2)]) nxL p.1:=by
 obtain⟨xs,u⟩:=p;refine Qam func73 Z Z Z Z ?_;intro X hE hN;refine Gy0 1 Z (TCy.lf ?_);refine G0 2 Z (Cd [1] h (k_hl _ _) Z λr1 w h=>FE Z (Cd [2,1] h (k_el _ _) Z λr2 y h=>FE Z (Go 3 Z ?_)));refine Gyx 1 Z ?_;obtain⟨z,m,q,r,s,rfl⟩:=Qjq h;rw[Vq];refine QcC m (q++[]) [0,1] [0] Ze Ze Zf ?_ (λenv H B=>?_)
 .refine Gy0 1 Z ?_;refine Qgt [0,1,3] [0,1,7,8] (λb=>[(9,I b)]) Ze r Zf (Lr [0,1,3]) λb E F G a g=>?_;refine Gy0 1 Z (TCy.lf ?_);refine G0 3 Z ?_;refine Gyx 2 Z (TCy.lf ?_);refine G0 0 Z (Ya Z a (λi a=>?_) (λi a=>?_))
  .refine Gc 1 Z ?_;refine Gyx 1 Z ?_;obtain⟨rfl,rfl,rfl⟩:=Oy g a;exact Qf8 (Gyx 1 Z (Qjn (Lr [0,1])))
  refine Gc 1 Z ?_;refine Gyx 4 Z (TCy.lf ?_);refine G0 1 Z (Bd a λc d a=>?_);refine vX (.ptr 2 (Int.toNat b*1)) (QN d Z runUnderlying32 sizeOf3) ?_;refine vX (I c) (Ey Z isAgg3 Z (Qo d)) ?_;refine Go 2 Z ?_;refine Gyx 7 Z ?_;refine WOy.step ?_;refine Bd a λe j a=>?_;refine vX (.rsl 1 (List.map (Qd .i64) e)) (QfO (ev:=(λx=>A.rsl 1 (List.map (Qd .i64) x))) (z0:=[]) (k:=c) (l:=f) Qbl j underlying110 zeroValue32 ZR.rsl) ?_;refine WO.nil ⟨Z,?_⟩;obtain⟨J,t,rfl⟩:=QiI a;refine Qms (x:=(c,e)) (e1:=λx=>I x.1) (e2:=λx=>.rsl 1 (List.map (Qd .i64) x.2)) hE hN Z Z Z Z Z Z ?_ ?_
  .refine Gyo 3 Z (TCy.lf ?_);refine G0 2 Z ?_;refine Gyx 2 Z (TCy.lf ?_);refine G0 4 Z ?_;exact Gyx 0 Z (Qeh t (Lr [0,1,2]))
  .exact Gyo 7 Z (Qf9 (Gyx 1 Z (Qjm (⟨.inr Z,.inr ⟨_,Z⟩⟩))))
 cases s;exact⟨.inl Z,.inl Z⟩
def F_p(n:Nat)(a:Int):Option Int:=
  ((bif decide (1125899906842624<a)then some true else some (decide (a<(-1125899906842624)))):Option Bool).bind λb=>(bif b then some 300 else some 0)
theorem k_p(n:Nat)(c:Int)(r:Int)(h:F_p n c=some r):
    Csm prog 62 [I c] [] (λr=>I r) r:=by
 refine Qb func62 Z Z Z ?_;refine G0 7 Z (Bd h λb a h=>?_);refine Ct b [] [] (λb=>[(8,.bool b)]) Ze Zf ?_ (λenv H d=>?_)
 .refine G0 4 Z (Is 5 a Z (λe a=>?_) (λe a=>?_))
  .exact Go 4 Z (Cl a [])
  .exact Go 4 Z (Cl a [])
 refine Gx 1 Z (Ef d (Cn Z h (λf h=>?_) (λf h=>?_)))
 .exact Gc 7 Z (Rt h 2 [])
 exact Gc 8 Z (Rt h 2 [])
def F_hv(n:Nat)(c:List Int)(a:Int×Int):Option (Ctl (Int×Int) (Ctl Int (Int×Int))):=
  (bif decide (a.2<(c.length:Int))then(idx c a.2).bind λb=>((F_p n b).bind λd=>(bif (d != 0)then some true else(F_p n (IntKind.i64.wrap (a.1+b))).bind λe=>some (e != 0)):Option Bool).bind λf=>(bif f then some (.done (.done (0,300)))else some (.cont (IntKind.i64.wrap (a.1+b),IntKind.i64.wrap (a.2+1))))else some (.done (.cont a.1)))
def F_r(n:Nat)(c:List Int):Option (Int×Int):=
  (iter (F_hv n c) n (0,0):Option (Ctl Int (Int×Int))).bind λb=>match b with|.cont a=>(some (a,0))|.done a=>some a
theorem k_r(n:Nat)(p:List Int)(r:Int×Int)(h:F_r n p=some r):
    Csm prog 30 [.rsl 1 (List.map (Qd .i64) p)] [] (λr=>.tup [I r.1,I r.2]) r:=by
 refine Qb func30 Z Z Z ?_;refine G0 10 Z (Lm Z (Go 3 Z (Bd h λq s h=>?_)));refine Ja (b:=q) [] [] (λd=>[(2,I d)]) Ze Zf ?_ (λd env H t e=>?_)
 .refine G0 1 Z ?_;refine Lp [] [6,7] (λf=>[(2,I f.1),(8,I f.2)]) Ze s Zf (Lr []) λf x a g=>?_;refine G0 6 Z (Ya Z a (λj a=>?_) (λj a=>?_))
  .refine Gc 2 Z (Qk a ?_);obtain rfl:=Oj g a;exact Gx 1 Z (Qp Z (Lr []))
  refine Gc 6 Z (Bd a λy k a=>Iz k Z (Go 6 Z (Bd a λi c a=>?_)));refine Ct i [] [2,5,6,7,8] (λi=>[(21,.bool i)]) Ze Zf ?_ (λenv H e=>?_)
  .refine G0 2 Z (Cz [] c (k_p _ _) Z λz u c=>Go 2 Z (Is 15 c Z (λl c=>?_) (λl c=>?_)))
   .exact Go 7 Z (Cl c [])
   .exact Go 3 Z (Cz [] c (k_p _ _) Z λB w c=>Go 3 Z (Cl c []))
  refine Gx 1 Z (Ef e (Cn Z a (λm a=>?_) (λm a=>?_)))
  .refine Gc 10 Z (Qn a ?_);obtain rfl:=Oj g a;refine Gx 1 Z (Qm (Gx 1 Z ?_));obtain rfl:=Oi h;exact R2 2 3 Z Z (Lr [])
  exact Gc 14 Z (Qj a (Lr []))
 subst t;refine Gx 1 Z (Ef e (Gc 8 Z ?_));obtain rfl:=Oi h;exact R2 2 3 Z Z (Lr [])
def F_fr(n:Nat)(a:Int)(b:Int):Option Unit:=
  some ()
theorem k_fr(n:Nat)(a:Int)(b:Int)(r:Unit)(h:F_fr n a b=some r):
    Csm prog 130 [.int .u64 a,.int .u64 b] [] (λ_=>.tup [.int .u64 (IntKind.u64.wrap ((IntKind.u64.wrap ((IntKind.u64.wrap ((YE .u64 a 32)*(YE .u64 b 32)))+(YE .u64 (IntKind.u64.wrap ((IntKind.u64.wrap ((YE .u64 a 32)*(YD .u64 b 4294967295)))+(YE .u64 (IntKind.u64.wrap ((YD .u64 a 4294967295)*(YD .u64 b 4294967295))) 32))) 32)))+(YE .u64 (IntKind.u64.wrap ((YD .u64 (IntKind.u64.wrap ((IntKind.u64.wrap ((YE .u64 a 32)*(YD .u64 b 4294967295)))+(YE .u64 (IntKind.u64.wrap ((YD .u64 a 4294967295)*(YD .u64 b 4294967295))) 32))) 4294967295)+(IntKind.u64.wrap ((YD .u64 a 4294967295)*(YE .u64 b 32))))) 32))),.int .u64 (IntKind.u64.wrap (a*b))]) r:=by
 refine Qb func130 Z Z Z ?_;refine G0 9 Z ?_;refine vX (.int .u64 (YD .u64 a 4294967295)) (OpV.and Z Z Z) ?_;refine Go 6 Z ?_;refine vX (.int .u64 (YE .u64 a 32)) (OpV.shr Z Z Z (by decide)) ?_;refine Go 6 Z ?_;refine vX (.int .u64 (YD .u64 b 4294967295)) (OpV.and Z Z Z) ?_;refine Go 6 Z ?_;refine vX (.int .u64 (YE .u64 b 32)) (OpV.shr Z Z Z (by decide)) ?_;refine Go 17 Z ?_;refine vV (x:=(.int .u64 (YE .u64 (IntKind.u64.wrap ((YD .u64 a 4294967295)*(YD .u64 b 4294967295))) 32))) (OpV.shr Z Z Z (by decide)) ?_;refine Go 7 Z ?_;refine vV (x:=(.int .u64 (YD .u64 (IntKind.u64.wrap ((IntKind.u64.wrap ((YE .u64 a 32)*(YD .u64 b 4294967295)))+(YE .u64 (IntKind.u64.wrap ((YD .u64 a 4294967295)*(YD .u64 b 4294967295))) 32))) 4294967295))) (OpV.and Z Z Z) ?_;refine Go 6 Z ?_;refine vV (x:=(.int .u64 (YE .u64 (IntKind.u64.wrap ((IntKind.u64.wrap ((YE .u64 a 32)*(YD .u64 b 4294967295)))+(YE .u64 (IntKind.u64.wrap ((YD .u64 a 4294967295)*(YD .u64 b 4294967295))) 32))) 32))) (OpV.shr Z Z Z (by decide)) ?_;refine Go 21 Z ?_;refine vV (x:=(.int .u64 (YE .u64 (IntKind.u64.wrap ((YD .u64 (IntKind.u64.wrap ((IntKind.u64.wrap ((YE .u64 a 32)*(YD .u64 b 4294967295)))+(YE .u64 (IntKind.u64.wrap ((YD .u64 a 4294967295)*(YD .u64 b 4294967295))) 32))) 4294967295)+(IntKind.u64.wrap ((YD .u64 a 4294967295)*(YE .u64 b 32))))) 32))) (OpV.shr Z Z Z (by decide)) ?_;refine Go 13 Z ?_;obtain rfl:=Oi h;exact R2 4 5 Z Z (Lr [])
def F_ew(n:Nat)(a:Int)(b:Int):Option Unit:=
  (F_fr n a b).bind λr1=>some ()
theorem k_ew(n:Nat)(a:Int)(b:Int)(r:Unit)(h:F_ew n a b=some r):
    Csm prog 80 [.int .u64 a,.int .u64 b] [] (λ_=>.tup [.int .u64 (IntKind.u64.wrap ((IntKind.u64.wrap ((IntKind.u64.wrap ((YE .u64 a 32)*(YE .u64 b 32)))+(YE .u64 (IntKind.u64.wrap ((IntKind.u64.wrap ((YE .u64 a 32)*(YD .u64 b 4294967295)))+(YE .u64 (IntKind.u64.wrap ((YD .u64 a 4294967295)*(YD .u64 b 4294967295))) 32))) 32)))+(YE .u64 (IntKind.u64.wrap ((YD .u64 (IntKind.u64.wrap ((IntKind.u64.wrap ((YE .u64 a 32)*(YD .u64 b 4294967295)))+(YE .u64 (IntKind.u64.wrap ((YD .u64 a 4294967295)*(YD .u64 b 4294967295))) 32))) 4294967295)+(IntKind.u64.wrap ((YD .u64 a 4294967295)*(YE .u64 b 32))))) 32))),.int .u64 (IntKind.u64.wrap (a*b))]) r:=by
 refine Qb func80 Z Z Z ?_;refine G0 14 Z (Cd [] h (k_fr _ _ _) Z λr1 c h=>FE Z (Go 16 Z ?_));obtain rfl:=Oi h;exact R2 4 5 Z Z (Lr [])
def F_kk(n:Nat)(a:(List Int)×Int):Option (Ctl ((List Int)×Int) (List Int)):=
  (bif decide (a.2<(a.1.length:Int))then(slc a.1 a.2 (a.1.length:Int)).bind λd=>(slc a.1 0 a.2).bind λb=>(cpy a.1 a.2 (a.1.length:Int) b).bind λc=>some (.cont (c,IntKind.i64.wrap (a.2+((min b.length ((a.1.length:Int).toNat-a.2.toNat):Nat):Int))))else some (.done a.1))
def F_cd(n:Nat)(a:List Int)(b:Int):Option (List Int):=
  ((bif decide (b<0)then none else some ()):Option Unit).bind λh=>(F_ew n (IntKind.u64.wrap (a.length:Int)) (IntKind.u64.wrap b)).bind λi=>((bif decide (0<(IntKind.u64.wrap ((IntKind.u64.wrap ((IntKind.u64.wrap ((YE .u64 (IntKind.u64.wrap (a.length:Int)) 32)*(YE .u64 (IntKind.u64.wrap b) 32)))+(YE .u64 (IntKind.u64.wrap ((IntKind.u64.wrap ((YE .u64 (IntKind.u64.wrap (a.length:Int)) 32)*(YD .u64 (IntKind.u64.wrap b) 4294967295)))+(YE .u64 (IntKind.u64.wrap ((YD .u64 (IntKind.u64.wrap (a.length:Int)) 4294967295)*(YD .u64 (IntKind.u64.wrap b) 4294967295))) 32))) 32)))+(YE .u64 (IntKind.u64.wrap ((YD .u64 (IntKind.u64.wrap ((IntKind.u64.wrap ((YE .u64 (IntKind.u64.wrap (a.length:Int)) 32)*(YD .u64 (IntKind.u64.wrap b) 4294967295)))+(YE .u64 (IntKind.u64.wrap ((YD .u64 (IntKind.u64.wrap (a.length:Int)) 4294967295)*(YD .u64 (IntKind.u64.wrap b) 4294967295))) 32))) 4294967295)+(IntKind.u64.wrap ((YD .u64 (IntKind.u64.wrap (a.length:Int)) 4294967295)*(YE .u64 (IntKind.u64.wrap b) 32))))) 32))))then some true else some (decide (9223372036854775807<(IntKind.u64.wrap ((IntKind.u64.wrap (a.length:Int))*(IntKind.u64.wrap b)))))):Option Bool).bind λf=>((bif f then none else some ()):Option Unit).bind λg=>(mk (IntKind.i64.wrap (IntKind.u64.wrap ((IntKind.u64.wrap (a.length:Int))*(IntKind.u64.wrap b)))) 0).bind λc=>(cpy c 0 (c.length:Int) a).bind λd=>(iter (F_kk n) n (d,((min a.length c.length:Nat):Int)):Option (List Int)).bind λe=>some e
theorem k_cd(n:Nat)(u:List Int)(w:Int)(r:List Int)(h:F_cd n u w=some r):
    C prog 49 [.rsl 1 (List.map (Qd .i64) u),I w] [] (RQ (λr=>.osl 0 0 r.length 1) (λr=>[.row 3 1 (List.map (Qd .i64) r)]) r):=by
 refine Qb func49 Z Z Z ?_;refine G0 12 Z (Bd h λP p h=>?_);refine Ct P [] [0,1] Ze Ze Zf ?_ (λenv H g=>?_)
 .refine G0 0 Z (Cn Z p (λG p=>?_) (λG p=>?_))
  .cases p
  exact Gc 1 Z (Cl p [])
 refine Gx 1 Z (Ef g (Gc 3 Z (Lm Z ?_)));refine vX (.int .u64 (IntKind.u64.wrap (u.length:Int))) (QeW Z runUnderlying3 runUnderlying172 Z) ?_;refine Go 1 Z ?_;refine vX (.int .u64 (IntKind.u64.wrap w)) (QeW Z runUnderlying3 runUnderlying172 Z) ?_;refine Cd [] h (k_ew _ _ _) Z λX Q h=>FE Z (Go 9 Z (Bd h λy q h=>?_));refine Ct y [] [0,6] (λy=>[(26,.bool y)]) Ze Zf ?_ (λenv H g=>?_)
 .refine G0 4 Z (Is 23 q Z (λJ q=>?_) (λJ q=>?_))
  .exact Go 4 Z (Cl q [])
  .exact Go 4 Z (Cl q [])
 refine Gx 1 Z (Ef g (Bd h λL k h=>?_));refine Ct L [] [0,6] Ze Ze Zf ?_ (λenv H g=>?_)
 .refine G0 0 Z (Cn Z k (λz k=>?_) (λz k=>?_))
  .cases k
  exact Gc 1 Z (Cl k [])
 refine Gx 1 Z (Ef g (Gc 3 Z ?_));refine vV (x:=(I (IntKind.i64.wrap (IntKind.u64.wrap ((IntKind.u64.wrap (u.length:Int))*(IntKind.u64.wrap w)))))) (QeW Z runUnderlying172 runUnderlying3 Z) ?_;refine Bd h λR B h=>?_;refine vH (QnO (e:=(Qd .i64)) (zv:=0) (a:=(I 0)) B Qv zeroValue3 Eo Z Z Z Z) ?_;refine FE Z (Go 7 Z (Bd h λT j h=>?_));refine vH (QkD (e:=(Qd .i64)) j runUnderlying32 sizeOf3 QnK) ?_;refine FE Z ?_;refine Et (Qu (s:=7) Z (congrArg (λn=>A.osl 0 0 n 1) (QeG j))) ?_;refine Et (Qu (s:=30) Z (congrArg (λn=>A.osl 0 0 n 1) (QeG j))) ?_;refine Et (Qu (s:=31) Z (congrArg (λn=>A.osl 0 0 n 1) (QeG j))) ?_;refine Go 4 Z (Bd h λm M h=>?_);refine Ct m [0] [] (λm=>[(7,.osl 0 0 m.length 1)]) (λm=>[(0,.row 3 1 (List.map (Qd .i64) m))]) Zf ?_ (λenv H g=>?_)
 .refine G0 1 Z ?_;refine Lp [0] [] (λc=>[(7,.osl 0 0 c.1.length 1),(8,I c.2)]) (λc=>[(0,.row 3 1 (List.map (Qd .i64) c.1))]) M Zf (Lr [0]) λc V d E=>?_;refine G0 9 Z (Ya Z d (λF d=>?_) (λF d=>?_))
  .refine Gc 2 Z (Qk d ?_);obtain rfl:=Oj E d;exact Gx 1 Z (Q1 (Lr [0]))
  refine Gc 3 Z (DKs 8 [7] [(0,0,1),(0,0,0),(0,0,0),(0,0,0),(0,0,0),(0,0,0),(0,0,0),(1,0,0)] (by kernel_rfl) (Dk 3 Z ?_));obtain⟨W,f,d⟩:=YP d;refine DK.wo (x:=.osl 0 (0+Int.toNat c.2) (Int.toNat (c.1.length:Int)-Int.toNat c.2) 1) ?_ ?_
  .refine vX (.osl 0 (0+Int.toNat c.2) (Int.toNat (c.1.length:Int)-Int.toNat c.2) 1) (QfQ (l:=c.1) f runUnderlying32 sizeOf3 (.inr ⟨_,Z,Z⟩) (.inl ⟨Z,Z⟩)) ?_;exact Wp
  refine Dk 2 Z ?_;obtain⟨N,t,d⟩:=YP d;refine DK.wo (x:=.osl 0 (0+Int.toNat 0) (Int.toNat c.2-Int.toNat 0) 1) ?_ ?_
  .refine vX (.osl 0 (0+Int.toNat 0) (Int.toNat c.2-Int.toNat 0) 1) (QfQ (l:=c.1) t runUnderlying32 sizeOf3 (.inl ⟨Z,Z⟩) (.inr ⟨_,Z,Z⟩)) ?_;exact Wp
  obtain⟨O,i,d⟩:=YP d;refine DK.op (x:=I ((min N.length ((c.1.length:Int).toNat-c.2.toNat):Nat):Int)) (X1:=[.row 3 1 (List.map (Qd .i64) O)]) ?_ ?_
  .refine vH (QkE (e:=(Qd .i64)) f i runUnderlying32 sizeOf3 (QnL (b:=0) t)) ?_;exact FE Z Wp
  refine DK.done Z Z ?_;refine Et (Qu (s:=7) Z (congrArg (λn=>A.osl 0 0 n 1) (QdH f i))) ?_;refine Et (Qu (s:=35) Z (congrArg (λn=>A.osl 0 0 n 1) (QdH f i))) ?_;refine Et (Qu (s:=39) Z (congrArg (λn=>A.osl 0 0 n 1) (QdH f i))) ?_;refine Et (Qu (s:=42) Z (congrArg (λn=>A.osl 0 0 n 1) (QdH f i))) ?_;exact Go 4 Z (Qj d (Lr [0]))
 exact Gx 1 Z (Ef g (Gc 7 Z (Rt h 4 [0])))
def F_ez(n:Nat)(a:Int)(b:List Int)(c:Int):Option Unit:=
  some ()
theorem k_ez(n:Nat)(a:Int)(b:List Int)(c:Int)(r:Unit)(h:F_ez n a b c=some r):
    C prog 76 [I a,.rsl 1 (List.map (Qd .i64) b),I c] [] (RQ (λ_=>.fn (.func 126) [] [.ptr 0 0,.ptr 1 0,.ptr 2 0]) (λ_=>[.cells 32 [.rsl 1 (List.map (Qd .i64) b)],.cells 3 [I a],.cells 3 [I c]]) r):=by
 refine Qb func76 Z Z Z ?_;refine G0 3 Z ?_;refine vH (OpH.box Z Z Z Z Z) ?_;exact FE Z (Go 11 Z (Rt h 6 [1,0,2]))
def F_hs(n:Nat)(d:List Int)(e:Int)(b:Int)(a:Int):Option ((List money_part)×Ctl Int Unit):=
  (bif decide (a<(d.length:Int))then(idx d a).bind λc=>(nz b).bind λf=>(nz b).bind λg=>yl ({index:=a,cents:=IntKind.i64.wrap (Int.tdiv (IntKind.i64.wrap (e*c)) b),rest:=Int.tmod (IntKind.i64.wrap (e*c)) b:money_part}) (some ([],.cont (IntKind.i64.wrap (a+1))))else some ([],.done ()))
def F_fi(n:Nat)(a:List Int)(b:Int)(c:Int):Option ((List money_part)×Unit):=
  ap (Qbm (F_hs n a b c) n 0) λd=>some ([],())
theorem k_fi(n:Nat)(q:List Int)(d:Int)(f:Int)(p:(List money_part)×Unit)(h:F_fi n q d f=some p):
    Qdx prog 126 [.ptr 0 0,.ptr 1 0,.ptr 2 0] [.cells 32 [.rsl 1 (List.map (Qd .i64) q)],.cells 3 [I d],.cells 3 [I f]] (λx=>[.agg (money_part.c x)]) nxL p.1:=by
 obtain⟨xs,u⟩:=p;refine Qam func126 Z Z Z Z ?_;intro X hE hN;refine Gy0 1 Z (TCy.lf ?_);refine G0 2 Z (Lm Z (Go 2 Z ?_));refine Gyx 1 Z ?_;obtain⟨z,r,s,t,w,rfl⟩:=Qjq h;rw[Vq];refine QcC r (s++[]) [0,1,2] [0] Ze Ze Zf ?_ (λenv H B=>?_)
 .refine Gy0 1 Z ?_;refine Qgt [0,1,2] [0,2,3,7,8] (λg=>[(9,I g)]) Ze t Zf (Lr [0,1,2]) λg E F G a i=>?_;refine Gy0 1 Z (TCy.lf ?_);refine G0 3 Z ?_;refine Gyx 2 Z (TCy.lf ?_);refine G0 0 Z (Ya Z a (λj a=>?_) (λj a=>?_))
  .refine Gc 1 Z ?_;refine Gyx 1 Z ?_;obtain⟨rfl,rfl,rfl⟩:=Oy i a;exact Qf8 (Gyx 1 Z (Qjn (Lr [0,1,2])))
  refine Gc 1 Z ?_;refine Gyx 4 Z (TCy.lf ?_);refine G0 2 Z (Bd a λb k a=>Iz k Z (Go 4 Z ?_));refine Gyx 2 Z (DSy 13 Z (D 6 Z ?_));obtain⟨J,l,a⟩:=YP a;refine DS.v (x:=(I (IntKind.i64.wrap (Int.tdiv (IntKind.i64.wrap (d*b)) f)))) (OpV.quo Z Z Z (Qn3 l)) ?_;refine D 4 Z ?_;obtain⟨L,m,a⟩:=YP a;refine DS.v (x:=(I (Int.tmod (IntKind.i64.wrap (d*b)) f))) (OpV.rem Z Z Z (Qn3 m)) ?_;refine D 1 Z (Eh Z ?_);obtain⟨M,y,rfl⟩:=QiI a;refine Qmt (x:={index:=g,cents:=IntKind.i64.wrap (Int.tdiv (IntKind.i64.wrap (d*b)) f),rest:=Int.tmod (IntKind.i64.wrap (d*b)) f:money_part}) (e:=λx=>.agg (money_part.c x)) hE hN Z Z Z Z ?_ ?_
  .refine Gyo 3 Z (TCy.lf ?_);refine G0 2 Z ?_;refine Gyx 2 Z (TCy.lf ?_);refine G0 4 Z ?_;exact Gyx 0 Z (Qeh y (Lr [0,1,2]))
  .exact Gyo 7 Z (Qf9 (Gyx 1 Z (Qjm (⟨.inr Z,.inr ⟨_,Z⟩⟩))))
 cases w;exact⟨.inl Z,.inl Z⟩
def F_t(n:Nat)(a:money_part)(b:money_part):Option Int:=
  (F_e n b.rest a.rest).bind λr1=>(F_e n a.index b.index).bind λr2=>(F_n n [r1,r2]).bind λc=>some c
theorem k_t(n:Nat)(a:money_part)(b:money_part)(r:Int)(h:F_t n a b=some r):
    Csm prog 78 [.agg (money_part.c a),.agg (money_part.c b)] [] (λr=>I r) r:=by
 refine Qb func78 Z Z Z ?_;refine G0 8 Z (DSs 9 Z (D 4 Z ?_));refine Dz [] h (k_e _ _ _) Z λr1 d h=>D 4 Z (Eh Z (Cz [] h (k_e _ _ _) Z λr2 e h=>?_));refine vH (QcN (xs:=[.tmp 9,.tmp 14]) (es:=List.map (Qd .i64) [r1,r2]) Qv Z Z Z Z Z ⟨Z,Z,trivial⟩ Z Z) ?_;exact FE Z (Cz [] h (k_n _ _) Z λg f h=>Go 4 Z (Rt h 4 []))
def F_fm(n:Nat)(a:List Int):Option (List Int):=
  isNil a (some []) ((app ([]:List Int) a).bind λb=>some b)
theorem k_fm(n:Nat)(a:List Int)(r:List Int)(h:F_fm n a=some r):
    C prog 79 [.rsl 1 (List.map (Qd .i64) a)] [] (RQ (λr=>.osl 0 0 r.length 1) (λr=>[.row 3 1 (List.map (Qd .i64) r)]) r):=by
 refine Qb func79 Z Z Z ?_;refine G0 9 Z ?_;refine Qmv (e:=(Qd .i64)) (l:=a) underlying32 Z (λb c=>?_);have hkb1:=QlL h b c;cases b
 .have h:=hkb1.2 Z;refine Go 7 Z ?_;refine vH (El (xs:=[]) (es:=List.map (Qd .i64) []) Qv Z Z Z Z Z trivial Z Z) ?_;refine FE Z (Go 1 Z (Bd h λf d h=>?_));refine vH (QM (e:=(Qd .i64)) d Qv runUnderlying32 Qgu) ?_;exact FE Z (Go 4 Z (Rt h 2 [1]))
 .have h:=hkb1.1 Z;refine Go 10 Z ?_;obtain rfl:=Oi h;refine R1 2 Z ?_;refine En (Er (s:=2) (k:=1) (t:=3) (XY Z) Z) ?_;exact Lr [0]
end Go.Sw
