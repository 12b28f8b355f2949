/- What the functions compute that PrizesCandidatesSpec reaches, and that their calls refine it (part 2 of 3). -/
import Derived.Test.YtkfjchmhgpkcbaaGreatW31Ca1
set_option linter.unusedVariables false
set_option linter.unusedSimpArgs false
set_option maxRecDepth 100000
set_option maxHeartbeats 4000000
namespace Go.Sw
open Go.Proofs Tryz
def F_da(n:Nat)(c:List Int)(a:Int):Option (Ctl Int (Ctl Unit Int)):=
  (bif decide (a<(c.length:Int))then(idx c a).bind fun b=>(bif (b != 0)then some (.done (.done b))else some (.cont (IntKind.i64.wrap (a+1))))else some (.done (.cont ())))
def F_f(n:Nat)(b:List Int):Option Int:=
  (iter (F_da n b) n 0:Option (Ctl Unit Int)).bind fun c=>match c with|.cont a=>(some 0)|.done a=>some a
theorem k_f(n:Nat)(i:List Int)(r:Int)(h:F_f n i=some r):
    Csm prog 86 [.rsl 1 (List.map (Qd .i64) i)] [] (fun r=>I r) r:=by
 refine Qa func86 Z Z Z ?_
 refine G0 14 Z (Lm Z (Go 3 Z (Bd h fun l m h=>?_)))
 refine YS (b:=l) [] [3] (fun _=>[]) (fun _=>[]) (fun _=>rfl) ?_ (fun p env H j k=>?_)
 ·refine G0 1 Z ?_
  refine Lp [] [3,6,7] (fun d=>[(8,I d)]) (fun _=>[]) m (fun _=>rfl) (Lr []) fun d q a c=>?_
  refine G0 6 Z (Yc Z a (fun e a=>?_) (fun e a=>?_))
  ·refine Gc 2 Z (Qj a ?_)
   obtain rfl:=Oj c a
   exact Gx 1 Z (Qm Z (Lr []))
  refine Gc 6 Z (Bd a fun s f a=>Iz f Z (Go 11 Z (Cn Z a (fun g a=>?_) (fun g a=>?_))))
  ·refine Gc 9 Z (Ql a ?_)
   obtain rfl:=Oj c a
   exact Gx 1 Z (Qk (Gx 1 Z (Rt h 2 [])))
  exact Gc 7 Z (Qi a (Lr []))
 subst j
 exact Gx 1 Z (TC.le k (Gc 7 Z (Rt h 2 [])))
def F_cz(n:Nat)(a:clocks_place)(b:clocks_place):Option Int:=
  (F_b n a.mat b.mat).bind fun c=>(F_b n a.epoch b.epoch).bind fun d=>(F_f n [c,d]).bind fun e=>some e
theorem k_cz(n:Nat)(a:clocks_place)(b:clocks_place)(r:Int)(h:F_cz n a b=some r):
    Csm prog 257 [.agg (clocks_place.c a),.agg (clocks_place.c b)] [] (fun r=>I r) r:=by
 refine Qa func257 Z Z Z ?_
 refine G0 8 Z (DSs 9 Z (D 4 Z ?_))
 refine Dz [] h (k_b _ _ _) Z fun d f h=>D 4 Z (DS.done Z (Cz [] h (k_b _ _ _) Z fun e g h=>?_))
 refine vH (QdH (xs:=[.tmp 9,.tmp 14]) (es:=List.map (Qd .i64) [d,e]) Qw Z Z Z Z Z ⟨Z,Z,trivial⟩ Z Z) ?_
 exact FE Z (Cz [] h (k_f _ _) Z fun j i h=>Go 4 Z (Rt h 4 []))
def F_al(n:Nat)(a:Segment)(b:Segment):Option Int:=
  (F_cz n ({mat:=a.Mat,epoch:=a.Epoch:clocks_place}) ({mat:=b.Mat,epoch:=b.Epoch:clocks_place})).bind fun c=>some c
theorem k_al(n:Nat)(a:Segment)(b:Segment)(r:Int)(h:F_al n a b=some r):
    Csm prog 207 [.agg (Segment.c a),.agg (Segment.c b)] [] (fun r=>I r) r:=by
 refine Qa func207 Z Z Z ?_
 exact G0 19 Z (Cz [] h (k_cz _ _ _) Z fun e d h=>Go 4 Z (Rt h 4 []))
def F_ak(n:Nat)(a:Int):Option Bool:=
  ((bif decide (a<(-2199023255552))then some true else some (decide (2199023255552<a))):Option Bool).bind fun b=>some b
theorem k_ak(n:Nat)(c:Int)(r:Bool)(h:F_ak n c=some r):
    Csm prog 208 [I c] [] (fun r=>.bool r) r:=by
 refine Qa func208 Z Z Z ?_
 refine G0 6 Z (Bd h fun b a h=>?_)
 refine Ct b [] [] (fun b=>[(2,.bool b)]) (fun _=>[]) (fun _=>rfl) ?_ (fun env H d=>?_)
 ·refine G0 4 Z (Is 5 a Z (fun e a=>?_) (fun e a=>?_))
  ·exact Go 5 Z (Cl a [])
  ·exact Go 5 Z (Cl a [])
 exact Gx 1 Z (TC.le d (Gc 1 Z (Rt h 2 [])))
def F_kr(n:Nat)(b:List Int)(a:Int):Option (Ctl Int (Ctl Unit Int)):=
  (bif decide (a<(b.length:Int))then(idx b a).bind fun c=>(F_ak n c).bind fun d=>(bif d then some (.done (.done a))else some (.cont (IntKind.i64.wrap (a+1))))else some (.done (.cont ())))
def F_df(n:Nat)(c:List Int):Option Int:=
  (iter (F_kr n c) n 0:Option (Ctl Unit Int)).bind fun b=>match b with|.cont a=>(some (-1))|.done a=>some a
theorem k_df(n:Nat)(a:List Int)(r:Int)(h:F_df n a=some r):
    Csm prog 226 [.rsl 1 (List.map (Qd .i64) a),.fn (.func 208) [] []] [] (fun r=>I r) r:=
 QE (el:=fun x=>I x) (g:=fun x=>F_ak n x) func226 Z Z Z runUnderlying32 sizeOf3 (fun _ _ _ _ b c=>OpV.load b isAgg3 c Pts.rp) call208 (fun _ _ h=>k_ak _ _ _ h) h
def F_ap(n:Nat)(a:List Int):Option Bool:=
  (F_df n a).bind fun b=>some (decide (0<=b))
theorem k_ap(n:Nat)(a:List Int)(r:Bool)(h:F_ap n a=some r):
    Csm prog 147 [.rsl 1 (List.map (Qd .i64) a),.fn (.func 208) [] []] [] (fun r=>.bool r) r:=by
 refine Qa func147 Z Z Z ?_
 exact G0 9 Z (Cz [] h (k_df _ _) Z fun c b h=>Go 5 Z (Rt h 4 []))
def F_fu(n:Nat)(c:Clocks)(b:Int):Option (Ctl Int (Ctl Unit Int)):=
  (bif decide (b<(c.Segments.length:Int))then(idx c.Segments b).bind fun a=>((bif decide (a.Mat<0)then some true else(bif decide (40<=a.Mat)then some true else(bif decide (a.Epoch<0)then some true else(bif decide (255<a.Epoch)then some true else(F_ae n a.Anchor).bind fun d=>(bif (!d)then some true else(bif decide (0<b)then(idx c.Segments (IntKind.i64.wrap (b-1))).bind fun e=>(F_al n e a).bind fun f=>some (decide (0<=f))else some false)))))):Option Bool).bind fun g=>(bif g then some (.done (.done 160))else some (.cont (IntKind.i64.wrap (b+1))))else some (.done (.cont ())))
def F_fr(n:Nat)(c:Clocks)(a:Int):Option (Ctl Int (Ctl Unit Int)):=
  (bif decide (a<(c.Far.length:Int))then(idx c.Far a).bind fun b=>((bif ((b.length:Int) != (IntKind.i64.wrap ((c.Segments.length:Int)+1)))then some true else(idx b a).bind fun d=>(bif (d != 0)then some true else(F_ap n b).bind fun e=>some e)):Option Bool).bind fun f=>(bif f then some (.done (.done 160))else some (.cont (IntKind.i64.wrap (a+1))))else some (.done (.cont ())))
def F_iy(n:Nat)(h:Clocks)(c:Int)(d:Int)(b:List Int)(a:Int):Option (Ctl Int (Ctl Unit (Ctl Int (Ctl Unit (Ctl Int (Ctl Unit Int)))))):=
  (bif decide (a<(b.length:Int))then(idx b a).bind fun e=>(idx h.Far c).bind fun f=>(idx f a).bind fun g=>(bif decide ((IntKind.i64.wrap (d+e))<g)then some (.done (.done (.done (.done (.done (.done 160))))))else some (.cont (IntKind.i64.wrap (a+1))))else some (.done (.cont ())))
def F_je(n:Nat)(h:Clocks)(d:Int)(c:List Int)(a:Int):Option (Ctl Int (Ctl Unit (Ctl Int (Ctl Unit Int)))):=
  (bif decide (a<(c.length:Int))then(idx c a).bind fun e=>(idx h.Far a).bind fun f=>(iter (F_iy n h d e f) n 0:Option (Ctl Unit (Ctl Int (Ctl Unit (Ctl Int (Ctl Unit Int)))))).bind fun g=>match g with|.cont b=>(some (.cont (IntKind.i64.wrap (a+1))))|.done b=>some b else some (.done (.cont ())))
def F_gs(n:Nat)(c:Clocks)(a:Int):Option (Ctl Int (Ctl Unit Int)):=
  (bif decide (a<(IntKind.i64.wrap ((c.Segments.length:Int)+1)))then(idx c.Far a).bind fun d=>(iter (F_je n c a d) n 0:Option (Ctl Unit (Ctl Int (Ctl Unit Int)))).bind fun e=>match e with|.cont b=>(some (.cont (IntKind.i64.wrap (a+1))))|.done b=>some b else some (.done (.cont ())))
def F_s(n:Nat)(c:Clocks):Option Int:=
  ((bif decide (511<(c.Segments.length:Int))then some true else some ((c.Far.length:Int) != (IntKind.i64.wrap ((c.Segments.length:Int)+1)))):Option Bool).bind fun h=>(bif h then some 160 else(iter (F_fu n c) n 0:Option (Ctl Unit Int)).bind fun g=>match g with|.cont d=>((iter (F_fr n c) n 0:Option (Ctl Unit Int)).bind fun e=>match e with|.cont a=>((iter (F_gs n c) n 0:Option (Ctl Unit Int)).bind fun f=>match f with|.cont b=>(some 0)|.done b=>some b)|.done a=>some a)|.done d=>some d)
theorem k_s(n:Nat)(a1:Clocks)(r:Int)(h:F_s n a1=some r):
    Csm prog 119 [.agg (Clocks.c a1)] [] (fun r=>I r) r:=by
 refine Qa func119 Z Z Z ?_
 refine G0 10 Z (Lm Z (Go 5 Z (Bd h fun b2 z h=>?_)))
 refine Ct b2 [0] [1,3] (fun b2=>[(25,.bool b2)]) (fun _=>[]) (fun _=>rfl) ?_ (fun env H k=>?_)
 ·refine G0 4 Z (Is 18 z Z (fun bb z=>?_) (fun bb z=>?_))
  ·exact Go 8 Z (Cl z [0])
  ·exact Go 2 Z (Lm Z (Go 5 Z (Cl z [0])))
 refine Gx 1 Z (TC.le k (Cn Z h (fun bc h=>?_) (fun bc h=>?_)))
 ·exact Gc 7 Z (Rt h 2 [])
 refine Gc 7 Z (Lm Z (Go 3 Z (Bd h fun bd be h=>?_)))
 refine YS (b:=bd) [0] [1,3] (fun _=>[]) (fun _=>[]) (fun _=>rfl) ?_ (fun bk env H p k=>?_)
 ·refine G0 1 Z ?_
  refine Lp [0] [1,3,27,28] (fun af=>[(29,I af)]) (fun _=>[]) be (fun _=>rfl) (Lr [0]) fun af cb m B=>?_
  refine G0 6 Z (Yc Z m (fun ag m=>?_) (fun ag m=>?_))
  ·refine Gc 2 Z (Qj m ?_)
   obtain rfl:=Oj B m
   exact Gx 1 Z (Qm Z (Lr [0]))
  refine Gc 7 Z (Bd m fun cc ah m=>Iz ah Z (Go 7 Z (Bd m fun E a m=>?_)))
  refine Ct E [0] [1,3,27,28,29] (fun E=>[(72,.bool E)]) (fun _=>[]) (fun _=>rfl) ?_ (fun env H k=>?_)
  ·refine G0 0 Z (DSs 35 Z (D 4 Z (Yb 3 a Z Z Z (fun ai a=>?_) (fun ai a=>?_))))
   ·exact D 31 Z (DS.done Z (Go 5 Z (Cl a [0])))
   ·refine D 5 Z (Yb 8 a Z Z Z (fun aj a=>?_) (fun aj a=>?_))
    ·exact D 26 Z (DS.done Z (Go 5 Z (Cl a [0])))
    ·refine D 5 Z (Yb 13 a Z Z Z (fun ak a=>?_) (fun ak a=>?_))
     ·exact D 21 Z (DS.done Z (Go 5 Z (Cl a [0])))
     ·refine D 5 Z (Yb 18 a Z Z Z (fun al a=>?_) (fun al a=>?_))
      ·exact D 16 Z (DS.done Z (Go 5 Z (Cl a [0])))
      ·refine D 2 Z ?_
       refine Dz [] a (k_ae _ _) Z fun cd bl a=>D 3 Z (Yb 24 a Z Z Z (fun am a=>?_) (fun am a=>?_))
       ·exact D 10 Z (DS.done Z (Go 5 Z (Cl a [0])))
       ·refine D 3 Z (Yb 27 a Z Z Z (fun an a=>?_) (fun an a=>?_))
        ·refine D 4 Z ?_
         obtain⟨s,ao,a⟩:=Yy a
         refine DS.v (x:=(.rp [I s.Mat,I s.Epoch,I s.Anchor])) (Yh (e:=Segment.c) (l:=a1.Segments) (v:=s) ao runUnderlying22 sizeOf198) ?_ (hg:=(gT Z))
         exact D 2 Z (DS.done Z (Cz [] a (k_al _ _ _) Z fun ce bm a=>Go 4 Z (Cl a [0])))
        ·exact D 7 Z (DS.done Z (Go 5 Z (Cl a [0])))
  refine Gx 1 Z (TC.le k (Cn Z m (fun aq m=>?_) (fun aq m=>?_)))
  ·refine Gc 8 Z (Ql m ?_)
   obtain rfl:=Oj B m
   exact Gx 1 Z (Qk (Gx 1 Z (Rt h 2 [])))
  exact Gc 7 Z (Qi m (Lr [0]))
 subst p
 refine Gx 1 Z (TC.le k (Gc 5 Z (Lm Z (Go 3 Z (Bd h fun ar au h=>?_)))))
 refine YS (b:=ar) [0] [1,3] (fun _=>[]) (fun _=>[]) (fun _=>rfl) ?_ (fun bf env H p k=>?_)
 ·refine G0 1 Z ?_
  refine Lp [0] [1,3,75,76] (fun F=>[(77,I F)]) (fun _=>[]) au (fun _=>rfl) (Lr [0]) fun F bn f t=>?_
  refine G0 6 Z (Yc Z f (fun M f=>?_) (fun M f=>?_))
  ·refine Gc 2 Z (Qj f ?_)
   obtain rfl:=Oj t f
   exact Gx 1 Z (Qm Z (Lr [0]))
  refine Gc 7 Z (Bd f fun bo N f=>Iz N Z (Go 6 Z (Bd f fun q i f=>?_)))
  refine Ct q [0] [1,3,75,76,77] (fun q=>[(97,.bool q)]) (fun _=>[]) (fun _=>rfl) ?_ (fun env H k=>?_)
  ·refine G0 2 Z (Lm Z (Go 4 Z (Is 87 i Z (fun O i=>?_) (fun O i=>?_))))
   ·exact Go 11 Z (Cl i [0])
   ·refine Go 2 Z (Bd i fun bp P i=>Iz P Z (Go 4 Z (Is 94 i Z (fun Q i=>?_) (fun Q i=>?_))))
    ·exact Go 4 Z (Cl i [0])
    ·exact Go 1 Z (Cz [] i (k_ap _ _) Z fun bq bg i=>Go 2 Z (Cl i [0]))
  refine Gx 1 Z (TC.le k (Cn Z f (fun R f=>?_) (fun R f=>?_)))
  ·refine Gc 8 Z (Ql f ?_)
   obtain rfl:=Oj t f
   exact Gx 1 Z (Qk (Gx 1 Z (Rt h 2 [])))
  exact Gc 7 Z (Qi f (Lr [0]))
 subst p
 refine Gx 1 Z (TC.le k (Gc 8 Z (Bd h fun av aw h=>?_)))
 refine YS (b:=av) [] [] (fun _=>[]) (fun _=>[]) (fun _=>rfl) ?_ (fun bh env H p k=>?_)
 ·refine G0 1 Z ?_
  refine Lp [0] [1,100] (fun G=>[(101,I G)]) (fun _=>[]) aw (fun _=>rfl) (Lr [0]) fun G br j u=>?_
  refine G0 6 Z (Yc Z j (fun T j=>?_) (fun T j=>?_))
  ·refine Gc 2 Z (Qj j ?_)
   obtain rfl:=Oj u j
   exact Gx 1 Z (Qm Z (Lr []))
  refine Gc 15 Z (Bd j fun bs V j=>Iz V Z (Go 1 Z (Lm Z (Go 3 Z (Bd j fun ax ay j=>?_)))))
  refine YS (b:=ax) [0] [1,100,101] (fun _=>[]) (fun _=>[]) (fun _=>rfl) ?_ (fun bi env H p k=>?_)
  ·refine G0 1 Z ?_
   refine Lp [0] [1,8,100,101,108,109] (fun J=>[(110,I J)]) (fun _=>[]) ay (fun _=>rfl) (Lr [0]) fun J bt g w=>?_
   refine G0 6 Z (Yc Z g (fun W g=>?_) (fun W g=>?_))
   ·refine Gc 2 Z (Qj g ?_)
    obtain rfl:=Oj w g
    exact Gx 1 Z (Qm Z (Lr [0]))
   refine Gc 7 Z (Bd g fun bu X g=>Iz X Z (Go 10 Z (Bd g fun bv Y g=>Iz Y Z (Go 1 Z (Lm Z (Go 3 Z (Bd g fun az ba g=>?_)))))))
   refine YS (b:=az) [0] [1,8,100,101,108,109,110] (fun _=>[]) (fun _=>[]) (fun _=>rfl) ?_ (fun bj env H p k=>?_)
   ·refine G0 1 Z ?_
    refine Lp [0] [1,8,10,100,101,108,109,110,119,120] (fun L=>[(121,I L)]) (fun _=>[]) ba (fun _=>rfl) (Lr [0]) fun L bw d y=>?_
    refine G0 6 Z (Yc Z d (fun aa d=>?_) (fun aa d=>?_))
    ·refine Gc 2 Z (Qj d ?_)
     obtain rfl:=Oj y d
     exact Gx 1 Z (Qm Z (Lr [0]))
    refine Gc 7 Z (Bd d fun bx ab d=>Iz ab Z (Go 10 Z (Bd d fun bz ac d=>Iz ac Z (Go 2 Z (Bd d fun ca ad d=>Iz ad Z (Go 7 Z (Cn Z d (fun ae d=>?_) (fun ae d=>?_))))))))
    ·refine Gc 8 Z (Ql d ?_)
     obtain rfl:=Oj y d
     refine Gx 1 Z (Qk (Gx 2 Z (Ql g ?_)))
     obtain rfl:=Oj w g
     refine Gx 1 Z (Qk (Gx 2 Z (Ql j ?_)))
     obtain rfl:=Oj u j
     exact Gx 1 Z (Qk (Gx 1 Z (Rt h 2 [])))
    exact Gc 7 Z (Qi d (Lr [0]))
   subst p
   exact Gx 2 Z (TC.le k (Gc 4 Z (Qi g (Lr [0]))))
  subst p
  exact Gx 2 Z (TC.le k (Gc 4 Z (Qi j (Lr [0]))))
 subst p
 exact Gx 1 Z (TC.le k (Gc 6 Z (Rt h 2 [])))
def F_co(n:Nat)(a:Int):Option (List Outcome):=
  ((bif decide (a<0)then none else some ()):Option Unit).bind fun d=>((bif decide (0<(IntKind.i64.wrap (a-0)))then(room (IntKind.i64.wrap (a-0))).bind fun c=>some ([]:List Outcome)else some []):Option (List Outcome)).bind fun b=>some b
theorem k_co(n:Nat)(i:Int)(r:List Outcome)(h:F_co n i=some r):
    C prog 209 [.nils,I i] [] (RQ (fun r=>.osl 0 0 r.length 4) (fun r=>[.row 146 4 (List.map Outcome.c r)]) r):=by
 refine Qa func209 Z Z Z ?_
 refine G0 12 Z (Bd h fun p b h=>?_)
 refine Ct p [] [0,1] (fun _=>[]) (fun _=>[]) (fun _=>rfl) ?_ (fun env H d=>?_)
 ·refine G0 0 Z (Cn Z b (fun j b=>?_) (fun j b=>?_))
  ·cases b
  exact Gc 1 Z (Cl b [])
 refine Gx 1 Z (TC.le d (Gc 5 Z ?_))
 refine vX (I 0) (QfF runUnderlying88) ?_
 refine Go 1 Z ?_
 refine vX (I 0) (QfD Z Z runUnderlying88 Z) ?_
 refine vX (I 0) (OpV.sub (m:=0) (n:=0) Z Z Z) ?_
 refine Go 10 Z (Bd h fun f a h=>?_)
 refine Ct f [0] [] (fun f=>[(0,.osl 0 0 f.length 4)]) (fun f=>[(0,.row 146 4 (List.map Outcome.c f))]) (fun _=>rfl) ?_ (fun env H d=>?_)
 ·refine G0 0 Z (Cn Z a (fun l a=>?_) (fun l a=>?_))
  ·refine Gc 3 Z ?_
   refine vX (I 0) (QfF runUnderlying88) ?_
   refine vV (x:=.nils) (QhC runUnderlying88 sizeOf146) ?_
   refine Go 1 Z (Bd a fun q g a=>?_)
   refine vH (Qjg (e:=Outcome.c) g QiR runUnderlying3) ?_
   refine FE Z (Go 1 Z ?_)
   refine vX (I 0) (QfD Z Z runUnderlying88 Z) ?_
   refine vX (.osl 0 0 (([]:List Outcome).length) 4) (Qjb runUnderlying88 sizeOf146) ?_
   exact Go 2 Z (Cl a [0])
  refine Gc 1 Z ?_
  cases a
  refine QT ?_
  refine Le.trans (Le.phantom (s:=0) (k:=4) (t:=146) (Nat.le_of_ble_eq_true Z) Z) ?_
  exact Lr [0]
 exact Gx 1 Z (TC.le d (Gc 7 Z (Rt h 4 [0])))
def F_im(n:Nat)(c:List (List Outcome))(a:Int×Int):Option (Ctl (Int×Int) Int):=
  (bif decide (a.2<(c.length:Int))then(idx c a.2).bind fun b=>((bif decide ((IntKind.i64.wrap (a.1+(b.length:Int)))<0)then none else some ()):Option Unit).bind fun d=>some (.cont (IntKind.i64.wrap (a.1+(b.length:Int)),IntKind.i64.wrap (a.2+1)))else some (.done a.1))
def F_ix(n:Nat)(b:List (List Outcome))(a:(List Outcome)×Int):Option (Ctl ((List Outcome)×Int) (List Outcome)):=
  (bif decide (a.2<(b.length:Int))then(idx b a.2).bind fun c=>(app a.1 c).bind fun d=>some (.cont (d,IntKind.i64.wrap (a.2+1)))else some (.done a.1))
def F_ax(n:Nat)(a:List (List Outcome)):Option (List Outcome):=
  (iter (F_im n a) n (0,0):Option Int).bind fun b=>(F_co n b).bind fun c=>(iter (F_ix n a) n (c,0):Option (List Outcome)).bind fun d=>some d
theorem k_ax(n:Nat)(x:List (List Outcome))(r:List Outcome)(h:F_ax n x=some r):
    C prog 120 [.rsl 1 (List.map (Yo 4 Outcome.c) x)] [] (RQ (fun r=>.osl 0 0 r.length 4) (fun r=>[.row 146 4 (List.map Outcome.c r)]) r):=by
 refine Qa func120 Z Z Z ?_
 refine G0 14 Z (Lm Z (Go 3 Z (Bd h fun j y h=>?_)))
 refine Ct j [] [0] (fun j=>[(3,I j)]) (fun _=>[]) (fun _=>rfl) ?_ (fun env H d=>?_)
 ·refine G0 1 Z ?_
  refine Lp [] [0,9,10] (fun k=>[(3,I k.1),(11,I k.2)]) (fun _=>[]) y (fun _=>rfl) (Lr []) fun k F a l=>?_
  refine G0 6 Z (Yc Z a (fun m a=>?_) (fun m a=>?_))
  ·refine Gc 2 Z (Qj a ?_)
   obtain rfl:=Oj l a
   exact Gx 1 Z (QT (Lr []))
  refine Gc 6 Z (Bd a fun G p a=>Iz p Z (Go 8 Z (Lm Z (Go 10 Z (Bd a fun z f a=>?_)))))
  refine Ct z [] [0,3,9,10,11] (fun _=>[]) (fun _=>[]) (fun _=>rfl) ?_ (fun env H d=>?_)
  ·refine G0 0 Z (Cn Z f (fun q f=>?_) (fun q f=>?_))
   ·cases f
   exact Gc 1 Z (Cl f [])
  exact Gx 2 Z (TC.le d (Gc 4 Z (Qi a (Lr []))))
 refine Gx 1 Z (TC.le d (Gc 3 Z (Cd [] h (k_co _ _) Z fun J E h=>FE Z (Go 7 Z (Lm Z (Go 3 Z (Bd h fun g B h=>?_)))))))
 refine Ct g [0] [] (fun g=>[(6,.osl 0 0 g.length 4)]) (fun g=>[(0,.row 146 4 (List.map Outcome.c g))]) (fun _=>rfl) ?_ (fun env H d=>?_)
 ·refine G0 1 Z ?_
  refine Lp [0] [25,26] (fun i=>[(6,.osl 0 0 i.1.length 4),(27,I i.2)]) (fun i=>[(0,.row 146 4 (List.map Outcome.c i.1))]) B (fun _=>rfl) (Lr [0]) fun i L b s=>?_
  refine G0 6 Z (Yc Z b (fun t b=>?_) (fun t b=>?_))
  ·refine Gc 2 Z (Qj b ?_)
   obtain rfl:=Oj s b
   exact Gx 1 Z (QT (Lr [0]))
  refine Gc 6 Z (Bd b fun M u b=>Iz u Z (Go 7 Z (Bd b fun N w b=>?_)))
  refine vH (QO (e:=Outcome.c) w QiR runUnderlying88 Qf9) ?_
  exact FE Z (Go 8 Z (Qi b (Lr [1])))
 exact Gx 1 Z (TC.le d (Gc 7 Z (Rt h 2 [0])))
def F_cl(n:Nat):Option Unit:=
  some ()
theorem k_cl(n:Nat)(r:Unit)(h:F_cl n=some r):
    C prog 210 [] [] (RQ (fun _=>.agg [.bool true,I (-1),I 0,I 0]) (fun _=>[.cells 146 [.bool true,I (-1),I 0,I 0]]) r):=by
 refine Qa func210 Z Z Z ?_
 refine G0 12 Z ?_
 obtain rfl:=Oi h
 exact Rx [0] [0] Z (QL Z (Qs isAgg146 sizeOf146 Z Z Z)) ⟨Z,Z⟩
def F_ce(n:Nat)(b:Clocks)(a:Outcome):Option Int:=
  (F_s n b).bind fun c=>(bif (c != 0)then some c else((bif decide ((-1)<=a.Seg)then(bif decide (a.Seg<(b.Segments.length:Int))then(bif decide ((-288230376151711744)<=a.Lo)then(bif decide (a.Lo<=a.Hi)then some (decide (a.Hi<=288230376151711744))else some false)else some false)else some false)else some false):Option Bool).bind fun e=>((bif a.Out then(F_cl n).bind fun f=>some (a==({Out:=true,Seg:=(-1),Lo:=0,Hi:=0:Outcome}))else some e):Option Bool).bind fun d=>(bif (!d)then some 230 else some 0))
theorem k_ce(n:Nat)(t:Clocks)(d:Outcome)(r:Int)(h:F_ce n t d=some r):
    Csm prog 121 [.agg (Clocks.c t),.agg (Outcome.c d)] [] (fun r=>I r) r:=by
 refine Qa func121 Z Z Z ?_
 refine G0 11 Z (Cz [] h (k_s _ _) Z fun z x h=>Go 9 Z (Cn Z h (fun u h=>?_) (fun u h=>?_)))
 ·exact Gc 8 Z (Rt h 4 [])
 refine Gc 3 Z (Bd h fun g a h=>?_)
 refine Ct g [1] [3] (fun g=>[(6,.bool g)]) (fun _=>[]) (fun _=>rfl) ?_ (fun env H e=>?_)
 ·refine G0 5 Z (Is 15 a Z (fun w a=>?_) (fun w a=>?_))
  ·refine Go 4 Z (Lm Z (Go 3 Z (Is 23 a Z (fun i a=>?_) (fun i a=>?_))))
   ·refine Go 5 Z (Is 28 a Z (fun j a=>?_) (fun j a=>?_))
    ·refine Go 7 Z (Is 35 a Z (fun k a=>?_) (fun k a=>?_))
     ·exact Go 6 Z (Cl a [1])
     ·exact Go 6 Z (Cl a [1])
    ·exact Go 13 Z (Cl a [1])
   ·exact Go 18 Z (Cl a [1])
  ·exact Go 26 Z (Cl a [1])
 refine Gx 1 Z (TC.le e (Gc 7 Z (Bd h fun f b h=>?_)))
 refine Ct f [] [] (fun f=>[(6,.bool f)]) (fun _=>[]) (fun _=>rfl) ?_ (fun env H e=>?_)
 ·refine G0 0 Z (Cn Z b (fun l b=>?_) (fun l b=>?_))
  ·obtain⟨y,m,b⟩:=Yy b
   refine QaU 2 0 [42,43] [false,true] [[],[]] [[],[1]] [[(0,0),(1,1)],[(0,1)]] [.agg (Outcome.c d),.agg [.bool true,I (-1),I 0,I 0]] [[.cells 146 (Outcome.c d)],[.cells 146 (Outcome.c d),.cells 146 [.bool true,I (-1),I 0,I 0]]] ([.cells 146 (Outcome.c d),.cells 146 [.bool true,I (-1),I 0,I 0]]) draws Z Z Z Z Z Z Z ?_ Z ?_
   ·refine QeV.cons (Qe (v0 Z Z) (Qe (v0 Z Z) (QA))) (QeV.cons ?_ (QeV.nil))
    ·refine Qe ?_ (QA)
     ·refine Om1 Z sN ?_
      refine Qu [] (OpC.fn call210 Z Z Z) (k_cl _ _ m) ?_
      rintro _ _ ⟨rfl,rfl⟩
      exact FE Z Wp
   refine vX (.bool (d==({Out:=true,Seg:=(-1),Lo:=0,Hi:=0:Outcome}))) (QhE (p:=d) (q:={Out:=true,Seg:=(-1),Lo:=0,Hi:=0:Outcome}) QjR Z Z) ?_
   exact Go 2 Z (Cl b [])
  exact Gc 1 Z (Cl b [])
 refine Gx 1 Z (TC.le e (Gc 7 Z (Cn Z h (fun s h=>?_) (fun s h=>?_))))
 ·exact Gc 7 Z (Rt h 4 [])
 exact Gc 8 Z (Rt h 4 [])
def F_ao(n:Nat)(a:Runner)(b:Int):Option Bool:=
  (idx a.Worlds b).bind fun c=>some ((c.length:Int)==0)
theorem k_ao(n:Nat)(a:Runner)(b:Int)(r:Bool)(h:F_ao n a b=some r):
    Csm prog 211 [.agg (Runner.c a),.ptr 0 0] [.cells 3 [I b]] (fun r=>.bool r) r:=by
 refine Qa func211 Z Z Z ?_
 exact G0 11 Z (Bd h fun e d h=>Iz d Z (Go 1 Z (Lm Z (Go 5 Z (Rt h 3 [0])))))
def F_kv(n:Nat)(b:List Runner)(e:Int)(a:Int):Option (Ctl Int (Ctl Unit Int)):=
  (bif decide (a<(b.length:Int))then(idx b a).bind fun c=>(F_ao n c e).bind fun d=>(bif d then some (.done (.done a))else some (.cont (IntKind.i64.wrap (a+1))))else some (.done (.cont ())))
def F_cr(n:Nat)(c:List Runner)(d:Int):Option Int:=
  (iter (F_kv n c d) n 0:Option (Ctl Unit Int)).bind fun b=>match b with|.cont a=>(some (-1))|.done a=>some a
theorem k_cr(n:Nat)(b:List Runner)(a:Int)(r:Int)(h:F_cr n b a=some r):
    Csm prog 224 [.rsl 3 (List.map Runner.c b),.fn (.func 211) [] [.ptr 0 0]] [.cells 3 [I a]] (fun r=>I r) r:=
 QE (el:=fun x=>.agg (Runner.c x)) (g:=fun x=>F_ao n x a) func224 Z Z Z runUnderlying27 sizeOf68 (fun _ _ _ _ d e=>QH d isAgg68 sizeOf68 e Pts.rp Z Z) call211 (fun _ _ h=>k_ao _ _ _ _ h) h
def F_bi(n:Nat)(a:List Runner)(b:Int):Option Bool:=
  (F_cr n a b).bind fun c=>some (decide (0<=c))
theorem k_bi(n:Nat)(a:List Runner)(b:Int)(r:Bool)(h:F_bi n a b=some r):
    Csm prog 137 [.rsl 3 (List.map Runner.c a),.fn (.func 211) [] [.ptr 0 0]] [.cells 3 [I b]] (fun r=>.bool r) r:=by
 refine Qa func137 Z Z Z ?_
 exact G0 9 Z (Cz [0] h (k_cr _ _ _) Z fun e d h=>Go 5 Z (Rt h 4 [0]))
def F_ej(n:Nat)(b:Field)(a:Int):Option (Ctl Int (Ctl Unit Bool)):=
  (bif decide (a<(IntKind.i64.wrap ((b.Pairs.length:Int)+1)))then(F_bi n b.Runners a).bind fun c=>(bif (!c)then some (.done (.done true))else some (.cont (IntKind.i64.wrap (a+1))))else some (.done (.cont ())))
def F_at(n:Nat)(b:Field):Option Bool:=
  (iter (F_ej n b) n 0:Option (Ctl Unit Bool)).bind fun c=>match c with|.cont a=>(some false)|.done a=>some a
theorem k_at(n:Nat)(i:Field)(r:Bool)(h:F_at n i=some r):
    Csm prog 122 [.agg (Field.c i)] [] (fun r=>.bool r) r:=by
 refine Qa func122 Z Z Z ?_
 refine G0 11 Z (Lm Z (Go 4 Z (Bd h fun l m h=>?_)))
 refine YS (b:=l) [] [] (fun _=>[]) (fun _=>[]) (fun _=>rfl) ?_ (fun q env H j k=>?_)
 ·refine G0 1 Z ?_
  refine Lp [0] [1,7] (fun e=>[(8,I e)]) (fun _=>[]) m (fun _=>rfl) (Lr [0]) fun e s a d=>?_
  refine G0 6 Z (Yc Z a (fun f a=>?_) (fun f a=>?_))
  ·refine Gc 2 Z (Qj a ?_)
   obtain rfl:=Oj d a
   exact Gx 1 Z (Qm Z (Lr []))
  refine Gc 16 Z (Cz [1] a (k_bi _ _ _) Z fun t p a=>Go 3 Z (Cn Z a (fun g a=>?_) (fun g a=>?_)))
  ·refine Gc 8 Z (Ql a ?_)
   obtain rfl:=Oj d a
   exact Gx 1 Z (Qk (Gx 1 Z (Rt h 2 [])))
  exact Gc 7 Z (Qi a (Lr [0]))
 subst j
 exact Gx 1 Z (TC.le k (Gc 6 Z (Rt h 2 [])))
def F_ik(n:Nat)(c:Field)(b:Pair×Int):Option (Ctl (Pair×Int) (Ctl Unit Int)):=
  (bif decide (b.2<(c.Pairs.length:Int))then(idx c.Pairs b.2).bind fun a=>((bif decide (a.A<1)then some true else(bif decide (a.B<=a.A)then some true else(bif decide (9999<a.B)then some true else(bif decide (a.A<b.1.A)then some true else(bif (a.A==b.1.A)then some (decide (a.B<=b.1.B))else some false))))):Option Bool).bind fun d=>(bif d then some (.done (.done 240))else some (.cont (a,IntKind.i64.wrap (b.2+1))))else some (.done (.cont ())))
def F_in(n:Nat)(e:Field)(b:List Outcome)(a:Int):Option (Ctl Int (Ctl Unit (Ctl (Int×Int) (Ctl Unit Int)))):=
  (bif decide (a<(b.length:Int))then(idx b a).bind fun c=>(F_ce n e.Clocks c).bind fun d=>(bif (d != 0)then some (.done (.done (.done (.done 240))))else some (.cont (IntKind.i64.wrap (a+1))))else some (.done (.cont ())))
def F_dw(n:Nat)(d:Field)(b:Int×Int):Option (Ctl (Int×Int) (Ctl Unit Int)):=
  (bif decide (b.2<(d.Runners.length:Int))then(idx d.Runners b.2).bind fun a=>((bif decide (a.Bib<=b.1)then some true else(bif decide (9999<a.Bib)then some true else(idx d.Runners 0).bind fun e=>(bif ((a.Keys.length:Int) != (e.Keys.length:Int))then some true else some ((a.Worlds.length:Int) != (IntKind.i64.wrap ((d.Pairs.length:Int)+1)))))):Option Bool).bind fun f=>(bif f then some (.done (.done 240))else(F_ax n a.Worlds).bind fun g=>(iter (F_in n d g) n 0:Option (Ctl Unit (Ctl (Int×Int) (Ctl Unit Int)))).bind fun h=>match h with|.cont c=>(some (.cont (a.Bib,IntKind.i64.wrap (b.2+1))))|.done c=>some c)else some (.done (.cont ())))
def F_l(n:Nat)(a:Field):Option Int:=
  ((F_s n a.Clocks).bind fun g=>(bif (g != 0)then some true else(bif decide (16<(a.Pairs.length:Int))then some true else(bif decide ((a.Runners.length:Int)<1)then some true else some (decide (4000<(a.Runners.length:Int)))))):Option Bool).bind fun h=>(bif h then some 240 else(iter (F_ik n a) n ({A:=0,B:=0:Pair},0):Option (Ctl Unit Int)).bind fun f=>match f with|.cont c=>((iter (F_dw n a) n (0,0):Option (Ctl Unit Int)).bind fun d=>match d with|.cont b=>((F_at n a).bind fun e=>(bif (!e)then some 240 else some 0))|.done b=>some b)|.done c=>some c)
theorem k_l(n:Nat)(E:Field)(r:Int)(h:F_l n E=some r):
    Csm prog 72 [.agg (Field.c E)] [] (fun r=>I r) r:=by
 refine Qa func72 Z Z Z ?_
 refine G0 8 Z (Bd h fun W k h=>?_)
 refine Ct W [0] [1] (fun W=>[(32,.bool W)]) (fun _=>[]) (fun _=>rfl) ?_ (fun env H j=>?_)
 ·refine G0 3 Z (Cz [] k (k_s _ _) Z fun r7 bf k=>Go 2 Z (Is 15 k Z (fun an k=>?_) (fun an k=>?_)))
  ·exact Go 18 Z (Cl k [0])
  ·refine Go 2 Z (Lm Z (Go 3 Z (Is 21 k Z (fun ao k=>?_) (fun ao k=>?_))))
   ·exact Go 12 Z (Cl k [0])
   ·refine Go 2 Z (Lm Z (Go 3 Z (Is 27 k Z (fun X k=>?_) (fun X k=>?_))))
    ·exact Go 6 Z (Cl k [0])
    ·exact Go 2 Z (Lm Z (Go 3 Z (Cl k [0])))
 refine Gx 1 Z (TC.le j (Cn Z h (fun Y h=>?_) (fun Y h=>?_)))
 ·exact Gc 7 Z (Rt h 2 [])
 refine Gc 12 Z (Lm Z (Go 3 Z (Bd h fun aq ar h=>?_)))
 refine YS (b:=aq) [0] [1] (fun _=>[]) (fun _=>[]) (fun _=>rfl) ?_ (fun az env H s j=>?_)
 ·refine G0 1 Z ?_
  refine Lp [0,1] [1,3,34,35] (fun y=>[(36,I y.2)]) (fun y=>[(1,.cells 149 (Pair.c y.1))]) ar (fun _=>rfl) (Lr [0,1]) fun y bg i F=>?_
  refine G0 6 Z (Yc Z i (fun aa i=>?_) (fun aa i=>?_))
  ·refine Gc 2 Z (Qj i ?_)
   obtain rfl:=Oj F i
   exact Gx 1 Z (Qm Z (Lr [0]))
  refine Gc 6 Z (Bd i fun bh ab i=>Iz ab Z (Go 7 Z (Bd i fun G d i=>?_)))
  refine Ct G [0,1,2] [1,3,5,34,35,36] (fun G=>[(75,.bool G)]) (fun _=>[]) (fun _=>rfl) ?_ (fun env H j=>?_)
  ·refine G0 5 Z (Is 43 d Z (fun ac d=>?_) (fun ac d=>?_))
   ·exact Go 33 Z (Cl d [0,1,2])
   ·refine Go 7 Z (Is 50 d Z (fun ad d=>?_) (fun ad d=>?_))
    ·exact Go 26 Z (Cl d [0,1,2])
    ·refine Go 5 Z (Is 55 d Z (fun ae d=>?_) (fun ae d=>?_))
     ·exact Go 21 Z (Cl d [0,1,2])
     ·refine Go 7 Z (Is 62 d Z (fun af d=>?_) (fun af d=>?_))
      ·exact Go 14 Z (Cl d [0,1,2])
      ·refine Go 6 Z (Is 68 d Z (fun ag d=>?_) (fun ag d=>?_))
       ·exact Go 8 Z (Cl d [0,1,2])
       ·exact Go 8 Z (Cl d [0,1,2])
  refine Gx 1 Z (TC.le j (Cn Z i (fun ah i=>?_) (fun ah i=>?_)))
  ·refine Gc 9 Z (Ql i ?_)
   obtain rfl:=Oj F i
   exact Gx 1 Z (Qk (Gx 1 Z (Rt h 2 [])))
  exact Gc 12 Z (Qi i (Lr [0,1]))
 subst s
 refine Gx 1 Z (TC.le j (Gc 10 Z (Lm Z (Go 3 Z (Bd h fun ai aj h=>?_)))))
 refine YS (b:=ai) [0] [1] (fun _=>[]) (fun _=>[]) (fun _=>rfl) ?_ (fun au env H s j=>?_)
 ·refine G0 1 Z ?_
  refine Lp [0] [1,79,80] (fun t=>[(6,I t.1),(81,I t.2)]) (fun _=>[]) aj (fun _=>rfl) (Lr [0]) fun t ba a p=>?_
  refine G0 6 Z (Yc Z a (fun J a=>?_) (fun J a=>?_))
  ·refine Gc 2 Z (Qj a ?_)
   obtain rfl:=Oj p a
   exact Gx 1 Z (Qm Z (Lr [0]))
  refine Gc 6 Z (Bd a fun q L a=>Iz L Z (Go 7 Z (Bd a fun u f a=>?_)))
  refine Ct u [0,1] [1,8,79,80,81] (fun u=>[(115,.bool u)]) (fun _=>[]) (fun _=>rfl) ?_ (fun env H j=>?_)
  ·refine G0 0 Z (DSs 29 Z (D 5 Z (Yb 4 f Z Z Z (fun M f=>?_) (fun M f=>?_))))
   ·exact D 24 Z (DS.done Z (Go 3 Z (Cl f [0,1])))
   ·refine D 5 Z (Yb 9 f Z Z Z (fun N f=>?_) (fun N f=>?_))
    ·exact D 19 Z (DS.done Z (Go 3 Z (Cl f [0,1])))
    ·refine D 2 Z ?_
     refine DS.v (x:=(I (q.Keys.length:Int))) (Ym (e:=(Qd .i64)) (l:=q.Keys) runUnderlying32) ?_ (hg:=(gT Z))
     refine D 2 Z ?_
     obtain⟨m,O,f⟩:=Yy f
     refine DS.v (x:=(.rp [I m.Bib,.rsl 1 (List.map (Qd .i64) m.Keys),.rsl 1 (List.map (Yo 4 Outcome.c) m.Worlds)])) (Yh (e:=Runner.c) (l:=E.Runners) (v:=m) O runUnderlying27 sizeOf68) ?_ (hg:=(gT Z))
     refine D 2 Z ?_
     refine DS.v (x:=(I (m.Keys.length:Int))) (Ym (e:=(Qd .i64)) (l:=m.Keys) runUnderlying32) ?_ (hg:=(gT Z))
     refine D 3 Z (Yb 21 f Z Z Z (fun P f=>?_) (fun P f=>?_))
     ·exact D 7 Z (DS.done Z (Go 3 Z (Cl f [0,1])))
     ·refine D 2 Z ?_
      refine DS.v (x:=(I (q.Worlds.length:Int))) (Ym (e:=(Yo 4 Outcome.c)) (l:=q.Worlds) runUnderlying66) ?_ (hg:=(gT Z))
      refine D 2 Z ?_
      refine DS.v (x:=(I (E.Pairs.length:Int))) (Ym (e:=Pair.c) (l:=E.Pairs) runUnderlying26) ?_ (hg:=(gT Z))
      exact D 1 Z (DS.done Z (Go 3 Z (Cl f [0,1])))
  refine Gx 1 Z (TC.le j (Cn Z a (fun Q a=>?_) (fun Q a=>?_)))
  ·refine Gc 9 Z (Ql a ?_)
   obtain rfl:=Oj p a
   exact Gx 1 Z (Qk (Gx 1 Z (Rt h 2 [])))
  refine Gc 13 Z (Cd [] a (k_ax _ _) Z fun bb av a=>FE Z (Go 4 Z (Bd a fun ak al a=>?_)))
  refine YS (b:=ak) [0] [1,6,79,80,81] (fun _=>[]) (fun _=>[]) (fun _=>rfl) ?_ (fun aw env H s j=>?_)
  ·refine G0 1 Z ?_
   refine Lp [0,2] [1,6,79,80,81,120,121] (fun w=>[(122,I w)]) (fun _=>[]) al (fun _=>rfl) (Lr [0,2]) fun w bc g z=>?_
   refine G0 6 Z (Yc Z g (fun R g=>?_) (fun R g=>?_))
   ·refine Gc 2 Z (Qj g ?_)
    obtain rfl:=Oj z g
    exact Gx 1 Z (Qm Z (Lr [0]))
   refine Gc 6 Z (Bd g fun am B g=>?_)
   refine vX (.ptr 1 (Int.toNat w*4)) (Yp B Z runUnderlying88 sizeOf146) ?_
   refine vX (.agg (Outcome.c am)) (QH Z isAgg146 sizeOf146 Z (QJ B) Z Z) ?_
   refine Go 9 Z (Cz [] g (k_ce _ _ _) Z fun bd ax g=>Go 3 Z (Cn Z g (fun T g=>?_) (fun T g=>?_)))
   ·refine Gc 8 Z (Ql g ?_)
    obtain rfl:=Oj z g
    refine Gx 1 Z (Qk (Gx 2 Z (Ql a ?_)))
    obtain rfl:=Oj p a
    exact Gx 1 Z (Qk (Gx 1 Z (Rt h 2 [])))
   exact Gc 7 Z (Qi g (Lr [0,1]))
  subst s
  exact Gx 2 Z (TC.le j (Gc 4 Z (Qi a (Lr [0]))))
 subst s
 refine Gx 1 Z (TC.le j (Gc 4 Z (Cz [] h (k_at _ _) Z fun be ay h=>Go 3 Z (Cn Z h (fun V h=>?_) (fun V h=>?_)))))
 ·exact Gc 7 Z (Rt h 2 [])
 exact Gc 8 Z (Rt h 2 [])
def F_bm(n:Nat)(a:Course)(f:Field)(b:Int)(c:Int):Option Int:=
  (F_gc n a).bind fun d=>(bif (d != 0)then some d else((bif decide (b<0)then some true else(bif decide ((a.Distances.length:Int)<=b)then some true else(bif decide (c<(-1))then some true else some (decide ((a.Categories.length:Int)<=c))))):Option Bool).bind fun g=>(bif g then some 310 else(F_l n f).bind fun e=>(bif (e != 0)then some 240 else some 0)))
theorem k_bm(n:Nat)(g:Course)(i:Field)(j:Int)(k:Int)(r:Int)(h:F_bm n g i j k=some r):
    Csm prog 44 [.agg (Course.c g),.agg (Field.c i),I j,I k] [] (fun r=>I r) r:=by
 refine Qa func44 Z Z Z ?_
 refine G0 11 Z (Cz [] h (k_gc _ _) Z fun w t h=>Go 9 Z (Cn Z h (fun l h=>?_) (fun l h=>?_)))
 ·exact Gc 8 Z (Rt h 8 [])
 refine Gc 4 Z (Bd h fun b a h=>?_)
 refine Ct b [1] [5] (fun b=>[(34,.bool b)]) (fun _=>[]) (fun _=>rfl) ?_ (fun env H m=>?_)
 ·refine G0 4 Z (Is 17 a Z (fun p a=>?_) (fun p a=>?_))
  ·exact Go 18 Z (Cl a [1])
  ·refine Go 3 Z (Lm Z (Go 3 Z (Is 24 a Z (fun q a=>?_) (fun q a=>?_))))
   ·exact Go 11 Z (Cl a [1])
   ·refine Go 4 Z (Is 28 a Z (fun d a=>?_) (fun d a=>?_))
    ·exact Go 7 Z (Cl a [1])
    ·exact Go 3 Z (Lm Z (Go 3 Z (Cl a [1])))
 refine Gx 1 Z (TC.le m (Cn Z h (fun e h=>?_) (fun e h=>?_)))
 ·exact Gc 7 Z (Rt h 8 [])
 refine Gc 6 Z (Cz [] h (k_l _ _) Z fun u s h=>Go 3 Z (Cn Z h (fun f h=>?_) (fun f h=>?_)))
 ·exact Gc 7 Z (Rt h 8 [])
 exact Gc 8 Z (Rt h 8 [])
def F_jk(n:Nat)(e:Field)(c:List Int)(a:Int):Option (Ctl Int (Ctl Unit Int)):=
  (bif decide (a<(c.length:Int))then(idx c a).bind fun b=>((bif decide (b<0)then some true else some (decide ((e.Runners.length:Int)<=b))):Option Bool).bind fun d=>(bif d then some (.done (.done 250))else some (.cont (IntKind.i64.wrap (a+1))))else some (.done (.cont ())))
def F_db(n:Nat)(b:Field)(d:List Int):Option Int:=
  (F_l n b).bind fun e=>(bif (e != 0)then some 240 else(iter (F_jk n b d) n 0:Option (Ctl Unit Int)).bind fun c=>match c with|.cont a=>(some 0)|.done a=>some a)
theorem k_db(n:Nat)(p:Field)(q:List Int)(r:Int)(h:F_db n p q=some r):
    Csm prog 58 [.agg (Field.c p),.rsl 1 (List.map (Qd .i64) q)] [] (fun r=>I r) r:=by
 refine Qa func58 Z Z Z ?_
 refine G0 10 Z (Cz [] h (k_l _ _) Z fun E y h=>Go 3 Z (Cn Z h (fun s h=>?_) (fun s h=>?_)))
 ·exact Gc 7 Z (Rt h 4 [])
 refine Gc 6 Z (Lm Z (Go 3 Z (Bd h fun t u h=>?_)))
 refine YS (b:=t) [] [] (fun _=>[]) (fun _=>[]) (fun _=>rfl) ?_ (fun x env H w e=>?_)
 ·refine G0 1 Z ?_
  refine Lp [0] [2,10,11] (fun i=>[(12,I i)]) (fun _=>[]) u (fun _=>rfl) (Lr [0]) fun i z a f=>?_
  refine G0 6 Z (Yc Z a (fun j a=>?_) (fun j a=>?_))
  ·refine Gc 2 Z (Qj a ?_)
   obtain rfl:=Oj f a
   exact Gx 1 Z (Qm Z (Lr []))
  refine Gc 6 Z (Bd a fun B k a=>Iz k Z (Go 5 Z (Bd a fun g d a=>?_)))
  refine Ct g [0] [2,10,11,12] (fun g=>[(24,.bool g)]) (fun _=>[]) (fun _=>rfl) ?_ (fun env H e=>?_)
  ·refine G0 4 Z (Is 18 d Z (fun l d=>?_) (fun l d=>?_))
   ·exact Go 7 Z (Cl d [0])
   ·exact Go 3 Z (Lm Z (Go 3 Z (Cl d [0])))
  refine Gx 1 Z (TC.le e (Cn Z a (fun m a=>?_) (fun m a=>?_)))
  ·refine Gc 8 Z (Ql a ?_)
   obtain rfl:=Oj f a
   exact Gx 1 Z (Qk (Gx 1 Z (Rt h 4 [])))
  exact Gc 7 Z (Qi a (Lr [0]))
 subst w
 exact Gx 1 Z (TC.le e (Gc 6 Z (Rt h 4 [])))
def F_e(n:Nat)(a:Field):Option Unit:=
  some ()
theorem k_e(n:Nat)(a:Field)(r:Unit)(h:F_e n a=some r):
    C prog 89 [.agg (Field.c a)] [] (RQ (fun _=>.fn (.func 135) [] [.ptr 0 0]) (fun _=>[.cells 29 (Field.c a)]) r):=by
 refine Qa func89 Z Z Z ?_
 exact G0 13 Z (Rt h 2 [0])
def F_ah(n:Nat)(a:Runner)(b:Int):Option Bool:=
  (idx a.Worlds b).bind fun c=>some ((c.length:Int)==0)
theorem k_ah(n:Nat)(a:Runner)(b:Int)(r:Bool)(h:F_ah n a b=some r):
    Csm prog 136 [.agg (Runner.c a),.ptr 0 0] [.cells 3 [I b]] (fun r=>.bool r) r:=by
 refine Qa func136 Z Z Z ?_
 exact G0 11 Z (Bd h fun e d h=>Iz d Z (Go 1 Z (Lm Z (Go 5 Z (Rt h 3 [0])))))
def F_la(n:Nat)(b:List Runner)(e:Int)(a:Int):Option (Ctl Int (Ctl Unit Int)):=
  (bif decide (a<(b.length:Int))then(idx b a).bind fun c=>(F_ah n c e).bind fun d=>(bif d then some (.done (.done a))else some (.cont (IntKind.i64.wrap (a+1))))else some (.done (.cont ())))
def F_cy(n:Nat)(c:List Runner)(d:Int):Option Int:=
  (iter (F_la n c d) n 0:Option (Ctl Unit Int)).bind fun b=>match b with|.cont a=>(some (-1))|.done a=>some a
theorem k_cy(n:Nat)(b:List Runner)(a:Int)(r:Int)(h:F_cy n b a=some r):
    Csm prog 224 [.rsl 3 (List.map Runner.c b),.fn (.func 136) [] [.ptr 0 0]] [.cells 3 [I a]] (fun r=>I r) r:=
 QE (el:=fun x=>.agg (Runner.c x)) (g:=fun x=>F_ah n x a) func224 Z Z Z runUnderlying27 sizeOf68 (fun _ _ _ _ d e=>QH d isAgg68 sizeOf68 e Pts.rp Z Z) call136 (fun _ _ h=>k_ah _ _ _ _ h) h
def F_cc(n:Nat)(a:List Runner)(b:Int):Option Bool:=
  (F_cy n a b).bind fun c=>some (decide (0<=c))
theorem k_cc(n:Nat)(a:List Runner)(b:Int)(r:Bool)(h:F_cc n a b=some r):
    Csm prog 137 [.rsl 3 (List.map Runner.c a),.fn (.func 136) [] [.ptr 0 0]] [.cells 3 [I b]] (fun r=>.bool r) r:=by
 refine Qa func137 Z Z Z ?_
 exact G0 9 Z (Cz [0] h (k_cy _ _ _) Z fun e d h=>Go 5 Z (Rt h 4 [0]))
def F_cu(n:Nat)(b:Field)(a:Int):Option ((List Int)×Ctl Int Unit):=
  (bif decide (a<(IntKind.i64.wrap ((b.Pairs.length:Int)+1)))then(F_cc n b.Runners a).bind fun c=>(bif (!c)then yl a (some ([],.cont (IntKind.i64.wrap (a+1))))else some ([],.cont (IntKind.i64.wrap (a+1))))else some ([],.done ()))
def F_g(n:Nat)(a:Field):Option ((List Int)×Unit):=
  ap (Qba (F_cu n a) n 0) fun b=>some ([],())
theorem k_g(n:Nat)(j:Field)(p:(List Int)×Unit)(h:F_g n j=some p):
    QcM prog 135 [.ptr 0 0] [.cells 29 (Field.c j)] (fun x=>[I x]) nxL p.1:=by
 obtain⟨xs,u⟩:=p
 refine Qao func135 Z Z Z Z ?_
 intro X hE hN
 refine Gy0 1 Z (TCy.lf ?_)
 refine G0 3 Z (Lm Z (Go 3 Z ?_))
 refine Gyx 1 Z ?_
 obtain⟨s,r,k,l,m,rfl⟩:=QgH h
 rw[List.append_assoc]
 refine Qb8 r (k++[]) [0] [0] (fun _=>[]) (fun _=>[]) (fun _=>rfl) ?_ (fun env H t=>?_)
 ·refine Gy0 1 Z ?_
  refine QeO [0] [0,1,8] (fun d=>[(9,I d)]) (fun _=>[]) l (fun _=>rfl) (Lr [0]) fun d w y z b f=>?_
  refine Gy0 1 Z (TCy.lf ?_)
  refine G0 3 Z ?_
  refine Gyx 2 Z (TCy.lf ?_)
  refine G0 0 Z (Yc Z b (fun g b=>?_) (fun g b=>?_))
  ·refine Gc 1 Z ?_
   refine Gyx 1 Z ?_
   obtain⟨rfl,rfl,rfl⟩:=Oy f b
   exact Qey (Gyx 1 Z (QgF (Lr [0])))
  refine Gc 1 Z ?_
  refine Gyx 4 Z (TCy.lf ?_)
  refine G0 5 Z ?_
  refine Gyx 2 Z (TCy.lf ?_)
  refine G0 4 Z ?_
  refine Gyx 6 Z ?_
  refine WOy.step ?_
  refine Bd b fun B i b=>Pc [1] Z (OpC.fn call137 Z Z Z) (k_cc _ _ _ _ i) Z (WO.nil ⟨Z,?_⟩)
  refine Gyo 2 Z (If b (fun a b=>?_) (fun a b=>?_))
  ·refine WOy.step ?_
   refine Sg (gT a) Z (WO.nil ⟨Z,?_⟩)
   refine WOy.step ?_
   refine Ldg (gT a) isAgg3 Z (WO.nil ⟨Z,?_⟩)
   obtain⟨E,q,rfl⟩:=Qgk b
   refine Qi2 (x:=d) (e:=fun x=>I x) hE hN Z Z Z Z ?_ ?_ (hg:=(gT a))
   ·refine WOy.step ?_
    refine Sg (gT a) Z (WO.nil ⟨Z,?_⟩)
    refine WOy.step ?_
    refine Pk a Z (WO.nil ⟨Z,?_⟩)
    refine Gyo 2 Z (TCy.lf ?_)
    refine G0 2 Z ?_
    refine Gyx 2 Z (TCy.lf ?_)
    refine G0 4 Z ?_
    exact Gyx 0 Z (Qdf q (Lr [0]))
   ·refine WOy.step ?_
    refine Sg (gT a) Z (WO.nil ⟨Z,?_⟩)
    refine WOy.step ?_
    refine Pk a Z (WO.nil ⟨Z,?_⟩)
    exact Gyo 6 Z (Qez (Gyx 1 Z (QgE (⟨.inr Z,.inr ⟨_,Z⟩⟩))))
  ·refine WOy.step (K (gF a) Z (WO.nil ⟨Z,?_⟩))
   refine WOy.step (K (gF a) Z (WO.nil ⟨Z,?_⟩))
   refine WOy.step (K (gF a) Z (WO.nil ⟨Z,?_⟩))
   refine WOy.step (K (gF a) Z (WO.nil ⟨Z,?_⟩))
   refine WOy.step ?_
   refine Pk a Z (WO.nil ⟨Z,?_⟩)
   refine Gyo 2 Z (TCy.lf ?_)
   refine G0 2 Z ?_
   refine Gyx 2 Z (TCy.lf ?_)
   refine G0 4 Z ?_
   exact Gyx 0 Z (Qdf b (Lr [0]))
 cases m
 exact⟨.inl Z,.inl Z⟩
def F_as(n:Nat)(a:Outcome):Option Unit:=
  some ()
theorem k_as(n:Nat)(a:Outcome)(r:Unit)(h:F_as n a=some r):
    Csm prog 91 [.agg (Outcome.c a)] [] (fun _=>.bool a.Out) r:=by
 refine Qa func91 Z Z Z ?_
 exact G0 14 Z (Rt h 2 [])
def F_jt(n:Nat)(c:List Outcome)(a:Int):Option (Ctl Int (Ctl Unit Int)):=
  (bif decide (a<(c.length:Int))then(idx c a).bind fun b=>(F_as n b).bind fun d=>(bif b.Out then some (.done (.done a))else some (.cont (IntKind.i64.wrap (a+1))))else some (.done (.cont ())))
def F_cm(n:Nat)(c:List Outcome):Option Int:=
  (iter (F_jt n c) n 0:Option (Ctl Unit Int)).bind fun b=>match b with|.cont a=>(some (-1))|.done a=>some a
theorem k_cm(n:Nat)(j:List Outcome)(r:Int)(h:F_cm n j=some r):
    Csm prog 138 [.rsl 4 (List.map Outcome.c j),.fn (.func 91) [] []] [] (fun r=>I r) r:=by
 refine Qa func138 Z Z Z ?_
 refine G0 9 Z (Lm Z (Go 3 Z (Bd h fun k l h=>?_)))
 refine YS (b:=k) [] [] (fun _=>[]) (fun _=>[]) (fun _=>rfl) ?_ (fun q env H m p=>?_)
 ·refine G0 1 Z ?_
  refine Lp [] [0,1,7] (fun e=>[(8,I e)]) (fun _=>[]) l (fun _=>rfl) (Lr []) fun e t a d=>?_
  refine G0 6 Z (Yc Z a (fun f a=>?_) (fun f a=>?_))
  ·refine Gc 2 Z (Qj a ?_)
   obtain rfl:=Oj d a
   exact Gx 1 Z (Qm Z (Lr []))
  refine Gc 15 Z (Bd a fun u g a=>Iz g Z (Go 1 Z (Cz [] a (k_as _ _) Z fun w s a=>Go 2 Z (Cn Z a (fun i a=>?_) (fun i a=>?_)))))
  ·refine Gc 9 Z (Ql a ?_)
   obtain rfl:=Oj d a
   exact Gx 1 Z (Qk (Gx 1 Z (Rt h 4 [])))
  exact Gc 7 Z (Qi a (Lr []))
 subst m
 exact Gx 1 Z (TC.le p (Gc 6 Z (Rt h 4 [])))
def F_ca(n:Nat)(a:List Outcome):Option Bool:=
  (F_cm n a).bind fun b=>some (decide (0<=b))
theorem k_ca(n:Nat)(a:List Outcome)(r:Bool)(h:F_ca n a=some r):
    Csm prog 90 [.rsl 4 (List.map Outcome.c a),.fn (.func 91) [] []] [] (fun r=>.bool r) r:=by
 refine Qa func90 Z Z Z ?_
 exact G0 9 Z (Cz [] h (k_cm _ _) Z fun d b h=>Go 5 Z (Rt h 4 []))
def F_ba(n:Nat):Option Unit:=
  some ()
theorem k_ba(n:Nat)(r:Unit)(h:F_ba n=some r):
    C prog 92 [] [] (RQ (fun _=>.agg [.fn (.func 139) [] [],.fn (.func 140) [] [],.fn (.func 141) [] [],.fn (.func 142) [] []]) (fun _=>[.cells 191 [.fn (.func 139) [] [],.fn (.func 140) [] [],.fn (.func 141) [] [],.fn (.func 142) [] []]]) r):=by
 refine Qa func92 Z Z Z ?_
 refine G0 12 Z ?_
 obtain rfl:=Oi h
 exact Rx [0] [0] Z (QL Z (Qs isAgg191 sizeOf191 Z Z Z)) ⟨Z,Z⟩
def F_q(n:Nat)(a:Int)(b:Int):Option Unit:=
  some ()
theorem k_q(n:Nat)(a:Int)(b:Int)(r:Unit)(h:F_q n a b=some r):
    Csm prog 142 [I a,I b] [] (fun _=>.bool (decide (a<b))) r:=by
 refine Qa func142 Z Z Z ?_
 exact G0 14 Z (Rt h 4 [])
def F_o(n:Nat)(a:Outcome):Option Unit:=
  some ()
theorem k_o(n:Nat)(a:Outcome)(r:Unit)(h:F_o n a=some r):
    Csm prog 140 [.agg (Outcome.c a)] [] (fun _=>I a.Hi) r:=by
 refine Qa func140 Z Z Z ?_
 exact G0 14 Z (Rt h 2 [])
def F_ay(n:Nat)(a:List (List Int))(b:Int)(c:Int):Option Int:=
  (idx a b).bind fun d=>(idx d c).bind fun e=>some e
theorem k_ay(n:Nat)(a:List (List Int))(b:Int)(c:Int)(r:Int)(h:F_ay n a b c=some r):
    Csm prog 141 [.rsl 1 (List.map (Yo 1 (Qd .i64)) a),I b,I c] [] (fun r=>I r) r:=by
 refine Qa func141 Z Z Z ?_
 exact G0 9 Z (Bd h fun f d h=>Iz d Z (Go 2 Z (Bd h fun g e h=>Iz e Z (Go 5 Z (Rt h 6 [])))))
def F_w(n:Nat)(a:Outcome):Option Unit:=
  some ()
theorem k_w(n:Nat)(a:Outcome)(r:Unit)(h:F_w n a=some r):
    Csm prog 139 [.agg (Outcome.c a)] [] (fun _=>I a.Lo) r:=by
 refine Qa func139 Z Z Z ?_
 exact G0 14 Z (Rt h 2 [])
def F_ar(n:Nat)(c:List Int)(d:List Int)(a:Int):Option (Ctl Int (Ctl Unit Int)):=
  (bif decide (a<(c.length:Int))then(idx c a).bind fun e=>(bif decide ((d.length:Int)<=a)then some (.done (.done 1))else(idx d a).bind fun f=>(F_b n e f).bind fun b=>(bif (b != 0)then some (.done (.done b))else some (.cont (IntKind.i64.wrap (a+1)))))else some (.done (.cont ())))
def F_i(n:Nat)(b:List Int)(c:List Int):Option Int:=
  (iter (F_ar n b c) n 0:Option (Ctl Unit Int)).bind fun d=>match d with|.cont a=>(bif decide ((b.length:Int)<(c.length:Int))then some (-1)else some 0)|.done a=>some a
theorem k_i(n:Nat)(l:List Int)(m:List Int)(r:Int)(h:F_i n l m=some r):
    Csm prog 88 [.rsl 1 (List.map (Qd .i64) l),.rsl 1 (List.map (Qd .i64) m)] [] (fun r=>I r) r:=by
 refine Qa func88 Z Z Z ?_
 refine G0 9 Z (Lm Z (Go 3 Z (Bd h fun p q h=>?_)))
 refine YS (b:=p) [] [0,1] (fun _=>[]) (fun _=>[]) (fun _=>rfl) ?_ (fun u env H s t=>?_)
 ·refine G0 1 Z ?_
  refine Lp [] [0,1,9,10] (fun d=>[(11,I d)]) (fun _=>[]) q (fun _=>rfl) (Lr []) fun d x a c=>?_
  refine G0 6 Z (Yc Z a (fun e a=>?_) (fun e a=>?_))
  ·refine Gc 2 Z (Qj a ?_)
   obtain rfl:=Oj c a
   exact Gx 1 Z (Qm Z (Lr []))
  refine Gc 7 Z (Bd a fun y f a=>Iz f Z (Go 10 Z (Lm Z (Go 3 Z (Cn Z a (fun g a=>?_) (fun g a=>?_))))))
  ·refine Gc 9 Z (Ql a ?_)
   obtain rfl:=Oj c a
   exact Gx 1 Z (Qk (Gx 1 Z (Rt h 4 [])))
  refine Gc 6 Z (Bd a fun z i a=>Iz i Z (Go 8 Z (Cz [] a (k_b _ _ _) Z fun B w a=>Go 9 Z (Cn Z a (fun j a=>?_) (fun j a=>?_)))))
  ·refine Gc 9 Z (Ql a ?_)
   obtain rfl:=Oj c a
   exact Gx 1 Z (Qk (Gx 1 Z (Rt h 4 [])))
  exact Gc 7 Z (Qi a (Lr []))
 subst s
 refine Gx 1 Z (TC.le t (Gc 4 Z (Lm Z (Go 1 Z (Lm Z (Go 3 Z (Cn Z h (fun k h=>?_) (fun k h=>?_))))))))
 ·exact Gc 7 Z (Rt h 4 [])
 exact Gc 8 Z (Rt h 4 [])
def F_bv(n:Nat)(c:Field)(i:Int)(b:Outcome)(j:Int)(a:Outcome):Option Bool:=
  (bif a.Out then some false else(F_o n a).bind fun k=>(F_ay n c.Clocks.Far (IntKind.i64.wrap (b.Seg+1)) (IntKind.i64.wrap (a.Seg+1))).bind fun d=>(F_w n b).bind fun l=>((bif decide ((IntKind.i64.wrap ((IntKind.i64.wrap (a.Hi+d))-b.Lo))<0)then some true else(bif ((IntKind.i64.wrap ((IntKind.i64.wrap (a.Hi+d))-b.Lo))==0)then(idx c.Runners j).bind fun e=>(idx c.Runners i).bind fun f=>(F_i n e.Keys f.Keys).bind fun g=>some (decide (g<0))else some false)):Option Bool).bind fun h=>some h)
theorem k_bv(n:Nat)(g:Field)(p:Int)(q:Outcome)(s:Int)(t:Outcome)(r:Bool)(h:F_bv n g p q s t=some r):
    Csm prog 225 [.agg [.fn (.func 139) [] [],.fn (.func 140) [] [],.fn (.func 141) [] [],.fn (.func 142) [] []],.agg (Field.c g),I p,.agg (Outcome.c q),I s,.agg (Outcome.c t)] [] (fun r=>.bool r) r:=by
 refine Qa func225 Z Z Z ?_
 refine G0 16 Z (Cn Z h (fun u h=>?_) (fun u h=>?_))
 ·exact Gc 7 Z (Rt h 12 [])
 refine Gc 3 Z (DSs 21 Z (D 3 Z ?_))
 refine Dz [] h (k_o _ _) Z fun G z h=>D 11 Z ?_
 refine Dz [] h (k_ay _ _ _ _) Z fun J B h=>D 4 Z ?_
 refine Dz [] h (k_w _ _) Z fun L E h=>DS.done Z (Go 5 Z (Bd h fun f a h=>?_))
 refine Ct f [] [] (fun f=>[(12,.bool f)]) (fun _=>[]) (fun _=>rfl) ?_ (fun env H w=>?_)
 ·refine G0 0 Z (DSs 18 Z (D 3 Z (Yb 2 a Z Z Z (fun i a=>?_) (fun i a=>?_))))
  ·exact D 15 Z (DS.done Z (Go 6 Z (Cl a [])))
  ·refine D 3 Z (Yb 5 a Z Z Z (fun j a=>?_) (fun j a=>?_))
   ·refine D 3 Z ?_
    obtain⟨b,k,a⟩:=Yy a
    refine DS.v (x:=(.rp [I b.Bib,.rsl 1 (List.map (Qd .i64) b.Keys),.rsl 1 (List.map (Yo 4 Outcome.c) b.Worlds)])) (Yh (e:=Runner.c) (l:=g.Runners) (v:=b) k runUnderlying27 sizeOf68) ?_ (hg:=(gT Z))
    refine D 5 Z ?_
    obtain⟨d,m,a⟩:=Yy a
    refine DS.v (x:=(.rp [I d.Bib,.rsl 1 (List.map (Qd .i64) d.Keys),.rsl 1 (List.map (Yo 4 Outcome.c) d.Worlds)])) (Yh (e:=Runner.c) (l:=g.Runners) (v:=d) m runUnderlying27 sizeOf68) ?_ (hg:=(gT Z))
    exact D 2 Z (DS.done Z (Cz [] a (k_i _ _ _) Z fun F y a=>Go 5 Z (Cl a [])))
   ·exact D 12 Z (DS.done Z (Go 6 Z (Cl a [])))
 exact Gx 1 Z (TC.le w (Gc 1 Z (Rt h 12 [])))
def F_de(n:Nat)(e:Field)(f:Int)(g:Outcome)(h:Int)(b:List Outcome)(a:Int):Option (Ctl Int (Ctl Unit (Int×Bool))):=
  (bif decide (a<(b.length:Int))then(idx b a).bind fun c=>(F_bv n e f g h c).bind fun d=>(bif (d==(decide (2<1)))then some (.done (.done (a,decide (2<1))))else some (.cont (IntKind.i64.wrap (a+1))))else some (.done (.cont ())))
def F_aj(n:Nat)(b:Field)(e:Int)(f:Int)(g:Outcome)(c:Int):Option (Int×Bool):=
  (F_q n 2 1).bind fun j=>(idx b.Runners c).bind fun h=>(idx h.Worlds e).bind fun i=>(iter (F_de n b f g c i) n 0:Option (Ctl Unit (Int×Bool))).bind fun d=>match d with|.cont a=>(some (0,(!(decide (2<1)))))|.done a=>some a
theorem k_aj(n:Nat)(j:Field)(k:Int)(l:Int)(m:Outcome)(p:Int)(r:Int×Bool)(h:F_aj n j k l m p=some r):
    Csm prog 143 [.agg [.fn (.func 139) [] [],.fn (.func 140) [] [],.fn (.func 141) [] [],.fn (.func 142) [] []],.agg (Field.c j),I k,I l,.agg (Outcome.c m),I p] [] (fun r=>.tup [I r.1,.bool r.2]) r:=by
 refine Qa func143 Z Z Z ?_
 refine G0 13 Z (Cz [] h (k_q _ _ _) Z fun J E h=>Go 9 Z (Bd h fun L q h=>Iz q Z (Go 3 Z (Bd h fun M s h=>Iz s Z (Go 1 Z (Lm Z (Go 3 Z (Bd h fun t u h=>?_))))))))
 refine YS (b:=t) [] [14] (fun _=>[]) (fun _=>[]) (fun _=>rfl) ?_ (fun z env H w x=>?_)
 ·refine G0 1 Z ?_
  refine Lp [0,1,2] [3,5,6,7,10,14,28,29] (fun e=>[(30,I e)]) (fun _=>[]) u (fun _=>rfl) (Lr [0,1,2]) fun e F a d=>?_
  refine G0 6 Z (Yc Z a (fun f a=>?_) (fun f a=>?_))
  ·refine Gc 2 Z (Qj a ?_)
   obtain rfl:=Oj d a
   exact Gx 1 Z (Qm Z (Lr []))
  refine Gc 7 Z (Bd a fun G g a=>Iz g Z (Go 14 Z (Cz [] a (k_bv _ _ _ _ _ _) Z fun y B a=>Go 1 Z ?_)))
  refine vX (.bool (y==(decide (2<1)))) (QdG runUnderlying4) ?_
  refine Go 2 Z (Cn Z a (fun i a=>?_) (fun i a=>?_))
  ·refine Gc 11 Z (Ql a ?_)
   obtain rfl:=Oj d a
   refine Gx 1 Z (Qk (Gx 1 Z ?_))
   obtain rfl:=Oi h
   exact R2 12 13 Z Z (Lr [])
  exact Gc 7 Z (Qi a (Lr [0,1,2]))
 subst w
 refine Gx 1 Z (TC.le x (Gc 9 Z ?_))
 obtain rfl:=Oi h
 exact R2 12 13 Z Z (Lr [])
def F_fw(n:Nat)(f:Field)(g:Int)(h:Int)(b:Outcome)(a:Int×Int):Option (Ctl (Int×Int) Int):=
  (bif decide (a.2<(f.Runners.length:Int))then((bif (a.2==g)then some a.1 else(F_aj n f h g b a.2).bind fun c=>((bif c.2 then some (IntKind.i64.wrap (a.1+1))else some a.1):Option Int).bind fun d=>some d):Option Int).bind fun e=>some (.cont (e,IntKind.i64.wrap (a.2+1)))else some (.done a.1))
def F_jh(n:Nat)(j:Field)(k:Int)(h:Int)(f:List Outcome)(a:ranks_place×Bool×Int):Option (Ctl (ranks_place×Bool×Int) (ranks_place×Bool)):=
  (bif decide (a.2.2<(f.length:Int))then((idx f a.2.2).bind fun c=>(bif c.Out then some (a.1,a.2.1)else(iter (F_fw n j k h c) n (1,0):Option Int).bind fun b=>((bif (!a.2.1)then some true else(F_q n b a.1.rank).bind fun i=>some (decide (b<a.1.rank))):Option Bool).bind fun g=>((bif g then some ({world:=h,outcome:=a.2.2,rank:=b:ranks_place},true)else some (a.1,a.2.1)):Option (ranks_place×Bool)).bind fun d=>some (d.1,d.2)):Option (ranks_place×Bool)).bind fun e=>some (.cont (e.1,e.2,IntKind.i64.wrap (a.2.2+1)))else some (.done (a.1,a.2.1)))
def F_ez(n:Nat)(d:Field)(e:Int)(f:ranks_place×Bool)(g:Int):Option (Ctl (ranks_place×Bool) (ranks_place×Bool)):=
  (idx d.Runners e).bind fun b=>(idx b.Worlds g).bind fun c=>(iter (F_jh n d e g c) n (f.1,f.2,0):Option (ranks_place×Bool)).bind fun a=>some (.cont (a.1,a.2))
def F_am(n:Nat)(b:Field)(d:Int):Option (ranks_place×Bool):=
  (F_e n b).bind fun e=>(F_g n b).bind fun y2=>(QbI (F_ez n b d) y2.1 (z_ranks_place,false):Option (Ctl (ranks_place×Bool) (ranks_place×Bool))).bind fun c=>match c with|.cont a=>(some (a.1,a.2))|.done a=>some a
theorem k_am(n:Nat)(V:Field)(W:Int)(r:ranks_place×Bool)(h:F_am n V W=some r):
    C prog 93 [.agg [.fn (.func 139) [] [],.fn (.func 140) [] [],.fn (.func 141) [] [],.fn (.func 142) [] []],.agg (Field.c V),I W] [] (RQ (fun r=>.tup [.agg (ranks_place.c r.1),.bool r.2]) (fun r=>[.cells 185 (ranks_place.c r.1),.cells 4 [.bool r.2]]) r):=by
 refine Qa func93 Z Z Z ?_
 refine G0 13 Z (Cd [] h (k_e _ _) Z fun r1 am h=>FE Z (Go 3 Z (Bd h fun y2 hy2 h=>Bd h fun ai X h=>?_)))
 refine YR [5] (fun Y=>[.cells 191 [.fn (.func 139) [] [],.fn (.func 140) [] [],.fn (.func 141) [] [],.fn (.func 142) [] []],.cells 29 (Field.c V),.cells 3 [I W],.cells 185 (ranks_place.c Y.1),.cells 4 [.bool Y.2],.dead]) X (k_g _ _ _ hy2) (fun _=>rfl) call135 Z Z Z Z (by decide) Z (Lr [0,1,2,3,4,5]) ?_ ?_
 ·intro Y x4 aj i ac
  refine G0 3 Z (And.intro Z ?_)
  refine G0 6 Z (Bd i fun ak P i=>Iz P Z (Go 3 Z (Bd i fun al Q i=>Iz Q Z (Go 1 Z (Lm Z (Go 3 Z (Bd i fun m R i=>?_)))))))
  refine Ct m [0,1,2,3,4,5] [] (fun _=>[]) (fun m=>[(3,.cells 185 (ranks_place.c m.1)),(4,.cells 4 [.bool m.2])]) (fun _=>rfl) ?_ (fun env H f=>?_)
  ·refine G0 1 Z ?_
   refine Lp [0,1,2,3,4,5] [3,4,5,6,7,8,26,27] (fun j=>[(28,I j.2.2)]) (fun j=>[(3,.cells 185 (ranks_place.c j.1)),(4,.cells 4 [.bool j.2.1])]) R (fun _=>rfl) (Lr [0,1,2,3,4,5]) fun j ad d z=>?_
   refine G0 6 Z (Yc Z d (fun B d=>?_) (fun B d=>?_))
   ·refine Gc 2 Z (Qj d ?_)
    obtain rfl:=Oj z d
    exact Gx 1 Z (QT (Lr [0,1,2,3,4,5]))
   refine Gc 3 Z (Bd d fun p a d=>?_)
   refine Ct p [0,1,2,3,4,5] [3,4,5,6,7,8,26,27,28] (fun _=>[]) (fun p=>[(3,.cells 185 (ranks_place.c p.1)),(4,.cells 4 [.bool p.2])]) (fun _=>rfl) ?_ (fun env H f=>?_)
   ·refine G0 4 Z (Bd a fun ae E a=>Iz E Z (Go 13 Z (Cn Z a (fun F a=>?_) (fun F a=>?_))))
    ·exact Gc 3 Z (Cl a [0,1,2,3,4,5])
    refine Gc 12 Z (Lm Z (Go 3 Z (Bd a fun s T a=>?_)))
    refine Ct s [0,1,2,3,4,5] [3,4,5,6,7,8,9,26,27,28] (fun s=>[(11,I s)]) (fun _=>[]) (fun _=>rfl) ?_ (fun env H f=>?_)
    ·refine G0 1 Z ?_
     refine Lp [0,1,2,3,4,5,6] [3,4,5,6,7,8,9,10,26,27,28,37] (fun t=>[(11,I t.1),(38,I t.2)]) (fun _=>[]) T (fun _=>rfl) (Lr [0,1,2,3,4,5,6]) fun t af e G=>?_
     refine G0 6 Z (Yc Z e (fun J e=>?_) (fun J e=>?_))
     ·refine Gc 2 Z (Qj e ?_)
      obtain rfl:=Oj G e
      exact Gx 1 Z (QT (Lr [0,1,2,3,4,5]))
     refine Gc 3 Z (Bd e fun u b e=>?_)
     refine Ct u [0,1,2,3,4,5,6] [3,4,5,6,7,8,9,10,26,27,28,37,38] (fun u=>[(11,I u)]) (fun _=>[]) (fun _=>rfl) ?_ (fun env H f=>?_)
     ·refine G0 15 Z (Cn Z b (fun L b=>?_) (fun L b=>?_))
      ·exact Gc 3 Z (Cl b [0,1,2,3,4,5,6])
      refine Gc 10 Z (Cd [] b (k_aj _ _ _ _ _ _) Z fun ag aa b=>FE Z (Go 12 Z (Bd b fun w k b=>?_)))
      refine Ct w [0,1,2,3,4,5,6] [3,4,5,6,7,8,9,10,26,27,28,37,38] (fun w=>[(11,I w)]) (fun _=>[]) (fun _=>rfl) ?_ (fun env H f=>?_)
      ·refine G0 0 Z (Cn Z k (fun M k=>?_) (fun M k=>?_))
       ·exact Gc 5 Z (Cl k [0,1,2,3,4,5,6])
       exact Gc 1 Z (Cl k [0,1,2,3,4,5,6])
      refine Gx 1 Z ?_
      cases b
      exact QT (Le.trans f (Lr [0,1,2,3,4,5,6]))
     exact Gx 1 Z (TC.le f (Gc 4 Z (Qi e (Lr [0,1,2,3,4,5,6]))))
    refine Gx 1 Z (TC.le f (Gc 1 Z (Bd a fun x g a=>?_)))
    refine Ct x [0,1,2,3,4,5] [3,4,5,6,7,8,9,11,26,27,28] (fun x=>[(67,.bool x)]) (fun _=>[]) (fun _=>rfl) ?_ (fun env H f=>?_)
    ·refine G0 4 Z (Is 60 g Z (fun N g=>?_) (fun N g=>?_))
     ·exact Go 8 Z (Cl g [0,1,2,3,4,5])
     ·exact Go 5 Z (Cz [] g (k_q _ _ _) Z fun ah ab g=>Go 2 Z (Cl g [0,1,2,3,4,5]))
    refine Gx 1 Z (TC.le f (Bd a fun q l a=>?_))
    refine Ct q [0,1,2,3,4,5] [3,4,5,6,7,8,26,27,28] (fun _=>[]) (fun q=>[(3,.cells 185 (ranks_place.c q.1)),(4,.cells 4 [.bool q.2])]) (fun _=>rfl) ?_ (fun env H f=>?_)
    ·refine G0 0 Z (Cn Z l (fun O l=>?_) (fun O l=>?_))
     ·exact Gc 8 Z (Cl l [0,1,2,3,4,5])
     exact Gc 1 Z (Cl l [0,1,2,3,4,5])
    refine Gx 1 Z ?_
    cases a
    exact QT (Le.trans f (Lr [0,1,2,3,4,5]))
   exact Gx 1 Z (TC.le f (Gc 4 Z (Qi d (Lr [0,1,2,3,4,5]))))
  exact Gx 1 Z (QaH i (Le.trans f (Lr [0,1,2,3,4,5])))
 rintro y rfl
 refine Gx 3 Z ?_
 refine TC.draw0 3 [73,74,1000002] [.agg (ranks_place.c y.1),.bool y.2,.any] draws Z Z Z ?_ ?_
 ·refine ov (ov (Oq.c ?_ (Oq.n)))
  ·refine Om2 Z (sO 6 (sD 0 sN)) ?_
   refine vU (OpU.store Z Z Z sizeOf185 Z Z Z Z Z Z Z) ?_
   exact FE Z Wp
 refine Go 4 Z ?_
 obtain rfl:=Oi h
 exact Rx [3,4] [6,7] Z (QC Z Z (Qgc.cons (Qs isAgg185 sizeOf185 Z Z Z) (Qgc.cons (Qn isAgg4 Z Z) Qgc.nil))) ⟨Z,Z⟩
def F_bx(n:Nat):Option Unit:=
  some ()
theorem k_bx(n:Nat)(r:Unit)(h:F_bx n=some r):
    C prog 94 [] [] (RQ (fun _=>.agg [.fn (.func 140) [] [],.fn (.func 139) [] [],.fn (.func 144) [] [],.fn (.func 145) [] []]) (fun _=>[.cells 191 [.fn (.func 140) [] [],.fn (.func 139) [] [],.fn (.func 144) [] [],.fn (.func 145) [] []]]) r):=by
 refine Qa func94 Z Z Z ?_
 refine G0 12 Z ?_
 obtain rfl:=Oi h
 exact Rx [0] [0] Z (QL Z (Qs isAgg191 sizeOf191 Z Z Z)) ⟨Z,Z⟩
def F_p(n:Nat)(a:Int)(b:Int):Option Unit:=
  some ()
theorem k_p(n:Nat)(a:Int)(b:Int)(r:Unit)(h:F_p n a b=some r):
    Csm prog 145 [I a,I b] [] (fun _=>.bool (decide (b<a))) r:=by
 refine Qa func145 Z Z Z ?_
 exact G0 14 Z (Rt h 4 [])
def F_au(n:Nat)(a:List (List Int))(b:Int)(c:Int):Option Int:=
  (idx a c).bind fun d=>(idx d b).bind fun e=>some (IntKind.i64.wrap (0-e))
theorem k_au(n:Nat)(a:List (List Int))(b:Int)(c:Int)(r:Int)(h:F_au n a b c=some r):
    Csm prog 144 [.rsl 1 (List.map (Yo 1 (Qd .i64)) a),I b,I c] [] (fun r=>I r) r:=by
 refine Qa func144 Z Z Z ?_
 exact G0 9 Z (Bd h fun f d h=>Iz d Z (Go 2 Z (Bd h fun g e h=>Iz e Z (Go 6 Z (Rt h 6 [])))))
def F_br(n:Nat)(c:Field)(i:Int)(b:Outcome)(j:Int)(a:Outcome):Option Bool:=
  (bif a.Out then some false else(F_w n a).bind fun k=>(F_au n c.Clocks.Far (IntKind.i64.wrap (b.Seg+1)) (IntKind.i64.wrap (a.Seg+1))).bind fun d=>(F_o n b).bind fun l=>((bif decide ((IntKind.i64.wrap ((IntKind.i64.wrap (a.Lo+d))-b.Hi))<0)then some true else(bif ((IntKind.i64.wrap ((IntKind.i64.wrap (a.Lo+d))-b.Hi))==0)then(idx c.Runners j).bind fun e=>(idx c.Runners i).bind fun f=>(F_i n e.Keys f.Keys).bind fun g=>some (decide (g<0))else some false)):Option Bool).bind fun h=>some h)
theorem k_br(n:Nat)(g:Field)(p:Int)(q:Outcome)(s:Int)(t:Outcome)(r:Bool)(h:F_br n g p q s t=some r):
    Csm prog 225 [.agg [.fn (.func 140) [] [],.fn (.func 139) [] [],.fn (.func 144) [] [],.fn (.func 145) [] []],.agg (Field.c g),I p,.agg (Outcome.c q),I s,.agg (Outcome.c t)] [] (fun r=>.bool r) r:=by
 refine Qa func225 Z Z Z ?_
 refine G0 16 Z (Cn Z h (fun u h=>?_) (fun u h=>?_))
 ·exact Gc 7 Z (Rt h 12 [])
 refine Gc 3 Z (DSs 21 Z (D 3 Z ?_))
 refine Dz [] h (k_w _ _) Z fun G z h=>D 11 Z ?_
 refine Dz [] h (k_au _ _ _ _) Z fun J B h=>D 4 Z ?_
 refine Dz [] h (k_o _ _) Z fun L E h=>DS.done Z (Go 5 Z (Bd h fun f a h=>?_))
 refine Ct f [] [] (fun f=>[(12,.bool f)]) (fun _=>[]) (fun _=>rfl) ?_ (fun env H w=>?_)
 ·refine G0 0 Z (DSs 18 Z (D 3 Z (Yb 2 a Z Z Z (fun i a=>?_) (fun i a=>?_))))
  ·exact D 15 Z (DS.done Z (Go 6 Z (Cl a [])))
  ·refine D 3 Z (Yb 5 a Z Z Z (fun j a=>?_) (fun j a=>?_))
   ·refine D 3 Z ?_
    obtain⟨b,k,a⟩:=Yy a
    refine DS.v (x:=(.rp [I b.Bib,.rsl 1 (List.map (Qd .i64) b.Keys),.rsl 1 (List.map (Yo 4 Outcome.c) b.Worlds)])) (Yh (e:=Runner.c) (l:=g.Runners) (v:=b) k runUnderlying27 sizeOf68) ?_ (hg:=(gT Z))
    refine D 5 Z ?_
    obtain⟨d,m,a⟩:=Yy a
    refine DS.v (x:=(.rp [I d.Bib,.rsl 1 (List.map (Qd .i64) d.Keys),.rsl 1 (List.map (Yo 4 Outcome.c) d.Worlds)])) (Yh (e:=Runner.c) (l:=g.Runners) (v:=d) m runUnderlying27 sizeOf68) ?_ (hg:=(gT Z))
    exact D 2 Z (DS.done Z (Cz [] a (k_i _ _ _) Z fun F y a=>Go 5 Z (Cl a [])))
   ·exact D 12 Z (DS.done Z (Go 6 Z (Cl a [])))
 exact Gx 1 Z (TC.le w (Gc 1 Z (Rt h 12 [])))
def F_di(n:Nat)(e:Field)(f:Int)(g:Outcome)(h:Int)(b:List Outcome)(a:Int):Option (Ctl Int (Ctl Unit (Int×Bool))):=
  (bif decide (a<(b.length:Int))then(idx b a).bind fun c=>(F_br n e f g h c).bind fun d=>(bif (d==(decide (1<2)))then some (.done (.done (a,decide (1<2))))else some (.cont (IntKind.i64.wrap (a+1))))else some (.done (.cont ())))
def F_ag(n:Nat)(b:Field)(e:Int)(f:Int)(g:Outcome)(c:Int):Option (Int×Bool):=
  (F_p n 2 1).bind fun j=>(idx b.Runners c).bind fun h=>(idx h.Worlds e).bind fun i=>(iter (F_di n b f g c i) n 0:Option (Ctl Unit (Int×Bool))).bind fun d=>match d with|.cont a=>(some (0,(!(decide (1<2)))))|.done a=>some a
theorem k_ag(n:Nat)(j:Field)(k:Int)(l:Int)(m:Outcome)(p:Int)(r:Int×Bool)(h:F_ag n j k l m p=some r):
    Csm prog 143 [.agg [.fn (.func 140) [] [],.fn (.func 139) [] [],.fn (.func 144) [] [],.fn (.func 145) [] []],.agg (Field.c j),I k,I l,.agg (Outcome.c m),I p] [] (fun r=>.tup [I r.1,.bool r.2]) r:=by
 refine Qa func143 Z Z Z ?_
 refine G0 13 Z (Cz [] h (k_p _ _ _) Z fun J E h=>Go 9 Z (Bd h fun L q h=>Iz q Z (Go 3 Z (Bd h fun M s h=>Iz s Z (Go 1 Z (Lm Z (Go 3 Z (Bd h fun t u h=>?_))))))))
 refine YS (b:=t) [] [14] (fun _=>[]) (fun _=>[]) (fun _=>rfl) ?_ (fun z env H w x=>?_)
 ·refine G0 1 Z ?_
  refine Lp [0,1,2] [3,5,6,7,10,14,28,29] (fun e=>[(30,I e)]) (fun _=>[]) u (fun _=>rfl) (Lr [0,1,2]) fun e F a d=>?_
  refine G0 6 Z (Yc Z a (fun f a=>?_) (fun f a=>?_))
  ·refine Gc 2 Z (Qj a ?_)
   obtain rfl:=Oj d a
   exact Gx 1 Z (Qm Z (Lr []))
  refine Gc 7 Z (Bd a fun G g a=>Iz g Z (Go 14 Z (Cz [] a (k_br _ _ _ _ _ _) Z fun y B a=>Go 1 Z ?_)))
  refine vX (.bool (y==(decide (1<2)))) (QdG runUnderlying4) ?_
  refine Go 2 Z (Cn Z a (fun i a=>?_) (fun i a=>?_))
  ·refine Gc 11 Z (Ql a ?_)
   obtain rfl:=Oj d a
   refine Gx 1 Z (Qk (Gx 1 Z ?_))
   obtain rfl:=Oi h
   exact R2 12 13 Z Z (Lr [])
  exact Gc 7 Z (Qi a (Lr [0,1,2]))
 subst w
 refine Gx 1 Z (TC.le x (Gc 9 Z ?_))
 obtain rfl:=Oi h
 exact R2 12 13 Z Z (Lr [])
def F_hx(n:Nat)(f:Field)(g:Int)(h:Int)(b:Outcome)(a:Int×Int):Option (Ctl (Int×Int) Int):=
  (bif decide (a.2<(f.Runners.length:Int))then((bif (a.2==g)then some a.1 else(F_ag n f h g b a.2).bind fun c=>((bif c.2 then some (IntKind.i64.wrap (a.1+1))else some a.1):Option Int).bind fun d=>some d):Option Int).bind fun e=>some (.cont (e,IntKind.i64.wrap (a.2+1)))else some (.done a.1))
def F_jb(n:Nat)(j:Field)(k:Int)(h:Int)(f:List Outcome)(a:ranks_place×Bool×Int):Option (Ctl (ranks_place×Bool×Int) (ranks_place×Bool)):=
  (bif decide (a.2.2<(f.length:Int))then((idx f a.2.2).bind fun c=>(bif c.Out then some (a.1,a.2.1)else(iter (F_hx n j k h c) n (1,0):Option Int).bind fun b=>((bif (!a.2.1)then some true else(F_p n b a.1.rank).bind fun i=>some (decide (a.1.rank<b))):Option Bool).bind fun g=>((bif g then some ({world:=h,outcome:=a.2.2,rank:=b:ranks_place},true)else some (a.1,a.2.1)):Option (ranks_place×Bool)).bind fun d=>some (d.1,d.2)):Option (ranks_place×Bool)).bind fun e=>some (.cont (e.1,e.2,IntKind.i64.wrap (a.2.2+1)))else some (.done (a.1,a.2.1)))
def F_dx(n:Nat)(d:Field)(e:Int)(f:ranks_place×Bool)(g:Int):Option (Ctl (ranks_place×Bool) (ranks_place×Bool)):=
  (idx d.Runners e).bind fun b=>(idx b.Worlds g).bind fun c=>(iter (F_jb n d e g c) n (f.1,f.2,0):Option (ranks_place×Bool)).bind fun a=>some (.cont (a.1,a.2))
def F_af(n:Nat)(b:Field)(d:Int):Option (ranks_place×Bool):=
  (F_e n b).bind fun e=>(F_g n b).bind fun y2=>(QbI (F_dx n b d) y2.1 (z_ranks_place,false):Option (Ctl (ranks_place×Bool) (ranks_place×Bool))).bind fun c=>match c with|.cont a=>(some (a.1,a.2))|.done a=>some a
theorem k_af(n:Nat)(V:Field)(W:Int)(r:ranks_place×Bool)(h:F_af n V W=some r):
    C prog 93 [.agg [.fn (.func 140) [] [],.fn (.func 139) [] [],.fn (.func 144) [] [],.fn (.func 145) [] []],.agg (Field.c V),I W] [] (RQ (fun r=>.tup [.agg (ranks_place.c r.1),.bool r.2]) (fun r=>[.cells 185 (ranks_place.c r.1),.cells 4 [.bool r.2]]) r):=by
 refine Qa func93 Z Z Z ?_
 refine G0 13 Z (Cd [] h (k_e _ _) Z fun r1 am h=>FE Z (Go 3 Z (Bd h fun y2 hy2 h=>Bd h fun ai X h=>?_)))
 refine YR [5] (fun Y=>[.cells 191 [.fn (.func 140) [] [],.fn (.func 139) [] [],.fn (.func 144) [] [],.fn (.func 145) [] []],.cells 29 (Field.c V),.cells 3 [I W],.cells 185 (ranks_place.c Y.1),.cells 4 [.bool Y.2],.dead]) X (k_g _ _ _ hy2) (fun _=>rfl) call135 Z Z Z Z (by decide) Z (Lr [0,1,2,3,4,5]) ?_ ?_
 ·intro Y x4 aj i ac
  refine G0 3 Z (And.intro Z ?_)
  refine G0 6 Z (Bd i fun ak P i=>Iz P Z (Go 3 Z (Bd i fun al Q i=>Iz Q Z (Go 1 Z (Lm Z (Go 3 Z (Bd i fun m R i=>?_)))))))
  refine Ct m [0,1,2,3,4,5] [] (fun _=>[]) (fun m=>[(3,.cells 185 (ranks_place.c m.1)),(4,.cells 4 [.bool m.2])]) (fun _=>rfl) ?_ (fun env H f=>?_)
  ·refine G0 1 Z ?_
   refine Lp [0,1,2,3,4,5] [3,4,5,6,7,8,26,27] (fun j=>[(28,I j.2.2)]) (fun j=>[(3,.cells 185 (ranks_place.c j.1)),(4,.cells 4 [.bool j.2.1])]) R (fun _=>rfl) (Lr [0,1,2,3,4,5]) fun j ad d z=>?_
   refine G0 6 Z (Yc Z d (fun B d=>?_) (fun B d=>?_))
   ·refine Gc 2 Z (Qj d ?_)
    obtain rfl:=Oj z d
    exact Gx 1 Z (QT (Lr [0,1,2,3,4,5]))
   refine Gc 3 Z (Bd d fun p a d=>?_)
   refine Ct p [0,1,2,3,4,5] [3,4,5,6,7,8,26,27,28] (fun _=>[]) (fun p=>[(3,.cells 185 (ranks_place.c p.1)),(4,.cells 4 [.bool p.2])]) (fun _=>rfl) ?_ (fun env H f=>?_)
   ·refine G0 4 Z (Bd a fun ae E a=>Iz E Z (Go 13 Z (Cn Z a (fun F a=>?_) (fun F a=>?_))))
    ·exact Gc 3 Z (Cl a [0,1,2,3,4,5])
    refine Gc 12 Z (Lm Z (Go 3 Z (Bd a fun s T a=>?_)))
    refine Ct s [0,1,2,3,4,5] [3,4,5,6,7,8,9,26,27,28] (fun s=>[(11,I s)]) (fun _=>[]) (fun _=>rfl) ?_ (fun env H f=>?_)
    ·refine G0 1 Z ?_
     refine Lp [0,1,2,3,4,5,6] [3,4,5,6,7,8,9,10,26,27,28,37] (fun t=>[(11,I t.1),(38,I t.2)]) (fun _=>[]) T (fun _=>rfl) (Lr [0,1,2,3,4,5,6]) fun t af e G=>?_
     refine G0 6 Z (Yc Z e (fun J e=>?_) (fun J e=>?_))
     ·refine Gc 2 Z (Qj e ?_)
      obtain rfl:=Oj G e
      exact Gx 1 Z (QT (Lr [0,1,2,3,4,5]))
     refine Gc 3 Z (Bd e fun u b e=>?_)
     refine Ct u [0,1,2,3,4,5,6] [3,4,5,6,7,8,9,10,26,27,28,37,38] (fun u=>[(11,I u)]) (fun _=>[]) (fun _=>rfl) ?_ (fun env H f=>?_)
     ·refine G0 15 Z (Cn Z b (fun L b=>?_) (fun L b=>?_))
      ·exact Gc 3 Z (Cl b [0,1,2,3,4,5,6])
      refine Gc 10 Z (Cd [] b (k_ag _ _ _ _ _ _) Z fun ag aa b=>FE Z (Go 12 Z (Bd b fun w k b=>?_)))
      refine Ct w [0,1,2,3,4,5,6] [3,4,5,6,7,8,9,10,26,27,28,37,38] (fun w=>[(11,I w)]) (fun _=>[]) (fun _=>rfl) ?_ (fun env H f=>?_)
      ·refine G0 0 Z (Cn Z k (fun M k=>?_) (fun M k=>?_))
       ·exact Gc 5 Z (Cl k [0,1,2,3,4,5,6])
       exact Gc 1 Z (Cl k [0,1,2,3,4,5,6])
      refine Gx 1 Z ?_
      cases b
      exact QT (Le.trans f (Lr [0,1,2,3,4,5,6]))
     exact Gx 1 Z (TC.le f (Gc 4 Z (Qi e (Lr [0,1,2,3,4,5,6]))))
    refine Gx 1 Z (TC.le f (Gc 1 Z (Bd a fun x g a=>?_)))
    refine Ct x [0,1,2,3,4,5] [3,4,5,6,7,8,9,11,26,27,28] (fun x=>[(67,.bool x)]) (fun _=>[]) (fun _=>rfl) ?_ (fun env H f=>?_)
    ·refine G0 4 Z (Is 60 g Z (fun N g=>?_) (fun N g=>?_))
     ·exact Go 8 Z (Cl g [0,1,2,3,4,5])
     ·exact Go 5 Z (Cz [] g (k_p _ _ _) Z fun ah ab g=>Go 2 Z (Cl g [0,1,2,3,4,5]))
    refine Gx 1 Z (TC.le f (Bd a fun q l a=>?_))
    refine Ct q [0,1,2,3,4,5] [3,4,5,6,7,8,26,27,28] (fun _=>[]) (fun q=>[(3,.cells 185 (ranks_place.c q.1)),(4,.cells 4 [.bool q.2])]) (fun _=>rfl) ?_ (fun env H f=>?_)
    ·refine G0 0 Z (Cn Z l (fun O l=>?_) (fun O l=>?_))
     ·exact Gc 8 Z (Cl l [0,1,2,3,4,5])
     exact Gc 1 Z (Cl l [0,1,2,3,4,5])
    refine Gx 1 Z ?_
    cases a
    exact QT (Le.trans f (Lr [0,1,2,3,4,5]))
   exact Gx 1 Z (TC.le f (Gc 4 Z (Qi d (Lr [0,1,2,3,4,5]))))
  exact Gx 1 Z (QaH i (Le.trans f (Lr [0,1,2,3,4,5])))
 rintro y rfl
 refine Gx 3 Z ?_
 refine TC.draw0 3 [73,74,1000002] [.agg (ranks_place.c y.1),.bool y.2,.any] draws Z Z Z ?_ ?_
 ·refine ov (ov (Oq.c ?_ (Oq.n)))
  ·refine Om2 Z (sO 6 (sD 0 sN)) ?_
   refine vU (OpU.store Z Z Z sizeOf185 Z Z Z Z Z Z Z) ?_
   exact FE Z Wp
 refine Go 4 Z ?_
 obtain rfl:=Oi h
 exact Rx [3,4] [6,7] Z (QC Z Z (Qgc.cons (Qs isAgg185 sizeOf185 Z Z Z) (Qgc.cons (Qn isAgg4 Z Z) Qgc.nil))) ⟨Z,Z⟩
def F_fd(n:Nat)(f:Field)(g:Int)(a:Rank)(h:Int):Option (Ctl Rank Rank):=
  ((bif a.Out then some ({a with Out:=true:Rank})else(idx f.Runners g).bind fun b=>(idx b.Worlds h).bind fun c=>(F_ca n c).bind fun d=>some ({a with Out:=d:Rank})):Option Rank).bind fun e=>some (.cont e)
def F_bc(n:Nat)(c:Field)(e:Int):Option Rank:=
  (idx c.Runners e).bind fun i=>(F_e n c).bind fun l=>(F_g n c).bind fun y3=>(QbI (F_fd n c e) y3.1 ({z_Rank with Bib:=i.Bib,Kind:=3:Rank}):Option (Ctl Rank Rank)).bind fun f=>match f with|.cont a=>((F_ba n).bind fun j=>(F_am n c e).bind fun b=>(bif (!b.2)then some a else(F_bx n).bind fun k=>(F_af n c e).bind fun d=>((bif (b.1.rank==d.1.rank)then some (!a.Out)else some false):Option Bool).bind fun g=>((bif g then some ({a with Kind:=1,Lo:=b.1.rank,Hi:=d.1.rank:Rank})else some ({a with Kind:=2,Lo:=b.1.rank,Hi:=d.1.rank:Rank})):Option Rank).bind fun h=>some h))|.done a=>some a
theorem k_bc(n:Nat)(e:Field)(f:Int)(r:Rank)(h:F_bc n e f=some r):
    C prog 59 [.agg (Field.c e),I f] [] (RQ (fun r=>.agg (Rank.c r)) (fun r=>[.cells 78 (Rank.c r)]) r):=by
 refine Qa func59 Z Z Z ?_
 refine G0 12 Z (Bd h fun Y G h=>Iz G Z (Go 11 Z (Cd [] h (k_e _ _) Z fun r2 O h=>FE Z (Go 3 Z (Bd h fun y3 hy3 h=>Bd h fun P J h=>?_)))))
 refine YR [4] (fun L=>[.cells 29 (Field.c e),.cells 3 [I f],.cells 78 (Rank.c z_Rank),.cells 78 (Rank.c L),.dead]) J (k_g _ _ _ hy3) (fun _=>rfl) call135 Z Z Z Z (by decide) Z (Lr [0,1,2,3,4]) ?_ ?_
 ·intro L x5 Q l M
  refine G0 3 Z (And.intro Z ?_)
  refine G0 1 Z (Bd l fun m g l=>?_)
  refine Ct m [0,1,2,3,4] [] (fun _=>[]) (fun m=>[(3,.cells 78 (Rank.c m))]) (fun _=>rfl) ?_ (fun env H i=>?_)
  ·refine G0 4 Z (Is 23 g Z (fun x g=>?_) (fun x g=>?_))
   ·exact Go 14 Z (Cl g [0,1,2,3,4])
   ·exact Go 3 Z (Bd g fun R y g=>Iz y Z (Go 3 Z (Bd g fun T z g=>Iz z Z (Go 1 Z (Cz [] g (k_ca _ _) Z fun V N g=>Go 4 Z (Cl g [0,1,2,3,4]))))))
  exact Gx 1 Z (QaH l (Le.trans i (Lr [0,1,2,3,4])))
 rintro d rfl
 refine Gx 3 Z ?_
 obtain⟨W,p,h⟩:=Yy h
 obtain⟨a,q,h⟩:=Yy h
 refine QaU 9 1 [37,38,39,40,36,41,42,7,1000008] [true,false,false,true,false,false,false,true,true] [[],[],[],[0],[0,3],[0,3],[0,3],[],[0,3,7]] [[],[0],[7],[0,3],[0,7],[0,3,7],[0,3,7,8]] [[(0,1),(2,4)],[(0,0),(1,1),(2,2),(3,3),(4,4),(5,5),(6,6)],[(0,0),(1,1),(2,2),(3,3),(4,4),(5,5),(6,6)],[(1,3),(4,5)],[(3,3),(5,5),(6,6)],[(3,3),(5,5),(6,6)],[(3,3),(5,5),(6,6)],[(0,2),(1,4),(3,5)],[(5,6)]] [.agg [.fn (.func 139) [] [],.fn (.func 140) [] [],.fn (.func 141) [] [],.fn (.func 142) [] []],.agg (Field.c e),I f,.tup [.agg (ranks_place.c a.1),.bool a.2],.tup [.agg (ranks_place.c a.1),.bool a.2],.agg (ranks_place.c a.1),.bool a.2,.ptr 5 0,.any] [[.cells 29 (Field.c e),.cells 3 [I f],.cells 78 (Rank.c z_Rank),.cells 78 (Rank.c d),.dead,.dead],[.cells 29 (Field.c e),.cells 3 [I f],.cells 78 (Rank.c z_Rank),.cells 78 (Rank.c d),.dead,.dead,.cells 191 [.fn (.func 139) [] [],.fn (.func 140) [] [],.fn (.func 141) [] [],.fn (.func 142) [] []]],[.cells 29 (Field.c e),.cells 3 [I f],.cells 78 (Rank.c z_Rank),.cells 78 (Rank.c d),.dead,.cells 185 (ranks_place.c z_ranks_place)],[.cells 29 (Field.c e),.cells 3 [I f],.cells 78 (Rank.c z_Rank),.cells 78 (Rank.c d),.dead,.dead,.cells 191 [.fn (.func 139) [] [],.fn (.func 140) [] [],.fn (.func 141) [] [],.fn (.func 142) [] []],.cells 185 (ranks_place.c a.1),.cells 4 [.bool a.2]],[.cells 29 (Field.c e),.cells 3 [I f],.cells 78 (Rank.c z_Rank),.cells 78 (Rank.c d),.dead,.cells 185 (ranks_place.c z_ranks_place),.cells 191 [.fn (.func 139) [] [],.fn (.func 140) [] [],.fn (.func 141) [] [],.fn (.func 142) [] []]],[.cells 29 (Field.c e),.cells 3 [I f],.cells 78 (Rank.c z_Rank),.cells 78 (Rank.c d),.dead,.cells 185 (ranks_place.c z_ranks_place),.cells 191 [.fn (.func 139) [] [],.fn (.func 140) [] [],.fn (.func 141) [] [],.fn (.func 142) [] []],.cells 185 (ranks_place.c a.1),.cells 4 [.bool a.2]],[.cells 29 (Field.c e),.cells 3 [I f],.cells 78 (Rank.c z_Rank),.cells 78 (Rank.c d),.dead,.cells 185 (ranks_place.c a.1),.cells 191 [.fn (.func 139) [] [],.fn (.func 140) [] [],.fn (.func 141) [] [],.fn (.func 142) [] []],.cells 185 (ranks_place.c a.1),.cells 4 [.bool a.2]]] ([.cells 29 (Field.c e),.cells 3 [I f],.cells 78 (Rank.c z_Rank),.cells 78 (Rank.c d),.dead,.cells 185 (ranks_place.c a.1),.cells 191 [.fn (.func 139) [] [],.fn (.func 140) [] [],.fn (.func 141) [] [],.fn (.func 142) [] []],.cells 185 (ranks_place.c a.1),.cells 4 [.bool a.2]]) draws Z Z Z Z Z Z Z ?_ Z ?_
 ·refine QeV.cons ?_ (QeV.cons (Qe (v0 Z Z) (Qe (v0 Z Z) (Qe (v0 Z Z) (Qe (v0 Z Z) (Qe (v0 Z Z) (Qe (v0 Z Z) (Qe (v0 Z Z) (QA)))))))) (QeV.cons (Qe (v0 Z Z) (Qe (v0 Z Z) (Qe (v0 Z Z) (Qe (v0 Z Z) (Qe (v0 Z Z) (Qe (v0 Z Z) (Qe (v0 Z Z) (QA)))))))) (QeV.cons ?_ (QeV.cons (Qe (v0 Z Z) (Qe (v0 Z Z) (Qe (v0 Z Z) (QA)))) (QeV.cons (Qe (v0 Z Z) (Qe (v0 Z Z) (Qe (v0 Z Z) (QA)))) (QeV.cons (Qe (v0 Z Z) (Qe (v0 Z Z) (Qe (v0 Z Z) (QA)))) (QeV.cons ?_ (QeV.cons ?_ (QeV.nil)))))))))
  ·refine Qe ?_ (Qe ?_ (QA))
   ·refine Om1 Z sN ?_
    refine Qu [] (OpC.fn call92 Z Z Z) (k_ba _ _ p) ?_
    rintro _ _ ⟨rfl,rfl⟩
    exact FE Z Wp
   ·refine Om1 Z sN ?_
    refine Qu [] (OpC.fn call92 Z Z Z) (k_ba _ _ p) ?_
    rintro _ _ ⟨rfl,rfl⟩
    exact FE Z Wp
  ·refine Qe ?_ (Qe ?_ (QA))
   ·refine Om1 Z (sD 0 (sD 1 (sD 2 sN))) ?_
    refine Qu [] (OpC.fn call93 Z Z Z) (k_am _ _ _ _ q) ?_
    rintro _ _ ⟨rfl,rfl⟩
    exact FE Z Wp
   ·refine Om1 Z (sD 0 (sD 1 (sD 2 sN))) ?_
    refine Qu [] (OpC.fn call93 Z Z Z) (k_am _ _ _ _ q) ?_
    rintro _ _ ⟨rfl,rfl⟩
    exact FE Z Wp
  ·refine Qe ?_ (Qe ?_ (Qe ?_ (QA)))
   ·exact Qad.alloc _ 7 185 5 _ Z Z Z Z Z Z Z (OpZ.alloc (v:=(.agg [I 0,I 0,I 0])) zeroValue185 (zrC Z)) Z
   ·exact Qad.alloc _ 7 185 5 _ Z Z Z Z Z Z Z (OpZ.alloc (v:=(.agg [I 0,I 0,I 0])) zeroValue185 (zrC Z)) Z
   ·exact Qad.alloc _ 7 185 5 _ Z Z Z Z Z Z Z (OpZ.alloc (v:=(.agg [I 0,I 0,I 0])) zeroValue185 (zrC Z)) Z
  ·refine Qe ?_ (QA)
   ·refine Om2 Z (sD 7 (sD 5 sN)) ?_
    refine vU (OpU.store Z Z Z sizeOf185 Z Z Z Z Z Z Z) ?_
    exact FE Z Wp
 refine Go 10 Z (Cn Z h (fun B h=>?_) (fun B h=>?_))
 ·refine Gc 8 Z ?_
  obtain rfl:=Oi h
  exact Rx [2] [4] Z (QL Z (Qs isAgg78 sizeOf78 Z Z Z)) ⟨Z,Z⟩
 refine Gc 3 Z ?_
 obtain⟨X,s,h⟩:=Yy h
 obtain⟨b,t,h⟩:=Yy h
 refine QaU 9 1 [47,48,49,50,46,51,52,9,1000008] [true,false,false,true,false,false,false,true,true] [[],[],[],[0],[0,3],[0,3],[0,3],[],[0,3,7]] [[],[0],[7],[0,3],[0,7],[0,3,7],[0,3,7,8]] [[(0,1),(2,4)],[(0,0),(1,1),(2,2),(3,3),(4,4),(5,5),(6,6)],[(0,0),(1,1),(2,2),(3,3),(4,4),(5,5),(6,6)],[(1,3),(4,5)],[(3,3),(5,5),(6,6)],[(3,3),(5,5),(6,6)],[(3,3),(5,5),(6,6)],[(0,2),(1,4),(3,5)],[(5,6)]] [.agg [.fn (.func 140) [] [],.fn (.func 139) [] [],.fn (.func 144) [] [],.fn (.func 145) [] []],.agg (Field.c e),I f,.tup [.agg (ranks_place.c b.1),.bool b.2],.tup [.agg (ranks_place.c b.1),.bool b.2],.agg (ranks_place.c b.1),.bool b.2,.ptr 9 0,.any] [[.cells 29 (Field.c e),.cells 3 [I f],.cells 78 (Rank.c z_Rank),.cells 78 (Rank.c d),.dead,.cells 185 (ranks_place.c a.1),.cells 191 [.fn (.func 139) [] [],.fn (.func 140) [] [],.fn (.func 141) [] [],.fn (.func 142) [] []],.cells 185 (ranks_place.c a.1),.cells 4 [.bool a.2],.dead],[.cells 29 (Field.c e),.cells 3 [I f],.cells 78 (Rank.c z_Rank),.cells 78 (Rank.c d),.dead,.cells 185 (ranks_place.c a.1),.cells 191 [.fn (.func 139) [] [],.fn (.func 140) [] [],.fn (.func 141) [] [],.fn (.func 142) [] []],.cells 185 (ranks_place.c a.1),.cells 4 [.bool a.2],.dead,.cells 191 [.fn (.func 140) [] [],.fn (.func 139) [] [],.fn (.func 144) [] [],.fn (.func 145) [] []]],[.cells 29 (Field.c e),.cells 3 [I f],.cells 78 (Rank.c z_Rank),.cells 78 (Rank.c d),.dead,.cells 185 (ranks_place.c a.1),.cells 191 [.fn (.func 139) [] [],.fn (.func 140) [] [],.fn (.func 141) [] [],.fn (.func 142) [] []],.cells 185 (ranks_place.c a.1),.cells 4 [.bool a.2],.cells 185 (ranks_place.c z_ranks_place)],[.cells 29 (Field.c e),.cells 3 [I f],.cells 78 (Rank.c z_Rank),.cells 78 (Rank.c d),.dead,.cells 185 (ranks_place.c a.1),.cells 191 [.fn (.func 139) [] [],.fn (.func 140) [] [],.fn (.func 141) [] [],.fn (.func 142) [] []],.cells 185 (ranks_place.c a.1),.cells 4 [.bool a.2],.dead,.cells 191 [.fn (.func 140) [] [],.fn (.func 139) [] [],.fn (.func 144) [] [],.fn (.func 145) [] []],.cells 185 (ranks_place.c b.1),.cells 4 [.bool b.2]],[.cells 29 (Field.c e),.cells 3 [I f],.cells 78 (Rank.c z_Rank),.cells 78 (Rank.c d),.dead,.cells 185 (ranks_place.c a.1),.cells 191 [.fn (.func 139) [] [],.fn (.func 140) [] [],.fn (.func 141) [] [],.fn (.func 142) [] []],.cells 185 (ranks_place.c a.1),.cells 4 [.bool a.2],.cells 185 (ranks_place.c z_ranks_place),.cells 191 [.fn (.func 140) [] [],.fn (.func 139) [] [],.fn (.func 144) [] [],.fn (.func 145) [] []]],[.cells 29 (Field.c e),.cells 3 [I f],.cells 78 (Rank.c z_Rank),.cells 78 (Rank.c d),.dead,.cells 185 (ranks_place.c a.1),.cells 191 [.fn (.func 139) [] [],.fn (.func 140) [] [],.fn (.func 141) [] [],.fn (.func 142) [] []],.cells 185 (ranks_place.c a.1),.cells 4 [.bool a.2],.cells 185 (ranks_place.c z_ranks_place),.cells 191 [.fn (.func 140) [] [],.fn (.func 139) [] [],.fn (.func 144) [] [],.fn (.func 145) [] []],.cells 185 (ranks_place.c b.1),.cells 4 [.bool b.2]],[.cells 29 (Field.c e),.cells 3 [I f],.cells 78 (Rank.c z_Rank),.cells 78 (Rank.c d),.dead,.cells 185 (ranks_place.c a.1),.cells 191 [.fn (.func 139) [] [],.fn (.func 140) [] [],.fn (.func 141) [] [],.fn (.func 142) [] []],.cells 185 (ranks_place.c a.1),.cells 4 [.bool a.2],.cells 185 (ranks_place.c b.1),.cells 191 [.fn (.func 140) [] [],.fn (.func 139) [] [],.fn (.func 144) [] [],.fn (.func 145) [] []],.cells 185 (ranks_place.c b.1),.cells 4 [.bool b.2]]] ([.cells 29 (Field.c e),.cells 3 [I f],.cells 78 (Rank.c z_Rank),.cells 78 (Rank.c d),.dead,.cells 185 (ranks_place.c a.1),.cells 191 [.fn (.func 139) [] [],.fn (.func 140) [] [],.fn (.func 141) [] [],.fn (.func 142) [] []],.cells 185 (ranks_place.c a.1),.cells 4 [.bool a.2],.cells 185 (ranks_place.c b.1),.cells 191 [.fn (.func 140) [] [],.fn (.func 139) [] [],.fn (.func 144) [] [],.fn (.func 145) [] []],.cells 185 (ranks_place.c b.1),.cells 4 [.bool b.2]]) draws Z Z Z Z Z Z Z ?_ Z ?_
 ·refine QeV.cons ?_ (QeV.cons (Qe (v0 Z Z) (Qe (v0 Z Z) (Qe (v0 Z Z) (Qe (v0 Z Z) (Qe (v0 Z Z) (Qe (v0 Z Z) (Qe (v0 Z Z) (QA)))))))) (QeV.cons (Qe (v0 Z Z) (Qe (v0 Z Z) (Qe (v0 Z Z) (Qe (v0 Z Z) (Qe (v0 Z Z) (Qe (v0 Z Z) (Qe (v0 Z Z) (QA)))))))) (QeV.cons ?_ (QeV.cons (Qe (v0 Z Z) (Qe (v0 Z Z) (Qe (v0 Z Z) (QA)))) (QeV.cons (Qe (v0 Z Z) (Qe (v0 Z Z) (Qe (v0 Z Z) (QA)))) (QeV.cons (Qe (v0 Z Z) (Qe (v0 Z Z) (Qe (v0 Z Z) (QA)))) (QeV.cons ?_ (QeV.cons ?_ (QeV.nil)))))))))
  ·refine Qe ?_ (Qe ?_ (QA))
   ·refine Om1 Z sN ?_
    refine Qu [] (OpC.fn call94 Z Z Z) (k_bx _ _ s) ?_
    rintro _ _ ⟨rfl,rfl⟩
    exact FE Z Wp
   ·refine Om1 Z sN ?_
    refine Qu [] (OpC.fn call94 Z Z Z) (k_bx _ _ s) ?_
    rintro _ _ ⟨rfl,rfl⟩
    exact FE Z Wp
  ·refine Qe ?_ (Qe ?_ (QA))
   ·refine Om1 Z (sD 0 (sD 1 (sD 2 sN))) ?_
    refine Qu [] (OpC.fn call93 Z Z Z) (k_af _ _ _ _ t) ?_
    rintro _ _ ⟨rfl,rfl⟩
    exact FE Z Wp
   ·refine Om1 Z (sD 0 (sD 1 (sD 2 sN))) ?_
    refine Qu [] (OpC.fn call93 Z Z Z) (k_af _ _ _ _ t) ?_
    rintro _ _ ⟨rfl,rfl⟩
    exact FE Z Wp
  ·refine Qe ?_ (Qe ?_ (Qe ?_ (QA)))
   ·exact Qad.alloc _ 9 185 9 _ Z Z Z Z Z Z Z (OpZ.alloc (v:=(.agg [I 0,I 0,I 0])) zeroValue185 (zrC Z)) Z
   ·exact Qad.alloc _ 9 185 9 _ Z Z Z Z Z Z Z (OpZ.alloc (v:=(.agg [I 0,I 0,I 0])) zeroValue185 (zrC Z)) Z
   ·exact Qad.alloc _ 9 185 9 _ Z Z Z Z Z Z Z (OpZ.alloc (v:=(.agg [I 0,I 0,I 0])) zeroValue185 (zrC Z)) Z
  ·refine Qe ?_ (QA)
   ·refine Om2 Z (sD 7 (sD 5 sN)) ?_
    refine vU (OpU.store Z Z Z sizeOf185 Z Z Z Z Z Z Z) ?_
    exact FE Z Wp
 refine Go 4 Z ?_
 refine QaU 6 0 [53,54,55,56,57,1000005] [false,false,false,false,false,true] [[],[],[],[],[],[]] [[],[5]] [[(0,0),(1,1)],[(0,0),(1,1)],[(0,0),(1,1)],[(0,0),(1,1)],[(0,0),(1,1)],[(0,1)]] [.ptr 5 2,I a.1.rank,.ptr 9 2,I b.1.rank,.ptr 3 2,.any] [[.cells 29 (Field.c e),.cells 3 [I f],.cells 78 (Rank.c z_Rank),.cells 78 (Rank.c d),.dead,.cells 185 (ranks_place.c a.1),.cells 191 [.fn (.func 139) [] [],.fn (.func 140) [] [],.fn (.func 141) [] [],.fn (.func 142) [] []],.cells 185 (ranks_place.c a.1),.cells 4 [.bool a.2],.cells 185 (ranks_place.c b.1),.cells 191 [.fn (.func 140) [] [],.fn (.func 139) [] [],.fn (.func 144) [] [],.fn (.func 145) [] []],.cells 185 (ranks_place.c b.1),.cells 4 [.bool b.2]],[.cells 29 (Field.c e),.cells 3 [I f],.cells 78 (Rank.c z_Rank),.cells 78 (Rank.c ({d with Lo:=a.1.rank:Rank})),.dead,.cells 185 (ranks_place.c a.1),.cells 191 [.fn (.func 139) [] [],.fn (.func 140) [] [],.fn (.func 141) [] [],.fn (.func 142) [] []],.cells 185 (ranks_place.c a.1),.cells 4 [.bool a.2],.cells 185 (ranks_place.c b.1),.cells 191 [.fn (.func 140) [] [],.fn (.func 139) [] [],.fn (.func 144) [] [],.fn (.func 145) [] []],.cells 185 (ranks_place.c b.1),.cells 4 [.bool b.2]]] ([.cells 29 (Field.c e),.cells 3 [I f],.cells 78 (Rank.c z_Rank),.cells 78 (Rank.c ({d with Lo:=a.1.rank:Rank})),.dead,.cells 185 (ranks_place.c a.1),.cells 191 [.fn (.func 139) [] [],.fn (.func 140) [] [],.fn (.func 141) [] [],.fn (.func 142) [] []],.cells 185 (ranks_place.c a.1),.cells 4 [.bool a.2],.cells 185 (ranks_place.c b.1),.cells 191 [.fn (.func 140) [] [],.fn (.func 139) [] [],.fn (.func 144) [] [],.fn (.func 145) [] []],.cells 185 (ranks_place.c b.1),.cells 4 [.bool b.2]]) draws Z Z Z Z Z Z Z ?_ Z ?_
 ·refine QeV.cons (Qe (v0 Z Z) (Qe (v0 Z Z) (QA))) (QeV.cons (Qe (v0 Z Z) (Qe (v0 Z Z) (QA))) (QeV.cons (Qe (v0 Z Z) (Qe (v0 Z Z) (QA))) (QeV.cons (Qe (v0 Z Z) (Qe (v0 Z Z) (QA))) (QeV.cons (Qe (v0 Z Z) (Qe (v0 Z Z) (QA))) (QeV.cons ?_ (QeV.nil))))))
  ·refine Qe ?_ (QA)
   ·refine Om2 Z (sD 1 (sD 4 sN)) ?_
    refine vU (OpU.store Z Z Z sizeOf3 Z Z Z Z Z Z Z) ?_
    exact FE Z Wp
 refine Go 8 Z (Bd h fun u j h=>?_)
 refine Ct u [2,3] [4,5] (fun u=>[(69,.bool u)]) (fun _=>[]) (fun _=>rfl) ?_ (fun env H i=>?_)
 ·refine G0 7 Z (Is 65 j Z (fun E j=>?_) (fun E j=>?_))
  ·exact Go 5 Z (Cl j [2,3])
  ·exact Go 5 Z (Cl j [2,3])
 refine Gx 1 Z (TC.le i (Bd h fun w k h=>?_))
 refine Ct w [0,1] [4,5] (fun _=>[]) (fun w=>[(1,.cells 78 (Rank.c w))]) (fun _=>rfl) ?_ (fun env H i=>?_)
 ·refine G0 0 Z (Cn Z k (fun F k=>?_) (fun F k=>?_))
  ·exact Gc 4 Z (Cl k [0,1])
  exact Gc 1 Z (Cl k [0,1])
 refine Gx 1 Z (TC.le i (Gc 7 Z ?_))
 obtain rfl:=Oi h
 exact Rx [0] [4] Z (QL Z (Qs isAgg78 sizeOf78 Z Z Z)) ⟨Z,Z⟩
def F_iv(n:Nat)(b:Field)(a:(List Rank)×Int):Option (Ctl ((List Rank)×Int) (List Rank)):=
  (bif decide (a.2<(b.Runners.length:Int))then(F_bc n b a.2).bind fun c=>(app a.1 [c]).bind fun d=>some (.cont (d,IntKind.i64.wrap (a.2+1)))else some (.done a.1))
def F_n(n:Nat)(a:Field):Option ((List Rank)×Int):=
  (F_db n a []).bind fun b=>(bif (b != 0)then some ([],b)else(iter (F_iv n a) n ([],0):Option (List Rank)).bind fun c=>some (c,0))
theorem k_n(n:Nat)(l:Field)(r:(List Rank)×Int)(h:F_n n l=some r):
    C prog 33 [.agg (Field.c l)] [] (RQ (fun r=>.tup [.osl 0 0 r.1.length 5,I r.2]) (fun r=>[.row 78 5 (List.map Rank.c r.1)]) r):=by
 refine Qa func33 Z Z Z ?_
 refine G0 11 Z (Bd h fun B m h=>?_)
 refine Qu [] (OpC.fn call58 Z Z Z) (C.nils (Qgg.eq (Qgg.nl Qgg.nil)) (k_db _ _ _ _ m)) ?_
 rintro _ _ ⟨rfl,rfl⟩
 refine FE Z (Go 9 Z (Cn Z h (fun p h=>?_) (fun p h=>?_)))
 ·refine Gc 9 Z ?_
  obtain rfl:=Oi h
  refine R2 2 3 Z Z ?_
  refine Le.trans (Le.phantom (s:=2) (k:=5) (t:=78) (Nat.le_of_ble_eq_true Z) Z) ?_
  exact Lr [1]
 refine Gc 7 Z (Lm Z (Go 3 Z (Bd h fun b q h=>?_)))
 refine Ct b [0] [] (fun b=>[(2,.osl 0 0 b.length 5)]) (fun b=>[(0,.row 78 5 (List.map Rank.c b))]) (fun _=>rfl) ?_ (fun env H u=>?_)
 ·refine G0 1 Z ?_
  refine Lp [0,0] [1,13] (fun d=>[(2,.osl 1 0 d.1.length 5),(14,I d.2)]) (fun d=>[(1,.row 78 5 (List.map Rank.c d.1))]) q (fun _=>rfl) ?_ ?_
  ·refine Le.trans (Le.phantom (s:=2) (k:=5) (t:=78) (Nat.le_of_ble_eq_true Z) Z) ?_
   exact Lr [0,1]
  intro d y a f
  refine G0 6 Z (Yc Z a (fun g a=>?_) (fun g a=>?_))
  ·refine Gc 2 Z (Qj a ?_)
   obtain rfl:=Oj f a
   exact Gx 1 Z (QT (Lr [1]))
  refine Gc 14 Z (Cd [] a (k_bc _ _ _) Z fun w x a=>FE Z ?_)
  refine vH (OpH.lit (xs:=[.tmp 20]) (es:=List.map Rank.c [w]) QgD Z Z Z Z Z ⟨Z,trivial⟩ Z Z) ?_
  refine FE Z (Bd a fun z j a=>?_)
  refine vH (QO (e:=Rank.c) j QgD runUnderlying89 (Yw (i:=3))) ?_
  exact FE Z (Go 8 Z (Qi a (Lr [0,4])))
 refine Gx 1 Z (TC.le u (Gc 8 Z ?_))
 obtain rfl:=Oi h
 exact R2 2 3 Z Z (Lr [0])
def F_ke(n:Nat)(c:Course)(g:Int)(h:Int)(a:(List (Int×Int))×Int):Option (Ctl ((List (Int×Int))×Int) (List (Int×Int))):=
  (bif decide (a.2<(c.Prizes.length:Int))then(idx c.Prizes a.2).bind fun b=>((bif (b.Distance==g)then some (b.Category==h)else some false):Option Bool).bind fun d=>((bif d then(some (Qab a.1 b.Rank b.Amount)).bind fun e=>some e else some a.1):Option (List (Int×Int))).bind fun f=>some (.cont (f,IntKind.i64.wrap (a.2+1)))else some (.done a.1))
def F_bg(n:Nat)(b:Course)(c:Int)(d:Int):Option (List (Int×Int)):=
  (iter (F_ke n b c d) n ([],0):Option (List (Int×Int))).bind fun a=>some a
theorem k_bg(n:Nat)(y:Course)(z:Int)(B:Int)(r:List (Int×Int))(h:F_bg n y z B=some r):
    C prog 46 [.agg (Course.c y),I z,I B] [] (RQ (fun _=>.map 0) (fun r=>[.map (Qt (fun x=>A.int .i64 x) (fun x=>A.int .i64 x) r)]) r):=by
 refine Qa func46 Z Z Z ?_
 refine G0 8 Z ?_
 refine vH Yj ?_
 refine FE Z (Go 8 Z (Lm Z (Go 3 Z (Bd h fun g E h=>?_))))
 refine Ct g [0] [] (fun _=>[(7,.map 0)]) (fun g=>[(0,.map (Qt (fun x=>A.int .i64 x) (fun x=>A.int .i64 x) g))]) (fun _=>rfl) ?_ (fun env H d=>?_)
 ·refine G0 1 Z ?_
  refine Lp [1] [1,2,7,12,13] (fun e=>[(14,I e.2)]) (fun e=>[(0,.map (Qt (fun x=>A.int .i64 x) (fun x=>A.int .i64 x) e.1))]) E (fun _=>rfl) (Lr [1]) fun e F a p=>?_
  refine G0 6 Z (Yc Z a (fun q a=>?_) (fun q a=>?_))
  ·refine Gc 2 Z (Qj a ?_)
   obtain rfl:=Oj p a
   exact Gx 1 Z (QT (Lr [0]))
  refine Gc 6 Z (Bd a fun m s a=>Iz s Z (Go 6 Z (Bd a fun i f a=>?_)))
  refine Ct i [0,1] [1,2,7,9,12,13,14] (fun i=>[(27,.bool i)]) (fun _=>[]) (fun _=>rfl) ?_ (fun env H d=>?_)
  ·refine G0 6 Z (Is 22 f Z (fun t f=>?_) (fun t f=>?_))
   ·exact Go 6 Z (Cl f [0,1])
   ·exact Go 6 Z (Cl f [0,1])
  refine Gx 1 Z (TC.le d (Bd a fun j b a=>?_))
  refine Ct j [0] [1,2,7,12,13,14] (fun _=>[]) (fun j=>[(0,.map (Qt (fun x=>A.int .i64 x) (fun x=>A.int .i64 x) j))]) (fun _=>rfl) ?_ (fun env H d=>?_)
  ·refine G0 0 Z (Cn Z b (fun u b=>?_) (fun u b=>?_))
   ·refine Gc 6 Z (Bd b fun G w b=>?_)
    refine vU (Yt (ev:=(fun x=>A.int .i64 x)) (k:=m.Rank) (v:=m.Amount) (l:=e.1) Qa9 w Z underlying103) ?_
    exact FE Z (Go 1 Z (Cl b [0]))
   exact Gc 1 Z (Cl b [0])
  exact Gx 2 Z (TC.le d (Gc 4 Z (Qi a (Lr [0]))))
 exact Gx 1 Z (TC.le d (Gc 7 Z (Rt h 6 [0])))
def F_ch(n:Nat)(a:List (Int×Int)):Option Unit:=
  some ()
theorem k_ch(n:Nat)(a:List (Int×Int))(r:Unit)(h:F_ch n a=some r):
    C prog 69 [.map 0] [.map (Qt (fun x=>A.int .i64 x) (fun x=>A.int .i64 x) a)] (RQ (fun _=>.fn (.func 105) [] [.ptr 1 0]) (fun _=>[.map (Qt (fun x=>A.int .i64 x) (fun x=>A.int .i64 x) a),.cells 103 [.map 0]]) r):=by
 refine Qa func69 Z Z Z ?_
 exact G0 13 Z (Rt h 2 [0,1])
def F_ia(n:Nat)(a:List (Int×Int)):Option Unit:=
  some ()
theorem k_ia(n:Nat)(a:List (Int×Int))(r:Unit)(h:F_ia n a=some r):
    C prog 106 [.map 0] [.map (Qt (fun x=>A.int .i64 x) (fun x=>A.int .i64 x) a)] (RQ (fun _=>.fn (.func 153) [] [.ptr 1 0]) (fun _=>[.map (Qt (fun x=>A.int .i64 x) (fun x=>A.int .i64 x) a),.cells 103 [.map 0]]) r):=by
 refine Qa func106 Z Z Z ?_
 exact G0 13 Z (Rt h 2 [0,1])
def F_fa(n:Nat)(a:List (Int×Int)):Option (List Int):=
  anyK (List.map Prod.fst a) fun p1=>(sortI p1).bind fun b=>some b
theorem k_fa(n:Nat)(b:List (Int×Int))(r:List Int)(h:F_fa n b=some r):
    C prog 74 [.fn (.func 153) [] [.ptr 0 0]] [.cells 103 [.map 1],.map (Qt (fun x=>A.int .i64 x) (fun x=>A.int .i64 x) b)] (RQ (fun r=>.osl 2 0 r.length 1) (fun r=>[.dead,.fmap (Qt (fun x=>A.int .i64 x) (fun x=>A.int .i64 x) b),.row 3 1 (List.map (Qd .i64) r)]) r):=by
 refine Qa func74 Z Z Z ?_
 refine G0 8 Z ?_
 refine WO.le (Qj4 (i:=1) Z) ?_
 refine QkW (H:=[.cells 103 [.map 1],.fmap (Qt (fun x=>A.int .i64 x) (fun x=>A.int .i64 x) b)]) Z ?_
 obtain⟨c,h⟩:=QgI h
 refine Qu [0,1] (OpC.fn call123 Z Z Z) (Qfb _ c) ?_
 rintro _ _ ⟨p1,d,rfl,rfl⟩
 have h:=h p1 d
 refine FE Z (Go 6 Z (Bd h fun e a h=>?_))
 refine Qu [2] (OpC.fn call124 Z Z Z) (QgT QbA a) ?_
 rintro _ _ ⟨rfl,rfl⟩
 refine FE Z ?_
 refine WO.le (QR (s:=3) Z (congrArg (fun n=>A.osl 2 0 n 1) (Qaf a))) ?_
 refine WO.le (QR (s:=5) Z (congrArg (fun n=>A.osl 2 0 n 1) (Qaf a))) ?_
 refine WO.le (QR (s:=6) Z (congrArg (fun n=>A.osl 2 0 n 1) (Qaf a))) ?_
 exact Go 9 Z (Rt h 2 [0,1,2])
def F_ky(n:Nat)(e:List (Int×Int))(c:List Int)(a:Int):Option ((List (Int×Int))×Ctl Int Unit):=
  (bif decide (a<(c.length:Int))then(idx c a).bind fun b=>(some (Qae e b 0)).bind fun d=>yl (b,d) (some ([],.cont (IntKind.i64.wrap (a+1))))else some ([],.done ()))
def F_aq(n:Nat)(a:List (Int×Int)):Option ((List (Int×Int))×Unit):=
  (F_ia n a).bind fun d=>(F_fa n a).bind fun b=>ap (Qba (F_ky n a b) n 0) fun c=>some ([],())
theorem k_aq(n:Nat)(f:List (Int×Int))(p:(List (Int×Int))×Unit)(h:F_aq n f=some p):
    QcM prog 105 [.ptr 0 0] [.cells 103 [.map 1],.map (Qt (fun x=>A.int .i64 x) (fun x=>A.int .i64 x) f)] (fun x=>[I x.1,I x.2]) nxL p.1:=by
 obtain⟨xs,u⟩:=p
 refine Qao func105 Z Z Z Z ?_
 intro X hE hN
 refine Gy0 1 Z (TCy.lf ?_)
 refine G0 2 Z (Cd [1] h (k_ia _ _) Z fun L w h=>FE Z (Cd [2,1] h (k_fa _ _) Z fun M y h=>FE Z (Go 3 Z ?_)))
 refine Gyx 1 Z ?_
 obtain⟨z,m,q,r,s,rfl⟩:=QgH h
 rw[List.append_assoc]
 refine Qb8 m (q++[]) [0,1] [0] (fun _=>[]) (fun _=>[]) (fun _=>rfl) ?_ (fun env H B=>?_)
 ·refine Gy0 1 Z ?_
  refine QeO [0,1,3] [0,1,7,8] (fun b=>[(9,I b)]) (fun _=>[]) r (fun _=>rfl) (Lr [0,1,3]) fun b E F G a g=>?_
  refine Gy0 1 Z (TCy.lf ?_)
  refine G0 3 Z ?_
  refine Gyx 2 Z (TCy.lf ?_)
  refine G0 0 Z (Yc Z a (fun i a=>?_) (fun i a=>?_))
  ·refine Gc 1 Z ?_
   refine Gyx 1 Z ?_
   obtain⟨rfl,rfl,rfl⟩:=Oy g a
   exact Qey (Gyx 1 Z (QgF (Lr [0,1])))
  refine Gc 1 Z ?_
  refine Gyx 4 Z (TCy.lf ?_)
  refine G0 1 Z (Bd a fun c d a=>?_)
  refine vX (.ptr 2 (Int.toNat b*1)) (Yp d Z runUnderlying32 sizeOf3) ?_
  refine vX (I c) (OpV.load Z isAgg3 Z (QJ d)) ?_
  refine Go 2 Z ?_
  refine Gyx 7 Z ?_
  refine WOy.step ?_
  refine Bd a fun e j a=>?_
  refine vX (I e) (Qej (ev:=(fun x=>A.int .i64 x)) (z0:=0) (k:=c) (l:=f) Qa9 j underlying103 zeroValue3 ZR.int) ?_
  refine WO.nil ⟨Z,?_⟩
  obtain⟨J,t,rfl⟩:=Qgk a
  refine Qi1 (x:=(c,e)) (e1:=fun x=>I x.1) (e2:=fun x=>I x.2) hE hN Z Z Z Z Z Z ?_ ?_
  ·refine Gyo 3 Z (TCy.lf ?_)
   refine G0 2 Z ?_
   refine Gyx 2 Z (TCy.lf ?_)
   refine G0 4 Z ?_
   exact Gyx 0 Z (Qdf t (Lr [0,1,2]))
  ·exact Gyo 7 Z (Qez (Gyx 1 Z (QgE (⟨.inr Z,.inr ⟨_,Z⟩⟩))))
 cases s
 exact⟨.inl Z,.inl Z⟩
def F_ft(n:Nat)(c:List Rank)(d:Int)(a:(List Rank)×Int):Option (Ctl ((List Rank)×Int) (List Rank)):=
  (bif decide (a.2<(c.length:Int))then(idx c a.2).bind fun b=>((bif (b.Kind != 3)then(bif decide (b.Lo<=d)then some (decide (d<=b.Hi))else some false)else some false):Option Bool).bind fun e=>((bif e then(app a.1 [b]).bind fun f=>some f else some a.1):Option (List Rank)).bind fun g=>some (.cont (g,IntKind.i64.wrap (a.2+1)))else some (.done a.1))
def F_aa(n:Nat)(b:List Rank)(c:Int):Option (List Rank):=
  (iter (F_ft n b c) n ([],0):Option (List Rank)).bind fun a=>some a
theorem k_aa(n:Nat)(B:List Rank)(E:Int)(r:List Rank)(h:F_aa n B E=some r):
    C prog 34 [.rsl 5 (List.map Rank.c B),I E] [] (RQ (fun r=>.osl 0 0 r.length 5) (fun r=>[.row 78 5 (List.map Rank.c r)]) r):=by
 refine Qa func34 Z Z Z ?_
 refine G0 9 Z (Lm Z (Go 3 Z (Bd h fun f F h=>?_)))
 refine Ct f [0] [] (fun f=>[(4,.osl 0 0 f.length 5)]) (fun f=>[(0,.row 78 5 (List.map Rank.c f))]) (fun _=>rfl) ?_ (fun env H g=>?_)
 ·refine G0 1 Z ?_
  refine Lp [0] [1,7,8] (fun j=>[(4,.osl 0 0 j.1.length 5),(9,I j.2)]) (fun j=>[(0,.row 78 5 (List.map Rank.c j.1))]) F (fun _=>rfl) ?_ ?_
  ·refine Le.trans (Le.phantom (s:=4) (k:=5) (t:=78) (Nat.le_of_ble_eq_true Z) Z) ?_
   exact Lr [0]
  intro j J a p
  refine G0 6 Z (Yc Z a (fun q a=>?_) (fun q a=>?_))
  ·refine Gc 2 Z (Qj a ?_)
   obtain rfl:=Oj p a
   exact Gx 1 Z (QT (Lr [0]))
  refine Gc 6 Z (Bd a fun G u a=>Iz u Z (Go 6 Z (Bd a fun m b a=>?_)))
  refine Ct m [0,1] [1,4,6,7,8,9] (fun m=>[(27,.bool m)]) (fun _=>[]) (fun _=>rfl) ?_ (fun env H g=>?_)
  ·refine G0 5 Z (Is 16 b Z (fun w b=>?_) (fun w b=>?_))
   ·refine Go 6 Z (Is 22 b Z (fun x b=>?_) (fun x b=>?_))
    ·exact Go 6 Z (Cl b [0,1])
    ·exact Go 6 Z (Cl b [0,1])
   ·exact Go 12 Z (Cl b [0,1])
  refine Gx 1 Z (TC.le g (Bd a fun l d a=>?_))
  refine Ct l [0] [1,7,8,9] (fun l=>[(4,.osl 0 0 l.length 5)]) (fun l=>[(0,.row 78 5 (List.map Rank.c l))]) (fun _=>rfl) ?_ (fun env H g=>?_)
  ·refine G0 0 Z (Cn Z d (fun y d=>?_) (fun y d=>?_))
   ·refine Gc 3 Z ?_
    refine vH (OpH.lit (xs:=[.tmp 29]) (es:=List.map Rank.c [G]) QgD Z Z Z Z Z ⟨Z,trivial⟩ Z Z) ?_
    refine FE Z (Bd d fun L z d=>?_)
    refine vH (QO (e:=Rank.c) z QgD runUnderlying89 (Yw (i:=2))) ?_
    exact FE Z (Go 2 Z (Cl d [3]))
   exact Gc 1 Z (Cl d [0])
  exact Gx 2 Z (TC.le g (Gc 4 Z (Qi a (Lr [0]))))
 exact Gx 1 Z (TC.le g (Gc 7 Z (Rt h 4 [0])))
def Q_prizes_divide(b:Course)(c:Field)(d:Int)(e:Int):U_prizes_divide->Go.Sw.A->Qc->Prop
  |.c0 x,a,H=>a=.tup [.nilm,.nils,I x]/\H=[.cells 103 [.nilm],.cells 32 [.nils]]
  |.c1 x,a,H=>a=.tup [.nilm,.nils,I x]/\H=[.cells 103 [.nilm],.cells 32 [.nils]]
  |.c2 x,a,H=>a=.tup [.map 0,.osl 1 0 x.2.length 1,I 0]/\H=[.map (Qt (fun x=>A.int .i64 x) (fun x=>A.int .i64 x) x.1),.row 3 1 (List.map (Qd .i64) x.2),.cells 103 [.map 0],.cells 32 [.osl 1 0 x.2.length 1]]
def F_li(n:Nat)(j:(List Rank)×Int)(a:(List Int)×(List (Int×Int)))(c:Int×Int):Option (Ctl ((List Int)×(List (Int×Int))) U_prizes_divide):=
  (F_aa n j.1 c.1).bind fun b=>((bif ((b.length:Int)==0)then some (a.1,a.2)else((bif ((b.length:Int)==1)then(idx b 0).bind fun e=>some (e.Kind==1)else some false):Option Bool).bind fun f=>(bif f then(idx b 0).bind fun g=>(some (Qab a.2 g.Bib c.2)).bind fun h=>some (a.1,h)else(app a.1 [c.1]).bind fun i=>some (i,a.2))):Option ((List Int)×(List (Int×Int)))).bind fun d=>some (.cont (d.1,d.2))
def F_av(n:Nat)(c:Course)(d:Field)(e:Int)(f:Int):Option U_prizes_divide:=
  (F_bm n c d e f).bind fun g=>(bif (g != 0)then some (U_prizes_divide.c0 g)else(F_n n d).bind fun b=>(bif (b.2 != 0)then some (U_prizes_divide.c1 b.2)else(F_bg n c e f).bind fun h=>(F_ch n h).bind fun j=>(F_aq n h).bind fun y11=>(QbI (F_li n b) y11.1 ([],[]):Option (Ctl ((List Int)×(List (Int×Int))) U_prizes_divide)).bind fun i=>match i with|.cont a=>(some (U_prizes_divide.c2 (a.2,a.1)))|.done a=>some a))
theorem k_av(n:Nat)(j:Course)(p:Field)(B:Int)(E:Int)(r:U_prizes_divide)(h:F_av n j p B E=some r):
    C prog 39 [.agg (Course.c j),.agg (Field.c p),I B,I E] [] (Q_prizes_divide j p B E r):=by
 refine Qa func39 Z Z Z ?_
 refine G0 16 Z (Cz [] h (k_bm _ _ _ _ _) Z fun r1 Y h=>Go 9 Z (Cn Z h (fun N h=>?_) (fun N h=>?_)))
 ·refine Gc 10 Z ?_
  obtain rfl:=Oi h
  exact Rx [2,3] [8,9,10] Z (QC Z Z (Qgc.cons (Qn isAgg103 Z Z) (Qgc.cons (Qn isAgg32 Z Z) (Qgc.cons Qcc.tmp Qgc.nil)))) ⟨Z,Z⟩
 refine Gc 5 Z (Cd [] h (k_n _ _) Z fun O aa h=>FE Z (Go 15 Z (Cn Z h (fun P h=>?_) (fun P h=>?_))))
 ·refine Gc 10 Z ?_
  obtain rfl:=Oi h
  exact Rx [2,3] [8,9,10] Z (QC Z Z (Qgc.cons (Qn isAgg103 Z Z) (Qgc.cons (Qn isAgg32 Z Z) (Qgc.cons Qcc.tmp Qgc.nil)))) ⟨Z,Z⟩
 refine Gc 4 Z ?_
 refine vH Yj ?_
 refine FE Z (Go 9 Z (Cd [] h (k_bg _ _ _ _) Z fun V ab h=>FE Z (Cd [7] h (k_ch _ _) Z fun r6 ac h=>FE Z (Go 3 Z ?_))))
 refine TC.le (Yn [(24,_),(26,_),(27,_)] Z Z (Qjj.cons Z (FzA.tup (FzL.cons FzA.o (FzL.refl _))) (Qjj.cons Z (FzA.tup (FzL.cons FzA.o (FzL.refl _))) (Qjj.cons Z FzA.o Qjj.nil))) (FzH.keep (FzH.keep (FzH.keep (FzH.keep (FzH.keep (FzH.cells (FzL.cons FzA.o (FzL.refl _)) (QS _)))))))) ?_
 refine TC.le (Lr (env':=[(8,.ptr 2 0),(9,.ptr 3 0),(12,.ptr 5 0),(37,.fn (.func 105) [] [.ptr 8 0])]) (H':=[.cells 49 (Course.c j),.cells 29 (Field.c p),.cells 103 [.map 6],.cells 32 [.nils],.dead,.cells 89 [.rsl 5 (List.map Rank.c O.1)],.map (Qt (fun x=>A.int .i64 x) (fun x=>A.int .i64 x) []),.map (Qt (fun x=>A.int .i64 x) (fun x=>A.int .i64 x) V),.cells 103 [.map 7]]) [0,1,2,3,4,5,6,7,8]) ?_
 refine Bd h fun y11 hy11 h=>Bd h fun ad Q h=>?_
 refine YR [8,7] (fun d=>[.cells 49 (Course.c j),.cells 29 (Field.c p),.cells 103 [.map 6],.cells 32 [.osl 9 0 d.1.length 1],.dead,.cells 89 [.rsl 5 (List.map Rank.c O.1)],.map (Qt (fun x=>A.int .i64 x) (fun x=>A.int .i64 x) d.2),.dead,.dead,.row 3 1 (List.map (Qd .i64) d.1)]) Q (k_aq _ _ _ hy11) (fun _=>rfl) call105 Z Z Z Z (by decide) Z ?_ ?_ ?_
 ·refine Le.trans (QX (i:=3) (m:=0) (t:=3) (k:=1) Z Z Z) ?_
  exact Lr [0,1,2,3,4,5,6,7,8,9]
 ·intro d y ae f W
  refine G0 8 Z (And.intro Z ?_)
  refine G0 5 Z (Cd [] f (k_aa _ _ _) Z fun af X f=>FE Z (Go 12 Z (Bd f fun g a f=>?_)))
  refine Ct g [0,1,2,3,4,5,6,7,8,9] [] (fun _=>[]) (fun g=>[(3,.cells 32 [.osl 9 0 g.1.length 1]),(6,.map (Qt (fun x=>A.int .i64 x) (fun x=>A.int .i64 x) g.2)),(9,.row 3 1 (List.map (Qd .i64) g.1))]) (fun _=>rfl) ?_ (fun env H q=>?_)
  ·refine G0 0 Z (Cn Z a (fun F a=>?_) (fun F a=>?_))
   ·exact Gc 1 Z (Cl a [0,1,2,3,4,5,6,7,8,9])
   refine Gc 1 Z (Bd a fun s b a=>?_)
   refine Ct s [0,1,2,3,4,5,6,7,8,9,10] [8,9,13,14,15] (fun s=>[(51,.bool s)]) (fun _=>[]) (fun _=>rfl) ?_ (fun env H q=>?_)
   ·refine G0 5 Z (Is 55 b Z (fun G b=>?_) (fun G b=>?_))
    ·refine Go 1 Z (Bd b fun R u b=>?_)
     refine vX (.ptr 10 (Int.toNat 0*5)) (Yp u Z runUnderlying89 sizeOf78) ?_ (gT Z)
     refine Fpg (gT Z) QjI Z ?_
     refine vX (I R.Kind) (OpV.load Z isAgg3 Z (Qhv u)) ?_ (gT Z)
     exact Go 4 Z (Cl b [0,1,2,3,4,5,6,7,8,9,10])
    ·exact Go 8 Z (Cl b [0,1,2,3,4,5,6,7,8,9,10])
   refine Gx 1 Z (TC.le q (Cn Z a (fun J a=>?_) (fun J a=>?_)))
   ·refine DSs 6 Z (D 2 Z ?_)
    obtain⟨z,w,a⟩:=Yy a
    refine DS.v (x:=(.ptr 10 (Int.toNat 0*5))) (Yp w Z runUnderlying89 sizeOf78) ?_
    refine DS.wo (x:=.ptr 10 (Int.toNat 0*5)) ?_ ?_
    ·exact Fp QjJ Z Wp
    refine DS.v (x:=(I z.Bib)) (OpV.load Z isAgg3 Z (QJ w)) ?_
    refine D 1 Z (DS.done Z (Bd a fun ag L a=>?_))
    refine vU (Yt (ev:=(fun x=>A.int .i64 x)) (k:=z.Bib) (v:=y.2) (l:=d.2) Qa9 L Z underlying103) ?_
    exact FE Z (Go 1 Z (Cl a [0,1,2,3,4,5,6,7,8,9]))
   refine Gc 3 Z ?_
   refine vH (OpH.lit (xs:=[.tmp 44]) (es:=List.map (Qd .i64) [y.1]) Qw Z Z Z Z Z ⟨Z,trivial⟩ Z Z) ?_
   refine FE Z (Bd a fun ah M a=>?_)
   refine vH (QO (e:=(Qd .i64)) M Qw runUnderlying32 (Yw (i:=11))) ?_
   exact FE Z (Go 2 Z (Cl a [0,1,2,3,4,5,6,7,8,12]))
  exact Gx 2 Z (QaH f (Le.trans q (Lr [0,1,2,3,4,5,6,7,8,9])))
 rintro T rfl
 refine Gx 3 Z ?_
 refine TC.draw0 3 [68,69,1000002] [.map 6,.osl 9 0 T.1.length 1,.any] draws Z Z Z ?_ ?_
 ·refine ov (ov (Oq.c ?_ (Oq.n)))
  ·refine Om2 Z (sO 8 (sD 0 sN)) ?_
   refine vU (OpU.store Z Z Z sizeOf103 Z Z Z Z Z Z Z) ?_
   exact FE Z Wp
 refine Go 5 Z ?_
 obtain rfl:=Oi h
 exact Rx [6,9,2,3] [8,9,10] Z (QC Z Z (Qgc.cons (Qn isAgg103 Z Z) (Qgc.cons (Qn isAgg32 Z Z) (Qgc.cons Qcc.tmp Qgc.nil)))) ⟨Z,Z⟩
def F_hc(n:Nat):Option Unit:=
  some ()
theorem k_hc(n:Nat)(r:Unit)(h:F_hc n=some r):
    C prog 69 [.nilm] [] (RQ (fun _=>.fn (.func 105) [] [.ptr 0 0]) (fun _=>[.cells 103 [.nilm]]) r):=by
 refine Qa func69 Z Z Z ?_
 refine G0 2 Z ?_
 refine vH (OpH.box Z Z Z Z Z) ?_
 exact FE Z (Go 10 Z (Rt h 2 [0]))
def F_eb(n:Nat):Option ((List (Int×Int))×Unit):=
  none
theorem k_eb(n:Nat)(p:(List (Int×Int))×Unit)(h:F_eb n=some p):
    QcM prog 105 [.ptr 0 0] [.cells 103 [.nilm]] (fun x=>[I x.1,I x.2]) nxL p.1:=by
 obtain⟨xs,u⟩:=p
 refine Qao func105 Z Z Z Z ?_
 intro X hE hN
 refine Gy0 1 Z (TCy.lf ?_)
 cases h
def F_jp(n:Nat)(c:List Payment)(a:Int×Int):Option (Ctl (List Payment) (List Payment)):=
  (app c [{Bib:=a.1,Amount:=a.2:Payment}]).bind fun b=>some (.cont b)
def F_bt(n:Nat):Option (List Payment):=
  (F_hc n).bind fun c=>(F_eb n).bind fun y2=>(QbI (F_jp n) y2.1 []:Option (Ctl (List Payment) (List Payment))).bind fun b=>match b with|.cont a=>(some a)|.done a=>some a
theorem k_bt(n:Nat)(r:List Payment)(h:F_bt n=some r):
    C prog 40 [.nilm] [] (RQ (fun r=>.osl 0 0 r.length 2) (fun r=>[.row 65 2 (List.map Payment.c r),.cells 51 [.osl 0 0 r.length 2]]) r):=by
 refine Qa func40 Z Z Z ?_
 refine G0 9 Z (Cd [] h (k_hc _) Z fun u l h=>FE Z (Go 3 Z (Bd h fun y2 hy2 h=>Bd h fun w f h=>?_)))
 refine YR [1] (fun b=>[.cells 51 [.osl 2 0 b.length 2],.dead,.row 65 2 (List.map Payment.c b)]) f (k_eb _ _ hy2) (fun _=>rfl) call105 Z Z Z Z (by decide) Z ?_ ?_ ?_
 ·refine Le.trans (QX (i:=0) (m:=0) (t:=65) (k:=2) Z Z Z) ?_
  exact Lr [0,1,2]
 ·intro b g p a j
  refine G0 8 Z (And.intro Z ?_)
  refine G0 6 Z ?_
  refine vH (OpH.lit (xs:=[.tmp 12]) (es:=List.map Payment.c [{Bib:=g.1,Amount:=g.2:Payment}]) Qed Z Z Z Z Z ⟨Z,trivial⟩ Z Z) ?_
  refine FE Z (Bd a fun q d a=>?_)
  refine vH (QO (e:=Payment.c) d Qed runUnderlying51 (Yw (i:=3))) ?_
  exact FE Z (Go 3 Z (QaH a (Lr [0,1,4])))
 rintro s rfl
 refine Gx 9 Z ?_
 obtain rfl:=Oi h
 exact Rx [2,0] [2] Z (QL Z (Qn isAgg51 Z Z)) ⟨Z,Z⟩
def F_lf(n:Nat)(c:List Payment)(a:Int×Int):Option (Ctl (List Payment) (List Payment)):=
  (app c [{Bib:=a.1,Amount:=a.2:Payment}]).bind fun b=>some (.cont b)
def F_bb(n:Nat)(b:List (Int×Int)):Option (List Payment):=
  (F_ch n b).bind fun d=>(F_aq n b).bind fun y2=>(QbI (F_lf n) y2.1 []:Option (Ctl (List Payment) (List Payment))).bind fun c=>match c with|.cont a=>(some a)|.done a=>some a
theorem k_bb(n:Nat)(f:List (Int×Int))(r:List Payment)(h:F_bb n f=some r):
    C prog 40 [.map 0] [.map (Qt (fun x=>A.int .i64 x) (fun x=>A.int .i64 x) f)] (RQ (fun r=>.osl 1 0 r.length 2) (fun r=>[.dead,.row 65 2 (List.map Payment.c r),.cells 51 [.osl 1 0 r.length 2]]) r):=by
 refine Qa func40 Z Z Z ?_
 refine G0 9 Z (Cd [0] h (k_ch _ _) Z fun w p h=>FE Z (Go 3 Z (Bd h fun y2 hy2 h=>Bd h fun y g h=>?_)))
 refine YR [2,0] (fun b=>[.dead,.cells 51 [.osl 3 0 b.length 2],.dead,.row 65 2 (List.map Payment.c b)]) g (k_aq _ _ _ hy2) (fun _=>rfl) call105 Z Z Z Z (by decide) Z ?_ ?_ ?_
 ·refine Le.trans (QX (i:=1) (m:=0) (t:=65) (k:=2) Z Z Z) ?_
  exact Lr [0,1,2,3]
 ·intro b j q a l
  refine G0 8 Z (And.intro Z ?_)
  refine G0 6 Z ?_
  refine vH (OpH.lit (xs:=[.tmp 12]) (es:=List.map Payment.c [{Bib:=j.1,Amount:=j.2:Payment}]) Qed Z Z Z Z Z ⟨Z,trivial⟩ Z Z) ?_
  refine FE Z (Bd a fun s d a=>?_)
  refine vH (QO (e:=Payment.c) d Qed runUnderlying51 (Yw (i:=4))) ?_
  exact FE Z (Go 3 Z (QaH a (Lr [0,1,2,5])))
 rintro u rfl
 refine Gx 9 Z ?_
 obtain rfl:=Oi h
 exact Rx [0,3,1] [2] Z (QL Z (Qn isAgg51 Z Z)) ⟨Z,Z⟩
def F_cf(n:Nat)(d:Course)(e:Field)(f:Int)(g:Int):Option ((List Payment)×Int):=
  (F_av n d e f g).bind fun h=>(match h with|.c0 a=>((bif (a != 0)then some ([],a)else(F_bt n).bind fun i=>some (i,0)))|.c1 b=>((bif (b != 0)then some ([],b)else(F_bt n).bind fun j=>some (j,0)))|.c2 k=>((F_bb n k.1).bind fun c=>some (c,0)))
theorem k_cf(n:Nat)(b:Course)(d:Field)(e:Int)(f:Int)(r:(List Payment)×Int)(h:F_cf n b d e f=some r):
    C prog 16 [.agg (Course.c b),.agg (Field.c d),I e,I f] [] (RQ (fun r=>.tup [.osl 0 0 r.1.length 2,I r.2]) (fun r=>[.row 65 2 (List.map Payment.c r.1)]) r):=by
 refine Qa func16 Z Z Z ?_
 refine G0 14 Z (Bd h fun l g h=>?_)
 refine Qu [] (OpC.fn call39 Z Z Z) (k_av _ _ _ _ _ _ g) ?_
 intro ra rH a
 rcases l with x|y|z
 ·obtain⟨rfl,rfl⟩:=a
  refine FE Z (Go 16 Z (Cn Z h (fun i h=>?_) (fun i h=>?_)))
  ·refine Gc 9 Z ?_
   obtain rfl:=Oi h
   refine R2 8 9 Z Z ?_
   refine Le.trans (Le.phantom (s:=8) (k:=2) (t:=65) (Nat.le_of_ble_eq_true Z) Z) ?_
   exact Lr [4]
  refine Gc 5 Z (Cd [] h (k_bt _) Z fun B q h=>FE Z (Go 5 Z ?_))
  obtain rfl:=Oi h
  exact R2 8 9 Z Z (Lr [4])
 ·obtain⟨rfl,rfl⟩:=a
  refine FE Z (Go 16 Z (Cn Z h (fun j h=>?_) (fun j h=>?_)))
  ·refine Gc 9 Z ?_
   obtain rfl:=Oi h
   refine R2 8 9 Z Z ?_
   refine Le.trans (Le.phantom (s:=8) (k:=2) (t:=65) (Nat.le_of_ble_eq_true Z) Z) ?_
   exact Lr [4]
  refine Gc 5 Z (Cd [] h (k_bt _) Z fun E u h=>FE Z (Go 5 Z ?_))
  obtain rfl:=Oi h
  exact R2 8 9 Z Z (Lr [4])
 ·obtain⟨rfl,rfl⟩:=a
  refine FE Z (Go 13 Z ?_)
  refine vX (.bool false) (OpV.neq (m:=0) (n:=0) Z Z Z) ?_
  refine Go 8 Z (Cd [2] h (k_bb _ _) Z fun w p h=>FE Z (Go 5 Z ?_))
  obtain rfl:=Oi h
  exact R2 8 9 Z Z (Lr [6])
def F_cd(n:Nat)(a:Course)(b:Field)(c:Int)(d:Int):Option ((List Int)×Int):=
  (F_av n a b c d).bind fun e=>(match e with|.c0 f=>(some ([],f))|.c1 g=>(some ([],g))|.c2 h=>(some (h.2,0)))
theorem k_cd(n:Nat)(b:Course)(d:Field)(e:Int)(f:Int)(r:(List Int)×Int)(h:F_cd n b d e f=some r):
    C prog 18 [.agg (Course.c b),.agg (Field.c d),I e,I f] [] (RQ (fun r=>.tup [.osl 0 0 r.1.length 1,I r.2]) (fun r=>[.row 3 1 (List.map (Qd .i64) r.1)]) r):=by
 refine Qa func18 Z Z Z ?_
 refine G0 14 Z (Bd h fun i g h=>?_)
 refine Qu [] (OpC.fn call39 Z Z Z) (k_av _ _ _ _ _ _ g) ?_
 intro ra rH a
 rcases i with j|l|m
 ·obtain⟨rfl,rfl⟩:=a
  refine FE Z (Go 17 Z ?_)
  obtain rfl:=Oi h
  refine R2 8 9 Z Z ?_
  refine Le.trans (Le.phantom (s:=8) (k:=1) (t:=3) (Nat.le_of_ble_eq_true Z) Z) ?_
  exact Lr [4]
 ·obtain⟨rfl,rfl⟩:=a
  refine FE Z (Go 17 Z ?_)
  obtain rfl:=Oi h
  refine R2 8 9 Z Z ?_
  refine Le.trans (Le.phantom (s:=8) (k:=1) (t:=3) (Nat.le_of_ble_eq_true Z) Z) ?_
  exact Lr [4]
 ·obtain⟨rfl,rfl⟩:=a
  refine FE Z (Go 17 Z ?_)
  obtain rfl:=Oi h
  exact R2 8 9 Z Z (Lr [3])
def F_ds(n:Nat)(b:List Rank)(a:(List Int)×Int):Option (Ctl ((List Int)×Int) (List Int)):=
  (bif decide (a.2<(b.length:Int))then(idx b a.2).bind fun c=>(app a.1 [c.Bib]).bind fun d=>some (.cont (d,IntKind.i64.wrap (a.2+1)))else some (.done a.1))
def F_h(n:Nat)(d:Field)(b:Int):Option ((List Int)×Int):=
  (F_n n d).bind fun a=>(bif (a.2 != 0)then some ([],a.2)else(bif decide (b<1)then some ([],310)else(F_aa n a.1 b).bind fun e=>(iter (F_ds n e) n ([],0):Option (List Int)).bind fun c=>some (c,0)))
theorem k_h(n:Nat)(p:Field)(q:Int)(r:(List Int)×Int)(h:F_h n p q=some r):
    C prog 12 [.agg (Field.c p),I q] [] (RQ (fun r=>.tup [.osl 0 0 r.1.length 1,I r.2]) (fun r=>[.row 3 1 (List.map (Qd .i64) r.1)]) r):=by
 refine Qa func12 Z Z Z ?_
 refine G0 10 Z (Cd [] h (k_n _ _) Z fun G z h=>FE Z (Go 14 Z (Cn Z h (fun u h=>?_) (fun u h=>?_))))
 ·refine Gc 9 Z ?_
  obtain rfl:=Oi h
  refine R2 4 5 Z Z ?_
  refine Le.trans (Le.phantom (s:=4) (k:=1) (t:=3) (Nat.le_of_ble_eq_true Z) Z) ?_
  exact Lr [2]
 refine Gc 9 Z (Cn Z h (fun w h=>?_) (fun w h=>?_))
 ·refine Gc 8 Z ?_
  obtain rfl:=Oi h
  refine R2 4 5 Z Z ?_
  refine Le.trans (Le.phantom (s:=4) (k:=1) (t:=3) (Nat.le_of_ble_eq_true Z) Z) ?_
  exact Lr [2]
 refine Gc 7 Z ?_
 refine WO.le (Yn [(6,_),(9,_),(11,_),(12,_),(19,_)] Z Z (Qjj.cons Z FzA.o (Qjj.cons Z (FzA.tup (FzL.cons FzA.o (FzL.refl _))) (Qjj.cons Z (FzA.tup (FzL.cons FzA.o (FzL.refl _))) (Qjj.cons Z FzA.o (Qjj.cons Z FzA.o Qjj.nil))))) (FzH.keep (FzH.keep (QS _)))) ?_
 refine Cd [] h (k_aa _ _ _) Z fun J B h=>FE Z (Go 4 Z (Bd h fun d x h=>?_))
 refine Ct d [0] [] (fun d=>[(4,.osl 0 0 d.length 1)]) (fun d=>[(0,.row 3 1 (List.map (Qd .i64) d))]) (fun _=>rfl) ?_ (fun env H y=>?_)
 ·refine G0 1 Z ?_
  refine Lp [0,2] [21,22] (fun b=>[(4,.osl 0 0 b.1.length 1),(23,I b.2)]) (fun b=>[(0,.row 3 1 (List.map (Qd .i64) b.1))]) x (fun _=>rfl) ?_ ?_
  ·refine Le.trans (Le.phantom (s:=4) (k:=1) (t:=3) (Nat.le_of_ble_eq_true Z) Z) ?_
   exact Lr [3,2]
  intro b E a j
  refine G0 6 Z (Yc Z a (fun l a=>?_) (fun l a=>?_))
  ·refine Gc 2 Z (Qj a ?_)
   obtain rfl:=Oj j a
   exact Gx 1 Z (QT (Lr [0]))
  refine Gc 6 Z (Bd a fun g f a=>?_)
  refine vX (.ptr 1 (Int.toNat b.2*5)) (Yp f Z runUnderlying89 sizeOf78) ?_
  refine vX (.agg (Rank.c g)) (QH Z isAgg78 sizeOf78 Z (QJ f) Z Z) ?_
  refine Go 8 Z ?_
  refine vH (OpH.lit (xs:=[.tmp 29]) (es:=List.map (Qd .i64) [g.Bib]) Qw Z Z Z Z Z ⟨Z,trivial⟩ Z Z) ?_
  refine FE Z (Bd a fun F m a=>?_)
  refine vH (QO (e:=(Qd .i64)) m Qw runUnderlying32 (Yw (i:=3))) ?_
  exact FE Z (Go 8 Z (Qi a (Lr [4,1])))
 refine Gx 1 Z (TC.le y (Gc 8 Z ?_))
 obtain rfl:=Oi h
 exact R2 4 5 Z Z (Lr [0])
def F_dc(n:Nat)(a:Runner)(b:Int):Option Bool:=
  (idx a.Worlds b).bind fun c=>some ((c.length:Int)==0)
theorem k_dc(n:Nat)(a:Runner)(b:Int)(r:Bool)(h:F_dc n a b=some r):
    Csm prog 146 [.agg (Runner.c a),.ptr 0 0] [.cells 3 [I b]] (fun r=>.bool r) r:=by
 refine Qa func146 Z Z Z ?_
 exact G0 11 Z (Bd h fun e d h=>Iz d Z (Go 1 Z (Lm Z (Go 5 Z (Rt h 3 [0])))))
def F_kh(n:Nat)(b:List Runner)(e:Int)(a:Int):Option (Ctl Int (Ctl Unit Int)):=
  (bif decide (a<(b.length:Int))then(idx b a).bind fun c=>(F_dc n c e).bind fun d=>(bif d then some (.done (.done a))else some (.cont (IntKind.i64.wrap (a+1))))else some (.done (.cont ())))
def F_ih(n:Nat)(c:List Runner)(d:Int):Option Int:=
  (iter (F_kh n c d) n 0:Option (Ctl Unit Int)).bind fun b=>match b with|.cont a=>(some (-1))|.done a=>some a
theorem k_ih(n:Nat)(b:List Runner)(a:Int)(r:Int)(h:F_ih n b a=some r):
    Csm prog 224 [.rsl 3 (List.map Runner.c b),.fn (.func 146) [] [.ptr 0 0]] [.cells 3 [I a]] (fun r=>I r) r:=
 QE (el:=fun x=>.agg (Runner.c x)) (g:=fun x=>F_dc n x a) func224 Z Z Z runUnderlying27 sizeOf68 (fun _ _ _ _ d e=>QH d isAgg68 sizeOf68 e Pts.rp Z Z) call146 (fun _ _ h=>k_dc _ _ _ _ h) h
def F_hp(n:Nat)(a:List Runner)(b:Int):Option Bool:=
  (F_ih n a b).bind fun c=>some (decide (0<=c))
theorem k_hp(n:Nat)(a:List Runner)(b:Int)(r:Bool)(h:F_hp n a b=some r):
    Csm prog 137 [.rsl 3 (List.map Runner.c a),.fn (.func 146) [] [.ptr 0 0]] [.cells 3 [I b]] (fun r=>.bool r) r:=by
 refine Qa func137 Z Z Z ?_
 exact G0 9 Z (Cz [0] h (k_ih _ _ _) Z fun e d h=>Go 5 Z (Rt h 4 [0]))
def F_ew(n:Nat)(a:Field)(b:Int):Option Bool:=
  (F_hp n a.Runners b).bind fun c=>some (!c)
theorem k_ew(n:Nat)(a:Field)(b:Int)(r:Bool)(h:F_ew n a b=some r):
    Csm prog 95 [.agg (Field.c a),I b] [] (fun r=>.bool r) r:=by
 refine Qa func95 Z Z Z ?_
 exact G0 12 Z (Cz [1] h (k_hp _ _ _) Z fun e d h=>Go 5 Z (Rt h 4 []))
def F_cq(n:Nat)(a:Int):Option Bool:=
  ((bif decide (a<(-2199023255552))then some true else some (decide (2199023255552<a))):Option Bool).bind fun b=>some b
theorem k_cq(n:Nat)(c:Int)(r:Bool)(h:F_cq n c=some r):
    Csm prog 148 [I c] [] (fun r=>.bool r) r:=by
 refine Qa func148 Z Z Z ?_
 refine G0 6 Z (Bd h fun b a h=>?_)
 refine Ct b [] [] (fun b=>[(2,.bool b)]) (fun _=>[]) (fun _=>rfl) ?_ (fun env H d=>?_)
 ·refine G0 4 Z (Is 5 a Z (fun e a=>?_) (fun e a=>?_))
  ·exact Go 5 Z (Cl a [])
  ·exact Go 5 Z (Cl a [])
 exact Gx 1 Z (TC.le d (Gc 1 Z (Rt h 2 [])))
def F_kl(n:Nat)(b:List Int)(a:Int):Option (Ctl Int (Ctl Unit Int)):=
  (bif decide (a<(b.length:Int))then(idx b a).bind fun c=>(F_cq n c).bind fun d=>(bif d then some (.done (.done a))else some (.cont (IntKind.i64.wrap (a+1))))else some (.done (.cont ())))
def F_hw(n:Nat)(c:List Int):Option Int:=
  (iter (F_kl n c) n 0:Option (Ctl Unit Int)).bind fun b=>match b with|.cont a=>(some (-1))|.done a=>some a
theorem k_hw(n:Nat)(a:List Int)(r:Int)(h:F_hw n a=some r):
    Csm prog 226 [.rsl 1 (List.map (Qd .i64) a),.fn (.func 148) [] []] [] (fun r=>I r) r:=
 QE (el:=fun x=>I x) (g:=fun x=>F_cq n x) func226 Z Z Z runUnderlying32 sizeOf3 (fun _ _ _ _ b c=>OpV.load b isAgg3 c Pts.rp) call148 (fun _ _ h=>k_cq _ _ _ h) h
def F_el(n:Nat)(a:List Int):Option Bool:=
  (F_hw n a).bind fun b=>some (decide (0<=b))
theorem k_el(n:Nat)(a:List Int)(r:Bool)(h:F_el n a=some r):
    Csm prog 147 [.rsl 1 (List.map (Qd .i64) a),.fn (.func 148) [] []] [] (fun r=>.bool r) r:=by
 refine Qa func147 Z Z Z ?_
 exact G0 9 Z (Cz [] h (k_hw _ _) Z fun c b h=>Go 5 Z (Rt h 4 []))
def F_js(n:Nat)(c:List Int)(d:Int)(b:List Int)(a:Int):Option (Ctl Int (Ctl Unit (Ctl Int (Ctl Unit Bool)))):=
  (bif decide (a<(b.length:Int))then(idx b a).bind fun e=>(idx c a).bind fun f=>(idx c d).bind fun g=>(bif decide (e<(IntKind.i64.wrap (f-g)))then some (.done (.done (.done (.done false))))else some (.cont (IntKind.i64.wrap (a+1))))else some (.done (.cont ())))
def F_jx(n:Nat)(c:Clocks)(f:List Int)(a:Int):Option (Ctl Int (Ctl Unit Bool)):=
  (bif decide (a<(c.Far.length:Int))then(idx c.Far a).bind fun d=>(iter (F_js n f a d) n 0:Option (Ctl Unit (Ctl Int (Ctl Unit Bool)))).bind fun e=>match e with|.cont b=>(some (.cont (IntKind.i64.wrap (a+1))))|.done b=>some b else some (.done (.cont ())))
def F_id(n:Nat)(d:Clocks)(e:List Int):Option Bool:=
  (app [0] e).bind fun b=>(F_el n b).bind fun f=>(bif f then some false else(iter (F_jx n d b) n 0:Option (Ctl Unit Bool)).bind fun c=>match c with|.cont a=>(some true)|.done a=>some a)
theorem k_id(n:Nat)(y:Clocks)(z:List Int)(r:Bool)(h:F_id n y z=some r):
    Csm prog 96 [.agg (Clocks.c y),.rsl 1 (List.map (Qd .i64) z)] [] (fun r=>.bool r) r:=by
 refine Qa func96 Z Z Z ?_
 refine G0 8 Z ?_
 refine vH (OpH.lit (xs:=[.const (.int .i64 0)]) (es:=List.map (Qd .i64) [0]) Qw Z Z Z Z Z ⟨Z,trivial⟩ Z Z) ?_
 refine FE Z (Go 1 Z (Bd h fun X B h=>?_))
 refine vH (QO (e:=(Qd .i64)) B Qw runUnderlying32 Qf9) ?_
 refine FE Z (Go 7 Z (Cb h (k_el _ _) Z (lo (ls ln)) fun Y Q h=>Go 2 Z (Cn Z h (fun E h=>?_) (fun E h=>?_))))
 ·exact Gc 7 Z (Rt h 4 [])
 refine Gc 7 Z (Lm Z (Go 3 Z (Bd h fun F G h=>?_)))
 refine YS (b:=F) [] [] (fun _=>[]) (fun _=>[]) (fun _=>rfl) ?_ (fun O env H f g=>?_)
 ·refine G0 1 Z ?_
  refine Lp [2] [5,16,17] (fun i=>[(18,I i)]) (fun _=>[]) G (fun _=>rfl) (Lr [2]) fun i R d j=>?_
  refine G0 6 Z (Yc Z d (fun q d=>?_) (fun q d=>?_))
  ·refine Gc 2 Z (Qj d ?_)
   obtain rfl:=Oj j d
   exact Gx 1 Z (Qm Z (Lr []))
  refine Gc 7 Z (Bd d fun T s d=>Iz s Z (Go 8 Z (Lm Z (Go 3 Z (Bd d fun J L d=>?_)))))
  refine YS (b:=J) [0] [5,16,17,18] (fun _=>[]) (fun _=>[]) (fun _=>rfl) ?_ (fun P env H f g=>?_)
  ·refine G0 1 Z ?_
   refine Lp [0] [5,6,16,17,18,23,24] (fun k=>[(25,I k)]) (fun _=>[]) L (fun _=>rfl) (Lr [0]) fun k V a l=>?_
   refine G0 6 Z (Yc Z a (fun t a=>?_) (fun t a=>?_))
   ·refine Gc 2 Z (Qj a ?_)
    obtain rfl:=Oj l a
    exact Gx 1 Z (Qm Z (Lr [0]))
   refine Gc 7 Z (Bd a fun W u a=>Iz u Z (Go 6 Z (DSs 10 Z (D 2 Z ?_))))
   obtain⟨M,m,a⟩:=Yy a
   refine DS.v (x:=(.ptr 0 (Int.toNat k*1))) (Yp m Z runUnderlying32 sizeOf3) ?_
   refine DS.v (x:=(I M)) (OpV.load Z isAgg3 Z (QJ m)) ?_
   refine D 2 Z ?_
   obtain⟨N,p,a⟩:=Yy a
   refine DS.v (x:=(.ptr 0 (Int.toNat i*1))) (Yp p Z runUnderlying32 sizeOf3) ?_
   refine DS.v (x:=(I N)) (OpV.load Z isAgg3 Z (QJ p)) ?_
   refine D 2 Z (DS.done Z (Go 3 Z (Cn Z a (fun w a=>?_) (fun w a=>?_))))
   ·refine Gc 8 Z (Ql a ?_)
    obtain rfl:=Oj l a
    refine Gx 1 Z (Qk (Gx 2 Z (Ql d ?_)))
    obtain rfl:=Oj j d
    exact Gx 1 Z (Qk (Gx 1 Z (Rt h 4 [])))
   exact Gc 7 Z (Qi a (Lr [0]))
  subst f
  exact Gx 2 Z (TC.le g (Gc 4 Z (Qi d (Lr [0]))))
 subst f
 exact Gx 1 Z (TC.le g (Gc 6 Z (Rt h 4 [])))
def F_be(n:Nat)(a:history_view)(b:Int):Option (List Outcome):=
  (idx a.f.Runners b).bind fun c=>(idx c.Worlds a.h.World).bind fun d=>some d
theorem k_be(n:Nat)(b:history_view)(d:Int)(r:List Outcome)(h:F_be n b d=some r):
    Csm prog 97 [.agg (history_view.c b),I d] [] (fun r=>.rsl 4 (List.map Outcome.c r)) r:=by
 refine Qa func97 Z Z Z ?_
 refine G0 7 Z (DSs 10 Z (D 4 Z ?_))
 obtain⟨a,e,h⟩:=Yy h
 refine DS.wo (x:=.rp [I a.Bib,.rsl 1 (List.map (Qd .i64) a.Keys),.rsl 1 (List.map (Yo 4 Outcome.c) a.Worlds)]) ?_ ?_
 ·exact Ix e runUnderlying27 sizeOf68 Z Wp
 exact D 5 Z (DS.done Z (Bd h fun g f h=>Iz f Z (Go 5 Z (Rt h 4 []))))
def F_bd(n:Nat)(a:history_view)(b:Int):Option Outcome:=
  (F_be n a b).bind fun c=>(idx a.h.Choices b).bind fun d=>(idx c d.Outcome).bind fun e=>some e
theorem k_bd(n:Nat)(a:history_view)(b:Int)(r:Outcome)(h:F_bd n a b=some r):
    C prog 85 [.agg (history_view.c a),I b] [] (RQ (fun r=>.agg (Outcome.c r)) (fun r=>[.cells 146 (Outcome.c r)]) r):=by
 refine Qa func85 Z Z Z ?_
 refine G0 7 Z (DSs 10 Z (D 2 Z ?_))
 obtain⟨i,d,h⟩:=Yy h
 refine DS.wo (x:=.rsl 4 (List.map Outcome.c i)) ?_ ?_
 ·refine Qu [] (OpC.fn call97 Z Z Z) (k_be _ _ _ _ d) ?_
  rintro _ _ ⟨rfl,rfl⟩
  exact FE Z Wp
 refine D 4 Z ?_
 obtain⟨e,f,h⟩:=Yy h
 refine DS.wo (x:=.rp [I e.Outcome,I e.X]) ?_ ?_
 ·exact Ix f runUnderlying57 sizeOf87 Z Wp
 refine D 2 Z (DS.done Z (Bd h fun j g h=>Iz g Z (Go 5 Z ?_)))
 obtain rfl:=Oi h
 exact Rx [1] [4] Z (QL Z (Qs isAgg146 sizeOf146 Z Z Z)) ⟨Z,Z⟩
def F_jy(n:Nat)(e:Field)(c:History)(a:Int):Option (Ctl Int (Ctl Unit (history_view×Int))):=
  (bif decide (a<(c.Choices.length:Int))then(idx c.Choices a).bind fun b=>((bif decide (b.Outcome<0)then some true else(F_be n ({f:=e,h:=c:history_view}) a).bind fun i=>some (decide ((i.length:Int)<=b.Outcome))):Option Bool).bind fun j=>(bif j then some (.done (.done ({f:=e,h:=c:history_view},260)))else(F_bd n ({f:=e,h:=c:history_view}) a).bind fun d=>((bif d.Out then some ({d with Lo:=0,Hi:=0:Outcome})else some d):Option Outcome).bind fun g=>((bif decide (b.X<g.Lo)then some true else some (decide (g.Hi<b.X))):Option Bool).bind fun k=>(bif k then some (.done (.done ({f:=e,h:=c:history_view},260)))else some (.cont (IntKind.i64.wrap (a+1)))))else some (.done (.cont ())))
def F_bs(n:Nat)(a:Field)(b:History):Option (history_view×Int):=
  (F_l n a).bind fun j=>(bif (j != 0)then some ({f:=z_Field,h:=z_History:history_view},240)else((bif decide (b.World<0)then some true else(bif decide ((a.Pairs.length:Int)<b.World)then some true else(F_ew n a b.World).bind fun d=>(bif (!d)then some true else(bif ((b.Offsets.length:Int) != (a.Clocks.Segments.length:Int))then some true else(bif ((b.Choices.length:Int) != (a.Runners.length:Int))then some true else(F_id n a.Clocks b.Offsets).bind fun e=>some (!e)))))):Option Bool).bind fun g=>(bif g then some ({f:=a,h:=b:history_view},260)else(iter (F_jy n a b) n 0:Option (Ctl Unit (history_view×Int))).bind fun i=>match i with|.cont c=>(some ({f:=a,h:=b:history_view},0))|.done c=>some c))
theorem k_bs(n:Nat)(y:Field)(z:History)(r:history_view×Int)(h:F_bs n y z=some r):
    C prog 60 [.agg (Field.c y),.agg (History.c z)] [] (RQ (fun r=>.tup [.agg (history_view.c r.1),I r.2]) (fun r=>[.cells 119 (history_view.c r.1)]) r):=by
 refine Qa func60 Z Z Z ?_
 refine G0 12 Z (Cz [] h (k_l _ _) Z fun r1 af h=>Go 3 Z (Cn Z h (fun W h=>?_) (fun W h=>?_)))
 ·refine Gc 9 Z ?_
  obtain rfl:=Oi h
  exact Rx [2] [4,5] Z (QC Z Z (Qgc.cons (Qs isAgg119 sizeOf119 Z Z Z) (Qgc.cons Qcc.tmp Qgc.nil))) ⟨Z,Z⟩
 refine Gc 12 Z (Bd h fun p d h=>?_)
 refine Ct p [1,2] [3,4] (fun p=>[(60,.bool p)]) (fun _=>[]) (fun _=>rfl) ?_ (fun env H g=>?_)
 ·refine G0 5 Z (Is 19 d Z (fun B d=>?_) (fun B d=>?_))
  ·exact Go 42 Z (Cl d [1,2])
  ·refine Go 4 Z (Lm Z (Go 3 Z (Is 27 d Z (fun E d=>?_) (fun E d=>?_))))
   ·exact Go 34 Z (Cl d [1,2])
   ·refine Go 3 Z (Cz [] d (k_ew _ _ _) Z fun ag ab d=>Go 3 Z (Is 34 d Z (fun F d=>?_) (fun F d=>?_)))
    ·exact Go 27 Z (Cl d [1,2])
    ·refine Go 2 Z (Lm Z (Go 3 Z (Lm Z (Go 3 Z (Is 44 d Z (fun G d=>?_) (fun G d=>?_))))))
     ·exact Go 17 Z (Cl d [1,2])
     ·refine Go 2 Z (Lm Z (Go 2 Z (Lm Z (Go 3 Z (Is 53 d Z (fun J d=>?_) (fun J d=>?_))))))
      ·exact Go 8 Z (Cl d [1,2])
      ·exact Go 4 Z (Cz [] d (k_id _ _ _) Z fun ah ac d=>Go 3 Z (Cl d [1,2]))
 refine Gx 1 Z (TC.le g (Cn Z h (fun L h=>?_) (fun L h=>?_)))
 ·refine Gc 9 Z ?_
  obtain rfl:=Oi h
  exact Rx [1] [4,5] Z (QC Z Z (Qgc.cons (Qs isAgg119 sizeOf119 Z Z Z) (Qgc.cons Qcc.tmp Qgc.nil))) ⟨Z,Z⟩
 refine Gc 7 Z (Lm Z (Go 3 Z (Bd h fun X Y h=>?_)))
 refine YS (b:=X) [0] [] (fun _=>[(4,.ptr 0 0)]) (fun _=>[(0,.cells 119 (history_view.c ({f:=y,h:=z:history_view})))]) (fun _=>rfl) ?_ (fun ad env H aa g=>?_)
 ·refine G0 1 Z ?_
  refine Lp [1] [4,63,64] (fun w=>[(65,I w)]) (fun _=>[]) Y (fun _=>rfl) (Lr [1]) fun w ai a m=>?_
  refine G0 6 Z (Yc Z a (fun M a=>?_) (fun M a=>?_))
  ·refine Gc 2 Z (Qj a ?_)
   obtain rfl:=Oj m a
   exact Gx 1 Z (Qm Z (Lr [0]))
  refine Gc 7 Z (Bd a fun aj N a=>Iz N Z (Go 8 Z (Bd a fun q i a=>?_)))
  refine Ct q [0,1] [4,6,7,63,64,65] (fun q=>[(81,.bool q)]) (fun _=>[]) (fun _=>rfl) ?_ (fun env H g=>?_)
  ·refine G0 0 Z (DSs 10 Z (D 4 Z (Yb 3 i Z Z Z (fun O i=>?_) (fun O i=>?_))))
   ·exact D 6 Z (DS.done Z (Go 3 Z (Cl i [0,1])))
   ·refine D 4 Z ?_
    obtain⟨s,P,i⟩:=Yy i
    refine DS.wo (x:=.rsl 4 (List.map Outcome.c s)) ?_ ?_
    ·refine Qu [] (OpC.fn call97 Z Z Z) (k_be _ _ _ _ P) ?_ (hg:=(gT Z))
     rintro _ _ ⟨rfl,rfl⟩
     exact FE Z Wp
    refine DS.v (x:=(I (s.length:Int))) (Ym (e:=Outcome.c) (l:=s) runUnderlying88) ?_ (hg:=(gT Z))
    exact DS.done Z (Go 3 Z (Cl i [0,1]))
  refine Gx 1 Z (TC.le g (Cn Z a (fun Q a=>?_) (fun Q a=>?_)))
  ·refine Gc 11 Z (Ql a ?_)
   obtain rfl:=Oj m a
   refine Gx 1 Z (Qk (Gx 1 Z ?_))
   obtain rfl:=Oi h
   exact Rx [0] [4,5] Z (QC Z Z (Qgc.cons (Qs isAgg119 sizeOf119 Z Z Z) (Qgc.cons Qcc.tmp Qgc.nil))) ⟨Z,Z⟩
  refine Gc 6 Z (Cd [] a (k_bd _ _ _) Z fun ak ae a=>FE Z (Go 11 Z (Bd a fun t j a=>?_)))
  refine Ct t [0,1,3] [4,7,8,63,64,65] (fun _=>[]) (fun t=>[(2,.cells 146 (Outcome.c t))]) (fun _=>rfl) ?_ (fun env H g=>?_)
  ·refine G0 0 Z (Cn Z j (fun R j=>?_) (fun R j=>?_))
   ·exact Gc 6 Z (Cl j [0,1,3])
   exact Gc 1 Z (Cl j [0,1,3])
  refine Gx 1 Z (TC.le g (Gc 1 Z (Bd a fun u k a=>?_)))
  refine Ct u [0] [4,63,64,65] (fun u=>[(101,.bool u)]) (fun _=>[]) (fun _=>rfl) ?_ (fun env H g=>?_)
  ·refine G0 7 Z (Is 95 k Z (fun T k=>?_) (fun T k=>?_))
   ·exact Go 7 Z (Cl k [0])
   ·exact Go 7 Z (Cl k [0])
  refine Gx 1 Z (TC.le g (Cn Z a (fun V a=>?_) (fun V a=>?_)))
  ·refine Gc 10 Z (Ql a ?_)
   obtain rfl:=Oj m a
   refine Gx 1 Z (Qk (Gx 1 Z ?_))
   obtain rfl:=Oi h
   exact Rx [0] [4,5] Z (QC Z Z (Qgc.cons (Qs isAgg119 sizeOf119 Z Z Z) (Qgc.cons Qcc.tmp Qgc.nil))) ⟨Z,Z⟩
  exact Gc 7 Z (Qi a (Lr [0]))
 subst aa
 refine Gx 1 Z (TC.le g (Gc 8 Z ?_))
 obtain rfl:=Oi h
 exact Rx [0] [4,5] Z (QC Z Z (Qgc.cons (Qs isAgg119 sizeOf119 Z Z Z) (Qgc.cons Qcc.tmp Qgc.nil))) ⟨Z,Z⟩
def F_dy(n:Nat)(a:Field)(b:History):Option Int:=
  (F_bs n a b).bind fun c=>some c.2
theorem k_dy(n:Nat)(a:Field)(b:History)(r:Int)(h:F_dy n a b=some r):
    Csm prog 45 [.agg (Field.c a),.agg (History.c b)] [] (fun r=>I r) r:=by
 refine Qa func45 Z Z Z ?_
 exact G0 11 Z (Cd [] h (k_bs _ _ _) Z fun e d h=>FE Z (Go 13 Z (Rt h 4 [])))
def F_ho(n:Nat)(b:Field)(d:History)(c:Int):Option (history_view×Int):=
  (F_bs n b d).bind fun a=>((bif (a.2==0)then(bif decide (c<0)then some true else some (decide ((b.Runners.length:Int)<=c)))else some false):Option Bool).bind fun e=>((bif e then some 250 else some a.2):Option Int).bind fun f=>some (a.1,f)
theorem k_ho(n:Nat)(i:Field)(j:History)(k:Int)(r:history_view×Int)(h:F_ho n i j k=some r):
    C prog 54 [.agg (Field.c i),.agg (History.c j),I k] [] (RQ (fun r=>.tup [.agg (history_view.c r.1),I r.2]) (fun r=>[.cells 119 (history_view.c r.1)]) r):=by
 refine Qa func54 Z Z Z ?_
 refine G0 13 Z (Cd [] h (k_bs _ _ _) Z fun q p h=>FE Z (Go 8 Z (Bd h fun e a h=>?_)))
 refine Ct e [2] [6,7] (fun e=>[(26,.bool e)]) (fun _=>[]) (fun _=>rfl) ?_ (fun env H d=>?_)
 ·refine G0 4 Z (Is 16 a Z (fun l a=>?_) (fun l a=>?_))
  ·refine Go 3 Z (Is 19 a Z (fun m a=>?_) (fun m a=>?_))
   ·exact Go 8 Z (Cl a [2])
   ·exact Go 3 Z (Lm Z (Go 4 Z (Cl a [2])))
  ·exact Go 11 Z (Cl a [2])
 refine Gx 1 Z (TC.le d (Bd h fun f b h=>?_))
 refine Ct f [0] [6] (fun f=>[(7,I f)]) (fun _=>[]) (fun _=>rfl) ?_ (fun env H d=>?_)
 ·refine G0 0 Z (Cn Z b (fun g b=>?_) (fun g b=>?_))
  ·exact Gc 3 Z (Cl b [0])
  exact Gc 1 Z (Cl b [0])
 refine Gx 1 Z (TC.le d (Gc 9 Z ?_))
 obtain rfl:=Oi h
 exact Rx [0] [6,7] Z (QC Z Z (Qgc.cons (Qs isAgg119 sizeOf119 Z Z Z) (Qgc.cons Qcc.tmp Qgc.nil))) ⟨Z,Z⟩
def F_bu(n:Nat)(a:history_view)(c:Int):Option (Int×Bool):=
  (F_bd n a c).bind fun b=>(bif b.Out then some (0,false)else(idx a.h.Choices c).bind fun d=>((bif decide (0<=b.Seg)then(idx a.h.Offsets b.Seg).bind fun e=>some (IntKind.i64.wrap (d.X+e))else some d.X):Option Int).bind fun f=>some (f,true))
theorem k_bu(n:Nat)(d:history_view)(e:Int)(r:Int×Bool)(h:F_bu n d e=some r):
    Csm prog 55 [.agg (history_view.c d),I e] [] (fun r=>.tup [I r.1,.bool r.2]) r:=by
 refine Qa func55 Z Z Z ?_
 refine G0 11 Z (Cd [] h (k_bd _ _ _) Z fun m l h=>FE Z (Go 11 Z (Cn Z h (fun f h=>?_) (fun f h=>?_))))
 ·refine Gc 8 Z ?_
  obtain rfl:=Oi h
  exact R2 4 5 Z Z (Lr [])
 refine Gc 8 Z (Bd h fun p g h=>Iz g Z (Go 13 Z (Bd h fun b a h=>?_)))
 refine Ct b [] [] (fun b=>[(4,I b)]) (fun _=>[]) (fun _=>rfl) ?_ (fun env H i=>?_)
 ·refine G0 0 Z (Cn Z a (fun j a=>?_) (fun j a=>?_))
  ·exact Gc 7 Z (Bd a fun q k a=>Iz k Z (Go 4 Z (Cl a [])))
  exact Gc 1 Z (Cl a [])
 refine Gx 1 Z (TC.le i (Gc 8 Z ?_))
 obtain rfl:=Oi h
 exact R2 4 5 Z Z (Lr [])
def F_jr(n:Nat)(c:history_view)(a:(List history_pair_int__int_)×Int):Option (Ctl ((List history_pair_int__int_)×Int) (List history_pair_int__int_)):=
  (bif decide (a.2<(c.f.Runners.length:Int))then(F_bu n c a.2).bind fun b=>((bif b.2 then(app a.1 [{first:=a.2,second:=b.1:history_pair_int__int_}]).bind fun d=>some d else some a.1):Option (List history_pair_int__int_)).bind fun e=>some (.cont (e,IntKind.i64.wrap (a.2+1)))else some (.done a.1))
def F_es(n:Nat)(b:history_view):Option (List history_pair_int__int_):=
  (iter (F_jr n b) n ([],0):Option (List history_pair_int__int_)).bind fun a=>some a
theorem k_es(n:Nat)(u:history_view)(r:List history_pair_int__int_)(h:F_es n u=some r):
    C prog 56 [.agg (history_view.c u)] [] (RQ (fun r=>.osl 0 0 r.length 2) (fun r=>[.row 125 2 (List.map history_pair_int__int_.c r)]) r):=by
 refine Qa func56 Z Z Z ?_
 refine G0 12 Z (Lm Z (Go 3 Z (Bd h fun f w h=>?_)))
 refine Ct f [0] [] (fun f=>[(2,.osl 0 0 f.length 2)]) (fun f=>[(0,.row 125 2 (List.map history_pair_int__int_.c f))]) (fun _=>rfl) ?_ (fun env H j=>?_)
 ·refine G0 1 Z ?_
  refine Lp [0,0] [1,9] (fun d=>[(2,.osl 1 0 d.1.length 2),(10,I d.2)]) (fun d=>[(1,.row 125 2 (List.map history_pair_int__int_.c d.1))]) w (fun _=>rfl) ?_ ?_
  ·refine Le.trans (Le.phantom (s:=2) (k:=2) (t:=125) (Nat.le_of_ble_eq_true Z) Z) ?_
   exact Lr [0,1]
  intro d z a l
  refine G0 6 Z (Yc Z a (fun m a=>?_) (fun m a=>?_))
  ·refine Gc 2 Z (Qj a ?_)
   obtain rfl:=Oj l a
   exact Gx 1 Z (QT (Lr [1]))
  refine Gc 14 Z (Cd [] a (k_bu _ _ _) Z fun x y a=>FE Z (Go 12 Z (Bd a fun g b a=>?_)))
  refine Ct g [0,0] [1,9,10] (fun g=>[(2,.osl 1 0 g.length 2)]) (fun g=>[(1,.row 125 2 (List.map history_pair_int__int_.c g))]) (fun _=>rfl) ?_ (fun env H j=>?_)
  ·refine G0 0 Z (Cn Z b (fun p b=>?_) (fun p b=>?_))
   ·refine Gc 5 Z ?_
    refine vH (OpH.lit (xs:=[.tmp 23]) (es:=List.map history_pair_int__int_.c [{first:=d.2,second:=x.1:history_pair_int__int_}]) QiU Z Z Z Z Z ⟨Z,trivial⟩ Z Z) ?_
    refine FE Z (Bd b fun B q b=>?_)
    refine vH (QO (e:=history_pair_int__int_.c) q QiU runUnderlying126 (Yw (i:=2))) ?_
    exact FE Z (Go 2 Z (Cl b [0,3]))
   exact Gc 1 Z (Cl b [0,1])
  exact Gx 2 Z (TC.le j (Gc 4 Z (Qi a (Lr [0,1]))))
 exact Gx 1 Z (TC.le j (Gc 7 Z (Rt h 2 [0])))
def F_eh(n:Nat)(a:history_view)(b:history_pair_int__int_)(c:history_pair_int__int_):Option Int:=
  (F_b n b.second c.second).bind fun d=>(idx a.f.Runners b.first).bind fun e=>(idx a.f.Runners c.first).bind fun g=>(F_i n e.Keys g.Keys).bind fun h=>(F_f n [d,h]).bind fun i=>some i
theorem k_eh(n:Nat)(d:history_view)(e:history_pair_int__int_)(f:history_pair_int__int_)(r:Int)(h:F_eh n d e f=some r):
    Csm prog 57 [.agg (history_view.c d),.agg (history_pair_int__int_.c e),.agg (history_pair_int__int_.c f)] [] (fun r=>I r) r:=by
 refine Qa func57 Z Z Z ?_
 refine G0 9 Z (DSs 21 Z (D 4 Z ?_))
 refine Dz [] h (k_b _ _ _) Z fun j l h=>D 5 Z ?_
 obtain⟨a,g,h⟩:=Yy h
 refine DS.wo (x:=.rp [I a.Bib,.rsl 1 (List.map (Qd .i64) a.Keys),.rsl 1 (List.map (Yo 4 Outcome.c) a.Worlds)]) ?_ ?_
 ·exact Ix g runUnderlying27 sizeOf68 Z Wp
 refine D 7 Z ?_
 obtain⟨b,i,h⟩:=Yy h
 refine DS.wo (x:=.rp [I b.Bib,.rsl 1 (List.map (Qd .i64) b.Keys),.rsl 1 (List.map (Yo 4 Outcome.c) b.Worlds)]) ?_ ?_
 ·exact Ix i runUnderlying27 sizeOf68 Z Wp
 refine D 2 Z (DS.done Z (Cz [] h (k_i _ _ _) Z fun k m h=>?_))
 refine vH (QdH (xs:=[.tmp 11,.tmp 28]) (es:=List.map (Qd .i64) [j,k]) Qw Z Z Z Z Z ⟨Z,Z,trivial⟩ Z Z) ?_
 exact FE Z (Cz [] h (k_f _ _) Z fun q p h=>Go 4 Z (Rt h 6 []))
def F_lu(n:Nat)(f:Int)(g:history_view×Int)(h:Int×Bool)(b:List history_pair_int__int_)(a:Int×Int):Option (Ctl (Int×Int) Int):=
  (bif decide (a.2<(b.length:Int))then(idx b a.2).bind fun c=>(F_eh n g.1 c ({first:=f,second:=h.1:history_pair_int__int_})).bind fun d=>((bif decide (d<0)then some (IntKind.i64.wrap (a.1+1))else some a.1):Option Int).bind fun e=>some (.cont (e,IntKind.i64.wrap (a.2+1)))else some (.done a.1))
def F_ha(n:Nat)(e:Field)(f:History)(b:Int):Option (Int×Int):=
  (F_ho n e f b).bind fun a=>(bif (a.2 != 0)then some (0,a.2)else(F_bu n a.1 b).bind fun c=>(bif (!c.2)then some (0,0)else(F_es n a.1).bind fun g=>(iter (F_lu n b a c g) n (0,0):Option Int).bind fun d=>some (IntKind.i64.wrap (d+1),0)))
theorem k_ha(n:Nat)(m:Field)(p:History)(q:Int)(r:Int×Int)(h:F_ha n m p q=some r):
    Csm prog 25 [.agg (Field.c m),.agg (History.c p),I q] [] (fun r=>.tup [I r.1,I r.2]) r:=by
 refine Qa func25 Z Z Z ?_
 refine G0 13 Z (Cd [] h (k_ho _ _ _ _) Z fun G y h=>FE Z (Go 15 Z (Cn Z h (fun s h=>?_) (fun s h=>?_))))
 ·refine Gc 9 Z ?_
  obtain rfl:=Oi h
  exact R2 6 7 Z Z (Lr [])
 refine Gc 6 Z (Cd [] h (k_bu _ _ _) Z fun J z h=>FE Z (Go 14 Z (Cn Z h (fun t h=>?_) (fun t h=>?_))))
 ·refine Gc 8 Z ?_
  obtain rfl:=Oi h
  exact R2 6 7 Z Z (Lr [])
 refine Gc 15 Z (Cd [] h (k_es _ _) Z fun L B h=>FE Z (Go 4 Z (Bd h fun e u h=>?_)))
 refine Ct e [] [] (fun e=>[(6,I e)]) (fun _=>[]) (fun _=>rfl) ?_ (fun env H f=>?_)
 ·refine G0 1 Z ?_
  refine Lp [3,4,5] [8,11,36,37] (fun d=>[(6,I d.1),(38,I d.2)]) (fun _=>[]) u (fun _=>rfl) (Lr [3,4,5]) fun d E a j=>?_
  refine G0 6 Z (Yc Z a (fun k a=>?_) (fun k a=>?_))
  ·refine Gc 2 Z (Qj a ?_)
   obtain rfl:=Oj j a
   exact Gx 1 Z (QT (Lr []))
  refine Gc 6 Z (Bd a fun w g a=>?_)
  refine vX (.ptr 2 (Int.toNat d.2*2)) (Yp g Z runUnderlying126 sizeOf125) ?_
  refine vX (.agg (history_pair_int__int_.c w)) (QH Z isAgg125 sizeOf125 Z (QJ g) Z Z) ?_
  refine Go 9 Z (Cz [] a (k_eh _ _ _ _) Z fun F x a=>Go 3 Z (Bd a fun i b a=>?_))
  refine Ct i [0,1,2] [8,11,36,37,38] (fun i=>[(6,I i)]) (fun _=>[]) (fun _=>rfl) ?_ (fun env H f=>?_)
  ·refine G0 0 Z (Cn Z b (fun l b=>?_) (fun l b=>?_))
   ·exact Gc 5 Z (Cl b [0,1,2])
   exact Gc 1 Z (Cl b [0,1,2])
  exact Gx 2 Z (TC.le f (Gc 4 Z (Qi a (Lr [0,1,2]))))
 refine Gx 1 Z (TC.le f (Gc 9 Z ?_))
 obtain rfl:=Oi h
 exact R2 6 7 Z Z (Lr [])
def F_fo(n:Nat)(a:List (Int×Option (List Int))):Option Unit:=
  some ()
theorem k_fo(n:Nat)(a:List (Int×Option (List Int)))(r:Unit)(h:F_fo n a=some r):
    C prog 47 [.map 0] [.mapO false 3 1 (QI (fun x=>A.int .i64 x) (Qd .i64) a)] (RQ (fun _=>.fn (.func 73) [] [.ptr 1 0]) (fun _=>[.mapO false 3 1 (QI (fun x=>A.int .i64 x) (Qd .i64) a),.cells 110 [.map 0]]) r):=by
 refine Qa func47 Z Z Z ?_
 exact G0 13 Z (Rt h 2 [0,1])
def F_hn(n:Nat)(a:List (Int×List Int)):Option Unit:=
  some ()
theorem k_hn(n:Nat)(a:List (Int×List Int))(r:Unit)(h:F_hn n a=some r):
    C prog 75 [.map 0] [.fmap (Qt (fun x=>A.int .i64 x) (fun x=>A.rsl 1 (List.map (Qd .i64) x)) a)] (RQ (fun _=>.fn (.func 125) [] [.ptr 1 0]) (fun _=>[.fmap (Qt (fun x=>A.int .i64 x) (fun x=>A.rsl 1 (List.map (Qd .i64) x)) a),.cells 110 [.map 0]]) r):=by
 refine Qa func75 Z Z Z ?_
 exact G0 13 Z (Rt h 2 [0,1])
def F_fj(n:Nat)(a:List (Int×List Int)):Option (List Int):=
  anyK (List.map Prod.fst a) fun p1=>(sortI p1).bind fun b=>some b
theorem k_fj(n:Nat)(b:List (Int×List Int))(r:List Int)(h:F_fj n b=some r):
    C prog 74 [.fn (.func 125) [] [.ptr 0 0]] [.cells 110 [.map 1],.fmap (Qt (fun x=>A.int .i64 x) (fun x=>A.rsl 1 (List.map (Qd .i64) x)) b)] (RQ (fun r=>.osl 2 0 r.length 1) (fun r=>[.dead,.fmap (Qt (fun x=>A.int .i64 x) (fun x=>A.rsl 1 (List.map (Qd .i64) x)) b),.row 3 1 (List.map (Qd .i64) r)]) r):=by
 refine Qa func74 Z Z Z ?_
 refine G0 8 Z ?_
 obtain⟨c,h⟩:=QgI h
 refine Qu [0,1] (OpC.fn call123 Z Z Z) (Qfa _ c) ?_
 rintro _ _ ⟨p1,d,rfl,rfl⟩
 have h:=h p1 d
 refine FE Z (Go 6 Z (Bd h fun e a h=>?_))
 refine Qu [2] (OpC.fn call124 Z Z Z) (QgT QbA a) ?_
 rintro _ _ ⟨rfl,rfl⟩
 refine FE Z ?_
 refine WO.le (QR (s:=3) Z (congrArg (fun n=>A.osl 2 0 n 1) (Qaf a))) ?_
 refine WO.le (QR (s:=5) Z (congrArg (fun n=>A.osl 2 0 n 1) (Qaf a))) ?_
 refine WO.le (QR (s:=6) Z (congrArg (fun n=>A.osl 2 0 n 1) (Qaf a))) ?_
 exact Go 9 Z (Rt h 2 [0,1,2])
def F_kc(n:Nat)(e:List (Int×List Int))(c:List Int)(a:Int):Option ((List (Int×(List Int)))×Ctl Int Unit):=
  (bif decide (a<(c.length:Int))then(idx c a).bind fun b=>(some (Qae e b [])).bind fun d=>yl (b,d) (some ([],.cont (IntKind.i64.wrap (a+1))))else some ([],.done ()))
def F_he(n:Nat)(a:List (Int×List Int)):Option ((List (Int×(List Int)))×Unit):=
  (F_hn n a).bind fun d=>(F_fj n a).bind fun b=>ap (Qba (F_kc n a b) n 0) fun c=>some ([],())
theorem k_he(n:Nat)(f:List (Int×List Int))(p:(List (Int×(List Int)))×Unit)(h:F_he n f=some p):
    QcM prog 73 [.ptr 0 0] [.cells 110 [.map 1],.fmap (Qt (fun x=>A.int .i64 x) (fun x=>A.rsl 1 (List.map (Qd .i64) x)) f)] (fun x=>[I x.1,.rsl 1 (List.map (Qd .i64) x.2)]) nxL p.1:=by
 obtain⟨xs,u⟩:=p
 refine Qao func73 Z Z Z Z ?_
 intro X hE hN
 refine Gy0 1 Z (TCy.lf ?_)
 refine G0 2 Z (Cd [1] h (k_hn _ _) Z fun L w h=>FE Z (Cd [2,1] h (k_fj _ _) Z fun M y h=>FE Z (Go 3 Z ?_)))
 refine Gyx 1 Z ?_
 obtain⟨z,m,q,r,s,rfl⟩:=QgH h
 rw[List.append_assoc]
 refine Qb8 m (q++[]) [0,1] [0] (fun _=>[]) (fun _=>[]) (fun _=>rfl) ?_ (fun env H B=>?_)
 ·refine Gy0 1 Z ?_
  refine QeO [0,1,3] [0,1,7,8] (fun b=>[(9,I b)]) (fun _=>[]) r (fun _=>rfl) (Lr [0,1,3]) fun b E F G a g=>?_
  refine Gy0 1 Z (TCy.lf ?_)
  refine G0 3 Z ?_
  refine Gyx 2 Z (TCy.lf ?_)
  refine G0 0 Z (Yc Z a (fun i a=>?_) (fun i a=>?_))
  ·refine Gc 1 Z ?_
   refine Gyx 1 Z ?_
   obtain⟨rfl,rfl,rfl⟩:=Oy g a
   exact Qey (Gyx 1 Z (QgF (Lr [0,1])))
  refine Gc 1 Z ?_
  refine Gyx 4 Z (TCy.lf ?_)
  refine G0 1 Z (Bd a fun c d a=>?_)
  refine vX (.ptr 2 (Int.toNat b*1)) (Yp d Z runUnderlying32 sizeOf3) ?_
  refine vX (I c) (OpV.load Z isAgg3 Z (QJ d)) ?_
  refine Go 2 Z ?_
  refine Gyx 7 Z ?_
  refine WOy.step ?_
  refine Bd a fun e j a=>?_
  refine vX (.rsl 1 (List.map (Qd .i64) e)) (Qej (ev:=(fun x=>A.rsl 1 (List.map (Qd .i64) x))) (z0:=[]) (k:=c) (l:=f) Qa9 j underlying110 zeroValue32 ZR.rsl) ?_
  refine WO.nil ⟨Z,?_⟩
  obtain⟨J,t,rfl⟩:=Qgk a
  refine Qi1 (x:=(c,e)) (e1:=fun x=>I x.1) (e2:=fun x=>.rsl 1 (List.map (Qd .i64) x.2)) hE hN Z Z Z Z Z Z ?_ ?_
  ·refine Gyo 3 Z (TCy.lf ?_)
   refine G0 2 Z ?_
   refine Gyx 2 Z (TCy.lf ?_)
   refine G0 4 Z ?_
   exact Gyx 0 Z (Qdf t (Lr [0,1,2]))
  ·exact Gyo 7 Z (Qez (Gyx 1 Z (QgE (⟨.inr Z,.inr ⟨_,Z⟩⟩))))
 cases s
 exact⟨.inl Z,.inl Z⟩
def F_x(n:Nat)(a:Int):Option Int:=
  ((bif decide (1125899906842624<a)then some true else some (decide (a<(-1125899906842624)))):Option Bool).bind fun b=>(bif b then some 300 else some 0)
theorem k_x(n:Nat)(c:Int)(r:Int)(h:F_x n c=some r):
    Csm prog 62 [I c] [] (fun r=>I r) r:=by
 refine Qa func62 Z Z Z ?_
 refine G0 7 Z (Bd h fun b a h=>?_)
 refine Ct b [] [] (fun b=>[(8,.bool b)]) (fun _=>[]) (fun _=>rfl) ?_ (fun env H d=>?_)
 ·refine G0 4 Z (Is 5 a Z (fun e a=>?_) (fun e a=>?_))
  ·exact Go 4 Z (Cl a [])
  ·exact Go 4 Z (Cl a [])
 refine Gx 1 Z (TC.le d (Cn Z h (fun f h=>?_) (fun f h=>?_)))
 ·exact Gc 7 Z (Rt h 2 [])
 exact Gc 8 Z (Rt h 2 [])
def F_kz(n:Nat)(c:List Int)(a:Int×Int):Option (Ctl (Int×Int) (Ctl Int (Int×Int))):=
  (bif decide (a.2<(c.length:Int))then(idx c a.2).bind fun b=>((F_x n b).bind fun d=>(bif (d != 0)then some true else(F_x n (IntKind.i64.wrap (a.1+b))).bind fun e=>some (e != 0)):Option Bool).bind fun f=>(bif f then some (.done (.done (0,300)))else some (.cont (IntKind.i64.wrap (a.1+b),IntKind.i64.wrap (a.2+1))))else some (.done (.cont a.1)))
def F_dp(n:Nat)(c:List Int):Option (Int×Int):=
  (iter (F_kz n c) n (0,0):Option (Ctl Int (Int×Int))).bind fun b=>match b with|.cont a=>(some (a,0))|.done a=>some a
theorem k_dp(n:Nat)(p:List Int)(r:Int×Int)(h:F_dp n p=some r):
    Csm prog 30 [.rsl 1 (List.map (Qd .i64) p)] [] (fun r=>.tup [I r.1,I r.2]) r:=by
 refine Qa func30 Z Z Z ?_
 refine G0 10 Z (Lm Z (Go 3 Z (Bd h fun q s h=>?_)))
 refine YS (b:=q) [] [] (fun d=>[(2,I d)]) (fun _=>[]) (fun _=>rfl) ?_ (fun d env H t e=>?_)
 ·refine G0 1 Z ?_
  refine Lp [] [6,7] (fun f=>[(2,I f.1),(8,I f.2)]) (fun _=>[]) s (fun _=>rfl) (Lr []) fun f x a g=>?_
  refine G0 6 Z (Yc Z a (fun j a=>?_) (fun j a=>?_))
  ·refine Gc 2 Z (Qj a ?_)
   obtain rfl:=Oj g a
   exact Gx 1 Z (Qm Z (Lr []))
  refine Gc 6 Z (Bd a fun y k a=>Iz k Z (Go 6 Z (Bd a fun i c a=>?_)))
  refine Ct i [] [2,5,6,7,8] (fun i=>[(21,.bool i)]) (fun _=>[]) (fun _=>rfl) ?_ (fun env H e=>?_)
  ·refine G0 2 Z (Cz [] c (k_x _ _) Z fun z u c=>Go 2 Z (Is 15 c Z (fun l c=>?_) (fun l c=>?_)))
   ·exact Go 7 Z (Cl c [])
   ·exact Go 3 Z (Cz [] c (k_x _ _) Z fun B w c=>Go 3 Z (Cl c []))
  refine Gx 1 Z (TC.le e (Cn Z a (fun m a=>?_) (fun m a=>?_)))
  ·refine Gc 10 Z (Ql a ?_)
   obtain rfl:=Oj g a
   refine Gx 1 Z (Qk (Gx 1 Z ?_))
   obtain rfl:=Oi h
   exact R2 2 3 Z Z (Lr [])
  exact Gc 14 Z (Qi a (Lr []))
 subst t
 refine Gx 1 Z (TC.le e (Gc 8 Z ?_))
 obtain rfl:=Oi h
 exact R2 2 3 Z Z (Lr [])
def F_gx(n:Nat)(a:Int)(b:Int):Option Unit:=
  some ()
theorem k_gx(n:Nat)(a:Int)(b:Int)(r:Unit)(h:F_gx n a b=some r):
    Csm prog 130 [.int .u64 a,.int .u64 b] [] (fun _=>.tup [.int .u64 (IntKind.u64.wrap ((IntKind.u64.wrap ((IntKind.u64.wrap ((Yq .u64 a 32)*(Yq .u64 b 32)))+(Yq .u64 (IntKind.u64.wrap ((IntKind.u64.wrap ((Yq .u64 a 32)*(Q7 .u64 b 4294967295)))+(Yq .u64 (IntKind.u64.wrap ((Q7 .u64 a 4294967295)*(Q7 .u64 b 4294967295))) 32))) 32)))+(Yq .u64 (IntKind.u64.wrap ((Q7 .u64 (IntKind.u64.wrap ((IntKind.u64.wrap ((Yq .u64 a 32)*(Q7 .u64 b 4294967295)))+(Yq .u64 (IntKind.u64.wrap ((Q7 .u64 a 4294967295)*(Q7 .u64 b 4294967295))) 32))) 4294967295)+(IntKind.u64.wrap ((Q7 .u64 a 4294967295)*(Yq .u64 b 32))))) 32))),.int .u64 (IntKind.u64.wrap (a*b))]) r:=by
 refine Qa func130 Z Z Z ?_
 refine G0 9 Z ?_
 refine vX (.int .u64 (Q7 .u64 a 4294967295)) (OpV.and Z Z Z) ?_
 refine Go 6 Z ?_
 refine vX (.int .u64 (Yq .u64 a 32)) (OpV.shr Z Z Z (by decide)) ?_
 refine Go 6 Z ?_
 refine vX (.int .u64 (Q7 .u64 b 4294967295)) (OpV.and Z Z Z) ?_
 refine Go 6 Z ?_
 refine vX (.int .u64 (Yq .u64 b 32)) (OpV.shr Z Z Z (by decide)) ?_
 refine Go 17 Z ?_
 refine vV (x:=(.int .u64 (Yq .u64 (IntKind.u64.wrap ((Q7 .u64 a 4294967295)*(Q7 .u64 b 4294967295))) 32))) (OpV.shr Z Z Z (by decide)) ?_
 refine Go 7 Z ?_
 refine vV (x:=(.int .u64 (Q7 .u64 (IntKind.u64.wrap ((IntKind.u64.wrap ((Yq .u64 a 32)*(Q7 .u64 b 4294967295)))+(Yq .u64 (IntKind.u64.wrap ((Q7 .u64 a 4294967295)*(Q7 .u64 b 4294967295))) 32))) 4294967295))) (OpV.and Z Z Z) ?_
 refine Go 6 Z ?_
 refine vV (x:=(.int .u64 (Yq .u64 (IntKind.u64.wrap ((IntKind.u64.wrap ((Yq .u64 a 32)*(Q7 .u64 b 4294967295)))+(Yq .u64 (IntKind.u64.wrap ((Q7 .u64 a 4294967295)*(Q7 .u64 b 4294967295))) 32))) 32))) (OpV.shr Z Z Z (by decide)) ?_
 refine Go 21 Z ?_
 refine vV (x:=(.int .u64 (Yq .u64 (IntKind.u64.wrap ((Q7 .u64 (IntKind.u64.wrap ((IntKind.u64.wrap ((Yq .u64 a 32)*(Q7 .u64 b 4294967295)))+(Yq .u64 (IntKind.u64.wrap ((Q7 .u64 a 4294967295)*(Q7 .u64 b 4294967295))) 32))) 4294967295)+(IntKind.u64.wrap ((Q7 .u64 a 4294967295)*(Yq .u64 b 32))))) 32))) (OpV.shr Z Z Z (by decide)) ?_
 refine Go 13 Z ?_
 obtain rfl:=Oi h
 exact R2 4 5 Z Z (Lr [])
def F_fl(n:Nat)(a:Int)(b:Int):Option Unit:=
  (F_gx n a b).bind fun c=>some ()
theorem k_fl(n:Nat)(a:Int)(b:Int)(r:Unit)(h:F_fl n a b=some r):
    Csm prog 80 [.int .u64 a,.int .u64 b] [] (fun _=>.tup [.int .u64 (IntKind.u64.wrap ((IntKind.u64.wrap ((IntKind.u64.wrap ((Yq .u64 a 32)*(Yq .u64 b 32)))+(Yq .u64 (IntKind.u64.wrap ((IntKind.u64.wrap ((Yq .u64 a 32)*(Q7 .u64 b 4294967295)))+(Yq .u64 (IntKind.u64.wrap ((Q7 .u64 a 4294967295)*(Q7 .u64 b 4294967295))) 32))) 32)))+(Yq .u64 (IntKind.u64.wrap ((Q7 .u64 (IntKind.u64.wrap ((IntKind.u64.wrap ((Yq .u64 a 32)*(Q7 .u64 b 4294967295)))+(Yq .u64 (IntKind.u64.wrap ((Q7 .u64 a 4294967295)*(Q7 .u64 b 4294967295))) 32))) 4294967295)+(IntKind.u64.wrap ((Q7 .u64 a 4294967295)*(Yq .u64 b 32))))) 32))),.int .u64 (IntKind.u64.wrap (a*b))]) r:=by
 refine Qa func80 Z Z Z ?_
 refine G0 14 Z (Cd [] h (k_gx _ _ _) Z fun d c h=>FE Z (Go 16 Z ?_))
 obtain rfl:=Oi h
 exact R2 4 5 Z Z (Lr [])
def F_jm(n:Nat)(a:(List Int)×Int):Option (Ctl ((List Int)×Int) (List Int)):=
  (bif decide (a.2<(a.1.length:Int))then(slc a.1 a.2 (a.1.length:Int)).bind fun d=>(slc a.1 0 a.2).bind fun b=>(cpy a.1 a.2 (a.1.length:Int) b).bind fun c=>some (.cont (c,IntKind.i64.wrap (a.2+((min b.length ((a.1.length:Int).toNat-a.2.toNat):Nat):Int))))else some (.done a.1))
def F_gy(n:Nat)(a:List Int)(b:Int):Option (List Int):=
  ((bif decide (b<0)then none else some ()):Option Unit).bind fun h=>(F_fl n (IntKind.u64.wrap (a.length:Int)) (IntKind.u64.wrap b)).bind fun i=>((bif decide (0<(IntKind.u64.wrap ((IntKind.u64.wrap ((IntKind.u64.wrap ((Yq .u64 (IntKind.u64.wrap (a.length:Int)) 32)*(Yq .u64 (IntKind.u64.wrap b) 32)))+(Yq .u64 (IntKind.u64.wrap ((IntKind.u64.wrap ((Yq .u64 (IntKind.u64.wrap (a.length:Int)) 32)*(Q7 .u64 (IntKind.u64.wrap b) 4294967295)))+(Yq .u64 (IntKind.u64.wrap ((Q7 .u64 (IntKind.u64.wrap (a.length:Int)) 4294967295)*(Q7 .u64 (IntKind.u64.wrap b) 4294967295))) 32))) 32)))+(Yq .u64 (IntKind.u64.wrap ((Q7 .u64 (IntKind.u64.wrap ((IntKind.u64.wrap ((Yq .u64 (IntKind.u64.wrap (a.length:Int)) 32)*(Q7 .u64 (IntKind.u64.wrap b) 4294967295)))+(Yq .u64 (IntKind.u64.wrap ((Q7 .u64 (IntKind.u64.wrap (a.length:Int)) 4294967295)*(Q7 .u64 (IntKind.u64.wrap b) 4294967295))) 32))) 4294967295)+(IntKind.u64.wrap ((Q7 .u64 (IntKind.u64.wrap (a.length:Int)) 4294967295)*(Yq .u64 (IntKind.u64.wrap b) 32))))) 32))))then some true else some (decide (9223372036854775807<(IntKind.u64.wrap ((IntKind.u64.wrap (a.length:Int))*(IntKind.u64.wrap b)))))):Option Bool).bind fun f=>((bif f then none else some ()):Option Unit).bind fun g=>(mk (IntKind.i64.wrap (IntKind.u64.wrap ((IntKind.u64.wrap (a.length:Int))*(IntKind.u64.wrap b)))) 0).bind fun c=>(cpy c 0 (c.length:Int) a).bind fun d=>(iter (F_jm n) n (d,((min a.length c.length:Nat):Int)):Option (List Int)).bind fun e=>some e
theorem k_gy(n:Nat)(u:List Int)(w:Int)(r:List Int)(h:F_gy n u w=some r):
    C prog 49 [.rsl 1 (List.map (Qd .i64) u),I w] [] (RQ (fun r=>.osl 0 0 r.length 1) (fun r=>[.row 3 1 (List.map (Qd .i64) r)]) r):=by
 refine Qa func49 Z Z Z ?_
 refine G0 12 Z (Bd h fun P p h=>?_)
 refine Ct P [] [0,1] (fun _=>[]) (fun _=>[]) (fun _=>rfl) ?_ (fun env H g=>?_)
 ·refine G0 0 Z (Cn Z p (fun G p=>?_) (fun G p=>?_))
  ·cases p
  exact Gc 1 Z (Cl p [])
 refine Gx 1 Z (TC.le g (Gc 3 Z (Lm Z ?_)))
 refine vX (.int .u64 (IntKind.u64.wrap (u.length:Int))) (QdE Z runUnderlying3 runUnderlying172 Z) ?_
 refine Go 1 Z ?_
 refine vX (.int .u64 (IntKind.u64.wrap w)) (QdE Z runUnderlying3 runUnderlying172 Z) ?_
 refine Cd [] h (k_fl _ _ _) Z fun X Q h=>FE Z (Go 9 Z (Bd h fun y q h=>?_))
 refine Ct y [] [0,6] (fun y=>[(26,.bool y)]) (fun _=>[]) (fun _=>rfl) ?_ (fun env H g=>?_)
 ·refine G0 4 Z (Is 23 q Z (fun J q=>?_) (fun J q=>?_))
  ·exact Go 4 Z (Cl q [])
  ·exact Go 4 Z (Cl q [])
 refine Gx 1 Z (TC.le g (Bd h fun L k h=>?_))
 refine Ct L [] [0,6] (fun _=>[]) (fun _=>[]) (fun _=>rfl) ?_ (fun env H g=>?_)
 ·refine G0 0 Z (Cn Z k (fun z k=>?_) (fun z k=>?_))
  ·cases k
  exact Gc 1 Z (Cl k [])
 refine Gx 1 Z (TC.le g (Gc 3 Z ?_))
 refine vV (x:=(I (IntKind.i64.wrap (IntKind.u64.wrap ((IntKind.u64.wrap (u.length:Int))*(IntKind.u64.wrap w)))))) (QdE Z runUnderlying172 runUnderlying3 Z) ?_
 refine Bd h fun R B h=>?_
 refine vH (Qj3 (e:=(Qd .i64)) (zv:=0) (a:=(I 0)) B Qw zeroValue3 ZR.int Z Z Z Z) ?_
 refine FE Z (Go 7 Z (Bd h fun T j h=>?_))
 refine vH (QhH (e:=(Qd .i64)) j runUnderlying32 sizeOf3 Qj0) ?_
 refine FE Z ?_
 refine WO.le (QR (s:=7) Z (congrArg (fun n=>A.osl 0 0 n 1) (Qdt j))) ?_
 refine WO.le (QR (s:=30) Z (congrArg (fun n=>A.osl 0 0 n 1) (Qdt j))) ?_
 refine WO.le (QR (s:=31) Z (congrArg (fun n=>A.osl 0 0 n 1) (Qdt j))) ?_
 refine Go 4 Z (Bd h fun m M h=>?_)
 refine Ct m [0] [] (fun m=>[(7,.osl 0 0 m.length 1)]) (fun m=>[(0,.row 3 1 (List.map (Qd .i64) m))]) (fun _=>rfl) ?_ (fun env H g=>?_)
 ·refine G0 1 Z ?_
  refine Lp [0] [] (fun c=>[(7,.osl 0 0 c.1.length 1),(8,I c.2)]) (fun c=>[(0,.row 3 1 (List.map (Qd .i64) c.1))]) M (fun _=>rfl) (Lr [0]) fun c V d E=>?_
  refine G0 9 Z (Yc Z d (fun F d=>?_) (fun F d=>?_))
  ·refine Gc 2 Z (Qj d ?_)
   obtain rfl:=Oj E d
   exact Gx 1 Z (QT (Lr [0]))
  refine Gc 3 Z (DKs 8 [7] [(0,0,1),(0,0,0),(0,0,0),(0,0,0),(0,0,0),(0,0,0),(0,0,0),(1,0,0)] (by kernel_rfl) (Dk 3 Z ?_))
  obtain⟨W,f,d⟩:=Yy d
  refine DK.wo (x:=.osl 0 (0+Int.toNat c.2) (Int.toNat (c.1.length:Int)-Int.toNat c.2) 1) ?_ ?_
  ·refine vX (.osl 0 (0+Int.toNat c.2) (Int.toNat (c.1.length:Int)-Int.toNat c.2) 1) (Qel (l:=c.1) f runUnderlying32 sizeOf3 (.inr ⟨_,Z,Z⟩) (.inl ⟨Z,Z⟩)) ?_
   exact Wp
  refine Dk 2 Z ?_
  obtain⟨N,t,d⟩:=Yy d
  refine DK.wo (x:=.osl 0 (0+Int.toNat 0) (Int.toNat c.2-Int.toNat 0) 1) ?_ ?_
  ·refine vX (.osl 0 (0+Int.toNat 0) (Int.toNat c.2-Int.toNat 0) 1) (Qel (l:=c.1) t runUnderlying32 sizeOf3 (.inl ⟨Z,Z⟩) (.inr ⟨_,Z,Z⟩)) ?_
   exact Wp
  obtain⟨O,i,d⟩:=Yy d
  refine DK.op (x:=I ((min N.length ((c.1.length:Int).toNat-c.2.toNat):Nat):Int)) (X1:=[.row 3 1 (List.map (Qd .i64) O)]) ?_ ?_
  ·refine vH (QhI (e:=(Qd .i64)) f i runUnderlying32 sizeOf3 (Qj1 (b:=0) t)) ?_
   exact FE Z Wp
  refine DK.done Z Z ?_
  refine WO.le (QR (s:=7) Z (congrArg (fun n=>A.osl 0 0 n 1) (QcV f i))) ?_
  refine WO.le (QR (s:=35) Z (congrArg (fun n=>A.osl 0 0 n 1) (QcV f i))) ?_
  refine WO.le (QR (s:=39) Z (congrArg (fun n=>A.osl 0 0 n 1) (QcV f i))) ?_
  refine WO.le (QR (s:=42) Z (congrArg (fun n=>A.osl 0 0 n 1) (QcV f i))) ?_
  exact Go 4 Z (Qi d (Lr [0]))
 exact Gx 1 Z (TC.le g (Gc 7 Z (Rt h 4 [0])))
def F_eq(n:Nat)(a:Int)(b:List Int)(c:Int):Option Unit:=
  some ()
theorem k_eq(n:Nat)(a:Int)(b:List Int)(c:Int)(r:Unit)(h:F_eq n a b c=some r):
    C prog 76 [I a,.rsl 1 (List.map (Qd .i64) b),I c] [] (RQ (fun _=>.fn (.func 126) [] [.ptr 0 0,.ptr 1 0,.ptr 2 0]) (fun _=>[.cells 32 [.rsl 1 (List.map (Qd .i64) b)],.cells 3 [I a],.cells 3 [I c]]) r):=by
 refine Qa func76 Z Z Z ?_
 refine G0 3 Z ?_
 refine vH (OpH.box Z Z Z Z Z) ?_
 exact FE Z (Go 11 Z (Rt h 6 [1,0,2]))
def F_lm(n:Nat)(d:List Int)(e:Int)(b:Int)(a:Int):Option ((List money_part)×Ctl Int Unit):=
  (bif decide (a<(d.length:Int))then(idx d a).bind fun c=>(nz b).bind fun f=>(nz b).bind fun g=>yl ({index:=a,cents:=IntKind.i64.wrap (Int.tdiv (IntKind.i64.wrap (e*c)) b),rest:=Int.tmod (IntKind.i64.wrap (e*c)) b:money_part}) (some ([],.cont (IntKind.i64.wrap (a+1))))else some ([],.done ()))
def F_ee(n:Nat)(a:List Int)(b:Int)(c:Int):Option ((List money_part)×Unit):=
  ap (Qba (F_lm n a b c) n 0) fun d=>some ([],())
theorem k_ee(n:Nat)(q:List Int)(d:Int)(f:Int)(p:(List money_part)×Unit)(h:F_ee n q d f=some p):
    QcM prog 126 [.ptr 0 0,.ptr 1 0,.ptr 2 0] [.cells 32 [.rsl 1 (List.map (Qd .i64) q)],.cells 3 [I d],.cells 3 [I f]] (fun x=>[.agg (money_part.c x)]) nxL p.1:=by
 obtain⟨xs,u⟩:=p
 refine Qao func126 Z Z Z Z ?_
 intro X hE hN
 refine Gy0 1 Z (TCy.lf ?_)
 refine G0 2 Z (Lm Z (Go 2 Z ?_))
 refine Gyx 1 Z ?_
 obtain⟨z,r,s,t,w,rfl⟩:=QgH h
 rw[List.append_assoc]
 refine Qb8 r (s++[]) [0,1,2] [0] (fun _=>[]) (fun _=>[]) (fun _=>rfl) ?_ (fun env H B=>?_)
 ·refine Gy0 1 Z ?_
  refine QeO [0,1,2] [0,2,3,7,8] (fun g=>[(9,I g)]) (fun _=>[]) t (fun _=>rfl) (Lr [0,1,2]) fun g E F G a i=>?_
  refine Gy0 1 Z (TCy.lf ?_)
  refine G0 3 Z ?_
  refine Gyx 2 Z (TCy.lf ?_)
  refine G0 0 Z (Yc Z a (fun j a=>?_) (fun j a=>?_))
  ·refine Gc 1 Z ?_
   refine Gyx 1 Z ?_
   obtain⟨rfl,rfl,rfl⟩:=Oy i a
   exact Qey (Gyx 1 Z (QgF (Lr [0,1,2])))
  refine Gc 1 Z ?_
  refine Gyx 4 Z (TCy.lf ?_)
  refine G0 2 Z (Bd a fun b k a=>Iz k Z (Go 4 Z ?_))
  refine Gyx 2 Z (DSy 13 Z (D 6 Z ?_))
  obtain⟨J,l,a⟩:=Yy a
  refine DS.v (x:=(I (IntKind.i64.wrap (Int.tdiv (IntKind.i64.wrap (d*b)) f)))) (OpV.quo Z Z Z (Qkf l)) ?_
  refine D 4 Z ?_
  obtain⟨L,m,a⟩:=Yy a
  refine DS.v (x:=(I (Int.tmod (IntKind.i64.wrap (d*b)) f))) (OpV.rem Z Z Z (Qkf m)) ?_
  refine D 1 Z (DS.done Z ?_)
  obtain⟨M,y,rfl⟩:=Qgk a
  refine Qi2 (x:={index:=g,cents:=IntKind.i64.wrap (Int.tdiv (IntKind.i64.wrap (d*b)) f),rest:=Int.tmod (IntKind.i64.wrap (d*b)) f:money_part}) (e:=fun x=>.agg (money_part.c x)) hE hN Z Z Z Z ?_ ?_
  ·refine Gyo 3 Z (TCy.lf ?_)
   refine G0 2 Z ?_
   refine Gyx 2 Z (TCy.lf ?_)
   refine G0 4 Z ?_
   exact Gyx 0 Z (Qdf y (Lr [0,1,2]))
  ·exact Gyo 7 Z (Qez (Gyx 1 Z (QgE (⟨.inr Z,.inr ⟨_,Z⟩⟩))))
 cases w
 exact⟨.inl Z,.inl Z⟩
def F_er(n:Nat)(a:money_part)(b:money_part):Option Int:=
  (F_b n b.rest a.rest).bind fun c=>(F_b n a.index b.index).bind fun d=>(F_f n [c,d]).bind fun e=>some e
theorem k_er(n:Nat)(a:money_part)(b:money_part)(r:Int)(h:F_er n a b=some r):
    Csm prog 78 [.agg (money_part.c a),.agg (money_part.c b)] [] (fun r=>I r) r:=by
 refine Qa func78 Z Z Z ?_
 refine G0 8 Z (DSs 9 Z (D 4 Z ?_))
 refine Dz [] h (k_b _ _ _) Z fun d f h=>D 4 Z (DS.done Z (Cz [] h (k_b _ _ _) Z fun e g h=>?_))
 refine vH (QdH (xs:=[.tmp 9,.tmp 14]) (es:=List.map (Qd .i64) [d,e]) Qw Z Z Z Z Z ⟨Z,Z,trivial⟩ Z Z) ?_
 exact FE Z (Cz [] h (k_f _ _) Z fun j i h=>Go 4 Z (Rt h 4 []))
def F_hq(n:Nat)(a:List Int):Option (List Int):=
  Qiu a (some []) ((app ([]:List Int) a).bind fun b=>some b)
theorem k_hq(n:Nat)(a:List Int)(r:List Int)(h:F_hq n a=some r):
    C prog 79 [.rsl 1 (List.map (Qd .i64) a)] [] (RQ (fun r=>.osl 0 0 r.length 1) (fun r=>[.row 3 1 (List.map (Qd .i64) r)]) r):=by
 refine Qa func79 Z Z Z ?_
 refine G0 9 Z ?_
 refine Qi4 (e:=(Qd .i64)) (l:=a) underlying32 Z (fun b c=>?_)
 have hkb1:=Qit h b c
 cases b
 ·have h:=hkb1.2 Z
  refine Go 7 Z ?_
  refine vH (OpH.lit (xs:=[]) (es:=List.map (Qd .i64) []) Qw Z Z Z Z Z trivial Z Z) ?_
  refine FE Z (Go 1 Z (Bd h fun f d h=>?_))
  refine vH (QO (e:=(Qd .i64)) d Qw runUnderlying32 Qf9) ?_
  exact FE Z (Go 4 Z (Rt h 2 [1]))
 ·have h:=hkb1.1 Z
  refine Go 10 Z ?_
  obtain rfl:=Oi h
  refine R1 2 Z ?_
  refine Le.trans (Le.phantom (s:=2) (k:=1) (t:=3) (Nat.le_of_ble_eq_true Z) Z) ?_
  exact Lr [0]
end Go.Sw
