/- What the functions compute that OutcomeChecks reaches, and that their calls refine it (part 1 of 4). -/
import Derived.Test.YtigaapnlkgbkeaaGreatW23CkB
set_option linter.unusedVariables false
set_option linter.unusedSimpArgs false
set_option maxRecDepth 100000
set_option maxHeartbeats 4000000
namespace Go.Sw
open List(map)
open Int(toNat)
open Go.IntKind(i64 u64 u8)
open Go.Proofs Tryz
def F_fu(n:Nat)(a:Int):Option (List Distance):=((bif decide (0<a)then some [{Mat:=1,Lap:=1,Limit:=a:Cutoff}]else some []):Option (List Cutoff)).bind λd=>some [{Name:=[100],Route:=[Uh,{Uh with Mat:=1:Part}],Timing:=1,Cutoffs:=d,Extra:=(-1):Distance}]
theorem k_fu(n:Nat)(e:Int):Kq (F_fu n e) 32 [I e] [] (λr=>.agg [.str [99],.osl 0 0 ([{Name:=[115],Kind:=1:Mat},{Name:=[101],Kind:=3:Mat}].length) 2,.osl 1 0 ([{From:=0,To:=1,Min:=10,Max:=1000:Leg}].length) 4,.osl 2 0 r.length 5,.osl 3 0 ([{Name:=[119],Gun:=0:Wave}].length) 2,.rsl 4 (map Offence.c []),.rsl 3 (map Category.c []),.rsl 4 (map Prize.c []),.osl 4 0 ([{Uk with Kind:=1,By:=4:Step}].length) 8,I 0,I 0,I 0,I 0,I 0,I 0,I 0]) (λr=>[.row 109 2 (map Mat.c [{Name:=[115],Kind:=1:Mat},{Name:=[101],Kind:=3:Mat}]),.row 111 4 (map Leg.c [{From:=0,To:=1,Min:=10,Max:=1000:Leg}]),.row 105 5 (map Distance.c r),.row 113 2 (map Wave.c [{Name:=[119],Gun:=0:Wave}]),.row 118 8 (map Step.enc [{Uk with Kind:=1,By:=4:Step}]),.cells 71 [.str [99],.osl 0 0 ([{Name:=[115],Kind:=1:Mat},{Name:=[101],Kind:=3:Mat}].length) 2,.osl 1 0 ([{From:=0,To:=1,Min:=10,Max:=1000:Leg}].length) 4,.osl 2 0 r.length 5,.osl 3 0 ([{Name:=[119],Gun:=0:Wave}].length) 2,.rsl 4 (map Offence.c []),.rsl 3 (map Category.c []),.rsl 4 (map Prize.c []),.osl 4 0 ([{Uk with Kind:=1,By:=4:Step}].length) 8,I 0,I 0,I 0,I 0,I 0,I 0,I 0]]):=by
 refine Kg 9 func32 Z Z Z Z λr h=>vH (Ej (xs:=[.tmp 4,.tmp 5]) (es:=map Part.enc [Uh,{Uh with Mat:=1:Part}]) QjD Z Z Z Z Z ⟨Z,Z,trivial⟩ Z Z) ?_;refine Fg 12 Z Z (Bd h λd a h=>Cg d [0,2,1] [2,3] Ze (λd=>[(1,.cells 105 [.str [100],.osl 2 0 ([Uh,{Uh with Mat:=1:Part}].length) 3,I 1,.rsl 3 (map Cutoff.c d),I (-1)])]) Zf ?_ ?_)
 .refine G0 0 Z (Cn Z a (λf a=>?_) (λf a=>?_))
  .refine Gc 3 Z (vH (Ej (xs:=[.tmp 11]) (es:=map Cutoff.c [{Mat:=1,Lap:=1,Limit:=e:Cutoff}]) QjC Z Z Z Z Z ⟨Z,trivial⟩ Z Z) ?_);refine Fg 3 Z Z ?_;cases a;refine Qa5 ?_;refine El (Yy [(12,_)] Z Z (Qip.cons Z En Qip.nil) (Ec (Ec (FzH.cells (Ed (Ee _) (Ed (Ee _) (Ed (Ee _) (Ed En (Ei _))))) (Ec (QX _)))))) ?_;exact Lr [0,2,1]
  exact Gcl 1 Z a [0,2,1]
 refine Gc 4 Z (vH (Ej (xs:=[.tmp 14,.tmp 15]) (es:=map Mat.c [{Name:=[115],Kind:=1:Mat},{Name:=[101],Kind:=3:Mat}]) el_60 Z Z Z Z Z ⟨Z,Z,trivial⟩ Z Z) ?_);refine Fg 1 Z Z (vH (Ej (xs:=[.tmp 17]) (es:=map Leg.c [{From:=0,To:=1,Min:=10,Max:=1000:Leg}]) el_61 Z Z Z Z Z ⟨Z,trivial⟩ Z Z) ?_);refine Fg 1 Z Z ?_;refine Qq (Yy [(19,_)] Z Z (Qip.cons Z (FzA.agg (Ed (Ee _) (Ed En (Ei _)))) Qip.nil) (Ec (FzH.cells (Ed (Ee _) (Ed En (Ei _))) (Ec (QX _))))) ?_;refine vH (Ej (xs:=[.tmp 19]) (es:=map Distance.c [{Name:=[100],Route:=[Uh,{Uh with Mat:=1:Part}],Timing:=1,Cutoffs:=d,Extra:=(-1):Distance}]) el_62 Z Z Z Z Z ⟨Z,trivial⟩ Z Z) ?_;refine Fg 1 Z Z (vH (Ej (xs:=[.tmp 21]) (es:=map Wave.c [{Name:=[119],Gun:=0:Wave}]) el_63 Z Z Z Z Z ⟨Z,trivial⟩ Z Z) ?_);refine Fg 1 Z Z (vH (Ej (xs:=[.tmp 23]) (es:=map Step.enc [{Uk with Kind:=1,By:=4:Step}]) el_67 Z Z Z Z Z ⟨Z,trivial⟩ Z Z) ?_);refine Fg 5 Z Z ?_;obtain rfl:=Oi h;exact Rx [3,4,5,6,7,0] [2] Z (Qs Z (Qe isAgg71 sizeOf71 Z Z Z)) ⟨Z,Z⟩
def F_f(n:Nat):Option Unit:=some ()
theorem k_f(n:Nat):Kq (F_f n) 15 [] [] (λ_=>.agg [.rsl 3 (map Segment.c []),.osl 0 0 ([[0]].length) 1]) (λ_=>[.row 77 1 (map (Qy 1 (Qd .i64)) [[0]]),.cells 25 [.rsl 3 (map Segment.c []),.osl 0 0 ([[0]].length) 1]]):=by
 refine Kg 7 func15 Z Z Z Z λr h=>vH (Ej (xs:=[.const (.int .i64 0)]) (es:=map (Qd .i64) [0]) QO Z Z Z Z Z ⟨Z,trivial⟩ Z Z) ?_;refine FE Z ?_;refine Qq (Yy [(1,_)] Z Z (Qip.cons Z En Qip.nil) (Ec (Ec (QX _)))) ?_;refine vH (Ej (xs:=[.tmp 1]) (es:=map (Qy 1 (Qd .i64)) [[0]]) el_23 Z Z Z Z Z ⟨Z,trivial⟩ Z Z) ?_;refine Fg 5 Z Z ?_;obtain rfl:=Oi h;exact Rx [2,0] [0] Z (Qs Z (Qe isAgg25 sizeOf25 Z Z Z)) ⟨Z,Z⟩
def F_js(n:Nat)(d:List Penalty)(a:Y5×Int):Option (Ctl (Y5×Int) Y5):=(bif decide (a.2<(d.length:Int))then(idx d a.2).bind λe=>some (.cont ({a.1 with extra:=i64.wrap (a.1.extra+e.Laps):Y5},i64.wrap (a.2+1)))else some (.done a.1))
def F_dm(n:Nat)(d:Course)(e:Clocks)(f:Starter)(g:List Hit)(h:List Hand)(a:List Penalty)(i:Int):Option Y5:=(iter (F_js n a) n ({course:=d,clocks:=e,starter:=f,hits:=g,hands:=h,penalty:=a,extra:=0,position:=i:Y5},0):Option Y5).bind λj=>some j
theorem k_dm(n:Nat)(i:Course)(j:Clocks)(k:Starter)(l:List Hit)(m:List Hand)(p:List Penalty)(q:Int):Kq (F_dm n i j k l m p q) 43 [.agg (Course.c i),.agg (Clocks.c j),.agg (Starter.c k),.rsl 5 (map Hit.c l),.rsl 4 (map Hand.c m),.rsl 4 (map Penalty.c p),I q] [] (λr=>.agg (Y5.c r)) (λr=>[.cells 90 (Y5.c r)]):=by
 refine Kg 26 func43 Z Z Z Z λr h=>Lg 3 Z Z (Bd h λe t h=>Cg e [0,1] [] (λ_=>[(14,.ptr 0 0),(15,.ptr 1 0)]) (λe=>[(0,.cells 90 (Y5.c z_outcome_question)),(1,.cells 90 (Y5.c e))]) Zf ?_ ?_)
 .refine G0 1 Z (Lp [3,4] [14,15,26,27] (λd=>[(28,I d.2)]) (λd=>[(1,.cells 90 (Y5.c d.1))]) t Zf (Lr [3,4]) λd u a s=>?_);refine G0 6 Z (Yn Z a (λf a=>?_) (λf a=>?_))
  .exact Gc 2 Z (Qp a (Gx 1 Z (cQo s a (Lr [0,1]))))
  exact Gc 6 Z (Bd a λw g a=>Iz g Z (Go 20 Z (Qo a (Lr [0,1]))))
 refine Gc 7 Z ?_;obtain rfl:=Oi h;exact Rx [0] [14] Z (Qs Z (Qe isAgg90 sizeOf90 Z Z Z)) ⟨Z,Z⟩
def F_jg(n:Nat)(g:List Part)(h:Int)(rec12:(List Part)->Int->Option (Int×Int))(a:Int×Int×Int):Option (Ctl (Int×Int×Int) (Int×Int)):=(bif decide (a.2.2<(g.length:Int))then((idx g a.2.2).bind λe=>((bif ((e.Parts.length:Int)==0)then some true else(bif (h==0)then some true else some (decide (256<a.2.1)))):Option Bool).bind λi=>(bif i then some (a.1,a.2.1)else(rec12 e.Parts (i64.wrap (h-1))).bind λd=>some ((if a.1<i64.wrap (d.1+1)then i64.wrap (d.1+1)else a.1),i64.wrap (a.2.1+d.2))):Option (Int×Int)).bind λf=>some (.cont (f.1,f.2,i64.wrap (a.2.2+1)))else some (.done (a.1,a.2.1)))
def B_ag(rec12:(List Part)->Int->Option (Int×Int))(n:Nat)(d:List Part)(e:Int):Option (Int×Int):=(iter (F_jg n d e rec12) n (0,(d.length:Int),0):Option (Int×Int)).bind λa=>some (a.1,a.2)
theorem Qb8(rec12:(List Part)->Int->Option (Int×Int))(j:∀(k:List Part) (l:Int) (r:Int×Int),rec12 k l=some r->Csm prog 136 [.rsl 3 (map Part.enc k),I l] [] (λr=>.tup [I r.1,I r.2]) r)(n:Nat)(k:List Part)(l:Int)(r:Int×Int)(h:B_ag rec12 n k l=some r):Csm prog 136 [.rsl 3 (map Part.enc k),I l] [] (λr=>.tup [I r.1,I r.2]) r:=by
 refine YH func136 Z Z Z ?_;refine G0 9 Z (Lg 7 Z Z (Lg 3 Z Z (Bd h λg y h=>Cg g [] [] (λg=>[(4,I g.1),(5,I g.2)]) Ze Zf ?_ ?_)))
 .refine G0 1 Z (Lp [] [1,12,13] (λf=>[(4,I f.1),(5,I f.2.1),(14,I f.2.2)]) Ze y Zf (Lr []) λf E e q=>?_);refine G0 6 Z (Yn Z e (λs e=>?_) (λs e=>?_))
  .exact Gc 2 Z (Qp e (Gx 1 Z (cQo q e (Lr []))))
  refine Gc 3 Z (Bd e λi a e=>Cg i [] [1,12,13,14] (λi=>[(4,I i.1),(5,I i.2)]) Ze Zf ?_ ?_)
  .refine G0 3 Z (Bd a λz t a=>IzE t (QaC z) Z (Go 7 Z (Bd a λm d a=>Cg m [0] [1,4,5,7,12,13,14] (λm=>[(29,.bool m)]) Ze Zf ?_ ?_)))
   .refine G0 3 Z (Lg 2 Z Z (Is 22 d Z (λu d=>?_) (λu d=>?_)))
    .exact Gl 8 Z d [0]
    .refine Go 4 Z (Is 26 d Z (λw d=>?_) (λw d=>?_))
     iterate 2 exact Gl 4 Z d [0]
   refine Cn Z a (λx a=>?_) (λx a=>?_)
   .exact Gcl 3 Z a []
   refine Gc 8 Z (Cd [] a (j _ _) Z λp B a=>Fg 11 Z Z ?_);refine vX (I (if f.1<i64.wrap (p.1+1)then i64.wrap (p.1+1)else f.1)) (OpV.max Z Z Z Z) ?_;exact Gl 7 Z a []
  exact Gc 4 Z (Qo e (Lr []))
 refine Gc 9 Z ?_;obtain rfl:=Oi h;exact R2 4 5 Z Z (Lr [])
def F_ag:Nat->(List Part)->Int->Option (Int×Int)
  |0=>λ_ _=>none
  |n+1=>B_ag (F_ag n) n
theorem k_ag(n:Nat):∀(a:List Part) (d:Int) (r:Int×Int),F_ag n a d=some r->Csm prog 136 [.rsl 3 (map Part.enc a),I d] [] (λr=>.tup [I r.1,I r.2]) r:=by
  induction n with
  |zero=>intro a d r h;cases h
  |succ n ih=>intro a d r h;exact Qb8 _ ih n a d r h
def F_ju(n:Nat)(f:Course)(a:Int):Option (Ctl Int (Ctl Unit Bool)):=(bif decide (a<(f.Distances.length:Int))then(idx f.Distances a).bind λd=>(F_ag n d.Route 17).bind λe=>((bif decide (64<(d.Cutoffs.length:Int))then some true else(bif decide (16<e.1)then some true else some (decide (256<e.2)))):Option Bool).bind λg=>(bif g then some (.done (.done false))else some (.cont (i64.wrap (a+1))))else some (.done (.cont ())))
def F_fx(n:Nat)(a:Course):Option Bool:=((bif decide (40<(a.Mats.length:Int))then some true else(bif decide (512<(a.Legs.length:Int))then some true else(bif decide (8<(a.Distances.length:Int))then some true else(bif decide (32<(a.Waves.length:Int))then some true else(bif decide (32<(a.Offences.length:Int))then some true else(bif decide (32<(a.Categories.length:Int))then some true else some (decide (32<(a.Prizes.length:Int))))))))):Option Bool).bind λf=>(bif f then some false else(iter (F_ju n a) n 0:Option (Ctl Unit Bool)).bind λe=>match e with|.cont d=>(some true)|.done d=>some d)
theorem k_fx(n:Nat)(z:Course):Ks (F_fx n z) 108 [.agg (Course.c z)] [] (λr=>.bool r):=by
 refine Kg 8 func108 Z Z Z Z λr h=>Bd h λj d h=>Ct j [0] [1] (λj=>[(46,.bool j)]) Ze Zf ?_ (λenv H B=>?_)
 .refine G0 3 Z (Lg 2 Z Z (Is 11 d Z (λE d=>?_) (λE d=>?_)))
  .exact Gl 36 Z d [0]
  .refine Go 2 Z (Lg 3 Z Z (Is 17 d Z (λk d=>?_) (λk d=>?_)))
   .exact Gl 30 Z d [0]
   .refine Go 2 Z (Lg 3 Z Z (Is 23 d Z (λl d=>?_) (λl d=>?_)))
    .exact Gl 24 Z d [0]
    .refine Go 2 Z (Lg 3 Z Z (Is 29 d Z (λm d=>?_) (λm d=>?_)))
     .exact Gl 18 Z d [0]
     .refine Go 2 Z (Lg 3 Z Z (Is 35 d Z (λp d=>?_) (λp d=>?_)))
      .exact Gl 12 Z d [0]
      .refine Go 2 Z (Lg 3 Z Z (Is 41 d Z (λq d=>?_) (λq d=>?_)))
       .exact Gl 6 Z d [0]
       .exact Go 2 Z (Lm Z (Gl 3 Z d [0]))
 refine Gx 1 Z (Qm B (Cn Z h (λs h=>?_) (λs h=>?_)))
 .exact QP 7 Z h 2 []
 refine Gc 7 Z (Lg 3 Z Z (Bd h λF G h=>CgE (b:=F) [] [] Ze Ze Zf ?_ (λL J=>?_)))
 .refine G0 1 Z (Lp [] [48,49] (λi=>[(50,I i)]) Ze G Zf (Lr []) λi N a f=>?_);refine G0 6 Z (Yn Z a (λt a=>?_) (λt a=>?_))
  .exact Gc 2 Z (Qp a (Gx 1 Z (cNo f a Z (Lr []))))
  refine Gc 6 Z (Bd a λO u a=>Iz u Z (Go 9 Z (Cd [] a (k_ag _ _ _) Z λP M a=>Fg 8 Z Z (Bd a λg e a=>Cg g [] [48,49,50] (λg=>[(71,.bool g)]) Ze Zf ?_ ?_))))
  .refine G0 3 Z (Lg 2 Z Z (Is 64 e Z (λw e=>?_) (λw e=>?_)))
   .exact Gl 8 Z e []
   .refine Go 4 Z (Is 68 e Z (λx e=>?_) (λx e=>?_))
    iterate 2 exact Gl 4 Z e []
  refine Cn Z a (λy a=>?_) (λy a=>?_)
  .refine Gc 8 Z (Qw a ?_);obtain rfl:=Oj f a;exact Gx 1 Z (Qu (Gx 1 Z (Rt h 2 [])))
  exact Gc 7 Z (Qo a (Lr []))
 subst J;exact QP 6 Z h 2 []
def F_ix(n:Nat)(a:(List Int)×Int):Option (Ctl ((List Int)×Int) (List Int)):=(bif decide (a.2<=122)then(Qej 256 a.1 a.2).bind λf=>(QbA a.1 a.2 2).bind λd=>(Qej 256 d (u8.wrap (a.2-32))).bind λg=>(QbA d (u8.wrap (a.2-32)) 2).bind λe=>some (.cont (e,u8.wrap (a.2+1)))else some (.done a.1))
def F_jf(n:Nat)(a:(List Int)×Int):Option (Ctl ((List Int)×Int) (List Int)):=(bif decide (a.2<=57)then(Qej 256 a.1 a.2).bind λe=>(QbA a.1 a.2 3).bind λd=>some (.cont (d,u8.wrap (a.2+1)))else some (.done a.1))
def F_ib(n:Nat)(a:(List Int)×Int):Option (Ctl ((List Int)×Int) (List Int)):=(bif decide (a.2<([123,125,40,41,91,93,59,44,61,60,62].length:Int))then(idx [123,125,40,41,91,93,59,44,61,60,62] a.2).bind λd=>(Qej 256 a.1 d).bind λf=>(QbA a.1 d 4).bind λe=>some (.cont (e,i64.wrap (a.2+1)))else some (.done a.1))
def F_hy(n:Nat)(a:(List Int)×Int):Option (Ctl ((List Int)×Int) (List Int)):=(bif decide (a.2<(([32,9,10,13].length):Int))then(idx [32,9,10,13] a.2).bind λd=>(Qej 256 a.1 d).bind λf=>(QbA a.1 d 1).bind λe=>some (.cont (e,i64.wrap (a.2+1)))else some (.done a.1))
def F_ew(n:Nat):Option (List Int):=(iter (F_ix n) n (List.replicate 256 0,97):Option (List Int)).bind λd=>(iter (F_jf n) n (d,48):Option (List Int)).bind λe=>(iter (F_ib n) n (e,0):Option (List Int)).bind λf=>(iter (F_hy n) n (f,0):Option (List Int)).bind λa=>(arr 256 a).bind λg=>(arr 256 a).bind λi=>(arr 256 g).bind λh=>some h
theorem k_ew(n:Nat):Kq (F_ew n) 224 [] [] (λr=>.agg (List.flatten (map (Qd .u8) r))) (λr=>[.row 325 1 (map (Qd .u8) r)]):=by
 refine Kg 2 func224 Z Z Z Z λr h=>vH (Qb3 (n:=256) (k:=1) (e:=(Qd .u8)) (z:=0) zeroValue325 (by kernel_rfl) (by kernel_rfl) (by kernel_rfl) Z) ?_;refine Fg 8 Z Z (Bd h λw ah h=>Ct w [0] [0] Ze (λw=>[(0,.row 325 1 (map (Qd .u8) w))]) Zf ?_ (λenv H q=>?_))
 .refine G0 1 Z (Lp [0] [0] (λj=>[(1,.int .u8 j.2)]) (λj=>[(0,.row 325 1 (map (Qd .u8) j.1))]) ah Zf (Lr [0]) λj aq a O=>?_);refine G0 7 Z (Yn Z a (λP a=>?_) (λP a=>?_))
  .exact Gc 2 Z (Qp a (Gx 1 Z (cQo O a (Lr [0]))))
  refine Gc 8 Z (Bd a λar x a=>?_);refine vX (.ptr 0 (toNat j.2*1)) (Qaw (n:=256) (k:=1) (l:=j.1) x EO EP Z) ?_;refine Bd a λai Q a=>?_;refine vU (YE (e:=(Qd .u8)) (k:=1) (f:=0) (QaU x).2 Q EP Z Z) ?_;refine FE Z (Bd a λau y a=>?_);refine vX (.ptr 0 (toNat (u8.wrap (j.2-32))*1)) (Qaw (n:=256) (k:=1) (l:=ai) y EO EP Z) ?_;refine Bd a λav R a=>?_;refine vU (YE (e:=(Qd .u8)) (k:=1) (f:=0) (QaU y).2 R EP Z Z) ?_;exact Fg 8 Z Z (Qo a (Lr [0]))
 refine Gx 1 Z (Qm q (Gc 6 Z (Bd h λB aj h=>Ct B [0] [0] Ze (λB=>[(0,.row 325 1 (map (Qd .u8) B))]) Zf ?_ (λenv H q=>?_))))
 .refine G0 1 Z (Lp [0] [0] (λm=>[(2,.int .u8 m.2)]) (λm=>[(0,.row 325 1 (map (Qd .u8) m.1))]) aj Zf (Lr [0]) λm aw i T=>?_);refine G0 7 Z (Yn Z i (λV i=>?_) (λV i=>?_))
  .exact Gc 2 Z (Qp i (Gx 1 Z (cQo T i (Lr [0]))))
  refine Gc 6 Z (Bd i λax E i=>?_);refine vX (.ptr 0 (toNat m.2*1)) (Qaw (n:=256) (k:=1) (l:=m.1) E EO EP Z) ?_;refine Bd i λay W i=>?_;refine vU (YE (e:=(Qd .u8)) (k:=1) (f:=0) (QaU E).2 W EP Z Z) ?_;exact Fg 8 Z Z (Qo i (Lr [0]))
 refine Gx 1 Z (Qm q (Gc 3 Z (vH (Ej (xs:=[.const (.int .u8 123),.const (.int .u8 125),.const (.int .u8 40),.const (.int .u8 41),.const (.int .u8 91),.const (.int .u8 93),.const (.int .u8 59),.const (.int .u8 44),.const (.int .u8 61),.const (.int .u8 60),.const (.int .u8 62)]) (es:=map (Qd .u8) [123,125,40,41,91,93,59,44,61,60,62]) Qh1 Z Z Z Z Z ⟨Z,Z,Z,Z,Z,Z,Z,Z,Z,Z,Z,trivial⟩ Z Z) ?_)));refine FE Z (vH (Qhc (es:=map (Qd .u8) [123,125,40,41,91,93,59,44,61,60,62]) underlying328 underlying5 (XU ..) Z) ?_);refine FE Z (Lg 3 Z Z (Bd h λF ak h=>Ct F [0] [0] Ze (λF=>[(0,.row 325 1 (map (Qd .u8) F))]) Zf ?_ (λenv H q=>?_)))
 .refine G0 1 Z (Lp [0] [0,23,24] (λs=>[(25,I s.2)]) (λs=>[(0,.row 325 1 (map (Qd .u8) s.1))]) ak Zf (Lr [0]) λs az d X=>?_);refine G0 6 Z (Yn Z d (λY d=>?_) (λY d=>?_))
  .exact Gc 2 Z (Qp d (Gx 1 Z (cQo X d (Lr [0]))))
  refine Gc 6 Z (Bd d λal aa d=>Iz aa Z (Go 6 Z (Bd d λba G d=>?_)));refine vX (.ptr 0 (toNat al*1)) (Qaw (n:=256) (k:=1) (l:=s.1) G EO EP Z) ?_;refine Bd d λbb ab d=>?_;refine vU (YE (e:=(Qd .u8)) (k:=1) (f:=0) (QaU G).2 ab EP Z Z) ?_;exact Fg 7 Z Z (Qo d (Lr [0]))
 refine Gx 1 Z (Qm q (Gc 3 Z (vH (Ej (xs:=[.const (.int .u8 32),.const (.int .u8 9),.const (.int .u8 10),.const (.int .u8 13)]) (es:=map (Qd .u8) [32,9,10,13]) Qh1 Z Z Z Z Z ⟨Z,Z,Z,Z,trivial⟩ Z Z) ?_)));refine Fg 4 Z Z (Bd h λu am h=>Cg u [0] [0] Ze (λu=>[(0,.row 325 1 (map (Qd .u8) u))]) Zf ?_ ?_)
 .refine G0 1 Z (Lp [0,1] [0,32,33] (λp=>[(34,I p.2)]) (λp=>[(0,.row 325 1 (map (Qd .u8) p.1))]) am Zf (Lr [0,1]) λp bc g ac=>?_);refine G0 6 Z (Yn Z g (λad g=>?_) (λad g=>?_))
  .exact Gc 2 Z (Qp g (Gx 1 Z (cQo ac g (Lr [0]))))
  refine Gc 6 Z (Bd g λN J g=>?_);refine vX (.ptr 1 (toNat p.2*1)) (Q5 J Z runUnderlying328 EP) ?_;refine vX (.int .u8 N) (Er Z isAgg5 Z (Yj J)) ?_;refine Go 5 Z (Bd g λbd L g=>?_);refine vX (.ptr 0 (toNat N*1)) (Qaw (n:=256) (k:=1) (l:=p.1) L EO EP Z) ?_;refine Bd g λbe ae g=>?_;refine vU (YE (e:=(Qd .u8)) (k:=1) (f:=0) (QaU L).2 ae EP Z Z) ?_;exact Fg 7 Z Z (Qo g (Lr [0,1]))
 refine Gc 2 Z (Bd h λan af h=>?_);refine vX (.agg (List.flatten (map (Qd .u8) an))) (Qfm (e:=(Qd .u8)) af Zf Z isAgg325 Gh) ?_;refine Bd h λbf ag h=>Bd h λao t h=>?_;obtain⟨M,rfl⟩:=QbI ag;refine vU (Qb2 (e:=(Qd .u8)) (l:=u) (l':=ao) M (Qes t) Zf Z Gh Zf Zf (congrArg (λl=>List.flatten (map (Qd .u8) l)) (QbI t).2.symm)) ?_;refine Fg 3 Z Z ?_;obtain rfl:=Oi h;exact Rx [0] [0] Z (Qs Z (Qg1 (e:=(Qd .u8)) (Qes t) Zf Z isAgg325 Gh)) ⟨Z,Z⟩
def F_jk(n:Nat)(e:List UInt8)(i:List Int)(a:Int):Option (Ctl Int (Ctl Unit Bool)):=(bif decide (a<(e.length:Int))then(idx e a).bind λf=>(Qej 256 i (f.toNat:Int)).bind λd=>((bif (d != 2)then(bif (a==0)then some true else(bif (d != 3)then(idx e a).bind λg=>some ((g.toNat:Int) != 95)else some false))else some false):Option Bool).bind λh=>(bif h then some (.done (.done false))else some (.cont (i64.wrap (a+1))))else some (.done (.cont ())))
def F_fe(n:Nat)(d:List UInt8):Option Bool:=(F_ew n).bind λf=>(arr 256 (List.replicate 256 0)).bind λh=>(arr 256 f).bind λg=>(iter (F_jk n d g) n 0:Option (Ctl Unit Bool)).bind λe=>match e with|.cont a=>(some (d != []))|.done a=>some a
theorem k_fe(n:Nat)(q:List UInt8):Ks (F_fe n q) 210 [.str q] [] (λr=>.bool r):=by
 refine Kg 7 func210 Z Z Z Z λr h=>Bd h λG J h=>?_;refine Qi [] (OpC.fn call224 Z Z Z) (k_ew _ _ J) ?_;rintro _ _ ⟨rfl,rfl⟩;refine Qbh (x:=(.agg (List.flatten (map (Qd .u8) G)))) (H:=[.row 325 1 (map (Qd .u8) G)]) (QiD (e:=(Qd .u8)) Zf _ _) Z ?_;refine vH (Qb3 (n:=256) (k:=1) (e:=(Qd .u8)) (z:=0) zeroValue325 (by kernel_rfl) (by kernel_rfl) (by kernel_rfl) Z) ?_;refine FE Z (Bd h λW L h=>Bd h λM j h=>?_);obtain⟨s,rfl⟩:=QbI L;refine vU (Qb2 (e:=(Qd .u8)) (l:=(List.replicate 256 0)) (l':=M) s (Qes j) Zf Z Gh Zf Zf (congrArg (λl=>List.flatten (map (Qd .u8) l)) (QbI j).2.symm)) ?_;refine Fg 6 Z Z ?_;refine vX (I (q.length:Int)) (QaX Z Z EL Z) ?_;refine Go 3 Z (Bd h λN O h=>CgE (b:=N) [] [0] Ze Ze Zf ?_ (λT P=>?_))
 .refine G0 1 Z (Lp [1] [0,3,8] (λm=>[(9,I m)]) Ze O Zf (Lr [1]) λm V a f=>?_);refine G0 6 Z (Yn Z a (λt a=>?_) (λt a=>?_))
  .exact Gc 2 Z (Qp a (Gx 1 Z (cNo f a Z (Lr []))))
  refine Gc 14 Z (Bd a λp u a=>?_);refine vX (.int .u8 (p.toNat:Int)) (Qay u EL) ?_;refine Bd a λQ g a=>?_;refine vX (.ptr 0 (toNat (p.toNat:Int)*1)) (Qaw (n:=256) (k:=1) (l:=M) g EO EP Z) ?_;refine vX (.int .u8 Q) (Er Z isAgg5 Z (Yj (QaU g).2)) ?_;refine Go 4 Z (Bd a λi d a=>Cg i [0] [0,3,8,9] (λi=>[(32,.bool i)]) Ze Zf ?_ ?_)
  .refine G0 4 Z (Is 19 d Z (λw d=>?_) (λw d=>?_))
   .refine Go 3 Z (Is 22 d Z (λy d=>?_) (λy d=>?_))
    .exact Gl 11 Z d [0]
    .refine Go 3 Z (Is 25 d Z (λB d=>?_) (λB d=>?_))
     .refine Go 2 Z (Bd d λR E d=>?_);refine vX (.int .u8 (R.toNat:Int)) (Qay E EL) ?_ (gT Z);exact Gl 5 Z d [0]
     .exact Gl 8 Z d [0]
   .exact Gl 14 Z d [0]
  refine Cn Z a (λF a=>?_) (λF a=>?_)
  .refine Gc 8 Z (Qw a ?_);obtain rfl:=Oj f a;exact Gx 1 Z (Qu (Gx 1 Z (Rt h 2 [])))
  exact Gc 7 Z (Qo a (Lr [0]))
 subst P;exact QP 8 Z h 2 []
def F_bu(n:Nat)(a:List UInt8):Option Bool:=((F_fe n a).bind λg=>(bif g then(cat [32] a).bind λd=>(cat d [32]).bind λe=>(QfF [32,99,111,117,114,115,101,32,109,97,116,115,32,115,116,97,114,116,32,112,97,115,115,32,101,110,100,32,108,101,103,32,116,111,32,100,105,115,116,97,110,99,101,32,103,117,110,32,99,104,105,112,32,115,108,111,116,32,108,97,112,115,32,108,97,112,32,99,117,116,111,102,102,32,101,120,116,114,97,32,119,97,118,101,32,111,102,102,101,110,99,101,32,111,117,116,32,99,97,116,101,103,111,114,121,32,112,114,105,122,101,32,97,108,108,32,116,105,101,115,32,105,102,32,101,108,115,101,32,97,110,100,32,111,114,32,110,111,116,32,111,108,100,101,114,32,121,111,117,110,103,101,114,32,98,105,98,32,100,114,97,119,32,102,105,101,108,100,32,115,104,111,114,116,32,102,97,117,108,116,115,32,109,105,115,115,101,115,32,115,116,114,97,121,115,32,119,105,110,100,111,119,32,114,101,115,105,100,117,97,108,32,100,114,105,102,116,32,112,114,111,116,101,115,116,32,102,101,101,32,100,101,97,100,108,105,110,101,32] e).bind λf=>some f else some false):Option Bool).bind λh=>some h
theorem k_bu(n:Nat)(i:List UInt8):Ks (F_bu n i) 185 [.str i] [] (λr=>.bool r):=by
 refine Kg 6 func185 Z Z Z Z λr h=>Bd h λd a h=>Cg d [] [] (λd=>[(2,.bool d)]) Ze Zf ?_ ?_
 .refine G0 2 Z (Cz [] a (k_fe _ _) Z λq m a=>Go 1 Z (Is 5 a Z (λj a=>?_) (λj a=>?_)))
  .refine Go 1 Z (Bd a λk e a=>?_);refine vX (.str k) (Qdr e) ?_ (gT Z);refine Bd a λl f a=>?_;refine vX (.str l) (Qdr f) ?_ (gT Z);refine Bd a λp g a=>?_;refine Qi [] (OpC.fn call211 Z Z Z) (C.contains Qcc Z g) ?_ (hg:=(gT Z));rintro _ _ ⟨rfl,rfl⟩;exact FE Z (Gl 3 Z a [])
  .exact Gl 7 Z a []
 exact QP 1 Z h 2 []
def F_ig(n:Nat)(e:List UInt8)(d:Int):Option (Ctl Int (Ctl Unit Bool)):=(bif decide (d<(e.length:Int))then(idx e d).bind λa=>((bif decide ((a.toNat:Int)<97)then(bif decide ((a.toNat:Int)<48)then some ((a.toNat:Int) != 95)else(bif decide (57<(a.toNat:Int))then some ((a.toNat:Int) != 95)else some false))else(bif decide (122<(a.toNat:Int))then(bif decide ((a.toNat:Int)<48)then some ((a.toNat:Int) != 95)else(bif decide (57<(a.toNat:Int))then some ((a.toNat:Int) != 95)else some false))else some false)):Option Bool).bind λf=>(bif f then some (.done (.done false))else some (.cont (i64.wrap (d+1))))else some (.done (.cont ())))
def F_e(n:Nat)(a:List UInt8):Option Bool:=((bif decide ((a.length:Int)<1)then some true else(bif decide (24<(a.length:Int))then some true else(idx a 0).bind λe=>(bif decide ((e.toNat:Int)<97)then some true else(idx a 0).bind λf=>some (decide (122<(f.toNat:Int)))))):Option Bool).bind λi=>(bif i then some false else(iter (F_ig n a) n 0:Option (Ctl Unit Bool)).bind λg=>match g with|.cont d=>((F_bu n a).bind λh=>some (!h))|.done d=>some d)
theorem k_e(n:Nat)(f:List UInt8):Ks (F_e n f) 137 [.str f] [] (λr=>.bool r):=by
 refine Kg 7 func137 Z Z Z Z λr h=>Bd h λk e h=>Ct k [] [0] (λk=>[(22,.bool k)]) Ze Zf ?_ (λenv H F=>?_)
 .refine G0 2 Z ?_;refine vX (I (f.length:Int)) (QaX Z Z EL Z) ?_;refine Go 2 Z (Is 8 e Z (λG e=>?_) (λG e=>?_))
  .exact Gl 15 Z e []
  .refine Go 1 Z ?_;refine vX (I (f.length:Int)) (QaX Z Z EL Z) ?_ (gT Z);refine Go 3 Z (Is 13 e Z (λJ e=>?_) (λJ e=>?_))
   .exact Gl 10 Z e []
   .refine Go 1 Z (Bd e λL l e=>?_);refine vX (.int .u8 (L.toNat:Int)) (Qay l EL) ?_ (gT Z);refine Go 3 Z (Is 18 e Z (λm e=>?_) (λm e=>?_))
    .exact Gl 5 Z e []
    .refine Go 1 Z (Bd e λM p e=>?_);refine vX (.int .u8 (M.toNat:Int)) (Qay p EL) ?_ (gT Z);exact Gl 3 Z e []
 refine Gx 1 Z (Qm F (Cn Z h (λq h=>?_) (λq h=>?_)))
 .exact QP 7 Z h 2 []
 refine Gc 6 Z ?_;refine vX (I (f.length:Int)) (QaX Z Z EL Z) ?_;refine Go 3 Z (Bd h λN O h=>CgE (b:=N) [] [0] Ze Ze Zf ?_ (λR P=>?_))
 .refine G0 1 Z (Lp [] [0,24] (λj=>[(25,I j)]) Ze O Zf (Lr []) λj V d g=>?_);refine G0 6 Z (Yn Z d (λs d=>?_) (λs d=>?_))
  .exact Gc 2 Z (Qp d (Gx 1 Z (cNo g d Z (Lr []))))
  refine Gc 14 Z (Bd d λQ t d=>?_);refine vX (.int .u8 (Q.toNat:Int)) (Qay t EL) ?_;refine Go 4 Z (Bd d λi a d=>Cg i [] [0,24,25] (λi=>[(48,.bool i)]) Ze Zf ?_ ?_)
  .refine G0 4 Z (Is 33 a Z (λu a=>?_) (λu a=>?_))
   .refine Go 7 Z (Is 40 a Z (λw a=>?_) (λw a=>?_))
    .exact Gl 9 Z a []
    .refine Go 5 Z (Is 45 a Z (λx a=>?_) (λx a=>?_))
     iterate 2 exact Gl 4 Z a []
   .refine Go 4 Z (Is 37 a Z (λy a=>?_) (λy a=>?_))
    .refine Go 3 Z (Is 40 a Z (λz a=>?_) (λz a=>?_))
     .exact Gl 9 Z a []
     .refine Go 5 Z (Is 45 a Z (λB a=>?_) (λB a=>?_))
      iterate 2 exact Gl 4 Z a []
    .exact Gl 12 Z a []
  refine Cn Z d (λE d=>?_) (λE d=>?_)
  .refine Gc 8 Z (Qw d ?_);obtain rfl:=Oj g d;exact Gx 1 Z (Qu (Gx 1 Z (Rt h 2 [])))
  exact Gc 7 Z (Qo d (Lr []))
 subst P;exact Gc 3 Z (Cz [] h (k_bu _ _) Z λW T h=>Gt 5 Z h 2 [])
def F_cy(n:Nat)(a:Mat):Option Unit:=some ()
theorem k_cy(n:Nat)(a:Mat):Ks (F_cy n a) 139 [.agg (Mat.c a)] [] (λ_=>.str a.Name):=by
 exact Kg 14 func139 Z Z Z Z λr h=>Rt h 2 []
def F_jx(n:Nat)(e:List Mat)(a:(List (List UInt8×Bool))×Int):Option (Ctl ((List (List UInt8×Bool))×Int) (Ctl Unit Bool)):=(bif decide (a.2<(e.length:Int))then(idx e a.2).bind λd=>(F_cy n d).bind λj=>((F_e n d.Name).bind λf=>(bif (!f)then some true else(some (Ya a.1 d.Name false)).bind λg=>some g):Option Bool).bind λh=>(bif h then some (.done (.done false))else(some (Qae a.1 d.Name true)).bind λi=>some (.cont (i,i64.wrap (a.2+1))))else some (.done (.cont ())))
def F_fl(n:Nat)(e:List Mat):Option Bool:=(iter (F_jx n e) n ([],0):Option (Ctl Unit Bool)).bind λd=>match d with|.cont a=>(some true)|.done a=>some a
theorem k_fl(n:Nat)(u:List Mat):Ks (F_fl n u) 138 [.rsl 2 (map Mat.c u),.fn (.func 139) [] []] [] (λr=>.bool r):=by
 refine Kg 7 func138 Z Z Z Z λr h=>vH QQ ?_;refine Fg 7 Z Z (Lg 3 Z Z (Bd h λw x h=>CgE (b:=w) [] [] Ze Ze Zf ?_ (λB y=>?_)))
 .refine G0 1 Z (Lp [0] [1,5,10,11] (λe=>[(12,I e.2)]) (λe=>[(0,.map (Qh A.str A.bool e.1))]) x Zf (Lr [0]) λe G a f=>?_);refine G0 6 Z (Yn Z a (λj a=>?_) (λj a=>?_))
  .exact Gc 2 Z (Qp a (Gx 1 Z (cNo f a Z (Lr []))))
  refine Gc 6 Z (Bd a λi m a=>Iz m Z (Go 9 Z (Cz [] a (k_cy _ _) Z λH E a=>Go 5 Z (Bd a λg d a=>Cg g [0] [1,5,8,10,11,12] (λg=>[(26,.bool g)]) Ze Zf ?_ ?_))))
  .refine G0 2 Z (Cz [] d (k_e _ _) Z λJ F d=>Go 2 Z (Is 22 d Z (λp d=>?_) (λp d=>?_)))
   .exact Gl 5 Z d [0]
   .refine Go 2 Z (Bd d λz q d=>?_);refine vX (.bool z) (QL (ev:=A.bool) (z0:=false) (k:=i.Name) (l:=e.1) Qbs q EK EM ZR.bool) ?_ (gT Z);exact Gl 2 Z d [0]
  refine Cn Z a (λs a=>?_) (λs a=>?_)
  .refine Gc 9 Z (Qw a ?_);obtain rfl:=Oj f a;exact Gx 1 Z (Qu (Gx 1 Z (Rt h 4 [])))
  refine Gc 5 Z (Bd a λL t a=>?_);refine vU (QM (ev:=A.bool) (k:=i.Name) (v:=true) (l:=e.1) Qbs t Z EK) ?_;exact Fg 7 Z Z (Qo a (Lr [0]))
 subst y;exact QP 6 Z h 4 []
def F_gl(n:Nat)(a:Distance):Option Unit:=some ()
theorem k_gl(n:Nat)(a:Distance):Ks (F_gl n a) 141 [.agg (Distance.c a)] [] (λ_=>.str a.Name):=by
 exact Kg 14 func141 Z Z Z Z λr h=>Rt h 2 []
def F_ic(n:Nat)(e:List Distance)(a:(List (List UInt8×Bool))×Int):Option (Ctl ((List (List UInt8×Bool))×Int) (Ctl Unit Bool)):=(bif decide (a.2<(e.length:Int))then(idx e a.2).bind λd=>(F_gl n d).bind λj=>((F_e n d.Name).bind λf=>(bif (!f)then some true else(some (Ya a.1 d.Name false)).bind λg=>some g):Option Bool).bind λh=>(bif h then some (.done (.done false))else(some (Qae a.1 d.Name true)).bind λi=>some (.cont (i,i64.wrap (a.2+1))))else some (.done (.cont ())))
def F_ds(n:Nat)(e:List Distance):Option Bool:=(iter (F_ic n e) n ([],0):Option (Ctl Unit Bool)).bind λd=>match d with|.cont a=>(some true)|.done a=>some a
theorem k_ds(n:Nat)(u:List Distance):Ks (F_ds n u) 140 [.rsl 5 (map Distance.c u),.fn (.func 141) [] []] [] (λr=>.bool r):=by
 refine Kg 7 func140 Z Z Z Z λr h=>vH QQ ?_;refine Fg 7 Z Z (Lg 3 Z Z (Bd h λw x h=>CgE (b:=w) [] [] Ze Ze Zf ?_ (λB y=>?_)))
 .refine G0 1 Z (Lp [0] [1,5,10,11] (λe=>[(12,I e.2)]) (λe=>[(0,.map (Qh A.str A.bool e.1))]) x Zf (Lr [0]) λe G a f=>?_);refine G0 6 Z (Yn Z a (λj a=>?_) (λj a=>?_))
  .exact Gc 2 Z (Qp a (Gx 1 Z (cNo f a Z (Lr []))))
  refine Gc 6 Z (Bd a λi m a=>Iz m Z (Go 9 Z (Cz [] a (k_gl _ _) Z λH E a=>Go 5 Z (Bd a λg d a=>Cg g [0] [1,5,8,10,11,12] (λg=>[(26,.bool g)]) Ze Zf ?_ ?_))))
  .refine G0 2 Z (Cz [] d (k_e _ _) Z λJ F d=>Go 2 Z (Is 22 d Z (λp d=>?_) (λp d=>?_)))
   .exact Gl 5 Z d [0]
   .refine Go 2 Z (Bd d λz q d=>?_);refine vX (.bool z) (QL (ev:=A.bool) (z0:=false) (k:=i.Name) (l:=e.1) Qbs q EK EM ZR.bool) ?_ (gT Z);exact Gl 2 Z d [0]
  refine Cn Z a (λs a=>?_) (λs a=>?_)
  .refine Gc 9 Z (Qw a ?_);obtain rfl:=Oj f a;exact Gx 1 Z (Qu (Gx 1 Z (Rt h 4 [])))
  refine Gc 5 Z (Bd a λL t a=>?_);refine vU (QM (ev:=A.bool) (k:=i.Name) (v:=true) (l:=e.1) Qbs t Z EK) ?_;exact Fg 7 Z Z (Qo a (Lr [0]))
 subst y;exact QP 6 Z h 4 []
def F_fb(n:Nat)(a:Wave):Option Unit:=some ()
theorem k_fb(n:Nat)(a:Wave):Ks (F_fb n a) 143 [.agg (Wave.c a)] [] (λ_=>.str a.Name):=by
 exact Kg 14 func143 Z Z Z Z λr h=>Rt h 2 []
def F_ii(n:Nat)(e:List Wave)(a:(List (List UInt8×Bool))×Int):Option (Ctl ((List (List UInt8×Bool))×Int) (Ctl Unit Bool)):=(bif decide (a.2<(e.length:Int))then(idx e a.2).bind λd=>(F_fb n d).bind λj=>((F_e n d.Name).bind λf=>(bif (!f)then some true else(some (Ya a.1 d.Name false)).bind λg=>some g):Option Bool).bind λh=>(bif h then some (.done (.done false))else(some (Qae a.1 d.Name true)).bind λi=>some (.cont (i,i64.wrap (a.2+1))))else some (.done (.cont ())))
def F_co(n:Nat)(e:List Wave):Option Bool:=(iter (F_ii n e) n ([],0):Option (Ctl Unit Bool)).bind λd=>match d with|.cont a=>(some true)|.done a=>some a
theorem k_co(n:Nat)(u:List Wave):Ks (F_co n u) 142 [.rsl 2 (map Wave.c u),.fn (.func 143) [] []] [] (λr=>.bool r):=by
 refine Kg 7 func142 Z Z Z Z λr h=>vH QQ ?_;refine Fg 7 Z Z (Lg 3 Z Z (Bd h λw x h=>CgE (b:=w) [] [] Ze Ze Zf ?_ (λB y=>?_)))
 .refine G0 1 Z (Lp [0] [1,5,10,11] (λe=>[(12,I e.2)]) (λe=>[(0,.map (Qh A.str A.bool e.1))]) x Zf (Lr [0]) λe G a f=>?_);refine G0 6 Z (Yn Z a (λj a=>?_) (λj a=>?_))
  .exact Gc 2 Z (Qp a (Gx 1 Z (cNo f a Z (Lr []))))
  refine Gc 6 Z (Bd a λi m a=>Iz m Z (Go 9 Z (Cz [] a (k_fb _ _) Z λH E a=>Go 5 Z (Bd a λg d a=>Cg g [0] [1,5,8,10,11,12] (λg=>[(26,.bool g)]) Ze Zf ?_ ?_))))
  .refine G0 2 Z (Cz [] d (k_e _ _) Z λJ F d=>Go 2 Z (Is 22 d Z (λp d=>?_) (λp d=>?_)))
   .exact Gl 5 Z d [0]
   .refine Go 2 Z (Bd d λz q d=>?_);refine vX (.bool z) (QL (ev:=A.bool) (z0:=false) (k:=i.Name) (l:=e.1) Qbs q EK EM ZR.bool) ?_ (gT Z);exact Gl 2 Z d [0]
  refine Cn Z a (λs a=>?_) (λs a=>?_)
  .refine Gc 9 Z (Qw a ?_);obtain rfl:=Oj f a;exact Gx 1 Z (Qu (Gx 1 Z (Rt h 4 [])))
  refine Gc 5 Z (Bd a λL t a=>?_);refine vU (QM (ev:=A.bool) (k:=i.Name) (v:=true) (l:=e.1) Qbs t Z EK) ?_;exact Fg 7 Z Z (Qo a (Lr [0]))
 subst y;exact QP 6 Z h 4 []
def F_em(n:Nat)(a:Offence):Option Unit:=some ()
theorem k_em(n:Nat)(a:Offence):Ks (F_em n a) 145 [.agg (Offence.c a)] [] (λ_=>.str a.Name):=by
 exact Kg 14 func145 Z Z Z Z λr h=>Rt h 2 []
def F_ho(n:Nat)(e:List Offence)(a:(List (List UInt8×Bool))×Int):Option (Ctl ((List (List UInt8×Bool))×Int) (Ctl Unit Bool)):=(bif decide (a.2<(e.length:Int))then(idx e a.2).bind λd=>(F_em n d).bind λj=>((F_e n d.Name).bind λf=>(bif (!f)then some true else(some (Ya a.1 d.Name false)).bind λg=>some g):Option Bool).bind λh=>(bif h then some (.done (.done false))else(some (Qae a.1 d.Name true)).bind λi=>some (.cont (i,i64.wrap (a.2+1))))else some (.done (.cont ())))
def F_cj(n:Nat)(e:List Offence):Option Bool:=(iter (F_ho n e) n ([],0):Option (Ctl Unit Bool)).bind λd=>match d with|.cont a=>(some true)|.done a=>some a
theorem k_cj(n:Nat)(u:List Offence):Ks (F_cj n u) 144 [.rsl 4 (map Offence.c u),.fn (.func 145) [] []] [] (λr=>.bool r):=by
 refine Kg 7 func144 Z Z Z Z λr h=>vH QQ ?_;refine Fg 7 Z Z (Lg 3 Z Z (Bd h λw x h=>CgE (b:=w) [] [] Ze Ze Zf ?_ (λB y=>?_)))
 .refine G0 1 Z (Lp [0] [1,5,10,11] (λe=>[(12,I e.2)]) (λe=>[(0,.map (Qh A.str A.bool e.1))]) x Zf (Lr [0]) λe G a f=>?_);refine G0 6 Z (Yn Z a (λj a=>?_) (λj a=>?_))
  .exact Gc 2 Z (Qp a (Gx 1 Z (cNo f a Z (Lr []))))
  refine Gc 6 Z (Bd a λi m a=>Iz m Z (Go 9 Z (Cz [] a (k_em _ _) Z λH E a=>Go 5 Z (Bd a λg d a=>Cg g [0] [1,5,8,10,11,12] (λg=>[(26,.bool g)]) Ze Zf ?_ ?_))))
  .refine G0 2 Z (Cz [] d (k_e _ _) Z λJ F d=>Go 2 Z (Is 22 d Z (λp d=>?_) (λp d=>?_)))
   .exact Gl 5 Z d [0]
   .refine Go 2 Z (Bd d λz q d=>?_);refine vX (.bool z) (QL (ev:=A.bool) (z0:=false) (k:=i.Name) (l:=e.1) Qbs q EK EM ZR.bool) ?_ (gT Z);exact Gl 2 Z d [0]
  refine Cn Z a (λs a=>?_) (λs a=>?_)
  .refine Gc 9 Z (Qw a ?_);obtain rfl:=Oj f a;exact Gx 1 Z (Qu (Gx 1 Z (Rt h 4 [])))
  refine Gc 5 Z (Bd a λL t a=>?_);refine vU (QM (ev:=A.bool) (k:=i.Name) (v:=true) (l:=e.1) Qbs t Z EK) ?_;exact Fg 7 Z Z (Qo a (Lr [0]))
 subst y;exact QP 6 Z h 4 []
def F_gy(n:Nat)(a:Category):Option Unit:=some ()
theorem k_gy(n:Nat)(a:Category):Ks (F_gy n a) 147 [.agg (Category.c a)] [] (λ_=>.str a.Name):=by
 exact Kg 14 func147 Z Z Z Z λr h=>Rt h 2 []
def F_ji(n:Nat)(e:List Category)(a:(List (List UInt8×Bool))×Int):Option (Ctl ((List (List UInt8×Bool))×Int) (Ctl Unit Bool)):=(bif decide (a.2<(e.length:Int))then(idx e a.2).bind λd=>(F_gy n d).bind λj=>((F_e n d.Name).bind λf=>(bif (!f)then some true else(some (Ya a.1 d.Name false)).bind λg=>some g):Option Bool).bind λh=>(bif h then some (.done (.done false))else(some (Qae a.1 d.Name true)).bind λi=>some (.cont (i,i64.wrap (a.2+1))))else some (.done (.cont ())))
def F_by(n:Nat)(e:List Category):Option Bool:=(iter (F_ji n e) n ([],0):Option (Ctl Unit Bool)).bind λd=>match d with|.cont a=>(some true)|.done a=>some a
theorem k_by(n:Nat)(u:List Category):Ks (F_by n u) 146 [.rsl 3 (map Category.c u),.fn (.func 147) [] []] [] (λr=>.bool r):=by
 refine Kg 7 func146 Z Z Z Z λr h=>vH QQ ?_;refine Fg 7 Z Z (Lg 3 Z Z (Bd h λw x h=>CgE (b:=w) [] [] Ze Ze Zf ?_ (λB y=>?_)))
 .refine G0 1 Z (Lp [0] [1,5,10,11] (λe=>[(12,I e.2)]) (λe=>[(0,.map (Qh A.str A.bool e.1))]) x Zf (Lr [0]) λe G a f=>?_);refine G0 6 Z (Yn Z a (λj a=>?_) (λj a=>?_))
  .exact Gc 2 Z (Qp a (Gx 1 Z (cNo f a Z (Lr []))))
  refine Gc 6 Z (Bd a λi m a=>Iz m Z (Go 9 Z (Cz [] a (k_gy _ _) Z λH E a=>Go 5 Z (Bd a λg d a=>Cg g [0] [1,5,8,10,11,12] (λg=>[(26,.bool g)]) Ze Zf ?_ ?_))))
  .refine G0 2 Z (Cz [] d (k_e _ _) Z λJ F d=>Go 2 Z (Is 22 d Z (λp d=>?_) (λp d=>?_)))
   .exact Gl 5 Z d [0]
   .refine Go 2 Z (Bd d λz q d=>?_);refine vX (.bool z) (QL (ev:=A.bool) (z0:=false) (k:=i.Name) (l:=e.1) Qbs q EK EM ZR.bool) ?_ (gT Z);exact Gl 2 Z d [0]
  refine Cn Z a (λs a=>?_) (λs a=>?_)
  .refine Gc 9 Z (Qw a ?_);obtain rfl:=Oj f a;exact Gx 1 Z (Qu (Gx 1 Z (Rt h 4 [])))
  refine Gc 5 Z (Bd a λL t a=>?_);refine vU (QM (ev:=A.bool) (k:=i.Name) (v:=true) (l:=e.1) Qbs t Z EK) ?_;exact Fg 7 Z Z (Qo a (Lr [0]))
 subst y;exact QP 6 Z h 4 []
def F_dk(n:Nat)(a:Course):Option Bool:=((F_e n a.Name).bind λd=>(bif d then(F_fl n a.Mats).bind λe=>(bif e then(F_ds n a.Distances).bind λf=>(bif f then(F_co n a.Waves).bind λg=>(bif g then(F_cj n a.Offences).bind λh=>(bif h then(F_by n a.Categories).bind λi=>some i else some false)else some false)else some false)else some false)else some false):Option Bool).bind λj=>some j
theorem k_dk(n:Nat)(k:Course):Ks (F_dk n k) 109 [.agg (Course.c k)] [] (λr=>.bool r):=by
 refine Kg 7 func109 Z Z Z Z λr h=>Bd h λd a h=>Cg d [] [] (λd=>[(2,.bool d)]) Ze Zf ?_ ?_
 .refine G0 3 Z (Cz [] a (k_e _ _) Z λu l a=>Go 1 Z (Is 6 a Z (λe a=>?_) (λe a=>?_)))
  .refine Go 2 Z (Cz [] a (k_fl _ _) Z λw m a=>Go 2 Z (Is 11 a Z (λf a=>?_) (λf a=>?_)))
   .refine Go 2 Z (Cz [] a (k_ds _ _) Z λx p a=>Go 2 Z (Is 16 a Z (λg a=>?_) (λg a=>?_)))
    .refine Go 2 Z (Cz [] a (k_co _ _) Z λy q a=>Go 2 Z (Is 21 a Z (λi a=>?_) (λi a=>?_)))
     .refine Go 2 Z (Cz [] a (k_cj _ _) Z λz s a=>Go 2 Z (Is 26 a Z (λj a=>?_) (λj a=>?_)))
      .exact Go 2 Z (Cz [] a (k_by _ _) Z λB t a=>Gl 3 Z a [])
      .exact Gl 6 Z a []
     .exact Gl 11 Z a []
    .exact Gl 16 Z a []
   .exact Gl 21 Z a []
  .exact Gl 26 Z a []
 exact QP 1 Z h 2 []
def F_ea(n:Nat)(a:Int)(d:Int)(e:Int):Option Bool:=((bif decide (a<d)then some true else some (decide (e<a))):Option Bool).bind λf=>some f
theorem k_ea(n:Nat)(e:Int)(f:Int)(g:Int):Ks (F_ea n e f g) 186 [I e,.ptr 0 0,.ptr 1 0] [.cells 3 [I f],.cells 3 [I g]] (λr=>.bool r):=by
 refine Kg 6 func186 Z Z Z Z λr h=>Bd h λd a h=>Cg d [0,1] [] (λd=>[(4,.bool d)]) Ze Zf ?_ ?_
 .refine G0 5 Z (Is 8 a Z (λi a=>?_) (λi a=>?_))
  iterate 2 exact Gl 6 Z a [0,1]
 exact QP 1 Z h 4 [0,1]
def F_hi(n:Nat)(d:List Int)(g:Int)(h:Int)(a:Int):Option (Ctl Int (Ctl Unit Int)):=(bif decide (a<(d.length:Int))then(idx d a).bind λe=>(F_ea n e g h).bind λf=>(bif f then some (.done (.done a))else some (.cont (i64.wrap (a+1))))else some (.done (.cont ())))
def F_ck(n:Nat)(e:List Int)(f:Int)(g:Int):Option Int:=(iter (F_hi n e f g) n 0:Option (Ctl Unit Int)).bind λd=>match d with|.cont a=>(some (-1))|.done a=>some a
theorem k_ck(n:Nat)(j:List Int)(k:Int)(l:Int):Ks (F_ck n j k l) 49 [.rsl 1 (map (Qd .i64) j),.fn (.func 186) [] [.ptr 0 0,.ptr 1 0]] [.cells 3 [I k],.cells 3 [I l]] (λr=>I r):=by
 refine Kg 9 func49 Z Z Z Z λr h=>Lg 3 Z Z (Bd h λm p h=>CgE (b:=m) [0,1] [] Ze Ze Zf ?_ (λs q=>?_))
 .refine G0 1 Z (Lp [0,1] [0,1,7] (λe=>[(8,I e)]) Ze p Zf (Lr [0,1]) λe u a d=>?_);refine G0 6 Z (Yn Z a (λf a=>?_) (λf a=>?_))
  .exact Gc 2 Z (Qp a (Gx 1 Z (cNo d a Z (Lr [0,1]))))
  refine Gc 15 Z (Bd a λw g a=>Iz g Z (Go 1 Z (Cz [0,1] a (k_ea _ _ _ _) Z λx t a=>Go 2 Z (Cn Z a (λi a=>?_) (λi a=>?_)))))
  .refine Gc 9 Z (Qw a ?_);obtain rfl:=Oj d a;exact Gx 1 Z (Qu (Gx 1 Z (Rt h 4 [0,1])))
  exact Gc 7 Z (Qo a (Lr [0,1]))
 subst q;exact QP 6 Z h 4 [0,1]
def F_gm(n:Nat)(a:List Int)(d:Int)(e:Int):Option Bool:=(F_ck n a d e).bind λf=>some (decide (0<=f))
theorem k_gm(n:Nat)(a:List Int)(d:Int)(e:Int):Ks (F_gm n a d e) 35 [.rsl 1 (map (Qd .i64) a),.fn (.func 186) [] [.ptr 0 0,.ptr 1 0]] [.cells 3 [I d],.cells 3 [I e]] (λr=>.bool r):=by
 exact Kg 9 func35 Z Z Z Z λr h=>Cz [0,1] h (k_ck _ _ _ _) Z λg f h=>Gt 5 Z h 4 [0,1]
def F_a(n:Nat)(a:Int)(d:Int)(e:List Int):Option Bool:=(F_gm n e a d).bind λf=>some (!f)
theorem k_a(n:Nat)(a:Int)(d:Int)(e:List Int):Ks (F_a n a d e) 149 [I a,I d,.rsl 1 (map (Qd .i64) e)] [] (λr=>.bool r):=by
 exact Kg 11 func149 Z Z Z Z λr h=>Cz [0,1] h (k_gm _ _ _ _) Z λg f h=>Gt 5 Z h 6 []
def F_dl(n:Nat)(a:Mat):Option Bool:=(F_a n 1 3 [a.Kind]).bind λd=>some d
theorem k_dl(n:Nat)(a:Mat):Ks (F_dl n a) 158 [.agg (Mat.c a)] [] (λr=>.bool r):=by
 refine Kg 10 func158 Z Z Z Z λr h=>vH (Ej (xs:=[.tmp 4]) (es:=map (Qd .i64) [a.Kind]) QO Z Z Z Z Z ⟨Z,trivial⟩ Z Z) ?_;exact FE Z (Cb h (k_a _ _ _ _) Z (ls (ls (lo ln))) λe d h=>Gt 4 Z h 2 [])
def F_bv(n:Nat)(a:Mat):Option Bool:=(F_dl n a).bind λd=>some (!d)
theorem k_bv(n:Nat)(a:Mat):Ks (F_bv n a) 192 [.agg (Mat.c a),.ptr 0 0] [.cells 271 [.fn (.func 158) [] []]] (λr=>.bool r):=by
 exact Kg 10 func192 Z Z Z Z λr h=>Cz [] h (k_dl _ _) Z λe d h=>Gt 5 Z h 3 [0]
def F_jw(n:Nat)(d:List Mat)(a:Int):Option (Ctl Int (Ctl Unit Int)):=(bif decide (a<(d.length:Int))then(idx d a).bind λe=>(F_bv n e).bind λf=>(bif f then some (.done (.done a))else some (.cont (i64.wrap (a+1))))else some (.done (.cont ())))
def F_ee(n:Nat)(e:List Mat):Option Int:=(iter (F_jw n e) n 0:Option (Ctl Unit Int)).bind λd=>match d with|.cont a=>(some (-1))|.done a=>some a
theorem k_ee(n:Nat)(j:List Mat):Ks (F_ee n j) 214 [.rsl 2 (map Mat.c j),.fn (.func 192) [] [.ptr 0 0]] [.cells 271 [.fn (.func 158) [] []]] (λr=>I r):=by
 refine Kg 9 func214 Z Z Z Z λr h=>Lg 3 Z Z (Bd h λk l h=>CgE (b:=k) [0] [] Ze Ze Zf ?_ (λp m=>?_))
 .refine G0 1 Z (Lp [0] [0,1,7] (λe=>[(8,I e)]) Ze l Zf (Lr [0]) λe s a d=>?_);refine G0 6 Z (Yn Z a (λf a=>?_) (λf a=>?_))
  .exact Gc 2 Z (Qp a (Gx 1 Z (cNo d a Z (Lr [0]))))
  refine Gc 15 Z (Bd a λt g a=>Iz g Z (Go 1 Z (Cz [0] a (k_bv _ _) Z λu q a=>Go 2 Z (Cn Z a (λi a=>?_) (λi a=>?_)))))
  .refine Gc 9 Z (Qw a ?_);obtain rfl:=Oj d a;exact Gx 1 Z (Qu (Gx 1 Z (Rt h 4 [0])))
  exact Gc 7 Z (Qo a (Lr [0]))
 subst m;exact QP 6 Z h 4 [0]
def F_ct(n:Nat)(a:List Mat):Option Bool:=(F_ee n a).bind λd=>some (decide (0<=d))
theorem k_ct(n:Nat)(a:List Mat):Ks (F_ct n a) 191 [.rsl 2 (map Mat.c a),.fn (.func 192) [] [.ptr 0 0]] [.cells 271 [.fn (.func 158) [] []]] (λr=>.bool r):=by
 exact Kg 9 func191 Z Z Z Z λr h=>Cz [0] h (k_ee _ _) Z λe d h=>Gt 5 Z h 4 [0]
def F_eh(n:Nat)(a:List Mat):Option Bool:=(F_ct n a).bind λd=>some (!d)
theorem k_eh(n:Nat)(a:List Mat):Ks (F_eh n a) 157 [.rsl 2 (map Mat.c a),.fn (.func 158) [] []] [] (λr=>.bool r):=by
 exact Kg 10 func157 Z Z Z Z λr h=>Cz [0] h (k_ct _ _) Z λe d h=>Gt 5 Z h 4 []
def F_bt(n:Nat)(a:Leg)(d:Int):Option Bool:=((F_a n 0 d [a.From,a.To]).bind λe=>(bif e then(F_a n 0 68719476736 [a.Min,a.Max]).bind λf=>(bif f then some (decide (a.Min<=a.Max))else some false)else some false):Option Bool).bind λg=>some g
theorem k_bt(n:Nat)(d:Leg)(g:Int):Ks (F_bt n d g) 154 [.agg (Leg.c d),.ptr 0 0] [.cells 3 [I g]] (λr=>.bool r):=by
 refine Kg 7 func154 Z Z Z Z λr h=>Bd h λe a h=>Cg e [0] [] (λe=>[(3,.bool e)]) Ze Zf ?_ ?_
 .refine G0 6 Z (vH (Ej (xs:=[.tmp 6,.tmp 8]) (es:=map (Qd .i64) [d.From,d.To]) QO Z Z Z Z Z ⟨Z,Z,trivial⟩ Z Z) ?_);refine FE Z (Cb a (k_a _ _ _ _) Z (ls (ls (lo ln))) λl j a=>Go 1 Z (Is 11 a Z (λi a=>?_) (λi a=>?_)))
  .refine Go 4 Z (vH (Ej (xs:=[.tmp 13,.tmp 15]) (es:=map (Qd .i64) [d.Min,d.Max]) QO Z Z Z Z Z ⟨Z,Z,trivial⟩ Z Z) ?_ (gT Z));refine FE Z (Cb a (k_a _ _ _ _) Z (ls (ls (lo ln))) λm k a=>Go 2 Z (Is 19 a Z (λf a=>?_) (λf a=>?_)))
   iterate 2 exact Gl 8 Z a [0]
  .exact Gl 16 Z a [0]
 exact QP 1 Z h 3 [0]
def F_ci(n:Nat)(a:Leg)(d:Int):Option Bool:=(F_bt n a d).bind λe=>some (!e)
theorem k_ci(n:Nat)(a:Leg)(d:Int):Ks (F_ci n a d) 194 [.agg (Leg.c a),.ptr 0 0] [.cells 193 [.fn (.func 154) [] [.ptr 1 0]],.cells 3 [I d]] (λr=>.bool r):=by
 exact Kg 10 func194 Z Z Z Z λr h=>Cz [1] h (k_bt _ _ _) Z λf e h=>Gt 5 Z h 3 [0,1]
def F_jv(n:Nat)(d:List Leg)(g:Int)(a:Int):Option (Ctl Int (Ctl Unit Int)):=(bif decide (a<(d.length:Int))then(idx d a).bind λe=>(F_ci n e g).bind λf=>(bif f then some (.done (.done a))else some (.cont (i64.wrap (a+1))))else some (.done (.cont ())))
def F_fj(n:Nat)(e:List Leg)(f:Int):Option Int:=(iter (F_jv n e f) n 0:Option (Ctl Unit Int)).bind λd=>match d with|.cont a=>(some (-1))|.done a=>some a
theorem k_fj(n:Nat)(j:List Leg)(k:Int):Ks (F_fj n j k) 92 [.rsl 4 (map Leg.c j),.fn (.func 194) [] [.ptr 0 0]] [.cells 193 [.fn (.func 154) [] [.ptr 1 0]],.cells 3 [I k]] (λr=>I r):=by
 refine Kg 9 func92 Z Z Z Z λr h=>Lg 3 Z Z (Bd h λl m h=>CgE (b:=l) [0,1] [] Ze Ze Zf ?_ (λq p=>?_))
 .refine G0 1 Z (Lp [0,1] [0,1,7] (λe=>[(8,I e)]) Ze m Zf (Lr [0,1]) λe t a d=>?_);refine G0 6 Z (Yn Z a (λf a=>?_) (λf a=>?_))
  .exact Gc 2 Z (Qp a (Gx 1 Z (cNo d a Z (Lr [0,1]))))
  refine Gc 15 Z (Bd a λu g a=>Iz g Z (Go 1 Z (Cz [0,1] a (k_ci _ _ _) Z λw s a=>Go 2 Z (Cn Z a (λi a=>?_) (λi a=>?_)))))
  .refine Gc 9 Z (Qw a ?_);obtain rfl:=Oj d a;exact Gx 1 Z (Qu (Gx 1 Z (Rt h 4 [0,1])))
  exact Gc 7 Z (Qo a (Lr [0,1]))
 subst p;exact QP 6 Z h 4 [0,1]
def F_ga(n:Nat)(a:List Leg)(d:Int):Option Bool:=(F_fj n a d).bind λe=>some (decide (0<=e))
theorem k_ga(n:Nat)(a:List Leg)(d:Int):Ks (F_ga n a d) 193 [.rsl 4 (map Leg.c a),.fn (.func 194) [] [.ptr 0 0]] [.cells 193 [.fn (.func 154) [] [.ptr 1 0]],.cells 3 [I d]] (λr=>.bool r):=by
 exact Kg 9 func193 Z Z Z Z λr h=>Cz [0,1] h (k_fj _ _ _) Z λf e h=>Gt 5 Z h 4 [0,1]
def F_gb(n:Nat)(a:List Leg)(d:Int):Option Bool:=(F_ga n a d).bind λe=>some (!e)
theorem k_gb(n:Nat)(a:List Leg)(d:Int):Ks (F_gb n a d) 159 [.rsl 4 (map Leg.c a),.fn (.func 154) [] [.ptr 0 0]] [.cells 3 [I d]] (λr=>.bool r):=by
 exact Kg 10 func159 Z Z Z Z λr h=>Cz [1,0] h (k_ga _ _ _) Z λf e h=>Gt 5 Z h 4 [0]
def F_bp(n:Nat)(a:Leg):Option Unit:=some ()
theorem k_bp(n:Nat)(a:Leg):Kq (F_bp n a) 161 [.agg (Leg.c a)] [] (λ_=>.agg [I a.From,I a.To]) (λ_=>[.cells 216 [I a.From,I a.To]]):=by
 refine Kg 17 func161 Z Z Z Z λr h=>?_;obtain rfl:=Oi h;exact Rx [1] [2] Z (Qs Z (Qe isAgg216 sizeOf216 Z Z Z)) ⟨Z,Z⟩
def F_iz(n:Nat)(e:List Leg)(a:(List (Y8×Bool))×Int):Option (Ctl ((List (Y8×Bool))×Int) (List (Y8×Bool))):=(bif decide (a.2<(e.length:Int))then(idx e a.2).bind λd=>(F_bp n d).bind λg=>(some (Qae a.1 ({from_:=d.From,to_:=d.To:Y8}) true)).bind λf=>some (.cont (f,i64.wrap (a.2+1)))else some (.done a.1))
def F_bq(n:Nat)(a:List Leg):Option Bool:=(iter (F_iz n a) n ([],0):Option (List (Y8×Bool))).bind λd=>some ((d.length:Int)==(a.length:Int))
theorem k_bq(n:Nat)(p:List Leg):Ks (F_bq n p) 160 [.rsl 4 (map Leg.c p),.fn (.func 161) [] []] [] (λr=>.bool r):=by
 refine Kg 7 func160 Z Z Z Z λr h=>vH QQ ?_;refine Fg 7 Z Z (Lg 3 Z Z (Bd h λd q h=>Cg d [0] [0,5] Ze (λd=>[(0,.map (Qh (λx=>A.agg (Y8.c x)) A.bool d))]) Zf ?_ ?_))
 .refine G0 1 Z (Lp [0] [0,1,5,9,10] (λe=>[(11,I e.2)]) (λe=>[(0,.map (Qh (λx=>A.agg (Y8.c x)) A.bool e.1))]) q Zf (Lr [0]) λe t a g=>?_);refine G0 6 Z (Yn Z a (λi a=>?_) (λi a=>?_))
  .exact Gc 2 Z (Qp a (Gx 1 Z (cQo g a (Lr [0]))))
  refine Gc 6 Z (Bd a λf j a=>Iz j Z (Go 9 Z (Cd [] a (k_bp _ _) Z λu s a=>FE Z (Bd a λw m a=>?_))));refine vU (QM (ev:=A.bool) (k:=({from_:=f.From,to_:=f.To:Y8})) (v:=true) (l:=e.1) QcP m Z EY) ?_;exact Fg 7 Z Z (Qo a (Lr [0]))
 refine Gc 3 Z ?_;refine vX (I (d.length:Int)) (Qdt (l:=d) EY Z) ?_;exact Go 1 Z (Lm Z (Gt 5 Z h 4 []))
def F_cm(rec50:(List Part)->Int->Option Bool)(n:Nat)(a:Part)(d:Int):Option Bool:=(bif (a.Laps==0)then((F_a n 0 d [a.Mat]).bind λh=>(bif h then some ((a.Parts.length:Int)==0)else some false):Option Bool).bind λi=>some i else((F_a n 1 64 [a.Laps]).bind λe=>(bif e then(bif (a.Mat==0)then(bif decide (0<(a.Parts.length:Int))then(rec50 a.Parts d).bind λf=>some f else some false)else some false)else some false):Option Bool).bind λg=>some g)
theorem k_cm(rec50:(List Part)->Int->Option Bool)(f:∀(d:List Part) (g:Int) (r:Bool),rec50 d g=some r->Csm prog 150 [.rsl 3 (map Part.enc d),.fn (.func 148) [] [.ptr 0 0,.ptr 1 0]] [.cells 3 [I g],.cells 261 [.fn (.func 148) [] [.ptr 0 0,.ptr 1 0]]] (λr=>.bool r) r)(n:Nat)(d:Part)(g:Int):Ks (F_cm rec50 n d g) 148 [.agg (Part.c d),.ptr 0 0,.ptr 1 0] [.cells 3 [I g],.cells 261 [.fn (.func 148) [] [.ptr 0 0,.ptr 1 0]]] (λr=>.bool r):=by
 refine Kg 14 func148 Z Z Z Z λr h=>Cn Z h (λp h=>?_) (λp h=>?_)
 .refine Gc 1 Z (Bd h λj e h=>Ct j [0,1] [] (λj=>[(4,.bool j)]) Ze Zf ?_ (λenv H q=>?_))
  .refine G0 4 Z (vH (Ej (xs:=[.tmp 10]) (es:=map (Qd .i64) [d.Mat]) QO Z Z Z Z Z ⟨Z,trivial⟩ Z Z) ?_);refine FE Z (Cb e (k_a _ _ _ _) Z (ls (ls (lo ln))) λz w e=>Go 1 Z (Is 13 e Z (λs e=>?_) (λs e=>?_)))
   .exact Go 2 Z (Lm Z (Gl 4 Z e [0,1]))
   .exact Gl 7 Z e [0,1]
  exact Gx 1 Z (Qm q (QP 2 Z h 4 [0,1]))
 refine Gc 3 Z (Bd h λi a h=>Cg i [0,1] [] (λi=>[(4,.bool i)]) Ze Zf ?_ ?_)
 .refine G0 3 Z (vH (Ej (xs:=[.tmp 20]) (es:=map (Qd .i64) [d.Laps]) QO Z Z Z Z Z ⟨Z,trivial⟩ Z Z) ?_);refine FE Z (Cb a (k_a _ _ _ _) Z (ls (ls (lo ln))) λx t a=>Go 1 Z (Is 23 a Z (λk a=>?_) (λk a=>?_)))
  .refine Go 5 Z (Is 28 a Z (λl a=>?_) (λl a=>?_))
   .refine Go 2 Z (Lg 3 Z Z (Is 34 a Z (λm a=>?_) (λm a=>?_)))
    .exact Go 3 Z (Cz [0,1] a (f _ _) Z λy u a=>Gl 3 Z a [0,1])
    .exact Gl 7 Z a [0,1]
   .exact Gl 13 Z a [0,1]
  .exact Gl 18 Z a [0,1]
 exact QP 1 Z h 4 [0,1]
def F_cn(rec50:(List Part)->Int->Option Bool)(n:Nat)(a:Part)(d:Int):Option Bool:=(F_cm rec50 n a d).bind λe=>some (!e)
theorem k_cn(rec50:(List Part)->Int->Option Bool)(a:∀(d:List Part) (e:Int) (r:Bool),rec50 d e=some r->Csm prog 150 [.rsl 3 (map Part.enc d),.fn (.func 148) [] [.ptr 0 0,.ptr 1 0]] [.cells 3 [I e],.cells 261 [.fn (.func 148) [] [.ptr 0 0,.ptr 1 0]]] (λr=>.bool r) r)(n:Nat)(d:Part)(e:Int):Ks (F_cn rec50 n d e) 188 [.agg (Part.c d),.ptr 0 0] [.cells 261 [.fn (.func 148) [] [.ptr 1 0,.ptr 2 0]],.cells 3 [I e],.cells 261 [.fn (.func 148) [] [.ptr 1 0,.ptr 2 0]]] (λr=>.bool r):=by
 exact Kg 10 func188 Z Z Z Z λr h=>Cz [1,2] h (k_cm rec50 a _ _ _) Z λg f h=>Gt 5 Z h 3 [0,1,2]
def F_hg(n:Nat)(d:List Part)(g:Int)(rec50:(List Part)->Int->Option Bool)(a:Int):Option (Ctl Int (Ctl Unit Int)):=(bif decide (a<(d.length:Int))then(idx d a).bind λe=>(F_cn rec50 n e g).bind λf=>(bif f then some (.done (.done a))else some (.cont (i64.wrap (a+1))))else some (.done (.cont ())))
def F_db(rec50:(List Part)->Int->Option Bool)(n:Nat)(e:List Part)(f:Int):Option Int:=(iter (F_hg n e f rec50) n 0:Option (Ctl Unit Int)).bind λd=>match d with|.cont a=>(some (-1))|.done a=>some a
theorem k_db(rec50:(List Part)->Int->Option Bool)(d:∀(e:List Part) (f:Int) (r:Bool),rec50 e f=some r->Csm prog 150 [.rsl 3 (map Part.enc e),.fn (.func 148) [] [.ptr 0 0,.ptr 1 0]] [.cells 3 [I f],.cells 261 [.fn (.func 148) [] [.ptr 0 0,.ptr 1 0]]] (λr=>.bool r) r)(n:Nat)(e:List Part)(f:Int):Ks (F_db rec50 n e f) 212 [.rsl 3 (map Part.enc e),.fn (.func 188) [] [.ptr 0 0]] [.cells 261 [.fn (.func 148) [] [.ptr 1 0,.ptr 2 0]],.cells 3 [I f],.cells 261 [.fn (.func 148) [] [.ptr 1 0,.ptr 2 0]]] (λr=>I r):=by
 refine Kg 9 func212 Z Z Z Z λr h=>Lg 3 Z Z (Bd h λm p h=>CgE (b:=m) [0,1,2] [] Ze Ze Zf ?_ (λt q=>?_))
 .refine G0 1 Z (Lp [0,1,2] [0,1,7] (λi=>[(8,I i)]) Ze p Zf (Lr [0,1,2]) λi w a g=>?_);refine G0 6 Z (Yn Z a (λj a=>?_) (λj a=>?_))
  .exact Gc 2 Z (Qp a (Gx 1 Z (cNo g a Z (Lr [0,1,2]))))
  refine Gc 15 Z (Bd a λs k a=>IzE k (QaC s) Z (Go 1 Z (Cz [0,1,2] a (k_cn rec50 d _ _ _) Z λx u a=>Go 2 Z (Cn Z a (λl a=>?_) (λl a=>?_)))))
  .refine Gc 9 Z (Qw a ?_);obtain rfl:=Oj g a;exact Gx 1 Z (Qu (Gx 1 Z (Rt h 4 [0,1,2])))
  exact Gc 7 Z (Qo a (Lr [0,1,2]))
 subst q;exact QP 6 Z h 4 [0,1,2]
def F_ei(rec50:(List Part)->Int->Option Bool)(n:Nat)(a:List Part)(d:Int):Option Bool:=(F_db rec50 n a d).bind λe=>some (decide (0<=e))
theorem k_ei(rec50:(List Part)->Int->Option Bool)(a:∀(d:List Part) (e:Int) (r:Bool),rec50 d e=some r->Csm prog 150 [.rsl 3 (map Part.enc d),.fn (.func 148) [] [.ptr 0 0,.ptr 1 0]] [.cells 3 [I e],.cells 261 [.fn (.func 148) [] [.ptr 0 0,.ptr 1 0]]] (λr=>.bool r) r)(n:Nat)(d:List Part)(e:Int):Ks (F_ei rec50 n d e) 187 [.rsl 3 (map Part.enc d),.fn (.func 188) [] [.ptr 0 0]] [.cells 261 [.fn (.func 148) [] [.ptr 1 0,.ptr 2 0]],.cells 3 [I e],.cells 261 [.fn (.func 148) [] [.ptr 1 0,.ptr 2 0]]] (λr=>.bool r):=by
 exact Kg 9 func187 Z Z Z Z λr h=>Cz [0,1,2] h (k_db rec50 a _ _ _) Z λg f h=>Gt 5 Z h 4 [0,1,2]
def B_v(rec50:(List Part)->Int->Option Bool)(n:Nat)(a:List Part)(d:Int):Option Bool:=(F_ei rec50 n a d).bind λe=>some (!e)
theorem QbE(rec50:(List Part)->Int->Option Bool)(a:∀(d:List Part) (e:Int) (r:Bool),rec50 d e=some r->Csm prog 150 [.rsl 3 (map Part.enc d),.fn (.func 148) [] [.ptr 0 0,.ptr 1 0]] [.cells 3 [I e],.cells 261 [.fn (.func 148) [] [.ptr 0 0,.ptr 1 0]]] (λr=>.bool r) r)(n:Nat)(d:List Part)(e:Int)(r:Bool)(h:B_v rec50 n d e=some r):Csm prog 150 [.rsl 3 (map Part.enc d),.fn (.func 148) [] [.ptr 0 0,.ptr 1 0]] [.cells 3 [I e],.cells 261 [.fn (.func 148) [] [.ptr 0 0,.ptr 1 0]]] (λr=>.bool r) r:=by
 refine YH func150 Z Z Z ?_;exact G0 10 Z (Cz [2,0,1] h (k_ei rec50 a _ _ _) Z λg f h=>Gt 5 Z h 4 [0,1])
def F_v:Nat->(List Part)->Int->Option Bool
  |0=>λ_ _=>none
  |n+1=>B_v (F_v n) n
theorem k_v(n:Nat):∀(a:List Part) (d:Int) (r:Bool),F_v n a d=some r->Csm prog 150 [.rsl 3 (map Part.enc a),.fn (.func 148) [] [.ptr 0 0,.ptr 1 0]] [.cells 3 [I d],.cells 261 [.fn (.func 148) [] [.ptr 0 0,.ptr 1 0]]] (λr=>.bool r) r:=by
  induction n with
  |zero=>intro a d r h;cases h
  |succ n ih=>intro a d r h;exact QbE _ ih n a d r h
def F_cv(n:Nat)(a:Cutoff)(e:Int):Option Bool:=((F_a n 0 e [a.Mat]).bind λf=>(bif f then(bif decide (1<=a.Lap)then(F_a n 0 1099511627776 [a.Limit]).bind λd=>some d else some false)else some false):Option Bool).bind λg=>some g
theorem k_cv(n:Nat)(d:Cutoff)(f:Int):Ks (F_cv n d f) 151 [.agg (Cutoff.c d),.ptr 0 0] [.cells 3 [I f]] (λr=>.bool r):=by
 refine Kg 7 func151 Z Z Z Z λr h=>Bd h λe a h=>Cg e [0] [] (λe=>[(3,.bool e)]) Ze Zf ?_ ?_
 .refine G0 4 Z (vH (Ej (xs:=[.tmp 6]) (es:=map (Qd .i64) [d.Mat]) QO Z Z Z Z Z ⟨Z,trivial⟩ Z Z) ?_);refine FE Z (Cb a (k_a _ _ _ _) Z (ls (ls (lo ln))) λm k a=>Go 1 Z (Is 9 a Z (λg a=>?_) (λg a=>?_)))
  .refine Go 5 Z (Is 14 a Z (λi a=>?_) (λi a=>?_))
   .refine Go 2 Z (vH (Ej (xs:=[.tmp 16]) (es:=map (Qd .i64) [d.Limit]) QO Z Z Z Z Z ⟨Z,trivial⟩ Z Z) ?_ (gT Z));exact FE Z (Cb a (k_a _ _ _ _) Z (ls (ls (lo ln))) λl j a=>Gl 3 Z a [0])
   .exact Gl 7 Z a [0]
  .exact Gl 12 Z a [0]
 exact QP 1 Z h 3 [0]
def F_cw(n:Nat)(a:Cutoff)(d:Int):Option Bool:=(F_cv n a d).bind λe=>some (!e)
theorem k_cw(n:Nat)(a:Cutoff)(d:Int):Ks (F_cw n a d) 190 [.agg (Cutoff.c a),.ptr 0 0] [.cells 264 [.fn (.func 151) [] [.ptr 1 0]],.cells 3 [I d]] (λr=>.bool r):=by
 exact Kg 10 func190 Z Z Z Z λr h=>Cz [1] h (k_cv _ _ _) Z λf e h=>Gt 5 Z h 3 [0,1]
def F_hk(n:Nat)(d:List Cutoff)(g:Int)(a:Int):Option (Ctl Int (Ctl Unit Int)):=(bif decide (a<(d.length:Int))then(idx d a).bind λe=>(F_cw n e g).bind λf=>(bif f then some (.done (.done a))else some (.cont (i64.wrap (a+1))))else some (.done (.cont ())))
def F_dj(n:Nat)(e:List Cutoff)(f:Int):Option Int:=(iter (F_hk n e f) n 0:Option (Ctl Unit Int)).bind λd=>match d with|.cont a=>(some (-1))|.done a=>some a
theorem k_dj(n:Nat)(j:List Cutoff)(k:Int):Ks (F_dj n j k) 213 [.rsl 3 (map Cutoff.c j),.fn (.func 190) [] [.ptr 0 0]] [.cells 264 [.fn (.func 151) [] [.ptr 1 0]],.cells 3 [I k]] (λr=>I r):=by
 refine Kg 9 func213 Z Z Z Z λr h=>Lg 3 Z Z (Bd h λl m h=>CgE (b:=l) [0,1] [] Ze Ze Zf ?_ (λq p=>?_))
 .refine G0 1 Z (Lp [0,1] [0,1,7] (λe=>[(8,I e)]) Ze m Zf (Lr [0,1]) λe t a d=>?_);refine G0 6 Z (Yn Z a (λf a=>?_) (λf a=>?_))
  .exact Gc 2 Z (Qp a (Gx 1 Z (cNo d a Z (Lr [0,1]))))
  refine Gc 15 Z (Bd a λu g a=>Iz g Z (Go 1 Z (Cz [0,1] a (k_cw _ _ _) Z λw s a=>Go 2 Z (Cn Z a (λi a=>?_) (λi a=>?_)))))
  .refine Gc 9 Z (Qw a ?_);obtain rfl:=Oj d a;exact Gx 1 Z (Qu (Gx 1 Z (Rt h 4 [0,1])))
  exact Gc 7 Z (Qo a (Lr [0,1]))
 subst p;exact QP 6 Z h 4 [0,1]
def F_eu(n:Nat)(a:List Cutoff)(d:Int):Option Bool:=(F_dj n a d).bind λe=>some (decide (0<=e))
theorem k_eu(n:Nat)(a:List Cutoff)(d:Int):Ks (F_eu n a d) 189 [.rsl 3 (map Cutoff.c a),.fn (.func 190) [] [.ptr 0 0]] [.cells 264 [.fn (.func 151) [] [.ptr 1 0]],.cells 3 [I d]] (λr=>.bool r):=by
 exact Kg 9 func189 Z Z Z Z λr h=>Cz [0,1] h (k_dj _ _ _) Z λf e h=>Gt 5 Z h 4 [0,1]
def F_eo(n:Nat)(a:List Cutoff)(d:Int):Option Bool:=(F_eu n a d).bind λe=>some (!e)
theorem k_eo(n:Nat)(a:List Cutoff)(d:Int):Ks (F_eo n a d) 153 [.rsl 3 (map Cutoff.c a),.fn (.func 151) [] [.ptr 0 0]] [.cells 3 [I d]] (λr=>.bool r):=by
 exact Kg 10 func153 Z Z Z Z λr h=>Cz [1,0] h (k_eu _ _ _) Z λf e h=>Gt 5 Z h 4 [0]
def F_fm(n:Nat)(a:Distance)(d:Int):Option Bool:=((F_a n 1 3 [a.Timing]).bind λe=>(bif e then(F_a n (-1) d [a.Extra]).bind λf=>(bif f then(F_v n a.Route d).bind λg=>(bif g then(F_eo n a.Cutoffs d).bind λh=>some h else some false)else some false)else some false):Option Bool).bind λi=>some i
theorem k_fm(n:Nat)(d:Distance)(j:Int):Ks (F_fm n d j) 152 [.agg (Distance.c d),.ptr 0 0,.ptr 1 0,.ptr 2 0] [.cells 3 [I j],.cells 261 [.fn (.func 148) [] [.ptr 0 0,.ptr 1 0]],.cells 264 [.fn (.func 151) [] [.ptr 0 0]]] (λr=>.bool r):=by
 refine Kg 7 func152 Z Z Z Z λr h=>Bd h λe a h=>Cg e [0,1,2] [] (λe=>[(5,.bool e)]) Ze Zf ?_ ?_
 .refine G0 3 Z (vH (Ej (xs:=[.tmp 7]) (es:=map (Qd .i64) [d.Timing]) QO Z Z Z Z Z ⟨Z,trivial⟩ Z Z) ?_);refine FE Z (Cb a (k_a _ _ _ _) Z (ls (ls (lo ln))) λq k a=>Go 1 Z (Is 10 a Z (λf a=>?_) (λf a=>?_)))
  .refine Go 3 Z (vH (Ej (xs:=[.tmp 13]) (es:=map (Qd .i64) [d.Extra]) QO Z Z Z Z Z ⟨Z,trivial⟩ Z Z) ?_ (gT Z));refine FE Z (Cb a (k_a _ _ _ _) Z (ls (ls (lo ln))) λs l a=>Go 2 Z (Is 17 a Z (λg a=>?_) (λg a=>?_)))
   .refine Go 3 Z (Cz [0,1] a (k_v _ _ _) Z λt m a=>Go 2 Z (Is 23 a Z (λi a=>?_) (λi a=>?_)))
    .exact Go 3 Z (Cz [0] a (k_eo _ _ _) Z λu p a=>Gl 3 Z a [0,1,2])
    .exact Gl 7 Z a [0,1,2]
   .exact Gl 13 Z a [0,1,2]
  .exact Gl 20 Z a [0,1,2]
 exact QP 1 Z h 5 [0,1,2]
def F_ge(n:Nat)(a:Distance)(d:Int):Option Bool:=(F_fm n a d).bind λe=>some (!e)
theorem k_ge(n:Nat)(a:Distance)(d:Int):Ks (F_ge n a d) 173 [.agg (Distance.c a),.ptr 0 0] [.cells 219 [.fn (.func 152) [] [.ptr 1 0,.ptr 2 0,.ptr 3 0]],.cells 3 [I d],.cells 261 [.fn (.func 148) [] [.ptr 1 0,.ptr 2 0]],.cells 264 [.fn (.func 151) [] [.ptr 1 0]]] (λr=>.bool r):=by
 exact Kg 10 func173 Z Z Z Z λr h=>Cz [1,2,3] h (k_fm _ _ _) Z λf e h=>Gt 5 Z h 3 [0,1,2,3]
def F_jc(n:Nat)(d:List Distance)(g:Int)(a:Int):Option (Ctl Int (Ctl Unit Int)):=(bif decide (a<(d.length:Int))then(idx d a).bind λe=>(F_ge n e g).bind λf=>(bif f then some (.done (.done a))else some (.cont (i64.wrap (a+1))))else some (.done (.cont ())))
def F_cq(n:Nat)(e:List Distance)(f:Int):Option Int:=(iter (F_jc n e f) n 0:Option (Ctl Unit Int)).bind λd=>match d with|.cont a=>(some (-1))|.done a=>some a
theorem k_cq(n:Nat)(j:List Distance)(k:Int):Ks (F_cq n j k) 206 [.rsl 5 (map Distance.c j),.fn (.func 173) [] [.ptr 0 0]] [.cells 219 [.fn (.func 152) [] [.ptr 1 0,.ptr 2 0,.ptr 3 0]],.cells 3 [I k],.cells 261 [.fn (.func 148) [] [.ptr 1 0,.ptr 2 0]],.cells 264 [.fn (.func 151) [] [.ptr 1 0]]] (λr=>I r):=by
 refine Kg 9 func206 Z Z Z Z λr h=>Lg 3 Z Z (Bd h λl m h=>CgE (b:=l) [0,1,2,3] [] Ze Ze Zf ?_ (λq p=>?_))
 .refine G0 1 Z (Lp [0,1,2,3] [0,1,7] (λe=>[(8,I e)]) Ze m Zf (Lr [0,1,2,3]) λe t a d=>?_);refine G0 6 Z (Yn Z a (λf a=>?_) (λf a=>?_))
  .exact Gc 2 Z (Qp a (Gx 1 Z (cNo d a Z (Lr [0,1,2,3]))))
  refine Gc 15 Z (Bd a λu g a=>Iz g Z (Go 1 Z (Cz [0,1,2,3] a (k_ge _ _ _) Z λw s a=>Go 2 Z (Cn Z a (λi a=>?_) (λi a=>?_)))))
  .refine Gc 9 Z (Qw a ?_);obtain rfl:=Oj d a;exact Gx 1 Z (Qu (Gx 1 Z (Rt h 4 [0,1,2,3])))
  exact Gc 7 Z (Qo a (Lr [0,1,2,3]))
 subst p;exact QP 6 Z h 4 [0,1,2,3]
def F_gc(n:Nat)(a:List Distance)(d:Int):Option Bool:=(F_cq n a d).bind λe=>some (decide (0<=e))
theorem k_gc(n:Nat)(a:List Distance)(d:Int):Ks (F_gc n a d) 172 [.rsl 5 (map Distance.c a),.fn (.func 173) [] [.ptr 0 0]] [.cells 219 [.fn (.func 152) [] [.ptr 1 0,.ptr 2 0,.ptr 3 0]],.cells 3 [I d],.cells 261 [.fn (.func 148) [] [.ptr 1 0,.ptr 2 0]],.cells 264 [.fn (.func 151) [] [.ptr 1 0]]] (λr=>.bool r):=by
 exact Kg 9 func172 Z Z Z Z λr h=>Cz [0,1,2,3] h (k_cq _ _ _) Z λf e h=>Gt 5 Z h 4 [0,1,2,3]
def F_ec(n:Nat)(a:List Distance)(d:Int):Option Bool:=(F_gc n a d).bind λe=>some (!e)
theorem k_ec(n:Nat)(a:List Distance)(d:Int):Ks (F_ec n a d) 112 [.rsl 5 (map Distance.c a),.fn (.func 152) [] [.ptr 0 0,.ptr 1 0,.ptr 2 0]] [.cells 3 [I d],.cells 261 [.fn (.func 148) [] [.ptr 0 0,.ptr 1 0]],.cells 264 [.fn (.func 151) [] [.ptr 0 0]]] (λr=>.bool r):=by
 exact Kg 10 func112 Z Z Z Z λr h=>Cz [3,0,1,2] h (k_gc _ _ _) Z λf e h=>Gt 5 Z h 4 [0,1,2]
def F_dv(n:Nat)(a:Wave):Option Bool:=(F_a n 0 1099511627776 [a.Gun]).bind λd=>some d
theorem k_dv(n:Nat)(a:Wave):Ks (F_dv n a) 163 [.agg (Wave.c a)] [] (λr=>.bool r):=by
 refine Kg 10 func163 Z Z Z Z λr h=>vH (Ej (xs:=[.tmp 4]) (es:=map (Qd .i64) [a.Gun]) QO Z Z Z Z Z ⟨Z,trivial⟩ Z Z) ?_;exact FE Z (Cb h (k_a _ _ _ _) Z (ls (ls (lo ln))) λe d h=>Gt 4 Z h 2 [])
def F_gf(n:Nat)(a:Wave):Option Bool:=(F_dv n a).bind λd=>some (!d)
theorem k_gf(n:Nat)(a:Wave):Ks (F_gf n a) 196 [.agg (Wave.c a),.ptr 0 0] [.cells 276 [.fn (.func 163) [] []]] (λr=>.bool r):=by
 exact Kg 10 func196 Z Z Z Z λr h=>Cz [] h (k_dv _ _) Z λe d h=>Gt 5 Z h 3 [0]
def F_hr(n:Nat)(d:List Wave)(a:Int):Option (Ctl Int (Ctl Unit Int)):=(bif decide (a<(d.length:Int))then(idx d a).bind λe=>(F_gf n e).bind λf=>(bif f then some (.done (.done a))else some (.cont (i64.wrap (a+1))))else some (.done (.cont ())))
def F_gw(n:Nat)(e:List Wave):Option Int:=(iter (F_hr n e) n 0:Option (Ctl Unit Int)).bind λd=>match d with|.cont a=>(some (-1))|.done a=>some a
theorem k_gw(n:Nat)(j:List Wave):Ks (F_gw n j) 215 [.rsl 2 (map Wave.c j),.fn (.func 196) [] [.ptr 0 0]] [.cells 276 [.fn (.func 163) [] []]] (λr=>I r):=by
 refine Kg 9 func215 Z Z Z Z λr h=>Lg 3 Z Z (Bd h λk l h=>CgE (b:=k) [0] [] Ze Ze Zf ?_ (λp m=>?_))
 .refine G0 1 Z (Lp [0] [0,1,7] (λe=>[(8,I e)]) Ze l Zf (Lr [0]) λe s a d=>?_);refine G0 6 Z (Yn Z a (λf a=>?_) (λf a=>?_))
  .exact Gc 2 Z (Qp a (Gx 1 Z (cNo d a Z (Lr [0]))))
  refine Gc 15 Z (Bd a λt g a=>Iz g Z (Go 1 Z (Cz [0] a (k_gf _ _) Z λu q a=>Go 2 Z (Cn Z a (λi a=>?_) (λi a=>?_)))))
  .refine Gc 9 Z (Qw a ?_);obtain rfl:=Oj d a;exact Gx 1 Z (Qu (Gx 1 Z (Rt h 4 [0])))
  exact Gc 7 Z (Qo a (Lr [0]))
 subst m;exact QP 6 Z h 4 [0]
def F_en(n:Nat)(a:List Wave):Option Bool:=(F_gw n a).bind λd=>some (decide (0<=d))
theorem k_en(n:Nat)(a:List Wave):Ks (F_en n a) 195 [.rsl 2 (map Wave.c a),.fn (.func 196) [] [.ptr 0 0]] [.cells 276 [.fn (.func 163) [] []]] (λr=>.bool r):=by
 exact Kg 9 func195 Z Z Z Z λr h=>Cz [0] h (k_gw _ _) Z λe d h=>Gt 5 Z h 4 [0]
def F_ef(n:Nat)(a:List Wave):Option Bool:=(F_en n a).bind λd=>some (!d)
theorem k_ef(n:Nat)(a:List Wave):Ks (F_ef n a) 162 [.rsl 2 (map Wave.c a),.fn (.func 163) [] []] [] (λr=>.bool r):=by
 exact Kg 10 func162 Z Z Z Z λr h=>Cz [0] h (k_en _ _) Z λe d h=>Gt 5 Z h 4 []
def F_gr(n:Nat)(a:Offence):Option Bool:=(bif a.Out then((bif (a.Time==0)then some (a.Laps==0)else some false):Option Bool).bind λf=>some f else(bif (a.Laps != 0)then((bif (a.Time==0)then(F_a n 1 64 [a.Laps]).bind λd=>some d else some false):Option Bool).bind λg=>some g else(F_a n 0 68719476736 [a.Time]).bind λe=>some e))
theorem k_gr(n:Nat)(e:Offence):Ks (F_gr n e) 155 [.agg (Offence.c e)] [] (λr=>.bool r):=by
 refine Kg 15 func155 Z Z Z Z λr h=>Cn Z h (λj h=>?_) (λj h=>?_)
 .refine Gc 1 Z (Bd h λf d h=>Ct f [] [] (λf=>[(2,.bool f)]) Ze Zf ?_ (λenv H k=>?_))
  .refine G0 5 Z (Is 9 d Z (λl d=>?_) (λl d=>?_))
   iterate 2 exact Gl 6 Z d []
  exact Gx 1 Z (Qm k (QP 3 Z h 2 []))
 refine Gc 8 Z (Cn Z h (λm h=>?_) (λm h=>?_))
 .refine Gc 1 Z (Bd h λg a h=>Cg g [] [] (λg=>[(2,.bool g)]) Ze Zf ?_ ?_)
  .refine G0 5 Z (Is 21 a Z (λi a=>?_) (λi a=>?_))
   .refine Go 2 Z (vH (Ej (xs:=[.tmp 23]) (es:=map (Qd .i64) [e.Laps]) QO Z Z Z Z Z ⟨Z,trivial⟩ Z Z) ?_ (gT Z));exact FE Z (Cb a (k_a _ _ _ _) Z (ls (ls (lo ln))) λs p a=>Gl 3 Z a [])
   .exact Gl 7 Z a []
  exact QP 3 Z h 2 []
 refine Gc 7 Z (vH (Ej (xs:=[.tmp 28]) (es:=map (Qd .i64) [e.Time]) QO Z Z Z Z Z ⟨Z,trivial⟩ Z Z) ?_);exact FE Z (Cb h (k_a _ _ _ _) Z (ls (ls (lo ln))) λt q h=>Gt 4 Z h 2 [])
def F_fd(n:Nat)(a:Offence):Option Bool:=(F_gr n a).bind λd=>some (!d)
theorem k_fd(n:Nat)(a:Offence):Ks (F_fd n a) 198 [.agg (Offence.c a),.ptr 0 0] [.cells 266 [.fn (.func 155) [] []]] (λr=>.bool r):=by
 exact Kg 10 func198 Z Z Z Z λr h=>Cz [] h (k_gr _ _) Z λe d h=>Gt 5 Z h 3 [0]
def F_hl(n:Nat)(d:List Offence)(a:Int):Option (Ctl Int (Ctl Unit Int)):=(bif decide (a<(d.length:Int))then(idx d a).bind λe=>(F_fd n e).bind λf=>(bif f then some (.done (.done a))else some (.cont (i64.wrap (a+1))))else some (.done (.cont ())))
def F_et(n:Nat)(e:List Offence):Option Int:=(iter (F_hl n e) n 0:Option (Ctl Unit Int)).bind λd=>match d with|.cont a=>(some (-1))|.done a=>some a
theorem k_et(n:Nat)(j:List Offence):Ks (F_et n j) 216 [.rsl 4 (map Offence.c j),.fn (.func 198) [] [.ptr 0 0]] [.cells 266 [.fn (.func 155) [] []]] (λr=>I r):=by
 refine Kg 9 func216 Z Z Z Z λr h=>Lg 3 Z Z (Bd h λk l h=>CgE (b:=k) [0] [] Ze Ze Zf ?_ (λp m=>?_))
 .refine G0 1 Z (Lp [0] [0,1,7] (λe=>[(8,I e)]) Ze l Zf (Lr [0]) λe s a d=>?_);refine G0 6 Z (Yn Z a (λf a=>?_) (λf a=>?_))
  .exact Gc 2 Z (Qp a (Gx 1 Z (cNo d a Z (Lr [0]))))
  refine Gc 15 Z (Bd a λt g a=>Iz g Z (Go 1 Z (Cz [0] a (k_fd _ _) Z λu q a=>Go 2 Z (Cn Z a (λi a=>?_) (λi a=>?_)))))
  .refine Gc 9 Z (Qw a ?_);obtain rfl:=Oj d a;exact Gx 1 Z (Qu (Gx 1 Z (Rt h 4 [0])))
  exact Gc 7 Z (Qo a (Lr [0]))
 subst m;exact QP 6 Z h 4 [0]
def F_fr(n:Nat)(a:List Offence):Option Bool:=(F_et n a).bind λd=>some (decide (0<=d))
theorem k_fr(n:Nat)(a:List Offence):Ks (F_fr n a) 197 [.rsl 4 (map Offence.c a),.fn (.func 198) [] [.ptr 0 0]] [.cells 266 [.fn (.func 155) [] []]] (λr=>.bool r):=by
 exact Kg 9 func197 Z Z Z Z λr h=>Cz [0] h (k_et _ _) Z λe d h=>Gt 5 Z h 4 [0]
def F_fo(n:Nat)(a:List Offence):Option Bool:=(F_fr n a).bind λd=>some (!d)
theorem k_fo(n:Nat)(a:List Offence):Ks (F_fo n a) 164 [.rsl 4 (map Offence.c a),.fn (.func 155) [] []] [] (λr=>.bool r):=by
 exact Kg 10 func164 Z Z Z Z λr h=>Cz [0] h (k_fr _ _) Z λe d h=>Gt 5 Z h 4 []
def F_fv(n:Nat)(a:Category):Option Bool:=((F_a n 0 120 [a.From,a.To]).bind λd=>(bif d then some (decide (a.From<=a.To))else some false):Option Bool).bind λe=>some e
theorem k_fv(n:Nat)(d:Category):Ks (F_fv n d) 166 [.agg (Category.c d)] [] (λr=>.bool r):=by
 refine Kg 7 func166 Z Z Z Z λr h=>Bd h λe a h=>Cg e [] [] (λe=>[(2,.bool e)]) Ze Zf ?_ ?_
 .refine G0 5 Z (vH (Ej (xs:=[.tmp 4,.tmp 6]) (es:=map (Qd .i64) [d.From,d.To]) QO Z Z Z Z Z ⟨Z,Z,trivial⟩ Z Z) ?_);refine FE Z (Cb a (k_a _ _ _ _) Z (ls (ls (lo ln))) λi g a=>Go 1 Z (Is 9 a Z (λf a=>?_) (λf a=>?_)))
  iterate 2 exact Gl 8 Z a []
 exact QP 1 Z h 2 []
def F_gs(n:Nat)(a:Category):Option Bool:=(F_fv n a).bind λd=>some (!d)
theorem k_gs(n:Nat)(a:Category):Ks (F_gs n a) 200 [.agg (Category.c a),.ptr 0 0] [.cells 279 [.fn (.func 166) [] []]] (λr=>.bool r):=by
 exact Kg 10 func200 Z Z Z Z λr h=>Cz [] h (k_fv _ _) Z λe d h=>Gt 5 Z h 3 [0]
def F_jy(n:Nat)(d:List Category)(a:Int):Option (Ctl Int (Ctl Unit Int)):=(bif decide (a<(d.length:Int))then(idx d a).bind λe=>(F_gs n e).bind λf=>(bif f then some (.done (.done a))else some (.cont (i64.wrap (a+1))))else some (.done (.cont ())))
def F_cu(n:Nat)(e:List Category):Option Int:=(iter (F_jy n e) n 0:Option (Ctl Unit Int)).bind λd=>match d with|.cont a=>(some (-1))|.done a=>some a
theorem k_cu(n:Nat)(j:List Category):Ks (F_cu n j) 217 [.rsl 3 (map Category.c j),.fn (.func 200) [] [.ptr 0 0]] [.cells 279 [.fn (.func 166) [] []]] (λr=>I r):=by
 refine Kg 9 func217 Z Z Z Z λr h=>Lg 3 Z Z (Bd h λk l h=>CgE (b:=k) [0] [] Ze Ze Zf ?_ (λp m=>?_))
 .refine G0 1 Z (Lp [0] [0,1,7] (λe=>[(8,I e)]) Ze l Zf (Lr [0]) λe s a d=>?_);refine G0 6 Z (Yn Z a (λf a=>?_) (λf a=>?_))
  .exact Gc 2 Z (Qp a (Gx 1 Z (cNo d a Z (Lr [0]))))
  refine Gc 15 Z (Bd a λt g a=>Iz g Z (Go 1 Z (Cz [0] a (k_gs _ _) Z λu q a=>Go 2 Z (Cn Z a (λi a=>?_) (λi a=>?_)))))
  .refine Gc 9 Z (Qw a ?_);obtain rfl:=Oj d a;exact Gx 1 Z (Qu (Gx 1 Z (Rt h 4 [0])))
  exact Gc 7 Z (Qo a (Lr [0]))
 subst m;exact QP 6 Z h 4 [0]
def F_bo(n:Nat)(a:List Category):Option Bool:=(F_cu n a).bind λd=>some (decide (0<=d))
theorem k_bo(n:Nat)(a:List Category):Ks (F_bo n a) 199 [.rsl 3 (map Category.c a),.fn (.func 200) [] [.ptr 0 0]] [.cells 279 [.fn (.func 166) [] []]] (λr=>.bool r):=by
 exact Kg 9 func199 Z Z Z Z λr h=>Cz [0] h (k_cu _ _) Z λe d h=>Gt 5 Z h 4 [0]
def F_ch(n:Nat)(a:List Category):Option Bool:=(F_bo n a).bind λd=>some (!d)
theorem k_ch(n:Nat)(a:List Category):Ks (F_ch n a) 165 [.rsl 3 (map Category.c a),.fn (.func 166) [] []] [] (λr=>.bool r):=by
 exact Kg 10 func165 Z Z Z Z λr h=>Cz [0] h (k_bo _ _) Z λe d h=>Gt 5 Z h 4 []
def F_gn(n:Nat)(a:Prize)(d:Course):Option Bool:=((F_a n 0 (i64.wrap ((d.Distances.length:Int)-1)) [a.Distance]).bind λe=>(bif e then(F_a n (-1) (i64.wrap ((d.Categories.length:Int)-1)) [a.Category]).bind λf=>(bif f then(F_a n 1 4000 [a.Rank]).bind λg=>(bif g then(F_a n 1 1125899906842624 [a.Amount]).bind λh=>some h else some false)else some false)else some false):Option Bool).bind λi=>some i
theorem k_gn(n:Nat)(d:Prize)(j:Course):Ks (F_gn n d j) 156 [.agg (Prize.c d),.ptr 0 0] [.cells 71 (Course.c j)] (λr=>.bool r):=by
 refine Kg 7 func156 Z Z Z Z λr h=>Bd h λe a h=>Cg e [0] [] (λe=>[(3,.bool e)]) Ze Zf ?_ ?_
 .refine G0 3 Z (Lg 3 Z Z (vH (Ej (xs:=[.tmp 9]) (es:=map (Qd .i64) [d.Distance]) QO Z Z Z Z Z ⟨Z,trivial⟩ Z Z) ?_));refine FE Z (Cb a (k_a _ _ _ _) Z (ls (ls (lo ln))) λq k a=>Go 1 Z (Is 12 a Z (λf a=>?_) (λf a=>?_)))
  .refine Go 2 Z (Lg 3 Z Z (vH (Ej (xs:=[.tmp 18]) (es:=map (Qd .i64) [d.Category]) QO Z Z Z Z Z ⟨Z,trivial⟩ Z Z) ?_ (gT Z)));refine FE Z (Cb a (k_a _ _ _ _) Z (ls (ls (lo ln))) λs l a=>Go 2 Z (Is 22 a Z (λg a=>?_) (λg a=>?_)))
   .refine Go 2 Z (vH (Ej (xs:=[.tmp 24]) (es:=map (Qd .i64) [d.Rank]) QO Z Z Z Z Z ⟨Z,trivial⟩ Z Z) ?_ (gT Z));refine FE Z (Cb a (k_a _ _ _ _) Z (ls (ls (lo ln))) λt m a=>Go 2 Z (Is 28 a Z (λi a=>?_) (λi a=>?_)))
    .refine Go 2 Z (vH (Ej (xs:=[.tmp 30]) (es:=map (Qd .i64) [d.Amount]) QO Z Z Z Z Z ⟨Z,trivial⟩ Z Z) ?_ (gT Z));exact FE Z (Cb a (k_a _ _ _ _) Z (ls (ls (lo ln))) λu p a=>Gl 3 Z a [0])
    .exact Gl 7 Z a [0]
   .exact Gl 13 Z a [0]
  .exact Gl 23 Z a [0]
 exact QP 1 Z h 3 [0]
def F_dy(n:Nat)(a:Prize)(d:Course):Option Bool:=(F_gn n a d).bind λe=>some (!e)
theorem k_dy(n:Nat)(a:Prize)(d:Course):Ks (F_dy n a d) 202 [.agg (Prize.c a),.ptr 0 0] [.cells 269 [.fn (.func 156) [] [.ptr 1 0]],.cells 71 (Course.c d)] (λr=>.bool r):=by
 exact Kg 10 func202 Z Z Z Z λr h=>Cz [1] h (k_gn _ _ _) Z λf e h=>Gt 5 Z h 3 [0,1]
def F_ht(n:Nat)(d:List Prize)(g:Course)(a:Int):Option (Ctl Int (Ctl Unit Int)):=(bif decide (a<(d.length:Int))then(idx d a).bind λe=>(F_dy n e g).bind λf=>(bif f then some (.done (.done a))else some (.cont (i64.wrap (a+1))))else some (.done (.cont ())))
def F_gd(n:Nat)(e:List Prize)(f:Course):Option Int:=(iter (F_ht n e f) n 0:Option (Ctl Unit Int)).bind λd=>match d with|.cont a=>(some (-1))|.done a=>some a
theorem k_gd(n:Nat)(j:List Prize)(k:Course):Ks (F_gd n j k) 218 [.rsl 4 (map Prize.c j),.fn (.func 202) [] [.ptr 0 0]] [.cells 269 [.fn (.func 156) [] [.ptr 1 0]],.cells 71 (Course.c k)] (λr=>I r):=by
 refine Kg 9 func218 Z Z Z Z λr h=>Lg 3 Z Z (Bd h λl m h=>CgE (b:=l) [0,1] [] Ze Ze Zf ?_ (λq p=>?_))
 .refine G0 1 Z (Lp [0,1] [0,1,7] (λe=>[(8,I e)]) Ze m Zf (Lr [0,1]) λe t a d=>?_);refine G0 6 Z (Yn Z a (λf a=>?_) (λf a=>?_))
  .exact Gc 2 Z (Qp a (Gx 1 Z (cNo d a Z (Lr [0,1]))))
  refine Gc 15 Z (Bd a λu g a=>Iz g Z (Go 1 Z (Cz [0,1] a (k_dy _ _ _) Z λw s a=>Go 2 Z (Cn Z a (λi a=>?_) (λi a=>?_)))))
  .refine Gc 9 Z (Qw a ?_);obtain rfl:=Oj d a;exact Gx 1 Z (Qu (Gx 1 Z (Rt h 4 [0,1])))
  exact Gc 7 Z (Qo a (Lr [0,1]))
 subst p;exact QP 6 Z h 4 [0,1]
def F_gt(n:Nat)(a:List Prize)(d:Course):Option Bool:=(F_gd n a d).bind λe=>some (decide (0<=e))
theorem k_gt(n:Nat)(a:List Prize)(d:Course):Ks (F_gt n a d) 201 [.rsl 4 (map Prize.c a),.fn (.func 202) [] [.ptr 0 0]] [.cells 269 [.fn (.func 156) [] [.ptr 1 0]],.cells 71 (Course.c d)] (λr=>.bool r):=by
 exact Kg 9 func201 Z Z Z Z λr h=>Cz [0,1] h (k_gd _ _ _) Z λf e h=>Gt 5 Z h 4 [0,1]
def F_ej(n:Nat)(a:List Prize)(d:Course):Option Bool:=(F_gt n a d).bind λe=>some (!e)
theorem k_ej(n:Nat)(a:List Prize)(d:Course):Ks (F_ej n a d) 167 [.rsl 4 (map Prize.c a),.fn (.func 156) [] [.ptr 0 0]] [.cells 71 (Course.c d)] (λr=>.bool r):=by
 exact Kg 10 func167 Z Z Z Z λr h=>Cz [1,0] h (k_gt _ _ _) Z λf e h=>Gt 5 Z h 4 [0]
def F_bs(n:Nat)(a:Prize):Option Unit:=some ()
theorem k_bs(n:Nat)(a:Prize):Kq (F_bs n a) 169 [.agg (Prize.c a)] [] (λ_=>.agg [I a.Distance,I a.Category,I a.Rank]) (λ_=>[.cells 283 [I a.Distance,I a.Category,I a.Rank]]):=by
 refine Kg 19 func169 Z Z Z Z λr h=>?_;obtain rfl:=Oi h;exact Rx [1] [2] Z (Qs Z (Qe isAgg283 sizeOf283 Z Z Z)) ⟨Z,Z⟩
def F_jp(n:Nat)(e:List Prize)(a:(List (Ua×Bool))×Int):Option (Ctl ((List (Ua×Bool))×Int) (List (Ua×Bool))):=(bif decide (a.2<(e.length:Int))then(idx e a.2).bind λd=>(F_bs n d).bind λg=>(some (Qae a.1 ({distance:=d.Distance,category:=d.Category,rank:=d.Rank:Ua}) true)).bind λf=>some (.cont (f,i64.wrap (a.2+1)))else some (.done a.1))
def F_dp(n:Nat)(a:List Prize):Option Bool:=(iter (F_jp n a) n ([],0):Option (List (Ua×Bool))).bind λd=>some ((d.length:Int)==(a.length:Int))
theorem k_dp(n:Nat)(p:List Prize):Ks (F_dp n p) 168 [.rsl 4 (map Prize.c p),.fn (.func 169) [] []] [] (λr=>.bool r):=by
 refine Kg 7 func168 Z Z Z Z λr h=>vH QQ ?_;refine Fg 7 Z Z (Lg 3 Z Z (Bd h λd q h=>Cg d [0] [0,5] Ze (λd=>[(0,.map (Qh (λx=>A.agg (Ua.c x)) A.bool d))]) Zf ?_ ?_))
 .refine G0 1 Z (Lp [0] [0,1,5,9,10] (λe=>[(11,I e.2)]) (λe=>[(0,.map (Qh (λx=>A.agg (Ua.c x)) A.bool e.1))]) q Zf (Lr [0]) λe t a g=>?_);refine G0 6 Z (Yn Z a (λi a=>?_) (λi a=>?_))
  .exact Gc 2 Z (Qp a (Gx 1 Z (cQo g a (Lr [0]))))
  refine Gc 6 Z (Bd a λf j a=>Iz j Z (Go 9 Z (Cd [] a (k_bs _ _) Z λu s a=>FE Z (Bd a λw m a=>?_))));refine vU (QM (ev:=A.bool) (k:=({distance:=f.Distance,category:=f.Category,rank:=f.Rank:Ua})) (v:=true) (l:=e.1) QiJ m Z underlying297) ?_;exact Fg 7 Z Z (Qo a (Lr [0]))
 refine Gc 3 Z ?_;refine vX (I (d.length:Int)) (Qdt (l:=d) underlying297 Z) ?_;exact Go 1 Z (Lm Z (Gt 5 Z h 4 []))
def F_fz(n:Nat)(a:Course):Option Bool:=((F_eh n a.Mats).bind λd=>(bif d then(F_gb n a.Legs (i64.wrap ((a.Mats.length:Int)-1))).bind λe=>(bif e then(F_bq n a.Legs).bind λf=>(bif f then(F_ec n a.Distances (i64.wrap ((a.Mats.length:Int)-1))).bind λg=>(bif g then(F_ef n a.Waves).bind λh=>(bif h then(F_fo n a.Offences).bind λi=>(bif i then(F_ch n a.Categories).bind λj=>(bif j then(F_ej n a.Prizes a).bind λk=>(bif k then(F_dp n a.Prizes).bind λl=>(bif l then(F_a n 0 16 [a.Faults.Misses,a.Faults.Strays]).bind λm=>(bif m then(F_a n 0 4294967296 [a.Faults.Window,a.Faults.Residual]).bind λp=>(bif p then(F_a n 0 100000 [a.Faults.Drift]).bind λq=>(bif q then(F_a n 0 1125899906842624 [a.Fee]).bind λr=>(bif r then(F_a n 0 1099511627776 [a.Deadline]).bind λs=>some s else some false)else some false)else some false)else some false)else some false)else some false)else some false)else some false)else some false)else some false)else some false)else some false)else some false):Option Bool).bind λt=>some t
theorem k_fz(n:Nat)(d:Course):Ks (F_fz n d) 110 [.agg (Course.c d)] [] (λr=>.bool r):=by
 refine Kg 10 func110 Z Z Z Z λr h=>Lg 55 Z Z (Bd h λe a h=>Cg e [] [] (λe=>[(2,.bool e)]) Ze Zf ?_ ?_)
 .refine G0 3 Z (Cz [] a (k_eh _ _) Z λQ x a=>Go 1 Z (Is 25 a Z (λf a=>?_) (λf a=>?_)))
  .refine Go 3 Z (Cd [1] a (k_gb _ _ _) Z λR y a=>Fg 2 Z Z (Is 31 a Z (λg a=>?_) (λg a=>?_)))
   .refine Go 2 Z (Cz [] a (k_bq _ _) Z λT z a=>Go 2 Z (Is 36 a Z (λi a=>?_) (λi a=>?_)))
    .refine Go 3 Z (Cz [1,2,3] a (k_ec _ _ _) Z λV B a=>Go 2 Z (Is 42 a Z (λj a=>?_) (λj a=>?_)))
     .refine Go 2 Z (Cz [] a (k_ef _ _) Z λW E a=>Go 2 Z (Is 47 a Z (λk a=>?_) (λk a=>?_)))
      .refine Go 3 Z (Cz [] a (k_fo _ _) Z λX F a=>Go 2 Z (Is 53 a Z (λl a=>?_) (λl a=>?_)))
       .refine Go 2 Z (Cz [] a (k_ch _ _) Z λY G a=>Go 2 Z (Is 58 a Z (λm a=>?_) (λm a=>?_)))
        .refine Go 3 Z (Cz [0] a (k_ej _ _ _) Z λaa H a=>Go 2 Z (Is 64 a Z (λp a=>?_) (λp a=>?_)))
         .refine Go 2 Z (Cz [] a (k_dp _ _) Z λab J a=>Go 2 Z (Is 69 a Z (λq a=>?_) (λq a=>?_)))
          .refine Go 4 Z (vH (Ej (xs:=[.tmp 71,.tmp 73]) (es:=map (Qd .i64) [d.Faults.Misses,d.Faults.Strays]) QO Z Z Z Z Z ⟨Z,Z,trivial⟩ Z Z) ?_ (gT Z));refine FE Z (Cb a (k_a _ _ _ _) Z (ls (ls (lo ln))) λac L a=>Go 2 Z (Is 77 a Z (λs a=>?_) (λs a=>?_)))
           .refine Go 4 Z (vH (Ej (xs:=[.tmp 79,.tmp 81]) (es:=map (Qd .i64) [d.Faults.Window,d.Faults.Residual]) QO Z Z Z Z Z ⟨Z,Z,trivial⟩ Z Z) ?_ (gT Z));refine FE Z (Cb a (k_a _ _ _ _) Z (ls (ls (lo ln))) λad M a=>Go 2 Z (Is 85 a Z (λt a=>?_) (λt a=>?_)))
            .refine Go 2 Z (vH (Ej (xs:=[.tmp 87]) (es:=map (Qd .i64) [d.Faults.Drift]) QO Z Z Z Z Z ⟨Z,trivial⟩ Z Z) ?_ (gT Z));refine FE Z (Cb a (k_a _ _ _ _) Z (ls (ls (lo ln))) λae N a=>Go 2 Z (Is 91 a Z (λu a=>?_) (λu a=>?_)))
             .refine Go 2 Z (vH (Ej (xs:=[.tmp 93]) (es:=map (Qd .i64) [d.Fee]) QO Z Z Z Z Z ⟨Z,trivial⟩ Z Z) ?_ (gT Z));refine FE Z (Cb a (k_a _ _ _ _) Z (ls (ls (lo ln))) λaf O a=>Go 2 Z (Is 97 a Z (λw a=>?_) (λw a=>?_)))
              .refine Go 2 Z (vH (Ej (xs:=[.tmp 99]) (es:=map (Qd .i64) [d.Deadline]) QO Z Z Z Z Z ⟨Z,trivial⟩ Z Z) ?_ (gT Z));exact FE Z (Cb a (k_a _ _ _ _) Z (ls (ls (lo ln))) λag P a=>Gl 3 Z a [])
              .exact Gl 7 Z a []
             .exact Gl 13 Z a []
            .exact Gl 19 Z a []
           .exact Gl 27 Z a []
          .exact Gl 35 Z a []
         .exact Gl 40 Z a []
        .exact Gl 46 Z a []
       .exact Gl 51 Z a []
      .exact Gl 57 Z a []
     .exact Gl 62 Z a []
    .exact Gl 68 Z a []
   .exact Gl 73 Z a []
  .exact Gl 79 Z a []
 exact QP 1 Z h 2 []
def F_hu(n:Nat)(d:List Step)(a:(List Y9)×Int):Option (Ctl ((List Y9)×Int) (List Y9)):=(bif decide (a.2<(d.length:Int))then(idx d a.2).bind λe=>(app a.1 [Y9.ctyping_step ({Step:=e:Ub})]).bind λf=>some (.cont (f,i64.wrap (a.2+1)))else some (.done a.1))
def F_ab(n:Nat)(a:List Step):Option (List Y9):=(iter (F_hu n a) n ([],0):Option (List Y9)).bind λd=>some d
theorem k_ab(n:Nat)(u:List Step):Kq (F_ab n u) 171 [.rsl 8 (map Step.enc u)] [] (λr=>.osl 0 0 r.length 1) (λr=>[.row 304 1 (map Y9.enc r)]):=by
 refine Kg 9 func171 Z Z Z Z λr h=>Lg 3 Z Z (Bd h λf w h=>Cg f [0] [] (λf=>[(2,.osl 0 0 f.length 1)]) (λf=>[(0,.row 304 1 (map Y9.enc f))]) Zf ?_ ?_)
 .refine G0 1 Z (Lp [0] [5,6] (λd=>[(2,.osl 0 0 d.1.length 1),(7,I d.2)]) (λd=>[(0,.row 304 1 (map Y9.enc d.1))]) w Zf ?_ ?_)
  .refine El (Eo (s:=2) (k:=1) (t:=304) (XL Z) Z) ?_;exact Lr [0]
  intro d x a j;refine G0 6 Z (Yn Z a (λl a=>?_) (λl a=>?_))
  .exact Gc 2 Z (Qp a (Gx 1 Z (cQo j a (Lr [0]))))
  refine Gc 6 Z (Bd a λg p a=>IzE p (Qfi g) Z (Go 9 Z ?_));refine vX (.iface 307 (.agg (Ub.c ({Step:=g:Ub})))) (Qak Z E4 (by intro m;nofun) Z) ?_;refine vH (Ej (xs:=[.tmp 14]) (es:=map Y9.enc [Y9.ctyping_step ({Step:=g:Ub})]) QbH Z Z Z Z Z ⟨Z,trivial⟩ Z Z) ?_;refine FE Z (Bd a λy q a=>vH (Yx (e:=Y9.enc) q QbH EU (Qbi (i:=2))) ?_);exact Fg 8 Z Z (Qo a (Lr [3]))
 exact QP 7 Z h 2 [0]
def F_ad(n:Nat)(a:Y6):Option Bool:=((bif (a.Cond.Kind==0)then(bif (a.Cond.Var==0)then(bif (a.Cond.N==0)then some ((a.Cond.Parts.length:Int)==0)else some false)else some false)else some false):Option Bool).bind λd=>some d
theorem k_ad(n:Nat)(e:Y6):Ks (F_ad n e) 219 [.agg (Y6.c ({Cond:=e.Cond:Y6}))] [] (λr=>.bool r):=by
 refine Kg 7 func219 Z Z Z Z λr h=>Bd h λd a h=>Cg d [] [] (λd=>[(2,.bool d)]) Ze Zf ?_ ?_
 .refine G0 6 Z (Is 7 a Z (λf a=>?_) (λf a=>?_))
  .refine Go 6 Z (Is 13 a Z (λg a=>?_) (λg a=>?_))
   .refine Go 6 Z (Is 19 a Z (λi a=>?_) (λi a=>?_))
    .exact Go 3 Z (Lm Z (Gl 4 Z a []))
    .exact Gl 8 Z a []
   .exact Gl 14 Z a []
  .exact Gl 20 Z a []
 exact QP 1 Z h 2 []
def F_q(n:Nat)(a:Ub):Option (List Y9):=(F_ab n a.Step.Then).bind λd=>(F_ab n a.Step.Else).bind λe=>(app d e).bind λf=>some f
theorem k_q(n:Nat)(a:Ub):Kq (F_q n a) 227 [.agg (Ub.c a)] [] (λr=>.osl 0 0 r.length 1) (λr=>[.row 304 1 (map Y9.enc r)]):=by
 refine Kg 7 func227 Z Z Z Z λr h=>DAs 7 3 [0,0,0,1,3,3,3] (by kernel_rfl) (Da 3 Z ?_);obtain⟨d,f,h⟩:=Q3 h;refine DA.op (x:=.osl 1 0 d.length 1) (H1:=[.cells 307 (Ub.c a),.row 304 1 (map Y9.enc d)]) ?_ ?_
 .refine Qi [] (OpC.fn call171 Z Z Z) (k_ab _ _ _ f) ?_;rintro _ _ ⟨rfl,rfl⟩;exact FE Z Wp
 refine Db 2 Z ?_;refine DB.wo2 (x:=.rsl 8 (map Step.enc a.Step.Else)) (Ld isAgg67 Z Wp) (Ld isAgg67 Z Wp) ?_;refine DB.done Z (Cd [] h (k_ab _ _) Z λk j h=>FE Z (Bd h λl g h=>vH (Yx (e:=Y9.enc) g QbH EU (Qbi (i:=2))) ?_));exact FE Z (Gt 4 Z h 2 [3])
def F_hj(n:Nat)(d:List Cond)(a:(List Y9)×Int):Option (Ctl ((List Y9)×Int) (List Y9)):=(bif decide (a.2<(d.length:Int))then(idx d a.2).bind λe=>(app a.1 [Y9.ctyping_cond ({Cond:=e:Y6})]).bind λf=>some (.cont (f,i64.wrap (a.2+1)))else some (.done a.1))
def F_cc(n:Nat)(a:List Cond):Option (List Y9):=(iter (F_hj n a) n ([],0):Option (List Y9)).bind λd=>some d
theorem k_cc(n:Nat)(u:List Cond):Kq (F_cc n u) 229 [.rsl 4 (map Cond.enc u)] [] (λr=>.osl 0 0 r.length 1) (λr=>[.row 304 1 (map Y9.enc r)]):=by
 refine Kg 9 func229 Z Z Z Z λr h=>Lg 3 Z Z (Bd h λf w h=>Cg f [0] [] (λf=>[(2,.osl 0 0 f.length 1)]) (λf=>[(0,.row 304 1 (map Y9.enc f))]) Zf ?_ ?_)
 .refine G0 1 Z (Lp [0] [5,6] (λd=>[(2,.osl 0 0 d.1.length 1),(7,I d.2)]) (λd=>[(0,.row 304 1 (map Y9.enc d.1))]) w Zf ?_ ?_)
  .refine El (Eo (s:=2) (k:=1) (t:=304) (XL Z) Z) ?_;exact Lr [0]
  intro d x a j;refine G0 6 Z (Yn Z a (λl a=>?_) (λl a=>?_))
  .exact Gc 2 Z (Qp a (Gx 1 Z (cQo j a (Lr [0]))))
  refine Gc 6 Z (Bd a λg p a=>IzE p (Qfs g) Z (Go 9 Z ?_));refine vX (.iface 320 (.agg (Y6.c ({Cond:=g:Y6})))) (Qak Z EF (by intro m;nofun) Z) ?_;refine vH (Ej (xs:=[.tmp 14]) (es:=map Y9.enc [Y9.ctyping_cond ({Cond:=g:Y6})]) QbH Z Z Z Z Z ⟨Z,trivial⟩ Z Z) ?_;refine FE Z (Bd a λy q a=>vH (Yx (e:=Y9.enc) q QbH EU (Qbi (i:=2))) ?_);exact Fg 8 Z Z (Qo a (Lr [3]))
 exact QP 7 Z h 2 [0]
def F_o(n:Nat)(a:Y6):Option (List Y9):=(F_cc n a.Cond.Parts).bind λd=>some d
theorem k_o(n:Nat)(a:Y6):Kq (F_o n a) 226 [.agg (Y6.c ({Cond:=a.Cond:Y6}))] [] (λr=>.osl 0 0 r.length 1) (λr=>[.row 304 1 (map Y9.enc r)]):=by
 exact Kg 11 func226 Z Z Z Z λr h=>Cd [] h (k_cc _ _) Z λe d h=>FE Z (Gt 4 Z h 2 [1])
def F_hx(n:Nat)(m:List Y9)(p:Int)(rec95:(List Y9)->Int->Y7->Option (Y7×Bool))(a:Y7×Int):Option (Ctl (Y7×Int) (Ctl Y7 (Y7×Bool))):=(bif decide (a.2<(m.length:Int))then(idx m a.2).bind λq=>Y9.elim q (λg=>((F_ad n ({Cond:=g.Step.Cond:Y6})).bind λr=>(bif (!r)then(rec95 [Y9.ctyping_cond ({Cond:=g.Step.Cond:Y6})] 0 ({steps:=i64.wrap (a.1.steps+1),conds:=a.1.conds:Y7})).bind λh=>some (h.1,(!h.2))else some ({steps:=i64.wrap (a.1.steps+1),conds:=a.1.conds:Y7},false)):Option (Y7×Bool)).bind λd=>(bif d.2 then some (.done (.done (d.1,false)))else((bif decide (64<d.1.steps)then some (d.1,true)else(bif decide (256<d.1.conds)then some (d.1,true)else(F_q n g).bind λk=>(rec95 k (i64.wrap (p+1)) d.1).bind λi=>some (i.1,(!i.2)))):Option (Y7×Bool)).bind λe=>(bif e.2 then some (.done (.done (e.1,false)))else some (.cont (e.1,i64.wrap (a.2+1)))))) (λs=>((bif decide (64<a.1.steps)then some ({steps:=a.1.steps,conds:=i64.wrap (a.1.conds+1):Y7},true)else(bif decide (256<(i64.wrap (a.1.conds+1)))then some ({steps:=a.1.steps,conds:=i64.wrap (a.1.conds+1):Y7},true)else(F_o n ({Cond:=s.Cond:Y6})).bind λl=>(rec95 l (i64.wrap (p+1)) ({steps:=a.1.steps,conds:=i64.wrap (a.1.conds+1):Y7})).bind λj=>some (j.1,(!j.2)))):Option (Y7×Bool)).bind λf=>(bif f.2 then some (.done (.done (f.1,false)))else some (.cont (f.1,i64.wrap (a.2+1)))))else some (.done (.cont a.1)))
def B_h(rec95:(List Y9)->Int->Y7->Option (Y7×Bool))(n:Nat)(d:List Y9)(e:Int)(f:Y7):Option (Y7×Bool):=((bif decide (0<(d.length:Int))then some (decide (16<e))else some false):Option Bool).bind λh=>(bif h then some (f,false)else(iter (F_hx n d e rec95) n (f,0):Option (Ctl Y7 (Y7×Bool))).bind λg=>match g with|.cont a=>(some (a,true))|.done a=>some a)
theorem Qaq(rec95:(List Y9)->Int->Y7->Option (Y7×Bool))(g:∀(l:List Y9) (x:Int) (y:Y7) (r:Y7×Bool),rec95 l x y=some r->C prog 203 [.ptr 0 0,.osl 1 0 l.length 1,I x] [.cells 300 (Y7.c y),.row 304 1 (map Y9.enc l)] (RQ (λr=>.bool r.2) (λr=>[.cells 300 (Y7.c r.1),.row 304 1 (map Y9.enc l)]) r))(n:Nat)(l:List Y9)(x:Int)(y:Y7)(r:Y7×Bool)(h:B_h rec95 n l x y=some r):C prog 203 [.ptr 0 0,.osl 1 0 l.length 1,I x] [.cells 300 (Y7.c y),.row 304 1 (map Y9.enc l)] (RQ (λr=>.bool r.2) (λr=>[.cells 300 (Y7.c r.1),.row 304 1 (map Y9.enc l)]) r):=by
 refine YH func203 Z Z Z ?_;refine G0 7 Z (Bd h λV B h=>Ct V [0,1] [0,1,2] (λV=>[(18,.bool V)]) Ze Zf ?_ (λenv H q=>?_))
 .refine G0 5 Z (Is 15 B Z (λY B=>?_) (λY B=>?_))
  iterate 2 exact Gl 4 Z B [0,1]
 refine Gx 1 Z (Qm q (Cn Z h (λaa h=>?_) (λaa h=>?_)))
 .exact QP 7 Z h 6 [0,1]
 refine Gc 10 Z (Bd h λab ac h=>CgE (b:=ab) [0,1] [] Ze (λE=>[(0,.cells 300 (Y7.c E))]) Zf ?_ (λE ad=>?_))
 .refine G0 1 Z (Lp [0,1] [0,2,19,20] (λt=>[(21,I t.2)]) (λt=>[(0,.cells 300 (Y7.c t.1))]) ac Zf (Lr [0,1]) λt an a p=>?_);refine G0 6 Z (Yn Z a (λW a=>?_) (λW a=>?_))
  .exact Gc 2 Z (Qp a (Gx 1 Z (cNo p a Z (Lr [0,1]))))
  refine Gc 6 Z (Bd a λT F a=>?_);refine vX (.ptr 1 (toNat t.2*1)) (Q5 F Z EU sizeOf304) ?_;refine vX (Y9.val T) (Er Z isAgg304 Z (Yj F)) ?_;refine Go 12 Z ?_;rcases YR T with⟨k,hE90⟩|⟨w,hE92⟩
  .have a:=YM hE90 a;refine Qq (QA (s:=8) (a':=.iface 307 (.agg (Ub.c k))) Z (congrArg Y9.val hE90)) ?_;refine Qq (QA (s:=24) (a':=.iface 307 (.agg (Ub.c k))) Z (congrArg Y9.val hE90)) ?_;refine Qq (QA (s:=25) (a':=.iface 307 (.agg (Ub.c k))) Z (congrArg Y9.val hE90)) ?_;refine vX (.tup [.agg [I 0,I 0,I 0,.rsl 4 (map Cond.enc [])],.bool false]) (Qez (z:=(.agg [I 0,I 0,I 0,.rsl 4 (map Cond.enc [])])) EF (by intro m;nofun) Z Gi (zrC Z)) ?_;refine Go 7 Z ?_;refine vX (.tup [.agg (Ub.c k),.bool true]) (QaV E4 (by intro m;nofun)) ?_;refine Go 34 Z (Bd a λu f a=>Ct u [0,1] [0,2,8,19,20,21] (λu=>[(60,.bool u.2)]) (λu=>[(0,.cells 300 (Y7.c u.1))]) Zf ?_ (λenv H q=>?_))
   .refine G0 2 Z (Cz [] f (k_ad _ _) Z λao ah f=>Go 2 Z (Is 53 f Z (λX f=>?_) (λX f=>?_)))
    .refine Go 2 Z ?_;refine vX (.iface 320 (.agg (Y6.c ({Cond:=k.Step.Cond:Y6})))) (Qak Z EF (by intro m;nofun) Z) ?_ (gT Z);refine vH (Ej (xs:=[.tmp 56]) (es:=map Y9.enc [Y9.ctyping_cond ({Cond:=k.Step.Cond:Y6})]) QbH Z Z Z Z Z ⟨Z,trivial⟩ Z Z) ?_ (gT Z);exact FE Z (Cd [0,4] f (g _ _ _) Z λai ae f=>FE Z (Gl 3 Z f [0,1]))
    .exact Gl 8 Z f [0,1]
   refine Gx 1 Z (Qm q (Cn Z a (λG a=>?_) (λG a=>?_)))
   .refine Gc 10 Z (Qw a ?_);obtain rfl:=Oj p a;exact Gx 1 Z (Qu (Gx 1 Z (Rt h 6 [0,1])))
   refine Gc 4 Z (Bd a λi d a=>Ct i [0,1] [0,2,19,20,21] (λi=>[(81,.bool i.2)]) (λi=>[(0,.cells 300 (Y7.c i.1))]) Zf ?_ (λenv H q=>?_))
   .refine G0 7 Z (Is 66 d Z (λJ d=>?_) (λJ d=>?_))
    .exact Gl 16 Z d [0,1]
    .refine Go 7 Z (Is 73 d Z (λL d=>?_) (λL d=>?_))
     .exact Gl 9 Z d [0,1]
     .refine Go 2 Z (Bd d λaj M d=>?_);refine Qi [] (QcT call227 Z Z Z Z (λ_ _=>by kernel_rfl)) (k_q _ _ _ M) ?_ (hg:=(gT Z));rintro _ _ ⟨rfl,rfl⟩;exact Fg 2 Z Z (Cd [0,2] d (g _ _ _) Z λak af d=>FE Z (Gl 3 Z d [0,1]))
   refine Gx 1 Z (Qm q (Cn Z a (λN a=>?_) (λN a=>?_)))
   .refine Gc 8 Z (Qw a ?_);obtain rfl:=Oj p a;exact Gx 1 Z (Qu (Gx 1 Z (Rt h 6 [0,1])))
   exact Gc 7 Z (Qo a (Lr [0,1]))
  .have a:=YL hE92 a;refine Qq (QA (s:=8) (a':=.iface 320 (.agg (Y6.c ({Cond:=w.Cond:Y6})))) Z (congrArg Y9.val hE92)) ?_;refine Qq (QA (s:=24) (a':=.iface 320 (.agg (Y6.c ({Cond:=w.Cond:Y6})))) Z (congrArg Y9.val hE92)) ?_;refine Qq (QA (s:=25) (a':=.iface 320 (.agg (Y6.c ({Cond:=w.Cond:Y6})))) Z (congrArg Y9.val hE92)) ?_;refine vX (.tup [.agg (Y6.c ({Cond:=w.Cond:Y6})),.bool true]) (QaV EF (by intro m;nofun)) ?_;refine Go 24 Z (Bd a λj e a=>Cg j [0,1] [0,2,19,20,21] (λj=>[(81,.bool j.2)]) (λj=>[(0,.cells 300 (Y7.c j.1))]) Zf ?_ ?_)
   .refine G0 7 Z (Is 66 e Z (λO e=>?_) (λO e=>?_))
    .exact Gl 16 Z e [0,1]
    .refine Go 7 Z (Is 73 e Z (λP e=>?_) (λP e=>?_))
     .exact Gl 9 Z e [0,1]
     .refine Go 2 Z (Bd e λal Q e=>?_);refine Qi [] (QcT call226 Z Z Z Z (λ_ _=>by kernel_rfl)) (k_o _ _ _ Q) ?_ (hg:=(gT Z));rintro _ _ ⟨rfl,rfl⟩;exact Fg 2 Z Z (Cd [0,3] e (g _ _ _) Z λam ag e=>FE Z (Gl 3 Z e [0,1]))
   refine Cn Z a (λR a=>?_) (λR a=>?_)
   .refine Gc 8 Z (Qw a ?_);obtain rfl:=Oj p a;exact Gx 1 Z (Qu (Gx 1 Z (Rt h 6 [0,1])))
   exact Gc 7 Z (Qo a (Lr [0,1]))
 subst ad;exact QP 6 Z h 6 [0,1]
def F_h:Nat->(List Y9)->Int->Y7->Option (Y7×Bool)
  |0=>λ_ _ _=>none
  |n+1=>B_h (F_h n) n
theorem k_h(n:Nat):∀(a:List Y9) (d:Int) (e:Y7) (r:Y7×Bool),F_h n a d e=some r->C prog 203 [.ptr 0 0,.osl 1 0 a.length 1,I d] [.cells 300 (Y7.c e),.row 304 1 (map Y9.enc a)] (RQ (λr=>.bool r.2) (λr=>[.cells 300 (Y7.c r.1),.row 304 1 (map Y9.enc a)]) r):=by
  induction n with
  |zero=>intro a d e r h;cases h
  |succ n ih=>intro a d e r h;exact Qaq _ ih n a d e r h
def F_iw(n:Nat)(m:List Y9)(p:Int)(a:Y7×Int):Option (Ctl (Y7×Int) (Ctl Y7 (Y7×Bool))):=(bif decide (a.2<(m.length:Int))then(idx m a.2).bind λq=>Y9.elim q (λg=>((F_ad n ({Cond:=g.Step.Cond:Y6})).bind λr=>(bif (!r)then(F_h n [Y9.ctyping_cond ({Cond:=g.Step.Cond:Y6})] 0 ({steps:=i64.wrap (a.1.steps+1),conds:=a.1.conds:Y7})).bind λh=>some (h.1,(!h.2))else some ({steps:=i64.wrap (a.1.steps+1),conds:=a.1.conds:Y7},false)):Option (Y7×Bool)).bind λd=>(bif d.2 then some (.done (.done (d.1,false)))else((bif decide (64<d.1.steps)then some (d.1,true)else(bif decide (256<d.1.conds)then some (d.1,true)else(F_q n g).bind λk=>(F_h n k (i64.wrap (p+1)) d.1).bind λi=>some (i.1,(!i.2)))):Option (Y7×Bool)).bind λe=>(bif e.2 then some (.done (.done (e.1,false)))else some (.cont (e.1,i64.wrap (a.2+1)))))) (λs=>((bif decide (64<a.1.steps)then some ({steps:=a.1.steps,conds:=i64.wrap (a.1.conds+1):Y7},true)else(bif decide (256<(i64.wrap (a.1.conds+1)))then some ({steps:=a.1.steps,conds:=i64.wrap (a.1.conds+1):Y7},true)else(F_o n ({Cond:=s.Cond:Y6})).bind λl=>(F_h n l (i64.wrap (p+1)) ({steps:=a.1.steps,conds:=i64.wrap (a.1.conds+1):Y7})).bind λj=>some (j.1,(!j.2)))):Option (Y7×Bool)).bind λf=>(bif f.2 then some (.done (.done (f.1,false)))else some (.cont (f.1,i64.wrap (a.2+1)))))else some (.done (.cont a.1)))
def F_fn(n:Nat)(d:List Y9)(e:Int)(f:Y7):Option (Y7×Bool):=((bif decide (0<(d.length:Int))then some (decide (16<e))else some false):Option Bool).bind λh=>(bif h then some (f,false)else(iter (F_iw n d e) n (f,0):Option (Ctl Y7 (Y7×Bool))).bind λg=>match g with|.cont a=>(some (a,true))|.done a=>some a)
theorem k_fn(n:Nat)(R:List Y9)(T:Int)(V:Y7):Kq (F_fn n R T V) 203 [.ptr 0 0,.rsl 1 (map Y9.enc R),I T] [.cells 300 (Y7.c V)] (λr=>.bool r.2) (λr=>[.cells 300 (Y7.c r.1)]):=by
 refine Kg 7 func203 Z Z Z Z λr h=>Bd h λN u h=>Ct N [0] [0,1,2] (λN=>[(18,.bool N)]) Ze Zf ?_ (λenv H l=>?_)
 .refine G0 2 Z (Lg 2 Z Z (Is 15 u Z (λW u=>?_) (λW u=>?_)))
  iterate 2 exact Gl 4 Z u [0]
 refine Gx 1 Z (Qm l (Cn Z h (λX h=>?_) (λX h=>?_)))
 .exact QP 7 Z h 6 [0]
 refine Gc 6 Z (Lg 3 Z Z (Bd h λY aa h=>CgE (b:=Y) [0] [] Ze (λw=>[(0,.cells 300 (Y7.c w))]) Zf ?_ (λw ab=>?_)))
 .refine G0 1 Z (Lp [0] [0,2,19,20] (λq=>[(21,I q.2)]) (λq=>[(0,.cells 300 (Y7.c q.1))]) aa Zf (Lr [0]) λq am a k=>?_);refine G0 6 Z (Yn Z a (λO a=>?_) (λO a=>?_))
  .exact Gc 2 Z (Qp a (Gx 1 Z (cNo k a Z (Lr [0]))))
  refine Gc 6 Z (Bd a λac P a=>Iz P Z (Go 13 Z ?_));rcases YR ac with⟨j,hE90⟩|⟨t,hE92⟩
  .have a:=YM hE90 a;refine Qq (QA (s:=8) (a':=.iface 307 (.agg (Ub.c j))) Z (congrArg Y9.val hE90)) ?_;refine Qq (QA (s:=24) (a':=.iface 307 (.agg (Ub.c j))) Z (congrArg Y9.val hE90)) ?_;refine Qq (QA (s:=25) (a':=.iface 307 (.agg (Ub.c j))) Z (congrArg Y9.val hE90)) ?_;refine vX (.tup [.agg [I 0,I 0,I 0,.rsl 4 (map Cond.enc [])],.bool false]) (Qez (z:=(.agg [I 0,I 0,I 0,.rsl 4 (map Cond.enc [])])) EF (by intro m;nofun) Z Gi (zrC Z)) ?_;refine Go 7 Z ?_;refine vX (.tup [.agg (Ub.c j),.bool true]) (QaV E4 (by intro m;nofun)) ?_;refine Go 34 Z (Bd a λp f a=>Ct p [0] [0,2,8,19,20,21] (λp=>[(60,.bool p.2)]) (λp=>[(0,.cells 300 (Y7.c p.1))]) Zf ?_ (λenv H l=>?_))
   .refine G0 2 Z (Cz [] f (k_ad _ _) Z λan ag f=>Go 2 Z (Is 53 f Z (λQ f=>?_) (λQ f=>?_)))
    .refine Go 2 Z ?_;refine vX (.iface 320 (.agg (Y6.c ({Cond:=j.Step.Cond:Y6})))) (Qak Z EF (by intro m;nofun) Z) ?_ (gT Z);refine vH (Ej (xs:=[.tmp 56]) (es:=map Y9.enc [Y9.ctyping_cond ({Cond:=j.Step.Cond:Y6})]) QbH Z Z Z Z Z ⟨Z,trivial⟩ Z Z) ?_ (gT Z);exact FE Z (Cd [0,3] f (k_h _ _ _ _) Z λah ad f=>FE Z (Gl 3 Z f [0]))
    .exact Gl 8 Z f [0]
   refine Gx 1 Z (Qm l (Cn Z a (λx a=>?_) (λx a=>?_)))
   .refine Gc 10 Z (Qw a ?_);obtain rfl:=Oj k a;exact Gx 1 Z (Qu (Gx 1 Z (Rt h 6 [0])))
   refine Gc 4 Z (Bd a λg d a=>Ct g [0] [0,2,19,20,21] (λg=>[(81,.bool g.2)]) (λg=>[(0,.cells 300 (Y7.c g.1))]) Zf ?_ (λenv H l=>?_))
   .refine G0 7 Z (Is 66 d Z (λy d=>?_) (λy d=>?_))
    .exact Gl 16 Z d [0]
    .refine Go 7 Z (Is 73 d Z (λB d=>?_) (λB d=>?_))
     .exact Gl 9 Z d [0]
     .refine Go 2 Z (Bd d λai E d=>?_);refine Qi [] (QcT call227 Z Z Z Z (λ_ _=>by kernel_rfl)) (k_q _ _ _ E) ?_ (hg:=(gT Z));rintro _ _ ⟨rfl,rfl⟩;exact Fg 2 Z Z (Cd [0,1] d (k_h _ _ _ _) Z λaj ae d=>FE Z (Gl 3 Z d [0]))
   refine Gx 1 Z (Qm l (Cn Z a (λF a=>?_) (λF a=>?_)))
   .refine Gc 8 Z (Qw a ?_);obtain rfl:=Oj k a;exact Gx 1 Z (Qu (Gx 1 Z (Rt h 6 [0])))
   exact Gc 7 Z (Qo a (Lr [0]))
  .have a:=YL hE92 a;refine Qq (QA (s:=8) (a':=.iface 320 (.agg (Y6.c ({Cond:=t.Cond:Y6})))) Z (congrArg Y9.val hE92)) ?_;refine Qq (QA (s:=24) (a':=.iface 320 (.agg (Y6.c ({Cond:=t.Cond:Y6})))) Z (congrArg Y9.val hE92)) ?_;refine Qq (QA (s:=25) (a':=.iface 320 (.agg (Y6.c ({Cond:=t.Cond:Y6})))) Z (congrArg Y9.val hE92)) ?_;refine vX (.tup [.agg (Y6.c ({Cond:=t.Cond:Y6})),.bool true]) (QaV EF (by intro m;nofun)) ?_;refine Go 24 Z (Bd a λi e a=>Cg i [0] [0,2,19,20,21] (λi=>[(81,.bool i.2)]) (λi=>[(0,.cells 300 (Y7.c i.1))]) Zf ?_ ?_)
   .refine G0 7 Z (Is 66 e Z (λG e=>?_) (λG e=>?_))
    .exact Gl 16 Z e [0]
    .refine Go 7 Z (Is 73 e Z (λJ e=>?_) (λJ e=>?_))
     .exact Gl 9 Z e [0]
     .refine Go 2 Z (Bd e λak L e=>?_);refine Qi [] (QcT call226 Z Z Z Z (λ_ _=>by kernel_rfl)) (k_o _ _ _ L) ?_ (hg:=(gT Z));rintro _ _ ⟨rfl,rfl⟩;exact Fg 2 Z Z (Cd [0,2] e (k_h _ _ _ _) Z λal af e=>FE Z (Gl 3 Z e [0]))
   refine Cn Z a (λM a=>?_) (λM a=>?_)
   .refine Gc 8 Z (Qw a ?_);obtain rfl:=Oj k a;exact Gx 1 Z (Qu (Gx 1 Z (Rt h 6 [0])))
   exact Gc 7 Z (Qo a (Lr [0]))
 subst ab;exact QP 6 Z h 6 [0]
def F_dh(rec99:(List Y9)->Option Bool)(n:Nat)(a:Y6):Option Bool:=((bif (a.Cond.Var==0)then some (a.Cond.N==0)else some false):Option Bool).bind λe=>(bif (a.Cond.Kind==1)then((F_a n 1 3 [a.Cond.Var]).bind λf=>(bif f then(F_a n 0 10000 [a.Cond.N]).bind λg=>(bif g then some ((a.Cond.Parts.length:Int)==0)else some false)else some false):Option Bool).bind λh=>some h else((bif (a.Cond.Kind==4)then(bif e then some (.cont ((a.Cond.Parts.length:Int)==1))else some (.cont false))else((bif (a.Cond.Kind==2)then some (a.Cond.Kind==2)else some (a.Cond.Kind==3)):Option Bool).bind λi=>(bif i then(bif e then(bif decide (0<(a.Cond.Parts.length:Int))then some (.cont (decide ((a.Cond.Parts.length:Int)<=16)))else some (.cont false))else some (.cont false))else some (.done false))):Option (Ctl Bool Bool)).bind λj=>match j with|.cont d=>(((bif d then(F_o n ({Cond:=a.Cond:Y6})).bind λk=>(rec99 k).bind λl=>some (!l)else some false):Option Bool).bind λm=>some m)|.done d=>some d)
theorem k_dh(rec99:(List Y9)->Option Bool)(j:∀(g:List Y9) (r:Bool),rec99 g=some r->Csm prog 204 [.rsl 1 (map Y9.enc g),.fn (.func 205) [] []] [] (λr=>.bool r) r)(n:Nat)(g:Y6):Ks (F_dh rec99 n g) 221 [.iface 320 (.agg (Y6.c ({Cond:=g.Cond:Y6})))] [] (λr=>.bool r):=by
 refine Kg 14 func221 Z Z Z Z λr h=>?_;refine vX (.tup [.agg (Y6.c ({Cond:=g.Cond:Y6})),.bool true]) (QaV EF (by intro m;nofun)) ?_;refine Go 12 Z (Bd h λt k h=>Ct t [0] [3] (λt=>[(4,.bool t)]) Ze Zf ?_ (λenv H f=>?_))
 .refine G0 6 Z (Is 15 k Z (λJ k=>?_) (λJ k=>?_))
  iterate 2 exact Gl 7 Z k [0]
 refine Gx 1 Z (Qm f (Gc 15 Z (Cn Z h (λL h=>?_) (λL h=>?_))))
 .refine Gc 1 Z (Bd h λl d h=>Ct l [] [] (λl=>[(2,.bool l)]) Ze Zf ?_ (λenv H f=>?_))
  .refine G0 4 Z (vH (Ej (xs:=[.tmp 28]) (es:=map (Qd .i64) [g.Cond.Var]) QO Z Z Z Z Z ⟨Z,trivial⟩ Z Z) ?_);refine FE Z (Cb d (k_a _ _ _ _) Z (ls (ls (lo ln))) λT O d=>Go 1 Z (Is 31 d Z (λu d=>?_) (λu d=>?_)))
   .refine Go 3 Z (vH (Ej (xs:=[.tmp 34]) (es:=map (Qd .i64) [g.Cond.N]) QO Z Z Z Z Z ⟨Z,trivial⟩ Z Z) ?_ (gT Z));refine FE Z (Cb d (k_a _ _ _ _) Z (ls (ls (lo ln))) λV P d=>Go 2 Z (Is 38 d Z (λw d=>?_) (λw d=>?_)))
    .exact Go 3 Z (Lm Z (Gl 4 Z d []))
    .exact Gl 8 Z d []
   .exact Gl 15 Z d []
  exact Gx 1 Z (Qm f (QP 5 Z h 2 []))
 refine Gc 6 Z (Bd h λM a h=>CtE (b:=M) [0] [3] (λp=>[(4,.bool p)]) Ze Zf ?_ (λp env H hb f=>?_))
 .refine G0 0 Z (Cn Z a (λx a=>?_) (λx a=>?_))
  .refine Gc 3 Z (Is 48 a Z (λy a=>?_) (λy a=>?_))
   .refine Go 3 Z (Lg 4 Z Z ?_);cases a;exact YV Z (Lr [0])
   .refine Go 8 Z ?_;cases a;exact YV Z (Lr [0])
  refine Gc 7 Z (Bd a λq i a=>Ct q [0] [3,4] (λq=>[(55,.bool q)]) Ze Zf ?_ (λenv H f=>?_))
  .refine G0 0 Z (Cn Z i (λz i=>?_) (λz i=>?_))
   .exact Gcl 1 Z i [0]
   exact Gcl 4 Z i [0]
  refine Gx 1 Z (Qm f (Yn Z a (λB a=>?_) (λB a=>?_)))
  .refine Gc 6 Z ?_;cases a;exact Qu (Gx 4 Z (Rt h 2 []))
  refine Gc 3 Z (Is 59 a Z (λE a=>?_) (λE a=>?_))
  .refine Go 3 Z (Lg 3 Z Z (Is 66 a Z (λF a=>?_) (λF a=>?_)))
   .refine Go 3 Z (Lg 4 Z Z ?_);cases a;exact YV Z (Lr [0])
   .refine Go 8 Z ?_;cases a;exact YV Z (Lr [0])
  .refine Go 15 Z ?_;cases a;exact YV Z (Lr [0])
 subst hb;refine Gx 2 Z (Qm f (Gc 1 Z (Bd h λs e h=>Cg s [] [] (λs=>[(2,.bool s)]) Ze Zf ?_ ?_)))
 .refine G0 3 Z (Is 74 e Z (λG e=>?_) (λG e=>?_))
  .exact Go 1 Z (Cd [] e (k_o _ _) Z λW Q e=>FE Z (Cb e (j _) Z (lo (ls ln)) λX R e=>Gl 4 Z e []))
  .exact Gl 7 Z e []
 exact QP 3 Z h 2 []
def F_ed(rec99:(List Y9)->Option Bool)(n:Nat)(z:Y9):Option Bool:=Y9.elim z (λd=>(bif (d.Step.Kind==1)then((F_a n 1 5 [d.Step.By]).bind λg=>(bif g then(F_ad n ({Cond:=d.Step.Cond:Y6})).bind λh=>(bif h then(F_q n d).bind λi=>some ((i.length:Int)==0)else some false)else some false):Option Bool).bind λj=>some j else(bif (d.Step.Kind==2)then((bif (d.Step.By==0)then(F_dh rec99 n ({Cond:=d.Step.Cond:Y6})).bind λk=>(bif k then(bif decide (0<(d.Step.Then.length:Int))then(F_q n d).bind λl=>(rec99 l).bind λm=>some (!m)else some false)else some false)else some false):Option Bool).bind λp=>some p else some false))) (λa=>((bif (a.Cond.Var==0)then some (a.Cond.N==0)else some false):Option Bool).bind λf=>(bif (a.Cond.Kind==1)then((F_a n 1 3 [a.Cond.Var]).bind λq=>(bif q then(F_a n 0 10000 [a.Cond.N]).bind λr=>(bif r then some ((a.Cond.Parts.length:Int)==0)else some false)else some false):Option Bool).bind λs=>some s else((bif (a.Cond.Kind==4)then(bif f then some (.cont ((a.Cond.Parts.length:Int)==1))else some (.cont false))else((bif (a.Cond.Kind==2)then some (a.Cond.Kind==2)else some (a.Cond.Kind==3)):Option Bool).bind λt=>(bif t then(bif f then(bif decide (0<(a.Cond.Parts.length:Int))then some (.cont (decide ((a.Cond.Parts.length:Int)<=16)))else some (.cont false))else some (.cont false))else some (.done false))):Option (Ctl Bool Bool)).bind λu=>match u with|.cont e=>(((bif e then(F_o n ({Cond:=a.Cond:Y6})).bind λw=>(rec99 w).bind λx=>some (!x)else some false):Option Bool).bind λy=>some y)|.done e=>some e))
theorem k_ed(rec99:(List Y9)->Option Bool)(j:∀(p:List Y9) (r:Bool),rec99 p=some r->Csm prog 204 [.rsl 1 (map Y9.enc p),.fn (.func 205) [] []] [] (λr=>.bool r) r)(n:Nat)(p:Y9):Ks (F_ed rec99 n p) 221 [Y9.val p] [] (λr=>.bool r):=by
 refine Kg 14 func221 Z Z Z Z λr h=>?_;rcases YR p with⟨q,hE2⟩|⟨t,hE4⟩
 .have h:=YM hE2 h;refine Qq (QA (s:=0) (a':=.iface 307 (.agg (Ub.c q))) Z (congrArg Y9.val hE2)) ?_;refine Qq (QA (s:=7) (a':=.iface 307 (.agg (Ub.c q))) Z (congrArg Y9.val hE2)) ?_;refine vX (.tup [.agg [I 0,I 0,I 0,.rsl 4 (map Cond.enc [])],.bool false]) (Qez (z:=(.agg [I 0,I 0,I 0,.rsl 4 (map Cond.enc [])])) EF (by intro m;nofun) Z Gi (zrC Z)) ?_;refine Go 7 Z ?_;refine vX (.tup [.agg (Ub.c q),.bool true]) (QaV E4 (by intro m;nofun)) ?_;refine Go 35 Z (Cn Z h (λae h=>?_) (λae h=>?_))
  .refine Gc 1 Z (Bd h λu e h=>Ct u [] [] (λu=>[(2,.bool u)]) Ze Zf ?_ (λenv H g=>?_))
   .refine G0 4 Z (vH (Ej (xs:=[.tmp 94]) (es:=map (Qd .i64) [q.Step.By]) QO Z Z Z Z Z ⟨Z,trivial⟩ Z Z) ?_);refine FE Z (Cb e (k_a _ _ _ _) Z (ls (ls (lo ln))) λar ag e=>Go 1 Z (Is 97 e Z (λG e=>?_) (λG e=>?_)))
    .refine Go 1 Z (Cz [] e (k_ad _ _) Z λau ah e=>Go 2 Z (Is 101 e Z (λJ e=>?_) (λJ e=>?_)))
     .exact Go 1 Z (Cd [] e (k_q _ _) Z λav ai e=>FE Z (Gl 5 Z e []))
     .exact Gl 7 Z e []
    .exact Gl 11 Z e []
   exact Gx 1 Z (Qm g (QP 4 Z h 2 []))
  refine Gc 6 Z (Cn Z h (λL h=>?_) (λL h=>?_))
  .refine Gc 1 Z (Bd h λw d h=>Ct w [] [] (λw=>[(2,.bool w)]) Ze Zf ?_ (λenv H g=>?_))
   .refine G0 6 Z (Is 113 d Z (λM d=>?_) (λM d=>?_))
    .refine Go 1 Z ?_;refine vX (.iface 320 (.agg (Y6.c ({Cond:=q.Step.Cond:Y6})))) (Qak Z EF (by intro m;nofun) Z) ?_ (gT Z);refine Cz [] d (k_dh rec99 j _ _) Z λaw aj d=>Go 2 Z (Is 118 d Z (λO d=>?_) (λO d=>?_))
     .refine Go 3 Z (Lg 3 Z Z (Is 125 d Z (λP d=>?_) (λP d=>?_)))
      .exact Go 1 Z (Cd [] d (k_q _ _) Z λax ak d=>FE Z (Cb d (j _) Z (lo (ls ln)) λay al d=>Gl 4 Z d []))
      .exact Gl 7 Z d []
     .exact Gl 14 Z d []
    .exact Gl 19 Z d []
   exact Gx 1 Z (Qm g (QP 4 Z h 2 []))
  exact QP 10 Z h 2 []
 .have h:=YL hE4 h;refine Qq (QA (s:=0) (a':=.iface 320 (.agg (Y6.c ({Cond:=t.Cond:Y6})))) Z (congrArg Y9.val hE4)) ?_;refine Qq (QA (s:=7) (a':=.iface 320 (.agg (Y6.c ({Cond:=t.Cond:Y6})))) Z (congrArg Y9.val hE4)) ?_;refine vX (.tup [.agg (Y6.c ({Cond:=t.Cond:Y6})),.bool true]) (QaV EF (by intro m;nofun)) ?_;refine Go 12 Z (Bd h λx k h=>Ct x [0] [3] (λx=>[(4,.bool x)]) Ze Zf ?_ (λenv H g=>?_))
  .refine G0 6 Z (Is 15 k Z (λQ k=>?_) (λQ k=>?_))
   iterate 2 exact Gl 7 Z k [0]
  refine Gx 1 Z (Qm g (Gc 15 Z (Cn Z h (λR h=>?_) (λR h=>?_))))
  .refine Gc 1 Z (Bd h λy f h=>Ct y [] [] (λy=>[(2,.bool y)]) Ze Zf ?_ (λenv H g=>?_))
   .refine G0 4 Z (vH (Ej (xs:=[.tmp 28]) (es:=map (Qd .i64) [t.Cond.Var]) QO Z Z Z Z Z ⟨Z,trivial⟩ Z Z) ?_);refine FE Z (Cb f (k_a _ _ _ _) Z (ls (ls (lo ln))) λaz am f=>Go 1 Z (Is 31 f Z (λT f=>?_) (λT f=>?_)))
    .refine Go 3 Z (vH (Ej (xs:=[.tmp 34]) (es:=map (Qd .i64) [t.Cond.N]) QO Z Z Z Z Z ⟨Z,trivial⟩ Z Z) ?_ (gT Z));refine FE Z (Cb f (k_a _ _ _ _) Z (ls (ls (lo ln))) λba an f=>Go 2 Z (Is 38 f Z (λV f=>?_) (λV f=>?_)))
     .exact Go 3 Z (Lm Z (Gl 4 Z f []))
     .exact Gl 8 Z f []
    .exact Gl 15 Z f []
   exact Gx 1 Z (Qm g (QP 5 Z h 2 []))
  refine Gc 6 Z (Bd h λaf a h=>CtE (b:=af) [0] [3] (λB=>[(4,.bool B)]) Ze Zf ?_ (λB env H hb g=>?_))
  .refine G0 0 Z (Cn Z a (λW a=>?_) (λW a=>?_))
   .refine Gc 3 Z (Is 48 a Z (λX a=>?_) (λX a=>?_))
    .refine Go 3 Z (Lg 4 Z Z ?_);cases a;exact YV Z (Lr [0])
    .refine Go 8 Z ?_;cases a;exact YV Z (Lr [0])
   refine Gc 7 Z (Bd a λE l a=>Ct E [0] [3,4] (λE=>[(55,.bool E)]) Ze Zf ?_ (λenv H g=>?_))
   .refine G0 0 Z (Cn Z l (λY l=>?_) (λY l=>?_))
    .exact Gcl 1 Z l [0]
    exact Gcl 4 Z l [0]
   refine Gx 1 Z (Qm g (Yn Z a (λaa a=>?_) (λaa a=>?_)))
   .refine Gc 6 Z ?_;cases a;exact Qu (Gx 4 Z (Rt h 2 []))
   refine Gc 3 Z (Is 59 a Z (λab a=>?_) (λab a=>?_))
   .refine Go 3 Z (Lg 3 Z Z (Is 66 a Z (λac a=>?_) (λac a=>?_)))
    .refine Go 3 Z (Lg 4 Z Z ?_);cases a;exact YV Z (Lr [0])
    .refine Go 8 Z ?_;cases a;exact YV Z (Lr [0])
   .refine Go 15 Z ?_;cases a;exact YV Z (Lr [0])
  subst hb;refine Gx 2 Z (Qm g (Gc 1 Z (Bd h λF i h=>Cg F [] [] (λF=>[(2,.bool F)]) Ze Zf ?_ ?_)))
  .refine G0 3 Z (Is 74 i Z (λad i=>?_) (λad i=>?_))
   .exact Go 1 Z (Cd [] i (k_o _ _) Z λbb ao i=>FE Z (Cb i (j _) Z (lo (ls ln)) λbc aq i=>Gl 4 Z i []))
   .exact Gl 7 Z i []
  exact QP 3 Z h 2 []
def F_di(rec99:(List Y9)->Option Bool)(n:Nat)(a:Y9):Option Bool:=(F_ed rec99 n a).bind λd=>some (!d)
theorem k_di(rec99:(List Y9)->Option Bool)(a:∀(d:List Y9) (r:Bool),rec99 d=some r->Csm prog 204 [.rsl 1 (map Y9.enc d),.fn (.func 205) [] []] [] (λr=>.bool r) r)(n:Nat)(d:Y9):Ks (F_di rec99 n d) 205 [Y9.val d] [] (λr=>.bool r):=by
 exact Kg 8 func205 Z Z Z Z λr h=>Bd h λf e h=>Pc [] Z (OpC.fn call221 Z Z Z) (k_ed rec99 a _ _ _ e) (hargs:=by first|exact Z|exact Eq.trans (by exact Z) (Qad _ (by simp[Yi,Yc,Y9.data])).symm) Z (Gt 5 Z h 2 [])
def F_hq(n:Nat)(d:List Y9)(rec99:(List Y9)->Option Bool)(a:Int):Option (Ctl Int (Ctl Unit Int)):=(bif decide (a<(d.length:Int))then(idx d a).bind λe=>(F_di rec99 n e).bind λf=>(bif f then some (.done (.done a))else some (.cont (i64.wrap (a+1))))else some (.done (.cont ())))
def F_er(rec99:(List Y9)->Option Bool)(n:Nat)(e:List Y9):Option Int:=(iter (F_hq n e rec99) n 0:Option (Ctl Unit Int)).bind λd=>match d with|.cont a=>(some (-1))|.done a=>some a
theorem k_er(rec99:(List Y9)->Option Bool)(d:∀(e:List Y9) (r:Bool),rec99 e=some r->Csm prog 204 [.rsl 1 (map Y9.enc e),.fn (.func 205) [] []] [] (λr=>.bool r) r)(n:Nat)(e:List Y9):Ks (F_er rec99 n e) 220 [.rsl 1 (map Y9.enc e),.fn (.func 205) [] []] [] (λr=>I r):=by
 refine Kg 9 func220 Z Z Z Z λr h=>Lg 3 Z Z (Bd h λm p h=>CgE (b:=m) [] [] Ze Ze Zf ?_ (λs q=>?_))
 .refine G0 1 Z (Lp [] [0,1,7] (λg=>[(8,I g)]) Ze p Zf (Lr []) λg t a f=>?_);refine G0 6 Z (Yn Z a (λi a=>?_) (λi a=>?_))
  .exact Gc 2 Z (Qp a (Gx 1 Z (cNo f a Z (Lr []))))
  refine Gc 15 Z (Bd a λu j a=>Iz j Z (Go 1 Z (Bd a λw k a=>Pc [] Z (YW call205 Z Z Z Z) (k_di rec99 d _ _ _ k) (hargs:=by first|exact Z|exact Eq.trans (by exact Z) (Qad _ (by simp[Yi,Yc,Y9.data])).symm) Z (Go 2 Z (Cn Z a (λl a=>?_) (λl a=>?_))))))
  .refine Gc 9 Z (Qw a ?_);obtain rfl:=Oj f a;exact Gx 1 Z (Qu (Gx 1 Z (Rt h 4 [])))
  exact Gc 7 Z (Qo a (Lr []))
 subst q;exact QP 6 Z h 4 []
def B_af(rec99:(List Y9)->Option Bool)(n:Nat)(a:List Y9):Option Bool:=(F_er rec99 n a).bind λd=>some (decide (0<=d))
theorem Qar(rec99:(List Y9)->Option Bool)(a:∀(d:List Y9) (r:Bool),rec99 d=some r->Csm prog 204 [.rsl 1 (map Y9.enc d),.fn (.func 205) [] []] [] (λr=>.bool r) r)(n:Nat)(d:List Y9)(r:Bool)(h:B_af rec99 n d=some r):Csm prog 204 [.rsl 1 (map Y9.enc d),.fn (.func 205) [] []] [] (λr=>.bool r) r:=by
 refine YH func204 Z Z Z ?_;exact G0 9 Z (Cz [] h (k_er rec99 a _ _) Z λf e h=>Gt 5 Z h 4 [])
def F_af:Nat->(List Y9)->Option Bool
  |0=>λ_=>none
  |n+1=>B_af (F_af n) n
theorem k_af(n:Nat):∀(a:List Y9) (r:Bool),F_af n a=some r->Csm prog 204 [.rsl 1 (map Y9.enc a),.fn (.func 205) [] []] [] (λr=>.bool r) r:=by
  induction n with
  |zero=>intro a r h;cases h
  |succ n ih=>intro a r h;exact Qar _ ih n a r h
def F_cx(n:Nat)(a:List Y9):Option Int:=(F_fn n a 0 ({steps:=0,conds:=0:Y7})).bind λd=>(bif (!d.2)then some 2 else((bif ((a.length:Int)==0)then some true else(F_af n a).bind λe=>some e):Option Bool).bind λf=>(bif f then some 71 else some 0))
theorem k_cx(n:Nat)(e:List Y9):Ks (F_cx n e) 170 [.rsl 1 (map Y9.enc e)] [] (λr=>I r):=by
 refine Kg 17 func170 Z Z Z Z λr h=>Cd [0] h (k_fn _ _ _ _) Z λl j h=>Fg 3 Z Z (Cn Z h (λf h=>?_) (λf h=>?_))
 .exact QP 7 Z h 2 []
 refine Gc 4 Z (Bd h λd a h=>Cg d [] [] (λd=>[(16,.bool d)]) Ze Zf ?_ ?_)
 .refine G0 2 Z (Lg 2 Z Z (Is 13 a Z (λg a=>?_) (λg a=>?_)))
  .exact Gl 4 Z a []
  .exact Go 1 Z (Cz [] a (k_af _ _) Z λm k a=>Gl 2 Z a [])
 refine Cn Z h (λi h=>?_) (λi h=>?_)
 .exact QP 7 Z h 2 []
 exact QP 8 Z h 2 []
def F_cz(n:Nat)(a:List Step):Option Int:=(F_ab n a).bind λd=>(F_cx n d).bind λe=>some e
theorem k_cz(n:Nat)(a:List Step):Ks (F_cz n a) 111 [.rsl 8 (map Step.enc a)] [] (λr=>I r):=by
 exact Kg 8 func111 Z Z Z Z λr h=>Cd [] h (k_ab _ _) Z λf d h=>FE Z (Cb h (k_cx _ _) Z (lo ln) λg e h=>Gt 4 Z h 2 [])
def F_jt(n:Nat)(d:Part)(e:List Int)(a:(List Int)×Int):Option (Ctl ((List Int)×Int) (Ctl (List Int) (Ctl ((List Int)×Int) (Ctl (List Int) (List Int))))):=(bif decide (a.2<(if d.Laps<1 then 1 else d.Laps))then(bif decide (256<(a.1.length:Int))then some (.done (.done (.done (.done a.1))))else(app a.1 e).bind λf=>some (.cont (f,i64.wrap (a.2+1))))else some (.done (.cont a.1)))
def F_jo(n:Nat)(f:List Part)(rec118:(List Part)->Option (List Int))(a:(List Int)×Int):Option (Ctl ((List Int)×Int) (Ctl (List Int) (List Int))):=(bif decide (a.2<(f.length:Int))then(idx f a.2).bind λe=>((bif decide (0<e.Laps)then(rec118 e.Parts).bind λg=>some g else some [e.Mat]):Option (List Int)).bind λh=>(iter (F_jt n e h) n (a.1,0):Option (Ctl (List Int) (Ctl ((List Int)×Int) (Ctl (List Int) (List Int))))).bind λi=>match i with|.cont d=>(some (.cont (d,i64.wrap (a.2+1))))|.done d=>some d else some (.done (.cont a.1)))
def B_ae(rec118:(List Part)->Option (List Int))(n:Nat)(e:List Part):Option (List Int):=(iter (F_jo n e rec118) n ([],0):Option (Ctl (List Int) (List Int))).bind λd=>match d with|.cont a=>(some a)|.done a=>some a
theorem QbT(rec118:(List Part)->Option (List Int))(u:∀(w:List Part) (r:List Int),rec118 w=some r->C prog 174 [.rsl 3 (map Part.enc w)] [] (RQ (λr=>.osl 0 0 r.length 1) (λr=>[.row 3 1 (map (Qd .i64) r)]) r))(n:Nat)(w:List Part)(r:List Int)(h:B_ae rec118 n w=some r):C prog 174 [.rsl 3 (map Part.enc w)] [] (RQ (λr=>.osl 0 0 r.length 1) (λr=>[.row 3 1 (map (Qd .i64) r)]) r):=by
 refine YH func174 Z Z Z ?_;refine G0 9 Z (Lg 3 Z Z (Bd h λN O h=>CgE (b:=N) [0] [] (λg=>[(2,.osl 0 0 g.length 1)]) (λg=>[(0,.row 3 1 (map (Qd .i64) g))]) Zf ?_ (λg x=>?_)))
 .refine G0 1 Z (Lp [0] [6,7] (λl=>[(2,.osl 0 0 l.1.length 1),(8,I l.2)]) (λl=>[(0,.row 3 1 (map (Qd .i64) l.1))]) O Zf ?_ ?_)
  .refine El (Eo (s:=2) (k:=1) (t:=3) (XL Z) Z) ?_;exact Lr [0]
  intro l T a y;refine G0 6 Z (Yn Z a (λE a=>?_) (λE a=>?_))
  .exact Gc 2 Z (Qp a (Gx 1 Z (cNo y a Z (Lr [0]))))
  refine Gc 6 Z (Bd a λq F a=>IzE F (QaC q) Z (Go 9 Z (vH (Ej (xs:=[.tmp 13]) (es:=map (Qd .i64) [q.Mat]) QO Z Z Z Z Z ⟨Z,trivial⟩ Z Z) ?_)));refine Fg 11 Z Z (Bd a λm f a=>Ct m [0,1,0] [2,4,6,7,8] (λm=>[(5,.osl 2 0 m.length 1)]) (λm=>[(2,.row 3 1 (map (Qd .i64) m))]) Zf ?_ (λenv H z=>?_))
  .refine G0 0 Z (Cn Z f (λG f=>?_) (λG f=>?_))
   .exact Gc 3 Z (Cd [] f (u _) Z λV R f=>FE Z (Gl 2 Z f [0,1,3]))
   exact Gcl 1 Z f [0,1,2]
  refine Gx 1 Z (Qm z (Gc 4 Z ?_));refine vX (I (if q.Laps<1 then 1 else q.Laps)) (OpV.max Z Z Z Z) ?_;refine Go 3 Z (Bd a λP Q a=>CtE (b:=P) [0] [6,7,8] (λj=>[(2,.osl 0 0 j.length 1)]) (λj=>[(0,.row 3 1 (map (Qd .i64) j))]) Zf ?_ (λj env H x z=>?_))
  .refine G0 1 Z (Lp [0,2] [5,6,7,8,23] (λp=>[(2,.osl 0 0 p.1.length 1),(24,I p.2)]) (λp=>[(0,.row 3 1 (map (Qd .i64) p.1))]) Q Zf (Lr [0,2]) λp W d B=>?_);refine G0 6 Z (Yn Z d (λJ d=>?_) (λJ d=>?_))
   .exact Gc 2 Z (Qp d (Gx 1 Z (cNo B d Z (Lr [0]))))
   refine Gc 12 Z (Cn Z d (λL d=>?_) (λL d=>?_))
   .refine Gc 10 Z (Qw d ?_);obtain rfl:=Oj B d;refine Gx 1 Z (Qu (Gx 2 Z (Qw a ?_)));obtain rfl:=Oj y a;exact Gx 1 Z (Qu (Gx 1 Z (Rt h 2 [0])))
   refine Gc 5 Z (Bd d λX M d=>vH (Yx (e:=(Qd .i64)) M QO Et (Qbi (i:=1))) ?_);exact Fg 8 Z Z (Qo d (Lr [2,1]))
  subst x;exact Gx 2 Z (Qm z (Gc 4 Z (Qo a (Lr [0]))))
 subst x;exact QP 7 Z h 2 [0]
def F_ae:Nat->(List Part)->Option (List Int)
  |0=>λ_=>none
  |n+1=>B_ae (F_ae n) n
theorem k_ae(n:Nat):∀(a:List Part) (r:List Int),F_ae n a=some r->C prog 174 [.rsl 3 (map Part.enc a)] [] (RQ (λr=>.osl 0 0 r.length 1) (λr=>[.row 3 1 (map (Qd .i64) r)]) r):=by
  induction n with
  |zero=>intro a r h;cases h
  |succ n ih=>intro a r h;exact QbT _ ih n a r h
def F_gi(n:Nat)(a:Cutoff)(d:List (Int×Int)):Option Bool:=(some (Ya d a.Mat 0)).bind λe=>some (decide (a.Lap<=e))
theorem k_gi(n:Nat)(a:Cutoff)(d:List (Int×Int)):Ks (F_gi n a d) 175 [.agg (Cutoff.c a),.ptr 0 0] [.cells 144 [.map 1],.map (Qh (λx=>A.int .i64 x) (λx=>A.int .i64 x) d)] (λr=>.bool r):=by
 refine Kg 11 func175 Z Z Z Z λr h=>Bd h λf e h=>?_;refine vX (I f) (QL (ev:=(λx=>A.int .i64 x)) (z0:=0) (k:=a.Mat) (l:=d) Yb e Ex EG Em) ?_;exact Gt 7 Z h 3 [0,1]
def F_go(n:Nat)(a:Cutoff)(d:List (Int×Int)):Option Bool:=(F_gi n a d).bind λe=>some (!e)
theorem k_go(n:Nat)(a:Cutoff)(d:List (Int×Int)):Ks (F_go n a d) 190 [.agg (Cutoff.c a),.ptr 0 0] [.cells 264 [.fn (.func 175) [] [.ptr 1 0]],.cells 144 [.map 2],.map (Qh (λx=>A.int .i64 x) (λx=>A.int .i64 x) d)] (λr=>.bool r):=by
 exact Kg 10 func190 Z Z Z Z λr h=>Cz [1,2] h (k_gi _ _ _) Z λf e h=>Gt 5 Z h 3 [0,1,2]
def F_jz(n:Nat)(d:List Cutoff)(g:List (Int×Int))(a:Int):Option (Ctl Int (Ctl Unit Int)):=(bif decide (a<(d.length:Int))then(idx d a).bind λe=>(F_go n e g).bind λf=>(bif f then some (.done (.done a))else some (.cont (i64.wrap (a+1))))else some (.done (.cont ())))
def F_gq(n:Nat)(e:List Cutoff)(f:List (Int×Int)):Option Int:=(iter (F_jz n e f) n 0:Option (Ctl Unit Int)).bind λd=>match d with|.cont a=>(some (-1))|.done a=>some a
theorem k_gq(n:Nat)(j:List Cutoff)(k:List (Int×Int)):Ks (F_gq n j k) 213 [.rsl 3 (map Cutoff.c j),.fn (.func 190) [] [.ptr 0 0]] [.cells 264 [.fn (.func 175) [] [.ptr 1 0]],.cells 144 [.map 2],.map (Qh (λx=>A.int .i64 x) (λx=>A.int .i64 x) k)] (λr=>I r):=by
 refine Kg 9 func213 Z Z Z Z λr h=>Lg 3 Z Z (Bd h λl m h=>CgE (b:=l) [0,1,2] [] Ze Ze Zf ?_ (λq p=>?_))
 .refine G0 1 Z (Lp [0,1,2] [0,1,7] (λe=>[(8,I e)]) Ze m Zf (Lr [0,1,2]) λe t a d=>?_);refine G0 6 Z (Yn Z a (λf a=>?_) (λf a=>?_))
  .exact Gc 2 Z (Qp a (Gx 1 Z (cNo d a Z (Lr [0,1,2]))))
  refine Gc 15 Z (Bd a λu g a=>Iz g Z (Go 1 Z (Cz [0,1,2] a (k_go _ _ _) Z λw s a=>Go 2 Z (Cn Z a (λi a=>?_) (λi a=>?_)))))
  .refine Gc 9 Z (Qw a ?_);obtain rfl:=Oj d a;exact Gx 1 Z (Qu (Gx 1 Z (Rt h 4 [0,1,2])))
  exact Gc 7 Z (Qo a (Lr [0,1,2]))
 subst p;exact QP 6 Z h 4 [0,1,2]
def F_cs(n:Nat)(a:List Cutoff)(d:List (Int×Int)):Option Bool:=(F_gq n a d).bind λe=>some (decide (0<=e))
theorem k_cs(n:Nat)(a:List Cutoff)(d:List (Int×Int)):Ks (F_cs n a d) 189 [.rsl 3 (map Cutoff.c a),.fn (.func 190) [] [.ptr 0 0]] [.cells 264 [.fn (.func 175) [] [.ptr 1 0]],.cells 144 [.map 2],.map (Qh (λx=>A.int .i64 x) (λx=>A.int .i64 x) d)] (λr=>.bool r):=by
 exact Kg 9 func189 Z Z Z Z λr h=>Cz [0,1,2] h (k_gq _ _ _) Z λf e h=>Gt 5 Z h 4 [0,1,2]
def F_eq(n:Nat)(a:List Cutoff)(d:List (Int×Int)):Option Bool:=(F_cs n a d).bind λe=>some (!e)
theorem k_eq(n:Nat)(a:List Cutoff)(d:List (Int×Int)):Ks (F_eq n a d) 153 [.rsl 3 (map Cutoff.c a),.fn (.func 175) [] [.ptr 0 0]] [.cells 144 [.map 1],.map (Qh (λx=>A.int .i64 x) (λx=>A.int .i64 x) d)] (λr=>.bool r):=by
 exact Kg 10 func153 Z Z Z Z λr h=>Cz [2,0,1] h (k_cs _ _ _) Z λf e h=>Gt 5 Z h 4 [0,1]
def F_id(n:Nat)(l:Course)(m:List (Y8×Bool))(e:List Int)(a:(List (Int×Int))×Int):Option (Ctl ((List (Int×Int))×Int) (Ctl (List (Int×Int)) Bool)):=(bif decide (a.2<(e.length:Int))then(idx e a.2).bind λd=>(idx l.Mats d).bind λf=>((bif ((f.Kind==1) != (a.2==0))then some true else(bif ((f.Kind==3) != (a.2==(i64.wrap ((e.length:Int)-1))))then some true else(bif decide (0<a.2)then(idx e (i64.wrap (a.2-1))).bind λg=>(some (Ya m ({from_:=g,to_:=d:Y8}) false)).bind λh=>some (!h)else some false))):Option Bool).bind λi=>(bif i then some (.done (.done false))else(some (Ya a.1 d 0)).bind λj=>(some (Qae a.1 d (i64.wrap (j+1)))).bind λk=>some (.cont (k,i64.wrap (a.2+1))))else some (.done (.cont a.1)))
def F_dn(n:Nat)(f:Course)(d:Distance)(g:List (Y8×Bool)):Option Bool:=(F_ae n d.Route).bind λe=>((bif decide ((i64.wrap ((e.length:Int)-1))<1)then some true else some (decide (256<=(i64.wrap ((e.length:Int)-1))))):Option Bool).bind λp=>(bif p then some false else(iter (F_id n f g e) n ([],0):Option (Ctl (List (Int×Int)) Bool)).bind λh=>match h with|.cont a=>(((bif decide (0<=d.Extra)then(some (Ya a d.Extra 0)).bind λi=>(bif (i==0)then some true else(idx f.Mats d.Extra).bind λj=>(bif (j.Kind != 2)then some true else(some (Ya g ({from_:=d.Extra,to_:=d.Extra:Y8}) false)).bind λk=>some (!k)))else some false):Option Bool).bind λl=>(bif l then some false else(F_eq n d.Cutoffs a).bind λm=>some m))|.done a=>some a)
theorem k_dn(n:Nat)(a1:Course)(m:Distance)(y:List (Y8×Bool)):Ks (F_dn n a1 m y) 114 [.agg (Course.c a1),.agg (Distance.c m),.map 0] [.map (Qh (λx=>A.agg (Y8.c x)) A.bool y)] (λr=>.bool r):=by
 refine Kg 11 func114 Z Z Z Z λr h=>Cd [] h (k_ae _ _) Z λr1 al h=>Fg 13 Z Z (Bd h λF p h=>Ct F [0,1,2,3] [2,3,4,7,8] (λF=>[(25,.bool F)]) Ze Zf ?_ (λenv H g=>?_))
 .refine G0 4 Z (Is 22 p Z (λac p=>?_) (λac p=>?_))
  iterate 2 exact Gl 4 Z p [0,1,2,3]
 refine Gx 1 Z (Qm g (Cn Z h (λad h=>?_) (λad h=>?_)))
 .exact QP 7 Z h 6 [0]
 refine Gc 4 Z (vH QQ ?_);refine Fg 12 Z Z (Bd h λae af h=>CtE (b:=ae) [0,1,2,4,5] [2,3,4] (λ_=>[(9,.ptr 3 0)]) (λi=>[(3,.cells 144 [.map 4]),(4,.map (Qh (λx=>A.int .i64 x) (λx=>A.int .i64 x) i))]) Zf ?_ (λi env H ag g=>?_))
 .refine G0 1 Z (Lp [0,1,2,3,5,4] [2,3,4,7,8,9,27,28] (λf=>[(29,I f.2)]) (λf=>[(4,.cells 144 [.map 5]),(5,.map (Qh (λx=>A.int .i64 x) (λx=>A.int .i64 x) f.1))]) af Zf (Lr [0,1,2,3,5,4]) λf am a q=>?_);refine G0 6 Z (Yn Z a (λG a=>?_) (λG a=>?_))
  .exact Gc 2 Z (Qp a (Gx 1 Z (cNo q a Z (Lr [0,1,2,4,5]))))
  refine Gc 7 Z (Bd a λj s a=>?_);refine vX (.ptr 3 (toNat f.2*1)) (Q5 s Z Et Eu) ?_;refine vX (I j) (Er Z EI Z (Yj s)) ?_;refine Go 9 Z (Bd a λz J a=>Iz J Z (Go 7 Z (Bd a λt e a=>Ct t [0,1,2,3,4,5] [2,3,4,7,8,9,11,27,28,29] (λt=>[(68,.bool t)]) Ze Zf ?_ (λenv H g=>?_))))
  .refine G0 5 Z ?_;refine vX (.bool ((z.Kind==1) != (f.2==0))) (Qdx runUnderlying4) ?_;refine Go 1 Z (Is 45 e Z (λL e=>?_) (λL e=>?_))
   .exact Gl 24 Z e [0,1,2,3,4,5]
   .refine Go 5 Z ?_;refine vV (x:=(.bool ((z.Kind==3) != (f.2==(i64.wrap ((r1.length:Int)-1)))))) (Qdx runUnderlying4) ?_ (gT Z);refine Go 2 Z (Is 53 e Z (λM e=>?_) (λM e=>?_))
    .exact Gl 16 Z e [0,1,2,3,4,5]
    .refine Go 3 Z (Is 56 e Z (λN e=>?_) (λN e=>?_))
     .refine Go 4 Z (Bd e λB u e=>?_);refine vX (.ptr 3 (toNat (i64.wrap (f.2-1))*1)) (Q5 u Z Et Eu) ?_ (gT Z);refine vX (I B) (Er Z EI Z (Yj u)) ?_ (gT Z);refine Go 2 Z (Bd e λah O e=>?_);refine vX (.bool ah) (QL (ev:=A.bool) (z0:=false) (k:=({from_:=B,to_:=j:Y8})) (l:=y) QcP O EY EM ZR.bool) ?_ (gT Z);exact Gl 4 Z e [0,1,2,3,4,5]
     .exact Gl 13 Z e [0,1,2,3,4,5]
  refine Gx 1 Z (Qm g (Cn Z a (λP a=>?_) (λP a=>?_)))
  .refine Gc 9 Z (Qw a ?_);obtain rfl:=Oj q a;exact Gx 1 Z (Qu (Gx 1 Z (Rt h 6 [0])))
  refine Gc 5 Z (Bd a λE Q a=>?_);refine vX (I E) (QL (ev:=(λx=>A.int .i64 x)) (z0:=0) (k:=j) (l:=f.1) Yb Q Ex EG Em) ?_;refine Go 1 Z (Bd a λan R a=>?_);refine vU (QM (ev:=(λx=>A.int .i64 x)) (k:=j) (v:=(i64.wrap (E+1))) (l:=f.1) Yb R Z Ex) ?_;exact Fg 7 Z Z (Qo a (Lr [0,1,2,3,4,5]))
 subst ag;refine Gx 1 Z (Qm g (Gc 9 Z (Bd h λw d h=>Cg w [0,2,3,4] [4,9] (λw=>[(100,.bool w)]) (λ_=>[(2,.cells 144 [.map 3])]) Zf ?_ ?_)))
 .refine G0 4 Z (Is 78 d Z (λT d=>?_) (λT d=>?_))
  .refine Go 2 Z (Bd d λai V d=>?_);refine vX (I ai) (QL (ev:=(λx=>A.int .i64 x)) (z0:=0) (k:=m.Extra) (l:=i) Yb V Ex EG Em) ?_ (gT Z);refine Go 2 Z (Is 83 d Z (λW d=>?_) (λW d=>?_))
   .exact Gl 18 Z d [0,2,3,4]
   .refine Go 3 Z (Bd d λao X d=>Iz X Z (Go 5 Z (Is 92 d Z (λY d=>?_) (λY d=>?_))))
    .exact Gl 9 Z d [0,2,3,4]
    .refine Go 4 Z (Bd d λaj aa d=>?_);refine vX (.bool aj) (QL (ev:=A.bool) (z0:=false) (k:=({from_:=m.Extra,to_:=m.Extra:Y8})) (l:=y) QcP aa EY EM ZR.bool) ?_ (gT Z);exact Gl 4 Z d [0,2,3,4]
  .exact Gl 23 Z d [0,2,3,4]
 refine Cn Z h (λab h=>?_) (λab h=>?_)
 .exact QP 7 Z h 6 [0]
 exact Gc 7 Z (Cz [2,3] h (k_eq _ _ _) Z λaq ak h=>Gt 4 Z h 6 [0])
def F_bz(n:Nat)(a:Distance)(d:Course)(e:List (Y8×Bool)):Option Bool:=(F_dn n d a e).bind λf=>some f
theorem k_bz(n:Nat)(a:Distance)(d:Course)(e:List (Y8×Bool)):Ks (F_bz n a d e) 113 [.agg (Distance.c a),.ptr 0 0,.ptr 1 0] [.cells 71 (Course.c d),.cells 214 [.map 2],.map (Qh (λx=>A.agg (Y8.c x)) A.bool e)] (λr=>.bool r):=by
 exact Kg 11 func113 Z Z Z Z λr h=>Cz [2] h (k_dn _ _ _ _) Z λg f h=>Gt 4 Z h 4 [0,1,2]
def F_do(n:Nat)(a:Distance)(d:Course)(e:List (Y8×Bool)):Option Bool:=(F_bz n a d e).bind λf=>some (!f)
theorem k_do(n:Nat)(a:Distance)(d:Course)(e:List (Y8×Bool)):Ks (F_do n a d e) 173 [.agg (Distance.c a),.ptr 0 0] [.cells 219 [.fn (.func 113) [] [.ptr 1 0,.ptr 2 0]],.cells 71 (Course.c d),.cells 214 [.map 3],.map (Qh (λx=>A.agg (Y8.c x)) A.bool e)] (λr=>.bool r):=by
 exact Kg 10 func173 Z Z Z Z λr h=>Cz [1,2,3] h (k_bz _ _ _ _) Z λg f h=>Gt 5 Z h 3 [0,1,2,3]
def F_jh(n:Nat)(d:List Distance)(g:Course)(h:List (Y8×Bool))(a:Int):Option (Ctl Int (Ctl Unit Int)):=(bif decide (a<(d.length:Int))then(idx d a).bind λe=>(F_do n e g h).bind λf=>(bif f then some (.done (.done a))else some (.cont (i64.wrap (a+1))))else some (.done (.cont ())))
def F_gk(n:Nat)(e:List Distance)(f:Course)(g:List (Y8×Bool)):Option Int:=(iter (F_jh n e f g) n 0:Option (Ctl Unit Int)).bind λd=>match d with|.cont a=>(some (-1))|.done a=>some a
theorem k_gk(n:Nat)(j:List Distance)(k:Course)(l:List (Y8×Bool)):Ks (F_gk n j k l) 206 [.rsl 5 (map Distance.c j),.fn (.func 173) [] [.ptr 0 0]] [.cells 219 [.fn (.func 113) [] [.ptr 1 0,.ptr 2 0]],.cells 71 (Course.c k),.cells 214 [.map 3],.map (Qh (λx=>A.agg (Y8.c x)) A.bool l)] (λr=>I r):=by
 refine Kg 9 func206 Z Z Z Z λr h=>Lg 3 Z Z (Bd h λm p h=>CgE (b:=m) [0,1,2,3] [] Ze Ze Zf ?_ (λs q=>?_))
 .refine G0 1 Z (Lp [0,1,2,3] [0,1,7] (λe=>[(8,I e)]) Ze p Zf (Lr [0,1,2,3]) λe u a d=>?_);refine G0 6 Z (Yn Z a (λf a=>?_) (λf a=>?_))
  .exact Gc 2 Z (Qp a (Gx 1 Z (cNo d a Z (Lr [0,1,2,3]))))
  refine Gc 15 Z (Bd a λw g a=>Iz g Z (Go 1 Z (Cz [0,1,2,3] a (k_do _ _ _ _) Z λy t a=>Go 2 Z (Cn Z a (λi a=>?_) (λi a=>?_)))))
  .refine Gc 9 Z (Qw a ?_);obtain rfl:=Oj d a;exact Gx 1 Z (Qu (Gx 1 Z (Rt h 4 [0,1,2,3])))
  exact Gc 7 Z (Qo a (Lr [0,1,2,3]))
 subst q;exact QP 6 Z h 4 [0,1,2,3]
def F_ey(n:Nat)(a:List Distance)(d:Course)(e:List (Y8×Bool)):Option Bool:=(F_gk n a d e).bind λf=>some (decide (0<=f))
theorem k_ey(n:Nat)(a:List Distance)(d:Course)(e:List (Y8×Bool)):Ks (F_ey n a d e) 172 [.rsl 5 (map Distance.c a),.fn (.func 173) [] [.ptr 0 0]] [.cells 219 [.fn (.func 113) [] [.ptr 1 0,.ptr 2 0]],.cells 71 (Course.c d),.cells 214 [.map 3],.map (Qh (λx=>A.agg (Y8.c x)) A.bool e)] (λr=>.bool r):=by
 exact Kg 9 func172 Z Z Z Z λr h=>Cz [0,1,2,3] h (k_gk _ _ _ _) Z λg f h=>Gt 5 Z h 4 [0,1,2,3]
def F_dd(n:Nat)(a:List Distance)(d:Course)(e:List (Y8×Bool)):Option Bool:=(F_ey n a d e).bind λf=>some (!f)
theorem k_dd(n:Nat)(a:List Distance)(d:Course)(e:List (Y8×Bool)):Ks (F_dd n a d e) 112 [.rsl 5 (map Distance.c a),.fn (.func 113) [] [.ptr 0 0,.ptr 1 0]] [.cells 71 (Course.c d),.cells 214 [.map 2],.map (Qh (λx=>A.agg (Y8.c x)) A.bool e)] (λr=>.bool r):=by
 exact Kg 10 func112 Z Z Z Z λr h=>Cz [3,0,1,2] h (k_ey _ _ _ _) Z λg f h=>Gt 5 Z h 4 [0,1,2]
def F_ij(n:Nat)(e:Course)(a:(List (Y8×Bool))×Int):Option (Ctl ((List (Y8×Bool))×Int) (List (Y8×Bool))):=(bif decide (a.2<(e.Legs.length:Int))then(idx e.Legs a.2).bind λd=>(some (Qae a.1 ({from_:=d.From,to_:=d.To:Y8}) true)).bind λf=>some (.cont (f,i64.wrap (a.2+1)))else some (.done a.1))
def F_i(n:Nat)(a:Course):Option Int:=(F_fx n a).bind λg=>(bif (!g)then some 2 else(F_dk n a).bind λh=>(bif (!h)then some 70 else(F_fz n a).bind λi=>(bif (!i)then some 71 else(F_cz n a.Ties).bind λd=>(bif (d != 0)then some d else(iter (F_ij n a) n ([],0):Option (List (Y8×Bool))).bind λe=>(F_dd n a.Distances a e).bind λf=>(bif (!f)then some 72 else some 0)))))
theorem k_i(n:Nat)(q:Course):Ks (F_i n q) 81 [.agg (Course.c q)] [] (λr=>I r):=by
 refine Kg 11 func81 Z Z Z Z λr h=>Cz [] h (k_fx _ _) Z λM B h=>Go 4 Z (Cn Z h (λs h=>?_) (λs h=>?_))
 .exact QP 8 Z h 2 []
 refine Gc 3 Z (Cz [] h (k_dk _ _) Z λN E h=>Go 4 Z (Cn Z h (λt h=>?_) (λt h=>?_)))
 .exact QP 8 Z h 2 []
 refine Gc 3 Z (Cz [] h (k_fz _ _) Z λO F h=>Go 4 Z (Cn Z h (λu h=>?_) (λu h=>?_)))
 .exact QP 8 Z h 2 []
 refine Gc 8 Z (Cz [] h (k_cz _ _) Z λP G h=>Go 9 Z (Cn Z h (λw h=>?_) (λw h=>?_)))
 .exact QP 8 Z h 2 []
 refine Gc 4 Z (vH QQ ?_);refine Fg 9 Z Z (Lg 3 Z Z (Bd h λe y h=>Cg e [0,1,2] [1] (λ_=>[(3,.ptr 1 0)]) (λe=>[(1,.cells 214 [.map 2]),(2,.map (Qh (λx=>A.agg (Y8.c x)) A.bool e))]) Zf ?_ ?_))
 .refine G0 1 Z (Lp [0,2,1] [1,3,26,27] (λd=>[(28,I d.2)]) (λd=>[(1,.cells 214 [.map 2]),(2,.map (Qh (λx=>A.agg (Y8.c x)) A.bool d.1))]) y Zf (Lr [0,2,1]) λd H a g=>?_);refine G0 6 Z (Yn Z a (λi a=>?_) (λi a=>?_))
  .exact Gc 2 Z (Qp a (Gx 1 Z (cQo g a (Lr [0,1,2]))))
  refine Gc 6 Z (Bd a λf j a=>Iz j Z (Go 12 Z (Bd a λJ m a=>?_)));refine vU (QM (ev:=A.bool) (k:=({from_:=f.From,to_:=f.To:Y8})) (v:=true) (l:=d.1) QcP m Z EY) ?_;exact Fg 7 Z Z (Qo a (Lr [0,1,2]))
 refine Gc 6 Z (Cz [0,1,2] h (k_dd _ _ _ _) Z λL z h=>Go 3 Z (Cn Z h (λp h=>?_) (λp h=>?_)))
 .exact QP 7 Z h 2 []
 exact QP 8 Z h 2 []
def F_d(n:Nat)(a:Int):Option Bool:=((bif decide ((-1099511627776)<=a)then some (decide (a<=1099511627776))else some false):Option Bool).bind λd=>some d
theorem k_d(n:Nat)(e:Int):Ks (F_d n e) 33 [I e] [] (λr=>.bool r):=by
 refine Kg 6 func33 Z Z Z Z λr h=>Bd h λd a h=>Cg d [] [] (λd=>[(2,.bool d)]) Ze Zf ?_ ?_
 .refine G0 4 Z (Is 5 a Z (λf a=>?_) (λf a=>?_))
  iterate 2 exact Gl 5 Z a []
 exact QP 1 Z h 2 []
def F_aj(n:Nat)(a:Int):Option Unit:=some ()
theorem k_aj(n:Nat)(a:Int):Ks (F_aj n a) 42 [I a] [] (λ_=>.bool (a != a)):=by
 exact Kg 14 func42 Z Z Z Z λr h=>Rt h 2 []
def F_c(n:Nat)(d:Int)(a:Int):Option Int:=(F_aj n d).bind λe=>(F_aj n a).bind λf=>(bif (d != d)then(bif (a != a)then some 0 else some (-1))else(bif (a != a)then some 1 else(bif decide (d<a)then some (-1)else(bif decide (a<d)then some 1 else some 0))))
theorem k_c(n:Nat)(a:Int)(d:Int):Ks (F_c n a d) 29 [I a,I d] [] (λr=>I r):=by
 refine Kg 8 func29 Z Z Z Z λr h=>Cz [] h (k_aj _ _) Z λm k h=>Go 6 Z (Cz [] h (k_aj _ _) Z λp l h=>Go 9 Z (Cn Z h (λe h=>?_) (λe h=>?_)))
 .refine Gc 6 Z (Cn Z h (λf h=>?_) (λf h=>?_))
  .exact QP 8 Z h 4 []
  exact QP 9 Z h 4 []
 refine Gc 8 Z (Cn Z h (λg h=>?_) (λg h=>?_))
 .exact QP 7 Z h 4 []
 refine Gc 10 Z (Cn Z h (λi h=>?_) (λi h=>?_))
 .exact QP 7 Z h 4 []
 refine Gc 10 Z (Cn Z h (λj h=>?_) (λj h=>?_))
 .exact QP 7 Z h 4 []
 exact QP 8 Z h 4 []
def F_bk(n:Nat)(e:List Int)(a:Int):Option (Ctl Int (Ctl Unit Int)):=(bif decide (a<(e.length:Int))then(idx e a).bind λd=>(bif (d != 0)then some (.done (.done d))else some (.cont (i64.wrap (a+1))))else some (.done (.cont ())))
def F_s(n:Nat)(d:List Int):Option Int:=(iter (F_bk n d) n 0:Option (Ctl Unit Int)).bind λe=>match e with|.cont a=>(some 0)|.done a=>some a
theorem k_s(n:Nat)(j:List Int):Ks (F_s n j) 28 [.rsl 1 (map (Qd .i64) j)] [] (λr=>I r):=by
 refine Kg 14 func28 Z Z Z Z λr h=>Lg 3 Z Z (Bd h λl m h=>CgE (b:=l) [] [3] Ze Ze Zf ?_ (λp k=>?_))
 .refine G0 1 Z (Lp [] [3,6,7] (λe=>[(8,I e)]) Ze m Zf (Lr []) λe q a d=>?_);refine G0 6 Z (Yn Z a (λf a=>?_) (λf a=>?_))
  .exact Gc 2 Z (Qp a (Gx 1 Z (cNo d a Z (Lr []))))
  refine Gc 6 Z (Bd a λs g a=>Iz g Z (Go 11 Z (Cn Z a (λi a=>?_) (λi a=>?_))))
  .refine Gc 9 Z (Qw a ?_);obtain rfl:=Oj d a;exact Gx 1 Z (Qu (Gx 1 Z (Rt h 2 [])))
  exact Gc 7 Z (Qo a (Lr []))
 subst k;exact QP 7 Z h 2 []
def F_bh(n:Nat)(a:YZ)(d:YZ):Option Int:=(F_c n a.mat d.mat).bind λe=>(F_c n a.epoch d.epoch).bind λf=>(F_s n [e,f]).bind λg=>some g
theorem k_bh(n:Nat)(a:YZ)(d:YZ):Ks (F_bh n a d) 48 [.agg [I a.mat,I a.epoch],.agg [I d.mat,I d.epoch]] [] (λr=>I r):=by
 refine Kg 8 func48 Z Z Z Z λr h=>DSs 9 Z (D 4 Z ?_);refine Dz [] h (k_c _ _ _) Z λe g h=>D 4 Z (Eg Z (Cz [] h (k_c _ _ _) Z λf i h=>?_));refine vH (QH (xs:=[.tmp 9,.tmp 14]) (es:=map (Qd .i64) [e,f]) QO Z Z Z Z Z ⟨Z,Z,trivial⟩ Z Z) ?_;exact FE Z (Cz [] h (k_s _ _) Z λk j h=>Gt 4 Z h 4 [])
def F_ah(n:Nat)(a:Segment)(d:Segment):Option Int:=(F_bh n ({mat:=a.Mat,epoch:=a.Epoch:YZ}) ({mat:=d.Mat,epoch:=d.Epoch:YZ})).bind λe=>some e
theorem k_ah(n:Nat)(a:Segment)(d:Segment):Ks (F_ah n a d) 34 [.agg (Segment.c a),.agg (Segment.c d)] [] (λr=>I r):=by
 exact Kg 19 func34 Z Z Z Z λr h=>Cz [] h (k_bh _ _ _) Z λf e h=>Gt 4 Z h 4 []
def F_bd(n:Nat)(a:Int):Option Bool:=((bif decide (a<(-2199023255552))then some true else some (decide (2199023255552<a))):Option Bool).bind λd=>some d
theorem k_bd(n:Nat)(e:Int):Ks (F_bd n e) 36 [I e] [] (λr=>.bool r):=by
 refine Kg 6 func36 Z Z Z Z λr h=>Bd h λd a h=>Cg d [] [] (λd=>[(2,.bool d)]) Ze Zf ?_ ?_
 .refine G0 4 Z (Is 5 a Z (λf a=>?_) (λf a=>?_))
  iterate 2 exact Gl 5 Z a []
 exact QP 1 Z h 2 []
end Go.Sw
