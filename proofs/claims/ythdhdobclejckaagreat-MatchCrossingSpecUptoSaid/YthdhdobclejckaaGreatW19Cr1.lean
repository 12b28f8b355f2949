/- What the functions compute that MatchCrossingSpec reaches, and that their calls refine it (part 1 of 5). -/
import Derived.Test.YthdhdobclejckaaGreatW19CrB
set_option linter.unusedVariables false
set_option linter.unusedSimpArgs false
set_option maxRecDepth 100000
set_option maxHeartbeats 4000000
namespace Go.Sw
open List(map)
open Int(toNat)
open Go.IntKind(i64 u64 u8)
open Go.Proofs Tryz
def F_jr(n:Nat):Option Unit:=some ()
theorem k_jr(n:Nat):Kq (F_jr n) 19 [] [] (λ_=>.agg [.str [97],.osl 0 0 ([{Name:=[108,105,110,101],Kind:=1:Mat},{Name:=[116,117,114,110],Kind:=2:Mat},{Name:=[103,111,97,108],Kind:=3:Mat}].length) 2,.osl 1 0 ([{From:=0,To:=1,Min:=30,Max:=40:Leg},{From:=1,To:=2,Min:=5,Max:=50:Leg}].length) 4,.osl 2 0 ([{Name:=[100],Route:=[Ut,{Ut with Mat:=1:Part},{Ut with Mat:=2:Part}],Timing:=1,Cutoffs:=[],Extra:=(-1):Distance}].length) 5,.osl 3 0 ([{Name:=[119],Gun:=0:Wave}].length) 2,.rsl 4 (map Offence.c []),.rsl 3 (map Category.c []),.rsl 4 (map Prize.c []),.osl 4 0 ([{Uv with Kind:=1,By:=5:Step}].length) 8,I 1,I 0,I 0,I 0,I 0,I 0,I 0]) (λ_=>[.row 108 2 (map Mat.c [{Name:=[108,105,110,101],Kind:=1:Mat},{Name:=[116,117,114,110],Kind:=2:Mat},{Name:=[103,111,97,108],Kind:=3:Mat}]),.row 110 4 (map Leg.c [{From:=0,To:=1,Min:=30,Max:=40:Leg},{From:=1,To:=2,Min:=5,Max:=50:Leg}]),.row 116 5 (map Distance.c [{Name:=[100],Route:=[Ut,{Ut with Mat:=1:Part},{Ut with Mat:=2:Part}],Timing:=1,Cutoffs:=[],Extra:=(-1):Distance}]),.row 106 2 (map Wave.c [{Name:=[119],Gun:=0:Wave}]),.row 104 8 (map Step.enc [{Uv with Kind:=1,By:=5:Step}]),.cells 33 [.str [97],.osl 0 0 ([{Name:=[108,105,110,101],Kind:=1:Mat},{Name:=[116,117,114,110],Kind:=2:Mat},{Name:=[103,111,97,108],Kind:=3:Mat}].length) 2,.osl 1 0 ([{From:=0,To:=1,Min:=30,Max:=40:Leg},{From:=1,To:=2,Min:=5,Max:=50:Leg}].length) 4,.osl 2 0 ([{Name:=[100],Route:=[Ut,{Ut with Mat:=1:Part},{Ut with Mat:=2:Part}],Timing:=1,Cutoffs:=[],Extra:=(-1):Distance}].length) 5,.osl 3 0 ([{Name:=[119],Gun:=0:Wave}].length) 2,.rsl 4 (map Offence.c []),.rsl 3 (map Category.c []),.rsl 4 (map Prize.c []),.osl 4 0 ([{Uv with Kind:=1,By:=5:Step}].length) 8,I 1,I 0,I 0,I 0,I 0,I 0,I 0]]):=by
 refine Kg 8 func19 Z Z Z Z λr h=>vH (El (xs:=[.tmp 1]) (es:=map Step.enc [{Uv with Kind:=1,By:=5:Step}]) el_29 Z Z Z Z Z ⟨Z,trivial⟩ Z Z) ?_;refine Fg 2 Z Z (vH (El (xs:=[.tmp 4]) (es:=map Wave.c [{Name:=[119],Gun:=0:Wave}]) el_25 Z Z Z Z Z ⟨Z,trivial⟩ Z Z) ?_);refine Fg 3 Z Z (vH (El (xs:=[.tmp 6,.tmp 7,.tmp 8]) (es:=map Mat.c [{Name:=[108,105,110,101],Kind:=1:Mat},{Name:=[116,117,114,110],Kind:=2:Mat},{Name:=[103,111,97,108],Kind:=3:Mat}]) el_22 Z Z Z Z Z ⟨Z,Z,Z,trivial⟩ Z Z) ?_);refine Fg 2 Z Z (vH (El (xs:=[.tmp 10,.tmp 11]) (es:=map Leg.c [{From:=0,To:=1,Min:=30,Max:=40:Leg},{From:=1,To:=2,Min:=5,Max:=50:Leg}]) el_23 Z Z Z Z Z ⟨Z,Z,trivial⟩ Z Z) ?_);refine Fg 3 Z Z (vH (El (xs:=[.tmp 13,.tmp 14,.tmp 15]) (es:=map Part.enc [Ut,{Ut with Mat:=1:Part},{Ut with Mat:=2:Part}]) QnH Z Z Z Z Z ⟨Z,Z,Z,trivial⟩ Z Z) ?_);refine Fg 1 Z Z ?_;refine Eu (YF [(16,_),(17,_)] Z Z (QlR.cons Z Er (QlR.cons Z (FzA.agg (Ed (Ee _) (Ed Er (Ek _)))) QlR.nil)) (Ec (Ec (Ec (Ec (Ec (Ec (Q2 _)))))))) ?_;refine vH (El (xs:=[.tmp 17]) (es:=map Distance.c [{Name:=[100],Route:=[Ut,{Ut with Mat:=1:Part},{Ut with Mat:=2:Part}],Timing:=1,Cutoffs:=[],Extra:=(-1):Distance}]) el_24 Z Z Z Z Z ⟨Z,trivial⟩ Z Z) ?_;refine Fg 5 Z Z ?_;obtain rfl:=Oi h;exact Rx [3,4,6,2,1,0] [0] Z (QL Z (Qf isAgg33 sizeOf33 Z Z Z)) ⟨Z,Z⟩
def F_hl(n:Nat)(g:List Part)(h:Int)(rec8:(List Part)->Int->Option (Int×Int))(a:Int×Int×Int):Option (Ctl (Int×Int×Int) (Int×Int)):=(bif decide (a.2.2<(g.length:Int))then((idx g a.2.2).bind λe=>((bif ((e.Parts.length:Int)==0)then some true else(bif (h==0)then some true else some (decide (256<a.2.1)))):Option Bool).bind λi=>(bif i then some (a.1,a.2.1)else(rec8 e.Parts (i64.wrap (h-1))).bind λd=>some ((if a.1<i64.wrap (d.1+1)then i64.wrap (d.1+1)else a.1),i64.wrap (a.2.1+d.2))):Option (Int×Int)).bind λf=>some (.cont (f.1,f.2,i64.wrap (a.2.2+1)))else some (.done (a.1,a.2.1)))
def B_v(rec8:(List Part)->Int->Option (Int×Int))(n:Nat)(d:List Part)(e:Int):Option (Int×Int):=(iter (F_hl n d e rec8) n (0,(d.length:Int),0):Option (Int×Int)).bind λa=>some (a.1,a.2)
theorem Qdd(rec8:(List Part)->Int->Option (Int×Int))(m:∀(j:List Part) (k:Int) (r:Int×Int),rec8 j k=some r->Csm prog 153 [.rsl 3 (map Part.enc j),I k] [] (λr=>.tup [I r.1,I r.2]) r)(n:Nat)(j:List Part)(k:Int)(r:Int×Int)(h:B_v rec8 n j k=some r):Csm prog 153 [.rsl 3 (map Part.enc j),I k] [] (λr=>.tup [I r.1,I r.2]) r:=by
 refine QW func153 Z Z Z ?_;refine G0 9 Z (Lg 7 Z Z (Lg 3 Z Z (Bd h λg y h=>Cg g [] [] (λg=>[(4,I g.1),(5,I g.2)]) Ze Zf ?_ ?_)))
 .refine G0 1 Z (Lp [] [1,12,13] (λf=>[(4,I f.1),(5,I f.2.1),(14,I f.2.2)]) Ze y Zf (Lr []) λf E e q=>?_);refine G0 6 Z (QV Z e (λs e=>?_) (λs e=>?_))
  .exact Gc 2 Z (Qk e (Gx 1 Z (cQo q e (Lr []))))
  refine Gc 3 Z (Bd e λi a e=>Cg i [] [1,12,13,14] (λi=>[(4,I i.1),(5,I i.2)]) Ze Zf ?_ ?_)
  .refine G0 3 Z (Bd a λz t a=>IzE t (QF z) Z (Go 7 Z (Bd a λl d a=>Cg l [0] [1,4,5,7,12,13,14] (λl=>[(29,.bool l)]) Ze Zf ?_ ?_)))
   .refine G0 3 Z (Lg 2 Z Z (Is 22 d Z (λu d=>?_) (λu d=>?_)))
    .exact Gl 8 Z d [0]
    .refine Go 4 Z (Is 26 d Z (λw d=>?_) (λw d=>?_))
     iterate 2 exact Gl 4 Z d [0]
   refine Cn Z a (λx a=>?_) (λx a=>?_)
   .exact YJ 3 Z a []
   refine Gc 8 Z (Cd [] a (m _ _) Z λp B a=>Fg 11 Z Z ?_);refine vX (I (if f.1<i64.wrap (p.1+1)then i64.wrap (p.1+1)else f.1)) (OpV.max Z Z Z Z) ?_;exact Gl 7 Z a []
  exact Gc 4 Z (Qi e (Lr []))
 refine Gc 9 Z ?_;obtain rfl:=Oi h;exact R2 4 5 Z Z (Lr [])
def F_v:Nat->(List Part)->Int->Option (Int×Int)
  |0=>λ_ _=>none
  |n+1=>B_v (F_v n) n
theorem k_v(n:Nat):∀(a:List Part) (d:Int) (r:Int×Int),F_v n a d=some r->Csm prog 153 [.rsl 3 (map Part.enc a),I d] [] (λr=>.tup [I r.1,I r.2]) r:=by
  induction n with
  |zero=>intro a d r h;cases h
  |succ n ih=>intro a d r h;exact Qdd _ ih n a d r h
def F_ko(n:Nat)(f:Course)(a:Int):Option (Ctl Int (Ctl Unit Bool)):=(bif decide (a<(f.Distances.length:Int))then(idx f.Distances a).bind λd=>(F_v n d.Route 17).bind λe=>((bif decide (64<(d.Cutoffs.length:Int))then some true else(bif decide (16<e.1)then some true else some (decide (256<e.2)))):Option Bool).bind λg=>(bif g then some (.done (.done false))else some (.cont (i64.wrap (a+1))))else some (.done (.cont ())))
def F_eo(n:Nat)(a:Course):Option Bool:=((bif decide (40<(a.Mats.length:Int))then some true else(bif decide (512<(a.Legs.length:Int))then some true else(bif decide (8<(a.Distances.length:Int))then some true else(bif decide (32<(a.Waves.length:Int))then some true else(bif decide (32<(a.Offences.length:Int))then some true else(bif decide (32<(a.Categories.length:Int))then some true else some (decide (32<(a.Prizes.length:Int))))))))):Option Bool).bind λf=>(bif f then some false else(iter (F_ko n a) n 0:Option (Ctl Unit Bool)).bind λe=>match e with|.cont d=>(some true)|.done d=>some d)
theorem k_eo(n:Nat)(z:Course):Ks (F_eo n z) 107 [.agg (Course.c z)] [] (λr=>.bool r):=by
 refine Kg 8 func107 Z Z Z Z λr h=>Bd h λj d h=>Ct j [0] [1] (λj=>[(46,.bool j)]) Ze Zf ?_ (λenv H B=>?_)
 .refine G0 3 Z (Lg 2 Z Z (Is 11 d Z (λE d=>?_) (λE d=>?_)))
  .exact Gl 36 Z d [0]
  .refine Go 2 Z (Lg 3 Z Z (Is 17 d Z (λk d=>?_) (λk d=>?_)))
   .exact Gl 30 Z d [0]
   .refine Go 2 Z (Lg 3 Z Z (Is 23 d Z (λl d=>?_) (λl d=>?_)))
    .exact Gl 24 Z d [0]
    .refine Go 2 Z (Lg 3 Z Z (Is 29 d Z (λm d=>?_) (λm d=>?_)))
     .exact Gl 18 Z d [0]
     .refine Go 2 Z (Lg 3 Z Z (Is 35 d Z (λp d=>?_) (λp d=>?_)))
      .exact Gl 12 Z d [0]
      .refine Go 2 Z (Lg 3 Z Z (Is 41 d Z (λq d=>?_) (λq d=>?_)))
       .exact Gl 6 Z d [0]
       .exact Go 2 Z (Lm Z (Gl 3 Z d [0]))
 refine Gx 1 Z (Ef B (Cn Z h (λs h=>?_) (λs h=>?_)))
 .exact QC 7 Z h 2 []
 refine Gc 7 Z (Lg 3 Z Z (Bd h λF G h=>Jn (b:=F) [] [] Ze Ze Zf ?_ (λL J=>?_)))
 .refine G0 1 Z (Lp [] [48,49] (λi=>[(50,I i)]) Ze G Zf (Lr []) λi N a f=>?_);refine G0 6 Z (QV Z a (λt a=>?_) (λt a=>?_))
  .exact Gc 2 Z (Qk a (Gx 1 Z (YC f a Z (Lr []))))
  refine Gc 6 Z (Bd a λO u a=>Iz u Z (Go 9 Z (Cd [] a (k_v _ _ _) Z λP M a=>Fg 8 Z Z (Bd a λg e a=>Cg g [] [48,49,50] (λg=>[(71,.bool g)]) Ze Zf ?_ ?_))))
  .refine G0 3 Z (Lg 2 Z Z (Is 64 e Z (λw e=>?_) (λw e=>?_)))
   .exact Gl 8 Z e []
   .refine Go 4 Z (Is 68 e Z (λx e=>?_) (λx e=>?_))
    iterate 2 exact Gl 4 Z e []
  refine Cn Z a (λy a=>?_) (λy a=>?_)
  .refine Gc 8 Z (Qp a ?_);obtain rfl:=Oj f a;exact Gx 1 Z (Ql (Gx 1 Z (Rt h 2 [])))
  exact Gc 7 Z (Qi a (Lr []))
 subst J;exact QC 6 Z h 2 []
def F_gp(n:Nat)(a:(List Int)×Int):Option (Ctl ((List Int)×Int) (List Int)):=(bif decide (a.2<=122)then(Qev 256 a.1 a.2).bind λf=>(Qc9 a.1 a.2 2).bind λd=>(Qev 256 d (u8.wrap (a.2-32))).bind λg=>(Qc9 d (u8.wrap (a.2-32)) 2).bind λe=>some (.cont (e,u8.wrap (a.2+1)))else some (.done a.1))
def F_js(n:Nat)(a:(List Int)×Int):Option (Ctl ((List Int)×Int) (List Int)):=(bif decide (a.2<=57)then(Qev 256 a.1 a.2).bind λe=>(Qc9 a.1 a.2 3).bind λd=>some (.cont (d,u8.wrap (a.2+1)))else some (.done a.1))
def F_le(n:Nat)(a:(List Int)×Int):Option (Ctl ((List Int)×Int) (List Int)):=(bif decide (a.2<([123,125,40,41,91,93,59,44,61,60,62].length:Int))then(idx [123,125,40,41,91,93,59,44,61,60,62] a.2).bind λd=>(Qev 256 a.1 d).bind λf=>(Qc9 a.1 d 4).bind λe=>some (.cont (e,i64.wrap (a.2+1)))else some (.done a.1))
def F_lf(n:Nat)(a:(List Int)×Int):Option (Ctl ((List Int)×Int) (List Int)):=(bif decide (a.2<(([32,9,10,13].length):Int))then(idx [32,9,10,13] a.2).bind λd=>(Qev 256 a.1 d).bind λf=>(Qc9 a.1 d 1).bind λe=>some (.cont (e,i64.wrap (a.2+1)))else some (.done a.1))
def F_es(n:Nat):Option (List Int):=(iter (F_gp n) n (List.replicate 256 0,97):Option (List Int)).bind λd=>(iter (F_js n) n (d,48):Option (List Int)).bind λe=>(iter (F_le n) n (e,0):Option (List Int)).bind λf=>(iter (F_lf n) n (f,0):Option (List Int)).bind λa=>(arr 256 a).bind λg=>(arr 256 a).bind λi=>(arr 256 g).bind λh=>some h
theorem k_es(n:Nat):Kq (F_es n) 245 [] [] (λr=>.agg (List.flatten (map (Qe .u8) r))) (λr=>[.row 313 1 (map (Qe .u8) r)]):=by
 refine Kg 2 func245 Z Z Z Z λr h=>vH (Qc2 (n:=256) (k:=1) (e:=(Qe .u8)) (z:=0) zeroValue313 (by kernel_rfl) (by kernel_rfl) (by kernel_rfl) Z) ?_;refine Fg 8 Z Z (Bd h λw ah h=>Ct w [0] [0] Ze (λw=>[(0,.row 313 1 (map (Qe .u8) w))]) Zf ?_ (λenv H q=>?_))
 .refine G0 1 Z (Lp [0] [0] (λj=>[(1,.int .u8 j.2)]) (λj=>[(0,.row 313 1 (map (Qe .u8) j.1))]) ah Zf (Lr [0]) λj aq a O=>?_);refine G0 7 Z (QV Z a (λP a=>?_) (λP a=>?_))
  .exact Gc 2 Z (Qk a (Gx 1 Z (cQo O a (Lr [0]))))
  refine Gc 8 Z (Bd a λar x a=>?_);refine vX (.ptr 0 (toNat j.2*1)) (QaH (n:=256) (k:=1) (l:=j.1) x ET EU Z) ?_;refine Bd a λai Q a=>?_;refine vU (Jt (e:=(Qe .u8)) (k:=1) (f:=0) (Qbn x).2 Q EU Z Z) ?_;refine FE Z (Bd a λau y a=>?_);refine vX (.ptr 0 (toNat (u8.wrap (j.2-32))*1)) (QaH (n:=256) (k:=1) (l:=ai) y ET EU Z) ?_;refine Bd a λav R a=>?_;refine vU (Jt (e:=(Qe .u8)) (k:=1) (f:=0) (Qbn y).2 R EU Z Z) ?_;exact Fg 8 Z Z (Qi a (Lr [0]))
 refine Gx 1 Z (Ef q (Gc 6 Z (Bd h λB aj h=>Ct B [0] [0] Ze (λB=>[(0,.row 313 1 (map (Qe .u8) B))]) Zf ?_ (λenv H q=>?_))))
 .refine G0 1 Z (Lp [0] [0] (λm=>[(2,.int .u8 m.2)]) (λm=>[(0,.row 313 1 (map (Qe .u8) m.1))]) aj Zf (Lr [0]) λm aw i T=>?_);refine G0 7 Z (QV Z i (λV i=>?_) (λV i=>?_))
  .exact Gc 2 Z (Qk i (Gx 1 Z (cQo T i (Lr [0]))))
  refine Gc 6 Z (Bd i λax E i=>?_);refine vX (.ptr 0 (toNat m.2*1)) (QaH (n:=256) (k:=1) (l:=m.1) E ET EU Z) ?_;refine Bd i λay W i=>?_;refine vU (Jt (e:=(Qe .u8)) (k:=1) (f:=0) (Qbn E).2 W EU Z Z) ?_;exact Fg 8 Z Z (Qi i (Lr [0]))
 refine Gx 1 Z (Ef q (Gc 3 Z (vH (El (xs:=[.const (.int .u8 123),.const (.int .u8 125),.const (.int .u8 40),.const (.int .u8 41),.const (.int .u8 91),.const (.int .u8 93),.const (.int .u8 59),.const (.int .u8 44),.const (.int .u8 61),.const (.int .u8 60),.const (.int .u8 62)]) (es:=map (Qe .u8) [123,125,40,41,91,93,59,44,61,60,62]) Qlp Z Z Z Z Z ⟨Z,Z,Z,Z,Z,Z,Z,Z,Z,Z,Z,trivial⟩ Z Z) ?_)));refine FE Z (vH (Qj7 (es:=map (Qe .u8) [123,125,40,41,91,93,59,44,61,60,62]) underlying316 underlying5 (X2 ..) Z) ?_);refine FE Z (Lg 3 Z Z (Bd h λF ak h=>Ct F [0] [0] Ze (λF=>[(0,.row 313 1 (map (Qe .u8) F))]) Zf ?_ (λenv H q=>?_)))
 .refine G0 1 Z (Lp [0] [0,23,24] (λs=>[(25,I s.2)]) (λs=>[(0,.row 313 1 (map (Qe .u8) s.1))]) ak Zf (Lr [0]) λs az d X=>?_);refine G0 6 Z (QV Z d (λY d=>?_) (λY d=>?_))
  .exact Gc 2 Z (Qk d (Gx 1 Z (cQo X d (Lr [0]))))
  refine Gc 6 Z (Bd d λal aa d=>Iz aa Z (Go 6 Z (Bd d λba G d=>?_)));refine vX (.ptr 0 (toNat al*1)) (QaH (n:=256) (k:=1) (l:=s.1) G ET EU Z) ?_;refine Bd d λbb ab d=>?_;refine vU (Jt (e:=(Qe .u8)) (k:=1) (f:=0) (Qbn G).2 ab EU Z Z) ?_;exact Fg 7 Z Z (Qi d (Lr [0]))
 refine Gx 1 Z (Ef q (Gc 3 Z (vH (El (xs:=[.const (.int .u8 32),.const (.int .u8 9),.const (.int .u8 10),.const (.int .u8 13)]) (es:=map (Qe .u8) [32,9,10,13]) Qlp Z Z Z Z Z ⟨Z,Z,Z,Z,trivial⟩ Z Z) ?_)));refine Fg 4 Z Z (Bd h λu am h=>Cg u [0] [0] Ze (λu=>[(0,.row 313 1 (map (Qe .u8) u))]) Zf ?_ ?_)
 .refine G0 1 Z (Lp [0,1] [0,32,33] (λp=>[(34,I p.2)]) (λp=>[(0,.row 313 1 (map (Qe .u8) p.1))]) am Zf (Lr [0,1]) λp bc g ac=>?_);refine G0 6 Z (QV Z g (λad g=>?_) (λad g=>?_))
  .exact Gc 2 Z (Qk g (Gx 1 Z (cQo ac g (Lr [0]))))
  refine Gc 6 Z (Bd g λN J g=>?_);refine vX (.ptr 1 (toNat p.2*1)) (Y7 J Z runUnderlying316 EU) ?_;refine vX (.int .u8 N) (Ez Z isAgg5 Z (YD J)) ?_;refine Go 5 Z (Bd g λbd L g=>?_);refine vX (.ptr 0 (toNat N*1)) (QaH (n:=256) (k:=1) (l:=p.1) L ET EU Z) ?_;refine Bd g λbe ae g=>?_;refine vU (Jt (e:=(Qe .u8)) (k:=1) (f:=0) (Qbn L).2 ae EU Z Z) ?_;exact Fg 7 Z Z (Qi g (Lr [0,1]))
 refine Gc 2 Z (Bd h λan af h=>?_);refine vX (.agg (List.flatten (map (Qe .u8) an))) (Qhu (e:=(Qe .u8)) af Zf Z isAgg313 Gu) ?_;refine Bd h λbg ag h=>Bd h λao t h=>?_;obtain⟨M,rfl⟩:=Qct ag;refine vU (Qc1 (e:=(Qe .u8)) (l:=u) (l':=ao) M (Qgj t) Zf Z Gu Zf Zf (congrArg (λl=>List.flatten (map (Qe .u8) l)) (Qct t).2.symm)) ?_;refine Fg 3 Z Z ?_;obtain rfl:=Oi h;exact Rx [0] [0] Z (QL Z (QjW (e:=(Qe .u8)) (Qgj t) Zf Z isAgg313 Gu)) ⟨Z,Z⟩
def F_kw(n:Nat)(e:List UInt8)(i:List Int)(a:Int):Option (Ctl Int (Ctl Unit Bool)):=(bif decide (a<(e.length:Int))then(idx e a).bind λf=>(Qev 256 i (f.toNat:Int)).bind λd=>((bif (d != 2)then(bif (a==0)then some true else(bif (d != 3)then(idx e a).bind λg=>some ((g.toNat:Int) != 95)else some false))else some false):Option Bool).bind λh=>(bif h then some (.done (.done false))else some (.cont (i64.wrap (a+1))))else some (.done (.cont ())))
def F_dq(n:Nat)(d:List UInt8):Option Bool:=(F_es n).bind λf=>(arr 256 (List.replicate 256 0)).bind λh=>(arr 256 f).bind λg=>(iter (F_kw n d g) n 0:Option (Ctl Unit Bool)).bind λe=>match e with|.cont a=>(some (d != []))|.done a=>some a
theorem k_dq(n:Nat)(q:List UInt8):Ks (F_dq n q) 233 [.str q] [] (λr=>.bool r):=by
 refine Kg 7 func233 Z Z Z Z λr h=>Bd h λG J h=>?_;refine Qy [] (OpC.fn call245 Z Z Z) (k_es _ _ J) ?_;rintro _ _ ⟨rfl,rfl⟩;refine QbU (x:=(.agg (List.flatten (map (Qe .u8) G)))) (H:=[.row 313 1 (map (Qe .u8) G)]) (Ql9 (e:=(Qe .u8)) Zf _ _) Z ?_;refine vH (Qc2 (n:=256) (k:=1) (e:=(Qe .u8)) (z:=0) zeroValue313 (by kernel_rfl) (by kernel_rfl) (by kernel_rfl) Z) ?_;refine FE Z (Bd h λW L h=>Bd h λM j h=>?_);obtain⟨s,rfl⟩:=Qct L;refine vU (Qc1 (e:=(Qe .u8)) (l:=(List.replicate 256 0)) (l':=M) s (Qgj j) Zf Z Gu Zf Zf (congrArg (λl=>List.flatten (map (Qe .u8) l)) (Qct j).2.symm)) ?_;refine Fg 6 Z Z ?_;refine vX (I (q.length:Int)) (YX Z Z EE Z) ?_;refine Go 3 Z (Bd h λN O h=>Jn (b:=N) [] [0] Ze Ze Zf ?_ (λT P=>?_))
 .refine G0 1 Z (Lp [1] [0,3,8] (λm=>[(9,I m)]) Ze O Zf (Lr [1]) λm V a f=>?_);refine G0 6 Z (QV Z a (λt a=>?_) (λt a=>?_))
  .exact Gc 2 Z (Qk a (Gx 1 Z (YC f a Z (Lr []))))
  refine Gc 14 Z (Bd a λp u a=>?_);refine vX (.int .u8 (p.toNat:Int)) (QQ u EE) ?_;refine Bd a λQ g a=>?_;refine vX (.ptr 0 (toNat (p.toNat:Int)*1)) (QaH (n:=256) (k:=1) (l:=M) g ET EU Z) ?_;refine vX (.int .u8 Q) (Ez Z isAgg5 Z (YD (Qbn g).2)) ?_;refine Go 4 Z (Bd a λi d a=>Cg i [0] [0,3,8,9] (λi=>[(32,.bool i)]) Ze Zf ?_ ?_)
  .refine G0 4 Z (Is 19 d Z (λw d=>?_) (λw d=>?_))
   .refine Go 3 Z (Is 22 d Z (λy d=>?_) (λy d=>?_))
    .exact Gl 11 Z d [0]
    .refine Go 3 Z (Is 25 d Z (λB d=>?_) (λB d=>?_))
     .refine Go 2 Z (Bd d λR E d=>?_);refine vX (.int .u8 (R.toNat:Int)) (QQ E EE) ?_ (gT Z);exact Gl 5 Z d [0]
     .exact Gl 8 Z d [0]
   .exact Gl 14 Z d [0]
  refine Cn Z a (λF a=>?_) (λF a=>?_)
  .refine Gc 8 Z (Qp a ?_);obtain rfl:=Oj f a;exact Gx 1 Z (Ql (Gx 1 Z (Rt h 2 [])))
  exact Gc 7 Z (Qi a (Lr [0]))
 subst P;exact QC 8 Z h 2 []
def F_gb(n:Nat)(a:List UInt8):Option Bool:=((F_dq n a).bind λg=>(bif g then(cat [32] a).bind λd=>(cat d [32]).bind λe=>(Qew [32,99,111,117,114,115,101,32,109,97,116,115,32,115,116,97,114,116,32,112,97,115,115,32,101,110,100,32,108,101,103,32,116,111,32,100,105,115,116,97,110,99,101,32,103,117,110,32,99,104,105,112,32,115,108,111,116,32,108,97,112,115,32,108,97,112,32,99,117,116,111,102,102,32,101,120,116,114,97,32,119,97,118,101,32,111,102,102,101,110,99,101,32,111,117,116,32,99,97,116,101,103,111,114,121,32,112,114,105,122,101,32,97,108,108,32,116,105,101,115,32,105,102,32,101,108,115,101,32,97,110,100,32,111,114,32,110,111,116,32,111,108,100,101,114,32,121,111,117,110,103,101,114,32,98,105,98,32,100,114,97,119,32,102,105,101,108,100,32,115,104,111,114,116,32,102,97,117,108,116,115,32,109,105,115,115,101,115,32,115,116,114,97,121,115,32,119,105,110,100,111,119,32,114,101,115,105,100,117,97,108,32,100,114,105,102,116,32,112,114,111,116,101,115,116,32,102,101,101,32,100,101,97,100,108,105,110,101,32] e).bind λf=>some f else some false):Option Bool).bind λh=>some h
theorem k_gb(n:Nat)(i:List UInt8):Ks (F_gb n i) 208 [.str i] [] (λr=>.bool r):=by
 refine Kg 6 func208 Z Z Z Z λr h=>Bd h λd a h=>Cg d [] [] (λd=>[(2,.bool d)]) Ze Zf ?_ ?_
 .refine G0 2 Z (Cz [] a (k_dq _ _) Z λq m a=>Go 1 Z (Is 5 a Z (λj a=>?_) (λj a=>?_)))
  .refine Go 1 Z (Bd a λk e a=>?_);refine vX (.str k) (QeY e) ?_ (gT Z);refine Bd a λl f a=>?_;refine vX (.str l) (QeY f) ?_ (gT Z);refine Bd a λp g a=>?_;refine Qy [] (OpC.fn call234 Z Z Z) (C.contains Qdg Z g) ?_ (hg:=(gT Z));rintro _ _ ⟨rfl,rfl⟩;exact FE Z (Gl 3 Z a [])
  .exact Gl 7 Z a []
 exact QC 1 Z h 2 []
def F_ir(n:Nat)(e:List UInt8)(d:Int):Option (Ctl Int (Ctl Unit Bool)):=(bif decide (d<(e.length:Int))then(idx e d).bind λa=>((bif decide ((a.toNat:Int)<97)then(bif decide ((a.toNat:Int)<48)then some ((a.toNat:Int) != 95)else(bif decide (57<(a.toNat:Int))then some ((a.toNat:Int) != 95)else some false))else(bif decide (122<(a.toNat:Int))then(bif decide ((a.toNat:Int)<48)then some ((a.toNat:Int) != 95)else(bif decide (57<(a.toNat:Int))then some ((a.toNat:Int) != 95)else some false))else some false)):Option Bool).bind λf=>(bif f then some (.done (.done false))else some (.cont (i64.wrap (d+1))))else some (.done (.cont ())))
def F_g(n:Nat)(a:List UInt8):Option Bool:=((bif decide ((a.length:Int)<1)then some true else(bif decide (24<(a.length:Int))then some true else(idx a 0).bind λe=>(bif decide ((e.toNat:Int)<97)then some true else(idx a 0).bind λf=>some (decide (122<(f.toNat:Int)))))):Option Bool).bind λi=>(bif i then some false else(iter (F_ir n a) n 0:Option (Ctl Unit Bool)).bind λg=>match g with|.cont d=>((F_gb n a).bind λh=>some (!h))|.done d=>some d)
theorem k_g(n:Nat)(f:List UInt8):Ks (F_g n f) 154 [.str f] [] (λr=>.bool r):=by
 refine Kg 7 func154 Z Z Z Z λr h=>Bd h λk e h=>Ct k [] [0] (λk=>[(22,.bool k)]) Ze Zf ?_ (λenv H F=>?_)
 .refine G0 2 Z ?_;refine vX (I (f.length:Int)) (YX Z Z EE Z) ?_;refine Go 2 Z (Is 8 e Z (λG e=>?_) (λG e=>?_))
  .exact Gl 15 Z e []
  .refine Go 1 Z ?_;refine vX (I (f.length:Int)) (YX Z Z EE Z) ?_ (gT Z);refine Go 3 Z (Is 13 e Z (λJ e=>?_) (λJ e=>?_))
   .exact Gl 10 Z e []
   .refine Go 1 Z (Bd e λL l e=>?_);refine vX (.int .u8 (L.toNat:Int)) (QQ l EE) ?_ (gT Z);refine Go 3 Z (Is 18 e Z (λm e=>?_) (λm e=>?_))
    .exact Gl 5 Z e []
    .refine Go 1 Z (Bd e λM p e=>?_);refine vX (.int .u8 (M.toNat:Int)) (QQ p EE) ?_ (gT Z);exact Gl 3 Z e []
 refine Gx 1 Z (Ef F (Cn Z h (λq h=>?_) (λq h=>?_)))
 .exact QC 7 Z h 2 []
 refine Gc 6 Z ?_;refine vX (I (f.length:Int)) (YX Z Z EE Z) ?_;refine Go 3 Z (Bd h λN O h=>Jn (b:=N) [] [0] Ze Ze Zf ?_ (λR P=>?_))
 .refine G0 1 Z (Lp [] [0,24] (λj=>[(25,I j)]) Ze O Zf (Lr []) λj V d g=>?_);refine G0 6 Z (QV Z d (λs d=>?_) (λs d=>?_))
  .exact Gc 2 Z (Qk d (Gx 1 Z (YC g d Z (Lr []))))
  refine Gc 14 Z (Bd d λQ t d=>?_);refine vX (.int .u8 (Q.toNat:Int)) (QQ t EE) ?_;refine Go 4 Z (Bd d λi a d=>Cg i [] [0,24,25] (λi=>[(48,.bool i)]) Ze Zf ?_ ?_)
  .refine G0 4 Z (Is 33 a Z (λu a=>?_) (λu a=>?_))
   .refine Go 7 Z (Is 40 a Z (λw a=>?_) (λw a=>?_))
    .exact Gl 9 Z a []
    .refine Go 5 Z (Is 45 a Z (λx a=>?_) (λx a=>?_))
     iterate 2 exact Gl 4 Z a []
   .refine Go 4 Z (Is 37 a Z (λy a=>?_) (λy a=>?_))
    .refine Go 3 Z (Is 40 a Z (λz a=>?_) (λz a=>?_))
     .exact Gl 9 Z a []
     .refine Go 5 Z (Is 45 a Z (λB a=>?_) (λB a=>?_))
      iterate 2 exact Gl 4 Z a []
    .exact Gl 12 Z a []
  refine Cn Z d (λE d=>?_) (λE d=>?_)
  .refine Gc 8 Z (Qp d ?_);obtain rfl:=Oj g d;exact Gx 1 Z (Ql (Gx 1 Z (Rt h 2 [])))
  exact Gc 7 Z (Qi d (Lr []))
 subst P;exact Gc 3 Z (Cz [] h (k_gb _ _) Z λW T h=>Gt 5 Z h 2 [])
def F_gk(n:Nat)(a:Mat):Option Unit:=some ()
theorem k_gk(n:Nat)(a:Mat):Ks (F_gk n a) 156 [.agg (Mat.c a)] [] (λ_=>.str a.Name):=by
 exact Kg 14 func156 Z Z Z Z λr h=>Rt h 2 []
def F_lm(n:Nat)(e:List Mat)(a:(List (List UInt8×Bool))×Int):Option (Ctl ((List (List UInt8×Bool))×Int) (Ctl Unit Bool)):=(bif decide (a.2<(e.length:Int))then(idx e a.2).bind λd=>(F_gk n d).bind λj=>((F_g n d.Name).bind λf=>(bif (!f)then some true else(some (QB a.1 d.Name false)).bind λg=>some g):Option Bool).bind λh=>(bif h then some (.done (.done false))else(some (Q3 a.1 d.Name true)).bind λi=>some (.cont (i,i64.wrap (a.2+1))))else some (.done (.cont ())))
def F_hb(n:Nat)(e:List Mat):Option Bool:=(iter (F_lm n e) n ([],0):Option (Ctl Unit Bool)).bind λd=>match d with|.cont a=>(some true)|.done a=>some a
theorem k_hb(n:Nat)(u:List Mat):Ks (F_hb n u) 155 [.rsl 2 (map Mat.c u),.fn (.func 156) [] []] [] (λr=>.bool r):=by
 refine Kg 7 func155 Z Z Z Z λr h=>vH Yj ?_;refine Fg 7 Z Z (Lg 3 Z Z (Bd h λw x h=>Jn (b:=w) [] [] Ze Ze Zf ?_ (λB y=>?_)))
 .refine G0 1 Z (Lp [0] [1,5,10,11] (λe=>[(12,I e.2)]) (λe=>[(0,.map (Qj A.str A.bool e.1))]) x Zf (Lr [0]) λe G a f=>?_);refine G0 6 Z (QV Z a (λj a=>?_) (λj a=>?_))
  .exact Gc 2 Z (Qk a (Gx 1 Z (YC f a Z (Lr []))))
  refine Gc 6 Z (Bd a λi m a=>Iz m Z (Go 9 Z (Cz [] a (k_gk _ _) Z λH E a=>Go 5 Z (Bd a λg d a=>Cg g [0] [1,5,8,10,11,12] (λg=>[(26,.bool g)]) Ze Zf ?_ ?_))))
  .refine G0 2 Z (Cz [] d (k_g _ _) Z λJ F d=>Go 2 Z (Is 22 d Z (λp d=>?_) (λp d=>?_)))
   .exact Gl 5 Z d [0]
   .refine Go 2 Z (Bd d λz q d=>?_);refine vX (.bool z) (Ye (ev:=A.bool) (z0:=false) (k:=i.Name) (l:=e.1) Qcd q EL ES ZR.bool) ?_ (gT Z);exact Gl 2 Z d [0]
  refine Cn Z a (λs a=>?_) (λs a=>?_)
  .refine Gc 9 Z (Qp a ?_);obtain rfl:=Oj f a;exact Gx 1 Z (Ql (Gx 1 Z (Rt h 4 [])))
  refine Gc 5 Z (Bd a λL t a=>?_);refine vU (Q8 (ev:=A.bool) (k:=i.Name) (v:=true) (l:=e.1) Qcd t Z EL) ?_;exact Fg 7 Z Z (Qi a (Lr [0]))
 subst y;exact QC 6 Z h 4 []
def F_ff(n:Nat)(a:Distance):Option Unit:=some ()
theorem k_ff(n:Nat)(a:Distance):Ks (F_ff n a) 158 [.agg (Distance.c a)] [] (λ_=>.str a.Name):=by
 exact Kg 14 func158 Z Z Z Z λr h=>Rt h 2 []
def F_ln(n:Nat)(e:List Distance)(a:(List (List UInt8×Bool))×Int):Option (Ctl ((List (List UInt8×Bool))×Int) (Ctl Unit Bool)):=(bif decide (a.2<(e.length:Int))then(idx e a.2).bind λd=>(F_ff n d).bind λj=>((F_g n d.Name).bind λf=>(bif (!f)then some true else(some (QB a.1 d.Name false)).bind λg=>some g):Option Bool).bind λh=>(bif h then some (.done (.done false))else(some (Q3 a.1 d.Name true)).bind λi=>some (.cont (i,i64.wrap (a.2+1))))else some (.done (.cont ())))
def F_gm(n:Nat)(e:List Distance):Option Bool:=(iter (F_ln n e) n ([],0):Option (Ctl Unit Bool)).bind λd=>match d with|.cont a=>(some true)|.done a=>some a
theorem k_gm(n:Nat)(u:List Distance):Ks (F_gm n u) 157 [.rsl 5 (map Distance.c u),.fn (.func 158) [] []] [] (λr=>.bool r):=by
 refine Kg 7 func157 Z Z Z Z λr h=>vH Yj ?_;refine Fg 7 Z Z (Lg 3 Z Z (Bd h λw x h=>Jn (b:=w) [] [] Ze Ze Zf ?_ (λB y=>?_)))
 .refine G0 1 Z (Lp [0] [1,5,10,11] (λe=>[(12,I e.2)]) (λe=>[(0,.map (Qj A.str A.bool e.1))]) x Zf (Lr [0]) λe G a f=>?_);refine G0 6 Z (QV Z a (λj a=>?_) (λj a=>?_))
  .exact Gc 2 Z (Qk a (Gx 1 Z (YC f a Z (Lr []))))
  refine Gc 6 Z (Bd a λi m a=>Iz m Z (Go 9 Z (Cz [] a (k_ff _ _) Z λH E a=>Go 5 Z (Bd a λg d a=>Cg g [0] [1,5,8,10,11,12] (λg=>[(26,.bool g)]) Ze Zf ?_ ?_))))
  .refine G0 2 Z (Cz [] d (k_g _ _) Z λJ F d=>Go 2 Z (Is 22 d Z (λp d=>?_) (λp d=>?_)))
   .exact Gl 5 Z d [0]
   .refine Go 2 Z (Bd d λz q d=>?_);refine vX (.bool z) (Ye (ev:=A.bool) (z0:=false) (k:=i.Name) (l:=e.1) Qcd q EL ES ZR.bool) ?_ (gT Z);exact Gl 2 Z d [0]
  refine Cn Z a (λs a=>?_) (λs a=>?_)
  .refine Gc 9 Z (Qp a ?_);obtain rfl:=Oj f a;exact Gx 1 Z (Ql (Gx 1 Z (Rt h 4 [])))
  refine Gc 5 Z (Bd a λL t a=>?_);refine vU (Q8 (ev:=A.bool) (k:=i.Name) (v:=true) (l:=e.1) Qcd t Z EL) ?_;exact Fg 7 Z Z (Qi a (Lr [0]))
 subst y;exact QC 6 Z h 4 []
def F_fn(n:Nat)(a:Wave):Option Unit:=some ()
theorem k_fn(n:Nat)(a:Wave):Ks (F_fn n a) 160 [.agg (Wave.c a)] [] (λ_=>.str a.Name):=by
 exact Kg 14 func160 Z Z Z Z λr h=>Rt h 2 []
def F_md(n:Nat)(e:List Wave)(a:(List (List UInt8×Bool))×Int):Option (Ctl ((List (List UInt8×Bool))×Int) (Ctl Unit Bool)):=(bif decide (a.2<(e.length:Int))then(idx e a.2).bind λd=>(F_fn n d).bind λj=>((F_g n d.Name).bind λf=>(bif (!f)then some true else(some (QB a.1 d.Name false)).bind λg=>some g):Option Bool).bind λh=>(bif h then some (.done (.done false))else(some (Q3 a.1 d.Name true)).bind λi=>some (.cont (i,i64.wrap (a.2+1))))else some (.done (.cont ())))
def F_fv(n:Nat)(e:List Wave):Option Bool:=(iter (F_md n e) n ([],0):Option (Ctl Unit Bool)).bind λd=>match d with|.cont a=>(some true)|.done a=>some a
theorem k_fv(n:Nat)(u:List Wave):Ks (F_fv n u) 159 [.rsl 2 (map Wave.c u),.fn (.func 160) [] []] [] (λr=>.bool r):=by
 refine Kg 7 func159 Z Z Z Z λr h=>vH Yj ?_;refine Fg 7 Z Z (Lg 3 Z Z (Bd h λw x h=>Jn (b:=w) [] [] Ze Ze Zf ?_ (λB y=>?_)))
 .refine G0 1 Z (Lp [0] [1,5,10,11] (λe=>[(12,I e.2)]) (λe=>[(0,.map (Qj A.str A.bool e.1))]) x Zf (Lr [0]) λe G a f=>?_);refine G0 6 Z (QV Z a (λj a=>?_) (λj a=>?_))
  .exact Gc 2 Z (Qk a (Gx 1 Z (YC f a Z (Lr []))))
  refine Gc 6 Z (Bd a λi m a=>Iz m Z (Go 9 Z (Cz [] a (k_fn _ _) Z λH E a=>Go 5 Z (Bd a λg d a=>Cg g [0] [1,5,8,10,11,12] (λg=>[(26,.bool g)]) Ze Zf ?_ ?_))))
  .refine G0 2 Z (Cz [] d (k_g _ _) Z λJ F d=>Go 2 Z (Is 22 d Z (λp d=>?_) (λp d=>?_)))
   .exact Gl 5 Z d [0]
   .refine Go 2 Z (Bd d λz q d=>?_);refine vX (.bool z) (Ye (ev:=A.bool) (z0:=false) (k:=i.Name) (l:=e.1) Qcd q EL ES ZR.bool) ?_ (gT Z);exact Gl 2 Z d [0]
  refine Cn Z a (λs a=>?_) (λs a=>?_)
  .refine Gc 9 Z (Qp a ?_);obtain rfl:=Oj f a;exact Gx 1 Z (Ql (Gx 1 Z (Rt h 4 [])))
  refine Gc 5 Z (Bd a λL t a=>?_);refine vU (Q8 (ev:=A.bool) (k:=i.Name) (v:=true) (l:=e.1) Qcd t Z EL) ?_;exact Fg 7 Z Z (Qi a (Lr [0]))
 subst y;exact QC 6 Z h 4 []
def F_gx(n:Nat)(a:Offence):Option Unit:=some ()
theorem k_gx(n:Nat)(a:Offence):Ks (F_gx n a) 162 [.agg (Offence.c a)] [] (λ_=>.str a.Name):=by
 exact Kg 14 func162 Z Z Z Z λr h=>Rt h 2 []
def F_mn(n:Nat)(e:List Offence)(a:(List (List UInt8×Bool))×Int):Option (Ctl ((List (List UInt8×Bool))×Int) (Ctl Unit Bool)):=(bif decide (a.2<(e.length:Int))then(idx e a.2).bind λd=>(F_gx n d).bind λj=>((F_g n d.Name).bind λf=>(bif (!f)then some true else(some (QB a.1 d.Name false)).bind λg=>some g):Option Bool).bind λh=>(bif h then some (.done (.done false))else(some (Q3 a.1 d.Name true)).bind λi=>some (.cont (i,i64.wrap (a.2+1))))else some (.done (.cont ())))
def F_hp(n:Nat)(e:List Offence):Option Bool:=(iter (F_mn n e) n ([],0):Option (Ctl Unit Bool)).bind λd=>match d with|.cont a=>(some true)|.done a=>some a
theorem k_hp(n:Nat)(u:List Offence):Ks (F_hp n u) 161 [.rsl 4 (map Offence.c u),.fn (.func 162) [] []] [] (λr=>.bool r):=by
 refine Kg 7 func161 Z Z Z Z λr h=>vH Yj ?_;refine Fg 7 Z Z (Lg 3 Z Z (Bd h λw x h=>Jn (b:=w) [] [] Ze Ze Zf ?_ (λB y=>?_)))
 .refine G0 1 Z (Lp [0] [1,5,10,11] (λe=>[(12,I e.2)]) (λe=>[(0,.map (Qj A.str A.bool e.1))]) x Zf (Lr [0]) λe G a f=>?_);refine G0 6 Z (QV Z a (λj a=>?_) (λj a=>?_))
  .exact Gc 2 Z (Qk a (Gx 1 Z (YC f a Z (Lr []))))
  refine Gc 6 Z (Bd a λi m a=>Iz m Z (Go 9 Z (Cz [] a (k_gx _ _) Z λH E a=>Go 5 Z (Bd a λg d a=>Cg g [0] [1,5,8,10,11,12] (λg=>[(26,.bool g)]) Ze Zf ?_ ?_))))
  .refine G0 2 Z (Cz [] d (k_g _ _) Z λJ F d=>Go 2 Z (Is 22 d Z (λp d=>?_) (λp d=>?_)))
   .exact Gl 5 Z d [0]
   .refine Go 2 Z (Bd d λz q d=>?_);refine vX (.bool z) (Ye (ev:=A.bool) (z0:=false) (k:=i.Name) (l:=e.1) Qcd q EL ES ZR.bool) ?_ (gT Z);exact Gl 2 Z d [0]
  refine Cn Z a (λs a=>?_) (λs a=>?_)
  .refine Gc 9 Z (Qp a ?_);obtain rfl:=Oj f a;exact Gx 1 Z (Ql (Gx 1 Z (Rt h 4 [])))
  refine Gc 5 Z (Bd a λL t a=>?_);refine vU (Q8 (ev:=A.bool) (k:=i.Name) (v:=true) (l:=e.1) Qcd t Z EL) ?_;exact Fg 7 Z Z (Qi a (Lr [0]))
 subst y;exact QC 6 Z h 4 []
def F_gl(n:Nat)(a:Category):Option Unit:=some ()
theorem k_gl(n:Nat)(a:Category):Ks (F_gl n a) 164 [.agg (Category.c a)] [] (λ_=>.str a.Name):=by
 exact Kg 14 func164 Z Z Z Z λr h=>Rt h 2 []
def F_ml(n:Nat)(e:List Category)(a:(List (List UInt8×Bool))×Int):Option (Ctl ((List (List UInt8×Bool))×Int) (Ctl Unit Bool)):=(bif decide (a.2<(e.length:Int))then(idx e a.2).bind λd=>(F_gl n d).bind λj=>((F_g n d.Name).bind λf=>(bif (!f)then some true else(some (QB a.1 d.Name false)).bind λg=>some g):Option Bool).bind λh=>(bif h then some (.done (.done false))else(some (Q3 a.1 d.Name true)).bind λi=>some (.cont (i,i64.wrap (a.2+1))))else some (.done (.cont ())))
def F_gq(n:Nat)(e:List Category):Option Bool:=(iter (F_ml n e) n ([],0):Option (Ctl Unit Bool)).bind λd=>match d with|.cont a=>(some true)|.done a=>some a
theorem k_gq(n:Nat)(u:List Category):Ks (F_gq n u) 163 [.rsl 3 (map Category.c u),.fn (.func 164) [] []] [] (λr=>.bool r):=by
 refine Kg 7 func163 Z Z Z Z λr h=>vH Yj ?_;refine Fg 7 Z Z (Lg 3 Z Z (Bd h λw x h=>Jn (b:=w) [] [] Ze Ze Zf ?_ (λB y=>?_)))
 .refine G0 1 Z (Lp [0] [1,5,10,11] (λe=>[(12,I e.2)]) (λe=>[(0,.map (Qj A.str A.bool e.1))]) x Zf (Lr [0]) λe G a f=>?_);refine G0 6 Z (QV Z a (λj a=>?_) (λj a=>?_))
  .exact Gc 2 Z (Qk a (Gx 1 Z (YC f a Z (Lr []))))
  refine Gc 6 Z (Bd a λi m a=>Iz m Z (Go 9 Z (Cz [] a (k_gl _ _) Z λH E a=>Go 5 Z (Bd a λg d a=>Cg g [0] [1,5,8,10,11,12] (λg=>[(26,.bool g)]) Ze Zf ?_ ?_))))
  .refine G0 2 Z (Cz [] d (k_g _ _) Z λJ F d=>Go 2 Z (Is 22 d Z (λp d=>?_) (λp d=>?_)))
   .exact Gl 5 Z d [0]
   .refine Go 2 Z (Bd d λz q d=>?_);refine vX (.bool z) (Ye (ev:=A.bool) (z0:=false) (k:=i.Name) (l:=e.1) Qcd q EL ES ZR.bool) ?_ (gT Z);exact Gl 2 Z d [0]
  refine Cn Z a (λs a=>?_) (λs a=>?_)
  .refine Gc 9 Z (Qp a ?_);obtain rfl:=Oj f a;exact Gx 1 Z (Ql (Gx 1 Z (Rt h 4 [])))
  refine Gc 5 Z (Bd a λL t a=>?_);refine vU (Q8 (ev:=A.bool) (k:=i.Name) (v:=true) (l:=e.1) Qcd t Z EL) ?_;exact Fg 7 Z Z (Qi a (Lr [0]))
 subst y;exact QC 6 Z h 4 []
def F_fm(n:Nat)(a:Course):Option Bool:=((F_g n a.Name).bind λd=>(bif d then(F_hb n a.Mats).bind λe=>(bif e then(F_gm n a.Distances).bind λf=>(bif f then(F_fv n a.Waves).bind λg=>(bif g then(F_hp n a.Offences).bind λh=>(bif h then(F_gq n a.Categories).bind λi=>some i else some false)else some false)else some false)else some false)else some false):Option Bool).bind λj=>some j
theorem k_fm(n:Nat)(k:Course):Ks (F_fm n k) 108 [.agg (Course.c k)] [] (λr=>.bool r):=by
 refine Kg 7 func108 Z Z Z Z λr h=>Bd h λd a h=>Cg d [] [] (λd=>[(2,.bool d)]) Ze Zf ?_ ?_
 .refine G0 3 Z (Cz [] a (k_g _ _) Z λu l a=>Go 1 Z (Is 6 a Z (λe a=>?_) (λe a=>?_)))
  .refine Go 2 Z (Cz [] a (k_hb _ _) Z λw m a=>Go 2 Z (Is 11 a Z (λf a=>?_) (λf a=>?_)))
   .refine Go 2 Z (Cz [] a (k_gm _ _) Z λx p a=>Go 2 Z (Is 16 a Z (λg a=>?_) (λg a=>?_)))
    .refine Go 2 Z (Cz [] a (k_fv _ _) Z λy q a=>Go 2 Z (Is 21 a Z (λi a=>?_) (λi a=>?_)))
     .refine Go 2 Z (Cz [] a (k_hp _ _) Z λz s a=>Go 2 Z (Is 26 a Z (λj a=>?_) (λj a=>?_)))
      .exact Go 2 Z (Cz [] a (k_gq _ _) Z λB t a=>Gl 3 Z a [])
      .exact Gl 6 Z a []
     .exact Gl 11 Z a []
    .exact Gl 16 Z a []
   .exact Gl 21 Z a []
  .exact Gl 26 Z a []
 exact QC 1 Z h 2 []
def F_go(n:Nat)(a:Int)(d:Int)(e:Int):Option Bool:=((bif decide (a<d)then some true else some (decide (e<a))):Option Bool).bind λf=>some f
theorem k_go(n:Nat)(e:Int)(f:Int)(g:Int):Ks (F_go n e f g) 209 [I e,.ptr 0 0,.ptr 1 0] [.cells 3 [I f],.cells 3 [I g]] (λr=>.bool r):=by
 refine Kg 6 func209 Z Z Z Z λr h=>Bd h λd a h=>Cg d [0,1] [] (λd=>[(4,.bool d)]) Ze Zf ?_ ?_
 .refine G0 5 Z (Is 8 a Z (λi a=>?_) (λi a=>?_))
  iterate 2 exact Gl 6 Z a [0,1]
 exact QC 1 Z h 4 [0,1]
def F_mb(n:Nat)(d:List Int)(g:Int)(h:Int)(a:Int):Option (Ctl Int (Ctl Unit Int)):=(bif decide (a<(d.length:Int))then(idx d a).bind λe=>(F_go n e g h).bind λf=>(bif f then some (.done (.done a))else some (.cont (i64.wrap (a+1))))else some (.done (.cont ())))
def F_jq(n:Nat)(e:List Int)(f:Int)(g:Int):Option Int:=(iter (F_mb n e f g) n 0:Option (Ctl Unit Int)).bind λd=>match d with|.cont a=>(some (-1))|.done a=>some a
theorem k_jq(n:Nat)(j:List Int)(k:Int)(l:Int):Ks (F_jq n j k l) 194 [.rsl 1 (map (Qe .i64) j),.fn (.func 209) [] [.ptr 0 0,.ptr 1 0]] [.cells 3 [I k],.cells 3 [I l]] (λr=>I r):=by
 refine Kg 9 func194 Z Z Z Z λr h=>Lg 3 Z Z (Bd h λm p h=>Jn (b:=m) [0,1] [] Ze Ze Zf ?_ (λs q=>?_))
 .refine G0 1 Z (Lp [0,1] [0,1,7] (λe=>[(8,I e)]) Ze p Zf (Lr [0,1]) λe u a d=>?_);refine G0 6 Z (QV Z a (λf a=>?_) (λf a=>?_))
  .exact Gc 2 Z (Qk a (Gx 1 Z (YC d a Z (Lr [0,1]))))
  refine Gc 15 Z (Bd a λw g a=>Iz g Z (Go 1 Z (Cz [0,1] a (k_go _ _ _ _) Z λx t a=>Go 2 Z (Cn Z a (λi a=>?_) (λi a=>?_)))))
  .refine Gc 9 Z (Qp a ?_);obtain rfl:=Oj d a;exact Gx 1 Z (Ql (Gx 1 Z (Rt h 4 [0,1])))
  exact Gc 7 Z (Qi a (Lr [0,1]))
 subst q;exact QC 6 Z h 4 [0,1]
def F_fy(n:Nat)(a:List Int)(d:Int)(e:Int):Option Bool:=(F_jq n a d e).bind λf=>some (decide (0<=f))
theorem k_fy(n:Nat)(a:List Int)(d:Int)(e:Int):Ks (F_fy n a d e) 116 [.rsl 1 (map (Qe .i64) a),.fn (.func 209) [] [.ptr 0 0,.ptr 1 0]] [.cells 3 [I d],.cells 3 [I e]] (λr=>.bool r):=by
 exact Kg 9 func116 Z Z Z Z λr h=>Cz [0,1] h (k_jq _ _ _ _) Z λg f h=>Gt 5 Z h 4 [0,1]
def F_a(n:Nat)(a:Int)(d:Int)(e:List Int):Option Bool:=(F_fy n e a d).bind λf=>some (!f)
theorem k_a(n:Nat)(a:Int)(d:Int)(e:List Int):Ks (F_a n a d e) 166 [I a,I d,.rsl 1 (map (Qe .i64) e)] [] (λr=>.bool r):=by
 exact Kg 11 func166 Z Z Z Z λr h=>Cz [0,1] h (k_fy _ _ _ _) Z λg f h=>Gt 5 Z h 6 []
def F_dp(n:Nat)(a:Mat):Option Bool:=(F_a n 1 3 [a.Kind]).bind λd=>some d
theorem k_dp(n:Nat)(a:Mat):Ks (F_dp n a) 175 [.agg (Mat.c a)] [] (λr=>.bool r):=by
 refine Kg 10 func175 Z Z Z Z λr h=>vH (El (xs:=[.tmp 4]) (es:=map (Qe .i64) [a.Kind]) QE Z Z Z Z Z ⟨Z,trivial⟩ Z Z) ?_;exact FE Z (Cb h (k_a _ _ _ _) Z (ls (ls (lo ln))) λe d h=>Gt 4 Z h 2 [])
def F_jg(n:Nat)(a:Mat):Option Bool:=(F_dp n a).bind λd=>some (!d)
theorem k_jg(n:Nat)(a:Mat):Ks (F_jg n a) 215 [.agg (Mat.c a),.ptr 0 0] [.cells 253 [.fn (.func 175) [] []]] (λr=>.bool r):=by
 exact Kg 10 func215 Z Z Z Z λr h=>Cz [] h (k_dp _ _) Z λe d h=>Gt 5 Z h 3 [0]
def F_lw(n:Nat)(d:List Mat)(a:Int):Option (Ctl Int (Ctl Unit Int)):=(bif decide (a<(d.length:Int))then(idx d a).bind λe=>(F_jg n e).bind λf=>(bif f then some (.done (.done a))else some (.cont (i64.wrap (a+1))))else some (.done (.cont ())))
def F_hs(n:Nat)(e:List Mat):Option Int:=(iter (F_lw n e) n 0:Option (Ctl Unit Int)).bind λd=>match d with|.cont a=>(some (-1))|.done a=>some a
theorem k_hs(n:Nat)(j:List Mat):Ks (F_hs n j) 237 [.rsl 2 (map Mat.c j),.fn (.func 215) [] [.ptr 0 0]] [.cells 253 [.fn (.func 175) [] []]] (λr=>I r):=by
 refine Kg 9 func237 Z Z Z Z λr h=>Lg 3 Z Z (Bd h λk l h=>Jn (b:=k) [0] [] Ze Ze Zf ?_ (λp m=>?_))
 .refine G0 1 Z (Lp [0] [0,1,7] (λe=>[(8,I e)]) Ze l Zf (Lr [0]) λe s a d=>?_);refine G0 6 Z (QV Z a (λf a=>?_) (λf a=>?_))
  .exact Gc 2 Z (Qk a (Gx 1 Z (YC d a Z (Lr [0]))))
  refine Gc 15 Z (Bd a λt g a=>Iz g Z (Go 1 Z (Cz [0] a (k_jg _ _) Z λu q a=>Go 2 Z (Cn Z a (λi a=>?_) (λi a=>?_)))))
  .refine Gc 9 Z (Qp a ?_);obtain rfl:=Oj d a;exact Gx 1 Z (Ql (Gx 1 Z (Rt h 4 [0])))
  exact Gc 7 Z (Qi a (Lr [0]))
 subst m;exact QC 6 Z h 4 [0]
def F_gj(n:Nat)(a:List Mat):Option Bool:=(F_hs n a).bind λd=>some (decide (0<=d))
theorem k_gj(n:Nat)(a:List Mat):Ks (F_gj n a) 214 [.rsl 2 (map Mat.c a),.fn (.func 215) [] [.ptr 0 0]] [.cells 253 [.fn (.func 175) [] []]] (λr=>.bool r):=by
 exact Kg 9 func214 Z Z Z Z λr h=>Cz [0] h (k_hs _ _) Z λe d h=>Gt 5 Z h 4 [0]
def F_ey(n:Nat)(a:List Mat):Option Bool:=(F_gj n a).bind λd=>some (!d)
theorem k_ey(n:Nat)(a:List Mat):Ks (F_ey n a) 174 [.rsl 2 (map Mat.c a),.fn (.func 175) [] []] [] (λr=>.bool r):=by
 exact Kg 10 func174 Z Z Z Z λr h=>Cz [0] h (k_gj _ _) Z λe d h=>Gt 5 Z h 4 []
def F_ew(n:Nat)(a:Leg)(d:Int):Option Bool:=((F_a n 0 d [a.From,a.To]).bind λe=>(bif e then(F_a n 0 68719476736 [a.Min,a.Max]).bind λf=>(bif f then some (decide (a.Min<=a.Max))else some false)else some false):Option Bool).bind λg=>some g
theorem k_ew(n:Nat)(d:Leg)(g:Int):Ks (F_ew n d g) 171 [.agg (Leg.c d),.ptr 0 0] [.cells 3 [I g]] (λr=>.bool r):=by
 refine Kg 7 func171 Z Z Z Z λr h=>Bd h λe a h=>Cg e [0] [] (λe=>[(3,.bool e)]) Ze Zf ?_ ?_
 .refine G0 6 Z (vH (El (xs:=[.tmp 6,.tmp 8]) (es:=map (Qe .i64) [d.From,d.To]) QE Z Z Z Z Z ⟨Z,Z,trivial⟩ Z Z) ?_);refine FE Z (Cb a (k_a _ _ _ _) Z (ls (ls (lo ln))) λl j a=>Go 1 Z (Is 11 a Z (λi a=>?_) (λi a=>?_)))
  .refine Go 4 Z (vH (El (xs:=[.tmp 13,.tmp 15]) (es:=map (Qe .i64) [d.Min,d.Max]) QE Z Z Z Z Z ⟨Z,Z,trivial⟩ Z Z) ?_ (gT Z));refine FE Z (Cb a (k_a _ _ _ _) Z (ls (ls (lo ln))) λm k a=>Go 2 Z (Is 19 a Z (λf a=>?_) (λf a=>?_)))
   iterate 2 exact Gl 8 Z a [0]
  .exact Gl 16 Z a [0]
 exact QC 1 Z h 3 [0]
def F_jd(n:Nat)(a:Leg)(d:Int):Option Bool:=(F_ew n a d).bind λe=>some (!e)
theorem k_jd(n:Nat)(a:Leg)(d:Int):Ks (F_jd n a d) 217 [.agg (Leg.c a),.ptr 0 0] [.cells 161 [.fn (.func 171) [] [.ptr 1 0]],.cells 3 [I d]] (λr=>.bool r):=by
 exact Kg 10 func217 Z Z Z Z λr h=>Cz [1] h (k_ew _ _ _) Z λf e h=>Gt 5 Z h 3 [0,1]
def F_ll(n:Nat)(d:List Leg)(g:Int)(a:Int):Option (Ctl Int (Ctl Unit Int)):=(bif decide (a<(d.length:Int))then(idx d a).bind λe=>(F_jd n e g).bind λf=>(bif f then some (.done (.done a))else some (.cont (i64.wrap (a+1))))else some (.done (.cont ())))
def F_ft(n:Nat)(e:List Leg)(f:Int):Option Int:=(iter (F_ll n e f) n 0:Option (Ctl Unit Int)).bind λd=>match d with|.cont a=>(some (-1))|.done a=>some a
theorem k_ft(n:Nat)(j:List Leg)(k:Int):Ks (F_ft n j k) 75 [.rsl 4 (map Leg.c j),.fn (.func 217) [] [.ptr 0 0]] [.cells 161 [.fn (.func 171) [] [.ptr 1 0]],.cells 3 [I k]] (λr=>I r):=by
 refine Kg 9 func75 Z Z Z Z λr h=>Lg 3 Z Z (Bd h λl m h=>Jn (b:=l) [0,1] [] Ze Ze Zf ?_ (λq p=>?_))
 .refine G0 1 Z (Lp [0,1] [0,1,7] (λe=>[(8,I e)]) Ze m Zf (Lr [0,1]) λe t a d=>?_);refine G0 6 Z (QV Z a (λf a=>?_) (λf a=>?_))
  .exact Gc 2 Z (Qk a (Gx 1 Z (YC d a Z (Lr [0,1]))))
  refine Gc 15 Z (Bd a λu g a=>Iz g Z (Go 1 Z (Cz [0,1] a (k_jd _ _ _) Z λw s a=>Go 2 Z (Cn Z a (λi a=>?_) (λi a=>?_)))))
  .refine Gc 9 Z (Qp a ?_);obtain rfl:=Oj d a;exact Gx 1 Z (Ql (Gx 1 Z (Rt h 4 [0,1])))
  exact Gc 7 Z (Qi a (Lr [0,1]))
 subst p;exact QC 6 Z h 4 [0,1]
def F_gf(n:Nat)(a:List Leg)(d:Int):Option Bool:=(F_ft n a d).bind λe=>some (decide (0<=e))
theorem k_gf(n:Nat)(a:List Leg)(d:Int):Ks (F_gf n a d) 216 [.rsl 4 (map Leg.c a),.fn (.func 217) [] [.ptr 0 0]] [.cells 161 [.fn (.func 171) [] [.ptr 1 0]],.cells 3 [I d]] (λr=>.bool r):=by
 exact Kg 9 func216 Z Z Z Z λr h=>Cz [0,1] h (k_ft _ _ _) Z λf e h=>Gt 5 Z h 4 [0,1]
def F_ds(n:Nat)(a:List Leg)(d:Int):Option Bool:=(F_gf n a d).bind λe=>some (!e)
theorem k_ds(n:Nat)(a:List Leg)(d:Int):Ks (F_ds n a d) 176 [.rsl 4 (map Leg.c a),.fn (.func 171) [] [.ptr 0 0]] [.cells 3 [I d]] (λr=>.bool r):=by
 exact Kg 10 func176 Z Z Z Z λr h=>Cz [1,0] h (k_gf _ _ _) Z λf e h=>Gt 5 Z h 4 [0]
def F_fq(n:Nat)(a:Leg):Option Unit:=some ()
theorem k_fq(n:Nat)(a:Leg):Kq (F_fq n a) 178 [.agg (Leg.c a)] [] (λ_=>.agg [I a.From,I a.To]) (λ_=>[.cells 188 [I a.From,I a.To]]):=by
 refine Kg 17 func178 Z Z Z Z λr h=>?_;obtain rfl:=Oi h;exact Rx [1] [2] Z (QL Z (Qf isAgg188 sizeOf188 Z Z Z)) ⟨Z,Z⟩
def F_kp(n:Nat)(e:List Leg)(a:(List (Ui×Bool))×Int):Option (Ctl ((List (Ui×Bool))×Int) (List (Ui×Bool))):=(bif decide (a.2<(e.length:Int))then(idx e a.2).bind λd=>(F_fq n d).bind λg=>(some (Q3 a.1 ({from_:=d.From,to_:=d.To:Ui}) true)).bind λf=>some (.cont (f,i64.wrap (a.2+1)))else some (.done a.1))
def F_gr(n:Nat)(a:List Leg):Option Bool:=(iter (F_kp n a) n ([],0):Option (List (Ui×Bool))).bind λd=>some ((d.length:Int)==(a.length:Int))
theorem k_gr(n:Nat)(p:List Leg):Ks (F_gr n p) 177 [.rsl 4 (map Leg.c p),.fn (.func 178) [] []] [] (λr=>.bool r):=by
 refine Kg 7 func177 Z Z Z Z λr h=>vH Yj ?_;refine Fg 7 Z Z (Lg 3 Z Z (Bd h λd q h=>Cg d [0] [0,5] Ze (λd=>[(0,.map (Qj (λx=>A.agg (Ui.c x)) A.bool d))]) Zf ?_ ?_))
 .refine G0 1 Z (Lp [0] [0,1,5,9,10] (λe=>[(11,I e.2)]) (λe=>[(0,.map (Qj (λx=>A.agg (Ui.c x)) A.bool e.1))]) q Zf (Lr [0]) λe t a g=>?_);refine G0 6 Z (QV Z a (λi a=>?_) (λi a=>?_))
  .exact Gc 2 Z (Qk a (Gx 1 Z (cQo g a (Lr [0]))))
  refine Gc 6 Z (Bd a λf j a=>Iz j Z (Go 9 Z (Cd [] a (k_fq _ _) Z λu s a=>FE Z (Bd a λw m a=>?_))));refine vU (Q8 (ev:=A.bool) (k:=({from_:=f.From,to_:=f.To:Ui})) (v:=true) (l:=e.1) QdY m Z E8) ?_;exact Fg 7 Z Z (Qi a (Lr [0]))
 refine Gc 3 Z ?_;refine vX (I (d.length:Int)) (Qe0 (l:=d) E8 Z) ?_;exact Go 1 Z (Lm Z (Gt 5 Z h 4 []))
def F_dw(rec46:(List Part)->Int->Option Bool)(n:Nat)(a:Part)(d:Int):Option Bool:=(bif (a.Laps==0)then((F_a n 0 d [a.Mat]).bind λh=>(bif h then some ((a.Parts.length:Int)==0)else some false):Option Bool).bind λi=>some i else((F_a n 1 64 [a.Laps]).bind λe=>(bif e then(bif (a.Mat==0)then(bif decide (0<(a.Parts.length:Int))then(rec46 a.Parts d).bind λf=>some f else some false)else some false)else some false):Option Bool).bind λg=>some g)
theorem k_dw(rec46:(List Part)->Int->Option Bool)(f:∀(d:List Part) (g:Int) (r:Bool),rec46 d g=some r->Csm prog 167 [.rsl 3 (map Part.enc d),.fn (.func 165) [] [.ptr 0 0,.ptr 1 0]] [.cells 3 [I g],.cells 245 [.fn (.func 165) [] [.ptr 0 0,.ptr 1 0]]] (λr=>.bool r) r)(n:Nat)(d:Part)(g:Int):Ks (F_dw rec46 n d g) 165 [.agg (Part.c d),.ptr 0 0,.ptr 1 0] [.cells 3 [I g],.cells 245 [.fn (.func 165) [] [.ptr 0 0,.ptr 1 0]]] (λr=>.bool r):=by
 refine Kg 14 func165 Z Z Z Z λr h=>Cn Z h (λp h=>?_) (λp h=>?_)
 .refine Gc 1 Z (Bd h λj e h=>Ct j [0,1] [] (λj=>[(4,.bool j)]) Ze Zf ?_ (λenv H q=>?_))
  .refine G0 4 Z (vH (El (xs:=[.tmp 10]) (es:=map (Qe .i64) [d.Mat]) QE Z Z Z Z Z ⟨Z,trivial⟩ Z Z) ?_);refine FE Z (Cb e (k_a _ _ _ _) Z (ls (ls (lo ln))) λz w e=>Go 1 Z (Is 13 e Z (λs e=>?_) (λs e=>?_)))
   .exact Go 2 Z (Lm Z (Gl 4 Z e [0,1]))
   .exact Gl 7 Z e [0,1]
  exact Gx 1 Z (Ef q (QC 2 Z h 4 [0,1]))
 refine Gc 3 Z (Bd h λi a h=>Cg i [0,1] [] (λi=>[(4,.bool i)]) Ze Zf ?_ ?_)
 .refine G0 3 Z (vH (El (xs:=[.tmp 20]) (es:=map (Qe .i64) [d.Laps]) QE Z Z Z Z Z ⟨Z,trivial⟩ Z Z) ?_);refine FE Z (Cb a (k_a _ _ _ _) Z (ls (ls (lo ln))) λx t a=>Go 1 Z (Is 23 a Z (λk a=>?_) (λk a=>?_)))
  .refine Go 5 Z (Is 28 a Z (λl a=>?_) (λl a=>?_))
   .refine Go 2 Z (Lg 3 Z Z (Is 34 a Z (λm a=>?_) (λm a=>?_)))
    .exact Go 3 Z (Cz [0,1] a (f _ _) Z λy u a=>Gl 3 Z a [0,1])
    .exact Gl 7 Z a [0,1]
   .exact Gl 13 Z a [0,1]
  .exact Gl 18 Z a [0,1]
 exact QC 1 Z h 4 [0,1]
def F_ki(rec46:(List Part)->Int->Option Bool)(n:Nat)(a:Part)(d:Int):Option Bool:=(F_dw rec46 n a d).bind λe=>some (!e)
theorem k_ki(rec46:(List Part)->Int->Option Bool)(a:∀(d:List Part) (e:Int) (r:Bool),rec46 d e=some r->Csm prog 167 [.rsl 3 (map Part.enc d),.fn (.func 165) [] [.ptr 0 0,.ptr 1 0]] [.cells 3 [I e],.cells 245 [.fn (.func 165) [] [.ptr 0 0,.ptr 1 0]]] (λr=>.bool r) r)(n:Nat)(d:Part)(e:Int):Ks (F_ki rec46 n d e) 211 [.agg (Part.c d),.ptr 0 0] [.cells 245 [.fn (.func 165) [] [.ptr 1 0,.ptr 2 0]],.cells 3 [I e],.cells 245 [.fn (.func 165) [] [.ptr 1 0,.ptr 2 0]]] (λr=>.bool r):=by
 exact Kg 10 func211 Z Z Z Z λr h=>Cz [1,2] h (k_dw rec46 a _ _ _) Z λg f h=>Gt 5 Z h 3 [0,1,2]
def F_mm(n:Nat)(d:List Part)(g:Int)(rec46:(List Part)->Int->Option Bool)(a:Int):Option (Ctl Int (Ctl Unit Int)):=(bif decide (a<(d.length:Int))then(idx d a).bind λe=>(F_ki rec46 n e g).bind λf=>(bif f then some (.done (.done a))else some (.cont (i64.wrap (a+1))))else some (.done (.cont ())))
def F_ii(rec46:(List Part)->Int->Option Bool)(n:Nat)(e:List Part)(f:Int):Option Int:=(iter (F_mm n e f rec46) n 0:Option (Ctl Unit Int)).bind λd=>match d with|.cont a=>(some (-1))|.done a=>some a
theorem k_ii(rec46:(List Part)->Int->Option Bool)(d:∀(e:List Part) (f:Int) (r:Bool),rec46 e f=some r->Csm prog 167 [.rsl 3 (map Part.enc e),.fn (.func 165) [] [.ptr 0 0,.ptr 1 0]] [.cells 3 [I f],.cells 245 [.fn (.func 165) [] [.ptr 0 0,.ptr 1 0]]] (λr=>.bool r) r)(n:Nat)(e:List Part)(f:Int):Ks (F_ii rec46 n e f) 235 [.rsl 3 (map Part.enc e),.fn (.func 211) [] [.ptr 0 0]] [.cells 245 [.fn (.func 165) [] [.ptr 1 0,.ptr 2 0]],.cells 3 [I f],.cells 245 [.fn (.func 165) [] [.ptr 1 0,.ptr 2 0]]] (λr=>I r):=by
 refine Kg 9 func235 Z Z Z Z λr h=>Lg 3 Z Z (Bd h λm p h=>Jn (b:=m) [0,1,2] [] Ze Ze Zf ?_ (λt q=>?_))
 .refine G0 1 Z (Lp [0,1,2] [0,1,7] (λi=>[(8,I i)]) Ze p Zf (Lr [0,1,2]) λi w a g=>?_);refine G0 6 Z (QV Z a (λj a=>?_) (λj a=>?_))
  .exact Gc 2 Z (Qk a (Gx 1 Z (YC g a Z (Lr [0,1,2]))))
  refine Gc 15 Z (Bd a λs k a=>IzE k (QF s) Z (Go 1 Z (Cz [0,1,2] a (k_ki rec46 d _ _ _) Z λx u a=>Go 2 Z (Cn Z a (λl a=>?_) (λl a=>?_)))))
  .refine Gc 9 Z (Qp a ?_);obtain rfl:=Oj g a;exact Gx 1 Z (Ql (Gx 1 Z (Rt h 4 [0,1,2])))
  exact Gc 7 Z (Qi a (Lr [0,1,2]))
 subst q;exact QC 6 Z h 4 [0,1,2]
def F_ic(rec46:(List Part)->Int->Option Bool)(n:Nat)(a:List Part)(d:Int):Option Bool:=(F_ii rec46 n a d).bind λe=>some (decide (0<=e))
theorem k_ic(rec46:(List Part)->Int->Option Bool)(a:∀(d:List Part) (e:Int) (r:Bool),rec46 d e=some r->Csm prog 167 [.rsl 3 (map Part.enc d),.fn (.func 165) [] [.ptr 0 0,.ptr 1 0]] [.cells 3 [I e],.cells 245 [.fn (.func 165) [] [.ptr 0 0,.ptr 1 0]]] (λr=>.bool r) r)(n:Nat)(d:List Part)(e:Int):Ks (F_ic rec46 n d e) 210 [.rsl 3 (map Part.enc d),.fn (.func 211) [] [.ptr 0 0]] [.cells 245 [.fn (.func 165) [] [.ptr 1 0,.ptr 2 0]],.cells 3 [I e],.cells 245 [.fn (.func 165) [] [.ptr 1 0,.ptr 2 0]]] (λr=>.bool r):=by
 exact Kg 9 func210 Z Z Z Z λr h=>Cz [0,1,2] h (k_ii rec46 a _ _ _) Z λg f h=>Gt 5 Z h 4 [0,1,2]
def B_al(rec46:(List Part)->Int->Option Bool)(n:Nat)(a:List Part)(d:Int):Option Bool:=(F_ic rec46 n a d).bind λe=>some (!e)
theorem Qco(rec46:(List Part)->Int->Option Bool)(a:∀(d:List Part) (e:Int) (r:Bool),rec46 d e=some r->Csm prog 167 [.rsl 3 (map Part.enc d),.fn (.func 165) [] [.ptr 0 0,.ptr 1 0]] [.cells 3 [I e],.cells 245 [.fn (.func 165) [] [.ptr 0 0,.ptr 1 0]]] (λr=>.bool r) r)(n:Nat)(d:List Part)(e:Int)(r:Bool)(h:B_al rec46 n d e=some r):Csm prog 167 [.rsl 3 (map Part.enc d),.fn (.func 165) [] [.ptr 0 0,.ptr 1 0]] [.cells 3 [I e],.cells 245 [.fn (.func 165) [] [.ptr 0 0,.ptr 1 0]]] (λr=>.bool r) r:=by
 refine QW func167 Z Z Z ?_;exact G0 10 Z (Cz [2,0,1] h (k_ic rec46 a _ _ _) Z λg f h=>Gt 5 Z h 4 [0,1])
def F_al:Nat->(List Part)->Int->Option Bool
  |0=>λ_ _=>none
  |n+1=>B_al (F_al n) n
theorem k_al(n:Nat):∀(a:List Part) (d:Int) (r:Bool),F_al n a d=some r->Csm prog 167 [.rsl 3 (map Part.enc a),.fn (.func 165) [] [.ptr 0 0,.ptr 1 0]] [.cells 3 [I d],.cells 245 [.fn (.func 165) [] [.ptr 0 0,.ptr 1 0]]] (λr=>.bool r) r:=by
  induction n with
  |zero=>intro a d r h;cases h
  |succ n ih=>intro a d r h;exact Qco _ ih n a d r h
def F_db(n:Nat)(a:Cutoff)(e:Int):Option Bool:=((F_a n 0 e [a.Mat]).bind λf=>(bif f then(bif decide (1<=a.Lap)then(F_a n 0 1099511627776 [a.Limit]).bind λd=>some d else some false)else some false):Option Bool).bind λg=>some g
theorem k_db(n:Nat)(d:Cutoff)(f:Int):Ks (F_db n d f) 168 [.agg (Cutoff.c d),.ptr 0 0] [.cells 3 [I f]] (λr=>.bool r):=by
 refine Kg 7 func168 Z Z Z Z λr h=>Bd h λe a h=>Cg e [0] [] (λe=>[(3,.bool e)]) Ze Zf ?_ ?_
 .refine G0 4 Z (vH (El (xs:=[.tmp 6]) (es:=map (Qe .i64) [d.Mat]) QE Z Z Z Z Z ⟨Z,trivial⟩ Z Z) ?_);refine FE Z (Cb a (k_a _ _ _ _) Z (ls (ls (lo ln))) λm k a=>Go 1 Z (Is 9 a Z (λg a=>?_) (λg a=>?_)))
  .refine Go 5 Z (Is 14 a Z (λi a=>?_) (λi a=>?_))
   .refine Go 2 Z (vH (El (xs:=[.tmp 16]) (es:=map (Qe .i64) [d.Limit]) QE Z Z Z Z Z ⟨Z,trivial⟩ Z Z) ?_ (gT Z));exact FE Z (Cb a (k_a _ _ _ _) Z (ls (ls (lo ln))) λl j a=>Gl 3 Z a [0])
   .exact Gl 7 Z a [0]
  .exact Gl 12 Z a [0]
 exact QC 1 Z h 3 [0]
def F_iv(n:Nat)(a:Cutoff)(d:Int):Option Bool:=(F_db n a d).bind λe=>some (!e)
theorem k_iv(n:Nat)(a:Cutoff)(d:Int):Ks (F_iv n a d) 213 [.agg (Cutoff.c a),.ptr 0 0] [.cells 248 [.fn (.func 168) [] [.ptr 1 0]],.cells 3 [I d]] (λr=>.bool r):=by
 exact Kg 10 func213 Z Z Z Z λr h=>Cz [1] h (k_db _ _ _) Z λf e h=>Gt 5 Z h 3 [0,1]
def F_ma(n:Nat)(d:List Cutoff)(g:Int)(a:Int):Option (Ctl Int (Ctl Unit Int)):=(bif decide (a<(d.length:Int))then(idx d a).bind λe=>(F_iv n e g).bind λf=>(bif f then some (.done (.done a))else some (.cont (i64.wrap (a+1))))else some (.done (.cont ())))
def F_hj(n:Nat)(e:List Cutoff)(f:Int):Option Int:=(iter (F_ma n e f) n 0:Option (Ctl Unit Int)).bind λd=>match d with|.cont a=>(some (-1))|.done a=>some a
theorem k_hj(n:Nat)(j:List Cutoff)(k:Int):Ks (F_hj n j k) 236 [.rsl 3 (map Cutoff.c j),.fn (.func 213) [] [.ptr 0 0]] [.cells 248 [.fn (.func 168) [] [.ptr 1 0]],.cells 3 [I k]] (λr=>I r):=by
 refine Kg 9 func236 Z Z Z Z λr h=>Lg 3 Z Z (Bd h λl m h=>Jn (b:=l) [0,1] [] Ze Ze Zf ?_ (λq p=>?_))
 .refine G0 1 Z (Lp [0,1] [0,1,7] (λe=>[(8,I e)]) Ze m Zf (Lr [0,1]) λe t a d=>?_);refine G0 6 Z (QV Z a (λf a=>?_) (λf a=>?_))
  .exact Gc 2 Z (Qk a (Gx 1 Z (YC d a Z (Lr [0,1]))))
  refine Gc 15 Z (Bd a λu g a=>Iz g Z (Go 1 Z (Cz [0,1] a (k_iv _ _ _) Z λw s a=>Go 2 Z (Cn Z a (λi a=>?_) (λi a=>?_)))))
  .refine Gc 9 Z (Qp a ?_);obtain rfl:=Oj d a;exact Gx 1 Z (Ql (Gx 1 Z (Rt h 4 [0,1])))
  exact Gc 7 Z (Qi a (Lr [0,1]))
 subst p;exact QC 6 Z h 4 [0,1]
def F_fw(n:Nat)(a:List Cutoff)(d:Int):Option Bool:=(F_hj n a d).bind λe=>some (decide (0<=e))
theorem k_fw(n:Nat)(a:List Cutoff)(d:Int):Ks (F_fw n a d) 212 [.rsl 3 (map Cutoff.c a),.fn (.func 213) [] [.ptr 0 0]] [.cells 248 [.fn (.func 168) [] [.ptr 1 0]],.cells 3 [I d]] (λr=>.bool r):=by
 exact Kg 9 func212 Z Z Z Z λr h=>Cz [0,1] h (k_hj _ _ _) Z λf e h=>Gt 5 Z h 4 [0,1]
def F_ek(n:Nat)(a:List Cutoff)(d:Int):Option Bool:=(F_fw n a d).bind λe=>some (!e)
theorem k_ek(n:Nat)(a:List Cutoff)(d:Int):Ks (F_ek n a d) 170 [.rsl 3 (map Cutoff.c a),.fn (.func 168) [] [.ptr 0 0]] [.cells 3 [I d]] (λr=>.bool r):=by
 exact Kg 10 func170 Z Z Z Z λr h=>Cz [1,0] h (k_fw _ _ _) Z λf e h=>Gt 5 Z h 4 [0]
def F_dk(n:Nat)(a:Distance)(d:Int):Option Bool:=((F_a n 1 3 [a.Timing]).bind λe=>(bif e then(F_a n (-1) d [a.Extra]).bind λf=>(bif f then(F_al n a.Route d).bind λg=>(bif g then(F_ek n a.Cutoffs d).bind λh=>some h else some false)else some false)else some false):Option Bool).bind λi=>some i
theorem k_dk(n:Nat)(d:Distance)(j:Int):Ks (F_dk n d j) 169 [.agg (Distance.c d),.ptr 0 0,.ptr 1 0,.ptr 2 0] [.cells 3 [I j],.cells 245 [.fn (.func 165) [] [.ptr 0 0,.ptr 1 0]],.cells 248 [.fn (.func 168) [] [.ptr 0 0]]] (λr=>.bool r):=by
 refine Kg 7 func169 Z Z Z Z λr h=>Bd h λe a h=>Cg e [0,1,2] [] (λe=>[(5,.bool e)]) Ze Zf ?_ ?_
 .refine G0 3 Z (vH (El (xs:=[.tmp 7]) (es:=map (Qe .i64) [d.Timing]) QE Z Z Z Z Z ⟨Z,trivial⟩ Z Z) ?_);refine FE Z (Cb a (k_a _ _ _ _) Z (ls (ls (lo ln))) λq k a=>Go 1 Z (Is 10 a Z (λf a=>?_) (λf a=>?_)))
  .refine Go 3 Z (vH (El (xs:=[.tmp 13]) (es:=map (Qe .i64) [d.Extra]) QE Z Z Z Z Z ⟨Z,trivial⟩ Z Z) ?_ (gT Z));refine FE Z (Cb a (k_a _ _ _ _) Z (ls (ls (lo ln))) λs l a=>Go 2 Z (Is 17 a Z (λg a=>?_) (λg a=>?_)))
   .refine Go 3 Z (Cz [0,1] a (k_al _ _ _) Z λt m a=>Go 2 Z (Is 23 a Z (λi a=>?_) (λi a=>?_)))
    .exact Go 3 Z (Cz [0] a (k_ek _ _ _) Z λu p a=>Gl 3 Z a [0,1,2])
    .exact Gl 7 Z a [0,1,2]
   .exact Gl 13 Z a [0,1,2]
  .exact Gl 20 Z a [0,1,2]
 exact QC 1 Z h 5 [0,1,2]
def F_km(n:Nat)(a:Distance)(d:Int):Option Bool:=(F_dk n a d).bind λe=>some (!e)
theorem k_km(n:Nat)(a:Distance)(d:Int):Ks (F_km n a d) 190 [.agg (Distance.c a),.ptr 0 0] [.cells 191 [.fn (.func 169) [] [.ptr 1 0,.ptr 2 0,.ptr 3 0]],.cells 3 [I d],.cells 245 [.fn (.func 165) [] [.ptr 1 0,.ptr 2 0]],.cells 248 [.fn (.func 168) [] [.ptr 1 0]]] (λr=>.bool r):=by
 exact Kg 10 func190 Z Z Z Z λr h=>Cz [1,2,3] h (k_dk _ _ _) Z λf e h=>Gt 5 Z h 3 [0,1,2,3]
def F_ly(n:Nat)(d:List Distance)(g:Int)(a:Int):Option (Ctl Int (Ctl Unit Int)):=(bif decide (a<(d.length:Int))then(idx d a).bind λe=>(F_km n e g).bind λf=>(bif f then some (.done (.done a))else some (.cont (i64.wrap (a+1))))else some (.done (.cont ())))
def F_fi(n:Nat)(e:List Distance)(f:Int):Option Int:=(iter (F_ly n e f) n 0:Option (Ctl Unit Int)).bind λd=>match d with|.cont a=>(some (-1))|.done a=>some a
theorem k_fi(n:Nat)(j:List Distance)(k:Int):Ks (F_fi n j k) 229 [.rsl 5 (map Distance.c j),.fn (.func 190) [] [.ptr 0 0]] [.cells 191 [.fn (.func 169) [] [.ptr 1 0,.ptr 2 0,.ptr 3 0]],.cells 3 [I k],.cells 245 [.fn (.func 165) [] [.ptr 1 0,.ptr 2 0]],.cells 248 [.fn (.func 168) [] [.ptr 1 0]]] (λr=>I r):=by
 refine Kg 9 func229 Z Z Z Z λr h=>Lg 3 Z Z (Bd h λl m h=>Jn (b:=l) [0,1,2,3] [] Ze Ze Zf ?_ (λq p=>?_))
 .refine G0 1 Z (Lp [0,1,2,3] [0,1,7] (λe=>[(8,I e)]) Ze m Zf (Lr [0,1,2,3]) λe t a d=>?_);refine G0 6 Z (QV Z a (λf a=>?_) (λf a=>?_))
  .exact Gc 2 Z (Qk a (Gx 1 Z (YC d a Z (Lr [0,1,2,3]))))
  refine Gc 15 Z (Bd a λu g a=>Iz g Z (Go 1 Z (Cz [0,1,2,3] a (k_km _ _ _) Z λw s a=>Go 2 Z (Cn Z a (λi a=>?_) (λi a=>?_)))))
  .refine Gc 9 Z (Qp a ?_);obtain rfl:=Oj d a;exact Gx 1 Z (Ql (Gx 1 Z (Rt h 4 [0,1,2,3])))
  exact Gc 7 Z (Qi a (Lr [0,1,2,3]))
 subst p;exact QC 6 Z h 4 [0,1,2,3]
def F_fo(n:Nat)(a:List Distance)(d:Int):Option Bool:=(F_fi n a d).bind λe=>some (decide (0<=e))
theorem k_fo(n:Nat)(a:List Distance)(d:Int):Ks (F_fo n a d) 189 [.rsl 5 (map Distance.c a),.fn (.func 190) [] [.ptr 0 0]] [.cells 191 [.fn (.func 169) [] [.ptr 1 0,.ptr 2 0,.ptr 3 0]],.cells 3 [I d],.cells 245 [.fn (.func 165) [] [.ptr 1 0,.ptr 2 0]],.cells 248 [.fn (.func 168) [] [.ptr 1 0]]] (λr=>.bool r):=by
 exact Kg 9 func189 Z Z Z Z λr h=>Cz [0,1,2,3] h (k_fi _ _ _) Z λf e h=>Gt 5 Z h 4 [0,1,2,3]
def F_dd(n:Nat)(a:List Distance)(d:Int):Option Bool:=(F_fo n a d).bind λe=>some (!e)
theorem k_dd(n:Nat)(a:List Distance)(d:Int):Ks (F_dd n a d) 111 [.rsl 5 (map Distance.c a),.fn (.func 169) [] [.ptr 0 0,.ptr 1 0,.ptr 2 0]] [.cells 3 [I d],.cells 245 [.fn (.func 165) [] [.ptr 0 0,.ptr 1 0]],.cells 248 [.fn (.func 168) [] [.ptr 0 0]]] (λr=>.bool r):=by
 exact Kg 10 func111 Z Z Z Z λr h=>Cz [3,0,1,2] h (k_fo _ _ _) Z λf e h=>Gt 5 Z h 4 [0,1,2]
def F_en(n:Nat)(a:Wave):Option Bool:=(F_a n 0 1099511627776 [a.Gun]).bind λd=>some d
theorem k_en(n:Nat)(a:Wave):Ks (F_en n a) 180 [.agg (Wave.c a)] [] (λr=>.bool r):=by
 refine Kg 10 func180 Z Z Z Z λr h=>vH (El (xs:=[.tmp 4]) (es:=map (Qe .i64) [a.Gun]) QE Z Z Z Z Z ⟨Z,trivial⟩ Z Z) ?_;exact FE Z (Cb h (k_a _ _ _ _) Z (ls (ls (lo ln))) λe d h=>Gt 4 Z h 2 [])
def F_it(n:Nat)(a:Wave):Option Bool:=(F_en n a).bind λd=>some (!d)
theorem k_it(n:Nat)(a:Wave):Ks (F_it n a) 219 [.agg (Wave.c a),.ptr 0 0] [.cells 258 [.fn (.func 180) [] []]] (λr=>.bool r):=by
 exact Kg 10 func219 Z Z Z Z λr h=>Cz [] h (k_en _ _) Z λe d h=>Gt 5 Z h 3 [0]
def F_li(n:Nat)(d:List Wave)(a:Int):Option (Ctl Int (Ctl Unit Int)):=(bif decide (a<(d.length:Int))then(idx d a).bind λe=>(F_it n e).bind λf=>(bif f then some (.done (.done a))else some (.cont (i64.wrap (a+1))))else some (.done (.cont ())))
def F_gy(n:Nat)(e:List Wave):Option Int:=(iter (F_li n e) n 0:Option (Ctl Unit Int)).bind λd=>match d with|.cont a=>(some (-1))|.done a=>some a
theorem k_gy(n:Nat)(j:List Wave):Ks (F_gy n j) 238 [.rsl 2 (map Wave.c j),.fn (.func 219) [] [.ptr 0 0]] [.cells 258 [.fn (.func 180) [] []]] (λr=>I r):=by
 refine Kg 9 func238 Z Z Z Z λr h=>Lg 3 Z Z (Bd h λk l h=>Jn (b:=k) [0] [] Ze Ze Zf ?_ (λp m=>?_))
 .refine G0 1 Z (Lp [0] [0,1,7] (λe=>[(8,I e)]) Ze l Zf (Lr [0]) λe s a d=>?_);refine G0 6 Z (QV Z a (λf a=>?_) (λf a=>?_))
  .exact Gc 2 Z (Qk a (Gx 1 Z (YC d a Z (Lr [0]))))
  refine Gc 15 Z (Bd a λt g a=>Iz g Z (Go 1 Z (Cz [0] a (k_it _ _) Z λu q a=>Go 2 Z (Cn Z a (λi a=>?_) (λi a=>?_)))))
  .refine Gc 9 Z (Qp a ?_);obtain rfl:=Oj d a;exact Gx 1 Z (Ql (Gx 1 Z (Rt h 4 [0])))
  exact Gc 7 Z (Qi a (Lr [0]))
 subst m;exact QC 6 Z h 4 [0]
def F_gw(n:Nat)(a:List Wave):Option Bool:=(F_gy n a).bind λd=>some (decide (0<=d))
theorem k_gw(n:Nat)(a:List Wave):Ks (F_gw n a) 218 [.rsl 2 (map Wave.c a),.fn (.func 219) [] [.ptr 0 0]] [.cells 258 [.fn (.func 180) [] []]] (λr=>.bool r):=by
 exact Kg 9 func218 Z Z Z Z λr h=>Cz [0] h (k_gy _ _) Z λe d h=>Gt 5 Z h 4 [0]
def F_cw(n:Nat)(a:List Wave):Option Bool:=(F_gw n a).bind λd=>some (!d)
theorem k_cw(n:Nat)(a:List Wave):Ks (F_cw n a) 179 [.rsl 2 (map Wave.c a),.fn (.func 180) [] []] [] (λr=>.bool r):=by
 exact Kg 10 func179 Z Z Z Z λr h=>Cz [0] h (k_gw _ _) Z λe d h=>Gt 5 Z h 4 []
def F_ec(n:Nat)(a:Offence):Option Bool:=(bif a.Out then((bif (a.Time==0)then some (a.Laps==0)else some false):Option Bool).bind λf=>some f else(bif (a.Laps != 0)then((bif (a.Time==0)then(F_a n 1 64 [a.Laps]).bind λd=>some d else some false):Option Bool).bind λg=>some g else(F_a n 0 68719476736 [a.Time]).bind λe=>some e))
theorem k_ec(n:Nat)(e:Offence):Ks (F_ec n e) 172 [.agg (Offence.c e)] [] (λr=>.bool r):=by
 refine Kg 15 func172 Z Z Z Z λr h=>Cn Z h (λj h=>?_) (λj h=>?_)
 .refine Gc 1 Z (Bd h λf d h=>Ct f [] [] (λf=>[(2,.bool f)]) Ze Zf ?_ (λenv H k=>?_))
  .refine G0 5 Z (Is 9 d Z (λl d=>?_) (λl d=>?_))
   iterate 2 exact Gl 6 Z d []
  exact Gx 1 Z (Ef k (QC 3 Z h 2 []))
 refine Gc 8 Z (Cn Z h (λm h=>?_) (λm h=>?_))
 .refine Gc 1 Z (Bd h λg a h=>Cg g [] [] (λg=>[(2,.bool g)]) Ze Zf ?_ ?_)
  .refine G0 5 Z (Is 21 a Z (λi a=>?_) (λi a=>?_))
   .refine Go 2 Z (vH (El (xs:=[.tmp 23]) (es:=map (Qe .i64) [e.Laps]) QE Z Z Z Z Z ⟨Z,trivial⟩ Z Z) ?_ (gT Z));exact FE Z (Cb a (k_a _ _ _ _) Z (ls (ls (lo ln))) λs p a=>Gl 3 Z a [])
   .exact Gl 7 Z a []
  exact QC 3 Z h 2 []
 refine Gc 7 Z (vH (El (xs:=[.tmp 28]) (es:=map (Qe .i64) [e.Time]) QE Z Z Z Z Z ⟨Z,trivial⟩ Z Z) ?_);exact FE Z (Cb h (k_a _ _ _ _) Z (ls (ls (lo ln))) λt q h=>Gt 4 Z h 2 [])
def F_iy(n:Nat)(a:Offence):Option Bool:=(F_ec n a).bind λd=>some (!d)
theorem k_iy(n:Nat)(a:Offence):Ks (F_iy n a) 221 [.agg (Offence.c a),.ptr 0 0] [.cells 250 [.fn (.func 172) [] []]] (λr=>.bool r):=by
 exact Kg 10 func221 Z Z Z Z λr h=>Cz [] h (k_ec _ _) Z λe d h=>Gt 5 Z h 3 [0]
def F_me(n:Nat)(d:List Offence)(a:Int):Option (Ctl Int (Ctl Unit Int)):=(bif decide (a<(d.length:Int))then(idx d a).bind λe=>(F_iy n e).bind λf=>(bif f then some (.done (.done a))else some (.cont (i64.wrap (a+1))))else some (.done (.cont ())))
def F_hq(n:Nat)(e:List Offence):Option Int:=(iter (F_me n e) n 0:Option (Ctl Unit Int)).bind λd=>match d with|.cont a=>(some (-1))|.done a=>some a
theorem k_hq(n:Nat)(j:List Offence):Ks (F_hq n j) 239 [.rsl 4 (map Offence.c j),.fn (.func 221) [] [.ptr 0 0]] [.cells 250 [.fn (.func 172) [] []]] (λr=>I r):=by
 refine Kg 9 func239 Z Z Z Z λr h=>Lg 3 Z Z (Bd h λk l h=>Jn (b:=k) [0] [] Ze Ze Zf ?_ (λp m=>?_))
 .refine G0 1 Z (Lp [0] [0,1,7] (λe=>[(8,I e)]) Ze l Zf (Lr [0]) λe s a d=>?_);refine G0 6 Z (QV Z a (λf a=>?_) (λf a=>?_))
  .exact Gc 2 Z (Qk a (Gx 1 Z (YC d a Z (Lr [0]))))
  refine Gc 15 Z (Bd a λt g a=>Iz g Z (Go 1 Z (Cz [0] a (k_iy _ _) Z λu q a=>Go 2 Z (Cn Z a (λi a=>?_) (λi a=>?_)))))
  .refine Gc 9 Z (Qp a ?_);obtain rfl:=Oj d a;exact Gx 1 Z (Ql (Gx 1 Z (Rt h 4 [0])))
  exact Gc 7 Z (Qi a (Lr [0]))
 subst m;exact QC 6 Z h 4 [0]
def F_hv(n:Nat)(a:List Offence):Option Bool:=(F_hq n a).bind λd=>some (decide (0<=d))
theorem k_hv(n:Nat)(a:List Offence):Ks (F_hv n a) 220 [.rsl 4 (map Offence.c a),.fn (.func 221) [] [.ptr 0 0]] [.cells 250 [.fn (.func 172) [] []]] (λr=>.bool r):=by
 exact Kg 9 func220 Z Z Z Z λr h=>Cz [0] h (k_hq _ _) Z λe d h=>Gt 5 Z h 4 [0]
def F_dn(n:Nat)(a:List Offence):Option Bool:=(F_hv n a).bind λd=>some (!d)
theorem k_dn(n:Nat)(a:List Offence):Ks (F_dn n a) 181 [.rsl 4 (map Offence.c a),.fn (.func 172) [] []] [] (λr=>.bool r):=by
 exact Kg 10 func181 Z Z Z Z λr h=>Cz [0] h (k_hv _ _) Z λe d h=>Gt 5 Z h 4 []
def F_dc(n:Nat)(a:Category):Option Bool:=((F_a n 0 120 [a.From,a.To]).bind λd=>(bif d then some (decide (a.From<=a.To))else some false):Option Bool).bind λe=>some e
theorem k_dc(n:Nat)(d:Category):Ks (F_dc n d) 183 [.agg (Category.c d)] [] (λr=>.bool r):=by
 refine Kg 7 func183 Z Z Z Z λr h=>Bd h λe a h=>Cg e [] [] (λe=>[(2,.bool e)]) Ze Zf ?_ ?_
 .refine G0 5 Z (vH (El (xs:=[.tmp 4,.tmp 6]) (es:=map (Qe .i64) [d.From,d.To]) QE Z Z Z Z Z ⟨Z,Z,trivial⟩ Z Z) ?_);refine FE Z (Cb a (k_a _ _ _ _) Z (ls (ls (lo ln))) λi g a=>Go 1 Z (Is 9 a Z (λf a=>?_) (λf a=>?_)))
  iterate 2 exact Gl 8 Z a []
 exact QC 1 Z h 2 []
def F_jl(n:Nat)(a:Category):Option Bool:=(F_dc n a).bind λd=>some (!d)
theorem k_jl(n:Nat)(a:Category):Ks (F_jl n a) 223 [.agg (Category.c a),.ptr 0 0] [.cells 261 [.fn (.func 183) [] []]] (λr=>.bool r):=by
 exact Kg 10 func223 Z Z Z Z λr h=>Cz [] h (k_dc _ _) Z λe d h=>Gt 5 Z h 3 [0]
def F_lo(n:Nat)(d:List Category)(a:Int):Option (Ctl Int (Ctl Unit Int)):=(bif decide (a<(d.length:Int))then(idx d a).bind λe=>(F_jl n e).bind λf=>(bif f then some (.done (.done a))else some (.cont (i64.wrap (a+1))))else some (.done (.cont ())))
def F_fx(n:Nat)(e:List Category):Option Int:=(iter (F_lo n e) n 0:Option (Ctl Unit Int)).bind λd=>match d with|.cont a=>(some (-1))|.done a=>some a
theorem k_fx(n:Nat)(j:List Category):Ks (F_fx n j) 240 [.rsl 3 (map Category.c j),.fn (.func 223) [] [.ptr 0 0]] [.cells 261 [.fn (.func 183) [] []]] (λr=>I r):=by
 refine Kg 9 func240 Z Z Z Z λr h=>Lg 3 Z Z (Bd h λk l h=>Jn (b:=k) [0] [] Ze Ze Zf ?_ (λp m=>?_))
 .refine G0 1 Z (Lp [0] [0,1,7] (λe=>[(8,I e)]) Ze l Zf (Lr [0]) λe s a d=>?_);refine G0 6 Z (QV Z a (λf a=>?_) (λf a=>?_))
  .exact Gc 2 Z (Qk a (Gx 1 Z (YC d a Z (Lr [0]))))
  refine Gc 15 Z (Bd a λt g a=>Iz g Z (Go 1 Z (Cz [0] a (k_jl _ _) Z λu q a=>Go 2 Z (Cn Z a (λi a=>?_) (λi a=>?_)))))
  .refine Gc 9 Z (Qp a ?_);obtain rfl:=Oj d a;exact Gx 1 Z (Ql (Gx 1 Z (Rt h 4 [0])))
  exact Gc 7 Z (Qi a (Lr [0]))
 subst m;exact QC 6 Z h 4 [0]
def F_fa(n:Nat)(a:List Category):Option Bool:=(F_fx n a).bind λd=>some (decide (0<=d))
theorem k_fa(n:Nat)(a:List Category):Ks (F_fa n a) 222 [.rsl 3 (map Category.c a),.fn (.func 223) [] [.ptr 0 0]] [.cells 261 [.fn (.func 183) [] []]] (λr=>.bool r):=by
 exact Kg 9 func222 Z Z Z Z λr h=>Cz [0] h (k_fx _ _) Z λe d h=>Gt 5 Z h 4 [0]
def F_dr(n:Nat)(a:List Category):Option Bool:=(F_fa n a).bind λd=>some (!d)
theorem k_dr(n:Nat)(a:List Category):Ks (F_dr n a) 182 [.rsl 3 (map Category.c a),.fn (.func 183) [] []] [] (λr=>.bool r):=by
 exact Kg 10 func182 Z Z Z Z λr h=>Cz [0] h (k_fa _ _) Z λe d h=>Gt 5 Z h 4 []
def F_ct(n:Nat)(a:Prize)(d:Course):Option Bool:=((F_a n 0 (i64.wrap ((d.Distances.length:Int)-1)) [a.Distance]).bind λe=>(bif e then(F_a n (-1) (i64.wrap ((d.Categories.length:Int)-1)) [a.Category]).bind λf=>(bif f then(F_a n 1 4000 [a.Rank]).bind λg=>(bif g then(F_a n 1 1125899906842624 [a.Amount]).bind λh=>some h else some false)else some false)else some false):Option Bool).bind λi=>some i
theorem k_ct(n:Nat)(d:Prize)(j:Course):Ks (F_ct n d j) 173 [.agg (Prize.c d),.ptr 0 0] [.cells 33 (Course.c j)] (λr=>.bool r):=by
 refine Kg 7 func173 Z Z Z Z λr h=>Bd h λe a h=>Cg e [0] [] (λe=>[(3,.bool e)]) Ze Zf ?_ ?_
 .refine G0 3 Z (Lg 3 Z Z (vH (El (xs:=[.tmp 9]) (es:=map (Qe .i64) [d.Distance]) QE Z Z Z Z Z ⟨Z,trivial⟩ Z Z) ?_));refine FE Z (Cb a (k_a _ _ _ _) Z (ls (ls (lo ln))) λq k a=>Go 1 Z (Is 12 a Z (λf a=>?_) (λf a=>?_)))
  .refine Go 2 Z (Lg 3 Z Z (vH (El (xs:=[.tmp 18]) (es:=map (Qe .i64) [d.Category]) QE Z Z Z Z Z ⟨Z,trivial⟩ Z Z) ?_ (gT Z)));refine FE Z (Cb a (k_a _ _ _ _) Z (ls (ls (lo ln))) λs l a=>Go 2 Z (Is 22 a Z (λg a=>?_) (λg a=>?_)))
   .refine Go 2 Z (vH (El (xs:=[.tmp 24]) (es:=map (Qe .i64) [d.Rank]) QE Z Z Z Z Z ⟨Z,trivial⟩ Z Z) ?_ (gT Z));refine FE Z (Cb a (k_a _ _ _ _) Z (ls (ls (lo ln))) λt m a=>Go 2 Z (Is 28 a Z (λi a=>?_) (λi a=>?_)))
    .refine Go 2 Z (vH (El (xs:=[.tmp 30]) (es:=map (Qe .i64) [d.Amount]) QE Z Z Z Z Z ⟨Z,trivial⟩ Z Z) ?_ (gT Z));exact FE Z (Cb a (k_a _ _ _ _) Z (ls (ls (lo ln))) λu p a=>Gl 3 Z a [0])
    .exact Gl 7 Z a [0]
   .exact Gl 13 Z a [0]
  .exact Gl 23 Z a [0]
 exact QC 1 Z h 3 [0]
def F_jm(n:Nat)(a:Prize)(d:Course):Option Bool:=(F_ct n a d).bind λe=>some (!e)
theorem k_jm(n:Nat)(a:Prize)(d:Course):Ks (F_jm n a d) 225 [.agg (Prize.c a),.ptr 0 0] [.cells 251 [.fn (.func 173) [] [.ptr 1 0]],.cells 33 (Course.c d)] (λr=>.bool r):=by
 exact Kg 10 func225 Z Z Z Z λr h=>Cz [1] h (k_ct _ _ _) Z λf e h=>Gt 5 Z h 3 [0,1]
def F_mk(n:Nat)(d:List Prize)(g:Course)(a:Int):Option (Ctl Int (Ctl Unit Int)):=(bif decide (a<(d.length:Int))then(idx d a).bind λe=>(F_jm n e g).bind λf=>(bif f then some (.done (.done a))else some (.cont (i64.wrap (a+1))))else some (.done (.cont ())))
def F_hu(n:Nat)(e:List Prize)(f:Course):Option Int:=(iter (F_mk n e f) n 0:Option (Ctl Unit Int)).bind λd=>match d with|.cont a=>(some (-1))|.done a=>some a
theorem k_hu(n:Nat)(j:List Prize)(k:Course):Ks (F_hu n j k) 241 [.rsl 4 (map Prize.c j),.fn (.func 225) [] [.ptr 0 0]] [.cells 251 [.fn (.func 173) [] [.ptr 1 0]],.cells 33 (Course.c k)] (λr=>I r):=by
 refine Kg 9 func241 Z Z Z Z λr h=>Lg 3 Z Z (Bd h λl m h=>Jn (b:=l) [0,1] [] Ze Ze Zf ?_ (λq p=>?_))
 .refine G0 1 Z (Lp [0,1] [0,1,7] (λe=>[(8,I e)]) Ze m Zf (Lr [0,1]) λe t a d=>?_);refine G0 6 Z (QV Z a (λf a=>?_) (λf a=>?_))
  .exact Gc 2 Z (Qk a (Gx 1 Z (YC d a Z (Lr [0,1]))))
  refine Gc 15 Z (Bd a λu g a=>Iz g Z (Go 1 Z (Cz [0,1] a (k_jm _ _ _) Z λw s a=>Go 2 Z (Cn Z a (λi a=>?_) (λi a=>?_)))))
  .refine Gc 9 Z (Qp a ?_);obtain rfl:=Oj d a;exact Gx 1 Z (Ql (Gx 1 Z (Rt h 4 [0,1])))
  exact Gc 7 Z (Qi a (Lr [0,1]))
 subst p;exact QC 6 Z h 4 [0,1]
def F_fd(n:Nat)(a:List Prize)(d:Course):Option Bool:=(F_hu n a d).bind λe=>some (decide (0<=e))
theorem k_fd(n:Nat)(a:List Prize)(d:Course):Ks (F_fd n a d) 224 [.rsl 4 (map Prize.c a),.fn (.func 225) [] [.ptr 0 0]] [.cells 251 [.fn (.func 173) [] [.ptr 1 0]],.cells 33 (Course.c d)] (λr=>.bool r):=by
 exact Kg 9 func224 Z Z Z Z λr h=>Cz [0,1] h (k_hu _ _ _) Z λf e h=>Gt 5 Z h 4 [0,1]
def F_ep(n:Nat)(a:List Prize)(d:Course):Option Bool:=(F_fd n a d).bind λe=>some (!e)
theorem k_ep(n:Nat)(a:List Prize)(d:Course):Ks (F_ep n a d) 184 [.rsl 4 (map Prize.c a),.fn (.func 173) [] [.ptr 0 0]] [.cells 33 (Course.c d)] (λr=>.bool r):=by
 exact Kg 10 func184 Z Z Z Z λr h=>Cz [1,0] h (k_fd _ _ _) Z λf e h=>Gt 5 Z h 4 [0]
def F_fb(n:Nat)(a:Prize):Option Unit:=some ()
theorem k_fb(n:Nat)(a:Prize):Kq (F_fb n a) 186 [.agg (Prize.c a)] [] (λ_=>.agg [I a.Distance,I a.Category,I a.Rank]) (λ_=>[.cells 265 [I a.Distance,I a.Category,I a.Rank]]):=by
 refine Kg 19 func186 Z Z Z Z λr h=>?_;obtain rfl:=Oi h;exact Rx [1] [2] Z (QL Z (Qf isAgg265 sizeOf265 Z Z Z)) ⟨Z,Z⟩
def F_kz(n:Nat)(e:List Prize)(a:(List (Uk×Bool))×Int):Option (Ctl ((List (Uk×Bool))×Int) (List (Uk×Bool))):=(bif decide (a.2<(e.length:Int))then(idx e a.2).bind λd=>(F_fb n d).bind λg=>(some (Q3 a.1 ({distance:=d.Distance,category:=d.Category,rank:=d.Rank:Uk}) true)).bind λf=>some (.cont (f,i64.wrap (a.2+1)))else some (.done a.1))
def F_fc(n:Nat)(a:List Prize):Option Bool:=(iter (F_kz n a) n ([],0):Option (List (Uk×Bool))).bind λd=>some ((d.length:Int)==(a.length:Int))
theorem k_fc(n:Nat)(p:List Prize):Ks (F_fc n p) 185 [.rsl 4 (map Prize.c p),.fn (.func 186) [] []] [] (λr=>.bool r):=by
 refine Kg 7 func185 Z Z Z Z λr h=>vH Yj ?_;refine Fg 7 Z Z (Lg 3 Z Z (Bd h λd q h=>Cg d [0] [0,5] Ze (λd=>[(0,.map (Qj (λx=>A.agg (Uk.c x)) A.bool d))]) Zf ?_ ?_))
 .refine G0 1 Z (Lp [0] [0,1,5,9,10] (λe=>[(11,I e.2)]) (λe=>[(0,.map (Qj (λx=>A.agg (Uk.c x)) A.bool e.1))]) q Zf (Lr [0]) λe t a g=>?_);refine G0 6 Z (QV Z a (λi a=>?_) (λi a=>?_))
  .exact Gc 2 Z (Qk a (Gx 1 Z (cQo g a (Lr [0]))))
  refine Gc 6 Z (Bd a λf j a=>Iz j Z (Go 9 Z (Cd [] a (k_fb _ _) Z λu s a=>FE Z (Bd a λw m a=>?_))));refine vU (Q8 (ev:=A.bool) (k:=({distance:=f.Distance,category:=f.Category,rank:=f.Rank:Uk})) (v:=true) (l:=e.1) Qmh m Z underlying286) ?_;exact Fg 7 Z Z (Qi a (Lr [0]))
 refine Gc 3 Z ?_;refine vX (I (d.length:Int)) (Qe0 (l:=d) underlying286 Z) ?_;exact Go 1 Z (Lm Z (Gt 5 Z h 4 []))
def F_di(n:Nat)(a:Course):Option Bool:=((F_ey n a.Mats).bind λd=>(bif d then(F_ds n a.Legs (i64.wrap ((a.Mats.length:Int)-1))).bind λe=>(bif e then(F_gr n a.Legs).bind λf=>(bif f then(F_dd n a.Distances (i64.wrap ((a.Mats.length:Int)-1))).bind λg=>(bif g then(F_cw n a.Waves).bind λh=>(bif h then(F_dn n a.Offences).bind λi=>(bif i then(F_dr n a.Categories).bind λj=>(bif j then(F_ep n a.Prizes a).bind λk=>(bif k then(F_fc n a.Prizes).bind λl=>(bif l then(F_a n 0 16 [a.Faults.Misses,a.Faults.Strays]).bind λm=>(bif m then(F_a n 0 4294967296 [a.Faults.Window,a.Faults.Residual]).bind λp=>(bif p then(F_a n 0 100000 [a.Faults.Drift]).bind λq=>(bif q then(F_a n 0 1125899906842624 [a.Fee]).bind λr=>(bif r then(F_a n 0 1099511627776 [a.Deadline]).bind λs=>some s else some false)else some false)else some false)else some false)else some false)else some false)else some false)else some false)else some false)else some false)else some false)else some false)else some false):Option Bool).bind λt=>some t
theorem k_di(n:Nat)(d:Course):Ks (F_di n d) 109 [.agg (Course.c d)] [] (λr=>.bool r):=by
 refine Kg 10 func109 Z Z Z Z λr h=>Lg 55 Z Z (Bd h λe a h=>Cg e [] [] (λe=>[(2,.bool e)]) Ze Zf ?_ ?_)
 .refine G0 3 Z (Cz [] a (k_ey _ _) Z λQ x a=>Go 1 Z (Is 25 a Z (λf a=>?_) (λf a=>?_)))
  .refine Go 3 Z (Cd [1] a (k_ds _ _ _) Z λR y a=>Fg 2 Z Z (Is 31 a Z (λg a=>?_) (λg a=>?_)))
   .refine Go 2 Z (Cz [] a (k_gr _ _) Z λT z a=>Go 2 Z (Is 36 a Z (λi a=>?_) (λi a=>?_)))
    .refine Go 3 Z (Cz [1,2,3] a (k_dd _ _ _) Z λV B a=>Go 2 Z (Is 42 a Z (λj a=>?_) (λj a=>?_)))
     .refine Go 2 Z (Cz [] a (k_cw _ _) Z λW E a=>Go 2 Z (Is 47 a Z (λk a=>?_) (λk a=>?_)))
      .refine Go 3 Z (Cz [] a (k_dn _ _) Z λX F a=>Go 2 Z (Is 53 a Z (λl a=>?_) (λl a=>?_)))
       .refine Go 2 Z (Cz [] a (k_dr _ _) Z λY G a=>Go 2 Z (Is 58 a Z (λm a=>?_) (λm a=>?_)))
        .refine Go 3 Z (Cz [0] a (k_ep _ _ _) Z λaa H a=>Go 2 Z (Is 64 a Z (λp a=>?_) (λp a=>?_)))
         .refine Go 2 Z (Cz [] a (k_fc _ _) Z λab J a=>Go 2 Z (Is 69 a Z (λq a=>?_) (λq a=>?_)))
          .refine Go 4 Z (vH (El (xs:=[.tmp 71,.tmp 73]) (es:=map (Qe .i64) [d.Faults.Misses,d.Faults.Strays]) QE Z Z Z Z Z ⟨Z,Z,trivial⟩ Z Z) ?_ (gT Z));refine FE Z (Cb a (k_a _ _ _ _) Z (ls (ls (lo ln))) λac L a=>Go 2 Z (Is 77 a Z (λs a=>?_) (λs a=>?_)))
           .refine Go 4 Z (vH (El (xs:=[.tmp 79,.tmp 81]) (es:=map (Qe .i64) [d.Faults.Window,d.Faults.Residual]) QE Z Z Z Z Z ⟨Z,Z,trivial⟩ Z Z) ?_ (gT Z));refine FE Z (Cb a (k_a _ _ _ _) Z (ls (ls (lo ln))) λad M a=>Go 2 Z (Is 85 a Z (λt a=>?_) (λt a=>?_)))
            .refine Go 2 Z (vH (El (xs:=[.tmp 87]) (es:=map (Qe .i64) [d.Faults.Drift]) QE Z Z Z Z Z ⟨Z,trivial⟩ Z Z) ?_ (gT Z));refine FE Z (Cb a (k_a _ _ _ _) Z (ls (ls (lo ln))) λae N a=>Go 2 Z (Is 91 a Z (λu a=>?_) (λu a=>?_)))
             .refine Go 2 Z (vH (El (xs:=[.tmp 93]) (es:=map (Qe .i64) [d.Fee]) QE Z Z Z Z Z ⟨Z,trivial⟩ Z Z) ?_ (gT Z));refine FE Z (Cb a (k_a _ _ _ _) Z (ls (ls (lo ln))) λaf O a=>Go 2 Z (Is 97 a Z (λw a=>?_) (λw a=>?_)))
              .refine Go 2 Z (vH (El (xs:=[.tmp 99]) (es:=map (Qe .i64) [d.Deadline]) QE Z Z Z Z Z ⟨Z,trivial⟩ Z Z) ?_ (gT Z));exact FE Z (Cb a (k_a _ _ _ _) Z (ls (ls (lo ln))) λag P a=>Gl 3 Z a [])
              .exact Gl 7 Z a []
             .exact Gl 13 Z a []
            .exact Gl 19 Z a []
           .exact Gl 27 Z a []
          .exact Gl 35 Z a []
         .exact Gl 40 Z a []
        .exact Gl 46 Z a []
       .exact Gl 51 Z a []
      .exact Gl 57 Z a []
     .exact Gl 62 Z a []
    .exact Gl 68 Z a []
   .exact Gl 73 Z a []
  .exact Gl 79 Z a []
 exact QC 1 Z h 2 []
def F_mp(n:Nat)(d:List Step)(a:(List Uj)×Int):Option (Ctl ((List Uj)×Int) (List Uj)):=(bif decide (a.2<(d.length:Int))then(idx d a.2).bind λe=>(app a.1 [Uj.ctyping_step ({Step:=e:Ul})]).bind λf=>some (.cont (f,i64.wrap (a.2+1)))else some (.done a.1))
def F_bg(n:Nat)(a:List Step):Option (List Uj):=(iter (F_mp n a) n ([],0):Option (List Uj)).bind λd=>some d
theorem k_bg(n:Nat)(u:List Step):Kq (F_bg n u) 188 [.rsl 8 (map Step.enc u)] [] (λr=>.osl 0 0 r.length 1) (λr=>[.row 293 1 (map Uj.enc r)]):=by
 refine Kg 9 func188 Z Z Z Z λr h=>Lg 3 Z Z (Bd h λf w h=>Cg f [0] [] (λf=>[(2,.osl 0 0 f.length 1)]) (λf=>[(0,.row 293 1 (map Uj.enc f))]) Zf ?_ ?_)
 .refine G0 1 Z (Lp [0] [5,6] (λd=>[(2,.osl 0 0 d.1.length 1),(7,I d.2)]) (λd=>[(0,.row 293 1 (map Uj.enc d.1))]) w Zf ?_ ?_)
  .refine Eo (Et (s:=2) (k:=1) (t:=293) (XR Z) Z) ?_;exact Lr [0]
  intro d x a j;refine G0 6 Z (QV Z a (λl a=>?_) (λl a=>?_))
  .exact Gc 2 Z (Qk a (Gx 1 Z (cQo j a (Lr [0]))))
  refine Gc 6 Z (Bd a λg p a=>IzE p (Yx g) Z (Go 9 Z ?_));refine vX (.iface 296 (.agg (Ul.c ({Step:=g:Ul})))) (Qap Z Gd (by intro m;nofun) Z) ?_;refine vH (El (xs:=[.tmp 14]) (es:=map Uj.enc [Uj.ctyping_step ({Step:=g:Ul})]) Qcs Z Z Z Z Z ⟨Z,trivial⟩ Z Z) ?_;refine FE Z (Bd a λy q a=>vH (QR (e:=Uj.enc) q Qcs EY (YP (i:=2))) ?_);exact Fg 8 Z Z (Qi a (Lr [3]))
 exact QC 7 Z h 2 [0]
def F_an(n:Nat)(a:Ug):Option Bool:=((bif (a.Cond.Kind==0)then(bif (a.Cond.Var==0)then(bif (a.Cond.N==0)then some ((a.Cond.Parts.length:Int)==0)else some false)else some false)else some false):Option Bool).bind λd=>some d
theorem k_an(n:Nat)(e:Ug):Ks (F_an n e) 242 [.agg (Ug.c ({Cond:=e.Cond:Ug}))] [] (λr=>.bool r):=by
 refine Kg 7 func242 Z Z Z Z λr h=>Bd h λd a h=>Cg d [] [] (λd=>[(2,.bool d)]) Ze Zf ?_ ?_
 .refine G0 6 Z (Is 7 a Z (λf a=>?_) (λf a=>?_))
  .refine Go 6 Z (Is 13 a Z (λg a=>?_) (λg a=>?_))
   .refine Go 6 Z (Is 19 a Z (λi a=>?_) (λi a=>?_))
    .exact Go 3 Z (Lm Z (Gl 4 Z a []))
    .exact Gl 8 Z a []
   .exact Gl 14 Z a []
  .exact Gl 20 Z a []
 exact QC 1 Z h 2 []
def F_ak(n:Nat)(a:Ul):Option (List Uj):=(F_bg n a.Step.Then).bind λd=>(F_bg n a.Step.Else).bind λe=>(app d e).bind λf=>some f
theorem k_ak(n:Nat)(a:Ul):Kq (F_ak n a) 248 [.agg (Ul.c a)] [] (λr=>.osl 0 0 r.length 1) (λr=>[.row 293 1 (map Uj.enc r)]):=by
 refine Kg 7 func248 Z Z Z Z λr h=>DAs 7 3 [0,0,0,1,3,3,3] (by kernel_rfl) (Da 3 Z ?_);obtain⟨d,f,h⟩:=Yh h;refine DA.op (x:=.osl 1 0 d.length 1) (H1:=[.cells 296 (Ul.c a),.row 293 1 (map Uj.enc d)]) ?_ ?_
 .refine Qy [] (OpC.fn call188 Z Z Z) (k_bg _ _ _ f) ?_;rintro _ _ ⟨rfl,rfl⟩;exact FE Z Wp
 refine Db 2 Z ?_;refine DB.wo2 (x:=.rsl 8 (map Step.enc a.Step.Else)) (Ld isAgg29 Z Wp) (Ld isAgg29 Z Wp) ?_;refine DB.done Z (Cd [] h (k_bg _ _) Z λk j h=>FE Z (Bd h λl g h=>vH (QR (e:=Uj.enc) g Qcs EY (YP (i:=2))) ?_));exact FE Z (Gt 4 Z h 2 [3])
def F_mg(n:Nat)(d:List Cond)(a:(List Uj)×Int):Option (Ctl ((List Uj)×Int) (List Uj)):=(bif decide (a.2<(d.length:Int))then(idx d a.2).bind λe=>(app a.1 [Uj.ctyping_cond ({Cond:=e:Ug})]).bind λf=>some (.cont (f,i64.wrap (a.2+1)))else some (.done a.1))
def F_gv(n:Nat)(a:List Cond):Option (List Uj):=(iter (F_mg n a) n ([],0):Option (List Uj)).bind λd=>some d
theorem k_gv(n:Nat)(u:List Cond):Kq (F_gv n u) 250 [.rsl 4 (map Cond.enc u)] [] (λr=>.osl 0 0 r.length 1) (λr=>[.row 293 1 (map Uj.enc r)]):=by
 refine Kg 9 func250 Z Z Z Z λr h=>Lg 3 Z Z (Bd h λf w h=>Cg f [0] [] (λf=>[(2,.osl 0 0 f.length 1)]) (λf=>[(0,.row 293 1 (map Uj.enc f))]) Zf ?_ ?_)
 .refine G0 1 Z (Lp [0] [5,6] (λd=>[(2,.osl 0 0 d.1.length 1),(7,I d.2)]) (λd=>[(0,.row 293 1 (map Uj.enc d.1))]) w Zf ?_ ?_)
  .refine Eo (Et (s:=2) (k:=1) (t:=293) (XR Z) Z) ?_;exact Lr [0]
  intro d x a j;refine G0 6 Z (QV Z a (λl a=>?_) (λl a=>?_))
  .exact Gc 2 Z (Qk a (Gx 1 Z (cQo j a (Lr [0]))))
  refine Gc 6 Z (Bd a λg p a=>IzE p (Qar g) Z (Go 9 Z ?_));refine vX (.iface 310 (.agg (Ug.c ({Cond:=g:Ug})))) (Qap Z EK (by intro m;nofun) Z) ?_;refine vH (El (xs:=[.tmp 14]) (es:=map Uj.enc [Uj.ctyping_cond ({Cond:=g:Ug})]) Qcs Z Z Z Z Z ⟨Z,trivial⟩ Z Z) ?_;refine FE Z (Bd a λy q a=>vH (QR (e:=Uj.enc) q Qcs EY (YP (i:=2))) ?_);exact Fg 8 Z Z (Qi a (Lr [3]))
 exact QC 7 Z h 2 [0]
def F_af(n:Nat)(a:Ug):Option (List Uj):=(F_gv n a.Cond.Parts).bind λd=>some d
theorem k_af(n:Nat)(a:Ug):Kq (F_af n a) 247 [.agg (Ug.c ({Cond:=a.Cond:Ug}))] [] (λr=>.osl 0 0 r.length 1) (λr=>[.row 293 1 (map Uj.enc r)]):=by
 exact Kg 11 func247 Z Z Z Z λr h=>Cd [] h (k_gv _ _) Z λe d h=>FE Z (Gt 4 Z h 2 [1])
def F_hk(n:Nat)(m:List Uj)(p:Int)(rec91:(List Uj)->Int->Uh->Option (Uh×Bool))(a:Uh×Int):Option (Ctl (Uh×Int) (Ctl Uh (Uh×Bool))):=(bif decide (a.2<(m.length:Int))then(idx m a.2).bind λq=>Uj.elim q (λg=>((F_an n ({Cond:=g.Step.Cond:Ug})).bind λr=>(bif (!r)then(rec91 [Uj.ctyping_cond ({Cond:=g.Step.Cond:Ug})] 0 ({steps:=i64.wrap (a.1.steps+1),conds:=a.1.conds:Uh})).bind λh=>some (h.1,(!h.2))else some ({steps:=i64.wrap (a.1.steps+1),conds:=a.1.conds:Uh},false)):Option (Uh×Bool)).bind λd=>(bif d.2 then some (.done (.done (d.1,false)))else((bif decide (64<d.1.steps)then some (d.1,true)else(bif decide (256<d.1.conds)then some (d.1,true)else(F_ak n g).bind λk=>(rec91 k (i64.wrap (p+1)) d.1).bind λi=>some (i.1,(!i.2)))):Option (Uh×Bool)).bind λe=>(bif e.2 then some (.done (.done (e.1,false)))else some (.cont (e.1,i64.wrap (a.2+1)))))) (λs=>((bif decide (64<a.1.steps)then some ({steps:=a.1.steps,conds:=i64.wrap (a.1.conds+1):Uh},true)else(bif decide (256<(i64.wrap (a.1.conds+1)))then some ({steps:=a.1.steps,conds:=i64.wrap (a.1.conds+1):Uh},true)else(F_af n ({Cond:=s.Cond:Ug})).bind λl=>(rec91 l (i64.wrap (p+1)) ({steps:=a.1.steps,conds:=i64.wrap (a.1.conds+1):Uh})).bind λj=>some (j.1,(!j.2)))):Option (Uh×Bool)).bind λf=>(bif f.2 then some (.done (.done (f.1,false)))else some (.cont (f.1,i64.wrap (a.2+1)))))else some (.done (.cont a.1)))
def B_e(rec91:(List Uj)->Int->Uh->Option (Uh×Bool))(n:Nat)(d:List Uj)(e:Int)(f:Uh):Option (Uh×Bool):=((bif decide (0<(d.length:Int))then some (decide (16<e))else some false):Option Bool).bind λh=>(bif h then some (f,false)else(iter (F_hk n d e rec91) n (f,0):Option (Ctl Uh (Uh×Bool))).bind λg=>match g with|.cont a=>(some (a,true))|.done a=>some a)
theorem Qax(rec91:(List Uj)->Int->Uh->Option (Uh×Bool))(g:∀(l:List Uj) (x:Int) (y:Uh) (r:Uh×Bool),rec91 l x y=some r->C prog 226 [.ptr 0 0,.osl 1 0 l.length 1,I x] [.cells 289 (Uh.c y),.row 293 1 (map Uj.enc l)] (RQ (λr=>.bool r.2) (λr=>[.cells 289 (Uh.c r.1),.row 293 1 (map Uj.enc l)]) r))(n:Nat)(l:List Uj)(x:Int)(y:Uh)(r:Uh×Bool)(h:B_e rec91 n l x y=some r):C prog 226 [.ptr 0 0,.osl 1 0 l.length 1,I x] [.cells 289 (Uh.c y),.row 293 1 (map Uj.enc l)] (RQ (λr=>.bool r.2) (λr=>[.cells 289 (Uh.c r.1),.row 293 1 (map Uj.enc l)]) r):=by
 refine QW func226 Z Z Z ?_;refine G0 7 Z (Bd h λV B h=>Ct V [0,1] [0,1,2] (λV=>[(18,.bool V)]) Ze Zf ?_ (λenv H q=>?_))
 .refine G0 5 Z (Is 15 B Z (λY B=>?_) (λY B=>?_))
  iterate 2 exact Gl 4 Z B [0,1]
 refine Gx 1 Z (Ef q (Cn Z h (λaa h=>?_) (λaa h=>?_)))
 .exact QC 7 Z h 6 [0,1]
 refine Gc 10 Z (Bd h λab ac h=>Jn (b:=ab) [0,1] [] Ze (λE=>[(0,.cells 289 (Uh.c E))]) Zf ?_ (λE ad=>?_))
 .refine G0 1 Z (Lp [0,1] [0,2,19,20] (λt=>[(21,I t.2)]) (λt=>[(0,.cells 289 (Uh.c t.1))]) ac Zf (Lr [0,1]) λt an a p=>?_);refine G0 6 Z (QV Z a (λW a=>?_) (λW a=>?_))
  .exact Gc 2 Z (Qk a (Gx 1 Z (YC p a Z (Lr [0,1]))))
  refine Gc 6 Z (Bd a λT F a=>?_);refine vX (.ptr 1 (toNat t.2*1)) (Y7 F Z EY sizeOf293) ?_;refine vX (Uj.val T) (Ez Z isAgg293 Z (YD F)) ?_;refine Go 12 Z ?_;rcases Jo T with⟨k,hE90⟩|⟨w,hE92⟩
  .have a:=Ji hE90 a;refine Eu (Q1 (s:=8) (a':=.iface 296 (.agg (Ul.c k))) Z (congrArg Uj.val hE90)) ?_;refine Eu (Q1 (s:=24) (a':=.iface 296 (.agg (Ul.c k))) Z (congrArg Uj.val hE90)) ?_;refine Eu (Q1 (s:=25) (a':=.iface 296 (.agg (Ul.c k))) Z (congrArg Uj.val hE90)) ?_;refine vX (.tup [.agg [I 0,I 0,I 0,.rsl 4 (map Cond.enc [])],.bool false]) (Qgn (z:=(.agg [I 0,I 0,I 0,.rsl 4 (map Cond.enc [])])) EK (by intro m;nofun) Z Gv (zrC Z)) ?_;refine Go 7 Z ?_;refine vX (.tup [.agg (Ul.c k),.bool true]) (Qbs Gd (by intro m;nofun)) ?_;refine Go 34 Z (Bd a λu f a=>Ct u [0,1] [0,2,8,19,20,21] (λu=>[(60,.bool u.2)]) (λu=>[(0,.cells 289 (Uh.c u.1))]) Zf ?_ (λenv H q=>?_))
   .refine G0 2 Z (Cz [] f (k_an _ _) Z λao ah f=>Go 2 Z (Is 53 f Z (λX f=>?_) (λX f=>?_)))
    .refine Go 2 Z ?_;refine vX (.iface 310 (.agg (Ug.c ({Cond:=k.Step.Cond:Ug})))) (Qap Z EK (by intro m;nofun) Z) ?_ (gT Z);refine vH (El (xs:=[.tmp 56]) (es:=map Uj.enc [Uj.ctyping_cond ({Cond:=k.Step.Cond:Ug})]) Qcs Z Z Z Z Z ⟨Z,trivial⟩ Z Z) ?_ (gT Z);exact FE Z (Cd [0,4] f (g _ _ _) Z λai ae f=>FE Z (Gl 3 Z f [0,1]))
    .exact Gl 8 Z f [0,1]
   refine Gx 1 Z (Ef q (Cn Z a (λG a=>?_) (λG a=>?_)))
   .refine Gc 10 Z (Qp a ?_);obtain rfl:=Oj p a;exact Gx 1 Z (Ql (Gx 1 Z (Rt h 6 [0,1])))
   refine Gc 4 Z (Bd a λi d a=>Ct i [0,1] [0,2,19,20,21] (λi=>[(81,.bool i.2)]) (λi=>[(0,.cells 289 (Uh.c i.1))]) Zf ?_ (λenv H q=>?_))
   .refine G0 7 Z (Is 66 d Z (λJ d=>?_) (λJ d=>?_))
    .exact Gl 16 Z d [0,1]
    .refine Go 7 Z (Is 73 d Z (λL d=>?_) (λL d=>?_))
     .exact Gl 9 Z d [0,1]
     .refine Go 2 Z (Bd d λaj M d=>?_);refine Qy [] (Qd3 call248 Z Z Z Z (λ_ _=>by kernel_rfl)) (k_ak _ _ _ M) ?_ (hg:=(gT Z));rintro _ _ ⟨rfl,rfl⟩;exact Fg 2 Z Z (Cd [0,2] d (g _ _ _) Z λak af d=>FE Z (Gl 3 Z d [0,1]))
   refine Gx 1 Z (Ef q (Cn Z a (λN a=>?_) (λN a=>?_)))
   .refine Gc 8 Z (Qp a ?_);obtain rfl:=Oj p a;exact Gx 1 Z (Ql (Gx 1 Z (Rt h 6 [0,1])))
   exact Gc 7 Z (Qi a (Lr [0,1]))
  .have a:=Jh hE92 a;refine Eu (Q1 (s:=8) (a':=.iface 310 (.agg (Ug.c ({Cond:=w.Cond:Ug})))) Z (congrArg Uj.val hE92)) ?_;refine Eu (Q1 (s:=24) (a':=.iface 310 (.agg (Ug.c ({Cond:=w.Cond:Ug})))) Z (congrArg Uj.val hE92)) ?_;refine Eu (Q1 (s:=25) (a':=.iface 310 (.agg (Ug.c ({Cond:=w.Cond:Ug})))) Z (congrArg Uj.val hE92)) ?_;refine vX (.tup [.agg (Ug.c ({Cond:=w.Cond:Ug})),.bool true]) (Qbs EK (by intro m;nofun)) ?_;refine Go 24 Z (Bd a λj e a=>Cg j [0,1] [0,2,19,20,21] (λj=>[(81,.bool j.2)]) (λj=>[(0,.cells 289 (Uh.c j.1))]) Zf ?_ ?_)
   .refine G0 7 Z (Is 66 e Z (λO e=>?_) (λO e=>?_))
    .exact Gl 16 Z e [0,1]
    .refine Go 7 Z (Is 73 e Z (λP e=>?_) (λP e=>?_))
     .exact Gl 9 Z e [0,1]
     .refine Go 2 Z (Bd e λal Q e=>?_);refine Qy [] (Qd3 call247 Z Z Z Z (λ_ _=>by kernel_rfl)) (k_af _ _ _ Q) ?_ (hg:=(gT Z));rintro _ _ ⟨rfl,rfl⟩;exact Fg 2 Z Z (Cd [0,3] e (g _ _ _) Z λam ag e=>FE Z (Gl 3 Z e [0,1]))
   refine Cn Z a (λR a=>?_) (λR a=>?_)
   .refine Gc 8 Z (Qp a ?_);obtain rfl:=Oj p a;exact Gx 1 Z (Ql (Gx 1 Z (Rt h 6 [0,1])))
   exact Gc 7 Z (Qi a (Lr [0,1]))
 subst ad;exact QC 6 Z h 6 [0,1]
def F_e:Nat->(List Uj)->Int->Uh->Option (Uh×Bool)
  |0=>λ_ _ _=>none
  |n+1=>B_e (F_e n) n
theorem k_e(n:Nat):∀(a:List Uj) (d:Int) (e:Uh) (r:Uh×Bool),F_e n a d e=some r->C prog 226 [.ptr 0 0,.osl 1 0 a.length 1,I d] [.cells 289 (Uh.c e),.row 293 1 (map Uj.enc a)] (RQ (λr=>.bool r.2) (λr=>[.cells 289 (Uh.c r.1),.row 293 1 (map Uj.enc a)]) r):=by
  induction n with
  |zero=>intro a d e r h;cases h
  |succ n ih=>intro a d e r h;exact Qax _ ih n a d e r h
def F_lz(n:Nat)(m:List Uj)(p:Int)(a:Uh×Int):Option (Ctl (Uh×Int) (Ctl Uh (Uh×Bool))):=(bif decide (a.2<(m.length:Int))then(idx m a.2).bind λq=>Uj.elim q (λg=>((F_an n ({Cond:=g.Step.Cond:Ug})).bind λr=>(bif (!r)then(F_e n [Uj.ctyping_cond ({Cond:=g.Step.Cond:Ug})] 0 ({steps:=i64.wrap (a.1.steps+1),conds:=a.1.conds:Uh})).bind λh=>some (h.1,(!h.2))else some ({steps:=i64.wrap (a.1.steps+1),conds:=a.1.conds:Uh},false)):Option (Uh×Bool)).bind λd=>(bif d.2 then some (.done (.done (d.1,false)))else((bif decide (64<d.1.steps)then some (d.1,true)else(bif decide (256<d.1.conds)then some (d.1,true)else(F_ak n g).bind λk=>(F_e n k (i64.wrap (p+1)) d.1).bind λi=>some (i.1,(!i.2)))):Option (Uh×Bool)).bind λe=>(bif e.2 then some (.done (.done (e.1,false)))else some (.cont (e.1,i64.wrap (a.2+1)))))) (λs=>((bif decide (64<a.1.steps)then some ({steps:=a.1.steps,conds:=i64.wrap (a.1.conds+1):Uh},true)else(bif decide (256<(i64.wrap (a.1.conds+1)))then some ({steps:=a.1.steps,conds:=i64.wrap (a.1.conds+1):Uh},true)else(F_af n ({Cond:=s.Cond:Ug})).bind λl=>(F_e n l (i64.wrap (p+1)) ({steps:=a.1.steps,conds:=i64.wrap (a.1.conds+1):Uh})).bind λj=>some (j.1,(!j.2)))):Option (Uh×Bool)).bind λf=>(bif f.2 then some (.done (.done (f.1,false)))else some (.cont (f.1,i64.wrap (a.2+1)))))else some (.done (.cont a.1)))
def F_ig(n:Nat)(d:List Uj)(e:Int)(f:Uh):Option (Uh×Bool):=((bif decide (0<(d.length:Int))then some (decide (16<e))else some false):Option Bool).bind λh=>(bif h then some (f,false)else(iter (F_lz n d e) n (f,0):Option (Ctl Uh (Uh×Bool))).bind λg=>match g with|.cont a=>(some (a,true))|.done a=>some a)
theorem k_ig(n:Nat)(R:List Uj)(T:Int)(V:Uh):Kq (F_ig n R T V) 226 [.ptr 0 0,.rsl 1 (map Uj.enc R),I T] [.cells 289 (Uh.c V)] (λr=>.bool r.2) (λr=>[.cells 289 (Uh.c r.1)]):=by
 refine Kg 7 func226 Z Z Z Z λr h=>Bd h λN u h=>Ct N [0] [0,1,2] (λN=>[(18,.bool N)]) Ze Zf ?_ (λenv H l=>?_)
 .refine G0 2 Z (Lg 2 Z Z (Is 15 u Z (λW u=>?_) (λW u=>?_)))
  iterate 2 exact Gl 4 Z u [0]
 refine Gx 1 Z (Ef l (Cn Z h (λX h=>?_) (λX h=>?_)))
 .exact QC 7 Z h 6 [0]
 refine Gc 6 Z (Lg 3 Z Z (Bd h λY aa h=>Jn (b:=Y) [0] [] Ze (λw=>[(0,.cells 289 (Uh.c w))]) Zf ?_ (λw ab=>?_)))
 .refine G0 1 Z (Lp [0] [0,2,19,20] (λq=>[(21,I q.2)]) (λq=>[(0,.cells 289 (Uh.c q.1))]) aa Zf (Lr [0]) λq am a k=>?_);refine G0 6 Z (QV Z a (λO a=>?_) (λO a=>?_))
  .exact Gc 2 Z (Qk a (Gx 1 Z (YC k a Z (Lr [0]))))
  refine Gc 6 Z (Bd a λac P a=>Iz P Z (Go 13 Z ?_));rcases Jo ac with⟨j,hE90⟩|⟨t,hE92⟩
  .have a:=Ji hE90 a;refine Eu (Q1 (s:=8) (a':=.iface 296 (.agg (Ul.c j))) Z (congrArg Uj.val hE90)) ?_;refine Eu (Q1 (s:=24) (a':=.iface 296 (.agg (Ul.c j))) Z (congrArg Uj.val hE90)) ?_;refine Eu (Q1 (s:=25) (a':=.iface 296 (.agg (Ul.c j))) Z (congrArg Uj.val hE90)) ?_;refine vX (.tup [.agg [I 0,I 0,I 0,.rsl 4 (map Cond.enc [])],.bool false]) (Qgn (z:=(.agg [I 0,I 0,I 0,.rsl 4 (map Cond.enc [])])) EK (by intro m;nofun) Z Gv (zrC Z)) ?_;refine Go 7 Z ?_;refine vX (.tup [.agg (Ul.c j),.bool true]) (Qbs Gd (by intro m;nofun)) ?_;refine Go 34 Z (Bd a λp f a=>Ct p [0] [0,2,8,19,20,21] (λp=>[(60,.bool p.2)]) (λp=>[(0,.cells 289 (Uh.c p.1))]) Zf ?_ (λenv H l=>?_))
   .refine G0 2 Z (Cz [] f (k_an _ _) Z λan ag f=>Go 2 Z (Is 53 f Z (λQ f=>?_) (λQ f=>?_)))
    .refine Go 2 Z ?_;refine vX (.iface 310 (.agg (Ug.c ({Cond:=j.Step.Cond:Ug})))) (Qap Z EK (by intro m;nofun) Z) ?_ (gT Z);refine vH (El (xs:=[.tmp 56]) (es:=map Uj.enc [Uj.ctyping_cond ({Cond:=j.Step.Cond:Ug})]) Qcs Z Z Z Z Z ⟨Z,trivial⟩ Z Z) ?_ (gT Z);exact FE Z (Cd [0,3] f (k_e _ _ _ _) Z λah ad f=>FE Z (Gl 3 Z f [0]))
    .exact Gl 8 Z f [0]
   refine Gx 1 Z (Ef l (Cn Z a (λx a=>?_) (λx a=>?_)))
   .refine Gc 10 Z (Qp a ?_);obtain rfl:=Oj k a;exact Gx 1 Z (Ql (Gx 1 Z (Rt h 6 [0])))
   refine Gc 4 Z (Bd a λg d a=>Ct g [0] [0,2,19,20,21] (λg=>[(81,.bool g.2)]) (λg=>[(0,.cells 289 (Uh.c g.1))]) Zf ?_ (λenv H l=>?_))
   .refine G0 7 Z (Is 66 d Z (λy d=>?_) (λy d=>?_))
    .exact Gl 16 Z d [0]
    .refine Go 7 Z (Is 73 d Z (λB d=>?_) (λB d=>?_))
     .exact Gl 9 Z d [0]
     .refine Go 2 Z (Bd d λai E d=>?_);refine Qy [] (Qd3 call248 Z Z Z Z (λ_ _=>by kernel_rfl)) (k_ak _ _ _ E) ?_ (hg:=(gT Z));rintro _ _ ⟨rfl,rfl⟩;exact Fg 2 Z Z (Cd [0,1] d (k_e _ _ _ _) Z λaj ae d=>FE Z (Gl 3 Z d [0]))
   refine Gx 1 Z (Ef l (Cn Z a (λF a=>?_) (λF a=>?_)))
   .refine Gc 8 Z (Qp a ?_);obtain rfl:=Oj k a;exact Gx 1 Z (Ql (Gx 1 Z (Rt h 6 [0])))
   exact Gc 7 Z (Qi a (Lr [0]))
  .have a:=Jh hE92 a;refine Eu (Q1 (s:=8) (a':=.iface 310 (.agg (Ug.c ({Cond:=t.Cond:Ug})))) Z (congrArg Uj.val hE92)) ?_;refine Eu (Q1 (s:=24) (a':=.iface 310 (.agg (Ug.c ({Cond:=t.Cond:Ug})))) Z (congrArg Uj.val hE92)) ?_;refine Eu (Q1 (s:=25) (a':=.iface 310 (.agg (Ug.c ({Cond:=t.Cond:Ug})))) Z (congrArg Uj.val hE92)) ?_;refine vX (.tup [.agg (Ug.c ({Cond:=t.Cond:Ug})),.bool true]) (Qbs EK (by intro m;nofun)) ?_;refine Go 24 Z (Bd a λi e a=>Cg i [0] [0,2,19,20,21] (λi=>[(81,.bool i.2)]) (λi=>[(0,.cells 289 (Uh.c i.1))]) Zf ?_ ?_)
   .refine G0 7 Z (Is 66 e Z (λG e=>?_) (λG e=>?_))
    .exact Gl 16 Z e [0]
    .refine Go 7 Z (Is 73 e Z (λJ e=>?_) (λJ e=>?_))
     .exact Gl 9 Z e [0]
     .refine Go 2 Z (Bd e λak L e=>?_);refine Qy [] (Qd3 call247 Z Z Z Z (λ_ _=>by kernel_rfl)) (k_af _ _ _ L) ?_ (hg:=(gT Z));rintro _ _ ⟨rfl,rfl⟩;exact Fg 2 Z Z (Cd [0,2] e (k_e _ _ _ _) Z λal af e=>FE Z (Gl 3 Z e [0]))
   refine Cn Z a (λM a=>?_) (λM a=>?_)
   .refine Gc 8 Z (Qp a ?_);obtain rfl:=Oj k a;exact Gx 1 Z (Ql (Gx 1 Z (Rt h 6 [0])))
   exact Gc 7 Z (Qi a (Lr [0]))
 subst ab;exact QC 6 Z h 6 [0]
def F_ha(rec95:(List Uj)->Option Bool)(n:Nat)(a:Ug):Option Bool:=((bif (a.Cond.Var==0)then some (a.Cond.N==0)else some false):Option Bool).bind λe=>(bif (a.Cond.Kind==1)then((F_a n 1 3 [a.Cond.Var]).bind λf=>(bif f then(F_a n 0 10000 [a.Cond.N]).bind λg=>(bif g then some ((a.Cond.Parts.length:Int)==0)else some false)else some false):Option Bool).bind λh=>some h else((bif (a.Cond.Kind==4)then(bif e then some (.cont ((a.Cond.Parts.length:Int)==1))else some (.cont false))else((bif (a.Cond.Kind==2)then some (a.Cond.Kind==2)else some (a.Cond.Kind==3)):Option Bool).bind λi=>(bif i then(bif e then(bif decide (0<(a.Cond.Parts.length:Int))then some (.cont (decide ((a.Cond.Parts.length:Int)<=16)))else some (.cont false))else some (.cont false))else some (.done false))):Option (Ctl Bool Bool)).bind λj=>match j with|.cont d=>(((bif d then(F_af n ({Cond:=a.Cond:Ug})).bind λk=>(rec95 k).bind λl=>some (!l)else some false):Option Bool).bind λm=>some m)|.done d=>some d)
theorem k_ha(rec95:(List Uj)->Option Bool)(j:∀(g:List Uj) (r:Bool),rec95 g=some r->Csm prog 227 [.rsl 1 (map Uj.enc g),.fn (.func 228) [] []] [] (λr=>.bool r) r)(n:Nat)(g:Ug):Ks (F_ha rec95 n g) 244 [.iface 310 (.agg (Ug.c ({Cond:=g.Cond:Ug})))] [] (λr=>.bool r):=by
 refine Kg 14 func244 Z Z Z Z λr h=>?_;refine vX (.tup [.agg (Ug.c ({Cond:=g.Cond:Ug})),.bool true]) (Qbs EK (by intro m;nofun)) ?_;refine Go 12 Z (Bd h λt k h=>Ct t [0] [3] (λt=>[(4,.bool t)]) Ze Zf ?_ (λenv H f=>?_))
 .refine G0 6 Z (Is 15 k Z (λJ k=>?_) (λJ k=>?_))
  iterate 2 exact Gl 7 Z k [0]
 refine Gx 1 Z (Ef f (Gc 15 Z (Cn Z h (λL h=>?_) (λL h=>?_))))
 .refine Gc 1 Z (Bd h λl d h=>Ct l [] [] (λl=>[(2,.bool l)]) Ze Zf ?_ (λenv H f=>?_))
  .refine G0 4 Z (vH (El (xs:=[.tmp 28]) (es:=map (Qe .i64) [g.Cond.Var]) QE Z Z Z Z Z ⟨Z,trivial⟩ Z Z) ?_);refine FE Z (Cb d (k_a _ _ _ _) Z (ls (ls (lo ln))) λT O d=>Go 1 Z (Is 31 d Z (λu d=>?_) (λu d=>?_)))
   .refine Go 3 Z (vH (El (xs:=[.tmp 34]) (es:=map (Qe .i64) [g.Cond.N]) QE Z Z Z Z Z ⟨Z,trivial⟩ Z Z) ?_ (gT Z));refine FE Z (Cb d (k_a _ _ _ _) Z (ls (ls (lo ln))) λV P d=>Go 2 Z (Is 38 d Z (λw d=>?_) (λw d=>?_)))
    .exact Go 3 Z (Lm Z (Gl 4 Z d []))
    .exact Gl 8 Z d []
   .exact Gl 15 Z d []
  exact Gx 1 Z (Ef f (QC 5 Z h 2 []))
 refine Gc 6 Z (Bd h λM a h=>CtE (b:=M) [0] [3] (λp=>[(4,.bool p)]) Ze Zf ?_ (λp env H hb f=>?_))
 .refine G0 0 Z (Cn Z a (λx a=>?_) (λx a=>?_))
  .refine Gc 3 Z (Is 48 a Z (λy a=>?_) (λy a=>?_))
   .refine Go 3 Z (Lg 4 Z Z ?_);cases a;exact Yp Z (Lr [0])
   .refine Go 8 Z ?_;cases a;exact Yp Z (Lr [0])
  refine Gc 7 Z (Bd a λq i a=>Ct q [0] [3,4] (λq=>[(55,.bool q)]) Ze Zf ?_ (λenv H f=>?_))
  .refine G0 0 Z (Cn Z i (λz i=>?_) (λz i=>?_))
   .exact YJ 1 Z i [0]
   exact YJ 4 Z i [0]
  refine Gx 1 Z (Ef f (QV Z a (λB a=>?_) (λB a=>?_)))
  .refine Gc 6 Z ?_;cases a;exact Ql (Gx 4 Z (Rt h 2 []))
  refine Gc 3 Z (Is 59 a Z (λE a=>?_) (λE a=>?_))
  .refine Go 3 Z (Lg 3 Z Z (Is 66 a Z (λF a=>?_) (λF a=>?_)))
   .refine Go 3 Z (Lg 4 Z Z ?_);cases a;exact Yp Z (Lr [0])
   .refine Go 8 Z ?_;cases a;exact Yp Z (Lr [0])
  .refine Go 15 Z ?_;cases a;exact Yp Z (Lr [0])
 subst hb;refine Gx 2 Z (Ef f (Gc 1 Z (Bd h λs e h=>Cg s [] [] (λs=>[(2,.bool s)]) Ze Zf ?_ ?_)))
 .refine G0 3 Z (Is 74 e Z (λG e=>?_) (λG e=>?_))
  .exact Go 1 Z (Cd [] e (k_af _ _) Z λW Q e=>FE Z (Cb e (j _) Z (lo (ls ln)) λX R e=>Gl 4 Z e []))
  .exact Gl 7 Z e []
 exact QC 3 Z h 2 []
def F_ix(rec95:(List Uj)->Option Bool)(n:Nat)(z:Uj):Option Bool:=Uj.elim z (λd=>(bif (d.Step.Kind==1)then((F_a n 1 5 [d.Step.By]).bind λg=>(bif g then(F_an n ({Cond:=d.Step.Cond:Ug})).bind λh=>(bif h then(F_ak n d).bind λi=>some ((i.length:Int)==0)else some false)else some false):Option Bool).bind λj=>some j else(bif (d.Step.Kind==2)then((bif (d.Step.By==0)then(F_ha rec95 n ({Cond:=d.Step.Cond:Ug})).bind λk=>(bif k then(bif decide (0<(d.Step.Then.length:Int))then(F_ak n d).bind λl=>(rec95 l).bind λm=>some (!m)else some false)else some false)else some false):Option Bool).bind λp=>some p else some false))) (λa=>((bif (a.Cond.Var==0)then some (a.Cond.N==0)else some false):Option Bool).bind λf=>(bif (a.Cond.Kind==1)then((F_a n 1 3 [a.Cond.Var]).bind λq=>(bif q then(F_a n 0 10000 [a.Cond.N]).bind λr=>(bif r then some ((a.Cond.Parts.length:Int)==0)else some false)else some false):Option Bool).bind λs=>some s else((bif (a.Cond.Kind==4)then(bif f then some (.cont ((a.Cond.Parts.length:Int)==1))else some (.cont false))else((bif (a.Cond.Kind==2)then some (a.Cond.Kind==2)else some (a.Cond.Kind==3)):Option Bool).bind λt=>(bif t then(bif f then(bif decide (0<(a.Cond.Parts.length:Int))then some (.cont (decide ((a.Cond.Parts.length:Int)<=16)))else some (.cont false))else some (.cont false))else some (.done false))):Option (Ctl Bool Bool)).bind λu=>match u with|.cont e=>(((bif e then(F_af n ({Cond:=a.Cond:Ug})).bind λw=>(rec95 w).bind λx=>some (!x)else some false):Option Bool).bind λy=>some y)|.done e=>some e))
theorem k_ix(rec95:(List Uj)->Option Bool)(j:∀(p:List Uj) (r:Bool),rec95 p=some r->Csm prog 227 [.rsl 1 (map Uj.enc p),.fn (.func 228) [] []] [] (λr=>.bool r) r)(n:Nat)(p:Uj):Ks (F_ix rec95 n p) 244 [Uj.val p] [] (λr=>.bool r):=by
 refine Kg 14 func244 Z Z Z Z λr h=>?_;rcases Jo p with⟨q,hE2⟩|⟨t,hE4⟩
 .have h:=Ji hE2 h;refine Eu (Q1 (s:=0) (a':=.iface 296 (.agg (Ul.c q))) Z (congrArg Uj.val hE2)) ?_;refine Eu (Q1 (s:=7) (a':=.iface 296 (.agg (Ul.c q))) Z (congrArg Uj.val hE2)) ?_;refine vX (.tup [.agg [I 0,I 0,I 0,.rsl 4 (map Cond.enc [])],.bool false]) (Qgn (z:=(.agg [I 0,I 0,I 0,.rsl 4 (map Cond.enc [])])) EK (by intro m;nofun) Z Gv (zrC Z)) ?_;refine Go 7 Z ?_;refine vX (.tup [.agg (Ul.c q),.bool true]) (Qbs Gd (by intro m;nofun)) ?_;refine Go 35 Z (Cn Z h (λae h=>?_) (λae h=>?_))
  .refine Gc 1 Z (Bd h λu e h=>Ct u [] [] (λu=>[(2,.bool u)]) Ze Zf ?_ (λenv H g=>?_))
   .refine G0 4 Z (vH (El (xs:=[.tmp 94]) (es:=map (Qe .i64) [q.Step.By]) QE Z Z Z Z Z ⟨Z,trivial⟩ Z Z) ?_);refine FE Z (Cb e (k_a _ _ _ _) Z (ls (ls (lo ln))) λar ag e=>Go 1 Z (Is 97 e Z (λG e=>?_) (λG e=>?_)))
    .refine Go 1 Z (Cz [] e (k_an _ _) Z λau ah e=>Go 2 Z (Is 101 e Z (λJ e=>?_) (λJ e=>?_)))
     .exact Go 1 Z (Cd [] e (k_ak _ _) Z λav ai e=>FE Z (Gl 5 Z e []))
     .exact Gl 7 Z e []
    .exact Gl 11 Z e []
   exact Gx 1 Z (Ef g (QC 4 Z h 2 []))
  refine Gc 6 Z (Cn Z h (λL h=>?_) (λL h=>?_))
  .refine Gc 1 Z (Bd h λw d h=>Ct w [] [] (λw=>[(2,.bool w)]) Ze Zf ?_ (λenv H g=>?_))
   .refine G0 6 Z (Is 113 d Z (λM d=>?_) (λM d=>?_))
    .refine Go 1 Z ?_;refine vX (.iface 310 (.agg (Ug.c ({Cond:=q.Step.Cond:Ug})))) (Qap Z EK (by intro m;nofun) Z) ?_ (gT Z);refine Cz [] d (k_ha rec95 j _ _) Z λaw aj d=>Go 2 Z (Is 118 d Z (λO d=>?_) (λO d=>?_))
     .refine Go 3 Z (Lg 3 Z Z (Is 125 d Z (λP d=>?_) (λP d=>?_)))
      .exact Go 1 Z (Cd [] d (k_ak _ _) Z λax ak d=>FE Z (Cb d (j _) Z (lo (ls ln)) λay al d=>Gl 4 Z d []))
      .exact Gl 7 Z d []
     .exact Gl 14 Z d []
    .exact Gl 19 Z d []
   exact Gx 1 Z (Ef g (QC 4 Z h 2 []))
  exact QC 10 Z h 2 []
 .have h:=Jh hE4 h;refine Eu (Q1 (s:=0) (a':=.iface 310 (.agg (Ug.c ({Cond:=t.Cond:Ug})))) Z (congrArg Uj.val hE4)) ?_;refine Eu (Q1 (s:=7) (a':=.iface 310 (.agg (Ug.c ({Cond:=t.Cond:Ug})))) Z (congrArg Uj.val hE4)) ?_;refine vX (.tup [.agg (Ug.c ({Cond:=t.Cond:Ug})),.bool true]) (Qbs EK (by intro m;nofun)) ?_;refine Go 12 Z (Bd h λx k h=>Ct x [0] [3] (λx=>[(4,.bool x)]) Ze Zf ?_ (λenv H g=>?_))
  .refine G0 6 Z (Is 15 k Z (λQ k=>?_) (λQ k=>?_))
   iterate 2 exact Gl 7 Z k [0]
  refine Gx 1 Z (Ef g (Gc 15 Z (Cn Z h (λR h=>?_) (λR h=>?_))))
  .refine Gc 1 Z (Bd h λy f h=>Ct y [] [] (λy=>[(2,.bool y)]) Ze Zf ?_ (λenv H g=>?_))
   .refine G0 4 Z (vH (El (xs:=[.tmp 28]) (es:=map (Qe .i64) [t.Cond.Var]) QE Z Z Z Z Z ⟨Z,trivial⟩ Z Z) ?_);refine FE Z (Cb f (k_a _ _ _ _) Z (ls (ls (lo ln))) λaz am f=>Go 1 Z (Is 31 f Z (λT f=>?_) (λT f=>?_)))
    .refine Go 3 Z (vH (El (xs:=[.tmp 34]) (es:=map (Qe .i64) [t.Cond.N]) QE Z Z Z Z Z ⟨Z,trivial⟩ Z Z) ?_ (gT Z));refine FE Z (Cb f (k_a _ _ _ _) Z (ls (ls (lo ln))) λba an f=>Go 2 Z (Is 38 f Z (λV f=>?_) (λV f=>?_)))
     .exact Go 3 Z (Lm Z (Gl 4 Z f []))
     .exact Gl 8 Z f []
    .exact Gl 15 Z f []
   exact Gx 1 Z (Ef g (QC 5 Z h 2 []))
  refine Gc 6 Z (Bd h λaf a h=>CtE (b:=af) [0] [3] (λB=>[(4,.bool B)]) Ze Zf ?_ (λB env H hb g=>?_))
  .refine G0 0 Z (Cn Z a (λW a=>?_) (λW a=>?_))
   .refine Gc 3 Z (Is 48 a Z (λX a=>?_) (λX a=>?_))
    .refine Go 3 Z (Lg 4 Z Z ?_);cases a;exact Yp Z (Lr [0])
    .refine Go 8 Z ?_;cases a;exact Yp Z (Lr [0])
   refine Gc 7 Z (Bd a λE l a=>Ct E [0] [3,4] (λE=>[(55,.bool E)]) Ze Zf ?_ (λenv H g=>?_))
   .refine G0 0 Z (Cn Z l (λY l=>?_) (λY l=>?_))
    .exact YJ 1 Z l [0]
    exact YJ 4 Z l [0]
   refine Gx 1 Z (Ef g (QV Z a (λaa a=>?_) (λaa a=>?_)))
   .refine Gc 6 Z ?_;cases a;exact Ql (Gx 4 Z (Rt h 2 []))
   refine Gc 3 Z (Is 59 a Z (λab a=>?_) (λab a=>?_))
   .refine Go 3 Z (Lg 3 Z Z (Is 66 a Z (λac a=>?_) (λac a=>?_)))
    .refine Go 3 Z (Lg 4 Z Z ?_);cases a;exact Yp Z (Lr [0])
    .refine Go 8 Z ?_;cases a;exact Yp Z (Lr [0])
   .refine Go 15 Z ?_;cases a;exact Yp Z (Lr [0])
  subst hb;refine Gx 2 Z (Ef g (Gc 1 Z (Bd h λF i h=>Cg F [] [] (λF=>[(2,.bool F)]) Ze Zf ?_ ?_)))
  .refine G0 3 Z (Is 74 i Z (λad i=>?_) (λad i=>?_))
   .exact Go 1 Z (Cd [] i (k_af _ _) Z λbb ao i=>FE Z (Cb i (j _) Z (lo (ls ln)) λbc aq i=>Gl 4 Z i []))
   .exact Gl 7 Z i []
  exact QC 3 Z h 2 []
def F_ht(rec95:(List Uj)->Option Bool)(n:Nat)(a:Uj):Option Bool:=(F_ix rec95 n a).bind λd=>some (!d)
theorem k_ht(rec95:(List Uj)->Option Bool)(a:∀(d:List Uj) (r:Bool),rec95 d=some r->Csm prog 227 [.rsl 1 (map Uj.enc d),.fn (.func 228) [] []] [] (λr=>.bool r) r)(n:Nat)(d:Uj):Ks (F_ht rec95 n d) 228 [Uj.val d] [] (λr=>.bool r):=by
 exact Kg 8 func228 Z Z Z Z λr h=>Bd h λf e h=>Pc [] Z (OpC.fn call244 Z Z Z) (k_ix rec95 a _ _ _ e) (hargs:=by first|exact Z|exact Eq.trans (by exact Z) (Qab _ (by simp[Yw,Yq,Uj.data])).symm) Z (Gt 5 Z h 2 [])
def F_lk(n:Nat)(d:List Uj)(rec95:(List Uj)->Option Bool)(a:Int):Option (Ctl Int (Ctl Unit Int)):=(bif decide (a<(d.length:Int))then(idx d a).bind λe=>(F_ht rec95 n e).bind λf=>(bif f then some (.done (.done a))else some (.cont (i64.wrap (a+1))))else some (.done (.cont ())))
def F_in(rec95:(List Uj)->Option Bool)(n:Nat)(e:List Uj):Option Int:=(iter (F_lk n e rec95) n 0:Option (Ctl Unit Int)).bind λd=>match d with|.cont a=>(some (-1))|.done a=>some a
theorem k_in(rec95:(List Uj)->Option Bool)(d:∀(e:List Uj) (r:Bool),rec95 e=some r->Csm prog 227 [.rsl 1 (map Uj.enc e),.fn (.func 228) [] []] [] (λr=>.bool r) r)(n:Nat)(e:List Uj):Ks (F_in rec95 n e) 243 [.rsl 1 (map Uj.enc e),.fn (.func 228) [] []] [] (λr=>I r):=by
 refine Kg 9 func243 Z Z Z Z λr h=>Lg 3 Z Z (Bd h λm p h=>Jn (b:=m) [] [] Ze Ze Zf ?_ (λs q=>?_))
 .refine G0 1 Z (Lp [] [0,1,7] (λg=>[(8,I g)]) Ze p Zf (Lr []) λg t a f=>?_);refine G0 6 Z (QV Z a (λi a=>?_) (λi a=>?_))
  .exact Gc 2 Z (Qk a (Gx 1 Z (YC f a Z (Lr []))))
  refine Gc 15 Z (Bd a λu j a=>Iz j Z (Go 1 Z (Bd a λw k a=>Pc [] Z (Qgp call228 Z Z Z Z) (k_ht rec95 d _ _ _ k) (hargs:=by first|exact Z|exact Eq.trans (by exact Z) (Qab _ (by simp[Yw,Yq,Uj.data])).symm) Z (Go 2 Z (Cn Z a (λl a=>?_) (λl a=>?_))))))
  .refine Gc 9 Z (Qp a ?_);obtain rfl:=Oj f a;exact Gx 1 Z (Ql (Gx 1 Z (Rt h 4 [])))
  exact Gc 7 Z (Qi a (Lr []))
 subst q;exact QC 6 Z h 4 []
def B_aa(rec95:(List Uj)->Option Bool)(n:Nat)(a:List Uj):Option Bool:=(F_in rec95 n a).bind λd=>some (decide (0<=d))
theorem Qay(rec95:(List Uj)->Option Bool)(a:∀(d:List Uj) (r:Bool),rec95 d=some r->Csm prog 227 [.rsl 1 (map Uj.enc d),.fn (.func 228) [] []] [] (λr=>.bool r) r)(n:Nat)(d:List Uj)(r:Bool)(h:B_aa rec95 n d=some r):Csm prog 227 [.rsl 1 (map Uj.enc d),.fn (.func 228) [] []] [] (λr=>.bool r) r:=by
 refine QW func227 Z Z Z ?_;exact G0 9 Z (Cz [] h (k_in rec95 a _ _) Z λf e h=>Gt 5 Z h 4 [])
def F_aa:Nat->(List Uj)->Option Bool
  |0=>λ_=>none
  |n+1=>B_aa (F_aa n) n
theorem k_aa(n:Nat):∀(a:List Uj) (r:Bool),F_aa n a=some r->Csm prog 227 [.rsl 1 (map Uj.enc a),.fn (.func 228) [] []] [] (λr=>.bool r) r:=by
  induction n with
  |zero=>intro a r h;cases h
  |succ n ih=>intro a r h;exact Qay _ ih n a r h
def F_ik(n:Nat)(a:List Uj):Option Int:=(F_ig n a 0 ({steps:=0,conds:=0:Uh})).bind λd=>(bif (!d.2)then some 2 else((bif ((a.length:Int)==0)then some true else(F_aa n a).bind λe=>some e):Option Bool).bind λf=>(bif f then some 71 else some 0))
theorem k_ik(n:Nat)(e:List Uj):Ks (F_ik n e) 187 [.rsl 1 (map Uj.enc e)] [] (λr=>I r):=by
 refine Kg 17 func187 Z Z Z Z λr h=>Cd [0] h (k_ig _ _ _ _) Z λl j h=>Fg 3 Z Z (Cn Z h (λf h=>?_) (λf h=>?_))
 .exact QC 7 Z h 2 []
 refine Gc 4 Z (Bd h λd a h=>Cg d [] [] (λd=>[(16,.bool d)]) Ze Zf ?_ ?_)
 .refine G0 2 Z (Lg 2 Z Z (Is 13 a Z (λg a=>?_) (λg a=>?_)))
  .exact Gl 4 Z a []
  .exact Go 1 Z (Cz [] a (k_aa _ _) Z λm k a=>Gl 2 Z a [])
 refine Cn Z h (λi h=>?_) (λi h=>?_)
 .exact QC 7 Z h 2 []
 exact QC 8 Z h 2 []
def F_hn(n:Nat)(a:List Step):Option Int:=(F_bg n a).bind λd=>(F_ik n d).bind λe=>some e
theorem k_hn(n:Nat)(a:List Step):Ks (F_hn n a) 110 [.rsl 8 (map Step.enc a)] [] (λr=>I r):=by
 exact Kg 8 func110 Z Z Z Z λr h=>Cd [] h (k_bg _ _) Z λf d h=>FE Z (Cb h (k_ik _ _) Z (lo ln) λg e h=>Gt 4 Z h 2 [])
def F_gt(n:Nat)(d:Part)(e:List Int)(a:(List Int)×Int):Option (Ctl ((List Int)×Int) (Ctl (List Int) (Ctl ((List Int)×Int) (Ctl (List Int) (List Int))))):=(bif decide (a.2<(if d.Laps<1 then 1 else d.Laps))then(bif decide (256<(a.1.length:Int))then some (.done (.done (.done (.done a.1))))else(app a.1 e).bind λf=>some (.cont (f,i64.wrap (a.2+1))))else some (.done (.cont a.1)))
def F_fz(n:Nat)(f:List Part)(rec114:(List Part)->Option (List Int))(a:(List Int)×Int):Option (Ctl ((List Int)×Int) (Ctl (List Int) (List Int))):=(bif decide (a.2<(f.length:Int))then(idx f a.2).bind λe=>((bif decide (0<e.Laps)then(rec114 e.Parts).bind λg=>some g else some [e.Mat]):Option (List Int)).bind λh=>(iter (F_gt n e h) n (a.1,0):Option (Ctl (List Int) (Ctl ((List Int)×Int) (Ctl (List Int) (List Int))))).bind λi=>match i with|.cont d=>(some (.cont (d,i64.wrap (a.2+1))))|.done d=>some d else some (.done (.cont a.1)))
def B_r(rec114:(List Part)->Option (List Int))(n:Nat)(e:List Part):Option (List Int):=(iter (F_fz n e rec114) n ([],0):Option (Ctl (List Int) (List Int))).bind λd=>match d with|.cont a=>(some a)|.done a=>some a
theorem QcG(rec114:(List Part)->Option (List Int))(u:∀(w:List Part) (r:List Int),rec114 w=some r->C prog 191 [.rsl 3 (map Part.enc w)] [] (RQ (λr=>.osl 0 0 r.length 1) (λr=>[.row 3 1 (map (Qe .i64) r)]) r))(n:Nat)(w:List Part)(r:List Int)(h:B_r rec114 n w=some r):C prog 191 [.rsl 3 (map Part.enc w)] [] (RQ (λr=>.osl 0 0 r.length 1) (λr=>[.row 3 1 (map (Qe .i64) r)]) r):=by
 refine QW func191 Z Z Z ?_;refine G0 9 Z (Lg 3 Z Z (Bd h λN O h=>Jn (b:=N) [0] [] (λg=>[(2,.osl 0 0 g.length 1)]) (λg=>[(0,.row 3 1 (map (Qe .i64) g))]) Zf ?_ (λg x=>?_)))
 .refine G0 1 Z (Lp [0] [6,7] (λl=>[(2,.osl 0 0 l.1.length 1),(8,I l.2)]) (λl=>[(0,.row 3 1 (map (Qe .i64) l.1))]) O Zf ?_ ?_)
  .refine Eo (Et (s:=2) (k:=1) (t:=3) (XR Z) Z) ?_;exact Lr [0]
  intro l T a y;refine G0 6 Z (QV Z a (λE a=>?_) (λE a=>?_))
  .exact Gc 2 Z (Qk a (Gx 1 Z (YC y a Z (Lr [0]))))
  refine Gc 6 Z (Bd a λq F a=>IzE F (QF q) Z (Go 9 Z (vH (El (xs:=[.tmp 13]) (es:=map (Qe .i64) [q.Mat]) QE Z Z Z Z Z ⟨Z,trivial⟩ Z Z) ?_)));refine Fg 11 Z Z (Bd a λm f a=>Ct m [0,1,0] [2,4,6,7,8] (λm=>[(5,.osl 2 0 m.length 1)]) (λm=>[(2,.row 3 1 (map (Qe .i64) m))]) Zf ?_ (λenv H z=>?_))
  .refine G0 0 Z (Cn Z f (λG f=>?_) (λG f=>?_))
   .exact Gc 3 Z (Cd [] f (u _) Z λV R f=>FE Z (Gl 2 Z f [0,1,3]))
   exact YJ 1 Z f [0,1,2]
  refine Gx 1 Z (Ef z (Gc 4 Z ?_));refine vX (I (if q.Laps<1 then 1 else q.Laps)) (OpV.max Z Z Z Z) ?_;refine Go 3 Z (Bd a λP Q a=>CtE (b:=P) [0] [6,7,8] (λj=>[(2,.osl 0 0 j.length 1)]) (λj=>[(0,.row 3 1 (map (Qe .i64) j))]) Zf ?_ (λj env H x z=>?_))
  .refine G0 1 Z (Lp [0,2] [5,6,7,8,23] (λp=>[(2,.osl 0 0 p.1.length 1),(24,I p.2)]) (λp=>[(0,.row 3 1 (map (Qe .i64) p.1))]) Q Zf (Lr [0,2]) λp W d B=>?_);refine G0 6 Z (QV Z d (λJ d=>?_) (λJ d=>?_))
   .exact Gc 2 Z (Qk d (Gx 1 Z (YC B d Z (Lr [0]))))
   refine Gc 12 Z (Cn Z d (λL d=>?_) (λL d=>?_))
   .refine Gc 10 Z (Qp d ?_);obtain rfl:=Oj B d;refine Gx 1 Z (Ql (Gx 2 Z (Qp a ?_)));obtain rfl:=Oj y a;exact Gx 1 Z (Ql (Gx 1 Z (Rt h 2 [0])))
   refine Gc 5 Z (Bd d λX M d=>vH (QR (e:=(Qe .i64)) M QE EB (YP (i:=1))) ?_);exact Fg 8 Z Z (Qi d (Lr [2,1]))
  subst x;exact Gx 2 Z (Ef z (Gc 4 Z (Qi a (Lr [0]))))
 subst x;exact QC 7 Z h 2 [0]
def F_r:Nat->(List Part)->Option (List Int)
  |0=>λ_=>none
  |n+1=>B_r (F_r n) n
theorem k_r(n:Nat):∀(a:List Part) (r:List Int),F_r n a=some r->C prog 191 [.rsl 3 (map Part.enc a)] [] (RQ (λr=>.osl 0 0 r.length 1) (λr=>[.row 3 1 (map (Qe .i64) r)]) r):=by
  induction n with
  |zero=>intro a r h;cases h
  |succ n ih=>intro a r h;exact QcG _ ih n a r h
def F_df(n:Nat)(a:Cutoff)(d:List (Int×Int)):Option Bool:=(some (QB d a.Mat 0)).bind λe=>some (decide (a.Lap<=e))
theorem k_df(n:Nat)(a:Cutoff)(d:List (Int×Int)):Ks (F_df n a d) 192 [.agg (Cutoff.c a),.ptr 0 0] [.cells 122 [.map 1],.map (Qj (λx=>A.int .i64 x) (λx=>A.int .i64 x) d)] (λr=>.bool r):=by
 refine Kg 11 func192 Z Z Z Z λr h=>Bd h λf e h=>?_;refine vX (I f) (Ye (ev:=(λx=>A.int .i64 x)) (z0:=0) (k:=a.Mat) (l:=d) YR e EH EN Ep) ?_;exact Gt 7 Z h 3 [0,1]
def F_kg(n:Nat)(a:Cutoff)(d:List (Int×Int)):Option Bool:=(F_df n a d).bind λe=>some (!e)
theorem k_kg(n:Nat)(a:Cutoff)(d:List (Int×Int)):Ks (F_kg n a d) 213 [.agg (Cutoff.c a),.ptr 0 0] [.cells 248 [.fn (.func 192) [] [.ptr 1 0]],.cells 122 [.map 2],.map (Qj (λx=>A.int .i64 x) (λx=>A.int .i64 x) d)] (λr=>.bool r):=by
 exact Kg 10 func213 Z Z Z Z λr h=>Cz [1,2] h (k_df _ _ _) Z λf e h=>Gt 5 Z h 3 [0,1,2]
def F_mj(n:Nat)(d:List Cutoff)(g:List (Int×Int))(a:Int):Option (Ctl Int (Ctl Unit Int)):=(bif decide (a<(d.length:Int))then(idx d a).bind λe=>(F_kg n e g).bind λf=>(bif f then some (.done (.done a))else some (.cont (i64.wrap (a+1))))else some (.done (.cont ())))
def F_kj(n:Nat)(e:List Cutoff)(f:List (Int×Int)):Option Int:=(iter (F_mj n e f) n 0:Option (Ctl Unit Int)).bind λd=>match d with|.cont a=>(some (-1))|.done a=>some a
theorem k_kj(n:Nat)(j:List Cutoff)(k:List (Int×Int)):Ks (F_kj n j k) 236 [.rsl 3 (map Cutoff.c j),.fn (.func 213) [] [.ptr 0 0]] [.cells 248 [.fn (.func 192) [] [.ptr 1 0]],.cells 122 [.map 2],.map (Qj (λx=>A.int .i64 x) (λx=>A.int .i64 x) k)] (λr=>I r):=by
 refine Kg 9 func236 Z Z Z Z λr h=>Lg 3 Z Z (Bd h λl m h=>Jn (b:=l) [0,1,2] [] Ze Ze Zf ?_ (λq p=>?_))
 .refine G0 1 Z (Lp [0,1,2] [0,1,7] (λe=>[(8,I e)]) Ze m Zf (Lr [0,1,2]) λe t a d=>?_);refine G0 6 Z (QV Z a (λf a=>?_) (λf a=>?_))
  .exact Gc 2 Z (Qk a (Gx 1 Z (YC d a Z (Lr [0,1,2]))))
  refine Gc 15 Z (Bd a λu g a=>Iz g Z (Go 1 Z (Cz [0,1,2] a (k_kg _ _ _) Z λw s a=>Go 2 Z (Cn Z a (λi a=>?_) (λi a=>?_)))))
  .refine Gc 9 Z (Qp a ?_);obtain rfl:=Oj d a;exact Gx 1 Z (Ql (Gx 1 Z (Rt h 4 [0,1,2])))
  exact Gc 7 Z (Qi a (Lr [0,1,2]))
 subst p;exact QC 6 Z h 4 [0,1,2]
def F_jn(n:Nat)(a:List Cutoff)(d:List (Int×Int)):Option Bool:=(F_kj n a d).bind λe=>some (decide (0<=e))
theorem k_jn(n:Nat)(a:List Cutoff)(d:List (Int×Int)):Ks (F_jn n a d) 212 [.rsl 3 (map Cutoff.c a),.fn (.func 213) [] [.ptr 0 0]] [.cells 248 [.fn (.func 192) [] [.ptr 1 0]],.cells 122 [.map 2],.map (Qj (λx=>A.int .i64 x) (λx=>A.int .i64 x) d)] (λr=>.bool r):=by
 exact Kg 9 func212 Z Z Z Z λr h=>Cz [0,1,2] h (k_kj _ _ _) Z λf e h=>Gt 5 Z h 4 [0,1,2]
def F_jz(n:Nat)(a:List Cutoff)(d:List (Int×Int)):Option Bool:=(F_jn n a d).bind λe=>some (!e)
theorem k_jz(n:Nat)(a:List Cutoff)(d:List (Int×Int)):Ks (F_jz n a d) 170 [.rsl 3 (map Cutoff.c a),.fn (.func 192) [] [.ptr 0 0]] [.cells 122 [.map 1],.map (Qj (λx=>A.int .i64 x) (λx=>A.int .i64 x) d)] (λr=>.bool r):=by
 exact Kg 10 func170 Z Z Z Z λr h=>Cz [2,0,1] h (k_jn _ _ _) Z λf e h=>Gt 5 Z h 4 [0,1]
def F_ei(n:Nat)(l:Course)(m:List (Ui×Bool))(e:List Int)(a:(List (Int×Int))×Int):Option (Ctl ((List (Int×Int))×Int) (Ctl (List (Int×Int)) Bool)):=(bif decide (a.2<(e.length:Int))then(idx e a.2).bind λd=>(idx l.Mats d).bind λf=>((bif ((f.Kind==1) != (a.2==0))then some true else(bif ((f.Kind==3) != (a.2==(i64.wrap ((e.length:Int)-1))))then some true else(bif decide (0<a.2)then(idx e (i64.wrap (a.2-1))).bind λg=>(some (QB m ({from_:=g,to_:=d:Ui}) false)).bind λh=>some (!h)else some false))):Option Bool).bind λi=>(bif i then some (.done (.done false))else(some (QB a.1 d 0)).bind λj=>(some (Q3 a.1 d (i64.wrap (j+1)))).bind λk=>some (.cont (k,i64.wrap (a.2+1))))else some (.done (.cont a.1)))
def F_cz(n:Nat)(f:Course)(d:Distance)(g:List (Ui×Bool)):Option Bool:=(F_r n d.Route).bind λe=>((bif decide ((i64.wrap ((e.length:Int)-1))<1)then some true else some (decide (256<=(i64.wrap ((e.length:Int)-1))))):Option Bool).bind λp=>(bif p then some false else(iter (F_ei n f g e) n ([],0):Option (Ctl (List (Int×Int)) Bool)).bind λh=>match h with|.cont a=>(((bif decide (0<=d.Extra)then(some (QB a d.Extra 0)).bind λi=>(bif (i==0)then some true else(idx f.Mats d.Extra).bind λj=>(bif (j.Kind != 2)then some true else(some (QB g ({from_:=d.Extra,to_:=d.Extra:Ui}) false)).bind λk=>some (!k)))else some false):Option Bool).bind λl=>(bif l then some false else(F_jz n d.Cutoffs a).bind λm=>some m))|.done a=>some a)
theorem k_cz(n:Nat)(a1:Course)(m:Distance)(y:List (Ui×Bool)):Ks (F_cz n a1 m y) 113 [.agg (Course.c a1),.agg (Distance.c m),.map 0] [.map (Qj (λx=>A.agg (Ui.c x)) A.bool y)] (λr=>.bool r):=by
 refine Kg 11 func113 Z Z Z Z λr h=>Cd [] h (k_r _ _) Z λr1 al h=>Fg 13 Z Z (Bd h λF p h=>Ct F [0,1,2,3] [2,3,4,7,8] (λF=>[(25,.bool F)]) Ze Zf ?_ (λenv H g=>?_))
 .refine G0 4 Z (Is 22 p Z (λac p=>?_) (λac p=>?_))
  iterate 2 exact Gl 4 Z p [0,1,2,3]
 refine Gx 1 Z (Ef g (Cn Z h (λad h=>?_) (λad h=>?_)))
 .exact QC 7 Z h 6 [0]
 refine Gc 4 Z (vH Yj ?_);refine Fg 12 Z Z (Bd h λae af h=>CtE (b:=ae) [0,1,2,4,5] [2,3,4] (λ_=>[(9,.ptr 3 0)]) (λi=>[(3,.cells 122 [.map 4]),(4,.map (Qj (λx=>A.int .i64 x) (λx=>A.int .i64 x) i))]) Zf ?_ (λi env H ag g=>?_))
 .refine G0 1 Z (Lp [0,1,2,3,5,4] [2,3,4,7,8,9,27,28] (λf=>[(29,I f.2)]) (λf=>[(4,.cells 122 [.map 5]),(5,.map (Qj (λx=>A.int .i64 x) (λx=>A.int .i64 x) f.1))]) af Zf (Lr [0,1,2,3,5,4]) λf am a q=>?_);refine G0 6 Z (QV Z a (λG a=>?_) (λG a=>?_))
  .exact Gc 2 Z (Qk a (Gx 1 Z (YC q a Z (Lr [0,1,2,4,5]))))
  refine Gc 7 Z (Bd a λj s a=>?_);refine vX (.ptr 3 (toNat f.2*1)) (Y7 s Z EB EC) ?_;refine vX (I j) (Ez Z EQ Z (YD s)) ?_;refine Go 9 Z (Bd a λz J a=>Iz J Z (Go 7 Z (Bd a λt e a=>Ct t [0,1,2,3,4,5] [2,3,4,7,8,9,11,27,28,29] (λt=>[(68,.bool t)]) Ze Zf ?_ (λenv H g=>?_))))
  .refine G0 5 Z ?_;refine vX (.bool ((z.Kind==1) != (f.2==0))) (Qe5 runUnderlying4) ?_;refine Go 1 Z (Is 45 e Z (λL e=>?_) (λL e=>?_))
   .exact Gl 24 Z e [0,1,2,3,4,5]
   .refine Go 5 Z ?_;refine vV (x:=(.bool ((z.Kind==3) != (f.2==(i64.wrap ((r1.length:Int)-1)))))) (Qe5 runUnderlying4) ?_ (gT Z);refine Go 2 Z (Is 53 e Z (λM e=>?_) (λM e=>?_))
    .exact Gl 16 Z e [0,1,2,3,4,5]
    .refine Go 3 Z (Is 56 e Z (λN e=>?_) (λN e=>?_))
     .refine Go 4 Z (Bd e λB u e=>?_);refine vX (.ptr 3 (toNat (i64.wrap (f.2-1))*1)) (Y7 u Z EB EC) ?_ (gT Z);refine vX (I B) (Ez Z EQ Z (YD u)) ?_ (gT Z);refine Go 2 Z (Bd e λah O e=>?_);refine vX (.bool ah) (Ye (ev:=A.bool) (z0:=false) (k:=({from_:=B,to_:=j:Ui})) (l:=y) QdY O E8 ES ZR.bool) ?_ (gT Z);exact Gl 4 Z e [0,1,2,3,4,5]
     .exact Gl 13 Z e [0,1,2,3,4,5]
  refine Gx 1 Z (Ef g (Cn Z a (λP a=>?_) (λP a=>?_)))
  .refine Gc 9 Z (Qp a ?_);obtain rfl:=Oj q a;exact Gx 1 Z (Ql (Gx 1 Z (Rt h 6 [0])))
  refine Gc 5 Z (Bd a λE Q a=>?_);refine vX (I E) (Ye (ev:=(λx=>A.int .i64 x)) (z0:=0) (k:=j) (l:=f.1) YR Q EH EN Ep) ?_;refine Go 1 Z (Bd a λan R a=>?_);refine vU (Q8 (ev:=(λx=>A.int .i64 x)) (k:=j) (v:=(i64.wrap (E+1))) (l:=f.1) YR R Z EH) ?_;exact Fg 7 Z Z (Qi a (Lr [0,1,2,3,4,5]))
 subst ag;refine Gx 1 Z (Ef g (Gc 9 Z (Bd h λw d h=>Cg w [0,2,3,4] [4,9] (λw=>[(100,.bool w)]) (λ_=>[(2,.cells 122 [.map 3])]) Zf ?_ ?_)))
 .refine G0 4 Z (Is 78 d Z (λT d=>?_) (λT d=>?_))
  .refine Go 2 Z (Bd d λai V d=>?_);refine vX (I ai) (Ye (ev:=(λx=>A.int .i64 x)) (z0:=0) (k:=m.Extra) (l:=i) YR V EH EN Ep) ?_ (gT Z);refine Go 2 Z (Is 83 d Z (λW d=>?_) (λW d=>?_))
   .exact Gl 18 Z d [0,2,3,4]
   .refine Go 3 Z (Bd d λao X d=>Iz X Z (Go 5 Z (Is 92 d Z (λY d=>?_) (λY d=>?_))))
    .exact Gl 9 Z d [0,2,3,4]
    .refine Go 4 Z (Bd d λaj aa d=>?_);refine vX (.bool aj) (Ye (ev:=A.bool) (z0:=false) (k:=({from_:=m.Extra,to_:=m.Extra:Ui})) (l:=y) QdY aa E8 ES ZR.bool) ?_ (gT Z);exact Gl 4 Z d [0,2,3,4]
  .exact Gl 23 Z d [0,2,3,4]
 refine Cn Z h (λab h=>?_) (λab h=>?_)
 .exact QC 7 Z h 6 [0]
 exact Gc 7 Z (Cz [2,3] h (k_jz _ _ _) Z λaq ak h=>Gt 4 Z h 6 [0])
def F_he(n:Nat)(a:Distance)(d:Course)(e:List (Ui×Bool)):Option Bool:=(F_cz n d a e).bind λf=>some f
theorem k_he(n:Nat)(a:Distance)(d:Course)(e:List (Ui×Bool)):Ks (F_he n a d e) 112 [.agg (Distance.c a),.ptr 0 0,.ptr 1 0] [.cells 33 (Course.c d),.cells 186 [.map 2],.map (Qj (λx=>A.agg (Ui.c x)) A.bool e)] (λr=>.bool r):=by
 exact Kg 11 func112 Z Z Z Z λr h=>Cz [2] h (k_cz _ _ _ _) Z λg f h=>Gt 4 Z h 4 [0,1,2]
def F_kn(n:Nat)(a:Distance)(d:Course)(e:List (Ui×Bool)):Option Bool:=(F_he n a d e).bind λf=>some (!f)
theorem k_kn(n:Nat)(a:Distance)(d:Course)(e:List (Ui×Bool)):Ks (F_kn n a d e) 190 [.agg (Distance.c a),.ptr 0 0] [.cells 191 [.fn (.func 112) [] [.ptr 1 0,.ptr 2 0]],.cells 33 (Course.c d),.cells 186 [.map 3],.map (Qj (λx=>A.agg (Ui.c x)) A.bool e)] (λr=>.bool r):=by
 exact Kg 10 func190 Z Z Z Z λr h=>Cz [1,2,3] h (k_he _ _ _ _) Z λg f h=>Gt 5 Z h 3 [0,1,2,3]
def F_lt(n:Nat)(d:List Distance)(g:Course)(h:List (Ui×Bool))(a:Int):Option (Ctl Int (Ctl Unit Int)):=(bif decide (a<(d.length:Int))then(idx d a).bind λe=>(F_kn n e g h).bind λf=>(bif f then some (.done (.done a))else some (.cont (i64.wrap (a+1))))else some (.done (.cont ())))
def F_jp(n:Nat)(e:List Distance)(f:Course)(g:List (Ui×Bool)):Option Int:=(iter (F_lt n e f g) n 0:Option (Ctl Unit Int)).bind λd=>match d with|.cont a=>(some (-1))|.done a=>some a
theorem k_jp(n:Nat)(j:List Distance)(k:Course)(l:List (Ui×Bool)):Ks (F_jp n j k l) 229 [.rsl 5 (map Distance.c j),.fn (.func 190) [] [.ptr 0 0]] [.cells 191 [.fn (.func 112) [] [.ptr 1 0,.ptr 2 0]],.cells 33 (Course.c k),.cells 186 [.map 3],.map (Qj (λx=>A.agg (Ui.c x)) A.bool l)] (λr=>I r):=by
 refine Kg 9 func229 Z Z Z Z λr h=>Lg 3 Z Z (Bd h λm p h=>Jn (b:=m) [0,1,2,3] [] Ze Ze Zf ?_ (λs q=>?_))
 .refine G0 1 Z (Lp [0,1,2,3] [0,1,7] (λe=>[(8,I e)]) Ze p Zf (Lr [0,1,2,3]) λe u a d=>?_);refine G0 6 Z (QV Z a (λf a=>?_) (λf a=>?_))
  .exact Gc 2 Z (Qk a (Gx 1 Z (YC d a Z (Lr [0,1,2,3]))))
  refine Gc 15 Z (Bd a λw g a=>Iz g Z (Go 1 Z (Cz [0,1,2,3] a (k_kn _ _ _ _) Z λy t a=>Go 2 Z (Cn Z a (λi a=>?_) (λi a=>?_)))))
  .refine Gc 9 Z (Qp a ?_);obtain rfl:=Oj d a;exact Gx 1 Z (Ql (Gx 1 Z (Rt h 4 [0,1,2,3])))
  exact Gc 7 Z (Qi a (Lr [0,1,2,3]))
 subst q;exact QC 6 Z h 4 [0,1,2,3]
def F_jf(n:Nat)(a:List Distance)(d:Course)(e:List (Ui×Bool)):Option Bool:=(F_jp n a d e).bind λf=>some (decide (0<=f))
theorem k_jf(n:Nat)(a:List Distance)(d:Course)(e:List (Ui×Bool)):Ks (F_jf n a d e) 189 [.rsl 5 (map Distance.c a),.fn (.func 190) [] [.ptr 0 0]] [.cells 191 [.fn (.func 112) [] [.ptr 1 0,.ptr 2 0]],.cells 33 (Course.c d),.cells 186 [.map 3],.map (Qj (λx=>A.agg (Ui.c x)) A.bool e)] (λr=>.bool r):=by
 exact Kg 9 func189 Z Z Z Z λr h=>Cz [0,1,2,3] h (k_jp _ _ _ _) Z λg f h=>Gt 5 Z h 4 [0,1,2,3]
def F_fl(n:Nat)(a:List Distance)(d:Course)(e:List (Ui×Bool)):Option Bool:=(F_jf n a d e).bind λf=>some (!f)
theorem k_fl(n:Nat)(a:List Distance)(d:Course)(e:List (Ui×Bool)):Ks (F_fl n a d e) 111 [.rsl 5 (map Distance.c a),.fn (.func 112) [] [.ptr 0 0,.ptr 1 0]] [.cells 33 (Course.c d),.cells 186 [.map 2],.map (Qj (λx=>A.agg (Ui.c x)) A.bool e)] (λr=>.bool r):=by
 exact Kg 10 func111 Z Z Z Z λr h=>Cz [3,0,1,2] h (k_jf _ _ _ _) Z λg f h=>Gt 5 Z h 4 [0,1,2]
def F_iu(n:Nat)(e:Course)(a:(List (Ui×Bool))×Int):Option (Ctl ((List (Ui×Bool))×Int) (List (Ui×Bool))):=(bif decide (a.2<(e.Legs.length:Int))then(idx e.Legs a.2).bind λd=>(some (Q3 a.1 ({from_:=d.From,to_:=d.To:Ui}) true)).bind λf=>some (.cont (f,i64.wrap (a.2+1)))else some (.done a.1))
def F_d(n:Nat)(a:Course):Option Int:=(F_eo n a).bind λg=>(bif (!g)then some 2 else(F_fm n a).bind λh=>(bif (!h)then some 70 else(F_di n a).bind λi=>(bif (!i)then some 71 else(F_hn n a.Ties).bind λd=>(bif (d != 0)then some d else(iter (F_iu n a) n ([],0):Option (List (Ui×Bool))).bind λe=>(F_fl n a.Distances a e).bind λf=>(bif (!f)then some 72 else some 0)))))
theorem k_d(n:Nat)(q:Course):Ks (F_d n q) 63 [.agg (Course.c q)] [] (λr=>I r):=by
 refine Kg 11 func63 Z Z Z Z λr h=>Cz [] h (k_eo _ _) Z λM B h=>Go 4 Z (Cn Z h (λs h=>?_) (λs h=>?_))
 .exact QC 8 Z h 2 []
 refine Gc 3 Z (Cz [] h (k_fm _ _) Z λN E h=>Go 4 Z (Cn Z h (λt h=>?_) (λt h=>?_)))
 .exact QC 8 Z h 2 []
 refine Gc 3 Z (Cz [] h (k_di _ _) Z λO F h=>Go 4 Z (Cn Z h (λu h=>?_) (λu h=>?_)))
 .exact QC 8 Z h 2 []
 refine Gc 8 Z (Cz [] h (k_hn _ _) Z λP G h=>Go 9 Z (Cn Z h (λw h=>?_) (λw h=>?_)))
 .exact QC 8 Z h 2 []
 refine Gc 4 Z (vH Yj ?_);refine Fg 9 Z Z (Lg 3 Z Z (Bd h λe y h=>Cg e [0,1,2] [1] (λ_=>[(3,.ptr 1 0)]) (λe=>[(1,.cells 186 [.map 2]),(2,.map (Qj (λx=>A.agg (Ui.c x)) A.bool e))]) Zf ?_ ?_))
 .refine G0 1 Z (Lp [0,2,1] [1,3,26,27] (λd=>[(28,I d.2)]) (λd=>[(1,.cells 186 [.map 2]),(2,.map (Qj (λx=>A.agg (Ui.c x)) A.bool d.1))]) y Zf (Lr [0,2,1]) λd H a g=>?_);refine G0 6 Z (QV Z a (λi a=>?_) (λi a=>?_))
  .exact Gc 2 Z (Qk a (Gx 1 Z (cQo g a (Lr [0,1,2]))))
  refine Gc 6 Z (Bd a λf j a=>Iz j Z (Go 12 Z (Bd a λJ m a=>?_)));refine vU (Q8 (ev:=A.bool) (k:=({from_:=f.From,to_:=f.To:Ui})) (v:=true) (l:=d.1) QdY m Z E8) ?_;exact Fg 7 Z Z (Qi a (Lr [0,1,2]))
 refine Gc 6 Z (Cz [0,1,2] h (k_fl _ _ _ _) Z λL z h=>Go 3 Z (Cn Z h (λp h=>?_) (λp h=>?_)))
 .exact QC 7 Z h 2 []
 exact QC 8 Z h 2 []
def F_o(n:Nat)(a:Int):Option Bool:=((bif decide ((-1099511627776)<=a)then some (decide (a<=1099511627776))else some false):Option Bool).bind λd=>some d
theorem k_o(n:Nat)(e:Int):Ks (F_o n e) 114 [I e] [] (λr=>.bool r):=by
 refine Kg 6 func114 Z Z Z Z λr h=>Bd h λd a h=>Cg d [] [] (λd=>[(2,.bool d)]) Ze Zf ?_ ?_
 .refine G0 4 Z (Is 5 a Z (λf a=>?_) (λf a=>?_))
  iterate 2 exact Gl 5 Z a []
 exact QC 1 Z h 2 []
def F_ce(n:Nat)(a:Int):Option Unit:=some ()
theorem k_ce(n:Nat)(a:Int):Ks (F_ce n a) 139 [I a] [] (λ_=>.bool (a != a)):=by
 exact Kg 14 func139 Z Z Z Z λr h=>Rt h 2 []
def F_i(n:Nat)(d:Int)(a:Int):Option Int:=(F_ce n d).bind λe=>(F_ce n a).bind λf=>(bif (d != d)then(bif (a != a)then some 0 else some (-1))else(bif (a != a)then some 1 else(bif decide (d<a)then some (-1)else(bif decide (a<d)then some 1 else some 0))))
theorem k_i(n:Nat)(a:Int)(d:Int):Ks (F_i n a d) 85 [I a,I d] [] (λr=>I r):=by
 refine Kg 8 func85 Z Z Z Z λr h=>Cz [] h (k_ce _ _) Z λm k h=>Go 6 Z (Cz [] h (k_ce _ _) Z λp l h=>Go 9 Z (Cn Z h (λe h=>?_) (λe h=>?_)))
 .refine Gc 6 Z (Cn Z h (λf h=>?_) (λf h=>?_))
  .exact QC 8 Z h 4 []
  exact QC 9 Z h 4 []
 refine Gc 8 Z (Cn Z h (λg h=>?_) (λg h=>?_))
 .exact QC 7 Z h 4 []
 refine Gc 10 Z (Cn Z h (λi h=>?_) (λi h=>?_))
 .exact QC 7 Z h 4 []
 refine Gc 10 Z (Cn Z h (λj h=>?_) (λj h=>?_))
 .exact QC 7 Z h 4 []
 exact QC 8 Z h 4 []
def F_ay(n:Nat)(e:List Int)(a:Int):Option (Ctl Int (Ctl Unit Int)):=(bif decide (a<(e.length:Int))then(idx e a).bind λd=>(bif (d != 0)then some (.done (.done d))else some (.cont (i64.wrap (a+1))))else some (.done (.cont ())))
def F_ba(n:Nat)(d:List Int):Option Int:=(iter (F_ay n d) n 0:Option (Ctl Unit Int)).bind λe=>match e with|.cont a=>(some 0)|.done a=>some a
theorem k_ba(n:Nat)(j:List Int):Ks (F_ba n j) 195 [.rsl 1 (map (Qe .i64) j)] [] (λr=>I r):=by
 refine Kg 14 func195 Z Z Z Z λr h=>Lg 3 Z Z (Bd h λl m h=>Jn (b:=l) [] [3] Ze Ze Zf ?_ (λp k=>?_))
 .refine G0 1 Z (Lp [] [3,6,7] (λe=>[(8,I e)]) Ze m Zf (Lr []) λe q a d=>?_);refine G0 6 Z (QV Z a (λf a=>?_) (λf a=>?_))
  .exact Gc 2 Z (Qk a (Gx 1 Z (YC d a Z (Lr []))))
  refine Gc 6 Z (Bd a λs g a=>Iz g Z (Go 11 Z (Cn Z a (λi a=>?_) (λi a=>?_))))
  .refine Gc 9 Z (Qp a ?_);obtain rfl:=Oj d a;exact Gx 1 Z (Ql (Gx 1 Z (Rt h 2 [])))
  exact Gc 7 Z (Qi a (Lr []))
 subst k;exact QC 7 Z h 2 []
def F_fr(n:Nat)(a:Ua)(d:Ua):Option Int:=(F_i n a.mat d.mat).bind λe=>(F_i n a.epoch d.epoch).bind λf=>(F_ba n [e,f]).bind λg=>some g
theorem k_fr(n:Nat)(a:Ua)(d:Ua):Ks (F_fr n a d) 193 [.agg [I a.mat,I a.epoch],.agg [I d.mat,I d.epoch]] [] (λr=>I r):=by
 refine Kg 8 func193 Z Z Z Z λr h=>DSs 9 Z (D 4 Z ?_);refine Dz [] h (k_i _ _ _) Z λe g h=>D 4 Z (Eh Z (Cz [] h (k_i _ _ _) Z λf i h=>?_));refine vH (YY (xs:=[.tmp 9,.tmp 14]) (es:=map (Qe .i64) [e,f]) QE Z Z Z Z Z ⟨Z,Z,trivial⟩ Z Z) ?_;exact FE Z (Cz [] h (k_ba _ _) Z λk j h=>Gt 4 Z h 4 [])
def F_cj(n:Nat)(a:Segment)(d:Segment):Option Int:=(F_fr n ({mat:=a.Mat,epoch:=a.Epoch:Ua}) ({mat:=d.Mat,epoch:=d.Epoch:Ua})).bind λe=>some e
theorem k_cj(n:Nat)(a:Segment)(d:Segment):Ks (F_cj n a d) 115 [.agg (Segment.c a),.agg (Segment.c d)] [] (λr=>I r):=by
 exact Kg 19 func115 Z Z Z Z λr h=>Cz [] h (k_fr _ _ _) Z λf e h=>Gt 4 Z h 4 []
def F_cv(n:Nat)(a:Int):Option Bool:=((bif decide (a<(-2199023255552))then some true else some (decide (2199023255552<a))):Option Bool).bind λd=>some d
theorem k_cv(n:Nat)(e:Int):Ks (F_cv n e) 117 [I e] [] (λr=>.bool r):=by
 refine Kg 6 func117 Z Z Z Z λr h=>Bd h λd a h=>Cg d [] [] (λd=>[(2,.bool d)]) Ze Zf ?_ ?_
 .refine G0 4 Z (Is 5 a Z (λf a=>?_) (λf a=>?_))
  iterate 2 exact Gl 5 Z a []
 exact QC 1 Z h 2 []
def F_mh(n:Nat)(d:List Int)(a:Int):Option (Ctl Int (Ctl Unit Int)):=(bif decide (a<(d.length:Int))then(idx d a).bind λe=>(F_cv n e).bind λf=>(bif f then some (.done (.done a))else some (.cont (i64.wrap (a+1))))else some (.done (.cont ())))
def F_gh(n:Nat)(e:List Int):Option Int:=(iter (F_mh n e) n 0:Option (Ctl Unit Int)).bind λd=>match d with|.cont a=>(some (-1))|.done a=>some a
theorem k_gh(n:Nat)(j:List Int):Ks (F_gh n j) 194 [.rsl 1 (map (Qe .i64) j),.fn (.func 117) [] []] [] (λr=>I r):=by
 refine Kg 9 func194 Z Z Z Z λr h=>Lg 3 Z Z (Bd h λk l h=>Jn (b:=k) [] [] Ze Ze Zf ?_ (λp m=>?_))
 .refine G0 1 Z (Lp [] [0,1,7] (λe=>[(8,I e)]) Ze l Zf (Lr []) λe s a d=>?_);refine G0 6 Z (QV Z a (λf a=>?_) (λf a=>?_))
  .exact Gc 2 Z (Qk a (Gx 1 Z (YC d a Z (Lr []))))
  refine Gc 15 Z (Bd a λt g a=>Iz g Z (Go 1 Z (Cz [] a (k_cv _ _) Z λu q a=>Go 2 Z (Cn Z a (λi a=>?_) (λi a=>?_)))))
  .refine Gc 9 Z (Qp a ?_);obtain rfl:=Oj d a;exact Gx 1 Z (Ql (Gx 1 Z (Rt h 4 [])))
  exact Gc 7 Z (Qi a (Lr []))
 subst m;exact QC 6 Z h 4 []
def F_cq(n:Nat)(a:List Int):Option Bool:=(F_gh n a).bind λd=>some (decide (0<=d))
theorem k_cq(n:Nat)(a:List Int):Ks (F_cq n a) 116 [.rsl 1 (map (Qe .i64) a),.fn (.func 117) [] []] [] (λr=>.bool r):=by
 exact Kg 9 func116 Z Z Z Z λr h=>Cz [] h (k_gh _ _) Z λe d h=>Gt 5 Z h 4 []
end Go.Sw
