/- What the functions compute that PenaltiesRoute reaches, and that their calls refine it (part 1 of 3). -/
import Derived.Test.YtckiejaapddafaaGreatDoorW22RoB
set_option linter.unusedVariables false
set_option linter.unusedSimpArgs false
set_option maxRecDepth 100000
set_option maxHeartbeats 4000000
namespace Go.Sw
open Go.Proofs Tryz
def F_ho(n:Nat):Option Unit:=
  some ()
theorem k_ho(n:Nat)(r:Unit)(h:F_ho n=some r):
    C prog 28 [] [] (RQ (λ_=>.agg [.str [97],.osl 0 0 ([{Name:=[108,105,110,101],Kind:=1:Mat},{Name:=[103,111,97,108],Kind:=3:Mat}].length) 2,.osl 1 0 ([{From:=0,To:=1,Min:=0,Max:=50:Leg}].length) 4,.osl 2 0 ([{Name:=[100],Route:=[Us,{Us with Mat:=1:Part}],Timing:=1,Cutoffs:=[],Extra:=(-1):Distance}].length) 5,.osl 3 0 ([{Name:=[119],Gun:=0:Wave}].length) 2,.osl 4 0 ([{Name:=[100,114,97,102,116,105,110,103],Time:=60,Laps:=0,Out:=false:Offence},{Name:=[115,104,111,114,116,99,117,116],Time:=0,Laps:=2,Out:=false:Offence}].length) 4,.rsl 3 (List.map Category.c []),.rsl 4 (List.map Prize.c []),.osl 5 0 ([{UA with Kind:=1,By:=5:Step}].length) 8,I 0,I 0,I 0,I 0,I 0,I 0,I 0]) (λ_=>[.row 143 2 (List.map Mat.c [{Name:=[108,105,110,101],Kind:=1:Mat},{Name:=[103,111,97,108],Kind:=3:Mat}]),.row 145 4 (List.map Leg.c [{From:=0,To:=1,Min:=0,Max:=50:Leg}]),.row 112 5 (List.map Distance.c [{Name:=[100],Route:=[Us,{Us with Mat:=1:Part}],Timing:=1,Cutoffs:=[],Extra:=(-1):Distance}]),.row 141 2 (List.map Wave.c [{Name:=[119],Gun:=0:Wave}]),.row 92 4 (List.map Offence.c [{Name:=[100,114,97,102,116,105,110,103],Time:=60,Laps:=0,Out:=false:Offence},{Name:=[115,104,111,114,116,99,117,116],Time:=0,Laps:=2,Out:=false:Offence}]),.row 139 8 (List.map Step.enc [{UA with Kind:=1,By:=5:Step}]),.cells 33 [.str [97],.osl 0 0 ([{Name:=[108,105,110,101],Kind:=1:Mat},{Name:=[103,111,97,108],Kind:=3:Mat}].length) 2,.osl 1 0 ([{From:=0,To:=1,Min:=0,Max:=50:Leg}].length) 4,.osl 2 0 ([{Name:=[100],Route:=[Us,{Us with Mat:=1:Part}],Timing:=1,Cutoffs:=[],Extra:=(-1):Distance}].length) 5,.osl 3 0 ([{Name:=[119],Gun:=0:Wave}].length) 2,.osl 4 0 ([{Name:=[100,114,97,102,116,105,110,103],Time:=60,Laps:=0,Out:=false:Offence},{Name:=[115,104,111,114,116,99,117,116],Time:=0,Laps:=2,Out:=false:Offence}].length) 4,.rsl 3 (List.map Category.c []),.rsl 4 (List.map Prize.c []),.osl 5 0 ([{UA with Kind:=1,By:=5:Step}].length) 8,I 0,I 0,I 0,I 0,I 0,I 0,I 0]]) r):=by
 refine Qb func28 Z Z Z ?_;refine G0 8 Z ?_;refine vH (El (xs:=[.tmp 1]) (es:=List.map Step.enc [{UA with Kind:=1,By:=5:Step}]) el_29 Z Z Z Z Z ⟨Z,trivial⟩ Z Z) ?_;refine FE Z (Go 1 Z ?_);refine vH (El (xs:=[.tmp 3]) (es:=List.map Wave.c [{Name:=[119],Gun:=0:Wave}]) el_25 Z Z Z Z Z ⟨Z,trivial⟩ Z Z) ?_;refine FE Z (Go 2 Z ?_);refine vH (El (xs:=[.tmp 5,.tmp 6]) (es:=List.map Offence.c [{Name:=[100,114,97,102,116,105,110,103],Time:=60,Laps:=0,Out:=false:Offence},{Name:=[115,104,111,114,116,99,117,116],Time:=0,Laps:=2,Out:=false:Offence}]) el_26 Z Z Z Z Z ⟨Z,Z,trivial⟩ Z Z) ?_;refine FE Z (Go 2 Z ?_);refine vH (El (xs:=[.tmp 8,.tmp 9]) (es:=List.map Mat.c [{Name:=[108,105,110,101],Kind:=1:Mat},{Name:=[103,111,97,108],Kind:=3:Mat}]) el_22 Z Z Z Z Z ⟨Z,Z,trivial⟩ Z Z) ?_;refine FE Z (Go 1 Z ?_);refine vH (El (xs:=[.tmp 11]) (es:=List.map Leg.c [{From:=0,To:=1,Min:=0,Max:=50:Leg}]) el_23 Z Z Z Z Z ⟨Z,trivial⟩ Z Z) ?_;refine FE Z (Go 2 Z ?_);refine vH (El (xs:=[.tmp 13,.tmp 14]) (es:=List.map Part.enc [Us,{Us with Mat:=1:Part}]) Qq0 Z Z Z Z Z ⟨Z,Z,trivial⟩ Z Z) ?_;refine FE Z (Go 1 Z ?_);refine Et (JI [(15,_),(16,_)] Z Z (QoK.cons Z Ep (QoK.cons Z (FzA.agg (Ed (Ee _) (Ed Ep (Ek _)))) QoK.nil)) (Ec (Ec (Ec (Ec (Ec (Ec (Ec (YP _))))))))) ?_;refine vH (El (xs:=[.tmp 16]) (es:=List.map Distance.c [{Name:=[100],Route:=[Us,{Us with Mat:=1:Part}],Timing:=1,Cutoffs:=[],Extra:=(-1):Distance}]) el_24 Z Z Z Z Z ⟨Z,trivial⟩ Z Z) ?_;refine FE Z (Go 5 Z ?_);obtain rfl:=Oi h;exact Rx [4,5,7,2,3,1,0] [0] Z (YJ Z (Qm isAgg33 sizeOf33 Z Z Z)) ⟨Z,Z⟩
def F_er(n:Nat)(e:List Part)(f:Int)(rec7:(List Part)->Int->Option (Int×Int))(a:Int×Int×Int):Option (Ctl (Int×Int×Int) (Int×Int)):=
  (bif decide (a.2.2<(e.length:Int))then((idx e a.2.2).bind λc=>((bif ((c.Parts.length:Int)==0)then some true else(bif (f==0)then some true else some (decide (256<a.2.1)))):Option Bool).bind λg=>(bif g then some (a.1,a.2.1)else(rec7 c.Parts (IntKind.i64.wrap (f-1))).bind λb=>some ((if a.1<IntKind.i64.wrap (b.1+1)then IntKind.i64.wrap (b.1+1)else a.1),IntKind.i64.wrap (a.2.1+b.2))):Option (Int×Int)).bind λd=>some (.cont (d.1,d.2,IntKind.i64.wrap (a.2.2+1)))else some (.done (a.1,a.2.1)))
def B_n(rec7:(List Part)->Int->Option (Int×Int))(n:Nat)(b:List Part)(c:Int):Option (Int×Int):=
  (iter (F_er n b c rec7) n (0,(b.length:Int),0):Option (Int×Int)).bind λa=>some (a.1,a.2)
theorem QdD(rec7:(List Part)->Int->Option (Int×Int))(l:∀(i:List Part) (j:Int) (r:Int×Int),rec7 i j=some r->Csm prog 103 [.rsl 3 (List.map Part.enc i),I j] [] (λr=>.tup [I r.1,I r.2]) r)(n:Nat)(i:List Part)(j:Int)(r:Int×Int)(h:B_n rec7 n i j=some r):
    Csm prog 103 [.rsl 3 (List.map Part.enc i),I j] [] (λr=>.tup [I r.1,I r.2]) r:=by
 refine Qb func103 Z Z Z ?_;refine G0 9 Z (Lm Z (Go 7 Z (Lm Z (Go 3 Z (Bd h λf x h=>?_)))));refine Ct f [] [] (λf=>[(4,I f.1),(5,I f.2)]) Ze Zf ?_ (λenv H e=>?_)
 .refine G0 1 Z ?_;refine Lp [] [1,12,13] (λd=>[(4,I d.1),(5,I d.2.1),(14,I d.2.2)]) Ze x Zf (Lr []) λd B c p=>?_;refine G0 6 Z (Jb Z c (λq c=>?_) (λq c=>?_))
  .refine Gc 2 Z (Qy c ?_);obtain rfl:=Oj p c;exact Gx 1 Z (QH (Lr []))
  refine Gc 3 Z (Bd c λg a c=>?_);refine Ct g [] [1,12,13,14] (λg=>[(4,I g.1),(5,I g.2)]) Ze Zf ?_ (λenv H e=>?_)
  .refine G0 3 Z (Bd a λy s a=>IzE s (YK y) Z (Go 7 Z (Bd a λk b a=>?_)));refine Ct k [0] [1,4,5,7,12,13,14] (λk=>[(29,.bool k)]) Ze Zf ?_ (λenv H e=>?_)
   .refine G0 3 Z (Lm Z (Go 2 Z (Is 22 b Z (λt b=>?_) (λt b=>?_))))
    .exact Go 8 Z (Cl b [0])
    .refine Go 4 Z (Is 26 b Z (λu b=>?_) (λu b=>?_))
     .exact Go 4 Z (Cl b [0])
     .exact Go 4 Z (Cl b [0])
   refine Gx 1 Z (Ef e (Cn Z a (λw a=>?_) (λw a=>?_)))
   .exact Gc 3 Z (Cl a [])
   refine Gc 8 Z (Cd [] a (l _ _) Z λm z a=>FE Z (Go 11 Z ?_));refine vX (I (if d.1<IntKind.i64.wrap (m.1+1)then IntKind.i64.wrap (m.1+1)else d.1)) (OpV.max Z Z Z Z) ?_;exact Go 7 Z (Cl a [])
  exact Gx 1 Z (Ef e (Gc 4 Z (Qv c (Lr []))))
 refine Gx 1 Z (Ef e (Gc 9 Z ?_));obtain rfl:=Oi h;exact R2 4 5 Z Z (Lr [])
def F_n:Nat->(List Part)->Int->Option (Int×Int)
  |0=>λ_ _=>none
  |n+1=>B_n (F_n n) n
theorem k_n(n:Nat):∀(a:List Part) (b:Int) (r:Int×Int),F_n n a b=some r->Csm prog 103 [.rsl 3 (List.map Part.enc a),I b] [] (λr=>.tup [I r.1,I r.2]) r:=by
  induction n with
  |zero=>intro a b r h;cases h
  |succ n ih=>intro a b r h;exact QdD _ ih n a b r h
def F_hw(n:Nat)(d:Course)(a:Int):Option (Ctl Int (Ctl Unit Bool)):=
  (bif decide (a<(d.Distances.length:Int))then(idx d.Distances a).bind λb=>(F_n n b.Route 17).bind λc=>((bif decide (64<(b.Cutoffs.length:Int))then some true else(bif decide (16<c.1)then some true else some (decide (256<c.2)))):Option Bool).bind λe=>(bif e then some (.done (.done false))else some (.cont (IntKind.i64.wrap (a+1))))else some (.done (.cont ())))
def F_ct(n:Nat)(a:Course):Option Bool:=
  ((bif decide (40<(a.Mats.length:Int))then some true else(bif decide (512<(a.Legs.length:Int))then some true else(bif decide (8<(a.Distances.length:Int))then some true else(bif decide (32<(a.Waves.length:Int))then some true else(bif decide (32<(a.Offences.length:Int))then some true else(bif decide (32<(a.Categories.length:Int))then some true else some (decide (32<(a.Prizes.length:Int))))))))):Option Bool).bind λd=>(bif d then some false else(iter (F_hw n a) n 0:Option (Ctl Unit Bool)).bind λc=>match c with|.cont b=>(some true)|.done b=>some b)
theorem k_ct(n:Nat)(B:Course)(r:Bool)(h:F_ct n B=some r):
    Csm prog 54 [.agg (Course.c B)] [] (λr=>.bool r) r:=by
 refine Qb func54 Z Z Z ?_;refine G0 8 Z (Bd h λk d h=>?_);refine Ct k [0] [1] (λk=>[(46,.bool k)]) Ze Zf ?_ (λenv H f=>?_)
 .refine G0 3 Z (Lm Z (Go 2 Z (Is 11 d Z (λE d=>?_) (λE d=>?_))))
  .exact Go 36 Z (Cl d [0])
  .refine Go 2 Z (Lm Z (Go 3 Z (Is 17 d Z (λl d=>?_) (λl d=>?_))))
   .exact Go 30 Z (Cl d [0])
   .refine Go 2 Z (Lm Z (Go 3 Z (Is 23 d Z (λm d=>?_) (λm d=>?_))))
    .exact Go 24 Z (Cl d [0])
    .refine Go 2 Z (Lm Z (Go 3 Z (Is 29 d Z (λp d=>?_) (λp d=>?_))))
     .exact Go 18 Z (Cl d [0])
     .refine Go 2 Z (Lm Z (Go 3 Z (Is 35 d Z (λq d=>?_) (λq d=>?_))))
      .exact Go 12 Z (Cl d [0])
      .refine Go 2 Z (Lm Z (Go 3 Z (Is 41 d Z (λs d=>?_) (λs d=>?_))))
       .exact Go 6 Z (Cl d [0])
       .exact Go 2 Z (Lm Z (Go 3 Z (Cl d [0])))
 refine Gx 1 Z (Ef f (Cn Z h (λt h=>?_) (λt h=>?_)))
 .exact Gc 7 Z (Rt h 2 [])
 refine Gc 7 Z (Lm Z (Go 3 Z (Bd h λF G h=>?_)));refine CtE (b:=F) [] [] Ze Ze Zf ?_ (λL env H J f=>?_)
 .refine G0 1 Z ?_;refine Lp [] [48,49] (λj=>[(50,I j)]) Ze G Zf (Lr []) λj N a g=>?_;refine G0 6 Z (Jb Z a (λu a=>?_) (λu a=>?_))
  .refine Gc 2 Z (Qy a ?_);obtain rfl:=Oj g a;exact Gx 1 Z (QL Z (Lr []))
  refine Gc 6 Z (Bd a λO w a=>Iz w Z (Go 9 Z (Cd [] a (k_n _ _ _) Z λP M a=>FE Z (Go 8 Z (Bd a λi e a=>?_)))));refine Ct i [] [48,49,50] (λi=>[(71,.bool i)]) Ze Zf ?_ (λenv H f=>?_)
  .refine G0 3 Z (Lm Z (Go 2 Z (Is 64 e Z (λx e=>?_) (λx e=>?_))))
   .exact Go 8 Z (Cl e [])
   .refine Go 4 Z (Is 68 e Z (λy e=>?_) (λy e=>?_))
    .exact Go 4 Z (Cl e [])
    .exact Go 4 Z (Cl e [])
  refine Gx 1 Z (Ef f (Cn Z a (λz a=>?_) (λz a=>?_)))
  .refine Gc 8 Z (Yx a ?_);obtain rfl:=Oj g a;exact Gx 1 Z (Q9 (Gx 1 Z (Rt h 2 [])))
  exact Gc 7 Z (Qv a (Lr []))
 subst J;exact Gx 1 Z (Ef f (Gc 6 Z (Rt h 2 [])))
def F_fn(n:Nat)(a:(List Int)×Int):Option (Ctl ((List Int)×Int) (List Int)):=
  (bif decide (a.2<=122)then(Qes 256 a.1 a.2).bind λd=>(QbN a.1 a.2 2).bind λb=>(Qes 256 b (IntKind.u8.wrap (a.2-32))).bind λe=>(QbN b (IntKind.u8.wrap (a.2-32)) 2).bind λc=>some (.cont (c,IntKind.u8.wrap (a.2+1)))else some (.done a.1))
def F_hh(n:Nat)(a:(List Int)×Int):Option (Ctl ((List Int)×Int) (List Int)):=
  (bif decide (a.2<=57)then(Qes 256 a.1 a.2).bind λc=>(QbN a.1 a.2 3).bind λb=>some (.cont (b,IntKind.u8.wrap (a.2+1)))else some (.done a.1))
def F_ib(n:Nat)(a:(List Int)×Int):Option (Ctl ((List Int)×Int) (List Int)):=
  (bif decide (a.2<([123,125,40,41,91,93,59,44,61,60,62].length:Int))then(idx [123,125,40,41,91,93,59,44,61,60,62] a.2).bind λb=>(Qes 256 a.1 b).bind λd=>(QbN a.1 b 4).bind λc=>some (.cont (c,IntKind.i64.wrap (a.2+1)))else some (.done a.1))
def F_ik(n:Nat)(a:(List Int)×Int):Option (Ctl ((List Int)×Int) (List Int)):=
  (bif decide (a.2<(([32,9,10,13].length):Int))then(idx [32,9,10,13] a.2).bind λb=>(Qes 256 a.1 b).bind λd=>(QbN a.1 b 1).bind λc=>some (.cont (c,IntKind.i64.wrap (a.2+1)))else some (.done a.1))
def F_bx(n:Nat):Option (List Int):=
  (iter (F_fn n) n (List.replicate 256 0,97):Option (List Int)).bind λb=>(iter (F_hh n) n (b,48):Option (List Int)).bind λc=>(iter (F_ib n) n (c,0):Option (List Int)).bind λd=>(iter (F_ik n) n (d,0):Option (List Int)).bind λa=>(arr 256 a).bind λe=>(arr 256 a).bind λg=>(arr 256 e).bind λf=>some f
theorem k_bx(n:Nat)(r:List Int)(h:F_bx n=some r):
    C prog 296 [] [] (RQ (λr=>.agg (List.flatten (List.map (Qf .u8) r))) (λr=>[.row 387 1 (List.map (Qf .u8) r)]) r):=by
 refine Qb func296 Z Z Z ?_;refine G0 2 Z ?_;refine vH (Jh (n:=256) (k:=1) (e:=(Qf .u8)) (z:=0) zeroValue387 (by kernel_rfl) (by kernel_rfl) (by kernel_rfl) Z) ?_;refine FE Z (Go 8 Z (Bd h λt ag h=>?_));refine Ct t [0] [0] Ze (λt=>[(0,.row 387 1 (List.map (Qf .u8) t))]) Zf ?_ (λenv H g=>?_)
 .refine G0 1 Z ?_;refine Lp [0] [0] (λi=>[(1,.int .u8 i.2)]) (λi=>[(0,.row 387 1 (List.map (Qf .u8) i.1))]) ag Zf (Lr [0]) λi ao a M=>?_;refine G0 7 Z (Jb Z a (λN a=>?_) (λN a=>?_))
  .refine Gc 2 Z (Qy a ?_);obtain rfl:=Oj M a;exact Gx 1 Z (QH (Lr [0]))
  refine Gc 8 Z (Bd a λaq u a=>?_);refine vX (.ptr 0 (Int.toNat i.2*1)) (Qai (n:=256) (k:=1) (l:=i.1) u runUnderlying387 sizeOf5 Z) ?_;refine Bd a λah O a=>?_;refine vU (JH (e:=(Qf .u8)) (k:=1) (f:=0) (Qa5 u).2 O sizeOf5 Z Z) ?_;refine FE Z (Bd a λar w a=>?_);refine vX (.ptr 0 (Int.toNat (IntKind.u8.wrap (i.2-32))*1)) (Qai (n:=256) (k:=1) (l:=ah) w runUnderlying387 sizeOf5 Z) ?_;refine Bd a λau P a=>?_;refine vU (JH (e:=(Qf .u8)) (k:=1) (f:=0) (Qa5 w).2 P sizeOf5 Z Z) ?_;exact FE Z (Go 8 Z (Qv a (Lr [0])))
 refine Gx 1 Z (Ef g (Gc 6 Z (Bd h λx ai h=>?_)));refine Ct x [0] [0] Ze (λx=>[(0,.row 387 1 (List.map (Qf .u8) x))]) Zf ?_ (λenv H g=>?_)
 .refine G0 1 Z ?_;refine Lp [0] [0] (λj=>[(2,.int .u8 j.2)]) (λj=>[(0,.row 387 1 (List.map (Qf .u8) j.1))]) ai Zf (Lr [0]) λj av d Q=>?_;refine G0 7 Z (Jb Z d (λR d=>?_) (λR d=>?_))
  .refine Gc 2 Z (Qy d ?_);obtain rfl:=Oj Q d;exact Gx 1 Z (QH (Lr [0]))
  refine Gc 6 Z (Bd d λaw y d=>?_);refine vX (.ptr 0 (Int.toNat j.2*1)) (Qai (n:=256) (k:=1) (l:=j.1) y runUnderlying387 sizeOf5 Z) ?_;refine Bd d λax T d=>?_;refine vU (JH (e:=(Qf .u8)) (k:=1) (f:=0) (Qa5 y).2 T sizeOf5 Z Z) ?_;exact FE Z (Go 8 Z (Qv d (Lr [0])))
 refine Gx 1 Z (Ef g (Gc 3 Z ?_));refine vH (El (xs:=[.const (.int .u8 123),.const (.int .u8 125),.const (.int .u8 40),.const (.int .u8 41),.const (.int .u8 91),.const (.int .u8 93),.const (.int .u8 59),.const (.int .u8 44),.const (.int .u8 61),.const (.int .u8 60),.const (.int .u8 62)]) (es:=List.map (Qf .u8) [123,125,40,41,91,93,59,44,61,60,62]) JF Z Z Z Z Z ⟨Z,Z,Z,Z,Z,Z,Z,Z,Z,Z,Z,trivial⟩ Z Z) ?_;refine FE Z ?_;refine vH (Qmt (es:=List.map (Qf .u8) [123,125,40,41,91,93,59,44,61,60,62]) underlying188 underlying5 (X7 ..) Z) ?_;refine FE Z (Lm Z (Go 3 Z (Bd h λB aj h=>?_)));refine Ct B [0] [0] Ze (λB=>[(0,.row 387 1 (List.map (Qf .u8) B))]) Zf ?_ (λenv H g=>?_)
 .refine G0 1 Z ?_;refine Lp [0] [0,23,24] (λp=>[(25,I p.2)]) (λp=>[(0,.row 387 1 (List.map (Qf .u8) p.1))]) aj Zf (Lr [0]) λp ay b V=>?_;refine G0 6 Z (Jb Z b (λW b=>?_) (λW b=>?_))
  .refine Gc 2 Z (Qy b ?_);obtain rfl:=Oj V b;exact Gx 1 Z (QH (Lr [0]))
  refine Gc 6 Z (Bd b λak X b=>Iz X Z (Go 6 Z (Bd b λaz E b=>?_)));refine vX (.ptr 0 (Int.toNat ak*1)) (Qai (n:=256) (k:=1) (l:=p.1) E runUnderlying387 sizeOf5 Z) ?_;refine Bd b λba Y b=>?_;refine vU (JH (e:=(Qf .u8)) (k:=1) (f:=0) (Qa5 E).2 Y sizeOf5 Z Z) ?_;exact FE Z (Go 7 Z (Qv b (Lr [0])))
 refine Gx 1 Z (Ef g (Gc 3 Z ?_));refine vH (El (xs:=[.const (.int .u8 32),.const (.int .u8 9),.const (.int .u8 10),.const (.int .u8 13)]) (es:=List.map (Qf .u8) [32,9,10,13]) JF Z Z Z Z Z ⟨Z,Z,Z,Z,trivial⟩ Z Z) ?_;refine FE Z (Go 4 Z (Bd h λs al h=>?_));refine Ct s [0] [0] Ze (λs=>[(0,.row 387 1 (List.map (Qf .u8) s))]) Zf ?_ (λenv H g=>?_)
 .refine G0 1 Z ?_;refine Lp [0,1] [0,32,33] (λm=>[(34,I m.2)]) (λm=>[(0,.row 387 1 (List.map (Qf .u8) m.1))]) al Zf (Lr [0,1]) λm bb c aa=>?_;refine G0 6 Z (Jb Z c (λab c=>?_) (λab c=>?_))
  .refine Gc 2 Z (Qy c ?_);obtain rfl:=Oj aa c;exact Gx 1 Z (QH (Lr [0]))
  refine Gc 6 Z (Bd c λL F c=>?_);refine vX (.ptr 1 (Int.toNat m.2*1)) (QJ F Z runUnderlying188 sizeOf5) ?_;refine vX (.int .u8 L) (Ez Z isAgg5 Z (Qq F)) ?_;refine Go 5 Z (Bd c λbc G c=>?_);refine vX (.ptr 0 (Int.toNat L*1)) (Qai (n:=256) (k:=1) (l:=m.1) G runUnderlying387 sizeOf5 Z) ?_;refine Bd c λbd ac c=>?_;refine vU (JH (e:=(Qf .u8)) (k:=1) (f:=0) (Qa5 G).2 ac sizeOf5 Z Z) ?_;exact FE Z (Go 7 Z (Qv c (Lr [0,1])))
 refine Gx 1 Z (Ef g (Gc 2 Z (Bd h λam ae h=>?_)));refine vX (.agg (List.flatten (List.map (Qf .u8) am))) (Qjl (e:=(Qf .u8)) ae Zf Z isAgg387 sizeOf387) ?_;refine Bd h λbe af h=>Bd h λan q h=>?_;obtain⟨J,rfl⟩:=Jr af;refine vU (Jg (e:=(Qf .u8)) (l:=s) (l':=an) J (Qbz q) Zf Z sizeOf387 Zf Zf (congrArg (λl=>List.flatten (List.map (Qf .u8) l)) (Jr q).2.symm)) ?_;refine FE Z (Go 3 Z ?_);obtain rfl:=Oi h;exact Rx [0] [0] Z (YJ Z (Qmf (e:=(Qf .u8)) (Qbz q) Zf Z isAgg387 sizeOf387)) ⟨Z,Z⟩
def F_ie(n:Nat)(c:List UInt8)(g:List Int)(a:Int):Option (Ctl Int (Ctl Unit Bool)):=
  (bif decide (a<(c.length:Int))then(idx c a).bind λd=>(Qes 256 g (d.toNat:Int)).bind λb=>((bif (b != 2)then(bif (a==0)then some true else(bif (b != 3)then(idx c a).bind λe=>some ((e.toNat:Int) != 95)else some false))else some false):Option Bool).bind λf=>(bif f then some (.done (.done false))else some (.cont (IntKind.i64.wrap (a+1))))else some (.done (.cont ())))
def F_bw(n:Nat)(b:List UInt8):Option Bool:=
  (F_bx n).bind λd=>(arr 256 (List.replicate 256 0)).bind λf=>(arr 256 d).bind λe=>(iter (F_ie n b e) n 0:Option (Ctl Unit Bool)).bind λc=>match c with|.cont a=>(some (b != []))|.done a=>some a
theorem k_bw(n:Nat)(q:List UInt8)(r:Bool)(h:F_bw n q=some r):
    Csm prog 232 [.str q] [] (λr=>.bool r) r:=by
 refine Qb func232 Z Z Z ?_;refine G0 7 Z (Bd h λG J h=>?_);refine Qz [] (OpC.fn call296 Z Z Z) (k_bx _ _ J) ?_;rintro _ _ ⟨rfl,rfl⟩;refine Qq7 (x:=(.agg (List.flatten (List.map (Qf .u8) G)))) (H:=[.row 387 1 (List.map (Qf .u8) G)]) (Qo4 (e:=(Qf .u8)) Zf _ _) Z ?_;refine vH (Jh (n:=256) (k:=1) (e:=(Qf .u8)) (z:=0) zeroValue387 (by kernel_rfl) (by kernel_rfl) (by kernel_rfl) Z) ?_;refine FE Z (Bd h λW L h=>Bd h λM j h=>?_);obtain⟨s,rfl⟩:=Jr L;refine vU (Jg (e:=(Qf .u8)) (l:=(List.replicate 256 0)) (l':=M) s (Qbz j) Zf Z sizeOf387 Zf Zf (congrArg (λl=>List.flatten (List.map (Qf .u8) l)) (Jr j).2.symm)) ?_;refine FE Z (Go 6 Z ?_);refine vX (I (q.length:Int)) (QaW Z Z runUnderlying9 Z) ?_;refine Go 3 Z (Bd h λN O h=>?_);refine CtE (b:=N) [] [0] Ze Ze Zf ?_ (λT env H P d=>?_)
 .refine G0 1 Z ?_;refine Lp [1] [0,3,8] (λm=>[(9,I m)]) Ze O Zf (Lr [1]) λm V a f=>?_;refine G0 6 Z (Jb Z a (λt a=>?_) (λt a=>?_))
  .refine Gc 2 Z (Qy a ?_);obtain rfl:=Oj f a;exact Gx 1 Z (QL Z (Lr []))
  refine Gc 14 Z (Bd a λp u a=>?_);refine vX (.int .u8 (p.toNat:Int)) (QaV u runUnderlying9) ?_;refine Bd a λQ g a=>?_;refine vX (.ptr 0 (Int.toNat (p.toNat:Int)*1)) (Qai (n:=256) (k:=1) (l:=M) g runUnderlying387 sizeOf5 Z) ?_;refine vX (.int .u8 Q) (Ez Z isAgg5 Z (Qq (Qa5 g).2)) ?_;refine Go 4 Z (Bd a λi c a=>?_);refine Ct i [0] [0,3,8,9] (λi=>[(32,.bool i)]) Ze Zf ?_ (λenv H d=>?_)
  .refine G0 4 Z (Is 19 c Z (λw c=>?_) (λw c=>?_))
   .refine Go 3 Z (Is 22 c Z (λy c=>?_) (λy c=>?_))
    .exact Go 11 Z (Cl c [0])
    .refine Go 3 Z (Is 25 c Z (λB c=>?_) (λB c=>?_))
     .refine Go 2 Z (Bd c λR E c=>?_);refine vX (.int .u8 (R.toNat:Int)) (QaV E runUnderlying9) ?_ (gT Z);exact Go 5 Z (Cl c [0])
     .exact Go 8 Z (Cl c [0])
   .exact Go 14 Z (Cl c [0])
  refine Gx 1 Z (Ef d (Cn Z a (λF a=>?_) (λF a=>?_)))
  .refine Gc 8 Z (Yx a ?_);obtain rfl:=Oj f a;exact Gx 1 Z (Q9 (Gx 1 Z (Rt h 2 [])))
  exact Gc 7 Z (Qv a (Lr [0]))
 subst P;exact Gx 1 Z (Ef d (Gc 8 Z (Rt h 2 [])))
def F_co(n:Nat)(a:List UInt8):Option Bool:=
  ((F_bw n a).bind λe=>(bif e then(cat [32] a).bind λb=>(cat b [32]).bind λc=>(Qfr [32,99,111,117,114,115,101,32,109,97,116,115,32,115,116,97,114,116,32,112,97,115,115,32,101,110,100,32,108,101,103,32,116,111,32,100,105,115,116,97,110,99,101,32,103,117,110,32,99,104,105,112,32,115,108,111,116,32,108,97,112,115,32,108,97,112,32,99,117,116,111,102,102,32,101,120,116,114,97,32,119,97,118,101,32,111,102,102,101,110,99,101,32,111,117,116,32,99,97,116,101,103,111,114,121,32,112,114,105,122,101,32,97,108,108,32,116,105,101,115,32,105,102,32,101,108,115,101,32,97,110,100,32,111,114,32,110,111,116,32,111,108,100,101,114,32,121,111,117,110,103,101,114,32,98,105,98,32,100,114,97,119,32,102,105,101,108,100,32,115,104,111,114,116,32,102,97,117,108,116,115,32,109,105,115,115,101,115,32,115,116,114,97,121,115,32,119,105,110,100,111,119,32,114,101,115,105,100,117,97,108,32,100,114,105,102,116,32,112,114,111,116,101,115,116,32,102,101,101,32,100,101,97,100,108,105,110,101,32] c).bind λd=>some d else some false):Option Bool).bind λf=>some f
theorem k_co(n:Nat)(f:List UInt8)(r:Bool)(h:F_co n f=some r):
    Csm prog 188 [.str f] [] (λr=>.bool r) r:=by
 refine Qb func188 Z Z Z ?_;refine G0 6 Z (Bd h λb a h=>?_);refine Ct b [] [] (λb=>[(2,.bool b)]) Ze Zf ?_ (λenv H g=>?_)
 .refine G0 2 Z (Cz [] a (k_bw _ _) Z λp l a=>Go 1 Z (Is 5 a Z (λi a=>?_) (λi a=>?_)))
  .refine Go 1 Z (Bd a λj c a=>?_);refine vX (.str j) (Qf0 c) ?_ (gT Z);refine Bd a λk d a=>?_;refine vX (.str k) (Qf0 d) ?_ (gT Z);refine Bd a λm e a=>?_;refine Qz [] (OpC.fn call233 Z Z Z) (C.contains QdI Z e) ?_ (hg:=(gT Z));rintro _ _ ⟨rfl,rfl⟩;exact FE Z (Go 3 Z (Cl a []))
  .exact Go 7 Z (Cl a [])
 exact Gx 1 Z (Ef g (Gc 1 Z (Rt h 2 [])))
def F_hg(n:Nat)(c:List UInt8)(b:Int):Option (Ctl Int (Ctl Unit Bool)):=
  (bif decide (b<(c.length:Int))then(idx c b).bind λa=>((bif decide ((a.toNat:Int)<97)then(bif decide ((a.toNat:Int)<48)then some ((a.toNat:Int) != 95)else(bif decide (57<(a.toNat:Int))then some ((a.toNat:Int) != 95)else some false))else(bif decide (122<(a.toNat:Int))then(bif decide ((a.toNat:Int)<48)then some ((a.toNat:Int) != 95)else(bif decide (57<(a.toNat:Int))then some ((a.toNat:Int) != 95)else some false))else some false)):Option Bool).bind λd=>(bif d then some (.done (.done false))else some (.cont (IntKind.i64.wrap (b+1))))else some (.done (.cont ())))
def F_c(n:Nat)(a:List UInt8):Option Bool:=
  ((bif decide ((a.length:Int)<1)then some true else(bif decide (24<(a.length:Int))then some true else(idx a 0).bind λc=>(bif decide ((c.toNat:Int)<97)then some true else(idx a 0).bind λd=>some (decide (122<(d.toNat:Int)))))):Option Bool).bind λg=>(bif g then some false else(iter (F_hg n a) n 0:Option (Ctl Unit Bool)).bind λe=>match e with|.cont b=>((F_co n a).bind λf=>some (!f))|.done b=>some b)
theorem k_c(n:Nat)(f:List UInt8)(r:Bool)(h:F_c n f=some r):
    Csm prog 104 [.str f] [] (λr=>.bool r) r:=by
 refine Qb func104 Z Z Z ?_;refine G0 7 Z (Bd h λk d h=>?_);refine Ct k [] [0] (λk=>[(22,.bool k)]) Ze Zf ?_ (λenv H e=>?_)
 .refine G0 2 Z ?_;refine vX (I (f.length:Int)) (QaW Z Z runUnderlying9 Z) ?_;refine Go 2 Z (Is 8 d Z (λF d=>?_) (λF d=>?_))
  .exact Go 15 Z (Cl d [])
  .refine Go 1 Z ?_;refine vX (I (f.length:Int)) (QaW Z Z runUnderlying9 Z) ?_ (gT Z);refine Go 3 Z (Is 13 d Z (λG d=>?_) (λG d=>?_))
   .exact Go 10 Z (Cl d [])
   .refine Go 1 Z (Bd d λJ l d=>?_);refine vX (.int .u8 (J.toNat:Int)) (QaV l runUnderlying9) ?_ (gT Z);refine Go 3 Z (Is 18 d Z (λm d=>?_) (λm d=>?_))
    .exact Go 5 Z (Cl d [])
    .refine Go 1 Z (Bd d λL p d=>?_);refine vX (.int .u8 (L.toNat:Int)) (QaV p runUnderlying9) ?_ (gT Z);exact Go 3 Z (Cl d [])
 refine Gx 1 Z (Ef e (Cn Z h (λq h=>?_) (λq h=>?_)))
 .exact Gc 7 Z (Rt h 2 [])
 refine Gc 6 Z ?_;refine vX (I (f.length:Int)) (QaW Z Z runUnderlying9 Z) ?_;refine Go 3 Z (Bd h λM N h=>?_);refine CtE (b:=M) [] [0] Ze Ze Zf ?_ (λQ env H O e=>?_)
 .refine G0 1 Z ?_;refine Lp [] [0,24] (λj=>[(25,I j)]) Ze N Zf (Lr []) λj T c g=>?_;refine G0 6 Z (Jb Z c (λs c=>?_) (λs c=>?_))
  .refine Gc 2 Z (Qy c ?_);obtain rfl:=Oj g c;exact Gx 1 Z (QL Z (Lr []))
  refine Gc 14 Z (Bd c λP t c=>?_);refine vX (.int .u8 (P.toNat:Int)) (QaV t runUnderlying9) ?_;refine Go 4 Z (Bd c λi a c=>?_);refine Ct i [] [0,24,25] (λi=>[(48,.bool i)]) Ze Zf ?_ (λenv H e=>?_)
  .refine G0 4 Z (Is 33 a Z (λu a=>?_) (λu a=>?_))
   .refine Go 7 Z (Is 40 a Z (λw a=>?_) (λw a=>?_))
    .exact Go 9 Z (Cl a [])
    .refine Go 5 Z (Is 45 a Z (λx a=>?_) (λx a=>?_))
     .exact Go 4 Z (Cl a [])
     .exact Go 4 Z (Cl a [])
   .refine Go 4 Z (Is 37 a Z (λy a=>?_) (λy a=>?_))
    .refine Go 3 Z (Is 40 a Z (λz a=>?_) (λz a=>?_))
     .exact Go 9 Z (Cl a [])
     .refine Go 5 Z (Is 45 a Z (λB a=>?_) (λB a=>?_))
      .exact Go 4 Z (Cl a [])
      .exact Go 4 Z (Cl a [])
    .exact Go 12 Z (Cl a [])
  refine Gx 1 Z (Ef e (Cn Z c (λE c=>?_) (λE c=>?_)))
  .refine Gc 8 Z (Yx c ?_);obtain rfl:=Oj g c;exact Gx 1 Z (Q9 (Gx 1 Z (Rt h 2 [])))
  exact Gc 7 Z (Qv c (Lr []))
 subst O;exact Gx 1 Z (Ef e (Gc 3 Z (Cz [] h (k_co _ _) Z λV R h=>Go 5 Z (Rt h 2 []))))
def F_ee(n:Nat)(a:Mat):Option Unit:=
  some ()
theorem k_ee(n:Nat)(a:Mat)(r:Unit)(h:F_ee n a=some r):
    Csm prog 106 [.agg (Mat.c a)] [] (λ_=>.str a.Name) r:=by
 refine Qb func106 Z Z Z ?_;exact G0 14 Z (Rt h 2 [])
def F_je(n:Nat)(c:List Mat)(a:(List (List UInt8×Bool))×Int):Option (Ctl ((List (List UInt8×Bool))×Int) (Ctl Unit Bool)):=
  (bif decide (a.2<(c.length:Int))then(idx c a.2).bind λb=>(F_ee n b).bind λh=>((F_c n b.Name).bind λd=>(bif (!d)then some true else(some (QI a.1 b.Name false)).bind λe=>some e):Option Bool).bind λf=>(bif f then some (.done (.done false))else(some (QE a.1 b.Name true)).bind λg=>some (.cont (g,IntKind.i64.wrap (a.2+1))))else some (.done (.cont ())))
def F_dl(n:Nat)(c:List Mat):Option Bool:=
  (iter (F_je n c) n ([],0):Option (Ctl Unit Bool)).bind λb=>match b with|.cont a=>(some true)|.done a=>some a
theorem k_dl(n:Nat)(w:List Mat)(r:Bool)(h:F_dl n w=some r):
    Csm prog 105 [.rsl 2 (List.map Mat.c w),.fn (.func 106) [] []] [] (λr=>.bool r) r:=by
 refine Qb func105 Z Z Z ?_;refine G0 7 Z ?_;refine vH Ye ?_;refine FE Z (Go 7 Z (Lm Z (Go 3 Z (Bd h λx y h=>?_))));refine CtE (b:=x) [] [] Ze Ze Zf ?_ (λE env H z f=>?_)
 .refine G0 1 Z ?_;refine Lp [0] [1,5,10,11] (λe=>[(12,I e.2)]) (λe=>[(0,.map (Qi A.str A.bool e.1))]) y Zf (Lr [0]) λe J a g=>?_;refine G0 6 Z (Jb Z a (λm a=>?_) (λm a=>?_))
  .refine Gc 2 Z (Qy a ?_);obtain rfl:=Oj g a;exact Gx 1 Z (QL Z (Lr []))
  refine Gc 6 Z (Bd a λj p a=>Iz p Z (Go 9 Z (Cz [] a (k_ee _ _) Z λL F a=>Go 5 Z (Bd a λi d a=>?_))));refine Ct i [0] [1,5,8,10,11,12] (λi=>[(26,.bool i)]) Ze Zf ?_ (λenv H f=>?_)
  .refine G0 2 Z (Cz [] d (k_c _ _) Z λM G d=>Go 2 Z (Is 22 d Z (λq d=>?_) (λq d=>?_)))
   .exact Go 5 Z (Cl d [0])
   .refine Go 2 Z (Bd d λB s d=>?_);refine vX (.bool B) (Y9 (ev:=A.bool) (z0:=false) (k:=j.Name) (l:=e.1) Qcu s underlying304 zeroValue4 ZR.bool) ?_ (gT Z);exact Go 2 Z (Cl d [0])
  refine Gx 1 Z (Ef f (Cn Z a (λt a=>?_) (λt a=>?_)))
  .refine Gc 9 Z (Yx a ?_);obtain rfl:=Oj g a;exact Gx 1 Z (Q9 (Gx 1 Z (Rt h 4 [])))
  refine Gc 5 Z (Bd a λN u a=>?_);refine vU (Yc (ev:=A.bool) (k:=j.Name) (v:=true) (l:=e.1) Qcu u Z underlying304) ?_;exact FE Z (Go 7 Z (Qv a (Lr [0])))
 subst z;exact Gx 1 Z (Ef f (Gc 6 Z (Rt h 4 [])))
def F_dr(n:Nat)(a:Distance):Option Unit:=
  some ()
theorem k_dr(n:Nat)(a:Distance)(r:Unit)(h:F_dr n a=some r):
    Csm prog 108 [.agg (Distance.c a)] [] (λ_=>.str a.Name) r:=by
 refine Qb func108 Z Z Z ?_;exact G0 14 Z (Rt h 2 [])
def F_jh(n:Nat)(c:List Distance)(a:(List (List UInt8×Bool))×Int):Option (Ctl ((List (List UInt8×Bool))×Int) (Ctl Unit Bool)):=
  (bif decide (a.2<(c.length:Int))then(idx c a.2).bind λb=>(F_dr n b).bind λh=>((F_c n b.Name).bind λd=>(bif (!d)then some true else(some (QI a.1 b.Name false)).bind λe=>some e):Option Bool).bind λf=>(bif f then some (.done (.done false))else(some (QE a.1 b.Name true)).bind λg=>some (.cont (g,IntKind.i64.wrap (a.2+1))))else some (.done (.cont ())))
def F_cs(n:Nat)(c:List Distance):Option Bool:=
  (iter (F_jh n c) n ([],0):Option (Ctl Unit Bool)).bind λb=>match b with|.cont a=>(some true)|.done a=>some a
theorem k_cs(n:Nat)(w:List Distance)(r:Bool)(h:F_cs n w=some r):
    Csm prog 107 [.rsl 5 (List.map Distance.c w),.fn (.func 108) [] []] [] (λr=>.bool r) r:=by
 refine Qb func107 Z Z Z ?_;refine G0 7 Z ?_;refine vH Ye ?_;refine FE Z (Go 7 Z (Lm Z (Go 3 Z (Bd h λx y h=>?_))));refine CtE (b:=x) [] [] Ze Ze Zf ?_ (λE env H z f=>?_)
 .refine G0 1 Z ?_;refine Lp [0] [1,5,10,11] (λe=>[(12,I e.2)]) (λe=>[(0,.map (Qi A.str A.bool e.1))]) y Zf (Lr [0]) λe J a g=>?_;refine G0 6 Z (Jb Z a (λm a=>?_) (λm a=>?_))
  .refine Gc 2 Z (Qy a ?_);obtain rfl:=Oj g a;exact Gx 1 Z (QL Z (Lr []))
  refine Gc 6 Z (Bd a λj p a=>Iz p Z (Go 9 Z (Cz [] a (k_dr _ _) Z λL F a=>Go 5 Z (Bd a λi d a=>?_))));refine Ct i [0] [1,5,8,10,11,12] (λi=>[(26,.bool i)]) Ze Zf ?_ (λenv H f=>?_)
  .refine G0 2 Z (Cz [] d (k_c _ _) Z λM G d=>Go 2 Z (Is 22 d Z (λq d=>?_) (λq d=>?_)))
   .exact Go 5 Z (Cl d [0])
   .refine Go 2 Z (Bd d λB s d=>?_);refine vX (.bool B) (Y9 (ev:=A.bool) (z0:=false) (k:=j.Name) (l:=e.1) Qcu s underlying304 zeroValue4 ZR.bool) ?_ (gT Z);exact Go 2 Z (Cl d [0])
  refine Gx 1 Z (Ef f (Cn Z a (λt a=>?_) (λt a=>?_)))
  .refine Gc 9 Z (Yx a ?_);obtain rfl:=Oj g a;exact Gx 1 Z (Q9 (Gx 1 Z (Rt h 4 [])))
  refine Gc 5 Z (Bd a λN u a=>?_);refine vU (Yc (ev:=A.bool) (k:=j.Name) (v:=true) (l:=e.1) Qcu u Z underlying304) ?_;exact FE Z (Go 7 Z (Qv a (Lr [0])))
 subst z;exact Gx 1 Z (Ef f (Gc 6 Z (Rt h 4 [])))
def F_gc(n:Nat)(a:Wave):Option Unit:=
  some ()
theorem k_gc(n:Nat)(a:Wave)(r:Unit)(h:F_gc n a=some r):
    Csm prog 110 [.agg (Wave.c a)] [] (λ_=>.str a.Name) r:=by
 refine Qb func110 Z Z Z ?_;exact G0 14 Z (Rt h 2 [])
def F_jb(n:Nat)(c:List Wave)(a:(List (List UInt8×Bool))×Int):Option (Ctl ((List (List UInt8×Bool))×Int) (Ctl Unit Bool)):=
  (bif decide (a.2<(c.length:Int))then(idx c a.2).bind λb=>(F_gc n b).bind λh=>((F_c n b.Name).bind λd=>(bif (!d)then some true else(some (QI a.1 b.Name false)).bind λe=>some e):Option Bool).bind λf=>(bif f then some (.done (.done false))else(some (QE a.1 b.Name true)).bind λg=>some (.cont (g,IntKind.i64.wrap (a.2+1))))else some (.done (.cont ())))
def F_bg(n:Nat)(c:List Wave):Option Bool:=
  (iter (F_jb n c) n ([],0):Option (Ctl Unit Bool)).bind λb=>match b with|.cont a=>(some true)|.done a=>some a
theorem k_bg(n:Nat)(w:List Wave)(r:Bool)(h:F_bg n w=some r):
    Csm prog 109 [.rsl 2 (List.map Wave.c w),.fn (.func 110) [] []] [] (λr=>.bool r) r:=by
 refine Qb func109 Z Z Z ?_;refine G0 7 Z ?_;refine vH Ye ?_;refine FE Z (Go 7 Z (Lm Z (Go 3 Z (Bd h λx y h=>?_))));refine CtE (b:=x) [] [] Ze Ze Zf ?_ (λE env H z f=>?_)
 .refine G0 1 Z ?_;refine Lp [0] [1,5,10,11] (λe=>[(12,I e.2)]) (λe=>[(0,.map (Qi A.str A.bool e.1))]) y Zf (Lr [0]) λe J a g=>?_;refine G0 6 Z (Jb Z a (λm a=>?_) (λm a=>?_))
  .refine Gc 2 Z (Qy a ?_);obtain rfl:=Oj g a;exact Gx 1 Z (QL Z (Lr []))
  refine Gc 6 Z (Bd a λj p a=>Iz p Z (Go 9 Z (Cz [] a (k_gc _ _) Z λL F a=>Go 5 Z (Bd a λi d a=>?_))));refine Ct i [0] [1,5,8,10,11,12] (λi=>[(26,.bool i)]) Ze Zf ?_ (λenv H f=>?_)
  .refine G0 2 Z (Cz [] d (k_c _ _) Z λM G d=>Go 2 Z (Is 22 d Z (λq d=>?_) (λq d=>?_)))
   .exact Go 5 Z (Cl d [0])
   .refine Go 2 Z (Bd d λB s d=>?_);refine vX (.bool B) (Y9 (ev:=A.bool) (z0:=false) (k:=j.Name) (l:=e.1) Qcu s underlying304 zeroValue4 ZR.bool) ?_ (gT Z);exact Go 2 Z (Cl d [0])
  refine Gx 1 Z (Ef f (Cn Z a (λt a=>?_) (λt a=>?_)))
  .refine Gc 9 Z (Yx a ?_);obtain rfl:=Oj g a;exact Gx 1 Z (Q9 (Gx 1 Z (Rt h 4 [])))
  refine Gc 5 Z (Bd a λN u a=>?_);refine vU (Yc (ev:=A.bool) (k:=j.Name) (v:=true) (l:=e.1) Qcu u Z underlying304) ?_;exact FE Z (Go 7 Z (Qv a (Lr [0])))
 subst z;exact Gx 1 Z (Ef f (Gc 6 Z (Rt h 4 [])))
def F_fw(n:Nat)(a:Offence):Option Unit:=
  some ()
theorem k_fw(n:Nat)(a:Offence)(r:Unit)(h:F_fw n a=some r):
    Csm prog 112 [.agg (Offence.c a)] [] (λ_=>.str a.Name) r:=by
 refine Qb func112 Z Z Z ?_;exact G0 14 Z (Rt h 2 [])
def F_jf(n:Nat)(c:List Offence)(a:(List (List UInt8×Bool))×Int):Option (Ctl ((List (List UInt8×Bool))×Int) (Ctl Unit Bool)):=
  (bif decide (a.2<(c.length:Int))then(idx c a.2).bind λb=>(F_fw n b).bind λh=>((F_c n b.Name).bind λd=>(bif (!d)then some true else(some (QI a.1 b.Name false)).bind λe=>some e):Option Bool).bind λf=>(bif f then some (.done (.done false))else(some (QE a.1 b.Name true)).bind λg=>some (.cont (g,IntKind.i64.wrap (a.2+1))))else some (.done (.cont ())))
def F_dm(n:Nat)(c:List Offence):Option Bool:=
  (iter (F_jf n c) n ([],0):Option (Ctl Unit Bool)).bind λb=>match b with|.cont a=>(some true)|.done a=>some a
theorem k_dm(n:Nat)(w:List Offence)(r:Bool)(h:F_dm n w=some r):
    Csm prog 111 [.rsl 4 (List.map Offence.c w),.fn (.func 112) [] []] [] (λr=>.bool r) r:=by
 refine Qb func111 Z Z Z ?_;refine G0 7 Z ?_;refine vH Ye ?_;refine FE Z (Go 7 Z (Lm Z (Go 3 Z (Bd h λx y h=>?_))));refine CtE (b:=x) [] [] Ze Ze Zf ?_ (λE env H z f=>?_)
 .refine G0 1 Z ?_;refine Lp [0] [1,5,10,11] (λe=>[(12,I e.2)]) (λe=>[(0,.map (Qi A.str A.bool e.1))]) y Zf (Lr [0]) λe J a g=>?_;refine G0 6 Z (Jb Z a (λm a=>?_) (λm a=>?_))
  .refine Gc 2 Z (Qy a ?_);obtain rfl:=Oj g a;exact Gx 1 Z (QL Z (Lr []))
  refine Gc 6 Z (Bd a λj p a=>Iz p Z (Go 9 Z (Cz [] a (k_fw _ _) Z λL F a=>Go 5 Z (Bd a λi d a=>?_))));refine Ct i [0] [1,5,8,10,11,12] (λi=>[(26,.bool i)]) Ze Zf ?_ (λenv H f=>?_)
  .refine G0 2 Z (Cz [] d (k_c _ _) Z λM G d=>Go 2 Z (Is 22 d Z (λq d=>?_) (λq d=>?_)))
   .exact Go 5 Z (Cl d [0])
   .refine Go 2 Z (Bd d λB s d=>?_);refine vX (.bool B) (Y9 (ev:=A.bool) (z0:=false) (k:=j.Name) (l:=e.1) Qcu s underlying304 zeroValue4 ZR.bool) ?_ (gT Z);exact Go 2 Z (Cl d [0])
  refine Gx 1 Z (Ef f (Cn Z a (λt a=>?_) (λt a=>?_)))
  .refine Gc 9 Z (Yx a ?_);obtain rfl:=Oj g a;exact Gx 1 Z (Q9 (Gx 1 Z (Rt h 4 [])))
  refine Gc 5 Z (Bd a λN u a=>?_);refine vU (Yc (ev:=A.bool) (k:=j.Name) (v:=true) (l:=e.1) Qcu u Z underlying304) ?_;exact FE Z (Go 7 Z (Qv a (Lr [0])))
 subst z;exact Gx 1 Z (Ef f (Gc 6 Z (Rt h 4 [])))
def F_gi(n:Nat)(a:Category):Option Unit:=
  some ()
theorem k_gi(n:Nat)(a:Category)(r:Unit)(h:F_gi n a=some r):
    Csm prog 114 [.agg (Category.c a)] [] (λ_=>.str a.Name) r:=by
 refine Qb func114 Z Z Z ?_;exact G0 14 Z (Rt h 2 [])
def F_jc(n:Nat)(c:List Category)(a:(List (List UInt8×Bool))×Int):Option (Ctl ((List (List UInt8×Bool))×Int) (Ctl Unit Bool)):=
  (bif decide (a.2<(c.length:Int))then(idx c a.2).bind λb=>(F_gi n b).bind λh=>((F_c n b.Name).bind λd=>(bif (!d)then some true else(some (QI a.1 b.Name false)).bind λe=>some e):Option Bool).bind λf=>(bif f then some (.done (.done false))else(some (QE a.1 b.Name true)).bind λg=>some (.cont (g,IntKind.i64.wrap (a.2+1))))else some (.done (.cont ())))
def F_cq(n:Nat)(c:List Category):Option Bool:=
  (iter (F_jc n c) n ([],0):Option (Ctl Unit Bool)).bind λb=>match b with|.cont a=>(some true)|.done a=>some a
theorem k_cq(n:Nat)(w:List Category)(r:Bool)(h:F_cq n w=some r):
    Csm prog 113 [.rsl 3 (List.map Category.c w),.fn (.func 114) [] []] [] (λr=>.bool r) r:=by
 refine Qb func113 Z Z Z ?_;refine G0 7 Z ?_;refine vH Ye ?_;refine FE Z (Go 7 Z (Lm Z (Go 3 Z (Bd h λx y h=>?_))));refine CtE (b:=x) [] [] Ze Ze Zf ?_ (λE env H z f=>?_)
 .refine G0 1 Z ?_;refine Lp [0] [1,5,10,11] (λe=>[(12,I e.2)]) (λe=>[(0,.map (Qi A.str A.bool e.1))]) y Zf (Lr [0]) λe J a g=>?_;refine G0 6 Z (Jb Z a (λm a=>?_) (λm a=>?_))
  .refine Gc 2 Z (Qy a ?_);obtain rfl:=Oj g a;exact Gx 1 Z (QL Z (Lr []))
  refine Gc 6 Z (Bd a λj p a=>Iz p Z (Go 9 Z (Cz [] a (k_gi _ _) Z λL F a=>Go 5 Z (Bd a λi d a=>?_))));refine Ct i [0] [1,5,8,10,11,12] (λi=>[(26,.bool i)]) Ze Zf ?_ (λenv H f=>?_)
  .refine G0 2 Z (Cz [] d (k_c _ _) Z λM G d=>Go 2 Z (Is 22 d Z (λq d=>?_) (λq d=>?_)))
   .exact Go 5 Z (Cl d [0])
   .refine Go 2 Z (Bd d λB s d=>?_);refine vX (.bool B) (Y9 (ev:=A.bool) (z0:=false) (k:=j.Name) (l:=e.1) Qcu s underlying304 zeroValue4 ZR.bool) ?_ (gT Z);exact Go 2 Z (Cl d [0])
  refine Gx 1 Z (Ef f (Cn Z a (λt a=>?_) (λt a=>?_)))
  .refine Gc 9 Z (Yx a ?_);obtain rfl:=Oj g a;exact Gx 1 Z (Q9 (Gx 1 Z (Rt h 4 [])))
  refine Gc 5 Z (Bd a λN u a=>?_);refine vU (Yc (ev:=A.bool) (k:=j.Name) (v:=true) (l:=e.1) Qcu u Z underlying304) ?_;exact FE Z (Go 7 Z (Qv a (Lr [0])))
 subst z;exact Gx 1 Z (Ef f (Gc 6 Z (Rt h 4 [])))
def F_cz(n:Nat)(a:Course):Option Bool:=
  ((F_c n a.Name).bind λb=>(bif b then(F_dl n a.Mats).bind λc=>(bif c then(F_cs n a.Distances).bind λd=>(bif d then(F_bg n a.Waves).bind λe=>(bif e then(F_dm n a.Offences).bind λf=>(bif f then(F_cq n a.Categories).bind λg=>some g else some false)else some false)else some false)else some false)else some false):Option Bool).bind λh=>some h
theorem k_cz(n:Nat)(j:Course)(r:Bool)(h:F_cz n j=some r):
    Csm prog 55 [.agg (Course.c j)] [] (λr=>.bool r) r:=by
 refine Qb func55 Z Z Z ?_;refine G0 7 Z (Bd h λb a h=>?_);refine Ct b [] [] (λb=>[(2,.bool b)]) Ze Zf ?_ (λenv H k=>?_)
 .refine G0 3 Z (Cz [] a (k_c _ _) Z λu l a=>Go 1 Z (Is 6 a Z (λd a=>?_) (λd a=>?_)))
  .refine Go 2 Z (Cz [] a (k_dl _ _) Z λw m a=>Go 2 Z (Is 11 a Z (λe a=>?_) (λe a=>?_)))
   .refine Go 2 Z (Cz [] a (k_cs _ _) Z λx p a=>Go 2 Z (Is 16 a Z (λf a=>?_) (λf a=>?_)))
    .refine Go 2 Z (Cz [] a (k_bg _ _) Z λy q a=>Go 2 Z (Is 21 a Z (λg a=>?_) (λg a=>?_)))
     .refine Go 2 Z (Cz [] a (k_dm _ _) Z λz s a=>Go 2 Z (Is 26 a Z (λi a=>?_) (λi a=>?_)))
      .exact Go 2 Z (Cz [] a (k_cq _ _) Z λB t a=>Go 3 Z (Cl a []))
      .exact Go 6 Z (Cl a [])
     .exact Go 11 Z (Cl a [])
    .exact Go 16 Z (Cl a [])
   .exact Go 21 Z (Cl a [])
  .exact Go 26 Z (Cl a [])
 exact Gx 1 Z (Ef k (Gc 1 Z (Rt h 2 [])))
def F_ap(n:Nat)(a:Int)(b:Int)(c:Int):Option Bool:=
  ((bif decide (a<b)then some true else some (decide (c<a))):Option Bool).bind λb2=>some b2
theorem k_ap(n:Nat)(b:Int)(c:Int)(d:Int)(r:Bool)(h:F_ap n b c d=some r):
    Csm prog 190 [I b,.ptr 0 0,.ptr 1 0] [.cells 3 [I c],.cells 3 [I d]] (λr=>.bool r) r:=by
 refine Qb func190 Z Z Z ?_;refine G0 6 Z (Bd h λb2 a h=>?_);refine Ct b2 [0,1] [] (λb2=>[(4,.bool b2)]) Ze Zf ?_ (λenv H e=>?_)
 .refine G0 5 Z (Is 8 a Z (λf a=>?_) (λf a=>?_))
  .exact Go 6 Z (Cl a [0,1])
  .exact Go 6 Z (Cl a [0,1])
 exact Gx 1 Z (Ef e (Gc 1 Z (Rt h 4 [0,1])))
def F_iy(n:Nat)(b:List Int)(e:Int)(f:Int)(a:Int):Option (Ctl Int (Ctl Unit Int)):=
  (bif decide (a<(b.length:Int))then(idx b a).bind λc=>(F_ap n c e f).bind λd=>(bif d then some (.done (.done a))else some (.cont (IntKind.i64.wrap (a+1))))else some (.done (.cont ())))
def F_dn(n:Nat)(c:List Int)(d:Int)(e:Int):Option Int:=
  (iter (F_iy n c d e) n 0:Option (Ctl Unit Int)).bind λb=>match b with|.cont a=>(some (-1))|.done a=>some a
theorem k_dn(n:Nat)(c:List Int)(a:Int)(b:Int)(r:Int)(h:F_dn n c a b=some r):
    Csm prog 234 [.rsl 1 (List.map (Qf .i64) c),.fn (.func 190) [] [.ptr 0 0,.ptr 1 0]] [.cells 3 [I a],.cells 3 [I b]] (λr=>I r) r:=
 Yp (el:=λx=>I x) (g:=λx=>F_ap n x a b) func234 Z Z Z runUnderlying37 sizeOf3 (λ_ _ _ _ d e=>Ez d isAgg3 e Pts.rp) call190 (λ_ _ h=>k_ap _ _ _ _ _ h) h
def F_cc(n:Nat)(a:List Int)(b:Int)(c:Int):Option Bool:=
  (F_dn n a b c).bind λd=>some (decide (0<=d))
theorem k_cc(n:Nat)(a:List Int)(b:Int)(c:Int)(r:Bool)(h:F_cc n a b c=some r):
    Csm prog 189 [.rsl 1 (List.map (Qf .i64) a),.fn (.func 190) [] [.ptr 0 0,.ptr 1 0]] [.cells 3 [I b],.cells 3 [I c]] (λr=>.bool r) r:=by
 refine Qb func189 Z Z Z ?_;exact G0 9 Z (Cz [0,1] h (k_dn _ _ _ _) Z λe d h=>Go 5 Z (Rt h 4 [0,1]))
def F_a(n:Nat)(a:Int)(b:Int)(c:List Int):Option Bool:=
  (F_cc n c a b).bind λd=>some (!d)
theorem k_a(n:Nat)(a:Int)(b:Int)(c:List Int)(r:Bool)(h:F_a n a b c=some r):
    Csm prog 116 [I a,I b,.rsl 1 (List.map (Qf .i64) c)] [] (λr=>.bool r) r:=by
 refine Qb func116 Z Z Z ?_;exact G0 11 Z (Cz [0,1] h (k_cc _ _ _ _) Z λe d h=>Go 5 Z (Rt h 6 []))
def F_bi(n:Nat)(a:Mat):Option Bool:=
  (F_a n 1 3 [a.Kind]).bind λb=>some b
theorem k_bi(n:Nat)(a:Mat)(r:Bool)(h:F_bi n a=some r):
    Csm prog 125 [.agg (Mat.c a)] [] (λr=>.bool r) r:=by
 refine Qb func125 Z Z Z ?_;refine G0 10 Z ?_;refine vH (El (xs:=[.tmp 4]) (es:=List.map (Qf .i64) [a.Kind]) Q2 Z Z Z Z Z ⟨Z,trivial⟩ Z Z) ?_;exact FE Z (Cb h (k_a _ _ _ _) Z (ls (ls (lo ln))) λd b h=>Go 4 Z (Rt h 2 []))
def F_fl(n:Nat)(a:Mat):Option Bool:=
  (F_bi n a).bind λb=>some (!b)
theorem k_fl(n:Nat)(a:Mat)(r:Bool)(h:F_fl n a=some r):
    Csm prog 196 [.agg (Mat.c a),.ptr 0 0] [.cells 247 [.fn (.func 125) [] []]] (λr=>.bool r) r:=by
 refine Qb func196 Z Z Z ?_;exact G0 10 Z (Cz [] h (k_bi _ _) Z λd b h=>Go 5 Z (Rt h 3 [0]))
def F_jg(n:Nat)(b:List Mat)(a:Int):Option (Ctl Int (Ctl Unit Int)):=
  (bif decide (a<(b.length:Int))then(idx b a).bind λc=>(F_fl n c).bind λd=>(bif d then some (.done (.done a))else some (.cont (IntKind.i64.wrap (a+1))))else some (.done (.cont ())))
def F_go(n:Nat)(c:List Mat):Option Int:=
  (iter (F_jg n c) n 0:Option (Ctl Unit Int)).bind λb=>match b with|.cont a=>(some (-1))|.done a=>some a
theorem k_go(n:Nat)(a:List Mat)(r:Int)(h:F_go n a=some r):
    Csm prog 237 [.rsl 2 (List.map Mat.c a),.fn (.func 196) [] [.ptr 0 0]] [.cells 247 [.fn (.func 125) [] []]] (λr=>I r) r:=
 Yp (el:=λx=>.agg (Mat.c x)) (g:=λx=>F_fl n x) func237 Z Z Z runUnderlying22 sizeOf143 (λ_ _ _ _ b d=>Qk b isAgg143 sizeOf143 d Pts.rp Z Z) call196 (λ_ _ h=>k_fl _ _ _ h) h
def F_es(n:Nat)(a:List Mat):Option Bool:=
  (F_go n a).bind λb=>some (decide (0<=b))
theorem k_es(n:Nat)(a:List Mat)(r:Bool)(h:F_es n a=some r):
    Csm prog 195 [.rsl 2 (List.map Mat.c a),.fn (.func 196) [] [.ptr 0 0]] [.cells 247 [.fn (.func 125) [] []]] (λr=>.bool r) r:=by
 refine Qb func195 Z Z Z ?_;exact G0 9 Z (Cz [0] h (k_go _ _) Z λd b h=>Go 5 Z (Rt h 4 [0]))
def F_dj(n:Nat)(a:List Mat):Option Bool:=
  (F_es n a).bind λb=>some (!b)
theorem k_dj(n:Nat)(a:List Mat)(r:Bool)(h:F_dj n a=some r):
    Csm prog 124 [.rsl 2 (List.map Mat.c a),.fn (.func 125) [] []] [] (λr=>.bool r) r:=by
 refine Qb func124 Z Z Z ?_;exact G0 10 Z (Cz [0] h (k_es _ _) Z λd b h=>Go 5 Z (Rt h 4 []))
def F_bd(n:Nat)(a:Leg)(b:Int):Option Bool:=
  ((F_a n 0 b [a.From,a.To]).bind λc=>(bif c then(F_a n 0 68719476736 [a.Min,a.Max]).bind λd=>(bif d then some (decide (a.Min<=a.Max))else some false)else some false):Option Bool).bind λe=>some e
theorem k_bd(n:Nat)(b:Leg)(f:Int)(r:Bool)(h:F_bd n b f=some r):
    Csm prog 121 [.agg (Leg.c b),.ptr 0 0] [.cells 3 [I f]] (λr=>.bool r) r:=by
 refine Qb func121 Z Z Z ?_;refine G0 7 Z (Bd h λd a h=>?_);refine Ct d [0] [] (λd=>[(3,.bool d)]) Ze Zf ?_ (λenv H g=>?_)
 .refine G0 6 Z ?_;refine vH (El (xs:=[.tmp 6,.tmp 8]) (es:=List.map (Qf .i64) [b.From,b.To]) Q2 Z Z Z Z Z ⟨Z,Z,trivial⟩ Z Z) ?_;refine FE Z (Cb a (k_a _ _ _ _) Z (ls (ls (lo ln))) λl j a=>Go 1 Z (Is 11 a Z (λi a=>?_) (λi a=>?_)))
  .refine Go 4 Z ?_;refine vH (El (xs:=[.tmp 13,.tmp 15]) (es:=List.map (Qf .i64) [b.Min,b.Max]) Q2 Z Z Z Z Z ⟨Z,Z,trivial⟩ Z Z) ?_ (gT Z);refine FE Z (Cb a (k_a _ _ _ _) Z (ls (ls (lo ln))) λm k a=>Go 2 Z (Is 19 a Z (λe a=>?_) (λe a=>?_)))
   .exact Go 8 Z (Cl a [0])
   .exact Go 8 Z (Cl a [0])
  .exact Go 16 Z (Cl a [0])
 exact Gx 1 Z (Ef g (Gc 1 Z (Rt h 3 [0])))
def F_fp(n:Nat)(a:Leg)(b:Int):Option Bool:=
  (F_bd n a b).bind λc=>some (!c)
theorem k_fp(n:Nat)(a:Leg)(b:Int)(r:Bool)(h:F_fp n a b=some r):
    Csm prog 198 [.agg (Leg.c a),.ptr 0 0] [.cells 241 [.fn (.func 121) [] [.ptr 1 0]],.cells 3 [I b]] (λr=>.bool r) r:=by
 refine Qb func198 Z Z Z ?_;exact G0 10 Z (Cz [1] h (k_bd _ _ _) Z λe d h=>Go 5 Z (Rt h 3 [0,1]))
def F_ja(n:Nat)(b:List Leg)(e:Int)(a:Int):Option (Ctl Int (Ctl Unit Int)):=
  (bif decide (a<(b.length:Int))then(idx b a).bind λc=>(F_fp n c e).bind λd=>(bif d then some (.done (.done a))else some (.cont (IntKind.i64.wrap (a+1))))else some (.done (.cont ())))
def F_eb(n:Nat)(c:List Leg)(d:Int):Option Int:=
  (iter (F_ja n c d) n 0:Option (Ctl Unit Int)).bind λb=>match b with|.cont a=>(some (-1))|.done a=>some a
theorem k_eb(n:Nat)(b:List Leg)(a:Int)(r:Int)(h:F_eb n b a=some r):
    Csm prog 238 [.rsl 4 (List.map Leg.c b),.fn (.func 198) [] [.ptr 0 0]] [.cells 241 [.fn (.func 121) [] [.ptr 1 0]],.cells 3 [I a]] (λr=>I r) r:=
 Yp (el:=λx=>.agg (Leg.c x)) (g:=λx=>F_fp n x a) func238 Z Z Z runUnderlying23 sizeOf145 (λ_ _ _ _ d e=>Qk d isAgg145 sizeOf145 e Pts.rp Z Z) call198 (λ_ _ h=>k_fp _ _ _ _ h) h
def F_fe(n:Nat)(a:List Leg)(b:Int):Option Bool:=
  (F_eb n a b).bind λc=>some (decide (0<=c))
theorem k_fe(n:Nat)(a:List Leg)(b:Int)(r:Bool)(h:F_fe n a b=some r):
    Csm prog 197 [.rsl 4 (List.map Leg.c a),.fn (.func 198) [] [.ptr 0 0]] [.cells 241 [.fn (.func 121) [] [.ptr 1 0]],.cells 3 [I b]] (λr=>.bool r) r:=by
 refine Qb func197 Z Z Z ?_;exact G0 9 Z (Cz [0,1] h (k_eb _ _ _) Z λe d h=>Go 5 Z (Rt h 4 [0,1]))
def F_bl(n:Nat)(a:List Leg)(b:Int):Option Bool:=
  (F_fe n a b).bind λc=>some (!c)
theorem k_bl(n:Nat)(a:List Leg)(b:Int)(r:Bool)(h:F_bl n a b=some r):
    Csm prog 126 [.rsl 4 (List.map Leg.c a),.fn (.func 121) [] [.ptr 0 0]] [.cells 3 [I b]] (λr=>.bool r) r:=by
 refine Qb func126 Z Z Z ?_;exact G0 10 Z (Cz [1,0] h (k_fe _ _ _) Z λe d h=>Go 5 Z (Rt h 4 [0]))
def F_fh(n:Nat)(a:Leg):Option Unit:=
  some ()
theorem k_fh(n:Nat)(a:Leg)(r:Unit)(h:F_fh n a=some r):
    C prog 128 [.agg (Leg.c a)] [] (RQ (λ_=>.agg [I a.From,I a.To]) (λ_=>[.cells 154 [I a.From,I a.To]]) r):=by
 refine Qb func128 Z Z Z ?_;refine G0 17 Z ?_;obtain rfl:=Oi h;exact Rx [1] [2] Z (YJ Z (Qm isAgg154 sizeOf154 Z Z Z)) ⟨Z,Z⟩
def F_id(n:Nat)(c:List Leg)(a:(List (Uh×Bool))×Int):Option (Ctl ((List (Uh×Bool))×Int) (List (Uh×Bool))):=
  (bif decide (a.2<(c.length:Int))then(idx c a.2).bind λb=>(F_fh n b).bind λe=>(some (QE a.1 ({from_:=b.From,to_:=b.To:Uh}) true)).bind λd=>some (.cont (d,IntKind.i64.wrap (a.2+1)))else some (.done a.1))
def F_be(n:Nat)(a:List Leg):Option Bool:=
  (iter (F_id n a) n ([],0):Option (List (Uh×Bool))).bind λb=>some ((b.length:Int)==(a.length:Int))
theorem k_be(n:Nat)(m:List Leg)(r:Bool)(h:F_be n m=some r):
    Csm prog 127 [.rsl 4 (List.map Leg.c m),.fn (.func 128) [] []] [] (λr=>.bool r) r:=by
 refine Qb func127 Z Z Z ?_;refine G0 7 Z ?_;refine vH Ye ?_;refine FE Z (Go 7 Z (Lm Z (Go 3 Z (Bd h λb p h=>?_))));refine Ct b [0] [0,5] Ze (λb=>[(0,.map (Qi (λx=>A.agg (Uh.c x)) A.bool b))]) Zf ?_ (λenv H q=>?_)
 .refine G0 1 Z ?_;refine Lp [0] [0,1,5,9,10] (λd=>[(11,I d.2)]) (λd=>[(0,.map (Qi (λx=>A.agg (Uh.c x)) A.bool d.1))]) p Zf (Lr [0]) λd t a f=>?_;refine G0 6 Z (Jb Z a (λg a=>?_) (λg a=>?_))
  .refine Gc 2 Z (Qy a ?_);obtain rfl:=Oj f a;exact Gx 1 Z (QH (Lr [0]))
  refine Gc 6 Z (Bd a λe i a=>Iz i Z (Go 9 Z (Cd [] a (k_fh _ _) Z λu s a=>FE Z (Bd a λw j a=>?_))));refine vU (Yc (ev:=A.bool) (k:=({from_:=e.From,to_:=e.To:Uh})) (v:=true) (l:=d.1) QeA j Z underlying152) ?_;exact FE Z (Go 7 Z (Qv a (Lr [0])))
 refine Gx 1 Z (Ef q (Gc 3 Z ?_));refine vX (I (b.length:Int)) (QcQ (l:=b) underlying152 Z) ?_;exact Go 1 Z (Lm Z (Go 5 Z (Rt h 4 [])))
def F_ar(rec45:(List Part)->Int->Option Bool)(n:Nat)(a:Part)(b:Int):Option Bool:=
  (bif (a.Laps==0)then((F_a n 0 b [a.Mat]).bind λf=>(bif f then some ((a.Parts.length:Int)==0)else some false):Option Bool).bind λg=>some g else((F_a n 1 64 [a.Laps]).bind λc=>(bif c then(bif (a.Mat==0)then(bif decide (0<(a.Parts.length:Int))then(rec45 a.Parts b).bind λd=>some d else some false)else some false)else some false):Option Bool).bind λe=>some e)
theorem k_ar(rec45:(List Part)->Int->Option Bool)(e:∀(b:List Part) (f:Int) (r:Bool),rec45 b f=some r->Csm prog 117 [.rsl 3 (List.map Part.enc b),.fn (.func 115) [] [.ptr 0 0,.ptr 1 0]] [.cells 3 [I f],.cells 234 [.fn (.func 115) [] [.ptr 0 0,.ptr 1 0]]] (λr=>.bool r) r)(n:Nat)(b:Part)(f:Int)(r:Bool)(h:F_ar rec45 n b f=some r):
    Csm prog 115 [.agg (Part.c b),.ptr 0 0,.ptr 1 0] [.cells 3 [I f],.cells 234 [.fn (.func 115) [] [.ptr 0 0,.ptr 1 0]]] (λr=>.bool r) r:=by
 refine Qb func115 Z Z Z ?_;refine G0 14 Z (Cn Z h (λp h=>?_) (λp h=>?_))
 .refine Gc 1 Z (Bd h λj d h=>?_);refine Ct j [0,1] [] (λj=>[(4,.bool j)]) Ze Zf ?_ (λenv H g=>?_)
  .refine G0 4 Z ?_;refine vH (El (xs:=[.tmp 10]) (es:=List.map (Qf .i64) [b.Mat]) Q2 Z Z Z Z Z ⟨Z,trivial⟩ Z Z) ?_;refine FE Z (Cb d (k_a _ _ _ _) Z (ls (ls (lo ln))) λy u d=>Go 1 Z (Is 13 d Z (λq d=>?_) (λq d=>?_)))
   .exact Go 2 Z (Lm Z (Go 4 Z (Cl d [0,1])))
   .exact Go 7 Z (Cl d [0,1])
  exact Gx 1 Z (Ef g (Gc 2 Z (Rt h 4 [0,1])))
 refine Gc 3 Z (Bd h λi a h=>?_);refine Ct i [0,1] [] (λi=>[(4,.bool i)]) Ze Zf ?_ (λenv H g=>?_)
 .refine G0 3 Z ?_;refine vH (El (xs:=[.tmp 20]) (es:=List.map (Qf .i64) [b.Laps]) Q2 Z Z Z Z Z ⟨Z,trivial⟩ Z Z) ?_;refine FE Z (Cb a (k_a _ _ _ _) Z (ls (ls (lo ln))) λw s a=>Go 1 Z (Is 23 a Z (λk a=>?_) (λk a=>?_)))
  .refine Go 5 Z (Is 28 a Z (λl a=>?_) (λl a=>?_))
   .refine Go 2 Z (Lm Z (Go 3 Z (Is 34 a Z (λm a=>?_) (λm a=>?_))))
    .exact Go 3 Z (Cz [0,1] a (e _ _) Z λx t a=>Go 3 Z (Cl a [0,1]))
    .exact Go 7 Z (Cl a [0,1])
   .exact Go 13 Z (Cl a [0,1])
  .exact Go 18 Z (Cl a [0,1])
 exact Gx 1 Z (Ef g (Gc 1 Z (Rt h 4 [0,1])))
def F_gy(rec45:(List Part)->Int->Option Bool)(n:Nat)(a:Part)(b:Int):Option Bool:=
  (F_ar rec45 n a b).bind λc=>some (!c)
theorem k_gy(rec45:(List Part)->Int->Option Bool)(a:∀(b:List Part) (d:Int) (r:Bool),rec45 b d=some r->Csm prog 117 [.rsl 3 (List.map Part.enc b),.fn (.func 115) [] [.ptr 0 0,.ptr 1 0]] [.cells 3 [I d],.cells 234 [.fn (.func 115) [] [.ptr 0 0,.ptr 1 0]]] (λr=>.bool r) r)(n:Nat)(b:Part)(d:Int)(r:Bool)(h:F_gy rec45 n b d=some r):
    Csm prog 192 [.agg (Part.c b),.ptr 0 0] [.cells 234 [.fn (.func 115) [] [.ptr 1 0,.ptr 2 0]],.cells 3 [I d],.cells 234 [.fn (.func 115) [] [.ptr 1 0,.ptr 2 0]]] (λr=>.bool r) r:=by
 refine Qb func192 Z Z Z ?_;exact G0 10 Z (Cz [1,2] h (k_ar rec45 a _ _ _) Z λf e h=>Go 5 Z (Rt h 3 [0,1,2]))
def F_is(n:Nat)(b:List Part)(e:Int)(rec45:(List Part)->Int->Option Bool)(a:Int):Option (Ctl Int (Ctl Unit Int)):=
  (bif decide (a<(b.length:Int))then(idx b a).bind λc=>(F_gy rec45 n c e).bind λd=>(bif d then some (.done (.done a))else some (.cont (IntKind.i64.wrap (a+1))))else some (.done (.cont ())))
def F_ay(rec45:(List Part)->Int->Option Bool)(n:Nat)(c:List Part)(d:Int):Option Int:=
  (iter (F_is n c d rec45) n 0:Option (Ctl Unit Int)).bind λb=>match b with|.cont a=>(some (-1))|.done a=>some a
theorem k_ay(rec45:(List Part)->Int->Option Bool)(c:∀(d:List Part) (e:Int) (r:Bool),rec45 d e=some r->Csm prog 117 [.rsl 3 (List.map Part.enc d),.fn (.func 115) [] [.ptr 0 0,.ptr 1 0]] [.cells 3 [I e],.cells 234 [.fn (.func 115) [] [.ptr 0 0,.ptr 1 0]]] (λr=>.bool r) r)(n:Nat)(d:List Part)(e:Int)(r:Int)(h:F_ay rec45 n d e=some r):
    Csm prog 235 [.rsl 3 (List.map Part.enc d),.fn (.func 192) [] [.ptr 0 0]] [.cells 234 [.fn (.func 115) [] [.ptr 1 0,.ptr 2 0]],.cells 3 [I e],.cells 234 [.fn (.func 115) [] [.ptr 1 0,.ptr 2 0]]] (λr=>I r) r:=by
 refine Qb func235 Z Z Z ?_;refine G0 9 Z (Lm Z (Go 3 Z (Bd h λl m h=>?_)));refine CtE (b:=l) [0,1,2] [] Ze Ze Zf ?_ (λt env H p q=>?_)
 .refine G0 1 Z ?_;refine Lp [0,1,2] [0,1,7] (λg=>[(8,I g)]) Ze m Zf (Lr [0,1,2]) λg w a f=>?_;refine G0 6 Z (Jb Z a (λi a=>?_) (λi a=>?_))
  .refine Gc 2 Z (Qy a ?_);obtain rfl:=Oj f a;exact Gx 1 Z (QL Z (Lr [0,1,2]))
  refine Gc 15 Z (Bd a λs j a=>IzE j (YK s) Z (Go 1 Z (Cz [0,1,2] a (k_gy rec45 c _ _ _) Z λx u a=>Go 2 Z (Cn Z a (λk a=>?_) (λk a=>?_)))))
  .refine Gc 9 Z (Yx a ?_);obtain rfl:=Oj f a;exact Gx 1 Z (Q9 (Gx 1 Z (Rt h 4 [0,1,2])))
  exact Gc 7 Z (Qv a (Lr [0,1,2]))
 subst p;exact Gx 1 Z (Ef q (Gc 6 Z (Rt h 4 [0,1,2])))
def F_cm(rec45:(List Part)->Int->Option Bool)(n:Nat)(a:List Part)(b:Int):Option Bool:=
  (F_ay rec45 n a b).bind λc=>some (decide (0<=c))
theorem k_cm(rec45:(List Part)->Int->Option Bool)(a:∀(b:List Part) (c:Int) (r:Bool),rec45 b c=some r->Csm prog 117 [.rsl 3 (List.map Part.enc b),.fn (.func 115) [] [.ptr 0 0,.ptr 1 0]] [.cells 3 [I c],.cells 234 [.fn (.func 115) [] [.ptr 0 0,.ptr 1 0]]] (λr=>.bool r) r)(n:Nat)(b:List Part)(c:Int)(r:Bool)(h:F_cm rec45 n b c=some r):
    Csm prog 191 [.rsl 3 (List.map Part.enc b),.fn (.func 192) [] [.ptr 0 0]] [.cells 234 [.fn (.func 115) [] [.ptr 1 0,.ptr 2 0]],.cells 3 [I c],.cells 234 [.fn (.func 115) [] [.ptr 1 0,.ptr 2 0]]] (λr=>.bool r) r:=by
 refine Qb func191 Z Z Z ?_;exact G0 9 Z (Cz [0,1,2] h (k_ay rec45 a _ _ _) Z λe d h=>Go 5 Z (Rt h 4 [0,1,2]))
def B_f(rec45:(List Part)->Int->Option Bool)(n:Nat)(a:List Part)(b:Int):Option Bool:=
  (F_cm rec45 n a b).bind λc=>some (!c)
theorem QcF(rec45:(List Part)->Int->Option Bool)(a:∀(b:List Part) (c:Int) (r:Bool),rec45 b c=some r->Csm prog 117 [.rsl 3 (List.map Part.enc b),.fn (.func 115) [] [.ptr 0 0,.ptr 1 0]] [.cells 3 [I c],.cells 234 [.fn (.func 115) [] [.ptr 0 0,.ptr 1 0]]] (λr=>.bool r) r)(n:Nat)(b:List Part)(c:Int)(r:Bool)(h:B_f rec45 n b c=some r):
    Csm prog 117 [.rsl 3 (List.map Part.enc b),.fn (.func 115) [] [.ptr 0 0,.ptr 1 0]] [.cells 3 [I c],.cells 234 [.fn (.func 115) [] [.ptr 0 0,.ptr 1 0]]] (λr=>.bool r) r:=by
 refine Qb func117 Z Z Z ?_;exact G0 10 Z (Cz [2,0,1] h (k_cm rec45 a _ _ _) Z λe d h=>Go 5 Z (Rt h 4 [0,1]))
def F_f:Nat->(List Part)->Int->Option Bool
  |0=>λ_ _=>none
  |n+1=>B_f (F_f n) n
theorem k_f(n:Nat):∀(a:List Part) (b:Int) (r:Bool),F_f n a b=some r->Csm prog 117 [.rsl 3 (List.map Part.enc a),.fn (.func 115) [] [.ptr 0 0,.ptr 1 0]] [.cells 3 [I b],.cells 234 [.fn (.func 115) [] [.ptr 0 0,.ptr 1 0]]] (λr=>.bool r) r:=by
  induction n with
  |zero=>intro a b r h;cases h
  |succ n ih=>intro a b r h;exact QcF _ ih n a b r h
def F_bj(n:Nat)(a:Cutoff)(c:Int):Option Bool:=
  ((F_a n 0 c [a.Mat]).bind λd=>(bif d then(bif decide (1<=a.Lap)then(F_a n 0 1099511627776 [a.Limit]).bind λb=>some b else some false)else some false):Option Bool).bind λe=>some e
theorem k_bj(n:Nat)(b:Cutoff)(e:Int)(r:Bool)(h:F_bj n b e=some r):
    Csm prog 118 [.agg (Cutoff.c b),.ptr 0 0] [.cells 3 [I e]] (λr=>.bool r) r:=by
 refine Qb func118 Z Z Z ?_;refine G0 7 Z (Bd h λd a h=>?_);refine Ct d [0] [] (λd=>[(3,.bool d)]) Ze Zf ?_ (λenv H f=>?_)
 .refine G0 4 Z ?_;refine vH (El (xs:=[.tmp 6]) (es:=List.map (Qf .i64) [b.Mat]) Q2 Z Z Z Z Z ⟨Z,trivial⟩ Z Z) ?_;refine FE Z (Cb a (k_a _ _ _ _) Z (ls (ls (lo ln))) λm k a=>Go 1 Z (Is 9 a Z (λg a=>?_) (λg a=>?_)))
  .refine Go 5 Z (Is 14 a Z (λi a=>?_) (λi a=>?_))
   .refine Go 2 Z ?_;refine vH (El (xs:=[.tmp 16]) (es:=List.map (Qf .i64) [b.Limit]) Q2 Z Z Z Z Z ⟨Z,trivial⟩ Z Z) ?_ (gT Z);exact FE Z (Cb a (k_a _ _ _ _) Z (ls (ls (lo ln))) λl j a=>Go 3 Z (Cl a [0]))
   .exact Go 7 Z (Cl a [0])
  .exact Go 12 Z (Cl a [0])
 exact Gx 1 Z (Ef f (Gc 1 Z (Rt h 3 [0])))
def F_dq(n:Nat)(a:Cutoff)(b:Int):Option Bool:=
  (F_bj n a b).bind λc=>some (!c)
theorem k_dq(n:Nat)(a:Cutoff)(b:Int)(r:Bool)(h:F_dq n a b=some r):
    Csm prog 194 [.agg (Cutoff.c a),.ptr 0 0] [.cells 239 [.fn (.func 118) [] [.ptr 1 0]],.cells 3 [I b]] (λr=>.bool r) r:=by
 refine Qb func194 Z Z Z ?_;exact G0 10 Z (Cz [1] h (k_bj _ _ _) Z λe d h=>Go 5 Z (Rt h 3 [0,1]))
def F_ir(n:Nat)(b:List Cutoff)(e:Int)(a:Int):Option (Ctl Int (Ctl Unit Int)):=
  (bif decide (a<(b.length:Int))then(idx b a).bind λc=>(F_dq n c e).bind λd=>(bif d then some (.done (.done a))else some (.cont (IntKind.i64.wrap (a+1))))else some (.done (.cont ())))
def F_et(n:Nat)(c:List Cutoff)(d:Int):Option Int:=
  (iter (F_ir n c d) n 0:Option (Ctl Unit Int)).bind λb=>match b with|.cont a=>(some (-1))|.done a=>some a
theorem k_et(n:Nat)(b:List Cutoff)(a:Int)(r:Int)(h:F_et n b a=some r):
    Csm prog 236 [.rsl 3 (List.map Cutoff.c b),.fn (.func 194) [] [.ptr 0 0]] [.cells 239 [.fn (.func 118) [] [.ptr 1 0]],.cells 3 [I a]] (λr=>I r) r:=
 Yp (el:=λx=>.agg (Cutoff.c x)) (g:=λx=>F_dq n x a) func236 Z Z Z runUnderlying110 sizeOf238 (λ_ _ _ _ d e=>Qk d isAgg238 sizeOf238 e Pts.rp Z Z) call194 (λ_ _ h=>k_dq _ _ _ _ h) h
def F_ef(n:Nat)(a:List Cutoff)(b:Int):Option Bool:=
  (F_et n a b).bind λc=>some (decide (0<=c))
theorem k_ef(n:Nat)(a:List Cutoff)(b:Int)(r:Bool)(h:F_ef n a b=some r):
    Csm prog 193 [.rsl 3 (List.map Cutoff.c a),.fn (.func 194) [] [.ptr 0 0]] [.cells 239 [.fn (.func 118) [] [.ptr 1 0]],.cells 3 [I b]] (λr=>.bool r) r:=by
 refine Qb func193 Z Z Z ?_;exact G0 9 Z (Cz [0,1] h (k_et _ _ _) Z λe d h=>Go 5 Z (Rt h 4 [0,1]))
def F_bv(n:Nat)(a:List Cutoff)(b:Int):Option Bool:=
  (F_ef n a b).bind λc=>some (!c)
theorem k_bv(n:Nat)(a:List Cutoff)(b:Int)(r:Bool)(h:F_bv n a b=some r):
    Csm prog 120 [.rsl 3 (List.map Cutoff.c a),.fn (.func 118) [] [.ptr 0 0]] [.cells 3 [I b]] (λr=>.bool r) r:=by
 refine Qb func120 Z Z Z ?_;exact G0 10 Z (Cz [1,0] h (k_ef _ _ _) Z λe d h=>Go 5 Z (Rt h 4 [0]))
def F_da(n:Nat)(a:Distance)(b:Int):Option Bool:=
  ((F_a n 1 3 [a.Timing]).bind λc=>(bif c then(F_a n (-1) b [a.Extra]).bind λd=>(bif d then(F_f n a.Route b).bind λe=>(bif e then(F_bv n a.Cutoffs b).bind λf=>some f else some false)else some false)else some false):Option Bool).bind λg=>some g
theorem k_da(n:Nat)(b:Distance)(i:Int)(r:Bool)(h:F_da n b i=some r):
    Csm prog 119 [.agg (Distance.c b),.ptr 0 0,.ptr 1 0,.ptr 2 0] [.cells 3 [I i],.cells 234 [.fn (.func 115) [] [.ptr 0 0,.ptr 1 0]],.cells 239 [.fn (.func 118) [] [.ptr 0 0]]] (λr=>.bool r) r:=by
 refine Qb func119 Z Z Z ?_;refine G0 7 Z (Bd h λd a h=>?_);refine Ct d [0,1,2] [] (λd=>[(5,.bool d)]) Ze Zf ?_ (λenv H j=>?_)
 .refine G0 3 Z ?_;refine vH (El (xs:=[.tmp 7]) (es:=List.map (Qf .i64) [b.Timing]) Q2 Z Z Z Z Z ⟨Z,trivial⟩ Z Z) ?_;refine FE Z (Cb a (k_a _ _ _ _) Z (ls (ls (lo ln))) λq k a=>Go 1 Z (Is 10 a Z (λe a=>?_) (λe a=>?_)))
  .refine Go 3 Z ?_;refine vH (El (xs:=[.tmp 13]) (es:=List.map (Qf .i64) [b.Extra]) Q2 Z Z Z Z Z ⟨Z,trivial⟩ Z Z) ?_ (gT Z);refine FE Z (Cb a (k_a _ _ _ _) Z (ls (ls (lo ln))) λs l a=>Go 2 Z (Is 17 a Z (λf a=>?_) (λf a=>?_)))
   .refine Go 3 Z (Cz [0,1] a (k_f _ _ _) Z λt m a=>Go 2 Z (Is 23 a Z (λg a=>?_) (λg a=>?_)))
    .exact Go 3 Z (Cz [0] a (k_bv _ _ _) Z λu p a=>Go 3 Z (Cl a [0,1,2]))
    .exact Go 7 Z (Cl a [0,1,2])
   .exact Go 13 Z (Cl a [0,1,2])
  .exact Go 20 Z (Cl a [0,1,2])
 exact Gx 1 Z (Ef j (Gc 1 Z (Rt h 5 [0,1,2])))
def F_fi(n:Nat)(a:Distance)(b:Int):Option Bool:=
  (F_da n a b).bind λc=>some (!c)
theorem k_fi(n:Nat)(a:Distance)(b:Int)(r:Bool)(h:F_fi n a b=some r):
    Csm prog 140 [.agg (Distance.c a),.ptr 0 0] [.cells 157 [.fn (.func 119) [] [.ptr 1 0,.ptr 2 0,.ptr 3 0]],.cells 3 [I b],.cells 234 [.fn (.func 115) [] [.ptr 1 0,.ptr 2 0]],.cells 239 [.fn (.func 118) [] [.ptr 1 0]]] (λr=>.bool r) r:=by
 refine Qb func140 Z Z Z ?_;exact G0 10 Z (Cz [1,2,3] h (k_da _ _ _) Z λe d h=>Go 5 Z (Rt h 3 [0,1,2,3]))
def F_jj(n:Nat)(b:List Distance)(e:Int)(a:Int):Option (Ctl Int (Ctl Unit Int)):=
  (bif decide (a<(b.length:Int))then(idx b a).bind λc=>(F_fi n c e).bind λd=>(bif d then some (.done (.done a))else some (.cont (IntKind.i64.wrap (a+1))))else some (.done (.cont ())))
def F_du(n:Nat)(c:List Distance)(d:Int):Option Int:=
  (iter (F_jj n c d) n 0:Option (Ctl Unit Int)).bind λb=>match b with|.cont a=>(some (-1))|.done a=>some a
theorem k_du(n:Nat)(b:List Distance)(a:Int)(r:Int)(h:F_du n b a=some r):
    Csm prog 210 [.rsl 5 (List.map Distance.c b),.fn (.func 140) [] [.ptr 0 0]] [.cells 157 [.fn (.func 119) [] [.ptr 1 0,.ptr 2 0,.ptr 3 0]],.cells 3 [I a],.cells 234 [.fn (.func 115) [] [.ptr 1 0,.ptr 2 0]],.cells 239 [.fn (.func 118) [] [.ptr 1 0]]] (λr=>I r) r:=
 Yp (el:=λx=>.agg (Distance.c x)) (g:=λx=>F_fi n x a) func210 Z Z Z runUnderlying24 sizeOf112 (λ_ _ _ _ d e=>Qk d isAgg112 sizeOf112 e Pts.rp Z Z) call140 (λ_ _ h=>k_fi _ _ _ _ h) h
def F_gk(n:Nat)(a:List Distance)(b:Int):Option Bool:=
  (F_du n a b).bind λc=>some (decide (0<=c))
theorem k_gk(n:Nat)(a:List Distance)(b:Int)(r:Bool)(h:F_gk n a b=some r):
    Csm prog 139 [.rsl 5 (List.map Distance.c a),.fn (.func 140) [] [.ptr 0 0]] [.cells 157 [.fn (.func 119) [] [.ptr 1 0,.ptr 2 0,.ptr 3 0]],.cells 3 [I b],.cells 234 [.fn (.func 115) [] [.ptr 1 0,.ptr 2 0]],.cells 239 [.fn (.func 118) [] [.ptr 1 0]]] (λr=>.bool r) r:=by
 refine Qb func139 Z Z Z ?_;exact G0 9 Z (Cz [0,1,2,3] h (k_du _ _ _) Z λe d h=>Go 5 Z (Rt h 4 [0,1,2,3]))
def F_bh(n:Nat)(a:List Distance)(b:Int):Option Bool:=
  (F_gk n a b).bind λc=>some (!c)
theorem k_bh(n:Nat)(a:List Distance)(b:Int)(r:Bool)(h:F_bh n a b=some r):
    Csm prog 58 [.rsl 5 (List.map Distance.c a),.fn (.func 119) [] [.ptr 0 0,.ptr 1 0,.ptr 2 0]] [.cells 3 [I b],.cells 234 [.fn (.func 115) [] [.ptr 0 0,.ptr 1 0]],.cells 239 [.fn (.func 118) [] [.ptr 0 0]]] (λr=>.bool r) r:=by
 refine Qb func58 Z Z Z ?_;exact G0 10 Z (Cz [3,0,1,2] h (k_gk _ _ _) Z λe d h=>Go 5 Z (Rt h 4 [0,1,2]))
def F_bm(n:Nat)(a:Wave):Option Bool:=
  (F_a n 0 1099511627776 [a.Gun]).bind λb=>some b
theorem k_bm(n:Nat)(a:Wave)(r:Bool)(h:F_bm n a=some r):
    Csm prog 130 [.agg (Wave.c a)] [] (λr=>.bool r) r:=by
 refine Qb func130 Z Z Z ?_;refine G0 10 Z ?_;refine vH (El (xs:=[.tmp 4]) (es:=List.map (Qf .i64) [a.Gun]) Q2 Z Z Z Z Z ⟨Z,trivial⟩ Z Z) ?_;exact FE Z (Cb h (k_a _ _ _ _) Z (ls (ls (lo ln))) λd b h=>Go 4 Z (Rt h 2 []))
def F_gq(n:Nat)(a:Wave):Option Bool:=
  (F_bm n a).bind λb=>some (!b)
theorem k_gq(n:Nat)(a:Wave)(r:Bool)(h:F_gq n a=some r):
    Csm prog 200 [.agg (Wave.c a),.ptr 0 0] [.cells 252 [.fn (.func 130) [] []]] (λr=>.bool r) r:=by
 refine Qb func200 Z Z Z ?_;exact G0 10 Z (Cz [] h (k_bm _ _) Z λd b h=>Go 5 Z (Rt h 3 [0]))
def F_il(n:Nat)(b:List Wave)(a:Int):Option (Ctl Int (Ctl Unit Int)):=
  (bif decide (a<(b.length:Int))then(idx b a).bind λc=>(F_gq n c).bind λd=>(bif d then some (.done (.done a))else some (.cont (IntKind.i64.wrap (a+1))))else some (.done (.cont ())))
def F_gl(n:Nat)(c:List Wave):Option Int:=
  (iter (F_il n c) n 0:Option (Ctl Unit Int)).bind λb=>match b with|.cont a=>(some (-1))|.done a=>some a
theorem k_gl(n:Nat)(a:List Wave)(r:Int)(h:F_gl n a=some r):
    Csm prog 239 [.rsl 2 (List.map Wave.c a),.fn (.func 200) [] [.ptr 0 0]] [.cells 252 [.fn (.func 130) [] []]] (λr=>I r) r:=
 Yp (el:=λx=>.agg (Wave.c x)) (g:=λx=>F_gq n x) func239 Z Z Z runUnderlying25 sizeOf141 (λ_ _ _ _ b d=>Qk b isAgg141 sizeOf141 d Pts.rp Z Z) call200 (λ_ _ h=>k_gq _ _ _ h) h
def F_fa(n:Nat)(a:List Wave):Option Bool:=
  (F_gl n a).bind λb=>some (decide (0<=b))
theorem k_fa(n:Nat)(a:List Wave)(r:Bool)(h:F_fa n a=some r):
    Csm prog 199 [.rsl 2 (List.map Wave.c a),.fn (.func 200) [] [.ptr 0 0]] [.cells 252 [.fn (.func 130) [] []]] (λr=>.bool r) r:=by
 refine Qb func199 Z Z Z ?_;exact G0 9 Z (Cz [0] h (k_gl _ _) Z λd b h=>Go 5 Z (Rt h 4 [0]))
def F_cj(n:Nat)(a:List Wave):Option Bool:=
  (F_fa n a).bind λb=>some (!b)
theorem k_cj(n:Nat)(a:List Wave)(r:Bool)(h:F_cj n a=some r):
    Csm prog 129 [.rsl 2 (List.map Wave.c a),.fn (.func 130) [] []] [] (λr=>.bool r) r:=by
 refine Qb func129 Z Z Z ?_;exact G0 10 Z (Cz [0] h (k_fa _ _) Z λd b h=>Go 5 Z (Rt h 4 []))
def F_bt(n:Nat)(a:Offence):Option Bool:=
  (bif a.Out then((bif (a.Time==0)then some (a.Laps==0)else some false):Option Bool).bind λd=>some d else(bif (a.Laps != 0)then((bif (a.Time==0)then(F_a n 1 64 [a.Laps]).bind λb=>some b else some false):Option Bool).bind λe=>some e else(F_a n 0 68719476736 [a.Time]).bind λc=>some c))
theorem k_bt(n:Nat)(e:Offence)(r:Bool)(h:F_bt n e=some r):
    Csm prog 122 [.agg (Offence.c e)] [] (λr=>.bool r) r:=by
 refine Qb func122 Z Z Z ?_;refine G0 15 Z (Cn Z h (λj h=>?_) (λj h=>?_))
 .refine Gc 1 Z (Bd h λf b h=>?_);refine Ct f [] [] (λf=>[(2,.bool f)]) Ze Zf ?_ (λenv H d=>?_)
  .refine G0 5 Z (Is 9 b Z (λk b=>?_) (λk b=>?_))
   .exact Go 6 Z (Cl b [])
   .exact Go 6 Z (Cl b [])
  exact Gx 1 Z (Ef d (Gc 3 Z (Rt h 2 [])))
 refine Gc 8 Z (Cn Z h (λl h=>?_) (λl h=>?_))
 .refine Gc 1 Z (Bd h λg a h=>?_);refine Ct g [] [] (λg=>[(2,.bool g)]) Ze Zf ?_ (λenv H d=>?_)
  .refine G0 5 Z (Is 21 a Z (λi a=>?_) (λi a=>?_))
   .refine Go 2 Z ?_;refine vH (El (xs:=[.tmp 23]) (es:=List.map (Qf .i64) [e.Laps]) Q2 Z Z Z Z Z ⟨Z,trivial⟩ Z Z) ?_ (gT Z);exact FE Z (Cb a (k_a _ _ _ _) Z (ls (ls (lo ln))) λq m a=>Go 3 Z (Cl a []))
   .exact Go 7 Z (Cl a [])
  exact Gx 1 Z (Ef d (Gc 3 Z (Rt h 2 [])))
 refine Gc 7 Z ?_;refine vH (El (xs:=[.tmp 28]) (es:=List.map (Qf .i64) [e.Time]) Q2 Z Z Z Z Z ⟨Z,trivial⟩ Z Z) ?_;exact FE Z (Cb h (k_a _ _ _ _) Z (ls (ls (lo ln))) λs p h=>Go 4 Z (Rt h 2 []))
def F_fo(n:Nat)(a:Offence):Option Bool:=
  (F_bt n a).bind λb=>some (!b)
theorem k_fo(n:Nat)(a:Offence)(r:Bool)(h:F_fo n a=some r):
    Csm prog 202 [.agg (Offence.c a),.ptr 0 0] [.cells 242 [.fn (.func 122) [] []]] (λr=>.bool r) r:=by
 refine Qb func202 Z Z Z ?_;exact G0 10 Z (Cz [] h (k_bt _ _) Z λd b h=>Go 5 Z (Rt h 3 [0]))
def F_jd(n:Nat)(b:List Offence)(a:Int):Option (Ctl Int (Ctl Unit Int)):=
  (bif decide (a<(b.length:Int))then(idx b a).bind λc=>(F_fo n c).bind λd=>(bif d then some (.done (.done a))else some (.cont (IntKind.i64.wrap (a+1))))else some (.done (.cont ())))
def F_em(n:Nat)(c:List Offence):Option Int:=
  (iter (F_jd n c) n 0:Option (Ctl Unit Int)).bind λb=>match b with|.cont a=>(some (-1))|.done a=>some a
theorem k_em(n:Nat)(a:List Offence)(r:Int)(h:F_em n a=some r):
    Csm prog 240 [.rsl 4 (List.map Offence.c a),.fn (.func 202) [] [.ptr 0 0]] [.cells 242 [.fn (.func 122) [] []]] (λr=>I r) r:=
 Yp (el:=λx=>.agg (Offence.c x)) (g:=λx=>F_fo n x) func240 Z Z Z runUnderlying26 sizeOf92 (λ_ _ _ _ b d=>Qk b isAgg92 sizeOf92 d Pts.rp Z Z) call202 (λ_ _ h=>k_fo _ _ _ h) h
def F_ft(n:Nat)(a:List Offence):Option Bool:=
  (F_em n a).bind λb=>some (decide (0<=b))
theorem k_ft(n:Nat)(a:List Offence)(r:Bool)(h:F_ft n a=some r):
    Csm prog 201 [.rsl 4 (List.map Offence.c a),.fn (.func 202) [] [.ptr 0 0]] [.cells 242 [.fn (.func 122) [] []]] (λr=>.bool r) r:=by
 refine Qb func201 Z Z Z ?_;exact G0 9 Z (Cz [0] h (k_em _ _) Z λd b h=>Go 5 Z (Rt h 4 [0]))
def F_ca(n:Nat)(a:List Offence):Option Bool:=
  (F_ft n a).bind λb=>some (!b)
theorem k_ca(n:Nat)(a:List Offence)(r:Bool)(h:F_ca n a=some r):
    Csm prog 131 [.rsl 4 (List.map Offence.c a),.fn (.func 122) [] []] [] (λr=>.bool r) r:=by
 refine Qb func131 Z Z Z ?_;exact G0 10 Z (Cz [0] h (k_ft _ _) Z λd b h=>Go 5 Z (Rt h 4 []))
def F_bc(n:Nat)(a:Category):Option Bool:=
  ((F_a n 0 120 [a.From,a.To]).bind λb=>(bif b then some (decide (a.From<=a.To))else some false):Option Bool).bind λc=>some c
theorem k_bc(n:Nat)(b:Category)(r:Bool)(h:F_bc n b=some r):
    Csm prog 133 [.agg (Category.c b)] [] (λr=>.bool r) r:=by
 refine Qb func133 Z Z Z ?_;refine G0 7 Z (Bd h λd a h=>?_);refine Ct d [] [] (λd=>[(2,.bool d)]) Ze Zf ?_ (λenv H e=>?_)
 .refine G0 5 Z ?_;refine vH (El (xs:=[.tmp 4,.tmp 6]) (es:=List.map (Qf .i64) [b.From,b.To]) Q2 Z Z Z Z Z ⟨Z,Z,trivial⟩ Z Z) ?_;refine FE Z (Cb a (k_a _ _ _ _) Z (ls (ls (lo ln))) λi g a=>Go 1 Z (Is 9 a Z (λf a=>?_) (λf a=>?_)))
  .exact Go 8 Z (Cl a [])
  .exact Go 8 Z (Cl a [])
 exact Gx 1 Z (Ef e (Gc 1 Z (Rt h 2 [])))
def F_fx(n:Nat)(a:Category):Option Bool:=
  (F_bc n a).bind λb=>some (!b)
theorem k_fx(n:Nat)(a:Category)(r:Bool)(h:F_fx n a=some r):
    Csm prog 204 [.agg (Category.c a),.ptr 0 0] [.cells 255 [.fn (.func 133) [] []]] (λr=>.bool r) r:=by
 refine Qb func204 Z Z Z ?_;exact G0 10 Z (Cz [] h (k_bc _ _) Z λd b h=>Go 5 Z (Rt h 3 [0]))
def F_ix(n:Nat)(b:List Category)(a:Int):Option (Ctl Int (Ctl Unit Int)):=
  (bif decide (a<(b.length:Int))then(idx b a).bind λc=>(F_fx n c).bind λd=>(bif d then some (.done (.done a))else some (.cont (IntKind.i64.wrap (a+1))))else some (.done (.cont ())))
def F_gf(n:Nat)(c:List Category):Option Int:=
  (iter (F_ix n c) n 0:Option (Ctl Unit Int)).bind λb=>match b with|.cont a=>(some (-1))|.done a=>some a
theorem k_gf(n:Nat)(a:List Category)(r:Int)(h:F_gf n a=some r):
    Csm prog 241 [.rsl 3 (List.map Category.c a),.fn (.func 204) [] [.ptr 0 0]] [.cells 255 [.fn (.func 133) [] []]] (λr=>I r) r:=
 Yp (el:=λx=>.agg (Category.c x)) (g:=λx=>F_fx n x) func241 Z Z Z runUnderlying27 sizeOf232 (λ_ _ _ _ b d=>Qk b isAgg232 sizeOf232 d Pts.rp Z Z) call204 (λ_ _ h=>k_fx _ _ _ h) h
def F_gs(n:Nat)(a:List Category):Option Bool:=
  (F_gf n a).bind λb=>some (decide (0<=b))
theorem k_gs(n:Nat)(a:List Category)(r:Bool)(h:F_gs n a=some r):
    Csm prog 203 [.rsl 3 (List.map Category.c a),.fn (.func 204) [] [.ptr 0 0]] [.cells 255 [.fn (.func 133) [] []]] (λr=>.bool r) r:=by
 refine Qb func203 Z Z Z ?_;exact G0 9 Z (Cz [0] h (k_gf _ _) Z λd b h=>Go 5 Z (Rt h 4 [0]))
def F_by(n:Nat)(a:List Category):Option Bool:=
  (F_gs n a).bind λb=>some (!b)
theorem k_by(n:Nat)(a:List Category)(r:Bool)(h:F_by n a=some r):
    Csm prog 132 [.rsl 3 (List.map Category.c a),.fn (.func 133) [] []] [] (λr=>.bool r) r:=by
 refine Qb func132 Z Z Z ?_;exact G0 10 Z (Cz [0] h (k_gs _ _) Z λd b h=>Go 5 Z (Rt h 4 []))
def F_cb(n:Nat)(a:Prize)(b:Course):Option Bool:=
  ((F_a n 0 (IntKind.i64.wrap ((b.Distances.length:Int)-1)) [a.Distance]).bind λc=>(bif c then(F_a n (-1) (IntKind.i64.wrap ((b.Categories.length:Int)-1)) [a.Category]).bind λd=>(bif d then(F_a n 1 4000 [a.Rank]).bind λe=>(bif e then(F_a n 1 1125899906842624 [a.Amount]).bind λf=>some f else some false)else some false)else some false):Option Bool).bind λg=>some g
theorem k_cb(n:Nat)(b:Prize)(i:Course)(r:Bool)(h:F_cb n b i=some r):
    Csm prog 123 [.agg (Prize.c b),.ptr 0 0] [.cells 33 (Course.c i)] (λr=>.bool r) r:=by
 refine Qb func123 Z Z Z ?_;refine G0 7 Z (Bd h λd a h=>?_);refine Ct d [0] [] (λd=>[(3,.bool d)]) Ze Zf ?_ (λenv H j=>?_)
 .refine G0 3 Z (Lm Z (Go 3 Z ?_));refine vH (El (xs:=[.tmp 9]) (es:=List.map (Qf .i64) [b.Distance]) Q2 Z Z Z Z Z ⟨Z,trivial⟩ Z Z) ?_;refine FE Z (Cb a (k_a _ _ _ _) Z (ls (ls (lo ln))) λq k a=>Go 1 Z (Is 12 a Z (λe a=>?_) (λe a=>?_)))
  .refine Go 2 Z (Lm Z (Go 3 Z ?_));refine vH (El (xs:=[.tmp 18]) (es:=List.map (Qf .i64) [b.Category]) Q2 Z Z Z Z Z ⟨Z,trivial⟩ Z Z) ?_ (gT Z);refine FE Z (Cb a (k_a _ _ _ _) Z (ls (ls (lo ln))) λs l a=>Go 2 Z (Is 22 a Z (λf a=>?_) (λf a=>?_)))
   .refine Go 2 Z ?_;refine vH (El (xs:=[.tmp 24]) (es:=List.map (Qf .i64) [b.Rank]) Q2 Z Z Z Z Z ⟨Z,trivial⟩ Z Z) ?_ (gT Z);refine FE Z (Cb a (k_a _ _ _ _) Z (ls (ls (lo ln))) λt m a=>Go 2 Z (Is 28 a Z (λg a=>?_) (λg a=>?_)))
    .refine Go 2 Z ?_;refine vH (El (xs:=[.tmp 30]) (es:=List.map (Qf .i64) [b.Amount]) Q2 Z Z Z Z Z ⟨Z,trivial⟩ Z Z) ?_ (gT Z);exact FE Z (Cb a (k_a _ _ _ _) Z (ls (ls (lo ln))) λu p a=>Go 3 Z (Cl a [0]))
    .exact Go 7 Z (Cl a [0])
   .exact Go 13 Z (Cl a [0])
  .exact Go 23 Z (Cl a [0])
 exact Gx 1 Z (Ef j (Gc 1 Z (Rt h 3 [0])))
def F_fs(n:Nat)(a:Prize)(b:Course):Option Bool:=
  (F_cb n a b).bind λc=>some (!c)
theorem k_fs(n:Nat)(a:Prize)(b:Course)(r:Bool)(h:F_fs n a b=some r):
    Csm prog 206 [.agg (Prize.c a),.ptr 0 0] [.cells 245 [.fn (.func 123) [] [.ptr 1 0]],.cells 33 (Course.c b)] (λr=>.bool r) r:=by
 refine Qb func206 Z Z Z ?_;exact G0 10 Z (Cz [1] h (k_cb _ _ _) Z λe d h=>Go 5 Z (Rt h 3 [0,1]))
def F_io(n:Nat)(b:List Prize)(e:Course)(a:Int):Option (Ctl Int (Ctl Unit Int)):=
  (bif decide (a<(b.length:Int))then(idx b a).bind λc=>(F_fs n c e).bind λd=>(bif d then some (.done (.done a))else some (.cont (IntKind.i64.wrap (a+1))))else some (.done (.cont ())))
def F_eo(n:Nat)(c:List Prize)(d:Course):Option Int:=
  (iter (F_io n c d) n 0:Option (Ctl Unit Int)).bind λb=>match b with|.cont a=>(some (-1))|.done a=>some a
theorem k_eo(n:Nat)(b:List Prize)(a:Course)(r:Int)(h:F_eo n b a=some r):
    Csm prog 242 [.rsl 4 (List.map Prize.c b),.fn (.func 206) [] [.ptr 0 0]] [.cells 245 [.fn (.func 123) [] [.ptr 1 0]],.cells 33 (Course.c a)] (λr=>I r) r:=
 Yp (el:=λx=>.agg (Prize.c x)) (g:=λx=>F_fs n x a) func242 Z Z Z runUnderlying28 sizeOf244 (λ_ _ _ _ d e=>Qk d isAgg244 sizeOf244 e Pts.rp Z Z) call206 (λ_ _ h=>k_fs _ _ _ _ h) h
def F_dy(n:Nat)(a:List Prize)(b:Course):Option Bool:=
  (F_eo n a b).bind λc=>some (decide (0<=c))
theorem k_dy(n:Nat)(a:List Prize)(b:Course)(r:Bool)(h:F_dy n a b=some r):
    Csm prog 205 [.rsl 4 (List.map Prize.c a),.fn (.func 206) [] [.ptr 0 0]] [.cells 245 [.fn (.func 123) [] [.ptr 1 0]],.cells 33 (Course.c b)] (λr=>.bool r) r:=by
 refine Qb func205 Z Z Z ?_;exact G0 9 Z (Cz [0,1] h (k_eo _ _ _) Z λe d h=>Go 5 Z (Rt h 4 [0,1]))
def F_bz(n:Nat)(a:List Prize)(b:Course):Option Bool:=
  (F_dy n a b).bind λc=>some (!c)
theorem k_bz(n:Nat)(a:List Prize)(b:Course)(r:Bool)(h:F_bz n a b=some r):
    Csm prog 134 [.rsl 4 (List.map Prize.c a),.fn (.func 123) [] [.ptr 0 0]] [.cells 33 (Course.c b)] (λr=>.bool r) r:=by
 refine Qb func134 Z Z Z ?_;exact G0 10 Z (Cz [1,0] h (k_dy _ _ _) Z λe d h=>Go 5 Z (Rt h 4 [0]))
def F_ed(n:Nat)(a:Prize):Option Unit:=
  some ()
theorem k_ed(n:Nat)(a:Prize)(r:Unit)(h:F_ed n a=some r):
    C prog 136 [.agg (Prize.c a)] [] (RQ (λ_=>.agg [I a.Distance,I a.Category,I a.Rank]) (λ_=>[.cells 259 [I a.Distance,I a.Category,I a.Rank]]) r):=by
 refine Qb func136 Z Z Z ?_;refine G0 19 Z ?_;obtain rfl:=Oi h;exact Rx [1] [2] Z (YJ Z (Qm isAgg259 sizeOf259 Z Z Z)) ⟨Z,Z⟩
def F_ic(n:Nat)(c:List Prize)(a:(List (Uj×Bool))×Int):Option (Ctl ((List (Uj×Bool))×Int) (List (Uj×Bool))):=
  (bif decide (a.2<(c.length:Int))then(idx c a.2).bind λb=>(F_ed n b).bind λe=>(some (QE a.1 ({distance:=b.Distance,category:=b.Category,rank:=b.Rank:Uj}) true)).bind λd=>some (.cont (d,IntKind.i64.wrap (a.2+1)))else some (.done a.1))
def F_bp(n:Nat)(a:List Prize):Option Bool:=
  (iter (F_ic n a) n ([],0):Option (List (Uj×Bool))).bind λb=>some ((b.length:Int)==(a.length:Int))
theorem k_bp(n:Nat)(m:List Prize)(r:Bool)(h:F_bp n m=some r):
    Csm prog 135 [.rsl 4 (List.map Prize.c m),.fn (.func 136) [] []] [] (λr=>.bool r) r:=by
 refine Qb func135 Z Z Z ?_;refine G0 7 Z ?_;refine vH Ye ?_;refine FE Z (Go 7 Z (Lm Z (Go 3 Z (Bd h λb p h=>?_))));refine Ct b [0] [0,5] Ze (λb=>[(0,.map (Qi (λx=>A.agg (Uj.c x)) A.bool b))]) Zf ?_ (λenv H q=>?_)
 .refine G0 1 Z ?_;refine Lp [0] [0,1,5,9,10] (λd=>[(11,I d.2)]) (λd=>[(0,.map (Qi (λx=>A.agg (Uj.c x)) A.bool d.1))]) p Zf (Lr [0]) λd t a f=>?_;refine G0 6 Z (Jb Z a (λg a=>?_) (λg a=>?_))
  .refine Gc 2 Z (Qy a ?_);obtain rfl:=Oj f a;exact Gx 1 Z (QH (Lr [0]))
  refine Gc 6 Z (Bd a λe i a=>Iz i Z (Go 9 Z (Cd [] a (k_ed _ _) Z λu s a=>FE Z (Bd a λw j a=>?_))));refine vU (Yc (ev:=A.bool) (k:=({distance:=e.Distance,category:=e.Category,rank:=e.Rank:Uj})) (v:=true) (l:=d.1) Qpe j Z underlying306) ?_;exact FE Z (Go 7 Z (Qv a (Lr [0])))
 refine Gx 1 Z (Ef q (Gc 3 Z ?_));refine vX (I (b.length:Int)) (QcQ (l:=b) underlying306 Z) ?_;exact Go 1 Z (Lm Z (Go 5 Z (Rt h 4 [])))
def F_aw(n:Nat)(a:Course):Option Bool:=
  ((F_dj n a.Mats).bind λb=>(bif b then(F_bl n a.Legs (IntKind.i64.wrap ((a.Mats.length:Int)-1))).bind λc=>(bif c then(F_be n a.Legs).bind λd=>(bif d then(F_bh n a.Distances (IntKind.i64.wrap ((a.Mats.length:Int)-1))).bind λe=>(bif e then(F_cj n a.Waves).bind λf=>(bif f then(F_ca n a.Offences).bind λg=>(bif g then(F_by n a.Categories).bind λh=>(bif h then(F_bz n a.Prizes a).bind λi=>(bif i then(F_bp n a.Prizes).bind λj=>(bif j then(F_a n 0 16 [a.Faults.Misses,a.Faults.Strays]).bind λk=>(bif k then(F_a n 0 4294967296 [a.Faults.Window,a.Faults.Residual]).bind λl=>(bif l then(F_a n 0 100000 [a.Faults.Drift]).bind λm=>(bif m then(F_a n 0 1125899906842624 [a.Fee]).bind λp=>(bif p then(F_a n 0 1099511627776 [a.Deadline]).bind λq=>some q else some false)else some false)else some false)else some false)else some false)else some false)else some false)else some false)else some false)else some false)else some false)else some false)else some false):Option Bool).bind λr=>some r
theorem k_aw(n:Nat)(b:Course)(r:Bool)(h:F_aw n b=some r):
    Csm prog 56 [.agg (Course.c b)] [] (λr=>.bool r) r:=by
 refine Qb func56 Z Z Z ?_;refine G0 10 Z (Lm Z (Go 55 Z (Bd h λd a h=>?_)));refine Ct d [] [] (λd=>[(2,.bool d)]) Ze Zf ?_ (λenv H w=>?_)
 .refine G0 3 Z (Cz [] a (k_dj _ _) Z λR x a=>Go 1 Z (Is 25 a Z (λe a=>?_) (λe a=>?_)))
  .refine Go 3 Z (Cd [1] a (k_bl _ _ _) Z λT y a=>FE Z (Go 2 Z (Is 31 a Z (λf a=>?_) (λf a=>?_))))
   .refine Go 2 Z (Cz [] a (k_be _ _) Z λV z a=>Go 2 Z (Is 36 a Z (λg a=>?_) (λg a=>?_)))
    .refine Go 3 Z (Cz [1,2,3] a (k_bh _ _ _) Z λW B a=>Go 2 Z (Is 42 a Z (λi a=>?_) (λi a=>?_)))
     .refine Go 2 Z (Cz [] a (k_cj _ _) Z λX E a=>Go 2 Z (Is 47 a Z (λj a=>?_) (λj a=>?_)))
      .refine Go 3 Z (Cz [] a (k_ca _ _) Z λY F a=>Go 2 Z (Is 53 a Z (λk a=>?_) (λk a=>?_)))
       .refine Go 2 Z (Cz [] a (k_by _ _) Z λaa G a=>Go 2 Z (Is 58 a Z (λl a=>?_) (λl a=>?_)))
        .refine Go 3 Z (Cz [0] a (k_bz _ _ _) Z λab J a=>Go 2 Z (Is 64 a Z (λm a=>?_) (λm a=>?_)))
         .refine Go 2 Z (Cz [] a (k_bp _ _) Z λac L a=>Go 2 Z (Is 69 a Z (λp a=>?_) (λp a=>?_)))
          .refine Go 4 Z ?_;refine vH (El (xs:=[.tmp 71,.tmp 73]) (es:=List.map (Qf .i64) [b.Faults.Misses,b.Faults.Strays]) Q2 Z Z Z Z Z ⟨Z,Z,trivial⟩ Z Z) ?_ (gT Z);refine FE Z (Cb a (k_a _ _ _ _) Z (ls (ls (lo ln))) λae M a=>Go 2 Z (Is 77 a Z (λq a=>?_) (λq a=>?_)))
           .refine Go 4 Z ?_;refine vH (El (xs:=[.tmp 79,.tmp 81]) (es:=List.map (Qf .i64) [b.Faults.Window,b.Faults.Residual]) Q2 Z Z Z Z Z ⟨Z,Z,trivial⟩ Z Z) ?_ (gT Z);refine FE Z (Cb a (k_a _ _ _ _) Z (ls (ls (lo ln))) λaf N a=>Go 2 Z (Is 85 a Z (λs a=>?_) (λs a=>?_)))
            .refine Go 2 Z ?_;refine vH (El (xs:=[.tmp 87]) (es:=List.map (Qf .i64) [b.Faults.Drift]) Q2 Z Z Z Z Z ⟨Z,trivial⟩ Z Z) ?_ (gT Z);refine FE Z (Cb a (k_a _ _ _ _) Z (ls (ls (lo ln))) λag O a=>Go 2 Z (Is 91 a Z (λt a=>?_) (λt a=>?_)))
             .refine Go 2 Z ?_;refine vH (El (xs:=[.tmp 93]) (es:=List.map (Qf .i64) [b.Fee]) Q2 Z Z Z Z Z ⟨Z,trivial⟩ Z Z) ?_ (gT Z);refine FE Z (Cb a (k_a _ _ _ _) Z (ls (ls (lo ln))) λah P a=>Go 2 Z (Is 97 a Z (λu a=>?_) (λu a=>?_)))
              .refine Go 2 Z ?_;refine vH (El (xs:=[.tmp 99]) (es:=List.map (Qf .i64) [b.Deadline]) Q2 Z Z Z Z Z ⟨Z,trivial⟩ Z Z) ?_ (gT Z);exact FE Z (Cb a (k_a _ _ _ _) Z (ls (ls (lo ln))) λai Q a=>Go 3 Z (Cl a []))
              .exact Go 7 Z (Cl a [])
             .exact Go 13 Z (Cl a [])
            .exact Go 19 Z (Cl a [])
           .exact Go 27 Z (Cl a [])
          .exact Go 35 Z (Cl a [])
         .exact Go 40 Z (Cl a [])
        .exact Go 46 Z (Cl a [])
       .exact Go 51 Z (Cl a [])
      .exact Go 57 Z (Cl a [])
     .exact Go 62 Z (Cl a [])
    .exact Go 68 Z (Cl a [])
   .exact Go 73 Z (Cl a [])
  .exact Go 79 Z (Cl a [])
 exact Gx 1 Z (Ef w (Gc 1 Z (Rt h 2 [])))
def F_iw(n:Nat)(b:List Step)(a:(List Ui)×Int):Option (Ctl ((List Ui)×Int) (List Ui)):=
  (bif decide (a.2<(b.length:Int))then(idx b a.2).bind λc=>(app a.1 [Ui.ctyping_step ({Step:=c:Uk})]).bind λd=>some (.cont (d,IntKind.i64.wrap (a.2+1)))else some (.done a.1))
def F_x(n:Nat)(a:List Step):Option (List Ui):=
  (iter (F_iw n a) n ([],0):Option (List Ui)).bind λb=>some b
theorem k_x(n:Nat)(q:List Step)(r:List Ui)(h:F_x n q=some r):
    C prog 138 [.rsl 8 (List.map Step.enc q)] [] (RQ (λr=>.osl 0 0 r.length 1) (λr=>[.row 313 1 (List.map Ui.enc r)]) r):=by
 refine Qb func138 Z Z Z ?_;refine G0 9 Z (Lm Z (Go 3 Z (Bd h λd w h=>?_)));refine Ct d [0] [] (λd=>[(2,.osl 0 0 d.length 1)]) (λd=>[(0,.row 313 1 (List.map Ui.enc d))]) Zf ?_ (λenv H u=>?_)
 .refine G0 1 Z ?_;refine Lp [0] [5,6] (λb=>[(2,.osl 0 0 b.1.length 1),(7,I b.2)]) (λb=>[(0,.row 313 1 (List.map Ui.enc b.1))]) w Zf ?_ ?_
  .refine En (Er (s:=2) (k:=1) (t:=313) (XX Z) Z) ?_;exact Lr [0]
  intro b x a g;refine G0 6 Z (Jb Z a (λj a=>?_) (λj a=>?_))
  .refine Gc 2 Z (Qy a ?_);obtain rfl:=Oj g a;exact Gx 1 Z (QH (Lr [0]))
  refine Gc 6 Z (Bd a λf l a=>IzE l (YS f) Z (Go 9 Z ?_));refine vX (.iface 316 (.agg (Uk.c ({Step:=f:Uk})))) (Qas Z runUnderlying316 (by intro m;nofun) Z) ?_;refine vH (El (xs:=[.tmp 14]) (es:=List.map Ui.enc [Ui.ctyping_step ({Step:=f:Uk})]) QcL Z Z Z Z Z ⟨Z,trivial⟩ Z Z) ?_;refine FE Z (Bd a λy p a=>?_);refine vH (QM (e:=Ui.enc) p QcL runUnderlying262 (Y6 (i:=2))) ?_;exact FE Z (Go 8 Z (Qv a (Lr [3])))
 exact Gx 1 Z (Ef u (Gc 7 Z (Rt h 2 [0])))
def F_y(n:Nat)(a:Uf):Option Bool:=
  ((bif (a.Cond.Kind==0)then(bif (a.Cond.Var==0)then(bif (a.Cond.N==0)then some ((a.Cond.Parts.length:Int)==0)else some false)else some false)else some false):Option Bool).bind λb=>some b
theorem k_y(n:Nat)(d:Uf)(r:Bool)(h:F_y n d=some r):
    Csm prog 243 [.agg (Uf.c ({Cond:=d.Cond:Uf}))] [] (λr=>.bool r) r:=by
 refine Qb func243 Z Z Z ?_;refine G0 7 Z (Bd h λb a h=>?_);refine Ct b [] [] (λb=>[(2,.bool b)]) Ze Zf ?_ (λenv H e=>?_)
 .refine G0 6 Z (Is 7 a Z (λf a=>?_) (λf a=>?_))
  .refine Go 6 Z (Is 13 a Z (λg a=>?_) (λg a=>?_))
   .refine Go 6 Z (Is 19 a Z (λi a=>?_) (λi a=>?_))
    .exact Go 3 Z (Lm Z (Go 4 Z (Cl a [])))
    .exact Go 8 Z (Cl a [])
   .exact Go 14 Z (Cl a [])
  .exact Go 20 Z (Cl a [])
 exact Gx 1 Z (Ef e (Gc 1 Z (Rt h 2 [])))
def F_t(n:Nat)(a:Uk):Option (List Ui):=
  (F_x n a.Step.Then).bind λb=>(F_x n a.Step.Else).bind λc=>(app b c).bind λd=>some d
theorem k_t(n:Nat)(a:Uk)(r:List Ui)(h:F_t n a=some r):
    C prog 299 [.agg (Uk.c a)] [] (RQ (λr=>.osl 0 0 r.length 1) (λr=>[.row 313 1 (List.map Ui.enc r)]) r):=by
 refine Qb func299 Z Z Z ?_;refine G0 7 Z (DAs 7 3 [0,0,0,1,3,3,3] (by kernel_rfl) (Da 3 Z ?_));obtain⟨b,d,h⟩:=Jy h;refine DA.op (x:=.osl 1 0 b.length 1) (H1:=[.cells 316 (Uk.c a),.row 313 1 (List.map Ui.enc b)]) ?_ ?_
 .refine Qz [] (OpC.fn call138 Z Z Z) (k_x _ _ _ d) ?_;rintro _ _ ⟨rfl,rfl⟩;exact FE Z Wp
 refine Db 2 Z ?_;refine DB.wo2 (x:=.rsl 8 (List.map Step.enc a.Step.Else)) (Ld isAgg29 Z Wp) (Ld isAgg29 Z Wp) ?_;refine DB.done Z (Cd [] h (k_x _ _) Z λj g h=>FE Z (Bd h λk f h=>?_));refine vH (QM (e:=Ui.enc) f QcL runUnderlying262 (Y6 (i:=2))) ?_;exact FE Z (Go 4 Z (Rt h 2 [3]))
def F_ip(n:Nat)(b:List Cond)(a:(List Ui)×Int):Option (Ctl ((List Ui)×Int) (List Ui)):=
  (bif decide (a.2<(b.length:Int))then(idx b a.2).bind λc=>(app a.1 [Ui.ctyping_cond ({Cond:=c:Uf})]).bind λd=>some (.cont (d,IntKind.i64.wrap (a.2+1)))else some (.done a.1))
def F_df(n:Nat)(a:List Cond):Option (List Ui):=
  (iter (F_ip n a) n ([],0):Option (List Ui)).bind λb=>some b
theorem k_df(n:Nat)(q:List Cond)(r:List Ui)(h:F_df n q=some r):
    C prog 316 [.rsl 4 (List.map Cond.enc q)] [] (RQ (λr=>.osl 0 0 r.length 1) (λr=>[.row 313 1 (List.map Ui.enc r)]) r):=by
 refine Qb func316 Z Z Z ?_;refine G0 9 Z (Lm Z (Go 3 Z (Bd h λd w h=>?_)));refine Ct d [0] [] (λd=>[(2,.osl 0 0 d.length 1)]) (λd=>[(0,.row 313 1 (List.map Ui.enc d))]) Zf ?_ (λenv H u=>?_)
 .refine G0 1 Z ?_;refine Lp [0] [5,6] (λb=>[(2,.osl 0 0 b.1.length 1),(7,I b.2)]) (λb=>[(0,.row 313 1 (List.map Ui.enc b.1))]) w Zf ?_ ?_
  .refine En (Er (s:=2) (k:=1) (t:=313) (XX Z) Z) ?_;exact Lr [0]
  intro b x a g;refine G0 6 Z (Jb Z a (λj a=>?_) (λj a=>?_))
  .refine Gc 2 Z (Qy a ?_);obtain rfl:=Oj g a;exact Gx 1 Z (QH (Lr [0]))
  refine Gc 6 Z (Bd a λf l a=>IzE l (Qa7 f) Z (Go 9 Z ?_));refine vX (.iface 352 (.agg (Uf.c ({Cond:=f:Uf})))) (Qas Z runUnderlying352 (by intro m;nofun) Z) ?_;refine vH (El (xs:=[.tmp 14]) (es:=List.map Ui.enc [Ui.ctyping_cond ({Cond:=f:Uf})]) QcL Z Z Z Z Z ⟨Z,trivial⟩ Z Z) ?_;refine FE Z (Bd a λy p a=>?_);refine vH (QM (e:=Ui.enc) p QcL runUnderlying262 (Y6 (i:=2))) ?_;exact FE Z (Go 8 Z (Qv a (Lr [3])))
 exact Gx 1 Z (Ef u (Gc 7 Z (Rt h 2 [0])))
def F_q(n:Nat)(a:Uf):Option (List Ui):=
  (F_df n a.Cond.Parts).bind λb=>some b
theorem k_q(n:Nat)(a:Uf)(r:List Ui)(h:F_q n a=some r):
    C prog 298 [.agg (Uf.c ({Cond:=a.Cond:Uf}))] [] (RQ (λr=>.osl 0 0 r.length 1) (λr=>[.row 313 1 (List.map Ui.enc r)]) r):=by
 refine Qb func298 Z Z Z ?_;exact G0 11 Z (Cd [] h (k_df _ _) Z λd b h=>FE Z (Go 4 Z (Rt h 2 [1])))
def F_gg(n:Nat)(k:List Ui)(l:Int)(rec90:(List Ui)->Int->Ug->Option (Ug×Bool))(a:Ug×Int):Option (Ctl (Ug×Int) (Ctl Ug (Ug×Bool))):=
  (bif decide (a.2<(k.length:Int))then(idx k a.2).bind λm=>Ui.elim m (λe=>((F_y n ({Cond:=e.Step.Cond:Uf})).bind λp=>(bif (!p)then(rec90 [Ui.ctyping_cond ({Cond:=e.Step.Cond:Uf})] 0 ({steps:=IntKind.i64.wrap (a.1.steps+1),conds:=a.1.conds:Ug})).bind λf=>some (f.1,(!f.2))else some ({steps:=IntKind.i64.wrap (a.1.steps+1),conds:=a.1.conds:Ug},false)):Option (Ug×Bool)).bind λb=>(bif b.2 then some (.done (.done (b.1,false)))else((bif decide (64<b.1.steps)then some (b.1,true)else(bif decide (256<b.1.conds)then some (b.1,true)else(F_t n e).bind λi=>(rec90 i (IntKind.i64.wrap (l+1)) b.1).bind λg=>some (g.1,(!g.2)))):Option (Ug×Bool)).bind λc=>(bif c.2 then some (.done (.done (c.1,false)))else some (.cont (c.1,IntKind.i64.wrap (a.2+1)))))) (λq=>((bif decide (64<a.1.steps)then some ({steps:=a.1.steps,conds:=IntKind.i64.wrap (a.1.conds+1):Ug},true)else(bif decide (256<(IntKind.i64.wrap (a.1.conds+1)))then some ({steps:=a.1.steps,conds:=IntKind.i64.wrap (a.1.conds+1):Ug},true)else(F_q n ({Cond:=q.Cond:Uf})).bind λj=>(rec90 j (IntKind.i64.wrap (l+1)) ({steps:=a.1.steps,conds:=IntKind.i64.wrap (a.1.conds+1):Ug})).bind λh=>some (h.1,(!h.2)))):Option (Ug×Bool)).bind λd=>(bif d.2 then some (.done (.done (d.1,false)))else some (.cont (d.1,IntKind.i64.wrap (a.2+1)))))else some (.done (.cont a.1)))
def B_d(rec90:(List Ui)->Int->Ug->Option (Ug×Bool))(n:Nat)(b:List Ui)(c:Int)(d:Ug):Option (Ug×Bool):=
  ((bif decide (0<(b.length:Int))then some (decide (16<c))else some false):Option Bool).bind λb2=>(bif b2 then some (d,false)else(iter (F_gg n b c rec90) n (d,0):Option (Ctl Ug (Ug×Bool))).bind λe=>match e with|.cont a=>(some (a,true))|.done a=>some a)
theorem QaC(rec90:(List Ui)->Int->Ug->Option (Ug×Bool))(i:∀(p:List Ui) (x:Int) (y:Ug) (r:Ug×Bool),rec90 p x y=some r->C prog 207 [.ptr 0 0,.osl 1 0 p.length 1,I x] [.cells 309 (Ug.c y),.row 313 1 (List.map Ui.enc p)] (RQ (λr=>.bool r.2) (λr=>[.cells 309 (Ug.c r.1),.row 313 1 (List.map Ui.enc p)]) r))(n:Nat)(p:List Ui)(x:Int)(y:Ug)(r:Ug×Bool)(h:B_d rec90 n p x y=some r):
    C prog 207 [.ptr 0 0,.osl 1 0 p.length 1,I x] [.cells 309 (Ug.c y),.row 313 1 (List.map Ui.enc p)] (RQ (λr=>.bool r.2) (λr=>[.cells 309 (Ug.c r.1),.row 313 1 (List.map Ui.enc p)]) r):=by
 refine Qb func207 Z Z Z ?_;refine G0 7 Z (Bd h λb2 B h=>?_);refine Ct b2 [0,1] [0,1,2] (λb2=>[(18,.bool b2)]) Ze Zf ?_ (λenv H f=>?_)
 .refine G0 5 Z (Is 15 B Z (λX B=>?_) (λX B=>?_))
  .exact Go 4 Z (Cl B [0,1])
  .exact Go 4 Z (Cl B [0,1])
 refine Gx 1 Z (Ef f (Cn Z h (λY h=>?_) (λY h=>?_)))
 .exact Gc 7 Z (Rt h 6 [0,1])
 refine Gc 10 Z (Bd h λaa ab h=>?_);refine CtE (b:=aa) [0,1] [] Ze (λE=>[(0,.cells 309 (Ug.c E))]) Zf ?_ (λE env H ac f=>?_)
 .refine G0 1 Z ?_;refine Lp [0,1] [0,2,19,20] (λt=>[(21,I t.2)]) (λt=>[(0,.cells 309 (Ug.c t.1))]) ab Zf (Lr [0,1]) λt an a q=>?_;refine G0 6 Z (Jb Z a (λV a=>?_) (λV a=>?_))
  .refine Gc 2 Z (Qy a ?_);obtain rfl:=Oj q a;exact Gx 1 Z (QL Z (Lr [0,1]))
  refine Gc 6 Z (Bd a λT F a=>?_);refine vX (.ptr 1 (Int.toNat t.2*1)) (QJ F Z runUnderlying262 sizeOf313) ?_;refine vX (Ui.val T) (Ez Z isAgg313 Z (Qq F)) ?_;refine Go 12 Z ?_;rcases JA T with⟨l,hE90⟩|⟨w,hE92⟩
  .have a:=Jn hE90 a;refine Et (Qo (s:=8) (a':=.iface 316 (.agg (Uk.c l))) Z (congrArg Ui.val hE90)) ?_;refine Et (Qo (s:=24) (a':=.iface 316 (.agg (Uk.c l))) Z (congrArg Ui.val hE90)) ?_;refine Et (Qo (s:=25) (a':=.iface 316 (.agg (Uk.c l))) Z (congrArg Ui.val hE90)) ?_;refine vX (.tup [.agg [I 0,I 0,I 0,.rsl 4 (List.map Cond.enc [])],.bool false]) (QhV (z:=(.agg [I 0,I 0,I 0,.rsl 4 (List.map Cond.enc [])])) runUnderlying352 (by intro m;nofun) Z zeroValue352 (zrC Z)) ?_;refine Go 7 Z ?_;refine vX (.tup [.agg (Uk.c l),.bool true]) (QbD runUnderlying316 (by intro m;nofun)) ?_;refine Go 34 Z (Bd a λu g a=>?_);refine Ct u [0,1] [0,2,8,19,20,21] (λu=>[(60,.bool u.2)]) (λu=>[(0,.cells 309 (Ug.c u.1))]) Zf ?_ (λenv H f=>?_)
   .refine G0 2 Z (Cz [] g (k_y _ _) Z λao ah g=>Go 2 Z (Is 53 g Z (λW g=>?_) (λW g=>?_)))
    .refine Go 2 Z ?_;refine vX (.iface 352 (.agg (Uf.c ({Cond:=l.Step.Cond:Uf})))) (Qas Z runUnderlying352 (by intro m;nofun) Z) ?_ (gT Z);refine vH (El (xs:=[.tmp 56]) (es:=List.map Ui.enc [Ui.ctyping_cond ({Cond:=l.Step.Cond:Uf})]) QcL Z Z Z Z Z ⟨Z,trivial⟩ Z Z) ?_ (gT Z);exact FE Z (Cd [0,4] g (i _ _ _) Z λai ae g=>FE Z (Go 3 Z (Cl g [0,1])))
    .exact Go 8 Z (Cl g [0,1])
   refine Gx 1 Z (Ef f (Cn Z a (λG a=>?_) (λG a=>?_)))
   .refine Gc 10 Z (Yx a ?_);obtain rfl:=Oj q a;exact Gx 1 Z (Q9 (Gx 1 Z (Rt h 6 [0,1])))
   refine Gc 4 Z (Bd a λj d a=>?_);refine Ct j [0,1] [0,2,19,20,21] (λj=>[(81,.bool j.2)]) (λj=>[(0,.cells 309 (Ug.c j.1))]) Zf ?_ (λenv H f=>?_)
   .refine G0 7 Z (Is 66 d Z (λJ d=>?_) (λJ d=>?_))
    .exact Go 16 Z (Cl d [0,1])
    .refine Go 7 Z (Is 73 d Z (λL d=>?_) (λL d=>?_))
     .exact Go 9 Z (Cl d [0,1])
     .refine Go 2 Z (Bd d λaj M d=>?_);refine Qz [] (QeJ call299 Z Z Z Z (λ_ _=>by kernel_rfl)) (k_t _ _ _ M) ?_ (hg:=(gT Z));rintro _ _ ⟨rfl,rfl⟩;exact FE Z (Go 2 Z (Cd [0,2] d (i _ _ _) Z λak af d=>FE Z (Go 3 Z (Cl d [0,1]))))
   refine Gx 1 Z (Ef f (Cn Z a (λN a=>?_) (λN a=>?_)))
   .refine Gc 8 Z (Yx a ?_);obtain rfl:=Oj q a;exact Gx 1 Z (Q9 (Gx 1 Z (Rt h 6 [0,1])))
   exact Gc 7 Z (Qv a (Lr [0,1]))
  .have a:=Jm hE92 a;refine Et (Qo (s:=8) (a':=.iface 352 (.agg (Uf.c ({Cond:=w.Cond:Uf})))) Z (congrArg Ui.val hE92)) ?_;refine Et (Qo (s:=24) (a':=.iface 352 (.agg (Uf.c ({Cond:=w.Cond:Uf})))) Z (congrArg Ui.val hE92)) ?_;refine Et (Qo (s:=25) (a':=.iface 352 (.agg (Uf.c ({Cond:=w.Cond:Uf})))) Z (congrArg Ui.val hE92)) ?_;refine vX (.tup [.agg (Uf.c ({Cond:=w.Cond:Uf})),.bool true]) (QbD runUnderlying352 (by intro m;nofun)) ?_;refine Go 24 Z (Bd a λk e a=>?_);refine Ct k [0,1] [0,2,19,20,21] (λk=>[(81,.bool k.2)]) (λk=>[(0,.cells 309 (Ug.c k.1))]) Zf ?_ (λenv H f=>?_)
   .refine G0 7 Z (Is 66 e Z (λO e=>?_) (λO e=>?_))
    .exact Go 16 Z (Cl e [0,1])
    .refine Go 7 Z (Is 73 e Z (λP e=>?_) (λP e=>?_))
     .exact Go 9 Z (Cl e [0,1])
     .refine Go 2 Z (Bd e λal Q e=>?_);refine Qz [] (QeJ call298 Z Z Z Z (λ_ _=>by kernel_rfl)) (k_q _ _ _ Q) ?_ (hg:=(gT Z));rintro _ _ ⟨rfl,rfl⟩;exact FE Z (Go 2 Z (Cd [0,3] e (i _ _ _) Z λam ag e=>FE Z (Go 3 Z (Cl e [0,1]))))
   refine Gx 1 Z (Ef f (Cn Z a (λR a=>?_) (λR a=>?_)))
   .refine Gc 8 Z (Yx a ?_);obtain rfl:=Oj q a;exact Gx 1 Z (Q9 (Gx 1 Z (Rt h 6 [0,1])))
   exact Gc 7 Z (Qv a (Lr [0,1]))
 subst ac;exact Gx 1 Z (Ef f (Gc 6 Z (Rt h 6 [0,1])))
def F_d:Nat->(List Ui)->Int->Ug->Option (Ug×Bool)
  |0=>λ_ _ _=>none
  |n+1=>B_d (F_d n) n
theorem k_d(n:Nat):∀(a:List Ui) (b:Int) (d:Ug) (r:Ug×Bool),F_d n a b d=some r->C prog 207 [.ptr 0 0,.osl 1 0 a.length 1,I b] [.cells 309 (Ug.c d),.row 313 1 (List.map Ui.enc a)] (RQ (λr=>.bool r.2) (λr=>[.cells 309 (Ug.c r.1),.row 313 1 (List.map Ui.enc a)]) r):=by
  induction n with
  |zero=>intro a b d r h;cases h
  |succ n ih=>intro a b d r h;exact QaC _ ih n a b d r h
def F_im(n:Nat)(k:List Ui)(l:Int)(a:Ug×Int):Option (Ctl (Ug×Int) (Ctl Ug (Ug×Bool))):=
  (bif decide (a.2<(k.length:Int))then(idx k a.2).bind λm=>Ui.elim m (λe=>((F_y n ({Cond:=e.Step.Cond:Uf})).bind λp=>(bif (!p)then(F_d n [Ui.ctyping_cond ({Cond:=e.Step.Cond:Uf})] 0 ({steps:=IntKind.i64.wrap (a.1.steps+1),conds:=a.1.conds:Ug})).bind λf=>some (f.1,(!f.2))else some ({steps:=IntKind.i64.wrap (a.1.steps+1),conds:=a.1.conds:Ug},false)):Option (Ug×Bool)).bind λb=>(bif b.2 then some (.done (.done (b.1,false)))else((bif decide (64<b.1.steps)then some (b.1,true)else(bif decide (256<b.1.conds)then some (b.1,true)else(F_t n e).bind λi=>(F_d n i (IntKind.i64.wrap (l+1)) b.1).bind λg=>some (g.1,(!g.2)))):Option (Ug×Bool)).bind λc=>(bif c.2 then some (.done (.done (c.1,false)))else some (.cont (c.1,IntKind.i64.wrap (a.2+1)))))) (λq=>((bif decide (64<a.1.steps)then some ({steps:=a.1.steps,conds:=IntKind.i64.wrap (a.1.conds+1):Ug},true)else(bif decide (256<(IntKind.i64.wrap (a.1.conds+1)))then some ({steps:=a.1.steps,conds:=IntKind.i64.wrap (a.1.conds+1):Ug},true)else(F_q n ({Cond:=q.Cond:Uf})).bind λj=>(F_d n j (IntKind.i64.wrap (l+1)) ({steps:=a.1.steps,conds:=IntKind.i64.wrap (a.1.conds+1):Ug})).bind λh=>some (h.1,(!h.2)))):Option (Ug×Bool)).bind λd=>(bif d.2 then some (.done (.done (d.1,false)))else some (.cont (d.1,IntKind.i64.wrap (a.2+1)))))else some (.done (.cont a.1)))
def F_fy(n:Nat)(b:List Ui)(c:Int)(d:Ug):Option (Ug×Bool):=
  ((bif decide (0<(b.length:Int))then some (decide (16<c))else some false):Option Bool).bind λb2=>(bif b2 then some (d,false)else(iter (F_im n b c) n (d,0):Option (Ctl Ug (Ug×Bool))).bind λe=>match e with|.cont a=>(some (a,true))|.done a=>some a)
theorem k_fy(n:Nat)(Q:List Ui)(R:Int)(T:Ug)(r:Ug×Bool)(h:F_fy n Q R T=some r):
    C prog 207 [.ptr 0 0,.rsl 1 (List.map Ui.enc Q),I R] [.cells 309 (Ug.c T)] (RQ (λr=>.bool r.2) (λr=>[.cells 309 (Ug.c r.1)]) r):=by
 refine Qb func207 Z Z Z ?_;refine G0 7 Z (Bd h λb2 u h=>?_);refine Ct b2 [0] [0,1,2] (λb2=>[(18,.bool b2)]) Ze Zf ?_ (λenv H f=>?_)
 .refine G0 2 Z (Lm Z (Go 2 Z (Is 15 u Z (λV u=>?_) (λV u=>?_))))
  .exact Go 4 Z (Cl u [0])
  .exact Go 4 Z (Cl u [0])
 refine Gx 1 Z (Ef f (Cn Z h (λW h=>?_) (λW h=>?_)))
 .exact Gc 7 Z (Rt h 6 [0])
 refine Gc 6 Z (Lm Z (Go 3 Z (Bd h λX Y h=>?_)));refine CtE (b:=X) [0] [] Ze (λw=>[(0,.cells 309 (Ug.c w))]) Zf ?_ (λw env H aa f=>?_)
 .refine G0 1 Z ?_;refine Lp [0] [0,2,19,20] (λq=>[(21,I q.2)]) (λq=>[(0,.cells 309 (Ug.c q.1))]) Y Zf (Lr [0]) λq am a l=>?_;refine G0 6 Z (Jb Z a (λN a=>?_) (λN a=>?_))
  .refine Gc 2 Z (Qy a ?_);obtain rfl:=Oj l a;exact Gx 1 Z (QL Z (Lr [0]))
  refine Gc 6 Z (Bd a λab O a=>Iz O Z (Go 13 Z ?_));rcases JA ab with⟨k,hE90⟩|⟨t,hE92⟩
  .have a:=Jn hE90 a;refine Et (Qo (s:=8) (a':=.iface 316 (.agg (Uk.c k))) Z (congrArg Ui.val hE90)) ?_;refine Et (Qo (s:=24) (a':=.iface 316 (.agg (Uk.c k))) Z (congrArg Ui.val hE90)) ?_;refine Et (Qo (s:=25) (a':=.iface 316 (.agg (Uk.c k))) Z (congrArg Ui.val hE90)) ?_;refine vX (.tup [.agg [I 0,I 0,I 0,.rsl 4 (List.map Cond.enc [])],.bool false]) (QhV (z:=(.agg [I 0,I 0,I 0,.rsl 4 (List.map Cond.enc [])])) runUnderlying352 (by intro m;nofun) Z zeroValue352 (zrC Z)) ?_;refine Go 7 Z ?_;refine vX (.tup [.agg (Uk.c k),.bool true]) (QbD runUnderlying316 (by intro m;nofun)) ?_;refine Go 34 Z (Bd a λp g a=>?_);refine Ct p [0] [0,2,8,19,20,21] (λp=>[(60,.bool p.2)]) (λp=>[(0,.cells 309 (Ug.c p.1))]) Zf ?_ (λenv H f=>?_)
   .refine G0 2 Z (Cz [] g (k_y _ _) Z λan ag g=>Go 2 Z (Is 53 g Z (λP g=>?_) (λP g=>?_)))
    .refine Go 2 Z ?_;refine vX (.iface 352 (.agg (Uf.c ({Cond:=k.Step.Cond:Uf})))) (Qas Z runUnderlying352 (by intro m;nofun) Z) ?_ (gT Z);refine vH (El (xs:=[.tmp 56]) (es:=List.map Ui.enc [Ui.ctyping_cond ({Cond:=k.Step.Cond:Uf})]) QcL Z Z Z Z Z ⟨Z,trivial⟩ Z Z) ?_ (gT Z);exact FE Z (Cd [0,3] g (k_d _ _ _ _) Z λah ac g=>FE Z (Go 3 Z (Cl g [0])))
    .exact Go 8 Z (Cl g [0])
   refine Gx 1 Z (Ef f (Cn Z a (λx a=>?_) (λx a=>?_)))
   .refine Gc 10 Z (Yx a ?_);obtain rfl:=Oj l a;exact Gx 1 Z (Q9 (Gx 1 Z (Rt h 6 [0])))
   refine Gc 4 Z (Bd a λi d a=>?_);refine Ct i [0] [0,2,19,20,21] (λi=>[(81,.bool i.2)]) (λi=>[(0,.cells 309 (Ug.c i.1))]) Zf ?_ (λenv H f=>?_)
   .refine G0 7 Z (Is 66 d Z (λy d=>?_) (λy d=>?_))
    .exact Go 16 Z (Cl d [0])
    .refine Go 7 Z (Is 73 d Z (λB d=>?_) (λB d=>?_))
     .exact Go 9 Z (Cl d [0])
     .refine Go 2 Z (Bd d λai E d=>?_);refine Qz [] (QeJ call299 Z Z Z Z (λ_ _=>by kernel_rfl)) (k_t _ _ _ E) ?_ (hg:=(gT Z));rintro _ _ ⟨rfl,rfl⟩;exact FE Z (Go 2 Z (Cd [0,1] d (k_d _ _ _ _) Z λaj ae d=>FE Z (Go 3 Z (Cl d [0]))))
   refine Gx 1 Z (Ef f (Cn Z a (λF a=>?_) (λF a=>?_)))
   .refine Gc 8 Z (Yx a ?_);obtain rfl:=Oj l a;exact Gx 1 Z (Q9 (Gx 1 Z (Rt h 6 [0])))
   exact Gc 7 Z (Qv a (Lr [0]))
  .have a:=Jm hE92 a;refine Et (Qo (s:=8) (a':=.iface 352 (.agg (Uf.c ({Cond:=t.Cond:Uf})))) Z (congrArg Ui.val hE92)) ?_;refine Et (Qo (s:=24) (a':=.iface 352 (.agg (Uf.c ({Cond:=t.Cond:Uf})))) Z (congrArg Ui.val hE92)) ?_;refine Et (Qo (s:=25) (a':=.iface 352 (.agg (Uf.c ({Cond:=t.Cond:Uf})))) Z (congrArg Ui.val hE92)) ?_;refine vX (.tup [.agg (Uf.c ({Cond:=t.Cond:Uf})),.bool true]) (QbD runUnderlying352 (by intro m;nofun)) ?_;refine Go 24 Z (Bd a λj e a=>?_);refine Ct j [0] [0,2,19,20,21] (λj=>[(81,.bool j.2)]) (λj=>[(0,.cells 309 (Ug.c j.1))]) Zf ?_ (λenv H f=>?_)
   .refine G0 7 Z (Is 66 e Z (λG e=>?_) (λG e=>?_))
    .exact Go 16 Z (Cl e [0])
    .refine Go 7 Z (Is 73 e Z (λJ e=>?_) (λJ e=>?_))
     .exact Go 9 Z (Cl e [0])
     .refine Go 2 Z (Bd e λak L e=>?_);refine Qz [] (QeJ call298 Z Z Z Z (λ_ _=>by kernel_rfl)) (k_q _ _ _ L) ?_ (hg:=(gT Z));rintro _ _ ⟨rfl,rfl⟩;exact FE Z (Go 2 Z (Cd [0,2] e (k_d _ _ _ _) Z λal af e=>FE Z (Go 3 Z (Cl e [0]))))
   refine Gx 1 Z (Ef f (Cn Z a (λM a=>?_) (λM a=>?_)))
   .refine Gc 8 Z (Yx a ?_);obtain rfl:=Oj l a;exact Gx 1 Z (Q9 (Gx 1 Z (Rt h 6 [0])))
   exact Gc 7 Z (Qv a (Lr [0]))
 subst aa;exact Gx 1 Z (Ef f (Gc 6 Z (Rt h 6 [0])))
def F_cv(rec94:(List Ui)->Option Bool)(n:Nat)(a:Uf):Option Bool:=
  ((bif (a.Cond.Var==0)then some (a.Cond.N==0)else some false):Option Bool).bind λb2=>(bif (a.Cond.Kind==1)then((F_a n 1 3 [a.Cond.Var]).bind λc=>(bif c then(F_a n 0 10000 [a.Cond.N]).bind λd=>(bif d then some ((a.Cond.Parts.length:Int)==0)else some false)else some false):Option Bool).bind λe=>some e else((bif (a.Cond.Kind==4)then(bif b2 then some (.cont ((a.Cond.Parts.length:Int)==1))else some (.cont false))else((bif (a.Cond.Kind==2)then some (a.Cond.Kind==2)else some (a.Cond.Kind==3)):Option Bool).bind λf=>(bif f then(bif b2 then(bif decide (0<(a.Cond.Parts.length:Int))then some (.cont (decide ((a.Cond.Parts.length:Int)<=16)))else some (.cont false))else some (.cont false))else some (.done false))):Option (Ctl Bool Bool)).bind λg=>match g with|.cont b=>(((bif b then(F_q n ({Cond:=a.Cond:Uf})).bind λh=>(rec94 h).bind λi=>some (!i)else some false):Option Bool).bind λj=>some j)|.done b=>some b)
theorem k_cv(rec94:(List Ui)->Option Bool)(j:∀(g:List Ui) (r:Bool),rec94 g=some r->Csm prog 208 [.rsl 1 (List.map Ui.enc g),.fn (.func 209) [] []] [] (λr=>.bool r) r)(n:Nat)(g:Uf)(r:Bool)(h:F_cv rec94 n g=some r):
    Csm prog 245 [.iface 352 (.agg (Uf.c ({Cond:=g.Cond:Uf})))] [] (λr=>.bool r) r:=by
 refine Qb func245 Z Z Z ?_;refine G0 14 Z ?_;refine vX (.tup [.agg (Uf.c ({Cond:=g.Cond:Uf})),.bool true]) (QbD runUnderlying352 (by intro m;nofun)) ?_;refine Go 12 Z (Bd h λb2 k h=>?_);refine Ct b2 [0] [3] (λb2=>[(4,.bool b2)]) Ze Zf ?_ (λenv H e=>?_)
 .refine G0 6 Z (Is 15 k Z (λG k=>?_) (λG k=>?_))
  .exact Go 7 Z (Cl k [0])
  .exact Go 7 Z (Cl k [0])
 refine Gx 1 Z (Ef e (Gc 15 Z (Cn Z h (λJ h=>?_) (λJ h=>?_))))
 .refine Gc 1 Z (Bd h λl d h=>?_);refine Ct l [] [] (λl=>[(2,.bool l)]) Ze Zf ?_ (λenv H e=>?_)
  .refine G0 4 Z ?_;refine vH (El (xs:=[.tmp 28]) (es:=List.map (Qf .i64) [g.Cond.Var]) Q2 Z Z Z Z Z ⟨Z,trivial⟩ Z Z) ?_;refine FE Z (Cb d (k_a _ _ _ _) Z (ls (ls (lo ln))) λR M d=>Go 1 Z (Is 31 d Z (λt d=>?_) (λt d=>?_)))
   .refine Go 3 Z ?_;refine vH (El (xs:=[.tmp 34]) (es:=List.map (Qf .i64) [g.Cond.N]) Q2 Z Z Z Z Z ⟨Z,trivial⟩ Z Z) ?_ (gT Z);refine FE Z (Cb d (k_a _ _ _ _) Z (ls (ls (lo ln))) λT O d=>Go 2 Z (Is 38 d Z (λu d=>?_) (λu d=>?_)))
    .exact Go 3 Z (Lm Z (Go 4 Z (Cl d [])))
    .exact Go 8 Z (Cl d [])
   .exact Go 15 Z (Cl d [])
  exact Gx 1 Z (Ef e (Gc 5 Z (Rt h 2 [])))
 refine Gc 6 Z (Bd h λL a h=>?_);refine CtE (b:=L) [0] [3] (λp=>[(4,.bool p)]) Ze Zf ?_ (λp env H hb e=>?_)
 .refine G0 0 Z (Cn Z a (λw a=>?_) (λw a=>?_))
  .refine Gc 3 Z (Is 48 a Z (λx a=>?_) (λx a=>?_))
   .refine Go 3 Z (Lm Z (Go 4 Z ?_));cases a;exact QL Z (Lr [0])
   .refine Go 8 Z ?_;cases a;exact QL Z (Lr [0])
  refine Gc 7 Z (Bd a λq i a=>?_);refine Ct q [0] [3,4] (λq=>[(55,.bool q)]) Ze Zf ?_ (λenv H e=>?_)
  .refine G0 0 Z (Cn Z i (λy i=>?_) (λy i=>?_))
   .exact Gc 1 Z (Cl i [0])
   exact Gc 4 Z (Cl i [0])
  refine Gx 1 Z (Ef e (Jb Z a (λz a=>?_) (λz a=>?_)))
  .refine Gc 6 Z ?_;cases a;exact Q9 (Gx 4 Z (Rt h 2 []))
  refine Gc 3 Z (Is 59 a Z (λB a=>?_) (λB a=>?_))
  .refine Go 3 Z (Lm Z (Go 3 Z (Is 66 a Z (λE a=>?_) (λE a=>?_))))
   .refine Go 3 Z (Lm Z (Go 4 Z ?_));cases a;exact QL Z (Lr [0])
   .refine Go 8 Z ?_;cases a;exact QL Z (Lr [0])
  .refine Go 15 Z ?_;cases a;exact QL Z (Lr [0])
 subst hb;refine Gx 2 Z (Ef e (Gc 1 Z (Bd h λs f h=>?_)));refine Ct s [] [] (λs=>[(2,.bool s)]) Ze Zf ?_ (λenv H e=>?_)
 .refine G0 3 Z (Is 74 f Z (λF f=>?_) (λF f=>?_))
  .exact Go 1 Z (Cd [] f (k_q _ _) Z λV P f=>FE Z (Cb f (j _) Z (lo (ls ln)) λW Q f=>Go 4 Z (Cl f [])))
  .exact Go 7 Z (Cl f [])
 exact Gx 1 Z (Ef e (Gc 3 Z (Rt h 2 [])))
def F_ga(rec94:(List Ui)->Option Bool)(n:Nat)(x:Ui):Option Bool:=
  Ui.elim x (λb=>(bif (b.Step.Kind==1)then((F_a n 1 5 [b.Step.By]).bind λe=>(bif e then(F_y n ({Cond:=b.Step.Cond:Uf})).bind λf=>(bif f then(F_t n b).bind λg=>some ((g.length:Int)==0)else some false)else some false):Option Bool).bind λh=>some h else(bif (b.Step.Kind==2)then((bif (b.Step.By==0)then(F_cv rec94 n ({Cond:=b.Step.Cond:Uf})).bind λi=>(bif i then(bif decide (0<(b.Step.Then.length:Int))then(F_t n b).bind λj=>(rec94 j).bind λk=>some (!k)else some false)else some false)else some false):Option Bool).bind λl=>some l else some false))) (λa=>((bif (a.Cond.Var==0)then some (a.Cond.N==0)else some false):Option Bool).bind λd=>(bif (a.Cond.Kind==1)then((F_a n 1 3 [a.Cond.Var]).bind λm=>(bif m then(F_a n 0 10000 [a.Cond.N]).bind λp=>(bif p then some ((a.Cond.Parts.length:Int)==0)else some false)else some false):Option Bool).bind λq=>some q else((bif (a.Cond.Kind==4)then(bif d then some (.cont ((a.Cond.Parts.length:Int)==1))else some (.cont false))else((bif (a.Cond.Kind==2)then some (a.Cond.Kind==2)else some (a.Cond.Kind==3)):Option Bool).bind λr=>(bif r then(bif d then(bif decide (0<(a.Cond.Parts.length:Int))then some (.cont (decide ((a.Cond.Parts.length:Int)<=16)))else some (.cont false))else some (.cont false))else some (.done false))):Option (Ctl Bool Bool)).bind λs=>match s with|.cont c=>(((bif c then(F_q n ({Cond:=a.Cond:Uf})).bind λt=>(rec94 t).bind λu=>some (!u)else some false):Option Bool).bind λw=>some w)|.done c=>some c))
theorem k_ga(rec94:(List Ui)->Option Bool)(j:∀(p:List Ui) (r:Bool),rec94 p=some r->Csm prog 208 [.rsl 1 (List.map Ui.enc p),.fn (.func 209) [] []] [] (λr=>.bool r) r)(n:Nat)(p:Ui)(r:Bool)(h:F_ga rec94 n p=some r):
    Csm prog 245 [Ui.val p] [] (λr=>.bool r) r:=by
 refine Qb func245 Z Z Z ?_;refine G0 14 Z ?_;rcases JA p with⟨q,hE2⟩|⟨t,hE4⟩
 .have h:=Jn hE2 h;refine Et (Qo (s:=0) (a':=.iface 316 (.agg (Uk.c q))) Z (congrArg Ui.val hE2)) ?_;refine Et (Qo (s:=7) (a':=.iface 316 (.agg (Uk.c q))) Z (congrArg Ui.val hE2)) ?_;refine vX (.tup [.agg [I 0,I 0,I 0,.rsl 4 (List.map Cond.enc [])],.bool false]) (QhV (z:=(.agg [I 0,I 0,I 0,.rsl 4 (List.map Cond.enc [])])) runUnderlying352 (by intro m;nofun) Z zeroValue352 (zrC Z)) ?_;refine Go 7 Z ?_;refine vX (.tup [.agg (Uk.c q),.bool true]) (QbD runUnderlying316 (by intro m;nofun)) ?_;refine Go 35 Z (Cn Z h (λaf h=>?_) (λaf h=>?_))
  .refine Gc 1 Z (Bd h λu e h=>?_);refine Ct u [] [] (λu=>[(2,.bool u)]) Ze Zf ?_ (λenv H f=>?_)
   .refine G0 4 Z ?_;refine vH (El (xs:=[.tmp 94]) (es:=List.map (Qf .i64) [q.Step.By]) Q2 Z Z Z Z Z ⟨Z,trivial⟩ Z Z) ?_;refine FE Z (Cb e (k_a _ _ _ _) Z (ls (ls (lo ln))) λau ah e=>Go 1 Z (Is 97 e Z (λG e=>?_) (λG e=>?_)))
    .refine Go 1 Z (Cz [] e (k_y _ _) Z λav ai e=>Go 2 Z (Is 101 e Z (λJ e=>?_) (λJ e=>?_)))
     .exact Go 1 Z (Cd [] e (k_t _ _) Z λaw aj e=>FE Z (Go 5 Z (Cl e [])))
     .exact Go 7 Z (Cl e [])
    .exact Go 11 Z (Cl e [])
   exact Gx 1 Z (Ef f (Gc 4 Z (Rt h 2 [])))
  refine Gc 6 Z (Cn Z h (λL h=>?_) (λL h=>?_))
  .refine Gc 1 Z (Bd h λw d h=>?_);refine Ct w [] [] (λw=>[(2,.bool w)]) Ze Zf ?_ (λenv H f=>?_)
   .refine G0 6 Z (Is 113 d Z (λM d=>?_) (λM d=>?_))
    .refine Go 1 Z ?_;refine vX (.iface 352 (.agg (Uf.c ({Cond:=q.Step.Cond:Uf})))) (Qas Z runUnderlying352 (by intro m;nofun) Z) ?_ (gT Z);refine Cz [] d (k_cv rec94 j _ _) Z λax ak d=>Go 2 Z (Is 118 d Z (λO d=>?_) (λO d=>?_))
     .refine Go 3 Z (Lm Z (Go 3 Z (Is 125 d Z (λP d=>?_) (λP d=>?_))))
      .exact Go 1 Z (Cd [] d (k_t _ _) Z λay al d=>FE Z (Cb d (j _) Z (lo (ls ln)) λaz am d=>Go 4 Z (Cl d [])))
      .exact Go 7 Z (Cl d [])
     .exact Go 14 Z (Cl d [])
    .exact Go 19 Z (Cl d [])
   exact Gx 1 Z (Ef f (Gc 4 Z (Rt h 2 [])))
  exact Gc 10 Z (Rt h 2 [])
 .have h:=Jm hE4 h;refine Et (Qo (s:=0) (a':=.iface 352 (.agg (Uf.c ({Cond:=t.Cond:Uf})))) Z (congrArg Ui.val hE4)) ?_;refine Et (Qo (s:=7) (a':=.iface 352 (.agg (Uf.c ({Cond:=t.Cond:Uf})))) Z (congrArg Ui.val hE4)) ?_;refine vX (.tup [.agg (Uf.c ({Cond:=t.Cond:Uf})),.bool true]) (QbD runUnderlying352 (by intro m;nofun)) ?_;refine Go 12 Z (Bd h λx k h=>?_);refine Ct x [0] [3] (λx=>[(4,.bool x)]) Ze Zf ?_ (λenv H f=>?_)
  .refine G0 6 Z (Is 15 k Z (λQ k=>?_) (λQ k=>?_))
   .exact Go 7 Z (Cl k [0])
   .exact Go 7 Z (Cl k [0])
  refine Gx 1 Z (Ef f (Gc 15 Z (Cn Z h (λR h=>?_) (λR h=>?_))))
  .refine Gc 1 Z (Bd h λy g h=>?_);refine Ct y [] [] (λy=>[(2,.bool y)]) Ze Zf ?_ (λenv H f=>?_)
   .refine G0 4 Z ?_;refine vH (El (xs:=[.tmp 28]) (es:=List.map (Qf .i64) [t.Cond.Var]) Q2 Z Z Z Z Z ⟨Z,trivial⟩ Z Z) ?_;refine FE Z (Cb g (k_a _ _ _ _) Z (ls (ls (lo ln))) λba an g=>Go 1 Z (Is 31 g Z (λT g=>?_) (λT g=>?_)))
    .refine Go 3 Z ?_;refine vH (El (xs:=[.tmp 34]) (es:=List.map (Qf .i64) [t.Cond.N]) Q2 Z Z Z Z Z ⟨Z,trivial⟩ Z Z) ?_ (gT Z);refine FE Z (Cb g (k_a _ _ _ _) Z (ls (ls (lo ln))) λbb ao g=>Go 2 Z (Is 38 g Z (λV g=>?_) (λV g=>?_)))
     .exact Go 3 Z (Lm Z (Go 4 Z (Cl g [])))
     .exact Go 8 Z (Cl g [])
    .exact Go 15 Z (Cl g [])
   exact Gx 1 Z (Ef f (Gc 5 Z (Rt h 2 [])))
  refine Gc 6 Z (Bd h λag a h=>?_);refine CtE (b:=ag) [0] [3] (λB=>[(4,.bool B)]) Ze Zf ?_ (λB env H hb f=>?_)
  .refine G0 0 Z (Cn Z a (λW a=>?_) (λW a=>?_))
   .refine Gc 3 Z (Is 48 a Z (λX a=>?_) (λX a=>?_))
    .refine Go 3 Z (Lm Z (Go 4 Z ?_));cases a;exact QL Z (Lr [0])
    .refine Go 8 Z ?_;cases a;exact QL Z (Lr [0])
   refine Gc 7 Z (Bd a λE l a=>?_);refine Ct E [0] [3,4] (λE=>[(55,.bool E)]) Ze Zf ?_ (λenv H f=>?_)
   .refine G0 0 Z (Cn Z l (λY l=>?_) (λY l=>?_))
    .exact Gc 1 Z (Cl l [0])
    exact Gc 4 Z (Cl l [0])
   refine Gx 1 Z (Ef f (Jb Z a (λaa a=>?_) (λaa a=>?_)))
   .refine Gc 6 Z ?_;cases a;exact Q9 (Gx 4 Z (Rt h 2 []))
   refine Gc 3 Z (Is 59 a Z (λab a=>?_) (λab a=>?_))
   .refine Go 3 Z (Lm Z (Go 3 Z (Is 66 a Z (λac a=>?_) (λac a=>?_))))
    .refine Go 3 Z (Lm Z (Go 4 Z ?_));cases a;exact QL Z (Lr [0])
    .refine Go 8 Z ?_;cases a;exact QL Z (Lr [0])
   .refine Go 15 Z ?_;cases a;exact QL Z (Lr [0])
  subst hb;refine Gx 2 Z (Ef f (Gc 1 Z (Bd h λF i h=>?_)));refine Ct F [] [] (λF=>[(2,.bool F)]) Ze Zf ?_ (λenv H f=>?_)
  .refine G0 3 Z (Is 74 i Z (λae i=>?_) (λae i=>?_))
   .exact Go 1 Z (Cd [] i (k_q _ _) Z λbc aq i=>FE Z (Cb i (j _) Z (lo (ls ln)) λbd ar i=>Go 4 Z (Cl i [])))
   .exact Go 7 Z (Cl i [])
  exact Gx 1 Z (Ef f (Gc 3 Z (Rt h 2 [])))
def F_cx(rec94:(List Ui)->Option Bool)(n:Nat)(a:Ui):Option Bool:=
  (F_ga rec94 n a).bind λb=>some (!b)
theorem k_cx(rec94:(List Ui)->Option Bool)(a:∀(b:List Ui) (r:Bool),rec94 b=some r->Csm prog 208 [.rsl 1 (List.map Ui.enc b),.fn (.func 209) [] []] [] (λr=>.bool r) r)(n:Nat)(b:Ui)(r:Bool)(h:F_cx rec94 n b=some r):
    Csm prog 209 [Ui.val b] [] (λr=>.bool r) r:=by
 refine Qb func209 Z Z Z ?_;exact G0 8 Z (Bd h λd c h=>Pc [] Z (OpC.fn call245 Z Z Z) (k_ga rec94 a _ _ _ c) (hargs:=by first|exact Z|exact Eq.trans (by exact Z) (Qad _ (by simp[Yo,Ys,Ui.data])).symm) Z (Go 5 Z (Rt h 2 [])))
def F_iz(n:Nat)(b:List Ui)(rec94:(List Ui)->Option Bool)(a:Int):Option (Ctl Int (Ctl Unit Int)):=
  (bif decide (a<(b.length:Int))then(idx b a).bind λc=>(F_cx rec94 n c).bind λd=>(bif d then some (.done (.done a))else some (.cont (IntKind.i64.wrap (a+1))))else some (.done (.cont ())))
def F_fc(rec94:(List Ui)->Option Bool)(n:Nat)(c:List Ui):Option Int:=
  (iter (F_iz n c rec94) n 0:Option (Ctl Unit Int)).bind λb=>match b with|.cont a=>(some (-1))|.done a=>some a
theorem k_fc(rec94:(List Ui)->Option Bool)(c:∀(d:List Ui) (r:Bool),rec94 d=some r->Csm prog 208 [.rsl 1 (List.map Ui.enc d),.fn (.func 209) [] []] [] (λr=>.bool r) r)(n:Nat)(d:List Ui)(r:Int)(h:F_fc rec94 n d=some r):
    Csm prog 244 [.rsl 1 (List.map Ui.enc d),.fn (.func 209) [] []] [] (λr=>I r) r:=by
 refine Qb func244 Z Z Z ?_;refine G0 9 Z (Lm Z (Go 3 Z (Bd h λl m h=>?_)));refine CtE (b:=l) [] [] Ze Ze Zf ?_ (λs env H p q=>?_)
 .refine G0 1 Z ?_;refine Lp [] [0,1,7] (λf=>[(8,I f)]) Ze m Zf (Lr []) λf t a e=>?_;refine G0 6 Z (Jb Z a (λg a=>?_) (λg a=>?_))
  .refine Gc 2 Z (Qy a ?_);obtain rfl:=Oj e a;exact Gx 1 Z (QL Z (Lr []))
  refine Gc 15 Z (Bd a λu i a=>Iz i Z (Go 1 Z (Bd a λw j a=>Pc [] Z (QaJ call209 Z Z Z Z) (k_cx rec94 c _ _ _ j) (hargs:=by first|exact Z|exact Eq.trans (by exact Z) (Qad _ (by simp[Yo,Ys,Ui.data])).symm) Z (Go 2 Z (Cn Z a (λk a=>?_) (λk a=>?_))))))
  .refine Gc 9 Z (Yx a ?_);obtain rfl:=Oj e a;exact Gx 1 Z (Q9 (Gx 1 Z (Rt h 4 [])))
  exact Gc 7 Z (Qv a (Lr []))
 subst p;exact Gx 1 Z (Ef q (Gc 6 Z (Rt h 4 [])))
def B_g(rec94:(List Ui)->Option Bool)(n:Nat)(a:List Ui):Option Bool:=
  (F_fc rec94 n a).bind λb=>some (decide (0<=b))
theorem QaD(rec94:(List Ui)->Option Bool)(a:∀(b:List Ui) (r:Bool),rec94 b=some r->Csm prog 208 [.rsl 1 (List.map Ui.enc b),.fn (.func 209) [] []] [] (λr=>.bool r) r)(n:Nat)(b:List Ui)(r:Bool)(h:B_g rec94 n b=some r):
    Csm prog 208 [.rsl 1 (List.map Ui.enc b),.fn (.func 209) [] []] [] (λr=>.bool r) r:=by
 refine Qb func208 Z Z Z ?_;exact G0 9 Z (Cz [] h (k_fc rec94 a _ _) Z λd c h=>Go 5 Z (Rt h 4 []))
def F_g:Nat->(List Ui)->Option Bool
  |0=>λ_=>none
  |n+1=>B_g (F_g n) n
theorem k_g(n:Nat):∀(a:List Ui) (r:Bool),F_g n a=some r->Csm prog 208 [.rsl 1 (List.map Ui.enc a),.fn (.func 209) [] []] [] (λr=>.bool r) r:=by
  induction n with
  |zero=>intro a r h;cases h
  |succ n ih=>intro a r h;exact QaD _ ih n a r h
def F_gj(n:Nat)(a:List Ui):Option Int:=
  (F_fy n a 0 ({steps:=0,conds:=0:Ug})).bind λb=>(bif (!b.2)then some 2 else((bif ((a.length:Int)==0)then some true else(F_g n a).bind λc=>some c):Option Bool).bind λd=>(bif d then some 71 else some 0))
theorem k_gj(n:Nat)(c:List Ui)(r:Int)(h:F_gj n c=some r):
    Csm prog 137 [.rsl 1 (List.map Ui.enc c)] [] (λr=>I r) r:=by
 refine Qb func137 Z Z Z ?_;refine G0 17 Z (Cd [0] h (k_fy _ _ _ _) Z λk i h=>FE Z (Go 3 Z (Cn Z h (λd h=>?_) (λd h=>?_))))
 .exact Gc 7 Z (Rt h 2 [])
 refine Gc 4 Z (Bd h λb a h=>?_);refine Ct b [] [] (λb=>[(16,.bool b)]) Ze Zf ?_ (λenv H e=>?_)
 .refine G0 2 Z (Lm Z (Go 2 Z (Is 13 a Z (λf a=>?_) (λf a=>?_))))
  .exact Go 4 Z (Cl a [])
  .exact Go 1 Z (Cz [] a (k_g _ _) Z λl j a=>Go 2 Z (Cl a []))
 refine Gx 1 Z (Ef e (Cn Z h (λg h=>?_) (λg h=>?_)))
 .exact Gc 7 Z (Rt h 2 [])
 exact Gc 8 Z (Rt h 2 [])
def F_ba(n:Nat)(a:List Step):Option Int:=
  (F_x n a).bind λb=>(F_gj n b).bind λc=>some c
theorem k_ba(n:Nat)(a:List Step)(r:Int)(h:F_ba n a=some r):
    Csm prog 57 [.rsl 8 (List.map Step.enc a)] [] (λr=>I r) r:=by
 refine Qb func57 Z Z Z ?_;exact G0 8 Z (Cd [] h (k_x _ _) Z λd b h=>FE Z (Cb h (k_gj _ _) Z (lo ln) λe c h=>Go 4 Z (Rt h 2 [])))
def F_fq(n:Nat)(b:Part)(c:List Int)(a:(List Int)×Int):Option (Ctl ((List Int)×Int) (Ctl (List Int) (Ctl ((List Int)×Int) (Ctl (List Int) (List Int))))):=
  (bif decide (a.2<(if b.Laps<1 then 1 else b.Laps))then(bif decide (256<(a.1.length:Int))then some (.done (.done (.done (.done a.1))))else(app a.1 c).bind λd=>some (.cont (d,IntKind.i64.wrap (a.2+1))))else some (.done (.cont a.1)))
def F_en(n:Nat)(d:List Part)(rec113:(List Part)->Option (List Int))(a:(List Int)×Int):Option (Ctl ((List Int)×Int) (Ctl (List Int) (List Int))):=
  (bif decide (a.2<(d.length:Int))then(idx d a.2).bind λc=>((bif decide (0<c.Laps)then(rec113 c.Parts).bind λe=>some e else some [c.Mat]):Option (List Int)).bind λf=>(iter (F_fq n c f) n (a.1,0):Option (Ctl (List Int) (Ctl ((List Int)×Int) (Ctl (List Int) (List Int))))).bind λg=>match g with|.cont b=>(some (.cont (b,IntKind.i64.wrap (a.2+1))))|.done b=>some b else some (.done (.cont a.1)))
def B_k(rec113:(List Part)->Option (List Int))(n:Nat)(c:List Part):Option (List Int):=
  (iter (F_en n c rec113) n ([],0):Option (Ctl (List Int) (List Int))).bind λb=>match b with|.cont a=>(some a)|.done a=>some a
theorem Qc2(rec113:(List Part)->Option (List Int))(u:∀(w:List Part) (r:List Int),rec113 w=some r->C prog 141 [.rsl 3 (List.map Part.enc w)] [] (RQ (λr=>.osl 0 0 r.length 1) (λr=>[.row 3 1 (List.map (Qf .i64) r)]) r))(n:Nat)(w:List Part)(r:List Int)(h:B_k rec113 n w=some r):
    C prog 141 [.rsl 3 (List.map Part.enc w)] [] (RQ (λr=>.osl 0 0 r.length 1) (λr=>[.row 3 1 (List.map (Qf .i64) r)]) r):=by
 refine Qb func141 Z Z Z ?_;refine G0 9 Z (Lm Z (Go 3 Z (Bd h λM N h=>?_)));refine CtE (b:=M) [0] [] (λf=>[(2,.osl 0 0 f.length 1)]) (λf=>[(0,.row 3 1 (List.map (Qf .i64) f))]) Zf ?_ (λf env H x j=>?_)
 .refine G0 1 Z ?_;refine Lp [0] [6,7] (λl=>[(2,.osl 0 0 l.1.length 1),(8,I l.2)]) (λl=>[(0,.row 3 1 (List.map (Qf .i64) l.1))]) N Zf ?_ ?_
  .refine En (Er (s:=2) (k:=1) (t:=3) (XX Z) Z) ?_;exact Lr [0]
  intro l R a y;refine G0 6 Z (Jb Z a (λB a=>?_) (λB a=>?_))
  .refine Gc 2 Z (Qy a ?_);obtain rfl:=Oj y a;exact Gx 1 Z (QL Z (Lr [0]))
  refine Gc 6 Z (Bd a λq E a=>IzE E (YK q) Z (Go 9 Z ?_));refine vH (El (xs:=[.tmp 13]) (es:=List.map (Qf .i64) [q.Mat]) Q2 Z Z Z Z Z ⟨Z,trivial⟩ Z Z) ?_;refine FE Z (Go 11 Z (Bd a λm d a=>?_));refine Ct m [0,1,0] [2,4,6,7,8] (λm=>[(5,.osl 2 0 m.length 1)]) (λm=>[(2,.row 3 1 (List.map (Qf .i64) m))]) Zf ?_ (λenv H j=>?_)
  .refine G0 0 Z (Cn Z d (λF d=>?_) (λF d=>?_))
   .exact Gc 3 Z (Cd [] d (u _) Z λT Q d=>FE Z (Go 2 Z (Cl d [0,1,3])))
   exact Gc 1 Z (Cl d [0,1,2])
  refine Gx 1 Z (Ef j (Gc 4 Z ?_));refine vX (I (if q.Laps<1 then 1 else q.Laps)) (OpV.max Z Z Z Z) ?_;refine Go 3 Z (Bd a λO P a=>?_);refine CtE (b:=O) [0] [6,7,8] (λg=>[(2,.osl 0 0 g.length 1)]) (λg=>[(0,.row 3 1 (List.map (Qf .i64) g))]) Zf ?_ (λg env H x j=>?_)
  .refine G0 1 Z ?_;refine Lp [0,2] [5,6,7,8,23] (λp=>[(2,.osl 0 0 p.1.length 1),(24,I p.2)]) (λp=>[(0,.row 3 1 (List.map (Qf .i64) p.1))]) P Zf (Lr [0,2]) λp V c z=>?_;refine G0 6 Z (Jb Z c (λG c=>?_) (λG c=>?_))
   .refine Gc 2 Z (Qy c ?_);obtain rfl:=Oj z c;exact Gx 1 Z (QL Z (Lr [0]))
   refine Gc 12 Z (Cn Z c (λJ c=>?_) (λJ c=>?_))
   .refine Gc 10 Z (Yx c ?_);obtain rfl:=Oj z c;refine Gx 1 Z (Q9 (Gx 2 Z (Yx a ?_)));obtain rfl:=Oj y a;exact Gx 1 Z (Q9 (Gx 1 Z (Rt h 2 [0])))
   refine Gc 5 Z (Bd c λW L c=>?_);refine vH (QM (e:=(Qf .i64)) L Q2 runUnderlying37 (Y6 (i:=1))) ?_;exact FE Z (Go 8 Z (Qv c (Lr [2,1])))
  subst x;exact Gx 2 Z (Ef j (Gc 4 Z (Qv a (Lr [0]))))
 subst x;exact Gx 1 Z (Ef j (Gc 7 Z (Rt h 2 [0])))
def F_k:Nat->(List Part)->Option (List Int)
  |0=>λ_=>none
  |n+1=>B_k (F_k n) n
theorem k_k(n:Nat):∀(a:List Part) (r:List Int),F_k n a=some r->C prog 141 [.rsl 3 (List.map Part.enc a)] [] (RQ (λr=>.osl 0 0 r.length 1) (λr=>[.row 3 1 (List.map (Qf .i64) r)]) r):=by
  induction n with
  |zero=>intro a r h;cases h
  |succ n ih=>intro a r h;exact Qc2 _ ih n a r h
def F_bf(n:Nat)(a:Cutoff)(b:List (Int×Int)):Option Bool:=
  (some (QI b a.Mat 0)).bind λc=>some (decide (a.Lap<=c))
theorem k_bf(n:Nat)(a:Cutoff)(b:List (Int×Int))(r:Bool)(h:F_bf n a b=some r):
    Csm prog 142 [.agg (Cutoff.c a),.ptr 0 0] [.cells 264 [.map 1],.map (Qi (λx=>A.int .i64 x) (λx=>A.int .i64 x) b)] (λr=>.bool r) r:=by
 refine Qb func142 Z Z Z ?_;refine G0 11 Z (Bd h λe d h=>?_);refine vX (I e) (Y9 (ev:=(λx=>A.int .i64 x)) (z0:=0) (k:=a.Mat) (l:=b) YQ d underlying264 zeroValue3 Eo) ?_;exact Go 7 Z (Rt h 3 [0,1])
def F_gw(n:Nat)(a:Cutoff)(b:List (Int×Int)):Option Bool:=
  (F_bf n a b).bind λc=>some (!c)
theorem k_gw(n:Nat)(a:Cutoff)(b:List (Int×Int))(r:Bool)(h:F_gw n a b=some r):
    Csm prog 194 [.agg (Cutoff.c a),.ptr 0 0] [.cells 239 [.fn (.func 142) [] [.ptr 1 0]],.cells 264 [.map 2],.map (Qi (λx=>A.int .i64 x) (λx=>A.int .i64 x) b)] (λr=>.bool r) r:=by
 refine Qb func194 Z Z Z ?_;exact G0 10 Z (Cz [1,2] h (k_bf _ _ _) Z λe d h=>Go 5 Z (Rt h 3 [0,1,2]))
def F_iq(n:Nat)(b:List Cutoff)(e:List (Int×Int))(a:Int):Option (Ctl Int (Ctl Unit Int)):=
  (bif decide (a<(b.length:Int))then(idx b a).bind λc=>(F_gw n c e).bind λd=>(bif d then some (.done (.done a))else some (.cont (IntKind.i64.wrap (a+1))))else some (.done (.cont ())))
def F_fz(n:Nat)(c:List Cutoff)(d:List (Int×Int)):Option Int:=
  (iter (F_iq n c d) n 0:Option (Ctl Unit Int)).bind λb=>match b with|.cont a=>(some (-1))|.done a=>some a
theorem k_fz(n:Nat)(b:List Cutoff)(a:List (Int×Int))(r:Int)(h:F_fz n b a=some r):
    Csm prog 236 [.rsl 3 (List.map Cutoff.c b),.fn (.func 194) [] [.ptr 0 0]] [.cells 239 [.fn (.func 142) [] [.ptr 1 0]],.cells 264 [.map 2],.map (Qi (λx=>A.int .i64 x) (λx=>A.int .i64 x) a)] (λr=>I r) r:=
 Yp (el:=λx=>.agg (Cutoff.c x)) (g:=λx=>F_gw n x a) func236 Z Z Z runUnderlying110 sizeOf238 (λ_ _ _ _ d e=>Qk d isAgg238 sizeOf238 e Pts.rp Z Z) call194 (λ_ _ h=>k_gw _ _ _ _ h) h
def F_ei(n:Nat)(a:List Cutoff)(b:List (Int×Int)):Option Bool:=
  (F_fz n a b).bind λc=>some (decide (0<=c))
theorem k_ei(n:Nat)(a:List Cutoff)(b:List (Int×Int))(r:Bool)(h:F_ei n a b=some r):
    Csm prog 193 [.rsl 3 (List.map Cutoff.c a),.fn (.func 194) [] [.ptr 0 0]] [.cells 239 [.fn (.func 142) [] [.ptr 1 0]],.cells 264 [.map 2],.map (Qi (λx=>A.int .i64 x) (λx=>A.int .i64 x) b)] (λr=>.bool r) r:=by
 refine Qb func193 Z Z Z ?_;exact G0 9 Z (Cz [0,1,2] h (k_fz _ _ _) Z λe d h=>Go 5 Z (Rt h 4 [0,1,2]))
def F_ew(n:Nat)(a:List Cutoff)(b:List (Int×Int)):Option Bool:=
  (F_ei n a b).bind λc=>some (!c)
theorem k_ew(n:Nat)(a:List Cutoff)(b:List (Int×Int))(r:Bool)(h:F_ew n a b=some r):
    Csm prog 120 [.rsl 3 (List.map Cutoff.c a),.fn (.func 142) [] [.ptr 0 0]] [.cells 264 [.map 1],.map (Qi (λx=>A.int .i64 x) (λx=>A.int .i64 x) b)] (λr=>.bool r) r:=by
 refine Qb func120 Z Z Z ?_;exact G0 10 Z (Cz [2,0,1] h (k_ei _ _ _) Z λe d h=>Go 5 Z (Rt h 4 [0,1]))
def F_de(n:Nat)(j:Course)(k:List (Uh×Bool))(c:List Int)(a:(List (Int×Int))×Int):Option (Ctl ((List (Int×Int))×Int) (Ctl (List (Int×Int)) Bool)):=
  (bif decide (a.2<(c.length:Int))then(idx c a.2).bind λb=>(idx j.Mats b).bind λd=>((bif ((d.Kind==1) != (a.2==0))then some true else(bif ((d.Kind==3) != (a.2==(IntKind.i64.wrap ((c.length:Int)-1))))then some true else(bif decide (0<a.2)then(idx c (IntKind.i64.wrap (a.2-1))).bind λe=>(some (QI k ({from_:=e,to_:=b:Uh}) false)).bind λf=>some (!f)else some false))):Option Bool).bind λg=>(bif g then some (.done (.done false))else(some (QI a.1 b 0)).bind λh=>(some (QE a.1 b (IntKind.i64.wrap (h+1)))).bind λi=>some (.cont (i,IntKind.i64.wrap (a.2+1))))else some (.done (.cont a.1)))
def F_az(n:Nat)(d:Course)(b:Distance)(e:List (Uh×Bool)):Option Bool:=
  (F_k n b.Route).bind λc=>((bif decide ((IntKind.i64.wrap ((c.length:Int)-1))<1)then some true else some (decide (256<=(IntKind.i64.wrap ((c.length:Int)-1))))):Option Bool).bind λl=>(bif l then some false else(iter (F_de n d e c) n ([],0):Option (Ctl (List (Int×Int)) Bool)).bind λf=>match f with|.cont a=>(((bif decide (0<=b.Extra)then(some (QI a b.Extra 0)).bind λg=>(bif (g==0)then some true else(idx d.Mats b.Extra).bind λh=>(bif (h.Kind != 2)then some true else(some (QI e ({from_:=b.Extra,to_:=b.Extra:Uh}) false)).bind λi=>some (!i)))else some false):Option Bool).bind λj=>(bif j then some false else(F_ew n b.Cutoffs a).bind λk=>some k))|.done a=>some a)
theorem k_az(n:Nat)(a1:Course)(m:Distance)(y:List (Uh×Bool))(r:Bool)(h:F_az n a1 m y=some r):
    Csm prog 60 [.agg (Course.c a1),.agg (Distance.c m),.map 0] [.map (Qi (λx=>A.agg (Uh.c x)) A.bool y)] (λr=>.bool r) r:=by
 refine Qb func60 Z Z Z ?_;refine G0 11 Z (Cd [] h (k_k _ _) Z λr1 am h=>FE Z (Go 13 Z (Bd h λF p h=>?_)));refine Ct F [0,1,2,3] [2,3,4,7,8] (λF=>[(25,.bool F)]) Ze Zf ?_ (λenv H g=>?_)
 .refine G0 4 Z (Is 22 p Z (λac p=>?_) (λac p=>?_))
  .exact Go 4 Z (Cl p [0,1,2,3])
  .exact Go 4 Z (Cl p [0,1,2,3])
 refine Gx 1 Z (Ef g (Cn Z h (λae h=>?_) (λae h=>?_)))
 .exact Gc 7 Z (Rt h 6 [0])
 refine Gc 4 Z ?_;refine vH Ye ?_;refine FE Z (Go 12 Z (Bd h λaf ag h=>?_));refine CtE (b:=af) [0,1,2,4,5] [2,3,4] (λ_=>[(9,.ptr 3 0)]) (λi=>[(3,.cells 264 [.map 4]),(4,.map (Qi (λx=>A.int .i64 x) (λx=>A.int .i64 x) i))]) Zf ?_ (λi env H ah g=>?_)
 .refine G0 1 Z ?_;refine Lp [0,1,2,3,5,4] [2,3,4,7,8,9,27,28] (λf=>[(29,I f.2)]) (λf=>[(4,.cells 264 [.map 5]),(5,.map (Qi (λx=>A.int .i64 x) (λx=>A.int .i64 x) f.1))]) ag Zf (Lr [0,1,2,3,5,4]) λf an a q=>?_;refine G0 6 Z (Jb Z a (λG a=>?_) (λG a=>?_))
  .refine Gc 2 Z (Qy a ?_);obtain rfl:=Oj q a;exact Gx 1 Z (QL Z (Lr [0,1,2,4,5]))
  refine Gc 7 Z (Bd a λj s a=>?_);refine vX (.ptr 3 (Int.toNat f.2*1)) (QJ s Z runUnderlying37 sizeOf3) ?_;refine vX (I j) (Ez Z isAgg3 Z (Qq s)) ?_;refine Go 9 Z (Bd a λz J a=>Iz J Z (Go 7 Z (Bd a λt e a=>?_)));refine Ct t [0,1,2,3,4,5] [2,3,4,7,8,9,11,27,28,29] (λt=>[(68,.bool t)]) Ze Zf ?_ (λenv H g=>?_)
  .refine G0 5 Z ?_;refine vX (.bool ((z.Kind==1) != (f.2==0))) (Qf3 runUnderlying4) ?_;refine Go 1 Z (Is 45 e Z (λL e=>?_) (λL e=>?_))
   .exact Go 24 Z (Cl e [0,1,2,3,4,5])
   .refine Go 5 Z ?_;refine vV (x:=(.bool ((z.Kind==3) != (f.2==(IntKind.i64.wrap ((r1.length:Int)-1)))))) (Qf3 runUnderlying4) ?_ (gT Z);refine Go 2 Z (Is 53 e Z (λM e=>?_) (λM e=>?_))
    .exact Go 16 Z (Cl e [0,1,2,3,4,5])
    .refine Go 3 Z (Is 56 e Z (λN e=>?_) (λN e=>?_))
     .refine Go 4 Z (Bd e λB u e=>?_);refine vX (.ptr 3 (Int.toNat (IntKind.i64.wrap (f.2-1))*1)) (QJ u Z runUnderlying37 sizeOf3) ?_ (gT Z);refine vX (I B) (Ez Z isAgg3 Z (Qq u)) ?_ (gT Z);refine Go 2 Z (Bd e λai O e=>?_);refine vX (.bool ai) (Y9 (ev:=A.bool) (z0:=false) (k:=({from_:=B,to_:=j:Uh})) (l:=y) QeA O underlying152 zeroValue4 ZR.bool) ?_ (gT Z);exact Go 4 Z (Cl e [0,1,2,3,4,5])
     .exact Go 13 Z (Cl e [0,1,2,3,4,5])
  refine Gx 1 Z (Ef g (Cn Z a (λP a=>?_) (λP a=>?_)))
  .refine Gc 9 Z (Yx a ?_);obtain rfl:=Oj q a;exact Gx 1 Z (Q9 (Gx 1 Z (Rt h 6 [0])))
  refine Gc 5 Z (Bd a λE Q a=>?_);refine vX (I E) (Y9 (ev:=(λx=>A.int .i64 x)) (z0:=0) (k:=j) (l:=f.1) YQ Q underlying264 zeroValue3 Eo) ?_;refine Go 1 Z (Bd a λao R a=>?_);refine vU (Yc (ev:=(λx=>A.int .i64 x)) (k:=j) (v:=(IntKind.i64.wrap (E+1))) (l:=f.1) YQ R Z underlying264) ?_;exact FE Z (Go 7 Z (Qv a (Lr [0,1,2,3,4,5])))
 subst ah;refine Gx 1 Z (Ef g (Gc 9 Z (Bd h λw d h=>?_)));refine Ct w [0,2,3,4] [4,9] (λw=>[(100,.bool w)]) (λ_=>[(2,.cells 264 [.map 3])]) Zf ?_ (λenv H g=>?_)
 .refine G0 4 Z (Is 78 d Z (λT d=>?_) (λT d=>?_))
  .refine Go 2 Z (Bd d λaj V d=>?_);refine vX (I aj) (Y9 (ev:=(λx=>A.int .i64 x)) (z0:=0) (k:=m.Extra) (l:=i) YQ V underlying264 zeroValue3 Eo) ?_ (gT Z);refine Go 2 Z (Is 83 d Z (λW d=>?_) (λW d=>?_))
   .exact Go 18 Z (Cl d [0,2,3,4])
   .refine Go 3 Z (Bd d λaq X d=>Iz X Z (Go 5 Z (Is 92 d Z (λY d=>?_) (λY d=>?_))))
    .exact Go 9 Z (Cl d [0,2,3,4])
    .refine Go 4 Z (Bd d λak aa d=>?_);refine vX (.bool ak) (Y9 (ev:=A.bool) (z0:=false) (k:=({from_:=m.Extra,to_:=m.Extra:Uh})) (l:=y) QeA aa underlying152 zeroValue4 ZR.bool) ?_ (gT Z);exact Go 4 Z (Cl d [0,2,3,4])
  .exact Go 23 Z (Cl d [0,2,3,4])
 refine Gx 1 Z (Ef g (Cn Z h (λab h=>?_) (λab h=>?_)))
 .exact Gc 7 Z (Rt h 6 [0])
 exact Gc 7 Z (Cz [2,3] h (k_ew _ _ _) Z λar al h=>Go 4 Z (Rt h 6 [0]))
def F_di(n:Nat)(a:Distance)(b:Course)(c:List (Uh×Bool)):Option Bool:=
  (F_az n b a c).bind λd=>some d
theorem k_di(n:Nat)(a:Distance)(b:Course)(d:List (Uh×Bool))(r:Bool)(h:F_di n a b d=some r):
    Csm prog 59 [.agg (Distance.c a),.ptr 0 0,.ptr 1 0] [.cells 33 (Course.c b),.cells 152 [.map 2],.map (Qi (λx=>A.agg (Uh.c x)) A.bool d)] (λr=>.bool r) r:=by
 refine Qb func59 Z Z Z ?_;exact G0 11 Z (Cz [2] h (k_az _ _ _ _) Z λf e h=>Go 4 Z (Rt h 4 [0,1,2]))
def F_ev(n:Nat)(a:Distance)(b:Course)(c:List (Uh×Bool)):Option Bool:=
  (F_di n a b c).bind λd=>some (!d)
theorem k_ev(n:Nat)(a:Distance)(b:Course)(d:List (Uh×Bool))(r:Bool)(h:F_ev n a b d=some r):
    Csm prog 140 [.agg (Distance.c a),.ptr 0 0] [.cells 157 [.fn (.func 59) [] [.ptr 1 0,.ptr 2 0]],.cells 33 (Course.c b),.cells 152 [.map 3],.map (Qi (λx=>A.agg (Uh.c x)) A.bool d)] (λr=>.bool r) r:=by
 refine Qb func140 Z Z Z ?_;exact G0 10 Z (Cz [1,2,3] h (k_di _ _ _ _) Z λf e h=>Go 5 Z (Rt h 3 [0,1,2,3]))
def F_in(n:Nat)(b:List Distance)(e:Course)(f:List (Uh×Bool))(a:Int):Option (Ctl Int (Ctl Unit Int)):=
  (bif decide (a<(b.length:Int))then(idx b a).bind λc=>(F_ev n c e f).bind λd=>(bif d then some (.done (.done a))else some (.cont (IntKind.i64.wrap (a+1))))else some (.done (.cont ())))
def F_fk(n:Nat)(c:List Distance)(d:Course)(e:List (Uh×Bool)):Option Int:=
  (iter (F_in n c d e) n 0:Option (Ctl Unit Int)).bind λb=>match b with|.cont a=>(some (-1))|.done a=>some a
theorem k_fk(n:Nat)(d:List Distance)(a:Course)(b:List (Uh×Bool))(r:Int)(h:F_fk n d a b=some r):
    Csm prog 210 [.rsl 5 (List.map Distance.c d),.fn (.func 140) [] [.ptr 0 0]] [.cells 157 [.fn (.func 59) [] [.ptr 1 0,.ptr 2 0]],.cells 33 (Course.c a),.cells 152 [.map 3],.map (Qi (λx=>A.agg (Uh.c x)) A.bool b)] (λr=>I r) r:=
 Yp (el:=λx=>.agg (Distance.c x)) (g:=λx=>F_ev n x a b) func210 Z Z Z runUnderlying24 sizeOf112 (λ_ _ _ _ e f=>Qk e isAgg112 sizeOf112 f Pts.rp Z Z) call140 (λ_ _ h=>k_ev _ _ _ _ _ h) h
def F_eg(n:Nat)(a:List Distance)(b:Course)(c:List (Uh×Bool)):Option Bool:=
  (F_fk n a b c).bind λd=>some (decide (0<=d))
theorem k_eg(n:Nat)(a:List Distance)(b:Course)(d:List (Uh×Bool))(r:Bool)(h:F_eg n a b d=some r):
    Csm prog 139 [.rsl 5 (List.map Distance.c a),.fn (.func 140) [] [.ptr 0 0]] [.cells 157 [.fn (.func 59) [] [.ptr 1 0,.ptr 2 0]],.cells 33 (Course.c b),.cells 152 [.map 3],.map (Qi (λx=>A.agg (Uh.c x)) A.bool d)] (λr=>.bool r) r:=by
 refine Qb func139 Z Z Z ?_;exact G0 9 Z (Cz [0,1,2,3] h (k_fk _ _ _ _) Z λf e h=>Go 5 Z (Rt h 4 [0,1,2,3]))
def F_ax(n:Nat)(a:List Distance)(b:Course)(c:List (Uh×Bool)):Option Bool:=
  (F_eg n a b c).bind λd=>some (!d)
theorem k_ax(n:Nat)(a:List Distance)(b:Course)(d:List (Uh×Bool))(r:Bool)(h:F_ax n a b d=some r):
    Csm prog 58 [.rsl 5 (List.map Distance.c a),.fn (.func 59) [] [.ptr 0 0,.ptr 1 0]] [.cells 33 (Course.c b),.cells 152 [.map 2],.map (Qi (λx=>A.agg (Uh.c x)) A.bool d)] (λr=>.bool r) r:=by
 refine Qb func58 Z Z Z ?_;exact G0 10 Z (Cz [3,0,1,2] h (k_eg _ _ _ _) Z λf e h=>Go 5 Z (Rt h 4 [0,1,2]))
def F_hj(n:Nat)(c:Course)(a:(List (Uh×Bool))×Int):Option (Ctl ((List (Uh×Bool))×Int) (List (Uh×Bool))):=
  (bif decide (a.2<(c.Legs.length:Int))then(idx c.Legs a.2).bind λb=>(some (QE a.1 ({from_:=b.From,to_:=b.To:Uh}) true)).bind λd=>some (.cont (d,IntKind.i64.wrap (a.2+1)))else some (.done a.1))
def F_e(n:Nat)(a:Course):Option Int:=
  (F_ct n a).bind λe=>(bif (!e)then some 2 else(F_cz n a).bind λf=>(bif (!f)then some 70 else(F_aw n a).bind λg=>(bif (!g)then some 71 else(F_ba n a.Ties).bind λb=>(bif (b != 0)then some b else(iter (F_hj n a) n ([],0):Option (List (Uh×Bool))).bind λc=>(F_ax n a.Distances a c).bind λd=>(bif (!d)then some 72 else some 0)))))
theorem k_e(n:Nat)(p:Course)(r:Int)(h:F_e n p=some r):
    Csm prog 30 [.agg (Course.c p)] [] (λr=>I r) r:=by
 refine Qb func30 Z Z Z ?_;refine G0 11 Z (Cz [] h (k_ct _ _) Z λN B h=>Go 4 Z (Cn Z h (λq h=>?_) (λq h=>?_)))
 .exact Gc 8 Z (Rt h 2 [])
 refine Gc 3 Z (Cz [] h (k_cz _ _) Z λO E h=>Go 4 Z (Cn Z h (λs h=>?_) (λs h=>?_)))
 .exact Gc 8 Z (Rt h 2 [])
 refine Gc 3 Z (Cz [] h (k_aw _ _) Z λP F h=>Go 4 Z (Cn Z h (λt h=>?_) (λt h=>?_)))
 .exact Gc 8 Z (Rt h 2 [])
 refine Gc 8 Z (Cz [] h (k_ba _ _) Z λQ G h=>Go 9 Z (Cn Z h (λu h=>?_) (λu h=>?_)))
 .exact Gc 8 Z (Rt h 2 [])
 refine Gc 4 Z ?_;refine vH Ye ?_;refine FE Z (Go 9 Z (Lm Z (Go 3 Z (Bd h λd w h=>?_))));refine Ct d [0,1,2] [1] (λ_=>[(3,.ptr 1 0)]) (λd=>[(1,.cells 152 [.map 2]),(2,.map (Qi (λx=>A.agg (Uh.c x)) A.bool d))]) Zf ?_ (λenv H y=>?_)
 .refine G0 1 Z ?_;refine Lp [0,2,1] [1,3,26,27] (λb=>[(28,I b.2)]) (λb=>[(1,.cells 152 [.map 2]),(2,.map (Qi (λx=>A.agg (Uh.c x)) A.bool b.1))]) w Zf (Lr [0,2,1]) λb J a f=>?_;refine G0 6 Z (Jb Z a (λg a=>?_) (λg a=>?_))
  .refine Gc 2 Z (Qy a ?_);obtain rfl:=Oj f a;exact Gx 1 Z (QH (Lr [0,1,2]))
  refine Gc 6 Z (Bd a λe i a=>Iz i Z (Go 12 Z (Bd a λL j a=>?_)));refine vU (Yc (ev:=A.bool) (k:=({from_:=e.From,to_:=e.To:Uh})) (v:=true) (l:=b.1) QeA j Z underlying152) ?_;exact FE Z (Go 7 Z (Qv a (Lr [0,1,2])))
 refine Gx 1 Z (Ef y (Gc 6 Z (Cz [0,1,2] h (k_ax _ _ _ _) Z λM z h=>Go 3 Z (Cn Z h (λm h=>?_) (λm h=>?_)))))
 .exact Gc 7 Z (Rt h 2 [])
 exact Gc 8 Z (Rt h 2 [])
def F_ge(n:Nat)(a:Course)(b:List Fact):Option Unit:=
  some ()
theorem k_ge(n:Nat)(a:Course)(b:List Fact)(r:Unit)(h:F_ge n a b=some r):
    C prog 31 [.agg (Course.c a),.rsl 57 (List.map Fact.c b)] [] (RQ (λ_=>.fn (.func 61) [] [.ptr 0 0,.ptr 1 0]) (λ_=>[.cells 34 [.rsl 57 (List.map Fact.c b)],.cells 33 (Course.c a)]) r):=by
 refine Qb func31 Z Z Z ?_;refine G0 3 Z ?_;refine vH (OpH.box Z Z Z Z Z) ?_;exact FE Z (Go 10 Z (Rt h 4 [1,0]))
end Go.Sw
