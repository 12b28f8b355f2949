/- What the functions compute that ClocksExact reaches, and that their calls refine it (part 1 of 3). -/
import Derived.Test.YtgjcbknjiemdgaaGreatDoorW16ExB
set_option linter.unusedVariables false
set_option linter.unusedSimpArgs false
set_option maxRecDepth 100000
set_option maxHeartbeats 4000000
namespace Go.Sw
open Go.Proofs Tryz
def F_hd(n:Nat):Option Unit:=
  some ()
theorem k_hd(n:Nat)(r:Unit)(h:F_hd n=some r):
    C prog 32 [] [] (RQ (λ_=>.agg [.str [97],.osl 0 0 ([{Name:=[108,105,110,101],Kind:=1:Mat},{Name:=[116,117,114,110],Kind:=2:Mat}].length) 2,.rsl 4 (List.map Leg.c []),.rsl 5 (List.map Distance.c []),.rsl 2 (List.map Wave.c []),.rsl 4 (List.map Offence.c []),.rsl 3 (List.map Category.c []),.rsl 4 (List.map Prize.c []),.osl 1 0 ([{Uu with Kind:=1,By:=5:Step}].length) 8,I 0,I 0,I 0,I 5000,I 20,I 0,I 0]) (λ_=>[.row 119 2 (List.map Mat.c [{Name:=[108,105,110,101],Kind:=1:Mat},{Name:=[116,117,114,110],Kind:=2:Mat}]),.row 154 8 (List.map Step.enc [{Uu with Kind:=1,By:=5:Step}]),.cells 33 [.str [97],.osl 0 0 ([{Name:=[108,105,110,101],Kind:=1:Mat},{Name:=[116,117,114,110],Kind:=2:Mat}].length) 2,.rsl 4 (List.map Leg.c []),.rsl 5 (List.map Distance.c []),.rsl 2 (List.map Wave.c []),.rsl 4 (List.map Offence.c []),.rsl 3 (List.map Category.c []),.rsl 4 (List.map Prize.c []),.osl 1 0 ([{Uu with Kind:=1,By:=5:Step}].length) 8,I 0,I 0,I 0,I 5000,I 20,I 0,I 0]]) r):=by
 refine Qc func32 Z Z Z ?_;refine G0 9 Z ?_;refine vH (El (xs:=[.tmp 1,.tmp 2]) (es:=List.map Mat.c [{Name:=[108,105,110,101],Kind:=1:Mat},{Name:=[116,117,114,110],Kind:=2:Mat}]) el_22 Z Z Z Z Z ⟨Z,Z,trivial⟩ Z Z) ?_;refine FE Z (Go 1 Z ?_);refine vH (El (xs:=[.tmp 4]) (es:=List.map Step.enc [{Uu with Kind:=1,By:=5:Step}]) el_29 Z Z Z Z Z ⟨Z,trivial⟩ Z Z) ?_;refine FE Z (Go 6 Z ?_);obtain rfl:=Oi h;exact Rx [1,2,0] [0] Z (YY Z (Qj isAgg33 sizeOf33 Z Z Z)) ⟨Z,Z⟩
def F_gb(n:Nat)(e:List Part)(f:Int)(rec7:(List Part)->Int->Option (Int×Int))(a:Int×Int×Int):Option (Ctl (Int×Int×Int) (Int×Int)):=
  (bif decide (a.2.2<(e.length:Int))then((idx e a.2.2).bind λc=>((bif ((c.Parts.length:Int)==0)then some true else(bif (f==0)then some true else some (decide (256<a.2.1)))):Option Bool).bind λg=>(bif g then some (a.1,a.2.1)else(rec7 c.Parts (IntKind.i64.wrap (f-1))).bind λb=>some ((if a.1<IntKind.i64.wrap (b.1+1)then IntKind.i64.wrap (b.1+1)else a.1),IntKind.i64.wrap (a.2.1+b.2))):Option (Int×Int)).bind λd=>some (.cont (d.1,d.2,IntKind.i64.wrap (a.2.2+1)))else some (.done (a.1,a.2.1)))
def B_q(rec7:(List Part)->Int->Option (Int×Int))(n:Nat)(b:List Part)(c:Int):Option (Int×Int):=
  (iter (F_gb n b c rec7) n (0,(b.length:Int),0):Option (Int×Int)).bind λa=>some (a.1,a.2)
theorem Qdh(rec7:(List Part)->Int->Option (Int×Int))(l:∀(i:List Part) (j:Int) (r:Int×Int),rec7 i j=some r->Csm prog 106 [.rsl 3 (List.map Part.enc i),I j] [] (λr=>.tup [I r.1,I r.2]) r)(n:Nat)(i:List Part)(j:Int)(r:Int×Int)(h:B_q rec7 n i j=some r):
    Csm prog 106 [.rsl 3 (List.map Part.enc i),I j] [] (λr=>.tup [I r.1,I r.2]) r:=by
 refine Qc func106 Z Z Z ?_;refine G0 9 Z (Lm Z (Go 7 Z (Lm Z (Go 3 Z (Bd h λf x h=>?_)))));refine Ct f [] [] (λf=>[(4,I f.1),(5,I f.2)]) Ze Zf ?_ (λenv H e=>?_)
 .refine G0 1 Z ?_;refine Lp [] [1,12,13] (λd=>[(4,I d.1),(5,I d.2.1),(14,I d.2.2)]) Ze x Zf (Lr []) λd B c p=>?_;refine G0 6 Z (Ja Z c (λq c=>?_) (λq c=>?_))
  .refine Gc 2 Z (Qz c ?_);obtain rfl:=Oj p c;exact Gx 1 Z (QW (Lr []))
  refine Gc 3 Z (Bd c λg a c=>?_);refine Ct g [] [1,12,13,14] (λg=>[(4,I g.1),(5,I g.2)]) Ze Zf ?_ (λenv H e=>?_)
  .refine G0 3 Z (Bd a λy s a=>IzE s (YG y) Z (Go 7 Z (Bd a λk b a=>?_)));refine Ct k [0] [1,4,5,7,12,13,14] (λk=>[(29,.bool k)]) Ze Zf ?_ (λenv H e=>?_)
   .refine G0 3 Z (Lm Z (Go 2 Z (Is 22 b Z (λt b=>?_) (λt b=>?_))))
    .exact Go 8 Z (Cl b [0])
    .refine Go 4 Z (Is 26 b Z (λu b=>?_) (λu b=>?_))
     .exact Go 4 Z (Cl b [0])
     .exact Go 4 Z (Cl b [0])
   refine Gx 1 Z (Ef e (Cn Z a (λw a=>?_) (λw a=>?_)))
   .exact Gc 3 Z (Cl a [])
   refine Gc 8 Z (Cd [] a (l _ _) Z λm z a=>FE Z (Go 11 Z ?_));refine vX (I (if d.1<IntKind.i64.wrap (m.1+1)then IntKind.i64.wrap (m.1+1)else d.1)) (OpV.max Z Z Z Z) ?_;exact Go 7 Z (Cl a [])
  exact Gx 1 Z (Ef e (Gc 4 Z (Qv c (Lr []))))
 refine Gx 1 Z (Ef e (Gc 9 Z ?_));obtain rfl:=Oi h;exact R2 4 5 Z Z (Lr [])
def F_q:Nat->(List Part)->Int->Option (Int×Int)
  |0=>λ_ _=>none
  |n+1=>B_q (F_q n) n
theorem k_q(n:Nat):∀(a:List Part) (b:Int) (r:Int×Int),F_q n a b=some r->Csm prog 106 [.rsl 3 (List.map Part.enc a),I b] [] (λr=>.tup [I r.1,I r.2]) r:=by
  induction n with
  |zero=>intro a b r h;cases h
  |succ n ih=>intro a b r h;exact Qdh _ ih n a b r h
def F_hx(n:Nat)(d:Course)(a:Int):Option (Ctl Int (Ctl Unit Bool)):=
  (bif decide (a<(d.Distances.length:Int))then(idx d.Distances a).bind λb=>(F_q n b.Route 17).bind λc=>((bif decide (64<(b.Cutoffs.length:Int))then some true else(bif decide (16<c.1)then some true else some (decide (256<c.2)))):Option Bool).bind λe=>(bif e then some (.done (.done false))else some (.cont (IntKind.i64.wrap (a+1))))else some (.done (.cont ())))
def F_bu(n:Nat)(a:Course):Option Bool:=
  ((bif decide (40<(a.Mats.length:Int))then some true else(bif decide (512<(a.Legs.length:Int))then some true else(bif decide (8<(a.Distances.length:Int))then some true else(bif decide (32<(a.Waves.length:Int))then some true else(bif decide (32<(a.Offences.length:Int))then some true else(bif decide (32<(a.Categories.length:Int))then some true else some (decide (32<(a.Prizes.length:Int))))))))):Option Bool).bind λd=>(bif d then some false else(iter (F_hx n a) n 0:Option (Ctl Unit Bool)).bind λc=>match c with|.cont b=>(some true)|.done b=>some b)
theorem k_bu(n:Nat)(B:Course)(r:Bool)(h:F_bu n B=some r):
    Csm prog 68 [.agg (Course.c B)] [] (λr=>.bool r) r:=by
 refine Qc func68 Z Z Z ?_;refine G0 8 Z (Bd h λk d h=>?_);refine Ct k [0] [1] (λk=>[(46,.bool k)]) Ze Zf ?_ (λenv H f=>?_)
 .refine G0 3 Z (Lm Z (Go 2 Z (Is 11 d Z (λE d=>?_) (λE d=>?_))))
  .exact Go 36 Z (Cl d [0])
  .refine Go 2 Z (Lm Z (Go 3 Z (Is 17 d Z (λl d=>?_) (λl d=>?_))))
   .exact Go 30 Z (Cl d [0])
   .refine Go 2 Z (Lm Z (Go 3 Z (Is 23 d Z (λm d=>?_) (λm d=>?_))))
    .exact Go 24 Z (Cl d [0])
    .refine Go 2 Z (Lm Z (Go 3 Z (Is 29 d Z (λp d=>?_) (λp d=>?_))))
     .exact Go 18 Z (Cl d [0])
     .refine Go 2 Z (Lm Z (Go 3 Z (Is 35 d Z (λq d=>?_) (λq d=>?_))))
      .exact Go 12 Z (Cl d [0])
      .refine Go 2 Z (Lm Z (Go 3 Z (Is 41 d Z (λs d=>?_) (λs d=>?_))))
       .exact Go 6 Z (Cl d [0])
       .exact Go 2 Z (Lm Z (Go 3 Z (Cl d [0])))
 refine Gx 1 Z (Ef f (Cn Z h (λt h=>?_) (λt h=>?_)))
 .exact Gc 7 Z (Rt h 2 [])
 refine Gc 7 Z (Lm Z (Go 3 Z (Bd h λF G h=>?_)));refine CtE (b:=F) [] [] Ze Ze Zf ?_ (λL env H J f=>?_)
 .refine G0 1 Z ?_;refine Lp [] [48,49] (λj=>[(50,I j)]) Ze G Zf (Lr []) λj N a g=>?_;refine G0 6 Z (Ja Z a (λu a=>?_) (λu a=>?_))
  .refine Gc 2 Z (Qz a ?_);obtain rfl:=Oj g a;exact Gx 1 Z (QD Z (Lr []))
  refine Gc 6 Z (Bd a λO w a=>Iz w Z (Go 9 Z (Cd [] a (k_q _ _ _) Z λP M a=>FE Z (Go 8 Z (Bd a λi e a=>?_)))));refine Ct i [] [48,49,50] (λi=>[(71,.bool i)]) Ze Zf ?_ (λenv H f=>?_)
  .refine G0 3 Z (Lm Z (Go 2 Z (Is 64 e Z (λx e=>?_) (λx e=>?_))))
   .exact Go 8 Z (Cl e [])
   .refine Go 4 Z (Is 68 e Z (λy e=>?_) (λy e=>?_))
    .exact Go 4 Z (Cl e [])
    .exact Go 4 Z (Cl e [])
  refine Gx 1 Z (Ef f (Cn Z a (λz a=>?_) (λz a=>?_)))
  .refine Gc 8 Z (Q4 a ?_);obtain rfl:=Oj g a;exact Gx 1 Z (QR (Gx 1 Z (Rt h 2 [])))
  exact Gc 7 Z (Qv a (Lr []))
 subst J;exact Gx 1 Z (Ef f (Gc 6 Z (Rt h 2 [])))
def F_ev(n:Nat)(a:(List Int)×Int):Option (Ctl ((List Int)×Int) (List Int)):=
  (bif decide (a.2<=122)then(Qd8 256 a.1 a.2).bind λd=>(QaX a.1 a.2 2).bind λb=>(Qd8 256 b (IntKind.u8.wrap (a.2-32))).bind λe=>(QaX b (IntKind.u8.wrap (a.2-32)) 2).bind λc=>some (.cont (c,IntKind.u8.wrap (a.2+1)))else some (.done a.1))
def F_gm(n:Nat)(a:(List Int)×Int):Option (Ctl ((List Int)×Int) (List Int)):=
  (bif decide (a.2<=57)then(Qd8 256 a.1 a.2).bind λc=>(QaX a.1 a.2 3).bind λb=>some (.cont (b,IntKind.u8.wrap (a.2+1)))else some (.done a.1))
def F_hm(n:Nat)(a:(List Int)×Int):Option (Ctl ((List Int)×Int) (List Int)):=
  (bif decide (a.2<([123,125,40,41,91,93,59,44,61,60,62].length:Int))then(idx [123,125,40,41,91,93,59,44,61,60,62] a.2).bind λb=>(Qd8 256 a.1 b).bind λd=>(QaX a.1 b 4).bind λc=>some (.cont (c,IntKind.i64.wrap (a.2+1)))else some (.done a.1))
def F_hz(n:Nat)(a:(List Int)×Int):Option (Ctl ((List Int)×Int) (List Int)):=
  (bif decide (a.2<(([32,9,10,13].length):Int))then(idx [32,9,10,13] a.2).bind λb=>(Qd8 256 a.1 b).bind λd=>(QaX a.1 b 1).bind λc=>some (.cont (c,IntKind.i64.wrap (a.2+1)))else some (.done a.1))
def F_cv(n:Nat):Option (List Int):=
  (iter (F_ev n) n (List.replicate 256 0,97):Option (List Int)).bind λb=>(iter (F_gm n) n (b,48):Option (List Int)).bind λc=>(iter (F_hm n) n (c,0):Option (List Int)).bind λd=>(iter (F_hz n) n (d,0):Option (List Int)).bind λa=>(arr 256 a).bind λe=>(arr 256 a).bind λg=>(arr 256 e).bind λf=>some f
theorem k_cv(n:Nat)(r:List Int)(h:F_cv n=some r):
    C prog 267 [] [] (RQ (λr=>.agg (List.flatten (List.map (Qe .u8) r))) (λr=>[.row 358 1 (List.map (Qe .u8) r)]) r):=by
 refine Qc func267 Z Z Z ?_;refine G0 2 Z ?_;refine vH (Y0 (n:=256) (k:=1) (e:=(Qe .u8)) (z:=0) zeroValue358 (by kernel_rfl) (by kernel_rfl) (by kernel_rfl) Z) ?_;refine FE Z (Go 8 Z (Bd h λt af h=>?_));refine Ct t [0] [0] Ze (λt=>[(0,.row 358 1 (List.map (Qe .u8) t))]) Zf ?_ (λenv H g=>?_)
 .refine G0 1 Z ?_;refine Lp [0] [0] (λi=>[(1,.int .u8 i.2)]) (λi=>[(0,.row 358 1 (List.map (Qe .u8) i.1))]) af Zf (Lr [0]) λi an a M=>?_;refine G0 7 Z (Ja Z a (λN a=>?_) (λN a=>?_))
  .refine Gc 2 Z (Qz a ?_);obtain rfl:=Oj M a;exact Gx 1 Z (QW (Lr [0]))
  refine Gc 8 Z (Bd a λao u a=>?_);refine vX (.ptr 0 (Int.toNat i.2*1)) (Qah (n:=256) (k:=1) (l:=i.1) u runUnderlying358 sizeOf5 Z) ?_;refine Bd a λag O a=>?_;refine vU (YP (e:=(Qe .u8)) (k:=1) (f:=0) (QaU u).2 O sizeOf5 Z Z) ?_;refine FE Z (Bd a λaq w a=>?_);refine vX (.ptr 0 (Int.toNat (IntKind.u8.wrap (i.2-32))*1)) (Qah (n:=256) (k:=1) (l:=ag) w runUnderlying358 sizeOf5 Z) ?_;refine Bd a λar P a=>?_;refine vU (YP (e:=(Qe .u8)) (k:=1) (f:=0) (QaU w).2 P sizeOf5 Z Z) ?_;exact FE Z (Go 8 Z (Qv a (Lr [0])))
 refine Gx 1 Z (Ef g (Gc 6 Z (Bd h λx ah h=>?_)));refine Ct x [0] [0] Ze (λx=>[(0,.row 358 1 (List.map (Qe .u8) x))]) Zf ?_ (λenv H g=>?_)
 .refine G0 1 Z ?_;refine Lp [0] [0] (λj=>[(2,.int .u8 j.2)]) (λj=>[(0,.row 358 1 (List.map (Qe .u8) j.1))]) ah Zf (Lr [0]) λj au d Q=>?_;refine G0 7 Z (Ja Z d (λR d=>?_) (λR d=>?_))
  .refine Gc 2 Z (Qz d ?_);obtain rfl:=Oj Q d;exact Gx 1 Z (QW (Lr [0]))
  refine Gc 6 Z (Bd d λav y d=>?_);refine vX (.ptr 0 (Int.toNat j.2*1)) (Qah (n:=256) (k:=1) (l:=j.1) y runUnderlying358 sizeOf5 Z) ?_;refine Bd d λaw T d=>?_;refine vU (YP (e:=(Qe .u8)) (k:=1) (f:=0) (QaU y).2 T sizeOf5 Z Z) ?_;exact FE Z (Go 8 Z (Qv d (Lr [0])))
 refine Gx 1 Z (Ef g (Gc 3 Z ?_));refine vH (El (xs:=[.const (.int .u8 123),.const (.int .u8 125),.const (.int .u8 40),.const (.int .u8 41),.const (.int .u8 91),.const (.int .u8 93),.const (.int .u8 59),.const (.int .u8 44),.const (.int .u8 61),.const (.int .u8 60),.const (.int .u8 62)]) (es:=List.map (Qe .u8) [123,125,40,41,91,93,59,44,61,60,62]) Jh Z Z Z Z Z ⟨Z,Z,Z,Z,Z,Z,Z,Z,Z,Z,Z,trivial⟩ Z Z) ?_;refine FE Z ?_;refine vH (QkZ (es:=List.map (Qe .u8) [123,125,40,41,91,93,59,44,61,60,62]) underlying249 underlying5 (X2 ..) Z) ?_;refine FE Z (Lm Z (Go 3 Z (Bd h λB ai h=>?_)));refine Ct B [0] [0] Ze (λB=>[(0,.row 358 1 (List.map (Qe .u8) B))]) Zf ?_ (λenv H g=>?_)
 .refine G0 1 Z ?_;refine Lp [0] [0,23,24] (λp=>[(25,I p.2)]) (λp=>[(0,.row 358 1 (List.map (Qe .u8) p.1))]) ai Zf (Lr [0]) λp ax b V=>?_;refine G0 6 Z (Ja Z b (λW b=>?_) (λW b=>?_))
  .refine Gc 2 Z (Qz b ?_);obtain rfl:=Oj V b;exact Gx 1 Z (QW (Lr [0]))
  refine Gc 6 Z (Bd b λaj X b=>Iz X Z (Go 6 Z (Bd b λay E b=>?_)));refine vX (.ptr 0 (Int.toNat aj*1)) (Qah (n:=256) (k:=1) (l:=p.1) E runUnderlying358 sizeOf5 Z) ?_;refine Bd b λaz Y b=>?_;refine vU (YP (e:=(Qe .u8)) (k:=1) (f:=0) (QaU E).2 Y sizeOf5 Z Z) ?_;exact FE Z (Go 7 Z (Qv b (Lr [0])))
 refine Gx 1 Z (Ef g (Gc 3 Z ?_));refine vH (El (xs:=[.const (.int .u8 32),.const (.int .u8 9),.const (.int .u8 10),.const (.int .u8 13)]) (es:=List.map (Qe .u8) [32,9,10,13]) Jh Z Z Z Z Z ⟨Z,Z,Z,Z,trivial⟩ Z Z) ?_;refine FE Z (Go 4 Z (Bd h λs ak h=>?_));refine Ct s [0] [0] Ze (λs=>[(0,.row 358 1 (List.map (Qe .u8) s))]) Zf ?_ (λenv H g=>?_)
 .refine G0 1 Z ?_;refine Lp [0,1] [0,32,33] (λm=>[(34,I m.2)]) (λm=>[(0,.row 358 1 (List.map (Qe .u8) m.1))]) ak Zf (Lr [0,1]) λm ba c aa=>?_;refine G0 6 Z (Ja Z c (λab c=>?_) (λab c=>?_))
  .refine Gc 2 Z (Qz c ?_);obtain rfl:=Oj aa c;exact Gx 1 Z (QW (Lr [0]))
  refine Gc 6 Z (Bd c λL F c=>?_);refine vX (.ptr 1 (Int.toNat m.2*1)) (QZ F Z runUnderlying249 sizeOf5) ?_;refine vX (.int .u8 L) (Ey Z isAgg5 Z (Qq F)) ?_;refine Go 5 Z (Bd c λbb G c=>?_);refine vX (.ptr 0 (Int.toNat L*1)) (Qah (n:=256) (k:=1) (l:=m.1) G runUnderlying358 sizeOf5 Z) ?_;refine Bd c λbc ac c=>?_;refine vU (YP (e:=(Qe .u8)) (k:=1) (f:=0) (QaU G).2 ac sizeOf5 Z Z) ?_;exact FE Z (Go 7 Z (Qv c (Lr [0,1])))
 refine Gx 1 Z (Ef g (Gc 2 Z (Bd h λal ad h=>?_)));refine vX (.agg (List.flatten (List.map (Qe .u8) al))) (Qii (e:=(Qe .u8)) ad Zf Z isAgg358 sizeOf358) ?_;refine Bd h λbd ae h=>Bd h λam q h=>?_;obtain⟨J,rfl⟩:=Y9 ae;refine vU (YZ (e:=(Qe .u8)) (l:=s) (l':=am) J (Qbo q) Zf Z sizeOf358 Zf Zf (congrArg (λl=>List.flatten (List.map (Qe .u8) l)) (Y9 q).2.symm)) ?_;refine FE Z (Go 3 Z ?_);obtain rfl:=Oi h;exact Rx [0] [0] Z (YY Z (QkQ (e:=(Qe .u8)) (Qbo q) Zf Z isAgg358 sizeOf358)) ⟨Z,Z⟩
def F_hy(n:Nat)(c:List UInt8)(g:List Int)(a:Int):Option (Ctl Int (Ctl Unit Bool)):=
  (bif decide (a<(c.length:Int))then(idx c a).bind λd=>(Qd8 256 g (d.toNat:Int)).bind λb=>((bif (b != 2)then(bif (a==0)then some true else(bif (b != 3)then(idx c a).bind λe=>some ((e.toNat:Int) != 95)else some false))else some false):Option Bool).bind λf=>(bif f then some (.done (.done false))else some (.cont (IntKind.i64.wrap (a+1))))else some (.done (.cont ())))
def F_dd(n:Nat)(b:List UInt8):Option Bool:=
  (F_cv n).bind λd=>(arr 256 (List.replicate 256 0)).bind λf=>(arr 256 d).bind λe=>(iter (F_hy n b e) n 0:Option (Ctl Unit Bool)).bind λc=>match c with|.cont a=>(some (b != []))|.done a=>some a
theorem k_dd(n:Nat)(q:List UInt8)(r:Bool)(h:F_dd n q=some r):
    Csm prog 239 [.str q] [] (λr=>.bool r) r:=by
 refine Qc func239 Z Z Z ?_;refine G0 7 Z (Bd h λG J h=>?_);refine Qs [] (OpC.fn call267 Z Z Z) (k_cv _ _ J) ?_;rintro _ _ ⟨rfl,rfl⟩;refine Qpo (x:=(.agg (List.flatten (List.map (Qe .u8) G)))) (H:=[.row 358 1 (List.map (Qe .u8) G)]) (Qnp (e:=(Qe .u8)) Zf _ _) Z ?_;refine vH (Y0 (n:=256) (k:=1) (e:=(Qe .u8)) (z:=0) zeroValue358 (by kernel_rfl) (by kernel_rfl) (by kernel_rfl) Z) ?_;refine FE Z (Bd h λW L h=>Bd h λM j h=>?_);obtain⟨s,rfl⟩:=Y9 L;refine vU (YZ (e:=(Qe .u8)) (l:=(List.replicate 256 0)) (l':=M) s (Qbo j) Zf Z sizeOf358 Zf Zf (congrArg (λl=>List.flatten (List.map (Qe .u8) l)) (Y9 j).2.symm)) ?_;refine FE Z (Go 6 Z ?_);refine vX (I (q.length:Int)) (QaN Z Z runUnderlying9 Z) ?_;refine Go 3 Z (Bd h λN O h=>?_);refine CtE (b:=N) [] [0] Ze Ze Zf ?_ (λT env H P d=>?_)
 .refine G0 1 Z ?_;refine Lp [1] [0,3,8] (λm=>[(9,I m)]) Ze O Zf (Lr [1]) λm V a f=>?_;refine G0 6 Z (Ja Z a (λt a=>?_) (λt a=>?_))
  .refine Gc 2 Z (Qz a ?_);obtain rfl:=Oj f a;exact Gx 1 Z (QD Z (Lr []))
  refine Gc 14 Z (Bd a λp u a=>?_);refine vX (.int .u8 (p.toNat:Int)) (QaM u runUnderlying9) ?_;refine Bd a λQ g a=>?_;refine vX (.ptr 0 (Int.toNat (p.toNat:Int)*1)) (Qah (n:=256) (k:=1) (l:=M) g runUnderlying358 sizeOf5 Z) ?_;refine vX (.int .u8 Q) (Ey Z isAgg5 Z (Qq (QaU g).2)) ?_;refine Go 4 Z (Bd a λi c a=>?_);refine Ct i [0] [0,3,8,9] (λi=>[(32,.bool i)]) Ze Zf ?_ (λenv H d=>?_)
  .refine G0 4 Z (Is 19 c Z (λw c=>?_) (λw c=>?_))
   .refine Go 3 Z (Is 22 c Z (λy c=>?_) (λy c=>?_))
    .exact Go 11 Z (Cl c [0])
    .refine Go 3 Z (Is 25 c Z (λB c=>?_) (λB c=>?_))
     .refine Go 2 Z (Bd c λR E c=>?_);refine vX (.int .u8 (R.toNat:Int)) (QaM E runUnderlying9) ?_ (gT Z);exact Go 5 Z (Cl c [0])
     .exact Go 8 Z (Cl c [0])
   .exact Go 14 Z (Cl c [0])
  refine Gx 1 Z (Ef d (Cn Z a (λF a=>?_) (λF a=>?_)))
  .refine Gc 8 Z (Q4 a ?_);obtain rfl:=Oj f a;exact Gx 1 Z (QR (Gx 1 Z (Rt h 2 [])))
  exact Gc 7 Z (Qv a (Lr [0]))
 subst P;exact Gx 1 Z (Ef d (Gc 8 Z (Rt h 2 [])))
def F_bq(n:Nat)(a:List UInt8):Option Bool:=
  ((F_dd n a).bind λe=>(bif e then(cat [32] a).bind λb=>(cat b [32]).bind λc=>(QeZ [32,99,111,117,114,115,101,32,109,97,116,115,32,115,116,97,114,116,32,112,97,115,115,32,101,110,100,32,108,101,103,32,116,111,32,100,105,115,116,97,110,99,101,32,103,117,110,32,99,104,105,112,32,115,108,111,116,32,108,97,112,115,32,108,97,112,32,99,117,116,111,102,102,32,101,120,116,114,97,32,119,97,118,101,32,111,102,102,101,110,99,101,32,111,117,116,32,99,97,116,101,103,111,114,121,32,112,114,105,122,101,32,97,108,108,32,116,105,101,115,32,105,102,32,101,108,115,101,32,97,110,100,32,111,114,32,110,111,116,32,111,108,100,101,114,32,121,111,117,110,103,101,114,32,98,105,98,32,100,114,97,119,32,102,105,101,108,100,32,115,104,111,114,116,32,102,97,117,108,116,115,32,109,105,115,115,101,115,32,115,116,114,97,121,115,32,119,105,110,100,111,119,32,114,101,115,105,100,117,97,108,32,100,114,105,102,116,32,112,114,111,116,101,115,116,32,102,101,101,32,100,101,97,100,108,105,110,101,32] c).bind λd=>some d else some false):Option Bool).bind λf=>some f
theorem k_bq(n:Nat)(f:List UInt8)(r:Bool)(h:F_bq n f=some r):
    Csm prog 180 [.str f] [] (λr=>.bool r) r:=by
 refine Qc func180 Z Z Z ?_;refine G0 6 Z (Bd h λb a h=>?_);refine Ct b [] [] (λb=>[(2,.bool b)]) Ze Zf ?_ (λenv H g=>?_)
 .refine G0 2 Z (Cz [] a (k_dd _ _) Z λp l a=>Go 1 Z (Is 5 a Z (λi a=>?_) (λi a=>?_)))
  .refine Go 1 Z (Bd a λj c a=>?_);refine vX (.str j) (Qfr c) ?_ (gT Z);refine Bd a λk d a=>?_;refine vX (.str k) (Qfr d) ?_ (gT Z);refine Bd a λm e a=>?_;refine Qs [] (OpC.fn call240 Z Z Z) (C.contains Qdn Z e) ?_ (hg:=(gT Z));rintro _ _ ⟨rfl,rfl⟩;exact FE Z (Go 3 Z (Cl a []))
  .exact Go 7 Z (Cl a [])
 exact Gx 1 Z (Ef g (Gc 1 Z (Rt h 2 [])))
def F_gr(n:Nat)(c:List UInt8)(b:Int):Option (Ctl Int (Ctl Unit Bool)):=
  (bif decide (b<(c.length:Int))then(idx c b).bind λa=>((bif decide ((a.toNat:Int)<97)then(bif decide ((a.toNat:Int)<48)then some ((a.toNat:Int) != 95)else(bif decide (57<(a.toNat:Int))then some ((a.toNat:Int) != 95)else some false))else(bif decide (122<(a.toNat:Int))then(bif decide ((a.toNat:Int)<48)then some ((a.toNat:Int) != 95)else(bif decide (57<(a.toNat:Int))then some ((a.toNat:Int) != 95)else some false))else some false)):Option Bool).bind λd=>(bif d then some (.done (.done false))else some (.cont (IntKind.i64.wrap (b+1))))else some (.done (.cont ())))
def F_d(n:Nat)(a:List UInt8):Option Bool:=
  ((bif decide ((a.length:Int)<1)then some true else(bif decide (24<(a.length:Int))then some true else(idx a 0).bind λc=>(bif decide ((c.toNat:Int)<97)then some true else(idx a 0).bind λd=>some (decide (122<(d.toNat:Int)))))):Option Bool).bind λg=>(bif g then some false else(iter (F_gr n a) n 0:Option (Ctl Unit Bool)).bind λe=>match e with|.cont b=>((F_bq n a).bind λf=>some (!f))|.done b=>some b)
theorem k_d(n:Nat)(f:List UInt8)(r:Bool)(h:F_d n f=some r):
    Csm prog 107 [.str f] [] (λr=>.bool r) r:=by
 refine Qc func107 Z Z Z ?_;refine G0 7 Z (Bd h λk d h=>?_);refine Ct k [] [0] (λk=>[(22,.bool k)]) Ze Zf ?_ (λenv H e=>?_)
 .refine G0 2 Z ?_;refine vX (I (f.length:Int)) (QaN Z Z runUnderlying9 Z) ?_;refine Go 2 Z (Is 8 d Z (λF d=>?_) (λF d=>?_))
  .exact Go 15 Z (Cl d [])
  .refine Go 1 Z ?_;refine vX (I (f.length:Int)) (QaN Z Z runUnderlying9 Z) ?_ (gT Z);refine Go 3 Z (Is 13 d Z (λG d=>?_) (λG d=>?_))
   .exact Go 10 Z (Cl d [])
   .refine Go 1 Z (Bd d λJ l d=>?_);refine vX (.int .u8 (J.toNat:Int)) (QaM l runUnderlying9) ?_ (gT Z);refine Go 3 Z (Is 18 d Z (λm d=>?_) (λm d=>?_))
    .exact Go 5 Z (Cl d [])
    .refine Go 1 Z (Bd d λL p d=>?_);refine vX (.int .u8 (L.toNat:Int)) (QaM p runUnderlying9) ?_ (gT Z);exact Go 3 Z (Cl d [])
 refine Gx 1 Z (Ef e (Cn Z h (λq h=>?_) (λq h=>?_)))
 .exact Gc 7 Z (Rt h 2 [])
 refine Gc 6 Z ?_;refine vX (I (f.length:Int)) (QaN Z Z runUnderlying9 Z) ?_;refine Go 3 Z (Bd h λM N h=>?_);refine CtE (b:=M) [] [0] Ze Ze Zf ?_ (λQ env H O e=>?_)
 .refine G0 1 Z ?_;refine Lp [] [0,24] (λj=>[(25,I j)]) Ze N Zf (Lr []) λj T c g=>?_;refine G0 6 Z (Ja Z c (λs c=>?_) (λs c=>?_))
  .refine Gc 2 Z (Qz c ?_);obtain rfl:=Oj g c;exact Gx 1 Z (QD Z (Lr []))
  refine Gc 14 Z (Bd c λP t c=>?_);refine vX (.int .u8 (P.toNat:Int)) (QaM t runUnderlying9) ?_;refine Go 4 Z (Bd c λi a c=>?_);refine Ct i [] [0,24,25] (λi=>[(48,.bool i)]) Ze Zf ?_ (λenv H e=>?_)
  .refine G0 4 Z (Is 33 a Z (λu a=>?_) (λu a=>?_))
   .refine Go 7 Z (Is 40 a Z (λw a=>?_) (λw a=>?_))
    .exact Go 9 Z (Cl a [])
    .refine Go 5 Z (Is 45 a Z (λx a=>?_) (λx a=>?_))
     .exact Go 4 Z (Cl a [])
     .exact Go 4 Z (Cl a [])
   .refine Go 4 Z (Is 37 a Z (λy a=>?_) (λy a=>?_))
    .refine Go 3 Z (Is 40 a Z (λz a=>?_) (λz a=>?_))
     .exact Go 9 Z (Cl a [])
     .refine Go 5 Z (Is 45 a Z (λB a=>?_) (λB a=>?_))
      .exact Go 4 Z (Cl a [])
      .exact Go 4 Z (Cl a [])
    .exact Go 12 Z (Cl a [])
  refine Gx 1 Z (Ef e (Cn Z c (λE c=>?_) (λE c=>?_)))
  .refine Gc 8 Z (Q4 c ?_);obtain rfl:=Oj g c;exact Gx 1 Z (QR (Gx 1 Z (Rt h 2 [])))
  exact Gc 7 Z (Qv c (Lr []))
 subst O;exact Gx 1 Z (Ef e (Gc 3 Z (Cz [] h (k_bq _ _) Z λV R h=>Go 5 Z (Rt h 2 []))))
def F_en(n:Nat)(a:Mat):Option Unit:=
  some ()
theorem k_en(n:Nat)(a:Mat)(r:Unit)(h:F_en n a=some r):
    Csm prog 109 [.agg (Mat.c a)] [] (λ_=>.str a.Name) r:=by
 refine Qc func109 Z Z Z ?_;exact G0 14 Z (Rt h 2 [])
def F_if(n:Nat)(c:List Mat)(a:(List (List UInt8×Bool))×Int):Option (Ctl ((List (List UInt8×Bool))×Int) (Ctl Unit Bool)):=
  (bif decide (a.2<(c.length:Int))then(idx c a.2).bind λb=>(F_en n b).bind λh=>((F_d n b.Name).bind λd=>(bif (!d)then some true else(some (QP a.1 b.Name false)).bind λe=>some e):Option Bool).bind λf=>(bif f then some (.done (.done false))else(some (Yj a.1 b.Name true)).bind λg=>some (.cont (g,IntKind.i64.wrap (a.2+1))))else some (.done (.cont ())))
def F_bf(n:Nat)(c:List Mat):Option Bool:=
  (iter (F_if n c) n ([],0):Option (Ctl Unit Bool)).bind λb=>match b with|.cont a=>(some true)|.done a=>some a
theorem k_bf(n:Nat)(w:List Mat)(r:Bool)(h:F_bf n w=some r):
    Csm prog 108 [.rsl 2 (List.map Mat.c w),.fn (.func 109) [] []] [] (λr=>.bool r) r:=by
 refine Qc func108 Z Z Z ?_;refine G0 7 Z ?_;refine vH Yt ?_;refine FE Z (Go 7 Z (Lm Z (Go 3 Z (Bd h λx y h=>?_))));refine CtE (b:=x) [] [] Ze Ze Zf ?_ (λE env H z f=>?_)
 .refine G0 1 Z ?_;refine Lp [0] [1,5,10,11] (λe=>[(12,I e.2)]) (λe=>[(0,.map (QV A.str A.bool e.1))]) y Zf (Lr [0]) λe J a g=>?_;refine G0 6 Z (Ja Z a (λm a=>?_) (λm a=>?_))
  .refine Gc 2 Z (Qz a ?_);obtain rfl:=Oj g a;exact Gx 1 Z (QD Z (Lr []))
  refine Gc 6 Z (Bd a λj p a=>Iz p Z (Go 9 Z (Cz [] a (k_en _ _) Z λL F a=>Go 5 Z (Bd a λi d a=>?_))));refine Ct i [0] [1,5,8,10,11,12] (λi=>[(26,.bool i)]) Ze Zf ?_ (λenv H f=>?_)
  .refine G0 2 Z (Cz [] d (k_d _ _) Z λM G d=>Go 2 Z (Is 22 d Z (λq d=>?_) (λq d=>?_)))
   .exact Go 5 Z (Cl d [0])
   .refine Go 2 Z (Bd d λB s d=>?_);refine vX (.bool B) (YO (ev:=A.bool) (z0:=false) (k:=j.Name) (l:=e.1) Qcb s underlying272 zeroValue4 ZR.bool) ?_ (gT Z);exact Go 2 Z (Cl d [0])
  refine Gx 1 Z (Ef f (Cn Z a (λt a=>?_) (λt a=>?_)))
  .refine Gc 9 Z (Q4 a ?_);obtain rfl:=Oj g a;exact Gx 1 Z (QR (Gx 1 Z (Rt h 4 [])))
  refine Gc 5 Z (Bd a λN u a=>?_);refine vU (YQ (ev:=A.bool) (k:=j.Name) (v:=true) (l:=e.1) Qcb u Z underlying272) ?_;exact FE Z (Go 7 Z (Qv a (Lr [0])))
 subst z;exact Gx 1 Z (Ef f (Gc 6 Z (Rt h 4 [])))
def F_fs(n:Nat)(a:Distance):Option Unit:=
  some ()
theorem k_fs(n:Nat)(a:Distance)(r:Unit)(h:F_fs n a=some r):
    Csm prog 111 [.agg (Distance.c a)] [] (λ_=>.str a.Name) r:=by
 refine Qc func111 Z Z Z ?_;exact G0 14 Z (Rt h 2 [])
def F_iy(n:Nat)(c:List Distance)(a:(List (List UInt8×Bool))×Int):Option (Ctl ((List (List UInt8×Bool))×Int) (Ctl Unit Bool)):=
  (bif decide (a.2<(c.length:Int))then(idx c a.2).bind λb=>(F_fs n b).bind λh=>((F_d n b.Name).bind λd=>(bif (!d)then some true else(some (QP a.1 b.Name false)).bind λe=>some e):Option Bool).bind λf=>(bif f then some (.done (.done false))else(some (Yj a.1 b.Name true)).bind λg=>some (.cont (g,IntKind.i64.wrap (a.2+1))))else some (.done (.cont ())))
def F_ck(n:Nat)(c:List Distance):Option Bool:=
  (iter (F_iy n c) n ([],0):Option (Ctl Unit Bool)).bind λb=>match b with|.cont a=>(some true)|.done a=>some a
theorem k_ck(n:Nat)(w:List Distance)(r:Bool)(h:F_ck n w=some r):
    Csm prog 110 [.rsl 5 (List.map Distance.c w),.fn (.func 111) [] []] [] (λr=>.bool r) r:=by
 refine Qc func110 Z Z Z ?_;refine G0 7 Z ?_;refine vH Yt ?_;refine FE Z (Go 7 Z (Lm Z (Go 3 Z (Bd h λx y h=>?_))));refine CtE (b:=x) [] [] Ze Ze Zf ?_ (λE env H z f=>?_)
 .refine G0 1 Z ?_;refine Lp [0] [1,5,10,11] (λe=>[(12,I e.2)]) (λe=>[(0,.map (QV A.str A.bool e.1))]) y Zf (Lr [0]) λe J a g=>?_;refine G0 6 Z (Ja Z a (λm a=>?_) (λm a=>?_))
  .refine Gc 2 Z (Qz a ?_);obtain rfl:=Oj g a;exact Gx 1 Z (QD Z (Lr []))
  refine Gc 6 Z (Bd a λj p a=>Iz p Z (Go 9 Z (Cz [] a (k_fs _ _) Z λL F a=>Go 5 Z (Bd a λi d a=>?_))));refine Ct i [0] [1,5,8,10,11,12] (λi=>[(26,.bool i)]) Ze Zf ?_ (λenv H f=>?_)
  .refine G0 2 Z (Cz [] d (k_d _ _) Z λM G d=>Go 2 Z (Is 22 d Z (λq d=>?_) (λq d=>?_)))
   .exact Go 5 Z (Cl d [0])
   .refine Go 2 Z (Bd d λB s d=>?_);refine vX (.bool B) (YO (ev:=A.bool) (z0:=false) (k:=j.Name) (l:=e.1) Qcb s underlying272 zeroValue4 ZR.bool) ?_ (gT Z);exact Go 2 Z (Cl d [0])
  refine Gx 1 Z (Ef f (Cn Z a (λt a=>?_) (λt a=>?_)))
  .refine Gc 9 Z (Q4 a ?_);obtain rfl:=Oj g a;exact Gx 1 Z (QR (Gx 1 Z (Rt h 4 [])))
  refine Gc 5 Z (Bd a λN u a=>?_);refine vU (YQ (ev:=A.bool) (k:=j.Name) (v:=true) (l:=e.1) Qcb u Z underlying272) ?_;exact FE Z (Go 7 Z (Qv a (Lr [0])))
 subst z;exact Gx 1 Z (Ef f (Gc 6 Z (Rt h 4 [])))
def F_fk(n:Nat)(a:Wave):Option Unit:=
  some ()
theorem k_fk(n:Nat)(a:Wave)(r:Unit)(h:F_fk n a=some r):
    Csm prog 113 [.agg (Wave.c a)] [] (λ_=>.str a.Name) r:=by
 refine Qc func113 Z Z Z ?_;exact G0 14 Z (Rt h 2 [])
def F_ig(n:Nat)(c:List Wave)(a:(List (List UInt8×Bool))×Int):Option (Ctl ((List (List UInt8×Bool))×Int) (Ctl Unit Bool)):=
  (bif decide (a.2<(c.length:Int))then(idx c a.2).bind λb=>(F_fk n b).bind λh=>((F_d n b.Name).bind λd=>(bif (!d)then some true else(some (QP a.1 b.Name false)).bind λe=>some e):Option Bool).bind λf=>(bif f then some (.done (.done false))else(some (Yj a.1 b.Name true)).bind λg=>some (.cont (g,IntKind.i64.wrap (a.2+1))))else some (.done (.cont ())))
def F_co(n:Nat)(c:List Wave):Option Bool:=
  (iter (F_ig n c) n ([],0):Option (Ctl Unit Bool)).bind λb=>match b with|.cont a=>(some true)|.done a=>some a
theorem k_co(n:Nat)(w:List Wave)(r:Bool)(h:F_co n w=some r):
    Csm prog 112 [.rsl 2 (List.map Wave.c w),.fn (.func 113) [] []] [] (λr=>.bool r) r:=by
 refine Qc func112 Z Z Z ?_;refine G0 7 Z ?_;refine vH Yt ?_;refine FE Z (Go 7 Z (Lm Z (Go 3 Z (Bd h λx y h=>?_))));refine CtE (b:=x) [] [] Ze Ze Zf ?_ (λE env H z f=>?_)
 .refine G0 1 Z ?_;refine Lp [0] [1,5,10,11] (λe=>[(12,I e.2)]) (λe=>[(0,.map (QV A.str A.bool e.1))]) y Zf (Lr [0]) λe J a g=>?_;refine G0 6 Z (Ja Z a (λm a=>?_) (λm a=>?_))
  .refine Gc 2 Z (Qz a ?_);obtain rfl:=Oj g a;exact Gx 1 Z (QD Z (Lr []))
  refine Gc 6 Z (Bd a λj p a=>Iz p Z (Go 9 Z (Cz [] a (k_fk _ _) Z λL F a=>Go 5 Z (Bd a λi d a=>?_))));refine Ct i [0] [1,5,8,10,11,12] (λi=>[(26,.bool i)]) Ze Zf ?_ (λenv H f=>?_)
  .refine G0 2 Z (Cz [] d (k_d _ _) Z λM G d=>Go 2 Z (Is 22 d Z (λq d=>?_) (λq d=>?_)))
   .exact Go 5 Z (Cl d [0])
   .refine Go 2 Z (Bd d λB s d=>?_);refine vX (.bool B) (YO (ev:=A.bool) (z0:=false) (k:=j.Name) (l:=e.1) Qcb s underlying272 zeroValue4 ZR.bool) ?_ (gT Z);exact Go 2 Z (Cl d [0])
  refine Gx 1 Z (Ef f (Cn Z a (λt a=>?_) (λt a=>?_)))
  .refine Gc 9 Z (Q4 a ?_);obtain rfl:=Oj g a;exact Gx 1 Z (QR (Gx 1 Z (Rt h 4 [])))
  refine Gc 5 Z (Bd a λN u a=>?_);refine vU (YQ (ev:=A.bool) (k:=j.Name) (v:=true) (l:=e.1) Qcb u Z underlying272) ?_;exact FE Z (Go 7 Z (Qv a (Lr [0])))
 subst z;exact Gx 1 Z (Ef f (Gc 6 Z (Rt h 4 [])))
def F_dw(n:Nat)(a:Offence):Option Unit:=
  some ()
theorem k_dw(n:Nat)(a:Offence)(r:Unit)(h:F_dw n a=some r):
    Csm prog 115 [.agg (Offence.c a)] [] (λ_=>.str a.Name) r:=by
 refine Qc func115 Z Z Z ?_;exact G0 14 Z (Rt h 2 [])
def F_il(n:Nat)(c:List Offence)(a:(List (List UInt8×Bool))×Int):Option (Ctl ((List (List UInt8×Bool))×Int) (Ctl Unit Bool)):=
  (bif decide (a.2<(c.length:Int))then(idx c a.2).bind λb=>(F_dw n b).bind λh=>((F_d n b.Name).bind λd=>(bif (!d)then some true else(some (QP a.1 b.Name false)).bind λe=>some e):Option Bool).bind λf=>(bif f then some (.done (.done false))else(some (Yj a.1 b.Name true)).bind λg=>some (.cont (g,IntKind.i64.wrap (a.2+1))))else some (.done (.cont ())))
def F_cf(n:Nat)(c:List Offence):Option Bool:=
  (iter (F_il n c) n ([],0):Option (Ctl Unit Bool)).bind λb=>match b with|.cont a=>(some true)|.done a=>some a
theorem k_cf(n:Nat)(w:List Offence)(r:Bool)(h:F_cf n w=some r):
    Csm prog 114 [.rsl 4 (List.map Offence.c w),.fn (.func 115) [] []] [] (λr=>.bool r) r:=by
 refine Qc func114 Z Z Z ?_;refine G0 7 Z ?_;refine vH Yt ?_;refine FE Z (Go 7 Z (Lm Z (Go 3 Z (Bd h λx y h=>?_))));refine CtE (b:=x) [] [] Ze Ze Zf ?_ (λE env H z f=>?_)
 .refine G0 1 Z ?_;refine Lp [0] [1,5,10,11] (λe=>[(12,I e.2)]) (λe=>[(0,.map (QV A.str A.bool e.1))]) y Zf (Lr [0]) λe J a g=>?_;refine G0 6 Z (Ja Z a (λm a=>?_) (λm a=>?_))
  .refine Gc 2 Z (Qz a ?_);obtain rfl:=Oj g a;exact Gx 1 Z (QD Z (Lr []))
  refine Gc 6 Z (Bd a λj p a=>Iz p Z (Go 9 Z (Cz [] a (k_dw _ _) Z λL F a=>Go 5 Z (Bd a λi d a=>?_))));refine Ct i [0] [1,5,8,10,11,12] (λi=>[(26,.bool i)]) Ze Zf ?_ (λenv H f=>?_)
  .refine G0 2 Z (Cz [] d (k_d _ _) Z λM G d=>Go 2 Z (Is 22 d Z (λq d=>?_) (λq d=>?_)))
   .exact Go 5 Z (Cl d [0])
   .refine Go 2 Z (Bd d λB s d=>?_);refine vX (.bool B) (YO (ev:=A.bool) (z0:=false) (k:=j.Name) (l:=e.1) Qcb s underlying272 zeroValue4 ZR.bool) ?_ (gT Z);exact Go 2 Z (Cl d [0])
  refine Gx 1 Z (Ef f (Cn Z a (λt a=>?_) (λt a=>?_)))
  .refine Gc 9 Z (Q4 a ?_);obtain rfl:=Oj g a;exact Gx 1 Z (QR (Gx 1 Z (Rt h 4 [])))
  refine Gc 5 Z (Bd a λN u a=>?_);refine vU (YQ (ev:=A.bool) (k:=j.Name) (v:=true) (l:=e.1) Qcb u Z underlying272) ?_;exact FE Z (Go 7 Z (Qv a (Lr [0])))
 subst z;exact Gx 1 Z (Ef f (Gc 6 Z (Rt h 4 [])))
def F_ga(n:Nat)(a:Category):Option Unit:=
  some ()
theorem k_ga(n:Nat)(a:Category)(r:Unit)(h:F_ga n a=some r):
    Csm prog 117 [.agg (Category.c a)] [] (λ_=>.str a.Name) r:=by
 refine Qc func117 Z Z Z ?_;exact G0 14 Z (Rt h 2 [])
def F_is(n:Nat)(c:List Category)(a:(List (List UInt8×Bool))×Int):Option (Ctl ((List (List UInt8×Bool))×Int) (Ctl Unit Bool)):=
  (bif decide (a.2<(c.length:Int))then(idx c a.2).bind λb=>(F_ga n b).bind λh=>((F_d n b.Name).bind λd=>(bif (!d)then some true else(some (QP a.1 b.Name false)).bind λe=>some e):Option Bool).bind λf=>(bif f then some (.done (.done false))else(some (Yj a.1 b.Name true)).bind λg=>some (.cont (g,IntKind.i64.wrap (a.2+1))))else some (.done (.cont ())))
def F_bm(n:Nat)(c:List Category):Option Bool:=
  (iter (F_is n c) n ([],0):Option (Ctl Unit Bool)).bind λb=>match b with|.cont a=>(some true)|.done a=>some a
theorem k_bm(n:Nat)(w:List Category)(r:Bool)(h:F_bm n w=some r):
    Csm prog 116 [.rsl 3 (List.map Category.c w),.fn (.func 117) [] []] [] (λr=>.bool r) r:=by
 refine Qc func116 Z Z Z ?_;refine G0 7 Z ?_;refine vH Yt ?_;refine FE Z (Go 7 Z (Lm Z (Go 3 Z (Bd h λx y h=>?_))));refine CtE (b:=x) [] [] Ze Ze Zf ?_ (λE env H z f=>?_)
 .refine G0 1 Z ?_;refine Lp [0] [1,5,10,11] (λe=>[(12,I e.2)]) (λe=>[(0,.map (QV A.str A.bool e.1))]) y Zf (Lr [0]) λe J a g=>?_;refine G0 6 Z (Ja Z a (λm a=>?_) (λm a=>?_))
  .refine Gc 2 Z (Qz a ?_);obtain rfl:=Oj g a;exact Gx 1 Z (QD Z (Lr []))
  refine Gc 6 Z (Bd a λj p a=>Iz p Z (Go 9 Z (Cz [] a (k_ga _ _) Z λL F a=>Go 5 Z (Bd a λi d a=>?_))));refine Ct i [0] [1,5,8,10,11,12] (λi=>[(26,.bool i)]) Ze Zf ?_ (λenv H f=>?_)
  .refine G0 2 Z (Cz [] d (k_d _ _) Z λM G d=>Go 2 Z (Is 22 d Z (λq d=>?_) (λq d=>?_)))
   .exact Go 5 Z (Cl d [0])
   .refine Go 2 Z (Bd d λB s d=>?_);refine vX (.bool B) (YO (ev:=A.bool) (z0:=false) (k:=j.Name) (l:=e.1) Qcb s underlying272 zeroValue4 ZR.bool) ?_ (gT Z);exact Go 2 Z (Cl d [0])
  refine Gx 1 Z (Ef f (Cn Z a (λt a=>?_) (λt a=>?_)))
  .refine Gc 9 Z (Q4 a ?_);obtain rfl:=Oj g a;exact Gx 1 Z (QR (Gx 1 Z (Rt h 4 [])))
  refine Gc 5 Z (Bd a λN u a=>?_);refine vU (YQ (ev:=A.bool) (k:=j.Name) (v:=true) (l:=e.1) Qcb u Z underlying272) ?_;exact FE Z (Go 7 Z (Qv a (Lr [0])))
 subst z;exact Gx 1 Z (Ef f (Gc 6 Z (Rt h 4 [])))
def F_bj(n:Nat)(a:Course):Option Bool:=
  ((F_d n a.Name).bind λb=>(bif b then(F_bf n a.Mats).bind λc=>(bif c then(F_ck n a.Distances).bind λd=>(bif d then(F_co n a.Waves).bind λe=>(bif e then(F_cf n a.Offences).bind λf=>(bif f then(F_bm n a.Categories).bind λg=>some g else some false)else some false)else some false)else some false)else some false):Option Bool).bind λh=>some h
theorem k_bj(n:Nat)(j:Course)(r:Bool)(h:F_bj n j=some r):
    Csm prog 69 [.agg (Course.c j)] [] (λr=>.bool r) r:=by
 refine Qc func69 Z Z Z ?_;refine G0 7 Z (Bd h λb a h=>?_);refine Ct b [] [] (λb=>[(2,.bool b)]) Ze Zf ?_ (λenv H k=>?_)
 .refine G0 3 Z (Cz [] a (k_d _ _) Z λu l a=>Go 1 Z (Is 6 a Z (λd a=>?_) (λd a=>?_)))
  .refine Go 2 Z (Cz [] a (k_bf _ _) Z λw m a=>Go 2 Z (Is 11 a Z (λe a=>?_) (λe a=>?_)))
   .refine Go 2 Z (Cz [] a (k_ck _ _) Z λx p a=>Go 2 Z (Is 16 a Z (λf a=>?_) (λf a=>?_)))
    .refine Go 2 Z (Cz [] a (k_co _ _) Z λy q a=>Go 2 Z (Is 21 a Z (λg a=>?_) (λg a=>?_)))
     .refine Go 2 Z (Cz [] a (k_cf _ _) Z λz s a=>Go 2 Z (Is 26 a Z (λi a=>?_) (λi a=>?_)))
      .exact Go 2 Z (Cz [] a (k_bm _ _) Z λB t a=>Go 3 Z (Cl a []))
      .exact Go 6 Z (Cl a [])
     .exact Go 11 Z (Cl a [])
    .exact Go 16 Z (Cl a [])
   .exact Go 21 Z (Cl a [])
  .exact Go 26 Z (Cl a [])
 exact Gx 1 Z (Ef k (Gc 1 Z (Rt h 2 [])))
def F_av(n:Nat)(a:Int)(b:Int)(c:Int):Option Bool:=
  ((bif decide (a<b)then some true else some (decide (c<a))):Option Bool).bind λb2=>some b2
theorem k_av(n:Nat)(b:Int)(c:Int)(d:Int)(r:Bool)(h:F_av n b c d=some r):
    Csm prog 181 [I b,.ptr 0 0,.ptr 1 0] [.cells 3 [I c],.cells 3 [I d]] (λr=>.bool r) r:=by
 refine Qc func181 Z Z Z ?_;refine G0 6 Z (Bd h λb2 a h=>?_);refine Ct b2 [0,1] [] (λb2=>[(4,.bool b2)]) Ze Zf ?_ (λenv H e=>?_)
 .refine G0 5 Z (Is 8 a Z (λf a=>?_) (λf a=>?_))
  .exact Go 6 Z (Cl a [0,1])
  .exact Go 6 Z (Cl a [0,1])
 exact Gx 1 Z (Ef e (Gc 1 Z (Rt h 4 [0,1])))
def F_it(n:Nat)(b:List Int)(e:Int)(f:Int)(a:Int):Option (Ctl Int (Ctl Unit Int)):=
  (bif decide (a<(b.length:Int))then(idx b a).bind λc=>(F_av n c e f).bind λd=>(bif d then some (.done (.done a))else some (.cont (IntKind.i64.wrap (a+1))))else some (.done (.cont ())))
def F_fi(n:Nat)(c:List Int)(d:Int)(e:Int):Option Int:=
  (iter (F_it n c d e) n 0:Option (Ctl Unit Int)).bind λb=>match b with|.cont a=>(some (-1))|.done a=>some a
theorem k_fi(n:Nat)(c:List Int)(a:Int)(b:Int)(r:Int)(h:F_fi n c a b=some r):
    Csm prog 99 [.rsl 1 (List.map (Qe .i64) c),.fn (.func 181) [] [.ptr 0 0,.ptr 1 0]] [.cells 3 [I a],.cells 3 [I b]] (λr=>I r) r:=
 QU (el:=λx=>I x) (g:=λx=>F_av n x a b) func99 Z Z Z runUnderlying66 sizeOf3 (λ_ _ _ _ d e=>Ey d isAgg3 e Pts.rp) call181 (λ_ _ h=>k_av _ _ _ _ _ h) h
def F_bi(n:Nat)(a:List Int)(b:Int)(c:Int):Option Bool:=
  (F_fi n a b c).bind λd=>some (decide (0<=d))
theorem k_bi(n:Nat)(a:List Int)(b:Int)(c:Int)(r:Bool)(h:F_bi n a b c=some r):
    Csm prog 57 [.rsl 1 (List.map (Qe .i64) a),.fn (.func 181) [] [.ptr 0 0,.ptr 1 0]] [.cells 3 [I b],.cells 3 [I c]] (λr=>.bool r) r:=by
 refine Qc func57 Z Z Z ?_;exact G0 9 Z (Cz [0,1] h (k_fi _ _ _ _) Z λe d h=>Go 5 Z (Rt h 4 [0,1]))
def F_a(n:Nat)(a:Int)(b:Int)(c:List Int):Option Bool:=
  (F_bi n c a b).bind λd=>some (!d)
theorem k_a(n:Nat)(a:Int)(b:Int)(c:List Int)(r:Bool)(h:F_a n a b c=some r):
    Csm prog 119 [I a,I b,.rsl 1 (List.map (Qe .i64) c)] [] (λr=>.bool r) r:=by
 refine Qc func119 Z Z Z ?_;exact G0 11 Z (Cz [0,1] h (k_bi _ _ _ _) Z λe d h=>Go 5 Z (Rt h 6 []))
def F_bt(n:Nat)(a:Mat):Option Bool:=
  (F_a n 1 3 [a.Kind]).bind λb=>some b
theorem k_bt(n:Nat)(a:Mat)(r:Bool)(h:F_bt n a=some r):
    Csm prog 128 [.agg (Mat.c a)] [] (λr=>.bool r) r:=by
 refine Qc func128 Z Z Z ?_;refine G0 10 Z ?_;refine vH (El (xs:=[.tmp 4]) (es:=List.map (Qe .i64) [a.Kind]) QS Z Z Z Z Z ⟨Z,trivial⟩ Z Z) ?_;exact FE Z (Cb h (k_a _ _ _ _) Z (ls (ls (lo ln))) λd b h=>Go 4 Z (Rt h 2 []))
def F_fg(n:Nat)(a:Mat):Option Bool:=
  (F_bt n a).bind λb=>some (!b)
theorem k_fg(n:Nat)(a:Mat)(r:Bool)(h:F_fg n a=some r):
    Csm prog 187 [.agg (Mat.c a),.ptr 0 0] [.cells 224 [.fn (.func 128) [] []]] (λr=>.bool r) r:=by
 refine Qc func187 Z Z Z ?_;exact G0 10 Z (Cz [] h (k_bt _ _) Z λd b h=>Go 5 Z (Rt h 3 [0]))
def F_iz(n:Nat)(b:List Mat)(a:Int):Option (Ctl Int (Ctl Unit Int)):=
  (bif decide (a<(b.length:Int))then(idx b a).bind λc=>(F_fg n c).bind λd=>(bif d then some (.done (.done a))else some (.cont (IntKind.i64.wrap (a+1))))else some (.done (.cont ())))
def F_fe(n:Nat)(c:List Mat):Option Int:=
  (iter (F_iz n c) n 0:Option (Ctl Unit Int)).bind λb=>match b with|.cont a=>(some (-1))|.done a=>some a
theorem k_fe(n:Nat)(a:List Mat)(r:Int)(h:F_fe n a=some r):
    Csm prog 243 [.rsl 2 (List.map Mat.c a),.fn (.func 187) [] [.ptr 0 0]] [.cells 224 [.fn (.func 128) [] []]] (λr=>I r) r:=
 QU (el:=λx=>.agg (Mat.c x)) (g:=λx=>F_fg n x) func243 Z Z Z runUnderlying22 sizeOf119 (λ_ _ _ _ b d=>Qu b isAgg119 sizeOf119 d Pts.rp Z Z) call187 (λ_ _ h=>k_fg _ _ _ h) h
def F_fz(n:Nat)(a:List Mat):Option Bool:=
  (F_fe n a).bind λb=>some (decide (0<=b))
theorem k_fz(n:Nat)(a:List Mat)(r:Bool)(h:F_fz n a=some r):
    Csm prog 186 [.rsl 2 (List.map Mat.c a),.fn (.func 187) [] [.ptr 0 0]] [.cells 224 [.fn (.func 128) [] []]] (λr=>.bool r) r:=by
 refine Qc func186 Z Z Z ?_;exact G0 9 Z (Cz [0] h (k_fe _ _) Z λd b h=>Go 5 Z (Rt h 4 [0]))
def F_de(n:Nat)(a:List Mat):Option Bool:=
  (F_fz n a).bind λb=>some (!b)
theorem k_de(n:Nat)(a:List Mat)(r:Bool)(h:F_de n a=some r):
    Csm prog 127 [.rsl 2 (List.map Mat.c a),.fn (.func 128) [] []] [] (λr=>.bool r) r:=by
 refine Qc func127 Z Z Z ?_;exact G0 10 Z (Cz [0] h (k_fz _ _) Z λd b h=>Go 5 Z (Rt h 4 []))
def F_cm(n:Nat)(a:Leg)(b:Int):Option Bool:=
  ((F_a n 0 b [a.From,a.To]).bind λc=>(bif c then(F_a n 0 68719476736 [a.Min,a.Max]).bind λd=>(bif d then some (decide (a.Min<=a.Max))else some false)else some false):Option Bool).bind λe=>some e
theorem k_cm(n:Nat)(b:Leg)(f:Int)(r:Bool)(h:F_cm n b f=some r):
    Csm prog 124 [.agg (Leg.c b),.ptr 0 0] [.cells 3 [I f]] (λr=>.bool r) r:=by
 refine Qc func124 Z Z Z ?_;refine G0 7 Z (Bd h λd a h=>?_);refine Ct d [0] [] (λd=>[(3,.bool d)]) Ze Zf ?_ (λenv H g=>?_)
 .refine G0 6 Z ?_;refine vH (El (xs:=[.tmp 6,.tmp 8]) (es:=List.map (Qe .i64) [b.From,b.To]) QS Z Z Z Z Z ⟨Z,Z,trivial⟩ Z Z) ?_;refine FE Z (Cb a (k_a _ _ _ _) Z (ls (ls (lo ln))) λl j a=>Go 1 Z (Is 11 a Z (λi a=>?_) (λi a=>?_)))
  .refine Go 4 Z ?_;refine vH (El (xs:=[.tmp 13,.tmp 15]) (es:=List.map (Qe .i64) [b.Min,b.Max]) QS Z Z Z Z Z ⟨Z,Z,trivial⟩ Z Z) ?_ (gT Z);refine FE Z (Cb a (k_a _ _ _ _) Z (ls (ls (lo ln))) λm k a=>Go 2 Z (Is 19 a Z (λe a=>?_) (λe a=>?_)))
   .exact Go 8 Z (Cl a [0])
   .exact Go 8 Z (Cl a [0])
  .exact Go 16 Z (Cl a [0])
 exact Gx 1 Z (Ef g (Gc 1 Z (Rt h 3 [0])))
def F_ee(n:Nat)(a:Leg)(b:Int):Option Bool:=
  (F_cm n a b).bind λc=>some (!c)
theorem k_ee(n:Nat)(a:Leg)(b:Int)(r:Bool)(h:F_ee n a b=some r):
    Csm prog 189 [.agg (Leg.c a),.ptr 0 0] [.cells 218 [.fn (.func 124) [] [.ptr 1 0]],.cells 3 [I b]] (λr=>.bool r) r:=by
 refine Qc func189 Z Z Z ?_;exact G0 10 Z (Cz [1] h (k_cm _ _ _) Z λe d h=>Go 5 Z (Rt h 3 [0,1]))
def F_ih(n:Nat)(b:List Leg)(e:Int)(a:Int):Option (Ctl Int (Ctl Unit Int)):=
  (bif decide (a<(b.length:Int))then(idx b a).bind λc=>(F_ee n c e).bind λd=>(bif d then some (.done (.done a))else some (.cont (IntKind.i64.wrap (a+1))))else some (.done (.cont ())))
def F_ds(n:Nat)(c:List Leg)(d:Int):Option Int:=
  (iter (F_ih n c d) n 0:Option (Ctl Unit Int)).bind λb=>match b with|.cont a=>(some (-1))|.done a=>some a
theorem k_ds(n:Nat)(b:List Leg)(a:Int)(r:Int)(h:F_ds n b a=some r):
    Csm prog 244 [.rsl 4 (List.map Leg.c b),.fn (.func 189) [] [.ptr 0 0]] [.cells 218 [.fn (.func 124) [] [.ptr 1 0]],.cells 3 [I a]] (λr=>I r) r:=
 QU (el:=λx=>.agg (Leg.c x)) (g:=λx=>F_ee n x a) func244 Z Z Z runUnderlying23 sizeOf162 (λ_ _ _ _ d e=>Qu d isAgg162 sizeOf162 e Pts.rp Z Z) call189 (λ_ _ h=>k_ee _ _ _ _ h) h
def F_ej(n:Nat)(a:List Leg)(b:Int):Option Bool:=
  (F_ds n a b).bind λc=>some (decide (0<=c))
theorem k_ej(n:Nat)(a:List Leg)(b:Int)(r:Bool)(h:F_ej n a b=some r):
    Csm prog 188 [.rsl 4 (List.map Leg.c a),.fn (.func 189) [] [.ptr 0 0]] [.cells 218 [.fn (.func 124) [] [.ptr 1 0]],.cells 3 [I b]] (λr=>.bool r) r:=by
 refine Qc func188 Z Z Z ?_;exact G0 9 Z (Cz [0,1] h (k_ds _ _ _) Z λe d h=>Go 5 Z (Rt h 4 [0,1]))
def F_bn(n:Nat)(a:List Leg)(b:Int):Option Bool:=
  (F_ej n a b).bind λc=>some (!c)
theorem k_bn(n:Nat)(a:List Leg)(b:Int)(r:Bool)(h:F_bn n a b=some r):
    Csm prog 129 [.rsl 4 (List.map Leg.c a),.fn (.func 124) [] [.ptr 0 0]] [.cells 3 [I b]] (λr=>.bool r) r:=by
 refine Qc func129 Z Z Z ?_;exact G0 10 Z (Cz [1,0] h (k_ej _ _ _) Z λe d h=>Go 5 Z (Rt h 4 [0]))
def F_ex(n:Nat)(a:Leg):Option Unit:=
  some ()
theorem k_ex(n:Nat)(a:Leg)(r:Unit)(h:F_ex n a=some r):
    C prog 131 [.agg (Leg.c a)] [] (RQ (λ_=>.agg [I a.From,I a.To]) (λ_=>[.cells 164 [I a.From,I a.To]]) r):=by
 refine Qc func131 Z Z Z ?_;refine G0 17 Z ?_;obtain rfl:=Oi h;exact Rx [1] [2] Z (YY Z (Qj isAgg164 sizeOf164 Z Z Z)) ⟨Z,Z⟩
def F_ho(n:Nat)(c:List Leg)(a:(List (Ue×Bool))×Int):Option (Ctl ((List (Ue×Bool))×Int) (List (Ue×Bool))):=
  (bif decide (a.2<(c.length:Int))then(idx c a.2).bind λb=>(F_ex n b).bind λe=>(some (Yj a.1 ({from_:=b.From,to_:=b.To:Ue}) true)).bind λd=>some (.cont (d,IntKind.i64.wrap (a.2+1)))else some (.done a.1))
def F_cw(n:Nat)(a:List Leg):Option Bool:=
  (iter (F_ho n a) n ([],0):Option (List (Ue×Bool))).bind λb=>some ((b.length:Int)==(a.length:Int))
theorem k_cw(n:Nat)(m:List Leg)(r:Bool)(h:F_cw n m=some r):
    Csm prog 130 [.rsl 4 (List.map Leg.c m),.fn (.func 131) [] []] [] (λr=>.bool r) r:=by
 refine Qc func130 Z Z Z ?_;refine G0 7 Z ?_;refine vH Yt ?_;refine FE Z (Go 7 Z (Lm Z (Go 3 Z (Bd h λb p h=>?_))));refine Ct b [0] [0,5] Ze (λb=>[(0,.map (QV (λx=>A.agg (Ue.c x)) A.bool b))]) Zf ?_ (λenv H q=>?_)
 .refine G0 1 Z ?_;refine Lp [0] [0,1,5,9,10] (λd=>[(11,I d.2)]) (λd=>[(0,.map (QV (λx=>A.agg (Ue.c x)) A.bool d.1))]) p Zf (Lr [0]) λd t a f=>?_;refine G0 6 Z (Ja Z a (λg a=>?_) (λg a=>?_))
  .refine Gc 2 Z (Qz a ?_);obtain rfl:=Oj f a;exact Gx 1 Z (QW (Lr [0]))
  refine Gc 6 Z (Bd a λe i a=>Iz i Z (Go 9 Z (Cd [] a (k_ex _ _) Z λu s a=>FE Z (Bd a λw j a=>?_))));refine vU (YQ (ev:=A.bool) (k:=({from_:=e.From,to_:=e.To:Ue})) (v:=true) (l:=d.1) Qek j Z underlying160) ?_;exact FE Z (Go 7 Z (Qv a (Lr [0])))
 refine Gx 1 Z (Ef q (Gc 3 Z ?_));refine vX (I (b.length:Int)) (Qcs (l:=b) underlying160 Z) ?_;exact Go 1 Z (Lm Z (Go 5 Z (Rt h 4 [])))
def F_aw(rec45:(List Part)->Int->Option Bool)(n:Nat)(a:Part)(b:Int):Option Bool:=
  (bif (a.Laps==0)then((F_a n 0 b [a.Mat]).bind λf=>(bif f then some ((a.Parts.length:Int)==0)else some false):Option Bool).bind λg=>some g else((F_a n 1 64 [a.Laps]).bind λc=>(bif c then(bif (a.Mat==0)then(bif decide (0<(a.Parts.length:Int))then(rec45 a.Parts b).bind λd=>some d else some false)else some false)else some false):Option Bool).bind λe=>some e)
theorem k_aw(rec45:(List Part)->Int->Option Bool)(e:∀(b:List Part) (f:Int) (r:Bool),rec45 b f=some r->Csm prog 120 [.rsl 3 (List.map Part.enc b),.fn (.func 118) [] [.ptr 0 0,.ptr 1 0]] [.cells 3 [I f],.cells 211 [.fn (.func 118) [] [.ptr 0 0,.ptr 1 0]]] (λr=>.bool r) r)(n:Nat)(b:Part)(f:Int)(r:Bool)(h:F_aw rec45 n b f=some r):
    Csm prog 118 [.agg (Part.c b),.ptr 0 0,.ptr 1 0] [.cells 3 [I f],.cells 211 [.fn (.func 118) [] [.ptr 0 0,.ptr 1 0]]] (λr=>.bool r) r:=by
 refine Qc func118 Z Z Z ?_;refine G0 14 Z (Cn Z h (λp h=>?_) (λp h=>?_))
 .refine Gc 1 Z (Bd h λj d h=>?_);refine Ct j [0,1] [] (λj=>[(4,.bool j)]) Ze Zf ?_ (λenv H g=>?_)
  .refine G0 4 Z ?_;refine vH (El (xs:=[.tmp 10]) (es:=List.map (Qe .i64) [b.Mat]) QS Z Z Z Z Z ⟨Z,trivial⟩ Z Z) ?_;refine FE Z (Cb d (k_a _ _ _ _) Z (ls (ls (lo ln))) λy u d=>Go 1 Z (Is 13 d Z (λq d=>?_) (λq d=>?_)))
   .exact Go 2 Z (Lm Z (Go 4 Z (Cl d [0,1])))
   .exact Go 7 Z (Cl d [0,1])
  exact Gx 1 Z (Ef g (Gc 2 Z (Rt h 4 [0,1])))
 refine Gc 3 Z (Bd h λi a h=>?_);refine Ct i [0,1] [] (λi=>[(4,.bool i)]) Ze Zf ?_ (λenv H g=>?_)
 .refine G0 3 Z ?_;refine vH (El (xs:=[.tmp 20]) (es:=List.map (Qe .i64) [b.Laps]) QS Z Z Z Z Z ⟨Z,trivial⟩ Z Z) ?_;refine FE Z (Cb a (k_a _ _ _ _) Z (ls (ls (lo ln))) λw s a=>Go 1 Z (Is 23 a Z (λk a=>?_) (λk a=>?_)))
  .refine Go 5 Z (Is 28 a Z (λl a=>?_) (λl a=>?_))
   .refine Go 2 Z (Lm Z (Go 3 Z (Is 34 a Z (λm a=>?_) (λm a=>?_))))
    .exact Go 3 Z (Cz [0,1] a (e _ _) Z λx t a=>Go 3 Z (Cl a [0,1]))
    .exact Go 7 Z (Cl a [0,1])
   .exact Go 13 Z (Cl a [0,1])
  .exact Go 18 Z (Cl a [0,1])
 exact Gx 1 Z (Ef g (Gc 1 Z (Rt h 4 [0,1])))
def F_go(rec45:(List Part)->Int->Option Bool)(n:Nat)(a:Part)(b:Int):Option Bool:=
  (F_aw rec45 n a b).bind λc=>some (!c)
theorem k_go(rec45:(List Part)->Int->Option Bool)(a:∀(b:List Part) (d:Int) (r:Bool),rec45 b d=some r->Csm prog 120 [.rsl 3 (List.map Part.enc b),.fn (.func 118) [] [.ptr 0 0,.ptr 1 0]] [.cells 3 [I d],.cells 211 [.fn (.func 118) [] [.ptr 0 0,.ptr 1 0]]] (λr=>.bool r) r)(n:Nat)(b:Part)(d:Int)(r:Bool)(h:F_go rec45 n b d=some r):
    Csm prog 183 [.agg (Part.c b),.ptr 0 0] [.cells 211 [.fn (.func 118) [] [.ptr 1 0,.ptr 2 0]],.cells 3 [I d],.cells 211 [.fn (.func 118) [] [.ptr 1 0,.ptr 2 0]]] (λr=>.bool r) r:=by
 refine Qc func183 Z Z Z ?_;exact G0 10 Z (Cz [1,2] h (k_aw rec45 a _ _ _) Z λf e h=>Go 5 Z (Rt h 3 [0,1,2]))
def F_ij(n:Nat)(b:List Part)(e:Int)(rec45:(List Part)->Int->Option Bool)(a:Int):Option (Ctl Int (Ctl Unit Int)):=
  (bif decide (a<(b.length:Int))then(idx b a).bind λc=>(F_go rec45 n c e).bind λd=>(bif d then some (.done (.done a))else some (.cont (IntKind.i64.wrap (a+1))))else some (.done (.cont ())))
def F_ct(rec45:(List Part)->Int->Option Bool)(n:Nat)(c:List Part)(d:Int):Option Int:=
  (iter (F_ij n c d rec45) n 0:Option (Ctl Unit Int)).bind λb=>match b with|.cont a=>(some (-1))|.done a=>some a
theorem k_ct(rec45:(List Part)->Int->Option Bool)(c:∀(d:List Part) (e:Int) (r:Bool),rec45 d e=some r->Csm prog 120 [.rsl 3 (List.map Part.enc d),.fn (.func 118) [] [.ptr 0 0,.ptr 1 0]] [.cells 3 [I e],.cells 211 [.fn (.func 118) [] [.ptr 0 0,.ptr 1 0]]] (λr=>.bool r) r)(n:Nat)(d:List Part)(e:Int)(r:Int)(h:F_ct rec45 n d e=some r):
    Csm prog 241 [.rsl 3 (List.map Part.enc d),.fn (.func 183) [] [.ptr 0 0]] [.cells 211 [.fn (.func 118) [] [.ptr 1 0,.ptr 2 0]],.cells 3 [I e],.cells 211 [.fn (.func 118) [] [.ptr 1 0,.ptr 2 0]]] (λr=>I r) r:=by
 refine Qc func241 Z Z Z ?_;refine G0 9 Z (Lm Z (Go 3 Z (Bd h λl m h=>?_)));refine CtE (b:=l) [0,1,2] [] Ze Ze Zf ?_ (λt env H p q=>?_)
 .refine G0 1 Z ?_;refine Lp [0,1,2] [0,1,7] (λg=>[(8,I g)]) Ze m Zf (Lr [0,1,2]) λg w a f=>?_;refine G0 6 Z (Ja Z a (λi a=>?_) (λi a=>?_))
  .refine Gc 2 Z (Qz a ?_);obtain rfl:=Oj f a;exact Gx 1 Z (QD Z (Lr [0,1,2]))
  refine Gc 15 Z (Bd a λs j a=>IzE j (YG s) Z (Go 1 Z (Cz [0,1,2] a (k_go rec45 c _ _ _) Z λx u a=>Go 2 Z (Cn Z a (λk a=>?_) (λk a=>?_)))))
  .refine Gc 9 Z (Q4 a ?_);obtain rfl:=Oj f a;exact Gx 1 Z (QR (Gx 1 Z (Rt h 4 [0,1,2])))
  exact Gc 7 Z (Qv a (Lr [0,1,2]))
 subst p;exact Gx 1 Z (Ef q (Gc 6 Z (Rt h 4 [0,1,2])))
def F_cj(rec45:(List Part)->Int->Option Bool)(n:Nat)(a:List Part)(b:Int):Option Bool:=
  (F_ct rec45 n a b).bind λc=>some (decide (0<=c))
theorem k_cj(rec45:(List Part)->Int->Option Bool)(a:∀(b:List Part) (c:Int) (r:Bool),rec45 b c=some r->Csm prog 120 [.rsl 3 (List.map Part.enc b),.fn (.func 118) [] [.ptr 0 0,.ptr 1 0]] [.cells 3 [I c],.cells 211 [.fn (.func 118) [] [.ptr 0 0,.ptr 1 0]]] (λr=>.bool r) r)(n:Nat)(b:List Part)(c:Int)(r:Bool)(h:F_cj rec45 n b c=some r):
    Csm prog 182 [.rsl 3 (List.map Part.enc b),.fn (.func 183) [] [.ptr 0 0]] [.cells 211 [.fn (.func 118) [] [.ptr 1 0,.ptr 2 0]],.cells 3 [I c],.cells 211 [.fn (.func 118) [] [.ptr 1 0,.ptr 2 0]]] (λr=>.bool r) r:=by
 refine Qc func182 Z Z Z ?_;exact G0 9 Z (Cz [0,1,2] h (k_ct rec45 a _ _ _) Z λe d h=>Go 5 Z (Rt h 4 [0,1,2]))
def B_e(rec45:(List Part)->Int->Option Bool)(n:Nat)(a:List Part)(b:Int):Option Bool:=
  (F_cj rec45 n a b).bind λc=>some (!c)
theorem Qck(rec45:(List Part)->Int->Option Bool)(a:∀(b:List Part) (c:Int) (r:Bool),rec45 b c=some r->Csm prog 120 [.rsl 3 (List.map Part.enc b),.fn (.func 118) [] [.ptr 0 0,.ptr 1 0]] [.cells 3 [I c],.cells 211 [.fn (.func 118) [] [.ptr 0 0,.ptr 1 0]]] (λr=>.bool r) r)(n:Nat)(b:List Part)(c:Int)(r:Bool)(h:B_e rec45 n b c=some r):
    Csm prog 120 [.rsl 3 (List.map Part.enc b),.fn (.func 118) [] [.ptr 0 0,.ptr 1 0]] [.cells 3 [I c],.cells 211 [.fn (.func 118) [] [.ptr 0 0,.ptr 1 0]]] (λr=>.bool r) r:=by
 refine Qc func120 Z Z Z ?_;exact G0 10 Z (Cz [2,0,1] h (k_cj rec45 a _ _ _) Z λe d h=>Go 5 Z (Rt h 4 [0,1]))
def F_e:Nat->(List Part)->Int->Option Bool
  |0=>λ_ _=>none
  |n+1=>B_e (F_e n) n
theorem k_e(n:Nat):∀(a:List Part) (b:Int) (r:Bool),F_e n a b=some r->Csm prog 120 [.rsl 3 (List.map Part.enc a),.fn (.func 118) [] [.ptr 0 0,.ptr 1 0]] [.cells 3 [I b],.cells 211 [.fn (.func 118) [] [.ptr 0 0,.ptr 1 0]]] (λr=>.bool r) r:=by
  induction n with
  |zero=>intro a b r h;cases h
  |succ n ih=>intro a b r h;exact Qck _ ih n a b r h
def F_br(n:Nat)(a:Cutoff)(c:Int):Option Bool:=
  ((F_a n 0 c [a.Mat]).bind λd=>(bif d then(bif decide (1<=a.Lap)then(F_a n 0 1099511627776 [a.Limit]).bind λb=>some b else some false)else some false):Option Bool).bind λe=>some e
theorem k_br(n:Nat)(b:Cutoff)(e:Int)(r:Bool)(h:F_br n b e=some r):
    Csm prog 121 [.agg (Cutoff.c b),.ptr 0 0] [.cells 3 [I e]] (λr=>.bool r) r:=by
 refine Qc func121 Z Z Z ?_;refine G0 7 Z (Bd h λd a h=>?_);refine Ct d [0] [] (λd=>[(3,.bool d)]) Ze Zf ?_ (λenv H f=>?_)
 .refine G0 4 Z ?_;refine vH (El (xs:=[.tmp 6]) (es:=List.map (Qe .i64) [b.Mat]) QS Z Z Z Z Z ⟨Z,trivial⟩ Z Z) ?_;refine FE Z (Cb a (k_a _ _ _ _) Z (ls (ls (lo ln))) λm k a=>Go 1 Z (Is 9 a Z (λg a=>?_) (λg a=>?_)))
  .refine Go 5 Z (Is 14 a Z (λi a=>?_) (λi a=>?_))
   .refine Go 2 Z ?_;refine vH (El (xs:=[.tmp 16]) (es:=List.map (Qe .i64) [b.Limit]) QS Z Z Z Z Z ⟨Z,trivial⟩ Z Z) ?_ (gT Z);exact FE Z (Cb a (k_a _ _ _ _) Z (ls (ls (lo ln))) λl j a=>Go 3 Z (Cl a [0]))
   .exact Go 7 Z (Cl a [0])
  .exact Go 12 Z (Cl a [0])
 exact Gx 1 Z (Ef f (Gc 1 Z (Rt h 3 [0])))
def F_gg(n:Nat)(a:Cutoff)(b:Int):Option Bool:=
  (F_br n a b).bind λc=>some (!c)
theorem k_gg(n:Nat)(a:Cutoff)(b:Int)(r:Bool)(h:F_gg n a b=some r):
    Csm prog 185 [.agg (Cutoff.c a),.ptr 0 0] [.cells 216 [.fn (.func 121) [] [.ptr 1 0]],.cells 3 [I b]] (λr=>.bool r) r:=by
 refine Qc func185 Z Z Z ?_;exact G0 10 Z (Cz [1] h (k_br _ _ _) Z λe d h=>Go 5 Z (Rt h 3 [0,1]))
def F_ip(n:Nat)(b:List Cutoff)(e:Int)(a:Int):Option (Ctl Int (Ctl Unit Int)):=
  (bif decide (a<(b.length:Int))then(idx b a).bind λc=>(F_gg n c e).bind λd=>(bif d then some (.done (.done a))else some (.cont (IntKind.i64.wrap (a+1))))else some (.done (.cont ())))
def F_ek(n:Nat)(c:List Cutoff)(d:Int):Option Int:=
  (iter (F_ip n c d) n 0:Option (Ctl Unit Int)).bind λb=>match b with|.cont a=>(some (-1))|.done a=>some a
theorem k_ek(n:Nat)(b:List Cutoff)(a:Int)(r:Int)(h:F_ek n b a=some r):
    Csm prog 242 [.rsl 3 (List.map Cutoff.c b),.fn (.func 185) [] [.ptr 0 0]] [.cells 216 [.fn (.func 121) [] [.ptr 1 0]],.cells 3 [I a]] (λr=>I r) r:=
 QU (el:=λx=>.agg (Cutoff.c x)) (g:=λx=>F_gg n x a) func242 Z Z Z runUnderlying109 sizeOf215 (λ_ _ _ _ d e=>Qu d isAgg215 sizeOf215 e Pts.rp Z Z) call185 (λ_ _ h=>k_gg _ _ _ _ h) h
def F_fh(n:Nat)(a:List Cutoff)(b:Int):Option Bool:=
  (F_ek n a b).bind λc=>some (decide (0<=c))
theorem k_fh(n:Nat)(a:List Cutoff)(b:Int)(r:Bool)(h:F_fh n a b=some r):
    Csm prog 184 [.rsl 3 (List.map Cutoff.c a),.fn (.func 185) [] [.ptr 0 0]] [.cells 216 [.fn (.func 121) [] [.ptr 1 0]],.cells 3 [I b]] (λr=>.bool r) r:=by
 refine Qc func184 Z Z Z ?_;exact G0 9 Z (Cz [0,1] h (k_ek _ _ _) Z λe d h=>Go 5 Z (Rt h 4 [0,1]))
def F_cy(n:Nat)(a:List Cutoff)(b:Int):Option Bool:=
  (F_fh n a b).bind λc=>some (!c)
theorem k_cy(n:Nat)(a:List Cutoff)(b:Int)(r:Bool)(h:F_cy n a b=some r):
    Csm prog 123 [.rsl 3 (List.map Cutoff.c a),.fn (.func 121) [] [.ptr 0 0]] [.cells 3 [I b]] (λr=>.bool r) r:=by
 refine Qc func123 Z Z Z ?_;exact G0 10 Z (Cz [1,0] h (k_fh _ _ _) Z λe d h=>Go 5 Z (Rt h 4 [0]))
def F_cb(n:Nat)(a:Distance)(b:Int):Option Bool:=
  ((F_a n 1 3 [a.Timing]).bind λc=>(bif c then(F_a n (-1) b [a.Extra]).bind λd=>(bif d then(F_e n a.Route b).bind λe=>(bif e then(F_cy n a.Cutoffs b).bind λf=>some f else some false)else some false)else some false):Option Bool).bind λg=>some g
theorem k_cb(n:Nat)(b:Distance)(i:Int)(r:Bool)(h:F_cb n b i=some r):
    Csm prog 122 [.agg (Distance.c b),.ptr 0 0,.ptr 1 0,.ptr 2 0] [.cells 3 [I i],.cells 211 [.fn (.func 118) [] [.ptr 0 0,.ptr 1 0]],.cells 216 [.fn (.func 121) [] [.ptr 0 0]]] (λr=>.bool r) r:=by
 refine Qc func122 Z Z Z ?_;refine G0 7 Z (Bd h λd a h=>?_);refine Ct d [0,1,2] [] (λd=>[(5,.bool d)]) Ze Zf ?_ (λenv H j=>?_)
 .refine G0 3 Z ?_;refine vH (El (xs:=[.tmp 7]) (es:=List.map (Qe .i64) [b.Timing]) QS Z Z Z Z Z ⟨Z,trivial⟩ Z Z) ?_;refine FE Z (Cb a (k_a _ _ _ _) Z (ls (ls (lo ln))) λq k a=>Go 1 Z (Is 10 a Z (λe a=>?_) (λe a=>?_)))
  .refine Go 3 Z ?_;refine vH (El (xs:=[.tmp 13]) (es:=List.map (Qe .i64) [b.Extra]) QS Z Z Z Z Z ⟨Z,trivial⟩ Z Z) ?_ (gT Z);refine FE Z (Cb a (k_a _ _ _ _) Z (ls (ls (lo ln))) λs l a=>Go 2 Z (Is 17 a Z (λf a=>?_) (λf a=>?_)))
   .refine Go 3 Z (Cz [0,1] a (k_e _ _ _) Z λt m a=>Go 2 Z (Is 23 a Z (λg a=>?_) (λg a=>?_)))
    .exact Go 3 Z (Cz [0] a (k_cy _ _ _) Z λu p a=>Go 3 Z (Cl a [0,1,2]))
    .exact Go 7 Z (Cl a [0,1,2])
   .exact Go 13 Z (Cl a [0,1,2])
  .exact Go 20 Z (Cl a [0,1,2])
 exact Gx 1 Z (Ef j (Gc 1 Z (Rt h 5 [0,1,2])))
def F_ge(n:Nat)(a:Distance)(b:Int):Option Bool:=
  (F_cb n a b).bind λc=>some (!c)
theorem k_ge(n:Nat)(a:Distance)(b:Int)(r:Bool)(h:F_ge n a b=some r):
    Csm prog 143 [.agg (Distance.c a),.ptr 0 0] [.cells 167 [.fn (.func 122) [] [.ptr 1 0,.ptr 2 0,.ptr 3 0]],.cells 3 [I b],.cells 211 [.fn (.func 118) [] [.ptr 1 0,.ptr 2 0]],.cells 216 [.fn (.func 121) [] [.ptr 1 0]]] (λr=>.bool r) r:=by
 refine Qc func143 Z Z Z ?_;exact G0 10 Z (Cz [1,2,3] h (k_cb _ _ _) Z λe d h=>Go 5 Z (Rt h 3 [0,1,2,3]))
def F_iv(n:Nat)(b:List Distance)(e:Int)(a:Int):Option (Ctl Int (Ctl Unit Int)):=
  (bif decide (a<(b.length:Int))then(idx b a).bind λc=>(F_ge n c e).bind λd=>(bif d then some (.done (.done a))else some (.cont (IntKind.i64.wrap (a+1))))else some (.done (.cont ())))
def F_es(n:Nat)(c:List Distance)(d:Int):Option Int:=
  (iter (F_iv n c d) n 0:Option (Ctl Unit Int)).bind λb=>match b with|.cont a=>(some (-1))|.done a=>some a
theorem k_es(n:Nat)(b:List Distance)(a:Int)(r:Int)(h:F_es n b a=some r):
    Csm prog 201 [.rsl 5 (List.map Distance.c b),.fn (.func 143) [] [.ptr 0 0]] [.cells 167 [.fn (.func 122) [] [.ptr 1 0,.ptr 2 0,.ptr 3 0]],.cells 3 [I a],.cells 211 [.fn (.func 118) [] [.ptr 1 0,.ptr 2 0]],.cells 216 [.fn (.func 121) [] [.ptr 1 0]]] (λr=>I r) r:=
 QU (el:=λx=>.agg (Distance.c x)) (g:=λx=>F_ge n x a) func201 Z Z Z runUnderlying24 sizeOf111 (λ_ _ _ _ d e=>Qu d isAgg111 sizeOf111 e Pts.rp Z Z) call143 (λ_ _ h=>k_ge _ _ _ _ h) h
def F_eq(n:Nat)(a:List Distance)(b:Int):Option Bool:=
  (F_es n a b).bind λc=>some (decide (0<=c))
theorem k_eq(n:Nat)(a:List Distance)(b:Int)(r:Bool)(h:F_eq n a b=some r):
    Csm prog 142 [.rsl 5 (List.map Distance.c a),.fn (.func 143) [] [.ptr 0 0]] [.cells 167 [.fn (.func 122) [] [.ptr 1 0,.ptr 2 0,.ptr 3 0]],.cells 3 [I b],.cells 211 [.fn (.func 118) [] [.ptr 1 0,.ptr 2 0]],.cells 216 [.fn (.func 121) [] [.ptr 1 0]]] (λr=>.bool r) r:=by
 refine Qc func142 Z Z Z ?_;exact G0 9 Z (Cz [0,1,2,3] h (k_es _ _ _) Z λe d h=>Go 5 Z (Rt h 4 [0,1,2,3]))
def F_dh(n:Nat)(a:List Distance)(b:Int):Option Bool:=
  (F_eq n a b).bind λc=>some (!c)
theorem k_dh(n:Nat)(a:List Distance)(b:Int)(r:Bool)(h:F_dh n a b=some r):
    Csm prog 72 [.rsl 5 (List.map Distance.c a),.fn (.func 122) [] [.ptr 0 0,.ptr 1 0,.ptr 2 0]] [.cells 3 [I b],.cells 211 [.fn (.func 118) [] [.ptr 0 0,.ptr 1 0]],.cells 216 [.fn (.func 121) [] [.ptr 0 0]]] (λr=>.bool r) r:=by
 refine Qc func72 Z Z Z ?_;exact G0 10 Z (Cz [3,0,1,2] h (k_eq _ _ _) Z λe d h=>Go 5 Z (Rt h 4 [0,1,2]))
def F_df(n:Nat)(a:Wave):Option Bool:=
  (F_a n 0 1099511627776 [a.Gun]).bind λb=>some b
theorem k_df(n:Nat)(a:Wave)(r:Bool)(h:F_df n a=some r):
    Csm prog 133 [.agg (Wave.c a)] [] (λr=>.bool r) r:=by
 refine Qc func133 Z Z Z ?_;refine G0 10 Z ?_;refine vH (El (xs:=[.tmp 4]) (es:=List.map (Qe .i64) [a.Gun]) QS Z Z Z Z Z ⟨Z,trivial⟩ Z Z) ?_;exact FE Z (Cb h (k_a _ _ _ _) Z (ls (ls (lo ln))) λd b h=>Go 4 Z (Rt h 2 []))
def F_fr(n:Nat)(a:Wave):Option Bool:=
  (F_df n a).bind λb=>some (!b)
theorem k_fr(n:Nat)(a:Wave)(r:Bool)(h:F_fr n a=some r):
    Csm prog 191 [.agg (Wave.c a),.ptr 0 0] [.cells 229 [.fn (.func 133) [] []]] (λr=>.bool r) r:=by
 refine Qc func191 Z Z Z ?_;exact G0 10 Z (Cz [] h (k_df _ _) Z λd b h=>Go 5 Z (Rt h 3 [0]))
def F_io(n:Nat)(b:List Wave)(a:Int):Option (Ctl Int (Ctl Unit Int)):=
  (bif decide (a<(b.length:Int))then(idx b a).bind λc=>(F_fr n c).bind λd=>(bif d then some (.done (.done a))else some (.cont (IntKind.i64.wrap (a+1))))else some (.done (.cont ())))
def F_dr(n:Nat)(c:List Wave):Option Int:=
  (iter (F_io n c) n 0:Option (Ctl Unit Int)).bind λb=>match b with|.cont a=>(some (-1))|.done a=>some a
theorem k_dr(n:Nat)(a:List Wave)(r:Int)(h:F_dr n a=some r):
    Csm prog 245 [.rsl 2 (List.map Wave.c a),.fn (.func 191) [] [.ptr 0 0]] [.cells 229 [.fn (.func 133) [] []]] (λr=>I r) r:=
 QU (el:=λx=>.agg (Wave.c x)) (g:=λx=>F_fr n x) func245 Z Z Z runUnderlying25 sizeOf201 (λ_ _ _ _ b d=>Qu b isAgg201 sizeOf201 d Pts.rp Z Z) call191 (λ_ _ h=>k_fr _ _ _ h) h
def F_dq(n:Nat)(a:List Wave):Option Bool:=
  (F_dr n a).bind λb=>some (decide (0<=b))
theorem k_dq(n:Nat)(a:List Wave)(r:Bool)(h:F_dq n a=some r):
    Csm prog 190 [.rsl 2 (List.map Wave.c a),.fn (.func 191) [] [.ptr 0 0]] [.cells 229 [.fn (.func 133) [] []]] (λr=>.bool r) r:=by
 refine Qc func190 Z Z Z ?_;exact G0 9 Z (Cz [0] h (k_dr _ _) Z λd b h=>Go 5 Z (Rt h 4 [0]))
def F_ch(n:Nat)(a:List Wave):Option Bool:=
  (F_dq n a).bind λb=>some (!b)
theorem k_ch(n:Nat)(a:List Wave)(r:Bool)(h:F_ch n a=some r):
    Csm prog 132 [.rsl 2 (List.map Wave.c a),.fn (.func 133) [] []] [] (λr=>.bool r) r:=by
 refine Qc func132 Z Z Z ?_;exact G0 10 Z (Cz [0] h (k_dq _ _) Z λd b h=>Go 5 Z (Rt h 4 []))
def F_ce(n:Nat)(a:Offence):Option Bool:=
  (bif a.Out then((bif (a.Time==0)then some (a.Laps==0)else some false):Option Bool).bind λd=>some d else(bif (a.Laps != 0)then((bif (a.Time==0)then(F_a n 1 64 [a.Laps]).bind λb=>some b else some false):Option Bool).bind λe=>some e else(F_a n 0 68719476736 [a.Time]).bind λc=>some c))
theorem k_ce(n:Nat)(e:Offence)(r:Bool)(h:F_ce n e=some r):
    Csm prog 125 [.agg (Offence.c e)] [] (λr=>.bool r) r:=by
 refine Qc func125 Z Z Z ?_;refine G0 15 Z (Cn Z h (λj h=>?_) (λj h=>?_))
 .refine Gc 1 Z (Bd h λf b h=>?_);refine Ct f [] [] (λf=>[(2,.bool f)]) Ze Zf ?_ (λenv H d=>?_)
  .refine G0 5 Z (Is 9 b Z (λk b=>?_) (λk b=>?_))
   .exact Go 6 Z (Cl b [])
   .exact Go 6 Z (Cl b [])
  exact Gx 1 Z (Ef d (Gc 3 Z (Rt h 2 [])))
 refine Gc 8 Z (Cn Z h (λl h=>?_) (λl h=>?_))
 .refine Gc 1 Z (Bd h λg a h=>?_);refine Ct g [] [] (λg=>[(2,.bool g)]) Ze Zf ?_ (λenv H d=>?_)
  .refine G0 5 Z (Is 21 a Z (λi a=>?_) (λi a=>?_))
   .refine Go 2 Z ?_;refine vH (El (xs:=[.tmp 23]) (es:=List.map (Qe .i64) [e.Laps]) QS Z Z Z Z Z ⟨Z,trivial⟩ Z Z) ?_ (gT Z);exact FE Z (Cb a (k_a _ _ _ _) Z (ls (ls (lo ln))) λq m a=>Go 3 Z (Cl a []))
   .exact Go 7 Z (Cl a [])
  exact Gx 1 Z (Ef d (Gc 3 Z (Rt h 2 [])))
 refine Gc 7 Z ?_;refine vH (El (xs:=[.tmp 28]) (es:=List.map (Qe .i64) [e.Time]) QS Z Z Z Z Z ⟨Z,trivial⟩ Z Z) ?_;exact FE Z (Cb h (k_a _ _ _ _) Z (ls (ls (lo ln))) λs p h=>Go 4 Z (Rt h 2 []))
def F_dl(n:Nat)(a:Offence):Option Bool:=
  (F_ce n a).bind λb=>some (!b)
theorem k_dl(n:Nat)(a:Offence)(r:Bool)(h:F_dl n a=some r):
    Csm prog 193 [.agg (Offence.c a),.ptr 0 0] [.cells 219 [.fn (.func 125) [] []]] (λr=>.bool r) r:=by
 refine Qc func193 Z Z Z ?_;exact G0 10 Z (Cz [] h (k_ce _ _) Z λd b h=>Go 5 Z (Rt h 3 [0]))
def F_iq(n:Nat)(b:List Offence)(a:Int):Option (Ctl Int (Ctl Unit Int)):=
  (bif decide (a<(b.length:Int))then(idx b a).bind λc=>(F_dl n c).bind λd=>(bif d then some (.done (.done a))else some (.cont (IntKind.i64.wrap (a+1))))else some (.done (.cont ())))
def F_fx(n:Nat)(c:List Offence):Option Int:=
  (iter (F_iq n c) n 0:Option (Ctl Unit Int)).bind λb=>match b with|.cont a=>(some (-1))|.done a=>some a
theorem k_fx(n:Nat)(a:List Offence)(r:Int)(h:F_fx n a=some r):
    Csm prog 246 [.rsl 4 (List.map Offence.c a),.fn (.func 193) [] [.ptr 0 0]] [.cells 219 [.fn (.func 125) [] []]] (λr=>I r) r:=
 QU (el:=λx=>.agg (Offence.c x)) (g:=λx=>F_dl n x) func246 Z Z Z runUnderlying26 sizeOf205 (λ_ _ _ _ b d=>Qu b isAgg205 sizeOf205 d Pts.rp Z Z) call193 (λ_ _ h=>k_dl _ _ _ h) h
def F_gh(n:Nat)(a:List Offence):Option Bool:=
  (F_fx n a).bind λb=>some (decide (0<=b))
theorem k_gh(n:Nat)(a:List Offence)(r:Bool)(h:F_gh n a=some r):
    Csm prog 192 [.rsl 4 (List.map Offence.c a),.fn (.func 193) [] [.ptr 0 0]] [.cells 219 [.fn (.func 125) [] []]] (λr=>.bool r) r:=by
 refine Qc func192 Z Z Z ?_;exact G0 9 Z (Cz [0] h (k_fx _ _) Z λd b h=>Go 5 Z (Rt h 4 [0]))
def F_bz(n:Nat)(a:List Offence):Option Bool:=
  (F_gh n a).bind λb=>some (!b)
theorem k_bz(n:Nat)(a:List Offence)(r:Bool)(h:F_bz n a=some r):
    Csm prog 134 [.rsl 4 (List.map Offence.c a),.fn (.func 125) [] []] [] (λr=>.bool r) r:=by
 refine Qc func134 Z Z Z ?_;exact G0 10 Z (Cz [0] h (k_gh _ _) Z λd b h=>Go 5 Z (Rt h 4 []))
def F_da(n:Nat)(a:Category):Option Bool:=
  ((F_a n 0 120 [a.From,a.To]).bind λb=>(bif b then some (decide (a.From<=a.To))else some false):Option Bool).bind λc=>some c
theorem k_da(n:Nat)(b:Category)(r:Bool)(h:F_da n b=some r):
    Csm prog 136 [.agg (Category.c b)] [] (λr=>.bool r) r:=by
 refine Qc func136 Z Z Z ?_;refine G0 7 Z (Bd h λd a h=>?_);refine Ct d [] [] (λd=>[(2,.bool d)]) Ze Zf ?_ (λenv H e=>?_)
 .refine G0 5 Z ?_;refine vH (El (xs:=[.tmp 4,.tmp 6]) (es:=List.map (Qe .i64) [b.From,b.To]) QS Z Z Z Z Z ⟨Z,Z,trivial⟩ Z Z) ?_;refine FE Z (Cb a (k_a _ _ _ _) Z (ls (ls (lo ln))) λi g a=>Go 1 Z (Is 9 a Z (λf a=>?_) (λf a=>?_)))
  .exact Go 8 Z (Cl a [])
  .exact Go 8 Z (Cl a [])
 exact Gx 1 Z (Ef e (Gc 1 Z (Rt h 2 [])))
def F_ed(n:Nat)(a:Category):Option Bool:=
  (F_da n a).bind λb=>some (!b)
theorem k_ed(n:Nat)(a:Category)(r:Bool)(h:F_ed n a=some r):
    Csm prog 195 [.agg (Category.c a),.ptr 0 0] [.cells 232 [.fn (.func 136) [] []]] (λr=>.bool r) r:=by
 refine Qc func195 Z Z Z ?_;exact G0 10 Z (Cz [] h (k_da _ _) Z λd b h=>Go 5 Z (Rt h 3 [0]))
def F_ir(n:Nat)(b:List Category)(a:Int):Option (Ctl Int (Ctl Unit Int)):=
  (bif decide (a<(b.length:Int))then(idx b a).bind λc=>(F_ed n c).bind λd=>(bif d then some (.done (.done a))else some (.cont (IntKind.i64.wrap (a+1))))else some (.done (.cont ())))
def F_dy(n:Nat)(c:List Category):Option Int:=
  (iter (F_ir n c) n 0:Option (Ctl Unit Int)).bind λb=>match b with|.cont a=>(some (-1))|.done a=>some a
theorem k_dy(n:Nat)(a:List Category)(r:Int)(h:F_dy n a=some r):
    Csm prog 247 [.rsl 3 (List.map Category.c a),.fn (.func 195) [] [.ptr 0 0]] [.cells 232 [.fn (.func 136) [] []]] (λr=>I r) r:=
 QU (el:=λx=>.agg (Category.c x)) (g:=λx=>F_ed n x) func247 Z Z Z runUnderlying27 sizeOf209 (λ_ _ _ _ b d=>Qu b isAgg209 sizeOf209 d Pts.rp Z Z) call195 (λ_ _ h=>k_ed _ _ _ h) h
def F_fc(n:Nat)(a:List Category):Option Bool:=
  (F_dy n a).bind λb=>some (decide (0<=b))
theorem k_fc(n:Nat)(a:List Category)(r:Bool)(h:F_fc n a=some r):
    Csm prog 194 [.rsl 3 (List.map Category.c a),.fn (.func 195) [] [.ptr 0 0]] [.cells 232 [.fn (.func 136) [] []]] (λr=>.bool r) r:=by
 refine Qc func194 Z Z Z ?_;exact G0 9 Z (Cz [0] h (k_dy _ _) Z λd b h=>Go 5 Z (Rt h 4 [0]))
def F_bh(n:Nat)(a:List Category):Option Bool:=
  (F_fc n a).bind λb=>some (!b)
theorem k_bh(n:Nat)(a:List Category)(r:Bool)(h:F_bh n a=some r):
    Csm prog 135 [.rsl 3 (List.map Category.c a),.fn (.func 136) [] []] [] (λr=>.bool r) r:=by
 refine Qc func135 Z Z Z ?_;exact G0 10 Z (Cz [0] h (k_fc _ _) Z λd b h=>Go 5 Z (Rt h 4 []))
def F_bg(n:Nat)(a:Prize)(b:Course):Option Bool:=
  ((F_a n 0 (IntKind.i64.wrap ((b.Distances.length:Int)-1)) [a.Distance]).bind λc=>(bif c then(F_a n (-1) (IntKind.i64.wrap ((b.Categories.length:Int)-1)) [a.Category]).bind λd=>(bif d then(F_a n 1 4000 [a.Rank]).bind λe=>(bif e then(F_a n 1 1125899906842624 [a.Amount]).bind λf=>some f else some false)else some false)else some false):Option Bool).bind λg=>some g
theorem k_bg(n:Nat)(b:Prize)(i:Course)(r:Bool)(h:F_bg n b i=some r):
    Csm prog 126 [.agg (Prize.c b),.ptr 0 0] [.cells 33 (Course.c i)] (λr=>.bool r) r:=by
 refine Qc func126 Z Z Z ?_;refine G0 7 Z (Bd h λd a h=>?_);refine Ct d [0] [] (λd=>[(3,.bool d)]) Ze Zf ?_ (λenv H j=>?_)
 .refine G0 3 Z (Lm Z (Go 3 Z ?_));refine vH (El (xs:=[.tmp 9]) (es:=List.map (Qe .i64) [b.Distance]) QS Z Z Z Z Z ⟨Z,trivial⟩ Z Z) ?_;refine FE Z (Cb a (k_a _ _ _ _) Z (ls (ls (lo ln))) λq k a=>Go 1 Z (Is 12 a Z (λe a=>?_) (λe a=>?_)))
  .refine Go 2 Z (Lm Z (Go 3 Z ?_));refine vH (El (xs:=[.tmp 18]) (es:=List.map (Qe .i64) [b.Category]) QS Z Z Z Z Z ⟨Z,trivial⟩ Z Z) ?_ (gT Z);refine FE Z (Cb a (k_a _ _ _ _) Z (ls (ls (lo ln))) λs l a=>Go 2 Z (Is 22 a Z (λf a=>?_) (λf a=>?_)))
   .refine Go 2 Z ?_;refine vH (El (xs:=[.tmp 24]) (es:=List.map (Qe .i64) [b.Rank]) QS Z Z Z Z Z ⟨Z,trivial⟩ Z Z) ?_ (gT Z);refine FE Z (Cb a (k_a _ _ _ _) Z (ls (ls (lo ln))) λt m a=>Go 2 Z (Is 28 a Z (λg a=>?_) (λg a=>?_)))
    .refine Go 2 Z ?_;refine vH (El (xs:=[.tmp 30]) (es:=List.map (Qe .i64) [b.Amount]) QS Z Z Z Z Z ⟨Z,trivial⟩ Z Z) ?_ (gT Z);exact FE Z (Cb a (k_a _ _ _ _) Z (ls (ls (lo ln))) λu p a=>Go 3 Z (Cl a [0]))
    .exact Go 7 Z (Cl a [0])
   .exact Go 13 Z (Cl a [0])
  .exact Go 23 Z (Cl a [0])
 exact Gx 1 Z (Ef j (Gc 1 Z (Rt h 3 [0])))
def F_ea(n:Nat)(a:Prize)(b:Course):Option Bool:=
  (F_bg n a b).bind λc=>some (!c)
theorem k_ea(n:Nat)(a:Prize)(b:Course)(r:Bool)(h:F_ea n a b=some r):
    Csm prog 197 [.agg (Prize.c a),.ptr 0 0] [.cells 222 [.fn (.func 126) [] [.ptr 1 0]],.cells 33 (Course.c b)] (λr=>.bool r) r:=by
 refine Qc func197 Z Z Z ?_;exact G0 10 Z (Cz [1] h (k_bg _ _ _) Z λe d h=>Go 5 Z (Rt h 3 [0,1]))
def F_ik(n:Nat)(b:List Prize)(e:Course)(a:Int):Option (Ctl Int (Ctl Unit Int)):=
  (bif decide (a<(b.length:Int))then(idx b a).bind λc=>(F_ea n c e).bind λd=>(bif d then some (.done (.done a))else some (.cont (IntKind.i64.wrap (a+1))))else some (.done (.cont ())))
def F_gj(n:Nat)(c:List Prize)(d:Course):Option Int:=
  (iter (F_ik n c d) n 0:Option (Ctl Unit Int)).bind λb=>match b with|.cont a=>(some (-1))|.done a=>some a
theorem k_gj(n:Nat)(b:List Prize)(a:Course)(r:Int)(h:F_gj n b a=some r):
    Csm prog 248 [.rsl 4 (List.map Prize.c b),.fn (.func 197) [] [.ptr 0 0]] [.cells 222 [.fn (.func 126) [] [.ptr 1 0]],.cells 33 (Course.c a)] (λr=>I r) r:=
 QU (el:=λx=>.agg (Prize.c x)) (g:=λx=>F_ea n x a) func248 Z Z Z runUnderlying28 sizeOf221 (λ_ _ _ _ d e=>Qu d isAgg221 sizeOf221 e Pts.rp Z Z) call197 (λ_ _ h=>k_ea _ _ _ _ h) h
def F_fp(n:Nat)(a:List Prize)(b:Course):Option Bool:=
  (F_gj n a b).bind λc=>some (decide (0<=c))
theorem k_fp(n:Nat)(a:List Prize)(b:Course)(r:Bool)(h:F_fp n a b=some r):
    Csm prog 196 [.rsl 4 (List.map Prize.c a),.fn (.func 197) [] [.ptr 0 0]] [.cells 222 [.fn (.func 126) [] [.ptr 1 0]],.cells 33 (Course.c b)] (λr=>.bool r) r:=by
 refine Qc func196 Z Z Z ?_;exact G0 9 Z (Cz [0,1] h (k_gj _ _ _) Z λe d h=>Go 5 Z (Rt h 4 [0,1]))
def F_dk(n:Nat)(a:List Prize)(b:Course):Option Bool:=
  (F_fp n a b).bind λc=>some (!c)
theorem k_dk(n:Nat)(a:List Prize)(b:Course)(r:Bool)(h:F_dk n a b=some r):
    Csm prog 137 [.rsl 4 (List.map Prize.c a),.fn (.func 126) [] [.ptr 0 0]] [.cells 33 (Course.c b)] (λr=>.bool r) r:=by
 refine Qc func137 Z Z Z ?_;exact G0 10 Z (Cz [1,0] h (k_fp _ _ _) Z λe d h=>Go 5 Z (Rt h 4 [0]))
def F_dp(n:Nat)(a:Prize):Option Unit:=
  some ()
theorem k_dp(n:Nat)(a:Prize)(r:Unit)(h:F_dp n a=some r):
    C prog 139 [.agg (Prize.c a)] [] (RQ (λ_=>.agg [I a.Distance,I a.Category,I a.Rank]) (λ_=>[.cells 236 [I a.Distance,I a.Category,I a.Rank]]) r):=by
 refine Qc func139 Z Z Z ?_;refine G0 19 Z ?_;obtain rfl:=Oi h;exact Rx [1] [2] Z (YY Z (Qj isAgg236 sizeOf236 Z Z Z)) ⟨Z,Z⟩
def F_hr(n:Nat)(c:List Prize)(a:(List (Ug×Bool))×Int):Option (Ctl ((List (Ug×Bool))×Int) (List (Ug×Bool))):=
  (bif decide (a.2<(c.length:Int))then(idx c a.2).bind λb=>(F_dp n b).bind λe=>(some (Yj a.1 ({distance:=b.Distance,category:=b.Category,rank:=b.Rank:Ug}) true)).bind λd=>some (.cont (d,IntKind.i64.wrap (a.2+1)))else some (.done a.1))
def F_bl(n:Nat)(a:List Prize):Option Bool:=
  (iter (F_hr n a) n ([],0):Option (List (Ug×Bool))).bind λb=>some ((b.length:Int)==(a.length:Int))
theorem k_bl(n:Nat)(m:List Prize)(r:Bool)(h:F_bl n m=some r):
    Csm prog 138 [.rsl 4 (List.map Prize.c m),.fn (.func 139) [] []] [] (λr=>.bool r) r:=by
 refine Qc func138 Z Z Z ?_;refine G0 7 Z ?_;refine vH Yt ?_;refine FE Z (Go 7 Z (Lm Z (Go 3 Z (Bd h λb p h=>?_))));refine Ct b [0] [0,5] Ze (λb=>[(0,.map (QV (λx=>A.agg (Ug.c x)) A.bool b))]) Zf ?_ (λenv H q=>?_)
 .refine G0 1 Z ?_;refine Lp [0] [0,1,5,9,10] (λd=>[(11,I d.2)]) (λd=>[(0,.map (QV (λx=>A.agg (Ug.c x)) A.bool d.1))]) p Zf (Lr [0]) λd t a f=>?_;refine G0 6 Z (Ja Z a (λg a=>?_) (λg a=>?_))
  .refine Gc 2 Z (Qz a ?_);obtain rfl:=Oj f a;exact Gx 1 Z (QW (Lr [0]))
  refine Gc 6 Z (Bd a λe i a=>Iz i Z (Go 9 Z (Cd [] a (k_dp _ _) Z λu s a=>FE Z (Bd a λw j a=>?_))));refine vU (YQ (ev:=A.bool) (k:=({distance:=e.Distance,category:=e.Category,rank:=e.Rank:Ug})) (v:=true) (l:=d.1) Qny j Z underlying273) ?_;exact FE Z (Go 7 Z (Qv a (Lr [0])))
 refine Gx 1 Z (Ef q (Gc 3 Z ?_));refine vX (I (b.length:Int)) (Qcs (l:=b) underlying273 Z) ?_;exact Go 1 Z (Lm Z (Go 5 Z (Rt h 4 [])))
def F_cg(n:Nat)(a:Course):Option Bool:=
  ((F_de n a.Mats).bind λb=>(bif b then(F_bn n a.Legs (IntKind.i64.wrap ((a.Mats.length:Int)-1))).bind λc=>(bif c then(F_cw n a.Legs).bind λd=>(bif d then(F_dh n a.Distances (IntKind.i64.wrap ((a.Mats.length:Int)-1))).bind λe=>(bif e then(F_ch n a.Waves).bind λf=>(bif f then(F_bz n a.Offences).bind λg=>(bif g then(F_bh n a.Categories).bind λh=>(bif h then(F_dk n a.Prizes a).bind λi=>(bif i then(F_bl n a.Prizes).bind λj=>(bif j then(F_a n 0 16 [a.Faults.Misses,a.Faults.Strays]).bind λk=>(bif k then(F_a n 0 4294967296 [a.Faults.Window,a.Faults.Residual]).bind λl=>(bif l then(F_a n 0 100000 [a.Faults.Drift]).bind λm=>(bif m then(F_a n 0 1125899906842624 [a.Fee]).bind λp=>(bif p then(F_a n 0 1099511627776 [a.Deadline]).bind λq=>some q else some false)else some false)else some false)else some false)else some false)else some false)else some false)else some false)else some false)else some false)else some false)else some false)else some false):Option Bool).bind λr=>some r
theorem k_cg(n:Nat)(b:Course)(r:Bool)(h:F_cg n b=some r):
    Csm prog 70 [.agg (Course.c b)] [] (λr=>.bool r) r:=by
 refine Qc func70 Z Z Z ?_;refine G0 10 Z (Lm Z (Go 55 Z (Bd h λd a h=>?_)));refine Ct d [] [] (λd=>[(2,.bool d)]) Ze Zf ?_ (λenv H w=>?_)
 .refine G0 3 Z (Cz [] a (k_de _ _) Z λR x a=>Go 1 Z (Is 25 a Z (λe a=>?_) (λe a=>?_)))
  .refine Go 3 Z (Cd [1] a (k_bn _ _ _) Z λT y a=>FE Z (Go 2 Z (Is 31 a Z (λf a=>?_) (λf a=>?_))))
   .refine Go 2 Z (Cz [] a (k_cw _ _) Z λV z a=>Go 2 Z (Is 36 a Z (λg a=>?_) (λg a=>?_)))
    .refine Go 3 Z (Cz [1,2,3] a (k_dh _ _ _) Z λW B a=>Go 2 Z (Is 42 a Z (λi a=>?_) (λi a=>?_)))
     .refine Go 2 Z (Cz [] a (k_ch _ _) Z λX E a=>Go 2 Z (Is 47 a Z (λj a=>?_) (λj a=>?_)))
      .refine Go 3 Z (Cz [] a (k_bz _ _) Z λY F a=>Go 2 Z (Is 53 a Z (λk a=>?_) (λk a=>?_)))
       .refine Go 2 Z (Cz [] a (k_bh _ _) Z λaa G a=>Go 2 Z (Is 58 a Z (λl a=>?_) (λl a=>?_)))
        .refine Go 3 Z (Cz [0] a (k_dk _ _ _) Z λab J a=>Go 2 Z (Is 64 a Z (λm a=>?_) (λm a=>?_)))
         .refine Go 2 Z (Cz [] a (k_bl _ _) Z λac L a=>Go 2 Z (Is 69 a Z (λp a=>?_) (λp a=>?_)))
          .refine Go 4 Z ?_;refine vH (El (xs:=[.tmp 71,.tmp 73]) (es:=List.map (Qe .i64) [b.Faults.Misses,b.Faults.Strays]) QS Z Z Z Z Z ⟨Z,Z,trivial⟩ Z Z) ?_ (gT Z);refine FE Z (Cb a (k_a _ _ _ _) Z (ls (ls (lo ln))) λad M a=>Go 2 Z (Is 77 a Z (λq a=>?_) (λq a=>?_)))
           .refine Go 4 Z ?_;refine vH (El (xs:=[.tmp 79,.tmp 81]) (es:=List.map (Qe .i64) [b.Faults.Window,b.Faults.Residual]) QS Z Z Z Z Z ⟨Z,Z,trivial⟩ Z Z) ?_ (gT Z);refine FE Z (Cb a (k_a _ _ _ _) Z (ls (ls (lo ln))) λae N a=>Go 2 Z (Is 85 a Z (λs a=>?_) (λs a=>?_)))
            .refine Go 2 Z ?_;refine vH (El (xs:=[.tmp 87]) (es:=List.map (Qe .i64) [b.Faults.Drift]) QS Z Z Z Z Z ⟨Z,trivial⟩ Z Z) ?_ (gT Z);refine FE Z (Cb a (k_a _ _ _ _) Z (ls (ls (lo ln))) λaf O a=>Go 2 Z (Is 91 a Z (λt a=>?_) (λt a=>?_)))
             .refine Go 2 Z ?_;refine vH (El (xs:=[.tmp 93]) (es:=List.map (Qe .i64) [b.Fee]) QS Z Z Z Z Z ⟨Z,trivial⟩ Z Z) ?_ (gT Z);refine FE Z (Cb a (k_a _ _ _ _) Z (ls (ls (lo ln))) λag P a=>Go 2 Z (Is 97 a Z (λu a=>?_) (λu a=>?_)))
              .refine Go 2 Z ?_;refine vH (El (xs:=[.tmp 99]) (es:=List.map (Qe .i64) [b.Deadline]) QS Z Z Z Z Z ⟨Z,trivial⟩ Z Z) ?_ (gT Z);exact FE Z (Cb a (k_a _ _ _ _) Z (ls (ls (lo ln))) λah Q a=>Go 3 Z (Cl a []))
              .exact Go 7 Z (Cl a [])
             .exact Go 13 Z (Cl a [])
            .exact Go 19 Z (Cl a [])
           .exact Go 27 Z (Cl a [])
          .exact Go 35 Z (Cl a [])
         .exact Go 40 Z (Cl a [])
        .exact Go 46 Z (Cl a [])
       .exact Go 51 Z (Cl a [])
      .exact Go 57 Z (Cl a [])
     .exact Go 62 Z (Cl a [])
    .exact Go 68 Z (Cl a [])
   .exact Go 73 Z (Cl a [])
  .exact Go 79 Z (Cl a [])
 exact Gx 1 Z (Ef w (Gc 1 Z (Rt h 2 [])))
def F_jb(n:Nat)(b:List Step)(a:(List Uf)×Int):Option (Ctl ((List Uf)×Int) (List Uf)):=
  (bif decide (a.2<(b.length:Int))then(idx b a.2).bind λc=>(app a.1 [Uf.ctyping_step ({Step:=c:Uh})]).bind λd=>some (.cont (d,IntKind.i64.wrap (a.2+1)))else some (.done a.1))
def F_ai(n:Nat)(a:List Step):Option (List Uf):=
  (iter (F_jb n a) n ([],0):Option (List Uf)).bind λb=>some b
theorem k_ai(n:Nat)(q:List Step)(r:List Uf)(h:F_ai n q=some r):
    C prog 141 [.rsl 8 (List.map Step.enc q)] [] (RQ (λr=>.osl 0 0 r.length 1) (λr=>[.row 280 1 (List.map Uf.enc r)]) r):=by
 refine Qc func141 Z Z Z ?_;refine G0 9 Z (Lm Z (Go 3 Z (Bd h λd w h=>?_)));refine Ct d [0] [] (λd=>[(2,.osl 0 0 d.length 1)]) (λd=>[(0,.row 280 1 (List.map Uf.enc d))]) Zf ?_ (λenv H u=>?_)
 .refine G0 1 Z ?_;refine Lp [0] [5,6] (λb=>[(2,.osl 0 0 b.1.length 1),(7,I b.2)]) (λb=>[(0,.row 280 1 (List.map Uf.enc b.1))]) w Zf ?_ ?_
  .refine En (Er (s:=2) (k:=1) (t:=280) (XR Z) Z) ?_;exact Lr [0]
  intro b x a g;refine G0 6 Z (Ja Z a (λj a=>?_) (λj a=>?_))
  .refine Gc 2 Z (Qz a ?_);obtain rfl:=Oj g a;exact Gx 1 Z (QW (Lr [0]))
  refine Gc 6 Z (Bd a λf l a=>IzE l (YF f) Z (Go 9 Z ?_));refine vX (.iface 283 (.agg (Uh.c ({Step:=f:Uh})))) (Qan Z runUnderlying283 (by intro m;nofun) Z) ?_;refine vH (El (xs:=[.tmp 14]) (es:=List.map Uf.enc [Uf.ctyping_step ({Step:=f:Uh})]) Qcp Z Z Z Z Z ⟨Z,trivial⟩ Z Z) ?_;refine FE Z (Bd a λy p a=>?_);refine vH (Yp (e:=Uf.enc) p Qcp runUnderlying239 (Qa2 (i:=2))) ?_;exact FE Z (Go 8 Z (Qv a (Lr [3])))
 exact Gx 1 Z (Ef u (Gc 7 Z (Rt h 2 [0])))
def F_ah(n:Nat)(a:Uc):Option Bool:=
  ((bif (a.Cond.Kind==0)then(bif (a.Cond.Var==0)then(bif (a.Cond.N==0)then some ((a.Cond.Parts.length:Int)==0)else some false)else some false)else some false):Option Bool).bind λb=>some b
theorem k_ah(n:Nat)(d:Uc)(r:Bool)(h:F_ah n d=some r):
    Csm prog 249 [.agg (Uc.c ({Cond:=d.Cond:Uc}))] [] (λr=>.bool r) r:=by
 refine Qc func249 Z Z Z ?_;refine G0 7 Z (Bd h λb a h=>?_);refine Ct b [] [] (λb=>[(2,.bool b)]) Ze Zf ?_ (λenv H e=>?_)
 .refine G0 6 Z (Is 7 a Z (λf a=>?_) (λf a=>?_))
  .refine Go 6 Z (Is 13 a Z (λg a=>?_) (λg a=>?_))
   .refine Go 6 Z (Is 19 a Z (λi a=>?_) (λi a=>?_))
    .exact Go 3 Z (Lm Z (Go 4 Z (Cl a [])))
    .exact Go 8 Z (Cl a [])
   .exact Go 14 Z (Cl a [])
  .exact Go 20 Z (Cl a [])
 exact Gx 1 Z (Ef e (Gc 1 Z (Rt h 2 [])))
def F_x(n:Nat)(a:Uh):Option (List Uf):=
  (F_ai n a.Step.Then).bind λb=>(F_ai n a.Step.Else).bind λc=>(app b c).bind λd=>some d
theorem k_x(n:Nat)(a:Uh)(r:List Uf)(h:F_x n a=some r):
    C prog 270 [.agg (Uh.c a)] [] (RQ (λr=>.osl 0 0 r.length 1) (λr=>[.row 280 1 (List.map Uf.enc r)]) r):=by
 refine Qc func270 Z Z Z ?_;refine G0 7 Z (DAs 7 3 [0,0,0,1,3,3,3] (by kernel_rfl) (Da 3 Z ?_));obtain⟨b,d,h⟩:=YN h;refine DA.op (x:=.osl 1 0 b.length 1) (H1:=[.cells 283 (Uh.c a),.row 280 1 (List.map Uf.enc b)]) ?_ ?_
 .refine Qs [] (OpC.fn call141 Z Z Z) (k_ai _ _ _ d) ?_;rintro _ _ ⟨rfl,rfl⟩;exact FE Z Wp
 refine Db 2 Z ?_;refine DB.wo2 (x:=.rsl 8 (List.map Step.enc a.Step.Else)) (Ld isAgg29 Z Wp) (Ld isAgg29 Z Wp) ?_;refine DB.done Z (Cd [] h (k_ai _ _) Z λj g h=>FE Z (Bd h λk f h=>?_));refine vH (Yp (e:=Uf.enc) f Qcp runUnderlying239 (Qa2 (i:=2))) ?_;exact FE Z (Go 4 Z (Rt h 2 [3]))
def F_iw(n:Nat)(b:List Cond)(a:(List Uf)×Int):Option (Ctl ((List Uf)×Int) (List Uf)):=
  (bif decide (a.2<(b.length:Int))then(idx b a.2).bind λc=>(app a.1 [Uf.ctyping_cond ({Cond:=c:Uc})]).bind λd=>some (.cont (d,IntKind.i64.wrap (a.2+1)))else some (.done a.1))
def F_by(n:Nat)(a:List Cond):Option (List Uf):=
  (iter (F_iw n a) n ([],0):Option (List Uf)).bind λb=>some b
theorem k_by(n:Nat)(q:List Cond)(r:List Uf)(h:F_by n q=some r):
    C prog 283 [.rsl 4 (List.map Cond.enc q)] [] (RQ (λr=>.osl 0 0 r.length 1) (λr=>[.row 280 1 (List.map Uf.enc r)]) r):=by
 refine Qc func283 Z Z Z ?_;refine G0 9 Z (Lm Z (Go 3 Z (Bd h λd w h=>?_)));refine Ct d [0] [] (λd=>[(2,.osl 0 0 d.length 1)]) (λd=>[(0,.row 280 1 (List.map Uf.enc d))]) Zf ?_ (λenv H u=>?_)
 .refine G0 1 Z ?_;refine Lp [0] [5,6] (λb=>[(2,.osl 0 0 b.1.length 1),(7,I b.2)]) (λb=>[(0,.row 280 1 (List.map Uf.enc b.1))]) w Zf ?_ ?_
  .refine En (Er (s:=2) (k:=1) (t:=280) (XR Z) Z) ?_;exact Lr [0]
  intro b x a g;refine G0 6 Z (Ja Z a (λj a=>?_) (λj a=>?_))
  .refine Gc 2 Z (Qz a ?_);obtain rfl:=Oj g a;exact Gx 1 Z (QW (Lr [0]))
  refine Gc 6 Z (Bd a λf l a=>IzE l (QaW f) Z (Go 9 Z ?_));refine vX (.iface 333 (.agg (Uc.c ({Cond:=f:Uc})))) (Qan Z runUnderlying333 (by intro m;nofun) Z) ?_;refine vH (El (xs:=[.tmp 14]) (es:=List.map Uf.enc [Uf.ctyping_cond ({Cond:=f:Uc})]) Qcp Z Z Z Z Z ⟨Z,trivial⟩ Z Z) ?_;refine FE Z (Bd a λy p a=>?_);refine vH (Yp (e:=Uf.enc) p Qcp runUnderlying239 (Qa2 (i:=2))) ?_;exact FE Z (Go 8 Z (Qv a (Lr [3])))
 exact Gx 1 Z (Ef u (Gc 7 Z (Rt h 2 [0])))
def F_u(n:Nat)(a:Uc):Option (List Uf):=
  (F_by n a.Cond.Parts).bind λb=>some b
theorem k_u(n:Nat)(a:Uc)(r:List Uf)(h:F_u n a=some r):
    C prog 269 [.agg (Uc.c ({Cond:=a.Cond:Uc}))] [] (RQ (λr=>.osl 0 0 r.length 1) (λr=>[.row 280 1 (List.map Uf.enc r)]) r):=by
 refine Qc func269 Z Z Z ?_;exact G0 11 Z (Cd [] h (k_by _ _) Z λd b h=>FE Z (Go 4 Z (Rt h 2 [1])))
def F_gk(n:Nat)(k:List Uf)(l:Int)(rec90:(List Uf)->Int->Ud->Option (Ud×Bool))(a:Ud×Int):Option (Ctl (Ud×Int) (Ctl Ud (Ud×Bool))):=
  (bif decide (a.2<(k.length:Int))then(idx k a.2).bind λm=>Uf.elim m (λe=>((F_ah n ({Cond:=e.Step.Cond:Uc})).bind λp=>(bif (!p)then(rec90 [Uf.ctyping_cond ({Cond:=e.Step.Cond:Uc})] 0 ({steps:=IntKind.i64.wrap (a.1.steps+1),conds:=a.1.conds:Ud})).bind λf=>some (f.1,(!f.2))else some ({steps:=IntKind.i64.wrap (a.1.steps+1),conds:=a.1.conds:Ud},false)):Option (Ud×Bool)).bind λb=>(bif b.2 then some (.done (.done (b.1,false)))else((bif decide (64<b.1.steps)then some (b.1,true)else(bif decide (256<b.1.conds)then some (b.1,true)else(F_x n e).bind λi=>(rec90 i (IntKind.i64.wrap (l+1)) b.1).bind λg=>some (g.1,(!g.2)))):Option (Ud×Bool)).bind λc=>(bif c.2 then some (.done (.done (c.1,false)))else some (.cont (c.1,IntKind.i64.wrap (a.2+1)))))) (λq=>((bif decide (64<a.1.steps)then some ({steps:=a.1.steps,conds:=IntKind.i64.wrap (a.1.conds+1):Ud},true)else(bif decide (256<(IntKind.i64.wrap (a.1.conds+1)))then some ({steps:=a.1.steps,conds:=IntKind.i64.wrap (a.1.conds+1):Ud},true)else(F_u n ({Cond:=q.Cond:Uc})).bind λj=>(rec90 j (IntKind.i64.wrap (l+1)) ({steps:=a.1.steps,conds:=IntKind.i64.wrap (a.1.conds+1):Ud})).bind λh=>some (h.1,(!h.2)))):Option (Ud×Bool)).bind λd=>(bif d.2 then some (.done (.done (d.1,false)))else some (.cont (d.1,IntKind.i64.wrap (a.2+1)))))else some (.done (.cont a.1)))
def B_c(rec90:(List Uf)->Int->Ud->Option (Ud×Bool))(n:Nat)(b:List Uf)(c:Int)(d:Ud):Option (Ud×Bool):=
  ((bif decide (0<(b.length:Int))then some (decide (16<c))else some false):Option Bool).bind λb2=>(bif b2 then some (d,false)else(iter (F_gk n b c rec90) n (d,0):Option (Ctl Ud (Ud×Bool))).bind λe=>match e with|.cont a=>(some (a,true))|.done a=>some a)
theorem Qav(rec90:(List Uf)->Int->Ud->Option (Ud×Bool))(i:∀(p:List Uf) (x:Int) (y:Ud) (r:Ud×Bool),rec90 p x y=some r->C prog 198 [.ptr 0 0,.osl 1 0 p.length 1,I x] [.cells 276 (Ud.c y),.row 280 1 (List.map Uf.enc p)] (RQ (λr=>.bool r.2) (λr=>[.cells 276 (Ud.c r.1),.row 280 1 (List.map Uf.enc p)]) r))(n:Nat)(p:List Uf)(x:Int)(y:Ud)(r:Ud×Bool)(h:B_c rec90 n p x y=some r):
    C prog 198 [.ptr 0 0,.osl 1 0 p.length 1,I x] [.cells 276 (Ud.c y),.row 280 1 (List.map Uf.enc p)] (RQ (λr=>.bool r.2) (λr=>[.cells 276 (Ud.c r.1),.row 280 1 (List.map Uf.enc p)]) r):=by
 refine Qc func198 Z Z Z ?_;refine G0 7 Z (Bd h λb2 B h=>?_);refine Ct b2 [0,1] [0,1,2] (λb2=>[(18,.bool b2)]) Ze Zf ?_ (λenv H f=>?_)
 .refine G0 5 Z (Is 15 B Z (λX B=>?_) (λX B=>?_))
  .exact Go 4 Z (Cl B [0,1])
  .exact Go 4 Z (Cl B [0,1])
 refine Gx 1 Z (Ef f (Cn Z h (λY h=>?_) (λY h=>?_)))
 .exact Gc 7 Z (Rt h 6 [0,1])
 refine Gc 10 Z (Bd h λaa ab h=>?_);refine CtE (b:=aa) [0,1] [] Ze (λE=>[(0,.cells 276 (Ud.c E))]) Zf ?_ (λE env H ac f=>?_)
 .refine G0 1 Z ?_;refine Lp [0,1] [0,2,19,20] (λt=>[(21,I t.2)]) (λt=>[(0,.cells 276 (Ud.c t.1))]) ab Zf (Lr [0,1]) λt am a q=>?_;refine G0 6 Z (Ja Z a (λV a=>?_) (λV a=>?_))
  .refine Gc 2 Z (Qz a ?_);obtain rfl:=Oj q a;exact Gx 1 Z (QD Z (Lr [0,1]))
  refine Gc 6 Z (Bd a λT F a=>?_);refine vX (.ptr 1 (Int.toNat t.2*1)) (QZ F Z runUnderlying239 sizeOf280) ?_;refine vX (Uf.val T) (Ey Z isAgg280 Z (Qq F)) ?_;refine Go 12 Z ?_;rcases Je T with⟨l,hE90⟩|⟨w,hE92⟩
  .have a:=Y7 hE90 a;refine Et (Qw (s:=8) (a':=.iface 283 (.agg (Uh.c l))) Z (congrArg Uf.val hE90)) ?_;refine Et (Qw (s:=24) (a':=.iface 283 (.agg (Uh.c l))) Z (congrArg Uf.val hE90)) ?_;refine Et (Qw (s:=25) (a':=.iface 283 (.agg (Uh.c l))) Z (congrArg Uf.val hE90)) ?_;refine vX (.tup [.agg [I 0,I 0,I 0,.rsl 4 (List.map Cond.enc [])],.bool false]) (Qhc (z:=(.agg [I 0,I 0,I 0,.rsl 4 (List.map Cond.enc [])])) runUnderlying333 (by intro m;nofun) Z zeroValue333 (zrC Z)) ?_;refine Go 7 Z ?_;refine vX (.tup [.agg (Uh.c l),.bool true]) (Qbr runUnderlying283 (by intro m;nofun)) ?_;refine Go 34 Z (Bd a λu g a=>?_);refine Ct u [0,1] [0,2,8,19,20,21] (λu=>[(60,.bool u.2)]) (λu=>[(0,.cells 276 (Ud.c u.1))]) Zf ?_ (λenv H f=>?_)
   .refine G0 2 Z (Cz [] g (k_ah _ _) Z λan ag g=>Go 2 Z (Is 53 g Z (λW g=>?_) (λW g=>?_)))
    .refine Go 2 Z ?_;refine vX (.iface 333 (.agg (Uc.c ({Cond:=l.Step.Cond:Uc})))) (Qan Z runUnderlying333 (by intro m;nofun) Z) ?_ (gT Z);refine vH (El (xs:=[.tmp 56]) (es:=List.map Uf.enc [Uf.ctyping_cond ({Cond:=l.Step.Cond:Uc})]) Qcp Z Z Z Z Z ⟨Z,trivial⟩ Z Z) ?_ (gT Z);exact FE Z (Cd [0,4] g (i _ _ _) Z λah ad g=>FE Z (Go 3 Z (Cl g [0,1])))
    .exact Go 8 Z (Cl g [0,1])
   refine Gx 1 Z (Ef f (Cn Z a (λG a=>?_) (λG a=>?_)))
   .refine Gc 10 Z (Q4 a ?_);obtain rfl:=Oj q a;exact Gx 1 Z (QR (Gx 1 Z (Rt h 6 [0,1])))
   refine Gc 4 Z (Bd a λj d a=>?_);refine Ct j [0,1] [0,2,19,20,21] (λj=>[(81,.bool j.2)]) (λj=>[(0,.cells 276 (Ud.c j.1))]) Zf ?_ (λenv H f=>?_)
   .refine G0 7 Z (Is 66 d Z (λJ d=>?_) (λJ d=>?_))
    .exact Go 16 Z (Cl d [0,1])
    .refine Go 7 Z (Is 73 d Z (λL d=>?_) (λL d=>?_))
     .exact Go 9 Z (Cl d [0,1])
     .refine Go 2 Z (Bd d λai M d=>?_);refine Qs [] (Qep call270 Z Z Z Z (λ_ _=>by kernel_rfl)) (k_x _ _ _ M) ?_ (hg:=(gT Z));rintro _ _ ⟨rfl,rfl⟩;exact FE Z (Go 2 Z (Cd [0,2] d (i _ _ _) Z λaj ae d=>FE Z (Go 3 Z (Cl d [0,1]))))
   refine Gx 1 Z (Ef f (Cn Z a (λN a=>?_) (λN a=>?_)))
   .refine Gc 8 Z (Q4 a ?_);obtain rfl:=Oj q a;exact Gx 1 Z (QR (Gx 1 Z (Rt h 6 [0,1])))
   exact Gc 7 Z (Qv a (Lr [0,1]))
  .have a:=Y6 hE92 a;refine Et (Qw (s:=8) (a':=.iface 333 (.agg (Uc.c ({Cond:=w.Cond:Uc})))) Z (congrArg Uf.val hE92)) ?_;refine Et (Qw (s:=24) (a':=.iface 333 (.agg (Uc.c ({Cond:=w.Cond:Uc})))) Z (congrArg Uf.val hE92)) ?_;refine Et (Qw (s:=25) (a':=.iface 333 (.agg (Uc.c ({Cond:=w.Cond:Uc})))) Z (congrArg Uf.val hE92)) ?_;refine vX (.tup [.agg (Uc.c ({Cond:=w.Cond:Uc})),.bool true]) (Qbr runUnderlying333 (by intro m;nofun)) ?_;refine Go 24 Z (Bd a λk e a=>?_);refine Ct k [0,1] [0,2,19,20,21] (λk=>[(81,.bool k.2)]) (λk=>[(0,.cells 276 (Ud.c k.1))]) Zf ?_ (λenv H f=>?_)
   .refine G0 7 Z (Is 66 e Z (λO e=>?_) (λO e=>?_))
    .exact Go 16 Z (Cl e [0,1])
    .refine Go 7 Z (Is 73 e Z (λP e=>?_) (λP e=>?_))
     .exact Go 9 Z (Cl e [0,1])
     .refine Go 2 Z (Bd e λak Q e=>?_);refine Qs [] (Qep call269 Z Z Z Z (λ_ _=>by kernel_rfl)) (k_u _ _ _ Q) ?_ (hg:=(gT Z));rintro _ _ ⟨rfl,rfl⟩;exact FE Z (Go 2 Z (Cd [0,3] e (i _ _ _) Z λal af e=>FE Z (Go 3 Z (Cl e [0,1]))))
   refine Gx 1 Z (Ef f (Cn Z a (λR a=>?_) (λR a=>?_)))
   .refine Gc 8 Z (Q4 a ?_);obtain rfl:=Oj q a;exact Gx 1 Z (QR (Gx 1 Z (Rt h 6 [0,1])))
   exact Gc 7 Z (Qv a (Lr [0,1]))
 subst ac;exact Gx 1 Z (Ef f (Gc 6 Z (Rt h 6 [0,1])))
def F_c:Nat->(List Uf)->Int->Ud->Option (Ud×Bool)
  |0=>λ_ _ _=>none
  |n+1=>B_c (F_c n) n
theorem k_c(n:Nat):∀(a:List Uf) (b:Int) (d:Ud) (r:Ud×Bool),F_c n a b d=some r->C prog 198 [.ptr 0 0,.osl 1 0 a.length 1,I b] [.cells 276 (Ud.c d),.row 280 1 (List.map Uf.enc a)] (RQ (λr=>.bool r.2) (λr=>[.cells 276 (Ud.c r.1),.row 280 1 (List.map Uf.enc a)]) r):=by
  induction n with
  |zero=>intro a b d r h;cases h
  |succ n ih=>intro a b d r h;exact Qav _ ih n a b d r h
def F_ja(n:Nat)(k:List Uf)(l:Int)(a:Ud×Int):Option (Ctl (Ud×Int) (Ctl Ud (Ud×Bool))):=
  (bif decide (a.2<(k.length:Int))then(idx k a.2).bind λm=>Uf.elim m (λe=>((F_ah n ({Cond:=e.Step.Cond:Uc})).bind λp=>(bif (!p)then(F_c n [Uf.ctyping_cond ({Cond:=e.Step.Cond:Uc})] 0 ({steps:=IntKind.i64.wrap (a.1.steps+1),conds:=a.1.conds:Ud})).bind λf=>some (f.1,(!f.2))else some ({steps:=IntKind.i64.wrap (a.1.steps+1),conds:=a.1.conds:Ud},false)):Option (Ud×Bool)).bind λb=>(bif b.2 then some (.done (.done (b.1,false)))else((bif decide (64<b.1.steps)then some (b.1,true)else(bif decide (256<b.1.conds)then some (b.1,true)else(F_x n e).bind λi=>(F_c n i (IntKind.i64.wrap (l+1)) b.1).bind λg=>some (g.1,(!g.2)))):Option (Ud×Bool)).bind λc=>(bif c.2 then some (.done (.done (c.1,false)))else some (.cont (c.1,IntKind.i64.wrap (a.2+1)))))) (λq=>((bif decide (64<a.1.steps)then some ({steps:=a.1.steps,conds:=IntKind.i64.wrap (a.1.conds+1):Ud},true)else(bif decide (256<(IntKind.i64.wrap (a.1.conds+1)))then some ({steps:=a.1.steps,conds:=IntKind.i64.wrap (a.1.conds+1):Ud},true)else(F_u n ({Cond:=q.Cond:Uc})).bind λj=>(F_c n j (IntKind.i64.wrap (l+1)) ({steps:=a.1.steps,conds:=IntKind.i64.wrap (a.1.conds+1):Ud})).bind λh=>some (h.1,(!h.2)))):Option (Ud×Bool)).bind λd=>(bif d.2 then some (.done (.done (d.1,false)))else some (.cont (d.1,IntKind.i64.wrap (a.2+1)))))else some (.done (.cont a.1)))
def F_fy(n:Nat)(b:List Uf)(c:Int)(d:Ud):Option (Ud×Bool):=
  ((bif decide (0<(b.length:Int))then some (decide (16<c))else some false):Option Bool).bind λb2=>(bif b2 then some (d,false)else(iter (F_ja n b c) n (d,0):Option (Ctl Ud (Ud×Bool))).bind λe=>match e with|.cont a=>(some (a,true))|.done a=>some a)
theorem k_fy(n:Nat)(Q:List Uf)(R:Int)(T:Ud)(r:Ud×Bool)(h:F_fy n Q R T=some r):
    C prog 198 [.ptr 0 0,.rsl 1 (List.map Uf.enc Q),I R] [.cells 276 (Ud.c T)] (RQ (λr=>.bool r.2) (λr=>[.cells 276 (Ud.c r.1)]) r):=by
 refine Qc func198 Z Z Z ?_;refine G0 7 Z (Bd h λb2 u h=>?_);refine Ct b2 [0] [0,1,2] (λb2=>[(18,.bool b2)]) Ze Zf ?_ (λenv H f=>?_)
 .refine G0 2 Z (Lm Z (Go 2 Z (Is 15 u Z (λV u=>?_) (λV u=>?_))))
  .exact Go 4 Z (Cl u [0])
  .exact Go 4 Z (Cl u [0])
 refine Gx 1 Z (Ef f (Cn Z h (λW h=>?_) (λW h=>?_)))
 .exact Gc 7 Z (Rt h 6 [0])
 refine Gc 6 Z (Lm Z (Go 3 Z (Bd h λX Y h=>?_)));refine CtE (b:=X) [0] [] Ze (λw=>[(0,.cells 276 (Ud.c w))]) Zf ?_ (λw env H aa f=>?_)
 .refine G0 1 Z ?_;refine Lp [0] [0,2,19,20] (λq=>[(21,I q.2)]) (λq=>[(0,.cells 276 (Ud.c q.1))]) Y Zf (Lr [0]) λq al a l=>?_;refine G0 6 Z (Ja Z a (λN a=>?_) (λN a=>?_))
  .refine Gc 2 Z (Qz a ?_);obtain rfl:=Oj l a;exact Gx 1 Z (QD Z (Lr [0]))
  refine Gc 6 Z (Bd a λab O a=>Iz O Z (Go 13 Z ?_));rcases Je ab with⟨k,hE90⟩|⟨t,hE92⟩
  .have a:=Y7 hE90 a;refine Et (Qw (s:=8) (a':=.iface 283 (.agg (Uh.c k))) Z (congrArg Uf.val hE90)) ?_;refine Et (Qw (s:=24) (a':=.iface 283 (.agg (Uh.c k))) Z (congrArg Uf.val hE90)) ?_;refine Et (Qw (s:=25) (a':=.iface 283 (.agg (Uh.c k))) Z (congrArg Uf.val hE90)) ?_;refine vX (.tup [.agg [I 0,I 0,I 0,.rsl 4 (List.map Cond.enc [])],.bool false]) (Qhc (z:=(.agg [I 0,I 0,I 0,.rsl 4 (List.map Cond.enc [])])) runUnderlying333 (by intro m;nofun) Z zeroValue333 (zrC Z)) ?_;refine Go 7 Z ?_;refine vX (.tup [.agg (Uh.c k),.bool true]) (Qbr runUnderlying283 (by intro m;nofun)) ?_;refine Go 34 Z (Bd a λp g a=>?_);refine Ct p [0] [0,2,8,19,20,21] (λp=>[(60,.bool p.2)]) (λp=>[(0,.cells 276 (Ud.c p.1))]) Zf ?_ (λenv H f=>?_)
   .refine G0 2 Z (Cz [] g (k_ah _ _) Z λam af g=>Go 2 Z (Is 53 g Z (λP g=>?_) (λP g=>?_)))
    .refine Go 2 Z ?_;refine vX (.iface 333 (.agg (Uc.c ({Cond:=k.Step.Cond:Uc})))) (Qan Z runUnderlying333 (by intro m;nofun) Z) ?_ (gT Z);refine vH (El (xs:=[.tmp 56]) (es:=List.map Uf.enc [Uf.ctyping_cond ({Cond:=k.Step.Cond:Uc})]) Qcp Z Z Z Z Z ⟨Z,trivial⟩ Z Z) ?_ (gT Z);exact FE Z (Cd [0,3] g (k_c _ _ _ _) Z λag ac g=>FE Z (Go 3 Z (Cl g [0])))
    .exact Go 8 Z (Cl g [0])
   refine Gx 1 Z (Ef f (Cn Z a (λx a=>?_) (λx a=>?_)))
   .refine Gc 10 Z (Q4 a ?_);obtain rfl:=Oj l a;exact Gx 1 Z (QR (Gx 1 Z (Rt h 6 [0])))
   refine Gc 4 Z (Bd a λi d a=>?_);refine Ct i [0] [0,2,19,20,21] (λi=>[(81,.bool i.2)]) (λi=>[(0,.cells 276 (Ud.c i.1))]) Zf ?_ (λenv H f=>?_)
   .refine G0 7 Z (Is 66 d Z (λy d=>?_) (λy d=>?_))
    .exact Go 16 Z (Cl d [0])
    .refine Go 7 Z (Is 73 d Z (λB d=>?_) (λB d=>?_))
     .exact Go 9 Z (Cl d [0])
     .refine Go 2 Z (Bd d λah E d=>?_);refine Qs [] (Qep call270 Z Z Z Z (λ_ _=>by kernel_rfl)) (k_x _ _ _ E) ?_ (hg:=(gT Z));rintro _ _ ⟨rfl,rfl⟩;exact FE Z (Go 2 Z (Cd [0,1] d (k_c _ _ _ _) Z λai ad d=>FE Z (Go 3 Z (Cl d [0]))))
   refine Gx 1 Z (Ef f (Cn Z a (λF a=>?_) (λF a=>?_)))
   .refine Gc 8 Z (Q4 a ?_);obtain rfl:=Oj l a;exact Gx 1 Z (QR (Gx 1 Z (Rt h 6 [0])))
   exact Gc 7 Z (Qv a (Lr [0]))
  .have a:=Y6 hE92 a;refine Et (Qw (s:=8) (a':=.iface 333 (.agg (Uc.c ({Cond:=t.Cond:Uc})))) Z (congrArg Uf.val hE92)) ?_;refine Et (Qw (s:=24) (a':=.iface 333 (.agg (Uc.c ({Cond:=t.Cond:Uc})))) Z (congrArg Uf.val hE92)) ?_;refine Et (Qw (s:=25) (a':=.iface 333 (.agg (Uc.c ({Cond:=t.Cond:Uc})))) Z (congrArg Uf.val hE92)) ?_;refine vX (.tup [.agg (Uc.c ({Cond:=t.Cond:Uc})),.bool true]) (Qbr runUnderlying333 (by intro m;nofun)) ?_;refine Go 24 Z (Bd a λj e a=>?_);refine Ct j [0] [0,2,19,20,21] (λj=>[(81,.bool j.2)]) (λj=>[(0,.cells 276 (Ud.c j.1))]) Zf ?_ (λenv H f=>?_)
   .refine G0 7 Z (Is 66 e Z (λG e=>?_) (λG e=>?_))
    .exact Go 16 Z (Cl e [0])
    .refine Go 7 Z (Is 73 e Z (λJ e=>?_) (λJ e=>?_))
     .exact Go 9 Z (Cl e [0])
     .refine Go 2 Z (Bd e λaj L e=>?_);refine Qs [] (Qep call269 Z Z Z Z (λ_ _=>by kernel_rfl)) (k_u _ _ _ L) ?_ (hg:=(gT Z));rintro _ _ ⟨rfl,rfl⟩;exact FE Z (Go 2 Z (Cd [0,2] e (k_c _ _ _ _) Z λak ae e=>FE Z (Go 3 Z (Cl e [0]))))
   refine Gx 1 Z (Ef f (Cn Z a (λM a=>?_) (λM a=>?_)))
   .refine Gc 8 Z (Q4 a ?_);obtain rfl:=Oj l a;exact Gx 1 Z (QR (Gx 1 Z (Rt h 6 [0])))
   exact Gc 7 Z (Qv a (Lr [0]))
 subst aa;exact Gx 1 Z (Ef f (Gc 6 Z (Rt h 6 [0])))
def F_cq(rec94:(List Uf)->Option Bool)(n:Nat)(a:Uc):Option Bool:=
  ((bif (a.Cond.Var==0)then some (a.Cond.N==0)else some false):Option Bool).bind λb2=>(bif (a.Cond.Kind==1)then((F_a n 1 3 [a.Cond.Var]).bind λc=>(bif c then(F_a n 0 10000 [a.Cond.N]).bind λd=>(bif d then some ((a.Cond.Parts.length:Int)==0)else some false)else some false):Option Bool).bind λe=>some e else((bif (a.Cond.Kind==4)then(bif b2 then some (.cont ((a.Cond.Parts.length:Int)==1))else some (.cont false))else((bif (a.Cond.Kind==2)then some (a.Cond.Kind==2)else some (a.Cond.Kind==3)):Option Bool).bind λf=>(bif f then(bif b2 then(bif decide (0<(a.Cond.Parts.length:Int))then some (.cont (decide ((a.Cond.Parts.length:Int)<=16)))else some (.cont false))else some (.cont false))else some (.done false))):Option (Ctl Bool Bool)).bind λg=>match g with|.cont b=>(((bif b then(F_u n ({Cond:=a.Cond:Uc})).bind λh=>(rec94 h).bind λi=>some (!i)else some false):Option Bool).bind λj=>some j)|.done b=>some b)
theorem k_cq(rec94:(List Uf)->Option Bool)(j:∀(g:List Uf) (r:Bool),rec94 g=some r->Csm prog 199 [.rsl 1 (List.map Uf.enc g),.fn (.func 200) [] []] [] (λr=>.bool r) r)(n:Nat)(g:Uc)(r:Bool)(h:F_cq rec94 n g=some r):
    Csm prog 251 [.iface 333 (.agg (Uc.c ({Cond:=g.Cond:Uc})))] [] (λr=>.bool r) r:=by
 refine Qc func251 Z Z Z ?_;refine G0 14 Z ?_;refine vX (.tup [.agg (Uc.c ({Cond:=g.Cond:Uc})),.bool true]) (Qbr runUnderlying333 (by intro m;nofun)) ?_;refine Go 12 Z (Bd h λb2 k h=>?_);refine Ct b2 [0] [3] (λb2=>[(4,.bool b2)]) Ze Zf ?_ (λenv H e=>?_)
 .refine G0 6 Z (Is 15 k Z (λG k=>?_) (λG k=>?_))
  .exact Go 7 Z (Cl k [0])
  .exact Go 7 Z (Cl k [0])
 refine Gx 1 Z (Ef e (Gc 15 Z (Cn Z h (λJ h=>?_) (λJ h=>?_))))
 .refine Gc 1 Z (Bd h λl d h=>?_);refine Ct l [] [] (λl=>[(2,.bool l)]) Ze Zf ?_ (λenv H e=>?_)
  .refine G0 4 Z ?_;refine vH (El (xs:=[.tmp 28]) (es:=List.map (Qe .i64) [g.Cond.Var]) QS Z Z Z Z Z ⟨Z,trivial⟩ Z Z) ?_;refine FE Z (Cb d (k_a _ _ _ _) Z (ls (ls (lo ln))) λR M d=>Go 1 Z (Is 31 d Z (λt d=>?_) (λt d=>?_)))
   .refine Go 3 Z ?_;refine vH (El (xs:=[.tmp 34]) (es:=List.map (Qe .i64) [g.Cond.N]) QS Z Z Z Z Z ⟨Z,trivial⟩ Z Z) ?_ (gT Z);refine FE Z (Cb d (k_a _ _ _ _) Z (ls (ls (lo ln))) λT O d=>Go 2 Z (Is 38 d Z (λu d=>?_) (λu d=>?_)))
    .exact Go 3 Z (Lm Z (Go 4 Z (Cl d [])))
    .exact Go 8 Z (Cl d [])
   .exact Go 15 Z (Cl d [])
  exact Gx 1 Z (Ef e (Gc 5 Z (Rt h 2 [])))
 refine Gc 6 Z (Bd h λL a h=>?_);refine CtE (b:=L) [0] [3] (λp=>[(4,.bool p)]) Ze Zf ?_ (λp env H hb e=>?_)
 .refine G0 0 Z (Cn Z a (λw a=>?_) (λw a=>?_))
  .refine Gc 3 Z (Is 48 a Z (λx a=>?_) (λx a=>?_))
   .refine Go 3 Z (Lm Z (Go 4 Z ?_));cases a;exact QD Z (Lr [0])
   .refine Go 8 Z ?_;cases a;exact QD Z (Lr [0])
  refine Gc 7 Z (Bd a λq i a=>?_);refine Ct q [0] [3,4] (λq=>[(55,.bool q)]) Ze Zf ?_ (λenv H e=>?_)
  .refine G0 0 Z (Cn Z i (λy i=>?_) (λy i=>?_))
   .exact Gc 1 Z (Cl i [0])
   exact Gc 4 Z (Cl i [0])
  refine Gx 1 Z (Ef e (Ja Z a (λz a=>?_) (λz a=>?_)))
  .refine Gc 6 Z ?_;cases a;exact QR (Gx 4 Z (Rt h 2 []))
  refine Gc 3 Z (Is 59 a Z (λB a=>?_) (λB a=>?_))
  .refine Go 3 Z (Lm Z (Go 3 Z (Is 66 a Z (λE a=>?_) (λE a=>?_))))
   .refine Go 3 Z (Lm Z (Go 4 Z ?_));cases a;exact QD Z (Lr [0])
   .refine Go 8 Z ?_;cases a;exact QD Z (Lr [0])
  .refine Go 15 Z ?_;cases a;exact QD Z (Lr [0])
 subst hb;refine Gx 2 Z (Ef e (Gc 1 Z (Bd h λs f h=>?_)));refine Ct s [] [] (λs=>[(2,.bool s)]) Ze Zf ?_ (λenv H e=>?_)
 .refine G0 3 Z (Is 74 f Z (λF f=>?_) (λF f=>?_))
  .exact Go 1 Z (Cd [] f (k_u _ _) Z λV P f=>FE Z (Cb f (j _) Z (lo (ls ln)) λW Q f=>Go 4 Z (Cl f [])))
  .exact Go 7 Z (Cl f [])
 exact Gx 1 Z (Ef e (Gc 3 Z (Rt h 2 [])))
def F_fo(rec94:(List Uf)->Option Bool)(n:Nat)(x:Uf):Option Bool:=
  Uf.elim x (λb=>(bif (b.Step.Kind==1)then((F_a n 1 5 [b.Step.By]).bind λe=>(bif e then(F_ah n ({Cond:=b.Step.Cond:Uc})).bind λf=>(bif f then(F_x n b).bind λg=>some ((g.length:Int)==0)else some false)else some false):Option Bool).bind λh=>some h else(bif (b.Step.Kind==2)then((bif (b.Step.By==0)then(F_cq rec94 n ({Cond:=b.Step.Cond:Uc})).bind λi=>(bif i then(bif decide (0<(b.Step.Then.length:Int))then(F_x n b).bind λj=>(rec94 j).bind λk=>some (!k)else some false)else some false)else some false):Option Bool).bind λl=>some l else some false))) (λa=>((bif (a.Cond.Var==0)then some (a.Cond.N==0)else some false):Option Bool).bind λd=>(bif (a.Cond.Kind==1)then((F_a n 1 3 [a.Cond.Var]).bind λm=>(bif m then(F_a n 0 10000 [a.Cond.N]).bind λp=>(bif p then some ((a.Cond.Parts.length:Int)==0)else some false)else some false):Option Bool).bind λq=>some q else((bif (a.Cond.Kind==4)then(bif d then some (.cont ((a.Cond.Parts.length:Int)==1))else some (.cont false))else((bif (a.Cond.Kind==2)then some (a.Cond.Kind==2)else some (a.Cond.Kind==3)):Option Bool).bind λr=>(bif r then(bif d then(bif decide (0<(a.Cond.Parts.length:Int))then some (.cont (decide ((a.Cond.Parts.length:Int)<=16)))else some (.cont false))else some (.cont false))else some (.done false))):Option (Ctl Bool Bool)).bind λs=>match s with|.cont c=>(((bif c then(F_u n ({Cond:=a.Cond:Uc})).bind λt=>(rec94 t).bind λu=>some (!u)else some false):Option Bool).bind λw=>some w)|.done c=>some c))
theorem k_fo(rec94:(List Uf)->Option Bool)(j:∀(p:List Uf) (r:Bool),rec94 p=some r->Csm prog 199 [.rsl 1 (List.map Uf.enc p),.fn (.func 200) [] []] [] (λr=>.bool r) r)(n:Nat)(p:Uf)(r:Bool)(h:F_fo rec94 n p=some r):
    Csm prog 251 [Uf.val p] [] (λr=>.bool r) r:=by
 refine Qc func251 Z Z Z ?_;refine G0 14 Z ?_;rcases Je p with⟨q,hE2⟩|⟨t,hE4⟩
 .have h:=Y7 hE2 h;refine Et (Qw (s:=0) (a':=.iface 283 (.agg (Uh.c q))) Z (congrArg Uf.val hE2)) ?_;refine Et (Qw (s:=7) (a':=.iface 283 (.agg (Uh.c q))) Z (congrArg Uf.val hE2)) ?_;refine vX (.tup [.agg [I 0,I 0,I 0,.rsl 4 (List.map Cond.enc [])],.bool false]) (Qhc (z:=(.agg [I 0,I 0,I 0,.rsl 4 (List.map Cond.enc [])])) runUnderlying333 (by intro m;nofun) Z zeroValue333 (zrC Z)) ?_;refine Go 7 Z ?_;refine vX (.tup [.agg (Uh.c q),.bool true]) (Qbr runUnderlying283 (by intro m;nofun)) ?_;refine Go 35 Z (Cn Z h (λae h=>?_) (λae h=>?_))
  .refine Gc 1 Z (Bd h λu e h=>?_);refine Ct u [] [] (λu=>[(2,.bool u)]) Ze Zf ?_ (λenv H f=>?_)
   .refine G0 4 Z ?_;refine vH (El (xs:=[.tmp 94]) (es:=List.map (Qe .i64) [q.Step.By]) QS Z Z Z Z Z ⟨Z,trivial⟩ Z Z) ?_;refine FE Z (Cb e (k_a _ _ _ _) Z (ls (ls (lo ln))) λar ag e=>Go 1 Z (Is 97 e Z (λG e=>?_) (λG e=>?_)))
    .refine Go 1 Z (Cz [] e (k_ah _ _) Z λau ah e=>Go 2 Z (Is 101 e Z (λJ e=>?_) (λJ e=>?_)))
     .exact Go 1 Z (Cd [] e (k_x _ _) Z λav ai e=>FE Z (Go 5 Z (Cl e [])))
     .exact Go 7 Z (Cl e [])
    .exact Go 11 Z (Cl e [])
   exact Gx 1 Z (Ef f (Gc 4 Z (Rt h 2 [])))
  refine Gc 6 Z (Cn Z h (λL h=>?_) (λL h=>?_))
  .refine Gc 1 Z (Bd h λw d h=>?_);refine Ct w [] [] (λw=>[(2,.bool w)]) Ze Zf ?_ (λenv H f=>?_)
   .refine G0 6 Z (Is 113 d Z (λM d=>?_) (λM d=>?_))
    .refine Go 1 Z ?_;refine vX (.iface 333 (.agg (Uc.c ({Cond:=q.Step.Cond:Uc})))) (Qan Z runUnderlying333 (by intro m;nofun) Z) ?_ (gT Z);refine Cz [] d (k_cq rec94 j _ _) Z λaw aj d=>Go 2 Z (Is 118 d Z (λO d=>?_) (λO d=>?_))
     .refine Go 3 Z (Lm Z (Go 3 Z (Is 125 d Z (λP d=>?_) (λP d=>?_))))
      .exact Go 1 Z (Cd [] d (k_x _ _) Z λax ak d=>FE Z (Cb d (j _) Z (lo (ls ln)) λay al d=>Go 4 Z (Cl d [])))
      .exact Go 7 Z (Cl d [])
     .exact Go 14 Z (Cl d [])
    .exact Go 19 Z (Cl d [])
   exact Gx 1 Z (Ef f (Gc 4 Z (Rt h 2 [])))
  exact Gc 10 Z (Rt h 2 [])
 .have h:=Y6 hE4 h;refine Et (Qw (s:=0) (a':=.iface 333 (.agg (Uc.c ({Cond:=t.Cond:Uc})))) Z (congrArg Uf.val hE4)) ?_;refine Et (Qw (s:=7) (a':=.iface 333 (.agg (Uc.c ({Cond:=t.Cond:Uc})))) Z (congrArg Uf.val hE4)) ?_;refine vX (.tup [.agg (Uc.c ({Cond:=t.Cond:Uc})),.bool true]) (Qbr runUnderlying333 (by intro m;nofun)) ?_;refine Go 12 Z (Bd h λx k h=>?_);refine Ct x [0] [3] (λx=>[(4,.bool x)]) Ze Zf ?_ (λenv H f=>?_)
  .refine G0 6 Z (Is 15 k Z (λQ k=>?_) (λQ k=>?_))
   .exact Go 7 Z (Cl k [0])
   .exact Go 7 Z (Cl k [0])
  refine Gx 1 Z (Ef f (Gc 15 Z (Cn Z h (λR h=>?_) (λR h=>?_))))
  .refine Gc 1 Z (Bd h λy g h=>?_);refine Ct y [] [] (λy=>[(2,.bool y)]) Ze Zf ?_ (λenv H f=>?_)
   .refine G0 4 Z ?_;refine vH (El (xs:=[.tmp 28]) (es:=List.map (Qe .i64) [t.Cond.Var]) QS Z Z Z Z Z ⟨Z,trivial⟩ Z Z) ?_;refine FE Z (Cb g (k_a _ _ _ _) Z (ls (ls (lo ln))) λaz am g=>Go 1 Z (Is 31 g Z (λT g=>?_) (λT g=>?_)))
    .refine Go 3 Z ?_;refine vH (El (xs:=[.tmp 34]) (es:=List.map (Qe .i64) [t.Cond.N]) QS Z Z Z Z Z ⟨Z,trivial⟩ Z Z) ?_ (gT Z);refine FE Z (Cb g (k_a _ _ _ _) Z (ls (ls (lo ln))) λba an g=>Go 2 Z (Is 38 g Z (λV g=>?_) (λV g=>?_)))
     .exact Go 3 Z (Lm Z (Go 4 Z (Cl g [])))
     .exact Go 8 Z (Cl g [])
    .exact Go 15 Z (Cl g [])
   exact Gx 1 Z (Ef f (Gc 5 Z (Rt h 2 [])))
  refine Gc 6 Z (Bd h λaf a h=>?_);refine CtE (b:=af) [0] [3] (λB=>[(4,.bool B)]) Ze Zf ?_ (λB env H hb f=>?_)
  .refine G0 0 Z (Cn Z a (λW a=>?_) (λW a=>?_))
   .refine Gc 3 Z (Is 48 a Z (λX a=>?_) (λX a=>?_))
    .refine Go 3 Z (Lm Z (Go 4 Z ?_));cases a;exact QD Z (Lr [0])
    .refine Go 8 Z ?_;cases a;exact QD Z (Lr [0])
   refine Gc 7 Z (Bd a λE l a=>?_);refine Ct E [0] [3,4] (λE=>[(55,.bool E)]) Ze Zf ?_ (λenv H f=>?_)
   .refine G0 0 Z (Cn Z l (λY l=>?_) (λY l=>?_))
    .exact Gc 1 Z (Cl l [0])
    exact Gc 4 Z (Cl l [0])
   refine Gx 1 Z (Ef f (Ja Z a (λaa a=>?_) (λaa a=>?_)))
   .refine Gc 6 Z ?_;cases a;exact QR (Gx 4 Z (Rt h 2 []))
   refine Gc 3 Z (Is 59 a Z (λab a=>?_) (λab a=>?_))
   .refine Go 3 Z (Lm Z (Go 3 Z (Is 66 a Z (λac a=>?_) (λac a=>?_))))
    .refine Go 3 Z (Lm Z (Go 4 Z ?_));cases a;exact QD Z (Lr [0])
    .refine Go 8 Z ?_;cases a;exact QD Z (Lr [0])
   .refine Go 15 Z ?_;cases a;exact QD Z (Lr [0])
  subst hb;refine Gx 2 Z (Ef f (Gc 1 Z (Bd h λF i h=>?_)));refine Ct F [] [] (λF=>[(2,.bool F)]) Ze Zf ?_ (λenv H f=>?_)
  .refine G0 3 Z (Is 74 i Z (λad i=>?_) (λad i=>?_))
   .exact Go 1 Z (Cd [] i (k_u _ _) Z λbb ao i=>FE Z (Cb i (j _) Z (lo (ls ln)) λbc aq i=>Go 4 Z (Cl i [])))
   .exact Go 7 Z (Cl i [])
  exact Gx 1 Z (Ef f (Gc 3 Z (Rt h 2 [])))
def F_dg(rec94:(List Uf)->Option Bool)(n:Nat)(a:Uf):Option Bool:=
  (F_fo rec94 n a).bind λb=>some (!b)
theorem k_dg(rec94:(List Uf)->Option Bool)(a:∀(b:List Uf) (r:Bool),rec94 b=some r->Csm prog 199 [.rsl 1 (List.map Uf.enc b),.fn (.func 200) [] []] [] (λr=>.bool r) r)(n:Nat)(b:Uf)(r:Bool)(h:F_dg rec94 n b=some r):
    Csm prog 200 [Uf.val b] [] (λr=>.bool r) r:=by
 refine Qc func200 Z Z Z ?_;exact G0 8 Z (Bd h λd c h=>Pc [] Z (OpC.fn call251 Z Z Z) (k_fo rec94 a _ _ _ c) (hargs:=by first|exact Z|exact Eq.trans (by exact Z) (Qaf _ (by simp[Yy,Yn,Uf.data])).symm) Z (Go 5 Z (Rt h 2 [])))
def F_in(n:Nat)(b:List Uf)(rec94:(List Uf)->Option Bool)(a:Int):Option (Ctl Int (Ctl Unit Int)):=
  (bif decide (a<(b.length:Int))then(idx b a).bind λc=>(F_dg rec94 n c).bind λd=>(bif d then some (.done (.done a))else some (.cont (IntKind.i64.wrap (a+1))))else some (.done (.cont ())))
def F_fv(rec94:(List Uf)->Option Bool)(n:Nat)(c:List Uf):Option Int:=
  (iter (F_in n c rec94) n 0:Option (Ctl Unit Int)).bind λb=>match b with|.cont a=>(some (-1))|.done a=>some a
theorem k_fv(rec94:(List Uf)->Option Bool)(c:∀(d:List Uf) (r:Bool),rec94 d=some r->Csm prog 199 [.rsl 1 (List.map Uf.enc d),.fn (.func 200) [] []] [] (λr=>.bool r) r)(n:Nat)(d:List Uf)(r:Int)(h:F_fv rec94 n d=some r):
    Csm prog 250 [.rsl 1 (List.map Uf.enc d),.fn (.func 200) [] []] [] (λr=>I r) r:=by
 refine Qc func250 Z Z Z ?_;refine G0 9 Z (Lm Z (Go 3 Z (Bd h λl m h=>?_)));refine CtE (b:=l) [] [] Ze Ze Zf ?_ (λs env H p q=>?_)
 .refine G0 1 Z ?_;refine Lp [] [0,1,7] (λf=>[(8,I f)]) Ze m Zf (Lr []) λf t a e=>?_;refine G0 6 Z (Ja Z a (λg a=>?_) (λg a=>?_))
  .refine Gc 2 Z (Qz a ?_);obtain rfl:=Oj e a;exact Gx 1 Z (QD Z (Lr []))
  refine Gc 15 Z (Bd a λu i a=>Iz i Z (Go 1 Z (Bd a λw j a=>Pc [] Z (Qhf call200 Z Z Z Z) (k_dg rec94 c _ _ _ j) (hargs:=by first|exact Z|exact Eq.trans (by exact Z) (Qaf _ (by simp[Yy,Yn,Uf.data])).symm) Z (Go 2 Z (Cn Z a (λk a=>?_) (λk a=>?_))))))
  .refine Gc 9 Z (Q4 a ?_);obtain rfl:=Oj e a;exact Gx 1 Z (QR (Gx 1 Z (Rt h 4 [])))
  exact Gc 7 Z (Qv a (Lr []))
 subst p;exact Gx 1 Z (Ef q (Gc 6 Z (Rt h 4 [])))
def B_h(rec94:(List Uf)->Option Bool)(n:Nat)(a:List Uf):Option Bool:=
  (F_fv rec94 n a).bind λb=>some (decide (0<=b))
theorem Qaw(rec94:(List Uf)->Option Bool)(a:∀(b:List Uf) (r:Bool),rec94 b=some r->Csm prog 199 [.rsl 1 (List.map Uf.enc b),.fn (.func 200) [] []] [] (λr=>.bool r) r)(n:Nat)(b:List Uf)(r:Bool)(h:B_h rec94 n b=some r):
    Csm prog 199 [.rsl 1 (List.map Uf.enc b),.fn (.func 200) [] []] [] (λr=>.bool r) r:=by
 refine Qc func199 Z Z Z ?_;exact G0 9 Z (Cz [] h (k_fv rec94 a _ _) Z λd c h=>Go 5 Z (Rt h 4 []))
def F_h:Nat->(List Uf)->Option Bool
  |0=>λ_=>none
  |n+1=>B_h (F_h n) n
theorem k_h(n:Nat):∀(a:List Uf) (r:Bool),F_h n a=some r->Csm prog 199 [.rsl 1 (List.map Uf.enc a),.fn (.func 200) [] []] [] (λr=>.bool r) r:=by
  induction n with
  |zero=>intro a r h;cases h
  |succ n ih=>intro a r h;exact Qaw _ ih n a r h
def F_dt(n:Nat)(a:List Uf):Option Int:=
  (F_fy n a 0 ({steps:=0,conds:=0:Ud})).bind λb=>(bif (!b.2)then some 2 else((bif ((a.length:Int)==0)then some true else(F_h n a).bind λc=>some c):Option Bool).bind λd=>(bif d then some 71 else some 0))
theorem k_dt(n:Nat)(c:List Uf)(r:Int)(h:F_dt n c=some r):
    Csm prog 140 [.rsl 1 (List.map Uf.enc c)] [] (λr=>I r) r:=by
 refine Qc func140 Z Z Z ?_;refine G0 17 Z (Cd [0] h (k_fy _ _ _ _) Z λk i h=>FE Z (Go 3 Z (Cn Z h (λd h=>?_) (λd h=>?_))))
 .exact Gc 7 Z (Rt h 2 [])
 refine Gc 4 Z (Bd h λb a h=>?_);refine Ct b [] [] (λb=>[(16,.bool b)]) Ze Zf ?_ (λenv H e=>?_)
 .refine G0 2 Z (Lm Z (Go 2 Z (Is 13 a Z (λf a=>?_) (λf a=>?_))))
  .exact Go 4 Z (Cl a [])
  .exact Go 1 Z (Cz [] a (k_h _ _) Z λl j a=>Go 2 Z (Cl a []))
 refine Gx 1 Z (Ef e (Cn Z h (λg h=>?_) (λg h=>?_)))
 .exact Gc 7 Z (Rt h 2 [])
 exact Gc 8 Z (Rt h 2 [])
def F_cp(n:Nat)(a:List Step):Option Int:=
  (F_ai n a).bind λb=>(F_dt n b).bind λc=>some c
theorem k_cp(n:Nat)(a:List Step)(r:Int)(h:F_cp n a=some r):
    Csm prog 71 [.rsl 8 (List.map Step.enc a)] [] (λr=>I r) r:=by
 refine Qc func71 Z Z Z ?_;exact G0 8 Z (Cd [] h (k_ai _ _) Z λd b h=>FE Z (Cb h (k_dt _ _) Z (lo ln) λe c h=>Go 4 Z (Rt h 2 [])))
def F_ef(n:Nat)(b:Part)(c:List Int)(a:(List Int)×Int):Option (Ctl ((List Int)×Int) (Ctl (List Int) (Ctl ((List Int)×Int) (Ctl (List Int) (List Int))))):=
  (bif decide (a.2<(if b.Laps<1 then 1 else b.Laps))then(bif decide (256<(a.1.length:Int))then some (.done (.done (.done (.done a.1))))else(app a.1 c).bind λd=>some (.cont (d,IntKind.i64.wrap (a.2+1))))else some (.done (.cont a.1)))
def F_er(n:Nat)(d:List Part)(rec113:(List Part)->Option (List Int))(a:(List Int)×Int):Option (Ctl ((List Int)×Int) (Ctl (List Int) (List Int))):=
  (bif decide (a.2<(d.length:Int))then(idx d a.2).bind λc=>((bif decide (0<c.Laps)then(rec113 c.Parts).bind λe=>some e else some [c.Mat]):Option (List Int)).bind λf=>(iter (F_ef n c f) n (a.1,0):Option (Ctl (List Int) (Ctl ((List Int)×Int) (Ctl (List Int) (List Int))))).bind λg=>match g with|.cont b=>(some (.cont (b,IntKind.i64.wrap (a.2+1))))|.done b=>some b else some (.done (.cont a.1)))
def B_r(rec113:(List Part)->Option (List Int))(n:Nat)(c:List Part):Option (List Int):=
  (iter (F_er n c rec113) n ([],0):Option (Ctl (List Int) (List Int))).bind λb=>match b with|.cont a=>(some a)|.done a=>some a
theorem QcD(rec113:(List Part)->Option (List Int))(u:∀(w:List Part) (r:List Int),rec113 w=some r->C prog 144 [.rsl 3 (List.map Part.enc w)] [] (RQ (λr=>.osl 0 0 r.length 1) (λr=>[.row 3 1 (List.map (Qe .i64) r)]) r))(n:Nat)(w:List Part)(r:List Int)(h:B_r rec113 n w=some r):
    C prog 144 [.rsl 3 (List.map Part.enc w)] [] (RQ (λr=>.osl 0 0 r.length 1) (λr=>[.row 3 1 (List.map (Qe .i64) r)]) r):=by
 refine Qc func144 Z Z Z ?_;refine G0 9 Z (Lm Z (Go 3 Z (Bd h λM N h=>?_)));refine CtE (b:=M) [0] [] (λf=>[(2,.osl 0 0 f.length 1)]) (λf=>[(0,.row 3 1 (List.map (Qe .i64) f))]) Zf ?_ (λf env H x j=>?_)
 .refine G0 1 Z ?_;refine Lp [0] [6,7] (λl=>[(2,.osl 0 0 l.1.length 1),(8,I l.2)]) (λl=>[(0,.row 3 1 (List.map (Qe .i64) l.1))]) N Zf ?_ ?_
  .refine En (Er (s:=2) (k:=1) (t:=3) (XR Z) Z) ?_;exact Lr [0]
  intro l R a y;refine G0 6 Z (Ja Z a (λB a=>?_) (λB a=>?_))
  .refine Gc 2 Z (Qz a ?_);obtain rfl:=Oj y a;exact Gx 1 Z (QD Z (Lr [0]))
  refine Gc 6 Z (Bd a λq E a=>IzE E (YG q) Z (Go 9 Z ?_));refine vH (El (xs:=[.tmp 13]) (es:=List.map (Qe .i64) [q.Mat]) QS Z Z Z Z Z ⟨Z,trivial⟩ Z Z) ?_;refine FE Z (Go 11 Z (Bd a λm d a=>?_));refine Ct m [0,1,0] [2,4,6,7,8] (λm=>[(5,.osl 2 0 m.length 1)]) (λm=>[(2,.row 3 1 (List.map (Qe .i64) m))]) Zf ?_ (λenv H j=>?_)
  .refine G0 0 Z (Cn Z d (λF d=>?_) (λF d=>?_))
   .exact Gc 3 Z (Cd [] d (u _) Z λT Q d=>FE Z (Go 2 Z (Cl d [0,1,3])))
   exact Gc 1 Z (Cl d [0,1,2])
  refine Gx 1 Z (Ef j (Gc 4 Z ?_));refine vX (I (if q.Laps<1 then 1 else q.Laps)) (OpV.max Z Z Z Z) ?_;refine Go 3 Z (Bd a λO P a=>?_);refine CtE (b:=O) [0] [6,7,8] (λg=>[(2,.osl 0 0 g.length 1)]) (λg=>[(0,.row 3 1 (List.map (Qe .i64) g))]) Zf ?_ (λg env H x j=>?_)
  .refine G0 1 Z ?_;refine Lp [0,2] [5,6,7,8,23] (λp=>[(2,.osl 0 0 p.1.length 1),(24,I p.2)]) (λp=>[(0,.row 3 1 (List.map (Qe .i64) p.1))]) P Zf (Lr [0,2]) λp V c z=>?_;refine G0 6 Z (Ja Z c (λG c=>?_) (λG c=>?_))
   .refine Gc 2 Z (Qz c ?_);obtain rfl:=Oj z c;exact Gx 1 Z (QD Z (Lr [0]))
   refine Gc 12 Z (Cn Z c (λJ c=>?_) (λJ c=>?_))
   .refine Gc 10 Z (Q4 c ?_);obtain rfl:=Oj z c;refine Gx 1 Z (QR (Gx 2 Z (Q4 a ?_)));obtain rfl:=Oj y a;exact Gx 1 Z (QR (Gx 1 Z (Rt h 2 [0])))
   refine Gc 5 Z (Bd c λW L c=>?_);refine vH (Yp (e:=(Qe .i64)) L QS runUnderlying66 (Qa2 (i:=1))) ?_;exact FE Z (Go 8 Z (Qv c (Lr [2,1])))
  subst x;exact Gx 2 Z (Ef j (Gc 4 Z (Qv a (Lr [0]))))
 subst x;exact Gx 1 Z (Ef j (Gc 7 Z (Rt h 2 [0])))
def F_r:Nat->(List Part)->Option (List Int)
  |0=>λ_=>none
  |n+1=>B_r (F_r n) n
theorem k_r(n:Nat):∀(a:List Part) (r:List Int),F_r n a=some r->C prog 144 [.rsl 3 (List.map Part.enc a)] [] (RQ (λr=>.osl 0 0 r.length 1) (λr=>[.row 3 1 (List.map (Qe .i64) r)]) r):=by
  induction n with
  |zero=>intro a r h;cases h
  |succ n ih=>intro a r h;exact QcD _ ih n a r h
def F_cu(n:Nat)(a:Cutoff)(b:List (Int×Int)):Option Bool:=
  (some (QP b a.Mat 0)).bind λc=>some (decide (a.Lap<=c))
theorem k_cu(n:Nat)(a:Cutoff)(b:List (Int×Int))(r:Bool)(h:F_cu n a b=some r):
    Csm prog 145 [.agg (Cutoff.c a),.ptr 0 0] [.cells 242 [.map 1],.map (QV (λx=>A.int .i64 x) (λx=>A.int .i64 x) b)] (λr=>.bool r) r:=by
 refine Qc func145 Z Z Z ?_;refine G0 11 Z (Bd h λe d h=>?_);refine vX (I e) (YO (ev:=(λx=>A.int .i64 x)) (z0:=0) (k:=a.Mat) (l:=b) QjF d underlying242 zeroValue3 Eo) ?_;exact Go 7 Z (Rt h 3 [0,1])
def F_gf(n:Nat)(a:Cutoff)(b:List (Int×Int)):Option Bool:=
  (F_cu n a b).bind λc=>some (!c)
theorem k_gf(n:Nat)(a:Cutoff)(b:List (Int×Int))(r:Bool)(h:F_gf n a b=some r):
    Csm prog 185 [.agg (Cutoff.c a),.ptr 0 0] [.cells 216 [.fn (.func 145) [] [.ptr 1 0]],.cells 242 [.map 2],.map (QV (λx=>A.int .i64 x) (λx=>A.int .i64 x) b)] (λr=>.bool r) r:=by
 refine Qc func185 Z Z Z ?_;exact G0 10 Z (Cz [1,2] h (k_cu _ _ _) Z λe d h=>Go 5 Z (Rt h 3 [0,1,2]))
def F_iu(n:Nat)(b:List Cutoff)(e:List (Int×Int))(a:Int):Option (Ctl Int (Ctl Unit Int)):=
  (bif decide (a<(b.length:Int))then(idx b a).bind λc=>(F_gf n c e).bind λd=>(bif d then some (.done (.done a))else some (.cont (IntKind.i64.wrap (a+1))))else some (.done (.cont ())))
def F_eu(n:Nat)(c:List Cutoff)(d:List (Int×Int)):Option Int:=
  (iter (F_iu n c d) n 0:Option (Ctl Unit Int)).bind λb=>match b with|.cont a=>(some (-1))|.done a=>some a
theorem k_eu(n:Nat)(b:List Cutoff)(a:List (Int×Int))(r:Int)(h:F_eu n b a=some r):
    Csm prog 242 [.rsl 3 (List.map Cutoff.c b),.fn (.func 185) [] [.ptr 0 0]] [.cells 216 [.fn (.func 145) [] [.ptr 1 0]],.cells 242 [.map 2],.map (QV (λx=>A.int .i64 x) (λx=>A.int .i64 x) a)] (λr=>I r) r:=
 QU (el:=λx=>.agg (Cutoff.c x)) (g:=λx=>F_gf n x a) func242 Z Z Z runUnderlying109 sizeOf215 (λ_ _ _ _ d e=>Qu d isAgg215 sizeOf215 e Pts.rp Z Z) call185 (λ_ _ h=>k_gf _ _ _ _ h) h
def F_el(n:Nat)(a:List Cutoff)(b:List (Int×Int)):Option Bool:=
  (F_eu n a b).bind λc=>some (decide (0<=c))
theorem k_el(n:Nat)(a:List Cutoff)(b:List (Int×Int))(r:Bool)(h:F_el n a b=some r):
    Csm prog 184 [.rsl 3 (List.map Cutoff.c a),.fn (.func 185) [] [.ptr 0 0]] [.cells 216 [.fn (.func 145) [] [.ptr 1 0]],.cells 242 [.map 2],.map (QV (λx=>A.int .i64 x) (λx=>A.int .i64 x) b)] (λr=>.bool r) r:=by
 refine Qc func184 Z Z Z ?_;exact G0 9 Z (Cz [0,1,2] h (k_eu _ _ _) Z λe d h=>Go 5 Z (Rt h 4 [0,1,2]))
def F_dx(n:Nat)(a:List Cutoff)(b:List (Int×Int)):Option Bool:=
  (F_el n a b).bind λc=>some (!c)
theorem k_dx(n:Nat)(a:List Cutoff)(b:List (Int×Int))(r:Bool)(h:F_dx n a b=some r):
    Csm prog 123 [.rsl 3 (List.map Cutoff.c a),.fn (.func 145) [] [.ptr 0 0]] [.cells 242 [.map 1],.map (QV (λx=>A.int .i64 x) (λx=>A.int .i64 x) b)] (λr=>.bool r) r:=by
 refine Qc func123 Z Z Z ?_;exact G0 10 Z (Cz [2,0,1] h (k_el _ _ _) Z λe d h=>Go 5 Z (Rt h 4 [0,1]))
def F_be(n:Nat)(j:Course)(k:List (Ue×Bool))(c:List Int)(a:(List (Int×Int))×Int):Option (Ctl ((List (Int×Int))×Int) (Ctl (List (Int×Int)) Bool)):=
  (bif decide (a.2<(c.length:Int))then(idx c a.2).bind λb=>(idx j.Mats b).bind λd=>((bif ((d.Kind==1) != (a.2==0))then some true else(bif ((d.Kind==3) != (a.2==(IntKind.i64.wrap ((c.length:Int)-1))))then some true else(bif decide (0<a.2)then(idx c (IntKind.i64.wrap (a.2-1))).bind λe=>(some (QP k ({from_:=e,to_:=b:Ue}) false)).bind λf=>some (!f)else some false))):Option Bool).bind λg=>(bif g then some (.done (.done false))else(some (QP a.1 b 0)).bind λh=>(some (Yj a.1 b (IntKind.i64.wrap (h+1)))).bind λi=>some (.cont (i,IntKind.i64.wrap (a.2+1))))else some (.done (.cont a.1)))
def F_cc(n:Nat)(d:Course)(b:Distance)(e:List (Ue×Bool)):Option Bool:=
  (F_r n b.Route).bind λc=>((bif decide ((IntKind.i64.wrap ((c.length:Int)-1))<1)then some true else some (decide (256<=(IntKind.i64.wrap ((c.length:Int)-1))))):Option Bool).bind λl=>(bif l then some false else(iter (F_be n d e c) n ([],0):Option (Ctl (List (Int×Int)) Bool)).bind λf=>match f with|.cont a=>(((bif decide (0<=b.Extra)then(some (QP a b.Extra 0)).bind λg=>(bif (g==0)then some true else(idx d.Mats b.Extra).bind λh=>(bif (h.Kind != 2)then some true else(some (QP e ({from_:=b.Extra,to_:=b.Extra:Ue}) false)).bind λi=>some (!i)))else some false):Option Bool).bind λj=>(bif j then some false else(F_dx n b.Cutoffs a).bind λk=>some k))|.done a=>some a)
theorem k_cc(n:Nat)(a1:Course)(m:Distance)(y:List (Ue×Bool))(r:Bool)(h:F_cc n a1 m y=some r):
    Csm prog 74 [.agg (Course.c a1),.agg (Distance.c m),.map 0] [.map (QV (λx=>A.agg (Ue.c x)) A.bool y)] (λr=>.bool r) r:=by
 refine Qc func74 Z Z Z ?_;refine G0 11 Z (Cd [] h (k_r _ _) Z λr1 al h=>FE Z (Go 13 Z (Bd h λF p h=>?_)));refine Ct F [0,1,2,3] [2,3,4,7,8] (λF=>[(25,.bool F)]) Ze Zf ?_ (λenv H g=>?_)
 .refine G0 4 Z (Is 22 p Z (λac p=>?_) (λac p=>?_))
  .exact Go 4 Z (Cl p [0,1,2,3])
  .exact Go 4 Z (Cl p [0,1,2,3])
 refine Gx 1 Z (Ef g (Cn Z h (λad h=>?_) (λad h=>?_)))
 .exact Gc 7 Z (Rt h 6 [0])
 refine Gc 4 Z ?_;refine vH Yt ?_;refine FE Z (Go 12 Z (Bd h λae af h=>?_));refine CtE (b:=ae) [0,1,2,4,5] [2,3,4] (λ_=>[(9,.ptr 3 0)]) (λi=>[(3,.cells 242 [.map 4]),(4,.map (QV (λx=>A.int .i64 x) (λx=>A.int .i64 x) i))]) Zf ?_ (λi env H ag g=>?_)
 .refine G0 1 Z ?_;refine Lp [0,1,2,3,5,4] [2,3,4,7,8,9,27,28] (λf=>[(29,I f.2)]) (λf=>[(4,.cells 242 [.map 5]),(5,.map (QV (λx=>A.int .i64 x) (λx=>A.int .i64 x) f.1))]) af Zf (Lr [0,1,2,3,5,4]) λf am a q=>?_;refine G0 6 Z (Ja Z a (λG a=>?_) (λG a=>?_))
  .refine Gc 2 Z (Qz a ?_);obtain rfl:=Oj q a;exact Gx 1 Z (QD Z (Lr [0,1,2,4,5]))
  refine Gc 7 Z (Bd a λj s a=>?_);refine vX (.ptr 3 (Int.toNat f.2*1)) (QZ s Z runUnderlying66 sizeOf3) ?_;refine vX (I j) (Ey Z isAgg3 Z (Qq s)) ?_;refine Go 9 Z (Bd a λz J a=>Iz J Z (Go 7 Z (Bd a λt e a=>?_)));refine Ct t [0,1,2,3,4,5] [2,3,4,7,8,9,11,27,28,29] (λt=>[(68,.bool t)]) Ze Zf ?_ (λenv H g=>?_)
  .refine G0 5 Z ?_;refine vX (.bool ((z.Kind==1) != (f.2==0))) (Qfx runUnderlying4) ?_;refine Go 1 Z (Is 45 e Z (λL e=>?_) (λL e=>?_))
   .exact Go 24 Z (Cl e [0,1,2,3,4,5])
   .refine Go 5 Z ?_;refine vV (x:=(.bool ((z.Kind==3) != (f.2==(IntKind.i64.wrap ((r1.length:Int)-1)))))) (Qfx runUnderlying4) ?_ (gT Z);refine Go 2 Z (Is 53 e Z (λM e=>?_) (λM e=>?_))
    .exact Go 16 Z (Cl e [0,1,2,3,4,5])
    .refine Go 3 Z (Is 56 e Z (λN e=>?_) (λN e=>?_))
     .refine Go 4 Z (Bd e λB u e=>?_);refine vX (.ptr 3 (Int.toNat (IntKind.i64.wrap (f.2-1))*1)) (QZ u Z runUnderlying66 sizeOf3) ?_ (gT Z);refine vX (I B) (Ey Z isAgg3 Z (Qq u)) ?_ (gT Z);refine Go 2 Z (Bd e λah O e=>?_);refine vX (.bool ah) (YO (ev:=A.bool) (z0:=false) (k:=({from_:=B,to_:=j:Ue})) (l:=y) Qek O underlying160 zeroValue4 ZR.bool) ?_ (gT Z);exact Go 4 Z (Cl e [0,1,2,3,4,5])
     .exact Go 13 Z (Cl e [0,1,2,3,4,5])
  refine Gx 1 Z (Ef g (Cn Z a (λP a=>?_) (λP a=>?_)))
  .refine Gc 9 Z (Q4 a ?_);obtain rfl:=Oj q a;exact Gx 1 Z (QR (Gx 1 Z (Rt h 6 [0])))
  refine Gc 5 Z (Bd a λE Q a=>?_);refine vX (I E) (YO (ev:=(λx=>A.int .i64 x)) (z0:=0) (k:=j) (l:=f.1) QjF Q underlying242 zeroValue3 Eo) ?_;refine Go 1 Z (Bd a λan R a=>?_);refine vU (YQ (ev:=(λx=>A.int .i64 x)) (k:=j) (v:=(IntKind.i64.wrap (E+1))) (l:=f.1) QjF R Z underlying242) ?_;exact FE Z (Go 7 Z (Qv a (Lr [0,1,2,3,4,5])))
 subst ag;refine Gx 1 Z (Ef g (Gc 9 Z (Bd h λw d h=>?_)));refine Ct w [0,2,3,4] [4,9] (λw=>[(100,.bool w)]) (λ_=>[(2,.cells 242 [.map 3])]) Zf ?_ (λenv H g=>?_)
 .refine G0 4 Z (Is 78 d Z (λT d=>?_) (λT d=>?_))
  .refine Go 2 Z (Bd d λai V d=>?_);refine vX (I ai) (YO (ev:=(λx=>A.int .i64 x)) (z0:=0) (k:=m.Extra) (l:=i) QjF V underlying242 zeroValue3 Eo) ?_ (gT Z);refine Go 2 Z (Is 83 d Z (λW d=>?_) (λW d=>?_))
   .exact Go 18 Z (Cl d [0,2,3,4])
   .refine Go 3 Z (Bd d λao X d=>Iz X Z (Go 5 Z (Is 92 d Z (λY d=>?_) (λY d=>?_))))
    .exact Go 9 Z (Cl d [0,2,3,4])
    .refine Go 4 Z (Bd d λaj aa d=>?_);refine vX (.bool aj) (YO (ev:=A.bool) (z0:=false) (k:=({from_:=m.Extra,to_:=m.Extra:Ue})) (l:=y) Qek aa underlying160 zeroValue4 ZR.bool) ?_ (gT Z);exact Go 4 Z (Cl d [0,2,3,4])
  .exact Go 23 Z (Cl d [0,2,3,4])
 refine Gx 1 Z (Ef g (Cn Z h (λab h=>?_) (λab h=>?_)))
 .exact Gc 7 Z (Rt h 6 [0])
 exact Gc 7 Z (Cz [2,3] h (k_dx _ _ _) Z λaq ak h=>Go 4 Z (Rt h 6 [0]))
def F_dj(n:Nat)(a:Distance)(b:Course)(c:List (Ue×Bool)):Option Bool:=
  (F_cc n b a c).bind λd=>some d
theorem k_dj(n:Nat)(a:Distance)(b:Course)(d:List (Ue×Bool))(r:Bool)(h:F_dj n a b d=some r):
    Csm prog 73 [.agg (Distance.c a),.ptr 0 0,.ptr 1 0] [.cells 33 (Course.c b),.cells 160 [.map 2],.map (QV (λx=>A.agg (Ue.c x)) A.bool d)] (λr=>.bool r) r:=by
 refine Qc func73 Z Z Z ?_;exact G0 11 Z (Cz [2] h (k_cc _ _ _ _) Z λf e h=>Go 4 Z (Rt h 4 [0,1,2]))
def F_ec(n:Nat)(a:Distance)(b:Course)(c:List (Ue×Bool)):Option Bool:=
  (F_dj n a b c).bind λd=>some (!d)
theorem k_ec(n:Nat)(a:Distance)(b:Course)(d:List (Ue×Bool))(r:Bool)(h:F_ec n a b d=some r):
    Csm prog 143 [.agg (Distance.c a),.ptr 0 0] [.cells 167 [.fn (.func 73) [] [.ptr 1 0,.ptr 2 0]],.cells 33 (Course.c b),.cells 160 [.map 3],.map (QV (λx=>A.agg (Ue.c x)) A.bool d)] (λr=>.bool r) r:=by
 refine Qc func143 Z Z Z ?_;exact G0 10 Z (Cz [1,2,3] h (k_dj _ _ _ _) Z λf e h=>Go 5 Z (Rt h 3 [0,1,2,3]))
def F_im(n:Nat)(b:List Distance)(e:Course)(f:List (Ue×Bool))(a:Int):Option (Ctl Int (Ctl Unit Int)):=
  (bif decide (a<(b.length:Int))then(idx b a).bind λc=>(F_ec n c e f).bind λd=>(bif d then some (.done (.done a))else some (.cont (IntKind.i64.wrap (a+1))))else some (.done (.cont ())))
def F_et(n:Nat)(c:List Distance)(d:Course)(e:List (Ue×Bool)):Option Int:=
  (iter (F_im n c d e) n 0:Option (Ctl Unit Int)).bind λb=>match b with|.cont a=>(some (-1))|.done a=>some a
theorem k_et(n:Nat)(d:List Distance)(a:Course)(b:List (Ue×Bool))(r:Int)(h:F_et n d a b=some r):
    Csm prog 201 [.rsl 5 (List.map Distance.c d),.fn (.func 143) [] [.ptr 0 0]] [.cells 167 [.fn (.func 73) [] [.ptr 1 0,.ptr 2 0]],.cells 33 (Course.c a),.cells 160 [.map 3],.map (QV (λx=>A.agg (Ue.c x)) A.bool b)] (λr=>I r) r:=
 QU (el:=λx=>.agg (Distance.c x)) (g:=λx=>F_ec n x a b) func201 Z Z Z runUnderlying24 sizeOf111 (λ_ _ _ _ e f=>Qu e isAgg111 sizeOf111 f Pts.rp Z Z) call143 (λ_ _ h=>k_ec _ _ _ _ _ h) h
def F_dn(n:Nat)(a:List Distance)(b:Course)(c:List (Ue×Bool)):Option Bool:=
  (F_et n a b c).bind λd=>some (decide (0<=d))
theorem k_dn(n:Nat)(a:List Distance)(b:Course)(d:List (Ue×Bool))(r:Bool)(h:F_dn n a b d=some r):
    Csm prog 142 [.rsl 5 (List.map Distance.c a),.fn (.func 143) [] [.ptr 0 0]] [.cells 167 [.fn (.func 73) [] [.ptr 1 0,.ptr 2 0]],.cells 33 (Course.c b),.cells 160 [.map 3],.map (QV (λx=>A.agg (Ue.c x)) A.bool d)] (λr=>.bool r) r:=by
 refine Qc func142 Z Z Z ?_;exact G0 9 Z (Cz [0,1,2,3] h (k_et _ _ _ _) Z λf e h=>Go 5 Z (Rt h 4 [0,1,2,3]))
def F_cz(n:Nat)(a:List Distance)(b:Course)(c:List (Ue×Bool)):Option Bool:=
  (F_dn n a b c).bind λd=>some (!d)
theorem k_cz(n:Nat)(a:List Distance)(b:Course)(d:List (Ue×Bool))(r:Bool)(h:F_cz n a b d=some r):
    Csm prog 72 [.rsl 5 (List.map Distance.c a),.fn (.func 73) [] [.ptr 0 0,.ptr 1 0]] [.cells 33 (Course.c b),.cells 160 [.map 2],.map (QV (λx=>A.agg (Ue.c x)) A.bool d)] (λr=>.bool r) r:=by
 refine Qc func72 Z Z Z ?_;exact G0 10 Z (Cz [3,0,1,2] h (k_dn _ _ _ _) Z λf e h=>Go 5 Z (Rt h 4 [0,1,2]))
def F_hf(n:Nat)(c:Course)(a:(List (Ue×Bool))×Int):Option (Ctl ((List (Ue×Bool))×Int) (List (Ue×Bool))):=
  (bif decide (a.2<(c.Legs.length:Int))then(idx c.Legs a.2).bind λb=>(some (Yj a.1 ({from_:=b.From,to_:=b.To:Ue}) true)).bind λd=>some (.cont (d,IntKind.i64.wrap (a.2+1)))else some (.done a.1))
def F_j(n:Nat)(a:Course):Option Int:=
  (F_bu n a).bind λe=>(bif (!e)then some 2 else(F_bj n a).bind λf=>(bif (!f)then some 70 else(F_cg n a).bind λg=>(bif (!g)then some 71 else(F_cp n a.Ties).bind λb=>(bif (b != 0)then some b else(iter (F_hf n a) n ([],0):Option (List (Ue×Bool))).bind λc=>(F_cz n a.Distances a c).bind λd=>(bif (!d)then some 72 else some 0)))))
theorem k_j(n:Nat)(p:Course)(r:Int)(h:F_j n p=some r):
    Csm prog 37 [.agg (Course.c p)] [] (λr=>I r) r:=by
 refine Qc func37 Z Z Z ?_;refine G0 11 Z (Cz [] h (k_bu _ _) Z λN B h=>Go 4 Z (Cn Z h (λq h=>?_) (λq h=>?_)))
 .exact Gc 8 Z (Rt h 2 [])
 refine Gc 3 Z (Cz [] h (k_bj _ _) Z λO E h=>Go 4 Z (Cn Z h (λs h=>?_) (λs h=>?_)))
 .exact Gc 8 Z (Rt h 2 [])
 refine Gc 3 Z (Cz [] h (k_cg _ _) Z λP F h=>Go 4 Z (Cn Z h (λt h=>?_) (λt h=>?_)))
 .exact Gc 8 Z (Rt h 2 [])
 refine Gc 8 Z (Cz [] h (k_cp _ _) Z λQ G h=>Go 9 Z (Cn Z h (λu h=>?_) (λu h=>?_)))
 .exact Gc 8 Z (Rt h 2 [])
 refine Gc 4 Z ?_;refine vH Yt ?_;refine FE Z (Go 9 Z (Lm Z (Go 3 Z (Bd h λd w h=>?_))));refine Ct d [0,1,2] [1] (λ_=>[(3,.ptr 1 0)]) (λd=>[(1,.cells 160 [.map 2]),(2,.map (QV (λx=>A.agg (Ue.c x)) A.bool d))]) Zf ?_ (λenv H y=>?_)
 .refine G0 1 Z ?_;refine Lp [0,2,1] [1,3,26,27] (λb=>[(28,I b.2)]) (λb=>[(1,.cells 160 [.map 2]),(2,.map (QV (λx=>A.agg (Ue.c x)) A.bool b.1))]) w Zf (Lr [0,2,1]) λb J a f=>?_;refine G0 6 Z (Ja Z a (λg a=>?_) (λg a=>?_))
  .refine Gc 2 Z (Qz a ?_);obtain rfl:=Oj f a;exact Gx 1 Z (QW (Lr [0,1,2]))
  refine Gc 6 Z (Bd a λe i a=>Iz i Z (Go 12 Z (Bd a λL j a=>?_)));refine vU (YQ (ev:=A.bool) (k:=({from_:=e.From,to_:=e.To:Ue})) (v:=true) (l:=b.1) Qek j Z underlying160) ?_;exact FE Z (Go 7 Z (Qv a (Lr [0,1,2])))
 refine Gx 1 Z (Ef y (Gc 6 Z (Cz [0,1,2] h (k_cz _ _ _ _) Z λM z h=>Go 3 Z (Cn Z h (λm h=>?_) (λm h=>?_)))))
 .exact Gc 7 Z (Rt h 2 [])
 exact Gc 8 Z (Rt h 2 [])
def F_i(n:Nat)(b:Course)(a:Int):Option Bool:=
  ((bif decide (0<=a)then some (decide (a<(b.Mats.length:Int)))else some false):Option Bool).bind λb2=>some b2
theorem k_i(n:Nat)(b:Course)(d:Int)(r:Bool)(h:F_i n b d=some r):
    Csm prog 39 [.agg (Course.c b),I d] [] (λr=>.bool r) r:=by
 refine Qc func39 Z Z Z ?_;refine G0 7 Z (Bd h λb2 a h=>?_);refine Ct b2 [] [] (λb2=>[(4,.bool b2)]) Ze Zf ?_ (λenv H e=>?_)
 .refine G0 4 Z (Is 7 a Z (λf a=>?_) (λf a=>?_))
  .exact Go 3 Z (Lm Z (Go 4 Z (Cl a [])))
  .exact Go 8 Z (Cl a [])
 exact Gx 1 Z (Ef e (Gc 1 Z (Rt h 4 [])))
def F_m(n:Nat)(a:Int):Option Bool:=
  ((bif decide ((-1099511627776)<=a)then some (decide (a<=1099511627776))else some false):Option Bool).bind λb2=>some b2
theorem k_m(n:Nat)(b:Int)(r:Bool)(h:F_m n b=some r):
    Csm prog 46 [I b] [] (λr=>.bool r) r:=by
 refine Qc func46 Z Z Z ?_;refine G0 6 Z (Bd h λb2 a h=>?_);refine Ct b2 [] [] (λb2=>[(2,.bool b2)]) Ze Zf ?_ (λenv H c=>?_)
 .refine G0 4 Z (Is 5 a Z (λd a=>?_) (λd a=>?_))
  .exact Go 5 Z (Cl a [])
  .exact Go 5 Z (Cl a [])
 exact Gx 1 Z (Ef c (Gc 1 Z (Rt h 2 [])))
def F_bs(n:Nat)(a:Int)(b:Int):Option (Int×Int):=
  ((bif decide (a<(-2199023255552))then some true else(bif decide (2199023255552<a)then some true else(bif decide (b<0)then some true else some (decide (100000<b))))):Option Bool).bind λc=>(bif c then some (0,1)else some (IntKind.i64.wrap (Int.tdiv (IntKind.i64.wrap ((IntKind.i64.wrap ((IntKind.i64.wrap ((if a<IntKind.i64.wrap (0-a)then IntKind.i64.wrap (0-a)else a)*b))+1000000))-1)) 1000000),0))
theorem k_bs(n:Nat)(b:Int)(c:Int)(r:Int×Int)(h:F_bs n b c=some r):
    Csm prog 95 [I b,I c] [] (λr=>.tup [I r.1,I r.2]) r:=by
 refine Qc func95 Z Z Z ?_;refine G0 8 Z (Bd h λd a h=>?_);refine Ct d [] [0,1] (λd=>[(19,.bool d)]) Ze Zf ?_ (λenv H e=>?_)
 .refine G0 4 Z (Is 8 a Z (λf a=>?_) (λf a=>?_))
  .exact Go 12 Z (Cl a [])
  .refine Go 4 Z (Is 12 a Z (λg a=>?_) (λg a=>?_))
   .exact Go 8 Z (Cl a [])
   .refine Go 4 Z (Is 16 a Z (λi a=>?_) (λi a=>?_))
    .exact Go 4 Z (Cl a [])
    .exact Go 4 Z (Cl a [])
 refine Gx 1 Z (Ef e (Cn Z h (λj h=>?_) (λj h=>?_)))
 .refine Gc 8 Z ?_;obtain rfl:=Oi h;exact R2 4 5 Z Z (Lr [])
 refine Gc 7 Z ?_;refine vX (I (if b<IntKind.i64.wrap (0-b)then IntKind.i64.wrap (0-b)else b)) (OpV.max Z Z Z Z) ?_;refine Go 4 Z ?_;refine vV (x:=(I (IntKind.i64.wrap (Int.tdiv (IntKind.i64.wrap ((IntKind.i64.wrap ((IntKind.i64.wrap ((if b<IntKind.i64.wrap (0-b)then IntKind.i64.wrap (0-b)else b)*c))+1000000))-1)) 1000000)))) (OpV.quo Z Z Z (by decide)) ?_;refine Go 5 Z ?_;obtain rfl:=Oi h;exact R2 4 5 Z Z (Lr [])
def F_aa(n:Nat)(a:Course)(b:Segment)(e:Int):Option Span:=
  (idx a.Mats b.Mat).bind λf=>((bif (f.Kind != 1)then(F_bs n (IntKind.i64.wrap (e-b.Anchor)) a.Faults.Drift).bind λc=>some ({Lo:=IntKind.i64.wrap (0-c.1),Hi:=IntKind.i64.wrap (a.Faults.Residual+c.1):Span})else some ({Lo:=0,Hi:=a.Faults.Residual:Span})):Option Span).bind λd=>some ({Lo:=d.Lo,Hi:=d.Hi:Span})
theorem k_aa(n:Nat)(d:Course)(e:Segment)(f:Int)(r:Span)(h:F_aa n d e f=some r):
    C prog 47 [.agg (Course.c d),.agg (Segment.c e),I f] [] (RQ (λr=>.agg [I r.Lo,I r.Hi]) (λr=>[.cells 44 [I r.Lo,I r.Hi]]) r):=by
 refine Qc func47 Z Z Z ?_;refine G0 24 Z (Bd h λl g h=>Iz g Z (Go 5 Z (Bd h λb a h=>?_)));refine Ct b [2,3] [6,7] Ze (λb=>[(1,.cells 44 [I b.Lo,I b.Hi])]) Zf ?_ (λenv H i=>?_)
 .refine G0 0 Z (Cn Z a (λj a=>?_) (λj a=>?_))
  .exact Gc 9 Z (Cd [] a (k_bs _ _ _) Z λm k a=>FE Z (Go 21 Z (Cl a [2,3])))
  exact Gc 1 Z (Cl a [2,3])
 refine Gx 1 Z (Ef i (Gc 7 Z ?_));obtain rfl:=Oi h;exact Rx [0] [6] Z (YY Z (Qj isAgg44 sizeOf44 Z Z Z)) ⟨Z,Z⟩
def F_gw(n:Nat)(b:Course)(c:Segment)(d:Int):Option (Span×Int):=
  (F_j n b).bind λe=>(bif (e != 0)then some ({Lo:=0,Hi:=0:Span},e)else((F_i n b c.Mat).bind λf=>(bif (!f)then some true else(F_m n d).bind λg=>(bif (!g)then some true else(F_m n c.Anchor).bind λh=>some (!h))):Option Bool).bind λi=>(bif i then some ({Lo:=0,Hi:=0:Span},1)else(F_aa n b c d).bind λa=>some ({Lo:=a.Lo,Hi:=a.Hi:Span},0)))
theorem k_gw(n:Nat)(g:Course)(i:Segment)(j:Int)(r:Span×Int)(h:F_gw n g i j=some r):
    C prog 15 [.agg (Course.c g),.agg (Segment.c i),I j] [] (RQ (λr=>.tup [.agg [I r.1.Lo,I r.1.Hi],I r.2]) (λr=>[.cells 44 [I r.1.Lo,I r.1.Hi]]) r):=by
 refine Qc func15 Z Z Z ?_;refine G0 12 Z (Cz [] h (k_j _ _) Z λz t h=>Go 9 Z (Cn Z h (λk h=>?_) (λk h=>?_)))
 .refine Gc 10 Z ?_;obtain rfl:=Oi h;exact Rx [2] [6,7] Z (Qm Z Z (Qjb.cons (Qj isAgg44 sizeOf44 Z Z Z) (Qjb.cons Qd0.tmp Qjb.nil))) ⟨Z,Z⟩
 refine Gc 4 Z (Bd h λb a h=>?_);refine Ct b [0,1,2] [2,3,4,6] (λb=>[(29,.bool b)]) Ze Zf ?_ (λenv H l=>?_)
 .refine G0 4 Z (Cz [] a (k_i _ _ _) Z λu m a=>Go 2 Z (Is 19 a Z (λd a=>?_) (λd a=>?_)))
  .exact Go 11 Z (Cl a [0,1,2])
  .refine Go 1 Z (Cz [] a (k_m _ _) Z λw p a=>Go 3 Z (Is 24 a Z (λe a=>?_) (λe a=>?_)))
   .exact Go 6 Z (Cl a [0,1,2])
   .exact Go 2 Z (Cz [] a (k_m _ _) Z λx q a=>Go 3 Z (Cl a [0,1,2]))
 refine Gx 1 Z (Ef l (Cn Z h (λf h=>?_) (λf h=>?_)))
 .refine Gc 9 Z ?_;obtain rfl:=Oi h;exact Rx [2] [6,7] Z (Qm Z Z (Qjb.cons (Qj isAgg44 sizeOf44 Z Z Z) (Qjb.cons Qd0.tmp Qjb.nil))) ⟨Z,Z⟩
 refine Gc 7 Z (Cd [] h (k_aa _ _ _ _) Z λy s h=>FE Z (Go 5 Z ?_));obtain rfl:=Oi h;exact Rx [2] [6,7] Z (Qm Z Z (Qjb.cons (Qj isAgg44 sizeOf44 Z Z Z) (Qjb.cons Qd0.tmp Qjb.nil))) ⟨Z,Z⟩
def F_p(n:Nat)(a:List Fact)(b:Int):Option Unit:=
  some ()
theorem k_p(n:Nat)(a:List Fact)(b:Int)(r:Unit)(h:F_p n a b=some r):
    C prog 40 [.rsl 57 (List.map Fact.c a),I b] [] (RQ (λ_=>.fn (.func 75) [] [.ptr 0 0,.ptr 1 0]) (λ_=>[.cells 34 [.rsl 57 (List.map Fact.c a)],.cells 3 [I b]]) r):=by
 refine Qc func40 Z Z Z ?_;refine G0 2 Z ?_;refine vH (OpH.box Z Z Z Z Z) ?_;exact FE Z (Go 11 Z (Rt h 4 [0,1]))
def F_fb(n:Nat)(a:List Fact):Option (List Fact):=
  isNil a (some []) ((app ([]:List Fact) a).bind λb=>some b)
theorem k_fb(n:Nat)(a:List Fact)(r:List Fact)(h:F_fb n a=some r):
    C prog 77 [.rsl 57 (List.map Fact.c a)] [] (RQ (λr=>.osl 0 0 r.length 57) (λr=>[.row 96 57 (List.map Fact.c r)]) r):=by
 refine Qc func77 Z Z Z ?_;refine G0 9 Z ?_;refine QmI (e:=Fact.c) (l:=a) underlying34 Z (λb1 b=>?_);have hkb1:=QlY h b1 b;cases b1
 .have h:=hkb1.2 Z;refine Go 7 Z ?_;refine vH (El (xs:=[]) (es:=List.map Fact.c []) Qgf Z Z Z Z Z trivial Z Z) ?_;refine FE Z (Go 1 Z (Bd h λf d h=>?_));refine vH (Yp (e:=Fact.c) d Qgf runUnderlying34 Qcr) ?_;exact FE Z (Go 4 Z (Rt h 2 [1]))
 .have h:=hkb1.1 Z;refine Go 10 Z ?_;obtain rfl:=Oi h;refine R1 2 Z ?_;refine En (Er (s:=2) (k:=57) (t:=96) (XR Z) Z) ?_;exact Lr [0]
end Go.Sw
