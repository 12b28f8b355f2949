/- What the functions compute that ClocksAlignSpec reaches, and that their calls refine it (part 2 of 5). -/
import Derived.Test.YthnmbndffmhalaaGreatDoorW16Al1
set_option linter.unusedVariables false
set_option linter.unusedSimpArgs false
set_option maxRecDepth 100000
set_option maxHeartbeats 4000000
namespace Go.Sw
open Option renaming some→AC,none→AF,bind→AH
open Bool renaming false→AD,true→AE
open Decidable renaming decide→AG
open List renaming length→AI
open Go renaming Value→AL
variable (n:Nat)
open List(map)
open Int(toNat)
open Go.IntKind(i64 u64 u8)
open Go.Proofs Tryz
def Ff(d:Bm)(e:Int):Bq->Go.Sw.A->Qc->Prop
  |.c0 x,a,H=>a=.t [.a [.o 2 8 3,.f 237],.b AE]/\H=[.c 88 (Bm.c d),.c 3 [I e],.R 284 3 [B3 0 4 1 9999,B3 0 5 0 7,B3 0 6 0 31,B3 0 7 (-1099511627776) 1099511627776,B3 0 8 0 120,B3 0 9 0 1048576,B3 0 10 0 9999,B3 0 11 0 1048576],.c 274 [.o 2 8 3,.f 237]]
  |.c1 x,a,H=>a=.t [.a [.o 2 4 3,.f 237],.b AE]/\H=[.c 88 (Bm.c d),.c 3 [I e],.R 284 3 [B3 0 12 0 39,B3 0 13 0 255,B3 0 14 0 1048576,B3 0 15 (-1099511627776) 1099511627776],.c 274 [.o 2 4 3,.f 237]]
  |.c2 x,a,H=>a=.t [.a [.o 2 5 3,.f 237],.b AE]/\H=[.c 88 (Bm.c d),.c 3 [I e],.R 284 3 [B3 0 16 0 39,B3 0 17 0 255,B3 0 18 (-1099511627776) 1099511627776,B3 0 19 (-1099511627776) 1099511627776,B3 0 20 0 1099511627776],.c 274 [.o 2 5 3,.f 237]]
  |.c3 x,a,H=>a=.t [.a [.o 2 8 3,.fn (.func 238) [] [.p 3 0]],.b AE]/\H=[.c 88 (Bm.c d),.c 3 [I e],.R 284 3 [B3 0 21 0 39,B3 0 22 0 255,B3 0 23 (-1099511627776) 1099511627776,B3 0 24 0 39,B3 0 25 0 255,B3 0 26 (-1099511627776) 1099511627776,B3 0 27 (-1099511627776) 1099511627776,B3 0 28 (-1099511627776) 1099511627776],.c 324 [.p 0 21],.c 274 [.o 2 8 3,.fn (.func 238) [] [.p 3 0]]]
  |.c4 x,a,H=>a=.t [.a [.o 2 4 3,.fn (.func 239) [] [.p 3 0]],.b AE]/\H=[.c 88 (Bm.c d),.c 3 [I e],.R 284 3 [B3 0 29 1 9999,B3 0 30 0 255,B3 0 31 (-1099511627776) 1099511627776,B3 0 32 (-1099511627776) 1099511627776],.c 325 [.p 0 29],.c 274 [.o 2 4 3,.fn (.func 239) [] [.p 3 0]]]
  |.c5 x,a,H=>a=.t [.a [.o 2 4 3,.fn (.func 240) [] [.p 3 0]],.b AE]/\H=[.c 88 (Bm.c d),.c 3 [I e],.R 284 3 [B3 0 33 0 39,B3 0 34 0 255,B3 0 35 (-1099511627776) 1099511627776,B3 0 36 (-1099511627776) 1099511627776],.c 326 [.p 0 33],.c 274 [.o 2 4 3,.fn (.func 240) [] [.p 3 0]]]
  |.c6 x,a,H=>a=.t [.a [.o 2 2 3,.fn (.func 241) [] [.p 3 0]],.b AE]/\H=[.c 88 (Bm.c d),.c 3 [I e],.R 284 3 [B3 0 37 1 9999,B3 0 38 1 9999],.c 327 [.p 0 37],.c 274 [.o 2 2 3,.fn (.func 241) [] [.p 3 0]]]
  |.c7 x,a,H=>a=.t [.a [.o 2 4 3,.f 237],.b AE]/\H=[.c 88 (Bm.c d),.c 3 [I e],.R 284 3 [B3 0 39 1 1048576,B3 0 40 1 9999,B3 0 41 0 31,B3 0 42 0 255],.c 274 [.o 2 4 3,.f 237]]
  |.c8 x,a,H=>a=.t [.a [.o 2 4 3,.f 237],.b AE]/\H=[.c 88 (Bm.c d),.c 3 [I e],.R 284 3 [B3 0 43 1 1048576,B3 0 44 0 9999,B3 0 45 0 1125899906842624,B3 0 46 0 1],.c 274 [.o 2 4 3,.f 237]]
  |.c9 x,a,H=>a=.t [.a [.o 2 6 3,.f 237],.b AE]/\H=[.c 88 (Bm.c d),.c 3 [I e],.R 284 3 [B3 0 47 1 1048576,B3 0 48 1 2,B3 0 49 1 5,B3 0 50 x.1 x.2.1,B3 0 51 x.2.2.1 x.2.2.2.1,B3 0 52 x.2.2.2.2.1 x.2.2.2.2.2],.c 274 [.o 2 6 3,.f 237]]
  |.c10 x,a,H=>a=.t [.a [.o 2 2 3,.f 237],.b AE]/\H=[.c 88 (Bm.c d),.c 3 [I e],.R 284 3 [B3 0 53 1 1048576,B3 1 0 0 1],.c 274 [.o 2 2 3,.f 237]]
  |.c11 x,a,H=>a=.t [.a [.n,.f 237],.b AE]/\H=[.c 88 (Bm.c d),.c 3 [I e],.c 274 [.n,.f 237]]
  |.c12 x,a,H=>a=.t [.a [.o 2 2 3,.f 237],.b AE]/\H=[.c 88 (Bm.c d),.c 3 [I e],.R 284 3 [B3 0 55 0 31,B3 0 56 1 1048576],.c 274 [.o 2 2 3,.f 237]]
  |.c13 x,a,H=>a=.t [.a [.n,.nilf],.b AD]/\H=[.c 88 (Bm.c d),.c 3 [I e],.c 274 [.n,.nilf]]
def L2(n:Nat)(a:Bm)(f:Int):AB Bq:=(bif (a.AN==1)then AC (Bq.c0 ())else(bif (a.AN==2)then AC (Bq.c1 ())else(bif (a.AN==3)then AC (Bq.c2 ())else(bif (a.AN==4)then AC (Bq.c3 ())else(bif (a.AN==5)then AC (Bq.c4 ())else(bif (a.AN==6)then AC (Bq.c5 ())else(bif (a.AN==7)then AC (Bq.c6 ())else(bif (a.AN==8)then AC (Bq.c7 ())else(bif (a.AN==9)then AC (Bq.c8 ())else(bif (a.AN==10)then AH ((bif (a.AS.AN==1)then AC (a.AS.AN==1)else AC (a.AS.AN==2)):AB Bool) λe=>AH ((bif e then AC ({least:=0,most:=0:Ub},{least:=0,most:=0:Ub},{least:=0,most:=0:Ub})else(bif (a.AS.AN==3)then AC ({least:=1,most:=9999:Ub},{least:=0,most:=255:Ub},{least:=1,most:=1099511627776:Ub})else(bif (a.AS.AN==4)then AC ({least:=1,most:=9999:Ub},{least:=0,most:=255:Ub},{least:=1,most:=64:Ub})else AC ({least:=1,most:=9999:Ub},{least:=0,most:=255:Ub},{least:=0,most:=0:Ub})))):AB (Ub×Ub×Ub)) λd=>AC (Bq.c9 (d.1.least,d.1.most,d.2.1.least,d.2.1.most,d.2.2.least,d.2.2.most))else(bif (a.AN==11)then AC (Bq.c10 ())else(bif (a.AN==12)then AC (Bq.c11 ())else(bif (a.AN==13)then AC (Bq.c12 ())else AC (Bq.c13 ()))))))))))))))
theorem Wy(d:Bm)(e:Int)(r:Bq)(h:L2 n d e=AC r):C prog 190 [.p 0 0,.p 1 0] [.c 88 (Bm.c d),.c 3 [I e]] (Ff d e r):=by
 refine QK func190 Z Z Z ?_;refine G0 22 Z (Cn Z h (λ_ h=>?_) (λ_ h=>?_))
 .refine Gc 9 Z (C5 40 Z (D 40 Z (Ei Z ?_)));refine vH (YQ (xs:=[.tmp 32,.tmp 37,.tmp 42,.tmp 47,.tmp 52,.tmp 57,.tmp 62,.tmp 67]) JI Z Z Z Z Z ⟨Z,Z,Z,Z,Z,Z,Z,Z,trivial⟩ Z) ?_;refine Fg 8 Z Z ?_;obtain rfl:=Oi h;exact Rx [0,1,3,2] [4,5] Z (Qo Z Z (CC.cons (Qf E5 E0 Z Z Z) (CC.cons C_.tmp CC.nil))) ⟨Z,Z⟩
 refine Gc 6 Z (Cn Z h (λ_ h=>?_) (λ_ h=>?_))
 .refine Gc 9 Z (C5 20 Z (D 20 Z (Ei Z ?_)));refine vH (YQ (xs:=[.tmp 79,.tmp 84,.tmp 89,.tmp 94]) JI Z Z Z Z Z ⟨Z,Z,Z,Z,trivial⟩ Z) ?_;refine Fg 8 Z Z ?_;obtain rfl:=Oi h;exact Rx [0,1,3,2] [4,5] Z (Qo Z Z (CC.cons (Qf E5 E0 Z Z Z) (CC.cons C_.tmp CC.nil))) ⟨Z,Z⟩
 refine Gc 6 Z (Cn Z h (λ_ h=>?_) (λ_ h=>?_))
 .refine Gc 9 Z (C5 25 Z (D 25 Z (Ei Z ?_)));refine vH (YQ (xs:=[.tmp 106,.tmp 111,.tmp 116,.tmp 121,.tmp 126]) JI Z Z Z Z Z ⟨Z,Z,Z,Z,Z,trivial⟩ Z) ?_;refine Fg 8 Z Z ?_;obtain rfl:=Oi h;exact Rx [0,1,3,2] [4,5] Z (Qo Z Z (CC.cons (Qf E5 E0 Z Z Z) (CC.cons C_.tmp CC.nil))) ⟨Z,Z⟩
 refine Gc 6 Z (Cn Z h (λ_ h=>?_) (λ_ h=>?_))
 .refine Gc 10 Z (KN 42 40 [0,0,0,0,0,0,0,0,0,0,0,0,0,0,0,0,0,0,0,0,0,0,0,0,0,0,0,0,0,0,0,0,0,0,0,0,0,0,0,0,1,3] (by kernel_rfl) (Da 40 Z ?_));refine Mv (YQ (xs:=[.tmp 138,.tmp 143,.tmp 148,.tmp 153,.tmp 158,.tmp 163,.tmp 168,.tmp 173]) JI Z Z Z Z Z ⟨Z,Z,Z,Z,Z,Z,Z,Z,trivial⟩ Z) Z Z (Db 1 Z (DB.done Z (Go 8 Z ?_)));obtain rfl:=Oi h;exact Rx [0,1,4,3,2] [4,5] Z (Qo Z Z (CC.cons (Qf E5 E0 Z Z Z) (CC.cons C_.tmp CC.nil))) ⟨Z,Z⟩
 refine Gc 6 Z (Cn Z h (λ_ h=>?_) (λ_ h=>?_))
 .refine Gc 10 Z (KN 22 20 [0,0,0,0,0,0,0,0,0,0,0,0,0,0,0,0,0,0,0,0,1,3] (by kernel_rfl) (Da 20 Z ?_));refine Mv (YQ (xs:=[.tmp 186,.tmp 191,.tmp 196,.tmp 201]) JI Z Z Z Z Z ⟨Z,Z,Z,Z,trivial⟩ Z) Z Z (Db 1 Z (DB.done Z (Go 8 Z ?_)));obtain rfl:=Oi h;exact Rx [0,1,4,3,2] [4,5] Z (Qo Z Z (CC.cons (Qf E5 E0 Z Z Z) (CC.cons C_.tmp CC.nil))) ⟨Z,Z⟩
 refine Gc 6 Z (Cn Z h (λ_ h=>?_) (λ_ h=>?_))
 .refine Gc 10 Z (KN 22 20 [0,0,0,0,0,0,0,0,0,0,0,0,0,0,0,0,0,0,0,0,1,3] (by kernel_rfl) (Da 20 Z ?_));refine Mv (YQ (xs:=[.tmp 214,.tmp 219,.tmp 224,.tmp 229]) JI Z Z Z Z Z ⟨Z,Z,Z,Z,trivial⟩ Z) Z Z (Db 1 Z (DB.done Z (Go 8 Z ?_)));obtain rfl:=Oi h;exact Rx [0,1,4,3,2] [4,5] Z (Qo Z Z (CC.cons (Qf E5 E0 Z Z Z) (CC.cons C_.tmp CC.nil))) ⟨Z,Z⟩
 refine Gc 6 Z (Cn Z h (λ_ h=>?_) (λ_ h=>?_))
 .refine Gc 10 Z (KN 12 10 [0,0,0,0,0,0,0,0,0,0,1,3] (by kernel_rfl) (Da 10 Z ?_));refine Mv (YQ (xs:=[.tmp 242,.tmp 247]) JI Z Z Z Z Z ⟨Z,Z,trivial⟩ Z) Z Z (Db 1 Z (DB.done Z (Go 8 Z ?_)));obtain rfl:=Oi h;exact Rx [0,1,4,3,2] [4,5] Z (Qo Z Z (CC.cons (Qf E5 E0 Z Z Z) (CC.cons C_.tmp CC.nil))) ⟨Z,Z⟩
 refine Gc 6 Z (Cn Z h (λ_ h=>?_) (λ_ h=>?_))
 .refine Gc 9 Z (C5 20 Z (D 20 Z (Ei Z ?_)));refine vH (YQ (xs:=[.tmp 260,.tmp 265,.tmp 270,.tmp 275]) JI Z Z Z Z Z ⟨Z,Z,Z,Z,trivial⟩ Z) ?_;refine Fg 8 Z Z ?_;obtain rfl:=Oi h;exact Rx [0,1,3,2] [4,5] Z (Qo Z Z (CC.cons (Qf E5 E0 Z Z Z) (CC.cons C_.tmp CC.nil))) ⟨Z,Z⟩
 refine Gc 6 Z (Cn Z h (λ_ h=>?_) (λ_ h=>?_))
 .refine Gc 9 Z (C5 20 Z (D 20 Z (Ei Z ?_)));refine vH (YQ (xs:=[.tmp 287,.tmp 292,.tmp 297,.tmp 302]) JI Z Z Z Z Z ⟨Z,Z,Z,Z,trivial⟩ Z) ?_;refine Fg 8 Z Z ?_;obtain rfl:=Oi h;exact Rx [0,1,3,2] [4,5] Z (Qo Z Z (CC.cons (Qf E5 E0 Z Z Z) (CC.cons C_.tmp CC.nil))) ⟨Z,Z⟩
 refine Gc 6 Z (Cn Z h (λ_ h=>?_) (λ_ h=>?_))
 .refine Gc 9 Z ?_;refine Jf 8 3 [310,311,312,16,17,18,1000006,1000007] [AD,AD,AD,AE,AE,AE,AE,AE] [[],[],[],[],[],[],[3,4,5],[3,4,5,6]] [[],[3],[4],[5],[3,4],[3,5],[4,5],[3,4,5],[3,4,5,6],[3,4,5,6,7]] [[(0,0),(1,1),(2,2),(3,3),(4,4),(5,5),(6,6),(7,7)],[(0,0),(1,1),(2,2),(3,3),(4,4),(5,5),(6,6),(7,7),(8,8)],[(0,0),(1,1),(2,2),(3,3),(4,4),(5,5),(6,6),(7,7),(8,8),(9,9)],[(0,1),(2,4),(3,5),(6,7)],[(0,2),(1,4),(3,6),(5,7)],[(0,3),(1,5),(2,6),(4,7)],[(7,8)],[(8,9)]] [.a [I 1,I 9999],.a [I 0,I 255],.a [I 0,I 0],.p 3 0,.p 4 0,.p 5 0,.any,.any] [[.c 88 (Bm.c d),.c 3 [I e],.c 274 [.n,.nilf],.dead,.dead,.dead],[.c 88 (Bm.c d),.c 3 [I e],.c 274 [.n,.nilf],.c 282 [I 0,I 0],.dead,.dead],[.c 88 (Bm.c d),.c 3 [I e],.c 274 [.n,.nilf],.dead,.c 282 [I 0,I 0],.dead],[.c 88 (Bm.c d),.c 3 [I e],.c 274 [.n,.nilf],.dead,.dead,.c 282 [I 0,I 0]],[.c 88 (Bm.c d),.c 3 [I e],.c 274 [.n,.nilf],.c 282 [I 0,I 0],.c 282 [I 0,I 0],.dead],[.c 88 (Bm.c d),.c 3 [I e],.c 274 [.n,.nilf],.c 282 [I 0,I 0],.dead,.c 282 [I 0,I 0]],[.c 88 (Bm.c d),.c 3 [I e],.c 274 [.n,.nilf],.dead,.c 282 [I 0,I 0],.c 282 [I 0,I 0]],[.c 88 (Bm.c d),.c 3 [I e],.c 274 [.n,.nilf],.c 282 [I 0,I 0],.c 282 [I 0,I 0],.c 282 [I 0,I 0]],[.c 88 (Bm.c d),.c 3 [I e],.c 274 [.n,.nilf],.c 282 [I 1,I 9999],.c 282 [I 0,I 0],.c 282 [I 0,I 0]],[.c 88 (Bm.c d),.c 3 [I e],.c 274 [.n,.nilf],.c 282 [I 1,I 9999],.c 282 [I 0,I 255],.c 282 [I 0,I 0]]] ([.c 88 (Bm.c d),.c 3 [I e],.c 274 [.n,.nilf],.c 282 [I 1,I 9999],.c 282 [I 0,I 255],.c 282 [I 0,I 0]]) DL Z Z Z Z Z Z Z ?_ Z ?_
  .refine B7.cons (Qb (v0 Z Z) (Qb (v0 Z Z) (Qb (v0 Z Z) (Qb (v0 Z Z) (Qb (v0 Z Z) (Qb (v0 Z Z) (Qb (v0 Z Z) (Qb (v0 Z Z) (Qd))))))))) (B7.cons (Qb (v0 Z Z) (Qb (v0 Z Z) (Qb (v0 Z Z) (Qb (v0 Z Z) (Qb (v0 Z Z) (Qb (v0 Z Z) (Qb (v0 Z Z) (Qb (v0 Z Z) (Qb (v0 Z Z) (Qd)))))))))) (B7.cons (Qb (v0 Z Z) (Qb (v0 Z Z) (Qb (v0 Z Z) (Qb (v0 Z Z) (Qb (v0 Z Z) (Qb (v0 Z Z) (Qb (v0 Z Z) (Qb (v0 Z Z) (Qb (v0 Z Z) (Qb (v0 Z Z) (Qd))))))))))) (B7.cons ?_ (B7.cons ?_ (B7.cons ?_ (B7.cons ?_ (B7.cons ?_ (B7.nil))))))))
   .refine Qb ?_ (Qb ?_ (Qb ?_ (Qb ?_ (Qd))))
    iterate 4 exact JB.alloc _ 16 282 3 _ Z Z Z Z Z Z Z (K0.alloc (v:=(.a [I 0,I 0])) EV (HI Z)) Z
   .refine Qb ?_ (Qb ?_ (Qb ?_ (Qb ?_ (Qd))))
    iterate 4 exact JB.alloc _ 17 282 4 _ Z Z Z Z Z Z Z (K0.alloc (v:=(.a [I 0,I 0])) EV (HI Z)) Z
   .refine Qb ?_ (Qb ?_ (Qb ?_ (Qb ?_ (Qd))))
    iterate 4 exact JB.alloc _ 18 282 5 _ Z Z Z Z Z Z Z (K0.alloc (v:=(.a [I 0,I 0])) EV (HI Z)) Z
   .refine Qb ?_ (Qd)
    .refine gB Z (sD 3 (sD 0 sN)) ?_;refine vU (EB Z Z Z sizeOf282 Z Z Z Z Z Z Z) ?_;exact FE Z Wp
   .refine Qb ?_ (Qd)
    .refine gB Z (sD 4 (sD 1 sN)) ?_;refine vU (EB Z Z Z sizeOf282 Z Z Z Z Z Z Z) ?_;exact FE Z Wp
  refine Go 20 Z (Bd h λi f h=>Ct i [0,1,2,3,4,5] [4,15,16,17,18,316] (λi=>[(317,.b i)]) Ze Zf ?_ (λenv H j=>?_))
  .refine G0 0 Z (Cn Z f (λ_ f=>?_) (λ_ f=>?_))
   .exact Yy 1 Z f [0,1,2,3,4,5]
   exact Yy 4 Z f [0,1,2,3,4,5]
  refine Gx 1 Z (Eg j (Bd h λg a h=>Ct g [0,1,2,3,4,5] [4,15,16,17,18] Ze (λg=>[(3,.c 282 (Ub.c g.1)),(4,.c 282 (Ub.c g.2.1)),(5,.c 282 (Ub.c g.2.2))]) Zf ?_ (λenv H j=>?_)))
  .refine G0 0 Z (Cn Z a (λ_ a=>?_) (λ_ a=>?_))
   .exact Yy 6 Z a [0,1,2,3,4,5]
   iterate 2 (refine Gc 6 Z (Cn Z a (λ_ a=>?_) (λ_ a=>?_));exact Yy 4 Z a [0,1,2,3,4,5])
   exact Yy 1 Z a [0,1,2,3,4,5]
  refine Gx 2 Z (Eg j (Gc 1 Z (C5 30 Z (D 30 Z (Ei Z ?_)))));refine vH (YQ (xs:=[.tmp 332,.tmp 337,.tmp 342,.tmp 347,.tmp 352,.tmp 357]) JI Z Z Z Z Z ⟨Z,Z,Z,Z,Z,Z,trivial⟩ Z) ?_;refine Fg 8 Z Z ?_;obtain rfl:=Oi h;exact Rx [0,1,6,2] [4,5] Z (Qo Z Z (CC.cons (Qf E5 E0 Z Z Z) (CC.cons C_.tmp CC.nil))) ⟨Z,Z⟩
 refine Gc 6 Z (Cn Z h (λ_ h=>?_) (λ_ h=>?_))
 .refine Gc 1 Z (C5 9 Z (D 9 Z (Ei Z ?_)));refine vH (YQ (xs:=[.tmp 367,.tmp 370]) JI Z Z Z Z Z ⟨Z,Z,trivial⟩ Z) ?_;refine Fg 8 Z Z ?_;obtain rfl:=Oi h;exact Rx [0,1,3,2] [4,5] Z (Qo Z Z (CC.cons (Qf E5 E0 Z Z Z) (CC.cons C_.tmp CC.nil))) ⟨Z,Z⟩
 refine Gc 6 Z (Cn Z h (λ_ h=>?_) (λ_ h=>?_))
 .refine Gc 10 Z ?_;obtain rfl:=Oi h;exact Rx [0,1,2] [4,5] Z (Qo Z Z (CC.cons (Qf E5 E0 Z Z Z) (CC.cons C_.tmp CC.nil))) ⟨Z,Z⟩
 refine Gc 6 Z (Cn Z h (λ_ h=>?_) (λ_ h=>?_))
 .refine Gc 1 Z (C5 12 Z (D 12 Z (Ei Z ?_)));refine vH (YQ (xs:=[.tmp 383,.tmp 389]) JI Z Z Z Z Z ⟨Z,Z,trivial⟩ Z) ?_;refine Fg 8 Z Z ?_;obtain rfl:=Oi h;exact Rx [0,1,3,2] [4,5] Z (Qo Z Z (CC.cons (Qf E5 E0 Z Z Z) (CC.cons C_.tmp CC.nil))) ⟨Z,Z⟩
 refine Gc 11 Z ?_;obtain rfl:=Oi h;exact Rx [0,1,2] [4,5] Z (Qo Z Z (CC.cons (Qf E5 E0 Z Z Z) (CC.cons C_.tmp CC.nil))) ⟨Z,Z⟩
def MM(n:Nat):AB Unit:=AC ()
theorem MZ:Ks (MM n) 237 [] [] (λ_=>.b AE):=by
 exact Kg 11 func237 Z Z Z Z λr h=>Rt h 0 []
def cV(n:Nat)(a:Bm):AB Unit:=AC ()
theorem iD(a:Bm):Ks (cV n a) 238 [.p 0 0] [.c 324 [.p 1 21],.c 88 (Bm.c a)] (λ_=>.b (AG (a.AV.BQ<=a.AV.BO))):=by
 exact Kg 6 func238 Z Z Z Z λr h=>C5 8 Z (D 8 Z (Ei Z (Gt 5 Z h 1 [0,1])))
def cP(n:Nat)(a:Bm):AB Unit:=AC ()
theorem hU(a:Bm):Ks (cP n a) 239 [.p 0 0] [.c 325 [.p 1 29],.c 88 (Bm.c a)] (λ_=>.b (AG (a.A0.Lo<=a.A0.Hi))):=by
 exact Kg 6 func239 Z Z Z Z λr h=>C5 8 Z (D 8 Z (Ei Z (Gt 5 Z h 1 [0,1])))
def cE(n:Nat)(a:Bm):AB Unit:=AC ()
theorem gu(a:Bm):Ks (cE n a) 240 [.p 0 0] [.c 326 [.p 1 33],.c 88 (Bm.c a)] (λ_=>.b (AG (a.Ab.Lo<=a.Ab.Hi))):=by
 exact Kg 6 func240 Z Z Z Z λr h=>C5 8 Z (D 8 Z (Ei Z (Gt 5 Z h 1 [0,1])))
def cT(n:Nat)(a:Bm):AB Unit:=AC ()
theorem iB(a:Bm):Ks (cT n a) 241 [.p 0 0] [.c 327 [.p 1 37],.c 88 (Bm.c a)] (λ_=>.b (AG (a.BA.A<a.BA.B))):=by
 exact Kg 6 func241 Z Z Z Z λr h=>C5 8 Z (D 8 Z (Ei Z (Gt 5 Z h 1 [0,1])))
def Lk(n:Nat)(a:Bm):AB Unit:=AC ()
theorem Wj(a:Bm):Kq (Lk n a) 192 [.p 0 0] [.c 88 (Bm.c a)] (λ_=>.o 1 4 3) (λ_=>[.c 88 (Bm.c a),.R 284 3 [B3 0 3 1 13,B3 0 0 0 31,B3 0 1 1 1048576,B3 0 2 0 1099511627776]]):=by
 refine Kg 6 func192 Z Z Z Z λr h=>C5 20 Z (D 20 Z (Ei Z ?_));refine vH (YQ (xs:=[.tmp 7,.tmp 12,.tmp 17,.tmp 22]) JI Z Z Z Z Z ⟨Z,Z,Z,Z,trivial⟩ Z) ?_;exact FE Z (Gt 4 Z h 2 [0,1])
def OO(d:Bm)(i:Int)(e:Bm):AB (AA Ce):=AH (AH (L2 n ({d with AN:=e.AN:Bm}) i) λf=>(match f with|.c0 j=>(AC ([⟨AD,4,1,9999⟩,⟨AD,5,0,7⟩,⟨AD,6,0,31⟩,⟨AD,7,(-1099511627776),1099511627776⟩,⟨AD,8,0,120⟩,⟨AD,9,0,1048576⟩,⟨AD,10,0,9999⟩,⟨AD,11,0,1048576⟩]:AA Ce))|.c1 k=>(AC ([⟨AD,12,0,39⟩,⟨AD,13,0,255⟩,⟨AD,14,0,1048576⟩,⟨AD,15,(-1099511627776),1099511627776⟩]:AA Ce))|.c2 l=>(AC ([⟨AD,16,0,39⟩,⟨AD,17,0,255⟩,⟨AD,18,(-1099511627776),1099511627776⟩,⟨AD,19,(-1099511627776),1099511627776⟩,⟨AD,20,0,1099511627776⟩]:AA Ce))|.c3 m=>(AC ([⟨AD,21,0,39⟩,⟨AD,22,0,255⟩,⟨AD,23,(-1099511627776),1099511627776⟩,⟨AD,24,0,39⟩,⟨AD,25,0,255⟩,⟨AD,26,(-1099511627776),1099511627776⟩,⟨AD,27,(-1099511627776),1099511627776⟩,⟨AD,28,(-1099511627776),1099511627776⟩]:AA Ce))|.c4 p=>(AC ([⟨AD,29,1,9999⟩,⟨AD,30,0,255⟩,⟨AD,31,(-1099511627776),1099511627776⟩,⟨AD,32,(-1099511627776),1099511627776⟩]:AA Ce))|.c5 q=>(AC ([⟨AD,33,0,39⟩,⟨AD,34,0,255⟩,⟨AD,35,(-1099511627776),1099511627776⟩,⟨AD,36,(-1099511627776),1099511627776⟩]:AA Ce))|.c6 r=>(AC ([⟨AD,37,1,9999⟩,⟨AD,38,1,9999⟩]:AA Ce))|.c7 s=>(AC ([⟨AD,39,1,1048576⟩,⟨AD,40,1,9999⟩,⟨AD,41,0,31⟩,⟨AD,42,0,255⟩]:AA Ce))|.c8 t=>(AC ([⟨AD,43,1,1048576⟩,⟨AD,44,0,9999⟩,⟨AD,45,0,1125899906842624⟩,⟨AD,46,0,1⟩]:AA Ce))|.c9 a=>(AC ([⟨AD,47,1,1048576⟩,⟨AD,48,1,2⟩,⟨AD,49,1,5⟩,⟨AD,50,a.1,a.2.1⟩,⟨AD,51,a.2.2.1,a.2.2.2.1⟩,⟨AD,52,a.2.2.2.2.1,a.2.2.2.2.2⟩]:AA Ce))|.c10 u=>(AC ([⟨AD,53,1,1048576⟩,⟨AE,0,0,1⟩]:AA Ce))|.c11 w=>(AC [])|.c12 x=>(AC ([⟨AD,55,0,31⟩,⟨AD,56,1,1048576⟩]:AA Ce))|.c13 y=>(AC [])):AB (AA Ce)) λg=>AH (Lk n ({d with AN:=e.AN:Bm})) λz=>AH (app ([⟨AD,3,1,13⟩,⟨AD,0,0,31⟩,⟨AD,1,1,1048576⟩,⟨AD,2,0,1099511627776⟩]:AA Ce) g) λh=>AC h
theorem kB(f:Bm)(g:Int)(a:Bm):Kq (OO n f g a) 191 [.p 0 0,.p 1 0,.p 2 0] [.c 88 (Bm.c f),.c 3 [I g],.c 88 (Bm.c a)] (λr=>.o 3 (AI r) 3) (λr=>[.c 88 (Bm.c ({f with AN:=a.AN:Bm})),.c 3 [I g],.c 88 (Bm.c a),.e 284 0 1 r]):=by
 refine Kg 16 func191 Z Z Z Z λr h=>Bd h λk d h=>Cg k [0,1,2,0,0] [0] (λ_=>[(6,.p 3 0)]) (λk=>[(3,.c 274 [.o 4 (AI k) 3,.any]),(4,.e 284 0 1 k)]) Zf ?_ ?_
 .refine G0 3 Z (Bd d λu p d=>?_);refine Qs [0,1] (DN.fn call190 Z Z Z) (Wy _ _ _ _ p) ?_;intro ra rH e;rcases u with w|y|z|B|E|F|G|H|J|l|L|M|N|O
  .obtain⟨rfl,rfl⟩:=e;refine aV (.t [.a [.o 3 8 3,.f 237],.b AE]) [.c 88 (Bm.c ({f with AN:=a.AN:Bm})),.c 3 [I g],.c 88 (Bm.c a),.R 284 3 [B3 0 4 1 9999,B3 0 5 0 7,B3 0 6 0 31,B3 0 7 (-1099511627776) 1099511627776,B3 0 8 0 120,B3 0 9 0 1048576,B3 0 10 0 9999,B3 0 11 0 1048576],.c 274 [.o 3 8 3,.f 237]] Z Z ?_;refine TE 3 0 1 Z Z (Fg 7 Z Z ?_);cases d;refine IL ?_;refine Ep (QZ (i:=5) (m:=1) Z) ?_;exact Lr [0,1,2,5,3]
  .obtain⟨rfl,rfl⟩:=e;refine aV (.t [.a [.o 3 4 3,.f 237],.b AE]) [.c 88 (Bm.c ({f with AN:=a.AN:Bm})),.c 3 [I g],.c 88 (Bm.c a),.R 284 3 [B3 0 12 0 39,B3 0 13 0 255,B3 0 14 0 1048576,B3 0 15 (-1099511627776) 1099511627776],.c 274 [.o 3 4 3,.f 237]] Z Z ?_;refine TE 3 0 1 Z Z (Fg 7 Z Z ?_);cases d;refine IL ?_;refine Ep (QZ (i:=5) (m:=1) Z) ?_;exact Lr [0,1,2,5,3]
  .obtain⟨rfl,rfl⟩:=e;refine aV (.t [.a [.o 3 5 3,.f 237],.b AE]) [.c 88 (Bm.c ({f with AN:=a.AN:Bm})),.c 3 [I g],.c 88 (Bm.c a),.R 284 3 [B3 0 16 0 39,B3 0 17 0 255,B3 0 18 (-1099511627776) 1099511627776,B3 0 19 (-1099511627776) 1099511627776,B3 0 20 0 1099511627776],.c 274 [.o 3 5 3,.f 237]] Z Z ?_;refine TE 3 0 1 Z Z (Fg 7 Z Z ?_);cases d;refine IL ?_;refine Ep (QZ (i:=5) (m:=1) Z) ?_;exact Lr [0,1,2,5,3]
  .obtain⟨rfl,rfl⟩:=e;refine aV (.t [.a [.o 3 8 3,.fn (.func 238) [] [.p 4 0]],.b AE]) [.c 88 (Bm.c ({f with AN:=a.AN:Bm})),.c 3 [I g],.c 88 (Bm.c a),.R 284 3 [B3 0 21 0 39,B3 0 22 0 255,B3 0 23 (-1099511627776) 1099511627776,B3 0 24 0 39,B3 0 25 0 255,B3 0 26 (-1099511627776) 1099511627776,B3 0 27 (-1099511627776) 1099511627776,B3 0 28 (-1099511627776) 1099511627776],.c 324 [.p 0 21],.c 274 [.o 3 8 3,.fn (.func 238) [] [.p 4 0]]] Z Z ?_;refine TE 3 0 1 Z Z (Fg 7 Z Z ?_);cases d;refine IL ?_;refine Ep (QZ (i:=6) (m:=1) Z) ?_;exact Lr [0,1,2,6,3]
  .obtain⟨rfl,rfl⟩:=e;refine aV (.t [.a [.o 3 4 3,.fn (.func 239) [] [.p 4 0]],.b AE]) [.c 88 (Bm.c ({f with AN:=a.AN:Bm})),.c 3 [I g],.c 88 (Bm.c a),.R 284 3 [B3 0 29 1 9999,B3 0 30 0 255,B3 0 31 (-1099511627776) 1099511627776,B3 0 32 (-1099511627776) 1099511627776],.c 325 [.p 0 29],.c 274 [.o 3 4 3,.fn (.func 239) [] [.p 4 0]]] Z Z ?_;refine TE 3 0 1 Z Z (Fg 7 Z Z ?_);cases d;refine IL ?_;refine Ep (QZ (i:=6) (m:=1) Z) ?_;exact Lr [0,1,2,6,3]
  .obtain⟨rfl,rfl⟩:=e;refine aV (.t [.a [.o 3 4 3,.fn (.func 240) [] [.p 4 0]],.b AE]) [.c 88 (Bm.c ({f with AN:=a.AN:Bm})),.c 3 [I g],.c 88 (Bm.c a),.R 284 3 [B3 0 33 0 39,B3 0 34 0 255,B3 0 35 (-1099511627776) 1099511627776,B3 0 36 (-1099511627776) 1099511627776],.c 326 [.p 0 33],.c 274 [.o 3 4 3,.fn (.func 240) [] [.p 4 0]]] Z Z ?_;refine TE 3 0 1 Z Z (Fg 7 Z Z ?_);cases d;refine IL ?_;refine Ep (QZ (i:=6) (m:=1) Z) ?_;exact Lr [0,1,2,6,3]
  .obtain⟨rfl,rfl⟩:=e;refine aV (.t [.a [.o 3 2 3,.fn (.func 241) [] [.p 4 0]],.b AE]) [.c 88 (Bm.c ({f with AN:=a.AN:Bm})),.c 3 [I g],.c 88 (Bm.c a),.R 284 3 [B3 0 37 1 9999,B3 0 38 1 9999],.c 327 [.p 0 37],.c 274 [.o 3 2 3,.fn (.func 241) [] [.p 4 0]]] Z Z ?_;refine TE 3 0 1 Z Z (Fg 7 Z Z ?_);cases d;refine IL ?_;refine Ep (QZ (i:=6) (m:=1) Z) ?_;exact Lr [0,1,2,6,3]
  .obtain⟨rfl,rfl⟩:=e;refine aV (.t [.a [.o 3 4 3,.f 237],.b AE]) [.c 88 (Bm.c ({f with AN:=a.AN:Bm})),.c 3 [I g],.c 88 (Bm.c a),.R 284 3 [B3 0 39 1 1048576,B3 0 40 1 9999,B3 0 41 0 31,B3 0 42 0 255],.c 274 [.o 3 4 3,.f 237]] Z Z ?_;refine TE 3 0 1 Z Z (Fg 7 Z Z ?_);cases d;refine IL ?_;refine Ep (QZ (i:=5) (m:=1) Z) ?_;exact Lr [0,1,2,5,3]
  .obtain⟨rfl,rfl⟩:=e;refine aV (.t [.a [.o 3 4 3,.f 237],.b AE]) [.c 88 (Bm.c ({f with AN:=a.AN:Bm})),.c 3 [I g],.c 88 (Bm.c a),.R 284 3 [B3 0 43 1 1048576,B3 0 44 0 9999,B3 0 45 0 1125899906842624,B3 0 46 0 1],.c 274 [.o 3 4 3,.f 237]] Z Z ?_;refine TE 3 0 1 Z Z (Fg 7 Z Z ?_);cases d;refine IL ?_;refine Ep (QZ (i:=5) (m:=1) Z) ?_;exact Lr [0,1,2,5,3]
  .obtain⟨rfl,rfl⟩:=e;refine aV (.t [.a [.o 3 6 3,.f 237],.b AE]) [.c 88 (Bm.c ({f with AN:=a.AN:Bm})),.c 3 [I g],.c 88 (Bm.c a),.R 284 3 [B3 0 47 1 1048576,B3 0 48 1 2,B3 0 49 1 5,B3 0 50 l.1 l.2.1,B3 0 51 l.2.2.1 l.2.2.2.1,B3 0 52 l.2.2.2.2.1 l.2.2.2.2.2],.c 274 [.o 3 6 3,.f 237]] Z Z ?_;refine TE 3 0 1 Z Z (Fg 7 Z Z ?_);cases d;refine IL ?_;refine Ep (QZ (i:=5) (m:=1) Z) ?_;exact Lr [0,1,2,5,3]
  .obtain⟨rfl,rfl⟩:=e;refine aV (.t [.a [.o 3 2 3,.f 237],.b AE]) [.c 88 (Bm.c ({f with AN:=a.AN:Bm})),.c 3 [I g],.c 88 (Bm.c a),.R 284 3 [B3 0 53 1 1048576,B3 1 0 0 1],.c 274 [.o 3 2 3,.f 237]] Z Z ?_;refine TE 3 0 1 Z Z (Fg 7 Z Z ?_);cases d;refine IL ?_;refine Ep (QZ (i:=5) (m:=1) Z) ?_;exact Lr [0,1,2,5,3]
  .obtain⟨rfl,rfl⟩:=e;refine aV (.t [.a [.n,.f 237],.b AE]) [.c 88 (Bm.c ({f with AN:=a.AN:Bm})),.c 3 [I g],.c 88 (Bm.c a),.c 274 [.n,.f 237]] Z Z ?_;refine Go 7 Z ?_;cases d;refine IL ?_;refine Ep (QZ (i:=4) (m:=1) Z) ?_;refine Ep (Le.phantomE (i:=4) (m:=0) (t:=284) (b1:=0) (b2:=1) Z Z Z) ?_;exact Lr [0,1,2,4,5]
  .obtain⟨rfl,rfl⟩:=e;refine aV (.t [.a [.o 3 2 3,.f 237],.b AE]) [.c 88 (Bm.c ({f with AN:=a.AN:Bm})),.c 3 [I g],.c 88 (Bm.c a),.R 284 3 [B3 0 55 0 31,B3 0 56 1 1048576],.c 274 [.o 3 2 3,.f 237]] Z Z ?_;refine TE 3 0 1 Z Z (Fg 7 Z Z ?_);cases d;refine IL ?_;refine Ep (QZ (i:=5) (m:=1) Z) ?_;exact Lr [0,1,2,5,3]
  .obtain⟨rfl,rfl⟩:=e;refine aV (.t [.a [.n,.nilf],.b AD]) [.c 88 (Bm.c ({f with AN:=a.AN:Bm})),.c 3 [I g],.c 88 (Bm.c a),.c 274 [.n,.nilf]] Z Z ?_;refine Go 7 Z ?_;cases d;refine IL ?_;refine Ep (QZ (i:=4) (m:=1) Z) ?_;refine Ep (Le.phantomE (i:=4) (m:=0) (t:=284) (b1:=0) (b2:=1) Z Z Z) ?_;exact Lr [0,1,2,4,5]
 refine Gc 1 Z (KN 4 1 [0,1,3,3] (by kernel_rfl) (Da 1 Z ?_));obtain⟨P,q,h⟩:=Q7 h;refine DA.op (x:=.o 5 4 3) (H1:=[.c 88 (Bm.c ({f with AN:=a.AN:Bm})),.c 3 [I g],.c 88 (Bm.c a),.c 274 [.o 4 (AI k) 3,.any],.e 284 0 1 k,.R 284 3 [B3 0 3 1 13,B3 0 0 0 31,B3 0 1 1 1048576,B3 0 2 0 1099511627776]]) ?_ ?_
 .refine Qs [0] (DN.fn call192 Z Z Z) (Wj _ _ _ q) ?_;rintro _ _ ⟨rfl,rfl⟩;exact FE Z Wp
 refine Db 1 Z ?_;refine DB.wo2 (x:=.o 4 (AI k) 3) (Ld isAgg272 Z Wp) (Ld isAgg272 Z Wp) ?_;refine DB.done Z (TE 5 0 1 Z Z (FE Z (Bd h λQ s h=>?_)));refine vH (sR (i:=5) (j:=4) s JI Gf Z) ?_;exact FE Z (Gt 4 Z h 5 [0,1,2,6])
def LJ(n:Nat)(f:Bm)(b2:Int)(g:AA Ce)(p:AA Ce)(a:(AA Int)×Bm×Int×Int):AB (Bn ((AA Int)×Bm×Int×Int) (Bn ((AA Int)×Bm×Int) ((AA Int)×Bool))):=(bif a.2.2.2<(AI g:Int) then AH (Bt g a.2.2.2) λd=>AH (MA (Bm.c f) b2 d) λh=>(bif h<d.lo then AC (.d (.d ([],AD)))else AH (MA (Bm.c f) b2 d) λi=>(bif d.hi<i then AC (.d (.d ([],AD)))else AH (Bt p a.2.2.2) λj=>AH (MA (Bm.c f) b2 d) λk=>AH (Ra Bm.put a.2.1 a.2.2.1 j k) λe=>AH (MA (Bm.c f) b2 d) λl=>AH (app a.1 [l]) λm=>AC (.k (m,e.1,e.2,i64.wrap (a.2.2.2+1)))))else AC (.d (.k (a.1,a.2.1,a.2.2.1))))
def OZ(a:Bm):AB ((AA Int)×Bool):=AH ((bif a.Al.A_ then AC 1 else AC 0):AB Int) λb2=>AH (AH (L2 n a b2) λh=>(match h with|.c0 m=>(AH (MM n) λp=>AC (.k ([⟨AD,4,1,9999⟩,⟨AD,5,0,7⟩,⟨AD,6,0,31⟩,⟨AD,7,(-1099511627776),1099511627776⟩,⟨AD,8,0,120⟩,⟨AD,9,0,1048576⟩,⟨AD,10,0,9999⟩,⟨AD,11,0,1048576⟩]:AA Ce)))|.c1 q=>(AH (MM n) λr=>AC (.k ([⟨AD,12,0,39⟩,⟨AD,13,0,255⟩,⟨AD,14,0,1048576⟩,⟨AD,15,(-1099511627776),1099511627776⟩]:AA Ce)))|.c2 s=>(AH (MM n) λt=>AC (.k ([⟨AD,16,0,39⟩,⟨AD,17,0,255⟩,⟨AD,18,(-1099511627776),1099511627776⟩,⟨AD,19,(-1099511627776),1099511627776⟩,⟨AD,20,0,1099511627776⟩]:AA Ce)))|.c3 u=>(AH (cV n a) λw=>(bif (!(AG (a.AV.BQ<=a.AV.BO)))then AC (.d ([],AD))else AC (.k ([⟨AD,21,0,39⟩,⟨AD,22,0,255⟩,⟨AD,23,(-1099511627776),1099511627776⟩,⟨AD,24,0,39⟩,⟨AD,25,0,255⟩,⟨AD,26,(-1099511627776),1099511627776⟩,⟨AD,27,(-1099511627776),1099511627776⟩,⟨AD,28,(-1099511627776),1099511627776⟩]:AA Ce))))|.c4 x=>(AH (cP n a) λy=>(bif (!(AG (a.A0.Lo<=a.A0.Hi)))then AC (.d ([],AD))else AC (.k ([⟨AD,29,1,9999⟩,⟨AD,30,0,255⟩,⟨AD,31,(-1099511627776),1099511627776⟩,⟨AD,32,(-1099511627776),1099511627776⟩]:AA Ce))))|.c5 z=>(AH (cE n a) λE=>(bif (!(AG (a.Ab.Lo<=a.Ab.Hi)))then AC (.d ([],AD))else AC (.k ([⟨AD,33,0,39⟩,⟨AD,34,0,255⟩,⟨AD,35,(-1099511627776),1099511627776⟩,⟨AD,36,(-1099511627776),1099511627776⟩]:AA Ce))))|.c6 F=>(AH (cT n a) λG=>(bif (!(AG (a.BA.A<a.BA.B)))then AC (.d ([],AD))else AC (.k ([⟨AD,37,1,9999⟩,⟨AD,38,1,9999⟩]:AA Ce))))|.c7 H=>(AH (MM n) λJ=>AC (.k ([⟨AD,39,1,1048576⟩,⟨AD,40,1,9999⟩,⟨AD,41,0,31⟩,⟨AD,42,0,255⟩]:AA Ce)))|.c8 L=>(AH (MM n) λM=>AC (.k ([⟨AD,43,1,1048576⟩,⟨AD,44,0,9999⟩,⟨AD,45,0,1125899906842624⟩,⟨AD,46,0,1⟩]:AA Ce)))|.c9 e=>(AH (MM n) λN=>AC (.k ([⟨AD,47,1,1048576⟩,⟨AD,48,1,2⟩,⟨AD,49,1,5⟩,⟨AD,50,e.1,e.2.1⟩,⟨AD,51,e.2.2.1,e.2.2.2.1⟩,⟨AD,52,e.2.2.2.2.1,e.2.2.2.2.2⟩]:AA Ce)))|.c10 O=>(AH (MM n) λP=>AC (.k ([⟨AD,53,1,1048576⟩,⟨AE,0,0,1⟩]:AA Ce)))|.c11 Q=>(AH (MM n) λR=>AC (.k []))|.c12 T=>(AH (MM n) λV=>AC (.k ([⟨AD,55,0,31⟩,⟨AD,56,1,1048576⟩]:AA Ce)))|.c13 W=>(AC (.d ([],AD)))):AB (Bn (AA Ce) ((AA Int)×Bool))) λi=>match i with|.k f=>(AH (Lk n a) λX=>AH (app ([⟨AD,3,1,13⟩,⟨AD,0,0,31⟩,⟨AD,1,1,1048576⟩,⟨AD,2,0,1099511627776⟩]:AA Ce) f) λj=>AH (OO n ({Ul with AS:={Ur with AN:=a.AS.AN:AS}:Bm}) 0 a) λk=>AH (iter (LJ n a b2 j k) n ([],({({Ul with AS:={Ur with AN:=a.AS.AN:AS}:Bm})with AN:=a.AN:Bm}),0,0):AB (Bn ((AA Int)×Bm×Int) ((AA Int)×Bool))) λl=>match l with|.k d=>(AH ((bif (a.AN != 10)then AC ({d.2.1 with AS:={d.2.1.AS with AN:=0:AS}:Bm})else AC d.2.1):AB Bm) λg=>AC (d.1,(({g with Al:={A4:=g.Al.A4,A_:=(d.2.2==1):Al}:Bm})==a)))|.d d=>AC d)|.d f=>AC f
theorem Wb(g:Bm):Kq (OZ n g) 142 [.a (Bm.c g)] [] (λr=>.t [.o 0 (AI r.1) 1,.b r.2]) (λr=>[.r 3 1 (map (Qe .i64) r.1)]):=by
 refine Kg 21 func142 Z Z Z Z λr h=>Bd h λb2 N h=>Ct b2 [0,1] [1,2,4] Ze (λb2=>[(1,.c 3 [I b2])]) Zf ?_ (λenv H M=>?_)
 .refine G0 0 Z (Cn Z N (λ_ N=>?_) (λ_ N=>?_))
  .exact Yy 3 Z N [0,1]
  exact Yy 1 Z N [0,1]
 refine Gx 1 Z (Eg M (Gc 7 Z (Bd h λao a h=>oL (b:=ao) (λz=>[(1,.p 0 0),(2,.n),(5,.p 1 0),(6,.p 2 0)]) (λz=>[.c 88 (Bm.c g),.c 88 (Bm.c g),.c 274 [.o 3 (AI z) 3,.any],.e 284 1 4 z,.c 3 [I b2]]) ?_ (λz env H hb M=>?_))))
 .refine Gc 1 Z (Bd a λaq ab a=>?_);refine Qs [2,1] (DN.fn call190 Z Z Z) (Wy _ _ _ _ ab) ?_;intro ra rH y;rcases aq with bn|bo|bq|br|bs|bt|bu|bv|bw|F|bx|bz|ca|cb
  .obtain⟨rfl,rfl⟩:=y;refine aV (.t [.a [.o 3 8 3,.f 237],.b AE]) [.c 88 (Bm.c g),.c 3 [I b2],.c 88 (Bm.c g),.R 284 3 [B3 2 4 1 9999,B3 2 5 0 7,B3 2 6 0 31,B3 2 7 (-1099511627776) 1099511627776,B3 2 8 0 120,B3 2 9 0 1048576,B3 2 10 0 9999,B3 2 11 0 1048576],.c 274 [.o 3 8 3,.f 237]] Z Z ?_;refine TE 3 2 1 Z Z (Fg 15 Z Z (Cz [] a (MZ _) Z λcc ax a=>Go 6 Z ?_));cases a;refine YU Z ?_;refine Ep (QZ (i:=5) (m:=1) Z) ?_;exact Lr [0,2,5,3,1]
  .obtain⟨rfl,rfl⟩:=y;refine aV (.t [.a [.o 3 4 3,.f 237],.b AE]) [.c 88 (Bm.c g),.c 3 [I b2],.c 88 (Bm.c g),.R 284 3 [B3 2 12 0 39,B3 2 13 0 255,B3 2 14 0 1048576,B3 2 15 (-1099511627776) 1099511627776],.c 274 [.o 3 4 3,.f 237]] Z Z ?_;refine TE 3 2 1 Z Z (Fg 15 Z Z (Cz [] a (MZ _) Z λcd ay a=>Go 6 Z ?_));cases a;refine YU Z ?_;refine Ep (QZ (i:=5) (m:=1) Z) ?_;exact Lr [0,2,5,3,1]
  .obtain⟨rfl,rfl⟩:=y;refine aV (.t [.a [.o 3 5 3,.f 237],.b AE]) [.c 88 (Bm.c g),.c 3 [I b2],.c 88 (Bm.c g),.R 284 3 [B3 2 16 0 39,B3 2 17 0 255,B3 2 18 (-1099511627776) 1099511627776,B3 2 19 (-1099511627776) 1099511627776,B3 2 20 0 1099511627776],.c 274 [.o 3 5 3,.f 237]] Z Z ?_;refine TE 3 2 1 Z Z (Fg 15 Z Z (Cz [] a (MZ _) Z λce az a=>Go 6 Z ?_));cases a;refine YU Z ?_;refine Ep (QZ (i:=5) (m:=1) Z) ?_;exact Lr [0,2,5,3,1]
  .obtain⟨rfl,rfl⟩:=y;refine aV (.t [.a [.o 3 8 3,.fn (.func 238) [] [.p 4 0]],.b AE]) [.c 88 (Bm.c g),.c 3 [I b2],.c 88 (Bm.c g),.R 284 3 [B3 2 21 0 39,B3 2 22 0 255,B3 2 23 (-1099511627776) 1099511627776,B3 2 24 0 39,B3 2 25 0 255,B3 2 26 (-1099511627776) 1099511627776,B3 2 27 (-1099511627776) 1099511627776,B3 2 28 (-1099511627776) 1099511627776],.c 324 [.p 2 21],.c 274 [.o 3 8 3,.fn (.func 238) [] [.p 4 0]]] Z Z ?_;refine TE 3 2 1 Z Z (Fg 15 Z Z (Cz [4,2] a (iD _ _) Z λcf ba a=>Go 4 Z (Cn Z a (λ_ a=>?_) (λ_ a=>?_))))
   .refine Gc 7 Z ?_;cases a;refine Qq (Gx 1 Z ?_);obtain rfl:=Oi h;refine R2 2 3 Z Z ?_;refine Ep (Eu (s:=2) (k:=1) (t:=3) (XS Z) Z) ?_;exact Lr [7]
   refine Gc 1 Z ?_;cases a;refine YU Z ?_;refine Ep (QZ (i:=6) (m:=1) Z) ?_;exact Lr [0,2,6,3,1]
  .obtain⟨rfl,rfl⟩:=y;refine aV (.t [.a [.o 3 4 3,.fn (.func 239) [] [.p 4 0]],.b AE]) [.c 88 (Bm.c g),.c 3 [I b2],.c 88 (Bm.c g),.R 284 3 [B3 2 29 1 9999,B3 2 30 0 255,B3 2 31 (-1099511627776) 1099511627776,B3 2 32 (-1099511627776) 1099511627776],.c 325 [.p 2 29],.c 274 [.o 3 4 3,.fn (.func 239) [] [.p 4 0]]] Z Z ?_;refine TE 3 2 1 Z Z (Fg 15 Z Z (Cz [4,2] a (hU _ _) Z λcg bb a=>Go 4 Z (Cn Z a (λ_ a=>?_) (λ_ a=>?_))))
   .refine Gc 7 Z ?_;cases a;refine Qq (Gx 1 Z ?_);obtain rfl:=Oi h;refine R2 2 3 Z Z ?_;refine Ep (Eu (s:=2) (k:=1) (t:=3) (XS Z) Z) ?_;exact Lr [7]
   refine Gc 1 Z ?_;cases a;refine YU Z ?_;refine Ep (QZ (i:=6) (m:=1) Z) ?_;exact Lr [0,2,6,3,1]
  .obtain⟨rfl,rfl⟩:=y;refine aV (.t [.a [.o 3 4 3,.fn (.func 240) [] [.p 4 0]],.b AE]) [.c 88 (Bm.c g),.c 3 [I b2],.c 88 (Bm.c g),.R 284 3 [B3 2 33 0 39,B3 2 34 0 255,B3 2 35 (-1099511627776) 1099511627776,B3 2 36 (-1099511627776) 1099511627776],.c 326 [.p 2 33],.c 274 [.o 3 4 3,.fn (.func 240) [] [.p 4 0]]] Z Z ?_;refine TE 3 2 1 Z Z (Fg 15 Z Z (Cz [4,2] a (gu _ _) Z λch bc a=>Go 4 Z (Cn Z a (λ_ a=>?_) (λ_ a=>?_))))
   .refine Gc 7 Z ?_;cases a;refine Qq (Gx 1 Z ?_);obtain rfl:=Oi h;refine R2 2 3 Z Z ?_;refine Ep (Eu (s:=2) (k:=1) (t:=3) (XS Z) Z) ?_;exact Lr [7]
   refine Gc 1 Z ?_;cases a;refine YU Z ?_;refine Ep (QZ (i:=6) (m:=1) Z) ?_;exact Lr [0,2,6,3,1]
  .obtain⟨rfl,rfl⟩:=y;refine aV (.t [.a [.o 3 2 3,.fn (.func 241) [] [.p 4 0]],.b AE]) [.c 88 (Bm.c g),.c 3 [I b2],.c 88 (Bm.c g),.R 284 3 [B3 2 37 1 9999,B3 2 38 1 9999],.c 327 [.p 2 37],.c 274 [.o 3 2 3,.fn (.func 241) [] [.p 4 0]]] Z Z ?_;refine TE 3 2 1 Z Z (Fg 15 Z Z (Cz [4,2] a (iB _ _) Z λci bd a=>Go 4 Z (Cn Z a (λ_ a=>?_) (λ_ a=>?_))))
   .refine Gc 7 Z ?_;cases a;refine Qq (Gx 1 Z ?_);obtain rfl:=Oi h;refine R2 2 3 Z Z ?_;refine Ep (Eu (s:=2) (k:=1) (t:=3) (XS Z) Z) ?_;exact Lr [7]
   refine Gc 1 Z ?_;cases a;refine YU Z ?_;refine Ep (QZ (i:=6) (m:=1) Z) ?_;exact Lr [0,2,6,3,1]
  .obtain⟨rfl,rfl⟩:=y;refine aV (.t [.a [.o 3 4 3,.f 237],.b AE]) [.c 88 (Bm.c g),.c 3 [I b2],.c 88 (Bm.c g),.R 284 3 [B3 2 39 1 1048576,B3 2 40 1 9999,B3 2 41 0 31,B3 2 42 0 255],.c 274 [.o 3 4 3,.f 237]] Z Z ?_;refine TE 3 2 1 Z Z (Fg 15 Z Z (Cz [] a (MZ _) Z λcj be a=>Go 6 Z ?_));cases a;refine YU Z ?_;refine Ep (QZ (i:=5) (m:=1) Z) ?_;exact Lr [0,2,5,3,1]
  .obtain⟨rfl,rfl⟩:=y;refine aV (.t [.a [.o 3 4 3,.f 237],.b AE]) [.c 88 (Bm.c g),.c 3 [I b2],.c 88 (Bm.c g),.R 284 3 [B3 2 43 1 1048576,B3 2 44 0 9999,B3 2 45 0 1125899906842624,B3 2 46 0 1],.c 274 [.o 3 4 3,.f 237]] Z Z ?_;refine TE 3 2 1 Z Z (Fg 15 Z Z (Cz [] a (MZ _) Z λck bg a=>Go 6 Z ?_));cases a;refine YU Z ?_;refine Ep (QZ (i:=5) (m:=1) Z) ?_;exact Lr [0,2,5,3,1]
  .obtain⟨rfl,rfl⟩:=y;refine aV (.t [.a [.o 3 6 3,.f 237],.b AE]) [.c 88 (Bm.c g),.c 3 [I b2],.c 88 (Bm.c g),.R 284 3 [B3 2 47 1 1048576,B3 2 48 1 2,B3 2 49 1 5,B3 2 50 F.1 F.2.1,B3 2 51 F.2.2.1 F.2.2.2.1,B3 2 52 F.2.2.2.2.1 F.2.2.2.2.2],.c 274 [.o 3 6 3,.f 237]] Z Z ?_;refine TE 3 2 1 Z Z (Fg 15 Z Z (Cz [] a (MZ _) Z λcl bh a=>Go 6 Z ?_));cases a;refine YU Z ?_;refine Ep (QZ (i:=5) (m:=1) Z) ?_;exact Lr [0,2,5,3,1]
  .obtain⟨rfl,rfl⟩:=y;refine aV (.t [.a [.o 3 2 3,.f 237],.b AE]) [.c 88 (Bm.c g),.c 3 [I b2],.c 88 (Bm.c g),.R 284 3 [B3 2 53 1 1048576,B3 1 0 0 1],.c 274 [.o 3 2 3,.f 237]] Z Z ?_;refine TE 3 2 1 Z Z (Fg 15 Z Z (Cz [] a (MZ _) Z λcm bi a=>Go 6 Z ?_));cases a;refine YU Z ?_;refine Ep (QZ (i:=5) (m:=1) Z) ?_;exact Lr [0,2,5,3,1]
  .obtain⟨rfl,rfl⟩:=y;refine aV (.t [.a [.n,.f 237],.b AE]) [.c 88 (Bm.c g),.c 3 [I b2],.c 88 (Bm.c g),.c 274 [.n,.f 237]] Z Z ?_;refine Go 15 Z (Cz [] a (MZ _) Z λcn bj a=>Go 6 Z ?_);cases a;refine YU Z ?_;refine Ep (QZ (i:=4) (m:=1) Z) ?_;refine Ep (Le.phantomE (i:=4) (m:=0) (t:=284) (b1:=2) (b2:=1) Z Z Z) ?_;exact Lr [0,2,4,5,1]
  .obtain⟨rfl,rfl⟩:=y;refine aV (.t [.a [.o 3 2 3,.f 237],.b AE]) [.c 88 (Bm.c g),.c 3 [I b2],.c 88 (Bm.c g),.R 284 3 [B3 2 55 0 31,B3 2 56 1 1048576],.c 274 [.o 3 2 3,.f 237]] Z Z ?_;refine TE 3 2 1 Z Z (Fg 15 Z Z (Cz [] a (MZ _) Z λco bk a=>Go 6 Z ?_));cases a;refine YU Z ?_;refine Ep (QZ (i:=5) (m:=1) Z) ?_;exact Lr [0,2,5,3,1]
  .obtain⟨rfl,rfl⟩:=y;refine aV (.t [.a [.n,.nilf],.b AD]) [.c 88 (Bm.c g),.c 3 [I b2],.c 88 (Bm.c g),.c 274 [.n,.nilf]] Z Z ?_;refine Go 28 Z ?_;cases a;refine Qq (Gx 1 Z ?_);obtain rfl:=Oi h;refine R2 2 3 Z Z ?_;refine Ep (Eu (s:=2) (k:=1) (t:=3) (XS Z) Z) ?_;exact Lr [5]
 subst hb;refine Gx 1 Z (Eg M (Gc 12 Z (KN 3 0 [1,3,3] (by kernel_rfl) ?_)));obtain⟨cp,ag,h⟩:=Q7 h;refine DA.op (x:=.o 6 4 3) (H1:=[.c 88 (Bm.c g),.c 88 (Bm.c g),.c 274 [.o 3 (AI z) 3,.any],.e 284 1 4 z,.c 3 [I b2],.c 88 (Bm.c Ul),.R 284 3 [B3 1 3 1 13,B3 1 0 0 31,B3 1 1 1 1048576,B3 1 2 0 1099511627776]]) ?_ ?_
 .refine Qs [1] (DN.fn call192 Z Z Z) (Wj _ _ _ ag) ?_;rintro _ _ ⟨rfl,rfl⟩;exact FE Z Wp
 refine Db 1 Z ?_;refine DB.wo2 (x:=.o 3 (AI z) 3) (Ld isAgg272 Z Wp) (Ld isAgg272 Z Wp) ?_;refine DB.done Z (TE 6 1 4 Z Z (FE Z (Bd h λar ah h=>?_)));refine vH (sR (i:=6) (j:=3) ah JI Gf Z) ?_;refine Fg 22 Z Z (Cd [5,8,0] h (kB _ _ _ _) Z λau bl h=>Fg 11 Z Z (Bd h λav ai h=>FI (b:=av) [0,1,2,3] [1] (λl=>[(2,.o 1 (AI l.1) 1),(7,.p 2 0),(10,.p 3 0)]) (λl=>[(1,.r 3 1 (map (Qe .i64) l.1)),(2,.c 88 (Bm.c l.2.1)),(3,.c 3 [I l.2.2])]) Zf ?_ (λl env H aw M=>?_)))
 .refine G0 1 Z (Lp [0,0,5,8,9,7,1,4] [1,7,10,11,42,43] (λu=>[(2,.o 1 (AI u.1) 1),(44,I u.2.2.2)]) (λu=>[(1,.r 3 1 (map (Qe .i64) u.1)),(2,.c 88 (Bm.c u.2.1)),(3,.c 3 [I u.2.2.1]),(4,.e 284 2 3 au),(5,.e 284 6 7 ar)]) ai Zf ?_ ?_)
  .refine Ep (Eu (s:=2) (k:=1) (t:=3) (XS Z) Z) ?_;exact Lr [0,10,5,8,9,7,1,4]
  intro u bm d G;refine G0 6 Z (Q8 Z d (λ_ d=>?_) (λ_ d=>?_))
  .exact Gc 2 Z (Qj d (Gx 1 Z (Ji G d Z (Lr [0,1,2,3]))))
  refine Gc 7 Z (Bd d λB he106 d=>?_);refine vX (.p 5 (toNat u.2.2.2*3)) (Qk he106 Z Gf GM) ?_;refine vX (.a [Mp 6 7 B,I B.lo,I B.hi]) (QI Z isAgg284 GM Z (DP.ents (f:=0) (Jw he106).2) Z Z) ?_;refine Go 7 Z (C5 16 Z (D 2 Z ?_));refine DS.wo (x:=Mp 6 7 B) ?_ ?_
  .exact S Z Wp
  obtain⟨aj,Q,d⟩:=Q7 d;refine DS.v (x:=(I aj)) (fv Q EK) ?_;refine D 5 Z (Y3 8 d Z Z Z (λ_ d=>?_) (λ_ d=>?_))
  .refine D 7 Z (Ei Z (Go 15 Z (Qv d ?_)));obtain rfl:=Oj G d;refine Gx 1 Z (Qq (Gx 1 Z ?_));obtain rfl:=Oi h;refine R2 2 3 Z Z ?_;refine Ep (Eu (s:=2) (k:=1) (t:=3) (XS Z) Z) ?_;exact Lr [9]
  .refine D 2 Z ?_;refine DS.wo (x:=Mp 6 7 B) ?_ ?_
   .exact Sg (gT Z) Z Wp
   obtain⟨ak,T,d⟩:=Q7 d;refine DS.v (x:=(I ak)) (fv T EK) ?_ (hg:=(gT Z));refine D 3 Z (Ei Z (Go 4 Z (Cn Z d (λ_ d=>?_) (λ_ d=>?_))))
   .refine Gc 10 Z (Qv d ?_);obtain rfl:=Oj G d;refine Gx 1 Z (Qq (Gx 1 Z ?_));obtain rfl:=Oi h;refine R2 2 3 Z Z ?_;refine Ep (Eu (s:=2) (k:=1) (t:=3) (XS Z) Z) ?_;exact Lr [9]
   refine Gc 3 Z (C5 9 Z (D 2 Z ?_));obtain⟨al,he111,d⟩:=Q7 d;refine DS.v (x:=(.p 4 (toNat u.2.2.2*3))) (Qk he111 Z Gf GM) ?_;refine DS.wo (x:=.p 4 (toNat u.2.2.2*3)) ?_ ?_
   .exact Fp xx Z Wp
   refine DS.v (x:=(Mp 2 3 al)) (EC Z isAgg278 Z (DP.ents (f:=0) (Jw he111).2)) ?_;refine D 2 Z ?_;refine DS.wo (x:=Mp 6 7 B) ?_ ?_
   .exact S Z Wp
   obtain⟨am,W,d⟩:=Q7 d;refine DS.v (x:=(I am)) (fv W EK) ?_;refine Ei Z (S Z (Bd d λJ hq113 d=>?_));refine vU (zq (c:=Bm.c) (f:=u.2.1) (f':=J.1) (s':=J.2) hq113 uw EG) ?_;refine Rl (H:=[_,_,.c 88 (Bm.c J.1),.c 3 [I J.2],_,_,_,_,_]) Z ?_;refine Go 6 Z (S Z (Bd d λL X d=>?_));refine vX (I L) (fv X EK) ?_;refine vH (Em (xs:=[.tmp 81]) (es:=map (Qe .i64) [L]) QA Z Z Z Z Z ⟨Z,trivial⟩ Z Z) ?_;refine aV (.o 9 ([L].length) 1) [_,_,_,_,_,_,_,_,_,.r 3 1 (map (Qe .i64) [L])] Z Z ?_;refine Bd d λO Y d=>vH (Qu (e:=(Qe .i64)) Y QA EE (QS (i:=9))) ?_;refine aV (.o 10 (AI O) 1) [_,.dead,_,_,_,_,_,_,_,_,.r 3 1 (map (Qe .i64) O)] Z Z ?_;exact Go 8 Z (Qg d (Lr [0,10,2,3,4,5,6,7]))
 subst aw;refine Gx 1 Z (Eg M (Gc 8 Z (Bd h λw E h=>Cg w [0,1,2,3] [1,2,7,10] Ze (λw=>[(2,.c 88 (Bm.c w))]) Zf ?_ ?_)))
 .refine G0 0 Z (Cn Z E (λ_ E=>?_) (λ_ E=>?_))
  .exact Yy 5 Z E [0,1,2,3]
  exact Yy 1 Z E [0,1,2,3]
 refine Gc 10 Z ?_;refine TC.draw0 5 [94,95,96,97,2] [.o 1 (AI l.1) 1,.a (Bm.c ({w with Al:={A4:=w.Al.A4,A_:=(l.2.2==1):Al}:Bm})),.a (Bm.c g),.b (({w with Al:={A4:=w.Al.A4,A_:=(l.2.2==1):Al}:Bm})==g),.o 1 (AI l.1) 1] DL Z Z Z ?_ ?_
 .refine Oq.c ?_ (ov (ov (Oq.c ?_ (ov (Oq.n)))))
  .refine Om Z (sP 4 sN) ?_;exact S Z Wp
  .refine Om Z (sD 1 (sD 2 sN)) ?_;refine vX (.b (({w with Al:={A4:=w.Al.A4,A_:=(l.2.2==1):Al}:Bm})==g)) (fp (p:={w with Al:={A4:=w.Al.A4,A_:=(l.2.2==1):Al}:Bm}) (q:=g) d8 Z Z) ?_;exact Wp
 refine Go 4 Z ?_;obtain rfl:=Oi h;exact R2 2 3 Z Z (Lr [1])
def Sv(a:Bm):AB Int:=AH (OZ n a) λd=>(bif (!d.2)then AC 120 else AC 0)
theorem ij(a:Bm):Ks (Sv n a) 76 [.a (Bm.c a)] [] (λr=>I r):=by
 refine Kg 10 func76 Z Z Z Z λr h=>Cd [] h (Wb _ _) Z λf e h=>Fg 13 Z Z (Cn Z h (λ_ h=>?_) (λ_ h=>?_))
 .exact QG 7 Z h 2 []
 exact QG 8 Z h 2 []
def Lv(a:Bm)(d:Int):AB Bool:=AH ((bif (a.AN != d)then AC AE else AH (Sv n a) λe=>AC (e != 0)):AB Bool) λf=>AC f
theorem Ws(e:Bm)(f:Int):Ks (Lv n e f) 75 [.a (Bm.c e),.p 0 0] [.c 3 [I f]] (λr=>.b r):=by
 refine Kg 7 func75 Z Z Z Z λr h=>Bd h λd a h=>Cg d [0] [] (λd=>[(3,.b d)]) Ze Zf ?_ ?_
 .refine G0 6 Z (Is 8 a Z (λ_ a=>?_) (λ_ a=>?_))
  .exact Gl 6 Z a [0]
  .exact Go 1 Z (Cz [] a (ij _ _) Z λj i a=>Gl 4 Z a [0])
 exact QG 1 Z h 3 [0]
def R_(d:AA Bm)(g:Int)(a:Int):AB (Bn Int (Bn Unit Int)):=(bif a<(AI d:Int) then AH (Bt d a) λe=>AH (Lv n e g) λf=>(bif f then AC (.d (.d a))else AC (.k (i64.wrap (a+1))))else AC (.d (.k ())))
def Sx(e:AA Bm)(f:Int):AB Int:=AH (iter (R_ n e f) n 0:AB (Bn Unit Int)) λd=>match d with|.k a=>(AC (-1))|.d a=>AC a
theorem ik(g:AA Bm)(k:Int):Ks (Sx n g k) 141 [.o 0 (AI g) 57,.fn (.func 75) [] [.p 1 0]] [.r 88 57 (map Bm.c g),.c 3 [I k]] (λr=>I r):=by
 refine Kg 13 func141 Z Z Z Z λr h=>Bd h λl m h=>DF (b:=l) [0,1] [] Ze Ze Zf ?_ (λ_ p=>?_)
 .refine G0 1 Z (Lp [0,1] [0,1,7] (λd=>[(8,I d)]) Ze m Zf (Lr [0,1]) λd u a e=>?_);refine G0 6 Z (Q8 Z a (λ_ a=>?_) (λ_ a=>?_))
  .exact Gc 2 Z (Qj a (Gx 1 Z (Ji e a Z (Lr [0,1]))))
  refine Gc 15 Z (Bd a λq f a=>?_);refine vX (.p 0 (toNat d*57)) (Qk f Z EF EH) ?_;refine vX (.a (Bm.c q)) (QI Z E8 EH Z (Ql f) Z Z) ?_;refine Cz [1] a (Ws _ _ _) Z λw t a=>Go 2 Z (Cn Z a (λ_ a=>?_) (λ_ a=>?_))
  .refine Gc 9 Z (Qv a ?_);obtain rfl:=Oj e a;exact Gx 1 Z (Qq (Gx 1 Z (Rt h 4 [0,1])))
  exact Gc 7 Z (Qg a (Lr [0,1]))
 subst p;exact QG 6 Z h 4 [0,1]
def SR(h:Int)(a:(AA Bm)×Int×Int):AB (Bn ((AA Bm)×Int×Int) ((AA Bm)×Int)):=(bif a.2.2<(AI a.1:Int) then AH (Bt a.1 a.2.2) λd=>AH (Lv n d h) λf=>AH ((bif (!f)then AH (Bt a.1 a.2.1) λi=>AH (Fe a.1 a.2.1 d) λg=>AC (g,i64.wrap (a.2.1+1))else AC (a.1,a.2.1)):AB ((AA Bm)×Int)) λe=>AC (.k (e.1,e.2,i64.wrap (a.2.2+1)))else AC (.d (a.1,a.2.1)))
def OM(d:AA Bm)(f:Int):AB (AA Bm):=AH (Sx n d f) λe=>(bif (e==(-1))then AC d else AH (iter (SR n f) n (d,e,i64.wrap (e+1)):AB ((AA Bm)×Int)) λa=>AH (E_ a.1 0 a.2) λg=>AC g)
theorem j_(x:AA Bm)(u:Int):Kq (OM n x u) 73 [.o 0 (AI x) 57,.fn (.func 75) [] [.p 1 0]] [.r 88 57 (map Bm.c x),.c 3 [I u]] (λr=>.o 0 (AI r) 57) (λr=>[.r 88 57 (map Bm.c r),.c 3 [I u]]):=by
 refine Kg 9 func73 Z Z Z Z λr h=>Cz [0,1] h (ik _ _ _) Z λR M h=>Go 10 Z (Cn Z h (λ_ h=>?_) (λ_ h=>?_))
 .exact QG 8 Z h 4 [0,1]
 refine Gc 10 Z (Bd h λa F h=>Cg a [0,1] [] (λa=>[(0,.o 0 (AI a.1) 57),(5,I a.2)]) (λa=>[(0,.r 88 57 (map Bm.c a.1))]) Zf ?_ ?_)
 .refine G0 1 Z (Lp [0,1] [1] (λi=>[(0,.o 0 (AI i.1) 57),(5,I i.2.1),(6,I i.2.2)]) (λi=>[(0,.r 88 57 (map Bm.c i.1))]) F Zf (Lr [0,1]) λi N d y=>?_);refine G0 9 Z (Q8 Z d (λ_ d=>?_) (λ_ d=>?_))
  .exact Gc 2 Z (Qj d (Gx 1 Z (DM y d (Lr [0,1]))))
  refine Gc 8 Z (Bd d λG q d=>?_);refine vX (.p 0 (toNat i.2.2*57)) (Qk q Z EF EH) ?_;refine vX (.a (Bm.c G)) (QI Z E8 EH Z (Ql q) Z Z) ?_;refine Go 8 Z (Cz [1] d (Ws _ _ _) Z λO L d=>Go 3 Z (Bd d λm g d=>Ct m [0,1] [1,6] (λm=>[(0,.o 0 (AI m.1) 57),(5,I m.2)]) (λm=>[(0,.r 88 57 (map Bm.c m.1))]) Zf ?_ (λenv H J=>?_)))
  .refine G0 0 Z (Cn Z g (λ_ g=>?_) (λ_ g=>?_))
   .refine Gc 5 Z (Bd g λP t g=>?_);refine vX (.p 0 (toNat i.2.1*57)) (Qk t Z EF EH) ?_;refine Bd g λQ j g=>?_;refine vU (Yt (e:=Bm.c) (k:=57) (f:=0) t j EH Z Z) ?_;refine FE Z ?_;refine Ew (QD (s:=0) Z (congrArg (λn=>A.s 0 0 n 57) (QR j))) ?_;refine Ew (QD (s:=17) Z (congrArg (λn=>A.s 0 0 n 57) (QR j))) ?_;refine Ew (QD (s:=22) Z (congrArg (λn=>A.s 0 0 n 57) (QR j))) ?_;refine Ew (QD (s:=30) Z (congrArg (λn=>A.s 0 0 n 57) (QR j))) ?_;exact Gl 7 Z g [0,1]
   exact Yy 1 Z g [0,1]
  exact Gx 2 Z (Eg J (Gc 5 Z (Qg d (Lr [0,1]))))
 refine Gc 4 Z (Bd h λw p h=>?_);refine vX (.s 0 (0+toNat a.2) (AI a.1-toNat a.2) 57) (tA (l:=a.1) p EF EH) ?_;refine vN (sz (e:=Bm.c) (l:=a.1) p GR zeroValue88 Z (by simp[QB,Go.Value.cells])) ?_;refine Rl (H:=[.r 88 57 (map Bm.c w),.c 3 [I u]]) Z ?_;refine Go 6 Z ?_;refine vX (.o 0 (AI w) 57) (s_ (l:=a.1) p EF EH) ?_;exact Gt 4 Z h 4 [0,1]
def Of(n:Nat)(a:Int):AB Unit:=AC ()
theorem Wg(a:Int):Ks (Of n a) 189 [I a] [] (λ_=>.b (a != a)):=by
 exact Kg 14 func189 Z Z Z Z λr h=>Rt h 2 []
def M6(d:Int)(a:Int):AB Int:=AH (Of n d) λe=>AH (Of n a) λf=>(bif (d != d)then(bif (a != a)then AC 0 else AC (-1))else(bif (a != a)then AC 1 else(bif d<a then AC (-1)else(bif a<d then AC 1 else AC 0))))
theorem WW(a:Int)(d:Int):Ks (M6 n a d) 140 [I a,I d] [] (λr=>I r):=by
 refine Kg 8 func140 Z Z Z Z λr h=>Cz [] h (Wg _ _) Z λm k h=>Go 6 Z (Cz [] h (Wg _ _) Z λp l h=>Go 9 Z (Cn Z h (λ_ h=>?_) (λ_ h=>?_)))
 .refine Gc 6 Z (Cn Z h (λ_ h=>?_) (λ_ h=>?_))
  .exact QG 8 Z h 4 []
  exact QG 9 Z h 4 []
 refine Gc 8 Z (Cn Z h (λ_ h=>?_) (λ_ h=>?_))
 .exact QG 7 Z h 4 []
 iterate 2 (refine Gc 10 Z (Cn Z h (λ_ h=>?_) (λ_ h=>?_));exact QG 7 Z h 4 [])
 exact QG 8 Z h 4 []
def LY(n:Nat)(e:AA Int)(a:Int):AB (Bn Int (Bn Unit Int)):=(bif a<(AI e:Int) then AH (Bt e a) λd=>(bif (d != 0)then AC (.d (.d d))else AC (.k (i64.wrap (a+1))))else AC (.d (.k ())))
def OY(d:AA Int):AB Int:=AH (iter (LY n d) n 0:AB (Bn Unit Int)) λe=>match e with|.k a=>(AC 0)|.d a=>AC a
theorem Wa(j:AA Int):Ks (OY n j) 139 [.q 1 (map (Qe .i64) j)] [] (λr=>I r):=by
 refine Kg 14 func139 Z Z Z Z λr h=>Lg 3 Z Z (Bd h λl m h=>DF (b:=l) [] [3] Ze Ze Zf ?_ (λ_ k=>?_))
 .refine G0 1 Z (Lp [] [3,6,7] (λe=>[(8,I e)]) Ze m Zf (Lr []) λe q a d=>?_);refine G0 6 Z (Q8 Z a (λ_ a=>?_) (λ_ a=>?_))
  .exact Gc 2 Z (Qj a (Gx 1 Z (Ji d a Z (Lr []))))
  refine Gc 6 Z (Bd a λs g a=>Iz g Z (Go 11 Z (Cn Z a (λ_ a=>?_) (λ_ a=>?_))))
  .refine Gc 9 Z (Qv a ?_);obtain rfl:=Oj d a;exact Gx 1 Z (Qq (Gx 1 Z (Rt h 2 [])))
  exact Gc 7 Z (Qg a (Lr []))
 subst k;exact QG 7 Z h 2 []
def ST(n:Nat)(e:AL)(rec146:AL->AB (Int×Bool))(a:Int×Int):AB (Bn (Int×Int) (Bn Int (Int×Bool))):=(bif a.2<(AI e.L:Int) then AH (Bt e.L a.2) λf=>AH (rec146 f) λd=>(bif (!d.2)then AC (.d (.d (0,AD)))else AC (.k ((if a.1<d.1 then d.1 else a.1),i64.wrap (a.2+1))))else AC (.d (.k a.1)))
def U1(rec146:AL->AB (Int×Bool))(n:Nat)(a:AL):AB (Int×Bool):=AH ((bif (a.S==[])then(bif (a.N==0)then AH (Hu 4 (List.replicate 4 AD)) λm=>AH (Hu 4 ([AD,((AI a.L:Int)==0),((AI a.L:Int)==0),(a.S==[])]:AA Bool)) λe=>AC e else AH (Hu 4 (List.replicate 4 AD)) λp=>AH (Hu 4 ([AD,((AI a.L:Int)==0),AD,AD]:AA Bool)) λf=>AC f)else(bif (a.N==0)then AH (Hu 4 (List.replicate 4 AD)) λq=>AH (Hu 4 ([AD,AD,((AI a.L:Int)==0),(a.S==[])]:AA Bool)) λg=>AC g else AH (Hu 4 (List.replicate 4 AD)) λr=>AH (Hu 4 ([AD,AD,AD,AD]:AA Bool)) λh=>AC h)):AB (AA Bool)) λi=>AH ((bif a.AN<1 then AC AE else(bif 3<a.AN then AC AE else AH (KU 4 i a.AN) λj=>AC (!j))):AB Bool) λk=>(bif k then AC (0,AD)else(bif a.AN<3 then AC (0,AE)else AH (iter (ST n a rec146) n (0,0):AB (Bn Int (Int×Bool))) λl=>match l with|.k d=>(AC (i64.wrap (d+1),AE))|.d d=>AC d))
theorem Qd6(rec146:AL->AB (Int×Bool))(q:∀(j:AL) (r:Int×Bool),rec146 j=AC r->DE prog 256 [.a (Value.c j)] [] (λr=>.t [I r.1,.b r.2]) r)(n:Nat)(j:AL)(r:Int×Bool)(h:U1 rec146 n j=AC r):DE prog 256 [.a (Value.c j)] [] (λr=>.t [I r.1,.b r.2]) r:=by
 refine QK func256 Z Z Z ?_;refine G0 8 Z (Bd h λp a h=>Ct p [0,0] [1,2] (λ_=>[(4,.p 1 0)]) (λp=>[(1,.r 356 1 (map G5 p))]) Zf ?_ (λenv H s=>?_))
 .refine G0 5 Z (Is 12 a Z (λ_ a=>?_) (λ_ a=>?_))
  .refine Go 2 Z (Lg 6 Z Z (Is 21 a Z (λf a=>?_) (λf a=>?_)))
   .refine Go 2 Z (Lg 6 Z Z (Uz (gT f) qf Z (uO (gT f) isAgg9 Z ?_)));refine vX (.b (j.S==[])) (mu Z Z Z) ?_ (gT f);refine Pk f Z ?_;refine vV (x:=(.a (List.flatten (map G5 ([AD,((AI j.L:Int)==0),((AI j.L:Int)==0),(j.S==[])]:AA Bool))))) (JV (n:=4) (k:=1) (zs:=[.b AD,.b AD,.b AD,.b AD]) Ga (ZR.agg (zc ZR.bool (zc ZR.bool (zc ZR.bool (zc ZR.bool ZL.nil))))) Gg GI Z) ?_;refine vH (Js (n:=4) (k:=1) (e:=G5) (z:=AD) Ga (by kernel_rfl) (by kernel_rfl) (by kernel_rfl) Z) ?_;refine FE Z (Bd a λaq R a=>Bd a λaf t a=>?_);obtain⟨J,rfl⟩:=JK R;refine vU (Jr (e:=G5) (l:=(List.replicate 4 AD)) (l':=af) J (Rw t) Zf Z GS Zf Zf (congrArg (λl=>List.flatten (map G5 l)) (JK t).2.symm)) ?_;exact FE Z (Gl 1 Z a [0,1])
   .refine Go 9 Z (KF f Z (KF f Z (KF f Z (Pk f Z ?_))));refine vV (x:=(.a (List.flatten (map G5 ([AD,((AI j.L:Int)==0),AD,AD]:AA Bool))))) (JV (n:=4) (k:=1) (zs:=[.b AD,.b AD,.b AD,.b AD]) Ga (ZR.agg (zc ZR.bool (zc ZR.bool (zc ZR.bool (zc ZR.bool ZL.nil))))) Gg GI Z) ?_;refine vH (Js (n:=4) (k:=1) (e:=G5) (z:=AD) Ga (by kernel_rfl) (by kernel_rfl) (by kernel_rfl) Z) ?_;refine FE Z (Bd a λar T a=>Bd a λag u a=>?_);obtain⟨M,rfl⟩:=JK T;refine vU (Jr (e:=G5) (l:=(List.replicate 4 AD)) (l':=ag) M (Rw u) Zf Z GS Zf Zf (congrArg (λl=>List.flatten (map G5 l)) (JK u).2.symm)) ?_;exact FE Z (Gl 1 Z a [0,1])
  .refine Go 9 Z (Is 21 a Z (λg a=>?_) (λg a=>?_))
   .refine Go 2 Z (Lg 6 Z Z (Uz (gT g) qf Z (uO (gT g) isAgg9 Z ?_)));refine vX (.b (j.S==[])) (mu Z Z Z) ?_ (gT g);refine Pk g Z ?_;refine vV (x:=(.a (List.flatten (map G5 ([AD,AD,((AI j.L:Int)==0),(j.S==[])]:AA Bool))))) (JV (n:=4) (k:=1) (zs:=[.b AD,.b AD,.b AD,.b AD]) Ga (ZR.agg (zc ZR.bool (zc ZR.bool (zc ZR.bool (zc ZR.bool ZL.nil))))) Gg GI Z) ?_;refine vH (Js (n:=4) (k:=1) (e:=G5) (z:=AD) Ga (by kernel_rfl) (by kernel_rfl) (by kernel_rfl) Z) ?_;refine FE Z (Bd a λau V a=>Bd a λah w a=>?_);obtain⟨N,rfl⟩:=JK V;refine vU (Jr (e:=G5) (l:=(List.replicate 4 AD)) (l':=ah) N (Rw w) Zf Z GS Zf Zf (congrArg (λl=>List.flatten (map G5 l)) (JK w).2.symm)) ?_;exact FE Z (Gl 1 Z a [0,1])
   .refine Go 9 Z (KF g Z (KF g Z (KF g Z (Pk g Z ?_))));refine vX (.a (List.flatten (map G5 ([AD,AD,AD,AD]:AA Bool)))) (JV (n:=4) (k:=1) (zs:=[.b AD,.b AD,.b AD,.b AD]) Ga (ZR.agg (zc ZR.bool (zc ZR.bool (zc ZR.bool (zc ZR.bool ZL.nil))))) Gg GI Z) ?_;refine vH (Js (n:=4) (k:=1) (e:=G5) (z:=AD) Ga (by kernel_rfl) (by kernel_rfl) (by kernel_rfl) Z) ?_;refine FE Z (Bd a λav W a=>Bd a λai y a=>?_);obtain⟨O,rfl⟩:=JK W;refine vU (Jr (e:=G5) (l:=(List.replicate 4 AD)) (l':=ai) O (Rw y) Zf Z GS Zf Zf (congrArg (λl=>List.flatten (map G5 l)) (JK y).2.symm)) ?_;exact FE Z (Gl 1 Z a [0,1])
 refine Gx 1 Z (Eg s (Gc 2 Z (Bd h λB i h=>Ct B [0] [1,2] (λB=>[(50,.b B)]) Ze Zf ?_ (λenv H s=>?_))))
 .refine G0 5 Z (Is 39 i Z (λ_ i=>?_) (λ_ i=>?_))
  .exact Gl 12 Z i [0]
  .refine Go 5 Z (Is 44 i Z (λ_ i=>?_) (λ_ i=>?_))
   .exact Gl 7 Z i [0]
   .refine Go 2 Z (Bd i λaj E i=>?_);refine vX (.p 1 (toNat j.AN*1)) (Ry (n:=4) (k:=1) (l:=p) E Gg GI Z) ?_ (gT Z);refine vX (.b aj) (EC Z isAgg4 Z (Ql (Pf E).2)) ?_ (gT Z);exact Gl 3 Z i [0]
 refine Gx 1 Z (Eg s (Cn Z h (λ_ h=>?_) (λ_ h=>?_)))
 .refine Gc 8 Z ?_;obtain rfl:=Oi h;exact R2 2 3 Z Z (Lr [])
 refine Gc 10 Z (Cn Z h (λ_ h=>?_) (λ_ h=>?_))
 .refine Gc 8 Z ?_;obtain rfl:=Oi h;exact R2 2 3 Z Z (Lr [])
 refine Gc 7 Z (Lg 3 Z Z (Bd h λak al h=>DF (b:=ak) [] [] (λF=>[(2,I F)]) Ze Zf ?_ (λF am=>?_)))
 .refine G0 1 Z (Lp [] [55,56] (λm=>[(2,I m.1),(57,I m.2)]) Ze al Zf (Lr []) λm aw d G=>?_);refine G0 6 Z (Q8 Z d (λ_ d=>?_) (λ_ d=>?_))
  .exact Gc 2 Z (Qj d (Gx 1 Z (Ji G d Z (Lr []))))
  refine Gc 6 Z (Bd d λan ad d=>Fm ad (Y8 an) Z (Go 8 Z (Cd [] d (q _) Z λP ao d=>Fg 14 Z Z (Cn Z d (λ_ d=>?_) (λ_ d=>?_)))))
  .refine Gc 10 Z (Qv d ?_);obtain rfl:=Oj G d;refine Gx 1 Z (Qq (Gx 1 Z ?_));obtain rfl:=Oi h;exact R2 2 3 Z Z (Lr [])
  refine Gc 5 Z ?_;refine vX (I (if m.1<P.1 then P.1 else m.1)) (Bz.max Z Z Z Z) ?_;exact Go 8 Z (Qg d (Lr []))
 subst am;refine Gc 9 Z ?_;obtain rfl:=Oi h;exact R2 2 3 Z Z (Lr [])
def R7:Nat->AL->AB (Int×Bool)
  |0=>λ_=>AF
  |n+1=>U1 (R7 n) n
theorem uY:∀(a:AL) (r:Int×Bool),R7 n a=AC r->DE prog 256 [.a (Value.c a)] [] (λr=>.t [I r.1,.b r.2]) r:=by
  induction n with
  |zero=>intro a r h;cases h
  |succ n ih=>intro a r h;exact Qd6 _ ih n a r h
def cH(d:AL):AB Int:=AH (R7 n d) λa=>(bif (!a.2)then AC 1 else(bif 16<a.1 then AC 2 else AC 0))
theorem gx(a:AL):Ks (cH n a) 245 [.a (Value.c a)] [] (λr=>I r):=by
 refine Kg 9 func245 Z Z Z Z λr h=>Cd [] h (uY _ _) Z λg f h=>Fg 16 Z Z (Cn Z h (λ_ h=>?_) (λ_ h=>?_))
 .exact QG 8 Z h 2 []
 refine Gc 7 Z (Cn Z h (λ_ h=>?_) (λ_ h=>?_))
 .exact QG 8 Z h 2 []
 exact QG 9 Z h 2 []
def bW(n:Nat):AB Unit:=AC ()
theorem gg:Kq (bW n) 246 [] [] (λ_=>.p 0 0) (λ_=>[.c 349 [.nilf,.f 257,.f 260,.fn (.func 261) [] [.p 1 0]],.c 337 [.p 0 0]]):=by
 refine Kg 2 func246 Z Z Z Z λr h=>S Z (Go 4 Z ?_);refine vX (.a [.nilf,.nilf,.nilf,.nilf]) (JV (n:=4) (k:=1) (parts:=[]) (zs:=[.nilf,.nilf,.nilf,.nilf]) zeroValue349 (ZR.agg (zc ZR.nilf (zc ZR.nilf (zc ZR.nilf (zc ZR.nilf ZL.nil))))) ET Gd Z) ?_;refine Go 9 Z ?_;refine vX (.p 0 1) (Ja (i:=1) (n:=4) (k:=1) (j:=1) (by decide) Z ET Gd Z) ?_;refine Go 8 Z ?_;refine vX (.p 0 2) (Ja (i:=2) (n:=4) (k:=1) (j:=2) (by decide) Z ET Gd Z) ?_;refine Go 9 Z ?_;refine vX (.p 0 3) (Ja (i:=3) (n:=4) (k:=1) (j:=3) (by decide) Z ET Gd Z) ?_;exact Gt 11 Z h 0 [0,1]
def Oc(n:Nat)(a:Int):AB Unit:=AC ()
theorem Wd(a:Int):Ks (Oc n a) 259 [I a] [] (λ_=>.i .u64 (Mr .u64 (Kr .u64 (u64.wrap a) 1) (u64.wrap (Ye .i64 a 63)))):=by
 refine Kg 8 func259 Z Z Z Z λr h=>?_;refine vX (.i .u64 (u64.wrap a)) (YB Z EO EP Z) ?_;refine vX (.i .u64 (Kr .u64 (u64.wrap a) 1)) (Bz.shl Z Z Z (by decide)) ?_;refine Go 1 Z ?_;refine vX (I (Ye .i64 a 63)) (Bz.shr Z Z Z (by decide)) ?_;refine vX (.i .u64 (u64.wrap (Ye .i64 a 63))) (YB Z EO EP Z) ?_;refine vX (.i .u64 (Mr .u64 (Kr .u64 (u64.wrap a) 1) (u64.wrap (Ye .i64 a 63)))) (Bz.xor Z Z Z) ?_;exact Gt 4 Z h 2 []
def LI(n:Nat)(a:(AA Int)×Int):AB (Bn ((AA Int)×Int) ((AA Int)×Int)):=(bif 128<=a.2 then AH (app a.1 [L7 .u8 (u8.wrap a.2) 128]) λd=>AC (.k (d,Ye .u64 a.2 7))else AC (.d (a.1,a.2)))
def KG(e:AA Int)(f:Int):AB (AA Int):=AH (iter (LI n) n (e,f):AB ((AA Int)×Int)) λa=>AH (app a.1 [u8.wrap a.2]) λd=>AC d
theorem Ma(g:AA Int)(m:Int):Kq (KG n g m) 258 [.o 0 (AI g) 1,.i .u64 m] [.r 5 1 (map (Qe .u8) g)] (λr=>.o 1 (AI r) 1) (λr=>[.dead,.r 5 1 (map (Qe .u8) r)]):=by
 refine Kg 6 func258 Z Z Z Z λr h=>Bd h λf q h=>Cg f [0,0] [] (λf=>[(0,.o 1 (AI f.1) 1),(1,.i .u64 f.2)]) (λf=>[(0,.dead),(1,.r 5 1 (map (Qe .u8) f.1))]) Zf ?_ ?_
 .refine G0 1 Z (Lp [0,0] [] (λd=>[(0,.o 1 (AI d.1) 1),(1,.i .u64 d.2)]) (λd=>[(0,.dead),(1,.r 5 1 (map (Qe .u8) d.1))]) q Zf ?_ ?_)
  .refine Ep (mt (s:=0) (i:=0) Z Z Z) ?_;exact Lr [0,1]
  intro d t a p;refine G0 7 Z (Q8 Z a (λ_ a=>?_) (λ_ a=>?_))
  .exact Gc 2 Z (Qj a (Gx 1 Z (DM p a (Lr [0,1]))))
  refine Gc 7 Z ?_;refine vX (.i .u8 (u8.wrap d.2)) (YB Z EP E6 Z) ?_;refine vX (.i .u8 (L7 .u8 (u8.wrap d.2) 128)) (Bz.or Z Z Z) ?_;refine vH (Em (xs:=[.tmp 12]) (es:=map (Qe .u8) [L7 .u8 (u8.wrap d.2) 128]) YI Z Z Z Z Z ⟨Z,trivial⟩ Z Z) ?_;refine FE Z (Bd a λu k a=>vH (Qu (e:=(Qe .u8)) k YI EM (QS (i:=2))) ?_);refine Fg 6 Z Z ?_;refine vX (.i .u64 (Ye .u64 d.2 7)) (Bz.shr Z Z Z (by decide)) ?_;exact Go 2 Z (Qg a (Lr [0,3]))
 refine Gc 4 Z ?_;refine vX (.i .u8 (u8.wrap f.2)) (YB Z EP E6 Z) ?_;refine vH (Em (xs:=[.tmp 17]) (es:=map (Qe .u8) [u8.wrap f.2]) YI Z Z Z Z Z ⟨Z,trivial⟩ Z Z) ?_;refine FE Z (Bd h λw l h=>vH (Qu (e:=(Qe .u8)) l YI EM (QS (i:=2))) ?_);exact FE Z (Gt 4 Z h 4 [0,3])
def cC(a:AL):AB (AA Int):=AH (app [] [1]) λd=>AH (Oc n a.N) λf=>AH (KG n d (Mr .u64 (Kr .u64 (u64.wrap a.N) 1) (u64.wrap (Ye .i64 a.N 63)))) λe=>AC e
theorem gt(a:AL):Kq (cC n a) 257 [.n,.a (Value.c a)] [] (λr=>.o 0 (AI r) 1) (λr=>[.r 5 1 (map (Qe .u8) r)]):=by
 refine Kg 7 func257 Z Z Z Z λr h=>KN 5 2 [0,0,1,3,3] (by kernel_rfl) (Da 1 Z ?_);refine DA.wo (x:=.q 1 (map (Qe .u8) [1])) ?_ ?_
 .refine vH (YG (xs:=[.const (.int .u8 1)]) (es:=map (Qe .u8) [1]) YI Z Z Z Z Z ⟨Z,trivial⟩ Z Z) ?_;exact FE Z Wp
 obtain⟨i,d,h⟩:=Q7 h;refine Mv (rQ (e:=(Qe .u8)) d YI EM PV) Z Z (Db 1 Z ?_);refine DB.wo2 (x:=I a.N) (Ld EK Z Wp) (Ld EK Z Wp) ?_;exact DB.done Z (Cz [] h (Wd _ _) Z λj f h=>Cd [1] h (Ma _ _ _) Z λk g h=>FE Z (Gt 4 Z h 4 [2]))
def L1(d:AA Int)(a:AL):AB (AA Int):=AH (app d [1]) λe=>AH (Oc n a.N) λg=>AH (KG n e (Mr .u64 (Kr .u64 (u64.wrap a.N) 1) (u64.wrap (Ye .i64 a.N 63)))) λf=>AC f
theorem Wx(a:AA Int)(d:AL):Kq (L1 n a d) 257 [.o 0 (AI a) 1,.a (Value.c d)] [.r 5 1 (map (Qe .u8) a)] (λr=>.o 1 (AI r) 1) (λr=>[.dead,.r 5 1 (map (Qe .u8) r)]):=by
 refine Kg 7 func257 Z Z Z Z λr h=>KN 5 2 [0,0,1,3,3] (by kernel_rfl) (Da 1 Z ?_);refine DA.wo (x:=.q 1 (map (Qe .u8) [1])) ?_ ?_
 .refine vH (YG (xs:=[.const (.int .u8 1)]) (es:=map (Qe .u8) [1]) YI Z Z Z Z Z ⟨Z,trivial⟩ Z Z) ?_;exact FE Z Wp
 obtain⟨j,f,h⟩:=Q7 h;refine Mv (Qu (e:=(Qe .u8)) f YI EM PV) Z Z (Db 1 Z ?_);refine DB.wo2 (x:=I d.N) (Ld EK Z Wp) (Ld EK Z Wp) ?_;exact DB.done Z (Cz [] h (Wd _ _) Z λk g h=>Cd [2] h (Ma _ _ _) Z λl i h=>FE Z (Gt 4 Z h 4 [0,3]))
def oE(e:AL)(rec155:(AA Int)->AL->AB (AA Int))(a:(AA Int)×Int):AB (Bn ((AA Int)×Int) (AA Int)):=(bif a.2<(AI e.L:Int) then AH (Bt e.L a.2) λd=>(bif (d.AN==0)then AF else(bif (d.AN==1)then AH (L1 n a.1 d) λf=>AC (.k (f,i64.wrap (a.2+1)))else(bif (d.AN==2)then AF else(bif (d.AN==3)then AH (rec155 a.1 d) λg=>AC (.k (g,i64.wrap (a.2+1)))else AF))))else AC (.d a.1))
def dA(rec155:(AA Int)->AL->AB (AA Int))(n:Nat)(e:AA Int)(a:AL):AB (AA Int):=AH (app e [3]) λf=>AH (KG n f (u64.wrap (AI a.L:Int))) λg=>AH (iter (oE n a rec155) n (g,0):AB (AA Int)) λd=>AC d
theorem QaZ(rec155:(AA Int)->AL->AB (AA Int))(m:∀(l:AA Int) (d:AL) (r:AA Int),rec155 l d=AC r->C prog 261 [.o 0 (AI l) 1,.a (Value.c d),.p 1 0] [.r 5 1 (map (Qe .u8) l),.c 337 [.p 2 0],.c 349 [.nilf,.f 257,.f 260,.fn (.func 261) [] [.p 1 0]]] (RQ (λr=>.o 3 (AI r) 1) (λr=>[.dead,.c 337 [.p 2 0],.c 349 [.nilf,.f 257,.f 260,.fn (.func 261) [] [.p 1 0]],.r 5 1 (map (Qe .u8) r)]) r))(n:Nat)(l:AA Int)(d:AL)(r:AA Int)(h:dA rec155 n l d=AC r):C prog 261 [.o 0 (AI l) 1,.a (Value.c d),.p 1 0] [.r 5 1 (map (Qe .u8) l),.c 337 [.p 2 0],.c 349 [.nilf,.f 257,.f 260,.fn (.func 261) [] [.p 1 0]]] (RQ (λr=>.o 3 (AI r) 1) (λr=>[.dead,.c 337 [.p 2 0],.c 349 [.nilf,.f 257,.f 260,.fn (.func 261) [] [.p 1 0]],.r 5 1 (map (Qe .u8) r)]) r):=by
 refine QK func261 Z Z Z ?_;refine G0 7 Z (KN 7 2 [0,0,1,3,3,3,3] (by kernel_rfl) (Da 1 Z ?_));refine DA.wo (x:=.q 1 (map (Qe .u8) [3])) ?_ ?_
 .refine vH (YG (xs:=[.const (.int .u8 3)]) (es:=map (Qe .u8) [3]) YI Z Z Z Z Z ⟨Z,trivial⟩ Z Z) ?_;exact FE Z Wp
 obtain⟨O,B,h⟩:=Q7 h;refine Mv (Qu (e:=(Qe .u8)) B YI EM PV) Z Z (Db 1 Z ?_);refine DB.wo2 (x:=.q 4 (map Value.enc d.L)) (Ld isAgg290 Z Wp) (Ld isAgg290 Z Wp) ?_;refine DB.wo2 (x:=I (AI d.L:Int)) (Uy E4 Z Wp) (Uy E4 Z Wp) ?_;refine DB.wo2 (x:=.i .u64 (u64.wrap (AI d.L:Int))) ?_ ?_ ?_
 iterate 2 refine vX (.i .u64 (u64.wrap (AI d.L:Int))) (YB Z EO EP Z) ?_;exact Wp
 refine DB.done Z (Cd [4] h (Ma _ _ _) Z λP H h=>Fg 8 Z Z (Lg 3 Z Z (Bd h λf E h=>Cg f [0,1,2,3] [] (λf=>[(0,.o 3 (AI f) 1)]) (λf=>[(3,.r 5 1 (map (Qe .u8) f))]) Zf ?_ ?_)))
 .refine G0 1 Z (Lp [0,1,2,5] [2,17,18] (λg=>[(0,.o 3 (AI g.1) 1),(19,I g.2)]) (λg=>[(3,.r 5 1 (map (Qe .u8) g.1))]) E Zf (Lr [0,1,2,5]) λg J a t=>?_);refine G0 6 Z (Q8 Z a (λ_ a=>?_) (λ_ a=>?_))
  .exact Gc 2 Z (Qj a (Gx 1 Z (DM t a (Lr [0,1,2,3]))))
  refine Gc 6 Z (Bd a λp w a=>Fm w (Y8 p) Z (Go 5 Z (C5 9 Z (D 4 Z (If a (λ_ a=>?_) (λ_ a=>?_))))))
  .cases a
  .refine If a (λq a=>?_) (λq a=>?_)
   .refine DS.v (x:=(.p 2 1)) (Ja (i:=p.AN) (n:=4) (k:=1) (j:=1) q Z ET Gd Z) ?_;exact D 4 Z (Ei Z (Cd [3] a (Wx _ _ _) Z λM F a=>Fg 8 Z Z (Qg a (Lr [0,1,2,5]))))
   .refine If a (λ_ a=>?_) (λ_ a=>?_)
    .cases a
    .refine If a (λs a=>?_) (λs a=>?_)
     .refine DS.v (x:=(.p 2 3)) (Ja (i:=p.AN) (n:=4) (k:=1) (j:=3) s Z ET Gd Z) ?_;exact D 4 Z (Ei Z (Cd [3,1,2] a (m _ _) Z λN G a=>Fg 8 Z Z (Qg a (Lr [0,1,2,5]))))
     .cases a
 exact QG 7 Z h 5 [0,1,2,3]
def Ta:Nat->(AA Int)->AL->AB (AA Int)
  |0=>λ_ _=>AF
  |n+1=>dA (Ta n) n
theorem kU:∀(a:AA Int) (d:AL) (r:AA Int),Ta n a d=AC r->C prog 261 [.o 0 (AI a) 1,.a (Value.c d),.p 1 0] [.r 5 1 (map (Qe .u8) a),.c 337 [.p 2 0],.c 349 [.nilf,.f 257,.f 260,.fn (.func 261) [] [.p 1 0]]] (RQ (λr=>.o 3 (AI r) 1) (λr=>[.dead,.c 337 [.p 2 0],.c 349 [.nilf,.f 257,.f 260,.fn (.func 261) [] [.p 1 0]],.r 5 1 (map (Qe .u8) r)]) r):=by
  induction n with
  |zero=>intro a d r h;cases h
  |succ n ih=>intro a d r h;exact QaZ _ ih n a d r h
def NQ(e:AL)(a:(AA Int)×Int):AB (Bn ((AA Int)×Int) (AA Int)):=(bif a.2<(AI e.L:Int) then AH (Bt e.L a.2) λd=>(bif (d.AN==0)then AF else(bif (d.AN==1)then AH (L1 n a.1 d) λf=>AC (.k (f,i64.wrap (a.2+1)))else(bif (d.AN==2)then AF else(bif (d.AN==3)then AH (Ta n a.1 d) λg=>AC (.k (g,i64.wrap (a.2+1)))else AF))))else AC (.d a.1))
def OI(a:AL):AB (AA Int):=AH (app [] [3]) λe=>AH (KG n e (u64.wrap (AI a.L:Int))) λf=>AH (iter (NQ n a) n (f,0):AB (AA Int)) λd=>AC d
theorem j6(g:AL):Kq (OI n g) 261 [.n,.a (Value.c g),.p 0 0] [.c 337 [.p 1 0],.c 349 [.nilf,.f 257,.f 260,.fn (.func 261) [] [.p 0 0]]] (λr=>.o 2 (AI r) 1) (λr=>[.c 337 [.p 1 0],.c 349 [.nilf,.f 257,.f 260,.fn (.func 261) [] [.p 0 0]],.r 5 1 (map (Qe .u8) r)]):=by
 refine Kg 7 func261 Z Z Z Z λr h=>KN 7 2 [0,0,1,3,3,3,3] (by kernel_rfl) (Da 1 Z ?_);refine DA.wo (x:=.q 1 (map (Qe .u8) [3])) ?_ ?_
 .refine vH (YG (xs:=[.const (.int .u8 3)]) (es:=map (Qe .u8) [3]) YI Z Z Z Z Z ⟨Z,trivial⟩ Z Z) ?_;exact FE Z Wp
 obtain⟨M,y,h⟩:=Q7 h;refine Mv (rQ (e:=(Qe .u8)) y YI EM PV) Z Z (Db 1 Z ?_);refine DB.wo2 (x:=.q 4 (map Value.enc g.L)) (Ld isAgg290 Z Wp) (Ld isAgg290 Z Wp) ?_;refine DB.wo2 (x:=I (AI g.L:Int)) (Uy E4 Z Wp) (Uy E4 Z Wp) ?_;refine DB.wo2 (x:=.i .u64 (u64.wrap (AI g.L:Int))) ?_ ?_ ?_
 iterate 2 refine vX (.i .u64 (u64.wrap (AI g.L:Int))) (YB Z EO EP Z) ?_;exact Wp
 refine DB.done Z (Cd [3] h (Ma _ _ _) Z λN F h=>Fg 8 Z Z (Lg 3 Z Z (Bd h λd z h=>Cg d [0,1,2] [] (λd=>[(0,.o 2 (AI d) 1)]) (λd=>[(2,.r 5 1 (map (Qe .u8) d))]) Zf ?_ ?_)))
 .refine G0 1 Z (Lp [0,1,4] [2,17,18] (λf=>[(0,.o 2 (AI f.1) 1),(19,I f.2)]) (λf=>[(2,.r 5 1 (map (Qe .u8) f.1))]) z Zf (Lr [0,1,4]) λf G a q=>?_);refine G0 6 Z (Q8 Z a (λ_ a=>?_) (λ_ a=>?_))
  .exact Gc 2 Z (Qj a (Gx 1 Z (DM q a (Lr [0,1,2]))))
  refine Gc 6 Z (Bd a λl t a=>Fm t (Y8 l) Z (Go 5 Z (C5 9 Z (D 4 Z (If a (λ_ a=>?_) (λ_ a=>?_))))))
  .cases a
  .refine If a (λm a=>?_) (λm a=>?_)
   .refine DS.v (x:=(.p 1 1)) (Ja (i:=l.AN) (n:=4) (k:=1) (j:=1) m Z ET Gd Z) ?_;exact D 4 Z (Ei Z (Cd [2] a (Wx _ _ _) Z λH B a=>Fg 8 Z Z (Qg a (Lr [0,1,4]))))
   .refine If a (λ_ a=>?_) (λ_ a=>?_)
    .cases a
    .refine If a (λp a=>?_) (λp a=>?_)
     .refine DS.v (x:=(.p 1 3)) (Ja (i:=l.AN) (n:=4) (k:=1) (j:=3) p Z ET Gd Z) ?_;exact D 4 Z (Ei Z (Cd [2,0,1] a (kU _ _ _) Z λJ E a=>Fg 8 Z Z (Qg a (Lr [0,1,4]))))
     .cases a
 exact QG 7 Z h 5 [0,1,2]
def cO(a:AL):AB ((AA Int)×Int):=AH (cH n a) λd=>(bif (d != 0)then AC ([],d)else AH (bW n) λg=>(bif (a.AN==0)then AF else(bif (a.AN==1)then AH (cC n a) λe=>AC (e,0)else(bif (a.AN==2)then AF else(bif (a.AN==3)then AH (OI n a) λf=>AC (f,0)else AF)))))
theorem hQ(a:AL):Kq (cO n a) 201 [.a (Value.c a)] [] (λr=>.t [.o 0 (AI r.1) 1,I r.2]) (λr=>[.r 5 1 (map (Qe .u8) r.1)]):=by
 refine Kg 11 func201 Z Z Z Z λr h=>Cz [] h (gx _ _) Z λw p h=>Go 9 Z (Cn Z h (λ_ h=>?_) (λ_ h=>?_))
 .refine Gc 9 Z ?_;obtain rfl:=Oi h;refine R2 2 3 Z Z ?_;refine Ep (Eu (s:=2) (k:=1) (t:=5) (XS Z) Z) ?_;exact Lr [1]
 refine Gc 3 Z (KN 8 0 [1,3,3,2,2,2,2,3] (by kernel_rfl) ?_);obtain⟨y,g,h⟩:=Q7 h;refine DA.op (x:=.p 1 0) (H1:=[.c 292 (Value.c a),.c 349 [.nilf,.f 257,.f 260,.fn (.func 261) [] [.p 2 0]],.c 337 [.p 1 0]]) ?_ ?_
 .refine Qs [] (DN.fn call246 Z Z Z) (gg _ _ g) ?_;rintro _ _ ⟨rfl,rfl⟩;exact FE Z Wp
 refine Db 1 Z ?_;refine DB.wo2 (x:=I a.AN) (Ld EK Z Wp) (Ld EK Z Wp) ?_;refine Db 1 Z (If h (λ_ h=>?_) (λ_ h=>?_))
 .cases h
 .refine If h (λd h=>?_) (λd h=>?_)
  .refine DB.wo1 (x:=.p 1 1) ?_ ?_
   .refine vX (.p 1 1) (Ja (i:=a.AN) (n:=4) (k:=1) (j:=1) d Z ET Gd Z) ?_;exact Wp
   refine Db 2 Z ?_;refine DB.wo2 (x:=.a (Value.c a)) ?_ ?_ ?_
   iterate 2 refine vX (.a (Value.c a)) (QI Z GD Gv Z (DP.cells Z Z) Z Z) ?_;exact Wp
   refine DB.done Z (Cd [] h (gt _ _) Z λz q h=>Fg 5 Z Z ?_);obtain rfl:=Oi h;exact R2 2 3 Z Z (Lr [3])
  .refine If h (λ_ h=>?_) (λ_ h=>?_)
   .cases h
   .refine If h (λe h=>?_) (λe h=>?_)
    .refine DB.wo1 (x:=.p 1 3) ?_ ?_
     .refine vX (.p 1 3) (Ja (i:=a.AN) (n:=4) (k:=1) (j:=3) e Z ET Gd Z) ?_;exact Wp
     refine Db 2 Z ?_;refine DB.wo2 (x:=.a (Value.c a)) ?_ ?_ ?_
     iterate 2 refine vX (.a (Value.c a)) (QI Z GD Gv Z (DP.cells Z Z) Z Z) ?_;exact Wp
     refine DB.done Z (Cd [2,1] h (j6 _ _) Z λB u h=>Fg 5 Z Z ?_);obtain rfl:=Oi h;exact R2 2 3 Z Z (Lr [3])
    .cases h
def R'(n:Nat)(d:(AA Int)×Bool)(a:(AA AL)×Int):AB (Bn ((AA AL)×Int) (AA AL)):=(bif a.2<(AI d.1:Int) then AH (Bt d.1 a.2) λe=>AH (app a.1 [{AN:=1,N:=e,S:=[],L:=[]:AL}]) λf=>AC (.k (f,i64.wrap (a.2+1)))else AC (.d a.1))
def Og(f:Bm):AB ((AA Int)×Int):=AH (OZ n f) λd=>(bif (!d.2)then AC ([],120)else AH (iter (R' n d) n ([],0):AB (AA AL)) λe=>AH (cO n ({AN:=3,N:=0,S:=[],L:=e:AL})) λa=>AC (a.1,a.2))
theorem Wh(u:Bm):Kq (Og n u) 144 [.a (Bm.c u)] [] (λr=>.t [.o 0 (AI r.1) 1,I r.2]) (λr=>[.r 5 1 (map (Qe .u8) r.1)]):=by
 refine Kg 10 func144 Z Z Z Z λr h=>Cd [] h (Wb _ _) Z λG z h=>Fg 14 Z Z (Cn Z h (λ_ h=>?_) (λ_ h=>?_))
 .refine Gc 8 Z ?_;obtain rfl:=Oi h;refine R2 2 3 Z Z ?_;refine Ep (Eu (s:=2) (k:=1) (t:=5) (XS Z) Z) ?_;exact Lr [2]
 refine Gc 4 Z ?_;refine vX (.a [I 3,I 0,.str [],.n]) (Bz.build (zs:=[I 0,I 0,.str [],.n]) Gz (HI Z) pa) ?_;refine vH (f6 (v:=(.a [I 0,I 0,.str [],.n])) Gz (HI Z)) ?_;refine Fg 11 Z Z (Bd h λf x h=>Cg f [0,1] [] (λ_=>[(6,.p 0 0)]) (λf=>[(0,.c 292 [I 3,I 0,.str [],.o 1 (AI f) 4]),(1,.r 292 4 (map Value.enc f))]) Zf ?_ ?_)
 .refine G0 1 Z (Lp [2,0,1] [6,17,18] (λd=>[(19,I d.2)]) (λd=>[(0,.c 292 [I 3,I 0,.str [],.o 1 (AI d.1) 4]),(1,.r 292 4 (map Value.enc d.1))]) x Zf ?_ ?_)
  .refine Ep (f_ (i:=2) (m:=3) (t:=292) (k:=4) Z Z Z) ?_;exact Lr [2,3,1]
  intro d B a l;refine G0 6 Z (Q8 Z a (λ_ a=>?_) (λ_ a=>?_))
  .exact Gc 2 Z (Qj a (Gx 1 Z (DM l a (Lr [0,1]))))
  refine Gc 6 Z (Bd a λj g a=>?_);refine vX (.p 2 (toNat d.2*1)) (Qk g Z EE EG) ?_;refine vX (I j) (EC Z EK Z (Ql g)) ?_;refine Go 8 Z (vH (Em (xs:=[.tmp 26]) (es:=map Value.enc [{AN:=1,N:=j,S:=[],L:=[]:AL}]) d7 Z Z Z Z Z ⟨Z,trivial⟩ Z Z) ?_);refine FE Z (Bd a λE q a=>vH (Qu (e:=Value.enc) q d7 E4 (QS (i:=3))) ?_);exact Fg 9 Z Z (Qg a (Lr [0,4,2]))
 refine Gc 3 Z ?_;refine Ew (Ku [(31,_)] Z Z (Fc.cons Z (D9.agg (Ee (Ef _) (Ee (Ef _) (Ee (Ef _) (Ee Et (El _)))))) Fc.nil) (FT.cells (Ee (Ef _) (Ee (Ef _) (Ee (Ef _) (Ee Et (El _))))) (Ec (KZ _)))) ?_;refine Cd [] h (hQ _ _) Z λF y h=>Fg 7 Z Z ?_;obtain rfl:=Oi h;exact R2 2 3 Z Z (Lr [2])
def cS(n:Nat)(a:AA Int)(d:AA Int):AB Unit:=AC ()
theorem iA(a:AA Int)(d:AA Int):Ks (cS n a d) 145 [.q 1 (map (Qe .u8) a),.q 1 (map (Qe .u8) d)] [] (λ_=>I (cmpB a d)):=by
 refine Kg 9 func145 Z Z Z Z λr h=>?_;refine vX (I (cmpB a d)) (Bz.cmpB (l:=a) (m:=d) func202 (by kernel_rfl) (by kernel_rfl) (by kernel_rfl) (by kernel_rfl) H8.rsl H8.rsl) ?_;exact Gt 4 Z h 4 []
def OS(a:Bm)(d:Bm):AB Int:=AH (M6 n a.At d.At) λh=>AH (M6 n a.Au d.Au) λi=>AH (M6 n a.No d.No) λj=>AH (OY n [h,i,j]) λe=>(bif (e != 0)then AC e else AH (Og n a) λf=>AH (Og n d) λg=>AH (cS n f.1 g.1) λk=>AC (cmpB f.1 g.1))
theorem kG(a:Bm)(d:Bm):Ks (OS n a d) 78 [.a (Bm.c a),.a (Bm.c d)] [] (λr=>I r):=by
 refine Kg 9 func78 Z Z Z Z λr h=>C5 14 Z (D 4 Z ?_);refine Dz [] h (WW _ _ _) Z λf j h=>D 4 Z ?_;refine Dz [] h (WW _ _ _) Z λg k h=>D 4 Z (Ei Z (Cz [] h (WW _ _ _) Z λi l h=>?_));refine vH (YG (xs:=[.tmp 14,.tmp 19,.tmp 24]) (es:=map (Qe .i64) [f,g,i]) QA Z Z Z Z Z ⟨Z,Z,Z,trivial⟩ Z Z) ?_;refine FE Z (Cz [] h (Wa _ _) Z λt m h=>Go 9 Z (Cn Z h (λ_ h=>?_) (λ_ h=>?_)))
 .exact QG 8 Z h 4 []
 exact Gc 5 Z (Cd [] h (Wh _ _) Z λu p h=>Fg 10 Z Z (Cd [] h (Wh _ _) Z λw q h=>Fg 11 Z Z (Cb h (iA _ _ _) Z (lo (lo ln)) λx s h=>Gt 4 Z h 4 [])))
def Oa(n:Nat)(a:Bm)(d:Bm):AB Unit:=AC ()
theorem Wc(a:Bm)(d:Bm):Ks (Oa n a d) 80 [.a (Bm.c a),.a (Bm.c d)] [] (λ_=>.b (a==d)):=by
 refine Kg 11 func80 Z Z Z Z λr h=>?_;refine vX (.b (a==d)) (fp (p:=a) (q:=d) d8 Z Z) ?_;exact Gt 4 Z h 4 []
def LA(h:AA Bm)(d:Int)(a:(AA Bm)×Int×Int):AB (Bn ((AA Bm)×Int×Int) ((AA Bm)×Int)):=(bif a.2.2<((toNat (AI h:Int)-toNat d:Nat):Int) then AH (HX a.1 d (AI h:Int) a.2.2) λe=>AH (HX a.1 d (AI h:Int) (i64.wrap (a.2.2-1))) λf=>AH (Oa n e f) λk=>AH ((bif (!(e==f))then AH (HX a.1 d (AI h:Int) a.2.2) λi=>AH (Bt a.1 a.2.1) λl=>AH (Fe a.1 a.2.1 i) λj=>AC (j,i64.wrap (a.2.1+1))else AC (a.1,a.2.1)):AB ((AA Bm)×Int)) λg=>AC (.k (g.1,g.2,i64.wrap (a.2.2+1)))else AC (.d (a.1,a.2.1)))
def Lb(d:AA Bm)(a:Int):AB (Bn Int (Bn Unit (AA Bm))):=(bif a<(AI d:Int) then AH (Bt d a) λe=>AH (Bt d (i64.wrap (a-1))) λf=>AH (Oa n e f) λi=>(bif (e==f)then AH (E_ d a (AI d:Int)) λj=>AH (iter (LA n d a) n (d,a,1):AB ((AA Bm)×Int)) λg=>AH (E_ g.1 0 g.2) λh=>AC (.d (.d h))else AC (.k (i64.wrap (a+1))))else AC (.d (.k ())))
def OA(d:AA Bm):AB (AA Bm):=(bif (AI d:Int)<2 then AC d else AH (iter (Lb n d) n 1:AB (Bn Unit (AA Bm))) λe=>match e with|.k a=>(AC d)|.d a=>AC a)
theorem jw(q:AA Bm):Kq (OA n q) 79 [.o 0 (AI q) 57,.f 80] [.r 88 57 (map Bm.c q)] (λr=>.o 0 (AI r) 57) (λr=>[.r 88 57 (map Bm.c r)]):=by
 refine Kg 13 func79 Z Z Z Z λr h=>Cn Z h (λ_ h=>?_) (λ_ h=>?_)
 .exact QG 8 Z h 4 [0]
 refine Gc 8 Z (Bd h λR T h=>DF (b:=R) [0] [0] Ze Ze Zf ?_ (λ_ ad=>?_))
 .refine G0 1 Z (Lp [0] [0,1] (λg=>[(5,I g)]) Ze T Zf (Lr [0]) λg ai a w=>?_);refine G0 9 Z (Q8 Z a (λ_ a=>?_) (λ_ a=>?_))
  .exact Gc 2 Z (Qj a (Gx 1 Z (Ji w a Z (Lr [0]))))
  refine Gc 5 Z (C5 10 Z (D 3 Z ?_));obtain⟨V,y,a⟩:=Q7 a;refine DS.v (x:=(.p 0 (toNat g*57))) (Qk y Z EF EH) ?_;refine DS.v (x:=(.a (Bm.c V))) (QI Z E8 EH Z (Ql y) Z Z) ?_;refine D 3 Z ?_;obtain⟨W,z,a⟩:=Q7 a;refine DS.v (x:=(.p 0 (toNat (i64.wrap (g-1))*57))) (Qk z Z EF EH) ?_;refine DS.v (x:=(.a (Bm.c W))) (QI Z E8 EH Z (Ql z) Z Z) ?_;refine Ei Z (Cz [] a (Wc _ _ _) Z λaj ag a=>Go 2 Z (Cn Z a (λ_ a=>?_) (λ_ a=>?_)))
  .refine Gc 4 Z (Bd a λak N a=>?_);refine vX (.s 0 (0+toNat g) (toNat (AI q:Int)-toNat g) 57) (Y1 (l:=q) N EF EH (.inr ⟨_,Z,Z⟩) (.inl ⟨Z,Z⟩)) ?_;refine Go 9 Z (Bd a λj X a=>Cg j [0] [] (λj=>[(0,.o 0 (AI j.1) 57),(5,I j.2)]) (λj=>[(0,.r 88 57 (map Bm.c j.1))]) Zf ?_ ?_)
   .refine G0 1 Z (Lp [0] [1,6] (λi=>[(0,.o 0 (AI i.1) 57),(5,I i.2.1),(7,I i.2.2)]) (λi=>[(0,.r 88 57 (map Bm.c i.1))]) X Zf (Lr [0]) λi al d O=>?_);refine G0 5 Z ?_;refine vX (I ((toNat (AI q:Int)-toNat g:Nat):Int)) (rR Z Z EF Z) ?_;refine Go 3 Z (Q8 Z d (λ_ d=>?_) (λ_ d=>?_))
    .exact Gc 2 Z (Qj d (Gx 1 Z (DM O d (Lr [0]))))
    refine Gc 5 Z (C5 10 Z (D 3 Z ?_));obtain⟨Y,B,d⟩:=Q7 d;refine DS.v (x:=(.p 0 (toNat (g+i.2.2)*57))) (JU (l:=i.1) (lo:=g) (hi:=(AI q:Int)) B EF EH) ?_;refine DS.v (x:=(.a (Bm.c Y))) (QI Z E8 EH Z (Ql (M5 B)) Z Z) ?_;refine D 3 Z ?_;obtain⟨aa,E,d⟩:=Q7 d;refine DS.v (x:=(.p 0 (toNat (g+i64.wrap (i.2.2-1))*57))) (JU (l:=i.1) (lo:=g) (hi:=(AI q:Int)) E EF EH) ?_;refine DS.v (x:=(.a (Bm.c aa))) (QI Z E8 EH Z (Ql (M5 E)) Z Z) ?_;refine Ei Z (Cz [] d (Wc _ _ _) Z λam ah d=>Go 3 Z (Bd d λp m d=>Ct p [0] [1,6,7] (λp=>[(0,.o 0 (AI p.1) 57),(5,I p.2)]) (λp=>[(0,.r 88 57 (map Bm.c p.1))]) Zf ?_ (λenv H ae=>?_)))
    .refine G0 0 Z (Cn Z m (λ_ m=>?_) (λ_ m=>?_))
     .refine Gc 6 Z (Bd m λab F m=>?_);refine vX (.p 0 (toNat (g+i.2.2)*57)) (JU (l:=i.1) (lo:=g) (hi:=(AI q:Int)) F EF EH) ?_;refine vX (.a (Bm.c ab)) (QI Z E8 EH Z (Ql (M5 F)) Z Z) ?_;refine Bd m λan G m=>?_;refine vX (.p 0 (toNat i.2.1*57)) (Qk G Z EF EH) ?_;refine Bd m λao t m=>?_;refine vU (Yt (e:=Bm.c) (k:=57) (f:=0) G t EH Z Z) ?_;refine FE Z ?_;refine Ew (QD (s:=0) Z (congrArg (λn=>A.s 0 0 n 57) (QR t))) ?_;refine Ew (QD (s:=50) Z (congrArg (λn=>A.s 0 0 n 57) (QR t))) ?_;exact Gl 7 Z m [0]
     exact Yy 1 Z m [0]
    exact Gx 2 Z (Eg ae (Gc 5 Z (Qg d (Lr [0]))))
   refine Gc 4 Z (Bd a λJ u a=>?_);refine vX (.s 0 (0+toNat j.2) (AI j.1-toNat j.2) 57) (tA (l:=j.1) u EF EH) ?_;refine vN (sz (e:=Bm.c) (l:=j.1) u GR zeroValue88 Z (by simp[QB,Go.Value.cells])) ?_;refine Rl (H:=[.r 88 57 (map Bm.c J)]) Z ?_;refine Go 6 Z ?_;refine vX (.o 0 (AI J) 57) (s_ (l:=j.1) u EF EH) ?_;refine Go 6 Z (Qv a ?_);obtain rfl:=Oj w a;exact Gx 1 Z (Qq (Gx 1 Z (Rt h 4 [0])))
  exact Gc 8 Z (Qg a (Lr [0]))
 subst ad;exact QG 7 Z h 4 [0]
def LF(n:Nat)(d:AA Bm)(a:Int):AB ((AA Bm)×Bn Int Unit):=(bif a<(AI d:Int) then AH (Bt d a) λe=>yl e (AC ([],.k (i64.wrap (a+1))))else AC ([],.d ()))
def H5(a:AA Bm)(d:Int):AB ((AA Bm)×Unit):=AH (TO n a) λe=>AH (OM n e d) λf=>AH (Ky (λx y=>OS n x y) f) λg=>AH (OA n g) λh=>ap (ME (LF n h) n 0) λi=>AC ([],())
theorem Zi(r:AA Bm)(k:Int)(p:(AA Bm)×Unit)(h:H5 n r k=AC p):Zg prog 72 [.p 0 0,.p 1 0] [.c 34 [.q 57 (map Bm.c r)],.c 3 [I k]] (λx=>[.a (Bm.c x)]) Ti p.1:=by
 obtain⟨xs,u⟩:=p;refine QjZ func72 Z Z Z Z ?_;intro X hE hN;refine ni 1 Z (Cs.lf ?_);refine G0 2 Z (Cd [] h (jH _ _) Z λT G h=>Fg 1 Z Z (Cd [2,1] h (j_ _ _ _) Z λV J h=>Fg 2 Z Z ?_));refine K1 2 Z (Cs.lf ?_);refine G0 2 Z (Bd h λF d h=>?_);refine Qs [2] (DN.fn call77 Z Z Z) (pd (enc:=Bm.c) Qh7 d (λx y c h=>kG n x y c h) E8 EH call78 Zf Z) ?_;rintro _ _ ⟨rfl,rfl⟩;refine FE Z ?_;refine Ew (QD (s:=9) Z (congrArg (λn=>A.s 2 0 n 57) (aQ d))) ?_;refine Ew (QD (s:=10) Z (congrArg (λn=>A.s 2 0 n 57) (aQ d))) ?_;refine Ew (oz (i:=0) Z (congrArg (λnz=>B8.cells 34 [.o 2 nz 57]) (aQ d))) ?_;refine Go 1 Z ?_;refine K1 2 Z (Cs.lf ?_);refine G0 2 Z ?_;refine Ew (QZ (i:=0) (m:=0) Z) ?_;refine Rl (H:=[.c 34 [.any],.c 3 [I k],.r 88 57 (map Bm.c F)]) Z ?_;refine Cd [2] h (jw _ _) Z λW L h=>Fg 3 Z Z ?_;refine K1 1 Z ?_;obtain⟨M,t,w,z,B,rfl⟩:=Zb h;rw[Vj];refine wp t (w++[]) [0,1] [0] Ze Ze Zf ?_ (λenv H N=>?_)
 .refine ni 1 Z ?_;refine vG [0,1,2] [0,13,14] (λf=>[(15,I f)]) Ze z Zf (Lr [0,1,2]) λf O P Q a l=>?_;refine ni 1 Z (Cs.lf ?_);refine G0 3 Z ?_;refine K1 2 Z (Cs.lf ?_);refine G0 0 Z (Q8 Z a (λ_ a=>?_) (λ_ a=>?_))
  .refine Gc 1 Z ?_;refine K1 1 Z ?_;obtain⟨rfl,rfl,rfl⟩:=Oy l a;exact um (K1 1 Z (ZT (Lr [0,1])))
  refine Gc 1 Z ?_;refine K1 4 Z (Cs.lf ?_);refine G0 1 Z (Bd a λj g a=>?_);refine vX (.p 2 (toNat f*57)) (Qk g Z EF EH) ?_;refine vX (.a (Bm.c j)) (QI Z E8 EH Z (Ql g) Z Z) ?_;refine Go 3 Z ?_;refine K1 5 Z ?_;obtain⟨R,E,rfl⟩:=U5 a;refine vJ (x:=j) (e:=λx=>.a (Bm.c x)) hE hN Z Z Z Z ?_ ?_
  .refine uQ 3 Z (Cs.lf ?_);refine G0 2 Z ?_;refine K1 2 Z (Cs.lf ?_);refine G0 4 Z ?_;exact K1 0 Z (uk E (Lr [0,1,2]))
  .exact uQ 7 Z (ul (K1 1 Z (ZS (⟨.inr Z,.inr ⟨_,Z⟩⟩))))
 cases B;exact⟨.inl Z,.inl Z⟩
def Ib(a:Int)(g:Int)(d:Bl)(e:AA (Ua×Bool)):AB (AA (Ua×Bool)):=AH (AH (M7 n d a) λh=>(bif h then AH (Bt d.Ar a) λi=>AC (i.AN != 1)else AC AD):AB Bool) λj=>(bif j then AH (AC (Yp e ({mat:=a,epoch:=g:Ua}) AE)) λf=>AC f else AC e)
theorem Mh(d:Int)(e:Int)(f:Bl)(g:AA (Ua×Bool)):Kq (Ib n d e f g) 40 [I d,I e,.p 0 0,.p 1 0] [.c 33 (Bl.c f),.c 118 [.map 2],.map (Q6 (λx=>A.a (Ua.c x)) A.b g)] (λ_=>.t []) (λr=>[.c 33 (Bl.c f),.c 118 [.map 2],.map (Q6 (λx=>A.a (Ua.c x)) A.b r)]):=by
 refine Kg 1 func40 Z Z Z Z λr h=>Bd h λi a h=>Cg i [0,1,2] [0,1,3] (λi=>[(17,.b i)]) Ze Zf ?_ ?_
 .refine G0 3 Z (Cz [] a (Tm _ _ _) Z λu s a=>Go 1 Z (Is 9 a Z (λ_ a=>?_) (λ_ a=>?_)))
  .exact Go 3 Z (Bd a λw p a=>Iz p Z (Gl 5 Z a [0,1,2]))
  .exact Gl 9 Z a [0,1,2]
 refine Cn Z h (λ_ h=>?_) (λ_ h=>?_)
 .refine Gc 5 Z (Bd h λt j h=>?_);refine vU (Jh (ev:=A.b) (k:=({mat:=d,epoch:=e:Ua})) (v:=AE) (l:=g) UF j Z GL) ?_;refine Fg 1 Z Z ?_;obtain rfl:=Oi h;exact Rx [0,1,2] [] Z (Hv.nil Z) ⟨Z,Z⟩
 refine Gc 1 Z ?_;obtain rfl:=Oi h;exact Rx [0,1,2] [] Z (Hv.nil Z) ⟨Z,Z⟩
def S0(a:Ua)(d:Ua):AB Int:=AH (M6 n a.mat d.mat) λe=>AH (M6 n a.epoch d.epoch) λf=>AH (OY n [e,f]) λg=>AC g
theorem im(a:Ua)(d:Ua):Ks (S0 n a d) 70 [.a (Ua.c a),.a (Ua.c d)] [] (λr=>I r):=by
 refine Kg 8 func70 Z Z Z Z λr h=>C5 9 Z (D 4 Z ?_);refine Dz [] h (WW _ _ _) Z λe g h=>D 4 Z (Ei Z (Cz [] h (WW _ _ _) Z λf i h=>?_));refine vH (YG (xs:=[.tmp 9,.tmp 14]) (es:=map (Qe .i64) [e,f]) QA Z Z Z Z Z ⟨Z,Z,trivial⟩ Z Z) ?_;exact FE Z (Cz [] h (Wa _ _) Z λk j h=>Gt 4 Z h 4 [])
def IS(a:Bk)(d:Bk):AB Int:=AH (S0 n ({mat:=a.Ag,epoch:=a.AT:Ua}) ({mat:=d.Ag,epoch:=d.AT:Ua})) λe=>AC e
theorem W4(a:Bk)(d:Bk):Ks (IS n a d) 36 [.a (Bk.c a),.a (Bk.c d)] [] (λr=>I r):=by
 exact Kg 19 func36 Z Z Z Z λr h=>Cz [] h (im _ _ _) Z λf e h=>Gt 4 Z h 4 []
def bL(e:Bl)(f:AA (Ua×Bool))(a:Bm):AB (Bn (AA (Ua×Bool)) ((AA Bk)×Int)):=AH (Ib n a.Az.Ag a.Az.AT e f) λd=>AC (.k d)
def bR(d:Bl)(e:AA (Ua×Bool))(a:Bm):AB (Bn (AA (Ua×Bool)) ((AA Bk)×Int)):=AH (Ib n a.AV.BE a.AV.A2 d e) λf=>AH (Ib n a.AV.BF a.AV.A3 d f) λg=>AC (.k g)
def bM(h:Bl)(d:(AA (Ua×Bool))×(AA (Ua×Int)))(a:Bm):AB (Bn ((AA (Ua×Bool))×(AA (Ua×Int))) ((AA Bk)×Int)):=AH (Ib n a.AO.Ag a.AO.AT h d.1) λe=>AH (AC (QM d.2 ({mat:=a.AO.Ag,epoch:=a.AO.AT:Ua}) 0)) λi=>AH ((bif (!(G6 d.2 ({mat:=a.AO.Ag,epoch:=a.AO.AT:Ua})))then AH (AC (Yp d.2 ({mat:=a.AO.Ag,epoch:=a.AO.AT:Ua}) a.AO.Av)) λf=>AC f else AC d.2):AB (AA (Ua×Int))) λg=>AC (.k (e,g))
def LG(n:Nat)(f:(AA (Ua×Bool))×(AA (Ua×Int)))(g:AA Bk)(a:Ua×Bool):AB (Bn (AA Bk) (AA Bk)):=AH (AC (QM f.2 a.1 0)) λd=>AH (app g [{Ag:=a.1.mat,AT:=a.1.epoch,As:=d:Bk}]) λe=>AC (.k e)
def NE(n:Nat)(a:AA Bk):AB (AA Bk):=AC a
def Hz(g:Bl)(d:AA Bm):AB ((AA Bk)×Int):=AH (I2 n g) λi=>(bif (i != 0)then AC ([],i)else AH (Ph n d 2) λr=>AH (H5 n d 2) λy4=>AH (HJ (bL n g) y4.1 []:AB (Bn (AA (Ua×Bool)) ((AA Bk)×Int))) λj=>match j with|.k e=>(AH (Ph n d 4) λp=>AH (H5 n d 4) λy19=>AH (HJ (bR n g) y19.1 e:AB (Bn (AA (Ua×Bool)) ((AA Bk)×Int))) λk=>match k with|.k f=>(AH (Ph n d 3) λq=>AH (H5 n d 3) λy37=>AH (HJ (bM n g) y37.1 (f,[]):AB (Bn ((AA (Ua×Bool))×(AA (Ua×Int))) ((AA Bk)×Int))) λl=>match l with|.k a=>(bif 511<(AI a.1:Int) then AC ([],2)else anyP (λp115=>AH (KW (LG n a) (NE n) [] p115) λm=>AH (Ky (λx y=>IS n x y) m) λh=>AC (h,0)) a.1)|.d a=>AC a)|.d f=>AC f)|.d e=>AC e)
theorem P1(F:Bl)(a2:AA Bm):Kq (Hz n F a2) 16 [.a (Bl.c F),.q 57 (map Bm.c a2)] [] (λr=>.t [.o 0 (AI r.1) 3,I r.2]) (λr=>[.r 55 3 (map Bk.c r.1)]):=by
 refine Kg 11 func16 Z Z Z Z λr h=>Cz [] h (iQ _ _) Z λr1 bb h=>Go 9 Z (Cn Z h (λ_ h=>?_) (λ_ h=>?_))
 .refine Gc 9 Z ?_;obtain rfl:=Oi h;refine R2 4 5 Z Z ?_;refine Ep (Eu (s:=4) (k:=3) (t:=55) (XS Z) Z) ?_;exact Lr [1]
 refine Gc 4 Z (vH YL ?_);refine Fg 15 Z Z (Cd [] h (WS _ _ _) Z λr3 bc h=>Fg 3 Z Z (Bd h λy4 hy4 h=>Bd h λbd ag h=>?_));refine aL [4,5] (λs5=>[.c 33 (Bl.c F),.map (Q6 (λx=>A.a (Ua.c x)) A.b s5),.c 118 [.map 1],.c 121 [.fn (.func 40) [] [.p 0 0,.p 2 0]],.dead,.dead]) ag (Zi _ _ _ _ hy4) Zf call72 Z Z Z Z (by decide) Z (Jt Z) ?_ ?_
 .intro s5 x6 be G al;refine G0 4 Z (And.intro Z ?_);exact G0 9 Z (Cd [0,2,1] G (Mh _ _ _ _ _) Z λbg am G=>Fg 2 Z Z (Z_ G (Lr [0,1,2,3,4,5])))
 rintro bh rfl;refine Gx 6 Z (Cd [] h (WS _ _ _) Z λbi an h=>Fg 3 Z Z (Bd h λy19 hy19 h=>Bd h λbj ah h=>?_));refine aL [6,7] (λT=>[.c 33 (Bl.c F),.map (Q6 (λx=>A.a (Ua.c x)) A.b T),.c 118 [.map 1],.c 121 [.fn (.func 40) [] [.p 0 0,.p 2 0]],.dead,.dead,.dead,.dead]) ah (Zi _ _ _ _ hy19) Zf call72 Z Z Z Z (by decide) Z (Jt Z) ?_ ?_
 .intro T bk bl w ao;refine G0 4 Z (And.intro Z ?_);exact G0 10 Z (Cd [0,2,1] w (Mh _ _ _ _ _) Z λbm aq w=>Fg 10 Z Z (Cd [0,2,1] w (Mh _ _ _ _ _) Z λbn ar w=>Fg 2 Z Z (Z_ w (Lr [0,1,2,3,4,5,6,7]))))
 rintro bo rfl;refine Gx 4 Z (vH YL ?_);refine Fg 8 Z Z (Cd [] h (WS _ _ _) Z λbq au h=>Fg 3 Z Z (Bd h λy37 hy37 h=>Bd h λbr ai h=>?_));refine aL [10,11] (λm=>[.c 33 (Bl.c F),.map (Q6 (λx=>A.a (Ua.c x)) A.b m.1),.c 118 [.map 1],.c 121 [.fn (.func 40) [] [.p 0 0,.p 2 0]],.dead,.dead,.dead,.dead,.map (Q6 (λx=>A.a (Ua.c x)) (λx=>A.int .i64 x) m.2),.c 125 [.map 8],.dead,.dead]) ai (Zi _ _ _ _ hy37) Zf call72 Z Z Z Z (by decide) Z (Jt Z) ?_ ?_
 .intro m d bs f av;refine G0 4 Z (And.intro Z ?_);refine G0 10 Z (Cd [0,2,1] f (Mh _ _ _ _ _) Z λbt aw f=>Fg 19 Z Z (Bd f λaj V f=>?_));refine vX (.t [I aj,.b (G6 m.2 ({mat:=d.AO.Ag,epoch:=d.AO.AT:Ua}))]) (zr (ev:=(λx=>A.int .i64 x)) (z0:=0) (k:=({mat:=d.AO.Ag,epoch:=d.AO.AT:Ua})) (l:=m.2) UF V Gq EW Er) ?_;refine Go 13 Z (Bd f λJ g f=>Ct J [0,1,2,3,4,5,6,7,8,9,10,11] [] Ze (λJ=>[(8,.map (Q6 (λx=>A.a (Ua.c x)) (λx=>A.int .i64 x) J))]) Zf ?_ (λenv H L=>?_))
  .refine G0 0 Z (Cn Z g (λ_ g=>?_) (λ_ g=>?_))
   .refine Gc 6 Z (Bd g λbu X g=>?_);refine vU (Jh (ev:=(λx=>A.int .i64 x)) (k:=({mat:=d.AO.Ag,epoch:=d.AO.AT:Ua})) (v:=d.AO.Av) (l:=m.2) UF X Z Gq) ?_;exact FE Z (Gl 1 Z g [0,1,2,3,4,5,6,7,8,9,10,11])
   exact Yy 1 Z g [0,1,2,3,4,5,6,7,8,9,10,11]
  exact Gx 1 Z (Z_ f (Ep L (Lr [0,1,2,3,4,5,6,7,8,9,10,11])))
 rintro q rfl;refine Gx 6 Z ?_;refine vX (I (AI q.1:Int)) (m4 (l:=q.1) GL Z) ?_;refine Go 3 Z (Cn Z h (λ_ h=>?_) (λ_ h=>?_))
 .refine Gc 8 Z ?_;obtain rfl:=Oi h;refine R2 4 5 Z Z ?_;refine Ep (Eu (s:=4) (k:=3) (t:=55) (XS Z) Z) ?_;exact Lr [12]
 refine Gc 6 Z (vH (Do.range GL) ?_);refine Fg 2 Z Z ?_;have ak:=wK h;have M:PH _ _ _ _ _:=λp hp=>Q7 (ak p hp);refine wG M (λE=>[(4,.o 0 (AI E) 3)]) (λE=>[.r 55 3 (map Bk.c E)]) ?_ (λE env H N L=>?_)
 .refine G0 1 Z ?_;refine wm (enc:=(λp=>((λx=>A.a (Ua.c x)) p.1,A.b p.2))) (λz=>[(4,.o 0 (AI z) 3),(10,.p 1 0),(89,.p 3 0)]) (λz O=>[.r 55 3 (map Bk.c z),.c 125 [.map 2],.map (Q6 (λx=>A.a (Ua.c x)) (λx=>A.int .i64 x) q.2),.iter AF O]) M ?_ ?_
  .refine Ep (Eu (s:=4) (k:=3) (t:=55) (XS Z) Z) ?_;exact Lr [13,9,8,12]
  intro z O aa;refine G0 2 Z ?_;refine wq (enc:=(λp=>((λx=>A.a (Ua.c x)) p.1,A.b p.2))) aa (λax ab ac=>?_) (λa P ay j az ad=>?_)
  .refine Go 7 Z (uq ?_);cases ab;exact Gx 1 Z (ZU ac (Lr [0]))
  refine aV (.t [.b AE,.a (Ua.c a.1),.b a.2]) [.r 55 3 (map Bk.c z),.c 125 [.map 2],.map (Q6 (λx=>A.a (Ua.c x)) (λx=>A.int .i64 x) q.2),.iter (AC (.a (Ua.c a.1),.b a.2)) (map (λp=>((λx=>A.a (Ua.c x)) p.1,A.b p.2)) P)] Z Z ?_;refine Go 10 Z ?_;refine vX (.t [.a (Ua.c a.1),.b a.2]) (Bz.entry (e:=(.a (Ua.c a.1),.b a.2))) ?_;refine Go 5 Z (C5 10 Z (D 7 Z ?_));obtain⟨B,Q,j⟩:=Q7 j;refine DS.v (x:=(I B)) (Jg (ev:=(λx=>A.int .i64 x)) (z0:=0) (k:=a.1) (l:=q.2) UF Q Gq EW Er) ?_;refine D 1 Z ?_;refine DS.wo (x:=.q 3 (map Bk.c [{Ag:=a.1.mat,AT:=a.1.epoch,As:=B:Bk}])) ?_ ?_
  .refine vH (YG (xs:=[.tmp 102]) (es:=map Bk.c [{Ag:=a.1.mat,AT:=a.1.epoch,As:=B:Bk}]) Tz Z Z Z Z Z ⟨Z,trivial⟩ Z Z) ?_;exact FE Z Wp
  refine Ei Z (Bd j λae R j=>vH (Qu (e:=Bk.c) R Tz EL PV) ?_);refine Fg 3 Z Z (uo _ _ j ad ?_);refine Ep (x9 (i:=3) (H':=[.dead,.c 125 [.map 2],.map (Q6 (λx=>A.a (Ua.c x)) (λx=>A.int .i64 x) q.2),.iter AF (map (λp=>((λx=>A.a (Ua.c x)) p.1,A.b p.2)) P),.c 120 (Ua.c a.1),.r 55 3 (map Bk.c ae)]) Z Z) ?_;exact Lr [5,1,2,3]
 refine Gx 1 Z (Eg L (Gc 3 Z (Bd N λba u N=>?_)));refine Qs [0] (DN.fn call42 Z Z Z) (pd (enc:=Bk.c) Qh8 u (λx y c h=>W4 n x y c h) GC EQ call36 Zf Z) ?_;rintro _ _ ⟨rfl,rfl⟩;refine FE Z ?_;refine Ew (QD (s:=4) Z (congrArg (λn=>A.s 0 0 n 3) (aQ u))) ?_;refine Ew (QD (s:=105) Z (congrArg (λn=>A.s 0 0 n 3) (aQ u))) ?_;refine Go 10 Z ?_;obtain rfl:=Oi N;exact R2 4 5 Z Z (Lr [0])
def IT(n:Nat)(a:Int)(d:Int)(e:Int)(f:Int)(g:AA Edge):AB (AA Edge):=AH (app g [{Ai:=a,To:=d,W:=f:Edge},{Ai:=d,To:=a,W:=i64.wrap (0-e):Edge}]) λh=>AC h
theorem Py(a:Int)(d:Int)(f:Int)(g:Int)(j:AA Edge):Kq (IT n a d f g j) 43 [I a,I d,I f,I g,.p 0 0] [.c 58 [.o 1 (AI j) 3],.r 129 3 (map Edge.c j)] (λ_=>.t []) (λr=>[.c 58 [.o 2 (AI r) 3],.dead,.r 129 3 (map Edge.c r)]):=by
 refine Kg 11 func43 Z Z Z Z λr h=>vH (Em (xs:=[.tmp 13,.tmp 18]) (es:=map Edge.c [{Ai:=a,To:=d,W:=g:Edge},{Ai:=d,To:=a,W:=i64.wrap (0-f):Edge}]) PR Z Z Z Z Z ⟨Z,Z,trivial⟩ Z Z) ?_;refine FE Z (Bd h λl k h=>vH (Qu (e:=Edge.c) k PR Gk (QS (i:=2))) ?_);refine Fg 2 Z Z ?_;obtain rfl:=Oi h;exact Rx [0,1,3] [] Z (Hv.nil Z) ⟨Z,Z⟩
def KD(e:Int)(f:Int)(a:Int)(h:AA Bk)(i:Bl)(j:AA (Ua×Int)):AB (Int×CA):=AH (AC (QM j ({mat:=e,epoch:=f:Ua}) 0)) λd=>AH ((bif 0<d then AH (Bt h (i64.wrap (d-1))) λk=>AC k else AC ({Ag:=e,AT:=f,As:=0:Bk})):AB Bk) λl=>AH (IW n i l a) λg=>AC (d,{Lo:=i64.wrap (a+g.Lo),Hi:=i64.wrap (a+g.Hi):CA})
theorem Pw(m:Int)(p:Int)(a:Int)(f:AA Bk)(q:Bl)(g:AA (Ua×Int)):Kq (KD n m p a f q g) 44 [I m,I p,I a,.p 0 0,.p 1 0,.p 2 0] [.c 125 [.map 3],.c 35 [.o 4 (AI f) 3],.c 33 (Bl.c q),.map (Q6 (λx=>A.a (Ua.c x)) (λx=>A.int .i64 x) g),.r 55 3 (map Bk.c f)] (λr=>.t [I r.1,.a [I r.2.Lo,I r.2.Hi]]) (λr=>[.c 125 [.map 3],.c 35 [.o 4 (AI f) 3],.c 33 (Bl.c q),.map (Q6 (λx=>A.a (Ua.c x)) (λx=>A.int .i64 x) g),.r 55 3 (map Bk.c f),.c 40 [I r.2.Lo,I r.2.Hi]]):=by
 refine Kg 12 func44 Z Z Z Z λr h=>Bd h λi t h=>?_;refine vX (I i) (Jg (ev:=(λx=>A.int .i64 x)) (z0:=0) (k:=({mat:=m,epoch:=p:Ua})) (l:=g) UF t Gq EW Er) ?_;refine Go 19 Z (Bd h λs d h=>Cg s [0,1,2,3,4,5,6] [2,5,9,10,11] Ze (λs=>[(6,.c 55 (Bk.c s))]) Zf ?_ ?_)
 .refine G0 0 Z (Cn Z d (λ_ d=>?_) (λ_ d=>?_))
  .refine Gc 4 Z (Bd d λw j d=>?_);refine vX (.p 4 (toNat (i64.wrap (i-1))*3)) (Qk j Z EL EQ) ?_;refine vX (.a (Bk.c w)) (QI Z GC EQ Z (Ql j) Z Z) ?_;exact Gl 2 Z d [0,1,2,3,4,5,6]
  exact Yy 1 Z d [0,1,2,3,4,5,6]
 refine Gc 5 Z (Cd [] h (Mc _ _ _ _) Z λe y h=>Fg 5 Z Z ?_);refine TC.draw0 11 [32,33,34,35,36,37,38,39,40,41,9] [I i,I a,.p 8 0,I e.Lo,I (i64.wrap (a+e.Lo)),I a,.p 8 1,I e.Hi,I (i64.wrap (a+e.Hi)),.a [I (i64.wrap (a+e.Lo)),I (i64.wrap (a+e.Hi))],I i] DL Z Z Z ?_ ?_
 .refine Oq.c ?_ (ov (ov (ov (Oq.c ?_ (ov (ov (ov (Oq.c ?_ (ov (ov (Oq.n)))))))))))
  .refine Om Z (sP 10 sN) ?_;exact S Z Wp
  .refine Om Z (sD 1 (sD 3 sN)) ?_;exact S Z Wp
  .refine Om Z (sD 5 (sD 7 sN)) ?_;exact S Z Wp
 refine Go 4 Z ?_;obtain rfl:=Oi h;exact Rx [0,1,2,3,4,5] [9,10] Z (Qo Z Z (CC.cons C_.tmp (CC.cons (Qf EX EU Z Z Z) CC.nil))) ⟨Z,Z⟩
def M_(e:(AA Bk)×Int)(a:(AA (Ua×Int))×(AA Edge)×Int):AB (Bn ((AA (Ua×Int))×(AA Edge)×Int) ((AA (Ua×Int))×(AA Edge))):=(bif a.2.2<(AI e.1:Int) then AH (Bt e.1 a.2.2) λd=>AH (AC (Yp a.1 ({mat:=d.Ag,epoch:=d.AT:Ua}) (i64.wrap (a.2.2+1)))) λf=>AH (IT n 0 (i64.wrap (a.2.2+1)) (-1099511627776) 1099511627776 a.2.1) λg=>AC (.k (f,g,i64.wrap (a.2.2+1)))else AC (.d (a.1,a.2.1)))
def SP(f:Bl)(k:(AA Bk)×Int)(g:(AA (Ua×Int))×(AA Edge))(e:AA Edge)(a:Bm):AB (Bn (AA Edge) (Int×(AA Edge)×Int)):=AH (M7 n f a.AO.Ag) λh=>AH ((bif h then AH (KD n a.AO.Ag a.AO.AT a.AO.Av k.1 f g.1) λd=>AH (IT n 0 d.1 (i64.wrap ((i64.wrap (a.AO.True-a.AO.BX))-d.2.Hi)) (i64.wrap ((i64.wrap (a.AO.True+a.AO.BX))-d.2.Lo)) e) λi=>AC i else AC e):AB (AA Edge)) λj=>AC (.k j)
def SU(f:Bl)(p:(AA Bk)×Int)(g:(AA (Ua×Int))×(AA Edge))(h:AA Edge)(a:Bm):AB (Bn (AA Edge) (Int×(AA Edge)×Int)):=AH (AH (M7 n f a.AV.BE) λi=>(bif i then AH (M7 n f a.AV.BF) λj=>AC j else AC AD):AB Bool) λk=>AH ((bif k then AH (KD n a.AV.BE a.AV.A2 a.AV.A1 p.1 f g.1) λd=>AH (KD n a.AV.BF a.AV.A3 a.AV.Ay p.1 f g.1) λe=>AH (IT n d.1 e.1 (i64.wrap ((i64.wrap (a.AV.BQ-e.2.Hi))+d.2.Lo)) (i64.wrap ((i64.wrap (a.AV.BO-e.2.Lo))+d.2.Hi)) h) λl=>AC l else AC h):AB (AA Edge)) λm=>AC (.k m)
def IR(h:Bl)(e:AA Bm):AB (Int×(AA Edge)×Int):=AH (Hz n h e) λd=>(bif (d.2 != 0)then AC (0,[],d.2)else AH (iter (M_ n d) n ([],[],0):AB ((AA (Ua×Int))×(AA Edge))) λf=>AH (Ph n e 3) λk=>AH (H5 n e 3) λy23=>AH (HJ (SP n h d f) y23.1 f.2:AB (Bn (AA Edge) (Int×(AA Edge)×Int))) λj=>match j with|.k g=>(AH (Ph n e 4) λl=>AH (H5 n e 4) λy62=>AH (HJ (SU n h d f) y62.1 g:AB (Bn (AA Edge) (Int×(AA Edge)×Int))) λi=>match i with|.k a=>(bif 8192<(AI a:Int) then AC (0,[],2)else AC (i64.wrap ((AI d.1:Int)+1),a,0))|.d a=>AC a)|.d g=>AC g)
theorem W3(E:Bl)(a2:AA Bm):Kq (IR n E a2) 17 [.a (Bl.c E),.q 57 (map Bm.c a2)] [] (λr=>.t [.a [I r.1,.q 3 (map Edge.c r.2.1)],I r.2.2]) (λr=>[.c 60 [I r.1,.q 3 (map Edge.c r.2.1)]]):=by
 refine Kg 11 func17 Z Z Z Z λr h=>Cd [] h (P1 _ _ _) Z λe bc h=>Fg 15 Z Z (Cn Z h (λ_ h=>?_) (λ_ h=>?_))
 .refine Gc 10 Z ?_;obtain rfl:=Oi h;exact Rx [1] [4,5] Z (Qo Z Z (CC.cons (Qf GJ GE Z Z Z) (CC.cons C_.tmp CC.nil))) ⟨Z,Z⟩
 refine Gc 4 Z (vH YL ?_);refine Fg 24 Z Z (Bd h λp ag h=>Ct p [0,1,2,3,4,5,6,7,0] [1,2,4,8] (λ_=>[(6,.p 2 0),(7,.p 4 0),(9,.p 8 0)]) (λp=>[(2,.c 35 [.o 3 (AI e.1) 3]),(3,.r 55 3 (map Bk.c e.1)),(4,.c 125 [.map 5]),(5,.map (Q6 (λx=>A.a (Ua.c x)) (λx=>A.int .i64 x) p.1)),(6,.c 58 [.o 7 (AI p.2) 3]),(7,.r 129 3 (map Edge.c p.2)),(8,.c 130 [.fn (.func 43) [] [.p 6 0]])]) Zf ?_ (λenv H y=>?_))
 .refine G0 1 Z (Lp [0,1,3,2,5,4,6,0,7] [1,2,4,6,7,8,9,35,36] (λs=>[(37,I s.2.2)]) (λs=>[(2,.c 35 [.o 3 (AI e.1) 3]),(4,.c 125 [.map 5]),(5,.map (Q6 (λx=>A.a (Ua.c x)) (λx=>A.int .i64 x) s.1)),(6,.c 58 [.o 7 (AI s.2.1) 3]),(7,.r 129 3 (map Edge.c s.2.1))]) ag Zf ?_ ?_)
  .refine Ep (f_ (i:=6) (m:=0) (t:=129) (k:=3) Z Z Z) ?_;exact Lr [0,1,3,2,5,4,6,8,7]
  intro s bd q aa;refine G0 6 Z (Q8 Z q (λ_ q=>?_) (λ_ q=>?_))
  .exact Gc 2 Z (Qj q (Gx 1 Z (DM aa q (Lr [0,1,2,3,4,5,6,7,8]))))
  refine Gc 7 Z (Bd q λP Q q=>?_);refine vX (.p 3 (toNat s.2.2*3)) (Qk Q Z EL EQ) ?_;refine vX (.a (Bk.c P)) (QI Z GC EQ Z (Ql Q) Z Z) ?_;refine Go 15 Z (Bd q λbe ac q=>?_);refine vU (Jh (ev:=(λx=>A.int .i64 x)) (k:=({mat:=P.Ag,epoch:=P.AT:Ua})) (v:=(i64.wrap (s.2.2+1))) (l:=s.1) UF ac Z Gq) ?_;exact Fg 6 Z Z (Cd [6,7] q (Py _ _ _ _ _ _) Z λbg ao q=>Fg 7 Z Z (Qg q (Lr [0,1,2,3,4,5,6,10,8])))
 refine Gx 1 Z (Eg y (Gc 11 Z (Cd [] h (WS _ _ _) Z λbh aq h=>Fg 3 Z Z (Bd h λy23 hy23 h=>Bd h λbi ah h=>?_))));refine aL [10,11] (λG=>[.c 33 (Bl.c E),.c 60 [I 0,.q 3 (map Edge.c [])],.c 35 [.o 3 (AI e.1) 3],.r 55 3 (map Bk.c e.1),.c 125 [.map 5],.map (Q6 (λx=>A.a (Ua.c x)) (λx=>A.int .i64 x) p.1),.c 58 [.o 12 (AI G) 3],.dead,.c 130 [.fn (.func 43) [] [.p 6 0]],.c 131 [.fn (.func 44) [] [.p 4 0,.p 2 0,.p 0 0]],.dead,.dead,.r 129 3 (map Edge.c G)]) ah (Zi _ _ _ _ hy23) Zf call72 Z Z Z Z (by decide) Z ?_ ?_ ?_
 .refine Ep (sQ (i:=7) (j:=6) (m:=0) Z Z Z Z Z) ?_;exact Lr [0,1,2,3,4,5,6,7,8,9,10,11,12]
 .intro G N bj J ar;refine G0 4 Z (And.intro Z ?_);refine G0 14 Z (Cz [] J (Tm _ _ _) Z λbk au J=>Go 2 Z (Bd J λO u J=>Ct O [0,1,2,3,4,5,6,7,8,9,10,11,0] [] Ze (λO=>[(6,.c 58 [.o 12 (AI O) 3]),(12,.r 129 3 (map Edge.c O))]) Zf ?_ (λenv H y=>?_)))
  .refine G0 0 Z (Cn Z u (λ_ u=>?_) (λ_ u=>?_))
   .refine Gc 9 Z (Cd [4,2,0,5,3] u (Pw _ _ _ _ _ _ _) Z λw av u=>?_);refine Rm (x:=(.t [I w.1,.a [I w.2.Lo,I w.2.Hi]])) (H:=[.c 33 (Bl.c E),.c 60 [I 0,.q 3 (map Edge.c [])],.c 35 [.o 3 (AI e.1) 3],.r 55 3 (map Bk.c e.1),.c 125 [.map 5],.map (Q6 (λx=>A.a (Ua.c x)) (λx=>A.int .i64 x) p.1),.c 58 [.o 12 (AI G) 3],.dead,.c 130 [.fn (.func 43) [] [.p 6 0]],.c 131 [.fn (.func 44) [] [.p 4 0,.p 2 0,.p 0 0]],.dead,.dead,.r 129 3 (map Edge.c G),.c 88 (Bm.c N),.c 68 (AO.c N.AO),.c 40 [I w.2.Lo,I w.2.Hi]]) Z (by simp only[Yj,Vk,Vl,List.set_cons_succ,List.set_cons_zero,VK,Vi];rfl) ?_;refine Go 27 Z (Cd [6,12] u (Py _ _ _ _ _ _) Z λY aw u=>?_);refine Rm (x:=(.t [])) (H:=[.c 33 (Bl.c E),.c 60 [I 0,.q 3 (map Edge.c [])],.c 35 [.o 3 (AI e.1) 3],.r 55 3 (map Bk.c e.1),.c 125 [.map 5],.map (Q6 (λx=>A.a (Ua.c x)) (λx=>A.int .i64 x) p.1),.c 58 [.o 17 (AI Y) 3],.dead,.c 130 [.fn (.func 43) [] [.p 6 0]],.c 131 [.fn (.func 44) [] [.p 4 0,.p 2 0,.p 0 0]],.dead,.dead,.dead,.c 88 (Bm.c N),.c 68 (AO.c N.AO),.c 40 [I w.2.Lo,I w.2.Hi],.c 40 [I w.2.Lo,I w.2.Hi],.r 129 3 (map Edge.c Y)]) Z (by simp only[Yj,Vk,Vl,List.set_cons_succ,List.set_cons_zero,VK,Vi];rfl) ?_;exact Gl 1 Z u [0,1,2,3,4,5,6,7,8,9,10,11,17]
   exact Yy 1 Z u [0,1,2,3,4,5,6,7,8,9,10,11,12]
  exact Gx 1 Z (Z_ J (Ep y (Lr [0,1,2,3,4,5,6,7,8,9,10,11,12])))
 rintro bl rfl;refine Gx 6 Z (Cd [] h (WS _ _ _) Z λbm ax h=>Fg 3 Z Z (Bd h λy62 hy62 h=>Bd h λay ae h=>?_));refine aL [13,14] (λz=>[.c 33 (Bl.c E),.c 60 [I 0,.q 3 (map Edge.c [])],.c 35 [.o 3 (AI e.1) 3],.r 55 3 (map Bk.c e.1),.c 125 [.map 5],.map (Q6 (λx=>A.a (Ua.c x)) (λx=>A.int .i64 x) p.1),.c 58 [.o 15 (AI z) 3],.dead,.c 130 [.fn (.func 43) [] [.p 6 0]],.c 131 [.fn (.func 44) [] [.p 4 0,.p 2 0,.p 0 0]],.dead,.dead,.dead,.dead,.dead,.r 129 3 (map Edge.c z)]) ae (Zi _ _ _ _ hy62) Zf call72 Z Z Z Z (by decide) Z ?_ ?_ ?_
 .refine Ep (sQ (i:=12) (j:=6) (m:=0) Z Z Z Z Z) ?_;exact Lr [0,1,2,3,4,5,6,7,8,9,10,11,12,13,14,15]
 .intro z R az B ai;refine G0 4 Z (And.intro Z ?_);refine G0 10 Z (Bd B λL f B=>Ct L [0,1,2,3,4,5,6,7,8,9,10,11,12,13,14,15,17] [9,12,18] (λL=>[(109,.b L)]) Ze Zf ?_ (λenv H y=>?_))
  .refine G0 4 Z (Cz [] f (Tm _ _ _) Z λba aj f=>Go 1 Z (Is 104 f Z (λ_ f=>?_) (λ_ f=>?_)))
   .exact Go 3 Z (Cz [] f (Tm _ _ _) Z λbb ak f=>Gl 2 Z f [0,1,2,3,4,5,6,7,8,9,10,11,12,13,14,15,17])
   .exact Gl 6 Z f [0,1,2,3,4,5,6,7,8,9,10,11,12,13,14,15,17]
  refine Gx 1 Z (Eg y (Bd B λF d B=>Ct F [0,1,2,3,4,5,6,7,8,9,10,11,12,13,14,0] [] Ze (λF=>[(6,.c 58 [.o 15 (AI F) 3]),(15,.r 129 3 (map Edge.c F))]) Zf ?_ (λenv H y=>?_)))
  .refine G0 0 Z (Cn Z d (λ_ d=>?_) (λ_ d=>?_))
   .refine Gc 9 Z (Cd [4,2,0,5,3] d (Pw _ _ _ _ _ _ _) Z λa al d=>?_);refine Rm (x:=(.t [I a.1,.a [I a.2.Lo,I a.2.Hi]])) (H:=[.c 33 (Bl.c E),.c 60 [I 0,.q 3 (map Edge.c [])],.c 35 [.o 3 (AI e.1) 3],.r 55 3 (map Bk.c e.1),.c 125 [.map 5],.map (Q6 (λx=>A.a (Ua.c x)) (λx=>A.int .i64 x) p.1),.c 58 [.o 15 (AI z) 3],.dead,.c 130 [.fn (.func 43) [] [.p 6 0]],.c 131 [.fn (.func 44) [] [.p 4 0,.p 2 0,.p 0 0]],.dead,.dead,.dead,.dead,.dead,.r 129 3 (map Edge.c z),.c 70 (AV.c R.AV),.c 40 [I a.2.Lo,I a.2.Hi]]) Z (by simp only[Yj,Vk,Vl,List.set_cons_succ,List.set_cons_zero,VK,Vi];rfl) ?_;refine Go 17 Z (Cd [4,2,0,5,3] d (Pw _ _ _ _ _ _ _) Z λg am d=>?_);refine Rm (x:=(.t [I g.1,.a [I g.2.Lo,I g.2.Hi]])) (H:=[.c 33 (Bl.c E),.c 60 [I 0,.q 3 (map Edge.c [])],.c 35 [.o 3 (AI e.1) 3],.r 55 3 (map Bk.c e.1),.c 125 [.map 5],.map (Q6 (λx=>A.a (Ua.c x)) (λx=>A.int .i64 x) p.1),.c 58 [.o 15 (AI z) 3],.dead,.c 130 [.fn (.func 43) [] [.p 6 0]],.c 131 [.fn (.func 44) [] [.p 4 0,.p 2 0,.p 0 0]],.dead,.dead,.dead,.dead,.dead,.r 129 3 (map Edge.c z),.c 70 (AV.c R.AV),.c 40 [I a.2.Lo,I a.2.Hi],.c 40 [I a.2.Lo,I a.2.Hi],.c 40 [I g.2.Lo,I g.2.Hi]]) Z (by simp only[Yj,Vk,Vl,List.set_cons_succ,List.set_cons_zero,VK,Vi];rfl) ?_;refine Go 28 Z (Cd [6,15] d (Py _ _ _ _ _ _) Z λT an d=>?_);refine Rm (x:=(.t [])) (H:=[.c 33 (Bl.c E),.c 60 [I 0,.q 3 (map Edge.c [])],.c 35 [.o 3 (AI e.1) 3],.r 55 3 (map Bk.c e.1),.c 125 [.map 5],.map (Q6 (λx=>A.a (Ua.c x)) (λx=>A.int .i64 x) p.1),.c 58 [.o 21 (AI T) 3],.dead,.c 130 [.fn (.func 43) [] [.p 6 0]],.c 131 [.fn (.func 44) [] [.p 4 0,.p 2 0,.p 0 0]],.dead,.dead,.dead,.dead,.dead,.dead,.c 70 (AV.c R.AV),.c 40 [I a.2.Lo,I a.2.Hi],.c 40 [I a.2.Lo,I a.2.Hi],.c 40 [I g.2.Lo,I g.2.Hi],.c 40 [I g.2.Lo,I g.2.Hi],.r 129 3 (map Edge.c T)]) Z (by simp only[Yj,Vk,Vl,List.set_cons_succ,List.set_cons_zero,VK,Vi];rfl) ?_;exact Gl 1 Z d [0,1,2,3,4,5,6,7,8,9,10,11,12,13,14,21]
   exact Yy 1 Z d [0,1,2,3,4,5,6,7,8,9,10,11,12,13,14,15]
  exact Gx 1 Z (Z_ B (Ep y (Lr [0,1,2,3,4,5,6,7,8,9,10,11,12,13,14,15])))
 rintro M rfl;refine Gx 10 Z (Cn Z h (λ_ h=>?_) (λ_ h=>?_))
 .refine Gc 9 Z ?_;obtain rfl:=Oi h;exact Rx [1] [4,5] Z (Qo Z Z (CC.cons (Qf GJ GE Z Z Z) (CC.cons C_.tmp CC.nil))) ⟨Z,Z⟩
 refine Gc 14 Z ?_;obtain rfl:=Oi h;refine⟨[(4,.p 0 0),(5,I ((i64.wrap ((AI e.1:Int)+1),M,0).2.2))],[.c 60 [I ((i64.wrap ((AI e.1:Int)+1),M,0).1),.q 3 (map Edge.c ((i64.wrap ((AI e.1:Int)+1),M,0).2.1))]],_,?_,Qo Z Z (CC.cons (Qf GJ GE Z Z Z) (CC.cons C_.tmp CC.nil)),Z,Z⟩;refine Ep (Ku (i:=15) [] Z Z Fc.nil (Ec (FT.cells (Ee (Ef _) (Ee Et (El _))) (Ec (Ec (Ec (Ec (FT.cells (Ee Et (El _)) (Ec (Ec (Ec (Ec (Ec (Ec (Ec (Ec (Ec (KZ _)))))))))))))))))) ?_;exact Lr [1]
def NI(n:Nat)(e:Bv)(d:Int):AB (Bn Int (Bn Unit Int)):=(bif d<(AI e.BL:Int) then AH (Bt e.BL d) λa=>AH ((bif (if a.To<a.Ai then a.To else a.Ai)<0 then AC AE else(bif e.AY<=(if a.Ai<a.To then a.To else a.Ai) then AC AE else(bif a.W<(-35184372088832) then AC AE else AC (AG (35184372088832<a.W))))):AB Bool) λf=>(bif f then AC (.d (.d 150))else AC (.k (i64.wrap (d+1))))else AC (.d (.k ())))
def OH(d:Bv):AB Int:=AH ((bif d.AY<1 then AC AE else(bif 512<d.AY then AC AE else AC (AG (8192<(AI d.BL:Int))))):AB Bool) λf=>(bif f then AC 150 else AH (iter (NI n d) n 0:AB (Bn Unit Int)) λe=>match e with|.k a=>(AC 0)|.d a=>AC a)
theorem j5(u:Bv):Ks (OH n u) 46 [.a (Bv.c u)] [] (λr=>I r):=by
 refine Kg 8 func46 Z Z Z Z λr h=>Bd h λk f h=>Ct k [0] [1] (λk=>[(18,.b k)]) Ze Zf ?_ (λenv H w=>?_)
 .refine G0 5 Z (Is 8 f Z (λ_ f=>?_) (λ_ f=>?_))
  .exact Gl 11 Z f [0]
  .refine Go 5 Z (Is 13 f Z (λ_ f=>?_) (λ_ f=>?_))
   .exact Gl 6 Z f [0]
   .exact Go 2 Z (Lm Z (Gl 3 Z f [0]))
 refine Gx 1 Z (Eg w (Cn Z h (λ_ h=>?_) (λ_ h=>?_)))
 .exact QG 7 Z h 2 []
 refine Gc 7 Z (Lg 3 Z Z (Bd h λB E h=>DF (b:=B) [] [] Ze Ze Zf ?_ (λ_ F=>?_)))
 .refine G0 1 Z (Lp [0] [1,20,21] (λj=>[(22,I j)]) Ze E Zf (Lr [0]) λj J a g=>?_);refine G0 6 Z (Q8 Z a (λ_ a=>?_) (λ_ a=>?_))
  .exact Gc 2 Z (Qj a (Gx 1 Z (Ji g a Z (Lr []))))
  refine Gc 6 Z (Bd a λe m a=>Iz m Z (Go 6 Z (Bd a λi d a=>Cg i [0] [1,20,21,22] (λi=>[(51,.b i)]) Ze Zf ?_ ?_)))
  .refine G0 5 Z ?_;refine vX (I (if e.To<e.Ai then e.To else e.Ai)) (Bz.min Z Z Z Z) ?_;refine Go 2 Z (Is 32 d Z (λ_ d=>?_) (λ_ d=>?_))
   .exact Gl 20 Z d [0]
   .refine Go 4 Z ?_;refine vX (I (if e.Ai<e.To then e.To else e.Ai)) (Bz.max Z Z Z Z) ?_ (gT Z);refine Go 5 Z (Is 42 d Z (λ_ d=>?_) (λ_ d=>?_))
    .exact Gl 10 Z d [0]
    .refine Go 5 Z (Is 47 d Z (λ_ d=>?_) (λ_ d=>?_))
     iterate 2 exact Gl 5 Z d [0]
  refine Cn Z a (λ_ a=>?_) (λ_ a=>?_)
  .refine Gc 8 Z (Qv a ?_);obtain rfl:=Oj g a;exact Gx 1 Z (Qq (Gx 1 Z (Rt h 2 [])))
  exact Gc 7 Z (Qg a (Lr [0]))
 subst F;exact QG 6 Z h 2 []
def Nz(n:Nat)(h:Int)(u:Int)(p:AA Edge)(d:AA Int)(e:Int)(f:Int)(g:AA Int):AB ((AA Int)×(AA Int)×Bool):=AH (Bt p h) λa=>AH (AH (HX d e f a.Ai) λq=>(bif (q==1152921504606846976)then AC AE else AH (HX d e f a.Ai) λi=>AH (HX d e f a.To) λj=>AC (AG (j<=(i64.wrap (i+a.W))))):AB Bool) λr=>(bif r then AC (d,g,AD)else AH (HX d e f a.Ai) λk=>AH (HX d e f a.To) λs=>AH (Fe d (e+a.To) (i64.wrap (k+a.W))) λl=>AH (Bt g a.To) λt=>AH (Fe g a.To h) λm=>AC (l,m,AE))
theorem jj(L:Int)(z:Int)(B:AA Edge)(j:AA Int)(a:Int)(g:Int)(F:AA Int):Kq (Nz n L z B j a g F) 156 [.p 0 0,I L] [.c 174 [I z,.q 3 (map Edge.c B),.s 1 (0+toNat a) (toNat g-toNat a) 1,.o 2 (AI F) 1],.r 3 1 (map (Qe .i64) j),.r 3 1 (map (Qe .i64) F)] (λr=>.b r.2.2) (λr=>[.c 174 [I z,.q 3 (map Edge.c B),.s 1 (0+toNat a) (toNat g-toNat a) 1,.o 2 (AI r.2.1) 1],.r 3 1 (map (Qe .i64) r.1),.r 3 1 (map (Qe .i64) r.2.1)]):=by
 refine Kg 13 func156 Z Z Z Z λr h=>Bd h λp M h=>Iz M Z (Go 7 Z (Bd h λG d h=>Cg G [0,1,2,3] [0,1,5] (λG=>[(44,.b G)]) Ze Zf ?_ ?_))
 .refine G0 0 Z (C5 29 Z (D 6 Z ?_));obtain⟨R,E,d⟩:=Q7 d;refine DS.v (x:=(.p 1 (toNat (a+p.Ai)*1))) (JU (l:=j) (lo:=a) (hi:=g) E EE EG) ?_;refine DS.v (x:=(I R)) (EC Z EK Z (Ql (M5 E))) ?_;refine D 2 Z (Y3 9 d Z Z Z (λ_ d=>?_) (λ_ d=>?_))
  .exact D 19 Z (Ei Z (Gl 3 Z d [0,1,2,3]))
  .refine D 6 Z ?_;obtain⟨O,q,d⟩:=Q7 d;refine DS.v (x:=(.p 1 (toNat (a+p.Ai)*1))) (JU (l:=j) (lo:=a) (hi:=g) q EE EG) ?_ (hg:=(gT Z));refine DS.v (x:=(I O)) (EC Z EK Z (Ql (M5 q))) ?_ (hg:=(gT Z));refine D 9 Z ?_;obtain⟨P,t,d⟩:=Q7 d;refine DS.v (x:=(.p 1 (toNat (a+p.To)*1))) (JU (l:=j) (lo:=a) (hi:=g) t EE EG) ?_ (hg:=(gT Z));refine DS.v (x:=(I P)) (EC Z EK Z (Ql (M5 t))) ?_ (hg:=(gT Z));exact Ei Z (Gl 3 Z d [0,1,2,3])
 refine Cn Z h (λ_ h=>?_) (λ_ h=>?_)
 .exact QG 7 Z h 4 [0,1,2]
 refine Gc 3 Z (C5 17 Z (D 12 Z ?_));obtain⟨Q,u,h⟩:=Q7 h;refine DS.v (x:=(.p 1 (toNat (a+p.Ai)*1))) (JU (l:=j) (lo:=a) (hi:=g) u EE EG) ?_;refine DS.v (x:=(I Q)) (EC Z EK Z (Ql (M5 u))) ?_;refine D 3 Z (Ei Z (Bd h λT w h=>?_));refine vX (.p 1 (toNat (a+p.To)*1)) (JU (l:=j) (lo:=a) (hi:=g) w EE EG) ?_;refine Bd h λV J h=>?_;refine vU (Yt (e:=(Qe .i64)) (k:=1) (f:=0) (M5 w) J EG Z Z) ?_;refine Fg 3 Z Z (C5 7 Z (D 7 Z (Ei Z (Bd h λW y h=>?_))));refine vX (.p 2 (toNat p.To*1)) (Qk y Z EE EG) ?_;refine Bd h λX m h=>?_;refine vU (Yt (e:=(Qe .i64)) (k:=1) (f:=0) y m EG Z Z) ?_;refine FE Z ?_;refine Ew (QD (s:=66) Z (congrArg (λn=>A.s 2 0 n 1) (QR m))) ?_;refine Ew (oz (i:=0) Z (congrArg (λnz=>B8.cells 174 [I z,.q 3 (map Edge.c B),.s 1 (0+toNat a) (toNat g-toNat a) 1,.o 2 nz 1]) (QR m))) ?_;exact Gt 8 Z h 4 [0,1,2]
def LT(h:Int)(e:AA Edge)(i:Int)(j:Int)(a:(AA Int)×(AA Int)×Int×Int):AB (Bn ((AA Int)×(AA Int)×Int×Int) ((AA Int)×(AA Int)×Int)):=(bif a.2.2.2<(AI e:Int) then AH (Nz n a.2.2.2 h e a.1 i j a.2.1) λd=>AH ((bif d.2.2 then AH (Bt e a.2.2.2) λf=>AC f.To else AC a.2.2.1):AB Int) λg=>AC (.k (d.1,d.2.1,g,i64.wrap (a.2.2.2+1)))else AC (.d (a.1,a.2.1,a.2.2.1)))
def K6(e:Int)(f:AA Edge)(g:Int)(h:Int)(a:(AA Int)×(AA Int)×Int×Int):AB (Bn ((AA Int)×(AA Int)×Int×Int) (Bn ((AA Int)×(AA Int)×Int) ((AA Int)×(AA Int)×Int))):=(bif a.2.2.2<e then AH (iter (LT n e f g h) n (a.1,a.2.1,(-1),0):AB ((AA Int)×(AA Int)×Int)) λd=>(bif d.2.2<0 then AC (.d (.d (d.1,d.2.1,d.2.2)))else AC (.k (d.1,d.2.1,d.2.2,i64.wrap (a.2.2.2+1))))else AC (.d (.k (a.1,a.2.1,a.2.2.1))))
def KA(e:Int)(f:AA Edge)(g:AA Int)(h:Int)(i:Int)(j:AA Int):AB ((AA Int)×(AA Int)×Int):=AH (iter (K6 n e f h i) n (g,j,0,0):AB (Bn ((AA Int)×(AA Int)×Int) ((AA Int)×(AA Int)×Int))) λd=>match d with|.k a=>(AC (a.1,a.2.1,a.2.2))|.d a=>AC a
theorem Wz(l:Int)(m:AA Edge)(E:AA Int)(f:Int)(p:Int)(x:AA Int):Kq (KA n l m E f p x) 85 [.p 0 0] [.c 174 [I l,.q 3 (map Edge.c m),.s 1 (0+toNat f) (toNat p-toNat f) 1,.o 2 (AI x) 1],.r 3 1 (map (Qe .i64) E),.r 3 1 (map (Qe .i64) x)] (λr=>I r.2.2) (λr=>[.c 174 [I l,.q 3 (map Edge.c m),.s 1 (0+toNat f) (toNat p-toNat f) 1,.o 2 (AI r.2.1) 1],.r 3 1 (map (Qe .i64) r.1),.r 3 1 (map (Qe .i64) r.2.1)]):=by
 refine Kg 23 func85 Z Z Z Z λr h=>Bd h λF G h=>DF (b:=F) [0,1,2] [] (λg=>[(2,I g.2.2)]) (λg=>[(0,.c 174 [I l,.q 3 (map Edge.c m),.s 1 (0+toNat f) (toNat p-toNat f) 1,.o 2 (AI g.2.1) 1]),(1,.r 3 1 (map (Qe .i64) g.1)),(2,.r 3 1 (map (Qe .i64) g.2.1))]) Zf ?_ (λg J=>?_)
 .refine G0 1 Z (Lp [0,1,2] [0,3,11] (λi=>[(2,I i.2.2.1),(12,I i.2.2.2)]) (λi=>[(0,.c 174 [I l,.q 3 (map Edge.c m),.s 1 (0+toNat f) (toNat p-toNat f) 1,.o 2 (AI i.2.1) 1]),(1,.r 3 1 (map (Qe .i64) i.1)),(2,.r 3 1 (map (Qe .i64) i.2.1))]) G Zf (Lr [0,1,2]) λi P a s=>?_);refine G0 6 Z (Q8 Z a (λ_ a=>?_) (λ_ a=>?_))
  .exact Gc 2 Z (Qj a (Gx 1 Z (Ji s a Z (Lr [0,1,2]))))
  refine Gc 17 Z (Lg 3 Z Z (Bd a λj L a=>Cg j [0,1,2] [0,3,11,12] (λj=>[(2,I j.2.2)]) (λj=>[(0,.c 174 [I l,.q 3 (map Edge.c m),.s 1 (0+toNat f) (toNat p-toNat f) 1,.o 2 (AI j.2.1) 1]),(1,.r 3 1 (map (Qe .i64) j.1)),(2,.r 3 1 (map (Qe .i64) j.2.1))]) Zf ?_ ?_))
  .refine G0 1 Z (Lp [0,1,2] [0,3,11,12,19] (λk=>[(2,I k.2.2.1),(20,I k.2.2.2)]) (λk=>[(0,.c 174 [I l,.q 3 (map Edge.c m),.s 1 (0+toNat f) (toNat p-toNat f) 1,.o 2 (AI k.2.1) 1]),(1,.r 3 1 (map (Qe .i64) k.1)),(2,.r 3 1 (map (Qe .i64) k.2.1))]) L Zf (Lr [0,1,2]) λk Q d z=>?_);refine G0 6 Z (Q8 Z d (λ_ d=>?_) (λ_ d=>?_))
   .exact Gc 2 Z (Qj d (Gx 1 Z (DM z d (Lr [0,1,2]))))
   refine Gc 14 Z (Cd [0,1,2] d (jj _ _ _ _ _ _ _ _) Z λR N d=>Fg 2 Z Z (Bd d λq e d=>Ct q [0,1,2] [0,3,11,12,19,20] (λq=>[(2,I q)]) Ze Zf ?_ (λenv H M=>?_)))
   .refine G0 0 Z (Cn Z e (λ_ e=>?_) (λ_ e=>?_))
    .exact Gc 7 Z (Bd e λO u e=>Iz u Z (Gl 4 Z e [0,1,2]))
    exact Yy 1 Z e [0,1,2]
   exact Gx 2 Z (Eg M (Gc 4 Z (Qg d (Lr [0,1,2]))))
  refine Gc 6 Z (Cn Z a (λ_ a=>?_) (λ_ a=>?_))
  .refine Gc 9 Z (Qv a ?_);obtain rfl:=Oj s a;exact Gx 1 Z (Qq (Gx 1 Z (Rt h 2 [0,1,2])))
  exact Gc 7 Z (Qg a (Lr [0,1,2]))
 subst J;exact QG 7 Z h 2 [0,1,2]
def LV(n:Nat)(a:(AA Int)×Int×Int):AB (Bn ((AA Int)×Int×Int) (AA Int)):=(bif a.2.1<a.2.2 then AH (Bt a.1 a.2.2) λe=>AH (Bt a.1 a.2.1) λf=>AH (Bt a.1 a.2.1) λh=>AH (Fe a.1 a.2.1 e) λd=>AH (Bt d a.2.2) λi=>AH (Fe d a.2.2 f) λg=>AC (.k (g,i64.wrap (a.2.1+1),i64.wrap (a.2.2-1)))else AC (.d a.1))
def Nt(a:AA Int):AB (AA Int):=AH (iter (LV n) n (a,0,i64.wrap ((AI a:Int)-1)):AB (AA Int)) λd=>AC d
theorem jd(z:AA Int):Kq (Nt n z) 86 [.o 0 (AI z) 1] [.r 3 1 (map (Qe .i64) z)] (λ_=>.t []) (λr=>[.r 3 1 (map (Qe .i64) r)]):=by
 refine Kg 9 func86 Z Z Z Z λr h=>Bd h λj F h=>Ct j [0] [] Ze (λj=>[(0,.r 3 1 (map (Qe .i64) j))]) Zf ?_ (λenv H l=>?_)
 .refine G0 1 Z (Lp [0] [] (λd=>[(0,.o 0 (AI d.1) 1),(2,I d.2.1),(3,I d.2.2)]) (λd=>[(0,.r 3 1 (map (Qe .i64) d.1))]) F Zf (Lr [0]) λd G a B=>?_);refine G0 8 Z (Q8 Z a (λ_ a=>?_) (λ_ a=>?_))
  .exact Gc 2 Z (Qj a (Gx 1 Z (DM B a (Lr [0]))))
  refine Gc 4 Z (c_ 14 [13] [(0,0,0),(0,0,0),(0,0,1),(0,0,1),(0,0,0),(0,0,0),(0,0,0),(0,0,0),(0,0,0),(0,0,0),(0,0,0),(0,0,0),(0,0,0),(1,0,0)] (by kernel_rfl) (Dk 6 Z ?_));obtain⟨u,m,a⟩:=Q7 a;refine DK.wo (x:=.p 0 (toNat d.2.2*1)) ?_ ?_
  .refine vX (.p 0 (toNat d.2.2*1)) (Qk m Z EE EG) ?_;exact Wp
  refine DK.wo (x:=I u) ?_ ?_
  .refine vX (I u) (EC Z EK Z (Ql m)) ?_;exact Wp
  refine Dk 2 Z ?_;obtain⟨w,p,a⟩:=Q7 a;refine DK.wo (x:=.p 0 (toNat d.2.1*1)) ?_ ?_
  .refine vX (.p 0 (toNat d.2.1*1)) (Qk p Z EE EG) ?_;exact Wp
  refine DK.wo (x:=I w) ?_ ?_
  .refine vX (I w) (EC Z EK Z (Ql p)) ?_;exact Wp
  obtain⟨J,q,a⟩:=Q7 a;refine DK.wo (x:=.p 0 (toNat d.2.1*1)) ?_ ?_
  .refine vX (.p 0 (toNat d.2.1*1)) (Qk q Z EE EG) ?_;exact Wp
  obtain⟨y,g,a⟩:=Q7 a;refine DK.un (X1:=[.r 3 1 (map (Qe .i64) y)]) ?_ ?_
  .refine vU (Yt (e:=(Qe .i64)) (k:=1) (f:=0) q g EG Z Z) ?_;refine Rl (H:=[.r 3 1 (map (Qe .i64) y)]) Z ?_;exact Wp
  refine DK.done Z Z ?_;refine Ew (QD (s:=0) Z (congrArg (λn=>A.s 0 0 n 1) (QR g))) ?_;refine Ew (QD (s:=14) Z (congrArg (λn=>A.s 0 0 n 1) (QR g))) ?_;refine Ew (QD (s:=16) Z (congrArg (λn=>A.s 0 0 n 1) (QR g))) ?_;refine Ew (QD (s:=18) Z (congrArg (λn=>A.s 0 0 n 1) (QR g))) ?_;refine Ew (QD (s:=22) Z (congrArg (λn=>A.s 0 0 n 1) (QR g))) ?_;refine Bd a λL t a=>?_;refine vX (.p 0 (toNat d.2.2*1)) (Qk t Z EE EG) ?_;refine Bd a λM i a=>?_;refine vU (Yt (e:=(Qe .i64)) (k:=1) (f:=0) t i EG Z Z) ?_;refine FE Z ?_;refine Ew (QD (s:=0) Z (congrArg (λn=>A.s 0 0 n 1) (QR i))) ?_;refine Ew (QD (s:=14) Z (congrArg (λn=>A.s 0 0 n 1) (QR i))) ?_;refine Ew (QD (s:=16) Z (congrArg (λn=>A.s 0 0 n 1) (QR i))) ?_;refine Ew (QD (s:=18) Z (congrArg (λn=>A.s 0 0 n 1) (QR i))) ?_;refine Ew (QD (s:=22) Z (congrArg (λn=>A.s 0 0 n 1) (QR i))) ?_;exact Go 11 Z (Qg a (Lr [0]))
 obtain rfl:=Oi h;have l:=l;refine⟨[],_,_,?_,Hv.nil Z,Z,Z⟩;refine Ep l ?_;exact Lr [0]
def NZ(n:Nat)(d:Bv)(g:(AA Int)×(AA Int)×Int)(a:Int×Int):AB (Bn (Int×Int) Int):=(bif a.2<d.AY then AH (Bt g.2.1 a.1) λe=>AH (Bt d.BL e) λf=>AC (.k (f.Ai,i64.wrap (a.2+1)))else AC (.d a.1))
def NS(n:Nat)(h:Bv)(i:(AA Int)×(AA Int)×Int)(g:Int)(a:(AA Int)×Int):AB (Bn ((AA Int)×Int) (AA Int)):=AH (Bt i.2.1 a.2) λd=>AH (app a.1 [d]) λe=>AH (Bt h.BL d) λf=>(bif (f.Ai==g)then AC (.d e)else AC (.k (e,f.Ai)))
def J_(a:Bv):AB (AA Int):=AH (mk a.AY 0) λg=>AH (mk a.AY 0) λi=>AH (KA n a.AY a.BL g 0 (AI g:Int) i) λd=>(bif d.2.2<0 then AC []else AH (iter (NZ n a d) n (d.2.2,0):AB Int) λe=>AH (iter (NS n a d e) n ([],e):AB (AA Int)) λf=>AH (Zq f (Nt n f)) λh=>AC h)
theorem kS(f:Bv):Kq (J_ n f) 47 [.a (Bv.c f)] [] (λr=>.o 0 (AI r) 1) (λr=>[.r 3 1 (map (Qe .i64) r)]):=by
 refine Kg 6 func47 Z Z Z Z λr h=>TC.scope ?_;refine G0 1 Z ?_;obtain⟨j,E,h⟩:=Q7 h;obtain⟨m,F,h⟩:=Q7 h;refine Jf 7 2 [7,8,9,10,11,12,13] [AD,AD,AD,AE,AD,AD,AE] [[],[],[],[],[],[],[]] [[],[3],[6],[3,6]] [[(0,0),(1,1),(2,2),(3,3)],[(0,0),(2,2)],[(0,0),(2,2)],[(0,1),(2,3)],[(0,0),(1,1)],[(0,0),(1,1)],[(0,2),(1,3)]] [.a (Bv.c f),.p 0 0,I f.AY,.o 1 (AI j) 1,.p 0 0,I f.AY,.o 2 (AI m) 1] [[.c 60 (Bv.c f),.dead,.dead],[.c 60 (Bv.c f),.r 3 1 (map (Qe .i64) j),.dead],[.c 60 (Bv.c f),.dead,.r 3 1 (map (Qe .i64) m)],[.c 60 (Bv.c f),.r 3 1 (map (Qe .i64) j),.r 3 1 (map (Qe .i64) m)]] ([.c 60 (Bv.c f),.r 3 1 (map (Qe .i64) j),.r 3 1 (map (Qe .i64) m)]) DL Z Z Z Z Z Z Z ?_ Z ?_
 .refine B7.cons (Qb (v0 Z Z) (Qb (v0 Z Z) (Qb (v0 Z Z) (Qb (v0 Z Z) (Qd))))) (B7.cons (Qb (v0 Z Z) (Qb (v0 Z Z) (Qd))) (B7.cons (Qb (v0 Z Z) (Qb (v0 Z Z) (Qd))) (B7.cons ?_ (B7.cons (Qb (v0 Z Z) (Qb (v0 Z Z) (Qd))) (B7.cons (Qb (v0 Z Z) (Qb (v0 Z Z) (Qd))) (B7.cons ?_ (B7.nil)))))))
  .refine Qb ?_ (Qb ?_ (Qd))
   iterate 2 exact JB.row _ _ 10 1 (.o 1 (AI j) 1) (.r 3 1 (map (Qe .i64) j)) Z Z Z Z Z Z Z Z (sD 2 sN) (t_ (e:=(Qe .i64)) (zv:=0) (a:=(I 0)) E QA EW Er Z Z Z Z) Z
  .refine Qb ?_ (Qb ?_ (Qd))
   iterate 2 exact JB.row _ _ 13 2 (.o 2 (AI m) 1) (.r 3 1 (map (Qe .i64) m)) Z Z Z Z Z Z Z Z (sD 5 sN) (t_ (e:=(Qe .i64)) (zv:=0) (a:=(I 0)) F QA EW Er Z Z Z Z) Z
 refine Go 8 Z (Cd [3,1,2] h (Wz _ _ _ _ _ _ _) Z λw Y h=>Fg 10 Z Z (Cn Z h (λ_ h=>?_) (λ_ h=>?_)))
 .refine Gc 7 Z ?_;obtain rfl:=Oi h;refine R1 2 Z ?_;refine Ep (Eu (s:=2) (k:=1) (t:=3) (XS Z) Z) ?_;exact Lr [4]
 refine Gc 10 Z (Bd h λy T h=>Ct y [0,1,2,3] [1,2] (λy=>[(3,.p 1 0),(4,I y)]) (λ_=>[(1,.c 174 [I f.AY,.q 3 (map Edge.c f.BL),.s 2 (0+toNat 0) (toNat (AI j:Int)-toNat 0) 1,.o 3 (AI w.2.1) 1]),(2,.r 3 1 (map (Qe .i64) w.1)),(3,.r 3 1 (map (Qe .i64) w.2.1))]) Zf ?_ (λenv H V=>?_))
 .refine G0 1 Z (Lp [0,3,1,2] [1,2,3,21] (λu=>[(4,I u.1),(22,I u.2)]) (λ_=>[(1,.c 174 [I f.AY,.q 3 (map Edge.c f.BL),.s 2 (0+toNat 0) (toNat (AI j:Int)-toNat 0) 1,.o 3 (AI w.2.1) 1])]) T Zf (Lr [0,3,1,2]) λu aa g J=>?_);refine G0 6 Z (Q8 Z g (λ_ g=>?_) (λ_ g=>?_))
  .exact Gc 2 Z (Qj g (Gx 1 Z (DM J g (Lr [0,1,2,3]))))
  refine Gc 4 Z (C5 9 Z (D 7 Z ?_));obtain⟨W,z,g⟩:=Q7 g;refine DS.v (x:=(.p 3 (toNat u.1*1))) (Qk z Z EE EG) ?_;refine DS.v (x:=(I W)) (EC Z EK Z (Ql z)) ?_;exact Ei Z (Bd g λab M g=>Iz M Z (Go 10 Z (Qg g (Lr [0,1,2,3]))))
 refine Gx 1 Z (Eg V (Gc 7 Z (TC.label ?_)));refine Gx 2 Z (Bd h λp X h=>Cg p [0] [] (λp=>[(2,.o 0 (AI p) 1)]) (λp=>[(0,.r 3 1 (map (Qe .i64) p))]) Zf ?_ ?_)
 .refine G0 1 Z (Lp [0,0,1,2,3] [1,3,5] (λl=>[(2,.o 1 (AI l.1) 1),(4,I l.2)]) (λl=>[(1,.r 3 1 (map (Qe .i64) l.1)),(2,.c 174 [I f.AY,.q 3 (map Edge.c f.BL),.s 3 (0+toNat 0) (toNat (AI j:Int)-toNat 0) 1,.o 4 (AI w.2.1) 1])]) X Zf ?_ ?_)
  .refine Ep (Eu (s:=2) (k:=1) (t:=3) (XS Z) Z) ?_;exact Lr [0,4,1,2,3]
  intro l ac d N;refine G0 8 Z (Bd d λG B d=>?_);refine vX (.p 4 (toNat l.2*1)) (Qk B Z EE EG) ?_;refine vX (I G) (EC Z EK Z (Ql B)) ?_;refine Go 7 Z (vH (Em (xs:=[.tmp 46]) (es:=map (Qe .i64) [G]) QA Z Z Z Z Z ⟨Z,trivial⟩ Z Z) ?_);refine FE Z (Bd d λad O d=>vH (Qu (e:=(Qe .i64)) O QA EE (QS (i:=5))) ?_);refine Fg 8 Z Z (Bd d λae P d=>Iz P Z (Go 12 Z (Cn Z d (λ_ d=>?_) (λ_ d=>?_))))
  .exact Gc 2 Z (Qj d (Gx 1 Z (DM N d (Lr [6]))))
  exact Gc 2 Z (Qg d (Lr [0,6,2,3,4]))
 refine Gc 3 Z (Bd h λaf q h=>?_);refine Qs [0] (DN.fn call86 Z Z Z) (jd _ _ _ (xY q)) ?_;rintro _ _ ⟨rfl,rfl⟩;refine FE Z ?_;refine Ew (QD (s:=2) Z (congrArg (λn=>A.s 0 0 n 1) (sB q))) ?_;refine Ew (QD (s:=58) Z (congrArg (λn=>A.s 0 0 n 1) (sB q))) ?_;exact Gt 9 Z h 2 [0]
def cW(n:Nat)(a:Int)(d:Int):AB Unit:=AC ()
theorem iE(a:Int)(d:Int):Ks (cW n a d) 209 [.i .u64 a,.i .u64 d] [] (λ_=>.t [.i .u64 (u64.wrap ((u64.wrap ((u64.wrap ((Ye .u64 a 32)*(Ye .u64 d 32)))+(Ye .u64 (u64.wrap ((u64.wrap ((Ye .u64 a 32)*(YA .u64 d 4294967295)))+(Ye .u64 (u64.wrap ((YA .u64 a 4294967295)*(YA .u64 d 4294967295))) 32))) 32)))+(Ye .u64 (u64.wrap ((YA .u64 (u64.wrap ((u64.wrap ((Ye .u64 a 32)*(YA .u64 d 4294967295)))+(Ye .u64 (u64.wrap ((YA .u64 a 4294967295)*(YA .u64 d 4294967295))) 32))) 4294967295)+(u64.wrap ((YA .u64 a 4294967295)*(Ye .u64 d 32))))) 32))),.i .u64 (u64.wrap (a*d))]):=by
 refine Kg 9 func209 Z Z Z Z λr h=>?_;refine vX (.i .u64 (YA .u64 a 4294967295)) (Bz.and Z Z Z) ?_;refine Go 6 Z ?_;refine vX (.i .u64 (Ye .u64 a 32)) (Bz.shr Z Z Z (by decide)) ?_;refine Go 6 Z ?_;refine vX (.i .u64 (YA .u64 d 4294967295)) (Bz.and Z Z Z) ?_;refine Go 6 Z ?_;refine vX (.i .u64 (Ye .u64 d 32)) (Bz.shr Z Z Z (by decide)) ?_;refine Go 17 Z ?_;refine vV (x:=(.i .u64 (Ye .u64 (u64.wrap ((YA .u64 a 4294967295)*(YA .u64 d 4294967295))) 32))) (Bz.shr Z Z Z (by decide)) ?_;refine Go 7 Z ?_;refine vV (x:=(.i .u64 (YA .u64 (u64.wrap ((u64.wrap ((Ye .u64 a 32)*(YA .u64 d 4294967295)))+(Ye .u64 (u64.wrap ((YA .u64 a 4294967295)*(YA .u64 d 4294967295))) 32))) 4294967295))) (Bz.and Z Z Z) ?_;refine Go 6 Z ?_;refine vV (x:=(.i .u64 (Ye .u64 (u64.wrap ((u64.wrap ((Ye .u64 a 32)*(YA .u64 d 4294967295)))+(Ye .u64 (u64.wrap ((YA .u64 a 4294967295)*(YA .u64 d 4294967295))) 32))) 32))) (Bz.shr Z Z Z (by decide)) ?_;refine Go 21 Z ?_;refine vV (x:=(.i .u64 (Ye .u64 (u64.wrap ((YA .u64 (u64.wrap ((u64.wrap ((Ye .u64 a 32)*(YA .u64 d 4294967295)))+(Ye .u64 (u64.wrap ((YA .u64 a 4294967295)*(YA .u64 d 4294967295))) 32))) 4294967295)+(u64.wrap ((YA .u64 a 4294967295)*(Ye .u64 d 32))))) 32))) (Bz.shr Z Z Z (by decide)) ?_;refine Go 13 Z ?_;obtain rfl:=Oi h;exact R2 4 5 Z Z (Lr [])
def cZ(a:Int)(d:Int):AB Unit:=AH (cW n a d) λe=>AC ()
theorem iH(a:Int)(d:Int):Ks (cZ n a d) 157 [.i .u64 a,.i .u64 d] [] (λ_=>.t [.i .u64 (u64.wrap ((u64.wrap ((u64.wrap ((Ye .u64 a 32)*(Ye .u64 d 32)))+(Ye .u64 (u64.wrap ((u64.wrap ((Ye .u64 a 32)*(YA .u64 d 4294967295)))+(Ye .u64 (u64.wrap ((YA .u64 a 4294967295)*(YA .u64 d 4294967295))) 32))) 32)))+(Ye .u64 (u64.wrap ((YA .u64 (u64.wrap ((u64.wrap ((Ye .u64 a 32)*(YA .u64 d 4294967295)))+(Ye .u64 (u64.wrap ((YA .u64 a 4294967295)*(YA .u64 d 4294967295))) 32))) 4294967295)+(u64.wrap ((YA .u64 a 4294967295)*(Ye .u64 d 32))))) 32))),.i .u64 (u64.wrap (a*d))]):=by
 refine Kg 14 func157 Z Z Z Z λr h=>Cd [] h (iE _ _ _) Z λf e h=>Fg 16 Z Z ?_;obtain rfl:=Oi h;exact R2 4 5 Z Z (Lr [])
def NY(n:Nat)(a:(AA Int)×Int):AB (Bn ((AA Int)×Int) (AA Int)):=(bif a.2<(AI a.1:Int) then AH (E_ a.1 a.2 (AI a.1:Int)) λf=>AH (E_ a.1 0 a.2) λd=>AH (O_ a.1 a.2 (AI a.1:Int) d) λe=>AC (.k (e,i64.wrap (a.2+((min (AI d) ((AI a.1:Int).toNat-a.2.toNat):Nat):Int))))else AC (.d a.1))
def Nw(a:AA Int)(d:Int):AB (AA Int):=AH ((bif d<0 then AF else AC ()):AB Unit) λb2=>AH (cZ n (u64.wrap (AI a:Int)) (u64.wrap d)) λj=>AH ((bif 0<(u64.wrap ((u64.wrap ((u64.wrap ((Ye .u64 (u64.wrap (AI a:Int)) 32)*(Ye .u64 (u64.wrap d) 32)))+(Ye .u64 (u64.wrap ((u64.wrap ((Ye .u64 (u64.wrap (AI a:Int)) 32)*(YA .u64 (u64.wrap d) 4294967295)))+(Ye .u64 (u64.wrap ((YA .u64 (u64.wrap (AI a:Int)) 4294967295)*(YA .u64 (u64.wrap d) 4294967295))) 32))) 32)))+(Ye .u64 (u64.wrap ((YA .u64 (u64.wrap ((u64.wrap ((Ye .u64 (u64.wrap (AI a:Int)) 32)*(YA .u64 (u64.wrap d) 4294967295)))+(Ye .u64 (u64.wrap ((YA .u64 (u64.wrap (AI a:Int)) 4294967295)*(YA .u64 (u64.wrap d) 4294967295))) 32))) 4294967295)+(u64.wrap ((YA .u64 (u64.wrap (AI a:Int)) 4294967295)*(Ye .u64 (u64.wrap d) 32))))) 32))) then AC AE else AC (AG (9223372036854775807<(u64.wrap ((u64.wrap (AI a:Int))*(u64.wrap d)))))):AB Bool) λh=>AH ((bif h then AF else AC ()):AB Unit) λi=>AH (mk (i64.wrap (u64.wrap ((u64.wrap (AI a:Int))*(u64.wrap d)))) 0) λe=>AH (O_ e 0 (AI e:Int) a) λf=>AH (iter (NY n) n (f,((min (AI a) (AI e):Nat):Int)):AB (AA Int)) λg=>AC g
theorem jg(w:AA Int)(y:Int):Kq (Nw n w y) 87 [.q 1 (map (Qe .i64) w),I y] [] (λr=>.o 0 (AI r) 1) (λr=>[.r 3 1 (map (Qe .i64) r)]):=by
 refine Kg 12 func87 Z Z Z Z λr h=>Bd h λb2 q h=>Ct b2 [] [0,1] Ze Ze Zf ?_ (λenv H k=>?_)
 .refine G0 0 Z (Cn Z q (λ_ q=>?_) (λ_ q=>?_))
  .cases q
  exact Yy 1 Z q []
 refine Gx 1 Z (Eg k (Gc 3 Z (Lm Z ?_)));refine vX (.i .u64 (u64.wrap (AI w:Int))) (YB Z EO GF Z) ?_;refine Go 1 Z ?_;refine vX (.i .u64 (u64.wrap y)) (YB Z EO GF Z) ?_;refine Cd [] h (iH _ _ _) Z λX Q h=>Fg 9 Z Z (Bd h λz t h=>Ct z [] [0,6] (λz=>[(26,.b z)]) Ze Zf ?_ (λenv H k=>?_))
 .refine G0 4 Z (Is 23 t Z (λ_ t=>?_) (λ_ t=>?_))
  iterate 2 exact Gl 4 Z t []
 refine Gx 1 Z (Eg k (Bd h λM m h=>Ct M [] [0,6] Ze Ze Zf ?_ (λenv H k=>?_)))
 .refine G0 0 Z (Cn Z m (λ_ m=>?_) (λ_ m=>?_))
  .cases m
  exact Yy 1 Z m []
 refine Gx 1 Z (Eg k (Gc 3 Z ?_));refine vV (x:=(I (i64.wrap (u64.wrap ((u64.wrap (AI w:Int))*(u64.wrap y)))))) (YB Z GF EO Z) ?_;refine Bd h λR E h=>vH (lx (e:=(Qe .i64)) (zv:=0) (a:=(I 0)) E QA EW Er Z Z Z Z) ?_;refine Fg 7 Z Z (Bd h λT j h=>vH (yF (e:=(Qe .i64)) j EE EG wF) ?_);refine FE Z ?_;refine Ew (QD (s:=7) Z (congrArg (λn=>A.s 0 0 n 1) (mJ j))) ?_;refine Ew (QD (s:=30) Z (congrArg (λn=>A.s 0 0 n 1) (mJ j))) ?_;refine Ew (QD (s:=31) Z (congrArg (λn=>A.s 0 0 n 1) (mJ j))) ?_;refine Go 4 Z (Bd h λp N h=>Cg p [0] [] (λp=>[(7,.o 0 (AI p) 1)]) (λp=>[(0,.r 3 1 (map (Qe .i64) p))]) Zf ?_ ?_)
 .refine G0 1 Z (Lp [0] [] (λd=>[(7,.o 0 (AI d.1) 1),(8,I d.2)]) (λd=>[(0,.r 3 1 (map (Qe .i64) d.1))]) N Zf (Lr [0]) λd V f F=>?_);refine G0 9 Z (Q8 Z f (λ_ f=>?_) (λ_ f=>?_))
  .exact Gc 2 Z (Qj f (Gx 1 Z (DM F f (Lr [0]))))
  refine Gc 3 Z (c_ 8 [7] [(0,0,1),(0,0,0),(0,0,0),(0,0,0),(0,0,0),(0,0,0),(0,0,0),(1,0,0)] (by kernel_rfl) (Dk 3 Z ?_));obtain⟨W,g,f⟩:=Q7 f;refine DK.wo (x:=.s 0 (0+toNat d.2) (toNat (AI d.1:Int)-toNat d.2) 1) ?_ ?_
  .refine vX (.s 0 (0+toNat d.2) (toNat (AI d.1:Int)-toNat d.2) 1) (Y1 (l:=d.1) g EE EG (.inr ⟨_,Z,Z⟩) (.inl ⟨Z,Z⟩)) ?_;exact Wp
  refine Dk 2 Z ?_;obtain⟨O,u,f⟩:=Q7 f;refine DK.wo (x:=.s 0 (0+toNat 0) (toNat d.2-toNat 0) 1) ?_ ?_
  .refine vX (.s 0 (0+toNat 0) (toNat d.2-toNat 0) 1) (Y1 (l:=d.1) u EE EG (.inl ⟨Z,Z⟩) (.inr ⟨_,Z,Z⟩)) ?_;exact Wp
  obtain⟨P,i,f⟩:=Q7 f;refine DK.op (x:=I ((min (AI O) ((AI d.1:Int).toNat-d.2.toNat):Nat):Int)) (X1:=[.r 3 1 (map (Qe .i64) P)]) ?_ ?_
  .refine vH (yE (e:=(Qe .i64)) g i EE EG (wE (b:=0) u)) ?_;exact FE Z Wp
  refine DK.done Z Z ?_;refine Ew (QD (s:=7) Z (congrArg (λn=>A.s 0 0 n 1) (eU g i))) ?_;refine Ew (QD (s:=35) Z (congrArg (λn=>A.s 0 0 n 1) (eU g i))) ?_;refine Ew (QD (s:=39) Z (congrArg (λn=>A.s 0 0 n 1) (eU g i))) ?_;refine Ew (QD (s:=42) Z (congrArg (λn=>A.s 0 0 n 1) (eU g i))) ?_;exact Go 4 Z (Qg f (Lr [0]))
 exact QG 7 Z h 4 [0]
end Go.Sw
