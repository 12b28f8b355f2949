/- What the functions compute that PenaltiesOfSpec reaches, and that their calls refine it (part 2 of 5). -/
import Derived.Test.YtdlojdpflfdgcaaGreatDoorW22Os1
set_option linter.unusedVariables false
set_option linter.unusedSimpArgs false
set_option maxRecDepth 100000
set_option maxHeartbeats 4000000
namespace Go.Sw
open List(map)
open Int(toNat)
open Go.IntKind(i64 u64 u8)
open Go.Proofs Tryz
def Cv(d:AC)(e:Int):AI->Go.Sw.A->Qb->Prop
  |.c0 x,a,H=>a=.tup [.agg [.osl 2 0 8 3,.fn (.func 248) [] []],.bool true]/\H=[.cells 72 (AC.c d),.cells 3 [I e],.rowr 293 3 [[.ptr 0 4,I 1,I 9999],[.ptr 0 5,I 0,I 7],[.ptr 0 6,I 0,I 31],[.ptr 0 7,I (-1099511627776),I 1099511627776],[.ptr 0 8,I 0,I 120],[.ptr 0 9,I 0,I 1048576],[.ptr 0 10,I 0,I 9999],[.ptr 0 11,I 0,I 1048576]],.cells 283 [.osl 2 0 8 3,.fn (.func 248) [] []]]
  |.c1 x,a,H=>a=.tup [.agg [.osl 2 0 4 3,.fn (.func 248) [] []],.bool true]/\H=[.cells 72 (AC.c d),.cells 3 [I e],.rowr 293 3 [[.ptr 0 12,I 0,I 39],[.ptr 0 13,I 0,I 255],[.ptr 0 14,I 0,I 1048576],[.ptr 0 15,I (-1099511627776),I 1099511627776]],.cells 283 [.osl 2 0 4 3,.fn (.func 248) [] []]]
  |.c2 x,a,H=>a=.tup [.agg [.osl 2 0 5 3,.fn (.func 248) [] []],.bool true]/\H=[.cells 72 (AC.c d),.cells 3 [I e],.rowr 293 3 [[.ptr 0 16,I 0,I 39],[.ptr 0 17,I 0,I 255],[.ptr 0 18,I (-1099511627776),I 1099511627776],[.ptr 0 19,I (-1099511627776),I 1099511627776],[.ptr 0 20,I 0,I 1099511627776]],.cells 283 [.osl 2 0 5 3,.fn (.func 248) [] []]]
  |.c3 x,a,H=>a=.tup [.agg [.osl 2 0 8 3,.fn (.func 249) [] [.ptr 3 0]],.bool true]/\H=[.cells 72 (AC.c d),.cells 3 [I e],.rowr 293 3 [[.ptr 0 21,I 0,I 39],[.ptr 0 22,I 0,I 255],[.ptr 0 23,I (-1099511627776),I 1099511627776],[.ptr 0 24,I 0,I 39],[.ptr 0 25,I 0,I 255],[.ptr 0 26,I (-1099511627776),I 1099511627776],[.ptr 0 27,I (-1099511627776),I 1099511627776],[.ptr 0 28,I (-1099511627776),I 1099511627776]],.cells 345 [.ptr 0 21],.cells 283 [.osl 2 0 8 3,.fn (.func 249) [] [.ptr 3 0]]]
  |.c4 x,a,H=>a=.tup [.agg [.osl 2 0 4 3,.fn (.func 250) [] [.ptr 3 0]],.bool true]/\H=[.cells 72 (AC.c d),.cells 3 [I e],.rowr 293 3 [[.ptr 0 29,I 1,I 9999],[.ptr 0 30,I 0,I 255],[.ptr 0 31,I (-1099511627776),I 1099511627776],[.ptr 0 32,I (-1099511627776),I 1099511627776]],.cells 346 [.ptr 0 29],.cells 283 [.osl 2 0 4 3,.fn (.func 250) [] [.ptr 3 0]]]
  |.c5 x,a,H=>a=.tup [.agg [.osl 2 0 4 3,.fn (.func 251) [] [.ptr 3 0]],.bool true]/\H=[.cells 72 (AC.c d),.cells 3 [I e],.rowr 293 3 [[.ptr 0 33,I 0,I 39],[.ptr 0 34,I 0,I 255],[.ptr 0 35,I (-1099511627776),I 1099511627776],[.ptr 0 36,I (-1099511627776),I 1099511627776]],.cells 347 [.ptr 0 33],.cells 283 [.osl 2 0 4 3,.fn (.func 251) [] [.ptr 3 0]]]
  |.c6 x,a,H=>a=.tup [.agg [.osl 2 0 2 3,.fn (.func 252) [] [.ptr 3 0]],.bool true]/\H=[.cells 72 (AC.c d),.cells 3 [I e],.rowr 293 3 [[.ptr 0 37,I 1,I 9999],[.ptr 0 38,I 1,I 9999]],.cells 348 [.ptr 0 37],.cells 283 [.osl 2 0 2 3,.fn (.func 252) [] [.ptr 3 0]]]
  |.c7 x,a,H=>a=.tup [.agg [.osl 2 0 4 3,.fn (.func 248) [] []],.bool true]/\H=[.cells 72 (AC.c d),.cells 3 [I e],.rowr 293 3 [[.ptr 0 39,I 1,I 1048576],[.ptr 0 40,I 1,I 9999],[.ptr 0 41,I 0,I 31],[.ptr 0 42,I 0,I 255]],.cells 283 [.osl 2 0 4 3,.fn (.func 248) [] []]]
  |.c8 x,a,H=>a=.tup [.agg [.osl 2 0 4 3,.fn (.func 248) [] []],.bool true]/\H=[.cells 72 (AC.c d),.cells 3 [I e],.rowr 293 3 [[.ptr 0 43,I 1,I 1048576],[.ptr 0 44,I 0,I 9999],[.ptr 0 45,I 0,I 1125899906842624],[.ptr 0 46,I 0,I 1]],.cells 283 [.osl 2 0 4 3,.fn (.func 248) [] []]]
  |.c9 x,a,H=>a=.tup [.agg [.osl 2 0 6 3,.fn (.func 248) [] []],.bool true]/\H=[.cells 72 (AC.c d),.cells 3 [I e],.rowr 293 3 [[.ptr 0 47,I 1,I 1048576],[.ptr 0 48,I 1,I 2],[.ptr 0 49,I 1,I 5],[.ptr 0 50,I x.1,I x.2.1],[.ptr 0 51,I x.2.2.1,I x.2.2.2.1],[.ptr 0 52,I x.2.2.2.2.1,I x.2.2.2.2.2]],.cells 283 [.osl 2 0 6 3,.fn (.func 248) [] []]]
  |.c10 x,a,H=>a=.tup [.agg [.osl 2 0 2 3,.fn (.func 248) [] []],.bool true]/\H=[.cells 72 (AC.c d),.cells 3 [I e],.rowr 293 3 [[.ptr 0 53,I 1,I 1048576],[.ptr 1 0,I 0,I 1]],.cells 283 [.osl 2 0 2 3,.fn (.func 248) [] []]]
  |.c11 x,a,H=>a=.tup [.agg [.nils,.fn (.func 248) [] []],.bool true]/\H=[.cells 72 (AC.c d),.cells 3 [I e],.cells 283 [.nils,.fn (.func 248) [] []]]
  |.c12 x,a,H=>a=.tup [.agg [.osl 2 0 2 3,.fn (.func 248) [] []],.bool true]/\H=[.cells 72 (AC.c d),.cells 3 [I e],.rowr 293 3 [[.ptr 0 55,I 0,I 31],[.ptr 0 56,I 1,I 1048576]],.cells 283 [.osl 2 0 2 3,.fn (.func 248) [] []]]
  |.c13 x,a,H=>a=.tup [.agg [.nils,.nilf],.bool false]/\H=[.cells 72 (AC.c d),.cells 3 [I e],.cells 283 [.nils,.nilf]]
def I'(n:Nat)(a:AC)(f:Int):AB AI:=(bif (a.Kind==1)then some (AI.c0 ())else(bif (a.Kind==2)then some (AI.c1 ())else(bif (a.Kind==3)then some (AI.c2 ())else(bif (a.Kind==4)then some (AI.c3 ())else(bif (a.Kind==5)then some (AI.c4 ())else(bif (a.Kind==6)then some (AI.c5 ())else(bif (a.Kind==7)then some (AI.c6 ())else(bif (a.Kind==8)then some (AI.c7 ())else(bif (a.Kind==9)then some (AI.c8 ())else(bif (a.Kind==10)then((bif (a.Ruling.Kind==1)then some (a.Ruling.Kind==1)else some (a.Ruling.Kind==2)):AB Bool).bind λe=>((bif e then some ({least:=0,most:=0:Ub},{least:=0,most:=0:Ub},{least:=0,most:=0:Ub})else(bif (a.Ruling.Kind==3)then some ({least:=1,most:=9999:Ub},{least:=0,most:=255:Ub},{least:=1,most:=1099511627776:Ub})else(bif (a.Ruling.Kind==4)then some ({least:=1,most:=9999:Ub},{least:=0,most:=255:Ub},{least:=1,most:=64:Ub})else some ({least:=1,most:=9999:Ub},{least:=0,most:=255:Ub},{least:=0,most:=0:Ub})))):AB (Ub×Ub×Ub)).bind λd=>some (AI.c9 (d.1.least,d.1.most,d.2.1.least,d.2.1.most,d.2.2.least,d.2.2.most))else(bif (a.Kind==11)then some (AI.c10 ())else(bif (a.Kind==12)then some (AI.c11 ())else(bif (a.Kind==13)then some (AI.c12 ())else some (AI.c13 ()))))))))))))))
theorem UX(n:Nat)(d:AC)(e:Int)(r:AI)(h:I' n d e=some r):C prog 189 [.ptr 0 0,.ptr 1 0] [.cells 72 (AC.c d),.cells 3 [I e]] (Cv d e r):=by
 refine QG func189 Z Z Z ?_;refine G0 22 Z (Cn Z h (λ_ h=>?_) (λ_ h=>?_))
 .refine Gc 9 Z (Bj 40 Z (D 40 Z (Eg Z ?_)));refine vH (Y8 (xs:=[.tmp 32,.tmp 37,.tmp 42,.tmp 47,.tmp 52,.tmp 57,.tmp 62,.tmp 67]) JO Z Z Z Z Z ⟨Z,Z,Z,Z,Z,Z,Z,Z,trivial⟩ Z) ?_;refine Fg 8 Z Z ?_;obtain rfl:=Oi h;exact Rx [0,1,3,2] [4,5] Z (Qo Z Z (Aa.cons (Qk E3 EY Z Z Z) (Aa.cons BT.tmp Aa.nil))) ⟨Z,Z⟩
 refine Gc 6 Z (Cn Z h (λ_ h=>?_) (λ_ h=>?_))
 .refine Gc 9 Z (Bj 20 Z (D 20 Z (Eg Z ?_)));refine vH (Y8 (xs:=[.tmp 79,.tmp 84,.tmp 89,.tmp 94]) JO Z Z Z Z Z ⟨Z,Z,Z,Z,trivial⟩ Z) ?_;refine Fg 8 Z Z ?_;obtain rfl:=Oi h;exact Rx [0,1,3,2] [4,5] Z (Qo Z Z (Aa.cons (Qk E3 EY Z Z Z) (Aa.cons BT.tmp Aa.nil))) ⟨Z,Z⟩
 refine Gc 6 Z (Cn Z h (λ_ h=>?_) (λ_ h=>?_))
 .refine Gc 9 Z (Bj 25 Z (D 25 Z (Eg Z ?_)));refine vH (Y8 (xs:=[.tmp 106,.tmp 111,.tmp 116,.tmp 121,.tmp 126]) JO Z Z Z Z Z ⟨Z,Z,Z,Z,Z,trivial⟩ Z) ?_;refine Fg 8 Z Z ?_;obtain rfl:=Oi h;exact Rx [0,1,3,2] [4,5] Z (Qo Z Z (Aa.cons (Qk E3 EY Z Z Z) (Aa.cons BT.tmp Aa.nil))) ⟨Z,Z⟩
 refine Gc 6 Z (Cn Z h (λ_ h=>?_) (λ_ h=>?_))
 .refine Gc 10 Z (F8 42 40 [0,0,0,0,0,0,0,0,0,0,0,0,0,0,0,0,0,0,0,0,0,0,0,0,0,0,0,0,0,0,0,0,0,0,0,0,0,0,0,0,1,3] (by kernel_rfl) (Da 40 Z ?_));refine KO (Y8 (xs:=[.tmp 138,.tmp 143,.tmp 148,.tmp 153,.tmp 158,.tmp 163,.tmp 168,.tmp 173]) JO Z Z Z Z Z ⟨Z,Z,Z,Z,Z,Z,Z,Z,trivial⟩ Z) Z Z (Db 1 Z (DB.done Z (Go 8 Z ?_)));obtain rfl:=Oi h;exact Rx [0,1,4,3,2] [4,5] Z (Qo Z Z (Aa.cons (Qk E3 EY Z Z Z) (Aa.cons BT.tmp Aa.nil))) ⟨Z,Z⟩
 refine Gc 6 Z (Cn Z h (λ_ h=>?_) (λ_ h=>?_))
 .refine Gc 10 Z (F8 22 20 [0,0,0,0,0,0,0,0,0,0,0,0,0,0,0,0,0,0,0,0,1,3] (by kernel_rfl) (Da 20 Z ?_));refine KO (Y8 (xs:=[.tmp 186,.tmp 191,.tmp 196,.tmp 201]) JO Z Z Z Z Z ⟨Z,Z,Z,Z,trivial⟩ Z) Z Z (Db 1 Z (DB.done Z (Go 8 Z ?_)));obtain rfl:=Oi h;exact Rx [0,1,4,3,2] [4,5] Z (Qo Z Z (Aa.cons (Qk E3 EY Z Z Z) (Aa.cons BT.tmp Aa.nil))) ⟨Z,Z⟩
 refine Gc 6 Z (Cn Z h (λ_ h=>?_) (λ_ h=>?_))
 .refine Gc 10 Z (F8 22 20 [0,0,0,0,0,0,0,0,0,0,0,0,0,0,0,0,0,0,0,0,1,3] (by kernel_rfl) (Da 20 Z ?_));refine KO (Y8 (xs:=[.tmp 214,.tmp 219,.tmp 224,.tmp 229]) JO Z Z Z Z Z ⟨Z,Z,Z,Z,trivial⟩ Z) Z Z (Db 1 Z (DB.done Z (Go 8 Z ?_)));obtain rfl:=Oi h;exact Rx [0,1,4,3,2] [4,5] Z (Qo Z Z (Aa.cons (Qk E3 EY Z Z Z) (Aa.cons BT.tmp Aa.nil))) ⟨Z,Z⟩
 refine Gc 6 Z (Cn Z h (λ_ h=>?_) (λ_ h=>?_))
 .refine Gc 10 Z (F8 12 10 [0,0,0,0,0,0,0,0,0,0,1,3] (by kernel_rfl) (Da 10 Z ?_));refine KO (Y8 (xs:=[.tmp 242,.tmp 247]) JO Z Z Z Z Z ⟨Z,Z,trivial⟩ Z) Z Z (Db 1 Z (DB.done Z (Go 8 Z ?_)));obtain rfl:=Oi h;exact Rx [0,1,4,3,2] [4,5] Z (Qo Z Z (Aa.cons (Qk E3 EY Z Z Z) (Aa.cons BT.tmp Aa.nil))) ⟨Z,Z⟩
 refine Gc 6 Z (Cn Z h (λ_ h=>?_) (λ_ h=>?_))
 .refine Gc 9 Z (Bj 20 Z (D 20 Z (Eg Z ?_)));refine vH (Y8 (xs:=[.tmp 260,.tmp 265,.tmp 270,.tmp 275]) JO Z Z Z Z Z ⟨Z,Z,Z,Z,trivial⟩ Z) ?_;refine Fg 8 Z Z ?_;obtain rfl:=Oi h;exact Rx [0,1,3,2] [4,5] Z (Qo Z Z (Aa.cons (Qk E3 EY Z Z Z) (Aa.cons BT.tmp Aa.nil))) ⟨Z,Z⟩
 refine Gc 6 Z (Cn Z h (λ_ h=>?_) (λ_ h=>?_))
 .refine Gc 9 Z (Bj 20 Z (D 20 Z (Eg Z ?_)));refine vH (Y8 (xs:=[.tmp 287,.tmp 292,.tmp 297,.tmp 302]) JO Z Z Z Z Z ⟨Z,Z,Z,Z,trivial⟩ Z) ?_;refine Fg 8 Z Z ?_;obtain rfl:=Oi h;exact Rx [0,1,3,2] [4,5] Z (Qo Z Z (Aa.cons (Qk E3 EY Z Z Z) (Aa.cons BT.tmp Aa.nil))) ⟨Z,Z⟩
 refine Gc 6 Z (Cn Z h (λ_ h=>?_) (λ_ h=>?_))
 .refine Gc 9 Z ?_;refine b6 8 3 [310,311,312,16,17,18,1000006,1000007] [false,false,false,true,true,true,true,true] [[],[],[],[],[],[],[3,4,5],[3,4,5,6]] [[],[3],[4],[5],[3,4],[3,5],[4,5],[3,4,5],[3,4,5,6],[3,4,5,6,7]] [[(0,0),(1,1),(2,2),(3,3),(4,4),(5,5),(6,6),(7,7)],[(0,0),(1,1),(2,2),(3,3),(4,4),(5,5),(6,6),(7,7),(8,8)],[(0,0),(1,1),(2,2),(3,3),(4,4),(5,5),(6,6),(7,7),(8,8),(9,9)],[(0,1),(2,4),(3,5),(6,7)],[(0,2),(1,4),(3,6),(5,7)],[(0,3),(1,5),(2,6),(4,7)],[(7,8)],[(8,9)]] [.agg [I 1,I 9999],.agg [I 0,I 255],.agg [I 0,I 0],.ptr 3 0,.ptr 4 0,.ptr 5 0,.any,.any] [[.cells 72 (AC.c d),.cells 3 [I e],.cells 283 [.nils,.nilf],.dead,.dead,.dead],[.cells 72 (AC.c d),.cells 3 [I e],.cells 283 [.nils,.nilf],.cells 291 [I 0,I 0],.dead,.dead],[.cells 72 (AC.c d),.cells 3 [I e],.cells 283 [.nils,.nilf],.dead,.cells 291 [I 0,I 0],.dead],[.cells 72 (AC.c d),.cells 3 [I e],.cells 283 [.nils,.nilf],.dead,.dead,.cells 291 [I 0,I 0]],[.cells 72 (AC.c d),.cells 3 [I e],.cells 283 [.nils,.nilf],.cells 291 [I 0,I 0],.cells 291 [I 0,I 0],.dead],[.cells 72 (AC.c d),.cells 3 [I e],.cells 283 [.nils,.nilf],.cells 291 [I 0,I 0],.dead,.cells 291 [I 0,I 0]],[.cells 72 (AC.c d),.cells 3 [I e],.cells 283 [.nils,.nilf],.dead,.cells 291 [I 0,I 0],.cells 291 [I 0,I 0]],[.cells 72 (AC.c d),.cells 3 [I e],.cells 283 [.nils,.nilf],.cells 291 [I 0,I 0],.cells 291 [I 0,I 0],.cells 291 [I 0,I 0]],[.cells 72 (AC.c d),.cells 3 [I e],.cells 283 [.nils,.nilf],.cells 291 [I 1,I 9999],.cells 291 [I 0,I 0],.cells 291 [I 0,I 0]],[.cells 72 (AC.c d),.cells 3 [I e],.cells 283 [.nils,.nilf],.cells 291 [I 1,I 9999],.cells 291 [I 0,I 255],.cells 291 [I 0,I 0]]] ([.cells 72 (AC.c d),.cells 3 [I e],.cells 283 [.nils,.nilf],.cells 291 [I 1,I 9999],.cells 291 [I 0,I 255],.cells 291 [I 0,I 0]]) C1 Z Z Z Z Z Z Z ?_ Z ?_
  .refine CF.cons (Qe (v0 Z Z) (Qe (v0 Z Z) (Qe (v0 Z Z) (Qe (v0 Z Z) (Qe (v0 Z Z) (Qe (v0 Z Z) (Qe (v0 Z Z) (Qe (v0 Z Z) (Q6))))))))) (CF.cons (Qe (v0 Z Z) (Qe (v0 Z Z) (Qe (v0 Z Z) (Qe (v0 Z Z) (Qe (v0 Z Z) (Qe (v0 Z Z) (Qe (v0 Z Z) (Qe (v0 Z Z) (Qe (v0 Z Z) (Q6)))))))))) (CF.cons (Qe (v0 Z Z) (Qe (v0 Z Z) (Qe (v0 Z Z) (Qe (v0 Z Z) (Qe (v0 Z Z) (Qe (v0 Z Z) (Qe (v0 Z Z) (Qe (v0 Z Z) (Qe (v0 Z Z) (Qe (v0 Z Z) (Q6))))))))))) (CF.cons ?_ (CF.cons ?_ (CF.cons ?_ (CF.cons ?_ (CF.cons ?_ (CF.nil))))))))
   .refine Qe ?_ (Qe ?_ (Qe ?_ (Qe ?_ (Q6))))
    iterate 4 exact JH.alloc _ 16 291 3 _ Z Z Z Z Z Z Z (PF.alloc (v:=(.agg [I 0,I 0])) EQ (Ds Z)) Z
   .refine Qe ?_ (Qe ?_ (Qe ?_ (Qe ?_ (Q6))))
    iterate 4 exact JH.alloc _ 17 291 4 _ Z Z Z Z Z Z Z (PF.alloc (v:=(.agg [I 0,I 0])) EQ (Ds Z)) Z
   .refine Qe ?_ (Qe ?_ (Qe ?_ (Qe ?_ (Q6))))
    iterate 4 exact JH.alloc _ 18 291 5 _ Z Z Z Z Z Z Z (PF.alloc (v:=(.agg [I 0,I 0])) EQ (Ds Z)) Z
   .refine Qe ?_ (Q6)
    .refine lz Z (sD 3 (sD 0 sN)) ?_;refine vU (Ey Z Z Z sizeOf291 Z Z Z Z Z Z Z) ?_;exact FE Z Wp
   .refine Qe ?_ (Q6)
    .refine lz Z (sD 4 (sD 1 sN)) ?_;refine vU (Ey Z Z Z sizeOf291 Z Z Z Z Z Z Z) ?_;exact FE Z Wp
  refine Go 20 Z (Bd h λi f h=>Ct i [0,1,2,3,4,5] [4,15,16,17,18,316] (λi=>[(317,.bool i)]) Ze Zf ?_ (λenv H j=>?_))
  .refine G0 0 Z (Cn Z f (λ_ f=>?_) (λ_ f=>?_))
   .exact YM 1 Z f [0,1,2,3,4,5]
   exact YM 4 Z f [0,1,2,3,4,5]
  refine Gx 1 Z (Qd j (Bd h λg a h=>Ct g [0,1,2,3,4,5] [4,15,16,17,18] Ze (λg=>[(3,.cells 291 (Ub.c g.1)),(4,.cells 291 (Ub.c g.2.1)),(5,.cells 291 (Ub.c g.2.2))]) Zf ?_ (λenv H j=>?_)))
  .refine G0 0 Z (Cn Z a (λ_ a=>?_) (λ_ a=>?_))
   .exact YM 6 Z a [0,1,2,3,4,5]
   iterate 2 (refine Gc 6 Z (Cn Z a (λ_ a=>?_) (λ_ a=>?_));exact YM 4 Z a [0,1,2,3,4,5])
   exact YM 1 Z a [0,1,2,3,4,5]
  refine Gx 2 Z (Qd j (Gc 1 Z (Bj 30 Z (D 30 Z (Eg Z ?_)))));refine vH (Y8 (xs:=[.tmp 332,.tmp 337,.tmp 342,.tmp 347,.tmp 352,.tmp 357]) JO Z Z Z Z Z ⟨Z,Z,Z,Z,Z,Z,trivial⟩ Z) ?_;refine Fg 8 Z Z ?_;obtain rfl:=Oi h;exact Rx [0,1,6,2] [4,5] Z (Qo Z Z (Aa.cons (Qk E3 EY Z Z Z) (Aa.cons BT.tmp Aa.nil))) ⟨Z,Z⟩
 refine Gc 6 Z (Cn Z h (λ_ h=>?_) (λ_ h=>?_))
 .refine Gc 1 Z (Bj 9 Z (D 9 Z (Eg Z ?_)));refine vH (Y8 (xs:=[.tmp 367,.tmp 370]) JO Z Z Z Z Z ⟨Z,Z,trivial⟩ Z) ?_;refine Fg 8 Z Z ?_;obtain rfl:=Oi h;exact Rx [0,1,3,2] [4,5] Z (Qo Z Z (Aa.cons (Qk E3 EY Z Z Z) (Aa.cons BT.tmp Aa.nil))) ⟨Z,Z⟩
 refine Gc 6 Z (Cn Z h (λ_ h=>?_) (λ_ h=>?_))
 .refine Gc 10 Z ?_;obtain rfl:=Oi h;exact Rx [0,1,2] [4,5] Z (Qo Z Z (Aa.cons (Qk E3 EY Z Z Z) (Aa.cons BT.tmp Aa.nil))) ⟨Z,Z⟩
 refine Gc 6 Z (Cn Z h (λ_ h=>?_) (λ_ h=>?_))
 .refine Gc 1 Z (Bj 12 Z (D 12 Z (Eg Z ?_)));refine vH (Y8 (xs:=[.tmp 383,.tmp 389]) JO Z Z Z Z Z ⟨Z,Z,trivial⟩ Z) ?_;refine Fg 8 Z Z ?_;obtain rfl:=Oi h;exact Rx [0,1,3,2] [4,5] Z (Qo Z Z (Aa.cons (Qk E3 EY Z Z Z) (Aa.cons BT.tmp Aa.nil))) ⟨Z,Z⟩
 refine Gc 11 Z ?_;obtain rfl:=Oi h;exact Rx [0,1,2] [4,5] Z (Qo Z Z (Aa.cons (Qk E3 EY Z Z Z) (Aa.cons BT.tmp Aa.nil))) ⟨Z,Z⟩
def KU(n:Nat):AB Unit:=some ()
theorem Kh(n:Nat):Ks (KU n) 248 [] [] (λ_=>.bool true):=by
 exact Kg 11 func248 Z Z Z Z λr h=>Rt h 0 []
def ZV(n:Nat)(a:AC):AB Unit:=some ()
theorem eI(n:Nat)(a:AC):Ks (ZV n a) 249 [.ptr 0 0] [.cells 345 [.ptr 1 21],.cells 72 (AC.c a)] (λ_=>.bool (decide (a.Sync.Min<=a.Sync.Max))):=by
 exact Kg 6 func249 Z Z Z Z λr h=>Bj 8 Z (D 8 Z (Eg Z (Gt 5 Z h 1 [0,1])))
def Zo(n:Nat)(a:AC):AB Unit:=some ()
theorem ef(n:Nat)(a:AC):Ks (Zo n a) 250 [.ptr 0 0] [.cells 346 [.ptr 1 29],.cells 72 (AC.c a)] (λ_=>.bool (decide (a.Hand.Lo<=a.Hand.Hi))):=by
 exact Kg 6 func250 Z Z Z Z λr h=>Bj 8 Z (D 8 Z (Eg Z (Gt 5 Z h 1 [0,1])))
def Zq(n:Nat)(a:AC):AB Unit:=some ()
theorem ez(n:Nat)(a:AC):Ks (Zq n a) 251 [.ptr 0 0] [.cells 347 [.ptr 1 33],.cells 72 (AC.c a)] (λ_=>.bool (decide (a.Silence.Lo<=a.Silence.Hi))):=by
 exact Kg 6 func251 Z Z Z Z λr h=>Bj 8 Z (D 8 Z (Eg Z (Gt 5 Z h 1 [0,1])))
def Zu(n:Nat)(a:AC):AB Unit:=some ()
theorem e9(n:Nat)(a:AC):Ks (Zu n a) 252 [.ptr 0 0] [.cells 348 [.ptr 1 37],.cells 72 (AC.c a)] (λ_=>.bool (decide (a.Pair.A<a.Pair.B))):=by
 exact Kg 6 func252 Z Z Z Z λr h=>Bj 8 Z (D 8 Z (Eg Z (Gt 5 Z h 1 [0,1])))
def I_(n:Nat)(a:AC):AB Unit:=some ()
theorem UW(n:Nat)(a:AC):Kq (I_ n a) 191 [.ptr 0 0] [.cells 72 (AC.c a)] (λ_=>.osl 1 0 4 3) (λ_=>[.cells 72 (AC.c a),.rowr 293 3 [[.ptr 0 3,I 1,I 13],[.ptr 0 0,I 0,I 31],[.ptr 0 1,I 1,I 1048576],[.ptr 0 2,I 0,I 1099511627776]]]):=by
 refine Kg 6 func191 Z Z Z Z λr h=>Bj 20 Z (D 20 Z (Eg Z (vH (Y8 (xs:=[.tmp 7,.tmp 12,.tmp 17,.tmp 22]) JO Z Z Z Z Z ⟨Z,Z,Z,Z,trivial⟩ Z) ?_)));exact FE Z (Gt 4 Z h 2 [0,1])
def Mf(n:Nat)(d:AC)(i:Int)(e:AC):AB (AA A6):=((I' n ({d with Kind:=e.Kind:AC}) i).bind λf=>(match f with|.c0 j=>(some ([⟨false,4,1,9999⟩,⟨false,5,0,7⟩,⟨false,6,0,31⟩,⟨false,7,(-1099511627776),1099511627776⟩,⟨false,8,0,120⟩,⟨false,9,0,1048576⟩,⟨false,10,0,9999⟩,⟨false,11,0,1048576⟩]:AA A6))|.c1 k=>(some ([⟨false,12,0,39⟩,⟨false,13,0,255⟩,⟨false,14,0,1048576⟩,⟨false,15,(-1099511627776),1099511627776⟩]:AA A6))|.c2 l=>(some ([⟨false,16,0,39⟩,⟨false,17,0,255⟩,⟨false,18,(-1099511627776),1099511627776⟩,⟨false,19,(-1099511627776),1099511627776⟩,⟨false,20,0,1099511627776⟩]:AA A6))|.c3 m=>(some ([⟨false,21,0,39⟩,⟨false,22,0,255⟩,⟨false,23,(-1099511627776),1099511627776⟩,⟨false,24,0,39⟩,⟨false,25,0,255⟩,⟨false,26,(-1099511627776),1099511627776⟩,⟨false,27,(-1099511627776),1099511627776⟩,⟨false,28,(-1099511627776),1099511627776⟩]:AA A6))|.c4 p=>(some ([⟨false,29,1,9999⟩,⟨false,30,0,255⟩,⟨false,31,(-1099511627776),1099511627776⟩,⟨false,32,(-1099511627776),1099511627776⟩]:AA A6))|.c5 q=>(some ([⟨false,33,0,39⟩,⟨false,34,0,255⟩,⟨false,35,(-1099511627776),1099511627776⟩,⟨false,36,(-1099511627776),1099511627776⟩]:AA A6))|.c6 r=>(some ([⟨false,37,1,9999⟩,⟨false,38,1,9999⟩]:AA A6))|.c7 s=>(some ([⟨false,39,1,1048576⟩,⟨false,40,1,9999⟩,⟨false,41,0,31⟩,⟨false,42,0,255⟩]:AA A6))|.c8 t=>(some ([⟨false,43,1,1048576⟩,⟨false,44,0,9999⟩,⟨false,45,0,1125899906842624⟩,⟨false,46,0,1⟩]:AA A6))|.c9 a=>(some ([⟨false,47,1,1048576⟩,⟨false,48,1,2⟩,⟨false,49,1,5⟩,⟨false,50,a.1,a.2.1⟩,⟨false,51,a.2.2.1,a.2.2.2.1⟩,⟨false,52,a.2.2.2.2.1,a.2.2.2.2.2⟩]:AA A6))|.c10 u=>(some ([⟨false,53,1,1048576⟩,⟨true,0,0,1⟩]:AA A6))|.c11 w=>(some [])|.c12 x=>(some ([⟨false,55,0,31⟩,⟨false,56,1,1048576⟩]:AA A6))|.c13 y=>(some [])):AB (AA A6)).bind λg=>(I_ n ({d with Kind:=e.Kind:AC})).bind λz=>(app ([⟨false,3,1,13⟩,⟨false,0,0,31⟩,⟨false,1,1,1048576⟩,⟨false,2,0,1099511627776⟩]:AA A6) g).bind λh=>some h
theorem iY(n:Nat)(f:AC)(g:Int)(a:AC):Kq (Mf n f g a) 190 [.ptr 0 0,.ptr 1 0,.ptr 2 0] [.cells 72 (AC.c f),.cells 3 [I g],.cells 72 (AC.c a)] (λr=>.osl 3 0 r.length 3) (λr=>[.cells 72 (AC.c ({f with Kind:=a.Kind:AC})),.cells 3 [I g],.cells 72 (AC.c a),.ents 293 0 1 r]):=by
 refine Kg 16 func190 Z Z Z Z λr h=>Bd h λk d h=>Cg k [0,1,2,0,0] [0] (λ_=>[(6,.ptr 3 0)]) (λk=>[(3,.cells 283 [.osl 4 0 k.length 3,.any]),(4,.ents 293 0 1 k)]) Zf ?_ ?_
 .refine G0 3 Z (Bd d λu p d=>?_);refine QC [0,1] (Bh.fn call189 Z Z Z) (UX _ _ _ _ p) ?_;intro ra rH e;rcases u with w|y|z|B|E|F|G|H|J|l|L|M|N|O
  .obtain⟨rfl,rfl⟩:=e;refine aV (.tup [.agg [.osl 3 0 8 3,.fn (.func 248) [] []],.bool true]) [.cells 72 (AC.c ({f with Kind:=a.Kind:AC})),.cells 3 [I g],.cells 72 (AC.c a),.rowr 293 3 [[.ptr 0 4,I 1,I 9999],[.ptr 0 5,I 0,I 7],[.ptr 0 6,I 0,I 31],[.ptr 0 7,I (-1099511627776),I 1099511627776],[.ptr 0 8,I 0,I 120],[.ptr 0 9,I 0,I 1048576],[.ptr 0 10,I 0,I 9999],[.ptr 0 11,I 0,I 1048576]],.cells 283 [.osl 3 0 8 3,.fn (.func 248) [] []]] Z Z ?_;refine TE 3 0 1 Z Z (Fg 7 Z Z ?_);cases d;refine JE ?_;refine En (QZ (i:=5) (m:=1) Z) ?_;exact Lr [0,1,2,5,3]
  .obtain⟨rfl,rfl⟩:=e;refine aV (.tup [.agg [.osl 3 0 4 3,.fn (.func 248) [] []],.bool true]) [.cells 72 (AC.c ({f with Kind:=a.Kind:AC})),.cells 3 [I g],.cells 72 (AC.c a),.rowr 293 3 [[.ptr 0 12,I 0,I 39],[.ptr 0 13,I 0,I 255],[.ptr 0 14,I 0,I 1048576],[.ptr 0 15,I (-1099511627776),I 1099511627776]],.cells 283 [.osl 3 0 4 3,.fn (.func 248) [] []]] Z Z ?_;refine TE 3 0 1 Z Z (Fg 7 Z Z ?_);cases d;refine JE ?_;refine En (QZ (i:=5) (m:=1) Z) ?_;exact Lr [0,1,2,5,3]
  .obtain⟨rfl,rfl⟩:=e;refine aV (.tup [.agg [.osl 3 0 5 3,.fn (.func 248) [] []],.bool true]) [.cells 72 (AC.c ({f with Kind:=a.Kind:AC})),.cells 3 [I g],.cells 72 (AC.c a),.rowr 293 3 [[.ptr 0 16,I 0,I 39],[.ptr 0 17,I 0,I 255],[.ptr 0 18,I (-1099511627776),I 1099511627776],[.ptr 0 19,I (-1099511627776),I 1099511627776],[.ptr 0 20,I 0,I 1099511627776]],.cells 283 [.osl 3 0 5 3,.fn (.func 248) [] []]] Z Z ?_;refine TE 3 0 1 Z Z (Fg 7 Z Z ?_);cases d;refine JE ?_;refine En (QZ (i:=5) (m:=1) Z) ?_;exact Lr [0,1,2,5,3]
  .obtain⟨rfl,rfl⟩:=e;refine TE 3 0 1 Z Z (Fg 7 Z Z ?_);cases d;refine JE ?_;refine En (QZ (i:=6) (m:=1) Z) ?_;exact Lr [0,1,2,6,3]
  .obtain⟨rfl,rfl⟩:=e;refine aV (.tup [.agg [.osl 3 0 4 3,.fn (.func 250) [] [.ptr 4 0]],.bool true]) [.cells 72 (AC.c ({f with Kind:=a.Kind:AC})),.cells 3 [I g],.cells 72 (AC.c a),.rowr 293 3 [[.ptr 0 29,I 1,I 9999],[.ptr 0 30,I 0,I 255],[.ptr 0 31,I (-1099511627776),I 1099511627776],[.ptr 0 32,I (-1099511627776),I 1099511627776]],.cells 346 [.ptr 0 29],.cells 283 [.osl 3 0 4 3,.fn (.func 250) [] [.ptr 4 0]]] Z Z ?_;refine TE 3 0 1 Z Z (Fg 7 Z Z ?_);cases d;refine JE ?_;refine En (QZ (i:=6) (m:=1) Z) ?_;exact Lr [0,1,2,6,3]
  .obtain⟨rfl,rfl⟩:=e;refine aV (.tup [.agg [.osl 3 0 4 3,.fn (.func 251) [] [.ptr 4 0]],.bool true]) [.cells 72 (AC.c ({f with Kind:=a.Kind:AC})),.cells 3 [I g],.cells 72 (AC.c a),.rowr 293 3 [[.ptr 0 33,I 0,I 39],[.ptr 0 34,I 0,I 255],[.ptr 0 35,I (-1099511627776),I 1099511627776],[.ptr 0 36,I (-1099511627776),I 1099511627776]],.cells 347 [.ptr 0 33],.cells 283 [.osl 3 0 4 3,.fn (.func 251) [] [.ptr 4 0]]] Z Z ?_;refine TE 3 0 1 Z Z (Fg 7 Z Z ?_);cases d;refine JE ?_;refine En (QZ (i:=6) (m:=1) Z) ?_;exact Lr [0,1,2,6,3]
  .obtain⟨rfl,rfl⟩:=e;refine aV (.tup [.agg [.osl 3 0 2 3,.fn (.func 252) [] [.ptr 4 0]],.bool true]) [.cells 72 (AC.c ({f with Kind:=a.Kind:AC})),.cells 3 [I g],.cells 72 (AC.c a),.rowr 293 3 [[.ptr 0 37,I 1,I 9999],[.ptr 0 38,I 1,I 9999]],.cells 348 [.ptr 0 37],.cells 283 [.osl 3 0 2 3,.fn (.func 252) [] [.ptr 4 0]]] Z Z ?_;refine TE 3 0 1 Z Z (Fg 7 Z Z ?_);cases d;refine JE ?_;refine En (QZ (i:=6) (m:=1) Z) ?_;exact Lr [0,1,2,6,3]
  .obtain⟨rfl,rfl⟩:=e;refine aV (.tup [.agg [.osl 3 0 4 3,.fn (.func 248) [] []],.bool true]) [.cells 72 (AC.c ({f with Kind:=a.Kind:AC})),.cells 3 [I g],.cells 72 (AC.c a),.rowr 293 3 [[.ptr 0 39,I 1,I 1048576],[.ptr 0 40,I 1,I 9999],[.ptr 0 41,I 0,I 31],[.ptr 0 42,I 0,I 255]],.cells 283 [.osl 3 0 4 3,.fn (.func 248) [] []]] Z Z ?_;refine TE 3 0 1 Z Z (Fg 7 Z Z ?_);cases d;refine JE ?_;refine En (QZ (i:=5) (m:=1) Z) ?_;exact Lr [0,1,2,5,3]
  .obtain⟨rfl,rfl⟩:=e;refine aV (.tup [.agg [.osl 3 0 4 3,.fn (.func 248) [] []],.bool true]) [.cells 72 (AC.c ({f with Kind:=a.Kind:AC})),.cells 3 [I g],.cells 72 (AC.c a),.rowr 293 3 [[.ptr 0 43,I 1,I 1048576],[.ptr 0 44,I 0,I 9999],[.ptr 0 45,I 0,I 1125899906842624],[.ptr 0 46,I 0,I 1]],.cells 283 [.osl 3 0 4 3,.fn (.func 248) [] []]] Z Z ?_;refine TE 3 0 1 Z Z (Fg 7 Z Z ?_);cases d;refine JE ?_;refine En (QZ (i:=5) (m:=1) Z) ?_;exact Lr [0,1,2,5,3]
  .obtain⟨rfl,rfl⟩:=e;refine aV (.tup [.agg [.osl 3 0 6 3,.fn (.func 248) [] []],.bool true]) [.cells 72 (AC.c ({f with Kind:=a.Kind:AC})),.cells 3 [I g],.cells 72 (AC.c a),.rowr 293 3 [[.ptr 0 47,I 1,I 1048576],[.ptr 0 48,I 1,I 2],[.ptr 0 49,I 1,I 5],[.ptr 0 50,I l.1,I l.2.1],[.ptr 0 51,I l.2.2.1,I l.2.2.2.1],[.ptr 0 52,I l.2.2.2.2.1,I l.2.2.2.2.2]],.cells 283 [.osl 3 0 6 3,.fn (.func 248) [] []]] Z Z ?_;refine TE 3 0 1 Z Z (Fg 7 Z Z ?_);cases d;refine JE ?_;refine En (QZ (i:=5) (m:=1) Z) ?_;exact Lr [0,1,2,5,3]
  .obtain⟨rfl,rfl⟩:=e;refine aV (.tup [.agg [.osl 3 0 2 3,.fn (.func 248) [] []],.bool true]) [.cells 72 (AC.c ({f with Kind:=a.Kind:AC})),.cells 3 [I g],.cells 72 (AC.c a),.rowr 293 3 [[.ptr 0 53,I 1,I 1048576],[.ptr 1 0,I 0,I 1]],.cells 283 [.osl 3 0 2 3,.fn (.func 248) [] []]] Z Z ?_;refine TE 3 0 1 Z Z (Fg 7 Z Z ?_);cases d;refine JE ?_;refine En (QZ (i:=5) (m:=1) Z) ?_;exact Lr [0,1,2,5,3]
  .obtain⟨rfl,rfl⟩:=e;refine aV (.tup [.agg [.nils,.fn (.func 248) [] []],.bool true]) [.cells 72 (AC.c ({f with Kind:=a.Kind:AC})),.cells 3 [I g],.cells 72 (AC.c a),.cells 283 [.nils,.fn (.func 248) [] []]] Z Z ?_;refine Go 7 Z ?_;cases d;refine JE ?_;refine En (QZ (i:=4) (m:=1) Z) ?_;refine En (Le.phantomE (i:=4) (m:=0) (t:=293) (b1:=0) (b2:=1) Z Z Z) ?_;exact Lr [0,1,2,4,5]
  .obtain⟨rfl,rfl⟩:=e;refine aV (.tup [.agg [.osl 3 0 2 3,.fn (.func 248) [] []],.bool true]) [.cells 72 (AC.c ({f with Kind:=a.Kind:AC})),.cells 3 [I g],.cells 72 (AC.c a),.rowr 293 3 [[.ptr 0 55,I 0,I 31],[.ptr 0 56,I 1,I 1048576]],.cells 283 [.osl 3 0 2 3,.fn (.func 248) [] []]] Z Z ?_;refine TE 3 0 1 Z Z (Fg 7 Z Z ?_);cases d;refine JE ?_;refine En (QZ (i:=5) (m:=1) Z) ?_;exact Lr [0,1,2,5,3]
  .obtain⟨rfl,rfl⟩:=e;refine aV (.tup [.agg [.nils,.nilf],.bool false]) [.cells 72 (AC.c ({f with Kind:=a.Kind:AC})),.cells 3 [I g],.cells 72 (AC.c a),.cells 283 [.nils,.nilf]] Z Z ?_;refine Go 7 Z ?_;cases d;refine JE ?_;refine En (QZ (i:=4) (m:=1) Z) ?_;refine En (Le.phantomE (i:=4) (m:=0) (t:=293) (b1:=0) (b2:=1) Z Z Z) ?_;exact Lr [0,1,2,4,5]
 refine Gc 1 Z (F8 4 1 [0,1,3,3] (by kernel_rfl) (Da 1 Z ?_));obtain⟨P,q,h⟩:=YE h;refine DA.op (x:=.osl 5 0 4 3) (H1:=[.cells 72 (AC.c ({f with Kind:=a.Kind:AC})),.cells 3 [I g],.cells 72 (AC.c a),.cells 283 [.osl 4 0 k.length 3,.any],.ents 293 0 1 k,.rowr 293 3 [[.ptr 0 3,I 1,I 13],[.ptr 0 0,I 0,I 31],[.ptr 0 1,I 1,I 1048576],[.ptr 0 2,I 0,I 1099511627776]]]) ?_ ?_
 .refine QC [0] (Bh.fn call191 Z Z Z) (UW _ _ _ q) ?_;rintro _ _ ⟨rfl,rfl⟩;exact FE Z Wp
 refine Db 1 Z ?_;refine DB.wo2 (x:=.osl 4 0 k.length 3) (Ld isAgg281 Z Wp) (Ld isAgg281 Z Wp) ?_;refine DB.done Z (TE 5 0 1 Z Z (FE Z (Bd h λQ s h=>?_)));refine vH (rO (i:=5) (j:=4) s JO Gg Z) ?_;exact FE Z (Gt 4 Z h 5 [0,1,2,6])
def Ia(n:Nat)(f:AC)(b2:Int)(g:AA A6)(p:AA A6)(a:(AA Int)×AC×Int×Int):AB (AG ((AA Int)×AC×Int×Int) (AG ((AA Int)×AC×Int) ((AA Int)×Bool))):=(bif a.2.2.2<(g.length:Int) then(AJ g a.2.2.2).bind λd=>(KG (AC.c f) b2 d).bind λh=>(bif h<d.lo then some (.d (.d ([],false)))else(KG (AC.c f) b2 d).bind λi=>(bif d.hi<i then some (.d (.d ([],false)))else(AJ p a.2.2.2).bind λj=>(KG (AC.c f) b2 d).bind λk=>(Od AC.put a.2.1 a.2.2.1 j k).bind λe=>(KG (AC.c f) b2 d).bind λl=>(app a.1 [l]).bind λm=>some (.k (m,e.1,e.2,i64.wrap (a.2.2.2+1)))))else some (.d (.k (a.1,a.2.1,a.2.2.1))))
def Mz(n:Nat)(a:AC):AB ((AA Int)×Bool):=((bif a.Appeal.Suspends then some 1 else some 0):AB Int).bind λb2=>((I' n a b2).bind λh=>(match h with|.c0 m=>((KU n).bind λp=>some (.k ([⟨false,4,1,9999⟩,⟨false,5,0,7⟩,⟨false,6,0,31⟩,⟨false,7,(-1099511627776),1099511627776⟩,⟨false,8,0,120⟩,⟨false,9,0,1048576⟩,⟨false,10,0,9999⟩,⟨false,11,0,1048576⟩]:AA A6)))|.c1 q=>((KU n).bind λr=>some (.k ([⟨false,12,0,39⟩,⟨false,13,0,255⟩,⟨false,14,0,1048576⟩,⟨false,15,(-1099511627776),1099511627776⟩]:AA A6)))|.c2 s=>((KU n).bind λt=>some (.k ([⟨false,16,0,39⟩,⟨false,17,0,255⟩,⟨false,18,(-1099511627776),1099511627776⟩,⟨false,19,(-1099511627776),1099511627776⟩,⟨false,20,0,1099511627776⟩]:AA A6)))|.c3 u=>((ZV n a).bind λw=>(bif (!(decide (a.Sync.Min<=a.Sync.Max)))then some (.d ([],false))else some (.k ([⟨false,21,0,39⟩,⟨false,22,0,255⟩,⟨false,23,(-1099511627776),1099511627776⟩,⟨false,24,0,39⟩,⟨false,25,0,255⟩,⟨false,26,(-1099511627776),1099511627776⟩,⟨false,27,(-1099511627776),1099511627776⟩,⟨false,28,(-1099511627776),1099511627776⟩]:AA A6))))|.c4 x=>((Zo n a).bind λy=>(bif (!(decide (a.Hand.Lo<=a.Hand.Hi)))then some (.d ([],false))else some (.k ([⟨false,29,1,9999⟩,⟨false,30,0,255⟩,⟨false,31,(-1099511627776),1099511627776⟩,⟨false,32,(-1099511627776),1099511627776⟩]:AA A6))))|.c5 z=>((Zq n a).bind λE=>(bif (!(decide (a.Silence.Lo<=a.Silence.Hi)))then some (.d ([],false))else some (.k ([⟨false,33,0,39⟩,⟨false,34,0,255⟩,⟨false,35,(-1099511627776),1099511627776⟩,⟨false,36,(-1099511627776),1099511627776⟩]:AA A6))))|.c6 F=>((Zu n a).bind λG=>(bif (!(decide (a.Pair.A<a.Pair.B)))then some (.d ([],false))else some (.k ([⟨false,37,1,9999⟩,⟨false,38,1,9999⟩]:AA A6))))|.c7 H=>((KU n).bind λJ=>some (.k ([⟨false,39,1,1048576⟩,⟨false,40,1,9999⟩,⟨false,41,0,31⟩,⟨false,42,0,255⟩]:AA A6)))|.c8 L=>((KU n).bind λM=>some (.k ([⟨false,43,1,1048576⟩,⟨false,44,0,9999⟩,⟨false,45,0,1125899906842624⟩,⟨false,46,0,1⟩]:AA A6)))|.c9 e=>((KU n).bind λN=>some (.k ([⟨false,47,1,1048576⟩,⟨false,48,1,2⟩,⟨false,49,1,5⟩,⟨false,50,e.1,e.2.1⟩,⟨false,51,e.2.2.1,e.2.2.2.1⟩,⟨false,52,e.2.2.2.2.1,e.2.2.2.2.2⟩]:AA A6)))|.c10 O=>((KU n).bind λP=>some (.k ([⟨false,53,1,1048576⟩,⟨true,0,0,1⟩]:AA A6)))|.c11 Q=>((KU n).bind λR=>some (.k []))|.c12 T=>((KU n).bind λV=>some (.k ([⟨false,55,0,31⟩,⟨false,56,1,1048576⟩]:AA A6)))|.c13 W=>(some (.d ([],false)))):AB (AG (AA A6) ((AA Int)×Bool))).bind λi=>match i with|.k f=>((I_ n a).bind λX=>(app ([⟨false,3,1,13⟩,⟨false,0,0,31⟩,⟨false,1,1,1048576⟩,⟨false,2,0,1099511627776⟩]:AA A6) f).bind λj=>(Mf n ({Up with Ruling:={Ux with Kind:=a.Ruling.Kind:Ruling}:AC}) 0 a).bind λk=>(iter (Ia n a b2 j k) n ([],({({Up with Ruling:={Ux with Kind:=a.Ruling.Kind:Ruling}:AC})with Kind:=a.Kind:AC}),0,0):AB (AG ((AA Int)×AC×Int) ((AA Int)×Bool))).bind λl=>match l with|.k d=>(((bif (a.Kind != 10)then some ({d.2.1 with Ruling:={d.2.1.Ruling with Kind:=0:Ruling}:AC})else some d.2.1):AB AC).bind λg=>some (d.1,(({g with Appeal:={Case:=g.Appeal.Case,Suspends:=(d.2.2==1):Appeal}:AC})==a)))|.d d=>some d)|.d f=>some f
theorem T_(n:Nat)(g:AC):Kq (Mz n g) 134 [.agg (AC.c g)] [] (λr=>.tup [.osl 0 0 r.1.length 1,.bool r.2]) (λr=>[.row 3 1 (map (Qc .i64) r.1)]):=by
 refine Kg 21 func134 Z Z Z Z λr h=>Bd h λb2 N h=>Ct b2 [0,1] [1,2,4] Ze (λb2=>[(1,.cells 3 [I b2])]) Zf ?_ (λenv H M=>?_)
 .refine G0 0 Z (Cn Z N (λ_ N=>?_) (λ_ N=>?_))
  .exact YM 3 Z N [0,1]
  exact YM 1 Z N [0,1]
 refine Gx 1 Z (Qd M (Gc 7 Z (Bd h λaq a h=>md (b:=aq) (λz=>[(1,.ptr 0 0),(2,.nils),(5,.ptr 1 0),(6,.ptr 2 0)]) (λz=>[.cells 72 (AC.c g),.cells 72 (AC.c g),.cells 283 [.osl 3 0 z.length 3,.any],.ents 293 1 4 z,.cells 3 [I b2]]) ?_ (λz env H hb M=>?_))))
 .refine Gc 1 Z (Bd a λar ab a=>?_);refine QC [2,1] (Bh.fn call189 Z Z Z) (UX _ _ _ _ ab) ?_;intro ra rH y;rcases ar with bn|bo|bp|bq|br|bs|bt|bu|bv|F|bw|bx|bz|ca
  .obtain⟨rfl,rfl⟩:=y;refine aV (.tup [.agg [.osl 3 0 8 3,.fn (.func 248) [] []],.bool true]) [.cells 72 (AC.c g),.cells 3 [I b2],.cells 72 (AC.c g),.rowr 293 3 [[.ptr 2 4,I 1,I 9999],[.ptr 2 5,I 0,I 7],[.ptr 2 6,I 0,I 31],[.ptr 2 7,I (-1099511627776),I 1099511627776],[.ptr 2 8,I 0,I 120],[.ptr 2 9,I 0,I 1048576],[.ptr 2 10,I 0,I 9999],[.ptr 2 11,I 0,I 1048576]],.cells 283 [.osl 3 0 8 3,.fn (.func 248) [] []]] Z Z ?_;refine TE 3 2 1 Z Z (Fg 15 Z Z (Cz [] a (Kh _) Z λcb ay a=>Go 6 Z ?_));cases a;refine YC Z ?_;refine En (QZ (i:=5) (m:=1) Z) ?_;exact Lr [0,2,5,3,1]
  .obtain⟨rfl,rfl⟩:=y;refine aV (.tup [.agg [.osl 3 0 4 3,.fn (.func 248) [] []],.bool true]) [.cells 72 (AC.c g),.cells 3 [I b2],.cells 72 (AC.c g),.rowr 293 3 [[.ptr 2 12,I 0,I 39],[.ptr 2 13,I 0,I 255],[.ptr 2 14,I 0,I 1048576],[.ptr 2 15,I (-1099511627776),I 1099511627776]],.cells 283 [.osl 3 0 4 3,.fn (.func 248) [] []]] Z Z ?_;refine TE 3 2 1 Z Z (Fg 15 Z Z (Cz [] a (Kh _) Z λcc az a=>Go 6 Z ?_));cases a;refine YC Z ?_;refine En (QZ (i:=5) (m:=1) Z) ?_;exact Lr [0,2,5,3,1]
  .obtain⟨rfl,rfl⟩:=y;refine aV (.tup [.agg [.osl 3 0 5 3,.fn (.func 248) [] []],.bool true]) [.cells 72 (AC.c g),.cells 3 [I b2],.cells 72 (AC.c g),.rowr 293 3 [[.ptr 2 16,I 0,I 39],[.ptr 2 17,I 0,I 255],[.ptr 2 18,I (-1099511627776),I 1099511627776],[.ptr 2 19,I (-1099511627776),I 1099511627776],[.ptr 2 20,I 0,I 1099511627776]],.cells 283 [.osl 3 0 5 3,.fn (.func 248) [] []]] Z Z ?_;refine TE 3 2 1 Z Z (Fg 15 Z Z (Cz [] a (Kh _) Z λcd ba a=>Go 6 Z ?_));cases a;refine YC Z ?_;refine En (QZ (i:=5) (m:=1) Z) ?_;exact Lr [0,2,5,3,1]
  .obtain⟨rfl,rfl⟩:=y;refine aV (.tup [.agg [.osl 3 0 8 3,.fn (.func 249) [] [.ptr 4 0]],.bool true]) [.cells 72 (AC.c g),.cells 3 [I b2],.cells 72 (AC.c g),.rowr 293 3 [[.ptr 2 21,I 0,I 39],[.ptr 2 22,I 0,I 255],[.ptr 2 23,I (-1099511627776),I 1099511627776],[.ptr 2 24,I 0,I 39],[.ptr 2 25,I 0,I 255],[.ptr 2 26,I (-1099511627776),I 1099511627776],[.ptr 2 27,I (-1099511627776),I 1099511627776],[.ptr 2 28,I (-1099511627776),I 1099511627776]],.cells 345 [.ptr 2 21],.cells 283 [.osl 3 0 8 3,.fn (.func 249) [] [.ptr 4 0]]] Z Z ?_;refine TE 3 2 1 Z Z (Fg 15 Z Z (Cz [4,2] a (eI _ _) Z λce bb a=>Go 4 Z (Cn Z a (λ_ a=>?_) (λ_ a=>?_))))
   .refine Gc 7 Z ?_;cases a;refine Qq (Gx 1 Z ?_);obtain rfl:=Oi h;refine R2 2 3 Z Z ?_;refine En (Ep (s:=2) (k:=1) (t:=3) (XP Z) Z) ?_;exact Lr [7]
   refine Gc 1 Z ?_;cases a;refine YC Z ?_;refine En (QZ (i:=6) (m:=1) Z) ?_;exact Lr [0,2,6,3,1]
  .obtain⟨rfl,rfl⟩:=y;refine aV (.tup [.agg [.osl 3 0 4 3,.fn (.func 250) [] [.ptr 4 0]],.bool true]) [.cells 72 (AC.c g),.cells 3 [I b2],.cells 72 (AC.c g),.rowr 293 3 [[.ptr 2 29,I 1,I 9999],[.ptr 2 30,I 0,I 255],[.ptr 2 31,I (-1099511627776),I 1099511627776],[.ptr 2 32,I (-1099511627776),I 1099511627776]],.cells 346 [.ptr 2 29],.cells 283 [.osl 3 0 4 3,.fn (.func 250) [] [.ptr 4 0]]] Z Z ?_;refine TE 3 2 1 Z Z (Fg 15 Z Z (Cz [4,2] a (ef _ _) Z λcf bc a=>Go 4 Z (Cn Z a (λ_ a=>?_) (λ_ a=>?_))))
   .refine Gc 7 Z ?_;cases a;refine Qq (Gx 1 Z ?_);obtain rfl:=Oi h;refine R2 2 3 Z Z ?_;refine En (Ep (s:=2) (k:=1) (t:=3) (XP Z) Z) ?_;exact Lr [7]
   refine Gc 1 Z ?_;cases a;refine YC Z ?_;refine En (QZ (i:=6) (m:=1) Z) ?_;exact Lr [0,2,6,3,1]
  .obtain⟨rfl,rfl⟩:=y;refine aV (.tup [.agg [.osl 3 0 4 3,.fn (.func 251) [] [.ptr 4 0]],.bool true]) [.cells 72 (AC.c g),.cells 3 [I b2],.cells 72 (AC.c g),.rowr 293 3 [[.ptr 2 33,I 0,I 39],[.ptr 2 34,I 0,I 255],[.ptr 2 35,I (-1099511627776),I 1099511627776],[.ptr 2 36,I (-1099511627776),I 1099511627776]],.cells 347 [.ptr 2 33],.cells 283 [.osl 3 0 4 3,.fn (.func 251) [] [.ptr 4 0]]] Z Z ?_;refine TE 3 2 1 Z Z (Fg 15 Z Z (Cz [4,2] a (ez _ _) Z λcg bd a=>Go 4 Z (Cn Z a (λ_ a=>?_) (λ_ a=>?_))))
   .refine Gc 7 Z ?_;cases a;refine Qq (Gx 1 Z ?_);obtain rfl:=Oi h;refine R2 2 3 Z Z ?_;refine En (Ep (s:=2) (k:=1) (t:=3) (XP Z) Z) ?_;exact Lr [7]
   refine Gc 1 Z ?_;cases a;refine YC Z ?_;refine En (QZ (i:=6) (m:=1) Z) ?_;exact Lr [0,2,6,3,1]
  .obtain⟨rfl,rfl⟩:=y;refine aV (.tup [.agg [.osl 3 0 2 3,.fn (.func 252) [] [.ptr 4 0]],.bool true]) [.cells 72 (AC.c g),.cells 3 [I b2],.cells 72 (AC.c g),.rowr 293 3 [[.ptr 2 37,I 1,I 9999],[.ptr 2 38,I 1,I 9999]],.cells 348 [.ptr 2 37],.cells 283 [.osl 3 0 2 3,.fn (.func 252) [] [.ptr 4 0]]] Z Z ?_;refine TE 3 2 1 Z Z (Fg 15 Z Z (Cz [4,2] a (e9 _ _) Z λch be a=>Go 4 Z (Cn Z a (λ_ a=>?_) (λ_ a=>?_))))
   .refine Gc 7 Z ?_;cases a;refine Qq (Gx 1 Z ?_);obtain rfl:=Oi h;refine R2 2 3 Z Z ?_;refine En (Ep (s:=2) (k:=1) (t:=3) (XP Z) Z) ?_;exact Lr [7]
   refine Gc 1 Z ?_;cases a;refine YC Z ?_;refine En (QZ (i:=6) (m:=1) Z) ?_;exact Lr [0,2,6,3,1]
  .obtain⟨rfl,rfl⟩:=y;refine aV (.tup [.agg [.osl 3 0 4 3,.fn (.func 248) [] []],.bool true]) [.cells 72 (AC.c g),.cells 3 [I b2],.cells 72 (AC.c g),.rowr 293 3 [[.ptr 2 39,I 1,I 1048576],[.ptr 2 40,I 1,I 9999],[.ptr 2 41,I 0,I 31],[.ptr 2 42,I 0,I 255]],.cells 283 [.osl 3 0 4 3,.fn (.func 248) [] []]] Z Z ?_;refine TE 3 2 1 Z Z (Fg 15 Z Z (Cz [] a (Kh _) Z λci bf a=>Go 6 Z ?_));cases a;refine YC Z ?_;refine En (QZ (i:=5) (m:=1) Z) ?_;exact Lr [0,2,5,3,1]
  .obtain⟨rfl,rfl⟩:=y;refine aV (.tup [.agg [.osl 3 0 4 3,.fn (.func 248) [] []],.bool true]) [.cells 72 (AC.c g),.cells 3 [I b2],.cells 72 (AC.c g),.rowr 293 3 [[.ptr 2 43,I 1,I 1048576],[.ptr 2 44,I 0,I 9999],[.ptr 2 45,I 0,I 1125899906842624],[.ptr 2 46,I 0,I 1]],.cells 283 [.osl 3 0 4 3,.fn (.func 248) [] []]] Z Z ?_;refine TE 3 2 1 Z Z (Fg 15 Z Z (Cz [] a (Kh _) Z λcj bg a=>Go 6 Z ?_));cases a;refine YC Z ?_;refine En (QZ (i:=5) (m:=1) Z) ?_;exact Lr [0,2,5,3,1]
  .obtain⟨rfl,rfl⟩:=y;refine aV (.tup [.agg [.osl 3 0 6 3,.fn (.func 248) [] []],.bool true]) [.cells 72 (AC.c g),.cells 3 [I b2],.cells 72 (AC.c g),.rowr 293 3 [[.ptr 2 47,I 1,I 1048576],[.ptr 2 48,I 1,I 2],[.ptr 2 49,I 1,I 5],[.ptr 2 50,I F.1,I F.2.1],[.ptr 2 51,I F.2.2.1,I F.2.2.2.1],[.ptr 2 52,I F.2.2.2.2.1,I F.2.2.2.2.2]],.cells 283 [.osl 3 0 6 3,.fn (.func 248) [] []]] Z Z ?_;refine TE 3 2 1 Z Z (Fg 15 Z Z (Cz [] a (Kh _) Z λck bh a=>Go 6 Z ?_));cases a;refine YC Z ?_;refine En (QZ (i:=5) (m:=1) Z) ?_;exact Lr [0,2,5,3,1]
  .obtain⟨rfl,rfl⟩:=y;refine aV (.tup [.agg [.osl 3 0 2 3,.fn (.func 248) [] []],.bool true]) [.cells 72 (AC.c g),.cells 3 [I b2],.cells 72 (AC.c g),.rowr 293 3 [[.ptr 2 53,I 1,I 1048576],[.ptr 1 0,I 0,I 1]],.cells 283 [.osl 3 0 2 3,.fn (.func 248) [] []]] Z Z ?_;refine TE 3 2 1 Z Z (Fg 15 Z Z (Cz [] a (Kh _) Z λcl bi a=>Go 6 Z ?_));cases a;refine YC Z ?_;refine En (QZ (i:=5) (m:=1) Z) ?_;exact Lr [0,2,5,3,1]
  .obtain⟨rfl,rfl⟩:=y;refine aV (.tup [.agg [.nils,.fn (.func 248) [] []],.bool true]) [.cells 72 (AC.c g),.cells 3 [I b2],.cells 72 (AC.c g),.cells 283 [.nils,.fn (.func 248) [] []]] Z Z ?_;refine Go 15 Z (Cz [] a (Kh _) Z λcm bj a=>Go 6 Z ?_);cases a;refine YC Z ?_;refine En (QZ (i:=4) (m:=1) Z) ?_;refine En (Le.phantomE (i:=4) (m:=0) (t:=293) (b1:=2) (b2:=1) Z Z Z) ?_;exact Lr [0,2,4,5,1]
  .obtain⟨rfl,rfl⟩:=y;refine aV (.tup [.agg [.osl 3 0 2 3,.fn (.func 248) [] []],.bool true]) [.cells 72 (AC.c g),.cells 3 [I b2],.cells 72 (AC.c g),.rowr 293 3 [[.ptr 2 55,I 0,I 31],[.ptr 2 56,I 1,I 1048576]],.cells 283 [.osl 3 0 2 3,.fn (.func 248) [] []]] Z Z ?_;refine TE 3 2 1 Z Z (Fg 15 Z Z (Cz [] a (Kh _) Z λcn bk a=>Go 6 Z ?_));cases a;refine YC Z ?_;refine En (QZ (i:=5) (m:=1) Z) ?_;exact Lr [0,2,5,3,1]
  .obtain⟨rfl,rfl⟩:=y;refine aV (.tup [.agg [.nils,.nilf],.bool false]) [.cells 72 (AC.c g),.cells 3 [I b2],.cells 72 (AC.c g),.cells 283 [.nils,.nilf]] Z Z ?_;refine Go 28 Z ?_;cases a;refine Qq (Gx 1 Z ?_);obtain rfl:=Oi h;refine R2 2 3 Z Z ?_;refine En (Ep (s:=2) (k:=1) (t:=3) (XP Z) Z) ?_;exact Lr [5]
 subst hb;refine Gx 1 Z (Qd M (Gc 12 Z (F8 3 0 [1,3,3] (by kernel_rfl) ?_)));obtain⟨co,ah,h⟩:=YE h;refine DA.op (x:=.osl 6 0 4 3) (H1:=[.cells 72 (AC.c g),.cells 72 (AC.c g),.cells 283 [.osl 3 0 z.length 3,.any],.ents 293 1 4 z,.cells 3 [I b2],.cells 72 (AC.c Up),.rowr 293 3 [[.ptr 1 3,I 1,I 13],[.ptr 1 0,I 0,I 31],[.ptr 1 1,I 1,I 1048576],[.ptr 1 2,I 0,I 1099511627776]]]) ?_ ?_
 .refine QC [1] (Bh.fn call191 Z Z Z) (UW _ _ _ ah) ?_;rintro _ _ ⟨rfl,rfl⟩;exact FE Z Wp
 refine Db 1 Z ?_;refine DB.wo2 (x:=.osl 3 0 z.length 3) (Ld isAgg281 Z Wp) (Ld isAgg281 Z Wp) ?_;refine DB.done Z (TE 6 1 4 Z Z (FE Z (Bd h λau ai h=>?_)));refine vH (rO (i:=6) (j:=3) ai JO Gg Z) ?_;refine Fg 22 Z Z (Cd [5,8,0] h (iY _ _ _ _) Z λav bl h=>Fg 11 Z Z (Bd h λaw aj h=>DD (b:=aw) [0,1,2,3] [1] (λl=>[(2,.osl 1 0 l.1.length 1),(7,.ptr 2 0),(10,.ptr 3 0)]) (λl=>[(1,.row 3 1 (map (Qc .i64) l.1)),(2,.cells 72 (AC.c l.2.1)),(3,.cells 3 [I l.2.2])]) Zf ?_ (λl env H ax M=>?_)))
 .refine G0 1 Z (Lp [0,0,5,8,9,7,1,4] [1,7,10,11,42,43] (λu=>[(2,.osl 1 0 u.1.length 1),(44,I u.2.2.2)]) (λu=>[(1,.row 3 1 (map (Qc .i64) u.1)),(2,.cells 72 (AC.c u.2.1)),(3,.cells 3 [I u.2.2.1]),(4,.ents 293 2 3 av),(5,.ents 293 6 7 au)]) aj Zf ?_ ?_)
  .refine En (Ep (s:=2) (k:=1) (t:=3) (XP Z) Z) ?_;exact Lr [0,10,5,8,9,7,1,4]
  intro u bm d G;refine G0 6 Z (Q5 Z d (λ_ d=>?_) (λ_ d=>?_))
  .exact Gc 2 Z (Qi d (Gx 1 Z (JD G d Z (Lr [0,1,2,3]))))
  refine Gc 7 Z (Bd d λB he106 d=>?_);refine vX (.ptr 5 (toNat u.2.2.2*3)) (Qn he106 Z Gg GO) ?_;refine vX (.agg [K6 6 7 B,I B.lo,I B.hi]) (Qv Z isAgg293 GO Z (BD.ents (f:=0) (G8 he106).2) Z Z) ?_;refine Go 7 Z (Bj 16 Z (D 2 Z ?_));refine DS.wo (x:=K6 6 7 B) ?_ ?_
  .exact S Z Wp
  obtain⟨ak,Q,d⟩:=YE d;refine DS.v (x:=(I ak)) (cO Q EH) ?_;refine D 5 Z (KN 8 d Z Z Z (λ_ d=>?_) (λ_ d=>?_))
  .refine D 7 Z (Eg Z (Go 15 Z (Qx d ?_)));obtain rfl:=Oj G d;refine Gx 1 Z (Qq (Gx 1 Z ?_));obtain rfl:=Oi h;refine R2 2 3 Z Z ?_;refine En (Ep (s:=2) (k:=1) (t:=3) (XP Z) Z) ?_;exact Lr [9]
  .refine D 2 Z ?_;refine DS.wo (x:=K6 6 7 B) ?_ ?_
   .exact Sg (gT Z) Z Wp
   obtain⟨al,T,d⟩:=YE d;refine DS.v (x:=(I al)) (cO T EH) ?_ (hg:=(gT Z));refine D 3 Z (Eg Z (Go 4 Z (Cn Z d (λ_ d=>?_) (λ_ d=>?_))))
   .refine Gc 10 Z (Qx d ?_);obtain rfl:=Oj G d;refine Gx 1 Z (Qq (Gx 1 Z ?_));obtain rfl:=Oi h;refine R2 2 3 Z Z ?_;refine En (Ep (s:=2) (k:=1) (t:=3) (XP Z) Z) ?_;exact Lr [9]
   refine Gc 3 Z (Bj 9 Z (D 2 Z ?_));obtain⟨am,he111,d⟩:=YE d;refine DS.v (x:=(.ptr 4 (toNat u.2.2.2*3))) (Qn he111 Z Gg GO) ?_;refine DS.wo (x:=.ptr 4 (toNat u.2.2.2*3)) ?_ ?_
   .exact Fp wC Z Wp
   refine DS.v (x:=(K6 2 3 am)) (Ez Z isAgg287 Z (BD.ents (f:=0) (G8 he111).2)) ?_;refine D 2 Z ?_;refine DS.wo (x:=K6 6 7 B) ?_ ?_
   .exact S Z Wp
   obtain⟨an,W,d⟩:=YE d;refine DS.v (x:=(I an)) (cO W EH) ?_;refine Eg Z (S Z (Bd d λJ hq113 d=>?_));refine vU (yX (c:=AC.c) (f:=u.2.1) (f':=J.1) (s':=J.2) hq113 ua EG) ?_;refine Ng (H:=[_,_,.cells 72 (AC.c J.1),.cells 3 [I J.2],_,_,_,_,_]) Z ?_;refine Go 6 Z (S Z (Bd d λL X d=>?_));refine vX (I L) (cO X EH) ?_;refine vH (Ek (xs:=[.tmp 81]) (es:=map (Qc .i64) [L]) Qs Z Z Z Z Z ⟨Z,trivial⟩ Z Z) ?_;refine aV (.osl 9 0 ([L].length) 1) [_,_,_,_,_,_,_,_,_,.row 3 1 (map (Qc .i64) [L])] Z Z ?_;refine Bd d λO Y d=>vH (Qh (e:=(Qc .i64)) Y Qs EB (QF (i:=9))) ?_;refine aV (.osl 10 0 O.length 1) [_,.dead,_,_,_,_,_,_,_,_,.row 3 1 (map (Qc .i64) O)] Z Z ?_;exact Go 8 Z (Qg d (Lr [0,10,2,3,4,5,6,7]))
 subst ax;refine Gx 1 Z (Qd M (Gc 8 Z (Bd h λw E h=>Cg w [0,1,2,3] [1,2,7,10] Ze (λw=>[(2,.cells 72 (AC.c w))]) Zf ?_ ?_)))
 .refine G0 0 Z (Cn Z E (λ_ E=>?_) (λ_ E=>?_))
  .exact YM 5 Z E [0,1,2,3]
  exact YM 1 Z E [0,1,2,3]
 refine Gc 10 Z ?_;refine TC.draw0 5 [94,95,96,97,2] [.osl 1 0 l.1.length 1,.agg (AC.c ({w with Appeal:={Case:=w.Appeal.Case,Suspends:=(l.2.2==1):Appeal}:AC})),.agg (AC.c g),.bool (({w with Appeal:={Case:=w.Appeal.Case,Suspends:=(l.2.2==1):Appeal}:AC})==g),.osl 1 0 l.1.length 1] C1 Z Z Z ?_ ?_
 .refine Oq.c ?_ (ov (ov (Oq.c ?_ (ov (Oq.n)))))
  .refine Om Z (sP 4 sN) ?_;exact S Z Wp
  .refine Om Z (sD 1 (sD 2 sN)) ?_;refine vX (.bool (({w with Appeal:={Case:=w.Appeal.Case,Suspends:=(l.2.2==1):Appeal}:AC})==g)) (rP (p:={w with Appeal:={Case:=w.Appeal.Case,Suspends:=(l.2.2==1):Appeal}:AC}) (q:=g) jf Z Z) ?_;exact Wp
 refine Go 4 Z ?_;obtain rfl:=Oi h;exact R2 2 3 Z Z (Lr [1])
def M1(n:Nat)(a:AC):AB Int:=(Mz n a).bind λd=>(bif (!d.2)then some 120 else some 0)
theorem UE(n:Nat)(a:AC):Ks (M1 n a) 60 [.agg (AC.c a)] [] (λr=>I r):=by
 refine Kg 10 func60 Z Z Z Z λr h=>Cd [] h (T_ _ _) Z λf e h=>Fg 13 Z Z (Cn Z h (λ_ h=>?_) (λ_ h=>?_))
 .exact QJ 7 Z h 2 []
 exact QJ 8 Z h 2 []
def P'(n:Nat)(a:AA AC):AB (AA AC):=isNil a (some []) ((app ([]:AA AC) a).bind λd=>some d)
theorem fM(n:Nat)(a:AA AC):Kq (P' n a) 215 [.rsl 57 (map AC.c a)] [] (λr=>.osl 0 0 r.length 57) (λr=>[.row 72 57 (map AC.c r)]):=by
 refine Kg 9 func215 Z Z Z Z λr h=>(pQ underlying34 Z (λb1 d=>?_));have hkb1:=qJ h b1 d;cases b1
 .have h:=hkb1.2 Z;refine Go 7 Z (vH (Ek (xs:=[]) Jf Z Z Z Z Z trivial Z Z) ?_);refine Fg 1 Z Z (Bd h λf e h=>vH (Qh e Jf EC JR) ?_);exact FE Z (Gt 4 Z h 2 [1])
 .have h:=hkb1.1 Z;refine Go 10 Z ?_;obtain rfl:=Oi h;refine R1 2 Z ?_;exact En (Ep (s:=2) (XP Z) Z) (Lr [0])
def Mu(n:Nat)(a:Int):AB Unit:=some ()
theorem T6(n:Nat)(a:Int):Ks (Mu n a) 146 [I a] [] (λ_=>.bool (a != a)):=by
 exact Kg 14 func146 Z Z Z Z λr h=>Rt h 2 []
def Nw(n:Nat)(d:Int)(a:Int):AB Int:=(Mu n d).bind λe=>(Mu n a).bind λf=>(bif (d != d)then(bif (a != a)then some 0 else some (-1))else(bif (a != a)then some 1 else(bif d<a then some (-1)else(bif a<d then some 1 else some 0))))
theorem T3(n:Nat)(a:Int)(d:Int):Ks (Nw n a d) 67 [I a,I d] [] (λr=>I r):=by
 refine Kg 8 func67 Z Z Z Z λr h=>Cz [] h (T6 _ _) Z λm k h=>Go 6 Z (Cz [] h (T6 _ _) Z λp l h=>Go 9 Z (Cn Z h (λ_ h=>?_) (λ_ h=>?_)))
 .refine Gc 6 Z (Cn Z h (λ_ h=>?_) (λ_ h=>?_))
  .exact QJ 8 Z h 4 []
  exact QJ 9 Z h 4 []
 refine Gc 8 Z (Cn Z h (λ_ h=>?_) (λ_ h=>?_))
 .exact QJ 7 Z h 4 []
 iterate 2 (refine Gc 10 Z (Cn Z h (λ_ h=>?_) (λ_ h=>?_));exact QJ 7 Z h 4 [])
 exact QJ 8 Z h 4 []
def Il(n:Nat)(e:AA Int)(a:Int):AB (AG Int (AG Unit Int)):=(bif a<(e.length:Int) then(AJ e a).bind λd=>(bif (d != 0)then some (.d (.d d))else some (.k (i64.wrap (a+1))))else some (.d (.k ())))
def RT(n:Nat)(d:AA Int):AB Int:=(iter (Il n d) n 0:AB (AG Unit Int)).bind λe=>match e with|.k a=>(some 0)|.d a=>some a
theorem fk(n:Nat)(j:AA Int):Ks (RT n j) 135 [.rsl 1 (map (Qc .i64) j)] [] (λr=>I r):=by
 refine Kg 14 func135 Z Z Z Z λr h=>Lg 3 Z Z (Bd h λl m h=>BZ (b:=l) [] [3] Ze Ze Zf ?_ (λ_ k=>?_))
 .refine G0 1 Z (Lp [] [3,6,7] (λe=>[(8,I e)]) Ze m Zf (Lr []) λe q a d=>(G0 6 Z (Q5 Z a (λ_ a=>?_) (λ_ a=>?_))))
  .exact Gc 2 Z (Qi a (Gx 1 Z (JD d a Z (Lr []))))
  refine Gc 6 Z (Bd a λs g a=>Iz g Z (Go 11 Z (Cn Z a (λ_ a=>?_) (λ_ a=>?_))))
  .refine Gc 9 Z (Qx a ?_);obtain rfl:=Oj d a;exact Gx 1 Z (Qq (Gx 1 Z (Rt h 2 [])))
  exact Gc 7 Z (Qg a (Lr []))
 subst k;exact QJ 7 Z h 2 []
def Py(n:Nat)(e:Value)(rec141:Value->AB (Int×Bool))(a:Int×Int):AB (AG (Int×Int) (AG Int (Int×Bool))):=(bif a.2<(e.L.length:Int) then(AJ e.L a.2).bind λf=>(rec141 f).bind λd=>(bif (!d.2)then some (.d (.d (0,false)))else some (.k ((if a.1<d.1 then d.1 else a.1),i64.wrap (a.2+1))))else some (.d (.k a.1)))
def TG(rec141:Value->AB (Int×Bool))(n:Nat)(a:Value):AB (Int×Bool):=((bif (a.S==[])then(bif (a.N==0)then(FM 4 (List.replicate 4 false)).bind λm=>(FM 4 ([false,((a.L.length:Int)==0),((a.L.length:Int)==0),(a.S==[])]:AA Bool)).bind λe=>some e else(FM 4 (List.replicate 4 false)).bind λp=>(FM 4 ([false,((a.L.length:Int)==0),false,false]:AA Bool)).bind λf=>some f)else(bif (a.N==0)then(FM 4 (List.replicate 4 false)).bind λq=>(FM 4 ([false,false,((a.L.length:Int)==0),(a.S==[])]:AA Bool)).bind λg=>some g else(FM 4 (List.replicate 4 false)).bind λr=>(FM 4 ([false,false,false,false]:AA Bool)).bind λh=>some h)):AB (AA Bool)).bind λi=>((bif a.Kind<1 then some true else(bif 3<a.Kind then some true else(Hn 4 i a.Kind).bind λj=>some (!j))):AB Bool).bind λk=>(bif k then some (0,false)else(bif a.Kind<3 then some (0,true)else(iter (Py n a rec141) n (0,0):AB (AG Int (Int×Bool))).bind λl=>match l with|.k d=>(some (i64.wrap (d+1),true))|.d d=>some d))
theorem Qei(rec141:Value->AB (Int×Bool))(q:∀(j:Value) (r:Int×Bool),rec141 j=some r->Bk prog 274 [.agg (Value.c j)] [] (λr=>.tup [I r.1,.bool r.2]) r)(n:Nat)(j:Value)(r:Int×Bool)(h:TG rec141 n j=some r):Bk prog 274 [.agg (Value.c j)] [] (λr=>.tup [I r.1,.bool r.2]) r:=by
 refine QG func274 Z Z Z ?_;refine G0 8 Z (Bd h λp a h=>Ct p [0,0] [1,2] (λ_=>[(4,.ptr 1 0)]) (λp=>[(1,.row 397 1 (map Dg p))]) Zf ?_ (λenv H s=>?_))
 .refine G0 5 Z (Is 12 a Z (λ_ a=>?_) (λ_ a=>?_))
  .refine Go 2 Z (Lg 6 Z Z (Is 21 a Z (λf a=>?_) (λf a=>?_)))
   .refine Go 2 Z (Lg 6 Z Z (Y' (gT f) pC Z (l3 (gT f) isAgg9 Z ?_)));refine vX (.bool (j.S==[])) (kx Z Z Z) ?_ (gT f);refine Pk f Z ?_;refine vV (x:=(.agg (List.flatten (map Dg ([false,((j.L.length:Int)==0),((j.L.length:Int)==0),(j.S==[])]:AA Bool))))) (J7 (n:=4) (k:=1) (zs:=[.bool false,.bool false,.bool false,.bool false]) E9 (ZR.agg (zc ZR.bool (zc ZR.bool (zc ZR.bool (zc ZR.bool ZL.nil))))) Gi Ge Z) ?_;refine vH (JA (n:=4) (k:=1) (e:=Dg) (z:=false) E9 (by kernel_rfl) (by kernel_rfl) (by kernel_rfl) Z) ?_;refine FE Z (Bd a λar R a=>Bd a λag t a=>?_);obtain⟨J,rfl⟩:=JQ R;refine vU (Jz (e:=Dg) (l:=(List.replicate 4 false)) (l':=ag) J (O9 t) Zf Z GT Zf Zf (congrArg (λl=>List.flatten (map Dg l)) (JQ t).2.symm)) ?_;exact FE Z (Gl 1 Z a [0,1])
   .refine Go 9 Z (KF f Z (KF f Z (KF f Z (Pk f Z ?_))));refine vV (x:=(.agg (List.flatten (map Dg ([false,((j.L.length:Int)==0),false,false]:AA Bool))))) (J7 (n:=4) (k:=1) (zs:=[.bool false,.bool false,.bool false,.bool false]) E9 (ZR.agg (zc ZR.bool (zc ZR.bool (zc ZR.bool (zc ZR.bool ZL.nil))))) Gi Ge Z) ?_;refine vH (JA (n:=4) (k:=1) (e:=Dg) (z:=false) E9 (by kernel_rfl) (by kernel_rfl) (by kernel_rfl) Z) ?_;refine FE Z (Bd a λau T a=>Bd a λah u a=>?_);obtain⟨M,rfl⟩:=JQ T;refine vU (Jz (e:=Dg) (l:=(List.replicate 4 false)) (l':=ah) M (O9 u) Zf Z GT Zf Zf (congrArg (λl=>List.flatten (map Dg l)) (JQ u).2.symm)) ?_;exact FE Z (Gl 1 Z a [0,1])
  .refine Go 9 Z (Is 21 a Z (λg a=>?_) (λg a=>?_))
   .refine Go 2 Z (Lg 6 Z Z (Y' (gT g) pC Z (l3 (gT g) isAgg9 Z ?_)));refine vX (.bool (j.S==[])) (kx Z Z Z) ?_ (gT g);refine Pk g Z ?_;refine vV (x:=(.agg (List.flatten (map Dg ([false,false,((j.L.length:Int)==0),(j.S==[])]:AA Bool))))) (J7 (n:=4) (k:=1) (zs:=[.bool false,.bool false,.bool false,.bool false]) E9 (ZR.agg (zc ZR.bool (zc ZR.bool (zc ZR.bool (zc ZR.bool ZL.nil))))) Gi Ge Z) ?_;refine vH (JA (n:=4) (k:=1) (e:=Dg) (z:=false) E9 (by kernel_rfl) (by kernel_rfl) (by kernel_rfl) Z) ?_;refine FE Z (Bd a λav V a=>Bd a λai w a=>?_);obtain⟨N,rfl⟩:=JQ V;refine vU (Jz (e:=Dg) (l:=(List.replicate 4 false)) (l':=ai) N (O9 w) Zf Z GT Zf Zf (congrArg (λl=>List.flatten (map Dg l)) (JQ w).2.symm)) ?_;exact FE Z (Gl 1 Z a [0,1])
   .refine Go 9 Z (KF g Z (KF g Z (KF g Z (Pk g Z ?_))));refine vX (.agg (List.flatten (map Dg ([false,false,false,false]:AA Bool)))) (J7 (n:=4) (k:=1) (zs:=[.bool false,.bool false,.bool false,.bool false]) E9 (ZR.agg (zc ZR.bool (zc ZR.bool (zc ZR.bool (zc ZR.bool ZL.nil))))) Gi Ge Z) ?_;refine vH (JA (n:=4) (k:=1) (e:=Dg) (z:=false) E9 (by kernel_rfl) (by kernel_rfl) (by kernel_rfl) Z) ?_;refine FE Z (Bd a λaw W a=>Bd a λaj y a=>?_);obtain⟨O,rfl⟩:=JQ W;refine vU (Jz (e:=Dg) (l:=(List.replicate 4 false)) (l':=aj) O (O9 y) Zf Z GT Zf Zf (congrArg (λl=>List.flatten (map Dg l)) (JQ y).2.symm)) ?_;exact FE Z (Gl 1 Z a [0,1])
 refine Gx 1 Z (Qd s (Gc 2 Z (Bd h λB i h=>Ct B [0] [1,2] (λB=>[(50,.bool B)]) Ze Zf ?_ (λenv H s=>?_))))
 .refine G0 5 Z (Is 39 i Z (λ_ i=>?_) (λ_ i=>?_))
  .exact Gl 12 Z i [0]
  .refine Go 5 Z (Is 44 i Z (λ_ i=>?_) (λ_ i=>?_))
   .exact Gl 7 Z i [0]
   .refine Go 2 Z (Bd i λak E i=>?_);refine vX (.ptr 1 (toNat j.Kind*1)) (O' (n:=4) (k:=1) (l:=p) E Gi Ge Z) ?_ (gT Z);refine vX (.bool ak) (Ez Z isAgg4 Z (Qj (Np E).2)) ?_ (gT Z);exact Gl 3 Z i [0]
 refine Gx 1 Z (Qd s (Cn Z h (λ_ h=>?_) (λ_ h=>?_)))
 .refine Gc 8 Z ?_;obtain rfl:=Oi h;exact R2 2 3 Z Z (Lr [])
 refine Gc 10 Z (Cn Z h (λ_ h=>?_) (λ_ h=>?_))
 .refine Gc 8 Z ?_;obtain rfl:=Oi h;exact R2 2 3 Z Z (Lr [])
 refine Gc 7 Z (Lg 3 Z Z (Bd h λal am h=>BZ (b:=al) [] [] (λF=>[(2,I F)]) Ze Zf ?_ (λF an=>?_)))
 .refine G0 1 Z (Lp [] [55,56] (λm=>[(2,I m.1),(57,I m.2)]) Ze am Zf (Lr []) λm ax d G=>?_);refine G0 6 Z (Q5 Z d (λ_ d=>?_) (λ_ d=>?_))
  .exact Gc 2 Z (Qi d (Gx 1 Z (JD G d Z (Lr []))))
  refine Gc 6 Z (Bd d λao ae d=>CQ ae (Jb ao) Z (Go 8 Z (Cd [] d (q _) Z λP aq d=>Fg 14 Z Z (Cn Z d (λ_ d=>?_) (λ_ d=>?_)))))
  .refine Gc 10 Z (Qx d ?_);obtain rfl:=Oj G d;refine Gx 1 Z (Qq (Gx 1 Z ?_));obtain rfl:=Oi h;exact R2 2 3 Z Z (Lr [])
  refine Gc 5 Z ?_;refine vX (I (if m.1<P.1 then P.1 else m.1)) (AK.max Z Z Z Z) ?_;exact Go 8 Z (Qg d (Lr []))
 subst an;refine Gc 9 Z ?_;obtain rfl:=Oi h;exact R2 2 3 Z Z (Lr [])
def PK:Nat->Value->AB (Int×Bool)
  |0=>λ_=>none
  |n+1=>TG (PK n) n
theorem tg(n:Nat):∀(a:Value) (r:Int×Bool),PK n a=some r->Bk prog 274 [.agg (Value.c a)] [] (λr=>.tup [I r.1,.bool r.2]) r:=by
  induction n with
  |zero=>intro a r h;cases h
  |succ n ih=>intro a r h;exact Qei _ ih n a r h
def Zj(n:Nat)(d:Value):AB Int:=(PK n d).bind λa=>(bif (!a.2)then some 1 else(bif 16<a.1 then some 2 else some 0))
theorem eW(n:Nat)(a:Value):Ks (Zj n a) 253 [.agg (Value.c a)] [] (λr=>I r):=by
 refine Kg 9 func253 Z Z Z Z λr h=>Cd [] h (tg _ _) Z λg f h=>Fg 16 Z Z (Cn Z h (λ_ h=>?_) (λ_ h=>?_))
 .exact QJ 8 Z h 2 []
 refine Gc 7 Z (Cn Z h (λ_ h=>?_) (λ_ h=>?_))
 .exact QJ 8 Z h 2 []
 exact QJ 9 Z h 2 []
def Zm(n:Nat):AB Unit:=some ()
theorem eZ(n:Nat):Kq (Zm n) 254 [] [] (λ_=>.ptr 0 0) (λ_=>[.cells 378 [.nilf,.fn (.func 275) [] [],.fn (.func 278) [] [],.fn (.func 279) [] [.ptr 1 0]],.cells 356 [.ptr 0 0]]):=by
 refine Kg 2 func254 Z Z Z Z λr h=>S Z (Go 4 Z (vV (J7 zeroValue378 (ZR.agg (zc ZR.nilf (zc ZR.nilf (zc ZR.nilf (zc ZR.nilf ZL.nil))))) EO Gd Z) ?_));refine Go 9 Z (vV (Ye (i:=1) (j:=1) (by decide) Z EO Gd Z) ?_);refine Go 8 Z (vV (Ye (i:=2) (j:=2) (by decide) Z EO Gd Z) ?_);refine Go 9 Z (vV (Ye (i:=3) (j:=3) (by decide) Z EO Gd Z) ?_);exact Gt 11 Z h 0 [0,1]
def Mw(n:Nat)(a:Int):AB Unit:=some ()
theorem T8(n:Nat)(a:Int):Ks (Mw n a) 277 [I a] [] (λ_=>.int .u64 (NW .u64 (K5 .u64 (u64.wrap a) 1) (u64.wrap (H9 .i64 a 63)))):=by
 refine Kg 8 func277 Z Z Z Z λr h=>?_;refine vV (Y7 Z EN EL Z) (vV (AK.shl Z Z Z (by decide)) ?_);refine Go 1 Z (vV (AK.shr Z Z Z (by decide)) ?_);refine vV (Y7 Z EN EL Z) (vV (AK.xor Z Z Z) ?_);exact Gt 4 Z h 2 []
def Ib(n:Nat)(a:(AA Int)×Int):AB (AG ((AA Int)×Int) ((AA Int)×Int)):=(bif 128<=a.2 then(app a.1 [NE .u8 (u8.wrap a.2) 128]).bind λd=>some (.k (d,H9 .u64 a.2 7))else some (.d (a.1,a.2)))
def HR(n:Nat)(e:AA Int)(f:Int):AB (AA Int):=(iter (Ib n) n (e,f):AB ((AA Int)×Int)).bind λa=>(app a.1 [u8.wrap a.2]).bind λd=>some d
theorem Km(n:Nat)(g:AA Int)(m:Int):Kq (HR n g m) 276 [.osl 0 0 g.length 1,.int .u64 m] [.row 5 1 (map (Qc .u8) g)] (λr=>.osl 1 0 r.length 1) (λr=>[.dead,.row 5 1 (map (Qc .u8) r)]):=by
 refine Kg 6 func276 Z Z Z Z λr h=>Bd h λd q h=>Cg d [0,0] [] (λd=>[(0,.osl 1 0 d.1.length 1),(1,.int .u64 d.2)]) (λd=>[(0,.dead),(1,.row 5 1 (map (Qc .u8) d.1))]) Zf ?_ ?_
 .refine G0 1 Z (Lp [0,0] [] (λf=>[(0,.osl 1 0 f.1.length 1),(1,.int .u64 f.2)]) (λf=>[(0,.dead),(1,.row 5 1 (map (Qc .u8) f.1))]) q Zf ?_ ?_)
  .exact En (rN (s:=0) Z Z Z) (Lr [0,1])
  intro f t a p;refine G0 7 Z (Q5 Z a (λ_ a=>?_) (λ_ a=>?_))
  .exact Gc 2 Z (Qi a (Gx 1 Z (JC p a (Lr [0,1]))))
  refine Gc 7 Z (vV (Y7 Z EL E4 Z) ?_);refine vV (AK.or Z Z Z) (vH (Ek (xs:=[.tmp 12]) YU Z Z Z Z Z ⟨Z,trivial⟩ Z Z) ?_);refine FE Z (Bd a λu k a=>vH (Qh (e:=(Qc .u8)) k YU EK (QF (i:=2))) ?_);refine Fg 6 Z Z (vV (AK.shr Z Z Z (by decide)) ?_);exact Go 2 Z (Qg a (Lr [0,3]))
 refine Gc 4 Z ?_;refine vV (Y7 Z EL E4 Z) (vH (Ek (xs:=[.tmp 17]) YU Z Z Z Z Z ⟨Z,trivial⟩ Z Z) ?_);refine FE Z (Bd h λw l h=>vH (Qh (e:=(Qc .u8)) l YU EK (QF (i:=2))) ?_);exact FE Z (Gt 4 Z h 4 [0,3])
def ZM(n:Nat)(a:Value):AB (AA Int):=(app [] [1]).bind λd=>(Mw n a.N).bind λf=>(HR n d (NW .u64 (K5 .u64 (u64.wrap a.N) 1) (u64.wrap (H9 .i64 a.N 63)))).bind λe=>some e
theorem d9(n:Nat)(a:Value):Kq (ZM n a) 275 [.nils,.agg (Value.c a)] [] (λr=>.osl 0 0 r.length 1) (λr=>[.row 5 1 (map (Qc .u8) r)]):=by
 refine Kg 7 func275 Z Z Z Z λr h=>F8 5 2 [0,0,1,3,3] (by kernel_rfl) (Da 1 Z (DA.wo (x:=.rsl 1 (map (Qc .u8) [1])) ?_ ?_))
 .exact vH (Ym (xs:=[.const (.int .u8 1)]) YU Z Z Z Z Z ⟨Z,trivial⟩ Z Z) (FE Z Wp)
 obtain⟨g,d,h⟩:=YE h;refine KO (pd d YU EK JR) Z Z (Db 1 Z (DB.wo2 (Ld EH Z Wp) (Ld EH Z Wp) ?_));exact DB.done Z (Cz [] h (T8 _ _) Z λi e h=>Cd [1] h (Km _ _ _) Z λj f h=>FE Z (Gt 4 Z h 4 [2]))
def I3(n:Nat)(d:AA Int)(a:Value):AB (AA Int):=(app d [1]).bind λe=>(Mw n a.N).bind λg=>(HR n e (NW .u64 (K5 .u64 (u64.wrap a.N) 1) (u64.wrap (H9 .i64 a.N 63)))).bind λf=>some f
theorem UP(n:Nat)(a:AA Int)(d:Value):Kq (I3 n a d) 275 [.osl 0 0 a.length 1,.agg (Value.c d)] [.row 5 1 (map (Qc .u8) a)] (λr=>.osl 1 0 r.length 1) (λr=>[.dead,.row 5 1 (map (Qc .u8) r)]):=by
 refine Kg 7 func275 Z Z Z Z λr h=>F8 5 2 [0,0,1,3,3] (by kernel_rfl) (Da 1 Z (DA.wo (x:=.rsl 1 (map (Qc .u8) [1])) ?_ ?_))
 .exact vH (Ym (xs:=[.const (.int .u8 1)]) YU Z Z Z Z Z ⟨Z,trivial⟩ Z Z) (FE Z Wp)
 obtain⟨i,e,h⟩:=YE h;refine KO (Qh e YU EK JR) Z Z (Db 1 Z (DB.wo2 (Ld EH Z Wp) (Ld EH Z Wp) ?_));exact DB.done Z (Cz [] h (T8 _ _) Z λj f h=>Cd [2] h (Km _ _ _) Z λk g h=>FE Z (Gt 4 Z h 4 [0,3]))
def mO(n:Nat)(e:Value)(rec150:(AA Int)->Value->AB (AA Int))(a:(AA Int)×Int):AB (AG ((AA Int)×Int) (AA Int)):=(bif a.2<(e.L.length:Int) then(AJ e.L a.2).bind λd=>(bif (d.Kind==0)then none else(bif (d.Kind==1)then(I3 n a.1 d).bind λf=>some (.k (f,i64.wrap (a.2+1)))else(bif (d.Kind==2)then none else(bif (d.Kind==3)then(rec150 a.1 d).bind λg=>some (.k (g,i64.wrap (a.2+1)))else none))))else some (.d a.1))
def Zy(rec150:(AA Int)->Value->AB (AA Int))(n:Nat)(e:AA Int)(a:Value):AB (AA Int):=(app e [3]).bind λf=>(HR n f (u64.wrap (a.L.length:Int))).bind λg=>(iter (mO n a rec150) n (g,0):AB (AA Int)).bind λd=>some d
theorem QaY(rec150:(AA Int)->Value->AB (AA Int))(m:∀(l:AA Int) (d:Value) (r:AA Int),rec150 l d=some r->C prog 279 [.osl 0 0 l.length 1,.agg (Value.c d),.ptr 1 0] [.row 5 1 (map (Qc .u8) l),.cells 356 [.ptr 2 0],.cells 378 [.nilf,.fn (.func 275) [] [],.fn (.func 278) [] [],.fn (.func 279) [] [.ptr 1 0]]] (RQ (λr=>.osl 3 0 r.length 1) (λr=>[.dead,.cells 356 [.ptr 2 0],.cells 378 [.nilf,.fn (.func 275) [] [],.fn (.func 278) [] [],.fn (.func 279) [] [.ptr 1 0]],.row 5 1 (map (Qc .u8) r)]) r))(n:Nat)(l:AA Int)(d:Value)(r:AA Int)(h:Zy rec150 n l d=some r):C prog 279 [.osl 0 0 l.length 1,.agg (Value.c d),.ptr 1 0] [.row 5 1 (map (Qc .u8) l),.cells 356 [.ptr 2 0],.cells 378 [.nilf,.fn (.func 275) [] [],.fn (.func 278) [] [],.fn (.func 279) [] [.ptr 1 0]]] (RQ (λr=>.osl 3 0 r.length 1) (λr=>[.dead,.cells 356 [.ptr 2 0],.cells 378 [.nilf,.fn (.func 275) [] [],.fn (.func 278) [] [],.fn (.func 279) [] [.ptr 1 0]],.row 5 1 (map (Qc .u8) r)]) r):=by
 refine QG func279 Z Z Z ?_;refine G0 7 Z (F8 7 2 [0,0,1,3,3,3,3] (by kernel_rfl) (Da 1 Z ?_));refine DA.wo (x:=.rsl 1 (map (Qc .u8) [3])) ?_ ?_
 .refine vH (Ym (xs:=[.const (.int .u8 3)]) (es:=map (Qc .u8) [3]) YU Z Z Z Z Z ⟨Z,trivial⟩ Z Z) ?_;exact FE Z Wp
 obtain⟨O,B,h⟩:=YE h;refine KO (Qh (e:=(Qc .u8)) B YU EK JR) Z Z (Db 1 Z ?_);refine DB.wo2 (x:=.rsl 4 (map Value.enc d.L)) (Ld isAgg294 Z Wp) (Ld isAgg294 Z Wp) ?_;refine DB.wo2 (x:=I (d.L.length:Int)) (TB EZ Z Wp) (TB EZ Z Wp) ?_;refine DB.wo2 (x:=.int .u64 (u64.wrap (d.L.length:Int))) ?_ ?_ ?_
 iterate 2 refine vX (.int .u64 (u64.wrap (d.L.length:Int))) (Y7 Z EN EL Z) ?_;exact Wp
 refine DB.done Z (Cd [4] h (Km _ _ _) Z λP H h=>Fg 8 Z Z (Lg 3 Z Z (Bd h λf E h=>Cg f [0,1,2,3] [] (λf=>[(0,.osl 3 0 f.length 1)]) (λf=>[(3,.row 5 1 (map (Qc .u8) f))]) Zf ?_ ?_)))
 .refine G0 1 Z (Lp [0,1,2,5] [2,17,18] (λg=>[(0,.osl 3 0 g.1.length 1),(19,I g.2)]) (λg=>[(3,.row 5 1 (map (Qc .u8) g.1))]) E Zf (Lr [0,1,2,5]) λg J a t=>?_);refine G0 6 Z (Q5 Z a (λ_ a=>?_) (λ_ a=>?_))
  .exact Gc 2 Z (Qi a (Gx 1 Z (JC t a (Lr [0,1,2,3]))))
  refine Gc 6 Z (Bd a λp w a=>CQ w (Jb p) Z (Go 5 Z (Bj 9 Z (D 4 Z (If a (λ_ a=>?_) (λ_ a=>?_))))))
  .cases a
  .refine If a (λq a=>?_) (λq a=>?_)
   .refine DS.v (x:=(.ptr 2 1)) (Ye (i:=p.Kind) (n:=4) (k:=1) (j:=1) q Z EO Gd Z) ?_;exact D 4 Z (Eg Z (Cd [3] a (UP _ _ _) Z λM F a=>Fg 8 Z Z (Qg a (Lr [0,1,2,5]))))
   .refine If a (λ_ a=>?_) (λ_ a=>?_)
    .cases a
    .refine If a (λs a=>?_) (λs a=>?_)
     .refine DS.v (x:=(.ptr 2 3)) (Ye (i:=p.Kind) (n:=4) (k:=1) (j:=3) s Z EO Gd Z) ?_;exact D 4 Z (Eg Z (Cd [3,1,2] a (m _ _) Z λN G a=>Fg 8 Z Z (Qg a (Lr [0,1,2,5]))))
     .cases a
 exact QJ 7 Z h 5 [0,1,2,3]
def SI:Nat->(AA Int)->Value->AB (AA Int)
  |0=>λ_ _=>none
  |n+1=>Zy (SI n) n
theorem iz(n:Nat):∀(a:AA Int) (d:Value) (r:AA Int),SI n a d=some r->C prog 279 [.osl 0 0 a.length 1,.agg (Value.c d),.ptr 1 0] [.row 5 1 (map (Qc .u8) a),.cells 356 [.ptr 2 0],.cells 378 [.nilf,.fn (.func 275) [] [],.fn (.func 278) [] [],.fn (.func 279) [] [.ptr 1 0]]] (RQ (λr=>.osl 3 0 r.length 1) (λr=>[.dead,.cells 356 [.ptr 2 0],.cells 378 [.nilf,.fn (.func 275) [] [],.fn (.func 278) [] [],.fn (.func 279) [] [.ptr 1 0]],.row 5 1 (map (Qc .u8) r)]) r):=by
  induction n with
  |zero=>intro a d r h;cases h
  |succ n ih=>intro a d r h;exact QaY _ ih n a d r h
def Lu(n:Nat)(e:Value)(a:(AA Int)×Int):AB (AG ((AA Int)×Int) (AA Int)):=(bif a.2<(e.L.length:Int) then(AJ e.L a.2).bind λd=>(bif (d.Kind==0)then none else(bif (d.Kind==1)then(I3 n a.1 d).bind λf=>some (.k (f,i64.wrap (a.2+1)))else(bif (d.Kind==2)then none else(bif (d.Kind==3)then(SI n a.1 d).bind λg=>some (.k (g,i64.wrap (a.2+1)))else none))))else some (.d a.1))
def MM(n:Nat)(a:Value):AB (AA Int):=(app [] [3]).bind λe=>(HR n e (u64.wrap (a.L.length:Int))).bind λf=>(iter (Lu n a) n (f,0):AB (AA Int)).bind λd=>some d
theorem iG(n:Nat)(g:Value):Kq (MM n g) 279 [.nils,.agg (Value.c g),.ptr 0 0] [.cells 356 [.ptr 1 0],.cells 378 [.nilf,.fn (.func 275) [] [],.fn (.func 278) [] [],.fn (.func 279) [] [.ptr 0 0]]] (λr=>.osl 2 0 r.length 1) (λr=>[.cells 356 [.ptr 1 0],.cells 378 [.nilf,.fn (.func 275) [] [],.fn (.func 278) [] [],.fn (.func 279) [] [.ptr 0 0]],.row 5 1 (map (Qc .u8) r)]):=by
 refine Kg 7 func279 Z Z Z Z λr h=>F8 7 2 [0,0,1,3,3,3,3] (by kernel_rfl) (Da 1 Z ?_);refine DA.wo (x:=.rsl 1 (map (Qc .u8) [3])) ?_ ?_
 .refine vH (Ym (xs:=[.const (.int .u8 3)]) (es:=map (Qc .u8) [3]) YU Z Z Z Z Z ⟨Z,trivial⟩ Z Z) ?_;exact FE Z Wp
 obtain⟨M,y,h⟩:=YE h;refine KO (pd (e:=(Qc .u8)) y YU EK JR) Z Z (Db 1 Z ?_);refine DB.wo2 (x:=.rsl 4 (map Value.enc g.L)) (Ld isAgg294 Z Wp) (Ld isAgg294 Z Wp) ?_;refine DB.wo2 (x:=I (g.L.length:Int)) (TB EZ Z Wp) (TB EZ Z Wp) ?_;refine DB.wo2 (x:=.int .u64 (u64.wrap (g.L.length:Int))) ?_ ?_ ?_
 iterate 2 refine vX (.int .u64 (u64.wrap (g.L.length:Int))) (Y7 Z EN EL Z) ?_;exact Wp
 refine DB.done Z (Cd [3] h (Km _ _ _) Z λN F h=>Fg 8 Z Z (Lg 3 Z Z (Bd h λd z h=>Cg d [0,1,2] [] (λd=>[(0,.osl 2 0 d.length 1)]) (λd=>[(2,.row 5 1 (map (Qc .u8) d))]) Zf ?_ ?_)))
 .refine G0 1 Z (Lp [0,1,4] [2,17,18] (λf=>[(0,.osl 2 0 f.1.length 1),(19,I f.2)]) (λf=>[(2,.row 5 1 (map (Qc .u8) f.1))]) z Zf (Lr [0,1,4]) λf G a q=>?_);refine G0 6 Z (Q5 Z a (λ_ a=>?_) (λ_ a=>?_))
  .exact Gc 2 Z (Qi a (Gx 1 Z (JC q a (Lr [0,1,2]))))
  refine Gc 6 Z (Bd a λl t a=>CQ t (Jb l) Z (Go 5 Z (Bj 9 Z (D 4 Z (If a (λ_ a=>?_) (λ_ a=>?_))))))
  .cases a
  .refine If a (λm a=>?_) (λm a=>?_)
   .refine DS.v (x:=(.ptr 1 1)) (Ye (i:=l.Kind) (n:=4) (k:=1) (j:=1) m Z EO Gd Z) ?_;exact D 4 Z (Eg Z (Cd [2] a (UP _ _ _) Z λH B a=>Fg 8 Z Z (Qg a (Lr [0,1,4]))))
   .refine If a (λ_ a=>?_) (λ_ a=>?_)
    .cases a
    .refine If a (λp a=>?_) (λp a=>?_)
     .refine DS.v (x:=(.ptr 1 3)) (Ye (i:=l.Kind) (n:=4) (k:=1) (j:=3) p Z EO Gd Z) ?_;exact D 4 Z (Eg Z (Cd [2,0,1] a (iz _ _ _) Z λJ E a=>Fg 8 Z Z (Qg a (Lr [0,1,4]))))
     .cases a
 exact QJ 7 Z h 5 [0,1,2]
def ZW(n:Nat)(a:Value):AB ((AA Int)×Int):=(Zj n a).bind λd=>(bif (d != 0)then some ([],d)else(Zm n).bind λg=>(bif (a.Kind==0)then none else(bif (a.Kind==1)then(ZM n a).bind λe=>some (e,0)else(bif (a.Kind==2)then none else(bif (a.Kind==3)then(MM n a).bind λf=>some (f,0)else none)))))
theorem eJ(n:Nat)(a:Value):Kq (ZW n a) 192 [.agg (Value.c a)] [] (λr=>.tup [.osl 0 0 r.1.length 1,I r.2]) (λr=>[.row 5 1 (map (Qc .u8) r.1)]):=by
 refine Kg 11 func192 Z Z Z Z λr h=>Cz [] h (eW _ _) Z λw p h=>Go 9 Z (Cn Z h (λ_ h=>?_) (λ_ h=>?_))
 .refine Gc 9 Z ?_;obtain rfl:=Oi h;refine R2 2 3 Z Z ?_;refine En (Ep (s:=2) (k:=1) (t:=5) (XP Z) Z) ?_;exact Lr [1]
 refine Gc 3 Z (F8 8 0 [1,3,3,2,2,2,2,3] (by kernel_rfl) ?_);obtain⟨y,g,h⟩:=YE h;refine DA.op (x:=.ptr 1 0) (H1:=[.cells 296 (Value.c a),.cells 378 [.nilf,.fn (.func 275) [] [],.fn (.func 278) [] [],.fn (.func 279) [] [.ptr 2 0]],.cells 356 [.ptr 1 0]]) ?_ ?_
 .refine QC [] (Bh.fn call254 Z Z Z) (eZ _ _ g) ?_;rintro _ _ ⟨rfl,rfl⟩;exact FE Z Wp
 refine Db 1 Z ?_;refine DB.wo2 (x:=I a.Kind) (Ld EH Z Wp) (Ld EH Z Wp) ?_;refine Db 1 Z (If h (λ_ h=>?_) (λ_ h=>?_))
 .cases h
 .refine If h (λd h=>?_) (λd h=>?_)
  .refine DB.wo1 (x:=.ptr 1 1) ?_ ?_
   .refine vX (.ptr 1 1) (Ye (i:=a.Kind) (n:=4) (k:=1) (j:=1) d Z EO Gd Z) ?_;exact Wp
   refine Db 2 Z ?_;refine DB.wo2 (x:=.agg (Value.c a)) ?_ ?_ ?_
   iterate 2 refine vX (.agg (Value.c a)) (Qv Z GF Gz Z (BD.cells Z Z) Z Z) ?_;exact Wp
   refine DB.done Z (Cd [] h (d9 _ _) Z λz q h=>Fg 5 Z Z ?_);obtain rfl:=Oi h;exact R2 2 3 Z Z (Lr [3])
  .refine If h (λ_ h=>?_) (λ_ h=>?_)
   .cases h
   .refine If h (λe h=>?_) (λe h=>?_)
    .refine DB.wo1 (x:=.ptr 1 3) ?_ ?_
     .refine vX (.ptr 1 3) (Ye (i:=a.Kind) (n:=4) (k:=1) (j:=3) e Z EO Gd Z) ?_;exact Wp
     refine Db 2 Z ?_;refine DB.wo2 (x:=.agg (Value.c a)) ?_ ?_ ?_
     iterate 2 refine vX (.agg (Value.c a)) (Qv Z GF Gz Z (BD.cells Z Z) Z Z) ?_;exact Wp
     refine DB.done Z (Cd [2,1] h (iG _ _) Z λB u h=>Fg 5 Z Z ?_);obtain rfl:=Oi h;exact R2 2 3 Z Z (Lr [3])
    .cases h
def PU(n:Nat)(d:(AA Int)×Bool)(a:(AA Value)×Int):AB (AG ((AA Value)×Int) (AA Value)):=(bif a.2<(d.1.length:Int) then(AJ d.1 a.2).bind λe=>(app a.1 [{Kind:=1,N:=e,S:=[],L:=[]:Value}]).bind λf=>some (.k (f,i64.wrap (a.2+1)))else some (.d a.1))
def Mv(n:Nat)(f:AC):AB ((AA Int)×Int):=(Mz n f).bind λd=>(bif (!d.2)then some ([],120)else(iter (PU n d) n ([],0):AB (AA Value)).bind λe=>(ZW n ({Kind:=3,N:=0,S:=[],L:=e:Value})).bind λa=>some (a.1,a.2))
theorem T7(n:Nat)(q:AC):Kq (Mv n q) 136 [.agg (AC.c q)] [] (λr=>.tup [.osl 0 0 r.1.length 1,I r.2]) (λr=>[.row 5 1 (map (Qc .u8) r.1)]):=by
 refine Kg 10 func136 Z Z Z Z λr h=>Cd [] h (T_ _ _) Z λG y h=>Fg 14 Z Z (Cn Z h (λ_ h=>?_) (λ_ h=>?_))
 .refine Gc 8 Z ?_;obtain rfl:=Oi h;refine R2 2 3 Z Z ?_;refine En (Ep (s:=2) (k:=1) (t:=5) (XP Z) Z) ?_;exact Lr [2]
 refine Gc 4 Z ?_;refine vV (AK.build (zs:=[I 0,I 0,.str [],.nils]) GE (Ds Z) nq) ?_;refine Fg 11 Z Z (Bd h λf w h=>Cg f [0,1] [] (λ_=>[(6,.ptr 0 0)]) (λf=>[(0,.cells 296 [I 3,I 0,.str [],.osl 1 0 f.length 4]),(1,.row 296 4 (map Value.enc f))]) Zf ?_ ?_)
 .refine G0 1 Z (Lp [2,0,1] [6,17,18] (λd=>[(19,I d.2)]) (λd=>[(0,.cells 296 [I 3,I 0,.str [],.osl 1 0 d.1.length 4]),(1,.row 296 4 (map Value.enc d.1))]) w Zf ?_ ?_)
  .refine En (YY (i:=2) (m:=3) (t:=296) (k:=4) Z Z Z) ?_;exact Lr [2,3,1]
  intro d z a j;refine G0 6 Z (Q5 Z a (λ_ a=>?_) (λ_ a=>?_))
  .exact Gc 2 Z (Qi a (Gx 1 Z (JC j a (Lr [0,1]))))
  refine Gc 6 Z (Bd a λB g a=>?_);refine vV (Qn g Z EB EG) ?_;refine vV (Ez Z EH Z (Qj g)) ?_;refine Go 8 Z (vH (Ek (xs:=[.tmp 26]) aX Z Z Z Z Z ⟨Z,trivial⟩ Z Z) ?_);refine FE Z (Bd a λE p a=>vH (Qh (e:=Value.enc) p aX EZ (QF (i:=3))) ?_);exact Fg 9 Z Z (Qg a (Lr [0,4,2]))
 refine Gc 3 Z ?_;refine QB (Ji [(31,_)] Z Z (Aw.cons Z (BP.agg (Ed (Ee _) (Ed (Ee _) (Ed (Ee _) (Ed Eo (Ej _)))))) Aw.nil) (CE.cells (Ed (Ee _) (Ed (Ee _) (Ed (Ee _) (Ed Eo (Ej _))))) (Ec (YL _)))) ?_;refine Cd [] h (eJ _ _) Z λF x h=>Fg 7 Z Z ?_;obtain rfl:=Oi h;exact R2 2 3 Z Z (Lr [2])
def ZX(n:Nat)(a:AA Int)(d:AA Int):AB Unit:=some ()
theorem eK(n:Nat)(a:AA Int)(d:AA Int):Ks (ZX n a d) 137 [.rsl 1 (map (Qc .u8) a),.rsl 1 (map (Qc .u8) d)] [] (λ_=>I (cmpB a d)):=by
 refine Kg 9 func137 Z Z Z Z λr h=>(vV (AK.cmpB func193 (by kernel_rfl) (by kernel_rfl) (by kernel_rfl) (by kernel_rfl) FX.rsl FX.rsl) ?_);exact Gt 4 Z h 4 []
def HN(n:Nat)(a:AC)(d:AC):AB Int:=(Nw n a.At d.At).bind λh=>(Nw n a.Crew d.Crew).bind λi=>(Nw n a.No d.No).bind λj=>(RT n [h,i,j]).bind λe=>(bif (e != 0)then some e else(Mv n a).bind λf=>(Mv n d).bind λg=>(ZX n f.1 g.1).bind λk=>some (cmpB f.1 g.1))
theorem N7(n:Nat)(a:AC)(d:AC):Ks (HN n a d) 61 [.agg (AC.c a),.agg (AC.c d)] [] (λr=>I r):=by
 refine Kg 9 func61 Z Z Z Z λr h=>Bj 14 Z (D 4 Z (Dz [] h (T3 _ _ _) Z λp f h=>D 4 Z ?_));refine Dz [] h (T3 _ _ _) Z λq g h=>D 4 Z (Eg Z (Cz [] h (T3 _ _ _) Z λs i h=>(vH (Ym (xs:=[.tmp 14,.tmp 19,.tmp 24]) Qs Z Z Z Z Z ⟨Z,Z,Z,trivial⟩ Z Z) ?_)));refine FE Z (Cz [] h (fk _ _) Z λt j h=>Go 9 Z (Cn Z h (λ_ h=>?_) (λ_ h=>?_)))
 .exact QJ 8 Z h 4 []
 exact Gc 5 Z (Cd [] h (T7 _ _) Z λu k h=>Fg 10 Z Z (Cd [] h (T7 _ _) Z λw l h=>Fg 11 Z Z (Cb h (eK _ _ _) Z (lo (lo ln)) λx m h=>Gt 4 Z h 4 [])))
def M3(n:Nat)(a:AC)(d:AC):AB Bool:=(HN n a d).bind λe=>some (e==0)
theorem UG(n:Nat)(a:AC)(d:AC):Ks (M3 n a d) 218 [.agg (AC.c a),.agg (AC.c d),.ptr 0 0] [.cells 156 [.fn (.func 61) [] []]] (λr=>.bool r):=by
 exact Kg 12 func218 Z Z Z Z λr h=>Cz [] h (N7 _ _ _) Z λf e h=>Gt 5 Z h 5 [0]
def Ig(n:Nat)(f:AA AC)(d:Int)(a:(AA AC)×Int×Int):AB (AG ((AA AC)×Int×Int) ((AA AC)×Int)):=(bif a.2.2<((toNat (f.length:Int)-toNat d:Nat):Int) then(K7 a.1 d (f.length:Int) a.2.2).bind λg=>(K7 a.1 d (f.length:Int) (i64.wrap (a.2.2-1))).bind λh=>(M3 n g h).bind λi=>((bif (!i)then(K7 a.1 d (f.length:Int) a.2.2).bind λj=>(AJ a.1 a.2.1).bind λl=>(D1 a.1 a.2.1 j).bind λk=>some (k,i64.wrap (a.2.1+1))else some (a.1,a.2.1)):AB ((AA AC)×Int)).bind λe=>some (.k (e.1,e.2,i64.wrap (a.2.2+1)))else some (.d (a.1,a.2.1)))
def IY(n:Nat)(d:AA AC)(a:Int):AB (AG Int (AG Unit (AA AC))):=(bif a<(d.length:Int) then(AJ d a).bind λf=>(AJ d (i64.wrap (a-1))).bind λg=>(M3 n f g).bind λh=>(bif h then(CU d a (d.length:Int)).bind λj=>(iter (Ig n d a) n (d,a,1):AB ((AA AC)×Int)).bind λe=>(CU e.1 0 e.2).bind λi=>some (.d (.d i))else some (.k (i64.wrap (a+1))))else some (.d (.k ())))
def R7(n:Nat)(d:AA AC):AB (AA AC):=(bif (d.length:Int)<2 then some d else(iter (IY n d) n 1:AB (AG Unit (AA AC))).bind λe=>match e with|.k a=>(some d)|.d a=>some a)
theorem gW(n:Nat)(q:AA AC):Kq (R7 n q) 217 [.osl 0 0 q.length 57,.fn (.func 218) [] [.ptr 1 0]] [.row 72 57 (map AC.c q),.cells 156 [.fn (.func 61) [] []]] (λr=>.osl 0 0 r.length 57) (λr=>[.row 72 57 (map AC.c r),.cells 156 [.fn (.func 61) [] []]]):=by
 refine Kg 13 func217 Z Z Z Z λr h=>Cn Z h (λ_ h=>?_) (λ_ h=>?_)
 .exact QJ 8 Z h 4 [0,1]
 refine Gc 8 Z (Bd h λR T h=>BZ (b:=R) [0,1] [0] Ze Ze Zf ?_ (λ_ ae=>?_))
 .refine G0 1 Z (Lp [0,1] [0,1] (λg=>[(5,I g)]) Ze T Zf (Lr [0,1]) λg aj a w=>?_);refine G0 9 Z (Q5 Z a (λ_ a=>?_) (λ_ a=>?_))
  .exact Gc 2 Z (Qi a (Gx 1 Z (JD w a Z (Lr [0,1]))))
  refine Gc 5 Z (Bj 10 Z (D 3 Z ?_));obtain⟨V,y,a⟩:=YE a;refine DS.v (x:=(.ptr 0 (toNat g*57))) (Qn y Z EC EF) ?_;refine DS.v (x:=(.agg (AC.c V))) (Qv Z E5 EF Z (Qj y) Z Z) ?_;refine D 3 Z ?_;obtain⟨W,z,a⟩:=YE a;refine DS.v (x:=(.ptr 0 (toNat (i64.wrap (g-1))*57))) (Qn z Z EC EF) ?_;refine DS.v (x:=(.agg (AC.c W))) (Qv Z E5 EF Z (Qj z) Z Z) ?_;refine Eg Z (Cz [1] a (UG _ _ _) Z λak ah a=>Go 2 Z (Cn Z a (λ_ a=>?_) (λ_ a=>?_)))
  .refine Gc 4 Z (Bd a λal N a=>?_);refine vX (.osl 0 (0+toNat g) (toNat (q.length:Int)-toNat g) 57) (Yf (l:=q) N EC EF (.inr ⟨_,Z,Z⟩) (.inl ⟨Z,Z⟩)) ?_;refine Go 9 Z (Bd a λj X a=>Cg j [0,1] [] (λj=>[(0,.osl 0 0 j.1.length 57),(5,I j.2)]) (λj=>[(0,.row 72 57 (map AC.c j.1))]) Zf ?_ ?_)
   .refine G0 1 Z (Lp [0,1] [1,6] (λi=>[(0,.osl 0 0 i.1.length 57),(5,I i.2.1),(7,I i.2.2)]) (λi=>[(0,.row 72 57 (map AC.c i.1))]) X Zf (Lr [0,1]) λi am d O=>?_);refine G0 5 Z ?_;refine vX (I ((toNat (q.length:Int)-toNat g:Nat):Int)) (pf Z Z EC Z) ?_;refine Go 3 Z (Q5 Z d (λ_ d=>?_) (λ_ d=>?_))
    .exact Gc 2 Z (Qi d (Gx 1 Z (JC O d (Lr [0,1]))))
    refine Gc 5 Z (Bj 10 Z (D 3 Z ?_));obtain⟨Y,B,d⟩:=YE d;refine DS.v (x:=(.ptr 0 (toNat (g+i.2.2)*57))) (kX (l:=i.1) (lo:=g) (hi:=(q.length:Int)) B EC EF) ?_;refine DS.v (x:=(.agg (AC.c Y))) (Qv Z E5 EF Z (Qj (jp B)) Z Z) ?_;refine D 3 Z ?_;obtain⟨aa,E,d⟩:=YE d;refine DS.v (x:=(.ptr 0 (toNat (g+i64.wrap (i.2.2-1))*57))) (kX (l:=i.1) (lo:=g) (hi:=(q.length:Int)) E EC EF) ?_;refine DS.v (x:=(.agg (AC.c aa))) (Qv Z E5 EF Z (Qj (jp E)) Z Z) ?_;refine Eg Z (Cz [1] d (UG _ _ _) Z λan ai d=>Go 3 Z (Bd d λp m d=>Ct p [0,1] [1,6,7] (λp=>[(0,.osl 0 0 p.1.length 57),(5,I p.2)]) (λp=>[(0,.row 72 57 (map AC.c p.1))]) Zf ?_ (λenv H af=>?_)))
    .refine G0 0 Z (Cn Z m (λ_ m=>?_) (λ_ m=>?_))
     .refine Gc 6 Z (Bd m λab F m=>?_);refine vX (.ptr 0 (toNat (g+i.2.2)*57)) (kX (l:=i.1) (lo:=g) (hi:=(q.length:Int)) F EC EF) ?_;refine vX (.agg (AC.c ab)) (Qv Z E5 EF Z (Qj (jp F)) Z Z) ?_;refine Bd m λao G m=>?_;refine vX (.ptr 0 (toNat i.2.1*57)) (Qn G Z EC EF) ?_;refine Bd m λaq t m=>?_;refine vU (JG (e:=AC.c) (k:=57) (f:=0) G t EF Z Z) ?_;refine FE Z ?_;refine QB (QO (s:=0) Z (congrArg (λn=>A.osl 0 0 n 57) (Yh t))) ?_;refine QB (QO (s:=50) Z (congrArg (λn=>A.osl 0 0 n 57) (Yh t))) ?_;exact Gl 7 Z m [0,1]
     exact YM 1 Z m [0,1]
    exact Gx 2 Z (Qd af (Gc 5 Z (Qg d (Lr [0,1]))))
   refine Gc 4 Z (Bd a λJ u a=>?_);refine vX (.osl 0 (0+toNat j.2) (j.1.length-toNat j.2) 57) (zP (l:=j.1) u EC EF) ?_;refine vN (yV (e:=AC.c) (l:=j.1) u underlying34 GC Z (by simp[Qz,Go.Value.cells])) ?_;refine Ng (H:=[.row 72 57 (map AC.c J),.cells 156 [.fn (.func 61) [] []]]) Z ?_;refine Go 6 Z ?_;refine vX (.osl 0 0 J.length 57) (zO (l:=j.1) u EC EF) ?_;refine Go 6 Z (Qx a ?_);obtain rfl:=Oj w a;exact Gx 1 Z (Qq (Gx 1 Z (Rt h 4 [0,1])))
  exact Gc 8 Z (Qg a (Lr [0,1]))
 subst ae;exact QJ 7 Z h 4 [0,1]
def MC(n:Nat)(a:AA AC):AB (AA AC):=(P' n a).bind λd=>(IE (λx y=>HN n x y) d).bind λe=>(R7 n e).bind λf=>some f
theorem hS(n:Nat)(d:AA AC):Kq (MC n d) 173 [.rsl 57 (map AC.c d),.fn (.func 61) [] []] [] (λr=>.osl 0 0 r.length 57) (λr=>[.row 72 57 (map AC.c r)]):=by
 refine Kg 9 func173 Z Z Z Z λr h=>Cd [] h (fM _ _) Z λg e h=>Fg 7 Z Z (Bd h λi a h=>(QC [1] (Bh.fn call216 Z Z Z) (uC Qg6 a (λx y c h=>N7 n x y c h) E5 EF call61 Zf Z) ?_));rintro _ _ ⟨rfl,rfl⟩;refine QB (QO (s:=0) Z (congrArg (λn=>A.osl 1 0 n 57) (cI a))) ?_;exact Go 6 Z (Cd [1,0] h (gW _ _) Z λj f h=>FE Z (Gt 4 Z h 4 [1]))
def P_(n:Nat)(a:AA Ue):AB (AA Ue):=isNil a (some []) ((app ([]:AA Ue) a).bind λd=>some d)
theorem fL(n:Nat)(a:AA Ue):Kq (P_ n a) 219 [.rsl 1 (map Ue.ptr a)] [] (λr=>.osl 0 0 r.length 1) (λr=>[.row 222 1 (map Ue.ptr r)]):=by
 refine Kg 9 func219 Z Z Z Z λr h=>(pQ underlying220 Z (λb1 d=>?_));have hkb1:=qJ h b1 d;cases b1
 .have h:=hkb1.2 Z;refine Go 7 Z (vH (Ek (xs:=[]) aW Z Z Z Z Z trivial Z Z) ?_);refine Fg 1 Z Z (Bd h λf e h=>vH (Qh e aW EV JR) ?_);exact FE Z (Gt 4 Z h 2 [1])
 .have h:=hkb1.1 Z;refine Go 10 Z ?_;obtain rfl:=Oi h;refine R1 2 Z ?_;exact En (Ep (s:=2) (t:=222) (XP Z) Z) (Lr [0])
def Iy(n:Nat)(a:Ue)(d:Ue):AB Int:=(Nw n a.number d.number).bind λe=>some e
theorem UL(n:Nat)(a:Ue)(d:Ue):Ks (Iy n a d) 175 [.rp (Ue.c a),.rp (Ue.c d)] [] (λr=>I r):=by
 refine Kg 6 func175 Z Z Z Z λr h=>Bj 8 Z (D 2 Z (DS.wo (x:=.rp [I a.number,.rsl 57 (map AC.c a.r0),.rsl 57 (map AC.c a.r1),.rsl 57 (map AC.c a.r2),.rsl 4 (map Report.c a.reports),.bool a.appeal]) ?_ ?_))
 .exact Fr pA Z Wp
 refine D 3 Z (DS.wo (x:=.rp [I d.number,.rsl 57 (map AC.c d.r0),.rsl 57 (map AC.c d.r1),.rsl 57 (map AC.c d.r2),.rsl 4 (map Report.c d.reports),.bool d.appeal]) ?_ ?_)
 .exact Fr pA Z Wp
 exact D 1 Z (Eg Z (Cz [] h (T3 _ _ _) Z λf e h=>Gt 4 Z h 4 []))
def I8(n:Nat)(a:Ue)(d:Ue):AB Bool:=(Iy n a d).bind λe=>some (e==0)
theorem UU(n:Nat)(a:Ue)(d:Ue):Ks (I8 n a d) 222 [.rp (Ue.c a),.rp (Ue.c d),.ptr 0 0] [.cells 272 [.fn (.func 175) [] []]] (λr=>.bool r):=by
 exact Kg 10 func222 Z Z Z Z λr h=>Cz [] h (UL _ _ _) Z λf e h=>Gt 5 Z h 5 [0]
def mK(n:Nat)(d:AA Ue)(a:Int):AB (AG Int Unit):=(bif a<(d.length:Int) then(AJ d a).bind λe=>(AJ d (i64.wrap (a-1))).bind λf=>(I8 n e f).bind λg=>((bif (!g)then none else some ()):AB Unit).bind λh=>some (.k (i64.wrap (a+1)))else some (.d ()))
def Pf(n:Nat)(d:AA Ue)(a:Int):AB (AG Int Unit):=(bif a<(d.length:Int) then(AJ d a).bind λe=>(AJ d (i64.wrap (a-1))).bind λf=>(I8 n e f).bind λg=>(bif g then(CU d a (d.length:Int)).bind λh=>(iter (mK n h) n 1:AB Unit).bind λi=>none else some (.k (i64.wrap (a+1))))else some (.d ()))
def Ml(n:Nat)(a:AA Ue):AB Unit:=(bif (a.length:Int)<2 then some ()else(iter (Pf n a) n 1:AB Unit).bind λd=>some ())
theorem ii(n:Nat)(y:AA Ue):Ks (Ml n y) 221 [.rsl 1 (map Ue.ptr y),.fn (.func 222) [] [.ptr 0 0]] [.cells 272 [.fn (.func 175) [] []]] (λ_=>.rsl 1 (map Ue.ptr y)):=by
 refine Kg 9 func221 Z Z Z Z λr h=>Lg 3 Z Z (Cn Z h (λ_ h=>?_) (λ_ h=>?_))
 .exact QJ 8 Z h 4 [0]
 refine Gc 8 Z (Bd h λz B h=>Cg z [0] [0] Ze Ze Zf ?_ ?_)
 .refine G0 1 Z (Lp [0] [0,1] (λf=>[(5,I f)]) Ze B Zf (Lr [0]) λf V a i=>?_);refine G0 5 Z (Lg 3 Z Z (Q5 Z a (λ_ a=>?_) (λ_ a=>?_)))
  .exact Gc 2 Z (Qi a (Gx 1 Z (JC i a (Lr [0]))))
  refine Gc 5 Z (Bj 10 Z (D 3 Z ?_));obtain⟨E,k,a⟩:=YE a;refine DS.wo (x:=.rp [.rp (Ue.c E)]) ?_ ?_
  .exact Ix k EV GA Z Wp
  refine D 4 Z ?_;obtain⟨F,l,a⟩:=YE a;refine DS.wo (x:=.rp [.rp (Ue.c F)]) ?_ ?_
  .exact Ix l EV GA Z Wp
  refine D 1 Z (Eg Z (Cz [0] a (UU _ _ _) Z λW R a=>Go 2 Z (Cn Z a (λ_ a=>?_) (λ_ a=>?_))))
  .refine Gc 4 Z (Bd a λG p a=>?_);refine vX (.rsl 1 (map Ue.ptr G)) (vC p EV GA (.inr ⟨_,Z,Z⟩) (.inl ⟨Z,Z⟩)) ?_;refine Go 9 Z (Bd a λJ L a=>Cg J [0] [0,5] Ze Ze Zf ?_ ?_)
   .refine G0 1 Z (Lp [0] [0,1,5,6] (λg=>[(7,I g)]) Ze L Zf (Lr [0]) λg X d q=>?_);refine G0 5 Z (Lg 3 Z Z (Q5 Z d (λ_ d=>?_) (λ_ d=>?_)))
    .exact Gc 2 Z (Qi d (Gx 1 Z (JC q d (Lr [0]))))
    refine Gc 5 Z (Bj 10 Z (D 3 Z ?_));obtain⟨M,t,d⟩:=YE d;refine DS.wo (x:=.rp [.rp (Ue.c M)]) ?_ ?_
    .exact Ix t EV GA Z Wp
    refine D 4 Z ?_;obtain⟨N,u,d⟩:=YE d;refine DS.wo (x:=.rp [.rp (Ue.c N)]) ?_ ?_
    .exact Ix u EV GA Z Wp
    refine D 1 Z (Eg Z (Cz [0] d (UU _ _ _) Z λY T d=>Go 3 Z (Bd d λO e d=>?_)));refine Ct O [0] [0,1,5,6,7] Ze Ze Zf ?_ (λenv H Q=>?_)
    .refine G0 0 Z (Cn Z e (λ_ e=>?_) (λ_ e=>?_))
     .refine Gc 1 Z ?_;cases e
     exact YM 1 Z e [0]
    exact Gx 2 Z (Qd Q (Gc 5 Z (Qg d (Lr [0]))))
   refine Gc 1 Z ?_;cases a
  exact Gc 8 Z (Qg a (Lr [0]))
 exact QJ 7 Z h 4 [0]
def L4(n:Nat)(d:AA Ue):AB (AA Ue):=(P_ n d).bind λe=>(IE (λx y=>Iy n x y) e).bind λa=>(Ml n a).bind λf=>some a
theorem gu(n:Nat)(d:AA Ue):Ks (L4 n d) 174 [.rsl 1 (map Ue.ptr d),.fn (.func 175) [] []] [] (λr=>.rsl 1 (map Ue.ptr r)):=by
 refine Kg 9 func174 Z Z Z Z λr h=>Cd [] h (fL _ _) Z λg e h=>Fg 7 Z Z (Bd h λi a h=>(QC [1] (Bh.fn call220 Z Z Z) (uB Qg5 a (λx y c h=>UL n x y c h) isAgg222 GA call175 Z) ?_));rintro _ _ ⟨rfl,rfl⟩;refine QB (QO (s:=0) Z (congrArg (λn=>A.osl 1 0 n 1) (cI a))) (QB (QO (s:=6) Z (congrArg (λn=>A.osl 1 0 n 1) (cI a))) ?_);refine QB (QO (s:=7) Z (congrArg (λn=>A.osl 1 0 n 1) (cI a))) (Go 6 Z ?_);exact QB (Ji [(0,_),(6,_),(7,_),(10,_)] Z Z (Aw.cons Z Eo (Aw.cons Z Eo (Aw.cons Z Eo (Aw.cons Z Eo Aw.nil)))) (Ec (Ec (YL _)))) (Cd [0] h (ii _ _) Z λj f h=>FE Z (Gt 4 Z h 4 []))
def NR(env:Env):Env->Prop
  |[]=>True
  |p::r=>lk env p.1=p.2/\NR env r
theorem uH{h0:Nat}{env env':Env}{H:Qb}(h:NR env env'):Le h0 env H env' H:=by
  refine Le.env λs=>?_
  induction env' with
  |nil=>exact .inl Z
  |cons p r ih=>
    obtain⟨a,d⟩:=h;by_cases q:s=p.1
    · refine .inr ?_
      subst q;simp[lk,VB];exact a.symm
    · have e:Nat.beq s p.1=false:=by
        cases z:Nat.beq s p.1 with
        |true=>exact absurd (XO z) q
        |false=>rfl
      simp[lk,e];exact ih d
section
variable {P:Program} {N m n:Nat} {bs ds ds':AA Nat} {cat:IG} {l:AA Oper} {env:Env} {B:AA (Nat×AB AR)} {Hs:AA Qb} {X:Qb} {K:AA Oper->Env->Qb->Prop} {r:AA Oper} {xs xs':AA A} {x:A}
theorem DK.ad(h:Fj xs x=.mk xs')(k:DK P N m bs cat l ds env n K B Hs X r xs'):DK P N m bs cat l ds env n K B Hs X r (xs++[x]):=by
  rw[Jy]at h;cases h;exact k
theorem jO(h:ds=ds')(k:DK P N m bs cat l ds' env n K B Hs X r xs):DK P N m bs cat l ds env n K B Hs X r xs:=h▸k
end
abbrev Hh:Int->A:=λn=>I n
def AN(bk:DX AC Report):Qb:=[.cells 268 [.map 1],.mapP (Qt Hh Ho (Jg bk))]
abbrev nC(k:Int):AR:=.cells 225 [I k,.nils,.nils,.nils,.nils,.bool false]
theorem U1:QK prog 225 2 4 1:=FA E0 rfl sizeOf85
theorem jD:QK prog 225 3 5 1:=FA E0 rfl Ge
theorem nI:Q2 prog 85 62 4:=⟨ET,E6,⟨_,GK,rfl⟩,⟨_,typeInfo62,by decide⟩⟩
theorem jb(k:Int)(bk:DX AC Report)(G:Qb)(hB:YP Ue.K 2 (AN bk++G) bk):C prog 172 [I k,.ptr 0 0] (AN bk++G) (λa H'=>∃l e r G',a=.ptr e.2.b 0/\H'=AN (l++e::r)++G'/\YP Ue.K 2 H' (l++e::r)/\e.1.number=k/\(l++e::r).map (·.1)=Cu (bk.map (·.1)) k):=by
  refine QG func172 Z Z Z ?_;refine TC.seq (TC.region (vV (AK.assign Z Z) (WO.nil ?_)));refine TC.seq (TC.seq (TC.region ?_));refine vV (x:=.map 1) (Ez Z isAgg268 Z (BD.cells Z Z)) ?_;refine vV (x:=I k) (AK.move Z Z) ?_;rcases k8 bk k with⟨f,d⟩|⟨l,e,r,rfl,d,p,g⟩
  · refine vV (x:=.nilp) (zQ (ek:=Hh) (ev:=Ho) (k:=k) (l:=Jg bk) Ja f Gj zeroValue222) ?_
    refine vV (x:=.bool true) (za runUnderlying222 Z) (WO.nil ?_);refine pN Z Z (TC.region ?_);refine vV (x:=.map 1) (Ez Z isAgg268 Z (BD.cells Z Z)) ?_;refine vV (x:=I k) (AK.move Z Z) ?_;refine vV (x:=I k) (AK.move Z Z) ?_;refine vV (AK.build (zs:=[I 0,.nils,.nils,.nils,.nils,.bool false]) zeroValue225 (Ds Z) uY) ?_;refine Jq (x:=.ptr (AN bk++G).length 0) (H':=(AN bk++G)++[nC k]) (XR _) Z Z Z (CD.box Z Z Z Z Z) ?_;have n:AN (bk++[(D_ k,FY (AN bk++G).length)])++(G++[nC k])=List.set (AN bk++G++[nC k]) 1 (.mapP (Qt Hh Ho (Jg bk++[(k,(AN bk++G).length)]))):=by
      unfold AN;rw[xC];simp[Jg,D_,FY]
    refine LE (H':=AN (bk++[(D_ k,FY (AN bk++G).length)])++(G++[nC k])) (by simp) Z Z ?_ ?_
    · rw[n]
      refine wt (ek:=Hh) (ev:=Ho) (k:=k) (l:=Jg bk) (v:=(AN bk++G).length) (i:=1) (x:=.tmp 8) (y:=.tmp 9) (zz:=.tmp 12) (T:=268) Ja f Gj ?_ ?_ ?_ ?_ ?_<;>rfl
    refine WO.nil ?_;have h:=λenv=>by
      have:=yU Ue.K (h0:=(AN bk++G).length) (env:=env) (H:=AN (bk++[(D_ k,FY (AN bk++G).length)])++G) (k:=k) (by simp[AN]);exact this
    refine Qd (h _) ?_;have hB1:YP Ue.K 2 (AN (bk++[(D_ k,FY (AN bk++G).length)])++G) bk:=hB.keep λj m s=>by
      rw[XL (by simpa[AN]using m),XL (by simpa[AN]using m)];rfl
    have hB2:=hB1.new (k:=k) d (by simp[AN]);have hg:Yv (Jg (bk++[(D_ k,FY (AN bk++G).length)])) k=some (AN bk++G).length:=by
      rcases k8 (bk++[(D_ k,FY (AN bk++G).length)]) k with⟨g1,g2⟩|⟨l,e,r,g1,g2,g3,g4⟩
      · exact absurd Z (g2 (D_ k,FY (AN bk++G).length) (by simp))
      · rw[g4]
        have hm:e∈bk++[(D_ k,FY (AN bk++G).length)]:=by rw[g1];simp
        rcases Vz.1 hm with q|q
        · exact absurd g2 (d e q)
        · rw[Vx.1 q];rfl
    refine TC.seq (TC.region ?_);refine vV (x:=.map 1) (Ez Z isAgg268 Z (BD.cells Z Z)) ?_;refine vV (x:=I k) (AK.move Z Z) ?_;refine vV (x:=.ptr (AN bk++G).length 0) (lM (ek:=Hh) (ev:=Ho) (k:=k) Ja hg Gj) ?_;refine vV (AK.assign Z Z) (WO.nil ?_);refine TC.ret ⟨_,_,.ptr (AN bk++G).length 0,Le.refl _ _ _,Df.one Z Z,?_⟩;refine⟨bk,(D_ k,FY (AN bk++G).length),[],_,Z,Z,hB2,Z,?_⟩;rw[Wq (λx hx q=>by obtain⟨e,he,rfl⟩:=Xf.1 hx;exact d e he q)];simp
  · refine vV (x:=.ptr e.2.b 0) (lM (ek:=Hh) (ev:=Ho) (k:=k) (l:=Jg (l++e::r)) Ja g Gj) ?_
    refine vV (x:=.bool false) (zb runUnderlying222 Z) (WO.nil ?_);refine kY Z Z (TC.skip ?_);refine TC.seq (TC.region ?_);refine vV (x:=.map 1) (Ez Z isAgg268 Z (BD.cells Z Z)) ?_;refine vV (x:=I k) (AK.move Z Z) ?_;refine vV (x:=.ptr e.2.b 0) (lM (ek:=Hh) (ev:=Ho) (k:=k) (l:=Jg (l++e::r)) Ja g Gj) ?_;refine vV (AK.assign Z Z) (WO.nil ?_);refine TC.ret ⟨_,_,.ptr e.2.b 0,Le.refl _ _ _,Df.one Z Z,?_⟩;refine⟨l,e,r,G,Z,Z,hB,d,?_⟩;rw[Wf ⟨e.1,by simp,d⟩]
def Ck(fs:AA Ue)(k inst:Int)(f:AC):AB (AA Ue):=bif inst==0 then some (FR fs k λx=>{x with r0:=x.r0++[f]})else bif inst==1 then some (FR fs k λx=>{x with r1:=x.r1++[f]})else bif inst==2 then some (FR fs k λx=>{x with r2:=x.r2++[f]})else none
def Ba(fs:AA Ue)(f:AC):AB (AA Ue):=bif f.Kind==10 then(bif Ov (Cu fs f.Ruling.Case)then Ck (Cu fs f.Ruling.Case) f.Ruling.Case f.Ruling.Instance f else none)
  else bif f.Kind==8 then(bif Ov (Cu fs f.Report.Case)then some (FR (Cu fs f.Report.Case) f.Report.Case λx=>{x with reports:=x.reports++[f.Report]})else none)
  else bif f.Kind==11 then(bif f.Appeal.Suspends then some (FR (Cu fs f.Appeal.Case) f.Appeal.Case λx=>{x with appeal:=true})else some fs)else some fs
def Cs(n:Nat)(l:AA AC)(s:AA Ue×Int):AB (AG (AA Ue×Int) (AA Ue)):=bif s.2<(l.length:Int) then(AJ l s.2).bind λf=>(Ba s.1 f).bind λfs=>some (.k (fs,i64.wrap (s.2+1)))else some (.d s.1)
def Ff(l:AA AC)(i:Int):Env:=[(6,.ptr 0 0),(7,.fn (.func 172) [] [.ptr 0 0]),(32,.rsl 57 (map AC.c l)),(33,I l.length),(34,I i)]
def N9(l:AA AC)(s:AA Ue×Int)(env:Env)(H:Qb):Prop:=(lk env 6=.ptr 0 0/\lk env 7=.fn (.func 172) [] [.ptr 0 0]/\lk env 32=.rsl 57 (map AC.c l)/\lk env 33=I l.length/\lk env 34=I s.2)/\ ∃bk G,H=AN bk++G/\YP Ue.K 2 H bk/\bk.map (·.1)=s.1
def N8(l:AA AC)(fs:AA Ue)(i:Int):QW:=λx env H=>x=.normal/\(lk env 6=.ptr 0 0/\lk env 7=.fn (.func 172) [] [.ptr 0 0]/\lk env 32=.rsl 57 (map AC.c l)/\lk env 33=I l.length/\lk env 34=I i)/\ ∃bk G,H=AN bk++G/\YP Ue.K 2 H bk/\bk.map (·.1)=fs
theorem rA{l:AA AC}{i:Int}{env:Env}{H:Qb}{h0:Nat}(h:lk env 6=.ptr 0 0/\lk env 7=.fn (.func 172) [] [.ptr 0 0]/\lk env 32=.rsl 57 (map AC.c l)/\lk env 33=I l.length/\lk env 34=I i):Le h0 env H (Ff l i) H:=by
  obtain⟨n,p,q,r,s⟩:=h;refine Le.env λk=>?_;by_cases a:k=6
  · subst a;exact .inr n.symm
  by_cases d:k=7
  · subst d;exact .inr p.symm
  by_cases f:k=32
  · subst f;exact .inr q.symm
  by_cases g:k=33
  · subst g;exact .inr r.symm
  by_cases m:k=34
  · subst m;exact .inr s.symm
  have e:∀j,k≠j->Nat.beq k j=false:=λj hj=>by
    cases z:Nat.beq k j with
    |true=>exact absurd (XO z) hj
    |false=>rfl
  left;unfold Ff;simp only[lk,e _ a,e _ d,e _ f,e _ g,e _ m];rfl
theorem qW:∀(l:AA Nat) (H:Qb),(IA H l).length=H.length
  |[],H=>rfl
  |i::l,H=>by unfold IA;rw[qW l,X2]
theorem t_{bk:DX AC Report}{G:Qb}{env:Env}(hB:YP Ue.K 2 (AN bk++G) bk)(he:lk env 6=.ptr 0 0):Le 0 env (AN bk++G) [(6,.ptr 0 0)] [.cells 268 [.map 1],.fmap (Qt Hh (GW Ue.K) (Hm (bk.map (·.1))))]:=by
  refine En (vA Ue.K (m:=1) hB Z Z) ?_;have hl:(IA (AN bk++G) (LA bk)).length=G.length+2:=by rw[qW];simp[AN]
  have hn:∀i,i<2->i∉LA bk:=λi hi q=>by have:=(hB.all.2 i q).1;omega
  have d:((IA (AN bk++G) (LA bk)).set 1 (.fmap (Qt Hh (GW Ue.K) (Hm (bk.map (·.1))))))[0]?=some (.cells 268 [.map 1]):=by
    rw[XN (by omega),qV (hn 0 (by omega))];rfl
  have e:((IA (AN bk++G) (LA bk)).set 1 (.fmap (Qt Hh (GW Ue.K) (Hm (bk.map (·.1))))))[1]?=some (.fmap (Qt Hh (GW Ue.K) (Hm (bk.map (·.1))))):=by
    rw[Xa (by omega)]
  exact u' 2 (XS _) (by rw[X2,hl];omega) (congr (congrArg (λa b=>[a,b]) d.symm) e.symm) ⟨he,trivial⟩
theorem nQ{H:Qb}{bk:DX AC Report}(h0:H[0]?=some (.cells 268 [.map 1]))(d:H[1]?=some (.mapP (Qt Hh Ho (Jg bk)))):H=AN bk++H.drop 2:=by
  match H,h0,d with
  |a::b::G,h0,d=>
    simp at h0 d;subst h0 d;rfl
theorem WM{l r:DX AC Report}{e:BY AC Report×Pl}{x':BY AC Report}{p':Pl}{H:Qb}{fs:AA Ue}{k:Int}{g:BY AC Report->BY AC Report}(hB:YP Ue.K 2 H (l++e::r))(hek:e.1.number=k)(hbk:(l++e::r).map (·.1)=Cu fs k)(hx:g e.1=x'):(l++(x',p')::r).map (·.1)=FR (Cu fs k) k g:=by
  rw[<- hbk,Xg,Xg,Vf,Vf,vr (by have:=hB.num;simpa[Function.comp_def]using this) hek,hx]
theorem t9{l r:DX AC Report}{e:BY AC Report×Pl}{G:Qb}(hB:YP Ue.K 2 (AN (l++e::r)++G) (l++e::r)):∃G',(AN (l++e::r)++G).set e.2.b (.cells 225 (Yg Ue.K e.2 {e.1 with appeal:=true}))=AN (l++({e.1 with appeal:=true},e.2)::r)++G'/\YP Ue.K 2 ((AN (l++e::r)++G).set e.2.b (.cells 225 (Yg Ue.K e.2 {e.1 with appeal:=true}))) (l++({e.1 with appeal:=true},e.2)::r):=by
  have hb:2<=e.2.b:=hB.lo e (by simp) _ (by simp[Pl.ix]);have hl:=hB.laid e (by simp);have hlt:=hl.lt e.2.b (by simp[Pl.ix]);have ho:=hB.own e (by simp);simp[Pl.ix,List.nodup_cons,X3,List.not_mem_nil,or_false,not_or]at ho;obtain⟨⟨n0,n1,n2,n3⟩,_⟩:=ho;refine⟨_,nQ ?_ ?_,hB.upd ⟨?_,?_,?_,?_,?_⟩ Z ?_ (λi hi=>.inl hi) (hB.own e (by simp)) (by simp[AN])⟩
  · rw[XN (by omega)];rfl
  · rw[XN (by omega)];simp[AN,Jg]
  · rw[Xa hlt]
  · rw[XN n0];exact hl.r0
  · rw[XN n1];exact hl.r1
  · rw[XN n2];exact hl.r2
  · rw[XN n3];exact hl.r3
  · intro j _ _ q
    rw[XN (λz=>q (by rw[<- z];simp[Pl.ix]))]
theorem nP{β:Type}{c:Bool}{x:AB β}{y:β}(h:(bif c then x else none)=some y):c=true/\x=some y:=by
  cases c with
  |true=>exact⟨Z,h⟩
  |false=>cases h
theorem aZ{β:Type}{l:AA β}{x:β}(h:l.length+1<=QE):app l [x]=some (l++[x]):=by
  unfold app;simp[XQ h]
theorem a_{l r:DX AC Report}{e:BY AC Report×Pl}{G:Qb}{x':BY AC Report}{p':Pl}{i:Nat}{y:AR}(hB:YP Ue.K 2 (AN (l++e::r)++G) (l++e::r))(hi:i∈e.2.ix)(hib:i≠e.2.b)(hn:x'.number=e.1.number)(hb:p'.b=e.2.b)
    (hp:p'.ix=e.2.ix.map λj=>bif Nat.beq j i then(AN (l++e::r)++G).length else j)
    (hrows:∀H':Qb,(∀j,j∈e.2.ix->j≠i->j≠e.2.b->H'[j]?=(AN (l++e::r)++G)[j]?)->H'[(AN (l++e::r)++G).length]?=some y->
      H'[p'.i0]?=some (.row Ue.K.tF Ue.K.kF (x'.r0.map Ue.K.eF))/\H'[p'.i1]?=some (.row Ue.K.tF Ue.K.kF (x'.r1.map Ue.K.eF))/\H'[p'.i2]?=some (.row Ue.K.tF Ue.K.kF (x'.r2.map Ue.K.eF))/\H'[p'.i3]?=some (.row Ue.K.tR Ue.K.kR (x'.reports.map Ue.K.eR))):
    ((AN (l++e::r)++G).set i .dead++[y])[e.2.b]?=some (.cells 225 (Yg Ue.K e.2 e.1))/\ ∃G2,((AN (l++e::r)++G).set i .dead++[y]).set e.2.b (.cells 225 (Yg Ue.K p' x'))=AN (l++(x',p')::r)++G2/\
      YP Ue.K 2 (((AN (l++e::r)++G).set i .dead++[y]).set e.2.b (.cells 225 (Yg Ue.K p' x'))) (l++(x',p')::r):=by
  have hl:=hB.laid e (by simp);have hlt:=hl.lt;have hbl:=hlt e.2.b (by simp[Pl.ix]);have g:2<=e.2.b:=hB.lo e (by simp) _ (by simp[Pl.ix]);have hi2:=hB.lo e (by simp) _ hi;have hlow:∀j,j<2->(((AN (l++e::r)++G).set i .dead++[y]).set e.2.b (.cells 225 (Yg Ue.K p' x')))[j]?=(AN (l++e::r)++G)[j]? :=λj hj=>by
    rw[XN (by omega),XK (by simp[AN];omega),XN (by omega)]
  have hr:=hrows (((AN (l++e::r)++G).set i .dead++[y]).set e.2.b (.cells 225 (Yg Ue.K p' x'))) (λj a d f=>by
    rw[XN (λq=>f q.symm),XK (by rw[X2];exact hlt j a),XN (λq=>d q.symm)]) (by
    rw[XN (by omega),XL (by rw[X2];exact XR _),X2,Nat.sub_self];rfl)
  obtain⟨h0,a,d,f⟩:=hr;refine⟨?_,_,nQ ?_ ?_,hB.row (by simp[AN]) hn hi hib hb Z hp h0 a d f⟩
  · rw[XK (by rw[X2];exact hbl),XN hib];exact hl.c
  · rw[hlow 0 (by omega)];rfl
  · rw[hlow 1 (by omega),xD hn hb];rfl
theorem FW{a b:Nat}(h:a≠b):Nat.beq a b=false:=by
  cases z:Nat.beq a b with
  |true=>exact absurd (XO z) h
  |false=>rfl
theorem vS{l r:DX AC Report}{e:BY AC Report×Pl}{G:Qb}(rs:AA Report)(hB:YP Ue.K 2 (AN (l++e::r)++G) (l++e::r)):((AN (l++e::r)++G).set e.2.i3 .dead++[AR.row 62 4 (map Report.c rs)])[e.2.b]?=some (.cells 225 (Yg Ue.K e.2 e.1))/\ ∃G2,((AN (l++e::r)++G).set e.2.i3 .dead++[AR.row 62 4 (map Report.c rs)]).set e.2.b (.cells 225 (Yg Ue.K {e.2 with i3:=(AN (l++e::r)++G).length} {e.1 with reports:=rs}))=AN (l++({e.1 with reports:=rs},{e.2 with i3:=(AN (l++e::r)++G).length})::r)++G2/\
      YP Ue.K 2 (((AN (l++e::r)++G).set e.2.i3 .dead++[AR.row 62 4 (map Report.c rs)]).set e.2.b (.cells 225 (Yg Ue.K {e.2 with i3:=(AN (l++e::r)++G).length} {e.1 with reports:=rs}))) (l++({e.1 with reports:=rs},{e.2 with i3:=(AN (l++e::r)++G).length})::r):=by
  have hl:=hB.laid e (by simp);have ho:=hB.own e (by simp);simp only[Pl.ix,List.nodup_cons,X3,List.not_mem_nil,or_false,not_or]at ho;obtain⟨⟨f,b1,b2,a⟩,⟨n1,n2,n3⟩,⟨m2,d⟩,k3,_⟩:=ho;refine a_ hB (by simp[Pl.ix]) (λq=>a q.symm) Z Z ?_ (λH' hk hn=>⟨?_,?_,?_,hn⟩)
  · simp[Pl.ix,Vf,Vg,FW a,FW n3,FW d,FW k3,VB,Vk,Vl]
  · exact(hk e.2.i0 (by simp[Pl.ix]) n3 (λq=>f q.symm)).trans hl.r0
  · exact(hk e.2.i1 (by simp[Pl.ix]) d (λq=>b1 q.symm)).trans hl.r1
  · exact(hk e.2.i2 (by simp[Pl.ix]) k3 (λq=>b2 q.symm)).trans hl.r2
theorem vO{l r:DX AC Report}{e:BY AC Report×Pl}{G:Qb}(rs:AA AC)(hB:YP Ue.K 2 (AN (l++e::r)++G) (l++e::r)):((AN (l++e::r)++G).set e.2.i0 .dead++[AR.row 72 57 (map AC.c rs)])[e.2.b]?=some (.cells 225 (Yg Ue.K e.2 e.1))/\ ∃G2,((AN (l++e::r)++G).set e.2.i0 .dead++[AR.row 72 57 (map AC.c rs)]).set e.2.b (.cells 225 (Yg Ue.K {e.2 with i0:=(AN (l++e::r)++G).length} {e.1 with r0:=rs}))=AN (l++({e.1 with r0:=rs},{e.2 with i0:=(AN (l++e::r)++G).length})::r)++G2/\
      YP Ue.K 2 (((AN (l++e::r)++G).set e.2.i0 .dead++[AR.row 72 57 (map AC.c rs)]).set e.2.b (.cells 225 (Yg Ue.K {e.2 with i0:=(AN (l++e::r)++G).length} {e.1 with r0:=rs}))) (l++({e.1 with r0:=rs},{e.2 with i0:=(AN (l++e::r)++G).length})::r):=by
  have hl:=hB.laid e (by simp);have ho:=hB.own e (by simp);simp only[Pl.ix,List.nodup_cons,X3,List.not_mem_nil,or_false,not_or]at ho;obtain⟨⟨a,b1,b2,d⟩,⟨n1,n2,n3⟩,⟨m2,f⟩,k3,_⟩:=ho;refine a_ hB (by simp[Pl.ix]) (λq=>a q.symm) Z Z ?_ (λH' hk hn=>⟨hn,?_,?_,?_⟩)
  · simp[Pl.ix,Vf,Vg,FW a,FW (show e.2.i1≠e.2.i0 from λq=>n1 q.symm),FW (show e.2.i2≠e.2.i0 from λq=>n2 q.symm),FW (show e.2.i3≠e.2.i0 from λq=>n3 q.symm),VB,Vk,Vl]
  · exact(hk e.2.i1 (by simp[Pl.ix]) (λq=>n1 q.symm) (λq=>b1 q.symm)).trans hl.r1
  · exact(hk e.2.i2 (by simp[Pl.ix]) (λq=>n2 q.symm) (λq=>b2 q.symm)).trans hl.r2
  · exact(hk e.2.i3 (by simp[Pl.ix]) (λq=>n3 q.symm) (λq=>d q.symm)).trans hl.r3
theorem vP{l r:DX AC Report}{e:BY AC Report×Pl}{G:Qb}(rs:AA AC)(hB:YP Ue.K 2 (AN (l++e::r)++G) (l++e::r)):((AN (l++e::r)++G).set e.2.i1 .dead++[AR.row 72 57 (map AC.c rs)])[e.2.b]?=some (.cells 225 (Yg Ue.K e.2 e.1))/\ ∃G2,((AN (l++e::r)++G).set e.2.i1 .dead++[AR.row 72 57 (map AC.c rs)]).set e.2.b (.cells 225 (Yg Ue.K {e.2 with i1:=(AN (l++e::r)++G).length} {e.1 with r1:=rs}))=AN (l++({e.1 with r1:=rs},{e.2 with i1:=(AN (l++e::r)++G).length})::r)++G2/\
      YP Ue.K 2 (((AN (l++e::r)++G).set e.2.i1 .dead++[AR.row 72 57 (map AC.c rs)]).set e.2.b (.cells 225 (Yg Ue.K {e.2 with i1:=(AN (l++e::r)++G).length} {e.1 with r1:=rs}))) (l++({e.1 with r1:=rs},{e.2 with i1:=(AN (l++e::r)++G).length})::r):=by
  have hl:=hB.laid e (by simp);have ho:=hB.own e (by simp);simp only[Pl.ix,List.nodup_cons,X3,List.not_mem_nil,or_false,not_or]at ho;obtain⟨⟨d,b1,b2,f⟩,⟨n1,n2,n3⟩,⟨m2,a⟩,k3,_⟩:=ho;refine a_ hB (by simp[Pl.ix]) (λq=>b1 q.symm) Z Z ?_ (λH' hk hn=>⟨?_,hn,?_,?_⟩)
  · simp[Pl.ix,Vf,Vg,FW b1,FW n1,FW (show e.2.i2≠e.2.i1 from λq=>m2 q.symm),FW (show e.2.i3≠e.2.i1 from λq=>a q.symm),VB,Vk,Vl]
  · exact(hk e.2.i0 (by simp[Pl.ix]) n1 (λq=>d q.symm)).trans hl.r0
  · exact(hk e.2.i2 (by simp[Pl.ix]) (λq=>m2 q.symm) (λq=>b2 q.symm)).trans hl.r2
  · exact(hk e.2.i3 (by simp[Pl.ix]) (λq=>a q.symm) (λq=>f q.symm)).trans hl.r3
theorem vR{l r:DX AC Report}{e:BY AC Report×Pl}{G:Qb}(rs:AA AC)(hB:YP Ue.K 2 (AN (l++e::r)++G) (l++e::r)):((AN (l++e::r)++G).set e.2.i2 .dead++[AR.row 72 57 (map AC.c rs)])[e.2.b]?=some (.cells 225 (Yg Ue.K e.2 e.1))/\ ∃G2,((AN (l++e::r)++G).set e.2.i2 .dead++[AR.row 72 57 (map AC.c rs)]).set e.2.b (.cells 225 (Yg Ue.K {e.2 with i2:=(AN (l++e::r)++G).length} {e.1 with r2:=rs}))=AN (l++({e.1 with r2:=rs},{e.2 with i2:=(AN (l++e::r)++G).length})::r)++G2/\
      YP Ue.K 2 (((AN (l++e::r)++G).set e.2.i2 .dead++[AR.row 72 57 (map AC.c rs)]).set e.2.b (.cells 225 (Yg Ue.K {e.2 with i2:=(AN (l++e::r)++G).length} {e.1 with r2:=rs}))) (l++({e.1 with r2:=rs},{e.2 with i2:=(AN (l++e::r)++G).length})::r):=by
  have hl:=hB.laid e (by simp);have ho:=hB.own e (by simp);simp only[Pl.ix,List.nodup_cons,X3,List.not_mem_nil,or_false,not_or]at ho;obtain⟨⟨a,b1,b2,d⟩,⟨n1,n2,n3⟩,⟨m2,f⟩,k3,_⟩:=ho;refine a_ hB (by simp[Pl.ix]) (λq=>b2 q.symm) Z Z ?_ (λH' hk hn=>⟨?_,?_,hn,?_⟩)
  · simp[Pl.ix,Vf,Vg,FW b2,FW n2,FW m2,FW (show e.2.i3≠e.2.i2 from λq=>k3 q.symm),VB,Vk,Vl]
  · exact(hk e.2.i0 (by simp[Pl.ix]) n2 (λq=>a q.symm)).trans hl.r0
  · exact(hk e.2.i1 (by simp[Pl.ix]) m2 (λq=>b1 q.symm)).trans hl.r1
  · exact(hk e.2.i3 (by simp[Pl.ix]) (λq=>k3 q.symm) (λq=>d q.symm)).trans hl.r3
def PT(n:Nat)(e:AA AC)(a:(AA AC)×Int):AB (AG ((AA AC)×Int) (AA AC)):=(bif a.2<(e.length:Int) then(AJ e a.2).bind λd=>(M1 n d).bind λf=>((bif (f==0)then(app a.1 [d]).bind λg=>some g else some a.1):AB (AA AC)).bind λh=>some (.k (h,i64.wrap (a.2+1)))else some (.d a.1))
def LP(n:Nat)(a:AA Ue)(d:Int×Ue):AB (AG (AA Ue) (AA Ue)):=(app a [d.2]).bind λe=>some (.k e)
def Pt(n:Nat)(a:AA Ue):AB (AA Ue):=some a
def Iv(n:Nat)(h:AA AC):AB (AA Ue):=(iter (PT n h) n ([],0):AB (AA AC)).bind λa=>(MC n a).bind λd=>(iter (Cs n d) n (([]:AA Ue),0):AB (AA Ue)).bind λe=>anyP (λp77=>(H7 (LP n) (Pt n) [] p77).bind λf=>(L4 n f).bind λg=>some g) (Hm e)
theorem UJ(n:Nat)(a1:AA AC):Ks (Iv n a1) 113 [.rsl 57 (map AC.c a1)] [] (λr=>.rsl 1 (map Ue.ptr r)):=by
 refine Kg 14 func113 Z Z Z Z λr h=>Lg 3 Z Z (Bd h λz ae h=>Ct z [0] [] (λz=>[(3,.osl 0 0 z.length 57)]) (λz=>[(0,.row 72 57 (map AC.c z))]) Zf ?_ (λenv H q=>?_))
 .refine G0 1 Z (Lp [0] [15,16] (λB=>[(3,.osl 0 0 B.1.length 57),(17,I B.2)]) (λB=>[(0,.row 72 57 (map AC.c B.1))]) ae Zf ?_ ?_)
  .refine En (Ep (s:=3) (k:=57) (t:=72) (XP Z) Z) ?_;exact Lr [0]
  intro B au a V;refine G0 6 Z (Q5 Z a (λ_ a=>?_) (λ_ a=>?_))
  .exact Gc 2 Z (Qi a (Gx 1 Z (JC V a (Lr [0]))))
  refine Gc 6 Z (Bd a λaf Y a=>Iz Y Z (Go 8 Z (Cz [] a (UE _ _) Z λav ao a=>Go 3 Z (Bd a λE u a=>Ct E [0] [15,16,17] (λE=>[(3,.osl 0 0 E.length 57)]) (λE=>[(0,.row 72 57 (map AC.c E))]) Zf ?_ (λenv H q=>?_)))))
  .refine G0 0 Z (Cn Z u (λ_ u=>?_) (λ_ u=>?_))
   .refine Gc 3 Z (vH (Ek (xs:=[.tmp 25]) (es:=map AC.c [af]) Jf Z Z Z Z Z ⟨Z,trivial⟩ Z Z) ?_);refine FE Z (Bd u λaw ab u=>vH (Qh (e:=AC.c) ab Jf EC (QF (i:=2))) ?_);exact FE Z (Gl 2 Z u [3])
   exact YM 1 Z u [0]
  exact Gx 2 Z (Qd q (Gc 4 Z (Qg a (Lr [0]))))
 refine Gx 1 Z (Qd q (Gc 2 Z (vH yW ?_)));refine Fg 14 Z Z ?_;refine QB (Ji [(3,_),(31,_)] Z Z (Aw.cons Z Eo (Aw.cons Z Eo Aw.nil)) (Ec (YL _))) ?_;refine Cd [] h (hS _ _) Z λw aq h=>Fg 4 Z Z ?_;refine Qd (Ji [(32,_)] Z Z (Aw.cons Z Eo Aw.nil) (Ec (Ec (Ec (Ec (YL _)))))) (Bd h λag ah h=>TC.cut [(6,.ptr 0 0)] [.cells 268 [.map 1],.fmap (Qt (λx=>A.int .i64 x) (GW Ue.K) (Hm ag))] ?_ (λenv H q=>?_))
 .refine TC.block (Qd (env':=Ff w 0) (H':=AN []) (Lr [2,1]) ?_);refine pO (I:=N9 w) ?_ ah ⟨⟨Z,Z,Z,Z,Z⟩,[],[],Z,YP.nil,Z⟩;rintro s d env H ⟨he,bk,G,rfl,hB,hfs⟩ hs hd;refine Qd (rA he) ?_;refine TC.seq (TC.region (vV (x:=.bool (decide (s.2<(w.length:Int)))) (AK.lss Z Z Z) (WO.nil ?_)));refine TC.seq ?_;unfold Cs at hs;refine TC.cond (x:=.tmp 35) (t:=decide (s.2<(w.length:Int))) Z (λht=>TC.skip ?_) (λht=>TC.exit ?_)
  · rw[ht,Vk]at hs
    obtain⟨f,hf,hs⟩:=YE hs;obtain⟨fs,hst,hs⟩:=YE hs;cases hs;refine TC.seq (TC.mono (Q:=N8 w fs s.2) (TC.block (TC.seq (TC.region ?_))) ?_)
    rotate_left
    · rintro x env H ⟨rfl,he,bk',G',rfl,hB',hfs'⟩
      refine Qd (rA he) (TC.region ?_);refine vV (x:=I (i64.wrap (s.2+1))) (AK.add Z Z Z) ?_;refine vV (x:=I (i64.wrap (s.2+1))) (AK.move Z Z) (WO.nil ?_);exact⟨_,Z,⟨Z,Z,Z,Z,Z⟩,bk',G',Z,hB',hfs'⟩
    refine vV (x:=.rp (AC.c f)) (O5 (e:=AC.c) hf EC EF) ?_;refine vV (x:=.agg (AC.c f)) (Qv Z E5 EF Z BD.rp Z Z) ?_;refine xB (v:=.agg (AC.c Up)) (cs:=AC.c f) GC (Ds Z) EF (WO.nil ?_);refine TC.seq (TC.region ?_);refine vV (QD oX Z Z Z) ?_;refine vV (x:=I f.Kind) (Ez Z EH Z BD.rp) (WO.nil ?_);refine TC.block (TC.seq (TC.region ?_));refine vV (x:=.bool (f.Kind==10)) (AK.eql Z Z Z) ?_;refine vV (AK.assign Z Z) (WO.nil ?_);unfold Ba at hst;refine TC.cond (t:=f.Kind==10) Z (λL=>?_) (λL=>?_)
    · rw[L,Vk]at hst
      obtain⟨hroom,hst⟩:=nP hst;refine TC.seq (TC.region ?_);refine vV (AK.move Z Z) ?_;refine vV (QD Nl Z Z Z) ?_;refine vV (QD oW Z Z Z) ?_;refine vV (x:=I f.Ruling.Case) (Ez Z EH Z BD.rp) ?_;refine lO (Nn call172 Z Z Z Z) (jb f.Ruling.Case bk G hB) ?_ (XS _);rintro _ _ ⟨l,e,r,G',rfl,rfl,hB',hek,hbk⟩;refine vV (AK.assign Z Z) (WO.nil ?_);refine Qd (uH (env':=[(6,.ptr 0 0),(7,.fn (.func 172) [] [.ptr 0 0]),(32,.rsl 57 (map AC.c w)),(33,I w.length),(34,I s.2),(9,.rp (AC.c f)),(10,.ptr e.2.b 0)]) ⟨Z,Z,Z,Z,Z,Z,Z,trivial⟩) ?_;have hl:=hB'.laid e (by simp);have hrm:=qC (l:=l.map (·.1)) (r:=r.map (·.1)) (x:=e.1) (by rw[<- Vf, <- Xg,hbk,hfs];exact hroom);unfold Ck at hst;refine If hst (λhi hst=>?_) (λhi0 hst=>If hst (λhi hst=>?_) (λhi1 hst=>If hst (λhi hst=>?_) (λhi2 hst=>by cases hst)))
      ·
        cases hst;have happ:app e.1.r0 [f]=some (e.1.r0++[f]):=aZ hrm.1;refine FC 18 [14] [(0,0,1),(0,0,1),(0,0,1),(0,0,1),(0,0,0),(0,0,0),(0,0,0),(0,0,0),(0,0,0),(0,0,0),(0,0,0),(0,0,0),(0,0,0),(0,0,0),(1,0,0),(0,0,1),(0,0,1),(0,0,1)] (by kernel_rfl) ?_;refine jO (ds':=[47,48,49,50,51,52,53,54,55,56,57,58,59,60,61,62,63,64]) Z ?_;refine DK.wa (x:=.ptr e.2.b 0) (λX=>vV (AK.move Z Z) Wp) ?_;refine DK.ad Z ?_;refine DK.wa (x:=.rp ((AC.c f).drop 47)) (λX=>vV (QD Nl Z Z Z) Wp) ?_;refine DK.ad Z ?_;refine DK.wa (x:=.rp ((AC.c f).drop 48)) (λX=>vV (QD So Z Z Z) Wp) ?_;refine DK.ad Z ?_;refine DK.wa (x:=I f.Ruling.Instance) (λX=>vV (Ez Z EH Z BD.rp) Wp) ?_;refine DK.ad Z ?_;refine DK.wo (x:=.ptr e.2.b 0) (vV (AK.move Z Z) Wp) ?_;refine DK.ad Z ?_;refine DK.wo (x:=.rp ((AC.c f).drop 47)) (vV (QD Nl Z Z Z) Wp) ?_;refine DK.ad Z ?_;refine DK.wo (x:=.rp ((AC.c f).drop 48)) (vV (QD So Z Z Z) Wp) ?_;refine DK.ad Z ?_;refine DK.wo (x:=I f.Ruling.Instance) (vV (Ez Z EH Z BD.rp) Wp) ?_;refine DK.ad Z ?_;refine DK.wo (x:=.ptr e.2.b 0) (vV (YS Z) Wp) ?_;refine DK.ad Z ?_;refine DK.wo (x:=.ptr e.2.b 1) (vV (YK J3 Z Z) Wp) ?_;refine DK.ad Z ?_;refine DK.wo (x:=.ptr e.2.b 1) (vV (Ye (n:=3) (k:=1) (j:=0) hi Z ES Ga Z) Wp) ?_;refine DK.ad Z ?_;refine DK.wo (x:=.osl e.2.i0 0 e.1.r0.length 57) (vV (Ez Z isAgg34 Z (BD.cells hl.c Z)) Wp) ?_;refine DK.ad Z ?_;refine DK.wo (x:=.agg (AC.c f)) (vV (Qv Z E5 EF Z BD.rp Z Z) Wp) ?_;refine DK.ad Z ?_;refine DK.wo (x:=.rsl 57 (map AC.c [f])) (Jq (XR _) Z Z Z (Ym (xs:=[.tmp 59]) (es:=map AC.c [f]) Jf Z Z Z Z Z ⟨Z,trivial⟩ Z Z) Wp) ?_;refine DK.ad Z ?_;refine Ex (x:=.osl (AN (l++e::r)++G').length 0 (e.1.r0++[f]).length 57) (Jq (XR _) Z Z Z (Qh (e:=AC.c) (l:=e.1.r0) (m:=[f]) happ Jf EC JR (hH:=hl.r0)) Wp) ?_ (hl:=by simp);refine DK.ad Z ?_;refine DK.wa (x:=.ptr e.2.b 0) (λX=>vV (YS Z) Wp) ?_;refine DK.ad Z ?_;refine DK.wa (x:=.ptr e.2.b 1) (λX=>vV (YK J3 Z Z) Wp) ?_;refine DK.ad Z ?_;refine DK.wa (x:=.ptr e.2.b 1) (λX=>vV (Ye (n:=3) (k:=1) (j:=0) hi Z ES Ga Z) Wp) ?_;refine DK.ad Z ?_;refine DK.done Z Z ?_;obtain⟨y,G2,hG,hB2⟩:=vO (e.1.r0++[f]) hB';refine LE (XS _) Z Z (Ey (i:=e.2.b) (off:=1) (n:=1) (v:=.osl (AN (l++e::r)++G').length 0 (e.1.r0++[f]).length 57) (vs:=[.osl (AN (l++e::r)++G').length 0 (e.1.r0++[f]).length 57]) (cs:=Yg Ue.K e.2 e.1) (cs':=Yg Ue.K {e.2 with i0:=(AN (l++e::r)++G').length} {e.1 with r0:=e.1.r0++[f]}) Z Z y Ga Z Z Z Z Z Z Z) (WO.nil ?_);exact⟨Z,⟨Z,Z,Z,Z,Z⟩,l++({e.1 with r0:=e.1.r0++[f]},{e.2 with i0:=(AN (l++e::r)++G').length})::r,G2,hG,hB2,WM hB' hek (by rw[hbk,hfs]) Z⟩
      ·
        cases hst;have happ:app e.1.r1 [f]=some (e.1.r1++[f]):=aZ hrm.2.1;refine FC 18 [14] [(0,0,1),(0,0,1),(0,0,1),(0,0,1),(0,0,0),(0,0,0),(0,0,0),(0,0,0),(0,0,0),(0,0,0),(0,0,0),(0,0,0),(0,0,0),(0,0,0),(1,0,0),(0,0,1),(0,0,1),(0,0,1)] (by kernel_rfl) ?_;refine jO (ds':=[47,48,49,50,51,52,53,54,55,56,57,58,59,60,61,62,63,64]) Z ?_;refine DK.wa (x:=.ptr e.2.b 0) (λX=>vV (AK.move Z Z) Wp) ?_;refine DK.ad Z ?_;refine DK.wa (x:=.rp ((AC.c f).drop 47)) (λX=>vV (QD Nl Z Z Z) Wp) ?_;refine DK.ad Z ?_;refine DK.wa (x:=.rp ((AC.c f).drop 48)) (λX=>vV (QD So Z Z Z) Wp) ?_;refine DK.ad Z ?_;refine DK.wa (x:=I f.Ruling.Instance) (λX=>vV (Ez Z EH Z BD.rp) Wp) ?_;refine DK.ad Z ?_;refine DK.wo (x:=.ptr e.2.b 0) (vV (AK.move Z Z) Wp) ?_;refine DK.ad Z ?_;refine DK.wo (x:=.rp ((AC.c f).drop 47)) (vV (QD Nl Z Z Z) Wp) ?_;refine DK.ad Z ?_;refine DK.wo (x:=.rp ((AC.c f).drop 48)) (vV (QD So Z Z Z) Wp) ?_;refine DK.ad Z ?_;refine DK.wo (x:=I f.Ruling.Instance) (vV (Ez Z EH Z BD.rp) Wp) ?_;refine DK.ad Z ?_;refine DK.wo (x:=.ptr e.2.b 0) (vV (YS Z) Wp) ?_;refine DK.ad Z ?_;refine DK.wo (x:=.ptr e.2.b 1) (vV (YK J3 Z Z) Wp) ?_;refine DK.ad Z ?_;refine DK.wo (x:=.ptr e.2.b 2) (vV (Ye (n:=3) (k:=1) (j:=1) hi Z ES Ga Z) Wp) ?_;refine DK.ad Z ?_;refine DK.wo (x:=.osl e.2.i1 0 e.1.r1.length 57) (vV (Ez Z isAgg34 Z (BD.cells hl.c Z)) Wp) ?_;refine DK.ad Z ?_;refine DK.wo (x:=.agg (AC.c f)) (vV (Qv Z E5 EF Z BD.rp Z Z) Wp) ?_;refine DK.ad Z ?_;refine DK.wo (x:=.rsl 57 (map AC.c [f])) (Jq (XR _) Z Z Z (Ym (xs:=[.tmp 59]) (es:=map AC.c [f]) Jf Z Z Z Z Z ⟨Z,trivial⟩ Z Z) Wp) ?_;refine DK.ad Z ?_;refine Ex (x:=.osl (AN (l++e::r)++G').length 0 (e.1.r1++[f]).length 57) (Jq (XR _) Z Z Z (Qh (e:=AC.c) (l:=e.1.r1) (m:=[f]) happ Jf EC JR (hH:=hl.r1)) Wp) ?_ (hl:=by simp);refine DK.ad Z ?_;refine DK.wa (x:=.ptr e.2.b 0) (λX=>vV (YS Z) Wp) ?_;refine DK.ad Z ?_;refine DK.wa (x:=.ptr e.2.b 1) (λX=>vV (YK J3 Z Z) Wp) ?_;refine DK.ad Z ?_;refine DK.wa (x:=.ptr e.2.b 2) (λX=>vV (Ye (n:=3) (k:=1) (j:=1) hi Z ES Ga Z) Wp) ?_;refine DK.ad Z ?_;refine DK.done Z Z ?_;obtain⟨y,G2,hG,hB2⟩:=vP (e.1.r1++[f]) hB';refine LE (XS _) Z Z (Ey (i:=e.2.b) (off:=2) (n:=1) (v:=.osl (AN (l++e::r)++G').length 0 (e.1.r1++[f]).length 57) (vs:=[.osl (AN (l++e::r)++G').length 0 (e.1.r1++[f]).length 57]) (cs:=Yg Ue.K e.2 e.1) (cs':=Yg Ue.K {e.2 with i1:=(AN (l++e::r)++G').length} {e.1 with r1:=e.1.r1++[f]}) Z Z y Ga Z Z Z Z Z Z Z) (WO.nil ?_);exact⟨Z,⟨Z,Z,Z,Z,Z⟩,l++({e.1 with r1:=e.1.r1++[f]},{e.2 with i1:=(AN (l++e::r)++G').length})::r,G2,hG,hB2,WM hB' hek (by rw[hbk,hfs]) Z⟩
      ·
        cases hst;have happ:app e.1.r2 [f]=some (e.1.r2++[f]):=aZ hrm.2.2.1;refine FC 18 [14] [(0,0,1),(0,0,1),(0,0,1),(0,0,1),(0,0,0),(0,0,0),(0,0,0),(0,0,0),(0,0,0),(0,0,0),(0,0,0),(0,0,0),(0,0,0),(0,0,0),(1,0,0),(0,0,1),(0,0,1),(0,0,1)] (by kernel_rfl) ?_;refine jO (ds':=[47,48,49,50,51,52,53,54,55,56,57,58,59,60,61,62,63,64]) Z ?_;refine DK.wa (x:=.ptr e.2.b 0) (λX=>vV (AK.move Z Z) Wp) ?_;refine DK.ad Z ?_;refine DK.wa (x:=.rp ((AC.c f).drop 47)) (λX=>vV (QD Nl Z Z Z) Wp) ?_;refine DK.ad Z ?_;refine DK.wa (x:=.rp ((AC.c f).drop 48)) (λX=>vV (QD So Z Z Z) Wp) ?_;refine DK.ad Z ?_;refine DK.wa (x:=I f.Ruling.Instance) (λX=>vV (Ez Z EH Z BD.rp) Wp) ?_;refine DK.ad Z ?_;refine DK.wo (x:=.ptr e.2.b 0) (vV (AK.move Z Z) Wp) ?_;refine DK.ad Z ?_;refine DK.wo (x:=.rp ((AC.c f).drop 47)) (vV (QD Nl Z Z Z) Wp) ?_;refine DK.ad Z ?_;refine DK.wo (x:=.rp ((AC.c f).drop 48)) (vV (QD So Z Z Z) Wp) ?_;refine DK.ad Z ?_;refine DK.wo (x:=I f.Ruling.Instance) (vV (Ez Z EH Z BD.rp) Wp) ?_;refine DK.ad Z ?_;refine DK.wo (x:=.ptr e.2.b 0) (vV (YS Z) Wp) ?_;refine DK.ad Z ?_;refine DK.wo (x:=.ptr e.2.b 1) (vV (YK J3 Z Z) Wp) ?_;refine DK.ad Z ?_;refine DK.wo (x:=.ptr e.2.b 3) (vV (Ye (n:=3) (k:=1) (j:=2) hi Z ES Ga Z) Wp) ?_;refine DK.ad Z ?_;refine DK.wo (x:=.osl e.2.i2 0 e.1.r2.length 57) (vV (Ez Z isAgg34 Z (BD.cells hl.c Z)) Wp) ?_;refine DK.ad Z ?_;refine DK.wo (x:=.agg (AC.c f)) (vV (Qv Z E5 EF Z BD.rp Z Z) Wp) ?_;refine DK.ad Z ?_;refine DK.wo (x:=.rsl 57 (map AC.c [f])) (Jq (XR _) Z Z Z (Ym (xs:=[.tmp 59]) (es:=map AC.c [f]) Jf Z Z Z Z Z ⟨Z,trivial⟩ Z Z) Wp) ?_;refine DK.ad Z ?_;refine Ex (x:=.osl (AN (l++e::r)++G').length 0 (e.1.r2++[f]).length 57) (Jq (XR _) Z Z Z (Qh (e:=AC.c) (l:=e.1.r2) (m:=[f]) happ Jf EC JR (hH:=hl.r2)) Wp) ?_ (hl:=by simp);refine DK.ad Z ?_;refine DK.wa (x:=.ptr e.2.b 0) (λX=>vV (YS Z) Wp) ?_;refine DK.ad Z ?_;refine DK.wa (x:=.ptr e.2.b 1) (λX=>vV (YK J3 Z Z) Wp) ?_;refine DK.ad Z ?_;refine DK.wa (x:=.ptr e.2.b 3) (λX=>vV (Ye (n:=3) (k:=1) (j:=2) hi Z ES Ga Z) Wp) ?_;refine DK.ad Z ?_;refine DK.done Z Z ?_;obtain⟨y,G2,hG,hB2⟩:=vR (e.1.r2++[f]) hB';refine LE (XS _) Z Z (Ey (i:=e.2.b) (off:=3) (n:=1) (v:=.osl (AN (l++e::r)++G').length 0 (e.1.r2++[f]).length 57) (vs:=[.osl (AN (l++e::r)++G').length 0 (e.1.r2++[f]).length 57]) (cs:=Yg Ue.K e.2 e.1) (cs':=Yg Ue.K {e.2 with i2:=(AN (l++e::r)++G').length} {e.1 with r2:=e.1.r2++[f]}) Z Z y Ga Z Z Z Z Z Z Z) (WO.nil ?_);exact⟨Z,⟨Z,Z,Z,Z,Z⟩,l++({e.1 with r2:=e.1.r2++[f]},{e.2 with i2:=(AN (l++e::r)++G').length})::r,G2,hG,hB2,WM hB' hek (by rw[hbk,hfs]) Z⟩
    · rw[L,Vl]at hst
      refine TC.seq (TC.region ?_);refine vV (x:=.bool (f.Kind==8)) (AK.eql Z Z Z) ?_;refine vV (AK.assign Z Z) (WO.nil ?_);refine TC.cond (t:=f.Kind==8) Z (λh8=>?_) (λh8=>?_)
      · rw[h8,Vk]at hst
        obtain⟨hroom,hst⟩:=nP hst;cases hst;refine TC.seq (TC.region ?_);refine vV (AK.move Z Z) ?_;refine vV (QD pD Z Z Z) ?_;refine vV (QD j5 Z Z Z) ?_;refine vV (x:=I f.Report.Case) (Ez Z EH Z BD.rp) ?_;refine lO (Nn call172 Z Z Z Z) (jb f.Report.Case bk G hB) ?_ (XS _);rintro _ _ ⟨l,e,r,G',rfl,rfl,hB',hek,hbk⟩;refine vV (AK.assign Z Z) (WO.nil ?_);have hl:=hB'.laid e (by simp);have hrm:=(qC (l:=l.map (·.1)) (r:=r.map (·.1)) (x:=e.1) (by rw[<- Vf, <- Xg,hbk,hfs];exact hroom)).2.2.2;have happ:app e.1.reports [f.Report]=some (e.1.reports++[f.Report]):=aZ hrm;refine FC 11 [8] [(0,0,1),(0,0,0),(0,0,0),(0,0,0),(0,0,0),(0,0,0),(0,0,0),(0,0,0),(1,0,0),(0,0,1),(0,0,1)] (by kernel_rfl) ?_;refine DK.wa (x:=.ptr e.2.b 0) (λX=>vV (AK.move Z Z) Wp) ?_;refine DK.ad Z ?_;refine DK.wo (x:=.ptr e.2.b 0) (vV (AK.move Z Z) Wp) ?_;refine DK.ad Z ?_;refine DK.wo (x:=.ptr e.2.b 0) (vV (YS Z) Wp) ?_;refine DK.ad Z ?_;refine DK.wo (x:=.ptr e.2.b 4) (vV (YK U1 Z Z) Wp) ?_;refine DK.ad Z ?_;refine DK.wo (x:=.osl e.2.i3 0 e.1.reports.length 4) (vV (Ez Z isAgg85 Z (BD.cells hl.c Z)) Wp) ?_;refine DK.ad Z ?_;refine DK.wo (x:=.rp ((AC.c f).drop 39)) (vV (QD pD Z Z Z) Wp) ?_;refine DK.ad Z ?_;refine DK.wo (x:=.agg (Report.c f.Report)) (vV (Qv Z GL E6 Z BD.rp Z Z) Wp) ?_;refine DK.ad Z ?_;refine DK.wo (x:=.rsl 4 (map Report.c [f.Report])) (Jq (XR _) Z Z Z (Ym (xs:=[.tmp 78]) (es:=map Report.c [f.Report]) nI Z Z Z Z Z ⟨Z,trivial⟩ Z Z) Wp) ?_;refine DK.ad Z ?_;refine Ex (x:=.osl (AN (l++e::r)++G').length 0 (e.1.reports++[f.Report]).length 4) (Jq (XR _) Z Z Z (Qh (e:=Report.c) (l:=e.1.reports) (m:=[f.Report]) happ nI ET JR (hH:=hl.r3)) Wp) ?_ (hl:=by simp);refine DK.ad Z ?_;refine DK.wa (x:=.ptr e.2.b 0) (λX=>vV (YS Z) Wp) ?_;refine DK.ad Z ?_;refine DK.wa (x:=.ptr e.2.b 4) (λX=>vV (YK U1 Z Z) Wp) ?_;refine DK.ad Z ?_;refine DK.done Z Z ?_;obtain⟨y,G2,hG,hB2⟩:=vS (e.1.reports++[f.Report]) hB';refine LE (XS _) Z Z (Ey (cs':=Yg Ue.K {e.2 with i3:=(AN (l++e::r)++G').length} {e.1 with reports:=e.1.reports++[f.Report]}) Z Z y sizeOf85 Z Z Z Z Z Z Z) (WO.nil ?_);exact⟨Z,⟨Z,Z,Z,Z,Z⟩,l++({e.1 with reports:=e.1.reports++[f.Report]},{e.2 with i3:=(AN (l++e::r)++G').length})::r,G2,hG,hB2,WM hB' hek (by rw[hbk,hfs]) Z⟩
      · rw[h8,Vl]at hst
        refine TC.seq (TC.region ?_);refine vV (x:=.bool (f.Kind==11)) (AK.eql Z Z Z) ?_;refine vV (AK.assign Z Z) (WO.nil ?_);refine TC.cond (t:=f.Kind==11) Z (λM=>?_) (λM=>?_)
        · rw[M,Vk]at hst
          refine TC.seq (TC.region ?_);refine vV (QD pE Z Z Z) ?_;refine vV (QD v8 Z Z Z) ?_;refine vV (x:=.bool f.Appeal.Suspends) (Ez Z isAgg4 Z BD.rp) (WO.nil ?_);refine TC.cond (t:=f.Appeal.Suspends) Z (λhs=>?_) (λhs=>TC.skip ?_)
          · rw[hs,Vk]at hst
            cases hst;refine TC.region ?_;refine vV (AK.move Z Z) ?_;refine vV (QD pE Z Z Z) ?_;refine vV (QD v7 Z Z Z) ?_;refine vV (x:=I f.Appeal.Case) (Ez Z EH Z BD.rp) ?_;refine lO (Nn call172 Z Z Z Z) (jb f.Appeal.Case bk G hB) ?_ (XS _);rintro _ _ ⟨l,e,r,G',rfl,rfl,hB',hek,hbk⟩;refine vV (x:=.ptr e.2.b 0) (YS Z) ?_;refine vV (YK jD Z Z) ?_;have hl:=hB'.laid e (by simp);refine LE (XS _) Z Z (Ey (cs':=Yg Ue.K e.2 {e.1 with appeal:=true}) Z Z hl.c Ge Z Z Z Z Z Z Z) (WO.nil ?_);obtain⟨G2,hG,hB2⟩:=t9 hB';exact⟨Z,⟨Z,Z,Z,Z,Z⟩,_,G2,hG,hB2,WM hB' hek (by rw[hbk,hfs]) Z⟩
          · rw[hs,Vl]at hst
            cases hst;exact⟨Z,⟨Z,Z,Z,Z,Z⟩,bk,G,Z,hB,hfs⟩
        · rw[M,Vl]at hst
          cases hst;exact TC.skip ⟨Z,⟨Z,Z,Z,Z,Z⟩,bk,G,Z,hB,hfs⟩
  · rw[ht,Vl]at hs
    cases hs;have hb:=hd _ Z;refine⟨⟨_,Z⟩,?_⟩;rw[<- hb, <- hfs];exact t_ hB Z
 refine Gx 1 Z (Qd q (Gc 9 Z (vH (rj Gj) ?_)));refine Fg 2 Z Z ?_;have ai:=oD h;have P:NV _ _ _ _ _:=λp hp=>YE (ai p hp);refine uJ P (λJ=>[(12,.osl 0 0 J.length 1)]) (λJ=>[.row 222 1 (map Ue.ptr J)]) ?_ (λJ env H N q=>?_)
 .refine G0 1 Z ?_;refine vJ (enc:=(λp=>((λx=>A.int .i64 x) p.1,(GW Ue.K) p.2))) (λF=>[(12,.osl 0 0 F.length 1),(97,.ptr 1 0)]) (λF R=>[.row 222 1 (map Ue.ptr F),.iter none R]) P ?_ ?_
  .refine En (Ep (s:=12) (k:=1) (t:=222) (XP Z) Z) ?_;exact Lr [3,2]
  intro F R aj;refine G0 2 Z ?_;refine wk (enc:=(λp=>((λx=>A.int .i64 x) p.1,(GW Ue.K) p.2))) aj (λax ak al=>?_) (λg T ay O az am=>?_)
  .refine Go 7 Z (ux ?_);cases ak;exact Gx 1 Z (V1 al (Lr [0]))
  refine aV (.tup [.bool true,I g.1,.rp (Ue.c g.2)]) [.row 222 1 (map Ue.ptr F),.iter (some (I g.1,.rp (Ue.c g.2))) (map (λp=>((λx=>A.int .i64 x) p.1,(GW Ue.K) p.2)) T)] Z Z ?_;refine Go 10 Z ?_;refine vX (.tup [I g.1,.rp (Ue.c g.2)]) (AK.entry (e:=(I g.1,.rp (Ue.c g.2)))) ?_;refine Go 7 Z (vH (Ek (xs:=[.tmp 103]) (es:=map Ue.ptr [g.2]) aW Z Z Z Z Z ⟨Z,trivial⟩ Z Z) ?_);refine FE Z (Bd O λan ac O=>vH (Qh (e:=Ue.ptr) ac aW EV (QF (i:=2))) ?_);refine Fg 3 Z Z (uw _ _ O am ?_);refine En (rM (i:=1) (H':=[.dead,.iter none (map (λp=>((λx=>A.int .i64 x) p.1,(GW Ue.K) p.2)) T),.row 222 1 (map Ue.ptr [g.2]),.row 222 1 (map Ue.ptr an)]) Z Z) ?_;exact Lr [3,1]
 refine Gx 1 Z (Qd q (Gc 3 Z ?_));refine QB (Ji [(12,_),(106,_)] Z Z (Aw.cons Z Eo (Aw.cons Z Eo Aw.nil)) (Ec (YL _))) ?_;exact Cd [] N (gu _ _) Z λba ar N=>FE Z (Gt 4 Z N 2 [])
def PZ(n:Nat)(e:AA Ue)(a:(AA Report)×Int):AB (AG ((AA Report)×Int) (AA Report)):=(bif a.2<(e.length:Int) then(AJ e a.2).bind λd=>((bif 0<(d.reports.length:Int) then(AJ d.reports 0).bind λf=>(app a.1 [f]).bind λg=>some g else some a.1):AB (AA Report)).bind λh=>some (.k (h,i64.wrap (a.2+1)))else some (.d a.1))
def MW(n:Nat)(d:AA AC):AB (AA Report):=(Iv n d).bind λe=>(iter (PZ n e) n ([],0):AB (AA Report)).bind λa=>some a
theorem iP(n:Nat)(u:AA AC):Kq (MW n u) 45 [.rsl 57 (map AC.c u)] [] (λr=>.osl 0 0 r.length 4) (λr=>[.row 62 4 (map Report.c r)]):=by
 refine Kg 9 func45 Z Z Z Z λr h=>Cd [] h (UJ _ _) Z λG y h=>FE Z (Lg 3 Z Z (Bd h λf w h=>Cg f [0] [] (λf=>[(2,.osl 0 0 f.length 4)]) (λf=>[(0,.row 62 4 (map Report.c f))]) Zf ?_ ?_))
 .refine G0 1 Z (Lp [0] [6,7] (λg=>[(2,.osl 0 0 g.1.length 4),(8,I g.2)]) (λg=>[(0,.row 62 4 (map Report.c g.1))]) w Zf ?_ ?_)
  .exact En (Ep (s:=2) (XP Z) Z) (Lr [0])
  intro g z a k;refine G0 6 Z (Q5 Z a (λ_ a=>?_) (λ_ a=>?_))
  .exact Gc 2 Z (Qi a (Gx 1 Z (JC k a (Lr [0]))))
  refine Gc 6 Z (Bd a λB m a=>Iz m Z (Go 8 Z (Fr pB Z (Go 1 Z (Lg 3 Z Z (Bd a λj d a=>(Ct j [0] [6,7,8] (λj=>[(2,.osl 0 0 j.length 4)]) (λj=>[(0,.row 62 4 (map Report.c j))]) Zf ?_ (λenv H x=>?_))))))))
  .refine G0 0 Z (Cn Z d (λ_ d=>?_) (λ_ d=>?_))
   .refine Gc 4 Z (Fr pB Z (Go 1 Z (Bd d λE q d=>Iz q Z (Go 1 Z (vH (Ek (xs:=[.tmp 24]) WE Z Z Z Z Z ⟨Z,trivial⟩ Z Z) ?_)))));refine FE Z (Bd d λF t d=>vH (Qh (e:=Report.c) t WE ET (QF (i:=1))) ?_);exact FE Z (Gl 2 Z d [2])
   exact YM 1 Z d [0]
  exact Gx 2 Z (Qd x (Gc 4 Z (Qg a (Lr [0]))))
 exact QJ 7 Z h 2 [0]
def Rh(n:Nat)(a:Ue):AB Bool:=((bif a.appeal then(AJ ([a.r0,a.r1,a.r2]:AA (AA AC)) 1).bind λe=>(bif 0<(e.length:Int) then(AJ ([a.r0,a.r1,a.r2]:AA (AA AC)) 2).bind λd=>some ((d.length:Int)==0)else some false)else some false):AB Bool).bind λf=>some f
theorem f9(n:Nat)(g:Ue):Ks (Rh n g) 176 [.rp (Ue.c g)] [] (λr=>.bool r):=by
 refine Kg 6 func176 Z Z Z Z λr h=>Bd h λd a h=>Cg d [] [] (λd=>[(2,.bool d)]) Ze Zf ?_ ?_
 .refine G0 3 Z (Fr wB Z (Go 2 Z (Is 7 a Z (λ_ a=>?_) (λ_ a=>?_))))
  .refine Go 2 Z (tT (gT Z) J3 Z (Bd a λp j a=>(vV (lK (f:=λl=>.rsl 57 (map AC.c l)) j Z Z ES Ga Z) ?_ (gT Z))));refine Go 1 Z (Lg 3 Z Z (Is 16 a Z (λ_ a=>?_) (λ_ a=>?_)))
   .refine Go 2 Z (tT (gT Z) J3 Z (Bd a λm e a=>(vV (lK (f:=λl=>.rsl 57 (map AC.c l)) e Z Z ES Ga Z) ?_ (gT Z))));exact Go 1 Z (Lm Z (Gl 4 Z a []))
   .exact Gl 10 Z a []
  .exact Gl 19 Z a []
 exact QJ 1 Z h 2 []
def HD(n:Nat)(e:Ue)(a:Int):AB (AG Int (AG Unit (Ruling×Bool))):=(bif 0<a then(AJ ([e.r0,e.r1,e.r2]:AA (AA AC)) a).bind λd=>(bif 0<(d.length:Int) then(AJ d 0).bind λf=>some (.d (.d (f.Ruling,true)))else some (.k (i64.wrap (a-1))))else some (.d (.k ())))
def Mb(n:Nat)(d:Ue):AB (Ruling×Bool):=(Rh n d).bind λf=>(bif f then some (Ux,false)else(iter (HD n d) n 2:AB (AG Unit (Ruling×Bool))).bind λe=>match e with|.k a=>(some (Ux,false))|.d a=>some a)
theorem iU(n:Nat)(m:Ue):Kq (Mb n m) 114 [.rp (Ue.c m)] [] (λr=>.tup [.agg (Ruling.c r.1),.bool r.2]) (λr=>[.cells 66 (Ruling.c r.1)]):=by
 refine Kg 10 func114 Z Z Z Z λr h=>Cz [] h (f9 _ _) Z λB w h=>Go 2 Z (Cn Z h (λ_ h=>?_) (λ_ h=>?_))
 .refine Gc 9 Z ?_;obtain rfl:=Oi h;exact Rx [0] [2,3] Z (Qo Z Z (Aa.cons (Qk GB E7 Z Z Z) (Aa.cons BT.tmp Aa.nil))) ⟨Z,Z⟩
 refine Gc 8 Z (Bd h λq s h=>BZ (b:=q) [0] [2] Ze Ze Zf ?_ (λ_ t=>?_))
 .refine G0 1 Z (Lp [0] [0,2] (λe=>[(4,I e)]) Ze s Zf (Lr [0]) λe x a d=>(G0 7 Z (Q5 Z a (λ_ a=>?_) (λ_ a=>?_))))
  .exact Gc 2 Z (Qi a (Gx 1 Z (JD d a Z (Lr [0]))))
  refine Gc 9 Z (Fr J3 Z (Bd a λy i a=>(vV (lK (f:=λl=>.rsl 57 (map AC.c l)) i Z Z ES Ga Z) ?_)));refine Go 7 Z (Lg 3 Z Z (Cn Z a (λ_ a=>?_) (λ_ a=>?_)))
  .refine Gc 3 Z (Bd a λz k a=>Iz k Z (Go 9 Z (Qx a ?_)));obtain rfl:=Oj d a;obtain rfl:=Oi h;exact Rx [0] [2,3] Z (Qo Z Z (Aa.cons (Qk GB E7 Z Z Z) (Aa.cons BT.tmp Aa.nil))) ⟨Z,Z⟩
  exact Gc 8 Z (Qg a (Lr [0]))
 subst t;refine Gc 8 Z ?_;obtain rfl:=Oi h;exact Rx [0] [2,3] Z (Qo Z Z (Aa.cons (Qk GB E7 Z Z Z) (Aa.cons BT.tmp Aa.nil))) ⟨Z,Z⟩
def Pm(n:Nat)(e:AA Ue)(a:(AA Ruling)×Int):AB (AG ((AA Ruling)×Int) (AA Ruling)):=(bif a.2<(e.length:Int) then(AJ e a.2).bind λf=>(Mb n f).bind λd=>((bif d.2 then(app a.1 [d.1]).bind λg=>some g else some a.1):AB (AA Ruling)).bind λh=>some (.k (h,i64.wrap (a.2+1)))else some (.d a.1))
def Ly(n:Nat)(d:AA AC):AB (AA Ruling):=(Iv n d).bind λe=>(iter (Pm n e) n ([],0):AB (AA Ruling)).bind λa=>some a
theorem gm(n:Nat)(t:AA AC):Kq (Ly n t) 46 [.rsl 57 (map AC.c t)] [] (λr=>.osl 0 0 r.length 6) (λr=>[.row 66 6 (map Ruling.c r)]):=by
 refine Kg 9 func46 Z Z Z Z λr h=>Cd [] h (UJ _ _) Z λG y h=>FE Z (Lg 3 Z Z (Bd h λf u h=>Cg f [0] [] (λf=>[(2,.osl 0 0 f.length 6)]) (λf=>[(0,.row 66 6 (map Ruling.c f))]) Zf ?_ ?_))
 .refine G0 1 Z (Lp [0] [9,10] (λg=>[(2,.osl 0 0 g.1.length 6),(11,I g.2)]) (λg=>[(0,.row 66 6 (map Ruling.c g.1))]) u Zf ?_ ?_)
  .exact En (Ep (s:=2) (XP Z) Z) (Lr [0])
  intro g z a k;refine G0 6 Z (Q5 Z a (λ_ a=>?_) (λ_ a=>?_))
  .exact Gc 2 Z (Qi a (Gx 1 Z (JC k a (Lr [0]))))
  refine Gc 6 Z (Bd a λB m a=>Iz m Z (Go 14 Z (Cd [] a (iU _ _) Z λE x a=>Fg 13 Z Z (Bd a λj d a=>Ct j [0] [9,10,11] (λj=>[(2,.osl 0 0 j.length 6)]) (λj=>[(0,.row 66 6 (map Ruling.c j))]) Zf ?_ (λenv H w=>?_)))))
  .refine G0 0 Z (Cn Z d (λ_ d=>?_) (λ_ d=>?_))
   .refine Gc 3 Z (vH (Ek (xs:=[.tmp 24]) WG Z Z Z Z Z ⟨Z,trivial⟩ Z Z) ?_);refine FE Z (Bd d λF q d=>vH (Qh (e:=Ruling.c) q WG Gp (QF (i:=3))) ?_);exact FE Z (Gl 2 Z d [4])
   exact YM 1 Z d [0]
  exact Gx 2 Z (Qd w (Gc 4 Z (Qg a (Lr [0]))))
 exact QJ 7 Z h 2 [0]
def Zd(n:Nat):AB (AA (Int×Uc)):=(some (QR [] 3 ({penalty:=115:Uc}))).bind λm1=>(some (QR m1 4 ({penalty:=116:Uc}))).bind λm2=>(some (QR m2 5 ({penalty:=117:Uc}))).bind λa=>some a
theorem eS(n:Nat):Kq (Zd n) 47 [] [] (λ_=>.map 0) (λr=>[.map (Qt (λx=>A.int .i64 x) (λx=>A.agg (Uc.c x)) r)]):=by
 refine Kg 7 func47 Z Z Z Z λr h=>vH Yn (Fg 1 Z Z (Bd h λm1 a h=>?_));refine vU (jm Z (Yl (ev:=(λx=>A.agg (Uc.c x))) Ja a Z Gw)) ?_;refine Fg 1 Z Z (Bd h λm2 d h=>(vU (jm Z (Yl Ja d Z Gw)) ?_));refine Fg 1 Z Z (Bd h λf e h=>(vU (jm Z (Yl Ja e Z Gw)) ?_));exact FE Z (Gt 5 Z h 0 [0])
def RC(n:Nat)(a:AA (Int×Bool)):AB Unit:=some ()
theorem fP(n:Nat)(a:AA (Int×Bool)):Kq (RC n a) 49 [.map 0] [.map (Qt (λx=>A.int .i64 x) A.bool a)] (λ_=>.fn (.func 120) [] [.ptr 1 0]) (λ_=>[.map (Qt (λx=>A.int .i64 x) A.bool a),.cells 134 [.map 0]]):=by
 exact Kg 13 func49 Z Z Z Z λr h=>Rt h 2 [0,1]
def R_(n:Nat)(a:AA (Int×Bool)):AB (AA Int):=SX (map Prod.fst a) λp1=>(Cw p1).bind λd=>some d
theorem gZ(n:Nat)(d:AA (Int×Bool)):Kq (R_ n d) 48 [.fn (.func 120) [] [.ptr 0 0]] [.cells 134 [.map 1],.map (Qt (λx=>A.int .i64 x) A.bool d)] (λr=>.osl 2 0 r.length 1) (λr=>[.dead,.fmap (Qt (λx=>A.int .i64 x) A.bool d),.row 3 1 (map (Qc .i64) r)]):=by
 refine Kg 8 func48 Z Z Z Z λr h=>(QB (n7 (i:=1) Z) ?_);obtain⟨e,h⟩:=oC h;refine QC [0,1] (Bh.fn call118 Z Z Z) (zp _ e) ?_;rintro _ _ ⟨p1,f,rfl,rfl⟩;have h:=h p1 f;refine Fg 6 Z Z (Bd h λg a h=>(QC [2] (Bh.fn call119 Z Z Z) (ny tN a) ?_));rintro _ _ ⟨rfl,rfl⟩;refine QB (QO (s:=3) Z (congrArg (λn=>A.osl 2 0 n 1) (lG a))) ?_;exact Gt 9 Z h 2 [0,1,2]
def Zt(n:Nat)(a:Ruling):AB Unit:=some ()
theorem e8(n:Nat)(a:Ruling):Kq (Zt n a) 115 [.agg (Ruling.c a)] [] (λ_=>.agg [I a.Position,I a.Amount,I 0,.bool false]) (λ_=>[.cells 76 [I a.Position,I a.Amount,I 0,.bool false]]):=by
 refine Kg 17 func115 Z Z Z Z λr h=>?_;exact Rx [1] [2] Z (Yk Z (Qk EX EI Z Z Z)) ⟨Z,Z⟩
def ZK(n:Nat)(a:Ruling):AB Unit:=some ()
theorem d8(n:Nat)(a:Ruling):Kq (ZK n a) 116 [.agg (Ruling.c a)] [] (λ_=>.agg [I a.Position,I 0,I a.Amount,.bool false]) (λ_=>[.cells 76 [I a.Position,I 0,I a.Amount,.bool false]]):=by
 refine Kg 17 func116 Z Z Z Z λr h=>?_;exact Rx [1] [2] Z (Yk Z (Qk EX EI Z Z Z)) ⟨Z,Z⟩
def Zk(n:Nat)(a:Ruling):AB Unit:=some ()
theorem eX(n:Nat)(a:Ruling):Kq (Zk n a) 117 [.agg (Ruling.c a)] [] (λ_=>.agg [I a.Position,I 0,I 0,.bool true]) (λ_=>[.cells 76 [I a.Position,I 0,I 0,.bool true]]):=by
 refine Kg 15 func117 Z Z Z Z λr h=>?_;exact Rx [1] [2] Z (Yk Z (Qk EX EI Z Z Z)) ⟨Z,Z⟩
end Go.Sw
