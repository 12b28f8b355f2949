/- What the functions compute that PenaltiesCasesSpec reaches, and that their calls refine it (part 2 of 5). -/
import Derived.Test.YtdlojdpflfdgcaaGreatDoorW22Cs1
set_option linter.unusedVariables false
set_option linter.unusedSimpArgs false
set_option maxRecDepth 100000
set_option maxHeartbeats 4000000
namespace Go.Sw
open List(map)
open Int(toNat)
open Go.IntKind(i64 u64 u8)
open Go.Proofs Tryz
def Q_facts_open_rxk(d:Fact)(e:Int):U_facts_open_rxk->Go.Sw.A->Qc->Prop
  |.c0 x,a,H=>a=.tup [.agg [.osl 2 0 8 3,.fn (.func 248) [] []],.bool true]/\H=[.cells 72 (Fact.c d),.cells 3 [I e],.rowr 293 3 [[.ptr 0 4,I 1,I 9999],[.ptr 0 5,I 0,I 7],[.ptr 0 6,I 0,I 31],[.ptr 0 7,I (-1099511627776),I 1099511627776],[.ptr 0 8,I 0,I 120],[.ptr 0 9,I 0,I 1048576],[.ptr 0 10,I 0,I 9999],[.ptr 0 11,I 0,I 1048576]],.cells 283 [.osl 2 0 8 3,.fn (.func 248) [] []]]
  |.c1 x,a,H=>a=.tup [.agg [.osl 2 0 4 3,.fn (.func 248) [] []],.bool true]/\H=[.cells 72 (Fact.c d),.cells 3 [I e],.rowr 293 3 [[.ptr 0 12,I 0,I 39],[.ptr 0 13,I 0,I 255],[.ptr 0 14,I 0,I 1048576],[.ptr 0 15,I (-1099511627776),I 1099511627776]],.cells 283 [.osl 2 0 4 3,.fn (.func 248) [] []]]
  |.c2 x,a,H=>a=.tup [.agg [.osl 2 0 5 3,.fn (.func 248) [] []],.bool true]/\H=[.cells 72 (Fact.c d),.cells 3 [I e],.rowr 293 3 [[.ptr 0 16,I 0,I 39],[.ptr 0 17,I 0,I 255],[.ptr 0 18,I (-1099511627776),I 1099511627776],[.ptr 0 19,I (-1099511627776),I 1099511627776],[.ptr 0 20,I 0,I 1099511627776]],.cells 283 [.osl 2 0 5 3,.fn (.func 248) [] []]]
  |.c3 x,a,H=>a=.tup [.agg [.osl 2 0 8 3,.fn (.func 249) [] [.ptr 3 0]],.bool true]/\H=[.cells 72 (Fact.c d),.cells 3 [I e],.rowr 293 3 [[.ptr 0 21,I 0,I 39],[.ptr 0 22,I 0,I 255],[.ptr 0 23,I (-1099511627776),I 1099511627776],[.ptr 0 24,I 0,I 39],[.ptr 0 25,I 0,I 255],[.ptr 0 26,I (-1099511627776),I 1099511627776],[.ptr 0 27,I (-1099511627776),I 1099511627776],[.ptr 0 28,I (-1099511627776),I 1099511627776]],.cells 345 [.ptr 0 21],.cells 283 [.osl 2 0 8 3,.fn (.func 249) [] [.ptr 3 0]]]
  |.c4 x,a,H=>a=.tup [.agg [.osl 2 0 4 3,.fn (.func 250) [] [.ptr 3 0]],.bool true]/\H=[.cells 72 (Fact.c d),.cells 3 [I e],.rowr 293 3 [[.ptr 0 29,I 1,I 9999],[.ptr 0 30,I 0,I 255],[.ptr 0 31,I (-1099511627776),I 1099511627776],[.ptr 0 32,I (-1099511627776),I 1099511627776]],.cells 346 [.ptr 0 29],.cells 283 [.osl 2 0 4 3,.fn (.func 250) [] [.ptr 3 0]]]
  |.c5 x,a,H=>a=.tup [.agg [.osl 2 0 4 3,.fn (.func 251) [] [.ptr 3 0]],.bool true]/\H=[.cells 72 (Fact.c d),.cells 3 [I e],.rowr 293 3 [[.ptr 0 33,I 0,I 39],[.ptr 0 34,I 0,I 255],[.ptr 0 35,I (-1099511627776),I 1099511627776],[.ptr 0 36,I (-1099511627776),I 1099511627776]],.cells 347 [.ptr 0 33],.cells 283 [.osl 2 0 4 3,.fn (.func 251) [] [.ptr 3 0]]]
  |.c6 x,a,H=>a=.tup [.agg [.osl 2 0 2 3,.fn (.func 252) [] [.ptr 3 0]],.bool true]/\H=[.cells 72 (Fact.c d),.cells 3 [I e],.rowr 293 3 [[.ptr 0 37,I 1,I 9999],[.ptr 0 38,I 1,I 9999]],.cells 348 [.ptr 0 37],.cells 283 [.osl 2 0 2 3,.fn (.func 252) [] [.ptr 3 0]]]
  |.c7 x,a,H=>a=.tup [.agg [.osl 2 0 4 3,.fn (.func 248) [] []],.bool true]/\H=[.cells 72 (Fact.c d),.cells 3 [I e],.rowr 293 3 [[.ptr 0 39,I 1,I 1048576],[.ptr 0 40,I 1,I 9999],[.ptr 0 41,I 0,I 31],[.ptr 0 42,I 0,I 255]],.cells 283 [.osl 2 0 4 3,.fn (.func 248) [] []]]
  |.c8 x,a,H=>a=.tup [.agg [.osl 2 0 4 3,.fn (.func 248) [] []],.bool true]/\H=[.cells 72 (Fact.c d),.cells 3 [I e],.rowr 293 3 [[.ptr 0 43,I 1,I 1048576],[.ptr 0 44,I 0,I 9999],[.ptr 0 45,I 0,I 1125899906842624],[.ptr 0 46,I 0,I 1]],.cells 283 [.osl 2 0 4 3,.fn (.func 248) [] []]]
  |.c9 x,a,H=>a=.tup [.agg [.osl 2 0 6 3,.fn (.func 248) [] []],.bool true]/\H=[.cells 72 (Fact.c d),.cells 3 [I e],.rowr 293 3 [[.ptr 0 47,I 1,I 1048576],[.ptr 0 48,I 1,I 2],[.ptr 0 49,I 1,I 5],[.ptr 0 50,I x.1,I x.2.1],[.ptr 0 51,I x.2.2.1,I x.2.2.2.1],[.ptr 0 52,I x.2.2.2.2.1,I x.2.2.2.2.2]],.cells 283 [.osl 2 0 6 3,.fn (.func 248) [] []]]
  |.c10 x,a,H=>a=.tup [.agg [.osl 2 0 2 3,.fn (.func 248) [] []],.bool true]/\H=[.cells 72 (Fact.c d),.cells 3 [I e],.rowr 293 3 [[.ptr 0 53,I 1,I 1048576],[.ptr 1 0,I 0,I 1]],.cells 283 [.osl 2 0 2 3,.fn (.func 248) [] []]]
  |.c11 x,a,H=>a=.tup [.agg [.nils,.fn (.func 248) [] []],.bool true]/\H=[.cells 72 (Fact.c d),.cells 3 [I e],.cells 283 [.nils,.fn (.func 248) [] []]]
  |.c12 x,a,H=>a=.tup [.agg [.osl 2 0 2 3,.fn (.func 248) [] []],.bool true]/\H=[.cells 72 (Fact.c d),.cells 3 [I e],.rowr 293 3 [[.ptr 0 55,I 0,I 31],[.ptr 0 56,I 1,I 1048576]],.cells 283 [.osl 2 0 2 3,.fn (.func 248) [] []]]
  |.c13 x,a,H=>a=.tup [.agg [.nils,.nilf],.bool false]/\H=[.cells 72 (Fact.c d),.cells 3 [I e],.cells 283 [.nils,.nilf]]
def F_bj(n:Nat)(a:Fact)(f:Int):Option U_facts_open_rxk:=(bif (a.Kind==1)then some (U_facts_open_rxk.c0 ())else(bif (a.Kind==2)then some (U_facts_open_rxk.c1 ())else(bif (a.Kind==3)then some (U_facts_open_rxk.c2 ())else(bif (a.Kind==4)then some (U_facts_open_rxk.c3 ())else(bif (a.Kind==5)then some (U_facts_open_rxk.c4 ())else(bif (a.Kind==6)then some (U_facts_open_rxk.c5 ())else(bif (a.Kind==7)then some (U_facts_open_rxk.c6 ())else(bif (a.Kind==8)then some (U_facts_open_rxk.c7 ())else(bif (a.Kind==9)then some (U_facts_open_rxk.c8 ())else(bif (a.Kind==10)then((bif (a.Ruling.Kind==1)then some (a.Ruling.Kind==1)else some (a.Ruling.Kind==2)):Option Bool).bind λe=>((bif e then some ({least:=0,most:=0:Ub},{least:=0,most:=0:Ub},{least:=0,most:=0:Ub})else(bif (a.Ruling.Kind==3)then some ({least:=1,most:=9999:Ub},{least:=0,most:=255:Ub},{least:=1,most:=1099511627776:Ub})else(bif (a.Ruling.Kind==4)then some ({least:=1,most:=9999:Ub},{least:=0,most:=255:Ub},{least:=1,most:=64:Ub})else some ({least:=1,most:=9999:Ub},{least:=0,most:=255:Ub},{least:=0,most:=0:Ub})))):Option (Ub×Ub×Ub)).bind λd=>some (U_facts_open_rxk.c9 (d.1.least,d.1.most,d.2.1.least,d.2.1.most,d.2.2.least,d.2.2.most))else(bif (a.Kind==11)then some (U_facts_open_rxk.c10 ())else(bif (a.Kind==12)then some (U_facts_open_rxk.c11 ())else(bif (a.Kind==13)then some (U_facts_open_rxk.c12 ())else some (U_facts_open_rxk.c13 ()))))))))))))))
theorem k_bj(n:Nat)(d:Fact)(e:Int)(r:U_facts_open_rxk)(h:F_bj n d e=some r):C prog 189 [.ptr 0 0,.ptr 1 0] [.cells 72 (Fact.c d),.cells 3 [I e]] (Q_facts_open_rxk d e r):=by
 refine QE func189 Z Z Z ?_;refine G0 22 Z (Cn Z h (λ_ h=>?_) (λ_ h=>?_))
 .refine Gc 9 Z (DSs 40 Z (D 40 Z (Eg Z ?_)));refine vH (Y0 (xs:=[.tmp 32,.tmp 37,.tmp 42,.tmp 47,.tmp 52,.tmp 57,.tmp 62,.tmp 67]) JE Z Z Z Z Z ⟨Z,Z,Z,Z,Z,Z,Z,Z,trivial⟩ Z) ?_;refine Fg 8 Z Z ?_;obtain rfl:=Oi h;exact Rx [0,1,3,2] [4,5] Z (Qp Z Z (Qlb.cons (Qg EZ EW Z Z Z) (Qlb.cons QdB.tmp Qlb.nil))) ⟨Z,Z⟩
 refine Gc 6 Z (Cn Z h (λ_ h=>?_) (λ_ h=>?_))
 .refine Gc 9 Z (DSs 20 Z (D 20 Z (Eg Z ?_)));refine vH (Y0 (xs:=[.tmp 79,.tmp 84,.tmp 89,.tmp 94]) JE Z Z Z Z Z ⟨Z,Z,Z,Z,trivial⟩ Z) ?_;refine Fg 8 Z Z ?_;obtain rfl:=Oi h;exact Rx [0,1,3,2] [4,5] Z (Qp Z Z (Qlb.cons (Qg EZ EW Z Z Z) (Qlb.cons QdB.tmp Qlb.nil))) ⟨Z,Z⟩
 refine Gc 6 Z (Cn Z h (λ_ h=>?_) (λ_ h=>?_))
 .refine Gc 9 Z (DSs 25 Z (D 25 Z (Eg Z ?_)));refine vH (Y0 (xs:=[.tmp 106,.tmp 111,.tmp 116,.tmp 121,.tmp 126]) JE Z Z Z Z Z ⟨Z,Z,Z,Z,Z,trivial⟩ Z) ?_;refine Fg 8 Z Z ?_;obtain rfl:=Oi h;exact Rx [0,1,3,2] [4,5] Z (Qp Z Z (Qlb.cons (Qg EZ EW Z Z Z) (Qlb.cons QdB.tmp Qlb.nil))) ⟨Z,Z⟩
 refine Gc 6 Z (Cn Z h (λ_ h=>?_) (λ_ h=>?_))
 .refine Gc 10 Z (DAs 42 40 [0,0,0,0,0,0,0,0,0,0,0,0,0,0,0,0,0,0,0,0,0,0,0,0,0,0,0,0,0,0,0,0,0,0,0,0,0,0,0,0,1,3] (by kernel_rfl) (Da 40 Z ?_));refine QbH (Y0 (xs:=[.tmp 138,.tmp 143,.tmp 148,.tmp 153,.tmp 158,.tmp 163,.tmp 168,.tmp 173]) JE Z Z Z Z Z ⟨Z,Z,Z,Z,Z,Z,Z,Z,trivial⟩ Z) Z Z (Db 1 Z (DB.done Z (Go 8 Z ?_)));obtain rfl:=Oi h;exact Rx [0,1,4,3,2] [4,5] Z (Qp Z Z (Qlb.cons (Qg EZ EW Z Z Z) (Qlb.cons QdB.tmp Qlb.nil))) ⟨Z,Z⟩
 refine Gc 6 Z (Cn Z h (λ_ h=>?_) (λ_ h=>?_))
 .refine Gc 10 Z (DAs 22 20 [0,0,0,0,0,0,0,0,0,0,0,0,0,0,0,0,0,0,0,0,1,3] (by kernel_rfl) (Da 20 Z ?_));refine QbH (Y0 (xs:=[.tmp 186,.tmp 191,.tmp 196,.tmp 201]) JE Z Z Z Z Z ⟨Z,Z,Z,Z,trivial⟩ Z) Z Z (Db 1 Z (DB.done Z (Go 8 Z ?_)));obtain rfl:=Oi h;exact Rx [0,1,4,3,2] [4,5] Z (Qp Z Z (Qlb.cons (Qg EZ EW Z Z Z) (Qlb.cons QdB.tmp Qlb.nil))) ⟨Z,Z⟩
 refine Gc 6 Z (Cn Z h (λ_ h=>?_) (λ_ h=>?_))
 .refine Gc 10 Z (DAs 22 20 [0,0,0,0,0,0,0,0,0,0,0,0,0,0,0,0,0,0,0,0,1,3] (by kernel_rfl) (Da 20 Z ?_));refine QbH (Y0 (xs:=[.tmp 214,.tmp 219,.tmp 224,.tmp 229]) JE Z Z Z Z Z ⟨Z,Z,Z,Z,trivial⟩ Z) Z Z (Db 1 Z (DB.done Z (Go 8 Z ?_)));obtain rfl:=Oi h;exact Rx [0,1,4,3,2] [4,5] Z (Qp Z Z (Qlb.cons (Qg EZ EW Z Z Z) (Qlb.cons QdB.tmp Qlb.nil))) ⟨Z,Z⟩
 refine Gc 6 Z (Cn Z h (λ_ h=>?_) (λ_ h=>?_))
 .refine Gc 10 Z (DAs 12 10 [0,0,0,0,0,0,0,0,0,0,1,3] (by kernel_rfl) (Da 10 Z ?_));refine QbH (Y0 (xs:=[.tmp 242,.tmp 247]) JE Z Z Z Z Z ⟨Z,Z,trivial⟩ Z) Z Z (Db 1 Z (DB.done Z (Go 8 Z ?_)));obtain rfl:=Oi h;exact Rx [0,1,4,3,2] [4,5] Z (Qp Z Z (Qlb.cons (Qg EZ EW Z Z Z) (Qlb.cons QdB.tmp Qlb.nil))) ⟨Z,Z⟩
 refine Gc 6 Z (Cn Z h (λ_ h=>?_) (λ_ h=>?_))
 .refine Gc 9 Z (DSs 20 Z (D 20 Z (Eg Z ?_)));refine vH (Y0 (xs:=[.tmp 260,.tmp 265,.tmp 270,.tmp 275]) JE Z Z Z Z Z ⟨Z,Z,Z,Z,trivial⟩ Z) ?_;refine Fg 8 Z Z ?_;obtain rfl:=Oi h;exact Rx [0,1,3,2] [4,5] Z (Qp Z Z (Qlb.cons (Qg EZ EW Z Z Z) (Qlb.cons QdB.tmp Qlb.nil))) ⟨Z,Z⟩
 refine Gc 6 Z (Cn Z h (λ_ h=>?_) (λ_ h=>?_))
 .refine Gc 9 Z (DSs 20 Z (D 20 Z (Eg Z ?_)));refine vH (Y0 (xs:=[.tmp 287,.tmp 292,.tmp 297,.tmp 302]) JE Z Z Z Z Z ⟨Z,Z,Z,Z,trivial⟩ Z) ?_;refine Fg 8 Z Z ?_;obtain rfl:=Oi h;exact Rx [0,1,3,2] [4,5] Z (Qp Z Z (Qlb.cons (Qg EZ EW Z Z Z) (Qlb.cons QdB.tmp Qlb.nil))) ⟨Z,Z⟩
 refine Gc 6 Z (Cn Z h (λ_ h=>?_) (λ_ h=>?_))
 .refine Gc 9 Z ?_;refine YS 8 3 [310,311,312,16,17,18,1000006,1000007] [false,false,false,true,true,true,true,true] [[],[],[],[],[],[],[3,4,5],[3,4,5,6]] [[],[3],[4],[5],[3,4],[3,5],[4,5],[3,4,5],[3,4,5,6],[3,4,5,6,7]] [[(0,0),(1,1),(2,2),(3,3),(4,4),(5,5),(6,6),(7,7)],[(0,0),(1,1),(2,2),(3,3),(4,4),(5,5),(6,6),(7,7),(8,8)],[(0,0),(1,1),(2,2),(3,3),(4,4),(5,5),(6,6),(7,7),(8,8),(9,9)],[(0,1),(2,4),(3,5),(6,7)],[(0,2),(1,4),(3,6),(5,7)],[(0,3),(1,5),(2,6),(4,7)],[(7,8)],[(8,9)]] [.agg [I 1,I 9999],.agg [I 0,I 255],.agg [I 0,I 0],.ptr 3 0,.ptr 4 0,.ptr 5 0,.any,.any] [[.cells 72 (Fact.c d),.cells 3 [I e],.cells 283 [.nils,.nilf],.dead,.dead,.dead],[.cells 72 (Fact.c d),.cells 3 [I e],.cells 283 [.nils,.nilf],.cells 291 [I 0,I 0],.dead,.dead],[.cells 72 (Fact.c d),.cells 3 [I e],.cells 283 [.nils,.nilf],.dead,.cells 291 [I 0,I 0],.dead],[.cells 72 (Fact.c d),.cells 3 [I e],.cells 283 [.nils,.nilf],.dead,.dead,.cells 291 [I 0,I 0]],[.cells 72 (Fact.c d),.cells 3 [I e],.cells 283 [.nils,.nilf],.cells 291 [I 0,I 0],.cells 291 [I 0,I 0],.dead],[.cells 72 (Fact.c d),.cells 3 [I e],.cells 283 [.nils,.nilf],.cells 291 [I 0,I 0],.dead,.cells 291 [I 0,I 0]],[.cells 72 (Fact.c d),.cells 3 [I e],.cells 283 [.nils,.nilf],.dead,.cells 291 [I 0,I 0],.cells 291 [I 0,I 0]],[.cells 72 (Fact.c d),.cells 3 [I e],.cells 283 [.nils,.nilf],.cells 291 [I 0,I 0],.cells 291 [I 0,I 0],.cells 291 [I 0,I 0]],[.cells 72 (Fact.c d),.cells 3 [I e],.cells 283 [.nils,.nilf],.cells 291 [I 1,I 9999],.cells 291 [I 0,I 0],.cells 291 [I 0,I 0]],[.cells 72 (Fact.c d),.cells 3 [I e],.cells 283 [.nils,.nilf],.cells 291 [I 1,I 9999],.cells 291 [I 0,I 255],.cells 291 [I 0,I 0]]] ([.cells 72 (Fact.c d),.cells 3 [I e],.cells 283 [.nils,.nilf],.cells 291 [I 1,I 9999],.cells 291 [I 0,I 255],.cells 291 [I 0,I 0]]) draws Z Z Z Z Z Z Z ?_ Z ?_
  .refine QiA.cons (Qb (v0 Z Z) (Qb (v0 Z Z) (Qb (v0 Z Z) (Qb (v0 Z Z) (Qb (v0 Z Z) (Qb (v0 Z Z) (Qb (v0 Z Z) (Qb (v0 Z Z) (Qd))))))))) (QiA.cons (Qb (v0 Z Z) (Qb (v0 Z Z) (Qb (v0 Z Z) (Qb (v0 Z Z) (Qb (v0 Z Z) (Qb (v0 Z Z) (Qb (v0 Z Z) (Qb (v0 Z Z) (Qb (v0 Z Z) (Qd)))))))))) (QiA.cons (Qb (v0 Z Z) (Qb (v0 Z Z) (Qb (v0 Z Z) (Qb (v0 Z Z) (Qb (v0 Z Z) (Qb (v0 Z Z) (Qb (v0 Z Z) (Qb (v0 Z Z) (Qb (v0 Z Z) (Qb (v0 Z Z) (Qd))))))))))) (QiA.cons ?_ (QiA.cons ?_ (QiA.cons ?_ (QiA.cons ?_ (QiA.cons ?_ (QiA.nil))))))))
   .refine Qb ?_ (Qb ?_ (Qb ?_ (Qb ?_ (Qd))))
    iterate 4 exact JP.alloc _ 16 291 3 _ Z Z Z Z Z Z Z (OpZ.alloc (v:=(.agg [I 0,I 0])) EN (zrC Z)) Z
   .refine Qb ?_ (Qb ?_ (Qb ?_ (Qb ?_ (Qd))))
    iterate 4 exact JP.alloc _ 17 291 4 _ Z Z Z Z Z Z Z (OpZ.alloc (v:=(.agg [I 0,I 0])) EN (zrC Z)) Z
   .refine Qb ?_ (Qb ?_ (Qb ?_ (Qb ?_ (Qd))))
    iterate 4 exact JP.alloc _ 18 291 5 _ Z Z Z Z Z Z Z (OpZ.alloc (v:=(.agg [I 0,I 0])) EN (zrC Z)) Z
   .refine Qb ?_ (Qd)
    .refine Om2 Z (sD 3 (sD 0 sN)) ?_;refine vU (Ex Z Z Z sizeOf291 Z Z Z Z Z Z Z) ?_;exact FE Z Wp
   .refine Qb ?_ (Qd)
    .refine Om2 Z (sD 4 (sD 1 sN)) ?_;refine vU (Ex Z Z Z sizeOf291 Z Z Z Z Z Z Z) ?_;exact FE Z Wp
  refine Go 20 Z (Bd h λi f h=>Ct i [0,1,2,3,4,5] [4,15,16,17,18,316] (λi=>[(317,.bool i)]) Ze Zf ?_ (λenv H j=>?_))
  .refine G0 0 Z (Cn Z f (λ_ f=>?_) (λ_ f=>?_))
   .exact YC 1 Z f [0,1,2,3,4,5]
   exact YC 4 Z f [0,1,2,3,4,5]
  refine Gx 1 Z (Qf j (Bd h λg a h=>Ct g [0,1,2,3,4,5] [4,15,16,17,18] Ze (λg=>[(3,.cells 291 (Ub.c g.1)),(4,.cells 291 (Ub.c g.2.1)),(5,.cells 291 (Ub.c g.2.2))]) Zf ?_ (λenv H j=>?_)))
  .refine G0 0 Z (Cn Z a (λ_ a=>?_) (λ_ a=>?_))
   .exact YC 6 Z a [0,1,2,3,4,5]
   iterate 2 (refine Gc 6 Z (Cn Z a (λ_ a=>?_) (λ_ a=>?_));exact YC 4 Z a [0,1,2,3,4,5])
   exact YC 1 Z a [0,1,2,3,4,5]
  refine Gx 2 Z (Qf j (Gc 1 Z (DSs 30 Z (D 30 Z (Eg Z ?_)))));refine vH (Y0 (xs:=[.tmp 332,.tmp 337,.tmp 342,.tmp 347,.tmp 352,.tmp 357]) JE Z Z Z Z Z ⟨Z,Z,Z,Z,Z,Z,trivial⟩ Z) ?_;refine Fg 8 Z Z ?_;obtain rfl:=Oi h;exact Rx [0,1,6,2] [4,5] Z (Qp Z Z (Qlb.cons (Qg EZ EW Z Z Z) (Qlb.cons QdB.tmp Qlb.nil))) ⟨Z,Z⟩
 refine Gc 6 Z (Cn Z h (λ_ h=>?_) (λ_ h=>?_))
 .refine Gc 1 Z (DSs 9 Z (D 9 Z (Eg Z ?_)));refine vH (Y0 (xs:=[.tmp 367,.tmp 370]) JE Z Z Z Z Z ⟨Z,Z,trivial⟩ Z) ?_;refine Fg 8 Z Z ?_;obtain rfl:=Oi h;exact Rx [0,1,3,2] [4,5] Z (Qp Z Z (Qlb.cons (Qg EZ EW Z Z Z) (Qlb.cons QdB.tmp Qlb.nil))) ⟨Z,Z⟩
 refine Gc 6 Z (Cn Z h (λ_ h=>?_) (λ_ h=>?_))
 .refine Gc 10 Z ?_;obtain rfl:=Oi h;exact Rx [0,1,2] [4,5] Z (Qp Z Z (Qlb.cons (Qg EZ EW Z Z Z) (Qlb.cons QdB.tmp Qlb.nil))) ⟨Z,Z⟩
 refine Gc 6 Z (Cn Z h (λ_ h=>?_) (λ_ h=>?_))
 .refine Gc 1 Z (DSs 12 Z (D 12 Z (Eg Z ?_)));refine vH (Y0 (xs:=[.tmp 383,.tmp 389]) JE Z Z Z Z Z ⟨Z,Z,trivial⟩ Z) ?_;refine Fg 8 Z Z ?_;obtain rfl:=Oi h;exact Rx [0,1,3,2] [4,5] Z (Qp Z Z (Qlb.cons (Qg EZ EW Z Z Z) (Qlb.cons QdB.tmp Qlb.nil))) ⟨Z,Z⟩
 refine Gc 11 Z ?_;obtain rfl:=Oi h;exact Rx [0,1,2] [4,5] Z (Qp Z Z (Qlb.cons (Qg EZ EW Z Z Z) (Qlb.cons QdB.tmp Qlb.nil))) ⟨Z,Z⟩
def F_f(n:Nat):Option Unit:=some ()
theorem k_f(n:Nat):Ks (F_f n) 248 [] [] (λ_=>.bool true):=by
 exact Kg 11 func248 Z Z Z Z λr h=>Rt h 0 []
def F_iy(n:Nat)(a:Fact):Option Unit:=some ()
theorem k_iy(n:Nat)(a:Fact):Ks (F_iy n a) 249 [.ptr 0 0] [.cells 345 [.ptr 1 21],.cells 72 (Fact.c a)] (λ_=>.bool (decide (a.Sync.Min<=a.Sync.Max))):=by
 exact Kg 6 func249 Z Z Z Z λr h=>DSs 8 Z (D 8 Z (Eg Z (Gt 5 Z h 1 [0,1])))
def F_jg(n:Nat)(a:Fact):Option Unit:=some ()
theorem k_jg(n:Nat)(a:Fact):Ks (F_jg n a) 250 [.ptr 0 0] [.cells 346 [.ptr 1 29],.cells 72 (Fact.c a)] (λ_=>.bool (decide (a.Hand.Lo<=a.Hand.Hi))):=by
 exact Kg 6 func250 Z Z Z Z λr h=>DSs 8 Z (D 8 Z (Eg Z (Gt 5 Z h 1 [0,1])))
def F_io(n:Nat)(a:Fact):Option Unit:=some ()
theorem k_io(n:Nat)(a:Fact):Ks (F_io n a) 251 [.ptr 0 0] [.cells 347 [.ptr 1 33],.cells 72 (Fact.c a)] (λ_=>.bool (decide (a.Silence.Lo<=a.Silence.Hi))):=by
 exact Kg 6 func251 Z Z Z Z λr h=>DSs 8 Z (D 8 Z (Eg Z (Gt 5 Z h 1 [0,1])))
def F_hs(n:Nat)(a:Fact):Option Unit:=some ()
theorem k_hs(n:Nat)(a:Fact):Ks (F_hs n a) 252 [.ptr 0 0] [.cells 348 [.ptr 1 37],.cells 72 (Fact.c a)] (λ_=>.bool (decide (a.Pair.A<a.Pair.B))):=by
 exact Kg 6 func252 Z Z Z Z λr h=>DSs 8 Z (D 8 Z (Eg Z (Gt 5 Z h 1 [0,1])))
def F_bg(n:Nat)(a:Fact):Option Unit:=some ()
theorem k_bg(n:Nat)(a:Fact):Kq (F_bg n a) 191 [.ptr 0 0] [.cells 72 (Fact.c a)] (λ_=>.osl 1 0 4 3) (λ_=>[.cells 72 (Fact.c a),.rowr 293 3 [[.ptr 0 3,I 1,I 13],[.ptr 0 0,I 0,I 31],[.ptr 0 1,I 1,I 1048576],[.ptr 0 2,I 0,I 1099511627776]]]):=by
 refine Kg 6 func191 Z Z Z Z λr h=>DSs 20 Z (D 20 Z (Eg Z (vH (Y0 (xs:=[.tmp 7,.tmp 12,.tmp 17,.tmp 22]) JE Z Z Z Z Z ⟨Z,Z,Z,Z,trivial⟩ Z) ?_)));exact FE Z (Gt 4 Z h 2 [0,1])
def F_ea(n:Nat)(d:Fact)(i:Int)(e:Fact):Option (List Ent):=((F_bj n ({d with Kind:=e.Kind:Fact}) i).bind λf=>(match f with|.c0 j=>(some ([⟨false,4,1,9999⟩,⟨false,5,0,7⟩,⟨false,6,0,31⟩,⟨false,7,(-1099511627776),1099511627776⟩,⟨false,8,0,120⟩,⟨false,9,0,1048576⟩,⟨false,10,0,9999⟩,⟨false,11,0,1048576⟩]:List Ent))|.c1 k=>(some ([⟨false,12,0,39⟩,⟨false,13,0,255⟩,⟨false,14,0,1048576⟩,⟨false,15,(-1099511627776),1099511627776⟩]:List Ent))|.c2 l=>(some ([⟨false,16,0,39⟩,⟨false,17,0,255⟩,⟨false,18,(-1099511627776),1099511627776⟩,⟨false,19,(-1099511627776),1099511627776⟩,⟨false,20,0,1099511627776⟩]:List Ent))|.c3 m=>(some ([⟨false,21,0,39⟩,⟨false,22,0,255⟩,⟨false,23,(-1099511627776),1099511627776⟩,⟨false,24,0,39⟩,⟨false,25,0,255⟩,⟨false,26,(-1099511627776),1099511627776⟩,⟨false,27,(-1099511627776),1099511627776⟩,⟨false,28,(-1099511627776),1099511627776⟩]:List Ent))|.c4 p=>(some ([⟨false,29,1,9999⟩,⟨false,30,0,255⟩,⟨false,31,(-1099511627776),1099511627776⟩,⟨false,32,(-1099511627776),1099511627776⟩]:List Ent))|.c5 q=>(some ([⟨false,33,0,39⟩,⟨false,34,0,255⟩,⟨false,35,(-1099511627776),1099511627776⟩,⟨false,36,(-1099511627776),1099511627776⟩]:List Ent))|.c6 r=>(some ([⟨false,37,1,9999⟩,⟨false,38,1,9999⟩]:List Ent))|.c7 s=>(some ([⟨false,39,1,1048576⟩,⟨false,40,1,9999⟩,⟨false,41,0,31⟩,⟨false,42,0,255⟩]:List Ent))|.c8 t=>(some ([⟨false,43,1,1048576⟩,⟨false,44,0,9999⟩,⟨false,45,0,1125899906842624⟩,⟨false,46,0,1⟩]:List Ent))|.c9 a=>(some ([⟨false,47,1,1048576⟩,⟨false,48,1,2⟩,⟨false,49,1,5⟩,⟨false,50,a.1,a.2.1⟩,⟨false,51,a.2.2.1,a.2.2.2.1⟩,⟨false,52,a.2.2.2.2.1,a.2.2.2.2.2⟩]:List Ent))|.c10 u=>(some ([⟨false,53,1,1048576⟩,⟨true,0,0,1⟩]:List Ent))|.c11 w=>(some [])|.c12 x=>(some ([⟨false,55,0,31⟩,⟨false,56,1,1048576⟩]:List Ent))|.c13 y=>(some [])):Option (List Ent)).bind λg=>(F_bg n ({d with Kind:=e.Kind:Fact})).bind λz=>(app ([⟨false,3,1,13⟩,⟨false,0,0,31⟩,⟨false,1,1,1048576⟩,⟨false,2,0,1099511627776⟩]:List Ent) g).bind λh=>some h
theorem k_ea(n:Nat)(f:Fact)(g:Int)(a:Fact):Kq (F_ea n f g a) 190 [.ptr 0 0,.ptr 1 0,.ptr 2 0] [.cells 72 (Fact.c f),.cells 3 [I g],.cells 72 (Fact.c a)] (λr=>.osl 3 0 r.length 3) (λr=>[.cells 72 (Fact.c ({f with Kind:=a.Kind:Fact})),.cells 3 [I g],.cells 72 (Fact.c a),.ents 293 0 1 r]):=by
 refine Kg 16 func190 Z Z Z Z λr h=>Bd h λk d h=>Cg k [0,1,2,0,0] [0] (λ_=>[(6,.ptr 3 0)]) (λk=>[(3,.cells 283 [.osl 4 0 k.length 3,.any]),(4,.ents 293 0 1 k)]) Zf ?_ ?_
 .refine G0 3 Z (Bd d λu p d=>?_);refine QD [0,1] (OpC.fn call189 Z Z Z) (k_bj _ _ _ _ p) ?_;intro ra rH e;rcases u with w|y|z|B|E|F|G|H|J|l|L|M|N|O
  .obtain⟨rfl,rfl⟩:=e;refine aV (.tup [.agg [.osl 3 0 8 3,.fn (.func 248) [] []],.bool true]) [.cells 72 (Fact.c ({f with Kind:=a.Kind:Fact})),.cells 3 [I g],.cells 72 (Fact.c a),.rowr 293 3 [[.ptr 0 4,I 1,I 9999],[.ptr 0 5,I 0,I 7],[.ptr 0 6,I 0,I 31],[.ptr 0 7,I (-1099511627776),I 1099511627776],[.ptr 0 8,I 0,I 120],[.ptr 0 9,I 0,I 1048576],[.ptr 0 10,I 0,I 9999],[.ptr 0 11,I 0,I 1048576]],.cells 283 [.osl 3 0 8 3,.fn (.func 248) [] []]] Z Z ?_;refine TE 3 0 1 Z Z (Fg 7 Z Z ?_);cases d;refine JM ?_;refine En (QV (i:=5) (m:=1) Z) ?_;exact Lr [0,1,2,5,3]
  .obtain⟨rfl,rfl⟩:=e;refine aV (.tup [.agg [.osl 3 0 4 3,.fn (.func 248) [] []],.bool true]) [.cells 72 (Fact.c ({f with Kind:=a.Kind:Fact})),.cells 3 [I g],.cells 72 (Fact.c a),.rowr 293 3 [[.ptr 0 12,I 0,I 39],[.ptr 0 13,I 0,I 255],[.ptr 0 14,I 0,I 1048576],[.ptr 0 15,I (-1099511627776),I 1099511627776]],.cells 283 [.osl 3 0 4 3,.fn (.func 248) [] []]] Z Z ?_;refine TE 3 0 1 Z Z (Fg 7 Z Z ?_);cases d;refine JM ?_;refine En (QV (i:=5) (m:=1) Z) ?_;exact Lr [0,1,2,5,3]
  .obtain⟨rfl,rfl⟩:=e;refine aV (.tup [.agg [.osl 3 0 5 3,.fn (.func 248) [] []],.bool true]) [.cells 72 (Fact.c ({f with Kind:=a.Kind:Fact})),.cells 3 [I g],.cells 72 (Fact.c a),.rowr 293 3 [[.ptr 0 16,I 0,I 39],[.ptr 0 17,I 0,I 255],[.ptr 0 18,I (-1099511627776),I 1099511627776],[.ptr 0 19,I (-1099511627776),I 1099511627776],[.ptr 0 20,I 0,I 1099511627776]],.cells 283 [.osl 3 0 5 3,.fn (.func 248) [] []]] Z Z ?_;refine TE 3 0 1 Z Z (Fg 7 Z Z ?_);cases d;refine JM ?_;refine En (QV (i:=5) (m:=1) Z) ?_;exact Lr [0,1,2,5,3]
  .obtain⟨rfl,rfl⟩:=e;refine TE 3 0 1 Z Z (Fg 7 Z Z ?_);cases d;refine JM ?_;refine En (QV (i:=6) (m:=1) Z) ?_;exact Lr [0,1,2,6,3]
  .obtain⟨rfl,rfl⟩:=e;refine aV (.tup [.agg [.osl 3 0 4 3,.fn (.func 250) [] [.ptr 4 0]],.bool true]) [.cells 72 (Fact.c ({f with Kind:=a.Kind:Fact})),.cells 3 [I g],.cells 72 (Fact.c a),.rowr 293 3 [[.ptr 0 29,I 1,I 9999],[.ptr 0 30,I 0,I 255],[.ptr 0 31,I (-1099511627776),I 1099511627776],[.ptr 0 32,I (-1099511627776),I 1099511627776]],.cells 346 [.ptr 0 29],.cells 283 [.osl 3 0 4 3,.fn (.func 250) [] [.ptr 4 0]]] Z Z ?_;refine TE 3 0 1 Z Z (Fg 7 Z Z ?_);cases d;refine JM ?_;refine En (QV (i:=6) (m:=1) Z) ?_;exact Lr [0,1,2,6,3]
  .obtain⟨rfl,rfl⟩:=e;refine aV (.tup [.agg [.osl 3 0 4 3,.fn (.func 251) [] [.ptr 4 0]],.bool true]) [.cells 72 (Fact.c ({f with Kind:=a.Kind:Fact})),.cells 3 [I g],.cells 72 (Fact.c a),.rowr 293 3 [[.ptr 0 33,I 0,I 39],[.ptr 0 34,I 0,I 255],[.ptr 0 35,I (-1099511627776),I 1099511627776],[.ptr 0 36,I (-1099511627776),I 1099511627776]],.cells 347 [.ptr 0 33],.cells 283 [.osl 3 0 4 3,.fn (.func 251) [] [.ptr 4 0]]] Z Z ?_;refine TE 3 0 1 Z Z (Fg 7 Z Z ?_);cases d;refine JM ?_;refine En (QV (i:=6) (m:=1) Z) ?_;exact Lr [0,1,2,6,3]
  .obtain⟨rfl,rfl⟩:=e;refine aV (.tup [.agg [.osl 3 0 2 3,.fn (.func 252) [] [.ptr 4 0]],.bool true]) [.cells 72 (Fact.c ({f with Kind:=a.Kind:Fact})),.cells 3 [I g],.cells 72 (Fact.c a),.rowr 293 3 [[.ptr 0 37,I 1,I 9999],[.ptr 0 38,I 1,I 9999]],.cells 348 [.ptr 0 37],.cells 283 [.osl 3 0 2 3,.fn (.func 252) [] [.ptr 4 0]]] Z Z ?_;refine TE 3 0 1 Z Z (Fg 7 Z Z ?_);cases d;refine JM ?_;refine En (QV (i:=6) (m:=1) Z) ?_;exact Lr [0,1,2,6,3]
  .obtain⟨rfl,rfl⟩:=e;refine aV (.tup [.agg [.osl 3 0 4 3,.fn (.func 248) [] []],.bool true]) [.cells 72 (Fact.c ({f with Kind:=a.Kind:Fact})),.cells 3 [I g],.cells 72 (Fact.c a),.rowr 293 3 [[.ptr 0 39,I 1,I 1048576],[.ptr 0 40,I 1,I 9999],[.ptr 0 41,I 0,I 31],[.ptr 0 42,I 0,I 255]],.cells 283 [.osl 3 0 4 3,.fn (.func 248) [] []]] Z Z ?_;refine TE 3 0 1 Z Z (Fg 7 Z Z ?_);cases d;refine JM ?_;refine En (QV (i:=5) (m:=1) Z) ?_;exact Lr [0,1,2,5,3]
  .obtain⟨rfl,rfl⟩:=e;refine aV (.tup [.agg [.osl 3 0 4 3,.fn (.func 248) [] []],.bool true]) [.cells 72 (Fact.c ({f with Kind:=a.Kind:Fact})),.cells 3 [I g],.cells 72 (Fact.c a),.rowr 293 3 [[.ptr 0 43,I 1,I 1048576],[.ptr 0 44,I 0,I 9999],[.ptr 0 45,I 0,I 1125899906842624],[.ptr 0 46,I 0,I 1]],.cells 283 [.osl 3 0 4 3,.fn (.func 248) [] []]] Z Z ?_;refine TE 3 0 1 Z Z (Fg 7 Z Z ?_);cases d;refine JM ?_;refine En (QV (i:=5) (m:=1) Z) ?_;exact Lr [0,1,2,5,3]
  .obtain⟨rfl,rfl⟩:=e;refine aV (.tup [.agg [.osl 3 0 6 3,.fn (.func 248) [] []],.bool true]) [.cells 72 (Fact.c ({f with Kind:=a.Kind:Fact})),.cells 3 [I g],.cells 72 (Fact.c a),.rowr 293 3 [[.ptr 0 47,I 1,I 1048576],[.ptr 0 48,I 1,I 2],[.ptr 0 49,I 1,I 5],[.ptr 0 50,I l.1,I l.2.1],[.ptr 0 51,I l.2.2.1,I l.2.2.2.1],[.ptr 0 52,I l.2.2.2.2.1,I l.2.2.2.2.2]],.cells 283 [.osl 3 0 6 3,.fn (.func 248) [] []]] Z Z ?_;refine TE 3 0 1 Z Z (Fg 7 Z Z ?_);cases d;refine JM ?_;refine En (QV (i:=5) (m:=1) Z) ?_;exact Lr [0,1,2,5,3]
  .obtain⟨rfl,rfl⟩:=e;refine aV (.tup [.agg [.osl 3 0 2 3,.fn (.func 248) [] []],.bool true]) [.cells 72 (Fact.c ({f with Kind:=a.Kind:Fact})),.cells 3 [I g],.cells 72 (Fact.c a),.rowr 293 3 [[.ptr 0 53,I 1,I 1048576],[.ptr 1 0,I 0,I 1]],.cells 283 [.osl 3 0 2 3,.fn (.func 248) [] []]] Z Z ?_;refine TE 3 0 1 Z Z (Fg 7 Z Z ?_);cases d;refine JM ?_;refine En (QV (i:=5) (m:=1) Z) ?_;exact Lr [0,1,2,5,3]
  .obtain⟨rfl,rfl⟩:=e;refine aV (.tup [.agg [.nils,.fn (.func 248) [] []],.bool true]) [.cells 72 (Fact.c ({f with Kind:=a.Kind:Fact})),.cells 3 [I g],.cells 72 (Fact.c a),.cells 283 [.nils,.fn (.func 248) [] []]] Z Z ?_;refine Go 7 Z ?_;cases d;refine JM ?_;refine En (QV (i:=4) (m:=1) Z) ?_;refine En (Le.phantomE (i:=4) (m:=0) (t:=293) (b1:=0) (b2:=1) Z Z Z) ?_;exact Lr [0,1,2,4,5]
  .obtain⟨rfl,rfl⟩:=e;refine aV (.tup [.agg [.osl 3 0 2 3,.fn (.func 248) [] []],.bool true]) [.cells 72 (Fact.c ({f with Kind:=a.Kind:Fact})),.cells 3 [I g],.cells 72 (Fact.c a),.rowr 293 3 [[.ptr 0 55,I 0,I 31],[.ptr 0 56,I 1,I 1048576]],.cells 283 [.osl 3 0 2 3,.fn (.func 248) [] []]] Z Z ?_;refine TE 3 0 1 Z Z (Fg 7 Z Z ?_);cases d;refine JM ?_;refine En (QV (i:=5) (m:=1) Z) ?_;exact Lr [0,1,2,5,3]
  .obtain⟨rfl,rfl⟩:=e;refine aV (.tup [.agg [.nils,.nilf],.bool false]) [.cells 72 (Fact.c ({f with Kind:=a.Kind:Fact})),.cells 3 [I g],.cells 72 (Fact.c a),.cells 283 [.nils,.nilf]] Z Z ?_;refine Go 7 Z ?_;cases d;refine JM ?_;refine En (QV (i:=4) (m:=1) Z) ?_;refine En (Le.phantomE (i:=4) (m:=0) (t:=293) (b1:=0) (b2:=1) Z Z Z) ?_;exact Lr [0,1,2,4,5]
 refine Gc 1 Z (DAs 4 1 [0,1,3,3] (by kernel_rfl) (Da 1 Z ?_));obtain⟨P,q,h⟩:=YM h;refine DA.op (x:=.osl 5 0 4 3) (H1:=[.cells 72 (Fact.c ({f with Kind:=a.Kind:Fact})),.cells 3 [I g],.cells 72 (Fact.c a),.cells 283 [.osl 4 0 k.length 3,.any],.ents 293 0 1 k,.rowr 293 3 [[.ptr 0 3,I 1,I 13],[.ptr 0 0,I 0,I 31],[.ptr 0 1,I 1,I 1048576],[.ptr 0 2,I 0,I 1099511627776]]]) ?_ ?_
 .refine QD [0] (OpC.fn call191 Z Z Z) (k_bg _ _ _ q) ?_;rintro _ _ ⟨rfl,rfl⟩;exact FE Z Wp
 refine Db 1 Z ?_;refine DB.wo2 (x:=.osl 4 0 k.length 3) (Ld isAgg281 Z Wp) (Ld isAgg281 Z Wp) ?_;refine DB.done Z (TE 5 0 1 Z Z (FE Z (Bd h λQ s h=>?_)));refine vH (Qhw (i:=5) (j:=4) s JE Ge Z) ?_;exact FE Z (Gt 4 Z h 5 [0,1,2,6])
def F_fy(n:Nat)(f:Fact)(b2:Int)(g:List Ent)(p:List Ent)(a:(List Int)×Fact×Int×Int):Option (Ctl ((List Int)×Fact×Int×Int) (Ctl ((List Int)×Fact×Int) ((List Int)×Bool))):=(bif decide (a.2.2.2<(g.length:Int))then(idx g a.2.2.2).bind λd=>(QgB (Fact.c f) b2 d).bind λh=>(bif decide (h<d.lo)then some (.done (.done ([],false)))else(QgB (Fact.c f) b2 d).bind λi=>(bif decide (d.hi<i)then some (.done (.done ([],false)))else(idx p a.2.2.2).bind λj=>(QgB (Fact.c f) b2 d).bind λk=>(Qkw Fact.put a.2.1 a.2.2.1 j k).bind λe=>(QgB (Fact.c f) b2 d).bind λl=>(app a.1 [l]).bind λm=>some (.cont (m,e.1,e.2,i64.wrap (a.2.2.2+1)))))else some (.done (.cont (a.1,a.2.1,a.2.2.1))))
def F_bv(n:Nat)(a:Fact):Option ((List Int)×Bool):=((bif a.Appeal.Suspends then some 1 else some 0):Option Int).bind λb2=>((F_bj n a b2).bind λh=>(match h with|.c0 m=>((F_f n).bind λp=>some (.cont ([⟨false,4,1,9999⟩,⟨false,5,0,7⟩,⟨false,6,0,31⟩,⟨false,7,(-1099511627776),1099511627776⟩,⟨false,8,0,120⟩,⟨false,9,0,1048576⟩,⟨false,10,0,9999⟩,⟨false,11,0,1048576⟩]:List Ent)))|.c1 q=>((F_f n).bind λr=>some (.cont ([⟨false,12,0,39⟩,⟨false,13,0,255⟩,⟨false,14,0,1048576⟩,⟨false,15,(-1099511627776),1099511627776⟩]:List Ent)))|.c2 s=>((F_f n).bind λt=>some (.cont ([⟨false,16,0,39⟩,⟨false,17,0,255⟩,⟨false,18,(-1099511627776),1099511627776⟩,⟨false,19,(-1099511627776),1099511627776⟩,⟨false,20,0,1099511627776⟩]:List Ent)))|.c3 u=>((F_iy n a).bind λw=>(bif (!(decide (a.Sync.Min<=a.Sync.Max)))then some (.done ([],false))else some (.cont ([⟨false,21,0,39⟩,⟨false,22,0,255⟩,⟨false,23,(-1099511627776),1099511627776⟩,⟨false,24,0,39⟩,⟨false,25,0,255⟩,⟨false,26,(-1099511627776),1099511627776⟩,⟨false,27,(-1099511627776),1099511627776⟩,⟨false,28,(-1099511627776),1099511627776⟩]:List Ent))))|.c4 x=>((F_jg n a).bind λy=>(bif (!(decide (a.Hand.Lo<=a.Hand.Hi)))then some (.done ([],false))else some (.cont ([⟨false,29,1,9999⟩,⟨false,30,0,255⟩,⟨false,31,(-1099511627776),1099511627776⟩,⟨false,32,(-1099511627776),1099511627776⟩]:List Ent))))|.c5 z=>((F_io n a).bind λE=>(bif (!(decide (a.Silence.Lo<=a.Silence.Hi)))then some (.done ([],false))else some (.cont ([⟨false,33,0,39⟩,⟨false,34,0,255⟩,⟨false,35,(-1099511627776),1099511627776⟩,⟨false,36,(-1099511627776),1099511627776⟩]:List Ent))))|.c6 F=>((F_hs n a).bind λG=>(bif (!(decide (a.Pair.A<a.Pair.B)))then some (.done ([],false))else some (.cont ([⟨false,37,1,9999⟩,⟨false,38,1,9999⟩]:List Ent))))|.c7 H=>((F_f n).bind λJ=>some (.cont ([⟨false,39,1,1048576⟩,⟨false,40,1,9999⟩,⟨false,41,0,31⟩,⟨false,42,0,255⟩]:List Ent)))|.c8 L=>((F_f n).bind λM=>some (.cont ([⟨false,43,1,1048576⟩,⟨false,44,0,9999⟩,⟨false,45,0,1125899906842624⟩,⟨false,46,0,1⟩]:List Ent)))|.c9 e=>((F_f n).bind λN=>some (.cont ([⟨false,47,1,1048576⟩,⟨false,48,1,2⟩,⟨false,49,1,5⟩,⟨false,50,e.1,e.2.1⟩,⟨false,51,e.2.2.1,e.2.2.2.1⟩,⟨false,52,e.2.2.2.2.1,e.2.2.2.2.2⟩]:List Ent)))|.c10 O=>((F_f n).bind λP=>some (.cont ([⟨false,53,1,1048576⟩,⟨true,0,0,1⟩]:List Ent)))|.c11 Q=>((F_f n).bind λR=>some (.cont []))|.c12 T=>((F_f n).bind λV=>some (.cont ([⟨false,55,0,31⟩,⟨false,56,1,1048576⟩]:List Ent)))|.c13 W=>(some (.done ([],false)))):Option (Ctl (List Ent) ((List Int)×Bool))).bind λi=>match i with|.cont f=>((F_bg n a).bind λX=>(app ([⟨false,3,1,13⟩,⟨false,0,0,31⟩,⟨false,1,1,1048576⟩,⟨false,2,0,1099511627776⟩]:List Ent) f).bind λj=>(F_ea n ({Up with Ruling:={Ux with Kind:=a.Ruling.Kind:Ruling}:Fact}) 0 a).bind λk=>(iter (F_fy n a b2 j k) n ([],({({Up with Ruling:={Ux with Kind:=a.Ruling.Kind:Ruling}:Fact})with Kind:=a.Kind:Fact}),0,0):Option (Ctl ((List Int)×Fact×Int) ((List Int)×Bool))).bind λl=>match l with|.cont d=>(((bif (a.Kind != 10)then some ({d.2.1 with Ruling:={d.2.1.Ruling with Kind:=0:Ruling}:Fact})else some d.2.1):Option Fact).bind λg=>some (d.1,(({g with Appeal:={Case:=g.Appeal.Case,Suspends:=(d.2.2==1):Appeal}:Fact})==a)))|.done d=>some d)|.done f=>some f
theorem k_bv(n:Nat)(g:Fact):Kq (F_bv n g) 134 [.agg (Fact.c g)] [] (λr=>.tup [.osl 0 0 r.1.length 1,.bool r.2]) (λr=>[.row 3 1 (map (Qe .i64) r.1)]):=by
 refine Kg 21 func134 Z Z Z Z λr h=>Bd h λb2 N h=>Ct b2 [0,1] [1,2,4] Ze (λb2=>[(1,.cells 3 [I b2])]) Zf ?_ (λenv H M=>?_)
 .refine G0 0 Z (Cn Z N (λ_ N=>?_) (λ_ N=>?_))
  .exact YC 3 Z N [0,1]
  exact YC 1 Z N [0,1]
 refine Gx 1 Z (Qf M (Gc 7 Z (Bd h λaq a h=>Ct3E (b:=aq) (λz=>[(1,.ptr 0 0),(2,.nils),(5,.ptr 1 0),(6,.ptr 2 0)]) (λz=>[.cells 72 (Fact.c g),.cells 72 (Fact.c g),.cells 283 [.osl 3 0 z.length 3,.any],.ents 293 1 4 z,.cells 3 [I b2]]) ?_ (λz env H hb M=>?_))))
 .refine Gc 1 Z (Bd a λar ab a=>?_);refine QD [2,1] (OpC.fn call189 Z Z Z) (k_bj _ _ _ _ ab) ?_;intro ra rH y;rcases ar with bn|bo|bp|bq|br|bs|bt|bu|bv|F|bw|bx|bz|ca
  .obtain⟨rfl,rfl⟩:=y;refine aV (.tup [.agg [.osl 3 0 8 3,.fn (.func 248) [] []],.bool true]) [.cells 72 (Fact.c g),.cells 3 [I b2],.cells 72 (Fact.c g),.rowr 293 3 [[.ptr 2 4,I 1,I 9999],[.ptr 2 5,I 0,I 7],[.ptr 2 6,I 0,I 31],[.ptr 2 7,I (-1099511627776),I 1099511627776],[.ptr 2 8,I 0,I 120],[.ptr 2 9,I 0,I 1048576],[.ptr 2 10,I 0,I 9999],[.ptr 2 11,I 0,I 1048576]],.cells 283 [.osl 3 0 8 3,.fn (.func 248) [] []]] Z Z ?_;refine TE 3 2 1 Z Z (Fg 15 Z Z (Cz [] a (k_f _) Z λcb ay a=>Go 6 Z ?_));cases a;refine Yv Z ?_;refine En (QV (i:=5) (m:=1) Z) ?_;exact Lr [0,2,5,3,1]
  .obtain⟨rfl,rfl⟩:=y;refine aV (.tup [.agg [.osl 3 0 4 3,.fn (.func 248) [] []],.bool true]) [.cells 72 (Fact.c g),.cells 3 [I b2],.cells 72 (Fact.c g),.rowr 293 3 [[.ptr 2 12,I 0,I 39],[.ptr 2 13,I 0,I 255],[.ptr 2 14,I 0,I 1048576],[.ptr 2 15,I (-1099511627776),I 1099511627776]],.cells 283 [.osl 3 0 4 3,.fn (.func 248) [] []]] Z Z ?_;refine TE 3 2 1 Z Z (Fg 15 Z Z (Cz [] a (k_f _) Z λcc az a=>Go 6 Z ?_));cases a;refine Yv Z ?_;refine En (QV (i:=5) (m:=1) Z) ?_;exact Lr [0,2,5,3,1]
  .obtain⟨rfl,rfl⟩:=y;refine aV (.tup [.agg [.osl 3 0 5 3,.fn (.func 248) [] []],.bool true]) [.cells 72 (Fact.c g),.cells 3 [I b2],.cells 72 (Fact.c g),.rowr 293 3 [[.ptr 2 16,I 0,I 39],[.ptr 2 17,I 0,I 255],[.ptr 2 18,I (-1099511627776),I 1099511627776],[.ptr 2 19,I (-1099511627776),I 1099511627776],[.ptr 2 20,I 0,I 1099511627776]],.cells 283 [.osl 3 0 5 3,.fn (.func 248) [] []]] Z Z ?_;refine TE 3 2 1 Z Z (Fg 15 Z Z (Cz [] a (k_f _) Z λcd ba a=>Go 6 Z ?_));cases a;refine Yv Z ?_;refine En (QV (i:=5) (m:=1) Z) ?_;exact Lr [0,2,5,3,1]
  .obtain⟨rfl,rfl⟩:=y;refine aV (.tup [.agg [.osl 3 0 8 3,.fn (.func 249) [] [.ptr 4 0]],.bool true]) [.cells 72 (Fact.c g),.cells 3 [I b2],.cells 72 (Fact.c g),.rowr 293 3 [[.ptr 2 21,I 0,I 39],[.ptr 2 22,I 0,I 255],[.ptr 2 23,I (-1099511627776),I 1099511627776],[.ptr 2 24,I 0,I 39],[.ptr 2 25,I 0,I 255],[.ptr 2 26,I (-1099511627776),I 1099511627776],[.ptr 2 27,I (-1099511627776),I 1099511627776],[.ptr 2 28,I (-1099511627776),I 1099511627776]],.cells 345 [.ptr 2 21],.cells 283 [.osl 3 0 8 3,.fn (.func 249) [] [.ptr 4 0]]] Z Z ?_;refine TE 3 2 1 Z Z (Fg 15 Z Z (Cz [4,2] a (k_iy _ _) Z λce bb a=>Go 4 Z (Cn Z a (λ_ a=>?_) (λ_ a=>?_))))
   .refine Gc 7 Z ?_;cases a;refine Qt (Gx 1 Z ?_);obtain rfl:=Oi h;refine R2 2 3 Z Z ?_;refine En (Ep (s:=2) (k:=1) (t:=3) (XO Z) Z) ?_;exact Lr [7]
   refine Gc 1 Z ?_;cases a;refine Yv Z ?_;refine En (QV (i:=6) (m:=1) Z) ?_;exact Lr [0,2,6,3,1]
  .obtain⟨rfl,rfl⟩:=y;refine aV (.tup [.agg [.osl 3 0 4 3,.fn (.func 250) [] [.ptr 4 0]],.bool true]) [.cells 72 (Fact.c g),.cells 3 [I b2],.cells 72 (Fact.c g),.rowr 293 3 [[.ptr 2 29,I 1,I 9999],[.ptr 2 30,I 0,I 255],[.ptr 2 31,I (-1099511627776),I 1099511627776],[.ptr 2 32,I (-1099511627776),I 1099511627776]],.cells 346 [.ptr 2 29],.cells 283 [.osl 3 0 4 3,.fn (.func 250) [] [.ptr 4 0]]] Z Z ?_;refine TE 3 2 1 Z Z (Fg 15 Z Z (Cz [4,2] a (k_jg _ _) Z λcf bc a=>Go 4 Z (Cn Z a (λ_ a=>?_) (λ_ a=>?_))))
   .refine Gc 7 Z ?_;cases a;refine Qt (Gx 1 Z ?_);obtain rfl:=Oi h;refine R2 2 3 Z Z ?_;refine En (Ep (s:=2) (k:=1) (t:=3) (XO Z) Z) ?_;exact Lr [7]
   refine Gc 1 Z ?_;cases a;refine Yv Z ?_;refine En (QV (i:=6) (m:=1) Z) ?_;exact Lr [0,2,6,3,1]
  .obtain⟨rfl,rfl⟩:=y;refine aV (.tup [.agg [.osl 3 0 4 3,.fn (.func 251) [] [.ptr 4 0]],.bool true]) [.cells 72 (Fact.c g),.cells 3 [I b2],.cells 72 (Fact.c g),.rowr 293 3 [[.ptr 2 33,I 0,I 39],[.ptr 2 34,I 0,I 255],[.ptr 2 35,I (-1099511627776),I 1099511627776],[.ptr 2 36,I (-1099511627776),I 1099511627776]],.cells 347 [.ptr 2 33],.cells 283 [.osl 3 0 4 3,.fn (.func 251) [] [.ptr 4 0]]] Z Z ?_;refine TE 3 2 1 Z Z (Fg 15 Z Z (Cz [4,2] a (k_io _ _) Z λcg bd a=>Go 4 Z (Cn Z a (λ_ a=>?_) (λ_ a=>?_))))
   .refine Gc 7 Z ?_;cases a;refine Qt (Gx 1 Z ?_);obtain rfl:=Oi h;refine R2 2 3 Z Z ?_;refine En (Ep (s:=2) (k:=1) (t:=3) (XO Z) Z) ?_;exact Lr [7]
   refine Gc 1 Z ?_;cases a;refine Yv Z ?_;refine En (QV (i:=6) (m:=1) Z) ?_;exact Lr [0,2,6,3,1]
  .obtain⟨rfl,rfl⟩:=y;refine aV (.tup [.agg [.osl 3 0 2 3,.fn (.func 252) [] [.ptr 4 0]],.bool true]) [.cells 72 (Fact.c g),.cells 3 [I b2],.cells 72 (Fact.c g),.rowr 293 3 [[.ptr 2 37,I 1,I 9999],[.ptr 2 38,I 1,I 9999]],.cells 348 [.ptr 2 37],.cells 283 [.osl 3 0 2 3,.fn (.func 252) [] [.ptr 4 0]]] Z Z ?_;refine TE 3 2 1 Z Z (Fg 15 Z Z (Cz [4,2] a (k_hs _ _) Z λch be a=>Go 4 Z (Cn Z a (λ_ a=>?_) (λ_ a=>?_))))
   .refine Gc 7 Z ?_;cases a;refine Qt (Gx 1 Z ?_);obtain rfl:=Oi h;refine R2 2 3 Z Z ?_;refine En (Ep (s:=2) (k:=1) (t:=3) (XO Z) Z) ?_;exact Lr [7]
   refine Gc 1 Z ?_;cases a;refine Yv Z ?_;refine En (QV (i:=6) (m:=1) Z) ?_;exact Lr [0,2,6,3,1]
  .obtain⟨rfl,rfl⟩:=y;refine aV (.tup [.agg [.osl 3 0 4 3,.fn (.func 248) [] []],.bool true]) [.cells 72 (Fact.c g),.cells 3 [I b2],.cells 72 (Fact.c g),.rowr 293 3 [[.ptr 2 39,I 1,I 1048576],[.ptr 2 40,I 1,I 9999],[.ptr 2 41,I 0,I 31],[.ptr 2 42,I 0,I 255]],.cells 283 [.osl 3 0 4 3,.fn (.func 248) [] []]] Z Z ?_;refine TE 3 2 1 Z Z (Fg 15 Z Z (Cz [] a (k_f _) Z λci bf a=>Go 6 Z ?_));cases a;refine Yv Z ?_;refine En (QV (i:=5) (m:=1) Z) ?_;exact Lr [0,2,5,3,1]
  .obtain⟨rfl,rfl⟩:=y;refine aV (.tup [.agg [.osl 3 0 4 3,.fn (.func 248) [] []],.bool true]) [.cells 72 (Fact.c g),.cells 3 [I b2],.cells 72 (Fact.c g),.rowr 293 3 [[.ptr 2 43,I 1,I 1048576],[.ptr 2 44,I 0,I 9999],[.ptr 2 45,I 0,I 1125899906842624],[.ptr 2 46,I 0,I 1]],.cells 283 [.osl 3 0 4 3,.fn (.func 248) [] []]] Z Z ?_;refine TE 3 2 1 Z Z (Fg 15 Z Z (Cz [] a (k_f _) Z λcj bg a=>Go 6 Z ?_));cases a;refine Yv Z ?_;refine En (QV (i:=5) (m:=1) Z) ?_;exact Lr [0,2,5,3,1]
  .obtain⟨rfl,rfl⟩:=y;refine aV (.tup [.agg [.osl 3 0 6 3,.fn (.func 248) [] []],.bool true]) [.cells 72 (Fact.c g),.cells 3 [I b2],.cells 72 (Fact.c g),.rowr 293 3 [[.ptr 2 47,I 1,I 1048576],[.ptr 2 48,I 1,I 2],[.ptr 2 49,I 1,I 5],[.ptr 2 50,I F.1,I F.2.1],[.ptr 2 51,I F.2.2.1,I F.2.2.2.1],[.ptr 2 52,I F.2.2.2.2.1,I F.2.2.2.2.2]],.cells 283 [.osl 3 0 6 3,.fn (.func 248) [] []]] Z Z ?_;refine TE 3 2 1 Z Z (Fg 15 Z Z (Cz [] a (k_f _) Z λck bh a=>Go 6 Z ?_));cases a;refine Yv Z ?_;refine En (QV (i:=5) (m:=1) Z) ?_;exact Lr [0,2,5,3,1]
  .obtain⟨rfl,rfl⟩:=y;refine aV (.tup [.agg [.osl 3 0 2 3,.fn (.func 248) [] []],.bool true]) [.cells 72 (Fact.c g),.cells 3 [I b2],.cells 72 (Fact.c g),.rowr 293 3 [[.ptr 2 53,I 1,I 1048576],[.ptr 1 0,I 0,I 1]],.cells 283 [.osl 3 0 2 3,.fn (.func 248) [] []]] Z Z ?_;refine TE 3 2 1 Z Z (Fg 15 Z Z (Cz [] a (k_f _) Z λcl bi a=>Go 6 Z ?_));cases a;refine Yv Z ?_;refine En (QV (i:=5) (m:=1) Z) ?_;exact Lr [0,2,5,3,1]
  .obtain⟨rfl,rfl⟩:=y;refine aV (.tup [.agg [.nils,.fn (.func 248) [] []],.bool true]) [.cells 72 (Fact.c g),.cells 3 [I b2],.cells 72 (Fact.c g),.cells 283 [.nils,.fn (.func 248) [] []]] Z Z ?_;refine Go 15 Z (Cz [] a (k_f _) Z λcm bj a=>Go 6 Z ?_);cases a;refine Yv Z ?_;refine En (QV (i:=4) (m:=1) Z) ?_;refine En (Le.phantomE (i:=4) (m:=0) (t:=293) (b1:=2) (b2:=1) Z Z Z) ?_;exact Lr [0,2,4,5,1]
  .obtain⟨rfl,rfl⟩:=y;refine aV (.tup [.agg [.osl 3 0 2 3,.fn (.func 248) [] []],.bool true]) [.cells 72 (Fact.c g),.cells 3 [I b2],.cells 72 (Fact.c g),.rowr 293 3 [[.ptr 2 55,I 0,I 31],[.ptr 2 56,I 1,I 1048576]],.cells 283 [.osl 3 0 2 3,.fn (.func 248) [] []]] Z Z ?_;refine TE 3 2 1 Z Z (Fg 15 Z Z (Cz [] a (k_f _) Z λcn bk a=>Go 6 Z ?_));cases a;refine Yv Z ?_;refine En (QV (i:=5) (m:=1) Z) ?_;exact Lr [0,2,5,3,1]
  .obtain⟨rfl,rfl⟩:=y;refine aV (.tup [.agg [.nils,.nilf],.bool false]) [.cells 72 (Fact.c g),.cells 3 [I b2],.cells 72 (Fact.c g),.cells 283 [.nils,.nilf]] Z Z ?_;refine Go 28 Z ?_;cases a;refine Qt (Gx 1 Z ?_);obtain rfl:=Oi h;refine R2 2 3 Z Z ?_;refine En (Ep (s:=2) (k:=1) (t:=3) (XO Z) Z) ?_;exact Lr [5]
 subst hb;refine Gx 1 Z (Qf M (Gc 12 Z (DAs 3 0 [1,3,3] (by kernel_rfl) ?_)));obtain⟨co,ah,h⟩:=YM h;refine DA.op (x:=.osl 6 0 4 3) (H1:=[.cells 72 (Fact.c g),.cells 72 (Fact.c g),.cells 283 [.osl 3 0 z.length 3,.any],.ents 293 1 4 z,.cells 3 [I b2],.cells 72 (Fact.c Up),.rowr 293 3 [[.ptr 1 3,I 1,I 13],[.ptr 1 0,I 0,I 31],[.ptr 1 1,I 1,I 1048576],[.ptr 1 2,I 0,I 1099511627776]]]) ?_ ?_
 .refine QD [1] (OpC.fn call191 Z Z Z) (k_bg _ _ _ ah) ?_;rintro _ _ ⟨rfl,rfl⟩;exact FE Z Wp
 refine Db 1 Z ?_;refine DB.wo2 (x:=.osl 3 0 z.length 3) (Ld isAgg281 Z Wp) (Ld isAgg281 Z Wp) ?_;refine DB.done Z (TE 6 1 4 Z Z (FE Z (Bd h λau ai h=>?_)));refine vH (Qhw (i:=6) (j:=3) ai JE Ge Z) ?_;refine Fg 22 Z Z (Cd [5,8,0] h (k_ea _ _ _ _) Z λav bl h=>Fg 11 Z Z (Bd h λaw aj h=>CtE (b:=aw) [0,1,2,3] [1] (λl=>[(2,.osl 1 0 l.1.length 1),(7,.ptr 2 0),(10,.ptr 3 0)]) (λl=>[(1,.row 3 1 (map (Qe .i64) l.1)),(2,.cells 72 (Fact.c l.2.1)),(3,.cells 3 [I l.2.2])]) Zf ?_ (λl env H ax M=>?_)))
 .refine G0 1 Z (Lp [0,0,5,8,9,7,1,4] [1,7,10,11,42,43] (λu=>[(2,.osl 1 0 u.1.length 1),(44,I u.2.2.2)]) (λu=>[(1,.row 3 1 (map (Qe .i64) u.1)),(2,.cells 72 (Fact.c u.2.1)),(3,.cells 3 [I u.2.2.1]),(4,.ents 293 2 3 av),(5,.ents 293 6 7 au)]) aj Zf ?_ ?_)
  .refine En (Ep (s:=2) (k:=1) (t:=3) (XO Z) Z) ?_;exact Lr [0,10,5,8,9,7,1,4]
  intro u bm d G;refine G0 6 Z (Q8 Z d (λ_ d=>?_) (λ_ d=>?_))
  .exact Gc 2 Z (Ql d (Gx 1 Z (JN G d Z (Lr [0,1,2,3]))))
  refine Gc 7 Z (Bd d λB he106 d=>?_);refine vX (.ptr 5 (toNat u.2.2.2*3)) (Qv he106 Z Ge GK) ?_;refine vX (.agg [Qij 6 7 B,I B.lo,I B.hi]) (Qs Z isAgg293 GK Z (Pts.ents (f:=0) (Qad he106).2) Z Z) ?_;refine Go 7 Z (DSs 16 Z (D 2 Z ?_));refine DS.wo (x:=Qij 6 7 B) ?_ ?_
  .exact S Z Wp
  obtain⟨ak,Q,d⟩:=YM d;refine DS.v (x:=(I ak)) (Qcr Q EF) ?_;refine D 5 Z (QeG 8 d Z Z Z (λ_ d=>?_) (λ_ d=>?_))
  .refine D 7 Z (Eg Z (Go 15 Z (Qx d ?_)));obtain rfl:=Oj G d;refine Gx 1 Z (Qt (Gx 1 Z ?_));obtain rfl:=Oi h;refine R2 2 3 Z Z ?_;refine En (Ep (s:=2) (k:=1) (t:=3) (XO Z) Z) ?_;exact Lr [9]
  .refine D 2 Z ?_;refine DS.wo (x:=Qij 6 7 B) ?_ ?_
   .exact Sg (gT Z) Z Wp
   obtain⟨al,T,d⟩:=YM d;refine DS.v (x:=(I al)) (Qcr T EF) ?_ (hg:=(gT Z));refine D 3 Z (Eg Z (Go 4 Z (Cn Z d (λ_ d=>?_) (λ_ d=>?_))))
   .refine Gc 10 Z (Qx d ?_);obtain rfl:=Oj G d;refine Gx 1 Z (Qt (Gx 1 Z ?_));obtain rfl:=Oi h;refine R2 2 3 Z Z ?_;refine En (Ep (s:=2) (k:=1) (t:=3) (XO Z) Z) ?_;exact Lr [9]
   refine Gc 3 Z (DSs 9 Z (D 2 Z ?_));obtain⟨am,he111,d⟩:=YM d;refine DS.v (x:=(.ptr 4 (toNat u.2.2.2*3))) (Qv he111 Z Ge GK) ?_;refine DS.wo (x:=.ptr 4 (toNat u.2.2.2*3)) ?_ ?_
   .exact Fp Qor Z Wp
   refine DS.v (x:=(Qij 2 3 am)) (Ey Z isAgg287 Z (Pts.ents (f:=0) (Qad he111).2)) ?_;refine D 2 Z ?_;refine DS.wo (x:=Qij 6 7 B) ?_ ?_
   .exact S Z Wp
   obtain⟨an,W,d⟩:=YM d;refine DS.v (x:=(I an)) (Qcr W EF) ?_;refine Eg Z (S Z (Bd d λJ hq113 d=>?_));refine vU (Qlf (c:=Fact.c) (f:=u.2.1) (f':=J.1) (s':=J.2) hq113 QqB EE) ?_;refine QoY (H:=[_,_,.cells 72 (Fact.c J.1),.cells 3 [I J.2],_,_,_,_,_]) Z ?_;refine Go 6 Z (S Z (Bd d λL X d=>?_));refine vX (I L) (Qcr X EF) ?_;refine vH (Ek (xs:=[.tmp 81]) (es:=map (Qe .i64) [L]) Qu Z Z Z Z Z ⟨Z,trivial⟩ Z Z) ?_;refine aV (.osl 9 0 ([L].length) 1) [_,_,_,_,_,_,_,_,_,.row 3 1 (map (Qe .i64) [L])] Z Z ?_;refine Bd d λO Y d=>vH (Qk (e:=(Qe .i64)) Y Qu EA (QH (i:=9))) ?_;refine aV (.osl 10 0 O.length 1) [_,.dead,_,_,_,_,_,_,_,_,.row 3 1 (map (Qe .i64) O)] Z Z ?_;exact Go 8 Z (Qj d (Lr [0,10,2,3,4,5,6,7]))
 subst ax;refine Gx 1 Z (Qf M (Gc 8 Z (Bd h λw E h=>Cg w [0,1,2,3] [1,2,7,10] Ze (λw=>[(2,.cells 72 (Fact.c w))]) Zf ?_ ?_)))
 .refine G0 0 Z (Cn Z E (λ_ E=>?_) (λ_ E=>?_))
  .exact YC 5 Z E [0,1,2,3]
  exact YC 1 Z E [0,1,2,3]
 refine Gc 10 Z ?_;refine TC.draw0 5 [94,95,96,97,2] [.osl 1 0 l.1.length 1,.agg (Fact.c ({w with Appeal:={Case:=w.Appeal.Case,Suspends:=(l.2.2==1):Appeal}:Fact})),.agg (Fact.c g),.bool (({w with Appeal:={Case:=w.Appeal.Case,Suspends:=(l.2.2==1):Appeal}:Fact})==g),.osl 1 0 l.1.length 1] draws Z Z Z ?_ ?_
 .refine Oq.c ?_ (ov (ov (Oq.c ?_ (ov (Oq.n)))))
  .refine Om Z (sP 4 sN) ?_;exact S Z Wp
  .refine Om Z (sD 1 (sD 2 sN)) ?_;refine vX (.bool (({w with Appeal:={Case:=w.Appeal.Case,Suspends:=(l.2.2==1):Appeal}:Fact})==g)) (Qhv (p:={w with Appeal:={Case:=w.Appeal.Case,Suspends:=(l.2.2==1):Appeal}:Fact}) (q:=g) QkX Z Z) ?_;exact Wp
 refine Go 4 Z ?_;obtain rfl:=Oi h;exact R2 2 3 Z Z (Lr [1])
def F_bq(n:Nat)(a:Fact):Option Int:=(F_bv n a).bind λd=>(bif (!d.2)then some 120 else some 0)
theorem k_bq(n:Nat)(a:Fact):Ks (F_bq n a) 60 [.agg (Fact.c a)] [] (λr=>I r):=by
 refine Kg 10 func60 Z Z Z Z λr h=>Cd [] h (k_bv _ _) Z λf e h=>Fg 13 Z Z (Cn Z h (λ_ h=>?_) (λ_ h=>?_))
 .exact QI 7 Z h 2 []
 exact QI 8 Z h 2 []
def F_eu(n:Nat)(a:List Fact):Option (List Fact):=isNil a (some []) ((app ([]:List Fact) a).bind λd=>some d)
theorem k_eu(n:Nat)(a:List Fact):Kq (F_eu n a) 215 [.rsl 57 (map Fact.c a)] [] (λr=>.osl 0 0 r.length 57) (λr=>[.row 72 57 (map Fact.c r)]):=by
 refine Kg 9 func215 Z Z Z Z λr h=>(QjX underlying34 Z (λb1 d=>?_));have hkb1:=Qji h b1 d;cases b1
 .have h:=hkb1.2 Z;refine Go 7 Z (vH (Ek (xs:=[]) Y9 Z Z Z Z Z trivial Z Z) ?_);refine Fg 1 Z Z (Bd h λf e h=>vH (Qk e Y9 EB JY) ?_);exact FE Z (Gt 4 Z h 2 [1])
 .have h:=hkb1.1 Z;refine Go 10 Z ?_;obtain rfl:=Oi h;refine R1 2 Z ?_;exact En (Ep (s:=2) (XO Z) Z) (Lr [0])
def F_bo(n:Nat)(a:Int):Option Unit:=some ()
theorem k_bo(n:Nat)(a:Int):Ks (F_bo n a) 146 [I a] [] (λ_=>.bool (a != a)):=by
 exact Kg 14 func146 Z Z Z Z λr h=>Rt h 2 []
def F_v(n:Nat)(d:Int)(a:Int):Option Int:=(F_bo n d).bind λe=>(F_bo n a).bind λf=>(bif (d != d)then(bif (a != a)then some 0 else some (-1))else(bif (a != a)then some 1 else(bif decide (d<a)then some (-1)else(bif decide (a<d)then some 1 else some 0))))
theorem k_v(n:Nat)(a:Int)(d:Int):Ks (F_v n a d) 67 [I a,I d] [] (λr=>I r):=by
 refine Kg 8 func67 Z Z Z Z λr h=>Cz [] h (k_bo _ _) Z λm k h=>Go 6 Z (Cz [] h (k_bo _ _) Z λp l h=>Go 9 Z (Cn Z h (λ_ h=>?_) (λ_ h=>?_)))
 .refine Gc 6 Z (Cn Z h (λ_ h=>?_) (λ_ h=>?_))
  .exact QI 8 Z h 4 []
  exact QI 9 Z h 4 []
 refine Gc 8 Z (Cn Z h (λ_ h=>?_) (λ_ h=>?_))
 .exact QI 7 Z h 4 []
 iterate 2 (refine Gc 10 Z (Cn Z h (λ_ h=>?_) (λ_ h=>?_));exact QI 7 Z h 4 [])
 exact QI 8 Z h 4 []
def F_gd(n:Nat)(e:List Int)(a:Int):Option (Ctl Int (Ctl Unit Int)):=(bif decide (a<(e.length:Int))then(idx e a).bind λd=>(bif (d != 0)then some (.done (.done d))else some (.cont (i64.wrap (a+1))))else some (.done (.cont ())))
def F_gf(n:Nat)(d:List Int):Option Int:=(iter (F_gd n d) n 0:Option (Ctl Unit Int)).bind λe=>match e with|.cont a=>(some 0)|.done a=>some a
theorem k_gf(n:Nat)(j:List Int):Ks (F_gf n j) 135 [.rsl 1 (map (Qe .i64) j)] [] (λr=>I r):=by
 refine Kg 14 func135 Z Z Z Z λr h=>Lg 3 Z Z (Bd h λl m h=>CgE (b:=l) [] [3] Ze Ze Zf ?_ (λ_ k=>?_))
 .refine G0 1 Z (Lp [] [3,6,7] (λe=>[(8,I e)]) Ze m Zf (Lr []) λe q a d=>(G0 6 Z (Q8 Z a (λ_ a=>?_) (λ_ a=>?_))))
  .exact Gc 2 Z (Ql a (Gx 1 Z (JN d a Z (Lr []))))
  refine Gc 6 Z (Bd a λs g a=>Iz g Z (Go 11 Z (Cn Z a (λ_ a=>?_) (λ_ a=>?_))))
  .refine Gc 9 Z (Qx a ?_);obtain rfl:=Oj d a;exact Gx 1 Z (Qt (Gx 1 Z (Rt h 2 [])))
  exact Gc 7 Z (Qj a (Lr []))
 subst k;exact QI 7 Z h 2 []
def F_ld(n:Nat)(e:Value)(rec141:Value->Option (Int×Bool))(a:Int×Int):Option (Ctl (Int×Int) (Ctl Int (Int×Bool))):=(bif decide (a.2<(e.L.length:Int))then(idx e.L a.2).bind λf=>(rec141 f).bind λd=>(bif (!d.2)then some (.done (.done (0,false)))else some (.cont ((if a.1<d.1 then d.1 else a.1),i64.wrap (a.2+1))))else some (.done (.cont a.1)))
def B_o(rec141:Value->Option (Int×Bool))(n:Nat)(a:Value):Option (Int×Bool):=((bif (a.S==[])then(bif (a.N==0)then(arr 4 (List.replicate 4 false)).bind λm=>(arr 4 ([false,((a.L.length:Int)==0),((a.L.length:Int)==0),(a.S==[])]:List Bool)).bind λe=>some e else(arr 4 (List.replicate 4 false)).bind λp=>(arr 4 ([false,((a.L.length:Int)==0),false,false]:List Bool)).bind λf=>some f)else(bif (a.N==0)then(arr 4 (List.replicate 4 false)).bind λq=>(arr 4 ([false,false,((a.L.length:Int)==0),(a.S==[])]:List Bool)).bind λg=>some g else(arr 4 (List.replicate 4 false)).bind λr=>(arr 4 ([false,false,false,false]:List Bool)).bind λh=>some h)):Option (List Bool)).bind λi=>((bif decide (a.Kind<1)then some true else(bif decide (3<a.Kind)then some true else(QeM 4 i a.Kind).bind λj=>some (!j))):Option Bool).bind λk=>(bif k then some (0,false)else(bif decide (a.Kind<3)then some (0,true)else(iter (F_ld n a rec141) n (0,0):Option (Ctl Int (Int×Bool))).bind λl=>match l with|.cont d=>(some (i64.wrap (d+1),true))|.done d=>some d))
theorem QdS(rec141:Value->Option (Int×Bool))(q:∀(j:Value) (r:Int×Bool),rec141 j=some r->Csm prog 274 [.agg (Value.c j)] [] (λr=>.tup [I r.1,.bool r.2]) r)(n:Nat)(j:Value)(r:Int×Bool)(h:B_o rec141 n j=some r):Csm prog 274 [.agg (Value.c j)] [] (λr=>.tup [I r.1,.bool r.2]) r:=by
 refine QE func274 Z Z Z ?_;refine G0 8 Z (Bd h λp a h=>Ct p [0,0] [1,2] (λ_=>[(4,.ptr 1 0)]) (λp=>[(1,.row 397 1 (map Qa8 p))]) Zf ?_ (λenv H s=>?_))
 .refine G0 5 Z (Is 12 a Z (λ_ a=>?_) (λ_ a=>?_))
  .refine Go 2 Z (Lg 6 Z Z (Is 21 a Z (λf a=>?_) (λf a=>?_)))
   .refine Go 2 Z (Lg 6 Z Z (Fpg (gT f) Qjv Z (Ldg (gT f) isAgg9 Z ?_)));refine vX (.bool (j.S==[])) (Qd7 Z Z Z) ?_ (gT f);refine Pk f Z ?_;refine vV (x:=(.agg (List.flatten (map Qa8 ([false,((j.L.length:Int)==0),((j.L.length:Int)==0),(j.S==[])]:List Bool))))) (JZ (n:=4) (k:=1) (zs:=[.bool false,.bool false,.bool false,.bool false]) E6 (ZR.agg (zc ZR.bool (zc ZR.bool (zc ZR.bool (zc ZR.bool ZL.nil))))) Gg Gb Z) ?_;refine vH (Jt (n:=4) (k:=1) (e:=Qa8) (z:=false) E6 (by kernel_rfl) (by kernel_rfl) (by kernel_rfl) Z) ?_;refine FE Z (Bd a λar R a=>Bd a λag t a=>?_);obtain⟨J,rfl⟩:=JH R;refine vU (Js (e:=Qa8) (l:=(List.replicate 4 false)) (l':=ag) J (Qby t) Zf Z GQ Zf Zf (congrArg (λl=>List.flatten (map Qa8 l)) (JH t).2.symm)) ?_;exact FE Z (Gl 1 Z a [0,1])
   .refine Go 9 Z (KF f Z (KF f Z (KF f Z (Pk f Z ?_))));refine vV (x:=(.agg (List.flatten (map Qa8 ([false,((j.L.length:Int)==0),false,false]:List Bool))))) (JZ (n:=4) (k:=1) (zs:=[.bool false,.bool false,.bool false,.bool false]) E6 (ZR.agg (zc ZR.bool (zc ZR.bool (zc ZR.bool (zc ZR.bool ZL.nil))))) Gg Gb Z) ?_;refine vH (Jt (n:=4) (k:=1) (e:=Qa8) (z:=false) E6 (by kernel_rfl) (by kernel_rfl) (by kernel_rfl) Z) ?_;refine FE Z (Bd a λau T a=>Bd a λah u a=>?_);obtain⟨M,rfl⟩:=JH T;refine vU (Js (e:=Qa8) (l:=(List.replicate 4 false)) (l':=ah) M (Qby u) Zf Z GQ Zf Zf (congrArg (λl=>List.flatten (map Qa8 l)) (JH u).2.symm)) ?_;exact FE Z (Gl 1 Z a [0,1])
  .refine Go 9 Z (Is 21 a Z (λg a=>?_) (λg a=>?_))
   .refine Go 2 Z (Lg 6 Z Z (Fpg (gT g) Qjv Z (Ldg (gT g) isAgg9 Z ?_)));refine vX (.bool (j.S==[])) (Qd7 Z Z Z) ?_ (gT g);refine Pk g Z ?_;refine vV (x:=(.agg (List.flatten (map Qa8 ([false,false,((j.L.length:Int)==0),(j.S==[])]:List Bool))))) (JZ (n:=4) (k:=1) (zs:=[.bool false,.bool false,.bool false,.bool false]) E6 (ZR.agg (zc ZR.bool (zc ZR.bool (zc ZR.bool (zc ZR.bool ZL.nil))))) Gg Gb Z) ?_;refine vH (Jt (n:=4) (k:=1) (e:=Qa8) (z:=false) E6 (by kernel_rfl) (by kernel_rfl) (by kernel_rfl) Z) ?_;refine FE Z (Bd a λav V a=>Bd a λai w a=>?_);obtain⟨N,rfl⟩:=JH V;refine vU (Js (e:=Qa8) (l:=(List.replicate 4 false)) (l':=ai) N (Qby w) Zf Z GQ Zf Zf (congrArg (λl=>List.flatten (map Qa8 l)) (JH w).2.symm)) ?_;exact FE Z (Gl 1 Z a [0,1])
   .refine Go 9 Z (KF g Z (KF g Z (KF g Z (Pk g Z ?_))));refine vX (.agg (List.flatten (map Qa8 ([false,false,false,false]:List Bool)))) (JZ (n:=4) (k:=1) (zs:=[.bool false,.bool false,.bool false,.bool false]) E6 (ZR.agg (zc ZR.bool (zc ZR.bool (zc ZR.bool (zc ZR.bool ZL.nil))))) Gg Gb Z) ?_;refine vH (Jt (n:=4) (k:=1) (e:=Qa8) (z:=false) E6 (by kernel_rfl) (by kernel_rfl) (by kernel_rfl) Z) ?_;refine FE Z (Bd a λaw W a=>Bd a λaj y a=>?_);obtain⟨O,rfl⟩:=JH W;refine vU (Js (e:=Qa8) (l:=(List.replicate 4 false)) (l':=aj) O (Qby y) Zf Z GQ Zf Zf (congrArg (λl=>List.flatten (map Qa8 l)) (JH y).2.symm)) ?_;exact FE Z (Gl 1 Z a [0,1])
 refine Gx 1 Z (Qf s (Gc 2 Z (Bd h λB i h=>Ct B [0] [1,2] (λB=>[(50,.bool B)]) Ze Zf ?_ (λenv H s=>?_))))
 .refine G0 5 Z (Is 39 i Z (λ_ i=>?_) (λ_ i=>?_))
  .exact Gl 12 Z i [0]
  .refine Go 5 Z (Is 44 i Z (λ_ i=>?_) (λ_ i=>?_))
   .exact Gl 7 Z i [0]
   .refine Go 2 Z (Bd i λak E i=>?_);refine vX (.ptr 1 (toNat j.Kind*1)) (Qah (n:=4) (k:=1) (l:=p) E Gg Gb Z) ?_ (gT Z);refine vX (.bool ak) (Ey Z isAgg4 Z (Qi (QaZ E).2)) ?_ (gT Z);exact Gl 3 Z i [0]
 refine Gx 1 Z (Qf s (Cn Z h (λ_ h=>?_) (λ_ h=>?_)))
 .refine Gc 8 Z ?_;obtain rfl:=Oi h;exact R2 2 3 Z Z (Lr [])
 refine Gc 10 Z (Cn Z h (λ_ h=>?_) (λ_ h=>?_))
 .refine Gc 8 Z ?_;obtain rfl:=Oi h;exact R2 2 3 Z Z (Lr [])
 refine Gc 7 Z (Lg 3 Z Z (Bd h λal am h=>CgE (b:=al) [] [] (λF=>[(2,I F)]) Ze Zf ?_ (λF an=>?_)))
 .refine G0 1 Z (Lp [] [55,56] (λm=>[(2,I m.1),(57,I m.2)]) Ze am Zf (Lr []) λm ax d G=>?_);refine G0 6 Z (Q8 Z d (λ_ d=>?_) (λ_ d=>?_))
  .exact Gc 2 Z (Ql d (Gx 1 Z (JN G d Z (Lr []))))
  refine Gc 6 Z (Bd d λao ae d=>IzE ae (Jq ao) Z (Go 8 Z (Cd [] d (q _) Z λP aq d=>Fg 14 Z Z (Cn Z d (λ_ d=>?_) (λ_ d=>?_)))))
  .refine Gc 10 Z (Qx d ?_);obtain rfl:=Oj G d;refine Gx 1 Z (Qt (Gx 1 Z ?_));obtain rfl:=Oi h;exact R2 2 3 Z Z (Lr [])
  refine Gc 5 Z ?_;refine vX (I (if m.1<P.1 then P.1 else m.1)) (OpV.max Z Z Z Z) ?_;exact Go 8 Z (Qj d (Lr []))
 subst an;refine Gc 9 Z ?_;obtain rfl:=Oi h;exact R2 2 3 Z Z (Lr [])
def F_o:Nat->Value->Option (Int×Bool)
  |0=>λ_=>none
  |n+1=>B_o (F_o n) n
theorem k_o(n:Nat):∀(a:Value) (r:Int×Bool),F_o n a=some r->Csm prog 274 [.agg (Value.c a)] [] (λr=>.tup [I r.1,.bool r.2]) r:=by
  induction n with
  |zero=>intro a r h;cases h
  |succ n ih=>intro a r h;exact QdS _ ih n a r h
def F_jh(n:Nat)(d:Value):Option Int:=(F_o n d).bind λa=>(bif (!a.2)then some 1 else(bif decide (16<a.1)then some 2 else some 0))
theorem k_jh(n:Nat)(a:Value):Ks (F_jh n a) 253 [.agg (Value.c a)] [] (λr=>I r):=by
 refine Kg 9 func253 Z Z Z Z λr h=>Cd [] h (k_o _ _) Z λg f h=>Fg 16 Z Z (Cn Z h (λ_ h=>?_) (λ_ h=>?_))
 .exact QI 8 Z h 2 []
 refine Gc 7 Z (Cn Z h (λ_ h=>?_) (λ_ h=>?_))
 .exact QI 8 Z h 2 []
 exact QI 9 Z h 2 []
def F_hq(n:Nat):Option Unit:=some ()
theorem k_hq(n:Nat):Kq (F_hq n) 254 [] [] (λ_=>.ptr 0 0) (λ_=>[.cells 378 [.nilf,.fn (.func 275) [] [],.fn (.func 278) [] [],.fn (.func 279) [] [.ptr 1 0]],.cells 356 [.ptr 0 0]]):=by
 refine Kg 2 func254 Z Z Z Z λr h=>S Z (Go 4 Z (vV (JZ zeroValue378 (ZR.agg (zc ZR.nilf (zc ZR.nilf (zc ZR.nilf (zc ZR.nilf ZL.nil))))) EM Ga Z) ?_));refine Go 9 Z (vV (Q7 (i:=1) (j:=1) (by decide) Z EM Ga Z) ?_);refine Go 8 Z (vV (Q7 (i:=2) (j:=2) (by decide) Z EM Ga Z) ?_);refine Go 9 Z (vV (Q7 (i:=3) (j:=3) (by decide) Z EM Ga Z) ?_);exact Gt 11 Z h 0 [0,1]
def F_bp(n:Nat)(a:Int):Option Unit:=some ()
theorem k_bp(n:Nat)(a:Int):Ks (F_bp n a) 277 [I a] [] (λ_=>.int .u64 (QiJ .u64 (QhI .u64 (u64.wrap a) 1) (u64.wrap (Qfe .i64 a 63)))):=by
 refine Kg 8 func277 Z Z Z Z λr h=>?_;refine vV (YZ Z EL EJ Z) (vV (OpV.shl Z Z Z (by decide)) ?_);refine Go 1 Z (vV (OpV.shr Z Z Z (by decide)) ?_);refine vV (YZ Z EL EJ Z) (vV (OpV.xor Z Z Z) ?_);exact Gt 4 Z h 2 []
def F_gt(n:Nat)(a:(List Int)×Int):Option (Ctl ((List Int)×Int) ((List Int)×Int)):=(bif decide (128<=a.2)then(app a.1 [orI .u8 (u8.wrap a.2) 128]).bind λd=>some (.cont (d,Qfe .u64 a.2 7))else some (.done (a.1,a.2)))
def F_an(n:Nat)(e:List Int)(f:Int):Option (List Int):=(iter (F_gt n) n (e,f):Option ((List Int)×Int)).bind λa=>(app a.1 [u8.wrap a.2]).bind λd=>some d
theorem k_an(n:Nat)(g:List Int)(m:Int):Kq (F_an n g m) 276 [.osl 0 0 g.length 1,.int .u64 m] [.row 5 1 (map (Qe .u8) g)] (λr=>.osl 1 0 r.length 1) (λr=>[.dead,.row 5 1 (map (Qe .u8) r)]):=by
 refine Kg 6 func276 Z Z Z Z λr h=>Bd h λd q h=>Cg d [0,0] [] (λd=>[(0,.osl 1 0 d.1.length 1),(1,.int .u64 d.2)]) (λd=>[(0,.dead),(1,.row 5 1 (map (Qe .u8) d.1))]) Zf ?_ ?_
 .refine G0 1 Z (Lp [0,0] [] (λf=>[(0,.osl 1 0 f.1.length 1),(1,.int .u64 f.2)]) (λf=>[(0,.dead),(1,.row 5 1 (map (Qe .u8) f.1))]) q Zf ?_ ?_)
  .exact En (Qhx (s:=0) Z Z Z) (Lr [0,1])
  intro f t a p;refine G0 7 Z (Q8 Z a (λ_ a=>?_) (λ_ a=>?_))
  .exact Gc 2 Z (Ql a (Gx 1 Z (cQo p a (Lr [0,1]))))
  refine Gc 7 Z (vV (YZ Z EJ E0 Z) ?_);refine vV (OpV.or Z Z Z) (vH (Ek (xs:=[.tmp 12]) YO Z Z Z Z Z ⟨Z,trivial⟩ Z Z) ?_);refine FE Z (Bd a λu k a=>vH (Qk (e:=(Qe .u8)) k YO EH (QH (i:=2))) ?_);refine Fg 6 Z Z (vV (OpV.shr Z Z Z (by decide)) ?_);exact Go 2 Z (Qj a (Lr [0,3]))
 refine Gc 4 Z ?_;refine vV (YZ Z EJ E0 Z) (vH (Ek (xs:=[.tmp 17]) YO Z Z Z Z Z ⟨Z,trivial⟩ Z Z) ?_);refine FE Z (Bd h λw l h=>vH (Qk (e:=(Qe .u8)) l YO EH (QH (i:=2))) ?_);exact FE Z (Gt 4 Z h 4 [0,3])
def F_jm(n:Nat)(a:Value):Option (List Int):=(app [] [1]).bind λd=>(F_bp n a.N).bind λf=>(F_an n d (QiJ .u64 (QhI .u64 (u64.wrap a.N) 1) (u64.wrap (Qfe .i64 a.N 63)))).bind λe=>some e
theorem k_jm(n:Nat)(a:Value):Kq (F_jm n a) 275 [.nils,.agg (Value.c a)] [] (λr=>.osl 0 0 r.length 1) (λr=>[.row 5 1 (map (Qe .u8) r)]):=by
 refine Kg 7 func275 Z Z Z Z λr h=>DAs 5 2 [0,0,1,3,3] (by kernel_rfl) (Da 1 Z (DA.wo (x:=.rsl 1 (map (Qe .u8) [1])) ?_ ?_))
 .exact vH (YB (xs:=[.const (.int .u8 1)]) YO Z Z Z Z Z ⟨Z,trivial⟩ Z Z) (FE Z Wp)
 obtain⟨g,d,h⟩:=YM h;refine QbH (Qj8 d YO EH JY) Z Z (Db 1 Z (DB.wo2 (Ld EF Z Wp) (Ld EF Z Wp) ?_));exact DB.done Z (Cz [] h (k_bp _ _) Z λi e h=>Cd [1] h (k_an _ _ _) Z λj f h=>FE Z (Gt 4 Z h 4 [2]))
def F_bh(n:Nat)(d:List Int)(a:Value):Option (List Int):=(app d [1]).bind λe=>(F_bp n a.N).bind λg=>(F_an n e (QiJ .u64 (QhI .u64 (u64.wrap a.N) 1) (u64.wrap (Qfe .i64 a.N 63)))).bind λf=>some f
theorem k_bh(n:Nat)(a:List Int)(d:Value):Kq (F_bh n a d) 275 [.osl 0 0 a.length 1,.agg (Value.c d)] [.row 5 1 (map (Qe .u8) a)] (λr=>.osl 1 0 r.length 1) (λr=>[.dead,.row 5 1 (map (Qe .u8) r)]):=by
 refine Kg 7 func275 Z Z Z Z λr h=>DAs 5 2 [0,0,1,3,3] (by kernel_rfl) (Da 1 Z (DA.wo (x:=.rsl 1 (map (Qe .u8) [1])) ?_ ?_))
 .exact vH (YB (xs:=[.const (.int .u8 1)]) YO Z Z Z Z Z ⟨Z,trivial⟩ Z Z) (FE Z Wp)
 obtain⟨i,e,h⟩:=YM h;refine QbH (Qk e YO EH JY) Z Z (Db 1 Z (DB.wo2 (Ld EF Z Wp) (Ld EF Z Wp) ?_));exact DB.done Z (Cz [] h (k_bp _ _) Z λj f h=>Cd [2] h (k_an _ _ _) Z λk g h=>FE Z (Gt 4 Z h 4 [0,3]))
def F_mg(n:Nat)(e:Value)(rec150:(List Int)->Value->Option (List Int))(a:(List Int)×Int):Option (Ctl ((List Int)×Int) (List Int)):=(bif decide (a.2<(e.L.length:Int))then(idx e.L a.2).bind λd=>(bif (d.Kind==0)then none else(bif (d.Kind==1)then(F_bh n a.1 d).bind λf=>some (.cont (f,i64.wrap (a.2+1)))else(bif (d.Kind==2)then none else(bif (d.Kind==3)then(rec150 a.1 d).bind λg=>some (.cont (g,i64.wrap (a.2+1)))else none))))else some (.done a.1))
def B_bc(rec150:(List Int)->Value->Option (List Int))(n:Nat)(e:List Int)(a:Value):Option (List Int):=(app e [3]).bind λf=>(F_an n f (u64.wrap (a.L.length:Int))).bind λg=>(iter (F_mg n a rec150) n (g,0):Option (List Int)).bind λd=>some d
theorem QaW(rec150:(List Int)->Value->Option (List Int))(m:∀(l:List Int) (d:Value) (r:List Int),rec150 l d=some r->C prog 279 [.osl 0 0 l.length 1,.agg (Value.c d),.ptr 1 0] [.row 5 1 (map (Qe .u8) l),.cells 356 [.ptr 2 0],.cells 378 [.nilf,.fn (.func 275) [] [],.fn (.func 278) [] [],.fn (.func 279) [] [.ptr 1 0]]] (RQ (λr=>.osl 3 0 r.length 1) (λr=>[.dead,.cells 356 [.ptr 2 0],.cells 378 [.nilf,.fn (.func 275) [] [],.fn (.func 278) [] [],.fn (.func 279) [] [.ptr 1 0]],.row 5 1 (map (Qe .u8) r)]) r))(n:Nat)(l:List Int)(d:Value)(r:List Int)(h:B_bc rec150 n l d=some r):C prog 279 [.osl 0 0 l.length 1,.agg (Value.c d),.ptr 1 0] [.row 5 1 (map (Qe .u8) l),.cells 356 [.ptr 2 0],.cells 378 [.nilf,.fn (.func 275) [] [],.fn (.func 278) [] [],.fn (.func 279) [] [.ptr 1 0]]] (RQ (λr=>.osl 3 0 r.length 1) (λr=>[.dead,.cells 356 [.ptr 2 0],.cells 378 [.nilf,.fn (.func 275) [] [],.fn (.func 278) [] [],.fn (.func 279) [] [.ptr 1 0]],.row 5 1 (map (Qe .u8) r)]) r):=by
 refine QE func279 Z Z Z ?_;refine G0 7 Z (DAs 7 2 [0,0,1,3,3,3,3] (by kernel_rfl) (Da 1 Z ?_));refine DA.wo (x:=.rsl 1 (map (Qe .u8) [3])) ?_ ?_
 .refine vH (YB (xs:=[.const (.int .u8 3)]) (es:=map (Qe .u8) [3]) YO Z Z Z Z Z ⟨Z,trivial⟩ Z Z) ?_;exact FE Z Wp
 obtain⟨O,B,h⟩:=YM h;refine QbH (Qk (e:=(Qe .u8)) B YO EH JY) Z Z (Db 1 Z ?_);refine DB.wo2 (x:=.rsl 4 (map Value.enc d.L)) (Ld isAgg294 Z Wp) (Ld isAgg294 Z Wp) ?_;refine DB.wo2 (x:=I (d.L.length:Int)) (LnM EX Z Wp) (LnM EX Z Wp) ?_;refine DB.wo2 (x:=.int .u64 (u64.wrap (d.L.length:Int))) ?_ ?_ ?_
 iterate 2 refine vX (.int .u64 (u64.wrap (d.L.length:Int))) (YZ Z EL EJ Z) ?_;exact Wp
 refine DB.done Z (Cd [4] h (k_an _ _ _) Z λP H h=>Fg 8 Z Z (Lg 3 Z Z (Bd h λf E h=>Cg f [0,1,2,3] [] (λf=>[(0,.osl 3 0 f.length 1)]) (λf=>[(3,.row 5 1 (map (Qe .u8) f))]) Zf ?_ ?_)))
 .refine G0 1 Z (Lp [0,1,2,5] [2,17,18] (λg=>[(0,.osl 3 0 g.1.length 1),(19,I g.2)]) (λg=>[(3,.row 5 1 (map (Qe .u8) g.1))]) E Zf (Lr [0,1,2,5]) λg J a t=>?_);refine G0 6 Z (Q8 Z a (λ_ a=>?_) (λ_ a=>?_))
  .exact Gc 2 Z (Ql a (Gx 1 Z (cQo t a (Lr [0,1,2,3]))))
  refine Gc 6 Z (Bd a λp w a=>IzE w (Jq p) Z (Go 5 Z (DSs 9 Z (D 4 Z (If a (λ_ a=>?_) (λ_ a=>?_))))))
  .cases a
  .refine If a (λq a=>?_) (λq a=>?_)
   .refine DS.v (x:=(.ptr 2 1)) (Q7 (i:=p.Kind) (n:=4) (k:=1) (j:=1) q Z EM Ga Z) ?_;exact D 4 Z (Eg Z (Cd [3] a (k_bh _ _ _) Z λM F a=>Fg 8 Z Z (Qj a (Lr [0,1,2,5]))))
   .refine If a (λ_ a=>?_) (λ_ a=>?_)
    .cases a
    .refine If a (λs a=>?_) (λs a=>?_)
     .refine DS.v (x:=(.ptr 2 3)) (Q7 (i:=p.Kind) (n:=4) (k:=1) (j:=3) s Z EM Ga Z) ?_;exact D 4 Z (Eg Z (Cd [3,1,2] a (m _ _) Z λN G a=>Fg 8 Z Z (Qj a (Lr [0,1,2,5]))))
     .cases a
 exact QI 7 Z h 5 [0,1,2,3]
def F_bc:Nat->(List Int)->Value->Option (List Int)
  |0=>λ_ _=>none
  |n+1=>B_bc (F_bc n) n
theorem k_bc(n:Nat):∀(a:List Int) (d:Value) (r:List Int),F_bc n a d=some r->C prog 279 [.osl 0 0 a.length 1,.agg (Value.c d),.ptr 1 0] [.row 5 1 (map (Qe .u8) a),.cells 356 [.ptr 2 0],.cells 378 [.nilf,.fn (.func 275) [] [],.fn (.func 278) [] [],.fn (.func 279) [] [.ptr 1 0]]] (RQ (λr=>.osl 3 0 r.length 1) (λr=>[.dead,.cells 356 [.ptr 2 0],.cells 378 [.nilf,.fn (.func 275) [] [],.fn (.func 278) [] [],.fn (.func 279) [] [.ptr 1 0]],.row 5 1 (map (Qe .u8) r)]) r):=by
  induction n with
  |zero=>intro a d r h;cases h
  |succ n ih=>intro a d r h;exact QaW _ ih n a d r h
def F_jv(n:Nat)(e:Value)(a:(List Int)×Int):Option (Ctl ((List Int)×Int) (List Int)):=(bif decide (a.2<(e.L.length:Int))then(idx e.L a.2).bind λd=>(bif (d.Kind==0)then none else(bif (d.Kind==1)then(F_bh n a.1 d).bind λf=>some (.cont (f,i64.wrap (a.2+1)))else(bif (d.Kind==2)then none else(bif (d.Kind==3)then(F_bc n a.1 d).bind λg=>some (.cont (g,i64.wrap (a.2+1)))else none))))else some (.done a.1))
def F_de(n:Nat)(a:Value):Option (List Int):=(app [] [3]).bind λe=>(F_an n e (u64.wrap (a.L.length:Int))).bind λf=>(iter (F_jv n a) n (f,0):Option (List Int)).bind λd=>some d
theorem k_de(n:Nat)(g:Value):Kq (F_de n g) 279 [.nils,.agg (Value.c g),.ptr 0 0] [.cells 356 [.ptr 1 0],.cells 378 [.nilf,.fn (.func 275) [] [],.fn (.func 278) [] [],.fn (.func 279) [] [.ptr 0 0]]] (λr=>.osl 2 0 r.length 1) (λr=>[.cells 356 [.ptr 1 0],.cells 378 [.nilf,.fn (.func 275) [] [],.fn (.func 278) [] [],.fn (.func 279) [] [.ptr 0 0]],.row 5 1 (map (Qe .u8) r)]):=by
 refine Kg 7 func279 Z Z Z Z λr h=>DAs 7 2 [0,0,1,3,3,3,3] (by kernel_rfl) (Da 1 Z ?_);refine DA.wo (x:=.rsl 1 (map (Qe .u8) [3])) ?_ ?_
 .refine vH (YB (xs:=[.const (.int .u8 3)]) (es:=map (Qe .u8) [3]) YO Z Z Z Z Z ⟨Z,trivial⟩ Z Z) ?_;exact FE Z Wp
 obtain⟨M,y,h⟩:=YM h;refine QbH (Qj8 (e:=(Qe .u8)) y YO EH JY) Z Z (Db 1 Z ?_);refine DB.wo2 (x:=.rsl 4 (map Value.enc g.L)) (Ld isAgg294 Z Wp) (Ld isAgg294 Z Wp) ?_;refine DB.wo2 (x:=I (g.L.length:Int)) (LnM EX Z Wp) (LnM EX Z Wp) ?_;refine DB.wo2 (x:=.int .u64 (u64.wrap (g.L.length:Int))) ?_ ?_ ?_
 iterate 2 refine vX (.int .u64 (u64.wrap (g.L.length:Int))) (YZ Z EL EJ Z) ?_;exact Wp
 refine DB.done Z (Cd [3] h (k_an _ _ _) Z λN F h=>Fg 8 Z Z (Lg 3 Z Z (Bd h λd z h=>Cg d [0,1,2] [] (λd=>[(0,.osl 2 0 d.length 1)]) (λd=>[(2,.row 5 1 (map (Qe .u8) d))]) Zf ?_ ?_)))
 .refine G0 1 Z (Lp [0,1,4] [2,17,18] (λf=>[(0,.osl 2 0 f.1.length 1),(19,I f.2)]) (λf=>[(2,.row 5 1 (map (Qe .u8) f.1))]) z Zf (Lr [0,1,4]) λf G a q=>?_);refine G0 6 Z (Q8 Z a (λ_ a=>?_) (λ_ a=>?_))
  .exact Gc 2 Z (Ql a (Gx 1 Z (cQo q a (Lr [0,1,2]))))
  refine Gc 6 Z (Bd a λl t a=>IzE t (Jq l) Z (Go 5 Z (DSs 9 Z (D 4 Z (If a (λ_ a=>?_) (λ_ a=>?_))))))
  .cases a
  .refine If a (λm a=>?_) (λm a=>?_)
   .refine DS.v (x:=(.ptr 1 1)) (Q7 (i:=l.Kind) (n:=4) (k:=1) (j:=1) m Z EM Ga Z) ?_;exact D 4 Z (Eg Z (Cd [2] a (k_bh _ _ _) Z λH B a=>Fg 8 Z Z (Qj a (Lr [0,1,4]))))
   .refine If a (λ_ a=>?_) (λ_ a=>?_)
    .cases a
    .refine If a (λp a=>?_) (λp a=>?_)
     .refine DS.v (x:=(.ptr 1 3)) (Q7 (i:=l.Kind) (n:=4) (k:=1) (j:=3) p Z EM Ga Z) ?_;exact D 4 Z (Eg Z (Cd [2,0,1] a (k_bc _ _ _) Z λJ E a=>Fg 8 Z Z (Qj a (Lr [0,1,4]))))
     .cases a
 exact QI 7 Z h 5 [0,1,2]
def F_jo(n:Nat)(a:Value):Option ((List Int)×Int):=(F_jh n a).bind λd=>(bif (d != 0)then some ([],d)else(F_hq n).bind λg=>(bif (a.Kind==0)then none else(bif (a.Kind==1)then(F_jm n a).bind λe=>some (e,0)else(bif (a.Kind==2)then none else(bif (a.Kind==3)then(F_de n a).bind λf=>some (f,0)else none)))))
theorem k_jo(n:Nat)(a:Value):Kq (F_jo n a) 192 [.agg (Value.c a)] [] (λr=>.tup [.osl 0 0 r.1.length 1,I r.2]) (λr=>[.row 5 1 (map (Qe .u8) r.1)]):=by
 refine Kg 11 func192 Z Z Z Z λr h=>Cz [] h (k_jh _ _) Z λw p h=>Go 9 Z (Cn Z h (λ_ h=>?_) (λ_ h=>?_))
 .refine Gc 9 Z ?_;obtain rfl:=Oi h;refine R2 2 3 Z Z ?_;refine En (Ep (s:=2) (k:=1) (t:=5) (XO Z) Z) ?_;exact Lr [1]
 refine Gc 3 Z (DAs 8 0 [1,3,3,2,2,2,2,3] (by kernel_rfl) ?_);obtain⟨y,g,h⟩:=YM h;refine DA.op (x:=.ptr 1 0) (H1:=[.cells 296 (Value.c a),.cells 378 [.nilf,.fn (.func 275) [] [],.fn (.func 278) [] [],.fn (.func 279) [] [.ptr 2 0]],.cells 356 [.ptr 1 0]]) ?_ ?_
 .refine QD [] (OpC.fn call254 Z Z Z) (k_hq _ _ g) ?_;rintro _ _ ⟨rfl,rfl⟩;exact FE Z Wp
 refine Db 1 Z ?_;refine DB.wo2 (x:=I a.Kind) (Ld EF Z Wp) (Ld EF Z Wp) ?_;refine Db 1 Z (If h (λ_ h=>?_) (λ_ h=>?_))
 .cases h
 .refine If h (λd h=>?_) (λd h=>?_)
  .refine DB.wo1 (x:=.ptr 1 1) ?_ ?_
   .refine vX (.ptr 1 1) (Q7 (i:=a.Kind) (n:=4) (k:=1) (j:=1) d Z EM Ga Z) ?_;exact Wp
   refine Db 2 Z ?_;refine DB.wo2 (x:=.agg (Value.c a)) ?_ ?_ ?_
   iterate 2 refine vX (.agg (Value.c a)) (Qs Z GC Gv Z (Pts.cells Z Z) Z Z) ?_;exact Wp
   refine DB.done Z (Cd [] h (k_jm _ _) Z λz q h=>Fg 5 Z Z ?_);obtain rfl:=Oi h;exact R2 2 3 Z Z (Lr [3])
  .refine If h (λ_ h=>?_) (λ_ h=>?_)
   .cases h
   .refine If h (λe h=>?_) (λe h=>?_)
    .refine DB.wo1 (x:=.ptr 1 3) ?_ ?_
     .refine vX (.ptr 1 3) (Q7 (i:=a.Kind) (n:=4) (k:=1) (j:=3) e Z EM Ga Z) ?_;exact Wp
     refine Db 2 Z ?_;refine DB.wo2 (x:=.agg (Value.c a)) ?_ ?_ ?_
     iterate 2 refine vX (.agg (Value.c a)) (Qs Z GC Gv Z (Pts.cells Z Z) Z Z) ?_;exact Wp
     refine DB.done Z (Cd [2,1] h (k_de _ _) Z λB u h=>Fg 5 Z Z ?_);obtain rfl:=Oi h;exact R2 2 3 Z Z (Lr [3])
    .cases h
def F_ku(n:Nat)(d:(List Int)×Bool)(a:(List Value)×Int):Option (Ctl ((List Value)×Int) (List Value)):=(bif decide (a.2<(d.1.length:Int))then(idx d.1 a.2).bind λe=>(app a.1 [{Kind:=1,N:=e,S:=[],L:=[]:Value}]).bind λf=>some (.cont (f,i64.wrap (a.2+1)))else some (.done a.1))
def F_bw(n:Nat)(f:Fact):Option ((List Int)×Int):=(F_bv n f).bind λd=>(bif (!d.2)then some ([],120)else(iter (F_ku n d) n ([],0):Option (List Value)).bind λe=>(F_jo n ({Kind:=3,N:=0,S:=[],L:=e:Value})).bind λa=>some (a.1,a.2))
theorem k_bw(n:Nat)(q:Fact):Kq (F_bw n q) 136 [.agg (Fact.c q)] [] (λr=>.tup [.osl 0 0 r.1.length 1,I r.2]) (λr=>[.row 5 1 (map (Qe .u8) r.1)]):=by
 refine Kg 10 func136 Z Z Z Z λr h=>Cd [] h (k_bv _ _) Z λG y h=>Fg 14 Z Z (Cn Z h (λ_ h=>?_) (λ_ h=>?_))
 .refine Gc 8 Z ?_;obtain rfl:=Oi h;refine R2 2 3 Z Z ?_;refine En (Ep (s:=2) (k:=1) (t:=5) (XO Z) Z) ?_;exact Lr [2]
 refine Gc 4 Z ?_;refine vV (OpV.build (zs:=[I 0,I 0,.str [],.nils]) GL (zrC Z) QnS) ?_;refine Fg 11 Z Z (Bd h λf w h=>Cg f [0,1] [] (λ_=>[(6,.ptr 0 0)]) (λf=>[(0,.cells 296 [I 3,I 0,.str [],.osl 1 0 f.length 4]),(1,.row 296 4 (map Value.enc f))]) Zf ?_ ?_)
 .refine G0 1 Z (Lp [2,0,1] [6,17,18] (λd=>[(19,I d.2)]) (λd=>[(0,.cells 296 [I 3,I 0,.str [],.osl 1 0 d.1.length 4]),(1,.row 296 4 (map Value.enc d.1))]) w Zf ?_ ?_)
  .refine En (YU (i:=2) (m:=3) (t:=296) (k:=4) Z Z Z) ?_;exact Lr [2,3,1]
  intro d z a j;refine G0 6 Z (Q8 Z a (λ_ a=>?_) (λ_ a=>?_))
  .exact Gc 2 Z (Ql a (Gx 1 Z (cQo j a (Lr [0,1]))))
  refine Gc 6 Z (Bd a λB g a=>?_);refine vV (Qv g Z EA EE) ?_;refine vV (Ey Z EF Z (Qi g)) ?_;refine Go 8 Z (vH (Ek (xs:=[.tmp 26]) Qik Z Z Z Z Z ⟨Z,trivial⟩ Z Z) ?_);refine FE Z (Bd a λE p a=>vH (Qk (e:=Value.enc) p Qik EX (QH (i:=3))) ?_);exact Fg 9 Z Z (Qj a (Lr [0,4,2]))
 refine Gc 3 Z ?_;refine QG (Jm [(31,_)] Z Z (Qpf.cons Z (FzA.agg (Ed (Ee _) (Ed (Ee _) (Ed (Ee _) (Ed Eo (Ej _)))))) Qpf.nil) (FzH.cells (Ed (Ee _) (Ed (Ee _) (Ed (Ee _) (Ed Eo (Ej _))))) (Ec (YD _)))) ?_;refine Cd [] h (k_jo _ _) Z λF x h=>Fg 7 Z Z ?_;obtain rfl:=Oi h;exact R2 2 3 Z Z (Lr [2])
def F_hw(n:Nat)(a:List Int)(d:List Int):Option Unit:=some ()
theorem k_hw(n:Nat)(a:List Int)(d:List Int):Ks (F_hw n a d) 137 [.rsl 1 (map (Qe .u8) a),.rsl 1 (map (Qe .u8) d)] [] (λ_=>I (cmpB a d)):=by
 refine Kg 9 func137 Z Z Z Z λr h=>(vV (OpV.cmpB func193 (by kernel_rfl) (by kernel_rfl) (by kernel_rfl) (by kernel_rfl) Qk9.rsl Qk9.rsl) ?_);exact Gt 4 Z h 4 []
def F_ap(n:Nat)(a:Fact)(d:Fact):Option Int:=(F_v n a.At d.At).bind λh=>(F_v n a.Crew d.Crew).bind λi=>(F_v n a.No d.No).bind λj=>(F_gf n [h,i,j]).bind λe=>(bif (e != 0)then some e else(F_bw n a).bind λf=>(F_bw n d).bind λg=>(F_hw n f.1 g.1).bind λk=>some (cmpB f.1 g.1))
theorem k_ap(n:Nat)(a:Fact)(d:Fact):Ks (F_ap n a d) 61 [.agg (Fact.c a),.agg (Fact.c d)] [] (λr=>I r):=by
 refine Kg 9 func61 Z Z Z Z λr h=>DSs 14 Z (D 4 Z (Dz [] h (k_v _ _ _) Z λp f h=>D 4 Z ?_));refine Dz [] h (k_v _ _ _) Z λq g h=>D 4 Z (Eg Z (Cz [] h (k_v _ _ _) Z λs i h=>(vH (YB (xs:=[.tmp 14,.tmp 19,.tmp 24]) Qu Z Z Z Z Z ⟨Z,Z,Z,trivial⟩ Z Z) ?_)));refine FE Z (Cz [] h (k_gf _ _) Z λt j h=>Go 9 Z (Cn Z h (λ_ h=>?_) (λ_ h=>?_)))
 .exact QI 8 Z h 4 []
 exact Gc 5 Z (Cd [] h (k_bw _ _) Z λu k h=>Fg 10 Z Z (Cd [] h (k_bw _ _) Z λw l h=>Fg 11 Z Z (Cb h (k_hw _ _ _) Z (lo (lo ln)) λx m h=>Gt 4 Z h 4 [])))
def F_bx(n:Nat)(a:Fact)(d:Fact):Option Bool:=(F_ap n a d).bind λe=>some (e==0)
theorem k_bx(n:Nat)(a:Fact)(d:Fact):Ks (F_bx n a d) 218 [.agg (Fact.c a),.agg (Fact.c d),.ptr 0 0] [.cells 156 [.fn (.func 61) [] []]] (λr=>.bool r):=by
 exact Kg 12 func218 Z Z Z Z λr h=>Cz [] h (k_ap _ _ _) Z λf e h=>Gt 5 Z h 5 [0]
def F_fa(n:Nat)(f:List Fact)(d:Int)(a:(List Fact)×Int×Int):Option (Ctl ((List Fact)×Int×Int) ((List Fact)×Int)):=(bif decide (a.2.2<((toNat (f.length:Int)-toNat d:Nat):Int))then(QhY a.1 d (f.length:Int) a.2.2).bind λg=>(QhY a.1 d (f.length:Int) (i64.wrap (a.2.2-1))).bind λh=>(F_bx n g h).bind λi=>((bif (!i)then(QhY a.1 d (f.length:Int) a.2.2).bind λj=>(idx a.1 a.2.1).bind λl=>(QcM a.1 a.2.1 j).bind λk=>some (k,i64.wrap (a.2.1+1))else some (a.1,a.2.1)):Option ((List Fact)×Int)).bind λe=>some (.cont (e.1,e.2,i64.wrap (a.2.2+1)))else some (.done (a.1,a.2.1)))
def F_en(n:Nat)(d:List Fact)(a:Int):Option (Ctl Int (Ctl Unit (List Fact))):=(bif decide (a<(d.length:Int))then(idx d a).bind λf=>(idx d (i64.wrap (a-1))).bind λg=>(F_bx n f g).bind λh=>(bif h then(slc d a (d.length:Int)).bind λj=>(iter (F_fa n d a) n (d,a,1):Option ((List Fact)×Int)).bind λe=>(slc e.1 0 e.2).bind λi=>some (.done (.done i))else some (.cont (i64.wrap (a+1))))else some (.done (.cont ())))
def F_gi(n:Nat)(d:List Fact):Option (List Fact):=(bif decide ((d.length:Int)<2)then some d else(iter (F_en n d) n 1:Option (Ctl Unit (List Fact))).bind λe=>match e with|.cont a=>(some d)|.done a=>some a)
theorem k_gi(n:Nat)(q:List Fact):Kq (F_gi n q) 217 [.osl 0 0 q.length 57,.fn (.func 218) [] [.ptr 1 0]] [.row 72 57 (map Fact.c q),.cells 156 [.fn (.func 61) [] []]] (λr=>.osl 0 0 r.length 57) (λr=>[.row 72 57 (map Fact.c r),.cells 156 [.fn (.func 61) [] []]]):=by
 refine Kg 13 func217 Z Z Z Z λr h=>Cn Z h (λ_ h=>?_) (λ_ h=>?_)
 .exact QI 8 Z h 4 [0,1]
 refine Gc 8 Z (Bd h λR T h=>CgE (b:=R) [0,1] [0] Ze Ze Zf ?_ (λ_ ae=>?_))
 .refine G0 1 Z (Lp [0,1] [0,1] (λg=>[(5,I g)]) Ze T Zf (Lr [0,1]) λg aj a w=>?_);refine G0 9 Z (Q8 Z a (λ_ a=>?_) (λ_ a=>?_))
  .exact Gc 2 Z (Ql a (Gx 1 Z (JN w a Z (Lr [0,1]))))
  refine Gc 5 Z (DSs 10 Z (D 3 Z ?_));obtain⟨V,y,a⟩:=YM a;refine DS.v (x:=(.ptr 0 (toNat g*57))) (Qv y Z EB EC) ?_;refine DS.v (x:=(.agg (Fact.c V))) (Qs Z EP EC Z (Qi y) Z Z) ?_;refine D 3 Z ?_;obtain⟨W,z,a⟩:=YM a;refine DS.v (x:=(.ptr 0 (toNat (i64.wrap (g-1))*57))) (Qv z Z EB EC) ?_;refine DS.v (x:=(.agg (Fact.c W))) (Qs Z EP EC Z (Qi z) Z Z) ?_;refine Eg Z (Cz [1] a (k_bx _ _ _) Z λak ah a=>Go 2 Z (Cn Z a (λ_ a=>?_) (λ_ a=>?_)))
  .refine Gc 4 Z (Bd a λal N a=>?_);refine vX (.osl 0 (0+toNat g) (toNat (q.length:Int)-toNat g) 57) (Jr (l:=q) N EB EC (.inr ⟨_,Z,Z⟩) (.inl ⟨Z,Z⟩)) ?_;refine Go 9 Z (Bd a λj X a=>Cg j [0,1] [] (λj=>[(0,.osl 0 0 j.1.length 57),(5,I j.2)]) (λj=>[(0,.row 72 57 (map Fact.c j.1))]) Zf ?_ ?_)
   .refine G0 1 Z (Lp [0,1] [1,6] (λi=>[(0,.osl 0 0 i.1.length 57),(5,I i.2.1),(7,I i.2.2)]) (λi=>[(0,.row 72 57 (map Fact.c i.1))]) X Zf (Lr [0,1]) λi am d O=>?_);refine G0 5 Z ?_;refine vX (I ((toNat (q.length:Int)-toNat g:Nat):Int)) (Qj5 Z Z EB Z) ?_;refine Go 3 Z (Q8 Z d (λ_ d=>?_) (λ_ d=>?_))
    .exact Gc 2 Z (Ql d (Gx 1 Z (cQo O d (Lr [0,1]))))
    refine Gc 5 Z (DSs 10 Z (D 3 Z ?_));obtain⟨Y,B,d⟩:=YM d;refine DS.v (x:=(.ptr 0 (toNat (g+i.2.2)*57))) (Qgr (l:=i.1) (lo:=g) (hi:=(q.length:Int)) B EB EC) ?_;refine DS.v (x:=(.agg (Fact.c Y))) (Qs Z EP EC Z (Qi (QhX B)) Z Z) ?_;refine D 3 Z ?_;obtain⟨aa,E,d⟩:=YM d;refine DS.v (x:=(.ptr 0 (toNat (g+i64.wrap (i.2.2-1))*57))) (Qgr (l:=i.1) (lo:=g) (hi:=(q.length:Int)) E EB EC) ?_;refine DS.v (x:=(.agg (Fact.c aa))) (Qs Z EP EC Z (Qi (QhX E)) Z Z) ?_;refine Eg Z (Cz [1] d (k_bx _ _ _) Z λan ai d=>Go 3 Z (Bd d λp m d=>Ct p [0,1] [1,6,7] (λp=>[(0,.osl 0 0 p.1.length 57),(5,I p.2)]) (λp=>[(0,.row 72 57 (map Fact.c p.1))]) Zf ?_ (λenv H af=>?_)))
    .refine G0 0 Z (Cn Z m (λ_ m=>?_) (λ_ m=>?_))
     .refine Gc 6 Z (Bd m λab F m=>?_);refine vX (.ptr 0 (toNat (g+i.2.2)*57)) (Qgr (l:=i.1) (lo:=g) (hi:=(q.length:Int)) F EB EC) ?_;refine vX (.agg (Fact.c ab)) (Qs Z EP EC Z (Qi (QhX F)) Z Z) ?_;refine Bd m λao G m=>?_;refine vX (.ptr 0 (toNat i.2.1*57)) (Qv G Z EB EC) ?_;refine Bd m λaq t m=>?_;refine vU (J0 (e:=Fact.c) (k:=57) (f:=0) G t EC Z Z) ?_;refine FE Z ?_;refine QG (QU (s:=0) Z (congrArg (λn=>A.osl 0 0 n 57) (YI t))) ?_;refine QG (QU (s:=50) Z (congrArg (λn=>A.osl 0 0 n 57) (YI t))) ?_;exact Gl 7 Z m [0,1]
     exact YC 1 Z m [0,1]
    exact Gx 2 Z (Qf af (Gc 5 Z (Qj d (Lr [0,1]))))
   refine Gc 4 Z (Bd a λJ u a=>?_);refine vX (.osl 0 (0+toNat j.2) (j.1.length-toNat j.2) 57) (Qld (l:=j.1) u EB EC) ?_;refine vN (Qlh (e:=Fact.c) (l:=j.1) u underlying34 GA Z (by simp[Qy,Go.Value.cells])) ?_;refine QoY (H:=[.row 72 57 (map Fact.c J),.cells 156 [.fn (.func 61) [] []]]) Z ?_;refine Go 6 Z ?_;refine vX (.osl 0 0 J.length 57) (Qle (l:=j.1) u EB EC) ?_;refine Go 6 Z (Qx a ?_);obtain rfl:=Oj w a;exact Gx 1 Z (Qt (Gx 1 Z (Rt h 4 [0,1])))
  exact Gc 8 Z (Qj a (Lr [0,1]))
 subst ae;exact QI 7 Z h 4 [0,1]
def F_ct(n:Nat)(a:List Fact):Option (List Fact):=(F_eu n a).bind λd=>(QbT (λx y=>F_ap n x y) d).bind λe=>(F_gi n e).bind λf=>some f
theorem k_ct(n:Nat)(d:List Fact):Kq (F_ct n d) 173 [.rsl 57 (map Fact.c d),.fn (.func 61) [] []] [] (λr=>.osl 0 0 r.length 57) (λr=>[.row 72 57 (map Fact.c r)]):=by
 refine Kg 9 func173 Z Z Z Z λr h=>Cd [] h (k_eu _ _) Z λg e h=>Fg 7 Z Z (Bd h λi a h=>(QD [1] (OpC.fn call216 Z Z Z) (Qp8 QgA a (λx y c h=>k_ap n x y c h) EP EC call61 Zf Z) ?_));rintro _ _ ⟨rfl,rfl⟩;refine QG (QU (s:=0) Z (congrArg (λn=>A.osl 1 0 n 57) (Qcf a))) ?_;exact Go 6 Z (Cd [1,0] h (k_gi _ _) Z λj f h=>FE Z (Gt 4 Z h 4 [1]))
def F_gq(n:Nat)(a:List Ue):Option (List Ue):=isNil a (some []) ((app ([]:List Ue) a).bind λd=>some d)
theorem k_gq(n:Nat)(a:List Ue):Kq (F_gq n a) 219 [.rsl 1 (map Ue.ptr a)] [] (λr=>.osl 0 0 r.length 1) (λr=>[.row 222 1 (map Ue.ptr r)]):=by
 refine Kg 9 func219 Z Z Z Z λr h=>(QjX underlying220 Z (λb1 d=>?_));have hkb1:=Qji h b1 d;cases b1
 .have h:=hkb1.2 Z;refine Go 7 Z (vH (Ek (xs:=[]) Qil Z Z Z Z Z trivial Z Z) ?_);refine Fg 1 Z Z (Bd h λf e h=>vH (Qk e Qil ET JY) ?_);exact FE Z (Gt 4 Z h 2 [1])
 .have h:=hkb1.1 Z;refine Go 10 Z ?_;obtain rfl:=Oi h;refine R1 2 Z ?_;exact En (Ep (s:=2) (t:=222) (XO Z) Z) (Lr [0])
def F_aw(n:Nat)(a:Ue)(d:Ue):Option Int:=(F_v n a.number d.number).bind λe=>some e
theorem k_aw(n:Nat)(a:Ue)(d:Ue):Ks (F_aw n a d) 175 [.rp (Ue.c a),.rp (Ue.c d)] [] (λr=>I r):=by
 refine Kg 6 func175 Z Z Z Z λr h=>DSs 8 Z (D 2 Z (DS.wo (x:=.rp [I a.number,.rsl 57 (map Fact.c a.r0),.rsl 57 (map Fact.c a.r1),.rsl 57 (map Fact.c a.r2),.rsl 4 (map Report.c a.reports),.bool a.appeal]) ?_ ?_))
 .exact Fr Qjx Z Wp
 refine D 3 Z (DS.wo (x:=.rp [I d.number,.rsl 57 (map Fact.c d.r0),.rsl 57 (map Fact.c d.r1),.rsl 57 (map Fact.c d.r2),.rsl 4 (map Report.c d.reports),.bool d.appeal]) ?_ ?_)
 .exact Fr Qjx Z Wp
 exact D 1 Z (Eg Z (Cz [] h (k_v _ _ _) Z λf e h=>Gt 4 Z h 4 []))
def F_bn(n:Nat)(a:Ue)(d:Ue):Option Bool:=(F_aw n a d).bind λe=>some (e==0)
theorem k_bn(n:Nat)(a:Ue)(d:Ue):Ks (F_bn n a d) 222 [.rp (Ue.c a),.rp (Ue.c d),.ptr 0 0] [.cells 272 [.fn (.func 175) [] []]] (λr=>.bool r):=by
 exact Kg 10 func222 Z Z Z Z λr h=>Cz [] h (k_aw _ _ _) Z λf e h=>Gt 5 Z h 5 [0]
def F_lq(n:Nat)(d:List Ue)(a:Int):Option (Ctl Int Unit):=(bif decide (a<(d.length:Int))then(idx d a).bind λe=>(idx d (i64.wrap (a-1))).bind λf=>(F_bn n e f).bind λg=>((bif (!g)then none else some ()):Option Unit).bind λh=>some (.cont (i64.wrap (a+1)))else some (.done ()))
def F_kh(n:Nat)(d:List Ue)(a:Int):Option (Ctl Int Unit):=(bif decide (a<(d.length:Int))then(idx d a).bind λe=>(idx d (i64.wrap (a-1))).bind λf=>(F_bn n e f).bind λg=>(bif g then(slc d a (d.length:Int)).bind λh=>(iter (F_lq n h) n 1:Option Unit).bind λi=>none else some (.cont (i64.wrap (a+1))))else some (.done ()))
def F_cv(n:Nat)(a:List Ue):Option Unit:=(bif decide ((a.length:Int)<2)then some ()else(iter (F_kh n a) n 1:Option Unit).bind λd=>some ())
theorem k_cv(n:Nat)(y:List Ue):Ks (F_cv n y) 221 [.rsl 1 (map Ue.ptr y),.fn (.func 222) [] [.ptr 0 0]] [.cells 272 [.fn (.func 175) [] []]] (λ_=>.rsl 1 (map Ue.ptr y)):=by
 refine Kg 9 func221 Z Z Z Z λr h=>Lg 3 Z Z (Cn Z h (λ_ h=>?_) (λ_ h=>?_))
 .exact QI 8 Z h 4 [0]
 refine Gc 8 Z (Bd h λz B h=>Cg z [0] [0] Ze Ze Zf ?_ ?_)
 .refine G0 1 Z (Lp [0] [0,1] (λf=>[(5,I f)]) Ze B Zf (Lr [0]) λf V a i=>?_);refine G0 5 Z (Lg 3 Z Z (Q8 Z a (λ_ a=>?_) (λ_ a=>?_)))
  .exact Gc 2 Z (Ql a (Gx 1 Z (cQo i a (Lr [0]))))
  refine Gc 5 Z (DSs 10 Z (D 3 Z ?_));obtain⟨E,k,a⟩:=YM a;refine DS.wo (x:=.rp [.rp (Ue.c E)]) ?_ ?_
  .exact Ix k ET Gw Z Wp
  refine D 4 Z ?_;obtain⟨F,l,a⟩:=YM a;refine DS.wo (x:=.rp [.rp (Ue.c F)]) ?_ ?_
  .exact Ix l ET Gw Z Wp
  refine D 1 Z (Eg Z (Cz [0] a (k_bn _ _ _) Z λW R a=>Go 2 Z (Cn Z a (λ_ a=>?_) (λ_ a=>?_))))
  .refine Gc 4 Z (Bd a λG p a=>?_);refine vX (.rsl 1 (map Ue.ptr G)) (Qo9 p ET Gw (.inr ⟨_,Z,Z⟩) (.inl ⟨Z,Z⟩)) ?_;refine Go 9 Z (Bd a λJ L a=>Cg J [0] [0,5] Ze Ze Zf ?_ ?_)
   .refine G0 1 Z (Lp [0] [0,1,5,6] (λg=>[(7,I g)]) Ze L Zf (Lr [0]) λg X d q=>?_);refine G0 5 Z (Lg 3 Z Z (Q8 Z d (λ_ d=>?_) (λ_ d=>?_)))
    .exact Gc 2 Z (Ql d (Gx 1 Z (cQo q d (Lr [0]))))
    refine Gc 5 Z (DSs 10 Z (D 3 Z ?_));obtain⟨M,t,d⟩:=YM d;refine DS.wo (x:=.rp [.rp (Ue.c M)]) ?_ ?_
    .exact Ix t ET Gw Z Wp
    refine D 4 Z ?_;obtain⟨N,u,d⟩:=YM d;refine DS.wo (x:=.rp [.rp (Ue.c N)]) ?_ ?_
    .exact Ix u ET Gw Z Wp
    refine D 1 Z (Eg Z (Cz [0] d (k_bn _ _ _) Z λY T d=>Go 3 Z (Bd d λO e d=>?_)));refine Ct O [0] [0,1,5,6,7] Ze Ze Zf ?_ (λenv H Q=>?_)
    .refine G0 0 Z (Cn Z e (λ_ e=>?_) (λ_ e=>?_))
     .refine Gc 1 Z ?_;cases e
     exact YC 1 Z e [0]
    exact Gx 2 Z (Qf Q (Gc 5 Z (Qj d (Lr [0]))))
   refine Gc 1 Z ?_;cases a
  exact Gc 8 Z (Qj a (Lr [0]))
 exact QI 7 Z h 4 [0]
def F_cb(n:Nat)(d:List Ue):Option (List Ue):=(F_gq n d).bind λe=>(QbT (λx y=>F_aw n x y) e).bind λa=>(F_cv n a).bind λf=>some a
theorem k_cb(n:Nat)(d:List Ue):Ks (F_cb n d) 174 [.rsl 1 (map Ue.ptr d),.fn (.func 175) [] []] [] (λr=>.rsl 1 (map Ue.ptr r)):=by
 refine Kg 9 func174 Z Z Z Z λr h=>Cd [] h (k_gq _ _) Z λg e h=>Fg 7 Z Z (Bd h λi a h=>(QD [1] (OpC.fn call220 Z Z Z) (Qp9 Qgz a (λx y c h=>k_aw n x y c h) isAgg222 Gw call175 Z) ?_));rintro _ _ ⟨rfl,rfl⟩;refine QG (QU (s:=0) Z (congrArg (λn=>A.osl 1 0 n 1) (Qcf a))) (QG (QU (s:=6) Z (congrArg (λn=>A.osl 1 0 n 1) (Qcf a))) ?_);refine QG (QU (s:=7) Z (congrArg (λn=>A.osl 1 0 n 1) (Qcf a))) (Go 6 Z ?_);exact QG (Jm [(0,_),(6,_),(7,_),(10,_)] Z Z (Qpf.cons Z Eo (Qpf.cons Z Eo (Qpf.cons Z Eo (Qpf.cons Z Eo Qpf.nil)))) (Ec (Ec (YD _)))) (Cd [0] h (k_cv _ _) Z λj f h=>FE Z (Gt 4 Z h 4 []))
def ToldE(env:Env):Env->Prop
  |[]=>True
  |p::r=>lk env p.1=p.2/\ToldE env r
theorem Qp4{h0:Nat}{env env':Env}{H:Qc}(h:ToldE env env'):Le h0 env H env' H:=by
  refine Le.env λs=>?_
  induction env' with
  |nil=>exact .inl Z
  |cons p r ih=>
    obtain⟨a,d⟩:=h;by_cases q:s=p.1
    · refine .inr ?_
      subst q;simp[lk,Vz];exact a.symm
    · have e:Nat.beq s p.1=false:=by
        cases z:Nat.beq s p.1 with
        |true=>exact absurd (XN z) q
        |false=>rfl
      simp[lk,e];exact ih d
section
variable {P:Program} {N m n:Nat} {bs ds ds':List Nat} {cat:Kat} {l:List Oper} {env:Env} {Hs:List Qc} {X:Qc} {K:List Oper->Env->Qc->Prop} {r:List Oper} {xs xs':List A} {x:A}
theorem DK.ad(h:QcY xs x=.mk xs')(k:DK P N m bs cat l ds env n K Hs X r xs'):DK P N m bs cat l ds env n K Hs X r (xs++[x]):=by
  rw[Jp]at h;cases h;exact k
theorem Qpo(h:ds=ds')(k:DK P N m bs cat l ds' env n K Hs X r xs):DK P N m bs cat l ds env n K Hs X r xs:=h▸k
end
abbrev ekI:Int->A:=λn=>I n
def preF(bk:QaX Fact Report):Qc:=[.cells 268 [.map 1],.mapP (Qo ekI QeJ (Ja bk))]
abbrev nC(k:Int):Blk:=.cells 225 [I k,.nils,.nils,.nils,.nils,.bool false]
theorem fx_2:QL prog 225 2 4 1:=FA EY rfl sizeOf85
theorem fx_3:QL prog 225 3 5 1:=FA EY rfl Gb
theorem Qqf:Q0 prog 85 62 4:=⟨EQ,E3,⟨_,GF,rfl⟩,⟨_,typeInfo62,by decide⟩⟩
theorem QkD(k:Int)(bk:QaX Fact Report)(G:Qc)(hB:YF Ue.K 2 (preF bk++G) bk):C prog 172 [I k,.ptr 0 0] (preF bk++G) (λa H'=>∃l e r G',a=.ptr e.2.b 0/\H'=preF (l++e::r)++G'/\YF Ue.K 2 H' (l++e::r)/\e.1.number=k/\(l++e::r).map (·.1)=Qae (bk.map (·.1)) k):=by
  refine QE func172 Z Z Z ?_;refine TC.seq (TC.region (vV (OpV.assign Z Z) (WO.nil ?_)));refine TC.seq (TC.seq (TC.region ?_));refine vV (x:=.map 1) (Ey Z isAgg268 Z (Pts.cells Z Z)) ?_;refine vV (x:=I k) (OpV.move Z Z) ?_;rcases Qd0 bk k with⟨f,d⟩|⟨l,e,r,rfl,d,p,g⟩
  · refine vV (x:=.nilp) (Qlc (ek:=ekI) (ev:=QeJ) (k:=k) (l:=Ja bk) Y2 f Gh zeroValue222) ?_
    refine vV (x:=.bool true) (Qj3 runUnderlying222 Z) (WO.nil ?_);refine Qj0 Z Z (TC.region ?_);refine vV (x:=.map 1) (Ey Z isAgg268 Z (Pts.cells Z Z)) ?_;refine vV (x:=I k) (OpV.move Z Z) ?_;refine vV (x:=I k) (OpV.move Z Z) ?_;refine vV (OpV.build (zs:=[I 0,.nils,.nils,.nils,.nils,.bool false]) zeroValue225 (zrC Z) QqD) ?_;refine Jj (x:=.ptr (preF bk++G).length 0) (H':=(preF bk++G)++[nC k]) (XQ _) Z Z Z (OpH.box Z Z Z Z Z) ?_;have n:preF (bk++[(QbO k,Qcw (preF bk++G).length)])++(G++[nC k])=List.set (preF bk++G++[nC k]) 1 (.mapP (Qo ekI QeJ (Ja bk++[(k,(preF bk++G).length)]))):=by
      unfold preF;rw[Qnd];simp[Ja,QbO,Qcw]
    refine Qbz (H':=preF (bk++[(QbO k,Qcw (preF bk++G).length)])++(G++[nC k])) (by simp) Z Z ?_ ?_
    · rw[n]
      refine Qns (ek:=ekI) (ev:=QeJ) (k:=k) (l:=Ja bk) (v:=(preF bk++G).length) (i:=1) (x:=.tmp 8) (y:=.tmp 9) (zz:=.tmp 12) (T:=268) Y2 f Gh ?_ ?_ ?_ ?_ ?_<;>rfl
    refine WO.nil ?_;have h:=λenv=>by
      have:=Qll Ue.K (h0:=(preF bk++G).length) (env:=env) (H:=preF (bk++[(QbO k,Qcw (preF bk++G).length)])++G) (k:=k) (by simp[preF]);exact this
    refine Qf (h _) ?_;have hB1:YF Ue.K 2 (preF (bk++[(QbO k,Qcw (preF bk++G).length)])++G) bk:=hB.keep λj m s=>by
      rw[XK (by simpa[preF]using m),XK (by simpa[preF]using m)];rfl
    have hB2:=hB1.new (k:=k) d (by simp[preF]);have hg:YQ (Ja (bk++[(QbO k,Qcw (preF bk++G).length)])) k=some (preF bk++G).length:=by
      rcases Qd0 (bk++[(QbO k,Qcw (preF bk++G).length)]) k with⟨g1,g2⟩|⟨l,e,r,g1,g2,g3,g4⟩
      · exact absurd Z (g2 (QbO k,Qcw (preF bk++G).length) (by simp))
      · rw[g4]
        have hm:e∈bk++[(QbO k,Qcw (preF bk++G).length)]:=by rw[g1];simp
        rcases Vx.1 hm with q|q
        · exact absurd g2 (d e q)
        · rw[Vv.1 q];rfl
    refine TC.seq (TC.region ?_);refine vV (x:=.map 1) (Ey Z isAgg268 Z (Pts.cells Z Z)) ?_;refine vV (x:=I k) (OpV.move Z Z) ?_;refine vV (x:=.ptr (preF bk++G).length 0) (Qc0 (ek:=ekI) (ev:=QeJ) (k:=k) Y2 hg Gh) ?_;refine vV (OpV.assign Z Z) (WO.nil ?_);refine TC.ret ⟨_,_,.ptr (preF bk++G).length 0,Le.refl _ _ _,QcH.one Z Z,?_⟩;refine⟨bk,(QbO k,Qcw (preF bk++G).length),[],_,Z,Z,hB2,Z,?_⟩;rw[Qb3 (λx hx q=>by obtain⟨e,he,rfl⟩:=Xf.1 hx;exact d e he q)];simp
  · refine vV (x:=.ptr e.2.b 0) (Qc0 (ek:=ekI) (ev:=QeJ) (k:=k) (l:=Ja (l++e::r)) Y2 g Gh) ?_
    refine vV (x:=.bool false) (Qj2 runUnderlying222 Z) (WO.nil ?_);refine Qgj Z Z (TC.skip ?_);refine TC.seq (TC.region ?_);refine vV (x:=.map 1) (Ey Z isAgg268 Z (Pts.cells Z Z)) ?_;refine vV (x:=I k) (OpV.move Z Z) ?_;refine vV (x:=.ptr e.2.b 0) (Qc0 (ek:=ekI) (ev:=QeJ) (k:=k) (l:=Ja (l++e::r)) Y2 g Gh) ?_;refine vV (OpV.assign Z Z) (WO.nil ?_);refine TC.ret ⟨_,_,.ptr e.2.b 0,Le.refl _ _ _,QcH.one Z Z,?_⟩;refine⟨l,e,r,G,Z,Z,hB,d,?_⟩;rw[Qdl ⟨e.1,by simp,d⟩]
def filesAdd(fs:List Ue)(k inst:Int)(f:Fact):Option (List Ue):=bif inst==0 then some (QbQ fs k λx=>{x with r0:=x.r0++[f]})else bif inst==1 then some (QbQ fs k λx=>{x with r1:=x.r1++[f]})else bif inst==2 then some (QbQ fs k λx=>{x with r2:=x.r2++[f]})else none
def filesStep(fs:List Ue)(f:Fact):Option (List Ue):=bif f.Kind==10 then(bif Qfo (Qae fs f.Ruling.Case)then filesAdd (Qae fs f.Ruling.Case) f.Ruling.Case f.Ruling.Instance f else none)
  else bif f.Kind==8 then(bif Qfo (Qae fs f.Report.Case)then some (QbQ (Qae fs f.Report.Case) f.Report.Case λx=>{x with reports:=x.reports++[f.Report]})else none)
  else bif f.Kind==11 then(bif f.Appeal.Suspends then some (QbQ (Qae fs f.Appeal.Case) f.Appeal.Case λx=>{x with appeal:=true})else some fs)else some fs
def filesL(n:Nat)(l:List Fact)(s:List Ue×Int):Option (Ctl (List Ue×Int) (List Ue)):=bif decide (s.2<(l.length:Int))then(idx l s.2).bind λf=>(filesStep s.1 f).bind λfs=>some (.cont (fs,i64.wrap (s.2+1)))else some (.done s.1)
def filesE(l:List Fact)(i:Int):Env:=[(6,.ptr 0 0),(7,.fn (.func 172) [] [.ptr 0 0]),(32,.rsl 57 (map Fact.c l)),(33,I l.length),(34,I i)]
def filesI(l:List Fact)(s:List Ue×Int)(env:Env)(H:Qc):Prop:=(lk env 6=.ptr 0 0/\lk env 7=.fn (.func 172) [] [.ptr 0 0]/\lk env 32=.rsl 57 (map Fact.c l)/\lk env 33=I l.length/\lk env 34=I s.2)/\ ∃bk G,H=preF bk++G/\YF Ue.K 2 H bk/\bk.map (·.1)=s.1
def filesJ(l:List Fact)(fs:List Ue)(i:Int):QR:=λx env H=>x=.normal/\(lk env 6=.ptr 0 0/\lk env 7=.fn (.func 172) [] [.ptr 0 0]/\lk env 32=.rsl 57 (map Fact.c l)/\lk env 33=I l.length/\lk env 34=I i)/\ ∃bk G,H=preF bk++G/\YF Ue.K 2 H bk/\bk.map (·.1)=fs
theorem Qha{l:List Fact}{i:Int}{env:Env}{H:Qc}{h0:Nat}(h:lk env 6=.ptr 0 0/\lk env 7=.fn (.func 172) [] [.ptr 0 0]/\lk env 32=.rsl 57 (map Fact.c l)/\lk env 33=I l.length/\lk env 34=I i):Le h0 env H (filesE l i) H:=by
  obtain⟨n,p,q,r,s⟩:=h;refine Le.env λk=>?_;by_cases a:k=6
  · subst a;exact .inr n.symm
  by_cases d:k=7
  · subst d;exact .inr p.symm
  by_cases f:k=32
  · subst f;exact .inr q.symm
  by_cases g:k=33
  · subst g;exact .inr r.symm
  by_cases m:k=34
  · subst m;exact .inr s.symm
  have e:∀j,k≠j->Nat.beq k j=false:=λj hj=>by
    cases z:Nat.beq k j with
    |true=>exact absurd (XN z) hj
    |false=>rfl
  left;unfold filesE;simp only[lk,e _ a,e _ d,e _ f,e _ g,e _ m];rfl
theorem Qg0:∀(l:List Nat) (H:Qc),(Qb1 H l).length=H.length
  |[],H=>rfl
  |i::l,H=>by unfold Qb1;rw[Qg0 l,XZ]
theorem QqR{bk:QaX Fact Report}{G:Qc}{env:Env}(hB:YF Ue.K 2 (preF bk++G) bk)(he:lk env 6=.ptr 0 0):Le 0 env (preF bk++G) [(6,.ptr 0 0)] [.cells 268 [.map 1],.fmap (Qo ekI (rpE Ue.K) (QeN (bk.map (·.1))))]:=by
  refine En (Qpc Ue.K (m:=1) hB Z Z) ?_;have hl:(Qb1 (preF bk++G) (Qdx bk)).length=G.length+2:=by rw[Qg0];simp[preF]
  have hn:∀i,i<2->i∉Qdx bk:=λi hi q=>by have:=(hB.all.2 i q).1;omega
  have d:((Qb1 (preF bk++G) (Qdx bk)).set 1 (.fmap (Qo ekI (rpE Ue.K) (QeN (bk.map (·.1))))))[0]?=some (.cells 268 [.map 1]):=by
    rw[XM (by omega),Qg1 (hn 0 (by omega))];rfl
  have e:((Qb1 (preF bk++G) (Qdx bk)).set 1 (.fmap (Qo ekI (rpE Ue.K) (QeN (bk.map (·.1))))))[1]?=some (.fmap (Qo ekI (rpE Ue.K) (QeN (bk.map (·.1))))):=by
    rw[Xa (by omega)]
  exact Qpe 2 (XR _) (by rw[XZ,hl];omega) (congr (congrArg (λa b=>[a,b]) d.symm) e.symm) ⟨he,trivial⟩
theorem Qoo{H:Qc}{bk:QaX Fact Report}(h0:H[0]?=some (.cells 268 [.map 1]))(d:H[1]?=some (.mapP (Qo ekI QeJ (Ja bk)))):H=preF bk++H.drop 2:=by
  match H,h0,d with
  |a::b::G,h0,d=>
    simp at h0 d;subst h0 d;rfl
theorem QfT{l r:QaX Fact Report}{e:Fil Fact Report×Pl}{x':Fil Fact Report}{p':Pl}{H:Qc}{fs:List Ue}{k:Int}{g:Fil Fact Report->Fil Fact Report}(hB:YF Ue.K 2 H (l++e::r))(hek:e.1.number=k)(hbk:(l++e::r).map (·.1)=Qae fs k)(hx:g e.1=x'):(l++(x',p')::r).map (·.1)=QbQ (Qae fs k) k g:=by
  rw[<- hbk,Xg,Xg,Vd,Vd,Qps (by have:=hB.num;simpa[Function.comp_def]using this) hek,hx]
theorem QqS{l r:QaX Fact Report}{e:Fil Fact Report×Pl}{G:Qc}(hB:YF Ue.K 2 (preF (l++e::r)++G) (l++e::r)):∃G',(preF (l++e::r)++G).set e.2.b (.cells 225 (Ya Ue.K e.2 {e.1 with appeal:=true}))=preF (l++({e.1 with appeal:=true},e.2)::r)++G'/\YF Ue.K 2 ((preF (l++e::r)++G).set e.2.b (.cells 225 (Ya Ue.K e.2 {e.1 with appeal:=true}))) (l++({e.1 with appeal:=true},e.2)::r):=by
  have hb:2<=e.2.b:=hB.lo e (by simp) _ (by simp[Pl.ix]);have hl:=hB.laid e (by simp);have hlt:=hl.lt e.2.b (by simp[Pl.ix]);have ho:=hB.own e (by simp);simp[Pl.ix,List.nodup_cons,X0,List.not_mem_nil,or_false,not_or]at ho;obtain⟨⟨n0,n1,n2,n3⟩,_⟩:=ho;refine⟨_,Qoo ?_ ?_,hB.upd ⟨?_,?_,?_,?_,?_⟩ Z ?_ (λi hi=>.inl hi) (hB.own e (by simp)) (by simp[preF])⟩
  · rw[XM (by omega)];rfl
  · rw[XM (by omega)];simp[preF,Ja]
  · rw[Xa hlt]
  · rw[XM n0];exact hl.r0
  · rw[XM n1];exact hl.r1
  · rw[XM n2];exact hl.r2
  · rw[XM n3];exact hl.r3
  · intro j _ _ q
    rw[XM (λz=>q (by rw[<- z];simp[Pl.ix]))]
theorem Qop{β:Type}{c:Bool}{x:Option β}{y:β}(h:(bif c then x else none)=some y):c=true/\x=some y:=by
  cases c with
  |true=>exact⟨Z,h⟩
  |false=>cases h
theorem Qh5{β:Type}{l:List β}{x:β}(h:l.length+1<=QB):app l [x]=some (l++[x]):=by
  unfold app;simp[XP h]
theorem Qh4{l r:QaX Fact Report}{e:Fil Fact Report×Pl}{G:Qc}{x':Fil Fact Report}{p':Pl}{i:Nat}{y:Blk}(hB:YF Ue.K 2 (preF (l++e::r)++G) (l++e::r))(hi:i∈e.2.ix)(hib:i≠e.2.b)(hn:x'.number=e.1.number)(hb:p'.b=e.2.b)
    (hp:p'.ix=e.2.ix.map λj=>bif Nat.beq j i then(preF (l++e::r)++G).length else j)
    (hrows:∀H':Qc,(∀j,j∈e.2.ix->j≠i->j≠e.2.b->H'[j]?=(preF (l++e::r)++G)[j]?)->H'[(preF (l++e::r)++G).length]?=some y->
      H'[p'.i0]?=some (.row Ue.K.tF Ue.K.kF (x'.r0.map Ue.K.eF))/\H'[p'.i1]?=some (.row Ue.K.tF Ue.K.kF (x'.r1.map Ue.K.eF))/\H'[p'.i2]?=some (.row Ue.K.tF Ue.K.kF (x'.r2.map Ue.K.eF))/\H'[p'.i3]?=some (.row Ue.K.tR Ue.K.kR (x'.reports.map Ue.K.eR))):
    ((preF (l++e::r)++G).set i .dead++[y])[e.2.b]?=some (.cells 225 (Ya Ue.K e.2 e.1))/\ ∃G2,((preF (l++e::r)++G).set i .dead++[y]).set e.2.b (.cells 225 (Ya Ue.K p' x'))=preF (l++(x',p')::r)++G2/\
      YF Ue.K 2 (((preF (l++e::r)++G).set i .dead++[y]).set e.2.b (.cells 225 (Ya Ue.K p' x'))) (l++(x',p')::r):=by
  have hl:=hB.laid e (by simp);have hlt:=hl.lt;have hbl:=hlt e.2.b (by simp[Pl.ix]);have g:2<=e.2.b:=hB.lo e (by simp) _ (by simp[Pl.ix]);have hi2:=hB.lo e (by simp) _ hi;have hlow:∀j,j<2->(((preF (l++e::r)++G).set i .dead++[y]).set e.2.b (.cells 225 (Ya Ue.K p' x')))[j]?=(preF (l++e::r)++G)[j]? :=λj hj=>by
    rw[XM (by omega),XJ (by simp[preF];omega),XM (by omega)]
  have hr:=hrows (((preF (l++e::r)++G).set i .dead++[y]).set e.2.b (.cells 225 (Ya Ue.K p' x'))) (λj a d f=>by
    rw[XM (λq=>f q.symm),XJ (by rw[XZ];exact hlt j a),XM (λq=>d q.symm)]) (by
    rw[XM (by omega),XK (by rw[XZ];exact XQ _),XZ,Nat.sub_self];rfl)
  obtain⟨h0,a,d,f⟩:=hr;refine⟨?_,_,Qoo ?_ ?_,hB.row (by simp[preF]) hn hi hib hb Z hp h0 a d f⟩
  · rw[XJ (by rw[XZ];exact hbl),XM hib];exact hl.c
  · rw[hlow 0 (by omega)];rfl
  · rw[hlow 1 (by omega),Qnc hn hb];rfl
theorem nbF{a b:Nat}(h:a≠b):Nat.beq a b=false:=by
  cases z:Nat.beq a b with
  |true=>exact absurd (XN z) h
  |false=>rfl
theorem QpG{l r:QaX Fact Report}{e:Fil Fact Report×Pl}{G:Qc}(rs:List Report)(hB:YF Ue.K 2 (preF (l++e::r)++G) (l++e::r)):((preF (l++e::r)++G).set e.2.i3 .dead++[Blk.row 62 4 (map Report.c rs)])[e.2.b]?=some (.cells 225 (Ya Ue.K e.2 e.1))/\ ∃G2,((preF (l++e::r)++G).set e.2.i3 .dead++[Blk.row 62 4 (map Report.c rs)]).set e.2.b (.cells 225 (Ya Ue.K {e.2 with i3:=(preF (l++e::r)++G).length} {e.1 with reports:=rs}))=preF (l++({e.1 with reports:=rs},{e.2 with i3:=(preF (l++e::r)++G).length})::r)++G2/\
      YF Ue.K 2 (((preF (l++e::r)++G).set e.2.i3 .dead++[Blk.row 62 4 (map Report.c rs)]).set e.2.b (.cells 225 (Ya Ue.K {e.2 with i3:=(preF (l++e::r)++G).length} {e.1 with reports:=rs}))) (l++({e.1 with reports:=rs},{e.2 with i3:=(preF (l++e::r)++G).length})::r):=by
  have hl:=hB.laid e (by simp);have ho:=hB.own e (by simp);simp only[Pl.ix,List.nodup_cons,X0,List.not_mem_nil,or_false,not_or]at ho;obtain⟨⟨f,b1,b2,a⟩,⟨n1,n2,n3⟩,⟨m2,d⟩,k3,_⟩:=ho;refine Qh4 hB (by simp[Pl.ix]) (λq=>a q.symm) Z Z ?_ (λH' hk hn=>⟨?_,?_,?_,hn⟩)
  · simp[Pl.ix,Vd,Ve,nbF a,nbF n3,nbF d,nbF k3,Vz,Vi,Vj]
  · exact(hk e.2.i0 (by simp[Pl.ix]) n3 (λq=>f q.symm)).trans hl.r0
  · exact(hk e.2.i1 (by simp[Pl.ix]) d (λq=>b1 q.symm)).trans hl.r1
  · exact(hk e.2.i2 (by simp[Pl.ix]) k3 (λq=>b2 q.symm)).trans hl.r2
theorem QpJ{l r:QaX Fact Report}{e:Fil Fact Report×Pl}{G:Qc}(rs:List Fact)(hB:YF Ue.K 2 (preF (l++e::r)++G) (l++e::r)):((preF (l++e::r)++G).set e.2.i0 .dead++[Blk.row 72 57 (map Fact.c rs)])[e.2.b]?=some (.cells 225 (Ya Ue.K e.2 e.1))/\ ∃G2,((preF (l++e::r)++G).set e.2.i0 .dead++[Blk.row 72 57 (map Fact.c rs)]).set e.2.b (.cells 225 (Ya Ue.K {e.2 with i0:=(preF (l++e::r)++G).length} {e.1 with r0:=rs}))=preF (l++({e.1 with r0:=rs},{e.2 with i0:=(preF (l++e::r)++G).length})::r)++G2/\
      YF Ue.K 2 (((preF (l++e::r)++G).set e.2.i0 .dead++[Blk.row 72 57 (map Fact.c rs)]).set e.2.b (.cells 225 (Ya Ue.K {e.2 with i0:=(preF (l++e::r)++G).length} {e.1 with r0:=rs}))) (l++({e.1 with r0:=rs},{e.2 with i0:=(preF (l++e::r)++G).length})::r):=by
  have hl:=hB.laid e (by simp);have ho:=hB.own e (by simp);simp only[Pl.ix,List.nodup_cons,X0,List.not_mem_nil,or_false,not_or]at ho;obtain⟨⟨a,b1,b2,d⟩,⟨n1,n2,n3⟩,⟨m2,f⟩,k3,_⟩:=ho;refine Qh4 hB (by simp[Pl.ix]) (λq=>a q.symm) Z Z ?_ (λH' hk hn=>⟨hn,?_,?_,?_⟩)
  · simp[Pl.ix,Vd,Ve,nbF a,nbF (show e.2.i1≠e.2.i0 from λq=>n1 q.symm),nbF (show e.2.i2≠e.2.i0 from λq=>n2 q.symm),nbF (show e.2.i3≠e.2.i0 from λq=>n3 q.symm),Vz,Vi,Vj]
  · exact(hk e.2.i1 (by simp[Pl.ix]) (λq=>n1 q.symm) (λq=>b1 q.symm)).trans hl.r1
  · exact(hk e.2.i2 (by simp[Pl.ix]) (λq=>n2 q.symm) (λq=>b2 q.symm)).trans hl.r2
  · exact(hk e.2.i3 (by simp[Pl.ix]) (λq=>n3 q.symm) (λq=>d q.symm)).trans hl.r3
theorem QpI{l r:QaX Fact Report}{e:Fil Fact Report×Pl}{G:Qc}(rs:List Fact)(hB:YF Ue.K 2 (preF (l++e::r)++G) (l++e::r)):((preF (l++e::r)++G).set e.2.i1 .dead++[Blk.row 72 57 (map Fact.c rs)])[e.2.b]?=some (.cells 225 (Ya Ue.K e.2 e.1))/\ ∃G2,((preF (l++e::r)++G).set e.2.i1 .dead++[Blk.row 72 57 (map Fact.c rs)]).set e.2.b (.cells 225 (Ya Ue.K {e.2 with i1:=(preF (l++e::r)++G).length} {e.1 with r1:=rs}))=preF (l++({e.1 with r1:=rs},{e.2 with i1:=(preF (l++e::r)++G).length})::r)++G2/\
      YF Ue.K 2 (((preF (l++e::r)++G).set e.2.i1 .dead++[Blk.row 72 57 (map Fact.c rs)]).set e.2.b (.cells 225 (Ya Ue.K {e.2 with i1:=(preF (l++e::r)++G).length} {e.1 with r1:=rs}))) (l++({e.1 with r1:=rs},{e.2 with i1:=(preF (l++e::r)++G).length})::r):=by
  have hl:=hB.laid e (by simp);have ho:=hB.own e (by simp);simp only[Pl.ix,List.nodup_cons,X0,List.not_mem_nil,or_false,not_or]at ho;obtain⟨⟨d,b1,b2,f⟩,⟨n1,n2,n3⟩,⟨m2,a⟩,k3,_⟩:=ho;refine Qh4 hB (by simp[Pl.ix]) (λq=>b1 q.symm) Z Z ?_ (λH' hk hn=>⟨?_,hn,?_,?_⟩)
  · simp[Pl.ix,Vd,Ve,nbF b1,nbF n1,nbF (show e.2.i2≠e.2.i1 from λq=>m2 q.symm),nbF (show e.2.i3≠e.2.i1 from λq=>a q.symm),Vz,Vi,Vj]
  · exact(hk e.2.i0 (by simp[Pl.ix]) n1 (λq=>d q.symm)).trans hl.r0
  · exact(hk e.2.i2 (by simp[Pl.ix]) (λq=>m2 q.symm) (λq=>b2 q.symm)).trans hl.r2
  · exact(hk e.2.i3 (by simp[Pl.ix]) (λq=>a q.symm) (λq=>f q.symm)).trans hl.r3
theorem QpH{l r:QaX Fact Report}{e:Fil Fact Report×Pl}{G:Qc}(rs:List Fact)(hB:YF Ue.K 2 (preF (l++e::r)++G) (l++e::r)):((preF (l++e::r)++G).set e.2.i2 .dead++[Blk.row 72 57 (map Fact.c rs)])[e.2.b]?=some (.cells 225 (Ya Ue.K e.2 e.1))/\ ∃G2,((preF (l++e::r)++G).set e.2.i2 .dead++[Blk.row 72 57 (map Fact.c rs)]).set e.2.b (.cells 225 (Ya Ue.K {e.2 with i2:=(preF (l++e::r)++G).length} {e.1 with r2:=rs}))=preF (l++({e.1 with r2:=rs},{e.2 with i2:=(preF (l++e::r)++G).length})::r)++G2/\
      YF Ue.K 2 (((preF (l++e::r)++G).set e.2.i2 .dead++[Blk.row 72 57 (map Fact.c rs)]).set e.2.b (.cells 225 (Ya Ue.K {e.2 with i2:=(preF (l++e::r)++G).length} {e.1 with r2:=rs}))) (l++({e.1 with r2:=rs},{e.2 with i2:=(preF (l++e::r)++G).length})::r):=by
  have hl:=hB.laid e (by simp);have ho:=hB.own e (by simp);simp only[Pl.ix,List.nodup_cons,X0,List.not_mem_nil,or_false,not_or]at ho;obtain⟨⟨a,b1,b2,d⟩,⟨n1,n2,n3⟩,⟨m2,f⟩,k3,_⟩:=ho;refine Qh4 hB (by simp[Pl.ix]) (λq=>b2 q.symm) Z Z ?_ (λH' hk hn=>⟨?_,?_,hn,?_⟩)
  · simp[Pl.ix,Vd,Ve,nbF b2,nbF n2,nbF m2,nbF (show e.2.i3≠e.2.i2 from λq=>k3 q.symm),Vz,Vi,Vj]
  · exact(hk e.2.i0 (by simp[Pl.ix]) n2 (λq=>a q.symm)).trans hl.r0
  · exact(hk e.2.i1 (by simp[Pl.ix]) m2 (λq=>b1 q.symm)).trans hl.r1
  · exact(hk e.2.i3 (by simp[Pl.ix]) (λq=>k3 q.symm) (λq=>d q.symm)).trans hl.r3
def F_ky(n:Nat)(e:List Fact)(a:(List Fact)×Int):Option (Ctl ((List Fact)×Int) (List Fact)):=(bif decide (a.2<(e.length:Int))then(idx e a.2).bind λd=>(F_bq n d).bind λf=>((bif (f==0)then(app a.1 [d]).bind λg=>some g else some a.1):Option (List Fact)).bind λh=>some (.cont (h,i64.wrap (a.2+1)))else some (.done a.1))
def F_iz(n:Nat)(a:List Ue)(d:Int×Ue):Option (Ctl (List Ue) (List Ue)):=(app a [d.2]).bind λe=>some (.cont e)
def F_km(n:Nat)(a:List Ue):Option (List Ue):=some a
def F_ax(n:Nat)(h:List Fact):Option (List Ue):=(iter (F_ky n h) n ([],0):Option (List Fact)).bind λa=>(F_ct n a).bind λd=>(iter (filesL n d) n (([]:List Ue),0):Option (List Ue)).bind λe=>anyP (λp77=>(Qfj (F_iz n) (F_km n) [] p77).bind λf=>(F_cb n f).bind λg=>some g) (QeN e)
theorem k_ax(n:Nat)(a1:List Fact):Ks (F_ax n a1) 113 [.rsl 57 (map Fact.c a1)] [] (λr=>.rsl 1 (map Ue.ptr r)):=by
 refine Kg 14 func113 Z Z Z Z λr h=>Lg 3 Z Z (Bd h λz ae h=>Ct z [0] [] (λz=>[(3,.osl 0 0 z.length 57)]) (λz=>[(0,.row 72 57 (map Fact.c z))]) Zf ?_ (λenv H q=>?_))
 .refine G0 1 Z (Lp [0] [15,16] (λB=>[(3,.osl 0 0 B.1.length 57),(17,I B.2)]) (λB=>[(0,.row 72 57 (map Fact.c B.1))]) ae Zf ?_ ?_)
  .refine En (Ep (s:=3) (k:=57) (t:=72) (XO Z) Z) ?_;exact Lr [0]
  intro B au a V;refine G0 6 Z (Q8 Z a (λ_ a=>?_) (λ_ a=>?_))
  .exact Gc 2 Z (Ql a (Gx 1 Z (cQo V a (Lr [0]))))
  refine Gc 6 Z (Bd a λaf Y a=>Iz Y Z (Go 8 Z (Cz [] a (k_bq _ _) Z λav ao a=>Go 3 Z (Bd a λE u a=>Ct E [0] [15,16,17] (λE=>[(3,.osl 0 0 E.length 57)]) (λE=>[(0,.row 72 57 (map Fact.c E))]) Zf ?_ (λenv H q=>?_)))))
  .refine G0 0 Z (Cn Z u (λ_ u=>?_) (λ_ u=>?_))
   .refine Gc 3 Z (vH (Ek (xs:=[.tmp 25]) (es:=map Fact.c [af]) Y9 Z Z Z Z Z ⟨Z,trivial⟩ Z Z) ?_);refine FE Z (Bd u λaw ab u=>vH (Qk (e:=Fact.c) ab Y9 EB (QH (i:=2))) ?_);exact FE Z (Gl 2 Z u [3])
   exact YC 1 Z u [0]
  exact Gx 2 Z (Qf q (Gc 4 Z (Qj a (Lr [0]))))
 refine Gx 1 Z (Qf q (Gc 2 Z (vH Qlg ?_)));refine Fg 14 Z Z ?_;refine QG (Jm [(3,_),(31,_)] Z Z (Qpf.cons Z Eo (Qpf.cons Z Eo Qpf.nil)) (Ec (YD _))) ?_;refine Cd [] h (k_ct _ _) Z λw aq h=>Fg 4 Z Z ?_;refine Qf (Jm [(32,_)] Z Z (Qpf.cons Z Eo Qpf.nil) (Ec (Ec (Ec (Ec (YD _)))))) (Bd h λag ah h=>TC.cut [(6,.ptr 0 0)] [.cells 268 [.map 1],.fmap (Qo (λx=>A.int .i64 x) (rpE Ue.K) (QeN ag))] ?_ (λenv H q=>?_))
 .refine TC.block (Qf (env':=filesE w 0) (H':=preF []) (Lr [2,1]) ?_);refine QjZ (I:=filesI w) ?_ ah ⟨⟨Z,Z,Z,Z,Z⟩,[],[],Z,YF.nil,Z⟩;rintro s d env H ⟨he,bk,G,rfl,hB,hfs⟩ hs hd;refine Qf (Qha he) ?_;refine TC.seq (TC.region (vV (x:=.bool (decide (s.2<(w.length:Int)))) (OpV.lss Z Z Z) (WO.nil ?_)));refine TC.seq ?_;unfold filesL at hs;refine TC.cond (x:=.tmp 35) (t:=decide (s.2<(w.length:Int))) Z (λht=>TC.skip ?_) (λht=>TC.exit ?_)
  · rw[ht,Vi]at hs
    obtain⟨f,hf,hs⟩:=YM hs;obtain⟨fs,hst,hs⟩:=YM hs;cases hs;refine TC.seq (TC.mono (Q:=filesJ w fs s.2) (TC.block (TC.seq (TC.region ?_))) ?_)
    rotate_left
    · rintro x env H ⟨rfl,he,bk',G',rfl,hB',hfs'⟩
      refine Qf (Qha he) (TC.region ?_);refine vV (x:=I (i64.wrap (s.2+1))) (OpV.add Z Z Z) ?_;refine vV (x:=I (i64.wrap (s.2+1))) (OpV.move Z Z) (WO.nil ?_);exact⟨_,Z,⟨Z,Z,Z,Z,Z⟩,bk',G',Z,hB',hfs'⟩
    refine vV (x:=.rp (Fact.c f)) (Qcs (e:=Fact.c) hf EB EC) ?_;refine vV (x:=.agg (Fact.c f)) (Qs Z EP EC Z Pts.rp Z Z) ?_;refine Qne (v:=.agg (Fact.c Up)) (cs:=Fact.c f) GA (zrC Z) EC (WO.nil ?_);refine TC.seq (TC.region ?_);refine vV (QA QpL Z Z Z) ?_;refine vV (x:=I f.Kind) (Ey Z EF Z Pts.rp) (WO.nil ?_);refine TC.block (TC.seq (TC.region ?_));refine vV (x:=.bool (f.Kind==10)) (OpV.eql Z Z Z) ?_;refine vV (OpV.assign Z Z) (WO.nil ?_);unfold filesStep at hst;refine TC.cond (t:=f.Kind==10) Z (λL=>?_) (λL=>?_)
    · rw[L,Vi]at hst
      obtain⟨hroom,hst⟩:=Qop hst;refine TC.seq (TC.region ?_);refine vV (OpV.move Z Z) ?_;refine vV (QA Qam Z Z Z) ?_;refine vV (QA QlY Z Z Z) ?_;refine vV (x:=I f.Ruling.Case) (Ey Z EF Z Pts.rp) ?_;refine QcZ (Qa2 call172 Z Z Z Z) (QkD f.Ruling.Case bk G hB) ?_ (XR _);rintro _ _ ⟨l,e,r,G',rfl,rfl,hB',hek,hbk⟩;refine vV (OpV.assign Z Z) (WO.nil ?_);refine Qf (Qp4 (env':=[(6,.ptr 0 0),(7,.fn (.func 172) [] [.ptr 0 0]),(32,.rsl 57 (map Fact.c w)),(33,I w.length),(34,I s.2),(9,.rp (Fact.c f)),(10,.ptr e.2.b 0)]) ⟨Z,Z,Z,Z,Z,Z,Z,trivial⟩) ?_;have hl:=hB'.laid e (by simp);have hrm:=QiX (l:=l.map (·.1)) (r:=r.map (·.1)) (x:=e.1) (by rw[<- Vd, <- Xg,hbk,hfs];exact hroom);unfold filesAdd at hst;refine If hst (λhi hst=>?_) (λhi0 hst=>If hst (λhi hst=>?_) (λhi1 hst=>If hst (λhi hst=>?_) (λhi2 hst=>by cases hst)))
      ·
        cases hst;have happ:app e.1.r0 [f]=some (e.1.r0++[f]):=Qh5 hrm.1;refine DKs 18 [14] [(0,0,1),(0,0,1),(0,0,1),(0,0,1),(0,0,0),(0,0,0),(0,0,0),(0,0,0),(0,0,0),(0,0,0),(0,0,0),(0,0,0),(0,0,0),(0,0,0),(1,0,0),(0,0,1),(0,0,1),(0,0,1)] (by kernel_rfl) ?_;refine Qpo (ds':=[47,48,49,50,51,52,53,54,55,56,57,58,59,60,61,62,63,64]) Z ?_;refine DK.wa (x:=.ptr e.2.b 0) (λX=>vV (OpV.move Z Z) Wp) ?_;refine DK.ad Z ?_;refine DK.wa (x:=.rp ((Fact.c f).drop 47)) (λX=>vV (QA Qam Z Z Z) Wp) ?_;refine DK.ad Z ?_;refine DK.wa (x:=.rp ((Fact.c f).drop 48)) (λX=>vV (QA Qco Z Z Z) Wp) ?_;refine DK.ad Z ?_;refine DK.wa (x:=I f.Ruling.Instance) (λX=>vV (Ey Z EF Z Pts.rp) Wp) ?_;refine DK.ad Z ?_;refine DK.wo (x:=.ptr e.2.b 0) (vV (OpV.move Z Z) Wp) ?_;refine DK.ad Z ?_;refine DK.wo (x:=.rp ((Fact.c f).drop 47)) (vV (QA Qam Z Z Z) Wp) ?_;refine DK.ad Z ?_;refine DK.wo (x:=.rp ((Fact.c f).drop 48)) (vV (QA Qco Z Z Z) Wp) ?_;refine DK.ad Z ?_;refine DK.wo (x:=I f.Ruling.Instance) (vV (Ey Z EF Z Pts.rp) Wp) ?_;refine DK.ad Z ?_;refine DK.wo (x:=.ptr e.2.b 0) (vV (YK Z) Wp) ?_;refine DK.ad Z ?_;refine DK.wo (x:=.ptr e.2.b 1) (vV (Yz JU Z Z) Wp) ?_;refine DK.ad Z ?_;refine DK.wo (x:=.ptr e.2.b 1) (vV (Q7 (n:=3) (k:=1) (j:=0) hi Z EO E7 Z) Wp) ?_;refine DK.ad Z ?_;refine DK.wo (x:=.osl e.2.i0 0 e.1.r0.length 57) (vV (Ey Z isAgg34 Z (Pts.cells hl.c Z)) Wp) ?_;refine DK.ad Z ?_;refine DK.wo (x:=.agg (Fact.c f)) (vV (Qs Z EP EC Z Pts.rp Z Z) Wp) ?_;refine DK.ad Z ?_;refine DK.wo (x:=.rsl 57 (map Fact.c [f])) (Jj (XQ _) Z Z Z (YB (xs:=[.tmp 59]) (es:=map Fact.c [f]) Y9 Z Z Z Z Z ⟨Z,trivial⟩ Z Z) Wp) ?_;refine DK.ad Z ?_;refine DK.op (x:=.osl (preF (l++e::r)++G').length 0 (e.1.r0++[f]).length 57) (Jj (XQ _) Z Z Z (Qk (e:=Fact.c) (l:=e.1.r0) (m:=[f]) happ Y9 EB JY (hH:=hl.r0)) Wp) ?_ (hl:=by simp);refine DK.ad Z ?_;refine DK.wa (x:=.ptr e.2.b 0) (λX=>vV (YK Z) Wp) ?_;refine DK.ad Z ?_;refine DK.wa (x:=.ptr e.2.b 1) (λX=>vV (Yz JU Z Z) Wp) ?_;refine DK.ad Z ?_;refine DK.wa (x:=.ptr e.2.b 1) (λX=>vV (Q7 (n:=3) (k:=1) (j:=0) hi Z EO E7 Z) Wp) ?_;refine DK.ad Z ?_;refine DK.done Z Z ?_;obtain⟨y,G2,hG,hB2⟩:=QpJ (e.1.r0++[f]) hB';refine Qbz (XR _) Z Z (Ex (i:=e.2.b) (off:=1) (n:=1) (v:=.osl (preF (l++e::r)++G').length 0 (e.1.r0++[f]).length 57) (vs:=[.osl (preF (l++e::r)++G').length 0 (e.1.r0++[f]).length 57]) (cs:=Ya Ue.K e.2 e.1) (cs':=Ya Ue.K {e.2 with i0:=(preF (l++e::r)++G').length} {e.1 with r0:=e.1.r0++[f]}) Z Z y E7 Z Z Z Z Z Z Z) (WO.nil ?_);exact⟨Z,⟨Z,Z,Z,Z,Z⟩,l++({e.1 with r0:=e.1.r0++[f]},{e.2 with i0:=(preF (l++e::r)++G').length})::r,G2,hG,hB2,QfT hB' hek (by rw[hbk,hfs]) Z⟩
      ·
        cases hst;have happ:app e.1.r1 [f]=some (e.1.r1++[f]):=Qh5 hrm.2.1;refine DKs 18 [14] [(0,0,1),(0,0,1),(0,0,1),(0,0,1),(0,0,0),(0,0,0),(0,0,0),(0,0,0),(0,0,0),(0,0,0),(0,0,0),(0,0,0),(0,0,0),(0,0,0),(1,0,0),(0,0,1),(0,0,1),(0,0,1)] (by kernel_rfl) ?_;refine Qpo (ds':=[47,48,49,50,51,52,53,54,55,56,57,58,59,60,61,62,63,64]) Z ?_;refine DK.wa (x:=.ptr e.2.b 0) (λX=>vV (OpV.move Z Z) Wp) ?_;refine DK.ad Z ?_;refine DK.wa (x:=.rp ((Fact.c f).drop 47)) (λX=>vV (QA Qam Z Z Z) Wp) ?_;refine DK.ad Z ?_;refine DK.wa (x:=.rp ((Fact.c f).drop 48)) (λX=>vV (QA Qco Z Z Z) Wp) ?_;refine DK.ad Z ?_;refine DK.wa (x:=I f.Ruling.Instance) (λX=>vV (Ey Z EF Z Pts.rp) Wp) ?_;refine DK.ad Z ?_;refine DK.wo (x:=.ptr e.2.b 0) (vV (OpV.move Z Z) Wp) ?_;refine DK.ad Z ?_;refine DK.wo (x:=.rp ((Fact.c f).drop 47)) (vV (QA Qam Z Z Z) Wp) ?_;refine DK.ad Z ?_;refine DK.wo (x:=.rp ((Fact.c f).drop 48)) (vV (QA Qco Z Z Z) Wp) ?_;refine DK.ad Z ?_;refine DK.wo (x:=I f.Ruling.Instance) (vV (Ey Z EF Z Pts.rp) Wp) ?_;refine DK.ad Z ?_;refine DK.wo (x:=.ptr e.2.b 0) (vV (YK Z) Wp) ?_;refine DK.ad Z ?_;refine DK.wo (x:=.ptr e.2.b 1) (vV (Yz JU Z Z) Wp) ?_;refine DK.ad Z ?_;refine DK.wo (x:=.ptr e.2.b 2) (vV (Q7 (n:=3) (k:=1) (j:=1) hi Z EO E7 Z) Wp) ?_;refine DK.ad Z ?_;refine DK.wo (x:=.osl e.2.i1 0 e.1.r1.length 57) (vV (Ey Z isAgg34 Z (Pts.cells hl.c Z)) Wp) ?_;refine DK.ad Z ?_;refine DK.wo (x:=.agg (Fact.c f)) (vV (Qs Z EP EC Z Pts.rp Z Z) Wp) ?_;refine DK.ad Z ?_;refine DK.wo (x:=.rsl 57 (map Fact.c [f])) (Jj (XQ _) Z Z Z (YB (xs:=[.tmp 59]) (es:=map Fact.c [f]) Y9 Z Z Z Z Z ⟨Z,trivial⟩ Z Z) Wp) ?_;refine DK.ad Z ?_;refine DK.op (x:=.osl (preF (l++e::r)++G').length 0 (e.1.r1++[f]).length 57) (Jj (XQ _) Z Z Z (Qk (e:=Fact.c) (l:=e.1.r1) (m:=[f]) happ Y9 EB JY (hH:=hl.r1)) Wp) ?_ (hl:=by simp);refine DK.ad Z ?_;refine DK.wa (x:=.ptr e.2.b 0) (λX=>vV (YK Z) Wp) ?_;refine DK.ad Z ?_;refine DK.wa (x:=.ptr e.2.b 1) (λX=>vV (Yz JU Z Z) Wp) ?_;refine DK.ad Z ?_;refine DK.wa (x:=.ptr e.2.b 2) (λX=>vV (Q7 (n:=3) (k:=1) (j:=1) hi Z EO E7 Z) Wp) ?_;refine DK.ad Z ?_;refine DK.done Z Z ?_;obtain⟨y,G2,hG,hB2⟩:=QpI (e.1.r1++[f]) hB';refine Qbz (XR _) Z Z (Ex (i:=e.2.b) (off:=2) (n:=1) (v:=.osl (preF (l++e::r)++G').length 0 (e.1.r1++[f]).length 57) (vs:=[.osl (preF (l++e::r)++G').length 0 (e.1.r1++[f]).length 57]) (cs:=Ya Ue.K e.2 e.1) (cs':=Ya Ue.K {e.2 with i1:=(preF (l++e::r)++G').length} {e.1 with r1:=e.1.r1++[f]}) Z Z y E7 Z Z Z Z Z Z Z) (WO.nil ?_);exact⟨Z,⟨Z,Z,Z,Z,Z⟩,l++({e.1 with r1:=e.1.r1++[f]},{e.2 with i1:=(preF (l++e::r)++G').length})::r,G2,hG,hB2,QfT hB' hek (by rw[hbk,hfs]) Z⟩
      ·
        cases hst;have happ:app e.1.r2 [f]=some (e.1.r2++[f]):=Qh5 hrm.2.2.1;refine DKs 18 [14] [(0,0,1),(0,0,1),(0,0,1),(0,0,1),(0,0,0),(0,0,0),(0,0,0),(0,0,0),(0,0,0),(0,0,0),(0,0,0),(0,0,0),(0,0,0),(0,0,0),(1,0,0),(0,0,1),(0,0,1),(0,0,1)] (by kernel_rfl) ?_;refine Qpo (ds':=[47,48,49,50,51,52,53,54,55,56,57,58,59,60,61,62,63,64]) Z ?_;refine DK.wa (x:=.ptr e.2.b 0) (λX=>vV (OpV.move Z Z) Wp) ?_;refine DK.ad Z ?_;refine DK.wa (x:=.rp ((Fact.c f).drop 47)) (λX=>vV (QA Qam Z Z Z) Wp) ?_;refine DK.ad Z ?_;refine DK.wa (x:=.rp ((Fact.c f).drop 48)) (λX=>vV (QA Qco Z Z Z) Wp) ?_;refine DK.ad Z ?_;refine DK.wa (x:=I f.Ruling.Instance) (λX=>vV (Ey Z EF Z Pts.rp) Wp) ?_;refine DK.ad Z ?_;refine DK.wo (x:=.ptr e.2.b 0) (vV (OpV.move Z Z) Wp) ?_;refine DK.ad Z ?_;refine DK.wo (x:=.rp ((Fact.c f).drop 47)) (vV (QA Qam Z Z Z) Wp) ?_;refine DK.ad Z ?_;refine DK.wo (x:=.rp ((Fact.c f).drop 48)) (vV (QA Qco Z Z Z) Wp) ?_;refine DK.ad Z ?_;refine DK.wo (x:=I f.Ruling.Instance) (vV (Ey Z EF Z Pts.rp) Wp) ?_;refine DK.ad Z ?_;refine DK.wo (x:=.ptr e.2.b 0) (vV (YK Z) Wp) ?_;refine DK.ad Z ?_;refine DK.wo (x:=.ptr e.2.b 1) (vV (Yz JU Z Z) Wp) ?_;refine DK.ad Z ?_;refine DK.wo (x:=.ptr e.2.b 3) (vV (Q7 (n:=3) (k:=1) (j:=2) hi Z EO E7 Z) Wp) ?_;refine DK.ad Z ?_;refine DK.wo (x:=.osl e.2.i2 0 e.1.r2.length 57) (vV (Ey Z isAgg34 Z (Pts.cells hl.c Z)) Wp) ?_;refine DK.ad Z ?_;refine DK.wo (x:=.agg (Fact.c f)) (vV (Qs Z EP EC Z Pts.rp Z Z) Wp) ?_;refine DK.ad Z ?_;refine DK.wo (x:=.rsl 57 (map Fact.c [f])) (Jj (XQ _) Z Z Z (YB (xs:=[.tmp 59]) (es:=map Fact.c [f]) Y9 Z Z Z Z Z ⟨Z,trivial⟩ Z Z) Wp) ?_;refine DK.ad Z ?_;refine DK.op (x:=.osl (preF (l++e::r)++G').length 0 (e.1.r2++[f]).length 57) (Jj (XQ _) Z Z Z (Qk (e:=Fact.c) (l:=e.1.r2) (m:=[f]) happ Y9 EB JY (hH:=hl.r2)) Wp) ?_ (hl:=by simp);refine DK.ad Z ?_;refine DK.wa (x:=.ptr e.2.b 0) (λX=>vV (YK Z) Wp) ?_;refine DK.ad Z ?_;refine DK.wa (x:=.ptr e.2.b 1) (λX=>vV (Yz JU Z Z) Wp) ?_;refine DK.ad Z ?_;refine DK.wa (x:=.ptr e.2.b 3) (λX=>vV (Q7 (n:=3) (k:=1) (j:=2) hi Z EO E7 Z) Wp) ?_;refine DK.ad Z ?_;refine DK.done Z Z ?_;obtain⟨y,G2,hG,hB2⟩:=QpH (e.1.r2++[f]) hB';refine Qbz (XR _) Z Z (Ex (i:=e.2.b) (off:=3) (n:=1) (v:=.osl (preF (l++e::r)++G').length 0 (e.1.r2++[f]).length 57) (vs:=[.osl (preF (l++e::r)++G').length 0 (e.1.r2++[f]).length 57]) (cs:=Ya Ue.K e.2 e.1) (cs':=Ya Ue.K {e.2 with i2:=(preF (l++e::r)++G').length} {e.1 with r2:=e.1.r2++[f]}) Z Z y E7 Z Z Z Z Z Z Z) (WO.nil ?_);exact⟨Z,⟨Z,Z,Z,Z,Z⟩,l++({e.1 with r2:=e.1.r2++[f]},{e.2 with i2:=(preF (l++e::r)++G').length})::r,G2,hG,hB2,QfT hB' hek (by rw[hbk,hfs]) Z⟩
    · rw[L,Vj]at hst
      refine TC.seq (TC.region ?_);refine vV (x:=.bool (f.Kind==8)) (OpV.eql Z Z Z) ?_;refine vV (OpV.assign Z Z) (WO.nil ?_);refine TC.cond (t:=f.Kind==8) Z (λh8=>?_) (λh8=>?_)
      · rw[h8,Vi]at hst
        obtain⟨hroom,hst⟩:=Qop hst;cases hst;refine TC.seq (TC.region ?_);refine vV (OpV.move Z Z) ?_;refine vV (QA Qju Z Z Z) ?_;refine vV (QA Qh7 Z Z Z) ?_;refine vV (x:=I f.Report.Case) (Ey Z EF Z Pts.rp) ?_;refine QcZ (Qa2 call172 Z Z Z Z) (QkD f.Report.Case bk G hB) ?_ (XR _);rintro _ _ ⟨l,e,r,G',rfl,rfl,hB',hek,hbk⟩;refine vV (OpV.assign Z Z) (WO.nil ?_);have hl:=hB'.laid e (by simp);have hrm:=(QiX (l:=l.map (·.1)) (r:=r.map (·.1)) (x:=e.1) (by rw[<- Vd, <- Xg,hbk,hfs];exact hroom)).2.2.2;have happ:app e.1.reports [f.Report]=some (e.1.reports++[f.Report]):=Qh5 hrm;refine DKs 11 [8] [(0,0,1),(0,0,0),(0,0,0),(0,0,0),(0,0,0),(0,0,0),(0,0,0),(0,0,0),(1,0,0),(0,0,1),(0,0,1)] (by kernel_rfl) ?_;refine DK.wa (x:=.ptr e.2.b 0) (λX=>vV (OpV.move Z Z) Wp) ?_;refine DK.ad Z ?_;refine DK.wo (x:=.ptr e.2.b 0) (vV (OpV.move Z Z) Wp) ?_;refine DK.ad Z ?_;refine DK.wo (x:=.ptr e.2.b 0) (vV (YK Z) Wp) ?_;refine DK.ad Z ?_;refine DK.wo (x:=.ptr e.2.b 4) (vV (Yz fx_2 Z Z) Wp) ?_;refine DK.ad Z ?_;refine DK.wo (x:=.osl e.2.i3 0 e.1.reports.length 4) (vV (Ey Z isAgg85 Z (Pts.cells hl.c Z)) Wp) ?_;refine DK.ad Z ?_;refine DK.wo (x:=.rp ((Fact.c f).drop 39)) (vV (QA Qju Z Z Z) Wp) ?_;refine DK.ad Z ?_;refine DK.wo (x:=.agg (Report.c f.Report)) (vV (Qs Z GG E3 Z Pts.rp Z Z) Wp) ?_;refine DK.ad Z ?_;refine DK.wo (x:=.rsl 4 (map Report.c [f.Report])) (Jj (XQ _) Z Z Z (YB (xs:=[.tmp 78]) (es:=map Report.c [f.Report]) Qqf Z Z Z Z Z ⟨Z,trivial⟩ Z Z) Wp) ?_;refine DK.ad Z ?_;refine DK.op (x:=.osl (preF (l++e::r)++G').length 0 (e.1.reports++[f.Report]).length 4) (Jj (XQ _) Z Z Z (Qk (e:=Report.c) (l:=e.1.reports) (m:=[f.Report]) happ Qqf EQ JY (hH:=hl.r3)) Wp) ?_ (hl:=by simp);refine DK.ad Z ?_;refine DK.wa (x:=.ptr e.2.b 0) (λX=>vV (YK Z) Wp) ?_;refine DK.ad Z ?_;refine DK.wa (x:=.ptr e.2.b 4) (λX=>vV (Yz fx_2 Z Z) Wp) ?_;refine DK.ad Z ?_;refine DK.done Z Z ?_;obtain⟨y,G2,hG,hB2⟩:=QpG (e.1.reports++[f.Report]) hB';refine Qbz (XR _) Z Z (Ex (cs':=Ya Ue.K {e.2 with i3:=(preF (l++e::r)++G').length} {e.1 with reports:=e.1.reports++[f.Report]}) Z Z y sizeOf85 Z Z Z Z Z Z Z) (WO.nil ?_);exact⟨Z,⟨Z,Z,Z,Z,Z⟩,l++({e.1 with reports:=e.1.reports++[f.Report]},{e.2 with i3:=(preF (l++e::r)++G').length})::r,G2,hG,hB2,QfT hB' hek (by rw[hbk,hfs]) Z⟩
      · rw[h8,Vj]at hst
        refine TC.seq (TC.region ?_);refine vV (x:=.bool (f.Kind==11)) (OpV.eql Z Z Z) ?_;refine vV (OpV.assign Z Z) (WO.nil ?_);refine TC.cond (t:=f.Kind==11) Z (λM=>?_) (λM=>?_)
        · rw[M,Vi]at hst
          refine TC.seq (TC.region ?_);refine vV (QA Qjt Z Z Z) ?_;refine vV (QA QpM Z Z Z) ?_;refine vV (x:=.bool f.Appeal.Suspends) (Ey Z isAgg4 Z Pts.rp) (WO.nil ?_);refine TC.cond (t:=f.Appeal.Suspends) Z (λhs=>?_) (λhs=>TC.skip ?_)
          · rw[hs,Vi]at hst
            cases hst;refine TC.region ?_;refine vV (OpV.move Z Z) ?_;refine vV (QA Qjt Z Z Z) ?_;refine vV (QA QpN Z Z Z) ?_;refine vV (x:=I f.Appeal.Case) (Ey Z EF Z Pts.rp) ?_;refine QcZ (Qa2 call172 Z Z Z Z) (QkD f.Appeal.Case bk G hB) ?_ (XR _);rintro _ _ ⟨l,e,r,G',rfl,rfl,hB',hek,hbk⟩;refine vV (x:=.ptr e.2.b 0) (YK Z) ?_;refine vV (Yz fx_3 Z Z) ?_;have hl:=hB'.laid e (by simp);refine Qbz (XR _) Z Z (Ex (cs':=Ya Ue.K e.2 {e.1 with appeal:=true}) Z Z hl.c Gb Z Z Z Z Z Z Z) (WO.nil ?_);obtain⟨G2,hG,hB2⟩:=QqS hB';exact⟨Z,⟨Z,Z,Z,Z,Z⟩,_,G2,hG,hB2,QfT hB' hek (by rw[hbk,hfs]) Z⟩
          · rw[hs,Vj]at hst
            cases hst;exact⟨Z,⟨Z,Z,Z,Z,Z⟩,bk,G,Z,hB,hfs⟩
        · rw[M,Vj]at hst
          cases hst;exact TC.skip ⟨Z,⟨Z,Z,Z,Z,Z⟩,bk,G,Z,hB,hfs⟩
  · rw[ht,Vj]at hs
    cases hs;have hb:=hd _ Z;refine⟨⟨_,Z⟩,?_⟩;rw[<- hb, <- hfs];exact QqR hB Z
 refine Gx 1 Z (Qf q (Gc 9 Z (vH (Qgu Gh) ?_)));refine Fg 2 Z Z ?_;have ai:=Qmc h;have P:Qkh _ _ _ _ _:=λp hp=>YM (ai p hp);refine Qp2 P (λJ=>[(12,.osl 0 0 J.length 1)]) (λJ=>[.row 222 1 (map Ue.ptr J)]) ?_ (λJ env H N q=>?_)
 .refine G0 1 Z ?_;refine Qo2 (enc:=(λp=>((λx=>A.int .i64 x) p.1,(rpE Ue.K) p.2))) (λF=>[(12,.osl 0 0 F.length 1),(97,.ptr 1 0)]) (λF R=>[.row 222 1 (map Ue.ptr F),.iter none R]) P ?_ ?_
  .refine En (Ep (s:=12) (k:=1) (t:=222) (XO Z) Z) ?_;exact Lr [3,2]
  intro F R aj;refine G0 2 Z ?_;refine QoX (enc:=(λp=>((λx=>A.int .i64 x) p.1,(rpE Ue.K) p.2))) aj (λax ak al=>?_) (λg T ay O az am=>?_)
  .refine Go 7 Z (QqI ?_);cases ak;exact Gx 1 Z (cutGN al (Lr [0]))
  refine aV (.tup [.bool true,I g.1,.rp (Ue.c g.2)]) [.row 222 1 (map Ue.ptr F),.iter (some (I g.1,.rp (Ue.c g.2))) (map (λp=>((λx=>A.int .i64 x) p.1,(rpE Ue.K) p.2)) T)] Z Z ?_;refine Go 10 Z ?_;refine vX (.tup [I g.1,.rp (Ue.c g.2)]) (OpV.entry (e:=(I g.1,.rp (Ue.c g.2)))) ?_;refine Go 7 Z (vH (Ek (xs:=[.tmp 103]) (es:=map Ue.ptr [g.2]) Qil Z Z Z Z Z ⟨Z,trivial⟩ Z Z) ?_);refine FE Z (Bd O λan ac O=>vH (Qk (e:=Ue.ptr) ac Qil ET (QH (i:=2))) ?_);refine Fg 3 Z Z (QqJ _ _ O am ?_);refine En (Qhy (i:=1) (H':=[.dead,.iter none (map (λp=>((λx=>A.int .i64 x) p.1,(rpE Ue.K) p.2)) T),.row 222 1 (map Ue.ptr [g.2]),.row 222 1 (map Ue.ptr an)]) Z Z) ?_;exact Lr [3,1]
 refine Gx 1 Z (Qf q (Gc 3 Z ?_));refine QG (Jm [(12,_),(106,_)] Z Z (Qpf.cons Z Eo (Qpf.cons Z Eo Qpf.nil)) (Ec (YD _))) ?_;exact Cd [] N (k_cb _ _) Z λba ar N=>FE Z (Gt 4 Z N 2 [])
def F_lj(n:Nat)(e:List Ue)(a:(List Report)×Int):Option (Ctl ((List Report)×Int) (List Report)):=(bif decide (a.2<(e.length:Int))then(idx e a.2).bind λd=>((bif decide (0<(d.reports.length:Int))then(idx d.reports 0).bind λf=>(app a.1 [f]).bind λg=>some g else some a.1):Option (List Report)).bind λh=>some (.cont (h,i64.wrap (a.2+1)))else some (.done a.1))
def F_dc(n:Nat)(d:List Fact):Option (List Report):=(F_ax n d).bind λe=>(iter (F_lj n e) n ([],0):Option (List Report)).bind λa=>some a
theorem k_dc(n:Nat)(u:List Fact):Kq (F_dc n u) 45 [.rsl 57 (map Fact.c u)] [] (λr=>.osl 0 0 r.length 4) (λr=>[.row 62 4 (map Report.c r)]):=by
 refine Kg 9 func45 Z Z Z Z λr h=>Cd [] h (k_ax _ _) Z λG y h=>FE Z (Lg 3 Z Z (Bd h λf w h=>Cg f [0] [] (λf=>[(2,.osl 0 0 f.length 4)]) (λf=>[(0,.row 62 4 (map Report.c f))]) Zf ?_ ?_))
 .refine G0 1 Z (Lp [0] [6,7] (λg=>[(2,.osl 0 0 g.1.length 4),(8,I g.2)]) (λg=>[(0,.row 62 4 (map Report.c g.1))]) w Zf ?_ ?_)
  .exact En (Ep (s:=2) (XO Z) Z) (Lr [0])
  intro g z a k;refine G0 6 Z (Q8 Z a (λ_ a=>?_) (λ_ a=>?_))
  .exact Gc 2 Z (Ql a (Gx 1 Z (cQo k a (Lr [0]))))
  refine Gc 6 Z (Bd a λB m a=>Iz m Z (Go 8 Z (Fr Qjw Z (Go 1 Z (Lg 3 Z Z (Bd a λj d a=>(Ct j [0] [6,7,8] (λj=>[(2,.osl 0 0 j.length 4)]) (λj=>[(0,.row 62 4 (map Report.c j))]) Zf ?_ (λenv H x=>?_))))))))
  .refine G0 0 Z (Cn Z d (λ_ d=>?_) (λ_ d=>?_))
   .refine Gc 4 Z (Fr Qjw Z (Go 1 Z (Bd d λE q d=>Iz q Z (Go 1 Z (vH (Ek (xs:=[.tmp 24]) QjO Z Z Z Z Z ⟨Z,trivial⟩ Z Z) ?_)))));refine FE Z (Bd d λF t d=>vH (Qk (e:=Report.c) t QjO EQ (QH (i:=1))) ?_);exact FE Z (Gl 2 Z d [2])
   exact YC 1 Z d [0]
  exact Gx 2 Z (Qf x (Gc 4 Z (Qj a (Lr [0]))))
 exact QI 7 Z h 2 [0]
def F_ex(n:Nat)(a:Ue):Option Bool:=((bif a.appeal then(idx ([a.r0,a.r1,a.r2]:List (List Fact)) 1).bind λe=>(bif decide (0<(e.length:Int))then(idx ([a.r0,a.r1,a.r2]:List (List Fact)) 2).bind λd=>some ((d.length:Int)==0)else some false)else some false):Option Bool).bind λf=>some f
theorem k_ex(n:Nat)(g:Ue):Ks (F_ex n g) 176 [.rp (Ue.c g)] [] (λr=>.bool r):=by
 refine Kg 6 func176 Z Z Z Z λr h=>Bd h λd a h=>Cg d [] [] (λd=>[(2,.bool d)]) Ze Zf ?_ ?_
 .refine G0 3 Z (Fr Qos Z (Go 2 Z (Is 7 a Z (λ_ a=>?_) (λ_ a=>?_))))
  .refine Go 2 Z (Frg (gT Z) JU Z (Bd a λp j a=>(vV (Qc2 (f:=λl=>.rsl 57 (map Fact.c l)) j Z Z EO E7 Z) ?_ (gT Z))));refine Go 1 Z (Lg 3 Z Z (Is 16 a Z (λ_ a=>?_) (λ_ a=>?_)))
   .refine Go 2 Z (Frg (gT Z) JU Z (Bd a λm e a=>(vV (Qc2 (f:=λl=>.rsl 57 (map Fact.c l)) e Z Z EO E7 Z) ?_ (gT Z))));exact Go 1 Z (Lm Z (Gl 4 Z a []))
   .exact Gl 10 Z a []
  .exact Gl 19 Z a []
 exact QI 1 Z h 2 []
def F_dt(n:Nat)(e:Ue)(a:Int):Option (Ctl Int (Ctl Unit (Ruling×Bool))):=(bif decide (0<a)then(idx ([e.r0,e.r1,e.r2]:List (List Fact)) a).bind λd=>(bif decide (0<(d.length:Int))then(idx d 0).bind λf=>some (.done (.done (f.Ruling,true)))else some (.cont (i64.wrap (a-1))))else some (.done (.cont ())))
def F_ca(n:Nat)(d:Ue):Option (Ruling×Bool):=(F_ex n d).bind λf=>(bif f then some (Ux,false)else(iter (F_dt n d) n 2:Option (Ctl Unit (Ruling×Bool))).bind λe=>match e with|.cont a=>(some (Ux,false))|.done a=>some a)
theorem k_ca(n:Nat)(m:Ue):Kq (F_ca n m) 114 [.rp (Ue.c m)] [] (λr=>.tup [.agg (Ruling.c r.1),.bool r.2]) (λr=>[.cells 66 (Ruling.c r.1)]):=by
 refine Kg 10 func114 Z Z Z Z λr h=>Cz [] h (k_ex _ _) Z λB w h=>Go 2 Z (Cn Z h (λ_ h=>?_) (λ_ h=>?_))
 .refine Gc 9 Z ?_;obtain rfl:=Oi h;exact Rx [0] [2,3] Z (Qp Z Z (Qlb.cons (Qg Gz E4 Z Z Z) (Qlb.cons QdB.tmp Qlb.nil))) ⟨Z,Z⟩
 refine Gc 8 Z (Bd h λq s h=>CgE (b:=q) [0] [2] Ze Ze Zf ?_ (λ_ t=>?_))
 .refine G0 1 Z (Lp [0] [0,2] (λe=>[(4,I e)]) Ze s Zf (Lr [0]) λe x a d=>(G0 7 Z (Q8 Z a (λ_ a=>?_) (λ_ a=>?_))))
  .exact Gc 2 Z (Ql a (Gx 1 Z (JN d a Z (Lr [0]))))
  refine Gc 9 Z (Fr JU Z (Bd a λy i a=>(vV (Qc2 (f:=λl=>.rsl 57 (map Fact.c l)) i Z Z EO E7 Z) ?_)));refine Go 7 Z (Lg 3 Z Z (Cn Z a (λ_ a=>?_) (λ_ a=>?_)))
  .refine Gc 3 Z (Bd a λz k a=>Iz k Z (Go 9 Z (Qx a ?_)));obtain rfl:=Oj d a;obtain rfl:=Oi h;exact Rx [0] [2,3] Z (Qp Z Z (Qlb.cons (Qg Gz E4 Z Z Z) (Qlb.cons QdB.tmp Qlb.nil))) ⟨Z,Z⟩
  exact Gc 8 Z (Qj a (Lr [0]))
 subst t;refine Gc 8 Z ?_;obtain rfl:=Oi h;exact Rx [0] [2,3] Z (Qp Z Z (Qlb.cons (Qg Gz E4 Z Z Z) (Qlb.cons QdB.tmp Qlb.nil))) ⟨Z,Z⟩
def F_kg(n:Nat)(e:List Ue)(a:(List Ruling)×Int):Option (Ctl ((List Ruling)×Int) (List Ruling)):=(bif decide (a.2<(e.length:Int))then(idx e a.2).bind λf=>(F_ca n f).bind λd=>((bif d.2 then(app a.1 [d.1]).bind λg=>some g else some a.1):Option (List Ruling)).bind λh=>some (.cont (h,i64.wrap (a.2+1)))else some (.done a.1))
def F_di(n:Nat)(d:List Fact):Option (List Ruling):=(F_ax n d).bind λe=>(iter (F_kg n e) n ([],0):Option (List Ruling)).bind λa=>some a
theorem k_di(n:Nat)(t:List Fact):Kq (F_di n t) 46 [.rsl 57 (map Fact.c t)] [] (λr=>.osl 0 0 r.length 6) (λr=>[.row 66 6 (map Ruling.c r)]):=by
 refine Kg 9 func46 Z Z Z Z λr h=>Cd [] h (k_ax _ _) Z λG y h=>FE Z (Lg 3 Z Z (Bd h λf u h=>Cg f [0] [] (λf=>[(2,.osl 0 0 f.length 6)]) (λf=>[(0,.row 66 6 (map Ruling.c f))]) Zf ?_ ?_))
 .refine G0 1 Z (Lp [0] [9,10] (λg=>[(2,.osl 0 0 g.1.length 6),(11,I g.2)]) (λg=>[(0,.row 66 6 (map Ruling.c g.1))]) u Zf ?_ ?_)
  .exact En (Ep (s:=2) (XO Z) Z) (Lr [0])
  intro g z a k;refine G0 6 Z (Q8 Z a (λ_ a=>?_) (λ_ a=>?_))
  .exact Gc 2 Z (Ql a (Gx 1 Z (cQo k a (Lr [0]))))
  refine Gc 6 Z (Bd a λB m a=>Iz m Z (Go 14 Z (Cd [] a (k_ca _ _) Z λE x a=>Fg 13 Z Z (Bd a λj d a=>Ct j [0] [9,10,11] (λj=>[(2,.osl 0 0 j.length 6)]) (λj=>[(0,.row 66 6 (map Ruling.c j))]) Zf ?_ (λenv H w=>?_)))))
  .refine G0 0 Z (Cn Z d (λ_ d=>?_) (λ_ d=>?_))
   .refine Gc 3 Z (vH (Ek (xs:=[.tmp 24]) QjN Z Z Z Z Z ⟨Z,trivial⟩ Z Z) ?_);refine FE Z (Bd d λF q d=>vH (Qk (e:=Ruling.c) q QjN Gk (QH (i:=3))) ?_);exact FE Z (Gl 2 Z d [4])
   exact YC 1 Z d [0]
  exact Gx 2 Z (Qf w (Gc 4 Z (Qj a (Lr [0]))))
 exact QI 7 Z h 2 [0]
def F_jq(n:Nat):Option (List (Int×Uc)):=(some (QQ [] 3 ({penalty:=115:Uc}))).bind λm1=>(some (QQ m1 4 ({penalty:=116:Uc}))).bind λm2=>(some (QQ m2 5 ({penalty:=117:Uc}))).bind λa=>some a
theorem k_jq(n:Nat):Kq (F_jq n) 47 [] [] (λ_=>.map 0) (λr=>[.map (Qo (λx=>A.int .i64 x) (λx=>A.agg (Uc.c x)) r)]):=by
 refine Kg 7 func47 Z Z Z Z λr h=>vH Yf (Fg 1 Z Z (Bd h λm1 a h=>?_));refine vU (Qiy Z (Ye (ev:=(λx=>A.agg (Uc.c x))) Y2 a Z Gs)) ?_;refine Fg 1 Z Z (Bd h λm2 d h=>(vU (Qiy Z (Ye Y2 d Z Gs)) ?_));refine Fg 1 Z Z (Bd h λf e h=>(vU (Qiy Z (Ye Y2 e Z Gs)) ?_));exact FE Z (Gt 5 Z h 0 [0])
def F_fm(n:Nat)(a:List (Int×Bool)):Option Unit:=some ()
theorem k_fm(n:Nat)(a:List (Int×Bool)):Kq (F_fm n a) 49 [.map 0] [.map (Qo (λx=>A.int .i64 x) A.bool a)] (λ_=>.fn (.func 120) [] [.ptr 1 0]) (λ_=>[.map (Qo (λx=>A.int .i64 x) A.bool a),.cells 134 [.map 0]]):=by
 exact Kg 13 func49 Z Z Z Z λr h=>Rt h 2 [0,1]
def F_el(n:Nat)(a:List (Int×Bool)):Option (List Int):=QoW (map Prod.fst a) λp1=>(sortI p1).bind λd=>some d
theorem k_el(n:Nat)(d:List (Int×Bool)):Kq (F_el n d) 48 [.fn (.func 120) [] [.ptr 0 0]] [.cells 134 [.map 1],.map (Qo (λx=>A.int .i64 x) A.bool d)] (λr=>.osl 2 0 r.length 1) (λr=>[.dead,.fmap (Qo (λx=>A.int .i64 x) A.bool d),.row 3 1 (map (Qe .i64) r)]):=by
 refine Kg 8 func48 Z Z Z Z λr h=>(QG (Qmk (i:=1) Z) ?_);obtain⟨e,h⟩:=Qme h;refine QD [0,1] (OpC.fn call118 Z Z Z) (Qi6 _ e) ?_;rintro _ _ ⟨p1,f,rfl,rfl⟩;have h:=h p1 f;refine Fg 6 Z Z (Bd h λg a h=>(QD [2] (OpC.fn call119 Z Z Z) (Qmq QcA a) ?_));rintro _ _ ⟨rfl,rfl⟩;refine QG (QU (s:=3) Z (congrArg (λn=>A.osl 2 0 n 1) (QdL a))) ?_;exact Gt 9 Z h 2 [0,1,2]
def F_je(n:Nat)(a:Ruling):Option Unit:=some ()
theorem k_je(n:Nat)(a:Ruling):Kq (F_je n a) 115 [.agg (Ruling.c a)] [] (λ_=>.agg [I a.Position,I a.Amount,I 0,.bool false]) (λ_=>[.cells 76 [I a.Position,I a.Amount,I 0,.bool false]]):=by
 refine Kg 17 func115 Z Z Z Z λr h=>?_;exact Rx [1] [2] Z (Yd Z (Qg EV EG Z Z Z)) ⟨Z,Z⟩
def F_ia(n:Nat)(a:Ruling):Option Unit:=some ()
theorem k_ia(n:Nat)(a:Ruling):Kq (F_ia n a) 116 [.agg (Ruling.c a)] [] (λ_=>.agg [I a.Position,I 0,I a.Amount,.bool false]) (λ_=>[.cells 76 [I a.Position,I 0,I a.Amount,.bool false]]):=by
 refine Kg 17 func116 Z Z Z Z λr h=>?_;exact Rx [1] [2] Z (Yd Z (Qg EV EG Z Z Z)) ⟨Z,Z⟩
def F_ip(n:Nat)(a:Ruling):Option Unit:=some ()
theorem k_ip(n:Nat)(a:Ruling):Kq (F_ip n a) 117 [.agg (Ruling.c a)] [] (λ_=>.agg [I a.Position,I 0,I 0,.bool true]) (λ_=>[.cells 76 [I a.Position,I 0,I 0,.bool true]]):=by
 refine Kg 15 func117 Z Z Z Z λr h=>?_;exact Rx [1] [2] Z (Yd Z (Qg EV EG Z Z Z)) ⟨Z,Z⟩
end Go.Sw
