/- What the functions compute that ClocksSystemSpec reaches, and that their calls refine it (part 2 of 4). -/
import Derived.Test.YtgjcbknjiemdgaaGreatDoorW16Sy1
set_option linter.unusedVariables false
set_option linter.unusedSimpArgs false
set_option maxRecDepth 100000
set_option maxHeartbeats 4000000
namespace Go.Sw
open List(map)
open Int(toNat)
open Go.IntKind(i64 u64 u8)
open Go.Proofs Tryz
def Q_facts_open_rxk(d:Fact)(e:Int):U_facts_open_rxk->Go.Sw.A->Qe->Prop
  |.c0 x,a,H=>a=.tup [.agg [.osl 2 0 8 3,.fn (.func 252) [] []],.bool true]/\H=[.cells 96 (Fact.c d),.cells 3 [I e],.rowr 297 3 [[.ptr 0 4,I 1,I 9999],[.ptr 0 5,I 0,I 7],[.ptr 0 6,I 0,I 31],[.ptr 0 7,I (-1099511627776),I 1099511627776],[.ptr 0 8,I 0,I 120],[.ptr 0 9,I 0,I 1048576],[.ptr 0 10,I 0,I 9999],[.ptr 0 11,I 0,I 1048576]],.cells 287 [.osl 2 0 8 3,.fn (.func 252) [] []]]
  |.c1 x,a,H=>a=.tup [.agg [.osl 2 0 4 3,.fn (.func 252) [] []],.bool true]/\H=[.cells 96 (Fact.c d),.cells 3 [I e],.rowr 297 3 [[.ptr 0 12,I 0,I 39],[.ptr 0 13,I 0,I 255],[.ptr 0 14,I 0,I 1048576],[.ptr 0 15,I (-1099511627776),I 1099511627776]],.cells 287 [.osl 2 0 4 3,.fn (.func 252) [] []]]
  |.c2 x,a,H=>a=.tup [.agg [.osl 2 0 5 3,.fn (.func 252) [] []],.bool true]/\H=[.cells 96 (Fact.c d),.cells 3 [I e],.rowr 297 3 [[.ptr 0 16,I 0,I 39],[.ptr 0 17,I 0,I 255],[.ptr 0 18,I (-1099511627776),I 1099511627776],[.ptr 0 19,I (-1099511627776),I 1099511627776],[.ptr 0 20,I 0,I 1099511627776]],.cells 287 [.osl 2 0 5 3,.fn (.func 252) [] []]]
  |.c3 x,a,H=>a=.tup [.agg [.osl 2 0 8 3,.fn (.func 253) [] [.ptr 3 0]],.bool true]/\H=[.cells 96 (Fact.c d),.cells 3 [I e],.rowr 297 3 [[.ptr 0 21,I 0,I 39],[.ptr 0 22,I 0,I 255],[.ptr 0 23,I (-1099511627776),I 1099511627776],[.ptr 0 24,I 0,I 39],[.ptr 0 25,I 0,I 255],[.ptr 0 26,I (-1099511627776),I 1099511627776],[.ptr 0 27,I (-1099511627776),I 1099511627776],[.ptr 0 28,I (-1099511627776),I 1099511627776]],.cells 339 [.ptr 0 21],.cells 287 [.osl 2 0 8 3,.fn (.func 253) [] [.ptr 3 0]]]
  |.c4 x,a,H=>a=.tup [.agg [.osl 2 0 4 3,.fn (.func 254) [] [.ptr 3 0]],.bool true]/\H=[.cells 96 (Fact.c d),.cells 3 [I e],.rowr 297 3 [[.ptr 0 29,I 1,I 9999],[.ptr 0 30,I 0,I 255],[.ptr 0 31,I (-1099511627776),I 1099511627776],[.ptr 0 32,I (-1099511627776),I 1099511627776]],.cells 340 [.ptr 0 29],.cells 287 [.osl 2 0 4 3,.fn (.func 254) [] [.ptr 3 0]]]
  |.c5 x,a,H=>a=.tup [.agg [.osl 2 0 4 3,.fn (.func 255) [] [.ptr 3 0]],.bool true]/\H=[.cells 96 (Fact.c d),.cells 3 [I e],.rowr 297 3 [[.ptr 0 33,I 0,I 39],[.ptr 0 34,I 0,I 255],[.ptr 0 35,I (-1099511627776),I 1099511627776],[.ptr 0 36,I (-1099511627776),I 1099511627776]],.cells 341 [.ptr 0 33],.cells 287 [.osl 2 0 4 3,.fn (.func 255) [] [.ptr 3 0]]]
  |.c6 x,a,H=>a=.tup [.agg [.osl 2 0 2 3,.fn (.func 256) [] [.ptr 3 0]],.bool true]/\H=[.cells 96 (Fact.c d),.cells 3 [I e],.rowr 297 3 [[.ptr 0 37,I 1,I 9999],[.ptr 0 38,I 1,I 9999]],.cells 342 [.ptr 0 37],.cells 287 [.osl 2 0 2 3,.fn (.func 256) [] [.ptr 3 0]]]
  |.c7 x,a,H=>a=.tup [.agg [.osl 2 0 4 3,.fn (.func 252) [] []],.bool true]/\H=[.cells 96 (Fact.c d),.cells 3 [I e],.rowr 297 3 [[.ptr 0 39,I 1,I 1048576],[.ptr 0 40,I 1,I 9999],[.ptr 0 41,I 0,I 31],[.ptr 0 42,I 0,I 255]],.cells 287 [.osl 2 0 4 3,.fn (.func 252) [] []]]
  |.c8 x,a,H=>a=.tup [.agg [.osl 2 0 4 3,.fn (.func 252) [] []],.bool true]/\H=[.cells 96 (Fact.c d),.cells 3 [I e],.rowr 297 3 [[.ptr 0 43,I 1,I 1048576],[.ptr 0 44,I 0,I 9999],[.ptr 0 45,I 0,I 1125899906842624],[.ptr 0 46,I 0,I 1]],.cells 287 [.osl 2 0 4 3,.fn (.func 252) [] []]]
  |.c9 x,a,H=>a=.tup [.agg [.osl 2 0 6 3,.fn (.func 252) [] []],.bool true]/\H=[.cells 96 (Fact.c d),.cells 3 [I e],.rowr 297 3 [[.ptr 0 47,I 1,I 1048576],[.ptr 0 48,I 1,I 2],[.ptr 0 49,I 1,I 5],[.ptr 0 50,I x.1,I x.2.1],[.ptr 0 51,I x.2.2.1,I x.2.2.2.1],[.ptr 0 52,I x.2.2.2.2.1,I x.2.2.2.2.2]],.cells 287 [.osl 2 0 6 3,.fn (.func 252) [] []]]
  |.c10 x,a,H=>a=.tup [.agg [.osl 2 0 2 3,.fn (.func 252) [] []],.bool true]/\H=[.cells 96 (Fact.c d),.cells 3 [I e],.rowr 297 3 [[.ptr 0 53,I 1,I 1048576],[.ptr 1 0,I 0,I 1]],.cells 287 [.osl 2 0 2 3,.fn (.func 252) [] []]]
  |.c11 x,a,H=>a=.tup [.agg [.nils,.fn (.func 252) [] []],.bool true]/\H=[.cells 96 (Fact.c d),.cells 3 [I e],.cells 287 [.nils,.fn (.func 252) [] []]]
  |.c12 x,a,H=>a=.tup [.agg [.osl 2 0 2 3,.fn (.func 252) [] []],.bool true]/\H=[.cells 96 (Fact.c d),.cells 3 [I e],.rowr 297 3 [[.ptr 0 55,I 0,I 31],[.ptr 0 56,I 1,I 1048576]],.cells 287 [.osl 2 0 2 3,.fn (.func 252) [] []]]
  |.c13 x,a,H=>a=.tup [.agg [.nils,.nilf],.bool false]/\H=[.cells 96 (Fact.c d),.cells 3 [I e],.cells 287 [.nils,.nilf]]
def F_bo(n:Nat)(a:Fact)(f:Int):Option U_facts_open_rxk:=(bif (a.Kind==1)then some (U_facts_open_rxk.c0 ())else(bif (a.Kind==2)then some (U_facts_open_rxk.c1 ())else(bif (a.Kind==3)then some (U_facts_open_rxk.c2 ())else(bif (a.Kind==4)then some (U_facts_open_rxk.c3 ())else(bif (a.Kind==5)then some (U_facts_open_rxk.c4 ())else(bif (a.Kind==6)then some (U_facts_open_rxk.c5 ())else(bif (a.Kind==7)then some (U_facts_open_rxk.c6 ())else(bif (a.Kind==8)then some (U_facts_open_rxk.c7 ())else(bif (a.Kind==9)then some (U_facts_open_rxk.c8 ())else(bif (a.Kind==10)then((bif (a.Ruling.Kind==1)then some (a.Ruling.Kind==1)else some (a.Ruling.Kind==2)):Option Bool).bind λe=>((bif e then some ({least:=0,most:=0:Ub},{least:=0,most:=0:Ub},{least:=0,most:=0:Ub})else(bif (a.Ruling.Kind==3)then some ({least:=1,most:=9999:Ub},{least:=0,most:=255:Ub},{least:=1,most:=1099511627776:Ub})else(bif (a.Ruling.Kind==4)then some ({least:=1,most:=9999:Ub},{least:=0,most:=255:Ub},{least:=1,most:=64:Ub})else some ({least:=1,most:=9999:Ub},{least:=0,most:=255:Ub},{least:=0,most:=0:Ub})))):Option (Ub×Ub×Ub)).bind λd=>some (U_facts_open_rxk.c9 (d.1.least,d.1.most,d.2.1.least,d.2.1.most,d.2.2.least,d.2.2.most))else(bif (a.Kind==11)then some (U_facts_open_rxk.c10 ())else(bif (a.Kind==12)then some (U_facts_open_rxk.c11 ())else(bif (a.Kind==13)then some (U_facts_open_rxk.c12 ())else some (U_facts_open_rxk.c13 ()))))))))))))))
theorem k_bo(n:Nat)(d:Fact)(e:Int)(r:U_facts_open_rxk)(h:F_bo n d e=some r):C prog 202 [.ptr 0 0,.ptr 1 0] [.cells 96 (Fact.c d),.cells 3 [I e]] (Q_facts_open_rxk d e r):=by
 refine QO func202 Z Z Z ?_;refine G0 22 Z (Cn Z h (λw h=>?_) (λw h=>?_))
 .refine Gc 9 Z (DSs 40 Z (D 40 Z (Eg Z ?_)));refine vH (YN (xs:=[.tmp 32,.tmp 37,.tmp 42,.tmp 47,.tmp 52,.tmp 57,.tmp 62,.tmp 67]) Jw Z Z Z Z Z ⟨Z,Z,Z,Z,Z,Z,Z,Z,trivial⟩ Z) ?_;refine FE Z (Go 8 Z ?_);obtain rfl:=Oi h;exact Rx [0,1,3,2] [4,5] Z (Qt Z Z (Qka.cons (Qg EX ET Z Z Z) (Qka.cons Qev.tmp Qka.nil))) ⟨Z,Z⟩
 refine Gc 6 Z (Cn Z h (λx h=>?_) (λx h=>?_))
 .refine Gc 9 Z (DSs 20 Z (D 20 Z (Eg Z ?_)));refine vH (YN (xs:=[.tmp 79,.tmp 84,.tmp 89,.tmp 94]) Jw Z Z Z Z Z ⟨Z,Z,Z,Z,trivial⟩ Z) ?_;refine FE Z (Go 8 Z ?_);obtain rfl:=Oi h;exact Rx [0,1,3,2] [4,5] Z (Qt Z Z (Qka.cons (Qg EX ET Z Z Z) (Qka.cons Qev.tmp Qka.nil))) ⟨Z,Z⟩
 refine Gc 6 Z (Cn Z h (λy h=>?_) (λy h=>?_))
 .refine Gc 9 Z (DSs 25 Z (D 25 Z (Eg Z ?_)));refine vH (YN (xs:=[.tmp 106,.tmp 111,.tmp 116,.tmp 121,.tmp 126]) Jw Z Z Z Z Z ⟨Z,Z,Z,Z,Z,trivial⟩ Z) ?_;refine FE Z (Go 8 Z ?_);obtain rfl:=Oi h;exact Rx [0,1,3,2] [4,5] Z (Qt Z Z (Qka.cons (Qg EX ET Z Z Z) (Qka.cons Qev.tmp Qka.nil))) ⟨Z,Z⟩
 refine Gc 6 Z (Cn Z h (λz h=>?_) (λz h=>?_))
 .refine Gc 10 Z (DAs 42 40 [0,0,0,0,0,0,0,0,0,0,0,0,0,0,0,0,0,0,0,0,0,0,0,0,0,0,0,0,0,0,0,0,0,0,0,0,0,0,0,0,1,3] (by kernel_rfl) (Da 40 Z ?_));refine QbH (YN (xs:=[.tmp 138,.tmp 143,.tmp 148,.tmp 153,.tmp 158,.tmp 163,.tmp 168,.tmp 173]) Jw Z Z Z Z Z ⟨Z,Z,Z,Z,Z,Z,Z,Z,trivial⟩ Z) Z Z (Db 1 Z (DB.done Z (Go 8 Z ?_)));obtain rfl:=Oi h;exact Rx [0,1,4,3,2] [4,5] Z (Qt Z Z (Qka.cons (Qg EX ET Z Z Z) (Qka.cons Qev.tmp Qka.nil))) ⟨Z,Z⟩
 refine Gc 6 Z (Cn Z h (λB h=>?_) (λB h=>?_))
 .refine Gc 10 Z (DAs 22 20 [0,0,0,0,0,0,0,0,0,0,0,0,0,0,0,0,0,0,0,0,1,3] (by kernel_rfl) (Da 20 Z ?_));refine QbH (YN (xs:=[.tmp 186,.tmp 191,.tmp 196,.tmp 201]) Jw Z Z Z Z Z ⟨Z,Z,Z,Z,trivial⟩ Z) Z Z (Db 1 Z (DB.done Z (Go 8 Z ?_)));obtain rfl:=Oi h;exact Rx [0,1,4,3,2] [4,5] Z (Qt Z Z (Qka.cons (Qg EX ET Z Z Z) (Qka.cons Qev.tmp Qka.nil))) ⟨Z,Z⟩
 refine Gc 6 Z (Cn Z h (λE h=>?_) (λE h=>?_))
 .refine Gc 10 Z (DAs 22 20 [0,0,0,0,0,0,0,0,0,0,0,0,0,0,0,0,0,0,0,0,1,3] (by kernel_rfl) (Da 20 Z ?_));refine QbH (YN (xs:=[.tmp 214,.tmp 219,.tmp 224,.tmp 229]) Jw Z Z Z Z Z ⟨Z,Z,Z,Z,trivial⟩ Z) Z Z (Db 1 Z (DB.done Z (Go 8 Z ?_)));obtain rfl:=Oi h;exact Rx [0,1,4,3,2] [4,5] Z (Qt Z Z (Qka.cons (Qg EX ET Z Z Z) (Qka.cons Qev.tmp Qka.nil))) ⟨Z,Z⟩
 refine Gc 6 Z (Cn Z h (λF h=>?_) (λF h=>?_))
 .refine Gc 10 Z (DAs 12 10 [0,0,0,0,0,0,0,0,0,0,1,3] (by kernel_rfl) (Da 10 Z ?_));refine QbH (YN (xs:=[.tmp 242,.tmp 247]) Jw Z Z Z Z Z ⟨Z,Z,trivial⟩ Z) Z Z (Db 1 Z (DB.done Z (Go 8 Z ?_)));obtain rfl:=Oi h;exact Rx [0,1,4,3,2] [4,5] Z (Qt Z Z (Qka.cons (Qg EX ET Z Z Z) (Qka.cons Qev.tmp Qka.nil))) ⟨Z,Z⟩
 refine Gc 6 Z (Cn Z h (λG h=>?_) (λG h=>?_))
 .refine Gc 9 Z (DSs 20 Z (D 20 Z (Eg Z ?_)));refine vH (YN (xs:=[.tmp 260,.tmp 265,.tmp 270,.tmp 275]) Jw Z Z Z Z Z ⟨Z,Z,Z,Z,trivial⟩ Z) ?_;refine FE Z (Go 8 Z ?_);obtain rfl:=Oi h;exact Rx [0,1,3,2] [4,5] Z (Qt Z Z (Qka.cons (Qg EX ET Z Z Z) (Qka.cons Qev.tmp Qka.nil))) ⟨Z,Z⟩
 refine Gc 6 Z (Cn Z h (λJ h=>?_) (λJ h=>?_))
 .refine Gc 9 Z (DSs 20 Z (D 20 Z (Eg Z ?_)));refine vH (YN (xs:=[.tmp 287,.tmp 292,.tmp 297,.tmp 302]) Jw Z Z Z Z Z ⟨Z,Z,Z,Z,trivial⟩ Z) ?_;refine FE Z (Go 8 Z ?_);obtain rfl:=Oi h;exact Rx [0,1,3,2] [4,5] Z (Qt Z Z (Qka.cons (Qg EX ET Z Z Z) (Qka.cons Qev.tmp Qka.nil))) ⟨Z,Z⟩
 refine Gc 6 Z (Cn Z h (λk h=>?_) (λk h=>?_))
 .refine Gc 9 Z ?_;refine YL 8 3 [310,311,312,16,17,18,1000006,1000007] [false,false,false,true,true,true,true,true] [[],[],[],[],[],[],[3,4,5],[3,4,5,6]] [[],[3],[4],[5],[3,4],[3,5],[4,5],[3,4,5],[3,4,5,6],[3,4,5,6,7]] [[(0,0),(1,1),(2,2),(3,3),(4,4),(5,5),(6,6),(7,7)],[(0,0),(1,1),(2,2),(3,3),(4,4),(5,5),(6,6),(7,7),(8,8)],[(0,0),(1,1),(2,2),(3,3),(4,4),(5,5),(6,6),(7,7),(8,8),(9,9)],[(0,1),(2,4),(3,5),(6,7)],[(0,2),(1,4),(3,6),(5,7)],[(0,3),(1,5),(2,6),(4,7)],[(7,8)],[(8,9)]] [.agg [I 1,I 9999],.agg [I 0,I 255],.agg [I 0,I 0],.ptr 3 0,.ptr 4 0,.ptr 5 0,.any,.any] [[.cells 96 (Fact.c d),.cells 3 [I e],.cells 287 [.nils,.nilf],.dead,.dead,.dead],[.cells 96 (Fact.c d),.cells 3 [I e],.cells 287 [.nils,.nilf],.cells 295 [I 0,I 0],.dead,.dead],[.cells 96 (Fact.c d),.cells 3 [I e],.cells 287 [.nils,.nilf],.dead,.cells 295 [I 0,I 0],.dead],[.cells 96 (Fact.c d),.cells 3 [I e],.cells 287 [.nils,.nilf],.dead,.dead,.cells 295 [I 0,I 0]],[.cells 96 (Fact.c d),.cells 3 [I e],.cells 287 [.nils,.nilf],.cells 295 [I 0,I 0],.cells 295 [I 0,I 0],.dead],[.cells 96 (Fact.c d),.cells 3 [I e],.cells 287 [.nils,.nilf],.cells 295 [I 0,I 0],.dead,.cells 295 [I 0,I 0]],[.cells 96 (Fact.c d),.cells 3 [I e],.cells 287 [.nils,.nilf],.dead,.cells 295 [I 0,I 0],.cells 295 [I 0,I 0]],[.cells 96 (Fact.c d),.cells 3 [I e],.cells 287 [.nils,.nilf],.cells 295 [I 0,I 0],.cells 295 [I 0,I 0],.cells 295 [I 0,I 0]],[.cells 96 (Fact.c d),.cells 3 [I e],.cells 287 [.nils,.nilf],.cells 295 [I 1,I 9999],.cells 295 [I 0,I 0],.cells 295 [I 0,I 0]],[.cells 96 (Fact.c d),.cells 3 [I e],.cells 287 [.nils,.nilf],.cells 295 [I 1,I 9999],.cells 295 [I 0,I 255],.cells 295 [I 0,I 0]]] ([.cells 96 (Fact.c d),.cells 3 [I e],.cells 287 [.nils,.nilf],.cells 295 [I 1,I 9999],.cells 295 [I 0,I 255],.cells 295 [I 0,I 0]]) draws Z Z Z Z Z Z Z ?_ Z ?_
  .refine Qh4.cons (Qb (v0 Z Z) (Qb (v0 Z Z) (Qb (v0 Z Z) (Qb (v0 Z Z) (Qb (v0 Z Z) (Qb (v0 Z Z) (Qb (v0 Z Z) (Qb (v0 Z Z) (Qc))))))))) (Qh4.cons (Qb (v0 Z Z) (Qb (v0 Z Z) (Qb (v0 Z Z) (Qb (v0 Z Z) (Qb (v0 Z Z) (Qb (v0 Z Z) (Qb (v0 Z Z) (Qb (v0 Z Z) (Qb (v0 Z Z) (Qc)))))))))) (Qh4.cons (Qb (v0 Z Z) (Qb (v0 Z Z) (Qb (v0 Z Z) (Qb (v0 Z Z) (Qb (v0 Z Z) (Qb (v0 Z Z) (Qb (v0 Z Z) (Qb (v0 Z Z) (Qb (v0 Z Z) (Qb (v0 Z Z) (Qc))))))))))) (Qh4.cons ?_ (Qh4.cons ?_ (Qh4.cons ?_ (Qh4.cons ?_ (Qh4.cons ?_ (Qh4.nil))))))))
   .refine Qb ?_ (Qb ?_ (Qb ?_ (Qb ?_ (Qc))))
    iterate 4 exact JD.alloc _ 16 295 3 _ Z Z Z Z Z Z Z (OpZ.alloc (v:=(.agg [I 0,I 0])) EM (zrC Z)) Z
   .refine Qb ?_ (Qb ?_ (Qb ?_ (Qb ?_ (Qc))))
    iterate 4 exact JD.alloc _ 17 295 4 _ Z Z Z Z Z Z Z (OpZ.alloc (v:=(.agg [I 0,I 0])) EM (zrC Z)) Z
   .refine Qb ?_ (Qb ?_ (Qb ?_ (Qb ?_ (Qc))))
    iterate 4 exact JD.alloc _ 18 295 5 _ Z Z Z Z Z Z Z (OpZ.alloc (v:=(.agg [I 0,I 0])) EM (zrC Z)) Z
   .refine Qb ?_ (Qc)
    .refine Om2 Z (sD 3 (sD 0 sN)) ?_;refine vU (Ex Z Z Z sizeOf295 Z Z Z Z Z Z Z) ?_;exact FE Z Wp
   .refine Qb ?_ (Qc)
    .refine Om2 Z (sD 4 (sD 1 sN)) ?_;refine vU (Ex Z Z Z sizeOf295 Z Z Z Z Z Z Z) ?_;exact FE Z Wp
  refine Go 20 Z (Bd h λi f h=>?_);refine Ct i [0,1,2,3,4,5] [4,15,16,17,18,316] (λi=>[(317,.bool i)]) Ze Zf ?_ (λenv H j=>?_)
  .refine G0 0 Z (Cn Z f (λl f=>?_) (λl f=>?_))
   .exact Gc 1 Z (Cl f [0,1,2,3,4,5])
   exact Gc 4 Z (Cl f [0,1,2,3,4,5])
  refine Gx 1 Z (Qd j (Bd h λg a h=>?_));refine Ct g [0,1,2,3,4,5] [4,15,16,17,18] Ze (λg=>[(3,.cells 295 (Ub.c g.1)),(4,.cells 295 (Ub.c g.2.1)),(5,.cells 295 (Ub.c g.2.2))]) Zf ?_ (λenv H j=>?_)
  .refine G0 0 Z (Cn Z a (λm a=>?_) (λm a=>?_))
   .exact Gc 6 Z (Cl a [0,1,2,3,4,5])
   refine Gc 6 Z (Cn Z a (λp a=>?_) (λp a=>?_))
   .exact Gc 4 Z (Cl a [0,1,2,3,4,5])
   refine Gc 6 Z (Cn Z a (λq a=>?_) (λq a=>?_))
   .exact Gc 4 Z (Cl a [0,1,2,3,4,5])
   exact Gc 1 Z (Cl a [0,1,2,3,4,5])
  refine Gx 2 Z (Qd j (Gc 1 Z (DSs 30 Z (D 30 Z (Eg Z ?_)))));refine vH (YN (xs:=[.tmp 332,.tmp 337,.tmp 342,.tmp 347,.tmp 352,.tmp 357]) Jw Z Z Z Z Z ⟨Z,Z,Z,Z,Z,Z,trivial⟩ Z) ?_;refine FE Z (Go 8 Z ?_);obtain rfl:=Oi h;exact Rx [0,1,6,2] [4,5] Z (Qt Z Z (Qka.cons (Qg EX ET Z Z Z) (Qka.cons Qev.tmp Qka.nil))) ⟨Z,Z⟩
 refine Gc 6 Z (Cn Z h (λs h=>?_) (λs h=>?_))
 .refine Gc 1 Z (DSs 9 Z (D 9 Z (Eg Z ?_)));refine vH (YN (xs:=[.tmp 367,.tmp 370]) Jw Z Z Z Z Z ⟨Z,Z,trivial⟩ Z) ?_;refine FE Z (Go 8 Z ?_);obtain rfl:=Oi h;exact Rx [0,1,3,2] [4,5] Z (Qt Z Z (Qka.cons (Qg EX ET Z Z Z) (Qka.cons Qev.tmp Qka.nil))) ⟨Z,Z⟩
 refine Gc 6 Z (Cn Z h (λt h=>?_) (λt h=>?_))
 .refine Gc 10 Z ?_;obtain rfl:=Oi h;exact Rx [0,1,2] [4,5] Z (Qt Z Z (Qka.cons (Qg EX ET Z Z Z) (Qka.cons Qev.tmp Qka.nil))) ⟨Z,Z⟩
 refine Gc 6 Z (Cn Z h (λu h=>?_) (λu h=>?_))
 .refine Gc 1 Z (DSs 12 Z (D 12 Z (Eg Z ?_)));refine vH (YN (xs:=[.tmp 383,.tmp 389]) Jw Z Z Z Z Z ⟨Z,Z,trivial⟩ Z) ?_;refine FE Z (Go 8 Z ?_);obtain rfl:=Oi h;exact Rx [0,1,3,2] [4,5] Z (Qt Z Z (Qka.cons (Qg EX ET Z Z Z) (Qka.cons Qev.tmp Qka.nil))) ⟨Z,Z⟩
 refine Gc 11 Z ?_;obtain rfl:=Oi h;exact Rx [0,1,2] [4,5] Z (Qt Z Z (Qka.cons (Qg EX ET Z Z Z) (Qka.cons Qev.tmp Qka.nil))) ⟨Z,Z⟩
def F_f(n:Nat):Option Unit:=some ()
theorem k_f(n:Nat):Ks (F_f n) 252 [] [] (λ_=>.bool true):=by
 exact Kg 11 func252 Z Z Z Z λr h=>Rt h 0 []
def F_hr(n:Nat)(a:Fact):Option Unit:=some ()
theorem k_hr(n:Nat)(a:Fact):Ks (F_hr n a) 253 [.ptr 0 0] [.cells 339 [.ptr 1 21],.cells 96 (Fact.c a)] (λ_=>.bool (decide (a.Sync.Min<=a.Sync.Max))):=by
 exact Kg 6 func253 Z Z Z Z λr h=>DSs 8 Z (D 8 Z (Eg Z (Go 5 Z (Rt h 1 [0,1]))))
def F_hu(n:Nat)(a:Fact):Option Unit:=some ()
theorem k_hu(n:Nat)(a:Fact):Ks (F_hu n a) 254 [.ptr 0 0] [.cells 340 [.ptr 1 29],.cells 96 (Fact.c a)] (λ_=>.bool (decide (a.Hand.Lo<=a.Hand.Hi))):=by
 exact Kg 6 func254 Z Z Z Z λr h=>DSs 8 Z (D 8 Z (Eg Z (Go 5 Z (Rt h 1 [0,1]))))
def F_ie(n:Nat)(a:Fact):Option Unit:=some ()
theorem k_ie(n:Nat)(a:Fact):Ks (F_ie n a) 255 [.ptr 0 0] [.cells 341 [.ptr 1 33],.cells 96 (Fact.c a)] (λ_=>.bool (decide (a.Silence.Lo<=a.Silence.Hi))):=by
 exact Kg 6 func255 Z Z Z Z λr h=>DSs 8 Z (D 8 Z (Eg Z (Go 5 Z (Rt h 1 [0,1]))))
def F_hy(n:Nat)(a:Fact):Option Unit:=some ()
theorem k_hy(n:Nat)(a:Fact):Ks (F_hy n a) 256 [.ptr 0 0] [.cells 342 [.ptr 1 37],.cells 96 (Fact.c a)] (λ_=>.bool (decide (a.Pair.A<a.Pair.B))):=by
 exact Kg 6 func256 Z Z Z Z λr h=>DSs 8 Z (D 8 Z (Eg Z (Go 5 Z (Rt h 1 [0,1]))))
def F_bs(n:Nat)(a:Fact):Option Unit:=some ()
theorem k_bs(n:Nat)(a:Fact):Kq (F_bs n a) 204 [.ptr 0 0] [.cells 96 (Fact.c a)] (λ_=>.osl 1 0 4 3) (λ_=>[.cells 96 (Fact.c a),.rowr 297 3 [[.ptr 0 3,I 1,I 13],[.ptr 0 0,I 0,I 31],[.ptr 0 1,I 1,I 1048576],[.ptr 0 2,I 0,I 1099511627776]]]):=by
 refine Kg 6 func204 Z Z Z Z λr h=>DSs 20 Z (D 20 Z (Eg Z ?_));refine vH (YN (xs:=[.tmp 7,.tmp 12,.tmp 17,.tmp 22]) Jw Z Z Z Z Z ⟨Z,Z,Z,Z,trivial⟩ Z) ?_;exact FE Z (Go 4 Z (Rt h 2 [0,1]))
def F_ds(n:Nat)(d:Fact)(i:Int)(e:Fact):Option (List Ent):=((F_bo n ({d with Kind:=e.Kind:Fact}) i).bind λf=>(match f with|.c0 j=>(some ([⟨false,4,1,9999⟩,⟨false,5,0,7⟩,⟨false,6,0,31⟩,⟨false,7,(-1099511627776),1099511627776⟩,⟨false,8,0,120⟩,⟨false,9,0,1048576⟩,⟨false,10,0,9999⟩,⟨false,11,0,1048576⟩]:List Ent))|.c1 k=>(some ([⟨false,12,0,39⟩,⟨false,13,0,255⟩,⟨false,14,0,1048576⟩,⟨false,15,(-1099511627776),1099511627776⟩]:List Ent))|.c2 l=>(some ([⟨false,16,0,39⟩,⟨false,17,0,255⟩,⟨false,18,(-1099511627776),1099511627776⟩,⟨false,19,(-1099511627776),1099511627776⟩,⟨false,20,0,1099511627776⟩]:List Ent))|.c3 m=>(some ([⟨false,21,0,39⟩,⟨false,22,0,255⟩,⟨false,23,(-1099511627776),1099511627776⟩,⟨false,24,0,39⟩,⟨false,25,0,255⟩,⟨false,26,(-1099511627776),1099511627776⟩,⟨false,27,(-1099511627776),1099511627776⟩,⟨false,28,(-1099511627776),1099511627776⟩]:List Ent))|.c4 p=>(some ([⟨false,29,1,9999⟩,⟨false,30,0,255⟩,⟨false,31,(-1099511627776),1099511627776⟩,⟨false,32,(-1099511627776),1099511627776⟩]:List Ent))|.c5 q=>(some ([⟨false,33,0,39⟩,⟨false,34,0,255⟩,⟨false,35,(-1099511627776),1099511627776⟩,⟨false,36,(-1099511627776),1099511627776⟩]:List Ent))|.c6 r=>(some ([⟨false,37,1,9999⟩,⟨false,38,1,9999⟩]:List Ent))|.c7 s=>(some ([⟨false,39,1,1048576⟩,⟨false,40,1,9999⟩,⟨false,41,0,31⟩,⟨false,42,0,255⟩]:List Ent))|.c8 t=>(some ([⟨false,43,1,1048576⟩,⟨false,44,0,9999⟩,⟨false,45,0,1125899906842624⟩,⟨false,46,0,1⟩]:List Ent))|.c9 a=>(some ([⟨false,47,1,1048576⟩,⟨false,48,1,2⟩,⟨false,49,1,5⟩,⟨false,50,a.1,a.2.1⟩,⟨false,51,a.2.2.1,a.2.2.2.1⟩,⟨false,52,a.2.2.2.2.1,a.2.2.2.2.2⟩]:List Ent))|.c10 u=>(some ([⟨false,53,1,1048576⟩,⟨true,0,0,1⟩]:List Ent))|.c11 w=>(some [])|.c12 x=>(some ([⟨false,55,0,31⟩,⟨false,56,1,1048576⟩]:List Ent))|.c13 y=>(some [])):Option (List Ent)).bind λg=>(F_bs n ({d with Kind:=e.Kind:Fact})).bind λz=>(app ([⟨false,3,1,13⟩,⟨false,0,0,31⟩,⟨false,1,1,1048576⟩,⟨false,2,0,1099511627776⟩]:List Ent) g).bind λh=>some h
theorem k_ds(n:Nat)(g:Fact)(k:Int)(f:Fact):Kq (F_ds n g k f) 203 [.ptr 0 0,.ptr 1 0,.ptr 2 0] [.cells 96 (Fact.c g),.cells 3 [I k],.cells 96 (Fact.c f)] (λr=>.osl 3 0 r.length 3) (λr=>[.cells 96 (Fact.c ({g with Kind:=f.Kind:Fact})),.cells 3 [I k],.cells 96 (Fact.c f),.ents 297 0 1 r]):=by
 refine Kg 16 func203 Z Z Z Z λr h=>Bd h λe a h=>?_;refine Ct e [0,1,2,0,0] [0] (λ_=>[(6,.ptr 3 0)]) (λe=>[(3,.cells 287 [.osl 4 0 e.length 3,.any]),(4,.ents 297 0 1 e)]) Zf ?_ (λenv H s=>?_)
 .refine G0 3 Z (Bd a λu l a=>?_);refine Qo [0,1] (OpC.fn call202 Z Z Z) (k_bo _ _ _ _ l) ?_;intro ra rH d;rcases u with w|y|z|B|E|F|G|J|L|M|N|O|P|Q
  iterate 3 obtain⟨rfl,rfl⟩:=d;refine FE Z (TE 3 0 1 Z Z (FE Z (Go 7 Z ?_)));cases a;refine QF ?_;refine En (QZ (i:=5) (m:=1) Z) ?_;exact Lr [0,1,2,5,3]
  iterate 4 obtain⟨rfl,rfl⟩:=d;refine FE Z (TE 3 0 1 Z Z (FE Z (Go 7 Z ?_)));cases a;refine QF ?_;refine En (QZ (i:=6) (m:=1) Z) ?_;exact Lr [0,1,2,6,3]
  iterate 4 obtain⟨rfl,rfl⟩:=d;refine FE Z (TE 3 0 1 Z Z (FE Z (Go 7 Z ?_)));cases a;refine QF ?_;refine En (QZ (i:=5) (m:=1) Z) ?_;exact Lr [0,1,2,5,3]
  .obtain⟨rfl,rfl⟩:=d;refine FE Z (Go 7 Z ?_);cases a;refine QF ?_;refine En (QZ (i:=4) (m:=1) Z) ?_;refine En (Le.phantomE (i:=4) (m:=0) (t:=297) (b1:=0) (b2:=1) Z Z Z) ?_;exact Lr [0,1,2,4,5]
  .obtain⟨rfl,rfl⟩:=d;refine FE Z (TE 3 0 1 Z Z (FE Z (Go 7 Z ?_)));cases a;refine QF ?_;refine En (QZ (i:=5) (m:=1) Z) ?_;exact Lr [0,1,2,5,3]
  .obtain⟨rfl,rfl⟩:=d;refine FE Z (Go 7 Z ?_);cases a;refine QF ?_;refine En (QZ (i:=4) (m:=1) Z) ?_;refine En (Le.phantomE (i:=4) (m:=0) (t:=297) (b1:=0) (b2:=1) Z Z Z) ?_;exact Lr [0,1,2,4,5]
 refine Gx 1 Z (Qd s (Gc 1 Z (DAs 4 1 [0,1,3,3] (by kernel_rfl) (Da 1 Z ?_))));obtain⟨R,p,h⟩:=Yl h;refine DA.op (x:=.osl 5 0 4 3) (H1:=[.cells 96 (Fact.c ({g with Kind:=f.Kind:Fact})),.cells 3 [I k],.cells 96 (Fact.c f),.cells 287 [.osl 4 0 e.length 3,.any],.ents 297 0 1 e,.rowr 297 3 [[.ptr 0 3,I 1,I 13],[.ptr 0 0,I 0,I 31],[.ptr 0 1,I 1,I 1048576],[.ptr 0 2,I 0,I 1099511627776]]]) ?_ ?_
 .refine Qo [0] (OpC.fn call204 Z Z Z) (k_bs _ _ _ p) ?_;rintro _ _ ⟨rfl,rfl⟩;exact FE Z Wp
 refine Db 1 Z ?_;refine DB.wo2 (x:=.osl 4 0 e.length 3) (Ld isAgg285 Z Wp) (Ld isAgg285 Z Wp) ?_;refine DB.done Z (TE 5 0 1 Z Z (FE Z (Bd h λT q h=>?_)));refine vH (Qha (i:=5) (j:=4) q Jw Ga Z) ?_;exact FE Z (Go 4 Z (Rt h 5 [0,1,2,6]))
def F_fk(n:Nat)(f:Fact)(b2:Int)(g:List Ent)(p:List Ent)(a:(List Int)×Fact×Int×Int):Option (Ctl ((List Int)×Fact×Int×Int) (Ctl ((List Int)×Fact×Int) ((List Int)×Bool))):=(bif decide (a.2.2.2<(g.length:Int))then(idx g a.2.2.2).bind λd=>(Qgp (Fact.c f) b2 d).bind λh=>(bif decide (h<d.lo)then some (.done (.done ([],false)))else(Qgp (Fact.c f) b2 d).bind λi=>(bif decide (d.hi<i)then some (.done (.done ([],false)))else(idx p a.2.2.2).bind λj=>(Qgp (Fact.c f) b2 d).bind λk=>(QjC Fact.put a.2.1 a.2.2.1 j k).bind λe=>(Qgp (Fact.c f) b2 d).bind λl=>(app a.1 [l]).bind λm=>some (.cont (m,e.1,e.2,i64.wrap (a.2.2.2+1)))))else some (.done (.cont (a.1,a.2.1,a.2.2.1))))
def F_bv(n:Nat)(a:Fact):Option ((List Int)×Bool):=((bif a.Appeal.Suspends then some 1 else some 0):Option Int).bind λb2=>((F_bo n a b2).bind λh=>(match h with|.c0 m=>((F_f n).bind λp=>some (.cont ([⟨false,4,1,9999⟩,⟨false,5,0,7⟩,⟨false,6,0,31⟩,⟨false,7,(-1099511627776),1099511627776⟩,⟨false,8,0,120⟩,⟨false,9,0,1048576⟩,⟨false,10,0,9999⟩,⟨false,11,0,1048576⟩]:List Ent)))|.c1 q=>((F_f n).bind λr=>some (.cont ([⟨false,12,0,39⟩,⟨false,13,0,255⟩,⟨false,14,0,1048576⟩,⟨false,15,(-1099511627776),1099511627776⟩]:List Ent)))|.c2 s=>((F_f n).bind λt=>some (.cont ([⟨false,16,0,39⟩,⟨false,17,0,255⟩,⟨false,18,(-1099511627776),1099511627776⟩,⟨false,19,(-1099511627776),1099511627776⟩,⟨false,20,0,1099511627776⟩]:List Ent)))|.c3 u=>((F_hr n a).bind λw=>(bif (!(decide (a.Sync.Min<=a.Sync.Max)))then some (.done ([],false))else some (.cont ([⟨false,21,0,39⟩,⟨false,22,0,255⟩,⟨false,23,(-1099511627776),1099511627776⟩,⟨false,24,0,39⟩,⟨false,25,0,255⟩,⟨false,26,(-1099511627776),1099511627776⟩,⟨false,27,(-1099511627776),1099511627776⟩,⟨false,28,(-1099511627776),1099511627776⟩]:List Ent))))|.c4 x=>((F_hu n a).bind λy=>(bif (!(decide (a.Hand.Lo<=a.Hand.Hi)))then some (.done ([],false))else some (.cont ([⟨false,29,1,9999⟩,⟨false,30,0,255⟩,⟨false,31,(-1099511627776),1099511627776⟩,⟨false,32,(-1099511627776),1099511627776⟩]:List Ent))))|.c5 z=>((F_ie n a).bind λE=>(bif (!(decide (a.Silence.Lo<=a.Silence.Hi)))then some (.done ([],false))else some (.cont ([⟨false,33,0,39⟩,⟨false,34,0,255⟩,⟨false,35,(-1099511627776),1099511627776⟩,⟨false,36,(-1099511627776),1099511627776⟩]:List Ent))))|.c6 F=>((F_hy n a).bind λG=>(bif (!(decide (a.Pair.A<a.Pair.B)))then some (.done ([],false))else some (.cont ([⟨false,37,1,9999⟩,⟨false,38,1,9999⟩]:List Ent))))|.c7 H=>((F_f n).bind λJ=>some (.cont ([⟨false,39,1,1048576⟩,⟨false,40,1,9999⟩,⟨false,41,0,31⟩,⟨false,42,0,255⟩]:List Ent)))|.c8 L=>((F_f n).bind λM=>some (.cont ([⟨false,43,1,1048576⟩,⟨false,44,0,9999⟩,⟨false,45,0,1125899906842624⟩,⟨false,46,0,1⟩]:List Ent)))|.c9 e=>((F_f n).bind λN=>some (.cont ([⟨false,47,1,1048576⟩,⟨false,48,1,2⟩,⟨false,49,1,5⟩,⟨false,50,e.1,e.2.1⟩,⟨false,51,e.2.2.1,e.2.2.2.1⟩,⟨false,52,e.2.2.2.2.1,e.2.2.2.2.2⟩]:List Ent)))|.c10 O=>((F_f n).bind λP=>some (.cont ([⟨false,53,1,1048576⟩,⟨true,0,0,1⟩]:List Ent)))|.c11 Q=>((F_f n).bind λR=>some (.cont []))|.c12 T=>((F_f n).bind λV=>some (.cont ([⟨false,55,0,31⟩,⟨false,56,1,1048576⟩]:List Ent)))|.c13 W=>(some (.done ([],false)))):Option (Ctl (List Ent) ((List Int)×Bool))).bind λi=>match i with|.cont f=>((F_bs n a).bind λX=>(app ([⟨false,3,1,13⟩,⟨false,0,0,31⟩,⟨false,1,1,1048576⟩,⟨false,2,0,1099511627776⟩]:List Ent) f).bind λj=>(F_ds n ({Ul with Ruling:={Ur with Kind:=a.Ruling.Kind:Ruling}:Fact}) 0 a).bind λk=>(iter (F_fk n a b2 j k) n ([],({({Ul with Ruling:={Ur with Kind:=a.Ruling.Kind:Ruling}:Fact})with Kind:=a.Kind:Fact}),0,0):Option (Ctl ((List Int)×Fact×Int) ((List Int)×Bool))).bind λl=>match l with|.cont d=>(((bif (a.Kind != 10)then some ({d.2.1 with Ruling:={d.2.1.Ruling with Kind:=0:Ruling}:Fact})else some d.2.1):Option Fact).bind λg=>some (d.1,(({g with Appeal:={Case:=g.Appeal.Case,Suspends:=(d.2.2==1):Appeal}:Fact})==a)))|.done d=>some d)|.done f=>some f
theorem k_bv(n:Nat)(F:Fact):Kq (F_bv n F) 147 [.agg (Fact.c F)] [] (λr=>.tup [.osl 0 0 r.1.length 1,.bool r.2]) (λr=>[.row 3 1 (map (Qf .i64) r.1)]):=by
 refine Kg 21 func147 Z Z Z Z λr h=>Bd h λb2 M h=>?_;refine Ct b2 [0,1] [1,2,4] Ze (λb2=>[(1,.cells 3 [I b2])]) Zf ?_ (λenv H B=>?_)
 .refine G0 0 Z (Cn Z M (λam M=>?_) (λam M=>?_))
  .exact Gc 3 Z (Cl M [0,1])
  exact Gc 1 Z (Cl M [0,1])
 refine Gx 1 Z (Qd B (Gc 7 Z (Bd h λan a h=>?_)));refine Ct3E (b:=an) (λy=>[(1,.ptr 0 0),(2,.nils),(5,.ptr 1 0),(6,.ptr 2 0)]) (λy=>[.cells 96 (Fact.c F),.cells 96 (Fact.c F),.cells 287 [.osl 3 0 y.length 3,.any],.ents 297 1 4 y,.cells 3 [I b2]]) ?_ (λy env H hb B=>?_)
 .refine Gc 1 Z (Bd a λao aa a=>?_);refine Qo [2,1] (OpC.fn call202 Z Z Z) (k_bo _ _ _ _ aa) ?_;intro ra rH w;rcases ao with bl|bm|bn|bo|bp|bq|br|bs|bt|bu|bv|bw|bx|bz
  .obtain⟨rfl,rfl⟩:=w;refine FE Z (TE 3 2 1 Z Z (FE Z (Go 15 Z (Cz [] a (k_f _) Z λca aw a=>Go 6 Z ?_))));cases a;refine Qq Z ?_;refine En (QZ (i:=5) (m:=1) Z) ?_;exact Lr [0,2,5,3,1]
  .obtain⟨rfl,rfl⟩:=w;refine FE Z (TE 3 2 1 Z Z (FE Z (Go 15 Z (Cz [] a (k_f _) Z λcb ax a=>Go 6 Z ?_))));cases a;refine Qq Z ?_;refine En (QZ (i:=5) (m:=1) Z) ?_;exact Lr [0,2,5,3,1]
  .obtain⟨rfl,rfl⟩:=w;refine FE Z (TE 3 2 1 Z Z (FE Z (Go 15 Z (Cz [] a (k_f _) Z λcc ay a=>Go 6 Z ?_))));cases a;refine Qq Z ?_;refine En (QZ (i:=5) (m:=1) Z) ?_;exact Lr [0,2,5,3,1]
  .obtain⟨rfl,rfl⟩:=w;refine FE Z (TE 3 2 1 Z Z (FE Z (Go 15 Z (Cz [4,2] a (k_hr _ _) Z λcd az a=>Go 4 Z (Cn Z a (λab a=>?_) (λab a=>?_))))))
   .refine Gc 7 Z ?_;cases a;refine Qu (Gx 1 Z ?_);obtain rfl:=Oi h;refine R2 2 3 Z Z ?_;refine En (Er (s:=2) (k:=1) (t:=3) (XQ Z) Z) ?_;exact Lr [7]
   refine Gc 1 Z ?_;cases a;refine Qq Z ?_;refine En (QZ (i:=6) (m:=1) Z) ?_;exact Lr [0,2,6,3,1]
  .obtain⟨rfl,rfl⟩:=w;refine FE Z (TE 3 2 1 Z Z (FE Z (Go 15 Z (Cz [4,2] a (k_hu _ _) Z λce ba a=>Go 4 Z (Cn Z a (λac a=>?_) (λac a=>?_))))))
   .refine Gc 7 Z ?_;cases a;refine Qu (Gx 1 Z ?_);obtain rfl:=Oi h;refine R2 2 3 Z Z ?_;refine En (Er (s:=2) (k:=1) (t:=3) (XQ Z) Z) ?_;exact Lr [7]
   refine Gc 1 Z ?_;cases a;refine Qq Z ?_;refine En (QZ (i:=6) (m:=1) Z) ?_;exact Lr [0,2,6,3,1]
  .obtain⟨rfl,rfl⟩:=w;refine FE Z (TE 3 2 1 Z Z (FE Z (Go 15 Z (Cz [4,2] a (k_ie _ _) Z λcf bb a=>Go 4 Z (Cn Z a (λad a=>?_) (λad a=>?_))))))
   .refine Gc 7 Z ?_;cases a;refine Qu (Gx 1 Z ?_);obtain rfl:=Oi h;refine R2 2 3 Z Z ?_;refine En (Er (s:=2) (k:=1) (t:=3) (XQ Z) Z) ?_;exact Lr [7]
   refine Gc 1 Z ?_;cases a;refine Qq Z ?_;refine En (QZ (i:=6) (m:=1) Z) ?_;exact Lr [0,2,6,3,1]
  .obtain⟨rfl,rfl⟩:=w;refine FE Z (TE 3 2 1 Z Z (FE Z (Go 15 Z (Cz [4,2] a (k_hy _ _) Z λcg bc a=>Go 4 Z (Cn Z a (λae a=>?_) (λae a=>?_))))))
   .refine Gc 7 Z ?_;cases a;refine Qu (Gx 1 Z ?_);obtain rfl:=Oi h;refine R2 2 3 Z Z ?_;refine En (Er (s:=2) (k:=1) (t:=3) (XQ Z) Z) ?_;exact Lr [7]
   refine Gc 1 Z ?_;cases a;refine Qq Z ?_;refine En (QZ (i:=6) (m:=1) Z) ?_;exact Lr [0,2,6,3,1]
  .obtain⟨rfl,rfl⟩:=w;refine FE Z (TE 3 2 1 Z Z (FE Z (Go 15 Z (Cz [] a (k_f _) Z λch bd a=>Go 6 Z ?_))));cases a;refine Qq Z ?_;refine En (QZ (i:=5) (m:=1) Z) ?_;exact Lr [0,2,5,3,1]
  .obtain⟨rfl,rfl⟩:=w;refine FE Z (TE 3 2 1 Z Z (FE Z (Go 15 Z (Cz [] a (k_f _) Z λci be a=>Go 6 Z ?_))));cases a;refine Qq Z ?_;refine En (QZ (i:=5) (m:=1) Z) ?_;exact Lr [0,2,5,3,1]
  .obtain⟨rfl,rfl⟩:=w;refine FE Z (TE 3 2 1 Z Z (FE Z (Go 15 Z (Cz [] a (k_f _) Z λcj bf a=>Go 6 Z ?_))));cases a;refine Qq Z ?_;refine En (QZ (i:=5) (m:=1) Z) ?_;exact Lr [0,2,5,3,1]
  .obtain⟨rfl,rfl⟩:=w;refine FE Z (TE 3 2 1 Z Z (FE Z (Go 15 Z (Cz [] a (k_f _) Z λck bg a=>Go 6 Z ?_))));cases a;refine Qq Z ?_;refine En (QZ (i:=5) (m:=1) Z) ?_;exact Lr [0,2,5,3,1]
  .obtain⟨rfl,rfl⟩:=w;refine FE Z (Go 15 Z (Cz [] a (k_f _) Z λcl bh a=>Go 6 Z ?_));cases a;refine Qq Z ?_;refine En (QZ (i:=4) (m:=1) Z) ?_;refine En (Le.phantomE (i:=4) (m:=0) (t:=297) (b1:=2) (b2:=1) Z Z Z) ?_;exact Lr [0,2,4,5,1]
  .obtain⟨rfl,rfl⟩:=w;refine FE Z (TE 3 2 1 Z Z (FE Z (Go 15 Z (Cz [] a (k_f _) Z λcm bi a=>Go 6 Z ?_))));cases a;refine Qq Z ?_;refine En (QZ (i:=5) (m:=1) Z) ?_;exact Lr [0,2,5,3,1]
  .obtain⟨rfl,rfl⟩:=w;refine FE Z (Go 28 Z ?_);cases a;refine Qu (Gx 1 Z ?_);obtain rfl:=Oi h;refine R2 2 3 Z Z ?_;refine En (Er (s:=2) (k:=1) (t:=3) (XQ Z) Z) ?_;exact Lr [5]
 subst hb;refine Gx 1 Z (Qd B (Gc 12 Z (DAs 3 0 [1,3,3] (by kernel_rfl) ?_)));obtain⟨cn,af,h⟩:=Yl h;refine DA.op (x:=.osl 6 0 4 3) (H1:=[.cells 96 (Fact.c F),.cells 96 (Fact.c F),.cells 287 [.osl 3 0 y.length 3,.any],.ents 297 1 4 y,.cells 3 [I b2],.cells 96 (Fact.c Ul),.rowr 297 3 [[.ptr 1 3,I 1,I 13],[.ptr 1 0,I 0,I 31],[.ptr 1 1,I 1,I 1048576],[.ptr 1 2,I 0,I 1099511627776]]]) ?_ ?_
 .refine Qo [1] (OpC.fn call204 Z Z Z) (k_bs _ _ _ af) ?_;rintro _ _ ⟨rfl,rfl⟩;exact FE Z Wp
 refine Db 1 Z ?_;refine DB.wo2 (x:=.osl 3 0 y.length 3) (Ld isAgg285 Z Wp) (Ld isAgg285 Z Wp) ?_;refine DB.done Z (TE 6 1 4 Z Z (FE Z (Bd h λaq ag h=>?_)));refine vH (Qha (i:=6) (j:=3) ag Jw Ga Z) ?_;refine FE Z (Go 22 Z (Cd [5,8,0] h (k_ds _ _ _ _) Z λar bj h=>FE Z (Go 11 Z (Bd h λau ah h=>?_))));refine Jk (b:=au) [0,1,2,3] [1] (λg=>[(2,.osl 1 0 g.1.length 1),(7,.ptr 2 0),(10,.ptr 3 0)]) (λg=>[(1,.row 3 1 (map (Qf .i64) g.1)),(2,.cells 96 (Fact.c g.2.1)),(3,.cells 3 [I g.2.2])]) Zf ?_ (λg env H av B=>?_)
 .refine G0 1 Z ?_;refine Lp [0,0,5,8,9,7,1,4] [1,7,10,11,42,43] (λl=>[(2,.osl 1 0 l.1.length 1),(44,I l.2.2.2)]) (λl=>[(1,.row 3 1 (map (Qf .i64) l.1)),(2,.cells 96 (Fact.c l.2.1)),(3,.cells 3 [I l.2.2.1]),(4,.ents 297 2 3 ar),(5,.ents 297 6 7 aq)]) ah Zf ?_ ?_
  .refine En (Er (s:=2) (k:=1) (t:=3) (XQ Z) Z) ?_;exact Lr [0,10,5,8,9,7,1,4]
  intro l bk d G;refine G0 6 Z (Yk Z d (λO d=>?_) (λO d=>?_))
  .refine Gc 2 Z (Qk d ?_);obtain rfl:=Oj G d;exact Gx 1 Z (Qq Z (Lr [0,1,2,3]))
  refine Gc 7 Z (Bd d λz he106 d=>?_);refine vX (.ptr 5 (toNat l.2.2.2*3)) (Qv he106 Z Ga GC) ?_;refine vX (.agg [QhQ 6 7 z,I z.lo,I z.hi]) (QD Z isAgg297 GC Z (Pts.ents (f:=0) (Qam he106).2) Z Z) ?_;refine Go 7 Z (DSs 16 Z (D 2 Z ?_));refine DS.wo (x:=QhQ 6 7 z) ?_ ?_
  .exact S Z Wp
  obtain⟨ai,P,d⟩:=Yl d;refine DS.v (x:=(I ai)) (Qcs P EF) ?_;refine D 5 Z (Qas 8 d Z Z Z (λQ d=>?_) (λQ d=>?_))
  .refine D 7 Z (Eg Z (Go 15 Z (Qy d ?_)));obtain rfl:=Oj G d;refine Gx 1 Z (Qu (Gx 1 Z ?_));obtain rfl:=Oi h;refine R2 2 3 Z Z ?_;refine En (Er (s:=2) (k:=1) (t:=3) (XQ Z) Z) ?_;exact Lr [9]
  .refine D 2 Z ?_;refine DS.wo (x:=QhQ 6 7 z) ?_ ?_
   .exact Sg (gT Z) Z Wp
   obtain⟨aj,R,d⟩:=Yl d;refine DS.v (x:=(I aj)) (Qcs R EF) ?_ (hg:=(gT Z));refine D 3 Z (Eg Z (Go 4 Z (Cn Z d (λT d=>?_) (λT d=>?_))))
   .refine Gc 10 Z (Qy d ?_);obtain rfl:=Oj G d;refine Gx 1 Z (Qu (Gx 1 Z ?_));obtain rfl:=Oi h;refine R2 2 3 Z Z ?_;refine En (Er (s:=2) (k:=1) (t:=3) (XQ Z) Z) ?_;exact Lr [9]
   refine Gc 3 Z (DSs 9 Z (D 2 Z ?_));obtain⟨ak,he111,d⟩:=Yl d;refine DS.v (x:=(.ptr 4 (toNat l.2.2.2*3))) (Qv he111 Z Ga GC) ?_;refine DS.wo (x:=.ptr 4 (toNat l.2.2.2*3)) ?_ ?_
   .exact Fp Qm6 Z Wp
   refine DS.v (x:=(QhQ 2 3 ak)) (Ey Z isAgg291 Z (Pts.ents (f:=0) (Qam he111).2)) ?_;refine D 2 Z ?_;refine DS.wo (x:=QhQ 6 7 z) ?_ ?_
   .exact S Z Wp
   obtain⟨al,V,d⟩:=Yl d;refine DS.v (x:=(I al)) (Qcs V EF) ?_;refine Eg Z (S Z (Bd d λJ hq113 d=>?_));refine vU (Qkd (c:=Fact.c) (f:=l.2.1) (f':=J.1) (s':=J.2) hq113 Qph ED) ?_;refine QdV (H:=[_,_,.cells 96 (Fact.c J.1),.cells 3 [I J.2],_,_,_,_,_]) Z ?_;refine Go 6 Z (S Z (Bd d λL W d=>?_));refine vX (I L) (Qcs W EF) ?_;refine vH (Ek (xs:=[.tmp 81]) (es:=map (Qf .i64) [L]) Qz Z Z Z Z Z ⟨Z,trivial⟩ Z Z) ?_;refine aV (.osl 9 0 ([L].length) 1) [_,_,_,_,_,_,_,_,_,.row 3 1 (map (Qf .i64) [L])] Z Z ?_;refine Bd d λN X d=>?_;refine vH (Qp (e:=(Qf .i64)) X Qz EA (QU (i:=9))) ?_;refine aV (.osl 10 0 N.length 1) [_,.dead,_,_,_,_,_,_,_,_,.row 3 1 (map (Qf .i64) N)] Z Z ?_;exact Go 8 Z (Qj d (Lr [0,10,2,3,4,5,6,7]))
 subst av;refine Gx 1 Z (Qd B (Gc 8 Z (Bd h λu E h=>?_)));refine Ct u [0,1,2,3] [1,2,7,10] Ze (λu=>[(2,.cells 96 (Fact.c u))]) Zf ?_ (λenv H B=>?_)
 .refine G0 0 Z (Cn Z E (λY E=>?_) (λY E=>?_))
  .exact Gc 5 Z (Cl E [0,1,2,3])
  exact Gc 1 Z (Cl E [0,1,2,3])
 refine Gx 1 Z (Qd B (Gc 10 Z ?_));refine TC.draw0 5 [94,95,96,97,2] [.osl 1 0 g.1.length 1,.agg (Fact.c ({u with Appeal:={Case:=u.Appeal.Case,Suspends:=(g.2.2==1):Appeal}:Fact})),.agg (Fact.c F),.bool (({u with Appeal:={Case:=u.Appeal.Case,Suspends:=(g.2.2==1):Appeal}:Fact})==F),.osl 1 0 g.1.length 1] draws Z Z Z ?_ ?_
 .refine Oq.c ?_ (ov (ov (Oq.c ?_ (ov (Oq.n)))))
  .refine Om Z (sP 4 sN) ?_;exact S Z Wp
  .refine Om Z (sD 1 (sD 2 sN)) ?_;refine vX (.bool (({u with Appeal:={Case:=u.Appeal.Case,Suspends:=(g.2.2==1):Appeal}:Fact})==F)) (Qd2 (p:={u with Appeal:={Case:=u.Appeal.Case,Suspends:=(g.2.2==1):Appeal}:Fact}) (q:=F) QhP Z Z) ?_;exact Wp
 refine Go 4 Z ?_;obtain rfl:=Oi h;exact R2 2 3 Z Z (Lr [1])
def F_hc(n:Nat)(a:Fact):Option Int:=(F_bv n a).bind λd=>(bif (!d.2)then some 120 else some 0)
theorem k_hc(n:Nat)(a:Fact):Ks (F_hc n a) 79 [.agg (Fact.c a)] [] (λr=>I r):=by
 refine Kg 10 func79 Z Z Z Z λr h=>Cd [] h (k_bv _ _) Z λf e h=>FE Z (Go 13 Z (Cn Z h (λd h=>?_) (λd h=>?_)))
 .exact Gc 7 Z (Rt h 2 [])
 exact Gc 8 Z (Rt h 2 [])
def F_bj(n:Nat)(a:Fact)(d:Int):Option Bool:=((bif (a.Kind != d)then some true else(F_hc n a).bind λe=>some (e != 0)):Option Bool).bind λf=>some f
theorem k_bj(n:Nat)(e:Fact)(f:Int):Ks (F_bj n e f) 78 [.agg (Fact.c e),.ptr 0 0] [.cells 3 [I f]] (λr=>.bool r):=by
 refine Kg 7 func78 Z Z Z Z λr h=>Bd h λd a h=>?_;refine Ct d [0] [] (λd=>[(3,.bool d)]) Ze Zf ?_ (λenv H g=>?_)
 .refine G0 6 Z (Is 8 a Z (λi a=>?_) (λi a=>?_))
  .exact Go 6 Z (Cl a [0])
  .exact Go 1 Z (Cz [] a (k_hc _ _) Z λk j a=>Go 4 Z (Cl a [0]))
 exact Gx 1 Z (Qd g (Gc 1 Z (Rt h 3 [0])))
def F_kq(n:Nat)(d:List Fact)(g:Int)(a:Int):Option (Ctl Int (Ctl Unit Int)):=(bif decide (a<(d.length:Int))then(idx d a).bind λe=>(F_bj n e g).bind λf=>(bif f then some (.done (.done a))else some (.cont (i64.wrap (a+1))))else some (.done (.cont ())))
def F_gz(n:Nat)(e:List Fact)(f:Int):Option Int:=(iter (F_kq n e f) n 0:Option (Ctl Unit Int)).bind λd=>match d with|.cont a=>(some (-1))|.done a=>some a
theorem k_gz(n:Nat)(g:List Fact)(k:Int):Ks (F_gz n g k) 146 [.osl 0 0 g.length 57,.fn (.func 78) [] [.ptr 1 0]] [.row 96 57 (map Fact.c g),.cells 3 [I k]] (λr=>I r):=by
 refine Kg 13 func146 Z Z Z Z λr h=>Bd h λl m h=>?_;refine Jk (b:=l) [0,1] [] Ze Ze Zf ?_ (λt env H p q=>?_)
 .refine G0 1 Z ?_;refine Lp [0,1] [0,1,7] (λd=>[(8,I d)]) Ze m Zf (Lr [0,1]) λd w a e=>?_;refine G0 6 Z (Yk Z a (λi a=>?_) (λi a=>?_))
  .refine Gc 2 Z (Qk a ?_);obtain rfl:=Oj e a;exact Gx 1 Z (Qq Z (Lr [0,1]))
  refine Gc 15 Z (Bd a λs f a=>?_);refine vX (.ptr 0 (toNat d*57)) (Qv f Z EB EC) ?_;refine vX (.agg (Fact.c s)) (QD Z EO EC Z (Qm f) Z Z) ?_;refine Cz [1] a (k_bj _ _ _) Z λx u a=>Go 2 Z (Cn Z a (λj a=>?_) (λj a=>?_))
  .refine Gc 9 Z (Qy a ?_);obtain rfl:=Oj e a;exact Gx 1 Z (Qu (Gx 1 Z (Rt h 4 [0,1])))
  exact Gc 7 Z (Qj a (Lr [0,1]))
 subst p;exact Gx 1 Z (Qd q (Gc 6 Z (Rt h 4 [0,1])))
def F_km(n:Nat)(h:Int)(a:(List Fact)×Int×Int):Option (Ctl ((List Fact)×Int×Int) ((List Fact)×Int)):=(bif decide (a.2.2<(a.1.length:Int))then(idx a.1 a.2.2).bind λd=>(F_bj n d h).bind λf=>((bif (!f)then(idx a.1 a.2.1).bind λi=>(Qbo a.1 a.2.1 d).bind λg=>some (g,i64.wrap (a.2.1+1))else some (a.1,a.2.1)):Option ((List Fact)×Int)).bind λe=>some (.cont (e.1,e.2,i64.wrap (a.2.2+1)))else some (.done (a.1,a.2.1)))
def F_dq(n:Nat)(d:List Fact)(f:Int):Option (List Fact):=(F_gz n d f).bind λe=>(bif (e==(-1))then some d else(iter (F_km n f) n (d,e,i64.wrap (e+1)):Option ((List Fact)×Int)).bind λa=>(slc a.1 0 a.2).bind λg=>some g)
theorem k_dq(n:Nat)(y:List Fact)(w:Int):Kq (F_dq n y w) 76 [.osl 0 0 y.length 57,.fn (.func 78) [] [.ptr 1 0]] [.row 96 57 (map Fact.c y),.cells 3 [I w]] (λr=>.osl 0 0 r.length 57) (λr=>[.row 96 57 (map Fact.c r),.cells 3 [I w]]):=by
 refine Kg 9 func76 Z Z Z Z λr h=>Cz [0,1] h (k_gz _ _ _) Z λR M h=>Go 10 Z (Cn Z h (λF h=>?_) (λF h=>?_))
 .exact Gc 8 Z (Rt h 4 [0,1])
 refine Gc 10 Z (Bd h λa G h=>?_);refine Ct a [0,1] [] (λa=>[(0,.osl 0 0 a.1.length 57),(5,I a.2)]) (λa=>[(0,.row 96 57 (map Fact.c a.1))]) Zf ?_ (λenv H q=>?_)
 .refine G0 1 Z ?_;refine Lp [0,1] [1] (λi=>[(0,.osl 0 0 i.1.length 57),(5,I i.2.1),(6,I i.2.2)]) (λi=>[(0,.row 96 57 (map Fact.c i.1))]) G Zf (Lr [0,1]) λi N d z=>?_;refine G0 9 Z (Yk Z d (λB d=>?_) (λB d=>?_))
  .refine Gc 2 Z (Qk d ?_);obtain rfl:=Oj z d;exact Gx 1 Z (QF (Lr [0,1]))
  refine Gc 8 Z (Bd d λJ t d=>?_);refine vX (.ptr 0 (toNat i.2.2*57)) (Qv t Z EB EC) ?_;refine vX (.agg (Fact.c J)) (QD Z EO EC Z (Qm t) Z Z) ?_;refine Go 8 Z (Cz [1] d (k_bj _ _ _) Z λO L d=>Go 3 Z (Bd d λm g d=>?_));refine Ct m [0,1] [1,6] (λm=>[(0,.osl 0 0 m.1.length 57),(5,I m.2)]) (λm=>[(0,.row 96 57 (map Fact.c m.1))]) Zf ?_ (λenv H q=>?_)
  .refine G0 0 Z (Cn Z g (λE g=>?_) (λE g=>?_))
   .refine Gc 5 Z (Bd g λP u g=>?_);refine vX (.ptr 0 (toNat i.2.1*57)) (Qv u Z EB EC) ?_;refine Bd g λQ j g=>?_;refine vU (YV (e:=Fact.c) (k:=57) (f:=0) u j EC Z Z) ?_;refine FE Z ?_;refine QG (QC (s:=0) Z (congrArg (λn=>A.osl 0 0 n 57) (Q5 j))) ?_;refine QG (QC (s:=17) Z (congrArg (λn=>A.osl 0 0 n 57) (Q5 j))) ?_;refine QG (QC (s:=22) Z (congrArg (λn=>A.osl 0 0 n 57) (Q5 j))) ?_;refine QG (QC (s:=30) Z (congrArg (λn=>A.osl 0 0 n 57) (Q5 j))) ?_;exact Go 7 Z (Cl g [0,1])
   exact Gc 1 Z (Cl g [0,1])
  exact Gx 2 Z (Qd q (Gc 5 Z (Qj d (Lr [0,1]))))
 refine Gx 1 Z (Qd q (Gc 4 Z (Bd h λx p h=>?_)));refine vX (.osl 0 (0+toNat a.2) (a.1.length-toNat a.2) 57) (Qgd (l:=a.1) p EB EC) ?_;refine vN (Qgh (e:=Fact.c) (l:=a.1) p GG zeroValue96 Z (by simp[QA,Go.Value.cells])) ?_;refine QdV (H:=[.row 96 57 (map Fact.c x),.cells 3 [I w]]) Z ?_;refine Go 6 Z ?_;refine vX (.osl 0 0 x.length 57) (Qge (l:=a.1) p EB EC) ?_;exact Go 4 Z (Rt h 4 [0,1])
def F_bu(n:Nat)(a:Int):Option Unit:=some ()
theorem k_bu(n:Nat)(a:Int):Ks (F_bu n a) 213 [I a] [] (λ_=>.bool (a != a)):=by
 exact Kg 14 func213 Z Z Z Z λr h=>Rt h 2 []
def F_r(n:Nat)(d:Int)(a:Int):Option Int:=(F_bu n d).bind λe=>(F_bu n a).bind λf=>(bif (d != d)then(bif (a != a)then some 0 else some (-1))else(bif (a != a)then some 1 else(bif decide (d<a)then some (-1)else(bif decide (a<d)then some 1 else some 0))))
theorem k_r(n:Nat)(a:Int)(d:Int):Ks (F_r n a d) 150 [I a,I d] [] (λr=>I r):=by
 refine Kg 8 func150 Z Z Z Z λr h=>Cz [] h (k_bu _ _) Z λm k h=>Go 6 Z (Cz [] h (k_bu _ _) Z λp l h=>Go 9 Z (Cn Z h (λe h=>?_) (λe h=>?_)))
 .refine Gc 6 Z (Cn Z h (λf h=>?_) (λf h=>?_))
  .exact Gc 8 Z (Rt h 4 [])
  exact Gc 9 Z (Rt h 4 [])
 refine Gc 8 Z (Cn Z h (λg h=>?_) (λg h=>?_))
 .exact Gc 7 Z (Rt h 4 [])
 refine Gc 10 Z (Cn Z h (λi h=>?_) (λi h=>?_))
 .exact Gc 7 Z (Rt h 4 [])
 refine Gc 10 Z (Cn Z h (λj h=>?_) (λj h=>?_))
 .exact Gc 7 Z (Rt h 4 [])
 exact Gc 8 Z (Rt h 4 [])
def F_fv(n:Nat)(e:List Int)(a:Int):Option (Ctl Int (Ctl Unit Int)):=(bif decide (a<(e.length:Int))then(idx e a).bind λd=>(bif (d != 0)then some (.done (.done d))else some (.cont (i64.wrap (a+1))))else some (.done (.cont ())))
def F_cd(n:Nat)(d:List Int):Option Int:=(iter (F_fv n d) n 0:Option (Ctl Unit Int)).bind λe=>match e with|.cont a=>(some 0)|.done a=>some a
theorem k_cd(n:Nat)(j:List Int):Ks (F_cd n j) 149 [.rsl 1 (map (Qf .i64) j)] [] (λr=>I r):=by
 refine Kg 14 func149 Z Z Z Z λr h=>Lm Z (Go 3 Z (Bd h λm p h=>?_));refine Jk (b:=m) [] [3] Ze Ze Zf ?_ (λq env H k l=>?_)
 .refine G0 1 Z ?_;refine Lp [] [3,6,7] (λe=>[(8,I e)]) Ze p Zf (Lr []) λe s a d=>?_;refine G0 6 Z (Yk Z a (λf a=>?_) (λf a=>?_))
  .refine Gc 2 Z (Qk a ?_);obtain rfl:=Oj d a;exact Gx 1 Z (Qq Z (Lr []))
  refine Gc 6 Z (Bd a λt g a=>Iz g Z (Go 11 Z (Cn Z a (λi a=>?_) (λi a=>?_))))
  .refine Gc 9 Z (Qy a ?_);obtain rfl:=Oj d a;exact Gx 1 Z (Qu (Gx 1 Z (Rt h 2 [])))
  exact Gc 7 Z (Qj a (Lr []))
 subst k;exact Gx 1 Z (Qd l (Gc 7 Z (Rt h 2 [])))
def F_ke(n:Nat)(e:Value)(rec146:Value->Option (Int×Bool))(a:Int×Int):Option (Ctl (Int×Int) (Ctl Int (Int×Bool))):=(bif decide (a.2<(e.L.length:Int))then(idx e.L a.2).bind λf=>(rec146 f).bind λd=>(bif (!d.2)then some (.done (.done (0,false)))else some (.cont ((if a.1<d.1 then d.1 else a.1),i64.wrap (a.2+1))))else some (.done (.cont a.1)))
def B_o(rec146:Value->Option (Int×Bool))(n:Nat)(a:Value):Option (Int×Bool):=((bif (a.S==[])then(bif (a.N==0)then(arr 4 (List.replicate 4 false)).bind λm=>(arr 4 ([false,((a.L.length:Int)==0),((a.L.length:Int)==0),(a.S==[])]:List Bool)).bind λe=>some e else(arr 4 (List.replicate 4 false)).bind λp=>(arr 4 ([false,((a.L.length:Int)==0),false,false]:List Bool)).bind λf=>some f)else(bif (a.N==0)then(arr 4 (List.replicate 4 false)).bind λq=>(arr 4 ([false,false,((a.L.length:Int)==0),(a.S==[])]:List Bool)).bind λg=>some g else(arr 4 (List.replicate 4 false)).bind λr=>(arr 4 ([false,false,false,false]:List Bool)).bind λh=>some h)):Option (List Bool)).bind λi=>((bif decide (a.Kind<1)then some true else(bif decide (3<a.Kind)then some true else(QeD 4 i a.Kind).bind λj=>some (!j))):Option Bool).bind λk=>(bif k then some (0,false)else(bif decide (a.Kind<3)then some (0,true)else(iter (F_ke n a rec146) n (0,0):Option (Ctl Int (Int×Bool))).bind λl=>match l with|.cont d=>(some (i64.wrap (d+1),true))|.done d=>some d))
theorem QdM(rec146:Value->Option (Int×Bool))(s:∀(j:Value) (r:Int×Bool),rec146 j=some r->Csm prog 272 [.agg (Value.c j)] [] (λr=>.tup [I r.1,.bool r.2]) r)(n:Nat)(j:Value)(r:Int×Bool)(h:B_o rec146 n j=some r):Csm prog 272 [.agg (Value.c j)] [] (λr=>.tup [I r.1,.bool r.2]) r:=by
 refine QO func272 Z Z Z ?_;refine G0 8 Z (Bd h λq a h=>?_);refine Ct q [0,0] [1,2] (λ_=>[(4,.ptr 1 0)]) (λq=>[(1,.row 371 1 (map Qa6 q))]) Zf ?_ (λenv H m=>?_)
 .refine G0 5 Z (Is 12 a Z (λQ a=>?_) (λQ a=>?_))
  .refine Go 2 Z (Lm Z (Go 6 Z (Is 21 a Z (λf a=>?_) (λf a=>?_))))
   .refine Go 2 Z (Lm Z (Go 6 Z (Fpg (gT f) QiK Z (Ldg (gT f) isAgg9 Z ?_))));refine vX (.bool (j.S==[])) (Qd1 Z Z Z) ?_ (gT f);refine Pk f Z ?_;refine vV (x:=(.agg (List.flatten (map Qa6 ([false,((j.L.length:Int)==0),((j.L.length:Int)==0),(j.S==[])]:List Bool))))) (JK (n:=4) (k:=1) (zs:=[.bool false,.bool false,.bool false,.bool false]) E5 (ZR.agg (zc ZR.bool (zc ZR.bool (zc ZR.bool (zc ZR.bool ZL.nil))))) Gb Gy Z) ?_;refine vH (Jj (n:=4) (k:=1) (e:=Qa6) (z:=false) E5 (by kernel_rfl) (by kernel_rfl) (by kernel_rfl) Z) ?_;refine FE Z (Bd a λaq R a=>Bd a λaf t a=>?_);obtain⟨J,rfl⟩:=Jz R;refine vU (Ji (e:=Qa6) (l:=(List.replicate 4 false)) (l':=af) J (Qbw t) Zf Z GH Zf Zf (congrArg (λl=>List.flatten (map Qa6 l)) (Jz t).2.symm)) ?_;exact FE Z (Go 1 Z (Cl a [0,1]))
   .refine Go 9 Z (KF f Z (KF f Z (KF f Z (Pk f Z ?_))));refine vV (x:=(.agg (List.flatten (map Qa6 ([false,((j.L.length:Int)==0),false,false]:List Bool))))) (JK (n:=4) (k:=1) (zs:=[.bool false,.bool false,.bool false,.bool false]) E5 (ZR.agg (zc ZR.bool (zc ZR.bool (zc ZR.bool (zc ZR.bool ZL.nil))))) Gb Gy Z) ?_;refine vH (Jj (n:=4) (k:=1) (e:=Qa6) (z:=false) E5 (by kernel_rfl) (by kernel_rfl) (by kernel_rfl) Z) ?_;refine FE Z (Bd a λar T a=>Bd a λag u a=>?_);obtain⟨M,rfl⟩:=Jz T;refine vU (Ji (e:=Qa6) (l:=(List.replicate 4 false)) (l':=ag) M (Qbw u) Zf Z GH Zf Zf (congrArg (λl=>List.flatten (map Qa6 l)) (Jz u).2.symm)) ?_;exact FE Z (Go 1 Z (Cl a [0,1]))
  .refine Go 9 Z (Is 21 a Z (λg a=>?_) (λg a=>?_))
   .refine Go 2 Z (Lm Z (Go 6 Z (Fpg (gT g) QiK Z (Ldg (gT g) isAgg9 Z ?_))));refine vX (.bool (j.S==[])) (Qd1 Z Z Z) ?_ (gT g);refine Pk g Z ?_;refine vV (x:=(.agg (List.flatten (map Qa6 ([false,false,((j.L.length:Int)==0),(j.S==[])]:List Bool))))) (JK (n:=4) (k:=1) (zs:=[.bool false,.bool false,.bool false,.bool false]) E5 (ZR.agg (zc ZR.bool (zc ZR.bool (zc ZR.bool (zc ZR.bool ZL.nil))))) Gb Gy Z) ?_;refine vH (Jj (n:=4) (k:=1) (e:=Qa6) (z:=false) E5 (by kernel_rfl) (by kernel_rfl) (by kernel_rfl) Z) ?_;refine FE Z (Bd a λau V a=>Bd a λah w a=>?_);obtain⟨N,rfl⟩:=Jz V;refine vU (Ji (e:=Qa6) (l:=(List.replicate 4 false)) (l':=ah) N (Qbw w) Zf Z GH Zf Zf (congrArg (λl=>List.flatten (map Qa6 l)) (Jz w).2.symm)) ?_;exact FE Z (Go 1 Z (Cl a [0,1]))
   .refine Go 9 Z (KF g Z (KF g Z (KF g Z (Pk g Z ?_))));refine vX (.agg (List.flatten (map Qa6 ([false,false,false,false]:List Bool)))) (JK (n:=4) (k:=1) (zs:=[.bool false,.bool false,.bool false,.bool false]) E5 (ZR.agg (zc ZR.bool (zc ZR.bool (zc ZR.bool (zc ZR.bool ZL.nil))))) Gb Gy Z) ?_;refine vH (Jj (n:=4) (k:=1) (e:=Qa6) (z:=false) E5 (by kernel_rfl) (by kernel_rfl) (by kernel_rfl) Z) ?_;refine FE Z (Bd a λav W a=>Bd a λai y a=>?_);obtain⟨O,rfl⟩:=Jz W;refine vU (Ji (e:=Qa6) (l:=(List.replicate 4 false)) (l':=ai) O (Qbw y) Zf Z GH Zf Zf (congrArg (λl=>List.flatten (map Qa6 l)) (Jz y).2.symm)) ?_;exact FE Z (Go 1 Z (Cl a [0,1]))
 refine Gx 1 Z (Qd m (Gc 2 Z (Bd h λB i h=>?_)));refine Ct B [0] [1,2] (λB=>[(50,.bool B)]) Ze Zf ?_ (λenv H m=>?_)
 .refine G0 5 Z (Is 39 i Z (λX i=>?_) (λX i=>?_))
  .exact Go 12 Z (Cl i [0])
  .refine Go 5 Z (Is 44 i Z (λY i=>?_) (λY i=>?_))
   .exact Go 7 Z (Cl i [0])
   .refine Go 2 Z (Bd i λaj E i=>?_);refine vX (.ptr 1 (toNat j.Kind*1)) (Qaf (n:=4) (k:=1) (l:=q) E Gb Gy Z) ?_ (gT Z);refine vX (.bool aj) (Ey Z isAgg4 Z (Qm (QaW E).2)) ?_ (gT Z);exact Go 3 Z (Cl i [0])
 refine Gx 1 Z (Qd m (Cn Z h (λaa h=>?_) (λaa h=>?_)))
 .refine Gc 8 Z ?_;obtain rfl:=Oi h;exact R2 2 3 Z Z (Lr [])
 refine Gc 10 Z (Cn Z h (λab h=>?_) (λab h=>?_))
 .refine Gc 8 Z ?_;obtain rfl:=Oi h;exact R2 2 3 Z Z (Lr [])
 refine Gc 7 Z (Lm Z (Go 3 Z (Bd h λak al h=>?_)));refine Jk (b:=ak) [] [] (λF=>[(2,I F)]) Ze Zf ?_ (λF env H am m=>?_)
 .refine G0 1 Z ?_;refine Lp [] [55,56] (λp=>[(2,I p.1),(57,I p.2)]) Ze al Zf (Lr []) λp aw d G=>?_;refine G0 6 Z (Yk Z d (λac d=>?_) (λac d=>?_))
  .refine Gc 2 Z (Qk d ?_);obtain rfl:=Oj G d;exact Gx 1 Z (Qq Z (Lr []))
  refine Gc 6 Z (Bd d λan ad d=>IzE ad (Y0 an) Z (Go 8 Z (Cd [] d (s _) Z λP ao d=>FE Z (Go 14 Z (Cn Z d (λae d=>?_) (λae d=>?_))))))
  .refine Gc 10 Z (Qy d ?_);obtain rfl:=Oj G d;refine Gx 1 Z (Qu (Gx 1 Z ?_));obtain rfl:=Oi h;exact R2 2 3 Z Z (Lr [])
  refine Gc 5 Z ?_;refine vX (I (if p.1<P.1 then P.1 else p.1)) (OpV.max Z Z Z Z) ?_;exact Go 8 Z (Qj d (Lr []))
 subst am;refine Gx 1 Z (Qd m (Gc 9 Z ?_));obtain rfl:=Oi h;exact R2 2 3 Z Z (Lr [])
def F_o:Nat->Value->Option (Int×Bool)
  |0=>λ_=>none
  |n+1=>B_o (F_o n) n
theorem k_o(n:Nat):∀(a:Value) (r:Int×Bool),F_o n a=some r->Csm prog 272 [.agg (Value.c a)] [] (λr=>.tup [I r.1,.bool r.2]) r:=by
  induction n with
  |zero=>intro a r h;cases h
  |succ n ih=>intro a r h;exact QdM _ ih n a r h
def F_jm(n:Nat)(d:Value):Option Int:=(F_o n d).bind λa=>(bif (!a.2)then some 1 else(bif decide (16<a.1)then some 2 else some 0))
theorem k_jm(n:Nat)(a:Value):Ks (F_jm n a) 260 [.agg (Value.c a)] [] (λr=>I r):=by
 refine Kg 9 func260 Z Z Z Z λr h=>Cd [] h (k_o _ _) Z λg f h=>FE Z (Go 16 Z (Cn Z h (λd h=>?_) (λd h=>?_)))
 .exact Gc 8 Z (Rt h 2 [])
 refine Gc 7 Z (Cn Z h (λe h=>?_) (λe h=>?_))
 .exact Gc 8 Z (Rt h 2 [])
 exact Gc 9 Z (Rt h 2 [])
def F_jx(n:Nat):Option Unit:=some ()
theorem k_jx(n:Nat):Kq (F_jx n) 261 [] [] (λ_=>.ptr 0 0) (λ_=>[.cells 364 [.nilf,.fn (.func 273) [] [],.fn (.func 276) [] [],.fn (.func 277) [] [.ptr 1 0]],.cells 352 [.ptr 0 0]]):=by
 refine Kg 2 func261 Z Z Z Z λr h=>S Z (Go 4 Z ?_);refine vX (.agg [.nilf,.nilf,.nilf,.nilf]) (JK (n:=4) (k:=1) (parts:=[]) (zs:=[.nilf,.nilf,.nilf,.nilf]) zeroValue364 (ZR.agg (zc ZR.nilf (zc ZR.nilf (zc ZR.nilf (zc ZR.nilf ZL.nil))))) EL E8 Z) ?_;refine Go 9 Z ?_;refine vX (.ptr 0 1) (Y2 (i:=1) (n:=4) (k:=1) (j:=1) (by decide) Z EL E8 Z) ?_;refine Go 8 Z ?_;refine vX (.ptr 0 2) (Y2 (i:=2) (n:=4) (k:=1) (j:=2) (by decide) Z EL E8 Z) ?_;refine Go 9 Z ?_;refine vX (.ptr 0 3) (Y2 (i:=3) (n:=4) (k:=1) (j:=3) (by decide) Z EL E8 Z) ?_;exact Go 11 Z (Rt h 0 [0,1])
def F_cb(n:Nat)(a:Int):Option Unit:=some ()
theorem k_cb(n:Nat)(a:Int):Ks (F_cb n a) 275 [I a] [] (λ_=>.int .u64 (Qgl .u64 (Qfe .u64 (u64.wrap a) 1) (u64.wrap (Yo .i64 a 63)))):=by
 refine Kg 8 func275 Z Z Z Z λr h=>?_;refine vX (.int .u64 (u64.wrap a)) (Yz Z EI EJ Z) ?_;refine vX (.int .u64 (Qfe .u64 (u64.wrap a) 1)) (OpV.shl Z Z Z (by decide)) ?_;refine Go 1 Z ?_;refine vX (I (Yo .i64 a 63)) (OpV.shr Z Z Z (by decide)) ?_;refine vX (.int .u64 (u64.wrap (Yo .i64 a 63))) (Yz Z EI EJ Z) ?_;refine vX (.int .u64 (Qgl .u64 (Qfe .u64 (u64.wrap a) 1) (u64.wrap (Yo .i64 a 63)))) (OpV.xor Z Z Z) ?_;exact Go 4 Z (Rt h 2 [])
def F_fp(n:Nat)(a:(List Int)×Int):Option (Ctl ((List Int)×Int) ((List Int)×Int)):=(bif decide (128<=a.2)then(app a.1 [orI .u8 (u8.wrap a.2) 128]).bind λd=>some (.cont (d,Yo .u64 a.2 7))else some (.done (a.1,a.2)))
def F_av(n:Nat)(e:List Int)(f:Int):Option (List Int):=(iter (F_fp n) n (e,f):Option ((List Int)×Int)).bind λa=>(app a.1 [u8.wrap a.2]).bind λd=>some d
theorem k_av(n:Nat)(g:List Int)(m:Int):Kq (F_av n g m) 274 [.osl 0 0 g.length 1,.int .u64 m] [.row 5 1 (map (Qf .u8) g)] (λr=>.osl 1 0 r.length 1) (λr=>[.dead,.row 5 1 (map (Qf .u8) r)]):=by
 refine Kg 6 func274 Z Z Z Z λr h=>Bd h λf t h=>?_;refine Ct f [0,0] [] (λf=>[(0,.osl 1 0 f.1.length 1),(1,.int .u64 f.2)]) (λf=>[(0,.dead),(1,.row 5 1 (map (Qf .u8) f.1))]) Zf ?_ (λenv H p=>?_)
 .refine G0 1 Z ?_;refine Lp [0,0] [] (λd=>[(0,.osl 1 0 d.1.length 1),(1,.int .u64 d.2)]) (λd=>[(0,.dead),(1,.row 5 1 (map (Qf .u8) d.1))]) t Zf ?_ ?_
  .refine En (Qd3 (s:=0) (i:=0) Z Z Z) ?_;exact Lr [0,1]
  intro d u a q;refine G0 7 Z (Yk Z a (λj a=>?_) (λj a=>?_))
  .refine Gc 2 Z (Qk a ?_);obtain rfl:=Oj q a;exact Gx 1 Z (QF (Lr [0,1]))
  refine Gc 7 Z ?_;refine vX (.int .u8 (u8.wrap d.2)) (Yz Z EJ EY Z) ?_;refine vX (.int .u8 (orI .u8 (u8.wrap d.2) 128)) (OpV.or Z Z Z) ?_;refine vH (Ek (xs:=[.tmp 12]) (es:=map (Qf .u8) [orI .u8 (u8.wrap d.2) 128]) YG Z Z Z Z Z ⟨Z,trivial⟩ Z Z) ?_;refine FE Z (Bd a λw k a=>?_);refine vH (Qp (e:=(Qf .u8)) k YG EG (QU (i:=2))) ?_;refine FE Z (Go 6 Z ?_);refine vX (.int .u64 (Yo .u64 d.2 7)) (OpV.shr Z Z Z (by decide)) ?_;exact Go 2 Z (Qj a (Lr [0,3]))
 refine Gx 1 Z (Qd p (Gc 4 Z ?_));refine vX (.int .u8 (u8.wrap f.2)) (Yz Z EJ EY Z) ?_;refine vH (Ek (xs:=[.tmp 17]) (es:=map (Qf .u8) [u8.wrap f.2]) YG Z Z Z Z Z ⟨Z,trivial⟩ Z Z) ?_;refine FE Z (Bd h λx l h=>?_);refine vH (Qp (e:=(Qf .u8)) l YG EG (QU (i:=2))) ?_;exact FE Z (Go 4 Z (Rt h 4 [0,3]))
def F_jc(n:Nat)(a:Value):Option (List Int):=(app [] [1]).bind λd=>(F_cb n a.N).bind λf=>(F_av n d (Qgl .u64 (Qfe .u64 (u64.wrap a.N) 1) (u64.wrap (Yo .i64 a.N 63)))).bind λe=>some e
theorem k_jc(n:Nat)(a:Value):Kq (F_jc n a) 273 [.nils,.agg (Value.c a)] [] (λr=>.osl 0 0 r.length 1) (λr=>[.row 5 1 (map (Qf .u8) r)]):=by
 refine Kg 7 func273 Z Z Z Z λr h=>DAs 5 2 [0,0,1,3,3] (by kernel_rfl) (Da 1 Z ?_);refine DA.wo (x:=.rsl 1 (map (Qf .u8) [1])) ?_ ?_
 .refine vH (YE (xs:=[.const (.int .u8 1)]) (es:=map (Qf .u8) [1]) YG Z Z Z Z Z ⟨Z,trivial⟩ Z Z) ?_;exact FE Z Wp
 obtain⟨i,d,h⟩:=Yl h;refine QbH (Qjf (e:=(Qf .u8)) d YG EG Qb8) Z Z (Db 1 Z ?_);refine DB.wo2 (x:=I a.N) (Ld EF Z Wp) (Ld EF Z Wp) ?_;exact DB.done Z (Cz [] h (k_cb _ _) Z λj f h=>Cd [1] h (k_av _ _ _) Z λk g h=>FE Z (Go 4 Z (Rt h 4 [2])))
def F_bh(n:Nat)(d:List Int)(a:Value):Option (List Int):=(app d [1]).bind λe=>(F_cb n a.N).bind λg=>(F_av n e (Qgl .u64 (Qfe .u64 (u64.wrap a.N) 1) (u64.wrap (Yo .i64 a.N 63)))).bind λf=>some f
theorem k_bh(n:Nat)(a:List Int)(d:Value):Kq (F_bh n a d) 273 [.osl 0 0 a.length 1,.agg (Value.c d)] [.row 5 1 (map (Qf .u8) a)] (λr=>.osl 1 0 r.length 1) (λr=>[.dead,.row 5 1 (map (Qf .u8) r)]):=by
 refine Kg 7 func273 Z Z Z Z λr h=>DAs 5 2 [0,0,1,3,3] (by kernel_rfl) (Da 1 Z ?_);refine DA.wo (x:=.rsl 1 (map (Qf .u8) [1])) ?_ ?_
 .refine vH (YE (xs:=[.const (.int .u8 1)]) (es:=map (Qf .u8) [1]) YG Z Z Z Z Z ⟨Z,trivial⟩ Z Z) ?_;exact FE Z Wp
 obtain⟨j,f,h⟩:=Yl h;refine QbH (Qp (e:=(Qf .u8)) f YG EG Qb8) Z Z (Db 1 Z ?_);refine DB.wo2 (x:=I d.N) (Ld EF Z Wp) (Ld EF Z Wp) ?_;exact DB.done Z (Cz [] h (k_cb _ _) Z λk g h=>Cd [2] h (k_av _ _ _) Z λl i h=>FE Z (Go 4 Z (Rt h 4 [0,3])))
def F_ml(n:Nat)(e:Value)(rec155:(List Int)->Value->Option (List Int))(a:(List Int)×Int):Option (Ctl ((List Int)×Int) (List Int)):=(bif decide (a.2<(e.L.length:Int))then(idx e.L a.2).bind λd=>(bif (d.Kind==0)then none else(bif (d.Kind==1)then(F_bh n a.1 d).bind λf=>some (.cont (f,i64.wrap (a.2+1)))else(bif (d.Kind==2)then none else(bif (d.Kind==3)then(rec155 a.1 d).bind λg=>some (.cont (g,i64.wrap (a.2+1)))else none))))else some (.done a.1))
def B_bp(rec155:(List Int)->Value->Option (List Int))(n:Nat)(e:List Int)(a:Value):Option (List Int):=(app e [3]).bind λf=>(F_av n f (u64.wrap (a.L.length:Int))).bind λg=>(iter (F_ml n a rec155) n (g,0):Option (List Int)).bind λd=>some d
theorem QaS(rec155:(List Int)->Value->Option (List Int))(m:∀(l:List Int) (d:Value) (r:List Int),rec155 l d=some r->C prog 277 [.osl 0 0 l.length 1,.agg (Value.c d),.ptr 1 0] [.row 5 1 (map (Qf .u8) l),.cells 352 [.ptr 2 0],.cells 364 [.nilf,.fn (.func 273) [] [],.fn (.func 276) [] [],.fn (.func 277) [] [.ptr 1 0]]] (RQ (λr=>.osl 3 0 r.length 1) (λr=>[.dead,.cells 352 [.ptr 2 0],.cells 364 [.nilf,.fn (.func 273) [] [],.fn (.func 276) [] [],.fn (.func 277) [] [.ptr 1 0]],.row 5 1 (map (Qf .u8) r)]) r))(n:Nat)(l:List Int)(d:Value)(r:List Int)(h:B_bp rec155 n l d=some r):C prog 277 [.osl 0 0 l.length 1,.agg (Value.c d),.ptr 1 0] [.row 5 1 (map (Qf .u8) l),.cells 352 [.ptr 2 0],.cells 364 [.nilf,.fn (.func 273) [] [],.fn (.func 276) [] [],.fn (.func 277) [] [.ptr 1 0]]] (RQ (λr=>.osl 3 0 r.length 1) (λr=>[.dead,.cells 352 [.ptr 2 0],.cells 364 [.nilf,.fn (.func 273) [] [],.fn (.func 276) [] [],.fn (.func 277) [] [.ptr 1 0]],.row 5 1 (map (Qf .u8) r)]) r):=by
 refine QO func277 Z Z Z ?_;refine G0 7 Z (DAs 7 2 [0,0,1,3,3,3,3] (by kernel_rfl) (Da 1 Z ?_));refine DA.wo (x:=.rsl 1 (map (Qf .u8) [3])) ?_ ?_
 .refine vH (YE (xs:=[.const (.int .u8 3)]) (es:=map (Qf .u8) [3]) YG Z Z Z Z Z ⟨Z,trivial⟩ Z Z) ?_;exact FE Z Wp
 obtain⟨Q,B,h⟩:=Yl h;refine QbH (Qp (e:=(Qf .u8)) B YG EG Qb8) Z Z (Db 1 Z ?_);refine DB.wo2 (x:=.rsl 4 (map Value.enc d.L)) (Ld isAgg303 Z Wp) (Ld isAgg303 Z Wp) ?_;refine DB.wo2 (x:=I (d.L.length:Int)) (LnM EV Z Wp) (LnM EV Z Wp) ?_;refine DB.wo2 (x:=.int .u64 (u64.wrap (d.L.length:Int))) ?_ ?_ ?_
 iterate 2 refine vX (.int .u64 (u64.wrap (d.L.length:Int))) (Yz Z EI EJ Z) ?_;exact Wp
 refine DB.done Z (Cd [4] h (k_av _ _ _) Z λR M h=>FE Z (Go 8 Z (Lm Z (Go 3 Z (Bd h λf E h=>?_)))));refine Ct f [0,1,2,3] [] (λf=>[(0,.osl 3 0 f.length 1)]) (λf=>[(3,.row 5 1 (map (Qf .u8) f))]) Zf ?_ (λenv H F=>?_)
 .refine G0 1 Z ?_;refine Lp [0,1,2,5] [2,17,18] (λg=>[(0,.osl 3 0 g.1.length 1),(19,I g.2)]) (λg=>[(3,.row 5 1 (map (Qf .u8) g.1))]) E Zf (Lr [0,1,2,5]) λg N a t=>?_;refine G0 6 Z (Yk Z a (λu a=>?_) (λu a=>?_))
  .refine Gc 2 Z (Qk a ?_);obtain rfl:=Oj t a;exact Gx 1 Z (QF (Lr [0,1,2,3]))
  refine Gc 6 Z (Bd a λp w a=>IzE w (Y0 p) Z (Go 5 Z (DSs 9 Z (D 4 Z (If a (λy a=>?_) (λy a=>?_))))))
  .cases a
  .refine If a (λq a=>?_) (λq a=>?_)
   .refine DS.v (x:=(.ptr 2 1)) (Y2 (i:=p.Kind) (n:=4) (k:=1) (j:=1) q Z EL E8 Z) ?_;exact D 4 Z (Eg Z (Cd [3] a (k_bh _ _ _) Z λO G a=>FE Z (Go 8 Z (Qj a (Lr [0,1,2,5])))))
   .refine If a (λz a=>?_) (λz a=>?_)
    .cases a
    .refine If a (λs a=>?_) (λs a=>?_)
     .refine DS.v (x:=(.ptr 2 3)) (Y2 (i:=p.Kind) (n:=4) (k:=1) (j:=3) s Z EL E8 Z) ?_;exact D 4 Z (Eg Z (Cd [3,1,2] a (m _ _) Z λP J a=>FE Z (Go 8 Z (Qj a (Lr [0,1,2,5])))))
     .cases a
 exact Gx 1 Z (Qd F (Gc 7 Z (Rt h 5 [0,1,2,3])))
def F_bp:Nat->(List Int)->Value->Option (List Int)
  |0=>λ_ _=>none
  |n+1=>B_bp (F_bp n) n
theorem k_bp(n:Nat):∀(a:List Int) (d:Value) (r:List Int),F_bp n a d=some r->C prog 277 [.osl 0 0 a.length 1,.agg (Value.c d),.ptr 1 0] [.row 5 1 (map (Qf .u8) a),.cells 352 [.ptr 2 0],.cells 364 [.nilf,.fn (.func 273) [] [],.fn (.func 276) [] [],.fn (.func 277) [] [.ptr 1 0]]] (RQ (λr=>.osl 3 0 r.length 1) (λr=>[.dead,.cells 352 [.ptr 2 0],.cells 364 [.nilf,.fn (.func 273) [] [],.fn (.func 276) [] [],.fn (.func 277) [] [.ptr 1 0]],.row 5 1 (map (Qf .u8) r)]) r):=by
  induction n with
  |zero=>intro a d r h;cases h
  |succ n ih=>intro a d r h;exact QaS _ ih n a d r h
def F_in(n:Nat)(e:Value)(a:(List Int)×Int):Option (Ctl ((List Int)×Int) (List Int)):=(bif decide (a.2<(e.L.length:Int))then(idx e.L a.2).bind λd=>(bif (d.Kind==0)then none else(bif (d.Kind==1)then(F_bh n a.1 d).bind λf=>some (.cont (f,i64.wrap (a.2+1)))else(bif (d.Kind==2)then none else(bif (d.Kind==3)then(F_bp n a.1 d).bind λg=>some (.cont (g,i64.wrap (a.2+1)))else none))))else some (.done a.1))
def F_db(n:Nat)(a:Value):Option (List Int):=(app [] [3]).bind λe=>(F_av n e (u64.wrap (a.L.length:Int))).bind λf=>(iter (F_in n a) n (f,0):Option (List Int)).bind λd=>some d
theorem k_db(n:Nat)(g:Value):Kq (F_db n g) 277 [.nils,.agg (Value.c g),.ptr 0 0] [.cells 352 [.ptr 1 0],.cells 364 [.nilf,.fn (.func 273) [] [],.fn (.func 276) [] [],.fn (.func 277) [] [.ptr 0 0]]] (λr=>.osl 2 0 r.length 1) (λr=>[.cells 352 [.ptr 1 0],.cells 364 [.nilf,.fn (.func 273) [] [],.fn (.func 276) [] [],.fn (.func 277) [] [.ptr 0 0]],.row 5 1 (map (Qf .u8) r)]):=by
 refine Kg 7 func277 Z Z Z Z λr h=>DAs 7 2 [0,0,1,3,3,3,3] (by kernel_rfl) (Da 1 Z ?_);refine DA.wo (x:=.rsl 1 (map (Qf .u8) [3])) ?_ ?_
 .refine vH (YE (xs:=[.const (.int .u8 3)]) (es:=map (Qf .u8) [3]) YG Z Z Z Z Z ⟨Z,trivial⟩ Z Z) ?_;exact FE Z Wp
 obtain⟨O,y,h⟩:=Yl h;refine QbH (Qjf (e:=(Qf .u8)) y YG EG Qb8) Z Z (Db 1 Z ?_);refine DB.wo2 (x:=.rsl 4 (map Value.enc g.L)) (Ld isAgg303 Z Wp) (Ld isAgg303 Z Wp) ?_;refine DB.wo2 (x:=I (g.L.length:Int)) (LnM EV Z Wp) (LnM EV Z Wp) ?_;refine DB.wo2 (x:=.int .u64 (u64.wrap (g.L.length:Int))) ?_ ?_ ?_
 iterate 2 refine vX (.int .u64 (u64.wrap (g.L.length:Int))) (Yz Z EI EJ Z) ?_;exact Wp
 refine DB.done Z (Cd [3] h (k_av _ _ _) Z λP G h=>FE Z (Go 8 Z (Lm Z (Go 3 Z (Bd h λd z h=>?_)))));refine Ct d [0,1,2] [] (λd=>[(0,.osl 2 0 d.length 1)]) (λd=>[(2,.row 5 1 (map (Qf .u8) d))]) Zf ?_ (λenv H B=>?_)
 .refine G0 1 Z ?_;refine Lp [0,1,4] [2,17,18] (λf=>[(0,.osl 2 0 f.1.length 1),(19,I f.2)]) (λf=>[(2,.row 5 1 (map (Qf .u8) f.1))]) z Zf (Lr [0,1,4]) λf J a q=>?_;refine G0 6 Z (Yk Z a (λs a=>?_) (λs a=>?_))
  .refine Gc 2 Z (Qk a ?_);obtain rfl:=Oj q a;exact Gx 1 Z (QF (Lr [0,1,2]))
  refine Gc 6 Z (Bd a λl t a=>IzE t (Y0 l) Z (Go 5 Z (DSs 9 Z (D 4 Z (If a (λu a=>?_) (λu a=>?_))))))
  .cases a
  .refine If a (λm a=>?_) (λm a=>?_)
   .refine DS.v (x:=(.ptr 1 1)) (Y2 (i:=l.Kind) (n:=4) (k:=1) (j:=1) m Z EL E8 Z) ?_;exact D 4 Z (Eg Z (Cd [2] a (k_bh _ _ _) Z λM E a=>FE Z (Go 8 Z (Qj a (Lr [0,1,4])))))
   .refine If a (λw a=>?_) (λw a=>?_)
    .cases a
    .refine If a (λp a=>?_) (λp a=>?_)
     .refine DS.v (x:=(.ptr 1 3)) (Y2 (i:=l.Kind) (n:=4) (k:=1) (j:=3) p Z EL E8 Z) ?_;exact D 4 Z (Eg Z (Cd [2,0,1] a (k_bp _ _ _) Z λN F a=>FE Z (Go 8 Z (Qj a (Lr [0,1,4])))))
     .cases a
 exact Gx 1 Z (Qd B (Gc 7 Z (Rt h 5 [0,1,2])))
def F_hm(n:Nat)(a:Value):Option ((List Int)×Int):=(F_jm n a).bind λd=>(bif (d != 0)then some ([],d)else(F_jx n).bind λg=>(bif (a.Kind==0)then none else(bif (a.Kind==1)then(F_jc n a).bind λe=>some (e,0)else(bif (a.Kind==2)then none else(bif (a.Kind==3)then(F_db n a).bind λf=>some (f,0)else none)))))
theorem k_hm(n:Nat)(a:Value):Kq (F_hm n a) 214 [.agg (Value.c a)] [] (λr=>.tup [.osl 0 0 r.1.length 1,I r.2]) (λr=>[.row 5 1 (map (Qf .u8) r.1)]):=by
 refine Kg 11 func214 Z Z Z Z λr h=>Cz [] h (k_jm _ _) Z λw p h=>Go 9 Z (Cn Z h (λf h=>?_) (λf h=>?_))
 .refine Gc 9 Z ?_;obtain rfl:=Oi h;refine R2 2 3 Z Z ?_;refine En (Er (s:=2) (k:=1) (t:=5) (XQ Z) Z) ?_;exact Lr [1]
 refine Gc 3 Z (DAs 8 0 [1,3,3,2,2,2,2,3] (by kernel_rfl) ?_);obtain⟨y,g,h⟩:=Yl h;refine DA.op (x:=.ptr 1 0) (H1:=[.cells 305 (Value.c a),.cells 364 [.nilf,.fn (.func 273) [] [],.fn (.func 276) [] [],.fn (.func 277) [] [.ptr 2 0]],.cells 352 [.ptr 1 0]]) ?_ ?_
 .refine Qo [] (OpC.fn call261 Z Z Z) (k_jx _ _ g) ?_;rintro _ _ ⟨rfl,rfl⟩;exact FE Z Wp
 refine Db 1 Z ?_;refine DB.wo2 (x:=I a.Kind) (Ld EF Z Wp) (Ld EF Z Wp) ?_;refine Db 1 Z (If h (λl h=>?_) (λl h=>?_))
 .cases h
 .refine If h (λd h=>?_) (λd h=>?_)
  .refine DB.wo1 (x:=.ptr 1 1) ?_ ?_
   .refine vX (.ptr 1 1) (Y2 (i:=a.Kind) (n:=4) (k:=1) (j:=1) d Z EL E8 Z) ?_;exact Wp
   refine Db 2 Z ?_;refine DB.wo2 (x:=.agg (Value.c a)) ?_ ?_ ?_
   iterate 2 refine vX (.agg (Value.c a)) (QD Z Gs Gl Z (Pts.cells Z Z) Z Z) ?_;exact Wp
   refine DB.done Z (Cd [] h (k_jc _ _) Z λz q h=>FE Z (Go 5 Z ?_));obtain rfl:=Oi h;exact R2 2 3 Z Z (Lr [3])
  .refine If h (λm h=>?_) (λm h=>?_)
   .cases h
   .refine If h (λe h=>?_) (λe h=>?_)
    .refine DB.wo1 (x:=.ptr 1 3) ?_ ?_
     .refine vX (.ptr 1 3) (Y2 (i:=a.Kind) (n:=4) (k:=1) (j:=3) e Z EL E8 Z) ?_;exact Wp
     refine Db 2 Z ?_;refine DB.wo2 (x:=.agg (Value.c a)) ?_ ?_ ?_
     iterate 2 refine vX (.agg (Value.c a)) (QD Z Gs Gl Z (Pts.cells Z Z) Z Z) ?_;exact Wp
     refine DB.done Z (Cd [2,1] h (k_db _ _) Z λB u h=>FE Z (Go 5 Z ?_));obtain rfl:=Oi h;exact R2 2 3 Z Z (Lr [3])
    .cases h
def F_kp(n:Nat)(d:(List Int)×Bool)(a:(List Value)×Int):Option (Ctl ((List Value)×Int) (List Value)):=(bif decide (a.2<(d.1.length:Int))then(idx d.1 a.2).bind λe=>(app a.1 [{Kind:=1,N:=e,S:=[],L:=[]:Value}]).bind λf=>some (.cont (f,i64.wrap (a.2+1)))else some (.done a.1))
def F_by(n:Nat)(f:Fact):Option ((List Int)×Int):=(F_bv n f).bind λd=>(bif (!d.2)then some ([],120)else(iter (F_kp n d) n ([],0):Option (List Value)).bind λe=>(F_hm n ({Kind:=3,N:=0,S:=[],L:=e:Value})).bind λa=>some (a.1,a.2))
theorem k_by(n:Nat)(u:Fact):Kq (F_by n u) 151 [.agg (Fact.c u)] [] (λr=>.tup [.osl 0 0 r.1.length 1,I r.2]) (λr=>[.row 5 1 (map (Qf .u8) r.1)]):=by
 refine Kg 10 func151 Z Z Z Z λr h=>Cd [] h (k_bv _ _) Z λJ B h=>FE Z (Go 14 Z (Cn Z h (λw h=>?_) (λw h=>?_)))
 .refine Gc 8 Z ?_;obtain rfl:=Oi h;refine R2 2 3 Z Z ?_;refine En (Er (s:=2) (k:=1) (t:=5) (XQ Z) Z) ?_;exact Lr [2]
 refine Gc 4 Z ?_;refine vX (.agg [I 3,I 0,.str [],.nils]) (OpV.build (zs:=[I 0,I 0,.str [],.nils]) Gn (zrC Z) Qmz) ?_;refine vH (QbC (v:=(.agg [I 0,I 0,.str [],.nils])) Gn (zrC Z)) ?_;refine FE Z (Go 11 Z (Bd h λf x h=>?_));refine Ct f [0,1] [] (λ_=>[(6,.ptr 0 0)]) (λf=>[(0,.cells 305 [I 3,I 0,.str [],.osl 1 0 f.length 4]),(1,.row 305 4 (map Value.enc f))]) Zf ?_ (λenv H y=>?_)
 .refine G0 1 Z ?_;refine Lp [2,0,1] [6,17,18] (λd=>[(19,I d.2)]) (λd=>[(0,.cells 305 [I 3,I 0,.str [],.osl 1 0 d.1.length 4]),(1,.row 305 4 (map Value.enc d.1))]) x Zf ?_ ?_
  .refine En (QaZ (i:=2) (m:=3) (t:=305) (k:=4) Z Z Z) ?_;exact Lr [2,3,1]
  intro d E a l;refine G0 6 Z (Yk Z a (λp a=>?_) (λp a=>?_))
  .refine Gc 2 Z (Qk a ?_);obtain rfl:=Oj l a;exact Gx 1 Z (QF (Lr [0,1]))
  refine Gc 6 Z (Bd a λj g a=>?_);refine vX (.ptr 2 (toNat d.2*1)) (Qv g Z EA ED) ?_;refine vX (I j) (Ey Z EF Z (Qm g)) ?_;refine Go 8 Z ?_;refine vH (Ek (xs:=[.tmp 26]) (es:=map Value.enc [{Kind:=1,N:=j,S:=[],L:=[]:Value}]) QhR Z Z Z Z Z ⟨Z,trivial⟩ Z Z) ?_;refine FE Z (Bd a λF q a=>?_);refine vH (Qp (e:=Value.enc) q QhR EV (QU (i:=3))) ?_;exact FE Z (Go 9 Z (Qj a (Lr [0,4,2])))
 refine Gx 1 Z (Qd y (Gc 3 Z ?_));refine QG (Qca [(31,_)] Z Z (QnR.cons Z (FzA.agg (Ed (Ee _) (Ed (Ee _) (Ed (Ee _) (Ed Ep (Ej _)))))) QnR.nil) (FzH.cells (Ed (Ee _) (Ed (Ee _) (Ed (Ee _) (Ed Ep (Ej _))))) (Ec (Qap _)))) ?_;refine Cd [] h (k_hm _ _) Z λG z h=>FE Z (Go 7 Z ?_);obtain rfl:=Oi h;exact R2 2 3 Z Z (Lr [2])
def F_jd(n:Nat)(a:List Int)(d:List Int):Option Unit:=some ()
theorem k_jd(n:Nat)(a:List Int)(d:List Int):Ks (F_jd n a d) 152 [.rsl 1 (map (Qf .u8) a),.rsl 1 (map (Qf .u8) d)] [] (λ_=>I (cmpB a d)):=by
 refine Kg 9 func152 Z Z Z Z λr h=>?_;refine vX (I (cmpB a d)) (OpV.cmpB (l:=a) (m:=d) func215 (by kernel_rfl) (by kernel_rfl) (by kernel_rfl) (by kernel_rfl) Qj8.rsl Qj8.rsl) ?_;exact Go 4 Z (Rt h 4 [])
def F_dk(n:Nat)(a:Fact)(d:Fact):Option Int:=(F_r n a.At d.At).bind λh=>(F_r n a.Crew d.Crew).bind λi=>(F_r n a.No d.No).bind λj=>(F_cd n [h,i,j]).bind λe=>(bif (e != 0)then some e else(F_by n a).bind λf=>(F_by n d).bind λg=>(F_jd n f.1 g.1).bind λk=>some (cmpB f.1 g.1))
theorem k_dk(n:Nat)(a:Fact)(d:Fact):Ks (F_dk n a d) 81 [.agg (Fact.c a),.agg (Fact.c d)] [] (λr=>I r):=by
 refine Kg 9 func81 Z Z Z Z λr h=>DSs 14 Z (D 4 Z ?_);refine Dz [] h (k_r _ _ _) Z λf j h=>D 4 Z ?_;refine Dz [] h (k_r _ _ _) Z λg k h=>D 4 Z (Eg Z (Cz [] h (k_r _ _ _) Z λi l h=>?_));refine vH (YE (xs:=[.tmp 14,.tmp 19,.tmp 24]) (es:=map (Qf .i64) [f,g,i]) Qz Z Z Z Z Z ⟨Z,Z,Z,trivial⟩ Z Z) ?_;refine FE Z (Cz [] h (k_cd _ _) Z λt m h=>Go 9 Z (Cn Z h (λe h=>?_) (λe h=>?_)))
 .exact Gc 8 Z (Rt h 4 [])
 exact Gc 5 Z (Cd [] h (k_by _ _) Z λu p h=>FE Z (Go 10 Z (Cd [] h (k_by _ _) Z λw q h=>FE Z (Go 11 Z (Cb h (k_jd _ _ _) Z (lo (lo ln)) λx s h=>Go 4 Z (Rt h 4 []))))))
def F_ce(n:Nat)(a:Fact)(d:Fact):Option Unit:=some ()
theorem k_ce(n:Nat)(a:Fact)(d:Fact):Ks (F_ce n a d) 83 [.agg (Fact.c a),.agg (Fact.c d)] [] (λ_=>.bool (a==d)):=by
 refine Kg 11 func83 Z Z Z Z λr h=>?_;refine vX (.bool (a==d)) (Qd2 (p:=a) (q:=d) QhP Z Z) ?_;exact Go 4 Z (Rt h 4 [])
def F_gl(n:Nat)(h:List Fact)(d:Int)(a:(List Fact)×Int×Int):Option (Ctl ((List Fact)×Int×Int) ((List Fact)×Int)):=(bif decide (a.2.2<((toNat (h.length:Int)-toNat d:Nat):Int))then(QcS a.1 d (h.length:Int) a.2.2).bind λe=>(QcS a.1 d (h.length:Int) (i64.wrap (a.2.2-1))).bind λf=>(F_ce n e f).bind λk=>((bif (!(e==f))then(QcS a.1 d (h.length:Int) a.2.2).bind λi=>(idx a.1 a.2.1).bind λl=>(Qbo a.1 a.2.1 i).bind λj=>some (j,i64.wrap (a.2.1+1))else some (a.1,a.2.1)):Option ((List Fact)×Int)).bind λg=>some (.cont (g.1,g.2,i64.wrap (a.2.2+1)))else some (.done (a.1,a.2.1)))
def F_gb(n:Nat)(d:List Fact)(a:Int):Option (Ctl Int (Ctl Unit (List Fact))):=(bif decide (a<(d.length:Int))then(idx d a).bind λe=>(idx d (i64.wrap (a-1))).bind λf=>(F_ce n e f).bind λi=>(bif (e==f)then(slc d a (d.length:Int)).bind λj=>(iter (F_gl n d a) n (d,a,1):Option ((List Fact)×Int)).bind λg=>(slc g.1 0 g.2).bind λh=>some (.done (.done h))else some (.cont (i64.wrap (a+1))))else some (.done (.cont ())))
def F_cs(n:Nat)(d:List Fact):Option (List Fact):=(bif decide ((d.length:Int)<2)then some d else(iter (F_gb n d) n 1:Option (Ctl Unit (List Fact))).bind λe=>match e with|.cont a=>(some d)|.done a=>some a)
theorem k_cs(n:Nat)(q:List Fact):Kq (F_cs n q) 82 [.osl 0 0 q.length 57,.fn (.func 83) [] []] [.row 96 57 (map Fact.c q)] (λr=>.osl 0 0 r.length 57) (λr=>[.row 96 57 (map Fact.c r)]):=by
 refine Kg 13 func82 Z Z Z Z λr h=>Cn Z h (λad h=>?_) (λad h=>?_)
 .exact Gc 8 Z (Rt h 4 [0])
 refine Gc 8 Z (Bd h λT V h=>?_);refine Jk (b:=T) [0] [0] Ze Ze Zf ?_ (λaf env H ae w=>?_)
 .refine G0 1 Z ?_;refine Lp [0] [0,1] (λg=>[(5,I g)]) Ze V Zf (Lr [0]) λg ai a y=>?_;refine G0 9 Z (Yk Z a (λM a=>?_) (λM a=>?_))
  .refine Gc 2 Z (Qk a ?_);obtain rfl:=Oj y a;exact Gx 1 Z (Qq Z (Lr [0]))
  refine Gc 5 Z (DSs 10 Z (D 3 Z ?_));obtain⟨W,z,a⟩:=Yl a;refine DS.v (x:=(.ptr 0 (toNat g*57))) (Qv z Z EB EC) ?_;refine DS.v (x:=(.agg (Fact.c W))) (QD Z EO EC Z (Qm z) Z Z) ?_;refine D 3 Z ?_;obtain⟨X,B,a⟩:=Yl a;refine DS.v (x:=(.ptr 0 (toNat (i64.wrap (g-1))*57))) (Qv B Z EB EC) ?_;refine DS.v (x:=(.agg (Fact.c X))) (QD Z EO EC Z (Qm B) Z Z) ?_;refine Eg Z (Cz [] a (k_ce _ _ _) Z λaj ag a=>Go 2 Z (Cn Z a (λN a=>?_) (λN a=>?_)))
  .refine Gc 4 Z (Bd a λak O a=>?_);refine vX (.osl 0 (0+toNat g) (toNat (q.length:Int)-toNat g) 57) (YU (l:=q) O EB EC (.inr ⟨_,Z,Z⟩) (.inl ⟨Z,Z⟩)) ?_;refine Go 9 Z (Bd a λj Y a=>?_);refine Ct j [0] [] (λj=>[(0,.osl 0 0 j.1.length 57),(5,I j.2)]) (λj=>[(0,.row 96 57 (map Fact.c j.1))]) Zf ?_ (λenv H w=>?_)
   .refine G0 1 Z ?_;refine Lp [0] [1,6] (λi=>[(0,.osl 0 0 i.1.length 57),(5,I i.2.1),(7,I i.2.2)]) (λi=>[(0,.row 96 57 (map Fact.c i.1))]) Y Zf (Lr [0]) λi al d P=>?_;refine G0 5 Z ?_;refine vX (I ((toNat (q.length:Int)-toNat g:Nat):Int)) (Qje Z Z EB Z) ?_;refine Go 3 Z (Yk Z d (λQ d=>?_) (λQ d=>?_))
    .refine Gc 2 Z (Qk d ?_);obtain rfl:=Oj P d;exact Gx 1 Z (QF (Lr [0]))
    refine Gc 5 Z (DSs 10 Z (D 3 Z ?_));obtain⟨aa,E,d⟩:=Yl d;refine DS.v (x:=(.ptr 0 (toNat (g+i.2.2)*57))) (JJ (l:=i.1) (lo:=g) (hi:=(q.length:Int)) E EB EC) ?_;refine DS.v (x:=(.agg (Fact.c aa))) (QD Z EO EC Z (Qm (Qaz E)) Z Z) ?_;refine D 3 Z ?_;obtain⟨ab,F,d⟩:=Yl d;refine DS.v (x:=(.ptr 0 (toNat (g+i64.wrap (i.2.2-1))*57))) (JJ (l:=i.1) (lo:=g) (hi:=(q.length:Int)) F EB EC) ?_;refine DS.v (x:=(.agg (Fact.c ab))) (QD Z EO EC Z (Qm (Qaz F)) Z Z) ?_;refine Eg Z (Cz [] d (k_ce _ _ _) Z λam ah d=>Go 3 Z (Bd d λp m d=>?_));refine Ct p [0] [1,6,7] (λp=>[(0,.osl 0 0 p.1.length 57),(5,I p.2)]) (λp=>[(0,.row 96 57 (map Fact.c p.1))]) Zf ?_ (λenv H w=>?_)
    .refine G0 0 Z (Cn Z m (λR m=>?_) (λR m=>?_))
     .refine Gc 6 Z (Bd m λac G m=>?_);refine vX (.ptr 0 (toNat (g+i.2.2)*57)) (JJ (l:=i.1) (lo:=g) (hi:=(q.length:Int)) G EB EC) ?_;refine vX (.agg (Fact.c ac)) (QD Z EO EC Z (Qm (Qaz G)) Z Z) ?_;refine Bd m λan J m=>?_;refine vX (.ptr 0 (toNat i.2.1*57)) (Qv J Z EB EC) ?_;refine Bd m λao t m=>?_;refine vU (YV (e:=Fact.c) (k:=57) (f:=0) J t EC Z Z) ?_;refine FE Z ?_;refine QG (QC (s:=0) Z (congrArg (λn=>A.osl 0 0 n 57) (Q5 t))) ?_;refine QG (QC (s:=50) Z (congrArg (λn=>A.osl 0 0 n 57) (Q5 t))) ?_;exact Go 7 Z (Cl m [0])
     exact Gc 1 Z (Cl m [0])
    exact Gx 2 Z (Qd w (Gc 5 Z (Qj d (Lr [0]))))
   refine Gx 1 Z (Qd w (Gc 4 Z (Bd a λL u a=>?_)));refine vX (.osl 0 (0+toNat j.2) (j.1.length-toNat j.2) 57) (Qgd (l:=j.1) u EB EC) ?_;refine vN (Qgh (e:=Fact.c) (l:=j.1) u GG zeroValue96 Z (by simp[QA,Go.Value.cells])) ?_;refine QdV (H:=[.row 96 57 (map Fact.c L)]) Z ?_;refine Go 6 Z ?_;refine vX (.osl 0 0 L.length 57) (Qge (l:=j.1) u EB EC) ?_;refine Go 6 Z (Qy a ?_);obtain rfl:=Oj y a;exact Gx 1 Z (Qu (Gx 1 Z (Rt h 4 [0])))
  exact Gc 8 Z (Qj a (Lr [0]))
 subst ae;exact Gx 1 Z (Qd w (Gc 7 Z (Rt h 4 [0])))
def F_fo(n:Nat)(d:List Fact)(a:Int):Option ((List Fact)×Ctl Int Unit):=(bif decide (a<(d.length:Int))then(idx d a).bind λe=>yl e (some ([],.cont (i64.wrap (a+1))))else some ([],.done ()))
def F_s(n:Nat)(a:List Fact)(d:Int):Option ((List Fact)×Unit):=(F_gf n a).bind λe=>(F_dq n e d).bind λf=>(QbP (λx y=>F_dk n x y) f).bind λg=>(F_cs n g).bind λh=>ap (QbY (F_fo n h) n 0) λi=>some ([],())
theorem k_s(n:Nat)(r:List Fact)(k:Int)(p:(List Fact)×Unit)(h:F_s n r k=some p):QnG prog 75 [.ptr 0 0,.ptr 1 0] [.cells 34 [.rsl 57 (map Fact.c r)],.cells 3 [I k]] (λx=>[.agg (Fact.c x)]) nxL p.1:=by
 obtain⟨xs,u⟩:=p;refine Qjc func75 Z Z Z Z ?_;intro X hE hN;refine Gy0 1 Z (TCy.lf ?_);refine G0 2 Z (Cd [] h (k_gf _ _) Z λT G h=>FE Z (Go 1 Z (Cd [2,1] h (k_dq _ _ _) Z λV J h=>FE Z (Go 2 Z ?_))));refine Gyx 2 Z (TCy.lf ?_);refine G0 2 Z (Bd h λF d h=>?_);refine Qo [2] (OpC.fn call80 Z Z Z) (Qlc (enc:=Fact.c) Qhw d (λx y c h=>k_dk n x y c h) EO EC call81 Zf Z) ?_;rintro _ _ ⟨rfl,rfl⟩;refine FE Z ?_;refine QG (QC (s:=9) Z (congrArg (λn=>A.osl 2 0 n 57) (Qa7 d))) ?_;refine QG (QC (s:=10) Z (congrArg (λn=>A.osl 2 0 n 57) (Qa7 d))) ?_;refine QG (QnQ (i:=0) Z (congrArg (λnz=>Blk.cells 34 [.osl 2 0 nz 57]) (Qa7 d))) ?_;refine Go 1 Z ?_;refine Gyx 2 Z (TCy.lf ?_);refine G0 2 Z ?_;refine QG (QZ (i:=0) (m:=0) Z) ?_;refine QdV (H:=[.cells 34 [.any],.cells 3 [I k],.row 96 57 (map Fact.c F)]) Z ?_;refine Cd [2] h (k_cs _ _) Z λW L h=>FE Z (Go 3 Z ?_);refine Gyx 1 Z ?_;obtain⟨M,t,w,z,B,rfl⟩:=ap_ok h;rw[Vf];refine Qny t (w++[]) [0,1] [0] Ze Ze Zf ?_ (λenv H N=>?_)
 .refine Gy0 1 Z ?_;refine QpG [0,1,2] [0,13,14] (λf=>[(15,I f)]) Ze z Zf (Lr [0,1,2]) λf O P Q a l=>?_;refine Gy0 1 Z (TCy.lf ?_);refine G0 3 Z ?_;refine Gyx 2 Z (TCy.lf ?_);refine G0 0 Z (Yk Z a (λq a=>?_) (λq a=>?_))
  .refine Gc 1 Z ?_;refine Gyx 1 Z ?_;obtain⟨rfl,rfl,rfl⟩:=Oy l a;exact Qpp (Gyx 1 Z (cutYN (Lr [0,1])))
  refine Gc 1 Z ?_;refine Gyx 4 Z (TCy.lf ?_);refine G0 1 Z (Bd a λj g a=>?_);refine vX (.ptr 2 (toNat f*57)) (Qv g Z EB EC) ?_;refine vX (.agg (Fact.c j)) (QD Z EO EC Z (Qm g) Z Z) ?_;refine Go 3 Z ?_;refine Gyx 5 Z ?_;obtain⟨R,E,rfl⟩:=yl_ok a;refine QpE (x:=j) (e:=λx=>.agg (Fact.c x)) hE hN Z Z Z Z ?_ ?_
  .refine Gyo 3 Z (TCy.lf ?_);refine G0 2 Z ?_;refine Gyx 2 Z (TCy.lf ?_);refine G0 4 Z ?_;exact Gyx 0 Z (Qpr E (Lr [0,1,2]))
  .exact Gyo 7 Z (Qpq (Gyx 1 Z (cutYR (⟨.inr Z,.inr ⟨_,Z⟩⟩))))
 cases B;exact⟨.inl Z,.inl Z⟩
def F_al(n:Nat)(a:Int)(g:Int)(d:Course)(e:List (Ua×Bool)):Option (List (Ua×Bool)):=((F_q n d a).bind λh=>(bif h then(idx d.Mats a).bind λi=>some (i.Kind != 1)else some false):Option Bool).bind λj=>(bif j then(some (Yp e ({mat:=a,epoch:=g:Ua}) true)).bind λf=>some f else some e)
theorem k_al(n:Nat)(d:Int)(e:Int)(f:Course)(g:List (Ua×Bool)):Kq (F_al n d e f g) 38 [I d,I e,.ptr 0 0,.ptr 1 0] [.cells 33 (Course.c f),.cells 116 [.map 2],.map (Q7 (λx=>A.agg (Ua.c x)) A.bool g)] (λ_=>.tup []) (λr=>[.cells 33 (Course.c f),.cells 116 [.map 2],.map (Q7 (λx=>A.agg (Ua.c x)) A.bool r)]):=by
 refine Kg 1 func38 Z Z Z Z λr h=>Bd h λi a h=>?_;refine Ct i [0,1,2] [0,1,3] (λi=>[(17,.bool i)]) Ze Zf ?_ (λenv H m=>?_)
 .refine G0 3 Z (Cz [] a (k_q _ _ _) Z λw t a=>Go 1 Z (Is 9 a Z (λp a=>?_) (λp a=>?_)))
  .exact Go 3 Z (Bd a λy q a=>Iz q Z (Go 5 Z (Cl a [0,1,2])))
  .exact Go 9 Z (Cl a [0,1,2])
 refine Gx 1 Z (Qd m (Cn Z h (λs h=>?_) (λs h=>?_)))
 .refine Gc 5 Z (Bd h λu j h=>?_);refine vU (Y8 (ev:=A.bool) (k:=({mat:=d,epoch:=e:Ua})) (v:=true) (l:=g) Qcj j Z GB) ?_;refine FE Z (Go 1 Z ?_);obtain rfl:=Oi h;exact Rx [0,1,2] [] Z (QcI.nil Z) ⟨Z,Z⟩
 refine Gc 1 Z ?_;obtain rfl:=Oi h;exact Rx [0,1,2] [] Z (QcI.nil Z) ⟨Z,Z⟩
def F_es(n:Nat)(a:Ua)(d:Ua):Option Int:=(F_r n a.mat d.mat).bind λe=>(F_r n a.epoch d.epoch).bind λf=>(F_cd n [e,f]).bind λg=>some g
theorem k_es(n:Nat)(a:Ua)(d:Ua):Ks (F_es n a d) 86 [.agg (Ua.c a),.agg (Ua.c d)] [] (λr=>I r):=by
 refine Kg 8 func86 Z Z Z Z λr h=>DSs 9 Z (D 4 Z ?_);refine Dz [] h (k_r _ _ _) Z λe g h=>D 4 Z (Eg Z (Cz [] h (k_r _ _ _) Z λf i h=>?_));refine vH (YE (xs:=[.tmp 9,.tmp 14]) (es:=map (Qf .i64) [e,f]) Qz Z Z Z Z Z ⟨Z,Z,trivial⟩ Z Z) ?_;exact FE Z (Cz [] h (k_cd _ _) Z λk j h=>Go 4 Z (Rt h 4 []))
def F_bg(n:Nat)(a:Segment)(d:Segment):Option Int:=(F_es n ({mat:=a.Mat,epoch:=a.Epoch:Ua}) ({mat:=d.Mat,epoch:=d.Epoch:Ua})).bind λe=>some e
theorem k_bg(n:Nat)(a:Segment)(d:Segment):Ks (F_bg n a d) 42 [.agg (Segment.c a),.agg (Segment.c d)] [] (λr=>I r):=by
 exact Kg 19 func42 Z Z Z Z λr h=>Cz [] h (k_es _ _ _) Z λf e h=>Go 4 Z (Rt h 4 [])
def F_kt(n:Nat)(e:Course)(f:List (Ua×Bool))(a:Fact):Option (Ctl (List (Ua×Bool)) ((List Segment)×Int)):=(F_al n a.Read.Mat a.Read.Epoch e f).bind λd=>some (.cont d)
def F_ku(n:Nat)(d:Course)(e:List (Ua×Bool))(a:Fact):Option (Ctl (List (Ua×Bool)) ((List Segment)×Int)):=(F_al n a.Sync.MatA a.Sync.EpochA d e).bind λf=>(F_al n a.Sync.MatB a.Sync.EpochB d f).bind λg=>some (.cont g)
def F_kv(n:Nat)(h:Course)(d:(List (Ua×Bool))×(List (Ua×Int)))(a:Fact):Option (Ctl ((List (Ua×Bool))×(List (Ua×Int))) ((List Segment)×Int)):=(F_al n a.Beacon.Mat a.Beacon.Epoch h d.1).bind λe=>(some (QL d.2 ({mat:=a.Beacon.Mat,epoch:=a.Beacon.Epoch:Ua}) 0)).bind λi=>((bif (!(QaT d.2 ({mat:=a.Beacon.Mat,epoch:=a.Beacon.Epoch:Ua})))then(some (Yp d.2 ({mat:=a.Beacon.Mat,epoch:=a.Beacon.Epoch:Ua}) a.Beacon.Local)).bind λf=>some f else some d.2):Option (List (Ua×Int))).bind λg=>some (.cont (e,g))
def F_el(n:Nat)(f:(List (Ua×Bool))×(List (Ua×Int)))(g:List Segment)(a:Ua×Bool):Option (Ctl (List Segment) (List Segment)):=(some (QL f.2 a.1 0)).bind λd=>(app g [{Mat:=a.1.mat,Epoch:=a.1.epoch,Anchor:=d:Segment}]).bind λe=>some (.cont e)
def F_hx(n:Nat)(a:List Segment):Option (List Segment):=some a
def F_at(n:Nat)(g:Course)(d:List Fact):Option ((List Segment)×Int):=(F_x n g).bind λi=>(bif (i != 0)then some ([],i)else(F_y n d 2).bind λr=>(F_s n d 2).bind λy4=>(runL (F_kt n g) y4.1 []:Option (Ctl (List (Ua×Bool)) ((List Segment)×Int))).bind λj=>match j with|.cont e=>((F_y n d 4).bind λp=>(F_s n d 4).bind λy19=>(runL (F_ku n g) y19.1 e:Option (Ctl (List (Ua×Bool)) ((List Segment)×Int))).bind λk=>match k with|.cont f=>((F_y n d 3).bind λq=>(F_s n d 3).bind λy37=>(runL (F_kv n g) y37.1 (f,[]):Option (Ctl ((List (Ua×Bool))×(List (Ua×Int))) ((List Segment)×Int))).bind λl=>match l with|.cont a=>(bif decide (511<(a.1.length:Int))then some ([],2)else anyP (λp115=>(QeB (F_el n a) (F_hx n) [] p115).bind λm=>(QbP (λx y=>F_bg n x y) m).bind λh=>some (h,0)) a.1)|.done a=>some a)|.done f=>some f)|.done e=>some e)
theorem k_at(n:Nat)(F:Course)(a2:List Fact):Kq (F_at n F a2) 13 [.agg (Course.c F),.rsl 57 (map Fact.c a2)] [] (λr=>.tup [.osl 0 0 r.1.length 3,I r.2]) (λr=>[.row 36 3 (map Segment.c r.1)]):=by
 refine Kg 11 func13 Z Z Z Z λr h=>Cz [] h (k_x _ _) Z λr1 bb h=>Go 9 Z (Cn Z h (λaf h=>?_) (λaf h=>?_))
 .refine Gc 9 Z ?_;obtain rfl:=Oi h;refine R2 4 5 Z Z ?_;refine En (Er (s:=4) (k:=3) (t:=36) (XQ Z) Z) ?_;exact Lr [1]
 refine Gc 4 Z ?_;refine vH YH ?_;refine FE Z (Go 15 Z (Cd [] h (k_y _ _ _) Z λr3 bc h=>FE Z (Go 3 Z (Bd h λy4 hy4 h=>Bd h λbd ag h=>?_))));refine Qbh [4,5] (λs5=>[.cells 33 (Course.c F),.map (Q7 (λx=>A.agg (Ua.c x)) A.bool s5),.cells 116 [.map 1],.cells 122 [.fn (.func 38) [] [.ptr 0 0,.ptr 2 0]],.dead,.dead]) ag (k_s _ _ _ _ hy4) Zf call75 Z Z Z Z (by decide) Z (Qh5 Z) ?_ ?_
 .intro s5 x6 be G al;refine G0 4 Z (And.intro Z ?_);exact G0 9 Z (Cd [0,2,1] G (k_al _ _ _ _ _) Z λbf am G=>FE Z (Go 2 Z (Qc6 G (Lr [0,1,2,3,4,5]))))
 rintro bg rfl;refine Gx 6 Z (Cd [] h (k_y _ _ _) Z λbh an h=>FE Z (Go 3 Z (Bd h λy19 hy19 h=>Bd h λbi ah h=>?_)));refine Qbh [6,7] (λT=>[.cells 33 (Course.c F),.map (Q7 (λx=>A.agg (Ua.c x)) A.bool T),.cells 116 [.map 1],.cells 122 [.fn (.func 38) [] [.ptr 0 0,.ptr 2 0]],.dead,.dead,.dead,.dead]) ah (k_s _ _ _ _ hy19) Zf call75 Z Z Z Z (by decide) Z (Qh5 Z) ?_ ?_
 .intro T bj bk w ao;refine G0 4 Z (And.intro Z ?_);exact G0 10 Z (Cd [0,2,1] w (k_al _ _ _ _ _) Z λbl aq w=>FE Z (Go 10 Z (Cd [0,2,1] w (k_al _ _ _ _ _) Z λbm ar w=>FE Z (Go 2 Z (Qc6 w (Lr [0,1,2,3,4,5,6,7]))))))
 rintro bn rfl;refine Gx 4 Z ?_;refine vH YH ?_;refine FE Z (Go 8 Z (Cd [] h (k_y _ _ _) Z λbo au h=>FE Z (Go 3 Z (Bd h λy37 hy37 h=>Bd h λbp ai h=>?_))));refine Qbh [10,11] (λm=>[.cells 33 (Course.c F),.map (Q7 (λx=>A.agg (Ua.c x)) A.bool m.1),.cells 116 [.map 1],.cells 122 [.fn (.func 38) [] [.ptr 0 0,.ptr 2 0]],.dead,.dead,.dead,.dead,.map (Q7 (λx=>A.agg (Ua.c x)) (λx=>A.int .i64 x) m.2),.cells 126 [.map 8],.dead,.dead]) ai (k_s _ _ _ _ hy37) Zf call75 Z Z Z Z (by decide) Z (Qh5 Z) ?_ ?_
 .intro m d bq f av;refine G0 4 Z (And.intro Z ?_);refine G0 10 Z (Cd [0,2,1] f (k_al _ _ _ _ _) Z λbr aw f=>FE Z (Go 19 Z (Bd f λaj V f=>?_)));refine vX (.tup [I aj,.bool (QaT m.2 ({mat:=d.Beacon.Mat,epoch:=d.Beacon.Epoch:Ua}))]) (Qkc (ev:=(λx=>A.int .i64 x)) (z0:=0) (k:=({mat:=d.Beacon.Mat,epoch:=d.Beacon.Epoch:Ua})) (l:=m.2) Qcj V Gj EP Eo) ?_;refine Go 13 Z (Bd f λJ g f=>?_);refine Ct J [0,1,2,3,4,5,6,7,8,9,10,11] [] Ze (λJ=>[(8,.map (Q7 (λx=>A.agg (Ua.c x)) (λx=>A.int .i64 x) J))]) Zf ?_ (λenv H L=>?_)
  .refine G0 0 Z (Cn Z g (λW g=>?_) (λW g=>?_))
   .refine Gc 6 Z (Bd g λbs X g=>?_);refine vU (Y8 (ev:=(λx=>A.int .i64 x)) (k:=({mat:=d.Beacon.Mat,epoch:=d.Beacon.Epoch:Ua})) (v:=d.Beacon.Local) (l:=m.2) Qcj X Z Gj) ?_;exact FE Z (Go 1 Z (Cl g [0,1,2,3,4,5,6,7,8,9,10,11]))
   exact Gc 1 Z (Cl g [0,1,2,3,4,5,6,7,8,9,10,11])
  exact Gx 1 Z (Qc6 f (En L (Lr [0,1,2,3,4,5,6,7,8,9,10,11])))
 rintro q rfl;refine Gx 6 Z ?_;refine vX (I (q.1.length:Int)) (QcX (l:=q.1) GB Z) ?_;refine Go 3 Z (Cn Z h (λY h=>?_) (λY h=>?_))
 .refine Gc 8 Z ?_;obtain rfl:=Oi h;refine R2 4 5 Z Z ?_;refine En (Er (s:=4) (k:=3) (t:=36) (XQ Z) Z) ?_;exact Lr [12]
 refine Gc 6 Z ?_;refine vH (OpH.range GB) ?_;refine FE Z (Go 2 Z ?_);have ak:=QoH h;have M:Qjn _ _ _ _ _:=λp hp=>Yl (ak p hp);refine QoL M (λE=>[(4,.osl 0 0 E.length 3)]) (λE=>[.row 36 3 (map Segment.c E)]) ?_ (λE env H N L=>?_)
 .refine G0 1 Z ?_;refine QnA (enc:=(λp=>((λx=>A.agg (Ua.c x)) p.1,A.bool p.2))) (λz=>[(4,.osl 0 0 z.length 3),(10,.ptr 1 0),(89,.ptr 3 0)]) (λz O=>[.row 36 3 (map Segment.c z),.cells 126 [.map 2],.map (Q7 (λx=>A.agg (Ua.c x)) (λx=>A.int .i64 x) q.2),.iter none O]) M ?_ ?_
  .refine En (Er (s:=4) (k:=3) (t:=36) (XQ Z) Z) ?_;exact Lr [13,9,8,12]
  intro z O aa;refine G0 2 Z ?_;refine Qnw (enc:=(λp=>((λx=>A.agg (Ua.c x)) p.1,A.bool p.2))) aa (λax ab ac=>?_) (λa P ay j az ad=>?_)
  .refine Go 7 Z (Qpn ?_);cases ab;exact Gx 1 Z (cutGN ac (Lr [0]))
  refine aV (.tup [.bool true,.agg (Ua.c a.1),.bool a.2]) [.row 36 3 (map Segment.c z),.cells 126 [.map 2],.map (Q7 (λx=>A.agg (Ua.c x)) (λx=>A.int .i64 x) q.2),.iter (some (.agg (Ua.c a.1),.bool a.2)) (map (λp=>((λx=>A.agg (Ua.c x)) p.1,A.bool p.2)) P)] Z Z ?_;refine Go 10 Z ?_;refine vX (.tup [.agg (Ua.c a.1),.bool a.2]) (OpV.entry (e:=(.agg (Ua.c a.1),.bool a.2))) ?_;refine Go 5 Z (DSs 10 Z (D 7 Z ?_));obtain⟨B,Q,j⟩:=Yl j;refine DS.v (x:=(I B)) (Y7 (ev:=(λx=>A.int .i64 x)) (z0:=0) (k:=a.1) (l:=q.2) Qcj Q Gj EP Eo) ?_;refine D 1 Z ?_;refine DS.wo (x:=.rsl 3 (map Segment.c [{Mat:=a.1.mat,Epoch:=a.1.epoch,Anchor:=B:Segment}])) ?_ ?_
  .refine vH (YE (xs:=[.tmp 102]) (es:=map Segment.c [{Mat:=a.1.mat,Epoch:=a.1.epoch,Anchor:=B:Segment}]) Qg2 Z Z Z Z Z ⟨Z,trivial⟩ Z Z) ?_;exact FE Z Wp
  refine Eg Z (Bd j λae R j=>?_);refine vH (Qp (e:=Segment.c) R Qg2 EH Qb8) ?_;refine FE Z (Go 3 Z (Qpo _ _ j ad ?_));refine En (Qma (i:=3) (H':=[.dead,.cells 126 [.map 2],.map (Q7 (λx=>A.agg (Ua.c x)) (λx=>A.int .i64 x) q.2),.iter none (map (λp=>((λx=>A.agg (Ua.c x)) p.1,A.bool p.2)) P),.cells 121 (Ua.c a.1),.row 36 3 (map Segment.c ae)]) Z Z) ?_;exact Lr [5,1,2,3]
 refine Gx 1 Z (Qd L (Gc 3 Z (Bd N λba u N=>?_)));refine Qo [0] (OpC.fn call41 Z Z Z) (Qlc (enc:=Segment.c) Qhx u (λx y c h=>k_bg n x y c h) GK EN call42 Zf Z) ?_;rintro _ _ ⟨rfl,rfl⟩;refine FE Z ?_;refine QG (QC (s:=4) Z (congrArg (λn=>A.osl 0 0 n 3) (Qa7 u))) ?_;refine QG (QC (s:=105) Z (congrArg (λn=>A.osl 0 0 n 3) (Qa7 u))) ?_;refine Go 10 Z ?_;obtain rfl:=Oi N;exact R2 4 5 Z Z (Lr [0])
def F_ba(n:Nat)(a:Int)(d:Int)(e:Int)(f:Int)(g:List Edge):Option (List Edge):=(app g [{From:=a,To:=d,W:=f:Edge},{From:=d,To:=a,W:=i64.wrap (0-e):Edge}]).bind λh=>some h
theorem k_ba(n:Nat)(a:Int)(d:Int)(f:Int)(g:Int)(j:List Edge):Kq (F_ba n a d f g j) 51 [I a,I d,I f,I g,.ptr 0 0] [.cells 49 [.osl 1 0 j.length 3],.row 70 3 (map Edge.c j)] (λ_=>.tup []) (λr=>[.cells 49 [.osl 2 0 r.length 3],.dead,.row 70 3 (map Edge.c r)]):=by
 refine Kg 11 func51 Z Z Z Z λr h=>?_;refine vH (Ek (xs:=[.tmp 13,.tmp 18]) (es:=map Edge.c [{From:=a,To:=d,W:=g:Edge},{From:=d,To:=a,W:=i64.wrap (0-f):Edge}]) Qeq Z Z Z Z Z ⟨Z,Z,trivial⟩ Z Z) ?_;refine FE Z (Bd h λl k h=>?_);refine vH (Qp (e:=Edge.c) k Qeq EZ (QU (i:=2))) ?_;refine FE Z (Go 2 Z ?_);obtain rfl:=Oi h;exact Rx [0,1,3] [] Z (QcI.nil Z) ⟨Z,Z⟩
def F_bd(n:Nat)(e:Int)(f:Int)(a:Int)(h:List Segment)(i:Course)(j:List (Ua×Int)):Option (Int×Span):=(some (QL j ({mat:=e,epoch:=f:Ua}) 0)).bind λd=>((bif decide (0<d)then(idx h (i64.wrap (d-1))).bind λk=>some k else some ({Mat:=e,Epoch:=f,Anchor:=0:Segment})):Option Segment).bind λl=>(F_ap n i l a).bind λg=>some (d,{Lo:=i64.wrap (a+g.Lo),Hi:=i64.wrap (a+g.Hi):Span})
theorem k_bd(n:Nat)(g:Int)(i:Int)(a:Int)(j:List Segment)(m:Course)(f:List (Ua×Int)):Kq (F_bd n g i a j m f) 52 [I g,I i,I a,.ptr 0 0,.ptr 1 0,.ptr 2 0] [.cells 126 [.map 3],.cells 39 [.rsl 3 (map Segment.c j)],.cells 33 (Course.c m),.map (Q7 (λx=>A.agg (Ua.c x)) (λx=>A.int .i64 x) f)] (λr=>.tup [I r.1,.agg [I r.2.Lo,I r.2.Hi]]) (λr=>[.cells 126 [.map 3],.cells 39 [.rsl 3 (map Segment.c j)],.cells 33 (Course.c m),.map (Q7 (λx=>A.agg (Ua.c x)) (λx=>A.int .i64 x) f),.cells 44 [I r.2.Lo,I r.2.Hi]]):=by
 refine Kg 12 func52 Z Z Z Z λr h=>Bd h λp s h=>?_;refine vX (I p) (Y7 (ev:=(λx=>A.int .i64 x)) (z0:=0) (k:=({mat:=g,epoch:=i:Ua})) (l:=f) Qcj s Gj EP Eo) ?_;refine Go 19 Z (Bd h λq d h=>?_);refine Ct q [0,1,2,3,4,5] [2,5,9,10,11] Ze (λq=>[(5,.cells 36 (Segment.c q))]) Zf ?_ (λenv H t=>?_)
 .refine G0 0 Z (Cn Z d (λu d=>?_) (λu d=>?_))
  .exact Gc 4 Z (Bd d λz w d=>Iz w Z (Go 3 Z (Cl d [0,1,2,3,4,5])))
  exact Gc 1 Z (Cl d [0,1,2,3,4,5])
 refine Gx 1 Z (Qd t (Gc 5 Z (Cd [] h (k_ap _ _ _ _) Z λe y h=>FE Z (Go 5 Z ?_))));refine TC.draw0 11 [32,33,34,35,36,37,38,39,40,41,9] [I p,I a,.ptr 7 0,I e.Lo,I (i64.wrap (a+e.Lo)),I a,.ptr 7 1,I e.Hi,I (i64.wrap (a+e.Hi)),.agg [I (i64.wrap (a+e.Lo)),I (i64.wrap (a+e.Hi))],I p] draws Z Z Z ?_ ?_
 .refine Oq.c ?_ (ov (ov (ov (Oq.c ?_ (ov (ov (ov (Oq.c ?_ (ov (ov (Oq.n)))))))))))
  .refine Om Z (sP 10 sN) ?_;exact S Z Wp
  .refine Om Z (sD 1 (sD 3 sN)) ?_;exact S Z Wp
  .refine Om Z (sD 5 (sD 7 sN)) ?_;exact S Z Wp
 refine Go 4 Z ?_;obtain rfl:=Oi h;exact Rx [0,1,2,3,4] [9,10] Z (Qt Z Z (Qka.cons Qev.tmp (Qka.cons (Qg E3 EW Z Z Z) Qka.nil))) ⟨Z,Z⟩
def F_hp(n:Nat)(e:(List Segment)×Int)(a:(List (Ua×Int))×(List Edge)×Int):Option (Ctl ((List (Ua×Int))×(List Edge)×Int) ((List (Ua×Int))×(List Edge))):=(bif decide (a.2.2<(e.1.length:Int))then(idx e.1 a.2.2).bind λd=>(some (Yp a.1 ({mat:=d.Mat,epoch:=d.Epoch:Ua}) (i64.wrap (a.2.2+1)))).bind λf=>(F_ba n 0 (i64.wrap (a.2.2+1)) (-1099511627776) 1099511627776 a.2.1).bind λg=>some (.cont (f,g,i64.wrap (a.2.2+1)))else some (.done (a.1,a.2.1)))
def F_kf(n:Nat)(f:Course)(k:(List Segment)×Int)(g:(List (Ua×Int))×(List Edge))(e:List Edge)(a:Fact):Option (Ctl (List Edge) (Int×(List Edge)×Int)):=(F_q n f a.Beacon.Mat).bind λh=>((bif h then(F_bd n a.Beacon.Mat a.Beacon.Epoch a.Beacon.Local k.1 f g.1).bind λd=>(F_ba n 0 d.1 (i64.wrap ((i64.wrap (a.Beacon.True-a.Beacon.Err))-d.2.Hi)) (i64.wrap ((i64.wrap (a.Beacon.True+a.Beacon.Err))-d.2.Lo)) e).bind λi=>some i else some e):Option (List Edge)).bind λj=>some (.cont j)
def F_ka(n:Nat)(f:Course)(p:(List Segment)×Int)(g:(List (Ua×Int))×(List Edge))(h:List Edge)(a:Fact):Option (Ctl (List Edge) (Int×(List Edge)×Int)):=((F_q n f a.Sync.MatA).bind λi=>(bif i then(F_q n f a.Sync.MatB).bind λj=>some j else some false):Option Bool).bind λk=>((bif k then(F_bd n a.Sync.MatA a.Sync.EpochA a.Sync.LocalA p.1 f g.1).bind λd=>(F_bd n a.Sync.MatB a.Sync.EpochB a.Sync.LocalB p.1 f g.1).bind λe=>(F_ba n d.1 e.1 (i64.wrap ((i64.wrap (a.Sync.Min-e.2.Hi))+d.2.Lo)) (i64.wrap ((i64.wrap (a.Sync.Max-e.2.Lo))+d.2.Hi)) h).bind λl=>some l else some h):Option (List Edge)).bind λm=>some (.cont m)
def F_as(n:Nat)(h:Course)(e:List Fact):Option (Int×(List Edge)×Int):=(F_at n h e).bind λd=>(bif (d.2 != 0)then some (0,[],d.2)else(iter (F_hp n d) n ([],[],0):Option ((List (Ua×Int))×(List Edge))).bind λf=>(F_y n e 3).bind λk=>(F_s n e 3).bind λy29=>(runL (F_kf n h d f) y29.1 f.2:Option (Ctl (List Edge) (Int×(List Edge)×Int))).bind λj=>match j with|.cont g=>((F_y n e 4).bind λl=>(F_s n e 4).bind λy68=>(runL (F_ka n h d f) y68.1 g:Option (Ctl (List Edge) (Int×(List Edge)×Int))).bind λi=>match i with|.cont a=>(bif decide (8192<(a.length:Int))then some (0,[],2)else some (i64.wrap ((d.1.length:Int)+1),a,0))|.done a=>some a)|.done g=>some g)
theorem k_as(n:Nat)(F:Course)(N:List Fact):Kq (F_as n F N) 18 [.agg (Course.c F),.rsl 57 (map Fact.c N)] [] (λr=>.tup [.agg [I r.1,.rsl 3 (map Edge.c r.2.1)],I r.2.2]) (λr=>[.cells 51 [I r.1,.rsl 3 (map Edge.c r.2.1)]]):=by
 refine Kg 11 func18 Z Z Z Z λr h=>Cd [] h (k_at _ _ _) Z λu az h=>FE Z (Go 15 Z (Cn Z h (λY h=>?_) (λY h=>?_)))
 .refine Gc 10 Z ?_;obtain rfl:=Oi h;exact Rx [1] [4,5] Z (Qt Z Z (Qka.cons (Qg Gz Gt Z Z Z) (Qka.cons Qev.tmp Qka.nil))) ⟨Z,Z⟩
 refine Gc 4 Z ?_;refine vH YH ?_;refine FE Z (Go 24 Z (Bd h λf aa h=>?_));refine Ct f [0,1,2,3,4,5,6,7,0] [1,2,4,8] (λ_=>[(6,.ptr 2 0),(7,.ptr 4 0),(9,.ptr 8 0)]) (λf=>[(2,.cells 39 [.osl 3 0 u.1.length 3]),(3,.row 36 3 (map Segment.c u.1)),(4,.cells 126 [.map 5]),(5,.map (Q7 (λx=>A.agg (Ua.c x)) (λx=>A.int .i64 x) f.1)),(6,.cells 49 [.osl 7 0 f.2.length 3]),(7,.row 70 3 (map Edge.c f.2)),(8,.cells 134 [.fn (.func 51) [] [.ptr 6 0]])]) Zf ?_ (λenv H q=>?_)
 .refine G0 1 Z ?_;refine Lp [0,1,3,2,5,4,6,0,7] [1,2,4,6,7,8,9,35,36] (λg=>[(37,I g.2.2)]) (λg=>[(2,.cells 39 [.osl 3 0 u.1.length 3]),(4,.cells 126 [.map 5]),(5,.map (Q7 (λx=>A.agg (Ua.c x)) (λx=>A.int .i64 x) g.1)),(6,.cells 49 [.osl 7 0 g.2.1.length 3]),(7,.row 70 3 (map Edge.c g.2.1))]) aa Zf ?_ ?_
  .refine En (QaZ (i:=6) (m:=0) (t:=70) (k:=3) Z Z Z) ?_;exact Lr [0,1,3,2,5,4,6,8,7]
  intro g ba e R;refine G0 6 Z (Yk Z e (λT e=>?_) (λT e=>?_))
  .refine Gc 2 Z (Qk e ?_);obtain rfl:=Oj R e;exact Gx 1 Z (QF (Lr [0,1,2,3,4,5,6,7,8]))
  refine Gc 7 Z (Bd e λG J e=>?_);refine vX (.ptr 3 (toNat g.2.2*3)) (Qv J Z EH EN) ?_;refine vX (.agg (Segment.c G)) (QD Z GK EN Z (Qm J) Z Z) ?_;refine Go 15 Z (Bd e λbb V e=>?_);refine vU (Y8 (ev:=(λx=>A.int .i64 x)) (k:=({mat:=G.Mat,epoch:=G.Epoch:Ua})) (v:=(i64.wrap (g.2.2+1))) (l:=g.1) Qcj V Z Gj) ?_;exact FE Z (Go 6 Z (Cd [6,7] e (k_ba _ _ _ _ _ _) Z λbc ai e=>FE Z (Go 7 Z (Qj e (Lr [0,1,2,3,4,5,6,10,8])))))
 refine Gx 1 Z (Qd q (Gc 11 Z (Cd [] h (k_y _ _ _) Z λbd aj h=>FE Z (Go 3 Z ?_))));refine Qd (Qca (i:=3) [] Z Z QnR.nil (Ec (Ec (FzH.cells (Ed Ep (Ej _)) (Ec (Qap _)))))) ?_;refine Qd (Lr (env':=[(1,.rsl 57 (map Fact.c N)),(2,.ptr 0 0),(4,.ptr 1 0),(6,.ptr 2 0),(8,.ptr 6 0),(9,.ptr 8 0),(12,.ptr 9 0),(57,.fn (.func 75) [] [.ptr 10 0,.ptr 11 0])]) (H':=[.cells 33 (Course.c F),.cells 51 [I 0,.rsl 3 (map Edge.c [])],.cells 39 [.rsl 3 (map Segment.c u.1)],.dead,.cells 126 [.map 5],.map (Q7 (λx=>A.agg (Ua.c x)) (λx=>A.int .i64 x) f.1),.cells 49 [.osl 7 0 f.2.length 3],.row 70 3 (map Edge.c f.2),.cells 134 [.fn (.func 51) [] [.ptr 6 0]],.cells 135 [.fn (.func 52) [] [.ptr 4 0,.ptr 2 0,.ptr 0 0]],.cells 34 [.rsl 57 (map Fact.c N)],.cells 3 [I 3]]) [0,1,2,3,4,5,6,7,8,9,10,11]) ?_;refine Bd h λy29 hy29 h=>Bd h λbe ab h=>?_;refine Qbh [10,11] (λL=>[.cells 33 (Course.c F),.cells 51 [I 0,.rsl 3 (map Edge.c [])],.cells 39 [.rsl 3 (map Segment.c u.1)],.dead,.cells 126 [.map 5],.map (Q7 (λx=>A.agg (Ua.c x)) (λx=>A.int .i64 x) f.1),.cells 49 [.osl 12 0 L.length 3],.dead,.cells 134 [.fn (.func 51) [] [.ptr 6 0]],.cells 135 [.fn (.func 52) [] [.ptr 4 0,.ptr 2 0,.ptr 0 0]],.dead,.dead,.row 70 3 (map Edge.c L)]) ab (k_s _ _ _ _ hy29) Zf call75 Z Z Z Z (by decide) Z ?_ ?_ ?_
 .refine En (Qhb (i:=7) (j:=6) (m:=0) Z Z Z Z Z) ?_;exact Lr [0,1,2,3,4,5,6,7,8,9,10,11,12]
 .intro L bf bg y ak;refine G0 4 Z (And.intro Z ?_);refine G0 14 Z (Cz [] y (k_q _ _ _) Z λbh al y=>Go 2 Z (Bd y λE p y=>?_));refine Ct E [0,1,2,3,4,5,6,7,8,9,10,11,0] [] Ze (λE=>[(6,.cells 49 [.osl 12 0 E.length 3]),(12,.row 70 3 (map Edge.c E))]) Zf ?_ (λenv H q=>?_)
  .refine G0 0 Z (Cn Z p (λW p=>?_) (λW p=>?_))
   .exact Gc 9 Z (Cd [4,2,0,5] p (k_bd _ _ _ _ _ _ _) Z λbi am p=>FE Z (Go 27 Z (Cd [6,12] p (k_ba _ _ _ _ _ _) Z λbj an p=>FE Z (Go 1 Z (Cl p [0,1,2,3,4,5,6,7,8,9,10,11,17])))))
   exact Gc 1 Z (Cl p [0,1,2,3,4,5,6,7,8,9,10,11,12])
  exact Gx 1 Z (Qc6 y (En q (Lr [0,1,2,3,4,5,6,7,8,9,10,11,12])))
 rintro bk rfl;refine Gx 6 Z (Cd [] h (k_y _ _ _) Z λbl ao h=>FE Z (Go 3 Z (Bd h λy68 hy68 h=>Bd h λaq X h=>?_)));refine Qbh [13,14] (λM=>[.cells 33 (Course.c F),.cells 51 [I 0,.rsl 3 (map Edge.c [])],.cells 39 [.rsl 3 (map Segment.c u.1)],.dead,.cells 126 [.map 5],.map (Q7 (λx=>A.agg (Ua.c x)) (λx=>A.int .i64 x) f.1),.cells 49 [.osl 15 0 M.length 3],.dead,.cells 134 [.fn (.func 51) [] [.ptr 6 0]],.cells 135 [.fn (.func 52) [] [.ptr 4 0,.ptr 2 0,.ptr 0 0]],.dead,.dead,.dead,.dead,.dead,.row 70 3 (map Edge.c M)]) X (k_s _ _ _ _ hy68) Zf call75 Z Z Z Z (by decide) Z ?_ ?_ ?_
 .refine En (Qhb (i:=12) (j:=6) (m:=0) Z Z Z Z Z) ?_;exact Lr [0,1,2,3,4,5,6,7,8,9,10,11,12,13,14,15]
 .intro M bm ar s ac;refine G0 4 Z (And.intro Z ?_);refine G0 10 Z (Bd s λz d s=>?_);refine Ct z [0,1,2,3,4,5,6,7,8,9,10,11,12,13,14,15,17] [9,12,18] (λz=>[(109,.bool z)]) Ze Zf ?_ (λenv H q=>?_)
  .refine G0 4 Z (Cz [] d (k_q _ _ _) Z λau ad d=>Go 1 Z (Is 104 d Z (λO d=>?_) (λO d=>?_)))
   .exact Go 3 Z (Cz [] d (k_q _ _ _) Z λav ae d=>Go 2 Z (Cl d [0,1,2,3,4,5,6,7,8,9,10,11,12,13,14,15,17]))
   .exact Go 6 Z (Cl d [0,1,2,3,4,5,6,7,8,9,10,11,12,13,14,15,17])
  refine Gx 1 Z (Qd q (Bd s λw a s=>?_));refine Ct w [0,1,2,3,4,5,6,7,8,9,10,11,12,13,14,0] [] Ze (λw=>[(6,.cells 49 [.osl 15 0 w.length 3]),(15,.row 70 3 (map Edge.c w))]) Zf ?_ (λenv H q=>?_)
  .refine G0 0 Z (Cn Z a (λP a=>?_) (λP a=>?_))
   .exact Gc 9 Z (Cd [4,2,0,5] a (k_bd _ _ _ _ _ _ _) Z λaw af a=>FE Z (Go 17 Z (Cd [4,2,0,5] a (k_bd _ _ _ _ _ _ _) Z λax ag a=>FE Z (Go 28 Z (Cd [6,15] a (k_ba _ _ _ _ _ _) Z λay ah a=>FE Z (Go 1 Z (Cl a [0,1,2,3,4,5,6,7,8,9,10,11,12,13,14,21])))))))
   exact Gc 1 Z (Cl a [0,1,2,3,4,5,6,7,8,9,10,11,12,13,14,15])
  exact Gx 1 Z (Qc6 s (En q (Lr [0,1,2,3,4,5,6,7,8,9,10,11,12,13,14,15])))
 rintro B rfl;refine Gx 10 Z (Cn Z h (λQ h=>?_) (λQ h=>?_))
 .refine Gc 9 Z ?_;obtain rfl:=Oi h;exact Rx [1] [4,5] Z (Qt Z Z (Qka.cons (Qg Gz Gt Z Z Z) (Qka.cons Qev.tmp Qka.nil))) ⟨Z,Z⟩
 refine Gc 5 Z (Lm Z (Go 8 Z ?_));obtain rfl:=Oi h;refine⟨[(4,.ptr 0 0),(5,I ((i64.wrap ((u.1.length:Int)+1),B,0).2.2))],[.cells 51 [I ((i64.wrap ((u.1.length:Int)+1),B,0).1),.rsl 3 (map Edge.c ((i64.wrap ((u.1.length:Int)+1),B,0).2.1))]],_,?_,Qt Z Z (Qka.cons (Qg Gz Gt Z Z Z) (Qka.cons Qev.tmp Qka.nil)),Z,Z⟩;refine En (Qca (i:=15) [] Z Z QnR.nil (Ec (FzH.cells (Ed (Ee _) (Ed Ep (Ej _))) (Ec (Ec (Ec (Ec (FzH.cells (Ed Ep (Ej _)) (Ec (Ec (Ec (Ec (Ec (Ec (Ec (Ec (Ec (Qap _)))))))))))))))))) ?_;exact Lr [1]
def F_ma(n:Nat)(e:System)(d:Int):Option (Ctl Int (Ctl Unit Int)):=(bif decide (d<(e.Edges.length:Int))then(idx e.Edges d).bind λa=>((bif decide ((if a.To<a.From then a.To else a.From)<0)then some true else(bif decide (e.Vertices<=(if a.From<a.To then a.To else a.From))then some true else(bif decide (a.W<(-35184372088832))then some true else some (decide (35184372088832<a.W))))):Option Bool).bind λf=>(bif f then some (.done (.done 150))else some (.cont (i64.wrap (d+1))))else some (.done (.cont ())))
def F_iz(n:Nat)(d:System):Option Int:=((bif decide (d.Vertices<1)then some true else(bif decide (512<d.Vertices)then some true else some (decide (8192<(d.Edges.length:Int))))):Option Bool).bind λf=>(bif f then some 150 else(iter (F_ma n d) n 0:Option (Ctl Unit Int)).bind λe=>match e with|.cont a=>(some 0)|.done a=>some a)
theorem k_iz(n:Nat)(w:System):Ks (F_iz n w) 60 [.agg (System.c w)] [] (λr=>I r):=by
 refine Kg 8 func60 Z Z Z Z λr h=>Bd h λl f h=>?_;refine Ct l [0] [1] (λl=>[(18,.bool l)]) Ze Zf ?_ (λenv H g=>?_)
 .refine G0 5 Z (Is 8 f Z (λx f=>?_) (λx f=>?_))
  .exact Go 11 Z (Cl f [0])
  .refine Go 5 Z (Is 13 f Z (λy f=>?_) (λy f=>?_))
   .exact Go 6 Z (Cl f [0])
   .exact Go 2 Z (Lm Z (Go 3 Z (Cl f [0])))
 refine Gx 1 Z (Qd g (Cn Z h (λz h=>?_) (λz h=>?_)))
 .exact Gc 7 Z (Rt h 2 [])
 refine Gc 7 Z (Lm Z (Go 3 Z (Bd h λB E h=>?_)));refine Jk (b:=B) [] [] Ze Ze Zf ?_ (λG env H F g=>?_)
 .refine G0 1 Z ?_;refine Lp [0] [1,20,21] (λk=>[(22,I k)]) Ze E Zf (Lr [0]) λk J a i=>?_;refine G0 6 Z (Yk Z a (λm a=>?_) (λm a=>?_))
  .refine Gc 2 Z (Qk a ?_);obtain rfl:=Oj i a;exact Gx 1 Z (Qq Z (Lr []))
  refine Gc 6 Z (Bd a λe p a=>Iz p Z (Go 6 Z (Bd a λj d a=>?_)));refine Ct j [0] [1,20,21,22] (λj=>[(51,.bool j)]) Ze Zf ?_ (λenv H g=>?_)
  .refine G0 5 Z ?_;refine vX (I (if e.To<e.From then e.To else e.From)) (OpV.min Z Z Z Z) ?_;refine Go 2 Z (Is 32 d Z (λq d=>?_) (λq d=>?_))
   .exact Go 20 Z (Cl d [0])
   .refine Go 4 Z ?_;refine vX (I (if e.From<e.To then e.To else e.From)) (OpV.max Z Z Z Z) ?_ (gT Z);refine Go 5 Z (Is 42 d Z (λs d=>?_) (λs d=>?_))
    .exact Go 10 Z (Cl d [0])
    .refine Go 5 Z (Is 47 d Z (λt d=>?_) (λt d=>?_))
     iterate 2 exact Go 5 Z (Cl d [0])
  refine Gx 1 Z (Qd g (Cn Z a (λu a=>?_) (λu a=>?_)))
  .refine Gc 8 Z (Qy a ?_);obtain rfl:=Oj i a;exact Gx 1 Z (Qu (Gx 1 Z (Rt h 2 [])))
  exact Gc 7 Z (Qj a (Lr [0]))
 subst F;exact Gx 1 Z (Qd g (Gc 6 Z (Rt h 2 [])))
def F_id(n:Nat)(h:Int)(u:Int)(p:List Edge)(d:List Int)(e:Int)(f:Int)(g:List Int):Option ((List Int)×(List Int)×Bool):=(idx p h).bind λa=>((QcS d e f a.From).bind λq=>(bif (q==1152921504606846976)then some true else(QcS d e f a.From).bind λi=>(QcS d e f a.To).bind λj=>some (decide (j<=(i64.wrap (i+a.W))))):Option Bool).bind λr=>(bif r then some (d,g,false)else(QcS d e f a.From).bind λk=>(QcS d e f a.To).bind λs=>(Qbo d (e+a.To) (i64.wrap (k+a.W))).bind λl=>(idx g a.To).bind λt=>(Qbo g a.To h).bind λm=>some (l,m,true))
theorem k_id(n:Nat)(M:Int)(z:Int)(B:List Edge)(j:List Int)(a:Int)(g:Int)(F:List Int):Kq (F_id n M z B j a g F) 178 [.ptr 0 0,I M] [.cells 186 [I z,.rsl 3 (map Edge.c B),.osl 1 (0+toNat a) (toNat g-toNat a) 1,.osl 2 0 F.length 1],.row 3 1 (map (Qf .i64) j),.row 3 1 (map (Qf .i64) F)] (λr=>.bool r.2.2) (λr=>[.cells 186 [I z,.rsl 3 (map Edge.c B),.osl 1 (0+toNat a) (toNat g-toNat a) 1,.osl 2 0 r.2.1.length 1],.row 3 1 (map (Qf .i64) r.1),.row 3 1 (map (Qf .i64) r.2.1)]):=by
 refine Kg 13 func178 Z Z Z Z λr h=>Bd h λp N h=>Iz N Z (Go 7 Z (Bd h λG d h=>?_));refine Ct G [0,1,2,3] [0,1,5] (λG=>[(44,.bool G)]) Ze Zf ?_ (λenv H O=>?_)
 .refine G0 0 Z (DSs 29 Z (D 6 Z ?_));obtain⟨V,E,d⟩:=Yl d;refine DS.v (x:=(.ptr 1 (toNat (a+p.From)*1))) (JJ (l:=j) (lo:=a) (hi:=g) E EA ED) ?_;refine DS.v (x:=(I V)) (Ey Z EF Z (Qm (Qaz E))) ?_;refine D 2 Z (Qas 9 d Z Z Z (λP d=>?_) (λP d=>?_))
  .exact D 19 Z (Eg Z (Go 3 Z (Cl d [0,1,2,3])))
  .refine D 6 Z ?_;obtain⟨Q,q,d⟩:=Yl d;refine DS.v (x:=(.ptr 1 (toNat (a+p.From)*1))) (JJ (l:=j) (lo:=a) (hi:=g) q EA ED) ?_ (hg:=(gT Z));refine DS.v (x:=(I Q)) (Ey Z EF Z (Qm (Qaz q))) ?_ (hg:=(gT Z));refine D 9 Z ?_;obtain⟨R,t,d⟩:=Yl d;refine DS.v (x:=(.ptr 1 (toNat (a+p.To)*1))) (JJ (l:=j) (lo:=a) (hi:=g) t EA ED) ?_ (hg:=(gT Z));refine DS.v (x:=(I R)) (Ey Z EF Z (Qm (Qaz t))) ?_ (hg:=(gT Z));exact Eg Z (Go 3 Z (Cl d [0,1,2,3]))
 refine Gx 1 Z (Qd O (Cn Z h (λJ h=>?_) (λJ h=>?_)))
 .exact Gc 7 Z (Rt h 4 [0,1,2])
 refine Gc 3 Z (DSs 17 Z (D 12 Z ?_));obtain⟨T,u,h⟩:=Yl h;refine DS.v (x:=(.ptr 1 (toNat (a+p.From)*1))) (JJ (l:=j) (lo:=a) (hi:=g) u EA ED) ?_;refine DS.v (x:=(I T)) (Ey Z EF Z (Qm (Qaz u))) ?_;refine D 3 Z (Eg Z (Bd h λW w h=>?_));refine vX (.ptr 1 (toNat (a+p.To)*1)) (JJ (l:=j) (lo:=a) (hi:=g) w EA ED) ?_;refine Bd h λX L h=>?_;refine vU (YV (e:=(Qf .i64)) (k:=1) (f:=0) (Qaz w) L ED Z Z) ?_;refine FE Z (Go 3 Z (DSs 7 Z (D 7 Z (Eg Z (Bd h λY y h=>?_)))));refine vX (.ptr 2 (toNat p.To*1)) (Qv y Z EA ED) ?_;refine Bd h λaa m h=>?_;refine vU (YV (e:=(Qf .i64)) (k:=1) (f:=0) y m ED Z Z) ?_;refine FE Z ?_;refine QG (QC (s:=66) Z (congrArg (λn=>A.osl 2 0 n 1) (Q5 m))) ?_;refine QG (QnQ (i:=0) Z (congrArg (λnz=>Blk.cells 186 [I z,.rsl 3 (map Edge.c B),.osl 1 (0+toNat a) (toNat g-toNat a) 1,.osl 2 0 nz 1]) (Q5 m))) ?_;exact Go 8 Z (Rt h 4 [0,1,2])
def F_le(n:Nat)(h:Int)(e:List Edge)(i:Int)(j:Int)(a:(List Int)×(List Int)×Int×Int):Option (Ctl ((List Int)×(List Int)×Int×Int) ((List Int)×(List Int)×Int)):=(bif decide (a.2.2.2<(e.length:Int))then(F_id n a.2.2.2 h e a.1 i j a.2.1).bind λd=>((bif d.2.2 then(idx e a.2.2.2).bind λf=>some f.To else some a.2.2.1):Option Int).bind λg=>some (.cont (d.1,d.2.1,g,i64.wrap (a.2.2.2+1)))else some (.done (a.1,a.2.1,a.2.2.1)))
def F_lz(n:Nat)(e:Int)(f:List Edge)(g:Int)(h:Int)(a:(List Int)×(List Int)×Int×Int):Option (Ctl ((List Int)×(List Int)×Int×Int) (Ctl ((List Int)×(List Int)×Int) ((List Int)×(List Int)×Int))):=(bif decide (a.2.2.2<e)then(iter (F_le n e f g h) n (a.1,a.2.1,(-1),0):Option ((List Int)×(List Int)×Int)).bind λd=>(bif decide (d.2.2<0)then some (.done (.done (d.1,d.2.1,d.2.2)))else some (.cont (d.1,d.2.1,d.2.2,i64.wrap (a.2.2.2+1))))else some (.done (.cont (a.1,a.2.1,a.2.2.1))))
def F_dm(n:Nat)(e:Int)(f:List Edge)(g:List Int)(h:Int)(i:Int)(j:List Int):Option ((List Int)×(List Int)×Int):=(iter (F_lz n e f h i) n (g,j,0,0):Option (Ctl ((List Int)×(List Int)×Int) ((List Int)×(List Int)×Int))).bind λd=>match d with|.cont a=>(some (a.1,a.2.1,a.2.2))|.done a=>some a
theorem k_dm(n:Nat)(m:Int)(p:List Edge)(F:List Int)(f:Int)(q:Int)(y:List Int):Kq (F_dm n m p F f q y) 100 [.ptr 0 0] [.cells 186 [I m,.rsl 3 (map Edge.c p),.osl 1 (0+toNat f) (toNat q-toNat f) 1,.osl 2 0 y.length 1],.row 3 1 (map (Qf .i64) F),.row 3 1 (map (Qf .i64) y)] (λr=>I r.2.2) (λr=>[.cells 186 [I m,.rsl 3 (map Edge.c p),.osl 1 (0+toNat f) (toNat q-toNat f) 1,.osl 2 0 r.2.1.length 1],.row 3 1 (map (Qf .i64) r.1),.row 3 1 (map (Qf .i64) r.2.1)]):=by
 refine Kg 23 func100 Z Z Z Z λr h=>Bd h λG J h=>?_;refine Jk (b:=G) [0,1,2] [] (λg=>[(2,I g.2.2)]) (λg=>[(0,.cells 186 [I m,.rsl 3 (map Edge.c p),.osl 1 (0+toNat f) (toNat q-toNat f) 1,.osl 2 0 g.2.1.length 1]),(1,.row 3 1 (map (Qf .i64) g.1)),(2,.row 3 1 (map (Qf .i64) g.2.1))]) Zf ?_ (λg env H L l=>?_)
 .refine G0 1 Z ?_;refine Lp [0,1,2] [0,3,11] (λi=>[(2,I i.2.2.1),(12,I i.2.2.2)]) (λi=>[(0,.cells 186 [I m,.rsl 3 (map Edge.c p),.osl 1 (0+toNat f) (toNat q-toNat f) 1,.osl 2 0 i.2.1.length 1]),(1,.row 3 1 (map (Qf .i64) i.1)),(2,.row 3 1 (map (Qf .i64) i.2.1))]) J Zf (Lr [0,1,2]) λi P a t=>?_;refine G0 6 Z (Yk Z a (λz a=>?_) (λz a=>?_))
  .refine Gc 2 Z (Qk a ?_);obtain rfl:=Oj t a;exact Gx 1 Z (Qq Z (Lr [0,1,2]))
  refine Gc 17 Z (Lm Z (Go 3 Z (Bd a λj M a=>?_)));refine Ct j [0,1,2] [0,3,11,12] (λj=>[(2,I j.2.2)]) (λj=>[(0,.cells 186 [I m,.rsl 3 (map Edge.c p),.osl 1 (0+toNat f) (toNat q-toNat f) 1,.osl 2 0 j.2.1.length 1]),(1,.row 3 1 (map (Qf .i64) j.1)),(2,.row 3 1 (map (Qf .i64) j.2.1))]) Zf ?_ (λenv H l=>?_)
  .refine G0 1 Z ?_;refine Lp [0,1,2] [0,3,11,12,19] (λk=>[(2,I k.2.2.1),(20,I k.2.2.2)]) (λk=>[(0,.cells 186 [I m,.rsl 3 (map Edge.c p),.osl 1 (0+toNat f) (toNat q-toNat f) 1,.osl 2 0 k.2.1.length 1]),(1,.row 3 1 (map (Qf .i64) k.1)),(2,.row 3 1 (map (Qf .i64) k.2.1))]) M Zf (Lr [0,1,2]) λk Q d B=>?_;refine G0 6 Z (Yk Z d (λE d=>?_) (λE d=>?_))
   .refine Gc 2 Z (Qk d ?_);obtain rfl:=Oj B d;exact Gx 1 Z (QF (Lr [0,1,2]))
   refine Gc 14 Z (Cd [0,1,2] d (k_id _ _ _ _ _ _ _ _) Z λR N d=>FE Z (Go 2 Z (Bd d λs e d=>?_)));refine Ct s [0,1,2] [0,3,11,12,19,20] (λs=>[(2,I s)]) Ze Zf ?_ (λenv H l=>?_)
   .refine G0 0 Z (Cn Z e (λu e=>?_) (λu e=>?_))
    .exact Gc 7 Z (Bd e λO w e=>Iz w Z (Go 4 Z (Cl e [0,1,2])))
    exact Gc 1 Z (Cl e [0,1,2])
   exact Gx 2 Z (Qd l (Gc 4 Z (Qj d (Lr [0,1,2]))))
  refine Gx 1 Z (Qd l (Gc 6 Z (Cn Z a (λx a=>?_) (λx a=>?_))))
  .refine Gc 9 Z (Qy a ?_);obtain rfl:=Oj t a;exact Gx 1 Z (Qu (Gx 1 Z (Rt h 2 [0,1,2])))
  exact Gc 7 Z (Qj a (Lr [0,1,2]))
 subst L;exact Gx 1 Z (Qd l (Gc 7 Z (Rt h 2 [0,1,2])))
def F_lh(n:Nat)(a:(List Int)×Int×Int):Option (Ctl ((List Int)×Int×Int) (List Int)):=(bif decide (a.2.1<a.2.2)then(idx a.1 a.2.2).bind λe=>(idx a.1 a.2.1).bind λf=>(idx a.1 a.2.1).bind λh=>(Qbo a.1 a.2.1 e).bind λd=>(idx d a.2.2).bind λi=>(Qbo d a.2.2 f).bind λg=>some (.cont (g,i64.wrap (a.2.1+1),i64.wrap (a.2.2-1)))else some (.done a.1))
def F_il(n:Nat)(a:List Int):Option (List Int):=(iter (F_lh n) n (a,0,i64.wrap ((a.length:Int)-1)):Option (List Int)).bind λd=>some d
theorem k_il(n:Nat)(y:List Int):Kq (F_il n y) 101 [.osl 0 0 y.length 1] [.row 3 1 (map (Qf .i64) y)] (λ_=>.tup []) (λr=>[.row 3 1 (map (Qf .i64) r)]):=by
 refine Kg 9 func101 Z Z Z Z λr h=>Bd h λj E h=>?_;refine Ct j [0] [] Ze (λj=>[(0,.row 3 1 (map (Qf .i64) j))]) Zf ?_ (λenv H l=>?_)
 .refine G0 1 Z ?_;refine Lp [0] [] (λa=>[(0,.osl 0 0 a.1.length 1),(2,I a.2.1),(3,I a.2.2)]) (λa=>[(0,.row 3 1 (map (Qf .i64) a.1))]) E Zf (Lr [0]) λa F d z=>?_;refine G0 8 Z (Yk Z d (λB d=>?_) (λB d=>?_))
  .refine Gc 2 Z (Qk d ?_);obtain rfl:=Oj z d;exact Gx 1 Z (QF (Lr [0]))
  refine Gc 4 Z ?_;obtain⟨u,m,d⟩:=Yl d;obtain⟨w,p,d⟩:=Yl d;obtain⟨G,q,d⟩:=Yl d;obtain⟨x,g,d⟩:=Yl d;refine YL 14 0 [14,15,16,17,18,19,20,21,22,23,24,25,26,1000013] [false,false,false,false,false,false,false,false,false,false,false,false,false,true] [[],[],[],[],[],[],[],[],[],[],[],[],[],[]] [[],[13]] [[(0,0)],[(0,0)],[(0,0),(1,1)],[(0,0),(1,1)],[(0,0)],[(0,0)],[(0,0)],[(0,0)],[(0,0)],[(0,0)],[(0,0)],[(0,0)],[(0,0)],[(0,1)]] [.osl 0 0 a.1.length 1,I a.2.1,.osl 0 0 a.1.length 1,I a.2.2,.osl 0 0 a.1.length 1,I a.2.2,.ptr 0 (toNat a.2.2*1),I u,.osl 0 0 a.1.length 1,I a.2.1,.ptr 0 (toNat a.2.1*1),I w,.ptr 0 (toNat a.2.1*1),.any] [[.row 3 1 (map (Qf .i64) a.1)],[.row 3 1 (map (Qf .i64) x)]] ([.row 3 1 (map (Qf .i64) x)]) draws Z Z Z Z Z Z Z ?_ Z ?_
  .refine Qh4.cons (Qb (v0 Z Z) (Qc)) (Qh4.cons (Qb (v0 Z Z) (Qc)) (Qh4.cons (Qb (v0 Z Z) (Qb (v0 Z Z) (Qc))) (Qh4.cons (Qb (v0 Z Z) (Qb (v0 Z Z) (Qc))) (Qh4.cons (Qb (v0 Z Z) (Qc)) (Qh4.cons (Qb (v0 Z Z) (Qc)) (Qh4.cons ?_ (Qh4.cons ?_ (Qh4.cons (Qb (v0 Z Z) (Qc)) (Qh4.cons (Qb (v0 Z Z) (Qc)) (Qh4.cons ?_ (Qh4.cons ?_ (Qh4.cons ?_ (Qh4.cons ?_ (Qh4.nil))))))))))))))
   .refine Qb ?_ (Qc)
    .refine Om Z (sD 4 (sD 5 sN)) ?_;refine vX (.ptr 0 (toNat a.2.2*1)) (Qv m Z EA ED) ?_;exact Wp
   .refine Qb ?_ (Qc)
    .refine Om Z (sD 6 sN) ?_;refine vX (I u) (Ey Z EF Z (Qm m)) ?_;exact Wp
   .refine Qb ?_ (Qc)
    .refine Om Z (sD 8 (sD 9 sN)) ?_;refine vX (.ptr 0 (toNat a.2.1*1)) (Qv p Z EA ED) ?_;exact Wp
   .refine Qb ?_ (Qc)
    .refine Om Z (sD 10 sN) ?_;refine vX (I w) (Ey Z EF Z (Qm p)) ?_;exact Wp
   .refine Qb ?_ (Qc)
    .refine Om Z (sD 0 (sD 1 sN)) ?_;refine vX (.ptr 0 (toNat a.2.1*1)) (Qv q Z EA ED) ?_;exact Wp
   .refine Qb ?_ (Qc)
    .refine Om2 Z (sD 7 (sD 12 sN)) ?_;refine vU (YV (e:=(Qf .i64)) (k:=1) (f:=0) q g ED Z Z) ?_;exact FE Z Wp
  refine QG (QC (s:=0) Z (congrArg (λn=>A.osl 0 0 n 1) (Q5 g))) ?_;refine QG (QC (s:=14) Z (congrArg (λn=>A.osl 0 0 n 1) (Q5 g))) ?_;refine QG (QC (s:=16) Z (congrArg (λn=>A.osl 0 0 n 1) (Q5 g))) ?_;refine QG (QC (s:=18) Z (congrArg (λn=>A.osl 0 0 n 1) (Q5 g))) ?_;refine QG (QC (s:=22) Z (congrArg (λn=>A.osl 0 0 n 1) (Q5 g))) ?_;refine Bd d λJ t d=>?_;refine vX (.ptr 0 (toNat a.2.2*1)) (Qv t Z EA ED) ?_;refine Bd d λL i d=>?_;refine vU (YV (e:=(Qf .i64)) (k:=1) (f:=0) t i ED Z Z) ?_;refine FE Z ?_;refine QG (QC (s:=0) Z (congrArg (λn=>A.osl 0 0 n 1) (Q5 i))) ?_;refine QG (QC (s:=14) Z (congrArg (λn=>A.osl 0 0 n 1) (Q5 i))) ?_;refine QG (QC (s:=16) Z (congrArg (λn=>A.osl 0 0 n 1) (Q5 i))) ?_;refine QG (QC (s:=18) Z (congrArg (λn=>A.osl 0 0 n 1) (Q5 i))) ?_;refine QG (QC (s:=22) Z (congrArg (λn=>A.osl 0 0 n 1) (Q5 i))) ?_;exact Go 11 Z (Qj d (Lr [0]))
 obtain rfl:=Oi h;have l:=l;refine⟨[],_,_,?_,QcI.nil Z,Z,Z⟩;refine En l ?_;exact Lr [0]
def F_lw(n:Nat)(d:System)(g:(List Int)×(List Int)×Int)(a:Int×Int):Option (Ctl (Int×Int) Int):=(bif decide (a.2<d.Vertices)then(idx g.2.1 a.1).bind λe=>(idx d.Edges e).bind λf=>some (.cont (f.From,i64.wrap (a.2+1)))else some (.done a.1))
def F_mh(n:Nat)(h:System)(i:(List Int)×(List Int)×Int)(g:Int)(a:(List Int)×Int):Option (Ctl ((List Int)×Int) (List Int)):=(idx i.2.1 a.2).bind λd=>(app a.1 [d]).bind λe=>(idx h.Edges d).bind λf=>(bif (f.From==g)then some (.done e)else some (.cont (e,f.From)))
def F_jj(n:Nat)(a:System):Option (List Int):=(mk a.Vertices 0).bind λg=>(mk a.Vertices 0).bind λi=>(F_dm n a.Vertices a.Edges g 0 (g.length:Int) i).bind λd=>(bif decide (d.2.2<0)then some []else(iter (F_lw n a d) n (d.2.2,0):Option Int).bind λe=>(iter (F_mh n a d e) n ([],e):Option (List Int)).bind λf=>(QkD f (F_il n f)).bind λh=>some h)
theorem k_jj(n:Nat)(f:System):Kq (F_jj n f) 61 [.agg (System.c f)] [] (λr=>.osl 0 0 r.length 1) (λr=>[.row 3 1 (map (Qf .i64) r)]):=by
 refine Kg 6 func61 Z Z Z Z λr h=>TC.scope ?_;refine G0 1 Z ?_;obtain⟨j,F,h⟩:=Yl h;obtain⟨m,G,h⟩:=Yl h;refine YL 7 2 [7,8,9,10,11,12,13] [false,false,false,true,false,false,true] [[],[],[],[],[],[],[]] [[],[3],[6],[3,6]] [[(0,0),(1,1),(2,2),(3,3)],[(0,0),(2,2)],[(0,0),(2,2)],[(0,1),(2,3)],[(0,0),(1,1)],[(0,0),(1,1)],[(0,2),(1,3)]] [.agg (System.c f),.ptr 0 0,I f.Vertices,.osl 1 0 j.length 1,.ptr 0 0,I f.Vertices,.osl 2 0 m.length 1] [[.cells 51 (System.c f),.dead,.dead],[.cells 51 (System.c f),.row 3 1 (map (Qf .i64) j),.dead],[.cells 51 (System.c f),.dead,.row 3 1 (map (Qf .i64) m)],[.cells 51 (System.c f),.row 3 1 (map (Qf .i64) j),.row 3 1 (map (Qf .i64) m)]] ([.cells 51 (System.c f),.row 3 1 (map (Qf .i64) j),.row 3 1 (map (Qf .i64) m)]) draws Z Z Z Z Z Z Z ?_ Z ?_
 .refine Qh4.cons (Qb (v0 Z Z) (Qb (v0 Z Z) (Qb (v0 Z Z) (Qb (v0 Z Z) (Qc))))) (Qh4.cons (Qb (v0 Z Z) (Qb (v0 Z Z) (Qc))) (Qh4.cons (Qb (v0 Z Z) (Qb (v0 Z Z) (Qc))) (Qh4.cons ?_ (Qh4.cons (Qb (v0 Z Z) (Qb (v0 Z Z) (Qc))) (Qh4.cons (Qb (v0 Z Z) (Qb (v0 Z Z) (Qc))) (Qh4.cons ?_ (Qh4.nil)))))))
  .refine Qb ?_ (Qb ?_ (Qc))
   iterate 2 exact JD.row _ _ 10 1 (.osl 1 0 j.length 1) (.row 3 1 (map (Qf .i64) j)) Z Z Z Z Z Z Z Z (sD 2 sN) (Qdy (e:=(Qf .i64)) (zv:=0) (a:=(I 0)) F Qz EP Eo Z Z Z Z) Z
  .refine Qb ?_ (Qb ?_ (Qc))
   iterate 2 exact JD.row _ _ 13 2 (.osl 2 0 m.length 1) (.row 3 1 (map (Qf .i64) m)) Z Z Z Z Z Z Z Z (sD 5 sN) (Qdy (e:=(Qf .i64)) (zv:=0) (a:=(I 0)) G Qz EP Eo Z Z Z Z) Z
 refine Go 8 Z (Cd [3,1,2] h (k_dm _ _ _ _ _ _ _) Z λw Y h=>FE Z (Go 10 Z (Cn Z h (λT h=>?_) (λT h=>?_))))
 .refine Gc 7 Z ?_;obtain rfl:=Oi h;refine R1 2 Z ?_;refine En (Er (s:=2) (k:=1) (t:=3) (XQ Z) Z) ?_;exact Lr [4]
 refine Gc 10 Z (Bd h λy V h=>?_);refine Ct y [0,1,2,3] [1,2] (λy=>[(3,.ptr 1 0),(4,I y)]) (λ_=>[(1,.cells 186 [I f.Vertices,.rsl 3 (map Edge.c f.Edges),.osl 2 (0+toNat 0) (toNat (j.length:Int)-toNat 0) 1,.osl 3 0 w.2.1.length 1]),(2,.row 3 1 (map (Qf .i64) w.1)),(3,.row 3 1 (map (Qf .i64) w.2.1))]) Zf ?_ (λenv H z=>?_)
 .refine G0 1 Z ?_;refine Lp [0,3,1,2] [1,2,3,21] (λu=>[(4,I u.1),(22,I u.2)]) (λ_=>[(1,.cells 186 [I f.Vertices,.rsl 3 (map Edge.c f.Edges),.osl 2 (0+toNat 0) (toNat (j.length:Int)-toNat 0) 1,.osl 3 0 w.2.1.length 1])]) V Zf (Lr [0,3,1,2]) λu aa g L=>?_;refine G0 6 Z (Yk Z g (λM g=>?_) (λM g=>?_))
  .refine Gc 2 Z (Qk g ?_);obtain rfl:=Oj L g;exact Gx 1 Z (QF (Lr [0,1,2,3]))
  refine Gc 4 Z (DSs 9 Z (D 7 Z ?_));obtain⟨W,B,g⟩:=Yl g;refine DS.v (x:=(.ptr 3 (toNat u.1*1))) (Qv B Z EA ED) ?_;refine DS.v (x:=(I W)) (Ey Z EF Z (Qm B)) ?_;exact Eg Z (Bd g λab N g=>Iz N Z (Go 10 Z (Qj g (Lr [0,1,2,3]))))
 refine Gx 1 Z (Qd z (Gc 7 Z (TC.label ?_)));refine Gx 2 Z (Bd h λp X h=>?_);refine Ct p [0] [] (λp=>[(2,.osl 0 0 p.length 1)]) (λp=>[(0,.row 3 1 (map (Qf .i64) p))]) Zf ?_ (λenv H z=>?_)
 .refine G0 1 Z ?_;refine Lp [0,0,1,2,3] [1,3,5] (λl=>[(2,.osl 1 0 l.1.length 1),(4,I l.2)]) (λl=>[(1,.row 3 1 (map (Qf .i64) l.1)),(2,.cells 186 [I f.Vertices,.rsl 3 (map Edge.c f.Edges),.osl 3 (0+toNat 0) (toNat (j.length:Int)-toNat 0) 1,.osl 4 0 w.2.1.length 1])]) X Zf ?_ ?_
  .refine En (Er (s:=2) (k:=1) (t:=3) (XQ Z) Z) ?_;exact Lr [0,4,1,2,3]
  intro l ac d O;refine G0 8 Z (Bd d λJ E d=>?_);refine vX (.ptr 4 (toNat l.2*1)) (Qv E Z EA ED) ?_;refine vX (I J) (Ey Z EF Z (Qm E)) ?_;refine Go 7 Z ?_;refine vH (Ek (xs:=[.tmp 46]) (es:=map (Qf .i64) [J]) Qz Z Z Z Z Z ⟨Z,trivial⟩ Z Z) ?_;refine FE Z (Bd d λad P d=>?_);refine vH (Qp (e:=(Qf .i64)) P Qz EA (QU (i:=5))) ?_;refine FE Z (Go 8 Z (Bd d λae Q d=>Iz Q Z (Go 12 Z (Cn Z d (λR d=>?_) (λR d=>?_)))))
  .refine Gc 2 Z (Qk d ?_);obtain rfl:=Oj O d;exact Gx 1 Z (QF (Lr [6]))
  exact Gc 2 Z (Qj d (Lr [0,6,2,3,4]))
 refine Gx 1 Z (Qd z (Gc 3 Z (Bd h λaf q h=>?_)));refine Qo [0] (OpC.fn call101 Z Z Z) (k_il _ _ _ (QmM q)) ?_;rintro _ _ ⟨rfl,rfl⟩;refine FE Z ?_;refine QG (QC (s:=2) Z (congrArg (λn=>A.osl 0 0 n 1) (QgP q))) ?_;refine QG (QC (s:=58) Z (congrArg (λn=>A.osl 0 0 n 1) (QgP q))) ?_;exact Go 9 Z (Rt h 2 [0])
def F_ih(n:Nat)(a:Int)(d:Int):Option Unit:=some ()
theorem k_ih(n:Nat)(a:Int)(d:Int):Ks (F_ih n a d) 238 [.int .u64 a,.int .u64 d] [] (λ_=>.tup [.int .u64 (u64.wrap ((u64.wrap ((u64.wrap ((Yo .u64 a 32)*(Yo .u64 d 32)))+(Yo .u64 (u64.wrap ((u64.wrap ((Yo .u64 a 32)*(YT .u64 d 4294967295)))+(Yo .u64 (u64.wrap ((YT .u64 a 4294967295)*(YT .u64 d 4294967295))) 32))) 32)))+(Yo .u64 (u64.wrap ((YT .u64 (u64.wrap ((u64.wrap ((Yo .u64 a 32)*(YT .u64 d 4294967295)))+(Yo .u64 (u64.wrap ((YT .u64 a 4294967295)*(YT .u64 d 4294967295))) 32))) 4294967295)+(u64.wrap ((YT .u64 a 4294967295)*(Yo .u64 d 32))))) 32))),.int .u64 (u64.wrap (a*d))]):=by
 refine Kg 9 func238 Z Z Z Z λr h=>?_;refine vX (.int .u64 (YT .u64 a 4294967295)) (OpV.and Z Z Z) ?_;refine Go 6 Z ?_;refine vX (.int .u64 (Yo .u64 a 32)) (OpV.shr Z Z Z (by decide)) ?_;refine Go 6 Z ?_;refine vX (.int .u64 (YT .u64 d 4294967295)) (OpV.and Z Z Z) ?_;refine Go 6 Z ?_;refine vX (.int .u64 (Yo .u64 d 32)) (OpV.shr Z Z Z (by decide)) ?_;refine Go 17 Z ?_;refine vV (x:=(.int .u64 (Yo .u64 (u64.wrap ((YT .u64 a 4294967295)*(YT .u64 d 4294967295))) 32))) (OpV.shr Z Z Z (by decide)) ?_;refine Go 7 Z ?_;refine vV (x:=(.int .u64 (YT .u64 (u64.wrap ((u64.wrap ((Yo .u64 a 32)*(YT .u64 d 4294967295)))+(Yo .u64 (u64.wrap ((YT .u64 a 4294967295)*(YT .u64 d 4294967295))) 32))) 4294967295))) (OpV.and Z Z Z) ?_;refine Go 6 Z ?_;refine vV (x:=(.int .u64 (Yo .u64 (u64.wrap ((u64.wrap ((Yo .u64 a 32)*(YT .u64 d 4294967295)))+(Yo .u64 (u64.wrap ((YT .u64 a 4294967295)*(YT .u64 d 4294967295))) 32))) 32))) (OpV.shr Z Z Z (by decide)) ?_;refine Go 21 Z ?_;refine vV (x:=(.int .u64 (Yo .u64 (u64.wrap ((YT .u64 (u64.wrap ((u64.wrap ((Yo .u64 a 32)*(YT .u64 d 4294967295)))+(Yo .u64 (u64.wrap ((YT .u64 a 4294967295)*(YT .u64 d 4294967295))) 32))) 4294967295)+(u64.wrap ((YT .u64 a 4294967295)*(Yo .u64 d 32))))) 32))) (OpV.shr Z Z Z (by decide)) ?_;refine Go 13 Z ?_;obtain rfl:=Oi h;exact R2 4 5 Z Z (Lr [])
def F_ht(n:Nat)(a:Int)(d:Int):Option Unit:=(F_ih n a d).bind λe=>some ()
theorem k_ht(n:Nat)(a:Int)(d:Int):Ks (F_ht n a d) 179 [.int .u64 a,.int .u64 d] [] (λ_=>.tup [.int .u64 (u64.wrap ((u64.wrap ((u64.wrap ((Yo .u64 a 32)*(Yo .u64 d 32)))+(Yo .u64 (u64.wrap ((u64.wrap ((Yo .u64 a 32)*(YT .u64 d 4294967295)))+(Yo .u64 (u64.wrap ((YT .u64 a 4294967295)*(YT .u64 d 4294967295))) 32))) 32)))+(Yo .u64 (u64.wrap ((YT .u64 (u64.wrap ((u64.wrap ((Yo .u64 a 32)*(YT .u64 d 4294967295)))+(Yo .u64 (u64.wrap ((YT .u64 a 4294967295)*(YT .u64 d 4294967295))) 32))) 4294967295)+(u64.wrap ((YT .u64 a 4294967295)*(Yo .u64 d 32))))) 32))),.int .u64 (u64.wrap (a*d))]):=by
 refine Kg 14 func179 Z Z Z Z λr h=>Cd [] h (k_ih _ _ _) Z λf e h=>FE Z (Go 16 Z ?_);obtain rfl:=Oi h;exact R2 4 5 Z Z (Lr [])
def F_ld(n:Nat)(a:(List Int)×Int):Option (Ctl ((List Int)×Int) (List Int)):=(bif decide (a.2<(a.1.length:Int))then(slc a.1 a.2 (a.1.length:Int)).bind λf=>(slc a.1 0 a.2).bind λd=>(cpy a.1 a.2 (a.1.length:Int) d).bind λe=>some (.cont (e,i64.wrap (a.2+((min d.length ((a.1.length:Int).toNat-a.2.toNat):Nat):Int))))else some (.done a.1))
def F_jr(n:Nat)(a:List Int)(d:Int):Option (List Int):=((bif decide (d<0)then none else some ()):Option Unit).bind λb2=>(F_ht n (u64.wrap (a.length:Int)) (u64.wrap d)).bind λj=>((bif decide (0<(u64.wrap ((u64.wrap ((u64.wrap ((Yo .u64 (u64.wrap (a.length:Int)) 32)*(Yo .u64 (u64.wrap d) 32)))+(Yo .u64 (u64.wrap ((u64.wrap ((Yo .u64 (u64.wrap (a.length:Int)) 32)*(YT .u64 (u64.wrap d) 4294967295)))+(Yo .u64 (u64.wrap ((YT .u64 (u64.wrap (a.length:Int)) 4294967295)*(YT .u64 (u64.wrap d) 4294967295))) 32))) 32)))+(Yo .u64 (u64.wrap ((YT .u64 (u64.wrap ((u64.wrap ((Yo .u64 (u64.wrap (a.length:Int)) 32)*(YT .u64 (u64.wrap d) 4294967295)))+(Yo .u64 (u64.wrap ((YT .u64 (u64.wrap (a.length:Int)) 4294967295)*(YT .u64 (u64.wrap d) 4294967295))) 32))) 4294967295)+(u64.wrap ((YT .u64 (u64.wrap (a.length:Int)) 4294967295)*(Yo .u64 (u64.wrap d) 32))))) 32))))then some true else some (decide (9223372036854775807<(u64.wrap ((u64.wrap (a.length:Int))*(u64.wrap d)))))):Option Bool).bind λh=>((bif h then none else some ()):Option Unit).bind λi=>(mk (i64.wrap (u64.wrap ((u64.wrap (a.length:Int))*(u64.wrap d)))) 0).bind λe=>(cpy e 0 (e.length:Int) a).bind λf=>(iter (F_ld n) n (f,((min a.length e.length:Nat):Int)):Option (List Int)).bind λg=>some g
theorem k_jr(n:Nat)(w:List Int)(y:Int):Kq (F_jr n w y) 102 [.rsl 1 (map (Qf .i64) w),I y] [] (λr=>.osl 0 0 r.length 1) (λr=>[.row 3 1 (map (Qf .i64) r)]):=by
 refine Kg 12 func102 Z Z Z Z λr h=>Bd h λb2 q h=>?_;refine Ct b2 [] [0,1] Ze Ze Zf ?_ (λenv H i=>?_)
 .refine G0 0 Z (Cn Z q (λJ q=>?_) (λJ q=>?_))
  .cases q
  exact Gc 1 Z (Cl q [])
 refine Gx 1 Z (Qd i (Gc 3 Z (Lm Z ?_)));refine vX (.int .u64 (u64.wrap (w.length:Int))) (Yz Z EI Gw Z) ?_;refine Go 1 Z ?_;refine vX (.int .u64 (u64.wrap y)) (Yz Z EI Gw Z) ?_;refine Cd [] h (k_ht _ _ _) Z λX Q h=>FE Z (Go 9 Z (Bd h λz t h=>?_));refine Ct z [] [0,6] (λz=>[(26,.bool z)]) Ze Zf ?_ (λenv H i=>?_)
 .refine G0 4 Z (Is 23 t Z (λL t=>?_) (λL t=>?_))
  iterate 2 exact Go 4 Z (Cl t [])
 refine Gx 1 Z (Qd i (Bd h λM m h=>?_));refine Ct M [] [0,6] Ze Ze Zf ?_ (λenv H i=>?_)
 .refine G0 0 Z (Cn Z m (λB m=>?_) (λB m=>?_))
  .cases m
  exact Gc 1 Z (Cl m [])
 refine Gx 1 Z (Qd i (Gc 3 Z ?_));refine vV (x:=(I (i64.wrap (u64.wrap ((u64.wrap (w.length:Int))*(u64.wrap y)))))) (Yz Z Gw EI Z) ?_;refine Bd h λR E h=>?_;refine vH (Qk4 (e:=(Qf .i64)) (zv:=0) (a:=(I 0)) E Qz EP Eo Z Z Z Z) ?_;refine FE Z (Go 7 Z (Bd h λT k h=>?_));refine vH (Ql4 (e:=(Qf .i64)) k EA ED QoM) ?_;refine FE Z ?_;refine QG (QC (s:=7) Z (congrArg (λn=>A.osl 0 0 n 1) (Qf4 k))) ?_;refine QG (QC (s:=30) Z (congrArg (λn=>A.osl 0 0 n 1) (Qf4 k))) ?_;refine QG (QC (s:=31) Z (congrArg (λn=>A.osl 0 0 n 1) (Qf4 k))) ?_;refine Go 4 Z (Bd h λp N h=>?_);refine Ct p [0] [] (λp=>[(7,.osl 0 0 p.length 1)]) (λp=>[(0,.row 3 1 (map (Qf .i64) p))]) Zf ?_ (λenv H i=>?_)
 .refine G0 1 Z ?_;refine Lp [0] [] (λd=>[(7,.osl 0 0 d.1.length 1),(8,I d.2)]) (λd=>[(0,.row 3 1 (map (Qf .i64) d.1))]) N Zf (Lr [0]) λd V f F=>?_;refine G0 9 Z (Yk Z f (λG f=>?_) (λG f=>?_))
  .refine Gc 2 Z (Qk f ?_);obtain rfl:=Oj F f;exact Gx 1 Z (QF (Lr [0]))
  refine Gc 3 Z (DKs 8 [7] [(0,0,1),(0,0,0),(0,0,0),(0,0,0),(0,0,0),(0,0,0),(0,0,0),(1,0,0)] (by kernel_rfl) (Dk 3 Z ?_));obtain⟨W,g,f⟩:=Yl f;refine DK.wo (x:=.osl 0 (0+toNat d.2) (toNat (d.1.length:Int)-toNat d.2) 1) ?_ ?_
  .refine vX (.osl 0 (0+toNat d.2) (toNat (d.1.length:Int)-toNat d.2) 1) (YU (l:=d.1) g EA ED (.inr ⟨_,Z,Z⟩) (.inl ⟨Z,Z⟩)) ?_;exact Wp
  refine Dk 2 Z ?_;obtain⟨O,u,f⟩:=Yl f;refine DK.wo (x:=.osl 0 (0+toNat 0) (toNat d.2-toNat 0) 1) ?_ ?_
  .refine vX (.osl 0 (0+toNat 0) (toNat d.2-toNat 0) 1) (YU (l:=d.1) u EA ED (.inl ⟨Z,Z⟩) (.inr ⟨_,Z,Z⟩)) ?_;exact Wp
  obtain⟨P,j,f⟩:=Yl f;refine DK.op (x:=I ((min O.length ((d.1.length:Int).toNat-d.2.toNat):Nat):Int)) (X1:=[.row 3 1 (map (Qf .i64) P)]) ?_ ?_
  .refine vH (Ql5 (e:=(Qf .i64)) g j EA ED (QoN (b:=0) u)) ?_;exact FE Z Wp
  refine DK.done Z Z ?_;refine QG (QC (s:=7) Z (congrArg (λn=>A.osl 0 0 n 1) (QeZ g j))) ?_;refine QG (QC (s:=35) Z (congrArg (λn=>A.osl 0 0 n 1) (QeZ g j))) ?_;refine QG (QC (s:=39) Z (congrArg (λn=>A.osl 0 0 n 1) (QeZ g j))) ?_;refine QG (QC (s:=42) Z (congrArg (λn=>A.osl 0 0 n 1) (QeZ g j))) ?_;exact Go 4 Z (Qj f (Lr [0]))
 exact Gx 1 Z (Qd i (Gc 7 Z (Rt h 4 [0])))
def winC(lo hi v:Int)(k:Nat)(l l':List Int):Option Unit:=bif ((0+lo.toNat)==k*v.toNat)&&(hi.toNat-lo.toNat==v.toNat)&&decide (k+1<=Yn)&&(l.length==l'.length)then some ()else none
theorem Qn6{lo hi v:Int}{k:Nat}{l l':List Int}{u:Unit}(h:winC lo hi v k l l'=some u):0+lo.toNat=k*v.toNat/\hi.toNat-lo.toNat=v.toNat/\k+1<=Yn/\l.length=l'.length:=by
  unfold winC at h;cases q:((0+lo.toNat)==k*v.toNat)&&(hi.toNat-lo.toNat==v.toNat)&&decide (k+1<=Yn)&&(l.length==l'.length)with
  |false=>rw[q]at h;cases h
  |true=>
    simp only[XV,Vv,Vn]at q;exact⟨q.1.1.1,q.1.1.2,q.1.2,q.2⟩
def winE(l:List Int)(n c:Nat):Option (List (List Int)):=bif decide (c*n<=l.length)then some (Qmh l n c)else none
theorem Qn5{l:List Int}{n c:Nat}{r:List (List Int)}(h:winE l n c=some r):c*n<=l.length/\r=Qmh l n c:=by
  unfold winE at h;by_cases q:c*n<=l.length
  · simp only[q,decide_true,Vl]at h;exact⟨q,(XX h).symm⟩
  · simp[q]at h
def F_lp(n:Nat)(d:System)(a:(List Int)×Int×Nat):Option (Ctl ((List Int)×Int×Nat) ((List Int)×Nat)):=(bif decide (a.2.1<d.Vertices)then(slc a.1 (i64.wrap (a.2.1*d.Vertices)) (i64.wrap ((i64.wrap (a.2.1+1))*d.Vertices))).bind λh=>(QcS a.1 (i64.wrap (a.2.1*d.Vertices)) (i64.wrap ((i64.wrap (a.2.1+1))*d.Vertices)) a.2.1).bind λi=>(Qbo a.1 (i64.wrap (a.2.1*d.Vertices)+a.2.1) 0).bind λe=>(mk d.Vertices 0).bind λg=>(F_dm n d.Vertices d.Edges e (i64.wrap (a.2.1*d.Vertices)) (i64.wrap ((i64.wrap (a.2.1+1))*d.Vertices)) g).bind λf=>(winC (i64.wrap (a.2.1*d.Vertices)) (i64.wrap ((i64.wrap (a.2.1+1))*d.Vertices)) d.Vertices a.2.2 f.1 e).bind λ_=>some (.cont (f.1,i64.wrap (a.2.1+1),a.2.2+1))else some (.done (a.1,a.2.2)))
def F_ja(n:Nat)(a:System):Option (List (List Int)):=(F_jr n [1152921504606846976] (i64.wrap (a.Vertices*a.Vertices))).bind λe=>(iter (F_lp n a) n (e,0,0):Option ((List Int)×Nat)).bind λd=>winE d.1 (toNat a.Vertices) d.2
theorem k_ja(n:Nat)(m:System)(r:List (List Int))(h:F_ja n m=some r):Csm prog 62 [.agg (System.c m)] [] (λr=>.rsl 1 (map (Qx 1 (Qf .i64)) r)) r:=by
 refine QO func62 Z Z Z ?_;refine G0 15 Z ?_;refine vH (Ek (xs:=[.const (.int .i64 1152921504606846976)]) (es:=map (Qf .i64) [1152921504606846976]) Qz Z Z Z Z Z ⟨Z,trivial⟩ Z Z) ?_;refine FE Z (Go 3 Z ?_);refine QG (Qca [(10,_)] Z Z (QnR.cons Z Ep QnR.nil) (Ec (Ec (Qap _)))) ?_;refine Cd [] h (k_jr _ _ _) Z λR M h=>FE Z (Go 15 Z (Bd h λy G h=>?_));refine Ct y [2,0] [] (λb=>[(5,.osl 1 0 b.2 1)]) (λb=>[(0,.row 3 1 (map (Qf .i64) b.1)),(1,.wins 66 0 (toNat m.Vertices) b.2)]) Zf ?_ (λenv H J=>?_)
 .refine G0 1 Z ?_;refine Lp [0,2,0] [1,3,15] (λd=>[(4,.osl 1 0 d.1.length 1),(5,.osl 2 0 d.2.2 1),(16,I d.2.1)]) (λd=>[(1,.row 3 1 (map (Qf .i64) d.1)),(2,.wins 66 1 (toNat m.Vertices) d.2.2)]) G Zf (En (Er (s:=5) (k:=1) (t:=66) (XQ Z) Z) (En (QpJ (i:=3) (b:=2) (n:=toNat m.Vertices) Z) (Lr [0,2,3]))) λd N g z=>?_;refine G0 6 Z (Yk Z g (λB g=>?_) (λB g=>?_))
  .refine Gc 2 Z (Qk g ?_);obtain rfl:=Oj z g;exact Gx 1 Z (QF (Lr [1,2]))
  refine Gc 24 Z (Bd g λO E g=>?_);refine vV (x:=(.osl 1 (0+toNat (i64.wrap (d.2.1*m.Vertices))) (toNat (i64.wrap ((i64.wrap (d.2.1+1))*m.Vertices))-toNat (i64.wrap (d.2.1*m.Vertices))) 1)) (Ql3 (l:=d.1) E EA ED) ?_;refine Go 7 Z (Bd g λP p g=>?_);refine vX (.ptr 1 (toNat (i64.wrap (d.2.1*m.Vertices)+d.2.1)*1)) (JJ (l:=d.1) (lo:=i64.wrap (d.2.1*m.Vertices)) (hi:=i64.wrap ((i64.wrap (d.2.1+1))*m.Vertices)) p EA ED) ?_;refine Bd g λq u g=>?_;refine vU (YV (e:=(Qf .i64)) (k:=1) (f:=0) (Qaz p) u ED Z Z) ?_;refine FE Z ?_;refine QG (QC (s:=4) Z (congrArg (λn=>A.osl 1 0 n 1) (Q5 u))) ?_;refine Go 3 Z ?_;obtain⟨w,F,g⟩:=Yl g;refine YL 4 0 [35,36,37,38] [false,false,false,true] [[],[],[],[]] [[],[3]] [[(0,0),(1,1)],[(0,0),(1,1)],[(0,0)],[(0,1)]] [.agg (System.c m),.osl 1 (0+toNat (i64.wrap (d.2.1*m.Vertices))) (toNat (i64.wrap ((i64.wrap (d.2.1+1))*m.Vertices))-toNat (i64.wrap (d.2.1*m.Vertices))) 1,I m.Vertices,.osl 3 0 w.length 1] [[.cells 51 (System.c m),.row 3 1 (map (Qf .i64) q),.wins 66 1 (toNat m.Vertices) d.2.2],[.cells 51 (System.c m),.row 3 1 (map (Qf .i64) q),.wins 66 1 (toNat m.Vertices) d.2.2,.row 3 1 (map (Qf .i64) w)]] ([.cells 51 (System.c m),.row 3 1 (map (Qf .i64) q),.wins 66 1 (toNat m.Vertices) d.2.2,.row 3 1 (map (Qf .i64) w)]) draws Z Z Z Z Z Z Z ?_ Z ?_
  .refine Qh4.cons (Qb (v0 Z Z) (Qb (v0 Z Z) (Qc))) (Qh4.cons (Qb (v0 Z Z) (Qb (v0 Z Z) (Qc))) (Qh4.cons (Qb (v0 Z Z) (Qc)) (Qh4.cons ?_ (Qh4.nil))));refine Qb ?_ (Qc);refine Om1 Z (sD 2 sN) ?_;refine vH (Qk4 (e:=(Qf .i64)) (zv:=0) (a:=(I 0)) F Qz EP Eo Z Z Z Z) ?_;exact FE Z Wp
  refine Go 2 Z (Cd [4,1,3] g (k_dm _ _ _ _ _ _ _) Z λQ L g=>FE Z (Go 5 Z ?_));refine vH (YN (xs:=[.tmp 43]) QoZ Z Z Z Z Z ⟨Z,trivial⟩ Z) ?_;refine FE Z ?_;obtain⟨zW,hW,g⟩:=Yl g;obtain⟨hW1,hW2,hW3,hW4⟩:=Qn6 hW;refine vH (QnM (i:=2) (j:=5) (b:=1) QoZ EU hW3 hW1 hW2) ?_;refine FE Z ?_;refine QG (QC (s:=4) Z (congrArg (λn=>A.osl 1 0 n 1) hW4.symm)) ?_;exact Go 8 Z (Qj g (Lr [0,1,6]))
 obtain⟨hc,rfl⟩:=Qn5 h;exact Gx 1 Z (Qd (En J (QoP (s:=5) (i:=1) (b:=0) (l:=y.1) (e:=Qf .i64) hc Z Z Z Z Z)) (Gc 7 Z (Rt (Z:some _=some _) 2 [])))
def F_iv(n:Nat)(a:System):Option ((List (List Int))×(List Int)×Int):=(F_iz n a).bind λd=>(bif (d != 0)then some ([],[],d)else(F_jj n a).bind λe=>(bif decide (0<(e.length:Int))then some ([],e,151)else(F_ja n a).bind λf=>some (f,[],0)))
theorem k_iv(n:Nat)(a:System):Kq (F_iv n a) 29 [.agg (System.c a)] [] (λr=>.tup [.rsl 1 (map (Qx 1 (Qf .i64)) r.1),.osl 0 0 r.2.1.length 1,I r.2.2]) (λr=>[.row 3 1 (map (Qf .i64) r.2.1)]):=by
 refine Kg 12 func29 Z Z Z Z λr h=>Cz [] h (k_iz _ _) Z λj f h=>Go 9 Z (Cn Z h (λd h=>?_) (λd h=>?_))
 .refine Gc 10 Z ?_;obtain rfl:=Oi h;refine⟨[(2,_),(3,_),(4,_)],_,_,?_,Qb9 Z Z Z Z,Z,Z⟩;refine En (Er (s:=3) (k:=1) (t:=3) (XQ Z) Z) ?_;refine En (Qk7 (s:=2) (k:=1) Z) ?_;exact Lr [1]
 refine Gc 6 Z (Cd [] h (k_jj _ _) Z λl g h=>FE Z (Go 10 Z (Cn Z h (λe h=>?_) (λe h=>?_))))
 .refine Gc 10 Z ?_;obtain rfl:=Oi h;refine⟨[(2,_),(3,_),(4,_)],_,_,?_,Qb9 Z Z Z Z,Z,Z⟩;refine En (Qk7 (s:=2) (k:=1) Z) ?_;exact Lr [1]
 refine Gc 5 Z (Cd [] h (k_ja _ _) Z λm i h=>FE Z (Go 6 Z ?_));obtain rfl:=Oi h;refine⟨[(2,_),(3,_),(4,_)],_,_,?_,Qb9 Z Z Z Z,Z,Z⟩;refine En (Er (s:=3) (k:=1) (t:=3) (XQ Z) Z) ?_;exact Lr [2]
def F_bb(n:Nat)(d:Course)(e:List Fact):Option ((List Segment)×(List (List Int))×Int):=(F_as n d e).bind λa=>(bif (a.2.2 != 0)then some ([],[],a.2.2)else(F_iv n ({Vertices:=a.1,Edges:=a.2.1:System})).bind λf=>(bif (f.2.2 != 0)then some ([],[],160)else(F_at n d e).bind λg=>some (g.1,f.1,0)))
theorem QmO(n:Nat)(e:Course)(f:List Fact):Kq (F_bb n e f) 22 [.agg (Course.c e),.rsl 57 (map Fact.c f)] [] (λr=>.tup [.agg [.rsl 3 (map Segment.c r.1),.rsl 1 (map (Qx 1 (Qf .i64)) r.2.1)],I r.2.2]) (λr=>[.cells 58 [.rsl 3 (map Segment.c r.1),.rsl 1 (map (Qx 1 (Qf .i64)) r.2.1)]]):=by
 refine Kg 11 func22 Z Z Z Z λr h=>Cd [] h (k_as _ _ _) Z λp k h=>FE Z (Go 15 Z (Cn Z h (λg h=>?_) (λg h=>?_)))
 .refine Gc 10 Z ?_;obtain rfl:=Oi h;exact Rx [1] [4,5] Z (Qt Z Z (Qka.cons (Qg isAgg58 GA Z Z Z) (Qka.cons Qev.tmp Qka.nil))) ⟨Z,Z⟩
 refine Gc 5 Z (Cd [] h (k_iv _ _) Z λa l h=>FE Z (Go 16 Z (Cn Z h (λj h=>?_) (λj h=>?_))))
 .refine Gc 9 Z ?_;obtain rfl:=Oi h;exact Rx [1] [4,5] Z (Qt Z Z (Qka.cons (Qg isAgg58 GA Z Z Z) (Qka.cons Qev.tmp Qka.nil))) ⟨Z,Z⟩
 refine Gc 6 Z (Cd [] h (k_at _ _ _) Z λd m h=>FE Z (Go 17 Z ?_));obtain rfl:=Oi h;refine⟨[(4,.ptr 0 0),(5,I ((d.1,a.1,0).2.2))],[.cells 58 [.rsl 3 (map Segment.c ((d.1,a.1,0).1)),.rsl 1 (map (Qx 1 (Qf .i64)) ((d.1,a.1,0).2.1))]],_,?_,Qt Z Z (Qka.cons (Qg isAgg58 GA Z Z Z) (Qka.cons Qev.tmp Qka.nil)),Z,Z⟩;refine En (Qca (i:=5) [] Z Z QnR.nil (Ec (FzH.cells (Ed Ep (Ej _)) (Ec (Ec (Ec (Ec (Qap _)))))))) ?_;exact Lr [1]
def F_ay(n:Nat)(a:Int)(d:Int)(e:Int)(f:Int):Option Unit:=some ()
theorem Qlt(n:Nat)(a:Int)(d:Int)(e:Int)(f:Int):Kq (F_ay n a d e f) 33 [I a,I d,I e,I f] [] (λ_=>.agg (Fact.c ({Ul with No:=a,Kind:=3,Beacon:={Mat:=1,Epoch:=0,Local:=d,True:=e,Err:=f:Beacon}:Fact}))) (λ_=>[.cells 96 (Fact.c ({Ul with No:=a,Kind:=3,Beacon:={Mat:=1,Epoch:=0,Local:=d,True:=e,Err:=f:Beacon}:Fact}))]):=by
 refine Kg 17 func33 Z Z Z Z λr h=>?_;obtain rfl:=Oi h;exact Rx [0] [8] Z (Q3 Z (Qg EO EC Z Z Z)) ⟨Z,Z⟩
def F_jt(n:Nat)(a:Int):Option Bool:=((bif decide (a<(-2199023255552))then some true else some (decide (2199023255552<a))):Option Bool).bind λb2=>some b2
theorem k_jt(n:Nat)(d:Int):Ks (F_jt n d) 58 [I d] [] (λr=>.bool r):=by
 refine Kg 6 func58 Z Z Z Z λr h=>Bd h λb2 a h=>?_;refine Ct b2 [] [] (λb2=>[(2,.bool b2)]) Ze Zf ?_ (λenv H e=>?_)
 .refine G0 4 Z (Is 5 a Z (λf a=>?_) (λf a=>?_))
  iterate 2 exact Go 5 Z (Cl a [])
 exact Gx 1 Z (Qd e (Gc 1 Z (Rt h 2 [])))
def F_ls(n:Nat)(d:List Int)(a:Int):Option (Ctl Int (Ctl Unit Int)):=(bif decide (a<(d.length:Int))then(idx d a).bind λe=>(F_jt n e).bind λf=>(bif f then some (.done (.done a))else some (.cont (i64.wrap (a+1))))else some (.done (.cont ())))
def F_hz(n:Nat)(e:List Int):Option Int:=(iter (F_ls n e) n 0:Option (Ctl Unit Int)).bind λd=>match d with|.cont a=>(some (-1))|.done a=>some a
theorem k_hz(n:Nat)(j:List Int):Ks (F_hz n j) 99 [.rsl 1 (map (Qf .i64) j),.fn (.func 58) [] []] [] (λr=>I r):=by
 refine Kg 9 func99 Z Z Z Z λr h=>Lm Z (Go 3 Z (Bd h λk l h=>?_));refine Jk (b:=k) [] [] Ze Ze Zf ?_ (λq env H m p=>?_)
 .refine G0 1 Z ?_;refine Lp [] [0,1,7] (λe=>[(8,I e)]) Ze l Zf (Lr []) λe t a d=>?_;refine G0 6 Z (Yk Z a (λf a=>?_) (λf a=>?_))
  .refine Gc 2 Z (Qk a ?_);obtain rfl:=Oj d a;exact Gx 1 Z (Qq Z (Lr []))
  refine Gc 15 Z (Bd a λu g a=>Iz g Z (Go 1 Z (Cz [] a (k_jt _ _) Z λw s a=>Go 2 Z (Cn Z a (λi a=>?_) (λi a=>?_)))))
  .refine Gc 9 Z (Qy a ?_);obtain rfl:=Oj d a;exact Gx 1 Z (Qu (Gx 1 Z (Rt h 4 [])))
  exact Gc 7 Z (Qj a (Lr []))
 subst m;exact Gx 1 Z (Qd p (Gc 6 Z (Rt h 4 [])))
def F_jv(n:Nat)(a:List Int):Option Bool:=(F_hz n a).bind λd=>some (decide (0<=d))
theorem k_jv(n:Nat)(a:List Int):Ks (F_jv n a) 57 [.rsl 1 (map (Qf .i64) a),.fn (.func 58) [] []] [] (λr=>.bool r):=by
 exact Kg 9 func57 Z Z Z Z λr h=>Cz [] h (k_hz _ _) Z λe d h=>Go 5 Z (Rt h 4 [])
end Go.Sw
