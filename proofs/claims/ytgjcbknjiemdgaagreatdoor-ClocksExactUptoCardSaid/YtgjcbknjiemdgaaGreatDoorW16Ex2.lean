/- What the functions compute that ClocksExact reaches, and that their calls refine it (part 2 of 3). -/
import Derived.Test.YtgjcbknjiemdgaaGreatDoorW16Ex1
set_option linter.unusedVariables false
set_option linter.unusedSimpArgs false
set_option maxRecDepth 100000
set_option maxHeartbeats 4000000
namespace Go.Sw
open Go.Proofs Tryz
def Q_facts_open_rxk(b:Fact)(d:Int):U_facts_open_rxk->Go.Sw.A->Qd->Prop
  |.c0 x,a,H=>a=.tup [.agg [.osl 2 0 8 3,.fn (.func 252) [] []],.bool true]/\H=[.cells 96 (Fact.c b),.cells 3 [I d],.rowr 297 3 [[.ptr 0 4,I 1,I 9999],[.ptr 0 5,I 0,I 7],[.ptr 0 6,I 0,I 31],[.ptr 0 7,I (-1099511627776),I 1099511627776],[.ptr 0 8,I 0,I 120],[.ptr 0 9,I 0,I 1048576],[.ptr 0 10,I 0,I 9999],[.ptr 0 11,I 0,I 1048576]],.cells 287 [.osl 2 0 8 3,.fn (.func 252) [] []]]
  |.c1 x,a,H=>a=.tup [.agg [.osl 2 0 4 3,.fn (.func 252) [] []],.bool true]/\H=[.cells 96 (Fact.c b),.cells 3 [I d],.rowr 297 3 [[.ptr 0 12,I 0,I 39],[.ptr 0 13,I 0,I 255],[.ptr 0 14,I 0,I 1048576],[.ptr 0 15,I (-1099511627776),I 1099511627776]],.cells 287 [.osl 2 0 4 3,.fn (.func 252) [] []]]
  |.c2 x,a,H=>a=.tup [.agg [.osl 2 0 5 3,.fn (.func 252) [] []],.bool true]/\H=[.cells 96 (Fact.c b),.cells 3 [I d],.rowr 297 3 [[.ptr 0 16,I 0,I 39],[.ptr 0 17,I 0,I 255],[.ptr 0 18,I (-1099511627776),I 1099511627776],[.ptr 0 19,I (-1099511627776),I 1099511627776],[.ptr 0 20,I 0,I 1099511627776]],.cells 287 [.osl 2 0 5 3,.fn (.func 252) [] []]]
  |.c3 x,a,H=>a=.tup [.agg [.osl 2 0 8 3,.fn (.func 253) [] [.ptr 3 0]],.bool true]/\H=[.cells 96 (Fact.c b),.cells 3 [I d],.rowr 297 3 [[.ptr 0 21,I 0,I 39],[.ptr 0 22,I 0,I 255],[.ptr 0 23,I (-1099511627776),I 1099511627776],[.ptr 0 24,I 0,I 39],[.ptr 0 25,I 0,I 255],[.ptr 0 26,I (-1099511627776),I 1099511627776],[.ptr 0 27,I (-1099511627776),I 1099511627776],[.ptr 0 28,I (-1099511627776),I 1099511627776]],.cells 339 [.ptr 0 21],.cells 287 [.osl 2 0 8 3,.fn (.func 253) [] [.ptr 3 0]]]
  |.c4 x,a,H=>a=.tup [.agg [.osl 2 0 4 3,.fn (.func 254) [] [.ptr 3 0]],.bool true]/\H=[.cells 96 (Fact.c b),.cells 3 [I d],.rowr 297 3 [[.ptr 0 29,I 1,I 9999],[.ptr 0 30,I 0,I 255],[.ptr 0 31,I (-1099511627776),I 1099511627776],[.ptr 0 32,I (-1099511627776),I 1099511627776]],.cells 340 [.ptr 0 29],.cells 287 [.osl 2 0 4 3,.fn (.func 254) [] [.ptr 3 0]]]
  |.c5 x,a,H=>a=.tup [.agg [.osl 2 0 4 3,.fn (.func 255) [] [.ptr 3 0]],.bool true]/\H=[.cells 96 (Fact.c b),.cells 3 [I d],.rowr 297 3 [[.ptr 0 33,I 0,I 39],[.ptr 0 34,I 0,I 255],[.ptr 0 35,I (-1099511627776),I 1099511627776],[.ptr 0 36,I (-1099511627776),I 1099511627776]],.cells 341 [.ptr 0 33],.cells 287 [.osl 2 0 4 3,.fn (.func 255) [] [.ptr 3 0]]]
  |.c6 x,a,H=>a=.tup [.agg [.osl 2 0 2 3,.fn (.func 256) [] [.ptr 3 0]],.bool true]/\H=[.cells 96 (Fact.c b),.cells 3 [I d],.rowr 297 3 [[.ptr 0 37,I 1,I 9999],[.ptr 0 38,I 1,I 9999]],.cells 342 [.ptr 0 37],.cells 287 [.osl 2 0 2 3,.fn (.func 256) [] [.ptr 3 0]]]
  |.c7 x,a,H=>a=.tup [.agg [.osl 2 0 4 3,.fn (.func 252) [] []],.bool true]/\H=[.cells 96 (Fact.c b),.cells 3 [I d],.rowr 297 3 [[.ptr 0 39,I 1,I 1048576],[.ptr 0 40,I 1,I 9999],[.ptr 0 41,I 0,I 31],[.ptr 0 42,I 0,I 255]],.cells 287 [.osl 2 0 4 3,.fn (.func 252) [] []]]
  |.c8 x,a,H=>a=.tup [.agg [.osl 2 0 4 3,.fn (.func 252) [] []],.bool true]/\H=[.cells 96 (Fact.c b),.cells 3 [I d],.rowr 297 3 [[.ptr 0 43,I 1,I 1048576],[.ptr 0 44,I 0,I 9999],[.ptr 0 45,I 0,I 1125899906842624],[.ptr 0 46,I 0,I 1]],.cells 287 [.osl 2 0 4 3,.fn (.func 252) [] []]]
  |.c9 x,a,H=>a=.tup [.agg [.osl 2 0 6 3,.fn (.func 252) [] []],.bool true]/\H=[.cells 96 (Fact.c b),.cells 3 [I d],.rowr 297 3 [[.ptr 0 47,I 1,I 1048576],[.ptr 0 48,I 1,I 2],[.ptr 0 49,I 1,I 5],[.ptr 0 50,I x.1,I x.2.1],[.ptr 0 51,I x.2.2.1,I x.2.2.2.1],[.ptr 0 52,I x.2.2.2.2.1,I x.2.2.2.2.2]],.cells 287 [.osl 2 0 6 3,.fn (.func 252) [] []]]
  |.c10 x,a,H=>a=.tup [.agg [.osl 2 0 2 3,.fn (.func 252) [] []],.bool true]/\H=[.cells 96 (Fact.c b),.cells 3 [I d],.rowr 297 3 [[.ptr 0 53,I 1,I 1048576],[.ptr 1 0,I 0,I 1]],.cells 287 [.osl 2 0 2 3,.fn (.func 252) [] []]]
  |.c11 x,a,H=>a=.tup [.agg [.nils,.fn (.func 252) [] []],.bool true]/\H=[.cells 96 (Fact.c b),.cells 3 [I d],.cells 287 [.nils,.fn (.func 252) [] []]]
  |.c12 x,a,H=>a=.tup [.agg [.osl 2 0 2 3,.fn (.func 252) [] []],.bool true]/\H=[.cells 96 (Fact.c b),.cells 3 [I d],.rowr 297 3 [[.ptr 0 55,I 0,I 31],[.ptr 0 56,I 1,I 1048576]],.cells 287 [.osl 2 0 2 3,.fn (.func 252) [] []]]
  |.c13 x,a,H=>a=.tup [.agg [.nils,.nilf],.bool false]/\H=[.cells 96 (Fact.c b),.cells 3 [I d],.cells 287 [.nils,.nilf]]
def F_au(n:Nat)(a:Fact)(d:Int):Option U_facts_open_rxk:=
  (bif (a.Kind==1)then some (U_facts_open_rxk.c0 ())else(bif (a.Kind==2)then some (U_facts_open_rxk.c1 ())else(bif (a.Kind==3)then some (U_facts_open_rxk.c2 ())else(bif (a.Kind==4)then some (U_facts_open_rxk.c3 ())else(bif (a.Kind==5)then some (U_facts_open_rxk.c4 ())else(bif (a.Kind==6)then some (U_facts_open_rxk.c5 ())else(bif (a.Kind==7)then some (U_facts_open_rxk.c6 ())else(bif (a.Kind==8)then some (U_facts_open_rxk.c7 ())else(bif (a.Kind==9)then some (U_facts_open_rxk.c8 ())else(bif (a.Kind==10)then((bif (a.Ruling.Kind==1)then some (a.Ruling.Kind==1)else some (a.Ruling.Kind==2)):Option Bool).bind λc=>((bif c then some ({least:=0,most:=0:Ub},{least:=0,most:=0:Ub},{least:=0,most:=0:Ub})else(bif (a.Ruling.Kind==3)then some ({least:=1,most:=9999:Ub},{least:=0,most:=255:Ub},{least:=1,most:=1099511627776:Ub})else(bif (a.Ruling.Kind==4)then some ({least:=1,most:=9999:Ub},{least:=0,most:=255:Ub},{least:=1,most:=64:Ub})else some ({least:=1,most:=9999:Ub},{least:=0,most:=255:Ub},{least:=0,most:=0:Ub})))):Option (Ub×Ub×Ub)).bind λb=>some (U_facts_open_rxk.c9 (b.1.least,b.1.most,b.2.1.least,b.2.1.most,b.2.2.least,b.2.2.most))else(bif (a.Kind==11)then some (U_facts_open_rxk.c10 ())else(bif (a.Kind==12)then some (U_facts_open_rxk.c11 ())else(bif (a.Kind==13)then some (U_facts_open_rxk.c12 ())else some (U_facts_open_rxk.c13 ()))))))))))))))
theorem k_au(n:Nat)(b:Fact)(d:Int)(r:U_facts_open_rxk)(h:F_au n b d=some r):
    C prog 202 [.ptr 0 0,.ptr 1 0] [.cells 96 (Fact.c b),.cells 3 [I d]] (Q_facts_open_rxk b d r):=by
 refine Qc func202 Z Z Z ?_;refine G0 22 Z (Cn Z h (λu h=>?_) (λu h=>?_))
 .refine Gc 9 Z (DSs 40 Z (D 40 Z (Eh Z ?_)));refine vH (Yz (xs:=[.tmp 32,.tmp 37,.tmp 42,.tmp 47,.tmp 52,.tmp 57,.tmp 62,.tmp 67]) Y8 Z Z Z Z Z ⟨Z,Z,Z,Z,Z,Z,Z,Z,trivial⟩ Z) ?_;refine FE Z (Go 8 Z ?_);obtain rfl:=Oi h;exact Rx [0,1,3,2] [4,5] Z (Qm Z Z (Qjb.cons (Qj isAgg287 sizeOf287 Z Z Z) (Qjb.cons Qd0.tmp Qjb.nil))) ⟨Z,Z⟩
 refine Gc 6 Z (Cn Z h (λw h=>?_) (λw h=>?_))
 .refine Gc 9 Z (DSs 20 Z (D 20 Z (Eh Z ?_)));refine vH (Yz (xs:=[.tmp 79,.tmp 84,.tmp 89,.tmp 94]) Y8 Z Z Z Z Z ⟨Z,Z,Z,Z,trivial⟩ Z) ?_;refine FE Z (Go 8 Z ?_);obtain rfl:=Oi h;exact Rx [0,1,3,2] [4,5] Z (Qm Z Z (Qjb.cons (Qj isAgg287 sizeOf287 Z Z Z) (Qjb.cons Qd0.tmp Qjb.nil))) ⟨Z,Z⟩
 refine Gc 6 Z (Cn Z h (λx h=>?_) (λx h=>?_))
 .refine Gc 9 Z (DSs 25 Z (D 25 Z (Eh Z ?_)));refine vH (Yz (xs:=[.tmp 106,.tmp 111,.tmp 116,.tmp 121,.tmp 126]) Y8 Z Z Z Z Z ⟨Z,Z,Z,Z,Z,trivial⟩ Z) ?_;refine FE Z (Go 8 Z ?_);obtain rfl:=Oi h;exact Rx [0,1,3,2] [4,5] Z (Qm Z Z (Qjb.cons (Qj isAgg287 sizeOf287 Z Z Z) (Qjb.cons Qd0.tmp Qjb.nil))) ⟨Z,Z⟩
 refine Gc 6 Z (Cn Z h (λy h=>?_) (λy h=>?_))
 .refine Gc 10 Z (DAs 42 40 [0,0,0,0,0,0,0,0,0,0,0,0,0,0,0,0,0,0,0,0,0,0,0,0,0,0,0,0,0,0,0,0,0,0,0,0,0,0,0,0,1,3] (by kernel_rfl) (Da 40 Z ?_));refine QbS (Yz (xs:=[.tmp 138,.tmp 143,.tmp 148,.tmp 153,.tmp 158,.tmp 163,.tmp 168,.tmp 173]) Y8 Z Z Z Z Z ⟨Z,Z,Z,Z,Z,Z,Z,Z,trivial⟩ Z) Z Z (Db 1 Z (DB.done Z (Go 8 Z ?_)));obtain rfl:=Oi h;exact Rx [0,1,4,3,2] [4,5] Z (Qm Z Z (Qjb.cons (Qj isAgg287 sizeOf287 Z Z Z) (Qjb.cons Qd0.tmp Qjb.nil))) ⟨Z,Z⟩
 refine Gc 6 Z (Cn Z h (λz h=>?_) (λz h=>?_))
 .refine Gc 10 Z (DAs 22 20 [0,0,0,0,0,0,0,0,0,0,0,0,0,0,0,0,0,0,0,0,1,3] (by kernel_rfl) (Da 20 Z ?_));refine QbS (Yz (xs:=[.tmp 186,.tmp 191,.tmp 196,.tmp 201]) Y8 Z Z Z Z Z ⟨Z,Z,Z,Z,trivial⟩ Z) Z Z (Db 1 Z (DB.done Z (Go 8 Z ?_)));obtain rfl:=Oi h;exact Rx [0,1,4,3,2] [4,5] Z (Qm Z Z (Qjb.cons (Qj isAgg287 sizeOf287 Z Z Z) (Qjb.cons Qd0.tmp Qjb.nil))) ⟨Z,Z⟩
 refine Gc 6 Z (Cn Z h (λB h=>?_) (λB h=>?_))
 .refine Gc 10 Z (DAs 22 20 [0,0,0,0,0,0,0,0,0,0,0,0,0,0,0,0,0,0,0,0,1,3] (by kernel_rfl) (Da 20 Z ?_));refine QbS (Yz (xs:=[.tmp 214,.tmp 219,.tmp 224,.tmp 229]) Y8 Z Z Z Z Z ⟨Z,Z,Z,Z,trivial⟩ Z) Z Z (Db 1 Z (DB.done Z (Go 8 Z ?_)));obtain rfl:=Oi h;exact Rx [0,1,4,3,2] [4,5] Z (Qm Z Z (Qjb.cons (Qj isAgg287 sizeOf287 Z Z Z) (Qjb.cons Qd0.tmp Qjb.nil))) ⟨Z,Z⟩
 refine Gc 6 Z (Cn Z h (λE h=>?_) (λE h=>?_))
 .refine Gc 10 Z (DAs 12 10 [0,0,0,0,0,0,0,0,0,0,1,3] (by kernel_rfl) (Da 10 Z ?_));refine QbS (Yz (xs:=[.tmp 242,.tmp 247]) Y8 Z Z Z Z Z ⟨Z,Z,trivial⟩ Z) Z Z (Db 1 Z (DB.done Z (Go 8 Z ?_)));obtain rfl:=Oi h;exact Rx [0,1,4,3,2] [4,5] Z (Qm Z Z (Qjb.cons (Qj isAgg287 sizeOf287 Z Z Z) (Qjb.cons Qd0.tmp Qjb.nil))) ⟨Z,Z⟩
 refine Gc 6 Z (Cn Z h (λF h=>?_) (λF h=>?_))
 .refine Gc 9 Z (DSs 20 Z (D 20 Z (Eh Z ?_)));refine vH (Yz (xs:=[.tmp 260,.tmp 265,.tmp 270,.tmp 275]) Y8 Z Z Z Z Z ⟨Z,Z,Z,Z,trivial⟩ Z) ?_;refine FE Z (Go 8 Z ?_);obtain rfl:=Oi h;exact Rx [0,1,3,2] [4,5] Z (Qm Z Z (Qjb.cons (Qj isAgg287 sizeOf287 Z Z Z) (Qjb.cons Qd0.tmp Qjb.nil))) ⟨Z,Z⟩
 refine Gc 6 Z (Cn Z h (λG h=>?_) (λG h=>?_))
 .refine Gc 9 Z (DSs 20 Z (D 20 Z (Eh Z ?_)));refine vH (Yz (xs:=[.tmp 287,.tmp 292,.tmp 297,.tmp 302]) Y8 Z Z Z Z Z ⟨Z,Z,Z,Z,trivial⟩ Z) ?_;refine FE Z (Go 8 Z ?_);obtain rfl:=Oi h;exact Rx [0,1,3,2] [4,5] Z (Qm Z Z (Qjb.cons (Qj isAgg287 sizeOf287 Z Z Z) (Qjb.cons Qd0.tmp Qjb.nil))) ⟨Z,Z⟩
 refine Gc 6 Z (Cn Z h (λj h=>?_) (λj h=>?_))
 .refine Gc 9 Z ?_;refine Jj 8 3 [310,311,312,16,17,18,1000006,1000007] [false,false,false,true,true,true,true,true] [[],[],[],[],[],[],[3,4,5],[3,4,5,6]] [[],[3],[4],[5],[3,4],[3,5],[4,5],[3,4,5],[3,4,5,6],[3,4,5,6,7]] [[(0,0),(1,1),(2,2),(3,3),(4,4),(5,5),(6,6),(7,7)],[(0,0),(1,1),(2,2),(3,3),(4,4),(5,5),(6,6),(7,7),(8,8)],[(0,0),(1,1),(2,2),(3,3),(4,4),(5,5),(6,6),(7,7),(8,8),(9,9)],[(0,1),(2,4),(3,5),(6,7)],[(0,2),(1,4),(3,6),(5,7)],[(0,3),(1,5),(2,6),(4,7)],[(7,8)],[(8,9)]] [.agg [I 1,I 9999],.agg [I 0,I 255],.agg [I 0,I 0],.ptr 3 0,.ptr 4 0,.ptr 5 0,.any,.any] [[.cells 96 (Fact.c b),.cells 3 [I d],.cells 287 [.nils,.nilf],.dead,.dead,.dead],[.cells 96 (Fact.c b),.cells 3 [I d],.cells 287 [.nils,.nilf],.cells 295 [I 0,I 0],.dead,.dead],[.cells 96 (Fact.c b),.cells 3 [I d],.cells 287 [.nils,.nilf],.dead,.cells 295 [I 0,I 0],.dead],[.cells 96 (Fact.c b),.cells 3 [I d],.cells 287 [.nils,.nilf],.dead,.dead,.cells 295 [I 0,I 0]],[.cells 96 (Fact.c b),.cells 3 [I d],.cells 287 [.nils,.nilf],.cells 295 [I 0,I 0],.cells 295 [I 0,I 0],.dead],[.cells 96 (Fact.c b),.cells 3 [I d],.cells 287 [.nils,.nilf],.cells 295 [I 0,I 0],.dead,.cells 295 [I 0,I 0]],[.cells 96 (Fact.c b),.cells 3 [I d],.cells 287 [.nils,.nilf],.dead,.cells 295 [I 0,I 0],.cells 295 [I 0,I 0]],[.cells 96 (Fact.c b),.cells 3 [I d],.cells 287 [.nils,.nilf],.cells 295 [I 0,I 0],.cells 295 [I 0,I 0],.cells 295 [I 0,I 0]],[.cells 96 (Fact.c b),.cells 3 [I d],.cells 287 [.nils,.nilf],.cells 295 [I 1,I 9999],.cells 295 [I 0,I 0],.cells 295 [I 0,I 0]],[.cells 96 (Fact.c b),.cells 3 [I d],.cells 287 [.nils,.nilf],.cells 295 [I 1,I 9999],.cells 295 [I 0,I 255],.cells 295 [I 0,I 0]]] ([.cells 96 (Fact.c b),.cells 3 [I d],.cells 287 [.nils,.nilf],.cells 295 [I 1,I 9999],.cells 295 [I 0,I 255],.cells 295 [I 0,I 0]]) draws Z Z Z Z Z Z Z ?_ Z ?_
  .refine Qhh.cons (Qb (v0 Z Z) (Qb (v0 Z Z) (Qb (v0 Z Z) (Qb (v0 Z Z) (Qb (v0 Z Z) (Qb (v0 Z Z) (Qb (v0 Z Z) (Qb (v0 Z Z) (Qf))))))))) (Qhh.cons (Qb (v0 Z Z) (Qb (v0 Z Z) (Qb (v0 Z Z) (Qb (v0 Z Z) (Qb (v0 Z Z) (Qb (v0 Z Z) (Qb (v0 Z Z) (Qb (v0 Z Z) (Qb (v0 Z Z) (Qf)))))))))) (Qhh.cons (Qb (v0 Z Z) (Qb (v0 Z Z) (Qb (v0 Z Z) (Qb (v0 Z Z) (Qb (v0 Z Z) (Qb (v0 Z Z) (Qb (v0 Z Z) (Qb (v0 Z Z) (Qb (v0 Z Z) (Qb (v0 Z Z) (Qf))))))))))) (Qhh.cons ?_ (Qhh.cons ?_ (Qhh.cons ?_ (Qhh.cons ?_ (Qhh.cons ?_ (Qhh.nil))))))))
   .refine Qb ?_ (Qb ?_ (Qb ?_ (Qb ?_ (Qf))))
    .exact Jd.alloc _ 16 295 3 _ Z Z Z Z Z Z Z (OpZ.alloc (v:=(.agg [I 0,I 0])) zeroValue295 (zrC Z)) Z
    .exact Jd.alloc _ 16 295 3 _ Z Z Z Z Z Z Z (OpZ.alloc (v:=(.agg [I 0,I 0])) zeroValue295 (zrC Z)) Z
    .exact Jd.alloc _ 16 295 3 _ Z Z Z Z Z Z Z (OpZ.alloc (v:=(.agg [I 0,I 0])) zeroValue295 (zrC Z)) Z
    .exact Jd.alloc _ 16 295 3 _ Z Z Z Z Z Z Z (OpZ.alloc (v:=(.agg [I 0,I 0])) zeroValue295 (zrC Z)) Z
   .refine Qb ?_ (Qb ?_ (Qb ?_ (Qb ?_ (Qf))))
    .exact Jd.alloc _ 17 295 4 _ Z Z Z Z Z Z Z (OpZ.alloc (v:=(.agg [I 0,I 0])) zeroValue295 (zrC Z)) Z
    .exact Jd.alloc _ 17 295 4 _ Z Z Z Z Z Z Z (OpZ.alloc (v:=(.agg [I 0,I 0])) zeroValue295 (zrC Z)) Z
    .exact Jd.alloc _ 17 295 4 _ Z Z Z Z Z Z Z (OpZ.alloc (v:=(.agg [I 0,I 0])) zeroValue295 (zrC Z)) Z
    .exact Jd.alloc _ 17 295 4 _ Z Z Z Z Z Z Z (OpZ.alloc (v:=(.agg [I 0,I 0])) zeroValue295 (zrC Z)) Z
   .refine Qb ?_ (Qb ?_ (Qb ?_ (Qb ?_ (Qf))))
    .exact Jd.alloc _ 18 295 5 _ Z Z Z Z Z Z Z (OpZ.alloc (v:=(.agg [I 0,I 0])) zeroValue295 (zrC Z)) Z
    .exact Jd.alloc _ 18 295 5 _ Z Z Z Z Z Z Z (OpZ.alloc (v:=(.agg [I 0,I 0])) zeroValue295 (zrC Z)) Z
    .exact Jd.alloc _ 18 295 5 _ Z Z Z Z Z Z Z (OpZ.alloc (v:=(.agg [I 0,I 0])) zeroValue295 (zrC Z)) Z
    .exact Jd.alloc _ 18 295 5 _ Z Z Z Z Z Z Z (OpZ.alloc (v:=(.agg [I 0,I 0])) zeroValue295 (zrC Z)) Z
   .refine Qb ?_ (Qf)
    .refine Om2 Z (sD 3 (sD 0 sN)) ?_;refine vU (Ex Z Z Z sizeOf295 Z Z Z Z Z Z Z) ?_;exact FE Z Wp
   .refine Qb ?_ (Qf)
    .refine Om2 Z (sD 4 (sD 1 sN)) ?_;refine vU (Ex Z Z Z sizeOf295 Z Z Z Z Z Z Z) ?_;exact FE Z Wp
  refine Go 20 Z (Bd h λg e h=>?_);refine Ct g [0,1,2,3,4,5] [4,15,16,17,18,316] (λg=>[(317,.bool g)]) Ze Zf ?_ (λenv H i=>?_)
  .refine G0 0 Z (Cn Z e (λk e=>?_) (λk e=>?_))
   .exact Gc 1 Z (Cl e [0,1,2,3,4,5])
   exact Gc 4 Z (Cl e [0,1,2,3,4,5])
  refine Gx 1 Z (Ef i (Bd h λf a h=>?_));refine Ct f [0,1,2,3,4,5] [4,15,16,17,18] Ze (λf=>[(3,.cells 295 (Ub.c f.1)),(4,.cells 295 (Ub.c f.2.1)),(5,.cells 295 (Ub.c f.2.2))]) Zf ?_ (λenv H i=>?_)
  .refine G0 0 Z (Cn Z a (λl a=>?_) (λl a=>?_))
   .exact Gc 6 Z (Cl a [0,1,2,3,4,5])
   refine Gc 6 Z (Cn Z a (λm a=>?_) (λm a=>?_))
   .exact Gc 4 Z (Cl a [0,1,2,3,4,5])
   refine Gc 6 Z (Cn Z a (λp a=>?_) (λp a=>?_))
   .exact Gc 4 Z (Cl a [0,1,2,3,4,5])
   exact Gc 1 Z (Cl a [0,1,2,3,4,5])
  refine Gx 2 Z (Ef i (Gc 1 Z (DSs 30 Z (D 30 Z (Eh Z ?_)))));refine vH (Yz (xs:=[.tmp 332,.tmp 337,.tmp 342,.tmp 347,.tmp 352,.tmp 357]) Y8 Z Z Z Z Z ⟨Z,Z,Z,Z,Z,Z,trivial⟩ Z) ?_;refine FE Z (Go 8 Z ?_);obtain rfl:=Oi h;exact Rx [0,1,6,2] [4,5] Z (Qm Z Z (Qjb.cons (Qj isAgg287 sizeOf287 Z Z Z) (Qjb.cons Qd0.tmp Qjb.nil))) ⟨Z,Z⟩
 refine Gc 6 Z (Cn Z h (λq h=>?_) (λq h=>?_))
 .refine Gc 1 Z (DSs 9 Z (D 9 Z (Eh Z ?_)));refine vH (Yz (xs:=[.tmp 367,.tmp 370]) Y8 Z Z Z Z Z ⟨Z,Z,trivial⟩ Z) ?_;refine FE Z (Go 8 Z ?_);obtain rfl:=Oi h;exact Rx [0,1,3,2] [4,5] Z (Qm Z Z (Qjb.cons (Qj isAgg287 sizeOf287 Z Z Z) (Qjb.cons Qd0.tmp Qjb.nil))) ⟨Z,Z⟩
 refine Gc 6 Z (Cn Z h (λs h=>?_) (λs h=>?_))
 .refine Gc 10 Z ?_;obtain rfl:=Oi h;exact Rx [0,1,2] [4,5] Z (Qm Z Z (Qjb.cons (Qj isAgg287 sizeOf287 Z Z Z) (Qjb.cons Qd0.tmp Qjb.nil))) ⟨Z,Z⟩
 refine Gc 6 Z (Cn Z h (λt h=>?_) (λt h=>?_))
 .refine Gc 1 Z (DSs 12 Z (D 12 Z (Eh Z ?_)));refine vH (Yz (xs:=[.tmp 383,.tmp 389]) Y8 Z Z Z Z Z ⟨Z,Z,trivial⟩ Z) ?_;refine FE Z (Go 8 Z ?_);obtain rfl:=Oi h;exact Rx [0,1,3,2] [4,5] Z (Qm Z Z (Qjb.cons (Qj isAgg287 sizeOf287 Z Z Z) (Qjb.cons Qd0.tmp Qjb.nil))) ⟨Z,Z⟩
 refine Gc 11 Z ?_;obtain rfl:=Oi h;exact Rx [0,1,2] [4,5] Z (Qm Z Z (Qjb.cons (Qj isAgg287 sizeOf287 Z Z Z) (Qjb.cons Qd0.tmp Qjb.nil))) ⟨Z,Z⟩
def F_b(n:Nat):Option Unit:=
  some ()
theorem k_b(n:Nat)(r:Unit)(h:F_b n=some r):
    Csm prog 252 [] [] (λ_=>.bool true) r:=by
 refine Qc func252 Z Z Z ?_;exact G0 11 Z (Rt h 0 [])
def F_do(n:Nat)(a:Fact):Option Unit:=
  some ()
theorem k_do(n:Nat)(a:Fact)(r:Unit)(h:F_do n a=some r):
    Csm prog 253 [.ptr 0 0] [.cells 339 [.ptr 1 21],.cells 96 (Fact.c a)] (λ_=>.bool (decide (a.Sync.Min<=a.Sync.Max))) r:=by
 refine Qc func253 Z Z Z ?_;exact G0 6 Z (DSs 8 Z (D 8 Z (Eh Z (Go 5 Z (Rt h 1 [0,1])))))
def F_fu(n:Nat)(a:Fact):Option Unit:=
  some ()
theorem k_fu(n:Nat)(a:Fact)(r:Unit)(h:F_fu n a=some r):
    Csm prog 254 [.ptr 0 0] [.cells 340 [.ptr 1 29],.cells 96 (Fact.c a)] (λ_=>.bool (decide (a.Hand.Lo<=a.Hand.Hi))) r:=by
 refine Qc func254 Z Z Z ?_;exact G0 6 Z (DSs 8 Z (D 8 Z (Eh Z (Go 5 Z (Rt h 1 [0,1])))))
def F_dm(n:Nat)(a:Fact):Option Unit:=
  some ()
theorem k_dm(n:Nat)(a:Fact)(r:Unit)(h:F_dm n a=some r):
    Csm prog 255 [.ptr 0 0] [.cells 341 [.ptr 1 33],.cells 96 (Fact.c a)] (λ_=>.bool (decide (a.Silence.Lo<=a.Silence.Hi))) r:=by
 refine Qc func255 Z Z Z ?_;exact G0 6 Z (DSs 8 Z (D 8 Z (Eh Z (Go 5 Z (Rt h 1 [0,1])))))
def F_dv(n:Nat)(a:Fact):Option Unit:=
  some ()
theorem k_dv(n:Nat)(a:Fact)(r:Unit)(h:F_dv n a=some r):
    Csm prog 256 [.ptr 0 0] [.cells 342 [.ptr 1 37],.cells 96 (Fact.c a)] (λ_=>.bool (decide (a.Pair.A<a.Pair.B))) r:=by
 refine Qc func256 Z Z Z ?_;exact G0 6 Z (DSs 8 Z (D 8 Z (Eh Z (Go 5 Z (Rt h 1 [0,1])))))
def F_at(n:Nat)(a:Fact):Option Unit:=
  some ()
theorem k_at(n:Nat)(a:Fact)(r:Unit)(h:F_at n a=some r):
    C prog 204 [.ptr 0 0] [.cells 96 (Fact.c a)] (RQ (λ_=>.osl 1 0 4 3) (λ_=>[.cells 96 (Fact.c a),.rowr 297 3 [[.ptr 0 3,I 1,I 13],[.ptr 0 0,I 0,I 31],[.ptr 0 1,I 1,I 1048576],[.ptr 0 2,I 0,I 1099511627776]]]) r):=by
 refine Qc func204 Z Z Z ?_;refine G0 6 Z (DSs 20 Z (D 20 Z (Eh Z ?_)));refine vH (Yz (xs:=[.tmp 7,.tmp 12,.tmp 17,.tmp 22]) Y8 Z Z Z Z Z ⟨Z,Z,Z,Z,trivial⟩ Z) ?_;exact FE Z (Go 4 Z (Rt h 2 [0,1]))
def F_bk(n:Nat)(b:Fact)(g:Int)(c:Fact):Option (List Ent):=
  ((F_au n ({b with Kind:=c.Kind:Fact}) g).bind λd=>(match d with|.c0 h=>(some ([⟨false,4,1,9999⟩,⟨false,5,0,7⟩,⟨false,6,0,31⟩,⟨false,7,(-1099511627776),1099511627776⟩,⟨false,8,0,120⟩,⟨false,9,0,1048576⟩,⟨false,10,0,9999⟩,⟨false,11,0,1048576⟩]:List Ent))|.c1 i=>(some ([⟨false,12,0,39⟩,⟨false,13,0,255⟩,⟨false,14,0,1048576⟩,⟨false,15,(-1099511627776),1099511627776⟩]:List Ent))|.c2 j=>(some ([⟨false,16,0,39⟩,⟨false,17,0,255⟩,⟨false,18,(-1099511627776),1099511627776⟩,⟨false,19,(-1099511627776),1099511627776⟩,⟨false,20,0,1099511627776⟩]:List Ent))|.c3 k=>(some ([⟨false,21,0,39⟩,⟨false,22,0,255⟩,⟨false,23,(-1099511627776),1099511627776⟩,⟨false,24,0,39⟩,⟨false,25,0,255⟩,⟨false,26,(-1099511627776),1099511627776⟩,⟨false,27,(-1099511627776),1099511627776⟩,⟨false,28,(-1099511627776),1099511627776⟩]:List Ent))|.c4 l=>(some ([⟨false,29,1,9999⟩,⟨false,30,0,255⟩,⟨false,31,(-1099511627776),1099511627776⟩,⟨false,32,(-1099511627776),1099511627776⟩]:List Ent))|.c5 m=>(some ([⟨false,33,0,39⟩,⟨false,34,0,255⟩,⟨false,35,(-1099511627776),1099511627776⟩,⟨false,36,(-1099511627776),1099511627776⟩]:List Ent))|.c6 p=>(some ([⟨false,37,1,9999⟩,⟨false,38,1,9999⟩]:List Ent))|.c7 q=>(some ([⟨false,39,1,1048576⟩,⟨false,40,1,9999⟩,⟨false,41,0,31⟩,⟨false,42,0,255⟩]:List Ent))|.c8 r=>(some ([⟨false,43,1,1048576⟩,⟨false,44,0,9999⟩,⟨false,45,0,1125899906842624⟩,⟨false,46,0,1⟩]:List Ent))|.c9 a=>(some ([⟨false,47,1,1048576⟩,⟨false,48,1,2⟩,⟨false,49,1,5⟩,⟨false,50,a.1,a.2.1⟩,⟨false,51,a.2.2.1,a.2.2.2.1⟩,⟨false,52,a.2.2.2.2.1,a.2.2.2.2.2⟩]:List Ent))|.c10 s=>(some ([⟨false,53,1,1048576⟩,⟨true,0,0,1⟩]:List Ent))|.c11 t=>(some [])|.c12 u=>(some ([⟨false,55,0,31⟩,⟨false,56,1,1048576⟩]:List Ent))|.c13 w=>(some [])):Option (List Ent)).bind λe=>(F_at n ({b with Kind:=c.Kind:Fact})).bind λx=>(app ([⟨false,3,1,13⟩,⟨false,0,0,31⟩,⟨false,1,1,1048576⟩,⟨false,2,0,1099511627776⟩]:List Ent) e).bind λf=>some f
theorem k_bk(n:Nat)(f:Fact)(g:Int)(e:Fact)(r:List Ent)(h:F_bk n f g e=some r):
    C prog 203 [.ptr 0 0,.ptr 1 0,.ptr 2 0] [.cells 96 (Fact.c f),.cells 3 [I g],.cells 96 (Fact.c e)] (RQ (λr=>.osl 3 0 r.length 3) (λr=>[.cells 96 (Fact.c ({f with Kind:=e.Kind:Fact})),.cells 3 [I g],.cells 96 (Fact.c e),.ents 297 0 1 r]) r):=by
 refine Qc func203 Z Z Z ?_;refine G0 16 Z (Bd h λd a h=>?_);refine Ct d [0,1,2,0,0] [0] (λ_=>[(6,.ptr 3 0)]) (λd=>[(3,.cells 287 [.osl 4 0 d.length 3,.any]),(4,.ents 297 0 1 d)]) Zf ?_ (λenv H q=>?_)
 .refine G0 3 Z (Bd a λs k a=>?_);refine Qs [0,1] (OpC.fn call202 Z Z Z) (k_au _ _ _ _ k) ?_;intro ra rH b;rcases s with u|w|y|z|B|E|F|G|J|L|M|N|O|P
  .obtain⟨rfl,rfl⟩:=b;refine FE Z (TE 3 0 1 Z Z (FE Z (Go 7 Z ?_)));cases a;refine QW ?_;refine En (QM (i:=5) (m:=1) Z) ?_;exact Lr [0,1,2,5,3]
  .obtain⟨rfl,rfl⟩:=b;refine FE Z (TE 3 0 1 Z Z (FE Z (Go 7 Z ?_)));cases a;refine QW ?_;refine En (QM (i:=5) (m:=1) Z) ?_;exact Lr [0,1,2,5,3]
  .obtain⟨rfl,rfl⟩:=b;refine FE Z (TE 3 0 1 Z Z (FE Z (Go 7 Z ?_)));cases a;refine QW ?_;refine En (QM (i:=5) (m:=1) Z) ?_;exact Lr [0,1,2,5,3]
  .obtain⟨rfl,rfl⟩:=b;refine FE Z (TE 3 0 1 Z Z (FE Z (Go 7 Z ?_)));cases a;refine QW ?_;refine En (QM (i:=6) (m:=1) Z) ?_;exact Lr [0,1,2,6,3]
  .obtain⟨rfl,rfl⟩:=b;refine FE Z (TE 3 0 1 Z Z (FE Z (Go 7 Z ?_)));cases a;refine QW ?_;refine En (QM (i:=6) (m:=1) Z) ?_;exact Lr [0,1,2,6,3]
  .obtain⟨rfl,rfl⟩:=b;refine FE Z (TE 3 0 1 Z Z (FE Z (Go 7 Z ?_)));cases a;refine QW ?_;refine En (QM (i:=6) (m:=1) Z) ?_;exact Lr [0,1,2,6,3]
  .obtain⟨rfl,rfl⟩:=b;refine FE Z (TE 3 0 1 Z Z (FE Z (Go 7 Z ?_)));cases a;refine QW ?_;refine En (QM (i:=6) (m:=1) Z) ?_;exact Lr [0,1,2,6,3]
  .obtain⟨rfl,rfl⟩:=b;refine FE Z (TE 3 0 1 Z Z (FE Z (Go 7 Z ?_)));cases a;refine QW ?_;refine En (QM (i:=5) (m:=1) Z) ?_;exact Lr [0,1,2,5,3]
  .obtain⟨rfl,rfl⟩:=b;refine FE Z (TE 3 0 1 Z Z (FE Z (Go 7 Z ?_)));cases a;refine QW ?_;refine En (QM (i:=5) (m:=1) Z) ?_;exact Lr [0,1,2,5,3]
  .obtain⟨rfl,rfl⟩:=b;refine FE Z (TE 3 0 1 Z Z (FE Z (Go 7 Z ?_)));cases a;refine QW ?_;refine En (QM (i:=5) (m:=1) Z) ?_;exact Lr [0,1,2,5,3]
  .obtain⟨rfl,rfl⟩:=b;refine FE Z (TE 3 0 1 Z Z (FE Z (Go 7 Z ?_)));cases a;refine QW ?_;refine En (QM (i:=5) (m:=1) Z) ?_;exact Lr [0,1,2,5,3]
  .obtain⟨rfl,rfl⟩:=b;refine FE Z (Go 7 Z ?_);cases a;refine QW ?_;refine En (QM (i:=4) (m:=1) Z) ?_;refine En (Le.phantomE (i:=4) (m:=0) (t:=297) (b1:=0) (b2:=1) Z Z Z) ?_;exact Lr [0,1,2,4,5]
  .obtain⟨rfl,rfl⟩:=b;refine FE Z (TE 3 0 1 Z Z (FE Z (Go 7 Z ?_)));cases a;refine QW ?_;refine En (QM (i:=5) (m:=1) Z) ?_;exact Lr [0,1,2,5,3]
  .obtain⟨rfl,rfl⟩:=b;refine FE Z (Go 7 Z ?_);cases a;refine QW ?_;refine En (QM (i:=4) (m:=1) Z) ?_;refine En (Le.phantomE (i:=4) (m:=0) (t:=297) (b1:=0) (b2:=1) Z Z Z) ?_;exact Lr [0,1,2,4,5]
 refine Gx 1 Z (Ef q (Gc 1 Z (DAs 4 1 [0,1,3,3] (by kernel_rfl) (Da 1 Z ?_))));obtain⟨Q,l,h⟩:=YN h;refine DA.op (x:=.osl 5 0 4 3) (H1:=[.cells 96 (Fact.c ({f with Kind:=e.Kind:Fact})),.cells 3 [I g],.cells 96 (Fact.c e),.cells 287 [.osl 4 0 d.length 3,.any],.ents 297 0 1 d,.rowr 297 3 [[.ptr 0 3,I 1,I 13],[.ptr 0 0,I 0,I 31],[.ptr 0 1,I 1,I 1048576],[.ptr 0 2,I 0,I 1099511627776]]]) ?_ ?_
 .refine Qs [0] (OpC.fn call204 Z Z Z) (k_at _ _ _ l) ?_;rintro _ _ ⟨rfl,rfl⟩;exact FE Z Wp
 refine Db 1 Z ?_;refine DB.wo2 (x:=.osl 4 0 d.length 3) (Ld isAgg285 Z Wp) (Ld isAgg285 Z Wp) ?_;refine DB.done Z (TE 5 0 1 Z Z (FE Z (Bd h λR p h=>?_)));refine vH (Qgt (i:=5) (j:=4) p Y8 runUnderlying285 Z) ?_;exact FE Z (Go 4 Z (Rt h 5 [0,1,2,6]))
def F_eb(n:Nat)(e:Fact)(b2:Int)(f:List Ent)(m:List Ent)(a:(List Int)×Fact×Int×Int):Option (Ctl ((List Int)×Fact×Int×Int) (Ctl ((List Int)×Fact×Int) ((List Int)×Bool))):=
  (bif decide (a.2.2.2<(f.length:Int))then(idx f a.2.2.2).bind λb=>(QfH (Fact.c e) b2 b).bind λg=>(bif decide (g<b.lo)then some (.done (.done ([],false)))else(QfH (Fact.c e) b2 b).bind λh=>(bif decide (b.hi<h)then some (.done (.done ([],false)))else(idx m a.2.2.2).bind λi=>(QfH (Fact.c e) b2 b).bind λj=>(QiG Fact.put a.2.1 a.2.2.1 i j).bind λd=>(QfH (Fact.c e) b2 b).bind λk=>(app a.1 [k]).bind λl=>some (.cont (l,d.1,d.2,IntKind.i64.wrap (a.2.2.2+1)))))else some (.done (.cont (a.1,a.2.1,a.2.2.1))))
def F_as(n:Nat)(a:Fact):Option ((List Int)×Bool):=
  ((bif a.Appeal.Suspends then some 1 else some 0):Option Int).bind λb2=>((F_au n a b2).bind λf=>(match f with|.c0 k=>((F_b n).bind λl=>some (.cont ([⟨false,4,1,9999⟩,⟨false,5,0,7⟩,⟨false,6,0,31⟩,⟨false,7,(-1099511627776),1099511627776⟩,⟨false,8,0,120⟩,⟨false,9,0,1048576⟩,⟨false,10,0,9999⟩,⟨false,11,0,1048576⟩]:List Ent)))|.c1 m=>((F_b n).bind λp=>some (.cont ([⟨false,12,0,39⟩,⟨false,13,0,255⟩,⟨false,14,0,1048576⟩,⟨false,15,(-1099511627776),1099511627776⟩]:List Ent)))|.c2 q=>((F_b n).bind λr=>some (.cont ([⟨false,16,0,39⟩,⟨false,17,0,255⟩,⟨false,18,(-1099511627776),1099511627776⟩,⟨false,19,(-1099511627776),1099511627776⟩,⟨false,20,0,1099511627776⟩]:List Ent)))|.c3 s=>((F_do n a).bind λt=>(bif (!(decide (a.Sync.Min<=a.Sync.Max)))then some (.done ([],false))else some (.cont ([⟨false,21,0,39⟩,⟨false,22,0,255⟩,⟨false,23,(-1099511627776),1099511627776⟩,⟨false,24,0,39⟩,⟨false,25,0,255⟩,⟨false,26,(-1099511627776),1099511627776⟩,⟨false,27,(-1099511627776),1099511627776⟩,⟨false,28,(-1099511627776),1099511627776⟩]:List Ent))))|.c4 u=>((F_fu n a).bind λw=>(bif (!(decide (a.Hand.Lo<=a.Hand.Hi)))then some (.done ([],false))else some (.cont ([⟨false,29,1,9999⟩,⟨false,30,0,255⟩,⟨false,31,(-1099511627776),1099511627776⟩,⟨false,32,(-1099511627776),1099511627776⟩]:List Ent))))|.c5 x=>((F_dm n a).bind λy=>(bif (!(decide (a.Silence.Lo<=a.Silence.Hi)))then some (.done ([],false))else some (.cont ([⟨false,33,0,39⟩,⟨false,34,0,255⟩,⟨false,35,(-1099511627776),1099511627776⟩,⟨false,36,(-1099511627776),1099511627776⟩]:List Ent))))|.c6 z=>((F_dv n a).bind λE=>(bif (!(decide (a.Pair.A<a.Pair.B)))then some (.done ([],false))else some (.cont ([⟨false,37,1,9999⟩,⟨false,38,1,9999⟩]:List Ent))))|.c7 F=>((F_b n).bind λG=>some (.cont ([⟨false,39,1,1048576⟩,⟨false,40,1,9999⟩,⟨false,41,0,31⟩,⟨false,42,0,255⟩]:List Ent)))|.c8 H=>((F_b n).bind λJ=>some (.cont ([⟨false,43,1,1048576⟩,⟨false,44,0,9999⟩,⟨false,45,0,1125899906842624⟩,⟨false,46,0,1⟩]:List Ent)))|.c9 c=>((F_b n).bind λL=>some (.cont ([⟨false,47,1,1048576⟩,⟨false,48,1,2⟩,⟨false,49,1,5⟩,⟨false,50,c.1,c.2.1⟩,⟨false,51,c.2.2.1,c.2.2.2.1⟩,⟨false,52,c.2.2.2.2.1,c.2.2.2.2.2⟩]:List Ent)))|.c10 M=>((F_b n).bind λN=>some (.cont ([⟨false,53,1,1048576⟩,⟨true,0,0,1⟩]:List Ent)))|.c11 O=>((F_b n).bind λP=>some (.cont []))|.c12 Q=>((F_b n).bind λR=>some (.cont ([⟨false,55,0,31⟩,⟨false,56,1,1048576⟩]:List Ent)))|.c13 T=>(some (.done ([],false)))):Option (Ctl (List Ent) ((List Int)×Bool))).bind λg=>match g with|.cont d=>((F_at n a).bind λV=>(app ([⟨false,3,1,13⟩,⟨false,0,0,31⟩,⟨false,1,1,1048576⟩,⟨false,2,0,1099511627776⟩]:List Ent) d).bind λh=>(F_bk n ({Ul with Ruling:={Ur with Kind:=a.Ruling.Kind:Ruling}:Fact}) 0 a).bind λi=>(iter (F_eb n a b2 h i) n ([],({({Ul with Ruling:={Ur with Kind:=a.Ruling.Kind:Ruling}:Fact})with Kind:=a.Kind:Fact}),0,0):Option (Ctl ((List Int)×Fact×Int) ((List Int)×Bool))).bind λj=>match j with|.cont b=>(((bif (a.Kind != 10)then some ({b.2.1 with Ruling:={b.2.1.Ruling with Kind:=0:Ruling}:Fact})else some b.2.1):Option Fact).bind λe=>some (b.1,(({e with Appeal:={Case:=e.Appeal.Case,Suspends:=(b.2.2==1):Appeal}:Fact})==a)))|.done b=>some b)|.done d=>some d
theorem k_as(n:Nat)(F:Fact)(r:(List Int)×Bool)(h:F_as n F=some r):
    C prog 147 [.agg (Fact.c F)] [] (RQ (λr=>.tup [.osl 0 0 r.1.length 1,.bool r.2]) (λr=>[.row 3 1 (List.map (Qe .i64) r.1)]) r):=by
 refine Qc func147 Z Z Z ?_;refine G0 21 Z (Bd h λb2 M h=>?_);refine Ct b2 [0,1] [1,2,4] Ze (λb2=>[(1,.cells 3 [I b2])]) Zf ?_ (λenv H B=>?_)
 .refine G0 0 Z (Cn Z M (λam M=>?_) (λam M=>?_))
  .exact Gc 3 Z (Cl M [0,1])
  exact Gc 1 Z (Cl M [0,1])
 refine Gx 1 Z (Ef B (Gc 7 Z (Bd h λan a h=>?_)));refine Ct3E (b:=an) (λy=>[(1,.ptr 0 0),(2,.nils),(5,.ptr 1 0),(6,.ptr 2 0)]) (λy=>[.cells 96 (Fact.c F),.cells 96 (Fact.c F),.cells 287 [.osl 3 0 y.length 3,.any],.ents 297 1 4 y,.cells 3 [I b2]]) ?_ (λy env H hb B=>?_)
 .refine Gc 1 Z (Bd a λao aa a=>?_);refine Qs [2,1] (OpC.fn call202 Z Z Z) (k_au _ _ _ _ aa) ?_;intro ra rH w;rcases ao with bm|bn|bo|bq|br|bs|bt|bu|bv|bw|bx|bz|ca|cb
  .obtain⟨rfl,rfl⟩:=w;refine FE Z (TE 3 2 1 Z Z (FE Z (Go 15 Z (Cz [] a (k_b _) Z λcc aw a=>Go 6 Z ?_))));cases a;refine QD Z ?_;refine En (QM (i:=5) (m:=1) Z) ?_;exact Lr [0,2,5,3,1]
  .obtain⟨rfl,rfl⟩:=w;refine FE Z (TE 3 2 1 Z Z (FE Z (Go 15 Z (Cz [] a (k_b _) Z λcd ax a=>Go 6 Z ?_))));cases a;refine QD Z ?_;refine En (QM (i:=5) (m:=1) Z) ?_;exact Lr [0,2,5,3,1]
  .obtain⟨rfl,rfl⟩:=w;refine FE Z (TE 3 2 1 Z Z (FE Z (Go 15 Z (Cz [] a (k_b _) Z λce ay a=>Go 6 Z ?_))));cases a;refine QD Z ?_;refine En (QM (i:=5) (m:=1) Z) ?_;exact Lr [0,2,5,3,1]
  .obtain⟨rfl,rfl⟩:=w;refine FE Z (TE 3 2 1 Z Z (FE Z (Go 15 Z (Cz [4,2] a (k_do _ _) Z λcf az a=>Go 4 Z (Cn Z a (λab a=>?_) (λab a=>?_))))))
   .refine Gc 7 Z ?_;cases a;refine QR (Gx 1 Z ?_);obtain rfl:=Oi h;refine R2 2 3 Z Z ?_;refine En (Er (s:=2) (k:=1) (t:=3) (XR Z) Z) ?_;exact Lr [7]
   refine Gc 1 Z ?_;cases a;refine QD Z ?_;refine En (QM (i:=6) (m:=1) Z) ?_;exact Lr [0,2,6,3,1]
  .obtain⟨rfl,rfl⟩:=w;refine FE Z (TE 3 2 1 Z Z (FE Z (Go 15 Z (Cz [4,2] a (k_fu _ _) Z λcg ba a=>Go 4 Z (Cn Z a (λac a=>?_) (λac a=>?_))))))
   .refine Gc 7 Z ?_;cases a;refine QR (Gx 1 Z ?_);obtain rfl:=Oi h;refine R2 2 3 Z Z ?_;refine En (Er (s:=2) (k:=1) (t:=3) (XR Z) Z) ?_;exact Lr [7]
   refine Gc 1 Z ?_;cases a;refine QD Z ?_;refine En (QM (i:=6) (m:=1) Z) ?_;exact Lr [0,2,6,3,1]
  .obtain⟨rfl,rfl⟩:=w;refine FE Z (TE 3 2 1 Z Z (FE Z (Go 15 Z (Cz [4,2] a (k_dm _ _) Z λch bb a=>Go 4 Z (Cn Z a (λad a=>?_) (λad a=>?_))))))
   .refine Gc 7 Z ?_;cases a;refine QR (Gx 1 Z ?_);obtain rfl:=Oi h;refine R2 2 3 Z Z ?_;refine En (Er (s:=2) (k:=1) (t:=3) (XR Z) Z) ?_;exact Lr [7]
   refine Gc 1 Z ?_;cases a;refine QD Z ?_;refine En (QM (i:=6) (m:=1) Z) ?_;exact Lr [0,2,6,3,1]
  .obtain⟨rfl,rfl⟩:=w;refine FE Z (TE 3 2 1 Z Z (FE Z (Go 15 Z (Cz [4,2] a (k_dv _ _) Z λci bc a=>Go 4 Z (Cn Z a (λae a=>?_) (λae a=>?_))))))
   .refine Gc 7 Z ?_;cases a;refine QR (Gx 1 Z ?_);obtain rfl:=Oi h;refine R2 2 3 Z Z ?_;refine En (Er (s:=2) (k:=1) (t:=3) (XR Z) Z) ?_;exact Lr [7]
   refine Gc 1 Z ?_;cases a;refine QD Z ?_;refine En (QM (i:=6) (m:=1) Z) ?_;exact Lr [0,2,6,3,1]
  .obtain⟨rfl,rfl⟩:=w;refine FE Z (TE 3 2 1 Z Z (FE Z (Go 15 Z (Cz [] a (k_b _) Z λcj bd a=>Go 6 Z ?_))));cases a;refine QD Z ?_;refine En (QM (i:=5) (m:=1) Z) ?_;exact Lr [0,2,5,3,1]
  .obtain⟨rfl,rfl⟩:=w;refine FE Z (TE 3 2 1 Z Z (FE Z (Go 15 Z (Cz [] a (k_b _) Z λck be a=>Go 6 Z ?_))));cases a;refine QD Z ?_;refine En (QM (i:=5) (m:=1) Z) ?_;exact Lr [0,2,5,3,1]
  .obtain⟨rfl,rfl⟩:=w;refine FE Z (TE 3 2 1 Z Z (FE Z (Go 15 Z (Cz [] a (k_b _) Z λcl bg a=>Go 6 Z ?_))));cases a;refine QD Z ?_;refine En (QM (i:=5) (m:=1) Z) ?_;exact Lr [0,2,5,3,1]
  .obtain⟨rfl,rfl⟩:=w;refine FE Z (TE 3 2 1 Z Z (FE Z (Go 15 Z (Cz [] a (k_b _) Z λcm bh a=>Go 6 Z ?_))));cases a;refine QD Z ?_;refine En (QM (i:=5) (m:=1) Z) ?_;exact Lr [0,2,5,3,1]
  .obtain⟨rfl,rfl⟩:=w;refine FE Z (Go 15 Z (Cz [] a (k_b _) Z λcn bi a=>Go 6 Z ?_));cases a;refine QD Z ?_;refine En (QM (i:=4) (m:=1) Z) ?_;refine En (Le.phantomE (i:=4) (m:=0) (t:=297) (b1:=2) (b2:=1) Z Z Z) ?_;exact Lr [0,2,4,5,1]
  .obtain⟨rfl,rfl⟩:=w;refine FE Z (TE 3 2 1 Z Z (FE Z (Go 15 Z (Cz [] a (k_b _) Z λco bj a=>Go 6 Z ?_))));cases a;refine QD Z ?_;refine En (QM (i:=5) (m:=1) Z) ?_;exact Lr [0,2,5,3,1]
  .obtain⟨rfl,rfl⟩:=w;refine FE Z (Go 28 Z ?_);cases a;refine QR (Gx 1 Z ?_);obtain rfl:=Oi h;refine R2 2 3 Z Z ?_;refine En (Er (s:=2) (k:=1) (t:=3) (XR Z) Z) ?_;exact Lr [5]
 subst hb;refine Gx 1 Z (Ef B (Gc 12 Z (DAs 3 0 [1,3,3] (by kernel_rfl) ?_)));obtain⟨cp,af,h⟩:=YN h;refine DA.op (x:=.osl 6 0 4 3) (H1:=[.cells 96 (Fact.c F),.cells 96 (Fact.c F),.cells 287 [.osl 3 0 y.length 3,.any],.ents 297 1 4 y,.cells 3 [I b2],.cells 96 (Fact.c Ul),.rowr 297 3 [[.ptr 1 3,I 1,I 13],[.ptr 1 0,I 0,I 31],[.ptr 1 1,I 1,I 1048576],[.ptr 1 2,I 0,I 1099511627776]]]) ?_ ?_
 .refine Qs [1] (OpC.fn call204 Z Z Z) (k_at _ _ _ af) ?_;rintro _ _ ⟨rfl,rfl⟩;exact FE Z Wp
 refine Db 1 Z ?_;refine DB.wo2 (x:=.osl 3 0 y.length 3) (Ld isAgg285 Z Wp) (Ld isAgg285 Z Wp) ?_;refine DB.done Z (TE 6 1 4 Z Z (FE Z (Bd h λaq ag h=>?_)));refine vH (Qgt (i:=6) (j:=3) ag Y8 runUnderlying285 Z) ?_;refine FE Z (Go 22 Z (Cd [5,8,0] h (k_bk _ _ _ _) Z λar bk h=>FE Z (Go 11 Z (Bd h λau ah h=>?_))));refine CtE (b:=au) [0,1,2,3] [1] (λg=>[(2,.osl 1 0 g.1.length 1),(7,.ptr 2 0),(10,.ptr 3 0)]) (λg=>[(1,.row 3 1 (List.map (Qe .i64) g.1)),(2,.cells 96 (Fact.c g.2.1)),(3,.cells 3 [I g.2.2])]) Zf ?_ (λg env H av B=>?_)
 .refine G0 1 Z ?_;refine Lp [0,0,5,8,9,7,1,4] [1,7,10,11,42,43] (λl=>[(2,.osl 1 0 l.1.length 1),(44,I l.2.2.2)]) (λl=>[(1,.row 3 1 (List.map (Qe .i64) l.1)),(2,.cells 96 (Fact.c l.2.1)),(3,.cells 3 [I l.2.2.1]),(4,.ents 297 2 3 ar),(5,.ents 297 6 7 aq)]) ah Zf ?_ ?_
  .refine En (Er (s:=2) (k:=1) (t:=3) (XR Z) Z) ?_;exact Lr [0,10,5,8,9,7,1,4]
  intro l bl d G;refine G0 6 Z (Ja Z d (λO d=>?_) (λO d=>?_))
  .refine Gc 2 Z (Qz d ?_);obtain rfl:=Oj G d;exact Gx 1 Z (QD Z (Lr [0,1,2,3]))
  refine Gc 7 Z (Bd d λz he106 d=>?_);refine vX (.ptr 5 (Int.toNat l.2.2.2*3)) (QZ he106 Z runUnderlying285 sizeOf297) ?_;refine vX (.agg [Qg0 6 7 z,I z.lo,I z.hi]) (Qu Z isAgg297 sizeOf297 Z (Pts.ents (f:=0) (Qa0 he106).2) Z Z) ?_;refine Go 7 Z (DSs 16 Z (D 2 Z ?_));refine DS.wo (x:=Qg0 6 7 z) ?_ ?_
  .exact S Z Wp
  obtain⟨ai,P,d⟩:=YN d;refine DS.v (x:=(I ai)) (QbZ P isAgg3) ?_;refine D 5 Z (Qc2 8 d Z Z Z (λQ d=>?_) (λQ d=>?_))
  .refine D 7 Z (Eh Z (Go 15 Z (Q4 d ?_)));obtain rfl:=Oj G d;refine Gx 1 Z (QR (Gx 1 Z ?_));obtain rfl:=Oi h;refine R2 2 3 Z Z ?_;refine En (Er (s:=2) (k:=1) (t:=3) (XR Z) Z) ?_;exact Lr [9]
  .refine D 2 Z ?_;refine DS.wo (x:=Qg0 6 7 z) ?_ ?_
   .exact Sg (gT Z) Z Wp
   obtain⟨aj,R,d⟩:=YN d;refine DS.v (x:=(I aj)) (QbZ R isAgg3) ?_ (hg:=(gT Z));refine D 3 Z (Eh Z (Go 4 Z (Cn Z d (λT d=>?_) (λT d=>?_))))
   .refine Gc 10 Z (Q4 d ?_);obtain rfl:=Oj G d;refine Gx 1 Z (QR (Gx 1 Z ?_));obtain rfl:=Oi h;refine R2 2 3 Z Z ?_;refine En (Er (s:=2) (k:=1) (t:=3) (XR Z) Z) ?_;exact Lr [9]
   refine Gc 3 Z (DSs 9 Z (D 2 Z ?_));obtain⟨ak,he111,d⟩:=YN d;refine DS.v (x:=(.ptr 4 (Int.toNat l.2.2.2*3))) (QZ he111 Z runUnderlying285 sizeOf297) ?_;refine DS.wo (x:=.ptr 4 (Int.toNat l.2.2.2*3)) ?_ ?_
   .exact Fp Qmc Z Wp
   refine DS.v (x:=(Qg0 2 3 ak)) (Ey Z isAgg291 Z (Pts.ents (f:=0) (Qa0 he111).2)) ?_;refine D 2 Z ?_;refine DS.wo (x:=Qg0 6 7 z) ?_ ?_
   .exact S Z Wp
   obtain⟨al,V,d⟩:=YN d;refine DS.v (x:=(I al)) (QbZ V isAgg3) ?_;refine Eh Z (S Z (Bd d λJ hq113 d=>?_));refine vU (Qje (c:=Fact.c) (f:=l.2.1) (f':=J.1) (s':=J.2) hq113 QoH sizeOf3) ?_;refine Qdu (H:=[_,_,.cells 96 (Fact.c J.1),.cells 3 [I J.2],_,_,_,_,_]) Z ?_;refine Go 6 Z (S Z (Bd d λL W d=>?_));refine vX (I L) (QbZ W isAgg3) ?_;refine vH (El (xs:=[.tmp 81]) (es:=List.map (Qe .i64) [L]) QS Z Z Z Z Z ⟨Z,trivial⟩ Z Z) ?_;refine aV (.osl 9 0 ([L].length) 1) [_,_,_,_,_,_,_,_,_,.row 3 1 (List.map (Qe .i64) [L])] Z Z ?_;refine Bd d λN X d=>?_;refine vH (Yp (e:=(Qe .i64)) X QS runUnderlying66 (Qa2 (i:=9))) ?_;refine aV (.osl 10 0 N.length 1) [_,.dead,_,_,_,_,_,_,_,_,.row 3 1 (List.map (Qe .i64) N)] Z Z ?_;exact Go 8 Z (Qv d (Lr [0,10,2,3,4,5,6,7]))
 subst av;refine Gx 1 Z (Ef B (Gc 8 Z (Bd h λu E h=>?_)));refine Ct u [0,1,2,3] [1,2,7,10] Ze (λu=>[(2,.cells 96 (Fact.c u))]) Zf ?_ (λenv H B=>?_)
 .refine G0 0 Z (Cn Z E (λY E=>?_) (λY E=>?_))
  .exact Gc 5 Z (Cl E [0,1,2,3])
  exact Gc 1 Z (Cl E [0,1,2,3])
 refine Gx 1 Z (Ef B (Gc 10 Z ?_));refine TC.draw0 5 [94,95,96,97,2] [.osl 1 0 g.1.length 1,.agg (Fact.c ({u with Appeal:={Case:=u.Appeal.Case,Suspends:=(g.2.2==1):Appeal}:Fact})),.agg (Fact.c F),.bool (({u with Appeal:={Case:=u.Appeal.Case,Suspends:=(g.2.2==1):Appeal}:Fact})==F),.osl 1 0 g.1.length 1] draws Z Z Z ?_ ?_
 .refine Oq.c ?_ (ov (ov (Oq.c ?_ (ov (Oq.n)))))
  .refine Om Z (sP 4 sN) ?_;exact S Z Wp
  .refine Om Z (sD 1 (sD 2 sN)) ?_;refine vX (.bool (({u with Appeal:={Case:=u.Appeal.Case,Suspends:=(g.2.2==1):Appeal}:Fact})==F)) (Qgr (p:={u with Appeal:={Case:=u.Appeal.Case,Suspends:=(g.2.2==1):Appeal}:Fact}) (q:=F) Qmo Z Z) ?_;exact Wp
 refine Go 4 Z ?_;obtain rfl:=Oi h;exact R2 2 3 Z Z (Lr [1])
def F_bo(n:Nat)(a:Fact):Option Int:=
  (F_as n a).bind λb=>(bif (!b.2)then some 120 else some 0)
theorem k_bo(n:Nat)(a:Fact)(r:Int)(h:F_bo n a=some r):
    Csm prog 79 [.agg (Fact.c a)] [] (λr=>I r) r:=by
 refine Qc func79 Z Z Z ?_;refine G0 10 Z (Cd [] h (k_as _ _) Z λe d h=>FE Z (Go 13 Z (Cn Z h (λb h=>?_) (λb h=>?_))))
 .exact Gc 7 Z (Rt h 2 [])
 exact Gc 8 Z (Rt h 2 [])
def F_ao(n:Nat)(a:Fact)(b:Int):Option Bool:=
  ((bif (a.Kind != b)then some true else(F_bo n a).bind λc=>some (c != 0)):Option Bool).bind λd=>some d
theorem k_ao(n:Nat)(d:Fact)(e:Int)(r:Bool)(h:F_ao n d e=some r):
    Csm prog 78 [.agg (Fact.c d),.ptr 0 0] [.cells 3 [I e]] (λr=>.bool r) r:=by
 refine Qc func78 Z Z Z ?_;refine G0 7 Z (Bd h λb a h=>?_);refine Ct b [0] [] (λb=>[(3,.bool b)]) Ze Zf ?_ (λenv H f=>?_)
 .refine G0 6 Z (Is 8 a Z (λg a=>?_) (λg a=>?_))
  .exact Go 6 Z (Cl a [0])
  .exact Go 1 Z (Cz [] a (k_bo _ _) Z λj i a=>Go 4 Z (Cl a [0]))
 exact Gx 1 Z (Ef f (Gc 1 Z (Rt h 3 [0])))
def F_hv(n:Nat)(b:List Fact)(e:Int)(a:Int):Option (Ctl Int (Ctl Unit Int)):=
  (bif decide (a<(b.length:Int))then(idx b a).bind λc=>(F_ao n c e).bind λd=>(bif d then some (.done (.done a))else some (.cont (IntKind.i64.wrap (a+1))))else some (.done (.cont ())))
def F_gd(n:Nat)(c:List Fact)(d:Int):Option Int:=
  (iter (F_hv n c d) n 0:Option (Ctl Unit Int)).bind λb=>match b with|.cont a=>(some (-1))|.done a=>some a
theorem k_gd(n:Nat)(g:List Fact)(k:Int)(r:Int)(h:F_gd n g k=some r):
    Csm prog 146 [.osl 0 0 g.length 57,.fn (.func 78) [] [.ptr 1 0]] [.row 96 57 (List.map Fact.c g),.cells 3 [I k]] (λr=>I r) r:=by
 refine Qc func146 Z Z Z ?_;refine G0 13 Z (Bd h λl m h=>?_);refine CtE (b:=l) [0,1] [] Ze Ze Zf ?_ (λt env H p q=>?_)
 .refine G0 1 Z ?_;refine Lp [0,1] [0,1,7] (λd=>[(8,I d)]) Ze m Zf (Lr [0,1]) λd w a e=>?_;refine G0 6 Z (Ja Z a (λi a=>?_) (λi a=>?_))
  .refine Gc 2 Z (Qz a ?_);obtain rfl:=Oj e a;exact Gx 1 Z (QD Z (Lr [0,1]))
  refine Gc 15 Z (Bd a λs f a=>?_);refine vX (.ptr 0 (Int.toNat d*57)) (QZ f Z runUnderlying34 sizeOf96) ?_;refine vX (.agg (Fact.c s)) (Qu Z isAgg96 sizeOf96 Z (Qq f) Z Z) ?_;refine Cz [1] a (k_ao _ _ _) Z λx u a=>Go 2 Z (Cn Z a (λj a=>?_) (λj a=>?_))
  .refine Gc 9 Z (Q4 a ?_);obtain rfl:=Oj e a;exact Gx 1 Z (QR (Gx 1 Z (Rt h 4 [0,1])))
  exact Gc 7 Z (Qv a (Lr [0,1]))
 subst p;exact Gx 1 Z (Ef q (Gc 6 Z (Rt h 4 [0,1])))
def F_hs(n:Nat)(f:Int)(a:(List Fact)×Int×Int):Option (Ctl ((List Fact)×Int×Int) ((List Fact)×Int)):=
  (bif decide (a.2.2<(a.1.length:Int))then(idx a.1 a.2.2).bind λb=>(F_ao n b f).bind λd=>((bif (!d)then(idx a.1 a.2.1).bind λg=>(QaX a.1 a.2.1 b).bind λe=>some (e,IntKind.i64.wrap (a.2.1+1))else some (a.1,a.2.1)):Option ((List Fact)×Int)).bind λc=>some (.cont (c.1,c.2,IntKind.i64.wrap (a.2.2+1)))else some (.done (a.1,a.2.1)))
def F_di(n:Nat)(b:List Fact)(d:Int):Option (List Fact):=
  (F_gd n b d).bind λc=>(bif (c==(-1))then some b else(iter (F_hs n d) n (b,c,IntKind.i64.wrap (c+1)):Option ((List Fact)×Int)).bind λa=>(slc a.1 0 a.2).bind λe=>some e)
theorem k_di(n:Nat)(x:List Fact)(u:Int)(r:List Fact)(h:F_di n x u=some r):
    C prog 76 [.osl 0 0 x.length 57,.fn (.func 78) [] [.ptr 1 0]] [.row 96 57 (List.map Fact.c x),.cells 3 [I u]] (RQ (λr=>.osl 0 0 r.length 57) (λr=>[.row 96 57 (List.map Fact.c r),.cells 3 [I u]]) r):=by
 refine Qc func76 Z Z Z ?_;refine G0 9 Z (Cz [0,1] h (k_gd _ _ _) Z λQ L h=>Go 10 Z (Cn Z h (λE h=>?_) (λE h=>?_)))
 .exact Gc 8 Z (Rt h 4 [0,1])
 refine Gc 10 Z (Bd h λa F h=>?_);refine Ct a [0,1] [] (λa=>[(0,.osl 0 0 a.1.length 57),(5,I a.2)]) (λa=>[(0,.row 96 57 (List.map Fact.c a.1))]) Zf ?_ (λenv H p=>?_)
 .refine G0 1 Z ?_;refine Lp [0,1] [1] (λg=>[(0,.osl 0 0 g.1.length 57),(5,I g.2.1),(6,I g.2.2)]) (λg=>[(0,.row 96 57 (List.map Fact.c g.1))]) F Zf (Lr [0,1]) λg M b y=>?_;refine G0 9 Z (Ja Z b (λz b=>?_) (λz b=>?_))
  .refine Gc 2 Z (Qz b ?_);obtain rfl:=Oj y b;exact Gx 1 Z (QW (Lr [0,1]))
  refine Gc 8 Z (Bd b λG q b=>?_);refine vX (.ptr 0 (Int.toNat g.2.2*57)) (QZ q Z runUnderlying34 sizeOf96) ?_;refine vX (.agg (Fact.c G)) (Qu Z isAgg96 sizeOf96 Z (Qq q) Z Z) ?_;refine Go 8 Z (Cz [1] b (k_ao _ _ _) Z λN J b=>Go 3 Z (Bd b λj d b=>?_));refine Ct j [0,1] [1,6] (λj=>[(0,.osl 0 0 j.1.length 57),(5,I j.2)]) (λj=>[(0,.row 96 57 (List.map Fact.c j.1))]) Zf ?_ (λenv H p=>?_)
  .refine G0 0 Z (Cn Z d (λB d=>?_) (λB d=>?_))
   .refine Gc 5 Z (Bd d λO t d=>?_);refine vX (.ptr 0 (Int.toNat g.2.1*57)) (QZ t Z runUnderlying34 sizeOf96) ?_;refine Bd d λP i d=>?_;refine vU (YP (e:=Fact.c) (k:=57) (f:=0) t i sizeOf96 Z Z) ?_;refine FE Z ?_;refine Et (Qw (s:=0) Z (congrArg (λn=>A.osl 0 0 n 57) (Q1 i))) ?_;refine Et (Qw (s:=17) Z (congrArg (λn=>A.osl 0 0 n 57) (Q1 i))) ?_;refine Et (Qw (s:=22) Z (congrArg (λn=>A.osl 0 0 n 57) (Q1 i))) ?_;refine Et (Qw (s:=30) Z (congrArg (λn=>A.osl 0 0 n 57) (Q1 i))) ?_;exact Go 7 Z (Cl d [0,1])
   exact Gc 1 Z (Cl d [0,1])
  exact Gx 2 Z (Ef p (Gc 5 Z (Qv b (Lr [0,1]))))
 refine Gx 1 Z (Ef p (Gc 4 Z (Bd h λw m h=>?_)));refine vX (.osl 0 (0+Int.toNat a.2) (a.1.length-Int.toNat a.2) 57) (Qfu (l:=a.1) m runUnderlying34 sizeOf96) ?_;refine vN (Qfy (e:=Fact.c) (l:=a.1) m underlying34 zeroValue96 Z (by simp[Qp,Go.Value.cells])) ?_;refine Qdu (H:=[.row 96 57 (List.map Fact.c w),.cells 3 [I u]]) Z ?_;refine Go 6 Z ?_;refine vX (.osl 0 0 w.length 57) (Qfv (l:=a.1) m runUnderlying34 sizeOf96) ?_;exact Go 4 Z (Rt h 4 [0,1])
def F_bd(n:Nat)(a:Int):Option Unit:=
  some ()
theorem k_bd(n:Nat)(a:Int)(r:Unit)(h:F_bd n a=some r):
    Csm prog 213 [I a] [] (λ_=>.bool (a != a)) r:=by
 refine Qc func213 Z Z Z ?_;exact G0 14 Z (Rt h 2 [])
def F_k(n:Nat)(b:Int)(a:Int):Option Int:=
  (F_bd n b).bind λc=>(F_bd n a).bind λd=>(bif (b != b)then(bif (a != a)then some 0 else some (-1))else(bif (a != a)then some 1 else(bif decide (b<a)then some (-1)else(bif decide (a<b)then some 1 else some 0))))
theorem k_k(n:Nat)(a:Int)(b:Int)(r:Int)(h:F_k n a b=some r):
    Csm prog 150 [I a,I b] [] (λr=>I r) r:=by
 refine Qc func150 Z Z Z ?_;refine G0 8 Z (Cz [] h (k_bd _ _) Z λk i h=>Go 6 Z (Cz [] h (k_bd _ _) Z λl j h=>Go 9 Z (Cn Z h (λc h=>?_) (λc h=>?_))))
 .refine Gc 6 Z (Cn Z h (λd h=>?_) (λd h=>?_))
  .exact Gc 8 Z (Rt h 4 [])
  exact Gc 9 Z (Rt h 4 [])
 refine Gc 8 Z (Cn Z h (λe h=>?_) (λe h=>?_))
 .exact Gc 7 Z (Rt h 4 [])
 refine Gc 10 Z (Cn Z h (λf h=>?_) (λf h=>?_))
 .exact Gc 7 Z (Rt h 4 [])
 refine Gc 10 Z (Cn Z h (λg h=>?_) (λg h=>?_))
 .exact Gc 7 Z (Rt h 4 [])
 exact Gc 8 Z (Rt h 4 [])
def F_ep(n:Nat)(c:List Int)(a:Int):Option (Ctl Int (Ctl Unit Int)):=
  (bif decide (a<(c.length:Int))then(idx c a).bind λb=>(bif (b != 0)then some (.done (.done b))else some (.cont (IntKind.i64.wrap (a+1))))else some (.done (.cont ())))
def F_ar(n:Nat)(b:List Int):Option Int:=
  (iter (F_ep n b) n 0:Option (Ctl Unit Int)).bind λc=>match c with|.cont a=>(some 0)|.done a=>some a
theorem k_ar(n:Nat)(i:List Int)(r:Int)(h:F_ar n i=some r):
    Csm prog 149 [.rsl 1 (List.map (Qe .i64) i)] [] (λr=>I r) r:=by
 refine Qc func149 Z Z Z ?_;refine G0 14 Z (Lm Z (Go 3 Z (Bd h λl m h=>?_)));refine CtE (b:=l) [] [3] Ze Ze Zf ?_ (λp env H j k=>?_)
 .refine G0 1 Z ?_;refine Lp [] [3,6,7] (λd=>[(8,I d)]) Ze m Zf (Lr []) λd q a c=>?_;refine G0 6 Z (Ja Z a (λe a=>?_) (λe a=>?_))
  .refine Gc 2 Z (Qz a ?_);obtain rfl:=Oj c a;exact Gx 1 Z (QD Z (Lr []))
  refine Gc 6 Z (Bd a λs f a=>Iz f Z (Go 11 Z (Cn Z a (λg a=>?_) (λg a=>?_))))
  .refine Gc 9 Z (Q4 a ?_);obtain rfl:=Oj c a;exact Gx 1 Z (QR (Gx 1 Z (Rt h 2 [])))
  exact Gc 7 Z (Qv a (Lr []))
 subst j;exact Gx 1 Z (Ef k (Gc 7 Z (Rt h 2 [])))
def F_ht(n:Nat)(c:Value)(rec146:Value->Option (Int×Bool))(a:Int×Int):Option (Ctl (Int×Int) (Ctl Int (Int×Bool))):=
  (bif decide (a.2<(c.L.length:Int))then(idx c.L a.2).bind λd=>(rec146 d).bind λb=>(bif (!b.2)then some (.done (.done (0,false)))else some (.cont ((if a.1<b.1 then b.1 else a.1),IntKind.i64.wrap (a.2+1))))else some (.done (.cont a.1)))
def B_g(rec146:Value->Option (Int×Bool))(n:Nat)(a:Value):Option (Int×Bool):=
  ((bif (a.S==[])then(bif (a.N==0)then(arr 4 (List.replicate 4 false)).bind λk=>(arr 4 ([false,((a.L.length:Int)==0),((a.L.length:Int)==0),(a.S==[])]:List Bool)).bind λc=>some c else(arr 4 (List.replicate 4 false)).bind λl=>(arr 4 ([false,((a.L.length:Int)==0),false,false]:List Bool)).bind λd=>some d)else(bif (a.N==0)then(arr 4 (List.replicate 4 false)).bind λm=>(arr 4 ([false,false,((a.L.length:Int)==0),(a.S==[])]:List Bool)).bind λe=>some e else(arr 4 (List.replicate 4 false)).bind λp=>(arr 4 ([false,false,false,false]:List Bool)).bind λf=>some f)):Option (List Bool)).bind λg=>((bif decide (a.Kind<1)then some true else(bif decide (3<a.Kind)then some true else(Qd8 4 g a.Kind).bind λh=>some (!h))):Option Bool).bind λi=>(bif i then some (0,false)else(bif decide (a.Kind<3)then some (0,true)else(iter (F_ht n a rec146) n (0,0):Option (Ctl Int (Int×Bool))).bind λj=>match j with|.cont b=>(some (IntKind.i64.wrap (b+1),true))|.done b=>some b))
theorem Qdi(rec146:Value->Option (Int×Bool))(s:∀(j:Value) (r:Int×Bool),rec146 j=some r->Csm prog 272 [.agg (Value.c j)] [] (λr=>.tup [I r.1,.bool r.2]) r)(n:Nat)(j:Value)(r:Int×Bool)(h:B_g rec146 n j=some r):
    Csm prog 272 [.agg (Value.c j)] [] (λr=>.tup [I r.1,.bool r.2]) r:=by
 refine Qc func272 Z Z Z ?_;refine G0 8 Z (Bd h λq a h=>?_);refine Ct q [0,0] [1,2] (λ_=>[(4,.ptr 1 0)]) (λq=>[(1,.row 371 1 (List.map Qa1 q))]) Zf ?_ (λenv H m=>?_)
 .refine G0 5 Z (Is 12 a Z (λQ a=>?_) (λQ a=>?_))
  .refine Go 2 Z (Lm Z (Go 6 Z (Is 21 a Z (λf a=>?_) (λf a=>?_))))
   .refine Go 2 Z (Lm Z (Go 6 Z (Fpg (gT f) QhQ Z (Ldg (gT f) isAgg9 Z ?_))));refine vX (.bool (j.S==[])) (QdA Z Z Z) ?_ (gT f);refine Pk f Z ?_;refine vV (x:=(.agg (List.flatten (List.map Qa1 ([false,((j.L.length:Int)==0),((j.L.length:Int)==0),(j.S==[])]:List Bool))))) (Jl (n:=4) (k:=1) (zs:=[.bool false,.bool false,.bool false,.bool false]) zeroValue371 (ZR.agg (zc ZR.bool (zc ZR.bool (zc ZR.bool (zc ZR.bool ZL.nil))))) runUnderlying371 sizeOf4 Z) ?_;refine vH (Y0 (n:=4) (k:=1) (e:=Qa1) (z:=false) zeroValue371 (by kernel_rfl) (by kernel_rfl) (by kernel_rfl) Z) ?_;refine FE Z (Bd a λaq R a=>Bd a λaf t a=>?_);obtain⟨J,rfl⟩:=Y9 R;refine vU (YZ (e:=Qa1) (l:=(List.replicate 4 false)) (l':=af) J (Qbo t) Zf Z sizeOf371 Zf Zf (congrArg (λl=>List.flatten (List.map Qa1 l)) (Y9 t).2.symm)) ?_;exact FE Z (Go 1 Z (Cl a [0,1]))
   .refine Go 9 Z (KF f Z (KF f Z (KF f Z (Pk f Z ?_))));refine vV (x:=(.agg (List.flatten (List.map Qa1 ([false,((j.L.length:Int)==0),false,false]:List Bool))))) (Jl (n:=4) (k:=1) (zs:=[.bool false,.bool false,.bool false,.bool false]) zeroValue371 (ZR.agg (zc ZR.bool (zc ZR.bool (zc ZR.bool (zc ZR.bool ZL.nil))))) runUnderlying371 sizeOf4 Z) ?_;refine vH (Y0 (n:=4) (k:=1) (e:=Qa1) (z:=false) zeroValue371 (by kernel_rfl) (by kernel_rfl) (by kernel_rfl) Z) ?_;refine FE Z (Bd a λar T a=>Bd a λag u a=>?_);obtain⟨M,rfl⟩:=Y9 T;refine vU (YZ (e:=Qa1) (l:=(List.replicate 4 false)) (l':=ag) M (Qbo u) Zf Z sizeOf371 Zf Zf (congrArg (λl=>List.flatten (List.map Qa1 l)) (Y9 u).2.symm)) ?_;exact FE Z (Go 1 Z (Cl a [0,1]))
  .refine Go 9 Z (Is 21 a Z (λg a=>?_) (λg a=>?_))
   .refine Go 2 Z (Lm Z (Go 6 Z (Fpg (gT g) QhQ Z (Ldg (gT g) isAgg9 Z ?_))));refine vX (.bool (j.S==[])) (QdA Z Z Z) ?_ (gT g);refine Pk g Z ?_;refine vV (x:=(.agg (List.flatten (List.map Qa1 ([false,false,((j.L.length:Int)==0),(j.S==[])]:List Bool))))) (Jl (n:=4) (k:=1) (zs:=[.bool false,.bool false,.bool false,.bool false]) zeroValue371 (ZR.agg (zc ZR.bool (zc ZR.bool (zc ZR.bool (zc ZR.bool ZL.nil))))) runUnderlying371 sizeOf4 Z) ?_;refine vH (Y0 (n:=4) (k:=1) (e:=Qa1) (z:=false) zeroValue371 (by kernel_rfl) (by kernel_rfl) (by kernel_rfl) Z) ?_;refine FE Z (Bd a λau V a=>Bd a λah w a=>?_);obtain⟨N,rfl⟩:=Y9 V;refine vU (YZ (e:=Qa1) (l:=(List.replicate 4 false)) (l':=ah) N (Qbo w) Zf Z sizeOf371 Zf Zf (congrArg (λl=>List.flatten (List.map Qa1 l)) (Y9 w).2.symm)) ?_;exact FE Z (Go 1 Z (Cl a [0,1]))
   .refine Go 9 Z (KF g Z (KF g Z (KF g Z (Pk g Z ?_))));refine vX (.agg (List.flatten (List.map Qa1 ([false,false,false,false]:List Bool)))) (Jl (n:=4) (k:=1) (zs:=[.bool false,.bool false,.bool false,.bool false]) zeroValue371 (ZR.agg (zc ZR.bool (zc ZR.bool (zc ZR.bool (zc ZR.bool ZL.nil))))) runUnderlying371 sizeOf4 Z) ?_;refine vH (Y0 (n:=4) (k:=1) (e:=Qa1) (z:=false) zeroValue371 (by kernel_rfl) (by kernel_rfl) (by kernel_rfl) Z) ?_;refine FE Z (Bd a λav W a=>Bd a λai y a=>?_);obtain⟨O,rfl⟩:=Y9 W;refine vU (YZ (e:=Qa1) (l:=(List.replicate 4 false)) (l':=ai) O (Qbo y) Zf Z sizeOf371 Zf Zf (congrArg (λl=>List.flatten (List.map Qa1 l)) (Y9 y).2.symm)) ?_;exact FE Z (Go 1 Z (Cl a [0,1]))
 refine Gx 1 Z (Ef m (Gc 2 Z (Bd h λB i h=>?_)));refine Ct B [0] [1,2] (λB=>[(50,.bool B)]) Ze Zf ?_ (λenv H m=>?_)
 .refine G0 5 Z (Is 39 i Z (λX i=>?_) (λX i=>?_))
  .exact Go 12 Z (Cl i [0])
  .refine Go 5 Z (Is 44 i Z (λY i=>?_) (λY i=>?_))
   .exact Go 7 Z (Cl i [0])
   .refine Go 2 Z (Bd i λaj E i=>?_);refine vX (.ptr 1 (Int.toNat j.Kind*1)) (Qah (n:=4) (k:=1) (l:=q) E runUnderlying371 sizeOf4 Z) ?_ (gT Z);refine vX (.bool aj) (Ey Z isAgg4 Z (Qq (QaU E).2)) ?_ (gT Z);exact Go 3 Z (Cl i [0])
 refine Gx 1 Z (Ef m (Cn Z h (λaa h=>?_) (λaa h=>?_)))
 .refine Gc 8 Z ?_;obtain rfl:=Oi h;exact R2 2 3 Z Z (Lr [])
 refine Gc 10 Z (Cn Z h (λab h=>?_) (λab h=>?_))
 .refine Gc 8 Z ?_;obtain rfl:=Oi h;exact R2 2 3 Z Z (Lr [])
 refine Gc 7 Z (Lm Z (Go 3 Z (Bd h λak al h=>?_)));refine CtE (b:=ak) [] [] (λF=>[(2,I F)]) Ze Zf ?_ (λF env H am m=>?_)
 .refine G0 1 Z ?_;refine Lp [] [55,56] (λp=>[(2,I p.1),(57,I p.2)]) Ze al Zf (Lr []) λp aw d G=>?_;refine G0 6 Z (Ja Z d (λac d=>?_) (λac d=>?_))
  .refine Gc 2 Z (Qz d ?_);obtain rfl:=Oj G d;exact Gx 1 Z (QD Z (Lr []))
  refine Gc 6 Z (Bd d λan ad d=>IzE ad (Qbq an) Z (Go 8 Z (Cd [] d (s _) Z λP ao d=>FE Z (Go 14 Z (Cn Z d (λae d=>?_) (λae d=>?_))))))
  .refine Gc 10 Z (Q4 d ?_);obtain rfl:=Oj G d;refine Gx 1 Z (QR (Gx 1 Z ?_));obtain rfl:=Oi h;exact R2 2 3 Z Z (Lr [])
  refine Gc 5 Z ?_;refine vX (I (if p.1<P.1 then P.1 else p.1)) (OpV.max Z Z Z Z) ?_;exact Go 8 Z (Qv d (Lr []))
 subst am;refine Gx 1 Z (Ef m (Gc 9 Z ?_));obtain rfl:=Oi h;exact R2 2 3 Z Z (Lr [])
def F_g:Nat->Value->Option (Int×Bool)
  |0=>λ_=>none
  |n+1=>B_g (F_g n) n
theorem k_g(n:Nat):∀(a:Value) (r:Int×Bool),F_g n a=some r->Csm prog 272 [.agg (Value.c a)] [] (λr=>.tup [I r.1,.bool r.2]) r:=by
  induction n with
  |zero=>intro a r h;cases h
  |succ n ih=>intro a r h;exact Qdi _ ih n a r h
def F_fd(n:Nat)(b:Value):Option Int:=
  (F_g n b).bind λa=>(bif (!a.2)then some 1 else(bif decide (16<a.1)then some 2 else some 0))
theorem k_fd(n:Nat)(a:Value)(r:Int)(h:F_fd n a=some r):
    Csm prog 260 [.agg (Value.c a)] [] (λr=>I r) r:=by
 refine Qc func260 Z Z Z ?_;refine G0 9 Z (Cd [] h (k_g _ _) Z λf e h=>FE Z (Go 16 Z (Cn Z h (λb h=>?_) (λb h=>?_))))
 .exact Gc 8 Z (Rt h 2 [])
 refine Gc 7 Z (Cn Z h (λd h=>?_) (λd h=>?_))
 .exact Gc 8 Z (Rt h 2 [])
 exact Gc 9 Z (Rt h 2 [])
def F_ez(n:Nat):Option Unit:=
  some ()
theorem k_ez(n:Nat)(r:Unit)(h:F_ez n=some r):
    C prog 261 [] [] (RQ (λ_=>.ptr 0 0) (λ_=>[.cells 364 [.nilf,.fn (.func 273) [] [],.fn (.func 276) [] [],.fn (.func 277) [] [.ptr 1 0]],.cells 352 [.ptr 0 0]]) r):=by
 refine Qc func261 Z Z Z ?_;refine G0 2 Z (S Z (Go 4 Z ?_));refine vX (.agg [.nilf,.nilf,.nilf,.nilf]) (Jl (n:=4) (k:=1) (parts:=[]) (zs:=[.nilf,.nilf,.nilf,.nilf]) zeroValue364 (ZR.agg (zc ZR.nilf (zc ZR.nilf (zc ZR.nilf (zc ZR.nilf ZL.nil))))) runUnderlying364 sizeOf351 Z) ?_;refine Go 9 Z ?_;refine vX (.ptr 0 1) (YJ (i:=1) (n:=4) (k:=1) (j:=1) (by decide) Z runUnderlying364 sizeOf351 Z) ?_;refine Go 8 Z ?_;refine vX (.ptr 0 2) (YJ (i:=2) (n:=4) (k:=1) (j:=2) (by decide) Z runUnderlying364 sizeOf351 Z) ?_;refine Go 9 Z ?_;refine vX (.ptr 0 3) (YJ (i:=3) (n:=4) (k:=1) (j:=3) (by decide) Z runUnderlying364 sizeOf351 Z) ?_;exact Go 11 Z (Rt h 0 [0,1])
def F_bb(n:Nat)(a:Int):Option Unit:=
  some ()
theorem k_bb(n:Nat)(a:Int)(r:Unit)(h:F_bb n a=some r):
    Csm prog 275 [I a] [] (λ_=>.int .u64 (Qes .u64 (QeA .u64 (IntKind.u64.wrap a) 1) (IntKind.u64.wrap (QX .i64 a 63)))) r:=by
 refine Qc func275 Z Z Z ?_;refine G0 8 Z ?_;refine vX (.int .u64 (IntKind.u64.wrap a)) (YE Z runUnderlying3 runUnderlying263 Z) ?_;refine vX (.int .u64 (QeA .u64 (IntKind.u64.wrap a) 1)) (OpV.shl Z Z Z (by decide)) ?_;refine Go 1 Z ?_;refine vX (I (QX .i64 a 63)) (OpV.shr Z Z Z (by decide)) ?_;refine vX (.int .u64 (IntKind.u64.wrap (QX .i64 a 63))) (YE Z runUnderlying3 runUnderlying263 Z) ?_;refine vX (.int .u64 (Qes .u64 (QeA .u64 (IntKind.u64.wrap a) 1) (IntKind.u64.wrap (QX .i64 a 63)))) (OpV.xor Z Z Z) ?_;exact Go 4 Z (Rt h 2 [])
def F_ew(n:Nat)(a:(List Int)×Int):Option (Ctl ((List Int)×Int) ((List Int)×Int)):=
  (bif decide (128<=a.2)then(app a.1 [orI .u8 (IntKind.u8.wrap a.2) 128]).bind λb=>some (.cont (b,QX .u64 a.2 7))else some (.done (a.1,a.2)))
def F_ab(n:Nat)(c:List Int)(d:Int):Option (List Int):=
  (iter (F_ew n) n (c,d):Option ((List Int)×Int)).bind λa=>(app a.1 [IntKind.u8.wrap a.2]).bind λb=>some b
theorem k_ab(n:Nat)(d:List Int)(k:Int)(r:List Int)(h:F_ab n d k=some r):
    C prog 274 [.osl 0 0 d.length 1,.int .u64 k] [.row 5 1 (List.map (Qe .u8) d)] (RQ (λr=>.osl 1 0 r.length 1) (λr=>[.dead,.row 5 1 (List.map (Qe .u8) r)]) r):=by
 refine Qc func274 Z Z Z ?_;refine G0 6 Z (Bd h λc p h=>?_);refine Ct c [0,0] [] (λc=>[(0,.osl 1 0 c.1.length 1),(1,.int .u64 c.2)]) (λc=>[(0,.dead),(1,.row 5 1 (List.map (Qe .u8) c.1))]) Zf ?_ (λenv H l=>?_)
 .refine G0 1 Z ?_;refine Lp [0,0] [] (λb=>[(0,.osl 1 0 b.1.length 1),(1,.int .u64 b.2)]) (λb=>[(0,.dead),(1,.row 5 1 (List.map (Qe .u8) b.1))]) p Zf ?_ ?_
  .refine En (Qk3 (s:=0) (i:=0) Z Z Z) ?_;exact Lr [0,1]
  intro b q a m;refine G0 7 Z (Ja Z a (λf a=>?_) (λf a=>?_))
  .refine Gc 2 Z (Qz a ?_);obtain rfl:=Oj m a;exact Gx 1 Z (QW (Lr [0,1]))
  refine Gc 7 Z ?_;refine vX (.int .u8 (IntKind.u8.wrap b.2)) (YE Z runUnderlying263 runUnderlying5 Z) ?_;refine vX (.int .u8 (orI .u8 (IntKind.u8.wrap b.2) 128)) (OpV.or Z Z Z) ?_;refine vH (El (xs:=[.tmp 12]) (es:=List.map (Qe .u8) [orI .u8 (IntKind.u8.wrap b.2) 128]) Jh Z Z Z Z Z ⟨Z,trivial⟩ Z Z) ?_;refine FE Z (Bd a λt g a=>?_);refine vH (Yp (e:=(Qe .u8)) g Jh runUnderlying249 (Qa2 (i:=2))) ?_;refine FE Z (Go 6 Z ?_);refine vX (.int .u64 (QX .u64 b.2 7)) (OpV.shr Z Z Z (by decide)) ?_;exact Go 2 Z (Qv a (Lr [0,3]))
 refine Gx 1 Z (Ef l (Gc 4 Z ?_));refine vX (.int .u8 (IntKind.u8.wrap c.2)) (YE Z runUnderlying263 runUnderlying5 Z) ?_;refine vH (El (xs:=[.tmp 17]) (es:=List.map (Qe .u8) [IntKind.u8.wrap c.2]) Jh Z Z Z Z Z ⟨Z,trivial⟩ Z Z) ?_;refine FE Z (Bd h λu j h=>?_);refine vH (Yp (e:=(Qe .u8)) j Jh runUnderlying249 (Qa2 (i:=2))) ?_;exact FE Z (Go 4 Z (Rt h 4 [0,3]))
def F_gt(n:Nat)(a:Value):Option (List Int):=
  (app [] [1]).bind λb=>(F_bb n a.N).bind λd=>(F_ab n b (Qes .u64 (QeA .u64 (IntKind.u64.wrap a.N) 1) (IntKind.u64.wrap (QX .i64 a.N 63)))).bind λc=>some c
theorem k_gt(n:Nat)(a:Value)(r:List Int)(h:F_gt n a=some r):
    C prog 273 [.nils,.agg (Value.c a)] [] (RQ (λr=>.osl 0 0 r.length 1) (λr=>[.row 5 1 (List.map (Qe .u8) r)]) r):=by
 refine Qc func273 Z Z Z ?_;refine G0 7 Z (DAs 5 2 [0,0,1,3,3] (by kernel_rfl) (Da 1 Z ?_));refine DA.wo (x:=.rsl 1 (List.map (Qe .u8) [1])) ?_ ?_
 .refine vH (YR (xs:=[.const (.int .u8 1)]) (es:=List.map (Qe .u8) [1]) Jh Z Z Z Z Z ⟨Z,trivial⟩ Z Z) ?_;exact FE Z Wp
 obtain⟨g,b,h⟩:=YN h;refine QbS (Qil (e:=(Qe .u8)) b Jh runUnderlying249 Qcr) Z Z (Db 1 Z ?_);refine DB.wo2 (x:=I a.N) (Ld isAgg3 Z Wp) (Ld isAgg3 Z Wp) ?_;exact DB.done Z (Cz [] h (k_bb _ _) Z λi d h=>Cd [1] h (k_ab _ _ _) Z λj f h=>FE Z (Go 4 Z (Rt h 4 [2])))
def F_an(n:Nat)(b:List Int)(a:Value):Option (List Int):=
  (app b [1]).bind λc=>(F_bb n a.N).bind λe=>(F_ab n c (Qes .u64 (QeA .u64 (IntKind.u64.wrap a.N) 1) (IntKind.u64.wrap (QX .i64 a.N 63)))).bind λd=>some d
theorem k_an(n:Nat)(a:List Int)(b:Value)(r:List Int)(h:F_an n a b=some r):
    C prog 273 [.osl 0 0 a.length 1,.agg (Value.c b)] [.row 5 1 (List.map (Qe .u8) a)] (RQ (λr=>.osl 1 0 r.length 1) (λr=>[.dead,.row 5 1 (List.map (Qe .u8) r)]) r):=by
 refine Qc func273 Z Z Z ?_;refine G0 7 Z (DAs 5 2 [0,0,1,3,3] (by kernel_rfl) (Da 1 Z ?_));refine DA.wo (x:=.rsl 1 (List.map (Qe .u8) [1])) ?_ ?_
 .refine vH (YR (xs:=[.const (.int .u8 1)]) (es:=List.map (Qe .u8) [1]) Jh Z Z Z Z Z ⟨Z,trivial⟩ Z Z) ?_;exact FE Z Wp
 obtain⟨i,d,h⟩:=YN h;refine QbS (Yp (e:=(Qe .u8)) d Jh runUnderlying249 Qcr) Z Z (Db 1 Z ?_);refine DB.wo2 (x:=I b.N) (Ld isAgg3 Z Wp) (Ld isAgg3 Z Wp) ?_;exact DB.done Z (Cz [] h (k_bb _ _) Z λj f h=>Cd [2] h (k_ab _ _ _) Z λk g h=>FE Z (Go 4 Z (Rt h 4 [0,3])))
def F_ii(n:Nat)(c:Value)(rec155:(List Int)->Value->Option (List Int))(a:(List Int)×Int):Option (Ctl ((List Int)×Int) (List Int)):=
  (bif decide (a.2<(c.L.length:Int))then(idx c.L a.2).bind λb=>(bif (b.Kind==0)then none else(bif (b.Kind==1)then(F_an n a.1 b).bind λd=>some (.cont (d,IntKind.i64.wrap (a.2+1)))else(bif (b.Kind==2)then none else(bif (b.Kind==3)then(rec155 a.1 b).bind λe=>some (.cont (e,IntKind.i64.wrap (a.2+1)))else none))))else some (.done a.1))
def B_al(rec155:(List Int)->Value->Option (List Int))(n:Nat)(c:List Int)(a:Value):Option (List Int):=
  (app c [3]).bind λd=>(F_ab n d (IntKind.u64.wrap (a.L.length:Int))).bind λe=>(iter (F_ii n a rec155) n (e,0):Option (List Int)).bind λb=>some b
theorem QaQ(rec155:(List Int)->Value->Option (List Int))(l:∀(g:List Int) (b:Value) (r:List Int),rec155 g b=some r->C prog 277 [.osl 0 0 g.length 1,.agg (Value.c b),.ptr 1 0] [.row 5 1 (List.map (Qe .u8) g),.cells 352 [.ptr 2 0],.cells 364 [.nilf,.fn (.func 273) [] [],.fn (.func 276) [] [],.fn (.func 277) [] [.ptr 1 0]]] (RQ (λr=>.osl 3 0 r.length 1) (λr=>[.dead,.cells 352 [.ptr 2 0],.cells 364 [.nilf,.fn (.func 273) [] [],.fn (.func 276) [] [],.fn (.func 277) [] [.ptr 1 0]],.row 5 1 (List.map (Qe .u8) r)]) r))(n:Nat)(g:List Int)(b:Value)(r:List Int)(h:B_al rec155 n g b=some r):
    C prog 277 [.osl 0 0 g.length 1,.agg (Value.c b),.ptr 1 0] [.row 5 1 (List.map (Qe .u8) g),.cells 352 [.ptr 2 0],.cells 364 [.nilf,.fn (.func 273) [] [],.fn (.func 276) [] [],.fn (.func 277) [] [.ptr 1 0]]] (RQ (λr=>.osl 3 0 r.length 1) (λr=>[.dead,.cells 352 [.ptr 2 0],.cells 364 [.nilf,.fn (.func 273) [] [],.fn (.func 276) [] [],.fn (.func 277) [] [.ptr 1 0]],.row 5 1 (List.map (Qe .u8) r)]) r):=by
 refine Qc func277 Z Z Z ?_;refine G0 7 Z (DAs 7 2 [0,0,1,3,3,3,3] (by kernel_rfl) (Da 1 Z ?_));refine DA.wo (x:=.rsl 1 (List.map (Qe .u8) [3])) ?_ ?_
 .refine vH (YR (xs:=[.const (.int .u8 3)]) (es:=List.map (Qe .u8) [3]) Jh Z Z Z Z Z ⟨Z,trivial⟩ Z Z) ?_;exact FE Z Wp
 obtain⟨P,z,h⟩:=YN h;refine QbS (Yp (e:=(Qe .u8)) z Jh runUnderlying249 Qcr) Z Z (Db 1 Z ?_);refine DB.wo2 (x:=.rsl 4 (List.map Value.enc b.L)) (Ld isAgg303 Z Wp) (Ld isAgg303 Z Wp) ?_;refine DB.wo2 (x:=I (b.L.length:Int)) (LnM runUnderlying303 Z Wp) (LnM runUnderlying303 Z Wp) ?_;refine DB.wo2 (x:=.int .u64 (IntKind.u64.wrap (b.L.length:Int))) ?_ ?_ ?_
 .refine vX (.int .u64 (IntKind.u64.wrap (b.L.length:Int))) (YE Z runUnderlying3 runUnderlying263 Z) ?_;exact Wp
 .refine vX (.int .u64 (IntKind.u64.wrap (b.L.length:Int))) (YE Z runUnderlying3 runUnderlying263 Z) ?_;exact Wp
 refine DB.done Z (Cd [4] h (k_ab _ _ _) Z λQ J h=>FE Z (Go 8 Z (Lm Z (Go 3 Z (Bd h λd B h=>?_)))));refine Ct d [0,1,2,3] [] (λd=>[(0,.osl 3 0 d.length 1)]) (λd=>[(3,.row 5 1 (List.map (Qe .u8) d))]) Zf ?_ (λenv H E=>?_)
 .refine G0 1 Z ?_;refine Lp [0,1,2,5] [2,17,18] (λf=>[(0,.osl 3 0 f.1.length 1),(19,I f.2)]) (λf=>[(3,.row 5 1 (List.map (Qe .u8) f.1))]) B Zf (Lr [0,1,2,5]) λf M a s=>?_;refine G0 6 Z (Ja Z a (λt a=>?_) (λt a=>?_))
  .refine Gc 2 Z (Qz a ?_);obtain rfl:=Oj s a;exact Gx 1 Z (QW (Lr [0,1,2,3]))
  refine Gc 6 Z (Bd a λm u a=>IzE u (Qbq m) Z (Go 5 Z (DSs 9 Z (D 4 Z (If a (λw a=>?_) (λw a=>?_))))))
  .cases a
  .refine If a (λp a=>?_) (λp a=>?_)
   .refine DS.v (x:=(.ptr 2 1)) (YJ (i:=m.Kind) (n:=4) (k:=1) (j:=1) p Z runUnderlying364 sizeOf351 Z) ?_;exact D 4 Z (Eh Z (Cd [3] a (k_an _ _ _) Z λN F a=>FE Z (Go 8 Z (Qv a (Lr [0,1,2,5])))))
   .refine If a (λy a=>?_) (λy a=>?_)
    .cases a
    .refine If a (λq a=>?_) (λq a=>?_)
     .refine DS.v (x:=(.ptr 2 3)) (YJ (i:=m.Kind) (n:=4) (k:=1) (j:=3) q Z runUnderlying364 sizeOf351 Z) ?_;exact D 4 Z (Eh Z (Cd [3,1,2] a (l _ _) Z λO G a=>FE Z (Go 8 Z (Qv a (Lr [0,1,2,5])))))
     .cases a
 exact Gx 1 Z (Ef E (Gc 7 Z (Rt h 5 [0,1,2,3])))
def F_al:Nat->(List Int)->Value->Option (List Int)
  |0=>λ_ _=>none
  |n+1=>B_al (F_al n) n
theorem k_al(n:Nat):∀(a:List Int) (b:Value) (r:List Int),F_al n a b=some r->C prog 277 [.osl 0 0 a.length 1,.agg (Value.c b),.ptr 1 0] [.row 5 1 (List.map (Qe .u8) a),.cells 352 [.ptr 2 0],.cells 364 [.nilf,.fn (.func 273) [] [],.fn (.func 276) [] [],.fn (.func 277) [] [.ptr 1 0]]] (RQ (λr=>.osl 3 0 r.length 1) (λr=>[.dead,.cells 352 [.ptr 2 0],.cells 364 [.nilf,.fn (.func 273) [] [],.fn (.func 276) [] [],.fn (.func 277) [] [.ptr 1 0]],.row 5 1 (List.map (Qe .u8) r)]) r):=by
  induction n with
  |zero=>intro a b r h;cases h
  |succ n ih=>intro a b r h;exact QaQ _ ih n a b r h
def F_gn(n:Nat)(c:Value)(a:(List Int)×Int):Option (Ctl ((List Int)×Int) (List Int)):=
  (bif decide (a.2<(c.L.length:Int))then(idx c.L a.2).bind λb=>(bif (b.Kind==0)then none else(bif (b.Kind==1)then(F_an n a.1 b).bind λd=>some (.cont (d,IntKind.i64.wrap (a.2+1)))else(bif (b.Kind==2)then none else(bif (b.Kind==3)then(F_al n a.1 b).bind λe=>some (.cont (e,IntKind.i64.wrap (a.2+1)))else none))))else some (.done a.1))
def F_cs(n:Nat)(a:Value):Option (List Int):=
  (app [] [3]).bind λc=>(F_ab n c (IntKind.u64.wrap (a.L.length:Int))).bind λd=>(iter (F_gn n a) n (d,0):Option (List Int)).bind λb=>some b
theorem k_cs(n:Nat)(f:Value)(r:List Int)(h:F_cs n f=some r):
    C prog 277 [.nils,.agg (Value.c f),.ptr 0 0] [.cells 352 [.ptr 1 0],.cells 364 [.nilf,.fn (.func 273) [] [],.fn (.func 276) [] [],.fn (.func 277) [] [.ptr 0 0]]] (RQ (λr=>.osl 2 0 r.length 1) (λr=>[.cells 352 [.ptr 1 0],.cells 364 [.nilf,.fn (.func 273) [] [],.fn (.func 276) [] [],.fn (.func 277) [] [.ptr 0 0]],.row 5 1 (List.map (Qe .u8) r)]) r):=by
 refine Qc func277 Z Z Z ?_;refine G0 7 Z (DAs 7 2 [0,0,1,3,3,3,3] (by kernel_rfl) (Da 1 Z ?_));refine DA.wo (x:=.rsl 1 (List.map (Qe .u8) [3])) ?_ ?_
 .refine vH (YR (xs:=[.const (.int .u8 3)]) (es:=List.map (Qe .u8) [3]) Jh Z Z Z Z Z ⟨Z,trivial⟩ Z Z) ?_;exact FE Z Wp
 obtain⟨N,w,h⟩:=YN h;refine QbS (Qil (e:=(Qe .u8)) w Jh runUnderlying249 Qcr) Z Z (Db 1 Z ?_);refine DB.wo2 (x:=.rsl 4 (List.map Value.enc f.L)) (Ld isAgg303 Z Wp) (Ld isAgg303 Z Wp) ?_;refine DB.wo2 (x:=I (f.L.length:Int)) (LnM runUnderlying303 Z Wp) (LnM runUnderlying303 Z Wp) ?_;refine DB.wo2 (x:=.int .u64 (IntKind.u64.wrap (f.L.length:Int))) ?_ ?_ ?_
 .refine vX (.int .u64 (IntKind.u64.wrap (f.L.length:Int))) (YE Z runUnderlying3 runUnderlying263 Z) ?_;exact Wp
 .refine vX (.int .u64 (IntKind.u64.wrap (f.L.length:Int))) (YE Z runUnderlying3 runUnderlying263 Z) ?_;exact Wp
 refine DB.done Z (Cd [3] h (k_ab _ _ _) Z λO F h=>FE Z (Go 8 Z (Lm Z (Go 3 Z (Bd h λb y h=>?_)))));refine Ct b [0,1,2] [] (λb=>[(0,.osl 2 0 b.length 1)]) (λb=>[(2,.row 5 1 (List.map (Qe .u8) b))]) Zf ?_ (λenv H z=>?_)
 .refine G0 1 Z ?_;refine Lp [0,1,4] [2,17,18] (λd=>[(0,.osl 2 0 d.1.length 1),(19,I d.2)]) (λd=>[(2,.row 5 1 (List.map (Qe .u8) d.1))]) y Zf (Lr [0,1,4]) λd G a p=>?_;refine G0 6 Z (Ja Z a (λq a=>?_) (λq a=>?_))
  .refine Gc 2 Z (Qz a ?_);obtain rfl:=Oj p a;exact Gx 1 Z (QW (Lr [0,1,2]))
  refine Gc 6 Z (Bd a λg s a=>IzE s (Qbq g) Z (Go 5 Z (DSs 9 Z (D 4 Z (If a (λt a=>?_) (λt a=>?_))))))
  .cases a
  .refine If a (λl a=>?_) (λl a=>?_)
   .refine DS.v (x:=(.ptr 1 1)) (YJ (i:=g.Kind) (n:=4) (k:=1) (j:=1) l Z runUnderlying364 sizeOf351 Z) ?_;exact D 4 Z (Eh Z (Cd [2] a (k_an _ _ _) Z λJ B a=>FE Z (Go 8 Z (Qv a (Lr [0,1,4])))))
   .refine If a (λu a=>?_) (λu a=>?_)
    .cases a
    .refine If a (λm a=>?_) (λm a=>?_)
     .refine DS.v (x:=(.ptr 1 3)) (YJ (i:=g.Kind) (n:=4) (k:=1) (j:=3) m Z runUnderlying364 sizeOf351 Z) ?_;exact D 4 Z (Eh Z (Cd [2,0,1] a (k_al _ _ _) Z λM E a=>FE Z (Go 8 Z (Qv a (Lr [0,1,4])))))
     .cases a
 exact Gx 1 Z (Ef z (Gc 7 Z (Rt h 5 [0,1,2])))
def F_fl(n:Nat)(a:Value):Option ((List Int)×Int):=
  (F_fd n a).bind λb=>(bif (b != 0)then some ([],b)else(F_ez n).bind λe=>(bif (a.Kind==0)then none else(bif (a.Kind==1)then(F_gt n a).bind λc=>some (c,0)else(bif (a.Kind==2)then none else(bif (a.Kind==3)then(F_cs n a).bind λd=>some (d,0)else none)))))
theorem k_fl(n:Nat)(a:Value)(r:(List Int)×Int)(h:F_fl n a=some r):
    C prog 214 [.agg (Value.c a)] [] (RQ (λr=>.tup [.osl 0 0 r.1.length 1,I r.2]) (λr=>[.row 5 1 (List.map (Qe .u8) r.1)]) r):=by
 refine Qc func214 Z Z Z ?_;refine G0 11 Z (Cz [] h (k_fd _ _) Z λu m h=>Go 9 Z (Cn Z h (λe h=>?_) (λe h=>?_)))
 .refine Gc 9 Z ?_;obtain rfl:=Oi h;refine R2 2 3 Z Z ?_;refine En (Er (s:=2) (k:=1) (t:=5) (XR Z) Z) ?_;exact Lr [1]
 refine Gc 3 Z (DAs 8 0 [1,3,3,2,2,2,2,3] (by kernel_rfl) ?_);obtain⟨w,f,h⟩:=YN h;refine DA.op (x:=.ptr 1 0) (H1:=[.cells 305 (Value.c a),.cells 364 [.nilf,.fn (.func 273) [] [],.fn (.func 276) [] [],.fn (.func 277) [] [.ptr 2 0]],.cells 352 [.ptr 1 0]]) ?_ ?_
 .refine Qs [] (OpC.fn call261 Z Z Z) (k_ez _ _ f) ?_;rintro _ _ ⟨rfl,rfl⟩;exact FE Z Wp
 refine Db 1 Z ?_;refine DB.wo2 (x:=I a.Kind) (Ld isAgg3 Z Wp) (Ld isAgg3 Z Wp) ?_;refine Db 1 Z (If h (λg h=>?_) (λg h=>?_))
 .cases h
 .refine If h (λb h=>?_) (λb h=>?_)
  .refine DB.wo1 (x:=.ptr 1 1) ?_ ?_
   .refine vX (.ptr 1 1) (YJ (i:=a.Kind) (n:=4) (k:=1) (j:=1) b Z runUnderlying364 sizeOf351 Z) ?_;exact Wp
   refine Db 2 Z ?_;refine DB.wo2 (x:=.agg (Value.c a)) ?_ ?_ ?_
   .refine vX (.agg (Value.c a)) (Qu Z isAgg305 sizeOf305 Z (Pts.cells Z Z) Z Z) ?_;exact Wp
   .refine vX (.agg (Value.c a)) (Qu Z isAgg305 sizeOf305 Z (Pts.cells Z Z) Z Z) ?_;exact Wp
   refine DB.done Z (Cd [] h (k_gt _ _) Z λy p h=>FE Z (Go 5 Z ?_));obtain rfl:=Oi h;exact R2 2 3 Z Z (Lr [3])
  .refine If h (λl h=>?_) (λl h=>?_)
   .cases h
   .refine If h (λd h=>?_) (λd h=>?_)
    .refine DB.wo1 (x:=.ptr 1 3) ?_ ?_
     .refine vX (.ptr 1 3) (YJ (i:=a.Kind) (n:=4) (k:=1) (j:=3) d Z runUnderlying364 sizeOf351 Z) ?_;exact Wp
     refine Db 2 Z ?_;refine DB.wo2 (x:=.agg (Value.c a)) ?_ ?_ ?_
     .refine vX (.agg (Value.c a)) (Qu Z isAgg305 sizeOf305 Z (Pts.cells Z Z) Z Z) ?_;exact Wp
     .refine vX (.agg (Value.c a)) (Qu Z isAgg305 sizeOf305 Z (Pts.cells Z Z) Z Z) ?_;exact Wp
     refine DB.done Z (Cd [2,1] h (k_cs _ _) Z λz q h=>FE Z (Go 5 Z ?_));obtain rfl:=Oi h;exact R2 2 3 Z Z (Lr [3])
    .cases h
def F_hp(n:Nat)(b:(List Int)×Bool)(a:(List Value)×Int):Option (Ctl ((List Value)×Int) (List Value)):=
  (bif decide (a.2<(b.1.length:Int))then(idx b.1 a.2).bind λc=>(app a.1 [{Kind:=1,N:=c,S:=[],L:=[]:Value}]).bind λd=>some (.cont (d,IntKind.i64.wrap (a.2+1)))else some (.done a.1))
def F_aq(n:Nat)(d:Fact):Option ((List Int)×Int):=
  (F_as n d).bind λb=>(bif (!b.2)then some ([],120)else(iter (F_hp n b) n ([],0):Option (List Value)).bind λc=>(F_fl n ({Kind:=3,N:=0,S:=[],L:=c:Value})).bind λa=>some (a.1,a.2))
theorem k_aq(n:Nat)(q:Fact)(r:(List Int)×Int)(h:F_aq n q=some r):
    C prog 151 [.agg (Fact.c q)] [] (RQ (λr=>.tup [.osl 0 0 r.1.length 1,I r.2]) (λr=>[.row 5 1 (List.map (Qe .u8) r.1)]) r):=by
 refine Qc func151 Z Z Z ?_;refine G0 10 Z (Cd [] h (k_as _ _) Z λG z h=>FE Z (Go 14 Z (Cn Z h (λu h=>?_) (λu h=>?_))))
 .refine Gc 8 Z ?_;obtain rfl:=Oi h;refine R2 2 3 Z Z ?_;refine En (Er (s:=2) (k:=1) (t:=5) (XR Z) Z) ?_;exact Lr [2]
 refine Gc 4 Z ?_;refine vX (.agg [I 3,I 0,.str [],.nils]) (OpV.build (zs:=[I 0,I 0,.str [],.nils]) zeroValue305 (zrC Z) QiI) ?_;refine vH (Qfz (v:=(.agg [I 0,I 0,.str [],.nils])) zeroValue305 (zrC Z)) ?_;refine FE Z (Go 11 Z (Bd h λd w h=>?_));refine Ct d [0,1] [] (λ_=>[(6,.ptr 0 0)]) (λd=>[(0,.cells 305 [I 3,I 0,.str [],.osl 1 0 d.length 4]),(1,.row 305 4 (List.map Value.enc d))]) Zf ?_ (λenv H x=>?_)
 .refine G0 1 Z ?_;refine Lp [2,0,1] [6,17,18] (λb=>[(19,I b.2)]) (λb=>[(0,.cells 305 [I 3,I 0,.str [],.osl 1 0 b.1.length 4]),(1,.row 305 4 (List.map Value.enc b.1))]) w Zf ?_ ?_
  .refine En (Qd3 (i:=2) (m:=3) (t:=305) (k:=4) Z Z Z) ?_;exact Lr [2,3,1]
  intro b B a j;refine G0 6 Z (Ja Z a (λl a=>?_) (λl a=>?_))
  .refine Gc 2 Z (Qz a ?_);obtain rfl:=Oj j a;exact Gx 1 Z (QW (Lr [0,1]))
  refine Gc 6 Z (Bd a λg f a=>?_);refine vX (.ptr 2 (Int.toNat b.2*1)) (QZ f Z runUnderlying66 sizeOf3) ?_;refine vX (I g) (Ey Z isAgg3 Z (Qq f)) ?_;refine Go 8 Z ?_;refine vH (El (xs:=[.tmp 26]) (es:=List.map Value.enc [{Kind:=1,N:=g,S:=[],L:=[]:Value}]) Qmr Z Z Z Z Z ⟨Z,trivial⟩ Z Z) ?_;refine FE Z (Bd a λE p a=>?_);refine vH (Yp (e:=Value.enc) p Qmr runUnderlying303 (Qa2 (i:=3))) ?_;exact FE Z (Go 9 Z (Qv a (Lr [0,4,2])))
 refine Gx 1 Z (Ef x (Gc 3 Z ?_));refine Et (QfB [(31,_)] Z Z (Qm2.cons Z (FzA.agg (Ed (Ee _) (Ed (Ee _) (Ed (Ee _) (Ed Ep (Ek _)))))) Qm2.nil) (FzH.cells (Ed (Ee _) (Ed (Ee _) (Ed (Ee _) (Ed Ep (Ek _))))) (Ec (QbP _)))) ?_;refine Cd [] h (k_fl _ _) Z λF y h=>FE Z (Go 7 Z ?_);obtain rfl:=Oi h;exact R2 2 3 Z Z (Lr [2])
def F_gp(n:Nat)(a:List Int)(b:List Int):Option Unit:=
  some ()
theorem k_gp(n:Nat)(a:List Int)(b:List Int)(r:Unit)(h:F_gp n a b=some r):
    Csm prog 152 [.rsl 1 (List.map (Qe .u8) a),.rsl 1 (List.map (Qe .u8) b)] [] (λ_=>I (cmpB a b)) r:=by
 refine Qc func152 Z Z Z ?_;refine G0 9 Z ?_;refine vX (I (cmpB a b)) (OpV.cmpB (l:=a) (m:=b) func215 (by kernel_rfl) (by kernel_rfl) (by kernel_rfl) (by kernel_rfl) QkO.rsl QkO.rsl) ?_;exact Go 4 Z (Rt h 4 [])
def F_bw(n:Nat)(a:Fact)(b:Fact):Option Int:=
  (F_k n a.At b.At).bind λf=>(F_k n a.Crew b.Crew).bind λg=>(F_k n a.No b.No).bind λh=>(F_ar n [f,g,h]).bind λc=>(bif (c != 0)then some c else(F_aq n a).bind λd=>(F_aq n b).bind λe=>(F_gp n d.1 e.1).bind λi=>some (cmpB d.1 e.1))
theorem k_bw(n:Nat)(a:Fact)(b:Fact)(r:Int)(h:F_bw n a b=some r):
    Csm prog 81 [.agg (Fact.c a),.agg (Fact.c b)] [] (λr=>I r) r:=by
 refine Qc func81 Z Z Z ?_;refine G0 9 Z (DSs 14 Z (D 4 Z ?_));refine Dz [] h (k_k _ _ _) Z λe i h=>D 4 Z ?_;refine Dz [] h (k_k _ _ _) Z λf j h=>D 4 Z (Eh Z (Cz [] h (k_k _ _ _) Z λg k h=>?_));refine vH (YR (xs:=[.tmp 14,.tmp 19,.tmp 24]) (es:=List.map (Qe .i64) [e,f,g]) QS Z Z Z Z Z ⟨Z,Z,Z,trivial⟩ Z Z) ?_;refine FE Z (Cz [] h (k_ar _ _) Z λs l h=>Go 9 Z (Cn Z h (λd h=>?_) (λd h=>?_)))
 .exact Gc 8 Z (Rt h 4 [])
 exact Gc 5 Z (Cd [] h (k_aq _ _) Z λt m h=>FE Z (Go 10 Z (Cd [] h (k_aq _ _) Z λu p h=>FE Z (Go 11 Z (Cb h (k_gp _ _ _) Z (lo (lo ln)) λw q h=>Go 4 Z (Rt h 4 []))))))
def F_az(n:Nat)(a:Fact)(b:Fact):Option Unit:=
  some ()
theorem k_az(n:Nat)(a:Fact)(b:Fact)(r:Unit)(h:F_az n a b=some r):
    Csm prog 83 [.agg (Fact.c a),.agg (Fact.c b)] [] (λ_=>.bool (a==b)) r:=by
 refine Qc func83 Z Z Z ?_;refine G0 11 Z ?_;refine vX (.bool (a==b)) (Qgr (p:=a) (q:=b) Qmo Z Z) ?_;exact Go 4 Z (Rt h 4 [])
def F_gl(n:Nat)(f:List Fact)(b:Int)(a:(List Fact)×Int×Int):Option (Ctl ((List Fact)×Int×Int) ((List Fact)×Int)):=
  (bif decide (a.2.2<((Int.toNat (f.length:Int)-Int.toNat b:Nat):Int))then(Qby a.1 b (f.length:Int) a.2.2).bind λc=>(Qby a.1 b (f.length:Int) (IntKind.i64.wrap (a.2.2-1))).bind λd=>(F_az n c d).bind λi=>((bif (!(c==d))then(Qby a.1 b (f.length:Int) a.2.2).bind λg=>(idx a.1 a.2.1).bind λj=>(QaX a.1 a.2.1 g).bind λh=>some (h,IntKind.i64.wrap (a.2.1+1))else some (a.1,a.2.1)):Option ((List Fact)×Int)).bind λe=>some (.cont (e.1,e.2,IntKind.i64.wrap (a.2.2+1)))else some (.done (a.1,a.2.1)))
def F_em(n:Nat)(b:List Fact)(a:Int):Option (Ctl Int (Ctl Unit (List Fact))):=
  (bif decide (a<(b.length:Int))then(idx b a).bind λc=>(idx b (IntKind.i64.wrap (a-1))).bind λd=>(F_az n c d).bind λg=>(bif (c==d)then(slc b a (b.length:Int)).bind λh=>(iter (F_gl n b a) n (b,a,1):Option ((List Fact)×Int)).bind λe=>(slc e.1 0 e.2).bind λf=>some (.done (.done f))else some (.cont (IntKind.i64.wrap (a+1))))else some (.done (.cont ())))
def F_ca(n:Nat)(b:List Fact):Option (List Fact):=
  (bif decide ((b.length:Int)<2)then some b else(iter (F_em n b) n 1:Option (Ctl Unit (List Fact))).bind λc=>match c with|.cont a=>(some b)|.done a=>some a)
theorem k_ca(n:Nat)(q:List Fact)(r:List Fact)(h:F_ca n q=some r):
    C prog 82 [.osl 0 0 q.length 57,.fn (.func 83) [] []] [.row 96 57 (List.map Fact.c q)] (RQ (λr=>.osl 0 0 r.length 57) (λr=>[.row 96 57 (List.map Fact.c r)]) r):=by
 refine Qc func82 Z Z Z ?_;refine G0 13 Z (Cn Z h (λad h=>?_) (λad h=>?_))
 .exact Gc 8 Z (Rt h 4 [0])
 refine Gc 8 Z (Bd h λT V h=>?_);refine CtE (b:=T) [0] [0] Ze Ze Zf ?_ (λaf env H ae w=>?_)
 .refine G0 1 Z ?_;refine Lp [0] [0,1] (λg=>[(5,I g)]) Ze V Zf (Lr [0]) λg ai a y=>?_;refine G0 9 Z (Ja Z a (λM a=>?_) (λM a=>?_))
  .refine Gc 2 Z (Qz a ?_);obtain rfl:=Oj y a;exact Gx 1 Z (QD Z (Lr [0]))
  refine Gc 5 Z (DSs 10 Z (D 3 Z ?_));obtain⟨W,z,a⟩:=YN a;refine DS.v (x:=(.ptr 0 (Int.toNat g*57))) (QZ z Z runUnderlying34 sizeOf96) ?_;refine DS.v (x:=(.agg (Fact.c W))) (Qu Z isAgg96 sizeOf96 Z (Qq z) Z Z) ?_;refine D 3 Z ?_;obtain⟨X,B,a⟩:=YN a;refine DS.v (x:=(.ptr 0 (Int.toNat (IntKind.i64.wrap (g-1))*57))) (QZ B Z runUnderlying34 sizeOf96) ?_;refine DS.v (x:=(.agg (Fact.c X))) (Qu Z isAgg96 sizeOf96 Z (Qq B) Z Z) ?_;refine Eh Z (Cz [] a (k_az _ _ _) Z λaj ag a=>Go 2 Z (Cn Z a (λN a=>?_) (λN a=>?_)))
  .refine Gc 4 Z (Bd a λak O a=>?_);refine vX (.osl 0 (0+Int.toNat g) (Int.toNat (q.length:Int)-Int.toNat g) 57) (QdB (l:=q) O runUnderlying34 sizeOf96 (.inr ⟨_,Z,Z⟩) (.inl ⟨Z,Z⟩)) ?_;refine Go 9 Z (Bd a λj Y a=>?_);refine Ct j [0] [] (λj=>[(0,.osl 0 0 j.1.length 57),(5,I j.2)]) (λj=>[(0,.row 96 57 (List.map Fact.c j.1))]) Zf ?_ (λenv H w=>?_)
   .refine G0 1 Z ?_;refine Lp [0] [1,6] (λi=>[(0,.osl 0 0 i.1.length 57),(5,I i.2.1),(7,I i.2.2)]) (λi=>[(0,.row 96 57 (List.map Fact.c i.1))]) Y Zf (Lr [0]) λi al d P=>?_;refine G0 5 Z ?_;refine vX (I ((Int.toNat (q.length:Int)-Int.toNat g:Nat):Int)) (Qij Z Z runUnderlying34 Z) ?_;refine Go 3 Z (Ja Z d (λQ d=>?_) (λQ d=>?_))
    .refine Gc 2 Z (Qz d ?_);obtain rfl:=Oj P d;exact Gx 1 Z (QW (Lr [0]))
    refine Gc 5 Z (DSs 10 Z (D 3 Z ?_));obtain⟨aa,E,d⟩:=YN d;refine DS.v (x:=(.ptr 0 (Int.toNat (g+i.2.2)*57))) (Jk (l:=i.1) (lo:=g) (hi:=(q.length:Int)) E runUnderlying34 sizeOf96) ?_;refine DS.v (x:=(.agg (Fact.c aa))) (Qu Z isAgg96 sizeOf96 Z (Qq (Qaz E)) Z Z) ?_;refine D 3 Z ?_;obtain⟨ab,F,d⟩:=YN d;refine DS.v (x:=(.ptr 0 (Int.toNat (g+IntKind.i64.wrap (i.2.2-1))*57))) (Jk (l:=i.1) (lo:=g) (hi:=(q.length:Int)) F runUnderlying34 sizeOf96) ?_;refine DS.v (x:=(.agg (Fact.c ab))) (Qu Z isAgg96 sizeOf96 Z (Qq (Qaz F)) Z Z) ?_;refine Eh Z (Cz [] d (k_az _ _ _) Z λam ah d=>Go 3 Z (Bd d λp m d=>?_));refine Ct p [0] [1,6,7] (λp=>[(0,.osl 0 0 p.1.length 57),(5,I p.2)]) (λp=>[(0,.row 96 57 (List.map Fact.c p.1))]) Zf ?_ (λenv H w=>?_)
    .refine G0 0 Z (Cn Z m (λR m=>?_) (λR m=>?_))
     .refine Gc 6 Z (Bd m λac G m=>?_);refine vX (.ptr 0 (Int.toNat (g+i.2.2)*57)) (Jk (l:=i.1) (lo:=g) (hi:=(q.length:Int)) G runUnderlying34 sizeOf96) ?_;refine vX (.agg (Fact.c ac)) (Qu Z isAgg96 sizeOf96 Z (Qq (Qaz G)) Z Z) ?_;refine Bd m λan J m=>?_;refine vX (.ptr 0 (Int.toNat i.2.1*57)) (QZ J Z runUnderlying34 sizeOf96) ?_;refine Bd m λao t m=>?_;refine vU (YP (e:=Fact.c) (k:=57) (f:=0) J t sizeOf96 Z Z) ?_;refine FE Z ?_;refine Et (Qw (s:=0) Z (congrArg (λn=>A.osl 0 0 n 57) (Q1 t))) ?_;refine Et (Qw (s:=50) Z (congrArg (λn=>A.osl 0 0 n 57) (Q1 t))) ?_;exact Go 7 Z (Cl m [0])
     exact Gc 1 Z (Cl m [0])
    exact Gx 2 Z (Ef w (Gc 5 Z (Qv d (Lr [0]))))
   refine Gx 1 Z (Ef w (Gc 4 Z (Bd a λL u a=>?_)));refine vX (.osl 0 (0+Int.toNat j.2) (j.1.length-Int.toNat j.2) 57) (Qfu (l:=j.1) u runUnderlying34 sizeOf96) ?_;refine vN (Qfy (e:=Fact.c) (l:=j.1) u underlying34 zeroValue96 Z (by simp[Qp,Go.Value.cells])) ?_;refine Qdu (H:=[.row 96 57 (List.map Fact.c L)]) Z ?_;refine Go 6 Z ?_;refine vX (.osl 0 0 L.length 57) (Qfv (l:=j.1) u runUnderlying34 sizeOf96) ?_;refine Go 6 Z (Q4 a ?_);obtain rfl:=Oj y a;exact Gx 1 Z (QR (Gx 1 Z (Rt h 4 [0])))
  exact Gc 8 Z (Qv a (Lr [0]))
 subst ae;exact Gx 1 Z (Ef w (Gc 7 Z (Rt h 4 [0])))
def F_eh(n:Nat)(b:List Fact)(a:Int):Option ((List Fact)×Ctl Int Unit):=
  (bif decide (a<(b.length:Int))then(idx b a).bind λc=>yl c (some ([],.cont (IntKind.i64.wrap (a+1))))else some ([],.done ()))
def F_o(n:Nat)(a:List Fact)(b:Int):Option ((List Fact)×Unit):=
  (F_fb n a).bind λc=>(F_di n c b).bind λd=>(QbC (λx y=>F_bw n x y) d).bind λe=>(F_ca n e).bind λf=>ap (QbI (F_eh n f) n 0) λg=>some ([],())
theorem k_o(n:Nat)(q:List Fact)(j:Int)(p:(List Fact)×Unit)(h:F_o n q j=some p):
    QmS prog 75 [.ptr 0 0,.ptr 1 0] [.cells 34 [.rsl 57 (List.map Fact.c q)],.cells 3 [I j]] (λx=>[.agg (Fact.c x)]) nxL p.1:=by
 obtain⟨xs,u⟩:=p;refine Qih func75 Z Z Z Z ?_;intro X hE hN;refine Gy0 1 Z (TCy.lf ?_);refine G0 2 Z (Cd [] h (k_fb _ _) Z λR F h=>FE Z (Go 1 Z (Cd [2,1] h (k_di _ _ _) Z λT G h=>FE Z (Go 2 Z ?_))));refine Gyx 2 Z (TCy.lf ?_);refine G0 2 Z (Bd h λE b h=>?_);refine Qs [2] (OpC.fn call80 Z Z Z) (Qj8 (enc:=Fact.c) QgP b (λx y c h=>k_bw n x y c h) isAgg96 sizeOf96 call81 Zf Z) ?_;rintro _ _ ⟨rfl,rfl⟩;refine FE Z ?_;refine Et (Qw (s:=9) Z (congrArg (λn=>A.osl 2 0 n 57) (Qa4 b))) ?_;refine Et (Qw (s:=10) Z (congrArg (λn=>A.osl 2 0 n 57) (Qa4 b))) ?_;refine Et (Qm1 (i:=0) Z (congrArg (λnz=>Blk.cells 34 [.osl 2 0 nz 57]) (Qa4 b))) ?_;refine Go 1 Z ?_;refine Gyx 2 Z (TCy.lf ?_);refine G0 2 Z ?_;refine Et (QM (i:=0) (m:=0) Z) ?_;refine Qdu (H:=[.cells 34 [.any],.cells 3 [I j],.row 96 57 (List.map Fact.c E)]) Z ?_;refine Cd [2] h (k_ca _ _) Z λV J h=>FE Z (Go 3 Z ?_);refine Gyx 1 Z ?_;obtain⟨L,r,t,w,z,rfl⟩:=ap_ok h;rw[Vi];refine QmK r (t++[]) [0,1] [0] Ze Ze Zf ?_ (λenv H M=>?_)
 .refine Gy0 1 Z ?_;refine Qpp [0,1,2] [0,13,14] (λd=>[(15,I d)]) Ze w Zf (Lr [0,1,2]) λd N O P a k=>?_;refine Gy0 1 Z (TCy.lf ?_);refine G0 3 Z ?_;refine Gyx 2 Z (TCy.lf ?_);refine G0 0 Z (Ja Z a (λl a=>?_) (λl a=>?_))
  .refine Gc 1 Z ?_;refine Gyx 1 Z ?_;obtain⟨rfl,rfl,rfl⟩:=Oy k a;exact Qo1 (Gyx 1 Z (cutYN (Lr [0,1])))
  refine Gc 1 Z ?_;refine Gyx 4 Z (TCy.lf ?_);refine G0 1 Z (Bd a λg f a=>?_);refine vX (.ptr 2 (Int.toNat d*57)) (QZ f Z runUnderlying34 sizeOf96) ?_;refine vX (.agg (Fact.c g)) (Qu Z isAgg96 sizeOf96 Z (Qq f) Z Z) ?_;refine Go 3 Z ?_;refine Gyx 5 Z ?_;obtain⟨Q,B,rfl⟩:=yl_ok a;refine Qpm (x:=g) (e:=λx=>.agg (Fact.c x)) hE hN Z Z Z Z ?_ ?_
  .refine Gyo 3 Z (TCy.lf ?_);refine G0 2 Z ?_;refine Gyx 2 Z (TCy.lf ?_);refine G0 4 Z ?_;exact Gyx 0 Z (Qo3 B (Lr [0,1,2]))
  .exact Gyo 7 Z (Qo2 (Gyx 1 Z (cutYR (⟨.inr Z,.inr ⟨_,Z⟩⟩))))
 cases z;exact⟨.inl Z,.inl Z⟩
def F_w(n:Nat)(a:Int)(e:Int)(b:Course)(c:List (Ua×Bool)):Option (List (Ua×Bool)):=
  ((F_i n b a).bind λf=>(bif f then(idx b.Mats a).bind λg=>some (g.Kind != 1)else some false):Option Bool).bind λh=>(bif h then(some (Yj c ({mat:=a,epoch:=e:Ua}) true)).bind λd=>some d else some c)
theorem k_w(n:Nat)(b:Int)(d:Int)(e:Course)(f:List (Ua×Bool))(r:List (Ua×Bool))(h:F_w n b d e f=some r):
    C prog 38 [I b,I d,.ptr 0 0,.ptr 1 0] [.cells 33 (Course.c e),.cells 116 [.map 2],.map (QV (λx=>A.agg (Ua.c x)) A.bool f)] (RQ (λ_=>.tup []) (λr=>[.cells 33 (Course.c e),.cells 116 [.map 2],.map (QV (λx=>A.agg (Ua.c x)) A.bool r)]) r):=by
 refine Qc func38 Z Z Z ?_;refine G0 1 Z (Bd h λg a h=>?_);refine Ct g [0,1,2] [0,1,3] (λg=>[(17,.bool g)]) Ze Zf ?_ (λenv H j=>?_)
 .refine G0 3 Z (Cz [] a (k_i _ _ _) Z λu s a=>Go 1 Z (Is 9 a Z (λm a=>?_) (λm a=>?_)))
  .exact Go 3 Z (Bd a λw p a=>Iz p Z (Go 5 Z (Cl a [0,1,2])))
  .exact Go 9 Z (Cl a [0,1,2])
 refine Gx 1 Z (Ef j (Cn Z h (λq h=>?_) (λq h=>?_)))
 .refine Gc 5 Z (Bd h λt i h=>?_);refine vU (YQ (ev:=A.bool) (k:=({mat:=b,epoch:=d:Ua})) (v:=true) (l:=f) QbW i Z underlying116) ?_;refine FE Z (Go 1 Z ?_);obtain rfl:=Oi h;exact Rx [0,1,2] [] Z (Qcd.nil Z) ⟨Z,Z⟩
 refine Gc 1 Z ?_;obtain rfl:=Oi h;exact Rx [0,1,2] [] Z (Qcd.nil Z) ⟨Z,Z⟩
def F_eg(n:Nat)(a:Ua)(b:Ua):Option Int:=
  (F_k n a.mat b.mat).bind λc=>(F_k n a.epoch b.epoch).bind λd=>(F_ar n [c,d]).bind λe=>some e
theorem k_eg(n:Nat)(a:Ua)(b:Ua)(r:Int)(h:F_eg n a b=some r):
    Csm prog 86 [.agg (Ua.c a),.agg (Ua.c b)] [] (λr=>I r) r:=by
 refine Qc func86 Z Z Z ?_;refine G0 8 Z (DSs 9 Z (D 4 Z ?_));refine Dz [] h (k_k _ _ _) Z λd f h=>D 4 Z (Eh Z (Cz [] h (k_k _ _ _) Z λe g h=>?_));refine vH (YR (xs:=[.tmp 9,.tmp 14]) (es:=List.map (Qe .i64) [d,e]) QS Z Z Z Z Z ⟨Z,Z,trivial⟩ Z Z) ?_;exact FE Z (Cz [] h (k_ar _ _) Z λj i h=>Go 4 Z (Rt h 4 []))
def F_af(n:Nat)(a:Segment)(b:Segment):Option Int:=
  (F_eg n ({mat:=a.Mat,epoch:=a.Epoch:Ua}) ({mat:=b.Mat,epoch:=b.Epoch:Ua})).bind λc=>some c
theorem k_af(n:Nat)(a:Segment)(b:Segment)(r:Int)(h:F_af n a b=some r):
    Csm prog 42 [.agg (Segment.c a),.agg (Segment.c b)] [] (λr=>I r) r:=by
 refine Qc func42 Z Z Z ?_;exact G0 19 Z (Cz [] h (k_eg _ _ _) Z λe d h=>Go 4 Z (Rt h 4 []))
def F_ia(n:Nat)(c:Course)(d:List (Ua×Bool))(a:Fact):Option (Ctl (List (Ua×Bool)) ((List Segment)×Int)):=
  (F_w n a.Read.Mat a.Read.Epoch c d).bind λb=>some (.cont b)
def F_ib(n:Nat)(b:Course)(c:List (Ua×Bool))(a:Fact):Option (Ctl (List (Ua×Bool)) ((List Segment)×Int)):=
  (F_w n a.Sync.MatA a.Sync.EpochA b c).bind λd=>(F_w n a.Sync.MatB a.Sync.EpochB b d).bind λe=>some (.cont e)
def F_ic(n:Nat)(f:Course)(b:(List (Ua×Bool))×(List (Ua×Int)))(a:Fact):Option (Ctl ((List (Ua×Bool))×(List (Ua×Int))) ((List Segment)×Int)):=
  (F_w n a.Beacon.Mat a.Beacon.Epoch f b.1).bind λc=>(some (QP b.2 ({mat:=a.Beacon.Mat,epoch:=a.Beacon.Epoch:Ua}) 0)).bind λg=>((bif (!(Qb7 b.2 ({mat:=a.Beacon.Mat,epoch:=a.Beacon.Epoch:Ua})))then(some (Yj b.2 ({mat:=a.Beacon.Mat,epoch:=a.Beacon.Epoch:Ua}) a.Beacon.Local)).bind λd=>some d else some b.2):Option (List (Ua×Int))).bind λe=>some (.cont (c,e))
def F_gi(n:Nat)(d:(List (Ua×Bool))×(List (Ua×Int)))(e:List Segment)(a:Ua×Bool):Option (Ctl (List Segment) (List Segment)):=
  (some (QP d.2 a.1 0)).bind λb=>(app e [{Mat:=a.1.mat,Epoch:=a.1.epoch,Anchor:=b:Segment}]).bind λc=>some (.cont c)
def F_hi(n:Nat)(a:List Segment):Option (List Segment):=
  some a
def F_z(n:Nat)(e:Course)(b:List Fact):Option ((List Segment)×Int):=
  (F_j n e).bind λg=>(bif (g != 0)then some ([],g)else(F_p n b 2).bind λp=>(F_o n b 2).bind λy4=>(runL (F_ia n e) y4.1 []:Option (Ctl (List (Ua×Bool)) ((List Segment)×Int))).bind λh=>match h with|.cont c=>((F_p n b 4).bind λl=>(F_o n b 4).bind λy19=>(runL (F_ib n e) y19.1 c:Option (Ctl (List (Ua×Bool)) ((List Segment)×Int))).bind λi=>match i with|.cont d=>((F_p n b 3).bind λm=>(F_o n b 3).bind λy37=>(runL (F_ic n e) y37.1 (d,[]):Option (Ctl ((List (Ua×Bool))×(List (Ua×Int))) ((List Segment)×Int))).bind λj=>match j with|.cont a=>(bif decide (511<(a.1.length:Int))then some ([],2)else anyP (λp115=>(Qd6 (F_gi n a) (F_hi n) [] p115).bind λk=>(QbC (λx y=>F_af n x y) k).bind λf=>some (f,0)) a.1)|.done a=>some a)|.done d=>some d)|.done c=>some c)
theorem k_z(n:Nat)(E:Course)(a2:List Fact)(r:(List Segment)×Int)(h:F_z n E a2=some r):
    C prog 13 [.agg (Course.c E),.rsl 57 (List.map Fact.c a2)] [] (RQ (λr=>.tup [.osl 0 0 r.1.length 3,I r.2]) (λr=>[.row 36 3 (List.map Segment.c r.1)]) r):=by
 refine Qc func13 Z Z Z ?_;refine G0 11 Z (Cz [] h (k_j _ _) Z λr1 ba h=>Go 9 Z (Cn Z h (λae h=>?_) (λae h=>?_)))
 .refine Gc 9 Z ?_;obtain rfl:=Oi h;refine R2 4 5 Z Z ?_;refine En (Er (s:=4) (k:=3) (t:=36) (XR Z) Z) ?_;exact Lr [1]
 refine Gc 4 Z ?_;refine vH Yt ?_;refine FE Z (Go 15 Z (Cd [] h (k_p _ _ _) Z λr3 bb h=>FE Z (Go 3 Z (Bd h λy4 hy4 h=>Bd h λbc af h=>?_))));refine Qbe [4,5] (λs5=>[.cells 33 (Course.c E),.map (QV (λx=>A.agg (Ua.c x)) A.bool s5),.cells 116 [.map 1],.cells 122 [.fn (.func 38) [] [.ptr 0 0,.ptr 2 0]],.dead,.dead]) af (k_o _ _ _ _ hy4) Zf call75 Z Z Z Z (by decide) Z (Qhi Z) ?_ ?_
 .intro s5 x6 bd F ak;refine G0 4 Z (And.intro Z ?_);exact G0 9 Z (Cd [0,2,1] F (k_w _ _ _ _ _) Z λbe al F=>FE Z (Go 2 Z (QcA F (Lr [0,1,2,3,4,5]))))
 rintro bg rfl;refine Gx 6 Z (Cd [] h (k_p _ _ _) Z λbh am h=>FE Z (Go 3 Z (Bd h λy19 hy19 h=>Bd h λbi ag h=>?_)));refine Qbe [6,7] (λR=>[.cells 33 (Course.c E),.map (QV (λx=>A.agg (Ua.c x)) A.bool R),.cells 116 [.map 1],.cells 122 [.fn (.func 38) [] [.ptr 0 0,.ptr 2 0]],.dead,.dead,.dead,.dead]) ag (k_o _ _ _ _ hy19) Zf call75 Z Z Z Z (by decide) Z (Qhi Z) ?_ ?_
 .intro R bj bk u an;refine G0 4 Z (And.intro Z ?_);exact G0 10 Z (Cd [0,2,1] u (k_w _ _ _ _ _) Z λbl ao u=>FE Z (Go 10 Z (Cd [0,2,1] u (k_w _ _ _ _ _) Z λbm aq u=>FE Z (Go 2 Z (QcA u (Lr [0,1,2,3,4,5,6,7]))))))
 rintro bn rfl;refine Gx 4 Z ?_;refine vH Yt ?_;refine FE Z (Go 8 Z (Cd [] h (k_p _ _ _) Z λbo ar h=>FE Z (Go 3 Z (Bd h λy37 hy37 h=>Bd h λbq ah h=>?_))));refine Qbe [10,11] (λj=>[.cells 33 (Course.c E),.map (QV (λx=>A.agg (Ua.c x)) A.bool j.1),.cells 116 [.map 1],.cells 122 [.fn (.func 38) [] [.ptr 0 0,.ptr 2 0]],.dead,.dead,.dead,.dead,.map (QV (λx=>A.agg (Ua.c x)) (λx=>A.int .i64 x) j.2),.cells 126 [.map 8],.dead,.dead]) ah (k_o _ _ _ _ hy37) Zf call75 Z Z Z Z (by decide) Z (Qhi Z) ?_ ?_
 .intro j b br d au;refine G0 4 Z (And.intro Z ?_);refine G0 10 Z (Cd [0,2,1] d (k_w _ _ _ _ _) Z λbs av d=>FE Z (Go 19 Z (Bd d λai T d=>?_)));refine vX (.tup [I ai,.bool (Qb7 j.2 ({mat:=b.Beacon.Mat,epoch:=b.Beacon.Epoch:Ua}))]) (Qjd (ev:=(λx=>A.int .i64 x)) (z0:=0) (k:=({mat:=b.Beacon.Mat,epoch:=b.Beacon.Epoch:Ua})) (l:=j.2) QbW T underlying126 zeroValue3 Eo) ?_;refine Go 13 Z (Bd d λG f d=>?_);refine Ct G [0,1,2,3,4,5,6,7,8,9,10,11] [] Ze (λG=>[(8,.map (QV (λx=>A.agg (Ua.c x)) (λx=>A.int .i64 x) G))]) Zf ?_ (λenv H J=>?_)
  .refine G0 0 Z (Cn Z f (λV f=>?_) (λV f=>?_))
   .refine Gc 6 Z (Bd f λbt W f=>?_);refine vU (YQ (ev:=(λx=>A.int .i64 x)) (k:=({mat:=b.Beacon.Mat,epoch:=b.Beacon.Epoch:Ua})) (v:=b.Beacon.Local) (l:=j.2) QbW W Z underlying126) ?_;exact FE Z (Go 1 Z (Cl f [0,1,2,3,4,5,6,7,8,9,10,11]))
   exact Gc 1 Z (Cl f [0,1,2,3,4,5,6,7,8,9,10,11])
  exact Gx 1 Z (QcA d (En J (Lr [0,1,2,3,4,5,6,7,8,9,10,11])))
 rintro m rfl;refine Gx 6 Z ?_;refine vX (I (m.1.length:Int)) (Qcs (l:=m.1) underlying116 Z) ?_;refine Go 3 Z (Cn Z h (λX h=>?_) (λX h=>?_))
 .refine Gc 8 Z ?_;obtain rfl:=Oi h;refine R2 4 5 Z Z ?_;refine En (Er (s:=4) (k:=3) (t:=36) (XR Z) Z) ?_;exact Lr [12]
 refine Gc 6 Z ?_;refine vH (OpH.range underlying116) ?_;refine FE Z (Go 2 Z ?_);have aj:=QnS h;have L:Qiq _ _ _ _ _:=λp hp=>YN (aj p hp);refine QnW L (λB=>[(4,.osl 0 0 B.length 3)]) (λB=>[.row 36 3 (List.map Segment.c B)]) ?_ (λB env H M J=>?_)
 .refine G0 1 Z ?_;refine QmM (enc:=(λp=>((λx=>A.agg (Ua.c x)) p.1,A.bool p.2))) (λw=>[(4,.osl 0 0 w.length 3),(10,.ptr 1 0),(89,.ptr 3 0)]) (λw N=>[.row 36 3 (List.map Segment.c w),.cells 126 [.map 2],.map (QV (λx=>A.agg (Ua.c x)) (λx=>A.int .i64 x) m.2),.iter none N]) L ?_ ?_
  .refine En (Er (s:=4) (k:=3) (t:=36) (XR Z) Z) ?_;exact Lr [13,9,8,12]
  intro w N Y;refine G0 2 Z ?_;refine QmJ (enc:=(λp=>((λx=>A.agg (Ua.c x)) p.1,A.bool p.2))) Y (λaw aa ab=>?_) (λa O ax g ay ac=>?_)
  .refine Go 7 Z (QoZ ?_);cases aa;exact Gx 1 Z (cutGN ab (Lr [0]))
  refine aV (.tup [.bool true,.agg (Ua.c a.1),.bool a.2]) [.row 36 3 (List.map Segment.c w),.cells 126 [.map 2],.map (QV (λx=>A.agg (Ua.c x)) (λx=>A.int .i64 x) m.2),.iter (some (.agg (Ua.c a.1),.bool a.2)) (List.map (λp=>((λx=>A.agg (Ua.c x)) p.1,A.bool p.2)) O)] Z Z ?_;refine Go 10 Z ?_;refine vX (.tup [.agg (Ua.c a.1),.bool a.2]) (OpV.entry (e:=(.agg (Ua.c a.1),.bool a.2))) ?_;refine Go 5 Z (DSs 10 Z (D 7 Z ?_));obtain⟨z,P,g⟩:=YN g;refine DS.v (x:=(I z)) (YO (ev:=(λx=>A.int .i64 x)) (z0:=0) (k:=a.1) (l:=m.2) QbW P underlying126 zeroValue3 Eo) ?_;refine D 1 Z ?_;refine DS.wo (x:=.rsl 3 (List.map Segment.c [{Mat:=a.1.mat,Epoch:=a.1.epoch,Anchor:=z:Segment}])) ?_ ?_
  .refine vH (YR (xs:=[.tmp 102]) (es:=List.map Segment.c [{Mat:=a.1.mat,Epoch:=a.1.epoch,Anchor:=z:Segment}]) Qoj Z Z Z Z Z ⟨Z,trivial⟩ Z Z) ?_;exact FE Z Wp
  refine Eh Z (Bd g λad Q g=>?_);refine vH (Yp (e:=Segment.c) Q Qoj runUnderlying39 Qcr) ?_;refine FE Z (Go 3 Z (Qo0 _ _ g ac ?_));refine En (Qk4 (i:=3) (H':=[.dead,.cells 126 [.map 2],.map (QV (λx=>A.agg (Ua.c x)) (λx=>A.int .i64 x) m.2),.iter none (List.map (λp=>((λx=>A.agg (Ua.c x)) p.1,A.bool p.2)) O),.cells 121 (Ua.c a.1),.row 36 3 (List.map Segment.c ad)]) Z Z) ?_;exact Lr [5,1,2,3]
 refine Gx 1 Z (Ef J (Gc 3 Z (Bd M λaz q M=>?_)));refine Qs [0] (OpC.fn call41 Z Z Z) (Qj8 (enc:=Segment.c) QgQ q (λx y c h=>k_af n x y c h) isAgg36 sizeOf36 call42 Zf Z) ?_;rintro _ _ ⟨rfl,rfl⟩;refine FE Z ?_;refine Et (Qw (s:=4) Z (congrArg (λn=>A.osl 0 0 n 3) (Qa4 q))) ?_;refine Et (Qw (s:=105) Z (congrArg (λn=>A.osl 0 0 n 3) (Qa4 q))) ?_;refine Go 10 Z ?_;obtain rfl:=Oi M;exact R2 4 5 Z Z (Lr [0])
def F_ae(n:Nat)(a:Int)(b:Int)(c:Int)(d:Int)(e:List Edge):Option (List Edge):=
  (app e [{From:=a,To:=b,W:=d:Edge},{From:=b,To:=a,W:=IntKind.i64.wrap (0-c):Edge}]).bind λf=>some f
theorem k_ae(n:Nat)(a:Int)(b:Int)(d:Int)(f:Int)(g:List Edge)(r:List Edge)(h:F_ae n a b d f g=some r):
    C prog 51 [I a,I b,I d,I f,.ptr 0 0] [.cells 49 [.osl 1 0 g.length 3],.row 70 3 (List.map Edge.c g)] (RQ (λ_=>.tup []) (λr=>[.cells 49 [.osl 2 0 r.length 3],.dead,.row 70 3 (List.map Edge.c r)]) r):=by
 refine Qc func51 Z Z Z ?_;refine G0 11 Z ?_;refine vH (El (xs:=[.tmp 13,.tmp 18]) (es:=List.map Edge.c [{From:=a,To:=b,W:=f:Edge},{From:=b,To:=a,W:=IntKind.i64.wrap (0-d):Edge}]) Qoi Z Z Z Z Z ⟨Z,Z,trivial⟩ Z Z) ?_;refine FE Z (Bd h λk j h=>?_);refine vH (Yp (e:=Edge.c) j Qoi runUnderlying49 (Qa2 (i:=2))) ?_;refine FE Z (Go 2 Z ?_);obtain rfl:=Oi h;exact Rx [0,1,3] [] Z (Qcd.nil Z) ⟨Z,Z⟩
def F_ag(n:Nat)(c:Int)(d:Int)(a:Int)(f:List Segment)(g:Course)(h:List (Ua×Int)):Option (Int×Span):=
  (some (QP h ({mat:=c,epoch:=d:Ua}) 0)).bind λb=>((bif decide (0<b)then(idx f (IntKind.i64.wrap (b-1))).bind λi=>some i else some ({Mat:=c,Epoch:=d,Anchor:=0:Segment})):Option Segment).bind λj=>(F_aa n g j a).bind λe=>some (b,{Lo:=IntKind.i64.wrap (a+e.Lo),Hi:=IntKind.i64.wrap (a+e.Hi):Span})
theorem k_ag(n:Nat)(f:Int)(g:Int)(a:Int)(i:List Segment)(j:Course)(e:List (Ua×Int))(r:Int×Span)(h:F_ag n f g a i j e=some r):
    C prog 52 [I f,I g,I a,.ptr 0 0,.ptr 1 0,.ptr 2 0] [.cells 126 [.map 3],.cells 39 [.rsl 3 (List.map Segment.c i)],.cells 33 (Course.c j),.map (QV (λx=>A.agg (Ua.c x)) (λx=>A.int .i64 x) e)] (RQ (λr=>.tup [I r.1,.agg [I r.2.Lo,I r.2.Hi]]) (λr=>[.cells 126 [.map 3],.cells 39 [.rsl 3 (List.map Segment.c i)],.cells 33 (Course.c j),.map (QV (λx=>A.agg (Ua.c x)) (λx=>A.int .i64 x) e),.cells 44 [I r.2.Lo,I r.2.Hi]]) r):=by
 refine Qc func52 Z Z Z ?_;refine G0 12 Z (Bd h λm q h=>?_);refine vX (I m) (YO (ev:=(λx=>A.int .i64 x)) (z0:=0) (k:=({mat:=f,epoch:=g:Ua})) (l:=e) QbW q underlying126 zeroValue3 Eo) ?_;refine Go 19 Z (Bd h λp b h=>?_);refine Ct p [0,1,2,3,4,5] [2,5,9,10,11] Ze (λp=>[(5,.cells 36 (Segment.c p))]) Zf ?_ (λenv H s=>?_)
 .refine G0 0 Z (Cn Z b (λt b=>?_) (λt b=>?_))
  .exact Gc 4 Z (Bd b λy u b=>Iz u Z (Go 3 Z (Cl b [0,1,2,3,4,5])))
  exact Gc 1 Z (Cl b [0,1,2,3,4,5])
 refine Gx 1 Z (Ef s (Gc 5 Z (Cd [] h (k_aa _ _ _ _) Z λd w h=>FE Z (Go 5 Z ?_))));refine TC.draw0 11 [32,33,34,35,36,37,38,39,40,41,9] [I m,I a,.ptr 7 0,I d.Lo,I (IntKind.i64.wrap (a+d.Lo)),I a,.ptr 7 1,I d.Hi,I (IntKind.i64.wrap (a+d.Hi)),.agg [I (IntKind.i64.wrap (a+d.Lo)),I (IntKind.i64.wrap (a+d.Hi))],I m] draws Z Z Z ?_ ?_
 .refine Oq.c ?_ (ov (ov (ov (Oq.c ?_ (ov (ov (ov (Oq.c ?_ (ov (ov (Oq.n)))))))))))
  .refine Om Z (sP 10 sN) ?_;exact S Z Wp
  .refine Om Z (sD 1 (sD 3 sN)) ?_;exact S Z Wp
  .refine Om Z (sD 5 (sD 7 sN)) ?_;exact S Z Wp
 refine Go 4 Z ?_;obtain rfl:=Oi h;exact Rx [0,1,2,3,4] [9,10] Z (Qm Z Z (Qjb.cons Qd0.tmp (Qjb.cons (Qj isAgg44 sizeOf44 Z Z Z) Qjb.nil))) ⟨Z,Z⟩
def F_gy(n:Nat)(c:(List Segment)×Int)(a:(List (Ua×Int))×(List Edge)×Int):Option (Ctl ((List (Ua×Int))×(List Edge)×Int) ((List (Ua×Int))×(List Edge))):=
  (bif decide (a.2.2<(c.1.length:Int))then(idx c.1 a.2.2).bind λb=>(some (Yj a.1 ({mat:=b.Mat,epoch:=b.Epoch:Ua}) (IntKind.i64.wrap (a.2.2+1)))).bind λd=>(F_ae n 0 (IntKind.i64.wrap (a.2.2+1)) (-1099511627776) 1099511627776 a.2.1).bind λe=>some (.cont (d,e,IntKind.i64.wrap (a.2.2+1)))else some (.done (a.1,a.2.1)))
def F_hn(n:Nat)(d:Course)(i:(List Segment)×Int)(e:(List (Ua×Int))×(List Edge))(c:List Edge)(a:Fact):Option (Ctl (List Edge) (Int×(List Edge)×Int)):=
  (F_i n d a.Beacon.Mat).bind λf=>((bif f then(F_ag n a.Beacon.Mat a.Beacon.Epoch a.Beacon.Local i.1 d e.1).bind λb=>(F_ae n 0 b.1 (IntKind.i64.wrap ((IntKind.i64.wrap (a.Beacon.True-a.Beacon.Err))-b.2.Hi)) (IntKind.i64.wrap ((IntKind.i64.wrap (a.Beacon.True+a.Beacon.Err))-b.2.Lo)) c).bind λg=>some g else some c):Option (List Edge)).bind λh=>some (.cont h)
def F_hu(n:Nat)(d:Course)(l:(List Segment)×Int)(e:(List (Ua×Int))×(List Edge))(f:List Edge)(a:Fact):Option (Ctl (List Edge) (Int×(List Edge)×Int)):=
  ((F_i n d a.Sync.MatA).bind λg=>(bif g then(F_i n d a.Sync.MatB).bind λh=>some h else some false):Option Bool).bind λi=>((bif i then(F_ag n a.Sync.MatA a.Sync.EpochA a.Sync.LocalA l.1 d e.1).bind λb=>(F_ag n a.Sync.MatB a.Sync.EpochB a.Sync.LocalB l.1 d e.1).bind λc=>(F_ae n b.1 c.1 (IntKind.i64.wrap ((IntKind.i64.wrap (a.Sync.Min-c.2.Hi))+b.2.Lo)) (IntKind.i64.wrap ((IntKind.i64.wrap (a.Sync.Max-c.2.Lo))+b.2.Hi)) f).bind λj=>some j else some f):Option (List Edge)).bind λk=>some (.cont k)
def F_y(n:Nat)(f:Course)(c:List Fact):Option (Int×(List Edge)×Int):=
  (F_z n f c).bind λb=>(bif (b.2 != 0)then some (0,[],b.2)else(iter (F_gy n b) n ([],[],0):Option ((List (Ua×Int))×(List Edge))).bind λd=>(F_p n c 3).bind λi=>(F_o n c 3).bind λy29=>(runL (F_hn n f b d) y29.1 d.2:Option (Ctl (List Edge) (Int×(List Edge)×Int))).bind λh=>match h with|.cont e=>((F_p n c 4).bind λj=>(F_o n c 4).bind λy68=>(runL (F_hu n f b d) y68.1 e:Option (Ctl (List Edge) (Int×(List Edge)×Int))).bind λg=>match g with|.cont a=>(bif decide (8192<(a.length:Int))then some (0,[],2)else some (IntKind.i64.wrap ((b.1.length:Int)+1),a,0))|.done a=>some a)|.done e=>some e)
theorem k_y(n:Nat)(E:Course)(M:List Fact)(r:Int×(List Edge)×Int)(h:F_y n E M=some r):
    C prog 18 [.agg (Course.c E),.rsl 57 (List.map Fact.c M)] [] (RQ (λr=>.tup [.agg [I r.1,.rsl 3 (List.map Edge.c r.2.1)],I r.2.2]) (λr=>[.cells 51 [I r.1,.rsl 3 (List.map Edge.c r.2.1)]]) r):=by
 refine Qc func18 Z Z Z ?_;refine G0 11 Z (Cd [] h (k_z _ _ _) Z λs ay h=>FE Z (Go 15 Z (Cn Z h (λX h=>?_) (λX h=>?_))))
 .refine Gc 10 Z ?_;obtain rfl:=Oi h;exact Rx [1] [4,5] Z (Qm Z Z (Qjb.cons (Qj isAgg51 sizeOf51 Z Z Z) (Qjb.cons Qd0.tmp Qjb.nil))) ⟨Z,Z⟩
 refine Gc 4 Z ?_;refine vH Yt ?_;refine FE Z (Go 24 Z (Bd h λe Y h=>?_));refine Ct e [0,1,2,3,4,5,6,7,0] [1,2,4,8] (λ_=>[(6,.ptr 2 0),(7,.ptr 4 0),(9,.ptr 8 0)]) (λe=>[(2,.cells 39 [.osl 3 0 s.1.length 3]),(3,.row 36 3 (List.map Segment.c s.1)),(4,.cells 126 [.map 5]),(5,.map (QV (λx=>A.agg (Ua.c x)) (λx=>A.int .i64 x) e.1)),(6,.cells 49 [.osl 7 0 e.2.length 3]),(7,.row 70 3 (List.map Edge.c e.2)),(8,.cells 134 [.fn (.func 51) [] [.ptr 6 0]])]) Zf ?_ (λenv H p=>?_)
 .refine G0 1 Z ?_;refine Lp [0,1,3,2,5,4,6,0,7] [1,2,4,6,7,8,9,35,36] (λf=>[(37,I f.2.2)]) (λf=>[(2,.cells 39 [.osl 3 0 s.1.length 3]),(4,.cells 126 [.map 5]),(5,.map (QV (λx=>A.agg (Ua.c x)) (λx=>A.int .i64 x) f.1)),(6,.cells 49 [.osl 7 0 f.2.1.length 3]),(7,.row 70 3 (List.map Edge.c f.2.1))]) Y Zf ?_ ?_
  .refine En (Qd3 (i:=6) (m:=0) (t:=70) (k:=3) Z Z Z) ?_;exact Lr [0,1,3,2,5,4,6,8,7]
  intro f az d Q;refine G0 6 Z (Ja Z d (λR d=>?_) (λR d=>?_))
  .refine Gc 2 Z (Qz d ?_);obtain rfl:=Oj Q d;exact Gx 1 Z (QW (Lr [0,1,2,3,4,5,6,7,8]))
  refine Gc 7 Z (Bd d λF G d=>?_);refine vX (.ptr 3 (Int.toNat f.2.2*3)) (QZ G Z runUnderlying39 sizeOf36) ?_;refine vX (.agg (Segment.c F)) (Qu Z isAgg36 sizeOf36 Z (Qq G) Z Z) ?_;refine Go 15 Z (Bd d λba T d=>?_);refine vU (YQ (ev:=(λx=>A.int .i64 x)) (k:=({mat:=F.Mat,epoch:=F.Epoch:Ua})) (v:=(IntKind.i64.wrap (f.2.2+1))) (l:=f.1) QbW T Z underlying126) ?_;exact FE Z (Go 6 Z (Cd [6,7] d (k_ae _ _ _ _ _ _) Z λbb ah d=>FE Z (Go 7 Z (Qv d (Lr [0,1,2,3,4,5,6,10,8])))))
 refine Gx 1 Z (Ef p (Gc 11 Z (Cd [] h (k_p _ _ _) Z λbc ai h=>FE Z (Go 3 Z ?_))));refine Ef (QfB (i:=3) [] Z Z Qm2.nil (Ec (Ec (FzH.cells (Ed Ep (Ek _)) (Ec (QbP _)))))) ?_;refine Ef (Lr (env':=[(1,.rsl 57 (List.map Fact.c M)),(2,.ptr 0 0),(4,.ptr 1 0),(6,.ptr 2 0),(8,.ptr 6 0),(9,.ptr 8 0),(12,.ptr 9 0),(57,.fn (.func 75) [] [.ptr 10 0,.ptr 11 0])]) (H':=[.cells 33 (Course.c E),.cells 51 [I 0,.rsl 3 (List.map Edge.c [])],.cells 39 [.rsl 3 (List.map Segment.c s.1)],.dead,.cells 126 [.map 5],.map (QV (λx=>A.agg (Ua.c x)) (λx=>A.int .i64 x) e.1),.cells 49 [.osl 7 0 e.2.length 3],.row 70 3 (List.map Edge.c e.2),.cells 134 [.fn (.func 51) [] [.ptr 6 0]],.cells 135 [.fn (.func 52) [] [.ptr 4 0,.ptr 2 0,.ptr 0 0]],.cells 34 [.rsl 57 (List.map Fact.c M)],.cells 3 [I 3]]) [0,1,2,3,4,5,6,7,8,9,10,11]) ?_;refine Bd h λy29 hy29 h=>Bd h λbd aa h=>?_;refine Qbe [10,11] (λJ=>[.cells 33 (Course.c E),.cells 51 [I 0,.rsl 3 (List.map Edge.c [])],.cells 39 [.rsl 3 (List.map Segment.c s.1)],.dead,.cells 126 [.map 5],.map (QV (λx=>A.agg (Ua.c x)) (λx=>A.int .i64 x) e.1),.cells 49 [.osl 12 0 J.length 3],.dead,.cells 134 [.fn (.func 51) [] [.ptr 6 0]],.cells 135 [.fn (.func 52) [] [.ptr 4 0,.ptr 2 0,.ptr 0 0]],.dead,.dead,.row 70 3 (List.map Edge.c J)]) aa (k_o _ _ _ _ hy29) Zf call75 Z Z Z Z (by decide) Z ?_ ?_ ?_
 .refine En (Qgu (i:=7) (j:=6) (m:=0) Z Z Z Z Z) ?_;exact Lr [0,1,2,3,4,5,6,7,8,9,10,11,12]
 .intro J be bg w aj;refine G0 4 Z (And.intro Z ?_);refine G0 14 Z (Cz [] w (k_i _ _ _) Z λbh ak w=>Go 2 Z (Bd w λB g w=>?_));refine Ct B [0,1,2,3,4,5,6,7,8,9,10,11,0] [] Ze (λB=>[(6,.cells 49 [.osl 12 0 B.length 3]),(12,.row 70 3 (List.map Edge.c B))]) Zf ?_ (λenv H p=>?_)
  .refine G0 0 Z (Cn Z g (λV g=>?_) (λV g=>?_))
   .exact Gc 9 Z (Cd [4,2,0,5] g (k_ag _ _ _ _ _ _ _) Z λbi al g=>FE Z (Go 27 Z (Cd [6,12] g (k_ae _ _ _ _ _ _) Z λbj am g=>FE Z (Go 1 Z (Cl g [0,1,2,3,4,5,6,7,8,9,10,11,17])))))
   exact Gc 1 Z (Cl g [0,1,2,3,4,5,6,7,8,9,10,11,12])
  exact Gx 1 Z (QcA w (En p (Lr [0,1,2,3,4,5,6,7,8,9,10,11,12])))
 rintro bk rfl;refine Gx 6 Z (Cd [] h (k_p _ _ _) Z λbl an h=>FE Z (Go 3 Z (Bd h λy68 hy68 h=>Bd h λao W h=>?_)));refine Qbe [13,14] (λL=>[.cells 33 (Course.c E),.cells 51 [I 0,.rsl 3 (List.map Edge.c [])],.cells 39 [.rsl 3 (List.map Segment.c s.1)],.dead,.cells 126 [.map 5],.map (QV (λx=>A.agg (Ua.c x)) (λx=>A.int .i64 x) e.1),.cells 49 [.osl 15 0 L.length 3],.dead,.cells 134 [.fn (.func 51) [] [.ptr 6 0]],.cells 135 [.fn (.func 52) [] [.ptr 4 0,.ptr 2 0,.ptr 0 0]],.dead,.dead,.dead,.dead,.dead,.row 70 3 (List.map Edge.c L)]) W (k_o _ _ _ _ hy68) Zf call75 Z Z Z Z (by decide) Z ?_ ?_ ?_
 .refine En (Qgu (i:=12) (j:=6) (m:=0) Z Z Z Z Z) ?_;exact Lr [0,1,2,3,4,5,6,7,8,9,10,11,12,13,14,15]
 .intro L bm aq q ab;refine G0 4 Z (And.intro Z ?_);refine G0 10 Z (Bd q λy b q=>?_);refine Ct y [0,1,2,3,4,5,6,7,8,9,10,11,12,13,14,15,17] [9,12,18] (λy=>[(109,.bool y)]) Ze Zf ?_ (λenv H p=>?_)
  .refine G0 4 Z (Cz [] b (k_i _ _ _) Z λar ac b=>Go 1 Z (Is 104 b Z (λN b=>?_) (λN b=>?_)))
   .exact Go 3 Z (Cz [] b (k_i _ _ _) Z λau ad b=>Go 2 Z (Cl b [0,1,2,3,4,5,6,7,8,9,10,11,12,13,14,15,17]))
   .exact Go 6 Z (Cl b [0,1,2,3,4,5,6,7,8,9,10,11,12,13,14,15,17])
  refine Gx 1 Z (Ef p (Bd q λu a q=>?_));refine Ct u [0,1,2,3,4,5,6,7,8,9,10,11,12,13,14,0] [] Ze (λu=>[(6,.cells 49 [.osl 15 0 u.length 3]),(15,.row 70 3 (List.map Edge.c u))]) Zf ?_ (λenv H p=>?_)
  .refine G0 0 Z (Cn Z a (λO a=>?_) (λO a=>?_))
   .exact Gc 9 Z (Cd [4,2,0,5] a (k_ag _ _ _ _ _ _ _) Z λav ae a=>FE Z (Go 17 Z (Cd [4,2,0,5] a (k_ag _ _ _ _ _ _ _) Z λaw af a=>FE Z (Go 28 Z (Cd [6,15] a (k_ae _ _ _ _ _ _) Z λax ag a=>FE Z (Go 1 Z (Cl a [0,1,2,3,4,5,6,7,8,9,10,11,12,13,14,21])))))))
   exact Gc 1 Z (Cl a [0,1,2,3,4,5,6,7,8,9,10,11,12,13,14,15])
  exact Gx 1 Z (QcA q (En p (Lr [0,1,2,3,4,5,6,7,8,9,10,11,12,13,14,15])))
 rintro z rfl;refine Gx 10 Z (Cn Z h (λP h=>?_) (λP h=>?_))
 .refine Gc 9 Z ?_;obtain rfl:=Oi h;exact Rx [1] [4,5] Z (Qm Z Z (Qjb.cons (Qj isAgg51 sizeOf51 Z Z Z) (Qjb.cons Qd0.tmp Qjb.nil))) ⟨Z,Z⟩
 refine Gc 5 Z (Lm Z (Go 8 Z ?_));obtain rfl:=Oi h;refine⟨[(4,.ptr 0 0),(5,I ((IntKind.i64.wrap ((s.1.length:Int)+1),z,0).2.2))],[.cells 51 [I ((IntKind.i64.wrap ((s.1.length:Int)+1),z,0).1),.rsl 3 (List.map Edge.c ((IntKind.i64.wrap ((s.1.length:Int)+1),z,0).2.1))]],_,?_,Qm Z Z (Qjb.cons (Qj isAgg51 sizeOf51 Z Z Z) (Qjb.cons Qd0.tmp Qjb.nil)),Z,Z⟩;refine En (QfB (i:=15) [] Z Z Qm2.nil (Ec (FzH.cells (Ed (Ee _) (Ed Ep (Ek _))) (Ec (Ec (Ec (Ec (FzH.cells (Ed Ep (Ek _)) (Ec (Ec (Ec (Ec (Ec (Ec (Ec (Ec (Ec (QbP _)))))))))))))))))) ?_;exact Lr [1]
def F_hb(n:Nat)(c:System)(b:Int):Option (Ctl Int (Ctl Unit Int)):=
  (bif decide (b<(c.Edges.length:Int))then(idx c.Edges b).bind λa=>((bif decide ((if a.To<a.From then a.To else a.From)<0)then some true else(bif decide (c.Vertices<=(if a.From<a.To then a.To else a.From))then some true else(bif decide (a.W<(-35184372088832))then some true else some (decide (35184372088832<a.W))))):Option Bool).bind λd=>(bif d then some (.done (.done 150))else some (.cont (IntKind.i64.wrap (b+1))))else some (.done (.cont ())))
def F_am(n:Nat)(b:System):Option Int:=
  ((bif decide (b.Vertices<1)then some true else(bif decide (512<b.Vertices)then some true else some (decide (8192<(b.Edges.length:Int))))):Option Bool).bind λd=>(bif d then some 150 else(iter (F_hb n b) n 0:Option (Ctl Unit Int)).bind λc=>match c with|.cont a=>(some 0)|.done a=>some a)
theorem k_am(n:Nat)(w:System)(r:Int)(h:F_am n w=some r):
    Csm prog 60 [.agg (System.c w)] [] (λr=>I r) r:=by
 refine Qc func60 Z Z Z ?_;refine G0 8 Z (Bd h λl f h=>?_);refine Ct l [0] [1] (λl=>[(18,.bool l)]) Ze Zf ?_ (λenv H g=>?_)
 .refine G0 5 Z (Is 8 f Z (λx f=>?_) (λx f=>?_))
  .exact Go 11 Z (Cl f [0])
  .refine Go 5 Z (Is 13 f Z (λy f=>?_) (λy f=>?_))
   .exact Go 6 Z (Cl f [0])
   .exact Go 2 Z (Lm Z (Go 3 Z (Cl f [0])))
 refine Gx 1 Z (Ef g (Cn Z h (λz h=>?_) (λz h=>?_)))
 .exact Gc 7 Z (Rt h 2 [])
 refine Gc 7 Z (Lm Z (Go 3 Z (Bd h λB E h=>?_)));refine CtE (b:=B) [] [] Ze Ze Zf ?_ (λG env H F g=>?_)
 .refine G0 1 Z ?_;refine Lp [0] [1,20,21] (λk=>[(22,I k)]) Ze E Zf (Lr [0]) λk J a i=>?_;refine G0 6 Z (Ja Z a (λm a=>?_) (λm a=>?_))
  .refine Gc 2 Z (Qz a ?_);obtain rfl:=Oj i a;exact Gx 1 Z (QD Z (Lr []))
  refine Gc 6 Z (Bd a λe p a=>Iz p Z (Go 6 Z (Bd a λj d a=>?_)));refine Ct j [0] [1,20,21,22] (λj=>[(51,.bool j)]) Ze Zf ?_ (λenv H g=>?_)
  .refine G0 5 Z ?_;refine vX (I (if e.To<e.From then e.To else e.From)) (OpV.min Z Z Z Z) ?_;refine Go 2 Z (Is 32 d Z (λq d=>?_) (λq d=>?_))
   .exact Go 20 Z (Cl d [0])
   .refine Go 4 Z ?_;refine vX (I (if e.From<e.To then e.To else e.From)) (OpV.max Z Z Z Z) ?_ (gT Z);refine Go 5 Z (Is 42 d Z (λs d=>?_) (λs d=>?_))
    .exact Go 10 Z (Cl d [0])
    .refine Go 5 Z (Is 47 d Z (λt d=>?_) (λt d=>?_))
     .exact Go 5 Z (Cl d [0])
     .exact Go 5 Z (Cl d [0])
  refine Gx 1 Z (Ef g (Cn Z a (λu a=>?_) (λu a=>?_)))
  .refine Gc 8 Z (Q4 a ?_);obtain rfl:=Oj i a;exact Gx 1 Z (QR (Gx 1 Z (Rt h 2 [])))
  exact Gc 7 Z (Qv a (Lr [0]))
 subst F;exact Gx 1 Z (Ef g (Gc 6 Z (Rt h 2 [])))
def F_db(n:Nat)(f:Int)(s:Int)(l:List Edge)(b:List Int)(c:Int)(d:Int)(e:List Int):Option ((List Int)×(List Int)×Bool):=
  (idx l f).bind λa=>((Qby b c d a.From).bind λm=>(bif (m==1152921504606846976)then some true else(Qby b c d a.From).bind λg=>(Qby b c d a.To).bind λh=>some (decide (h<=(IntKind.i64.wrap (g+a.W))))):Option Bool).bind λp=>(bif p then some (b,e,false)else(Qby b c d a.From).bind λi=>(Qby b c d a.To).bind λq=>(QaX b (c+a.To) (IntKind.i64.wrap (i+a.W))).bind λj=>(idx e a.To).bind λr=>(QaX e a.To f).bind λk=>some (j,k,true))
theorem k_db(n:Nat)(L:Int)(y:Int)(z:List Edge)(g:List Int)(a:Int)(d:Int)(E:List Int)(r:(List Int)×(List Int)×Bool)(h:F_db n L y z g a d E=some r):
    C prog 178 [.ptr 0 0,I L] [.cells 186 [I y,.rsl 3 (List.map Edge.c z),.osl 1 (0+Int.toNat a) (Int.toNat d-Int.toNat a) 1,.osl 2 0 E.length 1],.row 3 1 (List.map (Qe .i64) g),.row 3 1 (List.map (Qe .i64) E)] (RQ (λr=>.bool r.2.2) (λr=>[.cells 186 [I y,.rsl 3 (List.map Edge.c z),.osl 1 (0+Int.toNat a) (Int.toNat d-Int.toNat a) 1,.osl 2 0 r.2.1.length 1],.row 3 1 (List.map (Qe .i64) r.1),.row 3 1 (List.map (Qe .i64) r.2.1)]) r):=by
 refine Qc func178 Z Z Z ?_;refine G0 13 Z (Bd h λm M h=>Iz M Z (Go 7 Z (Bd h λF b h=>?_)));refine Ct F [0,1,2,3] [0,1,5] (λF=>[(44,.bool F)]) Ze Zf ?_ (λenv H N=>?_)
 .refine G0 0 Z (DSs 29 Z (D 6 Z ?_));obtain⟨T,B,b⟩:=YN b;refine DS.v (x:=(.ptr 1 (Int.toNat (a+m.From)*1))) (Jk (l:=g) (lo:=a) (hi:=d) B runUnderlying66 sizeOf3) ?_;refine DS.v (x:=(I T)) (Ey Z isAgg3 Z (Qq (Qaz B))) ?_;refine D 2 Z (Qc2 9 b Z Z Z (λO b=>?_) (λO b=>?_))
  .exact D 19 Z (Eh Z (Go 3 Z (Cl b [0,1,2,3])))
  .refine D 6 Z ?_;obtain⟨P,p,b⟩:=YN b;refine DS.v (x:=(.ptr 1 (Int.toNat (a+m.From)*1))) (Jk (l:=g) (lo:=a) (hi:=d) p runUnderlying66 sizeOf3) ?_ (hg:=(gT Z));refine DS.v (x:=(I P)) (Ey Z isAgg3 Z (Qq (Qaz p))) ?_ (hg:=(gT Z));refine D 9 Z ?_;obtain⟨Q,q,b⟩:=YN b;refine DS.v (x:=(.ptr 1 (Int.toNat (a+m.To)*1))) (Jk (l:=g) (lo:=a) (hi:=d) q runUnderlying66 sizeOf3) ?_ (hg:=(gT Z));refine DS.v (x:=(I Q)) (Ey Z isAgg3 Z (Qq (Qaz q))) ?_ (hg:=(gT Z));exact Eh Z (Go 3 Z (Cl b [0,1,2,3]))
 refine Gx 1 Z (Ef N (Cn Z h (λG h=>?_) (λG h=>?_)))
 .exact Gc 7 Z (Rt h 4 [0,1,2])
 refine Gc 3 Z (DSs 17 Z (D 12 Z ?_));obtain⟨R,t,h⟩:=YN h;refine DS.v (x:=(.ptr 1 (Int.toNat (a+m.From)*1))) (Jk (l:=g) (lo:=a) (hi:=d) t runUnderlying66 sizeOf3) ?_;refine DS.v (x:=(I R)) (Ey Z isAgg3 Z (Qq (Qaz t))) ?_;refine D 3 Z (Eh Z (Bd h λV u h=>?_));refine vX (.ptr 1 (Int.toNat (a+m.To)*1)) (Jk (l:=g) (lo:=a) (hi:=d) u runUnderlying66 sizeOf3) ?_;refine Bd h λW J h=>?_;refine vU (YP (e:=(Qe .i64)) (k:=1) (f:=0) (Qaz u) J sizeOf3 Z Z) ?_;refine FE Z (Go 3 Z (DSs 7 Z (D 7 Z (Eh Z (Bd h λX w h=>?_)))));refine vX (.ptr 2 (Int.toNat m.To*1)) (QZ w Z runUnderlying66 sizeOf3) ?_;refine Bd h λY j h=>?_;refine vU (YP (e:=(Qe .i64)) (k:=1) (f:=0) w j sizeOf3 Z Z) ?_;refine FE Z ?_;refine Et (Qw (s:=66) Z (congrArg (λn=>A.osl 2 0 n 1) (Q1 j))) ?_;refine Et (Qm1 (i:=0) Z (congrArg (λnz=>Blk.cells 186 [I y,.rsl 3 (List.map Edge.c z),.osl 1 (0+Int.toNat a) (Int.toNat d-Int.toNat a) 1,.osl 2 0 nz 1]) (Q1 j))) ?_;exact Go 8 Z (Rt h 4 [0,1,2])
def F_fw(n:Nat)(f:Int)(c:List Edge)(g:Int)(h:Int)(a:(List Int)×(List Int)×Int×Int):Option (Ctl ((List Int)×(List Int)×Int×Int) ((List Int)×(List Int)×Int)):=
  (bif decide (a.2.2.2<(c.length:Int))then(F_db n a.2.2.2 f c a.1 g h a.2.1).bind λb=>((bif b.2.2 then(idx c a.2.2.2).bind λd=>some d.To else some a.2.2.1):Option Int).bind λe=>some (.cont (b.1,b.2.1,e,IntKind.i64.wrap (a.2.2.2+1)))else some (.done (a.1,a.2.1,a.2.2.1)))
def F_fq(n:Nat)(c:Int)(d:List Edge)(e:Int)(f:Int)(a:(List Int)×(List Int)×Int×Int):Option (Ctl ((List Int)×(List Int)×Int×Int) (Ctl ((List Int)×(List Int)×Int) ((List Int)×(List Int)×Int))):=
  (bif decide (a.2.2.2<c)then(iter (F_fw n c d e f) n (a.1,a.2.1,(-1),0):Option ((List Int)×(List Int)×Int)).bind λb=>(bif decide (b.2.2<0)then some (.done (.done (b.1,b.2.1,b.2.2)))else some (.cont (b.1,b.2.1,b.2.2,IntKind.i64.wrap (a.2.2.2+1))))else some (.done (.cont (a.1,a.2.1,a.2.2.1))))
def F_aj(n:Nat)(c:Int)(d:List Edge)(e:List Int)(f:Int)(g:Int)(h:List Int):Option ((List Int)×(List Int)×Int):=
  (iter (F_fq n c d f g) n (e,h,0,0):Option (Ctl ((List Int)×(List Int)×Int) ((List Int)×(List Int)×Int))).bind λb=>match b with|.cont a=>(some (a.1,a.2.1,a.2.2))|.done a=>some a
theorem k_aj(n:Nat)(m:Int)(p:List Edge)(F:List Int)(f:Int)(q:Int)(y:List Int)(r:(List Int)×(List Int)×Int)(h:F_aj n m p F f q y=some r):
    C prog 100 [.ptr 0 0] [.cells 186 [I m,.rsl 3 (List.map Edge.c p),.osl 1 (0+Int.toNat f) (Int.toNat q-Int.toNat f) 1,.osl 2 0 y.length 1],.row 3 1 (List.map (Qe .i64) F),.row 3 1 (List.map (Qe .i64) y)] (RQ (λr=>I r.2.2) (λr=>[.cells 186 [I m,.rsl 3 (List.map Edge.c p),.osl 1 (0+Int.toNat f) (Int.toNat q-Int.toNat f) 1,.osl 2 0 r.2.1.length 1],.row 3 1 (List.map (Qe .i64) r.1),.row 3 1 (List.map (Qe .i64) r.2.1)]) r):=by
 refine Qc func100 Z Z Z ?_;refine G0 23 Z (Bd h λG J h=>?_);refine CtE (b:=G) [0,1,2] [] (λg=>[(2,I g.2.2)]) (λg=>[(0,.cells 186 [I m,.rsl 3 (List.map Edge.c p),.osl 1 (0+Int.toNat f) (Int.toNat q-Int.toNat f) 1,.osl 2 0 g.2.1.length 1]),(1,.row 3 1 (List.map (Qe .i64) g.1)),(2,.row 3 1 (List.map (Qe .i64) g.2.1))]) Zf ?_ (λg env H L l=>?_)
 .refine G0 1 Z ?_;refine Lp [0,1,2] [0,3,11] (λi=>[(2,I i.2.2.1),(12,I i.2.2.2)]) (λi=>[(0,.cells 186 [I m,.rsl 3 (List.map Edge.c p),.osl 1 (0+Int.toNat f) (Int.toNat q-Int.toNat f) 1,.osl 2 0 i.2.1.length 1]),(1,.row 3 1 (List.map (Qe .i64) i.1)),(2,.row 3 1 (List.map (Qe .i64) i.2.1))]) J Zf (Lr [0,1,2]) λi P a t=>?_;refine G0 6 Z (Ja Z a (λz a=>?_) (λz a=>?_))
  .refine Gc 2 Z (Qz a ?_);obtain rfl:=Oj t a;exact Gx 1 Z (QD Z (Lr [0,1,2]))
  refine Gc 17 Z (Lm Z (Go 3 Z (Bd a λj M a=>?_)));refine Ct j [0,1,2] [0,3,11,12] (λj=>[(2,I j.2.2)]) (λj=>[(0,.cells 186 [I m,.rsl 3 (List.map Edge.c p),.osl 1 (0+Int.toNat f) (Int.toNat q-Int.toNat f) 1,.osl 2 0 j.2.1.length 1]),(1,.row 3 1 (List.map (Qe .i64) j.1)),(2,.row 3 1 (List.map (Qe .i64) j.2.1))]) Zf ?_ (λenv H l=>?_)
  .refine G0 1 Z ?_;refine Lp [0,1,2] [0,3,11,12,19] (λk=>[(2,I k.2.2.1),(20,I k.2.2.2)]) (λk=>[(0,.cells 186 [I m,.rsl 3 (List.map Edge.c p),.osl 1 (0+Int.toNat f) (Int.toNat q-Int.toNat f) 1,.osl 2 0 k.2.1.length 1]),(1,.row 3 1 (List.map (Qe .i64) k.1)),(2,.row 3 1 (List.map (Qe .i64) k.2.1))]) M Zf (Lr [0,1,2]) λk Q d B=>?_;refine G0 6 Z (Ja Z d (λE d=>?_) (λE d=>?_))
   .refine Gc 2 Z (Qz d ?_);obtain rfl:=Oj B d;exact Gx 1 Z (QW (Lr [0,1,2]))
   refine Gc 14 Z (Cd [0,1,2] d (k_db _ _ _ _ _ _ _ _) Z λR N d=>FE Z (Go 2 Z (Bd d λs e d=>?_)));refine Ct s [0,1,2] [0,3,11,12,19,20] (λs=>[(2,I s)]) Ze Zf ?_ (λenv H l=>?_)
   .refine G0 0 Z (Cn Z e (λu e=>?_) (λu e=>?_))
    .exact Gc 7 Z (Bd e λO w e=>Iz w Z (Go 4 Z (Cl e [0,1,2])))
    exact Gc 1 Z (Cl e [0,1,2])
   exact Gx 2 Z (Ef l (Gc 4 Z (Qv d (Lr [0,1,2]))))
  refine Gx 1 Z (Ef l (Gc 6 Z (Cn Z a (λx a=>?_) (λx a=>?_))))
  .refine Gc 9 Z (Q4 a ?_);obtain rfl:=Oj t a;exact Gx 1 Z (QR (Gx 1 Z (Rt h 2 [0,1,2])))
  exact Gc 7 Z (Qv a (Lr [0,1,2]))
 subst L;exact Gx 1 Z (Ef l (Gc 7 Z (Rt h 2 [0,1,2])))
def F_ey(n:Nat)(a:(List Int)×Int×Int):Option (Ctl ((List Int)×Int×Int) (List Int)):=
  (bif decide (a.2.1<a.2.2)then(idx a.1 a.2.2).bind λc=>(idx a.1 a.2.1).bind λd=>(idx a.1 a.2.1).bind λf=>(QaX a.1 a.2.1 c).bind λb=>(idx b a.2.2).bind λg=>(QaX b a.2.2 d).bind λe=>some (.cont (e,IntKind.i64.wrap (a.2.1+1),IntKind.i64.wrap (a.2.2-1)))else some (.done a.1))
def F_bv(n:Nat)(a:List Int):Option (List Int):=
  (iter (F_ey n) n (a,0,IntKind.i64.wrap ((a.length:Int)-1)):Option (List Int)).bind λb=>some b
theorem k_bv(n:Nat)(w:List Int)(r:List Int)(h:F_bv n w=some r):
    C prog 101 [.osl 0 0 w.length 1] [.row 3 1 (List.map (Qe .i64) w)] (RQ (λ_=>.tup []) (λr=>[.row 3 1 (List.map (Qe .i64) r)]) r):=by
 refine Qc func101 Z Z Z ?_;refine G0 9 Z (Bd h λg z h=>?_);refine Ct g [0] [] Ze (λg=>[(0,.row 3 1 (List.map (Qe .i64) g))]) Zf ?_ (λenv H i=>?_)
 .refine G0 1 Z ?_;refine Lp [0] [] (λa=>[(0,.osl 0 0 a.1.length 1),(2,I a.2.1),(3,I a.2.2)]) (λa=>[(0,.row 3 1 (List.map (Qe .i64) a.1))]) z Zf (Lr [0]) λa B b x=>?_;refine G0 8 Z (Ja Z b (λy b=>?_) (λy b=>?_))
  .refine Gc 2 Z (Qz b ?_);obtain rfl:=Oj x b;exact Gx 1 Z (QW (Lr [0]))
  refine Gc 4 Z ?_;obtain⟨q,j,b⟩:=YN b;obtain⟨t,l,b⟩:=YN b;obtain⟨E,m,b⟩:=YN b;obtain⟨u,c,b⟩:=YN b;refine Jj 14 0 [14,15,16,17,18,19,20,21,22,23,24,25,26,1000013] [false,false,false,false,false,false,false,false,false,false,false,false,false,true] [[],[],[],[],[],[],[],[],[],[],[],[],[],[]] [[],[13]] [[(0,0)],[(0,0)],[(0,0),(1,1)],[(0,0),(1,1)],[(0,0)],[(0,0)],[(0,0)],[(0,0)],[(0,0)],[(0,0)],[(0,0)],[(0,0)],[(0,0)],[(0,1)]] [.osl 0 0 a.1.length 1,I a.2.1,.osl 0 0 a.1.length 1,I a.2.2,.osl 0 0 a.1.length 1,I a.2.2,.ptr 0 (Int.toNat a.2.2*1),I q,.osl 0 0 a.1.length 1,I a.2.1,.ptr 0 (Int.toNat a.2.1*1),I t,.ptr 0 (Int.toNat a.2.1*1),.any] [[.row 3 1 (List.map (Qe .i64) a.1)],[.row 3 1 (List.map (Qe .i64) u)]] ([.row 3 1 (List.map (Qe .i64) u)]) draws Z Z Z Z Z Z Z ?_ Z ?_
  .refine Qhh.cons (Qb (v0 Z Z) (Qf)) (Qhh.cons (Qb (v0 Z Z) (Qf)) (Qhh.cons (Qb (v0 Z Z) (Qb (v0 Z Z) (Qf))) (Qhh.cons (Qb (v0 Z Z) (Qb (v0 Z Z) (Qf))) (Qhh.cons (Qb (v0 Z Z) (Qf)) (Qhh.cons (Qb (v0 Z Z) (Qf)) (Qhh.cons ?_ (Qhh.cons ?_ (Qhh.cons (Qb (v0 Z Z) (Qf)) (Qhh.cons (Qb (v0 Z Z) (Qf)) (Qhh.cons ?_ (Qhh.cons ?_ (Qhh.cons ?_ (Qhh.cons ?_ (Qhh.nil))))))))))))))
   .refine Qb ?_ (Qf)
    .refine Om Z (sD 4 (sD 5 sN)) ?_;refine vX (.ptr 0 (Int.toNat a.2.2*1)) (QZ j Z runUnderlying66 sizeOf3) ?_;exact Wp
   .refine Qb ?_ (Qf)
    .refine Om Z (sD 6 sN) ?_;refine vX (I q) (Ey Z isAgg3 Z (Qq j)) ?_;exact Wp
   .refine Qb ?_ (Qf)
    .refine Om Z (sD 8 (sD 9 sN)) ?_;refine vX (.ptr 0 (Int.toNat a.2.1*1)) (QZ l Z runUnderlying66 sizeOf3) ?_;exact Wp
   .refine Qb ?_ (Qf)
    .refine Om Z (sD 10 sN) ?_;refine vX (I t) (Ey Z isAgg3 Z (Qq l)) ?_;exact Wp
   .refine Qb ?_ (Qf)
    .refine Om Z (sD 0 (sD 1 sN)) ?_;refine vX (.ptr 0 (Int.toNat a.2.1*1)) (QZ m Z runUnderlying66 sizeOf3) ?_;exact Wp
   .refine Qb ?_ (Qf)
    .refine Om2 Z (sD 7 (sD 12 sN)) ?_;refine vU (YP (e:=(Qe .i64)) (k:=1) (f:=0) m c sizeOf3 Z Z) ?_;exact FE Z Wp
  refine Et (Qw (s:=0) Z (congrArg (λn=>A.osl 0 0 n 1) (Q1 c))) ?_;refine Et (Qw (s:=14) Z (congrArg (λn=>A.osl 0 0 n 1) (Q1 c))) ?_;refine Et (Qw (s:=16) Z (congrArg (λn=>A.osl 0 0 n 1) (Q1 c))) ?_;refine Et (Qw (s:=18) Z (congrArg (λn=>A.osl 0 0 n 1) (Q1 c))) ?_;refine Et (Qw (s:=22) Z (congrArg (λn=>A.osl 0 0 n 1) (Q1 c))) ?_;refine Bd b λF p b=>?_;refine vX (.ptr 0 (Int.toNat a.2.2*1)) (QZ p Z runUnderlying66 sizeOf3) ?_;refine Bd b λG d b=>?_;refine vU (YP (e:=(Qe .i64)) (k:=1) (f:=0) p d sizeOf3 Z Z) ?_;refine FE Z ?_;refine Et (Qw (s:=0) Z (congrArg (λn=>A.osl 0 0 n 1) (Q1 d))) ?_;refine Et (Qw (s:=14) Z (congrArg (λn=>A.osl 0 0 n 1) (Q1 d))) ?_;refine Et (Qw (s:=16) Z (congrArg (λn=>A.osl 0 0 n 1) (Q1 d))) ?_;refine Et (Qw (s:=18) Z (congrArg (λn=>A.osl 0 0 n 1) (Q1 d))) ?_;refine Et (Qw (s:=22) Z (congrArg (λn=>A.osl 0 0 n 1) (Q1 d))) ?_;exact Go 11 Z (Qv b (Lr [0]))
 obtain rfl:=Oi h;have i:=i;refine⟨[],_,_,?_,Qcd.nil Z,Z,Z⟩;refine En i ?_;exact Lr [0]
def F_gz(n:Nat)(b:System)(e:(List Int)×(List Int)×Int)(a:Int×Int):Option (Ctl (Int×Int) Int):=
  (bif decide (a.2<b.Vertices)then(idx e.2.1 a.1).bind λc=>(idx b.Edges c).bind λd=>some (.cont (d.From,IntKind.i64.wrap (a.2+1)))else some (.done a.1))
def F_hg(n:Nat)(f:System)(g:(List Int)×(List Int)×Int)(e:Int)(a:(List Int)×Int):Option (Ctl ((List Int)×Int) (List Int)):=
  (idx g.2.1 a.2).bind λb=>(app a.1 [b]).bind λc=>(idx f.Edges b).bind λd=>(bif (d.From==e)then some (.done c)else some (.cont (c,d.From)))
def F_ak(n:Nat)(a:System):Option (List Int):=
  (mk a.Vertices 0).bind λe=>(mk a.Vertices 0).bind λg=>(F_aj n a.Vertices a.Edges e 0 (e.length:Int) g).bind λb=>(bif decide (b.2.2<0)then some []else(iter (F_gz n a b) n (b.2.2,0):Option Int).bind λc=>(iter (F_hg n a b c) n ([],c):Option (List Int)).bind λd=>(QhE d (F_bv n d)).bind λf=>some f)
theorem k_ak(n:Nat)(d:System)(r:List Int)(h:F_ak n d=some r):
    C prog 61 [.agg (System.c d)] [] (RQ (λr=>.osl 0 0 r.length 1) (λr=>[.row 3 1 (List.map (Qe .i64) r)]) r):=by
 refine Qc func61 Z Z Z ?_;refine G0 6 Z (TC.scope ?_);refine G0 1 Z ?_;obtain⟨g,E,h⟩:=YN h;obtain⟨l,F,h⟩:=YN h;refine Jj 7 2 [7,8,9,10,11,12,13] [false,false,false,true,false,false,true] [[],[],[],[],[],[],[]] [[],[3],[6],[3,6]] [[(0,0),(1,1),(2,2),(3,3)],[(0,0),(2,2)],[(0,0),(2,2)],[(0,1),(2,3)],[(0,0),(1,1)],[(0,0),(1,1)],[(0,2),(1,3)]] [.agg (System.c d),.ptr 0 0,I d.Vertices,.osl 1 0 g.length 1,.ptr 0 0,I d.Vertices,.osl 2 0 l.length 1] [[.cells 51 (System.c d),.dead,.dead],[.cells 51 (System.c d),.row 3 1 (List.map (Qe .i64) g),.dead],[.cells 51 (System.c d),.dead,.row 3 1 (List.map (Qe .i64) l)],[.cells 51 (System.c d),.row 3 1 (List.map (Qe .i64) g),.row 3 1 (List.map (Qe .i64) l)]] ([.cells 51 (System.c d),.row 3 1 (List.map (Qe .i64) g),.row 3 1 (List.map (Qe .i64) l)]) draws Z Z Z Z Z Z Z ?_ Z ?_
 .refine Qhh.cons (Qb (v0 Z Z) (Qb (v0 Z Z) (Qb (v0 Z Z) (Qb (v0 Z Z) (Qf))))) (Qhh.cons (Qb (v0 Z Z) (Qb (v0 Z Z) (Qf))) (Qhh.cons (Qb (v0 Z Z) (Qb (v0 Z Z) (Qf))) (Qhh.cons ?_ (Qhh.cons (Qb (v0 Z Z) (Qb (v0 Z Z) (Qf))) (Qhh.cons (Qb (v0 Z Z) (Qb (v0 Z Z) (Qf))) (Qhh.cons ?_ (Qhh.nil)))))))
  .refine Qb ?_ (Qb ?_ (Qf))
   .exact Jd.row _ _ 10 1 (.osl 1 0 g.length 1) (.row 3 1 (List.map (Qe .i64) g)) Z Z Z Z Z Z Z Z (sD 2 sN) (Qc0 (e:=(Qe .i64)) (zv:=0) (a:=(I 0)) E QS zeroValue3 Eo Z Z Z Z) Z
   .exact Jd.row _ _ 10 1 (.osl 1 0 g.length 1) (.row 3 1 (List.map (Qe .i64) g)) Z Z Z Z Z Z Z Z (sD 2 sN) (Qc0 (e:=(Qe .i64)) (zv:=0) (a:=(I 0)) E QS zeroValue3 Eo Z Z Z Z) Z
  .refine Qb ?_ (Qb ?_ (Qf))
   .exact Jd.row _ _ 13 2 (.osl 2 0 l.length 1) (.row 3 1 (List.map (Qe .i64) l)) Z Z Z Z Z Z Z Z (sD 5 sN) (Qc0 (e:=(Qe .i64)) (zv:=0) (a:=(I 0)) F QS zeroValue3 Eo Z Z Z Z) Z
   .exact Jd.row _ _ 13 2 (.osl 2 0 l.length 1) (.row 3 1 (List.map (Qe .i64) l)) Z Z Z Z Z Z Z Z (sD 5 sN) (Qc0 (e:=(Qe .i64)) (zv:=0) (a:=(I 0)) F QS zeroValue3 Eo Z Z Z Z) Z
 refine Go 8 Z (Cd [3,1,2] h (k_aj _ _ _ _ _ _ _) Z λu X h=>FE Z (Go 10 Z (Cn Z h (λR h=>?_) (λR h=>?_))))
 .refine Gc 7 Z ?_;obtain rfl:=Oi h;refine R1 2 Z ?_;refine En (Er (s:=2) (k:=1) (t:=3) (XR Z) Z) ?_;exact Lr [4]
 refine Gc 10 Z (Bd h λw T h=>?_);refine Ct w [0,1,2,3] [1,2] (λw=>[(3,.ptr 1 0),(4,I w)]) (λ_=>[(1,.cells 186 [I d.Vertices,.rsl 3 (List.map Edge.c d.Edges),.osl 2 (0+Int.toNat 0) (Int.toNat (g.length:Int)-Int.toNat 0) 1,.osl 3 0 u.2.1.length 1]),(2,.row 3 1 (List.map (Qe .i64) u.1)),(3,.row 3 1 (List.map (Qe .i64) u.2.1))]) Zf ?_ (λenv H y=>?_)
 .refine G0 1 Z ?_;refine Lp [0,3,1,2] [1,2,3,21] (λq=>[(4,I q.1),(22,I q.2)]) (λ_=>[(1,.cells 186 [I d.Vertices,.rsl 3 (List.map Edge.c d.Edges),.osl 2 (0+Int.toNat 0) (Int.toNat (g.length:Int)-Int.toNat 0) 1,.osl 3 0 u.2.1.length 1])]) T Zf (Lr [0,3,1,2]) λq Y f J=>?_;refine G0 6 Z (Ja Z f (λL f=>?_) (λL f=>?_))
  .refine Gc 2 Z (Qz f ?_);obtain rfl:=Oj J f;exact Gx 1 Z (QW (Lr [0,1,2,3]))
  refine Gc 4 Z (DSs 9 Z (D 7 Z ?_));obtain⟨V,z,f⟩:=YN f;refine DS.v (x:=(.ptr 3 (Int.toNat q.1*1))) (QZ z Z runUnderlying66 sizeOf3) ?_;refine DS.v (x:=(I V)) (Ey Z isAgg3 Z (Qq z)) ?_;exact Eh Z (Bd f λaa M f=>Iz M Z (Go 10 Z (Qv f (Lr [0,1,2,3]))))
 refine Gx 1 Z (Ef y (Gc 7 Z (TC.label ?_)));refine Gx 2 Z (Bd h λm W h=>?_);refine Ct m [0] [] (λm=>[(2,.osl 0 0 m.length 1)]) (λm=>[(0,.row 3 1 (List.map (Qe .i64) m))]) Zf ?_ (λenv H y=>?_)
 .refine G0 1 Z ?_;refine Lp [0,0,1,2,3] [1,3,5] (λj=>[(2,.osl 1 0 j.1.length 1),(4,I j.2)]) (λj=>[(1,.row 3 1 (List.map (Qe .i64) j.1)),(2,.cells 186 [I d.Vertices,.rsl 3 (List.map Edge.c d.Edges),.osl 3 (0+Int.toNat 0) (Int.toNat (g.length:Int)-Int.toNat 0) 1,.osl 4 0 u.2.1.length 1])]) W Zf ?_ ?_
  .refine En (Er (s:=2) (k:=1) (t:=3) (XR Z) Z) ?_;exact Lr [0,4,1,2,3]
  intro j ab b N;refine G0 8 Z (Bd b λG B b=>?_);refine vX (.ptr 4 (Int.toNat j.2*1)) (QZ B Z runUnderlying66 sizeOf3) ?_;refine vX (I G) (Ey Z isAgg3 Z (Qq B)) ?_;refine Go 7 Z ?_;refine vH (El (xs:=[.tmp 46]) (es:=List.map (Qe .i64) [G]) QS Z Z Z Z Z ⟨Z,trivial⟩ Z Z) ?_;refine FE Z (Bd b λac O b=>?_);refine vH (Yp (e:=(Qe .i64)) O QS runUnderlying66 (Qa2 (i:=5))) ?_;refine FE Z (Go 8 Z (Bd b λad P b=>Iz P Z (Go 12 Z (Cn Z b (λQ b=>?_) (λQ b=>?_)))))
  .refine Gc 2 Z (Qz b ?_);obtain rfl:=Oj N b;exact Gx 1 Z (QW (Lr [6]))
  exact Gc 2 Z (Qv b (Lr [0,6,2,3,4]))
 refine Gx 1 Z (Ef y (Gc 3 Z (Bd h λae p h=>?_)));refine Qs [0] (OpC.fn call101 Z Z Z) (k_bv _ _ _ (QlV p)) ?_;rintro _ _ ⟨rfl,rfl⟩;refine FE Z ?_;refine Et (Qw (s:=2) Z (congrArg (λn=>A.osl 0 0 n 1) (Qf2 p))) ?_;refine Et (Qw (s:=58) Z (congrArg (λn=>A.osl 0 0 n 1) (Qf2 p))) ?_;exact Go 9 Z (Rt h 2 [0])
def F_gv(n:Nat)(a:Int)(b:Int):Option Unit:=
  some ()
theorem k_gv(n:Nat)(a:Int)(b:Int)(r:Unit)(h:F_gv n a b=some r):
    Csm prog 238 [.int .u64 a,.int .u64 b] [] (λ_=>.tup [.int .u64 (IntKind.u64.wrap ((IntKind.u64.wrap ((IntKind.u64.wrap ((QX .u64 a 32)*(QX .u64 b 32)))+(QX .u64 (IntKind.u64.wrap ((IntKind.u64.wrap ((QX .u64 a 32)*(Yi .u64 b 4294967295)))+(QX .u64 (IntKind.u64.wrap ((Yi .u64 a 4294967295)*(Yi .u64 b 4294967295))) 32))) 32)))+(QX .u64 (IntKind.u64.wrap ((Yi .u64 (IntKind.u64.wrap ((IntKind.u64.wrap ((QX .u64 a 32)*(Yi .u64 b 4294967295)))+(QX .u64 (IntKind.u64.wrap ((Yi .u64 a 4294967295)*(Yi .u64 b 4294967295))) 32))) 4294967295)+(IntKind.u64.wrap ((Yi .u64 a 4294967295)*(QX .u64 b 32))))) 32))),.int .u64 (IntKind.u64.wrap (a*b))]) r:=by
 refine Qc func238 Z Z Z ?_;refine G0 9 Z ?_;refine vX (.int .u64 (Yi .u64 a 4294967295)) (OpV.and Z Z Z) ?_;refine Go 6 Z ?_;refine vX (.int .u64 (QX .u64 a 32)) (OpV.shr Z Z Z (by decide)) ?_;refine Go 6 Z ?_;refine vX (.int .u64 (Yi .u64 b 4294967295)) (OpV.and Z Z Z) ?_;refine Go 6 Z ?_;refine vX (.int .u64 (QX .u64 b 32)) (OpV.shr Z Z Z (by decide)) ?_;refine Go 17 Z ?_;refine vV (x:=(.int .u64 (QX .u64 (IntKind.u64.wrap ((Yi .u64 a 4294967295)*(Yi .u64 b 4294967295))) 32))) (OpV.shr Z Z Z (by decide)) ?_;refine Go 7 Z ?_;refine vV (x:=(.int .u64 (Yi .u64 (IntKind.u64.wrap ((IntKind.u64.wrap ((QX .u64 a 32)*(Yi .u64 b 4294967295)))+(QX .u64 (IntKind.u64.wrap ((Yi .u64 a 4294967295)*(Yi .u64 b 4294967295))) 32))) 4294967295))) (OpV.and Z Z Z) ?_;refine Go 6 Z ?_;refine vV (x:=(.int .u64 (QX .u64 (IntKind.u64.wrap ((IntKind.u64.wrap ((QX .u64 a 32)*(Yi .u64 b 4294967295)))+(QX .u64 (IntKind.u64.wrap ((Yi .u64 a 4294967295)*(Yi .u64 b 4294967295))) 32))) 32))) (OpV.shr Z Z Z (by decide)) ?_;refine Go 21 Z ?_;refine vV (x:=(.int .u64 (QX .u64 (IntKind.u64.wrap ((Yi .u64 (IntKind.u64.wrap ((IntKind.u64.wrap ((QX .u64 a 32)*(Yi .u64 b 4294967295)))+(QX .u64 (IntKind.u64.wrap ((Yi .u64 a 4294967295)*(Yi .u64 b 4294967295))) 32))) 4294967295)+(IntKind.u64.wrap ((Yi .u64 a 4294967295)*(QX .u64 b 32))))) 32))) (OpV.shr Z Z Z (by decide)) ?_;refine Go 13 Z ?_;obtain rfl:=Oi h;exact R2 4 5 Z Z (Lr [])
def F_gu(n:Nat)(a:Int)(b:Int):Option Unit:=
  (F_gv n a b).bind λc=>some ()
theorem k_gu(n:Nat)(a:Int)(b:Int)(r:Unit)(h:F_gu n a b=some r):
    Csm prog 179 [.int .u64 a,.int .u64 b] [] (λ_=>.tup [.int .u64 (IntKind.u64.wrap ((IntKind.u64.wrap ((IntKind.u64.wrap ((QX .u64 a 32)*(QX .u64 b 32)))+(QX .u64 (IntKind.u64.wrap ((IntKind.u64.wrap ((QX .u64 a 32)*(Yi .u64 b 4294967295)))+(QX .u64 (IntKind.u64.wrap ((Yi .u64 a 4294967295)*(Yi .u64 b 4294967295))) 32))) 32)))+(QX .u64 (IntKind.u64.wrap ((Yi .u64 (IntKind.u64.wrap ((IntKind.u64.wrap ((QX .u64 a 32)*(Yi .u64 b 4294967295)))+(QX .u64 (IntKind.u64.wrap ((Yi .u64 a 4294967295)*(Yi .u64 b 4294967295))) 32))) 4294967295)+(IntKind.u64.wrap ((Yi .u64 a 4294967295)*(QX .u64 b 32))))) 32))),.int .u64 (IntKind.u64.wrap (a*b))]) r:=by
 refine Qc func179 Z Z Z ?_;refine G0 14 Z (Cd [] h (k_gv _ _ _) Z λd c h=>FE Z (Go 16 Z ?_));obtain rfl:=Oi h;exact R2 4 5 Z Z (Lr [])
def F_ei(n:Nat)(a:(List Int)×Int):Option (Ctl ((List Int)×Int) (List Int)):=
  (bif decide (a.2<(a.1.length:Int))then(slc a.1 a.2 (a.1.length:Int)).bind λd=>(slc a.1 0 a.2).bind λb=>(cpy a.1 a.2 (a.1.length:Int) b).bind λc=>some (.cont (c,IntKind.i64.wrap (a.2+((min b.length ((a.1.length:Int).toNat-a.2.toNat):Nat):Int))))else some (.done a.1))
def F_cn(n:Nat)(a:List Int)(b:Int):Option (List Int):=
  ((bif decide (b<0)then none else some ()):Option Unit).bind λb2=>(F_gu n (IntKind.u64.wrap (a.length:Int)) (IntKind.u64.wrap b)).bind λh=>((bif decide (0<(IntKind.u64.wrap ((IntKind.u64.wrap ((IntKind.u64.wrap ((QX .u64 (IntKind.u64.wrap (a.length:Int)) 32)*(QX .u64 (IntKind.u64.wrap b) 32)))+(QX .u64 (IntKind.u64.wrap ((IntKind.u64.wrap ((QX .u64 (IntKind.u64.wrap (a.length:Int)) 32)*(Yi .u64 (IntKind.u64.wrap b) 4294967295)))+(QX .u64 (IntKind.u64.wrap ((Yi .u64 (IntKind.u64.wrap (a.length:Int)) 4294967295)*(Yi .u64 (IntKind.u64.wrap b) 4294967295))) 32))) 32)))+(QX .u64 (IntKind.u64.wrap ((Yi .u64 (IntKind.u64.wrap ((IntKind.u64.wrap ((QX .u64 (IntKind.u64.wrap (a.length:Int)) 32)*(Yi .u64 (IntKind.u64.wrap b) 4294967295)))+(QX .u64 (IntKind.u64.wrap ((Yi .u64 (IntKind.u64.wrap (a.length:Int)) 4294967295)*(Yi .u64 (IntKind.u64.wrap b) 4294967295))) 32))) 4294967295)+(IntKind.u64.wrap ((Yi .u64 (IntKind.u64.wrap (a.length:Int)) 4294967295)*(QX .u64 (IntKind.u64.wrap b) 32))))) 32))))then some true else some (decide (9223372036854775807<(IntKind.u64.wrap ((IntKind.u64.wrap (a.length:Int))*(IntKind.u64.wrap b)))))):Option Bool).bind λf=>((bif f then none else some ()):Option Unit).bind λg=>(mk (IntKind.i64.wrap (IntKind.u64.wrap ((IntKind.u64.wrap (a.length:Int))*(IntKind.u64.wrap b)))) 0).bind λc=>(cpy c 0 (c.length:Int) a).bind λd=>(iter (F_ei n) n (d,((min a.length c.length:Nat):Int)):Option (List Int)).bind λe=>some e
theorem k_cn(n:Nat)(u:List Int)(w:Int)(r:List Int)(h:F_cn n u w=some r):
    C prog 102 [.rsl 1 (List.map (Qe .i64) u),I w] [] (RQ (λr=>.osl 0 0 r.length 1) (λr=>[.row 3 1 (List.map (Qe .i64) r)]) r):=by
 refine Qc func102 Z Z Z ?_;refine G0 12 Z (Bd h λb2 p h=>?_);refine Ct b2 [] [0,1] Ze Ze Zf ?_ (λenv H g=>?_)
 .refine G0 0 Z (Cn Z p (λG p=>?_) (λG p=>?_))
  .cases p
  exact Gc 1 Z (Cl p [])
 refine Gx 1 Z (Ef g (Gc 3 Z (Lm Z ?_)));refine vX (.int .u64 (IntKind.u64.wrap (u.length:Int))) (YE Z runUnderlying3 runUnderlying97 Z) ?_;refine Go 1 Z ?_;refine vX (.int .u64 (IntKind.u64.wrap w)) (YE Z runUnderlying3 runUnderlying97 Z) ?_;refine Cd [] h (k_gu _ _ _) Z λW P h=>FE Z (Go 9 Z (Bd h λy q h=>?_));refine Ct y [] [0,6] (λy=>[(26,.bool y)]) Ze Zf ?_ (λenv H g=>?_)
 .refine G0 4 Z (Is 23 q Z (λJ q=>?_) (λJ q=>?_))
  .exact Go 4 Z (Cl q [])
  .exact Go 4 Z (Cl q [])
 refine Gx 1 Z (Ef g (Bd h λL k h=>?_));refine Ct L [] [0,6] Ze Ze Zf ?_ (λenv H g=>?_)
 .refine G0 0 Z (Cn Z k (λz k=>?_) (λz k=>?_))
  .cases k
  exact Gc 1 Z (Cl k [])
 refine Gx 1 Z (Ef g (Gc 3 Z ?_));refine vV (x:=(I (IntKind.i64.wrap (IntKind.u64.wrap ((IntKind.u64.wrap (u.length:Int))*(IntKind.u64.wrap w)))))) (YE Z runUnderlying97 runUnderlying3 Z) ?_;refine Bd h λQ B h=>?_;refine vH (Qj1 (e:=(Qe .i64)) (zv:=0) (a:=(I 0)) B QS zeroValue3 Eo Z Z Z Z) ?_;refine FE Z (Go 7 Z (Bd h λR j h=>?_));refine vH (QkX (e:=(Qe .i64)) j runUnderlying66 sizeOf3 QnX) ?_;refine FE Z ?_;refine Et (Qw (s:=7) Z (congrArg (λn=>A.osl 0 0 n 1) (Qfj j))) ?_;refine Et (Qw (s:=30) Z (congrArg (λn=>A.osl 0 0 n 1) (Qfj j))) ?_;refine Et (Qw (s:=31) Z (congrArg (λn=>A.osl 0 0 n 1) (Qfj j))) ?_;refine Go 4 Z (Bd h λm M h=>?_);refine Ct m [0] [] (λm=>[(7,.osl 0 0 m.length 1)]) (λm=>[(0,.row 3 1 (List.map (Qe .i64) m))]) Zf ?_ (λenv H g=>?_)
 .refine G0 1 Z ?_;refine Lp [0] [] (λc=>[(7,.osl 0 0 c.1.length 1),(8,I c.2)]) (λc=>[(0,.row 3 1 (List.map (Qe .i64) c.1))]) M Zf (Lr [0]) λc T d E=>?_;refine G0 9 Z (Ja Z d (λF d=>?_) (λF d=>?_))
  .refine Gc 2 Z (Qz d ?_);obtain rfl:=Oj E d;exact Gx 1 Z (QW (Lr [0]))
  refine Gc 3 Z (DKs 8 [7] [(0,0,1),(0,0,0),(0,0,0),(0,0,0),(0,0,0),(0,0,0),(0,0,0),(1,0,0)] (by kernel_rfl) (Dk 3 Z ?_));obtain⟨V,f,d⟩:=YN d;refine DK.wo (x:=.osl 0 (0+Int.toNat c.2) (Int.toNat (c.1.length:Int)-Int.toNat c.2) 1) ?_ ?_
  .refine vX (.osl 0 (0+Int.toNat c.2) (Int.toNat (c.1.length:Int)-Int.toNat c.2) 1) (QdB (l:=c.1) f runUnderlying66 sizeOf3 (.inr ⟨_,Z,Z⟩) (.inl ⟨Z,Z⟩)) ?_;exact Wp
  refine Dk 2 Z ?_;obtain⟨N,t,d⟩:=YN d;refine DK.wo (x:=.osl 0 (0+Int.toNat 0) (Int.toNat c.2-Int.toNat 0) 1) ?_ ?_
  .refine vX (.osl 0 (0+Int.toNat 0) (Int.toNat c.2-Int.toNat 0) 1) (QdB (l:=c.1) t runUnderlying66 sizeOf3 (.inl ⟨Z,Z⟩) (.inr ⟨_,Z,Z⟩)) ?_;exact Wp
  obtain⟨O,i,d⟩:=YN d;refine DK.op (x:=I ((min N.length ((c.1.length:Int).toNat-c.2.toNat):Nat):Int)) (X1:=[.row 3 1 (List.map (Qe .i64) O)]) ?_ ?_
  .refine vH (QkY (e:=(Qe .i64)) f i runUnderlying66 sizeOf3 (QnY (b:=0) t)) ?_;exact FE Z Wp
  refine DK.done Z Z ?_;refine Et (Qw (s:=7) Z (congrArg (λn=>A.osl 0 0 n 1) (Qem f i))) ?_;refine Et (Qw (s:=35) Z (congrArg (λn=>A.osl 0 0 n 1) (Qem f i))) ?_;refine Et (Qw (s:=39) Z (congrArg (λn=>A.osl 0 0 n 1) (Qem f i))) ?_;refine Et (Qw (s:=42) Z (congrArg (λn=>A.osl 0 0 n 1) (Qem f i))) ?_;exact Go 4 Z (Qv d (Lr [0]))
 exact Gx 1 Z (Ef g (Gc 7 Z (Rt h 4 [0])))
def winC(lo hi v:Int)(k:Nat)(l l':List Int):Option Unit:=
  bif ((0+lo.toNat)==k*v.toNat)&&(hi.toNat-lo.toNat==v.toNat)&&decide (k+1<=Q9)&&(l.length==l'.length)then some ()else none
theorem Qnj{lo hi v:Int}{k:Nat}{l l':List Int}{u:Unit}(h:winC lo hi v k l l'=some u):0+lo.toNat=k*v.toNat/\hi.toNat-lo.toNat=v.toNat/\k+1<=Q9/\l.length=l'.length:=by
  unfold winC at h;cases q:((0+lo.toNat)==k*v.toNat)&&(hi.toNat-lo.toNat==v.toNat)&&decide (k+1<=Q9)&&(l.length==l'.length)with
  |false=>rw[q]at h;cases h
  |true=>
    simp only[XW,Vy,Vr]at q;exact⟨q.1.1.1,q.1.1.2,q.1.2,q.2⟩
def winE(l:List Int)(n c:Nat):Option (List (List Int)):=bif decide (c*n<=l.length)then some (Qho l n c)else none
theorem Qni{l:List Int}{n c:Nat}{r:List (List Int)}(h:winE l n c=some r):c*n<=l.length/\r=Qho l n c:=by
  unfold winE at h;by_cases q:c*n<=l.length
  · simp only[q,decide_true,Vp]at h;exact⟨q,(XZ h).symm⟩
  · simp[q]at h
def F_hj(n:Nat)(b:System)(a:(List Int)×Int×Nat):Option (Ctl ((List Int)×Int×Nat) ((List Int)×Nat)):=
  (bif decide (a.2.1<b.Vertices)then(slc a.1 (IntKind.i64.wrap (a.2.1*b.Vertices)) (IntKind.i64.wrap ((IntKind.i64.wrap (a.2.1+1))*b.Vertices))).bind λf=>(Qby a.1 (IntKind.i64.wrap (a.2.1*b.Vertices)) (IntKind.i64.wrap ((IntKind.i64.wrap (a.2.1+1))*b.Vertices)) a.2.1).bind λg=>(QaX a.1 (IntKind.i64.wrap (a.2.1*b.Vertices)+a.2.1) 0).bind λc=>(mk b.Vertices 0).bind λe=>(F_aj n b.Vertices b.Edges c (IntKind.i64.wrap (a.2.1*b.Vertices)) (IntKind.i64.wrap ((IntKind.i64.wrap (a.2.1+1))*b.Vertices)) e).bind λd=>(winC (IntKind.i64.wrap (a.2.1*b.Vertices)) (IntKind.i64.wrap ((IntKind.i64.wrap (a.2.1+1))*b.Vertices)) b.Vertices a.2.2 d.1 c).bind λ_=>some (.cont (d.1,IntKind.i64.wrap (a.2.1+1),a.2.2+1))else some (.done (a.1,a.2.2)))
def F_cx(n:Nat)(a:System):Option (List (List Int)):=
  (F_cn n [1152921504606846976] (IntKind.i64.wrap (a.Vertices*a.Vertices))).bind λc=>(iter (F_hj n a) n (c,0,0):Option ((List Int)×Nat)).bind λb=>winE b.1 (Int.toNat a.Vertices) b.2
theorem k_cx(n:Nat)(m:System)(r:List (List Int))(h:F_cx n m=some r):
    Csm prog 62 [.agg (System.c m)] [] (λr=>.rsl 1 (List.map (Qn 1 (Qe .i64)) r)) r:=by
 refine Qc func62 Z Z Z ?_;refine G0 15 Z ?_;refine vH (El (xs:=[.const (.int .i64 1152921504606846976)]) (es:=List.map (Qe .i64) [1152921504606846976]) QS Z Z Z Z Z ⟨Z,trivial⟩ Z Z) ?_;refine FE Z (Go 3 Z ?_);refine Et (QfB [(10,_)] Z Z (Qm2.cons Z Ep Qm2.nil) (Ec (Ec (QbP _)))) ?_;refine Cd [] h (k_cn _ _ _) Z λR M h=>FE Z (Go 15 Z (Bd h λy G h=>?_));refine Ct y [2,0] [] (λb=>[(5,.osl 1 0 b.2 1)]) (λb=>[(0,.row 3 1 (List.map (Qe .i64) b.1)),(1,.wins 66 0 (Int.toNat m.Vertices) b.2)]) Zf ?_ (λenv H J=>?_)
 .refine G0 1 Z ?_;refine Lp [0,2,0] [1,3,15] (λd=>[(4,.osl 1 0 d.1.length 1),(5,.osl 2 0 d.2.2 1),(16,I d.2.1)]) (λd=>[(1,.row 3 1 (List.map (Qe .i64) d.1)),(2,.wins 66 1 (Int.toNat m.Vertices) d.2.2)]) G Zf (En (Er (s:=5) (k:=1) (t:=66) (XR Z) Z) (En (Qpr (i:=3) (b:=2) (n:=Int.toNat m.Vertices) Z) (Lr [0,2,3]))) λd N g z=>?_;refine G0 6 Z (Ja Z g (λB g=>?_) (λB g=>?_))
  .refine Gc 2 Z (Qz g ?_);obtain rfl:=Oj z g;exact Gx 1 Z (QW (Lr [1,2]))
  refine Gc 24 Z (Bd g λO E g=>?_);refine vV (x:=(.osl 1 (0+Int.toNat (IntKind.i64.wrap (d.2.1*m.Vertices))) (Int.toNat (IntKind.i64.wrap ((IntKind.i64.wrap (d.2.1+1))*m.Vertices))-Int.toNat (IntKind.i64.wrap (d.2.1*m.Vertices))) 1)) (QkW (l:=d.1) E runUnderlying66 sizeOf3) ?_;refine Go 7 Z (Bd g λP p g=>?_);refine vX (.ptr 1 (Int.toNat (IntKind.i64.wrap (d.2.1*m.Vertices)+d.2.1)*1)) (Jk (l:=d.1) (lo:=IntKind.i64.wrap (d.2.1*m.Vertices)) (hi:=IntKind.i64.wrap ((IntKind.i64.wrap (d.2.1+1))*m.Vertices)) p runUnderlying66 sizeOf3) ?_;refine Bd g λq u g=>?_;refine vU (YP (e:=(Qe .i64)) (k:=1) (f:=0) (Qaz p) u sizeOf3 Z Z) ?_;refine FE Z ?_;refine Et (Qw (s:=4) Z (congrArg (λn=>A.osl 1 0 n 1) (Q1 u))) ?_;refine Go 3 Z ?_;obtain⟨w,F,g⟩:=YN g;refine Jj 4 0 [35,36,37,38] [false,false,false,true] [[],[],[],[]] [[],[3]] [[(0,0),(1,1)],[(0,0),(1,1)],[(0,0)],[(0,1)]] [.agg (System.c m),.osl 1 (0+Int.toNat (IntKind.i64.wrap (d.2.1*m.Vertices))) (Int.toNat (IntKind.i64.wrap ((IntKind.i64.wrap (d.2.1+1))*m.Vertices))-Int.toNat (IntKind.i64.wrap (d.2.1*m.Vertices))) 1,I m.Vertices,.osl 3 0 w.length 1] [[.cells 51 (System.c m),.row 3 1 (List.map (Qe .i64) q),.wins 66 1 (Int.toNat m.Vertices) d.2.2],[.cells 51 (System.c m),.row 3 1 (List.map (Qe .i64) q),.wins 66 1 (Int.toNat m.Vertices) d.2.2,.row 3 1 (List.map (Qe .i64) w)]] ([.cells 51 (System.c m),.row 3 1 (List.map (Qe .i64) q),.wins 66 1 (Int.toNat m.Vertices) d.2.2,.row 3 1 (List.map (Qe .i64) w)]) draws Z Z Z Z Z Z Z ?_ Z ?_
  .refine Qhh.cons (Qb (v0 Z Z) (Qb (v0 Z Z) (Qf))) (Qhh.cons (Qb (v0 Z Z) (Qb (v0 Z Z) (Qf))) (Qhh.cons (Qb (v0 Z Z) (Qf)) (Qhh.cons ?_ (Qhh.nil))));refine Qb ?_ (Qf);refine Om1 Z (sD 2 sN) ?_;refine vH (Qj1 (e:=(Qe .i64)) (zv:=0) (a:=(I 0)) F QS zeroValue3 Eo Z Z Z Z) ?_;exact FE Z Wp
  refine Go 2 Z (Cd [4,1,3] g (k_aj _ _ _ _ _ _ _) Z λQ L g=>FE Z (Go 5 Z ?_));refine vH (Yz (xs:=[.tmp 43]) Qoh Z Z Z Z Z ⟨Z,trivial⟩ Z) ?_;refine FE Z ?_;obtain⟨zW,hW,g⟩:=YN g;obtain⟨hW1,hW2,hW3,hW4⟩:=Qnj hW;refine vH (QmX (i:=2) (j:=5) (b:=1) Qoh runUnderlying56 hW3 hW1 hW2) ?_;refine FE Z ?_;refine Et (Qw (s:=4) Z (congrArg (λn=>A.osl 1 0 n 1) hW4.symm)) ?_;exact Go 8 Z (Qv g (Lr [0,1,6]))
 obtain⟨hc,rfl⟩:=Qni h;exact Gx 1 Z (Ef (En J (Qn0 (s:=5) (i:=1) (b:=0) (l:=y.1) (e:=Qe .i64) hc Z Z Z Z Z)) (Gc 7 Z (Rt (Z:some _=some _) 2 [])))
def F_ad(n:Nat)(a:System):Option ((List (List Int))×(List Int)×Int):=
  (F_am n a).bind λb=>(bif (b != 0)then some ([],[],b)else(F_ak n a).bind λc=>(bif decide (0<(c.length:Int))then some ([],c,151)else(F_cx n a).bind λd=>some (d,[],0)))
theorem k_ad(n:Nat)(a:System)(r:(List (List Int))×(List Int)×Int)(h:F_ad n a=some r):
    C prog 29 [.agg (System.c a)] [] (RQ (λr=>.tup [.rsl 1 (List.map (Qn 1 (Qe .i64)) r.1),.osl 0 0 r.2.1.length 1,I r.2.2]) (λr=>[.row 3 1 (List.map (Qe .i64) r.2.1)]) r):=by
 refine Qc func29 Z Z Z ?_;refine G0 12 Z (Cz [] h (k_am _ _) Z λi e h=>Go 9 Z (Cn Z h (λb h=>?_) (λb h=>?_)))
 .refine Gc 10 Z ?_;obtain rfl:=Oi h;refine⟨[(2,_),(3,_),(4,_)],_,_,?_,QbO Z Z Z Z,Z,Z⟩;refine En (Er (s:=3) (k:=1) (t:=3) (XR Z) Z) ?_;refine En (Qb2 (s:=2) (k:=1) Z) ?_;exact Lr [1]
 refine Gc 6 Z (Cd [] h (k_ak _ _) Z λj f h=>FE Z (Go 10 Z (Cn Z h (λd h=>?_) (λd h=>?_))))
 .refine Gc 10 Z ?_;obtain rfl:=Oi h;refine⟨[(2,_),(3,_),(4,_)],_,_,?_,QbO Z Z Z Z,Z,Z⟩;refine En (Qb2 (s:=2) (k:=1) Z) ?_;exact Lr [1]
 refine Gc 5 Z (Cd [] h (k_cx _ _) Z λl g h=>FE Z (Go 6 Z ?_));obtain rfl:=Oi h;refine⟨[(2,_),(3,_),(4,_)],_,_,?_,QbO Z Z Z Z,Z,Z⟩;refine En (Er (s:=3) (k:=1) (t:=3) (XR Z) Z) ?_;exact Lr [2]
def F_f(n:Nat)(b:Course)(c:List Fact):Option ((List Segment)×(List (List Int))×Int):=
  (F_y n b c).bind λa=>(bif (a.2.2 != 0)then some ([],[],a.2.2)else(F_ad n ({Vertices:=a.1,Edges:=a.2.1:System})).bind λd=>(bif (d.2.2 != 0)then some ([],[],160)else(F_z n b c).bind λe=>some (e.1,d.1,0)))
theorem k_f(n:Nat)(d:Course)(e:List Fact)(r:(List Segment)×(List (List Int))×Int)(h:F_f n d e=some r):
    C prog 22 [.agg (Course.c d),.rsl 57 (List.map Fact.c e)] [] (RQ (λr=>.tup [.agg [.rsl 3 (List.map Segment.c r.1),.rsl 1 (List.map (Qn 1 (Qe .i64)) r.2.1)],I r.2.2]) (λr=>[.cells 58 [.rsl 3 (List.map Segment.c r.1),.rsl 1 (List.map (Qn 1 (Qe .i64)) r.2.1)]]) r):=by
 refine Qc func22 Z Z Z ?_;refine G0 11 Z (Cd [] h (k_y _ _ _) Z λm j h=>FE Z (Go 15 Z (Cn Z h (λf h=>?_) (λf h=>?_))))
 .refine Gc 10 Z ?_;obtain rfl:=Oi h;exact Rx [1] [4,5] Z (Qm Z Z (Qjb.cons (Qj isAgg58 sizeOf58 Z Z Z) (Qjb.cons Qd0.tmp Qjb.nil))) ⟨Z,Z⟩
 refine Gc 5 Z (Cd [] h (k_ad _ _) Z λa k h=>FE Z (Go 16 Z (Cn Z h (λg h=>?_) (λg h=>?_))))
 .refine Gc 9 Z ?_;obtain rfl:=Oi h;exact Rx [1] [4,5] Z (Qm Z Z (Qjb.cons (Qj isAgg58 sizeOf58 Z Z Z) (Qjb.cons Qd0.tmp Qjb.nil))) ⟨Z,Z⟩
 refine Gc 6 Z (Cd [] h (k_z _ _ _) Z λb l h=>FE Z (Go 17 Z ?_));obtain rfl:=Oi h;refine⟨[(4,.ptr 0 0),(5,I ((b.1,a.1,0).2.2))],[.cells 58 [.rsl 3 (List.map Segment.c ((b.1,a.1,0).1)),.rsl 1 (List.map (Qn 1 (Qe .i64)) ((b.1,a.1,0).2.1))]],_,?_,Qm Z Z (Qjb.cons (Qj isAgg58 sizeOf58 Z Z Z) (Qjb.cons Qd0.tmp Qjb.nil)),Z,Z⟩;refine En (QfB (i:=5) [] Z Z Qm2.nil (Ec (FzH.cells (Ed Ep (Ek _)) (Ec (Ec (Ec (Ec (QbP _)))))))) ?_;exact Lr [1]
def F_ac(n:Nat)(a:Int)(b:Int)(c:Int)(d:Int):Option Unit:=
  some ()
theorem Qko(n:Nat)(a:Int)(b:Int)(d:Int)(e:Int)(r:Unit)(h:F_ac n a b d e=some r):
    C prog 33 [I a,I b,I d,I e] [] (RQ (λ_=>.agg (Fact.c ({Ul with No:=a,Kind:=3,Beacon:={Mat:=1,Epoch:=0,Local:=b,True:=d,Err:=e:Beacon}:Fact}))) (λ_=>[.cells 96 (Fact.c ({Ul with No:=a,Kind:=3,Beacon:={Mat:=1,Epoch:=0,Local:=b,True:=d,Err:=e:Beacon}:Fact}))]) r):=by
 refine Qc func33 Z Z Z ?_;refine G0 17 Z ?_;obtain rfl:=Oi h;exact Rx [0] [8] Z (YY Z (Qj isAgg96 sizeOf96 Z Z Z)) ⟨Z,Z⟩
def F_ba(n:Nat)(a:Int):Option Bool:=
  ((bif decide (a<(-2199023255552))then some true else some (decide (2199023255552<a))):Option Bool).bind λb2=>some b2
theorem k_ba(n:Nat)(b:Int)(r:Bool)(h:F_ba n b=some r):
    Csm prog 58 [I b] [] (λr=>.bool r) r:=by
 refine Qc func58 Z Z Z ?_;refine G0 6 Z (Bd h λb2 a h=>?_);refine Ct b2 [] [] (λb2=>[(2,.bool b2)]) Ze Zf ?_ (λenv H c=>?_)
 .refine G0 4 Z (Is 5 a Z (λd a=>?_) (λd a=>?_))
  .exact Go 5 Z (Cl a [])
  .exact Go 5 Z (Cl a [])
 exact Gx 1 Z (Ef c (Gc 1 Z (Rt h 2 [])))
def F_id(n:Nat)(b:List Int)(a:Int):Option (Ctl Int (Ctl Unit Int)):=
  (bif decide (a<(b.length:Int))then(idx b a).bind λc=>(F_ba n c).bind λd=>(bif d then some (.done (.done a))else some (.cont (IntKind.i64.wrap (a+1))))else some (.done (.cont ())))
def F_ff(n:Nat)(c:List Int):Option Int:=
  (iter (F_id n c) n 0:Option (Ctl Unit Int)).bind λb=>match b with|.cont a=>(some (-1))|.done a=>some a
theorem k_ff(n:Nat)(a:List Int)(r:Int)(h:F_ff n a=some r):
    Csm prog 99 [.rsl 1 (List.map (Qe .i64) a),.fn (.func 58) [] []] [] (λr=>I r) r:=
 QU (el:=λx=>I x) (g:=λx=>F_ba n x) func99 Z Z Z runUnderlying66 sizeOf3 (λ_ _ _ _ b c=>Ey b isAgg3 c Pts.rp) call58 (λ_ _ h=>k_ba _ _ _ h) h
def F_bc(n:Nat)(a:List Int):Option Bool:=
  (F_ff n a).bind λb=>some (decide (0<=b))
theorem k_bc(n:Nat)(a:List Int)(r:Bool)(h:F_bc n a=some r):
    Csm prog 57 [.rsl 1 (List.map (Qe .i64) a),.fn (.func 58) [] []] [] (λr=>.bool r) r:=by
 refine Qc func57 Z Z Z ?_;exact G0 9 Z (Cz [] h (k_ff _ _) Z λc b h=>Go 5 Z (Rt h 4 []))
end Go.Sw
