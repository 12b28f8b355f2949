/- What the functions compute that ProtestsOpen reaches, and that their calls refine it (part 2 of 3). -/
import Derived.Test.YthihlfoplokmiaaGreatDoorW21Op1
set_option linter.unusedVariables false
set_option linter.unusedSimpArgs false
set_option maxRecDepth 100000
set_option maxHeartbeats 4000000
namespace Go.Sw
open Go.Proofs Tryz
def Q_facts_open_rxk(b:Fact)(d:Int):U_facts_open_rxk->Go.Sw.A->Qc->Prop
  |.c0 x,a,H=>a=.tup [.agg [.osl 2 0 8 3,.fn (.func 167) [] []],.bool true]/\H=[.cells 68 (Fact.c b),.cells 3 [I d],.rowr 168 3 [[.ptr 0 4,I 1,I 9999],[.ptr 0 5,I 0,I 7],[.ptr 0 6,I 0,I 31],[.ptr 0 7,I (-1099511627776),I 1099511627776],[.ptr 0 8,I 0,I 120],[.ptr 0 9,I 0,I 1048576],[.ptr 0 10,I 0,I 9999],[.ptr 0 11,I 0,I 1048576]],.cells 158 [.osl 2 0 8 3,.fn (.func 167) [] []]]
  |.c1 x,a,H=>a=.tup [.agg [.osl 2 0 4 3,.fn (.func 167) [] []],.bool true]/\H=[.cells 68 (Fact.c b),.cells 3 [I d],.rowr 168 3 [[.ptr 0 12,I 0,I 39],[.ptr 0 13,I 0,I 255],[.ptr 0 14,I 0,I 1048576],[.ptr 0 15,I (-1099511627776),I 1099511627776]],.cells 158 [.osl 2 0 4 3,.fn (.func 167) [] []]]
  |.c2 x,a,H=>a=.tup [.agg [.osl 2 0 5 3,.fn (.func 167) [] []],.bool true]/\H=[.cells 68 (Fact.c b),.cells 3 [I d],.rowr 168 3 [[.ptr 0 16,I 0,I 39],[.ptr 0 17,I 0,I 255],[.ptr 0 18,I (-1099511627776),I 1099511627776],[.ptr 0 19,I (-1099511627776),I 1099511627776],[.ptr 0 20,I 0,I 1099511627776]],.cells 158 [.osl 2 0 5 3,.fn (.func 167) [] []]]
  |.c3 x,a,H=>a=.tup [.agg [.osl 2 0 8 3,.fn (.func 168) [] [.ptr 3 0]],.bool true]/\H=[.cells 68 (Fact.c b),.cells 3 [I d],.rowr 168 3 [[.ptr 0 21,I 0,I 39],[.ptr 0 22,I 0,I 255],[.ptr 0 23,I (-1099511627776),I 1099511627776],[.ptr 0 24,I 0,I 39],[.ptr 0 25,I 0,I 255],[.ptr 0 26,I (-1099511627776),I 1099511627776],[.ptr 0 27,I (-1099511627776),I 1099511627776],[.ptr 0 28,I (-1099511627776),I 1099511627776]],.cells 250 [.ptr 0 21],.cells 158 [.osl 2 0 8 3,.fn (.func 168) [] [.ptr 3 0]]]
  |.c4 x,a,H=>a=.tup [.agg [.osl 2 0 4 3,.fn (.func 169) [] [.ptr 3 0]],.bool true]/\H=[.cells 68 (Fact.c b),.cells 3 [I d],.rowr 168 3 [[.ptr 0 29,I 1,I 9999],[.ptr 0 30,I 0,I 255],[.ptr 0 31,I (-1099511627776),I 1099511627776],[.ptr 0 32,I (-1099511627776),I 1099511627776]],.cells 251 [.ptr 0 29],.cells 158 [.osl 2 0 4 3,.fn (.func 169) [] [.ptr 3 0]]]
  |.c5 x,a,H=>a=.tup [.agg [.osl 2 0 4 3,.fn (.func 170) [] [.ptr 3 0]],.bool true]/\H=[.cells 68 (Fact.c b),.cells 3 [I d],.rowr 168 3 [[.ptr 0 33,I 0,I 39],[.ptr 0 34,I 0,I 255],[.ptr 0 35,I (-1099511627776),I 1099511627776],[.ptr 0 36,I (-1099511627776),I 1099511627776]],.cells 252 [.ptr 0 33],.cells 158 [.osl 2 0 4 3,.fn (.func 170) [] [.ptr 3 0]]]
  |.c6 x,a,H=>a=.tup [.agg [.osl 2 0 2 3,.fn (.func 171) [] [.ptr 3 0]],.bool true]/\H=[.cells 68 (Fact.c b),.cells 3 [I d],.rowr 168 3 [[.ptr 0 37,I 1,I 9999],[.ptr 0 38,I 1,I 9999]],.cells 253 [.ptr 0 37],.cells 158 [.osl 2 0 2 3,.fn (.func 171) [] [.ptr 3 0]]]
  |.c7 x,a,H=>a=.tup [.agg [.osl 2 0 4 3,.fn (.func 167) [] []],.bool true]/\H=[.cells 68 (Fact.c b),.cells 3 [I d],.rowr 168 3 [[.ptr 0 39,I 1,I 1048576],[.ptr 0 40,I 1,I 9999],[.ptr 0 41,I 0,I 31],[.ptr 0 42,I 0,I 255]],.cells 158 [.osl 2 0 4 3,.fn (.func 167) [] []]]
  |.c8 x,a,H=>a=.tup [.agg [.osl 2 0 4 3,.fn (.func 167) [] []],.bool true]/\H=[.cells 68 (Fact.c b),.cells 3 [I d],.rowr 168 3 [[.ptr 0 43,I 1,I 1048576],[.ptr 0 44,I 0,I 9999],[.ptr 0 45,I 0,I 1125899906842624],[.ptr 0 46,I 0,I 1]],.cells 158 [.osl 2 0 4 3,.fn (.func 167) [] []]]
  |.c9 x,a,H=>a=.tup [.agg [.osl 2 0 6 3,.fn (.func 167) [] []],.bool true]/\H=[.cells 68 (Fact.c b),.cells 3 [I d],.rowr 168 3 [[.ptr 0 47,I 1,I 1048576],[.ptr 0 48,I 1,I 2],[.ptr 0 49,I 1,I 5],[.ptr 0 50,I x.1,I x.2.1],[.ptr 0 51,I x.2.2.1,I x.2.2.2.1],[.ptr 0 52,I x.2.2.2.2.1,I x.2.2.2.2.2]],.cells 158 [.osl 2 0 6 3,.fn (.func 167) [] []]]
  |.c10 x,a,H=>a=.tup [.agg [.osl 2 0 2 3,.fn (.func 167) [] []],.bool true]/\H=[.cells 68 (Fact.c b),.cells 3 [I d],.rowr 168 3 [[.ptr 0 53,I 1,I 1048576],[.ptr 1 0,I 0,I 1]],.cells 158 [.osl 2 0 2 3,.fn (.func 167) [] []]]
  |.c11 x,a,H=>a=.tup [.agg [.nils,.fn (.func 167) [] []],.bool true]/\H=[.cells 68 (Fact.c b),.cells 3 [I d],.cells 158 [.nils,.fn (.func 167) [] []]]
  |.c12 x,a,H=>a=.tup [.agg [.osl 2 0 2 3,.fn (.func 167) [] []],.bool true]/\H=[.cells 68 (Fact.c b),.cells 3 [I d],.rowr 168 3 [[.ptr 0 55,I 0,I 31],[.ptr 0 56,I 1,I 1048576]],.cells 158 [.osl 2 0 2 3,.fn (.func 167) [] []]]
  |.c13 x,a,H=>a=.tup [.agg [.nils,.nilf],.bool false]/\H=[.cells 68 (Fact.c b),.cells 3 [I d],.cells 158 [.nils,.nilf]]
def F_ag(n:Nat)(a:Fact)(d:Int):Option U_facts_open_rxk:=
  (bif (a.Kind==1)then some (U_facts_open_rxk.c0 ())else(bif (a.Kind==2)then some (U_facts_open_rxk.c1 ())else(bif (a.Kind==3)then some (U_facts_open_rxk.c2 ())else(bif (a.Kind==4)then some (U_facts_open_rxk.c3 ())else(bif (a.Kind==5)then some (U_facts_open_rxk.c4 ())else(bif (a.Kind==6)then some (U_facts_open_rxk.c5 ())else(bif (a.Kind==7)then some (U_facts_open_rxk.c6 ())else(bif (a.Kind==8)then some (U_facts_open_rxk.c7 ())else(bif (a.Kind==9)then some (U_facts_open_rxk.c8 ())else(bif (a.Kind==10)then((bif (a.Ruling.Kind==1)then some (a.Ruling.Kind==1)else some (a.Ruling.Kind==2)):Option Bool).bind λc=>((bif c then some ({least:=0,most:=0:Ua},{least:=0,most:=0:Ua},{least:=0,most:=0:Ua})else(bif (a.Ruling.Kind==3)then some ({least:=1,most:=9999:Ua},{least:=0,most:=255:Ua},{least:=1,most:=1099511627776:Ua})else(bif (a.Ruling.Kind==4)then some ({least:=1,most:=9999:Ua},{least:=0,most:=255:Ua},{least:=1,most:=64:Ua})else some ({least:=1,most:=9999:Ua},{least:=0,most:=255:Ua},{least:=0,most:=0:Ua})))):Option (Ua×Ua×Ua)).bind λb=>some (U_facts_open_rxk.c9 (b.1.least,b.1.most,b.2.1.least,b.2.1.most,b.2.2.least,b.2.2.most))else(bif (a.Kind==11)then some (U_facts_open_rxk.c10 ())else(bif (a.Kind==12)then some (U_facts_open_rxk.c11 ())else(bif (a.Kind==13)then some (U_facts_open_rxk.c12 ())else some (U_facts_open_rxk.c13 ()))))))))))))))
theorem k_ag(n:Nat)(b:Fact)(d:Int)(r:U_facts_open_rxk)(h:F_ag n b d=some r):
    C prog 86 [.ptr 0 0,.ptr 1 0] [.cells 68 (Fact.c b),.cells 3 [I d]] (Q_facts_open_rxk b d r):=by
 refine Qb func86 Z Z Z ?_;refine G0 22 Z (Cn Z h (λu h=>?_) (λu h=>?_))
 .refine Gc 9 Z (DSs 40 Z (D 40 Z (Eh Z ?_)));refine vH (YF (xs:=[.tmp 32,.tmp 37,.tmp 42,.tmp 47,.tmp 52,.tmp 57,.tmp 62,.tmp 67]) Ji Z Z Z Z Z ⟨Z,Z,Z,Z,Z,Z,Z,Z,trivial⟩ Z) ?_;refine FE Z (Go 8 Z ?_);obtain rfl:=Oi h;exact Rx [0,1,3,2] [4,5] Z (QQ Z Z (QjC.cons (QF isAgg158 sizeOf158 Z Z Z) (QjC.cons Qc9.tmp QjC.nil))) ⟨Z,Z⟩
 refine Gc 6 Z (Cn Z h (λw h=>?_) (λw h=>?_))
 .refine Gc 9 Z (DSs 20 Z (D 20 Z (Eh Z ?_)));refine vH (YF (xs:=[.tmp 79,.tmp 84,.tmp 89,.tmp 94]) Ji Z Z Z Z Z ⟨Z,Z,Z,Z,trivial⟩ Z) ?_;refine FE Z (Go 8 Z ?_);obtain rfl:=Oi h;exact Rx [0,1,3,2] [4,5] Z (QQ Z Z (QjC.cons (QF isAgg158 sizeOf158 Z Z Z) (QjC.cons Qc9.tmp QjC.nil))) ⟨Z,Z⟩
 refine Gc 6 Z (Cn Z h (λx h=>?_) (λx h=>?_))
 .refine Gc 9 Z (DSs 25 Z (D 25 Z (Eh Z ?_)));refine vH (YF (xs:=[.tmp 106,.tmp 111,.tmp 116,.tmp 121,.tmp 126]) Ji Z Z Z Z Z ⟨Z,Z,Z,Z,Z,trivial⟩ Z) ?_;refine FE Z (Go 8 Z ?_);obtain rfl:=Oi h;exact Rx [0,1,3,2] [4,5] Z (QQ Z Z (QjC.cons (QF isAgg158 sizeOf158 Z Z Z) (QjC.cons Qc9.tmp QjC.nil))) ⟨Z,Z⟩
 refine Gc 6 Z (Cn Z h (λy h=>?_) (λy h=>?_))
 .refine Gc 10 Z (DAs 42 40 [0,0,0,0,0,0,0,0,0,0,0,0,0,0,0,0,0,0,0,0,0,0,0,0,0,0,0,0,0,0,0,0,0,0,0,0,0,0,0,0,1,3] (by kernel_rfl) (Da 40 Z ?_));refine Qb4 (YF (xs:=[.tmp 138,.tmp 143,.tmp 148,.tmp 153,.tmp 158,.tmp 163,.tmp 168,.tmp 173]) Ji Z Z Z Z Z ⟨Z,Z,Z,Z,Z,Z,Z,Z,trivial⟩ Z) Z Z (Db 1 Z (DB.done Z (Go 8 Z ?_)));obtain rfl:=Oi h;exact Rx [0,1,4,3,2] [4,5] Z (QQ Z Z (QjC.cons (QF isAgg158 sizeOf158 Z Z Z) (QjC.cons Qc9.tmp QjC.nil))) ⟨Z,Z⟩
 refine Gc 6 Z (Cn Z h (λz h=>?_) (λz h=>?_))
 .refine Gc 10 Z (DAs 22 20 [0,0,0,0,0,0,0,0,0,0,0,0,0,0,0,0,0,0,0,0,1,3] (by kernel_rfl) (Da 20 Z ?_));refine Qb4 (YF (xs:=[.tmp 186,.tmp 191,.tmp 196,.tmp 201]) Ji Z Z Z Z Z ⟨Z,Z,Z,Z,trivial⟩ Z) Z Z (Db 1 Z (DB.done Z (Go 8 Z ?_)));obtain rfl:=Oi h;exact Rx [0,1,4,3,2] [4,5] Z (QQ Z Z (QjC.cons (QF isAgg158 sizeOf158 Z Z Z) (QjC.cons Qc9.tmp QjC.nil))) ⟨Z,Z⟩
 refine Gc 6 Z (Cn Z h (λB h=>?_) (λB h=>?_))
 .refine Gc 10 Z (DAs 22 20 [0,0,0,0,0,0,0,0,0,0,0,0,0,0,0,0,0,0,0,0,1,3] (by kernel_rfl) (Da 20 Z ?_));refine Qb4 (YF (xs:=[.tmp 214,.tmp 219,.tmp 224,.tmp 229]) Ji Z Z Z Z Z ⟨Z,Z,Z,Z,trivial⟩ Z) Z Z (Db 1 Z (DB.done Z (Go 8 Z ?_)));obtain rfl:=Oi h;exact Rx [0,1,4,3,2] [4,5] Z (QQ Z Z (QjC.cons (QF isAgg158 sizeOf158 Z Z Z) (QjC.cons Qc9.tmp QjC.nil))) ⟨Z,Z⟩
 refine Gc 6 Z (Cn Z h (λE h=>?_) (λE h=>?_))
 .refine Gc 10 Z (DAs 12 10 [0,0,0,0,0,0,0,0,0,0,1,3] (by kernel_rfl) (Da 10 Z ?_));refine Qb4 (YF (xs:=[.tmp 242,.tmp 247]) Ji Z Z Z Z Z ⟨Z,Z,trivial⟩ Z) Z Z (Db 1 Z (DB.done Z (Go 8 Z ?_)));obtain rfl:=Oi h;exact Rx [0,1,4,3,2] [4,5] Z (QQ Z Z (QjC.cons (QF isAgg158 sizeOf158 Z Z Z) (QjC.cons Qc9.tmp QjC.nil))) ⟨Z,Z⟩
 refine Gc 6 Z (Cn Z h (λF h=>?_) (λF h=>?_))
 .refine Gc 9 Z (DSs 20 Z (D 20 Z (Eh Z ?_)));refine vH (YF (xs:=[.tmp 260,.tmp 265,.tmp 270,.tmp 275]) Ji Z Z Z Z Z ⟨Z,Z,Z,Z,trivial⟩ Z) ?_;refine FE Z (Go 8 Z ?_);obtain rfl:=Oi h;exact Rx [0,1,3,2] [4,5] Z (QQ Z Z (QjC.cons (QF isAgg158 sizeOf158 Z Z Z) (QjC.cons Qc9.tmp QjC.nil))) ⟨Z,Z⟩
 refine Gc 6 Z (Cn Z h (λG h=>?_) (λG h=>?_))
 .refine Gc 9 Z (DSs 20 Z (D 20 Z (Eh Z ?_)));refine vH (YF (xs:=[.tmp 287,.tmp 292,.tmp 297,.tmp 302]) Ji Z Z Z Z Z ⟨Z,Z,Z,Z,trivial⟩ Z) ?_;refine FE Z (Go 8 Z ?_);obtain rfl:=Oi h;exact Rx [0,1,3,2] [4,5] Z (QQ Z Z (QjC.cons (QF isAgg158 sizeOf158 Z Z Z) (QjC.cons Qc9.tmp QjC.nil))) ⟨Z,Z⟩
 refine Gc 6 Z (Cn Z h (λj h=>?_) (λj h=>?_))
 .refine Gc 9 Z ?_;refine QbZ 8 3 [310,311,312,16,17,18,1000006,1000007] [false,false,false,true,true,true,true,true] [[],[],[],[],[],[],[3,4,5],[3,4,5,6]] [[],[3],[4],[5],[3,4],[3,5],[4,5],[3,4,5],[3,4,5,6],[3,4,5,6,7]] [[(0,0),(1,1),(2,2),(3,3),(4,4),(5,5),(6,6),(7,7)],[(0,0),(1,1),(2,2),(3,3),(4,4),(5,5),(6,6),(7,7),(8,8)],[(0,0),(1,1),(2,2),(3,3),(4,4),(5,5),(6,6),(7,7),(8,8),(9,9)],[(0,1),(2,4),(3,5),(6,7)],[(0,2),(1,4),(3,6),(5,7)],[(0,3),(1,5),(2,6),(4,7)],[(7,8)],[(8,9)]] [.agg [I 1,I 9999],.agg [I 0,I 255],.agg [I 0,I 0],.ptr 3 0,.ptr 4 0,.ptr 5 0,.any,.any] [[.cells 68 (Fact.c b),.cells 3 [I d],.cells 158 [.nils,.nilf],.dead,.dead,.dead],[.cells 68 (Fact.c b),.cells 3 [I d],.cells 158 [.nils,.nilf],.cells 166 [I 0,I 0],.dead,.dead],[.cells 68 (Fact.c b),.cells 3 [I d],.cells 158 [.nils,.nilf],.dead,.cells 166 [I 0,I 0],.dead],[.cells 68 (Fact.c b),.cells 3 [I d],.cells 158 [.nils,.nilf],.dead,.dead,.cells 166 [I 0,I 0]],[.cells 68 (Fact.c b),.cells 3 [I d],.cells 158 [.nils,.nilf],.cells 166 [I 0,I 0],.cells 166 [I 0,I 0],.dead],[.cells 68 (Fact.c b),.cells 3 [I d],.cells 158 [.nils,.nilf],.cells 166 [I 0,I 0],.dead,.cells 166 [I 0,I 0]],[.cells 68 (Fact.c b),.cells 3 [I d],.cells 158 [.nils,.nilf],.dead,.cells 166 [I 0,I 0],.cells 166 [I 0,I 0]],[.cells 68 (Fact.c b),.cells 3 [I d],.cells 158 [.nils,.nilf],.cells 166 [I 0,I 0],.cells 166 [I 0,I 0],.cells 166 [I 0,I 0]],[.cells 68 (Fact.c b),.cells 3 [I d],.cells 158 [.nils,.nilf],.cells 166 [I 1,I 9999],.cells 166 [I 0,I 0],.cells 166 [I 0,I 0]],[.cells 68 (Fact.c b),.cells 3 [I d],.cells 158 [.nils,.nilf],.cells 166 [I 1,I 9999],.cells 166 [I 0,I 255],.cells 166 [I 0,I 0]]] ([.cells 68 (Fact.c b),.cells 3 [I d],.cells 158 [.nils,.nilf],.cells 166 [I 1,I 9999],.cells 166 [I 0,I 255],.cells 166 [I 0,I 0]]) draws Z Z Z Z Z Z Z ?_ Z ?_
  .refine Qhp.cons (Qf (v0 Z Z) (Qf (v0 Z Z) (Qf (v0 Z Z) (Qf (v0 Z Z) (Qf (v0 Z Z) (Qf (v0 Z Z) (Qf (v0 Z Z) (Qf (v0 Z Z) (Q3))))))))) (Qhp.cons (Qf (v0 Z Z) (Qf (v0 Z Z) (Qf (v0 Z Z) (Qf (v0 Z Z) (Qf (v0 Z Z) (Qf (v0 Z Z) (Qf (v0 Z Z) (Qf (v0 Z Z) (Qf (v0 Z Z) (Q3)))))))))) (Qhp.cons (Qf (v0 Z Z) (Qf (v0 Z Z) (Qf (v0 Z Z) (Qf (v0 Z Z) (Qf (v0 Z Z) (Qf (v0 Z Z) (Qf (v0 Z Z) (Qf (v0 Z Z) (Qf (v0 Z Z) (Qf (v0 Z Z) (Q3))))))))))) (Qhp.cons ?_ (Qhp.cons ?_ (Qhp.cons ?_ (Qhp.cons ?_ (Qhp.cons ?_ (Qhp.nil))))))))
   .refine Qf ?_ (Qf ?_ (Qf ?_ (Qf ?_ (Q3))))
    .exact JA.alloc _ 16 166 3 _ Z Z Z Z Z Z Z (OpZ.alloc (v:=(.agg [I 0,I 0])) zeroValue166 (zrC Z)) Z
    .exact JA.alloc _ 16 166 3 _ Z Z Z Z Z Z Z (OpZ.alloc (v:=(.agg [I 0,I 0])) zeroValue166 (zrC Z)) Z
    .exact JA.alloc _ 16 166 3 _ Z Z Z Z Z Z Z (OpZ.alloc (v:=(.agg [I 0,I 0])) zeroValue166 (zrC Z)) Z
    .exact JA.alloc _ 16 166 3 _ Z Z Z Z Z Z Z (OpZ.alloc (v:=(.agg [I 0,I 0])) zeroValue166 (zrC Z)) Z
   .refine Qf ?_ (Qf ?_ (Qf ?_ (Qf ?_ (Q3))))
    .exact JA.alloc _ 17 166 4 _ Z Z Z Z Z Z Z (OpZ.alloc (v:=(.agg [I 0,I 0])) zeroValue166 (zrC Z)) Z
    .exact JA.alloc _ 17 166 4 _ Z Z Z Z Z Z Z (OpZ.alloc (v:=(.agg [I 0,I 0])) zeroValue166 (zrC Z)) Z
    .exact JA.alloc _ 17 166 4 _ Z Z Z Z Z Z Z (OpZ.alloc (v:=(.agg [I 0,I 0])) zeroValue166 (zrC Z)) Z
    .exact JA.alloc _ 17 166 4 _ Z Z Z Z Z Z Z (OpZ.alloc (v:=(.agg [I 0,I 0])) zeroValue166 (zrC Z)) Z
   .refine Qf ?_ (Qf ?_ (Qf ?_ (Qf ?_ (Q3))))
    .exact JA.alloc _ 18 166 5 _ Z Z Z Z Z Z Z (OpZ.alloc (v:=(.agg [I 0,I 0])) zeroValue166 (zrC Z)) Z
    .exact JA.alloc _ 18 166 5 _ Z Z Z Z Z Z Z (OpZ.alloc (v:=(.agg [I 0,I 0])) zeroValue166 (zrC Z)) Z
    .exact JA.alloc _ 18 166 5 _ Z Z Z Z Z Z Z (OpZ.alloc (v:=(.agg [I 0,I 0])) zeroValue166 (zrC Z)) Z
    .exact JA.alloc _ 18 166 5 _ Z Z Z Z Z Z Z (OpZ.alloc (v:=(.agg [I 0,I 0])) zeroValue166 (zrC Z)) Z
   .refine Qf ?_ (Q3)
    .refine Om2 Z (sD 3 (sD 0 sN)) ?_;refine vU (Ex Z Z Z sizeOf166 Z Z Z Z Z Z Z) ?_;exact FE Z Wp
   .refine Qf ?_ (Q3)
    .refine Om2 Z (sD 4 (sD 1 sN)) ?_;refine vU (Ex Z Z Z sizeOf166 Z Z Z Z Z Z Z) ?_;exact FE Z Wp
  refine Go 20 Z (Bd h λg e h=>?_);refine Ct g [0,1,2,3,4,5] [4,15,16,17,18,316] (λg=>[(317,.bool g)]) Ze Zf ?_ (λenv H i=>?_)
  .refine G0 0 Z (Cn Z e (λk e=>?_) (λk e=>?_))
   .exact Gc 1 Z (Cl e [0,1,2,3,4,5])
   exact Gc 4 Z (Cl e [0,1,2,3,4,5])
  refine Gx 1 Z (Ef i (Bd h λf a h=>?_));refine Ct f [0,1,2,3,4,5] [4,15,16,17,18] Ze (λf=>[(3,.cells 166 (Ua.c f.1)),(4,.cells 166 (Ua.c f.2.1)),(5,.cells 166 (Ua.c f.2.2))]) Zf ?_ (λenv H i=>?_)
  .refine G0 0 Z (Cn Z a (λl a=>?_) (λl a=>?_))
   .exact Gc 6 Z (Cl a [0,1,2,3,4,5])
   refine Gc 6 Z (Cn Z a (λm a=>?_) (λm a=>?_))
   .exact Gc 4 Z (Cl a [0,1,2,3,4,5])
   refine Gc 6 Z (Cn Z a (λp a=>?_) (λp a=>?_))
   .exact Gc 4 Z (Cl a [0,1,2,3,4,5])
   exact Gc 1 Z (Cl a [0,1,2,3,4,5])
  refine Gx 2 Z (Ef i (Gc 1 Z (DSs 30 Z (D 30 Z (Eh Z ?_)))));refine vH (YF (xs:=[.tmp 332,.tmp 337,.tmp 342,.tmp 347,.tmp 352,.tmp 357]) Ji Z Z Z Z Z ⟨Z,Z,Z,Z,Z,Z,trivial⟩ Z) ?_;refine FE Z (Go 8 Z ?_);obtain rfl:=Oi h;exact Rx [0,1,6,2] [4,5] Z (QQ Z Z (QjC.cons (QF isAgg158 sizeOf158 Z Z Z) (QjC.cons Qc9.tmp QjC.nil))) ⟨Z,Z⟩
 refine Gc 6 Z (Cn Z h (λq h=>?_) (λq h=>?_))
 .refine Gc 1 Z (DSs 9 Z (D 9 Z (Eh Z ?_)));refine vH (YF (xs:=[.tmp 367,.tmp 370]) Ji Z Z Z Z Z ⟨Z,Z,trivial⟩ Z) ?_;refine FE Z (Go 8 Z ?_);obtain rfl:=Oi h;exact Rx [0,1,3,2] [4,5] Z (QQ Z Z (QjC.cons (QF isAgg158 sizeOf158 Z Z Z) (QjC.cons Qc9.tmp QjC.nil))) ⟨Z,Z⟩
 refine Gc 6 Z (Cn Z h (λs h=>?_) (λs h=>?_))
 .refine Gc 10 Z ?_;obtain rfl:=Oi h;exact Rx [0,1,2] [4,5] Z (QQ Z Z (QjC.cons (QF isAgg158 sizeOf158 Z Z Z) (QjC.cons Qc9.tmp QjC.nil))) ⟨Z,Z⟩
 refine Gc 6 Z (Cn Z h (λt h=>?_) (λt h=>?_))
 .refine Gc 1 Z (DSs 12 Z (D 12 Z (Eh Z ?_)));refine vH (YF (xs:=[.tmp 383,.tmp 389]) Ji Z Z Z Z Z ⟨Z,Z,trivial⟩ Z) ?_;refine FE Z (Go 8 Z ?_);obtain rfl:=Oi h;exact Rx [0,1,3,2] [4,5] Z (QQ Z Z (QjC.cons (QF isAgg158 sizeOf158 Z Z Z) (QjC.cons Qc9.tmp QjC.nil))) ⟨Z,Z⟩
 refine Gc 11 Z ?_;obtain rfl:=Oi h;exact Rx [0,1,2] [4,5] Z (QQ Z Z (QjC.cons (QF isAgg158 sizeOf158 Z Z Z) (QjC.cons Qc9.tmp QjC.nil))) ⟨Z,Z⟩
def F_b(n:Nat):Option Unit:=
  some ()
theorem k_b(n:Nat)(r:Unit)(h:F_b n=some r):
    Csm prog 167 [] [] (λ_=>.bool true) r:=by
 refine Qb func167 Z Z Z ?_;exact G0 11 Z (Rt h 0 [])
def F_fj(n:Nat)(a:Fact):Option Unit:=
  some ()
theorem k_fj(n:Nat)(a:Fact)(r:Unit)(h:F_fj n a=some r):
    Csm prog 168 [.ptr 0 0] [.cells 250 [.ptr 1 21],.cells 68 (Fact.c a)] (λ_=>.bool (decide (a.Sync.Min<=a.Sync.Max))) r:=by
 refine Qb func168 Z Z Z ?_;exact G0 6 Z (DSs 8 Z (D 8 Z (Eh Z (Go 5 Z (Rt h 1 [0,1])))))
def F_ds(n:Nat)(a:Fact):Option Unit:=
  some ()
theorem k_ds(n:Nat)(a:Fact)(r:Unit)(h:F_ds n a=some r):
    Csm prog 169 [.ptr 0 0] [.cells 251 [.ptr 1 29],.cells 68 (Fact.c a)] (λ_=>.bool (decide (a.Hand.Lo<=a.Hand.Hi))) r:=by
 refine Qb func169 Z Z Z ?_;exact G0 6 Z (DSs 8 Z (D 8 Z (Eh Z (Go 5 Z (Rt h 1 [0,1])))))
def F_da(n:Nat)(a:Fact):Option Unit:=
  some ()
theorem k_da(n:Nat)(a:Fact)(r:Unit)(h:F_da n a=some r):
    Csm prog 170 [.ptr 0 0] [.cells 252 [.ptr 1 33],.cells 68 (Fact.c a)] (λ_=>.bool (decide (a.Silence.Lo<=a.Silence.Hi))) r:=by
 refine Qb func170 Z Z Z ?_;exact G0 6 Z (DSs 8 Z (D 8 Z (Eh Z (Go 5 Z (Rt h 1 [0,1])))))
def F_eq(n:Nat)(a:Fact):Option Unit:=
  some ()
theorem k_eq(n:Nat)(a:Fact)(r:Unit)(h:F_eq n a=some r):
    Csm prog 171 [.ptr 0 0] [.cells 253 [.ptr 1 37],.cells 68 (Fact.c a)] (λ_=>.bool (decide (a.Pair.A<a.Pair.B))) r:=by
 refine Qb func171 Z Z Z ?_;exact G0 6 Z (DSs 8 Z (D 8 Z (Eh Z (Go 5 Z (Rt h 1 [0,1])))))
def F_ah(n:Nat)(a:Fact):Option Unit:=
  some ()
theorem k_ah(n:Nat)(a:Fact)(r:Unit)(h:F_ah n a=some r):
    C prog 88 [.ptr 0 0] [.cells 68 (Fact.c a)] (RQ (λ_=>.osl 1 0 4 3) (λ_=>[.cells 68 (Fact.c a),.rowr 168 3 [[.ptr 0 3,I 1,I 13],[.ptr 0 0,I 0,I 31],[.ptr 0 1,I 1,I 1048576],[.ptr 0 2,I 0,I 1099511627776]]]) r):=by
 refine Qb func88 Z Z Z ?_;refine G0 6 Z (DSs 20 Z (D 20 Z (Eh Z ?_)));refine vH (YF (xs:=[.tmp 7,.tmp 12,.tmp 17,.tmp 22]) Ji Z Z Z Z Z ⟨Z,Z,Z,Z,trivial⟩ Z) ?_;exact FE Z (Go 4 Z (Rt h 2 [0,1]))
def F_cj(n:Nat)(b:Fact)(g:Int)(c:Fact):Option (List Ent):=
  ((F_ag n ({b with Kind:=c.Kind:Fact}) g).bind λd=>(match d with|.c0 h=>(some ([⟨false,4,1,9999⟩,⟨false,5,0,7⟩,⟨false,6,0,31⟩,⟨false,7,(-1099511627776),1099511627776⟩,⟨false,8,0,120⟩,⟨false,9,0,1048576⟩,⟨false,10,0,9999⟩,⟨false,11,0,1048576⟩]:List Ent))|.c1 i=>(some ([⟨false,12,0,39⟩,⟨false,13,0,255⟩,⟨false,14,0,1048576⟩,⟨false,15,(-1099511627776),1099511627776⟩]:List Ent))|.c2 j=>(some ([⟨false,16,0,39⟩,⟨false,17,0,255⟩,⟨false,18,(-1099511627776),1099511627776⟩,⟨false,19,(-1099511627776),1099511627776⟩,⟨false,20,0,1099511627776⟩]:List Ent))|.c3 k=>(some ([⟨false,21,0,39⟩,⟨false,22,0,255⟩,⟨false,23,(-1099511627776),1099511627776⟩,⟨false,24,0,39⟩,⟨false,25,0,255⟩,⟨false,26,(-1099511627776),1099511627776⟩,⟨false,27,(-1099511627776),1099511627776⟩,⟨false,28,(-1099511627776),1099511627776⟩]:List Ent))|.c4 l=>(some ([⟨false,29,1,9999⟩,⟨false,30,0,255⟩,⟨false,31,(-1099511627776),1099511627776⟩,⟨false,32,(-1099511627776),1099511627776⟩]:List Ent))|.c5 m=>(some ([⟨false,33,0,39⟩,⟨false,34,0,255⟩,⟨false,35,(-1099511627776),1099511627776⟩,⟨false,36,(-1099511627776),1099511627776⟩]:List Ent))|.c6 p=>(some ([⟨false,37,1,9999⟩,⟨false,38,1,9999⟩]:List Ent))|.c7 q=>(some ([⟨false,39,1,1048576⟩,⟨false,40,1,9999⟩,⟨false,41,0,31⟩,⟨false,42,0,255⟩]:List Ent))|.c8 r=>(some ([⟨false,43,1,1048576⟩,⟨false,44,0,9999⟩,⟨false,45,0,1125899906842624⟩,⟨false,46,0,1⟩]:List Ent))|.c9 a=>(some ([⟨false,47,1,1048576⟩,⟨false,48,1,2⟩,⟨false,49,1,5⟩,⟨false,50,a.1,a.2.1⟩,⟨false,51,a.2.2.1,a.2.2.2.1⟩,⟨false,52,a.2.2.2.2.1,a.2.2.2.2.2⟩]:List Ent))|.c10 s=>(some ([⟨false,53,1,1048576⟩,⟨true,0,0,1⟩]:List Ent))|.c11 t=>(some [])|.c12 u=>(some ([⟨false,55,0,31⟩,⟨false,56,1,1048576⟩]:List Ent))|.c13 w=>(some [])):Option (List Ent)).bind λe=>(F_ah n ({b with Kind:=c.Kind:Fact})).bind λx=>(app ([⟨false,3,1,13⟩,⟨false,0,0,31⟩,⟨false,1,1,1048576⟩,⟨false,2,0,1099511627776⟩]:List Ent) e).bind λf=>some f
theorem k_cj(n:Nat)(f:Fact)(g:Int)(e:Fact)(r:List Ent)(h:F_cj n f g e=some r):
    C prog 87 [.ptr 0 0,.ptr 1 0,.ptr 2 0] [.cells 68 (Fact.c f),.cells 3 [I g],.cells 68 (Fact.c e)] (RQ (λr=>.osl 3 0 r.length 3) (λr=>[.cells 68 (Fact.c ({f with Kind:=e.Kind:Fact})),.cells 3 [I g],.cells 68 (Fact.c e),.ents 168 0 1 r]) r):=by
 refine Qb func87 Z Z Z ?_;refine G0 16 Z (Bd h λd a h=>?_);refine Ct d [0,1,2,0,0] [0] (λ_=>[(6,.ptr 3 0)]) (λd=>[(3,.cells 158 [.osl 4 0 d.length 3,.any]),(4,.ents 168 0 1 d)]) Zf ?_ (λenv H q=>?_)
 .refine G0 3 Z (Bd a λs k a=>?_);refine QP [0,1] (OpC.fn call86 Z Z Z) (k_ag _ _ _ _ k) ?_;intro ra rH b;rcases s with u|w|y|z|B|E|F|G|J|L|M|N|O|P
  .obtain⟨rfl,rfl⟩:=b;refine FE Z (TE 3 0 1 Z Z (FE Z (Go 7 Z ?_)));cases a;refine QH ?_;refine Em (QU (i:=5) (m:=1) Z) ?_;exact Lr [0,1,2,5,3]
  .obtain⟨rfl,rfl⟩:=b;refine FE Z (TE 3 0 1 Z Z (FE Z (Go 7 Z ?_)));cases a;refine QH ?_;refine Em (QU (i:=5) (m:=1) Z) ?_;exact Lr [0,1,2,5,3]
  .obtain⟨rfl,rfl⟩:=b;refine FE Z (TE 3 0 1 Z Z (FE Z (Go 7 Z ?_)));cases a;refine QH ?_;refine Em (QU (i:=5) (m:=1) Z) ?_;exact Lr [0,1,2,5,3]
  .obtain⟨rfl,rfl⟩:=b;refine FE Z (TE 3 0 1 Z Z (FE Z (Go 7 Z ?_)));cases a;refine QH ?_;refine Em (QU (i:=6) (m:=1) Z) ?_;exact Lr [0,1,2,6,3]
  .obtain⟨rfl,rfl⟩:=b;refine FE Z (TE 3 0 1 Z Z (FE Z (Go 7 Z ?_)));cases a;refine QH ?_;refine Em (QU (i:=6) (m:=1) Z) ?_;exact Lr [0,1,2,6,3]
  .obtain⟨rfl,rfl⟩:=b;refine FE Z (TE 3 0 1 Z Z (FE Z (Go 7 Z ?_)));cases a;refine QH ?_;refine Em (QU (i:=6) (m:=1) Z) ?_;exact Lr [0,1,2,6,3]
  .obtain⟨rfl,rfl⟩:=b;refine FE Z (TE 3 0 1 Z Z (FE Z (Go 7 Z ?_)));cases a;refine QH ?_;refine Em (QU (i:=6) (m:=1) Z) ?_;exact Lr [0,1,2,6,3]
  .obtain⟨rfl,rfl⟩:=b;refine FE Z (TE 3 0 1 Z Z (FE Z (Go 7 Z ?_)));cases a;refine QH ?_;refine Em (QU (i:=5) (m:=1) Z) ?_;exact Lr [0,1,2,5,3]
  .obtain⟨rfl,rfl⟩:=b;refine FE Z (TE 3 0 1 Z Z (FE Z (Go 7 Z ?_)));cases a;refine QH ?_;refine Em (QU (i:=5) (m:=1) Z) ?_;exact Lr [0,1,2,5,3]
  .obtain⟨rfl,rfl⟩:=b;refine FE Z (TE 3 0 1 Z Z (FE Z (Go 7 Z ?_)));cases a;refine QH ?_;refine Em (QU (i:=5) (m:=1) Z) ?_;exact Lr [0,1,2,5,3]
  .obtain⟨rfl,rfl⟩:=b;refine FE Z (TE 3 0 1 Z Z (FE Z (Go 7 Z ?_)));cases a;refine QH ?_;refine Em (QU (i:=5) (m:=1) Z) ?_;exact Lr [0,1,2,5,3]
  .obtain⟨rfl,rfl⟩:=b;refine FE Z (Go 7 Z ?_);cases a;refine QH ?_;refine Em (QU (i:=4) (m:=1) Z) ?_;refine Em (Le.phantomE (i:=4) (m:=0) (t:=168) (b1:=0) (b2:=1) Z Z Z) ?_;exact Lr [0,1,2,4,5]
  .obtain⟨rfl,rfl⟩:=b;refine FE Z (TE 3 0 1 Z Z (FE Z (Go 7 Z ?_)));cases a;refine QH ?_;refine Em (QU (i:=5) (m:=1) Z) ?_;exact Lr [0,1,2,5,3]
  .obtain⟨rfl,rfl⟩:=b;refine FE Z (Go 7 Z ?_);cases a;refine QH ?_;refine Em (QU (i:=4) (m:=1) Z) ?_;refine Em (Le.phantomE (i:=4) (m:=0) (t:=168) (b1:=0) (b2:=1) Z Z Z) ?_;exact Lr [0,1,2,4,5]
 refine Gx 1 Z (Ef q (Gc 1 Z (DAs 4 1 [0,1,3,3] (by kernel_rfl) (Da 1 Z ?_))));obtain⟨Q,l,h⟩:=bnd h;refine DA.op (x:=.osl 5 0 4 3) (H1:=[.cells 68 (Fact.c ({f with Kind:=e.Kind:Fact})),.cells 3 [I g],.cells 68 (Fact.c e),.cells 158 [.osl 4 0 d.length 3,.any],.ents 168 0 1 d,.rowr 168 3 [[.ptr 0 3,I 1,I 13],[.ptr 0 0,I 0,I 31],[.ptr 0 1,I 1,I 1048576],[.ptr 0 2,I 0,I 1099511627776]]]) ?_ ?_
 .refine QP [0] (OpC.fn call88 Z Z Z) (k_ah _ _ _ l) ?_;rintro _ _ ⟨rfl,rfl⟩;exact FE Z Wp
 refine Db 1 Z ?_;refine DB.wo2 (x:=.osl 4 0 d.length 3) (Ld isAgg156 Z Wp) (Ld isAgg156 Z Wp) ?_;refine DB.done Z (TE 5 0 1 Z Z (FE Z (Bd h λR p h=>?_)));refine vH (Qgx (i:=5) (j:=4) p Ji runUnderlying156 Z) ?_;exact FE Z (Go 4 Z (Rt h 5 [0,1,2,6]))
def F_de(n:Nat)(e:Fact)(b2:Int)(f:List Ent)(m:List Ent)(a:(List Int)×Fact×Int×Int):Option (Ctl ((List Int)×Fact×Int×Int) (Ctl ((List Int)×Fact×Int) ((List Int)×Bool))):=
  (bif decide (a.2.2.2<(f.length:Int))then(idx f a.2.2.2).bind λb=>(QfH (Fact.c e) b2 b).bind λg=>(bif decide (g<b.lo)then some (.done (.done ([],false)))else(QfH (Fact.c e) b2 b).bind λh=>(bif decide (b.hi<h)then some (.done (.done ([],false)))else(idx m a.2.2.2).bind λi=>(QfH (Fact.c e) b2 b).bind λj=>(Qi8 Fact.put a.2.1 a.2.2.1 i j).bind λd=>(QfH (Fact.c e) b2 b).bind λk=>(app a.1 [k]).bind λl=>some (.cont (l,d.1,d.2,IntKind.i64.wrap (a.2.2.2+1)))))else some (.done (.cont (a.1,a.2.1,a.2.2.1))))
def F_aj(n:Nat)(a:Fact):Option ((List Int)×Bool):=
  ((bif a.Appeal.Suspends then some 1 else some 0):Option Int).bind λb2=>((F_ag n a b2).bind λf=>(match f with|.c0 k=>((F_b n).bind λl=>some (.cont ([⟨false,4,1,9999⟩,⟨false,5,0,7⟩,⟨false,6,0,31⟩,⟨false,7,(-1099511627776),1099511627776⟩,⟨false,8,0,120⟩,⟨false,9,0,1048576⟩,⟨false,10,0,9999⟩,⟨false,11,0,1048576⟩]:List Ent)))|.c1 m=>((F_b n).bind λp=>some (.cont ([⟨false,12,0,39⟩,⟨false,13,0,255⟩,⟨false,14,0,1048576⟩,⟨false,15,(-1099511627776),1099511627776⟩]:List Ent)))|.c2 q=>((F_b n).bind λr=>some (.cont ([⟨false,16,0,39⟩,⟨false,17,0,255⟩,⟨false,18,(-1099511627776),1099511627776⟩,⟨false,19,(-1099511627776),1099511627776⟩,⟨false,20,0,1099511627776⟩]:List Ent)))|.c3 s=>((F_fj n a).bind λt=>(bif (!(decide (a.Sync.Min<=a.Sync.Max)))then some (.done ([],false))else some (.cont ([⟨false,21,0,39⟩,⟨false,22,0,255⟩,⟨false,23,(-1099511627776),1099511627776⟩,⟨false,24,0,39⟩,⟨false,25,0,255⟩,⟨false,26,(-1099511627776),1099511627776⟩,⟨false,27,(-1099511627776),1099511627776⟩,⟨false,28,(-1099511627776),1099511627776⟩]:List Ent))))|.c4 u=>((F_ds n a).bind λw=>(bif (!(decide (a.Hand.Lo<=a.Hand.Hi)))then some (.done ([],false))else some (.cont ([⟨false,29,1,9999⟩,⟨false,30,0,255⟩,⟨false,31,(-1099511627776),1099511627776⟩,⟨false,32,(-1099511627776),1099511627776⟩]:List Ent))))|.c5 x=>((F_da n a).bind λy=>(bif (!(decide (a.Silence.Lo<=a.Silence.Hi)))then some (.done ([],false))else some (.cont ([⟨false,33,0,39⟩,⟨false,34,0,255⟩,⟨false,35,(-1099511627776),1099511627776⟩,⟨false,36,(-1099511627776),1099511627776⟩]:List Ent))))|.c6 z=>((F_eq n a).bind λE=>(bif (!(decide (a.Pair.A<a.Pair.B)))then some (.done ([],false))else some (.cont ([⟨false,37,1,9999⟩,⟨false,38,1,9999⟩]:List Ent))))|.c7 F=>((F_b n).bind λG=>some (.cont ([⟨false,39,1,1048576⟩,⟨false,40,1,9999⟩,⟨false,41,0,31⟩,⟨false,42,0,255⟩]:List Ent)))|.c8 H=>((F_b n).bind λJ=>some (.cont ([⟨false,43,1,1048576⟩,⟨false,44,0,9999⟩,⟨false,45,0,1125899906842624⟩,⟨false,46,0,1⟩]:List Ent)))|.c9 c=>((F_b n).bind λL=>some (.cont ([⟨false,47,1,1048576⟩,⟨false,48,1,2⟩,⟨false,49,1,5⟩,⟨false,50,c.1,c.2.1⟩,⟨false,51,c.2.2.1,c.2.2.2.1⟩,⟨false,52,c.2.2.2.2.1,c.2.2.2.2.2⟩]:List Ent)))|.c10 M=>((F_b n).bind λN=>some (.cont ([⟨false,53,1,1048576⟩,⟨true,0,0,1⟩]:List Ent)))|.c11 O=>((F_b n).bind λP=>some (.cont []))|.c12 Q=>((F_b n).bind λR=>some (.cont ([⟨false,55,0,31⟩,⟨false,56,1,1048576⟩]:List Ent)))|.c13 T=>(some (.done ([],false)))):Option (Ctl (List Ent) ((List Int)×Bool))).bind λg=>match g with|.cont d=>((F_ah n a).bind λV=>(app ([⟨false,3,1,13⟩,⟨false,0,0,31⟩,⟨false,1,1,1048576⟩,⟨false,2,0,1099511627776⟩]:List Ent) d).bind λh=>(F_cj n ({Uk with Ruling:={Ur with Kind:=a.Ruling.Kind:Ruling}:Fact}) 0 a).bind λi=>(iter (F_de n a b2 h i) n ([],({({Uk with Ruling:={Ur with Kind:=a.Ruling.Kind:Ruling}:Fact})with Kind:=a.Kind:Fact}),0,0):Option (Ctl ((List Int)×Fact×Int) ((List Int)×Bool))).bind λj=>match j with|.cont b=>(((bif (a.Kind != 10)then some ({b.2.1 with Ruling:={b.2.1.Ruling with Kind:=0:Ruling}:Fact})else some b.2.1):Option Fact).bind λe=>some (b.1,(({e with Appeal:={Case:=e.Appeal.Case,Suspends:=(b.2.2==1):Appeal}:Fact})==a)))|.done b=>some b)|.done d=>some d
theorem k_aj(n:Nat)(F:Fact)(r:(List Int)×Bool)(h:F_aj n F=some r):
    C prog 54 [.agg (Fact.c F)] [] (RQ (λr=>.tup [.osl 0 0 r.1.length 1,.bool r.2]) (λr=>[.row 3 1 (List.map (Qj .i64) r.1)]) r):=by
 refine Qb func54 Z Z Z ?_;refine G0 21 Z (Bd h λb2 M h=>?_);refine Ct b2 [0,1] [1,2,4] Ze (λb2=>[(1,.cells 3 [I b2])]) Zf ?_ (λenv H B=>?_)
 .refine G0 0 Z (Cn Z M (λan M=>?_) (λan M=>?_))
  .exact Gc 3 Z (Cl M [0,1])
  exact Gc 1 Z (Cl M [0,1])
 refine Gx 1 Z (Ef B (Gc 7 Z (Bd h λao a h=>?_)));refine Ct3E (b:=ao) (λy=>[(1,.ptr 0 0),(2,.nils),(5,.ptr 1 0),(6,.ptr 2 0)]) (λy=>[.cells 68 (Fact.c F),.cells 68 (Fact.c F),.cells 158 [.osl 3 0 y.length 3,.any],.ents 168 1 4 y,.cells 3 [I b2]]) ?_ (λy env H hb B=>?_)
 .refine Gc 1 Z (Bd a λaq aa a=>?_);refine QP [2,1] (OpC.fn call86 Z Z Z) (k_ag _ _ _ _ aa) ?_;intro ra rH w;rcases aq with bm|bn|bo|bp|bq|br|bs|bt|bu|bv|bw|bx|bz|ca
  .obtain⟨rfl,rfl⟩:=w;refine FE Z (TE 3 2 1 Z Z (FE Z (Go 15 Z (Cz [] a (k_b _) Z λcb ax a=>Go 6 Z ?_))));cases a;refine QI Z ?_;refine Em (QU (i:=5) (m:=1) Z) ?_;exact Lr [0,2,5,3,1]
  .obtain⟨rfl,rfl⟩:=w;refine FE Z (TE 3 2 1 Z Z (FE Z (Go 15 Z (Cz [] a (k_b _) Z λcc ay a=>Go 6 Z ?_))));cases a;refine QI Z ?_;refine Em (QU (i:=5) (m:=1) Z) ?_;exact Lr [0,2,5,3,1]
  .obtain⟨rfl,rfl⟩:=w;refine FE Z (TE 3 2 1 Z Z (FE Z (Go 15 Z (Cz [] a (k_b _) Z λcd az a=>Go 6 Z ?_))));cases a;refine QI Z ?_;refine Em (QU (i:=5) (m:=1) Z) ?_;exact Lr [0,2,5,3,1]
  .obtain⟨rfl,rfl⟩:=w;refine FE Z (TE 3 2 1 Z Z (FE Z (Go 15 Z (Cz [4,2] a (k_fj _ _) Z λce ba a=>Go 4 Z (Cn Z a (λab a=>?_) (λab a=>?_))))))
   .refine Gc 7 Z ?_;cases a;refine Q4 (Gx 1 Z ?_);obtain rfl:=Oi h;refine R2 2 3 Z Z ?_;refine Em (Ep (s:=2) (k:=1) (t:=3) (XS Z) Z) ?_;exact Lr [7]
   refine Gc 1 Z ?_;cases a;refine QI Z ?_;refine Em (QU (i:=6) (m:=1) Z) ?_;exact Lr [0,2,6,3,1]
  .obtain⟨rfl,rfl⟩:=w;refine FE Z (TE 3 2 1 Z Z (FE Z (Go 15 Z (Cz [4,2] a (k_ds _ _) Z λcf bb a=>Go 4 Z (Cn Z a (λac a=>?_) (λac a=>?_))))))
   .refine Gc 7 Z ?_;cases a;refine Q4 (Gx 1 Z ?_);obtain rfl:=Oi h;refine R2 2 3 Z Z ?_;refine Em (Ep (s:=2) (k:=1) (t:=3) (XS Z) Z) ?_;exact Lr [7]
   refine Gc 1 Z ?_;cases a;refine QI Z ?_;refine Em (QU (i:=6) (m:=1) Z) ?_;exact Lr [0,2,6,3,1]
  .obtain⟨rfl,rfl⟩:=w;refine FE Z (TE 3 2 1 Z Z (FE Z (Go 15 Z (Cz [4,2] a (k_da _ _) Z λcg bc a=>Go 4 Z (Cn Z a (λae a=>?_) (λae a=>?_))))))
   .refine Gc 7 Z ?_;cases a;refine Q4 (Gx 1 Z ?_);obtain rfl:=Oi h;refine R2 2 3 Z Z ?_;refine Em (Ep (s:=2) (k:=1) (t:=3) (XS Z) Z) ?_;exact Lr [7]
   refine Gc 1 Z ?_;cases a;refine QI Z ?_;refine Em (QU (i:=6) (m:=1) Z) ?_;exact Lr [0,2,6,3,1]
  .obtain⟨rfl,rfl⟩:=w;refine FE Z (TE 3 2 1 Z Z (FE Z (Go 15 Z (Cz [4,2] a (k_eq _ _) Z λch bd a=>Go 4 Z (Cn Z a (λaf a=>?_) (λaf a=>?_))))))
   .refine Gc 7 Z ?_;cases a;refine Q4 (Gx 1 Z ?_);obtain rfl:=Oi h;refine R2 2 3 Z Z ?_;refine Em (Ep (s:=2) (k:=1) (t:=3) (XS Z) Z) ?_;exact Lr [7]
   refine Gc 1 Z ?_;cases a;refine QI Z ?_;refine Em (QU (i:=6) (m:=1) Z) ?_;exact Lr [0,2,6,3,1]
  .obtain⟨rfl,rfl⟩:=w;refine FE Z (TE 3 2 1 Z Z (FE Z (Go 15 Z (Cz [] a (k_b _) Z λci be a=>Go 6 Z ?_))));cases a;refine QI Z ?_;refine Em (QU (i:=5) (m:=1) Z) ?_;exact Lr [0,2,5,3,1]
  .obtain⟨rfl,rfl⟩:=w;refine FE Z (TE 3 2 1 Z Z (FE Z (Go 15 Z (Cz [] a (k_b _) Z λcj bf a=>Go 6 Z ?_))));cases a;refine QI Z ?_;refine Em (QU (i:=5) (m:=1) Z) ?_;exact Lr [0,2,5,3,1]
  .obtain⟨rfl,rfl⟩:=w;refine FE Z (TE 3 2 1 Z Z (FE Z (Go 15 Z (Cz [] a (k_b _) Z λck bg a=>Go 6 Z ?_))));cases a;refine QI Z ?_;refine Em (QU (i:=5) (m:=1) Z) ?_;exact Lr [0,2,5,3,1]
  .obtain⟨rfl,rfl⟩:=w;refine FE Z (TE 3 2 1 Z Z (FE Z (Go 15 Z (Cz [] a (k_b _) Z λcl bh a=>Go 6 Z ?_))));cases a;refine QI Z ?_;refine Em (QU (i:=5) (m:=1) Z) ?_;exact Lr [0,2,5,3,1]
  .obtain⟨rfl,rfl⟩:=w;refine FE Z (Go 15 Z (Cz [] a (k_b _) Z λcm bi a=>Go 6 Z ?_));cases a;refine QI Z ?_;refine Em (QU (i:=4) (m:=1) Z) ?_;refine Em (Le.phantomE (i:=4) (m:=0) (t:=168) (b1:=2) (b2:=1) Z Z Z) ?_;exact Lr [0,2,4,5,1]
  .obtain⟨rfl,rfl⟩:=w;refine FE Z (TE 3 2 1 Z Z (FE Z (Go 15 Z (Cz [] a (k_b _) Z λcn bj a=>Go 6 Z ?_))));cases a;refine QI Z ?_;refine Em (QU (i:=5) (m:=1) Z) ?_;exact Lr [0,2,5,3,1]
  .obtain⟨rfl,rfl⟩:=w;refine FE Z (Go 28 Z ?_);cases a;refine Q4 (Gx 1 Z ?_);obtain rfl:=Oi h;refine R2 2 3 Z Z ?_;refine Em (Ep (s:=2) (k:=1) (t:=3) (XS Z) Z) ?_;exact Lr [5]
 subst hb;refine Gx 1 Z (Ef B (Gc 12 Z (DAs 3 0 [1,3,3] (by kernel_rfl) ?_)));obtain⟨co,ag,h⟩:=bnd h;refine DA.op (x:=.osl 6 0 4 3) (H1:=[.cells 68 (Fact.c F),.cells 68 (Fact.c F),.cells 158 [.osl 3 0 y.length 3,.any],.ents 168 1 4 y,.cells 3 [I b2],.cells 68 (Fact.c Uk),.rowr 168 3 [[.ptr 1 3,I 1,I 13],[.ptr 1 0,I 0,I 31],[.ptr 1 1,I 1,I 1048576],[.ptr 1 2,I 0,I 1099511627776]]]) ?_ ?_
 .refine QP [1] (OpC.fn call88 Z Z Z) (k_ah _ _ _ ag) ?_;rintro _ _ ⟨rfl,rfl⟩;exact FE Z Wp
 refine Db 1 Z ?_;refine DB.wo2 (x:=.osl 3 0 y.length 3) (Ld isAgg156 Z Wp) (Ld isAgg156 Z Wp) ?_;refine DB.done Z (TE 6 1 4 Z Z (FE Z (Bd h λar ah h=>?_)));refine vH (Qgx (i:=6) (j:=3) ah Ji runUnderlying156 Z) ?_;refine FE Z (Go 22 Z (Cd [5,8,0] h (k_cj _ _ _ _) Z λau bk h=>FE Z (Go 11 Z (Bd h λav ai h=>?_))));refine CtE (b:=av) [0,1,2,3] [1] (λg=>[(2,.osl 1 0 g.1.length 1),(7,.ptr 2 0),(10,.ptr 3 0)]) (λg=>[(1,.row 3 1 (List.map (Qj .i64) g.1)),(2,.cells 68 (Fact.c g.2.1)),(3,.cells 3 [I g.2.2])]) Zf ?_ (λg env H aw B=>?_)
 .refine G0 1 Z ?_;refine Lp [0,0,5,8,9,7,1,4] [1,7,10,11,42,43] (λl=>[(2,.osl 1 0 l.1.length 1),(44,I l.2.2.2)]) (λl=>[(1,.row 3 1 (List.map (Qj .i64) l.1)),(2,.cells 68 (Fact.c l.2.1)),(3,.cells 3 [I l.2.2.1]),(4,.ents 168 2 3 au),(5,.ents 168 6 7 ar)]) ai Zf ?_ ?_
  .refine Em (Ep (s:=2) (k:=1) (t:=3) (XS Z) Z) ?_;exact Lr [0,10,5,8,9,7,1,4]
  intro l bl d G;refine G0 6 Z (Jl Z d (λO d=>?_) (λO d=>?_))
  .refine Gc 2 Z (Qy d ?_);obtain rfl:=Oj G d;exact Gx 1 Z (QI Z (Lr [0,1,2,3]))
  refine Gc 7 Z (Bd d λz he106 d=>?_);refine vX (.ptr 5 (Int.toNat l.2.2.2*3)) (Q7 he106 Z runUnderlying156 sizeOf168) ?_;refine vX (.agg [Qhc 6 7 z,I z.lo,I z.hi]) (Qh Z isAgg168 sizeOf168 Z (Pts.ents (f:=0) (QaN he106).2) Z Z) ?_;refine Go 7 Z (DSs 16 Z (D 2 Z ?_));refine DS.wo (x:=Qhc 6 7 z) ?_ ?_
  .exact S Z Wp
  obtain⟨aj,P,d⟩:=bnd d;refine DS.v (x:=(I aj)) (Qcd P isAgg3) ?_;refine D 5 Z (DS.is 8 d Z Z Z (λQ d=>?_) (λQ d=>?_))
  .refine D 7 Z (Eh Z (Go 15 Z (Yt d ?_)));obtain rfl:=Oj G d;refine Gx 1 Z (Q4 (Gx 1 Z ?_));obtain rfl:=Oi h;refine R2 2 3 Z Z ?_;refine Em (Ep (s:=2) (k:=1) (t:=3) (XS Z) Z) ?_;exact Lr [9]
  .refine D 2 Z ?_;refine DS.wo (x:=Qhc 6 7 z) ?_ ?_
   .exact Sg (gT Z) Z Wp
   obtain⟨ak,R,d⟩:=bnd d;refine DS.v (x:=(I ak)) (Qcd R isAgg3) ?_ (hg:=(gT Z));refine D 3 Z (Eh Z (Go 4 Z (Cn Z d (λT d=>?_) (λT d=>?_))))
   .refine Gc 10 Z (Yt d ?_);obtain rfl:=Oj G d;refine Gx 1 Z (Q4 (Gx 1 Z ?_));obtain rfl:=Oi h;refine R2 2 3 Z Z ?_;refine Em (Ep (s:=2) (k:=1) (t:=3) (XS Z) Z) ?_;exact Lr [9]
   refine Gc 3 Z (DSs 9 Z (D 2 Z ?_));obtain⟨al,he111,d⟩:=bnd d;refine DS.v (x:=(.ptr 4 (Int.toNat l.2.2.2*3))) (Q7 he111 Z runUnderlying156 sizeOf168) ?_;refine DS.wo (x:=.ptr 4 (Int.toNat l.2.2.2*3)) ?_ ?_
   .exact Fp QmB Z Wp
   refine DS.v (x:=(Qhc 2 3 al)) (Ey Z isAgg162 Z (Pts.ents (f:=0) (QaN he111).2)) ?_;refine D 2 Z ?_;refine DS.wo (x:=Qhc 6 7 z) ?_ ?_
   .exact S Z Wp
   obtain⟨am,V,d⟩:=bnd d;refine DS.v (x:=(I am)) (Qcd V isAgg3) ?_;refine Eh Z (S Z (Bd d λJ hq113 d=>?_));refine vU (QjH (c:=Fact.c) (f:=l.2.1) (f':=J.1) (s':=J.2) hq113 QoV sizeOf3) ?_;refine QdD (H:=[_,_,.cells 68 (Fact.c J.1),.cells 3 [I J.2],_,_,_,_,_]) Z ?_;refine Go 6 Z (S Z (Bd d λL W d=>?_));refine vX (I L) (Qcd W isAgg3) ?_;refine vH (Ek (xs:=[.tmp 81]) (es:=List.map (Qj .i64) [L]) Yh Z Z Z Z Z ⟨Z,trivial⟩ Z Z) ?_;refine aV (.osl 9 0 ([L].length) 1) [_,_,_,_,_,_,_,_,_,.row 3 1 (List.map (Qj .i64) [L])] Z Z ?_;refine Bd d λN X d=>?_;refine vH (QR (e:=(Qj .i64)) X Yh runUnderlying40 (Jy (i:=9))) ?_;refine aV (.osl 10 0 N.length 1) [_,.dead,_,_,_,_,_,_,_,_,.row 3 1 (List.map (Qj .i64) N)] Z Z ?_;exact Go 8 Z (Qt d (Lr [0,10,2,3,4,5,6,7]))
 subst aw;refine Gx 1 Z (Ef B (Gc 8 Z (Bd h λu E h=>?_)));refine Ct u [0,1,2,3] [1,2,7,10] Ze (λu=>[(2,.cells 68 (Fact.c u))]) Zf ?_ (λenv H B=>?_)
 .refine G0 0 Z (Cn Z E (λY E=>?_) (λY E=>?_))
  .exact Gc 5 Z (Cl E [0,1,2,3])
  exact Gc 1 Z (Cl E [0,1,2,3])
 refine Gx 1 Z (Ef B (Gc 10 Z ?_));refine TC.draw0 5 [94,95,96,97,2] [.osl 1 0 g.1.length 1,.agg (Fact.c ({u with Appeal:={Case:=u.Appeal.Case,Suspends:=(g.2.2==1):Appeal}:Fact})),.agg (Fact.c F),.bool (({u with Appeal:={Case:=u.Appeal.Case,Suspends:=(g.2.2==1):Appeal}:Fact})==F),.osl 1 0 g.1.length 1] draws Z Z Z ?_ ?_
 .refine Oq.c ?_ (ov (ov (Oq.c ?_ (ov (Oq.n)))))
  .refine Om Z (sP 4 sN) ?_;exact S Z Wp
  .refine Om Z (sD 1 (sD 2 sN)) ?_;refine vX (.bool (({u with Appeal:={Case:=u.Appeal.Case,Suspends:=(g.2.2==1):Appeal}:Fact})==F)) (Qls (p:={u with Appeal:={Case:=u.Appeal.Case,Suspends:=(g.2.2==1):Appeal}:Fact}) (q:=F) Qpp Z Z) ?_;exact Wp
 refine Go 4 Z ?_;obtain rfl:=Oi h;exact R2 2 3 Z Z (Lr [1])
def F_o(n:Nat)(a:Fact):Option Int:=
  (F_aj n a).bind λb=>(bif (!b.2)then some 120 else some 0)
theorem k_o(n:Nat)(a:Fact)(r:Int)(h:F_o n a=some r):
    Csm prog 22 [.agg (Fact.c a)] [] (λr=>I r) r:=by
 refine Qb func22 Z Z Z ?_;refine G0 10 Z (Cd [] h (k_aj _ _) Z λe d h=>FE Z (Go 13 Z (Cn Z h (λb h=>?_) (λb h=>?_))))
 .exact Gc 7 Z (Rt h 2 [])
 exact Gc 8 Z (Rt h 2 [])
def F_al(n:Nat)(a:List Fact):Option (List Fact):=
  isNil a (some []) ((app ([]:List Fact) a).bind λb=>some b)
theorem k_al(n:Nat)(a:List Fact)(r:List Fact)(h:F_al n a=some r):
    C prog 41 [.rsl 57 (List.map Fact.c a)] [] (RQ (λr=>.osl 0 0 r.length 57) (λr=>[.row 68 57 (List.map Fact.c r)]) r):=by
 refine Qb func41 Z Z Z ?_;refine G0 9 Z ?_;refine Qiw (e:=Fact.c) (l:=a) underlying34 Z (λb1 b=>?_);have hkb1:=QhV h b1 b;cases b1
 .have h:=hkb1.2 Z;refine Go 7 Z ?_;refine vH (Ek (xs:=[]) (es:=List.map Fact.c []) Qab Z Z Z Z Z trivial Z Z) ?_;refine FE Z (Go 1 Z (Bd h λf d h=>?_));refine vH (QR (e:=Fact.c) d Qab runUnderlying34 Qai) ?_;exact FE Z (Go 4 Z (Rt h 2 [1]))
 .have h:=hkb1.1 Z;refine Go 10 Z ?_;obtain rfl:=Oi h;refine R1 2 Z ?_;refine Em (Ep (s:=2) (k:=57) (t:=68) (XS Z) Z) ?_;exact Lr [0]
def F_at(n:Nat)(a:Int):Option Unit:=
  some ()
theorem k_at(n:Nat)(a:Int)(r:Unit)(h:F_at n a=some r):
    Csm prog 176 [I a] [] (λ_=>.bool (a != a)) r:=by
 refine Qb func176 Z Z Z ?_;exact G0 14 Z (Rt h 2 [])
def F_t(n:Nat)(b:Int)(a:Int):Option Int:=
  (F_at n b).bind λc=>(F_at n a).bind λd=>(bif (b != b)then(bif (a != a)then some 0 else some (-1))else(bif (a != a)then some 1 else(bif decide (b<a)then some (-1)else(bif decide (a<b)then some 1 else some 0))))
theorem k_t(n:Nat)(a:Int)(b:Int)(r:Int)(h:F_t n a b=some r):
    Csm prog 92 [I a,I b] [] (λr=>I r) r:=by
 refine Qb func92 Z Z Z ?_;refine G0 8 Z (Cz [] h (k_at _ _) Z λk i h=>Go 6 Z (Cz [] h (k_at _ _) Z λl j h=>Go 9 Z (Cn Z h (λc h=>?_) (λc h=>?_))))
 .refine Gc 6 Z (Cn Z h (λd h=>?_) (λd h=>?_))
  .exact Gc 8 Z (Rt h 4 [])
  exact Gc 9 Z (Rt h 4 [])
 refine Gc 8 Z (Cn Z h (λe h=>?_) (λe h=>?_))
 .exact Gc 7 Z (Rt h 4 [])
 refine Gc 10 Z (Cn Z h (λf h=>?_) (λf h=>?_))
 .exact Gc 7 Z (Rt h 4 [])
 refine Gc 10 Z (Cn Z h (λg h=>?_) (λg h=>?_))
 .exact Gc 7 Z (Rt h 4 [])
 exact Gc 8 Z (Rt h 4 [])
def F_dq(n:Nat)(c:List Int)(a:Int):Option (Ctl Int (Ctl Unit Int)):=
  (bif decide (a<(c.length:Int))then(idx c a).bind λb=>(bif (b != 0)then some (.done (.done b))else some (.cont (IntKind.i64.wrap (a+1))))else some (.done (.cont ())))
def F_ca(n:Nat)(b:List Int):Option Int:=
  (iter (F_dq n b) n 0:Option (Ctl Unit Int)).bind λc=>match c with|.cont a=>(some 0)|.done a=>some a
theorem k_ca(n:Nat)(i:List Int)(r:Int)(h:F_ca n i=some r):
    Csm prog 96 [.rsl 1 (List.map (Qj .i64) i)] [] (λr=>I r) r:=by
 refine Qb func96 Z Z Z ?_;refine G0 14 Z (Lm Z (Go 3 Z (Bd h λl m h=>?_)));refine CtE (b:=l) [] [3] Ze Ze Zf ?_ (λp env H j k=>?_)
 .refine G0 1 Z ?_;refine Lp [] [3,6,7] (λd=>[(8,I d)]) Ze m Zf (Lr []) λd q a c=>?_;refine G0 6 Z (Jl Z a (λe a=>?_) (λe a=>?_))
  .refine Gc 2 Z (Qy a ?_);obtain rfl:=Oj c a;exact Gx 1 Z (QI Z (Lr []))
  refine Gc 6 Z (Bd a λs f a=>Iz f Z (Go 11 Z (Cn Z a (λg a=>?_) (λg a=>?_))))
  .refine Gc 9 Z (Yt a ?_);obtain rfl:=Oj c a;exact Gx 1 Z (Q4 (Gx 1 Z (Rt h 2 [])))
  exact Gc 7 Z (Qt a (Lr []))
 subst j;exact Gx 1 Z (Ef k (Gc 7 Z (Rt h 2 [])))
def F_gx(n:Nat)(c:Value)(rec141:Value->Option (Int×Bool))(a:Int×Int):Option (Ctl (Int×Int) (Ctl Int (Int×Bool))):=
  (bif decide (a.2<(c.L.length:Int))then(idx c.L a.2).bind λd=>(rec141 d).bind λb=>(bif (!b.2)then some (.done (.done (0,false)))else some (.cont ((if a.1<b.1 then b.1 else a.1),IntKind.i64.wrap (a.2+1))))else some (.done (.cont a.1)))
def B_k(rec141:Value->Option (Int×Bool))(n:Nat)(a:Value):Option (Int×Bool):=
  ((bif (a.S==[])then(bif (a.N==0)then(arr 4 (List.replicate 4 false)).bind λk=>(arr 4 ([false,((a.L.length:Int)==0),((a.L.length:Int)==0),(a.S==[])]:List Bool)).bind λc=>some c else(arr 4 (List.replicate 4 false)).bind λl=>(arr 4 ([false,((a.L.length:Int)==0),false,false]:List Bool)).bind λd=>some d)else(bif (a.N==0)then(arr 4 (List.replicate 4 false)).bind λm=>(arr 4 ([false,false,((a.L.length:Int)==0),(a.S==[])]:List Bool)).bind λe=>some e else(arr 4 (List.replicate 4 false)).bind λp=>(arr 4 ([false,false,false,false]:List Bool)).bind λf=>some f)):Option (List Bool)).bind λg=>((bif decide (a.Kind<1)then some true else(bif decide (3<a.Kind)then some true else(Qee 4 g a.Kind).bind λh=>some (!h))):Option Bool).bind λi=>(bif i then some (0,false)else(bif decide (a.Kind<3)then some (0,true)else(iter (F_gx n a rec141) n (0,0):Option (Ctl Int (Int×Bool))).bind λj=>match j with|.cont b=>(some (IntKind.i64.wrap (b+1),true))|.done b=>some b))
theorem Qdr(rec141:Value->Option (Int×Bool))(s:∀(j:Value) (r:Int×Bool),rec141 j=some r->Csm prog 268 [.agg (Value.c j)] [] (λr=>.tup [I r.1,.bool r.2]) r)(n:Nat)(j:Value)(r:Int×Bool)(h:B_k rec141 n j=some r):
    Csm prog 268 [.agg (Value.c j)] [] (λr=>.tup [I r.1,.bool r.2]) r:=by
 refine Qb func268 Z Z Z ?_;refine G0 8 Z (Bd h λq a h=>?_);refine Ct q [0,0] [1,2] (λ_=>[(4,.ptr 1 0)]) (λq=>[(1,.row 354 1 (List.map Qa6 q))]) Zf ?_ (λenv H m=>?_)
 .refine G0 5 Z (Is 12 a Z (λQ a=>?_) (λQ a=>?_))
  .refine Go 2 Z (Lm Z (Go 6 Z (Is 21 a Z (λf a=>?_) (λf a=>?_))))
   .refine Go 2 Z (Lm Z (Go 6 Z (Fpg (gT f) Qh8 Z (Ldg (gT f) isAgg9 Z ?_))));refine vX (.bool (j.S==[])) (QdJ Z Z Z) ?_ (gT f);refine Pk f Z ?_;refine vV (x:=(.agg (List.flatten (List.map Qa6 ([false,((j.L.length:Int)==0),((j.L.length:Int)==0),(j.S==[])]:List Bool))))) (Jz (n:=4) (k:=1) (zs:=[.bool false,.bool false,.bool false,.bool false]) zeroValue354 (ZR.agg (zc ZR.bool (zc ZR.bool (zc ZR.bool (zc ZR.bool ZL.nil))))) runUnderlying354 sizeOf4 Z) ?_;refine vH (Y5 (n:=4) (k:=1) (e:=Qa6) (z:=false) zeroValue354 (by kernel_rfl) (by kernel_rfl) (by kernel_rfl) Z) ?_;refine FE Z (Bd a λar R a=>Bd a λag t a=>?_);obtain⟨J,rfl⟩:=Jj R;refine vU (Y4 (e:=Qa6) (l:=(List.replicate 4 false)) (l':=ag) J (QbA t) Zf Z sizeOf354 Zf Zf (congrArg (λl=>List.flatten (List.map Qa6 l)) (Jj t).2.symm)) ?_;exact FE Z (Go 1 Z (Cl a [0,1]))
   .refine Go 9 Z (KF f Z (KF f Z (KF f Z (Pk f Z ?_))));refine vV (x:=(.agg (List.flatten (List.map Qa6 ([false,((j.L.length:Int)==0),false,false]:List Bool))))) (Jz (n:=4) (k:=1) (zs:=[.bool false,.bool false,.bool false,.bool false]) zeroValue354 (ZR.agg (zc ZR.bool (zc ZR.bool (zc ZR.bool (zc ZR.bool ZL.nil))))) runUnderlying354 sizeOf4 Z) ?_;refine vH (Y5 (n:=4) (k:=1) (e:=Qa6) (z:=false) zeroValue354 (by kernel_rfl) (by kernel_rfl) (by kernel_rfl) Z) ?_;refine FE Z (Bd a λau T a=>Bd a λah u a=>?_);obtain⟨M,rfl⟩:=Jj T;refine vU (Y4 (e:=Qa6) (l:=(List.replicate 4 false)) (l':=ah) M (QbA u) Zf Z sizeOf354 Zf Zf (congrArg (λl=>List.flatten (List.map Qa6 l)) (Jj u).2.symm)) ?_;exact FE Z (Go 1 Z (Cl a [0,1]))
  .refine Go 9 Z (Is 21 a Z (λg a=>?_) (λg a=>?_))
   .refine Go 2 Z (Lm Z (Go 6 Z (Fpg (gT g) Qh8 Z (Ldg (gT g) isAgg9 Z ?_))));refine vX (.bool (j.S==[])) (QdJ Z Z Z) ?_ (gT g);refine Pk g Z ?_;refine vV (x:=(.agg (List.flatten (List.map Qa6 ([false,false,((j.L.length:Int)==0),(j.S==[])]:List Bool))))) (Jz (n:=4) (k:=1) (zs:=[.bool false,.bool false,.bool false,.bool false]) zeroValue354 (ZR.agg (zc ZR.bool (zc ZR.bool (zc ZR.bool (zc ZR.bool ZL.nil))))) runUnderlying354 sizeOf4 Z) ?_;refine vH (Y5 (n:=4) (k:=1) (e:=Qa6) (z:=false) zeroValue354 (by kernel_rfl) (by kernel_rfl) (by kernel_rfl) Z) ?_;refine FE Z (Bd a λav V a=>Bd a λai w a=>?_);obtain⟨N,rfl⟩:=Jj V;refine vU (Y4 (e:=Qa6) (l:=(List.replicate 4 false)) (l':=ai) N (QbA w) Zf Z sizeOf354 Zf Zf (congrArg (λl=>List.flatten (List.map Qa6 l)) (Jj w).2.symm)) ?_;exact FE Z (Go 1 Z (Cl a [0,1]))
   .refine Go 9 Z (KF g Z (KF g Z (KF g Z (Pk g Z ?_))));refine vX (.agg (List.flatten (List.map Qa6 ([false,false,false,false]:List Bool)))) (Jz (n:=4) (k:=1) (zs:=[.bool false,.bool false,.bool false,.bool false]) zeroValue354 (ZR.agg (zc ZR.bool (zc ZR.bool (zc ZR.bool (zc ZR.bool ZL.nil))))) runUnderlying354 sizeOf4 Z) ?_;refine vH (Y5 (n:=4) (k:=1) (e:=Qa6) (z:=false) zeroValue354 (by kernel_rfl) (by kernel_rfl) (by kernel_rfl) Z) ?_;refine FE Z (Bd a λaw W a=>Bd a λaj y a=>?_);obtain⟨O,rfl⟩:=Jj W;refine vU (Y4 (e:=Qa6) (l:=(List.replicate 4 false)) (l':=aj) O (QbA y) Zf Z sizeOf354 Zf Zf (congrArg (λl=>List.flatten (List.map Qa6 l)) (Jj y).2.symm)) ?_;exact FE Z (Go 1 Z (Cl a [0,1]))
 refine Gx 1 Z (Ef m (Gc 2 Z (Bd h λB i h=>?_)));refine Ct B [0] [1,2] (λB=>[(50,.bool B)]) Ze Zf ?_ (λenv H m=>?_)
 .refine G0 5 Z (Is 39 i Z (λX i=>?_) (λX i=>?_))
  .exact Go 12 Z (Cl i [0])
  .refine Go 5 Z (Is 44 i Z (λY i=>?_) (λY i=>?_))
   .exact Go 7 Z (Cl i [0])
   .refine Go 2 Z (Bd i λak E i=>?_);refine vX (.ptr 1 (Int.toNat j.Kind*1)) (Qaj (n:=4) (k:=1) (l:=q) E runUnderlying354 sizeOf4 Z) ?_ (gT Z);refine vX (.bool ak) (Ey Z isAgg4 Z (Qu (Qa2 E).2)) ?_ (gT Z);exact Go 3 Z (Cl i [0])
 refine Gx 1 Z (Ef m (Cn Z h (λaa h=>?_) (λaa h=>?_)))
 .refine Gc 8 Z ?_;obtain rfl:=Oi h;exact R2 2 3 Z Z (Lr [])
 refine Gc 10 Z (Cn Z h (λab h=>?_) (λab h=>?_))
 .refine Gc 8 Z ?_;obtain rfl:=Oi h;exact R2 2 3 Z Z (Lr [])
 refine Gc 7 Z (Lm Z (Go 3 Z (Bd h λal am h=>?_)));refine CtE (b:=al) [] [] (λF=>[(2,I F)]) Ze Zf ?_ (λF env H an m=>?_)
 .refine G0 1 Z ?_;refine Lp [] [55,56] (λp=>[(2,I p.1),(57,I p.2)]) Ze am Zf (Lr []) λp ax d G=>?_;refine G0 6 Z (Jl Z d (λac d=>?_) (λac d=>?_))
  .refine Gc 2 Z (Qy d ?_);obtain rfl:=Oj G d;exact Gx 1 Z (QI Z (Lr []))
  refine Gc 6 Z (Bd d λao ae d=>IzE ae (QbC ao) Z (Go 8 Z (Cd [] d (s _) Z λP aq d=>FE Z (Go 14 Z (Cn Z d (λaf d=>?_) (λaf d=>?_))))))
  .refine Gc 10 Z (Yt d ?_);obtain rfl:=Oj G d;refine Gx 1 Z (Q4 (Gx 1 Z ?_));obtain rfl:=Oi h;exact R2 2 3 Z Z (Lr [])
  refine Gc 5 Z ?_;refine vX (I (if p.1<P.1 then P.1 else p.1)) (OpV.max Z Z Z Z) ?_;exact Go 8 Z (Qt d (Lr []))
 subst an;refine Gx 1 Z (Ef m (Gc 9 Z ?_));obtain rfl:=Oi h;exact R2 2 3 Z Z (Lr [])
def F_k:Nat->Value->Option (Int×Bool)
  |0=>λ_=>none
  |n+1=>B_k (F_k n) n
theorem k_k(n:Nat):∀(a:Value) (r:Int×Bool),F_k n a=some r->Csm prog 268 [.agg (Value.c a)] [] (λr=>.tup [I r.1,.bool r.2]) r:=by
  induction n with
  |zero=>intro a r h;cases h
  |succ n ih=>intro a r h;exact Qdr _ ih n a r h
def F_ec(n:Nat)(b:Value):Option Int:=
  (F_k n b).bind λa=>(bif (!a.2)then some 1 else(bif decide (16<a.1)then some 2 else some 0))
theorem k_ec(n:Nat)(a:Value)(r:Int)(h:F_ec n a=some r):
    Csm prog 232 [.agg (Value.c a)] [] (λr=>I r) r:=by
 refine Qb func232 Z Z Z ?_;refine G0 9 Z (Cd [] h (k_k _ _) Z λf e h=>FE Z (Go 16 Z (Cn Z h (λb h=>?_) (λb h=>?_))))
 .exact Gc 8 Z (Rt h 2 [])
 refine Gc 7 Z (Cn Z h (λd h=>?_) (λd h=>?_))
 .exact Gc 8 Z (Rt h 2 [])
 exact Gc 9 Z (Rt h 2 [])
def F_ef(n:Nat):Option Unit:=
  some ()
theorem k_ef(n:Nat)(r:Unit)(h:F_ef n=some r):
    C prog 233 [] [] (RQ (λ_=>.ptr 0 0) (λ_=>[.cells 340 [.nilf,.fn (.func 269) [] [],.fn (.func 272) [] [],.fn (.func 273) [] [.ptr 1 0]],.cells 308 [.ptr 0 0]]) r):=by
 refine Qb func233 Z Z Z ?_;refine G0 2 Z (S Z (Go 4 Z ?_));refine vX (.agg [.nilf,.nilf,.nilf,.nilf]) (Jz (n:=4) (k:=1) (parts:=[]) (zs:=[.nilf,.nilf,.nilf,.nilf]) zeroValue340 (ZR.agg (zc ZR.nilf (zc ZR.nilf (zc ZR.nilf (zc ZR.nilf ZL.nil))))) runUnderlying340 sizeOf307 Z) ?_;refine Go 9 Z ?_;refine vX (.ptr 0 1) (Q2 (i:=1) (n:=4) (k:=1) (j:=1) (by decide) Z runUnderlying340 sizeOf307 Z) ?_;refine Go 8 Z ?_;refine vX (.ptr 0 2) (Q2 (i:=2) (n:=4) (k:=1) (j:=2) (by decide) Z runUnderlying340 sizeOf307 Z) ?_;refine Go 9 Z ?_;refine vX (.ptr 0 3) (Q2 (i:=3) (n:=4) (k:=1) (j:=3) (by decide) Z runUnderlying340 sizeOf307 Z) ?_;exact Go 11 Z (Rt h 0 [0,1])
def F_as(n:Nat)(a:Int):Option Unit:=
  some ()
theorem k_as(n:Nat)(a:Int)(r:Unit)(h:F_as n a=some r):
    Csm prog 271 [I a] [] (λ_=>.int .u64 (Qew .u64 (QeC .u64 (IntKind.u64.wrap a) 1) (IntKind.u64.wrap (Qcs .i64 a 63)))) r:=by
 refine Qb func271 Z Z Z ?_;refine G0 8 Z ?_;refine vX (.int .u64 (IntKind.u64.wrap a)) (Qau Z runUnderlying3 runUnderlying295 Z) ?_;refine vX (.int .u64 (QeC .u64 (IntKind.u64.wrap a) 1)) (OpV.shl Z Z Z (by decide)) ?_;refine Go 1 Z ?_;refine vX (I (Qcs .i64 a 63)) (OpV.shr Z Z Z (by decide)) ?_;refine vX (.int .u64 (IntKind.u64.wrap (Qcs .i64 a 63))) (Qau Z runUnderlying3 runUnderlying295 Z) ?_;refine vX (.int .u64 (Qew .u64 (QeC .u64 (IntKind.u64.wrap a) 1) (IntKind.u64.wrap (Qcs .i64 a 63)))) (OpV.xor Z Z Z) ?_;exact Go 4 Z (Rt h 2 [])
def F_fr(n:Nat)(a:(List Int)×Int):Option (Ctl ((List Int)×Int) ((List Int)×Int)):=
  (bif decide (128<=a.2)then(app a.1 [orI .u8 (IntKind.u8.wrap a.2) 128]).bind λb=>some (.cont (b,Qcs .u64 a.2 7))else some (.done (a.1,a.2)))
def F_q(n:Nat)(c:List Int)(d:Int):Option (List Int):=
  (iter (F_fr n) n (c,d):Option ((List Int)×Int)).bind λa=>(app a.1 [IntKind.u8.wrap a.2]).bind λb=>some b
theorem k_q(n:Nat)(d:List Int)(k:Int)(r:List Int)(h:F_q n d k=some r):
    C prog 270 [.osl 0 0 d.length 1,.int .u64 k] [.row 5 1 (List.map (Qj .u8) d)] (RQ (λr=>.osl 1 0 r.length 1) (λr=>[.dead,.row 5 1 (List.map (Qj .u8) r)]) r):=by
 refine Qb func270 Z Z Z ?_;refine G0 6 Z (Bd h λc p h=>?_);refine Ct c [0,0] [] (λc=>[(0,.osl 1 0 c.1.length 1),(1,.int .u64 c.2)]) (λc=>[(0,.dead),(1,.row 5 1 (List.map (Qj .u8) c.1))]) Zf ?_ (λenv H l=>?_)
 .refine G0 1 Z ?_;refine Lp [0,0] [] (λb=>[(0,.osl 1 0 b.1.length 1),(1,.int .u64 b.2)]) (λb=>[(0,.dead),(1,.row 5 1 (List.map (Qj .u8) b.1))]) p Zf ?_ ?_
  .refine Em (Qly (s:=0) (i:=0) Z Z Z) ?_;exact Lr [0,1]
  intro b q a m;refine G0 7 Z (Jl Z a (λf a=>?_) (λf a=>?_))
  .refine Gc 2 Z (Qy a ?_);obtain rfl:=Oj m a;exact Gx 1 Z (QH (Lr [0,1]))
  refine Gc 7 Z ?_;refine vX (.int .u8 (IntKind.u8.wrap b.2)) (Qau Z runUnderlying295 runUnderlying5 Z) ?_;refine vX (.int .u8 (orI .u8 (IntKind.u8.wrap b.2) 128)) (OpV.or Z Z Z) ?_;refine vH (Ek (xs:=[.tmp 12]) (es:=List.map (Qj .u8) [orI .u8 (IntKind.u8.wrap b.2) 128]) Jw Z Z Z Z Z ⟨Z,trivial⟩ Z Z) ?_;refine FE Z (Bd a λt g a=>?_);refine vH (QR (e:=(Qj .u8)) g Jw runUnderlying178 (Jy (i:=2))) ?_;refine FE Z (Go 6 Z ?_);refine vX (.int .u64 (Qcs .u64 b.2 7)) (OpV.shr Z Z Z (by decide)) ?_;exact Go 2 Z (Qt a (Lr [0,3]))
 refine Gx 1 Z (Ef l (Gc 4 Z ?_));refine vX (.int .u8 (IntKind.u8.wrap c.2)) (Qau Z runUnderlying295 runUnderlying5 Z) ?_;refine vH (Ek (xs:=[.tmp 17]) (es:=List.map (Qj .u8) [IntKind.u8.wrap c.2]) Jw Z Z Z Z Z ⟨Z,trivial⟩ Z Z) ?_;refine FE Z (Bd h λu j h=>?_);refine vH (QR (e:=(Qj .u8)) j Jw runUnderlying178 (Jy (i:=2))) ?_;exact FE Z (Go 4 Z (Rt h 4 [0,3]))
def F_gk(n:Nat)(a:Value):Option (List Int):=
  (app [] [1]).bind λb=>(F_as n a.N).bind λd=>(F_q n b (Qew .u64 (QeC .u64 (IntKind.u64.wrap a.N) 1) (IntKind.u64.wrap (Qcs .i64 a.N 63)))).bind λc=>some c
theorem k_gk(n:Nat)(a:Value)(r:List Int)(h:F_gk n a=some r):
    C prog 269 [.nils,.agg (Value.c a)] [] (RQ (λr=>.osl 0 0 r.length 1) (λr=>[.row 5 1 (List.map (Qj .u8) r)]) r):=by
 refine Qb func269 Z Z Z ?_;refine G0 7 Z (DAs 5 2 [0,0,1,3,3] (by kernel_rfl) (Da 1 Z ?_));refine DA.wo (x:=.rsl 1 (List.map (Qj .u8) [1])) ?_ ?_
 .refine vH (YP (xs:=[.const (.int .u8 1)]) (es:=List.map (Qj .u8) [1]) Jw Z Z Z Z Z ⟨Z,trivial⟩ Z Z) ?_;exact FE Z Wp
 obtain⟨g,b,h⟩:=bnd h;refine Qb4 (QiK (e:=(Qj .u8)) b Jw runUnderlying178 Qai) Z Z (Db 1 Z ?_);refine DB.wo2 (x:=I a.N) (Ld isAgg3 Z Wp) (Ld isAgg3 Z Wp) ?_;exact DB.done Z (Cz [] h (k_as _ _) Z λi d h=>Cd [1] h (k_q _ _ _) Z λj f h=>FE Z (Go 4 Z (Rt h 4 [2])))
def F_ae(n:Nat)(b:List Int)(a:Value):Option (List Int):=
  (app b [1]).bind λc=>(F_as n a.N).bind λe=>(F_q n c (Qew .u64 (QeC .u64 (IntKind.u64.wrap a.N) 1) (IntKind.u64.wrap (Qcs .i64 a.N 63)))).bind λd=>some d
theorem k_ae(n:Nat)(a:List Int)(b:Value)(r:List Int)(h:F_ae n a b=some r):
    C prog 269 [.osl 0 0 a.length 1,.agg (Value.c b)] [.row 5 1 (List.map (Qj .u8) a)] (RQ (λr=>.osl 1 0 r.length 1) (λr=>[.dead,.row 5 1 (List.map (Qj .u8) r)]) r):=by
 refine Qb func269 Z Z Z ?_;refine G0 7 Z (DAs 5 2 [0,0,1,3,3] (by kernel_rfl) (Da 1 Z ?_));refine DA.wo (x:=.rsl 1 (List.map (Qj .u8) [1])) ?_ ?_
 .refine vH (YP (xs:=[.const (.int .u8 1)]) (es:=List.map (Qj .u8) [1]) Jw Z Z Z Z Z ⟨Z,trivial⟩ Z Z) ?_;exact FE Z Wp
 obtain⟨i,d,h⟩:=bnd h;refine Qb4 (QR (e:=(Qj .u8)) d Jw runUnderlying178 Qai) Z Z (Db 1 Z ?_);refine DB.wo2 (x:=I b.N) (Ld isAgg3 Z Wp) (Ld isAgg3 Z Wp) ?_;exact DB.done Z (Cz [] h (k_as _ _) Z λj f h=>Cd [2] h (k_q _ _ _) Z λk g h=>FE Z (Go 4 Z (Rt h 4 [0,3])))
def F_ic(n:Nat)(c:Value)(rec150:(List Int)->Value->Option (List Int))(a:(List Int)×Int):Option (Ctl ((List Int)×Int) (List Int)):=
  (bif decide (a.2<(c.L.length:Int))then(idx c.L a.2).bind λb=>(bif (b.Kind==0)then none else(bif (b.Kind==1)then(F_ae n a.1 b).bind λd=>some (.cont (d,IntKind.i64.wrap (a.2+1)))else(bif (b.Kind==2)then none else(bif (b.Kind==3)then(rec150 a.1 b).bind λe=>some (.cont (e,IntKind.i64.wrap (a.2+1)))else none))))else some (.done a.1))
def B_am(rec150:(List Int)->Value->Option (List Int))(n:Nat)(c:List Int)(a:Value):Option (List Int):=
  (app c [3]).bind λd=>(F_q n d (IntKind.u64.wrap (a.L.length:Int))).bind λe=>(iter (F_ic n a rec150) n (e,0):Option (List Int)).bind λb=>some b
theorem QaZ(rec150:(List Int)->Value->Option (List Int))(l:∀(g:List Int) (b:Value) (r:List Int),rec150 g b=some r->C prog 273 [.osl 0 0 g.length 1,.agg (Value.c b),.ptr 1 0] [.row 5 1 (List.map (Qj .u8) g),.cells 308 [.ptr 2 0],.cells 340 [.nilf,.fn (.func 269) [] [],.fn (.func 272) [] [],.fn (.func 273) [] [.ptr 1 0]]] (RQ (λr=>.osl 3 0 r.length 1) (λr=>[.dead,.cells 308 [.ptr 2 0],.cells 340 [.nilf,.fn (.func 269) [] [],.fn (.func 272) [] [],.fn (.func 273) [] [.ptr 1 0]],.row 5 1 (List.map (Qj .u8) r)]) r))(n:Nat)(g:List Int)(b:Value)(r:List Int)(h:B_am rec150 n g b=some r):
    C prog 273 [.osl 0 0 g.length 1,.agg (Value.c b),.ptr 1 0] [.row 5 1 (List.map (Qj .u8) g),.cells 308 [.ptr 2 0],.cells 340 [.nilf,.fn (.func 269) [] [],.fn (.func 272) [] [],.fn (.func 273) [] [.ptr 1 0]]] (RQ (λr=>.osl 3 0 r.length 1) (λr=>[.dead,.cells 308 [.ptr 2 0],.cells 340 [.nilf,.fn (.func 269) [] [],.fn (.func 272) [] [],.fn (.func 273) [] [.ptr 1 0]],.row 5 1 (List.map (Qj .u8) r)]) r):=by
 refine Qb func273 Z Z Z ?_;refine G0 7 Z (DAs 7 2 [0,0,1,3,3,3,3] (by kernel_rfl) (Da 1 Z ?_));refine DA.wo (x:=.rsl 1 (List.map (Qj .u8) [3])) ?_ ?_
 .refine vH (YP (xs:=[.const (.int .u8 3)]) (es:=List.map (Qj .u8) [3]) Jw Z Z Z Z Z ⟨Z,trivial⟩ Z Z) ?_;exact FE Z Wp
 obtain⟨P,z,h⟩:=bnd h;refine Qb4 (QR (e:=(Qj .u8)) z Jw runUnderlying178 Qai) Z Z (Db 1 Z ?_);refine DB.wo2 (x:=.rsl 4 (List.map Value.enc b.L)) (Ld isAgg262 Z Wp) (Ld isAgg262 Z Wp) ?_;refine DB.wo2 (x:=I (b.L.length:Int)) (LnM runUnderlying262 Z Wp) (LnM runUnderlying262 Z Wp) ?_;refine DB.wo2 (x:=.int .u64 (IntKind.u64.wrap (b.L.length:Int))) ?_ ?_ ?_
 .refine vX (.int .u64 (IntKind.u64.wrap (b.L.length:Int))) (Qau Z runUnderlying3 runUnderlying295 Z) ?_;exact Wp
 .refine vX (.int .u64 (IntKind.u64.wrap (b.L.length:Int))) (Qau Z runUnderlying3 runUnderlying295 Z) ?_;exact Wp
 refine DB.done Z (Cd [4] h (k_q _ _ _) Z λQ J h=>FE Z (Go 8 Z (Lm Z (Go 3 Z (Bd h λd B h=>?_)))));refine Ct d [0,1,2,3] [] (λd=>[(0,.osl 3 0 d.length 1)]) (λd=>[(3,.row 5 1 (List.map (Qj .u8) d))]) Zf ?_ (λenv H E=>?_)
 .refine G0 1 Z ?_;refine Lp [0,1,2,5] [2,17,18] (λf=>[(0,.osl 3 0 f.1.length 1),(19,I f.2)]) (λf=>[(3,.row 5 1 (List.map (Qj .u8) f.1))]) B Zf (Lr [0,1,2,5]) λf M a s=>?_;refine G0 6 Z (Jl Z a (λt a=>?_) (λt a=>?_))
  .refine Gc 2 Z (Qy a ?_);obtain rfl:=Oj s a;exact Gx 1 Z (QH (Lr [0,1,2,3]))
  refine Gc 6 Z (Bd a λm u a=>IzE u (QbC m) Z (Go 5 Z (DSs 9 Z (D 4 Z (If a (λw a=>?_) (λw a=>?_))))))
  .cases a
  .refine If a (λp a=>?_) (λp a=>?_)
   .refine DS.v (x:=(.ptr 2 1)) (Q2 (i:=m.Kind) (n:=4) (k:=1) (j:=1) p Z runUnderlying340 sizeOf307 Z) ?_;exact D 4 Z (Eh Z (Cd [3] a (k_ae _ _ _) Z λN F a=>FE Z (Go 8 Z (Qt a (Lr [0,1,2,5])))))
   .refine If a (λy a=>?_) (λy a=>?_)
    .cases a
    .refine If a (λq a=>?_) (λq a=>?_)
     .refine DS.v (x:=(.ptr 2 3)) (Q2 (i:=m.Kind) (n:=4) (k:=1) (j:=3) q Z runUnderlying340 sizeOf307 Z) ?_;exact D 4 Z (Eh Z (Cd [3,1,2] a (l _ _) Z λO G a=>FE Z (Go 8 Z (Qt a (Lr [0,1,2,5])))))
     .cases a
 exact Gx 1 Z (Ef E (Gc 7 Z (Rt h 5 [0,1,2,3])))
def F_am:Nat->(List Int)->Value->Option (List Int)
  |0=>λ_ _=>none
  |n+1=>B_am (F_am n) n
theorem k_am(n:Nat):∀(a:List Int) (b:Value) (r:List Int),F_am n a b=some r->C prog 273 [.osl 0 0 a.length 1,.agg (Value.c b),.ptr 1 0] [.row 5 1 (List.map (Qj .u8) a),.cells 308 [.ptr 2 0],.cells 340 [.nilf,.fn (.func 269) [] [],.fn (.func 272) [] [],.fn (.func 273) [] [.ptr 1 0]]] (RQ (λr=>.osl 3 0 r.length 1) (λr=>[.dead,.cells 308 [.ptr 2 0],.cells 340 [.nilf,.fn (.func 269) [] [],.fn (.func 272) [] [],.fn (.func 273) [] [.ptr 1 0]],.row 5 1 (List.map (Qj .u8) r)]) r):=by
  induction n with
  |zero=>intro a b r h;cases h
  |succ n ih=>intro a b r h;exact QaZ _ ih n a b r h
def F_gg(n:Nat)(c:Value)(a:(List Int)×Int):Option (Ctl ((List Int)×Int) (List Int)):=
  (bif decide (a.2<(c.L.length:Int))then(idx c.L a.2).bind λb=>(bif (b.Kind==0)then none else(bif (b.Kind==1)then(F_ae n a.1 b).bind λd=>some (.cont (d,IntKind.i64.wrap (a.2+1)))else(bif (b.Kind==2)then none else(bif (b.Kind==3)then(F_am n a.1 b).bind λe=>some (.cont (e,IntKind.i64.wrap (a.2+1)))else none))))else some (.done a.1))
def F_cl(n:Nat)(a:Value):Option (List Int):=
  (app [] [3]).bind λc=>(F_q n c (IntKind.u64.wrap (a.L.length:Int))).bind λd=>(iter (F_gg n a) n (d,0):Option (List Int)).bind λb=>some b
theorem k_cl(n:Nat)(f:Value)(r:List Int)(h:F_cl n f=some r):
    C prog 273 [.nils,.agg (Value.c f),.ptr 0 0] [.cells 308 [.ptr 1 0],.cells 340 [.nilf,.fn (.func 269) [] [],.fn (.func 272) [] [],.fn (.func 273) [] [.ptr 0 0]]] (RQ (λr=>.osl 2 0 r.length 1) (λr=>[.cells 308 [.ptr 1 0],.cells 340 [.nilf,.fn (.func 269) [] [],.fn (.func 272) [] [],.fn (.func 273) [] [.ptr 0 0]],.row 5 1 (List.map (Qj .u8) r)]) r):=by
 refine Qb func273 Z Z Z ?_;refine G0 7 Z (DAs 7 2 [0,0,1,3,3,3,3] (by kernel_rfl) (Da 1 Z ?_));refine DA.wo (x:=.rsl 1 (List.map (Qj .u8) [3])) ?_ ?_
 .refine vH (YP (xs:=[.const (.int .u8 3)]) (es:=List.map (Qj .u8) [3]) Jw Z Z Z Z Z ⟨Z,trivial⟩ Z Z) ?_;exact FE Z Wp
 obtain⟨N,w,h⟩:=bnd h;refine Qb4 (QiK (e:=(Qj .u8)) w Jw runUnderlying178 Qai) Z Z (Db 1 Z ?_);refine DB.wo2 (x:=.rsl 4 (List.map Value.enc f.L)) (Ld isAgg262 Z Wp) (Ld isAgg262 Z Wp) ?_;refine DB.wo2 (x:=I (f.L.length:Int)) (LnM runUnderlying262 Z Wp) (LnM runUnderlying262 Z Wp) ?_;refine DB.wo2 (x:=.int .u64 (IntKind.u64.wrap (f.L.length:Int))) ?_ ?_ ?_
 .refine vX (.int .u64 (IntKind.u64.wrap (f.L.length:Int))) (Qau Z runUnderlying3 runUnderlying295 Z) ?_;exact Wp
 .refine vX (.int .u64 (IntKind.u64.wrap (f.L.length:Int))) (Qau Z runUnderlying3 runUnderlying295 Z) ?_;exact Wp
 refine DB.done Z (Cd [3] h (k_q _ _ _) Z λO F h=>FE Z (Go 8 Z (Lm Z (Go 3 Z (Bd h λb y h=>?_)))));refine Ct b [0,1,2] [] (λb=>[(0,.osl 2 0 b.length 1)]) (λb=>[(2,.row 5 1 (List.map (Qj .u8) b))]) Zf ?_ (λenv H z=>?_)
 .refine G0 1 Z ?_;refine Lp [0,1,4] [2,17,18] (λd=>[(0,.osl 2 0 d.1.length 1),(19,I d.2)]) (λd=>[(2,.row 5 1 (List.map (Qj .u8) d.1))]) y Zf (Lr [0,1,4]) λd G a p=>?_;refine G0 6 Z (Jl Z a (λq a=>?_) (λq a=>?_))
  .refine Gc 2 Z (Qy a ?_);obtain rfl:=Oj p a;exact Gx 1 Z (QH (Lr [0,1,2]))
  refine Gc 6 Z (Bd a λg s a=>IzE s (QbC g) Z (Go 5 Z (DSs 9 Z (D 4 Z (If a (λt a=>?_) (λt a=>?_))))))
  .cases a
  .refine If a (λl a=>?_) (λl a=>?_)
   .refine DS.v (x:=(.ptr 1 1)) (Q2 (i:=g.Kind) (n:=4) (k:=1) (j:=1) l Z runUnderlying340 sizeOf307 Z) ?_;exact D 4 Z (Eh Z (Cd [2] a (k_ae _ _ _) Z λJ B a=>FE Z (Go 8 Z (Qt a (Lr [0,1,4])))))
   .refine If a (λu a=>?_) (λu a=>?_)
    .cases a
    .refine If a (λm a=>?_) (λm a=>?_)
     .refine DS.v (x:=(.ptr 1 3)) (Q2 (i:=g.Kind) (n:=4) (k:=1) (j:=3) m Z runUnderlying340 sizeOf307 Z) ?_;exact D 4 Z (Eh Z (Cd [2,0,1] a (k_am _ _ _) Z λM E a=>FE Z (Go 8 Z (Qt a (Lr [0,1,4])))))
     .cases a
 exact Gx 1 Z (Ef z (Gc 7 Z (Rt h 5 [0,1,2])))
def F_fh(n:Nat)(a:Value):Option ((List Int)×Int):=
  (F_ec n a).bind λb=>(bif (b != 0)then some ([],b)else(F_ef n).bind λe=>(bif (a.Kind==0)then none else(bif (a.Kind==1)then(F_gk n a).bind λc=>some (c,0)else(bif (a.Kind==2)then none else(bif (a.Kind==3)then(F_cl n a).bind λd=>some (d,0)else none)))))
theorem k_fh(n:Nat)(a:Value)(r:(List Int)×Int)(h:F_fh n a=some r):
    C prog 178 [.agg (Value.c a)] [] (RQ (λr=>.tup [.osl 0 0 r.1.length 1,I r.2]) (λr=>[.row 5 1 (List.map (Qj .u8) r.1)]) r):=by
 refine Qb func178 Z Z Z ?_;refine G0 11 Z (Cz [] h (k_ec _ _) Z λu m h=>Go 9 Z (Cn Z h (λe h=>?_) (λe h=>?_)))
 .refine Gc 9 Z ?_;obtain rfl:=Oi h;refine R2 2 3 Z Z ?_;refine Em (Ep (s:=2) (k:=1) (t:=5) (XS Z) Z) ?_;exact Lr [1]
 refine Gc 3 Z (DAs 8 0 [1,3,3,2,2,2,2,3] (by kernel_rfl) ?_);obtain⟨w,f,h⟩:=bnd h;refine DA.op (x:=.ptr 1 0) (H1:=[.cells 264 (Value.c a),.cells 340 [.nilf,.fn (.func 269) [] [],.fn (.func 272) [] [],.fn (.func 273) [] [.ptr 2 0]],.cells 308 [.ptr 1 0]]) ?_ ?_
 .refine QP [] (OpC.fn call233 Z Z Z) (k_ef _ _ f) ?_;rintro _ _ ⟨rfl,rfl⟩;exact FE Z Wp
 refine Db 1 Z ?_;refine DB.wo2 (x:=I a.Kind) (Ld isAgg3 Z Wp) (Ld isAgg3 Z Wp) ?_;refine Db 1 Z (If h (λg h=>?_) (λg h=>?_))
 .cases h
 .refine If h (λb h=>?_) (λb h=>?_)
  .refine DB.wo1 (x:=.ptr 1 1) ?_ ?_
   .refine vX (.ptr 1 1) (Q2 (i:=a.Kind) (n:=4) (k:=1) (j:=1) b Z runUnderlying340 sizeOf307 Z) ?_;exact Wp
   refine Db 2 Z ?_;refine DB.wo2 (x:=.agg (Value.c a)) ?_ ?_ ?_
   .refine vX (.agg (Value.c a)) (Qh Z isAgg264 sizeOf264 Z (Pts.cells Z Z) Z Z) ?_;exact Wp
   .refine vX (.agg (Value.c a)) (Qh Z isAgg264 sizeOf264 Z (Pts.cells Z Z) Z Z) ?_;exact Wp
   refine DB.done Z (Cd [] h (k_gk _ _) Z λy p h=>FE Z (Go 5 Z ?_));obtain rfl:=Oi h;exact R2 2 3 Z Z (Lr [3])
  .refine If h (λl h=>?_) (λl h=>?_)
   .cases h
   .refine If h (λd h=>?_) (λd h=>?_)
    .refine DB.wo1 (x:=.ptr 1 3) ?_ ?_
     .refine vX (.ptr 1 3) (Q2 (i:=a.Kind) (n:=4) (k:=1) (j:=3) d Z runUnderlying340 sizeOf307 Z) ?_;exact Wp
     refine Db 2 Z ?_;refine DB.wo2 (x:=.agg (Value.c a)) ?_ ?_ ?_
     .refine vX (.agg (Value.c a)) (Qh Z isAgg264 sizeOf264 Z (Pts.cells Z Z) Z Z) ?_;exact Wp
     .refine vX (.agg (Value.c a)) (Qh Z isAgg264 sizeOf264 Z (Pts.cells Z Z) Z Z) ?_;exact Wp
     refine DB.done Z (Cd [2,1] h (k_cl _ _) Z λz q h=>FE Z (Go 5 Z ?_));obtain rfl:=Oi h;exact R2 2 3 Z Z (Lr [3])
    .cases h
def F_hl(n:Nat)(b:(List Int)×Bool)(a:(List Value)×Int):Option (Ctl ((List Value)×Int) (List Value)):=
  (bif decide (a.2<(b.1.length:Int))then(idx b.1 a.2).bind λc=>(app a.1 [{Kind:=1,N:=c,S:=[],L:=[]:Value}]).bind λd=>some (.cont (d,IntKind.i64.wrap (a.2+1)))else some (.done a.1))
def F_ai(n:Nat)(d:Fact):Option ((List Int)×Int):=
  (F_aj n d).bind λb=>(bif (!b.2)then some ([],120)else(iter (F_hl n b) n ([],0):Option (List Value)).bind λc=>(F_fh n ({Kind:=3,N:=0,S:=[],L:=c:Value})).bind λa=>some (a.1,a.2))
theorem k_ai(n:Nat)(q:Fact)(r:(List Int)×Int)(h:F_ai n q=some r):
    C prog 97 [.agg (Fact.c q)] [] (RQ (λr=>.tup [.osl 0 0 r.1.length 1,I r.2]) (λr=>[.row 5 1 (List.map (Qj .u8) r.1)]) r):=by
 refine Qb func97 Z Z Z ?_;refine G0 10 Z (Cd [] h (k_aj _ _) Z λG z h=>FE Z (Go 14 Z (Cn Z h (λu h=>?_) (λu h=>?_))))
 .refine Gc 8 Z ?_;obtain rfl:=Oi h;refine R2 2 3 Z Z ?_;refine Em (Ep (s:=2) (k:=1) (t:=5) (XS Z) Z) ?_;exact Lr [2]
 refine Gc 4 Z ?_;refine vX (.agg [I 3,I 0,.str [],.nils]) (OpV.build (zs:=[I 0,I 0,.str [],.nils]) zeroValue264 (zrC Z) Qi9) ?_;refine vH (QfB (v:=(.agg [I 0,I 0,.str [],.nils])) zeroValue264 (zrC Z)) ?_;refine FE Z (Go 11 Z (Bd h λd w h=>?_));refine Ct d [0,1] [] (λ_=>[(6,.ptr 0 0)]) (λd=>[(0,.cells 264 [I 3,I 0,.str [],.osl 1 0 d.length 4]),(1,.row 264 4 (List.map Value.enc d))]) Zf ?_ (λenv H x=>?_)
 .refine G0 1 Z ?_;refine Lp [2,0,1] [6,17,18] (λb=>[(19,I b.2)]) (λb=>[(0,.cells 264 [I 3,I 0,.str [],.osl 1 0 b.1.length 4]),(1,.row 264 4 (List.map Value.enc b.1))]) w Zf ?_ ?_
  .refine Em (Qd8 (i:=2) (m:=3) (t:=264) (k:=4) Z Z Z) ?_;exact Lr [2,3,1]
  intro b B a j;refine G0 6 Z (Jl Z a (λl a=>?_) (λl a=>?_))
  .refine Gc 2 Z (Qy a ?_);obtain rfl:=Oj j a;exact Gx 1 Z (QH (Lr [0,1]))
  refine Gc 6 Z (Bd a λg f a=>?_);refine vX (.ptr 2 (Int.toNat b.2*1)) (Q7 f Z runUnderlying40 sizeOf3) ?_;refine vX (I g) (Ey Z isAgg3 Z (Qu f)) ?_;refine Go 8 Z ?_;refine vH (Ek (xs:=[.tmp 26]) (es:=List.map Value.enc [{Kind:=1,N:=g,S:=[],L:=[]:Value}]) QmM Z Z Z Z Z ⟨Z,trivial⟩ Z Z) ?_;refine FE Z (Bd a λE p a=>?_);refine vH (QR (e:=Value.enc) p QmM runUnderlying262 (Jy (i:=3))) ?_;exact FE Z (Go 9 Z (Qt a (Lr [0,4,2])))
 refine Gx 1 Z (Ef x (Gc 3 Z ?_));refine Er (QaU [(31,_)] Z Z (Qnn.cons Z (FzA.agg (Ed (Ee _) (Ed (Ee _) (Ed (Ee _) (Ed Eo (Ej _)))))) Qnn.nil) (FzH.cells (Ed (Ee _) (Ed (Ee _) (Ed (Ee _) (Ed Eo (Ej _))))) (Ec (Y8 _)))) ?_;refine Cd [] h (k_fh _ _) Z λF y h=>FE Z (Go 7 Z ?_);obtain rfl:=Oi h;exact R2 2 3 Z Z (Lr [2])
def F_gi(n:Nat)(a:List Int)(b:List Int):Option Unit:=
  some ()
theorem k_gi(n:Nat)(a:List Int)(b:List Int)(r:Unit)(h:F_gi n a b=some r):
    Csm prog 98 [.rsl 1 (List.map (Qj .u8) a),.rsl 1 (List.map (Qj .u8) b)] [] (λ_=>I (cmpB a b)) r:=by
 refine Qb func98 Z Z Z ?_;refine G0 9 Z ?_;refine vX (I (cmpB a b)) (OpV.cmpB (l:=a) (m:=b) func179 (by kernel_rfl) (by kernel_rfl) (by kernel_rfl) (by kernel_rfl) Qlg.rsl Qlg.rsl) ?_;exact Go 4 Z (Rt h 4 [])
def F_r(n:Nat)(a:Fact)(b:Fact):Option Int:=
  (F_t n a.At b.At).bind λf=>(F_t n a.Crew b.Crew).bind λg=>(F_t n a.No b.No).bind λh=>(F_ca n [f,g,h]).bind λc=>(bif (c != 0)then some c else(F_ai n a).bind λd=>(F_ai n b).bind λe=>(F_gi n d.1 e.1).bind λi=>some (cmpB d.1 e.1))
theorem k_r(n:Nat)(a:Fact)(b:Fact)(r:Int)(h:F_r n a b=some r):
    Csm prog 57 [.agg (Fact.c a),.agg (Fact.c b)] [] (λr=>I r) r:=by
 refine Qb func57 Z Z Z ?_;refine G0 9 Z (DSs 14 Z (D 4 Z ?_));refine Dz [] h (k_t _ _ _) Z λe i h=>D 4 Z ?_;refine Dz [] h (k_t _ _ _) Z λf j h=>D 4 Z (Eh Z (Cz [] h (k_t _ _ _) Z λg k h=>?_));refine vH (YP (xs:=[.tmp 14,.tmp 19,.tmp 24]) (es:=List.map (Qj .i64) [e,f,g]) Yh Z Z Z Z Z ⟨Z,Z,Z,trivial⟩ Z Z) ?_;refine FE Z (Cz [] h (k_ca _ _) Z λs l h=>Go 9 Z (Cn Z h (λd h=>?_) (λd h=>?_)))
 .exact Gc 8 Z (Rt h 4 [])
 exact Gc 5 Z (Cd [] h (k_ai _ _) Z λt m h=>FE Z (Go 10 Z (Cd [] h (k_ai _ _) Z λu p h=>FE Z (Go 11 Z (Cb h (k_gi _ _ _) Z (lo (lo ln)) λw q h=>Go 4 Z (Rt h 4 []))))))
def F_ar(n:Nat)(a:Fact)(b:Fact):Option Bool:=
  (F_r n a b).bind λc=>some (c==0)
theorem k_ar(n:Nat)(a:Fact)(b:Fact)(r:Bool)(h:F_ar n a b=some r):
    Csm prog 95 [.agg (Fact.c a),.agg (Fact.c b),.ptr 0 0] [.cells 125 [.fn (.func 57) [] []]] (λr=>.bool r) r:=by
 refine Qb func95 Z Z Z ?_;exact G0 12 Z (Cz [] h (k_r _ _ _) Z λe d h=>Go 5 Z (Rt h 5 [0]))
def F_do(n:Nat)(d:List Fact)(b:Int)(a:(List Fact)×Int×Int):Option (Ctl ((List Fact)×Int×Int) ((List Fact)×Int)):=
  (bif decide (a.2.2<((Int.toNat (d.length:Int)-Int.toNat b:Nat):Int))then(Qg0 a.1 b (d.length:Int) a.2.2).bind λe=>(Qg0 a.1 b (d.length:Int) (IntKind.i64.wrap (a.2.2-1))).bind λf=>(F_ar n e f).bind λg=>((bif (!g)then(Qg0 a.1 b (d.length:Int) a.2.2).bind λh=>(idx a.1 a.2.1).bind λj=>(Qdk a.1 a.2.1 h).bind λi=>some (i,IntKind.i64.wrap (a.2.1+1))else some (a.1,a.2.1)):Option ((List Fact)×Int)).bind λc=>some (.cont (c.1,c.2,IntKind.i64.wrap (a.2.2+1)))else some (.done (a.1,a.2.1)))
def F_ek(n:Nat)(b:List Fact)(a:Int):Option (Ctl Int (Ctl Unit (List Fact))):=
  (bif decide (a<(b.length:Int))then(idx b a).bind λd=>(idx b (IntKind.i64.wrap (a-1))).bind λe=>(F_ar n d e).bind λf=>(bif f then(slc b a (b.length:Int)).bind λh=>(iter (F_do n b a) n (b,a,1):Option ((List Fact)×Int)).bind λc=>(slc c.1 0 c.2).bind λg=>some (.done (.done g))else some (.cont (IntKind.i64.wrap (a+1))))else some (.done (.cont ())))
def F_ce(n:Nat)(b:List Fact):Option (List Fact):=
  (bif decide ((b.length:Int)<2)then some b else(iter (F_ek n b) n 1:Option (Ctl Unit (List Fact))).bind λc=>match c with|.cont a=>(some b)|.done a=>some a)
theorem k_ce(n:Nat)(q:List Fact)(r:List Fact)(h:F_ce n q=some r):
    C prog 94 [.osl 0 0 q.length 57,.fn (.func 95) [] [.ptr 1 0]] [.row 68 57 (List.map Fact.c q),.cells 125 [.fn (.func 57) [] []]] (RQ (λr=>.osl 0 0 r.length 57) (λr=>[.row 68 57 (List.map Fact.c r),.cells 125 [.fn (.func 57) [] []]]) r):=by
 refine Qb func94 Z Z Z ?_;refine G0 13 Z (Cn Z h (λae h=>?_) (λae h=>?_))
 .exact Gc 8 Z (Rt h 4 [0,1])
 refine Gc 8 Z (Bd h λT V h=>?_);refine CtE (b:=T) [0,1] [0] Ze Ze Zf ?_ (λag env H af w=>?_)
 .refine G0 1 Z ?_;refine Lp [0,1] [0,1] (λg=>[(5,I g)]) Ze V Zf (Lr [0,1]) λg aj a y=>?_;refine G0 9 Z (Jl Z a (λM a=>?_) (λM a=>?_))
  .refine Gc 2 Z (Qy a ?_);obtain rfl:=Oj y a;exact Gx 1 Z (QI Z (Lr [0,1]))
  refine Gc 5 Z (DSs 10 Z (D 3 Z ?_));obtain⟨W,z,a⟩:=bnd a;refine DS.v (x:=(.ptr 0 (Int.toNat g*57))) (Q7 z Z runUnderlying34 sizeOf68) ?_;refine DS.v (x:=(.agg (Fact.c W))) (Qh Z isAgg68 sizeOf68 Z (Qu z) Z Z) ?_;refine D 3 Z ?_;obtain⟨X,B,a⟩:=bnd a;refine DS.v (x:=(.ptr 0 (Int.toNat (IntKind.i64.wrap (g-1))*57))) (Q7 B Z runUnderlying34 sizeOf68) ?_;refine DS.v (x:=(.agg (Fact.c X))) (Qh Z isAgg68 sizeOf68 Z (Qu B) Z Z) ?_;refine Eh Z (Cz [1] a (k_ar _ _ _) Z λak ah a=>Go 2 Z (Cn Z a (λN a=>?_) (λN a=>?_)))
  .refine Gc 4 Z (Bd a λal O a=>?_);refine vX (.osl 0 (0+Int.toNat g) (Int.toNat (q.length:Int)-Int.toNat g) 57) (Qlp (l:=q) O runUnderlying34 sizeOf68 (.inr ⟨_,Z,Z⟩) (.inl ⟨Z,Z⟩)) ?_;refine Go 9 Z (Bd a λj Y a=>?_);refine Ct j [0,1] [] (λj=>[(0,.osl 0 0 j.1.length 57),(5,I j.2)]) (λj=>[(0,.row 68 57 (List.map Fact.c j.1))]) Zf ?_ (λenv H w=>?_)
   .refine G0 1 Z ?_;refine Lp [0,1] [1,6] (λi=>[(0,.osl 0 0 i.1.length 57),(5,I i.2.1),(7,I i.2.2)]) (λi=>[(0,.row 68 57 (List.map Fact.c i.1))]) Y Zf (Lr [0,1]) λi am d P=>?_;refine G0 5 Z ?_;refine vX (I ((Int.toNat (q.length:Int)-Int.toNat g:Nat):Int)) (QiF Z Z runUnderlying34 Z) ?_;refine Go 3 Z (Jl Z d (λQ d=>?_) (λQ d=>?_))
    .refine Gc 2 Z (Qy d ?_);obtain rfl:=Oj P d;exact Gx 1 Z (QH (Lr [0,1]))
    refine Gc 5 Z (DSs 10 Z (D 3 Z ?_));obtain⟨aa,E,d⟩:=bnd d;refine DS.v (x:=(.ptr 0 (Int.toNat (g+i.2.2)*57))) (Qft (l:=i.1) (lo:=g) (hi:=(q.length:Int)) E runUnderlying34 sizeOf68) ?_;refine DS.v (x:=(.agg (Fact.c aa))) (Qh Z isAgg68 sizeOf68 Z (Qu (QgZ E)) Z Z) ?_;refine D 3 Z ?_;obtain⟨ab,F,d⟩:=bnd d;refine DS.v (x:=(.ptr 0 (Int.toNat (g+IntKind.i64.wrap (i.2.2-1))*57))) (Qft (l:=i.1) (lo:=g) (hi:=(q.length:Int)) F runUnderlying34 sizeOf68) ?_;refine DS.v (x:=(.agg (Fact.c ab))) (Qh Z isAgg68 sizeOf68 Z (Qu (QgZ F)) Z Z) ?_;refine Eh Z (Cz [1] d (k_ar _ _ _) Z λan ai d=>Go 3 Z (Bd d λp m d=>?_));refine Ct p [0,1] [1,6,7] (λp=>[(0,.osl 0 0 p.1.length 57),(5,I p.2)]) (λp=>[(0,.row 68 57 (List.map Fact.c p.1))]) Zf ?_ (λenv H w=>?_)
    .refine G0 0 Z (Cn Z m (λR m=>?_) (λR m=>?_))
     .refine Gc 6 Z (Bd m λac G m=>?_);refine vX (.ptr 0 (Int.toNat (g+i.2.2)*57)) (Qft (l:=i.1) (lo:=g) (hi:=(q.length:Int)) G runUnderlying34 sizeOf68) ?_;refine vX (.agg (Fact.c ac)) (Qh Z isAgg68 sizeOf68 Z (Qu (QgZ G)) Z Z) ?_;refine Bd m λao J m=>?_;refine vX (.ptr 0 (Int.toNat i.2.1*57)) (Q7 J Z runUnderlying34 sizeOf68) ?_;refine Bd m λaq t m=>?_;refine vU (QaT (e:=Fact.c) (k:=57) (f:=0) J t sizeOf68 Z Z) ?_;refine FE Z ?_;refine Er (QT (s:=0) Z (congrArg (λn=>A.osl 0 0 n 57) (Qa9 t))) ?_;refine Er (QT (s:=50) Z (congrArg (λn=>A.osl 0 0 n 57) (Qa9 t))) ?_;exact Go 7 Z (Cl m [0,1])
     exact Gc 1 Z (Cl m [0,1])
    exact Gx 2 Z (Ef w (Gc 5 Z (Qt d (Lr [0,1]))))
   refine Gx 1 Z (Ef w (Gc 4 Z (Bd a λL u a=>?_)));refine vX (.osl 0 (0+Int.toNat j.2) (j.1.length-Int.toNat j.2) 57) (Qfv (l:=j.1) u runUnderlying34 sizeOf68) ?_;refine vN (QfA (e:=Fact.c) (l:=j.1) u underlying34 zeroValue68 Z (by simp[Qm,Go.Value.cells])) ?_;refine QdD (H:=[.row 68 57 (List.map Fact.c L),.cells 125 [.fn (.func 57) [] []]]) Z ?_;refine Go 6 Z ?_;refine vX (.osl 0 0 L.length 57) (Qfw (l:=j.1) u runUnderlying34 sizeOf68) ?_;refine Go 6 Z (Yt a ?_);obtain rfl:=Oj y a;exact Gx 1 Z (Q4 (Gx 1 Z (Rt h 4 [0,1])))
  exact Gc 8 Z (Qt a (Lr [0,1]))
 subst af;exact Gx 1 Z (Ef w (Gc 7 Z (Rt h 4 [0,1])))
def F_ap(n:Nat)(a:List Fact):Option (List Fact):=
  (F_al n a).bind λb=>(QbL (λx y=>F_r n x y) b).bind λc=>(F_ce n c).bind λd=>some d
theorem k_ap(n:Nat)(b:List Fact)(r:List Fact)(h:F_ap n b=some r):
    C prog 56 [.rsl 57 (List.map Fact.c b),.fn (.func 57) [] []] [] (RQ (λr=>.osl 0 0 r.length 57) (λr=>[.row 68 57 (List.map Fact.c r)]) r):=by
 refine Qb func56 Z Z Z ?_;refine G0 9 Z (Cd [] h (k_al _ _) Z λf d h=>FE Z (Go 7 Z (Bd h λg a h=>?_)));refine QP [1] (OpC.fn call93 Z Z Z) (Qog (enc:=Fact.c) QgY a (λx y c h=>k_r n x y c h) isAgg68 sizeOf68 call57 Zf Z) ?_;rintro _ _ ⟨rfl,rfl⟩;refine FE Z ?_;refine Er (QT (s:=0) Z (congrArg (λn=>A.osl 1 0 n 57) (QaI a))) ?_;refine Er (QT (s:=6) Z (congrArg (λn=>A.osl 1 0 n 57) (QaI a))) ?_;refine Er (QT (s:=7) Z (congrArg (λn=>A.osl 1 0 n 57) (QaI a))) ?_;exact Go 6 Z (Cd [1,0] h (k_ce _ _) Z λi e h=>FE Z (Go 4 Z (Rt h 4 [1])))
def F_fb(n:Nat)(a:List Ub):Option (List Ub):=
  isNil a (some []) ((app ([]:List Ub) a).bind λb=>some b)
theorem k_fb(n:Nat)(a:List Ub)(r:List Ub)(h:F_fb n a=some r):
    C prog 172 [.rsl 1 (List.map Ub.ptr a)] [] (RQ (λr=>.osl 0 0 r.length 1) (λr=>[.row 119 1 (List.map Ub.ptr r)]) r):=by
 refine Qb func172 Z Z Z ?_;refine G0 9 Z ?_;refine Qiw (e:=Ub.ptr) (l:=a) underlying117 Z (λb1 b=>?_);have hkb1:=QhV h b1 b;cases b1
 .have h:=hkb1.2 Z;refine Go 7 Z ?_;refine vH (Ek (xs:=[]) (es:=List.map Ub.ptr []) Qhd Z Z Z Z Z trivial Z Z) ?_;refine FE Z (Go 1 Z (Bd h λd c h=>?_));refine vH (QR (e:=Ub.ptr) c Qhd runUnderlying117 Qai) ?_;exact FE Z (Go 4 Z (Rt h 2 [1]))
 .have h:=hkb1.1 Z;refine Go 10 Z ?_;obtain rfl:=Oi h;refine R1 2 Z ?_;refine Em (Ep (s:=2) (k:=1) (t:=119) (XS Z) Z) ?_;exact Lr [0]
def F_ad(n:Nat)(a:Ub)(b:Ub):Option Int:=
  (F_t n a.number b.number).bind λc=>some c
theorem k_ad(n:Nat)(a:Ub)(b:Ub)(r:Int)(h:F_ad n a b=some r):
    Csm prog 91 [.rp (Ub.c a),.rp (Ub.c b)] [] (λr=>I r) r:=by
 refine Qb func91 Z Z Z ?_;refine G0 6 Z (DSs 8 Z (D 2 Z ?_));refine DS.wo (x:=.rp [I a.number,.rsl 57 (List.map Fact.c a.r0),.rsl 57 (List.map Fact.c a.r1),.rsl 57 (List.map Fact.c a.r2),.rsl 4 (List.map Report.c a.reports),.bool a.appeal]) ?_ ?_
 .exact Fr Qh9 Z Wp
 refine D 3 Z ?_;refine DS.wo (x:=.rp [I b.number,.rsl 57 (List.map Fact.c b.r0),.rsl 57 (List.map Fact.c b.r1),.rsl 57 (List.map Fact.c b.r2),.rsl 4 (List.map Report.c b.reports),.bool b.appeal]) ?_ ?_
 .exact Fr Qh9 Z Wp
 exact D 1 Z (Eh Z (Cz [] h (k_t _ _ _) Z λe d h=>Go 4 Z (Rt h 4 [])))
def F_an(n:Nat)(a:Ub)(b:Ub):Option Bool:=
  (F_ad n a b).bind λc=>some (c==0)
theorem k_an(n:Nat)(a:Ub)(b:Ub)(r:Bool)(h:F_an n a b=some r):
    Csm prog 175 [.rp (Ub.c a),.rp (Ub.c b),.ptr 0 0] [.cells 173 [.fn (.func 91) [] []]] (λr=>.bool r) r:=by
 refine Qb func175 Z Z Z ?_;exact G0 10 Z (Cz [] h (k_ad _ _ _) Z λe d h=>Go 5 Z (Rt h 5 [0]))
def F_hw(n:Nat)(b:List Ub)(a:Int):Option (Ctl Int Unit):=
  (bif decide (a<(b.length:Int))then(idx b a).bind λc=>(idx b (IntKind.i64.wrap (a-1))).bind λd=>(F_an n c d).bind λe=>((bif (!e)then none else some ()):Option Unit).bind λf=>some (.cont (IntKind.i64.wrap (a+1)))else some (.done ()))
def F_hf(n:Nat)(b:List Ub)(a:Int):Option (Ctl Int Unit):=
  (bif decide (a<(b.length:Int))then(idx b a).bind λc=>(idx b (IntKind.i64.wrap (a-1))).bind λd=>(F_an n c d).bind λe=>(bif e then(slc b a (b.length:Int)).bind λf=>(iter (F_hw n f) n 1:Option Unit).bind λg=>none else some (.cont (IntKind.i64.wrap (a+1))))else some (.done ()))
def F_by(n:Nat)(a:List Ub):Option Unit:=
  (bif decide ((a.length:Int)<2)then some ()else(iter (F_hf n a) n 1:Option Unit).bind λb=>some ())
theorem k_by(n:Nat)(y:List Ub)(r:Unit)(h:F_by n y=some r):
    Csm prog 174 [.rsl 1 (List.map Ub.ptr y),.fn (.func 175) [] [.ptr 0 0]] [.cells 173 [.fn (.func 91) [] []]] (λ_=>.rsl 1 (List.map Ub.ptr y)) r:=by
 refine Qb func174 Z Z Z ?_;refine G0 9 Z (Lm Z (Go 3 Z (Cn Z h (λP h=>?_) (λP h=>?_))))
 .exact Gc 8 Z (Rt h 4 [0])
 refine Gc 8 Z (Bd h λz B h=>?_);refine Ct z [0] [0] Ze Ze Zf ?_ (λenv H e=>?_)
 .refine G0 1 Z ?_;refine Lp [0] [0,1] (λf=>[(5,I f)]) Ze B Zf (Lr [0]) λf T a i=>?_;refine G0 5 Z (Lm Z (Go 3 Z (Jl Z a (λj a=>?_) (λj a=>?_))))
  .refine Gc 2 Z (Qy a ?_);obtain rfl:=Oj i a;exact Gx 1 Z (QH (Lr [0]))
  refine Gc 5 Z (DSs 10 Z (D 3 Z ?_));obtain⟨E,k,a⟩:=bnd a;refine DS.wo (x:=.rp [.rp (Ub.c E)]) ?_ ?_
  .exact Ix k runUnderlying117 sizeOf119 Z Wp
  refine D 4 Z ?_;obtain⟨F,l,a⟩:=bnd a;refine DS.wo (x:=.rp [.rp (Ub.c F)]) ?_ ?_
  .exact Ix l runUnderlying117 sizeOf119 Z Wp
  refine D 1 Z (Eh Z (Cz [0] a (k_an _ _ _) Z λV Q a=>Go 2 Z (Cn Z a (λm a=>?_) (λm a=>?_))))
  .refine Gc 4 Z (Bd a λG p a=>?_);refine vX (.rsl 1 (List.map Ub.ptr G)) (QiG p runUnderlying117 sizeOf119 (.inr ⟨_,Z,Z⟩) (.inl ⟨Z,Z⟩)) ?_;refine Go 9 Z (Bd a λJ L a=>?_);refine Ct J [0] [0,5] Ze Ze Zf ?_ (λenv H e=>?_)
   .refine G0 1 Z ?_;refine Lp [0] [0,1,5,6] (λg=>[(7,I g)]) Ze L Zf (Lr [0]) λg W b q=>?_;refine G0 5 Z (Lm Z (Go 3 Z (Jl Z b (λs b=>?_) (λs b=>?_))))
    .refine Gc 2 Z (Qy b ?_);obtain rfl:=Oj q b;exact Gx 1 Z (QH (Lr [0]))
    refine Gc 5 Z (DSs 10 Z (D 3 Z ?_));obtain⟨M,t,b⟩:=bnd b;refine DS.wo (x:=.rp [.rp (Ub.c M)]) ?_ ?_
    .exact Ix t runUnderlying117 sizeOf119 Z Wp
    refine D 4 Z ?_;obtain⟨N,u,b⟩:=bnd b;refine DS.wo (x:=.rp [.rp (Ub.c N)]) ?_ ?_
    .exact Ix u runUnderlying117 sizeOf119 Z Wp
    refine D 1 Z (Eh Z (Cz [0] b (k_an _ _ _) Z λX R b=>Go 3 Z (Bd b λO d b=>?_)));refine Ct O [0] [0,1,5,6,7] Ze Ze Zf ?_ (λenv H e=>?_)
    .refine G0 0 Z (Cn Z d (λw d=>?_) (λw d=>?_))
     .refine Gc 1 Z ?_;cases d
     exact Gc 1 Z (Cl d [0])
    exact Gx 2 Z (Ef e (Gc 5 Z (Qt b (Lr [0]))))
   refine Gx 1 Z (Ef e (Gc 1 Z ?_));cases a
  exact Gc 8 Z (Qt a (Lr [0]))
 exact Gx 1 Z (Ef e (Gc 7 Z (Rt h 4 [0])))
def F_bq(n:Nat)(b:List Ub):Option (List Ub):=
  (F_fb n b).bind λc=>(QbL (λx y=>F_ad n x y) c).bind λa=>(F_by n a).bind λd=>some a
theorem k_bq(n:Nat)(b:List Ub)(r:List Ub)(h:F_bq n b=some r):
    Csm prog 90 [.rsl 1 (List.map Ub.ptr b),.fn (.func 91) [] []] [] (λr=>.rsl 1 (List.map Ub.ptr r)) r:=by
 refine Qb func90 Z Z Z ?_;refine G0 9 Z (Cd [] h (k_fb _ _) Z λf d h=>FE Z (Go 7 Z (Bd h λg a h=>?_)));refine QP [1] (OpC.fn call173 Z Z Z) (Qoh (ea:=λx=>.rp (Ub.c x)) QfG a (λx y c h=>k_ad n x y c h) isAgg119 sizeOf119 call91 Z) ?_;rintro _ _ ⟨rfl,rfl⟩;refine FE Z ?_;refine Er (QT (s:=0) Z (congrArg (λn=>A.osl 1 0 n 1) (QaI a))) ?_;refine Er (QT (s:=6) Z (congrArg (λn=>A.osl 1 0 n 1) (QaI a))) ?_;refine Er (QT (s:=7) Z (congrArg (λn=>A.osl 1 0 n 1) (QaI a))) ?_;refine Go 6 Z ?_;refine Er (QaU [(0,_),(6,_),(7,_),(10,_)] Z Z (Qnn.cons Z Eo (Qnn.cons Z Eo (Qnn.cons Z Eo (Qnn.cons Z Eo Qnn.nil)))) (Ec (Ec (Y8 _)))) ?_;exact Cd [0] h (k_by _ _) Z λi e h=>FE Z (Go 4 Z (Rt h 4 []))
def ToldE(env:Env):Env->Prop
  |[]=>True
  |p::r=>lk env p.1=p.2/\ToldE env r
theorem Qod{h0:Nat}{env env':Env}{H:Qc}(h:ToldE env env'):Le h0 env H env' H:=by
  refine Le.env λs=>?_
  induction env' with
  |nil=>exact .inl Z
  |cons p r ih=>
    obtain⟨a,b⟩:=h;show lk (p::r) s=_\/_;by_cases q:s=p.1
    · refine .inr ?_
      subst q;simp only[lk,VG];exact a.symm
    · have e:Nat.beq s p.1=false:=by
        cases z:Nat.beq s p.1 with
        |true=>exact absurd (XR z) q
        |false=>rfl
      simp only[lk,e];exact ih b
section
variable {P:Program} {N m n:Nat} {bs ds ds':List Nat} {cat:Kat} {l:List Oper} {env:Env} {Hs:List Qc} {X:Qc} {K:List Oper->Env->Qc->Prop} {r:List Oper} {xs xs':List A} {x:A}
theorem DK.ad(h:Qeg xs x=.mk xs')(k:DK P N m bs cat l ds env n K Hs X r xs'):DK P N m bs cat l ds env n K Hs X r (xs++[x]):=by
  rw[Qam]at h;cases h;exact k
theorem Qny(h:ds=ds')(k:DK P N m bs cat l ds' env n K Hs X r xs):DK P N m bs cat l ds env n K Hs X r xs:=h▸k
end
abbrev ekI:Int->A:=λn=>I n
def preF(bk:QaX Fact Report):Qc:=[.cells 169 [.map 1],.mapP (Qk ekI Qeb (YL bk))]
theorem Qo5:QD prog 123 [(0,1),(1,3),(4,1),(5,1)]:=⟨_,runUnderlying123,(Eg sizeOf3 (Eg sizeOf120 (Eg sizeOf121 (Eg sizeOf4 PL.nil))))⟩
abbrev nC(k:Int):Blk:=.cells 123 [I k,.nils,.nils,.nils,.nils,.bool false]
theorem fx_2:QY prog 123 2 4 1:=FA runUnderlying123 rfl sizeOf121
theorem fx_3:QY prog 123 3 5 1:=FA runUnderlying123 rfl sizeOf4
theorem Qox:QN prog 121 60 4:=⟨runUnderlying121,sizeOf60,⟨_,zeroValue60,rfl⟩,⟨_,typeInfo60,by decide⟩⟩
theorem Qjf(k:Int)(bk:QaX Fact Report)(G:Qc)(hB:Yv Ub.K 2 (preF bk++G) bk):
    C prog 89 [I k,.ptr 0 0] (preF bk++G) (λa H'=>∃l e r G',a=.ptr e.2.b 0/\H'=preF (l++e::r)++G'/\Yv Ub.K 2 H' (l++e::r)/\e.1.number=k/\(l++e::r).map (·.1)=Qah (bk.map (·.1)) k):=by
  refine Qb func89 Z Z Z ?_;refine TC.seq (TC.region (vV (OpV.assign Z Z) (WO.nil ?_)));refine TC.seq (TC.seq (TC.region ?_));refine vV (x:=.map 1) (Ey Z isAgg169 Z (Pts.cells Z Z)) ?_;refine vV (x:=I k) (OpV.move Z Z) ?_;have hlen:(preF bk++G).length=G.length+2:=by simp[preF]
  rcases QdC bk k with⟨d,c⟩|⟨l,e,r,rfl,c,n,f⟩
  · refine vV (x:=.nilp) (QjF (ek:=ekI) (ev:=Qeb) (k:=k) (l:=YL bk) YR d underlying169 zeroValue119) ?_
    refine vV (x:=.bool true) (QiD runUnderlying119 Z) (WO.nil ?_);refine Qiy Z Z (TC.region ?_);refine vV (x:=.map 1) (Ey Z isAgg169 Z (Pts.cells Z Z)) ?_;refine vV (x:=I k) (OpV.move Z Z) ?_;refine vV (x:=I k) (OpV.move Z Z) ?_;refine vV (x:=.agg [I k,.nils,.nils,.nils,.nils,.bool false]) (OpV.build (zs:=[I 0,.nils,.nils,.nils,.nils,.bool false]) zeroValue123 (zrC Z) Qo5) ?_;refine YY (x:=.ptr (preF bk++G).length 0) (H':=(preF bk++G)++[nC k]) (XU _) Z Z Z (OpH.box (v:=.agg [I k,.nils,.nils,.nils,.nils,.bool false]) (cs:=[I k,.nils,.nils,.nils,.nils,.bool false]) Z Z Z Z Z) ?_;have m:preF (bk++[(Qaw k,QaY (preF bk++G).length)])++(G++[nC k])=List.set (preF bk++G++[nC k]) 1 (.mapP (Qk ekI Qeb (YL bk++[(k,(preF bk++G).length)]))):=by
      unfold preF;rw[Qla];simp[YL,Qaw,QaY]
    refine QbB (H':=preF (bk++[(Qaw k,QaY (preF bk++G).length)])++(G++[nC k])) (by simp) Z Z ?_ ?_
    · rw[m]
      refine Qlt (ek:=ekI) (ev:=Qeb) (k:=k) (l:=YL bk) (v:=(preF bk++G).length) (i:=1) (x:=.tmp 8) (y:=.tmp 9) (zz:=.tmp 12) (T:=169) YR d underlying169 ?_ ?_ ?_ ?_ ?_<;>rfl
    refine WO.nil ?_;have g:∀env,Le (preF bk++G).length env (preF (bk++[(Qaw k,QaY (preF bk++G).length)])++(G++[nC k])) env (preF (bk++[(Qaw k,QaY (preF bk++G).length)])++(G++Qb7 Ub.K (preF bk++G).length k)):=λenv=>by
      have:=QjK Ub.K (h0:=(preF bk++G).length) (env:=env) (H:=preF (bk++[(Qaw k,QaY (preF bk++G).length)])++G) (k:=k) (by simp[preF]);rw[Vj,Vj,show(preF (bk++[(Qaw k,QaY (preF bk++G).length)])++G).length=(preF bk++G).length by simp[preF]]at this;exact this
    refine Ef (g _) ?_;have hB1:Yv Ub.K 2 (preF (bk++[(Qaw k,QaY (preF bk++G).length)])++G) bk:=hB.keep λj h p=>by
      rw[XO (by simpa[preF]using h),XO (by simpa[preF]using h)];rfl
    have hB2:=hB1.new (k:=k) c (by simp[preF]);rw[Vj,show(preF (bk++[(Qaw k,QaY (preF bk++G).length)])++G).length=(preF bk++G).length by simp[preF]]at hB2;have hg:YD (YL (bk++[(Qaw k,QaY (preF bk++G).length)])) k=some (preF bk++G).length:=by
      rcases QdC (bk++[(Qaw k,QaY (preF bk++G).length)]) k with⟨g1,g2⟩|⟨l,e,r,g1,g2,g3,g4⟩
      · exact absurd Z (g2 (Qaw k,QaY (preF bk++G).length) (by simp))
      · rw[g4]
        have hm:e∈bk++[(Qaw k,QaY (preF bk++G).length)]:=by rw[g1];simp
        rcases VE.1 hm with q|q
        · exact absurd g2 (c e q)
        · rw[VC.1 q];rfl
    refine TC.seq (TC.region ?_);refine vV (x:=.map 1) (Ey Z isAgg169 Z (Pts.cells Z Z)) ?_;refine vV (x:=I k) (OpV.move Z Z) ?_;refine vV (x:=.ptr (preF bk++G).length 0) (QcG (ek:=ekI) (ev:=Qeb) (k:=k) (l:=YL (bk++[(Qaw k,QaY (preF bk++G).length)])) YR hg underlying169) ?_;refine vV (OpV.assign Z Z) (WO.nil ?_);refine TC.ret ⟨_,_,.ptr (preF bk++G).length 0,Le.refl _ _ _,Qc8.one Z Z,?_⟩;refine⟨bk,(Qaw k,QaY (preF bk++G).length),[],_,Z,Z,hB2,Z,?_⟩;rw[QbS (λx hx q=>by obtain⟨e,he,rfl⟩:=Xf.1 hx;exact c e he q)];simp
  · refine vV (x:=.ptr e.2.b 0) (QcG (ek:=ekI) (ev:=Qeb) (k:=k) (l:=YL (l++e::r)) YR f underlying169) ?_
    refine vV (x:=.bool false) (QiC runUnderlying119 Z) (WO.nil ?_);refine Qiz Z Z (TC.skip ?_);refine TC.seq (TC.region ?_);refine vV (x:=.map 1) (Ey Z isAgg169 Z (Pts.cells Z Z)) ?_;refine vV (x:=I k) (OpV.move Z Z) ?_;refine vV (x:=.ptr e.2.b 0) (QcG (ek:=ekI) (ev:=Qeb) (k:=k) (l:=YL (l++e::r)) YR f underlying169) ?_;refine vV (OpV.assign Z Z) (WO.nil ?_);refine TC.ret ⟨_,_,.ptr e.2.b 0,Le.refl _ _ _,Qc8.one Z Z,?_⟩;refine⟨l,e,r,G,Z,Z,hB,c,?_⟩;rw[QcV ⟨e.1,by simp,c⟩]
def filesAdd(fs:List Ub)(k inst:Int)(f:Fact):Option (List Ub):=
  bif inst==0 then some (Qbn fs k λx=>{x with r0:=x.r0++[f]})else bif inst==1 then some (Qbn fs k λx=>{x with r1:=x.r1++[f]})else bif inst==2 then some (Qbn fs k λx=>{x with r2:=x.r2++[f]})else none
def filesStep(fs:List Ub)(f:Fact):Option (List Ub):=
  bif f.Kind==10 then(bif QdS (Qah fs f.Ruling.Case)then filesAdd (Qah fs f.Ruling.Case) f.Ruling.Case f.Ruling.Instance f else none)
  else bif f.Kind==8 then(bif QdS (Qah fs f.Report.Case)then some (Qbn (Qah fs f.Report.Case) f.Report.Case λx=>{x with reports:=x.reports++[f.Report]})else none)
  else bif f.Kind==11 then(bif f.Appeal.Suspends then some (Qbn (Qah fs f.Appeal.Case) f.Appeal.Case λx=>{x with appeal:=true})else some fs)else some fs
def filesL(n:Nat)(l:List Fact)(s:List Ub×Int):Option (Ctl (List Ub×Int) (List Ub)):=
  bif decide (s.2<(l.length:Int))then(idx l s.2).bind λf=>(filesStep s.1 f).bind λfs=>some (.cont (fs,IntKind.i64.wrap (s.2+1)))else some (.done s.1)
def filesE(l:List Fact)(i:Int):Env:=[(6,.ptr 0 0),(7,.fn (.func 89) [] [.ptr 0 0]),(32,.rsl 57 (List.map Fact.c l)),(33,I l.length),(34,I i)]
def filesI(l:List Fact)(s:List Ub×Int)(env:Env)(H:Qc):Prop:=(lk env 6=.ptr 0 0/\lk env 7=.fn (.func 89) [] [.ptr 0 0]/\lk env 32=.rsl 57 (List.map Fact.c l)/\lk env 33=I l.length/\lk env 34=I s.2)/\ ∃bk G,H=preF bk++G/\Yv Ub.K 2 H bk/\bk.map (·.1)=s.1
def filesJ(l:List Fact)(fs:List Ub)(i:Int):Qx:=λx env H=>x=.normal/\(lk env 6=.ptr 0 0/\lk env 7=.fn (.func 89) [] [.ptr 0 0]/\lk env 32=.rsl 57 (List.map Fact.c l)/\lk env 33=I l.length/\lk env 34=I i)/\ ∃bk G,H=preF bk++G/\Yv Ub.K 2 H bk/\bk.map (·.1)=fs
theorem Qgc{l:List Fact}{i:Int}{env:Env}{H:Qc}{h0:Nat}(h:lk env 6=.ptr 0 0/\lk env 7=.fn (.func 89) [] [.ptr 0 0]/\lk env 32=.rsl 57 (List.map Fact.c l)/\lk env 33=I l.length/\lk env 34=I i):Le h0 env H (filesE l i) H:=by
  obtain⟨m,n,p,q,r⟩:=h;refine Le.env λk=>?_;by_cases a:k=6
  · subst a;exact .inr m.symm
  by_cases b:k=7
  · subst b;exact .inr n.symm
  by_cases d:k=32
  · subst d;exact .inr p.symm
  by_cases f:k=33
  · subst f;exact .inr q.symm
  by_cases g:k=34
  · subst g;exact .inr r.symm
  have e:∀j:Nat,k≠j->Nat.beq k j=false:=λj hj=>by
    cases z:Nat.beq k j with
    |true=>exact absurd (XR z) hj
    |false=>rfl
  left;unfold filesE;simp only[lk,e _ a,e _ b,e _ d,e _ f,e _ g];rfl
theorem Qf3:∀(l:List Nat) (H:Qc),(QbR H l).length=H.length
  |[],H=>rfl
  |i::l,H=>by unfold QbR;rw[Qf3 l,X5]
theorem Qpl{bk:QaX Fact Report}{G:Qc}{env:Env}(hB:Yv Ub.K 2 (preF bk++G) bk)(he:lk env 6=.ptr 0 0):
    Le 0 env (preF bk++G) [(6,.ptr 0 0)] [.cells 169 [.map 1],.fmap (Qk ekI (rpE Ub.K) (Qef (bk.map (·.1))))]:=by
  refine Em (Qnj Ub.K (m:=1) hB Z Z) ?_;have hl:(QbR (preF bk++G) (Qcq bk)).length=G.length+2:=by rw[Qf3];simp[preF]
  have hn:∀i,i<2->i∉Qcq bk:=λi hi q=>by have:=(hB.all.2 i q).1;omega
  have c:((QbR (preF bk++G) (Qcq bk)).set 1 (.fmap (Qk ekI (rpE Ub.K) (Qef (bk.map (·.1))))))[0]?=some (.cells 169 [.map 1]):=by
    rw[XQ (by omega),Qf4 (hn 0 (by omega))];rfl
  have d:((QbR (preF bk++G) (Qcq bk)).set 1 (.fmap (Qk ekI (rpE Ub.K) (Qef (bk.map (·.1))))))[1]?=some (.fmap (Qk ekI (rpE Ub.K) (Qef (bk.map (·.1))))):=by
    rw[Xa (by rw[hl];omega)]
  refine Qnm 2 (XV _) (by rw[X5,hl];omega) ?_ ⟨he,trivial⟩;exact congr (congrArg (λa b=>[a,b]) c.symm) d.symm
theorem Qmx{H:Qc}{bk:QaX Fact Report}(h0:H[0]?=some (.cells 169 [.map 1]))(c:H[1]?=some (.mapP (Qk ekI Qeb (YL bk)))):H=preF bk++H.drop 2:=by
  match H,h0,c with
  |a::b::G,h0,c=>
    simp at h0 c;subst h0 c;rfl
theorem Qe7{l r:QaX Fact Report}{e:Fil Fact Report×Pl}{x':Fil Fact Report}{p':Pl}{H:Qc}{fs:List Ub}{k:Int}{g:Fil Fact Report->Fil Fact Report}(hB:Yv Ub.K 2 H (l++e::r))(hek:e.1.number=k)(hbk:(l++e::r).map (·.1)=Qah fs k)(hx:g e.1=x'):(l++(x',p')::r).map (·.1)=Qbn (Qah fs k) k g:=by
  rw[<- hbk,Xg,Xg,Vk,Vk,QnC (by have:=hB.num;simpa[Function.comp_def]using this) hek,hx]
theorem Qpm{l r:QaX Fact Report}{e:Fil Fact Report×Pl}{G:Qc}(hB:Yv Ub.K 2 (preF (l++e::r)++G) (l++e::r)):
    ∃G',(preF (l++e::r)++G).set e.2.b (.cells 123 (Q1 Ub.K e.2 {e.1 with appeal:=true}))=preF (l++({e.1 with appeal:=true},e.2)::r)++G'/\Yv Ub.K 2 ((preF (l++e::r)++G).set e.2.b (.cells 123 (Q1 Ub.K e.2 {e.1 with appeal:=true}))) (l++({e.1 with appeal:=true},e.2)::r):=by
  have hb:2<=e.2.b:=hB.lo e (by simp) _ (by simp[Pl.ix]);have hl:=hB.laid e (by simp);have hlt:=hl.lt e.2.b (by simp[Pl.ix]);have ho:=hB.own e (by simp);simp only[Pl.ix,List.nodup_cons,X7,List.not_mem_nil,or_false,not_or]at ho;obtain⟨⟨n0,n1,n2,n3⟩,_⟩:=ho;refine⟨_,Qmx ?_ ?_,hB.upd ⟨?_,?_,?_,?_,?_⟩ Z ?_ (λi hi=>.inl hi) (hB.own e (by simp)) (by simp[preF])⟩
  · rw[XQ (by omega)];rfl
  · rw[XQ (by omega)];simp[preF,YL]
  · rw[Xa hlt]
  · rw[XQ n0];exact hl.r0
  · rw[XQ n1];exact hl.r1
  · rw[XQ n2];exact hl.r2
  · rw[XQ n3];exact hl.r3
  · intro j _ _ q
    rw[XQ (λz=>q (by rw[<- z];simp[Pl.ix]))]
theorem Qmy{β:Type}{c:Bool}{x:Option β}{y:β}(h:(bif c then x else none)=some y):c=true/\x=some y:=by
  cases c with
  |true=>exact⟨Z,h⟩
  |false=>cases h
theorem Qg7{β:Type}{l:List β}{x:β}(h:l.length+1<=Qq):app l [x]=some (l++[x]):=by
  unfold app;simp[XT h]
theorem Qg6{l r:QaX Fact Report}{e:Fil Fact Report×Pl}{G:Qc}{x':Fil Fact Report}{p':Pl}{i:Nat}{y:Blk}(hB:Yv Ub.K 2 (preF (l++e::r)++G) (l++e::r))(hi:i∈e.2.ix)(hib:i≠e.2.b)(hn:x'.number=e.1.number)(hb:p'.b=e.2.b)
    (hp:p'.ix=e.2.ix.map λj=>bif Nat.beq j i then(preF (l++e::r)++G).length else j)
    (hrows:∀H':Qc,(∀j,j∈e.2.ix->j≠i->j≠e.2.b->H'[j]?=(preF (l++e::r)++G)[j]?)->H'[(preF (l++e::r)++G).length]?=some y->
      H'[p'.i0]?=some (.row Ub.K.tF Ub.K.kF (x'.r0.map Ub.K.eF))/\H'[p'.i1]?=some (.row Ub.K.tF Ub.K.kF (x'.r1.map Ub.K.eF))/\H'[p'.i2]?=some (.row Ub.K.tF Ub.K.kF (x'.r2.map Ub.K.eF))/\H'[p'.i3]?=some (.row Ub.K.tR Ub.K.kR (x'.reports.map Ub.K.eR))):
    ((preF (l++e::r)++G).set i .dead++[y])[e.2.b]?=some (.cells 123 (Q1 Ub.K e.2 e.1))/\ ∃G2,((preF (l++e::r)++G).set i .dead++[y]).set e.2.b (.cells 123 (Q1 Ub.K p' x'))=preF (l++(x',p')::r)++G2/\
      Yv Ub.K 2 (((preF (l++e::r)++G).set i .dead++[y]).set e.2.b (.cells 123 (Q1 Ub.K p' x'))) (l++(x',p')::r):=by
  have hl:=hB.laid e (by simp);have hlt:=hl.lt;have hbl:=hlt e.2.b (by simp[Pl.ix]);have g:2<=e.2.b:=hB.lo e (by simp) _ (by simp[Pl.ix]);have hi2:2<=i:=hB.lo e (by simp) _ hi;have hlow:∀j,j<2->(((preF (l++e::r)++G).set i .dead++[y]).set e.2.b (.cells 123 (Q1 Ub.K p' x')))[j]?=(preF (l++e::r)++G)[j]? :=λj hj=>by
    rw[XQ (by omega),XN (by simp[preF];omega),XQ (by omega)]
  have hr:=hrows (((preF (l++e::r)++G).set i .dead++[y]).set e.2.b (.cells 123 (Q1 Ub.K p' x'))) (λj a d f=>by
    rw[XQ (λq=>f q.symm),XN (by rw[X5];exact hlt j a),XQ (λq=>d q.symm)]) (by
    rw[XQ (by omega),XO (by rw[X5];exact XU _),X5,Nat.sub_self];rfl)
  obtain⟨h0,a,d,f⟩:=hr;refine⟨?_,_,Qmx ?_ ?_,hB.row (by simp[preF]) hn hi hib hb Z hp h0 a d f⟩
  · rw[XN (by rw[X5];exact hbl),XQ hib];exact hl.c
  · rw[hlow 0 (by omega)];rfl
  · rw[hlow 1 (by omega),Qk9 hn hb];rfl
theorem nbF{a b:Nat}(h:a≠b):Nat.beq a b=false:=by
  cases z:Nat.beq a b with
  |true=>exact absurd (XR z) h
  |false=>rfl
theorem QnP{l r:QaX Fact Report}{e:Fil Fact Report×Pl}{G:Qc}(rs:List Report)(hB:Yv Ub.K 2 (preF (l++e::r)++G) (l++e::r)):
    ((preF (l++e::r)++G).set e.2.i3 .dead++[Blk.row 60 4 (List.map Report.c rs)])[e.2.b]?=some (.cells 123 (Q1 Ub.K e.2 e.1))/\ ∃G2,((preF (l++e::r)++G).set e.2.i3 .dead++[Blk.row 60 4 (List.map Report.c rs)]).set e.2.b (.cells 123 (Q1 Ub.K {e.2 with i3:=(preF (l++e::r)++G).length} {e.1 with reports:=rs}))=preF (l++({e.1 with reports:=rs},{e.2 with i3:=(preF (l++e::r)++G).length})::r)++G2/\
      Yv Ub.K 2 (((preF (l++e::r)++G).set e.2.i3 .dead++[Blk.row 60 4 (List.map Report.c rs)]).set e.2.b (.cells 123 (Q1 Ub.K {e.2 with i3:=(preF (l++e::r)++G).length} {e.1 with reports:=rs}))) (l++({e.1 with reports:=rs},{e.2 with i3:=(preF (l++e::r)++G).length})::r):=by
  have hl:=hB.laid e (by simp);have ho:=hB.own e (by simp);simp only[Pl.ix,List.nodup_cons,X7,List.not_mem_nil,or_false,not_or]at ho;obtain⟨⟨f,b1,b2,a⟩,⟨n1,n2,n3⟩,⟨g,d⟩,k3,_⟩:=ho;refine Qg6 (x':={e.1 with reports:=rs}) (p':={e.2 with i3:=(preF (l++e::r)++G).length}) hB (by simp[Pl.ix]) (λq=>a q.symm) Z Z ?_ (λH' hk hn=>⟨?_,?_,?_,hn⟩)
  · simp only[Pl.ix,Vk,Vl,nbF a,nbF n3,nbF d,nbF k3,VG,Vq,Vr]
  · exact(hk e.2.i0 (by simp[Pl.ix]) n3 (λq=>f q.symm)).trans hl.r0
  · exact(hk e.2.i1 (by simp[Pl.ix]) d (λq=>b1 q.symm)).trans hl.r1
  · exact(hk e.2.i2 (by simp[Pl.ix]) k3 (λq=>b2 q.symm)).trans hl.r2
theorem QnS{l r:QaX Fact Report}{e:Fil Fact Report×Pl}{G:Qc}(rs:List Fact)(hB:Yv Ub.K 2 (preF (l++e::r)++G) (l++e::r)):
    ((preF (l++e::r)++G).set e.2.i0 .dead++[Blk.row 68 57 (List.map Fact.c rs)])[e.2.b]?=some (.cells 123 (Q1 Ub.K e.2 e.1))/\ ∃G2,((preF (l++e::r)++G).set e.2.i0 .dead++[Blk.row 68 57 (List.map Fact.c rs)]).set e.2.b (.cells 123 (Q1 Ub.K {e.2 with i0:=(preF (l++e::r)++G).length} {e.1 with r0:=rs}))=preF (l++({e.1 with r0:=rs},{e.2 with i0:=(preF (l++e::r)++G).length})::r)++G2/\
      Yv Ub.K 2 (((preF (l++e::r)++G).set e.2.i0 .dead++[Blk.row 68 57 (List.map Fact.c rs)]).set e.2.b (.cells 123 (Q1 Ub.K {e.2 with i0:=(preF (l++e::r)++G).length} {e.1 with r0:=rs}))) (l++({e.1 with r0:=rs},{e.2 with i0:=(preF (l++e::r)++G).length})::r):=by
  have hl:=hB.laid e (by simp);have ho:=hB.own e (by simp);simp only[Pl.ix,List.nodup_cons,X7,List.not_mem_nil,or_false,not_or]at ho;obtain⟨⟨a,b1,b2,d⟩,⟨n1,n2,n3⟩,⟨f,g⟩,k3,_⟩:=ho;refine Qg6 (x':={e.1 with r0:=rs}) (p':={e.2 with i0:=(preF (l++e::r)++G).length}) hB (by simp[Pl.ix]) (λq=>a q.symm) Z Z ?_ (λH' hk hn=>⟨hn,?_,?_,?_⟩)
  · simp only[Pl.ix,Vk,Vl,nbF a,nbF (show e.2.i1≠e.2.i0 from λq=>n1 q.symm),nbF (show e.2.i2≠e.2.i0 from λq=>n2 q.symm),nbF (show e.2.i3≠e.2.i0 from λq=>n3 q.symm),VG,Vq,Vr]
  · exact(hk e.2.i1 (by simp[Pl.ix]) (λq=>n1 q.symm) (λq=>b1 q.symm)).trans hl.r1
  · exact(hk e.2.i2 (by simp[Pl.ix]) (λq=>n2 q.symm) (λq=>b2 q.symm)).trans hl.r2
  · exact(hk e.2.i3 (by simp[Pl.ix]) (λq=>n3 q.symm) (λq=>d q.symm)).trans hl.r3
theorem QnR{l r:QaX Fact Report}{e:Fil Fact Report×Pl}{G:Qc}(rs:List Fact)(hB:Yv Ub.K 2 (preF (l++e::r)++G) (l++e::r)):
    ((preF (l++e::r)++G).set e.2.i1 .dead++[Blk.row 68 57 (List.map Fact.c rs)])[e.2.b]?=some (.cells 123 (Q1 Ub.K e.2 e.1))/\ ∃G2,((preF (l++e::r)++G).set e.2.i1 .dead++[Blk.row 68 57 (List.map Fact.c rs)]).set e.2.b (.cells 123 (Q1 Ub.K {e.2 with i1:=(preF (l++e::r)++G).length} {e.1 with r1:=rs}))=preF (l++({e.1 with r1:=rs},{e.2 with i1:=(preF (l++e::r)++G).length})::r)++G2/\
      Yv Ub.K 2 (((preF (l++e::r)++G).set e.2.i1 .dead++[Blk.row 68 57 (List.map Fact.c rs)]).set e.2.b (.cells 123 (Q1 Ub.K {e.2 with i1:=(preF (l++e::r)++G).length} {e.1 with r1:=rs}))) (l++({e.1 with r1:=rs},{e.2 with i1:=(preF (l++e::r)++G).length})::r):=by
  have hl:=hB.laid e (by simp);have ho:=hB.own e (by simp);simp only[Pl.ix,List.nodup_cons,X7,List.not_mem_nil,or_false,not_or]at ho;obtain⟨⟨f,b1,b2,g⟩,⟨n1,n2,n3⟩,⟨a,d⟩,k3,_⟩:=ho;refine Qg6 (x':={e.1 with r1:=rs}) (p':={e.2 with i1:=(preF (l++e::r)++G).length}) hB (by simp[Pl.ix]) (λq=>b1 q.symm) Z Z ?_ (λH' hk hn=>⟨?_,hn,?_,?_⟩)
  · simp only[Pl.ix,Vk,Vl,nbF b1,nbF n1,nbF (show e.2.i2≠e.2.i1 from λq=>a q.symm),nbF (show e.2.i3≠e.2.i1 from λq=>d q.symm),VG,Vq,Vr]
  · exact(hk e.2.i0 (by simp[Pl.ix]) n1 (λq=>f q.symm)).trans hl.r0
  · exact(hk e.2.i2 (by simp[Pl.ix]) (λq=>a q.symm) (λq=>b2 q.symm)).trans hl.r2
  · exact(hk e.2.i3 (by simp[Pl.ix]) (λq=>d q.symm) (λq=>g q.symm)).trans hl.r3
theorem QnQ{l r:QaX Fact Report}{e:Fil Fact Report×Pl}{G:Qc}(rs:List Fact)(hB:Yv Ub.K 2 (preF (l++e::r)++G) (l++e::r)):
    ((preF (l++e::r)++G).set e.2.i2 .dead++[Blk.row 68 57 (List.map Fact.c rs)])[e.2.b]?=some (.cells 123 (Q1 Ub.K e.2 e.1))/\ ∃G2,((preF (l++e::r)++G).set e.2.i2 .dead++[Blk.row 68 57 (List.map Fact.c rs)]).set e.2.b (.cells 123 (Q1 Ub.K {e.2 with i2:=(preF (l++e::r)++G).length} {e.1 with r2:=rs}))=preF (l++({e.1 with r2:=rs},{e.2 with i2:=(preF (l++e::r)++G).length})::r)++G2/\
      Yv Ub.K 2 (((preF (l++e::r)++G).set e.2.i2 .dead++[Blk.row 68 57 (List.map Fact.c rs)]).set e.2.b (.cells 123 (Q1 Ub.K {e.2 with i2:=(preF (l++e::r)++G).length} {e.1 with r2:=rs}))) (l++({e.1 with r2:=rs},{e.2 with i2:=(preF (l++e::r)++G).length})::r):=by
  have hl:=hB.laid e (by simp);have ho:=hB.own e (by simp);simp only[Pl.ix,List.nodup_cons,X7,List.not_mem_nil,or_false,not_or]at ho;obtain⟨⟨d,b1,b2,f⟩,⟨n1,n2,n3⟩,⟨a,g⟩,k3,_⟩:=ho;refine Qg6 (x':={e.1 with r2:=rs}) (p':={e.2 with i2:=(preF (l++e::r)++G).length}) hB (by simp[Pl.ix]) (λq=>b2 q.symm) Z Z ?_ (λH' hk hn=>⟨?_,?_,hn,?_⟩)
  · simp only[Pl.ix,Vk,Vl,nbF b2,nbF n2,nbF a,nbF (show e.2.i3≠e.2.i2 from λq=>k3 q.symm),VG,Vq,Vr]
  · exact(hk e.2.i0 (by simp[Pl.ix]) n2 (λq=>d q.symm)).trans hl.r0
  · exact(hk e.2.i1 (by simp[Pl.ix]) a (λq=>b1 q.symm)).trans hl.r1
  · exact(hk e.2.i3 (by simp[Pl.ix]) (λq=>k3 q.symm) (λq=>f q.symm)).trans hl.r3
def F_gv(n:Nat)(c:List Fact)(a:(List Fact)×Int):Option (Ctl ((List Fact)×Int) (List Fact)):=
  (bif decide (a.2<(c.length:Int))then(idx c a.2).bind λb=>(F_o n b).bind λd=>((bif (d==0)then(app a.1 [b]).bind λe=>some e else some a.1):Option (List Fact)).bind λf=>some (.cont (f,IntKind.i64.wrap (a.2+1)))else some (.done a.1))
def F_gh(n:Nat)(a:List Ub)(b:Int×Ub):Option (Ctl (List Ub) (List Ub)):=
  (app a [b.2]).bind λc=>some (.cont c)
def F_hh(n:Nat)(a:List Ub):Option (List Ub):=
  some a
def F_aw(n:Nat)(f:List Fact):Option (List Ub):=
  (iter (F_gv n f) n ([],0):Option (List Fact)).bind λa=>(F_ap n a).bind λb=>(iter (filesL n b) n (([]:List Ub),0):Option (List Ub)).bind λc=>anyP (λp77=>(QeG (F_gh n) (F_hh n) [] p77).bind λd=>(F_bq n d).bind λe=>some e) (Qef c)
theorem k_aw(n:Nat)(a1:List Fact)(r:List Ub)(h:F_aw n a1=some r):
    Csm prog 55 [.rsl 57 (List.map Fact.c a1)] [] (λr=>.rsl 1 (List.map Ub.ptr r)) r:=by
 refine Qb func55 Z Z Z ?_;refine G0 14 Z (Lm Z (Go 3 Z (Bd h λz ae h=>?_)));refine Ct z [0] [] (λz=>[(3,.osl 0 0 z.length 57)]) (λz=>[(0,.row 68 57 (List.map Fact.c z))]) Zf ?_ (λenv H q=>?_)
 .refine G0 1 Z ?_;refine Lp [0] [15,16] (λB=>[(3,.osl 0 0 B.1.length 57),(17,I B.2)]) (λB=>[(0,.row 68 57 (List.map Fact.c B.1))]) ae Zf ?_ ?_
  .refine Em (Ep (s:=3) (k:=57) (t:=68) (XS Z) Z) ?_;exact Lr [0]
  intro B au a V;refine G0 6 Z (Jl Z a (λW a=>?_) (λW a=>?_))
  .refine Gc 2 Z (Qy a ?_);obtain rfl:=Oj V a;exact Gx 1 Z (QH (Lr [0]))
  refine Gc 6 Z (Bd a λaf Y a=>Iz Y Z (Go 8 Z (Cz [] a (k_o _ _) Z λav ao a=>Go 3 Z (Bd a λE u a=>?_))));refine Ct E [0] [15,16,17] (λE=>[(3,.osl 0 0 E.length 57)]) (λE=>[(0,.row 68 57 (List.map Fact.c E))]) Zf ?_ (λenv H q=>?_)
  .refine G0 0 Z (Cn Z u (λaa u=>?_) (λaa u=>?_))
   .refine Gc 3 Z ?_;refine vH (Ek (xs:=[.tmp 25]) (es:=List.map Fact.c [af]) Qab Z Z Z Z Z ⟨Z,trivial⟩ Z Z) ?_;refine FE Z (Bd u λaw ab u=>?_);refine vH (QR (e:=Fact.c) ab Qab runUnderlying34 (Jy (i:=2))) ?_;exact FE Z (Go 2 Z (Cl u [3]))
   exact Gc 1 Z (Cl u [0])
  exact Gx 2 Z (Ef q (Gc 4 Z (Qt a (Lr [0]))))
 refine Gx 1 Z (Ef q (Gc 2 Z ?_));refine vH QjI ?_;refine FE Z (Go 14 Z ?_);refine Er (QaU [(3,_),(31,_)] Z Z (Qnn.cons Z Eo (Qnn.cons Z Eo Qnn.nil)) (Ec (Y8 _))) ?_;refine Cd [] h (k_ap _ _) Z λw aq h=>FE Z (Go 4 Z ?_);refine Ef (QaU [(32,_)] Z Z (Qnn.cons Z Eo Qnn.nil) (Ec (Ec (Ec (Ec (Y8 _)))))) ?_;refine Bd h λag ah h=>?_;refine TC.cut [(6,.ptr 0 0)] [.cells 169 [.map 1],.fmap (Qk (λx=>A.int .i64 x) (rpE Ub.K) (Qef ag))] ?_ (λenv H q=>?_)
 .refine TC.block (Ef (env':=filesE w 0) (H':=preF []) (Lr [2,1]) ?_);refine Qix (I:=filesI w) ?_ ah ⟨⟨Z,Z,Z,Z,Z⟩,[],[],Z,Yv.nil,Z⟩;rintro s d env H ⟨he,bk,G,rfl,hB,hfs⟩ hs hd;refine Ef (Qgc he) ?_;refine TC.seq (TC.region (vV (x:=.bool (decide (s.2<(w.length:Int)))) (OpV.lss Z Z Z) (WO.nil ?_)));refine TC.seq ?_;unfold filesL at hs;refine TC.cond (x:=.tmp 35) (t:=decide (s.2<(w.length:Int))) Z (λht=>TC.skip ?_) (λht=>TC.exit ?_)
  · rw[ht,Vq]at hs
    obtain⟨f,hf,hs⟩:=bnd hs;obtain⟨fs,hst,hs⟩:=bnd hs;cases hs;refine TC.seq (TC.mono (Q:=filesJ w fs s.2) (TC.block (TC.seq (TC.region ?_))) ?_)
    rotate_left
    · rintro x env H ⟨rfl,he,bk',G',rfl,hB',hfs'⟩
      refine Ef (Qgc he) (TC.region ?_);refine vV (x:=I (IntKind.i64.wrap (s.2+1))) (OpV.add Z Z Z) ?_;refine vV (x:=I (IntKind.i64.wrap (s.2+1))) (OpV.move Z Z) (WO.nil ?_);exact⟨_,Z,⟨Z,Z,Z,Z,Z⟩,bk',G',Z,hB',hfs'⟩
    refine vV (x:=.rp (Fact.c f)) (Qhm (e:=Fact.c) hf runUnderlying34 sizeOf68) ?_;refine vV (x:=.agg (Fact.c f)) (Qh Z isAgg68 sizeOf68 Z Pts.rp Z Z) ?_;refine Qld (v:=.agg (Fact.c Uk)) (cs:=Fact.c f) zeroValue68 (zrC Z) sizeOf68 (WO.nil ?_);refine TC.seq (TC.region ?_);refine vV (Qp QnT Z Z Z) ?_;refine vV (x:=I f.Kind) (Ey Z isAgg3 Z Pts.rp) (WO.nil ?_);refine TC.block (TC.seq (TC.region ?_));refine vV (x:=.bool (f.Kind==10)) (OpV.eql Z Z Z) ?_;refine vV (OpV.assign Z Z) (WO.nil ?_);unfold filesStep at hst;refine TC.cond (t:=f.Kind==10) Z (λL=>?_) (λL=>?_)
    · rw[L,Vq]at hst
      obtain⟨hroom,hst⟩:=Qmy hst;refine TC.seq (TC.region ?_);refine vV (OpV.move Z Z) ?_;refine vV (Qp QaO Z Z Z) ?_;refine vV (Qp QnW Z Z Z) ?_;refine vV (x:=I f.Ruling.Case) (Ey Z isAgg3 Z Pts.rp) ?_;refine QcF (Qce call89 Z Z Z Z) (Qjf f.Ruling.Case bk G hB) ?_ (XV _);rintro _ _ ⟨l,e,r,G',rfl,rfl,hB',hek,hbk⟩;refine vV (OpV.assign Z Z) (WO.nil ?_);refine Ef (Qod (env':=[(6,.ptr 0 0),(7,.fn (.func 89) [] [.ptr 0 0]),(32,.rsl 57 (List.map Fact.c w)),(33,I w.length),(34,I s.2),(9,.rp (Fact.c f)),(10,.ptr e.2.b 0)]) ⟨Z,Z,Z,Z,Z,Z,Z,trivial⟩) ?_;have hl:=hB'.laid e (by simp);have hrm:=QhL (l:=l.map (·.1)) (r:=r.map (·.1)) (x:=e.1) (by rw[<- Vk, <- Xg,hbk,hfs];exact hroom);unfold filesAdd at hst;refine If hst (λhi hst=>?_) (λhi0 hst=>If hst (λhi hst=>?_) (λhi1 hst=>If hst (λhi hst=>?_) (λhi2 hst=>by cases hst)))
      ·
        cases hst;have happ:app e.1.r0 [f]=some (e.1.r0++[f]):=Qg7 hrm.1;refine DKs 18 [14] [(0,0,1),(0,0,1),(0,0,1),(0,0,1),(0,0,0),(0,0,0),(0,0,0),(0,0,0),(0,0,0),(0,0,0),(0,0,0),(0,0,0),(0,0,0),(0,0,0),(1,0,0),(0,0,1),(0,0,1),(0,0,1)] (by kernel_rfl) ?_;refine Qny (ds':=[47,48,49,50,51,52,53,54,55,56,57,58,59,60,61,62,63,64]) Z ?_;refine YT (x:=.ptr e.2.b 0) (λX=>vV (OpV.move Z Z) Wp) ?_;refine DK.ad Z ?_;refine YT (x:=.rp ((Fact.c f).drop 47)) (λX=>vV (Qp QaO Z Z Z) Wp) ?_;refine DK.ad Z ?_;refine YT (x:=.rp ((Fact.c f).drop 48)) (λX=>vV (Qp Qca Z Z Z) Wp) ?_;refine DK.ad Z ?_;refine YT (x:=I f.Ruling.Instance) (λX=>vV (Ey Z isAgg3 Z Pts.rp) Wp) ?_;refine DK.ad Z ?_;refine DK.wo (x:=.ptr e.2.b 0) (vV (OpV.move Z Z) Wp) ?_;refine DK.ad Z ?_;refine DK.wo (x:=.rp ((Fact.c f).drop 47)) (vV (Qp QaO Z Z Z) Wp) ?_;refine DK.ad Z ?_;refine DK.wo (x:=.rp ((Fact.c f).drop 48)) (vV (Qp Qca Z Z Z) Wp) ?_;refine DK.ad Z ?_;refine DK.wo (x:=I f.Ruling.Instance) (vV (Ey Z isAgg3 Z Pts.rp) Wp) ?_;refine DK.ad Z ?_;refine DK.wo (x:=.ptr e.2.b 0) (vV (Yw Z) Wp) ?_;refine DK.ad Z ?_;refine DK.wo (x:=.ptr e.2.b 1) (vV (Yq QaP Z Z) Wp) ?_;refine DK.ad Z ?_;refine DK.wo (x:=.ptr e.2.b 1) (vV (Q2 (n:=3) (k:=1) (j:=0) hi Z runUnderlying120 sizeOf34 Z) Wp) ?_;refine DK.ad Z ?_;refine DK.wo (x:=.osl e.2.i0 0 e.1.r0.length 57) (vV (Ey Z isAgg34 Z (Pts.cells hl.c Z)) Wp) ?_;refine DK.ad Z ?_;refine DK.wo (x:=.agg (Fact.c f)) (vV (Qh Z isAgg68 sizeOf68 Z Pts.rp Z Z) Wp) ?_;refine DK.ad Z ?_;refine DK.wo (x:=.rsl 57 (List.map Fact.c [f])) (YY (XU _) Z Z Z (YP (xs:=[.tmp 59]) (es:=List.map Fact.c [f]) Qab Z Z Z Z Z ⟨Z,trivial⟩ Z Z) Wp) ?_;refine DK.ad Z ?_;refine DK.op (x:=.osl (preF (l++e::r)++G').length 0 (e.1.r0++[f]).length 57) (YY (XU _) Z Z Z (QR (e:=Fact.c) (l:=e.1.r0) (m:=[f]) happ Qab runUnderlying34 Qai (hH:=hl.r0)) Wp) ?_ (hl:=by simp);refine DK.ad Z ?_;refine YT (x:=.ptr e.2.b 0) (λX=>vV (Yw Z) Wp) ?_;refine DK.ad Z ?_;refine YT (x:=.ptr e.2.b 1) (λX=>vV (Yq QaP Z Z) Wp) ?_;refine DK.ad Z ?_;refine YT (x:=.ptr e.2.b 1) (λX=>vV (Q2 (n:=3) (k:=1) (j:=0) hi Z runUnderlying120 sizeOf34 Z) Wp) ?_;refine DK.ad Z ?_;refine DK.done Z Z ?_;obtain⟨y,G2,hG,hB2⟩:=QnS (e.1.r0++[f]) hB';refine QbB (XV _) Z Z (Ex (i:=e.2.b) (off:=1) (n:=1) (v:=.osl (preF (l++e::r)++G').length 0 (e.1.r0++[f]).length 57) (vs:=[.osl (preF (l++e::r)++G').length 0 (e.1.r0++[f]).length 57]) (cs:=Q1 Ub.K e.2 e.1) (cs':=Q1 Ub.K {e.2 with i0:=(preF (l++e::r)++G').length} {e.1 with r0:=e.1.r0++[f]}) Z Z y sizeOf34 Z Z Z Z Z Z Z) (WO.nil ?_);exact⟨Z,⟨Z,Z,Z,Z,Z⟩,l++({e.1 with r0:=e.1.r0++[f]},{e.2 with i0:=(preF (l++e::r)++G').length})::r,G2,hG,hB2,Qe7 hB' hek (by rw[hbk,hfs]) Z⟩
      ·
        cases hst;have happ:app e.1.r1 [f]=some (e.1.r1++[f]):=Qg7 hrm.2.1;refine DKs 18 [14] [(0,0,1),(0,0,1),(0,0,1),(0,0,1),(0,0,0),(0,0,0),(0,0,0),(0,0,0),(0,0,0),(0,0,0),(0,0,0),(0,0,0),(0,0,0),(0,0,0),(1,0,0),(0,0,1),(0,0,1),(0,0,1)] (by kernel_rfl) ?_;refine Qny (ds':=[47,48,49,50,51,52,53,54,55,56,57,58,59,60,61,62,63,64]) Z ?_;refine YT (x:=.ptr e.2.b 0) (λX=>vV (OpV.move Z Z) Wp) ?_;refine DK.ad Z ?_;refine YT (x:=.rp ((Fact.c f).drop 47)) (λX=>vV (Qp QaO Z Z Z) Wp) ?_;refine DK.ad Z ?_;refine YT (x:=.rp ((Fact.c f).drop 48)) (λX=>vV (Qp Qca Z Z Z) Wp) ?_;refine DK.ad Z ?_;refine YT (x:=I f.Ruling.Instance) (λX=>vV (Ey Z isAgg3 Z Pts.rp) Wp) ?_;refine DK.ad Z ?_;refine DK.wo (x:=.ptr e.2.b 0) (vV (OpV.move Z Z) Wp) ?_;refine DK.ad Z ?_;refine DK.wo (x:=.rp ((Fact.c f).drop 47)) (vV (Qp QaO Z Z Z) Wp) ?_;refine DK.ad Z ?_;refine DK.wo (x:=.rp ((Fact.c f).drop 48)) (vV (Qp Qca Z Z Z) Wp) ?_;refine DK.ad Z ?_;refine DK.wo (x:=I f.Ruling.Instance) (vV (Ey Z isAgg3 Z Pts.rp) Wp) ?_;refine DK.ad Z ?_;refine DK.wo (x:=.ptr e.2.b 0) (vV (Yw Z) Wp) ?_;refine DK.ad Z ?_;refine DK.wo (x:=.ptr e.2.b 1) (vV (Yq QaP Z Z) Wp) ?_;refine DK.ad Z ?_;refine DK.wo (x:=.ptr e.2.b 2) (vV (Q2 (n:=3) (k:=1) (j:=1) hi Z runUnderlying120 sizeOf34 Z) Wp) ?_;refine DK.ad Z ?_;refine DK.wo (x:=.osl e.2.i1 0 e.1.r1.length 57) (vV (Ey Z isAgg34 Z (Pts.cells hl.c Z)) Wp) ?_;refine DK.ad Z ?_;refine DK.wo (x:=.agg (Fact.c f)) (vV (Qh Z isAgg68 sizeOf68 Z Pts.rp Z Z) Wp) ?_;refine DK.ad Z ?_;refine DK.wo (x:=.rsl 57 (List.map Fact.c [f])) (YY (XU _) Z Z Z (YP (xs:=[.tmp 59]) (es:=List.map Fact.c [f]) Qab Z Z Z Z Z ⟨Z,trivial⟩ Z Z) Wp) ?_;refine DK.ad Z ?_;refine DK.op (x:=.osl (preF (l++e::r)++G').length 0 (e.1.r1++[f]).length 57) (YY (XU _) Z Z Z (QR (e:=Fact.c) (l:=e.1.r1) (m:=[f]) happ Qab runUnderlying34 Qai (hH:=hl.r1)) Wp) ?_ (hl:=by simp);refine DK.ad Z ?_;refine YT (x:=.ptr e.2.b 0) (λX=>vV (Yw Z) Wp) ?_;refine DK.ad Z ?_;refine YT (x:=.ptr e.2.b 1) (λX=>vV (Yq QaP Z Z) Wp) ?_;refine DK.ad Z ?_;refine YT (x:=.ptr e.2.b 2) (λX=>vV (Q2 (n:=3) (k:=1) (j:=1) hi Z runUnderlying120 sizeOf34 Z) Wp) ?_;refine DK.ad Z ?_;refine DK.done Z Z ?_;obtain⟨y,G2,hG,hB2⟩:=QnR (e.1.r1++[f]) hB';refine QbB (XV _) Z Z (Ex (i:=e.2.b) (off:=2) (n:=1) (v:=.osl (preF (l++e::r)++G').length 0 (e.1.r1++[f]).length 57) (vs:=[.osl (preF (l++e::r)++G').length 0 (e.1.r1++[f]).length 57]) (cs:=Q1 Ub.K e.2 e.1) (cs':=Q1 Ub.K {e.2 with i1:=(preF (l++e::r)++G').length} {e.1 with r1:=e.1.r1++[f]}) Z Z y sizeOf34 Z Z Z Z Z Z Z) (WO.nil ?_);exact⟨Z,⟨Z,Z,Z,Z,Z⟩,l++({e.1 with r1:=e.1.r1++[f]},{e.2 with i1:=(preF (l++e::r)++G').length})::r,G2,hG,hB2,Qe7 hB' hek (by rw[hbk,hfs]) Z⟩
      ·
        cases hst;have happ:app e.1.r2 [f]=some (e.1.r2++[f]):=Qg7 hrm.2.2.1;refine DKs 18 [14] [(0,0,1),(0,0,1),(0,0,1),(0,0,1),(0,0,0),(0,0,0),(0,0,0),(0,0,0),(0,0,0),(0,0,0),(0,0,0),(0,0,0),(0,0,0),(0,0,0),(1,0,0),(0,0,1),(0,0,1),(0,0,1)] (by kernel_rfl) ?_;refine Qny (ds':=[47,48,49,50,51,52,53,54,55,56,57,58,59,60,61,62,63,64]) Z ?_;refine YT (x:=.ptr e.2.b 0) (λX=>vV (OpV.move Z Z) Wp) ?_;refine DK.ad Z ?_;refine YT (x:=.rp ((Fact.c f).drop 47)) (λX=>vV (Qp QaO Z Z Z) Wp) ?_;refine DK.ad Z ?_;refine YT (x:=.rp ((Fact.c f).drop 48)) (λX=>vV (Qp Qca Z Z Z) Wp) ?_;refine DK.ad Z ?_;refine YT (x:=I f.Ruling.Instance) (λX=>vV (Ey Z isAgg3 Z Pts.rp) Wp) ?_;refine DK.ad Z ?_;refine DK.wo (x:=.ptr e.2.b 0) (vV (OpV.move Z Z) Wp) ?_;refine DK.ad Z ?_;refine DK.wo (x:=.rp ((Fact.c f).drop 47)) (vV (Qp QaO Z Z Z) Wp) ?_;refine DK.ad Z ?_;refine DK.wo (x:=.rp ((Fact.c f).drop 48)) (vV (Qp Qca Z Z Z) Wp) ?_;refine DK.ad Z ?_;refine DK.wo (x:=I f.Ruling.Instance) (vV (Ey Z isAgg3 Z Pts.rp) Wp) ?_;refine DK.ad Z ?_;refine DK.wo (x:=.ptr e.2.b 0) (vV (Yw Z) Wp) ?_;refine DK.ad Z ?_;refine DK.wo (x:=.ptr e.2.b 1) (vV (Yq QaP Z Z) Wp) ?_;refine DK.ad Z ?_;refine DK.wo (x:=.ptr e.2.b 3) (vV (Q2 (n:=3) (k:=1) (j:=2) hi Z runUnderlying120 sizeOf34 Z) Wp) ?_;refine DK.ad Z ?_;refine DK.wo (x:=.osl e.2.i2 0 e.1.r2.length 57) (vV (Ey Z isAgg34 Z (Pts.cells hl.c Z)) Wp) ?_;refine DK.ad Z ?_;refine DK.wo (x:=.agg (Fact.c f)) (vV (Qh Z isAgg68 sizeOf68 Z Pts.rp Z Z) Wp) ?_;refine DK.ad Z ?_;refine DK.wo (x:=.rsl 57 (List.map Fact.c [f])) (YY (XU _) Z Z Z (YP (xs:=[.tmp 59]) (es:=List.map Fact.c [f]) Qab Z Z Z Z Z ⟨Z,trivial⟩ Z Z) Wp) ?_;refine DK.ad Z ?_;refine DK.op (x:=.osl (preF (l++e::r)++G').length 0 (e.1.r2++[f]).length 57) (YY (XU _) Z Z Z (QR (e:=Fact.c) (l:=e.1.r2) (m:=[f]) happ Qab runUnderlying34 Qai (hH:=hl.r2)) Wp) ?_ (hl:=by simp);refine DK.ad Z ?_;refine YT (x:=.ptr e.2.b 0) (λX=>vV (Yw Z) Wp) ?_;refine DK.ad Z ?_;refine YT (x:=.ptr e.2.b 1) (λX=>vV (Yq QaP Z Z) Wp) ?_;refine DK.ad Z ?_;refine YT (x:=.ptr e.2.b 3) (λX=>vV (Q2 (n:=3) (k:=1) (j:=2) hi Z runUnderlying120 sizeOf34 Z) Wp) ?_;refine DK.ad Z ?_;refine DK.done Z Z ?_;obtain⟨y,G2,hG,hB2⟩:=QnQ (e.1.r2++[f]) hB';refine QbB (XV _) Z Z (Ex (i:=e.2.b) (off:=3) (n:=1) (v:=.osl (preF (l++e::r)++G').length 0 (e.1.r2++[f]).length 57) (vs:=[.osl (preF (l++e::r)++G').length 0 (e.1.r2++[f]).length 57]) (cs:=Q1 Ub.K e.2 e.1) (cs':=Q1 Ub.K {e.2 with i2:=(preF (l++e::r)++G').length} {e.1 with r2:=e.1.r2++[f]}) Z Z y sizeOf34 Z Z Z Z Z Z Z) (WO.nil ?_);exact⟨Z,⟨Z,Z,Z,Z,Z⟩,l++({e.1 with r2:=e.1.r2++[f]},{e.2 with i2:=(preF (l++e::r)++G').length})::r,G2,hG,hB2,Qe7 hB' hek (by rw[hbk,hfs]) Z⟩
    · rw[L,Vr]at hst
      refine TC.seq (TC.region ?_);refine vV (x:=.bool (f.Kind==8)) (OpV.eql Z Z Z) ?_;refine vV (OpV.assign Z Z) (WO.nil ?_);refine TC.cond (t:=f.Kind==8) Z (λh8=>?_) (λh8=>?_)
      · rw[h8,Vq]at hst
        obtain⟨hroom,hst⟩:=Qmy hst;cases hst;refine TC.seq (TC.region ?_);refine vV (OpV.move Z Z) ?_;refine vV (Qp Qh7 Z Z Z) ?_;refine vV (Qp QnX Z Z Z) ?_;refine vV (x:=I f.Report.Case) (Ey Z isAgg3 Z Pts.rp) ?_;refine QcF (Qce call89 Z Z Z Z) (Qjf f.Report.Case bk G hB) ?_ (XV _);rintro _ _ ⟨l,e,r,G',rfl,rfl,hB',hek,hbk⟩;refine vV (OpV.assign Z Z) (WO.nil ?_);have hl:=hB'.laid e (by simp);have hrm:=(QhL (l:=l.map (·.1)) (r:=r.map (·.1)) (x:=e.1) (by rw[<- Vk, <- Xg,hbk,hfs];exact hroom)).2.2.2;have happ:app e.1.reports [f.Report]=some (e.1.reports++[f.Report]):=Qg7 hrm;refine DKs 11 [8] [(0,0,1),(0,0,0),(0,0,0),(0,0,0),(0,0,0),(0,0,0),(0,0,0),(0,0,0),(1,0,0),(0,0,1),(0,0,1)] (by kernel_rfl) ?_;refine YT (x:=.ptr e.2.b 0) (λX=>vV (OpV.move Z Z) Wp) ?_;refine DK.ad Z ?_;refine DK.wo (x:=.ptr e.2.b 0) (vV (OpV.move Z Z) Wp) ?_;refine DK.ad Z ?_;refine DK.wo (x:=.ptr e.2.b 0) (vV (Yw Z) Wp) ?_;refine DK.ad Z ?_;refine DK.wo (x:=.ptr e.2.b 4) (vV (Yq fx_2 Z Z) Wp) ?_;refine DK.ad Z ?_;refine DK.wo (x:=.osl e.2.i3 0 e.1.reports.length 4) (vV (Ey Z isAgg121 Z (Pts.cells hl.c Z)) Wp) ?_;refine DK.ad Z ?_;refine DK.wo (x:=.rp ((Fact.c f).drop 39)) (vV (Qp Qh7 Z Z Z) Wp) ?_;refine DK.ad Z ?_;refine DK.wo (x:=.agg (Report.c f.Report)) (vV (Qh Z isAgg60 sizeOf60 Z Pts.rp Z Z) Wp) ?_;refine DK.ad Z ?_;refine DK.wo (x:=.rsl 4 (List.map Report.c [f.Report])) (YY (XU _) Z Z Z (YP (xs:=[.tmp 78]) (es:=List.map Report.c [f.Report]) Qox Z Z Z Z Z ⟨Z,trivial⟩ Z Z) Wp) ?_;refine DK.ad Z ?_;refine DK.op (x:=.osl (preF (l++e::r)++G').length 0 (e.1.reports++[f.Report]).length 4) (YY (XU _) Z Z Z (QR (e:=Report.c) (l:=e.1.reports) (m:=[f.Report]) happ Qox runUnderlying121 Qai (hH:=hl.r3)) Wp) ?_ (hl:=by simp);refine DK.ad Z ?_;refine YT (x:=.ptr e.2.b 0) (λX=>vV (Yw Z) Wp) ?_;refine DK.ad Z ?_;refine YT (x:=.ptr e.2.b 4) (λX=>vV (Yq fx_2 Z Z) Wp) ?_;refine DK.ad Z ?_;refine DK.done Z Z ?_;obtain⟨y,G2,hG,hB2⟩:=QnP (e.1.reports++[f.Report]) hB';refine QbB (XV _) Z Z (Ex (cs':=Q1 Ub.K {e.2 with i3:=(preF (l++e::r)++G').length} {e.1 with reports:=e.1.reports++[f.Report]}) Z Z y sizeOf121 Z Z Z Z Z Z Z) (WO.nil ?_);exact⟨Z,⟨Z,Z,Z,Z,Z⟩,l++({e.1 with reports:=e.1.reports++[f.Report]},{e.2 with i3:=(preF (l++e::r)++G').length})::r,G2,hG,hB2,Qe7 hB' hek (by rw[hbk,hfs]) Z⟩
      · rw[h8,Vr]at hst
        refine TC.seq (TC.region ?_);refine vV (x:=.bool (f.Kind==11)) (OpV.eql Z Z Z) ?_;refine vV (OpV.assign Z Z) (WO.nil ?_);refine TC.cond (t:=f.Kind==11) Z (λM=>?_) (λM=>?_)
        · rw[M,Vq]at hst
          refine TC.seq (TC.region ?_);refine vV (Qp Qh6 Z Z Z) ?_;refine vV (Qp QnU Z Z Z) ?_;refine vV (x:=.bool f.Appeal.Suspends) (Ey Z isAgg4 Z Pts.rp) (WO.nil ?_);refine TC.cond (t:=f.Appeal.Suspends) Z (λhs=>?_) (λhs=>TC.skip ?_)
          · rw[hs,Vq]at hst
            cases hst;refine TC.region ?_;refine vV (OpV.move Z Z) ?_;refine vV (Qp Qh6 Z Z Z) ?_;refine vV (Qp QnV Z Z Z) ?_;refine vV (x:=I f.Appeal.Case) (Ey Z isAgg3 Z Pts.rp) ?_;refine QcF (Qce call89 Z Z Z Z) (Qjf f.Appeal.Case bk G hB) ?_ (XV _);rintro _ _ ⟨l,e,r,G',rfl,rfl,hB',hek,hbk⟩;refine vV (x:=.ptr e.2.b 0) (Yw Z) ?_;refine vV (Yq fx_3 Z Z) ?_;have hl:=hB'.laid e (by simp);refine QbB (XV _) Z Z (Ex (cs':=Q1 Ub.K e.2 {e.1 with appeal:=true}) Z Z hl.c sizeOf4 Z Z Z Z Z Z Z) (WO.nil ?_);obtain⟨G2,hG,hB2⟩:=Qpm hB';exact⟨Z,⟨Z,Z,Z,Z,Z⟩,_,G2,hG,hB2,Qe7 hB' hek (by rw[hbk,hfs]) Z⟩
          · rw[hs,Vr]at hst
            cases hst;exact⟨Z,⟨Z,Z,Z,Z,Z⟩,bk,G,Z,hB,hfs⟩
        · rw[M,Vr]at hst
          cases hst;exact TC.skip ⟨Z,⟨Z,Z,Z,Z,Z⟩,bk,G,Z,hB,hfs⟩
  · rw[ht,Vr]at hs
    cases hs;have hb:=hd _ Z;refine⟨⟨_,Z⟩,?_⟩;rw[<- hb, <- hfs];exact Qpl hB Z
 refine Gx 1 Z (Ef q (Gc 9 Z ?_));refine vH (Qfz underlying169) ?_;refine FE Z (Go 2 Z ?_);have ai:=Qkq h;have P:QiP _ _ _ _ _:=λp hp=>bnd (ai p hp);refine Qob P (λJ=>[(12,.osl 0 0 J.length 1)]) (λJ=>[.row 119 1 (List.map Ub.ptr J)]) ?_ (λJ env H N q=>?_)
 .refine G0 1 Z ?_;refine Qm8 (enc:=(λp=>((λx=>A.int .i64 x) p.1,(rpE Ub.K) p.2))) (λF=>[(12,.osl 0 0 F.length 1),(97,.ptr 1 0)]) (λF R=>[.row 119 1 (List.map Ub.ptr F),.iter none R]) P ?_ ?_
  .refine Em (Ep (s:=12) (k:=1) (t:=119) (XS Z) Z) ?_;exact Lr [3,2]
  intro F R aj;refine G0 2 Z ?_;refine Qm2 (enc:=(λp=>((λx=>A.int .i64 x) p.1,(rpE Ub.K) p.2))) aj (λax ak al=>?_) (λg T ay O az am=>?_)
  .refine Go 7 Z (Qo9 ?_);cases ak;exact Gx 1 Z (cutGN al (Lr [0]))
  refine aV (.tup [.bool true,I g.1,.rp (Ub.c g.2)]) [.row 119 1 (List.map Ub.ptr F),.iter (some (I g.1,.rp (Ub.c g.2))) (List.map (λp=>((λx=>A.int .i64 x) p.1,(rpE Ub.K) p.2)) T)] Z Z ?_;refine Go 10 Z ?_;refine vX (.tup [I g.1,.rp (Ub.c g.2)]) (OpV.entry (e:=(I g.1,.rp (Ub.c g.2)))) ?_;refine Go 7 Z ?_;refine vH (Ek (xs:=[.tmp 103]) (es:=List.map Ub.ptr [g.2]) Qhd Z Z Z Z Z ⟨Z,trivial⟩ Z Z) ?_;refine FE Z (Bd O λan ac O=>?_);refine vH (QR (e:=Ub.ptr) ac Qhd runUnderlying117 (Jy (i:=2))) ?_;refine FE Z (Go 3 Z (Qpa _ _ O am ?_));refine Em (Qgy (i:=1) (H':=[.dead,.iter none (List.map (λp=>((λx=>A.int .i64 x) p.1,(rpE Ub.K) p.2)) T),.row 119 1 (List.map Ub.ptr [g.2]),.row 119 1 (List.map Ub.ptr an)]) Z Z) ?_;exact Lr [3,1]
 refine Gx 1 Z (Ef q (Gc 3 Z ?_));refine Er (QaU [(12,_),(106,_)] Z Z (Qnn.cons Z Eo (Qnn.cons Z Eo Qnn.nil)) (Ec (Y8 _))) ?_;exact Cd [] N (k_bq _ _) Z λba ar N=>FE Z (Go 4 Z (Rt N 2 []))
def F_du(n:Nat)(c:Ub)(a:(List Fact)×Int):Option (Ctl ((List Fact)×Int) (List Fact)):=
  (bif decide (a.2<3)then(idx ([c.r0,c.r1,c.r2]:List (List Fact)) a.2).bind λb=>((bif decide (1<(b.length:Int))then(slc b 1 (b.length:Int)).bind λd=>(app a.1 d).bind λe=>some e else some a.1):Option (List Fact)).bind λf=>some (.cont (f,IntKind.i64.wrap (a.2+1)))else some (.done a.1))
def F_gs(n:Nat)(c:List Ub)(a:(List Fact)×Int):Option (Ctl ((List Fact)×Int) (List Fact)):=
  (bif decide (a.2<(c.length:Int))then(idx c a.2).bind λd=>(iter (F_du n d) n (a.1,0):Option (List Fact)).bind λb=>some (.cont (b,IntKind.i64.wrap (a.2+1)))else some (.done a.1))
def F_gu(n:Nat)(b:List Fact)(a:(List Ref)×Int):Option (Ctl ((List Ref)×Int) (List Ref)):=
  (bif decide (a.2<(b.length:Int))then(idx b a.2).bind λc=>(app a.1 [{Crew:=c.Crew,No:=c.No:Ref}]).bind λd=>some (.cont (d,IntKind.i64.wrap (a.2+1)))else some (.done a.1))
def F_ao(n:Nat)(d:List Fact):Option (List Ref):=
  (F_aw n d).bind λe=>(iter (F_gs n e) n ([],0):Option (List Fact)).bind λc=>(F_ap n c).bind λa=>(iter (F_gu n a) n ([],0):Option (List Ref)).bind λb=>some b
theorem k_ao(n:Nat)(a1:List Fact)(r:List Ref)(h:F_ao n a1=some r):
    C prog 23 [.rsl 57 (List.map Fact.c a1)] [] (RQ (λr=>.osl 0 0 r.length 2) (λr=>[.row 66 2 (List.map Ref.c r)]) r):=by
 refine Qb func23 Z Z Z ?_;refine G0 14 Z (Cd [] h (k_aw _ _) Z λr1 ai h=>FE Z (Lm Z (Go 3 Z (Bd h λu aa h=>?_))));refine Ct u [0] [2] (λu=>[(3,.osl 0 0 u.length 57)]) (λu=>[(0,.row 68 57 (List.map Fact.c u))]) Zf ?_ (λenv H j=>?_)
 .refine G0 1 Z ?_;refine Lp [0] [2,11,12] (λw=>[(3,.osl 0 0 w.1.length 57),(13,I w.2)]) (λw=>[(0,.row 68 57 (List.map Fact.c w.1))]) aa Zf ?_ ?_
  .refine Em (Ep (s:=3) (k:=57) (t:=68) (XS Z) Z) ?_;exact Lr [0]
  intro w aj f R;refine G0 6 Z (Jl Z f (λT f=>?_) (λT f=>?_))
  .refine Gc 2 Z (Qy f ?_);obtain rfl:=Oj R f;exact Gx 1 Z (QH (Lr [0]))
  refine Gc 6 Z (Bd f λB V f=>Iz V Z (Go 8 Z (Fr QaP Z ?_)));refine vV (x:=(.agg (List.flatten (List.map (Qjs 57 Fact.c) ([B.r0,B.r1,B.r2]:List (List Fact)))))) (Qh Z isAgg120 sizeOf120 Z Pts.rp Z Z) ?_;refine Go 3 Z (Bd f λl W f=>?_);refine Ct l [0] [2,11,12,13] (λl=>[(3,.osl 0 0 l.length 57)]) (λl=>[(0,.row 68 57 (List.map Fact.c l))]) Zf ?_ (λenv H j=>?_)
  .refine G0 1 Z ?_;refine Lp [0] [2,11,12,13,20] (λm=>[(3,.osl 0 0 m.1.length 57),(21,I m.2)]) (λm=>[(0,.row 68 57 (List.map Fact.c m.1))]) W Zf (Lr [0]) λm ac a F=>?_;refine G0 6 Z (Jl Z a (λG a=>?_) (λG a=>?_))
   .refine Gc 2 Z (Qy a ?_);obtain rfl:=Oj F a;exact Gx 1 Z (QH (Lr [0]))
   refine Gc 6 Z (Bd a λE J a=>?_);refine vX (.rsl 57 (List.map Fact.c E)) (Qlq (n:=3) (e:=(Qjs 57 Fact.c)) (v:=.rsl 57 (List.map Fact.c E)) J Z (λ_=>⟨_,Z⟩) Z runUnderlying120 isAgg34 sizeOf34) ?_;refine Go 6 Z (Lm Z (Go 3 Z (Bd a λp d a=>?_)));refine Ct p [0] [2,11,12,13,20,21] (λp=>[(3,.osl 0 0 p.length 57)]) (λp=>[(0,.row 68 57 (List.map Fact.c p))]) Zf ?_ (λenv H j=>?_)
   .refine G0 0 Z (Cn Z d (λL d=>?_) (λL d=>?_))
    .refine Gc 3 Z (Bd d λX M d=>?_);refine vX (.rsl 57 (List.map Fact.c X)) (QiG M runUnderlying34 sizeOf68 (.inr ⟨_,Z,Z⟩) (.inl ⟨Z,Z⟩)) ?_;refine Bd d λae N d=>?_;refine vH (QR (e:=Fact.c) N Qab runUnderlying34 Qai) ?_;exact FE Z (Go 2 Z (Cl d [1]))
    exact Gc 1 Z (Cl d [0])
   exact Gx 2 Z (Ef j (Gc 4 Z (Qt a (Lr [0]))))
  exact Gx 2 Z (Ef j (Gc 4 Z (Qt f (Lr [0]))))
 refine Gx 1 Z (Ef j (Gc 4 Z ?_));refine Er (QaU [(3,_),(33,_)] Z Z (Qnn.cons Z Eo (Qnn.cons Z Eo Qnn.nil)) (Ec (Y8 _))) ?_;refine Cd [] h (k_ap _ _) Z λaf ab h=>FE Z (Go 4 Z (Bd h λq Y h=>?_));refine Ct q [0] [] (λq=>[(2,.osl 0 0 q.length 2)]) (λq=>[(0,.row 66 2 (List.map Ref.c q))]) Zf ?_ (λenv H j=>?_)
 .refine G0 1 Z ?_;refine Lp [0,1] [34,35] (λg=>[(2,.osl 0 0 g.1.length 2),(36,I g.2)]) (λg=>[(0,.row 66 2 (List.map Ref.c g.1))]) Y Zf ?_ ?_
  .refine Em (Ep (s:=2) (k:=2) (t:=66) (XS Z) Z) ?_;exact Lr [2,1]
  intro g ag b O;refine G0 6 Z (Jl Z b (λP b=>?_) (λP b=>?_))
  .refine Gc 2 Z (Qy b ?_);obtain rfl:=Oj O b;exact Gx 1 Z (QH (Lr [0]))
  refine Gc 6 Z (Bd b λy z b=>?_);refine vX (.ptr 1 (Int.toNat g.2*57)) (Q7 z Z runUnderlying34 sizeOf68) ?_;refine vX (.agg (Fact.c y)) (Qh Z isAgg68 sizeOf68 Z (Qu z) Z Z) ?_;refine Go 11 Z ?_;refine vH (Ek (xs:=[.tmp 45]) (es:=List.map Ref.c [{Crew:=y.Crew,No:=y.No:Ref}]) QoA Z Z Z Z Z ⟨Z,trivial⟩ Z Z) ?_;refine FE Z (Bd b λah Q b=>?_);refine vH (QR (e:=Ref.c) Q QoA runUnderlying76 (Jy (i:=3))) ?_;exact FE Z (Go 8 Z (Qt b (Lr [4,1])))
 exact Gx 1 Z (Ef j (Gc 7 Z (Rt h 2 [0])))
def F_hd(n:Nat)(c:List Ref)(a:(List (Ref×Bool))×Int):Option (Ctl ((List (Ref×Bool))×Int) (List (Ref×Bool))):=
  (bif decide (a.2<(c.length:Int))then(idx c a.2).bind λb=>(some (QO a.1 ({Crew:=b.Crew,No:=b.No:Ref}) true)).bind λd=>some (.cont (d,IntKind.i64.wrap (a.2+1)))else some (.done a.1))
def F_gj(n:Nat)(e:List Fact)(f:Int)(l:List (Ref×Bool))(a:Fact×Int):Option ((List Fact)×Ctl (Fact×Int) Fact):=
  (bif decide (a.2<(e.length:Int))then(idx e a.2).bind λb=>(F_o n b).bind λg=>(bif (g != 0)then some ([],.cont (a.1,IntKind.i64.wrap (a.2+1)))else((bif (b.Kind==8)then some (b.Report.Case==f)else some false):Option Bool).bind λh=>(bif h then((bif (a.1.Kind==0)then some true else(F_r n b a.1).bind λi=>some (decide (i<0))):Option Bool).bind λj=>((bif j then some b else some a.1):Option Fact).bind λk=>some ([],.cont (k,IntKind.i64.wrap (a.2+1)))else((bif (b.Kind==10)then(bif (b.Ruling.Case==f)then(some (Qo l ({Crew:=b.Crew,No:=b.No:Ref}) false)).bind λc=>some (!c)else some false)else some false):Option Bool).bind λd=>(bif d then yl b (some ([],.cont (a.1,IntKind.i64.wrap (a.2+1))))else some ([],.cont (a.1,IntKind.i64.wrap (a.2+1))))))else some ([],.done a.1))
def F_y(n:Nat)(b:List Fact)(c:Int):Option ((List Fact)×Unit):=
  (F_ao n b).bind λd=>(iter (F_hd n d) n ([],0):Option (List (Ref×Bool))).bind λe=>ap (Qcn (F_gj n b c e) n (Uk,0)) λa=>(bif (a.Kind != 0)then yl a (some ([],()))else some ([],()))
theorem k_y(n:Nat)(a1:List Fact)(a2:Int)(p:(List Fact)×Unit)(h:F_y n a1 a2=some p):
    QiB prog 71 [.ptr 0 0,.ptr 1 0] [.cells 34 [.rsl 57 (List.map Fact.c a1)],.cells 3 [I a2]] (λx=>[.agg (Fact.c x)]) nxL p.1:=by
 obtain⟨xs,u⟩:=p;refine QiA func71 Z Z Z Z ?_;intro X hE hN;refine Gy0 1 Z (TCy.lf ?_);refine G0 3 Z ?_;refine Gyx 2 Z (TCy.lf ?_);refine G0 1 Z ?_;refine vH Q6 ?_;refine FE Z (Go 2 Z ?_);refine Gyx 2 Z (TCy.lf ?_);refine G0 3 Z (Cd [] h (k_ao _ _) Z λr1 aq h=>FE Z (Go 4 Z (Bd h λG ai h=>?_)));refine Ct G [0,1,2,3] [0,1,2,4,5] Ze (λG=>[(3,.map (Qk (λx=>A.agg (Ref.c x)) A.bool G))]) Zf ?_ (λenv H d=>?_)
 .refine G0 1 Z ?_;refine Lp [0,1,2,3,4] [0,1,2,4,5,12,13] (λi=>[(14,I i.2)]) (λi=>[(3,.map (Qk (λx=>A.agg (Ref.c x)) A.bool i.1))]) ai Zf (Lr [0,1,2,3,4]) λi ar f P=>?_;refine G0 6 Z (Jl Z f (λQ f=>?_) (λQ f=>?_))
  .refine Gc 2 Z (Qy f ?_);obtain rfl:=Oj P f;exact Gx 1 Z (QH (Lr [0,1,2,3]))
  refine Gc 6 Z (Bd f λs y f=>?_);refine vX (.ptr 4 (Int.toNat i.2*2)) (Q7 y Z runUnderlying76 sizeOf66) ?_;refine vX (.agg [I s.Crew,I s.No]) (Qh Z isAgg66 sizeOf66 Z (Qu y) Z Z) ?_;refine Go 7 Z (Bd f λau R f=>?_);refine vU (Yr (ev:=A.bool) (k:=({Crew:=s.Crew,No:=s.No:Ref})) (v:=true) (l:=i.1) Qmm R Z underlying146) ?_;exact FE Z (Go 7 Z (Qt f (Lr [0,1,2,3,4])))
 refine Gyx 1 Z (TCy.le d (Gyc 2 Z (TCy.lf ?_)));refine G0 2 Z (Lm Z (Go 2 Z ?_));refine Gyx 1 Z ?_;obtain⟨av,t,aj,ak,j,rfl⟩:=ap_ok h;rw[Vj];refine Qm6 t (aj++[]) [0,1,2] [0,4] Ze (λt=>[(2,.cells 68 (Fact.c t))]) Zf ?_ (λenv H d=>?_)
 .refine Gy0 1 Z ?_;refine Qpz [0,1,2,3] [0,2,4,5,21,22] (λw=>[(23,I w.2)]) (λw=>[(2,.cells 68 (Fact.c w.1))]) ak Zf (Lr [0,1,2,3]) λw aw ax ay a T=>?_;refine Gy0 1 Z (TCy.lf ?_);refine G0 3 Z ?_;refine Gyx 2 Z (TCy.lf ?_);refine G0 0 Z (Jl Z a (λV a=>?_) (λV a=>?_))
  .refine Gc 1 Z ?_;refine Gyx 1 Z ?_;obtain⟨rfl,rfl,rfl⟩:=Oy T a;exact Qpb (Gyx 1 Z (cutYN (Lr [0,1,2])))
  refine Gc 1 Z ?_;refine Gyx 4 Z (TCy.lf ?_);refine G0 1 Z (Bd a λz W a=>Iz W Z (Go 4 Z ?_));refine Gyx 2 Z (TCy.lf ?_);refine G0 3 Z (Cz [] a (k_o _ _) Z λaz al a=>Go 3 Z (Cn Z a (λY a=>?_) (λY a=>?_)))
  .refine Gc 1 Z ?_;refine Gyx 3 Z (TCy.lf ?_);refine G0 4 Z ?_;exact Gyx 0 Z (QgW a (Lr [0,1,2,3]))
  refine Gc 1 Z ?_;refine Gyx 3 Z (TCy.lf ?_);refine Bd a λB m a=>?_;refine Ct B [0,1,2,3,4] [0,2,4,5,9,21,22,23] (λB=>[(30,.bool B)]) Ze Zf ?_ (λenv H d=>?_)
  .refine G0 5 Z (Is 34 m Z (λaa m=>?_) (λaa m=>?_))
   .exact Go 8 Z (Cl m [0,1,2,3,4])
   .exact Go 8 Z (Cl m [0,1,2,3,4])
  refine Gyx 1 Z (TCy.le d (Cny Z a (λab a=>?_) (λab a=>?_)))
  .refine TCy.lf ?_;refine G0 1 Z (Bd a λE g a=>?_);refine Ct E [0,1,2,3,4] [0,2,4,5,9,21,22,23] (λE=>[(49,.bool E)]) Ze Zf ?_ (λenv H d=>?_)
   .refine G0 5 Z (Is 44 g Z (λac g=>?_) (λac g=>?_))
    .exact Go 6 Z (Cl g [0,1,2,3,4])
    .exact Go 2 Z (Cz [] g (k_r _ _ _) Z λba am g=>Go 3 Z (Cl g [0,1,2,3,4]))
   refine Gx 1 Z (Ef d (Bd a λF q a=>?_));refine Ct F [0,1,2,3] [0,2,4,5,21,22,23] Ze (λF=>[(2,.cells 68 (Fact.c F))]) Zf ?_ (λenv H d=>?_)
   .refine G0 0 Z (Cn Z q (λae q=>?_) (λae q=>?_))
    .exact Gc 4 Z (Cl q [0,1,2,3])
    exact Gc 1 Z (Cl q [0,1,2,3])
   refine Gyx 3 Z (TCy.le d (TCy.lf ?_));refine G0 4 Z ?_;exact Gyx 0 Z (QgW a (Lr [0,1,2,3]))
  .refine Gyc 1 Z (TCy.lf ?_);refine Bd a λr b a=>?_;refine Ct r [0,1,2,3,4] [0,2,4,5,9,21,22,23] (λr=>[(51,.bool r)]) Ze Zf ?_ (λenv H d=>?_)
   .refine G0 5 Z (Is 55 b Z (λJ b=>?_) (λJ b=>?_))
    .refine Go 7 Z (Is 62 b Z (λL b=>?_) (λL b=>?_))
     .refine Go 6 Z (Bd b λaf M b=>?_);refine vX (.bool af) (Yj (ev:=A.bool) (z0:=false) (k:=({Crew:=z.Crew,No:=z.No:Ref})) (l:=G) Qmm M underlying146 zeroValue4 ZR.bool) ?_ (gT Z);exact Go 4 Z (Cl b [0,1,2,3,4])
     .exact Go 11 Z (Cl b [0,1,2,3,4])
    .exact Go 18 Z (Cl b [0,1,2,3,4])
   refine Gyx 1 Z (TCy.le d (Cny Z a (λN a=>?_) (λN a=>?_)))
   .refine Gyc 4 Z ?_;obtain⟨an,ag,rfl⟩:=Qoi a;refine Qm1 (x:=z) (e:=λx=>.agg (Fact.c x)) hE hN Z Z Z Z ?_ ?_
    .refine Gyo 3 Z (TCy.lf ?_);refine G0 2 Z ?_;refine Gyx 3 Z (TCy.lf ?_);refine G0 4 Z ?_;exact Gyx 0 Z (QgW ag (Lr [0,1,2,3]))
    .exact Gyo 8 Z (Qpc (Gyx 1 Z (cutYR (Gyx 1 Z (⟨.inr Z,.inr ⟨_,Z⟩⟩)))))
   .refine Gyc 4 Z (TCy.lf ?_);refine G0 4 Z ?_;exact Gyx 0 Z (QgW a (Lr [0,1,2,3]))
 refine Gyx 1 Z (TCy.le d (Gyc 1 Z (TCy.lf ?_)));refine G0 5 Z ?_;refine Gyx 1 Z (Cny Z j (λO j=>?_) (λO j=>?_))
 .refine Gyc 3 Z ?_;obtain⟨ao,ah,rfl⟩:=Qoi j;refine Qm1 (x:=t) (e:=λx=>.agg (Fact.c x)) hE hN Z Z Z Z ?_ ?_
  .refine Gyo 1 Z ?_;cases ah;exact⟨.inl Z,.inl Z⟩
  .exact Gyo 1 Z (⟨.inl Z,.inr ⟨_,Z⟩⟩)
 .refine Gyc 1 Z ?_;cases j;exact⟨.inl Z,.inl Z⟩
def F_hp(n:Nat)(a:Int×Bool)(b:Fact):Option (Ctl (Int×Bool) (Int×Bool)):=
  some (.cont ((if a.1<b.At then b.At else a.1),true))
def F_aa(n:Nat)(b:Course)(c:List Fact)(d:Int):Option (Int×Bool):=
  (F_h n b).bind λe=>(bif (e != 0)then some (0,false)else(F_v n c d).bind λg=>(F_y n c d).bind λy4=>(Qci (F_hp n) y4.1 (0,false):Option (Ctl (Int×Bool) (Int×Bool))).bind λf=>match f with|.cont a=>(bif (!a.2)then some (0,false)else some (IntKind.i64.wrap (a.1+b.Deadline),true))|.done a=>some a)
theorem k_aa(n:Nat)(b:Course)(e:List Fact)(f:Int)(r:Int×Bool)(h:F_aa n b e f=some r):
    C prog 13 [.agg (Course.c b),.rsl 57 (List.map Fact.c e),I f] [] (RQ (λr=>.tup [I r.1,.bool r.2]) (λr=>[.cells 3 [I r.1],.cells 4 [.bool r.2]]) r):=by
 refine Qb func13 Z Z Z ?_;refine G0 11 Z (Cz [] h (k_h _ _) Z λt m h=>Go 3 Z (Cn Z h (λg h=>?_) (λg h=>?_)))
 .refine Gc 8 Z ?_;obtain rfl:=Oi h;exact Rx [1,2] [6,7] Z (QQ Z Z (QjC.cons (Jn isAgg3 Z Z) (QjC.cons (Jn isAgg4 Z Z) QjC.nil))) ⟨Z,Z⟩
 refine Gc 7 Z (Cd [] h (k_v _ _ _) Z λu p h=>FE Z (Go 3 Z (Bd h λy4 hy4 h=>Bd h λw i h=>?_)));refine QdF [3,4] (λa=>[.cells 33 (Course.c b),.cells 3 [I a.1],.cells 4 [.bool a.2],.dead,.dead]) i (k_y _ _ _ _ hy4) Zf call71 Z Z Z Z (by decide) Z (Lr [0,1,2,3,4]) ?_ ?_
 .intro a j q k l;refine G0 4 Z (And.intro Z ?_);refine G0 5 Z ?_;refine vX (I (if a.1<j.At then j.At else a.1)) (OpV.max Z Z Z Z) ?_;exact Go 4 Z (QgL k (Lr [0,1,2,3,4]))
 rintro s rfl;refine Gx 9 Z (Cn Z h (λd h=>?_) (λd h=>?_))
 .refine Gc 8 Z ?_;obtain rfl:=Oi h;exact Rx [1,2] [6,7] Z (QQ Z Z (QjC.cons (Jn isAgg3 Z Z) (QjC.cons (Jn isAgg4 Z Z) QjC.nil))) ⟨Z,Z⟩
 refine Gc 13 Z ?_;obtain rfl:=Oi h;exact Rx [1,2] [6,7] Z (QQ Z Z (QjC.cons (Jn isAgg3 Z Z) (QjC.cons (Jn isAgg4 Z Z) QjC.nil))) ⟨Z,Z⟩
def F_ak(n:Nat)(a:Fact)(b:Fact):Option Unit:=
  some ()
theorem k_ak(n:Nat)(a:Fact)(b:Fact)(r:Unit)(h:F_ak n a b=some r):
    Csm prog 42 [.agg (Fact.c a),.ptr 0 0] [.cells 68 (Fact.c b)] (λ_=>.bool (decide (b.At<a.At))) r:=by
 refine Qb func42 Z Z Z ?_;exact G0 17 Z (Rt h 3 [0])
def F_hg(n:Nat)(c:List Fact)(d:Fact)(a:Int):Option (Ctl Int (Ctl Unit Int)):=
  (bif decide (a<(c.length:Int))then(idx c a).bind λb=>(F_ak n b d).bind λe=>(bif decide (d.At<b.At)then some (.done (.done a))else some (.cont (IntKind.i64.wrap (a+1))))else some (.done (.cont ())))
def F_dg(n:Nat)(c:List Fact)(d:Fact):Option Int:=
  (iter (F_hg n c d) n 0:Option (Ctl Unit Int)).bind λb=>match b with|.cont a=>(some (-1))|.done a=>some a
theorem k_dg(n:Nat)(g:List Fact)(k:Fact)(r:Int)(h:F_dg n g k=some r):
    Csm prog 75 [.osl 0 0 g.length 57,.fn (.func 42) [] [.ptr 1 0]] [.row 68 57 (List.map Fact.c g),.cells 68 (Fact.c k)] (λr=>I r) r:=by
 refine Qb func75 Z Z Z ?_;refine G0 13 Z (Bd h λl m h=>?_);refine CtE (b:=l) [0,1] [] Ze Ze Zf ?_ (λt env H p q=>?_)
 .refine G0 1 Z ?_;refine Lp [0,1] [0,1,7] (λd=>[(8,I d)]) Ze m Zf (Lr [0,1]) λd w a e=>?_;refine G0 6 Z (Jl Z a (λi a=>?_) (λi a=>?_))
  .refine Gc 2 Z (Qy a ?_);obtain rfl:=Oj e a;exact Gx 1 Z (QI Z (Lr [0,1]))
  refine Gc 15 Z (Bd a λs f a=>?_);refine vX (.ptr 0 (Int.toNat d*57)) (Q7 f Z runUnderlying34 sizeOf68) ?_;refine vX (.agg (Fact.c s)) (Qh Z isAgg68 sizeOf68 Z (Qu f) Z Z) ?_;refine Cz [1] a (k_ak _ _ _) Z λx u a=>Go 2 Z (Cn Z a (λj a=>?_) (λj a=>?_))
  .refine Gc 9 Z (Yt a ?_);obtain rfl:=Oj e a;exact Gx 1 Z (Q4 (Gx 1 Z (Rt h 4 [0,1])))
  exact Gc 7 Z (Qt a (Lr [0,1]))
 subst p;exact Gx 1 Z (Ef q (Gc 6 Z (Rt h 4 [0,1])))
def F_gt(n:Nat)(d:Fact)(a:(List Fact)×Int×Int):Option (Ctl ((List Fact)×Int×Int) ((List Fact)×Int)):=
  (bif decide (a.2.2<(a.1.length:Int))then(idx a.1 a.2.2).bind λb=>(F_ak n b d).bind λf=>((bif (!(decide (d.At<b.At)))then(idx a.1 a.2.1).bind λg=>(Qdk a.1 a.2.1 b).bind λe=>some (e,IntKind.i64.wrap (a.2.1+1))else some (a.1,a.2.1)):Option ((List Fact)×Int)).bind λc=>some (.cont (c.1,c.2,IntKind.i64.wrap (a.2.2+1)))else some (.done (a.1,a.2.1)))
def F_bt(n:Nat)(b:List Fact)(d:Fact):Option (List Fact):=
  (F_dg n b d).bind λc=>(bif (c==(-1))then some b else(iter (F_gt n d) n (b,c,IntKind.i64.wrap (c+1)):Option ((List Fact)×Int)).bind λa=>(slc a.1 0 a.2).bind λe=>some e)
theorem k_bt(n:Nat)(x:List Fact)(u:Fact)(r:List Fact)(h:F_bt n x u=some r):
    C prog 40 [.osl 0 0 x.length 57,.fn (.func 42) [] [.ptr 1 0]] [.row 68 57 (List.map Fact.c x),.cells 68 (Fact.c u)] (RQ (λr=>.osl 0 0 r.length 57) (λr=>[.row 68 57 (List.map Fact.c r),.cells 68 (Fact.c u)]) r):=by
 refine Qb func40 Z Z Z ?_;refine G0 9 Z (Cz [0,1] h (k_dg _ _ _) Z λQ L h=>Go 10 Z (Cn Z h (λE h=>?_) (λE h=>?_)))
 .exact Gc 8 Z (Rt h 4 [0,1])
 refine Gc 10 Z (Bd h λa F h=>?_);refine Ct a [0,1] [] (λa=>[(0,.osl 0 0 a.1.length 57),(5,I a.2)]) (λa=>[(0,.row 68 57 (List.map Fact.c a.1))]) Zf ?_ (λenv H p=>?_)
 .refine G0 1 Z ?_;refine Lp [0,1] [1] (λg=>[(0,.osl 0 0 g.1.length 57),(5,I g.2.1),(6,I g.2.2)]) (λg=>[(0,.row 68 57 (List.map Fact.c g.1))]) F Zf (Lr [0,1]) λg M b y=>?_;refine G0 9 Z (Jl Z b (λz b=>?_) (λz b=>?_))
  .refine Gc 2 Z (Qy b ?_);obtain rfl:=Oj y b;exact Gx 1 Z (QH (Lr [0,1]))
  refine Gc 8 Z (Bd b λG q b=>?_);refine vX (.ptr 0 (Int.toNat g.2.2*57)) (Q7 q Z runUnderlying34 sizeOf68) ?_;refine vX (.agg (Fact.c G)) (Qh Z isAgg68 sizeOf68 Z (Qu q) Z Z) ?_;refine Go 8 Z (Cz [1] b (k_ak _ _ _) Z λN J b=>Go 3 Z (Bd b λj d b=>?_));refine Ct j [0,1] [1,6] (λj=>[(0,.osl 0 0 j.1.length 57),(5,I j.2)]) (λj=>[(0,.row 68 57 (List.map Fact.c j.1))]) Zf ?_ (λenv H p=>?_)
  .refine G0 0 Z (Cn Z d (λB d=>?_) (λB d=>?_))
   .refine Gc 5 Z (Bd d λO t d=>?_);refine vX (.ptr 0 (Int.toNat g.2.1*57)) (Q7 t Z runUnderlying34 sizeOf68) ?_;refine Bd d λP i d=>?_;refine vU (QaT (e:=Fact.c) (k:=57) (f:=0) t i sizeOf68 Z Z) ?_;refine FE Z ?_;refine Er (QT (s:=0) Z (congrArg (λn=>A.osl 0 0 n 57) (Qa9 i))) ?_;refine Er (QT (s:=17) Z (congrArg (λn=>A.osl 0 0 n 57) (Qa9 i))) ?_;refine Er (QT (s:=22) Z (congrArg (λn=>A.osl 0 0 n 57) (Qa9 i))) ?_;refine Er (QT (s:=30) Z (congrArg (λn=>A.osl 0 0 n 57) (Qa9 i))) ?_;exact Go 7 Z (Cl d [0,1])
   exact Gc 1 Z (Cl d [0,1])
  exact Gx 2 Z (Ef p (Gc 5 Z (Qt b (Lr [0,1]))))
 refine Gx 1 Z (Ef p (Gc 4 Z (Bd h λw m h=>?_)));refine vX (.osl 0 (0+Int.toNat a.2) (a.1.length-Int.toNat a.2) 57) (Qfv (l:=a.1) m runUnderlying34 sizeOf68) ?_;refine vN (QfA (e:=Fact.c) (l:=a.1) m underlying34 zeroValue68 Z (by simp[Qm,Go.Value.cells])) ?_;refine QdD (H:=[.row 68 57 (List.map Fact.c w),.cells 68 (Fact.c u)]) Z ?_;refine Go 6 Z ?_;refine vX (.osl 0 0 w.length 57) (Qfw (l:=a.1) m runUnderlying34 sizeOf68) ?_;exact Go 4 Z (Rt h 4 [0,1])
def F_eb(n:Nat)(a:Protest):Option Unit:=
  some ()
theorem k_eb(n:Nat)(a:Protest)(r:Unit)(h:F_eb n a=some r):
    Csm prog 43 [.ptr 0 0] [.cells 36 (Protest.c a)] (λ_=>.bool (a.Form==1)) r:=by
 refine Qb func43 Z Z Z ?_;exact G0 14 Z (Rt h 1 [0])
def F_dm(n:Nat)(a:Protest):Option Unit:=
  (F_eb n a).bind λb=>some ()
theorem k_dm(n:Nat)(a:Protest)(r:Unit)(h:F_dm n a=some r):
    Csm prog 48 [.agg [.fn (.func 43) [] [.ptr 0 0]]] [.cells 36 (Protest.c a)] (λ_=>.bool (!(a.Form==1))) r:=by
 refine Qb func48 Z Z Z ?_;exact G0 10 Z (Cz [0] h (k_eb _ _) Z λd b h=>Go 5 Z (Rt h 2 [0]))
def F_ei(n:Nat)(a:Protest)(b:Course):Option Bool:=
  ((bif (a.By==0)then some true else some (decide (b.Fee<=a.Fee))):Option Bool).bind λb2=>some b2
theorem k_ei(n:Nat)(b:Protest)(d:Course)(r:Bool)(h:F_ei n b d=some r):
    Csm prog 44 [.ptr 0 0,.ptr 1 0] [.cells 36 (Protest.c b),.cells 33 (Course.c d)] (λr=>.bool r) r:=by
 refine Qb func44 Z Z Z ?_;refine G0 6 Z (Bd h λb2 a h=>?_);refine Ct b2 [0,1] [] (λb2=>[(2,.bool b2)]) Ze Zf ?_ (λenv H e=>?_)
 .refine G0 5 Z (Is 6 a Z (λf a=>?_) (λf a=>?_))
  .exact Go 8 Z (Cl a [0,1])
  .exact Go 8 Z (Cl a [0,1])
 exact Gx 1 Z (Ef e (Gc 1 Z (Rt h 2 [0,1])))
def F_db(n:Nat)(a:Protest)(b:Course):Option Bool:=
  (F_ei n a b).bind λc=>some (!c)
theorem k_db(n:Nat)(a:Protest)(b:Course)(r:Bool)(h:F_db n a b=some r):
    Csm prog 48 [.agg [.fn (.func 44) [] [.ptr 0 0,.ptr 1 0]]] [.cells 36 (Protest.c a),.cells 33 (Course.c b)] (λr=>.bool r) r:=by
 refine Qb func48 Z Z Z ?_;exact G0 10 Z (Cz [0,1] h (k_ei _ _ _) Z λe d h=>Go 5 Z (Rt h 2 [0,1]))
def F_fo(n:Nat)(b:Course)(c:List Fact)(d:Protest)(e:Fact):Option Bool:=
  (F_aa n b c d.Case).bind λa=>((bif a.2 then some (decide (e.At<=a.1))else some false):Option Bool).bind λf=>some f
theorem k_fo(n:Nat)(d:Course)(e:List Fact)(f:Protest)(g:Fact)(r:Bool)(h:F_fo n d e f g=some r):
    Csm prog 45 [.ptr 0 0,.ptr 1 0,.ptr 2 0,.ptr 3 0] [.cells 33 (Course.c d),.cells 34 [.rsl 57 (List.map Fact.c e)],.cells 36 (Protest.c f),.cells 68 (Fact.c g)] (λr=>.bool r) r:=by
 refine Qb func45 Z Z Z ?_;refine G0 11 Z (Cd [] h (k_aa _ _ _ _) Z λl k h=>FE Z (Go 8 Z (Bd h λb a h=>?_)));refine Ct b [0,1,2,3] [] (λb=>[(4,.bool b)]) Ze Zf ?_ (λenv H i=>?_)
 .refine G0 3 Z (Is 16 a Z (λj a=>?_) (λj a=>?_))
  .exact Go 7 Z (Cl a [0,1,2,3])
  .exact Go 7 Z (Cl a [0,1,2,3])
 exact Gx 1 Z (Ef i (Gc 1 Z (Rt h 4 [0,1,2,3])))
def F_bc(n:Nat)(a:Course)(b:List Fact)(c:Protest)(d:Fact):Option Bool:=
  (F_fo n a b c d).bind λe=>some (!e)
theorem k_bc(n:Nat)(a:Course)(b:List Fact)(d:Protest)(e:Fact)(r:Bool)(h:F_bc n a b d e=some r):
    Csm prog 48 [.agg [.fn (.func 45) [] [.ptr 0 0,.ptr 1 0,.ptr 2 0,.ptr 3 0]]] [.cells 33 (Course.c a),.cells 34 [.rsl 57 (List.map Fact.c b)],.cells 36 (Protest.c d),.cells 68 (Fact.c e)] (λr=>.bool r) r:=by
 refine Qb func48 Z Z Z ?_;exact G0 10 Z (Cz [0,1,2,3] h (k_fo _ _ _ _ _) Z λg f h=>Go 5 Z (Rt h 2 [0,1,2,3]))
def F_dv(n:Nat)(a:List (Int×Fact)):Option Unit:=
  some ()
theorem k_dv(n:Nat)(a:List (Int×Fact))(r:Unit)(h:F_dv n a=some r):
    C prog 152 [.map 0] [.map (Qk (λx=>A.int .i64 x) (λx=>A.agg (Fact.c x)) a)] (RQ (λ_=>.fn (.func 208) [] [.ptr 1 0]) (λ_=>[.map (Qk (λx=>A.int .i64 x) (λx=>A.agg (Fact.c x)) a),.cells 147 [.map 0]]) r):=by
 refine Qb func152 Z Z Z ?_;exact G0 13 Z (Rt h 2 [0,1])
def F_cd(n:Nat)(a:List (Int×Fact)):Option (List Int):=
  Qlc (List.map Prod.fst a) λp1=>(sortI p1).bind λb=>some b
theorem k_cd(n:Nat)(b:List (Int×Fact))(r:List Int)(h:F_cd n b=some r):
    C prog 50 [.fn (.func 208) [] [.ptr 0 0]] [.cells 147 [.map 1],.map (Qk (λx=>A.int .i64 x) (λx=>A.agg (Fact.c x)) b)] (RQ (λr=>.osl 2 0 r.length 1) (λr=>[.dead,.fmap (Qk (λx=>A.int .i64 x) (λx=>A.agg (Fact.c x)) b),.row 3 1 (List.map (Qj .i64) r)]) r):=by
 refine Qb func50 Z Z Z ?_;refine G0 8 Z ?_;refine Er (Qkw (i:=1) Z) ?_;refine QdD (H:=[.cells 147 [.map 1],.fmap (Qk (λx=>A.int .i64 x) (λx=>A.agg (Fact.c x)) b)]) Z ?_;obtain⟨d,h⟩:=Qkr h;refine QP [0,1] (OpC.fn call82 Z Z Z) (Qjc _ d) ?_;rintro _ _ ⟨p1,e,rfl,rfl⟩;have h:=h p1 e;refine FE Z (Go 6 Z (Bd h λf a h=>?_));refine QP [2] (OpC.fn call83 Z Z Z) (QkB QcT a) ?_;rintro _ _ ⟨rfl,rfl⟩;refine FE Z ?_;refine Er (QT (s:=3) Z (congrArg (λn=>A.osl 2 0 n 1) (Qaf a))) ?_;refine Er (QT (s:=5) Z (congrArg (λn=>A.osl 2 0 n 1) (Qaf a))) ?_;refine Er (QT (s:=6) Z (congrArg (λn=>A.osl 2 0 n 1) (Qaf a))) ?_;exact Go 9 Z (Rt h 2 [0,1,2])
end Go.Sw
