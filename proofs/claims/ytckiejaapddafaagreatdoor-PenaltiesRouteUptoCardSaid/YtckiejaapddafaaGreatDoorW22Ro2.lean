/- What the functions compute that PenaltiesRoute reaches, and that their calls refine it (part 2 of 3). -/
import Derived.Test.YtckiejaapddafaaGreatDoorW22Ro1
set_option linter.unusedVariables false
set_option linter.unusedSimpArgs false
set_option maxRecDepth 100000
set_option maxHeartbeats 4000000
namespace Go.Sw
open Go.Proofs Tryz
def Q_facts_open_rxk(b:Fact)(d:Int):U_facts_open_rxk->Go.Sw.A->Qd->Prop
  |.c0 x,a,H=>a=.tup [.agg [.osl 2 0 8 3,.fn (.func 173) [] []],.bool true]/\H=[.cells 83 (Fact.c b),.cells 3 [I d],.rowr 210 3 [[.ptr 0 4,I 1,I 9999],[.ptr 0 5,I 0,I 7],[.ptr 0 6,I 0,I 31],[.ptr 0 7,I (-1099511627776),I 1099511627776],[.ptr 0 8,I 0,I 120],[.ptr 0 9,I 0,I 1048576],[.ptr 0 10,I 0,I 9999],[.ptr 0 11,I 0,I 1048576]],.cells 200 [.osl 2 0 8 3,.fn (.func 173) [] []]]
  |.c1 x,a,H=>a=.tup [.agg [.osl 2 0 4 3,.fn (.func 173) [] []],.bool true]/\H=[.cells 83 (Fact.c b),.cells 3 [I d],.rowr 210 3 [[.ptr 0 12,I 0,I 39],[.ptr 0 13,I 0,I 255],[.ptr 0 14,I 0,I 1048576],[.ptr 0 15,I (-1099511627776),I 1099511627776]],.cells 200 [.osl 2 0 4 3,.fn (.func 173) [] []]]
  |.c2 x,a,H=>a=.tup [.agg [.osl 2 0 5 3,.fn (.func 173) [] []],.bool true]/\H=[.cells 83 (Fact.c b),.cells 3 [I d],.rowr 210 3 [[.ptr 0 16,I 0,I 39],[.ptr 0 17,I 0,I 255],[.ptr 0 18,I (-1099511627776),I 1099511627776],[.ptr 0 19,I (-1099511627776),I 1099511627776],[.ptr 0 20,I 0,I 1099511627776]],.cells 200 [.osl 2 0 5 3,.fn (.func 173) [] []]]
  |.c3 x,a,H=>a=.tup [.agg [.osl 2 0 8 3,.fn (.func 174) [] [.ptr 3 0]],.bool true]/\H=[.cells 83 (Fact.c b),.cells 3 [I d],.rowr 210 3 [[.ptr 0 21,I 0,I 39],[.ptr 0 22,I 0,I 255],[.ptr 0 23,I (-1099511627776),I 1099511627776],[.ptr 0 24,I 0,I 39],[.ptr 0 25,I 0,I 255],[.ptr 0 26,I (-1099511627776),I 1099511627776],[.ptr 0 27,I (-1099511627776),I 1099511627776],[.ptr 0 28,I (-1099511627776),I 1099511627776]],.cells 288 [.ptr 0 21],.cells 200 [.osl 2 0 8 3,.fn (.func 174) [] [.ptr 3 0]]]
  |.c4 x,a,H=>a=.tup [.agg [.osl 2 0 4 3,.fn (.func 175) [] [.ptr 3 0]],.bool true]/\H=[.cells 83 (Fact.c b),.cells 3 [I d],.rowr 210 3 [[.ptr 0 29,I 1,I 9999],[.ptr 0 30,I 0,I 255],[.ptr 0 31,I (-1099511627776),I 1099511627776],[.ptr 0 32,I (-1099511627776),I 1099511627776]],.cells 289 [.ptr 0 29],.cells 200 [.osl 2 0 4 3,.fn (.func 175) [] [.ptr 3 0]]]
  |.c5 x,a,H=>a=.tup [.agg [.osl 2 0 4 3,.fn (.func 176) [] [.ptr 3 0]],.bool true]/\H=[.cells 83 (Fact.c b),.cells 3 [I d],.rowr 210 3 [[.ptr 0 33,I 0,I 39],[.ptr 0 34,I 0,I 255],[.ptr 0 35,I (-1099511627776),I 1099511627776],[.ptr 0 36,I (-1099511627776),I 1099511627776]],.cells 290 [.ptr 0 33],.cells 200 [.osl 2 0 4 3,.fn (.func 176) [] [.ptr 3 0]]]
  |.c6 x,a,H=>a=.tup [.agg [.osl 2 0 2 3,.fn (.func 177) [] [.ptr 3 0]],.bool true]/\H=[.cells 83 (Fact.c b),.cells 3 [I d],.rowr 210 3 [[.ptr 0 37,I 1,I 9999],[.ptr 0 38,I 1,I 9999]],.cells 291 [.ptr 0 37],.cells 200 [.osl 2 0 2 3,.fn (.func 177) [] [.ptr 3 0]]]
  |.c7 x,a,H=>a=.tup [.agg [.osl 2 0 4 3,.fn (.func 173) [] []],.bool true]/\H=[.cells 83 (Fact.c b),.cells 3 [I d],.rowr 210 3 [[.ptr 0 39,I 1,I 1048576],[.ptr 0 40,I 1,I 9999],[.ptr 0 41,I 0,I 31],[.ptr 0 42,I 0,I 255]],.cells 200 [.osl 2 0 4 3,.fn (.func 173) [] []]]
  |.c8 x,a,H=>a=.tup [.agg [.osl 2 0 4 3,.fn (.func 173) [] []],.bool true]/\H=[.cells 83 (Fact.c b),.cells 3 [I d],.rowr 210 3 [[.ptr 0 43,I 1,I 1048576],[.ptr 0 44,I 0,I 9999],[.ptr 0 45,I 0,I 1125899906842624],[.ptr 0 46,I 0,I 1]],.cells 200 [.osl 2 0 4 3,.fn (.func 173) [] []]]
  |.c9 x,a,H=>a=.tup [.agg [.osl 2 0 6 3,.fn (.func 173) [] []],.bool true]/\H=[.cells 83 (Fact.c b),.cells 3 [I d],.rowr 210 3 [[.ptr 0 47,I 1,I 1048576],[.ptr 0 48,I 1,I 2],[.ptr 0 49,I 1,I 5],[.ptr 0 50,I x.1,I x.2.1],[.ptr 0 51,I x.2.2.1,I x.2.2.2.1],[.ptr 0 52,I x.2.2.2.2.1,I x.2.2.2.2.2]],.cells 200 [.osl 2 0 6 3,.fn (.func 173) [] []]]
  |.c10 x,a,H=>a=.tup [.agg [.osl 2 0 2 3,.fn (.func 173) [] []],.bool true]/\H=[.cells 83 (Fact.c b),.cells 3 [I d],.rowr 210 3 [[.ptr 0 53,I 1,I 1048576],[.ptr 1 0,I 0,I 1]],.cells 200 [.osl 2 0 2 3,.fn (.func 173) [] []]]
  |.c11 x,a,H=>a=.tup [.agg [.nils,.fn (.func 173) [] []],.bool true]/\H=[.cells 83 (Fact.c b),.cells 3 [I d],.cells 200 [.nils,.fn (.func 173) [] []]]
  |.c12 x,a,H=>a=.tup [.agg [.osl 2 0 2 3,.fn (.func 173) [] []],.bool true]/\H=[.cells 83 (Fact.c b),.cells 3 [I d],.rowr 210 3 [[.ptr 0 55,I 0,I 31],[.ptr 0 56,I 1,I 1048576]],.cells 200 [.osl 2 0 2 3,.fn (.func 173) [] []]]
  |.c13 x,a,H=>a=.tup [.agg [.nils,.nilf],.bool false]/\H=[.cells 83 (Fact.c b),.cells 3 [I d],.cells 200 [.nils,.nilf]]
def F_am(n:Nat)(a:Fact)(d:Int):Option U_facts_open_rxk:=
  (bif (a.Kind==1)then some (U_facts_open_rxk.c0 ())else(bif (a.Kind==2)then some (U_facts_open_rxk.c1 ())else(bif (a.Kind==3)then some (U_facts_open_rxk.c2 ())else(bif (a.Kind==4)then some (U_facts_open_rxk.c3 ())else(bif (a.Kind==5)then some (U_facts_open_rxk.c4 ())else(bif (a.Kind==6)then some (U_facts_open_rxk.c5 ())else(bif (a.Kind==7)then some (U_facts_open_rxk.c6 ())else(bif (a.Kind==8)then some (U_facts_open_rxk.c7 ())else(bif (a.Kind==9)then some (U_facts_open_rxk.c8 ())else(bif (a.Kind==10)then((bif (a.Ruling.Kind==1)then some (a.Ruling.Kind==1)else some (a.Ruling.Kind==2)):Option Bool).bind λc=>((bif c then some ({least:=0,most:=0:Ub},{least:=0,most:=0:Ub},{least:=0,most:=0:Ub})else(bif (a.Ruling.Kind==3)then some ({least:=1,most:=9999:Ub},{least:=0,most:=255:Ub},{least:=1,most:=1099511627776:Ub})else(bif (a.Ruling.Kind==4)then some ({least:=1,most:=9999:Ub},{least:=0,most:=255:Ub},{least:=1,most:=64:Ub})else some ({least:=1,most:=9999:Ub},{least:=0,most:=255:Ub},{least:=0,most:=0:Ub})))):Option (Ub×Ub×Ub)).bind λb=>some (U_facts_open_rxk.c9 (b.1.least,b.1.most,b.2.1.least,b.2.1.most,b.2.2.least,b.2.2.most))else(bif (a.Kind==11)then some (U_facts_open_rxk.c10 ())else(bif (a.Kind==12)then some (U_facts_open_rxk.c11 ())else(bif (a.Kind==13)then some (U_facts_open_rxk.c12 ())else some (U_facts_open_rxk.c13 ()))))))))))))))
theorem k_am(n:Nat)(b:Fact)(d:Int)(r:U_facts_open_rxk)(h:F_am n b d=some r):
    C prog 92 [.ptr 0 0,.ptr 1 0] [.cells 83 (Fact.c b),.cells 3 [I d]] (Q_facts_open_rxk b d r):=by
 refine Qb func92 Z Z Z ?_;refine G0 22 Z (Cn Z h (λu h=>?_) (λu h=>?_))
 .refine Gc 9 Z (DSs 40 Z (D 40 Z (Eh Z ?_)));refine vH (YN (xs:=[.tmp 32,.tmp 37,.tmp 42,.tmp 47,.tmp 52,.tmp 57,.tmp 62,.tmp 67]) Jq Z Z Z Z Z ⟨Z,Z,Z,Z,Z,Z,Z,Z,trivial⟩ Z) ?_;refine FE Z (Go 8 Z ?_);obtain rfl:=Oi h;exact Rx [0,1,3,2] [4,5] Z (Qu Z Z (Qkn.cons (Qm isAgg200 sizeOf200 Z Z Z) (Qkn.cons Qdn.tmp Qkn.nil))) ⟨Z,Z⟩
 refine Gc 6 Z (Cn Z h (λw h=>?_) (λw h=>?_))
 .refine Gc 9 Z (DSs 20 Z (D 20 Z (Eh Z ?_)));refine vH (YN (xs:=[.tmp 79,.tmp 84,.tmp 89,.tmp 94]) Jq Z Z Z Z Z ⟨Z,Z,Z,Z,trivial⟩ Z) ?_;refine FE Z (Go 8 Z ?_);obtain rfl:=Oi h;exact Rx [0,1,3,2] [4,5] Z (Qu Z Z (Qkn.cons (Qm isAgg200 sizeOf200 Z Z Z) (Qkn.cons Qdn.tmp Qkn.nil))) ⟨Z,Z⟩
 refine Gc 6 Z (Cn Z h (λx h=>?_) (λx h=>?_))
 .refine Gc 9 Z (DSs 25 Z (D 25 Z (Eh Z ?_)));refine vH (YN (xs:=[.tmp 106,.tmp 111,.tmp 116,.tmp 121,.tmp 126]) Jq Z Z Z Z Z ⟨Z,Z,Z,Z,Z,trivial⟩ Z) ?_;refine FE Z (Go 8 Z ?_);obtain rfl:=Oi h;exact Rx [0,1,3,2] [4,5] Z (Qu Z Z (Qkn.cons (Qm isAgg200 sizeOf200 Z Z Z) (Qkn.cons Qdn.tmp Qkn.nil))) ⟨Z,Z⟩
 refine Gc 6 Z (Cn Z h (λy h=>?_) (λy h=>?_))
 .refine Gc 10 Z (DAs 42 40 [0,0,0,0,0,0,0,0,0,0,0,0,0,0,0,0,0,0,0,0,0,0,0,0,0,0,0,0,0,0,0,0,0,0,0,0,0,0,0,0,1,3] (by kernel_rfl) (Da 40 Z ?_));refine QbJ (YN (xs:=[.tmp 138,.tmp 143,.tmp 148,.tmp 153,.tmp 158,.tmp 163,.tmp 168,.tmp 173]) Jq Z Z Z Z Z ⟨Z,Z,Z,Z,Z,Z,Z,Z,trivial⟩ Z) Z Z (Db 1 Z (DB.done Z (Go 8 Z ?_)));obtain rfl:=Oi h;exact Rx [0,1,4,3,2] [4,5] Z (Qu Z Z (Qkn.cons (Qm isAgg200 sizeOf200 Z Z Z) (Qkn.cons Qdn.tmp Qkn.nil))) ⟨Z,Z⟩
 refine Gc 6 Z (Cn Z h (λz h=>?_) (λz h=>?_))
 .refine Gc 10 Z (DAs 22 20 [0,0,0,0,0,0,0,0,0,0,0,0,0,0,0,0,0,0,0,0,1,3] (by kernel_rfl) (Da 20 Z ?_));refine QbJ (YN (xs:=[.tmp 186,.tmp 191,.tmp 196,.tmp 201]) Jq Z Z Z Z Z ⟨Z,Z,Z,Z,trivial⟩ Z) Z Z (Db 1 Z (DB.done Z (Go 8 Z ?_)));obtain rfl:=Oi h;exact Rx [0,1,4,3,2] [4,5] Z (Qu Z Z (Qkn.cons (Qm isAgg200 sizeOf200 Z Z Z) (Qkn.cons Qdn.tmp Qkn.nil))) ⟨Z,Z⟩
 refine Gc 6 Z (Cn Z h (λB h=>?_) (λB h=>?_))
 .refine Gc 10 Z (DAs 22 20 [0,0,0,0,0,0,0,0,0,0,0,0,0,0,0,0,0,0,0,0,1,3] (by kernel_rfl) (Da 20 Z ?_));refine QbJ (YN (xs:=[.tmp 214,.tmp 219,.tmp 224,.tmp 229]) Jq Z Z Z Z Z ⟨Z,Z,Z,Z,trivial⟩ Z) Z Z (Db 1 Z (DB.done Z (Go 8 Z ?_)));obtain rfl:=Oi h;exact Rx [0,1,4,3,2] [4,5] Z (Qu Z Z (Qkn.cons (Qm isAgg200 sizeOf200 Z Z Z) (Qkn.cons Qdn.tmp Qkn.nil))) ⟨Z,Z⟩
 refine Gc 6 Z (Cn Z h (λE h=>?_) (λE h=>?_))
 .refine Gc 10 Z (DAs 12 10 [0,0,0,0,0,0,0,0,0,0,1,3] (by kernel_rfl) (Da 10 Z ?_));refine QbJ (YN (xs:=[.tmp 242,.tmp 247]) Jq Z Z Z Z Z ⟨Z,Z,trivial⟩ Z) Z Z (Db 1 Z (DB.done Z (Go 8 Z ?_)));obtain rfl:=Oi h;exact Rx [0,1,4,3,2] [4,5] Z (Qu Z Z (Qkn.cons (Qm isAgg200 sizeOf200 Z Z Z) (Qkn.cons Qdn.tmp Qkn.nil))) ⟨Z,Z⟩
 refine Gc 6 Z (Cn Z h (λF h=>?_) (λF h=>?_))
 .refine Gc 9 Z (DSs 20 Z (D 20 Z (Eh Z ?_)));refine vH (YN (xs:=[.tmp 260,.tmp 265,.tmp 270,.tmp 275]) Jq Z Z Z Z Z ⟨Z,Z,Z,Z,trivial⟩ Z) ?_;refine FE Z (Go 8 Z ?_);obtain rfl:=Oi h;exact Rx [0,1,3,2] [4,5] Z (Qu Z Z (Qkn.cons (Qm isAgg200 sizeOf200 Z Z Z) (Qkn.cons Qdn.tmp Qkn.nil))) ⟨Z,Z⟩
 refine Gc 6 Z (Cn Z h (λG h=>?_) (λG h=>?_))
 .refine Gc 9 Z (DSs 20 Z (D 20 Z (Eh Z ?_)));refine vH (YN (xs:=[.tmp 287,.tmp 292,.tmp 297,.tmp 302]) Jq Z Z Z Z Z ⟨Z,Z,Z,Z,trivial⟩ Z) ?_;refine FE Z (Go 8 Z ?_);obtain rfl:=Oi h;exact Rx [0,1,3,2] [4,5] Z (Qu Z Z (Qkn.cons (Qm isAgg200 sizeOf200 Z Z Z) (Qkn.cons Qdn.tmp Qkn.nil))) ⟨Z,Z⟩
 refine Gc 6 Z (Cn Z h (λj h=>?_) (λj h=>?_))
 .refine Gc 9 Z ?_;refine YY 8 3 [310,311,312,16,17,18,1000006,1000007] [false,false,false,true,true,true,true,true] [[],[],[],[],[],[],[3,4,5],[3,4,5,6]] [[],[3],[4],[5],[3,4],[3,5],[4,5],[3,4,5],[3,4,5,6],[3,4,5,6,7]] [[(0,0),(1,1),(2,2),(3,3),(4,4),(5,5),(6,6),(7,7)],[(0,0),(1,1),(2,2),(3,3),(4,4),(5,5),(6,6),(7,7),(8,8)],[(0,0),(1,1),(2,2),(3,3),(4,4),(5,5),(6,6),(7,7),(8,8),(9,9)],[(0,1),(2,4),(3,5),(6,7)],[(0,2),(1,4),(3,6),(5,7)],[(0,3),(1,5),(2,6),(4,7)],[(7,8)],[(8,9)]] [.agg [I 1,I 9999],.agg [I 0,I 255],.agg [I 0,I 0],.ptr 3 0,.ptr 4 0,.ptr 5 0,.any,.any] [[.cells 83 (Fact.c b),.cells 3 [I d],.cells 200 [.nils,.nilf],.dead,.dead,.dead],[.cells 83 (Fact.c b),.cells 3 [I d],.cells 200 [.nils,.nilf],.cells 208 [I 0,I 0],.dead,.dead],[.cells 83 (Fact.c b),.cells 3 [I d],.cells 200 [.nils,.nilf],.dead,.cells 208 [I 0,I 0],.dead],[.cells 83 (Fact.c b),.cells 3 [I d],.cells 200 [.nils,.nilf],.dead,.dead,.cells 208 [I 0,I 0]],[.cells 83 (Fact.c b),.cells 3 [I d],.cells 200 [.nils,.nilf],.cells 208 [I 0,I 0],.cells 208 [I 0,I 0],.dead],[.cells 83 (Fact.c b),.cells 3 [I d],.cells 200 [.nils,.nilf],.cells 208 [I 0,I 0],.dead,.cells 208 [I 0,I 0]],[.cells 83 (Fact.c b),.cells 3 [I d],.cells 200 [.nils,.nilf],.dead,.cells 208 [I 0,I 0],.cells 208 [I 0,I 0]],[.cells 83 (Fact.c b),.cells 3 [I d],.cells 200 [.nils,.nilf],.cells 208 [I 0,I 0],.cells 208 [I 0,I 0],.cells 208 [I 0,I 0]],[.cells 83 (Fact.c b),.cells 3 [I d],.cells 200 [.nils,.nilf],.cells 208 [I 1,I 9999],.cells 208 [I 0,I 0],.cells 208 [I 0,I 0]],[.cells 83 (Fact.c b),.cells 3 [I d],.cells 200 [.nils,.nilf],.cells 208 [I 1,I 9999],.cells 208 [I 0,I 255],.cells 208 [I 0,I 0]]] ([.cells 83 (Fact.c b),.cells 3 [I d],.cells 200 [.nils,.nilf],.cells 208 [I 1,I 9999],.cells 208 [I 0,I 255],.cells 208 [I 0,I 0]]) draws Z Z Z Z Z Z Z ?_ Z ?_
  .refine Qh0.cons (Qc (v0 Z Z) (Qc (v0 Z Z) (Qc (v0 Z Z) (Qc (v0 Z Z) (Qc (v0 Z Z) (Qc (v0 Z Z) (Qc (v0 Z Z) (Qc (v0 Z Z) (Qe))))))))) (Qh0.cons (Qc (v0 Z Z) (Qc (v0 Z Z) (Qc (v0 Z Z) (Qc (v0 Z Z) (Qc (v0 Z Z) (Qc (v0 Z Z) (Qc (v0 Z Z) (Qc (v0 Z Z) (Qc (v0 Z Z) (Qe)))))))))) (Qh0.cons (Qc (v0 Z Z) (Qc (v0 Z Z) (Qc (v0 Z Z) (Qc (v0 Z Z) (Qc (v0 Z Z) (Qc (v0 Z Z) (Qc (v0 Z Z) (Qc (v0 Z Z) (Qc (v0 Z Z) (Qc (v0 Z Z) (Qe))))))))))) (Qh0.cons ?_ (Qh0.cons ?_ (Qh0.cons ?_ (Qh0.cons ?_ (Qh0.cons ?_ (Qh0.nil))))))))
   .refine Qc ?_ (Qc ?_ (Qc ?_ (Qc ?_ (Qe))))
    .exact Jz.alloc _ 16 208 3 _ Z Z Z Z Z Z Z (OpZ.alloc (v:=(.agg [I 0,I 0])) zeroValue208 (zrC Z)) Z
    .exact Jz.alloc _ 16 208 3 _ Z Z Z Z Z Z Z (OpZ.alloc (v:=(.agg [I 0,I 0])) zeroValue208 (zrC Z)) Z
    .exact Jz.alloc _ 16 208 3 _ Z Z Z Z Z Z Z (OpZ.alloc (v:=(.agg [I 0,I 0])) zeroValue208 (zrC Z)) Z
    .exact Jz.alloc _ 16 208 3 _ Z Z Z Z Z Z Z (OpZ.alloc (v:=(.agg [I 0,I 0])) zeroValue208 (zrC Z)) Z
   .refine Qc ?_ (Qc ?_ (Qc ?_ (Qc ?_ (Qe))))
    .exact Jz.alloc _ 17 208 4 _ Z Z Z Z Z Z Z (OpZ.alloc (v:=(.agg [I 0,I 0])) zeroValue208 (zrC Z)) Z
    .exact Jz.alloc _ 17 208 4 _ Z Z Z Z Z Z Z (OpZ.alloc (v:=(.agg [I 0,I 0])) zeroValue208 (zrC Z)) Z
    .exact Jz.alloc _ 17 208 4 _ Z Z Z Z Z Z Z (OpZ.alloc (v:=(.agg [I 0,I 0])) zeroValue208 (zrC Z)) Z
    .exact Jz.alloc _ 17 208 4 _ Z Z Z Z Z Z Z (OpZ.alloc (v:=(.agg [I 0,I 0])) zeroValue208 (zrC Z)) Z
   .refine Qc ?_ (Qc ?_ (Qc ?_ (Qc ?_ (Qe))))
    .exact Jz.alloc _ 18 208 5 _ Z Z Z Z Z Z Z (OpZ.alloc (v:=(.agg [I 0,I 0])) zeroValue208 (zrC Z)) Z
    .exact Jz.alloc _ 18 208 5 _ Z Z Z Z Z Z Z (OpZ.alloc (v:=(.agg [I 0,I 0])) zeroValue208 (zrC Z)) Z
    .exact Jz.alloc _ 18 208 5 _ Z Z Z Z Z Z Z (OpZ.alloc (v:=(.agg [I 0,I 0])) zeroValue208 (zrC Z)) Z
    .exact Jz.alloc _ 18 208 5 _ Z Z Z Z Z Z Z (OpZ.alloc (v:=(.agg [I 0,I 0])) zeroValue208 (zrC Z)) Z
   .refine Qc ?_ (Qe)
    .refine Om2 Z (sD 3 (sD 0 sN)) ?_;refine vU (Ey Z Z Z sizeOf208 Z Z Z Z Z Z Z) ?_;exact FE Z Wp
   .refine Qc ?_ (Qe)
    .refine Om2 Z (sD 4 (sD 1 sN)) ?_;refine vU (Ey Z Z Z sizeOf208 Z Z Z Z Z Z Z) ?_;exact FE Z Wp
  refine Go 20 Z (Bd h λg e h=>?_);refine Ct g [0,1,2,3,4,5] [4,15,16,17,18,316] (λg=>[(317,.bool g)]) Ze Zf ?_ (λenv H i=>?_)
  .refine G0 0 Z (Cn Z e (λk e=>?_) (λk e=>?_))
   .exact Gc 1 Z (Cl e [0,1,2,3,4,5])
   exact Gc 4 Z (Cl e [0,1,2,3,4,5])
  refine Gx 1 Z (Ef i (Bd h λf a h=>?_));refine Ct f [0,1,2,3,4,5] [4,15,16,17,18] Ze (λf=>[(3,.cells 208 (Ub.c f.1)),(4,.cells 208 (Ub.c f.2.1)),(5,.cells 208 (Ub.c f.2.2))]) Zf ?_ (λenv H i=>?_)
  .refine G0 0 Z (Cn Z a (λl a=>?_) (λl a=>?_))
   .exact Gc 6 Z (Cl a [0,1,2,3,4,5])
   refine Gc 6 Z (Cn Z a (λm a=>?_) (λm a=>?_))
   .exact Gc 4 Z (Cl a [0,1,2,3,4,5])
   refine Gc 6 Z (Cn Z a (λp a=>?_) (λp a=>?_))
   .exact Gc 4 Z (Cl a [0,1,2,3,4,5])
   exact Gc 1 Z (Cl a [0,1,2,3,4,5])
  refine Gx 2 Z (Ef i (Gc 1 Z (DSs 30 Z (D 30 Z (Eh Z ?_)))));refine vH (YN (xs:=[.tmp 332,.tmp 337,.tmp 342,.tmp 347,.tmp 352,.tmp 357]) Jq Z Z Z Z Z ⟨Z,Z,Z,Z,Z,Z,trivial⟩ Z) ?_;refine FE Z (Go 8 Z ?_);obtain rfl:=Oi h;exact Rx [0,1,6,2] [4,5] Z (Qu Z Z (Qkn.cons (Qm isAgg200 sizeOf200 Z Z Z) (Qkn.cons Qdn.tmp Qkn.nil))) ⟨Z,Z⟩
 refine Gc 6 Z (Cn Z h (λq h=>?_) (λq h=>?_))
 .refine Gc 1 Z (DSs 9 Z (D 9 Z (Eh Z ?_)));refine vH (YN (xs:=[.tmp 367,.tmp 370]) Jq Z Z Z Z Z ⟨Z,Z,trivial⟩ Z) ?_;refine FE Z (Go 8 Z ?_);obtain rfl:=Oi h;exact Rx [0,1,3,2] [4,5] Z (Qu Z Z (Qkn.cons (Qm isAgg200 sizeOf200 Z Z Z) (Qkn.cons Qdn.tmp Qkn.nil))) ⟨Z,Z⟩
 refine Gc 6 Z (Cn Z h (λs h=>?_) (λs h=>?_))
 .refine Gc 10 Z ?_;obtain rfl:=Oi h;exact Rx [0,1,2] [4,5] Z (Qu Z Z (Qkn.cons (Qm isAgg200 sizeOf200 Z Z Z) (Qkn.cons Qdn.tmp Qkn.nil))) ⟨Z,Z⟩
 refine Gc 6 Z (Cn Z h (λt h=>?_) (λt h=>?_))
 .refine Gc 1 Z (DSs 12 Z (D 12 Z (Eh Z ?_)));refine vH (YN (xs:=[.tmp 383,.tmp 389]) Jq Z Z Z Z Z ⟨Z,Z,trivial⟩ Z) ?_;refine FE Z (Go 8 Z ?_);obtain rfl:=Oi h;exact Rx [0,1,3,2] [4,5] Z (Qu Z Z (Qkn.cons (Qm isAgg200 sizeOf200 Z Z Z) (Qkn.cons Qdn.tmp Qkn.nil))) ⟨Z,Z⟩
 refine Gc 11 Z ?_;obtain rfl:=Oi h;exact Rx [0,1,2] [4,5] Z (Qu Z Z (Qkn.cons (Qm isAgg200 sizeOf200 Z Z Z) (Qkn.cons Qdn.tmp Qkn.nil))) ⟨Z,Z⟩
def F_b(n:Nat):Option Unit:=
  some ()
theorem k_b(n:Nat)(r:Unit)(h:F_b n=some r):
    Csm prog 173 [] [] (λ_=>.bool true) r:=by
 refine Qb func173 Z Z Z ?_;exact G0 11 Z (Rt h 0 [])
def F_gb(n:Nat)(a:Fact):Option Unit:=
  some ()
theorem k_gb(n:Nat)(a:Fact)(r:Unit)(h:F_gb n a=some r):
    Csm prog 174 [.ptr 0 0] [.cells 288 [.ptr 1 21],.cells 83 (Fact.c a)] (λ_=>.bool (decide (a.Sync.Min<=a.Sync.Max))) r:=by
 refine Qb func174 Z Z Z ?_;exact G0 6 Z (DSs 8 Z (D 8 Z (Eh Z (Go 5 Z (Rt h 1 [0,1])))))
def F_fd(n:Nat)(a:Fact):Option Unit:=
  some ()
theorem k_fd(n:Nat)(a:Fact)(r:Unit)(h:F_fd n a=some r):
    Csm prog 175 [.ptr 0 0] [.cells 289 [.ptr 1 29],.cells 83 (Fact.c a)] (λ_=>.bool (decide (a.Hand.Lo<=a.Hand.Hi))) r:=by
 refine Qb func175 Z Z Z ?_;exact G0 6 Z (DSs 8 Z (D 8 Z (Eh Z (Go 5 Z (Rt h 1 [0,1])))))
def F_gn(n:Nat)(a:Fact):Option Unit:=
  some ()
theorem k_gn(n:Nat)(a:Fact)(r:Unit)(h:F_gn n a=some r):
    Csm prog 176 [.ptr 0 0] [.cells 290 [.ptr 1 33],.cells 83 (Fact.c a)] (λ_=>.bool (decide (a.Silence.Lo<=a.Silence.Hi))) r:=by
 refine Qb func176 Z Z Z ?_;exact G0 6 Z (DSs 8 Z (D 8 Z (Eh Z (Go 5 Z (Rt h 1 [0,1])))))
def F_gh(n:Nat)(a:Fact):Option Unit:=
  some ()
theorem k_gh(n:Nat)(a:Fact)(r:Unit)(h:F_gh n a=some r):
    Csm prog 177 [.ptr 0 0] [.cells 291 [.ptr 1 37],.cells 83 (Fact.c a)] (λ_=>.bool (decide (a.Pair.A<a.Pair.B))) r:=by
 refine Qb func177 Z Z Z ?_;exact G0 6 Z (DSs 8 Z (D 8 Z (Eh Z (Go 5 Z (Rt h 1 [0,1])))))
def F_ah(n:Nat)(a:Fact):Option Unit:=
  some ()
theorem k_ah(n:Nat)(a:Fact)(r:Unit)(h:F_ah n a=some r):
    C prog 94 [.ptr 0 0] [.cells 83 (Fact.c a)] (RQ (λ_=>.osl 1 0 4 3) (λ_=>[.cells 83 (Fact.c a),.rowr 210 3 [[.ptr 0 3,I 1,I 13],[.ptr 0 0,I 0,I 31],[.ptr 0 1,I 1,I 1048576],[.ptr 0 2,I 0,I 1099511627776]]]) r):=by
 refine Qb func94 Z Z Z ?_;refine G0 6 Z (DSs 20 Z (D 20 Z (Eh Z ?_)));refine vH (YN (xs:=[.tmp 7,.tmp 12,.tmp 17,.tmp 22]) Jq Z Z Z Z Z ⟨Z,Z,Z,Z,trivial⟩ Z) ?_;exact FE Z (Go 4 Z (Rt h 2 [0,1]))
def F_cd(n:Nat)(b:Fact)(g:Int)(c:Fact):Option (List Ent):=
  ((F_am n ({b with Kind:=c.Kind:Fact}) g).bind λd=>(match d with|.c0 h=>(some ([⟨false,4,1,9999⟩,⟨false,5,0,7⟩,⟨false,6,0,31⟩,⟨false,7,(-1099511627776),1099511627776⟩,⟨false,8,0,120⟩,⟨false,9,0,1048576⟩,⟨false,10,0,9999⟩,⟨false,11,0,1048576⟩]:List Ent))|.c1 i=>(some ([⟨false,12,0,39⟩,⟨false,13,0,255⟩,⟨false,14,0,1048576⟩,⟨false,15,(-1099511627776),1099511627776⟩]:List Ent))|.c2 j=>(some ([⟨false,16,0,39⟩,⟨false,17,0,255⟩,⟨false,18,(-1099511627776),1099511627776⟩,⟨false,19,(-1099511627776),1099511627776⟩,⟨false,20,0,1099511627776⟩]:List Ent))|.c3 k=>(some ([⟨false,21,0,39⟩,⟨false,22,0,255⟩,⟨false,23,(-1099511627776),1099511627776⟩,⟨false,24,0,39⟩,⟨false,25,0,255⟩,⟨false,26,(-1099511627776),1099511627776⟩,⟨false,27,(-1099511627776),1099511627776⟩,⟨false,28,(-1099511627776),1099511627776⟩]:List Ent))|.c4 l=>(some ([⟨false,29,1,9999⟩,⟨false,30,0,255⟩,⟨false,31,(-1099511627776),1099511627776⟩,⟨false,32,(-1099511627776),1099511627776⟩]:List Ent))|.c5 m=>(some ([⟨false,33,0,39⟩,⟨false,34,0,255⟩,⟨false,35,(-1099511627776),1099511627776⟩,⟨false,36,(-1099511627776),1099511627776⟩]:List Ent))|.c6 p=>(some ([⟨false,37,1,9999⟩,⟨false,38,1,9999⟩]:List Ent))|.c7 q=>(some ([⟨false,39,1,1048576⟩,⟨false,40,1,9999⟩,⟨false,41,0,31⟩,⟨false,42,0,255⟩]:List Ent))|.c8 r=>(some ([⟨false,43,1,1048576⟩,⟨false,44,0,9999⟩,⟨false,45,0,1125899906842624⟩,⟨false,46,0,1⟩]:List Ent))|.c9 a=>(some ([⟨false,47,1,1048576⟩,⟨false,48,1,2⟩,⟨false,49,1,5⟩,⟨false,50,a.1,a.2.1⟩,⟨false,51,a.2.2.1,a.2.2.2.1⟩,⟨false,52,a.2.2.2.2.1,a.2.2.2.2.2⟩]:List Ent))|.c10 s=>(some ([⟨false,53,1,1048576⟩,⟨true,0,0,1⟩]:List Ent))|.c11 t=>(some [])|.c12 u=>(some ([⟨false,55,0,31⟩,⟨false,56,1,1048576⟩]:List Ent))|.c13 w=>(some [])):Option (List Ent)).bind λe=>(F_ah n ({b with Kind:=c.Kind:Fact})).bind λx=>(app ([⟨false,3,1,13⟩,⟨false,0,0,31⟩,⟨false,1,1,1048576⟩,⟨false,2,0,1099511627776⟩]:List Ent) e).bind λf=>some f
theorem k_cd(n:Nat)(f:Fact)(g:Int)(e:Fact)(r:List Ent)(h:F_cd n f g e=some r):
    C prog 93 [.ptr 0 0,.ptr 1 0,.ptr 2 0] [.cells 83 (Fact.c f),.cells 3 [I g],.cells 83 (Fact.c e)] (RQ (λr=>.osl 3 0 r.length 3) (λr=>[.cells 83 (Fact.c ({f with Kind:=e.Kind:Fact})),.cells 3 [I g],.cells 83 (Fact.c e),.ents 210 0 1 r]) r):=by
 refine Qb func93 Z Z Z ?_;refine G0 16 Z (Bd h λd a h=>?_);refine Ct d [0,1,2,0,0] [0] (λ_=>[(6,.ptr 3 0)]) (λd=>[(3,.cells 200 [.osl 4 0 d.length 3,.any]),(4,.ents 210 0 1 d)]) Zf ?_ (λenv H q=>?_)
 .refine G0 3 Z (Bd a λs k a=>?_);refine Qz [0,1] (OpC.fn call92 Z Z Z) (k_am _ _ _ _ k) ?_;intro ra rH b;rcases s with u|w|y|z|B|E|F|G|J|L|M|N|O|P
  .obtain⟨rfl,rfl⟩:=b;refine FE Z (TE 3 0 1 Z Z (FE Z (Go 7 Z ?_)));cases a;refine QH ?_;refine En (QQ (i:=5) (m:=1) Z) ?_;exact Lr [0,1,2,5,3]
  .obtain⟨rfl,rfl⟩:=b;refine FE Z (TE 3 0 1 Z Z (FE Z (Go 7 Z ?_)));cases a;refine QH ?_;refine En (QQ (i:=5) (m:=1) Z) ?_;exact Lr [0,1,2,5,3]
  .obtain⟨rfl,rfl⟩:=b;refine FE Z (TE 3 0 1 Z Z (FE Z (Go 7 Z ?_)));cases a;refine QH ?_;refine En (QQ (i:=5) (m:=1) Z) ?_;exact Lr [0,1,2,5,3]
  .obtain⟨rfl,rfl⟩:=b;refine FE Z (TE 3 0 1 Z Z (FE Z (Go 7 Z ?_)));cases a;refine QH ?_;refine En (QQ (i:=6) (m:=1) Z) ?_;exact Lr [0,1,2,6,3]
  .obtain⟨rfl,rfl⟩:=b;refine FE Z (TE 3 0 1 Z Z (FE Z (Go 7 Z ?_)));cases a;refine QH ?_;refine En (QQ (i:=6) (m:=1) Z) ?_;exact Lr [0,1,2,6,3]
  .obtain⟨rfl,rfl⟩:=b;refine FE Z (TE 3 0 1 Z Z (FE Z (Go 7 Z ?_)));cases a;refine QH ?_;refine En (QQ (i:=6) (m:=1) Z) ?_;exact Lr [0,1,2,6,3]
  .obtain⟨rfl,rfl⟩:=b;refine FE Z (TE 3 0 1 Z Z (FE Z (Go 7 Z ?_)));cases a;refine QH ?_;refine En (QQ (i:=6) (m:=1) Z) ?_;exact Lr [0,1,2,6,3]
  .obtain⟨rfl,rfl⟩:=b;refine FE Z (TE 3 0 1 Z Z (FE Z (Go 7 Z ?_)));cases a;refine QH ?_;refine En (QQ (i:=5) (m:=1) Z) ?_;exact Lr [0,1,2,5,3]
  .obtain⟨rfl,rfl⟩:=b;refine FE Z (TE 3 0 1 Z Z (FE Z (Go 7 Z ?_)));cases a;refine QH ?_;refine En (QQ (i:=5) (m:=1) Z) ?_;exact Lr [0,1,2,5,3]
  .obtain⟨rfl,rfl⟩:=b;refine FE Z (TE 3 0 1 Z Z (FE Z (Go 7 Z ?_)));cases a;refine QH ?_;refine En (QQ (i:=5) (m:=1) Z) ?_;exact Lr [0,1,2,5,3]
  .obtain⟨rfl,rfl⟩:=b;refine FE Z (TE 3 0 1 Z Z (FE Z (Go 7 Z ?_)));cases a;refine QH ?_;refine En (QQ (i:=5) (m:=1) Z) ?_;exact Lr [0,1,2,5,3]
  .obtain⟨rfl,rfl⟩:=b;refine FE Z (Go 7 Z ?_);cases a;refine QH ?_;refine En (QQ (i:=4) (m:=1) Z) ?_;refine En (Le.phantomE (i:=4) (m:=0) (t:=210) (b1:=0) (b2:=1) Z Z Z) ?_;exact Lr [0,1,2,4,5]
  .obtain⟨rfl,rfl⟩:=b;refine FE Z (TE 3 0 1 Z Z (FE Z (Go 7 Z ?_)));cases a;refine QH ?_;refine En (QQ (i:=5) (m:=1) Z) ?_;exact Lr [0,1,2,5,3]
  .obtain⟨rfl,rfl⟩:=b;refine FE Z (Go 7 Z ?_);cases a;refine QH ?_;refine En (QQ (i:=4) (m:=1) Z) ?_;refine En (Le.phantomE (i:=4) (m:=0) (t:=210) (b1:=0) (b2:=1) Z Z Z) ?_;exact Lr [0,1,2,4,5]
 refine Gx 1 Z (Ef q (Gc 1 Z (DAs 4 1 [0,1,3,3] (by kernel_rfl) (Da 1 Z ?_))));obtain⟨Q,l,h⟩:=Jy h;refine DA.op (x:=.osl 5 0 4 3) (H1:=[.cells 83 (Fact.c ({f with Kind:=e.Kind:Fact})),.cells 3 [I g],.cells 83 (Fact.c e),.cells 200 [.osl 4 0 d.length 3,.any],.ents 210 0 1 d,.rowr 210 3 [[.ptr 0 3,I 1,I 13],[.ptr 0 0,I 0,I 31],[.ptr 0 1,I 1,I 1048576],[.ptr 0 2,I 0,I 1099511627776]]]) ?_ ?_
 .refine Qz [0] (OpC.fn call94 Z Z Z) (k_ah _ _ _ l) ?_;rintro _ _ ⟨rfl,rfl⟩;exact FE Z Wp
 refine Db 1 Z ?_;refine DB.wo2 (x:=.osl 4 0 d.length 3) (Ld isAgg198 Z Wp) (Ld isAgg198 Z Wp) ?_;refine DB.done Z (TE 5 0 1 Z Z (FE Z (Bd h λR p h=>?_)));refine vH (Qg9 (i:=5) (j:=4) p Jq runUnderlying198 Z) ?_;exact FE Z (Go 4 Z (Rt h 5 [0,1,2,6]))
def F_fm(n:Nat)(e:Fact)(b2:Int)(f:List Ent)(m:List Ent)(a:(List Int)×Fact×Int×Int):Option (Ctl ((List Int)×Fact×Int×Int) (Ctl ((List Int)×Fact×Int) ((List Int)×Bool))):=
  (bif decide (a.2.2.2<(f.length:Int))then(idx f a.2.2.2).bind λb=>(Qgd (Fact.c e) b2 b).bind λg=>(bif decide (g<b.lo)then some (.done (.done ([],false)))else(Qgd (Fact.c e) b2 b).bind λh=>(bif decide (b.hi<h)then some (.done (.done ([],false)))else(idx m a.2.2.2).bind λi=>(Qgd (Fact.c e) b2 b).bind λj=>(QjK Fact.put a.2.1 a.2.2.1 i j).bind λd=>(Qgd (Fact.c e) b2 b).bind λk=>(app a.1 [k]).bind λl=>some (.cont (l,d.1,d.2,IntKind.i64.wrap (a.2.2.2+1)))))else some (.done (.cont (a.1,a.2.1,a.2.2.1))))
def F_an(n:Nat)(a:Fact):Option ((List Int)×Bool):=
  ((bif a.Appeal.Suspends then some 1 else some 0):Option Int).bind λb2=>((F_am n a b2).bind λf=>(match f with|.c0 k=>((F_b n).bind λl=>some (.cont ([⟨false,4,1,9999⟩,⟨false,5,0,7⟩,⟨false,6,0,31⟩,⟨false,7,(-1099511627776),1099511627776⟩,⟨false,8,0,120⟩,⟨false,9,0,1048576⟩,⟨false,10,0,9999⟩,⟨false,11,0,1048576⟩]:List Ent)))|.c1 m=>((F_b n).bind λp=>some (.cont ([⟨false,12,0,39⟩,⟨false,13,0,255⟩,⟨false,14,0,1048576⟩,⟨false,15,(-1099511627776),1099511627776⟩]:List Ent)))|.c2 q=>((F_b n).bind λr=>some (.cont ([⟨false,16,0,39⟩,⟨false,17,0,255⟩,⟨false,18,(-1099511627776),1099511627776⟩,⟨false,19,(-1099511627776),1099511627776⟩,⟨false,20,0,1099511627776⟩]:List Ent)))|.c3 s=>((F_gb n a).bind λt=>(bif (!(decide (a.Sync.Min<=a.Sync.Max)))then some (.done ([],false))else some (.cont ([⟨false,21,0,39⟩,⟨false,22,0,255⟩,⟨false,23,(-1099511627776),1099511627776⟩,⟨false,24,0,39⟩,⟨false,25,0,255⟩,⟨false,26,(-1099511627776),1099511627776⟩,⟨false,27,(-1099511627776),1099511627776⟩,⟨false,28,(-1099511627776),1099511627776⟩]:List Ent))))|.c4 u=>((F_fd n a).bind λw=>(bif (!(decide (a.Hand.Lo<=a.Hand.Hi)))then some (.done ([],false))else some (.cont ([⟨false,29,1,9999⟩,⟨false,30,0,255⟩,⟨false,31,(-1099511627776),1099511627776⟩,⟨false,32,(-1099511627776),1099511627776⟩]:List Ent))))|.c5 x=>((F_gn n a).bind λy=>(bif (!(decide (a.Silence.Lo<=a.Silence.Hi)))then some (.done ([],false))else some (.cont ([⟨false,33,0,39⟩,⟨false,34,0,255⟩,⟨false,35,(-1099511627776),1099511627776⟩,⟨false,36,(-1099511627776),1099511627776⟩]:List Ent))))|.c6 z=>((F_gh n a).bind λE=>(bif (!(decide (a.Pair.A<a.Pair.B)))then some (.done ([],false))else some (.cont ([⟨false,37,1,9999⟩,⟨false,38,1,9999⟩]:List Ent))))|.c7 F=>((F_b n).bind λG=>some (.cont ([⟨false,39,1,1048576⟩,⟨false,40,1,9999⟩,⟨false,41,0,31⟩,⟨false,42,0,255⟩]:List Ent)))|.c8 H=>((F_b n).bind λJ=>some (.cont ([⟨false,43,1,1048576⟩,⟨false,44,0,9999⟩,⟨false,45,0,1125899906842624⟩,⟨false,46,0,1⟩]:List Ent)))|.c9 c=>((F_b n).bind λL=>some (.cont ([⟨false,47,1,1048576⟩,⟨false,48,1,2⟩,⟨false,49,1,5⟩,⟨false,50,c.1,c.2.1⟩,⟨false,51,c.2.2.1,c.2.2.2.1⟩,⟨false,52,c.2.2.2.2.1,c.2.2.2.2.2⟩]:List Ent)))|.c10 M=>((F_b n).bind λN=>some (.cont ([⟨false,53,1,1048576⟩,⟨true,0,0,1⟩]:List Ent)))|.c11 O=>((F_b n).bind λP=>some (.cont []))|.c12 Q=>((F_b n).bind λR=>some (.cont ([⟨false,55,0,31⟩,⟨false,56,1,1048576⟩]:List Ent)))|.c13 T=>(some (.done ([],false)))):Option (Ctl (List Ent) ((List Int)×Bool))).bind λg=>match g with|.cont d=>((F_ah n a).bind λV=>(app ([⟨false,3,1,13⟩,⟨false,0,0,31⟩,⟨false,1,1,1048576⟩,⟨false,2,0,1099511627776⟩]:List Ent) d).bind λh=>(F_cd n ({Up with Ruling:={Ux with Kind:=a.Ruling.Kind:Ruling}:Fact}) 0 a).bind λi=>(iter (F_fm n a b2 h i) n ([],({({Up with Ruling:={Ux with Kind:=a.Ruling.Kind:Ruling}:Fact})with Kind:=a.Kind:Fact}),0,0):Option (Ctl ((List Int)×Fact×Int) ((List Int)×Bool))).bind λj=>match j with|.cont b=>(((bif (a.Kind != 10)then some ({b.2.1 with Ruling:={b.2.1.Ruling with Kind:=0:Ruling}:Fact})else some b.2.1):Option Fact).bind λe=>some (b.1,(({e with Appeal:={Case:=e.Appeal.Case,Suspends:=(b.2.2==1):Appeal}:Fact})==a)))|.done b=>some b)|.done d=>some d
theorem k_an(n:Nat)(F:Fact)(r:(List Int)×Bool)(h:F_an n F=some r):
    C prog 47 [.agg (Fact.c F)] [] (RQ (λr=>.tup [.osl 0 0 r.1.length 1,.bool r.2]) (λr=>[.row 3 1 (List.map (Qf .i64) r.1)]) r):=by
 refine Qb func47 Z Z Z ?_;refine G0 21 Z (Bd h λb2 M h=>?_);refine Ct b2 [0,1] [1,2,4] Ze (λb2=>[(1,.cells 3 [I b2])]) Zf ?_ (λenv H B=>?_)
 .refine G0 0 Z (Cn Z M (λan M=>?_) (λan M=>?_))
  .exact Gc 3 Z (Cl M [0,1])
  exact Gc 1 Z (Cl M [0,1])
 refine Gx 1 Z (Ef B (Gc 7 Z (Bd h λao a h=>?_)));refine Ct3E (b:=ao) (λy=>[(1,.ptr 0 0),(2,.nils),(5,.ptr 1 0),(6,.ptr 2 0)]) (λy=>[.cells 83 (Fact.c F),.cells 83 (Fact.c F),.cells 200 [.osl 3 0 y.length 3,.any],.ents 210 1 4 y,.cells 3 [I b2]]) ?_ (λy env H hb B=>?_)
 .refine Gc 1 Z (Bd a λaq aa a=>?_);refine Qz [2,1] (OpC.fn call92 Z Z Z) (k_am _ _ _ _ aa) ?_;intro ra rH w;rcases aq with bn|bo|bp|bq|br|bs|bt|bu|bv|bw|bx|bz|ca|cb
  .obtain⟨rfl,rfl⟩:=w;refine FE Z (TE 3 2 1 Z Z (FE Z (Go 15 Z (Cz [] a (k_b _) Z λcc ax a=>Go 6 Z ?_))));cases a;refine QL Z ?_;refine En (QQ (i:=5) (m:=1) Z) ?_;exact Lr [0,2,5,3,1]
  .obtain⟨rfl,rfl⟩:=w;refine FE Z (TE 3 2 1 Z Z (FE Z (Go 15 Z (Cz [] a (k_b _) Z λcd ay a=>Go 6 Z ?_))));cases a;refine QL Z ?_;refine En (QQ (i:=5) (m:=1) Z) ?_;exact Lr [0,2,5,3,1]
  .obtain⟨rfl,rfl⟩:=w;refine FE Z (TE 3 2 1 Z Z (FE Z (Go 15 Z (Cz [] a (k_b _) Z λce az a=>Go 6 Z ?_))));cases a;refine QL Z ?_;refine En (QQ (i:=5) (m:=1) Z) ?_;exact Lr [0,2,5,3,1]
  .obtain⟨rfl,rfl⟩:=w;refine FE Z (TE 3 2 1 Z Z (FE Z (Go 15 Z (Cz [4,2] a (k_gb _ _) Z λcf ba a=>Go 4 Z (Cn Z a (λab a=>?_) (λab a=>?_))))))
   .refine Gc 7 Z ?_;cases a;refine Q9 (Gx 1 Z ?_);obtain rfl:=Oi h;refine R2 2 3 Z Z ?_;refine En (Er (s:=2) (k:=1) (t:=3) (XX Z) Z) ?_;exact Lr [7]
   refine Gc 1 Z ?_;cases a;refine QL Z ?_;refine En (QQ (i:=6) (m:=1) Z) ?_;exact Lr [0,2,6,3,1]
  .obtain⟨rfl,rfl⟩:=w;refine FE Z (TE 3 2 1 Z Z (FE Z (Go 15 Z (Cz [4,2] a (k_fd _ _) Z λcg bb a=>Go 4 Z (Cn Z a (λac a=>?_) (λac a=>?_))))))
   .refine Gc 7 Z ?_;cases a;refine Q9 (Gx 1 Z ?_);obtain rfl:=Oi h;refine R2 2 3 Z Z ?_;refine En (Er (s:=2) (k:=1) (t:=3) (XX Z) Z) ?_;exact Lr [7]
   refine Gc 1 Z ?_;cases a;refine QL Z ?_;refine En (QQ (i:=6) (m:=1) Z) ?_;exact Lr [0,2,6,3,1]
  .obtain⟨rfl,rfl⟩:=w;refine FE Z (TE 3 2 1 Z Z (FE Z (Go 15 Z (Cz [4,2] a (k_gn _ _) Z λch bc a=>Go 4 Z (Cn Z a (λae a=>?_) (λae a=>?_))))))
   .refine Gc 7 Z ?_;cases a;refine Q9 (Gx 1 Z ?_);obtain rfl:=Oi h;refine R2 2 3 Z Z ?_;refine En (Er (s:=2) (k:=1) (t:=3) (XX Z) Z) ?_;exact Lr [7]
   refine Gc 1 Z ?_;cases a;refine QL Z ?_;refine En (QQ (i:=6) (m:=1) Z) ?_;exact Lr [0,2,6,3,1]
  .obtain⟨rfl,rfl⟩:=w;refine FE Z (TE 3 2 1 Z Z (FE Z (Go 15 Z (Cz [4,2] a (k_gh _ _) Z λci bd a=>Go 4 Z (Cn Z a (λaf a=>?_) (λaf a=>?_))))))
   .refine Gc 7 Z ?_;cases a;refine Q9 (Gx 1 Z ?_);obtain rfl:=Oi h;refine R2 2 3 Z Z ?_;refine En (Er (s:=2) (k:=1) (t:=3) (XX Z) Z) ?_;exact Lr [7]
   refine Gc 1 Z ?_;cases a;refine QL Z ?_;refine En (QQ (i:=6) (m:=1) Z) ?_;exact Lr [0,2,6,3,1]
  .obtain⟨rfl,rfl⟩:=w;refine FE Z (TE 3 2 1 Z Z (FE Z (Go 15 Z (Cz [] a (k_b _) Z λcj be a=>Go 6 Z ?_))));cases a;refine QL Z ?_;refine En (QQ (i:=5) (m:=1) Z) ?_;exact Lr [0,2,5,3,1]
  .obtain⟨rfl,rfl⟩:=w;refine FE Z (TE 3 2 1 Z Z (FE Z (Go 15 Z (Cz [] a (k_b _) Z λck bg a=>Go 6 Z ?_))));cases a;refine QL Z ?_;refine En (QQ (i:=5) (m:=1) Z) ?_;exact Lr [0,2,5,3,1]
  .obtain⟨rfl,rfl⟩:=w;refine FE Z (TE 3 2 1 Z Z (FE Z (Go 15 Z (Cz [] a (k_b _) Z λcl bh a=>Go 6 Z ?_))));cases a;refine QL Z ?_;refine En (QQ (i:=5) (m:=1) Z) ?_;exact Lr [0,2,5,3,1]
  .obtain⟨rfl,rfl⟩:=w;refine FE Z (TE 3 2 1 Z Z (FE Z (Go 15 Z (Cz [] a (k_b _) Z λcm bi a=>Go 6 Z ?_))));cases a;refine QL Z ?_;refine En (QQ (i:=5) (m:=1) Z) ?_;exact Lr [0,2,5,3,1]
  .obtain⟨rfl,rfl⟩:=w;refine FE Z (Go 15 Z (Cz [] a (k_b _) Z λcn bj a=>Go 6 Z ?_));cases a;refine QL Z ?_;refine En (QQ (i:=4) (m:=1) Z) ?_;refine En (Le.phantomE (i:=4) (m:=0) (t:=210) (b1:=2) (b2:=1) Z Z Z) ?_;exact Lr [0,2,4,5,1]
  .obtain⟨rfl,rfl⟩:=w;refine FE Z (TE 3 2 1 Z Z (FE Z (Go 15 Z (Cz [] a (k_b _) Z λco bk a=>Go 6 Z ?_))));cases a;refine QL Z ?_;refine En (QQ (i:=5) (m:=1) Z) ?_;exact Lr [0,2,5,3,1]
  .obtain⟨rfl,rfl⟩:=w;refine FE Z (Go 28 Z ?_);cases a;refine Q9 (Gx 1 Z ?_);obtain rfl:=Oi h;refine R2 2 3 Z Z ?_;refine En (Er (s:=2) (k:=1) (t:=3) (XX Z) Z) ?_;exact Lr [5]
 subst hb;refine Gx 1 Z (Ef B (Gc 12 Z (DAs 3 0 [1,3,3] (by kernel_rfl) ?_)));obtain⟨cp,ag,h⟩:=Jy h;refine DA.op (x:=.osl 6 0 4 3) (H1:=[.cells 83 (Fact.c F),.cells 83 (Fact.c F),.cells 200 [.osl 3 0 y.length 3,.any],.ents 210 1 4 y,.cells 3 [I b2],.cells 83 (Fact.c Up),.rowr 210 3 [[.ptr 1 3,I 1,I 13],[.ptr 1 0,I 0,I 31],[.ptr 1 1,I 1,I 1048576],[.ptr 1 2,I 0,I 1099511627776]]]) ?_ ?_
 .refine Qz [1] (OpC.fn call94 Z Z Z) (k_ah _ _ _ ag) ?_;rintro _ _ ⟨rfl,rfl⟩;exact FE Z Wp
 refine Db 1 Z ?_;refine DB.wo2 (x:=.osl 3 0 y.length 3) (Ld isAgg198 Z Wp) (Ld isAgg198 Z Wp) ?_;refine DB.done Z (TE 6 1 4 Z Z (FE Z (Bd h λar ah h=>?_)));refine vH (Qg9 (i:=6) (j:=3) ah Jq runUnderlying198 Z) ?_;refine FE Z (Go 22 Z (Cd [5,8,0] h (k_cd _ _ _ _) Z λau bl h=>FE Z (Go 11 Z (Bd h λav ai h=>?_))));refine CtE (b:=av) [0,1,2,3] [1] (λg=>[(2,.osl 1 0 g.1.length 1),(7,.ptr 2 0),(10,.ptr 3 0)]) (λg=>[(1,.row 3 1 (List.map (Qf .i64) g.1)),(2,.cells 83 (Fact.c g.2.1)),(3,.cells 3 [I g.2.2])]) Zf ?_ (λg env H aw B=>?_)
 .refine G0 1 Z ?_;refine Lp [0,0,5,8,9,7,1,4] [1,7,10,11,42,43] (λl=>[(2,.osl 1 0 l.1.length 1),(44,I l.2.2.2)]) (λl=>[(1,.row 3 1 (List.map (Qf .i64) l.1)),(2,.cells 83 (Fact.c l.2.1)),(3,.cells 3 [I l.2.2.1]),(4,.ents 210 2 3 au),(5,.ents 210 6 7 ar)]) ai Zf ?_ ?_
  .refine En (Er (s:=2) (k:=1) (t:=3) (XX Z) Z) ?_;exact Lr [0,10,5,8,9,7,1,4]
  intro l bm d G;refine G0 6 Z (Jb Z d (λO d=>?_) (λO d=>?_))
  .refine Gc 2 Z (Qy d ?_);obtain rfl:=Oj G d;exact Gx 1 Z (QL Z (Lr [0,1,2,3]))
  refine Gc 7 Z (Bd d λz he106 d=>?_);refine vX (.ptr 5 (Int.toNat l.2.2.2*3)) (QJ he106 Z runUnderlying198 sizeOf210) ?_;refine vX (.agg [QhO 6 7 z,I z.lo,I z.hi]) (Qk Z isAgg210 sizeOf210 Z (Pts.ents (f:=0) (Qau he106).2) Z Z) ?_;refine Go 7 Z (DSs 16 Z (D 2 Z ?_));refine DS.wo (x:=QhO 6 7 z) ?_ ?_
  .exact S Z Wp
  obtain⟨aj,P,d⟩:=Jy d;refine DS.v (x:=(I aj)) (Qcm P isAgg3) ?_;refine D 5 Z (Qlt 8 d Z Z Z (λQ d=>?_) (λQ d=>?_))
  .refine D 7 Z (Eh Z (Go 15 Z (Yx d ?_)));obtain rfl:=Oj G d;refine Gx 1 Z (Q9 (Gx 1 Z ?_));obtain rfl:=Oi h;refine R2 2 3 Z Z ?_;refine En (Er (s:=2) (k:=1) (t:=3) (XX Z) Z) ?_;exact Lr [9]
  .refine D 2 Z ?_;refine DS.wo (x:=QhO 6 7 z) ?_ ?_
   .exact Sg (gT Z) Z Wp
   obtain⟨ak,R,d⟩:=Jy d;refine DS.v (x:=(I ak)) (Qcm R isAgg3) ?_ (hg:=(gT Z));refine D 3 Z (Eh Z (Go 4 Z (Cn Z d (λT d=>?_) (λT d=>?_))))
   .refine Gc 10 Z (Yx d ?_);obtain rfl:=Oj G d;refine Gx 1 Z (Q9 (Gx 1 Z ?_));obtain rfl:=Oi h;refine R2 2 3 Z Z ?_;refine En (Er (s:=2) (k:=1) (t:=3) (XX Z) Z) ?_;exact Lr [9]
   refine Gc 3 Z (DSs 9 Z (D 2 Z ?_));obtain⟨al,he111,d⟩:=Jy d;refine DS.v (x:=(.ptr 4 (Int.toNat l.2.2.2*3))) (QJ he111 Z runUnderlying198 sizeOf210) ?_;refine DS.wo (x:=.ptr 4 (Int.toNat l.2.2.2*3)) ?_ ?_
   .exact Fp QnP Z Wp
   refine DS.v (x:=(QhO 2 3 al)) (Ez Z isAgg204 Z (Pts.ents (f:=0) (Qau he111).2)) ?_;refine D 2 Z ?_;refine DS.wo (x:=QhO 6 7 z) ?_ ?_
   .exact S Z Wp
   obtain⟨am,V,d⟩:=Jy d;refine DS.v (x:=(I am)) (Qcm V isAgg3) ?_;refine Eh Z (S Z (Bd d λJ hq113 d=>?_));refine vU (Qks (c:=Fact.c) (f:=l.2.1) (f':=J.1) (s':=J.2) hq113 Qqr sizeOf3) ?_;refine QfT (H:=[_,_,.cells 83 (Fact.c J.1),.cells 3 [I J.2],_,_,_,_,_]) Z ?_;refine Go 6 Z (S Z (Bd d λL W d=>?_));refine vX (I L) (Qcm W isAgg3) ?_;refine vH (El (xs:=[.tmp 81]) (es:=List.map (Qf .i64) [L]) Q2 Z Z Z Z Z ⟨Z,trivial⟩ Z Z) ?_;refine aV (.osl 9 0 ([L].length) 1) [_,_,_,_,_,_,_,_,_,.row 3 1 (List.map (Qf .i64) [L])] Z Z ?_;refine Bd d λN X d=>?_;refine vH (QM (e:=(Qf .i64)) X Q2 runUnderlying37 (Y6 (i:=9))) ?_;refine aV (.osl 10 0 N.length 1) [_,.dead,_,_,_,_,_,_,_,_,.row 3 1 (List.map (Qf .i64) N)] Z Z ?_;exact Go 8 Z (Qv d (Lr [0,10,2,3,4,5,6,7]))
 subst aw;refine Gx 1 Z (Ef B (Gc 8 Z (Bd h λu E h=>?_)));refine Ct u [0,1,2,3] [1,2,7,10] Ze (λu=>[(2,.cells 83 (Fact.c u))]) Zf ?_ (λenv H B=>?_)
 .refine G0 0 Z (Cn Z E (λY E=>?_) (λY E=>?_))
  .exact Gc 5 Z (Cl E [0,1,2,3])
  exact Gc 1 Z (Cl E [0,1,2,3])
 refine Gx 1 Z (Ef B (Gc 10 Z ?_));refine TC.draw0 5 [94,95,96,97,2] [.osl 1 0 g.1.length 1,.agg (Fact.c ({u with Appeal:={Case:=u.Appeal.Case,Suspends:=(g.2.2==1):Appeal}:Fact})),.agg (Fact.c F),.bool (({u with Appeal:={Case:=u.Appeal.Case,Suspends:=(g.2.2==1):Appeal}:Fact})==F),.osl 1 0 g.1.length 1] draws Z Z Z ?_ ?_
 .refine Oq.c ?_ (ov (ov (Oq.c ?_ (ov (Oq.n)))))
  .refine Om Z (sP 4 sN) ?_;exact S Z Wp
  .refine Om Z (sD 1 (sD 2 sN)) ?_;refine vX (.bool (({u with Appeal:={Case:=u.Appeal.Case,Suspends:=(g.2.2==1):Appeal}:Fact})==F)) (Qmp (p:={u with Appeal:={Case:=u.Appeal.Case,Suspends:=(g.2.2==1):Appeal}:Fact}) (q:=F) QqY Z Z) ?_;exact Wp
 refine Go 4 Z ?_;obtain rfl:=Oi h;exact R2 2 3 Z Z (Lr [1])
def F_ad(n:Nat)(a:Fact):Option Int:=
  (F_an n a).bind λb=>(bif (!b.2)then some 120 else some 0)
theorem k_ad(n:Nat)(a:Fact)(r:Int)(h:F_ad n a=some r):
    Csm prog 25 [.agg (Fact.c a)] [] (λr=>I r) r:=by
 refine Qb func25 Z Z Z ?_;refine G0 10 Z (Cd [] h (k_an _ _) Z λe d h=>FE Z (Go 13 Z (Cn Z h (λb h=>?_) (λb h=>?_))))
 .exact Gc 7 Z (Rt h 2 [])
 exact Gc 8 Z (Rt h 2 [])
def F_gt(n:Nat)(a:List Fact):Option (List Fact):=
  isNil a (some []) ((app ([]:List Fact) a).bind λb=>some b)
theorem k_gt(n:Nat)(a:List Fact)(r:List Fact)(h:F_gt n a=some r):
    C prog 178 [.rsl 57 (List.map Fact.c a)] [] (RQ (λr=>.osl 0 0 r.length 57) (λr=>[.row 83 57 (List.map Fact.c r)]) r):=by
 refine Qb func178 Z Z Z ?_;refine G0 9 Z ?_;refine Qje (e:=Fact.c) (l:=a) underlying34 Z (λb1 b=>?_);have hkb1:=QiA h b1 b;cases b1
 .have h:=hkb1.2 Z;refine Go 7 Z ?_;refine vH (El (xs:=[]) (es:=List.map Fact.c []) Qaq Z Z Z Z Z trivial Z Z) ?_;refine FE Z (Go 1 Z (Bd h λf d h=>?_));refine vH (QM (e:=Fact.c) d Qaq runUnderlying34 Qax) ?_;exact FE Z (Go 4 Z (Rt h 2 [1]))
 .have h:=hkb1.1 Z;refine Go 10 Z ?_;obtain rfl:=Oi h;refine R1 2 Z ?_;refine En (Er (s:=2) (k:=57) (t:=83) (XX Z) Z) ?_;exact Lr [0]
def F_as(n:Nat)(a:Int):Option Unit:=
  some ()
theorem k_as(n:Nat)(a:Int)(r:Unit)(h:F_as n a=some r):
    Csm prog 165 [I a] [] (λ_=>.bool (a != a)) r:=by
 refine Qb func165 Z Z Z ?_;exact G0 14 Z (Rt h 2 [])
def F_o(n:Nat)(b:Int)(a:Int):Option Int:=
  (F_as n b).bind λc=>(F_as n a).bind λd=>(bif (b != b)then(bif (a != a)then some 0 else some (-1))else(bif (a != a)then some 1 else(bif decide (b<a)then some (-1)else(bif decide (a<b)then some 1 else some 0))))
theorem k_o(n:Nat)(a:Int)(b:Int)(r:Int)(h:F_o n a b=some r):
    Csm prog 79 [I a,I b] [] (λr=>I r) r:=by
 refine Qb func79 Z Z Z ?_;refine G0 8 Z (Cz [] h (k_as _ _) Z λk i h=>Go 6 Z (Cz [] h (k_as _ _) Z λl j h=>Go 9 Z (Cn Z h (λc h=>?_) (λc h=>?_))))
 .refine Gc 6 Z (Cn Z h (λd h=>?_) (λd h=>?_))
  .exact Gc 8 Z (Rt h 4 [])
  exact Gc 9 Z (Rt h 4 [])
 refine Gc 8 Z (Cn Z h (λe h=>?_) (λe h=>?_))
 .exact Gc 7 Z (Rt h 4 [])
 refine Gc 10 Z (Cn Z h (λf h=>?_) (λf h=>?_))
 .exact Gc 7 Z (Rt h 4 [])
 refine Gc 10 Z (Cn Z h (λg h=>?_) (λg h=>?_))
 .exact Gc 7 Z (Rt h 4 [])
 exact Gc 8 Z (Rt h 4 [])
def F_dw(n:Nat)(c:List Int)(a:Int):Option (Ctl Int (Ctl Unit Int)):=
  (bif decide (a<(c.length:Int))then(idx c a).bind λb=>(bif (b != 0)then some (.done (.done b))else some (.cont (IntKind.i64.wrap (a+1))))else some (.done (.cont ())))
def F_bb(n:Nat)(b:List Int):Option Int:=
  (iter (F_dw n b) n 0:Option (Ctl Unit Int)).bind λc=>match c with|.cont a=>(some 0)|.done a=>some a
theorem k_bb(n:Nat)(i:List Int)(r:Int)(h:F_bb n i=some r):
    Csm prog 84 [.rsl 1 (List.map (Qf .i64) i)] [] (λr=>I r) r:=by
 refine Qb func84 Z Z Z ?_;refine G0 14 Z (Lm Z (Go 3 Z (Bd h λl m h=>?_)));refine CtE (b:=l) [] [3] Ze Ze Zf ?_ (λp env H j k=>?_)
 .refine G0 1 Z ?_;refine Lp [] [3,6,7] (λd=>[(8,I d)]) Ze m Zf (Lr []) λd q a c=>?_;refine G0 6 Z (Jb Z a (λe a=>?_) (λe a=>?_))
  .refine Gc 2 Z (Qy a ?_);obtain rfl:=Oj c a;exact Gx 1 Z (QL Z (Lr []))
  refine Gc 6 Z (Bd a λs f a=>Iz f Z (Go 11 Z (Cn Z a (λg a=>?_) (λg a=>?_))))
  .refine Gc 9 Z (Yx a ?_);obtain rfl:=Oj c a;exact Gx 1 Z (Q9 (Gx 1 Z (Rt h 2 [])))
  exact Gc 7 Z (Qv a (Lr []))
 subst j;exact Gx 1 Z (Ef k (Gc 7 Z (Rt h 2 [])))
def F_ia(n:Nat)(c:Value)(rec141:Value->Option (Int×Bool))(a:Int×Int):Option (Ctl (Int×Int) (Ctl Int (Int×Bool))):=
  (bif decide (a.2<(c.L.length:Int))then(idx c.L a.2).bind λd=>(rec141 d).bind λb=>(bif (!b.2)then some (.done (.done (0,false)))else some (.cont ((if a.1<b.1 then b.1 else a.1),IntKind.i64.wrap (a.2+1))))else some (.done (.cont a.1)))
def B_h(rec141:Value->Option (Int×Bool))(n:Nat)(a:Value):Option (Int×Bool):=
  ((bif (a.S==[])then(bif (a.N==0)then(arr 4 (List.replicate 4 false)).bind λk=>(arr 4 ([false,((a.L.length:Int)==0),((a.L.length:Int)==0),(a.S==[])]:List Bool)).bind λc=>some c else(arr 4 (List.replicate 4 false)).bind λl=>(arr 4 ([false,((a.L.length:Int)==0),false,false]:List Bool)).bind λd=>some d)else(bif (a.N==0)then(arr 4 (List.replicate 4 false)).bind λm=>(arr 4 ([false,false,((a.L.length:Int)==0),(a.S==[])]:List Bool)).bind λe=>some e else(arr 4 (List.replicate 4 false)).bind λp=>(arr 4 ([false,false,false,false]:List Bool)).bind λf=>some f)):Option (List Bool)).bind λg=>((bif decide (a.Kind<1)then some true else(bif decide (3<a.Kind)then some true else(Qes 4 g a.Kind).bind λh=>some (!h))):Option Bool).bind λi=>(bif i then some (0,false)else(bif decide (a.Kind<3)then some (0,true)else(iter (F_ia n a rec141) n (0,0):Option (Ctl Int (Int×Bool))).bind λj=>match j with|.cont b=>(some (IntKind.i64.wrap (b+1),true))|.done b=>some b))
theorem QdE(rec141:Value->Option (Int×Bool))(s:∀(j:Value) (r:Int×Bool),rec141 j=some r->Csm prog 273 [.agg (Value.c j)] [] (λr=>.tup [I r.1,.bool r.2]) r)(n:Nat)(j:Value)(r:Int×Bool)(h:B_h rec141 n j=some r):
    Csm prog 273 [.agg (Value.c j)] [] (λr=>.tup [I r.1,.bool r.2]) r:=by
 refine Qb func273 Z Z Z ?_;refine G0 8 Z (Bd h λq a h=>?_);refine Ct q [0,0] [1,2] (λ_=>[(4,.ptr 1 0)]) (λq=>[(1,.row 397 1 (List.map Qba q))]) Zf ?_ (λenv H m=>?_)
 .refine G0 5 Z (Is 12 a Z (λQ a=>?_) (λQ a=>?_))
  .refine Go 2 Z (Lm Z (Go 6 Z (Is 21 a Z (λf a=>?_) (λf a=>?_))))
   .refine Go 2 Z (Lm Z (Go 6 Z (Fpg (gT f) QiN Z (Ldg (gT f) isAgg9 Z ?_))));refine vX (.bool (j.S==[])) (QdU Z Z Z) ?_ (gT f);refine Pk f Z ?_;refine vV (x:=(.agg (List.flatten (List.map Qba ([false,((j.L.length:Int)==0),((j.L.length:Int)==0),(j.S==[])]:List Bool))))) (JG (n:=4) (k:=1) (zs:=[.bool false,.bool false,.bool false,.bool false]) zeroValue397 (ZR.agg (zc ZR.bool (zc ZR.bool (zc ZR.bool (zc ZR.bool ZL.nil))))) runUnderlying397 sizeOf4 Z) ?_;refine vH (Jh (n:=4) (k:=1) (e:=Qba) (z:=false) zeroValue397 (by kernel_rfl) (by kernel_rfl) (by kernel_rfl) Z) ?_;refine FE Z (Bd a λar R a=>Bd a λag t a=>?_);obtain⟨J,rfl⟩:=Jr R;refine vU (Jg (e:=Qba) (l:=(List.replicate 4 false)) (l':=ag) J (Qbz t) Zf Z sizeOf397 Zf Zf (congrArg (λl=>List.flatten (List.map Qba l)) (Jr t).2.symm)) ?_;exact FE Z (Go 1 Z (Cl a [0,1]))
   .refine Go 9 Z (KF f Z (KF f Z (KF f Z (Pk f Z ?_))));refine vV (x:=(.agg (List.flatten (List.map Qba ([false,((j.L.length:Int)==0),false,false]:List Bool))))) (JG (n:=4) (k:=1) (zs:=[.bool false,.bool false,.bool false,.bool false]) zeroValue397 (ZR.agg (zc ZR.bool (zc ZR.bool (zc ZR.bool (zc ZR.bool ZL.nil))))) runUnderlying397 sizeOf4 Z) ?_;refine vH (Jh (n:=4) (k:=1) (e:=Qba) (z:=false) zeroValue397 (by kernel_rfl) (by kernel_rfl) (by kernel_rfl) Z) ?_;refine FE Z (Bd a λau T a=>Bd a λah u a=>?_);obtain⟨M,rfl⟩:=Jr T;refine vU (Jg (e:=Qba) (l:=(List.replicate 4 false)) (l':=ah) M (Qbz u) Zf Z sizeOf397 Zf Zf (congrArg (λl=>List.flatten (List.map Qba l)) (Jr u).2.symm)) ?_;exact FE Z (Go 1 Z (Cl a [0,1]))
  .refine Go 9 Z (Is 21 a Z (λg a=>?_) (λg a=>?_))
   .refine Go 2 Z (Lm Z (Go 6 Z (Fpg (gT g) QiN Z (Ldg (gT g) isAgg9 Z ?_))));refine vX (.bool (j.S==[])) (QdU Z Z Z) ?_ (gT g);refine Pk g Z ?_;refine vV (x:=(.agg (List.flatten (List.map Qba ([false,false,((j.L.length:Int)==0),(j.S==[])]:List Bool))))) (JG (n:=4) (k:=1) (zs:=[.bool false,.bool false,.bool false,.bool false]) zeroValue397 (ZR.agg (zc ZR.bool (zc ZR.bool (zc ZR.bool (zc ZR.bool ZL.nil))))) runUnderlying397 sizeOf4 Z) ?_;refine vH (Jh (n:=4) (k:=1) (e:=Qba) (z:=false) zeroValue397 (by kernel_rfl) (by kernel_rfl) (by kernel_rfl) Z) ?_;refine FE Z (Bd a λav V a=>Bd a λai w a=>?_);obtain⟨N,rfl⟩:=Jr V;refine vU (Jg (e:=Qba) (l:=(List.replicate 4 false)) (l':=ai) N (Qbz w) Zf Z sizeOf397 Zf Zf (congrArg (λl=>List.flatten (List.map Qba l)) (Jr w).2.symm)) ?_;exact FE Z (Go 1 Z (Cl a [0,1]))
   .refine Go 9 Z (KF g Z (KF g Z (KF g Z (Pk g Z ?_))));refine vX (.agg (List.flatten (List.map Qba ([false,false,false,false]:List Bool)))) (JG (n:=4) (k:=1) (zs:=[.bool false,.bool false,.bool false,.bool false]) zeroValue397 (ZR.agg (zc ZR.bool (zc ZR.bool (zc ZR.bool (zc ZR.bool ZL.nil))))) runUnderlying397 sizeOf4 Z) ?_;refine vH (Jh (n:=4) (k:=1) (e:=Qba) (z:=false) zeroValue397 (by kernel_rfl) (by kernel_rfl) (by kernel_rfl) Z) ?_;refine FE Z (Bd a λaw W a=>Bd a λaj y a=>?_);obtain⟨O,rfl⟩:=Jr W;refine vU (Jg (e:=Qba) (l:=(List.replicate 4 false)) (l':=aj) O (Qbz y) Zf Z sizeOf397 Zf Zf (congrArg (λl=>List.flatten (List.map Qba l)) (Jr y).2.symm)) ?_;exact FE Z (Go 1 Z (Cl a [0,1]))
 refine Gx 1 Z (Ef m (Gc 2 Z (Bd h λB i h=>?_)));refine Ct B [0] [1,2] (λB=>[(50,.bool B)]) Ze Zf ?_ (λenv H m=>?_)
 .refine G0 5 Z (Is 39 i Z (λX i=>?_) (λX i=>?_))
  .exact Go 12 Z (Cl i [0])
  .refine Go 5 Z (Is 44 i Z (λY i=>?_) (λY i=>?_))
   .exact Go 7 Z (Cl i [0])
   .refine Go 2 Z (Bd i λak E i=>?_);refine vX (.ptr 1 (Int.toNat j.Kind*1)) (Qai (n:=4) (k:=1) (l:=q) E runUnderlying397 sizeOf4 Z) ?_ (gT Z);refine vX (.bool ak) (Ez Z isAgg4 Z (Qq (Qa5 E).2)) ?_ (gT Z);exact Go 3 Z (Cl i [0])
 refine Gx 1 Z (Ef m (Cn Z h (λaa h=>?_) (λaa h=>?_)))
 .refine Gc 8 Z ?_;obtain rfl:=Oi h;exact R2 2 3 Z Z (Lr [])
 refine Gc 10 Z (Cn Z h (λab h=>?_) (λab h=>?_))
 .refine Gc 8 Z ?_;obtain rfl:=Oi h;exact R2 2 3 Z Z (Lr [])
 refine Gc 7 Z (Lm Z (Go 3 Z (Bd h λal am h=>?_)));refine CtE (b:=al) [] [] (λF=>[(2,I F)]) Ze Zf ?_ (λF env H an m=>?_)
 .refine G0 1 Z ?_;refine Lp [] [55,56] (λp=>[(2,I p.1),(57,I p.2)]) Ze am Zf (Lr []) λp ax d G=>?_;refine G0 6 Z (Jb Z d (λac d=>?_) (λac d=>?_))
  .refine Gc 2 Z (Qy d ?_);obtain rfl:=Oj G d;exact Gx 1 Z (QL Z (Lr []))
  refine Gc 6 Z (Bd d λao ae d=>IzE ae (QbC ao) Z (Go 8 Z (Cd [] d (s _) Z λP aq d=>FE Z (Go 14 Z (Cn Z d (λaf d=>?_) (λaf d=>?_))))))
  .refine Gc 10 Z (Yx d ?_);obtain rfl:=Oj G d;refine Gx 1 Z (Q9 (Gx 1 Z ?_));obtain rfl:=Oi h;exact R2 2 3 Z Z (Lr [])
  refine Gc 5 Z ?_;refine vX (I (if p.1<P.1 then P.1 else p.1)) (OpV.max Z Z Z Z) ?_;exact Go 8 Z (Qv d (Lr []))
 subst an;refine Gx 1 Z (Ef m (Gc 9 Z ?_));obtain rfl:=Oi h;exact R2 2 3 Z Z (Lr [])
def F_h:Nat->Value->Option (Int×Bool)
  |0=>λ_=>none
  |n+1=>B_h (F_h n) n
theorem k_h(n:Nat):∀(a:Value) (r:Int×Bool),F_h n a=some r->Csm prog 273 [.agg (Value.c a)] [] (λr=>.tup [I r.1,.bool r.2]) r:=by
  induction n with
  |zero=>intro a r h;cases h
  |succ n ih=>intro a r h;exact QdE _ ih n a r h
def F_ec(n:Nat)(b:Value):Option Int:=
  (F_h n b).bind λa=>(bif (!a.2)then some 1 else(bif decide (16<a.1)then some 2 else some 0))
theorem k_ec(n:Nat)(a:Value)(r:Int)(h:F_ec n a=some r):
    Csm prog 225 [.agg (Value.c a)] [] (λr=>I r) r:=by
 refine Qb func225 Z Z Z ?_;refine G0 9 Z (Cd [] h (k_h _ _) Z λf e h=>FE Z (Go 16 Z (Cn Z h (λb h=>?_) (λb h=>?_))))
 .exact Gc 8 Z (Rt h 2 [])
 refine Gc 7 Z (Cn Z h (λd h=>?_) (λd h=>?_))
 .exact Gc 8 Z (Rt h 2 [])
 exact Gc 9 Z (Rt h 2 [])
def F_ex(n:Nat):Option Unit:=
  some ()
theorem k_ex(n:Nat)(r:Unit)(h:F_ex n=some r):
    C prog 226 [] [] (RQ (λ_=>.ptr 0 0) (λ_=>[.cells 374 [.nilf,.fn (.func 274) [] [],.fn (.func 277) [] [],.fn (.func 278) [] [.ptr 1 0]],.cells 331 [.ptr 0 0]]) r):=by
 refine Qb func226 Z Z Z ?_;refine G0 2 Z (S Z (Go 4 Z ?_));refine vX (.agg [.nilf,.nilf,.nilf,.nilf]) (JG (n:=4) (k:=1) (parts:=[]) (zs:=[.nilf,.nilf,.nilf,.nilf]) zeroValue374 (ZR.agg (zc ZR.nilf (zc ZR.nilf (zc ZR.nilf (zc ZR.nilf ZL.nil))))) runUnderlying374 sizeOf330 Z) ?_;refine Go 9 Z ?_;refine vX (.ptr 0 1) (Q5 (i:=1) (n:=4) (k:=1) (j:=1) (by decide) Z runUnderlying374 sizeOf330 Z) ?_;refine Go 8 Z ?_;refine vX (.ptr 0 2) (Q5 (i:=2) (n:=4) (k:=1) (j:=2) (by decide) Z runUnderlying374 sizeOf330 Z) ?_;refine Go 9 Z ?_;refine vX (.ptr 0 3) (Q5 (i:=3) (n:=4) (k:=1) (j:=3) (by decide) Z runUnderlying374 sizeOf330 Z) ?_;exact Go 11 Z (Rt h 0 [0,1])
def F_aq(n:Nat)(a:Int):Option Unit:=
  some ()
theorem k_aq(n:Nat)(a:Int)(r:Unit)(h:F_aq n a=some r):
    Csm prog 276 [I a] [] (λ_=>.int .u64 (QeM .u64 (QeU .u64 (IntKind.u64.wrap a) 1) (IntKind.u64.wrap (Q3 .i64 a 63)))) r:=by
 refine Qb func276 Z Z Z ?_;refine G0 8 Z ?_;refine vX (.int .u64 (IntKind.u64.wrap a)) (Ja Z runUnderlying3 runUnderlying336 Z) ?_;refine vX (.int .u64 (QeU .u64 (IntKind.u64.wrap a) 1)) (OpV.shl Z Z Z (by decide)) ?_;refine Go 1 Z ?_;refine vX (I (Q3 .i64 a 63)) (OpV.shr Z Z Z (by decide)) ?_;refine vX (.int .u64 (IntKind.u64.wrap (Q3 .i64 a 63))) (Ja Z runUnderlying3 runUnderlying336 Z) ?_;refine vX (.int .u64 (QeM .u64 (QeU .u64 (IntKind.u64.wrap a) 1) (IntKind.u64.wrap (Q3 .i64 a 63)))) (OpV.xor Z Z Z) ?_;exact Go 4 Z (Rt h 2 [])
def F_dt(n:Nat)(a:(List Int)×Int):Option (Ctl ((List Int)×Int) ((List Int)×Int)):=
  (bif decide (128<=a.2)then(app a.1 [orI .u8 (IntKind.u8.wrap a.2) 128]).bind λb=>some (.cont (b,Q3 .u64 a.2 7))else some (.done (a.1,a.2)))
def F_s(n:Nat)(c:List Int)(d:Int):Option (List Int):=
  (iter (F_dt n) n (c,d):Option ((List Int)×Int)).bind λa=>(app a.1 [IntKind.u8.wrap a.2]).bind λb=>some b
theorem k_s(n:Nat)(d:List Int)(k:Int)(r:List Int)(h:F_s n d k=some r):
    C prog 275 [.osl 0 0 d.length 1,.int .u64 k] [.row 5 1 (List.map (Qf .u8) d)] (RQ (λr=>.osl 1 0 r.length 1) (λr=>[.dead,.row 5 1 (List.map (Qf .u8) r)]) r):=by
 refine Qb func275 Z Z Z ?_;refine G0 6 Z (Bd h λc p h=>?_);refine Ct c [0,0] [] (λc=>[(0,.osl 1 0 c.1.length 1),(1,.int .u64 c.2)]) (λc=>[(0,.dead),(1,.row 5 1 (List.map (Qf .u8) c.1))]) Zf ?_ (λenv H l=>?_)
 .refine G0 1 Z ?_;refine Lp [0,0] [] (λb=>[(0,.osl 1 0 b.1.length 1),(1,.int .u64 b.2)]) (λb=>[(0,.dead),(1,.row 5 1 (List.map (Qf .u8) b.1))]) p Zf ?_ ?_
  .refine En (Qmy (s:=0) (i:=0) Z Z Z) ?_;exact Lr [0,1]
  intro b q a m;refine G0 7 Z (Jb Z a (λf a=>?_) (λf a=>?_))
  .refine Gc 2 Z (Qy a ?_);obtain rfl:=Oj m a;exact Gx 1 Z (QH (Lr [0,1]))
  refine Gc 7 Z ?_;refine vX (.int .u8 (IntKind.u8.wrap b.2)) (Ja Z runUnderlying336 runUnderlying5 Z) ?_;refine vX (.int .u8 (orI .u8 (IntKind.u8.wrap b.2) 128)) (OpV.or Z Z Z) ?_;refine vH (El (xs:=[.tmp 12]) (es:=List.map (Qf .u8) [orI .u8 (IntKind.u8.wrap b.2) 128]) JF Z Z Z Z Z ⟨Z,trivial⟩ Z Z) ?_;refine FE Z (Bd a λt g a=>?_);refine vH (QM (e:=(Qf .u8)) g JF runUnderlying188 (Y6 (i:=2))) ?_;refine FE Z (Go 6 Z ?_);refine vX (.int .u64 (Q3 .u64 b.2 7)) (OpV.shr Z Z Z (by decide)) ?_;exact Go 2 Z (Qv a (Lr [0,3]))
 refine Gx 1 Z (Ef l (Gc 4 Z ?_));refine vX (.int .u8 (IntKind.u8.wrap c.2)) (Ja Z runUnderlying336 runUnderlying5 Z) ?_;refine vH (El (xs:=[.tmp 17]) (es:=List.map (Qf .u8) [IntKind.u8.wrap c.2]) JF Z Z Z Z Z ⟨Z,trivial⟩ Z Z) ?_;refine FE Z (Bd h λu j h=>?_);refine vH (QM (e:=(Qf .u8)) j JF runUnderlying188 (Y6 (i:=2))) ?_;exact FE Z (Go 4 Z (Rt h 4 [0,3]))
def F_hs(n:Nat)(a:Value):Option (List Int):=
  (app [] [1]).bind λb=>(F_aq n a.N).bind λd=>(F_s n b (QeM .u64 (QeU .u64 (IntKind.u64.wrap a.N) 1) (IntKind.u64.wrap (Q3 .i64 a.N 63)))).bind λc=>some c
theorem k_hs(n:Nat)(a:Value)(r:List Int)(h:F_hs n a=some r):
    C prog 274 [.nils,.agg (Value.c a)] [] (RQ (λr=>.osl 0 0 r.length 1) (λr=>[.row 5 1 (List.map (Qf .u8) r)]) r):=by
 refine Qb func274 Z Z Z ?_;refine G0 7 Z (DAs 5 2 [0,0,1,3,3] (by kernel_rfl) (Da 1 Z ?_));refine DA.wo (x:=.rsl 1 (List.map (Qf .u8) [1])) ?_ ?_
 .refine vH (YO (xs:=[.const (.int .u8 1)]) (es:=List.map (Qf .u8) [1]) JF Z Z Z Z Z ⟨Z,trivial⟩ Z Z) ?_;exact FE Z Wp
 obtain⟨g,b,h⟩:=Jy h;refine QbJ (Qjo (e:=(Qf .u8)) b JF runUnderlying188 Qax) Z Z (Db 1 Z ?_);refine DB.wo2 (x:=I a.N) (Ld isAgg3 Z Wp) (Ld isAgg3 Z Wp) ?_;exact DB.done Z (Cz [] h (k_aq _ _) Z λi d h=>Cd [1] h (k_s _ _ _) Z λj f h=>FE Z (Go 4 Z (Rt h 4 [2])))
def F_af(n:Nat)(b:List Int)(a:Value):Option (List Int):=
  (app b [1]).bind λc=>(F_aq n a.N).bind λe=>(F_s n c (QeM .u64 (QeU .u64 (IntKind.u64.wrap a.N) 1) (IntKind.u64.wrap (Q3 .i64 a.N 63)))).bind λd=>some d
theorem k_af(n:Nat)(a:List Int)(b:Value)(r:List Int)(h:F_af n a b=some r):
    C prog 274 [.osl 0 0 a.length 1,.agg (Value.c b)] [.row 5 1 (List.map (Qf .u8) a)] (RQ (λr=>.osl 1 0 r.length 1) (λr=>[.dead,.row 5 1 (List.map (Qf .u8) r)]) r):=by
 refine Qb func274 Z Z Z ?_;refine G0 7 Z (DAs 5 2 [0,0,1,3,3] (by kernel_rfl) (Da 1 Z ?_));refine DA.wo (x:=.rsl 1 (List.map (Qf .u8) [1])) ?_ ?_
 .refine vH (YO (xs:=[.const (.int .u8 1)]) (es:=List.map (Qf .u8) [1]) JF Z Z Z Z Z ⟨Z,trivial⟩ Z Z) ?_;exact FE Z Wp
 obtain⟨i,d,h⟩:=Jy h;refine QbJ (QM (e:=(Qf .u8)) d JF runUnderlying188 Qax) Z Z (Db 1 Z ?_);refine DB.wo2 (x:=I b.N) (Ld isAgg3 Z Wp) (Ld isAgg3 Z Wp) ?_;exact DB.done Z (Cz [] h (k_aq _ _) Z λj f h=>Cd [2] h (k_s _ _ _) Z λk g h=>FE Z (Go 4 Z (Rt h 4 [0,3])))
def F_iu(n:Nat)(c:Value)(rec150:(List Int)->Value->Option (List Int))(a:(List Int)×Int):Option (Ctl ((List Int)×Int) (List Int)):=
  (bif decide (a.2<(c.L.length:Int))then(idx c.L a.2).bind λb=>(bif (b.Kind==0)then none else(bif (b.Kind==1)then(F_af n a.1 b).bind λd=>some (.cont (d,IntKind.i64.wrap (a.2+1)))else(bif (b.Kind==2)then none else(bif (b.Kind==3)then(rec150 a.1 b).bind λe=>some (.cont (e,IntKind.i64.wrap (a.2+1)))else none))))else some (.done a.1))
def B_ag(rec150:(List Int)->Value->Option (List Int))(n:Nat)(c:List Int)(a:Value):Option (List Int):=
  (app c [3]).bind λd=>(F_s n d (IntKind.u64.wrap (a.L.length:Int))).bind λe=>(iter (F_iu n a rec150) n (e,0):Option (List Int)).bind λb=>some b
theorem Qa2(rec150:(List Int)->Value->Option (List Int))(l:∀(g:List Int) (b:Value) (r:List Int),rec150 g b=some r->C prog 278 [.osl 0 0 g.length 1,.agg (Value.c b),.ptr 1 0] [.row 5 1 (List.map (Qf .u8) g),.cells 331 [.ptr 2 0],.cells 374 [.nilf,.fn (.func 274) [] [],.fn (.func 277) [] [],.fn (.func 278) [] [.ptr 1 0]]] (RQ (λr=>.osl 3 0 r.length 1) (λr=>[.dead,.cells 331 [.ptr 2 0],.cells 374 [.nilf,.fn (.func 274) [] [],.fn (.func 277) [] [],.fn (.func 278) [] [.ptr 1 0]],.row 5 1 (List.map (Qf .u8) r)]) r))(n:Nat)(g:List Int)(b:Value)(r:List Int)(h:B_ag rec150 n g b=some r):
    C prog 278 [.osl 0 0 g.length 1,.agg (Value.c b),.ptr 1 0] [.row 5 1 (List.map (Qf .u8) g),.cells 331 [.ptr 2 0],.cells 374 [.nilf,.fn (.func 274) [] [],.fn (.func 277) [] [],.fn (.func 278) [] [.ptr 1 0]]] (RQ (λr=>.osl 3 0 r.length 1) (λr=>[.dead,.cells 331 [.ptr 2 0],.cells 374 [.nilf,.fn (.func 274) [] [],.fn (.func 277) [] [],.fn (.func 278) [] [.ptr 1 0]],.row 5 1 (List.map (Qf .u8) r)]) r):=by
 refine Qb func278 Z Z Z ?_;refine G0 7 Z (DAs 7 2 [0,0,1,3,3,3,3] (by kernel_rfl) (Da 1 Z ?_));refine DA.wo (x:=.rsl 1 (List.map (Qf .u8) [3])) ?_ ?_
 .refine vH (YO (xs:=[.const (.int .u8 3)]) (es:=List.map (Qf .u8) [3]) JF Z Z Z Z Z ⟨Z,trivial⟩ Z Z) ?_;exact FE Z Wp
 obtain⟨P,z,h⟩:=Jy h;refine QbJ (QM (e:=(Qf .u8)) z JF runUnderlying188 Qax) Z Z (Db 1 Z ?_);refine DB.wo2 (x:=.rsl 4 (List.map Value.enc b.L)) (Ld isAgg277 Z Wp) (Ld isAgg277 Z Wp) ?_;refine DB.wo2 (x:=I (b.L.length:Int)) (LnM runUnderlying277 Z Wp) (LnM runUnderlying277 Z Wp) ?_;refine DB.wo2 (x:=.int .u64 (IntKind.u64.wrap (b.L.length:Int))) ?_ ?_ ?_
 .refine vX (.int .u64 (IntKind.u64.wrap (b.L.length:Int))) (Ja Z runUnderlying3 runUnderlying336 Z) ?_;exact Wp
 .refine vX (.int .u64 (IntKind.u64.wrap (b.L.length:Int))) (Ja Z runUnderlying3 runUnderlying336 Z) ?_;exact Wp
 refine DB.done Z (Cd [4] h (k_s _ _ _) Z λQ J h=>FE Z (Go 8 Z (Lm Z (Go 3 Z (Bd h λd B h=>?_)))));refine Ct d [0,1,2,3] [] (λd=>[(0,.osl 3 0 d.length 1)]) (λd=>[(3,.row 5 1 (List.map (Qf .u8) d))]) Zf ?_ (λenv H E=>?_)
 .refine G0 1 Z ?_;refine Lp [0,1,2,5] [2,17,18] (λf=>[(0,.osl 3 0 f.1.length 1),(19,I f.2)]) (λf=>[(3,.row 5 1 (List.map (Qf .u8) f.1))]) B Zf (Lr [0,1,2,5]) λf M a s=>?_;refine G0 6 Z (Jb Z a (λt a=>?_) (λt a=>?_))
  .refine Gc 2 Z (Qy a ?_);obtain rfl:=Oj s a;exact Gx 1 Z (QH (Lr [0,1,2,3]))
  refine Gc 6 Z (Bd a λm u a=>IzE u (QbC m) Z (Go 5 Z (DSs 9 Z (D 4 Z (If a (λw a=>?_) (λw a=>?_))))))
  .cases a
  .refine If a (λp a=>?_) (λp a=>?_)
   .refine DS.v (x:=(.ptr 2 1)) (Q5 (i:=m.Kind) (n:=4) (k:=1) (j:=1) p Z runUnderlying374 sizeOf330 Z) ?_;exact D 4 Z (Eh Z (Cd [3] a (k_af _ _ _) Z λN F a=>FE Z (Go 8 Z (Qv a (Lr [0,1,2,5])))))
   .refine If a (λy a=>?_) (λy a=>?_)
    .cases a
    .refine If a (λq a=>?_) (λq a=>?_)
     .refine DS.v (x:=(.ptr 2 3)) (Q5 (i:=m.Kind) (n:=4) (k:=1) (j:=3) q Z runUnderlying374 sizeOf330 Z) ?_;exact D 4 Z (Eh Z (Cd [3,1,2] a (l _ _) Z λO G a=>FE Z (Go 8 Z (Qv a (Lr [0,1,2,5])))))
     .cases a
 exact Gx 1 Z (Ef E (Gc 7 Z (Rt h 5 [0,1,2,3])))
def F_ag:Nat->(List Int)->Value->Option (List Int)
  |0=>λ_ _=>none
  |n+1=>B_ag (F_ag n) n
theorem k_ag(n:Nat):∀(a:List Int) (b:Value) (r:List Int),F_ag n a b=some r->C prog 278 [.osl 0 0 a.length 1,.agg (Value.c b),.ptr 1 0] [.row 5 1 (List.map (Qf .u8) a),.cells 331 [.ptr 2 0],.cells 374 [.nilf,.fn (.func 274) [] [],.fn (.func 277) [] [],.fn (.func 278) [] [.ptr 1 0]]] (RQ (λr=>.osl 3 0 r.length 1) (λr=>[.dead,.cells 331 [.ptr 2 0],.cells 374 [.nilf,.fn (.func 274) [] [],.fn (.func 277) [] [],.fn (.func 278) [] [.ptr 1 0]],.row 5 1 (List.map (Qf .u8) r)]) r):=by
  induction n with
  |zero=>intro a b r h;cases h
  |succ n ih=>intro a b r h;exact Qa2 _ ih n a b r h
def F_hm(n:Nat)(c:Value)(a:(List Int)×Int):Option (Ctl ((List Int)×Int) (List Int)):=
  (bif decide (a.2<(c.L.length:Int))then(idx c.L a.2).bind λb=>(bif (b.Kind==0)then none else(bif (b.Kind==1)then(F_af n a.1 b).bind λd=>some (.cont (d,IntKind.i64.wrap (a.2+1)))else(bif (b.Kind==2)then none else(bif (b.Kind==3)then(F_ag n a.1 b).bind λe=>some (.cont (e,IntKind.i64.wrap (a.2+1)))else none))))else some (.done a.1))
def F_av(n:Nat)(a:Value):Option (List Int):=
  (app [] [3]).bind λc=>(F_s n c (IntKind.u64.wrap (a.L.length:Int))).bind λd=>(iter (F_hm n a) n (d,0):Option (List Int)).bind λb=>some b
theorem k_av(n:Nat)(f:Value)(r:List Int)(h:F_av n f=some r):
    C prog 278 [.nils,.agg (Value.c f),.ptr 0 0] [.cells 331 [.ptr 1 0],.cells 374 [.nilf,.fn (.func 274) [] [],.fn (.func 277) [] [],.fn (.func 278) [] [.ptr 0 0]]] (RQ (λr=>.osl 2 0 r.length 1) (λr=>[.cells 331 [.ptr 1 0],.cells 374 [.nilf,.fn (.func 274) [] [],.fn (.func 277) [] [],.fn (.func 278) [] [.ptr 0 0]],.row 5 1 (List.map (Qf .u8) r)]) r):=by
 refine Qb func278 Z Z Z ?_;refine G0 7 Z (DAs 7 2 [0,0,1,3,3,3,3] (by kernel_rfl) (Da 1 Z ?_));refine DA.wo (x:=.rsl 1 (List.map (Qf .u8) [3])) ?_ ?_
 .refine vH (YO (xs:=[.const (.int .u8 3)]) (es:=List.map (Qf .u8) [3]) JF Z Z Z Z Z ⟨Z,trivial⟩ Z Z) ?_;exact FE Z Wp
 obtain⟨N,w,h⟩:=Jy h;refine QbJ (Qjo (e:=(Qf .u8)) w JF runUnderlying188 Qax) Z Z (Db 1 Z ?_);refine DB.wo2 (x:=.rsl 4 (List.map Value.enc f.L)) (Ld isAgg277 Z Wp) (Ld isAgg277 Z Wp) ?_;refine DB.wo2 (x:=I (f.L.length:Int)) (LnM runUnderlying277 Z Wp) (LnM runUnderlying277 Z Wp) ?_;refine DB.wo2 (x:=.int .u64 (IntKind.u64.wrap (f.L.length:Int))) ?_ ?_ ?_
 .refine vX (.int .u64 (IntKind.u64.wrap (f.L.length:Int))) (Ja Z runUnderlying3 runUnderlying336 Z) ?_;exact Wp
 .refine vX (.int .u64 (IntKind.u64.wrap (f.L.length:Int))) (Ja Z runUnderlying3 runUnderlying336 Z) ?_;exact Wp
 refine DB.done Z (Cd [3] h (k_s _ _ _) Z λO F h=>FE Z (Go 8 Z (Lm Z (Go 3 Z (Bd h λb y h=>?_)))));refine Ct b [0,1,2] [] (λb=>[(0,.osl 2 0 b.length 1)]) (λb=>[(2,.row 5 1 (List.map (Qf .u8) b))]) Zf ?_ (λenv H z=>?_)
 .refine G0 1 Z ?_;refine Lp [0,1,4] [2,17,18] (λd=>[(0,.osl 2 0 d.1.length 1),(19,I d.2)]) (λd=>[(2,.row 5 1 (List.map (Qf .u8) d.1))]) y Zf (Lr [0,1,4]) λd G a p=>?_;refine G0 6 Z (Jb Z a (λq a=>?_) (λq a=>?_))
  .refine Gc 2 Z (Qy a ?_);obtain rfl:=Oj p a;exact Gx 1 Z (QH (Lr [0,1,2]))
  refine Gc 6 Z (Bd a λg s a=>IzE s (QbC g) Z (Go 5 Z (DSs 9 Z (D 4 Z (If a (λt a=>?_) (λt a=>?_))))))
  .cases a
  .refine If a (λl a=>?_) (λl a=>?_)
   .refine DS.v (x:=(.ptr 1 1)) (Q5 (i:=g.Kind) (n:=4) (k:=1) (j:=1) l Z runUnderlying374 sizeOf330 Z) ?_;exact D 4 Z (Eh Z (Cd [2] a (k_af _ _ _) Z λJ B a=>FE Z (Go 8 Z (Qv a (Lr [0,1,4])))))
   .refine If a (λu a=>?_) (λu a=>?_)
    .cases a
    .refine If a (λm a=>?_) (λm a=>?_)
     .refine DS.v (x:=(.ptr 1 3)) (Q5 (i:=g.Kind) (n:=4) (k:=1) (j:=3) m Z runUnderlying374 sizeOf330 Z) ?_;exact D 4 Z (Eh Z (Cd [2,0,1] a (k_ag _ _ _) Z λM E a=>FE Z (Go 8 Z (Qv a (Lr [0,1,4])))))
     .cases a
 exact Gx 1 Z (Ef z (Gc 7 Z (Rt h 5 [0,1,2])))
def F_eq(n:Nat)(a:Value):Option ((List Int)×Int):=
  (F_ec n a).bind λb=>(bif (b != 0)then some ([],b)else(F_ex n).bind λe=>(bif (a.Kind==0)then none else(bif (a.Kind==1)then(F_hs n a).bind λc=>some (c,0)else(bif (a.Kind==2)then none else(bif (a.Kind==3)then(F_av n a).bind λd=>some (d,0)else none)))))
theorem k_eq(n:Nat)(a:Value)(r:(List Int)×Int)(h:F_eq n a=some r):
    C prog 166 [.agg (Value.c a)] [] (RQ (λr=>.tup [.osl 0 0 r.1.length 1,I r.2]) (λr=>[.row 5 1 (List.map (Qf .u8) r.1)]) r):=by
 refine Qb func166 Z Z Z ?_;refine G0 11 Z (Cz [] h (k_ec _ _) Z λu m h=>Go 9 Z (Cn Z h (λe h=>?_) (λe h=>?_)))
 .refine Gc 9 Z ?_;obtain rfl:=Oi h;refine R2 2 3 Z Z ?_;refine En (Er (s:=2) (k:=1) (t:=5) (XX Z) Z) ?_;exact Lr [1]
 refine Gc 3 Z (DAs 8 0 [1,3,3,2,2,2,2,3] (by kernel_rfl) ?_);obtain⟨w,f,h⟩:=Jy h;refine DA.op (x:=.ptr 1 0) (H1:=[.cells 279 (Value.c a),.cells 374 [.nilf,.fn (.func 274) [] [],.fn (.func 277) [] [],.fn (.func 278) [] [.ptr 2 0]],.cells 331 [.ptr 1 0]]) ?_ ?_
 .refine Qz [] (OpC.fn call226 Z Z Z) (k_ex _ _ f) ?_;rintro _ _ ⟨rfl,rfl⟩;exact FE Z Wp
 refine Db 1 Z ?_;refine DB.wo2 (x:=I a.Kind) (Ld isAgg3 Z Wp) (Ld isAgg3 Z Wp) ?_;refine Db 1 Z (If h (λg h=>?_) (λg h=>?_))
 .cases h
 .refine If h (λb h=>?_) (λb h=>?_)
  .refine DB.wo1 (x:=.ptr 1 1) ?_ ?_
   .refine vX (.ptr 1 1) (Q5 (i:=a.Kind) (n:=4) (k:=1) (j:=1) b Z runUnderlying374 sizeOf330 Z) ?_;exact Wp
   refine Db 2 Z ?_;refine DB.wo2 (x:=.agg (Value.c a)) ?_ ?_ ?_
   .refine vX (.agg (Value.c a)) (Qk Z isAgg279 sizeOf279 Z (Pts.cells Z Z) Z Z) ?_;exact Wp
   .refine vX (.agg (Value.c a)) (Qk Z isAgg279 sizeOf279 Z (Pts.cells Z Z) Z Z) ?_;exact Wp
   refine DB.done Z (Cd [] h (k_hs _ _) Z λy p h=>FE Z (Go 5 Z ?_));obtain rfl:=Oi h;exact R2 2 3 Z Z (Lr [3])
  .refine If h (λl h=>?_) (λl h=>?_)
   .cases h
   .refine If h (λd h=>?_) (λd h=>?_)
    .refine DB.wo1 (x:=.ptr 1 3) ?_ ?_
     .refine vX (.ptr 1 3) (Q5 (i:=a.Kind) (n:=4) (k:=1) (j:=3) d Z runUnderlying374 sizeOf330 Z) ?_;exact Wp
     refine Db 2 Z ?_;refine DB.wo2 (x:=.agg (Value.c a)) ?_ ?_ ?_
     .refine vX (.agg (Value.c a)) (Qk Z isAgg279 sizeOf279 Z (Pts.cells Z Z) Z Z) ?_;exact Wp
     .refine vX (.agg (Value.c a)) (Qk Z isAgg279 sizeOf279 Z (Pts.cells Z Z) Z Z) ?_;exact Wp
     refine DB.done Z (Cd [2,1] h (k_av _ _) Z λz q h=>FE Z (Go 5 Z ?_));obtain rfl:=Oi h;exact R2 2 3 Z Z (Lr [3])
    .cases h
def F_ij(n:Nat)(b:(List Int)×Bool)(a:(List Value)×Int):Option (Ctl ((List Value)×Int) (List Value)):=
  (bif decide (a.2<(b.1.length:Int))then(idx b.1 a.2).bind λc=>(app a.1 [{Kind:=1,N:=c,S:=[],L:=[]:Value}]).bind λd=>some (.cont (d,IntKind.i64.wrap (a.2+1)))else some (.done a.1))
def F_ab(n:Nat)(d:Fact):Option ((List Int)×Int):=
  (F_an n d).bind λb=>(bif (!b.2)then some ([],120)else(iter (F_ij n b) n ([],0):Option (List Value)).bind λc=>(F_eq n ({Kind:=3,N:=0,S:=[],L:=c:Value})).bind λa=>some (a.1,a.2))
theorem k_ab(n:Nat)(q:Fact)(r:(List Int)×Int)(h:F_ab n q=some r):
    C prog 85 [.agg (Fact.c q)] [] (RQ (λr=>.tup [.osl 0 0 r.1.length 1,I r.2]) (λr=>[.row 5 1 (List.map (Qf .u8) r.1)]) r):=by
 refine Qb func85 Z Z Z ?_;refine G0 10 Z (Cd [] h (k_an _ _) Z λG z h=>FE Z (Go 14 Z (Cn Z h (λu h=>?_) (λu h=>?_))))
 .refine Gc 8 Z ?_;obtain rfl:=Oi h;refine R2 2 3 Z Z ?_;refine En (Er (s:=2) (k:=1) (t:=5) (XX Z) Z) ?_;exact Lr [2]
 refine Gc 4 Z ?_;refine vX (.agg [I 3,I 0,.str [],.nils]) (OpV.build (zs:=[I 0,I 0,.str [],.nils]) zeroValue279 (zrC Z) QjL) ?_;refine vH (Qf5 (v:=(.agg [I 0,I 0,.str [],.nils])) zeroValue279 (zrC Z)) ?_;refine FE Z (Go 11 Z (Bd h λd w h=>?_));refine Ct d [0,1] [] (λ_=>[(6,.ptr 0 0)]) (λd=>[(0,.cells 279 [I 3,I 0,.str [],.osl 1 0 d.length 4]),(1,.row 279 4 (List.map Value.enc d))]) Zf ?_ (λenv H x=>?_)
 .refine G0 1 Z ?_;refine Lp [2,0,1] [6,17,18] (λb=>[(19,I b.2)]) (λb=>[(0,.cells 279 [I 3,I 0,.str [],.osl 1 0 b.1.length 4]),(1,.row 279 4 (List.map Value.enc b.1))]) w Zf ?_ ?_
  .refine En (YT (i:=2) (m:=3) (t:=279) (k:=4) Z Z Z) ?_;exact Lr [2,3,1]
  intro b B a j;refine G0 6 Z (Jb Z a (λl a=>?_) (λl a=>?_))
  .refine Gc 2 Z (Qy a ?_);obtain rfl:=Oj j a;exact Gx 1 Z (QH (Lr [0,1]))
  refine Gc 6 Z (Bd a λg f a=>?_);refine vX (.ptr 2 (Int.toNat b.2*1)) (QJ f Z runUnderlying37 sizeOf3) ?_;refine vX (I g) (Ez Z isAgg3 Z (Qq f)) ?_;refine Go 8 Z ?_;refine vH (El (xs:=[.tmp 26]) (es:=List.map Value.enc [{Kind:=1,N:=g,S:=[],L:=[]:Value}]) Qn9 Z Z Z Z Z ⟨Z,trivial⟩ Z Z) ?_;refine FE Z (Bd a λE p a=>?_);refine vH (QM (e:=Value.enc) p Qn9 runUnderlying277 (Y6 (i:=3))) ?_;exact FE Z (Go 9 Z (Qv a (Lr [0,4,2])))
 refine Gx 1 Z (Ef x (Gc 3 Z ?_));refine Et (JI [(31,_)] Z Z (QoK.cons Z (FzA.agg (Ed (Ee _) (Ed (Ee _) (Ed (Ee _) (Ed Ep (Ek _)))))) QoK.nil) (FzH.cells (Ed (Ee _) (Ed (Ee _) (Ed (Ee _) (Ed Ep (Ek _))))) (Ec (YP _)))) ?_;refine Cd [] h (k_eq _ _) Z λF y h=>FE Z (Go 7 Z ?_);obtain rfl:=Oi h;exact R2 2 3 Z Z (Lr [2])
def F_ha(n:Nat)(a:List Int)(b:List Int):Option Unit:=
  some ()
theorem k_ha(n:Nat)(a:List Int)(b:List Int)(r:Unit)(h:F_ha n a b=some r):
    Csm prog 86 [.rsl 1 (List.map (Qf .u8) a),.rsl 1 (List.map (Qf .u8) b)] [] (λ_=>I (cmpB a b)) r:=by
 refine Qb func86 Z Z Z ?_;refine G0 9 Z ?_;refine vX (I (cmpB a b)) (OpV.cmpB (l:=a) (m:=b) func167 (by kernel_rfl) (by kernel_rfl) (by kernel_rfl) (by kernel_rfl) Qmd.rsl Qmd.rsl) ?_;exact Go 4 Z (Rt h 4 [])
def F_w(n:Nat)(a:Fact)(b:Fact):Option Int:=
  (F_o n a.At b.At).bind λf=>(F_o n a.Crew b.Crew).bind λg=>(F_o n a.No b.No).bind λh=>(F_bb n [f,g,h]).bind λc=>(bif (c != 0)then some c else(F_ab n a).bind λd=>(F_ab n b).bind λe=>(F_ha n d.1 e.1).bind λi=>some (cmpB d.1 e.1))
theorem k_w(n:Nat)(a:Fact)(b:Fact)(r:Int)(h:F_w n a b=some r):
    Csm prog 44 [.agg (Fact.c a),.agg (Fact.c b)] [] (λr=>I r) r:=by
 refine Qb func44 Z Z Z ?_;refine G0 9 Z (DSs 14 Z (D 4 Z ?_));refine Dz [] h (k_o _ _ _) Z λe i h=>D 4 Z ?_;refine Dz [] h (k_o _ _ _) Z λf j h=>D 4 Z (Eh Z (Cz [] h (k_o _ _ _) Z λg k h=>?_));refine vH (YO (xs:=[.tmp 14,.tmp 19,.tmp 24]) (es:=List.map (Qf .i64) [e,f,g]) Q2 Z Z Z Z Z ⟨Z,Z,Z,trivial⟩ Z Z) ?_;refine FE Z (Cz [] h (k_bb _ _) Z λs l h=>Go 9 Z (Cn Z h (λd h=>?_) (λd h=>?_)))
 .exact Gc 8 Z (Rt h 4 [])
 exact Gc 5 Z (Cd [] h (k_ab _ _) Z λt m h=>FE Z (Go 10 Z (Cd [] h (k_ab _ _) Z λu p h=>FE Z (Go 11 Z (Cb h (k_ha _ _ _) Z (lo (lo ln)) λw q h=>Go 4 Z (Rt h 4 []))))))
def F_ao(n:Nat)(a:Fact)(b:Fact):Option Bool:=
  (F_w n a b).bind λc=>some (c==0)
theorem k_ao(n:Nat)(a:Fact)(b:Fact)(r:Bool)(h:F_ao n a b=some r):
    Csm prog 181 [.agg (Fact.c a),.agg (Fact.c b),.ptr 0 0] [.cells 118 [.fn (.func 44) [] []]] (λr=>.bool r) r:=by
 refine Qb func181 Z Z Z ?_;exact G0 12 Z (Cz [] h (k_w _ _ _) Z λe d h=>Go 5 Z (Rt h 5 [0]))
def F_ey(n:Nat)(d:List Fact)(b:Int)(a:(List Fact)×Int×Int):Option (Ctl ((List Fact)×Int×Int) ((List Fact)×Int)):=
  (bif decide (a.2.2<((Int.toNat (d.length:Int)-Int.toNat b:Nat):Int))then(Qhz a.1 b (d.length:Int) a.2.2).bind λe=>(Qhz a.1 b (d.length:Int) (IntKind.i64.wrap (a.2.2-1))).bind λf=>(F_ao n e f).bind λg=>((bif (!g)then(Qhz a.1 b (d.length:Int) a.2.2).bind λh=>(idx a.1 a.2.1).bind λj=>(QbN a.1 a.2.1 h).bind λi=>some (i,IntKind.i64.wrap (a.2.1+1))else some (a.1,a.2.1)):Option ((List Fact)×Int)).bind λc=>some (.cont (c.1,c.2,IntKind.i64.wrap (a.2.2+1)))else some (.done (a.1,a.2.1)))
def F_gv(n:Nat)(b:List Fact)(a:Int):Option (Ctl Int (Ctl Unit (List Fact))):=
  (bif decide (a<(b.length:Int))then(idx b a).bind λd=>(idx b (IntKind.i64.wrap (a-1))).bind λe=>(F_ao n d e).bind λf=>(bif f then(slc b a (b.length:Int)).bind λh=>(iter (F_ey n b a) n (b,a,1):Option ((List Fact)×Int)).bind λc=>(slc c.1 0 c.2).bind λg=>some (.done (.done g))else some (.cont (IntKind.i64.wrap (a+1))))else some (.done (.cont ())))
def F_ce(n:Nat)(b:List Fact):Option (List Fact):=
  (bif decide ((b.length:Int)<2)then some b else(iter (F_gv n b) n 1:Option (Ctl Unit (List Fact))).bind λc=>match c with|.cont a=>(some b)|.done a=>some a)
theorem k_ce(n:Nat)(q:List Fact)(r:List Fact)(h:F_ce n q=some r):
    C prog 180 [.osl 0 0 q.length 57,.fn (.func 181) [] [.ptr 1 0]] [.row 83 57 (List.map Fact.c q),.cells 118 [.fn (.func 44) [] []]] (RQ (λr=>.osl 0 0 r.length 57) (λr=>[.row 83 57 (List.map Fact.c r),.cells 118 [.fn (.func 44) [] []]]) r):=by
 refine Qb func180 Z Z Z ?_;refine G0 13 Z (Cn Z h (λae h=>?_) (λae h=>?_))
 .exact Gc 8 Z (Rt h 4 [0,1])
 refine Gc 8 Z (Bd h λT V h=>?_);refine CtE (b:=T) [0,1] [0] Ze Ze Zf ?_ (λag env H af w=>?_)
 .refine G0 1 Z ?_;refine Lp [0,1] [0,1] (λg=>[(5,I g)]) Ze V Zf (Lr [0,1]) λg aj a y=>?_;refine G0 9 Z (Jb Z a (λM a=>?_) (λM a=>?_))
  .refine Gc 2 Z (Qy a ?_);obtain rfl:=Oj y a;exact Gx 1 Z (QL Z (Lr [0,1]))
  refine Gc 5 Z (DSs 10 Z (D 3 Z ?_));obtain⟨W,z,a⟩:=Jy a;refine DS.v (x:=(.ptr 0 (Int.toNat g*57))) (QJ z Z runUnderlying34 sizeOf83) ?_;refine DS.v (x:=(.agg (Fact.c W))) (Qk Z isAgg83 sizeOf83 Z (Qq z) Z Z) ?_;refine D 3 Z ?_;obtain⟨X,B,a⟩:=Jy a;refine DS.v (x:=(.ptr 0 (Int.toNat (IntKind.i64.wrap (g-1))*57))) (QJ B Z runUnderlying34 sizeOf83) ?_;refine DS.v (x:=(.agg (Fact.c X))) (Qk Z isAgg83 sizeOf83 Z (Qq B) Z Z) ?_;refine Eh Z (Cz [1] a (k_ao _ _ _) Z λak ah a=>Go 2 Z (Cn Z a (λN a=>?_) (λN a=>?_)))
  .refine Gc 4 Z (Bd a λal O a=>?_);refine vX (.osl 0 (0+Int.toNat g) (Int.toNat (q.length:Int)-Int.toNat g) 57) (QdV (l:=q) O runUnderlying34 sizeOf83 (.inr ⟨_,Z,Z⟩) (.inl ⟨Z,Z⟩)) ?_;refine Go 9 Z (Bd a λj Y a=>?_);refine Ct j [0,1] [] (λj=>[(0,.osl 0 0 j.1.length 57),(5,I j.2)]) (λj=>[(0,.row 83 57 (List.map Fact.c j.1))]) Zf ?_ (λenv H w=>?_)
   .refine G0 1 Z ?_;refine Lp [0,1] [1,6] (λi=>[(0,.osl 0 0 i.1.length 57),(5,I i.2.1),(7,I i.2.2)]) (λi=>[(0,.row 83 57 (List.map Fact.c i.1))]) Y Zf (Lr [0,1]) λi am d P=>?_;refine G0 5 Z ?_;refine vX (I ((Int.toNat (q.length:Int)-Int.toNat g:Nat):Int)) (Qjm Z Z runUnderlying34 Z) ?_;refine Go 3 Z (Jb Z d (λQ d=>?_) (λQ d=>?_))
    .refine Gc 2 Z (Qy d ?_);obtain rfl:=Oj P d;exact Gx 1 Z (QH (Lr [0,1]))
    refine Gc 5 Z (DSs 10 Z (D 3 Z ?_));obtain⟨aa,E,d⟩:=Jy d;refine DS.v (x:=(.ptr 0 (Int.toNat (g+i.2.2)*57))) (Qf1 (l:=i.1) (lo:=g) (hi:=(q.length:Int)) E runUnderlying34 sizeOf83) ?_;refine DS.v (x:=(.agg (Fact.c aa))) (Qk Z isAgg83 sizeOf83 Z (Qq (Qhy E)) Z Z) ?_;refine D 3 Z ?_;obtain⟨ab,F,d⟩:=Jy d;refine DS.v (x:=(.ptr 0 (Int.toNat (g+IntKind.i64.wrap (i.2.2-1))*57))) (Qf1 (l:=i.1) (lo:=g) (hi:=(q.length:Int)) F runUnderlying34 sizeOf83) ?_;refine DS.v (x:=(.agg (Fact.c ab))) (Qk Z isAgg83 sizeOf83 Z (Qq (Qhy F)) Z Z) ?_;refine Eh Z (Cz [1] d (k_ao _ _ _) Z λan ai d=>Go 3 Z (Bd d λp m d=>?_));refine Ct p [0,1] [1,6,7] (λp=>[(0,.osl 0 0 p.1.length 57),(5,I p.2)]) (λp=>[(0,.row 83 57 (List.map Fact.c p.1))]) Zf ?_ (λenv H w=>?_)
    .refine G0 0 Z (Cn Z m (λR m=>?_) (λR m=>?_))
     .refine Gc 6 Z (Bd m λac G m=>?_);refine vX (.ptr 0 (Int.toNat (g+i.2.2)*57)) (Qf1 (l:=i.1) (lo:=g) (hi:=(q.length:Int)) G runUnderlying34 sizeOf83) ?_;refine vX (.agg (Fact.c ac)) (Qk Z isAgg83 sizeOf83 Z (Qq (Qhy G)) Z Z) ?_;refine Bd m λao J m=>?_;refine vX (.ptr 0 (Int.toNat i.2.1*57)) (QJ J Z runUnderlying34 sizeOf83) ?_;refine Bd m λaq t m=>?_;refine vU (JH (e:=Fact.c) (k:=57) (f:=0) J t sizeOf83 Z Z) ?_;refine FE Z ?_;refine Et (Qo (s:=0) Z (congrArg (λn=>A.osl 0 0 n 57) (YB t))) ?_;refine Et (Qo (s:=50) Z (congrArg (λn=>A.osl 0 0 n 57) (YB t))) ?_;exact Go 7 Z (Cl m [0,1])
     exact Gc 1 Z (Cl m [0,1])
    exact Gx 2 Z (Ef w (Gc 5 Z (Qv d (Lr [0,1]))))
   refine Gx 1 Z (Ef w (Gc 4 Z (Bd a λL u a=>?_)));refine vX (.osl 0 (0+Int.toNat j.2) (j.1.length-Int.toNat j.2) 57) (Qkq (l:=j.1) u runUnderlying34 sizeOf83) ?_;refine vN (Qku (e:=Fact.c) (l:=j.1) u underlying34 zeroValue83 Z (by simp[Qp,Go.Value.cells])) ?_;refine QfT (H:=[.row 83 57 (List.map Fact.c L),.cells 118 [.fn (.func 44) [] []]]) Z ?_;refine Go 6 Z ?_;refine vX (.osl 0 0 L.length 57) (Qkr (l:=j.1) u runUnderlying34 sizeOf83) ?_;refine Go 6 Z (Yx a ?_);obtain rfl:=Oj y a;exact Gx 1 Z (Q9 (Gx 1 Z (Rt h 4 [0,1])))
  exact Gc 8 Z (Qv a (Lr [0,1]))
 subst af;exact Gx 1 Z (Ef w (Gc 7 Z (Rt h 4 [0,1])))
def F_cf(n:Nat)(a:List Fact):Option (List Fact):=
  (F_gt n a).bind λb=>(QbQ (λx y=>F_w n x y) b).bind λc=>(F_ce n c).bind λd=>some d
theorem k_cf(n:Nat)(b:List Fact)(r:List Fact)(h:F_cf n b=some r):
    C prog 96 [.rsl 57 (List.map Fact.c b),.fn (.func 44) [] []] [] (RQ (λr=>.osl 0 0 r.length 57) (λr=>[.row 83 57 (List.map Fact.c r)]) r):=by
 refine Qb func96 Z Z Z ?_;refine G0 9 Z (Cd [] h (k_gt _ _) Z λf d h=>FE Z (Go 7 Z (Bd h λg a h=>?_)));refine Qz [1] (OpC.fn call179 Z Z Z) (QpO (enc:=Fact.c) Qgc a (λx y c h=>k_w n x y c h) isAgg83 sizeOf83 call44 Zf Z) ?_;rintro _ _ ⟨rfl,rfl⟩;refine FE Z ?_;refine Et (Qo (s:=0) Z (congrArg (λn=>A.osl 1 0 n 57) (QaK a))) ?_;refine Et (Qo (s:=6) Z (congrArg (λn=>A.osl 1 0 n 57) (QaK a))) ?_;refine Et (Qo (s:=7) Z (congrArg (λn=>A.osl 1 0 n 57) (QaK a))) ?_;exact Go 6 Z (Cd [1,0] h (k_ce _ _) Z λi e h=>FE Z (Go 4 Z (Rt h 4 [1])))
def F_gu(n:Nat)(a:List Ue):Option (List Ue):=
  isNil a (some []) ((app ([]:List Ue) a).bind λb=>some b)
theorem k_gu(n:Nat)(a:List Ue)(r:List Ue)(h:F_gu n a=some r):
    C prog 182 [.rsl 1 (List.map Ue.ptr a)] [] (RQ (λr=>.osl 0 0 r.length 1) (λr=>[.row 129 1 (List.map Ue.ptr r)]) r):=by
 refine Qb func182 Z Z Z ?_;refine G0 9 Z ?_;refine Qje (e:=Ue.ptr) (l:=a) underlying127 Z (λb1 b=>?_);have hkb1:=QiA h b1 b;cases b1
 .have h:=hkb1.2 Z;refine Go 7 Z ?_;refine vH (El (xs:=[]) (es:=List.map Ue.ptr []) QhP Z Z Z Z Z trivial Z Z) ?_;refine FE Z (Go 1 Z (Bd h λd c h=>?_));refine vH (QM (e:=Ue.ptr) c QhP runUnderlying127 Qax) ?_;exact FE Z (Go 4 Z (Rt h 2 [1]))
 .have h:=hkb1.1 Z;refine Go 10 Z ?_;obtain rfl:=Oi h;refine R1 2 Z ?_;refine En (Er (s:=2) (k:=1) (t:=129) (XX Z) Z) ?_;exact Lr [0]
def F_ae(n:Nat)(a:Ue)(b:Ue):Option Int:=
  (F_o n a.number b.number).bind λc=>some c
theorem k_ae(n:Nat)(a:Ue)(b:Ue)(r:Int)(h:F_ae n a b=some r):
    Csm prog 98 [.rp (Ue.c a),.rp (Ue.c b)] [] (λr=>I r) r:=by
 refine Qb func98 Z Z Z ?_;refine G0 6 Z (DSs 8 Z (D 2 Z ?_));refine DS.wo (x:=.rp [I a.number,.rsl 57 (List.map Fact.c a.r0),.rsl 57 (List.map Fact.c a.r1),.rsl 57 (List.map Fact.c a.r2),.rsl 4 (List.map Report.c a.reports),.bool a.appeal]) ?_ ?_
 .exact Fr QiP Z Wp
 refine D 3 Z ?_;refine DS.wo (x:=.rp [I b.number,.rsl 57 (List.map Fact.c b.r0),.rsl 57 (List.map Fact.c b.r1),.rsl 57 (List.map Fact.c b.r2),.rsl 4 (List.map Report.c b.reports),.bool b.appeal]) ?_ ?_
 .exact Fr QiP Z Wp
 exact D 1 Z (Eh Z (Cz [] h (k_o _ _ _) Z λe d h=>Go 4 Z (Rt h 4 [])))
def F_ak(n:Nat)(a:Ue)(b:Ue):Option Bool:=
  (F_ae n a b).bind λc=>some (c==0)
theorem k_ak(n:Nat)(a:Ue)(b:Ue)(r:Bool)(h:F_ak n a b=some r):
    Csm prog 185 [.rp (Ue.c a),.rp (Ue.c b),.ptr 0 0] [.cells 215 [.fn (.func 98) [] []]] (λr=>.bool r) r:=by
 refine Qb func185 Z Z Z ?_;exact G0 10 Z (Cz [] h (k_ae _ _ _) Z λe d h=>Go 5 Z (Rt h 5 [0]))
def F_ji(n:Nat)(b:List Ue)(a:Int):Option (Ctl Int Unit):=
  (bif decide (a<(b.length:Int))then(idx b a).bind λc=>(idx b (IntKind.i64.wrap (a-1))).bind λd=>(F_ak n c d).bind λe=>((bif (!e)then none else some ()):Option Unit).bind λf=>some (.cont (IntKind.i64.wrap (a+1)))else some (.done ()))
def F_ih(n:Nat)(b:List Ue)(a:Int):Option (Ctl Int Unit):=
  (bif decide (a<(b.length:Int))then(idx b a).bind λc=>(idx b (IntKind.i64.wrap (a-1))).bind λd=>(F_ak n c d).bind λe=>(bif e then(slc b a (b.length:Int)).bind λf=>(iter (F_ji n f) n 1:Option Unit).bind λg=>none else some (.cont (IntKind.i64.wrap (a+1))))else some (.done ()))
def F_dk(n:Nat)(a:List Ue):Option Unit:=
  (bif decide ((a.length:Int)<2)then some ()else(iter (F_ih n a) n 1:Option Unit).bind λb=>some ())
theorem k_dk(n:Nat)(y:List Ue)(r:Unit)(h:F_dk n y=some r):
    Csm prog 184 [.rsl 1 (List.map Ue.ptr y),.fn (.func 185) [] [.ptr 0 0]] [.cells 215 [.fn (.func 98) [] []]] (λ_=>.rsl 1 (List.map Ue.ptr y)) r:=by
 refine Qb func184 Z Z Z ?_;refine G0 9 Z (Lm Z (Go 3 Z (Cn Z h (λP h=>?_) (λP h=>?_))))
 .exact Gc 8 Z (Rt h 4 [0])
 refine Gc 8 Z (Bd h λz B h=>?_);refine Ct z [0] [0] Ze Ze Zf ?_ (λenv H e=>?_)
 .refine G0 1 Z ?_;refine Lp [0] [0,1] (λf=>[(5,I f)]) Ze B Zf (Lr [0]) λf T a i=>?_;refine G0 5 Z (Lm Z (Go 3 Z (Jb Z a (λj a=>?_) (λj a=>?_))))
  .refine Gc 2 Z (Qy a ?_);obtain rfl:=Oj i a;exact Gx 1 Z (QH (Lr [0]))
  refine Gc 5 Z (DSs 10 Z (D 3 Z ?_));obtain⟨E,k,a⟩:=Jy a;refine DS.wo (x:=.rp [.rp (Ue.c E)]) ?_ ?_
  .exact Ix k runUnderlying127 sizeOf129 Z Wp
  refine D 4 Z ?_;obtain⟨F,l,a⟩:=Jy a;refine DS.wo (x:=.rp [.rp (Ue.c F)]) ?_ ?_
  .exact Ix l runUnderlying127 sizeOf129 Z Wp
  refine D 1 Z (Eh Z (Cz [0] a (k_ak _ _ _) Z λV Q a=>Go 2 Z (Cn Z a (λm a=>?_) (λm a=>?_))))
  .refine Gc 4 Z (Bd a λG p a=>?_);refine vX (.rsl 1 (List.map Ue.ptr G)) (QoD p runUnderlying127 sizeOf129 (.inr ⟨_,Z,Z⟩) (.inl ⟨Z,Z⟩)) ?_;refine Go 9 Z (Bd a λJ L a=>?_);refine Ct J [0] [0,5] Ze Ze Zf ?_ (λenv H e=>?_)
   .refine G0 1 Z ?_;refine Lp [0] [0,1,5,6] (λg=>[(7,I g)]) Ze L Zf (Lr [0]) λg W b q=>?_;refine G0 5 Z (Lm Z (Go 3 Z (Jb Z b (λs b=>?_) (λs b=>?_))))
    .refine Gc 2 Z (Qy b ?_);obtain rfl:=Oj q b;exact Gx 1 Z (QH (Lr [0]))
    refine Gc 5 Z (DSs 10 Z (D 3 Z ?_));obtain⟨M,t,b⟩:=Jy b;refine DS.wo (x:=.rp [.rp (Ue.c M)]) ?_ ?_
    .exact Ix t runUnderlying127 sizeOf129 Z Wp
    refine D 4 Z ?_;obtain⟨N,u,b⟩:=Jy b;refine DS.wo (x:=.rp [.rp (Ue.c N)]) ?_ ?_
    .exact Ix u runUnderlying127 sizeOf129 Z Wp
    refine D 1 Z (Eh Z (Cz [0] b (k_ak _ _ _) Z λX R b=>Go 3 Z (Bd b λO d b=>?_)));refine Ct O [0] [0,1,5,6,7] Ze Ze Zf ?_ (λenv H e=>?_)
    .refine G0 0 Z (Cn Z d (λw d=>?_) (λw d=>?_))
     .refine Gc 1 Z ?_;cases d
     exact Gc 1 Z (Cl d [0])
    exact Gx 2 Z (Ef e (Gc 5 Z (Qv b (Lr [0]))))
   refine Gx 1 Z (Ef e (Gc 1 Z ?_));cases a
  exact Gc 8 Z (Qv a (Lr [0]))
 exact Gx 1 Z (Ef e (Gc 7 Z (Rt h 4 [0])))
def F_cr(n:Nat)(b:List Ue):Option (List Ue):=
  (F_gu n b).bind λc=>(QbQ (λx y=>F_ae n x y) c).bind λa=>(F_dk n a).bind λd=>some a
theorem k_cr(n:Nat)(b:List Ue)(r:List Ue)(h:F_cr n b=some r):
    Csm prog 97 [.rsl 1 (List.map Ue.ptr b),.fn (.func 98) [] []] [] (λr=>.rsl 1 (List.map Ue.ptr r)) r:=by
 refine Qb func97 Z Z Z ?_;refine G0 9 Z (Cd [] h (k_gu _ _) Z λf d h=>FE Z (Go 7 Z (Bd h λg a h=>?_)));refine Qz [1] (OpC.fn call183 Z Z Z) (QpP (ea:=λx=>.rp (Ue.c x)) Qgb a (λx y c h=>k_ae n x y c h) isAgg129 sizeOf129 call98 Z) ?_;rintro _ _ ⟨rfl,rfl⟩;refine FE Z ?_;refine Et (Qo (s:=0) Z (congrArg (λn=>A.osl 1 0 n 1) (QaK a))) ?_;refine Et (Qo (s:=6) Z (congrArg (λn=>A.osl 1 0 n 1) (QaK a))) ?_;refine Et (Qo (s:=7) Z (congrArg (λn=>A.osl 1 0 n 1) (QaK a))) ?_;refine Go 6 Z ?_;refine Et (JI [(0,_),(6,_),(7,_),(10,_)] Z Z (QoK.cons Z Ep (QoK.cons Z Ep (QoK.cons Z Ep (QoK.cons Z Ep QoK.nil)))) (Ec (Ec (YP _)))) ?_;exact Cd [0] h (k_dk _ _) Z λi e h=>FE Z (Go 4 Z (Rt h 4 []))
def ToldE(env:Env):Env->Prop
  |[]=>True
  |p::r=>lk env p.1=p.2/\ToldE env r
theorem QpL{h0:Nat}{env env':Env}{H:Qd}(h:ToldE env env'):Le h0 env H env' H:=by
  refine Le.env λs=>?_
  induction env' with
  |nil=>exact .inl Z
  |cons p r ih=>
    obtain⟨a,b⟩:=h;show lk (p::r) s=_\/_;by_cases q:s=p.1
    · refine .inr ?_
      subst q;simp only[lk,VL];exact a.symm
    · have e:Nat.beq s p.1=false:=by
        cases z:Nat.beq s p.1 with
        |true=>exact absurd (XW z) q
        |false=>rfl
      simp only[lk,e];exact ih b
section
variable {P:Program} {N m n:Nat} {bs ds ds':List Nat} {cat:Kat} {l:List Oper} {env:Env} {Hs:List Qd} {X:Qd} {K:List Oper->Env->Qd->Prop} {r:List Oper} {xs xs':List A} {x:A}
theorem DK.ad(h:QcN xs x=.mk xs')(k:DK P N m bs cat l ds env n K Hs X r xs'):DK P N m bs cat l ds env n K Hs X r (xs++[x]):=by
  rw[Jf]at h;cases h;exact k
theorem QoV(h:ds=ds')(k:DK P N m bs cat l ds' env n K Hs X r xs):DK P N m bs cat l ds env n K Hs X r xs:=h▸k
end
abbrev ekI:Int->A:=λn=>I n
def preF(bk:Qa0 Fact Report):Qd:=[.cells 211 [.map 1],.mapP (Qi ekI Qep (YR bk))]
abbrev nC(k:Int):Blk:=.cells 132 [I k,.nils,.nils,.nils,.nils,.bool false]
theorem fx_2:QG prog 132 2 4 1:=FA runUnderlying132 rfl sizeOf87
theorem fx_3:QG prog 132 3 5 1:=FA runUnderlying132 rfl sizeOf4
theorem Qp0:QV prog 87 73 4:=⟨runUnderlying87,sizeOf73,⟨_,zeroValue73,rfl⟩,⟨_,typeInfo73,by decide⟩⟩
theorem QjS(k:Int)(bk:Qa0 Fact Report)(G:Qd)(hB:YA Ue.K 2 (preF bk++G) bk):
    C prog 95 [I k,.ptr 0 0] (preF bk++G) (λa H'=>∃l e r G',a=.ptr e.2.b 0/\H'=preF (l++e::r)++G'/\YA Ue.K 2 H' (l++e::r)/\e.1.number=k/\(l++e::r).map (·.1)=Qah (bk.map (·.1)) k):=by
  refine Qb func95 Z Z Z ?_;refine TC.seq (TC.region (vV (OpV.assign Z Z) (WO.nil ?_)));refine TC.seq (TC.seq (TC.region ?_));refine vV (x:=.map 1) (Ez Z isAgg211 Z (Pts.cells Z Z)) ?_;refine vV (x:=I k) (OpV.move Z Z) ?_;have hlen:(preF bk++G).length=G.length+2:=by simp[preF]
  rcases QdP bk k with⟨d,c⟩|⟨l,e,r,rfl,c,n,f⟩
  · refine vV (x:=.nilp) (Qkp (ek:=ekI) (ev:=Qep) (k:=k) (l:=YR bk) YQ d underlying211 zeroValue129) ?_
    refine vV (x:=.bool true) (Qjk runUnderlying129 Z) (WO.nil ?_);refine Qjh Z Z (TC.region ?_);refine vV (x:=.map 1) (Ez Z isAgg211 Z (Pts.cells Z Z)) ?_;refine vV (x:=I k) (OpV.move Z Z) ?_;refine vV (x:=I k) (OpV.move Z Z) ?_;refine vV (x:=.agg [I k,.nils,.nils,.nils,.nils,.bool false]) (OpV.build (zs:=[I 0,.nils,.nils,.nils,.nils,.bool false]) zeroValue132 (zrC Z) QqB) ?_;refine Y5 (x:=.ptr (preF bk++G).length 0) (H':=(preF bk++G)++[nC k]) (XZ _) Z Z Z (OpH.box (v:=.agg [I k,.nils,.nils,.nils,.nils,.bool false]) (cs:=[I k,.nils,.nils,.nils,.nils,.bool false]) Z Z Z Z Z) ?_;have m:preF (bk++[(Qat k,Qa1 (preF bk++G).length)])++(G++[nC k])=List.set (preF bk++G++[nC k]) 1 (.mapP (Qi ekI Qep (YR bk++[(k,(preF bk++G).length)]))):=by
      unfold preF;rw[Ql7];simp[YR,Qat,Qa1]
    refine QbB (H':=preF (bk++[(Qat k,Qa1 (preF bk++G).length)])++(G++[nC k])) (by simp) Z Z ?_ ?_
    · rw[m]
      refine Qmq (ek:=ekI) (ev:=Qep) (k:=k) (l:=YR bk) (v:=(preF bk++G).length) (i:=1) (x:=.tmp 8) (y:=.tmp 9) (zz:=.tmp 12) (T:=211) YQ d underlying211 ?_ ?_ ?_ ?_ ?_<;>rfl
    refine WO.nil ?_;have g:∀env,Le (preF bk++G).length env (preF (bk++[(Qat k,Qa1 (preF bk++G).length)])++(G++[nC k])) env (preF (bk++[(Qat k,Qa1 (preF bk++G).length)])++(G++Qcf Ue.K (preF bk++G).length k)):=λenv=>by
      have:=Qkx Ue.K (h0:=(preF bk++G).length) (env:=env) (H:=preF (bk++[(Qat k,Qa1 (preF bk++G).length)])++G) (k:=k) (by simp[preF]);rw[Vp,Vp,show(preF (bk++[(Qat k,Qa1 (preF bk++G).length)])++G).length=(preF bk++G).length by simp[preF]]at this;exact this
    refine Ef (g _) ?_;have hB1:YA Ue.K 2 (preF (bk++[(Qat k,Qa1 (preF bk++G).length)])++G) bk:=hB.keep λj h p=>by
      rw[XT (by simpa[preF]using h),XT (by simpa[preF]using h)];rfl
    have hB2:=hB1.new (k:=k) c (by simp[preF]);rw[Vp,show(preF (bk++[(Qat k,Qa1 (preF bk++G).length)])++G).length=(preF bk++G).length by simp[preF]]at hB2;have hg:YF (YR (bk++[(Qat k,Qa1 (preF bk++G).length)])) k=some (preF bk++G).length:=by
      rcases QdP (bk++[(Qat k,Qa1 (preF bk++G).length)]) k with⟨g1,g2⟩|⟨l,e,r,g1,g2,g3,g4⟩
      · exact absurd Z (g2 (Qat k,Qa1 (preF bk++G).length) (by simp))
      · rw[g4]
        have hm:e∈bk++[(Qat k,Qa1 (preF bk++G).length)]:=by rw[g1];simp
        rcases VJ.1 hm with q|q
        · exact absurd g2 (c e q)
        · rw[VH.1 q];rfl
    refine TC.seq (TC.region ?_);refine vV (x:=.map 1) (Ez Z isAgg211 Z (Pts.cells Z Z)) ?_;refine vV (x:=I k) (OpV.move Z Z) ?_;refine vV (x:=.ptr (preF bk++G).length 0) (QcP (ek:=ekI) (ev:=Qep) (k:=k) (l:=YR (bk++[(Qat k,Qa1 (preF bk++G).length)])) YQ hg underlying211) ?_;refine vV (OpV.assign Z Z) (WO.nil ?_);refine TC.ret ⟨_,_,.ptr (preF bk++G).length 0,Le.refl _ _ _,Qcy.one Z Z,?_⟩;refine⟨bk,(Qat k,Qa1 (preF bk++G).length),[],_,Z,Z,hB2,Z,?_⟩;rw[Qb2 (λx hx q=>by obtain⟨e,he,rfl⟩:=Xe.1 hx;exact c e he q)];simp
  · refine vV (x:=.ptr e.2.b 0) (QcP (ek:=ekI) (ev:=Qep) (k:=k) (l:=YR (l++e::r)) YQ f underlying211) ?_
    refine vV (x:=.bool false) (Qjj runUnderlying129 Z) (WO.nil ?_);refine QfU Z Z (TC.skip ?_);refine TC.seq (TC.region ?_);refine vV (x:=.map 1) (Ez Z isAgg211 Z (Pts.cells Z Z)) ?_;refine vV (x:=I k) (OpV.move Z Z) ?_;refine vV (x:=.ptr e.2.b 0) (QcP (ek:=ekI) (ev:=Qep) (k:=k) (l:=YR (l++e::r)) YQ f underlying211) ?_;refine vV (OpV.assign Z Z) (WO.nil ?_);refine TC.ret ⟨_,_,.ptr e.2.b 0,Le.refl _ _ _,Qcy.one Z Z,?_⟩;refine⟨l,e,r,G,Z,Z,hB,c,?_⟩;rw[Qc8 ⟨e.1,by simp,c⟩]
def filesAdd(fs:List Ue)(k inst:Int)(f:Fact):Option (List Ue):=
  bif inst==0 then some (Qbp fs k λx=>{x with r0:=x.r0++[f]})else bif inst==1 then some (Qbp fs k λx=>{x with r1:=x.r1++[f]})else bif inst==2 then some (Qbp fs k λx=>{x with r2:=x.r2++[f]})else none
def filesStep(fs:List Ue)(f:Fact):Option (List Ue):=
  bif f.Kind==10 then(bif Qd3 (Qah fs f.Ruling.Case)then filesAdd (Qah fs f.Ruling.Case) f.Ruling.Case f.Ruling.Instance f else none)
  else bif f.Kind==8 then(bif Qd3 (Qah fs f.Report.Case)then some (Qbp (Qah fs f.Report.Case) f.Report.Case λx=>{x with reports:=x.reports++[f.Report]})else none)
  else bif f.Kind==11 then(bif f.Appeal.Suspends then some (Qbp (Qah fs f.Appeal.Case) f.Appeal.Case λx=>{x with appeal:=true})else some fs)else some fs
def filesL(n:Nat)(l:List Fact)(s:List Ue×Int):Option (Ctl (List Ue×Int) (List Ue)):=
  bif decide (s.2<(l.length:Int))then(idx l s.2).bind λf=>(filesStep s.1 f).bind λfs=>some (.cont (fs,IntKind.i64.wrap (s.2+1)))else some (.done s.1)
def filesE(l:List Fact)(i:Int):Env:=[(6,.ptr 0 0),(7,.fn (.func 95) [] [.ptr 0 0]),(32,.rsl 57 (List.map Fact.c l)),(33,I l.length),(34,I i)]
def filesI(l:List Fact)(s:List Ue×Int)(env:Env)(H:Qd):Prop:=(lk env 6=.ptr 0 0/\lk env 7=.fn (.func 95) [] [.ptr 0 0]/\lk env 32=.rsl 57 (List.map Fact.c l)/\lk env 33=I l.length/\lk env 34=I s.2)/\ ∃bk G,H=preF bk++G/\YA Ue.K 2 H bk/\bk.map (·.1)=s.1
def filesJ(l:List Fact)(fs:List Ue)(i:Int):QB:=λx env H=>x=.normal/\(lk env 6=.ptr 0 0/\lk env 7=.fn (.func 95) [] [.ptr 0 0]/\lk env 32=.rsl 57 (List.map Fact.c l)/\lk env 33=I l.length/\lk env 34=I i)/\ ∃bk G,H=preF bk++G/\YA Ue.K 2 H bk/\bk.map (·.1)=fs
theorem QgK{l:List Fact}{i:Int}{env:Env}{H:Qd}{h0:Nat}(h:lk env 6=.ptr 0 0/\lk env 7=.fn (.func 95) [] [.ptr 0 0]/\lk env 32=.rsl 57 (List.map Fact.c l)/\lk env 33=I l.length/\lk env 34=I i):Le h0 env H (filesE l i) H:=by
  obtain⟨m,n,p,q,r⟩:=h;refine Le.env λk=>?_;by_cases a:k=6
  · subst a;exact .inr m.symm
  by_cases b:k=7
  · subst b;exact .inr n.symm
  by_cases d:k=32
  · subst d;exact .inr p.symm
  by_cases f:k=33
  · subst f;exact .inr q.symm
  by_cases g:k=34
  · subst g;exact .inr r.symm
  have e:∀j:Nat,k≠j->Nat.beq k j=false:=λj hj=>by
    cases z:Nat.beq k j with
    |true=>exact absurd (XW z) hj
    |false=>rfl
  left;unfold filesE;simp only[lk,e _ a,e _ b,e _ d,e _ f,e _ g];rfl
theorem QgC:∀(l:List Nat) (H:Qd),(QbZ H l).length=H.length
  |[],H=>rfl
  |i::l,H=>by unfold QbZ;rw[QgC l,X9]
theorem QqS{bk:Qa0 Fact Report}{G:Qd}{env:Env}(hB:YA Ue.K 2 (preF bk++G) bk)(he:lk env 6=.ptr 0 0):
    Le 0 env (preF bk++G) [(6,.ptr 0 0)] [.cells 211 [.map 1],.fmap (Qi ekI (rpE Ue.K) (Qet (bk.map (·.1))))]:=by
  refine En (QoH Ue.K (m:=1) hB Z Z) ?_;have hl:(QbZ (preF bk++G) (Qcx bk)).length=G.length+2:=by rw[QgC];simp[preF]
  have hn:∀i,i<2->i∉Qcx bk:=λi hi q=>by have:=(hB.all.2 i q).1;omega
  have c:((QbZ (preF bk++G) (Qcx bk)).set 1 (.fmap (Qi ekI (rpE Ue.K) (Qet (bk.map (·.1))))))[0]?=some (.cells 211 [.map 1]):=by
    rw[XV (by omega),QgD (hn 0 (by omega))];rfl
  have d:((QbZ (preF bk++G) (Qcx bk)).set 1 (.fmap (Qi ekI (rpE Ue.K) (Qet (bk.map (·.1))))))[1]?=some (.fmap (Qi ekI (rpE Ue.K) (Qet (bk.map (·.1))))):=by
    rw[Xa (by rw[hl];omega)]
  refine QoJ 2 (X0 _) (by rw[X9,hl];omega) ?_ ⟨he,trivial⟩;exact congr (congrArg (λa b=>[a,b]) c.symm) d.symm
theorem QnL{H:Qd}{bk:Qa0 Fact Report}(h0:H[0]?=some (.cells 211 [.map 1]))(c:H[1]?=some (.mapP (Qi ekI Qep (YR bk)))):H=preF bk++H.drop 2:=by
  match H,h0,c with
  |a::b::G,h0,c=>
    simp at h0 c;subst h0 c;rfl
theorem QfA{l r:Qa0 Fact Report}{e:Fil Fact Report×Pl}{x':Fil Fact Report}{p':Pl}{H:Qd}{fs:List Ue}{k:Int}{g:Fil Fact Report->Fil Fact Report}(hB:YA Ue.K 2 H (l++e::r))(hek:e.1.number=k)(hbk:(l++e::r).map (·.1)=Qah fs k)(hx:g e.1=x'):(l++(x',p')::r).map (·.1)=Qbp (Qah fs k) k g:=by
  rw[<- hbk,Xf,Xf,Vq,Vq,QoZ (by have:=hB.num;simpa[Function.comp_def]using this) hek,hx]
theorem QqT{l r:Qa0 Fact Report}{e:Fil Fact Report×Pl}{G:Qd}(hB:YA Ue.K 2 (preF (l++e::r)++G) (l++e::r)):
    ∃G',(preF (l++e::r)++G).set e.2.b (.cells 132 (Q4 Ue.K e.2 {e.1 with appeal:=true}))=preF (l++({e.1 with appeal:=true},e.2)::r)++G'/\YA Ue.K 2 ((preF (l++e::r)++G).set e.2.b (.cells 132 (Q4 Ue.K e.2 {e.1 with appeal:=true}))) (l++({e.1 with appeal:=true},e.2)::r):=by
  have hb:2<=e.2.b:=hB.lo e (by simp) _ (by simp[Pl.ix]);have hl:=hB.laid e (by simp);have hlt:=hl.lt e.2.b (by simp[Pl.ix]);have ho:=hB.own e (by simp);simp only[Pl.ix,List.nodup_cons,Vc,List.not_mem_nil,or_false,not_or]at ho;obtain⟨⟨n0,n1,n2,n3⟩,_⟩:=ho;refine⟨_,QnL ?_ ?_,hB.upd ⟨?_,?_,?_,?_,?_⟩ Z ?_ (λi hi=>.inl hi) (hB.own e (by simp)) (by simp[preF])⟩
  · rw[XV (by omega)];rfl
  · rw[XV (by omega)];simp[preF,YR]
  · rw[Xa hlt]
  · rw[XV n0];exact hl.r0
  · rw[XV n1];exact hl.r1
  · rw[XV n2];exact hl.r2
  · rw[XV n3];exact hl.r3
  · intro j _ _ q
    rw[XV (λz=>q (by rw[<- z];simp[Pl.ix]))]
theorem QnM{β:Type}{c:Bool}{x:Option β}{y:β}(h:(bif c then x else none)=some y):c=true/\x=some y:=by
  cases c with
  |true=>exact⟨Z,h⟩
  |false=>cases h
theorem QhI{β:Type}{l:List β}{x:β}(h:l.length+1<=Qt):app l [x]=some (l++[x]):=by
  unfold app;simp[XY h]
theorem QhH{l r:Qa0 Fact Report}{e:Fil Fact Report×Pl}{G:Qd}{x':Fil Fact Report}{p':Pl}{i:Nat}{y:Blk}(hB:YA Ue.K 2 (preF (l++e::r)++G) (l++e::r))(hi:i∈e.2.ix)(hib:i≠e.2.b)(hn:x'.number=e.1.number)(hb:p'.b=e.2.b)
    (hp:p'.ix=e.2.ix.map λj=>bif Nat.beq j i then(preF (l++e::r)++G).length else j)
    (hrows:∀H':Qd,(∀j,j∈e.2.ix->j≠i->j≠e.2.b->H'[j]?=(preF (l++e::r)++G)[j]?)->H'[(preF (l++e::r)++G).length]?=some y->
      H'[p'.i0]?=some (.row Ue.K.tF Ue.K.kF (x'.r0.map Ue.K.eF))/\H'[p'.i1]?=some (.row Ue.K.tF Ue.K.kF (x'.r1.map Ue.K.eF))/\H'[p'.i2]?=some (.row Ue.K.tF Ue.K.kF (x'.r2.map Ue.K.eF))/\H'[p'.i3]?=some (.row Ue.K.tR Ue.K.kR (x'.reports.map Ue.K.eR))):
    ((preF (l++e::r)++G).set i .dead++[y])[e.2.b]?=some (.cells 132 (Q4 Ue.K e.2 e.1))/\ ∃G2,((preF (l++e::r)++G).set i .dead++[y]).set e.2.b (.cells 132 (Q4 Ue.K p' x'))=preF (l++(x',p')::r)++G2/\
      YA Ue.K 2 (((preF (l++e::r)++G).set i .dead++[y]).set e.2.b (.cells 132 (Q4 Ue.K p' x'))) (l++(x',p')::r):=by
  have hl:=hB.laid e (by simp);have hlt:=hl.lt;have hbl:=hlt e.2.b (by simp[Pl.ix]);have g:2<=e.2.b:=hB.lo e (by simp) _ (by simp[Pl.ix]);have hi2:2<=i:=hB.lo e (by simp) _ hi;have hlow:∀j,j<2->(((preF (l++e::r)++G).set i .dead++[y]).set e.2.b (.cells 132 (Q4 Ue.K p' x')))[j]?=(preF (l++e::r)++G)[j]? :=λj hj=>by
    rw[XV (by omega),XS (by simp[preF];omega),XV (by omega)]
  have hr:=hrows (((preF (l++e::r)++G).set i .dead++[y]).set e.2.b (.cells 132 (Q4 Ue.K p' x'))) (λj a d f=>by
    rw[XV (λq=>f q.symm),XS (by rw[X9];exact hlt j a),XV (λq=>d q.symm)]) (by
    rw[XV (by omega),XT (by rw[X9];exact XZ _),X9,Nat.sub_self];rfl)
  obtain⟨h0,a,d,f⟩:=hr;refine⟨?_,_,QnL ?_ ?_,hB.row (by simp[preF]) hn hi hib hb Z hp h0 a d f⟩
  · rw[XS (by rw[X9];exact hbl),XV hib];exact hl.c
  · rw[hlow 0 (by omega)];rfl
  · rw[hlow 1 (by omega),Ql6 hn hb];rfl
theorem nbF{a b:Nat}(h:a≠b):Nat.beq a b=false:=by
  cases z:Nat.beq a b with
  |true=>exact absurd (XW z) h
  |false=>rfl
theorem Qpi{l r:Qa0 Fact Report}{e:Fil Fact Report×Pl}{G:Qd}(rs:List Report)(hB:YA Ue.K 2 (preF (l++e::r)++G) (l++e::r)):
    ((preF (l++e::r)++G).set e.2.i3 .dead++[Blk.row 73 4 (List.map Report.c rs)])[e.2.b]?=some (.cells 132 (Q4 Ue.K e.2 e.1))/\ ∃G2,((preF (l++e::r)++G).set e.2.i3 .dead++[Blk.row 73 4 (List.map Report.c rs)]).set e.2.b (.cells 132 (Q4 Ue.K {e.2 with i3:=(preF (l++e::r)++G).length} {e.1 with reports:=rs}))=preF (l++({e.1 with reports:=rs},{e.2 with i3:=(preF (l++e::r)++G).length})::r)++G2/\
      YA Ue.K 2 (((preF (l++e::r)++G).set e.2.i3 .dead++[Blk.row 73 4 (List.map Report.c rs)]).set e.2.b (.cells 132 (Q4 Ue.K {e.2 with i3:=(preF (l++e::r)++G).length} {e.1 with reports:=rs}))) (l++({e.1 with reports:=rs},{e.2 with i3:=(preF (l++e::r)++G).length})::r):=by
  have hl:=hB.laid e (by simp);have ho:=hB.own e (by simp);simp only[Pl.ix,List.nodup_cons,Vc,List.not_mem_nil,or_false,not_or]at ho;obtain⟨⟨f,b1,b2,a⟩,⟨n1,n2,n3⟩,⟨m2,d⟩,k3,_⟩:=ho;refine QhH (x':={e.1 with reports:=rs}) (p':={e.2 with i3:=(preF (l++e::r)++G).length}) hB (by simp[Pl.ix]) (λq=>a q.symm) Z Z ?_ (λH' hk hn=>⟨?_,?_,?_,hn⟩)
  · simp only[Pl.ix,Vq,Vr,nbF a,nbF n3,nbF d,nbF k3,VL,Vv,Vw]
  · exact(hk e.2.i0 (by simp[Pl.ix]) n3 (λq=>f q.symm)).trans hl.r0
  · exact(hk e.2.i1 (by simp[Pl.ix]) d (λq=>b1 q.symm)).trans hl.r1
  · exact(hk e.2.i2 (by simp[Pl.ix]) k3 (λq=>b2 q.symm)).trans hl.r2
theorem Qpl{l r:Qa0 Fact Report}{e:Fil Fact Report×Pl}{G:Qd}(rs:List Fact)(hB:YA Ue.K 2 (preF (l++e::r)++G) (l++e::r)):
    ((preF (l++e::r)++G).set e.2.i0 .dead++[Blk.row 83 57 (List.map Fact.c rs)])[e.2.b]?=some (.cells 132 (Q4 Ue.K e.2 e.1))/\ ∃G2,((preF (l++e::r)++G).set e.2.i0 .dead++[Blk.row 83 57 (List.map Fact.c rs)]).set e.2.b (.cells 132 (Q4 Ue.K {e.2 with i0:=(preF (l++e::r)++G).length} {e.1 with r0:=rs}))=preF (l++({e.1 with r0:=rs},{e.2 with i0:=(preF (l++e::r)++G).length})::r)++G2/\
      YA Ue.K 2 (((preF (l++e::r)++G).set e.2.i0 .dead++[Blk.row 83 57 (List.map Fact.c rs)]).set e.2.b (.cells 132 (Q4 Ue.K {e.2 with i0:=(preF (l++e::r)++G).length} {e.1 with r0:=rs}))) (l++({e.1 with r0:=rs},{e.2 with i0:=(preF (l++e::r)++G).length})::r):=by
  have hl:=hB.laid e (by simp);have ho:=hB.own e (by simp);simp only[Pl.ix,List.nodup_cons,Vc,List.not_mem_nil,or_false,not_or]at ho;obtain⟨⟨a,b1,b2,d⟩,⟨n1,n2,n3⟩,⟨m2,f⟩,k3,_⟩:=ho;refine QhH (x':={e.1 with r0:=rs}) (p':={e.2 with i0:=(preF (l++e::r)++G).length}) hB (by simp[Pl.ix]) (λq=>a q.symm) Z Z ?_ (λH' hk hn=>⟨hn,?_,?_,?_⟩)
  · simp only[Pl.ix,Vq,Vr,nbF a,nbF (show e.2.i1≠e.2.i0 from λq=>n1 q.symm),nbF (show e.2.i2≠e.2.i0 from λq=>n2 q.symm),nbF (show e.2.i3≠e.2.i0 from λq=>n3 q.symm),VL,Vv,Vw]
  · exact(hk e.2.i1 (by simp[Pl.ix]) (λq=>n1 q.symm) (λq=>b1 q.symm)).trans hl.r1
  · exact(hk e.2.i2 (by simp[Pl.ix]) (λq=>n2 q.symm) (λq=>b2 q.symm)).trans hl.r2
  · exact(hk e.2.i3 (by simp[Pl.ix]) (λq=>n3 q.symm) (λq=>d q.symm)).trans hl.r3
theorem Qpk{l r:Qa0 Fact Report}{e:Fil Fact Report×Pl}{G:Qd}(rs:List Fact)(hB:YA Ue.K 2 (preF (l++e::r)++G) (l++e::r)):
    ((preF (l++e::r)++G).set e.2.i1 .dead++[Blk.row 83 57 (List.map Fact.c rs)])[e.2.b]?=some (.cells 132 (Q4 Ue.K e.2 e.1))/\ ∃G2,((preF (l++e::r)++G).set e.2.i1 .dead++[Blk.row 83 57 (List.map Fact.c rs)]).set e.2.b (.cells 132 (Q4 Ue.K {e.2 with i1:=(preF (l++e::r)++G).length} {e.1 with r1:=rs}))=preF (l++({e.1 with r1:=rs},{e.2 with i1:=(preF (l++e::r)++G).length})::r)++G2/\
      YA Ue.K 2 (((preF (l++e::r)++G).set e.2.i1 .dead++[Blk.row 83 57 (List.map Fact.c rs)]).set e.2.b (.cells 132 (Q4 Ue.K {e.2 with i1:=(preF (l++e::r)++G).length} {e.1 with r1:=rs}))) (l++({e.1 with r1:=rs},{e.2 with i1:=(preF (l++e::r)++G).length})::r):=by
  have hl:=hB.laid e (by simp);have ho:=hB.own e (by simp);simp only[Pl.ix,List.nodup_cons,Vc,List.not_mem_nil,or_false,not_or]at ho;obtain⟨⟨d,b1,b2,f⟩,⟨n1,n2,n3⟩,⟨m2,a⟩,k3,_⟩:=ho;refine QhH (x':={e.1 with r1:=rs}) (p':={e.2 with i1:=(preF (l++e::r)++G).length}) hB (by simp[Pl.ix]) (λq=>b1 q.symm) Z Z ?_ (λH' hk hn=>⟨?_,hn,?_,?_⟩)
  · simp only[Pl.ix,Vq,Vr,nbF b1,nbF n1,nbF (show e.2.i2≠e.2.i1 from λq=>m2 q.symm),nbF (show e.2.i3≠e.2.i1 from λq=>a q.symm),VL,Vv,Vw]
  · exact(hk e.2.i0 (by simp[Pl.ix]) n1 (λq=>d q.symm)).trans hl.r0
  · exact(hk e.2.i2 (by simp[Pl.ix]) (λq=>m2 q.symm) (λq=>b2 q.symm)).trans hl.r2
  · exact(hk e.2.i3 (by simp[Pl.ix]) (λq=>a q.symm) (λq=>f q.symm)).trans hl.r3
theorem Qpj{l r:Qa0 Fact Report}{e:Fil Fact Report×Pl}{G:Qd}(rs:List Fact)(hB:YA Ue.K 2 (preF (l++e::r)++G) (l++e::r)):
    ((preF (l++e::r)++G).set e.2.i2 .dead++[Blk.row 83 57 (List.map Fact.c rs)])[e.2.b]?=some (.cells 132 (Q4 Ue.K e.2 e.1))/\ ∃G2,((preF (l++e::r)++G).set e.2.i2 .dead++[Blk.row 83 57 (List.map Fact.c rs)]).set e.2.b (.cells 132 (Q4 Ue.K {e.2 with i2:=(preF (l++e::r)++G).length} {e.1 with r2:=rs}))=preF (l++({e.1 with r2:=rs},{e.2 with i2:=(preF (l++e::r)++G).length})::r)++G2/\
      YA Ue.K 2 (((preF (l++e::r)++G).set e.2.i2 .dead++[Blk.row 83 57 (List.map Fact.c rs)]).set e.2.b (.cells 132 (Q4 Ue.K {e.2 with i2:=(preF (l++e::r)++G).length} {e.1 with r2:=rs}))) (l++({e.1 with r2:=rs},{e.2 with i2:=(preF (l++e::r)++G).length})::r):=by
  have hl:=hB.laid e (by simp);have ho:=hB.own e (by simp);simp only[Pl.ix,List.nodup_cons,Vc,List.not_mem_nil,or_false,not_or]at ho;obtain⟨⟨a,b1,b2,d⟩,⟨n1,n2,n3⟩,⟨m2,f⟩,k3,_⟩:=ho;refine QhH (x':={e.1 with r2:=rs}) (p':={e.2 with i2:=(preF (l++e::r)++G).length}) hB (by simp[Pl.ix]) (λq=>b2 q.symm) Z Z ?_ (λH' hk hn=>⟨?_,?_,hn,?_⟩)
  · simp only[Pl.ix,Vq,Vr,nbF b2,nbF n2,nbF m2,nbF (show e.2.i3≠e.2.i2 from λq=>k3 q.symm),VL,Vv,Vw]
  · exact(hk e.2.i0 (by simp[Pl.ix]) n2 (λq=>a q.symm)).trans hl.r0
  · exact(hk e.2.i1 (by simp[Pl.ix]) m2 (λq=>b1 q.symm)).trans hl.r1
  · exact(hk e.2.i3 (by simp[Pl.ix]) (λq=>k3 q.symm) (λq=>d q.symm)).trans hl.r3
def F_hx(n:Nat)(c:List Fact)(a:(List Fact)×Int):Option (Ctl ((List Fact)×Int) (List Fact)):=
  (bif decide (a.2<(c.length:Int))then(idx c a.2).bind λb=>(F_ad n b).bind λd=>((bif (d==0)then(app a.1 [b]).bind λe=>some e else some a.1):Option (List Fact)).bind λf=>some (.cont (f,IntKind.i64.wrap (a.2+1)))else some (.done a.1))
def F_hl(n:Nat)(a:List Ue)(b:Int×Ue):Option (Ctl (List Ue) (List Ue)):=
  (app a [b.2]).bind λc=>some (.cont c)
def F_ig(n:Nat)(a:List Ue):Option (List Ue):=
  some a
def F_z(n:Nat)(f:List Fact):Option (List Ue):=
  (iter (F_hx n f) n ([],0):Option (List Fact)).bind λa=>(F_cf n a).bind λb=>(iter (filesL n b) n (([]:List Ue),0):Option (List Ue)).bind λc=>anyP (λp77=>(QeY (F_hl n) (F_ig n) [] p77).bind λd=>(F_cr n d).bind λe=>some e) (Qet c)
theorem k_z(n:Nat)(a1:List Fact)(r:List Ue)(h:F_z n a1=some r):
    Csm prog 48 [.rsl 57 (List.map Fact.c a1)] [] (λr=>.rsl 1 (List.map Ue.ptr r)) r:=by
 refine Qb func48 Z Z Z ?_;refine G0 14 Z (Lm Z (Go 3 Z (Bd h λz ae h=>?_)));refine Ct z [0] [] (λz=>[(3,.osl 0 0 z.length 57)]) (λz=>[(0,.row 83 57 (List.map Fact.c z))]) Zf ?_ (λenv H q=>?_)
 .refine G0 1 Z ?_;refine Lp [0] [15,16] (λB=>[(3,.osl 0 0 B.1.length 57),(17,I B.2)]) (λB=>[(0,.row 83 57 (List.map Fact.c B.1))]) ae Zf ?_ ?_
  .refine En (Er (s:=3) (k:=57) (t:=83) (XX Z) Z) ?_;exact Lr [0]
  intro B au a V;refine G0 6 Z (Jb Z a (λW a=>?_) (λW a=>?_))
  .refine Gc 2 Z (Qy a ?_);obtain rfl:=Oj V a;exact Gx 1 Z (QH (Lr [0]))
  refine Gc 6 Z (Bd a λaf Y a=>Iz Y Z (Go 8 Z (Cz [] a (k_ad _ _) Z λav ao a=>Go 3 Z (Bd a λE u a=>?_))));refine Ct E [0] [15,16,17] (λE=>[(3,.osl 0 0 E.length 57)]) (λE=>[(0,.row 83 57 (List.map Fact.c E))]) Zf ?_ (λenv H q=>?_)
  .refine G0 0 Z (Cn Z u (λaa u=>?_) (λaa u=>?_))
   .refine Gc 3 Z ?_;refine vH (El (xs:=[.tmp 25]) (es:=List.map Fact.c [af]) Qaq Z Z Z Z Z ⟨Z,trivial⟩ Z Z) ?_;refine FE Z (Bd u λaw ab u=>?_);refine vH (QM (e:=Fact.c) ab Qaq runUnderlying34 (Y6 (i:=2))) ?_;exact FE Z (Go 2 Z (Cl u [3]))
   exact Gc 1 Z (Cl u [0])
  exact Gx 2 Z (Ef q (Gc 4 Z (Qv a (Lr [0]))))
 refine Gx 1 Z (Ef q (Gc 2 Z ?_));refine vH Qkt ?_;refine FE Z (Go 14 Z ?_);refine Et (JI [(3,_),(31,_)] Z Z (QoK.cons Z Ep (QoK.cons Z Ep QoK.nil)) (Ec (YP _))) ?_;refine Cd [] h (k_cf _ _) Z λw aq h=>FE Z (Go 4 Z ?_);refine Ef (JI [(32,_)] Z Z (QoK.cons Z Ep QoK.nil) (Ec (Ec (Ec (Ec (YP _)))))) ?_;refine Bd h λag ah h=>?_;refine TC.cut [(6,.ptr 0 0)] [.cells 211 [.map 1],.fmap (Qi (λx=>A.int .i64 x) (rpE Ue.K) (Qet ag))] ?_ (λenv H q=>?_)
 .refine TC.block (Ef (env':=filesE w 0) (H':=preF []) (Lr [2,1]) ?_);refine Qjg (I:=filesI w) ?_ ah ⟨⟨Z,Z,Z,Z,Z⟩,[],[],Z,YA.nil,Z⟩;rintro s d env H ⟨he,bk,G,rfl,hB,hfs⟩ hs hd;refine Ef (QgK he) ?_;refine TC.seq (TC.region (vV (x:=.bool (decide (s.2<(w.length:Int)))) (OpV.lss Z Z Z) (WO.nil ?_)));refine TC.seq ?_;unfold filesL at hs;refine TC.cond (x:=.tmp 35) (t:=decide (s.2<(w.length:Int))) Z (λht=>TC.skip ?_) (λht=>TC.exit ?_)
  · rw[ht,Vv]at hs
    obtain⟨f,hf,hs⟩:=Jy hs;obtain⟨fs,hst,hs⟩:=Jy hs;cases hs;refine TC.seq (TC.mono (Q:=filesJ w fs s.2) (TC.block (TC.seq (TC.region ?_))) ?_)
    rotate_left
    · rintro x env H ⟨rfl,he,bk',G',rfl,hB',hfs'⟩
      refine Ef (QgK he) (TC.region ?_);refine vV (x:=I (IntKind.i64.wrap (s.2+1))) (OpV.add Z Z Z) ?_;refine vV (x:=I (IntKind.i64.wrap (s.2+1))) (OpV.move Z Z) (WO.nil ?_);exact⟨_,Z,⟨Z,Z,Z,Z,Z⟩,bk',G',Z,hB',hfs'⟩
    refine vV (x:=.rp (Fact.c f)) (Qlm (e:=Fact.c) hf runUnderlying34 sizeOf83) ?_;refine vV (x:=.agg (Fact.c f)) (Qk Z isAgg83 sizeOf83 Z Pts.rp Z Z) ?_;refine Ql9 (v:=.agg (Fact.c Up)) (cs:=Fact.c f) zeroValue83 (zrC Z) sizeOf83 (WO.nil ?_);refine TC.seq (TC.region ?_);refine vV (Qx Qpm Z Z Z) ?_;refine vV (x:=I f.Kind) (Ez Z isAgg3 Z Pts.rp) (WO.nil ?_);refine TC.block (TC.seq (TC.region ?_));refine vV (x:=.bool (f.Kind==10)) (OpV.eql Z Z Z) ?_;refine vV (OpV.assign Z Z) (WO.nil ?_);unfold filesStep at hst;refine TC.cond (t:=f.Kind==10) Z (λL=>?_) (λL=>?_)
    · rw[L,Vv]at hst
      obtain⟨hroom,hst⟩:=QnM hst;refine TC.seq (TC.region ?_);refine vV (OpV.move Z Z) ?_;refine vV (Qx QaR Z Z Z) ?_;refine vV (Qx Qpp Z Z Z) ?_;refine vV (x:=I f.Ruling.Case) (Ez Z isAgg3 Z Pts.rp) ?_;refine QcO (QaJ call95 Z Z Z Z) (QjS f.Ruling.Case bk G hB) ?_ (X0 _);rintro _ _ ⟨l,e,r,G',rfl,rfl,hB',hek,hbk⟩;refine vV (OpV.assign Z Z) (WO.nil ?_);refine Ef (QpL (env':=[(6,.ptr 0 0),(7,.fn (.func 95) [] [.ptr 0 0]),(32,.rsl 57 (List.map Fact.c w)),(33,I w.length),(34,I s.2),(9,.rp (Fact.c f)),(10,.ptr e.2.b 0)]) ⟨Z,Z,Z,Z,Z,Z,Z,trivial⟩) ?_;have hl:=hB'.laid e (by simp);have hrm:=Qik (l:=l.map (·.1)) (r:=r.map (·.1)) (x:=e.1) (by rw[<- Vq, <- Xf,hbk,hfs];exact hroom);unfold filesAdd at hst;refine If hst (λhi hst=>?_) (λhi0 hst=>If hst (λhi hst=>?_) (λhi1 hst=>If hst (λhi hst=>?_) (λhi2 hst=>by cases hst)))
      ·
        cases hst;have happ:app e.1.r0 [f]=some (e.1.r0++[f]):=QhI hrm.1;refine DKs 18 [14] [(0,0,1),(0,0,1),(0,0,1),(0,0,1),(0,0,0),(0,0,0),(0,0,0),(0,0,0),(0,0,0),(0,0,0),(0,0,0),(0,0,0),(0,0,0),(0,0,0),(1,0,0),(0,0,1),(0,0,1),(0,0,1)] (by kernel_rfl) ?_;refine QoV (ds':=[47,48,49,50,51,52,53,54,55,56,57,58,59,60,61,62,63,64]) Z ?_;refine DK.wa (x:=.ptr e.2.b 0) (λX=>vV (OpV.move Z Z) Wp) ?_;refine DK.ad Z ?_;refine DK.wa (x:=.rp ((Fact.c f).drop 47)) (λX=>vV (Qx QaR Z Z Z) Wp) ?_;refine DK.ad Z ?_;refine DK.wa (x:=.rp ((Fact.c f).drop 48)) (λX=>vV (Qx Qcj Z Z Z) Wp) ?_;refine DK.ad Z ?_;refine DK.wa (x:=I f.Ruling.Instance) (λX=>vV (Ez Z isAgg3 Z Pts.rp) Wp) ?_;refine DK.ad Z ?_;refine DK.wo (x:=.ptr e.2.b 0) (vV (OpV.move Z Z) Wp) ?_;refine DK.ad Z ?_;refine DK.wo (x:=.rp ((Fact.c f).drop 47)) (vV (Qx QaR Z Z Z) Wp) ?_;refine DK.ad Z ?_;refine DK.wo (x:=.rp ((Fact.c f).drop 48)) (vV (Qx Qcj Z Z Z) Wp) ?_;refine DK.ad Z ?_;refine DK.wo (x:=I f.Ruling.Instance) (vV (Ez Z isAgg3 Z Pts.rp) Wp) ?_;refine DK.ad Z ?_;refine DK.wo (x:=.ptr e.2.b 0) (vV (YC Z) Wp) ?_;refine DK.ad Z ?_;refine DK.wo (x:=.ptr e.2.b 1) (vV (Yw JE Z Z) Wp) ?_;refine DK.ad Z ?_;refine DK.wo (x:=.ptr e.2.b 1) (vV (Q5 (n:=3) (k:=1) (j:=0) hi Z runUnderlying130 sizeOf34 Z) Wp) ?_;refine DK.ad Z ?_;refine DK.wo (x:=.osl e.2.i0 0 e.1.r0.length 57) (vV (Ez Z isAgg34 Z (Pts.cells hl.c Z)) Wp) ?_;refine DK.ad Z ?_;refine DK.wo (x:=.agg (Fact.c f)) (vV (Qk Z isAgg83 sizeOf83 Z Pts.rp Z Z) Wp) ?_;refine DK.ad Z ?_;refine DK.wo (x:=.rsl 57 (List.map Fact.c [f])) (Y5 (XZ _) Z Z Z (YO (xs:=[.tmp 59]) (es:=List.map Fact.c [f]) Qaq Z Z Z Z Z ⟨Z,trivial⟩ Z Z) Wp) ?_;refine DK.ad Z ?_;refine DK.op (x:=.osl (preF (l++e::r)++G').length 0 (e.1.r0++[f]).length 57) (Y5 (XZ _) Z Z Z (QM (e:=Fact.c) (l:=e.1.r0) (m:=[f]) happ Qaq runUnderlying34 Qax (hH:=hl.r0)) Wp) ?_ (hl:=by simp);refine DK.ad Z ?_;refine DK.wa (x:=.ptr e.2.b 0) (λX=>vV (YC Z) Wp) ?_;refine DK.ad Z ?_;refine DK.wa (x:=.ptr e.2.b 1) (λX=>vV (Yw JE Z Z) Wp) ?_;refine DK.ad Z ?_;refine DK.wa (x:=.ptr e.2.b 1) (λX=>vV (Q5 (n:=3) (k:=1) (j:=0) hi Z runUnderlying130 sizeOf34 Z) Wp) ?_;refine DK.ad Z ?_;refine DK.done Z Z ?_;obtain⟨y,G2,hG,hB2⟩:=Qpl (e.1.r0++[f]) hB';refine QbB (X0 _) Z Z (Ey (i:=e.2.b) (off:=1) (n:=1) (v:=.osl (preF (l++e::r)++G').length 0 (e.1.r0++[f]).length 57) (vs:=[.osl (preF (l++e::r)++G').length 0 (e.1.r0++[f]).length 57]) (cs:=Q4 Ue.K e.2 e.1) (cs':=Q4 Ue.K {e.2 with i0:=(preF (l++e::r)++G').length} {e.1 with r0:=e.1.r0++[f]}) Z Z y sizeOf34 Z Z Z Z Z Z Z) (WO.nil ?_);exact⟨Z,⟨Z,Z,Z,Z,Z⟩,l++({e.1 with r0:=e.1.r0++[f]},{e.2 with i0:=(preF (l++e::r)++G').length})::r,G2,hG,hB2,QfA hB' hek (by rw[hbk,hfs]) Z⟩
      ·
        cases hst;have happ:app e.1.r1 [f]=some (e.1.r1++[f]):=QhI hrm.2.1;refine DKs 18 [14] [(0,0,1),(0,0,1),(0,0,1),(0,0,1),(0,0,0),(0,0,0),(0,0,0),(0,0,0),(0,0,0),(0,0,0),(0,0,0),(0,0,0),(0,0,0),(0,0,0),(1,0,0),(0,0,1),(0,0,1),(0,0,1)] (by kernel_rfl) ?_;refine QoV (ds':=[47,48,49,50,51,52,53,54,55,56,57,58,59,60,61,62,63,64]) Z ?_;refine DK.wa (x:=.ptr e.2.b 0) (λX=>vV (OpV.move Z Z) Wp) ?_;refine DK.ad Z ?_;refine DK.wa (x:=.rp ((Fact.c f).drop 47)) (λX=>vV (Qx QaR Z Z Z) Wp) ?_;refine DK.ad Z ?_;refine DK.wa (x:=.rp ((Fact.c f).drop 48)) (λX=>vV (Qx Qcj Z Z Z) Wp) ?_;refine DK.ad Z ?_;refine DK.wa (x:=I f.Ruling.Instance) (λX=>vV (Ez Z isAgg3 Z Pts.rp) Wp) ?_;refine DK.ad Z ?_;refine DK.wo (x:=.ptr e.2.b 0) (vV (OpV.move Z Z) Wp) ?_;refine DK.ad Z ?_;refine DK.wo (x:=.rp ((Fact.c f).drop 47)) (vV (Qx QaR Z Z Z) Wp) ?_;refine DK.ad Z ?_;refine DK.wo (x:=.rp ((Fact.c f).drop 48)) (vV (Qx Qcj Z Z Z) Wp) ?_;refine DK.ad Z ?_;refine DK.wo (x:=I f.Ruling.Instance) (vV (Ez Z isAgg3 Z Pts.rp) Wp) ?_;refine DK.ad Z ?_;refine DK.wo (x:=.ptr e.2.b 0) (vV (YC Z) Wp) ?_;refine DK.ad Z ?_;refine DK.wo (x:=.ptr e.2.b 1) (vV (Yw JE Z Z) Wp) ?_;refine DK.ad Z ?_;refine DK.wo (x:=.ptr e.2.b 2) (vV (Q5 (n:=3) (k:=1) (j:=1) hi Z runUnderlying130 sizeOf34 Z) Wp) ?_;refine DK.ad Z ?_;refine DK.wo (x:=.osl e.2.i1 0 e.1.r1.length 57) (vV (Ez Z isAgg34 Z (Pts.cells hl.c Z)) Wp) ?_;refine DK.ad Z ?_;refine DK.wo (x:=.agg (Fact.c f)) (vV (Qk Z isAgg83 sizeOf83 Z Pts.rp Z Z) Wp) ?_;refine DK.ad Z ?_;refine DK.wo (x:=.rsl 57 (List.map Fact.c [f])) (Y5 (XZ _) Z Z Z (YO (xs:=[.tmp 59]) (es:=List.map Fact.c [f]) Qaq Z Z Z Z Z ⟨Z,trivial⟩ Z Z) Wp) ?_;refine DK.ad Z ?_;refine DK.op (x:=.osl (preF (l++e::r)++G').length 0 (e.1.r1++[f]).length 57) (Y5 (XZ _) Z Z Z (QM (e:=Fact.c) (l:=e.1.r1) (m:=[f]) happ Qaq runUnderlying34 Qax (hH:=hl.r1)) Wp) ?_ (hl:=by simp);refine DK.ad Z ?_;refine DK.wa (x:=.ptr e.2.b 0) (λX=>vV (YC Z) Wp) ?_;refine DK.ad Z ?_;refine DK.wa (x:=.ptr e.2.b 1) (λX=>vV (Yw JE Z Z) Wp) ?_;refine DK.ad Z ?_;refine DK.wa (x:=.ptr e.2.b 2) (λX=>vV (Q5 (n:=3) (k:=1) (j:=1) hi Z runUnderlying130 sizeOf34 Z) Wp) ?_;refine DK.ad Z ?_;refine DK.done Z Z ?_;obtain⟨y,G2,hG,hB2⟩:=Qpk (e.1.r1++[f]) hB';refine QbB (X0 _) Z Z (Ey (i:=e.2.b) (off:=2) (n:=1) (v:=.osl (preF (l++e::r)++G').length 0 (e.1.r1++[f]).length 57) (vs:=[.osl (preF (l++e::r)++G').length 0 (e.1.r1++[f]).length 57]) (cs:=Q4 Ue.K e.2 e.1) (cs':=Q4 Ue.K {e.2 with i1:=(preF (l++e::r)++G').length} {e.1 with r1:=e.1.r1++[f]}) Z Z y sizeOf34 Z Z Z Z Z Z Z) (WO.nil ?_);exact⟨Z,⟨Z,Z,Z,Z,Z⟩,l++({e.1 with r1:=e.1.r1++[f]},{e.2 with i1:=(preF (l++e::r)++G').length})::r,G2,hG,hB2,QfA hB' hek (by rw[hbk,hfs]) Z⟩
      ·
        cases hst;have happ:app e.1.r2 [f]=some (e.1.r2++[f]):=QhI hrm.2.2.1;refine DKs 18 [14] [(0,0,1),(0,0,1),(0,0,1),(0,0,1),(0,0,0),(0,0,0),(0,0,0),(0,0,0),(0,0,0),(0,0,0),(0,0,0),(0,0,0),(0,0,0),(0,0,0),(1,0,0),(0,0,1),(0,0,1),(0,0,1)] (by kernel_rfl) ?_;refine QoV (ds':=[47,48,49,50,51,52,53,54,55,56,57,58,59,60,61,62,63,64]) Z ?_;refine DK.wa (x:=.ptr e.2.b 0) (λX=>vV (OpV.move Z Z) Wp) ?_;refine DK.ad Z ?_;refine DK.wa (x:=.rp ((Fact.c f).drop 47)) (λX=>vV (Qx QaR Z Z Z) Wp) ?_;refine DK.ad Z ?_;refine DK.wa (x:=.rp ((Fact.c f).drop 48)) (λX=>vV (Qx Qcj Z Z Z) Wp) ?_;refine DK.ad Z ?_;refine DK.wa (x:=I f.Ruling.Instance) (λX=>vV (Ez Z isAgg3 Z Pts.rp) Wp) ?_;refine DK.ad Z ?_;refine DK.wo (x:=.ptr e.2.b 0) (vV (OpV.move Z Z) Wp) ?_;refine DK.ad Z ?_;refine DK.wo (x:=.rp ((Fact.c f).drop 47)) (vV (Qx QaR Z Z Z) Wp) ?_;refine DK.ad Z ?_;refine DK.wo (x:=.rp ((Fact.c f).drop 48)) (vV (Qx Qcj Z Z Z) Wp) ?_;refine DK.ad Z ?_;refine DK.wo (x:=I f.Ruling.Instance) (vV (Ez Z isAgg3 Z Pts.rp) Wp) ?_;refine DK.ad Z ?_;refine DK.wo (x:=.ptr e.2.b 0) (vV (YC Z) Wp) ?_;refine DK.ad Z ?_;refine DK.wo (x:=.ptr e.2.b 1) (vV (Yw JE Z Z) Wp) ?_;refine DK.ad Z ?_;refine DK.wo (x:=.ptr e.2.b 3) (vV (Q5 (n:=3) (k:=1) (j:=2) hi Z runUnderlying130 sizeOf34 Z) Wp) ?_;refine DK.ad Z ?_;refine DK.wo (x:=.osl e.2.i2 0 e.1.r2.length 57) (vV (Ez Z isAgg34 Z (Pts.cells hl.c Z)) Wp) ?_;refine DK.ad Z ?_;refine DK.wo (x:=.agg (Fact.c f)) (vV (Qk Z isAgg83 sizeOf83 Z Pts.rp Z Z) Wp) ?_;refine DK.ad Z ?_;refine DK.wo (x:=.rsl 57 (List.map Fact.c [f])) (Y5 (XZ _) Z Z Z (YO (xs:=[.tmp 59]) (es:=List.map Fact.c [f]) Qaq Z Z Z Z Z ⟨Z,trivial⟩ Z Z) Wp) ?_;refine DK.ad Z ?_;refine DK.op (x:=.osl (preF (l++e::r)++G').length 0 (e.1.r2++[f]).length 57) (Y5 (XZ _) Z Z Z (QM (e:=Fact.c) (l:=e.1.r2) (m:=[f]) happ Qaq runUnderlying34 Qax (hH:=hl.r2)) Wp) ?_ (hl:=by simp);refine DK.ad Z ?_;refine DK.wa (x:=.ptr e.2.b 0) (λX=>vV (YC Z) Wp) ?_;refine DK.ad Z ?_;refine DK.wa (x:=.ptr e.2.b 1) (λX=>vV (Yw JE Z Z) Wp) ?_;refine DK.ad Z ?_;refine DK.wa (x:=.ptr e.2.b 3) (λX=>vV (Q5 (n:=3) (k:=1) (j:=2) hi Z runUnderlying130 sizeOf34 Z) Wp) ?_;refine DK.ad Z ?_;refine DK.done Z Z ?_;obtain⟨y,G2,hG,hB2⟩:=Qpj (e.1.r2++[f]) hB';refine QbB (X0 _) Z Z (Ey (i:=e.2.b) (off:=3) (n:=1) (v:=.osl (preF (l++e::r)++G').length 0 (e.1.r2++[f]).length 57) (vs:=[.osl (preF (l++e::r)++G').length 0 (e.1.r2++[f]).length 57]) (cs:=Q4 Ue.K e.2 e.1) (cs':=Q4 Ue.K {e.2 with i2:=(preF (l++e::r)++G').length} {e.1 with r2:=e.1.r2++[f]}) Z Z y sizeOf34 Z Z Z Z Z Z Z) (WO.nil ?_);exact⟨Z,⟨Z,Z,Z,Z,Z⟩,l++({e.1 with r2:=e.1.r2++[f]},{e.2 with i2:=(preF (l++e::r)++G').length})::r,G2,hG,hB2,QfA hB' hek (by rw[hbk,hfs]) Z⟩
    · rw[L,Vw]at hst
      refine TC.seq (TC.region ?_);refine vV (x:=.bool (f.Kind==8)) (OpV.eql Z Z Z) ?_;refine vV (OpV.assign Z Z) (WO.nil ?_);refine TC.cond (t:=f.Kind==8) Z (λh8=>?_) (λh8=>?_)
      · rw[h8,Vv]at hst
        obtain⟨hroom,hst⟩:=QnM hst;cases hst;refine TC.seq (TC.region ?_);refine vV (OpV.move Z Z) ?_;refine vV (Qx QiM Z Z Z) ?_;refine vV (Qx Qpq Z Z Z) ?_;refine vV (x:=I f.Report.Case) (Ez Z isAgg3 Z Pts.rp) ?_;refine QcO (QaJ call95 Z Z Z Z) (QjS f.Report.Case bk G hB) ?_ (X0 _);rintro _ _ ⟨l,e,r,G',rfl,rfl,hB',hek,hbk⟩;refine vV (OpV.assign Z Z) (WO.nil ?_);have hl:=hB'.laid e (by simp);have hrm:=(Qik (l:=l.map (·.1)) (r:=r.map (·.1)) (x:=e.1) (by rw[<- Vq, <- Xf,hbk,hfs];exact hroom)).2.2.2;have happ:app e.1.reports [f.Report]=some (e.1.reports++[f.Report]):=QhI hrm;refine DKs 11 [8] [(0,0,1),(0,0,0),(0,0,0),(0,0,0),(0,0,0),(0,0,0),(0,0,0),(0,0,0),(1,0,0),(0,0,1),(0,0,1)] (by kernel_rfl) ?_;refine DK.wa (x:=.ptr e.2.b 0) (λX=>vV (OpV.move Z Z) Wp) ?_;refine DK.ad Z ?_;refine DK.wo (x:=.ptr e.2.b 0) (vV (OpV.move Z Z) Wp) ?_;refine DK.ad Z ?_;refine DK.wo (x:=.ptr e.2.b 0) (vV (YC Z) Wp) ?_;refine DK.ad Z ?_;refine DK.wo (x:=.ptr e.2.b 4) (vV (Yw fx_2 Z Z) Wp) ?_;refine DK.ad Z ?_;refine DK.wo (x:=.osl e.2.i3 0 e.1.reports.length 4) (vV (Ez Z isAgg87 Z (Pts.cells hl.c Z)) Wp) ?_;refine DK.ad Z ?_;refine DK.wo (x:=.rp ((Fact.c f).drop 39)) (vV (Qx QiM Z Z Z) Wp) ?_;refine DK.ad Z ?_;refine DK.wo (x:=.agg (Report.c f.Report)) (vV (Qk Z isAgg73 sizeOf73 Z Pts.rp Z Z) Wp) ?_;refine DK.ad Z ?_;refine DK.wo (x:=.rsl 4 (List.map Report.c [f.Report])) (Y5 (XZ _) Z Z Z (YO (xs:=[.tmp 78]) (es:=List.map Report.c [f.Report]) Qp0 Z Z Z Z Z ⟨Z,trivial⟩ Z Z) Wp) ?_;refine DK.ad Z ?_;refine DK.op (x:=.osl (preF (l++e::r)++G').length 0 (e.1.reports++[f.Report]).length 4) (Y5 (XZ _) Z Z Z (QM (e:=Report.c) (l:=e.1.reports) (m:=[f.Report]) happ Qp0 runUnderlying87 Qax (hH:=hl.r3)) Wp) ?_ (hl:=by simp);refine DK.ad Z ?_;refine DK.wa (x:=.ptr e.2.b 0) (λX=>vV (YC Z) Wp) ?_;refine DK.ad Z ?_;refine DK.wa (x:=.ptr e.2.b 4) (λX=>vV (Yw fx_2 Z Z) Wp) ?_;refine DK.ad Z ?_;refine DK.done Z Z ?_;obtain⟨y,G2,hG,hB2⟩:=Qpi (e.1.reports++[f.Report]) hB';refine QbB (X0 _) Z Z (Ey (cs':=Q4 Ue.K {e.2 with i3:=(preF (l++e::r)++G').length} {e.1 with reports:=e.1.reports++[f.Report]}) Z Z y sizeOf87 Z Z Z Z Z Z Z) (WO.nil ?_);exact⟨Z,⟨Z,Z,Z,Z,Z⟩,l++({e.1 with reports:=e.1.reports++[f.Report]},{e.2 with i3:=(preF (l++e::r)++G').length})::r,G2,hG,hB2,QfA hB' hek (by rw[hbk,hfs]) Z⟩
      · rw[h8,Vw]at hst
        refine TC.seq (TC.region ?_);refine vV (x:=.bool (f.Kind==11)) (OpV.eql Z Z Z) ?_;refine vV (OpV.assign Z Z) (WO.nil ?_);refine TC.cond (t:=f.Kind==11) Z (λM=>?_) (λM=>?_)
        · rw[M,Vv]at hst
          refine TC.seq (TC.region ?_);refine vV (Qx QiL Z Z Z) ?_;refine vV (Qx Qpn Z Z Z) ?_;refine vV (x:=.bool f.Appeal.Suspends) (Ez Z isAgg4 Z Pts.rp) (WO.nil ?_);refine TC.cond (t:=f.Appeal.Suspends) Z (λhs=>?_) (λhs=>TC.skip ?_)
          · rw[hs,Vv]at hst
            cases hst;refine TC.region ?_;refine vV (OpV.move Z Z) ?_;refine vV (Qx QiL Z Z Z) ?_;refine vV (Qx Qpo Z Z Z) ?_;refine vV (x:=I f.Appeal.Case) (Ez Z isAgg3 Z Pts.rp) ?_;refine QcO (QaJ call95 Z Z Z Z) (QjS f.Appeal.Case bk G hB) ?_ (X0 _);rintro _ _ ⟨l,e,r,G',rfl,rfl,hB',hek,hbk⟩;refine vV (x:=.ptr e.2.b 0) (YC Z) ?_;refine vV (Yw fx_3 Z Z) ?_;have hl:=hB'.laid e (by simp);refine QbB (X0 _) Z Z (Ey (cs':=Q4 Ue.K e.2 {e.1 with appeal:=true}) Z Z hl.c sizeOf4 Z Z Z Z Z Z Z) (WO.nil ?_);obtain⟨G2,hG,hB2⟩:=QqT hB';exact⟨Z,⟨Z,Z,Z,Z,Z⟩,_,G2,hG,hB2,QfA hB' hek (by rw[hbk,hfs]) Z⟩
          · rw[hs,Vw]at hst
            cases hst;exact⟨Z,⟨Z,Z,Z,Z,Z⟩,bk,G,Z,hB,hfs⟩
        · rw[M,Vw]at hst
          cases hst;exact TC.skip ⟨Z,⟨Z,Z,Z,Z,Z⟩,bk,G,Z,hB,hfs⟩
  · rw[ht,Vw]at hs
    cases hs;have hb:=hd _ Z;refine⟨⟨_,Z⟩,?_⟩;rw[<- hb, <- hfs];exact QqS hB Z
 refine Gx 1 Z (Ef q (Gc 9 Z ?_));refine vH (Qf4 underlying211) ?_;refine FE Z (Go 2 Z ?_);have ai:=Qli h;have P:Qjt _ _ _ _ _:=λp hp=>Jy (ai p hp);refine QpG P (λJ=>[(12,.osl 0 0 J.length 1)]) (λJ=>[.row 129 1 (List.map Ue.ptr J)]) ?_ (λJ env H N q=>?_)
 .refine G0 1 Z ?_;refine Qow (enc:=(λp=>((λx=>A.int .i64 x) p.1,(rpE Ue.K) p.2))) (λF=>[(12,.osl 0 0 F.length 1),(97,.ptr 1 0)]) (λF R=>[.row 129 1 (List.map Ue.ptr F),.iter none R]) P ?_ ?_
  .refine En (Er (s:=12) (k:=1) (t:=129) (XX Z) Z) ?_;exact Lr [3,2]
  intro F R aj;refine G0 2 Z ?_;refine Qos (enc:=(λp=>((λx=>A.int .i64 x) p.1,(rpE Ue.K) p.2))) aj (λax ak al=>?_) (λg T ay O az am=>?_)
  .refine Go 7 Z (QqH ?_);cases ak;exact Gx 1 Z (cutGN al (Lr [0]))
  refine aV (.tup [.bool true,I g.1,.rp (Ue.c g.2)]) [.row 129 1 (List.map Ue.ptr F),.iter (some (I g.1,.rp (Ue.c g.2))) (List.map (λp=>((λx=>A.int .i64 x) p.1,(rpE Ue.K) p.2)) T)] Z Z ?_;refine Go 10 Z ?_;refine vX (.tup [I g.1,.rp (Ue.c g.2)]) (OpV.entry (e:=(I g.1,.rp (Ue.c g.2)))) ?_;refine Go 7 Z ?_;refine vH (El (xs:=[.tmp 103]) (es:=List.map Ue.ptr [g.2]) QhP Z Z Z Z Z ⟨Z,trivial⟩ Z Z) ?_;refine FE Z (Bd O λan ac O=>?_);refine vH (QM (e:=Ue.ptr) ac QhP runUnderlying127 (Y6 (i:=2))) ?_;refine FE Z (Go 3 Z (QqI _ _ O am ?_));refine En (Qha (i:=1) (H':=[.dead,.iter none (List.map (λp=>((λx=>A.int .i64 x) p.1,(rpE Ue.K) p.2)) T),.row 129 1 (List.map Ue.ptr [g.2]),.row 129 1 (List.map Ue.ptr an)]) Z Z) ?_;exact Lr [3,1]
 refine Gx 1 Z (Ef q (Gc 3 Z ?_));refine Et (JI [(12,_),(106,_)] Z Z (QoK.cons Z Ep (QoK.cons Z Ep QoK.nil)) (Ec (YP _))) ?_;exact Cd [] N (k_cr _ _) Z λba ar N=>FE Z (Go 4 Z (Rt N 2 []))
def F_hz(n:Nat)(c:List Ue)(a:(List Report)×Int):Option (Ctl ((List Report)×Int) (List Report)):=
  (bif decide (a.2<(c.length:Int))then(idx c a.2).bind λb=>((bif decide (0<(b.reports.length:Int))then(idx b.reports 0).bind λd=>(app a.1 [d]).bind λe=>some e else some a.1):Option (List Report)).bind λf=>some (.cont (f,IntKind.i64.wrap (a.2+1)))else some (.done a.1))
def F_bs(n:Nat)(b:List Fact):Option (List Report):=
  (F_z n b).bind λc=>(iter (F_hz n c) n ([],0):Option (List Report)).bind λa=>some a
theorem k_bs(n:Nat)(x:List Fact)(r:List Report)(h:F_bs n x=some r):
    C prog 26 [.rsl 57 (List.map Fact.c x)] [] (RQ (λr=>.osl 0 0 r.length 4) (λr=>[.row 73 4 (List.map Report.c r)]) r):=by
 refine Qb func26 Z Z Z ?_;refine G0 9 Z (Cd [] h (k_z _ _) Z λJ B h=>FE Z (Lm Z (Go 3 Z (Bd h λd y h=>?_))));refine Ct d [0] [] (λd=>[(2,.osl 0 0 d.length 4)]) (λd=>[(0,.row 73 4 (List.map Report.c d))]) Zf ?_ (λenv H j=>?_)
 .refine G0 1 Z ?_;refine Lp [0] [6,7] (λf=>[(2,.osl 0 0 f.1.length 4),(8,I f.2)]) (λf=>[(0,.row 73 4 (List.map Report.c f.1))]) y Zf ?_ ?_
  .refine En (Er (s:=2) (k:=4) (t:=73) (XX Z) Z) ?_;exact Lr [0]
  intro f E a l;refine G0 6 Z (Jb Z a (λm a=>?_) (λm a=>?_))
  .refine Gc 2 Z (Qy a ?_);obtain rfl:=Oj l a;exact Gx 1 Z (QH (Lr [0]))
  refine Gc 6 Z (Bd a λF p a=>Iz p Z (Go 8 Z (Fr QiO Z (Go 1 Z (Lm Z (Go 3 Z (Bd a λg b a=>?_)))))));refine Ct g [0] [6,7,8] (λg=>[(2,.osl 0 0 g.length 4)]) (λg=>[(0,.row 73 4 (List.map Report.c g))]) Zf ?_ (λenv H j=>?_)
  .refine G0 0 Z (Cn Z b (λq b=>?_) (λq b=>?_))
   .refine Gc 4 Z (Fr QiO Z (Go 1 Z (Bd b λz u b=>Iz u Z (Go 1 Z ?_))));refine vH (El (xs:=[.tmp 24]) (es:=List.map Report.c [z]) Qp2 Z Z Z Z Z ⟨Z,trivial⟩ Z Z) ?_;refine FE Z (Bd b λG w b=>?_);refine vH (QM (e:=Report.c) w Qp2 runUnderlying87 (Y6 (i:=1))) ?_;exact FE Z (Go 2 Z (Cl b [2]))
   exact Gc 1 Z (Cl b [0])
  exact Gx 2 Z (Ef j (Gc 4 Z (Qv a (Lr [0]))))
 exact Gx 1 Z (Ef j (Gc 7 Z (Rt h 2 [0])))
def F_dp(n:Nat)(a:Ue):Option Bool:=
  ((bif a.appeal then(idx ([a.r0,a.r1,a.r2]:List (List Fact)) 1).bind λc=>(bif decide (0<(c.length:Int))then(idx ([a.r0,a.r1,a.r2]:List (List Fact)) 2).bind λb=>some ((b.length:Int)==0)else some false)else some false):Option Bool).bind λd=>some d
theorem k_dp(n:Nat)(b:Ue)(r:Bool)(h:F_dp n b=some r):
    Csm prog 101 [.rp (Ue.c b)] [] (λr=>.bool r) r:=by
 refine Qb func101 Z Z Z ?_;refine G0 6 Z (Bd h λd a h=>?_);refine Ct d [] [] (λd=>[(2,.bool d)]) Ze Zf ?_ (λenv H g=>?_)
 .refine G0 3 Z (Fr QnQ Z (Go 2 Z (Is 7 a Z (λi a=>?_) (λi a=>?_))))
  .refine Go 2 Z (Frg (gT Z) JE Z (Bd a λp j a=>?_));refine vX (.rp [.rsl 57 (List.map Fact.c p)]) (QcR (L:=([b.r0,b.r1,b.r2]:List (List Fact))) (f:=λl=>.rsl 57 (List.map Fact.c l)) j Z Z runUnderlying130 sizeOf34 Z) ?_ (gT Z);refine Go 1 Z (Lm Z (Go 3 Z (Is 16 a Z (λk a=>?_) (λk a=>?_))))
   .refine Go 2 Z (Frg (gT Z) JE Z (Bd a λm e a=>?_));refine vX (.rp [.rsl 57 (List.map Fact.c m)]) (QcR (L:=([b.r0,b.r1,b.r2]:List (List Fact))) (f:=λl=>.rsl 57 (List.map Fact.c l)) e Z Z runUnderlying130 sizeOf34 Z) ?_ (gT Z);exact Go 1 Z (Lm Z (Go 4 Z (Cl a [])))
   .exact Go 10 Z (Cl a [])
  .exact Go 19 Z (Cl a [])
 exact Gx 1 Z (Ef g (Gc 1 Z (Rt h 2 [])))
def F_cg(n:Nat)(c:Ue)(a:Int):Option (Ctl Int (Ctl Unit (Ruling×Bool))):=
  (bif decide (0<a)then(idx ([c.r0,c.r1,c.r2]:List (List Fact)) a).bind λb=>(bif decide (0<(b.length:Int))then(idx b 0).bind λd=>some (.done (.done (d.Ruling,true)))else some (.cont (IntKind.i64.wrap (a-1))))else some (.done (.cont ())))
def F_bu(n:Nat)(b:Ue):Option (Ruling×Bool):=
  (F_dp n b).bind λd=>(bif d then some (Ux,false)else(iter (F_cg n b) n 2:Option (Ctl Unit (Ruling×Bool))).bind λc=>match c with|.cont a=>(some (Ux,false))|.done a=>some a)
theorem k_bu(n:Nat)(d:Ue)(r:Ruling×Bool)(h:F_bu n d=some r):
    C prog 50 [.rp (Ue.c d)] [] (RQ (λr=>.tup [.agg (Ruling.c r.1),.bool r.2]) (λr=>[.cells 77 (Ruling.c r.1)]) r):=by
 refine Qb func50 Z Z Z ?_;refine G0 10 Z (Cz [] h (k_dp _ _) Z λE y h=>Go 2 Z (Cn Z h (λp h=>?_) (λp h=>?_)))
 .refine Gc 9 Z ?_;obtain rfl:=Oi h;exact Rx [0] [2,3] Z (Qu Z Z (Qkn.cons (Qm isAgg77 sizeOf77 Z Z Z) (Qkn.cons Qdn.tmp Qkn.nil))) ⟨Z,Z⟩
 refine Gc 8 Z (Bd h λq s h=>?_);refine CtE (b:=q) [0] [2] Ze Ze Zf ?_ (λx env H t u=>?_)
 .refine G0 1 Z ?_;refine Lp [0] [0,2] (λg=>[(4,I g)]) Ze s Zf (Lr [0]) λg z a e=>?_;refine G0 7 Z (Jb Z a (λi a=>?_) (λi a=>?_))
  .refine Gc 2 Z (Qy a ?_);obtain rfl:=Oj e a;exact Gx 1 Z (QL Z (Lr [0]))
  refine Gc 9 Z (Fr JE Z (Bd a λw j a=>?_));refine vX (.rp [.rsl 57 (List.map Fact.c w)]) (QcR (L:=([d.r0,d.r1,d.r2]:List (List Fact))) (f:=λl=>.rsl 57 (List.map Fact.c l)) j Z Z runUnderlying130 sizeOf34 Z) ?_;refine Go 7 Z (Lm Z (Go 3 Z (Cn Z a (λk a=>?_) (λk a=>?_))))
  .refine Gc 3 Z (Bd a λB m a=>Iz m Z (Go 9 Z (Yx a ?_)));obtain rfl:=Oj e a;refine Gx 1 Z (Q9 (Gx 1 Z ?_));obtain rfl:=Oi h;exact Rx [0] [2,3] Z (Qu Z Z (Qkn.cons (Qm isAgg77 sizeOf77 Z Z Z) (Qkn.cons Qdn.tmp Qkn.nil))) ⟨Z,Z⟩
  exact Gc 8 Z (Qv a (Lr [0]))
 subst t;refine Gx 1 Z (Ef u (Gc 8 Z ?_));obtain rfl:=Oi h;exact Rx [0] [2,3] Z (Qu Z Z (Qkn.cons (Qm isAgg77 sizeOf77 Z Z Z) (Qkn.cons Qdn.tmp Qkn.nil))) ⟨Z,Z⟩
def F_ii(n:Nat)(c:List Ue)(a:(List Ruling)×Int):Option (Ctl ((List Ruling)×Int) (List Ruling)):=
  (bif decide (a.2<(c.length:Int))then(idx c a.2).bind λd=>(F_bu n d).bind λb=>((bif b.2 then(app a.1 [b.1]).bind λe=>some e else some a.1):Option (List Ruling)).bind λf=>some (.cont (f,IntKind.i64.wrap (a.2+1)))else some (.done a.1))
def F_dd(n:Nat)(b:List Fact):Option (List Ruling):=
  (F_z n b).bind λc=>(iter (F_ii n c) n ([],0):Option (List Ruling)).bind λa=>some a
theorem k_dd(n:Nat)(w:List Fact)(r:List Ruling)(h:F_dd n w=some r):
    C prog 62 [.rsl 57 (List.map Fact.c w)] [] (RQ (λr=>.osl 0 0 r.length 6) (λr=>[.row 77 6 (List.map Ruling.c r)]) r):=by
 refine Qb func62 Z Z Z ?_;refine G0 9 Z (Cd [] h (k_z _ _) Z λJ B h=>FE Z (Lm Z (Go 3 Z (Bd h λd x h=>?_))));refine Ct d [0] [] (λd=>[(2,.osl 0 0 d.length 6)]) (λd=>[(0,.row 77 6 (List.map Ruling.c d))]) Zf ?_ (λenv H j=>?_)
 .refine G0 1 Z ?_;refine Lp [0] [9,10] (λf=>[(2,.osl 0 0 f.1.length 6),(11,I f.2)]) (λf=>[(0,.row 77 6 (List.map Ruling.c f.1))]) x Zf ?_ ?_
  .refine En (Er (s:=2) (k:=6) (t:=77) (XX Z) Z) ?_;exact Lr [0]
  intro f E a l;refine G0 6 Z (Jb Z a (λm a=>?_) (λm a=>?_))
  .refine Gc 2 Z (Qy a ?_);obtain rfl:=Oj l a;exact Gx 1 Z (QH (Lr [0]))
  refine Gc 6 Z (Bd a λF p a=>Iz p Z (Go 14 Z (Cd [] a (k_bu _ _) Z λy z a=>FE Z (Go 13 Z (Bd a λg b a=>?_)))));refine Ct g [0] [9,10,11] (λg=>[(2,.osl 0 0 g.length 6)]) (λg=>[(0,.row 77 6 (List.map Ruling.c g))]) Zf ?_ (λenv H j=>?_)
  .refine G0 0 Z (Cn Z b (λq b=>?_) (λq b=>?_))
   .refine Gc 3 Z ?_;refine vH (El (xs:=[.tmp 24]) (es:=List.map Ruling.c [y.1]) Qoa Z Z Z Z Z ⟨Z,trivial⟩ Z Z) ?_;refine FE Z (Bd b λG u b=>?_);refine vH (QM (e:=Ruling.c) u Qoa runUnderlying103 (Y6 (i:=3))) ?_;exact FE Z (Go 2 Z (Cl b [4]))
   exact Gc 1 Z (Cl b [0])
  exact Gx 2 Z (Ef j (Gc 4 Z (Qv a (Lr [0]))))
 exact Gx 1 Z (Ef j (Gc 7 Z (Rt h 2 [0])))
def F_gz(n:Nat):Option (List (Int×Uc)):=
  (some (QE [] 3 ({penalty:=143:Uc}))).bind λm1=>(some (QE m1 4 ({penalty:=144:Uc}))).bind λm2=>(some (QE m2 5 ({penalty:=145:Uc}))).bind λa=>some a
theorem k_gz(n:Nat)(r:List (Int×Uc))(h:F_gz n=some r):
    C prog 63 [] [] (RQ (λ_=>.map 0) (λr=>[.map (Qi (λx=>A.int .i64 x) (λx=>A.agg (Uc.c x)) r)]) r):=by
 refine Qb func63 Z Z Z ?_;refine G0 7 Z ?_;refine vH Ye ?_;refine FE Z (Go 1 Z (Bd h λm1 a h=>?_));refine vU (QhY Z (Yc (ev:=(λx=>A.agg (Uc.c x))) (k:=3) (v:=({penalty:=143:Uc})) (l:=[]) YQ a Z underlying161)) ?_;refine FE Z (Go 1 Z (Bd h λm2 b h=>?_));refine vU (QhY Z (Yc (ev:=(λx=>A.agg (Uc.c x))) (k:=4) (v:=({penalty:=144:Uc})) (l:=m1) YQ b Z underlying161)) ?_;refine FE Z (Go 1 Z (Bd h λe d h=>?_));refine vU (QhY Z (Yc (ev:=(λx=>A.agg (Uc.c x))) (k:=5) (v:=({penalty:=145:Uc})) (l:=m2) YQ d Z underlying161)) ?_;exact FE Z (Go 5 Z (Rt h 0 [0]))
def F_gd(n:Nat)(a:List (Int×Bool)):Option Unit:=
  some ()
theorem k_gd(n:Nat)(a:List (Int×Bool))(r:Unit)(h:F_gd n a=some r):
    C prog 65 [.map 0] [.map (Qi (λx=>A.int .i64 x) A.bool a)] (RQ (λ_=>.fn (.func 148) [] [.ptr 1 0]) (λ_=>[.map (Qi (λx=>A.int .i64 x) A.bool a),.cells 59 [.map 0]]) r):=by
 refine Qb func65 Z Z Z ?_;exact G0 13 Z (Rt h 2 [0,1])
def F_gm(n:Nat)(a:List (Int×Bool)):Option (List Int):=
  Ql8 (List.map Prod.fst a) λp1=>(sortI p1).bind λb=>some b
theorem k_gm(n:Nat)(b:List (Int×Bool))(r:List Int)(h:F_gm n b=some r):
    C prog 64 [.fn (.func 148) [] [.ptr 0 0]] [.cells 59 [.map 1],.map (Qi (λx=>A.int .i64 x) A.bool b)] (RQ (λr=>.osl 2 0 r.length 1) (λr=>[.dead,.fmap (Qi (λx=>A.int .i64 x) A.bool b),.row 3 1 (List.map (Qf .i64) r)]) r):=by
 refine Qb func64 Z Z Z ?_;refine G0 8 Z ?_;refine Et (Qlo (i:=1) Z) ?_;refine QfT (H:=[.cells 59 [.map 1],.fmap (Qi (λx=>A.int .i64 x) A.bool b)]) Z ?_;obtain⟨c,h⟩:=Qlj h;refine Qz [0,1] (OpC.fn call146 Z Z Z) (QjN _ c) ?_;rintro _ _ ⟨p1,d,rfl,rfl⟩;have h:=h p1 d;refine FE Z (Go 6 Z (Bd h λe a h=>?_));refine Qz [2] (OpC.fn call147 Z Z Z) (Qlu Qct a) ?_;rintro _ _ ⟨rfl,rfl⟩;refine FE Z ?_;refine Et (Qo (s:=3) Z (congrArg (λn=>A.osl 2 0 n 1) (Qac a))) ?_;refine Et (Qo (s:=5) Z (congrArg (λn=>A.osl 2 0 n 1) (Qac a))) ?_;refine Et (Qo (s:=6) Z (congrArg (λn=>A.osl 2 0 n 1) (Qac a))) ?_;exact Go 9 Z (Rt h 2 [0,1,2])
def F_hk(n:Nat)(a:Ruling):Option Unit:=
  some ()
theorem k_hk(n:Nat)(a:Ruling)(r:Unit)(h:F_hk n a=some r):
    C prog 143 [.agg (Ruling.c a)] [] (RQ (λ_=>.agg [I a.Position,I a.Amount,I 0,.bool false]) (λ_=>[.cells 50 [I a.Position,I a.Amount,I 0,.bool false]]) r):=by
 refine Qb func143 Z Z Z ?_;refine G0 17 Z ?_;obtain rfl:=Oi h;exact Rx [1] [2] Z (YJ Z (Qm isAgg50 sizeOf50 Z Z Z)) ⟨Z,Z⟩
def F_hf(n:Nat)(a:Ruling):Option Unit:=
  some ()
theorem k_hf(n:Nat)(a:Ruling)(r:Unit)(h:F_hf n a=some r):
    C prog 144 [.agg (Ruling.c a)] [] (RQ (λ_=>.agg [I a.Position,I 0,I a.Amount,.bool false]) (λ_=>[.cells 50 [I a.Position,I 0,I a.Amount,.bool false]]) r):=by
 refine Qb func144 Z Z Z ?_;refine G0 17 Z ?_;obtain rfl:=Oi h;exact Rx [1] [2] Z (YJ Z (Qm isAgg50 sizeOf50 Z Z Z)) ⟨Z,Z⟩
def F_he(n:Nat)(a:Ruling):Option Unit:=
  some ()
theorem k_he(n:Nat)(a:Ruling)(r:Unit)(h:F_he n a=some r):
    C prog 145 [.agg (Ruling.c a)] [] (RQ (λ_=>.agg [I a.Position,I 0,I 0,.bool true]) (λ_=>[.cells 50 [I a.Position,I 0,I 0,.bool true]]) r):=by
 refine Qb func145 Z Z Z ?_;refine G0 15 Z ?_;obtain rfl:=Oi h;exact Rx [1] [2] Z (YJ Z (Qm isAgg50 sizeOf50 Z Z Z)) ⟨Z,Z⟩
end Go.Sw
