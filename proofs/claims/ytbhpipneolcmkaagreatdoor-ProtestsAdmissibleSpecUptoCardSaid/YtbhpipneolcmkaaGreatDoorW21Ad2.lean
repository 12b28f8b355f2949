/- What the functions compute that ProtestsAdmissibleSpec reaches, and that their calls refine it (part 2 of 5). -/
import Derived.Test.YtbhpipneolcmkaaGreatDoorW21Ad1
set_option linter.unusedVariables false
set_option linter.unusedSimpArgs false
set_option maxRecDepth 100000
set_option maxHeartbeats 4000000
namespace Go.Sw
open List(map)
open Int(toNat)
open Go.IntKind(i64 u64 u8)
open Go.Proofs Tryz
def Q_facts_open_rxk(d:Fact)(e:Int):U_facts_open_rxk->Go.Sw.A->Qb->Prop
  |.c0 x,a,H=>a=.tup [.agg [.osl 2 0 8 3,.fn (.func 194) [] []],.bool true]/\H=[.cells 68 (Fact.c d),.cells 3 [I e],.rowr 230 3 [[.ptr 0 4,I 1,I 9999],[.ptr 0 5,I 0,I 7],[.ptr 0 6,I 0,I 31],[.ptr 0 7,I (-1099511627776),I 1099511627776],[.ptr 0 8,I 0,I 120],[.ptr 0 9,I 0,I 1048576],[.ptr 0 10,I 0,I 9999],[.ptr 0 11,I 0,I 1048576]],.cells 220 [.osl 2 0 8 3,.fn (.func 194) [] []]]
  |.c1 x,a,H=>a=.tup [.agg [.osl 2 0 4 3,.fn (.func 194) [] []],.bool true]/\H=[.cells 68 (Fact.c d),.cells 3 [I e],.rowr 230 3 [[.ptr 0 12,I 0,I 39],[.ptr 0 13,I 0,I 255],[.ptr 0 14,I 0,I 1048576],[.ptr 0 15,I (-1099511627776),I 1099511627776]],.cells 220 [.osl 2 0 4 3,.fn (.func 194) [] []]]
  |.c2 x,a,H=>a=.tup [.agg [.osl 2 0 5 3,.fn (.func 194) [] []],.bool true]/\H=[.cells 68 (Fact.c d),.cells 3 [I e],.rowr 230 3 [[.ptr 0 16,I 0,I 39],[.ptr 0 17,I 0,I 255],[.ptr 0 18,I (-1099511627776),I 1099511627776],[.ptr 0 19,I (-1099511627776),I 1099511627776],[.ptr 0 20,I 0,I 1099511627776]],.cells 220 [.osl 2 0 5 3,.fn (.func 194) [] []]]
  |.c3 x,a,H=>a=.tup [.agg [.osl 2 0 8 3,.fn (.func 195) [] [.ptr 3 0]],.bool true]/\H=[.cells 68 (Fact.c d),.cells 3 [I e],.rowr 230 3 [[.ptr 0 21,I 0,I 39],[.ptr 0 22,I 0,I 255],[.ptr 0 23,I (-1099511627776),I 1099511627776],[.ptr 0 24,I 0,I 39],[.ptr 0 25,I 0,I 255],[.ptr 0 26,I (-1099511627776),I 1099511627776],[.ptr 0 27,I (-1099511627776),I 1099511627776],[.ptr 0 28,I (-1099511627776),I 1099511627776]],.cells 269 [.ptr 0 21],.cells 220 [.osl 2 0 8 3,.fn (.func 195) [] [.ptr 3 0]]]
  |.c4 x,a,H=>a=.tup [.agg [.osl 2 0 4 3,.fn (.func 196) [] [.ptr 3 0]],.bool true]/\H=[.cells 68 (Fact.c d),.cells 3 [I e],.rowr 230 3 [[.ptr 0 29,I 1,I 9999],[.ptr 0 30,I 0,I 255],[.ptr 0 31,I (-1099511627776),I 1099511627776],[.ptr 0 32,I (-1099511627776),I 1099511627776]],.cells 270 [.ptr 0 29],.cells 220 [.osl 2 0 4 3,.fn (.func 196) [] [.ptr 3 0]]]
  |.c5 x,a,H=>a=.tup [.agg [.osl 2 0 4 3,.fn (.func 197) [] [.ptr 3 0]],.bool true]/\H=[.cells 68 (Fact.c d),.cells 3 [I e],.rowr 230 3 [[.ptr 0 33,I 0,I 39],[.ptr 0 34,I 0,I 255],[.ptr 0 35,I (-1099511627776),I 1099511627776],[.ptr 0 36,I (-1099511627776),I 1099511627776]],.cells 271 [.ptr 0 33],.cells 220 [.osl 2 0 4 3,.fn (.func 197) [] [.ptr 3 0]]]
  |.c6 x,a,H=>a=.tup [.agg [.osl 2 0 2 3,.fn (.func 198) [] [.ptr 3 0]],.bool true]/\H=[.cells 68 (Fact.c d),.cells 3 [I e],.rowr 230 3 [[.ptr 0 37,I 1,I 9999],[.ptr 0 38,I 1,I 9999]],.cells 272 [.ptr 0 37],.cells 220 [.osl 2 0 2 3,.fn (.func 198) [] [.ptr 3 0]]]
  |.c7 x,a,H=>a=.tup [.agg [.osl 2 0 4 3,.fn (.func 194) [] []],.bool true]/\H=[.cells 68 (Fact.c d),.cells 3 [I e],.rowr 230 3 [[.ptr 0 39,I 1,I 1048576],[.ptr 0 40,I 1,I 9999],[.ptr 0 41,I 0,I 31],[.ptr 0 42,I 0,I 255]],.cells 220 [.osl 2 0 4 3,.fn (.func 194) [] []]]
  |.c8 x,a,H=>a=.tup [.agg [.osl 2 0 4 3,.fn (.func 194) [] []],.bool true]/\H=[.cells 68 (Fact.c d),.cells 3 [I e],.rowr 230 3 [[.ptr 0 43,I 1,I 1048576],[.ptr 0 44,I 0,I 9999],[.ptr 0 45,I 0,I 1125899906842624],[.ptr 0 46,I 0,I 1]],.cells 220 [.osl 2 0 4 3,.fn (.func 194) [] []]]
  |.c9 x,a,H=>a=.tup [.agg [.osl 2 0 6 3,.fn (.func 194) [] []],.bool true]/\H=[.cells 68 (Fact.c d),.cells 3 [I e],.rowr 230 3 [[.ptr 0 47,I 1,I 1048576],[.ptr 0 48,I 1,I 2],[.ptr 0 49,I 1,I 5],[.ptr 0 50,I x.1,I x.2.1],[.ptr 0 51,I x.2.2.1,I x.2.2.2.1],[.ptr 0 52,I x.2.2.2.2.1,I x.2.2.2.2.2]],.cells 220 [.osl 2 0 6 3,.fn (.func 194) [] []]]
  |.c10 x,a,H=>a=.tup [.agg [.osl 2 0 2 3,.fn (.func 194) [] []],.bool true]/\H=[.cells 68 (Fact.c d),.cells 3 [I e],.rowr 230 3 [[.ptr 0 53,I 1,I 1048576],[.ptr 1 0,I 0,I 1]],.cells 220 [.osl 2 0 2 3,.fn (.func 194) [] []]]
  |.c11 x,a,H=>a=.tup [.agg [.nils,.fn (.func 194) [] []],.bool true]/\H=[.cells 68 (Fact.c d),.cells 3 [I e],.cells 220 [.nils,.fn (.func 194) [] []]]
  |.c12 x,a,H=>a=.tup [.agg [.osl 2 0 2 3,.fn (.func 194) [] []],.bool true]/\H=[.cells 68 (Fact.c d),.cells 3 [I e],.rowr 230 3 [[.ptr 0 55,I 0,I 31],[.ptr 0 56,I 1,I 1048576]],.cells 220 [.osl 2 0 2 3,.fn (.func 194) [] []]]
  |.c13 x,a,H=>a=.tup [.agg [.nils,.nilf],.bool false]/\H=[.cells 68 (Fact.c d),.cells 3 [I e],.cells 220 [.nils,.nilf]]
def F_bn(n:Nat)(a:Fact)(f:Int):Option U_facts_open_rxk:=(bif (a.Kind==1)then some (U_facts_open_rxk.c0 ())else(bif (a.Kind==2)then some (U_facts_open_rxk.c1 ())else(bif (a.Kind==3)then some (U_facts_open_rxk.c2 ())else(bif (a.Kind==4)then some (U_facts_open_rxk.c3 ())else(bif (a.Kind==5)then some (U_facts_open_rxk.c4 ())else(bif (a.Kind==6)then some (U_facts_open_rxk.c5 ())else(bif (a.Kind==7)then some (U_facts_open_rxk.c6 ())else(bif (a.Kind==8)then some (U_facts_open_rxk.c7 ())else(bif (a.Kind==9)then some (U_facts_open_rxk.c8 ())else(bif (a.Kind==10)then((bif (a.Ruling.Kind==1)then some (a.Ruling.Kind==1)else some (a.Ruling.Kind==2)):Option Bool).bind λe=>((bif e then some ({least:=0,most:=0:Ua},{least:=0,most:=0:Ua},{least:=0,most:=0:Ua})else(bif (a.Ruling.Kind==3)then some ({least:=1,most:=9999:Ua},{least:=0,most:=255:Ua},{least:=1,most:=1099511627776:Ua})else(bif (a.Ruling.Kind==4)then some ({least:=1,most:=9999:Ua},{least:=0,most:=255:Ua},{least:=1,most:=64:Ua})else some ({least:=1,most:=9999:Ua},{least:=0,most:=255:Ua},{least:=0,most:=0:Ua})))):Option (Ua×Ua×Ua)).bind λd=>some (U_facts_open_rxk.c9 (d.1.least,d.1.most,d.2.1.least,d.2.1.most,d.2.2.least,d.2.2.most))else(bif (a.Kind==11)then some (U_facts_open_rxk.c10 ())else(bif (a.Kind==12)then some (U_facts_open_rxk.c11 ())else(bif (a.Kind==13)then some (U_facts_open_rxk.c12 ())else some (U_facts_open_rxk.c13 ()))))))))))))))
theorem k_bn(n:Nat)(d:Fact)(e:Int)(r:U_facts_open_rxk)(h:F_bn n d e=some r):C prog 139 [.ptr 0 0,.ptr 1 0] [.cells 68 (Fact.c d),.cells 3 [I e]] (Q_facts_open_rxk d e r):=by
 refine QF func139 Z Z Z ?_;refine G0 22 Z (Cn Z h (λw h=>?_) (λw h=>?_))
 .refine Gc 9 Z (DSs 40 Z (D 40 Z (Eg Z ?_)));refine vH (Y1 (xs:=[.tmp 32,.tmp 37,.tmp 42,.tmp 47,.tmp 52,.tmp 57,.tmp 62,.tmp 67]) JP Z Z Z Z Z ⟨Z,Z,Z,Z,Z,Z,Z,Z,trivial⟩ Z) ?_;refine Fg 8 Z Z ?_;obtain rfl:=Oi h;exact Rx [0,1,3,2] [4,5] Z (QU Z Z (QlU.cons (QE EY EW Z Z Z) (QlU.cons Qd6.tmp QlU.nil))) ⟨Z,Z⟩
 refine Gc 6 Z (Cn Z h (λx h=>?_) (λx h=>?_))
 .refine Gc 9 Z (DSs 20 Z (D 20 Z (Eg Z ?_)));refine vH (Y1 (xs:=[.tmp 79,.tmp 84,.tmp 89,.tmp 94]) JP Z Z Z Z Z ⟨Z,Z,Z,Z,trivial⟩ Z) ?_;refine Fg 8 Z Z ?_;obtain rfl:=Oi h;exact Rx [0,1,3,2] [4,5] Z (QU Z Z (QlU.cons (QE EY EW Z Z Z) (QlU.cons Qd6.tmp QlU.nil))) ⟨Z,Z⟩
 refine Gc 6 Z (Cn Z h (λy h=>?_) (λy h=>?_))
 .refine Gc 9 Z (DSs 25 Z (D 25 Z (Eg Z ?_)));refine vH (Y1 (xs:=[.tmp 106,.tmp 111,.tmp 116,.tmp 121,.tmp 126]) JP Z Z Z Z Z ⟨Z,Z,Z,Z,Z,trivial⟩ Z) ?_;refine Fg 8 Z Z ?_;obtain rfl:=Oi h;exact Rx [0,1,3,2] [4,5] Z (QU Z Z (QlU.cons (QE EY EW Z Z Z) (QlU.cons Qd6.tmp QlU.nil))) ⟨Z,Z⟩
 refine Gc 6 Z (Cn Z h (λz h=>?_) (λz h=>?_))
 .refine Gc 10 Z (DAs 42 40 [0,0,0,0,0,0,0,0,0,0,0,0,0,0,0,0,0,0,0,0,0,0,0,0,0,0,0,0,0,0,0,0,0,0,0,0,0,0,0,0,1,3] (by kernel_rfl) (Da 40 Z ?_));refine Qcs (Y1 (xs:=[.tmp 138,.tmp 143,.tmp 148,.tmp 153,.tmp 158,.tmp 163,.tmp 168,.tmp 173]) JP Z Z Z Z Z ⟨Z,Z,Z,Z,Z,Z,Z,Z,trivial⟩ Z) Z Z (Db 1 Z (DB.done Z (Go 8 Z ?_)));obtain rfl:=Oi h;exact Rx [0,1,4,3,2] [4,5] Z (QU Z Z (QlU.cons (QE EY EW Z Z Z) (QlU.cons Qd6.tmp QlU.nil))) ⟨Z,Z⟩
 refine Gc 6 Z (Cn Z h (λB h=>?_) (λB h=>?_))
 .refine Gc 10 Z (DAs 22 20 [0,0,0,0,0,0,0,0,0,0,0,0,0,0,0,0,0,0,0,0,1,3] (by kernel_rfl) (Da 20 Z ?_));refine Qcs (Y1 (xs:=[.tmp 186,.tmp 191,.tmp 196,.tmp 201]) JP Z Z Z Z Z ⟨Z,Z,Z,Z,trivial⟩ Z) Z Z (Db 1 Z (DB.done Z (Go 8 Z ?_)));obtain rfl:=Oi h;exact Rx [0,1,4,3,2] [4,5] Z (QU Z Z (QlU.cons (QE EY EW Z Z Z) (QlU.cons Qd6.tmp QlU.nil))) ⟨Z,Z⟩
 refine Gc 6 Z (Cn Z h (λE h=>?_) (λE h=>?_))
 .refine Gc 10 Z (DAs 22 20 [0,0,0,0,0,0,0,0,0,0,0,0,0,0,0,0,0,0,0,0,1,3] (by kernel_rfl) (Da 20 Z ?_));refine Qcs (Y1 (xs:=[.tmp 214,.tmp 219,.tmp 224,.tmp 229]) JP Z Z Z Z Z ⟨Z,Z,Z,Z,trivial⟩ Z) Z Z (Db 1 Z (DB.done Z (Go 8 Z ?_)));obtain rfl:=Oi h;exact Rx [0,1,4,3,2] [4,5] Z (QU Z Z (QlU.cons (QE EY EW Z Z Z) (QlU.cons Qd6.tmp QlU.nil))) ⟨Z,Z⟩
 refine Gc 6 Z (Cn Z h (λF h=>?_) (λF h=>?_))
 .refine Gc 10 Z (DAs 12 10 [0,0,0,0,0,0,0,0,0,0,1,3] (by kernel_rfl) (Da 10 Z ?_));refine Qcs (Y1 (xs:=[.tmp 242,.tmp 247]) JP Z Z Z Z Z ⟨Z,Z,trivial⟩ Z) Z Z (Db 1 Z (DB.done Z (Go 8 Z ?_)));obtain rfl:=Oi h;exact Rx [0,1,4,3,2] [4,5] Z (QU Z Z (QlU.cons (QE EY EW Z Z Z) (QlU.cons Qd6.tmp QlU.nil))) ⟨Z,Z⟩
 refine Gc 6 Z (Cn Z h (λG h=>?_) (λG h=>?_))
 .refine Gc 9 Z (DSs 20 Z (D 20 Z (Eg Z ?_)));refine vH (Y1 (xs:=[.tmp 260,.tmp 265,.tmp 270,.tmp 275]) JP Z Z Z Z Z ⟨Z,Z,Z,Z,trivial⟩ Z) ?_;refine Fg 8 Z Z ?_;obtain rfl:=Oi h;exact Rx [0,1,3,2] [4,5] Z (QU Z Z (QlU.cons (QE EY EW Z Z Z) (QlU.cons Qd6.tmp QlU.nil))) ⟨Z,Z⟩
 refine Gc 6 Z (Cn Z h (λJ h=>?_) (λJ h=>?_))
 .refine Gc 9 Z (DSs 20 Z (D 20 Z (Eg Z ?_)));refine vH (Y1 (xs:=[.tmp 287,.tmp 292,.tmp 297,.tmp 302]) JP Z Z Z Z Z ⟨Z,Z,Z,Z,trivial⟩ Z) ?_;refine Fg 8 Z Z ?_;obtain rfl:=Oi h;exact Rx [0,1,3,2] [4,5] Z (QU Z Z (QlU.cons (QE EY EW Z Z Z) (QlU.cons Qd6.tmp QlU.nil))) ⟨Z,Z⟩
 refine Gc 6 Z (Cn Z h (λk h=>?_) (λk h=>?_))
 .refine Gc 9 Z ?_;refine QaV 8 3 [310,311,312,16,17,18,1000006,1000007] [false,false,false,true,true,true,true,true] [[],[],[],[],[],[],[3,4,5],[3,4,5,6]] [[],[3],[4],[5],[3,4],[3,5],[4,5],[3,4,5],[3,4,5,6],[3,4,5,6,7]] [[(0,0),(1,1),(2,2),(3,3),(4,4),(5,5),(6,6),(7,7)],[(0,0),(1,1),(2,2),(3,3),(4,4),(5,5),(6,6),(7,7),(8,8)],[(0,0),(1,1),(2,2),(3,3),(4,4),(5,5),(6,6),(7,7),(8,8),(9,9)],[(0,1),(2,4),(3,5),(6,7)],[(0,2),(1,4),(3,6),(5,7)],[(0,3),(1,5),(2,6),(4,7)],[(7,8)],[(8,9)]] [.agg [I 1,I 9999],.agg [I 0,I 255],.agg [I 0,I 0],.ptr 3 0,.ptr 4 0,.ptr 5 0,.any,.any] [[.cells 68 (Fact.c d),.cells 3 [I e],.cells 220 [.nils,.nilf],.dead,.dead,.dead],[.cells 68 (Fact.c d),.cells 3 [I e],.cells 220 [.nils,.nilf],.cells 228 [I 0,I 0],.dead,.dead],[.cells 68 (Fact.c d),.cells 3 [I e],.cells 220 [.nils,.nilf],.dead,.cells 228 [I 0,I 0],.dead],[.cells 68 (Fact.c d),.cells 3 [I e],.cells 220 [.nils,.nilf],.dead,.dead,.cells 228 [I 0,I 0]],[.cells 68 (Fact.c d),.cells 3 [I e],.cells 220 [.nils,.nilf],.cells 228 [I 0,I 0],.cells 228 [I 0,I 0],.dead],[.cells 68 (Fact.c d),.cells 3 [I e],.cells 220 [.nils,.nilf],.cells 228 [I 0,I 0],.dead,.cells 228 [I 0,I 0]],[.cells 68 (Fact.c d),.cells 3 [I e],.cells 220 [.nils,.nilf],.dead,.cells 228 [I 0,I 0],.cells 228 [I 0,I 0]],[.cells 68 (Fact.c d),.cells 3 [I e],.cells 220 [.nils,.nilf],.cells 228 [I 0,I 0],.cells 228 [I 0,I 0],.cells 228 [I 0,I 0]],[.cells 68 (Fact.c d),.cells 3 [I e],.cells 220 [.nils,.nilf],.cells 228 [I 1,I 9999],.cells 228 [I 0,I 0],.cells 228 [I 0,I 0]],[.cells 68 (Fact.c d),.cells 3 [I e],.cells 220 [.nils,.nilf],.cells 228 [I 1,I 9999],.cells 228 [I 0,I 255],.cells 228 [I 0,I 0]]] ([.cells 68 (Fact.c d),.cells 3 [I e],.cells 220 [.nils,.nilf],.cells 228 [I 1,I 9999],.cells 228 [I 0,I 255],.cells 228 [I 0,I 0]]) draws Z Z Z Z Z Z Z ?_ Z ?_
  .refine Qi4.cons (Qc (v0 Z Z) (Qc (v0 Z Z) (Qc (v0 Z Z) (Qc (v0 Z Z) (Qc (v0 Z Z) (Qc (v0 Z Z) (Qc (v0 Z Z) (Qc (v0 Z Z) (Qm))))))))) (Qi4.cons (Qc (v0 Z Z) (Qc (v0 Z Z) (Qc (v0 Z Z) (Qc (v0 Z Z) (Qc (v0 Z Z) (Qc (v0 Z Z) (Qc (v0 Z Z) (Qc (v0 Z Z) (Qc (v0 Z Z) (Qm)))))))))) (Qi4.cons (Qc (v0 Z Z) (Qc (v0 Z Z) (Qc (v0 Z Z) (Qc (v0 Z Z) (Qc (v0 Z Z) (Qc (v0 Z Z) (Qc (v0 Z Z) (Qc (v0 Z Z) (Qc (v0 Z Z) (Qc (v0 Z Z) (Qm))))))))))) (Qi4.cons ?_ (Qi4.cons ?_ (Qi4.cons ?_ (Qi4.cons ?_ (Qi4.cons ?_ (Qi4.nil))))))))
   .refine Qc ?_ (Qc ?_ (Qc ?_ (Qc ?_ (Qm))))
    iterate 4 exact JX.alloc _ 16 228 3 _ Z Z Z Z Z Z Z (OpZ.alloc (v:=(.agg [I 0,I 0])) EO (zrC Z)) Z
   .refine Qc ?_ (Qc ?_ (Qc ?_ (Qc ?_ (Qm))))
    iterate 4 exact JX.alloc _ 17 228 4 _ Z Z Z Z Z Z Z (OpZ.alloc (v:=(.agg [I 0,I 0])) EO (zrC Z)) Z
   .refine Qc ?_ (Qc ?_ (Qc ?_ (Qc ?_ (Qm))))
    iterate 4 exact JX.alloc _ 18 228 5 _ Z Z Z Z Z Z Z (OpZ.alloc (v:=(.agg [I 0,I 0])) EO (zrC Z)) Z
   .refine Qc ?_ (Qm)
    .refine Om2 Z (sD 3 (sD 0 sN)) ?_;refine vU (Ex Z Z Z sizeOf228 Z Z Z Z Z Z Z) ?_;exact FE Z Wp
   .refine Qc ?_ (Qm)
    .refine Om2 Z (sD 4 (sD 1 sN)) ?_;refine vU (Ex Z Z Z sizeOf228 Z Z Z Z Z Z Z) ?_;exact FE Z Wp
  refine Go 20 Z (Bd h λi f h=>Ct i [0,1,2,3,4,5] [4,15,16,17,18,316] (λi=>[(317,.bool i)]) Ze Zf ?_ (λenv H j=>?_))
  .refine G0 0 Z (Cn Z f (λl f=>?_) (λl f=>?_))
   .exact YC 1 Z f [0,1,2,3,4,5]
   exact YC 4 Z f [0,1,2,3,4,5]
  refine Gx 1 Z (Qd j (Bd h λg a h=>Ct g [0,1,2,3,4,5] [4,15,16,17,18] Ze (λg=>[(3,.cells 228 (Ua.c g.1)),(4,.cells 228 (Ua.c g.2.1)),(5,.cells 228 (Ua.c g.2.2))]) Zf ?_ (λenv H j=>?_)))
  .refine G0 0 Z (Cn Z a (λm a=>?_) (λm a=>?_))
   .exact YC 6 Z a [0,1,2,3,4,5]
   refine Gc 6 Z (Cn Z a (λp a=>?_) (λp a=>?_))
   .exact YC 4 Z a [0,1,2,3,4,5]
   refine Gc 6 Z (Cn Z a (λq a=>?_) (λq a=>?_))
   .exact YC 4 Z a [0,1,2,3,4,5]
   exact YC 1 Z a [0,1,2,3,4,5]
  refine Gx 2 Z (Qd j (Gc 1 Z (DSs 30 Z (D 30 Z (Eg Z ?_)))));refine vH (Y1 (xs:=[.tmp 332,.tmp 337,.tmp 342,.tmp 347,.tmp 352,.tmp 357]) JP Z Z Z Z Z ⟨Z,Z,Z,Z,Z,Z,trivial⟩ Z) ?_;refine Fg 8 Z Z ?_;obtain rfl:=Oi h;exact Rx [0,1,6,2] [4,5] Z (QU Z Z (QlU.cons (QE EY EW Z Z Z) (QlU.cons Qd6.tmp QlU.nil))) ⟨Z,Z⟩
 refine Gc 6 Z (Cn Z h (λs h=>?_) (λs h=>?_))
 .refine Gc 1 Z (DSs 9 Z (D 9 Z (Eg Z ?_)));refine vH (Y1 (xs:=[.tmp 367,.tmp 370]) JP Z Z Z Z Z ⟨Z,Z,trivial⟩ Z) ?_;refine Fg 8 Z Z ?_;obtain rfl:=Oi h;exact Rx [0,1,3,2] [4,5] Z (QU Z Z (QlU.cons (QE EY EW Z Z Z) (QlU.cons Qd6.tmp QlU.nil))) ⟨Z,Z⟩
 refine Gc 6 Z (Cn Z h (λt h=>?_) (λt h=>?_))
 .refine Gc 10 Z ?_;obtain rfl:=Oi h;exact Rx [0,1,2] [4,5] Z (QU Z Z (QlU.cons (QE EY EW Z Z Z) (QlU.cons Qd6.tmp QlU.nil))) ⟨Z,Z⟩
 refine Gc 6 Z (Cn Z h (λu h=>?_) (λu h=>?_))
 .refine Gc 1 Z (DSs 12 Z (D 12 Z (Eg Z ?_)));refine vH (Y1 (xs:=[.tmp 383,.tmp 389]) JP Z Z Z Z Z ⟨Z,Z,trivial⟩ Z) ?_;refine Fg 8 Z Z ?_;obtain rfl:=Oi h;exact Rx [0,1,3,2] [4,5] Z (QU Z Z (QlU.cons (QE EY EW Z Z Z) (QlU.cons Qd6.tmp QlU.nil))) ⟨Z,Z⟩
 refine Gc 11 Z ?_;obtain rfl:=Oi h;exact Rx [0,1,2] [4,5] Z (QU Z Z (QlU.cons (QE EY EW Z Z Z) (QlU.cons Qd6.tmp QlU.nil))) ⟨Z,Z⟩
def F_e(n:Nat):Option Unit:=some ()
theorem k_e(n:Nat):Ks (F_e n) 194 [] [] (λ_=>.bool true):=by
 exact Kg 11 func194 Z Z Z Z λr h=>Rt h 0 []
def F_iq(n:Nat)(a:Fact):Option Unit:=some ()
theorem k_iq(n:Nat)(a:Fact):Ks (F_iq n a) 195 [.ptr 0 0] [.cells 269 [.ptr 1 21],.cells 68 (Fact.c a)] (λ_=>.bool (decide (a.Sync.Min<=a.Sync.Max))):=by
 exact Kg 6 func195 Z Z Z Z λr h=>DSs 8 Z (D 8 Z (Eg Z (Gt 5 Z h 1 [0,1])))
def F_ij(n:Nat)(a:Fact):Option Unit:=some ()
theorem k_ij(n:Nat)(a:Fact):Ks (F_ij n a) 196 [.ptr 0 0] [.cells 270 [.ptr 1 29],.cells 68 (Fact.c a)] (λ_=>.bool (decide (a.Hand.Lo<=a.Hand.Hi))):=by
 exact Kg 6 func196 Z Z Z Z λr h=>DSs 8 Z (D 8 Z (Eg Z (Gt 5 Z h 1 [0,1])))
def F_jo(n:Nat)(a:Fact):Option Unit:=some ()
theorem k_jo(n:Nat)(a:Fact):Ks (F_jo n a) 197 [.ptr 0 0] [.cells 271 [.ptr 1 33],.cells 68 (Fact.c a)] (λ_=>.bool (decide (a.Silence.Lo<=a.Silence.Hi))):=by
 exact Kg 6 func197 Z Z Z Z λr h=>DSs 8 Z (D 8 Z (Eg Z (Gt 5 Z h 1 [0,1])))
def F_jx(n:Nat)(a:Fact):Option Unit:=some ()
theorem k_jx(n:Nat)(a:Fact):Ks (F_jx n a) 198 [.ptr 0 0] [.cells 272 [.ptr 1 37],.cells 68 (Fact.c a)] (λ_=>.bool (decide (a.Pair.A<a.Pair.B))):=by
 exact Kg 6 func198 Z Z Z Z λr h=>DSs 8 Z (D 8 Z (Eg Z (Gt 5 Z h 1 [0,1])))
def F_br(n:Nat)(a:Fact):Option Unit:=some ()
theorem k_br(n:Nat)(a:Fact):Kq (F_br n a) 141 [.ptr 0 0] [.cells 68 (Fact.c a)] (λ_=>.osl 1 0 4 3) (λ_=>[.cells 68 (Fact.c a),.rowr 230 3 [[.ptr 0 3,I 1,I 13],[.ptr 0 0,I 0,I 31],[.ptr 0 1,I 1,I 1048576],[.ptr 0 2,I 0,I 1099511627776]]]):=by
 refine Kg 6 func141 Z Z Z Z λr h=>DSs 20 Z (D 20 Z (Eg Z ?_));refine vH (Y1 (xs:=[.tmp 7,.tmp 12,.tmp 17,.tmp 22]) JP Z Z Z Z Z ⟨Z,Z,Z,Z,trivial⟩ Z) ?_;exact FE Z (Gt 4 Z h 2 [0,1])
def F_di(n:Nat)(d:Fact)(i:Int)(e:Fact):Option (List Ent):=((F_bn n ({d with Kind:=e.Kind:Fact}) i).bind λf=>(match f with|.c0 j=>(some ([⟨false,4,1,9999⟩,⟨false,5,0,7⟩,⟨false,6,0,31⟩,⟨false,7,(-1099511627776),1099511627776⟩,⟨false,8,0,120⟩,⟨false,9,0,1048576⟩,⟨false,10,0,9999⟩,⟨false,11,0,1048576⟩]:List Ent))|.c1 k=>(some ([⟨false,12,0,39⟩,⟨false,13,0,255⟩,⟨false,14,0,1048576⟩,⟨false,15,(-1099511627776),1099511627776⟩]:List Ent))|.c2 l=>(some ([⟨false,16,0,39⟩,⟨false,17,0,255⟩,⟨false,18,(-1099511627776),1099511627776⟩,⟨false,19,(-1099511627776),1099511627776⟩,⟨false,20,0,1099511627776⟩]:List Ent))|.c3 m=>(some ([⟨false,21,0,39⟩,⟨false,22,0,255⟩,⟨false,23,(-1099511627776),1099511627776⟩,⟨false,24,0,39⟩,⟨false,25,0,255⟩,⟨false,26,(-1099511627776),1099511627776⟩,⟨false,27,(-1099511627776),1099511627776⟩,⟨false,28,(-1099511627776),1099511627776⟩]:List Ent))|.c4 p=>(some ([⟨false,29,1,9999⟩,⟨false,30,0,255⟩,⟨false,31,(-1099511627776),1099511627776⟩,⟨false,32,(-1099511627776),1099511627776⟩]:List Ent))|.c5 q=>(some ([⟨false,33,0,39⟩,⟨false,34,0,255⟩,⟨false,35,(-1099511627776),1099511627776⟩,⟨false,36,(-1099511627776),1099511627776⟩]:List Ent))|.c6 r=>(some ([⟨false,37,1,9999⟩,⟨false,38,1,9999⟩]:List Ent))|.c7 s=>(some ([⟨false,39,1,1048576⟩,⟨false,40,1,9999⟩,⟨false,41,0,31⟩,⟨false,42,0,255⟩]:List Ent))|.c8 t=>(some ([⟨false,43,1,1048576⟩,⟨false,44,0,9999⟩,⟨false,45,0,1125899906842624⟩,⟨false,46,0,1⟩]:List Ent))|.c9 a=>(some ([⟨false,47,1,1048576⟩,⟨false,48,1,2⟩,⟨false,49,1,5⟩,⟨false,50,a.1,a.2.1⟩,⟨false,51,a.2.2.1,a.2.2.2.1⟩,⟨false,52,a.2.2.2.2.1,a.2.2.2.2.2⟩]:List Ent))|.c10 u=>(some ([⟨false,53,1,1048576⟩,⟨true,0,0,1⟩]:List Ent))|.c11 w=>(some [])|.c12 x=>(some ([⟨false,55,0,31⟩,⟨false,56,1,1048576⟩]:List Ent))|.c13 y=>(some [])):Option (List Ent)).bind λg=>(F_br n ({d with Kind:=e.Kind:Fact})).bind λz=>(app ([⟨false,3,1,13⟩,⟨false,0,0,31⟩,⟨false,1,1,1048576⟩,⟨false,2,0,1099511627776⟩]:List Ent) g).bind λh=>some h
theorem k_di(n:Nat)(g:Fact)(k:Int)(f:Fact):Kq (F_di n g k f) 140 [.ptr 0 0,.ptr 1 0,.ptr 2 0] [.cells 68 (Fact.c g),.cells 3 [I k],.cells 68 (Fact.c f)] (λr=>.osl 3 0 r.length 3) (λr=>[.cells 68 (Fact.c ({g with Kind:=f.Kind:Fact})),.cells 3 [I k],.cells 68 (Fact.c f),.ents 230 0 1 r]):=by
 refine Kg 16 func140 Z Z Z Z λr h=>Bd h λe a h=>Cg e [0,1,2,0,0] [0] (λ_=>[(6,.ptr 3 0)]) (λe=>[(3,.cells 220 [.osl 4 0 e.length 3,.any]),(4,.ents 230 0 1 e)]) Zf ?_ ?_
 .refine G0 3 Z (Bd a λs l a=>?_);refine QX [0,1] (OpC.fn call139 Z Z Z) (k_bn _ _ _ _ l) ?_;intro ra rH d;rcases s with u|w|y|z|B|E|F|G|H|J|L|M|N|O
  iterate 3 obtain⟨rfl,rfl⟩:=d;refine FE Z (TE 3 0 1 Z Z (Fg 7 Z Z ?_));cases a;refine Qar ?_;refine Em (Q8 (i:=5) (m:=1) Z) ?_;exact Lr [0,1,2,5,3]
  iterate 4 obtain⟨rfl,rfl⟩:=d;refine FE Z (TE 3 0 1 Z Z (Fg 7 Z Z ?_));cases a;refine Qar ?_;refine Em (Q8 (i:=6) (m:=1) Z) ?_;exact Lr [0,1,2,6,3]
  iterate 4 obtain⟨rfl,rfl⟩:=d;refine FE Z (TE 3 0 1 Z Z (Fg 7 Z Z ?_));cases a;refine Qar ?_;refine Em (Q8 (i:=5) (m:=1) Z) ?_;exact Lr [0,1,2,5,3]
  .obtain⟨rfl,rfl⟩:=d;refine Fg 7 Z Z ?_;cases a;refine Qar ?_;refine Em (Q8 (i:=4) (m:=1) Z) ?_;refine Em (Le.phantomE (i:=4) (m:=0) (t:=230) (b1:=0) (b2:=1) Z Z Z) ?_;exact Lr [0,1,2,4,5]
  .obtain⟨rfl,rfl⟩:=d;refine FE Z (TE 3 0 1 Z Z (Fg 7 Z Z ?_));cases a;refine Qar ?_;refine Em (Q8 (i:=5) (m:=1) Z) ?_;exact Lr [0,1,2,5,3]
  .obtain⟨rfl,rfl⟩:=d;refine Fg 7 Z Z ?_;cases a;refine Qar ?_;refine Em (Q8 (i:=4) (m:=1) Z) ?_;refine Em (Le.phantomE (i:=4) (m:=0) (t:=230) (b1:=0) (b2:=1) Z Z Z) ?_;exact Lr [0,1,2,4,5]
 refine Gc 1 Z (DAs 4 1 [0,1,3,3] (by kernel_rfl) (Da 1 Z ?_));obtain⟨P,p,h⟩:=YB h;refine DA.op (x:=.osl 5 0 4 3) (H1:=[.cells 68 (Fact.c ({g with Kind:=f.Kind:Fact})),.cells 3 [I k],.cells 68 (Fact.c f),.cells 220 [.osl 4 0 e.length 3,.any],.ents 230 0 1 e,.rowr 230 3 [[.ptr 0 3,I 1,I 13],[.ptr 0 0,I 0,I 31],[.ptr 0 1,I 1,I 1048576],[.ptr 0 2,I 0,I 1099511627776]]]) ?_ ?_
 .refine QX [0] (OpC.fn call141 Z Z Z) (k_br _ _ _ p) ?_;rintro _ _ ⟨rfl,rfl⟩;exact FE Z Wp
 refine Db 1 Z ?_;refine DB.wo2 (x:=.osl 4 0 e.length 3) (Ld isAgg218 Z Wp) (Ld isAgg218 Z Wp) ?_;refine DB.done Z (TE 5 0 1 Z Z (FE Z (Bd h λQ q h=>?_)));refine vH (Qh8 (i:=5) (j:=4) q JP E9 Z) ?_;exact FE Z (Gt 4 Z h 5 [0,1,2,6])
def F_fu(n:Nat)(f:Fact)(b2:Int)(g:List Ent)(p:List Ent)(a:(List Int)×Fact×Int×Int):Option (Ctl ((List Int)×Fact×Int×Int) (Ctl ((List Int)×Fact×Int) ((List Int)×Bool))):=(bif decide (a.2.2.2<(g.length:Int))then(idx g a.2.2.2).bind λd=>(Qg9 (Fact.c f) b2 d).bind λh=>(bif decide (h<d.lo)then some (.done (.done ([],false)))else(Qg9 (Fact.c f) b2 d).bind λi=>(bif decide (d.hi<i)then some (.done (.done ([],false)))else(idx p a.2.2.2).bind λj=>(Qg9 (Fact.c f) b2 d).bind λk=>(Qla Fact.put a.2.1 a.2.2.1 j k).bind λe=>(Qg9 (Fact.c f) b2 d).bind λl=>(app a.1 [l]).bind λm=>some (.cont (m,e.1,e.2,i64.wrap (a.2.2.2+1)))))else some (.done (.cont (a.1,a.2.1,a.2.2.1))))
def F_ch(n:Nat)(a:Fact):Option ((List Int)×Bool):=((bif a.Appeal.Suspends then some 1 else some 0):Option Int).bind λb2=>((F_bn n a b2).bind λh=>(match h with|.c0 m=>((F_e n).bind λp=>some (.cont ([⟨false,4,1,9999⟩,⟨false,5,0,7⟩,⟨false,6,0,31⟩,⟨false,7,(-1099511627776),1099511627776⟩,⟨false,8,0,120⟩,⟨false,9,0,1048576⟩,⟨false,10,0,9999⟩,⟨false,11,0,1048576⟩]:List Ent)))|.c1 q=>((F_e n).bind λr=>some (.cont ([⟨false,12,0,39⟩,⟨false,13,0,255⟩,⟨false,14,0,1048576⟩,⟨false,15,(-1099511627776),1099511627776⟩]:List Ent)))|.c2 s=>((F_e n).bind λt=>some (.cont ([⟨false,16,0,39⟩,⟨false,17,0,255⟩,⟨false,18,(-1099511627776),1099511627776⟩,⟨false,19,(-1099511627776),1099511627776⟩,⟨false,20,0,1099511627776⟩]:List Ent)))|.c3 u=>((F_iq n a).bind λw=>(bif (!(decide (a.Sync.Min<=a.Sync.Max)))then some (.done ([],false))else some (.cont ([⟨false,21,0,39⟩,⟨false,22,0,255⟩,⟨false,23,(-1099511627776),1099511627776⟩,⟨false,24,0,39⟩,⟨false,25,0,255⟩,⟨false,26,(-1099511627776),1099511627776⟩,⟨false,27,(-1099511627776),1099511627776⟩,⟨false,28,(-1099511627776),1099511627776⟩]:List Ent))))|.c4 x=>((F_ij n a).bind λy=>(bif (!(decide (a.Hand.Lo<=a.Hand.Hi)))then some (.done ([],false))else some (.cont ([⟨false,29,1,9999⟩,⟨false,30,0,255⟩,⟨false,31,(-1099511627776),1099511627776⟩,⟨false,32,(-1099511627776),1099511627776⟩]:List Ent))))|.c5 z=>((F_jo n a).bind λE=>(bif (!(decide (a.Silence.Lo<=a.Silence.Hi)))then some (.done ([],false))else some (.cont ([⟨false,33,0,39⟩,⟨false,34,0,255⟩,⟨false,35,(-1099511627776),1099511627776⟩,⟨false,36,(-1099511627776),1099511627776⟩]:List Ent))))|.c6 F=>((F_jx n a).bind λG=>(bif (!(decide (a.Pair.A<a.Pair.B)))then some (.done ([],false))else some (.cont ([⟨false,37,1,9999⟩,⟨false,38,1,9999⟩]:List Ent))))|.c7 H=>((F_e n).bind λJ=>some (.cont ([⟨false,39,1,1048576⟩,⟨false,40,1,9999⟩,⟨false,41,0,31⟩,⟨false,42,0,255⟩]:List Ent)))|.c8 L=>((F_e n).bind λM=>some (.cont ([⟨false,43,1,1048576⟩,⟨false,44,0,9999⟩,⟨false,45,0,1125899906842624⟩,⟨false,46,0,1⟩]:List Ent)))|.c9 e=>((F_e n).bind λN=>some (.cont ([⟨false,47,1,1048576⟩,⟨false,48,1,2⟩,⟨false,49,1,5⟩,⟨false,50,e.1,e.2.1⟩,⟨false,51,e.2.2.1,e.2.2.2.1⟩,⟨false,52,e.2.2.2.2.1,e.2.2.2.2.2⟩]:List Ent)))|.c10 O=>((F_e n).bind λP=>some (.cont ([⟨false,53,1,1048576⟩,⟨true,0,0,1⟩]:List Ent)))|.c11 Q=>((F_e n).bind λR=>some (.cont []))|.c12 T=>((F_e n).bind λV=>some (.cont ([⟨false,55,0,31⟩,⟨false,56,1,1048576⟩]:List Ent)))|.c13 W=>(some (.done ([],false)))):Option (Ctl (List Ent) ((List Int)×Bool))).bind λi=>match i with|.cont f=>((F_br n a).bind λX=>(app ([⟨false,3,1,13⟩,⟨false,0,0,31⟩,⟨false,1,1,1048576⟩,⟨false,2,0,1099511627776⟩]:List Ent) f).bind λj=>(F_di n ({Uk with Ruling:={Ur with Kind:=a.Ruling.Kind:Ruling}:Fact}) 0 a).bind λk=>(iter (F_fu n a b2 j k) n ([],({({Uk with Ruling:={Ur with Kind:=a.Ruling.Kind:Ruling}:Fact})with Kind:=a.Kind:Fact}),0,0):Option (Ctl ((List Int)×Fact×Int) ((List Int)×Bool))).bind λl=>match l with|.cont d=>(((bif (a.Kind != 10)then some ({d.2.1 with Ruling:={d.2.1.Ruling with Kind:=0:Ruling}:Fact})else some d.2.1):Option Fact).bind λg=>some (d.1,(({g with Appeal:={Case:=g.Appeal.Case,Suspends:=(d.2.2==1):Appeal}:Fact})==a)))|.done d=>some d)|.done f=>some f
theorem k_ch(n:Nat)(E:Fact):Kq (F_ch n E) 67 [.agg (Fact.c E)] [] (λr=>.tup [.osl 0 0 r.1.length 1,.bool r.2]) (λr=>[.row 3 1 (map (Qe .i64) r.1)]):=by
 refine Kg 21 func67 Z Z Z Z λr h=>Bd h λb2 M h=>Ct b2 [0,1] [1,2,4] Ze (λb2=>[(1,.cells 3 [I b2])]) Zf ?_ (λenv H L=>?_)
 .refine G0 0 Z (Cn Z M (λan M=>?_) (λan M=>?_))
  .exact YC 3 Z M [0,1]
  exact YC 1 Z M [0,1]
 refine Gx 1 Z (Qd L (Gc 7 Z (Bd h λao a h=>Ct3E (b:=ao) (λy=>[(1,.ptr 0 0),(2,.nils),(5,.ptr 1 0),(6,.ptr 2 0)]) (λy=>[.cells 68 (Fact.c E),.cells 68 (Fact.c E),.cells 220 [.osl 3 0 y.length 3,.any],.ents 230 1 4 y,.cells 3 [I b2]]) ?_ (λy env H hb L=>?_))))
 .refine Gc 1 Z (Bd a λaq aa a=>?_);refine QX [2,1] (OpC.fn call139 Z Z Z) (k_bn _ _ _ _ aa) ?_;intro ra rH w;rcases aq with bm|bn|bo|bp|bq|br|bs|bt|bu|bv|bw|bx|bz|ca
  .obtain⟨rfl,rfl⟩:=w;refine FE Z (TE 3 2 1 Z Z (Fg 15 Z Z (Cz [] a (k_e _) Z λcb ax a=>Go 6 Z ?_)));cases a;refine Y3 Z ?_;refine Em (Q8 (i:=5) (m:=1) Z) ?_;exact Lr [0,2,5,3,1]
  .obtain⟨rfl,rfl⟩:=w;refine FE Z (TE 3 2 1 Z Z (Fg 15 Z Z (Cz [] a (k_e _) Z λcc ay a=>Go 6 Z ?_)));cases a;refine Y3 Z ?_;refine Em (Q8 (i:=5) (m:=1) Z) ?_;exact Lr [0,2,5,3,1]
  .obtain⟨rfl,rfl⟩:=w;refine FE Z (TE 3 2 1 Z Z (Fg 15 Z Z (Cz [] a (k_e _) Z λcd az a=>Go 6 Z ?_)));cases a;refine Y3 Z ?_;refine Em (Q8 (i:=5) (m:=1) Z) ?_;exact Lr [0,2,5,3,1]
  .obtain⟨rfl,rfl⟩:=w;refine FE Z (TE 3 2 1 Z Z (Fg 15 Z Z (Cz [4,2] a (k_iq _ _) Z λce ba a=>Go 4 Z (Cn Z a (λab a=>?_) (λab a=>?_)))))
   .refine Gc 7 Z ?_;cases a;refine Qq (Gx 1 Z ?_);obtain rfl:=Oi h;refine R2 2 3 Z Z ?_;refine Em (Eo (s:=2) (k:=1) (t:=3) (XO Z) Z) ?_;exact Lr [7]
   refine Gc 1 Z ?_;cases a;refine Y3 Z ?_;refine Em (Q8 (i:=6) (m:=1) Z) ?_;exact Lr [0,2,6,3,1]
  .obtain⟨rfl,rfl⟩:=w;refine FE Z (TE 3 2 1 Z Z (Fg 15 Z Z (Cz [4,2] a (k_ij _ _) Z λcf bb a=>Go 4 Z (Cn Z a (λac a=>?_) (λac a=>?_)))))
   .refine Gc 7 Z ?_;cases a;refine Qq (Gx 1 Z ?_);obtain rfl:=Oi h;refine R2 2 3 Z Z ?_;refine Em (Eo (s:=2) (k:=1) (t:=3) (XO Z) Z) ?_;exact Lr [7]
   refine Gc 1 Z ?_;cases a;refine Y3 Z ?_;refine Em (Q8 (i:=6) (m:=1) Z) ?_;exact Lr [0,2,6,3,1]
  .obtain⟨rfl,rfl⟩:=w;refine FE Z (TE 3 2 1 Z Z (Fg 15 Z Z (Cz [4,2] a (k_jo _ _) Z λcg bc a=>Go 4 Z (Cn Z a (λae a=>?_) (λae a=>?_)))))
   .refine Gc 7 Z ?_;cases a;refine Qq (Gx 1 Z ?_);obtain rfl:=Oi h;refine R2 2 3 Z Z ?_;refine Em (Eo (s:=2) (k:=1) (t:=3) (XO Z) Z) ?_;exact Lr [7]
   refine Gc 1 Z ?_;cases a;refine Y3 Z ?_;refine Em (Q8 (i:=6) (m:=1) Z) ?_;exact Lr [0,2,6,3,1]
  .obtain⟨rfl,rfl⟩:=w;refine FE Z (TE 3 2 1 Z Z (Fg 15 Z Z (Cz [4,2] a (k_jx _ _) Z λch bd a=>Go 4 Z (Cn Z a (λaf a=>?_) (λaf a=>?_)))))
   .refine Gc 7 Z ?_;cases a;refine Qq (Gx 1 Z ?_);obtain rfl:=Oi h;refine R2 2 3 Z Z ?_;refine Em (Eo (s:=2) (k:=1) (t:=3) (XO Z) Z) ?_;exact Lr [7]
   refine Gc 1 Z ?_;cases a;refine Y3 Z ?_;refine Em (Q8 (i:=6) (m:=1) Z) ?_;exact Lr [0,2,6,3,1]
  .obtain⟨rfl,rfl⟩:=w;refine FE Z (TE 3 2 1 Z Z (Fg 15 Z Z (Cz [] a (k_e _) Z λci be a=>Go 6 Z ?_)));cases a;refine Y3 Z ?_;refine Em (Q8 (i:=5) (m:=1) Z) ?_;exact Lr [0,2,5,3,1]
  .obtain⟨rfl,rfl⟩:=w;refine FE Z (TE 3 2 1 Z Z (Fg 15 Z Z (Cz [] a (k_e _) Z λcj bf a=>Go 6 Z ?_)));cases a;refine Y3 Z ?_;refine Em (Q8 (i:=5) (m:=1) Z) ?_;exact Lr [0,2,5,3,1]
  .obtain⟨rfl,rfl⟩:=w;refine FE Z (TE 3 2 1 Z Z (Fg 15 Z Z (Cz [] a (k_e _) Z λck bg a=>Go 6 Z ?_)));cases a;refine Y3 Z ?_;refine Em (Q8 (i:=5) (m:=1) Z) ?_;exact Lr [0,2,5,3,1]
  .obtain⟨rfl,rfl⟩:=w;refine FE Z (TE 3 2 1 Z Z (Fg 15 Z Z (Cz [] a (k_e _) Z λcl bh a=>Go 6 Z ?_)));cases a;refine Y3 Z ?_;refine Em (Q8 (i:=5) (m:=1) Z) ?_;exact Lr [0,2,5,3,1]
  .obtain⟨rfl,rfl⟩:=w;refine Fg 15 Z Z (Cz [] a (k_e _) Z λcm bi a=>Go 6 Z ?_);cases a;refine Y3 Z ?_;refine Em (Q8 (i:=4) (m:=1) Z) ?_;refine Em (Le.phantomE (i:=4) (m:=0) (t:=230) (b1:=2) (b2:=1) Z Z Z) ?_;exact Lr [0,2,4,5,1]
  .obtain⟨rfl,rfl⟩:=w;refine FE Z (TE 3 2 1 Z Z (Fg 15 Z Z (Cz [] a (k_e _) Z λcn bj a=>Go 6 Z ?_)));cases a;refine Y3 Z ?_;refine Em (Q8 (i:=5) (m:=1) Z) ?_;exact Lr [0,2,5,3,1]
  .obtain⟨rfl,rfl⟩:=w;refine Fg 28 Z Z ?_;cases a;refine Qq (Gx 1 Z ?_);obtain rfl:=Oi h;refine R2 2 3 Z Z ?_;refine Em (Eo (s:=2) (k:=1) (t:=3) (XO Z) Z) ?_;exact Lr [5]
 subst hb;refine Gx 1 Z (Qd L (Gc 12 Z (DAs 3 0 [1,3,3] (by kernel_rfl) ?_)));obtain⟨co,ag,h⟩:=YB h;refine DA.op (x:=.osl 6 0 4 3) (H1:=[.cells 68 (Fact.c E),.cells 68 (Fact.c E),.cells 220 [.osl 3 0 y.length 3,.any],.ents 230 1 4 y,.cells 3 [I b2],.cells 68 (Fact.c Uk),.rowr 230 3 [[.ptr 1 3,I 1,I 13],[.ptr 1 0,I 0,I 31],[.ptr 1 1,I 1,I 1048576],[.ptr 1 2,I 0,I 1099511627776]]]) ?_ ?_
 .refine QX [1] (OpC.fn call141 Z Z Z) (k_br _ _ _ ag) ?_;rintro _ _ ⟨rfl,rfl⟩;exact FE Z Wp
 refine Db 1 Z ?_;refine DB.wo2 (x:=.osl 3 0 y.length 3) (Ld isAgg218 Z Wp) (Ld isAgg218 Z Wp) ?_;refine DB.done Z (TE 6 1 4 Z Z (FE Z (Bd h λar ah h=>?_)));refine vH (Qh8 (i:=6) (j:=3) ah JP E9 Z) ?_;refine Fg 22 Z Z (Cd [5,8,0] h (k_di _ _ _ _) Z λau bk h=>Fg 11 Z Z (Bd h λav ai h=>CtE (b:=av) [0,1,2,3] [1] (λg=>[(2,.osl 1 0 g.1.length 1),(7,.ptr 2 0),(10,.ptr 3 0)]) (λg=>[(1,.row 3 1 (map (Qe .i64) g.1)),(2,.cells 68 (Fact.c g.2.1)),(3,.cells 3 [I g.2.2])]) Zf ?_ (λg env H aw L=>?_)))
 .refine G0 1 Z (Lp [0,0,5,8,9,7,1,4] [1,7,10,11,42,43] (λl=>[(2,.osl 1 0 l.1.length 1),(44,I l.2.2.2)]) (λl=>[(1,.row 3 1 (map (Qe .i64) l.1)),(2,.cells 68 (Fact.c l.2.1)),(3,.cells 3 [I l.2.2.1]),(4,.ents 230 2 3 au),(5,.ents 230 6 7 ar)]) ai Zf ?_ ?_)
  .refine Em (Eo (s:=2) (k:=1) (t:=3) (XO Z) Z) ?_;exact Lr [0,10,5,8,9,7,1,4]
  intro l bl d F;refine G0 6 Z (Yd Z d (λO d=>?_) (λO d=>?_))
  .exact Gc 2 Z (Qh d (Gx 1 Z (JB F d Z (Lr [0,1,2,3]))))
  refine Gc 7 Z (Bd d λz he106 d=>?_);refine vX (.ptr 5 (toNat l.2.2.2*3)) (Qp he106 Z E9 GH) ?_;refine vX (.agg [QiQ 6 7 z,I z.lo,I z.hi]) (Qn Z isAgg230 GH Z (Pts.ents (f:=0) (Qae he106).2) Z Z) ?_;refine Go 7 Z (DSs 16 Z (D 2 Z ?_));refine DS.wo (x:=QiQ 6 7 z) ?_ ?_
  .exact S Z Wp
  obtain⟨aj,P,d⟩:=YB d;refine DS.v (x:=(I aj)) (QcK P ED) ?_;refine D 5 Z (QbE 8 d Z Z Z (λQ d=>?_) (λQ d=>?_))
  .refine D 7 Z (Eg Z (Go 15 Z (Qw d ?_)));obtain rfl:=Oj F d;refine Gx 1 Z (Qq (Gx 1 Z ?_));obtain rfl:=Oi h;refine R2 2 3 Z Z ?_;refine Em (Eo (s:=2) (k:=1) (t:=3) (XO Z) Z) ?_;exact Lr [9]
  .refine D 2 Z ?_;refine DS.wo (x:=QiQ 6 7 z) ?_ ?_
   .exact Sg (gT Z) Z Wp
   obtain⟨ak,R,d⟩:=YB d;refine DS.v (x:=(I ak)) (QcK R ED) ?_ (hg:=(gT Z));refine D 3 Z (Eg Z (Go 4 Z (Cn Z d (λT d=>?_) (λT d=>?_))))
   .refine Gc 10 Z (Qw d ?_);obtain rfl:=Oj F d;refine Gx 1 Z (Qq (Gx 1 Z ?_));obtain rfl:=Oi h;refine R2 2 3 Z Z ?_;refine Em (Eo (s:=2) (k:=1) (t:=3) (XO Z) Z) ?_;exact Lr [9]
   refine Gc 3 Z (DSs 9 Z (D 2 Z ?_));obtain⟨al,he111,d⟩:=YB d;refine DS.v (x:=(.ptr 4 (toNat l.2.2.2*3))) (Qp he111 Z E9 GH) ?_;refine DS.wo (x:=.ptr 4 (toNat l.2.2.2*3)) ?_ ?_
   .exact Fp QoY Z Wp
   refine DS.v (x:=(QiQ 2 3 al)) (Ey Z isAgg224 Z (Pts.ents (f:=0) (Qae he111).2)) ?_;refine D 2 Z ?_;refine DS.wo (x:=QiQ 6 7 z) ?_ ?_
   .exact S Z Wp
   obtain⟨am,V,d⟩:=YB d;refine DS.v (x:=(I am)) (QcK V ED) ?_;refine Eg Z (S Z (Bd d λG hq113 d=>?_));refine vU (QlZ (c:=Fact.c) (f:=l.2.1) (f':=G.1) (s':=G.2) hq113 Qrb EF) ?_;refine QeB (H:=[_,_,.cells 68 (Fact.c G.1),.cells 3 [I G.2],_,_,_,_,_]) Z ?_;refine Go 6 Z (S Z (Bd d λJ W d=>?_));refine vX (I J) (QcK W ED) ?_;refine vH (Ej (xs:=[.tmp 81]) (es:=map (Qe .i64) [J]) Qv Z Z Z Z Z ⟨Z,trivial⟩ Z Z) ?_;refine aV (.osl 9 0 ([J].length) 1) [_,_,_,_,_,_,_,_,_,.row 3 1 (map (Qe .i64) [J])] Z Z ?_;refine Bd d λN X d=>vH (Qg (e:=(Qe .i64)) X Qv EC (QM (i:=9))) ?_;refine aV (.osl 10 0 N.length 1) [_,.dead,_,_,_,_,_,_,_,_,.row 3 1 (map (Qe .i64) N)] Z Z ?_;exact Go 8 Z (Qf d (Lr [0,10,2,3,4,5,6,7]))
 subst aw;refine Gx 1 Z (Qd L (Gc 8 Z (Bd h λu B h=>Cg u [0,1,2,3] [1,2,7,10] Ze (λu=>[(2,.cells 68 (Fact.c u))]) Zf ?_ ?_)))
 .refine G0 0 Z (Cn Z B (λY B=>?_) (λY B=>?_))
  .exact YC 5 Z B [0,1,2,3]
  exact YC 1 Z B [0,1,2,3]
 refine Gc 10 Z ?_;refine TC.draw0 5 [94,95,96,97,2] [.osl 1 0 g.1.length 1,.agg (Fact.c ({u with Appeal:={Case:=u.Appeal.Case,Suspends:=(g.2.2==1):Appeal}:Fact})),.agg (Fact.c E),.bool (({u with Appeal:={Case:=u.Appeal.Case,Suspends:=(g.2.2==1):Appeal}:Fact})==E),.osl 1 0 g.1.length 1] draws Z Z Z ?_ ?_
 .refine Oq.c ?_ (ov (ov (Oq.c ?_ (ov (Oq.n)))))
  .refine Om Z (sP 4 sN) ?_;exact S Z Wp
  .refine Om Z (sD 1 (sD 2 sN)) ?_;refine vX (.bool (({u with Appeal:={Case:=u.Appeal.Case,Suspends:=(g.2.2==1):Appeal}:Fact})==E)) (Qh7 (p:={u with Appeal:={Case:=u.Appeal.Case,Suspends:=(g.2.2==1):Appeal}:Fact}) (q:=E) QlH Z Z) ?_;exact Wp
 refine Go 4 Z ?_;obtain rfl:=Oi h;exact R2 2 3 Z Z (Lr [1])
def F_au(n:Nat)(a:Fact):Option Int:=(F_ch n a).bind λd=>(bif (!d.2)then some 120 else some 0)
theorem k_au(n:Nat)(a:Fact):Ks (F_au n a) 33 [.agg (Fact.c a)] [] (λr=>I r):=by
 refine Kg 10 func33 Z Z Z Z λr h=>Cd [] h (k_ch _ _) Z λf e h=>Fg 13 Z Z (Cn Z h (λd h=>?_) (λd h=>?_))
 .exact QG 7 Z h 2 []
 exact QG 8 Z h 2 []
def F_bu(n:Nat)(a:List Fact):Option (List Fact):=isNil a (some []) ((app ([]:List Fact) a).bind λd=>some d)
theorem k_bu(n:Nat)(a:List Fact):Kq (F_bu n a) 35 [.rsl 57 (map Fact.c a)] [] (λr=>.osl 0 0 r.length 57) (λr=>[.row 68 57 (map Fact.c r)]):=by
 refine Kg 9 func35 Z Z Z Z λr h=>?_;refine Qkz (e:=Fact.c) (l:=a) GM Z (λb1 d=>?_);have hkb1:=QjQ h b1 d;cases b1
 .have h:=hkb1.2 Z;refine Go 7 Z (vH (Ej (xs:=[]) (es:=map Fact.c []) YF Z Z Z Z Z trivial Z Z) ?_);refine Fg 1 Z Z (Bd h λg f h=>vH (Qg (e:=Fact.c) f YF EA Jd) ?_);exact FE Z (Gt 4 Z h 2 [1])
 .have h:=hkb1.1 Z;refine Go 10 Z ?_;obtain rfl:=Oi h;refine R1 2 Z ?_;refine Em (Eo (s:=2) (k:=57) (t:=68) (XO Z) Z) ?_;exact Lr [0]
def F_cf(n:Nat)(a:Int):Option Unit:=some ()
theorem k_cf(n:Nat)(a:Int):Ks (F_cf n a) 185 [I a] [] (λ_=>.bool (a != a)):=by
 exact Kg 14 func185 Z Z Z Z λr h=>Rt h 2 []
def F_an(n:Nat)(d:Int)(a:Int):Option Int:=(F_cf n d).bind λe=>(F_cf n a).bind λf=>(bif (d != d)then(bif (a != a)then some 0 else some (-1))else(bif (a != a)then some 1 else(bif decide (d<a)then some (-1)else(bif decide (a<d)then some 1 else some 0))))
theorem k_an(n:Nat)(a:Int)(d:Int):Ks (F_an n a d) 122 [I a,I d] [] (λr=>I r):=by
 refine Kg 8 func122 Z Z Z Z λr h=>Cz [] h (k_cf _ _) Z λm k h=>Go 6 Z (Cz [] h (k_cf _ _) Z λp l h=>Go 9 Z (Cn Z h (λe h=>?_) (λe h=>?_)))
 .refine Gc 6 Z (Cn Z h (λf h=>?_) (λf h=>?_))
  .exact QG 8 Z h 4 []
  exact QG 9 Z h 4 []
 refine Gc 8 Z (Cn Z h (λg h=>?_) (λg h=>?_))
 .exact QG 7 Z h 4 []
 refine Gc 10 Z (Cn Z h (λi h=>?_) (λi h=>?_))
 .exact QG 7 Z h 4 []
 refine Gc 10 Z (Cn Z h (λj h=>?_) (λj h=>?_))
 .exact QG 7 Z h 4 []
 exact QG 8 Z h 4 []
def F_fe(n:Nat)(e:List Int)(a:Int):Option (Ctl Int (Ctl Unit Int)):=(bif decide (a<(e.length:Int))then(idx e a).bind λd=>(bif (d != 0)then some (.done (.done d))else some (.cont (i64.wrap (a+1))))else some (.done (.cont ())))
def F_gu(n:Nat)(d:List Int):Option Int:=(iter (F_fe n d) n 0:Option (Ctl Unit Int)).bind λe=>match e with|.cont a=>(some 0)|.done a=>some a
theorem k_gu(n:Nat)(j:List Int):Ks (F_gu n j) 121 [.rsl 1 (map (Qe .i64) j)] [] (λr=>I r):=by
 refine Kg 14 func121 Z Z Z Z λr h=>Lg 3 Z Z (Bd h λl m h=>CgE (b:=l) [] [3] Ze Ze Zf ?_ (λp k=>?_))
 .refine G0 1 Z (Lp [] [3,6,7] (λe=>[(8,I e)]) Ze m Zf (Lr []) λe q a d=>?_);refine G0 6 Z (Yd Z a (λf a=>?_) (λf a=>?_))
  .exact Gc 2 Z (Qh a (Gx 1 Z (JB d a Z (Lr []))))
  refine Gc 6 Z (Bd a λs g a=>Iz g Z (Go 11 Z (Cn Z a (λi a=>?_) (λi a=>?_))))
  .refine Gc 9 Z (Qw a ?_);obtain rfl:=Oj d a;exact Gx 1 Z (Qq (Gx 1 Z (Rt h 2 [])))
  exact Gc 7 Z (Qf a (Lr []))
 subst k;exact QG 7 Z h 2 []
def F_li(n:Nat)(e:Value)(rec141:Value->Option (Int×Bool))(a:Int×Int):Option (Ctl (Int×Int) (Ctl Int (Int×Bool))):=(bif decide (a.2<(e.L.length:Int))then(idx e.L a.2).bind λf=>(rec141 f).bind λd=>(bif (!d.2)then some (.done (.done (0,false)))else some (.cont ((if a.1<d.1 then d.1 else a.1),i64.wrap (a.2+1))))else some (.done (.cont a.1)))
def B_o(rec141:Value->Option (Int×Bool))(n:Nat)(a:Value):Option (Int×Bool):=((bif (a.S==[])then(bif (a.N==0)then(arr 4 (List.replicate 4 false)).bind λm=>(arr 4 ([false,((a.L.length:Int)==0),((a.L.length:Int)==0),(a.S==[])]:List Bool)).bind λe=>some e else(arr 4 (List.replicate 4 false)).bind λp=>(arr 4 ([false,((a.L.length:Int)==0),false,false]:List Bool)).bind λf=>some f)else(bif (a.N==0)then(arr 4 (List.replicate 4 false)).bind λq=>(arr 4 ([false,false,((a.L.length:Int)==0),(a.S==[])]:List Bool)).bind λg=>some g else(arr 4 (List.replicate 4 false)).bind λr=>(arr 4 ([false,false,false,false]:List Bool)).bind λh=>some h)):Option (List Bool)).bind λi=>((bif decide (a.Kind<1)then some true else(bif decide (3<a.Kind)then some true else(Qfi 4 i a.Kind).bind λj=>some (!j))):Option Bool).bind λk=>(bif k then some (0,false)else(bif decide (a.Kind<3)then some (0,true)else(iter (F_li n a rec141) n (0,0):Option (Ctl Int (Int×Bool))).bind λl=>match l with|.cont d=>(some (i64.wrap (d+1),true))|.done d=>some d))
theorem Qep(rec141:Value->Option (Int×Bool))(q:∀(j:Value) (r:Int×Bool),rec141 j=some r->Csm prog 256 [.agg (Value.c j)] [] (λr=>.tup [I r.1,.bool r.2]) r)(n:Nat)(j:Value)(r:Int×Bool)(h:B_o rec141 n j=some r):Csm prog 256 [.agg (Value.c j)] [] (λr=>.tup [I r.1,.bool r.2]) r:=by
 refine QF func256 Z Z Z ?_;refine G0 8 Z (Bd h λp a h=>Ct p [0,0] [1,2] (λ_=>[(4,.ptr 1 0)]) (λp=>[(1,.row 349 1 (map Qbk p))]) Zf ?_ (λenv H s=>?_))
 .refine G0 5 Z (Is 12 a Z (λQ a=>?_) (λQ a=>?_))
  .refine Go 2 Z (Lg 6 Z Z (Is 21 a Z (λf a=>?_) (λf a=>?_)))
   .refine Go 2 Z (Lg 6 Z Z (Fpg (gT f) Qj4 Z (Ldg (gT f) isAgg9 Z ?_)));refine vX (.bool (j.S==[])) (QeJ Z Z Z) ?_ (gT f);refine Pk f Z ?_;refine vV (x:=(.agg (List.flatten (map Qbk ([false,((j.L.length:Int)==0),((j.L.length:Int)==0),(j.S==[])]:List Bool))))) (J4 (n:=4) (k:=1) (zs:=[.bool false,.bool false,.bool false,.bool false]) E4 (ZR.agg (zc ZR.bool (zc ZR.bool (zc ZR.bool (zc ZR.bool ZL.nil))))) Ge Gi Z) ?_;refine vH (JE (n:=4) (k:=1) (e:=Qbk) (z:=false) E4 (by kernel_rfl) (by kernel_rfl) (by kernel_rfl) Z) ?_;refine FE Z (Bd a λar R a=>Bd a λag t a=>?_);obtain⟨J,rfl⟩:=JR R;refine vU (JD (e:=Qbk) (l:=(List.replicate 4 false)) (l':=ag) J (QbS t) Zf Z GN Zf Zf (congrArg (λl=>List.flatten (map Qbk l)) (JR t).2.symm)) ?_;exact FE Z (Gl 1 Z a [0,1])
   .refine Go 9 Z (KF f Z (KF f Z (KF f Z (Pk f Z ?_))));refine vV (x:=(.agg (List.flatten (map Qbk ([false,((j.L.length:Int)==0),false,false]:List Bool))))) (J4 (n:=4) (k:=1) (zs:=[.bool false,.bool false,.bool false,.bool false]) E4 (ZR.agg (zc ZR.bool (zc ZR.bool (zc ZR.bool (zc ZR.bool ZL.nil))))) Ge Gi Z) ?_;refine vH (JE (n:=4) (k:=1) (e:=Qbk) (z:=false) E4 (by kernel_rfl) (by kernel_rfl) (by kernel_rfl) Z) ?_;refine FE Z (Bd a λau T a=>Bd a λah u a=>?_);obtain⟨M,rfl⟩:=JR T;refine vU (JD (e:=Qbk) (l:=(List.replicate 4 false)) (l':=ah) M (QbS u) Zf Z GN Zf Zf (congrArg (λl=>List.flatten (map Qbk l)) (JR u).2.symm)) ?_;exact FE Z (Gl 1 Z a [0,1])
  .refine Go 9 Z (Is 21 a Z (λg a=>?_) (λg a=>?_))
   .refine Go 2 Z (Lg 6 Z Z (Fpg (gT g) Qj4 Z (Ldg (gT g) isAgg9 Z ?_)));refine vX (.bool (j.S==[])) (QeJ Z Z Z) ?_ (gT g);refine Pk g Z ?_;refine vV (x:=(.agg (List.flatten (map Qbk ([false,false,((j.L.length:Int)==0),(j.S==[])]:List Bool))))) (J4 (n:=4) (k:=1) (zs:=[.bool false,.bool false,.bool false,.bool false]) E4 (ZR.agg (zc ZR.bool (zc ZR.bool (zc ZR.bool (zc ZR.bool ZL.nil))))) Ge Gi Z) ?_;refine vH (JE (n:=4) (k:=1) (e:=Qbk) (z:=false) E4 (by kernel_rfl) (by kernel_rfl) (by kernel_rfl) Z) ?_;refine FE Z (Bd a λav V a=>Bd a λai w a=>?_);obtain⟨N,rfl⟩:=JR V;refine vU (JD (e:=Qbk) (l:=(List.replicate 4 false)) (l':=ai) N (QbS w) Zf Z GN Zf Zf (congrArg (λl=>List.flatten (map Qbk l)) (JR w).2.symm)) ?_;exact FE Z (Gl 1 Z a [0,1])
   .refine Go 9 Z (KF g Z (KF g Z (KF g Z (Pk g Z ?_))));refine vX (.agg (List.flatten (map Qbk ([false,false,false,false]:List Bool)))) (J4 (n:=4) (k:=1) (zs:=[.bool false,.bool false,.bool false,.bool false]) E4 (ZR.agg (zc ZR.bool (zc ZR.bool (zc ZR.bool (zc ZR.bool ZL.nil))))) Ge Gi Z) ?_;refine vH (JE (n:=4) (k:=1) (e:=Qbk) (z:=false) E4 (by kernel_rfl) (by kernel_rfl) (by kernel_rfl) Z) ?_;refine FE Z (Bd a λaw W a=>Bd a λaj y a=>?_);obtain⟨O,rfl⟩:=JR W;refine vU (JD (e:=Qbk) (l:=(List.replicate 4 false)) (l':=aj) O (QbS y) Zf Z GN Zf Zf (congrArg (λl=>List.flatten (map Qbk l)) (JR y).2.symm)) ?_;exact FE Z (Gl 1 Z a [0,1])
 refine Gx 1 Z (Qd s (Gc 2 Z (Bd h λB i h=>Ct B [0] [1,2] (λB=>[(50,.bool B)]) Ze Zf ?_ (λenv H s=>?_))))
 .refine G0 5 Z (Is 39 i Z (λX i=>?_) (λX i=>?_))
  .exact Gl 12 Z i [0]
  .refine Go 5 Z (Is 44 i Z (λY i=>?_) (λY i=>?_))
   .exact Gl 7 Z i [0]
   .refine Go 2 Z (Bd i λak E i=>?_);refine vX (.ptr 1 (toNat j.Kind*1)) (Qah (n:=4) (k:=1) (l:=p) E Ge Gi Z) ?_ (gT Z);refine vX (.bool ak) (Ey Z GI Z (Qo (Qa7 E).2)) ?_ (gT Z);exact Gl 3 Z i [0]
 refine Gx 1 Z (Qd s (Cn Z h (λaa h=>?_) (λaa h=>?_)))
 .refine Gc 8 Z ?_;obtain rfl:=Oi h;exact R2 2 3 Z Z (Lr [])
 refine Gc 10 Z (Cn Z h (λab h=>?_) (λab h=>?_))
 .refine Gc 8 Z ?_;obtain rfl:=Oi h;exact R2 2 3 Z Z (Lr [])
 refine Gc 7 Z (Lg 3 Z Z (Bd h λal am h=>CgE (b:=al) [] [] (λF=>[(2,I F)]) Ze Zf ?_ (λF an=>?_)))
 .refine G0 1 Z (Lp [] [55,56] (λm=>[(2,I m.1),(57,I m.2)]) Ze am Zf (Lr []) λm ax d G=>?_);refine G0 6 Z (Yd Z d (λac d=>?_) (λac d=>?_))
  .exact Gc 2 Z (Qh d (Gx 1 Z (JB G d Z (Lr []))))
  refine Gc 6 Z (Bd d λao ae d=>IzE ae (Jc ao) Z (Go 8 Z (Cd [] d (q _) Z λP aq d=>Fg 14 Z Z (Cn Z d (λaf d=>?_) (λaf d=>?_)))))
  .refine Gc 10 Z (Qw d ?_);obtain rfl:=Oj G d;refine Gx 1 Z (Qq (Gx 1 Z ?_));obtain rfl:=Oi h;exact R2 2 3 Z Z (Lr [])
  refine Gc 5 Z ?_;refine vX (I (if m.1<P.1 then P.1 else m.1)) (OpV.max Z Z Z Z) ?_;exact Go 8 Z (Qf d (Lr []))
 subst an;refine Gc 9 Z ?_;obtain rfl:=Oi h;exact R2 2 3 Z Z (Lr [])
def F_o:Nat->Value->Option (Int×Bool)
  |0=>λ_=>none
  |n+1=>B_o (F_o n) n
theorem k_o(n:Nat):∀(a:Value) (r:Int×Bool),F_o n a=some r->Csm prog 256 [.agg (Value.c a)] [] (λr=>.tup [I r.1,.bool r.2]) r:=by
  induction n with
  |zero=>intro a r h;cases h
  |succ n ih=>intro a r h;exact Qep _ ih n a r h
def F_is(n:Nat)(d:Value):Option Int:=(F_o n d).bind λa=>(bif (!a.2)then some 1 else(bif decide (16<a.1)then some 2 else some 0))
theorem k_is(n:Nat)(a:Value):Ks (F_is n a) 232 [.agg (Value.c a)] [] (λr=>I r):=by
 refine Kg 9 func232 Z Z Z Z λr h=>Cd [] h (k_o _ _) Z λg f h=>Fg 16 Z Z (Cn Z h (λd h=>?_) (λd h=>?_))
 .exact QG 8 Z h 2 []
 refine Gc 7 Z (Cn Z h (λe h=>?_) (λe h=>?_))
 .exact QG 8 Z h 2 []
 exact QG 9 Z h 2 []
def F_jn(n:Nat):Option Unit:=some ()
theorem k_jn(n:Nat):Kq (F_jn n) 233 [] [] (λ_=>.ptr 0 0) (λ_=>[.cells 333 [.nilf,.fn (.func 257) [] [],.fn (.func 260) [] [],.fn (.func 261) [] [.ptr 1 0]],.cells 313 [.ptr 0 0]]):=by
 refine Kg 2 func233 Z Z Z Z λr h=>S Z (Go 4 Z ?_);refine vX (.agg [.nilf,.nilf,.nilf,.nilf]) (J4 (n:=4) (k:=1) (parts:=[]) (zs:=[.nilf,.nilf,.nilf,.nilf]) zeroValue333 (ZR.agg (zc ZR.nilf (zc ZR.nilf (zc ZR.nilf (zc ZR.nilf ZL.nil))))) EN E6 Z) ?_;refine Go 9 Z ?_;refine vX (.ptr 0 1) (Yg (i:=1) (n:=4) (k:=1) (j:=1) (by decide) Z EN E6 Z) ?_;refine Go 8 Z ?_;refine vX (.ptr 0 2) (Yg (i:=2) (n:=4) (k:=1) (j:=2) (by decide) Z EN E6 Z) ?_;refine Go 9 Z ?_;refine vX (.ptr 0 3) (Yg (i:=3) (n:=4) (k:=1) (j:=3) (by decide) Z EN E6 Z) ?_;exact Gt 11 Z h 0 [0,1]
def F_ce(n:Nat)(a:Int):Option Unit:=some ()
theorem k_ce(n:Nat)(a:Int):Ks (F_ce n a) 259 [I a] [] (λ_=>.int .u64 (Qid .u64 (QfK .u64 (u64.wrap a) 1) (u64.wrap (Qc2 .i64 a 63)))):=by
 refine Kg 8 func259 Z Z Z Z λr h=>?_;refine vX (.int .u64 (u64.wrap a)) (Y7 Z EL EI Z) ?_;refine vX (.int .u64 (QfK .u64 (u64.wrap a) 1)) (OpV.shl Z Z Z (by decide)) ?_;refine Go 1 Z ?_;refine vX (I (Qc2 .i64 a 63)) (OpV.shr Z Z Z (by decide)) ?_;refine vX (.int .u64 (u64.wrap (Qc2 .i64 a 63))) (Y7 Z EL EI Z) ?_;refine vX (.int .u64 (Qid .u64 (QfK .u64 (u64.wrap a) 1) (u64.wrap (Qc2 .i64 a 63)))) (OpV.xor Z Z Z) ?_;exact Gt 4 Z h 2 []
def F_fj(n:Nat)(a:(List Int)×Int):Option (Ctl ((List Int)×Int) ((List Int)×Int)):=(bif decide (128<=a.2)then(app a.1 [orI .u8 (u8.wrap a.2) 128]).bind λd=>some (.cont (d,Qc2 .u64 a.2 7))else some (.done (a.1,a.2)))
def F_as(n:Nat)(e:List Int)(f:Int):Option (List Int):=(iter (F_fj n) n (e,f):Option ((List Int)×Int)).bind λa=>(app a.1 [u8.wrap a.2]).bind λd=>some d
theorem k_as(n:Nat)(g:List Int)(m:Int):Kq (F_as n g m) 258 [.osl 0 0 g.length 1,.int .u64 m] [.row 5 1 (map (Qe .u8) g)] (λr=>.osl 1 0 r.length 1) (λr=>[.dead,.row 5 1 (map (Qe .u8) r)]):=by
 refine Kg 6 func258 Z Z Z Z λr h=>Bd h λf q h=>Cg f [0,0] [] (λf=>[(0,.osl 1 0 f.1.length 1),(1,.int .u64 f.2)]) (λf=>[(0,.dead),(1,.row 5 1 (map (Qe .u8) f.1))]) Zf ?_ ?_
 .refine G0 1 Z (Lp [0,0] [] (λd=>[(0,.osl 1 0 d.1.length 1),(1,.int .u64 d.2)]) (λd=>[(0,.dead),(1,.row 5 1 (map (Qe .u8) d.1))]) q Zf ?_ ?_)
  .refine Em (Qn1 (s:=0) (i:=0) Z Z Z) ?_;exact Lr [0,1]
  intro d t a p;refine G0 7 Z (Yd Z a (λj a=>?_) (λj a=>?_))
  .exact Gc 2 Z (Qh a (Gx 1 Z (cQo p a (Lr [0,1]))))
  refine Gc 7 Z ?_;refine vX (.int .u8 (u8.wrap d.2)) (Y7 Z EI EZ Z) ?_;refine vX (.int .u8 (orI .u8 (u8.wrap d.2) 128)) (OpV.or Z Z Z) ?_;refine vH (Ej (xs:=[.tmp 12]) (es:=map (Qe .u8) [orI .u8 (u8.wrap d.2) 128]) YZ Z Z Z Z Z ⟨Z,trivial⟩ Z Z) ?_;refine FE Z (Bd a λu k a=>vH (Qg (e:=(Qe .u8)) k YZ EH (QM (i:=2))) ?_);refine Fg 6 Z Z ?_;refine vX (.int .u64 (Qc2 .u64 d.2 7)) (OpV.shr Z Z Z (by decide)) ?_;exact Go 2 Z (Qf a (Lr [0,3]))
 refine Gc 4 Z ?_;refine vX (.int .u8 (u8.wrap f.2)) (Y7 Z EI EZ Z) ?_;refine vH (Ej (xs:=[.tmp 17]) (es:=map (Qe .u8) [u8.wrap f.2]) YZ Z Z Z Z Z ⟨Z,trivial⟩ Z Z) ?_;refine FE Z (Bd h λw l h=>vH (Qg (e:=(Qe .u8)) l YZ EH (QM (i:=2))) ?_);exact FE Z (Gt 4 Z h 4 [0,3])
def F_ip(n:Nat)(a:Value):Option (List Int):=(app [] [1]).bind λd=>(F_ce n a.N).bind λf=>(F_as n d (Qid .u64 (QfK .u64 (u64.wrap a.N) 1) (u64.wrap (Qc2 .i64 a.N 63)))).bind λe=>some e
theorem k_ip(n:Nat)(a:Value):Kq (F_ip n a) 257 [.nils,.agg (Value.c a)] [] (λr=>.osl 0 0 r.length 1) (λr=>[.row 5 1 (map (Qe .u8) r)]):=by
 refine Kg 7 func257 Z Z Z Z λr h=>DAs 5 2 [0,0,1,3,3] (by kernel_rfl) (Da 1 Z ?_);refine DA.wo (x:=.rsl 1 (map (Qe .u8) [1])) ?_ ?_
 .refine vH (Q5 (xs:=[.const (.int .u8 1)]) (es:=map (Qe .u8) [1]) YZ Z Z Z Z Z ⟨Z,trivial⟩ Z Z) ?_;exact FE Z Wp
 obtain⟨i,d,h⟩:=YB h;refine Qcs (QkO (e:=(Qe .u8)) d YZ EH Jd) Z Z (Db 1 Z ?_);refine DB.wo2 (x:=I a.N) (Ld ED Z Wp) (Ld ED Z Wp) ?_;exact DB.done Z (Cz [] h (k_ce _ _) Z λj f h=>Cd [1] h (k_as _ _ _) Z λk g h=>FE Z (Gt 4 Z h 4 [2]))
def F_bx(n:Nat)(d:List Int)(a:Value):Option (List Int):=(app d [1]).bind λe=>(F_ce n a.N).bind λg=>(F_as n e (Qid .u64 (QfK .u64 (u64.wrap a.N) 1) (u64.wrap (Qc2 .i64 a.N 63)))).bind λf=>some f
theorem k_bx(n:Nat)(a:List Int)(d:Value):Kq (F_bx n a d) 257 [.osl 0 0 a.length 1,.agg (Value.c d)] [.row 5 1 (map (Qe .u8) a)] (λr=>.osl 1 0 r.length 1) (λr=>[.dead,.row 5 1 (map (Qe .u8) r)]):=by
 refine Kg 7 func257 Z Z Z Z λr h=>DAs 5 2 [0,0,1,3,3] (by kernel_rfl) (Da 1 Z ?_);refine DA.wo (x:=.rsl 1 (map (Qe .u8) [1])) ?_ ?_
 .refine vH (Q5 (xs:=[.const (.int .u8 1)]) (es:=map (Qe .u8) [1]) YZ Z Z Z Z Z ⟨Z,trivial⟩ Z Z) ?_;exact FE Z Wp
 obtain⟨j,f,h⟩:=YB h;refine Qcs (Qg (e:=(Qe .u8)) f YZ EH Jd) Z Z (Db 1 Z ?_);refine DB.wo2 (x:=I d.N) (Ld ED Z Wp) (Ld ED Z Wp) ?_;exact DB.done Z (Cz [] h (k_ce _ _) Z λk g h=>Cd [2] h (k_as _ _ _) Z λl i h=>FE Z (Gt 4 Z h 4 [0,3]))
def F_mm(n:Nat)(e:Value)(rec150:(List Int)->Value->Option (List Int))(a:(List Int)×Int):Option (Ctl ((List Int)×Int) (List Int)):=(bif decide (a.2<(e.L.length:Int))then(idx e.L a.2).bind λd=>(bif (d.Kind==0)then none else(bif (d.Kind==1)then(F_bx n a.1 d).bind λf=>some (.cont (f,i64.wrap (a.2+1)))else(bif (d.Kind==2)then none else(bif (d.Kind==3)then(rec150 a.1 d).bind λg=>some (.cont (g,i64.wrap (a.2+1)))else none))))else some (.done a.1))
def B_bo(rec150:(List Int)->Value->Option (List Int))(n:Nat)(e:List Int)(a:Value):Option (List Int):=(app e [3]).bind λf=>(F_as n f (u64.wrap (a.L.length:Int))).bind λg=>(iter (F_mm n a rec150) n (g,0):Option (List Int)).bind λd=>some d
theorem Qa4(rec150:(List Int)->Value->Option (List Int))(m:∀(l:List Int) (d:Value) (r:List Int),rec150 l d=some r->C prog 261 [.osl 0 0 l.length 1,.agg (Value.c d),.ptr 1 0] [.row 5 1 (map (Qe .u8) l),.cells 313 [.ptr 2 0],.cells 333 [.nilf,.fn (.func 257) [] [],.fn (.func 260) [] [],.fn (.func 261) [] [.ptr 1 0]]] (RQ (λr=>.osl 3 0 r.length 1) (λr=>[.dead,.cells 313 [.ptr 2 0],.cells 333 [.nilf,.fn (.func 257) [] [],.fn (.func 260) [] [],.fn (.func 261) [] [.ptr 1 0]],.row 5 1 (map (Qe .u8) r)]) r))(n:Nat)(l:List Int)(d:Value)(r:List Int)(h:B_bo rec150 n l d=some r):C prog 261 [.osl 0 0 l.length 1,.agg (Value.c d),.ptr 1 0] [.row 5 1 (map (Qe .u8) l),.cells 313 [.ptr 2 0],.cells 333 [.nilf,.fn (.func 257) [] [],.fn (.func 260) [] [],.fn (.func 261) [] [.ptr 1 0]]] (RQ (λr=>.osl 3 0 r.length 1) (λr=>[.dead,.cells 313 [.ptr 2 0],.cells 333 [.nilf,.fn (.func 257) [] [],.fn (.func 260) [] [],.fn (.func 261) [] [.ptr 1 0]],.row 5 1 (map (Qe .u8) r)]) r):=by
 refine QF func261 Z Z Z ?_;refine G0 7 Z (DAs 7 2 [0,0,1,3,3,3,3] (by kernel_rfl) (Da 1 Z ?_));refine DA.wo (x:=.rsl 1 (map (Qe .u8) [3])) ?_ ?_
 .refine vH (Q5 (xs:=[.const (.int .u8 3)]) (es:=map (Qe .u8) [3]) YZ Z Z Z Z Z ⟨Z,trivial⟩ Z Z) ?_;exact FE Z Wp
 obtain⟨O,B,h⟩:=YB h;refine Qcs (Qg (e:=(Qe .u8)) B YZ EH Jd) Z Z (Db 1 Z ?_);refine DB.wo2 (x:=.rsl 4 (map Value.enc d.L)) (Ld isAgg258 Z Wp) (Ld isAgg258 Z Wp) ?_;refine DB.wo2 (x:=I (d.L.length:Int)) (LnM EX Z Wp) (LnM EX Z Wp) ?_;refine DB.wo2 (x:=.int .u64 (u64.wrap (d.L.length:Int))) ?_ ?_ ?_
 iterate 2 refine vX (.int .u64 (u64.wrap (d.L.length:Int))) (Y7 Z EL EI Z) ?_;exact Wp
 refine DB.done Z (Cd [4] h (k_as _ _ _) Z λP H h=>Fg 8 Z Z (Lg 3 Z Z (Bd h λf E h=>Cg f [0,1,2,3] [] (λf=>[(0,.osl 3 0 f.length 1)]) (λf=>[(3,.row 5 1 (map (Qe .u8) f))]) Zf ?_ ?_)))
 .refine G0 1 Z (Lp [0,1,2,5] [2,17,18] (λg=>[(0,.osl 3 0 g.1.length 1),(19,I g.2)]) (λg=>[(3,.row 5 1 (map (Qe .u8) g.1))]) E Zf (Lr [0,1,2,5]) λg J a t=>?_);refine G0 6 Z (Yd Z a (λu a=>?_) (λu a=>?_))
  .exact Gc 2 Z (Qh a (Gx 1 Z (cQo t a (Lr [0,1,2,3]))))
  refine Gc 6 Z (Bd a λp w a=>IzE w (Jc p) Z (Go 5 Z (DSs 9 Z (D 4 Z (If a (λy a=>?_) (λy a=>?_))))))
  .cases a
  .refine If a (λq a=>?_) (λq a=>?_)
   .refine DS.v (x:=(.ptr 2 1)) (Yg (i:=p.Kind) (n:=4) (k:=1) (j:=1) q Z EN E6 Z) ?_;exact D 4 Z (Eg Z (Cd [3] a (k_bx _ _ _) Z λM F a=>Fg 8 Z Z (Qf a (Lr [0,1,2,5]))))
   .refine If a (λz a=>?_) (λz a=>?_)
    .cases a
    .refine If a (λs a=>?_) (λs a=>?_)
     .refine DS.v (x:=(.ptr 2 3)) (Yg (i:=p.Kind) (n:=4) (k:=1) (j:=3) s Z EN E6 Z) ?_;exact D 4 Z (Eg Z (Cd [3,1,2] a (m _ _) Z λN G a=>Fg 8 Z Z (Qf a (Lr [0,1,2,5]))))
     .cases a
 exact QG 7 Z h 5 [0,1,2,3]
def F_bo:Nat->(List Int)->Value->Option (List Int)
  |0=>λ_ _=>none
  |n+1=>B_bo (F_bo n) n
theorem k_bo(n:Nat):∀(a:List Int) (d:Value) (r:List Int),F_bo n a d=some r->C prog 261 [.osl 0 0 a.length 1,.agg (Value.c d),.ptr 1 0] [.row 5 1 (map (Qe .u8) a),.cells 313 [.ptr 2 0],.cells 333 [.nilf,.fn (.func 257) [] [],.fn (.func 260) [] [],.fn (.func 261) [] [.ptr 1 0]]] (RQ (λr=>.osl 3 0 r.length 1) (λr=>[.dead,.cells 313 [.ptr 2 0],.cells 333 [.nilf,.fn (.func 257) [] [],.fn (.func 260) [] [],.fn (.func 261) [] [.ptr 1 0]],.row 5 1 (map (Qe .u8) r)]) r):=by
  induction n with
  |zero=>intro a d r h;cases h
  |succ n ih=>intro a d r h;exact Qa4 _ ih n a d r h
def F_jc(n:Nat)(e:Value)(a:(List Int)×Int):Option (Ctl ((List Int)×Int) (List Int)):=(bif decide (a.2<(e.L.length:Int))then(idx e.L a.2).bind λd=>(bif (d.Kind==0)then none else(bif (d.Kind==1)then(F_bx n a.1 d).bind λf=>some (.cont (f,i64.wrap (a.2+1)))else(bif (d.Kind==2)then none else(bif (d.Kind==3)then(F_bo n a.1 d).bind λg=>some (.cont (g,i64.wrap (a.2+1)))else none))))else some (.done a.1))
def F_ck(n:Nat)(a:Value):Option (List Int):=(app [] [3]).bind λe=>(F_as n e (u64.wrap (a.L.length:Int))).bind λf=>(iter (F_jc n a) n (f,0):Option (List Int)).bind λd=>some d
theorem k_ck(n:Nat)(g:Value):Kq (F_ck n g) 261 [.nils,.agg (Value.c g),.ptr 0 0] [.cells 313 [.ptr 1 0],.cells 333 [.nilf,.fn (.func 257) [] [],.fn (.func 260) [] [],.fn (.func 261) [] [.ptr 0 0]]] (λr=>.osl 2 0 r.length 1) (λr=>[.cells 313 [.ptr 1 0],.cells 333 [.nilf,.fn (.func 257) [] [],.fn (.func 260) [] [],.fn (.func 261) [] [.ptr 0 0]],.row 5 1 (map (Qe .u8) r)]):=by
 refine Kg 7 func261 Z Z Z Z λr h=>DAs 7 2 [0,0,1,3,3,3,3] (by kernel_rfl) (Da 1 Z ?_);refine DA.wo (x:=.rsl 1 (map (Qe .u8) [3])) ?_ ?_
 .refine vH (Q5 (xs:=[.const (.int .u8 3)]) (es:=map (Qe .u8) [3]) YZ Z Z Z Z Z ⟨Z,trivial⟩ Z Z) ?_;exact FE Z Wp
 obtain⟨M,y,h⟩:=YB h;refine Qcs (QkO (e:=(Qe .u8)) y YZ EH Jd) Z Z (Db 1 Z ?_);refine DB.wo2 (x:=.rsl 4 (map Value.enc g.L)) (Ld isAgg258 Z Wp) (Ld isAgg258 Z Wp) ?_;refine DB.wo2 (x:=I (g.L.length:Int)) (LnM EX Z Wp) (LnM EX Z Wp) ?_;refine DB.wo2 (x:=.int .u64 (u64.wrap (g.L.length:Int))) ?_ ?_ ?_
 iterate 2 refine vX (.int .u64 (u64.wrap (g.L.length:Int))) (Y7 Z EL EI Z) ?_;exact Wp
 refine DB.done Z (Cd [3] h (k_as _ _ _) Z λN F h=>Fg 8 Z Z (Lg 3 Z Z (Bd h λd z h=>Cg d [0,1,2] [] (λd=>[(0,.osl 2 0 d.length 1)]) (λd=>[(2,.row 5 1 (map (Qe .u8) d))]) Zf ?_ ?_)))
 .refine G0 1 Z (Lp [0,1,4] [2,17,18] (λf=>[(0,.osl 2 0 f.1.length 1),(19,I f.2)]) (λf=>[(2,.row 5 1 (map (Qe .u8) f.1))]) z Zf (Lr [0,1,4]) λf G a q=>?_);refine G0 6 Z (Yd Z a (λs a=>?_) (λs a=>?_))
  .exact Gc 2 Z (Qh a (Gx 1 Z (cQo q a (Lr [0,1,2]))))
  refine Gc 6 Z (Bd a λl t a=>IzE t (Jc l) Z (Go 5 Z (DSs 9 Z (D 4 Z (If a (λu a=>?_) (λu a=>?_))))))
  .cases a
  .refine If a (λm a=>?_) (λm a=>?_)
   .refine DS.v (x:=(.ptr 1 1)) (Yg (i:=l.Kind) (n:=4) (k:=1) (j:=1) m Z EN E6 Z) ?_;exact D 4 Z (Eg Z (Cd [2] a (k_bx _ _ _) Z λH B a=>Fg 8 Z Z (Qf a (Lr [0,1,4]))))
   .refine If a (λw a=>?_) (λw a=>?_)
    .cases a
    .refine If a (λp a=>?_) (λp a=>?_)
     .refine DS.v (x:=(.ptr 1 3)) (Yg (i:=l.Kind) (n:=4) (k:=1) (j:=3) p Z EN E6 Z) ?_;exact D 4 Z (Eg Z (Cd [2,0,1] a (k_bo _ _ _) Z λJ E a=>Fg 8 Z Z (Qf a (Lr [0,1,4]))))
     .cases a
 exact QG 7 Z h 5 [0,1,2]
def F_ke(n:Nat)(a:Value):Option ((List Int)×Int):=(F_is n a).bind λd=>(bif (d != 0)then some ([],d)else(F_jn n).bind λg=>(bif (a.Kind==0)then none else(bif (a.Kind==1)then(F_ip n a).bind λe=>some (e,0)else(bif (a.Kind==2)then none else(bif (a.Kind==3)then(F_ck n a).bind λf=>some (f,0)else none)))))
theorem k_ke(n:Nat)(a:Value):Kq (F_ke n a) 186 [.agg (Value.c a)] [] (λr=>.tup [.osl 0 0 r.1.length 1,I r.2]) (λr=>[.row 5 1 (map (Qe .u8) r.1)]):=by
 refine Kg 11 func186 Z Z Z Z λr h=>Cz [] h (k_is _ _) Z λw p h=>Go 9 Z (Cn Z h (λf h=>?_) (λf h=>?_))
 .refine Gc 9 Z ?_;obtain rfl:=Oi h;refine R2 2 3 Z Z ?_;refine Em (Eo (s:=2) (k:=1) (t:=5) (XO Z) Z) ?_;exact Lr [1]
 refine Gc 3 Z (DAs 8 0 [1,3,3,2,2,2,2,3] (by kernel_rfl) ?_);obtain⟨y,g,h⟩:=YB h;refine DA.op (x:=.ptr 1 0) (H1:=[.cells 260 (Value.c a),.cells 333 [.nilf,.fn (.func 257) [] [],.fn (.func 260) [] [],.fn (.func 261) [] [.ptr 2 0]],.cells 313 [.ptr 1 0]]) ?_ ?_
 .refine QX [] (OpC.fn call233 Z Z Z) (k_jn _ _ g) ?_;rintro _ _ ⟨rfl,rfl⟩;exact FE Z Wp
 refine Db 1 Z ?_;refine DB.wo2 (x:=I a.Kind) (Ld ED Z Wp) (Ld ED Z Wp) ?_;refine Db 1 Z (If h (λl h=>?_) (λl h=>?_))
 .cases h
 .refine If h (λd h=>?_) (λd h=>?_)
  .refine DB.wo1 (x:=.ptr 1 1) ?_ ?_
   .refine vX (.ptr 1 1) (Yg (i:=a.Kind) (n:=4) (k:=1) (j:=1) d Z EN E6 Z) ?_;exact Wp
   refine Db 2 Z ?_;refine DB.wo2 (x:=.agg (Value.c a)) ?_ ?_ ?_
   iterate 2 refine vX (.agg (Value.c a)) (Qn Z Gz Gq Z (Pts.cells Z Z) Z Z) ?_;exact Wp
   refine DB.done Z (Cd [] h (k_ip _ _) Z λz q h=>Fg 5 Z Z ?_);obtain rfl:=Oi h;exact R2 2 3 Z Z (Lr [3])
  .refine If h (λm h=>?_) (λm h=>?_)
   .cases h
   .refine If h (λe h=>?_) (λe h=>?_)
    .refine DB.wo1 (x:=.ptr 1 3) ?_ ?_
     .refine vX (.ptr 1 3) (Yg (i:=a.Kind) (n:=4) (k:=1) (j:=3) e Z EN E6 Z) ?_;exact Wp
     refine Db 2 Z ?_;refine DB.wo2 (x:=.agg (Value.c a)) ?_ ?_ ?_
     iterate 2 refine vX (.agg (Value.c a)) (Qn Z Gz Gq Z (Pts.cells Z Z) Z Z) ?_;exact Wp
     refine DB.done Z (Cd [2,1] h (k_ck _ _) Z λB u h=>Fg 5 Z Z ?_);obtain rfl:=Oi h;exact R2 2 3 Z Z (Lr [3])
    .cases h
def F_kt(n:Nat)(d:(List Int)×Bool)(a:(List Value)×Int):Option (Ctl ((List Value)×Int) (List Value)):=(bif decide (a.2<(d.1.length:Int))then(idx d.1 a.2).bind λe=>(app a.1 [{Kind:=1,N:=e,S:=[],L:=[]:Value}]).bind λf=>some (.cont (f,i64.wrap (a.2+1)))else some (.done a.1))
def F_ci(n:Nat)(f:Fact):Option ((List Int)×Int):=(F_ch n f).bind λd=>(bif (!d.2)then some ([],120)else(iter (F_kt n d) n ([],0):Option (List Value)).bind λe=>(F_ke n ({Kind:=3,N:=0,S:=[],L:=e:Value})).bind λa=>some (a.1,a.2))
theorem k_ci(n:Nat)(u:Fact):Kq (F_ci n u) 123 [.agg (Fact.c u)] [] (λr=>.tup [.osl 0 0 r.1.length 1,I r.2]) (λr=>[.row 5 1 (map (Qe .u8) r.1)]):=by
 refine Kg 10 func123 Z Z Z Z λr h=>Cd [] h (k_ch _ _) Z λG z h=>Fg 14 Z Z (Cn Z h (λw h=>?_) (λw h=>?_))
 .refine Gc 8 Z ?_;obtain rfl:=Oi h;refine R2 2 3 Z Z ?_;refine Em (Eo (s:=2) (k:=1) (t:=5) (XO Z) Z) ?_;exact Lr [2]
 refine Gc 4 Z ?_;refine vX (.agg [I 3,I 0,.str [],.nils]) (OpV.build (zs:=[I 0,I 0,.str [],.nils]) Gu (zrC Z) Qon) ?_;refine vH (Qdo (v:=(.agg [I 0,I 0,.str [],.nils])) Gu (zrC Z)) ?_;refine Fg 11 Z Z (Bd h λf x h=>Cg f [0,1] [] (λ_=>[(6,.ptr 0 0)]) (λf=>[(0,.cells 260 [I 3,I 0,.str [],.osl 1 0 f.length 4]),(1,.row 260 4 (map Value.enc f))]) Zf ?_ ?_)
 .refine G0 1 Z (Lp [2,0,1] [6,17,18] (λd=>[(19,I d.2)]) (λd=>[(0,.cells 260 [I 3,I 0,.str [],.osl 1 0 d.1.length 4]),(1,.row 260 4 (map Value.enc d.1))]) x Zf ?_ ?_)
  .refine Em (Qcr (i:=2) (m:=3) (t:=260) (k:=4) Z Z Z) ?_;exact Lr [2,3,1]
  intro d B a l;refine G0 6 Z (Yd Z a (λp a=>?_) (λp a=>?_))
  .exact Gc 2 Z (Qh a (Gx 1 Z (cQo l a (Lr [0,1]))))
  refine Gc 6 Z (Bd a λj g a=>?_);refine vX (.ptr 2 (toNat d.2*1)) (Qp g Z EC EF) ?_;refine vX (I j) (Ey Z ED Z (Qo g)) ?_;refine Go 8 Z (vH (Ej (xs:=[.tmp 26]) (es:=map Value.enc [{Kind:=1,N:=j,S:=[],L:=[]:Value}]) QiR Z Z Z Z Z ⟨Z,trivial⟩ Z Z) ?_);refine FE Z (Bd a λE q a=>vH (Qg (e:=Value.enc) q QiR EX (QM (i:=3))) ?_);exact Fg 9 Z Z (Qf a (Lr [0,4,2]))
 refine Gc 3 Z ?_;refine QH (Qau [(31,_)] Z Z (QpL.cons Z (FzA.agg (Ed (Ee _) (Ed (Ee _) (Ed (Ee _) (Ed En (Ei _)))))) QpL.nil) (FzH.cells (Ed (Ee _) (Ed (Ee _) (Ed (Ee _) (Ed En (Ei _))))) (Ec (Jl _)))) ?_;refine Cd [] h (k_ke _ _) Z λF y h=>Fg 7 Z Z ?_;obtain rfl:=Oi h;exact R2 2 3 Z Z (Lr [2])
def F_jy(n:Nat)(a:List Int)(d:List Int):Option Unit:=some ()
theorem k_jy(n:Nat)(a:List Int)(d:List Int):Ks (F_jy n a d) 124 [.rsl 1 (map (Qe .u8) a),.rsl 1 (map (Qe .u8) d)] [] (λ_=>I (cmpB a d)):=by
 refine Kg 9 func124 Z Z Z Z λr h=>?_;refine vX (I (cmpB a d)) (OpV.cmpB (l:=a) (m:=d) func187 (by kernel_rfl) (by kernel_rfl) (by kernel_rfl) (by kernel_rfl) QlS.rsl QlS.rsl) ?_;exact Gt 4 Z h 4 []
def F_am(n:Nat)(a:Fact)(d:Fact):Option Int:=(F_an n a.At d.At).bind λh=>(F_an n a.Crew d.Crew).bind λi=>(F_an n a.No d.No).bind λj=>(F_gu n [h,i,j]).bind λe=>(bif (e != 0)then some e else(F_ci n a).bind λf=>(F_ci n d).bind λg=>(F_jy n f.1 g.1).bind λk=>some (cmpB f.1 g.1))
theorem k_am(n:Nat)(a:Fact)(d:Fact):Ks (F_am n a d) 58 [.agg (Fact.c a),.agg (Fact.c d)] [] (λr=>I r):=by
 refine Kg 9 func58 Z Z Z Z λr h=>DSs 14 Z (D 4 Z ?_);refine Dz [] h (k_an _ _ _) Z λf j h=>D 4 Z ?_;refine Dz [] h (k_an _ _ _) Z λg k h=>D 4 Z (Eg Z (Cz [] h (k_an _ _ _) Z λi l h=>?_));refine vH (Q5 (xs:=[.tmp 14,.tmp 19,.tmp 24]) (es:=map (Qe .i64) [f,g,i]) Qv Z Z Z Z Z ⟨Z,Z,Z,trivial⟩ Z Z) ?_;refine FE Z (Cz [] h (k_gu _ _) Z λt m h=>Go 9 Z (Cn Z h (λe h=>?_) (λe h=>?_)))
 .exact QG 8 Z h 4 []
 exact Gc 5 Z (Cd [] h (k_ci _ _) Z λu p h=>Fg 10 Z Z (Cd [] h (k_ci _ _) Z λw q h=>Fg 11 Z Z (Cb h (k_jy _ _ _) Z (lo (lo ln)) λx s h=>Gt 4 Z h 4 [])))
def F_ca(n:Nat)(a:Fact)(d:Fact):Option Bool:=(F_am n a d).bind λe=>some (e==0)
theorem k_ca(n:Nat)(a:Fact)(d:Fact):Ks (F_ca n a d) 184 [.agg (Fact.c a),.agg (Fact.c d),.ptr 0 0] [.cells 132 [.fn (.func 58) [] []]] (λr=>.bool r):=by
 exact Kg 12 func184 Z Z Z Z λr h=>Cz [] h (k_am _ _ _) Z λf e h=>Gt 5 Z h 5 [0]
def F_ga(n:Nat)(f:List Fact)(d:Int)(a:(List Fact)×Int×Int):Option (Ctl ((List Fact)×Int×Int) ((List Fact)×Int)):=(bif decide (a.2.2<((toNat (f.length:Int)-toNat d:Nat):Int))then(Qiy a.1 d (f.length:Int) a.2.2).bind λg=>(Qiy a.1 d (f.length:Int) (i64.wrap (a.2.2-1))).bind λh=>(F_ca n g h).bind λi=>((bif (!i)then(Qiy a.1 d (f.length:Int) a.2.2).bind λj=>(idx a.1 a.2.1).bind λl=>(Qej a.1 a.2.1 j).bind λk=>some (k,i64.wrap (a.2.1+1))else some (a.1,a.2.1)):Option ((List Fact)×Int)).bind λe=>some (.cont (e.1,e.2,i64.wrap (a.2.2+1)))else some (.done (a.1,a.2.1)))
def F_hj(n:Nat)(d:List Fact)(a:Int):Option (Ctl Int (Ctl Unit (List Fact))):=(bif decide (a<(d.length:Int))then(idx d a).bind λf=>(idx d (i64.wrap (a-1))).bind λg=>(F_ca n f g).bind λh=>(bif h then(slc d a (d.length:Int)).bind λj=>(iter (F_ga n d a) n (d,a,1):Option ((List Fact)×Int)).bind λe=>(slc e.1 0 e.2).bind λi=>some (.done (.done i))else some (.cont (i64.wrap (a+1))))else some (.done (.cont ())))
def F_fv(n:Nat)(d:List Fact):Option (List Fact):=(bif decide ((d.length:Int)<2)then some d else(iter (F_hj n d) n 1:Option (Ctl Unit (List Fact))).bind λe=>match e with|.cont a=>(some d)|.done a=>some a)
theorem k_fv(n:Nat)(q:List Fact):Kq (F_fv n q) 183 [.osl 0 0 q.length 57,.fn (.func 184) [] [.ptr 1 0]] [.row 68 57 (map Fact.c q),.cells 132 [.fn (.func 58) [] []]] (λr=>.osl 0 0 r.length 57) (λr=>[.row 68 57 (map Fact.c r),.cells 132 [.fn (.func 58) [] []]]):=by
 refine Kg 13 func183 Z Z Z Z λr h=>Cn Z h (λac h=>?_) (λac h=>?_)
 .exact QG 8 Z h 4 [0,1]
 refine Gc 8 Z (Bd h λR T h=>CgE (b:=R) [0,1] [0] Ze Ze Zf ?_ (λag ae=>?_))
 .refine G0 1 Z (Lp [0,1] [0,1] (λg=>[(5,I g)]) Ze T Zf (Lr [0,1]) λg aj a w=>?_);refine G0 9 Z (Yd Z a (λL a=>?_) (λL a=>?_))
  .exact Gc 2 Z (Qh a (Gx 1 Z (JB w a Z (Lr [0,1]))))
  refine Gc 5 Z (DSs 10 Z (D 3 Z ?_));obtain⟨V,y,a⟩:=YB a;refine DS.v (x:=(.ptr 0 (toNat g*57))) (Qp y Z EA EB) ?_;refine DS.v (x:=(.agg (Fact.c V))) (Qn Z EJ EB Z (Qo y) Z Z) ?_;refine D 3 Z ?_;obtain⟨W,z,a⟩:=YB a;refine DS.v (x:=(.ptr 0 (toNat (i64.wrap (g-1))*57))) (Qp z Z EA EB) ?_;refine DS.v (x:=(.agg (Fact.c W))) (Qn Z EJ EB Z (Qo z) Z Z) ?_;refine Eg Z (Cz [1] a (k_ca _ _ _) Z λak ah a=>Go 2 Z (Cn Z a (λM a=>?_) (λM a=>?_)))
  .refine Gc 4 Z (Bd a λal N a=>?_);refine vX (.osl 0 (0+toNat g) (toNat (q.length:Int)-toNat g) 57) (Q6 (l:=q) N EA EB (.inr ⟨_,Z,Z⟩) (.inl ⟨Z,Z⟩)) ?_;refine Go 9 Z (Bd a λj X a=>Cg j [0,1] [] (λj=>[(0,.osl 0 0 j.1.length 57),(5,I j.2)]) (λj=>[(0,.row 68 57 (map Fact.c j.1))]) Zf ?_ ?_)
   .refine G0 1 Z (Lp [0,1] [1,6] (λi=>[(0,.osl 0 0 i.1.length 57),(5,I i.2.1),(7,I i.2.2)]) (λi=>[(0,.row 68 57 (map Fact.c i.1))]) X Zf (Lr [0,1]) λi am d O=>?_);refine G0 5 Z ?_;refine vX (I ((toNat (q.length:Int)-toNat g:Nat):Int)) (QkJ Z Z EA Z) ?_;refine Go 3 Z (Yd Z d (λP d=>?_) (λP d=>?_))
    .exact Gc 2 Z (Qh d (Gx 1 Z (cQo O d (Lr [0,1]))))
    refine Gc 5 Z (DSs 10 Z (D 3 Z ?_));obtain⟨Y,B,d⟩:=YB d;refine DS.v (x:=(.ptr 0 (toNat (g+i.2.2)*57))) (QgW (l:=i.1) (lo:=g) (hi:=(q.length:Int)) B EA EB) ?_;refine DS.v (x:=(.agg (Fact.c Y))) (Qn Z EJ EB Z (Qo (Qix B)) Z Z) ?_;refine D 3 Z ?_;obtain⟨aa,E,d⟩:=YB d;refine DS.v (x:=(.ptr 0 (toNat (g+i64.wrap (i.2.2-1))*57))) (QgW (l:=i.1) (lo:=g) (hi:=(q.length:Int)) E EA EB) ?_;refine DS.v (x:=(.agg (Fact.c aa))) (Qn Z EJ EB Z (Qo (Qix E)) Z Z) ?_;refine Eg Z (Cz [1] d (k_ca _ _ _) Z λan ai d=>Go 3 Z (Bd d λp m d=>Ct p [0,1] [1,6,7] (λp=>[(0,.osl 0 0 p.1.length 57),(5,I p.2)]) (λp=>[(0,.row 68 57 (map Fact.c p.1))]) Zf ?_ (λenv H af=>?_)))
    .refine G0 0 Z (Cn Z m (λQ m=>?_) (λQ m=>?_))
     .refine Gc 6 Z (Bd m λab F m=>?_);refine vX (.ptr 0 (toNat (g+i.2.2)*57)) (QgW (l:=i.1) (lo:=g) (hi:=(q.length:Int)) F EA EB) ?_;refine vX (.agg (Fact.c ab)) (Qn Z EJ EB Z (Qo (Qix F)) Z Z) ?_;refine Bd m λao G m=>?_;refine vX (.ptr 0 (toNat i.2.1*57)) (Qp G Z EA EB) ?_;refine Bd m λaq t m=>?_;refine vU (QaX (e:=Fact.c) (k:=57) (f:=0) G t EB Z Z) ?_;refine FE Z ?_;refine QH (Q7 (s:=0) Z (congrArg (λn=>A.osl 0 0 n 57) (Qbn t))) ?_;refine QH (Q7 (s:=50) Z (congrArg (λn=>A.osl 0 0 n 57) (Qbn t))) ?_;exact Gl 7 Z m [0,1]
     exact YC 1 Z m [0,1]
    exact Gx 2 Z (Qd af (Gc 5 Z (Qf d (Lr [0,1]))))
   refine Gc 4 Z (Bd a λJ u a=>?_);refine vX (.osl 0 (0+toNat j.2) (j.1.length-toNat j.2) 57) (QgY (l:=j.1) u EA EB) ?_;refine vN (Qg2 (e:=Fact.c) (l:=j.1) u GM Gj Z (by simp[Qz,Go.Value.cells])) ?_;refine QeB (H:=[.row 68 57 (map Fact.c J),.cells 132 [.fn (.func 58) [] []]]) Z ?_;refine Go 6 Z ?_;refine vX (.osl 0 0 J.length 57) (QgZ (l:=j.1) u EA EB) ?_;refine Go 6 Z (Qw a ?_);obtain rfl:=Oj w a;exact Gx 1 Z (Qq (Gx 1 Z (Rt h 4 [0,1])))
  exact Gc 8 Z (Qf a (Lr [0,1]))
 subst ae;exact QG 7 Z h 4 [0,1]
def F_bk(n:Nat)(a:List Fact):Option (List Fact):=(F_bu n a).bind λd=>(Qb7 (λx y=>F_am n x y) d).bind λe=>(F_fv n e).bind λf=>some f
theorem k_bk(n:Nat)(d:List Fact):Kq (F_bk n d) 120 [.rsl 57 (map Fact.c d),.fn (.func 58) [] []] [] (λr=>.osl 0 0 r.length 57) (λr=>[.row 68 57 (map Fact.c r)]):=by
 refine Kg 9 func120 Z Z Z Z λr h=>Cd [] h (k_bu _ _) Z λg e h=>Fg 7 Z Z (Bd h λi a h=>?_);refine QX [1] (OpC.fn call182 Z Z Z) (QqK (enc:=Fact.c) Qg8 a (λx y c h=>k_am n x y c h) EJ EB call58 Zf Z) ?_;rintro _ _ ⟨rfl,rfl⟩;refine FE Z ?_;refine QH (Q7 (s:=0) Z (congrArg (λn=>A.osl 1 0 n 57) (QaI a))) ?_;refine QH (Q7 (s:=6) Z (congrArg (λn=>A.osl 1 0 n 57) (QaI a))) ?_;refine QH (Q7 (s:=7) Z (congrArg (λn=>A.osl 1 0 n 57) (QaI a))) ?_;exact Go 6 Z (Cd [1,0] h (k_fv _ _) Z λj f h=>FE Z (Gt 4 Z h 4 [1]))
def F_et(n:Nat)(a:List Ub):Option (List Ub):=isNil a (some []) ((app ([]:List Ub) a).bind λd=>some d)
theorem k_et(n:Nat)(a:List Ub):Kq (F_et n a) 227 [.rsl 1 (map Ub.ptr a)] [] (λr=>.osl 0 0 r.length 1) (λr=>[.row 196 1 (map Ub.ptr r)]):=by
 refine Kg 9 func227 Z Z Z Z λr h=>?_;refine Qkz (e:=Ub.ptr) (l:=a) underlying194 Z (λb1 d=>?_);have hkb1:=QjQ h b1 d;cases b1
 .have h:=hkb1.2 Z;refine Go 7 Z (vH (Ej (xs:=[]) (es:=map Ub.ptr []) QiS Z Z Z Z Z trivial Z Z) ?_);refine Fg 1 Z Z (Bd h λg f h=>vH (Qg (e:=Ub.ptr) f QiS EU Jd) ?_);exact FE Z (Gt 4 Z h 2 [1])
 .have h:=hkb1.1 Z;refine Go 10 Z ?_;obtain rfl:=Oi h;refine R1 2 Z ?_;refine Em (Eo (s:=2) (k:=1) (t:=196) (XO Z) Z) ?_;exact Lr [0]
def F_bt(n:Nat)(a:Ub)(d:Ub):Option Int:=(F_an n a.number d.number).bind λe=>some e
theorem k_bt(n:Nat)(a:Ub)(d:Ub):Ks (F_bt n a d) 181 [.rp (Ub.c a),.rp (Ub.c d)] [] (λr=>I r):=by
 refine Kg 6 func181 Z Z Z Z λr h=>DSs 8 Z (D 2 Z ?_);refine DS.wo (x:=.rp [I a.number,.rsl 57 (map Fact.c a.r0),.rsl 57 (map Fact.c a.r1),.rsl 57 (map Fact.c a.r2),.rsl 4 (map Report.c a.reports),.bool a.appeal]) ?_ ?_
 .exact Fr Qj5 Z Wp
 refine D 3 Z ?_;refine DS.wo (x:=.rp [I d.number,.rsl 57 (map Fact.c d.r0),.rsl 57 (map Fact.c d.r1),.rsl 57 (map Fact.c d.r2),.rsl 4 (map Report.c d.reports),.bool d.appeal]) ?_ ?_
 .exact Fr Qj5 Z Wp
 exact D 1 Z (Eg Z (Cz [] h (k_an _ _ _) Z λf e h=>Gt 4 Z h 4 []))
def F_bv(n:Nat)(a:Ub)(d:Ub):Option Bool:=(F_bt n a d).bind λe=>some (e==0)
theorem k_bv(n:Nat)(a:Ub)(d:Ub):Ks (F_bv n a d) 230 [.rp (Ub.c a),.rp (Ub.c d),.ptr 0 0] [.cells 254 [.fn (.func 181) [] []]] (λr=>.bool r):=by
 exact Kg 10 func230 Z Z Z Z λr h=>Cz [] h (k_bt _ _ _) Z λf e h=>Gt 5 Z h 5 [0]
def F_nf(n:Nat)(d:List Ub)(a:Int):Option (Ctl Int Unit):=(bif decide (a<(d.length:Int))then(idx d a).bind λe=>(idx d (i64.wrap (a-1))).bind λf=>(F_bv n e f).bind λg=>((bif (!g)then none else some ()):Option Unit).bind λh=>some (.cont (i64.wrap (a+1)))else some (.done ()))
def F_lj(n:Nat)(d:List Ub)(a:Int):Option (Ctl Int Unit):=(bif decide (a<(d.length:Int))then(idx d a).bind λe=>(idx d (i64.wrap (a-1))).bind λf=>(F_bv n e f).bind λg=>(bif g then(slc d a (d.length:Int)).bind λh=>(iter (F_nf n h) n 1:Option Unit).bind λi=>none else some (.cont (i64.wrap (a+1))))else some (.done ()))
def F_ec(n:Nat)(a:List Ub):Option Unit:=(bif decide ((a.length:Int)<2)then some ()else(iter (F_lj n a) n 1:Option Unit).bind λd=>some ())
theorem k_ec(n:Nat)(y:List Ub):Ks (F_ec n y) 229 [.rsl 1 (map Ub.ptr y),.fn (.func 230) [] [.ptr 0 0]] [.cells 254 [.fn (.func 181) [] []]] (λ_=>.rsl 1 (map Ub.ptr y)):=by
 refine Kg 9 func229 Z Z Z Z λr h=>Lg 3 Z Z (Cn Z h (λP h=>?_) (λP h=>?_))
 .exact QG 8 Z h 4 [0]
 refine Gc 8 Z (Bd h λz B h=>Cg z [0] [0] Ze Ze Zf ?_ ?_)
 .refine G0 1 Z (Lp [0] [0,1] (λf=>[(5,I f)]) Ze B Zf (Lr [0]) λf V a i=>?_);refine G0 5 Z (Lg 3 Z Z (Yd Z a (λj a=>?_) (λj a=>?_)))
  .exact Gc 2 Z (Qh a (Gx 1 Z (cQo i a (Lr [0]))))
  refine Gc 5 Z (DSs 10 Z (D 3 Z ?_));obtain⟨E,k,a⟩:=YB a;refine DS.wo (x:=.rp [.rp (Ub.c E)]) ?_ ?_
  .exact Ix k EU Gr Z Wp
  refine D 4 Z ?_;obtain⟨F,l,a⟩:=YB a;refine DS.wo (x:=.rp [.rp (Ub.c F)]) ?_ ?_
  .exact Ix l EU Gr Z Wp
  refine D 1 Z (Eg Z (Cz [0] a (k_bv _ _ _) Z λW R a=>Go 2 Z (Cn Z a (λm a=>?_) (λm a=>?_))))
  .refine Gc 4 Z (Bd a λG p a=>?_);refine vX (.rsl 1 (map Ub.ptr G)) (QkK p EU Gr (.inr ⟨_,Z,Z⟩) (.inl ⟨Z,Z⟩)) ?_;refine Go 9 Z (Bd a λJ L a=>Cg J [0] [0,5] Ze Ze Zf ?_ ?_)
   .refine G0 1 Z (Lp [0] [0,1,5,6] (λg=>[(7,I g)]) Ze L Zf (Lr [0]) λg X d q=>?_);refine G0 5 Z (Lg 3 Z Z (Yd Z d (λs d=>?_) (λs d=>?_)))
    .exact Gc 2 Z (Qh d (Gx 1 Z (cQo q d (Lr [0]))))
    refine Gc 5 Z (DSs 10 Z (D 3 Z ?_));obtain⟨M,t,d⟩:=YB d;refine DS.wo (x:=.rp [.rp (Ub.c M)]) ?_ ?_
    .exact Ix t EU Gr Z Wp
    refine D 4 Z ?_;obtain⟨N,u,d⟩:=YB d;refine DS.wo (x:=.rp [.rp (Ub.c N)]) ?_ ?_
    .exact Ix u EU Gr Z Wp
    refine D 1 Z (Eg Z (Cz [0] d (k_bv _ _ _) Z λY T d=>Go 3 Z (Bd d λO e d=>?_)));refine Ct O [0] [0,1,5,6,7] Ze Ze Zf ?_ (λenv H Q=>?_)
    .refine G0 0 Z (Cn Z e (λw e=>?_) (λw e=>?_))
     .refine Gc 1 Z ?_;cases e
     exact YC 1 Z e [0]
    exact Gx 2 Z (Qd Q (Gc 5 Z (Qf d (Lr [0]))))
   refine Gc 1 Z ?_;cases a
  exact Gc 8 Z (Qf a (Lr [0]))
 exact QG 7 Z h 4 [0]
def F_cy(n:Nat)(d:List Ub):Option (List Ub):=(F_et n d).bind λe=>(Qb7 (λx y=>F_bt n x y) e).bind λa=>(F_ec n a).bind λf=>some a
theorem k_cy(n:Nat)(d:List Ub):Ks (F_cy n d) 180 [.rsl 1 (map Ub.ptr d),.fn (.func 181) [] []] [] (λr=>.rsl 1 (map Ub.ptr r)):=by
 refine Kg 9 func180 Z Z Z Z λr h=>Cd [] h (k_et _ _) Z λg e h=>Fg 7 Z Z (Bd h λi a h=>?_);refine QX [1] (OpC.fn call228 Z Z Z) (QqL (ea:=λx=>.rp (Ub.c x)) Qg7 a (λx y c h=>k_bt n x y c h) isAgg196 Gr call181 Z) ?_;rintro _ _ ⟨rfl,rfl⟩;refine FE Z ?_;refine QH (Q7 (s:=0) Z (congrArg (λn=>A.osl 1 0 n 1) (QaI a))) ?_;refine QH (Q7 (s:=6) Z (congrArg (λn=>A.osl 1 0 n 1) (QaI a))) ?_;refine QH (Q7 (s:=7) Z (congrArg (λn=>A.osl 1 0 n 1) (QaI a))) ?_;refine Go 6 Z ?_;refine QH (Qau [(0,_),(6,_),(7,_),(10,_)] Z Z (QpL.cons Z En (QpL.cons Z En (QpL.cons Z En (QpL.cons Z En QpL.nil)))) (Ec (Ec (Jl _)))) ?_;exact Cd [0] h (k_ec _ _) Z λj f h=>FE Z (Gt 4 Z h 4 [])
def ToldE(env:Env):Env->Prop
  |[]=>True
  |p::r=>lk env p.1=p.2/\ToldE env r
theorem QqG{h0:Nat}{env env':Env}{H:Qb}(h:ToldE env env'):Le h0 env H env' H:=by
  refine Le.env λs=>?_
  induction env' with
  |nil=>exact .inl Z
  |cons p r ih=>
    obtain⟨a,d⟩:=h;show lk (p::r) s=_\/_;by_cases q:s=p.1
    · refine .inr ?_
      subst q;simp only[lk,Vz];exact a.symm
    · have e:Nat.beq s p.1=false:=by
        cases z:Nat.beq s p.1 with
        |true=>exact absurd (XN z) q
        |false=>rfl
      simp only[lk,e];exact ih d
section
variable {P:Program} {N m n:Nat} {bs ds ds':List Nat} {cat:Kat} {l:List Oper} {env:Env} {Hs:List Qb} {X:Qb} {K:List Oper->Env->Qb->Prop} {r:List Oper} {xs xs':List A} {x:A}
theorem DK.ad(h:Qdi xs x=.mk xs')(k:DK P N m bs cat l ds env n K Hs X r xs'):DK P N m bs cat l ds env n K Hs X r (xs++[x]):=by
  rw[JC]at h;cases h;exact k
theorem QpT(h:ds=ds')(k:DK P N m bs cat l ds' env n K Hs X r xs):DK P N m bs cat l ds env n K Hs X r xs:=h▸k
end
abbrev ekI:Int->A:=λn=>I n
def preF(bk:Qa5 Fact Report):Qb:=[.cells 251 [.map 1],.mapP (Qx ekI Qff (Y9 bk))]
abbrev nC(k:Int):Blk:=.cells 200 [I k,.nils,.nils,.nils,.nils,.bool false]
theorem fx_2:QI prog 200 2 4 1:=FA Ga rfl sizeOf198
theorem fx_3:QI prog 200 3 5 1:=FA Ga rfl Gi
theorem QqT:Q1 prog 198 60 4:=⟨runUnderlying198,sizeOf60,⟨_,zeroValue60,rfl⟩,⟨_,typeInfo60,by decide⟩⟩
theorem Qlj(k:Int)(bk:Qa5 Fact Report)(G:Qb)(hB:YR Ub.K 2 (preF bk++G) bk):C prog 179 [I k,.ptr 0 0] (preF bk++G) (λa H'=>∃l e r G',a=.ptr e.2.b 0/\H'=preF (l++e::r)++G'/\YR Ub.K 2 H' (l++e::r)/\e.1.number=k/\(l++e::r).map (·.1)=Qaf (bk.map (·.1)) k):=by
  refine QF func179 Z Z Z ?_;refine TC.seq (TC.region (vV (OpV.assign Z Z) (WO.nil ?_)));refine TC.seq (TC.seq (TC.region ?_));refine vV (x:=.map 1) (Ey Z isAgg251 Z (Pts.cells Z Z)) ?_;refine vV (x:=I k) (OpV.move Z Z) ?_;have hlen:(preF bk++G).length=G.length+2:=by simp[preF]
  rcases Qez bk k with⟨f,d⟩|⟨l,e,r,rfl,d,p,g⟩
  · refine vV (x:=.nilp) (QlX (ek:=ekI) (ev:=Qff) (k:=k) (l:=Y9 bk) JF f Gg zeroValue196) ?_
    refine vV (x:=.bool true) (QkH runUnderlying196 Z) (WO.nil ?_);refine QkB Z Z (TC.region ?_);refine vV (x:=.map 1) (Ey Z isAgg251 Z (Pts.cells Z Z)) ?_;refine vV (x:=I k) (OpV.move Z Z) ?_;refine vV (x:=I k) (OpV.move Z Z) ?_;refine vV (x:=.agg [I k,.nils,.nils,.nils,.nils,.bool false]) (OpV.build (zs:=[I 0,.nils,.nils,.nils,.nils,.bool false]) zeroValue200 (zrC Z) Qrd) ?_;refine Js (x:=.ptr (preF bk++G).length 0) (H':=(preF bk++G)++[nC k]) (XQ _) Z Z Z (OpH.box (v:=.agg [I k,.nils,.nils,.nils,.nils,.bool false]) (cs:=[I k,.nils,.nils,.nils,.nils,.bool false]) Z Z Z Z Z) ?_;have n:preF (bk++[(QaP k,Qbb (preF bk++G).length)])++(G++[nC k])=List.set (preF bk++G++[nC k]) 1 (.mapP (Qx ekI Qff (Y9 bk++[(k,(preF bk++G).length)]))):=by
      unfold preF;rw[QnF];simp[Y9,QaP,Qbb]
    refine QbV (H':=preF (bk++[(QaP k,Qbb (preF bk++G).length)])++(G++[nC k])) (by simp) Z Z ?_ ?_
    · rw[n]
      refine QnW (ek:=ekI) (ev:=Qff) (k:=k) (l:=Y9 bk) (v:=(preF bk++G).length) (i:=1) (x:=.tmp 8) (y:=.tmp 9) (zz:=.tmp 12) (T:=251) JF f Gg ?_ ?_ ?_ ?_ ?_<;>rfl
    refine WO.nil ?_;have h:∀env,Le (preF bk++G).length env (preF (bk++[(QaP k,Qbb (preF bk++G).length)])++(G++[nC k])) env (preF (bk++[(QaP k,Qbb (preF bk++G).length)])++(G++QcB Ub.K (preF bk++G).length k)):=λenv=>by
      have:=Ql2 Ub.K (h0:=(preF bk++G).length) (env:=env) (H:=preF (bk++[(QaP k,Qbb (preF bk++G).length)])++G) (k:=k) (by simp[preF]);rw[Vc,Vc,show(preF (bk++[(QaP k,Qbb (preF bk++G).length)])++G).length=(preF bk++G).length by simp[preF]]at this;exact this
    refine Qd (h _) ?_;have hB1:YR Ub.K 2 (preF (bk++[(QaP k,Qbb (preF bk++G).length)])++G) bk:=hB.keep λj m s=>by
      rw[XK (by simpa[preF]using m),XK (by simpa[preF]using m)];rfl
    have hB2:=hB1.new (k:=k) d (by simp[preF]);rw[Vc,show(preF (bk++[(QaP k,Qbb (preF bk++G).length)])++G).length=(preF bk++G).length by simp[preF]]at hB2;have hg:YN (Y9 (bk++[(QaP k,Qbb (preF bk++G).length)])) k=some (preF bk++G).length:=by
      rcases Qez (bk++[(QaP k,Qbb (preF bk++G).length)]) k with⟨g1,g2⟩|⟨l,e,r,g1,g2,g3,g4⟩
      · exact absurd Z (g2 (QaP k,Qbb (preF bk++G).length) (by simp))
      · rw[g4]
        have hm:e∈bk++[(QaP k,Qbb (preF bk++G).length)]:=by rw[g1];simp
        rcases Vx.1 hm with q|q
        · exact absurd g2 (d e q)
        · rw[Vv.1 q];rfl
    refine TC.seq (TC.region ?_);refine vV (x:=.map 1) (Ey Z isAgg251 Z (Pts.cells Z Z)) ?_;refine vV (x:=I k) (OpV.move Z Z) ?_;refine vV (x:=.ptr (preF bk++G).length 0) (Qdl (ek:=ekI) (ev:=Qff) (k:=k) (l:=Y9 (bk++[(QaP k,Qbb (preF bk++G).length)])) JF hg Gg) ?_;refine vV (OpV.assign Z Z) (WO.nil ?_);refine TC.ret ⟨_,_,.ptr (preF bk++G).length 0,Le.refl _ _ _,Qd5.one Z Z,?_⟩;refine⟨bk,(QaP k,Qbb (preF bk++G).length),[],_,Z,Z,hB2,Z,?_⟩;rw[Qci (λx hx q=>by obtain⟨e,he,rfl⟩:=Xf.1 hx;exact d e he q)];simp
  · refine vV (x:=.ptr e.2.b 0) (Qdl (ek:=ekI) (ev:=Qff) (k:=k) (l:=Y9 (l++e::r)) JF g Gg) ?_
    refine vV (x:=.bool false) (QkG runUnderlying196 Z) (WO.nil ?_);refine QkC Z Z (TC.skip ?_);refine TC.seq (TC.region ?_);refine vV (x:=.map 1) (Ey Z isAgg251 Z (Pts.cells Z Z)) ?_;refine vV (x:=I k) (OpV.move Z Z) ?_;refine vV (x:=.ptr e.2.b 0) (Qdl (ek:=ekI) (ev:=Qff) (k:=k) (l:=Y9 (l++e::r)) JF g Gg) ?_;refine vV (OpV.assign Z Z) (WO.nil ?_);refine TC.ret ⟨_,_,.ptr e.2.b 0,Le.refl _ _ _,Qd5.one Z Z,?_⟩;refine⟨l,e,r,G,Z,Z,hB,d,?_⟩;rw[QdL ⟨e.1,by simp,d⟩]
def filesAdd(fs:List Ub)(k inst:Int)(f:Fact):Option (List Ub):=bif inst==0 then some (Qb4 fs k λx=>{x with r0:=x.r0++[f]})else bif inst==1 then some (Qb4 fs k λx=>{x with r1:=x.r1++[f]})else bif inst==2 then some (Qb4 fs k λx=>{x with r2:=x.r2++[f]})else none
def filesStep(fs:List Ub)(f:Fact):Option (List Ub):=bif f.Kind==10 then(bif QfU (Qaf fs f.Ruling.Case)then filesAdd (Qaf fs f.Ruling.Case) f.Ruling.Case f.Ruling.Instance f else none)
  else bif f.Kind==8 then(bif QfU (Qaf fs f.Report.Case)then some (Qb4 (Qaf fs f.Report.Case) f.Report.Case λx=>{x with reports:=x.reports++[f.Report]})else none)
  else bif f.Kind==11 then(bif f.Appeal.Suspends then some (Qb4 (Qaf fs f.Appeal.Case) f.Appeal.Case λx=>{x with appeal:=true})else some fs)else some fs
def filesL(n:Nat)(l:List Fact)(s:List Ub×Int):Option (Ctl (List Ub×Int) (List Ub)):=bif decide (s.2<(l.length:Int))then(idx l s.2).bind λf=>(filesStep s.1 f).bind λfs=>some (.cont (fs,i64.wrap (s.2+1)))else some (.done s.1)
def filesE(l:List Fact)(i:Int):Env:=[(6,.ptr 0 0),(7,.fn (.func 179) [] [.ptr 0 0]),(32,.rsl 57 (map Fact.c l)),(33,I l.length),(34,I i)]
def filesI(l:List Fact)(s:List Ub×Int)(env:Env)(H:Qb):Prop:=(lk env 6=.ptr 0 0/\lk env 7=.fn (.func 179) [] [.ptr 0 0]/\lk env 32=.rsl 57 (map Fact.c l)/\lk env 33=I l.length/\lk env 34=I s.2)/\ ∃bk G,H=preF bk++G/\YR Ub.K 2 H bk/\bk.map (·.1)=s.1
def filesJ(l:List Fact)(fs:List Ub)(i:Int):QV:=λx env H=>x=.normal/\(lk env 6=.ptr 0 0/\lk env 7=.fn (.func 179) [] [.ptr 0 0]/\lk env 32=.rsl 57 (map Fact.c l)/\lk env 33=I l.length/\lk env 34=I i)/\ ∃bk G,H=preF bk++G/\YR Ub.K 2 H bk/\bk.map (·.1)=fs
theorem QhP{l:List Fact}{i:Int}{env:Env}{H:Qb}{h0:Nat}(h:lk env 6=.ptr 0 0/\lk env 7=.fn (.func 179) [] [.ptr 0 0]/\lk env 32=.rsl 57 (map Fact.c l)/\lk env 33=I l.length/\lk env 34=I i):Le h0 env H (filesE l i) H:=by
  obtain⟨n,p,q,r,s⟩:=h;refine Le.env λk=>?_;by_cases a:k=6
  · subst a;exact .inr n.symm
  by_cases d:k=7
  · subst d;exact .inr p.symm
  by_cases f:k=32
  · subst f;exact .inr q.symm
  by_cases g:k=33
  · subst g;exact .inr r.symm
  by_cases m:k=34
  · subst m;exact .inr s.symm
  have e:∀j:Nat,k≠j->Nat.beq k j=false:=λj hj=>by
    cases z:Nat.beq k j with
    |true=>exact absurd (XN z) hj
    |false=>rfl
  left;unfold filesE;simp only[lk,e _ a,e _ d,e _ f,e _ g,e _ m];rfl
theorem QhE:∀(l:List Nat) (H:Qb),(Qch H l).length=H.length
  |[],H=>rfl
  |i::l,H=>by unfold Qch;rw[QhE l,XZ]
theorem Qrt{bk:Qa5 Fact Report}{G:Qb}{env:Env}(hB:YR Ub.K 2 (preF bk++G) bk)(he:lk env 6=.ptr 0 0):Le 0 env (preF bk++G) [(6,.ptr 0 0)] [.cells 251 [.map 1],.fmap (Qx ekI (rpE Ub.K) (Qfj (bk.map (·.1))))]:=by
  refine Em (QpH Ub.K (m:=1) hB Z Z) ?_;have hl:(Qch (preF bk++G) (Qd1 bk)).length=G.length+2:=by rw[QhE];simp[preF]
  have hn:∀i,i<2->i∉Qd1 bk:=λi hi q=>by have:=(hB.all.2 i q).1;omega
  have d:((Qch (preF bk++G) (Qd1 bk)).set 1 (.fmap (Qx ekI (rpE Ub.K) (Qfj (bk.map (·.1))))))[0]?=some (.cells 251 [.map 1]):=by
    rw[XM (by omega),QhF (hn 0 (by omega))];rfl
  have e:((Qch (preF bk++G) (Qd1 bk)).set 1 (.fmap (Qx ekI (rpE Ub.K) (Qfj (bk.map (·.1))))))[1]?=some (.fmap (Qx ekI (rpE Ub.K) (Qfj (bk.map (·.1))))):=by
    rw[Xa (by rw[hl];omega)]
  refine QpK 2 (XR _) (by rw[XZ,hl];omega) ?_ ⟨he,trivial⟩;exact congr (congrArg (λa b=>[a,b]) d.symm) e.symm
theorem QoV{H:Qb}{bk:Qa5 Fact Report}(h0:H[0]?=some (.cells 251 [.map 1]))(d:H[1]?=some (.mapP (Qx ekI Qff (Y9 bk)))):H=preF bk++H.drop 2:=by
  match H,h0,d with
  |a::b::G,h0,d=>
    simp at h0 d;subst h0 d;rfl
theorem Qgn{l r:Qa5 Fact Report}{e:Fil Fact Report×Pl}{x':Fil Fact Report}{p':Pl}{H:Qb}{fs:List Ub}{k:Int}{g:Fil Fact Report->Fil Fact Report}(hB:YR Ub.K 2 H (l++e::r))(hek:e.1.number=k)(hbk:(l++e::r).map (·.1)=Qaf fs k)(hx:g e.1=x'):(l++(x',p')::r).map (·.1)=Qb4 (Qaf fs k) k g:=by
  rw[<- hbk,Xg,Xg,Vd,Vd,QpX (by have:=hB.num;simpa[Function.comp_def]using this) hek,hx]
theorem Qru{l r:Qa5 Fact Report}{e:Fil Fact Report×Pl}{G:Qb}(hB:YR Ub.K 2 (preF (l++e::r)++G) (l++e::r)):∃G',(preF (l++e::r)++G).set e.2.b (.cells 200 (Yj Ub.K e.2 {e.1 with appeal:=true}))=preF (l++({e.1 with appeal:=true},e.2)::r)++G'/\YR Ub.K 2 ((preF (l++e::r)++G).set e.2.b (.cells 200 (Yj Ub.K e.2 {e.1 with appeal:=true}))) (l++({e.1 with appeal:=true},e.2)::r):=by
  have hb:2<=e.2.b:=hB.lo e (by simp) _ (by simp[Pl.ix]);have hl:=hB.laid e (by simp);have hlt:=hl.lt e.2.b (by simp[Pl.ix]);have ho:=hB.own e (by simp);simp only[Pl.ix,List.nodup_cons,X0,List.not_mem_nil,or_false,not_or]at ho;obtain⟨⟨n0,n1,n2,n3⟩,_⟩:=ho;refine⟨_,QoV ?_ ?_,hB.upd ⟨?_,?_,?_,?_,?_⟩ Z ?_ (λi hi=>.inl hi) (hB.own e (by simp)) (by simp[preF])⟩
  · rw[XM (by omega)];rfl
  · rw[XM (by omega)];simp[preF,Y9]
  · rw[Xa hlt]
  · rw[XM n0];exact hl.r0
  · rw[XM n1];exact hl.r1
  · rw[XM n2];exact hl.r2
  · rw[XM n3];exact hl.r3
  · intro j _ _ q
    rw[XM (λz=>q (by rw[<- z];simp[Pl.ix]))]
theorem QoW{β:Type}{c:Bool}{x:Option β}{y:β}(h:(bif c then x else none)=some y):c=true/\x=some y:=by
  cases c with
  |true=>exact⟨Z,h⟩
  |false=>cases h
theorem QiE{β:Type}{l:List β}{x:β}(h:l.length+1<=QC):app l [x]=some (l++[x]):=by
  unfold app;simp[XP h]
theorem QiD{l r:Qa5 Fact Report}{e:Fil Fact Report×Pl}{G:Qb}{x':Fil Fact Report}{p':Pl}{i:Nat}{y:Blk}(hB:YR Ub.K 2 (preF (l++e::r)++G) (l++e::r))(hi:i∈e.2.ix)(hib:i≠e.2.b)(hn:x'.number=e.1.number)(hb:p'.b=e.2.b)
    (hp:p'.ix=e.2.ix.map λj=>bif Nat.beq j i then(preF (l++e::r)++G).length else j)
    (hrows:∀H':Qb,(∀j,j∈e.2.ix->j≠i->j≠e.2.b->H'[j]?=(preF (l++e::r)++G)[j]?)->H'[(preF (l++e::r)++G).length]?=some y->
      H'[p'.i0]?=some (.row Ub.K.tF Ub.K.kF (x'.r0.map Ub.K.eF))/\H'[p'.i1]?=some (.row Ub.K.tF Ub.K.kF (x'.r1.map Ub.K.eF))/\H'[p'.i2]?=some (.row Ub.K.tF Ub.K.kF (x'.r2.map Ub.K.eF))/\H'[p'.i3]?=some (.row Ub.K.tR Ub.K.kR (x'.reports.map Ub.K.eR))):
    ((preF (l++e::r)++G).set i .dead++[y])[e.2.b]?=some (.cells 200 (Yj Ub.K e.2 e.1))/\ ∃G2,((preF (l++e::r)++G).set i .dead++[y]).set e.2.b (.cells 200 (Yj Ub.K p' x'))=preF (l++(x',p')::r)++G2/\
      YR Ub.K 2 (((preF (l++e::r)++G).set i .dead++[y]).set e.2.b (.cells 200 (Yj Ub.K p' x'))) (l++(x',p')::r):=by
  have hl:=hB.laid e (by simp);have hlt:=hl.lt;have hbl:=hlt e.2.b (by simp[Pl.ix]);have g:2<=e.2.b:=hB.lo e (by simp) _ (by simp[Pl.ix]);have hi2:2<=i:=hB.lo e (by simp) _ hi;have hlow:∀j,j<2->(((preF (l++e::r)++G).set i .dead++[y]).set e.2.b (.cells 200 (Yj Ub.K p' x')))[j]?=(preF (l++e::r)++G)[j]? :=λj hj=>by
    rw[XM (by omega),XJ (by simp[preF];omega),XM (by omega)]
  have hr:=hrows (((preF (l++e::r)++G).set i .dead++[y]).set e.2.b (.cells 200 (Yj Ub.K p' x'))) (λj a d f=>by
    rw[XM (λq=>f q.symm),XJ (by rw[XZ];exact hlt j a),XM (λq=>d q.symm)]) (by
    rw[XM (by omega),XK (by rw[XZ];exact XQ _),XZ,Nat.sub_self];rfl)
  obtain⟨h0,a,d,f⟩:=hr;refine⟨?_,_,QoV ?_ ?_,hB.row (by simp[preF]) hn hi hib hb Z hp h0 a d f⟩
  · rw[XJ (by rw[XZ];exact hbl),XM hib];exact hl.c
  · rw[hlow 0 (by omega)];rfl
  · rw[hlow 1 (by omega),QnE hn hb];rfl
theorem nbF{a b:Nat}(h:a≠b):Nat.beq a b=false:=by
  cases z:Nat.beq a b with
  |true=>exact absurd (XN z) h
  |false=>rfl
theorem Qqf{l r:Qa5 Fact Report}{e:Fil Fact Report×Pl}{G:Qb}(rs:List Report)(hB:YR Ub.K 2 (preF (l++e::r)++G) (l++e::r)):((preF (l++e::r)++G).set e.2.i3 .dead++[Blk.row 60 4 (map Report.c rs)])[e.2.b]?=some (.cells 200 (Yj Ub.K e.2 e.1))/\ ∃G2,((preF (l++e::r)++G).set e.2.i3 .dead++[Blk.row 60 4 (map Report.c rs)]).set e.2.b (.cells 200 (Yj Ub.K {e.2 with i3:=(preF (l++e::r)++G).length} {e.1 with reports:=rs}))=preF (l++({e.1 with reports:=rs},{e.2 with i3:=(preF (l++e::r)++G).length})::r)++G2/\
      YR Ub.K 2 (((preF (l++e::r)++G).set e.2.i3 .dead++[Blk.row 60 4 (map Report.c rs)]).set e.2.b (.cells 200 (Yj Ub.K {e.2 with i3:=(preF (l++e::r)++G).length} {e.1 with reports:=rs}))) (l++({e.1 with reports:=rs},{e.2 with i3:=(preF (l++e::r)++G).length})::r):=by
  have hl:=hB.laid e (by simp);have ho:=hB.own e (by simp);simp only[Pl.ix,List.nodup_cons,X0,List.not_mem_nil,or_false,not_or]at ho;obtain⟨⟨f,b1,b2,a⟩,⟨n1,n2,n3⟩,⟨g,d⟩,k3,_⟩:=ho;refine QiD (x':={e.1 with reports:=rs}) (p':={e.2 with i3:=(preF (l++e::r)++G).length}) hB (by simp[Pl.ix]) (λq=>a q.symm) Z Z ?_ (λH' hk hn=>⟨?_,?_,?_,hn⟩)
  · simp only[Pl.ix,Vd,Ve,nbF a,nbF n3,nbF d,nbF k3,Vz,Vi,Vj]
  · exact(hk e.2.i0 (by simp[Pl.ix]) n3 (λq=>f q.symm)).trans hl.r0
  · exact(hk e.2.i1 (by simp[Pl.ix]) d (λq=>b1 q.symm)).trans hl.r1
  · exact(hk e.2.i2 (by simp[Pl.ix]) k3 (λq=>b2 q.symm)).trans hl.r2
theorem Qqi{l r:Qa5 Fact Report}{e:Fil Fact Report×Pl}{G:Qb}(rs:List Fact)(hB:YR Ub.K 2 (preF (l++e::r)++G) (l++e::r)):((preF (l++e::r)++G).set e.2.i0 .dead++[Blk.row 68 57 (map Fact.c rs)])[e.2.b]?=some (.cells 200 (Yj Ub.K e.2 e.1))/\ ∃G2,((preF (l++e::r)++G).set e.2.i0 .dead++[Blk.row 68 57 (map Fact.c rs)]).set e.2.b (.cells 200 (Yj Ub.K {e.2 with i0:=(preF (l++e::r)++G).length} {e.1 with r0:=rs}))=preF (l++({e.1 with r0:=rs},{e.2 with i0:=(preF (l++e::r)++G).length})::r)++G2/\
      YR Ub.K 2 (((preF (l++e::r)++G).set e.2.i0 .dead++[Blk.row 68 57 (map Fact.c rs)]).set e.2.b (.cells 200 (Yj Ub.K {e.2 with i0:=(preF (l++e::r)++G).length} {e.1 with r0:=rs}))) (l++({e.1 with r0:=rs},{e.2 with i0:=(preF (l++e::r)++G).length})::r):=by
  have hl:=hB.laid e (by simp);have ho:=hB.own e (by simp);simp only[Pl.ix,List.nodup_cons,X0,List.not_mem_nil,or_false,not_or]at ho;obtain⟨⟨a,b1,b2,d⟩,⟨n1,n2,n3⟩,⟨f,g⟩,k3,_⟩:=ho;refine QiD (x':={e.1 with r0:=rs}) (p':={e.2 with i0:=(preF (l++e::r)++G).length}) hB (by simp[Pl.ix]) (λq=>a q.symm) Z Z ?_ (λH' hk hn=>⟨hn,?_,?_,?_⟩)
  · simp only[Pl.ix,Vd,Ve,nbF a,nbF (show e.2.i1≠e.2.i0 from λq=>n1 q.symm),nbF (show e.2.i2≠e.2.i0 from λq=>n2 q.symm),nbF (show e.2.i3≠e.2.i0 from λq=>n3 q.symm),Vz,Vi,Vj]
  · exact(hk e.2.i1 (by simp[Pl.ix]) (λq=>n1 q.symm) (λq=>b1 q.symm)).trans hl.r1
  · exact(hk e.2.i2 (by simp[Pl.ix]) (λq=>n2 q.symm) (λq=>b2 q.symm)).trans hl.r2
  · exact(hk e.2.i3 (by simp[Pl.ix]) (λq=>n3 q.symm) (λq=>d q.symm)).trans hl.r3
theorem Qqh{l r:Qa5 Fact Report}{e:Fil Fact Report×Pl}{G:Qb}(rs:List Fact)(hB:YR Ub.K 2 (preF (l++e::r)++G) (l++e::r)):((preF (l++e::r)++G).set e.2.i1 .dead++[Blk.row 68 57 (map Fact.c rs)])[e.2.b]?=some (.cells 200 (Yj Ub.K e.2 e.1))/\ ∃G2,((preF (l++e::r)++G).set e.2.i1 .dead++[Blk.row 68 57 (map Fact.c rs)]).set e.2.b (.cells 200 (Yj Ub.K {e.2 with i1:=(preF (l++e::r)++G).length} {e.1 with r1:=rs}))=preF (l++({e.1 with r1:=rs},{e.2 with i1:=(preF (l++e::r)++G).length})::r)++G2/\
      YR Ub.K 2 (((preF (l++e::r)++G).set e.2.i1 .dead++[Blk.row 68 57 (map Fact.c rs)]).set e.2.b (.cells 200 (Yj Ub.K {e.2 with i1:=(preF (l++e::r)++G).length} {e.1 with r1:=rs}))) (l++({e.1 with r1:=rs},{e.2 with i1:=(preF (l++e::r)++G).length})::r):=by
  have hl:=hB.laid e (by simp);have ho:=hB.own e (by simp);simp only[Pl.ix,List.nodup_cons,X0,List.not_mem_nil,or_false,not_or]at ho;obtain⟨⟨f,b1,b2,g⟩,⟨n1,n2,n3⟩,⟨a,d⟩,k3,_⟩:=ho;refine QiD (x':={e.1 with r1:=rs}) (p':={e.2 with i1:=(preF (l++e::r)++G).length}) hB (by simp[Pl.ix]) (λq=>b1 q.symm) Z Z ?_ (λH' hk hn=>⟨?_,hn,?_,?_⟩)
  · simp only[Pl.ix,Vd,Ve,nbF b1,nbF n1,nbF (show e.2.i2≠e.2.i1 from λq=>a q.symm),nbF (show e.2.i3≠e.2.i1 from λq=>d q.symm),Vz,Vi,Vj]
  · exact(hk e.2.i0 (by simp[Pl.ix]) n1 (λq=>f q.symm)).trans hl.r0
  · exact(hk e.2.i2 (by simp[Pl.ix]) (λq=>a q.symm) (λq=>b2 q.symm)).trans hl.r2
  · exact(hk e.2.i3 (by simp[Pl.ix]) (λq=>d q.symm) (λq=>g q.symm)).trans hl.r3
theorem Qqg{l r:Qa5 Fact Report}{e:Fil Fact Report×Pl}{G:Qb}(rs:List Fact)(hB:YR Ub.K 2 (preF (l++e::r)++G) (l++e::r)):((preF (l++e::r)++G).set e.2.i2 .dead++[Blk.row 68 57 (map Fact.c rs)])[e.2.b]?=some (.cells 200 (Yj Ub.K e.2 e.1))/\ ∃G2,((preF (l++e::r)++G).set e.2.i2 .dead++[Blk.row 68 57 (map Fact.c rs)]).set e.2.b (.cells 200 (Yj Ub.K {e.2 with i2:=(preF (l++e::r)++G).length} {e.1 with r2:=rs}))=preF (l++({e.1 with r2:=rs},{e.2 with i2:=(preF (l++e::r)++G).length})::r)++G2/\
      YR Ub.K 2 (((preF (l++e::r)++G).set e.2.i2 .dead++[Blk.row 68 57 (map Fact.c rs)]).set e.2.b (.cells 200 (Yj Ub.K {e.2 with i2:=(preF (l++e::r)++G).length} {e.1 with r2:=rs}))) (l++({e.1 with r2:=rs},{e.2 with i2:=(preF (l++e::r)++G).length})::r):=by
  have hl:=hB.laid e (by simp);have ho:=hB.own e (by simp);simp only[Pl.ix,List.nodup_cons,X0,List.not_mem_nil,or_false,not_or]at ho;obtain⟨⟨d,b1,b2,f⟩,⟨n1,n2,n3⟩,⟨a,g⟩,k3,_⟩:=ho;refine QiD (x':={e.1 with r2:=rs}) (p':={e.2 with i2:=(preF (l++e::r)++G).length}) hB (by simp[Pl.ix]) (λq=>b2 q.symm) Z Z ?_ (λH' hk hn=>⟨?_,?_,hn,?_⟩)
  · simp only[Pl.ix,Vd,Ve,nbF b2,nbF n2,nbF a,nbF (show e.2.i3≠e.2.i2 from λq=>k3 q.symm),Vz,Vi,Vj]
  · exact(hk e.2.i0 (by simp[Pl.ix]) n2 (λq=>d q.symm)).trans hl.r0
  · exact(hk e.2.i1 (by simp[Pl.ix]) a (λq=>b1 q.symm)).trans hl.r1
  · exact(hk e.2.i3 (by simp[Pl.ix]) (λq=>k3 q.symm) (λq=>f q.symm)).trans hl.r3
def F_ls(n:Nat)(e:List Fact)(a:(List Fact)×Int):Option (Ctl ((List Fact)×Int) (List Fact)):=(bif decide (a.2<(e.length:Int))then(idx e a.2).bind λd=>(F_au n d).bind λf=>((bif (f==0)then(app a.1 [d]).bind λg=>some g else some a.1):Option (List Fact)).bind λh=>some (.cont (h,i64.wrap (a.2+1)))else some (.done a.1))
def F_iy(n:Nat)(a:List Ub)(d:Int×Ub):Option (Ctl (List Ub) (List Ub)):=(app a [d.2]).bind λe=>some (.cont e)
def F_lu(n:Nat)(a:List Ub):Option (List Ub):=some a
def F_gb(n:Nat)(h:List Fact):Option (List Ub):=(iter (F_ls n h) n ([],0):Option (List Fact)).bind λa=>(F_bk n a).bind λd=>(iter (filesL n d) n (([]:List Ub),0):Option (List Ub)).bind λe=>anyP (λp77=>(QfP (F_iy n) (F_lu n) [] p77).bind λf=>(F_cy n f).bind λg=>some g) (Qfj e)
theorem k_gb(n:Nat)(a1:List Fact):Ks (F_gb n a1) 119 [.rsl 57 (map Fact.c a1)] [] (λr=>.rsl 1 (map Ub.ptr r)):=by
 refine Kg 14 func119 Z Z Z Z λr h=>Lg 3 Z Z (Bd h λz ae h=>Ct z [0] [] (λz=>[(3,.osl 0 0 z.length 57)]) (λz=>[(0,.row 68 57 (map Fact.c z))]) Zf ?_ (λenv H q=>?_))
 .refine G0 1 Z (Lp [0] [15,16] (λB=>[(3,.osl 0 0 B.1.length 57),(17,I B.2)]) (λB=>[(0,.row 68 57 (map Fact.c B.1))]) ae Zf ?_ ?_)
  .refine Em (Eo (s:=3) (k:=57) (t:=68) (XO Z) Z) ?_;exact Lr [0]
  intro B au a V;refine G0 6 Z (Yd Z a (λW a=>?_) (λW a=>?_))
  .exact Gc 2 Z (Qh a (Gx 1 Z (cQo V a (Lr [0]))))
  refine Gc 6 Z (Bd a λaf Y a=>Iz Y Z (Go 8 Z (Cz [] a (k_au _ _) Z λav ao a=>Go 3 Z (Bd a λE u a=>Ct E [0] [15,16,17] (λE=>[(3,.osl 0 0 E.length 57)]) (λE=>[(0,.row 68 57 (map Fact.c E))]) Zf ?_ (λenv H q=>?_)))))
  .refine G0 0 Z (Cn Z u (λaa u=>?_) (λaa u=>?_))
   .refine Gc 3 Z (vH (Ej (xs:=[.tmp 25]) (es:=map Fact.c [af]) YF Z Z Z Z Z ⟨Z,trivial⟩ Z Z) ?_);refine FE Z (Bd u λaw ab u=>vH (Qg (e:=Fact.c) ab YF EA (QM (i:=2))) ?_);exact FE Z (Gl 2 Z u [3])
   exact YC 1 Z u [0]
  exact Gx 2 Z (Qd q (Gc 4 Z (Qf a (Lr [0]))))
 refine Gx 1 Z (Qd q (Gc 2 Z (vH Ql0 ?_)));refine Fg 14 Z Z ?_;refine QH (Qau [(3,_),(31,_)] Z Z (QpL.cons Z En (QpL.cons Z En QpL.nil)) (Ec (Jl _))) ?_;refine Cd [] h (k_bk _ _) Z λw aq h=>Fg 4 Z Z ?_;refine Qd (Qau [(32,_)] Z Z (QpL.cons Z En QpL.nil) (Ec (Ec (Ec (Ec (Jl _)))))) (Bd h λag ah h=>TC.cut [(6,.ptr 0 0)] [.cells 251 [.map 1],.fmap (Qx (λx=>A.int .i64 x) (rpE Ub.K) (Qfj ag))] ?_ (λenv H q=>?_))
 .refine TC.block (Qd (env':=filesE w 0) (H':=preF []) (Lr [2,1]) ?_);refine QkA (I:=filesI w) ?_ ah ⟨⟨Z,Z,Z,Z,Z⟩,[],[],Z,YR.nil,Z⟩;rintro s d env H ⟨he,bk,G,rfl,hB,hfs⟩ hs hd;refine Qd (QhP he) ?_;refine TC.seq (TC.region (vV (x:=.bool (decide (s.2<(w.length:Int)))) (OpV.lss Z Z Z) (WO.nil ?_)));refine TC.seq ?_;unfold filesL at hs;refine TC.cond (x:=.tmp 35) (t:=decide (s.2<(w.length:Int))) Z (λht=>TC.skip ?_) (λht=>TC.exit ?_)
  · rw[ht,Vi]at hs
    obtain⟨f,hf,hs⟩:=YB hs;obtain⟨fs,hst,hs⟩:=YB hs;cases hs;refine TC.seq (TC.mono (Q:=filesJ w fs s.2) (TC.block (TC.seq (TC.region ?_))) ?_)
    rotate_left
    · rintro x env H ⟨rfl,he,bk',G',rfl,hB',hfs'⟩
      refine Qd (QhP he) (TC.region ?_);refine vV (x:=I (i64.wrap (s.2+1))) (OpV.add Z Z Z) ?_;refine vV (x:=I (i64.wrap (s.2+1))) (OpV.move Z Z) (WO.nil ?_);exact⟨_,Z,⟨Z,Z,Z,Z,Z⟩,bk',G',Z,hB',hfs'⟩
    refine vV (x:=.rp (Fact.c f)) (QcL (e:=Fact.c) hf EA EB) ?_;refine vV (x:=.agg (Fact.c f)) (Qn Z EJ EB Z Pts.rp Z Z) ?_;refine QnJ (v:=.agg (Fact.c Uk)) (cs:=Fact.c f) Gj (zrC Z) EB (WO.nil ?_);refine TC.seq (TC.region ?_);refine vV (QD QdO Z Z Z) ?_;refine vV (x:=I f.Kind) (Ey Z ED Z Pts.rp) (WO.nil ?_);refine TC.block (TC.seq (TC.region ?_));refine vV (x:=.bool (f.Kind==10)) (OpV.eql Z Z Z) ?_;refine vV (OpV.assign Z Z) (WO.nil ?_);unfold filesStep at hst;refine TC.cond (t:=f.Kind==10) Z (λL=>?_) (λL=>?_)
    · rw[L,Vi]at hst
      obtain⟨hroom,hst⟩:=QoW hst;refine TC.seq (TC.region ?_);refine vV (OpV.move Z Z) ?_;refine vV (QD Jp Z Z Z) ?_;refine vV (QD QmA Z Z Z) ?_;refine vV (x:=I f.Ruling.Case) (Ey Z ED Z Pts.rp) ?_;refine Qdj (Qea call179 Z Z Z Z) (Qlj f.Ruling.Case bk G hB) ?_ (XR _);rintro _ _ ⟨l,e,r,G',rfl,rfl,hB',hek,hbk⟩;refine vV (OpV.assign Z Z) (WO.nil ?_);refine Qd (QqG (env':=[(6,.ptr 0 0),(7,.fn (.func 179) [] [.ptr 0 0]),(32,.rsl 57 (map Fact.c w)),(33,I w.length),(34,I s.2),(9,.rp (Fact.c f)),(10,.ptr e.2.b 0)]) ⟨Z,Z,Z,Z,Z,Z,Z,trivial⟩) ?_;have hl:=hB'.laid e (by simp);have hrm:=Qjw (l:=l.map (·.1)) (r:=r.map (·.1)) (x:=e.1) (by rw[<- Vd, <- Xg,hbk,hfs];exact hroom);unfold filesAdd at hst;refine If hst (λhi hst=>?_) (λhi0 hst=>If hst (λhi hst=>?_) (λhi1 hst=>If hst (λhi hst=>?_) (λhi2 hst=>by cases hst)))
      ·
        cases hst;have happ:app e.1.r0 [f]=some (e.1.r0++[f]):=QiE hrm.1;refine DKs 18 [14] [(0,0,1),(0,0,1),(0,0,1),(0,0,1),(0,0,0),(0,0,0),(0,0,0),(0,0,0),(0,0,0),(0,0,0),(0,0,0),(0,0,0),(0,0,0),(0,0,0),(1,0,0),(0,0,1),(0,0,1),(0,0,1)] (by kernel_rfl) ?_;refine QpT (ds':=[47,48,49,50,51,52,53,54,55,56,57,58,59,60,61,62,63,64]) Z ?_;refine DK.wa (x:=.ptr e.2.b 0) (λX=>vV (OpV.move Z Z) Wp) ?_;refine DK.ad Z ?_;refine DK.wa (x:=.rp ((Fact.c f).drop 47)) (λX=>vV (QD Jp Z Z Z) Wp) ?_;refine DK.ad Z ?_;refine DK.wa (x:=.rp ((Fact.c f).drop 48)) (λX=>vV (QD QbM Z Z Z) Wp) ?_;refine DK.ad Z ?_;refine DK.wa (x:=I f.Ruling.Instance) (λX=>vV (Ey Z ED Z Pts.rp) Wp) ?_;refine DK.ad Z ?_;refine DK.wo (x:=.ptr e.2.b 0) (vV (OpV.move Z Z) Wp) ?_;refine DK.ad Z ?_;refine DK.wo (x:=.rp ((Fact.c f).drop 47)) (vV (QD Jp Z Z Z) Wp) ?_;refine DK.ad Z ?_;refine DK.wo (x:=.rp ((Fact.c f).drop 48)) (vV (QD QbM Z Z Z) Wp) ?_;refine DK.ad Z ?_;refine DK.wo (x:=I f.Ruling.Instance) (vV (Ey Z ED Z Pts.rp) Wp) ?_;refine DK.ad Z ?_;refine DK.wo (x:=.ptr e.2.b 0) (vV (YV Z) Wp) ?_;refine DK.ad Z ?_;refine DK.wo (x:=.ptr e.2.b 1) (vV (YJ QaS Z Z) Wp) ?_;refine DK.ad Z ?_;refine DK.wo (x:=.ptr e.2.b 1) (vV (Yg (n:=3) (k:=1) (j:=0) hi Z E0 Gf Z) Wp) ?_;refine DK.ad Z ?_;refine DK.wo (x:=.osl e.2.i0 0 e.1.r0.length 57) (vV (Ey Z isAgg34 Z (Pts.cells hl.c Z)) Wp) ?_;refine DK.ad Z ?_;refine DK.wo (x:=.agg (Fact.c f)) (vV (Qn Z EJ EB Z Pts.rp Z Z) Wp) ?_;refine DK.ad Z ?_;refine DK.wo (x:=.rsl 57 (map Fact.c [f])) (Js (XQ _) Z Z Z (Q5 (xs:=[.tmp 59]) (es:=map Fact.c [f]) YF Z Z Z Z Z ⟨Z,trivial⟩ Z Z) Wp) ?_;refine DK.ad Z ?_;refine Ew (x:=.osl (preF (l++e::r)++G').length 0 (e.1.r0++[f]).length 57) (Js (XQ _) Z Z Z (Qg (e:=Fact.c) (l:=e.1.r0) (m:=[f]) happ YF EA Jd (hH:=hl.r0)) Wp) ?_ (hl:=by simp);refine DK.ad Z ?_;refine DK.wa (x:=.ptr e.2.b 0) (λX=>vV (YV Z) Wp) ?_;refine DK.ad Z ?_;refine DK.wa (x:=.ptr e.2.b 1) (λX=>vV (YJ QaS Z Z) Wp) ?_;refine DK.ad Z ?_;refine DK.wa (x:=.ptr e.2.b 1) (λX=>vV (Yg (n:=3) (k:=1) (j:=0) hi Z E0 Gf Z) Wp) ?_;refine DK.ad Z ?_;refine DK.done Z Z ?_;obtain⟨y,G2,hG,hB2⟩:=Qqi (e.1.r0++[f]) hB';refine QbV (XR _) Z Z (Ex (i:=e.2.b) (off:=1) (n:=1) (v:=.osl (preF (l++e::r)++G').length 0 (e.1.r0++[f]).length 57) (vs:=[.osl (preF (l++e::r)++G').length 0 (e.1.r0++[f]).length 57]) (cs:=Yj Ub.K e.2 e.1) (cs':=Yj Ub.K {e.2 with i0:=(preF (l++e::r)++G').length} {e.1 with r0:=e.1.r0++[f]}) Z Z y Gf Z Z Z Z Z Z Z) (WO.nil ?_);exact⟨Z,⟨Z,Z,Z,Z,Z⟩,l++({e.1 with r0:=e.1.r0++[f]},{e.2 with i0:=(preF (l++e::r)++G').length})::r,G2,hG,hB2,Qgn hB' hek (by rw[hbk,hfs]) Z⟩
      ·
        cases hst;have happ:app e.1.r1 [f]=some (e.1.r1++[f]):=QiE hrm.2.1;refine DKs 18 [14] [(0,0,1),(0,0,1),(0,0,1),(0,0,1),(0,0,0),(0,0,0),(0,0,0),(0,0,0),(0,0,0),(0,0,0),(0,0,0),(0,0,0),(0,0,0),(0,0,0),(1,0,0),(0,0,1),(0,0,1),(0,0,1)] (by kernel_rfl) ?_;refine QpT (ds':=[47,48,49,50,51,52,53,54,55,56,57,58,59,60,61,62,63,64]) Z ?_;refine DK.wa (x:=.ptr e.2.b 0) (λX=>vV (OpV.move Z Z) Wp) ?_;refine DK.ad Z ?_;refine DK.wa (x:=.rp ((Fact.c f).drop 47)) (λX=>vV (QD Jp Z Z Z) Wp) ?_;refine DK.ad Z ?_;refine DK.wa (x:=.rp ((Fact.c f).drop 48)) (λX=>vV (QD QbM Z Z Z) Wp) ?_;refine DK.ad Z ?_;refine DK.wa (x:=I f.Ruling.Instance) (λX=>vV (Ey Z ED Z Pts.rp) Wp) ?_;refine DK.ad Z ?_;refine DK.wo (x:=.ptr e.2.b 0) (vV (OpV.move Z Z) Wp) ?_;refine DK.ad Z ?_;refine DK.wo (x:=.rp ((Fact.c f).drop 47)) (vV (QD Jp Z Z Z) Wp) ?_;refine DK.ad Z ?_;refine DK.wo (x:=.rp ((Fact.c f).drop 48)) (vV (QD QbM Z Z Z) Wp) ?_;refine DK.ad Z ?_;refine DK.wo (x:=I f.Ruling.Instance) (vV (Ey Z ED Z Pts.rp) Wp) ?_;refine DK.ad Z ?_;refine DK.wo (x:=.ptr e.2.b 0) (vV (YV Z) Wp) ?_;refine DK.ad Z ?_;refine DK.wo (x:=.ptr e.2.b 1) (vV (YJ QaS Z Z) Wp) ?_;refine DK.ad Z ?_;refine DK.wo (x:=.ptr e.2.b 2) (vV (Yg (n:=3) (k:=1) (j:=1) hi Z E0 Gf Z) Wp) ?_;refine DK.ad Z ?_;refine DK.wo (x:=.osl e.2.i1 0 e.1.r1.length 57) (vV (Ey Z isAgg34 Z (Pts.cells hl.c Z)) Wp) ?_;refine DK.ad Z ?_;refine DK.wo (x:=.agg (Fact.c f)) (vV (Qn Z EJ EB Z Pts.rp Z Z) Wp) ?_;refine DK.ad Z ?_;refine DK.wo (x:=.rsl 57 (map Fact.c [f])) (Js (XQ _) Z Z Z (Q5 (xs:=[.tmp 59]) (es:=map Fact.c [f]) YF Z Z Z Z Z ⟨Z,trivial⟩ Z Z) Wp) ?_;refine DK.ad Z ?_;refine Ew (x:=.osl (preF (l++e::r)++G').length 0 (e.1.r1++[f]).length 57) (Js (XQ _) Z Z Z (Qg (e:=Fact.c) (l:=e.1.r1) (m:=[f]) happ YF EA Jd (hH:=hl.r1)) Wp) ?_ (hl:=by simp);refine DK.ad Z ?_;refine DK.wa (x:=.ptr e.2.b 0) (λX=>vV (YV Z) Wp) ?_;refine DK.ad Z ?_;refine DK.wa (x:=.ptr e.2.b 1) (λX=>vV (YJ QaS Z Z) Wp) ?_;refine DK.ad Z ?_;refine DK.wa (x:=.ptr e.2.b 2) (λX=>vV (Yg (n:=3) (k:=1) (j:=1) hi Z E0 Gf Z) Wp) ?_;refine DK.ad Z ?_;refine DK.done Z Z ?_;obtain⟨y,G2,hG,hB2⟩:=Qqh (e.1.r1++[f]) hB';refine QbV (XR _) Z Z (Ex (i:=e.2.b) (off:=2) (n:=1) (v:=.osl (preF (l++e::r)++G').length 0 (e.1.r1++[f]).length 57) (vs:=[.osl (preF (l++e::r)++G').length 0 (e.1.r1++[f]).length 57]) (cs:=Yj Ub.K e.2 e.1) (cs':=Yj Ub.K {e.2 with i1:=(preF (l++e::r)++G').length} {e.1 with r1:=e.1.r1++[f]}) Z Z y Gf Z Z Z Z Z Z Z) (WO.nil ?_);exact⟨Z,⟨Z,Z,Z,Z,Z⟩,l++({e.1 with r1:=e.1.r1++[f]},{e.2 with i1:=(preF (l++e::r)++G').length})::r,G2,hG,hB2,Qgn hB' hek (by rw[hbk,hfs]) Z⟩
      ·
        cases hst;have happ:app e.1.r2 [f]=some (e.1.r2++[f]):=QiE hrm.2.2.1;refine DKs 18 [14] [(0,0,1),(0,0,1),(0,0,1),(0,0,1),(0,0,0),(0,0,0),(0,0,0),(0,0,0),(0,0,0),(0,0,0),(0,0,0),(0,0,0),(0,0,0),(0,0,0),(1,0,0),(0,0,1),(0,0,1),(0,0,1)] (by kernel_rfl) ?_;refine QpT (ds':=[47,48,49,50,51,52,53,54,55,56,57,58,59,60,61,62,63,64]) Z ?_;refine DK.wa (x:=.ptr e.2.b 0) (λX=>vV (OpV.move Z Z) Wp) ?_;refine DK.ad Z ?_;refine DK.wa (x:=.rp ((Fact.c f).drop 47)) (λX=>vV (QD Jp Z Z Z) Wp) ?_;refine DK.ad Z ?_;refine DK.wa (x:=.rp ((Fact.c f).drop 48)) (λX=>vV (QD QbM Z Z Z) Wp) ?_;refine DK.ad Z ?_;refine DK.wa (x:=I f.Ruling.Instance) (λX=>vV (Ey Z ED Z Pts.rp) Wp) ?_;refine DK.ad Z ?_;refine DK.wo (x:=.ptr e.2.b 0) (vV (OpV.move Z Z) Wp) ?_;refine DK.ad Z ?_;refine DK.wo (x:=.rp ((Fact.c f).drop 47)) (vV (QD Jp Z Z Z) Wp) ?_;refine DK.ad Z ?_;refine DK.wo (x:=.rp ((Fact.c f).drop 48)) (vV (QD QbM Z Z Z) Wp) ?_;refine DK.ad Z ?_;refine DK.wo (x:=I f.Ruling.Instance) (vV (Ey Z ED Z Pts.rp) Wp) ?_;refine DK.ad Z ?_;refine DK.wo (x:=.ptr e.2.b 0) (vV (YV Z) Wp) ?_;refine DK.ad Z ?_;refine DK.wo (x:=.ptr e.2.b 1) (vV (YJ QaS Z Z) Wp) ?_;refine DK.ad Z ?_;refine DK.wo (x:=.ptr e.2.b 3) (vV (Yg (n:=3) (k:=1) (j:=2) hi Z E0 Gf Z) Wp) ?_;refine DK.ad Z ?_;refine DK.wo (x:=.osl e.2.i2 0 e.1.r2.length 57) (vV (Ey Z isAgg34 Z (Pts.cells hl.c Z)) Wp) ?_;refine DK.ad Z ?_;refine DK.wo (x:=.agg (Fact.c f)) (vV (Qn Z EJ EB Z Pts.rp Z Z) Wp) ?_;refine DK.ad Z ?_;refine DK.wo (x:=.rsl 57 (map Fact.c [f])) (Js (XQ _) Z Z Z (Q5 (xs:=[.tmp 59]) (es:=map Fact.c [f]) YF Z Z Z Z Z ⟨Z,trivial⟩ Z Z) Wp) ?_;refine DK.ad Z ?_;refine Ew (x:=.osl (preF (l++e::r)++G').length 0 (e.1.r2++[f]).length 57) (Js (XQ _) Z Z Z (Qg (e:=Fact.c) (l:=e.1.r2) (m:=[f]) happ YF EA Jd (hH:=hl.r2)) Wp) ?_ (hl:=by simp);refine DK.ad Z ?_;refine DK.wa (x:=.ptr e.2.b 0) (λX=>vV (YV Z) Wp) ?_;refine DK.ad Z ?_;refine DK.wa (x:=.ptr e.2.b 1) (λX=>vV (YJ QaS Z Z) Wp) ?_;refine DK.ad Z ?_;refine DK.wa (x:=.ptr e.2.b 3) (λX=>vV (Yg (n:=3) (k:=1) (j:=2) hi Z E0 Gf Z) Wp) ?_;refine DK.ad Z ?_;refine DK.done Z Z ?_;obtain⟨y,G2,hG,hB2⟩:=Qqg (e.1.r2++[f]) hB';refine QbV (XR _) Z Z (Ex (i:=e.2.b) (off:=3) (n:=1) (v:=.osl (preF (l++e::r)++G').length 0 (e.1.r2++[f]).length 57) (vs:=[.osl (preF (l++e::r)++G').length 0 (e.1.r2++[f]).length 57]) (cs:=Yj Ub.K e.2 e.1) (cs':=Yj Ub.K {e.2 with i2:=(preF (l++e::r)++G').length} {e.1 with r2:=e.1.r2++[f]}) Z Z y Gf Z Z Z Z Z Z Z) (WO.nil ?_);exact⟨Z,⟨Z,Z,Z,Z,Z⟩,l++({e.1 with r2:=e.1.r2++[f]},{e.2 with i2:=(preF (l++e::r)++G').length})::r,G2,hG,hB2,Qgn hB' hek (by rw[hbk,hfs]) Z⟩
    · rw[L,Vj]at hst
      refine TC.seq (TC.region ?_);refine vV (x:=.bool (f.Kind==8)) (OpV.eql Z Z Z) ?_;refine vV (OpV.assign Z Z) (WO.nil ?_);refine TC.cond (t:=f.Kind==8) Z (λh8=>?_) (λh8=>?_)
      · rw[h8,Vi]at hst
        obtain⟨hroom,hst⟩:=QoW hst;cases hst;refine TC.seq (TC.region ?_);refine vV (OpV.move Z Z) ?_;refine vV (QD Qgo Z Z Z) ?_;refine vV (QD QmB Z Z Z) ?_;refine vV (x:=I f.Report.Case) (Ey Z ED Z Pts.rp) ?_;refine Qdj (Qea call179 Z Z Z Z) (Qlj f.Report.Case bk G hB) ?_ (XR _);rintro _ _ ⟨l,e,r,G',rfl,rfl,hB',hek,hbk⟩;refine vV (OpV.assign Z Z) (WO.nil ?_);have hl:=hB'.laid e (by simp);have hrm:=(Qjw (l:=l.map (·.1)) (r:=r.map (·.1)) (x:=e.1) (by rw[<- Vd, <- Xg,hbk,hfs];exact hroom)).2.2.2;have happ:app e.1.reports [f.Report]=some (e.1.reports++[f.Report]):=QiE hrm;refine DKs 11 [8] [(0,0,1),(0,0,0),(0,0,0),(0,0,0),(0,0,0),(0,0,0),(0,0,0),(0,0,0),(1,0,0),(0,0,1),(0,0,1)] (by kernel_rfl) ?_;refine DK.wa (x:=.ptr e.2.b 0) (λX=>vV (OpV.move Z Z) Wp) ?_;refine DK.ad Z ?_;refine DK.wo (x:=.ptr e.2.b 0) (vV (OpV.move Z Z) Wp) ?_;refine DK.ad Z ?_;refine DK.wo (x:=.ptr e.2.b 0) (vV (YV Z) Wp) ?_;refine DK.ad Z ?_;refine DK.wo (x:=.ptr e.2.b 4) (vV (YJ fx_2 Z Z) Wp) ?_;refine DK.ad Z ?_;refine DK.wo (x:=.osl e.2.i3 0 e.1.reports.length 4) (vV (Ey Z isAgg198 Z (Pts.cells hl.c Z)) Wp) ?_;refine DK.ad Z ?_;refine DK.wo (x:=.rp ((Fact.c f).drop 39)) (vV (QD Qgo Z Z Z) Wp) ?_;refine DK.ad Z ?_;refine DK.wo (x:=.agg (Report.c f.Report)) (vV (Qn Z isAgg60 sizeOf60 Z Pts.rp Z Z) Wp) ?_;refine DK.ad Z ?_;refine DK.wo (x:=.rsl 4 (map Report.c [f.Report])) (Js (XQ _) Z Z Z (Q5 (xs:=[.tmp 78]) (es:=map Report.c [f.Report]) QqT Z Z Z Z Z ⟨Z,trivial⟩ Z Z) Wp) ?_;refine DK.ad Z ?_;refine Ew (x:=.osl (preF (l++e::r)++G').length 0 (e.1.reports++[f.Report]).length 4) (Js (XQ _) Z Z Z (Qg (e:=Report.c) (l:=e.1.reports) (m:=[f.Report]) happ QqT runUnderlying198 Jd (hH:=hl.r3)) Wp) ?_ (hl:=by simp);refine DK.ad Z ?_;refine DK.wa (x:=.ptr e.2.b 0) (λX=>vV (YV Z) Wp) ?_;refine DK.ad Z ?_;refine DK.wa (x:=.ptr e.2.b 4) (λX=>vV (YJ fx_2 Z Z) Wp) ?_;refine DK.ad Z ?_;refine DK.done Z Z ?_;obtain⟨y,G2,hG,hB2⟩:=Qqf (e.1.reports++[f.Report]) hB';refine QbV (XR _) Z Z (Ex (cs':=Yj Ub.K {e.2 with i3:=(preF (l++e::r)++G').length} {e.1 with reports:=e.1.reports++[f.Report]}) Z Z y sizeOf198 Z Z Z Z Z Z Z) (WO.nil ?_);exact⟨Z,⟨Z,Z,Z,Z,Z⟩,l++({e.1 with reports:=e.1.reports++[f.Report]},{e.2 with i3:=(preF (l++e::r)++G').length})::r,G2,hG,hB2,Qgn hB' hek (by rw[hbk,hfs]) Z⟩
      · rw[h8,Vj]at hst
        refine TC.seq (TC.region ?_);refine vV (x:=.bool (f.Kind==11)) (OpV.eql Z Z Z) ?_;refine vV (OpV.assign Z Z) (WO.nil ?_);refine TC.cond (t:=f.Kind==11) Z (λM=>?_) (λM=>?_)
        · rw[M,Vi]at hst
          refine TC.seq (TC.region ?_);refine vV (QD Qj3 Z Z Z) ?_;refine vV (QD Qql Z Z Z) ?_;refine vV (x:=.bool f.Appeal.Suspends) (Ey Z GI Z Pts.rp) (WO.nil ?_);refine TC.cond (t:=f.Appeal.Suspends) Z (λhs=>?_) (λhs=>TC.skip ?_)
          · rw[hs,Vi]at hst
            cases hst;refine TC.region ?_;refine vV (OpV.move Z Z) ?_;refine vV (QD Qj3 Z Z Z) ?_;refine vV (QD Qqm Z Z Z) ?_;refine vV (x:=I f.Appeal.Case) (Ey Z ED Z Pts.rp) ?_;refine Qdj (Qea call179 Z Z Z Z) (Qlj f.Appeal.Case bk G hB) ?_ (XR _);rintro _ _ ⟨l,e,r,G',rfl,rfl,hB',hek,hbk⟩;refine vV (x:=.ptr e.2.b 0) (YV Z) ?_;refine vV (YJ fx_3 Z Z) ?_;have hl:=hB'.laid e (by simp);refine QbV (XR _) Z Z (Ex (cs':=Yj Ub.K e.2 {e.1 with appeal:=true}) Z Z hl.c Gi Z Z Z Z Z Z Z) (WO.nil ?_);obtain⟨G2,hG,hB2⟩:=Qru hB';exact⟨Z,⟨Z,Z,Z,Z,Z⟩,_,G2,hG,hB2,Qgn hB' hek (by rw[hbk,hfs]) Z⟩
          · rw[hs,Vj]at hst
            cases hst;exact⟨Z,⟨Z,Z,Z,Z,Z⟩,bk,G,Z,hB,hfs⟩
        · rw[M,Vj]at hst
          cases hst;exact TC.skip ⟨Z,⟨Z,Z,Z,Z,Z⟩,bk,G,Z,hB,hfs⟩
  · rw[ht,Vj]at hs
    cases hs;have hb:=hd _ Z;refine⟨⟨_,Z⟩,?_⟩;rw[<- hb, <- hfs];exact Qrt hB Z
 refine Gx 1 Z (Qd q (Gc 9 Z (vH (Qg1 Gg) ?_)));refine Fg 2 Z Z ?_;have ai:=QmL h;have P:QkU _ _ _ _ _:=λp hp=>YB (ai p hp);refine QqE P (λJ=>[(12,.osl 0 0 J.length 1)]) (λJ=>[.row 196 1 (map Ub.ptr J)]) ?_ (λJ env H N q=>?_)
 .refine G0 1 Z ?_;refine Qpx (enc:=(λp=>((λx=>A.int .i64 x) p.1,(rpE Ub.K) p.2))) (λF=>[(12,.osl 0 0 F.length 1),(97,.ptr 1 0)]) (λF R=>[.row 196 1 (map Ub.ptr F),.iter none R]) P ?_ ?_
  .refine Em (Eo (s:=12) (k:=1) (t:=196) (XO Z) Z) ?_;exact Lr [3,2]
  intro F R aj;refine G0 2 Z ?_;refine Qpt (enc:=(λp=>((λx=>A.int .i64 x) p.1,(rpE Ub.K) p.2))) aj (λax ak al=>?_) (λg T ay O az am=>?_)
  .refine Go 7 Z (Qrh ?_);cases ak;exact Gx 1 Z (cutGN al (Lr [0]))
  refine aV (.tup [.bool true,I g.1,.rp (Ub.c g.2)]) [.row 196 1 (map Ub.ptr F),.iter (some (I g.1,.rp (Ub.c g.2))) (map (λp=>((λx=>A.int .i64 x) p.1,(rpE Ub.K) p.2)) T)] Z Z ?_;refine Go 10 Z ?_;refine vX (.tup [I g.1,.rp (Ub.c g.2)]) (OpV.entry (e:=(I g.1,.rp (Ub.c g.2)))) ?_;refine Go 7 Z (vH (Ej (xs:=[.tmp 103]) (es:=map Ub.ptr [g.2]) QiS Z Z Z Z Z ⟨Z,trivial⟩ Z Z) ?_);refine FE Z (Bd O λan ac O=>vH (Qg (e:=Ub.ptr) ac QiS EU (QM (i:=2))) ?_);refine Fg 3 Z Z (Qri _ _ O am ?_);refine Em (Qh9 (i:=1) (H':=[.dead,.iter none (map (λp=>((λx=>A.int .i64 x) p.1,(rpE Ub.K) p.2)) T),.row 196 1 (map Ub.ptr [g.2]),.row 196 1 (map Ub.ptr an)]) Z Z) ?_;exact Lr [3,1]
 refine Gx 1 Z (Qd q (Gc 3 Z ?_));refine QH (Qau [(12,_),(106,_)] Z Z (QpL.cons Z En (QpL.cons Z En QpL.nil)) (Ec (Jl _))) ?_;exact Cd [] N (k_cy _ _) Z λba ar N=>FE Z (Gt 4 Z N 2 [])
def F_kd(n:Nat)(e:Ub)(a:(List Fact)×Int):Option (Ctl ((List Fact)×Int) (List Fact)):=(bif decide (a.2<3)then(idx ([e.r0,e.r1,e.r2]:List (List Fact)) a.2).bind λd=>((bif decide (1<(d.length:Int))then(slc d 1 (d.length:Int)).bind λf=>(app a.1 f).bind λg=>some g else some a.1):Option (List Fact)).bind λh=>some (.cont (h,i64.wrap (a.2+1)))else some (.done a.1))
def F_lo(n:Nat)(e:List Ub)(a:(List Fact)×Int):Option (Ctl ((List Fact)×Int) (List Fact)):=(bif decide (a.2<(e.length:Int))then(idx e a.2).bind λf=>(iter (F_kd n f) n (a.1,0):Option (List Fact)).bind λd=>some (.cont (d,i64.wrap (a.2+1)))else some (.done a.1))
def F_ll(n:Nat)(d:List Fact)(a:(List Ref)×Int):Option (Ctl ((List Ref)×Int) (List Ref)):=(bif decide (a.2<(d.length:Int))then(idx d a.2).bind λe=>(app a.1 [{Crew:=e.Crew,No:=e.No:Ref}]).bind λf=>some (.cont (f,i64.wrap (a.2+1)))else some (.done a.1))
def F_eu(n:Nat)(f:List Fact):Option (List Ref):=(F_gb n f).bind λg=>(iter (F_lo n g) n ([],0):Option (List Fact)).bind λe=>(F_bk n e).bind λa=>(iter (F_ll n a) n ([],0):Option (List Ref)).bind λd=>some d
theorem k_eu(n:Nat)(a1:List Fact):Kq (F_eu n a1) 57 [.rsl 57 (map Fact.c a1)] [] (λr=>.osl 0 0 r.length 2) (λr=>[.row 66 2 (map Ref.c r)]):=by
 refine Kg 14 func57 Z Z Z Z λr h=>Cd [] h (k_gb _ _) Z λr1 aj h=>FE Z (Lg 3 Z Z (Bd h λu ab h=>Ct u [0] [2] (λu=>[(3,.osl 0 0 u.length 57)]) (λu=>[(0,.row 68 57 (map Fact.c u))]) Zf ?_ (λenv H w=>?_)))
 .refine G0 1 Z (Lp [0] [2,11,12] (λy=>[(3,.osl 0 0 y.1.length 57),(13,I y.2)]) (λy=>[(0,.row 68 57 (map Fact.c y.1))]) ab Zf ?_ ?_)
  .refine Em (Eo (s:=3) (k:=57) (t:=68) (XO Z) Z) ?_;exact Lr [0]
  intro y ak g T;refine G0 6 Z (Yd Z g (λV g=>?_) (λV g=>?_))
  .exact Gc 2 Z (Qh g (Gx 1 Z (cQo T g (Lr [0]))))
  refine Gc 6 Z (Bd g λE W g=>Iz W Z (Go 8 Z (Fr QaS Z ?_)));refine vV (x:=(.agg (List.flatten (map (QlI 57 Fact.c) ([E.r0,E.r1,E.r2]:List (List Fact)))))) (Qn Z isAgg197 sizeOf197 Z Pts.rp Z Z) ?_;refine Go 3 Z (Bd g λl X g=>Ct l [0] [2,11,12,13] (λl=>[(3,.osl 0 0 l.length 57)]) (λl=>[(0,.row 68 57 (map Fact.c l))]) Zf ?_ (λenv H w=>?_))
  .refine G0 1 Z (Lp [0] [2,11,12,13,20] (λm=>[(3,.osl 0 0 m.1.length 57),(21,I m.2)]) (λm=>[(0,.row 68 57 (map Fact.c m.1))]) X Zf (Lr [0]) λm ae a G=>?_);refine G0 6 Z (Yd Z a (λJ a=>?_) (λJ a=>?_))
   .exact Gc 2 Z (Qh a (Gx 1 Z (cQo G a (Lr [0]))))
   refine Gc 6 Z (Bd a λF L a=>?_);refine vX (.rsl 57 (map Fact.c F)) (QnV (n:=3) (e:=(QlI 57 Fact.c)) (v:=.rsl 57 (map Fact.c F)) L Z (λ_=>⟨_,Z⟩) Z E0 isAgg34 Gf) ?_;refine Go 6 Z (Lg 3 Z Z (Bd a λp f a=>Ct p [0] [2,11,12,13,20,21] (λp=>[(3,.osl 0 0 p.length 57)]) (λp=>[(0,.row 68 57 (map Fact.c p))]) Zf ?_ (λenv H w=>?_)))
   .refine G0 0 Z (Cn Z f (λM f=>?_) (λM f=>?_))
    .refine Gc 3 Z (Bd f λY N f=>?_);refine vX (.rsl 57 (map Fact.c Y)) (QkK N EA EB (.inr ⟨_,Z,Z⟩) (.inl ⟨Z,Z⟩)) ?_;refine Bd f λaf O f=>vH (Qg (e:=Fact.c) O YF EA Jd) ?_;exact FE Z (Gl 2 Z f [1])
    exact YC 1 Z f [0]
   exact Gx 2 Z (Qd w (Gc 4 Z (Qf a (Lr [0]))))
  exact Gx 2 Z (Qd w (Gc 4 Z (Qf g (Lr [0]))))
 refine Gx 1 Z (Qd w (Gc 4 Z ?_));refine QH (Qau [(3,_),(33,_)] Z Z (QpL.cons Z En (QpL.cons Z En QpL.nil)) (Ec (Jl _))) ?_;refine Cd [] h (k_bk _ _) Z λag ac h=>Fg 4 Z Z (Bd h λq aa h=>Cg q [0] [] (λq=>[(2,.osl 0 0 q.length 2)]) (λq=>[(0,.row 66 2 (map Ref.c q))]) Zf ?_ ?_)
 .refine G0 1 Z (Lp [0,1] [34,35] (λj=>[(2,.osl 0 0 j.1.length 2),(36,I j.2)]) (λj=>[(0,.row 66 2 (map Ref.c j.1))]) aa Zf ?_ ?_)
  .refine Em (Eo (s:=2) (k:=2) (t:=66) (XO Z) Z) ?_;exact Lr [2,1]
  intro j ah d P;refine G0 6 Z (Yd Z d (λQ d=>?_) (λQ d=>?_))
  .exact Gc 2 Z (Qh d (Gx 1 Z (cQo P d (Lr [0]))))
  refine Gc 6 Z (Bd d λz B d=>?_);refine vX (.ptr 1 (toNat j.2*57)) (Qp B Z EA EB) ?_;refine vX (.agg (Fact.c z)) (Qn Z EJ EB Z (Qo B) Z Z) ?_;refine Go 11 Z (vH (Ej (xs:=[.tmp 45]) (es:=map Ref.c [{Crew:=z.Crew,No:=z.No:Ref}]) QgL Z Z Z Z Z ⟨Z,trivial⟩ Z Z) ?_);refine FE Z (Bd d λai R d=>vH (Qg (e:=Ref.c) R QgL Gb (QM (i:=3))) ?_);exact Fg 8 Z Z (Qf d (Lr [4,1]))
 exact QG 7 Z h 2 [0]
def F_lt(n:Nat)(e:List Ref)(a:(List (Ref×Bool))×Int):Option (Ctl ((List (Ref×Bool))×Int) (List (Ref×Bool))):=(bif decide (a.2<(e.length:Int))then(idx e a.2).bind λd=>(some (Yk a.1 ({Crew:=d.Crew,No:=d.No:Ref}) true)).bind λf=>some (.cont (f,i64.wrap (a.2+1)))else some (.done a.1))
def F_kl(n:Nat)(g:List Fact)(h:Int)(p:List (Ref×Bool))(a:Fact×Int):Option ((List Fact)×Ctl (Fact×Int) Fact):=(bif decide (a.2<(g.length:Int))then(idx g a.2).bind λd=>(F_au n d).bind λi=>(bif (i != 0)then some ([],.cont (a.1,i64.wrap (a.2+1)))else((bif (d.Kind==8)then some (d.Report.Case==h)else some false):Option Bool).bind λj=>(bif j then((bif (a.1.Kind==0)then some true else(F_am n d a.1).bind λk=>some (decide (k<0))):Option Bool).bind λl=>((bif l then some d else some a.1):Option Fact).bind λm=>some ([],.cont (m,i64.wrap (a.2+1)))else((bif (d.Kind==10)then(bif (d.Ruling.Case==h)then(some (Qy p ({Crew:=d.Crew,No:=d.No:Ref}) false)).bind λe=>some (!e)else some false)else some false):Option Bool).bind λf=>(bif f then yl d (some ([],.cont (a.1,i64.wrap (a.2+1))))else some ([],.cont (a.1,i64.wrap (a.2+1))))))else some ([],.done a.1))
def F_bh(n:Nat)(d:List Fact)(e:Int):Option ((List Fact)×Unit):=(F_eu n d).bind λf=>(iter (F_lt n f) n ([],0):Option (List (Ref×Bool))).bind λg=>ap (QdJ (F_kl n d e g) n (Uk,0)) λa=>(bif (a.Kind != 0)then yl a (some ([],()))else some ([],()))
theorem k_bh(n:Nat)(a1:List Fact)(a2:Int)(p:(List Fact)×Unit)(h:F_bh n a1 a2=some p):QkE prog 56 [.ptr 0 0,.ptr 1 0] [.cells 34 [.rsl 57 (map Fact.c a1)],.cells 3 [I a2]] (λx=>[.agg (Fact.c x)]) nxL p.1:=by
 obtain⟨xs,u⟩:=p;refine QkD func56 Z Z Z Z ?_;intro X hE hN;refine Gy0 1 Z (TCy.lf ?_);refine G0 3 Z ?_;refine Gyx 2 Z (TCy.lf ?_);refine G0 1 Z (vH Yt ?_);refine Fg 2 Z Z ?_;refine Gyx 2 Z (TCy.lf ?_);refine G0 3 Z (Cd [] h (k_eu _ _) Z λr1 ar h=>Fg 4 Z Z (Bd h λJ aj h=>Ct J [0,1,2,3] [0,1,2,4,5] Ze (λJ=>[(3,.map (Qx (λx=>A.agg (Ref.c x)) A.bool J))]) Zf ?_ (λenv H f=>?_)))
 .refine G0 1 Z (Lp [0,1,2,3,4] [0,1,2,4,5,12,13] (λj=>[(14,I j.2)]) (λj=>[(3,.map (Qx (λx=>A.agg (Ref.c x)) A.bool j.1))]) aj Zf (Lr [0,1,2,3,4]) λj au g Q=>?_);refine G0 6 Z (Yd Z g (λR g=>?_) (λR g=>?_))
  .exact Gc 2 Z (Qh g (Gx 1 Z (cQo Q g (Lr [0,1,2,3]))))
  refine Gc 6 Z (Bd g λt z g=>?_);refine vX (.ptr 4 (toNat j.2*2)) (Qp z Z Gb Gv) ?_;refine vX (.agg [I t.Crew,I t.No]) (Qn Z isAgg66 Gv Z (Qo z) Z Z) ?_;refine Go 7 Z (Bd g λav T g=>?_);refine vU (YW (ev:=A.bool) (k:=({Crew:=t.Crew,No:=t.No:Ref})) (v:=true) (l:=j.1) QoB T Z underlying129) ?_;exact Fg 7 Z Z (Qf g (Lr [0,1,2,3,4]))
 refine Gyx 1 Z (Qdk f (Gyc 2 Z (TCy.lf ?_)));refine G0 2 Z (Lg 2 Z Z ?_);refine Gyx 1 Z ?_;obtain⟨aw,w,ak,al,m,rfl⟩:=ap_ok h;rw[Vc];refine Qpv w (ak++[]) [0,1,2] [0,4] Ze (λw=>[(2,.cells 68 (Fact.c w))]) Zf ?_ (λenv H f=>?_)
 .refine Gy0 1 Z ?_;refine QrJ [0,1,2,3] [0,2,4,5,21,22] (λy=>[(23,I y.2)]) (λy=>[(2,.cells 68 (Fact.c y.1))]) al Zf (Lr [0,1,2,3]) λy ax ay az a V=>?_;refine Gy0 1 Z (TCy.lf ?_);refine G0 3 Z ?_;refine Gyx 2 Z (TCy.lf ?_);refine G0 0 Z (Yd Z a (λW a=>?_) (λW a=>?_))
  .refine Gc 1 Z ?_;refine Gyx 1 Z ?_;obtain⟨rfl,rfl,rfl⟩:=Oy V a;exact Qrk (Gyx 1 Z (cutYN (Lr [0,1,2])))
  refine Gc 1 Z ?_;refine Gyx 4 Z (TCy.lf ?_);refine G0 1 Z (Bd a λB Y a=>Iz Y Z (Go 4 Z ?_));refine Gyx 2 Z (TCy.lf ?_);refine G0 3 Z (Cz [] a (k_au _ _) Z λba am a=>Go 3 Z (Cn Z a (λaa a=>?_) (λaa a=>?_)))
  .refine Gc 1 Z ?_;refine Gyx 3 Z (TCy.lf ?_);refine G0 4 Z ?_;exact Gyx 0 Z (Qiu a (Lr [0,1,2,3]))
  refine Gc 1 Z ?_;refine Gyx 3 Z (TCy.lf ?_);refine Bd a λE q a=>Ct E [0,1,2,3,4] [0,2,4,5,9,21,22,23] (λE=>[(30,.bool E)]) Ze Zf ?_ (λenv H f=>?_)
  .refine G0 5 Z (Is 34 q Z (λab q=>?_) (λab q=>?_))
   iterate 2 exact Gl 8 Z q [0,1,2,3,4]
  refine Gyx 1 Z (Qdk f (Cny Z a (λac a=>?_) (λac a=>?_)))
  .refine TCy.lf ?_;refine G0 1 Z (Bd a λF i a=>Ct F [0,1,2,3,4] [0,2,4,5,9,21,22,23] (λF=>[(49,.bool F)]) Ze Zf ?_ (λenv H f=>?_))
   .refine G0 5 Z (Is 44 i Z (λae i=>?_) (λae i=>?_))
    .exact Gl 6 Z i [0,1,2,3,4]
    .exact Go 2 Z (Cz [] i (k_am _ _ _) Z λbb an i=>Gl 3 Z i [0,1,2,3,4])
   refine Gx 1 Z (Qd f (Bd a λG r a=>Ct G [0,1,2,3] [0,2,4,5,21,22,23] Ze (λG=>[(2,.cells 68 (Fact.c G))]) Zf ?_ (λenv H f=>?_)))
   .refine G0 0 Z (Cn Z r (λaf r=>?_) (λaf r=>?_))
    .exact YC 4 Z r [0,1,2,3]
    exact YC 1 Z r [0,1,2,3]
   refine Gyx 3 Z (Qdk f (TCy.lf ?_));refine G0 4 Z ?_;exact Gyx 0 Z (Qiu a (Lr [0,1,2,3]))
  .refine Gyc 1 Z (TCy.lf ?_);refine Bd a λs d a=>Ct s [0,1,2,3,4] [0,2,4,5,9,21,22,23] (λs=>[(51,.bool s)]) Ze Zf ?_ (λenv H f=>?_)
   .refine G0 5 Z (Is 55 d Z (λL d=>?_) (λL d=>?_))
    .refine Go 7 Z (Is 62 d Z (λM d=>?_) (λM d=>?_))
     .refine Go 6 Z (Bd d λag N d=>?_);refine vX (.bool ag) (YM (ev:=A.bool) (z0:=false) (k:=({Crew:=B.Crew,No:=B.No:Ref})) (l:=J) QoB N underlying129 ET ZR.bool) ?_ (gT Z);exact Gl 4 Z d [0,1,2,3,4]
     .exact Gl 11 Z d [0,1,2,3,4]
    .exact Gl 18 Z d [0,1,2,3,4]
   refine Gyx 1 Z (Qdk f (Cny Z a (λO a=>?_) (λO a=>?_)))
   .refine Gyc 4 Z ?_;obtain⟨ao,ah,rfl⟩:=QqM a;refine Qps (x:=B) (e:=λx=>.agg (Fact.c x)) hE hN Z Z Z Z ?_ ?_
    .refine Gyo 3 Z (TCy.lf ?_);refine G0 2 Z ?_;refine Gyx 3 Z (TCy.lf ?_);refine G0 4 Z ?_;exact Gyx 0 Z (Qiu ah (Lr [0,1,2,3]))
    .exact Gyo 8 Z (Qrl (Gyx 1 Z (cutYR (Gyx 1 Z (⟨.inr Z,.inr ⟨_,Z⟩⟩)))))
   .refine Gyc 4 Z (TCy.lf ?_);refine G0 4 Z ?_;exact Gyx 0 Z (Qiu a (Lr [0,1,2,3]))
 refine Gyx 1 Z (Qdk f (Gyc 1 Z (TCy.lf ?_)));refine G0 5 Z ?_;refine Gyx 1 Z (Cny Z m (λP m=>?_) (λP m=>?_))
 .refine Gyc 3 Z ?_;obtain⟨aq,ai,rfl⟩:=QqM m;refine Qps (x:=w) (e:=λx=>.agg (Fact.c x)) hE hN Z Z Z Z ?_ ?_
  .refine Gyo 1 Z ?_;cases ai;exact⟨.inl Z,.inl Z⟩
  .exact Gyo 1 Z (⟨.inl Z,.inr ⟨_,Z⟩⟩)
 .refine Gyc 1 Z ?_;cases m;exact⟨.inl Z,.inl Z⟩
def F_mb(n:Nat)(a:Int×Bool)(d:Fact):Option (Ctl (Int×Bool) (Int×Bool)):=some (.cont ((if a.1<d.At then d.At else a.1),true))
def F_ay(n:Nat)(d:Course)(e:List Fact)(f:Int):Option (Int×Bool):=(F_r n d).bind λg=>(bif (g != 0)then some (0,false)else(F_bb n e f).bind λi=>(F_bh n e f).bind λy4=>(QcP (F_mb n) y4.1 (0,false):Option (Ctl (Int×Bool) (Int×Bool))).bind λh=>match h with|.cont a=>(bif (!a.2)then some (0,false)else some (i64.wrap (a.1+d.Deadline),true))|.done a=>some a)
theorem k_ay(n:Nat)(d:Course)(f:List Fact)(g:Int):Kq (F_ay n d f g) 8 [.agg (Course.c d),.rsl 57 (map Fact.c f),I g] [] (λr=>.tup [I r.1,.bool r.2]) (λr=>[.cells 3 [I r.1],.cells 4 [.bool r.2]]):=by
 refine Kg 11 func8 Z Z Z Z λr h=>Cz [] h (k_r _ _) Z λu p h=>Go 3 Z (Cn Z h (λi h=>?_) (λi h=>?_))
 .refine Gc 8 Z ?_;obtain rfl:=Oi h;exact Rx [1,2] [6,7] Z (QU Z Z (QlU.cons (JV ED Z Z) (QlU.cons (JV GI Z Z) QlU.nil))) ⟨Z,Z⟩
 refine Gc 7 Z (Cd [] h (k_bb _ _ _) Z λw q h=>Fg 3 Z Z (Bd h λy4 hy4 h=>Bd h λx j h=>?_));refine QeD [3,4] (λa=>[.cells 33 (Course.c d),.cells 3 [I a.1],.cells 4 [.bool a.2],.dead,.dead]) j (k_bh _ _ _ _ hy4) Zf call56 Z Z Z Z (by decide) Z (Qi5 Z) ?_ ?_
 .intro a k s l m;refine G0 4 Z (And.intro Z ?_);refine G0 5 Z ?_;refine vX (I (if a.1<k.At then k.At else a.1)) (OpV.max Z Z Z Z) ?_;exact Go 4 Z (Qil l (Lr [0,1,2,3,4]))
 rintro t rfl;refine Gx 9 Z (Cn Z h (λe h=>?_) (λe h=>?_))
 .refine Gc 8 Z ?_;obtain rfl:=Oi h;exact Rx [1,2] [6,7] Z (QU Z Z (QlU.cons (JV ED Z Z) (QlU.cons (JV GI Z Z) QlU.nil))) ⟨Z,Z⟩
 refine Gc 13 Z ?_;obtain rfl:=Oi h;exact Rx [1,2] [6,7] Z (QU Z Z (QlU.cons (JV ED Z Z) (QlU.cons (JV GI Z Z) QlU.nil))) ⟨Z,Z⟩
def F_bw(n:Nat)(a:Fact)(d:Fact):Option Unit:=some ()
theorem k_bw(n:Nat)(a:Fact)(d:Fact):Ks (F_bw n a d) 36 [.agg (Fact.c a),.ptr 0 0] [.cells 68 (Fact.c d)] (λ_=>.bool (decide (d.At<a.At))):=by
 exact Kg 17 func36 Z Z Z Z λr h=>Rt h 3 [0]
def F_ks(n:Nat)(e:List Fact)(f:Fact)(a:Int):Option (Ctl Int (Ctl Unit Int)):=(bif decide (a<(e.length:Int))then(idx e a).bind λd=>(F_bw n d f).bind λg=>(bif decide (f.At<d.At)then some (.done (.done a))else some (.cont (i64.wrap (a+1))))else some (.done (.cont ())))
def F_km(n:Nat)(e:List Fact)(f:Fact):Option Int:=(iter (F_ks n e f) n 0:Option (Ctl Unit Int)).bind λd=>match d with|.cont a=>(some (-1))|.done a=>some a
theorem k_km(n:Nat)(g:List Fact)(k:Fact):Ks (F_km n g k) 68 [.osl 0 0 g.length 57,.fn (.func 36) [] [.ptr 1 0]] [.row 68 57 (map Fact.c g),.cells 68 (Fact.c k)] (λr=>I r):=by
 refine Kg 13 func68 Z Z Z Z λr h=>Bd h λl m h=>CgE (b:=l) [0,1] [] Ze Ze Zf ?_ (λs p=>?_)
 .refine G0 1 Z (Lp [0,1] [0,1,7] (λd=>[(8,I d)]) Ze m Zf (Lr [0,1]) λd u a e=>?_);refine G0 6 Z (Yd Z a (λi a=>?_) (λi a=>?_))
  .exact Gc 2 Z (Qh a (Gx 1 Z (JB e a Z (Lr [0,1]))))
  refine Gc 15 Z (Bd a λq f a=>?_);refine vX (.ptr 0 (toNat d*57)) (Qp f Z EA EB) ?_;refine vX (.agg (Fact.c q)) (Qn Z EJ EB Z (Qo f) Z Z) ?_;refine Cz [1] a (k_bw _ _ _) Z λw t a=>Go 2 Z (Cn Z a (λj a=>?_) (λj a=>?_))
  .refine Gc 9 Z (Qw a ?_);obtain rfl:=Oj e a;exact Gx 1 Z (Qq (Gx 1 Z (Rt h 4 [0,1])))
  exact Gc 7 Z (Qf a (Lr [0,1]))
 subst p;exact QG 6 Z h 4 [0,1]
def F_kw(n:Nat)(f:Fact)(a:(List Fact)×Int×Int):Option (Ctl ((List Fact)×Int×Int) ((List Fact)×Int)):=(bif decide (a.2.2<(a.1.length:Int))then(idx a.1 a.2.2).bind λd=>(F_bw n d f).bind λh=>((bif (!(decide (f.At<d.At)))then(idx a.1 a.2.1).bind λi=>(Qej a.1 a.2.1 d).bind λg=>some (g,i64.wrap (a.2.1+1))else some (a.1,a.2.1)):Option ((List Fact)×Int)).bind λe=>some (.cont (e.1,e.2,i64.wrap (a.2.2+1)))else some (.done (a.1,a.2.1)))
def F_gl(n:Nat)(d:List Fact)(f:Fact):Option (List Fact):=(F_km n d f).bind λe=>(bif (e==(-1))then some d else(iter (F_kw n f) n (d,e,i64.wrap (e+1)):Option ((List Fact)×Int)).bind λa=>(slc a.1 0 a.2).bind λg=>some g)
theorem k_gl(n:Nat)(x:List Fact)(u:Fact):Kq (F_gl n x u) 34 [.osl 0 0 x.length 57,.fn (.func 36) [] [.ptr 1 0]] [.row 68 57 (map Fact.c x),.cells 68 (Fact.c u)] (λr=>.osl 0 0 r.length 57) (λr=>[.row 68 57 (map Fact.c r),.cells 68 (Fact.c u)]):=by
 refine Kg 9 func34 Z Z Z Z λr h=>Cz [0,1] h (k_km _ _ _) Z λR M h=>Go 10 Z (Cn Z h (λE h=>?_) (λE h=>?_))
 .exact QG 8 Z h 4 [0,1]
 refine Gc 10 Z (Bd h λa F h=>Cg a [0,1] [] (λa=>[(0,.osl 0 0 a.1.length 57),(5,I a.2)]) (λa=>[(0,.row 68 57 (map Fact.c a.1))]) Zf ?_ ?_)
 .refine G0 1 Z (Lp [0,1] [1] (λi=>[(0,.osl 0 0 i.1.length 57),(5,I i.2.1),(6,I i.2.2)]) (λi=>[(0,.row 68 57 (map Fact.c i.1))]) F Zf (Lr [0,1]) λi N d y=>?_);refine G0 9 Z (Yd Z d (λz d=>?_) (λz d=>?_))
  .exact Gc 2 Z (Qh d (Gx 1 Z (cQo y d (Lr [0,1]))))
  refine Gc 8 Z (Bd d λG q d=>?_);refine vX (.ptr 0 (toNat i.2.2*57)) (Qp q Z EA EB) ?_;refine vX (.agg (Fact.c G)) (Qn Z EJ EB Z (Qo q) Z Z) ?_;refine Go 8 Z (Cz [1] d (k_bw _ _ _) Z λO L d=>Go 3 Z (Bd d λm g d=>Ct m [0,1] [1,6] (λm=>[(0,.osl 0 0 m.1.length 57),(5,I m.2)]) (λm=>[(0,.row 68 57 (map Fact.c m.1))]) Zf ?_ (λenv H J=>?_)))
  .refine G0 0 Z (Cn Z g (λB g=>?_) (λB g=>?_))
   .refine Gc 5 Z (Bd g λP t g=>?_);refine vX (.ptr 0 (toNat i.2.1*57)) (Qp t Z EA EB) ?_;refine Bd g λQ j g=>?_;refine vU (QaX (e:=Fact.c) (k:=57) (f:=0) t j EB Z Z) ?_;refine FE Z ?_;refine QH (Q7 (s:=0) Z (congrArg (λn=>A.osl 0 0 n 57) (Qbn j))) ?_;refine QH (Q7 (s:=17) Z (congrArg (λn=>A.osl 0 0 n 57) (Qbn j))) ?_;refine QH (Q7 (s:=22) Z (congrArg (λn=>A.osl 0 0 n 57) (Qbn j))) ?_;refine QH (Q7 (s:=30) Z (congrArg (λn=>A.osl 0 0 n 57) (Qbn j))) ?_;exact Gl 7 Z g [0,1]
   exact YC 1 Z g [0,1]
  exact Gx 2 Z (Qd J (Gc 5 Z (Qf d (Lr [0,1]))))
 refine Gc 4 Z (Bd h λw p h=>?_);refine vX (.osl 0 (0+toNat a.2) (a.1.length-toNat a.2) 57) (QgY (l:=a.1) p EA EB) ?_;refine vN (Qg2 (e:=Fact.c) (l:=a.1) p GM Gj Z (by simp[Qz,Go.Value.cells])) ?_;refine QeB (H:=[.row 68 57 (map Fact.c w),.cells 68 (Fact.c u)]) Z ?_;refine Go 6 Z ?_;refine vX (.osl 0 0 w.length 57) (QgZ (l:=a.1) p EA EB) ?_;exact Gt 4 Z h 4 [0,1]
def F_hd(n:Nat)(a:Protest):Option Unit:=some ()
theorem k_hd(n:Nat)(a:Protest):Ks (F_hd n a) 37 [.ptr 0 0] [.cells 36 (Protest.c a)] (λ_=>.bool (a.Form==1)):=by
 exact Kg 14 func37 Z Z Z Z λr h=>Rt h 1 [0]
def F_ex(n:Nat)(a:Protest):Option Unit:=(F_hd n a).bind λd=>some ()
theorem k_ex(n:Nat)(a:Protest):Ks (F_ex n a) 42 [.agg [.fn (.func 37) [] [.ptr 0 0]]] [.cells 36 (Protest.c a)] (λ_=>.bool (!(a.Form==1))):=by
 exact Kg 10 func42 Z Z Z Z λr h=>Cz [0] h (k_hd _ _) Z λe d h=>Gt 5 Z h 2 [0]
def F_ge(n:Nat)(a:Protest)(d:Course):Option Bool:=((bif (a.By==0)then some true else some (decide (d.Fee<=a.Fee))):Option Bool).bind λb2=>some b2
theorem k_ge(n:Nat)(d:Protest)(e:Course):Ks (F_ge n d e) 38 [.ptr 0 0,.ptr 1 0] [.cells 36 (Protest.c d),.cells 33 (Course.c e)] (λr=>.bool r):=by
 refine Kg 6 func38 Z Z Z Z λr h=>Bd h λb2 a h=>Cg b2 [0,1] [] (λb2=>[(2,.bool b2)]) Ze Zf ?_ ?_
 .refine G0 5 Z (Is 6 a Z (λf a=>?_) (λf a=>?_))
  iterate 2 exact Gl 8 Z a [0,1]
 exact QG 1 Z h 2 [0,1]
def F_fa(n:Nat)(a:Protest)(d:Course):Option Bool:=(F_ge n a d).bind λe=>some (!e)
theorem k_fa(n:Nat)(a:Protest)(d:Course):Ks (F_fa n a d) 42 [.agg [.fn (.func 38) [] [.ptr 0 0,.ptr 1 0]]] [.cells 36 (Protest.c a),.cells 33 (Course.c d)] (λr=>.bool r):=by
 exact Kg 10 func42 Z Z Z Z λr h=>Cz [0,1] h (k_ge _ _ _) Z λf e h=>Gt 5 Z h 2 [0,1]
def F_jh(n:Nat)(d:Course)(e:List Fact)(f:Protest)(g:Fact):Option Bool:=(F_ay n d e f.Case).bind λa=>((bif a.2 then some (decide (g.At<=a.1))else some false):Option Bool).bind λh=>some h
theorem k_jh(n:Nat)(e:Course)(f:List Fact)(g:Protest)(i:Fact):Ks (F_jh n e f g i) 39 [.ptr 0 0,.ptr 1 0,.ptr 2 0,.ptr 3 0] [.cells 33 (Course.c e),.cells 34 [.rsl 57 (map Fact.c f)],.cells 36 (Protest.c g),.cells 68 (Fact.c i)] (λr=>.bool r):=by
 refine Kg 11 func39 Z Z Z Z λr h=>Cd [] h (k_ay _ _ _ _) Z λl k h=>Fg 8 Z Z (Bd h λd a h=>Cg d [0,1,2,3] [] (λd=>[(4,.bool d)]) Ze Zf ?_ ?_)
 .refine G0 3 Z (Is 16 a Z (λj a=>?_) (λj a=>?_))
  iterate 2 exact Gl 7 Z a [0,1,2,3]
 exact QG 1 Z h 4 [0,1,2,3]
def F_ej(n:Nat)(a:Course)(d:List Fact)(e:Protest)(f:Fact):Option Bool:=(F_jh n a d e f).bind λg=>some (!g)
theorem k_ej(n:Nat)(a:Course)(d:List Fact)(e:Protest)(f:Fact):Ks (F_ej n a d e f) 42 [.agg [.fn (.func 39) [] [.ptr 0 0,.ptr 1 0,.ptr 2 0,.ptr 3 0]]] [.cells 33 (Course.c a),.cells 34 [.rsl 57 (map Fact.c d)],.cells 36 (Protest.c e),.cells 68 (Fact.c f)] (λr=>.bool r):=by
 exact Kg 10 func42 Z Z Z Z λr h=>Cz [0,1,2,3] h (k_jh _ _ _ _ _) Z λi g h=>Gt 5 Z h 2 [0,1,2,3]
def F_gt(n:Nat)(a:List (Int×Fact)):Option Unit:=some ()
theorem k_gt(n:Nat)(a:List (Int×Fact)):Kq (F_gt n a) 138 [.map 0] [.map (Qx (λx=>A.int .i64 x) (λx=>A.agg (Fact.c x)) a)] (λ_=>.fn (.func 193) [] [.ptr 1 0]) (λ_=>[.map (Qx (λx=>A.int .i64 x) (λx=>A.agg (Fact.c x)) a),.cells 134 [.map 0]]):=by
 exact Kg 13 func138 Z Z Z Z λr h=>Rt h 2 [0,1]
def F_cl(n:Nat)(a:List (Int×Fact)):Option (List Int):=QnH (map Prod.fst a) λp1=>(sortI p1).bind λd=>some d
theorem k_cl(n:Nat)(d:List (Int×Fact)):Kq (F_cl n d) 44 [.fn (.func 193) [] [.ptr 0 0]] [.cells 134 [.map 1],.map (Qx (λx=>A.int .i64 x) (λx=>A.agg (Fact.c x)) d)] (λr=>.osl 2 0 r.length 1) (λr=>[.dead,.fmap (Qx (λx=>A.int .i64 x) (λx=>A.agg (Fact.c x)) d),.row 3 1 (map (Qe .i64) r)]):=by
 refine Kg 8 func44 Z Z Z Z λr h=>?_;refine QH (QmS (i:=1) Z) ?_;refine QeB (H:=[.cells 134 [.map 1],.fmap (Qx (λx=>A.int .i64 x) (λx=>A.agg (Fact.c x)) d)]) Z ?_;obtain⟨e,h⟩:=QmM h;refine QX [0,1] (OpC.fn call75 Z Z Z) (Qlf _ e) ?_;rintro _ _ ⟨p1,f,rfl,rfl⟩;have h:=h p1 f;refine Fg 6 Z Z (Bd h λg a h=>?_);refine QX [2] (OpC.fn call76 Z Z Z) (QmY QdI a) ?_;rintro _ _ ⟨rfl,rfl⟩;refine FE Z ?_;refine QH (Q7 (s:=3) Z (congrArg (λn=>A.osl 2 0 n 1) (Qab a))) ?_;refine QH (Q7 (s:=5) Z (congrArg (λn=>A.osl 2 0 n 1) (Qab a))) ?_;refine QH (Q7 (s:=6) Z (congrArg (λn=>A.osl 2 0 n 1) (Qab a))) ?_;exact Gt 9 Z h 2 [0,1,2]
def F_la(n:Nat)(h:List (Int×Fact))(d:List Int)(a:(List Fact)×Int):Option (Ctl ((List Fact)×Int) (List Fact)):=(bif decide (a.2<(d.length:Int))then(idx d a.2).bind λe=>(some (Qy h e Uk)).bind λf=>(app a.1 [f]).bind λg=>some (.cont (g,i64.wrap (a.2+1)))else some (.done a.1))
def F_db(n:Nat)(a:List (Int×Fact)):Option (List Fact):=(F_gt n a).bind λf=>(F_cl n a).bind λe=>(iter (F_la n a e) n ([],0):Option (List Fact)).bind λd=>some d
theorem k_db(n:Nat)(j:List (Int×Fact)):Kq (F_db n j) 65 [.map 0] [.map (Qx (λx=>A.int .i64 x) (λx=>A.agg (Fact.c x)) j)] (λr=>.osl 1 0 r.length 57) (λr=>[.fmap (Qx (λx=>A.int .i64 x) (λx=>A.agg (Fact.c x)) j),.row 68 57 (map Fact.c r)]):=by
 refine Kg 9 func65 Z Z Z Z λr h=>Cd [0] h (k_gt _ _) Z λH B h=>FE Z (Cd [1,0] h (k_cl _ _) Z λJ E h=>Fg 4 Z Z (Bd h λf z h=>Cg f [0,1] [] (λf=>[(2,.osl 1 0 f.length 57)]) (λf=>[(1,.row 68 57 (map Fact.c f))]) Zf ?_ ?_))
 .refine G0 1 Z (Lp [0,0,2] [0,7,8] (λd=>[(2,.osl 1 0 d.1.length 57),(9,I d.2)]) (λd=>[(1,.row 68 57 (map Fact.c d.1))]) z Zf ?_ ?_)
  .refine Em (Eo (s:=2) (k:=57) (t:=68) (XO Z) Z) ?_;exact Lr [0,3,2]
  intro d F a q;refine G0 6 Z (Yd Z a (λu a=>?_) (λu a=>?_))
  .exact Gc 2 Z (Qh a (Gx 1 Z (cQo q a (Lr [0,1]))))
  refine Gc 6 Z (Bd a λm g a=>?_);refine vX (.ptr 2 (toNat d.2*1)) (Qp g Z EC EF) ?_;refine vX (I m) (Ey Z ED Z (Qo g)) ?_;refine Go 7 Z (Bd a λp w a=>?_);refine vX (.agg (Fact.c p)) (QnT (ev:=(λx=>A.agg (Fact.c x))) (z0:=Uk) (k:=m) (l:=j) JF w Gm Gj (zrC Z)) ?_;refine vH (Ej (xs:=[.tmp 16]) (es:=map Fact.c [p]) YF Z Z Z Z Z ⟨Z,trivial⟩ Z Z) ?_;refine FE Z (Bd a λG y a=>vH (Qg (e:=Fact.c) y YF EA (QM (i:=3))) ?_);exact Fg 8 Z Z (Qf a (Lr [0,4,2]))
 exact QG 7 Z h 2 [0,1]
end Go.Sw
