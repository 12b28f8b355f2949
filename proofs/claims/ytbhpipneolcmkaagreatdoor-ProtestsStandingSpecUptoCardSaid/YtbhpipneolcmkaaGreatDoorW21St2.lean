/- What the functions compute that ProtestsStandingSpec reaches, and that their calls refine it (part 2 of 4). -/
import Derived.Test.YtbhpipneolcmkaaGreatDoorW21St1
set_option linter.unusedVariables false
set_option linter.unusedSimpArgs false
set_option maxRecDepth 100000
set_option maxHeartbeats 4000000
namespace Go.Sw
open List(map)
open Int(toNat)
open Go.IntKind(i64 u64 u8)
open Go.Proofs Tryz
def Q_facts_open_rxk(d:Fact)(e:Int):U_facts_open_rxk->Go.Sw.A->Qc->Prop
  |.c0 x,a,H=>a=.tup [.agg [.osl 2 0 8 3,.fn (.func 194) [] []],.bool true]/\H=[.cells 68 (Fact.c d),.cells 3 [I e],.rowr 230 3 [[.ptr 0 4,I 1,I 9999],[.ptr 0 5,I 0,I 7],[.ptr 0 6,I 0,I 31],[.ptr 0 7,I (-1099511627776),I 1099511627776],[.ptr 0 8,I 0,I 120],[.ptr 0 9,I 0,I 1048576],[.ptr 0 10,I 0,I 9999],[.ptr 0 11,I 0,I 1048576]],.cells 220 [.osl 2 0 8 3,.fn (.func 194) [] []]]
  |.c1 x,a,H=>a=.tup [.agg [.osl 2 0 4 3,.fn (.func 194) [] []],.bool true]/\H=[.cells 68 (Fact.c d),.cells 3 [I e],.rowr 230 3 [[.ptr 0 12,I 0,I 39],[.ptr 0 13,I 0,I 255],[.ptr 0 14,I 0,I 1048576],[.ptr 0 15,I (-1099511627776),I 1099511627776]],.cells 220 [.osl 2 0 4 3,.fn (.func 194) [] []]]
  |.c2 x,a,H=>a=.tup [.agg [.osl 2 0 5 3,.fn (.func 194) [] []],.bool true]/\H=[.cells 68 (Fact.c d),.cells 3 [I e],.rowr 230 3 [[.ptr 0 16,I 0,I 39],[.ptr 0 17,I 0,I 255],[.ptr 0 18,I (-1099511627776),I 1099511627776],[.ptr 0 19,I (-1099511627776),I 1099511627776],[.ptr 0 20,I 0,I 1099511627776]],.cells 220 [.osl 2 0 5 3,.fn (.func 194) [] []]]
  |.c3 x,a,H=>a=.tup [.agg [.osl 2 0 8 3,.fn (.func 195) [] [.ptr 3 0]],.bool true]/\H=[.cells 68 (Fact.c d),.cells 3 [I e],.rowr 230 3 [[.ptr 0 21,I 0,I 39],[.ptr 0 22,I 0,I 255],[.ptr 0 23,I (-1099511627776),I 1099511627776],[.ptr 0 24,I 0,I 39],[.ptr 0 25,I 0,I 255],[.ptr 0 26,I (-1099511627776),I 1099511627776],[.ptr 0 27,I (-1099511627776),I 1099511627776],[.ptr 0 28,I (-1099511627776),I 1099511627776]],.cells 269 [.ptr 0 21],.cells 220 [.osl 2 0 8 3,.fn (.func 195) [] [.ptr 3 0]]]
  |.c4 x,a,H=>a=.tup [.agg [.osl 2 0 4 3,.fn (.func 196) [] [.ptr 3 0]],.bool true]/\H=[.cells 68 (Fact.c d),.cells 3 [I e],.rowr 230 3 [[.ptr 0 29,I 1,I 9999],[.ptr 0 30,I 0,I 255],[.ptr 0 31,I (-1099511627776),I 1099511627776],[.ptr 0 32,I (-1099511627776),I 1099511627776]],.cells 270 [.ptr 0 29],.cells 220 [.osl 2 0 4 3,.fn (.func 196) [] [.ptr 3 0]]]
  |.c5 x,a,H=>a=.tup [.agg [.osl 2 0 4 3,.fn (.func 197) [] [.ptr 3 0]],.bool true]/\H=[.cells 68 (Fact.c d),.cells 3 [I e],.rowr 230 3 [[.ptr 0 33,I 0,I 39],[.ptr 0 34,I 0,I 255],[.ptr 0 35,I (-1099511627776),I 1099511627776],[.ptr 0 36,I (-1099511627776),I 1099511627776]],.cells 271 [.ptr 0 33],.cells 220 [.osl 2 0 4 3,.fn (.func 197) [] [.ptr 3 0]]]
  |.c6 x,a,H=>a=.tup [.agg [.osl 2 0 2 3,.fn (.func 198) [] [.ptr 3 0]],.bool true]/\H=[.cells 68 (Fact.c d),.cells 3 [I e],.rowr 230 3 [[.ptr 0 37,I 1,I 9999],[.ptr 0 38,I 1,I 9999]],.cells 272 [.ptr 0 37],.cells 220 [.osl 2 0 2 3,.fn (.func 198) [] [.ptr 3 0]]]
  |.c7 x,a,H=>a=.tup [.agg [.osl 2 0 4 3,.fn (.func 194) [] []],.bool true]/\H=[.cells 68 (Fact.c d),.cells 3 [I e],.rowr 230 3 [[.ptr 0 39,I 1,I 1048576],[.ptr 0 40,I 1,I 9999],[.ptr 0 41,I 0,I 31],[.ptr 0 42,I 0,I 255]],.cells 220 [.osl 2 0 4 3,.fn (.func 194) [] []]]
  |.c8 x,a,H=>a=.tup [.agg [.osl 2 0 4 3,.fn (.func 194) [] []],.bool true]/\H=[.cells 68 (Fact.c d),.cells 3 [I e],.rowr 230 3 [[.ptr 0 43,I 1,I 1048576],[.ptr 0 44,I 0,I 9999],[.ptr 0 45,I 0,I 1125899906842624],[.ptr 0 46,I 0,I 1]],.cells 220 [.osl 2 0 4 3,.fn (.func 194) [] []]]
  |.c9 x,a,H=>a=.tup [.agg [.osl 2 0 6 3,.fn (.func 194) [] []],.bool true]/\H=[.cells 68 (Fact.c d),.cells 3 [I e],.rowr 230 3 [[.ptr 0 47,I 1,I 1048576],[.ptr 0 48,I 1,I 2],[.ptr 0 49,I 1,I 5],[.ptr 0 50,I x.1,I x.2.1],[.ptr 0 51,I x.2.2.1,I x.2.2.2.1],[.ptr 0 52,I x.2.2.2.2.1,I x.2.2.2.2.2]],.cells 220 [.osl 2 0 6 3,.fn (.func 194) [] []]]
  |.c10 x,a,H=>a=.tup [.agg [.osl 2 0 2 3,.fn (.func 194) [] []],.bool true]/\H=[.cells 68 (Fact.c d),.cells 3 [I e],.rowr 230 3 [[.ptr 0 53,I 1,I 1048576],[.ptr 1 0,I 0,I 1]],.cells 220 [.osl 2 0 2 3,.fn (.func 194) [] []]]
  |.c11 x,a,H=>a=.tup [.agg [.nils,.fn (.func 194) [] []],.bool true]/\H=[.cells 68 (Fact.c d),.cells 3 [I e],.cells 220 [.nils,.fn (.func 194) [] []]]
  |.c12 x,a,H=>a=.tup [.agg [.osl 2 0 2 3,.fn (.func 194) [] []],.bool true]/\H=[.cells 68 (Fact.c d),.cells 3 [I e],.rowr 230 3 [[.ptr 0 55,I 0,I 31],[.ptr 0 56,I 1,I 1048576]],.cells 220 [.osl 2 0 2 3,.fn (.func 194) [] []]]
  |.c13 x,a,H=>a=.tup [.agg [.nils,.nilf],.bool false]/\H=[.cells 68 (Fact.c d),.cells 3 [I e],.cells 220 [.nils,.nilf]]
def F_bg(n:Nat)(a:Fact)(f:Int):Option U_facts_open_rxk:=(bif (a.Kind==1)then some (U_facts_open_rxk.c0 ())else(bif (a.Kind==2)then some (U_facts_open_rxk.c1 ())else(bif (a.Kind==3)then some (U_facts_open_rxk.c2 ())else(bif (a.Kind==4)then some (U_facts_open_rxk.c3 ())else(bif (a.Kind==5)then some (U_facts_open_rxk.c4 ())else(bif (a.Kind==6)then some (U_facts_open_rxk.c5 ())else(bif (a.Kind==7)then some (U_facts_open_rxk.c6 ())else(bif (a.Kind==8)then some (U_facts_open_rxk.c7 ())else(bif (a.Kind==9)then some (U_facts_open_rxk.c8 ())else(bif (a.Kind==10)then((bif (a.Ruling.Kind==1)then some (a.Ruling.Kind==1)else some (a.Ruling.Kind==2)):Option Bool).bind λe=>((bif e then some ({least:=0,most:=0:Ua},{least:=0,most:=0:Ua},{least:=0,most:=0:Ua})else(bif (a.Ruling.Kind==3)then some ({least:=1,most:=9999:Ua},{least:=0,most:=255:Ua},{least:=1,most:=1099511627776:Ua})else(bif (a.Ruling.Kind==4)then some ({least:=1,most:=9999:Ua},{least:=0,most:=255:Ua},{least:=1,most:=64:Ua})else some ({least:=1,most:=9999:Ua},{least:=0,most:=255:Ua},{least:=0,most:=0:Ua})))):Option (Ua×Ua×Ua)).bind λd=>some (U_facts_open_rxk.c9 (d.1.least,d.1.most,d.2.1.least,d.2.1.most,d.2.2.least,d.2.2.most))else(bif (a.Kind==11)then some (U_facts_open_rxk.c10 ())else(bif (a.Kind==12)then some (U_facts_open_rxk.c11 ())else(bif (a.Kind==13)then some (U_facts_open_rxk.c12 ())else some (U_facts_open_rxk.c13 ()))))))))))))))
theorem k_bg(n:Nat)(d:Fact)(e:Int)(r:U_facts_open_rxk)(h:F_bg n d e=some r):C prog 139 [.ptr 0 0,.ptr 1 0] [.cells 68 (Fact.c d),.cells 3 [I e]] (Q_facts_open_rxk d e r):=by
 refine QG func139 Z Z Z ?_;refine G0 22 Z (Cn Z h (λw h=>?_) (λw h=>?_))
 .refine Gc 9 Z (DSs 40 Z (D 40 Z (Eg Z ?_)));refine vH (Y1 (xs:=[.tmp 32,.tmp 37,.tmp 42,.tmp 47,.tmp 52,.tmp 57,.tmp 62,.tmp 67]) JP Z Z Z Z Z ⟨Z,Z,Z,Z,Z,Z,Z,Z,trivial⟩ Z) ?_;refine FE Z (Go 8 Z ?_);obtain rfl:=Oi h;exact Rx [0,1,3,2] [4,5] Z (QU Z Z (Qlk.cons (QF EY EV Z Z Z) (Qlk.cons QdM.tmp Qlk.nil))) ⟨Z,Z⟩
 refine Gc 6 Z (Cn Z h (λx h=>?_) (λx h=>?_))
 .refine Gc 9 Z (DSs 20 Z (D 20 Z (Eg Z ?_)));refine vH (Y1 (xs:=[.tmp 79,.tmp 84,.tmp 89,.tmp 94]) JP Z Z Z Z Z ⟨Z,Z,Z,Z,trivial⟩ Z) ?_;refine FE Z (Go 8 Z ?_);obtain rfl:=Oi h;exact Rx [0,1,3,2] [4,5] Z (QU Z Z (Qlk.cons (QF EY EV Z Z Z) (Qlk.cons QdM.tmp Qlk.nil))) ⟨Z,Z⟩
 refine Gc 6 Z (Cn Z h (λy h=>?_) (λy h=>?_))
 .refine Gc 9 Z (DSs 25 Z (D 25 Z (Eg Z ?_)));refine vH (Y1 (xs:=[.tmp 106,.tmp 111,.tmp 116,.tmp 121,.tmp 126]) JP Z Z Z Z Z ⟨Z,Z,Z,Z,Z,trivial⟩ Z) ?_;refine FE Z (Go 8 Z ?_);obtain rfl:=Oi h;exact Rx [0,1,3,2] [4,5] Z (QU Z Z (Qlk.cons (QF EY EV Z Z Z) (Qlk.cons QdM.tmp Qlk.nil))) ⟨Z,Z⟩
 refine Gc 6 Z (Cn Z h (λz h=>?_) (λz h=>?_))
 .refine Gc 10 Z (DAs 42 40 [0,0,0,0,0,0,0,0,0,0,0,0,0,0,0,0,0,0,0,0,0,0,0,0,0,0,0,0,0,0,0,0,0,0,0,0,0,0,0,0,1,3] (by kernel_rfl) (Da 40 Z ?_));refine Qcf (Y1 (xs:=[.tmp 138,.tmp 143,.tmp 148,.tmp 153,.tmp 158,.tmp 163,.tmp 168,.tmp 173]) JP Z Z Z Z Z ⟨Z,Z,Z,Z,Z,Z,Z,Z,trivial⟩ Z) Z Z (Db 1 Z (DB.done Z (Go 8 Z ?_)));obtain rfl:=Oi h;exact Rx [0,1,4,3,2] [4,5] Z (QU Z Z (Qlk.cons (QF EY EV Z Z Z) (Qlk.cons QdM.tmp Qlk.nil))) ⟨Z,Z⟩
 refine Gc 6 Z (Cn Z h (λB h=>?_) (λB h=>?_))
 .refine Gc 10 Z (DAs 22 20 [0,0,0,0,0,0,0,0,0,0,0,0,0,0,0,0,0,0,0,0,1,3] (by kernel_rfl) (Da 20 Z ?_));refine Qcf (Y1 (xs:=[.tmp 186,.tmp 191,.tmp 196,.tmp 201]) JP Z Z Z Z Z ⟨Z,Z,Z,Z,trivial⟩ Z) Z Z (Db 1 Z (DB.done Z (Go 8 Z ?_)));obtain rfl:=Oi h;exact Rx [0,1,4,3,2] [4,5] Z (QU Z Z (Qlk.cons (QF EY EV Z Z Z) (Qlk.cons QdM.tmp Qlk.nil))) ⟨Z,Z⟩
 refine Gc 6 Z (Cn Z h (λE h=>?_) (λE h=>?_))
 .refine Gc 10 Z (DAs 22 20 [0,0,0,0,0,0,0,0,0,0,0,0,0,0,0,0,0,0,0,0,1,3] (by kernel_rfl) (Da 20 Z ?_));refine Qcf (Y1 (xs:=[.tmp 214,.tmp 219,.tmp 224,.tmp 229]) JP Z Z Z Z Z ⟨Z,Z,Z,Z,trivial⟩ Z) Z Z (Db 1 Z (DB.done Z (Go 8 Z ?_)));obtain rfl:=Oi h;exact Rx [0,1,4,3,2] [4,5] Z (QU Z Z (Qlk.cons (QF EY EV Z Z Z) (Qlk.cons QdM.tmp Qlk.nil))) ⟨Z,Z⟩
 refine Gc 6 Z (Cn Z h (λF h=>?_) (λF h=>?_))
 .refine Gc 10 Z (DAs 12 10 [0,0,0,0,0,0,0,0,0,0,1,3] (by kernel_rfl) (Da 10 Z ?_));refine Qcf (Y1 (xs:=[.tmp 242,.tmp 247]) JP Z Z Z Z Z ⟨Z,Z,trivial⟩ Z) Z Z (Db 1 Z (DB.done Z (Go 8 Z ?_)));obtain rfl:=Oi h;exact Rx [0,1,4,3,2] [4,5] Z (QU Z Z (Qlk.cons (QF EY EV Z Z Z) (Qlk.cons QdM.tmp Qlk.nil))) ⟨Z,Z⟩
 refine Gc 6 Z (Cn Z h (λG h=>?_) (λG h=>?_))
 .refine Gc 9 Z (DSs 20 Z (D 20 Z (Eg Z ?_)));refine vH (Y1 (xs:=[.tmp 260,.tmp 265,.tmp 270,.tmp 275]) JP Z Z Z Z Z ⟨Z,Z,Z,Z,trivial⟩ Z) ?_;refine FE Z (Go 8 Z ?_);obtain rfl:=Oi h;exact Rx [0,1,3,2] [4,5] Z (QU Z Z (Qlk.cons (QF EY EV Z Z Z) (Qlk.cons QdM.tmp Qlk.nil))) ⟨Z,Z⟩
 refine Gc 6 Z (Cn Z h (λJ h=>?_) (λJ h=>?_))
 .refine Gc 9 Z (DSs 20 Z (D 20 Z (Eg Z ?_)));refine vH (Y1 (xs:=[.tmp 287,.tmp 292,.tmp 297,.tmp 302]) JP Z Z Z Z Z ⟨Z,Z,Z,Z,trivial⟩ Z) ?_;refine FE Z (Go 8 Z ?_);obtain rfl:=Oi h;exact Rx [0,1,3,2] [4,5] Z (QU Z Z (Qlk.cons (QF EY EV Z Z Z) (Qlk.cons QdM.tmp Qlk.nil))) ⟨Z,Z⟩
 refine Gc 6 Z (Cn Z h (λk h=>?_) (λk h=>?_))
 .refine Gc 9 Z ?_;refine QaM 8 3 [310,311,312,16,17,18,1000006,1000007] [false,false,false,true,true,true,true,true] [[],[],[],[],[],[],[3,4,5],[3,4,5,6]] [[],[3],[4],[5],[3,4],[3,5],[4,5],[3,4,5],[3,4,5,6],[3,4,5,6,7]] [[(0,0),(1,1),(2,2),(3,3),(4,4),(5,5),(6,6),(7,7)],[(0,0),(1,1),(2,2),(3,3),(4,4),(5,5),(6,6),(7,7),(8,8)],[(0,0),(1,1),(2,2),(3,3),(4,4),(5,5),(6,6),(7,7),(8,8),(9,9)],[(0,1),(2,4),(3,5),(6,7)],[(0,2),(1,4),(3,6),(5,7)],[(0,3),(1,5),(2,6),(4,7)],[(7,8)],[(8,9)]] [.agg [I 1,I 9999],.agg [I 0,I 255],.agg [I 0,I 0],.ptr 3 0,.ptr 4 0,.ptr 5 0,.any,.any] [[.cells 68 (Fact.c d),.cells 3 [I e],.cells 220 [.nils,.nilf],.dead,.dead,.dead],[.cells 68 (Fact.c d),.cells 3 [I e],.cells 220 [.nils,.nilf],.cells 228 [I 0,I 0],.dead,.dead],[.cells 68 (Fact.c d),.cells 3 [I e],.cells 220 [.nils,.nilf],.dead,.cells 228 [I 0,I 0],.dead],[.cells 68 (Fact.c d),.cells 3 [I e],.cells 220 [.nils,.nilf],.dead,.dead,.cells 228 [I 0,I 0]],[.cells 68 (Fact.c d),.cells 3 [I e],.cells 220 [.nils,.nilf],.cells 228 [I 0,I 0],.cells 228 [I 0,I 0],.dead],[.cells 68 (Fact.c d),.cells 3 [I e],.cells 220 [.nils,.nilf],.cells 228 [I 0,I 0],.dead,.cells 228 [I 0,I 0]],[.cells 68 (Fact.c d),.cells 3 [I e],.cells 220 [.nils,.nilf],.dead,.cells 228 [I 0,I 0],.cells 228 [I 0,I 0]],[.cells 68 (Fact.c d),.cells 3 [I e],.cells 220 [.nils,.nilf],.cells 228 [I 0,I 0],.cells 228 [I 0,I 0],.cells 228 [I 0,I 0]],[.cells 68 (Fact.c d),.cells 3 [I e],.cells 220 [.nils,.nilf],.cells 228 [I 1,I 9999],.cells 228 [I 0,I 0],.cells 228 [I 0,I 0]],[.cells 68 (Fact.c d),.cells 3 [I e],.cells 220 [.nils,.nilf],.cells 228 [I 1,I 9999],.cells 228 [I 0,I 255],.cells 228 [I 0,I 0]]] ([.cells 68 (Fact.c d),.cells 3 [I e],.cells 220 [.nils,.nilf],.cells 228 [I 1,I 9999],.cells 228 [I 0,I 255],.cells 228 [I 0,I 0]]) draws Z Z Z Z Z Z Z ?_ Z ?_
  .refine QiF.cons (Qd (v0 Z Z) (Qd (v0 Z Z) (Qd (v0 Z Z) (Qd (v0 Z Z) (Qd (v0 Z Z) (Qd (v0 Z Z) (Qd (v0 Z Z) (Qd (v0 Z Z) (Qm))))))))) (QiF.cons (Qd (v0 Z Z) (Qd (v0 Z Z) (Qd (v0 Z Z) (Qd (v0 Z Z) (Qd (v0 Z Z) (Qd (v0 Z Z) (Qd (v0 Z Z) (Qd (v0 Z Z) (Qd (v0 Z Z) (Qm)))))))))) (QiF.cons (Qd (v0 Z Z) (Qd (v0 Z Z) (Qd (v0 Z Z) (Qd (v0 Z Z) (Qd (v0 Z Z) (Qd (v0 Z Z) (Qd (v0 Z Z) (Qd (v0 Z Z) (Qd (v0 Z Z) (Qd (v0 Z Z) (Qm))))))))))) (QiF.cons ?_ (QiF.cons ?_ (QiF.cons ?_ (QiF.cons ?_ (QiF.cons ?_ (QiF.nil))))))))
   .refine Qd ?_ (Qd ?_ (Qd ?_ (Qd ?_ (Qm))))
    iterate 4 exact JX.alloc _ 16 228 3 _ Z Z Z Z Z Z Z (OpZ.alloc (v:=(.agg [I 0,I 0])) EO (zrC Z)) Z
   .refine Qd ?_ (Qd ?_ (Qd ?_ (Qd ?_ (Qm))))
    iterate 4 exact JX.alloc _ 17 228 4 _ Z Z Z Z Z Z Z (OpZ.alloc (v:=(.agg [I 0,I 0])) EO (zrC Z)) Z
   .refine Qd ?_ (Qd ?_ (Qd ?_ (Qd ?_ (Qm))))
    iterate 4 exact JX.alloc _ 18 228 5 _ Z Z Z Z Z Z Z (OpZ.alloc (v:=(.agg [I 0,I 0])) EO (zrC Z)) Z
   .refine Qd ?_ (Qm)
    .refine Om2 Z (sD 3 (sD 0 sN)) ?_;refine vU (Ex Z Z Z sizeOf228 Z Z Z Z Z Z Z) ?_;exact FE Z Wp
   .refine Qd ?_ (Qm)
    .refine Om2 Z (sD 4 (sD 1 sN)) ?_;refine vU (Ex Z Z Z sizeOf228 Z Z Z Z Z Z Z) ?_;exact FE Z Wp
  refine Go 20 Z (Bd h λi f h=>?_);refine Ct i [0,1,2,3,4,5] [4,15,16,17,18,316] (λi=>[(317,.bool i)]) Ze Zf ?_ (λenv H j=>?_)
  .refine G0 0 Z (Cn Z f (λl f=>?_) (λl f=>?_))
   .exact Gc 1 Z (Cl f [0,1,2,3,4,5])
   exact Gc 4 Z (Cl f [0,1,2,3,4,5])
  refine Gx 1 Z (Qb j (Bd h λg a h=>?_));refine Ct g [0,1,2,3,4,5] [4,15,16,17,18] Ze (λg=>[(3,.cells 228 (Ua.c g.1)),(4,.cells 228 (Ua.c g.2.1)),(5,.cells 228 (Ua.c g.2.2))]) Zf ?_ (λenv H j=>?_)
  .refine G0 0 Z (Cn Z a (λm a=>?_) (λm a=>?_))
   .exact Gc 6 Z (Cl a [0,1,2,3,4,5])
   refine Gc 6 Z (Cn Z a (λp a=>?_) (λp a=>?_))
   .exact Gc 4 Z (Cl a [0,1,2,3,4,5])
   refine Gc 6 Z (Cn Z a (λq a=>?_) (λq a=>?_))
   .exact Gc 4 Z (Cl a [0,1,2,3,4,5])
   exact Gc 1 Z (Cl a [0,1,2,3,4,5])
  refine Gx 2 Z (Qb j (Gc 1 Z (DSs 30 Z (D 30 Z (Eg Z ?_)))));refine vH (Y1 (xs:=[.tmp 332,.tmp 337,.tmp 342,.tmp 347,.tmp 352,.tmp 357]) JP Z Z Z Z Z ⟨Z,Z,Z,Z,Z,Z,trivial⟩ Z) ?_;refine FE Z (Go 8 Z ?_);obtain rfl:=Oi h;exact Rx [0,1,6,2] [4,5] Z (QU Z Z (Qlk.cons (QF EY EV Z Z Z) (Qlk.cons QdM.tmp Qlk.nil))) ⟨Z,Z⟩
 refine Gc 6 Z (Cn Z h (λs h=>?_) (λs h=>?_))
 .refine Gc 1 Z (DSs 9 Z (D 9 Z (Eg Z ?_)));refine vH (Y1 (xs:=[.tmp 367,.tmp 370]) JP Z Z Z Z Z ⟨Z,Z,trivial⟩ Z) ?_;refine FE Z (Go 8 Z ?_);obtain rfl:=Oi h;exact Rx [0,1,3,2] [4,5] Z (QU Z Z (Qlk.cons (QF EY EV Z Z Z) (Qlk.cons QdM.tmp Qlk.nil))) ⟨Z,Z⟩
 refine Gc 6 Z (Cn Z h (λt h=>?_) (λt h=>?_))
 .refine Gc 10 Z ?_;obtain rfl:=Oi h;exact Rx [0,1,2] [4,5] Z (QU Z Z (Qlk.cons (QF EY EV Z Z Z) (Qlk.cons QdM.tmp Qlk.nil))) ⟨Z,Z⟩
 refine Gc 6 Z (Cn Z h (λu h=>?_) (λu h=>?_))
 .refine Gc 1 Z (DSs 12 Z (D 12 Z (Eg Z ?_)));refine vH (Y1 (xs:=[.tmp 383,.tmp 389]) JP Z Z Z Z Z ⟨Z,Z,trivial⟩ Z) ?_;refine FE Z (Go 8 Z ?_);obtain rfl:=Oi h;exact Rx [0,1,3,2] [4,5] Z (QU Z Z (Qlk.cons (QF EY EV Z Z Z) (Qlk.cons QdM.tmp Qlk.nil))) ⟨Z,Z⟩
 refine Gc 11 Z ?_;obtain rfl:=Oi h;exact Rx [0,1,2] [4,5] Z (QU Z Z (Qlk.cons (QF EY EV Z Z Z) (Qlk.cons QdM.tmp Qlk.nil))) ⟨Z,Z⟩
def F_e(n:Nat):Option Unit:=some ()
theorem k_e(n:Nat):Ks (F_e n) 194 [] [] (λ_=>.bool true):=by
 exact Kg 11 func194 Z Z Z Z λr h=>Rt h 0 []
def F_ka(n:Nat)(a:Fact):Option Unit:=some ()
theorem k_ka(n:Nat)(a:Fact):Ks (F_ka n a) 195 [.ptr 0 0] [.cells 269 [.ptr 1 21],.cells 68 (Fact.c a)] (λ_=>.bool (decide (a.Sync.Min<=a.Sync.Max))):=by
 exact Kg 6 func195 Z Z Z Z λr h=>DSs 8 Z (D 8 Z (Eg Z (Go 5 Z (Rt h 1 [0,1]))))
def F_hu(n:Nat)(a:Fact):Option Unit:=some ()
theorem k_hu(n:Nat)(a:Fact):Ks (F_hu n a) 196 [.ptr 0 0] [.cells 270 [.ptr 1 29],.cells 68 (Fact.c a)] (λ_=>.bool (decide (a.Hand.Lo<=a.Hand.Hi))):=by
 exact Kg 6 func196 Z Z Z Z λr h=>DSs 8 Z (D 8 Z (Eg Z (Go 5 Z (Rt h 1 [0,1]))))
def F_ju(n:Nat)(a:Fact):Option Unit:=some ()
theorem k_ju(n:Nat)(a:Fact):Ks (F_ju n a) 197 [.ptr 0 0] [.cells 271 [.ptr 1 33],.cells 68 (Fact.c a)] (λ_=>.bool (decide (a.Silence.Lo<=a.Silence.Hi))):=by
 exact Kg 6 func197 Z Z Z Z λr h=>DSs 8 Z (D 8 Z (Eg Z (Go 5 Z (Rt h 1 [0,1]))))
def F_ie(n:Nat)(a:Fact):Option Unit:=some ()
theorem k_ie(n:Nat)(a:Fact):Ks (F_ie n a) 198 [.ptr 0 0] [.cells 272 [.ptr 1 37],.cells 68 (Fact.c a)] (λ_=>.bool (decide (a.Pair.A<a.Pair.B))):=by
 exact Kg 6 func198 Z Z Z Z λr h=>DSs 8 Z (D 8 Z (Eg Z (Go 5 Z (Rt h 1 [0,1]))))
def F_bm(n:Nat)(a:Fact):Option Unit:=some ()
theorem k_bm(n:Nat)(a:Fact):Kq (F_bm n a) 141 [.ptr 0 0] [.cells 68 (Fact.c a)] (λ_=>.osl 1 0 4 3) (λ_=>[.cells 68 (Fact.c a),.rowr 230 3 [[.ptr 0 3,I 1,I 13],[.ptr 0 0,I 0,I 31],[.ptr 0 1,I 1,I 1048576],[.ptr 0 2,I 0,I 1099511627776]]]):=by
 refine Kg 6 func141 Z Z Z Z λr h=>DSs 20 Z (D 20 Z (Eg Z ?_));refine vH (Y1 (xs:=[.tmp 7,.tmp 12,.tmp 17,.tmp 22]) JP Z Z Z Z Z ⟨Z,Z,Z,Z,trivial⟩ Z) ?_;exact FE Z (Go 4 Z (Rt h 2 [0,1]))
def F_dh(n:Nat)(d:Fact)(i:Int)(e:Fact):Option (List Ent):=((F_bg n ({d with Kind:=e.Kind:Fact}) i).bind λf=>(match f with|.c0 j=>(some ([⟨false,4,1,9999⟩,⟨false,5,0,7⟩,⟨false,6,0,31⟩,⟨false,7,(-1099511627776),1099511627776⟩,⟨false,8,0,120⟩,⟨false,9,0,1048576⟩,⟨false,10,0,9999⟩,⟨false,11,0,1048576⟩]:List Ent))|.c1 k=>(some ([⟨false,12,0,39⟩,⟨false,13,0,255⟩,⟨false,14,0,1048576⟩,⟨false,15,(-1099511627776),1099511627776⟩]:List Ent))|.c2 l=>(some ([⟨false,16,0,39⟩,⟨false,17,0,255⟩,⟨false,18,(-1099511627776),1099511627776⟩,⟨false,19,(-1099511627776),1099511627776⟩,⟨false,20,0,1099511627776⟩]:List Ent))|.c3 m=>(some ([⟨false,21,0,39⟩,⟨false,22,0,255⟩,⟨false,23,(-1099511627776),1099511627776⟩,⟨false,24,0,39⟩,⟨false,25,0,255⟩,⟨false,26,(-1099511627776),1099511627776⟩,⟨false,27,(-1099511627776),1099511627776⟩,⟨false,28,(-1099511627776),1099511627776⟩]:List Ent))|.c4 p=>(some ([⟨false,29,1,9999⟩,⟨false,30,0,255⟩,⟨false,31,(-1099511627776),1099511627776⟩,⟨false,32,(-1099511627776),1099511627776⟩]:List Ent))|.c5 q=>(some ([⟨false,33,0,39⟩,⟨false,34,0,255⟩,⟨false,35,(-1099511627776),1099511627776⟩,⟨false,36,(-1099511627776),1099511627776⟩]:List Ent))|.c6 r=>(some ([⟨false,37,1,9999⟩,⟨false,38,1,9999⟩]:List Ent))|.c7 s=>(some ([⟨false,39,1,1048576⟩,⟨false,40,1,9999⟩,⟨false,41,0,31⟩,⟨false,42,0,255⟩]:List Ent))|.c8 t=>(some ([⟨false,43,1,1048576⟩,⟨false,44,0,9999⟩,⟨false,45,0,1125899906842624⟩,⟨false,46,0,1⟩]:List Ent))|.c9 a=>(some ([⟨false,47,1,1048576⟩,⟨false,48,1,2⟩,⟨false,49,1,5⟩,⟨false,50,a.1,a.2.1⟩,⟨false,51,a.2.2.1,a.2.2.2.1⟩,⟨false,52,a.2.2.2.2.1,a.2.2.2.2.2⟩]:List Ent))|.c10 u=>(some ([⟨false,53,1,1048576⟩,⟨true,0,0,1⟩]:List Ent))|.c11 w=>(some [])|.c12 x=>(some ([⟨false,55,0,31⟩,⟨false,56,1,1048576⟩]:List Ent))|.c13 y=>(some [])):Option (List Ent)).bind λg=>(F_bm n ({d with Kind:=e.Kind:Fact})).bind λz=>(app ([⟨false,3,1,13⟩,⟨false,0,0,31⟩,⟨false,1,1,1048576⟩,⟨false,2,0,1099511627776⟩]:List Ent) g).bind λh=>some h
theorem k_dh(n:Nat)(g:Fact)(k:Int)(f:Fact):Kq (F_dh n g k f) 140 [.ptr 0 0,.ptr 1 0,.ptr 2 0] [.cells 68 (Fact.c g),.cells 3 [I k],.cells 68 (Fact.c f)] (λr=>.osl 3 0 r.length 3) (λr=>[.cells 68 (Fact.c ({g with Kind:=f.Kind:Fact})),.cells 3 [I k],.cells 68 (Fact.c f),.ents 230 0 1 r]):=by
 refine Kg 16 func140 Z Z Z Z λr h=>Bd h λe a h=>?_;refine Ct e [0,1,2,0,0] [0] (λ_=>[(6,.ptr 3 0)]) (λe=>[(3,.cells 220 [.osl 4 0 e.length 3,.any]),(4,.ents 230 0 1 e)]) Zf ?_ (λenv H s=>?_)
 .refine G0 3 Z (Bd a λu l a=>?_);refine Q2 [0,1] (OpC.fn call139 Z Z Z) (k_bg _ _ _ _ l) ?_;intro ra rH d;rcases u with w|y|z|B|E|F|G|J|L|M|N|O|P|Q
  iterate 3 obtain⟨rfl,rfl⟩:=d;refine FE Z (TE 3 0 1 Z Z (FE Z (Go 7 Z ?_)));cases a;refine QC ?_;refine Em (Q9 (i:=5) (m:=1) Z) ?_;exact Lr [0,1,2,5,3]
  iterate 4 obtain⟨rfl,rfl⟩:=d;refine FE Z (TE 3 0 1 Z Z (FE Z (Go 7 Z ?_)));cases a;refine QC ?_;refine Em (Q9 (i:=6) (m:=1) Z) ?_;exact Lr [0,1,2,6,3]
  iterate 4 obtain⟨rfl,rfl⟩:=d;refine FE Z (TE 3 0 1 Z Z (FE Z (Go 7 Z ?_)));cases a;refine QC ?_;refine Em (Q9 (i:=5) (m:=1) Z) ?_;exact Lr [0,1,2,5,3]
  .obtain⟨rfl,rfl⟩:=d;refine FE Z (Go 7 Z ?_);cases a;refine QC ?_;refine Em (Q9 (i:=4) (m:=1) Z) ?_;refine Em (Le.phantomE (i:=4) (m:=0) (t:=230) (b1:=0) (b2:=1) Z Z Z) ?_;exact Lr [0,1,2,4,5]
  .obtain⟨rfl,rfl⟩:=d;refine FE Z (TE 3 0 1 Z Z (FE Z (Go 7 Z ?_)));cases a;refine QC ?_;refine Em (Q9 (i:=5) (m:=1) Z) ?_;exact Lr [0,1,2,5,3]
  .obtain⟨rfl,rfl⟩:=d;refine FE Z (Go 7 Z ?_);cases a;refine QC ?_;refine Em (Q9 (i:=4) (m:=1) Z) ?_;refine Em (Le.phantomE (i:=4) (m:=0) (t:=230) (b1:=0) (b2:=1) Z Z Z) ?_;exact Lr [0,1,2,4,5]
 refine Gx 1 Z (Qb s (Gc 1 Z (DAs 4 1 [0,1,3,3] (by kernel_rfl) (Da 1 Z ?_))));obtain⟨R,p,h⟩:=YU h;refine DA.op (x:=.osl 5 0 4 3) (H1:=[.cells 68 (Fact.c ({g with Kind:=f.Kind:Fact})),.cells 3 [I k],.cells 68 (Fact.c f),.cells 220 [.osl 4 0 e.length 3,.any],.ents 230 0 1 e,.rowr 230 3 [[.ptr 0 3,I 1,I 13],[.ptr 0 0,I 0,I 31],[.ptr 0 1,I 1,I 1048576],[.ptr 0 2,I 0,I 1099511627776]]]) ?_ ?_
 .refine Q2 [0] (OpC.fn call141 Z Z Z) (k_bm _ _ _ p) ?_;rintro _ _ ⟨rfl,rfl⟩;exact FE Z Wp
 refine Db 1 Z ?_;refine DB.wo2 (x:=.osl 4 0 e.length 3) (Ld isAgg218 Z Wp) (Ld isAgg218 Z Wp) ?_;refine DB.done Z (TE 5 0 1 Z Z (FE Z (Bd h λT q h=>?_)));refine vH (QhG (i:=5) (j:=4) q JP E9 Z) ?_;exact FE Z (Go 4 Z (Rt h 5 [0,1,2,6]))
def F_ex(n:Nat)(f:Fact)(b2:Int)(g:List Ent)(p:List Ent)(a:(List Int)×Fact×Int×Int):Option (Ctl ((List Int)×Fact×Int×Int) (Ctl ((List Int)×Fact×Int) ((List Int)×Bool))):=(bif decide (a.2.2.2<(g.length:Int))then(idx g a.2.2.2).bind λd=>(QgK (Fact.c f) b2 d).bind λh=>(bif decide (h<d.lo)then some (.done (.done ([],false)))else(QgK (Fact.c f) b2 d).bind λi=>(bif decide (d.hi<i)then some (.done (.done ([],false)))else(idx p a.2.2.2).bind λj=>(QgK (Fact.c f) b2 d).bind λk=>(QkD Fact.put a.2.1 a.2.2.1 j k).bind λe=>(QgK (Fact.c f) b2 d).bind λl=>(app a.1 [l]).bind λm=>some (.cont (m,e.1,e.2,i64.wrap (a.2.2.2+1)))))else some (.done (.cont (a.1,a.2.1,a.2.2.1))))
def F_cd(n:Nat)(a:Fact):Option ((List Int)×Bool):=((bif a.Appeal.Suspends then some 1 else some 0):Option Int).bind λb2=>((F_bg n a b2).bind λh=>(match h with|.c0 m=>((F_e n).bind λp=>some (.cont ([⟨false,4,1,9999⟩,⟨false,5,0,7⟩,⟨false,6,0,31⟩,⟨false,7,(-1099511627776),1099511627776⟩,⟨false,8,0,120⟩,⟨false,9,0,1048576⟩,⟨false,10,0,9999⟩,⟨false,11,0,1048576⟩]:List Ent)))|.c1 q=>((F_e n).bind λr=>some (.cont ([⟨false,12,0,39⟩,⟨false,13,0,255⟩,⟨false,14,0,1048576⟩,⟨false,15,(-1099511627776),1099511627776⟩]:List Ent)))|.c2 s=>((F_e n).bind λt=>some (.cont ([⟨false,16,0,39⟩,⟨false,17,0,255⟩,⟨false,18,(-1099511627776),1099511627776⟩,⟨false,19,(-1099511627776),1099511627776⟩,⟨false,20,0,1099511627776⟩]:List Ent)))|.c3 u=>((F_ka n a).bind λw=>(bif (!(decide (a.Sync.Min<=a.Sync.Max)))then some (.done ([],false))else some (.cont ([⟨false,21,0,39⟩,⟨false,22,0,255⟩,⟨false,23,(-1099511627776),1099511627776⟩,⟨false,24,0,39⟩,⟨false,25,0,255⟩,⟨false,26,(-1099511627776),1099511627776⟩,⟨false,27,(-1099511627776),1099511627776⟩,⟨false,28,(-1099511627776),1099511627776⟩]:List Ent))))|.c4 x=>((F_hu n a).bind λy=>(bif (!(decide (a.Hand.Lo<=a.Hand.Hi)))then some (.done ([],false))else some (.cont ([⟨false,29,1,9999⟩,⟨false,30,0,255⟩,⟨false,31,(-1099511627776),1099511627776⟩,⟨false,32,(-1099511627776),1099511627776⟩]:List Ent))))|.c5 z=>((F_ju n a).bind λE=>(bif (!(decide (a.Silence.Lo<=a.Silence.Hi)))then some (.done ([],false))else some (.cont ([⟨false,33,0,39⟩,⟨false,34,0,255⟩,⟨false,35,(-1099511627776),1099511627776⟩,⟨false,36,(-1099511627776),1099511627776⟩]:List Ent))))|.c6 F=>((F_ie n a).bind λG=>(bif (!(decide (a.Pair.A<a.Pair.B)))then some (.done ([],false))else some (.cont ([⟨false,37,1,9999⟩,⟨false,38,1,9999⟩]:List Ent))))|.c7 H=>((F_e n).bind λJ=>some (.cont ([⟨false,39,1,1048576⟩,⟨false,40,1,9999⟩,⟨false,41,0,31⟩,⟨false,42,0,255⟩]:List Ent)))|.c8 L=>((F_e n).bind λM=>some (.cont ([⟨false,43,1,1048576⟩,⟨false,44,0,9999⟩,⟨false,45,0,1125899906842624⟩,⟨false,46,0,1⟩]:List Ent)))|.c9 e=>((F_e n).bind λN=>some (.cont ([⟨false,47,1,1048576⟩,⟨false,48,1,2⟩,⟨false,49,1,5⟩,⟨false,50,e.1,e.2.1⟩,⟨false,51,e.2.2.1,e.2.2.2.1⟩,⟨false,52,e.2.2.2.2.1,e.2.2.2.2.2⟩]:List Ent)))|.c10 O=>((F_e n).bind λP=>some (.cont ([⟨false,53,1,1048576⟩,⟨true,0,0,1⟩]:List Ent)))|.c11 Q=>((F_e n).bind λR=>some (.cont []))|.c12 T=>((F_e n).bind λV=>some (.cont ([⟨false,55,0,31⟩,⟨false,56,1,1048576⟩]:List Ent)))|.c13 W=>(some (.done ([],false)))):Option (Ctl (List Ent) ((List Int)×Bool))).bind λi=>match i with|.cont f=>((F_bm n a).bind λX=>(app ([⟨false,3,1,13⟩,⟨false,0,0,31⟩,⟨false,1,1,1048576⟩,⟨false,2,0,1099511627776⟩]:List Ent) f).bind λj=>(F_dh n ({Uk with Ruling:={Ur with Kind:=a.Ruling.Kind:Ruling}:Fact}) 0 a).bind λk=>(iter (F_ex n a b2 j k) n ([],({({Uk with Ruling:={Ur with Kind:=a.Ruling.Kind:Ruling}:Fact})with Kind:=a.Kind:Fact}),0,0):Option (Ctl ((List Int)×Fact×Int) ((List Int)×Bool))).bind λl=>match l with|.cont d=>(((bif (a.Kind != 10)then some ({d.2.1 with Ruling:={d.2.1.Ruling with Kind:=0:Ruling}:Fact})else some d.2.1):Option Fact).bind λg=>some (d.1,(({g with Appeal:={Case:=g.Appeal.Case,Suspends:=(d.2.2==1):Appeal}:Fact})==a)))|.done d=>some d)|.done f=>some f
theorem k_cd(n:Nat)(F:Fact):Kq (F_cd n F) 67 [.agg (Fact.c F)] [] (λr=>.tup [.osl 0 0 r.1.length 1,.bool r.2]) (λr=>[.row 3 1 (map (Qe .i64) r.1)]):=by
 refine Kg 21 func67 Z Z Z Z λr h=>Bd h λb2 M h=>?_;refine Ct b2 [0,1] [1,2,4] Ze (λb2=>[(1,.cells 3 [I b2])]) Zf ?_ (λenv H B=>?_)
 .refine G0 0 Z (Cn Z M (λan M=>?_) (λan M=>?_))
  .exact Gc 3 Z (Cl M [0,1])
  exact Gc 1 Z (Cl M [0,1])
 refine Gx 1 Z (Qb B (Gc 7 Z (Bd h λao a h=>?_)));refine Ct3E (b:=ao) (λy=>[(1,.ptr 0 0),(2,.nils),(5,.ptr 1 0),(6,.ptr 2 0)]) (λy=>[.cells 68 (Fact.c F),.cells 68 (Fact.c F),.cells 220 [.osl 3 0 y.length 3,.any],.ents 230 1 4 y,.cells 3 [I b2]]) ?_ (λy env H hb B=>?_)
 .refine Gc 1 Z (Bd a λaq aa a=>?_);refine Q2 [2,1] (OpC.fn call139 Z Z Z) (k_bg _ _ _ _ aa) ?_;intro ra rH w;rcases aq with bm|bn|bo|bp|bq|br|bs|bt|bu|bv|bw|bx|bz|ca
  .obtain⟨rfl,rfl⟩:=w;refine FE Z (TE 3 2 1 Z Z (FE Z (Go 15 Z (Cz [] a (k_e _) Z λcb ax a=>Go 6 Z ?_))));cases a;refine Qq Z ?_;refine Em (Q9 (i:=5) (m:=1) Z) ?_;exact Lr [0,2,5,3,1]
  .obtain⟨rfl,rfl⟩:=w;refine FE Z (TE 3 2 1 Z Z (FE Z (Go 15 Z (Cz [] a (k_e _) Z λcc ay a=>Go 6 Z ?_))));cases a;refine Qq Z ?_;refine Em (Q9 (i:=5) (m:=1) Z) ?_;exact Lr [0,2,5,3,1]
  .obtain⟨rfl,rfl⟩:=w;refine FE Z (TE 3 2 1 Z Z (FE Z (Go 15 Z (Cz [] a (k_e _) Z λcd az a=>Go 6 Z ?_))));cases a;refine Qq Z ?_;refine Em (Q9 (i:=5) (m:=1) Z) ?_;exact Lr [0,2,5,3,1]
  .obtain⟨rfl,rfl⟩:=w;refine FE Z (TE 3 2 1 Z Z (FE Z (Go 15 Z (Cz [4,2] a (k_ka _ _) Z λce ba a=>Go 4 Z (Cn Z a (λab a=>?_) (λab a=>?_))))))
   .refine Gc 7 Z ?_;cases a;refine Qs (Gx 1 Z ?_);obtain rfl:=Oi h;refine R2 2 3 Z Z ?_;refine Em (Eo (s:=2) (k:=1) (t:=3) (XP Z) Z) ?_;exact Lr [7]
   refine Gc 1 Z ?_;cases a;refine Qq Z ?_;refine Em (Q9 (i:=6) (m:=1) Z) ?_;exact Lr [0,2,6,3,1]
  .obtain⟨rfl,rfl⟩:=w;refine FE Z (TE 3 2 1 Z Z (FE Z (Go 15 Z (Cz [4,2] a (k_hu _ _) Z λcf bb a=>Go 4 Z (Cn Z a (λac a=>?_) (λac a=>?_))))))
   .refine Gc 7 Z ?_;cases a;refine Qs (Gx 1 Z ?_);obtain rfl:=Oi h;refine R2 2 3 Z Z ?_;refine Em (Eo (s:=2) (k:=1) (t:=3) (XP Z) Z) ?_;exact Lr [7]
   refine Gc 1 Z ?_;cases a;refine Qq Z ?_;refine Em (Q9 (i:=6) (m:=1) Z) ?_;exact Lr [0,2,6,3,1]
  .obtain⟨rfl,rfl⟩:=w;refine FE Z (TE 3 2 1 Z Z (FE Z (Go 15 Z (Cz [4,2] a (k_ju _ _) Z λcg bc a=>Go 4 Z (Cn Z a (λae a=>?_) (λae a=>?_))))))
   .refine Gc 7 Z ?_;cases a;refine Qs (Gx 1 Z ?_);obtain rfl:=Oi h;refine R2 2 3 Z Z ?_;refine Em (Eo (s:=2) (k:=1) (t:=3) (XP Z) Z) ?_;exact Lr [7]
   refine Gc 1 Z ?_;cases a;refine Qq Z ?_;refine Em (Q9 (i:=6) (m:=1) Z) ?_;exact Lr [0,2,6,3,1]
  .obtain⟨rfl,rfl⟩:=w;refine FE Z (TE 3 2 1 Z Z (FE Z (Go 15 Z (Cz [4,2] a (k_ie _ _) Z λch bd a=>Go 4 Z (Cn Z a (λaf a=>?_) (λaf a=>?_))))))
   .refine Gc 7 Z ?_;cases a;refine Qs (Gx 1 Z ?_);obtain rfl:=Oi h;refine R2 2 3 Z Z ?_;refine Em (Eo (s:=2) (k:=1) (t:=3) (XP Z) Z) ?_;exact Lr [7]
   refine Gc 1 Z ?_;cases a;refine Qq Z ?_;refine Em (Q9 (i:=6) (m:=1) Z) ?_;exact Lr [0,2,6,3,1]
  .obtain⟨rfl,rfl⟩:=w;refine FE Z (TE 3 2 1 Z Z (FE Z (Go 15 Z (Cz [] a (k_e _) Z λci be a=>Go 6 Z ?_))));cases a;refine Qq Z ?_;refine Em (Q9 (i:=5) (m:=1) Z) ?_;exact Lr [0,2,5,3,1]
  .obtain⟨rfl,rfl⟩:=w;refine FE Z (TE 3 2 1 Z Z (FE Z (Go 15 Z (Cz [] a (k_e _) Z λcj bf a=>Go 6 Z ?_))));cases a;refine Qq Z ?_;refine Em (Q9 (i:=5) (m:=1) Z) ?_;exact Lr [0,2,5,3,1]
  .obtain⟨rfl,rfl⟩:=w;refine FE Z (TE 3 2 1 Z Z (FE Z (Go 15 Z (Cz [] a (k_e _) Z λck bg a=>Go 6 Z ?_))));cases a;refine Qq Z ?_;refine Em (Q9 (i:=5) (m:=1) Z) ?_;exact Lr [0,2,5,3,1]
  .obtain⟨rfl,rfl⟩:=w;refine FE Z (TE 3 2 1 Z Z (FE Z (Go 15 Z (Cz [] a (k_e _) Z λcl bh a=>Go 6 Z ?_))));cases a;refine Qq Z ?_;refine Em (Q9 (i:=5) (m:=1) Z) ?_;exact Lr [0,2,5,3,1]
  .obtain⟨rfl,rfl⟩:=w;refine FE Z (Go 15 Z (Cz [] a (k_e _) Z λcm bi a=>Go 6 Z ?_));cases a;refine Qq Z ?_;refine Em (Q9 (i:=4) (m:=1) Z) ?_;refine Em (Le.phantomE (i:=4) (m:=0) (t:=230) (b1:=2) (b2:=1) Z Z Z) ?_;exact Lr [0,2,4,5,1]
  .obtain⟨rfl,rfl⟩:=w;refine FE Z (TE 3 2 1 Z Z (FE Z (Go 15 Z (Cz [] a (k_e _) Z λcn bj a=>Go 6 Z ?_))));cases a;refine Qq Z ?_;refine Em (Q9 (i:=5) (m:=1) Z) ?_;exact Lr [0,2,5,3,1]
  .obtain⟨rfl,rfl⟩:=w;refine FE Z (Go 28 Z ?_);cases a;refine Qs (Gx 1 Z ?_);obtain rfl:=Oi h;refine R2 2 3 Z Z ?_;refine Em (Eo (s:=2) (k:=1) (t:=3) (XP Z) Z) ?_;exact Lr [5]
 subst hb;refine Gx 1 Z (Qb B (Gc 12 Z (DAs 3 0 [1,3,3] (by kernel_rfl) ?_)));obtain⟨co,ag,h⟩:=YU h;refine DA.op (x:=.osl 6 0 4 3) (H1:=[.cells 68 (Fact.c F),.cells 68 (Fact.c F),.cells 220 [.osl 3 0 y.length 3,.any],.ents 230 1 4 y,.cells 3 [I b2],.cells 68 (Fact.c Uk),.rowr 230 3 [[.ptr 1 3,I 1,I 13],[.ptr 1 0,I 0,I 31],[.ptr 1 1,I 1,I 1048576],[.ptr 1 2,I 0,I 1099511627776]]]) ?_ ?_
 .refine Q2 [1] (OpC.fn call141 Z Z Z) (k_bm _ _ _ ag) ?_;rintro _ _ ⟨rfl,rfl⟩;exact FE Z Wp
 refine Db 1 Z ?_;refine DB.wo2 (x:=.osl 3 0 y.length 3) (Ld isAgg218 Z Wp) (Ld isAgg218 Z Wp) ?_;refine DB.done Z (TE 6 1 4 Z Z (FE Z (Bd h λar ah h=>?_)));refine vH (QhG (i:=6) (j:=3) ah JP E9 Z) ?_;refine FE Z (Go 22 Z (Cd [5,8,0] h (k_dh _ _ _ _) Z λau bk h=>FE Z (Go 11 Z (Bd h λav ai h=>?_))));refine Jw (b:=av) [0,1,2,3] [1] (λg=>[(2,.osl 1 0 g.1.length 1),(7,.ptr 2 0),(10,.ptr 3 0)]) (λg=>[(1,.row 3 1 (map (Qe .i64) g.1)),(2,.cells 68 (Fact.c g.2.1)),(3,.cells 3 [I g.2.2])]) Zf ?_ (λg env H aw B=>?_)
 .refine G0 1 Z ?_;refine Lp [0,0,5,8,9,7,1,4] [1,7,10,11,42,43] (λl=>[(2,.osl 1 0 l.1.length 1),(44,I l.2.2.2)]) (λl=>[(1,.row 3 1 (map (Qe .i64) l.1)),(2,.cells 68 (Fact.c l.2.1)),(3,.cells 3 [I l.2.2.1]),(4,.ents 230 2 3 au),(5,.ents 230 6 7 ar)]) ai Zf ?_ ?_
  .refine Em (Eo (s:=2) (k:=1) (t:=3) (XP Z) Z) ?_;exact Lr [0,10,5,8,9,7,1,4]
  intro l bl d G;refine G0 6 Z (Yh Z d (λO d=>?_) (λO d=>?_))
  .refine Gc 2 Z (Qh d ?_);obtain rfl:=Oj G d;exact Gx 1 Z (Qq Z (Lr [0,1,2,3]))
  refine Gc 7 Z (Bd d λz he106 d=>?_);refine vX (.ptr 5 (toNat l.2.2.2*3)) (Qu he106 Z E9 GF) ?_;refine vX (.agg [Qiq 6 7 z,I z.lo,I z.hi]) (Qo Z isAgg230 GF Z (Pts.ents (f:=0) (Qac he106).2) Z Z) ?_;refine Go 7 Z (DSs 16 Z (D 2 Z ?_));refine DS.wo (x:=Qiq 6 7 z) ?_ ?_
  .exact S Z Wp
  obtain⟨aj,P,d⟩:=YU d;refine DS.v (x:=(I aj)) (Qcy P EE) ?_;refine D 5 Z (QbS 8 d Z Z Z (λQ d=>?_) (λQ d=>?_))
  .refine D 7 Z (Eg Z (Go 15 Z (Qv d ?_)));obtain rfl:=Oj G d;refine Gx 1 Z (Qs (Gx 1 Z ?_));obtain rfl:=Oi h;refine R2 2 3 Z Z ?_;refine Em (Eo (s:=2) (k:=1) (t:=3) (XP Z) Z) ?_;exact Lr [9]
  .refine D 2 Z ?_;refine DS.wo (x:=Qiq 6 7 z) ?_ ?_
   .exact Sg (gT Z) Z Wp
   obtain⟨ak,R,d⟩:=YU d;refine DS.v (x:=(I ak)) (Qcy R EE) ?_ (hg:=(gT Z));refine D 3 Z (Eg Z (Go 4 Z (Cn Z d (λT d=>?_) (λT d=>?_))))
   .refine Gc 10 Z (Qv d ?_);obtain rfl:=Oj G d;refine Gx 1 Z (Qs (Gx 1 Z ?_));obtain rfl:=Oi h;refine R2 2 3 Z Z ?_;refine Em (Eo (s:=2) (k:=1) (t:=3) (XP Z) Z) ?_;exact Lr [9]
   refine Gc 3 Z (DSs 9 Z (D 2 Z ?_));obtain⟨al,he111,d⟩:=YU d;refine DS.v (x:=(.ptr 4 (toNat l.2.2.2*3))) (Qu he111 Z E9 GF) ?_;refine DS.wo (x:=.ptr 4 (toNat l.2.2.2*3)) ?_ ?_
   .exact Fp Qom Z Wp
   refine DS.v (x:=(Qiq 2 3 al)) (Ey Z isAgg224 Z (Pts.ents (f:=0) (Qac he111).2)) ?_;refine D 2 Z ?_;refine DS.wo (x:=Qiq 6 7 z) ?_ ?_
   .exact S Z Wp
   obtain⟨am,V,d⟩:=YU d;refine DS.v (x:=(I am)) (Qcy V EE) ?_;refine Eg Z (S Z (Bd d λJ hq113 d=>?_));refine vU (Qlp (c:=Fact.c) (f:=l.2.1) (f':=J.1) (s':=J.2) hq113 Qqw EG) ?_;refine Qee (H:=[_,_,.cells 68 (Fact.c J.1),.cells 3 [I J.2],_,_,_,_,_]) Z ?_;refine Go 6 Z (S Z (Bd d λL W d=>?_));refine vX (I L) (Qcy W EE) ?_;refine vH (Ej (xs:=[.tmp 81]) (es:=map (Qe .i64) [L]) QA Z Z Z Z Z ⟨Z,trivial⟩ Z Z) ?_;refine aV (.osl 9 0 ([L].length) 1) [_,_,_,_,_,_,_,_,_,.row 3 1 (map (Qe .i64) [L])] Z Z ?_;refine Bd d λN X d=>?_;refine vH (Qk (e:=(Qe .i64)) X QA EC (QQ (i:=9))) ?_;refine aV (.osl 10 0 N.length 1) [_,.dead,_,_,_,_,_,_,_,_,.row 3 1 (map (Qe .i64) N)] Z Z ?_;exact Go 8 Z (Qf d (Lr [0,10,2,3,4,5,6,7]))
 subst aw;refine Gx 1 Z (Qb B (Gc 8 Z (Bd h λu E h=>?_)));refine Ct u [0,1,2,3] [1,2,7,10] Ze (λu=>[(2,.cells 68 (Fact.c u))]) Zf ?_ (λenv H B=>?_)
 .refine G0 0 Z (Cn Z E (λY E=>?_) (λY E=>?_))
  .exact Gc 5 Z (Cl E [0,1,2,3])
  exact Gc 1 Z (Cl E [0,1,2,3])
 refine Gx 1 Z (Qb B (Gc 10 Z ?_));refine TC.draw0 5 [94,95,96,97,2] [.osl 1 0 g.1.length 1,.agg (Fact.c ({u with Appeal:={Case:=u.Appeal.Case,Suspends:=(g.2.2==1):Appeal}:Fact})),.agg (Fact.c F),.bool (({u with Appeal:={Case:=u.Appeal.Case,Suspends:=(g.2.2==1):Appeal}:Fact})==F),.osl 1 0 g.1.length 1] draws Z Z Z ?_ ?_
 .refine Oq.c ?_ (ov (ov (Oq.c ?_ (ov (Oq.n)))))
  .refine Om Z (sP 4 sN) ?_;exact S Z Wp
  .refine Om Z (sD 1 (sD 2 sN)) ?_;refine vX (.bool (({u with Appeal:={Case:=u.Appeal.Case,Suspends:=(g.2.2==1):Appeal}:Fact})==F)) (QhF (p:={u with Appeal:={Case:=u.Appeal.Case,Suspends:=(g.2.2==1):Appeal}:Fact}) (q:=F) Qk7 Z Z) ?_;exact Wp
 refine Go 4 Z ?_;obtain rfl:=Oi h;exact R2 2 3 Z Z (Lr [1])
def F_ar(n:Nat)(a:Fact):Option Int:=(F_cd n a).bind λd=>(bif (!d.2)then some 120 else some 0)
theorem k_ar(n:Nat)(a:Fact):Ks (F_ar n a) 33 [.agg (Fact.c a)] [] (λr=>I r):=by
 refine Kg 10 func33 Z Z Z Z λr h=>Cd [] h (k_cd _ _) Z λf e h=>FE Z (Go 13 Z (Cn Z h (λd h=>?_) (λd h=>?_)))
 .exact Gc 7 Z (Rt h 2 [])
 exact Gc 8 Z (Rt h 2 [])
def F_bt(n:Nat)(a:List Fact):Option (List Fact):=isNil a (some []) ((app ([]:List Fact) a).bind λd=>some d)
theorem k_bt(n:Nat)(a:List Fact):Kq (F_bt n a) 35 [.rsl 57 (map Fact.c a)] [] (λr=>.osl 0 0 r.length 57) (λr=>[.row 68 57 (map Fact.c r)]):=by
 refine Kg 9 func35 Z Z Z Z λr h=>?_;refine Qj3 (e:=Fact.c) (l:=a) GK Z (λb1 d=>?_);have hkb1:=Qjn h b1 d;cases b1
 .have h:=hkb1.2 Z;refine Go 7 Z ?_;refine vH (Ej (xs:=[]) (es:=map Fact.c []) Y0 Z Z Z Z Z trivial Z Z) ?_;refine FE Z (Go 1 Z (Bd h λg f h=>?_));refine vH (Qk (e:=Fact.c) f Y0 EA Js) ?_;exact FE Z (Go 4 Z (Rt h 2 [1]))
 .have h:=hkb1.1 Z;refine Go 10 Z ?_;obtain rfl:=Oi h;refine R1 2 Z ?_;refine Em (Eo (s:=2) (k:=57) (t:=68) (XP Z) Z) ?_;exact Lr [0]
def F_ca(n:Nat)(a:Int):Option Unit:=some ()
theorem k_ca(n:Nat)(a:Int):Ks (F_ca n a) 185 [I a] [] (λ_=>.bool (a != a)):=by
 exact Kg 14 func185 Z Z Z Z λr h=>Rt h 2 []
def F_ao(n:Nat)(d:Int)(a:Int):Option Int:=(F_ca n d).bind λe=>(F_ca n a).bind λf=>(bif (d != d)then(bif (a != a)then some 0 else some (-1))else(bif (a != a)then some 1 else(bif decide (d<a)then some (-1)else(bif decide (a<d)then some 1 else some 0))))
theorem k_ao(n:Nat)(a:Int)(d:Int):Ks (F_ao n a d) 122 [I a,I d] [] (λr=>I r):=by
 refine Kg 8 func122 Z Z Z Z λr h=>Cz [] h (k_ca _ _) Z λm k h=>Go 6 Z (Cz [] h (k_ca _ _) Z λp l h=>Go 9 Z (Cn Z h (λe h=>?_) (λe h=>?_)))
 .refine Gc 6 Z (Cn Z h (λf h=>?_) (λf h=>?_))
  .exact Gc 8 Z (Rt h 4 [])
  exact Gc 9 Z (Rt h 4 [])
 refine Gc 8 Z (Cn Z h (λg h=>?_) (λg h=>?_))
 .exact Gc 7 Z (Rt h 4 [])
 refine Gc 10 Z (Cn Z h (λi h=>?_) (λi h=>?_))
 .exact Gc 7 Z (Rt h 4 [])
 refine Gc 10 Z (Cn Z h (λj h=>?_) (λj h=>?_))
 .exact Gc 7 Z (Rt h 4 [])
 exact Gc 8 Z (Rt h 4 [])
def F_fl(n:Nat)(e:List Int)(a:Int):Option (Ctl Int (Ctl Unit Int)):=(bif decide (a<(e.length:Int))then(idx e a).bind λd=>(bif (d != 0)then some (.done (.done d))else some (.cont (i64.wrap (a+1))))else some (.done (.cont ())))
def F_gj(n:Nat)(d:List Int):Option Int:=(iter (F_fl n d) n 0:Option (Ctl Unit Int)).bind λe=>match e with|.cont a=>(some 0)|.done a=>some a
theorem k_gj(n:Nat)(j:List Int):Ks (F_gj n j) 121 [.rsl 1 (map (Qe .i64) j)] [] (λr=>I r):=by
 refine Kg 14 func121 Z Z Z Z λr h=>Lm Z (Go 3 Z (Bd h λm p h=>?_));refine Jw (b:=m) [] [3] Ze Ze Zf ?_ (λq env H k l=>?_)
 .refine G0 1 Z ?_;refine Lp [] [3,6,7] (λe=>[(8,I e)]) Ze p Zf (Lr []) λe s a d=>?_;refine G0 6 Z (Yh Z a (λf a=>?_) (λf a=>?_))
  .refine Gc 2 Z (Qh a ?_);obtain rfl:=Oj d a;exact Gx 1 Z (Qq Z (Lr []))
  refine Gc 6 Z (Bd a λt g a=>Iz g Z (Go 11 Z (Cn Z a (λi a=>?_) (λi a=>?_))))
  .refine Gc 9 Z (Qv a ?_);obtain rfl:=Oj d a;exact Gx 1 Z (Qs (Gx 1 Z (Rt h 2 [])))
  exact Gc 7 Z (Qf a (Lr []))
 subst k;exact Gx 1 Z (Qb l (Gc 7 Z (Rt h 2 [])))
def F_kk(n:Nat)(e:Value)(rec141:Value->Option (Int×Bool))(a:Int×Int):Option (Ctl (Int×Int) (Ctl Int (Int×Bool))):=(bif decide (a.2<(e.L.length:Int))then(idx e.L a.2).bind λf=>(rec141 f).bind λd=>(bif (!d.2)then some (.done (.done (0,false)))else some (.cont ((if a.1<d.1 then d.1 else a.1),i64.wrap (a.2+1))))else some (.done (.cont a.1)))
def B_p(rec141:Value->Option (Int×Bool))(n:Nat)(a:Value):Option (Int×Bool):=((bif (a.S==[])then(bif (a.N==0)then(arr 4 (List.replicate 4 false)).bind λm=>(arr 4 ([false,((a.L.length:Int)==0),((a.L.length:Int)==0),(a.S==[])]:List Bool)).bind λe=>some e else(arr 4 (List.replicate 4 false)).bind λp=>(arr 4 ([false,((a.L.length:Int)==0),false,false]:List Bool)).bind λf=>some f)else(bif (a.N==0)then(arr 4 (List.replicate 4 false)).bind λq=>(arr 4 ([false,false,((a.L.length:Int)==0),(a.S==[])]:List Bool)).bind λg=>some g else(arr 4 (List.replicate 4 false)).bind λr=>(arr 4 ([false,false,false,false]:List Bool)).bind λh=>some h)):Option (List Bool)).bind λi=>((bif decide (a.Kind<1)then some true else(bif decide (3<a.Kind)then some true else(QeV 4 i a.Kind).bind λj=>some (!j))):Option Bool).bind λk=>(bif k then some (0,false)else(bif decide (a.Kind<3)then some (0,true)else(iter (F_kk n a rec141) n (0,0):Option (Ctl Int (Int×Bool))).bind λl=>match l with|.cont d=>(some (i64.wrap (d+1),true))|.done d=>some d))
theorem Qd4(rec141:Value->Option (Int×Bool))(s:∀(j:Value) (r:Int×Bool),rec141 j=some r->Csm prog 256 [.agg (Value.c j)] [] (λr=>.tup [I r.1,.bool r.2]) r)(n:Nat)(j:Value)(r:Int×Bool)(h:B_p rec141 n j=some r):Csm prog 256 [.agg (Value.c j)] [] (λr=>.tup [I r.1,.bool r.2]) r:=by
 refine QG func256 Z Z Z ?_;refine G0 8 Z (Bd h λq a h=>?_);refine Ct q [0,0] [1,2] (λ_=>[(4,.ptr 1 0)]) (λq=>[(1,.row 349 1 (map Qbd q))]) Zf ?_ (λenv H m=>?_)
 .refine G0 5 Z (Is 12 a Z (λQ a=>?_) (λQ a=>?_))
  .refine Go 2 Z (Lm Z (Go 6 Z (Is 21 a Z (λf a=>?_) (λf a=>?_))))
   .refine Go 2 Z (Lm Z (Go 6 Z (Fpg (gT f) Qjz Z (Ldg (gT f) isAgg9 Z ?_))));refine vX (.bool (j.S==[])) (Qel Z Z Z) ?_ (gT f);refine Pk f Z ?_;refine vV (x:=(.agg (List.flatten (map Qbd ([false,((j.L.length:Int)==0),((j.L.length:Int)==0),(j.S==[])]:List Bool))))) (J5 (n:=4) (k:=1) (zs:=[.bool false,.bool false,.bool false,.bool false]) E4 (ZR.agg (zc ZR.bool (zc ZR.bool (zc ZR.bool (zc ZR.bool ZL.nil))))) Ge Gi Z) ?_;refine vH (JD (n:=4) (k:=1) (e:=Qbd) (z:=false) E4 (by kernel_rfl) (by kernel_rfl) (by kernel_rfl) Z) ?_;refine FE Z (Bd a λar R a=>Bd a λag t a=>?_);obtain⟨J,rfl⟩:=JR R;refine vU (JC (e:=Qbd) (l:=(List.replicate 4 false)) (l':=ag) J (QbJ t) Zf Z GL Zf Zf (congrArg (λl=>List.flatten (map Qbd l)) (JR t).2.symm)) ?_;exact FE Z (Go 1 Z (Cl a [0,1]))
   .refine Go 9 Z (KF f Z (KF f Z (KF f Z (Pk f Z ?_))));refine vV (x:=(.agg (List.flatten (map Qbd ([false,((j.L.length:Int)==0),false,false]:List Bool))))) (J5 (n:=4) (k:=1) (zs:=[.bool false,.bool false,.bool false,.bool false]) E4 (ZR.agg (zc ZR.bool (zc ZR.bool (zc ZR.bool (zc ZR.bool ZL.nil))))) Ge Gi Z) ?_;refine vH (JD (n:=4) (k:=1) (e:=Qbd) (z:=false) E4 (by kernel_rfl) (by kernel_rfl) (by kernel_rfl) Z) ?_;refine FE Z (Bd a λau T a=>Bd a λah u a=>?_);obtain⟨M,rfl⟩:=JR T;refine vU (JC (e:=Qbd) (l:=(List.replicate 4 false)) (l':=ah) M (QbJ u) Zf Z GL Zf Zf (congrArg (λl=>List.flatten (map Qbd l)) (JR u).2.symm)) ?_;exact FE Z (Go 1 Z (Cl a [0,1]))
  .refine Go 9 Z (Is 21 a Z (λg a=>?_) (λg a=>?_))
   .refine Go 2 Z (Lm Z (Go 6 Z (Fpg (gT g) Qjz Z (Ldg (gT g) isAgg9 Z ?_))));refine vX (.bool (j.S==[])) (Qel Z Z Z) ?_ (gT g);refine Pk g Z ?_;refine vV (x:=(.agg (List.flatten (map Qbd ([false,false,((j.L.length:Int)==0),(j.S==[])]:List Bool))))) (J5 (n:=4) (k:=1) (zs:=[.bool false,.bool false,.bool false,.bool false]) E4 (ZR.agg (zc ZR.bool (zc ZR.bool (zc ZR.bool (zc ZR.bool ZL.nil))))) Ge Gi Z) ?_;refine vH (JD (n:=4) (k:=1) (e:=Qbd) (z:=false) E4 (by kernel_rfl) (by kernel_rfl) (by kernel_rfl) Z) ?_;refine FE Z (Bd a λav V a=>Bd a λai w a=>?_);obtain⟨N,rfl⟩:=JR V;refine vU (JC (e:=Qbd) (l:=(List.replicate 4 false)) (l':=ai) N (QbJ w) Zf Z GL Zf Zf (congrArg (λl=>List.flatten (map Qbd l)) (JR w).2.symm)) ?_;exact FE Z (Go 1 Z (Cl a [0,1]))
   .refine Go 9 Z (KF g Z (KF g Z (KF g Z (Pk g Z ?_))));refine vX (.agg (List.flatten (map Qbd ([false,false,false,false]:List Bool)))) (J5 (n:=4) (k:=1) (zs:=[.bool false,.bool false,.bool false,.bool false]) E4 (ZR.agg (zc ZR.bool (zc ZR.bool (zc ZR.bool (zc ZR.bool ZL.nil))))) Ge Gi Z) ?_;refine vH (JD (n:=4) (k:=1) (e:=Qbd) (z:=false) E4 (by kernel_rfl) (by kernel_rfl) (by kernel_rfl) Z) ?_;refine FE Z (Bd a λaw W a=>Bd a λaj y a=>?_);obtain⟨O,rfl⟩:=JR W;refine vU (JC (e:=Qbd) (l:=(List.replicate 4 false)) (l':=aj) O (QbJ y) Zf Z GL Zf Zf (congrArg (λl=>List.flatten (map Qbd l)) (JR y).2.symm)) ?_;exact FE Z (Go 1 Z (Cl a [0,1]))
 refine Gx 1 Z (Qb m (Gc 2 Z (Bd h λB i h=>?_)));refine Ct B [0] [1,2] (λB=>[(50,.bool B)]) Ze Zf ?_ (λenv H m=>?_)
 .refine G0 5 Z (Is 39 i Z (λX i=>?_) (λX i=>?_))
  .exact Go 12 Z (Cl i [0])
  .refine Go 5 Z (Is 44 i Z (λY i=>?_) (λY i=>?_))
   .exact Go 7 Z (Cl i [0])
   .refine Go 2 Z (Bd i λak E i=>?_);refine vX (.ptr 1 (toNat j.Kind*1)) (Qaf (n:=4) (k:=1) (l:=q) E Ge Gi Z) ?_ (gT Z);refine vX (.bool ak) (Ey Z GG Z (Qn (QaY E).2)) ?_ (gT Z);exact Go 3 Z (Cl i [0])
 refine Gx 1 Z (Qb m (Cn Z h (λaa h=>?_) (λaa h=>?_)))
 .refine Gc 8 Z ?_;obtain rfl:=Oi h;exact R2 2 3 Z Z (Lr [])
 refine Gc 10 Z (Cn Z h (λab h=>?_) (λab h=>?_))
 .refine Gc 8 Z ?_;obtain rfl:=Oi h;exact R2 2 3 Z Z (Lr [])
 refine Gc 7 Z (Lm Z (Go 3 Z (Bd h λal am h=>?_)));refine Jw (b:=al) [] [] (λF=>[(2,I F)]) Ze Zf ?_ (λF env H an m=>?_)
 .refine G0 1 Z ?_;refine Lp [] [55,56] (λp=>[(2,I p.1),(57,I p.2)]) Ze am Zf (Lr []) λp ax d G=>?_;refine G0 6 Z (Yh Z d (λac d=>?_) (λac d=>?_))
  .refine Gc 2 Z (Qh d ?_);obtain rfl:=Oj G d;exact Gx 1 Z (Qq Z (Lr []))
  refine Gc 6 Z (Bd d λao ae d=>IzE ae (Ja ao) Z (Go 8 Z (Cd [] d (s _) Z λP aq d=>FE Z (Go 14 Z (Cn Z d (λaf d=>?_) (λaf d=>?_))))))
  .refine Gc 10 Z (Qv d ?_);obtain rfl:=Oj G d;refine Gx 1 Z (Qs (Gx 1 Z ?_));obtain rfl:=Oi h;exact R2 2 3 Z Z (Lr [])
  refine Gc 5 Z ?_;refine vX (I (if p.1<P.1 then P.1 else p.1)) (OpV.max Z Z Z Z) ?_;exact Go 8 Z (Qf d (Lr []))
 subst an;refine Gx 1 Z (Qb m (Gc 9 Z ?_));obtain rfl:=Oi h;exact R2 2 3 Z Z (Lr [])
def F_p:Nat->Value->Option (Int×Bool)
  |0=>λ_=>none
  |n+1=>B_p (F_p n) n
theorem k_p(n:Nat):∀(a:Value) (r:Int×Bool),F_p n a=some r->Csm prog 256 [.agg (Value.c a)] [] (λr=>.tup [I r.1,.bool r.2]) r:=by
  induction n with
  |zero=>intro a r h;cases h
  |succ n ih=>intro a r h;exact Qd4 _ ih n a r h
def F_kc(n:Nat)(d:Value):Option Int:=(F_p n d).bind λa=>(bif (!a.2)then some 1 else(bif decide (16<a.1)then some 2 else some 0))
theorem k_kc(n:Nat)(a:Value):Ks (F_kc n a) 232 [.agg (Value.c a)] [] (λr=>I r):=by
 refine Kg 9 func232 Z Z Z Z λr h=>Cd [] h (k_p _ _) Z λg f h=>FE Z (Go 16 Z (Cn Z h (λd h=>?_) (λd h=>?_)))
 .exact Gc 8 Z (Rt h 2 [])
 refine Gc 7 Z (Cn Z h (λe h=>?_) (λe h=>?_))
 .exact Gc 8 Z (Rt h 2 [])
 exact Gc 9 Z (Rt h 2 [])
def F_io(n:Nat):Option Unit:=some ()
theorem k_io(n:Nat):Kq (F_io n) 233 [] [] (λ_=>.ptr 0 0) (λ_=>[.cells 333 [.nilf,.fn (.func 257) [] [],.fn (.func 260) [] [],.fn (.func 261) [] [.ptr 1 0]],.cells 313 [.ptr 0 0]]):=by
 refine Kg 2 func233 Z Z Z Z λr h=>S Z (Go 4 Z ?_);refine vX (.agg [.nilf,.nilf,.nilf,.nilf]) (J5 (n:=4) (k:=1) (parts:=[]) (zs:=[.nilf,.nilf,.nilf,.nilf]) zeroValue333 (ZR.agg (zc ZR.nilf (zc ZR.nilf (zc ZR.nilf (zc ZR.nilf ZL.nil))))) EN E6 Z) ?_;refine Go 9 Z ?_;refine vX (.ptr 0 1) (Yg (i:=1) (n:=4) (k:=1) (j:=1) (by decide) Z EN E6 Z) ?_;refine Go 8 Z ?_;refine vX (.ptr 0 2) (Yg (i:=2) (n:=4) (k:=1) (j:=2) (by decide) Z EN E6 Z) ?_;refine Go 9 Z ?_;refine vX (.ptr 0 3) (Yg (i:=3) (n:=4) (k:=1) (j:=3) (by decide) Z EN E6 Z) ?_;exact Go 11 Z (Rt h 0 [0,1])
def F_bu(n:Nat)(a:Int):Option Unit:=some ()
theorem k_bu(n:Nat)(a:Int):Ks (F_bu n a) 259 [I a] [] (λ_=>.int .u64 (QgF .u64 (Qfr .u64 (u64.wrap a) 1) (u64.wrap (QcQ .i64 a 63)))):=by
 refine Kg 8 func259 Z Z Z Z λr h=>?_;refine vX (.int .u64 (u64.wrap a)) (Y6 Z EL EI Z) ?_;refine vX (.int .u64 (Qfr .u64 (u64.wrap a) 1)) (OpV.shl Z Z Z (by decide)) ?_;refine Go 1 Z ?_;refine vX (I (QcQ .i64 a 63)) (OpV.shr Z Z Z (by decide)) ?_;refine vX (.int .u64 (u64.wrap (QcQ .i64 a 63))) (Y6 Z EL EI Z) ?_;refine vX (.int .u64 (QgF .u64 (Qfr .u64 (u64.wrap a) 1) (u64.wrap (QcQ .i64 a 63)))) (OpV.xor Z Z Z) ?_;exact Go 4 Z (Rt h 2 [])
def F_gk(n:Nat)(a:(List Int)×Int):Option (Ctl ((List Int)×Int) ((List Int)×Int)):=(bif decide (128<=a.2)then(app a.1 [orI .u8 (u8.wrap a.2) 128]).bind λd=>some (.cont (d,QcQ .u64 a.2 7))else some (.done (a.1,a.2)))
def F_at(n:Nat)(e:List Int)(f:Int):Option (List Int):=(iter (F_gk n) n (e,f):Option ((List Int)×Int)).bind λa=>(app a.1 [u8.wrap a.2]).bind λd=>some d
theorem k_at(n:Nat)(g:List Int)(m:Int):Kq (F_at n g m) 258 [.osl 0 0 g.length 1,.int .u64 m] [.row 5 1 (map (Qe .u8) g)] (λr=>.osl 1 0 r.length 1) (λr=>[.dead,.row 5 1 (map (Qe .u8) r)]):=by
 refine Kg 6 func258 Z Z Z Z λr h=>Bd h λf t h=>?_;refine Ct f [0,0] [] (λf=>[(0,.osl 1 0 f.1.length 1),(1,.int .u64 f.2)]) (λf=>[(0,.dead),(1,.row 5 1 (map (Qe .u8) f.1))]) Zf ?_ (λenv H p=>?_)
 .refine G0 1 Z ?_;refine Lp [0,0] [] (λd=>[(0,.osl 1 0 d.1.length 1),(1,.int .u64 d.2)]) (λd=>[(0,.dead),(1,.row 5 1 (map (Qe .u8) d.1))]) t Zf ?_ ?_
  .refine Em (Qno (s:=0) (i:=0) Z Z Z) ?_;exact Lr [0,1]
  intro d u a q;refine G0 7 Z (Yh Z a (λj a=>?_) (λj a=>?_))
  .refine Gc 2 Z (Qh a ?_);obtain rfl:=Oj q a;exact Gx 1 Z (QC (Lr [0,1]))
  refine Gc 7 Z ?_;refine vX (.int .u8 (u8.wrap d.2)) (Y6 Z EI EZ Z) ?_;refine vX (.int .u8 (orI .u8 (u8.wrap d.2) 128)) (OpV.or Z Z Z) ?_;refine vH (Ej (xs:=[.tmp 12]) (es:=map (Qe .u8) [orI .u8 (u8.wrap d.2) 128]) YW Z Z Z Z Z ⟨Z,trivial⟩ Z Z) ?_;refine FE Z (Bd a λw k a=>?_);refine vH (Qk (e:=(Qe .u8)) k YW EH (QQ (i:=2))) ?_;refine FE Z (Go 6 Z ?_);refine vX (.int .u64 (QcQ .u64 d.2 7)) (OpV.shr Z Z Z (by decide)) ?_;exact Go 2 Z (Qf a (Lr [0,3]))
 refine Gx 1 Z (Qb p (Gc 4 Z ?_));refine vX (.int .u8 (u8.wrap f.2)) (Y6 Z EI EZ Z) ?_;refine vH (Ej (xs:=[.tmp 17]) (es:=map (Qe .u8) [u8.wrap f.2]) YW Z Z Z Z Z ⟨Z,trivial⟩ Z Z) ?_;refine FE Z (Bd h λx l h=>?_);refine vH (Qk (e:=(Qe .u8)) l YW EH (QQ (i:=2))) ?_;exact FE Z (Go 4 Z (Rt h 4 [0,3]))
def F_je(n:Nat)(a:Value):Option (List Int):=(app [] [1]).bind λd=>(F_bu n a.N).bind λf=>(F_at n d (QgF .u64 (Qfr .u64 (u64.wrap a.N) 1) (u64.wrap (QcQ .i64 a.N 63)))).bind λe=>some e
theorem k_je(n:Nat)(a:Value):Kq (F_je n a) 257 [.nils,.agg (Value.c a)] [] (λr=>.osl 0 0 r.length 1) (λr=>[.row 5 1 (map (Qe .u8) r)]):=by
 refine Kg 7 func257 Z Z Z Z λr h=>DAs 5 2 [0,0,1,3,3] (by kernel_rfl) (Da 1 Z ?_);refine DA.wo (x:=.rsl 1 (map (Qe .u8) [1])) ?_ ?_
 .refine vH (Yi (xs:=[.const (.int .u8 1)]) (es:=map (Qe .u8) [1]) YW Z Z Z Z Z ⟨Z,trivial⟩ Z Z) ?_;exact FE Z Wp
 obtain⟨i,d,h⟩:=YU h;refine Qcf (Qkh (e:=(Qe .u8)) d YW EH Js) Z Z (Db 1 Z ?_);refine DB.wo2 (x:=I a.N) (Ld EE Z Wp) (Ld EE Z Wp) ?_;exact DB.done Z (Cz [] h (k_bu _ _) Z λj f h=>Cd [1] h (k_at _ _ _) Z λk g h=>FE Z (Go 4 Z (Rt h 4 [2])))
def F_bh(n:Nat)(d:List Int)(a:Value):Option (List Int):=(app d [1]).bind λe=>(F_bu n a.N).bind λg=>(F_at n e (QgF .u64 (Qfr .u64 (u64.wrap a.N) 1) (u64.wrap (QcQ .i64 a.N 63)))).bind λf=>some f
theorem k_bh(n:Nat)(a:List Int)(d:Value):Kq (F_bh n a d) 257 [.osl 0 0 a.length 1,.agg (Value.c d)] [.row 5 1 (map (Qe .u8) a)] (λr=>.osl 1 0 r.length 1) (λr=>[.dead,.row 5 1 (map (Qe .u8) r)]):=by
 refine Kg 7 func257 Z Z Z Z λr h=>DAs 5 2 [0,0,1,3,3] (by kernel_rfl) (Da 1 Z ?_);refine DA.wo (x:=.rsl 1 (map (Qe .u8) [1])) ?_ ?_
 .refine vH (Yi (xs:=[.const (.int .u8 1)]) (es:=map (Qe .u8) [1]) YW Z Z Z Z Z ⟨Z,trivial⟩ Z Z) ?_;exact FE Z Wp
 obtain⟨j,f,h⟩:=YU h;refine Qcf (Qk (e:=(Qe .u8)) f YW EH Js) Z Z (Db 1 Z ?_);refine DB.wo2 (x:=I d.N) (Ld EE Z Wp) (Ld EE Z Wp) ?_;exact DB.done Z (Cz [] h (k_bu _ _) Z λk g h=>Cd [2] h (k_at _ _ _) Z λl i h=>FE Z (Go 4 Z (Rt h 4 [0,3])))
def F_mw(n:Nat)(e:Value)(rec150:(List Int)->Value->Option (List Int))(a:(List Int)×Int):Option (Ctl ((List Int)×Int) (List Int)):=(bif decide (a.2<(e.L.length:Int))then(idx e.L a.2).bind λd=>(bif (d.Kind==0)then none else(bif (d.Kind==1)then(F_bh n a.1 d).bind λf=>some (.cont (f,i64.wrap (a.2+1)))else(bif (d.Kind==2)then none else(bif (d.Kind==3)then(rec150 a.1 d).bind λg=>some (.cont (g,i64.wrap (a.2+1)))else none))))else some (.done a.1))
def B_bn(rec150:(List Int)->Value->Option (List Int))(n:Nat)(e:List Int)(a:Value):Option (List Int):=(app e [3]).bind λf=>(F_at n f (u64.wrap (a.L.length:Int))).bind λg=>(iter (F_mw n a rec150) n (g,0):Option (List Int)).bind λd=>some d
theorem QaU(rec150:(List Int)->Value->Option (List Int))(m:∀(l:List Int) (d:Value) (r:List Int),rec150 l d=some r->C prog 261 [.osl 0 0 l.length 1,.agg (Value.c d),.ptr 1 0] [.row 5 1 (map (Qe .u8) l),.cells 313 [.ptr 2 0],.cells 333 [.nilf,.fn (.func 257) [] [],.fn (.func 260) [] [],.fn (.func 261) [] [.ptr 1 0]]] (RQ (λr=>.osl 3 0 r.length 1) (λr=>[.dead,.cells 313 [.ptr 2 0],.cells 333 [.nilf,.fn (.func 257) [] [],.fn (.func 260) [] [],.fn (.func 261) [] [.ptr 1 0]],.row 5 1 (map (Qe .u8) r)]) r))(n:Nat)(l:List Int)(d:Value)(r:List Int)(h:B_bn rec150 n l d=some r):C prog 261 [.osl 0 0 l.length 1,.agg (Value.c d),.ptr 1 0] [.row 5 1 (map (Qe .u8) l),.cells 313 [.ptr 2 0],.cells 333 [.nilf,.fn (.func 257) [] [],.fn (.func 260) [] [],.fn (.func 261) [] [.ptr 1 0]]] (RQ (λr=>.osl 3 0 r.length 1) (λr=>[.dead,.cells 313 [.ptr 2 0],.cells 333 [.nilf,.fn (.func 257) [] [],.fn (.func 260) [] [],.fn (.func 261) [] [.ptr 1 0]],.row 5 1 (map (Qe .u8) r)]) r):=by
 refine QG func261 Z Z Z ?_;refine G0 7 Z (DAs 7 2 [0,0,1,3,3,3,3] (by kernel_rfl) (Da 1 Z ?_));refine DA.wo (x:=.rsl 1 (map (Qe .u8) [3])) ?_ ?_
 .refine vH (Yi (xs:=[.const (.int .u8 3)]) (es:=map (Qe .u8) [3]) YW Z Z Z Z Z ⟨Z,trivial⟩ Z Z) ?_;exact FE Z Wp
 obtain⟨Q,B,h⟩:=YU h;refine Qcf (Qk (e:=(Qe .u8)) B YW EH Js) Z Z (Db 1 Z ?_);refine DB.wo2 (x:=.rsl 4 (map Value.enc d.L)) (Ld isAgg258 Z Wp) (Ld isAgg258 Z Wp) ?_;refine DB.wo2 (x:=I (d.L.length:Int)) (LnM EX Z Wp) (LnM EX Z Wp) ?_;refine DB.wo2 (x:=.int .u64 (u64.wrap (d.L.length:Int))) ?_ ?_ ?_
 iterate 2 refine vX (.int .u64 (u64.wrap (d.L.length:Int))) (Y6 Z EL EI Z) ?_;exact Wp
 refine DB.done Z (Cd [4] h (k_at _ _ _) Z λR M h=>FE Z (Go 8 Z (Lm Z (Go 3 Z (Bd h λf E h=>?_)))));refine Ct f [0,1,2,3] [] (λf=>[(0,.osl 3 0 f.length 1)]) (λf=>[(3,.row 5 1 (map (Qe .u8) f))]) Zf ?_ (λenv H F=>?_)
 .refine G0 1 Z ?_;refine Lp [0,1,2,5] [2,17,18] (λg=>[(0,.osl 3 0 g.1.length 1),(19,I g.2)]) (λg=>[(3,.row 5 1 (map (Qe .u8) g.1))]) E Zf (Lr [0,1,2,5]) λg N a t=>?_;refine G0 6 Z (Yh Z a (λu a=>?_) (λu a=>?_))
  .refine Gc 2 Z (Qh a ?_);obtain rfl:=Oj t a;exact Gx 1 Z (QC (Lr [0,1,2,3]))
  refine Gc 6 Z (Bd a λp w a=>IzE w (Ja p) Z (Go 5 Z (DSs 9 Z (D 4 Z (If a (λy a=>?_) (λy a=>?_))))))
  .cases a
  .refine If a (λq a=>?_) (λq a=>?_)
   .refine DS.v (x:=(.ptr 2 1)) (Yg (i:=p.Kind) (n:=4) (k:=1) (j:=1) q Z EN E6 Z) ?_;exact D 4 Z (Eg Z (Cd [3] a (k_bh _ _ _) Z λO G a=>FE Z (Go 8 Z (Qf a (Lr [0,1,2,5])))))
   .refine If a (λz a=>?_) (λz a=>?_)
    .cases a
    .refine If a (λs a=>?_) (λs a=>?_)
     .refine DS.v (x:=(.ptr 2 3)) (Yg (i:=p.Kind) (n:=4) (k:=1) (j:=3) s Z EN E6 Z) ?_;exact D 4 Z (Eg Z (Cd [3,1,2] a (m _ _) Z λP J a=>FE Z (Go 8 Z (Qf a (Lr [0,1,2,5])))))
     .cases a
 exact Gx 1 Z (Qb F (Gc 7 Z (Rt h 5 [0,1,2,3])))
def F_bn:Nat->(List Int)->Value->Option (List Int)
  |0=>λ_ _=>none
  |n+1=>B_bn (F_bn n) n
theorem k_bn(n:Nat):∀(a:List Int) (d:Value) (r:List Int),F_bn n a d=some r->C prog 261 [.osl 0 0 a.length 1,.agg (Value.c d),.ptr 1 0] [.row 5 1 (map (Qe .u8) a),.cells 313 [.ptr 2 0],.cells 333 [.nilf,.fn (.func 257) [] [],.fn (.func 260) [] [],.fn (.func 261) [] [.ptr 1 0]]] (RQ (λr=>.osl 3 0 r.length 1) (λr=>[.dead,.cells 313 [.ptr 2 0],.cells 333 [.nilf,.fn (.func 257) [] [],.fn (.func 260) [] [],.fn (.func 261) [] [.ptr 1 0]],.row 5 1 (map (Qe .u8) r)]) r):=by
  induction n with
  |zero=>intro a d r h;cases h
  |succ n ih=>intro a d r h;exact QaU _ ih n a d r h
def F_ke(n:Nat)(e:Value)(a:(List Int)×Int):Option (Ctl ((List Int)×Int) (List Int)):=(bif decide (a.2<(e.L.length:Int))then(idx e.L a.2).bind λd=>(bif (d.Kind==0)then none else(bif (d.Kind==1)then(F_bh n a.1 d).bind λf=>some (.cont (f,i64.wrap (a.2+1)))else(bif (d.Kind==2)then none else(bif (d.Kind==3)then(F_bn n a.1 d).bind λg=>some (.cont (g,i64.wrap (a.2+1)))else none))))else some (.done a.1))
def F_cp(n:Nat)(a:Value):Option (List Int):=(app [] [3]).bind λe=>(F_at n e (u64.wrap (a.L.length:Int))).bind λf=>(iter (F_ke n a) n (f,0):Option (List Int)).bind λd=>some d
theorem k_cp(n:Nat)(g:Value):Kq (F_cp n g) 261 [.nils,.agg (Value.c g),.ptr 0 0] [.cells 313 [.ptr 1 0],.cells 333 [.nilf,.fn (.func 257) [] [],.fn (.func 260) [] [],.fn (.func 261) [] [.ptr 0 0]]] (λr=>.osl 2 0 r.length 1) (λr=>[.cells 313 [.ptr 1 0],.cells 333 [.nilf,.fn (.func 257) [] [],.fn (.func 260) [] [],.fn (.func 261) [] [.ptr 0 0]],.row 5 1 (map (Qe .u8) r)]):=by
 refine Kg 7 func261 Z Z Z Z λr h=>DAs 7 2 [0,0,1,3,3,3,3] (by kernel_rfl) (Da 1 Z ?_);refine DA.wo (x:=.rsl 1 (map (Qe .u8) [3])) ?_ ?_
 .refine vH (Yi (xs:=[.const (.int .u8 3)]) (es:=map (Qe .u8) [3]) YW Z Z Z Z Z ⟨Z,trivial⟩ Z Z) ?_;exact FE Z Wp
 obtain⟨O,y,h⟩:=YU h;refine Qcf (Qkh (e:=(Qe .u8)) y YW EH Js) Z Z (Db 1 Z ?_);refine DB.wo2 (x:=.rsl 4 (map Value.enc g.L)) (Ld isAgg258 Z Wp) (Ld isAgg258 Z Wp) ?_;refine DB.wo2 (x:=I (g.L.length:Int)) (LnM EX Z Wp) (LnM EX Z Wp) ?_;refine DB.wo2 (x:=.int .u64 (u64.wrap (g.L.length:Int))) ?_ ?_ ?_
 iterate 2 refine vX (.int .u64 (u64.wrap (g.L.length:Int))) (Y6 Z EL EI Z) ?_;exact Wp
 refine DB.done Z (Cd [3] h (k_at _ _ _) Z λP G h=>FE Z (Go 8 Z (Lm Z (Go 3 Z (Bd h λd z h=>?_)))));refine Ct d [0,1,2] [] (λd=>[(0,.osl 2 0 d.length 1)]) (λd=>[(2,.row 5 1 (map (Qe .u8) d))]) Zf ?_ (λenv H B=>?_)
 .refine G0 1 Z ?_;refine Lp [0,1,4] [2,17,18] (λf=>[(0,.osl 2 0 f.1.length 1),(19,I f.2)]) (λf=>[(2,.row 5 1 (map (Qe .u8) f.1))]) z Zf (Lr [0,1,4]) λf J a q=>?_;refine G0 6 Z (Yh Z a (λs a=>?_) (λs a=>?_))
  .refine Gc 2 Z (Qh a ?_);obtain rfl:=Oj q a;exact Gx 1 Z (QC (Lr [0,1,2]))
  refine Gc 6 Z (Bd a λl t a=>IzE t (Ja l) Z (Go 5 Z (DSs 9 Z (D 4 Z (If a (λu a=>?_) (λu a=>?_))))))
  .cases a
  .refine If a (λm a=>?_) (λm a=>?_)
   .refine DS.v (x:=(.ptr 1 1)) (Yg (i:=l.Kind) (n:=4) (k:=1) (j:=1) m Z EN E6 Z) ?_;exact D 4 Z (Eg Z (Cd [2] a (k_bh _ _ _) Z λM E a=>FE Z (Go 8 Z (Qf a (Lr [0,1,4])))))
   .refine If a (λw a=>?_) (λw a=>?_)
    .cases a
    .refine If a (λp a=>?_) (λp a=>?_)
     .refine DS.v (x:=(.ptr 1 3)) (Yg (i:=l.Kind) (n:=4) (k:=1) (j:=3) p Z EN E6 Z) ?_;exact D 4 Z (Eg Z (Cd [2,0,1] a (k_bn _ _ _) Z λN F a=>FE Z (Go 8 Z (Qf a (Lr [0,1,4])))))
     .cases a
 exact Gx 1 Z (Qb B (Gc 7 Z (Rt h 5 [0,1,2])))
def F_hv(n:Nat)(a:Value):Option ((List Int)×Int):=(F_kc n a).bind λd=>(bif (d != 0)then some ([],d)else(F_io n).bind λg=>(bif (a.Kind==0)then none else(bif (a.Kind==1)then(F_je n a).bind λe=>some (e,0)else(bif (a.Kind==2)then none else(bif (a.Kind==3)then(F_cp n a).bind λf=>some (f,0)else none)))))
theorem k_hv(n:Nat)(a:Value):Kq (F_hv n a) 186 [.agg (Value.c a)] [] (λr=>.tup [.osl 0 0 r.1.length 1,I r.2]) (λr=>[.row 5 1 (map (Qe .u8) r.1)]):=by
 refine Kg 11 func186 Z Z Z Z λr h=>Cz [] h (k_kc _ _) Z λw p h=>Go 9 Z (Cn Z h (λf h=>?_) (λf h=>?_))
 .refine Gc 9 Z ?_;obtain rfl:=Oi h;refine R2 2 3 Z Z ?_;refine Em (Eo (s:=2) (k:=1) (t:=5) (XP Z) Z) ?_;exact Lr [1]
 refine Gc 3 Z (DAs 8 0 [1,3,3,2,2,2,2,3] (by kernel_rfl) ?_);obtain⟨y,g,h⟩:=YU h;refine DA.op (x:=.ptr 1 0) (H1:=[.cells 260 (Value.c a),.cells 333 [.nilf,.fn (.func 257) [] [],.fn (.func 260) [] [],.fn (.func 261) [] [.ptr 2 0]],.cells 313 [.ptr 1 0]]) ?_ ?_
 .refine Q2 [] (OpC.fn call233 Z Z Z) (k_io _ _ g) ?_;rintro _ _ ⟨rfl,rfl⟩;exact FE Z Wp
 refine Db 1 Z ?_;refine DB.wo2 (x:=I a.Kind) (Ld EE Z Wp) (Ld EE Z Wp) ?_;refine Db 1 Z (If h (λl h=>?_) (λl h=>?_))
 .cases h
 .refine If h (λd h=>?_) (λd h=>?_)
  .refine DB.wo1 (x:=.ptr 1 1) ?_ ?_
   .refine vX (.ptr 1 1) (Yg (i:=a.Kind) (n:=4) (k:=1) (j:=1) d Z EN E6 Z) ?_;exact Wp
   refine Db 2 Z ?_;refine DB.wo2 (x:=.agg (Value.c a)) ?_ ?_ ?_
   iterate 2 refine vX (.agg (Value.c a)) (Qo Z Gy Gp Z (Pts.cells Z Z) Z Z) ?_;exact Wp
   refine DB.done Z (Cd [] h (k_je _ _) Z λz q h=>FE Z (Go 5 Z ?_));obtain rfl:=Oi h;exact R2 2 3 Z Z (Lr [3])
  .refine If h (λm h=>?_) (λm h=>?_)
   .cases h
   .refine If h (λe h=>?_) (λe h=>?_)
    .refine DB.wo1 (x:=.ptr 1 3) ?_ ?_
     .refine vX (.ptr 1 3) (Yg (i:=a.Kind) (n:=4) (k:=1) (j:=3) e Z EN E6 Z) ?_;exact Wp
     refine Db 2 Z ?_;refine DB.wo2 (x:=.agg (Value.c a)) ?_ ?_ ?_
     iterate 2 refine vX (.agg (Value.c a)) (Qo Z Gy Gp Z (Pts.cells Z Z) Z Z) ?_;exact Wp
     refine DB.done Z (Cd [2,1] h (k_cp _ _) Z λB u h=>FE Z (Go 5 Z ?_));obtain rfl:=Oi h;exact R2 2 3 Z Z (Lr [3])
    .cases h
def F_kr(n:Nat)(d:(List Int)×Bool)(a:(List Value)×Int):Option (Ctl ((List Value)×Int) (List Value)):=(bif decide (a.2<(d.1.length:Int))then(idx d.1 a.2).bind λe=>(app a.1 [{Kind:=1,N:=e,S:=[],L:=[]:Value}]).bind λf=>some (.cont (f,i64.wrap (a.2+1)))else some (.done a.1))
def F_bw(n:Nat)(f:Fact):Option ((List Int)×Int):=(F_cd n f).bind λd=>(bif (!d.2)then some ([],120)else(iter (F_kr n d) n ([],0):Option (List Value)).bind λe=>(F_hv n ({Kind:=3,N:=0,S:=[],L:=e:Value})).bind λa=>some (a.1,a.2))
theorem k_bw(n:Nat)(u:Fact):Kq (F_bw n u) 123 [.agg (Fact.c u)] [] (λr=>.tup [.osl 0 0 r.1.length 1,I r.2]) (λr=>[.row 5 1 (map (Qe .u8) r.1)]):=by
 refine Kg 10 func123 Z Z Z Z λr h=>Cd [] h (k_cd _ _) Z λJ B h=>FE Z (Go 14 Z (Cn Z h (λw h=>?_) (λw h=>?_)))
 .refine Gc 8 Z ?_;obtain rfl:=Oi h;refine R2 2 3 Z Z ?_;refine Em (Eo (s:=2) (k:=1) (t:=5) (XP Z) Z) ?_;exact Lr [2]
 refine Gc 4 Z ?_;refine vX (.agg [I 3,I 0,.str [],.nils]) (OpV.build (zs:=[I 0,I 0,.str [],.nils]) Gs (zrC Z) QnM) ?_;refine vH (Qda (v:=(.agg [I 0,I 0,.str [],.nils])) Gs (zrC Z)) ?_;refine FE Z (Go 11 Z (Bd h λf x h=>?_));refine Ct f [0,1] [] (λ_=>[(6,.ptr 0 0)]) (λf=>[(0,.cells 260 [I 3,I 0,.str [],.osl 1 0 f.length 4]),(1,.row 260 4 (map Value.enc f))]) Zf ?_ (λenv H y=>?_)
 .refine G0 1 Z ?_;refine Lp [2,0,1] [6,17,18] (λd=>[(19,I d.2)]) (λd=>[(0,.cells 260 [I 3,I 0,.str [],.osl 1 0 d.1.length 4]),(1,.row 260 4 (map Value.enc d.1))]) x Zf ?_ ?_
  .refine Em (Qce (i:=2) (m:=3) (t:=260) (k:=4) Z Z Z) ?_;exact Lr [2,3,1]
  intro d E a l;refine G0 6 Z (Yh Z a (λp a=>?_) (λp a=>?_))
  .refine Gc 2 Z (Qh a ?_);obtain rfl:=Oj l a;exact Gx 1 Z (QC (Lr [0,1]))
  refine Gc 6 Z (Bd a λj g a=>?_);refine vX (.ptr 2 (toNat d.2*1)) (Qu g Z EC EG) ?_;refine vX (I j) (Ey Z EE Z (Qn g)) ?_;refine Go 8 Z ?_;refine vH (Ej (xs:=[.tmp 26]) (es:=map Value.enc [{Kind:=1,N:=j,S:=[],L:=[]:Value}]) Qir Z Z Z Z Z ⟨Z,trivial⟩ Z Z) ?_;refine FE Z (Bd a λF q a=>?_);refine vH (Qk (e:=Value.enc) q Qir EX (QQ (i:=3))) ?_;exact FE Z (Go 9 Z (Qf a (Lr [0,4,2])))
 refine Gx 1 Z (Qb y (Gc 3 Z ?_));refine QH (Qao [(31,_)] Z Z (Qpb.cons Z (FzA.agg (Ed (Ee _) (Ed (Ee _) (Ed (Ee _) (Ed En (Ei _)))))) Qpb.nil) (FzH.cells (Ed (Ee _) (Ed (Ee _) (Ed (Ee _) (Ed En (Ei _))))) (Ec (Jj _)))) ?_;refine Cd [] h (k_hv _ _) Z λG z h=>FE Z (Go 7 Z ?_);obtain rfl:=Oi h;exact R2 2 3 Z Z (Lr [2])
def F_js(n:Nat)(a:List Int)(d:List Int):Option Unit:=some ()
theorem k_js(n:Nat)(a:List Int)(d:List Int):Ks (F_js n a d) 124 [.rsl 1 (map (Qe .u8) a),.rsl 1 (map (Qe .u8) d)] [] (λ_=>I (cmpB a d)):=by
 refine Kg 9 func124 Z Z Z Z λr h=>?_;refine vX (I (cmpB a d)) (OpV.cmpB (l:=a) (m:=d) func187 (by kernel_rfl) (by kernel_rfl) (by kernel_rfl) (by kernel_rfl) Qli.rsl Qli.rsl) ?_;exact Go 4 Z (Rt h 4 [])
def F_aj(n:Nat)(a:Fact)(d:Fact):Option Int:=(F_ao n a.At d.At).bind λh=>(F_ao n a.Crew d.Crew).bind λi=>(F_ao n a.No d.No).bind λj=>(F_gj n [h,i,j]).bind λe=>(bif (e != 0)then some e else(F_bw n a).bind λf=>(F_bw n d).bind λg=>(F_js n f.1 g.1).bind λk=>some (cmpB f.1 g.1))
theorem k_aj(n:Nat)(a:Fact)(d:Fact):Ks (F_aj n a d) 58 [.agg (Fact.c a),.agg (Fact.c d)] [] (λr=>I r):=by
 refine Kg 9 func58 Z Z Z Z λr h=>DSs 14 Z (D 4 Z ?_);refine Dz [] h (k_ao _ _ _) Z λf j h=>D 4 Z ?_;refine Dz [] h (k_ao _ _ _) Z λg k h=>D 4 Z (Eg Z (Cz [] h (k_ao _ _ _) Z λi l h=>?_));refine vH (Yi (xs:=[.tmp 14,.tmp 19,.tmp 24]) (es:=map (Qe .i64) [f,g,i]) QA Z Z Z Z Z ⟨Z,Z,Z,trivial⟩ Z Z) ?_;refine FE Z (Cz [] h (k_gj _ _) Z λt m h=>Go 9 Z (Cn Z h (λe h=>?_) (λe h=>?_)))
 .exact Gc 8 Z (Rt h 4 [])
 exact Gc 5 Z (Cd [] h (k_bw _ _) Z λu p h=>FE Z (Go 10 Z (Cd [] h (k_bw _ _) Z λw q h=>FE Z (Go 11 Z (Cb h (k_js _ _ _) Z (lo (lo ln)) λx s h=>Go 4 Z (Rt h 4 []))))))
def F_bv(n:Nat)(a:Fact)(d:Fact):Option Bool:=(F_aj n a d).bind λe=>some (e==0)
theorem k_bv(n:Nat)(a:Fact)(d:Fact):Ks (F_bv n a d) 184 [.agg (Fact.c a),.agg (Fact.c d),.ptr 0 0] [.cells 132 [.fn (.func 58) [] []]] (λr=>.bool r):=by
 exact Kg 12 func184 Z Z Z Z λr h=>Cz [] h (k_aj _ _ _) Z λf e h=>Go 5 Z (Rt h 5 [0])
def F_hl(n:Nat)(f:List Fact)(d:Int)(a:(List Fact)×Int×Int):Option (Ctl ((List Fact)×Int×Int) ((List Fact)×Int)):=(bif decide (a.2.2<((toNat (f.length:Int)-toNat d:Nat):Int))then(Qh7 a.1 d (f.length:Int) a.2.2).bind λg=>(Qh7 a.1 d (f.length:Int) (i64.wrap (a.2.2-1))).bind λh=>(F_bv n g h).bind λi=>((bif (!i)then(Qh7 a.1 d (f.length:Int) a.2.2).bind λj=>(idx a.1 a.2.1).bind λl=>(QdZ a.1 a.2.1 j).bind λk=>some (k,i64.wrap (a.2.1+1))else some (a.1,a.2.1)):Option ((List Fact)×Int)).bind λe=>some (.cont (e.1,e.2,i64.wrap (a.2.2+1)))else some (.done (a.1,a.2.1)))
def F_fp(n:Nat)(d:List Fact)(a:Int):Option (Ctl Int (Ctl Unit (List Fact))):=(bif decide (a<(d.length:Int))then(idx d a).bind λf=>(idx d (i64.wrap (a-1))).bind λg=>(F_bv n f g).bind λh=>(bif h then(slc d a (d.length:Int)).bind λj=>(iter (F_hl n d a) n (d,a,1):Option ((List Fact)×Int)).bind λe=>(slc e.1 0 e.2).bind λi=>some (.done (.done i))else some (.cont (i64.wrap (a+1))))else some (.done (.cont ())))
def F_hm(n:Nat)(d:List Fact):Option (List Fact):=(bif decide ((d.length:Int)<2)then some d else(iter (F_fp n d) n 1:Option (Ctl Unit (List Fact))).bind λe=>match e with|.cont a=>(some d)|.done a=>some a)
theorem k_hm(n:Nat)(q:List Fact):Kq (F_hm n q) 183 [.osl 0 0 q.length 57,.fn (.func 184) [] [.ptr 1 0]] [.row 68 57 (map Fact.c q),.cells 132 [.fn (.func 58) [] []]] (λr=>.osl 0 0 r.length 57) (λr=>[.row 68 57 (map Fact.c r),.cells 132 [.fn (.func 58) [] []]]):=by
 refine Kg 13 func183 Z Z Z Z λr h=>Cn Z h (λae h=>?_) (λae h=>?_)
 .exact Gc 8 Z (Rt h 4 [0,1])
 refine Gc 8 Z (Bd h λT V h=>?_);refine Jw (b:=T) [0,1] [0] Ze Ze Zf ?_ (λag env H af w=>?_)
 .refine G0 1 Z ?_;refine Lp [0,1] [0,1] (λg=>[(5,I g)]) Ze V Zf (Lr [0,1]) λg aj a y=>?_;refine G0 9 Z (Yh Z a (λM a=>?_) (λM a=>?_))
  .refine Gc 2 Z (Qh a ?_);obtain rfl:=Oj y a;exact Gx 1 Z (Qq Z (Lr [0,1]))
  refine Gc 5 Z (DSs 10 Z (D 3 Z ?_));obtain⟨W,z,a⟩:=YU a;refine DS.v (x:=(.ptr 0 (toNat g*57))) (Qu z Z EA EB) ?_;refine DS.v (x:=(.agg (Fact.c W))) (Qo Z EJ EB Z (Qn z) Z Z) ?_;refine D 3 Z ?_;obtain⟨X,B,a⟩:=YU a;refine DS.v (x:=(.ptr 0 (toNat (i64.wrap (g-1))*57))) (Qu B Z EA EB) ?_;refine DS.v (x:=(.agg (Fact.c X))) (Qo Z EJ EB Z (Qn B) Z Z) ?_;refine Eg Z (Cz [1] a (k_bv _ _ _) Z λak ah a=>Go 2 Z (Cn Z a (λN a=>?_) (λN a=>?_)))
  .refine Gc 4 Z (Bd a λal O a=>?_);refine vX (.osl 0 (0+toNat g) (toNat (q.length:Int)-toNat g) 57) (YR (l:=q) O EA EB (.inr ⟨_,Z,Z⟩) (.inl ⟨Z,Z⟩)) ?_;refine Go 9 Z (Bd a λj Y a=>?_);refine Ct j [0,1] [] (λj=>[(0,.osl 0 0 j.1.length 57),(5,I j.2)]) (λj=>[(0,.row 68 57 (map Fact.c j.1))]) Zf ?_ (λenv H w=>?_)
   .refine G0 1 Z ?_;refine Lp [0,1] [1,6] (λi=>[(0,.osl 0 0 i.1.length 57),(5,I i.2.1),(7,I i.2.2)]) (λi=>[(0,.row 68 57 (map Fact.c i.1))]) Y Zf (Lr [0,1]) λi am d P=>?_;refine G0 5 Z ?_;refine vX (I ((toNat (q.length:Int)-toNat g:Nat):Int)) (Qkc Z Z EA Z) ?_;refine Go 3 Z (Yh Z d (λQ d=>?_) (λQ d=>?_))
    .refine Gc 2 Z (Qh d ?_);obtain rfl:=Oj P d;exact Gx 1 Z (QC (Lr [0,1]))
    refine Gc 5 Z (DSs 10 Z (D 3 Z ?_));obtain⟨aa,E,d⟩:=YU d;refine DS.v (x:=(.ptr 0 (toNat (g+i.2.2)*57))) (Qgv (l:=i.1) (lo:=g) (hi:=(q.length:Int)) E EA EB) ?_;refine DS.v (x:=(.agg (Fact.c aa))) (Qo Z EJ EB Z (Qn (Qh6 E)) Z Z) ?_;refine D 3 Z ?_;obtain⟨ab,F,d⟩:=YU d;refine DS.v (x:=(.ptr 0 (toNat (g+i64.wrap (i.2.2-1))*57))) (Qgv (l:=i.1) (lo:=g) (hi:=(q.length:Int)) F EA EB) ?_;refine DS.v (x:=(.agg (Fact.c ab))) (Qo Z EJ EB Z (Qn (Qh6 F)) Z Z) ?_;refine Eg Z (Cz [1] d (k_bv _ _ _) Z λan ai d=>Go 3 Z (Bd d λp m d=>?_));refine Ct p [0,1] [1,6,7] (λp=>[(0,.osl 0 0 p.1.length 57),(5,I p.2)]) (λp=>[(0,.row 68 57 (map Fact.c p.1))]) Zf ?_ (λenv H w=>?_)
    .refine G0 0 Z (Cn Z m (λR m=>?_) (λR m=>?_))
     .refine Gc 6 Z (Bd m λac G m=>?_);refine vX (.ptr 0 (toNat (g+i.2.2)*57)) (Qgv (l:=i.1) (lo:=g) (hi:=(q.length:Int)) G EA EB) ?_;refine vX (.agg (Fact.c ac)) (Qo Z EJ EB Z (Qn (Qh6 G)) Z Z) ?_;refine Bd m λao J m=>?_;refine vX (.ptr 0 (toNat i.2.1*57)) (Qu J Z EA EB) ?_;refine Bd m λaq t m=>?_;refine vU (QaO (e:=Fact.c) (k:=57) (f:=0) J t EB Z Z) ?_;refine FE Z ?_;refine QH (Q8 (s:=0) Z (congrArg (λn=>A.osl 0 0 n 57) (Qbh t))) ?_;refine QH (Q8 (s:=50) Z (congrArg (λn=>A.osl 0 0 n 57) (Qbh t))) ?_;exact Go 7 Z (Cl m [0,1])
     exact Gc 1 Z (Cl m [0,1])
    exact Gx 2 Z (Qb w (Gc 5 Z (Qf d (Lr [0,1]))))
   refine Gx 1 Z (Qb w (Gc 4 Z (Bd a λL u a=>?_)));refine vX (.osl 0 (0+toNat j.2) (j.1.length-toNat j.2) 57) (Qgx (l:=j.1) u EA EB) ?_;refine vN (QgB (e:=Fact.c) (l:=j.1) u GK Gj Z (by simp[Qy,Go.Value.cells])) ?_;refine Qee (H:=[.row 68 57 (map Fact.c L),.cells 132 [.fn (.func 58) [] []]]) Z ?_;refine Go 6 Z ?_;refine vX (.osl 0 0 L.length 57) (Qgy (l:=j.1) u EA EB) ?_;refine Go 6 Z (Qv a ?_);obtain rfl:=Oj y a;exact Gx 1 Z (Qs (Gx 1 Z (Rt h 4 [0,1])))
  exact Gc 8 Z (Qf a (Lr [0,1]))
 subst af;exact Gx 1 Z (Qb w (Gc 7 Z (Rt h 4 [0,1])))
def F_bk(n:Nat)(a:List Fact):Option (List Fact):=(F_bt n a).bind λd=>(QbX (λx y=>F_aj n x y) d).bind λe=>(F_hm n e).bind λf=>some f
theorem k_bk(n:Nat)(d:List Fact):Kq (F_bk n d) 120 [.rsl 57 (map Fact.c d),.fn (.func 58) [] []] [] (λr=>.osl 0 0 r.length 57) (λr=>[.row 68 57 (map Fact.c r)]):=by
 refine Kg 9 func120 Z Z Z Z λr h=>Cd [] h (k_bt _ _) Z λg e h=>FE Z (Go 7 Z (Bd h λi a h=>?_));refine Q2 [1] (OpC.fn call182 Z Z Z) (Qp5 (enc:=Fact.c) QgJ a (λx y c h=>k_aj n x y c h) EJ EB call58 Zf Z) ?_;rintro _ _ ⟨rfl,rfl⟩;refine FE Z ?_;refine QH (Q8 (s:=0) Z (congrArg (λn=>A.osl 1 0 n 57) (QaA a))) ?_;refine QH (Q8 (s:=6) Z (congrArg (λn=>A.osl 1 0 n 57) (QaA a))) ?_;refine QH (Q8 (s:=7) Z (congrArg (λn=>A.osl 1 0 n 57) (QaA a))) ?_;exact Go 6 Z (Cd [1,0] h (k_hm _ _) Z λj f h=>FE Z (Go 4 Z (Rt h 4 [1])))
def F_ej(n:Nat)(a:List Ub):Option (List Ub):=isNil a (some []) ((app ([]:List Ub) a).bind λd=>some d)
theorem k_ej(n:Nat)(a:List Ub):Kq (F_ej n a) 227 [.rsl 1 (map Ub.ptr a)] [] (λr=>.osl 0 0 r.length 1) (λr=>[.row 196 1 (map Ub.ptr r)]):=by
 refine Kg 9 func227 Z Z Z Z λr h=>?_;refine Qj3 (e:=Ub.ptr) (l:=a) underlying194 Z (λb1 d=>?_);have hkb1:=Qjn h b1 d;cases b1
 .have h:=hkb1.2 Z;refine Go 7 Z ?_;refine vH (Ej (xs:=[]) (es:=map Ub.ptr []) Qis Z Z Z Z Z trivial Z Z) ?_;refine FE Z (Go 1 Z (Bd h λg f h=>?_));refine vH (Qk (e:=Ub.ptr) f Qis ET Js) ?_;exact FE Z (Go 4 Z (Rt h 2 [1]))
 .have h:=hkb1.1 Z;refine Go 10 Z ?_;obtain rfl:=Oi h;refine R1 2 Z ?_;refine Em (Eo (s:=2) (k:=1) (t:=196) (XP Z) Z) ?_;exact Lr [0]
def F_bi(n:Nat)(a:Ub)(d:Ub):Option Int:=(F_ao n a.number d.number).bind λe=>some e
theorem k_bi(n:Nat)(a:Ub)(d:Ub):Ks (F_bi n a d) 181 [.rp (Ub.c a),.rp (Ub.c d)] [] (λr=>I r):=by
 refine Kg 6 func181 Z Z Z Z λr h=>DSs 8 Z (D 2 Z ?_);refine DS.wo (x:=.rp [I a.number,.rsl 57 (map Fact.c a.r0),.rsl 57 (map Fact.c a.r1),.rsl 57 (map Fact.c a.r2),.rsl 4 (map Report.c a.reports),.bool a.appeal]) ?_ ?_
 .exact Fr QjA Z Wp
 refine D 3 Z ?_;refine DS.wo (x:=.rp [I d.number,.rsl 57 (map Fact.c d.r0),.rsl 57 (map Fact.c d.r1),.rsl 57 (map Fact.c d.r2),.rsl 4 (map Report.c d.reports),.bool d.appeal]) ?_ ?_
 .exact Fr QjA Z Wp
 exact D 1 Z (Eg Z (Cz [] h (k_ao _ _ _) Z λf e h=>Go 4 Z (Rt h 4 [])))
def F_bl(n:Nat)(a:Ub)(d:Ub):Option Bool:=(F_bi n a d).bind λe=>some (e==0)
theorem k_bl(n:Nat)(a:Ub)(d:Ub):Ks (F_bl n a d) 230 [.rp (Ub.c a),.rp (Ub.c d),.ptr 0 0] [.cells 254 [.fn (.func 181) [] []]] (λr=>.bool r):=by
 exact Kg 10 func230 Z Z Z Z λr h=>Cz [] h (k_bi _ _ _) Z λf e h=>Go 5 Z (Rt h 5 [0])
def F_mc(n:Nat)(d:List Ub)(a:Int):Option (Ctl Int Unit):=(bif decide (a<(d.length:Int))then(idx d a).bind λe=>(idx d (i64.wrap (a-1))).bind λf=>(F_bl n e f).bind λg=>((bif (!g)then none else some ()):Option Unit).bind λh=>some (.cont (i64.wrap (a+1)))else some (.done ()))
def F_ll(n:Nat)(d:List Ub)(a:Int):Option (Ctl Int Unit):=(bif decide (a<(d.length:Int))then(idx d a).bind λe=>(idx d (i64.wrap (a-1))).bind λf=>(F_bl n e f).bind λg=>(bif g then(slc d a (d.length:Int)).bind λh=>(iter (F_mc n h) n 1:Option Unit).bind λi=>none else some (.cont (i64.wrap (a+1))))else some (.done ()))
def F_cr(n:Nat)(a:List Ub):Option Unit:=(bif decide ((a.length:Int)<2)then some ()else(iter (F_ll n a) n 1:Option Unit).bind λd=>some ())
theorem k_cr(n:Nat)(z:List Ub):Ks (F_cr n z) 229 [.rsl 1 (map Ub.ptr z),.fn (.func 230) [] [.ptr 0 0]] [.cells 254 [.fn (.func 181) [] []]] (λ_=>.rsl 1 (map Ub.ptr z)):=by
 refine Kg 9 func229 Z Z Z Z λr h=>Lm Z (Go 3 Z (Cn Z h (λQ h=>?_) (λQ h=>?_)))
 .exact Gc 8 Z (Rt h 4 [0])
 refine Gc 8 Z (Bd h λB E h=>?_);refine Ct B [0] [0] Ze Ze Zf ?_ (λenv H f=>?_)
 .refine G0 1 Z ?_;refine Lp [0] [0,1] (λg=>[(5,I g)]) Ze E Zf (Lr [0]) λg V a j=>?_;refine G0 5 Z (Lm Z (Go 3 Z (Yh Z a (λk a=>?_) (λk a=>?_))))
  .refine Gc 2 Z (Qh a ?_);obtain rfl:=Oj j a;exact Gx 1 Z (QC (Lr [0]))
  refine Gc 5 Z (DSs 10 Z (D 3 Z ?_));obtain⟨F,l,a⟩:=YU a;refine DS.wo (x:=.rp [.rp (Ub.c F)]) ?_ ?_
  .exact Ix l ET Gq Z Wp
  refine D 4 Z ?_;obtain⟨G,m,a⟩:=YU a;refine DS.wo (x:=.rp [.rp (Ub.c G)]) ?_ ?_
  .exact Ix m ET Gq Z Wp
  refine D 1 Z (Eg Z (Cz [0] a (k_bl _ _ _) Z λW R a=>Go 2 Z (Cn Z a (λp a=>?_) (λp a=>?_))))
  .refine Gc 4 Z (Bd a λJ q a=>?_);refine vX (.rsl 1 (map Ub.ptr J)) (Qkd q ET Gq (.inr ⟨_,Z,Z⟩) (.inl ⟨Z,Z⟩)) ?_;refine Go 9 Z (Bd a λL M a=>?_);refine Ct L [0] [0,5] Ze Ze Zf ?_ (λenv H f=>?_)
   .refine G0 1 Z ?_;refine Lp [0] [0,1,5,6] (λi=>[(7,I i)]) Ze M Zf (Lr [0]) λi X d s=>?_;refine G0 5 Z (Lm Z (Go 3 Z (Yh Z d (λt d=>?_) (λt d=>?_))))
    .refine Gc 2 Z (Qh d ?_);obtain rfl:=Oj s d;exact Gx 1 Z (QC (Lr [0]))
    refine Gc 5 Z (DSs 10 Z (D 3 Z ?_));obtain⟨N,u,d⟩:=YU d;refine DS.wo (x:=.rp [.rp (Ub.c N)]) ?_ ?_
    .exact Ix u ET Gq Z Wp
    refine D 4 Z ?_;obtain⟨O,w,d⟩:=YU d;refine DS.wo (x:=.rp [.rp (Ub.c O)]) ?_ ?_
    .exact Ix w ET Gq Z Wp
    refine D 1 Z (Eg Z (Cz [0] d (k_bl _ _ _) Z λY T d=>Go 3 Z (Bd d λP e d=>?_)));refine Ct P [0] [0,1,5,6,7] Ze Ze Zf ?_ (λenv H f=>?_)
    .refine G0 0 Z (Cn Z e (λy e=>?_) (λy e=>?_))
     .refine Gc 1 Z ?_;cases e
     exact Gc 1 Z (Cl e [0])
    exact Gx 2 Z (Qb f (Gc 5 Z (Qf d (Lr [0]))))
   refine Gx 1 Z (Qb f (Gc 1 Z ?_));cases a
  exact Gc 8 Z (Qf a (Lr [0]))
 exact Gx 1 Z (Qb f (Gc 7 Z (Rt h 4 [0])))
def F_dt(n:Nat)(d:List Ub):Option (List Ub):=(F_ej n d).bind λe=>(QbX (λx y=>F_bi n x y) e).bind λa=>(F_cr n a).bind λf=>some a
theorem k_dt(n:Nat)(d:List Ub):Ks (F_dt n d) 180 [.rsl 1 (map Ub.ptr d),.fn (.func 181) [] []] [] (λr=>.rsl 1 (map Ub.ptr r)):=by
 refine Kg 9 func180 Z Z Z Z λr h=>Cd [] h (k_ej _ _) Z λg e h=>FE Z (Go 7 Z (Bd h λi a h=>?_));refine Q2 [1] (OpC.fn call228 Z Z Z) (Qp6 (ea:=λx=>.rp (Ub.c x)) QgI a (λx y c h=>k_bi n x y c h) isAgg196 Gq call181 Z) ?_;rintro _ _ ⟨rfl,rfl⟩;refine FE Z ?_;refine QH (Q8 (s:=0) Z (congrArg (λn=>A.osl 1 0 n 1) (QaA a))) ?_;refine QH (Q8 (s:=6) Z (congrArg (λn=>A.osl 1 0 n 1) (QaA a))) ?_;refine QH (Q8 (s:=7) Z (congrArg (λn=>A.osl 1 0 n 1) (QaA a))) ?_;refine Go 6 Z ?_;refine QH (Qao [(0,_),(6,_),(7,_),(10,_)] Z Z (Qpb.cons Z En (Qpb.cons Z En (Qpb.cons Z En (Qpb.cons Z En Qpb.nil)))) (Ec (Ec (Jj _)))) ?_;exact Cd [0] h (k_cr _ _) Z λj f h=>FE Z (Go 4 Z (Rt h 4 []))
def ToldE(env:Env):Env->Prop
  |[]=>True
  |p::r=>lk env p.1=p.2/\ToldE env r
theorem Qp2{h0:Nat}{env env':Env}{H:Qc}(h:ToldE env env'):Le h0 env H env' H:=by
  refine Le.env λs=>?_
  induction env' with
  |nil=>exact .inl Z
  |cons p r ih=>
    obtain⟨a,d⟩:=h;show lk (p::r) s=_\/_;by_cases q:s=p.1
    · refine .inr ?_
      subst q;simp only[lk,VC];exact a.symm
    · have e:Nat.beq s p.1=false:=by
        cases z:Nat.beq s p.1 with
        |true=>exact absurd (XO z) q
        |false=>rfl
      simp only[lk,e];exact ih d
section
variable {P:Program} {N m n:Nat} {bs ds ds':List Nat} {cat:Kat} {l:List Oper} {env:Env} {Hs:List Qc} {X:Qc} {K:List Oper->Env->Qc->Prop} {r:List Oper} {xs xs':List A} {x:A}
theorem DK.ad(h:Qc4 xs x=.mk xs')(k:DK P N m bs cat l ds env n K Hs X r xs'):DK P N m bs cat l ds env n K Hs X r (xs++[x]):=by
  rw[JB]at h;cases h;exact k
theorem Qpj(h:ds=ds')(k:DK P N m bs cat l ds' env n K Hs X r xs):DK P N m bs cat l ds env n K Hs X r xs:=h▸k
end
abbrev ekI:Int->A:=λn=>I n
def preF(bk:QaV Fact Report):Qc:=[.cells 251 [.map 1],.mapP (Qw ekI QeS (Y7 bk))]
abbrev nC(k:Int):Blk:=.cells 200 [I k,.nils,.nils,.nils,.nils,.bool false]
theorem fx_2:QN prog 200 2 4 1:=FA Ga rfl sizeOf198
theorem fx_3:QN prog 200 3 5 1:=FA Ga rfl Gi
theorem Qqe:Q1 prog 198 60 4:=⟨runUnderlying198,sizeOf60,⟨_,zeroValue60,rfl⟩,⟨_,typeInfo60,by decide⟩⟩
theorem QkL(k:Int)(bk:QaV Fact Report)(G:Qc)(hB:YP Ub.K 2 (preF bk++G) bk):C prog 179 [I k,.ptr 0 0] (preF bk++G) (λa H'=>∃l e r G',a=.ptr e.2.b 0/\H'=preF (l++e::r)++G'/\YP Ub.K 2 H' (l++e::r)/\e.1.number=k/\(l++e::r).map (·.1)=Qad (bk.map (·.1)) k):=by
  refine QG func179 Z Z Z ?_;refine TC.seq (TC.region (vV (OpV.assign Z Z) (WO.nil ?_)));refine TC.seq (TC.seq (TC.region ?_));refine vV (x:=.map 1) (Ey Z isAgg251 Z (Pts.cells Z Z)) ?_;refine vV (x:=I k) (OpV.move Z Z) ?_;have hlen:(preF bk++G).length=G.length+2:=by simp[preF]
  rcases Qed bk k with⟨f,d⟩|⟨l,e,r,rfl,d,p,g⟩
  · refine vV (x:=.nilp) (Qln (ek:=ekI) (ev:=QeS) (k:=k) (l:=Y7 bk) JE f Gg zeroValue196) ?_
    refine vV (x:=.bool true) (Qka runUnderlying196 Z) (WO.nil ?_);refine Qj5 Z Z (TC.region ?_);refine vV (x:=.map 1) (Ey Z isAgg251 Z (Pts.cells Z Z)) ?_;refine vV (x:=I k) (OpV.move Z Z) ?_;refine vV (x:=I k) (OpV.move Z Z) ?_;refine vV (x:=.agg [I k,.nils,.nils,.nils,.nils,.bool false]) (OpV.build (zs:=[I 0,.nils,.nils,.nils,.nils,.bool false]) zeroValue200 (zrC Z) Qqy) ?_;refine Jr (x:=.ptr (preF bk++G).length 0) (H':=(preF bk++G)++[nC k]) (XR _) Z Z Z (OpH.box (v:=.agg [I k,.nils,.nils,.nils,.nils,.bool false]) (cs:=[I k,.nils,.nils,.nils,.nils,.bool false]) Z Z Z Z Z) ?_;have n:preF (bk++[(QaI k,Qa3 (preF bk++G).length)])++(G++[nC k])=List.set (preF bk++G++[nC k]) 1 (.mapP (Qw ekI QeS (Y7 bk++[(k,(preF bk++G).length)]))):=by
      unfold preF;rw[Qm3];simp[Y7,QaI,Qa3]
    refine QbK (H':=preF (bk++[(QaI k,Qa3 (preF bk++G).length)])++(G++[nC k])) (by simp) Z Z ?_ ?_
    · rw[n]
      refine Qnj (ek:=ekI) (ev:=QeS) (k:=k) (l:=Y7 bk) (v:=(preF bk++G).length) (i:=1) (x:=.tmp 8) (y:=.tmp 9) (zz:=.tmp 12) (T:=251) JE f Gg ?_ ?_ ?_ ?_ ?_<;>rfl
    refine WO.nil ?_;have h:∀env,Le (preF bk++G).length env (preF (bk++[(QaI k,Qa3 (preF bk++G).length)])++(G++[nC k])) env (preF (bk++[(QaI k,Qa3 (preF bk++G).length)])++(G++Qco Ub.K (preF bk++G).length k)):=λenv=>by
      have:=Qls Ub.K (h0:=(preF bk++G).length) (env:=env) (H:=preF (bk++[(QaI k,Qa3 (preF bk++G).length)])++G) (k:=k) (by simp[preF]);rw[Vf,Vf,show(preF (bk++[(QaI k,Qa3 (preF bk++G).length)])++G).length=(preF bk++G).length by simp[preF]]at this;exact this
    refine Qb (h _) ?_;have hB1:YP Ub.K 2 (preF (bk++[(QaI k,Qa3 (preF bk++G).length)])++G) bk:=hB.keep λj m s=>by
      rw[XL (by simpa[preF]using m),XL (by simpa[preF]using m)];rfl
    have hB2:=hB1.new (k:=k) d (by simp[preF]);rw[Vf,show(preF (bk++[(QaI k,Qa3 (preF bk++G).length)])++G).length=(preF bk++G).length by simp[preF]]at hB2;have hg:YQ (Y7 (bk++[(QaI k,Qa3 (preF bk++G).length)])) k=some (preF bk++G).length:=by
      rcases Qed (bk++[(QaI k,Qa3 (preF bk++G).length)]) k with⟨g1,g2⟩|⟨l,e,r,g1,g2,g3,g4⟩
      · exact absurd Z (g2 (QaI k,Qa3 (preF bk++G).length) (by simp))
      · rw[g4]
        have hm:e∈bk++[(QaI k,Qa3 (preF bk++G).length)]:=by rw[g1];simp
        rcases VA.1 hm with q|q
        · exact absurd g2 (d e q)
        · rw[Vy.1 q];rfl
    refine TC.seq (TC.region ?_);refine vV (x:=.map 1) (Ey Z isAgg251 Z (Pts.cells Z Z)) ?_;refine vV (x:=I k) (OpV.move Z Z) ?_;refine vV (x:=.ptr (preF bk++G).length 0) (Qc8 (ek:=ekI) (ev:=QeS) (k:=k) (l:=Y7 (bk++[(QaI k,Qa3 (preF bk++G).length)])) JE hg Gg) ?_;refine vV (OpV.assign Z Z) (WO.nil ?_);refine TC.ret ⟨_,_,.ptr (preF bk++G).length 0,Le.refl _ _ _,QdL.one Z Z,?_⟩;refine⟨bk,(QaI k,Qa3 (preF bk++G).length),[],_,Z,Z,hB2,Z,?_⟩;rw[Qb6 (λx hx q=>by obtain⟨e,he,rfl⟩:=Xf.1 hx;exact d e he q)];simp
  · refine vV (x:=.ptr e.2.b 0) (Qc8 (ek:=ekI) (ev:=QeS) (k:=k) (l:=Y7 (l++e::r)) JE g Gg) ?_
    refine vV (x:=.bool false) (Qj9 runUnderlying196 Z) (WO.nil ?_);refine Qj6 Z Z (TC.skip ?_);refine TC.seq (TC.region ?_);refine vV (x:=.map 1) (Ey Z isAgg251 Z (Pts.cells Z Z)) ?_;refine vV (x:=I k) (OpV.move Z Z) ?_;refine vV (x:=.ptr e.2.b 0) (Qc8 (ek:=ekI) (ev:=QeS) (k:=k) (l:=Y7 (l++e::r)) JE g Gg) ?_;refine vV (OpV.assign Z Z) (WO.nil ?_);refine TC.ret ⟨_,_,.ptr e.2.b 0,Le.refl _ _ _,QdL.one Z Z,?_⟩;refine⟨l,e,r,G,Z,Z,hB,d,?_⟩;rw[Qdu ⟨e.1,by simp,d⟩]
def filesAdd(fs:List Ub)(k inst:Int)(f:Fact):Option (List Ub):=bif inst==0 then some (QbV fs k λx=>{x with r0:=x.r0++[f]})else bif inst==1 then some (QbV fs k λx=>{x with r1:=x.r1++[f]})else bif inst==2 then some (QbV fs k λx=>{x with r2:=x.r2++[f]})else none
def filesStep(fs:List Ub)(f:Fact):Option (List Ub):=bif f.Kind==10 then(bif QfB (Qad fs f.Ruling.Case)then filesAdd (Qad fs f.Ruling.Case) f.Ruling.Case f.Ruling.Instance f else none)
  else bif f.Kind==8 then(bif QfB (Qad fs f.Report.Case)then some (QbV (Qad fs f.Report.Case) f.Report.Case λx=>{x with reports:=x.reports++[f.Report]})else none)
  else bif f.Kind==11 then(bif f.Appeal.Suspends then some (QbV (Qad fs f.Appeal.Case) f.Appeal.Case λx=>{x with appeal:=true})else some fs)else some fs
def filesL(n:Nat)(l:List Fact)(s:List Ub×Int):Option (Ctl (List Ub×Int) (List Ub)):=bif decide (s.2<(l.length:Int))then(idx l s.2).bind λf=>(filesStep s.1 f).bind λfs=>some (.cont (fs,i64.wrap (s.2+1)))else some (.done s.1)
def filesE(l:List Fact)(i:Int):Env:=[(6,.ptr 0 0),(7,.fn (.func 179) [] [.ptr 0 0]),(32,.rsl 57 (map Fact.c l)),(33,I l.length),(34,I i)]
def filesI(l:List Fact)(s:List Ub×Int)(env:Env)(H:Qc):Prop:=(lk env 6=.ptr 0 0/\lk env 7=.fn (.func 179) [] [.ptr 0 0]/\lk env 32=.rsl 57 (map Fact.c l)/\lk env 33=I l.length/\lk env 34=I s.2)/\ ∃bk G,H=preF bk++G/\YP Ub.K 2 H bk/\bk.map (·.1)=s.1
def filesJ(l:List Fact)(fs:List Ub)(i:Int):QV:=λx env H=>x=.normal/\(lk env 6=.ptr 0 0/\lk env 7=.fn (.func 179) [] [.ptr 0 0]/\lk env 32=.rsl 57 (map Fact.c l)/\lk env 33=I l.length/\lk env 34=I i)/\ ∃bk G,H=preF bk++G/\YP Ub.K 2 H bk/\bk.map (·.1)=fs
theorem Qhn{l:List Fact}{i:Int}{env:Env}{H:Qc}{h0:Nat}(h:lk env 6=.ptr 0 0/\lk env 7=.fn (.func 179) [] [.ptr 0 0]/\lk env 32=.rsl 57 (map Fact.c l)/\lk env 33=I l.length/\lk env 34=I i):Le h0 env H (filesE l i) H:=by
  obtain⟨n,p,q,r,s⟩:=h;refine Le.env λk=>?_;by_cases a:k=6
  · subst a;exact .inr n.symm
  by_cases d:k=7
  · subst d;exact .inr p.symm
  by_cases f:k=32
  · subst f;exact .inr q.symm
  by_cases g:k=33
  · subst g;exact .inr r.symm
  by_cases m:k=34
  · subst m;exact .inr s.symm
  have e:∀j:Nat,k≠j->Nat.beq k j=false:=λj hj=>by
    cases z:Nat.beq k j with
    |true=>exact absurd (XO z) hj
    |false=>rfl
  left;unfold filesE;simp only[lk,e _ a,e _ d,e _ f,e _ g,e _ m];rfl
theorem Qhd:∀(l:List Nat) (H:Qc),(Qb5 H l).length=H.length
  |[],H=>rfl
  |i::l,H=>by unfold Qb5;rw[Qhd l,X2]
theorem QqN{bk:QaV Fact Report}{G:Qc}{env:Env}(hB:YP Ub.K 2 (preF bk++G) bk)(he:lk env 6=.ptr 0 0):Le 0 env (preF bk++G) [(6,.ptr 0 0)] [.cells 251 [.map 1],.fmap (Qw ekI (rpE Ub.K) (QeW (bk.map (·.1))))]:=by
  refine Em (Qo7 Ub.K (m:=1) hB Z Z) ?_;have hl:(Qb5 (preF bk++G) (QdG bk)).length=G.length+2:=by rw[Qhd];simp[preF]
  have hn:∀i,i<2->i∉QdG bk:=λi hi q=>by have:=(hB.all.2 i q).1;omega
  have d:((Qb5 (preF bk++G) (QdG bk)).set 1 (.fmap (Qw ekI (rpE Ub.K) (QeW (bk.map (·.1))))))[0]?=some (.cells 251 [.map 1]):=by
    rw[XN (by omega),Qhe (hn 0 (by omega))];rfl
  have e:((Qb5 (preF bk++G) (QdG bk)).set 1 (.fmap (Qw ekI (rpE Ub.K) (QeW (bk.map (·.1))))))[1]?=some (.fmap (Qw ekI (rpE Ub.K) (QeW (bk.map (·.1))))):=by
    rw[Xa (by rw[hl];omega)]
  refine Qpa 2 (XS _) (by rw[X2,hl];omega) ?_ ⟨he,trivial⟩;exact congr (congrArg (λa b=>[a,b]) d.symm) e.symm
theorem Qoj{H:Qc}{bk:QaV Fact Report}(h0:H[0]?=some (.cells 251 [.map 1]))(d:H[1]?=some (.mapP (Qw ekI QeS (Y7 bk)))):H=preF bk++H.drop 2:=by
  match H,h0,d with
  |a::b::G,h0,d=>
    simp at h0 d;subst h0 d;rfl
theorem QfY{l r:QaV Fact Report}{e:Fil Fact Report×Pl}{x':Fil Fact Report}{p':Pl}{H:Qc}{fs:List Ub}{k:Int}{g:Fil Fact Report->Fil Fact Report}(hB:YP Ub.K 2 H (l++e::r))(hek:e.1.number=k)(hbk:(l++e::r).map (·.1)=Qad fs k)(hx:g e.1=x'):(l++(x',p')::r).map (·.1)=QbV (Qad fs k) k g:=by
  rw[<- hbk,Xg,Xg,Vg,Vg,Qpn (by have:=hB.num;simpa[Function.comp_def]using this) hek,hx]
theorem QqO{l r:QaV Fact Report}{e:Fil Fact Report×Pl}{G:Qc}(hB:YP Ub.K 2 (preF (l++e::r)++G) (l++e::r)):∃G',(preF (l++e::r)++G).set e.2.b (.cells 200 (Yj Ub.K e.2 {e.1 with appeal:=true}))=preF (l++({e.1 with appeal:=true},e.2)::r)++G'/\YP Ub.K 2 ((preF (l++e::r)++G).set e.2.b (.cells 200 (Yj Ub.K e.2 {e.1 with appeal:=true}))) (l++({e.1 with appeal:=true},e.2)::r):=by
  have hb:2<=e.2.b:=hB.lo e (by simp) _ (by simp[Pl.ix]);have hl:=hB.laid e (by simp);have hlt:=hl.lt e.2.b (by simp[Pl.ix]);have ho:=hB.own e (by simp);simp only[Pl.ix,List.nodup_cons,X4,List.not_mem_nil,or_false,not_or]at ho;obtain⟨⟨n0,n1,n2,n3⟩,_⟩:=ho;refine⟨_,Qoj ?_ ?_,hB.upd ⟨?_,?_,?_,?_,?_⟩ Z ?_ (λi hi=>.inl hi) (hB.own e (by simp)) (by simp[preF])⟩
  · rw[XN (by omega)];rfl
  · rw[XN (by omega)];simp[preF,Y7]
  · rw[Xa hlt]
  · rw[XN n0];exact hl.r0
  · rw[XN n1];exact hl.r1
  · rw[XN n2];exact hl.r2
  · rw[XN n3];exact hl.r3
  · intro j _ _ q
    rw[XN (λz=>q (by rw[<- z];simp[Pl.ix]))]
theorem Qok{β:Type}{c:Bool}{x:Option β}{y:β}(h:(bif c then x else none)=some y):c=true/\x=some y:=by
  cases c with
  |true=>exact⟨Z,h⟩
  |false=>cases h
theorem Qie{β:Type}{l:List β}{x:β}(h:l.length+1<=QD):app l [x]=some (l++[x]):=by
  unfold app;simp[XQ h]
theorem Qid{l r:QaV Fact Report}{e:Fil Fact Report×Pl}{G:Qc}{x':Fil Fact Report}{p':Pl}{i:Nat}{y:Blk}(hB:YP Ub.K 2 (preF (l++e::r)++G) (l++e::r))(hi:i∈e.2.ix)(hib:i≠e.2.b)(hn:x'.number=e.1.number)(hb:p'.b=e.2.b)
    (hp:p'.ix=e.2.ix.map λj=>bif Nat.beq j i then(preF (l++e::r)++G).length else j)
    (hrows:∀H':Qc,(∀j,j∈e.2.ix->j≠i->j≠e.2.b->H'[j]?=(preF (l++e::r)++G)[j]?)->H'[(preF (l++e::r)++G).length]?=some y->
      H'[p'.i0]?=some (.row Ub.K.tF Ub.K.kF (x'.r0.map Ub.K.eF))/\H'[p'.i1]?=some (.row Ub.K.tF Ub.K.kF (x'.r1.map Ub.K.eF))/\H'[p'.i2]?=some (.row Ub.K.tF Ub.K.kF (x'.r2.map Ub.K.eF))/\H'[p'.i3]?=some (.row Ub.K.tR Ub.K.kR (x'.reports.map Ub.K.eR))):
    ((preF (l++e::r)++G).set i .dead++[y])[e.2.b]?=some (.cells 200 (Yj Ub.K e.2 e.1))/\ ∃G2,((preF (l++e::r)++G).set i .dead++[y]).set e.2.b (.cells 200 (Yj Ub.K p' x'))=preF (l++(x',p')::r)++G2/\
      YP Ub.K 2 (((preF (l++e::r)++G).set i .dead++[y]).set e.2.b (.cells 200 (Yj Ub.K p' x'))) (l++(x',p')::r):=by
  have hl:=hB.laid e (by simp);have hlt:=hl.lt;have hbl:=hlt e.2.b (by simp[Pl.ix]);have g:2<=e.2.b:=hB.lo e (by simp) _ (by simp[Pl.ix]);have hi2:2<=i:=hB.lo e (by simp) _ hi;have hlow:∀j,j<2->(((preF (l++e::r)++G).set i .dead++[y]).set e.2.b (.cells 200 (Yj Ub.K p' x')))[j]?=(preF (l++e::r)++G)[j]? :=λj hj=>by
    rw[XN (by omega),XK (by simp[preF];omega),XN (by omega)]
  have hr:=hrows (((preF (l++e::r)++G).set i .dead++[y]).set e.2.b (.cells 200 (Yj Ub.K p' x'))) (λj a d f=>by
    rw[XN (λq=>f q.symm),XK (by rw[X2];exact hlt j a),XN (λq=>d q.symm)]) (by
    rw[XN (by omega),XL (by rw[X2];exact XR _),X2,Nat.sub_self];rfl)
  obtain⟨h0,a,d,f⟩:=hr;refine⟨?_,_,Qoj ?_ ?_,hB.row (by simp[preF]) hn hi hib hb Z hp h0 a d f⟩
  · rw[XK (by rw[X2];exact hbl),XN hib];exact hl.c
  · rw[hlow 0 (by omega)];rfl
  · rw[hlow 1 (by omega),Qm2 hn hb];rfl
theorem nbF{a b:Nat}(h:a≠b):Nat.beq a b=false:=by
  cases z:Nat.beq a b with
  |true=>exact absurd (XO z) h
  |false=>rfl
theorem QpE{l r:QaV Fact Report}{e:Fil Fact Report×Pl}{G:Qc}(rs:List Report)(hB:YP Ub.K 2 (preF (l++e::r)++G) (l++e::r)):((preF (l++e::r)++G).set e.2.i3 .dead++[Blk.row 60 4 (map Report.c rs)])[e.2.b]?=some (.cells 200 (Yj Ub.K e.2 e.1))/\ ∃G2,((preF (l++e::r)++G).set e.2.i3 .dead++[Blk.row 60 4 (map Report.c rs)]).set e.2.b (.cells 200 (Yj Ub.K {e.2 with i3:=(preF (l++e::r)++G).length} {e.1 with reports:=rs}))=preF (l++({e.1 with reports:=rs},{e.2 with i3:=(preF (l++e::r)++G).length})::r)++G2/\
      YP Ub.K 2 (((preF (l++e::r)++G).set e.2.i3 .dead++[Blk.row 60 4 (map Report.c rs)]).set e.2.b (.cells 200 (Yj Ub.K {e.2 with i3:=(preF (l++e::r)++G).length} {e.1 with reports:=rs}))) (l++({e.1 with reports:=rs},{e.2 with i3:=(preF (l++e::r)++G).length})::r):=by
  have hl:=hB.laid e (by simp);have ho:=hB.own e (by simp);simp only[Pl.ix,List.nodup_cons,X4,List.not_mem_nil,or_false,not_or]at ho;obtain⟨⟨f,b1,b2,a⟩,⟨n1,n2,n3⟩,⟨g,d⟩,k3,_⟩:=ho;refine Qid (x':={e.1 with reports:=rs}) (p':={e.2 with i3:=(preF (l++e::r)++G).length}) hB (by simp[Pl.ix]) (λq=>a q.symm) Z Z ?_ (λH' hk hn=>⟨?_,?_,?_,hn⟩)
  · simp only[Pl.ix,Vg,Vh,nbF a,nbF n3,nbF d,nbF k3,VC,Vl,Vm]
  · exact(hk e.2.i0 (by simp[Pl.ix]) n3 (λq=>f q.symm)).trans hl.r0
  · exact(hk e.2.i1 (by simp[Pl.ix]) d (λq=>b1 q.symm)).trans hl.r1
  · exact(hk e.2.i2 (by simp[Pl.ix]) k3 (λq=>b2 q.symm)).trans hl.r2
theorem QpH{l r:QaV Fact Report}{e:Fil Fact Report×Pl}{G:Qc}(rs:List Fact)(hB:YP Ub.K 2 (preF (l++e::r)++G) (l++e::r)):((preF (l++e::r)++G).set e.2.i0 .dead++[Blk.row 68 57 (map Fact.c rs)])[e.2.b]?=some (.cells 200 (Yj Ub.K e.2 e.1))/\ ∃G2,((preF (l++e::r)++G).set e.2.i0 .dead++[Blk.row 68 57 (map Fact.c rs)]).set e.2.b (.cells 200 (Yj Ub.K {e.2 with i0:=(preF (l++e::r)++G).length} {e.1 with r0:=rs}))=preF (l++({e.1 with r0:=rs},{e.2 with i0:=(preF (l++e::r)++G).length})::r)++G2/\
      YP Ub.K 2 (((preF (l++e::r)++G).set e.2.i0 .dead++[Blk.row 68 57 (map Fact.c rs)]).set e.2.b (.cells 200 (Yj Ub.K {e.2 with i0:=(preF (l++e::r)++G).length} {e.1 with r0:=rs}))) (l++({e.1 with r0:=rs},{e.2 with i0:=(preF (l++e::r)++G).length})::r):=by
  have hl:=hB.laid e (by simp);have ho:=hB.own e (by simp);simp only[Pl.ix,List.nodup_cons,X4,List.not_mem_nil,or_false,not_or]at ho;obtain⟨⟨a,b1,b2,d⟩,⟨n1,n2,n3⟩,⟨f,g⟩,k3,_⟩:=ho;refine Qid (x':={e.1 with r0:=rs}) (p':={e.2 with i0:=(preF (l++e::r)++G).length}) hB (by simp[Pl.ix]) (λq=>a q.symm) Z Z ?_ (λH' hk hn=>⟨hn,?_,?_,?_⟩)
  · simp only[Pl.ix,Vg,Vh,nbF a,nbF (show e.2.i1≠e.2.i0 from λq=>n1 q.symm),nbF (show e.2.i2≠e.2.i0 from λq=>n2 q.symm),nbF (show e.2.i3≠e.2.i0 from λq=>n3 q.symm),VC,Vl,Vm]
  · exact(hk e.2.i1 (by simp[Pl.ix]) (λq=>n1 q.symm) (λq=>b1 q.symm)).trans hl.r1
  · exact(hk e.2.i2 (by simp[Pl.ix]) (λq=>n2 q.symm) (λq=>b2 q.symm)).trans hl.r2
  · exact(hk e.2.i3 (by simp[Pl.ix]) (λq=>n3 q.symm) (λq=>d q.symm)).trans hl.r3
theorem QpG{l r:QaV Fact Report}{e:Fil Fact Report×Pl}{G:Qc}(rs:List Fact)(hB:YP Ub.K 2 (preF (l++e::r)++G) (l++e::r)):((preF (l++e::r)++G).set e.2.i1 .dead++[Blk.row 68 57 (map Fact.c rs)])[e.2.b]?=some (.cells 200 (Yj Ub.K e.2 e.1))/\ ∃G2,((preF (l++e::r)++G).set e.2.i1 .dead++[Blk.row 68 57 (map Fact.c rs)]).set e.2.b (.cells 200 (Yj Ub.K {e.2 with i1:=(preF (l++e::r)++G).length} {e.1 with r1:=rs}))=preF (l++({e.1 with r1:=rs},{e.2 with i1:=(preF (l++e::r)++G).length})::r)++G2/\
      YP Ub.K 2 (((preF (l++e::r)++G).set e.2.i1 .dead++[Blk.row 68 57 (map Fact.c rs)]).set e.2.b (.cells 200 (Yj Ub.K {e.2 with i1:=(preF (l++e::r)++G).length} {e.1 with r1:=rs}))) (l++({e.1 with r1:=rs},{e.2 with i1:=(preF (l++e::r)++G).length})::r):=by
  have hl:=hB.laid e (by simp);have ho:=hB.own e (by simp);simp only[Pl.ix,List.nodup_cons,X4,List.not_mem_nil,or_false,not_or]at ho;obtain⟨⟨f,b1,b2,g⟩,⟨n1,n2,n3⟩,⟨a,d⟩,k3,_⟩:=ho;refine Qid (x':={e.1 with r1:=rs}) (p':={e.2 with i1:=(preF (l++e::r)++G).length}) hB (by simp[Pl.ix]) (λq=>b1 q.symm) Z Z ?_ (λH' hk hn=>⟨?_,hn,?_,?_⟩)
  · simp only[Pl.ix,Vg,Vh,nbF b1,nbF n1,nbF (show e.2.i2≠e.2.i1 from λq=>a q.symm),nbF (show e.2.i3≠e.2.i1 from λq=>d q.symm),VC,Vl,Vm]
  · exact(hk e.2.i0 (by simp[Pl.ix]) n1 (λq=>f q.symm)).trans hl.r0
  · exact(hk e.2.i2 (by simp[Pl.ix]) (λq=>a q.symm) (λq=>b2 q.symm)).trans hl.r2
  · exact(hk e.2.i3 (by simp[Pl.ix]) (λq=>d q.symm) (λq=>g q.symm)).trans hl.r3
theorem QpF{l r:QaV Fact Report}{e:Fil Fact Report×Pl}{G:Qc}(rs:List Fact)(hB:YP Ub.K 2 (preF (l++e::r)++G) (l++e::r)):((preF (l++e::r)++G).set e.2.i2 .dead++[Blk.row 68 57 (map Fact.c rs)])[e.2.b]?=some (.cells 200 (Yj Ub.K e.2 e.1))/\ ∃G2,((preF (l++e::r)++G).set e.2.i2 .dead++[Blk.row 68 57 (map Fact.c rs)]).set e.2.b (.cells 200 (Yj Ub.K {e.2 with i2:=(preF (l++e::r)++G).length} {e.1 with r2:=rs}))=preF (l++({e.1 with r2:=rs},{e.2 with i2:=(preF (l++e::r)++G).length})::r)++G2/\
      YP Ub.K 2 (((preF (l++e::r)++G).set e.2.i2 .dead++[Blk.row 68 57 (map Fact.c rs)]).set e.2.b (.cells 200 (Yj Ub.K {e.2 with i2:=(preF (l++e::r)++G).length} {e.1 with r2:=rs}))) (l++({e.1 with r2:=rs},{e.2 with i2:=(preF (l++e::r)++G).length})::r):=by
  have hl:=hB.laid e (by simp);have ho:=hB.own e (by simp);simp only[Pl.ix,List.nodup_cons,X4,List.not_mem_nil,or_false,not_or]at ho;obtain⟨⟨d,b1,b2,f⟩,⟨n1,n2,n3⟩,⟨a,g⟩,k3,_⟩:=ho;refine Qid (x':={e.1 with r2:=rs}) (p':={e.2 with i2:=(preF (l++e::r)++G).length}) hB (by simp[Pl.ix]) (λq=>b2 q.symm) Z Z ?_ (λH' hk hn=>⟨?_,?_,hn,?_⟩)
  · simp only[Pl.ix,Vg,Vh,nbF b2,nbF n2,nbF a,nbF (show e.2.i3≠e.2.i2 from λq=>k3 q.symm),VC,Vl,Vm]
  · exact(hk e.2.i0 (by simp[Pl.ix]) n2 (λq=>d q.symm)).trans hl.r0
  · exact(hk e.2.i1 (by simp[Pl.ix]) a (λq=>b1 q.symm)).trans hl.r1
  · exact(hk e.2.i3 (by simp[Pl.ix]) (λq=>k3 q.symm) (λq=>f q.symm)).trans hl.r3
def F_le(n:Nat)(e:List Fact)(a:(List Fact)×Int):Option (Ctl ((List Fact)×Int) (List Fact)):=(bif decide (a.2<(e.length:Int))then(idx e a.2).bind λd=>(F_ar n d).bind λf=>((bif (f==0)then(app a.1 [d]).bind λg=>some g else some a.1):Option (List Fact)).bind λh=>some (.cont (h,i64.wrap (a.2+1)))else some (.done a.1))
def F_iz(n:Nat)(a:List Ub)(d:Int×Ub):Option (Ctl (List Ub) (List Ub)):=(app a [d.2]).bind λe=>some (.cont e)
def F_lg(n:Nat)(a:List Ub):Option (List Ub):=some a
def F_hg(n:Nat)(h:List Fact):Option (List Ub):=(iter (F_le n h) n ([],0):Option (List Fact)).bind λa=>(F_bk n a).bind λd=>(iter (filesL n d) n (([]:List Ub),0):Option (List Ub)).bind λe=>anyP (λp77=>(Qfw (F_iz n) (F_lg n) [] p77).bind λf=>(F_dt n f).bind λg=>some g) (QeW e)
theorem k_hg(n:Nat)(a1:List Fact):Ks (F_hg n a1) 119 [.rsl 57 (map Fact.c a1)] [] (λr=>.rsl 1 (map Ub.ptr r)):=by
 refine Kg 14 func119 Z Z Z Z λr h=>Lm Z (Go 3 Z (Bd h λz ae h=>?_));refine Ct z [0] [] (λz=>[(3,.osl 0 0 z.length 57)]) (λz=>[(0,.row 68 57 (map Fact.c z))]) Zf ?_ (λenv H q=>?_)
 .refine G0 1 Z ?_;refine Lp [0] [15,16] (λB=>[(3,.osl 0 0 B.1.length 57),(17,I B.2)]) (λB=>[(0,.row 68 57 (map Fact.c B.1))]) ae Zf ?_ ?_
  .refine Em (Eo (s:=3) (k:=57) (t:=68) (XP Z) Z) ?_;exact Lr [0]
  intro B au a V;refine G0 6 Z (Yh Z a (λW a=>?_) (λW a=>?_))
  .refine Gc 2 Z (Qh a ?_);obtain rfl:=Oj V a;exact Gx 1 Z (QC (Lr [0]))
  refine Gc 6 Z (Bd a λaf Y a=>Iz Y Z (Go 8 Z (Cz [] a (k_ar _ _) Z λav ao a=>Go 3 Z (Bd a λE u a=>?_))));refine Ct E [0] [15,16,17] (λE=>[(3,.osl 0 0 E.length 57)]) (λE=>[(0,.row 68 57 (map Fact.c E))]) Zf ?_ (λenv H q=>?_)
  .refine G0 0 Z (Cn Z u (λaa u=>?_) (λaa u=>?_))
   .refine Gc 3 Z ?_;refine vH (Ej (xs:=[.tmp 25]) (es:=map Fact.c [af]) Y0 Z Z Z Z Z ⟨Z,trivial⟩ Z Z) ?_;refine FE Z (Bd u λaw ab u=>?_);refine vH (Qk (e:=Fact.c) ab Y0 EA (QQ (i:=2))) ?_;exact FE Z (Go 2 Z (Cl u [3]))
   exact Gc 1 Z (Cl u [0])
  exact Gx 2 Z (Qb q (Gc 4 Z (Qf a (Lr [0]))))
 refine Gx 1 Z (Qb q (Gc 2 Z ?_));refine vH Qlq ?_;refine FE Z (Go 14 Z ?_);refine QH (Qao [(3,_),(31,_)] Z Z (Qpb.cons Z En (Qpb.cons Z En Qpb.nil)) (Ec (Jj _))) ?_;refine Cd [] h (k_bk _ _) Z λw aq h=>FE Z (Go 4 Z ?_);refine Qb (Qao [(32,_)] Z Z (Qpb.cons Z En Qpb.nil) (Ec (Ec (Ec (Ec (Jj _)))))) ?_;refine Bd h λag ah h=>?_;refine TC.cut [(6,.ptr 0 0)] [.cells 251 [.map 1],.fmap (Qw (λx=>A.int .i64 x) (rpE Ub.K) (QeW ag))] ?_ (λenv H q=>?_)
 .refine TC.block (Qb (env':=filesE w 0) (H':=preF []) (Lr [2,1]) ?_);refine Qj4 (I:=filesI w) ?_ ah ⟨⟨Z,Z,Z,Z,Z⟩,[],[],Z,YP.nil,Z⟩;rintro s d env H ⟨he,bk,G,rfl,hB,hfs⟩ hs hd;refine Qb (Qhn he) ?_;refine TC.seq (TC.region (vV (x:=.bool (decide (s.2<(w.length:Int)))) (OpV.lss Z Z Z) (WO.nil ?_)));refine TC.seq ?_;unfold filesL at hs;refine TC.cond (x:=.tmp 35) (t:=decide (s.2<(w.length:Int))) Z (λht=>TC.skip ?_) (λht=>TC.exit ?_)
  · rw[ht,Vl]at hs
    obtain⟨f,hf,hs⟩:=YU hs;obtain⟨fs,hst,hs⟩:=YU hs;cases hs;refine TC.seq (TC.mono (Q:=filesJ w fs s.2) (TC.block (TC.seq (TC.region ?_))) ?_)
    rotate_left
    · rintro x env H ⟨rfl,he,bk',G',rfl,hB',hfs'⟩
      refine Qb (Qhn he) (TC.region ?_);refine vV (x:=I (i64.wrap (s.2+1))) (OpV.add Z Z Z) ?_;refine vV (x:=I (i64.wrap (s.2+1))) (OpV.move Z Z) (WO.nil ?_);exact⟨_,Z,⟨Z,Z,Z,Z,Z⟩,bk',G',Z,hB',hfs'⟩
    refine vV (x:=.rp (Fact.c f)) (Qcz (e:=Fact.c) hf EA EB) ?_;refine vV (x:=.agg (Fact.c f)) (Qo Z EJ EB Z Pts.rp Z Z) ?_;refine Qm6 (v:=.agg (Fact.c Uk)) (cs:=Fact.c f) Gj (zrC Z) EB (WO.nil ?_);refine TC.seq (TC.region ?_);refine vV (QE Qfa Z Z Z) ?_;refine vV (x:=I f.Kind) (Ey Z EE Z Pts.rp) (WO.nil ?_);refine TC.block (TC.seq (TC.region ?_));refine vV (x:=.bool (f.Kind==10)) (OpV.eql Z Z Z) ?_;refine vV (OpV.assign Z Z) (WO.nil ?_);unfold filesStep at hst;refine TC.cond (t:=f.Kind==10) Z (λL=>?_) (λL=>?_)
    · rw[L,Vl]at hst
      obtain⟨hroom,hst⟩:=Qok hst;refine TC.seq (TC.region ?_);refine vV (OpV.move Z Z) ?_;refine vV (QE Jo Z Z Z) ?_;refine vV (QE QlW Z Z Z) ?_;refine vV (x:=I f.Ruling.Case) (Ey Z EE Z Pts.rp) ?_;refine Qc6 (QdQ call179 Z Z Z Z) (QkL f.Ruling.Case bk G hB) ?_ (XS _);rintro _ _ ⟨l,e,r,G',rfl,rfl,hB',hek,hbk⟩;refine vV (OpV.assign Z Z) (WO.nil ?_);refine Qb (Qp2 (env':=[(6,.ptr 0 0),(7,.fn (.func 179) [] [.ptr 0 0]),(32,.rsl 57 (map Fact.c w)),(33,I w.length),(34,I s.2),(9,.rp (Fact.c f)),(10,.ptr e.2.b 0)]) ⟨Z,Z,Z,Z,Z,Z,Z,trivial⟩) ?_;have hl:=hB'.laid e (by simp);have hrm:=Qi4 (l:=l.map (·.1)) (r:=r.map (·.1)) (x:=e.1) (by rw[<- Vg, <- Xg,hbk,hfs];exact hroom);unfold filesAdd at hst;refine If hst (λhi hst=>?_) (λhi0 hst=>If hst (λhi hst=>?_) (λhi1 hst=>If hst (λhi hst=>?_) (λhi2 hst=>by cases hst)))
      ·
        cases hst;have happ:app e.1.r0 [f]=some (e.1.r0++[f]):=Qie hrm.1;refine DKs 18 [14] [(0,0,1),(0,0,1),(0,0,1),(0,0,1),(0,0,0),(0,0,0),(0,0,0),(0,0,0),(0,0,0),(0,0,0),(0,0,0),(0,0,0),(0,0,0),(0,0,0),(1,0,0),(0,0,1),(0,0,1),(0,0,1)] (by kernel_rfl) ?_;refine Qpj (ds':=[47,48,49,50,51,52,53,54,55,56,57,58,59,60,61,62,63,64]) Z ?_;refine DK.wa (x:=.ptr e.2.b 0) (λX=>vV (OpV.move Z Z) Wp) ?_;refine DK.ad Z ?_;refine DK.wa (x:=.rp ((Fact.c f).drop 47)) (λX=>vV (QE Jo Z Z Z) Wp) ?_;refine DK.ad Z ?_;refine DK.wa (x:=.rp ((Fact.c f).drop 48)) (λX=>vV (QE QbD Z Z Z) Wp) ?_;refine DK.ad Z ?_;refine DK.wa (x:=I f.Ruling.Instance) (λX=>vV (Ey Z EE Z Pts.rp) Wp) ?_;refine DK.ad Z ?_;refine DK.wo (x:=.ptr e.2.b 0) (vV (OpV.move Z Z) Wp) ?_;refine DK.ad Z ?_;refine DK.wo (x:=.rp ((Fact.c f).drop 47)) (vV (QE Jo Z Z Z) Wp) ?_;refine DK.ad Z ?_;refine DK.wo (x:=.rp ((Fact.c f).drop 48)) (vV (QE QbD Z Z Z) Wp) ?_;refine DK.ad Z ?_;refine DK.wo (x:=I f.Ruling.Instance) (vV (Ey Z EE Z Pts.rp) Wp) ?_;refine DK.ad Z ?_;refine DK.wo (x:=.ptr e.2.b 0) (vV (YS Z) Wp) ?_;refine DK.ad Z ?_;refine DK.wo (x:=.ptr e.2.b 1) (vV (YI QaJ Z Z) Wp) ?_;refine DK.ad Z ?_;refine DK.wo (x:=.ptr e.2.b 1) (vV (Yg (n:=3) (k:=1) (j:=0) hi Z E0 Gf Z) Wp) ?_;refine DK.ad Z ?_;refine DK.wo (x:=.osl e.2.i0 0 e.1.r0.length 57) (vV (Ey Z isAgg34 Z (Pts.cells hl.c Z)) Wp) ?_;refine DK.ad Z ?_;refine DK.wo (x:=.agg (Fact.c f)) (vV (Qo Z EJ EB Z Pts.rp Z Z) Wp) ?_;refine DK.ad Z ?_;refine DK.wo (x:=.rsl 57 (map Fact.c [f])) (Jr (XR _) Z Z Z (Yi (xs:=[.tmp 59]) (es:=map Fact.c [f]) Y0 Z Z Z Z Z ⟨Z,trivial⟩ Z Z) Wp) ?_;refine DK.ad Z ?_;refine Ew (x:=.osl (preF (l++e::r)++G').length 0 (e.1.r0++[f]).length 57) (Jr (XR _) Z Z Z (Qk (e:=Fact.c) (l:=e.1.r0) (m:=[f]) happ Y0 EA Js (hH:=hl.r0)) Wp) ?_ (hl:=by simp);refine DK.ad Z ?_;refine DK.wa (x:=.ptr e.2.b 0) (λX=>vV (YS Z) Wp) ?_;refine DK.ad Z ?_;refine DK.wa (x:=.ptr e.2.b 1) (λX=>vV (YI QaJ Z Z) Wp) ?_;refine DK.ad Z ?_;refine DK.wa (x:=.ptr e.2.b 1) (λX=>vV (Yg (n:=3) (k:=1) (j:=0) hi Z E0 Gf Z) Wp) ?_;refine DK.ad Z ?_;refine DK.done Z Z ?_;obtain⟨y,G2,hG,hB2⟩:=QpH (e.1.r0++[f]) hB';refine QbK (XS _) Z Z (Ex (i:=e.2.b) (off:=1) (n:=1) (v:=.osl (preF (l++e::r)++G').length 0 (e.1.r0++[f]).length 57) (vs:=[.osl (preF (l++e::r)++G').length 0 (e.1.r0++[f]).length 57]) (cs:=Yj Ub.K e.2 e.1) (cs':=Yj Ub.K {e.2 with i0:=(preF (l++e::r)++G').length} {e.1 with r0:=e.1.r0++[f]}) Z Z y Gf Z Z Z Z Z Z Z) (WO.nil ?_);exact⟨Z,⟨Z,Z,Z,Z,Z⟩,l++({e.1 with r0:=e.1.r0++[f]},{e.2 with i0:=(preF (l++e::r)++G').length})::r,G2,hG,hB2,QfY hB' hek (by rw[hbk,hfs]) Z⟩
      ·
        cases hst;have happ:app e.1.r1 [f]=some (e.1.r1++[f]):=Qie hrm.2.1;refine DKs 18 [14] [(0,0,1),(0,0,1),(0,0,1),(0,0,1),(0,0,0),(0,0,0),(0,0,0),(0,0,0),(0,0,0),(0,0,0),(0,0,0),(0,0,0),(0,0,0),(0,0,0),(1,0,0),(0,0,1),(0,0,1),(0,0,1)] (by kernel_rfl) ?_;refine Qpj (ds':=[47,48,49,50,51,52,53,54,55,56,57,58,59,60,61,62,63,64]) Z ?_;refine DK.wa (x:=.ptr e.2.b 0) (λX=>vV (OpV.move Z Z) Wp) ?_;refine DK.ad Z ?_;refine DK.wa (x:=.rp ((Fact.c f).drop 47)) (λX=>vV (QE Jo Z Z Z) Wp) ?_;refine DK.ad Z ?_;refine DK.wa (x:=.rp ((Fact.c f).drop 48)) (λX=>vV (QE QbD Z Z Z) Wp) ?_;refine DK.ad Z ?_;refine DK.wa (x:=I f.Ruling.Instance) (λX=>vV (Ey Z EE Z Pts.rp) Wp) ?_;refine DK.ad Z ?_;refine DK.wo (x:=.ptr e.2.b 0) (vV (OpV.move Z Z) Wp) ?_;refine DK.ad Z ?_;refine DK.wo (x:=.rp ((Fact.c f).drop 47)) (vV (QE Jo Z Z Z) Wp) ?_;refine DK.ad Z ?_;refine DK.wo (x:=.rp ((Fact.c f).drop 48)) (vV (QE QbD Z Z Z) Wp) ?_;refine DK.ad Z ?_;refine DK.wo (x:=I f.Ruling.Instance) (vV (Ey Z EE Z Pts.rp) Wp) ?_;refine DK.ad Z ?_;refine DK.wo (x:=.ptr e.2.b 0) (vV (YS Z) Wp) ?_;refine DK.ad Z ?_;refine DK.wo (x:=.ptr e.2.b 1) (vV (YI QaJ Z Z) Wp) ?_;refine DK.ad Z ?_;refine DK.wo (x:=.ptr e.2.b 2) (vV (Yg (n:=3) (k:=1) (j:=1) hi Z E0 Gf Z) Wp) ?_;refine DK.ad Z ?_;refine DK.wo (x:=.osl e.2.i1 0 e.1.r1.length 57) (vV (Ey Z isAgg34 Z (Pts.cells hl.c Z)) Wp) ?_;refine DK.ad Z ?_;refine DK.wo (x:=.agg (Fact.c f)) (vV (Qo Z EJ EB Z Pts.rp Z Z) Wp) ?_;refine DK.ad Z ?_;refine DK.wo (x:=.rsl 57 (map Fact.c [f])) (Jr (XR _) Z Z Z (Yi (xs:=[.tmp 59]) (es:=map Fact.c [f]) Y0 Z Z Z Z Z ⟨Z,trivial⟩ Z Z) Wp) ?_;refine DK.ad Z ?_;refine Ew (x:=.osl (preF (l++e::r)++G').length 0 (e.1.r1++[f]).length 57) (Jr (XR _) Z Z Z (Qk (e:=Fact.c) (l:=e.1.r1) (m:=[f]) happ Y0 EA Js (hH:=hl.r1)) Wp) ?_ (hl:=by simp);refine DK.ad Z ?_;refine DK.wa (x:=.ptr e.2.b 0) (λX=>vV (YS Z) Wp) ?_;refine DK.ad Z ?_;refine DK.wa (x:=.ptr e.2.b 1) (λX=>vV (YI QaJ Z Z) Wp) ?_;refine DK.ad Z ?_;refine DK.wa (x:=.ptr e.2.b 2) (λX=>vV (Yg (n:=3) (k:=1) (j:=1) hi Z E0 Gf Z) Wp) ?_;refine DK.ad Z ?_;refine DK.done Z Z ?_;obtain⟨y,G2,hG,hB2⟩:=QpG (e.1.r1++[f]) hB';refine QbK (XS _) Z Z (Ex (i:=e.2.b) (off:=2) (n:=1) (v:=.osl (preF (l++e::r)++G').length 0 (e.1.r1++[f]).length 57) (vs:=[.osl (preF (l++e::r)++G').length 0 (e.1.r1++[f]).length 57]) (cs:=Yj Ub.K e.2 e.1) (cs':=Yj Ub.K {e.2 with i1:=(preF (l++e::r)++G').length} {e.1 with r1:=e.1.r1++[f]}) Z Z y Gf Z Z Z Z Z Z Z) (WO.nil ?_);exact⟨Z,⟨Z,Z,Z,Z,Z⟩,l++({e.1 with r1:=e.1.r1++[f]},{e.2 with i1:=(preF (l++e::r)++G').length})::r,G2,hG,hB2,QfY hB' hek (by rw[hbk,hfs]) Z⟩
      ·
        cases hst;have happ:app e.1.r2 [f]=some (e.1.r2++[f]):=Qie hrm.2.2.1;refine DKs 18 [14] [(0,0,1),(0,0,1),(0,0,1),(0,0,1),(0,0,0),(0,0,0),(0,0,0),(0,0,0),(0,0,0),(0,0,0),(0,0,0),(0,0,0),(0,0,0),(0,0,0),(1,0,0),(0,0,1),(0,0,1),(0,0,1)] (by kernel_rfl) ?_;refine Qpj (ds':=[47,48,49,50,51,52,53,54,55,56,57,58,59,60,61,62,63,64]) Z ?_;refine DK.wa (x:=.ptr e.2.b 0) (λX=>vV (OpV.move Z Z) Wp) ?_;refine DK.ad Z ?_;refine DK.wa (x:=.rp ((Fact.c f).drop 47)) (λX=>vV (QE Jo Z Z Z) Wp) ?_;refine DK.ad Z ?_;refine DK.wa (x:=.rp ((Fact.c f).drop 48)) (λX=>vV (QE QbD Z Z Z) Wp) ?_;refine DK.ad Z ?_;refine DK.wa (x:=I f.Ruling.Instance) (λX=>vV (Ey Z EE Z Pts.rp) Wp) ?_;refine DK.ad Z ?_;refine DK.wo (x:=.ptr e.2.b 0) (vV (OpV.move Z Z) Wp) ?_;refine DK.ad Z ?_;refine DK.wo (x:=.rp ((Fact.c f).drop 47)) (vV (QE Jo Z Z Z) Wp) ?_;refine DK.ad Z ?_;refine DK.wo (x:=.rp ((Fact.c f).drop 48)) (vV (QE QbD Z Z Z) Wp) ?_;refine DK.ad Z ?_;refine DK.wo (x:=I f.Ruling.Instance) (vV (Ey Z EE Z Pts.rp) Wp) ?_;refine DK.ad Z ?_;refine DK.wo (x:=.ptr e.2.b 0) (vV (YS Z) Wp) ?_;refine DK.ad Z ?_;refine DK.wo (x:=.ptr e.2.b 1) (vV (YI QaJ Z Z) Wp) ?_;refine DK.ad Z ?_;refine DK.wo (x:=.ptr e.2.b 3) (vV (Yg (n:=3) (k:=1) (j:=2) hi Z E0 Gf Z) Wp) ?_;refine DK.ad Z ?_;refine DK.wo (x:=.osl e.2.i2 0 e.1.r2.length 57) (vV (Ey Z isAgg34 Z (Pts.cells hl.c Z)) Wp) ?_;refine DK.ad Z ?_;refine DK.wo (x:=.agg (Fact.c f)) (vV (Qo Z EJ EB Z Pts.rp Z Z) Wp) ?_;refine DK.ad Z ?_;refine DK.wo (x:=.rsl 57 (map Fact.c [f])) (Jr (XR _) Z Z Z (Yi (xs:=[.tmp 59]) (es:=map Fact.c [f]) Y0 Z Z Z Z Z ⟨Z,trivial⟩ Z Z) Wp) ?_;refine DK.ad Z ?_;refine Ew (x:=.osl (preF (l++e::r)++G').length 0 (e.1.r2++[f]).length 57) (Jr (XR _) Z Z Z (Qk (e:=Fact.c) (l:=e.1.r2) (m:=[f]) happ Y0 EA Js (hH:=hl.r2)) Wp) ?_ (hl:=by simp);refine DK.ad Z ?_;refine DK.wa (x:=.ptr e.2.b 0) (λX=>vV (YS Z) Wp) ?_;refine DK.ad Z ?_;refine DK.wa (x:=.ptr e.2.b 1) (λX=>vV (YI QaJ Z Z) Wp) ?_;refine DK.ad Z ?_;refine DK.wa (x:=.ptr e.2.b 3) (λX=>vV (Yg (n:=3) (k:=1) (j:=2) hi Z E0 Gf Z) Wp) ?_;refine DK.ad Z ?_;refine DK.done Z Z ?_;obtain⟨y,G2,hG,hB2⟩:=QpF (e.1.r2++[f]) hB';refine QbK (XS _) Z Z (Ex (i:=e.2.b) (off:=3) (n:=1) (v:=.osl (preF (l++e::r)++G').length 0 (e.1.r2++[f]).length 57) (vs:=[.osl (preF (l++e::r)++G').length 0 (e.1.r2++[f]).length 57]) (cs:=Yj Ub.K e.2 e.1) (cs':=Yj Ub.K {e.2 with i2:=(preF (l++e::r)++G').length} {e.1 with r2:=e.1.r2++[f]}) Z Z y Gf Z Z Z Z Z Z Z) (WO.nil ?_);exact⟨Z,⟨Z,Z,Z,Z,Z⟩,l++({e.1 with r2:=e.1.r2++[f]},{e.2 with i2:=(preF (l++e::r)++G').length})::r,G2,hG,hB2,QfY hB' hek (by rw[hbk,hfs]) Z⟩
    · rw[L,Vm]at hst
      refine TC.seq (TC.region ?_);refine vV (x:=.bool (f.Kind==8)) (OpV.eql Z Z Z) ?_;refine vV (OpV.assign Z Z) (WO.nil ?_);refine TC.cond (t:=f.Kind==8) Z (λh8=>?_) (λh8=>?_)
      · rw[h8,Vl]at hst
        obtain⟨hroom,hst⟩:=Qok hst;cases hst;refine TC.seq (TC.region ?_);refine vV (OpV.move Z Z) ?_;refine vV (QE QfZ Z Z Z) ?_;refine vV (QE QlX Z Z Z) ?_;refine vV (x:=I f.Report.Case) (Ey Z EE Z Pts.rp) ?_;refine Qc6 (QdQ call179 Z Z Z Z) (QkL f.Report.Case bk G hB) ?_ (XS _);rintro _ _ ⟨l,e,r,G',rfl,rfl,hB',hek,hbk⟩;refine vV (OpV.assign Z Z) (WO.nil ?_);have hl:=hB'.laid e (by simp);have hrm:=(Qi4 (l:=l.map (·.1)) (r:=r.map (·.1)) (x:=e.1) (by rw[<- Vg, <- Xg,hbk,hfs];exact hroom)).2.2.2;have happ:app e.1.reports [f.Report]=some (e.1.reports++[f.Report]):=Qie hrm;refine DKs 11 [8] [(0,0,1),(0,0,0),(0,0,0),(0,0,0),(0,0,0),(0,0,0),(0,0,0),(0,0,0),(1,0,0),(0,0,1),(0,0,1)] (by kernel_rfl) ?_;refine DK.wa (x:=.ptr e.2.b 0) (λX=>vV (OpV.move Z Z) Wp) ?_;refine DK.ad Z ?_;refine DK.wo (x:=.ptr e.2.b 0) (vV (OpV.move Z Z) Wp) ?_;refine DK.ad Z ?_;refine DK.wo (x:=.ptr e.2.b 0) (vV (YS Z) Wp) ?_;refine DK.ad Z ?_;refine DK.wo (x:=.ptr e.2.b 4) (vV (YI fx_2 Z Z) Wp) ?_;refine DK.ad Z ?_;refine DK.wo (x:=.osl e.2.i3 0 e.1.reports.length 4) (vV (Ey Z isAgg198 Z (Pts.cells hl.c Z)) Wp) ?_;refine DK.ad Z ?_;refine DK.wo (x:=.rp ((Fact.c f).drop 39)) (vV (QE QfZ Z Z Z) Wp) ?_;refine DK.ad Z ?_;refine DK.wo (x:=.agg (Report.c f.Report)) (vV (Qo Z isAgg60 sizeOf60 Z Pts.rp Z Z) Wp) ?_;refine DK.ad Z ?_;refine DK.wo (x:=.rsl 4 (map Report.c [f.Report])) (Jr (XR _) Z Z Z (Yi (xs:=[.tmp 78]) (es:=map Report.c [f.Report]) Qqe Z Z Z Z Z ⟨Z,trivial⟩ Z Z) Wp) ?_;refine DK.ad Z ?_;refine Ew (x:=.osl (preF (l++e::r)++G').length 0 (e.1.reports++[f.Report]).length 4) (Jr (XR _) Z Z Z (Qk (e:=Report.c) (l:=e.1.reports) (m:=[f.Report]) happ Qqe runUnderlying198 Js (hH:=hl.r3)) Wp) ?_ (hl:=by simp);refine DK.ad Z ?_;refine DK.wa (x:=.ptr e.2.b 0) (λX=>vV (YS Z) Wp) ?_;refine DK.ad Z ?_;refine DK.wa (x:=.ptr e.2.b 4) (λX=>vV (YI fx_2 Z Z) Wp) ?_;refine DK.ad Z ?_;refine DK.done Z Z ?_;obtain⟨y,G2,hG,hB2⟩:=QpE (e.1.reports++[f.Report]) hB';refine QbK (XS _) Z Z (Ex (cs':=Yj Ub.K {e.2 with i3:=(preF (l++e::r)++G').length} {e.1 with reports:=e.1.reports++[f.Report]}) Z Z y sizeOf198 Z Z Z Z Z Z Z) (WO.nil ?_);exact⟨Z,⟨Z,Z,Z,Z,Z⟩,l++({e.1 with reports:=e.1.reports++[f.Report]},{e.2 with i3:=(preF (l++e::r)++G').length})::r,G2,hG,hB2,QfY hB' hek (by rw[hbk,hfs]) Z⟩
      · rw[h8,Vm]at hst
        refine TC.seq (TC.region ?_);refine vV (x:=.bool (f.Kind==11)) (OpV.eql Z Z Z) ?_;refine vV (OpV.assign Z Z) (WO.nil ?_);refine TC.cond (t:=f.Kind==11) Z (λM=>?_) (λM=>?_)
        · rw[M,Vl]at hst
          refine TC.seq (TC.region ?_);refine vV (QE Qjy Z Z Z) ?_;refine vV (QE QpK Z Z Z) ?_;refine vV (x:=.bool f.Appeal.Suspends) (Ey Z GG Z Pts.rp) (WO.nil ?_);refine TC.cond (t:=f.Appeal.Suspends) Z (λhs=>?_) (λhs=>TC.skip ?_)
          · rw[hs,Vl]at hst
            cases hst;refine TC.region ?_;refine vV (OpV.move Z Z) ?_;refine vV (QE Qjy Z Z Z) ?_;refine vV (QE QpL Z Z Z) ?_;refine vV (x:=I f.Appeal.Case) (Ey Z EE Z Pts.rp) ?_;refine Qc6 (QdQ call179 Z Z Z Z) (QkL f.Appeal.Case bk G hB) ?_ (XS _);rintro _ _ ⟨l,e,r,G',rfl,rfl,hB',hek,hbk⟩;refine vV (x:=.ptr e.2.b 0) (YS Z) ?_;refine vV (YI fx_3 Z Z) ?_;have hl:=hB'.laid e (by simp);refine QbK (XS _) Z Z (Ex (cs':=Yj Ub.K e.2 {e.1 with appeal:=true}) Z Z hl.c Gi Z Z Z Z Z Z Z) (WO.nil ?_);obtain⟨G2,hG,hB2⟩:=QqO hB';exact⟨Z,⟨Z,Z,Z,Z,Z⟩,_,G2,hG,hB2,QfY hB' hek (by rw[hbk,hfs]) Z⟩
          · rw[hs,Vm]at hst
            cases hst;exact⟨Z,⟨Z,Z,Z,Z,Z⟩,bk,G,Z,hB,hfs⟩
        · rw[M,Vm]at hst
          cases hst;exact TC.skip ⟨Z,⟨Z,Z,Z,Z,Z⟩,bk,G,Z,hB,hfs⟩
  · rw[ht,Vm]at hs
    cases hs;have hb:=hd _ Z;refine⟨⟨_,Z⟩,?_⟩;rw[<- hb, <- hfs];exact QqN hB Z
 refine Gx 1 Z (Qb q (Gc 9 Z ?_));refine vH (QgA Gg) ?_;refine FE Z (Go 2 Z ?_);have ai:=Ql7 h;have P:Qkn _ _ _ _ _:=λp hp=>YU (ai p hp);refine Qp0 P (λJ=>[(12,.osl 0 0 J.length 1)]) (λJ=>[.row 196 1 (map Ub.ptr J)]) ?_ (λJ env H N q=>?_)
 .refine G0 1 Z ?_;refine QoX (enc:=(λp=>((λx=>A.int .i64 x) p.1,(rpE Ub.K) p.2))) (λF=>[(12,.osl 0 0 F.length 1),(97,.ptr 1 0)]) (λF R=>[.row 196 1 (map Ub.ptr F),.iter none R]) P ?_ ?_
  .refine Em (Eo (s:=12) (k:=1) (t:=196) (XP Z) Z) ?_;exact Lr [3,2]
  intro F R aj;refine G0 2 Z ?_;refine QoT (enc:=(λp=>((λx=>A.int .i64 x) p.1,(rpE Ub.K) p.2))) aj (λax ak al=>?_) (λg T ay O az am=>?_)
  .refine Go 7 Z (QqC ?_);cases ak;exact Gx 1 Z (cutGN al (Lr [0]))
  refine aV (.tup [.bool true,I g.1,.rp (Ub.c g.2)]) [.row 196 1 (map Ub.ptr F),.iter (some (I g.1,.rp (Ub.c g.2))) (map (λp=>((λx=>A.int .i64 x) p.1,(rpE Ub.K) p.2)) T)] Z Z ?_;refine Go 10 Z ?_;refine vX (.tup [I g.1,.rp (Ub.c g.2)]) (OpV.entry (e:=(I g.1,.rp (Ub.c g.2)))) ?_;refine Go 7 Z ?_;refine vH (Ej (xs:=[.tmp 103]) (es:=map Ub.ptr [g.2]) Qis Z Z Z Z Z ⟨Z,trivial⟩ Z Z) ?_;refine FE Z (Bd O λan ac O=>?_);refine vH (Qk (e:=Ub.ptr) ac Qis ET (QQ (i:=2))) ?_;refine FE Z (Go 3 Z (QqD _ _ O am ?_));refine Em (QhH (i:=1) (H':=[.dead,.iter none (map (λp=>((λx=>A.int .i64 x) p.1,(rpE Ub.K) p.2)) T),.row 196 1 (map Ub.ptr [g.2]),.row 196 1 (map Ub.ptr an)]) Z Z) ?_;exact Lr [3,1]
 refine Gx 1 Z (Qb q (Gc 3 Z ?_));refine QH (Qao [(12,_),(106,_)] Z Z (Qpb.cons Z En (Qpb.cons Z En Qpb.nil)) (Ec (Jj _))) ?_;exact Cd [] N (k_dt _ _) Z λba ar N=>FE Z (Go 4 Z (Rt N 2 []))
def F_jy(n:Nat)(e:Ub)(a:(List Fact)×Int):Option (Ctl ((List Fact)×Int) (List Fact)):=(bif decide (a.2<3)then(idx ([e.r0,e.r1,e.r2]:List (List Fact)) a.2).bind λd=>((bif decide (1<(d.length:Int))then(slc d 1 (d.length:Int)).bind λf=>(app a.1 f).bind λg=>some g else some a.1):Option (List Fact)).bind λh=>some (.cont (h,i64.wrap (a.2+1)))else some (.done a.1))
def F_km(n:Nat)(e:List Ub)(a:(List Fact)×Int):Option (Ctl ((List Fact)×Int) (List Fact)):=(bif decide (a.2<(e.length:Int))then(idx e a.2).bind λf=>(iter (F_jy n f) n (a.1,0):Option (List Fact)).bind λd=>some (.cont (d,i64.wrap (a.2+1)))else some (.done a.1))
def F_lk(n:Nat)(d:List Fact)(a:(List Ref)×Int):Option (Ctl ((List Ref)×Int) (List Ref)):=(bif decide (a.2<(d.length:Int))then(idx d a.2).bind λe=>(app a.1 [{Crew:=e.Crew,No:=e.No:Ref}]).bind λf=>some (.cont (f,i64.wrap (a.2+1)))else some (.done a.1))
def F_hb(n:Nat)(f:List Fact):Option (List Ref):=(F_hg n f).bind λg=>(iter (F_km n g) n ([],0):Option (List Fact)).bind λe=>(F_bk n e).bind λa=>(iter (F_lk n a) n ([],0):Option (List Ref)).bind λd=>some d
theorem k_hb(n:Nat)(a1:List Fact):Kq (F_hb n a1) 57 [.rsl 57 (map Fact.c a1)] [] (λr=>.osl 0 0 r.length 2) (λr=>[.row 66 2 (map Ref.c r)]):=by
 refine Kg 14 func57 Z Z Z Z λr h=>Cd [] h (k_hg _ _) Z λr1 aj h=>FE Z (Lm Z (Go 3 Z (Bd h λw ab h=>?_)));refine Ct w [0] [2] (λw=>[(3,.osl 0 0 w.length 57)]) (λw=>[(0,.row 68 57 (map Fact.c w))]) Zf ?_ (λenv H l=>?_)
 .refine G0 1 Z ?_;refine Lp [0] [2,11,12] (λy=>[(3,.osl 0 0 y.1.length 57),(13,I y.2)]) (λy=>[(0,.row 68 57 (map Fact.c y.1))]) ab Zf ?_ ?_
  .refine Em (Eo (s:=3) (k:=57) (t:=68) (XP Z) Z) ?_;exact Lr [0]
  intro y ak g T;refine G0 6 Z (Yh Z g (λV g=>?_) (λV g=>?_))
  .refine Gc 2 Z (Qh g ?_);obtain rfl:=Oj T g;exact Gx 1 Z (QC (Lr [0]))
  refine Gc 6 Z (Bd g λE W g=>Iz W Z (Go 8 Z (Fr QaJ Z ?_)));refine vV (x:=(.agg (List.flatten (map (Qk8 57 Fact.c) ([E.r0,E.r1,E.r2]:List (List Fact)))))) (Qo Z isAgg197 sizeOf197 Z Pts.rp Z Z) ?_;refine Go 3 Z (Bd g λm X g=>?_);refine Ct m [0] [2,11,12,13] (λm=>[(3,.osl 0 0 m.length 57)]) (λm=>[(0,.row 68 57 (map Fact.c m))]) Zf ?_ (λenv H l=>?_)
  .refine G0 1 Z ?_;refine Lp [0] [2,11,12,13,20] (λp=>[(3,.osl 0 0 p.1.length 57),(21,I p.2)]) (λp=>[(0,.row 68 57 (map Fact.c p.1))]) X Zf (Lr [0]) λp ae a G=>?_;refine G0 6 Z (Yh Z a (λJ a=>?_) (λJ a=>?_))
   .refine Gc 2 Z (Qh a ?_);obtain rfl:=Oj G a;exact Gx 1 Z (QC (Lr [0]))
   refine Gc 6 Z (Bd a λF L a=>?_);refine vX (.rsl 57 (map Fact.c F)) (Qni (n:=3) (e:=(Qk8 57 Fact.c)) (v:=.rsl 57 (map Fact.c F)) L Z (λ_=>⟨_,Z⟩) Z E0 isAgg34 Gf) ?_;refine Go 6 Z (Lm Z (Go 3 Z (Bd a λq f a=>?_)));refine Ct q [0] [2,11,12,13,20,21] (λq=>[(3,.osl 0 0 q.length 57)]) (λq=>[(0,.row 68 57 (map Fact.c q))]) Zf ?_ (λenv H l=>?_)
   .refine G0 0 Z (Cn Z f (λM f=>?_) (λM f=>?_))
    .refine Gc 3 Z (Bd f λY N f=>?_);refine vX (.rsl 57 (map Fact.c Y)) (Qkd N EA EB (.inr ⟨_,Z,Z⟩) (.inl ⟨Z,Z⟩)) ?_;refine Bd f λaf O f=>?_;refine vH (Qk (e:=Fact.c) O Y0 EA Js) ?_;exact FE Z (Go 2 Z (Cl f [1]))
    exact Gc 1 Z (Cl f [0])
   exact Gx 2 Z (Qb l (Gc 4 Z (Qf a (Lr [0]))))
  exact Gx 2 Z (Qb l (Gc 4 Z (Qf g (Lr [0]))))
 refine Gx 1 Z (Qb l (Gc 4 Z ?_));refine QH (Qao [(3,_),(33,_)] Z Z (Qpb.cons Z En (Qpb.cons Z En Qpb.nil)) (Ec (Jj _))) ?_;refine Cd [] h (k_bk _ _) Z λag ac h=>FE Z (Go 4 Z (Bd h λu aa h=>?_));refine Ct u [0] [] (λu=>[(2,.osl 0 0 u.length 2)]) (λu=>[(0,.row 66 2 (map Ref.c u))]) Zf ?_ (λenv H l=>?_)
 .refine G0 1 Z ?_;refine Lp [0,1] [34,35] (λj=>[(2,.osl 0 0 j.1.length 2),(36,I j.2)]) (λj=>[(0,.row 66 2 (map Ref.c j.1))]) aa Zf ?_ ?_
  .refine Em (Eo (s:=2) (k:=2) (t:=66) (XP Z) Z) ?_;exact Lr [2,1]
  intro j ah d P;refine G0 6 Z (Yh Z d (λQ d=>?_) (λQ d=>?_))
  .refine Gc 2 Z (Qh d ?_);obtain rfl:=Oj P d;exact Gx 1 Z (QC (Lr [0]))
  refine Gc 6 Z (Bd d λz B d=>?_);refine vX (.ptr 1 (toNat j.2*57)) (Qu B Z EA EB) ?_;refine vX (.agg (Fact.c z)) (Qo Z EJ EB Z (Qn B) Z Z) ?_;refine Go 11 Z ?_;refine vH (Ej (xs:=[.tmp 45]) (es:=map Ref.c [{Crew:=z.Crew,No:=z.No:Ref}]) Qgk Z Z Z Z Z ⟨Z,trivial⟩ Z Z) ?_;refine FE Z (Bd d λai R d=>?_);refine vH (Qk (e:=Ref.c) R Qgk Gb (QQ (i:=3))) ?_;exact FE Z (Go 8 Z (Qf d (Lr [4,1])))
 exact Gx 1 Z (Qb l (Gc 7 Z (Rt h 2 [0])))
def F_lo(n:Nat)(e:List Ref)(a:(List (Ref×Bool))×Int):Option (Ctl ((List (Ref×Bool))×Int) (List (Ref×Bool))):=(bif decide (a.2<(e.length:Int))then(idx e a.2).bind λd=>(some (Yq a.1 ({Crew:=d.Crew,No:=d.No:Ref}) true)).bind λf=>some (.cont (f,i64.wrap (a.2+1)))else some (.done a.1))
def F_jp(n:Nat)(g:List Fact)(h:Int)(p:List (Ref×Bool))(a:Fact×Int):Option ((List Fact)×Ctl (Fact×Int) Fact):=(bif decide (a.2<(g.length:Int))then(idx g a.2).bind λd=>(F_ar n d).bind λi=>(bif (i != 0)then some ([],.cont (a.1,i64.wrap (a.2+1)))else((bif (d.Kind==8)then some (d.Report.Case==h)else some false):Option Bool).bind λj=>(bif j then((bif (a.1.Kind==0)then some true else(F_aj n d a.1).bind λk=>some (decide (k<0))):Option Bool).bind λl=>((bif l then some d else some a.1):Option Fact).bind λm=>some ([],.cont (m,i64.wrap (a.2+1)))else((bif (d.Kind==10)then(bif (d.Ruling.Case==h)then(some (Qz p ({Crew:=d.Crew,No:=d.No:Ref}) false)).bind λe=>some (!e)else some false)else some false):Option Bool).bind λf=>(bif f then yl d (some ([],.cont (a.1,i64.wrap (a.2+1))))else some ([],.cont (a.1,i64.wrap (a.2+1))))))else some ([],.done a.1))
def F_bb(n:Nat)(d:List Fact)(e:Int):Option ((List Fact)×Unit):=(F_hb n d).bind λf=>(iter (F_lo n f) n ([],0):Option (List (Ref×Bool))).bind λg=>ap (QcI (F_jp n d e g) n (Uk,0)) λa=>(bif (a.Kind != 0)then yl a (some ([],()))else some ([],()))
theorem k_bb(n:Nat)(a1:List Fact)(a2:Int)(p:(List Fact)×Unit)(h:F_bb n a1 a2=some p):Qj8 prog 56 [.ptr 0 0,.ptr 1 0] [.cells 34 [.rsl 57 (map Fact.c a1)],.cells 3 [I a2]] (λx=>[.agg (Fact.c x)]) nxL p.1:=by
 obtain⟨xs,u⟩:=p;refine Qj7 func56 Z Z Z Z ?_;intro X hE hN;refine Gy0 1 Z (TCy.lf ?_);refine G0 3 Z ?_;refine Gyx 2 Z (TCy.lf ?_);refine G0 1 Z ?_;refine vH Yw ?_;refine FE Z (Go 2 Z ?_);refine Gyx 2 Z (TCy.lf ?_);refine G0 3 Z (Cd [] h (k_hb _ _) Z λr1 ar h=>FE Z (Go 4 Z (Bd h λJ aj h=>?_)));refine Ct J [0,1,2,3] [0,1,2,4,5] Ze (λJ=>[(3,.map (Qw (λx=>A.agg (Ref.c x)) A.bool J))]) Zf ?_ (λenv H f=>?_)
 .refine G0 1 Z ?_;refine Lp [0,1,2,3,4] [0,1,2,4,5,12,13] (λj=>[(14,I j.2)]) (λj=>[(3,.map (Qw (λx=>A.agg (Ref.c x)) A.bool j.1))]) aj Zf (Lr [0,1,2,3,4]) λj au g Q=>?_;refine G0 6 Z (Yh Z g (λR g=>?_) (λR g=>?_))
  .refine Gc 2 Z (Qh g ?_);obtain rfl:=Oj Q g;exact Gx 1 Z (QC (Lr [0,1,2,3]))
  refine Gc 6 Z (Bd g λt z g=>?_);refine vX (.ptr 4 (toNat j.2*2)) (Qu z Z Gb Gt) ?_;refine vX (.agg [I t.Crew,I t.No]) (Qo Z isAgg66 Gt Z (Qn z) Z Z) ?_;refine Go 7 Z (Bd g λav T g=>?_);refine vU (YT (ev:=A.bool) (k:=({Crew:=t.Crew,No:=t.No:Ref})) (v:=true) (l:=j.1) Qn2 T Z underlying129) ?_;exact FE Z (Go 7 Z (Qf g (Lr [0,1,2,3,4])))
 refine Gyx 1 Z (Qc7 f (Gyc 2 Z (TCy.lf ?_)));refine G0 2 Z (Lm Z (Go 2 Z ?_));refine Gyx 1 Z ?_;obtain⟨aw,w,ak,al,m,rfl⟩:=ap_ok h;rw[Vf];refine QoV w (ak++[]) [0,1,2] [0,4] Ze (λw=>[(2,.cells 68 (Fact.c w))]) Zf ?_ (λenv H f=>?_)
 .refine Gy0 1 Z ?_;refine Qq2 [0,1,2,3] [0,2,4,5,21,22] (λy=>[(23,I y.2)]) (λy=>[(2,.cells 68 (Fact.c y.1))]) al Zf (Lr [0,1,2,3]) λy ax ay az a V=>?_;refine Gy0 1 Z (TCy.lf ?_);refine G0 3 Z ?_;refine Gyx 2 Z (TCy.lf ?_);refine G0 0 Z (Yh Z a (λW a=>?_) (λW a=>?_))
  .refine Gc 1 Z ?_;refine Gyx 1 Z ?_;obtain⟨rfl,rfl,rfl⟩:=Oy V a;exact QqE (Gyx 1 Z (cutYN (Lr [0,1,2])))
  refine Gc 1 Z ?_;refine Gyx 4 Z (TCy.lf ?_);refine G0 1 Z (Bd a λB Y a=>Iz Y Z (Go 4 Z ?_));refine Gyx 2 Z (TCy.lf ?_);refine G0 3 Z (Cz [] a (k_ar _ _) Z λba am a=>Go 3 Z (Cn Z a (λaa a=>?_) (λaa a=>?_)))
  .refine Gc 1 Z ?_;refine Gyx 3 Z (TCy.lf ?_);refine G0 4 Z ?_;exact Gyx 0 Z (Qh3 a (Lr [0,1,2,3]))
  refine Gc 1 Z ?_;refine Gyx 3 Z (TCy.lf ?_);refine Bd a λE q a=>?_;refine Ct E [0,1,2,3,4] [0,2,4,5,9,21,22,23] (λE=>[(30,.bool E)]) Ze Zf ?_ (λenv H f=>?_)
  .refine G0 5 Z (Is 34 q Z (λab q=>?_) (λab q=>?_))
   iterate 2 exact Go 8 Z (Cl q [0,1,2,3,4])
  refine Gyx 1 Z (Qc7 f (Cny Z a (λac a=>?_) (λac a=>?_)))
  .refine TCy.lf ?_;refine G0 1 Z (Bd a λF i a=>?_);refine Ct F [0,1,2,3,4] [0,2,4,5,9,21,22,23] (λF=>[(49,.bool F)]) Ze Zf ?_ (λenv H f=>?_)
   .refine G0 5 Z (Is 44 i Z (λae i=>?_) (λae i=>?_))
    .exact Go 6 Z (Cl i [0,1,2,3,4])
    .exact Go 2 Z (Cz [] i (k_aj _ _ _) Z λbb an i=>Go 3 Z (Cl i [0,1,2,3,4]))
   refine Gx 1 Z (Qb f (Bd a λG r a=>?_));refine Ct G [0,1,2,3] [0,2,4,5,21,22,23] Ze (λG=>[(2,.cells 68 (Fact.c G))]) Zf ?_ (λenv H f=>?_)
   .refine G0 0 Z (Cn Z r (λaf r=>?_) (λaf r=>?_))
    .exact Gc 4 Z (Cl r [0,1,2,3])
    exact Gc 1 Z (Cl r [0,1,2,3])
   refine Gyx 3 Z (Qc7 f (TCy.lf ?_));refine G0 4 Z ?_;exact Gyx 0 Z (Qh3 a (Lr [0,1,2,3]))
  .refine Gyc 1 Z (TCy.lf ?_);refine Bd a λs d a=>?_;refine Ct s [0,1,2,3,4] [0,2,4,5,9,21,22,23] (λs=>[(51,.bool s)]) Ze Zf ?_ (λenv H f=>?_)
   .refine G0 5 Z (Is 55 d Z (λL d=>?_) (λL d=>?_))
    .refine Go 7 Z (Is 62 d Z (λM d=>?_) (λM d=>?_))
     .refine Go 6 Z (Bd d λag N d=>?_);refine vX (.bool ag) (YL (ev:=A.bool) (z0:=false) (k:=({Crew:=B.Crew,No:=B.No:Ref})) (l:=J) Qn2 N underlying129 ES ZR.bool) ?_ (gT Z);exact Go 4 Z (Cl d [0,1,2,3,4])
     .exact Go 11 Z (Cl d [0,1,2,3,4])
    .exact Go 18 Z (Cl d [0,1,2,3,4])
   refine Gyx 1 Z (Qc7 f (Cny Z a (λO a=>?_) (λO a=>?_)))
   .refine Gyc 4 Z ?_;obtain⟨ao,ah,rfl⟩:=Qp7 a;refine QoS (x:=B) (e:=λx=>.agg (Fact.c x)) hE hN Z Z Z Z ?_ ?_
    .refine Gyo 3 Z (TCy.lf ?_);refine G0 2 Z ?_;refine Gyx 3 Z (TCy.lf ?_);refine G0 4 Z ?_;exact Gyx 0 Z (Qh3 ah (Lr [0,1,2,3]))
    .exact Gyo 8 Z (QqF (Gyx 1 Z (cutYR (Gyx 1 Z (⟨.inr Z,.inr ⟨_,Z⟩⟩)))))
   .refine Gyc 4 Z (TCy.lf ?_);refine G0 4 Z ?_;exact Gyx 0 Z (Qh3 a (Lr [0,1,2,3]))
 refine Gyx 1 Z (Qc7 f (Gyc 1 Z (TCy.lf ?_)));refine G0 5 Z ?_;refine Gyx 1 Z (Cny Z m (λP m=>?_) (λP m=>?_))
 .refine Gyc 3 Z ?_;obtain⟨aq,ai,rfl⟩:=Qp7 m;refine QoS (x:=w) (e:=λx=>.agg (Fact.c x)) hE hN Z Z Z Z ?_ ?_
  .refine Gyo 1 Z ?_;cases ai;exact⟨.inl Z,.inl Z⟩
  .exact Gyo 1 Z (⟨.inl Z,.inr ⟨_,Z⟩⟩)
 .refine Gyc 1 Z ?_;cases m;exact⟨.inl Z,.inl Z⟩
def F_lq(n:Nat)(a:Int×Bool)(d:Fact):Option (Ctl (Int×Bool) (Int×Bool)):=some (.cont ((if a.1<d.At then d.At else a.1),true))
def F_ah(n:Nat)(d:Course)(e:List Fact)(f:Int):Option (Int×Bool):=(F_an n d).bind λg=>(bif (g != 0)then some (0,false)else(F_bd n e f).bind λi=>(F_bb n e f).bind λy4=>(QeR (F_lq n) y4.1 (0,false):Option (Ctl (Int×Bool) (Int×Bool))).bind λh=>match h with|.cont a=>(bif (!a.2)then some (0,false)else some (i64.wrap (a.1+d.Deadline),true))|.done a=>some a)
theorem k_ah(n:Nat)(d:Course)(f:List Fact)(g:Int):Kq (F_ah n d f g) 8 [.agg (Course.c d),.rsl 57 (map Fact.c f),I g] [] (λr=>.tup [I r.1,.bool r.2]) (λr=>[.cells 3 [I r.1],.cells 4 [.bool r.2]]):=by
 refine Kg 11 func8 Z Z Z Z λr h=>Cz [] h (k_an _ _) Z λu p h=>Go 3 Z (Cn Z h (λi h=>?_) (λi h=>?_))
 .refine Gc 8 Z ?_;obtain rfl:=Oi h;exact Rx [1,2] [6,7] Z (QU Z Z (Qlk.cons (JV EE Z Z) (Qlk.cons (JV GG Z Z) Qlk.nil))) ⟨Z,Z⟩
 refine Gc 7 Z (Cd [] h (k_bd _ _ _) Z λw q h=>FE Z (Go 3 Z (Bd h λy4 hy4 h=>Bd h λx j h=>?_)));refine Qeg [3,4] (λa=>[.cells 33 (Course.c d),.cells 3 [I a.1],.cells 4 [.bool a.2],.dead,.dead]) j (k_bb _ _ _ _ hy4) Zf call56 Z Z Z Z (by decide) Z (QiG Z) ?_ ?_
 .intro a k s l m;refine G0 4 Z (And.intro Z ?_);refine G0 5 Z ?_;refine vX (I (if a.1<k.At then k.At else a.1)) (OpV.max Z Z Z Z) ?_;exact Go 4 Z (QhU l (Lr [0,1,2,3,4]))
 rintro t rfl;refine Gx 9 Z (Cn Z h (λe h=>?_) (λe h=>?_))
 .refine Gc 8 Z ?_;obtain rfl:=Oi h;exact Rx [1,2] [6,7] Z (QU Z Z (Qlk.cons (JV EE Z Z) (Qlk.cons (JV GG Z Z) Qlk.nil))) ⟨Z,Z⟩
 refine Gc 13 Z ?_;obtain rfl:=Oi h;exact Rx [1,2] [6,7] Z (QU Z Z (Qlk.cons (JV EE Z Z) (Qlk.cons (JV GG Z Z) Qlk.nil))) ⟨Z,Z⟩
def F_cy(n:Nat)(a:Fact)(d:Fact):Option Unit:=some ()
theorem k_cy(n:Nat)(a:Fact)(d:Fact):Ks (F_cy n a d) 36 [.agg (Fact.c a),.ptr 0 0] [.cells 68 (Fact.c d)] (λ_=>.bool (decide (d.At<a.At))):=by
 exact Kg 17 func36 Z Z Z Z λr h=>Rt h 3 [0]
def F_mx(n:Nat)(e:List Fact)(f:Fact)(a:Int):Option (Ctl Int (Ctl Unit Int)):=(bif decide (a<(e.length:Int))then(idx e a).bind λd=>(F_cy n d f).bind λg=>(bif decide (f.At<d.At)then some (.done (.done a))else some (.cont (i64.wrap (a+1))))else some (.done (.cont ())))
def F_jm(n:Nat)(e:List Fact)(f:Fact):Option Int:=(iter (F_mx n e f) n 0:Option (Ctl Unit Int)).bind λd=>match d with|.cont a=>(some (-1))|.done a=>some a
theorem k_jm(n:Nat)(g:List Fact)(k:Fact):Ks (F_jm n g k) 68 [.osl 0 0 g.length 57,.fn (.func 36) [] [.ptr 1 0]] [.row 68 57 (map Fact.c g),.cells 68 (Fact.c k)] (λr=>I r):=by
 refine Kg 13 func68 Z Z Z Z λr h=>Bd h λl m h=>?_;refine Jw (b:=l) [0,1] [] Ze Ze Zf ?_ (λt env H p q=>?_)
 .refine G0 1 Z ?_;refine Lp [0,1] [0,1,7] (λd=>[(8,I d)]) Ze m Zf (Lr [0,1]) λd w a e=>?_;refine G0 6 Z (Yh Z a (λi a=>?_) (λi a=>?_))
  .refine Gc 2 Z (Qh a ?_);obtain rfl:=Oj e a;exact Gx 1 Z (Qq Z (Lr [0,1]))
  refine Gc 15 Z (Bd a λs f a=>?_);refine vX (.ptr 0 (toNat d*57)) (Qu f Z EA EB) ?_;refine vX (.agg (Fact.c s)) (Qo Z EJ EB Z (Qn f) Z Z) ?_;refine Cz [1] a (k_cy _ _ _) Z λx u a=>Go 2 Z (Cn Z a (λj a=>?_) (λj a=>?_))
  .refine Gc 9 Z (Qv a ?_);obtain rfl:=Oj e a;exact Gx 1 Z (Qs (Gx 1 Z (Rt h 4 [0,1])))
  exact Gc 7 Z (Qf a (Lr [0,1]))
 subst p;exact Gx 1 Z (Qb q (Gc 6 Z (Rt h 4 [0,1])))
def F_lw(n:Nat)(f:Fact)(a:(List Fact)×Int×Int):Option (Ctl ((List Fact)×Int×Int) ((List Fact)×Int)):=(bif decide (a.2.2<(a.1.length:Int))then(idx a.1 a.2.2).bind λd=>(F_cy n d f).bind λh=>((bif (!(decide (f.At<d.At)))then(idx a.1 a.2.1).bind λi=>(QdZ a.1 a.2.1 d).bind λg=>some (g,i64.wrap (a.2.1+1))else some (a.1,a.2.1)):Option ((List Fact)×Int)).bind λe=>some (.cont (e.1,e.2,i64.wrap (a.2.2+1)))else some (.done (a.1,a.2.1)))
def F_iv(n:Nat)(d:List Fact)(f:Fact):Option (List Fact):=(F_jm n d f).bind λe=>(bif (e==(-1))then some d else(iter (F_lw n f) n (d,e,i64.wrap (e+1)):Option ((List Fact)×Int)).bind λa=>(slc a.1 0 a.2).bind λg=>some g)
theorem k_iv(n:Nat)(y:List Fact)(w:Fact):Kq (F_iv n y w) 34 [.osl 0 0 y.length 57,.fn (.func 36) [] [.ptr 1 0]] [.row 68 57 (map Fact.c y),.cells 68 (Fact.c w)] (λr=>.osl 0 0 r.length 57) (λr=>[.row 68 57 (map Fact.c r),.cells 68 (Fact.c w)]):=by
 refine Kg 9 func34 Z Z Z Z λr h=>Cz [0,1] h (k_jm _ _ _) Z λR M h=>Go 10 Z (Cn Z h (λF h=>?_) (λF h=>?_))
 .exact Gc 8 Z (Rt h 4 [0,1])
 refine Gc 10 Z (Bd h λa G h=>?_);refine Ct a [0,1] [] (λa=>[(0,.osl 0 0 a.1.length 57),(5,I a.2)]) (λa=>[(0,.row 68 57 (map Fact.c a.1))]) Zf ?_ (λenv H q=>?_)
 .refine G0 1 Z ?_;refine Lp [0,1] [1] (λi=>[(0,.osl 0 0 i.1.length 57),(5,I i.2.1),(6,I i.2.2)]) (λi=>[(0,.row 68 57 (map Fact.c i.1))]) G Zf (Lr [0,1]) λi N d z=>?_;refine G0 9 Z (Yh Z d (λB d=>?_) (λB d=>?_))
  .refine Gc 2 Z (Qh d ?_);obtain rfl:=Oj z d;exact Gx 1 Z (QC (Lr [0,1]))
  refine Gc 8 Z (Bd d λJ t d=>?_);refine vX (.ptr 0 (toNat i.2.2*57)) (Qu t Z EA EB) ?_;refine vX (.agg (Fact.c J)) (Qo Z EJ EB Z (Qn t) Z Z) ?_;refine Go 8 Z (Cz [1] d (k_cy _ _ _) Z λO L d=>Go 3 Z (Bd d λm g d=>?_));refine Ct m [0,1] [1,6] (λm=>[(0,.osl 0 0 m.1.length 57),(5,I m.2)]) (λm=>[(0,.row 68 57 (map Fact.c m.1))]) Zf ?_ (λenv H q=>?_)
  .refine G0 0 Z (Cn Z g (λE g=>?_) (λE g=>?_))
   .refine Gc 5 Z (Bd g λP u g=>?_);refine vX (.ptr 0 (toNat i.2.1*57)) (Qu u Z EA EB) ?_;refine Bd g λQ j g=>?_;refine vU (QaO (e:=Fact.c) (k:=57) (f:=0) u j EB Z Z) ?_;refine FE Z ?_;refine QH (Q8 (s:=0) Z (congrArg (λn=>A.osl 0 0 n 57) (Qbh j))) ?_;refine QH (Q8 (s:=17) Z (congrArg (λn=>A.osl 0 0 n 57) (Qbh j))) ?_;refine QH (Q8 (s:=22) Z (congrArg (λn=>A.osl 0 0 n 57) (Qbh j))) ?_;refine QH (Q8 (s:=30) Z (congrArg (λn=>A.osl 0 0 n 57) (Qbh j))) ?_;exact Go 7 Z (Cl g [0,1])
   exact Gc 1 Z (Cl g [0,1])
  exact Gx 2 Z (Qb q (Gc 5 Z (Qf d (Lr [0,1]))))
 refine Gx 1 Z (Qb q (Gc 4 Z (Bd h λx p h=>?_)));refine vX (.osl 0 (0+toNat a.2) (a.1.length-toNat a.2) 57) (Qgx (l:=a.1) p EA EB) ?_;refine vN (QgB (e:=Fact.c) (l:=a.1) p GK Gj Z (by simp[Qy,Go.Value.cells])) ?_;refine Qee (H:=[.row 68 57 (map Fact.c x),.cells 68 (Fact.c w)]) Z ?_;refine Go 6 Z ?_;refine vX (.osl 0 0 x.length 57) (Qgy (l:=a.1) p EA EB) ?_;exact Go 4 Z (Rt h 4 [0,1])
def F_jh(n:Nat)(a:Protest):Option Unit:=some ()
theorem k_jh(n:Nat)(a:Protest):Ks (F_jh n a) 37 [.ptr 0 0] [.cells 36 (Protest.c a)] (λ_=>.bool (a.Form==1)):=by
 exact Kg 14 func37 Z Z Z Z λr h=>Rt h 1 [0]
def F_jn(n:Nat)(a:Protest):Option Unit:=(F_jh n a).bind λd=>some ()
theorem k_jn(n:Nat)(a:Protest):Ks (F_jn n a) 42 [.agg [.fn (.func 37) [] [.ptr 0 0]]] [.cells 36 (Protest.c a)] (λ_=>.bool (!(a.Form==1))):=by
 exact Kg 10 func42 Z Z Z Z λr h=>Cz [0] h (k_jh _ _) Z λe d h=>Go 5 Z (Rt h 2 [0])
def F_id(n:Nat)(a:Protest)(d:Course):Option Bool:=((bif (a.By==0)then some true else some (decide (d.Fee<=a.Fee))):Option Bool).bind λb2=>some b2
theorem k_id(n:Nat)(d:Protest)(e:Course):Ks (F_id n d e) 38 [.ptr 0 0,.ptr 1 0] [.cells 36 (Protest.c d),.cells 33 (Course.c e)] (λr=>.bool r):=by
 refine Kg 6 func38 Z Z Z Z λr h=>Bd h λb2 a h=>?_;refine Ct b2 [0,1] [] (λb2=>[(2,.bool b2)]) Ze Zf ?_ (λenv H f=>?_)
 .refine G0 5 Z (Is 6 a Z (λg a=>?_) (λg a=>?_))
  iterate 2 exact Go 8 Z (Cl a [0,1])
 exact Gx 1 Z (Qb f (Gc 1 Z (Rt h 2 [0,1])))
def F_jd(n:Nat)(a:Protest)(d:Course):Option Bool:=(F_id n a d).bind λe=>some (!e)
theorem k_jd(n:Nat)(a:Protest)(d:Course):Ks (F_jd n a d) 42 [.agg [.fn (.func 38) [] [.ptr 0 0,.ptr 1 0]]] [.cells 36 (Protest.c a),.cells 33 (Course.c d)] (λr=>.bool r):=by
 exact Kg 10 func42 Z Z Z Z λr h=>Cz [0,1] h (k_id _ _ _) Z λf e h=>Go 5 Z (Rt h 2 [0,1])
def F_ic(n:Nat)(d:Course)(e:List Fact)(f:Protest)(g:Fact):Option Bool:=(F_ah n d e f.Case).bind λa=>((bif a.2 then some (decide (g.At<=a.1))else some false):Option Bool).bind λh=>some h
theorem k_ic(n:Nat)(e:Course)(f:List Fact)(g:Protest)(i:Fact):Ks (F_ic n e f g i) 39 [.ptr 0 0,.ptr 1 0,.ptr 2 0,.ptr 3 0] [.cells 33 (Course.c e),.cells 34 [.rsl 57 (map Fact.c f)],.cells 36 (Protest.c g),.cells 68 (Fact.c i)] (λr=>.bool r):=by
 refine Kg 11 func39 Z Z Z Z λr h=>Cd [] h (k_ah _ _ _ _) Z λm l h=>FE Z (Go 8 Z (Bd h λd a h=>?_));refine Ct d [0,1,2,3] [] (λd=>[(4,.bool d)]) Ze Zf ?_ (λenv H j=>?_)
 .refine G0 3 Z (Is 16 a Z (λk a=>?_) (λk a=>?_))
  iterate 2 exact Go 7 Z (Cl a [0,1,2,3])
 exact Gx 1 Z (Qb j (Gc 1 Z (Rt h 4 [0,1,2,3])))
def F_kj(n:Nat)(a:Course)(d:List Fact)(e:Protest)(f:Fact):Option Bool:=(F_ic n a d e f).bind λg=>some (!g)
theorem k_kj(n:Nat)(a:Course)(d:List Fact)(e:Protest)(f:Fact):Ks (F_kj n a d e f) 42 [.agg [.fn (.func 39) [] [.ptr 0 0,.ptr 1 0,.ptr 2 0,.ptr 3 0]]] [.cells 33 (Course.c a),.cells 34 [.rsl 57 (map Fact.c d)],.cells 36 (Protest.c e),.cells 68 (Fact.c f)] (λr=>.bool r):=by
 exact Kg 10 func42 Z Z Z Z λr h=>Cz [0,1,2,3] h (k_ic _ _ _ _ _) Z λi g h=>Go 5 Z (Rt h 2 [0,1,2,3])
def F_hd(n:Nat)(a:List (Int×Fact)):Option Unit:=some ()
theorem k_hd(n:Nat)(a:List (Int×Fact)):Kq (F_hd n a) 138 [.map 0] [.map (Qw (λx=>A.int .i64 x) (λx=>A.agg (Fact.c x)) a)] (λ_=>.fn (.func 193) [] [.ptr 1 0]) (λ_=>[.map (Qw (λx=>A.int .i64 x) (λx=>A.agg (Fact.c x)) a),.cells 134 [.map 0]]):=by
 exact Kg 13 func138 Z Z Z Z λr h=>Rt h 2 [0,1]
def F_ea(n:Nat)(a:List (Int×Fact)):Option (List Int):=QoQ (map Prod.fst a) λp1=>(sortI p1).bind λd=>some d
theorem k_ea(n:Nat)(d:List (Int×Fact)):Kq (F_ea n d) 44 [.fn (.func 193) [] [.ptr 0 0]] [.cells 134 [.map 1],.map (Qw (λx=>A.int .i64 x) (λx=>A.agg (Fact.c x)) d)] (λr=>.osl 2 0 r.length 1) (λr=>[.dead,.fmap (Qw (λx=>A.int .i64 x) (λx=>A.agg (Fact.c x)) d),.row 3 1 (map (Qe .i64) r)]):=by
 refine Kg 8 func44 Z Z Z Z λr h=>?_;refine QH (Qmf (i:=1) Z) ?_;refine Qee (H:=[.cells 134 [.map 1],.fmap (Qw (λx=>A.int .i64 x) (λx=>A.agg (Fact.c x)) d)]) Z ?_;obtain⟨e,h⟩:=Ql9 h;refine Q2 [0,1] (OpC.fn call75 Z Z Z) (QkG _ e) ?_;rintro _ _ ⟨p1,f,rfl,rfl⟩;have h:=h p1 f;refine FE Z (Go 6 Z (Bd h λg a h=>?_));refine Q2 [2] (OpC.fn call76 Z Z Z) (Qml Qds a) ?_;rintro _ _ ⟨rfl,rfl⟩;refine FE Z ?_;refine QH (Q8 (s:=3) Z (congrArg (λn=>A.osl 2 0 n 1) (Qaa a))) ?_;refine QH (Q8 (s:=5) Z (congrArg (λn=>A.osl 2 0 n 1) (Qaa a))) ?_;refine QH (Q8 (s:=6) Z (congrArg (λn=>A.osl 2 0 n 1) (Qaa a))) ?_;exact Go 9 Z (Rt h 2 [0,1,2])
def F_lf(n:Nat)(h:List (Int×Fact))(d:List Int)(a:(List Fact)×Int):Option (Ctl ((List Fact)×Int) (List Fact)):=(bif decide (a.2<(d.length:Int))then(idx d a.2).bind λe=>(some (Qz h e Uk)).bind λf=>(app a.1 [f]).bind λg=>some (.cont (g,i64.wrap (a.2+1)))else some (.done a.1))
def F_cz(n:Nat)(a:List (Int×Fact)):Option (List Fact):=(F_hd n a).bind λf=>(F_ea n a).bind λe=>(iter (F_lf n a e) n ([],0):Option (List Fact)).bind λd=>some d
theorem k_cz(n:Nat)(j:List (Int×Fact)):Kq (F_cz n j) 65 [.map 0] [.map (Qw (λx=>A.int .i64 x) (λx=>A.agg (Fact.c x)) j)] (λr=>.osl 1 0 r.length 57) (λr=>[.fmap (Qw (λx=>A.int .i64 x) (λx=>A.agg (Fact.c x)) j),.row 68 57 (map Fact.c r)]):=by
 refine Kg 9 func65 Z Z Z Z λr h=>Cd [0] h (k_hd _ _) Z λL E h=>FE Z (Cd [1,0] h (k_ea _ _) Z λM F h=>FE Z (Go 4 Z (Bd h λf z h=>?_)));refine Ct f [0,1] [] (λf=>[(2,.osl 1 0 f.length 57)]) (λf=>[(1,.row 68 57 (map Fact.c f))]) Zf ?_ (λenv H B=>?_)
 .refine G0 1 Z ?_;refine Lp [0,0,2] [0,7,8] (λd=>[(2,.osl 1 0 d.1.length 57),(9,I d.2)]) (λd=>[(1,.row 68 57 (map Fact.c d.1))]) z Zf ?_ ?_
  .refine Em (Eo (s:=2) (k:=57) (t:=68) (XP Z) Z) ?_;exact Lr [0,3,2]
  intro d G a q;refine G0 6 Z (Yh Z a (λu a=>?_) (λu a=>?_))
  .refine Gc 2 Z (Qh a ?_);obtain rfl:=Oj q a;exact Gx 1 Z (QC (Lr [0,1]))
  refine Gc 6 Z (Bd a λm g a=>?_);refine vX (.ptr 2 (toNat d.2*1)) (Qu g Z EC EG) ?_;refine vX (I m) (Ey Z EE Z (Qn g)) ?_;refine Go 7 Z (Bd a λp w a=>?_);refine vX (.agg (Fact.c p)) (Qng (ev:=(λx=>A.agg (Fact.c x))) (z0:=Uk) (k:=m) (l:=j) JE w Gl Gj (zrC Z)) ?_;refine vH (Ej (xs:=[.tmp 16]) (es:=map Fact.c [p]) Y0 Z Z Z Z Z ⟨Z,trivial⟩ Z Z) ?_;refine FE Z (Bd a λJ y a=>?_);refine vH (Qk (e:=Fact.c) y Y0 EA (QQ (i:=3))) ?_;exact FE Z (Go 8 Z (Qf a (Lr [0,4,2])))
 exact Gx 1 Z (Qb B (Gc 7 Z (Rt h 2 [0,1])))
end Go.Sw
