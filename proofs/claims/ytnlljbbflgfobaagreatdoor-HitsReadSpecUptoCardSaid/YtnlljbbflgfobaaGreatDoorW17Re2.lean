/- What the functions compute that HitsReadSpec reaches, and that their calls refine it (part 2 of 3). -/
import Derived.Test.YtnlljbbflgfobaaGreatDoorW17Re1
set_option linter.unusedVariables false
set_option linter.unusedSimpArgs false
set_option maxRecDepth 100000
set_option maxHeartbeats 4000000
namespace Go.Sw
open Go.Proofs Tryz
def Q_facts_open_rxk(b:Fact)(d:Int):U_facts_open_rxk->Go.Sw.A->Qb->Prop
  |.c0 x,a,H=>a=.tup [.agg [.osl 2 0 8 3,.fn (.func 152) [] []],.bool true]/\H=[.cells 52 (Fact.c b),.cells 3 [I d],.rowr 199 3 [[.ptr 0 4,I 1,I 9999],[.ptr 0 5,I 0,I 7],[.ptr 0 6,I 0,I 31],[.ptr 0 7,I (-1099511627776),I 1099511627776],[.ptr 0 8,I 0,I 120],[.ptr 0 9,I 0,I 1048576],[.ptr 0 10,I 0,I 9999],[.ptr 0 11,I 0,I 1048576]],.cells 189 [.osl 2 0 8 3,.fn (.func 152) [] []]]
  |.c1 x,a,H=>a=.tup [.agg [.osl 2 0 4 3,.fn (.func 152) [] []],.bool true]/\H=[.cells 52 (Fact.c b),.cells 3 [I d],.rowr 199 3 [[.ptr 0 12,I 0,I 39],[.ptr 0 13,I 0,I 255],[.ptr 0 14,I 0,I 1048576],[.ptr 0 15,I (-1099511627776),I 1099511627776]],.cells 189 [.osl 2 0 4 3,.fn (.func 152) [] []]]
  |.c2 x,a,H=>a=.tup [.agg [.osl 2 0 5 3,.fn (.func 152) [] []],.bool true]/\H=[.cells 52 (Fact.c b),.cells 3 [I d],.rowr 199 3 [[.ptr 0 16,I 0,I 39],[.ptr 0 17,I 0,I 255],[.ptr 0 18,I (-1099511627776),I 1099511627776],[.ptr 0 19,I (-1099511627776),I 1099511627776],[.ptr 0 20,I 0,I 1099511627776]],.cells 189 [.osl 2 0 5 3,.fn (.func 152) [] []]]
  |.c3 x,a,H=>a=.tup [.agg [.osl 2 0 8 3,.fn (.func 153) [] [.ptr 3 0]],.bool true]/\H=[.cells 52 (Fact.c b),.cells 3 [I d],.rowr 199 3 [[.ptr 0 21,I 0,I 39],[.ptr 0 22,I 0,I 255],[.ptr 0 23,I (-1099511627776),I 1099511627776],[.ptr 0 24,I 0,I 39],[.ptr 0 25,I 0,I 255],[.ptr 0 26,I (-1099511627776),I 1099511627776],[.ptr 0 27,I (-1099511627776),I 1099511627776],[.ptr 0 28,I (-1099511627776),I 1099511627776]],.cells 234 [.ptr 0 21],.cells 189 [.osl 2 0 8 3,.fn (.func 153) [] [.ptr 3 0]]]
  |.c4 x,a,H=>a=.tup [.agg [.osl 2 0 4 3,.fn (.func 154) [] [.ptr 3 0]],.bool true]/\H=[.cells 52 (Fact.c b),.cells 3 [I d],.rowr 199 3 [[.ptr 0 29,I 1,I 9999],[.ptr 0 30,I 0,I 255],[.ptr 0 31,I (-1099511627776),I 1099511627776],[.ptr 0 32,I (-1099511627776),I 1099511627776]],.cells 235 [.ptr 0 29],.cells 189 [.osl 2 0 4 3,.fn (.func 154) [] [.ptr 3 0]]]
  |.c5 x,a,H=>a=.tup [.agg [.osl 2 0 4 3,.fn (.func 155) [] [.ptr 3 0]],.bool true]/\H=[.cells 52 (Fact.c b),.cells 3 [I d],.rowr 199 3 [[.ptr 0 33,I 0,I 39],[.ptr 0 34,I 0,I 255],[.ptr 0 35,I (-1099511627776),I 1099511627776],[.ptr 0 36,I (-1099511627776),I 1099511627776]],.cells 236 [.ptr 0 33],.cells 189 [.osl 2 0 4 3,.fn (.func 155) [] [.ptr 3 0]]]
  |.c6 x,a,H=>a=.tup [.agg [.osl 2 0 2 3,.fn (.func 156) [] [.ptr 3 0]],.bool true]/\H=[.cells 52 (Fact.c b),.cells 3 [I d],.rowr 199 3 [[.ptr 0 37,I 1,I 9999],[.ptr 0 38,I 1,I 9999]],.cells 237 [.ptr 0 37],.cells 189 [.osl 2 0 2 3,.fn (.func 156) [] [.ptr 3 0]]]
  |.c7 x,a,H=>a=.tup [.agg [.osl 2 0 4 3,.fn (.func 152) [] []],.bool true]/\H=[.cells 52 (Fact.c b),.cells 3 [I d],.rowr 199 3 [[.ptr 0 39,I 1,I 1048576],[.ptr 0 40,I 1,I 9999],[.ptr 0 41,I 0,I 31],[.ptr 0 42,I 0,I 255]],.cells 189 [.osl 2 0 4 3,.fn (.func 152) [] []]]
  |.c8 x,a,H=>a=.tup [.agg [.osl 2 0 4 3,.fn (.func 152) [] []],.bool true]/\H=[.cells 52 (Fact.c b),.cells 3 [I d],.rowr 199 3 [[.ptr 0 43,I 1,I 1048576],[.ptr 0 44,I 0,I 9999],[.ptr 0 45,I 0,I 1125899906842624],[.ptr 0 46,I 0,I 1]],.cells 189 [.osl 2 0 4 3,.fn (.func 152) [] []]]
  |.c9 x,a,H=>a=.tup [.agg [.osl 2 0 6 3,.fn (.func 152) [] []],.bool true]/\H=[.cells 52 (Fact.c b),.cells 3 [I d],.rowr 199 3 [[.ptr 0 47,I 1,I 1048576],[.ptr 0 48,I 1,I 2],[.ptr 0 49,I 1,I 5],[.ptr 0 50,I x.1,I x.2.1],[.ptr 0 51,I x.2.2.1,I x.2.2.2.1],[.ptr 0 52,I x.2.2.2.2.1,I x.2.2.2.2.2]],.cells 189 [.osl 2 0 6 3,.fn (.func 152) [] []]]
  |.c10 x,a,H=>a=.tup [.agg [.osl 2 0 2 3,.fn (.func 152) [] []],.bool true]/\H=[.cells 52 (Fact.c b),.cells 3 [I d],.rowr 199 3 [[.ptr 0 53,I 1,I 1048576],[.ptr 1 0,I 0,I 1]],.cells 189 [.osl 2 0 2 3,.fn (.func 152) [] []]]
  |.c11 x,a,H=>a=.tup [.agg [.nils,.fn (.func 152) [] []],.bool true]/\H=[.cells 52 (Fact.c b),.cells 3 [I d],.cells 189 [.nils,.fn (.func 152) [] []]]
  |.c12 x,a,H=>a=.tup [.agg [.osl 2 0 2 3,.fn (.func 152) [] []],.bool true]/\H=[.cells 52 (Fact.c b),.cells 3 [I d],.rowr 199 3 [[.ptr 0 55,I 0,I 31],[.ptr 0 56,I 1,I 1048576]],.cells 189 [.osl 2 0 2 3,.fn (.func 152) [] []]]
  |.c13 x,a,H=>a=.tup [.agg [.nils,.nilf],.bool false]/\H=[.cells 52 (Fact.c b),.cells 3 [I d],.cells 189 [.nils,.nilf]]
def F_ak(n:Nat)(a:Fact)(d:Int):Option U_facts_open_rxk:=
  (bif (a.Kind==1)then some (U_facts_open_rxk.c0 ())else(bif (a.Kind==2)then some (U_facts_open_rxk.c1 ())else(bif (a.Kind==3)then some (U_facts_open_rxk.c2 ())else(bif (a.Kind==4)then some (U_facts_open_rxk.c3 ())else(bif (a.Kind==5)then some (U_facts_open_rxk.c4 ())else(bif (a.Kind==6)then some (U_facts_open_rxk.c5 ())else(bif (a.Kind==7)then some (U_facts_open_rxk.c6 ())else(bif (a.Kind==8)then some (U_facts_open_rxk.c7 ())else(bif (a.Kind==9)then some (U_facts_open_rxk.c8 ())else(bif (a.Kind==10)then((bif (a.Ruling.Kind==1)then some (a.Ruling.Kind==1)else some (a.Ruling.Kind==2)):Option Bool).bind fun c=>((bif c then some ({least:=0,most:=0:facts_scope},{least:=0,most:=0:facts_scope},{least:=0,most:=0:facts_scope})else(bif (a.Ruling.Kind==3)then some ({least:=1,most:=9999:facts_scope},{least:=0,most:=255:facts_scope},{least:=1,most:=1099511627776:facts_scope})else(bif (a.Ruling.Kind==4)then some ({least:=1,most:=9999:facts_scope},{least:=0,most:=255:facts_scope},{least:=1,most:=64:facts_scope})else some ({least:=1,most:=9999:facts_scope},{least:=0,most:=255:facts_scope},{least:=0,most:=0:facts_scope})))):Option (facts_scope×facts_scope×facts_scope)).bind fun b=>some (U_facts_open_rxk.c9 (b.1.least,b.1.most,b.2.1.least,b.2.1.most,b.2.2.least,b.2.2.most))else(bif (a.Kind==11)then some (U_facts_open_rxk.c10 ())else(bif (a.Kind==12)then some (U_facts_open_rxk.c11 ())else(bif (a.Kind==13)then some (U_facts_open_rxk.c12 ())else some (U_facts_open_rxk.c13 ()))))))))))))))
theorem k_ak(n:Nat)(b:Fact)(d:Int)(r:U_facts_open_rxk)(h:F_ak n b d=some r):
    C prog 104 [.ptr 0 0,.ptr 1 0] [.cells 52 (Fact.c b),.cells 3 [I d]] (Q_facts_open_rxk b d r):=by
 refine Qa func104 Z Z Z ?_
 refine G0 22 Z (Cn Z h (fun u h=>?_) (fun u h=>?_))
 ·refine Gc 9 Z (DSs 40 Z (D 40 Z (DS.done Z ?_)))
  refine vH (Yk (xs:=[.tmp 32,.tmp 37,.tmp 42,.tmp 47,.tmp 52,.tmp 57,.tmp 62,.tmp 67]) YG Z Z Z Z Z ⟨Z,Z,Z,Z,Z,Z,Z,Z,trivial⟩ Z) ?_
  refine FE Z (Go 8 Z ?_)
  obtain rfl:=Oi h
  exact Rx [0,1,3,2] [4,5] Z (QL Z Z (QgO.cons (Qm isAgg189 sizeOf189 Z Z Z) (QgO.cons Qcl.tmp QgO.nil))) ⟨Z,Z⟩
 refine Gc 6 Z (Cn Z h (fun w h=>?_) (fun w h=>?_))
 ·refine Gc 9 Z (DSs 20 Z (D 20 Z (DS.done Z ?_)))
  refine vH (Yk (xs:=[.tmp 79,.tmp 84,.tmp 89,.tmp 94]) YG Z Z Z Z Z ⟨Z,Z,Z,Z,trivial⟩ Z) ?_
  refine FE Z (Go 8 Z ?_)
  obtain rfl:=Oi h
  exact Rx [0,1,3,2] [4,5] Z (QL Z Z (QgO.cons (Qm isAgg189 sizeOf189 Z Z Z) (QgO.cons Qcl.tmp QgO.nil))) ⟨Z,Z⟩
 refine Gc 6 Z (Cn Z h (fun x h=>?_) (fun x h=>?_))
 ·refine Gc 9 Z (DSs 25 Z (D 25 Z (DS.done Z ?_)))
  refine vH (Yk (xs:=[.tmp 106,.tmp 111,.tmp 116,.tmp 121,.tmp 126]) YG Z Z Z Z Z ⟨Z,Z,Z,Z,Z,trivial⟩ Z) ?_
  refine FE Z (Go 8 Z ?_)
  obtain rfl:=Oi h
  exact Rx [0,1,3,2] [4,5] Z (QL Z Z (QgO.cons (Qm isAgg189 sizeOf189 Z Z Z) (QgO.cons Qcl.tmp QgO.nil))) ⟨Z,Z⟩
 refine Gc 6 Z (Cn Z h (fun y h=>?_) (fun y h=>?_))
 ·refine Gc 10 Z (DAs 42 40 [0,0,0,0,0,0,0,0,0,0,0,0,0,0,0,0,0,0,0,0,0,0,0,0,0,0,0,0,0,0,0,0,0,0,0,0,0,0,0,0,1,3] (by kernel_rfl) (Da 40 Z ?_))
  refine Qff (Yk (xs:=[.tmp 138,.tmp 143,.tmp 148,.tmp 153,.tmp 158,.tmp 163,.tmp 168,.tmp 173]) YG Z Z Z Z Z ⟨Z,Z,Z,Z,Z,Z,Z,Z,trivial⟩ Z) Z Z (Db 1 Z (DB.done Z (Go 8 Z ?_)))
  obtain rfl:=Oi h
  exact Rx [0,1,4,3,2] [4,5] Z (QL Z Z (QgO.cons (Qm isAgg189 sizeOf189 Z Z Z) (QgO.cons Qcl.tmp QgO.nil))) ⟨Z,Z⟩
 refine Gc 6 Z (Cn Z h (fun z h=>?_) (fun z h=>?_))
 ·refine Gc 10 Z (DAs 22 20 [0,0,0,0,0,0,0,0,0,0,0,0,0,0,0,0,0,0,0,0,1,3] (by kernel_rfl) (Da 20 Z ?_))
  refine Qff (Yk (xs:=[.tmp 186,.tmp 191,.tmp 196,.tmp 201]) YG Z Z Z Z Z ⟨Z,Z,Z,Z,trivial⟩ Z) Z Z (Db 1 Z (DB.done Z (Go 8 Z ?_)))
  obtain rfl:=Oi h
  exact Rx [0,1,4,3,2] [4,5] Z (QL Z Z (QgO.cons (Qm isAgg189 sizeOf189 Z Z Z) (QgO.cons Qcl.tmp QgO.nil))) ⟨Z,Z⟩
 refine Gc 6 Z (Cn Z h (fun B h=>?_) (fun B h=>?_))
 ·refine Gc 10 Z (DAs 22 20 [0,0,0,0,0,0,0,0,0,0,0,0,0,0,0,0,0,0,0,0,1,3] (by kernel_rfl) (Da 20 Z ?_))
  refine Qff (Yk (xs:=[.tmp 214,.tmp 219,.tmp 224,.tmp 229]) YG Z Z Z Z Z ⟨Z,Z,Z,Z,trivial⟩ Z) Z Z (Db 1 Z (DB.done Z (Go 8 Z ?_)))
  obtain rfl:=Oi h
  exact Rx [0,1,4,3,2] [4,5] Z (QL Z Z (QgO.cons (Qm isAgg189 sizeOf189 Z Z Z) (QgO.cons Qcl.tmp QgO.nil))) ⟨Z,Z⟩
 refine Gc 6 Z (Cn Z h (fun E h=>?_) (fun E h=>?_))
 ·refine Gc 10 Z (DAs 12 10 [0,0,0,0,0,0,0,0,0,0,1,3] (by kernel_rfl) (Da 10 Z ?_))
  refine Qff (Yk (xs:=[.tmp 242,.tmp 247]) YG Z Z Z Z Z ⟨Z,Z,trivial⟩ Z) Z Z (Db 1 Z (DB.done Z (Go 8 Z ?_)))
  obtain rfl:=Oi h
  exact Rx [0,1,4,3,2] [4,5] Z (QL Z Z (QgO.cons (Qm isAgg189 sizeOf189 Z Z Z) (QgO.cons Qcl.tmp QgO.nil))) ⟨Z,Z⟩
 refine Gc 6 Z (Cn Z h (fun F h=>?_) (fun F h=>?_))
 ·refine Gc 9 Z (DSs 20 Z (D 20 Z (DS.done Z ?_)))
  refine vH (Yk (xs:=[.tmp 260,.tmp 265,.tmp 270,.tmp 275]) YG Z Z Z Z Z ⟨Z,Z,Z,Z,trivial⟩ Z) ?_
  refine FE Z (Go 8 Z ?_)
  obtain rfl:=Oi h
  exact Rx [0,1,3,2] [4,5] Z (QL Z Z (QgO.cons (Qm isAgg189 sizeOf189 Z Z Z) (QgO.cons Qcl.tmp QgO.nil))) ⟨Z,Z⟩
 refine Gc 6 Z (Cn Z h (fun G h=>?_) (fun G h=>?_))
 ·refine Gc 9 Z (DSs 20 Z (D 20 Z (DS.done Z ?_)))
  refine vH (Yk (xs:=[.tmp 287,.tmp 292,.tmp 297,.tmp 302]) YG Z Z Z Z Z ⟨Z,Z,Z,Z,trivial⟩ Z) ?_
  refine FE Z (Go 8 Z ?_)
  obtain rfl:=Oi h
  exact Rx [0,1,3,2] [4,5] Z (QL Z Z (QgO.cons (Qm isAgg189 sizeOf189 Z Z Z) (QgO.cons Qcl.tmp QgO.nil))) ⟨Z,Z⟩
 refine Gc 6 Z (Cn Z h (fun j h=>?_) (fun j h=>?_))
 ·refine Gc 9 Z ?_
  refine Qbi 8 3 [310,311,312,16,17,18,1000006,1000007] [false,false,false,true,true,true,true,true] [[],[],[],[],[],[],[3,4,5],[3,4,5,6]] [[],[3],[4],[5],[3,4],[3,5],[4,5],[3,4,5],[3,4,5,6],[3,4,5,6,7]] [[(0,0),(1,1),(2,2),(3,3),(4,4),(5,5),(6,6),(7,7),(8,8),(9,9)],[(0,0),(1,1),(2,2),(3,3),(4,4),(5,5),(6,6),(7,7),(8,8),(9,9)],[(0,0),(1,1),(2,2),(3,3),(4,4),(5,5),(6,6),(7,7),(8,8),(9,9)],[(0,1),(2,4),(3,5),(6,7)],[(0,2),(1,4),(3,6),(5,7)],[(0,3),(1,5),(2,6),(4,7)],[(7,8)],[(8,9)]] [.agg [I 1,I 9999],.agg [I 0,I 255],.agg [I 0,I 0],.ptr 3 0,.ptr 4 0,.ptr 5 0,.any,.any] [[.cells 52 (Fact.c b),.cells 3 [I d],.cells 189 [.nils,.nilf],.dead,.dead,.dead],[.cells 52 (Fact.c b),.cells 3 [I d],.cells 189 [.nils,.nilf],.cells 197 [I 0,I 0],.dead,.dead],[.cells 52 (Fact.c b),.cells 3 [I d],.cells 189 [.nils,.nilf],.dead,.cells 197 [I 0,I 0],.dead],[.cells 52 (Fact.c b),.cells 3 [I d],.cells 189 [.nils,.nilf],.dead,.dead,.cells 197 [I 0,I 0]],[.cells 52 (Fact.c b),.cells 3 [I d],.cells 189 [.nils,.nilf],.cells 197 [I 0,I 0],.cells 197 [I 0,I 0],.dead],[.cells 52 (Fact.c b),.cells 3 [I d],.cells 189 [.nils,.nilf],.cells 197 [I 0,I 0],.dead,.cells 197 [I 0,I 0]],[.cells 52 (Fact.c b),.cells 3 [I d],.cells 189 [.nils,.nilf],.dead,.cells 197 [I 0,I 0],.cells 197 [I 0,I 0]],[.cells 52 (Fact.c b),.cells 3 [I d],.cells 189 [.nils,.nilf],.cells 197 [I 0,I 0],.cells 197 [I 0,I 0],.cells 197 [I 0,I 0]],[.cells 52 (Fact.c b),.cells 3 [I d],.cells 189 [.nils,.nilf],.cells 197 [I 1,I 9999],.cells 197 [I 0,I 0],.cells 197 [I 0,I 0]],[.cells 52 (Fact.c b),.cells 3 [I d],.cells 189 [.nils,.nilf],.cells 197 [I 1,I 9999],.cells 197 [I 0,I 255],.cells 197 [I 0,I 0]]] ([.cells 52 (Fact.c b),.cells 3 [I d],.cells 189 [.nils,.nilf],.cells 197 [I 1,I 9999],.cells 197 [I 0,I 255],.cells 197 [I 0,I 0]]) draws Z Z Z Z Z Z Z ?_ Z ?_
  ·refine Qfc.cons (Qc (v0 Z Z) (Qc (v0 Z Z) (Qc (v0 Z Z) (Qc (v0 Z Z) (Qc (v0 Z Z) (Qc (v0 Z Z) (Qc (v0 Z Z) (Qc (v0 Z Z) (Qc (v0 Z Z) (Qc (v0 Z Z) (Qj))))))))))) (Qfc.cons (Qc (v0 Z Z) (Qc (v0 Z Z) (Qc (v0 Z Z) (Qc (v0 Z Z) (Qc (v0 Z Z) (Qc (v0 Z Z) (Qc (v0 Z Z) (Qc (v0 Z Z) (Qc (v0 Z Z) (Qc (v0 Z Z) (Qj))))))))))) (Qfc.cons (Qc (v0 Z Z) (Qc (v0 Z Z) (Qc (v0 Z Z) (Qc (v0 Z Z) (Qc (v0 Z Z) (Qc (v0 Z Z) (Qc (v0 Z Z) (Qc (v0 Z Z) (Qc (v0 Z Z) (Qc (v0 Z Z) (Qj))))))))))) (Qfc.cons ?_ (Qfc.cons ?_ (Qfc.cons ?_ (Qfc.cons ?_ (Qfc.cons ?_ (Qfc.nil))))))))
   ·refine Qc ?_ (Qc ?_ (Qc ?_ (Qc ?_ (Qj))))
    ·exact YR.alloc _ 16 197 3 _ Z Z Z Z Z Z Z (OpZ.alloc (v:=(.agg [I 0,I 0])) zeroValue197 (zrC Z)) Z
    ·exact YR.alloc _ 16 197 3 _ Z Z Z Z Z Z Z (OpZ.alloc (v:=(.agg [I 0,I 0])) zeroValue197 (zrC Z)) Z
    ·exact YR.alloc _ 16 197 3 _ Z Z Z Z Z Z Z (OpZ.alloc (v:=(.agg [I 0,I 0])) zeroValue197 (zrC Z)) Z
    ·exact YR.alloc _ 16 197 3 _ Z Z Z Z Z Z Z (OpZ.alloc (v:=(.agg [I 0,I 0])) zeroValue197 (zrC Z)) Z
   ·refine Qc ?_ (Qc ?_ (Qc ?_ (Qc ?_ (Qj))))
    ·exact YR.alloc _ 17 197 4 _ Z Z Z Z Z Z Z (OpZ.alloc (v:=(.agg [I 0,I 0])) zeroValue197 (zrC Z)) Z
    ·exact YR.alloc _ 17 197 4 _ Z Z Z Z Z Z Z (OpZ.alloc (v:=(.agg [I 0,I 0])) zeroValue197 (zrC Z)) Z
    ·exact YR.alloc _ 17 197 4 _ Z Z Z Z Z Z Z (OpZ.alloc (v:=(.agg [I 0,I 0])) zeroValue197 (zrC Z)) Z
    ·exact YR.alloc _ 17 197 4 _ Z Z Z Z Z Z Z (OpZ.alloc (v:=(.agg [I 0,I 0])) zeroValue197 (zrC Z)) Z
   ·refine Qc ?_ (Qc ?_ (Qc ?_ (Qc ?_ (Qj))))
    ·exact YR.alloc _ 18 197 5 _ Z Z Z Z Z Z Z (OpZ.alloc (v:=(.agg [I 0,I 0])) zeroValue197 (zrC Z)) Z
    ·exact YR.alloc _ 18 197 5 _ Z Z Z Z Z Z Z (OpZ.alloc (v:=(.agg [I 0,I 0])) zeroValue197 (zrC Z)) Z
    ·exact YR.alloc _ 18 197 5 _ Z Z Z Z Z Z Z (OpZ.alloc (v:=(.agg [I 0,I 0])) zeroValue197 (zrC Z)) Z
    ·exact YR.alloc _ 18 197 5 _ Z Z Z Z Z Z Z (OpZ.alloc (v:=(.agg [I 0,I 0])) zeroValue197 (zrC Z)) Z
   ·refine Qc ?_ (Qj)
    ·refine Om2 Z (sD 3 (sD 0 sN)) ?_
     refine vU (OpU.store Z Z Z sizeOf197 Z Z Z Z Z Z Z) ?_
     exact FE Z Wp
   ·refine Qc ?_ (Qj)
    ·refine Om2 Z (sD 4 (sD 1 sN)) ?_
     refine vU (OpU.store Z Z Z sizeOf197 Z Z Z Z Z Z Z) ?_
     exact FE Z Wp
  refine Go 20 Z (Bd h fun g e h=>?_)
  refine Ct g [0,1,2,3,4,5] [4,15,16,17,18,316] (fun g=>[(317,.bool g)]) (fun _=>[]) (fun _=>rfl) ?_ (fun env H i=>?_)
  ·refine G0 0 Z (Cn Z e (fun k e=>?_) (fun k e=>?_))
   ·exact Gc 1 Z (Cl e [0,1,2,3,4,5])
   exact Gc 4 Z (Cl e [0,1,2,3,4,5])
  refine Gx 1 Z (TC.le i (Bd h fun f a h=>?_))
  refine Ct f [0,1,2,3,4,5] [4,15,16,17,18] (fun _=>[]) (fun f=>[(3,.cells 197 (facts_scope.c f.1)),(4,.cells 197 (facts_scope.c f.2.1)),(5,.cells 197 (facts_scope.c f.2.2))]) (fun _=>rfl) ?_ (fun env H i=>?_)
  ·refine G0 0 Z (Cn Z a (fun l a=>?_) (fun l a=>?_))
   ·exact Gc 6 Z (Cl a [0,1,2,3,4,5])
   refine Gc 6 Z (Cn Z a (fun m a=>?_) (fun m a=>?_))
   ·exact Gc 4 Z (Cl a [0,1,2,3,4,5])
   refine Gc 6 Z (Cn Z a (fun p a=>?_) (fun p a=>?_))
   ·exact Gc 4 Z (Cl a [0,1,2,3,4,5])
   exact Gc 1 Z (Cl a [0,1,2,3,4,5])
  refine Gx 2 Z (TC.le i (Gc 1 Z (DSs 30 Z (D 30 Z (DS.done Z ?_)))))
  refine vH (Yk (xs:=[.tmp 332,.tmp 337,.tmp 342,.tmp 347,.tmp 352,.tmp 357]) YG Z Z Z Z Z ⟨Z,Z,Z,Z,Z,Z,trivial⟩ Z) ?_
  refine FE Z (Go 8 Z ?_)
  obtain rfl:=Oi h
  exact Rx [0,1,6,2] [4,5] Z (QL Z Z (QgO.cons (Qm isAgg189 sizeOf189 Z Z Z) (QgO.cons Qcl.tmp QgO.nil))) ⟨Z,Z⟩
 refine Gc 6 Z (Cn Z h (fun q h=>?_) (fun q h=>?_))
 ·refine Gc 1 Z (DSs 9 Z (D 9 Z (DS.done Z ?_)))
  refine vH (Yk (xs:=[.tmp 367,.tmp 370]) YG Z Z Z Z Z ⟨Z,Z,trivial⟩ Z) ?_
  refine FE Z (Go 8 Z ?_)
  obtain rfl:=Oi h
  exact Rx [0,1,3,2] [4,5] Z (QL Z Z (QgO.cons (Qm isAgg189 sizeOf189 Z Z Z) (QgO.cons Qcl.tmp QgO.nil))) ⟨Z,Z⟩
 refine Gc 6 Z (Cn Z h (fun s h=>?_) (fun s h=>?_))
 ·refine Gc 10 Z ?_
  obtain rfl:=Oi h
  exact Rx [0,1,2] [4,5] Z (QL Z Z (QgO.cons (Qm isAgg189 sizeOf189 Z Z Z) (QgO.cons Qcl.tmp QgO.nil))) ⟨Z,Z⟩
 refine Gc 6 Z (Cn Z h (fun t h=>?_) (fun t h=>?_))
 ·refine Gc 1 Z (DSs 12 Z (D 12 Z (DS.done Z ?_)))
  refine vH (Yk (xs:=[.tmp 383,.tmp 389]) YG Z Z Z Z Z ⟨Z,Z,trivial⟩ Z) ?_
  refine FE Z (Go 8 Z ?_)
  obtain rfl:=Oi h
  exact Rx [0,1,3,2] [4,5] Z (QL Z Z (QgO.cons (Qm isAgg189 sizeOf189 Z Z Z) (QgO.cons Qcl.tmp QgO.nil))) ⟨Z,Z⟩
 refine Gc 11 Z ?_
 obtain rfl:=Oi h
 exact Rx [0,1,2] [4,5] Z (QL Z Z (QgO.cons (Qm isAgg189 sizeOf189 Z Z Z) (QgO.cons Qcl.tmp QgO.nil))) ⟨Z,Z⟩
def F_d(n:Nat):Option Unit:=
  some ()
theorem k_d(n:Nat)(r:Unit)(h:F_d n=some r):
    Csm prog 152 [] [] (fun _=>.bool true) r:=by
 refine Qa func152 Z Z Z ?_
 exact G0 11 Z (Rt h 0 [])
def F_by(n:Nat)(a:Fact):Option Unit:=
  some ()
theorem k_by(n:Nat)(a:Fact)(r:Unit)(h:F_by n a=some r):
    Csm prog 153 [.ptr 0 0] [.cells 234 [.ptr 1 21],.cells 52 (Fact.c a)] (fun _=>.bool (decide (a.Sync.Min<=a.Sync.Max))) r:=by
 refine Qa func153 Z Z Z ?_
 exact G0 6 Z (DSs 8 Z (D 8 Z (DS.done Z (Go 5 Z (Rt h 1 [0,1])))))
def F_bo(n:Nat)(a:Fact):Option Unit:=
  some ()
theorem k_bo(n:Nat)(a:Fact)(r:Unit)(h:F_bo n a=some r):
    Csm prog 154 [.ptr 0 0] [.cells 235 [.ptr 1 29],.cells 52 (Fact.c a)] (fun _=>.bool (decide (a.Hand.Lo<=a.Hand.Hi))) r:=by
 refine Qa func154 Z Z Z ?_
 exact G0 6 Z (DSs 8 Z (D 8 Z (DS.done Z (Go 5 Z (Rt h 1 [0,1])))))
def F_bj(n:Nat)(a:Fact):Option Unit:=
  some ()
theorem k_bj(n:Nat)(a:Fact)(r:Unit)(h:F_bj n a=some r):
    Csm prog 155 [.ptr 0 0] [.cells 236 [.ptr 1 33],.cells 52 (Fact.c a)] (fun _=>.bool (decide (a.Silence.Lo<=a.Silence.Hi))) r:=by
 refine Qa func155 Z Z Z ?_
 exact G0 6 Z (DSs 8 Z (D 8 Z (DS.done Z (Go 5 Z (Rt h 1 [0,1])))))
def F_br(n:Nat)(a:Fact):Option Unit:=
  some ()
theorem k_br(n:Nat)(a:Fact)(r:Unit)(h:F_br n a=some r):
    Csm prog 156 [.ptr 0 0] [.cells 237 [.ptr 1 37],.cells 52 (Fact.c a)] (fun _=>.bool (decide (a.Pair.A<a.Pair.B))) r:=by
 refine Qa func156 Z Z Z ?_
 exact G0 6 Z (DSs 8 Z (D 8 Z (DS.done Z (Go 5 Z (Rt h 1 [0,1])))))
def F_aj(n:Nat)(a:Fact):Option Unit:=
  some ()
theorem k_aj(n:Nat)(a:Fact)(r:Unit)(h:F_aj n a=some r):
    C prog 106 [.ptr 0 0] [.cells 52 (Fact.c a)] (RQ (fun _=>.osl 1 0 4 3) (fun _=>[.cells 52 (Fact.c a),.rowr 199 3 [[.ptr 0 3,I 1,I 13],[.ptr 0 0,I 0,I 31],[.ptr 0 1,I 1,I 1048576],[.ptr 0 2,I 0,I 1099511627776]]]) r):=by
 refine Qa func106 Z Z Z ?_
 refine G0 6 Z (DSs 20 Z (D 20 Z (DS.done Z ?_)))
 refine vH (Yk (xs:=[.tmp 7,.tmp 12,.tmp 17,.tmp 22]) YG Z Z Z Z Z ⟨Z,Z,Z,Z,trivial⟩ Z) ?_
 exact FE Z (Go 4 Z (Rt h 2 [0,1]))
def F_ar(n:Nat)(b:Fact)(g:Int)(c:Fact):Option (List Ent):=
  ((F_ak n ({b with Kind:=c.Kind:Fact}) g).bind fun d=>(match d with|.c0 h=>(some ([⟨false,4,1,9999⟩,⟨false,5,0,7⟩,⟨false,6,0,31⟩,⟨false,7,(-1099511627776),1099511627776⟩,⟨false,8,0,120⟩,⟨false,9,0,1048576⟩,⟨false,10,0,9999⟩,⟨false,11,0,1048576⟩]:List Ent))|.c1 i=>(some ([⟨false,12,0,39⟩,⟨false,13,0,255⟩,⟨false,14,0,1048576⟩,⟨false,15,(-1099511627776),1099511627776⟩]:List Ent))|.c2 j=>(some ([⟨false,16,0,39⟩,⟨false,17,0,255⟩,⟨false,18,(-1099511627776),1099511627776⟩,⟨false,19,(-1099511627776),1099511627776⟩,⟨false,20,0,1099511627776⟩]:List Ent))|.c3 k=>(some ([⟨false,21,0,39⟩,⟨false,22,0,255⟩,⟨false,23,(-1099511627776),1099511627776⟩,⟨false,24,0,39⟩,⟨false,25,0,255⟩,⟨false,26,(-1099511627776),1099511627776⟩,⟨false,27,(-1099511627776),1099511627776⟩,⟨false,28,(-1099511627776),1099511627776⟩]:List Ent))|.c4 l=>(some ([⟨false,29,1,9999⟩,⟨false,30,0,255⟩,⟨false,31,(-1099511627776),1099511627776⟩,⟨false,32,(-1099511627776),1099511627776⟩]:List Ent))|.c5 m=>(some ([⟨false,33,0,39⟩,⟨false,34,0,255⟩,⟨false,35,(-1099511627776),1099511627776⟩,⟨false,36,(-1099511627776),1099511627776⟩]:List Ent))|.c6 p=>(some ([⟨false,37,1,9999⟩,⟨false,38,1,9999⟩]:List Ent))|.c7 q=>(some ([⟨false,39,1,1048576⟩,⟨false,40,1,9999⟩,⟨false,41,0,31⟩,⟨false,42,0,255⟩]:List Ent))|.c8 r=>(some ([⟨false,43,1,1048576⟩,⟨false,44,0,9999⟩,⟨false,45,0,1125899906842624⟩,⟨false,46,0,1⟩]:List Ent))|.c9 a=>(some ([⟨false,47,1,1048576⟩,⟨false,48,1,2⟩,⟨false,49,1,5⟩,⟨false,50,a.1,a.2.1⟩,⟨false,51,a.2.2.1,a.2.2.2.1⟩,⟨false,52,a.2.2.2.2.1,a.2.2.2.2.2⟩]:List Ent))|.c10 s=>(some ([⟨false,53,1,1048576⟩,⟨true,0,0,1⟩]:List Ent))|.c11 t=>(some [])|.c12 u=>(some ([⟨false,55,0,31⟩,⟨false,56,1,1048576⟩]:List Ent))|.c13 w=>(some [])):Option (List Ent)).bind fun e=>(F_aj n ({b with Kind:=c.Kind:Fact})).bind fun x=>(app ([⟨false,3,1,13⟩,⟨false,0,0,31⟩,⟨false,1,1,1048576⟩,⟨false,2,0,1099511627776⟩]:List Ent) e).bind fun f=>some f
theorem k_ar(n:Nat)(f:Fact)(g:Int)(e:Fact)(r:List Ent)(h:F_ar n f g e=some r):
    C prog 105 [.ptr 0 0,.ptr 1 0,.ptr 2 0] [.cells 52 (Fact.c f),.cells 3 [I g],.cells 52 (Fact.c e)] (RQ (fun r=>.osl 3 0 r.length 3) (fun r=>[.cells 52 (Fact.c ({f with Kind:=e.Kind:Fact})),.cells 3 [I g],.cells 52 (Fact.c e),.ents 199 0 1 r]) r):=by
 refine Qa func105 Z Z Z ?_
 refine G0 16 Z (Bd h fun d a h=>?_)
 refine Ct d [0,1,2,0,0] [0] (fun _=>[(6,.ptr 3 0)]) (fun d=>[(3,.cells 189 [.osl 4 0 d.length 3,.any]),(4,.ents 199 0 1 d)]) (fun _=>rfl) ?_ (fun env H q=>?_)
 ·refine G0 3 Z (Bd a fun s k a=>?_)
  refine QA [0,1] (OpC.fn call104 Z Z Z) (k_ak _ _ _ _ k) ?_
  intro ra rH b
  rcases s with u|w|y|z|B|E|F|G|J|L|M|N|O|P
  ·obtain⟨rfl,rfl⟩:=b
   refine FE Z (TE 3 0 1 Z Z (FE Z (Go 7 Z ?_)))
   cases a
   refine QX ?_
   refine Le.trans (QE (i:=5) (m:=1) Z) ?_
   exact Lr [0,1,2,5,3]
  ·obtain⟨rfl,rfl⟩:=b
   refine FE Z (TE 3 0 1 Z Z (FE Z (Go 7 Z ?_)))
   cases a
   refine QX ?_
   refine Le.trans (QE (i:=5) (m:=1) Z) ?_
   exact Lr [0,1,2,5,3]
  ·obtain⟨rfl,rfl⟩:=b
   refine FE Z (TE 3 0 1 Z Z (FE Z (Go 7 Z ?_)))
   cases a
   refine QX ?_
   refine Le.trans (QE (i:=5) (m:=1) Z) ?_
   exact Lr [0,1,2,5,3]
  ·obtain⟨rfl,rfl⟩:=b
   refine FE Z (TE 3 0 1 Z Z (FE Z (Go 7 Z ?_)))
   cases a
   refine QX ?_
   refine Le.trans (QE (i:=6) (m:=1) Z) ?_
   exact Lr [0,1,2,6,3]
  ·obtain⟨rfl,rfl⟩:=b
   refine FE Z (TE 3 0 1 Z Z (FE Z (Go 7 Z ?_)))
   cases a
   refine QX ?_
   refine Le.trans (QE (i:=6) (m:=1) Z) ?_
   exact Lr [0,1,2,6,3]
  ·obtain⟨rfl,rfl⟩:=b
   refine FE Z (TE 3 0 1 Z Z (FE Z (Go 7 Z ?_)))
   cases a
   refine QX ?_
   refine Le.trans (QE (i:=6) (m:=1) Z) ?_
   exact Lr [0,1,2,6,3]
  ·obtain⟨rfl,rfl⟩:=b
   refine FE Z (TE 3 0 1 Z Z (FE Z (Go 7 Z ?_)))
   cases a
   refine QX ?_
   refine Le.trans (QE (i:=6) (m:=1) Z) ?_
   exact Lr [0,1,2,6,3]
  ·obtain⟨rfl,rfl⟩:=b
   refine FE Z (TE 3 0 1 Z Z (FE Z (Go 7 Z ?_)))
   cases a
   refine QX ?_
   refine Le.trans (QE (i:=5) (m:=1) Z) ?_
   exact Lr [0,1,2,5,3]
  ·obtain⟨rfl,rfl⟩:=b
   refine FE Z (TE 3 0 1 Z Z (FE Z (Go 7 Z ?_)))
   cases a
   refine QX ?_
   refine Le.trans (QE (i:=5) (m:=1) Z) ?_
   exact Lr [0,1,2,5,3]
  ·obtain⟨rfl,rfl⟩:=b
   refine FE Z (TE 3 0 1 Z Z (FE Z (Go 7 Z ?_)))
   cases a
   refine QX ?_
   refine Le.trans (QE (i:=5) (m:=1) Z) ?_
   exact Lr [0,1,2,5,3]
  ·obtain⟨rfl,rfl⟩:=b
   refine FE Z (TE 3 0 1 Z Z (FE Z (Go 7 Z ?_)))
   cases a
   refine QX ?_
   refine Le.trans (QE (i:=5) (m:=1) Z) ?_
   exact Lr [0,1,2,5,3]
  ·obtain⟨rfl,rfl⟩:=b
   refine FE Z (Go 7 Z ?_)
   cases a
   refine QX ?_
   refine Le.trans (QE (i:=4) (m:=1) Z) ?_
   refine Le.trans (Le.phantomE (i:=4) (m:=0) (t:=199) (b1:=0) (b2:=1) Z Z Z) ?_
   exact Lr [0,1,2,4,5]
  ·obtain⟨rfl,rfl⟩:=b
   refine FE Z (TE 3 0 1 Z Z (FE Z (Go 7 Z ?_)))
   cases a
   refine QX ?_
   refine Le.trans (QE (i:=5) (m:=1) Z) ?_
   exact Lr [0,1,2,5,3]
  ·obtain⟨rfl,rfl⟩:=b
   refine FE Z (Go 7 Z ?_)
   cases a
   refine QX ?_
   refine Le.trans (QE (i:=4) (m:=1) Z) ?_
   refine Le.trans (Le.phantomE (i:=4) (m:=0) (t:=199) (b1:=0) (b2:=1) Z Z Z) ?_
   exact Lr [0,1,2,4,5]
 refine Gx 1 Z (TC.le q (Gc 1 Z (DAs 4 1 [0,1,3,3] (by kernel_rfl) (Da 1 Z ?_))))
 obtain⟨Q,l,h⟩:=bnd h
 refine DA.op (x:=.osl 5 0 4 3) (H1:=[.cells 52 (Fact.c ({f with Kind:=e.Kind:Fact})),.cells 3 [I g],.cells 52 (Fact.c e),.cells 189 [.osl 4 0 d.length 3,.any],.ents 199 0 1 d,.rowr 199 3 [[.ptr 0 3,I 1,I 13],[.ptr 0 0,I 0,I 31],[.ptr 0 1,I 1,I 1048576],[.ptr 0 2,I 0,I 1099511627776]]]) ?_ ?_
 ·refine QA [0] (OpC.fn call106 Z Z Z) (k_aj _ _ _ l) ?_
  rintro _ _ ⟨rfl,rfl⟩
  exact FE Z Wp
 refine Db 1 Z ?_
 refine DB.wo2 (x:=.osl 4 0 d.length 3) (Ld isAgg187 Z Wp) (Ld isAgg187 Z Wp) ?_
 refine DB.done Z (TE 5 0 1 Z Z (FE Z (Bd h fun R p h=>?_)))
 refine vH (Qer (i:=5) (j:=4) p YG runUnderlying187 Z) ?_
 exact FE Z (Go 4 Z (Rt h 5 [0,1,2,6]))
def F_bt(n:Nat)(e:Fact)(b2:Int)(f:List Ent)(m:List Ent)(a:(List Int)×Fact×Int×Int):Option (Ctl ((List Int)×Fact×Int×Int) (Ctl ((List Int)×Fact×Int) ((List Int)×Bool))):=
  (bif decide (a.2.2.2<(f.length:Int))then(idx f a.2.2.2).bind fun b=>(QdV (Fact.c e) b2 b).bind fun g=>(bif decide (g<b.lo)then some (.done (.done ([],false)))else(QdV (Fact.c e) b2 b).bind fun h=>(bif decide (b.hi<h)then some (.done (.done ([],false)))else(idx m a.2.2.2).bind fun i=>(QdV (Fact.c e) b2 b).bind fun j=>(Qgt Fact.put a.2.1 a.2.2.1 i j).bind fun d=>(QdV (Fact.c e) b2 b).bind fun k=>(app a.1 [k]).bind fun l=>some (.cont (l,d.1,d.2,IntKind.i64.wrap (a.2.2.2+1)))))else some (.done (.cont (a.1,a.2.1,a.2.2.1))))
def F_bf(n:Nat)(a:Fact):Option ((List Int)×Bool):=
  ((bif a.Appeal.Suspends then some 1 else some 0):Option Int).bind fun b2=>((F_ak n a b2).bind fun f=>(match f with|.c0 k=>((F_d n).bind fun l=>some (.cont ([⟨false,4,1,9999⟩,⟨false,5,0,7⟩,⟨false,6,0,31⟩,⟨false,7,(-1099511627776),1099511627776⟩,⟨false,8,0,120⟩,⟨false,9,0,1048576⟩,⟨false,10,0,9999⟩,⟨false,11,0,1048576⟩]:List Ent)))|.c1 m=>((F_d n).bind fun p=>some (.cont ([⟨false,12,0,39⟩,⟨false,13,0,255⟩,⟨false,14,0,1048576⟩,⟨false,15,(-1099511627776),1099511627776⟩]:List Ent)))|.c2 q=>((F_d n).bind fun r=>some (.cont ([⟨false,16,0,39⟩,⟨false,17,0,255⟩,⟨false,18,(-1099511627776),1099511627776⟩,⟨false,19,(-1099511627776),1099511627776⟩,⟨false,20,0,1099511627776⟩]:List Ent)))|.c3 s=>((F_by n a).bind fun t=>(bif (!(decide (a.Sync.Min<=a.Sync.Max)))then some (.done ([],false))else some (.cont ([⟨false,21,0,39⟩,⟨false,22,0,255⟩,⟨false,23,(-1099511627776),1099511627776⟩,⟨false,24,0,39⟩,⟨false,25,0,255⟩,⟨false,26,(-1099511627776),1099511627776⟩,⟨false,27,(-1099511627776),1099511627776⟩,⟨false,28,(-1099511627776),1099511627776⟩]:List Ent))))|.c4 u=>((F_bo n a).bind fun w=>(bif (!(decide (a.Hand.Lo<=a.Hand.Hi)))then some (.done ([],false))else some (.cont ([⟨false,29,1,9999⟩,⟨false,30,0,255⟩,⟨false,31,(-1099511627776),1099511627776⟩,⟨false,32,(-1099511627776),1099511627776⟩]:List Ent))))|.c5 x=>((F_bj n a).bind fun y=>(bif (!(decide (a.Silence.Lo<=a.Silence.Hi)))then some (.done ([],false))else some (.cont ([⟨false,33,0,39⟩,⟨false,34,0,255⟩,⟨false,35,(-1099511627776),1099511627776⟩,⟨false,36,(-1099511627776),1099511627776⟩]:List Ent))))|.c6 z=>((F_br n a).bind fun E=>(bif (!(decide (a.Pair.A<a.Pair.B)))then some (.done ([],false))else some (.cont ([⟨false,37,1,9999⟩,⟨false,38,1,9999⟩]:List Ent))))|.c7 F=>((F_d n).bind fun G=>some (.cont ([⟨false,39,1,1048576⟩,⟨false,40,1,9999⟩,⟨false,41,0,31⟩,⟨false,42,0,255⟩]:List Ent)))|.c8 H=>((F_d n).bind fun J=>some (.cont ([⟨false,43,1,1048576⟩,⟨false,44,0,9999⟩,⟨false,45,0,1125899906842624⟩,⟨false,46,0,1⟩]:List Ent)))|.c9 c=>((F_d n).bind fun L=>some (.cont ([⟨false,47,1,1048576⟩,⟨false,48,1,2⟩,⟨false,49,1,5⟩,⟨false,50,c.1,c.2.1⟩,⟨false,51,c.2.2.1,c.2.2.2.1⟩,⟨false,52,c.2.2.2.2.1,c.2.2.2.2.2⟩]:List Ent)))|.c10 M=>((F_d n).bind fun N=>some (.cont ([⟨false,53,1,1048576⟩,⟨true,0,0,1⟩]:List Ent)))|.c11 O=>((F_d n).bind fun P=>some (.cont []))|.c12 Q=>((F_d n).bind fun R=>some (.cont ([⟨false,55,0,31⟩,⟨false,56,1,1048576⟩]:List Ent)))|.c13 T=>(some (.done ([],false)))):Option (Ctl (List Ent) ((List Int)×Bool))).bind fun g=>match g with|.cont d=>((F_aj n a).bind fun V=>(app ([⟨false,3,1,13⟩,⟨false,0,0,31⟩,⟨false,1,1,1048576⟩,⟨false,2,0,1099511627776⟩]:List Ent) d).bind fun h=>(F_ar n ({z_Fact with Ruling:={z_Ruling with Kind:=a.Ruling.Kind:Ruling}:Fact}) 0 a).bind fun i=>(iter (F_bt n a b2 h i) n ([],({({z_Fact with Ruling:={z_Ruling with Kind:=a.Ruling.Kind:Ruling}:Fact})with Kind:=a.Kind:Fact}),0,0):Option (Ctl ((List Int)×Fact×Int) ((List Int)×Bool))).bind fun j=>match j with|.cont b=>(((bif (a.Kind != 10)then some ({b.2.1 with Ruling:={b.2.1.Ruling with Kind:=0:Ruling}:Fact})else some b.2.1):Option Fact).bind fun e=>some (b.1,(({e with Appeal:={Case:=e.Appeal.Case,Suspends:=(b.2.2==1):Appeal}:Fact})==a)))|.done b=>some b)|.done d=>some d
theorem k_bf(n:Nat)(F:Fact)(r:(List Int)×Bool)(h:F_bf n F=some r):
    C prog 45 [.agg (Fact.c F)] [] (RQ (fun r=>.tup [.osl 0 0 r.1.length 1,.bool r.2]) (fun r=>[.row 3 1 (List.map (Qh .i64) r.1)]) r):=by
 refine Qa func45 Z Z Z ?_
 refine G0 21 Z (Bd h fun b2 M h=>?_)
 refine Ct b2 [0,1] [1,2,4] (fun _=>[]) (fun b2=>[(1,.cells 3 [I b2])]) (fun _=>rfl) ?_ (fun env H B=>?_)
 ·refine G0 0 Z (Cn Z M (fun am M=>?_) (fun am M=>?_))
  ·exact Gc 3 Z (Cl M [0,1])
  exact Gc 1 Z (Cl M [0,1])
 refine Gx 1 Z (TC.le B (Gc 7 Z (Bd h fun an a h=>?_)))
 refine Ct3E (b:=an) (fun y=>[(1,.ptr 0 0),(2,.nils),(5,.ptr 1 0),(6,.ptr 2 0)]) (fun y=>[.cells 52 (Fact.c F),.cells 52 (Fact.c F),.cells 189 [.osl 3 0 y.length 3,.any],.ents 199 1 4 y,.cells 3 [I b2]]) ?_ (fun y env H hb B=>?_)
 ·refine Gc 1 Z (Bd a fun ao aa a=>?_)
  refine QA [2,1] (OpC.fn call104 Z Z Z) (k_ak _ _ _ _ aa) ?_
  intro ra rH w
  rcases ao with bl|bm|bn|bo|bp|bq|br|bs|bt|bu|bv|bw|bx|bz
  ·obtain⟨rfl,rfl⟩:=w
   refine FE Z (TE 3 2 1 Z Z (FE Z (Go 15 Z (Cz [] a (k_d _) Z fun ca aw a=>Go 6 Z ?_))))
   cases a
   refine QB Z ?_
   refine Le.trans (QE (i:=5) (m:=1) Z) ?_
   exact Lr [0,2,5,3,1]
  ·obtain⟨rfl,rfl⟩:=w
   refine FE Z (TE 3 2 1 Z Z (FE Z (Go 15 Z (Cz [] a (k_d _) Z fun cb ax a=>Go 6 Z ?_))))
   cases a
   refine QB Z ?_
   refine Le.trans (QE (i:=5) (m:=1) Z) ?_
   exact Lr [0,2,5,3,1]
  ·obtain⟨rfl,rfl⟩:=w
   refine FE Z (TE 3 2 1 Z Z (FE Z (Go 15 Z (Cz [] a (k_d _) Z fun cc ay a=>Go 6 Z ?_))))
   cases a
   refine QB Z ?_
   refine Le.trans (QE (i:=5) (m:=1) Z) ?_
   exact Lr [0,2,5,3,1]
  ·obtain⟨rfl,rfl⟩:=w
   refine FE Z (TE 3 2 1 Z Z (FE Z (Go 15 Z (Cz [4,2] a (k_by _ _) Z fun cd az a=>Go 4 Z (Cn Z a (fun ab a=>?_) (fun ab a=>?_))))))
   ·refine Gc 7 Z ?_
    cases a
    refine QK (Gx 1 Z ?_)
    obtain rfl:=Oi h
    refine R2 2 3 Z Z ?_
    refine Le.trans (Le.phantom (s:=2) (k:=1) (t:=3) (Nat.le_of_ble_eq_true Z) Z) ?_
    exact Lr [7]
   refine Gc 1 Z ?_
   cases a
   refine QB Z ?_
   refine Le.trans (QE (i:=6) (m:=1) Z) ?_
   exact Lr [0,2,6,3,1]
  ·obtain⟨rfl,rfl⟩:=w
   refine FE Z (TE 3 2 1 Z Z (FE Z (Go 15 Z (Cz [4,2] a (k_bo _ _) Z fun ce ba a=>Go 4 Z (Cn Z a (fun ac a=>?_) (fun ac a=>?_))))))
   ·refine Gc 7 Z ?_
    cases a
    refine QK (Gx 1 Z ?_)
    obtain rfl:=Oi h
    refine R2 2 3 Z Z ?_
    refine Le.trans (Le.phantom (s:=2) (k:=1) (t:=3) (Nat.le_of_ble_eq_true Z) Z) ?_
    exact Lr [7]
   refine Gc 1 Z ?_
   cases a
   refine QB Z ?_
   refine Le.trans (QE (i:=6) (m:=1) Z) ?_
   exact Lr [0,2,6,3,1]
  ·obtain⟨rfl,rfl⟩:=w
   refine FE Z (TE 3 2 1 Z Z (FE Z (Go 15 Z (Cz [4,2] a (k_bj _ _) Z fun cf bb a=>Go 4 Z (Cn Z a (fun ad a=>?_) (fun ad a=>?_))))))
   ·refine Gc 7 Z ?_
    cases a
    refine QK (Gx 1 Z ?_)
    obtain rfl:=Oi h
    refine R2 2 3 Z Z ?_
    refine Le.trans (Le.phantom (s:=2) (k:=1) (t:=3) (Nat.le_of_ble_eq_true Z) Z) ?_
    exact Lr [7]
   refine Gc 1 Z ?_
   cases a
   refine QB Z ?_
   refine Le.trans (QE (i:=6) (m:=1) Z) ?_
   exact Lr [0,2,6,3,1]
  ·obtain⟨rfl,rfl⟩:=w
   refine FE Z (TE 3 2 1 Z Z (FE Z (Go 15 Z (Cz [4,2] a (k_br _ _) Z fun cg bc a=>Go 4 Z (Cn Z a (fun ae a=>?_) (fun ae a=>?_))))))
   ·refine Gc 7 Z ?_
    cases a
    refine QK (Gx 1 Z ?_)
    obtain rfl:=Oi h
    refine R2 2 3 Z Z ?_
    refine Le.trans (Le.phantom (s:=2) (k:=1) (t:=3) (Nat.le_of_ble_eq_true Z) Z) ?_
    exact Lr [7]
   refine Gc 1 Z ?_
   cases a
   refine QB Z ?_
   refine Le.trans (QE (i:=6) (m:=1) Z) ?_
   exact Lr [0,2,6,3,1]
  ·obtain⟨rfl,rfl⟩:=w
   refine FE Z (TE 3 2 1 Z Z (FE Z (Go 15 Z (Cz [] a (k_d _) Z fun ch bd a=>Go 6 Z ?_))))
   cases a
   refine QB Z ?_
   refine Le.trans (QE (i:=5) (m:=1) Z) ?_
   exact Lr [0,2,5,3,1]
  ·obtain⟨rfl,rfl⟩:=w
   refine FE Z (TE 3 2 1 Z Z (FE Z (Go 15 Z (Cz [] a (k_d _) Z fun ci be a=>Go 6 Z ?_))))
   cases a
   refine QB Z ?_
   refine Le.trans (QE (i:=5) (m:=1) Z) ?_
   exact Lr [0,2,5,3,1]
  ·obtain⟨rfl,rfl⟩:=w
   refine FE Z (TE 3 2 1 Z Z (FE Z (Go 15 Z (Cz [] a (k_d _) Z fun cj bf a=>Go 6 Z ?_))))
   cases a
   refine QB Z ?_
   refine Le.trans (QE (i:=5) (m:=1) Z) ?_
   exact Lr [0,2,5,3,1]
  ·obtain⟨rfl,rfl⟩:=w
   refine FE Z (TE 3 2 1 Z Z (FE Z (Go 15 Z (Cz [] a (k_d _) Z fun ck bg a=>Go 6 Z ?_))))
   cases a
   refine QB Z ?_
   refine Le.trans (QE (i:=5) (m:=1) Z) ?_
   exact Lr [0,2,5,3,1]
  ·obtain⟨rfl,rfl⟩:=w
   refine FE Z (Go 15 Z (Cz [] a (k_d _) Z fun cl bh a=>Go 6 Z ?_))
   cases a
   refine QB Z ?_
   refine Le.trans (QE (i:=4) (m:=1) Z) ?_
   refine Le.trans (Le.phantomE (i:=4) (m:=0) (t:=199) (b1:=2) (b2:=1) Z Z Z) ?_
   exact Lr [0,2,4,5,1]
  ·obtain⟨rfl,rfl⟩:=w
   refine FE Z (TE 3 2 1 Z Z (FE Z (Go 15 Z (Cz [] a (k_d _) Z fun cm bi a=>Go 6 Z ?_))))
   cases a
   refine QB Z ?_
   refine Le.trans (QE (i:=5) (m:=1) Z) ?_
   exact Lr [0,2,5,3,1]
  ·obtain⟨rfl,rfl⟩:=w
   refine FE Z (Go 28 Z ?_)
   cases a
   refine QK (Gx 1 Z ?_)
   obtain rfl:=Oi h
   refine R2 2 3 Z Z ?_
   refine Le.trans (Le.phantom (s:=2) (k:=1) (t:=3) (Nat.le_of_ble_eq_true Z) Z) ?_
   exact Lr [5]
 subst hb
 refine Gx 1 Z (TC.le B (Gc 12 Z (DAs 3 0 [1,3,3] (by kernel_rfl) ?_)))
 obtain⟨cn,af,h⟩:=bnd h
 refine DA.op (x:=.osl 6 0 4 3) (H1:=[.cells 52 (Fact.c F),.cells 52 (Fact.c F),.cells 189 [.osl 3 0 y.length 3,.any],.ents 199 1 4 y,.cells 3 [I b2],.cells 52 (Fact.c z_Fact),.rowr 199 3 [[.ptr 1 3,I 1,I 13],[.ptr 1 0,I 0,I 31],[.ptr 1 1,I 1,I 1048576],[.ptr 1 2,I 0,I 1099511627776]]]) ?_ ?_
 ·refine QA [1] (OpC.fn call106 Z Z Z) (k_aj _ _ _ af) ?_
  rintro _ _ ⟨rfl,rfl⟩
  exact FE Z Wp
 refine Db 1 Z ?_
 refine DB.wo2 (x:=.osl 3 0 y.length 3) (Ld isAgg187 Z Wp) (Ld isAgg187 Z Wp) ?_
 refine DB.done Z (TE 6 1 4 Z Z (FE Z (Bd h fun aq ag h=>?_)))
 refine vH (Qer (i:=6) (j:=3) ag YG runUnderlying187 Z) ?_
 refine FE Z (Go 22 Z (Cd [5,8,0] h (k_ar _ _ _ _) Z fun ar bj h=>FE Z (Go 11 Z (Bd h fun au ah h=>?_))))
 refine CtE (b:=au) [0,1,2,3] [1] (fun g=>[(2,.osl 1 0 g.1.length 1),(7,.ptr 2 0),(10,.ptr 3 0)]) (fun g=>[(1,.row 3 1 (List.map (Qh .i64) g.1)),(2,.cells 52 (Fact.c g.2.1)),(3,.cells 3 [I g.2.2])]) (fun _=>rfl) ?_ (fun g env H av B=>?_)
 ·refine G0 1 Z ?_
  refine Lp [0,0,5,8,9,7,1,4] [1,7,10,11,42,43] (fun l=>[(2,.osl 1 0 l.1.length 1),(44,I l.2.2.2)]) (fun l=>[(1,.row 3 1 (List.map (Qh .i64) l.1)),(2,.cells 52 (Fact.c l.2.1)),(3,.cells 3 [I l.2.2.1]),(4,.ents 199 2 3 ar),(5,.ents 199 6 7 aq)]) ah (fun _=>rfl) ?_ ?_
  ·refine Le.trans (Le.phantom (s:=2) (k:=1) (t:=3) (Nat.le_of_ble_eq_true Z) Z) ?_
   exact Lr [0,10,5,8,9,7,1,4]
  intro l bk d G
  refine G0 6 Z (CnS Z d (fun O d=>?_) (fun O d=>?_))
  ·refine Gc 2 Z (QF d ?_)
   obtain rfl:=Oj G d
   exact Gx 1 Z (QB Z (Lr [0,1,2,3]))
  refine Gc 7 Z (Bd d fun z he106 d=>?_)
  refine vX (.ptr 5 (Int.toNat l.2.2.2*3)) (QI he106 Z runUnderlying187 sizeOf199) ?_
  refine vX (.agg [QeV 6 7 z,I z.lo,I z.hi]) (Qk Z isAgg199 sizeOf199 Z (Pts.ents (f:=0) (QaC he106).2) Z Z) ?_
  refine Go 7 Z (DSs 16 Z (D 2 Z ?_))
  refine DS.wo (x:=QeV 6 7 z) ?_ ?_
  ·exact S Z Wp
  obtain⟨ai,P,d⟩:=bnd d
  refine DS.v (x:=(I ai)) (Qby P isAgg3) ?_
  refine D 5 Z (Qf8 8 d Z Z Z (fun Q d=>?_) (fun Q d=>?_))
  ·refine D 7 Z (DS.done Z (Go 15 Z (Q8 d ?_)))
   obtain rfl:=Oj G d
   refine Gx 1 Z (QK (Gx 1 Z ?_))
   obtain rfl:=Oi h
   refine R2 2 3 Z Z ?_
   refine Le.trans (Le.phantom (s:=2) (k:=1) (t:=3) (Nat.le_of_ble_eq_true Z) Z) ?_
   exact Lr [9]
  ·refine D 2 Z ?_
   refine DS.wo (x:=QeV 6 7 z) ?_ ?_
   ·exact Sg (gT Z) Z Wp
   obtain⟨aj,R,d⟩:=bnd d
   refine DS.v (x:=(I aj)) (Qby R isAgg3) ?_ (hg:=(gT Z))
   refine D 3 Z (DS.done Z (Go 4 Z (Cn Z d (fun T d=>?_) (fun T d=>?_))))
   ·refine Gc 10 Z (Q8 d ?_)
    obtain rfl:=Oj G d
    refine Gx 1 Z (QK (Gx 1 Z ?_))
    obtain rfl:=Oi h
    refine R2 2 3 Z Z ?_
    refine Le.trans (Le.phantom (s:=2) (k:=1) (t:=3) (Nat.le_of_ble_eq_true Z) Z) ?_
    exact Lr [9]
   refine Gc 3 Z (DSs 9 Z (D 2 Z ?_))
   obtain⟨ak,he111,d⟩:=bnd d
   refine DS.v (x:=(.ptr 4 (Int.toNat l.2.2.2*3))) (QI he111 Z runUnderlying187 sizeOf199) ?_
   refine DS.wo (x:=.ptr 4 (Int.toNat l.2.2.2*3)) ?_ ?_
   ·exact Fp QiR Z Wp
   refine DS.v (x:=(QeV 2 3 ak)) (OpV.load Z isAgg193 Z (Pts.ents (f:=0) (QaC he111).2)) ?_
   refine D 2 Z ?_
   refine DS.wo (x:=QeV 6 7 z) ?_ ?_
   ·exact S Z Wp
   obtain⟨al,V,d⟩:=bnd d
   refine DS.v (x:=(I al)) (Qby V isAgg3) ?_
   refine DS.done Z (S Z (Bd d fun J hq113 d=>?_))
   refine vU (QgS (c:=Fact.c) (f:=l.2.1) (f':=J.1) (s':=J.2) hq113 Qkt sizeOf3) ?_
   refine Qi8 (H:=[_,_,.cells 52 (Fact.c J.1),.cells 3 [I J.2],_,_,_,_,_]) Z ?_
   refine Go 6 Z (S Z (Bd d fun L W d=>?_))
   refine vX (I L) (Qby W isAgg3) ?_
   refine vH (OpH.lit (xs:=[.tmp 81]) (es:=List.map (Qh .i64) [L]) Qi Z Z Z Z Z ⟨Z,trivial⟩ Z Z) ?_
   refine aV (.osl 9 0 ([L].length) 1) [_,_,_,_,_,_,_,_,_,.row 3 1 (List.map (Qh .i64) [L])] Z Z ?_
   refine Bd d fun N X d=>?_
   refine vH (Qp (e:=(Qh .i64)) X Qi runUnderlying109 (QQ (i:=9))) ?_
   refine aV (.osl 10 0 N.length 1) [_,.dead,_,_,_,_,_,_,_,_,.row 3 1 (List.map (Qh .i64) N)] Z Z ?_
   exact Go 8 Z (QD d (Lr [0,10,2,3,4,5,6,7]))
 subst av
 refine Gx 1 Z (TC.le B (Gc 8 Z (Bd h fun u E h=>?_)))
 refine Ct u [0,1,2,3] [1,2,7,10] (fun _=>[]) (fun u=>[(2,.cells 52 (Fact.c u))]) (fun _=>rfl) ?_ (fun env H B=>?_)
 ·refine G0 0 Z (Cn Z E (fun Y E=>?_) (fun Y E=>?_))
  ·exact Gc 5 Z (Cl E [0,1,2,3])
  exact Gc 1 Z (Cl E [0,1,2,3])
 refine Gx 1 Z (TC.le B (Gc 10 Z ?_))
 refine TC.draw0 5 [94,95,96,97,2] [.osl 1 0 g.1.length 1,.agg (Fact.c ({u with Appeal:={Case:=u.Appeal.Case,Suspends:=(g.2.2==1):Appeal}:Fact})),.agg (Fact.c F),.bool (({u with Appeal:={Case:=u.Appeal.Case,Suspends:=(g.2.2==1):Appeal}:Fact})==F),.osl 1 0 g.1.length 1] draws Z Z Z ?_ ?_
 ·refine Oq.c ?_ (ov (ov (Oq.c ?_ (ov (Oq.n)))))
  ·refine Om Z (sP 4 sN) ?_
   exact S Z Wp
  ·refine Om Z (sD 1 (sD 2 sN)) ?_
   refine vX (.bool (({u with Appeal:={Case:=u.Appeal.Case,Suspends:=(g.2.2==1):Appeal}:Fact})==F)) (QcC (p:={u with Appeal:={Case:=u.Appeal.Case,Suspends:=(g.2.2==1):Appeal}:Fact}) (q:=F) QgI Z Z) ?_
   exact Wp
 refine Go 4 Z ?_
 obtain rfl:=Oi h
 exact R2 2 3 Z Z (Lr [1])
def F_ao(n:Nat)(a:Fact):Option Int:=
  (F_bf n a).bind fun b=>(bif (!b.2)then some 120 else some 0)
theorem k_ao(n:Nat)(a:Fact)(r:Int)(h:F_ao n a=some r):
    Csm prog 18 [.agg (Fact.c a)] [] (fun r=>I r) r:=by
 refine Qa func18 Z Z Z ?_
 refine G0 10 Z (Cd [] h (k_bf _ _) Z fun e d h=>FE Z (Go 13 Z (Cn Z h (fun b h=>?_) (fun b h=>?_))))
 ·exact Gc 7 Z (Rt h 2 [])
 exact Gc 8 Z (Rt h 2 [])
def F_fn(n:Nat)(c:List Fact)(h:Int)(a:(List Fact)×Int):Option (Ctl ((List Fact)×Int) (List Fact)):=
  (bif decide (a.2<(c.length:Int))then(idx c a.2).bind fun b=>((bif (b.Kind==h)then(F_ao n b).bind fun d=>some (d==0)else some false):Option Bool).bind fun e=>((bif e then(app a.1 [b]).bind fun f=>some f else some a.1):Option (List Fact)).bind fun g=>some (.cont (g,IntKind.i64.wrap (a.2+1)))else some (.done a.1))
def F_t(n:Nat)(b:List Fact)(c:Int):Option (List Fact):=
  (iter (F_fn n b c) n ([],0):Option (List Fact)).bind fun a=>some a
theorem k_t(n:Nat)(z:List Fact)(B:Int)(r:List Fact)(h:F_t n z B=some r):
    C prog 24 [.rsl 57 (List.map Fact.c z),I B] [] (RQ (fun r=>.osl 0 0 r.length 57) (fun r=>[.row 52 57 (List.map Fact.c r)]) r):=by
 refine Qa func24 Z Z Z ?_
 refine G0 9 Z (Lm Z (Go 3 Z (Bd h fun f E h=>?_)))
 refine Ct f [0] [] (fun f=>[(4,.osl 0 0 f.length 57)]) (fun f=>[(0,.row 52 57 (List.map Fact.c f))]) (fun _=>rfl) ?_ (fun env H g=>?_)
 ·refine G0 1 Z ?_
  refine Lp [0] [1,7,8] (fun j=>[(4,.osl 0 0 j.1.length 57),(9,I j.2)]) (fun j=>[(0,.row 52 57 (List.map Fact.c j.1))]) E (fun _=>rfl) ?_ ?_
  ·refine Le.trans (Le.phantom (s:=4) (k:=57) (t:=52) (Nat.le_of_ble_eq_true Z) Z) ?_
   exact Lr [0]
  intro j J a p
  refine G0 6 Z (CnS Z a (fun q a=>?_) (fun q a=>?_))
  ·refine Gc 2 Z (QF a ?_)
   obtain rfl:=Oj p a
   exact Gx 1 Z (QX (Lr [0]))
  refine Gc 6 Z (Bd a fun F u a=>Iz u Z (Go 6 Z (Bd a fun m b a=>?_)))
  refine Ct m [0,1] [1,4,6,7,8,9] (fun m=>[(21,.bool m)]) (fun _=>[]) (fun _=>rfl) ?_ (fun env H g=>?_)
  ·refine G0 6 Z (Is 17 b Z (fun w b=>?_) (fun w b=>?_))
   ·exact Go 1 Z (Cz [] b (k_ao _ _) Z fun L G b=>Go 3 Z (Cl b [0,1]))
   ·exact Go 5 Z (Cl b [0,1])
  refine Gx 1 Z (TC.le g (Bd a fun l d a=>?_))
  refine Ct l [0] [1,7,8,9] (fun l=>[(4,.osl 0 0 l.length 57)]) (fun l=>[(0,.row 52 57 (List.map Fact.c l))]) (fun _=>rfl) ?_ (fun env H g=>?_)
  ·refine G0 0 Z (Cn Z d (fun x d=>?_) (fun x d=>?_))
   ·refine Gc 3 Z ?_
    refine vH (OpH.lit (xs:=[.tmp 23]) (es:=List.map Fact.c [F]) Qbh Z Z Z Z Z ⟨Z,trivial⟩ Z Z) ?_
    refine FE Z (Bd d fun M y d=>?_)
    refine vH (Qp (e:=Fact.c) y Qbh runUnderlying22 (QQ (i:=2))) ?_
    exact FE Z (Go 2 Z (Cl d [3]))
   exact Gc 1 Z (Cl d [0])
  exact Gx 2 Z (TC.le g (Gc 4 Z (QD a (Lr [0]))))
 exact Gx 1 Z (TC.le g (Gc 7 Z (Rt h 4 [0])))
def F_an(n:Nat)(a:Fact)(b:Read):Option Bool:=
  ((bif (a.Kind==6)then(bif (a.Silence.Mat==b.Mat)then(bif (a.Silence.Epoch==b.Epoch)then(bif decide (a.Silence.Lo<=b.Local)then some (decide (b.Local<=a.Silence.Hi))else some false)else some false)else some false)else some false):Option Bool).bind fun c=>some c
theorem k_an(n:Nat)(e:Fact)(f:Read)(r:Bool)(h:F_an n e f=some r):
    Csm prog 49 [.agg (Fact.c e),.ptr 0 0] [.cells 24 (Read.c f)] (fun r=>.bool r) r:=by
 refine Qa func49 Z Z Z ?_
 refine G0 15 Z (Bd h fun b a h=>?_)
 refine Ct b [0] [] (fun b=>[(3,.bool b)]) (fun _=>[]) (fun _=>rfl) ?_ (fun env H g=>?_)
 ·refine G0 5 Z (Is 10 a Z (fun i a=>?_) (fun i a=>?_))
  ·refine Go 7 Z (Is 17 a Z (fun j a=>?_) (fun j a=>?_))
   ·refine Go 7 Z (Is 24 a Z (fun k a=>?_) (fun k a=>?_))
    ·refine Go 7 Z (Is 31 a Z (fun d a=>?_) (fun d a=>?_))
     ·exact Go 8 Z (Cl a [0])
     ·exact Go 8 Z (Cl a [0])
    ·exact Go 15 Z (Cl a [0])
   ·exact Go 22 Z (Cl a [0])
  ·exact Go 29 Z (Cl a [0])
 exact Gx 1 Z (TC.le g (Gc 1 Z (Rt h 3 [0])))
def F_fu(n:Nat)(b:List Fact)(e:Read)(a:Int):Option (Ctl Int (Ctl Unit Int)):=
  (bif decide (a<(b.length:Int))then(idx b a).bind fun c=>(F_an n c e).bind fun d=>(bif d then some (.done (.done a))else some (.cont (IntKind.i64.wrap (a+1))))else some (.done (.cont ())))
def F_ch(n:Nat)(c:List Fact)(d:Read):Option Int:=
  (iter (F_fu n c d) n 0:Option (Ctl Unit Int)).bind fun b=>match b with|.cont a=>(some (-1))|.done a=>some a
theorem k_ch(n:Nat)(b:List Fact)(a:Read)(r:Int)(h:F_ch n b a=some r):
    Csm prog 108 [.rsl 57 (List.map Fact.c b),.fn (.func 49) [] [.ptr 0 0]] [.cells 24 (Read.c a)] (fun r=>I r) r:=
 QM (el:=fun x=>.agg (Fact.c x)) (g:=fun x=>F_an n x a) func108 Z Z Z runUnderlying22 sizeOf52 (fun _ _ _ _ d e=>Qk d isAgg52 sizeOf52 e Pts.rp Z Z) call49 (fun _ _ h=>k_an _ _ _ _ h) h
def F_bu(n:Nat)(a:List Fact)(b:Read):Option Bool:=
  (F_ch n a b).bind fun c=>some (decide (0<=c))
theorem k_bu(n:Nat)(a:List Fact)(b:Read)(r:Bool)(h:F_bu n a b=some r):
    Csm prog 48 [.rsl 57 (List.map Fact.c a),.fn (.func 49) [] [.ptr 0 0]] [.cells 24 (Read.c b)] (fun r=>.bool r) r:=by
 refine Qa func48 Z Z Z ?_
 exact G0 9 Z (Cz [0] h (k_ch _ _ _) Z fun e d h=>Go 5 Z (Rt h 4 [0]))
def F_ae(n:Nat)(a:List Fact)(b:Read):Option Bool:=
  (F_bu n a b).bind fun c=>some c
theorem k_ae(n:Nat)(a:List Fact)(b:Read)(r:Bool)(h:F_ae n a b=some r):
    Csm prog 23 [.rsl 57 (List.map Fact.c a),.agg (Read.c b)] [] (fun r=>.bool r) r:=by
 refine Qa func23 Z Z Z ?_
 exact G0 10 Z (Cz [0] h (k_bu _ _ _) Z fun e d h=>Go 4 Z (Rt h 4 []))
def F_az(n:Nat)(a:Int):Option Unit:=
  some ()
theorem k_az(n:Nat)(a:Int)(r:Unit)(h:F_az n a=some r):
    Csm prog 116 [I a] [] (fun _=>.bool (a != a)) r:=by
 refine Qa func116 Z Z Z ?_
 exact G0 14 Z (Rt h 2 [])
def F_af(n:Nat)(b:Int)(a:Int):Option Int:=
  (F_az n b).bind fun c=>(F_az n a).bind fun d=>(bif (b != b)then(bif (a != a)then some 0 else some (-1))else(bif (a != a)then some 1 else(bif decide (b<a)then some (-1)else(bif decide (a<b)then some 1 else some 0))))
theorem k_af(n:Nat)(a:Int)(b:Int)(r:Int)(h:F_af n a b=some r):
    Csm prog 54 [I a,I b] [] (fun r=>I r) r:=by
 refine Qa func54 Z Z Z ?_
 refine G0 8 Z (Cz [] h (k_az _ _) Z fun k i h=>Go 6 Z (Cz [] h (k_az _ _) Z fun l j h=>Go 9 Z (Cn Z h (fun c h=>?_) (fun c h=>?_))))
 ·refine Gc 6 Z (Cn Z h (fun d h=>?_) (fun d h=>?_))
  ·exact Gc 8 Z (Rt h 4 [])
  exact Gc 9 Z (Rt h 4 [])
 refine Gc 8 Z (Cn Z h (fun e h=>?_) (fun e h=>?_))
 ·exact Gc 7 Z (Rt h 4 [])
 refine Gc 10 Z (Cn Z h (fun f h=>?_) (fun f h=>?_))
 ·exact Gc 7 Z (Rt h 4 [])
 refine Gc 10 Z (Cn Z h (fun g h=>?_) (fun g h=>?_))
 ·exact Gc 7 Z (Rt h 4 [])
 exact Gc 8 Z (Rt h 4 [])
def F_gb(n:Nat)(c:List Int)(a:Int):Option (Ctl Int (Ctl Unit Int)):=
  (bif decide (a<(c.length:Int))then(idx c a).bind fun b=>(bif (b != 0)then some (.done (.done b))else some (.cont (IntKind.i64.wrap (a+1))))else some (.done (.cont ())))
def F_dw(n:Nat)(b:List Int):Option Int:=
  (iter (F_gb n b) n 0:Option (Ctl Unit Int)).bind fun c=>match c with|.cont a=>(some 0)|.done a=>some a
theorem k_dw(n:Nat)(i:List Int)(r:Int)(h:F_dw n i=some r):
    Csm prog 53 [.rsl 1 (List.map (Qh .i64) i)] [] (fun r=>I r) r:=by
 refine Qa func53 Z Z Z ?_
 refine G0 14 Z (Lm Z (Go 3 Z (Bd h fun l m h=>?_)))
 refine CtE (b:=l) [] [3] (fun _=>[]) (fun _=>[]) (fun _=>rfl) ?_ (fun p env H j k=>?_)
 ·refine G0 1 Z ?_
  refine Lp [] [3,6,7] (fun d=>[(8,I d)]) (fun _=>[]) m (fun _=>rfl) (Lr []) fun d q a c=>?_
  refine G0 6 Z (CnS Z a (fun e a=>?_) (fun e a=>?_))
  ·refine Gc 2 Z (QF a ?_)
   obtain rfl:=Oj c a
   exact Gx 1 Z (QB Z (Lr []))
  refine Gc 6 Z (Bd a fun s f a=>Iz f Z (Go 11 Z (Cn Z a (fun g a=>?_) (fun g a=>?_))))
  ·refine Gc 9 Z (Q8 a ?_)
   obtain rfl:=Oj c a
   exact Gx 1 Z (QK (Gx 1 Z (Rt h 2 [])))
  exact Gc 7 Z (QD a (Lr []))
 subst j
 exact Gx 1 Z (TC.le k (Gc 7 Z (Rt h 2 [])))
def F_be(n:Nat)(a:hits_place)(b:hits_place):Option Int:=
  (F_af n a.chip b.chip).bind fun c=>(F_af n a.mat b.mat).bind fun d=>(F_af n a.epoch b.epoch).bind fun e=>(F_dw n [c,d,e]).bind fun f=>some f
theorem k_be(n:Nat)(a:hits_place)(b:hits_place)(r:Int)(h:F_be n a b=some r):
    Csm prog 31 [.agg (hits_place.c a),.agg (hits_place.c b)] [] (fun r=>I r) r:=by
 refine Qa func31 Z Z Z ?_
 refine G0 8 Z (DSs 14 Z (D 4 Z ?_))
 refine Dz [] h (k_af _ _ _) Z fun d g h=>D 4 Z ?_
 refine Dz [] h (k_af _ _ _) Z fun e i h=>D 4 Z (DS.done Z (Cz [] h (k_af _ _ _) Z fun f j h=>?_))
 refine vH (QaF (xs:=[.tmp 9,.tmp 14,.tmp 19]) (es:=List.map (Qh .i64) [d,e,f]) Qi Z Z Z Z Z ⟨Z,Z,Z,trivial⟩ Z Z) ?_
 exact FE Z (Cz [] h (k_dw _ _) Z fun l k h=>Go 4 Z (Rt h 4 []))
def F_hh(n:Nat)(j:Course)(k:List Fact)(d:List Fact)(a:(List (hits_place×Option (List Int)))×Int):Option (Ctl ((List (hits_place×Option (List Int)))×Int) (List (hits_place×Option (List Int)))):=
  (bif decide (a.2<(d.length:Int))then(idx d a.2).bind fun b=>((bif decide (b.Read.Mat<(j.Mats.length:Int))then(F_ae n k b.Read).bind fun e=>some (!e)else some false):Option Bool).bind fun f=>((bif f then(oent a.1 ({chip:=b.Read.Chip,mat:=b.Read.Mat,epoch:=b.Read.Epoch:hits_place})).bind fun c=>(app c.1 [b.Read.Local]).bind fun g=>(Qgv c.2.1 c.2.2 g).bind fun h=>some h else some a.1):Option (List (hits_place×Option (List Int)))).bind fun i=>some (.cont (i,IntKind.i64.wrap (a.2+1)))else some (.done a.1))
def F_gs(n:Nat)(b:List hits_place)(c:hits_place×Unit):Option (Ctl (List hits_place) (List hits_place)):=
  (app b [c.1]).bind fun a=>some (.cont a)
def F_gi(n:Nat)(a:List hits_place):Option (List hits_place):=
  some a
def F_hf(n:Nat)(f:Course)(b:List Int)(a:Int):Option (Ctl Int Int):=
  ((bif decide (a<(b.length:Int))then(idx b a).bind fun c=>(idx b (IntKind.i64.wrap (a-1))).bind fun d=>some (decide ((IntKind.i64.wrap (c-d))<=f.Faults.Window))else some false):Option Bool).bind fun e=>(bif e then some (.cont (IntKind.i64.wrap (a+1)))else some (.done a))
def F_hg(n:Nat)(g:Course)(b:hits_place)(a:List Int)(c:Int):Option ((List Hit)×Ctl Int Unit):=
  (bif decide (c<(a.length:Int))then(iter (F_hf n g a) n (IntKind.i64.wrap (c+1)):Option Int).bind fun d=>(idx a c).bind fun e=>(idx a (IntKind.i64.wrap (d-1))).bind fun f=>yl ({Mat:=b.mat,Epoch:=b.epoch,Chip:=b.chip,First:=e,Last:=f:Hit}) (some ([],.cont d))else some ([],.done ()))
def F_hb(n:Nat)(f:Course)(b:List hits_place)(a:(List (hits_place×Option (List Int)))×Int):Option ((List Hit)×Ctl ((List (hits_place×Option (List Int)))×Int) Unit):=
  (bif decide (a.2<(b.length:Int))then(idx b a.2).bind fun c=>(Qiz a.1 c).bind fun d=>(sortI d.1).bind fun e=>ap (QbH (F_hg n f c e) n 0) fun g=>some ([],.cont (d.2,IntKind.i64.wrap (a.2+1)))else some ([],.done ()))
def F_ep(n:Nat)(c:List Fact)(d:Course):Option ((List Hit)×Unit):=
  (F_t n c 6).bind fun f=>(F_t n c 2).bind fun g=>(iter (F_hh n d f g) n ([],0):Option (List (hits_place×Option (List Int)))).bind fun a=>anyP (fun p473=>(Qgp (F_gs n) (F_gi n) [] p473).bind fun e=>(Qfl (fun x y=>F_be n x y) e).bind fun b=>ap (QbH (F_hb n d b) n (a,0)) fun h=>some ([],())) (Qhb a)
theorem k_ep(n:Nat)(a1:List Fact)(a2:Course)(p:(List Hit)×Unit)(h:F_ep n a1 a2=some p):
    Qjj prog 61 [.ptr 0 0,.ptr 1 0] [.cells 22 [.rsl 57 (List.map Fact.c a1)],.cells 67 (Course.c a2)] (fun x=>[.agg (Hit.c x)]) nxL p.1:=by
 obtain⟨xs,u⟩:=p
 refine QfY func61 Z Z Z Z ?_
 intro X hE hN
 refine Gy0 1 Z (TCy.lf ?_)
 refine G0 2 Z (Cd [] h (k_t _ _ _) Z fun r1 co h=>FE Z (Go 2 Z ?_))
 refine Gyx 2 Z (TCy.lf ?_)
 refine G0 1 Z ?_
 refine vH (QgU 3 1) ?_
 refine FE Z (Go 2 Z ?_)
 refine Gyx 2 Z (TCy.lf ?_)
 refine G0 3 Z (Cd [] h (k_t _ _ _) Z fun r2 cp h=>FE Z (Go 4 Z (Bd h fun w bv h=>?_)))
 refine Ct w [0,1,3] [0,2,5] (fun _=>[]) (fun w=>[(2,.mapO false 3 1 (Qw (fun x=>A.agg (hits_place.c x)) (Qh .i64) w))]) (fun _=>rfl) ?_ (fun env H d=>?_)
 ·refine G0 1 Z ?_
  refine Lp [0,1,2,3,4] [0,2,4,5,21,22] (fun G=>[(23,I G.2)]) (fun G=>[(3,.mapO false 3 1 (Qw (fun x=>A.agg (hits_place.c x)) (Qh .i64) G.1))]) bv (fun _=>rfl) (Lr [0,1,2,3,4]) fun G cq g ay=>?_
  refine G0 6 Z (CnS Z g (fun az g=>?_) (fun az g=>?_))
  ·refine Gc 2 Z (QF g ?_)
   obtain rfl:=Oj ay g
   exact Gx 1 Z (QX (Lr [0,1,3]))
  refine Gc 6 Z (Bd g fun N ab g=>?_)
  refine vX (.ptr 4 (Int.toNat G.2*57)) (QI ab Z runUnderlying22 sizeOf52) ?_
  refine vX (.agg (Fact.c N)) (Qk Z isAgg52 sizeOf52 Z (Qs ab) Z Z) ?_
  refine Go 13 Z (Bd g fun ac B g=>?_)
  refine Ct ac [0,1,2,3,6,4] [0,2,4,5,8,21,22,23] (fun ac=>[(40,.bool ac)]) (fun _=>[]) (fun _=>rfl) ?_ (fun env H d=>?_)
  ·refine G0 5 Z (Lm Z (Go 2 Z (Is 35 B Z (fun ba B=>?_) (fun ba B=>?_))))
   ·exact Go 2 Z (Cb B (k_ae _ _ _) Z (lo (ls ln)) fun cr cc B=>Go 3 Z (Cl B [0,1,2,3,6,4]))
   ·exact Go 6 Z (Cl B [0,1,2,3,6,4])
  refine Gx 1 Z (TC.le d (Bd g fun ad m g=>?_))
  refine Ct ad [0,1,2,3,5] [0,2,4,5,21,22,23] (fun _=>[]) (fun ad=>[(3,.mapO false 3 1 (Qw (fun x=>A.agg (hits_place.c x)) (Qh .i64) ad))]) (fun _=>rfl) ?_ (fun env H d=>?_)
  ·refine G0 0 Z (Cn Z m (fun bb m=>?_) (fun bb m=>?_))
   ·refine Gc 18 Z ?_
    refine vH (OpH.lit (xs:=[.tmp 52]) (es:=List.map (Qh .i64) [N.Read.Local]) Qi Z Z Z Z Z ⟨Z,trivial⟩ Z Z) ?_
    refine FE Z (Bd m fun au bc m=>?_)
    refine vH (Qjr (ek:=(fun x=>A.agg (hits_place.c x))) (ev:=(Qh .i64)) (key:=({chip:=N.Read.Chip,mat:=N.Read.Mat,epoch:=N.Read.Epoch:hits_place})) (l:=G.1) (t:=3) (k:=1) Qgy bc underlying132 zeroValue109) ?_
    refine FE Z (Go 1 Z (Bd m fun bw bd m=>?_))
    refine vH (Qp (e:=(Qh .i64)) bd Qi runUnderlying109 (QQ (i:=7))) ?_
    refine FE Z (Go 1 Z (Bd m fun cs be m=>?_))
    refine vU (Qjq (ek:=(fun x=>A.agg (hits_place.c x))) (ev:=(Qh .i64)) (rows:=bw) (l:=au.2.1) (ix:=au.2.2) (j:=9) (t:=3) (k:=1) Qgy be) ?_
    exact FE Z (Go 1 Z (Cl m [0,1,2,3,5]))
   exact Gc 1 Z (Cl m [0,1,2,3,5])
  exact Gx 2 Z (TC.le d (Gc 4 Z (QD g (Lr [0,1,2,3,4]))))
 refine Gyx 1 Z (TCy.le d (Gyc 1 Z (TCy.lf ?_)))
 refine G0 3 Z ?_
 refine Gyx 2 Z (TCy.lf ?_)
 refine G0 3 Z ?_
 refine vH (Qh3 (ek:=(fun x=>A.agg (hits_place.c x))) (ev:=(Qh .i64)) (l:=w) (t:=3) (k:=1) underlying132) ?_
 refine FE Z (Go 2 Z ?_)
 have bx:=Qj0 h
 have av:Qga _ _ _ _ _:=fun p hp=>bnd (bx p hp)
 refine Qj2 av (fun R=>[(0,.fn (.yield X.l) [] []),(2,.ptr 1 0),(5,.map 2),(10,.osl 3 0 R.length 3)]) (fun R=>[.cells 22 [.rsl 57 (List.map Fact.c a1)],.cells 67 (Course.c a2),.mapO true 3 1 (Qw (fun x=>A.agg (hits_place.c x)) (Qh .i64) w),.row 94 3 (List.map hits_place.c R)]) ?_ (fun R env H ae d=>?_)
 ·refine G0 1 Z ?_
  refine Qjb (enc:=(fun p=>((fun x=>A.agg (hits_place.c x)) p.1,(fun _=>A.any) p.2))) (fun O=>[(0,.fn (.yield X.l) [] []),(2,.ptr 1 0),(5,.map 2),(10,.osl 3 0 O.length 3),(59,.ptr 4 0)]) (fun O aw=>[.cells 22 [.rsl 57 (List.map Fact.c a1)],.cells 67 (Course.c a2),.mapO true 3 1 (Qw (fun x=>A.agg (hits_place.c x)) (Qh .i64) w),.row 94 3 (List.map hits_place.c O),.iter none aw]) av ?_ ?_
  ·refine Le.trans (Le.phantom (s:=10) (k:=3) (t:=94) (Nat.le_of_ble_eq_true Z) Z) ?_
   exact Lr [0,1,2,4,3]
  intro O aw bz
  refine G0 2 Z ?_
  refine Qi6 (enc:=(fun p=>((fun x=>A.agg (hits_place.c x)) p.1,(fun _=>A.any) p.2))) bz (fun ct ca cb=>?_) (fun E ax cu af cv bf=>?_)
  ·refine Go 7 Z (QkJ ?_)
   cases ca
   exact Gx 1 Z (cutGN cb (Lr [0,1,2,3]))
  refine aV (.tup [.bool true,.agg (hits_place.c E.1),.any]) [.cells 22 [.rsl 57 (List.map Fact.c a1)],.cells 67 (Course.c a2),.mapO true 3 1 (Qw (fun x=>A.agg (hits_place.c x)) (Qh .i64) w),.row 94 3 (List.map hits_place.c O),.iter (some (.agg (hits_place.c E.1),.any)) (List.map (fun p=>((fun x=>A.agg (hits_place.c x)) p.1,(fun _=>A.any) p.2)) ax)] Z Z ?_
  refine Go 10 Z ?_
  refine vX (.tup [.agg (hits_place.c E.1),.any]) (OpV.entry (e:=(.agg (hits_place.c E.1),.any))) ?_
  refine Go 8 Z ?_
  refine vH (OpH.lit (xs:=[.tmp 65]) (es:=List.map hits_place.c [E.1]) QiV Z Z Z Z Z ⟨Z,trivial⟩ Z Z) ?_
  refine FE Z (Bd af fun bg ai af=>?_)
  refine vH (Qp (e:=hits_place.c) ai QiV runUnderlying133 (QQ (i:=6))) ?_
  refine FE Z (Go 3 Z (QkK _ _ af bf ?_))
  refine Le.trans (Qh7 (i:=4) (H':=[.cells 22 [.rsl 57 (List.map Fact.c a1)],.cells 67 (Course.c a2),.mapO true 3 1 (Qw (fun x=>A.agg (hits_place.c x)) (Qh .i64) w),.dead,.iter none (List.map (fun p=>((fun x=>A.agg (hits_place.c x)) p.1,(fun _=>A.any) p.2)) ax),.cells 94 (hits_place.c E.1),.row 94 3 (List.map hits_place.c [E.1]),.row 94 3 (List.map hits_place.c bg)]) Z Z) ?_
  exact Lr [0,1,2,7,4]
 refine Gyx 1 Z (TCy.le d (Gyc 1 Z (TCy.lf ?_)))
 refine G0 2 Z (Bd ae fun bh J ae=>?_)
 refine QA [3] (OpC.fn call62 Z Z Z) (Qj5 (enc:=hits_place.c) QeI J (fun x y c h=>k_be n x y c h) isAgg94 sizeOf94 call31 (fun _=>rfl) Z) ?_
 rintro _ _ ⟨rfl,rfl⟩
 refine FE Z ?_
 refine WO.le (Q2 (s:=10) Z (congrArg (fun n=>A.osl 3 0 n 3) (Qd6 J))) ?_
 refine WO.le (Q2 (s:=68) Z (congrArg (fun n=>A.osl 3 0 n 3) (Qd6 J))) ?_
 refine Go 1 Z ?_
 refine Gyx 2 Z (TCy.lf ?_)
 refine G0 5 Z ?_
 refine Gyx 1 Z ?_
 obtain⟨cd,bi,bj,bk,bl,rfl⟩:=Qkk ae
 rw[List.append_assoc]
 refine QfW bi (bj++[]) [0,1] [0] (fun _=>[]) (fun _=>[]) (fun _=>rfl) ?_ (fun env H d=>?_)
 ·refine Gy0 1 Z ?_
  refine Qi9 [0,1,2,3] [0,2,5,70,71] (fun r=>[(72,I r.2)]) (fun r=>[(2,.mapO true 3 1 (Qw (fun x=>A.agg (hits_place.c x)) (Qh .i64) r.1))]) bk (fun _=>rfl) (Lr [0,1,2,3]) fun r ce cf bm a aj=>?_
  refine Gy0 1 Z (TCy.lf ?_)
  refine G0 3 Z ?_
  refine Gyx 2 Z (TCy.lf ?_)
  refine G0 0 Z (CnS Z a (fun ak a=>?_) (fun ak a=>?_))
  ·refine Gc 1 Z ?_
   refine Gyx 1 Z ?_
   obtain⟨rfl,rfl,rfl⟩:=Oy aj a
   exact QiC (Gyx 1 Z (Qkj (Lr [0,1])))
  refine Gc 1 Z ?_
  refine Gyx 4 Z (TCy.lf ?_)
  refine G0 1 Z (Bd a fun F T a=>?_)
  refine vX (.ptr 3 (Int.toNat r.2*3)) (QI T Z runUnderlying133 sizeOf94) ?_
  refine vX (.agg (hits_place.c F)) (Qk Z isAgg94 sizeOf94 Z (Qs T) Z Z) ?_
  refine Go 3 Z ?_
  refine Gyx 2 Z (TCy.lf ?_)
  refine G0 3 Z (Bd a fun cg al a=>?_)
  refine vH (Qh1 (ek:=(fun x=>A.agg (hits_place.c x))) (ev:=(Qh .i64)) (key:=F) (l:=r.1) (t:=3) (k:=1) Qgy al underlying132 zeroValue109) ?_
  refine FE Z (Go 2 Z ?_)
  refine Gyx 2 Z (TCy.lf ?_)
  refine G0 2 Z (Bd a fun ch z a=>?_)
  refine QA [5] (OpC.fn call63 Z Z Z) (Qj6 QeJ z) ?_
  rintro _ _ ⟨rfl,rfl⟩
  refine FE Z ?_
  refine WO.le (Q2 (s:=14) Z (congrArg (fun n=>A.osl 5 0 n 1) (Qbo z))) ?_
  refine WO.le (Q2 (s:=78) Z (congrArg (fun n=>A.osl 5 0 n 1) (Qbo z))) ?_
  refine WO.le (Q2 (s:=79) Z (congrArg (fun n=>A.osl 5 0 n 1) (Qbo z))) ?_
  refine Go 1 Z ?_
  refine Gyx 2 Z (TCy.lf ?_)
  refine G0 3 Z ?_
  refine Gyx 1 Z ?_
  obtain⟨ci,bn,bo,bp,bq,rfl⟩:=Qkk a
  rw[List.append_assoc]
  refine QfW bn (bo++bm) [0,1,2,5] [0,2,5,70,71,72] (fun _=>[]) (fun _=>[(3,.row 94 3 (List.map hits_place.c bh))]) (fun _=>rfl) ?_ (fun env H d=>?_)
  ·refine Gy0 1 Z ?_
   refine Qi9 [0,1,2,4,5,3] [0,2,5,13,14,70,71,72] (fun P=>[(15,I P)]) (fun _=>[]) bp (fun _=>rfl) (Lr [0,1,2,4,5,3]) fun P cj ck cl b am=>?_
   refine Gy0 1 Z (TCy.lf ?_)
   refine G0 8 Z (CnS Z b (fun an b=>?_) (fun an b=>?_))
   ·refine Gc 1 Z ?_
    refine Gyx 1 Z ?_
    obtain⟨rfl,rfl,rfl⟩:=Oy am b
    exact QiC (Gyx 1 Z (Qkj (Lr [0,1,2,5])))
   refine Gc 1 Z ?_
   refine Gyx 3 Z (TCy.lf ?_)
   refine G0 5 Z ?_
   refine Gyx 2 Z (TCy.lf ?_)
   refine Bd b fun L br b=>?_
   refine Ct L [0,1,2,3,4,5] [0,2,5,13,14,15,70,71,72] (fun L=>[(16,I L)]) (fun _=>[]) (fun _=>rfl) ?_ (fun env H d=>?_)
   ·refine G0 1 Z ?_
    refine Lp [0,1,2,3,4,5] [0,2,5,13,14,15,70,71,72] (fun M=>[(16,I M)]) (fun _=>[]) br (fun _=>rfl) (Lr [0,1,2,3,4,5]) fun M cm q ao=>?_
    refine G0 2 Z (Bd q fun Q f q=>?_)
    refine Ct Q [0,1,2,3,4,5] [0,2,5,13,14,15,16,70,71,72] (fun Q=>[(106,.bool Q)]) (fun _=>[]) (fun _=>rfl) ?_ (fun env H d=>?_)
    ·refine G0 0 Z (DSs 18 Z (D 5 Z (Qf8 4 f Z Z Z (fun aq f=>?_) (fun aq f=>?_))))
     ·refine D 2 Z ?_
      obtain⟨bs,V,f⟩:=bnd f
      refine DS.v (x:=(.ptr 4 (Int.toNat M*1))) (QI V Z runUnderlying109 sizeOf3) ?_ (hg:=(gT Z))
      refine DS.v (x:=(I bs)) (OpV.load Z isAgg3 Z (Qs V)) ?_ (hg:=(gT Z))
      refine D 3 Z ?_
      obtain⟨bt,W,f⟩:=bnd f
      refine DS.v (x:=(.ptr 4 (Int.toNat (IntKind.i64.wrap (M-1))*1))) (QI W Z runUnderlying109 sizeOf3) ?_ (hg:=(gT Z))
      refine DS.v (x:=(I bt)) (OpV.load Z isAgg3 Z (Qs W)) ?_ (hg:=(gT Z))
      exact D 4 Z (DS.done Z (Go 3 Z (Cl f [0,1,2,3,4,5])))
     ·exact D 13 Z (DS.done Z (Go 3 Z (Cl f [0,1,2,3,4,5])))
    refine Gx 1 Z (TC.le d (CnS Z q (fun ar q=>?_) (fun ar q=>?_)))
    ·refine Gc 2 Z (QF q ?_)
     obtain rfl:=Oj ao q
     exact Gx 1 Z (QX (Lr [0,1,2,3,4,5]))
    exact Gc 9 Z (QD q (Lr [0,1,2,3,4,5]))
   refine Gyx 1 Z (TCy.le d (Gyc 2 Z (DSy 17 Z (D 9 Z ?_))))
   obtain⟨ag,Y,b⟩:=bnd b
   refine DS.v (x:=(.ptr 4 (Int.toNat P*1))) (QI Y Z runUnderlying109 sizeOf3) ?_
   refine DS.v (x:=(I ag)) (OpV.load Z isAgg3 Z (Qs Y)) ?_
   refine D 3 Z ?_
   obtain⟨ah,aa,b⟩:=bnd b
   refine DS.v (x:=(.ptr 4 (Int.toNat (IntKind.i64.wrap (L-1))*1))) (QI aa Z runUnderlying109 sizeOf3) ?_
   refine DS.v (x:=(I ah)) (OpV.load Z isAgg3 Z (Qs aa)) ?_
   refine D 1 Z (DS.done Z ?_)
   obtain⟨cn,bu,rfl⟩:=yl_ok b
   refine QkU (x:={Mat:=F.mat,Epoch:=F.epoch,Chip:=F.chip,First:=ag,Last:=ah:Hit}) (e:=fun x=>.agg (Hit.c x)) hE hN Z Z Z Z ?_ ?_
   ·refine Gyo 3 Z (TCy.lf ?_)
    refine G0 2 Z ?_
    refine Gyx 1 Z (TCy.lf ?_)
    refine G0 4 Z ?_
    exact Gyx 1 Z (QiE bu (Lr [0,1,2,3,4,5]))
   ·exact Gyo 7 Z (QiD (Gyx 1 Z (Qki (Gyx 2 Z (QiD (Gyx 1 Z (Qki (⟨.inr Z,.inr ⟨_,Z⟩⟩))))))))
  refine Gyx 2 Z (TCy.le d (TCy.lf ?_))
  refine G0 4 Z ?_
  exact Gyx 0 Z (QiE bq (Lr [0,1,2,3]))
 cases bl
 exact⟨.inl Z,.inl Z⟩
def F_gw(n:Nat)(b:List Hit)(c:Hit):Option (Ctl (List Hit) (List Hit)):=
  (app b [c]).bind fun a=>some (.cont a)
def F_ai(n:Nat)(b:Course)(c:List Fact):Option (List Hit):=
  (F_au n b).bind fun e=>(bif (e != 0)then some []else(F_fj n b c).bind fun f=>(F_ep n c b).bind fun y4=>(runL (F_gw n) y4.1 []:Option (Ctl (List Hit) (List Hit))).bind fun d=>match d with|.cont a=>(some a)|.done a=>some a)
theorem k_ai(n:Nat)(b:Course)(g:List Fact)(r:List Hit)(h:F_ai n b g=some r):
    C prog 16 [.agg (Course.c b),.rsl 57 (List.map Fact.c g)] [] (RQ (fun r=>.osl 0 0 r.length 5) (fun r=>[.row 26 5 (List.map Hit.c r),.cells 68 [.osl 0 0 r.length 5]]) r):=by
 refine Qa func16 Z Z Z ?_
 refine G0 10 Z (Cz [] h (k_au _ _) Z fun B s h=>Go 3 Z (Cn Z h (fun j h=>?_) (fun j h=>?_)))
 ·refine Gc 7 Z ?_
  obtain rfl:=Oi h
  refine⟨[(4,.ptr 1 0)],[.row 26 5 (List.map Hit.c []),.cells 68 [.osl 0 0 ([].length) 5]],_,?_,QT Z (QcX isAgg68 Z Z),Z,Z⟩
  refine Le.trans (Qbm (i:=1) (m:=0) (t:=26) (k:=5) Z Z Z) ?_
  exact Lr [2,1]
 refine Gc 7 Z (Cd [] h (k_fj _ _ _) Z fun E u h=>FE Z (Go 3 Z (Bd h fun y4 hy4 h=>Bd h fun w l h=>?_)))
 refine QhQ [2,3] (fun d=>[.cells 67 (Course.c b),.cells 68 [.osl 4 0 d.length 5],.dead,.dead,.row 26 5 (List.map Hit.c d)]) l (k_ep _ _ _ _ hy4) (fun _=>rfl) (fun _=>rfl) call61 Z Z Z Z (by decide) Z ?_ ?_ ?_
 ·refine Le.trans (Qbm (i:=1) (m:=0) (t:=26) (k:=5) Z Z Z) ?_
  exact Lr [0,1,2,3,4]
 ·intro d p x a q
  refine G0 4 Z (And.intro Z ?_)
  refine G0 4 Z ?_
  refine vH (OpH.lit (xs:=[.tmp 14]) (es:=List.map Hit.c [p]) Qhm Z Z Z Z Z ⟨Z,trivial⟩ Z Z) ?_
  refine FE Z (Bd a fun y f a=>?_)
  refine vH (Qp (e:=Hit.c) f Qhm runUnderlying68 (QQ (i:=6))) ?_
  exact FE Z (Go 3 Z (QjF a (Lr [0,1,2,3,7])))
 rintro z rfl
 refine Gx 9 Z ?_
 obtain rfl:=Oi h
 exact Rx [4,1] [4] Z (QT Z (QcX isAgg68 Z Z)) ⟨Z,Z⟩
def F_bh(n:Nat)(a:Hit)(b:Int):Option Unit:=
  some ()
theorem k_bh(n:Nat)(a:Hit)(b:Int)(r:Unit)(h:F_bh n a b=some r):
    Csm prog 47 [.agg (Hit.c a),.ptr 0 0] [.cells 3 [I b]] (fun _=>.bool (a.Chip != b)) r:=by
 refine Qa func47 Z Z Z ?_
 exact G0 16 Z (Rt h 3 [0])
def F_gu(n:Nat)(c:List Hit)(d:Int)(a:Int):Option (Ctl Int (Ctl Unit Int)):=
  (bif decide (a<(c.length:Int))then(idx c a).bind fun b=>(F_bh n b d).bind fun e=>(bif (b.Chip != d)then some (.done (.done a))else some (.cont (IntKind.i64.wrap (a+1))))else some (.done (.cont ())))
def F_db(n:Nat)(c:List Hit)(d:Int):Option Int:=
  (iter (F_gu n c d) n 0:Option (Ctl Unit Int)).bind fun b=>match b with|.cont a=>(some (-1))|.done a=>some a
theorem k_db(n:Nat)(g:List Hit)(k:Int)(r:Int)(h:F_db n g k=some r):
    Csm prog 107 [.osl 0 0 g.length 5,.fn (.func 47) [] [.ptr 1 0]] [.row 26 5 (List.map Hit.c g),.cells 3 [I k]] (fun r=>I r) r:=by
 refine Qa func107 Z Z Z ?_
 refine G0 13 Z (Bd h fun l m h=>?_)
 refine CtE (b:=l) [0,1] [] (fun _=>[]) (fun _=>[]) (fun _=>rfl) ?_ (fun t env H p q=>?_)
 ·refine G0 1 Z ?_
  refine Lp [0,1] [0,1,7] (fun d=>[(8,I d)]) (fun _=>[]) m (fun _=>rfl) (Lr [0,1]) fun d w a e=>?_
  refine G0 6 Z (CnS Z a (fun i a=>?_) (fun i a=>?_))
  ·refine Gc 2 Z (QF a ?_)
   obtain rfl:=Oj e a
   exact Gx 1 Z (QB Z (Lr [0,1]))
  refine Gc 15 Z (Bd a fun s f a=>?_)
  refine vX (.ptr 0 (Int.toNat d*5)) (QI f Z runUnderlying68 sizeOf26) ?_
  refine vX (.agg (Hit.c s)) (Qk Z isAgg26 sizeOf26 Z (Qs f) Z Z) ?_
  refine Cz [1] a (k_bh _ _ _) Z fun x u a=>Go 2 Z (Cn Z a (fun j a=>?_) (fun j a=>?_))
  ·refine Gc 9 Z (Q8 a ?_)
   obtain rfl:=Oj e a
   exact Gx 1 Z (QK (Gx 1 Z (Rt h 4 [0,1])))
  exact Gc 7 Z (QD a (Lr [0,1]))
 subst p
 exact Gx 1 Z (TC.le q (Gc 6 Z (Rt h 4 [0,1])))
def F_gy(n:Nat)(d:Int)(a:(List Hit)×Int×Int):Option (Ctl ((List Hit)×Int×Int) ((List Hit)×Int)):=
  (bif decide (a.2.2<(a.1.length:Int))then(idx a.1 a.2.2).bind fun b=>(F_bh n b d).bind fun f=>((bif (!(b.Chip != d))then(idx a.1 a.2.1).bind fun g=>(QdT a.1 a.2.1 b).bind fun e=>some (e,IntKind.i64.wrap (a.2.1+1))else some (a.1,a.2.1)):Option ((List Hit)×Int)).bind fun c=>some (.cont (c.1,c.2,IntKind.i64.wrap (a.2.2+1)))else some (.done (a.1,a.2.1)))
def F_de(n:Nat)(b:List Hit)(d:Int):Option (List Hit):=
  (F_db n b d).bind fun c=>(bif (c==(-1))then some b else(iter (F_gy n d) n (b,c,IntKind.i64.wrap (c+1)):Option ((List Hit)×Int)).bind fun a=>(slc a.1 0 a.2).bind fun e=>some e)
theorem k_de(n:Nat)(x:List Hit)(u:Int)(r:List Hit)(h:F_de n x u=some r):
    C prog 46 [.osl 0 0 x.length 5,.fn (.func 47) [] [.ptr 1 0]] [.row 26 5 (List.map Hit.c x),.cells 3 [I u]] (RQ (fun r=>.osl 0 0 r.length 5) (fun r=>[.row 26 5 (List.map Hit.c r),.cells 3 [I u]]) r):=by
 refine Qa func46 Z Z Z ?_
 refine G0 9 Z (Cz [0,1] h (k_db _ _ _) Z fun Q L h=>Go 10 Z (Cn Z h (fun E h=>?_) (fun E h=>?_)))
 ·exact Gc 8 Z (Rt h 4 [0,1])
 refine Gc 10 Z (Bd h fun a F h=>?_)
 refine Ct a [0,1] [] (fun a=>[(0,.osl 0 0 a.1.length 5),(5,I a.2)]) (fun a=>[(0,.row 26 5 (List.map Hit.c a.1))]) (fun _=>rfl) ?_ (fun env H p=>?_)
 ·refine G0 1 Z ?_
  refine Lp [0,1] [1] (fun g=>[(0,.osl 0 0 g.1.length 5),(5,I g.2.1),(6,I g.2.2)]) (fun g=>[(0,.row 26 5 (List.map Hit.c g.1))]) F (fun _=>rfl) (Lr [0,1]) fun g M b y=>?_
  refine G0 9 Z (CnS Z b (fun z b=>?_) (fun z b=>?_))
  ·refine Gc 2 Z (QF b ?_)
   obtain rfl:=Oj y b
   exact Gx 1 Z (QX (Lr [0,1]))
  refine Gc 8 Z (Bd b fun G q b=>?_)
  refine vX (.ptr 0 (Int.toNat g.2.2*5)) (QI q Z runUnderlying68 sizeOf26) ?_
  refine vX (.agg (Hit.c G)) (Qk Z isAgg26 sizeOf26 Z (Qs q) Z Z) ?_
  refine Go 8 Z (Cz [1] b (k_bh _ _ _) Z fun N J b=>Go 3 Z (Bd b fun j d b=>?_))
  refine Ct j [0,1] [1,6] (fun j=>[(0,.osl 0 0 j.1.length 5),(5,I j.2)]) (fun j=>[(0,.row 26 5 (List.map Hit.c j.1))]) (fun _=>rfl) ?_ (fun env H p=>?_)
  ·refine G0 0 Z (Cn Z d (fun B d=>?_) (fun B d=>?_))
   ·refine Gc 5 Z (Bd d fun O t d=>?_)
    refine vX (.ptr 0 (Int.toNat g.2.1*5)) (QI t Z runUnderlying68 sizeOf26) ?_
    refine Bd d fun P i d=>?_
    refine vU (QaT (e:=Hit.c) (k:=5) (f:=0) t i sizeOf26 Z Z) ?_
    refine FE Z ?_
    refine WO.le (Q2 (s:=0) Z (congrArg (fun n=>A.osl 0 0 n 5) (Qb0 i))) ?_
    refine WO.le (Q2 (s:=17) Z (congrArg (fun n=>A.osl 0 0 n 5) (Qb0 i))) ?_
    refine WO.le (Q2 (s:=22) Z (congrArg (fun n=>A.osl 0 0 n 5) (Qb0 i))) ?_
    refine WO.le (Q2 (s:=30) Z (congrArg (fun n=>A.osl 0 0 n 5) (Qb0 i))) ?_
    exact Go 7 Z (Cl d [0,1])
   exact Gc 1 Z (Cl d [0,1])
  exact Gx 2 Z (TC.le p (Gc 5 Z (QD b (Lr [0,1]))))
 refine Gx 1 Z (TC.le p (Gc 4 Z (Bd h fun w m h=>?_)))
 refine vX (.osl 0 (0+Int.toNat a.2) (a.1.length-Int.toNat a.2) 5) (QgQ (l:=a.1) m runUnderlying68 sizeOf26) ?_
 refine vN (QgV (e:=Hit.c) (l:=a.1) m underlying68 zeroValue26 Z (by simp[Qo,Go.Value.cells])) ?_
 refine Qi8 (H:=[.row 26 5 (List.map Hit.c w),.cells 3 [I u]]) Z ?_
 refine Go 6 Z ?_
 refine vX (.osl 0 0 w.length 5) (QgR (l:=a.1) m runUnderlying68 sizeOf26) ?_
 exact Go 4 Z (Rt h 4 [0,1])
def F_ba(n:Nat)(a:Course)(b:List Fact)(c:Int):Option (List Hit):=
  (F_ai n a b).bind fun d=>(F_de n d c).bind fun e=>some e
theorem k_ba(n:Nat)(a:Course)(b:List Fact)(d:Int)(r:List Hit)(h:F_ba n a b d=some r):
    C prog 20 [.agg (Course.c a),.rsl 57 (List.map Fact.c b),I d] [] (RQ (fun r=>.osl 0 0 r.length 5) (fun r=>[.row 26 5 (List.map Hit.c r)]) r):=by
 refine Qa func20 Z Z Z ?_
 exact G0 11 Z (Cd [] h (k_ai _ _ _) Z fun g e h=>FE Z (Go 1 Z (Cd [2,1] h (k_de _ _ _) Z fun i f h=>FE Z (Go 4 Z (Rt h 6 [2])))))
def F_v(n:Nat)(a:List Fact)(b:Read):Option Bool:=
  (F_t n a 6).bind fun c=>(F_ae n c b).bind fun d=>some d
theorem k_v(n:Nat)(b:List Fact)(a:Read)(r:Bool)(h:F_v n b a=some r):
    Csm prog 9 [.rsl 57 (List.map Fact.c b),.agg (Read.c a)] [] (fun r=>.bool r) r:=by
 refine Qa func9 Z Z Z ?_
 refine G0 7 Z (DAs 3 1 [0,1,3] (by kernel_rfl) (Da 1 Z ?_))
 obtain⟨d,e,h⟩:=bnd h
 refine DA.op (x:=.osl 1 0 d.length 57) (H1:=[.cells 24 (Read.c a),.row 52 57 (List.map Fact.c d)]) ?_ ?_
 ·refine QA [] (OpC.fn call24 Z Z Z) (k_t _ _ _ _ e) ?_
  rintro _ _ ⟨rfl,rfl⟩
  exact FE Z Wp
 refine DB.wo2 (x:=.agg (Read.c a)) ?_ ?_ ?_
 ·refine vX (.agg (Read.c a)) (Qk Z isAgg24 sizeOf24 Z (Pts.cells Z Z) Z Z) ?_
  exact Wp
 ·refine vX (.agg (Read.c a)) (Qk Z isAgg24 sizeOf24 Z (Pts.cells Z Z) Z Z) ?_
  exact Wp
 exact DB.done Z (Cb h (k_ae _ _ _) Z (lo (ls ln)) fun g f h=>Go 4 Z (Rt h 4 []))
def F_am(n:Nat)(a:Hit)(b:Read):Option Bool:=
  ((bif (a.Mat==b.Mat)then(bif (a.Epoch==b.Epoch)then(bif (a.Chip==b.Chip)then(bif decide (a.First<=b.Local)then some (decide (b.Local<=a.Last))else some false)else some false)else some false)else some false):Option Bool).bind fun c=>some c
theorem k_am(n:Nat)(e:Hit)(f:Read)(r:Bool)(h:F_am n e f=some r):
    Csm prog 11 [.agg (Hit.c e),.agg (Read.c f)] [] (fun r=>.bool r) r:=by
 refine Qa func11 Z Z Z ?_
 refine G0 8 Z (Bd h fun b a h=>?_)
 refine Ct b [] [] (fun b=>[(4,.bool b)]) (fun _=>[]) (fun _=>rfl) ?_ (fun env H g=>?_)
 ·refine G0 7 Z (Is 10 a Z (fun i a=>?_) (fun i a=>?_))
  ·refine Go 7 Z (Is 17 a Z (fun j a=>?_) (fun j a=>?_))
   ·refine Go 7 Z (Is 24 a Z (fun k a=>?_) (fun k a=>?_))
    ·refine Go 7 Z (Is 31 a Z (fun d a=>?_) (fun d a=>?_))
     ·exact Go 8 Z (Cl a [])
     ·exact Go 8 Z (Cl a [])
    ·exact Go 15 Z (Cl a [])
   ·exact Go 22 Z (Cl a [])
  ·exact Go 29 Z (Cl a [])
 exact Gx 1 Z (TC.le g (Gc 1 Z (Rt h 4 [])))
def F_bd(n:Nat)(a:Int):Option Bool:=
  ((bif decide ((-1099511627776)<=a)then some (decide (a<=1099511627776))else some false):Option Bool).bind fun b2=>some b2
theorem k_bd(n:Nat)(b:Int)(r:Bool)(h:F_bd n b=some r):
    Csm prog 30 [I b] [] (fun r=>.bool r) r:=by
 refine Qa func30 Z Z Z ?_
 refine G0 6 Z (Bd h fun b2 a h=>?_)
 refine Ct b2 [] [] (fun b2=>[(2,.bool b2)]) (fun _=>[]) (fun _=>rfl) ?_ (fun env H c=>?_)
 ·refine G0 4 Z (Is 5 a Z (fun d a=>?_) (fun d a=>?_))
  ·exact Go 5 Z (Cl a [])
  ·exact Go 5 Z (Cl a [])
 exact Gx 1 Z (TC.le c (Gc 1 Z (Rt h 2 [])))
def F_gd(n:Nat)(l:Course)(f:List Hit)(b:Int):Option (Ctl Int (Ctl Unit Int)):=
  (bif decide (b<(f.length:Int))then((idx f b).bind fun a=>((bif decide (a.Mat<0)then some true else(bif decide ((l.Mats.length:Int)<=a.Mat)then some true else(bif decide (a.Epoch<0)then some true else(bif decide (255<a.Epoch)then some true else(bif decide (a.Chip<0)then some true else(bif decide (1048576<a.Chip)then some true else(F_bd n a.First).bind fun g=>(bif (!g)then some true else(F_bd n a.Last).bind fun h=>(bif (!h)then some true else some (decide (a.Last<a.First)))))))))):Option Bool).bind fun i=>(bif i then some (.done (.done (.done 170)))else(bif (b==0)then some (.cont ())else(idx f (IntKind.i64.wrap (b-1))).bind fun c=>(F_be n ({chip:=c.Chip,mat:=c.Mat,epoch:=c.Epoch:hits_place}) ({chip:=a.Chip,mat:=a.Mat,epoch:=a.Epoch:hits_place})).bind fun d=>((bif decide (0<d)then some (decide (0<d))else(bif (d==0)then some (decide ((IntKind.i64.wrap (a.First-c.Last))<=l.Faults.Window))else some false)):Option Bool).bind fun j=>(bif j then some (.done (.done (.done 170)))else some (.cont ())))):Option (Ctl Unit (Ctl Int (Ctl Unit Int)))).bind fun k=>match k with|.cont e=>(some (.cont (IntKind.i64.wrap (b+1))))|.done e=>some e else some (.done (.cont ())))
def F_ay(n:Nat)(c:Course)(e:List Hit):Option Int:=
  (F_au n c).bind fun d=>(bif (d != 0)then some d else(iter (F_gd n c e) n 0:Option (Ctl Unit Int)).bind fun b=>match b with|.cont a=>(some 0)|.done a=>some a)
theorem k_ay(n:Nat)(P:Course)(Q:List Hit)(r:Int)(h:F_ay n P Q=some r):
    Csm prog 14 [.agg (Course.c P),.rsl 5 (List.map Hit.c Q)] [] (fun r=>I r) r:=by
 refine Qa func14 Z Z Z ?_
 refine G0 10 Z (Cz [] h (k_au _ _) Z fun r1 ah h=>Go 9 Z (Cn Z h (fun R h=>?_) (fun R h=>?_)))
 ·exact Gc 8 Z (Rt h 4 [])
 refine Gc 11 Z (Lm Z (Go 3 Z (Bd h fun M N h=>?_)))
 refine CtE (b:=M) [] [] (fun _=>[]) (fun _=>[]) (fun _=>rfl) ?_ (fun V env H T g=>?_)
 ·refine G0 1 Z ?_
  refine Lp [0] [1,2,6,16,17] (fun l=>[(18,I l)]) (fun _=>[]) N (fun _=>rfl) (Lr [0]) fun l ab e i=>?_
  refine G0 6 Z (CnS Z e (fun m e=>?_) (fun m e=>?_))
  ·refine Gc 2 Z (QF e ?_)
   obtain rfl:=Oj i e
   exact Gx 1 Z (QB Z (Lr []))
  refine Gc 3 Z (Bd e fun O d e=>?_)
  refine CtE (b:=O) [0] [1,2,6,16,17,18] (fun _=>[]) (fun _=>[]) (fun _=>rfl) ?_ (fun W env H hb g=>?_)
  ·refine G0 4 Z (Bd d fun ac p d=>Iz p Z (Go 8 Z (Bd d fun j a d=>?_)))
   refine Ct j [0,1] [1,2,6,7,8,16,17,18] (fun j=>[(74,.bool j)]) (fun _=>[]) (fun _=>rfl) ?_ (fun env H g=>?_)
   ·refine G0 5 Z (Is 26 a Z (fun q a=>?_) (fun q a=>?_))
    ·exact Go 49 Z (Cl a [0,1])
    ·refine Go 4 Z (Lm Z (Go 3 Z (Is 34 a Z (fun s a=>?_) (fun s a=>?_))))
     ·exact Go 41 Z (Cl a [0,1])
     ·refine Go 5 Z (Is 39 a Z (fun t a=>?_) (fun t a=>?_))
      ·exact Go 36 Z (Cl a [0,1])
      ·refine Go 5 Z (Is 44 a Z (fun u a=>?_) (fun u a=>?_))
       ·exact Go 31 Z (Cl a [0,1])
       ·refine Go 5 Z (Is 49 a Z (fun w a=>?_) (fun w a=>?_))
        ·exact Go 26 Z (Cl a [0,1])
        ·refine Go 5 Z (Is 54 a Z (fun x a=>?_) (fun x a=>?_))
         ·exact Go 21 Z (Cl a [0,1])
         ·refine Go 3 Z (Cz [] a (k_bd _ _) Z fun ad X a=>Go 3 Z (Is 61 a Z (fun y a=>?_) (fun y a=>?_)))
          ·exact Go 14 Z (Cl a [0,1])
          ·refine Go 3 Z (Cz [] a (k_bd _ _) Z fun ae Y a=>Go 3 Z (Is 68 a Z (fun z a=>?_) (fun z a=>?_)))
           ·exact Go 7 Z (Cl a [0,1])
           ·exact Go 7 Z (Cl a [0,1])
   refine Gx 1 Z (TC.le g (Cn Z d (fun B d=>?_) (fun B d=>?_)))
   ·refine Gc 8 Z ?_
    cases d
    refine QK (Gx 1 Z (Q8 e ?_))
    obtain rfl:=Oj i e
    exact Gx 1 Z (QK (Gx 1 Z (Rt h 4 [])))
   refine Gc 9 Z (Cn Z d (fun E d=>?_) (fun E d=>?_))
   ·refine Gc 3 Z ?_
    cases d
    exact QB Z (Lr [0])
   refine Gc 7 Z (Bd d fun af F d=>Iz F Z (Go 21 Z (Cz [] d (k_be _ _ _) Z fun ag aa d=>Go 12 Z (Bd d fun k f d=>?_))))
   refine Ct k [0] [1,2,6,16,17,18] (fun k=>[(97,.bool k)]) (fun _=>[]) (fun _=>rfl) ?_ (fun env H g=>?_)
   ·refine G0 0 Z (Cn Z f (fun G f=>?_) (fun G f=>?_))
    ·exact Gc 1 Z (Cl f [0])
    refine Gc 4 Z (Is 102 f Z (fun J f=>?_) (fun J f=>?_))
    ·exact Go 12 Z (Cl f [0])
    ·exact Go 12 Z (Cl f [0])
   refine Gx 1 Z (TC.le g (Cn Z d (fun L d=>?_) (fun L d=>?_)))
   ·refine Gc 8 Z ?_
    cases d
    refine QK (Gx 1 Z (Q8 e ?_))
    obtain rfl:=Oj i e
    exact Gx 1 Z (QK (Gx 1 Z (Rt h 4 [])))
   refine Gc 3 Z ?_
   cases d
   exact QB Z (Lr [0])
  subst hb
  exact Gx 1 Z (TC.le g (Gc 4 Z (QD e (Lr [0]))))
 subst T
 exact Gx 1 Z (TC.le g (Gc 6 Z (Rt h 4 [])))
def F_bi(n:Nat):Option Bool:=
  (F_r n 4 151).bind fun s=>(F_r n 1 100).bind fun t=>(F_r n 2 115).bind fun u=>(F_r n 3 130).bind fun w=>(F_r n 6 6).bind fun x=>(F_s n 20).bind fun y=>(F_ai n ({z_Course with Name:=[99],Mats:=[{Name:=[97],Kind:=1:Mat},{Name:=[98],Kind:=3:Mat}],Ties:=[{z_Step with Kind:=1,By:=4:Step}],Faults:={z_Faults with Window:=20:Faults}:Course}) [{z_Fact with No:=4,Kind:=2,Read:={Mat:=1,Epoch:=0,Chip:=7,Local:=151:Read}:Fact},{z_Fact with No:=1,Kind:=2,Read:={Mat:=1,Epoch:=0,Chip:=7,Local:=100:Read}:Fact},{z_Fact with No:=2,Kind:=2,Read:={Mat:=1,Epoch:=0,Chip:=7,Local:=115:Read}:Fact},{z_Fact with No:=3,Kind:=2,Read:={Mat:=1,Epoch:=0,Chip:=7,Local:=130:Read}:Fact},{z_Fact with No:=5,Kind:=6,Silence:={Mat:=1,Epoch:=0,Lo:=5,Hi:=7:Silence}:Fact},{z_Fact with No:=6,Kind:=2,Read:={Mat:=1,Epoch:=0,Chip:=7,Local:=6:Read}:Fact}]).bind fun a=>(F_s n 21).bind fun z=>(F_ba n ({z_Course with Name:=[99],Mats:=[{Name:=[97],Kind:=1:Mat},{Name:=[98],Kind:=3:Mat}],Ties:=[{z_Step with Kind:=1,By:=4:Step}],Faults:={z_Faults with Window:=21:Faults}:Course}) [{z_Fact with No:=4,Kind:=2,Read:={Mat:=1,Epoch:=0,Chip:=7,Local:=151:Read}:Fact},{z_Fact with No:=1,Kind:=2,Read:={Mat:=1,Epoch:=0,Chip:=7,Local:=100:Read}:Fact},{z_Fact with No:=2,Kind:=2,Read:={Mat:=1,Epoch:=0,Chip:=7,Local:=115:Read}:Fact},{z_Fact with No:=3,Kind:=2,Read:={Mat:=1,Epoch:=0,Chip:=7,Local:=130:Read}:Fact},{z_Fact with No:=5,Kind:=6,Silence:={Mat:=1,Epoch:=0,Lo:=5,Hi:=7:Silence}:Fact},{z_Fact with No:=6,Kind:=2,Read:={Mat:=1,Epoch:=0,Chip:=7,Local:=6:Read}:Fact}] 7).bind fun b=>((bif ((a.length:Int)==2)then(idx a 0).bind fun c=>(bif (c==({Mat:=1,Epoch:=0,Chip:=7,First:=100,Last:=130:Hit}))then(idx a 1).bind fun d=>(bif (d.First==151)then(bif ((b.length:Int)==1)then(idx b 0).bind fun e=>(bif (e.Last==151)then(F_s n 20).bind fun p=>(F_ba n ({z_Course with Name:=[99],Mats:=[{Name:=[97],Kind:=1:Mat},{Name:=[98],Kind:=3:Mat}],Ties:=[{z_Step with Kind:=1,By:=4:Step}],Faults:={z_Faults with Window:=20:Faults}:Course}) [{z_Fact with No:=4,Kind:=2,Read:={Mat:=1,Epoch:=0,Chip:=7,Local:=151:Read}:Fact},{z_Fact with No:=1,Kind:=2,Read:={Mat:=1,Epoch:=0,Chip:=7,Local:=100:Read}:Fact},{z_Fact with No:=2,Kind:=2,Read:={Mat:=1,Epoch:=0,Chip:=7,Local:=115:Read}:Fact},{z_Fact with No:=3,Kind:=2,Read:={Mat:=1,Epoch:=0,Chip:=7,Local:=130:Read}:Fact},{z_Fact with No:=5,Kind:=6,Silence:={Mat:=1,Epoch:=0,Lo:=5,Hi:=7:Silence}:Fact},{z_Fact with No:=6,Kind:=2,Read:={Mat:=1,Epoch:=0,Chip:=7,Local:=6:Read}:Fact}] 8).bind fun f=>(bif ((f.length:Int)==0)then(F_ai n z_Course [{z_Fact with No:=4,Kind:=2,Read:={Mat:=1,Epoch:=0,Chip:=7,Local:=151:Read}:Fact},{z_Fact with No:=1,Kind:=2,Read:={Mat:=1,Epoch:=0,Chip:=7,Local:=100:Read}:Fact},{z_Fact with No:=2,Kind:=2,Read:={Mat:=1,Epoch:=0,Chip:=7,Local:=115:Read}:Fact},{z_Fact with No:=3,Kind:=2,Read:={Mat:=1,Epoch:=0,Chip:=7,Local:=130:Read}:Fact},{z_Fact with No:=5,Kind:=6,Silence:={Mat:=1,Epoch:=0,Lo:=5,Hi:=7:Silence}:Fact},{z_Fact with No:=6,Kind:=2,Read:={Mat:=1,Epoch:=0,Chip:=7,Local:=6:Read}:Fact}]).bind fun g=>(bif ((g.length:Int)==0)then(F_v n [{z_Fact with No:=4,Kind:=2,Read:={Mat:=1,Epoch:=0,Chip:=7,Local:=151:Read}:Fact},{z_Fact with No:=1,Kind:=2,Read:={Mat:=1,Epoch:=0,Chip:=7,Local:=100:Read}:Fact},{z_Fact with No:=2,Kind:=2,Read:={Mat:=1,Epoch:=0,Chip:=7,Local:=115:Read}:Fact},{z_Fact with No:=3,Kind:=2,Read:={Mat:=1,Epoch:=0,Chip:=7,Local:=130:Read}:Fact},{z_Fact with No:=5,Kind:=6,Silence:={Mat:=1,Epoch:=0,Lo:=5,Hi:=7:Silence}:Fact},{z_Fact with No:=6,Kind:=2,Read:={Mat:=1,Epoch:=0,Chip:=7,Local:=6:Read}:Fact}] ({Mat:=1,Epoch:=0,Chip:=0,Local:=7:Read})).bind fun h=>(bif h then(F_v n [{z_Fact with No:=4,Kind:=2,Read:={Mat:=1,Epoch:=0,Chip:=7,Local:=151:Read}:Fact},{z_Fact with No:=1,Kind:=2,Read:={Mat:=1,Epoch:=0,Chip:=7,Local:=100:Read}:Fact},{z_Fact with No:=2,Kind:=2,Read:={Mat:=1,Epoch:=0,Chip:=7,Local:=115:Read}:Fact},{z_Fact with No:=3,Kind:=2,Read:={Mat:=1,Epoch:=0,Chip:=7,Local:=130:Read}:Fact},{z_Fact with No:=5,Kind:=6,Silence:={Mat:=1,Epoch:=0,Lo:=5,Hi:=7:Silence}:Fact},{z_Fact with No:=6,Kind:=2,Read:={Mat:=1,Epoch:=0,Chip:=7,Local:=6:Read}:Fact}] ({Mat:=1,Epoch:=0,Chip:=0,Local:=8:Read})).bind fun i=>(bif (!i)then(F_am n ({Mat:=1,Epoch:=0,Chip:=7,First:=100,Last:=130:Hit}) ({Mat:=1,Epoch:=0,Chip:=7,Local:=130:Read})).bind fun j=>(bif j then(F_s n 20).bind fun q=>(F_ay n ({z_Course with Name:=[99],Mats:=[{Name:=[97],Kind:=1:Mat},{Name:=[98],Kind:=3:Mat}],Ties:=[{z_Step with Kind:=1,By:=4:Step}],Faults:={z_Faults with Window:=20:Faults}:Course}) a).bind fun k=>(bif (k==0)then(F_s n 20).bind fun r=>(F_ay n ({z_Course with Name:=[99],Mats:=[{Name:=[97],Kind:=1:Mat},{Name:=[98],Kind:=3:Mat}],Ties:=[{z_Step with Kind:=1,By:=4:Step}],Faults:={z_Faults with Window:=20:Faults}:Course}) [{Mat:=1,Epoch:=0,Chip:=7,First:=100,Last:=130:Hit},{Mat:=1,Epoch:=0,Chip:=7,First:=100,Last:=130:Hit}]).bind fun l=>some (l==170)else some false)else some false)else some false)else some false)else some false)else some false)else some false)else some false)else some false)else some false)else some false):Option Bool).bind fun m=>some m
theorem k_bi(n:Nat)(r:Bool)(h:F_bi n=some r):
    Csm prog 8 [] [] (fun r=>.bool r) r:=by
 refine Qa func8 Z Z Z ?_
 refine G0 7 Z (Cd [] h (k_r _ _ _) Z fun r1 ae h=>?_)
 refine aV (.agg (Fact.c ({z_Fact with No:=4,Kind:=2,Read:={Mat:=1,Epoch:=0,Chip:=7,Local:=151:Read}:Fact}))) [.cells 52 (Fact.c ({z_Fact with No:=4,Kind:=2,Read:={Mat:=1,Epoch:=0,Chip:=7,Local:=151:Read}:Fact}))] Z Z ?_
 refine Cd [] h (k_r _ _ _) Z fun r2 af h=>?_
 refine aV (.agg (Fact.c ({z_Fact with No:=1,Kind:=2,Read:={Mat:=1,Epoch:=0,Chip:=7,Local:=100:Read}:Fact}))) [_,.cells 52 (Fact.c ({z_Fact with No:=1,Kind:=2,Read:={Mat:=1,Epoch:=0,Chip:=7,Local:=100:Read}:Fact}))] Z Z ?_
 refine Cd [] h (k_r _ _ _) Z fun r3 ag h=>?_
 refine aV (.agg (Fact.c ({z_Fact with No:=2,Kind:=2,Read:={Mat:=1,Epoch:=0,Chip:=7,Local:=115:Read}:Fact}))) [_,_,.cells 52 (Fact.c ({z_Fact with No:=2,Kind:=2,Read:={Mat:=1,Epoch:=0,Chip:=7,Local:=115:Read}:Fact}))] Z Z ?_
 refine Cd [] h (k_r _ _ _) Z fun r4 ah h=>?_
 refine aV (.agg (Fact.c ({z_Fact with No:=3,Kind:=2,Read:={Mat:=1,Epoch:=0,Chip:=7,Local:=130:Read}:Fact}))) [_,_,_,.cells 52 (Fact.c ({z_Fact with No:=3,Kind:=2,Read:={Mat:=1,Epoch:=0,Chip:=7,Local:=130:Read}:Fact}))] Z Z ?_
 refine Go 2 Z (Cd [] h (k_r _ _ _) Z fun r5 ai h=>?_)
 refine aV (.agg (Fact.c ({z_Fact with No:=6,Kind:=2,Read:={Mat:=1,Epoch:=0,Chip:=7,Local:=6:Read}:Fact}))) [_,_,_,_,.cells 52 (Fact.c ({z_Fact with No:=6,Kind:=2,Read:={Mat:=1,Epoch:=0,Chip:=7,Local:=6:Read}:Fact}))] Z Z ?_
 refine vH (OpH.lit (xs:=[.tmp 5,.tmp 6,.tmp 7,.tmp 8,.tmp 10,.tmp 11]) (es:=List.map Fact.c [{z_Fact with No:=4,Kind:=2,Read:={Mat:=1,Epoch:=0,Chip:=7,Local:=151:Read}:Fact},{z_Fact with No:=1,Kind:=2,Read:={Mat:=1,Epoch:=0,Chip:=7,Local:=100:Read}:Fact},{z_Fact with No:=2,Kind:=2,Read:={Mat:=1,Epoch:=0,Chip:=7,Local:=115:Read}:Fact},{z_Fact with No:=3,Kind:=2,Read:={Mat:=1,Epoch:=0,Chip:=7,Local:=130:Read}:Fact},{z_Fact with No:=5,Kind:=6,Silence:={Mat:=1,Epoch:=0,Lo:=5,Hi:=7:Silence}:Fact},{z_Fact with No:=6,Kind:=2,Read:={Mat:=1,Epoch:=0,Chip:=7,Local:=6:Read}:Fact}]) Qbh Z Z Z Z Z ⟨Z,Z,Z,Z,Z,Z,trivial⟩ Z Z) ?_
 refine aV (.osl 5 0 ([{z_Fact with No:=4,Kind:=2,Read:={Mat:=1,Epoch:=0,Chip:=7,Local:=151:Read}:Fact},{z_Fact with No:=1,Kind:=2,Read:={Mat:=1,Epoch:=0,Chip:=7,Local:=100:Read}:Fact},{z_Fact with No:=2,Kind:=2,Read:={Mat:=1,Epoch:=0,Chip:=7,Local:=115:Read}:Fact},{z_Fact with No:=3,Kind:=2,Read:={Mat:=1,Epoch:=0,Chip:=7,Local:=130:Read}:Fact},{z_Fact with No:=5,Kind:=6,Silence:={Mat:=1,Epoch:=0,Lo:=5,Hi:=7:Silence}:Fact},{z_Fact with No:=6,Kind:=2,Read:={Mat:=1,Epoch:=0,Chip:=7,Local:=6:Read}:Fact}].length) 57) [_,_,_,_,_,.row 52 57 (List.map Fact.c [{z_Fact with No:=4,Kind:=2,Read:={Mat:=1,Epoch:=0,Chip:=7,Local:=151:Read}:Fact},{z_Fact with No:=1,Kind:=2,Read:={Mat:=1,Epoch:=0,Chip:=7,Local:=100:Read}:Fact},{z_Fact with No:=2,Kind:=2,Read:={Mat:=1,Epoch:=0,Chip:=7,Local:=115:Read}:Fact},{z_Fact with No:=3,Kind:=2,Read:={Mat:=1,Epoch:=0,Chip:=7,Local:=130:Read}:Fact},{z_Fact with No:=5,Kind:=6,Silence:={Mat:=1,Epoch:=0,Lo:=5,Hi:=7:Silence}:Fact},{z_Fact with No:=6,Kind:=2,Read:={Mat:=1,Epoch:=0,Chip:=7,Local:=6:Read}:Fact}])] Z Z ?_
 refine Go 5 Z (Cd [] h (k_s _ _) Z fun r6 aj h=>?_)
 refine aV (.agg [.str [99],.osl 6 0 ([{Name:=[97],Kind:=1:Mat},{Name:=[98],Kind:=3:Mat}].length) 2,.rsl 4 (List.map Leg.c []),.rsl 5 (List.map Distance.c []),.rsl 2 (List.map Wave.c []),.rsl 4 (List.map Offence.c []),.rsl 3 (List.map Category.c []),.rsl 4 (List.map Prize.c []),.osl 7 0 ([{z_Step with Kind:=1,By:=4:Step}].length) 8,I 0,I 0,I 20,I 0,I 0,I 0,I 0]) [_,_,_,_,_,_,.row 115 2 (List.map Mat.c [{Name:=[97],Kind:=1:Mat},{Name:=[98],Kind:=3:Mat}]),.row 120 8 (List.map Step.enc [{z_Step with Kind:=1,By:=4:Step}]),.cells 67 [.str [99],.osl 6 0 ([{Name:=[97],Kind:=1:Mat},{Name:=[98],Kind:=3:Mat}].length) 2,.rsl 4 (List.map Leg.c []),.rsl 5 (List.map Distance.c []),.rsl 2 (List.map Wave.c []),.rsl 4 (List.map Offence.c []),.rsl 3 (List.map Category.c []),.rsl 4 (List.map Prize.c []),.osl 7 0 ([{z_Step with Kind:=1,By:=4:Step}].length) 8,I 0,I 0,I 20,I 0,I 0,I 0,I 0]] Z Z ?_
 refine Go 1 Z ?_
 refine WO.le (QaW [(13,_)] Z Z (Qju.cons Z (FzA.agg (FzL.cons (FzA.refl _) (FzL.cons FzA.o (FzL.refl _)))) Qju.nil) (FzH.keep (FzH.keep (FzH.keep (FzH.keep (FzH.keep (FzH.keep (FzH.keep (FzH.keep (FzH.cells (FzL.cons (FzA.refl _) (FzL.cons FzA.o (FzL.refl _))) (YS _))))))))))) ?_
 refine WO.le (QaW [(13,_)] Z Z (Qju.cons Z (FzA.agg (FzL.cons (FzA.refl _) (FzL.cons (FzA.refl _) (FzL.cons (FzA.refl _) (FzL.cons (FzA.refl _) (FzL.cons (FzA.refl _) (FzL.cons (FzA.refl _) (FzL.cons (FzA.refl _) (FzL.cons (FzA.refl _) (FzL.cons FzA.o (FzL.refl _))))))))))) Qju.nil) (FzH.keep (FzH.keep (FzH.keep (FzH.keep (FzH.keep (FzH.keep (FzH.keep (FzH.keep (FzH.cells (FzL.cons (FzA.refl _) (FzL.cons (FzA.refl _) (FzL.cons (FzA.refl _) (FzL.cons (FzA.refl _) (FzL.cons (FzA.refl _) (FzL.cons (FzA.refl _) (FzL.cons (FzA.refl _) (FzL.cons (FzA.refl _) (FzL.cons FzA.o (FzL.refl _)))))))))) (YS _))))))))))) ?_
 refine WO.le (QaW [(1,_),(12,_),(14,_)] Z Z (Qju.cons Z FzA.o (Qju.cons Z FzA.o (Qju.cons Z FzA.o Qju.nil))) (FzH.keep (FzH.keep (FzH.keep (FzH.keep (FzH.keep (FzH.keep (YS _)))))))) ?_
 refine Cd [] h (k_ai _ _ _) Z fun d ak h=>?_
 refine aV (.osl 9 0 d.length 5) [_,_,_,_,_,.dead,.dead,.dead,.cells 67 (Course.c ({z_Course with Name:=[99],Mats:=[{Name:=[97],Kind:=1:Mat},{Name:=[98],Kind:=3:Mat}],Ties:=[{z_Step with Kind:=1,By:=4:Step}],Faults:={z_Faults with Window:=20:Faults}:Course})),.row 26 5 (List.map Hit.c d),.cells 68 [.osl 9 0 d.length 5]] Z Z ?_
 refine Go 5 Z (Cd [] h (k_s _ _) Z fun r8 al h=>?_)
 refine aV (.agg [.str [99],.osl 11 0 ([{Name:=[97],Kind:=1:Mat},{Name:=[98],Kind:=3:Mat}].length) 2,.rsl 4 (List.map Leg.c []),.rsl 5 (List.map Distance.c []),.rsl 2 (List.map Wave.c []),.rsl 4 (List.map Offence.c []),.rsl 3 (List.map Category.c []),.rsl 4 (List.map Prize.c []),.osl 12 0 ([{z_Step with Kind:=1,By:=4:Step}].length) 8,I 0,I 0,I 21,I 0,I 0,I 0,I 0]) [_,_,_,_,_,_,_,_,_,_,_,.row 115 2 (List.map Mat.c [{Name:=[97],Kind:=1:Mat},{Name:=[98],Kind:=3:Mat}]),.row 120 8 (List.map Step.enc [{z_Step with Kind:=1,By:=4:Step}]),.cells 67 [.str [99],.osl 11 0 ([{Name:=[97],Kind:=1:Mat},{Name:=[98],Kind:=3:Mat}].length) 2,.rsl 4 (List.map Leg.c []),.rsl 5 (List.map Distance.c []),.rsl 2 (List.map Wave.c []),.rsl 4 (List.map Offence.c []),.rsl 3 (List.map Category.c []),.rsl 4 (List.map Prize.c []),.osl 12 0 ([{z_Step with Kind:=1,By:=4:Step}].length) 8,I 0,I 0,I 21,I 0,I 0,I 0,I 0]] Z Z ?_
 refine Go 1 Z ?_
 refine WO.le (QaW [(16,_)] Z Z (Qju.cons Z (FzA.agg (FzL.cons (FzA.refl _) (FzL.cons FzA.o (FzL.refl _)))) Qju.nil) (FzH.keep (FzH.keep (FzH.keep (FzH.keep (FzH.keep (FzH.keep (FzH.keep (FzH.keep (FzH.keep (FzH.keep (FzH.keep (FzH.keep (FzH.keep (FzH.cells (FzL.cons (FzA.refl _) (FzL.cons FzA.o (FzL.refl _))) (YS _)))))))))))))))) ?_
 refine WO.le (QaW [(16,_)] Z Z (Qju.cons Z (FzA.agg (FzL.cons (FzA.refl _) (FzL.cons (FzA.refl _) (FzL.cons (FzA.refl _) (FzL.cons (FzA.refl _) (FzL.cons (FzA.refl _) (FzL.cons (FzA.refl _) (FzL.cons (FzA.refl _) (FzL.cons (FzA.refl _) (FzL.cons FzA.o (FzL.refl _))))))))))) Qju.nil) (FzH.keep (FzH.keep (FzH.keep (FzH.keep (FzH.keep (FzH.keep (FzH.keep (FzH.keep (FzH.keep (FzH.keep (FzH.keep (FzH.keep (FzH.keep (FzH.cells (FzL.cons (FzA.refl _) (FzL.cons (FzA.refl _) (FzL.cons (FzA.refl _) (FzL.cons (FzA.refl _) (FzL.cons (FzA.refl _) (FzL.cons (FzA.refl _) (FzL.cons (FzA.refl _) (FzL.cons (FzA.refl _) (FzL.cons FzA.o (FzL.refl _)))))))))) (YS _)))))))))))))))) ?_
 refine Cd [] h (k_ba _ _ _ _) Z fun g am h=>?_
 refine aV (.osl 14 0 g.length 5) [_,_,_,_,_,_,_,_,_,_,_,.dead,.dead,.cells 67 (Course.c ({z_Course with Name:=[99],Mats:=[{Name:=[97],Kind:=1:Mat},{Name:=[98],Kind:=3:Mat}],Ties:=[{z_Step with Kind:=1,By:=4:Step}],Faults:={z_Faults with Window:=21:Faults}:Course})),.row 26 5 (List.map Hit.c g)] Z Z ?_
 refine Go 11 Z (Bd h fun i a h=>?_)
 refine Ct i [] [] (fun i=>[(0,.bool i)]) (fun _=>[]) (fun _=>rfl) ?_ (fun env H Y=>?_)
 ·refine G0 0 Z (DKs 70 [30,32,39,60,66] [(0,0,0),(0,0,0),(0,0,0),(0,0,0),(0,0,0),(0,0,0),(0,0,0),(0,0,0),(0,0,0),(0,0,0),(0,0,0),(0,0,0),(0,0,0),(0,0,0),(0,0,0),(0,0,0),(0,0,0),(0,0,0),(0,0,0),(0,0,0),(0,0,0),(0,0,0),(0,0,0),(0,0,0),(0,0,0),(0,0,0),(0,0,0),(0,0,0),(0,0,0),(0,0,0),(1,0,0),(0,0,1),(1,1,0),(0,2,2),(0,2,2),(0,2,2),(0,2,2),(0,2,2),(0,2,2),(1,2,0),(0,3,3),(0,3,3),(0,3,3),(0,3,3),(0,3,3),(0,3,3),(0,3,3),(0,3,3),(0,3,3),(0,3,3),(0,3,3),(0,3,3),(0,3,3),(0,3,3),(0,3,3),(0,3,3),(0,3,3),(0,3,3),(0,3,3),(0,3,3),(1,3,0),(0,3,4),(0,4,4),(0,4,4),(0,4,4),(0,4,4),(1,4,0),(0,4,5),(0,4,5),(0,4,5)] (by kernel_rfl) (Dk 4 Z (Qbn 3 a Z Z Z (fun u a=>?_) (fun u a=>?_))))
  ·refine Dk 1 Z ?_
   obtain⟨f,j,a⟩:=bnd a
   refine DK.wo (x:=.ptr 9 (Int.toNat 0*5)) ?_ ?_
   ·refine vX (.ptr 9 (Int.toNat 0*5)) (QI j Z runUnderlying68 sizeOf26) ?_ (gT Z)
    exact Wp
   refine DK.wo (x:=.agg (Hit.c f)) ?_ ?_
   ·refine vX (.agg (Hit.c f)) (Qk Z isAgg26 sizeOf26 Z (Qs j) Z Z) ?_ (gT Z)
    exact Wp
   refine Dk 1 Z ?_
   refine DK.wo (x:=.bool (f==({Mat:=1,Epoch:=0,Chip:=7,First:=100,Last:=130:Hit}))) ?_ ?_
   ·refine vX (.bool (f==({Mat:=1,Epoch:=0,Chip:=7,First:=100,Last:=130:Hit}))) (QcC (p:=f) (q:={Mat:=1,Epoch:=0,Chip:=7,First:=100,Last:=130:Hit}) QkS Z Z) ?_ (gT Z)
    exact Wp
   refine Dk 2 Z (Qbn 10 a Z Z Z (fun w a=>?_) (fun w a=>?_))
   ·refine Dk 1 Z ?_
    obtain⟨m,k,a⟩:=bnd a
    refine DK.wo (x:=.ptr 9 (Int.toNat 1*5)) ?_ ?_
    ·refine vX (.ptr 9 (Int.toNat 1*5)) (QI k Z runUnderlying68 sizeOf26) ?_ (gT Z)
     exact Wp
    refine DK.wo (x:=.ptr 9 (Int.toNat 1*5+3)) ?_ ?_
    ·exact Fpg (gT Z) QjT Z Wp
    refine DK.wo (x:=I m.First) ?_ ?_
    ·refine vX (I m.First) (OpV.load Z isAgg3 Z (Qep k)) ?_ (gT Z)
     exact Wp
    refine Dk 3 Z (Qbn 17 a Z Z Z (fun y a=>?_) (fun y a=>?_))
    ·refine Dk 5 Z (Qbn 22 a Z Z Z (fun z a=>?_) (fun z a=>?_))
     ·refine Dk 1 Z ?_
      obtain⟨s,l,a⟩:=bnd a
      refine DK.wo (x:=.ptr 14 (Int.toNat 0*5)) ?_ ?_
      ·refine vX (.ptr 14 (Int.toNat 0*5)) (QI l Z runUnderlying68 sizeOf26) ?_ (gT Z)
       exact Wp
      refine DK.wo (x:=.ptr 14 (Int.toNat 0*5+4)) ?_ ?_
      ·exact Fpg (gT Z) QjS Z Wp
      refine DK.wo (x:=I s.Last) ?_ ?_
      ·refine vX (I s.Last) (OpV.load Z isAgg3 Z (Qep l)) ?_ (gT Z)
       exact Wp
      refine Dk 3 Z (Qbn 29 a Z Z Z (fun B a=>?_) (fun B a=>?_))
      ·obtain⟨an,E,a⟩:=bnd a
       refine DK.op (x:=.agg (Course.c ({z_Course with Name:=[99],Mats:=[{Name:=[97],Kind:=1:Mat},{Name:=[98],Kind:=3:Mat}],Ties:=[{z_Step with Kind:=1,By:=4:Step}],Faults:={z_Faults with Window:=20:Faults}:Course}))) (X1:=[.cells 52 (Fact.c ({z_Fact with No:=4,Kind:=2,Read:={Mat:=1,Epoch:=0,Chip:=7,Local:=151:Read}:Fact})),.cells 52 (Fact.c ({z_Fact with No:=1,Kind:=2,Read:={Mat:=1,Epoch:=0,Chip:=7,Local:=100:Read}:Fact})),.cells 52 (Fact.c ({z_Fact with No:=2,Kind:=2,Read:={Mat:=1,Epoch:=0,Chip:=7,Local:=115:Read}:Fact})),.cells 52 (Fact.c ({z_Fact with No:=3,Kind:=2,Read:={Mat:=1,Epoch:=0,Chip:=7,Local:=130:Read}:Fact})),.cells 52 (Fact.c ({z_Fact with No:=6,Kind:=2,Read:={Mat:=1,Epoch:=0,Chip:=7,Local:=6:Read}:Fact})),.dead,.dead,.dead,.cells 67 (Course.c ({z_Course with Name:=[99],Mats:=[{Name:=[97],Kind:=1:Mat},{Name:=[98],Kind:=3:Mat}],Ties:=[{z_Step with Kind:=1,By:=4:Step}],Faults:={z_Faults with Window:=20:Faults}:Course})),.row 26 5 (List.map Hit.c d),.cells 68 [.osl 9 0 d.length 5],.dead,.dead,.cells 67 (Course.c ({z_Course with Name:=[99],Mats:=[{Name:=[97],Kind:=1:Mat},{Name:=[98],Kind:=3:Mat}],Ties:=[{z_Step with Kind:=1,By:=4:Step}],Faults:={z_Faults with Window:=21:Faults}:Course})),.row 26 5 (List.map Hit.c g),.cells 26 [I 1,I 0,I 7,I 100,I 130],.dead,.dead,.cells 67 (Course.c ({z_Course with Name:=[99],Mats:=[{Name:=[97],Kind:=1:Mat},{Name:=[98],Kind:=3:Mat}],Ties:=[{z_Step with Kind:=1,By:=4:Step}],Faults:={z_Faults with Window:=20:Faults}:Course}))]) ?_ ?_
       ·refine QA [] (OpC.fn call22 Z Z Z) (k_s _ _ _ E) ?_ (hg:=(gT Z))
        rintro _ _ ⟨rfl,rfl⟩
        refine aV (.agg [.str [99],.osl 16 0 ([{Name:=[97],Kind:=1:Mat},{Name:=[98],Kind:=3:Mat}].length) 2,.rsl 4 (List.map Leg.c []),.rsl 5 (List.map Distance.c []),.rsl 2 (List.map Wave.c []),.rsl 4 (List.map Offence.c []),.rsl 3 (List.map Category.c []),.rsl 4 (List.map Prize.c []),.osl 17 0 ([{z_Step with Kind:=1,By:=4:Step}].length) 8,I 0,I 0,I 20,I 0,I 0,I 0,I 0]) [_,_,_,_,_,_,_,_,_,_,_,_,_,_,_,_,.row 115 2 (List.map Mat.c [{Name:=[97],Kind:=1:Mat},{Name:=[98],Kind:=3:Mat}]),.row 120 8 (List.map Step.enc [{z_Step with Kind:=1,By:=4:Step}]),.cells 67 [.str [99],.osl 16 0 ([{Name:=[97],Kind:=1:Mat},{Name:=[98],Kind:=3:Mat}].length) 2,.rsl 4 (List.map Leg.c []),.rsl 5 (List.map Distance.c []),.rsl 2 (List.map Wave.c []),.rsl 4 (List.map Offence.c []),.rsl 3 (List.map Category.c []),.rsl 4 (List.map Prize.c []),.osl 17 0 ([{z_Step with Kind:=1,By:=4:Step}].length) 8,I 0,I 0,I 20,I 0,I 0,I 0,I 0]] Z Z ?_
        refine WO.le (QaW [(50,_)] Z Z (Qju.cons Z (FzA.agg (FzL.cons (FzA.refl _) (FzL.cons FzA.o (FzL.refl _)))) Qju.nil) (FzH.keep (FzH.keep (FzH.keep (FzH.keep (FzH.keep (FzH.keep (FzH.keep (FzH.keep (FzH.keep (FzH.keep (FzH.keep (FzH.keep (FzH.keep (FzH.keep (FzH.keep (FzH.keep (FzH.keep (FzH.keep (FzH.cells (FzL.cons (FzA.refl _) (FzL.cons FzA.o (FzL.refl _))) (YS _))))))))))))))))))))) ?_
        refine WO.le QcD ?_
        refine WO.le (QaW [(50,_)] Z Z (Qju.cons Z (FzA.agg (FzL.cons (FzA.refl _) (FzL.cons (FzA.refl _) (FzL.cons (FzA.refl _) (FzL.cons (FzA.refl _) (FzL.cons (FzA.refl _) (FzL.cons (FzA.refl _) (FzL.cons (FzA.refl _) (FzL.cons (FzA.refl _) (FzL.cons FzA.o (FzL.refl _))))))))))) Qju.nil) (FzH.keep (FzH.keep (FzH.keep (FzH.keep (FzH.keep (FzH.keep (FzH.keep (FzH.keep (FzH.keep (FzH.keep (FzH.keep (FzH.keep (FzH.keep (FzH.keep (FzH.keep (FzH.keep (FzH.keep (FzH.keep (FzH.cells (FzL.cons (FzA.refl _) (FzL.cons (FzA.refl _) (FzL.cons (FzA.refl _) (FzL.cons (FzA.refl _) (FzL.cons (FzA.refl _) (FzL.cons (FzA.refl _) (FzL.cons (FzA.refl _) (FzL.cons (FzA.refl _) (FzL.cons FzA.o (FzL.refl _)))))))))) (YS _))))))))))))))))))))) ?_
        refine WO.le QcD ?_
        exact Wp
       refine Dk 1 Z ?_
       obtain⟨e,F,a⟩:=bnd a
       refine DK.op (x:=.osl 19 0 e.length 5) (X1:=[.cells 52 (Fact.c ({z_Fact with No:=4,Kind:=2,Read:={Mat:=1,Epoch:=0,Chip:=7,Local:=151:Read}:Fact})),.cells 52 (Fact.c ({z_Fact with No:=1,Kind:=2,Read:={Mat:=1,Epoch:=0,Chip:=7,Local:=100:Read}:Fact})),.cells 52 (Fact.c ({z_Fact with No:=2,Kind:=2,Read:={Mat:=1,Epoch:=0,Chip:=7,Local:=115:Read}:Fact})),.cells 52 (Fact.c ({z_Fact with No:=3,Kind:=2,Read:={Mat:=1,Epoch:=0,Chip:=7,Local:=130:Read}:Fact})),.cells 52 (Fact.c ({z_Fact with No:=6,Kind:=2,Read:={Mat:=1,Epoch:=0,Chip:=7,Local:=6:Read}:Fact})),.dead,.dead,.dead,.cells 67 (Course.c ({z_Course with Name:=[99],Mats:=[{Name:=[97],Kind:=1:Mat},{Name:=[98],Kind:=3:Mat}],Ties:=[{z_Step with Kind:=1,By:=4:Step}],Faults:={z_Faults with Window:=20:Faults}:Course})),.row 26 5 (List.map Hit.c d),.cells 68 [.osl 9 0 d.length 5],.dead,.dead,.cells 67 (Course.c ({z_Course with Name:=[99],Mats:=[{Name:=[97],Kind:=1:Mat},{Name:=[98],Kind:=3:Mat}],Ties:=[{z_Step with Kind:=1,By:=4:Step}],Faults:={z_Faults with Window:=21:Faults}:Course})),.row 26 5 (List.map Hit.c g),.cells 26 [I 1,I 0,I 7,I 100,I 130],.dead,.dead,.cells 67 (Course.c ({z_Course with Name:=[99],Mats:=[{Name:=[97],Kind:=1:Mat},{Name:=[98],Kind:=3:Mat}],Ties:=[{z_Step with Kind:=1,By:=4:Step}],Faults:={z_Faults with Window:=20:Faults}:Course})),.row 26 5 (List.map Hit.c e)]) ?_ ?_
       ·refine QA [] (OpC.fn call20 Z Z Z) (k_ba _ _ _ _ _ F) ?_ (hg:=(gT Z))
        rintro _ _ ⟨rfl,rfl⟩
        refine aV (.osl 19 0 e.length 5) [_,_,_,_,_,_,_,_,_,_,_,_,_,_,_,_,_,_,_,.row 26 5 (List.map Hit.c e)] Z Z ?_
        exact Wp
       refine Dk 4 Z (Qbn 36 a Z Z Z (fun G a=>?_) (fun G a=>?_))
       ·refine Dk 2 Z ?_
        obtain⟨b,J,a⟩:=bnd a
        refine DK.op (x:=.osl 20 0 b.length 5) (X1:=[.cells 52 (Fact.c ({z_Fact with No:=4,Kind:=2,Read:={Mat:=1,Epoch:=0,Chip:=7,Local:=151:Read}:Fact})),.cells 52 (Fact.c ({z_Fact with No:=1,Kind:=2,Read:={Mat:=1,Epoch:=0,Chip:=7,Local:=100:Read}:Fact})),.cells 52 (Fact.c ({z_Fact with No:=2,Kind:=2,Read:={Mat:=1,Epoch:=0,Chip:=7,Local:=115:Read}:Fact})),.cells 52 (Fact.c ({z_Fact with No:=3,Kind:=2,Read:={Mat:=1,Epoch:=0,Chip:=7,Local:=130:Read}:Fact})),.cells 52 (Fact.c ({z_Fact with No:=6,Kind:=2,Read:={Mat:=1,Epoch:=0,Chip:=7,Local:=6:Read}:Fact})),.dead,.dead,.dead,.cells 67 (Course.c ({z_Course with Name:=[99],Mats:=[{Name:=[97],Kind:=1:Mat},{Name:=[98],Kind:=3:Mat}],Ties:=[{z_Step with Kind:=1,By:=4:Step}],Faults:={z_Faults with Window:=20:Faults}:Course})),.row 26 5 (List.map Hit.c d),.cells 68 [.osl 9 0 d.length 5],.dead,.dead,.cells 67 (Course.c ({z_Course with Name:=[99],Mats:=[{Name:=[97],Kind:=1:Mat},{Name:=[98],Kind:=3:Mat}],Ties:=[{z_Step with Kind:=1,By:=4:Step}],Faults:={z_Faults with Window:=21:Faults}:Course})),.row 26 5 (List.map Hit.c g),.cells 26 [I 1,I 0,I 7,I 100,I 130],.dead,.dead,.cells 67 (Course.c ({z_Course with Name:=[99],Mats:=[{Name:=[97],Kind:=1:Mat},{Name:=[98],Kind:=3:Mat}],Ties:=[{z_Step with Kind:=1,By:=4:Step}],Faults:={z_Faults with Window:=20:Faults}:Course})),.row 26 5 (List.map Hit.c e),.row 26 5 (List.map Hit.c b),.cells 68 [.osl 20 0 b.length 5]]) ?_ ?_
        ·refine QA [] (OpC.fn call16 Z Z Z) (k_ai _ _ _ _ J) ?_ (hg:=(gT Z))
         rintro _ _ ⟨rfl,rfl⟩
         refine aV (.osl 20 0 b.length 5) [_,_,_,_,_,_,_,_,_,_,_,_,_,_,_,_,_,_,_,_,.row 26 5 (List.map Hit.c b),.cells 68 [.osl 20 0 b.length 5]] Z Z ?_
         exact Wp
        refine Dk 4 Z (Qbn 43 a Z Z Z (fun L a=>?_) (fun L a=>?_))
        ·refine Dk 2 Z ?_
         obtain⟨aa,M,a⟩:=bnd a
         refine DK.wo (x:=.bool aa) ?_ ?_
         ·exact Pc [] Z (OpC.fn call9 Z Z Z) (k_v _ _ _ _ M) (hg:=(gT Z)) Z Wp
         refine Dk 2 Z (Qbn 48 a Z Z Z (fun N a=>?_) (fun N a=>?_))
         ·refine Dk 2 Z ?_
          obtain⟨ab,O,a⟩:=bnd a
          refine DK.wo (x:=.bool ab) ?_ ?_
          ·exact Pc [] Z (OpC.fn call9 Z Z Z) (k_v _ _ _ _ O) (hg:=(gT Z)) Z Wp
          refine Dk 3 Z (Qbn 54 a Z Z Z (fun P a=>?_) (fun P a=>?_))
          ·refine Dk 2 Z ?_
           obtain⟨ac,Q,a⟩:=bnd a
           refine DK.wo (x:=.bool ac) ?_ ?_
           ·exact Pc [] Z (OpC.fn call11 Z Z Z) (k_am _ _ _ _ Q) (hg:=(gT Z)) Z Wp
           refine Dk 2 Z (Qbn 59 a Z Z Z (fun R a=>?_) (fun R a=>?_))
           ·obtain⟨ao,T,a⟩:=bnd a
            refine DK.op (x:=.agg (Course.c ({z_Course with Name:=[99],Mats:=[{Name:=[97],Kind:=1:Mat},{Name:=[98],Kind:=3:Mat}],Ties:=[{z_Step with Kind:=1,By:=4:Step}],Faults:={z_Faults with Window:=20:Faults}:Course}))) (X1:=[.cells 52 (Fact.c ({z_Fact with No:=4,Kind:=2,Read:={Mat:=1,Epoch:=0,Chip:=7,Local:=151:Read}:Fact})),.cells 52 (Fact.c ({z_Fact with No:=1,Kind:=2,Read:={Mat:=1,Epoch:=0,Chip:=7,Local:=100:Read}:Fact})),.cells 52 (Fact.c ({z_Fact with No:=2,Kind:=2,Read:={Mat:=1,Epoch:=0,Chip:=7,Local:=115:Read}:Fact})),.cells 52 (Fact.c ({z_Fact with No:=3,Kind:=2,Read:={Mat:=1,Epoch:=0,Chip:=7,Local:=130:Read}:Fact})),.cells 52 (Fact.c ({z_Fact with No:=6,Kind:=2,Read:={Mat:=1,Epoch:=0,Chip:=7,Local:=6:Read}:Fact})),.dead,.dead,.dead,.cells 67 (Course.c ({z_Course with Name:=[99],Mats:=[{Name:=[97],Kind:=1:Mat},{Name:=[98],Kind:=3:Mat}],Ties:=[{z_Step with Kind:=1,By:=4:Step}],Faults:={z_Faults with Window:=20:Faults}:Course})),.row 26 5 (List.map Hit.c d),.cells 68 [.osl 9 0 d.length 5],.dead,.dead,.cells 67 (Course.c ({z_Course with Name:=[99],Mats:=[{Name:=[97],Kind:=1:Mat},{Name:=[98],Kind:=3:Mat}],Ties:=[{z_Step with Kind:=1,By:=4:Step}],Faults:={z_Faults with Window:=21:Faults}:Course})),.row 26 5 (List.map Hit.c g),.cells 26 [I 1,I 0,I 7,I 100,I 130],.dead,.dead,.cells 67 (Course.c ({z_Course with Name:=[99],Mats:=[{Name:=[97],Kind:=1:Mat},{Name:=[98],Kind:=3:Mat}],Ties:=[{z_Step with Kind:=1,By:=4:Step}],Faults:={z_Faults with Window:=20:Faults}:Course})),.row 26 5 (List.map Hit.c e),.row 26 5 (List.map Hit.c b),.cells 68 [.osl 20 0 b.length 5],.dead,.dead,.cells 67 (Course.c ({z_Course with Name:=[99],Mats:=[{Name:=[97],Kind:=1:Mat},{Name:=[98],Kind:=3:Mat}],Ties:=[{z_Step with Kind:=1,By:=4:Step}],Faults:={z_Faults with Window:=20:Faults}:Course}))]) ?_ ?_
            ·refine QA [] (OpC.fn call22 Z Z Z) (k_s _ _ _ T) ?_ (hg:=(gT Z))
             rintro _ _ ⟨rfl,rfl⟩
             refine aV (.agg [.str [99],.osl 22 0 ([{Name:=[97],Kind:=1:Mat},{Name:=[98],Kind:=3:Mat}].length) 2,.rsl 4 (List.map Leg.c []),.rsl 5 (List.map Distance.c []),.rsl 2 (List.map Wave.c []),.rsl 4 (List.map Offence.c []),.rsl 3 (List.map Category.c []),.rsl 4 (List.map Prize.c []),.osl 23 0 ([{z_Step with Kind:=1,By:=4:Step}].length) 8,I 0,I 0,I 20,I 0,I 0,I 0,I 0]) [_,_,_,_,_,_,_,_,_,_,_,_,_,_,_,_,_,_,_,_,_,_,.row 115 2 (List.map Mat.c [{Name:=[97],Kind:=1:Mat},{Name:=[98],Kind:=3:Mat}]),.row 120 8 (List.map Step.enc [{z_Step with Kind:=1,By:=4:Step}]),.cells 67 [.str [99],.osl 22 0 ([{Name:=[97],Kind:=1:Mat},{Name:=[98],Kind:=3:Mat}].length) 2,.rsl 4 (List.map Leg.c []),.rsl 5 (List.map Distance.c []),.rsl 2 (List.map Wave.c []),.rsl 4 (List.map Offence.c []),.rsl 3 (List.map Category.c []),.rsl 4 (List.map Prize.c []),.osl 23 0 ([{z_Step with Kind:=1,By:=4:Step}].length) 8,I 0,I 0,I 20,I 0,I 0,I 0,I 0]] Z Z ?_
             refine WO.le (QaW [(80,_)] Z Z (Qju.cons Z (FzA.agg (FzL.cons (FzA.refl _) (FzL.cons FzA.o (FzL.refl _)))) Qju.nil) (FzH.keep (FzH.keep (FzH.keep (FzH.keep (FzH.keep (FzH.keep (FzH.keep (FzH.keep (FzH.keep (FzH.keep (FzH.keep (FzH.keep (FzH.keep (FzH.keep (FzH.keep (FzH.keep (FzH.keep (FzH.keep (FzH.keep (FzH.keep (FzH.keep (FzH.keep (FzH.keep (FzH.keep (FzH.cells (FzL.cons (FzA.refl _) (FzL.cons FzA.o (FzL.refl _))) (YS _))))))))))))))))))))))))))) ?_
             refine WO.le QcD ?_
             refine WO.le (QaW [(80,_)] Z Z (Qju.cons Z (FzA.agg (FzL.cons (FzA.refl _) (FzL.cons (FzA.refl _) (FzL.cons (FzA.refl _) (FzL.cons (FzA.refl _) (FzL.cons (FzA.refl _) (FzL.cons (FzA.refl _) (FzL.cons (FzA.refl _) (FzL.cons (FzA.refl _) (FzL.cons FzA.o (FzL.refl _))))))))))) Qju.nil) (FzH.keep (FzH.keep (FzH.keep (FzH.keep (FzH.keep (FzH.keep (FzH.keep (FzH.keep (FzH.keep (FzH.keep (FzH.keep (FzH.keep (FzH.keep (FzH.keep (FzH.keep (FzH.keep (FzH.keep (FzH.keep (FzH.keep (FzH.keep (FzH.keep (FzH.keep (FzH.keep (FzH.keep (FzH.cells (FzL.cons (FzA.refl _) (FzL.cons (FzA.refl _) (FzL.cons (FzA.refl _) (FzL.cons (FzA.refl _) (FzL.cons (FzA.refl _) (FzL.cons (FzA.refl _) (FzL.cons (FzA.refl _) (FzL.cons (FzA.refl _) (FzL.cons FzA.o (FzL.refl _)))))))))) (YS _))))))))))))))))))))))))))) ?_
             refine WO.le QcD ?_
             exact Wp
            refine Dk 1 Z ?_
            obtain⟨t,V,a⟩:=bnd a
            refine DK.wo (x:=I t) ?_ ?_
            ·refine QfV (OpC.fn call14 rfl rfl rfl) (QaV.cons rfl (.inl ⟨rfl,rfl⟩) (QaV.cons rfl (.inr ⟨_,_,_,_,_,rfl,rfl,List.length_map ..,rfl⟩) QaV.nil)) (k_ay _ _ _ _ V) (by rintro _ _ ⟨rfl,rfl⟩;rfl) ?_ (gT rfl)
             rintro _ _ ⟨rfl,rfl⟩
             refine aV (I t) [_,_,_,_,_,_,_,_,_,_,_,_,_,_,_,_,_,_,_,_,_,_,_,_,_] Z Z ?_
             exact Wp
            refine Dk 3 Z (Qbn 65 a Z Z Z (fun W a=>?_) (fun W a=>?_))
            ·obtain⟨aq,X,a⟩:=bnd a
             refine DK.op (x:=.agg (Course.c ({z_Course with Name:=[99],Mats:=[{Name:=[97],Kind:=1:Mat},{Name:=[98],Kind:=3:Mat}],Ties:=[{z_Step with Kind:=1,By:=4:Step}],Faults:={z_Faults with Window:=20:Faults}:Course}))) (X1:=[.cells 52 (Fact.c ({z_Fact with No:=4,Kind:=2,Read:={Mat:=1,Epoch:=0,Chip:=7,Local:=151:Read}:Fact})),.cells 52 (Fact.c ({z_Fact with No:=1,Kind:=2,Read:={Mat:=1,Epoch:=0,Chip:=7,Local:=100:Read}:Fact})),.cells 52 (Fact.c ({z_Fact with No:=2,Kind:=2,Read:={Mat:=1,Epoch:=0,Chip:=7,Local:=115:Read}:Fact})),.cells 52 (Fact.c ({z_Fact with No:=3,Kind:=2,Read:={Mat:=1,Epoch:=0,Chip:=7,Local:=130:Read}:Fact})),.cells 52 (Fact.c ({z_Fact with No:=6,Kind:=2,Read:={Mat:=1,Epoch:=0,Chip:=7,Local:=6:Read}:Fact})),.dead,.dead,.dead,.cells 67 (Course.c ({z_Course with Name:=[99],Mats:=[{Name:=[97],Kind:=1:Mat},{Name:=[98],Kind:=3:Mat}],Ties:=[{z_Step with Kind:=1,By:=4:Step}],Faults:={z_Faults with Window:=20:Faults}:Course})),.row 26 5 (List.map Hit.c d),.cells 68 [.osl 9 0 d.length 5],.dead,.dead,.cells 67 (Course.c ({z_Course with Name:=[99],Mats:=[{Name:=[97],Kind:=1:Mat},{Name:=[98],Kind:=3:Mat}],Ties:=[{z_Step with Kind:=1,By:=4:Step}],Faults:={z_Faults with Window:=21:Faults}:Course})),.row 26 5 (List.map Hit.c g),.cells 26 [I 1,I 0,I 7,I 100,I 130],.dead,.dead,.cells 67 (Course.c ({z_Course with Name:=[99],Mats:=[{Name:=[97],Kind:=1:Mat},{Name:=[98],Kind:=3:Mat}],Ties:=[{z_Step with Kind:=1,By:=4:Step}],Faults:={z_Faults with Window:=20:Faults}:Course})),.row 26 5 (List.map Hit.c e),.row 26 5 (List.map Hit.c b),.cells 68 [.osl 20 0 b.length 5],.dead,.dead,.cells 67 (Course.c ({z_Course with Name:=[99],Mats:=[{Name:=[97],Kind:=1:Mat},{Name:=[98],Kind:=3:Mat}],Ties:=[{z_Step with Kind:=1,By:=4:Step}],Faults:={z_Faults with Window:=20:Faults}:Course})),.dead,.dead,.cells 67 (Course.c ({z_Course with Name:=[99],Mats:=[{Name:=[97],Kind:=1:Mat},{Name:=[98],Kind:=3:Mat}],Ties:=[{z_Step with Kind:=1,By:=4:Step}],Faults:={z_Faults with Window:=20:Faults}:Course}))]) ?_ ?_
             ·refine QA [] (OpC.fn call22 Z Z Z) (k_s _ _ _ X) ?_ (hg:=(gT Z))
              rintro _ _ ⟨rfl,rfl⟩
              refine aV (.agg [.str [99],.osl 25 0 ([{Name:=[97],Kind:=1:Mat},{Name:=[98],Kind:=3:Mat}].length) 2,.rsl 4 (List.map Leg.c []),.rsl 5 (List.map Distance.c []),.rsl 2 (List.map Wave.c []),.rsl 4 (List.map Offence.c []),.rsl 3 (List.map Category.c []),.rsl 4 (List.map Prize.c []),.osl 26 0 ([{z_Step with Kind:=1,By:=4:Step}].length) 8,I 0,I 0,I 20,I 0,I 0,I 0,I 0]) [_,_,_,_,_,_,_,_,_,_,_,_,_,_,_,_,_,_,_,_,_,_,_,_,_,.row 115 2 (List.map Mat.c [{Name:=[97],Kind:=1:Mat},{Name:=[98],Kind:=3:Mat}]),.row 120 8 (List.map Step.enc [{z_Step with Kind:=1,By:=4:Step}]),.cells 67 [.str [99],.osl 25 0 ([{Name:=[97],Kind:=1:Mat},{Name:=[98],Kind:=3:Mat}].length) 2,.rsl 4 (List.map Leg.c []),.rsl 5 (List.map Distance.c []),.rsl 2 (List.map Wave.c []),.rsl 4 (List.map Offence.c []),.rsl 3 (List.map Category.c []),.rsl 4 (List.map Prize.c []),.osl 26 0 ([{z_Step with Kind:=1,By:=4:Step}].length) 8,I 0,I 0,I 20,I 0,I 0,I 0,I 0]] Z Z ?_
              refine WO.le (QaW [(86,_)] Z Z (Qju.cons Z (FzA.agg (FzL.cons (FzA.refl _) (FzL.cons FzA.o (FzL.refl _)))) Qju.nil) (FzH.keep (FzH.keep (FzH.keep (FzH.keep (FzH.keep (FzH.keep (FzH.keep (FzH.keep (FzH.keep (FzH.keep (FzH.keep (FzH.keep (FzH.keep (FzH.keep (FzH.keep (FzH.keep (FzH.keep (FzH.keep (FzH.keep (FzH.keep (FzH.keep (FzH.keep (FzH.keep (FzH.keep (FzH.keep (FzH.keep (FzH.keep (FzH.cells (FzL.cons (FzA.refl _) (FzL.cons FzA.o (FzL.refl _))) (YS _)))))))))))))))))))))))))))))) ?_
              refine WO.le QcD ?_
              refine WO.le (QaW [(86,_)] Z Z (Qju.cons Z (FzA.agg (FzL.cons (FzA.refl _) (FzL.cons (FzA.refl _) (FzL.cons (FzA.refl _) (FzL.cons (FzA.refl _) (FzL.cons (FzA.refl _) (FzL.cons (FzA.refl _) (FzL.cons (FzA.refl _) (FzL.cons (FzA.refl _) (FzL.cons FzA.o (FzL.refl _))))))))))) Qju.nil) (FzH.keep (FzH.keep (FzH.keep (FzH.keep (FzH.keep (FzH.keep (FzH.keep (FzH.keep (FzH.keep (FzH.keep (FzH.keep (FzH.keep (FzH.keep (FzH.keep (FzH.keep (FzH.keep (FzH.keep (FzH.keep (FzH.keep (FzH.keep (FzH.keep (FzH.keep (FzH.keep (FzH.keep (FzH.keep (FzH.keep (FzH.keep (FzH.cells (FzL.cons (FzA.refl _) (FzL.cons (FzA.refl _) (FzL.cons (FzA.refl _) (FzL.cons (FzA.refl _) (FzL.cons (FzA.refl _) (FzL.cons (FzA.refl _) (FzL.cons (FzA.refl _) (FzL.cons (FzA.refl _) (FzL.cons FzA.o (FzL.refl _)))))))))) (YS _)))))))))))))))))))))))))))))) ?_
              refine WO.le QcD ?_
              exact Wp
             refine Dks (lo:=4) (hi:=5) (x:=.agg [I 1,I 0,I 7,I 100,I 130]) ⟨Z,Z,trivial⟩ ?_
             refine Dks (lo:=4) (hi:=5) (x:=.agg [I 1,I 0,I 7,I 100,I 130]) ⟨Z,Z,trivial⟩ ?_
             refine Qes (lo:=4) (hi:=5) (x:=.rsl 5 (List.map Hit.c [{Mat:=1,Epoch:=0,Chip:=7,First:=100,Last:=130:Hit},{Mat:=1,Epoch:=0,Chip:=7,First:=100,Last:=130:Hit}])) ⟨?_,?_,trivial⟩ ?_
             ·refine vH (QaF (xs:=[.tmp 87,.tmp 88]) (es:=List.map Hit.c [{Mat:=1,Epoch:=0,Chip:=7,First:=100,Last:=130:Hit},{Mat:=1,Epoch:=0,Chip:=7,First:=100,Last:=130:Hit}]) Qhm Z Z Z Z Z ⟨Z,Z,trivial⟩ Z Z) ?_ (gT Z)
              refine aV (.rsl 5 (List.map Hit.c [{Mat:=1,Epoch:=0,Chip:=7,First:=100,Last:=130:Hit},{Mat:=1,Epoch:=0,Chip:=7,First:=100,Last:=130:Hit}])) [_,_,_,_,_,_,_,_,_,_,_,_,_,_,_,_,_,_,_,_,_,_,_,_,_,_,_,_] Z Z ?_
              exact Wp
             ·refine vH (QaF (xs:=[.tmp 87,.tmp 88]) (es:=List.map Hit.c [{Mat:=1,Epoch:=0,Chip:=7,First:=100,Last:=130:Hit},{Mat:=1,Epoch:=0,Chip:=7,First:=100,Last:=130:Hit}]) Qhm Z Z Z Z Z ⟨Z,Z,trivial⟩ Z Z) ?_ (gT Z)
              refine aV (.rsl 5 (List.map Hit.c [{Mat:=1,Epoch:=0,Chip:=7,First:=100,Last:=130:Hit},{Mat:=1,Epoch:=0,Chip:=7,First:=100,Last:=130:Hit}])) [_,_,_,_,_,_,_,_,_,_,_,_,_,_,_,_,_,_,_,_,_,_,_,_,_] Z Z ?_
              exact Wp
             exact DK.done Z Z (Cz [] a (k_ay _ _ _) Z fun ar ad a=>Go 4 Z (Cl a []))
            ·exact Dk 4 Z (DK.done Z Z (Go 5 Z (Cl a [])))
           ·exact Dk 10 Z (DK.done Z Z (Go 5 Z (Cl a [])))
          ·exact Dk 15 Z (DK.done Z Z (Go 5 Z (Cl a [])))
         ·exact Dk 21 Z (DK.done Z Z (Go 5 Z (Cl a [])))
        ·exact Dk 26 Z (DK.done Z Z (Go 5 Z (Cl a [])))
       ·exact Dk 33 Z (DK.done Z Z (Go 5 Z (Cl a [])))
      ·exact Dk 40 Z (DK.done Z Z (Go 5 Z (Cl a [])))
     ·exact Dk 47 Z (DK.done Z Z (Go 5 Z (Cl a [])))
    ·exact Dk 52 Z (DK.done Z Z (Go 5 Z (Cl a [])))
   ·exact Dk 59 Z (DK.done Z Z (Go 5 Z (Cl a [])))
  ·exact Dk 66 Z (DK.done Z Z (Go 5 Z (Cl a [])))
 exact Gx 1 Z (TC.le Y (Gc 1 Z (Rt h 0 [])))
def F_b(n:Nat)(a:Int)(b:Int)(c:Int):Option Bool:=
  ((bif decide (b<=a)then some (decide (a<=c))else some false):Option Bool).bind fun b2=>some b2
theorem k_b(n:Nat)(b:Int)(c:Int)(d:Int)(r:Bool)(h:F_b n b c d=some r):
    Csm prog 60 [I b,I c,I d] [] (fun r=>.bool r) r:=by
 refine Qa func60 Z Z Z ?_
 refine G0 6 Z (Bd h fun b2 a h=>?_)
 refine Ct b2 [] [] (fun b2=>[(6,.bool b2)]) (fun _=>[]) (fun _=>rfl) ?_ (fun env H e=>?_)
 ·refine G0 5 Z (Is 10 a Z (fun f a=>?_) (fun f a=>?_))
  ·exact Go 6 Z (Cl a [])
  ·exact Go 6 Z (Cl a [])
 exact Gx 1 Z (TC.le e (Gc 1 Z (Rt h 6 [])))
def F_n(n:Nat)(a:Int):Option Bool:=
  (F_b n a 0 31).bind fun b=>some b
theorem k_n(n:Nat)(a:Int)(r:Bool)(h:F_n n a=some r):
    Csm prog 109 [I a] [] (fun r=>.bool r) r:=by
 refine Qa func109 Z Z Z ?_
 exact G0 8 Z (Cz [] h (k_b _ _ _ _) Z fun c b h=>Go 4 Z (Rt h 2 []))
def F_p(n:Nat)(a:Int):Option Bool:=
  (F_b n a 1 1048576).bind fun b=>some b
theorem k_p(n:Nat)(a:Int)(r:Bool)(h:F_p n a=some r):
    Csm prog 110 [I a] [] (fun r=>.bool r) r:=by
 refine Qa func110 Z Z Z ?_
 exact G0 8 Z (Cz [] h (k_b _ _ _ _) Z fun c b h=>Go 4 Z (Rt h 2 []))
def F_e(n:Nat)(a:Int):Option Bool:=
  (F_b n a 1 9999).bind fun b=>some b
theorem k_e(n:Nat)(a:Int)(r:Bool)(h:F_e n a=some r):
    Csm prog 160 [I a] [] (fun r=>.bool r) r:=by
 refine Qa func160 Z Z Z ?_
 exact G0 8 Z (Cz [] h (k_b _ _ _ _) Z fun c b h=>Go 4 Z (Rt h 2 []))
def F_c(n:Nat)(a:Int):Option Bool:=
  (F_b n a (-1099511627776) 1099511627776).bind fun b=>some b
theorem k_c(n:Nat)(a:Int)(r:Bool)(h:F_c n a=some r):
    Csm prog 35 [I a] [] (fun r=>.bool r) r:=by
 refine Qa func35 Z Z Z ?_
 exact G0 8 Z (Cz [] h (k_b _ _ _ _) Z fun c b h=>Go 4 Z (Rt h 2 []))
def F_ad(n:Nat)(a:Int):Option Bool:=
  (F_b n a 0 1048576).bind fun b=>some b
theorem k_ad(n:Nat)(a:Int)(r:Bool)(h:F_ad n a=some r):
    Csm prog 34 [I a] [] (fun r=>.bool r) r:=by
 refine Qa func34 Z Z Z ?_
 exact G0 8 Z (Cz [] h (k_b _ _ _ _) Z fun c b h=>Go 4 Z (Rt h 2 []))
def F_bs(n:Nat)(a:Starter):Option Bool:=
  ((F_e n a.Bib).bind fun b=>(bif b then(F_b n a.Distance 0 7).bind fun c=>(bif c then(F_b n a.Wave 0 31).bind fun d=>(bif d then(F_c n a.Slot).bind fun e=>(bif e then(F_b n a.Age 0 120).bind fun f=>(bif f then(F_ad n a.Chip).bind fun g=>(bif g then(F_b n a.Team 0 9999).bind fun h=>(bif h then(F_b n a.Lot 0 1048576).bind fun i=>some i else some false)else some false)else some false)else some false)else some false)else some false)else some false):Option Bool).bind fun j=>some j
theorem k_bs(n:Nat)(l:Starter)(r:Bool)(h:F_bs n l=some r):
    Csm prog 157 [.agg (Starter.c l)] [] (fun r=>.bool r) r:=by
 refine Qa func157 Z Z Z ?_
 refine G0 7 Z (Bd h fun b a h=>?_)
 refine Ct b [] [] (fun b=>[(2,.bool b)]) (fun _=>[]) (fun _=>rfl) ?_ (fun env H m=>?_)
 ·refine G0 3 Z (Cz [] a (k_e _ _) Z fun z p a=>Go 1 Z (Is 6 a Z (fun d a=>?_) (fun d a=>?_)))
  ·refine Go 2 Z (Cz [] a (k_b _ _ _ _) Z fun B q a=>Go 2 Z (Is 11 a Z (fun e a=>?_) (fun e a=>?_)))
   ·refine Go 2 Z (Cz [] a (k_b _ _ _ _) Z fun E s a=>Go 2 Z (Is 16 a Z (fun f a=>?_) (fun f a=>?_)))
    ·refine Go 2 Z (Cz [] a (k_c _ _) Z fun F t a=>Go 2 Z (Is 21 a Z (fun g a=>?_) (fun g a=>?_)))
     ·refine Go 2 Z (Cz [] a (k_b _ _ _ _) Z fun G u a=>Go 2 Z (Is 26 a Z (fun i a=>?_) (fun i a=>?_)))
      ·refine Go 2 Z (Cz [] a (k_ad _ _) Z fun J w a=>Go 2 Z (Is 31 a Z (fun j a=>?_) (fun j a=>?_)))
       ·refine Go 2 Z (Cz [] a (k_b _ _ _ _) Z fun L x a=>Go 2 Z (Is 36 a Z (fun k a=>?_) (fun k a=>?_)))
        ·exact Go 2 Z (Cz [] a (k_b _ _ _ _) Z fun M y a=>Go 3 Z (Cl a []))
        ·exact Go 6 Z (Cl a [])
       ·exact Go 11 Z (Cl a [])
      ·exact Go 16 Z (Cl a [])
     ·exact Go 21 Z (Cl a [])
    ·exact Go 26 Z (Cl a [])
   ·exact Go 31 Z (Cl a [])
  ·exact Go 36 Z (Cl a [])
 exact Gx 1 Z (TC.le m (Gc 1 Z (Rt h 2 [])))
def F_k(n:Nat)(a:Int):Option Bool:=
  (F_b n a 0 39).bind fun b=>some b
theorem k_k(n:Nat)(a:Int)(r:Bool)(h:F_k n a=some r):
    Csm prog 158 [I a] [] (fun r=>.bool r) r:=by
 refine Qa func158 Z Z Z ?_
 exact G0 8 Z (Cz [] h (k_b _ _ _ _) Z fun c b h=>Go 4 Z (Rt h 2 []))
def F_j(n:Nat)(a:Int):Option Bool:=
  (F_b n a 0 255).bind fun b=>some b
theorem k_j(n:Nat)(a:Int)(r:Bool)(h:F_j n a=some r):
    Csm prog 33 [I a] [] (fun r=>.bool r) r:=by
 refine Qa func33 Z Z Z ?_
 exact G0 8 Z (Cz [] h (k_b _ _ _ _) Z fun c b h=>Go 4 Z (Rt h 2 []))
def F_bz(n:Nat)(a:Sync):Option Bool:=
  ((F_k n a.MatA).bind fun b=>(bif b then(F_k n a.MatB).bind fun c=>(bif c then(F_j n a.EpochA).bind fun d=>(bif d then(F_j n a.EpochB).bind fun e=>(bif e then(F_c n a.LocalA).bind fun f=>(bif f then(F_c n a.LocalB).bind fun g=>(bif g then(F_c n a.Min).bind fun h=>(bif h then(F_c n a.Max).bind fun i=>(bif i then some (decide (a.Min<=a.Max))else some false)else some false)else some false)else some false)else some false)else some false)else some false)else some false):Option Bool).bind fun j=>some j
theorem k_bz(n:Nat)(m:Sync)(r:Bool)(h:F_bz n m=some r):
    Csm prog 159 [.agg (Sync.c m)] [] (fun r=>.bool r) r:=by
 refine Qa func159 Z Z Z ?_
 refine G0 7 Z (Bd h fun b a h=>?_)
 refine Ct b [] [] (fun b=>[(2,.bool b)]) (fun _=>[]) (fun _=>rfl) ?_ (fun env H p=>?_)
 ·refine G0 3 Z (Cz [] a (k_k _ _) Z fun B q a=>Go 1 Z (Is 6 a Z (fun d a=>?_) (fun d a=>?_)))
  ·refine Go 2 Z (Cz [] a (k_k _ _) Z fun E s a=>Go 2 Z (Is 11 a Z (fun e a=>?_) (fun e a=>?_)))
   ·refine Go 2 Z (Cz [] a (k_j _ _) Z fun F t a=>Go 2 Z (Is 16 a Z (fun f a=>?_) (fun f a=>?_)))
    ·refine Go 2 Z (Cz [] a (k_j _ _) Z fun G u a=>Go 2 Z (Is 21 a Z (fun g a=>?_) (fun g a=>?_)))
     ·refine Go 2 Z (Cz [] a (k_c _ _) Z fun J w a=>Go 2 Z (Is 26 a Z (fun i a=>?_) (fun i a=>?_)))
      ·refine Go 2 Z (Cz [] a (k_c _ _) Z fun L x a=>Go 2 Z (Is 31 a Z (fun j a=>?_) (fun j a=>?_)))
       ·refine Go 2 Z (Cz [] a (k_c _ _) Z fun M y a=>Go 2 Z (Is 36 a Z (fun k a=>?_) (fun k a=>?_)))
        ·refine Go 2 Z (Cz [] a (k_c _ _) Z fun N z a=>Go 2 Z (Is 41 a Z (fun l a=>?_) (fun l a=>?_)))
         ·exact Go 8 Z (Cl a [])
         ·exact Go 8 Z (Cl a [])
        ·exact Go 13 Z (Cl a [])
       ·exact Go 18 Z (Cl a [])
      ·exact Go 23 Z (Cl a [])
     ·exact Go 28 Z (Cl a [])
    ·exact Go 33 Z (Cl a [])
   ·exact Go 38 Z (Cl a [])
  ·exact Go 43 Z (Cl a [])
 exact Gx 1 Z (TC.le p (Gc 1 Z (Rt h 2 [])))
def F_l(n:Nat)(a:Int):Option Bool:=
  (F_b n a 0 255).bind fun b=>some b
theorem k_l(n:Nat)(a:Int)(r:Bool)(h:F_l n a=some r):
    Csm prog 161 [I a] [] (fun r=>.bool r) r:=by
 refine Qa func161 Z Z Z ?_
 exact G0 8 Z (Cz [] h (k_b _ _ _ _) Z fun c b h=>Go 4 Z (Rt h 2 []))
def F_q(n:Nat)(a:Int):Option Bool:=
  (F_b n a 1 1048576).bind fun b=>some b
theorem k_q(n:Nat)(a:Int)(r:Bool)(h:F_q n a=some r):
    Csm prog 162 [I a] [] (fun r=>.bool r) r:=by
 refine Qa func162 Z Z Z ?_
 exact G0 8 Z (Cz [] h (k_b _ _ _ _) Z fun c b h=>Go 4 Z (Rt h 2 []))
def F_cd(n:Nat)(a:Ruling):Option Bool:=
  ((F_q n a.Case).bind fun q=>(bif (!q)then some true else(F_b n a.Instance 1 2).bind fun r=>some (!r)):Option Bool).bind fun s=>(bif s then some false else((bif (a.Kind==1)then some (a.Kind==1)else some (a.Kind==2)):Option Bool).bind fun b=>(bif b then((bif (a.Bib==0)then(bif (a.Position==0)then some (a.Amount==0)else some false)else some false):Option Bool).bind fun c=>some c else(bif (a.Kind==3)then((F_e n a.Bib).bind fun d=>(bif d then(F_l n a.Position).bind fun e=>(bif e then(F_b n a.Amount 1 1099511627776).bind fun f=>some f else some false)else some false):Option Bool).bind fun g=>some g else(bif (a.Kind==4)then((F_e n a.Bib).bind fun h=>(bif h then(F_l n a.Position).bind fun i=>(bif i then(F_b n a.Amount 1 64).bind fun j=>some j else some false)else some false):Option Bool).bind fun k=>some k else(bif (a.Kind==5)then((F_e n a.Bib).bind fun l=>(bif l then(F_l n a.Position).bind fun m=>(bif m then some (a.Amount==0)else some false)else some false):Option Bool).bind fun p=>some p else some false)))))
theorem k_cd(n:Nat)(M:Ruling)(r:Bool)(h:F_cd n M=some r):
    Csm prog 163 [.agg (Ruling.c M)] [] (fun r=>.bool r) r:=by
 refine Qa func163 Z Z Z ?_
 refine G0 8 Z (Bd h fun q g h=>?_)
 refine Ct q [0] [1] (fun q=>[(12,.bool q)]) (fun _=>[]) (fun _=>rfl) ?_ (fun env H e=>?_)
 ·refine G0 3 Z (Cz [] g (k_q _ _) Z fun r6 aa g=>Go 2 Z (Is 7 g Z (fun N g=>?_) (fun N g=>?_)))
  ·exact Go 6 Z (Cl g [0])
  ·exact Go 2 Z (Cz [] g (k_b _ _ _ _) Z fun r8 ab g=>Go 3 Z (Cl g [0]))
 refine Gx 1 Z (TC.le e (Cn Z h (fun O h=>?_) (fun O h=>?_)))
 ·exact Gc 7 Z (Rt h 2 [])
 refine Gc 17 Z (Bd h fun j i h=>?_)
 refine Ct j [0] [1,14] (fun j=>[(15,.bool j)]) (fun _=>[]) (fun _=>rfl) ?_ (fun env H e=>?_)
 ·refine G0 0 Z (Cn Z i (fun s i=>?_) (fun s i=>?_))
  ·exact Gc 1 Z (Cl i [0])
  exact Gc 4 Z (Cl i [0])
 refine Gx 1 Z (TC.le e (Cn Z h (fun t h=>?_) (fun t h=>?_)))
 ·refine Gc 1 Z (Bd h fun k f h=>?_)
  refine Ct k [] [] (fun k=>[(2,.bool k)]) (fun _=>[]) (fun _=>rfl) ?_ (fun env H e=>?_)
  ·refine G0 5 Z (Is 21 f Z (fun u f=>?_) (fun u f=>?_))
   ·refine Go 5 Z (Is 26 f Z (fun w f=>?_) (fun w f=>?_))
    ·exact Go 6 Z (Cl f [])
    ·exact Go 6 Z (Cl f [])
   ·exact Go 11 Z (Cl f [])
  exact Gx 1 Z (TC.le e (Gc 3 Z (Rt h 2 [])))
 refine Gc 6 Z (Cn Z h (fun x h=>?_) (fun x h=>?_))
 ·refine Gc 1 Z (Bd h fun l a h=>?_)
  refine Ct l [] [] (fun l=>[(2,.bool l)]) (fun _=>[]) (fun _=>rfl) ?_ (fun env H e=>?_)
  ·refine G0 3 Z (Cz [] a (k_e _ _) Z fun ac P a=>Go 1 Z (Is 36 a Z (fun y a=>?_) (fun y a=>?_)))
   ·refine Go 2 Z (Cz [] a (k_l _ _) Z fun ad Q a=>Go 2 Z (Is 41 a Z (fun z a=>?_) (fun z a=>?_)))
    ·exact Go 2 Z (Cz [] a (k_b _ _ _ _) Z fun ae R a=>Go 3 Z (Cl a []))
    ·exact Go 6 Z (Cl a [])
   ·exact Go 11 Z (Cl a [])
  exact Gx 1 Z (TC.le e (Gc 3 Z (Rt h 2 [])))
 refine Gc 6 Z (Cn Z h (fun B h=>?_) (fun B h=>?_))
 ·refine Gc 1 Z (Bd h fun m b h=>?_)
  refine Ct m [] [] (fun m=>[(2,.bool m)]) (fun _=>[]) (fun _=>rfl) ?_ (fun env H e=>?_)
  ·refine G0 3 Z (Cz [] b (k_e _ _) Z fun af T b=>Go 1 Z (Is 51 b Z (fun E b=>?_) (fun E b=>?_)))
   ·refine Go 2 Z (Cz [] b (k_l _ _) Z fun ag V b=>Go 2 Z (Is 56 b Z (fun F b=>?_) (fun F b=>?_)))
    ·exact Go 2 Z (Cz [] b (k_b _ _ _ _) Z fun ah W b=>Go 3 Z (Cl b []))
    ·exact Go 6 Z (Cl b [])
   ·exact Go 11 Z (Cl b [])
  exact Gx 1 Z (TC.le e (Gc 3 Z (Rt h 2 [])))
 refine Gc 6 Z (Cn Z h (fun G h=>?_) (fun G h=>?_))
 ·refine Gc 1 Z (Bd h fun p d h=>?_)
  refine Ct p [] [] (fun p=>[(2,.bool p)]) (fun _=>[]) (fun _=>rfl) ?_ (fun env H e=>?_)
  ·refine G0 3 Z (Cz [] d (k_e _ _) Z fun ai X d=>Go 1 Z (Is 66 d Z (fun J d=>?_) (fun J d=>?_)))
   ·refine Go 2 Z (Cz [] d (k_l _ _) Z fun aj Y d=>Go 2 Z (Is 71 d Z (fun L d=>?_) (fun L d=>?_)))
    ·exact Go 6 Z (Cl d [])
    ·exact Go 6 Z (Cl d [])
   ·exact Go 11 Z (Cl d [])
  exact Gx 1 Z (TC.le e (Gc 3 Z (Rt h 2 [])))
 exact Gc 9 Z (Rt h 2 [])
def F_ah(n:Nat)(a:Fact):Option Bool:=
  (bif (a.Kind==1)then(F_bs n a.Starter).bind fun r2=>some r2 else(bif (a.Kind==2)then((F_k n a.Read.Mat).bind fun s=>(bif s then(F_j n a.Read.Epoch).bind fun t=>(bif t then(F_ad n a.Read.Chip).bind fun u=>(bif u then(F_c n a.Read.Local).bind fun w=>some w else some false)else some false)else some false):Option Bool).bind fun x=>some x else(bif (a.Kind==3)then((F_k n a.Beacon.Mat).bind fun y=>(bif y then(F_j n a.Beacon.Epoch).bind fun z=>(bif z then(F_c n a.Beacon.Local).bind fun E=>(bif E then(F_c n a.Beacon.True).bind fun F=>(bif F then(F_b n a.Beacon.Err 0 1099511627776).bind fun G=>some G else some false)else some false)else some false)else some false):Option Bool).bind fun H=>some H else(bif (a.Kind==4)then(F_bz n a.Sync).bind fun J=>some J else(bif (a.Kind==5)then((F_e n a.Hand.Bib).bind fun L=>(bif L then(F_l n a.Hand.Position).bind fun M=>(bif M then(F_c n a.Hand.Lo).bind fun N=>(bif N then(F_c n a.Hand.Hi).bind fun O=>(bif O then some (decide (a.Hand.Lo<=a.Hand.Hi))else some false)else some false)else some false)else some false):Option Bool).bind fun P=>some P else(bif (a.Kind==6)then((F_k n a.Silence.Mat).bind fun Q=>(bif Q then(F_j n a.Silence.Epoch).bind fun R=>(bif R then(F_c n a.Silence.Lo).bind fun T=>(bif T then(F_c n a.Silence.Hi).bind fun V=>(bif V then some (decide (a.Silence.Lo<=a.Silence.Hi))else some false)else some false)else some false)else some false):Option Bool).bind fun W=>some W else(bif (a.Kind==7)then((F_e n a.Pair.A).bind fun X=>(bif X then(F_e n a.Pair.B).bind fun Y=>(bif Y then some (decide (a.Pair.A<a.Pair.B))else some false)else some false):Option Bool).bind fun aa=>some aa else(bif (a.Kind==8)then((F_q n a.Report.Case).bind fun b=>(bif b then(F_e n a.Report.Bib).bind fun c=>(bif c then(F_b n a.Report.Offence 0 31).bind fun d=>(bif d then(F_l n a.Report.Position).bind fun e=>some e else some false)else some false)else some false):Option Bool).bind fun f=>some f else(bif (a.Kind==9)then((F_q n a.Protest.Case).bind fun g=>(bif g then(F_b n a.Protest.By 0 9999).bind fun h=>(bif h then(F_b n a.Protest.Fee 0 1125899906842624).bind fun i=>(bif i then(F_b n a.Protest.Form 0 1).bind fun j=>some j else some false)else some false)else some false):Option Bool).bind fun k=>some k else(bif (a.Kind==10)then(F_cd n a.Ruling).bind fun l=>some l else(bif (a.Kind==11)then(F_q n a.Appeal.Case).bind fun m=>some m else(bif (a.Kind==12)then some true else(bif (a.Kind==13)then((F_n n a.Void.Crew).bind fun p=>(bif p then(F_p n a.Void.No).bind fun q=>some q else some false):Option Bool).bind fun r=>some r else some false)))))))))))))
theorem k_ah(n:Nat)(a1:Fact)(r:Bool)(h:F_ah n a1=some r):
    Csm prog 111 [.agg (Fact.c a1)] [] (fun r=>.bool r) r:=by
 refine Qa func111 Z Z Z ?_
 refine G0 20 Z (Cn Z h (fun aq h=>?_) (fun aq h=>?_))
 ·exact Gc 4 Z (Cz [] h (k_bs _ _) Z fun r2 cn h=>Go 6 Z (Rt h 2 []))
 refine Gc 6 Z (Cn Z h (fun ar h=>?_) (fun ar h=>?_))
 ·refine Gc 1 Z (Bd h fun q g h=>?_)
  refine Ct q [] [] (fun q=>[(2,.bool q)]) (fun _=>[]) (fun _=>rfl) ?_ (fun env H i=>?_)
  ·refine G0 4 Z (Cz [] g (k_k _ _) Z fun co bg g=>Go 1 Z (Is 16 g Z (fun P g=>?_) (fun P g=>?_)))
   ·refine Go 3 Z (Cz [] g (k_j _ _) Z fun cp bh g=>Go 2 Z (Is 22 g Z (fun Q g=>?_) (fun Q g=>?_)))
    ·refine Go 3 Z (Cz [] g (k_ad _ _) Z fun cq bi g=>Go 2 Z (Is 28 g Z (fun R g=>?_) (fun R g=>?_)))
     ·exact Go 3 Z (Cz [] g (k_c _ _) Z fun cr bj g=>Go 3 Z (Cl g []))
     ·exact Go 7 Z (Cl g [])
    ·exact Go 13 Z (Cl g [])
   ·exact Go 19 Z (Cl g [])
  exact Gx 1 Z (TC.le i (Gc 3 Z (Rt h 2 [])))
 refine Gc 6 Z (Cn Z h (fun T h=>?_) (fun T h=>?_))
 ·refine Gc 1 Z (Bd h fun s d h=>?_)
  refine Ct s [] [] (fun s=>[(2,.bool s)]) (fun _=>[]) (fun _=>rfl) ?_ (fun env H i=>?_)
  ·refine G0 4 Z (Cz [] d (k_k _ _) Z fun cs bk d=>Go 1 Z (Is 40 d Z (fun V d=>?_) (fun V d=>?_)))
   ·refine Go 3 Z (Cz [] d (k_j _ _) Z fun ct bl d=>Go 2 Z (Is 46 d Z (fun W d=>?_) (fun W d=>?_)))
    ·refine Go 3 Z (Cz [] d (k_c _ _) Z fun cu bm d=>Go 2 Z (Is 52 d Z (fun X d=>?_) (fun X d=>?_)))
     ·refine Go 3 Z (Cz [] d (k_c _ _) Z fun cv bn d=>Go 2 Z (Is 58 d Z (fun Y d=>?_) (fun Y d=>?_)))
      ·exact Go 3 Z (Cz [] d (k_b _ _ _ _) Z fun cw bo d=>Go 3 Z (Cl d []))
      ·exact Go 7 Z (Cl d [])
     ·exact Go 13 Z (Cl d [])
    ·exact Go 19 Z (Cl d [])
   ·exact Go 25 Z (Cl d [])
  exact Gx 1 Z (TC.le i (Gc 3 Z (Rt h 2 [])))
 refine Gc 6 Z (Cn Z h (fun aa h=>?_) (fun aa h=>?_))
 ·exact Gc 4 Z (Cz [] h (k_bz _ _) Z fun cx bp h=>Go 6 Z (Rt h 2 []))
 refine Gc 6 Z (Cn Z h (fun ab h=>?_) (fun ab h=>?_))
 ·refine Gc 1 Z (Bd h fun t e h=>?_)
  refine Ct t [] [] (fun t=>[(2,.bool t)]) (fun _=>[]) (fun _=>rfl) ?_ (fun env H i=>?_)
  ·refine G0 4 Z (Cz [] e (k_e _ _) Z fun cy bq e=>Go 1 Z (Is 75 e Z (fun ac e=>?_) (fun ac e=>?_)))
   ·refine Go 3 Z (Cz [] e (k_l _ _) Z fun cz br e=>Go 2 Z (Is 81 e Z (fun ad e=>?_) (fun ad e=>?_)))
    ·refine Go 3 Z (Cz [] e (k_c _ _) Z fun da bs e=>Go 2 Z (Is 87 e Z (fun ae e=>?_) (fun ae e=>?_)))
     ·refine Go 3 Z (Cz [] e (k_c _ _) Z fun db bt e=>Go 2 Z (Is 93 e Z (fun af e=>?_) (fun af e=>?_)))
      ·exact Go 10 Z (Cl e [])
      ·exact Go 10 Z (Cl e [])
     ·exact Go 16 Z (Cl e [])
    ·exact Go 22 Z (Cl e [])
   ·exact Go 28 Z (Cl e [])
  exact Gx 1 Z (TC.le i (Gc 3 Z (Rt h 2 [])))
 refine Gc 6 Z (Cn Z h (fun ag h=>?_) (fun ag h=>?_))
 ·refine Gc 1 Z (Bd h fun u f h=>?_)
  refine Ct u [] [] (fun u=>[(2,.bool u)]) (fun _=>[]) (fun _=>rfl) ?_ (fun env H i=>?_)
  ·refine G0 4 Z (Cz [] f (k_k _ _) Z fun dc bu f=>Go 1 Z (Is 108 f Z (fun ah f=>?_) (fun ah f=>?_)))
   ·refine Go 3 Z (Cz [] f (k_j _ _) Z fun dd bv f=>Go 2 Z (Is 114 f Z (fun ai f=>?_) (fun ai f=>?_)))
    ·refine Go 3 Z (Cz [] f (k_c _ _) Z fun de bw f=>Go 2 Z (Is 120 f Z (fun aj f=>?_) (fun aj f=>?_)))
     ·refine Go 3 Z (Cz [] f (k_c _ _) Z fun df bx f=>Go 2 Z (Is 126 f Z (fun ak f=>?_) (fun ak f=>?_)))
      ·exact Go 10 Z (Cl f [])
      ·exact Go 10 Z (Cl f [])
     ·exact Go 16 Z (Cl f [])
    ·exact Go 22 Z (Cl f [])
   ·exact Go 28 Z (Cl f [])
  exact Gx 1 Z (TC.le i (Gc 3 Z (Rt h 2 [])))
 refine Gc 6 Z (Cn Z h (fun al h=>?_) (fun al h=>?_))
 ·refine Gc 1 Z (Bd h fun w j h=>?_)
  refine Ct w [] [] (fun w=>[(2,.bool w)]) (fun _=>[]) (fun _=>rfl) ?_ (fun env H i=>?_)
  ·refine G0 4 Z (Cz [] j (k_e _ _) Z fun dg bz j=>Go 1 Z (Is 141 j Z (fun am j=>?_) (fun am j=>?_)))
   ·refine Go 3 Z (Cz [] j (k_e _ _) Z fun dh ca j=>Go 2 Z (Is 147 j Z (fun an j=>?_) (fun an j=>?_)))
    ·exact Go 10 Z (Cl j [])
    ·exact Go 10 Z (Cl j [])
   ·exact Go 16 Z (Cl j [])
  exact Gx 1 Z (TC.le i (Gc 3 Z (Rt h 2 [])))
 refine Gc 6 Z (Cn Z h (fun ao h=>?_) (fun ao h=>?_))
 ·refine Gc 1 Z (Bd h fun l a h=>?_)
  refine Ct l [] [] (fun l=>[(2,.bool l)]) (fun _=>[]) (fun _=>rfl) ?_ (fun env H i=>?_)
  ·refine G0 4 Z (Cz [] a (k_q _ _) Z fun cb au a=>Go 1 Z (Is 162 a Z (fun x a=>?_) (fun x a=>?_)))
   ·refine Go 3 Z (Cz [] a (k_e _ _) Z fun cc av a=>Go 2 Z (Is 168 a Z (fun y a=>?_) (fun y a=>?_)))
    ·refine Go 3 Z (Cz [] a (k_b _ _ _ _) Z fun cd aw a=>Go 2 Z (Is 174 a Z (fun z a=>?_) (fun z a=>?_)))
     ·exact Go 3 Z (Cz [] a (k_l _ _) Z fun ce ax a=>Go 3 Z (Cl a []))
     ·exact Go 7 Z (Cl a [])
    ·exact Go 13 Z (Cl a [])
   ·exact Go 19 Z (Cl a [])
  exact Gx 1 Z (TC.le i (Gc 3 Z (Rt h 2 [])))
 refine Gc 6 Z (Cn Z h (fun B h=>?_) (fun B h=>?_))
 ·refine Gc 1 Z (Bd h fun m b h=>?_)
  refine Ct m [] [] (fun m=>[(2,.bool m)]) (fun _=>[]) (fun _=>rfl) ?_ (fun env H i=>?_)
  ·refine G0 4 Z (Cz [] b (k_q _ _) Z fun cf ay b=>Go 1 Z (Is 186 b Z (fun E b=>?_) (fun E b=>?_)))
   ·refine Go 3 Z (Cz [] b (k_b _ _ _ _) Z fun cg az b=>Go 2 Z (Is 192 b Z (fun F b=>?_) (fun F b=>?_)))
    ·refine Go 3 Z (Cz [] b (k_b _ _ _ _) Z fun ch ba b=>Go 2 Z (Is 198 b Z (fun G b=>?_) (fun G b=>?_)))
     ·exact Go 3 Z (Cz [] b (k_b _ _ _ _) Z fun ci bb b=>Go 3 Z (Cl b []))
     ·exact Go 7 Z (Cl b [])
    ·exact Go 13 Z (Cl b [])
   ·exact Go 19 Z (Cl b [])
  exact Gx 1 Z (TC.le i (Gc 3 Z (Rt h 2 [])))
 refine Gc 6 Z (Cn Z h (fun J h=>?_) (fun J h=>?_))
 ·exact Gc 4 Z (Cz [] h (k_cd _ _) Z fun cj bc h=>Go 6 Z (Rt h 2 []))
 refine Gc 6 Z (Cn Z h (fun L h=>?_) (fun L h=>?_))
 ·exact Gc 5 Z (Cz [] h (k_q _ _) Z fun ck bd h=>Go 6 Z (Rt h 2 []))
 refine Gc 6 Z (Cn Z h (fun M h=>?_) (fun M h=>?_))
 ·exact Gc 8 Z (Rt h 2 [])
 refine Gc 6 Z (Cn Z h (fun N h=>?_) (fun N h=>?_))
 ·refine Gc 1 Z (Bd h fun p k h=>?_)
  refine Ct p [] [] (fun p=>[(2,.bool p)]) (fun _=>[]) (fun _=>rfl) ?_ (fun env H i=>?_)
  ·refine G0 4 Z (Cz [] k (k_n _ _) Z fun cl be k=>Go 1 Z (Is 223 k Z (fun O k=>?_) (fun O k=>?_)))
   ·exact Go 3 Z (Cz [] k (k_p _ _) Z fun cm bf k=>Go 3 Z (Cl k []))
   ·exact Go 7 Z (Cl k [])
  exact Gx 1 Z (TC.le i (Gc 3 Z (Rt h 2 [])))
 exact Gc 9 Z (Rt h 2 [])
def F_ap(n:Nat)(a:Fact):Option Fact:=
  ((bif (a.Kind==1)then some ({z_Fact with Crew:=a.Crew,No:=a.No,At:=a.At,Kind:=a.Kind,Starter:=a.Starter:Fact})else(bif (a.Kind==2)then some ({z_Fact with Crew:=a.Crew,No:=a.No,At:=a.At,Kind:=a.Kind,Read:=a.Read:Fact})else(bif (a.Kind==3)then some ({z_Fact with Crew:=a.Crew,No:=a.No,At:=a.At,Kind:=a.Kind,Beacon:=a.Beacon:Fact})else(bif (a.Kind==4)then some ({z_Fact with Crew:=a.Crew,No:=a.No,At:=a.At,Kind:=a.Kind,Sync:=a.Sync:Fact})else(bif (a.Kind==5)then some ({z_Fact with Crew:=a.Crew,No:=a.No,At:=a.At,Kind:=a.Kind,Hand:=a.Hand:Fact})else(bif (a.Kind==6)then some ({z_Fact with Crew:=a.Crew,No:=a.No,At:=a.At,Kind:=a.Kind,Silence:=a.Silence:Fact})else(bif (a.Kind==7)then some ({z_Fact with Crew:=a.Crew,No:=a.No,At:=a.At,Kind:=a.Kind,Pair:=a.Pair:Fact})else(bif (a.Kind==8)then some ({z_Fact with Crew:=a.Crew,No:=a.No,At:=a.At,Kind:=a.Kind,Report:=a.Report:Fact})else(bif (a.Kind==9)then some ({z_Fact with Crew:=a.Crew,No:=a.No,At:=a.At,Kind:=a.Kind,Protest:=a.Protest:Fact})else(bif (a.Kind==10)then some ({z_Fact with Crew:=a.Crew,No:=a.No,At:=a.At,Kind:=a.Kind,Ruling:=a.Ruling:Fact})else(bif (a.Kind==11)then some ({z_Fact with Crew:=a.Crew,No:=a.No,At:=a.At,Kind:=a.Kind,Appeal:=a.Appeal:Fact})else(bif (a.Kind==13)then some ({z_Fact with Crew:=a.Crew,No:=a.No,At:=a.At,Kind:=a.Kind,Void:=a.Void:Fact})else some ({z_Fact with Crew:=a.Crew,No:=a.No,At:=a.At,Kind:=a.Kind:Fact}))))))))))))):Option Fact).bind fun b=>some b
theorem k_ap(n:Nat)(t:Fact)(r:Fact)(h:F_ap n t=some r):
    C prog 112 [.agg (Fact.c t)] [] (RQ (fun r=>.agg (Fact.c r)) (fun r=>[.cells 52 (Fact.c r)]) r):=by
 refine Qa func112 Z Z Z ?_
 refine G0 35 Z (Bd h fun b a h=>?_)
 refine Ct b [1,2] [2,3] (fun _=>[]) (fun b=>[(1,.cells 52 (Fact.c b))]) (fun _=>rfl) ?_ (fun env H u=>?_)
 ·refine G0 0 Z (Cn Z a (fun d a=>?_) (fun d a=>?_))
  ·exact Gc 6 Z (Cl a [1,2])
  refine Gc 6 Z (Cn Z a (fun e a=>?_) (fun e a=>?_))
  ·exact Gc 6 Z (Cl a [1,2])
  refine Gc 6 Z (Cn Z a (fun f a=>?_) (fun f a=>?_))
  ·exact Gc 6 Z (Cl a [1,2])
  refine Gc 6 Z (Cn Z a (fun g a=>?_) (fun g a=>?_))
  ·exact Gc 6 Z (Cl a [1,2])
  refine Gc 6 Z (Cn Z a (fun i a=>?_) (fun i a=>?_))
  ·exact Gc 6 Z (Cl a [1,2])
  refine Gc 6 Z (Cn Z a (fun j a=>?_) (fun j a=>?_))
  ·exact Gc 6 Z (Cl a [1,2])
  refine Gc 6 Z (Cn Z a (fun k a=>?_) (fun k a=>?_))
  ·exact Gc 6 Z (Cl a [1,2])
  refine Gc 6 Z (Cn Z a (fun l a=>?_) (fun l a=>?_))
  ·exact Gc 6 Z (Cl a [1,2])
  refine Gc 6 Z (Cn Z a (fun m a=>?_) (fun m a=>?_))
  ·exact Gc 6 Z (Cl a [1,2])
  refine Gc 6 Z (Cn Z a (fun p a=>?_) (fun p a=>?_))
  ·exact Gc 6 Z (Cl a [1,2])
  refine Gc 6 Z (Cn Z a (fun q a=>?_) (fun q a=>?_))
  ·exact Gc 6 Z (Cl a [1,2])
  refine Gc 6 Z (Cn Z a (fun s a=>?_) (fun s a=>?_))
  ·exact Gc 6 Z (Cl a [1,2])
  exact Gc 1 Z (Cl a [1,2])
 refine Gx 2 Z (TC.le u (Gc 7 Z ?_))
 obtain rfl:=Oi h
 exact Rx [0] [2] Z (QT Z (Qm isAgg52 sizeOf52 Z Z Z)) ⟨Z,Z⟩
def F_aa(n:Nat)(a:Fact):Option Int:=
  ((F_n n a.Crew).bind fun b=>(bif (!b)then some true else(F_p n a.No).bind fun c=>(bif (!c)then some true else(F_b n a.At 0 1099511627776).bind fun d=>(bif (!d)then some true else(F_ah n a).bind fun e=>(bif (!e)then some true else(F_ap n a).bind fun f=>some (a != f))))):Option Bool).bind fun g=>(bif g then some 120 else some 0)
theorem k_aa(n:Nat)(f:Fact)(r:Int)(h:F_aa n f=some r):
    Csm prog 50 [.agg (Fact.c f)] [] (fun r=>I r) r:=by
 refine Qa func50 Z Z Z ?_
 refine G0 8 Z (Bd h fun x d h=>?_)
 refine Ct x [] [] (fun x=>[(29,.bool x)]) (fun _=>[]) (fun _=>rfl) ?_ (fun env H B=>?_)
 ·refine G0 0 Z ?_
  obtain⟨j,l,d⟩:=bnd d
  refine If d (fun a d=>?_) (fun a d=>?_)
  ·refine TC.draw0 25 [3,4,5,6,7,8,9,10,11,12,13,14,15,16,17,18,19,20,21,22,23,24,25,26,27] [.ptr 0 0,I f.Crew,.bool j,.bool (!j),.bool (!j),.tup [],.tup [],.tup [],.tup [],.bool true,.bool true,.tup [],.tup [],.tup [],.tup [],.bool true,.bool true,.tup [],.tup [],.tup [],.bool true,.bool true,.tup [],.tup [],.tup []] draws Z Z Z ?_ ?_
   ·refine ov (ov (Oq.c ?_ (Oq.c ?_ (ov (Oq.c ?_ (Oq.c ?_ (Oq.c ?_ (Oq.c ?_ (Oq.c ?_ (ov (Oq.c ?_ (Oq.c ?_ (Oq.c ?_ (Oq.c ?_ (Oq.c ?_ (ov (Oq.c ?_ (Oq.c ?_ (Oq.c ?_ (Oq.c ?_ (ov (Oq.c ?_ (Oq.c ?_ (Oq.c ?_ (Oq.n)))))))))))))))))))))))))
    ·refine Om Z (sD 1 sN) ?_
     exact Pc [] Z (OpC.fn call109 Z Z Z) (k_n _ _ _ l) Z Wp
    ·refine Om Z (sD 2 sN) ?_
     exact S Z Wp
    ·refine Om Z (sO 1 (sD 4 sN)) ?_
     exact K (gF a) Z Wp
    ·refine Om Z (sD 4 (sD 5 sN)) ?_
     exact K (gF a) Z Wp
    ·refine Om Z (sD 4 (sD 6 sN)) ?_
     exact K (gF a) Z Wp
    ·refine Om Z (sD 4 (sD 7 sN)) ?_
     exact K (gF a) Z Wp
    ·refine Om Z (sD 4 (sD 8 sN)) ?_
     exact Pk a Z Wp
    ·refine Om Z (sO 1 (sD 10 sN)) ?_
     exact K (gF Z) Z Wp
    ·refine Om Z (sD 10 (sD 11 sN)) ?_
     exact K (gF Z) Z Wp
    ·refine Om Z (sD 10 (sD 12 sN)) ?_
     exact K (gF Z) Z Wp
    ·refine Om Z (sD 10 (sD 13 sN)) ?_
     exact K (gF Z) Z Wp
    ·refine Om Z (sD 10 (sD 14 sN)) ?_
     exact S Z Wp
    ·refine Om Z (sO 1 (sD 16 sN)) ?_
     exact K (gF Z) Z Wp
    ·refine Om Z (sD 16 (sD 17 sN)) ?_
     exact K (gF Z) Z Wp
    ·refine Om Z (sD 16 (sD 18 sN)) ?_
     exact K (gF Z) Z Wp
    ·refine Om Z (sD 16 (sD 19 sN)) ?_
     exact S Z Wp
    ·refine Om Z (sO 1 (sD 21 sN)) ?_
     exact K (gF Z) Z Wp
    ·refine Om Z (sO 1 (sD 21 sN)) ?_
     exact K (gF Z) Z Wp
    ·refine Om Z (sD 21 (sD 23 sN)) ?_
     exact K (gF Z) Z Wp
   exact Go 3 Z (Cl d [])
  ·obtain⟨i,s,d⟩:=bnd d
   refine If d (fun b d=>?_) (fun b d=>?_)
   ·refine TC.draw0 25 [3,4,5,6,7,8,9,10,11,12,13,14,15,16,17,18,19,20,21,22,23,24,25,26,27] [.ptr 0 0,I f.Crew,.bool j,.bool (!j),.bool (!j),.ptr 0 1,I f.No,.bool i,.bool (!i),.bool (!i),.bool (!i),.tup [],.tup [],.tup [],.tup [],.bool true,.bool true,.tup [],.tup [],.tup [],.bool true,.bool true,.tup [],.tup [],.tup []] draws Z Z Z ?_ ?_
    ·refine ov (ov (Oq.c ?_ (Oq.c ?_ (ov (Oq.c ?_ (Oq.c ?_ (Oq.c ?_ (Oq.c ?_ (Oq.c ?_ (ov (Oq.c ?_ (Oq.c ?_ (Oq.c ?_ (Oq.c ?_ (Oq.c ?_ (ov (Oq.c ?_ (Oq.c ?_ (Oq.c ?_ (Oq.c ?_ (ov (Oq.c ?_ (Oq.c ?_ (Oq.c ?_ (Oq.n)))))))))))))))))))))))))
     ·refine Om Z (sD 1 sN) ?_
      exact Pc [] Z (OpC.fn call109 Z Z Z) (k_n _ _ _ l) Z Wp
     ·refine Om Z (sD 2 sN) ?_
      exact S Z Wp
     ·refine Om Z (sO 1 (sD 4 sN)) ?_
      exact Fpg (gT a) Qce Z Wp
     ·refine Om Z (sD 4 (sD 5 sN)) ?_
      exact Ldg (gT a) isAgg3 Z Wp
     ·refine Om Z (sD 4 (sD 6 sN)) ?_
      exact Pc [] Z (OpC.fn call110 Z Z Z) (k_p _ _ _ s) (hg:=(gT a)) Z Wp
     ·refine Om Z (sD 4 (sD 7 sN)) ?_
      exact Sg (gT a) Z Wp
     ·refine Om Z (sD 4 (sD 8 sN)) ?_
      exact Pk a Z Wp
     ·refine Om Z (sO 1 (sD 10 sN)) ?_
      exact K (gF b) Z Wp
     ·refine Om Z (sD 10 (sD 11 sN)) ?_
      exact K (gF b) Z Wp
     ·refine Om Z (sD 10 (sD 12 sN)) ?_
      exact K (gF b) Z Wp
     ·refine Om Z (sD 10 (sD 13 sN)) ?_
      exact K (gF b) Z Wp
     ·refine Om Z (sD 10 (sD 14 sN)) ?_
      exact Pk b Z Wp
     ·refine Om Z (sO 1 (sD 16 sN)) ?_
      exact K (gF Z) Z Wp
     ·refine Om Z (sD 16 (sD 17 sN)) ?_
      exact K (gF Z) Z Wp
     ·refine Om Z (sD 16 (sD 18 sN)) ?_
      exact K (gF Z) Z Wp
     ·refine Om Z (sD 16 (sD 19 sN)) ?_
      exact S Z Wp
     ·refine Om Z (sO 1 (sD 21 sN)) ?_
      exact K (gF Z) Z Wp
     ·refine Om Z (sO 1 (sD 21 sN)) ?_
      exact K (gF Z) Z Wp
     ·refine Om Z (sD 21 (sD 23 sN)) ?_
      exact K (gF Z) Z Wp
    exact Go 3 Z (Cl d [])
   ·obtain⟨k,t,d⟩:=bnd d
    refine If d (fun e d=>?_) (fun e d=>?_)
    ·refine TC.draw0 25 [3,4,5,6,7,8,9,10,11,12,13,14,15,16,17,18,19,20,21,22,23,24,25,26,27] [.ptr 0 0,I f.Crew,.bool j,.bool (!j),.bool (!j),.ptr 0 1,I f.No,.bool i,.bool (!i),.bool (!i),.bool (!i),.ptr 0 2,I f.At,.bool k,.bool (!k),.bool (!k),.bool (!k),.tup [],.tup [],.tup [],.bool true,.bool true,.tup [],.tup [],.tup []] draws Z Z Z ?_ ?_
     ·refine ov (ov (Oq.c ?_ (Oq.c ?_ (ov (Oq.c ?_ (Oq.c ?_ (Oq.c ?_ (Oq.c ?_ (Oq.c ?_ (ov (Oq.c ?_ (Oq.c ?_ (Oq.c ?_ (Oq.c ?_ (Oq.c ?_ (ov (Oq.c ?_ (Oq.c ?_ (Oq.c ?_ (Oq.c ?_ (ov (Oq.c ?_ (Oq.c ?_ (Oq.c ?_ (Oq.n)))))))))))))))))))))))))
      ·refine Om Z (sD 1 sN) ?_
       exact Pc [] Z (OpC.fn call109 Z Z Z) (k_n _ _ _ l) Z Wp
      ·refine Om Z (sD 2 sN) ?_
       exact S Z Wp
      ·refine Om Z (sO 1 (sD 4 sN)) ?_
       exact Fpg (gT a) Qce Z Wp
      ·refine Om Z (sD 4 (sD 5 sN)) ?_
       exact Ldg (gT a) isAgg3 Z Wp
      ·refine Om Z (sD 4 (sD 6 sN)) ?_
       exact Pc [] Z (OpC.fn call110 Z Z Z) (k_p _ _ _ s) (hg:=(gT a)) Z Wp
      ·refine Om Z (sD 4 (sD 7 sN)) ?_
       exact Sg (gT a) Z Wp
      ·refine Om Z (sD 4 (sD 8 sN)) ?_
       exact Pk a Z Wp
      ·refine Om Z (sO 1 (sD 10 sN)) ?_
       exact Fpg (gT b) Qdb Z Wp
      ·refine Om Z (sD 10 (sD 11 sN)) ?_
       exact Ldg (gT b) isAgg3 Z Wp
      ·refine Om Z (sD 10 (sD 12 sN)) ?_
       exact Pc [] Z (OpC.fn call60 Z Z Z) (k_b _ _ _ _ _ t) (hg:=(gT b)) Z Wp
      ·refine Om Z (sD 10 (sD 13 sN)) ?_
       exact Sg (gT b) Z Wp
      ·refine Om Z (sD 10 (sD 14 sN)) ?_
       exact Pk b Z Wp
      ·refine Om Z (sO 1 (sD 16 sN)) ?_
       exact K (gF e) Z Wp
      ·refine Om Z (sD 16 (sD 17 sN)) ?_
       exact K (gF e) Z Wp
      ·refine Om Z (sD 16 (sD 18 sN)) ?_
       exact K (gF e) Z Wp
      ·refine Om Z (sD 16 (sD 19 sN)) ?_
       exact Pk e Z Wp
      ·refine Om Z (sO 1 (sD 21 sN)) ?_
       exact K (gF Z) Z Wp
      ·refine Om Z (sO 1 (sD 21 sN)) ?_
       exact K (gF Z) Z Wp
      ·refine Om Z (sD 21 (sD 23 sN)) ?_
       exact K (gF Z) Z Wp
     exact Go 3 Z (Cl d [])
    ·obtain⟨m,w,d⟩:=bnd d
     refine If d (fun g d=>?_) (fun g d=>?_)
     ·refine TC.draw0 25 [3,4,5,6,7,8,9,10,11,12,13,14,15,16,17,18,19,20,21,22,23,24,25,26,27] [.ptr 0 0,I f.Crew,.bool j,.bool (!j),.bool (!j),.ptr 0 1,I f.No,.bool i,.bool (!i),.bool (!i),.bool (!i),.ptr 0 2,I f.At,.bool k,.bool (!k),.bool (!k),.bool (!k),.agg (Fact.c f),.bool m,.bool (!m),.bool (!m),.bool (!m),.tup [],.tup [],.tup []] draws Z Z Z ?_ ?_
      ·refine ov (ov (Oq.c ?_ (Oq.c ?_ (ov (Oq.c ?_ (Oq.c ?_ (Oq.c ?_ (Oq.c ?_ (Oq.c ?_ (ov (Oq.c ?_ (Oq.c ?_ (Oq.c ?_ (Oq.c ?_ (Oq.c ?_ (ov (Oq.c ?_ (Oq.c ?_ (Oq.c ?_ (Oq.c ?_ (ov (Oq.c ?_ (Oq.c ?_ (Oq.c ?_ (Oq.n)))))))))))))))))))))))))
       ·refine Om Z (sD 1 sN) ?_
        exact Pc [] Z (OpC.fn call109 Z Z Z) (k_n _ _ _ l) Z Wp
       ·refine Om Z (sD 2 sN) ?_
        exact S Z Wp
       ·refine Om Z (sO 1 (sD 4 sN)) ?_
        exact Fpg (gT a) Qce Z Wp
       ·refine Om Z (sD 4 (sD 5 sN)) ?_
        exact Ldg (gT a) isAgg3 Z Wp
       ·refine Om Z (sD 4 (sD 6 sN)) ?_
        exact Pc [] Z (OpC.fn call110 Z Z Z) (k_p _ _ _ s) (hg:=(gT a)) Z Wp
       ·refine Om Z (sD 4 (sD 7 sN)) ?_
        exact Sg (gT a) Z Wp
       ·refine Om Z (sD 4 (sD 8 sN)) ?_
        exact Pk a Z Wp
       ·refine Om Z (sO 1 (sD 10 sN)) ?_
        exact Fpg (gT b) Qdb Z Wp
       ·refine Om Z (sD 10 (sD 11 sN)) ?_
        exact Ldg (gT b) isAgg3 Z Wp
       ·refine Om Z (sD 10 (sD 12 sN)) ?_
        exact Pc [] Z (OpC.fn call60 Z Z Z) (k_b _ _ _ _ _ t) (hg:=(gT b)) Z Wp
       ·refine Om Z (sD 10 (sD 13 sN)) ?_
        exact Sg (gT b) Z Wp
       ·refine Om Z (sD 10 (sD 14 sN)) ?_
        exact Pk b Z Wp
       ·refine Om Z (sO 1 (sD 16 sN)) ?_
        refine vX (.agg (Fact.c f)) (Qk Z isAgg52 sizeOf52 Z (Pts.cells Z Z) Z Z) ?_ (gT e)
        exact Wp
       ·refine Om Z (sD 16 (sD 17 sN)) ?_
        exact Pc [] Z (OpC.fn call111 Z Z Z) (k_ah _ _ _ w) (hg:=(gT e)) Z Wp
       ·refine Om Z (sD 16 (sD 18 sN)) ?_
        exact Sg (gT e) Z Wp
       ·refine Om Z (sD 16 (sD 19 sN)) ?_
        exact Pk e Z Wp
       ·refine Om Z (sO 1 (sD 21 sN)) ?_
        exact K (gF g) Z Wp
       ·refine Om Z (sO 1 (sD 21 sN)) ?_
        exact K (gF g) Z Wp
       ·refine Om Z (sD 21 (sD 23 sN)) ?_
        exact K (gF g) Z Wp
      exact KF g Z (Pk g Z (Go 1 Z (Cl d [])))
     ·obtain⟨u,y,d⟩:=bnd d
      refine Qbi 25 0 [3,4,5,6,7,8,9,10,11,12,13,14,15,16,17,18,19,20,21,22,23,24,25,26,27] [false,false,false,false,false,false,false,false,false,false,false,false,false,false,false,false,false,false,false,false,false,false,false,false,true] [[],[],[],[],[],[],[],[],[],[],[],[],[],[],[],[],[],[],[],[],[],[],[],[],[]] [[],[24]] [[(0,0),(1,1)],[(0,0),(1,1)],[(0,0),(1,1)],[(0,0),(1,1)],[(0,0),(1,1)],[(0,0),(1,1)],[(0,0),(1,1)],[(0,0),(1,1)],[(0,0),(1,1)],[(0,0),(1,1)],[(0,0),(1,1)],[(0,0),(1,1)],[(0,0),(1,1)],[(0,0),(1,1)],[(0,0),(1,1)],[(0,0),(1,1)],[(0,0),(1,1)],[(0,0),(1,1)],[(0,0),(1,1)],[(0,0),(1,1)],[(0,0),(1,1)],[(0,0),(1,1)],[(0,0),(1,1)],[(0,0),(1,1)],[(0,1)]] [.ptr 0 0,I f.Crew,.bool j,.bool (!j),.bool (!j),.ptr 0 1,I f.No,.bool i,.bool (!i),.bool (!i),.bool (!i),.ptr 0 2,I f.At,.bool k,.bool (!k),.bool (!k),.bool (!k),.agg (Fact.c f),.bool m,.bool (!m),.bool (!m),.bool (!m),.agg (Fact.c f),.agg (Fact.c f),.agg (Fact.c u)] [[.cells 52 (Fact.c f)],[.cells 52 (Fact.c f),.cells 52 (Fact.c u)]] ([.cells 52 (Fact.c f),.cells 52 (Fact.c u)]) draws Z Z Z Z Z Z Z ?_ Z ?_
      ·refine Qfc.cons (Qc (v0 Z Z) (Qc (v0 Z Z) (Qj))) (Qfc.cons (Qc (v0 Z Z) (Qc (v0 Z Z) (Qj))) (Qfc.cons ?_ (Qfc.cons ?_ (Qfc.cons (Qc (v0 Z Z) (Qc (v0 Z Z) (Qj))) (Qfc.cons ?_ (Qfc.cons ?_ (Qfc.cons ?_ (Qfc.cons ?_ (Qfc.cons ?_ (Qfc.cons (Qc (v0 Z Z) (Qc (v0 Z Z) (Qj))) (Qfc.cons ?_ (Qfc.cons ?_ (Qfc.cons ?_ (Qfc.cons ?_ (Qfc.cons ?_ (Qfc.cons (Qc (v0 Z Z) (Qc (v0 Z Z) (Qj))) (Qfc.cons ?_ (Qfc.cons ?_ (Qfc.cons ?_ (Qfc.cons ?_ (Qfc.cons (Qc (v0 Z Z) (Qc (v0 Z Z) (Qj))) (Qfc.cons ?_ (Qfc.cons ?_ (Qfc.cons ?_ (Qfc.nil)))))))))))))))))))))))))
       ·refine Qc ?_ (Qc ?_ (Qj))
        ·refine Om Z (sD 1 sN) ?_
         exact Pc [] Z (OpC.fn call109 Z Z Z) (k_n _ _ _ l) Z Wp
        ·refine Om Z (sD 1 sN) ?_
         exact Pc [] Z (OpC.fn call109 Z Z Z) (k_n _ _ _ l) Z Wp
       ·refine Qc ?_ (Qc ?_ (Qj))
        ·refine Om Z (sD 2 sN) ?_
         exact S Z Wp
        ·refine Om Z (sD 2 sN) ?_
         exact S Z Wp
       ·refine Qc ?_ (Qc ?_ (Qj))
        ·refine Om Z (sO 1 (sD 4 sN)) ?_
         exact Fpg (gT a) Qce Z Wp
        ·refine Om Z (sO 1 (sD 4 sN)) ?_
         exact Fpg (gT a) Qce Z Wp
       ·refine Qc ?_ (Qc ?_ (Qj))
        ·refine Om Z (sD 4 (sD 5 sN)) ?_
         exact Ldg (gT a) isAgg3 Z Wp
        ·refine Om Z (sD 4 (sD 5 sN)) ?_
         exact Ldg (gT a) isAgg3 Z Wp
       ·refine Qc ?_ (Qc ?_ (Qj))
        ·refine Om Z (sD 4 (sD 6 sN)) ?_
         exact Pc [] Z (OpC.fn call110 Z Z Z) (k_p _ _ _ s) (hg:=(gT a)) Z Wp
        ·refine Om Z (sD 4 (sD 6 sN)) ?_
         exact Pc [] Z (OpC.fn call110 Z Z Z) (k_p _ _ _ s) (hg:=(gT a)) Z Wp
       ·refine Qc ?_ (Qc ?_ (Qj))
        ·refine Om Z (sD 4 (sD 7 sN)) ?_
         exact Sg (gT a) Z Wp
        ·refine Om Z (sD 4 (sD 7 sN)) ?_
         exact Sg (gT a) Z Wp
       ·refine Qc ?_ (Qc ?_ (Qj))
        ·refine Om Z (sD 4 (sD 8 sN)) ?_
         exact Pk a Z Wp
        ·refine Om Z (sD 4 (sD 8 sN)) ?_
         exact Pk a Z Wp
       ·refine Qc ?_ (Qc ?_ (Qj))
        ·refine Om Z (sO 1 (sD 10 sN)) ?_
         exact Fpg (gT b) Qdb Z Wp
        ·refine Om Z (sO 1 (sD 10 sN)) ?_
         exact Fpg (gT b) Qdb Z Wp
       ·refine Qc ?_ (Qc ?_ (Qj))
        ·refine Om Z (sD 10 (sD 11 sN)) ?_
         exact Ldg (gT b) isAgg3 Z Wp
        ·refine Om Z (sD 10 (sD 11 sN)) ?_
         exact Ldg (gT b) isAgg3 Z Wp
       ·refine Qc ?_ (Qc ?_ (Qj))
        ·refine Om Z (sD 10 (sD 12 sN)) ?_
         exact Pc [] Z (OpC.fn call60 Z Z Z) (k_b _ _ _ _ _ t) (hg:=(gT b)) Z Wp
        ·refine Om Z (sD 10 (sD 12 sN)) ?_
         exact Pc [] Z (OpC.fn call60 Z Z Z) (k_b _ _ _ _ _ t) (hg:=(gT b)) Z Wp
       ·refine Qc ?_ (Qc ?_ (Qj))
        ·refine Om Z (sD 10 (sD 13 sN)) ?_
         exact Sg (gT b) Z Wp
        ·refine Om Z (sD 10 (sD 13 sN)) ?_
         exact Sg (gT b) Z Wp
       ·refine Qc ?_ (Qc ?_ (Qj))
        ·refine Om Z (sD 10 (sD 14 sN)) ?_
         exact Pk b Z Wp
        ·refine Om Z (sD 10 (sD 14 sN)) ?_
         exact Pk b Z Wp
       ·refine Qc ?_ (Qc ?_ (Qj))
        ·refine Om Z (sO 1 (sD 16 sN)) ?_
         refine vX (.agg (Fact.c f)) (Qk Z isAgg52 sizeOf52 Z (Pts.cells Z Z) Z Z) ?_ (gT e)
         exact Wp
        ·refine Om Z (sO 1 (sD 16 sN)) ?_
         refine vX (.agg (Fact.c f)) (Qk Z isAgg52 sizeOf52 Z (Pts.cells Z Z) Z Z) ?_ (gT e)
         exact Wp
       ·refine Qc ?_ (Qc ?_ (Qj))
        ·refine Om Z (sD 16 (sD 17 sN)) ?_
         exact Pc [] Z (OpC.fn call111 Z Z Z) (k_ah _ _ _ w) (hg:=(gT e)) Z Wp
        ·refine Om Z (sD 16 (sD 17 sN)) ?_
         exact Pc [] Z (OpC.fn call111 Z Z Z) (k_ah _ _ _ w) (hg:=(gT e)) Z Wp
       ·refine Qc ?_ (Qc ?_ (Qj))
        ·refine Om Z (sD 16 (sD 18 sN)) ?_
         exact Sg (gT e) Z Wp
        ·refine Om Z (sD 16 (sD 18 sN)) ?_
         exact Sg (gT e) Z Wp
       ·refine Qc ?_ (Qc ?_ (Qj))
        ·refine Om Z (sD 16 (sD 19 sN)) ?_
         exact Pk e Z Wp
        ·refine Om Z (sD 16 (sD 19 sN)) ?_
         exact Pk e Z Wp
       ·refine Qc ?_ (Qc ?_ (Qj))
        ·refine Om Z (sO 1 (sD 21 sN)) ?_
         refine vX (.agg (Fact.c f)) (Qk Z isAgg52 sizeOf52 Z (Pts.cells Z Z) Z Z) ?_ (gT g)
         exact Wp
        ·refine Om Z (sO 1 (sD 21 sN)) ?_
         refine vX (.agg (Fact.c f)) (Qk Z isAgg52 sizeOf52 Z (Pts.cells Z Z) Z Z) ?_ (gT g)
         exact Wp
       ·refine Qc ?_ (Qc ?_ (Qj))
        ·refine Om Z (sO 1 (sD 21 sN)) ?_
         refine vX (.agg (Fact.c f)) (Qk Z isAgg52 sizeOf52 Z (Pts.cells Z Z) Z Z) ?_ (gT g)
         exact Wp
        ·refine Om Z (sO 1 (sD 21 sN)) ?_
         refine vX (.agg (Fact.c f)) (Qk Z isAgg52 sizeOf52 Z (Pts.cells Z Z) Z Z) ?_ (gT g)
         exact Wp
       ·refine Qc ?_ (Qj)
        ·refine Om1 Z (sD 21 (sD 23 sN)) ?_
         refine QA [] (OpC.fn call112 Z Z Z) (k_ap _ _ _ y) ?_ (hg:=(gT g))
         rintro _ _ ⟨rfl,rfl⟩
         exact FE Z Wp
      refine vX (.bool (f != u)) (Qh0 (p:=f) (q:=u) QgI Z Z) ?_ (gT g)
      exact Pk g Z (Go 1 Z (Cl d []))
 refine Gx 1 Z (TC.le B (Cn Z h (fun z h=>?_) (fun z h=>?_)))
 ·exact Gc 7 Z (Rt h 2 [])
 exact Gc 8 Z (Rt h 2 [])
end Go.Sw
