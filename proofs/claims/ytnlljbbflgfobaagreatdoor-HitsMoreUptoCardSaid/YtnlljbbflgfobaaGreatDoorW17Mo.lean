/- What the functions compute that HitsMore reaches, and that their calls refine it (part 2 of 2). -/
import Derived.Test.YtnlljbbflgfobaaGreatDoorW17Mo1
set_option linter.unusedVariables false
set_option linter.unusedSimpArgs false
set_option maxRecDepth 100000
set_option maxHeartbeats 4000000
namespace Go.Sw
open Go.Proofs Tryz
def Q_facts_open_rxk(b:Fact)(d:Int):U_facts_open_rxk->Go.Sw.A->Qc->Prop
  |.c0 x,a,H=>a=.tup [.agg [.osl 2 0 8 3,.fn (.func 152) [] []],.bool true]/\H=[.cells 52 (Fact.c b),.cells 3 [I d],.rowr 199 3 [[.ptr 0 4,I 1,I 9999],[.ptr 0 5,I 0,I 7],[.ptr 0 6,I 0,I 31],[.ptr 0 7,I (-1099511627776),I 1099511627776],[.ptr 0 8,I 0,I 120],[.ptr 0 9,I 0,I 1048576],[.ptr 0 10,I 0,I 9999],[.ptr 0 11,I 0,I 1048576]],.cells 189 [.osl 2 0 8 3,.fn (.func 152) [] []]]
  |.c1 x,a,H=>a=.tup [.agg [.osl 2 0 4 3,.fn (.func 152) [] []],.bool true]/\H=[.cells 52 (Fact.c b),.cells 3 [I d],.rowr 199 3 [[.ptr 0 12,I 0,I 39],[.ptr 0 13,I 0,I 255],[.ptr 0 14,I 0,I 1048576],[.ptr 0 15,I (-1099511627776),I 1099511627776]],.cells 189 [.osl 2 0 4 3,.fn (.func 152) [] []]]
  |.c2 x,a,H=>a=.tup [.agg [.osl 2 0 5 3,.fn (.func 152) [] []],.bool true]/\H=[.cells 52 (Fact.c b),.cells 3 [I d],.rowr 199 3 [[.ptr 0 16,I 0,I 39],[.ptr 0 17,I 0,I 255],[.ptr 0 18,I (-1099511627776),I 1099511627776],[.ptr 0 19,I (-1099511627776),I 1099511627776],[.ptr 0 20,I 0,I 1099511627776]],.cells 189 [.osl 2 0 5 3,.fn (.func 152) [] []]]
  |.c3 x,a,H=>a=.tup [.agg [.osl 2 0 8 3,.fn (.func 153) [] [.ptr 3 0]],.bool true]/\H=[.cells 52 (Fact.c b),.cells 3 [I d],.rowr 199 3 [[.ptr 0 21,I 0,I 39],[.ptr 0 22,I 0,I 255],[.ptr 0 23,I (-1099511627776),I 1099511627776],[.ptr 0 24,I 0,I 39],[.ptr 0 25,I 0,I 255],[.ptr 0 26,I (-1099511627776),I 1099511627776],[.ptr 0 27,I (-1099511627776),I 1099511627776],[.ptr 0 28,I (-1099511627776),I 1099511627776]],.cells 234 [.ptr 0 21],.cells 189 [.osl 2 0 8 3,.fn (.func 153) [] [.ptr 3 0]]]
  |.c4 x,a,H=>a=.tup [.agg [.osl 2 0 4 3,.fn (.func 154) [] [.ptr 3 0]],.bool true]/\H=[.cells 52 (Fact.c b),.cells 3 [I d],.rowr 199 3 [[.ptr 0 29,I 1,I 9999],[.ptr 0 30,I 0,I 255],[.ptr 0 31,I (-1099511627776),I 1099511627776],[.ptr 0 32,I (-1099511627776),I 1099511627776]],.cells 235 [.ptr 0 29],.cells 189 [.osl 2 0 4 3,.fn (.func 154) [] [.ptr 3 0]]]
  |.c5 x,a,H=>a=.tup [.agg [.osl 2 0 4 3,.fn (.func 155) [] [.ptr 3 0]],.bool true]/\H=[.cells 52 (Fact.c b),.cells 3 [I d],.rowr 199 3 [[.ptr 0 33,I 0,I 39],[.ptr 0 34,I 0,I 255],[.ptr 0 35,I (-1099511627776),I 1099511627776],[.ptr 0 36,I (-1099511627776),I 1099511627776]],.cells 236 [.ptr 0 33],.cells 189 [.osl 2 0 4 3,.fn (.func 155) [] [.ptr 3 0]]]
  |.c6 x,a,H=>a=.tup [.agg [.osl 2 0 2 3,.fn (.func 156) [] [.ptr 3 0]],.bool true]/\H=[.cells 52 (Fact.c b),.cells 3 [I d],.rowr 199 3 [[.ptr 0 37,I 1,I 9999],[.ptr 0 38,I 1,I 9999]],.cells 237 [.ptr 0 37],.cells 189 [.osl 2 0 2 3,.fn (.func 156) [] [.ptr 3 0]]]
  |.c7 x,a,H=>a=.tup [.agg [.osl 2 0 4 3,.fn (.func 152) [] []],.bool true]/\H=[.cells 52 (Fact.c b),.cells 3 [I d],.rowr 199 3 [[.ptr 0 39,I 1,I 1048576],[.ptr 0 40,I 1,I 9999],[.ptr 0 41,I 0,I 31],[.ptr 0 42,I 0,I 255]],.cells 189 [.osl 2 0 4 3,.fn (.func 152) [] []]]
  |.c8 x,a,H=>a=.tup [.agg [.osl 2 0 4 3,.fn (.func 152) [] []],.bool true]/\H=[.cells 52 (Fact.c b),.cells 3 [I d],.rowr 199 3 [[.ptr 0 43,I 1,I 1048576],[.ptr 0 44,I 0,I 9999],[.ptr 0 45,I 0,I 1125899906842624],[.ptr 0 46,I 0,I 1]],.cells 189 [.osl 2 0 4 3,.fn (.func 152) [] []]]
  |.c9 x,a,H=>a=.tup [.agg [.osl 2 0 6 3,.fn (.func 152) [] []],.bool true]/\H=[.cells 52 (Fact.c b),.cells 3 [I d],.rowr 199 3 [[.ptr 0 47,I 1,I 1048576],[.ptr 0 48,I 1,I 2],[.ptr 0 49,I 1,I 5],[.ptr 0 50,I x.1,I x.2.1],[.ptr 0 51,I x.2.2.1,I x.2.2.2.1],[.ptr 0 52,I x.2.2.2.2.1,I x.2.2.2.2.2]],.cells 189 [.osl 2 0 6 3,.fn (.func 152) [] []]]
  |.c10 x,a,H=>a=.tup [.agg [.osl 2 0 2 3,.fn (.func 152) [] []],.bool true]/\H=[.cells 52 (Fact.c b),.cells 3 [I d],.rowr 199 3 [[.ptr 0 53,I 1,I 1048576],[.ptr 1 0,I 0,I 1]],.cells 189 [.osl 2 0 2 3,.fn (.func 152) [] []]]
  |.c11 x,a,H=>a=.tup [.agg [.nils,.fn (.func 152) [] []],.bool true]/\H=[.cells 52 (Fact.c b),.cells 3 [I d],.cells 189 [.nils,.fn (.func 152) [] []]]
  |.c12 x,a,H=>a=.tup [.agg [.osl 2 0 2 3,.fn (.func 152) [] []],.bool true]/\H=[.cells 52 (Fact.c b),.cells 3 [I d],.rowr 199 3 [[.ptr 0 55,I 0,I 31],[.ptr 0 56,I 1,I 1048576]],.cells 189 [.osl 2 0 2 3,.fn (.func 152) [] []]]
  |.c13 x,a,H=>a=.tup [.agg [.nils,.nilf],.bool false]/\H=[.cells 52 (Fact.c b),.cells 3 [I d],.cells 189 [.nils,.nilf]]
def F_x(n:Nat)(a:Fact)(d:Int):Option U_facts_open_rxk:=
  (bif (a.Kind==1)then some (U_facts_open_rxk.c0 ())else(bif (a.Kind==2)then some (U_facts_open_rxk.c1 ())else(bif (a.Kind==3)then some (U_facts_open_rxk.c2 ())else(bif (a.Kind==4)then some (U_facts_open_rxk.c3 ())else(bif (a.Kind==5)then some (U_facts_open_rxk.c4 ())else(bif (a.Kind==6)then some (U_facts_open_rxk.c5 ())else(bif (a.Kind==7)then some (U_facts_open_rxk.c6 ())else(bif (a.Kind==8)then some (U_facts_open_rxk.c7 ())else(bif (a.Kind==9)then some (U_facts_open_rxk.c8 ())else(bif (a.Kind==10)then((bif (a.Ruling.Kind==1)then some (a.Ruling.Kind==1)else some (a.Ruling.Kind==2)):Option Bool).bind fun c=>((bif c then some ({least:=0,most:=0:facts_scope},{least:=0,most:=0:facts_scope},{least:=0,most:=0:facts_scope})else(bif (a.Ruling.Kind==3)then some ({least:=1,most:=9999:facts_scope},{least:=0,most:=255:facts_scope},{least:=1,most:=1099511627776:facts_scope})else(bif (a.Ruling.Kind==4)then some ({least:=1,most:=9999:facts_scope},{least:=0,most:=255:facts_scope},{least:=1,most:=64:facts_scope})else some ({least:=1,most:=9999:facts_scope},{least:=0,most:=255:facts_scope},{least:=0,most:=0:facts_scope})))):Option (facts_scope×facts_scope×facts_scope)).bind fun b=>some (U_facts_open_rxk.c9 (b.1.least,b.1.most,b.2.1.least,b.2.1.most,b.2.2.least,b.2.2.most))else(bif (a.Kind==11)then some (U_facts_open_rxk.c10 ())else(bif (a.Kind==12)then some (U_facts_open_rxk.c11 ())else(bif (a.Kind==13)then some (U_facts_open_rxk.c12 ())else some (U_facts_open_rxk.c13 ()))))))))))))))
theorem k_x(n:Nat)(b:Fact)(d:Int)(r:U_facts_open_rxk)(h:F_x n b d=some r):
    C prog 104 [.ptr 0 0,.ptr 1 0] [.cells 52 (Fact.c b),.cells 3 [I d]] (Q_facts_open_rxk b d r):=by
 refine Qb func104 Z Z Z ?_
 refine G0 22 Z (Cn Z h (fun u h=>?_) (fun u h=>?_))
 ·refine Gc 9 Z (DSs 40 Z (D 40 Z (DS.done Z ?_)))
  refine vH (Yq (xs:=[.tmp 32,.tmp 37,.tmp 42,.tmp 47,.tmp 52,.tmp 57,.tmp 62,.tmp 67]) YU Z Z Z Z Z ⟨Z,Z,Z,Z,Z,Z,Z,Z,trivial⟩ Z) ?_
  refine FE Z (Go 8 Z ?_)
  obtain rfl:=Oi h
  exact Rx [0,1,3,2] [4,5] Z (QM Z Z (QhI.cons (Qp isAgg189 sizeOf189 Z Z Z) (QhI.cons Qct.tmp QhI.nil))) ⟨Z,Z⟩
 refine Gc 6 Z (Cn Z h (fun w h=>?_) (fun w h=>?_))
 ·refine Gc 9 Z (DSs 20 Z (D 20 Z (DS.done Z ?_)))
  refine vH (Yq (xs:=[.tmp 79,.tmp 84,.tmp 89,.tmp 94]) YU Z Z Z Z Z ⟨Z,Z,Z,Z,trivial⟩ Z) ?_
  refine FE Z (Go 8 Z ?_)
  obtain rfl:=Oi h
  exact Rx [0,1,3,2] [4,5] Z (QM Z Z (QhI.cons (Qp isAgg189 sizeOf189 Z Z Z) (QhI.cons Qct.tmp QhI.nil))) ⟨Z,Z⟩
 refine Gc 6 Z (Cn Z h (fun x h=>?_) (fun x h=>?_))
 ·refine Gc 9 Z (DSs 25 Z (D 25 Z (DS.done Z ?_)))
  refine vH (Yq (xs:=[.tmp 106,.tmp 111,.tmp 116,.tmp 121,.tmp 126]) YU Z Z Z Z Z ⟨Z,Z,Z,Z,Z,trivial⟩ Z) ?_
  refine FE Z (Go 8 Z ?_)
  obtain rfl:=Oi h
  exact Rx [0,1,3,2] [4,5] Z (QM Z Z (QhI.cons (Qp isAgg189 sizeOf189 Z Z Z) (QhI.cons Qct.tmp QhI.nil))) ⟨Z,Z⟩
 refine Gc 6 Z (Cn Z h (fun y h=>?_) (fun y h=>?_))
 ·refine Gc 10 Z (DAs 42 40 [0,0,0,0,0,0,0,0,0,0,0,0,0,0,0,0,0,0,0,0,0,0,0,0,0,0,0,0,0,0,0,0,0,0,0,0,0,0,0,0,1,3] (by kernel_rfl) (Da 40 Z ?_))
  refine QfX (Yq (xs:=[.tmp 138,.tmp 143,.tmp 148,.tmp 153,.tmp 158,.tmp 163,.tmp 168,.tmp 173]) YU Z Z Z Z Z ⟨Z,Z,Z,Z,Z,Z,Z,Z,trivial⟩ Z) Z Z (Db 1 Z (DB.done Z (Go 8 Z ?_)))
  obtain rfl:=Oi h
  exact Rx [0,1,4,3,2] [4,5] Z (QM Z Z (QhI.cons (Qp isAgg189 sizeOf189 Z Z Z) (QhI.cons Qct.tmp QhI.nil))) ⟨Z,Z⟩
 refine Gc 6 Z (Cn Z h (fun z h=>?_) (fun z h=>?_))
 ·refine Gc 10 Z (DAs 22 20 [0,0,0,0,0,0,0,0,0,0,0,0,0,0,0,0,0,0,0,0,1,3] (by kernel_rfl) (Da 20 Z ?_))
  refine QfX (Yq (xs:=[.tmp 186,.tmp 191,.tmp 196,.tmp 201]) YU Z Z Z Z Z ⟨Z,Z,Z,Z,trivial⟩ Z) Z Z (Db 1 Z (DB.done Z (Go 8 Z ?_)))
  obtain rfl:=Oi h
  exact Rx [0,1,4,3,2] [4,5] Z (QM Z Z (QhI.cons (Qp isAgg189 sizeOf189 Z Z Z) (QhI.cons Qct.tmp QhI.nil))) ⟨Z,Z⟩
 refine Gc 6 Z (Cn Z h (fun B h=>?_) (fun B h=>?_))
 ·refine Gc 10 Z (DAs 22 20 [0,0,0,0,0,0,0,0,0,0,0,0,0,0,0,0,0,0,0,0,1,3] (by kernel_rfl) (Da 20 Z ?_))
  refine QfX (Yq (xs:=[.tmp 214,.tmp 219,.tmp 224,.tmp 229]) YU Z Z Z Z Z ⟨Z,Z,Z,Z,trivial⟩ Z) Z Z (Db 1 Z (DB.done Z (Go 8 Z ?_)))
  obtain rfl:=Oi h
  exact Rx [0,1,4,3,2] [4,5] Z (QM Z Z (QhI.cons (Qp isAgg189 sizeOf189 Z Z Z) (QhI.cons Qct.tmp QhI.nil))) ⟨Z,Z⟩
 refine Gc 6 Z (Cn Z h (fun E h=>?_) (fun E h=>?_))
 ·refine Gc 10 Z (DAs 12 10 [0,0,0,0,0,0,0,0,0,0,1,3] (by kernel_rfl) (Da 10 Z ?_))
  refine QfX (Yq (xs:=[.tmp 242,.tmp 247]) YU Z Z Z Z Z ⟨Z,Z,trivial⟩ Z) Z Z (Db 1 Z (DB.done Z (Go 8 Z ?_)))
  obtain rfl:=Oi h
  exact Rx [0,1,4,3,2] [4,5] Z (QM Z Z (QhI.cons (Qp isAgg189 sizeOf189 Z Z Z) (QhI.cons Qct.tmp QhI.nil))) ⟨Z,Z⟩
 refine Gc 6 Z (Cn Z h (fun F h=>?_) (fun F h=>?_))
 ·refine Gc 9 Z (DSs 20 Z (D 20 Z (DS.done Z ?_)))
  refine vH (Yq (xs:=[.tmp 260,.tmp 265,.tmp 270,.tmp 275]) YU Z Z Z Z Z ⟨Z,Z,Z,Z,trivial⟩ Z) ?_
  refine FE Z (Go 8 Z ?_)
  obtain rfl:=Oi h
  exact Rx [0,1,3,2] [4,5] Z (QM Z Z (QhI.cons (Qp isAgg189 sizeOf189 Z Z Z) (QhI.cons Qct.tmp QhI.nil))) ⟨Z,Z⟩
 refine Gc 6 Z (Cn Z h (fun G h=>?_) (fun G h=>?_))
 ·refine Gc 9 Z (DSs 20 Z (D 20 Z (DS.done Z ?_)))
  refine vH (Yq (xs:=[.tmp 287,.tmp 292,.tmp 297,.tmp 302]) YU Z Z Z Z Z ⟨Z,Z,Z,Z,trivial⟩ Z) ?_
  refine FE Z (Go 8 Z ?_)
  obtain rfl:=Oi h
  exact Rx [0,1,3,2] [4,5] Z (QM Z Z (QhI.cons (Qp isAgg189 sizeOf189 Z Z Z) (QhI.cons Qct.tmp QhI.nil))) ⟨Z,Z⟩
 refine Gc 6 Z (Cn Z h (fun j h=>?_) (fun j h=>?_))
 ·refine Gc 9 Z ?_
  refine Qbt 8 3 [310,311,312,16,17,18,1000006,1000007] [false,false,false,true,true,true,true,true] [[],[],[],[],[],[],[3,4,5],[3,4,5,6]] [[],[3],[4],[5],[3,4],[3,5],[4,5],[3,4,5],[3,4,5,6],[3,4,5,6,7]] [[(0,0),(1,1),(2,2),(3,3),(4,4),(5,5),(6,6),(7,7),(8,8),(9,9)],[(0,0),(1,1),(2,2),(3,3),(4,4),(5,5),(6,6),(7,7),(8,8),(9,9)],[(0,0),(1,1),(2,2),(3,3),(4,4),(5,5),(6,6),(7,7),(8,8),(9,9)],[(0,1),(2,4),(3,5),(6,7)],[(0,2),(1,4),(3,6),(5,7)],[(0,3),(1,5),(2,6),(4,7)],[(7,8)],[(8,9)]] [.agg [I 1,I 9999],.agg [I 0,I 255],.agg [I 0,I 0],.ptr 3 0,.ptr 4 0,.ptr 5 0,.any,.any] [[.cells 52 (Fact.c b),.cells 3 [I d],.cells 189 [.nils,.nilf],.dead,.dead,.dead],[.cells 52 (Fact.c b),.cells 3 [I d],.cells 189 [.nils,.nilf],.cells 197 [I 0,I 0],.dead,.dead],[.cells 52 (Fact.c b),.cells 3 [I d],.cells 189 [.nils,.nilf],.dead,.cells 197 [I 0,I 0],.dead],[.cells 52 (Fact.c b),.cells 3 [I d],.cells 189 [.nils,.nilf],.dead,.dead,.cells 197 [I 0,I 0]],[.cells 52 (Fact.c b),.cells 3 [I d],.cells 189 [.nils,.nilf],.cells 197 [I 0,I 0],.cells 197 [I 0,I 0],.dead],[.cells 52 (Fact.c b),.cells 3 [I d],.cells 189 [.nils,.nilf],.cells 197 [I 0,I 0],.dead,.cells 197 [I 0,I 0]],[.cells 52 (Fact.c b),.cells 3 [I d],.cells 189 [.nils,.nilf],.dead,.cells 197 [I 0,I 0],.cells 197 [I 0,I 0]],[.cells 52 (Fact.c b),.cells 3 [I d],.cells 189 [.nils,.nilf],.cells 197 [I 0,I 0],.cells 197 [I 0,I 0],.cells 197 [I 0,I 0]],[.cells 52 (Fact.c b),.cells 3 [I d],.cells 189 [.nils,.nilf],.cells 197 [I 1,I 9999],.cells 197 [I 0,I 0],.cells 197 [I 0,I 0]],[.cells 52 (Fact.c b),.cells 3 [I d],.cells 189 [.nils,.nilf],.cells 197 [I 1,I 9999],.cells 197 [I 0,I 255],.cells 197 [I 0,I 0]]] ([.cells 52 (Fact.c b),.cells 3 [I d],.cells 189 [.nils,.nilf],.cells 197 [I 1,I 9999],.cells 197 [I 0,I 255],.cells 197 [I 0,I 0]]) draws Z Z Z Z Z Z Z ?_ Z ?_
  ·refine QfT.cons (Qd (v0 Z Z) (Qd (v0 Z Z) (Qd (v0 Z Z) (Qd (v0 Z Z) (Qd (v0 Z Z) (Qd (v0 Z Z) (Qd (v0 Z Z) (Qd (v0 Z Z) (Qd (v0 Z Z) (Qd (v0 Z Z) (Qo))))))))))) (QfT.cons (Qd (v0 Z Z) (Qd (v0 Z Z) (Qd (v0 Z Z) (Qd (v0 Z Z) (Qd (v0 Z Z) (Qd (v0 Z Z) (Qd (v0 Z Z) (Qd (v0 Z Z) (Qd (v0 Z Z) (Qd (v0 Z Z) (Qo))))))))))) (QfT.cons (Qd (v0 Z Z) (Qd (v0 Z Z) (Qd (v0 Z Z) (Qd (v0 Z Z) (Qd (v0 Z Z) (Qd (v0 Z Z) (Qd (v0 Z Z) (Qd (v0 Z Z) (Qd (v0 Z Z) (Qd (v0 Z Z) (Qo))))))))))) (QfT.cons ?_ (QfT.cons ?_ (QfT.cons ?_ (QfT.cons ?_ (QfT.cons ?_ (QfT.nil))))))))
   ·refine Qd ?_ (Qd ?_ (Qd ?_ (Qd ?_ (Qo))))
    ·exact Y8.alloc _ 16 197 3 _ Z Z Z Z Z Z Z (OpZ.alloc (v:=(.agg [I 0,I 0])) zeroValue197 (zrC Z)) Z
    ·exact Y8.alloc _ 16 197 3 _ Z Z Z Z Z Z Z (OpZ.alloc (v:=(.agg [I 0,I 0])) zeroValue197 (zrC Z)) Z
    ·exact Y8.alloc _ 16 197 3 _ Z Z Z Z Z Z Z (OpZ.alloc (v:=(.agg [I 0,I 0])) zeroValue197 (zrC Z)) Z
    ·exact Y8.alloc _ 16 197 3 _ Z Z Z Z Z Z Z (OpZ.alloc (v:=(.agg [I 0,I 0])) zeroValue197 (zrC Z)) Z
   ·refine Qd ?_ (Qd ?_ (Qd ?_ (Qd ?_ (Qo))))
    ·exact Y8.alloc _ 17 197 4 _ Z Z Z Z Z Z Z (OpZ.alloc (v:=(.agg [I 0,I 0])) zeroValue197 (zrC Z)) Z
    ·exact Y8.alloc _ 17 197 4 _ Z Z Z Z Z Z Z (OpZ.alloc (v:=(.agg [I 0,I 0])) zeroValue197 (zrC Z)) Z
    ·exact Y8.alloc _ 17 197 4 _ Z Z Z Z Z Z Z (OpZ.alloc (v:=(.agg [I 0,I 0])) zeroValue197 (zrC Z)) Z
    ·exact Y8.alloc _ 17 197 4 _ Z Z Z Z Z Z Z (OpZ.alloc (v:=(.agg [I 0,I 0])) zeroValue197 (zrC Z)) Z
   ·refine Qd ?_ (Qd ?_ (Qd ?_ (Qd ?_ (Qo))))
    ·exact Y8.alloc _ 18 197 5 _ Z Z Z Z Z Z Z (OpZ.alloc (v:=(.agg [I 0,I 0])) zeroValue197 (zrC Z)) Z
    ·exact Y8.alloc _ 18 197 5 _ Z Z Z Z Z Z Z (OpZ.alloc (v:=(.agg [I 0,I 0])) zeroValue197 (zrC Z)) Z
    ·exact Y8.alloc _ 18 197 5 _ Z Z Z Z Z Z Z (OpZ.alloc (v:=(.agg [I 0,I 0])) zeroValue197 (zrC Z)) Z
    ·exact Y8.alloc _ 18 197 5 _ Z Z Z Z Z Z Z (OpZ.alloc (v:=(.agg [I 0,I 0])) zeroValue197 (zrC Z)) Z
   ·refine Qd ?_ (Qo)
    ·refine Om2 Z (sD 3 (sD 0 sN)) ?_
     refine vU (OpU.store Z Z Z sizeOf197 Z Z Z Z Z Z Z) ?_
     exact FE Z Wp
   ·refine Qd ?_ (Qo)
    ·refine Om2 Z (sD 4 (sD 1 sN)) ?_
     refine vU (OpU.store Z Z Z sizeOf197 Z Z Z Z Z Z Z) ?_
     exact FE Z Wp
  refine Go 20 Z (Bd h fun g e h=>?_)
  refine Ct g [0,1,2,3,4,5] [4,15,16,17,18,316] (fun g=>[(317,.bool g)]) (fun _=>[]) (fun _=>rfl) ?_ (fun env H i=>?_)
  ·refine G0 0 Z (Cn Z e (fun k e=>?_) (fun k e=>?_))
   ·exact Gc 1 Z (Cl e [0,1,2,3,4,5])
   exact Gc 4 Z (Cl e [0,1,2,3,4,5])
  refine Gx 1 Z (TC.le i (Bd h fun f a h=>?_))
  refine Ct f [0,1,2,3,4,5] [4,15,16,17,18] (fun _=>[]) (fun f=>[(3,.cells 197 (facts_scope.c f.1)),(4,.cells 197 (facts_scope.c f.2.1)),(5,.cells 197 (facts_scope.c f.2.2))]) (fun _=>rfl) ?_ (fun env H i=>?_)
  ·refine G0 0 Z (Cn Z a (fun l a=>?_) (fun l a=>?_))
   ·exact Gc 6 Z (Cl a [0,1,2,3,4,5])
   refine Gc 6 Z (Cn Z a (fun m a=>?_) (fun m a=>?_))
   ·exact Gc 4 Z (Cl a [0,1,2,3,4,5])
   refine Gc 6 Z (Cn Z a (fun p a=>?_) (fun p a=>?_))
   ·exact Gc 4 Z (Cl a [0,1,2,3,4,5])
   exact Gc 1 Z (Cl a [0,1,2,3,4,5])
  refine Gx 2 Z (TC.le i (Gc 1 Z (DSs 30 Z (D 30 Z (DS.done Z ?_)))))
  refine vH (Yq (xs:=[.tmp 332,.tmp 337,.tmp 342,.tmp 347,.tmp 352,.tmp 357]) YU Z Z Z Z Z ⟨Z,Z,Z,Z,Z,Z,trivial⟩ Z) ?_
  refine FE Z (Go 8 Z ?_)
  obtain rfl:=Oi h
  exact Rx [0,1,6,2] [4,5] Z (QM Z Z (QhI.cons (Qp isAgg189 sizeOf189 Z Z Z) (QhI.cons Qct.tmp QhI.nil))) ⟨Z,Z⟩
 refine Gc 6 Z (Cn Z h (fun q h=>?_) (fun q h=>?_))
 ·refine Gc 1 Z (DSs 9 Z (D 9 Z (DS.done Z ?_)))
  refine vH (Yq (xs:=[.tmp 367,.tmp 370]) YU Z Z Z Z Z ⟨Z,Z,trivial⟩ Z) ?_
  refine FE Z (Go 8 Z ?_)
  obtain rfl:=Oi h
  exact Rx [0,1,3,2] [4,5] Z (QM Z Z (QhI.cons (Qp isAgg189 sizeOf189 Z Z Z) (QhI.cons Qct.tmp QhI.nil))) ⟨Z,Z⟩
 refine Gc 6 Z (Cn Z h (fun s h=>?_) (fun s h=>?_))
 ·refine Gc 10 Z ?_
  obtain rfl:=Oi h
  exact Rx [0,1,2] [4,5] Z (QM Z Z (QhI.cons (Qp isAgg189 sizeOf189 Z Z Z) (QhI.cons Qct.tmp QhI.nil))) ⟨Z,Z⟩
 refine Gc 6 Z (Cn Z h (fun t h=>?_) (fun t h=>?_))
 ·refine Gc 1 Z (DSs 12 Z (D 12 Z (DS.done Z ?_)))
  refine vH (Yq (xs:=[.tmp 383,.tmp 389]) YU Z Z Z Z Z ⟨Z,Z,trivial⟩ Z) ?_
  refine FE Z (Go 8 Z ?_)
  obtain rfl:=Oi h
  exact Rx [0,1,3,2] [4,5] Z (QM Z Z (QhI.cons (Qp isAgg189 sizeOf189 Z Z Z) (QhI.cons Qct.tmp QhI.nil))) ⟨Z,Z⟩
 refine Gc 11 Z ?_
 obtain rfl:=Oi h
 exact Rx [0,1,2] [4,5] Z (QM Z Z (QhI.cons (Qp isAgg189 sizeOf189 Z Z Z) (QhI.cons Qct.tmp QhI.nil))) ⟨Z,Z⟩
def F_b(n:Nat):Option Unit:=
  some ()
theorem k_b(n:Nat)(r:Unit)(h:F_b n=some r):
    Csm prog 152 [] [] (fun _=>.bool true) r:=by
 refine Qb func152 Z Z Z ?_
 exact G0 11 Z (Rt h 0 [])
def F_de(n:Nat)(a:Fact):Option Unit:=
  some ()
theorem k_de(n:Nat)(a:Fact)(r:Unit)(h:F_de n a=some r):
    Csm prog 153 [.ptr 0 0] [.cells 234 [.ptr 1 21],.cells 52 (Fact.c a)] (fun _=>.bool (decide (a.Sync.Min<=a.Sync.Max))) r:=by
 refine Qb func153 Z Z Z ?_
 exact G0 6 Z (DSs 8 Z (D 8 Z (DS.done Z (Go 5 Z (Rt h 1 [0,1])))))
def F_co(n:Nat)(a:Fact):Option Unit:=
  some ()
theorem k_co(n:Nat)(a:Fact)(r:Unit)(h:F_co n a=some r):
    Csm prog 154 [.ptr 0 0] [.cells 235 [.ptr 1 29],.cells 52 (Fact.c a)] (fun _=>.bool (decide (a.Hand.Lo<=a.Hand.Hi))) r:=by
 refine Qb func154 Z Z Z ?_
 exact G0 6 Z (DSs 8 Z (D 8 Z (DS.done Z (Go 5 Z (Rt h 1 [0,1])))))
def F_eo(n:Nat)(a:Fact):Option Unit:=
  some ()
theorem k_eo(n:Nat)(a:Fact)(r:Unit)(h:F_eo n a=some r):
    Csm prog 155 [.ptr 0 0] [.cells 236 [.ptr 1 33],.cells 52 (Fact.c a)] (fun _=>.bool (decide (a.Silence.Lo<=a.Silence.Hi))) r:=by
 refine Qb func155 Z Z Z ?_
 exact G0 6 Z (DSs 8 Z (D 8 Z (DS.done Z (Go 5 Z (Rt h 1 [0,1])))))
def F_ek(n:Nat)(a:Fact):Option Unit:=
  some ()
theorem k_ek(n:Nat)(a:Fact)(r:Unit)(h:F_ek n a=some r):
    Csm prog 156 [.ptr 0 0] [.cells 237 [.ptr 1 37],.cells 52 (Fact.c a)] (fun _=>.bool (decide (a.Pair.A<a.Pair.B))) r:=by
 refine Qb func156 Z Z Z ?_
 exact G0 6 Z (DSs 8 Z (D 8 Z (DS.done Z (Go 5 Z (Rt h 1 [0,1])))))
def F_z(n:Nat)(a:Fact):Option Unit:=
  some ()
theorem k_z(n:Nat)(a:Fact)(r:Unit)(h:F_z n a=some r):
    C prog 106 [.ptr 0 0] [.cells 52 (Fact.c a)] (RQ (fun _=>.osl 1 0 4 3) (fun _=>[.cells 52 (Fact.c a),.rowr 199 3 [[.ptr 0 3,I 1,I 13],[.ptr 0 0,I 0,I 31],[.ptr 0 1,I 1,I 1048576],[.ptr 0 2,I 0,I 1099511627776]]]) r):=by
 refine Qb func106 Z Z Z ?_
 refine G0 6 Z (DSs 20 Z (D 20 Z (DS.done Z ?_)))
 refine vH (Yq (xs:=[.tmp 7,.tmp 12,.tmp 17,.tmp 22]) YU Z Z Z Z Z ⟨Z,Z,Z,Z,trivial⟩ Z) ?_
 exact FE Z (Go 4 Z (Rt h 2 [0,1]))
def F_au(n:Nat)(b:Fact)(g:Int)(c:Fact):Option (List Ent):=
  ((F_x n ({b with Kind:=c.Kind:Fact}) g).bind fun d=>(match d with|.c0 h=>(some ([⟨false,4,1,9999⟩,⟨false,5,0,7⟩,⟨false,6,0,31⟩,⟨false,7,(-1099511627776),1099511627776⟩,⟨false,8,0,120⟩,⟨false,9,0,1048576⟩,⟨false,10,0,9999⟩,⟨false,11,0,1048576⟩]:List Ent))|.c1 i=>(some ([⟨false,12,0,39⟩,⟨false,13,0,255⟩,⟨false,14,0,1048576⟩,⟨false,15,(-1099511627776),1099511627776⟩]:List Ent))|.c2 j=>(some ([⟨false,16,0,39⟩,⟨false,17,0,255⟩,⟨false,18,(-1099511627776),1099511627776⟩,⟨false,19,(-1099511627776),1099511627776⟩,⟨false,20,0,1099511627776⟩]:List Ent))|.c3 k=>(some ([⟨false,21,0,39⟩,⟨false,22,0,255⟩,⟨false,23,(-1099511627776),1099511627776⟩,⟨false,24,0,39⟩,⟨false,25,0,255⟩,⟨false,26,(-1099511627776),1099511627776⟩,⟨false,27,(-1099511627776),1099511627776⟩,⟨false,28,(-1099511627776),1099511627776⟩]:List Ent))|.c4 l=>(some ([⟨false,29,1,9999⟩,⟨false,30,0,255⟩,⟨false,31,(-1099511627776),1099511627776⟩,⟨false,32,(-1099511627776),1099511627776⟩]:List Ent))|.c5 m=>(some ([⟨false,33,0,39⟩,⟨false,34,0,255⟩,⟨false,35,(-1099511627776),1099511627776⟩,⟨false,36,(-1099511627776),1099511627776⟩]:List Ent))|.c6 p=>(some ([⟨false,37,1,9999⟩,⟨false,38,1,9999⟩]:List Ent))|.c7 q=>(some ([⟨false,39,1,1048576⟩,⟨false,40,1,9999⟩,⟨false,41,0,31⟩,⟨false,42,0,255⟩]:List Ent))|.c8 r=>(some ([⟨false,43,1,1048576⟩,⟨false,44,0,9999⟩,⟨false,45,0,1125899906842624⟩,⟨false,46,0,1⟩]:List Ent))|.c9 a=>(some ([⟨false,47,1,1048576⟩,⟨false,48,1,2⟩,⟨false,49,1,5⟩,⟨false,50,a.1,a.2.1⟩,⟨false,51,a.2.2.1,a.2.2.2.1⟩,⟨false,52,a.2.2.2.2.1,a.2.2.2.2.2⟩]:List Ent))|.c10 s=>(some ([⟨false,53,1,1048576⟩,⟨true,0,0,1⟩]:List Ent))|.c11 t=>(some [])|.c12 u=>(some ([⟨false,55,0,31⟩,⟨false,56,1,1048576⟩]:List Ent))|.c13 w=>(some [])):Option (List Ent)).bind fun e=>(F_z n ({b with Kind:=c.Kind:Fact})).bind fun x=>(app ([⟨false,3,1,13⟩,⟨false,0,0,31⟩,⟨false,1,1,1048576⟩,⟨false,2,0,1099511627776⟩]:List Ent) e).bind fun f=>some f
theorem k_au(n:Nat)(f:Fact)(g:Int)(e:Fact)(r:List Ent)(h:F_au n f g e=some r):
    C prog 105 [.ptr 0 0,.ptr 1 0,.ptr 2 0] [.cells 52 (Fact.c f),.cells 3 [I g],.cells 52 (Fact.c e)] (RQ (fun r=>.osl 3 0 r.length 3) (fun r=>[.cells 52 (Fact.c ({f with Kind:=e.Kind:Fact})),.cells 3 [I g],.cells 52 (Fact.c e),.ents 199 0 1 r]) r):=by
 refine Qb func105 Z Z Z ?_
 refine G0 16 Z (Bd h fun d a h=>?_)
 refine Ct d [0,1,2,0,0] [0] (fun _=>[(6,.ptr 3 0)]) (fun d=>[(3,.cells 189 [.osl 4 0 d.length 3,.any]),(4,.ents 199 0 1 d)]) (fun _=>rfl) ?_ (fun env H q=>?_)
 ·refine G0 3 Z (Bd a fun s k a=>?_)
  refine Qz [0,1] (OpC.fn call104 Z Z Z) (k_x _ _ _ _ k) ?_
  intro ra rH b
  rcases s with u|w|y|z|B|E|F|G|J|L|M|N|O|P
  ·obtain⟨rfl,rfl⟩:=b
   refine FE Z (TE 3 0 1 Z Z (FE Z (Go 7 Z ?_)))
   cases a
   refine Q7 ?_
   refine Le.trans (QC (i:=5) (m:=1) Z) ?_
   exact Lr [0,1,2,5,3]
  ·obtain⟨rfl,rfl⟩:=b
   refine FE Z (TE 3 0 1 Z Z (FE Z (Go 7 Z ?_)))
   cases a
   refine Q7 ?_
   refine Le.trans (QC (i:=5) (m:=1) Z) ?_
   exact Lr [0,1,2,5,3]
  ·obtain⟨rfl,rfl⟩:=b
   refine FE Z (TE 3 0 1 Z Z (FE Z (Go 7 Z ?_)))
   cases a
   refine Q7 ?_
   refine Le.trans (QC (i:=5) (m:=1) Z) ?_
   exact Lr [0,1,2,5,3]
  ·obtain⟨rfl,rfl⟩:=b
   refine FE Z (TE 3 0 1 Z Z (FE Z (Go 7 Z ?_)))
   cases a
   refine Q7 ?_
   refine Le.trans (QC (i:=6) (m:=1) Z) ?_
   exact Lr [0,1,2,6,3]
  ·obtain⟨rfl,rfl⟩:=b
   refine FE Z (TE 3 0 1 Z Z (FE Z (Go 7 Z ?_)))
   cases a
   refine Q7 ?_
   refine Le.trans (QC (i:=6) (m:=1) Z) ?_
   exact Lr [0,1,2,6,3]
  ·obtain⟨rfl,rfl⟩:=b
   refine FE Z (TE 3 0 1 Z Z (FE Z (Go 7 Z ?_)))
   cases a
   refine Q7 ?_
   refine Le.trans (QC (i:=6) (m:=1) Z) ?_
   exact Lr [0,1,2,6,3]
  ·obtain⟨rfl,rfl⟩:=b
   refine FE Z (TE 3 0 1 Z Z (FE Z (Go 7 Z ?_)))
   cases a
   refine Q7 ?_
   refine Le.trans (QC (i:=6) (m:=1) Z) ?_
   exact Lr [0,1,2,6,3]
  ·obtain⟨rfl,rfl⟩:=b
   refine FE Z (TE 3 0 1 Z Z (FE Z (Go 7 Z ?_)))
   cases a
   refine Q7 ?_
   refine Le.trans (QC (i:=5) (m:=1) Z) ?_
   exact Lr [0,1,2,5,3]
  ·obtain⟨rfl,rfl⟩:=b
   refine FE Z (TE 3 0 1 Z Z (FE Z (Go 7 Z ?_)))
   cases a
   refine Q7 ?_
   refine Le.trans (QC (i:=5) (m:=1) Z) ?_
   exact Lr [0,1,2,5,3]
  ·obtain⟨rfl,rfl⟩:=b
   refine FE Z (TE 3 0 1 Z Z (FE Z (Go 7 Z ?_)))
   cases a
   refine Q7 ?_
   refine Le.trans (QC (i:=5) (m:=1) Z) ?_
   exact Lr [0,1,2,5,3]
  ·obtain⟨rfl,rfl⟩:=b
   refine FE Z (TE 3 0 1 Z Z (FE Z (Go 7 Z ?_)))
   cases a
   refine Q7 ?_
   refine Le.trans (QC (i:=5) (m:=1) Z) ?_
   exact Lr [0,1,2,5,3]
  ·obtain⟨rfl,rfl⟩:=b
   refine FE Z (Go 7 Z ?_)
   cases a
   refine Q7 ?_
   refine Le.trans (QC (i:=4) (m:=1) Z) ?_
   refine Le.trans (Le.phantomE (i:=4) (m:=0) (t:=199) (b1:=0) (b2:=1) Z Z Z) ?_
   exact Lr [0,1,2,4,5]
  ·obtain⟨rfl,rfl⟩:=b
   refine FE Z (TE 3 0 1 Z Z (FE Z (Go 7 Z ?_)))
   cases a
   refine Q7 ?_
   refine Le.trans (QC (i:=5) (m:=1) Z) ?_
   exact Lr [0,1,2,5,3]
  ·obtain⟨rfl,rfl⟩:=b
   refine FE Z (Go 7 Z ?_)
   cases a
   refine Q7 ?_
   refine Le.trans (QC (i:=4) (m:=1) Z) ?_
   refine Le.trans (Le.phantomE (i:=4) (m:=0) (t:=199) (b1:=0) (b2:=1) Z Z Z) ?_
   exact Lr [0,1,2,4,5]
 refine Gx 1 Z (TC.le q (Gc 1 Z (DAs 4 1 [0,1,3,3] (by kernel_rfl) (Da 1 Z ?_))))
 obtain⟨Q,l,h⟩:=bnd h
 refine DA.op (x:=.osl 5 0 4 3) (H1:=[.cells 52 (Fact.c ({f with Kind:=e.Kind:Fact})),.cells 3 [I g],.cells 52 (Fact.c e),.cells 189 [.osl 4 0 d.length 3,.any],.ents 199 0 1 d,.rowr 199 3 [[.ptr 0 3,I 1,I 13],[.ptr 0 0,I 0,I 31],[.ptr 0 1,I 1,I 1048576],[.ptr 0 2,I 0,I 1099511627776]]]) ?_ ?_
 ·refine Qz [0] (OpC.fn call106 Z Z Z) (k_z _ _ _ l) ?_
  rintro _ _ ⟨rfl,rfl⟩
  exact FE Z Wp
 refine Db 1 Z ?_
 refine DB.wo2 (x:=.osl 4 0 d.length 3) (Ld isAgg187 Z Wp) (Ld isAgg187 Z Wp) ?_
 refine DB.done Z (TE 5 0 1 Z Z (FE Z (Bd h fun R p h=>?_)))
 refine vH (Qfi (i:=5) (j:=4) p YU runUnderlying187 Z) ?_
 exact FE Z (Go 4 Z (Rt h 5 [0,1,2,6]))
def F_dl(n:Nat)(e:Fact)(b2:Int)(f:List Ent)(m:List Ent)(a:(List Int)×Fact×Int×Int):Option (Ctl ((List Int)×Fact×Int×Int) (Ctl ((List Int)×Fact×Int) ((List Int)×Bool))):=
  (bif decide (a.2.2.2<(f.length:Int))then(idx f a.2.2.2).bind fun b=>(QeC (Fact.c e) b2 b).bind fun g=>(bif decide (g<b.lo)then some (.done (.done ([],false)))else(QeC (Fact.c e) b2 b).bind fun h=>(bif decide (b.hi<h)then some (.done (.done ([],false)))else(idx m a.2.2.2).bind fun i=>(QeC (Fact.c e) b2 b).bind fun j=>(Qhh Fact.put a.2.1 a.2.2.1 i j).bind fun d=>(QeC (Fact.c e) b2 b).bind fun k=>(app a.1 [k]).bind fun l=>some (.cont (l,d.1,d.2,IntKind.i64.wrap (a.2.2.2+1)))))else some (.done (.cont (a.1,a.2.1,a.2.2.1))))
def F_ci(n:Nat)(a:Fact):Option ((List Int)×Bool):=
  ((bif a.Appeal.Suspends then some 1 else some 0):Option Int).bind fun b2=>((F_x n a b2).bind fun f=>(match f with|.c0 k=>((F_b n).bind fun l=>some (.cont ([⟨false,4,1,9999⟩,⟨false,5,0,7⟩,⟨false,6,0,31⟩,⟨false,7,(-1099511627776),1099511627776⟩,⟨false,8,0,120⟩,⟨false,9,0,1048576⟩,⟨false,10,0,9999⟩,⟨false,11,0,1048576⟩]:List Ent)))|.c1 m=>((F_b n).bind fun p=>some (.cont ([⟨false,12,0,39⟩,⟨false,13,0,255⟩,⟨false,14,0,1048576⟩,⟨false,15,(-1099511627776),1099511627776⟩]:List Ent)))|.c2 q=>((F_b n).bind fun r=>some (.cont ([⟨false,16,0,39⟩,⟨false,17,0,255⟩,⟨false,18,(-1099511627776),1099511627776⟩,⟨false,19,(-1099511627776),1099511627776⟩,⟨false,20,0,1099511627776⟩]:List Ent)))|.c3 s=>((F_de n a).bind fun t=>(bif (!(decide (a.Sync.Min<=a.Sync.Max)))then some (.done ([],false))else some (.cont ([⟨false,21,0,39⟩,⟨false,22,0,255⟩,⟨false,23,(-1099511627776),1099511627776⟩,⟨false,24,0,39⟩,⟨false,25,0,255⟩,⟨false,26,(-1099511627776),1099511627776⟩,⟨false,27,(-1099511627776),1099511627776⟩,⟨false,28,(-1099511627776),1099511627776⟩]:List Ent))))|.c4 u=>((F_co n a).bind fun w=>(bif (!(decide (a.Hand.Lo<=a.Hand.Hi)))then some (.done ([],false))else some (.cont ([⟨false,29,1,9999⟩,⟨false,30,0,255⟩,⟨false,31,(-1099511627776),1099511627776⟩,⟨false,32,(-1099511627776),1099511627776⟩]:List Ent))))|.c5 x=>((F_eo n a).bind fun y=>(bif (!(decide (a.Silence.Lo<=a.Silence.Hi)))then some (.done ([],false))else some (.cont ([⟨false,33,0,39⟩,⟨false,34,0,255⟩,⟨false,35,(-1099511627776),1099511627776⟩,⟨false,36,(-1099511627776),1099511627776⟩]:List Ent))))|.c6 z=>((F_ek n a).bind fun E=>(bif (!(decide (a.Pair.A<a.Pair.B)))then some (.done ([],false))else some (.cont ([⟨false,37,1,9999⟩,⟨false,38,1,9999⟩]:List Ent))))|.c7 F=>((F_b n).bind fun G=>some (.cont ([⟨false,39,1,1048576⟩,⟨false,40,1,9999⟩,⟨false,41,0,31⟩,⟨false,42,0,255⟩]:List Ent)))|.c8 H=>((F_b n).bind fun J=>some (.cont ([⟨false,43,1,1048576⟩,⟨false,44,0,9999⟩,⟨false,45,0,1125899906842624⟩,⟨false,46,0,1⟩]:List Ent)))|.c9 c=>((F_b n).bind fun L=>some (.cont ([⟨false,47,1,1048576⟩,⟨false,48,1,2⟩,⟨false,49,1,5⟩,⟨false,50,c.1,c.2.1⟩,⟨false,51,c.2.2.1,c.2.2.2.1⟩,⟨false,52,c.2.2.2.2.1,c.2.2.2.2.2⟩]:List Ent)))|.c10 M=>((F_b n).bind fun N=>some (.cont ([⟨false,53,1,1048576⟩,⟨true,0,0,1⟩]:List Ent)))|.c11 O=>((F_b n).bind fun P=>some (.cont []))|.c12 Q=>((F_b n).bind fun R=>some (.cont ([⟨false,55,0,31⟩,⟨false,56,1,1048576⟩]:List Ent)))|.c13 T=>(some (.done ([],false)))):Option (Ctl (List Ent) ((List Int)×Bool))).bind fun g=>match g with|.cont d=>((F_z n a).bind fun V=>(app ([⟨false,3,1,13⟩,⟨false,0,0,31⟩,⟨false,1,1,1048576⟩,⟨false,2,0,1099511627776⟩]:List Ent) d).bind fun h=>(F_au n ({z_Fact with Ruling:={z_Ruling with Kind:=a.Ruling.Kind:Ruling}:Fact}) 0 a).bind fun i=>(iter (F_dl n a b2 h i) n ([],({({z_Fact with Ruling:={z_Ruling with Kind:=a.Ruling.Kind:Ruling}:Fact})with Kind:=a.Kind:Fact}),0,0):Option (Ctl ((List Int)×Fact×Int) ((List Int)×Bool))).bind fun j=>match j with|.cont b=>(((bif (a.Kind != 10)then some ({b.2.1 with Ruling:={b.2.1.Ruling with Kind:=0:Ruling}:Fact})else some b.2.1):Option Fact).bind fun e=>some (b.1,(({e with Appeal:={Case:=e.Appeal.Case,Suspends:=(b.2.2==1):Appeal}:Fact})==a)))|.done b=>some b)|.done d=>some d
theorem k_ci(n:Nat)(F:Fact)(r:(List Int)×Bool)(h:F_ci n F=some r):
    C prog 45 [.agg (Fact.c F)] [] (RQ (fun r=>.tup [.osl 0 0 r.1.length 1,.bool r.2]) (fun r=>[.row 3 1 (List.map (Qj .i64) r.1)]) r):=by
 refine Qb func45 Z Z Z ?_
 refine G0 21 Z (Bd h fun b2 M h=>?_)
 refine Ct b2 [0,1] [1,2,4] (fun _=>[]) (fun b2=>[(1,.cells 3 [I b2])]) (fun _=>rfl) ?_ (fun env H B=>?_)
 ·refine G0 0 Z (Cn Z M (fun am M=>?_) (fun am M=>?_))
  ·exact Gc 3 Z (Cl M [0,1])
  exact Gc 1 Z (Cl M [0,1])
 refine Gx 1 Z (TC.le B (Gc 7 Z (Bd h fun an a h=>?_)))
 refine Ct3E (b:=an) (fun y=>[(1,.ptr 0 0),(2,.nils),(5,.ptr 1 0),(6,.ptr 2 0)]) (fun y=>[.cells 52 (Fact.c F),.cells 52 (Fact.c F),.cells 189 [.osl 3 0 y.length 3,.any],.ents 199 1 4 y,.cells 3 [I b2]]) ?_ (fun y env H hb B=>?_)
 ·refine Gc 1 Z (Bd a fun ao aa a=>?_)
  refine Qz [2,1] (OpC.fn call104 Z Z Z) (k_x _ _ _ _ aa) ?_
  intro ra rH w
  rcases ao with bl|bm|bn|bo|bp|bq|br|bs|bt|bu|bv|bw|bx|bz
  ·obtain⟨rfl,rfl⟩:=w
   refine FE Z (TE 3 2 1 Z Z (FE Z (Go 15 Z (Cz [] a (k_b _) Z fun ca aw a=>Go 6 Z ?_))))
   cases a
   refine Qw Z ?_
   refine Le.trans (QC (i:=5) (m:=1) Z) ?_
   exact Lr [0,2,5,3,1]
  ·obtain⟨rfl,rfl⟩:=w
   refine FE Z (TE 3 2 1 Z Z (FE Z (Go 15 Z (Cz [] a (k_b _) Z fun cb ax a=>Go 6 Z ?_))))
   cases a
   refine Qw Z ?_
   refine Le.trans (QC (i:=5) (m:=1) Z) ?_
   exact Lr [0,2,5,3,1]
  ·obtain⟨rfl,rfl⟩:=w
   refine FE Z (TE 3 2 1 Z Z (FE Z (Go 15 Z (Cz [] a (k_b _) Z fun cc ay a=>Go 6 Z ?_))))
   cases a
   refine Qw Z ?_
   refine Le.trans (QC (i:=5) (m:=1) Z) ?_
   exact Lr [0,2,5,3,1]
  ·obtain⟨rfl,rfl⟩:=w
   refine FE Z (TE 3 2 1 Z Z (FE Z (Go 15 Z (Cz [4,2] a (k_de _ _) Z fun cd az a=>Go 4 Z (Cn Z a (fun ab a=>?_) (fun ab a=>?_))))))
   ·refine Gc 7 Z ?_
    cases a
    refine QK (Gx 1 Z ?_)
    obtain rfl:=Oi h
    refine R2 2 3 Z Z ?_
    refine Le.trans (Le.phantom (s:=2) (k:=1) (t:=3) (Nat.le_of_ble_eq_true Z) Z) ?_
    exact Lr [7]
   refine Gc 1 Z ?_
   cases a
   refine Qw Z ?_
   refine Le.trans (QC (i:=6) (m:=1) Z) ?_
   exact Lr [0,2,6,3,1]
  ·obtain⟨rfl,rfl⟩:=w
   refine FE Z (TE 3 2 1 Z Z (FE Z (Go 15 Z (Cz [4,2] a (k_co _ _) Z fun ce ba a=>Go 4 Z (Cn Z a (fun ac a=>?_) (fun ac a=>?_))))))
   ·refine Gc 7 Z ?_
    cases a
    refine QK (Gx 1 Z ?_)
    obtain rfl:=Oi h
    refine R2 2 3 Z Z ?_
    refine Le.trans (Le.phantom (s:=2) (k:=1) (t:=3) (Nat.le_of_ble_eq_true Z) Z) ?_
    exact Lr [7]
   refine Gc 1 Z ?_
   cases a
   refine Qw Z ?_
   refine Le.trans (QC (i:=6) (m:=1) Z) ?_
   exact Lr [0,2,6,3,1]
  ·obtain⟨rfl,rfl⟩:=w
   refine FE Z (TE 3 2 1 Z Z (FE Z (Go 15 Z (Cz [4,2] a (k_eo _ _) Z fun cf bb a=>Go 4 Z (Cn Z a (fun ad a=>?_) (fun ad a=>?_))))))
   ·refine Gc 7 Z ?_
    cases a
    refine QK (Gx 1 Z ?_)
    obtain rfl:=Oi h
    refine R2 2 3 Z Z ?_
    refine Le.trans (Le.phantom (s:=2) (k:=1) (t:=3) (Nat.le_of_ble_eq_true Z) Z) ?_
    exact Lr [7]
   refine Gc 1 Z ?_
   cases a
   refine Qw Z ?_
   refine Le.trans (QC (i:=6) (m:=1) Z) ?_
   exact Lr [0,2,6,3,1]
  ·obtain⟨rfl,rfl⟩:=w
   refine FE Z (TE 3 2 1 Z Z (FE Z (Go 15 Z (Cz [4,2] a (k_ek _ _) Z fun cg bc a=>Go 4 Z (Cn Z a (fun ae a=>?_) (fun ae a=>?_))))))
   ·refine Gc 7 Z ?_
    cases a
    refine QK (Gx 1 Z ?_)
    obtain rfl:=Oi h
    refine R2 2 3 Z Z ?_
    refine Le.trans (Le.phantom (s:=2) (k:=1) (t:=3) (Nat.le_of_ble_eq_true Z) Z) ?_
    exact Lr [7]
   refine Gc 1 Z ?_
   cases a
   refine Qw Z ?_
   refine Le.trans (QC (i:=6) (m:=1) Z) ?_
   exact Lr [0,2,6,3,1]
  ·obtain⟨rfl,rfl⟩:=w
   refine FE Z (TE 3 2 1 Z Z (FE Z (Go 15 Z (Cz [] a (k_b _) Z fun ch bd a=>Go 6 Z ?_))))
   cases a
   refine Qw Z ?_
   refine Le.trans (QC (i:=5) (m:=1) Z) ?_
   exact Lr [0,2,5,3,1]
  ·obtain⟨rfl,rfl⟩:=w
   refine FE Z (TE 3 2 1 Z Z (FE Z (Go 15 Z (Cz [] a (k_b _) Z fun ci be a=>Go 6 Z ?_))))
   cases a
   refine Qw Z ?_
   refine Le.trans (QC (i:=5) (m:=1) Z) ?_
   exact Lr [0,2,5,3,1]
  ·obtain⟨rfl,rfl⟩:=w
   refine FE Z (TE 3 2 1 Z Z (FE Z (Go 15 Z (Cz [] a (k_b _) Z fun cj bf a=>Go 6 Z ?_))))
   cases a
   refine Qw Z ?_
   refine Le.trans (QC (i:=5) (m:=1) Z) ?_
   exact Lr [0,2,5,3,1]
  ·obtain⟨rfl,rfl⟩:=w
   refine FE Z (TE 3 2 1 Z Z (FE Z (Go 15 Z (Cz [] a (k_b _) Z fun ck bg a=>Go 6 Z ?_))))
   cases a
   refine Qw Z ?_
   refine Le.trans (QC (i:=5) (m:=1) Z) ?_
   exact Lr [0,2,5,3,1]
  ·obtain⟨rfl,rfl⟩:=w
   refine FE Z (Go 15 Z (Cz [] a (k_b _) Z fun cl bh a=>Go 6 Z ?_))
   cases a
   refine Qw Z ?_
   refine Le.trans (QC (i:=4) (m:=1) Z) ?_
   refine Le.trans (Le.phantomE (i:=4) (m:=0) (t:=199) (b1:=2) (b2:=1) Z Z Z) ?_
   exact Lr [0,2,4,5,1]
  ·obtain⟨rfl,rfl⟩:=w
   refine FE Z (TE 3 2 1 Z Z (FE Z (Go 15 Z (Cz [] a (k_b _) Z fun cm bi a=>Go 6 Z ?_))))
   cases a
   refine Qw Z ?_
   refine Le.trans (QC (i:=5) (m:=1) Z) ?_
   exact Lr [0,2,5,3,1]
  ·obtain⟨rfl,rfl⟩:=w
   refine FE Z (Go 28 Z ?_)
   cases a
   refine QK (Gx 1 Z ?_)
   obtain rfl:=Oi h
   refine R2 2 3 Z Z ?_
   refine Le.trans (Le.phantom (s:=2) (k:=1) (t:=3) (Nat.le_of_ble_eq_true Z) Z) ?_
   exact Lr [5]
 subst hb
 refine Gx 1 Z (TC.le B (Gc 12 Z (DAs 3 0 [1,3,3] (by kernel_rfl) ?_)))
 obtain⟨cn,af,h⟩:=bnd h
 refine DA.op (x:=.osl 6 0 4 3) (H1:=[.cells 52 (Fact.c F),.cells 52 (Fact.c F),.cells 189 [.osl 3 0 y.length 3,.any],.ents 199 1 4 y,.cells 3 [I b2],.cells 52 (Fact.c z_Fact),.rowr 199 3 [[.ptr 1 3,I 1,I 13],[.ptr 1 0,I 0,I 31],[.ptr 1 1,I 1,I 1048576],[.ptr 1 2,I 0,I 1099511627776]]]) ?_ ?_
 ·refine Qz [1] (OpC.fn call106 Z Z Z) (k_z _ _ _ af) ?_
  rintro _ _ ⟨rfl,rfl⟩
  exact FE Z Wp
 refine Db 1 Z ?_
 refine DB.wo2 (x:=.osl 3 0 y.length 3) (Ld isAgg187 Z Wp) (Ld isAgg187 Z Wp) ?_
 refine DB.done Z (TE 6 1 4 Z Z (FE Z (Bd h fun aq ag h=>?_)))
 refine vH (Qfi (i:=6) (j:=3) ag YU runUnderlying187 Z) ?_
 refine FE Z (Go 22 Z (Cd [5,8,0] h (k_au _ _ _ _) Z fun ar bj h=>FE Z (Go 11 Z (Bd h fun au ah h=>?_))))
 refine CtE (b:=au) [0,1,2,3] [1] (fun g=>[(2,.osl 1 0 g.1.length 1),(7,.ptr 2 0),(10,.ptr 3 0)]) (fun g=>[(1,.row 3 1 (List.map (Qj .i64) g.1)),(2,.cells 52 (Fact.c g.2.1)),(3,.cells 3 [I g.2.2])]) (fun _=>rfl) ?_ (fun g env H av B=>?_)
 ·refine G0 1 Z ?_
  refine Lp [0,0,5,8,9,7,1,4] [1,7,10,11,42,43] (fun l=>[(2,.osl 1 0 l.1.length 1),(44,I l.2.2.2)]) (fun l=>[(1,.row 3 1 (List.map (Qj .i64) l.1)),(2,.cells 52 (Fact.c l.2.1)),(3,.cells 3 [I l.2.2.1]),(4,.ents 199 2 3 ar),(5,.ents 199 6 7 aq)]) ah (fun _=>rfl) ?_ ?_
  ·refine Le.trans (Le.phantom (s:=2) (k:=1) (t:=3) (Nat.le_of_ble_eq_true Z) Z) ?_
   exact Lr [0,10,5,8,9,7,1,4]
  intro l bk d G
  refine G0 6 Z (CnS Z d (fun O d=>?_) (fun O d=>?_))
  ·refine Gc 2 Z (QI d ?_)
   obtain rfl:=Oj G d
   exact Gx 1 Z (Qw Z (Lr [0,1,2,3]))
  refine Gc 7 Z (Bd d fun z he106 d=>?_)
  refine vX (.ptr 5 (Int.toNat l.2.2.2*3)) (QZ he106 Z runUnderlying187 sizeOf199) ?_
  refine vX (.agg [QfG 6 7 z,I z.lo,I z.hi]) (Qn Z isAgg199 sizeOf199 Z (Pts.ents (f:=0) (QaE he106).2) Z Z) ?_
  refine Go 7 Z (DSs 16 Z (D 2 Z ?_))
  refine DS.wo (x:=QfG 6 7 z) ?_ ?_
  ·exact S Z Wp
  obtain⟨ai,P,d⟩:=bnd d
  refine DS.v (x:=(I ai)) (QbG P isAgg3) ?_
  refine D 5 Z (Ql1 8 d Z Z Z (fun Q d=>?_) (fun Q d=>?_))
  ·refine D 7 Z (DS.done Z (Go 15 Z (Yh d ?_)))
   obtain rfl:=Oj G d
   refine Gx 1 Z (QK (Gx 1 Z ?_))
   obtain rfl:=Oi h
   refine R2 2 3 Z Z ?_
   refine Le.trans (Le.phantom (s:=2) (k:=1) (t:=3) (Nat.le_of_ble_eq_true Z) Z) ?_
   exact Lr [9]
  ·refine D 2 Z ?_
   refine DS.wo (x:=QfG 6 7 z) ?_ ?_
   ·exact Sg (gT Z) Z Wp
   obtain⟨aj,R,d⟩:=bnd d
   refine DS.v (x:=(I aj)) (QbG R isAgg3) ?_ (hg:=(gT Z))
   refine D 3 Z (DS.done Z (Go 4 Z (Cn Z d (fun T d=>?_) (fun T d=>?_))))
   ·refine Gc 10 Z (Yh d ?_)
    obtain rfl:=Oj G d
    refine Gx 1 Z (QK (Gx 1 Z ?_))
    obtain rfl:=Oi h
    refine R2 2 3 Z Z ?_
    refine Le.trans (Le.phantom (s:=2) (k:=1) (t:=3) (Nat.le_of_ble_eq_true Z) Z) ?_
    exact Lr [9]
   refine Gc 3 Z (DSs 9 Z (D 2 Z ?_))
   obtain⟨ak,he111,d⟩:=bnd d
   refine DS.v (x:=(.ptr 4 (Int.toNat l.2.2.2*3))) (QZ he111 Z runUnderlying187 sizeOf199) ?_
   refine DS.wo (x:=.ptr 4 (Int.toNat l.2.2.2*3)) ?_ ?_
   ·exact Fp Qkb Z Wp
   refine DS.v (x:=(QfG 2 3 ak)) (OpV.load Z isAgg193 Z (Pts.ents (f:=0) (QaE he111).2)) ?_
   refine D 2 Z ?_
   refine DS.wo (x:=QfG 6 7 z) ?_ ?_
   ·exact S Z Wp
   obtain⟨al,V,d⟩:=bnd d
   refine DS.v (x:=(I al)) (QbG V isAgg3) ?_
   refine DS.done Z (S Z (Bd d fun J hq113 d=>?_))
   refine vU (QhN (c:=Fact.c) (f:=l.2.1) (f':=J.1) (s':=J.2) hq113 Qml sizeOf3) ?_
   refine Qkz (H:=[_,_,.cells 52 (Fact.c J.1),.cells 3 [I J.2],_,_,_,_,_]) Z ?_
   refine Go 6 Z (S Z (Bd d fun L W d=>?_))
   refine vX (I L) (QbG W isAgg3) ?_
   refine vH (OpH.lit (xs:=[.tmp 81]) (es:=List.map (Qj .i64) [L]) QB Z Z Z Z Z ⟨Z,trivial⟩ Z Z) ?_
   refine aV (.osl 9 0 ([L].length) 1) [_,_,_,_,_,_,_,_,_,.row 3 1 (List.map (Qj .i64) [L])] Z Z ?_
   refine Bd d fun N X d=>?_
   refine vH (Ym (e:=(Qj .i64)) X QB runUnderlying109 (QaR (i:=9))) ?_
   refine aV (.osl 10 0 N.length 1) [_,.dead,_,_,_,_,_,_,_,_,.row 3 1 (List.map (Qj .i64) N)] Z Z ?_
   exact Go 8 Z (QH d (Lr [0,10,2,3,4,5,6,7]))
 subst av
 refine Gx 1 Z (TC.le B (Gc 8 Z (Bd h fun u E h=>?_)))
 refine Ct u [0,1,2,3] [1,2,7,10] (fun _=>[]) (fun u=>[(2,.cells 52 (Fact.c u))]) (fun _=>rfl) ?_ (fun env H B=>?_)
 ·refine G0 0 Z (Cn Z E (fun Y E=>?_) (fun Y E=>?_))
  ·exact Gc 5 Z (Cl E [0,1,2,3])
  exact Gc 1 Z (Cl E [0,1,2,3])
 refine Gx 1 Z (TC.le B (Gc 10 Z ?_))
 refine TC.draw0 5 [94,95,96,97,2] [.osl 1 0 g.1.length 1,.agg (Fact.c ({u with Appeal:={Case:=u.Appeal.Case,Suspends:=(g.2.2==1):Appeal}:Fact})),.agg (Fact.c F),.bool (({u with Appeal:={Case:=u.Appeal.Case,Suspends:=(g.2.2==1):Appeal}:Fact})==F),.osl 1 0 g.1.length 1] draws Z Z Z ?_ ?_
 ·refine Oq.c ?_ (ov (ov (Oq.c ?_ (ov (Oq.n)))))
  ·refine Om Z (sP 4 sN) ?_
   exact S Z Wp
  ·refine Om Z (sD 1 (sD 2 sN)) ?_
   refine vX (.bool (({u with Appeal:={Case:=u.Appeal.Case,Suspends:=(g.2.2==1):Appeal}:Fact})==F)) (Qfh (p:={u with Appeal:={Case:=u.Appeal.Case,Suspends:=(g.2.2==1):Appeal}:Fact}) (q:=F) QmL Z Z) ?_
   exact Wp
 refine Go 4 Z ?_
 obtain rfl:=Oi h
 exact R2 2 3 Z Z (Lr [1])
def F_at(n:Nat)(a:Fact):Option Int:=
  (F_ci n a).bind fun b=>(bif (!b.2)then some 120 else some 0)
theorem k_at(n:Nat)(a:Fact)(r:Int)(h:F_at n a=some r):
    Csm prog 18 [.agg (Fact.c a)] [] (fun r=>I r) r:=by
 refine Qb func18 Z Z Z ?_
 refine G0 10 Z (Cd [] h (k_ci _ _) Z fun e d h=>FE Z (Go 13 Z (Cn Z h (fun b h=>?_) (fun b h=>?_))))
 ·exact Gc 7 Z (Rt h 2 [])
 exact Gc 8 Z (Rt h 2 [])
def F_fj(n:Nat)(c:List Fact)(h:Int)(a:(List Fact)×Int):Option (Ctl ((List Fact)×Int) (List Fact)):=
  (bif decide (a.2<(c.length:Int))then(idx c a.2).bind fun b=>((bif (b.Kind==h)then(F_at n b).bind fun d=>some (d==0)else some false):Option Bool).bind fun e=>((bif e then(app a.1 [b]).bind fun f=>some f else some a.1):Option (List Fact)).bind fun g=>some (.cont (g,IntKind.i64.wrap (a.2+1)))else some (.done a.1))
def F_s(n:Nat)(b:List Fact)(c:Int):Option (List Fact):=
  (iter (F_fj n b c) n ([],0):Option (List Fact)).bind fun a=>some a
theorem k_s(n:Nat)(z:List Fact)(B:Int)(r:List Fact)(h:F_s n z B=some r):
    C prog 24 [.rsl 57 (List.map Fact.c z),I B] [] (RQ (fun r=>.osl 0 0 r.length 57) (fun r=>[.row 52 57 (List.map Fact.c r)]) r):=by
 refine Qb func24 Z Z Z ?_
 refine G0 9 Z (Lm Z (Go 3 Z (Bd h fun f E h=>?_)))
 refine Ct f [0] [] (fun f=>[(4,.osl 0 0 f.length 57)]) (fun f=>[(0,.row 52 57 (List.map Fact.c f))]) (fun _=>rfl) ?_ (fun env H g=>?_)
 ·refine G0 1 Z ?_
  refine Lp [0] [1,7,8] (fun j=>[(4,.osl 0 0 j.1.length 57),(9,I j.2)]) (fun j=>[(0,.row 52 57 (List.map Fact.c j.1))]) E (fun _=>rfl) ?_ ?_
  ·refine Le.trans (Le.phantom (s:=4) (k:=57) (t:=52) (Nat.le_of_ble_eq_true Z) Z) ?_
   exact Lr [0]
  intro j J a p
  refine G0 6 Z (CnS Z a (fun q a=>?_) (fun q a=>?_))
  ·refine Gc 2 Z (QI a ?_)
   obtain rfl:=Oj p a
   exact Gx 1 Z (Q7 (Lr [0]))
  refine Gc 6 Z (Bd a fun F u a=>Iz u Z (Go 6 Z (Bd a fun m b a=>?_)))
  refine Ct m [0,1] [1,4,6,7,8,9] (fun m=>[(21,.bool m)]) (fun _=>[]) (fun _=>rfl) ?_ (fun env H g=>?_)
  ·refine G0 6 Z (Is 17 b Z (fun w b=>?_) (fun w b=>?_))
   ·exact Go 1 Z (Cz [] b (k_at _ _) Z fun L G b=>Go 3 Z (Cl b [0,1]))
   ·exact Go 5 Z (Cl b [0,1])
  refine Gx 1 Z (TC.le g (Bd a fun l d a=>?_))
  refine Ct l [0] [1,7,8,9] (fun l=>[(4,.osl 0 0 l.length 57)]) (fun l=>[(0,.row 52 57 (List.map Fact.c l))]) (fun _=>rfl) ?_ (fun env H g=>?_)
  ·refine G0 0 Z (Cn Z d (fun x d=>?_) (fun x d=>?_))
   ·refine Gc 3 Z ?_
    refine vH (OpH.lit (xs:=[.tmp 23]) (es:=List.map Fact.c [F]) Y5 Z Z Z Z Z ⟨Z,trivial⟩ Z Z) ?_
    refine FE Z (Bd d fun M y d=>?_)
    refine vH (Ym (e:=Fact.c) y Y5 runUnderlying22 (QaR (i:=2))) ?_
    exact FE Z (Go 2 Z (Cl d [3]))
   exact Gc 1 Z (Cl d [0])
  exact Gx 2 Z (TC.le g (Gc 4 Z (QH a (Lr [0]))))
 exact Gx 1 Z (TC.le g (Gc 7 Z (Rt h 4 [0])))
def F_aa(n:Nat)(a:Fact)(b:Read):Option Bool:=
  ((bif (a.Kind==6)then(bif (a.Silence.Mat==b.Mat)then(bif (a.Silence.Epoch==b.Epoch)then(bif decide (a.Silence.Lo<=b.Local)then some (decide (b.Local<=a.Silence.Hi))else some false)else some false)else some false)else some false):Option Bool).bind fun c=>some c
theorem k_aa(n:Nat)(e:Fact)(f:Read)(r:Bool)(h:F_aa n e f=some r):
    Csm prog 49 [.agg (Fact.c e),.ptr 0 0] [.cells 24 (Read.c f)] (fun r=>.bool r) r:=by
 refine Qb func49 Z Z Z ?_
 refine G0 15 Z (Bd h fun b a h=>?_)
 refine Ct b [0] [] (fun b=>[(3,.bool b)]) (fun _=>[]) (fun _=>rfl) ?_ (fun env H g=>?_)
 ·refine G0 5 Z (Is 10 a Z (fun i a=>?_) (fun i a=>?_))
  ·refine Go 7 Z (Is 17 a Z (fun j a=>?_) (fun j a=>?_))
   ·refine Go 7 Z (Is 24 a Z (fun k a=>?_) (fun k a=>?_))
    ·refine Go 7 Z (Is 31 a Z (fun d a=>?_) (fun d a=>?_))
     ·exact Go 8 Z (Cl a [0])
     ·exact Go 8 Z (Cl a [0])
    ·exact Go 15 Z (Cl a [0])
   ·exact Go 22 Z (Cl a [0])
  ·exact Go 29 Z (Cl a [0])
 exact Gx 1 Z (TC.le g (Gc 1 Z (Rt h 3 [0])))
def F_fp(n:Nat)(b:List Fact)(e:Read)(a:Int):Option (Ctl Int (Ctl Unit Int)):=
  (bif decide (a<(b.length:Int))then(idx b a).bind fun c=>(F_aa n c e).bind fun d=>(bif d then some (.done (.done a))else some (.cont (IntKind.i64.wrap (a+1))))else some (.done (.cont ())))
def F_dd(n:Nat)(c:List Fact)(d:Read):Option Int:=
  (iter (F_fp n c d) n 0:Option (Ctl Unit Int)).bind fun b=>match b with|.cont a=>(some (-1))|.done a=>some a
theorem k_dd(n:Nat)(b:List Fact)(a:Read)(r:Int)(h:F_dd n b a=some r):
    Csm prog 108 [.rsl 57 (List.map Fact.c b),.fn (.func 49) [] [.ptr 0 0]] [.cells 24 (Read.c a)] (fun r=>I r) r:=
 QN (el:=fun x=>.agg (Fact.c x)) (g:=fun x=>F_aa n x a) func108 Z Z Z runUnderlying22 sizeOf52 (fun _ _ _ _ d e=>Qn d isAgg52 sizeOf52 e Pts.rp Z Z) call49 (fun _ _ h=>k_aa _ _ _ _ h) h
def F_dz(n:Nat)(a:List Fact)(b:Read):Option Bool:=
  (F_dd n a b).bind fun c=>some (decide (0<=c))
theorem k_dz(n:Nat)(a:List Fact)(b:Read)(r:Bool)(h:F_dz n a b=some r):
    Csm prog 48 [.rsl 57 (List.map Fact.c a),.fn (.func 49) [] [.ptr 0 0]] [.cells 24 (Read.c b)] (fun r=>.bool r) r:=by
 refine Qb func48 Z Z Z ?_
 exact G0 9 Z (Cz [0] h (k_dd _ _ _) Z fun e d h=>Go 5 Z (Rt h 4 [0]))
def F_y(n:Nat)(a:List Fact)(b:Read):Option Bool:=
  (F_dz n a b).bind fun c=>some c
theorem k_y(n:Nat)(a:List Fact)(b:Read)(r:Bool)(h:F_y n a b=some r):
    Csm prog 23 [.rsl 57 (List.map Fact.c a),.agg (Read.c b)] [] (fun r=>.bool r) r:=by
 refine Qb func23 Z Z Z ?_
 exact G0 10 Z (Cz [0] h (k_dz _ _ _) Z fun e d h=>Go 4 Z (Rt h 4 []))
def F_ab(n:Nat)(a:Int):Option Unit:=
  some ()
theorem k_ab(n:Nat)(a:Int)(r:Unit)(h:F_ab n a=some r):
    Csm prog 116 [I a] [] (fun _=>.bool (a != a)) r:=by
 refine Qb func116 Z Z Z ?_
 exact G0 14 Z (Rt h 2 [])
def F_u(n:Nat)(b:Int)(a:Int):Option Int:=
  (F_ab n b).bind fun c=>(F_ab n a).bind fun d=>(bif (b != b)then(bif (a != a)then some 0 else some (-1))else(bif (a != a)then some 1 else(bif decide (b<a)then some (-1)else(bif decide (a<b)then some 1 else some 0))))
theorem k_u(n:Nat)(a:Int)(b:Int)(r:Int)(h:F_u n a b=some r):
    Csm prog 54 [I a,I b] [] (fun r=>I r) r:=by
 refine Qb func54 Z Z Z ?_
 refine G0 8 Z (Cz [] h (k_ab _ _) Z fun k i h=>Go 6 Z (Cz [] h (k_ab _ _) Z fun l j h=>Go 9 Z (Cn Z h (fun c h=>?_) (fun c h=>?_))))
 ·refine Gc 6 Z (Cn Z h (fun d h=>?_) (fun d h=>?_))
  ·exact Gc 8 Z (Rt h 4 [])
  exact Gc 9 Z (Rt h 4 [])
 refine Gc 8 Z (Cn Z h (fun e h=>?_) (fun e h=>?_))
 ·exact Gc 7 Z (Rt h 4 [])
 refine Gc 10 Z (Cn Z h (fun f h=>?_) (fun f h=>?_))
 ·exact Gc 7 Z (Rt h 4 [])
 refine Gc 10 Z (Cn Z h (fun g h=>?_) (fun g h=>?_))
 ·exact Gc 7 Z (Rt h 4 [])
 exact Gc 8 Z (Rt h 4 [])
def F_cu(n:Nat)(c:List Int)(a:Int):Option (Ctl Int (Ctl Unit Int)):=
  (bif decide (a<(c.length:Int))then(idx c a).bind fun b=>(bif (b != 0)then some (.done (.done b))else some (.cont (IntKind.i64.wrap (a+1))))else some (.done (.cont ())))
def F_bj(n:Nat)(b:List Int):Option Int:=
  (iter (F_cu n b) n 0:Option (Ctl Unit Int)).bind fun c=>match c with|.cont a=>(some 0)|.done a=>some a
theorem k_bj(n:Nat)(i:List Int)(r:Int)(h:F_bj n i=some r):
    Csm prog 53 [.rsl 1 (List.map (Qj .i64) i)] [] (fun r=>I r) r:=by
 refine Qb func53 Z Z Z ?_
 refine G0 14 Z (Lm Z (Go 3 Z (Bd h fun l m h=>?_)))
 refine CtE (b:=l) [] [3] (fun _=>[]) (fun _=>[]) (fun _=>rfl) ?_ (fun p env H j k=>?_)
 ·refine G0 1 Z ?_
  refine Lp [] [3,6,7] (fun d=>[(8,I d)]) (fun _=>[]) m (fun _=>rfl) (Lr []) fun d q a c=>?_
  refine G0 6 Z (CnS Z a (fun e a=>?_) (fun e a=>?_))
  ·refine Gc 2 Z (QI a ?_)
   obtain rfl:=Oj c a
   exact Gx 1 Z (Qw Z (Lr []))
  refine Gc 6 Z (Bd a fun s f a=>Iz f Z (Go 11 Z (Cn Z a (fun g a=>?_) (fun g a=>?_))))
  ·refine Gc 9 Z (Yh a ?_)
   obtain rfl:=Oj c a
   exact Gx 1 Z (QK (Gx 1 Z (Rt h 2 [])))
  exact Gc 7 Z (QH a (Lr []))
 subst j
 exact Gx 1 Z (TC.le k (Gc 7 Z (Rt h 2 [])))
def F_w(n:Nat)(a:hits_place)(b:hits_place):Option Int:=
  (F_u n a.chip b.chip).bind fun c=>(F_u n a.mat b.mat).bind fun d=>(F_u n a.epoch b.epoch).bind fun e=>(F_bj n [c,d,e]).bind fun f=>some f
theorem k_w(n:Nat)(a:hits_place)(b:hits_place)(r:Int)(h:F_w n a b=some r):
    Csm prog 31 [.agg (hits_place.c a),.agg (hits_place.c b)] [] (fun r=>I r) r:=by
 refine Qb func31 Z Z Z ?_
 refine G0 8 Z (DSs 14 Z (D 4 Z ?_))
 refine Dz [] h (k_u _ _ _) Z fun d g h=>D 4 Z ?_
 refine Dz [] h (k_u _ _ _) Z fun e i h=>D 4 Z (DS.done Z (Cz [] h (k_u _ _ _) Z fun f j h=>?_))
 refine vH (Yr (xs:=[.tmp 9,.tmp 14,.tmp 19]) (es:=List.map (Qj .i64) [d,e,f]) QB Z Z Z Z Z ⟨Z,Z,Z,trivial⟩ Z Z) ?_
 exact FE Z (Cz [] h (k_bj _ _) Z fun l k h=>Go 4 Z (Rt h 4 []))
def F_fb(n:Nat)(j:Course)(k:List Fact)(d:List Fact)(a:(List (hits_place×Option (List Int)))×Int):Option (Ctl ((List (hits_place×Option (List Int)))×Int) (List (hits_place×Option (List Int)))):=
  (bif decide (a.2<(d.length:Int))then(idx d a.2).bind fun b=>((bif decide (b.Read.Mat<(j.Mats.length:Int))then(F_y n k b.Read).bind fun e=>some (!e)else some false):Option Bool).bind fun f=>((bif f then(Qgg a.1 ({chip:=b.Read.Chip,mat:=b.Read.Mat,epoch:=b.Read.Epoch:hits_place})).bind fun c=>(app c.1 [b.Read.Local]).bind fun g=>(QcK c.2.1 c.2.2 g).bind fun h=>some h else some a.1):Option (List (hits_place×Option (List Int)))).bind fun i=>some (.cont (i,IntKind.i64.wrap (a.2+1)))else some (.done a.1))
def F_ew(n:Nat)(b:List hits_place)(c:hits_place×Unit):Option (Ctl (List hits_place) (List hits_place)):=
  (app b [c.1]).bind fun a=>some (.cont a)
def F_fm(n:Nat)(a:List hits_place):Option (List hits_place):=
  some a
def F_cp(n:Nat)(f:Course)(b:List Int)(a:Int):Option (Ctl Int Int):=
  ((bif decide (a<(b.length:Int))then(idx b a).bind fun c=>(idx b (IntKind.i64.wrap (a-1))).bind fun d=>some (decide ((IntKind.i64.wrap (c-d))<=f.Faults.Window))else some false):Option Bool).bind fun e=>(bif e then some (.cont (IntKind.i64.wrap (a+1)))else some (.done a))
def F_ff(n:Nat)(g:Course)(b:hits_place)(a:List Int)(c:Int):Option ((List Hit)×Ctl Int Unit):=
  (bif decide (c<(a.length:Int))then(iter (F_cp n g a) n (IntKind.i64.wrap (c+1)):Option Int).bind fun d=>(idx a c).bind fun e=>(idx a (IntKind.i64.wrap (d-1))).bind fun f=>yl ({Mat:=b.mat,Epoch:=b.epoch,Chip:=b.chip,First:=e,Last:=f:Hit}) (some ([],.cont d))else some ([],.done ()))
def F_fa(n:Nat)(f:Course)(b:List hits_place)(a:(List (hits_place×Option (List Int)))×Int):Option ((List Hit)×Ctl ((List (hits_place×Option (List Int)))×Int) Unit):=
  (bif decide (a.2<(b.length:Int))then(idx b a.2).bind fun c=>(Qgd a.1 c).bind fun d=>(sortI d.1).bind fun e=>ap (QbQ (F_ff n f c e) n 0) fun g=>some ([],.cont (d.2,IntKind.i64.wrap (a.2+1)))else some ([],.done ()))
def F_br(n:Nat)(c:List Fact)(d:Course):Option ((List Hit)×Unit):=
  (F_s n c 6).bind fun f=>(F_s n c 2).bind fun g=>(iter (F_fb n d f g) n ([],0):Option (List (hits_place×Option (List Int)))).bind fun a=>Qkw (fun p473=>(QeA (F_ew n) (F_fm n) [] p473).bind fun e=>(QcX (fun x y=>F_w n x y) e).bind fun b=>ap (QbQ (F_fa n d b) n (a,0)) fun h=>some ([],())) (QeU a)
theorem k_br(n:Nat)(a1:List Fact)(a2:Course)(p:(List Hit)×Unit)(h:F_br n a1 a2=some p):
    QkI prog 61 [.ptr 0 0,.ptr 1 0] [.cells 22 [.rsl 57 (List.map Fact.c a1)],.cells 67 (Course.c a2)] (fun x=>[.agg (Hit.c x)]) nxL p.1:=by
 obtain⟨xs,u⟩:=p
 refine QgQ func61 Z Z Z Z ?_
 intro X hE hN
 refine Gy0 1 Z (TCy.lf ?_)
 refine G0 2 Z (Cd [] h (k_s _ _ _) Z fun r1 co h=>FE Z (Go 2 Z ?_))
 refine Gyx 2 Z (TCy.lf ?_)
 refine G0 1 Z ?_
 refine vH (QhP 3 1) ?_
 refine FE Z (Go 2 Z ?_)
 refine Gyx 2 Z (TCy.lf ?_)
 refine G0 3 Z (Cd [] h (k_s _ _ _) Z fun r2 cp h=>FE Z (Go 4 Z (Bd h fun w bv h=>?_)))
 refine Ct w [0,1,3] [0,2,5] (fun _=>[]) (fun w=>[(2,.mapO false 3 1 (Qs (fun x=>A.agg (hits_place.c x)) (Qj .i64) w))]) (fun _=>rfl) ?_ (fun env H d=>?_)
 ·refine G0 1 Z ?_
  refine Lp [0,1,2,3,4] [0,2,4,5,21,22] (fun G=>[(23,I G.2)]) (fun G=>[(3,.mapO false 3 1 (Qs (fun x=>A.agg (hits_place.c x)) (Qj .i64) G.1))]) bv (fun _=>rfl) (Lr [0,1,2,3,4]) fun G cq g ay=>?_
  refine G0 6 Z (CnS Z g (fun az g=>?_) (fun az g=>?_))
  ·refine Gc 2 Z (QI g ?_)
   obtain rfl:=Oj ay g
   exact Gx 1 Z (Q7 (Lr [0,1,3]))
  refine Gc 6 Z (Bd g fun N ab g=>?_)
  refine vX (.ptr 4 (Int.toNat G.2*57)) (QZ ab Z runUnderlying22 sizeOf52) ?_
  refine vX (.agg (Fact.c N)) (Qn Z isAgg52 sizeOf52 Z (QD ab) Z Z) ?_
  refine Go 13 Z (Bd g fun ac B g=>?_)
  refine Ct ac [0,1,2,3,6,4] [0,2,4,5,8,21,22,23] (fun ac=>[(40,.bool ac)]) (fun _=>[]) (fun _=>rfl) ?_ (fun env H d=>?_)
  ·refine G0 5 Z (Lm Z (Go 2 Z (Is 35 B Z (fun ba B=>?_) (fun ba B=>?_))))
   ·exact Go 2 Z (Cb B (k_y _ _ _) Z (lo (ls ln)) fun cr cc B=>Go 3 Z (Cl B [0,1,2,3,6,4]))
   ·exact Go 6 Z (Cl B [0,1,2,3,6,4])
  refine Gx 1 Z (TC.le d (Bd g fun ad m g=>?_))
  refine Ct ad [0,1,2,3,5] [0,2,4,5,21,22,23] (fun _=>[]) (fun ad=>[(3,.mapO false 3 1 (Qs (fun x=>A.agg (hits_place.c x)) (Qj .i64) ad))]) (fun _=>rfl) ?_ (fun env H d=>?_)
  ·refine G0 0 Z (Cn Z m (fun bb m=>?_) (fun bb m=>?_))
   ·refine Gc 18 Z ?_
    refine vH (OpH.lit (xs:=[.tmp 52]) (es:=List.map (Qj .i64) [N.Read.Local]) QB Z Z Z Z Z ⟨Z,trivial⟩ Z Z) ?_
    refine FE Z (Bd m fun au bc m=>?_)
    refine vH (QkR (ek:=(fun x=>A.agg (hits_place.c x))) (ev:=(Qj .i64)) (key:=({chip:=N.Read.Chip,mat:=N.Read.Mat,epoch:=N.Read.Epoch:hits_place})) (l:=G.1) (t:=3) (k:=1) Qho bc underlying132 zeroValue109) ?_
    refine FE Z (Go 1 Z (Bd m fun bw bd m=>?_))
    refine vH (Ym (e:=(Qj .i64)) bd QB runUnderlying109 (QaR (i:=7))) ?_
    refine FE Z (Go 1 Z (Bd m fun cs be m=>?_))
    refine vU (QkQ (ek:=(fun x=>A.agg (hits_place.c x))) (ev:=(Qj .i64)) (rows:=bw) (l:=au.2.1) (ix:=au.2.2) (j:=9) (t:=3) (k:=1) Qho be) ?_
    exact FE Z (Go 1 Z (Cl m [0,1,2,3,5]))
   exact Gc 1 Z (Cl m [0,1,2,3,5])
  exact Gx 2 Z (TC.le d (Gc 4 Z (QH g (Lr [0,1,2,3,4]))))
 refine Gyx 1 Z (TCy.le d (Gyc 1 Z (TCy.lf ?_)))
 refine G0 3 Z ?_
 refine Gyx 2 Z (TCy.lf ?_)
 refine G0 3 Z ?_
 refine vH (Qi8 (ek:=(fun x=>A.agg (hits_place.c x))) (ev:=(Qj .i64)) (l:=w) (t:=3) (k:=1) underlying132) ?_
 refine FE Z (Go 2 Z ?_)
 have bx:=Qlz h
 have av:Qg0 _ _ _ _ _:=fun p hp=>bnd (bx p hp)
 refine QlC av (fun R=>[(0,.fn (.yield X.l) [] []),(2,.ptr 1 0),(5,.map 2),(10,.osl 3 0 R.length 3)]) (fun R=>[.cells 22 [.rsl 57 (List.map Fact.c a1)],.cells 67 (Course.c a2),.mapO true 3 1 (Qs (fun x=>A.agg (hits_place.c x)) (Qj .i64) w),.row 94 3 (List.map hits_place.c R)]) ?_ (fun R env H ae d=>?_)
 ·refine G0 1 Z ?_
  refine QkC (enc:=(fun p=>((fun x=>A.agg (hits_place.c x)) p.1,(fun _=>A.any) p.2))) (fun O=>[(0,.fn (.yield X.l) [] []),(2,.ptr 1 0),(5,.map 2),(10,.osl 3 0 O.length 3),(59,.ptr 4 0)]) (fun O aw=>[.cells 22 [.rsl 57 (List.map Fact.c a1)],.cells 67 (Course.c a2),.mapO true 3 1 (Qs (fun x=>A.agg (hits_place.c x)) (Qj .i64) w),.row 94 3 (List.map hits_place.c O),.iter none aw]) av ?_ ?_
  ·refine Le.trans (Le.phantom (s:=10) (k:=3) (t:=94) (Nat.le_of_ble_eq_true Z) Z) ?_
   exact Lr [0,1,2,4,3]
  intro O aw bz
  refine G0 2 Z ?_
  refine Qky (enc:=(fun p=>((fun x=>A.agg (hits_place.c x)) p.1,(fun _=>A.any) p.2))) bz (fun ct ca cb=>?_) (fun E ax cu af cv bf=>?_)
  ·refine Go 7 Z (QmA ?_)
   cases ca
   exact Gx 1 Z (cutGN cb (Lr [0,1,2,3]))
  refine aV (.tup [.bool true,.agg (hits_place.c E.1),.any]) [.cells 22 [.rsl 57 (List.map Fact.c a1)],.cells 67 (Course.c a2),.mapO true 3 1 (Qs (fun x=>A.agg (hits_place.c x)) (Qj .i64) w),.row 94 3 (List.map hits_place.c O),.iter (some (.agg (hits_place.c E.1),.any)) (List.map (fun p=>((fun x=>A.agg (hits_place.c x)) p.1,(fun _=>A.any) p.2)) ax)] Z Z ?_
  refine Go 10 Z ?_
  refine vX (.tup [.agg (hits_place.c E.1),.any]) (OpV.entry (e:=(.agg (hits_place.c E.1),.any))) ?_
  refine Go 8 Z ?_
  refine vH (OpH.lit (xs:=[.tmp 65]) (es:=List.map hits_place.c [E.1]) Qkm Z Z Z Z Z ⟨Z,trivial⟩ Z Z) ?_
  refine FE Z (Bd af fun bg ai af=>?_)
  refine vH (Ym (e:=hits_place.c) ai Qkm runUnderlying133 (QaR (i:=6))) ?_
  refine FE Z (Go 3 Z (QmB _ _ af bf ?_))
  refine Le.trans (Qjc (i:=4) (H':=[.cells 22 [.rsl 57 (List.map Fact.c a1)],.cells 67 (Course.c a2),.mapO true 3 1 (Qs (fun x=>A.agg (hits_place.c x)) (Qj .i64) w),.dead,.iter none (List.map (fun p=>((fun x=>A.agg (hits_place.c x)) p.1,(fun _=>A.any) p.2)) ax),.cells 94 (hits_place.c E.1),.row 94 3 (List.map hits_place.c [E.1]),.row 94 3 (List.map hits_place.c bg)]) Z Z) ?_
  exact Lr [0,1,2,7,4]
 refine Gyx 1 Z (TCy.le d (Gyc 1 Z (TCy.lf ?_)))
 refine G0 2 Z (Bd ae fun bh J ae=>?_)
 refine Qz [3] (OpC.fn call62 Z Z Z) (QlI (enc:=hits_place.c) Qfy J (fun x y c h=>k_w n x y c h) isAgg94 sizeOf94 call31 (fun _=>rfl) Z) ?_
 rintro _ _ ⟨rfl,rfl⟩
 refine FE Z ?_
 refine WO.le (Q3 (s:=10) Z (congrArg (fun n=>A.osl 3 0 n 3) (QeL J))) ?_
 refine WO.le (Q3 (s:=68) Z (congrArg (fun n=>A.osl 3 0 n 3) (QeL J))) ?_
 refine Go 1 Z ?_
 refine Gyx 2 Z (TCy.lf ?_)
 refine G0 5 Z ?_
 refine Gyx 1 Z ?_
 obtain⟨cd,bi,bj,bk,bl,rfl⟩:=QlZ ae
 rw[List.append_assoc]
 refine QgP bi (bj++[]) [0,1] [0] (fun _=>[]) (fun _=>[]) (fun _=>rfl) ?_ (fun env H d=>?_)
 ·refine Gy0 1 Z ?_
  refine QkA [0,1,2,3] [0,2,5,70,71] (fun r=>[(72,I r.2)]) (fun r=>[(2,.mapO true 3 1 (Qs (fun x=>A.agg (hits_place.c x)) (Qj .i64) r.1))]) bk (fun _=>rfl) (Lr [0,1,2,3]) fun r ce cf bm a aj=>?_
  refine Gy0 1 Z (TCy.lf ?_)
  refine G0 3 Z ?_
  refine Gyx 2 Z (TCy.lf ?_)
  refine G0 0 Z (CnS Z a (fun ak a=>?_) (fun ak a=>?_))
  ·refine Gc 1 Z ?_
   refine Gyx 1 Z ?_
   obtain⟨rfl,rfl,rfl⟩:=Oy aj a
   exact QjR (Gyx 1 Z (QlX (Lr [0,1])))
  refine Gc 1 Z ?_
  refine Gyx 4 Z (TCy.lf ?_)
  refine G0 1 Z (Bd a fun F T a=>?_)
  refine vX (.ptr 3 (Int.toNat r.2*3)) (QZ T Z runUnderlying133 sizeOf94) ?_
  refine vX (.agg (hits_place.c F)) (Qn Z isAgg94 sizeOf94 Z (QD T) Z Z) ?_
  refine Go 3 Z ?_
  refine Gyx 2 Z (TCy.lf ?_)
  refine G0 3 Z (Bd a fun cg al a=>?_)
  refine vH (Qi6 (ek:=(fun x=>A.agg (hits_place.c x))) (ev:=(Qj .i64)) (key:=F) (l:=r.1) (t:=3) (k:=1) Qho al underlying132 zeroValue109) ?_
  refine FE Z (Go 2 Z ?_)
  refine Gyx 2 Z (TCy.lf ?_)
  refine G0 2 Z (Bd a fun ch z a=>?_)
  refine Qz [5] (OpC.fn call63 Z Z Z) (QlJ Qfz z) ?_
  rintro _ _ ⟨rfl,rfl⟩
  refine FE Z ?_
  refine WO.le (Q3 (s:=14) Z (congrArg (fun n=>A.osl 5 0 n 1) (QbA z))) ?_
  refine WO.le (Q3 (s:=78) Z (congrArg (fun n=>A.osl 5 0 n 1) (QbA z))) ?_
  refine WO.le (Q3 (s:=79) Z (congrArg (fun n=>A.osl 5 0 n 1) (QbA z))) ?_
  refine Go 1 Z ?_
  refine Gyx 2 Z (TCy.lf ?_)
  refine G0 3 Z ?_
  refine Gyx 1 Z ?_
  obtain⟨ci,bn,bo,bp,bq,rfl⟩:=QlZ a
  rw[List.append_assoc]
  refine QgP bn (bo++bm) [0,1,2,5] [0,2,5,70,71,72] (fun _=>[]) (fun _=>[(3,.row 94 3 (List.map hits_place.c bh))]) (fun _=>rfl) ?_ (fun env H d=>?_)
  ·refine Gy0 1 Z ?_
   refine QkA [0,1,2,4,5,3] [0,2,5,13,14,70,71,72] (fun P=>[(15,I P)]) (fun _=>[]) bp (fun _=>rfl) (Lr [0,1,2,4,5,3]) fun P cj ck cl b am=>?_
   refine Gy0 1 Z (TCy.lf ?_)
   refine G0 8 Z (CnS Z b (fun an b=>?_) (fun an b=>?_))
   ·refine Gc 1 Z ?_
    refine Gyx 1 Z ?_
    obtain⟨rfl,rfl,rfl⟩:=Oy am b
    exact QjR (Gyx 1 Z (QlX (Lr [0,1,2,5])))
   refine Gc 1 Z ?_
   refine Gyx 3 Z (TCy.lf ?_)
   refine G0 5 Z ?_
   refine Gyx 2 Z (TCy.lf ?_)
   refine Bd b fun L br b=>?_
   refine Ct L [0,1,2,3,4,5] [0,2,5,13,14,15,70,71,72] (fun L=>[(16,I L)]) (fun _=>[]) (fun _=>rfl) ?_ (fun env H d=>?_)
   ·refine G0 1 Z ?_
    refine Lp [0,1,2,3,4,5] [0,2,5,13,14,15,70,71,72] (fun M=>[(16,I M)]) (fun _=>[]) br (fun _=>rfl) (Lr [0,1,2,3,4,5]) fun M cm q ao=>?_
    refine G0 2 Z (Bd q fun Q f q=>?_)
    refine Ct Q [0,1,2,3,4,5] [0,2,5,13,14,15,16,70,71,72] (fun Q=>[(106,.bool Q)]) (fun _=>[]) (fun _=>rfl) ?_ (fun env H d=>?_)
    ·refine G0 0 Z (DSs 18 Z (D 5 Z (Ql1 4 f Z Z Z (fun aq f=>?_) (fun aq f=>?_))))
     ·refine D 2 Z ?_
      obtain⟨bs,V,f⟩:=bnd f
      refine DS.v (x:=(.ptr 4 (Int.toNat M*1))) (QZ V Z runUnderlying109 sizeOf3) ?_ (hg:=(gT Z))
      refine DS.v (x:=(I bs)) (OpV.load Z isAgg3 Z (QD V)) ?_ (hg:=(gT Z))
      refine D 3 Z ?_
      obtain⟨bt,W,f⟩:=bnd f
      refine DS.v (x:=(.ptr 4 (Int.toNat (IntKind.i64.wrap (M-1))*1))) (QZ W Z runUnderlying109 sizeOf3) ?_ (hg:=(gT Z))
      refine DS.v (x:=(I bt)) (OpV.load Z isAgg3 Z (QD W)) ?_ (hg:=(gT Z))
      exact D 4 Z (DS.done Z (Go 3 Z (Cl f [0,1,2,3,4,5])))
     ·exact D 13 Z (DS.done Z (Go 3 Z (Cl f [0,1,2,3,4,5])))
    refine Gx 1 Z (TC.le d (CnS Z q (fun ar q=>?_) (fun ar q=>?_)))
    ·refine Gc 2 Z (QI q ?_)
     obtain rfl:=Oj ao q
     exact Gx 1 Z (Q7 (Lr [0,1,2,3,4,5]))
    exact Gc 9 Z (QH q (Lr [0,1,2,3,4,5]))
   refine Gyx 1 Z (TCy.le d (Gyc 2 Z (DSy 17 Z (D 9 Z ?_))))
   obtain⟨ag,Y,b⟩:=bnd b
   refine DS.v (x:=(.ptr 4 (Int.toNat P*1))) (QZ Y Z runUnderlying109 sizeOf3) ?_
   refine DS.v (x:=(I ag)) (OpV.load Z isAgg3 Z (QD Y)) ?_
   refine D 3 Z ?_
   obtain⟨ah,aa,b⟩:=bnd b
   refine DS.v (x:=(.ptr 4 (Int.toNat (IntKind.i64.wrap (L-1))*1))) (QZ aa Z runUnderlying109 sizeOf3) ?_
   refine DS.v (x:=(I ah)) (OpV.load Z isAgg3 Z (QD aa)) ?_
   refine D 1 Z (DS.done Z ?_)
   obtain⟨cn,bu,rfl⟩:=yl_ok b
   refine QmO (x:={Mat:=F.mat,Epoch:=F.epoch,Chip:=F.chip,First:=ag,Last:=ah:Hit}) (e:=fun x=>.agg (Hit.c x)) hE hN Z Z Z Z ?_ ?_
   ·refine Gyo 3 Z (TCy.lf ?_)
    refine G0 2 Z ?_
    refine Gyx 1 Z (TCy.lf ?_)
    refine G0 4 Z ?_
    exact Gyx 1 Z (QjT bu (Lr [0,1,2,3,4,5]))
   ·exact Gyo 7 Z (QjS (Gyx 1 Z (QlW (Gyx 2 Z (QjS (Gyx 1 Z (QlW (⟨.inr Z,.inr ⟨_,Z⟩⟩))))))))
  refine Gyx 2 Z (TCy.le d (TCy.lf ?_))
  refine G0 4 Z ?_
  exact Gyx 0 Z (QjT bq (Lr [0,1,2,3]))
 cases bl
 exact⟨.inl Z,.inl Z⟩
def F_fn(n:Nat)(b:List Hit)(c:Hit):Option (Ctl (List Hit) (List Hit)):=
  (app b [c]).bind fun a=>some (.cont a)
def F_f(n:Nat)(b:Course)(c:List Fact):Option (List Hit):=
  (F_r n b).bind fun e=>(bif (e != 0)then some []else(F_ck n b c).bind fun f=>(F_br n c b).bind fun y4=>(Qf8 (F_fn n) y4.1 []:Option (Ctl (List Hit) (List Hit))).bind fun d=>match d with|.cont a=>(some a)|.done a=>some a)
theorem k_f(n:Nat)(b:Course)(g:List Fact)(r:List Hit)(h:F_f n b g=some r):
    C prog 16 [.agg (Course.c b),.rsl 57 (List.map Fact.c g)] [] (RQ (fun r=>.osl 0 0 r.length 5) (fun r=>[.row 26 5 (List.map Hit.c r),.cells 68 [.osl 0 0 r.length 5]]) r):=by
 refine Qb func16 Z Z Z ?_
 refine G0 10 Z (Cz [] h (k_r _ _) Z fun B s h=>Go 3 Z (Cn Z h (fun j h=>?_) (fun j h=>?_)))
 ·refine Gc 7 Z ?_
  obtain rfl:=Oi h
  refine⟨[(4,.ptr 1 0)],[.row 26 5 (List.map Hit.c []),.cells 68 [.osl 0 0 ([].length) 5]],_,?_,Yz Z (Qdh isAgg68 Z Z),Z,Z⟩
  refine Le.trans (Qdj (i:=1) (m:=0) (t:=26) (k:=5) Z Z Z) ?_
  exact Lr [2,1]
 refine Gc 7 Z (Cd [] h (k_ck _ _ _) Z fun E u h=>FE Z (Go 3 Z (Bd h fun y4 hy4 h=>Bd h fun w l h=>?_)))
 refine QiW [2,3] (fun d=>[.cells 67 (Course.c b),.cells 68 [.osl 4 0 d.length 5],.dead,.dead,.row 26 5 (List.map Hit.c d)]) l (k_br _ _ _ _ hy4) (fun _=>rfl) (fun _=>rfl) call61 Z Z Z Z (by decide) Z ?_ ?_ ?_
 ·refine Le.trans (Qdj (i:=1) (m:=0) (t:=26) (k:=5) Z Z Z) ?_
  exact Lr [0,1,2,3,4]
 ·intro d p x a q
  refine G0 4 Z (And.intro Z ?_)
  refine G0 4 Z ?_
  refine vH (OpH.lit (xs:=[.tmp 14]) (es:=List.map Hit.c [p]) Qe8 Z Z Z Z Z ⟨Z,trivial⟩ Z Z) ?_
  refine FE Z (Bd a fun y f a=>?_)
  refine vH (Ym (e:=Hit.c) f Qe8 runUnderlying68 (QaR (i:=6))) ?_
  exact FE Z (Go 3 Z (Qk9 a (Lr [0,1,2,3,7])))
 rintro z rfl
 refine Gx 9 Z ?_
 obtain rfl:=Oi h
 exact Rx [4,1] [4] Z (Yz Z (Qdh isAgg68 Z Z)) ⟨Z,Z⟩
def F_bu(n:Nat)(a:Hit)(b:Int):Option Unit:=
  some ()
theorem k_bu(n:Nat)(a:Hit)(b:Int)(r:Unit)(h:F_bu n a b=some r):
    Csm prog 47 [.agg (Hit.c a),.ptr 0 0] [.cells 3 [I b]] (fun _=>.bool (a.Chip != b)) r:=by
 refine Qb func47 Z Z Z ?_
 exact G0 16 Z (Rt h 3 [0])
def F_gl(n:Nat)(c:List Hit)(d:Int)(a:Int):Option (Ctl Int (Ctl Unit Int)):=
  (bif decide (a<(c.length:Int))then(idx c a).bind fun b=>(F_bu n b d).bind fun e=>(bif (b.Chip != d)then some (.done (.done a))else some (.cont (IntKind.i64.wrap (a+1))))else some (.done (.cont ())))
def F_fd(n:Nat)(c:List Hit)(d:Int):Option Int:=
  (iter (F_gl n c d) n 0:Option (Ctl Unit Int)).bind fun b=>match b with|.cont a=>(some (-1))|.done a=>some a
theorem k_fd(n:Nat)(g:List Hit)(k:Int)(r:Int)(h:F_fd n g k=some r):
    Csm prog 107 [.osl 0 0 g.length 5,.fn (.func 47) [] [.ptr 1 0]] [.row 26 5 (List.map Hit.c g),.cells 3 [I k]] (fun r=>I r) r:=by
 refine Qb func107 Z Z Z ?_
 refine G0 13 Z (Bd h fun l m h=>?_)
 refine CtE (b:=l) [0,1] [] (fun _=>[]) (fun _=>[]) (fun _=>rfl) ?_ (fun t env H p q=>?_)
 ·refine G0 1 Z ?_
  refine Lp [0,1] [0,1,7] (fun d=>[(8,I d)]) (fun _=>[]) m (fun _=>rfl) (Lr [0,1]) fun d w a e=>?_
  refine G0 6 Z (CnS Z a (fun i a=>?_) (fun i a=>?_))
  ·refine Gc 2 Z (QI a ?_)
   obtain rfl:=Oj e a
   exact Gx 1 Z (Qw Z (Lr [0,1]))
  refine Gc 15 Z (Bd a fun s f a=>?_)
  refine vX (.ptr 0 (Int.toNat d*5)) (QZ f Z runUnderlying68 sizeOf26) ?_
  refine vX (.agg (Hit.c s)) (Qn Z isAgg26 sizeOf26 Z (QD f) Z Z) ?_
  refine Cz [1] a (k_bu _ _ _) Z fun x u a=>Go 2 Z (Cn Z a (fun j a=>?_) (fun j a=>?_))
  ·refine Gc 9 Z (Yh a ?_)
   obtain rfl:=Oj e a
   exact Gx 1 Z (QK (Gx 1 Z (Rt h 4 [0,1])))
  exact Gc 7 Z (QH a (Lr [0,1]))
 subst p
 exact Gx 1 Z (TC.le q (Gc 6 Z (Rt h 4 [0,1])))
def F_fw(n:Nat)(d:Int)(a:(List Hit)×Int×Int):Option (Ctl ((List Hit)×Int×Int) ((List Hit)×Int)):=
  (bif decide (a.2.2<(a.1.length:Int))then(idx a.1 a.2.2).bind fun b=>(F_bu n b d).bind fun f=>((bif (!(b.Chip != d))then(idx a.1 a.2.1).bind fun g=>(Qez a.1 a.2.1 b).bind fun e=>some (e,IntKind.i64.wrap (a.2.1+1))else some (a.1,a.2.1)):Option ((List Hit)×Int)).bind fun c=>some (.cont (c.1,c.2,IntKind.i64.wrap (a.2.2+1)))else some (.done (a.1,a.2.1)))
def F_ez(n:Nat)(b:List Hit)(d:Int):Option (List Hit):=
  (F_fd n b d).bind fun c=>(bif (c==(-1))then some b else(iter (F_fw n d) n (b,c,IntKind.i64.wrap (c+1)):Option ((List Hit)×Int)).bind fun a=>(slc a.1 0 a.2).bind fun e=>some e)
theorem k_ez(n:Nat)(x:List Hit)(u:Int)(r:List Hit)(h:F_ez n x u=some r):
    C prog 46 [.osl 0 0 x.length 5,.fn (.func 47) [] [.ptr 1 0]] [.row 26 5 (List.map Hit.c x),.cells 3 [I u]] (RQ (fun r=>.osl 0 0 r.length 5) (fun r=>[.row 26 5 (List.map Hit.c r),.cells 3 [I u]]) r):=by
 refine Qb func46 Z Z Z ?_
 refine G0 9 Z (Cz [0,1] h (k_fd _ _ _) Z fun Q L h=>Go 10 Z (Cn Z h (fun E h=>?_) (fun E h=>?_)))
 ·exact Gc 8 Z (Rt h 4 [0,1])
 refine Gc 10 Z (Bd h fun a F h=>?_)
 refine Ct a [0,1] [] (fun a=>[(0,.osl 0 0 a.1.length 5),(5,I a.2)]) (fun a=>[(0,.row 26 5 (List.map Hit.c a.1))]) (fun _=>rfl) ?_ (fun env H p=>?_)
 ·refine G0 1 Z ?_
  refine Lp [0,1] [1] (fun g=>[(0,.osl 0 0 g.1.length 5),(5,I g.2.1),(6,I g.2.2)]) (fun g=>[(0,.row 26 5 (List.map Hit.c g.1))]) F (fun _=>rfl) (Lr [0,1]) fun g M b y=>?_
  refine G0 9 Z (CnS Z b (fun z b=>?_) (fun z b=>?_))
  ·refine Gc 2 Z (QI b ?_)
   obtain rfl:=Oj y b
   exact Gx 1 Z (Q7 (Lr [0,1]))
  refine Gc 8 Z (Bd b fun G q b=>?_)
  refine vX (.ptr 0 (Int.toNat g.2.2*5)) (QZ q Z runUnderlying68 sizeOf26) ?_
  refine vX (.agg (Hit.c G)) (Qn Z isAgg26 sizeOf26 Z (QD q) Z Z) ?_
  refine Go 8 Z (Cz [1] b (k_bu _ _ _) Z fun N J b=>Go 3 Z (Bd b fun j d b=>?_))
  refine Ct j [0,1] [1,6] (fun j=>[(0,.osl 0 0 j.1.length 5),(5,I j.2)]) (fun j=>[(0,.row 26 5 (List.map Hit.c j.1))]) (fun _=>rfl) ?_ (fun env H p=>?_)
  ·refine G0 0 Z (Cn Z d (fun B d=>?_) (fun B d=>?_))
   ·refine Gc 5 Z (Bd d fun O t d=>?_)
    refine vX (.ptr 0 (Int.toNat g.2.1*5)) (QZ t Z runUnderlying68 sizeOf26) ?_
    refine Bd d fun P i d=>?_
    refine vU (Qa3 (e:=Hit.c) (k:=5) (f:=0) t i sizeOf26 Z Z) ?_
    refine FE Z ?_
    refine WO.le (Q3 (s:=0) Z (congrArg (fun n=>A.osl 0 0 n 5) (Qb7 i))) ?_
    refine WO.le (Q3 (s:=17) Z (congrArg (fun n=>A.osl 0 0 n 5) (Qb7 i))) ?_
    refine WO.le (Q3 (s:=22) Z (congrArg (fun n=>A.osl 0 0 n 5) (Qb7 i))) ?_
    refine WO.le (Q3 (s:=30) Z (congrArg (fun n=>A.osl 0 0 n 5) (Qb7 i))) ?_
    exact Go 7 Z (Cl d [0,1])
   exact Gc 1 Z (Cl d [0,1])
  exact Gx 2 Z (TC.le p (Gc 5 Z (QH b (Lr [0,1]))))
 refine Gx 1 Z (TC.le p (Gc 4 Z (Bd h fun w m h=>?_)))
 refine vX (.osl 0 (0+Int.toNat a.2) (a.1.length-Int.toNat a.2) 5) (QhL (l:=a.1) m runUnderlying68 sizeOf26) ?_
 refine vN (QhQ (e:=Hit.c) (l:=a.1) m underlying68 zeroValue26 Z (by simp[Qk,Go.Value.cells])) ?_
 refine Qkz (H:=[.row 26 5 (List.map Hit.c w),.cells 3 [I u]]) Z ?_
 refine Go 6 Z ?_
 refine vX (.osl 0 0 w.length 5) (QhM (l:=a.1) m runUnderlying68 sizeOf26) ?_
 exact Go 4 Z (Rt h 4 [0,1])
def F_am(n:Nat)(a:Course)(b:List Fact)(c:Int):Option (List Hit):=
  (F_f n a b).bind fun d=>(F_ez n d c).bind fun e=>some e
theorem k_am(n:Nat)(a:Course)(b:List Fact)(d:Int)(r:List Hit)(h:F_am n a b d=some r):
    C prog 20 [.agg (Course.c a),.rsl 57 (List.map Fact.c b),I d] [] (RQ (fun r=>.osl 0 0 r.length 5) (fun r=>[.row 26 5 (List.map Hit.c r)]) r):=by
 refine Qb func20 Z Z Z ?_
 exact G0 11 Z (Cd [] h (k_f _ _ _) Z fun g e h=>FE Z (Go 1 Z (Cd [2,1] h (k_ez _ _ _) Z fun i f h=>FE Z (Go 4 Z (Rt h 6 [2])))))
def F_cb(n:Nat)(a:List Fact)(b:Read):Option Bool:=
  (F_s n a 6).bind fun c=>(F_y n c b).bind fun d=>some d
theorem k_cb(n:Nat)(b:List Fact)(a:Read)(r:Bool)(h:F_cb n b a=some r):
    Csm prog 9 [.rsl 57 (List.map Fact.c b),.agg (Read.c a)] [] (fun r=>.bool r) r:=by
 refine Qb func9 Z Z Z ?_
 refine G0 7 Z (DAs 3 1 [0,1,3] (by kernel_rfl) (Da 1 Z ?_))
 obtain⟨d,e,h⟩:=bnd h
 refine DA.op (x:=.osl 1 0 d.length 57) (H1:=[.cells 24 (Read.c a),.row 52 57 (List.map Fact.c d)]) ?_ ?_
 ·refine Qz [] (OpC.fn call24 Z Z Z) (k_s _ _ _ _ e) ?_
  rintro _ _ ⟨rfl,rfl⟩
  exact FE Z Wp
 refine DB.wo2 (x:=.agg (Read.c a)) ?_ ?_ ?_
 ·refine vX (.agg (Read.c a)) (Qn Z isAgg24 sizeOf24 Z (Pts.cells Z Z) Z Z) ?_
  exact Wp
 ·refine vX (.agg (Read.c a)) (Qn Z isAgg24 sizeOf24 Z (Pts.cells Z Z) Z Z) ?_
  exact Wp
 exact DB.done Z (Cb h (k_y _ _ _) Z (lo (ls ln)) fun g f h=>Go 4 Z (Rt h 4 []))
def F_ex(n:Nat)(a:Hit)(b:Read):Option Bool:=
  ((bif (a.Mat==b.Mat)then(bif (a.Epoch==b.Epoch)then(bif (a.Chip==b.Chip)then(bif decide (a.First<=b.Local)then some (decide (b.Local<=a.Last))else some false)else some false)else some false)else some false):Option Bool).bind fun c=>some c
theorem k_ex(n:Nat)(e:Hit)(f:Read)(r:Bool)(h:F_ex n e f=some r):
    Csm prog 11 [.agg (Hit.c e),.agg (Read.c f)] [] (fun r=>.bool r) r:=by
 refine Qb func11 Z Z Z ?_
 refine G0 8 Z (Bd h fun b a h=>?_)
 refine Ct b [] [] (fun b=>[(4,.bool b)]) (fun _=>[]) (fun _=>rfl) ?_ (fun env H g=>?_)
 ·refine G0 7 Z (Is 10 a Z (fun i a=>?_) (fun i a=>?_))
  ·refine Go 7 Z (Is 17 a Z (fun j a=>?_) (fun j a=>?_))
   ·refine Go 7 Z (Is 24 a Z (fun k a=>?_) (fun k a=>?_))
    ·refine Go 7 Z (Is 31 a Z (fun d a=>?_) (fun d a=>?_))
     ·exact Go 8 Z (Cl a [])
     ·exact Go 8 Z (Cl a [])
    ·exact Go 15 Z (Cl a [])
   ·exact Go 22 Z (Cl a [])
  ·exact Go 29 Z (Cl a [])
 exact Gx 1 Z (TC.le g (Gc 1 Z (Rt h 4 [])))
def F_ch(n:Nat)(a:Int):Option Bool:=
  ((bif decide ((-1099511627776)<=a)then some (decide (a<=1099511627776))else some false):Option Bool).bind fun b2=>some b2
theorem k_ch(n:Nat)(b:Int)(r:Bool)(h:F_ch n b=some r):
    Csm prog 30 [I b] [] (fun r=>.bool r) r:=by
 refine Qb func30 Z Z Z ?_
 refine G0 6 Z (Bd h fun b2 a h=>?_)
 refine Ct b2 [] [] (fun b2=>[(2,.bool b2)]) (fun _=>[]) (fun _=>rfl) ?_ (fun env H c=>?_)
 ·refine G0 4 Z (Is 5 a Z (fun d a=>?_) (fun d a=>?_))
  ·exact Go 5 Z (Cl a [])
  ·exact Go 5 Z (Cl a [])
 exact Gx 1 Z (TC.le c (Gc 1 Z (Rt h 2 [])))
def F_fv(n:Nat)(l:Course)(f:List Hit)(b:Int):Option (Ctl Int (Ctl Unit Int)):=
  (bif decide (b<(f.length:Int))then((idx f b).bind fun a=>((bif decide (a.Mat<0)then some true else(bif decide ((l.Mats.length:Int)<=a.Mat)then some true else(bif decide (a.Epoch<0)then some true else(bif decide (255<a.Epoch)then some true else(bif decide (a.Chip<0)then some true else(bif decide (1048576<a.Chip)then some true else(F_ch n a.First).bind fun g=>(bif (!g)then some true else(F_ch n a.Last).bind fun h=>(bif (!h)then some true else some (decide (a.Last<a.First)))))))))):Option Bool).bind fun i=>(bif i then some (.done (.done (.done 170)))else(bif (b==0)then some (.cont ())else(idx f (IntKind.i64.wrap (b-1))).bind fun c=>(F_w n ({chip:=c.Chip,mat:=c.Mat,epoch:=c.Epoch:hits_place}) ({chip:=a.Chip,mat:=a.Mat,epoch:=a.Epoch:hits_place})).bind fun d=>((bif decide (0<d)then some (decide (0<d))else(bif (d==0)then some (decide ((IntKind.i64.wrap (a.First-c.Last))<=l.Faults.Window))else some false)):Option Bool).bind fun j=>(bif j then some (.done (.done (.done 170)))else some (.cont ())))):Option (Ctl Unit (Ctl Int (Ctl Unit Int)))).bind fun k=>match k with|.cont e=>(some (.cont (IntKind.i64.wrap (b+1))))|.done e=>some e else some (.done (.cont ())))
def F_az(n:Nat)(c:Course)(e:List Hit):Option Int:=
  (F_r n c).bind fun d=>(bif (d != 0)then some d else(iter (F_fv n c e) n 0:Option (Ctl Unit Int)).bind fun b=>match b with|.cont a=>(some 0)|.done a=>some a)
theorem k_az(n:Nat)(P:Course)(Q:List Hit)(r:Int)(h:F_az n P Q=some r):
    Csm prog 14 [.agg (Course.c P),.rsl 5 (List.map Hit.c Q)] [] (fun r=>I r) r:=by
 refine Qb func14 Z Z Z ?_
 refine G0 10 Z (Cz [] h (k_r _ _) Z fun r1 ah h=>Go 9 Z (Cn Z h (fun R h=>?_) (fun R h=>?_)))
 ·exact Gc 8 Z (Rt h 4 [])
 refine Gc 11 Z (Lm Z (Go 3 Z (Bd h fun M N h=>?_)))
 refine CtE (b:=M) [] [] (fun _=>[]) (fun _=>[]) (fun _=>rfl) ?_ (fun V env H T g=>?_)
 ·refine G0 1 Z ?_
  refine Lp [0] [1,2,6,16,17] (fun l=>[(18,I l)]) (fun _=>[]) N (fun _=>rfl) (Lr [0]) fun l ab e i=>?_
  refine G0 6 Z (CnS Z e (fun m e=>?_) (fun m e=>?_))
  ·refine Gc 2 Z (QI e ?_)
   obtain rfl:=Oj i e
   exact Gx 1 Z (Qw Z (Lr []))
  refine Gc 3 Z (Bd e fun O d e=>?_)
  refine CtE (b:=O) [0] [1,2,6,16,17,18] (fun _=>[]) (fun _=>[]) (fun _=>rfl) ?_ (fun W env H hb g=>?_)
  ·refine G0 4 Z (Bd d fun ac p d=>Iz p Z (Go 8 Z (Bd d fun j a d=>?_)))
   refine Ct j [0,1] [1,2,6,7,8,16,17,18] (fun j=>[(74,.bool j)]) (fun _=>[]) (fun _=>rfl) ?_ (fun env H g=>?_)
   ·refine G0 5 Z (Is 26 a Z (fun q a=>?_) (fun q a=>?_))
    ·exact Go 49 Z (Cl a [0,1])
    ·refine Go 4 Z (Lm Z (Go 3 Z (Is 34 a Z (fun s a=>?_) (fun s a=>?_))))
     ·exact Go 41 Z (Cl a [0,1])
     ·refine Go 5 Z (Is 39 a Z (fun t a=>?_) (fun t a=>?_))
      ·exact Go 36 Z (Cl a [0,1])
      ·refine Go 5 Z (Is 44 a Z (fun u a=>?_) (fun u a=>?_))
       ·exact Go 31 Z (Cl a [0,1])
       ·refine Go 5 Z (Is 49 a Z (fun w a=>?_) (fun w a=>?_))
        ·exact Go 26 Z (Cl a [0,1])
        ·refine Go 5 Z (Is 54 a Z (fun x a=>?_) (fun x a=>?_))
         ·exact Go 21 Z (Cl a [0,1])
         ·refine Go 3 Z (Cz [] a (k_ch _ _) Z fun ad X a=>Go 3 Z (Is 61 a Z (fun y a=>?_) (fun y a=>?_)))
          ·exact Go 14 Z (Cl a [0,1])
          ·refine Go 3 Z (Cz [] a (k_ch _ _) Z fun ae Y a=>Go 3 Z (Is 68 a Z (fun z a=>?_) (fun z a=>?_)))
           ·exact Go 7 Z (Cl a [0,1])
           ·exact Go 7 Z (Cl a [0,1])
   refine Gx 1 Z (TC.le g (Cn Z d (fun B d=>?_) (fun B d=>?_)))
   ·refine Gc 8 Z ?_
    cases d
    refine QK (Gx 1 Z (Yh e ?_))
    obtain rfl:=Oj i e
    exact Gx 1 Z (QK (Gx 1 Z (Rt h 4 [])))
   refine Gc 9 Z (Cn Z d (fun E d=>?_) (fun E d=>?_))
   ·refine Gc 3 Z ?_
    cases d
    exact Qw Z (Lr [0])
   refine Gc 7 Z (Bd d fun af F d=>Iz F Z (Go 21 Z (Cz [] d (k_w _ _ _) Z fun ag aa d=>Go 12 Z (Bd d fun k f d=>?_))))
   refine Ct k [0] [1,2,6,16,17,18] (fun k=>[(97,.bool k)]) (fun _=>[]) (fun _=>rfl) ?_ (fun env H g=>?_)
   ·refine G0 0 Z (Cn Z f (fun G f=>?_) (fun G f=>?_))
    ·exact Gc 1 Z (Cl f [0])
    refine Gc 4 Z (Is 102 f Z (fun J f=>?_) (fun J f=>?_))
    ·exact Go 12 Z (Cl f [0])
    ·exact Go 12 Z (Cl f [0])
   refine Gx 1 Z (TC.le g (Cn Z d (fun L d=>?_) (fun L d=>?_)))
   ·refine Gc 8 Z ?_
    cases d
    refine QK (Gx 1 Z (Yh e ?_))
    obtain rfl:=Oj i e
    exact Gx 1 Z (QK (Gx 1 Z (Rt h 4 [])))
   refine Gc 3 Z ?_
   cases d
   exact Qw Z (Lr [0])
  subst hb
  exact Gx 1 Z (TC.le g (Gc 4 Z (QH e (Lr [0]))))
 subst T
 exact Gx 1 Z (TC.le g (Gc 6 Z (Rt h 4 [])))
def F_ef(n:Nat):Option Bool:=
  (F_p n 4 151).bind fun s=>(F_p n 1 100).bind fun t=>(F_p n 2 115).bind fun u=>(F_p n 3 130).bind fun w=>(F_p n 6 6).bind fun x=>(F_o n 20).bind fun y=>(F_f n ({z_Course with Name:=[99],Mats:=[{Name:=[97],Kind:=1:Mat},{Name:=[98],Kind:=3:Mat}],Ties:=[{z_Step with Kind:=1,By:=4:Step}],Faults:={z_Faults with Window:=20:Faults}:Course}) [{z_Fact with No:=4,Kind:=2,Read:={Mat:=1,Epoch:=0,Chip:=7,Local:=151:Read}:Fact},{z_Fact with No:=1,Kind:=2,Read:={Mat:=1,Epoch:=0,Chip:=7,Local:=100:Read}:Fact},{z_Fact with No:=2,Kind:=2,Read:={Mat:=1,Epoch:=0,Chip:=7,Local:=115:Read}:Fact},{z_Fact with No:=3,Kind:=2,Read:={Mat:=1,Epoch:=0,Chip:=7,Local:=130:Read}:Fact},{z_Fact with No:=5,Kind:=6,Silence:={Mat:=1,Epoch:=0,Lo:=5,Hi:=7:Silence}:Fact},{z_Fact with No:=6,Kind:=2,Read:={Mat:=1,Epoch:=0,Chip:=7,Local:=6:Read}:Fact}]).bind fun a=>(F_o n 21).bind fun z=>(F_am n ({z_Course with Name:=[99],Mats:=[{Name:=[97],Kind:=1:Mat},{Name:=[98],Kind:=3:Mat}],Ties:=[{z_Step with Kind:=1,By:=4:Step}],Faults:={z_Faults with Window:=21:Faults}:Course}) [{z_Fact with No:=4,Kind:=2,Read:={Mat:=1,Epoch:=0,Chip:=7,Local:=151:Read}:Fact},{z_Fact with No:=1,Kind:=2,Read:={Mat:=1,Epoch:=0,Chip:=7,Local:=100:Read}:Fact},{z_Fact with No:=2,Kind:=2,Read:={Mat:=1,Epoch:=0,Chip:=7,Local:=115:Read}:Fact},{z_Fact with No:=3,Kind:=2,Read:={Mat:=1,Epoch:=0,Chip:=7,Local:=130:Read}:Fact},{z_Fact with No:=5,Kind:=6,Silence:={Mat:=1,Epoch:=0,Lo:=5,Hi:=7:Silence}:Fact},{z_Fact with No:=6,Kind:=2,Read:={Mat:=1,Epoch:=0,Chip:=7,Local:=6:Read}:Fact}] 7).bind fun b=>((bif ((a.length:Int)==2)then(idx a 0).bind fun c=>(bif (c==({Mat:=1,Epoch:=0,Chip:=7,First:=100,Last:=130:Hit}))then(idx a 1).bind fun d=>(bif (d.First==151)then(bif ((b.length:Int)==1)then(idx b 0).bind fun e=>(bif (e.Last==151)then(F_o n 20).bind fun p=>(F_am n ({z_Course with Name:=[99],Mats:=[{Name:=[97],Kind:=1:Mat},{Name:=[98],Kind:=3:Mat}],Ties:=[{z_Step with Kind:=1,By:=4:Step}],Faults:={z_Faults with Window:=20:Faults}:Course}) [{z_Fact with No:=4,Kind:=2,Read:={Mat:=1,Epoch:=0,Chip:=7,Local:=151:Read}:Fact},{z_Fact with No:=1,Kind:=2,Read:={Mat:=1,Epoch:=0,Chip:=7,Local:=100:Read}:Fact},{z_Fact with No:=2,Kind:=2,Read:={Mat:=1,Epoch:=0,Chip:=7,Local:=115:Read}:Fact},{z_Fact with No:=3,Kind:=2,Read:={Mat:=1,Epoch:=0,Chip:=7,Local:=130:Read}:Fact},{z_Fact with No:=5,Kind:=6,Silence:={Mat:=1,Epoch:=0,Lo:=5,Hi:=7:Silence}:Fact},{z_Fact with No:=6,Kind:=2,Read:={Mat:=1,Epoch:=0,Chip:=7,Local:=6:Read}:Fact}] 8).bind fun f=>(bif ((f.length:Int)==0)then(F_f n z_Course [{z_Fact with No:=4,Kind:=2,Read:={Mat:=1,Epoch:=0,Chip:=7,Local:=151:Read}:Fact},{z_Fact with No:=1,Kind:=2,Read:={Mat:=1,Epoch:=0,Chip:=7,Local:=100:Read}:Fact},{z_Fact with No:=2,Kind:=2,Read:={Mat:=1,Epoch:=0,Chip:=7,Local:=115:Read}:Fact},{z_Fact with No:=3,Kind:=2,Read:={Mat:=1,Epoch:=0,Chip:=7,Local:=130:Read}:Fact},{z_Fact with No:=5,Kind:=6,Silence:={Mat:=1,Epoch:=0,Lo:=5,Hi:=7:Silence}:Fact},{z_Fact with No:=6,Kind:=2,Read:={Mat:=1,Epoch:=0,Chip:=7,Local:=6:Read}:Fact}]).bind fun g=>(bif ((g.length:Int)==0)then(F_cb n [{z_Fact with No:=4,Kind:=2,Read:={Mat:=1,Epoch:=0,Chip:=7,Local:=151:Read}:Fact},{z_Fact with No:=1,Kind:=2,Read:={Mat:=1,Epoch:=0,Chip:=7,Local:=100:Read}:Fact},{z_Fact with No:=2,Kind:=2,Read:={Mat:=1,Epoch:=0,Chip:=7,Local:=115:Read}:Fact},{z_Fact with No:=3,Kind:=2,Read:={Mat:=1,Epoch:=0,Chip:=7,Local:=130:Read}:Fact},{z_Fact with No:=5,Kind:=6,Silence:={Mat:=1,Epoch:=0,Lo:=5,Hi:=7:Silence}:Fact},{z_Fact with No:=6,Kind:=2,Read:={Mat:=1,Epoch:=0,Chip:=7,Local:=6:Read}:Fact}] ({Mat:=1,Epoch:=0,Chip:=0,Local:=7:Read})).bind fun h=>(bif h then(F_cb n [{z_Fact with No:=4,Kind:=2,Read:={Mat:=1,Epoch:=0,Chip:=7,Local:=151:Read}:Fact},{z_Fact with No:=1,Kind:=2,Read:={Mat:=1,Epoch:=0,Chip:=7,Local:=100:Read}:Fact},{z_Fact with No:=2,Kind:=2,Read:={Mat:=1,Epoch:=0,Chip:=7,Local:=115:Read}:Fact},{z_Fact with No:=3,Kind:=2,Read:={Mat:=1,Epoch:=0,Chip:=7,Local:=130:Read}:Fact},{z_Fact with No:=5,Kind:=6,Silence:={Mat:=1,Epoch:=0,Lo:=5,Hi:=7:Silence}:Fact},{z_Fact with No:=6,Kind:=2,Read:={Mat:=1,Epoch:=0,Chip:=7,Local:=6:Read}:Fact}] ({Mat:=1,Epoch:=0,Chip:=0,Local:=8:Read})).bind fun i=>(bif (!i)then(F_ex n ({Mat:=1,Epoch:=0,Chip:=7,First:=100,Last:=130:Hit}) ({Mat:=1,Epoch:=0,Chip:=7,Local:=130:Read})).bind fun j=>(bif j then(F_o n 20).bind fun q=>(F_az n ({z_Course with Name:=[99],Mats:=[{Name:=[97],Kind:=1:Mat},{Name:=[98],Kind:=3:Mat}],Ties:=[{z_Step with Kind:=1,By:=4:Step}],Faults:={z_Faults with Window:=20:Faults}:Course}) a).bind fun k=>(bif (k==0)then(F_o n 20).bind fun r=>(F_az n ({z_Course with Name:=[99],Mats:=[{Name:=[97],Kind:=1:Mat},{Name:=[98],Kind:=3:Mat}],Ties:=[{z_Step with Kind:=1,By:=4:Step}],Faults:={z_Faults with Window:=20:Faults}:Course}) [{Mat:=1,Epoch:=0,Chip:=7,First:=100,Last:=130:Hit},{Mat:=1,Epoch:=0,Chip:=7,First:=100,Last:=130:Hit}]).bind fun l=>some (l==170)else some false)else some false)else some false)else some false)else some false)else some false)else some false)else some false)else some false)else some false)else some false):Option Bool).bind fun m=>some m
theorem k_ef(n:Nat)(r:Bool)(h:F_ef n=some r):
    Csm prog 8 [] [] (fun r=>.bool r) r:=by
 refine Qb func8 Z Z Z ?_
 refine G0 7 Z (Cd [] h (k_p _ _ _) Z fun r1 ae h=>?_)
 refine aV (.agg (Fact.c ({z_Fact with No:=4,Kind:=2,Read:={Mat:=1,Epoch:=0,Chip:=7,Local:=151:Read}:Fact}))) [.cells 52 (Fact.c ({z_Fact with No:=4,Kind:=2,Read:={Mat:=1,Epoch:=0,Chip:=7,Local:=151:Read}:Fact}))] Z Z ?_
 refine Cd [] h (k_p _ _ _) Z fun r2 af h=>?_
 refine aV (.agg (Fact.c ({z_Fact with No:=1,Kind:=2,Read:={Mat:=1,Epoch:=0,Chip:=7,Local:=100:Read}:Fact}))) [_,.cells 52 (Fact.c ({z_Fact with No:=1,Kind:=2,Read:={Mat:=1,Epoch:=0,Chip:=7,Local:=100:Read}:Fact}))] Z Z ?_
 refine Cd [] h (k_p _ _ _) Z fun r3 ag h=>?_
 refine aV (.agg (Fact.c ({z_Fact with No:=2,Kind:=2,Read:={Mat:=1,Epoch:=0,Chip:=7,Local:=115:Read}:Fact}))) [_,_,.cells 52 (Fact.c ({z_Fact with No:=2,Kind:=2,Read:={Mat:=1,Epoch:=0,Chip:=7,Local:=115:Read}:Fact}))] Z Z ?_
 refine Cd [] h (k_p _ _ _) Z fun r4 ah h=>?_
 refine aV (.agg (Fact.c ({z_Fact with No:=3,Kind:=2,Read:={Mat:=1,Epoch:=0,Chip:=7,Local:=130:Read}:Fact}))) [_,_,_,.cells 52 (Fact.c ({z_Fact with No:=3,Kind:=2,Read:={Mat:=1,Epoch:=0,Chip:=7,Local:=130:Read}:Fact}))] Z Z ?_
 refine Go 2 Z (Cd [] h (k_p _ _ _) Z fun r5 ai h=>?_)
 refine aV (.agg (Fact.c ({z_Fact with No:=6,Kind:=2,Read:={Mat:=1,Epoch:=0,Chip:=7,Local:=6:Read}:Fact}))) [_,_,_,_,.cells 52 (Fact.c ({z_Fact with No:=6,Kind:=2,Read:={Mat:=1,Epoch:=0,Chip:=7,Local:=6:Read}:Fact}))] Z Z ?_
 refine vH (OpH.lit (xs:=[.tmp 5,.tmp 6,.tmp 7,.tmp 8,.tmp 10,.tmp 11]) (es:=List.map Fact.c [{z_Fact with No:=4,Kind:=2,Read:={Mat:=1,Epoch:=0,Chip:=7,Local:=151:Read}:Fact},{z_Fact with No:=1,Kind:=2,Read:={Mat:=1,Epoch:=0,Chip:=7,Local:=100:Read}:Fact},{z_Fact with No:=2,Kind:=2,Read:={Mat:=1,Epoch:=0,Chip:=7,Local:=115:Read}:Fact},{z_Fact with No:=3,Kind:=2,Read:={Mat:=1,Epoch:=0,Chip:=7,Local:=130:Read}:Fact},{z_Fact with No:=5,Kind:=6,Silence:={Mat:=1,Epoch:=0,Lo:=5,Hi:=7:Silence}:Fact},{z_Fact with No:=6,Kind:=2,Read:={Mat:=1,Epoch:=0,Chip:=7,Local:=6:Read}:Fact}]) Y5 Z Z Z Z Z ⟨Z,Z,Z,Z,Z,Z,trivial⟩ Z Z) ?_
 refine aV (.osl 5 0 ([{z_Fact with No:=4,Kind:=2,Read:={Mat:=1,Epoch:=0,Chip:=7,Local:=151:Read}:Fact},{z_Fact with No:=1,Kind:=2,Read:={Mat:=1,Epoch:=0,Chip:=7,Local:=100:Read}:Fact},{z_Fact with No:=2,Kind:=2,Read:={Mat:=1,Epoch:=0,Chip:=7,Local:=115:Read}:Fact},{z_Fact with No:=3,Kind:=2,Read:={Mat:=1,Epoch:=0,Chip:=7,Local:=130:Read}:Fact},{z_Fact with No:=5,Kind:=6,Silence:={Mat:=1,Epoch:=0,Lo:=5,Hi:=7:Silence}:Fact},{z_Fact with No:=6,Kind:=2,Read:={Mat:=1,Epoch:=0,Chip:=7,Local:=6:Read}:Fact}].length) 57) [_,_,_,_,_,.row 52 57 (List.map Fact.c [{z_Fact with No:=4,Kind:=2,Read:={Mat:=1,Epoch:=0,Chip:=7,Local:=151:Read}:Fact},{z_Fact with No:=1,Kind:=2,Read:={Mat:=1,Epoch:=0,Chip:=7,Local:=100:Read}:Fact},{z_Fact with No:=2,Kind:=2,Read:={Mat:=1,Epoch:=0,Chip:=7,Local:=115:Read}:Fact},{z_Fact with No:=3,Kind:=2,Read:={Mat:=1,Epoch:=0,Chip:=7,Local:=130:Read}:Fact},{z_Fact with No:=5,Kind:=6,Silence:={Mat:=1,Epoch:=0,Lo:=5,Hi:=7:Silence}:Fact},{z_Fact with No:=6,Kind:=2,Read:={Mat:=1,Epoch:=0,Chip:=7,Local:=6:Read}:Fact}])] Z Z ?_
 refine Go 5 Z (Cd [] h (k_o _ _) Z fun r6 aj h=>?_)
 refine aV (.agg [.str [99],.osl 6 0 ([{Name:=[97],Kind:=1:Mat},{Name:=[98],Kind:=3:Mat}].length) 2,.rsl 4 (List.map Leg.c []),.rsl 5 (List.map Distance.c []),.rsl 2 (List.map Wave.c []),.rsl 4 (List.map Offence.c []),.rsl 3 (List.map Category.c []),.rsl 4 (List.map Prize.c []),.osl 7 0 ([{z_Step with Kind:=1,By:=4:Step}].length) 8,I 0,I 0,I 20,I 0,I 0,I 0,I 0]) [_,_,_,_,_,_,.row 115 2 (List.map Mat.c [{Name:=[97],Kind:=1:Mat},{Name:=[98],Kind:=3:Mat}]),.row 120 8 (List.map Step.enc [{z_Step with Kind:=1,By:=4:Step}]),.cells 67 [.str [99],.osl 6 0 ([{Name:=[97],Kind:=1:Mat},{Name:=[98],Kind:=3:Mat}].length) 2,.rsl 4 (List.map Leg.c []),.rsl 5 (List.map Distance.c []),.rsl 2 (List.map Wave.c []),.rsl 4 (List.map Offence.c []),.rsl 3 (List.map Category.c []),.rsl 4 (List.map Prize.c []),.osl 7 0 ([{z_Step with Kind:=1,By:=4:Step}].length) 8,I 0,I 0,I 20,I 0,I 0,I 0,I 0]] Z Z ?_
 refine Go 1 Z ?_
 refine WO.le (Qa6 [(13,_)] Z Z (QkV.cons Z (FzA.agg (FzL.cons (FzA.refl _) (FzL.cons FzA.o (FzL.refl _)))) QkV.nil) (FzH.keep (FzH.keep (FzH.keep (FzH.keep (FzH.keep (FzH.keep (FzH.keep (FzH.keep (FzH.cells (FzL.cons (FzA.refl _) (FzL.cons FzA.o (FzL.refl _))) (Y9 _))))))))))) ?_
 refine WO.le (Qa6 [(13,_)] Z Z (QkV.cons Z (FzA.agg (FzL.cons (FzA.refl _) (FzL.cons (FzA.refl _) (FzL.cons (FzA.refl _) (FzL.cons (FzA.refl _) (FzL.cons (FzA.refl _) (FzL.cons (FzA.refl _) (FzL.cons (FzA.refl _) (FzL.cons (FzA.refl _) (FzL.cons FzA.o (FzL.refl _))))))))))) QkV.nil) (FzH.keep (FzH.keep (FzH.keep (FzH.keep (FzH.keep (FzH.keep (FzH.keep (FzH.keep (FzH.cells (FzL.cons (FzA.refl _) (FzL.cons (FzA.refl _) (FzL.cons (FzA.refl _) (FzL.cons (FzA.refl _) (FzL.cons (FzA.refl _) (FzL.cons (FzA.refl _) (FzL.cons (FzA.refl _) (FzL.cons (FzA.refl _) (FzL.cons FzA.o (FzL.refl _)))))))))) (Y9 _))))))))))) ?_
 refine WO.le (Qa6 [(1,_),(12,_),(14,_)] Z Z (QkV.cons Z FzA.o (QkV.cons Z FzA.o (QkV.cons Z FzA.o QkV.nil))) (FzH.keep (FzH.keep (FzH.keep (FzH.keep (FzH.keep (FzH.keep (Y9 _)))))))) ?_
 refine Cd [] h (k_f _ _ _) Z fun d ak h=>?_
 refine aV (.osl 9 0 d.length 5) [_,_,_,_,_,.dead,.dead,.dead,.cells 67 (Course.c ({z_Course with Name:=[99],Mats:=[{Name:=[97],Kind:=1:Mat},{Name:=[98],Kind:=3:Mat}],Ties:=[{z_Step with Kind:=1,By:=4:Step}],Faults:={z_Faults with Window:=20:Faults}:Course})),.row 26 5 (List.map Hit.c d),.cells 68 [.osl 9 0 d.length 5]] Z Z ?_
 refine Go 5 Z (Cd [] h (k_o _ _) Z fun r8 al h=>?_)
 refine aV (.agg [.str [99],.osl 11 0 ([{Name:=[97],Kind:=1:Mat},{Name:=[98],Kind:=3:Mat}].length) 2,.rsl 4 (List.map Leg.c []),.rsl 5 (List.map Distance.c []),.rsl 2 (List.map Wave.c []),.rsl 4 (List.map Offence.c []),.rsl 3 (List.map Category.c []),.rsl 4 (List.map Prize.c []),.osl 12 0 ([{z_Step with Kind:=1,By:=4:Step}].length) 8,I 0,I 0,I 21,I 0,I 0,I 0,I 0]) [_,_,_,_,_,_,_,_,_,_,_,.row 115 2 (List.map Mat.c [{Name:=[97],Kind:=1:Mat},{Name:=[98],Kind:=3:Mat}]),.row 120 8 (List.map Step.enc [{z_Step with Kind:=1,By:=4:Step}]),.cells 67 [.str [99],.osl 11 0 ([{Name:=[97],Kind:=1:Mat},{Name:=[98],Kind:=3:Mat}].length) 2,.rsl 4 (List.map Leg.c []),.rsl 5 (List.map Distance.c []),.rsl 2 (List.map Wave.c []),.rsl 4 (List.map Offence.c []),.rsl 3 (List.map Category.c []),.rsl 4 (List.map Prize.c []),.osl 12 0 ([{z_Step with Kind:=1,By:=4:Step}].length) 8,I 0,I 0,I 21,I 0,I 0,I 0,I 0]] Z Z ?_
 refine Go 1 Z ?_
 refine WO.le (Qa6 [(16,_)] Z Z (QkV.cons Z (FzA.agg (FzL.cons (FzA.refl _) (FzL.cons FzA.o (FzL.refl _)))) QkV.nil) (FzH.keep (FzH.keep (FzH.keep (FzH.keep (FzH.keep (FzH.keep (FzH.keep (FzH.keep (FzH.keep (FzH.keep (FzH.keep (FzH.keep (FzH.keep (FzH.cells (FzL.cons (FzA.refl _) (FzL.cons FzA.o (FzL.refl _))) (Y9 _)))))))))))))))) ?_
 refine WO.le (Qa6 [(16,_)] Z Z (QkV.cons Z (FzA.agg (FzL.cons (FzA.refl _) (FzL.cons (FzA.refl _) (FzL.cons (FzA.refl _) (FzL.cons (FzA.refl _) (FzL.cons (FzA.refl _) (FzL.cons (FzA.refl _) (FzL.cons (FzA.refl _) (FzL.cons (FzA.refl _) (FzL.cons FzA.o (FzL.refl _))))))))))) QkV.nil) (FzH.keep (FzH.keep (FzH.keep (FzH.keep (FzH.keep (FzH.keep (FzH.keep (FzH.keep (FzH.keep (FzH.keep (FzH.keep (FzH.keep (FzH.keep (FzH.cells (FzL.cons (FzA.refl _) (FzL.cons (FzA.refl _) (FzL.cons (FzA.refl _) (FzL.cons (FzA.refl _) (FzL.cons (FzA.refl _) (FzL.cons (FzA.refl _) (FzL.cons (FzA.refl _) (FzL.cons (FzA.refl _) (FzL.cons FzA.o (FzL.refl _)))))))))) (Y9 _)))))))))))))))) ?_
 refine Cd [] h (k_am _ _ _ _) Z fun g am h=>?_
 refine aV (.osl 14 0 g.length 5) [_,_,_,_,_,_,_,_,_,_,_,.dead,.dead,.cells 67 (Course.c ({z_Course with Name:=[99],Mats:=[{Name:=[97],Kind:=1:Mat},{Name:=[98],Kind:=3:Mat}],Ties:=[{z_Step with Kind:=1,By:=4:Step}],Faults:={z_Faults with Window:=21:Faults}:Course})),.row 26 5 (List.map Hit.c g)] Z Z ?_
 refine Go 11 Z (Bd h fun i a h=>?_)
 refine Ct i [] [] (fun i=>[(0,.bool i)]) (fun _=>[]) (fun _=>rfl) ?_ (fun env H Y=>?_)
 ·refine G0 0 Z (DKs 70 [30,32,39,60,66] [(0,0,0),(0,0,0),(0,0,0),(0,0,0),(0,0,0),(0,0,0),(0,0,0),(0,0,0),(0,0,0),(0,0,0),(0,0,0),(0,0,0),(0,0,0),(0,0,0),(0,0,0),(0,0,0),(0,0,0),(0,0,0),(0,0,0),(0,0,0),(0,0,0),(0,0,0),(0,0,0),(0,0,0),(0,0,0),(0,0,0),(0,0,0),(0,0,0),(0,0,0),(0,0,0),(1,0,0),(0,0,1),(1,1,0),(0,2,2),(0,2,2),(0,2,2),(0,2,2),(0,2,2),(0,2,2),(1,2,0),(0,3,3),(0,3,3),(0,3,3),(0,3,3),(0,3,3),(0,3,3),(0,3,3),(0,3,3),(0,3,3),(0,3,3),(0,3,3),(0,3,3),(0,3,3),(0,3,3),(0,3,3),(0,3,3),(0,3,3),(0,3,3),(0,3,3),(0,3,3),(1,3,0),(0,3,4),(0,4,4),(0,4,4),(0,4,4),(0,4,4),(1,4,0),(0,4,5),(0,4,5),(0,4,5)] (by kernel_rfl) (Dk 4 Z (Qby 3 a Z Z Z (fun u a=>?_) (fun u a=>?_))))
  ·refine Dk 1 Z ?_
   obtain⟨f,j,a⟩:=bnd a
   refine DK.wo (x:=.ptr 9 (Int.toNat 0*5)) ?_ ?_
   ·refine vX (.ptr 9 (Int.toNat 0*5)) (QZ j Z runUnderlying68 sizeOf26) ?_ (gT Z)
    exact Wp
   refine DK.wo (x:=.agg (Hit.c f)) ?_ ?_
   ·refine vX (.agg (Hit.c f)) (Qn Z isAgg26 sizeOf26 Z (QD j) Z Z) ?_ (gT Z)
    exact Wp
   refine Dk 1 Z ?_
   refine DK.wo (x:=.bool (f==({Mat:=1,Epoch:=0,Chip:=7,First:=100,Last:=130:Hit}))) ?_ ?_
   ·refine vX (.bool (f==({Mat:=1,Epoch:=0,Chip:=7,First:=100,Last:=130:Hit}))) (Qfh (p:=f) (q:={Mat:=1,Epoch:=0,Chip:=7,First:=100,Last:=130:Hit}) Qki Z Z) ?_ (gT Z)
    exact Wp
   refine Dk 2 Z (Qby 10 a Z Z Z (fun w a=>?_) (fun w a=>?_))
   ·refine Dk 1 Z ?_
    obtain⟨m,k,a⟩:=bnd a
    refine DK.wo (x:=.ptr 9 (Int.toNat 1*5)) ?_ ?_
    ·refine vX (.ptr 9 (Int.toNat 1*5)) (QZ k Z runUnderlying68 sizeOf26) ?_ (gT Z)
     exact Wp
    refine DK.wo (x:=.ptr 9 (Int.toNat 1*5+3)) ?_ ?_
    ·exact Fpg (gT Z) Qlp Z Wp
    refine DK.wo (x:=I m.First) ?_ ?_
    ·refine vX (I m.First) (OpV.load Z isAgg3 Z (Qfe k)) ?_ (gT Z)
     exact Wp
    refine Dk 3 Z (Qby 17 a Z Z Z (fun y a=>?_) (fun y a=>?_))
    ·refine Dk 5 Z (Qby 22 a Z Z Z (fun z a=>?_) (fun z a=>?_))
     ·refine Dk 1 Z ?_
      obtain⟨s,l,a⟩:=bnd a
      refine DK.wo (x:=.ptr 14 (Int.toNat 0*5)) ?_ ?_
      ·refine vX (.ptr 14 (Int.toNat 0*5)) (QZ l Z runUnderlying68 sizeOf26) ?_ (gT Z)
       exact Wp
      refine DK.wo (x:=.ptr 14 (Int.toNat 0*5+4)) ?_ ?_
      ·exact Fpg (gT Z) Qlo Z Wp
      refine DK.wo (x:=I s.Last) ?_ ?_
      ·refine vX (I s.Last) (OpV.load Z isAgg3 Z (Qfe l)) ?_ (gT Z)
       exact Wp
      refine Dk 3 Z (Qby 29 a Z Z Z (fun B a=>?_) (fun B a=>?_))
      ·obtain⟨an,E,a⟩:=bnd a
       refine DK.op (x:=.agg (Course.c ({z_Course with Name:=[99],Mats:=[{Name:=[97],Kind:=1:Mat},{Name:=[98],Kind:=3:Mat}],Ties:=[{z_Step with Kind:=1,By:=4:Step}],Faults:={z_Faults with Window:=20:Faults}:Course}))) (X1:=[.cells 52 (Fact.c ({z_Fact with No:=4,Kind:=2,Read:={Mat:=1,Epoch:=0,Chip:=7,Local:=151:Read}:Fact})),.cells 52 (Fact.c ({z_Fact with No:=1,Kind:=2,Read:={Mat:=1,Epoch:=0,Chip:=7,Local:=100:Read}:Fact})),.cells 52 (Fact.c ({z_Fact with No:=2,Kind:=2,Read:={Mat:=1,Epoch:=0,Chip:=7,Local:=115:Read}:Fact})),.cells 52 (Fact.c ({z_Fact with No:=3,Kind:=2,Read:={Mat:=1,Epoch:=0,Chip:=7,Local:=130:Read}:Fact})),.cells 52 (Fact.c ({z_Fact with No:=6,Kind:=2,Read:={Mat:=1,Epoch:=0,Chip:=7,Local:=6:Read}:Fact})),.dead,.dead,.dead,.cells 67 (Course.c ({z_Course with Name:=[99],Mats:=[{Name:=[97],Kind:=1:Mat},{Name:=[98],Kind:=3:Mat}],Ties:=[{z_Step with Kind:=1,By:=4:Step}],Faults:={z_Faults with Window:=20:Faults}:Course})),.row 26 5 (List.map Hit.c d),.cells 68 [.osl 9 0 d.length 5],.dead,.dead,.cells 67 (Course.c ({z_Course with Name:=[99],Mats:=[{Name:=[97],Kind:=1:Mat},{Name:=[98],Kind:=3:Mat}],Ties:=[{z_Step with Kind:=1,By:=4:Step}],Faults:={z_Faults with Window:=21:Faults}:Course})),.row 26 5 (List.map Hit.c g),.cells 26 [I 1,I 0,I 7,I 100,I 130],.dead,.dead,.cells 67 (Course.c ({z_Course with Name:=[99],Mats:=[{Name:=[97],Kind:=1:Mat},{Name:=[98],Kind:=3:Mat}],Ties:=[{z_Step with Kind:=1,By:=4:Step}],Faults:={z_Faults with Window:=20:Faults}:Course}))]) ?_ ?_
       ·refine Qz [] (OpC.fn call22 Z Z Z) (k_o _ _ _ E) ?_ (hg:=(gT Z))
        rintro _ _ ⟨rfl,rfl⟩
        refine aV (.agg [.str [99],.osl 16 0 ([{Name:=[97],Kind:=1:Mat},{Name:=[98],Kind:=3:Mat}].length) 2,.rsl 4 (List.map Leg.c []),.rsl 5 (List.map Distance.c []),.rsl 2 (List.map Wave.c []),.rsl 4 (List.map Offence.c []),.rsl 3 (List.map Category.c []),.rsl 4 (List.map Prize.c []),.osl 17 0 ([{z_Step with Kind:=1,By:=4:Step}].length) 8,I 0,I 0,I 20,I 0,I 0,I 0,I 0]) [_,_,_,_,_,_,_,_,_,_,_,_,_,_,_,_,.row 115 2 (List.map Mat.c [{Name:=[97],Kind:=1:Mat},{Name:=[98],Kind:=3:Mat}]),.row 120 8 (List.map Step.enc [{z_Step with Kind:=1,By:=4:Step}]),.cells 67 [.str [99],.osl 16 0 ([{Name:=[97],Kind:=1:Mat},{Name:=[98],Kind:=3:Mat}].length) 2,.rsl 4 (List.map Leg.c []),.rsl 5 (List.map Distance.c []),.rsl 2 (List.map Wave.c []),.rsl 4 (List.map Offence.c []),.rsl 3 (List.map Category.c []),.rsl 4 (List.map Prize.c []),.osl 17 0 ([{z_Step with Kind:=1,By:=4:Step}].length) 8,I 0,I 0,I 20,I 0,I 0,I 0,I 0]] Z Z ?_
        refine WO.le (Qa6 [(50,_)] Z Z (QkV.cons Z (FzA.agg (FzL.cons (FzA.refl _) (FzL.cons FzA.o (FzL.refl _)))) QkV.nil) (FzH.keep (FzH.keep (FzH.keep (FzH.keep (FzH.keep (FzH.keep (FzH.keep (FzH.keep (FzH.keep (FzH.keep (FzH.keep (FzH.keep (FzH.keep (FzH.keep (FzH.keep (FzH.keep (FzH.keep (FzH.keep (FzH.cells (FzL.cons (FzA.refl _) (FzL.cons FzA.o (FzL.refl _))) (Y9 _))))))))))))))))))))) ?_
        refine WO.le Qbv ?_
        refine WO.le (Qa6 [(50,_)] Z Z (QkV.cons Z (FzA.agg (FzL.cons (FzA.refl _) (FzL.cons (FzA.refl _) (FzL.cons (FzA.refl _) (FzL.cons (FzA.refl _) (FzL.cons (FzA.refl _) (FzL.cons (FzA.refl _) (FzL.cons (FzA.refl _) (FzL.cons (FzA.refl _) (FzL.cons FzA.o (FzL.refl _))))))))))) QkV.nil) (FzH.keep (FzH.keep (FzH.keep (FzH.keep (FzH.keep (FzH.keep (FzH.keep (FzH.keep (FzH.keep (FzH.keep (FzH.keep (FzH.keep (FzH.keep (FzH.keep (FzH.keep (FzH.keep (FzH.keep (FzH.keep (FzH.cells (FzL.cons (FzA.refl _) (FzL.cons (FzA.refl _) (FzL.cons (FzA.refl _) (FzL.cons (FzA.refl _) (FzL.cons (FzA.refl _) (FzL.cons (FzA.refl _) (FzL.cons (FzA.refl _) (FzL.cons (FzA.refl _) (FzL.cons FzA.o (FzL.refl _)))))))))) (Y9 _))))))))))))))))))))) ?_
        refine WO.le Qbv ?_
        exact Wp
       refine Dk 1 Z ?_
       obtain⟨e,F,a⟩:=bnd a
       refine DK.op (x:=.osl 19 0 e.length 5) (X1:=[.cells 52 (Fact.c ({z_Fact with No:=4,Kind:=2,Read:={Mat:=1,Epoch:=0,Chip:=7,Local:=151:Read}:Fact})),.cells 52 (Fact.c ({z_Fact with No:=1,Kind:=2,Read:={Mat:=1,Epoch:=0,Chip:=7,Local:=100:Read}:Fact})),.cells 52 (Fact.c ({z_Fact with No:=2,Kind:=2,Read:={Mat:=1,Epoch:=0,Chip:=7,Local:=115:Read}:Fact})),.cells 52 (Fact.c ({z_Fact with No:=3,Kind:=2,Read:={Mat:=1,Epoch:=0,Chip:=7,Local:=130:Read}:Fact})),.cells 52 (Fact.c ({z_Fact with No:=6,Kind:=2,Read:={Mat:=1,Epoch:=0,Chip:=7,Local:=6:Read}:Fact})),.dead,.dead,.dead,.cells 67 (Course.c ({z_Course with Name:=[99],Mats:=[{Name:=[97],Kind:=1:Mat},{Name:=[98],Kind:=3:Mat}],Ties:=[{z_Step with Kind:=1,By:=4:Step}],Faults:={z_Faults with Window:=20:Faults}:Course})),.row 26 5 (List.map Hit.c d),.cells 68 [.osl 9 0 d.length 5],.dead,.dead,.cells 67 (Course.c ({z_Course with Name:=[99],Mats:=[{Name:=[97],Kind:=1:Mat},{Name:=[98],Kind:=3:Mat}],Ties:=[{z_Step with Kind:=1,By:=4:Step}],Faults:={z_Faults with Window:=21:Faults}:Course})),.row 26 5 (List.map Hit.c g),.cells 26 [I 1,I 0,I 7,I 100,I 130],.dead,.dead,.cells 67 (Course.c ({z_Course with Name:=[99],Mats:=[{Name:=[97],Kind:=1:Mat},{Name:=[98],Kind:=3:Mat}],Ties:=[{z_Step with Kind:=1,By:=4:Step}],Faults:={z_Faults with Window:=20:Faults}:Course})),.row 26 5 (List.map Hit.c e)]) ?_ ?_
       ·refine Qz [] (OpC.fn call20 Z Z Z) (k_am _ _ _ _ _ F) ?_ (hg:=(gT Z))
        rintro _ _ ⟨rfl,rfl⟩
        refine aV (.osl 19 0 e.length 5) [_,_,_,_,_,_,_,_,_,_,_,_,_,_,_,_,_,_,_,.row 26 5 (List.map Hit.c e)] Z Z ?_
        exact Wp
       refine Dk 4 Z (Qby 36 a Z Z Z (fun G a=>?_) (fun G a=>?_))
       ·refine Dk 2 Z ?_
        obtain⟨b,J,a⟩:=bnd a
        refine DK.op (x:=.osl 20 0 b.length 5) (X1:=[.cells 52 (Fact.c ({z_Fact with No:=4,Kind:=2,Read:={Mat:=1,Epoch:=0,Chip:=7,Local:=151:Read}:Fact})),.cells 52 (Fact.c ({z_Fact with No:=1,Kind:=2,Read:={Mat:=1,Epoch:=0,Chip:=7,Local:=100:Read}:Fact})),.cells 52 (Fact.c ({z_Fact with No:=2,Kind:=2,Read:={Mat:=1,Epoch:=0,Chip:=7,Local:=115:Read}:Fact})),.cells 52 (Fact.c ({z_Fact with No:=3,Kind:=2,Read:={Mat:=1,Epoch:=0,Chip:=7,Local:=130:Read}:Fact})),.cells 52 (Fact.c ({z_Fact with No:=6,Kind:=2,Read:={Mat:=1,Epoch:=0,Chip:=7,Local:=6:Read}:Fact})),.dead,.dead,.dead,.cells 67 (Course.c ({z_Course with Name:=[99],Mats:=[{Name:=[97],Kind:=1:Mat},{Name:=[98],Kind:=3:Mat}],Ties:=[{z_Step with Kind:=1,By:=4:Step}],Faults:={z_Faults with Window:=20:Faults}:Course})),.row 26 5 (List.map Hit.c d),.cells 68 [.osl 9 0 d.length 5],.dead,.dead,.cells 67 (Course.c ({z_Course with Name:=[99],Mats:=[{Name:=[97],Kind:=1:Mat},{Name:=[98],Kind:=3:Mat}],Ties:=[{z_Step with Kind:=1,By:=4:Step}],Faults:={z_Faults with Window:=21:Faults}:Course})),.row 26 5 (List.map Hit.c g),.cells 26 [I 1,I 0,I 7,I 100,I 130],.dead,.dead,.cells 67 (Course.c ({z_Course with Name:=[99],Mats:=[{Name:=[97],Kind:=1:Mat},{Name:=[98],Kind:=3:Mat}],Ties:=[{z_Step with Kind:=1,By:=4:Step}],Faults:={z_Faults with Window:=20:Faults}:Course})),.row 26 5 (List.map Hit.c e),.row 26 5 (List.map Hit.c b),.cells 68 [.osl 20 0 b.length 5]]) ?_ ?_
        ·refine Qz [] (OpC.fn call16 Z Z Z) (k_f _ _ _ _ J) ?_ (hg:=(gT Z))
         rintro _ _ ⟨rfl,rfl⟩
         refine aV (.osl 20 0 b.length 5) [_,_,_,_,_,_,_,_,_,_,_,_,_,_,_,_,_,_,_,_,.row 26 5 (List.map Hit.c b),.cells 68 [.osl 20 0 b.length 5]] Z Z ?_
         exact Wp
        refine Dk 4 Z (Qby 43 a Z Z Z (fun L a=>?_) (fun L a=>?_))
        ·refine Dk 2 Z ?_
         obtain⟨aa,M,a⟩:=bnd a
         refine DK.wo (x:=.bool aa) ?_ ?_
         ·exact Pc [] Z (OpC.fn call9 Z Z Z) (k_cb _ _ _ _ M) (hg:=(gT Z)) Z Wp
         refine Dk 2 Z (Qby 48 a Z Z Z (fun N a=>?_) (fun N a=>?_))
         ·refine Dk 2 Z ?_
          obtain⟨ab,O,a⟩:=bnd a
          refine DK.wo (x:=.bool ab) ?_ ?_
          ·exact Pc [] Z (OpC.fn call9 Z Z Z) (k_cb _ _ _ _ O) (hg:=(gT Z)) Z Wp
          refine Dk 3 Z (Qby 54 a Z Z Z (fun P a=>?_) (fun P a=>?_))
          ·refine Dk 2 Z ?_
           obtain⟨ac,Q,a⟩:=bnd a
           refine DK.wo (x:=.bool ac) ?_ ?_
           ·exact Pc [] Z (OpC.fn call11 Z Z Z) (k_ex _ _ _ _ Q) (hg:=(gT Z)) Z Wp
           refine Dk 2 Z (Qby 59 a Z Z Z (fun R a=>?_) (fun R a=>?_))
           ·obtain⟨ao,T,a⟩:=bnd a
            refine DK.op (x:=.agg (Course.c ({z_Course with Name:=[99],Mats:=[{Name:=[97],Kind:=1:Mat},{Name:=[98],Kind:=3:Mat}],Ties:=[{z_Step with Kind:=1,By:=4:Step}],Faults:={z_Faults with Window:=20:Faults}:Course}))) (X1:=[.cells 52 (Fact.c ({z_Fact with No:=4,Kind:=2,Read:={Mat:=1,Epoch:=0,Chip:=7,Local:=151:Read}:Fact})),.cells 52 (Fact.c ({z_Fact with No:=1,Kind:=2,Read:={Mat:=1,Epoch:=0,Chip:=7,Local:=100:Read}:Fact})),.cells 52 (Fact.c ({z_Fact with No:=2,Kind:=2,Read:={Mat:=1,Epoch:=0,Chip:=7,Local:=115:Read}:Fact})),.cells 52 (Fact.c ({z_Fact with No:=3,Kind:=2,Read:={Mat:=1,Epoch:=0,Chip:=7,Local:=130:Read}:Fact})),.cells 52 (Fact.c ({z_Fact with No:=6,Kind:=2,Read:={Mat:=1,Epoch:=0,Chip:=7,Local:=6:Read}:Fact})),.dead,.dead,.dead,.cells 67 (Course.c ({z_Course with Name:=[99],Mats:=[{Name:=[97],Kind:=1:Mat},{Name:=[98],Kind:=3:Mat}],Ties:=[{z_Step with Kind:=1,By:=4:Step}],Faults:={z_Faults with Window:=20:Faults}:Course})),.row 26 5 (List.map Hit.c d),.cells 68 [.osl 9 0 d.length 5],.dead,.dead,.cells 67 (Course.c ({z_Course with Name:=[99],Mats:=[{Name:=[97],Kind:=1:Mat},{Name:=[98],Kind:=3:Mat}],Ties:=[{z_Step with Kind:=1,By:=4:Step}],Faults:={z_Faults with Window:=21:Faults}:Course})),.row 26 5 (List.map Hit.c g),.cells 26 [I 1,I 0,I 7,I 100,I 130],.dead,.dead,.cells 67 (Course.c ({z_Course with Name:=[99],Mats:=[{Name:=[97],Kind:=1:Mat},{Name:=[98],Kind:=3:Mat}],Ties:=[{z_Step with Kind:=1,By:=4:Step}],Faults:={z_Faults with Window:=20:Faults}:Course})),.row 26 5 (List.map Hit.c e),.row 26 5 (List.map Hit.c b),.cells 68 [.osl 20 0 b.length 5],.dead,.dead,.cells 67 (Course.c ({z_Course with Name:=[99],Mats:=[{Name:=[97],Kind:=1:Mat},{Name:=[98],Kind:=3:Mat}],Ties:=[{z_Step with Kind:=1,By:=4:Step}],Faults:={z_Faults with Window:=20:Faults}:Course}))]) ?_ ?_
            ·refine Qz [] (OpC.fn call22 Z Z Z) (k_o _ _ _ T) ?_ (hg:=(gT Z))
             rintro _ _ ⟨rfl,rfl⟩
             refine aV (.agg [.str [99],.osl 22 0 ([{Name:=[97],Kind:=1:Mat},{Name:=[98],Kind:=3:Mat}].length) 2,.rsl 4 (List.map Leg.c []),.rsl 5 (List.map Distance.c []),.rsl 2 (List.map Wave.c []),.rsl 4 (List.map Offence.c []),.rsl 3 (List.map Category.c []),.rsl 4 (List.map Prize.c []),.osl 23 0 ([{z_Step with Kind:=1,By:=4:Step}].length) 8,I 0,I 0,I 20,I 0,I 0,I 0,I 0]) [_,_,_,_,_,_,_,_,_,_,_,_,_,_,_,_,_,_,_,_,_,_,.row 115 2 (List.map Mat.c [{Name:=[97],Kind:=1:Mat},{Name:=[98],Kind:=3:Mat}]),.row 120 8 (List.map Step.enc [{z_Step with Kind:=1,By:=4:Step}]),.cells 67 [.str [99],.osl 22 0 ([{Name:=[97],Kind:=1:Mat},{Name:=[98],Kind:=3:Mat}].length) 2,.rsl 4 (List.map Leg.c []),.rsl 5 (List.map Distance.c []),.rsl 2 (List.map Wave.c []),.rsl 4 (List.map Offence.c []),.rsl 3 (List.map Category.c []),.rsl 4 (List.map Prize.c []),.osl 23 0 ([{z_Step with Kind:=1,By:=4:Step}].length) 8,I 0,I 0,I 20,I 0,I 0,I 0,I 0]] Z Z ?_
             refine WO.le (Qa6 [(80,_)] Z Z (QkV.cons Z (FzA.agg (FzL.cons (FzA.refl _) (FzL.cons FzA.o (FzL.refl _)))) QkV.nil) (FzH.keep (FzH.keep (FzH.keep (FzH.keep (FzH.keep (FzH.keep (FzH.keep (FzH.keep (FzH.keep (FzH.keep (FzH.keep (FzH.keep (FzH.keep (FzH.keep (FzH.keep (FzH.keep (FzH.keep (FzH.keep (FzH.keep (FzH.keep (FzH.keep (FzH.keep (FzH.keep (FzH.keep (FzH.cells (FzL.cons (FzA.refl _) (FzL.cons FzA.o (FzL.refl _))) (Y9 _))))))))))))))))))))))))))) ?_
             refine WO.le Qbv ?_
             refine WO.le (Qa6 [(80,_)] Z Z (QkV.cons Z (FzA.agg (FzL.cons (FzA.refl _) (FzL.cons (FzA.refl _) (FzL.cons (FzA.refl _) (FzL.cons (FzA.refl _) (FzL.cons (FzA.refl _) (FzL.cons (FzA.refl _) (FzL.cons (FzA.refl _) (FzL.cons (FzA.refl _) (FzL.cons FzA.o (FzL.refl _))))))))))) QkV.nil) (FzH.keep (FzH.keep (FzH.keep (FzH.keep (FzH.keep (FzH.keep (FzH.keep (FzH.keep (FzH.keep (FzH.keep (FzH.keep (FzH.keep (FzH.keep (FzH.keep (FzH.keep (FzH.keep (FzH.keep (FzH.keep (FzH.keep (FzH.keep (FzH.keep (FzH.keep (FzH.keep (FzH.keep (FzH.cells (FzL.cons (FzA.refl _) (FzL.cons (FzA.refl _) (FzL.cons (FzA.refl _) (FzL.cons (FzA.refl _) (FzL.cons (FzA.refl _) (FzL.cons (FzA.refl _) (FzL.cons (FzA.refl _) (FzL.cons (FzA.refl _) (FzL.cons FzA.o (FzL.refl _)))))))))) (Y9 _))))))))))))))))))))))))))) ?_
             refine WO.le Qbv ?_
             exact Wp
            refine Dk 1 Z ?_
            obtain⟨t,V,a⟩:=bnd a
            refine DK.wo (x:=I t) ?_ ?_
            ·refine QgO (OpC.fn call14 rfl rfl rfl) (Qa5.cons rfl (.inl ⟨rfl,rfl⟩) (Qa5.cons rfl (.inr ⟨_,_,_,_,_,rfl,rfl,List.length_map ..,rfl⟩) Qa5.nil)) (k_az _ _ _ _ V) (by rintro _ _ ⟨rfl,rfl⟩;rfl) ?_ (gT rfl)
             rintro _ _ ⟨rfl,rfl⟩
             refine aV (I t) [_,_,_,_,_,_,_,_,_,_,_,_,_,_,_,_,_,_,_,_,_,_,_,_,_] Z Z ?_
             exact Wp
            refine Dk 3 Z (Qby 65 a Z Z Z (fun W a=>?_) (fun W a=>?_))
            ·obtain⟨aq,X,a⟩:=bnd a
             refine DK.op (x:=.agg (Course.c ({z_Course with Name:=[99],Mats:=[{Name:=[97],Kind:=1:Mat},{Name:=[98],Kind:=3:Mat}],Ties:=[{z_Step with Kind:=1,By:=4:Step}],Faults:={z_Faults with Window:=20:Faults}:Course}))) (X1:=[.cells 52 (Fact.c ({z_Fact with No:=4,Kind:=2,Read:={Mat:=1,Epoch:=0,Chip:=7,Local:=151:Read}:Fact})),.cells 52 (Fact.c ({z_Fact with No:=1,Kind:=2,Read:={Mat:=1,Epoch:=0,Chip:=7,Local:=100:Read}:Fact})),.cells 52 (Fact.c ({z_Fact with No:=2,Kind:=2,Read:={Mat:=1,Epoch:=0,Chip:=7,Local:=115:Read}:Fact})),.cells 52 (Fact.c ({z_Fact with No:=3,Kind:=2,Read:={Mat:=1,Epoch:=0,Chip:=7,Local:=130:Read}:Fact})),.cells 52 (Fact.c ({z_Fact with No:=6,Kind:=2,Read:={Mat:=1,Epoch:=0,Chip:=7,Local:=6:Read}:Fact})),.dead,.dead,.dead,.cells 67 (Course.c ({z_Course with Name:=[99],Mats:=[{Name:=[97],Kind:=1:Mat},{Name:=[98],Kind:=3:Mat}],Ties:=[{z_Step with Kind:=1,By:=4:Step}],Faults:={z_Faults with Window:=20:Faults}:Course})),.row 26 5 (List.map Hit.c d),.cells 68 [.osl 9 0 d.length 5],.dead,.dead,.cells 67 (Course.c ({z_Course with Name:=[99],Mats:=[{Name:=[97],Kind:=1:Mat},{Name:=[98],Kind:=3:Mat}],Ties:=[{z_Step with Kind:=1,By:=4:Step}],Faults:={z_Faults with Window:=21:Faults}:Course})),.row 26 5 (List.map Hit.c g),.cells 26 [I 1,I 0,I 7,I 100,I 130],.dead,.dead,.cells 67 (Course.c ({z_Course with Name:=[99],Mats:=[{Name:=[97],Kind:=1:Mat},{Name:=[98],Kind:=3:Mat}],Ties:=[{z_Step with Kind:=1,By:=4:Step}],Faults:={z_Faults with Window:=20:Faults}:Course})),.row 26 5 (List.map Hit.c e),.row 26 5 (List.map Hit.c b),.cells 68 [.osl 20 0 b.length 5],.dead,.dead,.cells 67 (Course.c ({z_Course with Name:=[99],Mats:=[{Name:=[97],Kind:=1:Mat},{Name:=[98],Kind:=3:Mat}],Ties:=[{z_Step with Kind:=1,By:=4:Step}],Faults:={z_Faults with Window:=20:Faults}:Course})),.dead,.dead,.cells 67 (Course.c ({z_Course with Name:=[99],Mats:=[{Name:=[97],Kind:=1:Mat},{Name:=[98],Kind:=3:Mat}],Ties:=[{z_Step with Kind:=1,By:=4:Step}],Faults:={z_Faults with Window:=20:Faults}:Course}))]) ?_ ?_
             ·refine Qz [] (OpC.fn call22 Z Z Z) (k_o _ _ _ X) ?_ (hg:=(gT Z))
              rintro _ _ ⟨rfl,rfl⟩
              refine aV (.agg [.str [99],.osl 25 0 ([{Name:=[97],Kind:=1:Mat},{Name:=[98],Kind:=3:Mat}].length) 2,.rsl 4 (List.map Leg.c []),.rsl 5 (List.map Distance.c []),.rsl 2 (List.map Wave.c []),.rsl 4 (List.map Offence.c []),.rsl 3 (List.map Category.c []),.rsl 4 (List.map Prize.c []),.osl 26 0 ([{z_Step with Kind:=1,By:=4:Step}].length) 8,I 0,I 0,I 20,I 0,I 0,I 0,I 0]) [_,_,_,_,_,_,_,_,_,_,_,_,_,_,_,_,_,_,_,_,_,_,_,_,_,.row 115 2 (List.map Mat.c [{Name:=[97],Kind:=1:Mat},{Name:=[98],Kind:=3:Mat}]),.row 120 8 (List.map Step.enc [{z_Step with Kind:=1,By:=4:Step}]),.cells 67 [.str [99],.osl 25 0 ([{Name:=[97],Kind:=1:Mat},{Name:=[98],Kind:=3:Mat}].length) 2,.rsl 4 (List.map Leg.c []),.rsl 5 (List.map Distance.c []),.rsl 2 (List.map Wave.c []),.rsl 4 (List.map Offence.c []),.rsl 3 (List.map Category.c []),.rsl 4 (List.map Prize.c []),.osl 26 0 ([{z_Step with Kind:=1,By:=4:Step}].length) 8,I 0,I 0,I 20,I 0,I 0,I 0,I 0]] Z Z ?_
              refine WO.le (Qa6 [(86,_)] Z Z (QkV.cons Z (FzA.agg (FzL.cons (FzA.refl _) (FzL.cons FzA.o (FzL.refl _)))) QkV.nil) (FzH.keep (FzH.keep (FzH.keep (FzH.keep (FzH.keep (FzH.keep (FzH.keep (FzH.keep (FzH.keep (FzH.keep (FzH.keep (FzH.keep (FzH.keep (FzH.keep (FzH.keep (FzH.keep (FzH.keep (FzH.keep (FzH.keep (FzH.keep (FzH.keep (FzH.keep (FzH.keep (FzH.keep (FzH.keep (FzH.keep (FzH.keep (FzH.cells (FzL.cons (FzA.refl _) (FzL.cons FzA.o (FzL.refl _))) (Y9 _)))))))))))))))))))))))))))))) ?_
              refine WO.le Qbv ?_
              refine WO.le (Qa6 [(86,_)] Z Z (QkV.cons Z (FzA.agg (FzL.cons (FzA.refl _) (FzL.cons (FzA.refl _) (FzL.cons (FzA.refl _) (FzL.cons (FzA.refl _) (FzL.cons (FzA.refl _) (FzL.cons (FzA.refl _) (FzL.cons (FzA.refl _) (FzL.cons (FzA.refl _) (FzL.cons FzA.o (FzL.refl _))))))))))) QkV.nil) (FzH.keep (FzH.keep (FzH.keep (FzH.keep (FzH.keep (FzH.keep (FzH.keep (FzH.keep (FzH.keep (FzH.keep (FzH.keep (FzH.keep (FzH.keep (FzH.keep (FzH.keep (FzH.keep (FzH.keep (FzH.keep (FzH.keep (FzH.keep (FzH.keep (FzH.keep (FzH.keep (FzH.keep (FzH.keep (FzH.keep (FzH.keep (FzH.cells (FzL.cons (FzA.refl _) (FzL.cons (FzA.refl _) (FzL.cons (FzA.refl _) (FzL.cons (FzA.refl _) (FzL.cons (FzA.refl _) (FzL.cons (FzA.refl _) (FzL.cons (FzA.refl _) (FzL.cons (FzA.refl _) (FzL.cons FzA.o (FzL.refl _)))))))))) (Y9 _)))))))))))))))))))))))))))))) ?_
              refine WO.le Qbv ?_
              exact Wp
             refine Dks (lo:=4) (hi:=5) (x:=.agg [I 1,I 0,I 7,I 100,I 130]) ⟨Z,Z,trivial⟩ ?_
             refine Dks (lo:=4) (hi:=5) (x:=.agg [I 1,I 0,I 7,I 100,I 130]) ⟨Z,Z,trivial⟩ ?_
             refine Ql2 (lo:=4) (hi:=5) (x:=.rsl 5 (List.map Hit.c [{Mat:=1,Epoch:=0,Chip:=7,First:=100,Last:=130:Hit},{Mat:=1,Epoch:=0,Chip:=7,First:=100,Last:=130:Hit}])) ⟨?_,?_,trivial⟩ ?_
             ·refine vH (Yr (xs:=[.tmp 87,.tmp 88]) (es:=List.map Hit.c [{Mat:=1,Epoch:=0,Chip:=7,First:=100,Last:=130:Hit},{Mat:=1,Epoch:=0,Chip:=7,First:=100,Last:=130:Hit}]) Qe8 Z Z Z Z Z ⟨Z,Z,trivial⟩ Z Z) ?_ (gT Z)
              refine aV (.rsl 5 (List.map Hit.c [{Mat:=1,Epoch:=0,Chip:=7,First:=100,Last:=130:Hit},{Mat:=1,Epoch:=0,Chip:=7,First:=100,Last:=130:Hit}])) [_,_,_,_,_,_,_,_,_,_,_,_,_,_,_,_,_,_,_,_,_,_,_,_,_,_,_,_] Z Z ?_
              exact Wp
             ·refine vH (Yr (xs:=[.tmp 87,.tmp 88]) (es:=List.map Hit.c [{Mat:=1,Epoch:=0,Chip:=7,First:=100,Last:=130:Hit},{Mat:=1,Epoch:=0,Chip:=7,First:=100,Last:=130:Hit}]) Qe8 Z Z Z Z Z ⟨Z,Z,trivial⟩ Z Z) ?_ (gT Z)
              refine aV (.rsl 5 (List.map Hit.c [{Mat:=1,Epoch:=0,Chip:=7,First:=100,Last:=130:Hit},{Mat:=1,Epoch:=0,Chip:=7,First:=100,Last:=130:Hit}])) [_,_,_,_,_,_,_,_,_,_,_,_,_,_,_,_,_,_,_,_,_,_,_,_,_] Z Z ?_
              exact Wp
             exact DK.done Z Z (Cz [] a (k_az _ _ _) Z fun ar ad a=>Go 4 Z (Cl a []))
            ·exact Dk 4 Z (DK.done Z Z (Go 5 Z (Cl a [])))
           ·exact Dk 10 Z (DK.done Z Z (Go 5 Z (Cl a [])))
          ·exact Dk 15 Z (DK.done Z Z (Go 5 Z (Cl a [])))
         ·exact Dk 21 Z (DK.done Z Z (Go 5 Z (Cl a [])))
        ·exact Dk 26 Z (DK.done Z Z (Go 5 Z (Cl a [])))
       ·exact Dk 33 Z (DK.done Z Z (Go 5 Z (Cl a [])))
      ·exact Dk 40 Z (DK.done Z Z (Go 5 Z (Cl a [])))
     ·exact Dk 47 Z (DK.done Z Z (Go 5 Z (Cl a [])))
    ·exact Dk 52 Z (DK.done Z Z (Go 5 Z (Cl a [])))
   ·exact Dk 59 Z (DK.done Z Z (Go 5 Z (Cl a [])))
  ·exact Dk 66 Z (DK.done Z Z (Go 5 Z (Cl a [])))
 exact Gx 1 Z (TC.le Y (Gc 1 Z (Rt h 0 [])))
def F_eq(n:Nat)(b:List Part)(rec149:(List Part)->Option Int)(a:Int×Int):Option (Ctl (Int×Int) Int):=
  ((bif decide (a.2<(b.length:Int))then some (decide (a.1<=256))else some false):Option Bool).bind fun c=>(bif c then(idx b a.2).bind fun d=>(rec149 d.Parts).bind fun e=>some (.cont (IntKind.i64.wrap (a.1+e),IntKind.i64.wrap (a.2+1)))else some (.done a.1))
def B_m(rec149:(List Part)->Option Int)(n:Nat)(b:List Part):Option Int:=
  (iter (F_eq n b rec149) n ((b.length:Int),0):Option Int).bind fun a=>some (if 257<a then 257 else a)
theorem QaP(rec149:(List Part)->Option Int)(d:∀(e:List Part) (r:Int),rec149 e=some r->Csm prog 27 [.rsl 3 (List.map Part.enc e)] [] (fun r=>I r) r)(n:Nat)(e:List Part)(r:Int)(h:B_m rec149 n e=some r):
    Csm prog 27 [.rsl 3 (List.map Part.enc e)] [] (fun r=>I r) r:=by
 refine Qb func27 Z Z Z ?_
 refine G0 8 Z (Lm Z (Go 9 Z (Bd h fun b p h=>?_)))
 refine Ct b [] [] (fun b=>[(3,I b)]) (fun _=>[]) (fun _=>rfl) ?_ (fun env H f=>?_)
 ·refine G0 1 Z ?_
  refine Lp [] [0] (fun g=>[(3,I g.1),(4,I g.2)]) (fun _=>[]) p (fun _=>rfl) (Lr []) fun g t a j=>?_
  refine G0 2 Z (Bd a fun i c a=>?_)
  refine Ct i [] [0,3,4] (fun i=>[(14,.bool i)]) (fun _=>[]) (fun _=>rfl) ?_ (fun env H f=>?_)
  ·refine G0 3 Z (Lm Z (Go 2 Z (Is 11 c Z (fun k c=>?_) (fun k c=>?_))))
   ·exact Go 4 Z (Cl c [])
   ·exact Go 4 Z (Cl c [])
  refine Gx 1 Z (TC.le f (CnS Z a (fun l a=>?_) (fun l a=>?_)))
  ·refine Gc 2 Z (QI a ?_)
   obtain rfl:=Oj j a
   exact Gx 1 Z (Q7 (Lr []))
  exact Gc 8 Z (Bd a fun q m a=>IzE m (Yw q) Z (Go 2 Z (Cz [] a (d _) Z fun u s a=>Go 10 Z (QH a (Lr [])))))
 refine Gx 1 Z (TC.le f (Gc 3 Z ?_))
 refine vX (I (if 257<b then 257 else b)) (OpV.min Z Z Z Z) ?_
 exact Go 4 Z (Rt h 2 [])
def F_m:Nat->(List Part)->Option Int
  |0=>fun _=>none
  |n+1=>B_m (F_m n) n
theorem k_m(n:Nat):∀(a:List Part) (r:Int),F_m n a=some r->Csm prog 27 [.rsl 3 (List.map Part.enc a)] [] (fun r=>I r) r:=by
  induction n with
  |zero=>intro a r h;cases h
  |succ n ih=>intro a r h;exact QaP _ ih n a r h
def F_cf(n:Nat)(c:List Part)(d:Int)(rec150:(List Part)->Int->Option Int)(a:Int×Int):Option (Ctl (Int×Int) Int):=
  ((bif decide (a.2<(c.length:Int))then some (decide (0<d))else some false):Option Bool).bind fun e=>(bif e then(idx c a.2).bind fun f=>((bif ((f.Parts.length:Int) != 0)then(idx c a.2).bind fun g=>(rec150 g.Parts (IntKind.i64.wrap (d-1))).bind fun b=>some (if a.1<IntKind.i64.wrap (1+b)then IntKind.i64.wrap (1+b)else a.1)else some a.1):Option Int).bind fun h=>some (.cont (h,IntKind.i64.wrap (a.2+1)))else some (.done a.1))
def B_i(rec150:(List Part)->Int->Option Int)(n:Nat)(b:List Part)(c:Int):Option Int:=
  (iter (F_cf n b c rec150) n (0,0):Option Int).bind fun a=>some a
theorem QaO(rec150:(List Part)->Int->Option Int)(f:∀(g:List Part) (i:Int) (r:Int),rec150 g i=some r->Csm prog 28 [.rsl 3 (List.map Part.enc g),I i] [] (fun r=>I r) r)(n:Nat)(g:List Part)(i:Int)(r:Int)(h:B_i rec150 n g i=some r):
    Csm prog 28 [.rsl 3 (List.map Part.enc g),I i] [] (fun r=>I r) r:=by
 refine Qb func28 Z Z Z ?_
 refine G0 16 Z (Bd h fun j x h=>?_)
 refine Ct j [] [] (fun j=>[(5,I j)]) (fun _=>[]) (fun _=>rfl) ?_ (fun env H c=>?_)
 ·refine G0 1 Z ?_
  refine Lp [] [0,1] (fun d=>[(5,I d.1),(6,I d.2)]) (fun _=>[]) x (fun _=>rfl) (Lr []) fun d E a p=>?_
  refine G0 2 Z (Bd a fun k e a=>?_)
  refine Ct k [] [0,1,5,6] (fun k=>[(14,.bool k)]) (fun _=>[]) (fun _=>rfl) ?_ (fun env H c=>?_)
  ·refine G0 3 Z (Lm Z (Go 2 Z (Is 11 e Z (fun q e=>?_) (fun q e=>?_))))
   ·exact Go 4 Z (Cl e [])
   ·exact Go 4 Z (Cl e [])
  refine Gx 1 Z (TC.le c (CnS Z a (fun s a=>?_) (fun s a=>?_)))
  ·refine Gc 2 Z (QI a ?_)
   obtain rfl:=Oj p a
   exact Gx 1 Z (Q7 (Lr []))
  refine Gc 8 Z (Bd a fun y t a=>IzE t (Yw y) Z (Go 2 Z (Lm Z (Go 3 Z (Bd a fun l b a=>?_)))))
  refine Ct l [] [0,1,6] (fun l=>[(5,I l)]) (fun _=>[]) (fun _=>rfl) ?_ (fun env H c=>?_)
  ·refine G0 0 Z (Cn Z b (fun u b=>?_) (fun u b=>?_))
   ·refine Gc 4 Z (Bd b fun z w b=>IzE w (Yw z) Z (Go 4 Z (Cz [] b (f _ _) Z fun m B b=>Go 1 Z ?_)))
    refine vX (I (if d.1<IntKind.i64.wrap (1+m)then IntKind.i64.wrap (1+m)else d.1)) (OpV.max Z Z Z Z) ?_
    exact Go 2 Z (Cl b [])
   exact Gc 1 Z (Cl b [])
  exact Gx 2 Z (TC.le c (Gc 5 Z (QH a (Lr []))))
 exact Gx 1 Z (TC.le c (Gc 7 Z (Rt h 4 [])))
def F_i:Nat->(List Part)->Int->Option Int
  |0=>fun _ _=>none
  |n+1=>B_i (F_i n) n
theorem k_i(n:Nat):∀(a:List Part) (b:Int) (r:Int),F_i n a b=some r->Csm prog 28 [.rsl 3 (List.map Part.enc a),I b] [] (fun r=>I r) r:=by
  induction n with
  |zero=>intro a b r h;cases h
  |succ n ih=>intro a b r h;exact QaO _ ih n a b r h
def F_bk(n:Nat)(a:Cond):Option Bool:=
  ((bif (a.Kind==0)then(bif (a.Var==0)then(bif (a.N==0)then some ((a.Parts.length:Int)==0)else some false)else some false)else some false):Option Bool).bind fun b=>some b
theorem k_bk(n:Nat)(d:Cond)(r:Bool)(h:F_bk n d=some r):
    Csm prog 114 [.agg (Cond.c d)] [] (fun r=>.bool r) r:=by
 refine Qb func114 Z Z Z ?_
 refine G0 7 Z (Bd h fun b a h=>?_)
 refine Ct b [] [] (fun b=>[(2,.bool b)]) (fun _=>[]) (fun _=>rfl) ?_ (fun env H e=>?_)
 ·refine G0 5 Z (Is 6 a Z (fun f a=>?_) (fun f a=>?_))
  ·refine Go 5 Z (Is 11 a Z (fun g a=>?_) (fun g a=>?_))
   ·refine Go 5 Z (Is 16 a Z (fun i a=>?_) (fun i a=>?_))
    ·exact Go 2 Z (Lm Z (Go 4 Z (Cl a [])))
    ·exact Go 7 Z (Cl a [])
   ·exact Go 12 Z (Cl a [])
  ·exact Go 17 Z (Cl a [])
 exact Gx 1 Z (TC.le e (Gc 1 Z (Rt h 2 [])))
def F_dh(n:Nat)(b:Cond)(f:Int)(rec154:Cond->Int->Option Int)(a:Int×Int):Option (Ctl (Int×Int) Int):=
  ((bif decide (a.2<(b.Parts.length:Int))then some (decide (a.1<=256))else some false):Option Bool).bind fun c=>(bif c then(idx b.Parts a.2).bind fun d=>(rec154 d (IntKind.i64.wrap (f+1))).bind fun e=>some (.cont (IntKind.i64.wrap (a.1+e),IntKind.i64.wrap (a.2+1)))else some (.done a.1))
def B_h(rec154:Cond->Int->Option Int)(n:Nat)(c:Cond)(a:Int):Option Int:=
  (bif decide (16<a)then some 1000 else(iter (F_dh n c a rec154) n (1,0):Option Int).bind fun b=>some b)
theorem Qah(rec154:Cond->Int->Option Int)(d:∀(e:Cond) (f:Int) (r:Int),rec154 e f=some r->Csm prog 115 [.agg (Cond.c e),I f] [] (fun r=>I r) r)(n:Nat)(e:Cond)(f:Int)(r:Int)(h:B_h rec154 n e f=some r):
    Csm prog 115 [.agg (Cond.c e),I f] [] (fun r=>I r) r:=by
 refine Qb func115 Z Z Z ?_
 refine G0 13 Z (Cn Z h (fun s h=>?_) (fun s h=>?_))
 ·exact Gc 7 Z (Rt h 4 [])
 refine Gc 13 Z (Bd h fun g t h=>?_)
 refine Ct g [] [] (fun g=>[(5,I g)]) (fun _=>[]) (fun _=>rfl) ?_ (fun env H i=>?_)
 ·refine G0 1 Z ?_
  refine Lp [0] [1,2] (fun j=>[(5,I j.1),(6,I j.2)]) (fun _=>[]) t (fun _=>rfl) (Lr [0]) fun j x a l=>?_
  refine G0 2 Z (Bd a fun k b a=>?_)
  refine Ct k [0] [1,2,5,6] (fun k=>[(17,.bool k)]) (fun _=>[]) (fun _=>rfl) ?_ (fun env H i=>?_)
  ·refine G0 4 Z (Lm Z (Go 2 Z (Is 14 b Z (fun m b=>?_) (fun m b=>?_))))
   ·exact Go 4 Z (Cl b [0])
   ·exact Go 4 Z (Cl b [0])
  refine Gx 1 Z (TC.le i (CnS Z a (fun p a=>?_) (fun p a=>?_)))
  ·refine Gc 2 Z (QI a ?_)
   obtain rfl:=Oj l a
   exact Gx 1 Z (Q7 (Lr []))
  exact Gc 9 Z (Bd a fun u q a=>IzE q (QaM u) Z (Go 3 Z (Cz [] a (d _ _) Z fun y w a=>Go 10 Z (QH a (Lr [0])))))
 exact Gx 1 Z (TC.le i (Gc 7 Z (Rt h 4 [])))
def F_h:Nat->Cond->Int->Option Int
  |0=>fun _ _=>none
  |n+1=>B_h (F_h n) n
theorem k_h(n:Nat):∀(a:Cond) (b:Int) (r:Int),F_h n a b=some r->Csm prog 115 [.agg (Cond.c a),I b] [] (fun r=>I r) r:=by
  induction n with
  |zero=>intro a b r h;cases h
  |succ n ih=>intro a b r h;exact Qah _ ih n a b r h
def F_cr(n:Nat)(b:List Step)(e:Int)(rec152:(List Step)->Int->Option (Int×Int))(a:Int×Int×Int):Option (Ctl (Int×Int×Int) (Int×Int)):=
  ((bif decide (a.2.2<(b.length:Int))then(bif decide (a.1<=64)then some (decide (a.2.1<=256))else some false)else some false):Option Bool).bind fun f=>(bif f then(idx b a.2.2).bind fun g=>(rec152 g.Then (IntKind.i64.wrap (e+1))).bind fun c=>(idx b a.2.2).bind fun h=>(rec152 h.Else (IntKind.i64.wrap (e+1))).bind fun d=>(idx b a.2.2).bind fun i=>(F_bk n i.Cond).bind fun j=>((bif (!j)then(idx b a.2.2).bind fun k=>(F_h n k.Cond 0).bind fun l=>some (IntKind.i64.wrap ((IntKind.i64.wrap ((IntKind.i64.wrap (a.2.1+c.2))+d.2))+l))else some (IntKind.i64.wrap ((IntKind.i64.wrap (a.2.1+c.2))+d.2))):Option Int).bind fun m=>some (.cont (IntKind.i64.wrap ((IntKind.i64.wrap ((IntKind.i64.wrap (a.1+1))+c.1))+d.1),m,IntKind.i64.wrap (a.2.2+1)))else some (.done (a.1,a.2.1)))
def B_j(rec152:(List Step)->Int->Option (Int×Int))(n:Nat)(b:List Step)(c:Int):Option (Int×Int):=
  ((bif decide (0<(b.length:Int))then some (decide (16<c))else some false):Option Bool).bind fun b2=>(bif b2 then some (1000,1000)else(iter (F_cr n b c rec152) n (0,0,0):Option (Int×Int)).bind fun a=>some (a.1,a.2))
theorem QaW(rec152:(List Step)->Int->Option (Int×Int))(e:∀(i:List Step) (j:Int) (r:Int×Int),rec152 i j=some r->Csm prog 52 [.rsl 8 (List.map Step.enc i),I j] [] (fun r=>.tup [I r.1,I r.2]) r)(n:Nat)(i:List Step)(j:Int)(r:Int×Int)(h:B_j rec152 n i j=some r):
    Csm prog 52 [.rsl 8 (List.map Step.enc i),I j] [] (fun r=>.tup [I r.1,I r.2]) r:=by
 refine Qb func52 Z Z Z ?_
 refine G0 8 Z (Bd h fun b2 k h=>?_)
 refine Ct b2 [] [0,1] (fun b2=>[(19,.bool b2)]) (fun _=>[]) (fun _=>rfl) ?_ (fun env H d=>?_)
 ·refine G0 2 Z (Lm Z (Go 2 Z (Is 16 k Z (fun B k=>?_) (fun B k=>?_))))
  ·exact Go 4 Z (Cl k [])
  ·exact Go 4 Z (Cl k [])
 refine Gx 1 Z (TC.le d (Cn Z h (fun E h=>?_) (fun E h=>?_)))
 ·refine Gc 8 Z ?_
  obtain rfl:=Oi h
  exact R2 4 5 Z Z (Lr [])
 refine Gc 18 Z (Bd h fun f F h=>?_)
 refine Ct f [] [] (fun f=>[(6,I f.1),(7,I f.2)]) (fun _=>[]) (fun _=>rfl) ?_ (fun env H d=>?_)
 ·refine G0 1 Z ?_
  refine Lp [] [0,1] (fun g=>[(6,I g.1),(7,I g.2.1),(8,I g.2.2)]) (fun _=>[]) F (fun _=>rfl) (Lr []) fun g R a p=>?_
  refine G0 2 Z (Bd a fun l b a=>?_)
  refine Ct l [] [0,1,6,7,8] (fun l=>[(31,.bool l)]) (fun _=>[]) (fun _=>rfl) ?_ (fun env H d=>?_)
  ·refine G0 3 Z (Lm Z (Go 2 Z (Is 24 b Z (fun q b=>?_) (fun q b=>?_))))
   ·refine Go 4 Z (Is 28 b Z (fun s b=>?_) (fun s b=>?_))
    ·exact Go 4 Z (Cl b [])
    ·exact Go 4 Z (Cl b [])
   ·exact Go 8 Z (Cl b [])
  refine Gx 1 Z (TC.le d (CnS Z a (fun t a=>?_) (fun t a=>?_)))
  ·refine Gc 2 Z (QI a ?_)
   obtain rfl:=Oj p a
   exact Gx 1 Z (Q7 (Lr []))
  refine Gc 8 Z (Bd a fun G u a=>IzE u (Yv G) Z (Go 4 Z (Cd [] a (e _ _) Z fun T N a=>FE Z (Go 11 Z (Bd a fun J w a=>IzE w (Yv J) Z (Go 4 Z (Cd [] a (e _ _) Z fun V O a=>FE Z (Go 32 Z (Bd a fun L x a=>IzE x (Yv L) Z (Go 2 Z (Cz [] a (k_bk _ _) Z fun W P a=>Go 3 Z (Bd a fun m c a=>?_))))))))))))
  refine Ct m [] [0,1,6,8] (fun m=>[(7,I m)]) (fun _=>[]) (fun _=>rfl) ?_ (fun env H d=>?_)
  ·refine G0 0 Z (Cn Z c (fun y c=>?_) (fun y c=>?_))
   ·exact Gc 4 Z (Bd c fun M z c=>IzE z (Yv M) Z (Go 2 Z (Cz [] c (k_h _ _ _) Z fun X Q c=>Go 3 Z (Cl c []))))
   exact Gc 1 Z (Cl c [])
  exact Gx 2 Z (TC.le d (Gc 5 Z (QH a (Lr []))))
 refine Gx 1 Z (TC.le d (Gc 9 Z ?_))
 obtain rfl:=Oi h
 exact R2 4 5 Z Z (Lr [])
def F_j:Nat->(List Step)->Int->Option (Int×Int)
  |0=>fun _ _=>none
  |n+1=>B_j (F_j n) n
theorem k_j(n:Nat):∀(a:List Step) (b:Int) (r:Int×Int),F_j n a b=some r->Csm prog 52 [.rsl 8 (List.map Step.enc a),I b] [] (fun r=>.tup [I r.1,I r.2]) r:=by
  induction n with
  |zero=>intro a b r h;cases h
  |succ n ih=>intro a b r h;exact QaW _ ih n a b r h
def F_bz(n:Nat)(a:List Step):Option Bool:=
  (F_j n a 0).bind fun b=>((bif decide ((a.length:Int)<=20)then(bif decide (b.1<=80)then some (decide (b.2<=300))else some false)else some false):Option Bool).bind fun c=>some c
theorem k_bz(n:Nat)(c:List Step)(r:Bool)(h:F_bz n c=some r):
    Csm prog 29 [.rsl 8 (List.map Step.enc c)] [] (fun r=>.bool r) r:=by
 refine Qb func29 Z Z Z ?_
 refine G0 8 Z (Cd [] h (k_j _ _ _) Z fun i g h=>FE Z (Go 8 Z (Bd h fun b a h=>?_)))
 refine Ct b [] [] (fun b=>[(2,.bool b)]) (fun _=>[]) (fun _=>rfl) ?_ (fun env H d=>?_)
 ·refine G0 2 Z (Lm Z (Go 2 Z (Is 13 a Z (fun e a=>?_) (fun e a=>?_))))
  ·refine Go 4 Z (Is 17 a Z (fun f a=>?_) (fun f a=>?_))
   ·exact Go 5 Z (Cl a [])
   ·exact Go 5 Z (Cl a [])
  ·exact Go 9 Z (Cl a [])
 exact Gx 1 Z (TC.le d (Gc 1 Z (Rt h 2 [])))
def F_bq(n:Nat)(b:Course)(a:Int×Int):Option (Ctl (Int×Int) (Ctl Int Bool)):=
  ((bif decide (a.2<(b.Distances.length:Int))then some (decide (a.1<=200))else some false):Option Bool).bind fun c=>(bif c then(idx b.Distances a.2).bind fun d=>(idx b.Distances a.2).bind fun e=>(F_m n e.Route).bind fun f=>(idx b.Distances a.2).bind fun g=>(F_i n g.Route 17).bind fun h=>(bif decide (16<h)then some (.done (.done false))else some (.cont (IntKind.i64.wrap ((IntKind.i64.wrap (a.1+(d.Cutoffs.length:Int)))+f),IntKind.i64.wrap (a.2+1))))else some (.done (.cont a.1)))
def F_ac(n:Nat)(a:Course):Option Bool:=
  (iter (F_bq n a) n (IntKind.i64.wrap ((IntKind.i64.wrap ((IntKind.i64.wrap ((IntKind.i64.wrap ((IntKind.i64.wrap ((IntKind.i64.wrap ((a.Mats.length:Int)+(a.Legs.length:Int)))+(a.Distances.length:Int)))+(a.Waves.length:Int)))+(a.Offences.length:Int)))+(a.Categories.length:Int)))+(a.Prizes.length:Int)),0):Option (Ctl Int Bool)).bind fun c=>match c with|.cont b=>(((bif decide (b<=200)then(bif decide ((a.Name.length:Int)<=100)then(F_bz n a.Ties).bind fun d=>some d else some false)else some false):Option Bool).bind fun e=>some e)|.done b=>some b
theorem k_ac(n:Nat)(q:Course)(r:Bool)(h:F_ac n q=some r):
    Csm prog 13 [.agg (Course.c q)] [] (fun r=>.bool r) r:=by
 refine Qb func13 Z Z Z ?_
 refine G0 10 Z (Lm Z (Go 2 Z (Lm Z (Go 3 Z (Lm Z (Go 3 Z (Lm Z (Go 3 Z (Lm Z (Go 3 Z (Lm Z (Go 3 Z (Lm Z (Go 10 Z (Bd h fun F G h=>?_)))))))))))))))
 refine CtE (b:=F) [0] [1] (fun j=>[(3,I j)]) (fun _=>[]) (fun _=>rfl) ?_ (fun j env H J f=>?_)
 ·refine G0 1 Z ?_
  refine Lp [0] [1] (fun k=>[(3,I k.1),(4,I k.2)]) (fun _=>[]) G (fun _=>rfl) (Lr [0]) fun k O a l=>?_
  refine G0 2 Z (Bd a fun m g a=>?_)
  refine Ct m [0] [1,3,4] (fun m=>[(40,.bool m)]) (fun _=>[]) (fun _=>rfl) ?_ (fun env H f=>?_)
  ·refine G0 4 Z (Lm Z (Go 2 Z (Is 37 g Z (fun s g=>?_) (fun s g=>?_))))
   ·exact Go 4 Z (Cl g [0])
   ·exact Go 4 Z (Cl g [0])
  refine Gx 1 Z (TC.le f (CnS Z a (fun t a=>?_) (fun t a=>?_)))
  ·refine Gc 2 Z (QI a ?_)
   obtain rfl:=Oj l a
   exact Gx 1 Z (Qw Z (Lr [0]))
  refine Gc 5 Z (DSs 16 Z (D 4 Z ?_))
  obtain⟨e,u,a⟩:=bnd a
  refine DS.wo (x:=.rp [.str e.Name,.rsl 3 (List.map Part.enc e.Route),I e.Timing,.rsl 3 (List.map Cutoff.c e.Cutoffs),I e.Extra]) ?_ ?_
  ·exact Ix u runUnderlying58 sizeOf88 Z Wp
  refine D 2 Z ?_
  refine DS.wo (x:=I (e.Cutoffs.length:Int)) ?_ ?_
  ·exact LnM runUnderlying86 Z Wp
  refine D 4 Z ?_
  obtain⟨i,w,a⟩:=bnd a
  refine DS.wo (x:=.rp [.str i.Name,.rsl 3 (List.map Part.enc i.Route),I i.Timing,.rsl 3 (List.map Cutoff.c i.Cutoffs),I i.Extra]) ?_ ?_
  ·exact Ix w runUnderlying58 sizeOf88 Z Wp
  refine D 2 Z ?_
  refine Dz [] a (k_m _ _) Z fun P L a=>DS.done Z (Go 9 Z (Bd a fun Q y a=>Iz y Z (Go 2 Z (Cz [] a (k_i _ _ _) Z fun R M a=>Go 3 Z (Cn Z a (fun z a=>?_) (fun z a=>?_))))))
  ·refine Gc 8 Z (Yh a ?_)
   obtain rfl:=Oj l a
   exact Gx 1 Z (QK (Gx 1 Z (Rt h 2 [])))
  exact Gc 8 Z (QH a (Lr [0]))
 subst J
 refine Gx 1 Z (TC.le f (Gc 1 Z (Bd h fun p d h=>?_)))
 refine Ct p [] [] (fun p=>[(2,.bool p)]) (fun _=>[]) (fun _=>rfl) ?_ (fun env H f=>?_)
 ·refine G0 4 Z (Is 70 d Z (fun B d=>?_) (fun B d=>?_))
  ·refine Go 2 Z ?_
   refine vX (I (q.Name.length:Int)) (QaI Z Z runUnderlying9 Z) ?_ (gT Z)
   refine Go 3 Z (Is 76 d Z (fun E d=>?_) (fun E d=>?_))
   ·exact Go 2 Z (Cz [] d (k_bz _ _) Z fun T N d=>Go 3 Z (Cl d []))
   ·exact Go 6 Z (Cl d [])
  ·exact Go 12 Z (Cl d [])
 exact Gx 1 Z (TC.le f (Gc 1 Z (Rt h 2 [])))
def F_fo(n:Nat)(b:List Hit)(e:List Hit)(a:Int):Option (Ctl Int (Ctl Unit Bool)):=
  (bif decide (a<(b.length:Int))then(idx b a).bind fun c=>(idx e a).bind fun d=>(bif (c != d)then some (.done (.done false))else some (.cont (IntKind.i64.wrap (a+1))))else some (.done (.cont ())))
def F_aw(n:Nat)(b:List Hit)(c:List Hit):Option Bool:=
  (bif ((b.length:Int) != (c.length:Int))then some false else(iter (F_fo n b c) n 0:Option (Ctl Unit Bool)).bind fun d=>match d with|.cont a=>(some true)|.done a=>some a)
theorem k_aw(n:Nat)(m:List Hit)(s:List Hit)(r:Bool)(h:F_aw n m s=some r):
    Csm prog 19 [.rsl 5 (List.map Hit.c m),.rsl 5 (List.map Hit.c s)] [] (fun r=>.bool r) r:=by
 refine Qb func19 Z Z Z ?_
 refine G0 9 Z (Lm Z (Go 1 Z (Lm Z (Go 3 Z (Cn Z h (fun t h=>?_) (fun t h=>?_))))))
 ·exact Gc 7 Z (Rt h 4 [])
 refine Gc 8 Z (Bd h fun u w h=>?_)
 refine CtE (b:=u) [] [] (fun _=>[]) (fun _=>[]) (fun _=>rfl) ?_ (fun B env H y z=>?_)
 ·refine G0 1 Z ?_
  refine Lp [] [0,1] (fun g=>[(5,I g)]) (fun _=>[]) w (fun _=>rfl) (Lr []) fun g E a f=>?_
  refine G0 5 Z (Lm Z (Go 3 Z (CnS Z a (fun i a=>?_) (fun i a=>?_))))
  ·refine Gc 2 Z (QI a ?_)
   obtain rfl:=Oj f a
   exact Gx 1 Z (Qw Z (Lr []))
  refine Gc 5 Z (DSs 8 Z (D 2 Z ?_))
  obtain⟨d,j,a⟩:=bnd a
  refine DS.wo (x:=.rp [I d.Mat,I d.Epoch,I d.Chip,I d.First,I d.Last]) ?_ ?_
  ·exact Ix j runUnderlying68 sizeOf26 Z Wp
  refine D 3 Z ?_
  obtain⟨e,k,a⟩:=bnd a
  refine DS.wo (x:=.rp [I e.Mat,I e.Epoch,I e.Chip,I e.First,I e.Last]) ?_ ?_
  ·exact Ix k runUnderlying68 sizeOf26 Z Wp
  refine D 1 Z (DS.done Z ?_)
  refine vX (.bool (d != e)) (Qi5 (p:=d) (q:=e) Qki Z Z) ?_
  refine Go 2 Z (Cn Z a (fun l a=>?_) (fun l a=>?_))
  ·refine Gc 8 Z (Yh a ?_)
   obtain rfl:=Oj f a
   exact Gx 1 Z (QK (Gx 1 Z (Rt h 4 [])))
  exact Gc 8 Z (QH a (Lr []))
 subst y
 exact Gx 1 Z (TC.le z (Gc 6 Z (Rt h 4 [])))
def F_aq(n:Nat)(i:Int)(e:List Hit)(d:Hit)(a:(List Hit)×Int):Option (Ctl ((List Hit)×Int) (Ctl (List Hit) Bool)):=
  (bif decide (a.2<(e.length:Int))then(idx e a.2).bind fun c=>((bif (a.2==(Int.tmod (IntKind.i64.wrap i) (e.length:Int)))then some (.cont a.1)else((bif (c.Mat != d.Mat)then some true else(bif (c.Epoch != d.Epoch)then some true else(bif decide (c.Last<d.First)then some true else some (decide (d.Last<c.First))))):Option Bool).bind fun f=>(bif f then(app a.1 [c]).bind fun g=>some (.cont g)else some (.done (.done (.done true))))):Option (Ctl (List Hit) (Ctl ((List Hit)×Int) (Ctl (List Hit) Bool)))).bind fun h=>match h with|.cont b=>(some (.cont (b,IntKind.i64.wrap (a.2+1))))|.done b=>some b else some (.done (.cont a.1)))
def F_da(n:Nat)(e:Course)(f:List Fact)(l:Fact)(m:Int):Option Bool:=
  (F_ef 300).bind fun u=>(bif (!u)then some false else((F_ac n e).bind fun w=>(bif (!w)then some true else some (decide (14<=(f.length:Int)))):Option Bool).bind fun x=>(bif x then some true else(F_f n e f).bind fun a=>((bif (l.Kind==2)then(app ([]:List Fact) f).bind fun p=>(app p [l]).bind fun q=>(F_f n e q).bind fun g=>((bif decide ((IntKind.i64.wrap ((g.length:Int)-(a.length:Int)))<(-1))then some true else some (decide (1<(IntKind.i64.wrap ((g.length:Int)-(a.length:Int)))))):Option Bool).bind fun r=>(bif r then some (.done false)else some (.cont ()))else some (.cont ())):Option (Ctl Unit Bool)).bind fun s=>match s with|.cont d=>(bif ((a.length:Int)==0)then some true else(nz (a.length:Int)).bind fun y=>(idx a (Int.tmod (IntKind.i64.wrap m) (a.length:Int))).bind fun c=>(iter (F_aq n m a c) n ([],0):Option (Ctl (List Hit) Bool)).bind fun t=>match t with|.cont b=>((app ([]:List Fact) f).bind fun h=>(app h [{z_Fact with No:=1,Kind:=6,Silence:={c with Lo:=c.First,Hi:=c.Last:Silence}:Fact}]).bind fun i=>(F_f n e i).bind fun j=>(F_aw n j b).bind fun k=>some k)|.done b=>some b)|.done d=>some d))
theorem k_da(n:Nat)(q:Course)(P:List Fact)(u:Fact)(G:Int)(r:Bool)(h:F_da n q P u G=some r):
    Csm prog 7 [.agg (Course.c q),.rsl 57 (List.map Fact.c P),.agg (Fact.c u),.int .u8 G] [] (fun r=>.bool r) r:=by
 refine Qb func7 Z Z Z ?_
 refine G0 10 Z (Cz [] h (k_ef _) Z fun r1 bf h=>Go 3 Z (Cn Z h (fun aq h=>?_) (fun aq h=>?_)))
 ·exact Gc 7 Z (Rt h 8 [])
 refine Gc 4 Z (Bd h fun b5 E h=>?_)
 refine Ct b5 [0,1] [1,3,4,6] (fun b5=>[(26,.bool b5)]) (fun _=>[]) (fun _=>rfl) ?_ (fun env H p=>?_)
 ·refine G0 2 Z (Cz [] E (k_ac _ _) Z fun r7 bg E=>Go 2 Z (Is 22 E Z (fun ar E=>?_) (fun ar E=>?_)))
  ·exact Go 5 Z (Cl E [0,1])
  ·exact Go 1 Z (Lm Z (Go 3 Z (Cl E [0,1])))
 refine Gx 1 Z (TC.le p (Cn Z h (fun au h=>?_) (fun au h=>?_)))
 ·exact Gc 7 Z (Rt h 8 [])
 refine Gc 6 Z (Cd [] h (k_f _ _ _) Z fun d bb h=>FE Z (Go 11 Z (Bd h fun av j h=>?_)))
 refine CtE (b:=av) [0,1] [1,3,4] (fun _=>[(9,.osl 1 0 d.length 5)]) (fun _=>[(1,.row 26 5 (List.map Hit.c d))]) (fun _=>rfl) ?_ (fun bc env H hb p=>?_)
 ·refine G0 0 Z (Cn Z j (fun ae j=>?_) (fun ae j=>?_))
  ·refine Gc 1 Z ?_
   obtain⟨ac,af,j⟩:=bnd j
   obtain⟨aw,ag,j⟩:=bnd j
   obtain⟨y,ah,j⟩:=bnd j
   refine Qbt 11 0 [33,34,35,36,37,38,39,40,41,42,43] [false,true,false,true,false,false,true,true,false,false,false] [[],[],[],[1],[],[],[1,3],[1,3,6],[1,3,6,7],[],[]] [[],[1],[1,3],[1,3,6],[1,3,6,7]] [[(0,0),(1,1),(2,2),(3,3),(4,4)],[(0,1)],[(0,0),(1,1),(2,2),(3,3),(4,4)],[(1,2)],[(0,0),(1,1),(2,2),(3,3),(4,4)],[(0,0),(1,1),(2,2),(3,3),(4,4)],[(2,3)],[(3,4)],[(4,4)],[(0,0),(1,1),(2,2),(3,3),(4,4)],[(0,0),(1,1),(2,2),(3,3),(4,4)]] [.agg (Course.c q),.osl 4 0 (([]:List Fact).length) 57,.rsl 57 (List.map Fact.c P),.osl 5 0 ac.length 57,.agg (Fact.c u),.rsl 57 (List.map Fact.c [u]),.rsl 57 (List.map Fact.c aw),.osl 7 0 y.length 5,I (y.length:Int),.osl 2 0 d.length 5,I (d.length:Int)] [[.cells 67 (Course.c q),.cells 52 (Fact.c u),.row 26 5 (List.map Hit.c d),.cells 68 [.osl 2 0 d.length 5]],[.cells 67 (Course.c q),.cells 52 (Fact.c u),.row 26 5 (List.map Hit.c d),.cells 68 [.osl 2 0 d.length 5],.row 52 57 (List.map Fact.c ([]:List Fact))],[.cells 67 (Course.c q),.cells 52 (Fact.c u),.row 26 5 (List.map Hit.c d),.cells 68 [.osl 2 0 d.length 5],.dead,.row 52 57 (List.map Fact.c ac)],[.cells 67 (Course.c q),.cells 52 (Fact.c u),.row 26 5 (List.map Hit.c d),.cells 68 [.osl 2 0 d.length 5],.dead,.dead,.dead],[.cells 67 (Course.c q),.cells 52 (Fact.c u),.row 26 5 (List.map Hit.c d),.cells 68 [.osl 2 0 d.length 5],.dead,.dead,.dead,.row 26 5 (List.map Hit.c y),.cells 68 [.osl 7 0 y.length 5]]] ([.cells 67 (Course.c q),.cells 52 (Fact.c u),.row 26 5 (List.map Hit.c d),.cells 68 [.osl 2 0 d.length 5],.dead,.dead,.dead,.row 26 5 (List.map Hit.c y),.cells 68 [.osl 7 0 y.length 5]]) draws Z Z Z Z Z Z Z ?_ Z ?_
   ·refine QfT.cons (Qd (v0 Z Z) (Qd (v0 Z Z) (Qd (v0 Z Z) (Qd (v0 Z Z) (Qd (v0 Z Z) (Qo)))))) (QfT.cons ?_ (QfT.cons (Qd (v0 Z Z) (Qd (v0 Z Z) (Qd (v0 Z Z) (Qd (v0 Z Z) (Qd (v0 Z Z) (Qo)))))) (QfT.cons ?_ (QfT.cons (Qd (v0 Z Z) (Qd (v0 Z Z) (Qd (v0 Z Z) (Qd (v0 Z Z) (Qd (v0 Z Z) (Qo)))))) (QfT.cons ?_ (QfT.cons ?_ (QfT.cons ?_ (QfT.cons ?_ (QfT.cons (Qd (v0 Z Z) (Qd (v0 Z Z) (Qd (v0 Z Z) (Qd (v0 Z Z) (Qd (v0 Z Z) (Qo)))))) (QfT.cons ?_ (QfT.nil)))))))))))
    ·refine Qd ?_ (Qo)
     ·refine Om1 Z sN ?_
      refine vH (OpH.lit (xs:=[]) (es:=List.map Fact.c []) Y5 Z Z Z Z Z trivial Z Z) ?_
      exact FE Z Wp
    ·refine Qd ?_ (Qo)
     ·refine Om1 Z (sD 1 (sD 2 sN)) ?_
      refine vH (Ym (e:=Fact.c) af Y5 runUnderlying22 QfN) ?_
      exact FE Z Wp
    ·refine Qd ?_ (Qd ?_ (Qd ?_ (Qd ?_ (Qd ?_ (Qo)))))
     ·refine Om Z (sD 4 sN) ?_
      refine vH (Yr (xs:=[.tmp 37]) (es:=List.map Fact.c [u]) Y5 Z Z Z Z Z ⟨Z,trivial⟩ Z Z) ?_
      exact FE Z Wp
     ·refine Om Z (sD 4 sN) ?_
      refine vH (Yr (xs:=[.tmp 37]) (es:=List.map Fact.c [u]) Y5 Z Z Z Z Z ⟨Z,trivial⟩ Z Z) ?_
      exact FE Z Wp
     ·refine Om Z (sD 4 sN) ?_
      refine vH (Yr (xs:=[.tmp 37]) (es:=List.map Fact.c [u]) Y5 Z Z Z Z Z ⟨Z,trivial⟩ Z Z) ?_
      exact FE Z Wp
     ·refine Om Z (sD 4 sN) ?_
      refine vH (Yr (xs:=[.tmp 37]) (es:=List.map Fact.c [u]) Y5 Z Z Z Z Z ⟨Z,trivial⟩ Z Z) ?_
      exact FE Z Wp
     ·refine Om Z (sD 4 sN) ?_
      refine vH (Yr (xs:=[.tmp 37]) (es:=List.map Fact.c [u]) Y5 Z Z Z Z Z ⟨Z,trivial⟩ Z Z) ?_
      exact FE Z Wp
    ·refine Qd ?_ (Qo)
     ·refine Om1 Z (sD 3 (sD 5 sN)) ?_
      refine vH (Ym (e:=Fact.c) ag Y5 runUnderlying22 QfN) ?_
      refine FE Z ?_
      refine WO.le (Qa6 [(39,_)] Z Z (QkV.cons Z FzA.o QkV.nil) (FzH.keep (FzH.keep (FzH.keep (FzH.keep (FzH.keep (FzH.keep (FzH.keep (Y9 _))))))))) ?_
      refine WO.le Qbv ?_
      exact Wp
    ·refine Qd ?_ (Qo)
     ·refine Om1 Z (sD 0 (sD 6 sN)) ?_
      refine Qz [] (OpC.fn call16 Z Z Z) (k_f _ _ _ _ ah) ?_
      rintro _ _ ⟨rfl,rfl⟩
      exact FE Z Wp
    ·refine Qd ?_ (Qo)
     ·refine Om Z (sD 7 sN) ?_
      exact LnO runUnderlying68 Z Wp
    ·refine Qd ?_ (Qd ?_ (Qd ?_ (Qd ?_ (Qd ?_ (Qo)))))
     ·refine Om Z (sD 9 sN) ?_
      exact LnO runUnderlying68 Z Wp
     ·refine Om Z (sD 9 sN) ?_
      exact LnO runUnderlying68 Z Wp
     ·refine Om Z (sD 9 sN) ?_
      exact LnO runUnderlying68 Z Wp
     ·refine Om Z (sD 9 sN) ?_
      exact LnO runUnderlying68 Z Wp
     ·refine Om Z (sD 9 sN) ?_
      exact LnO runUnderlying68 Z Wp
   refine Go 5 Z (Bd j fun J B j=>?_)
   refine Ct J [0,2] [1,3,4,9] (fun J=>[(50,.bool J)]) (fun _=>[]) (fun _=>rfl) ?_ (fun env H p=>?_)
   ·refine G0 4 Z (Is 47 B Z (fun ai B=>?_) (fun ai B=>?_))
    ·exact Go 4 Z (Cl B [0,2])
    ·exact Go 4 Z (Cl B [0,2])
   refine Gx 1 Z (TC.le p (Cn Z j (fun aj j=>?_) (fun aj j=>?_)))
   ·refine Gc 6 Z ?_
    cases j
    exact QK (Gx 1 Z (Rt h 8 []))
   refine Gc 1 Z ?_
   cases j
   exact Qw Z (Lr [0,1])
  refine Gc 1 Z ?_
  cases j
  exact Qw Z (Lr [0,2])
 subst hb
 refine Gx 1 Z (TC.le p (Gc 8 Z (Cn Z h (fun ak h=>?_) (fun ak h=>?_))))
 ·exact Gc 7 Z (Rt h 8 [])
 refine Gc 5 Z ?_
 refine vX (I (IntKind.i64.wrap G)) (QkO Z runUnderlying5 runUnderlying3 Z) ?_
 refine Go 2 Z (Bd h fun bh al h=>?_)
 refine vX (I (Int.tmod (IntKind.i64.wrap G) (d.length:Int))) (OpV.rem Z Z Z (nz_ok al)) ?_
 refine Go 7 Z (Bd h fun a L h=>?_)
 refine vX (.ptr 1 (Int.toNat (Int.tmod (IntKind.i64.wrap G) (d.length:Int))*5)) (QZ L Z runUnderlying68 sizeOf26) ?_
 refine vX (.agg (Hit.c a)) (Qn Z isAgg26 sizeOf26 Z (QD L) Z Z) ?_
 refine Go 33 Z (Bd h fun ax ay h=>?_)
 refine CtE (b:=ax) [0,2,3] [1,4] (fun l=>[(13,.ptr 1 0),(14,.osl 2 0 l.length 5)]) (fun l=>[(1,.cells 52 (Fact.c ({z_Fact with No:=1,Kind:=6,Silence:={a with Lo:=a.First,Hi:=a.Last:Silence}:Fact}))),(2,.row 26 5 (List.map Hit.c l))]) (fun _=>rfl) ?_ (fun l env H az p=>?_)
 ·refine G0 1 Z ?_
  refine Lp [0,2,3,0,1] [1,4,11,12,13,73,74] (fun z=>[(14,.osl 3 0 z.1.length 5),(75,I z.2)]) (fun z=>[(3,.row 26 5 (List.map Hit.c z.1))]) ay (fun _=>rfl) ?_ ?_
  ·refine Le.trans (Le.phantom (s:=14) (k:=5) (t:=26) (Nat.le_of_ble_eq_true Z) Z) ?_
   exact Lr [0,2,3,4,1]
  intro z bi m M
  refine G0 6 Z (CnS Z m (fun am m=>?_) (fun am m=>?_))
  ·refine Gc 2 Z (QI m ?_)
   obtain rfl:=Oj M m
   exact Gx 1 Z (Qw Z (Lr [0,2,3]))
  refine Gc 7 Z (Bd m fun ad N m=>?_)
  refine vX (.ptr 4 (Int.toNat z.2*5)) (QZ N Z runUnderlying68 sizeOf26) ?_
  refine vX (.agg (Hit.c ad)) (Qn Z isAgg26 sizeOf26 Z (QD N) Z Z) ?_
  refine Go 14 Z (Bd m fun an f m=>?_)
  refine CtE (b:=an) [0,1,2,3,4] [1,4,11,12,13,73,74,75] (fun w=>[(14,.osl 3 0 w.length 5)]) (fun w=>[(3,.row 26 5 (List.map Hit.c w))]) (fun _=>rfl) ?_ (fun w env H hb p=>?_)
  ·refine G0 0 Z (Cn Z f (fun Q f=>?_) (fun Q f=>?_))
   ·refine Gc 1 Z ?_
    cases f
    exact Qw Z (Lr [0,1,2,3,4])
   refine Gc 1 Z (Bd f fun F g f=>?_)
   refine Ct F [0,1,2,3,5,4] [1,4,11,12,13,14,16,73,74,75] (fun F=>[(84,.bool F)]) (fun _=>[]) (fun _=>rfl) ?_ (fun env H p=>?_)
   ·refine G0 7 Z (Is 90 g Z (fun R g=>?_) (fun R g=>?_))
    ·exact Go 22 Z (Cl g [0,1,2,3,5,4])
    ·refine Go 7 Z (Is 97 g Z (fun T g=>?_) (fun T g=>?_))
     ·exact Go 15 Z (Cl g [0,1,2,3,5,4])
     ·refine Go 7 Z (Is 104 g Z (fun V g=>?_) (fun V g=>?_))
      ·exact Go 8 Z (Cl g [0,1,2,3,5,4])
      ·exact Go 8 Z (Cl g [0,1,2,3,5,4])
   refine Gx 1 Z (TC.le p (CnS Z f (fun W f=>?_) (fun W f=>?_)))
   ·refine Gc 6 Z ?_
    cases f
    refine QK (Gx 3 Z (Yh m ?_))
    obtain rfl:=Oj M m
    exact Gx 1 Z (QK (Gx 1 Z (Rt h 8 [])))
   refine Gc 3 Z ?_
   refine vH (OpH.lit (xs:=[.tmp 112]) (es:=List.map Hit.c [ad]) Qe8 Z Z Z Z Z ⟨Z,trivial⟩ Z Z) ?_
   refine FE Z (Bd f fun bd X f=>?_)
   refine vH (Ym (e:=Hit.c) X Qe8 runUnderlying68 (QaR (i:=6))) ?_
   refine FE Z (Go 2 Z ?_)
   cases f
   exact Qw Z (Lr [0,1,2,7,5])
  subst hb
  exact Gx 3 Z (TC.le p (Gc 4 Z (QH m (Lr [0,1,2,3,4]))))
 subst az
 refine Gx 1 Z (TC.le p (Gc 1 Z ?_))
 obtain⟨O,Y,h⟩:=bnd h
 obtain⟨ao,aa,h⟩:=bnd h
 obtain⟨x,ab,h⟩:=bnd h
 refine Qbt 9 0 [116,117,118,119,120,121,122,123,124] [false,true,false,true,false,false,true,true,false] [[],[],[],[1],[],[],[1,3],[1,3,6],[]] [[],[1],[1,3],[1,3,6],[1,3,6,7]] [[(0,0),(1,1),(2,2),(3,3),(4,4)],[(0,1)],[(0,0),(1,1),(2,2),(3,3),(4,4)],[(1,2)],[(0,0),(1,1),(2,2),(3,3),(4,4)],[(0,0),(1,1),(2,2),(3,3),(4,4)],[(2,3)],[(3,4)],[(0,0),(1,1),(2,2),(3,3),(4,4)]] [.agg (Course.c q),.osl 3 0 (([]:List Fact).length) 57,.rsl 57 (List.map Fact.c P),.osl 4 0 O.length 57,.agg (Fact.c ({z_Fact with No:=1,Kind:=6,Silence:={a with Lo:=a.First,Hi:=a.Last:Silence}:Fact})),.rsl 57 (List.map Fact.c [{z_Fact with No:=1,Kind:=6,Silence:={a with Lo:=a.First,Hi:=a.Last:Silence}:Fact}]),.rsl 57 (List.map Fact.c ao),.osl 6 0 x.length 5,.osl 2 0 l.length 5] [[.cells 67 (Course.c q),.cells 52 (Fact.c ({z_Fact with No:=1,Kind:=6,Silence:={a with Lo:=a.First,Hi:=a.Last:Silence}:Fact})),.row 26 5 (List.map Hit.c l)],[.cells 67 (Course.c q),.cells 52 (Fact.c ({z_Fact with No:=1,Kind:=6,Silence:={a with Lo:=a.First,Hi:=a.Last:Silence}:Fact})),.row 26 5 (List.map Hit.c l),.row 52 57 (List.map Fact.c ([]:List Fact))],[.cells 67 (Course.c q),.cells 52 (Fact.c ({z_Fact with No:=1,Kind:=6,Silence:={a with Lo:=a.First,Hi:=a.Last:Silence}:Fact})),.row 26 5 (List.map Hit.c l),.dead,.row 52 57 (List.map Fact.c O)],[.cells 67 (Course.c q),.cells 52 (Fact.c ({z_Fact with No:=1,Kind:=6,Silence:={a with Lo:=a.First,Hi:=a.Last:Silence}:Fact})),.row 26 5 (List.map Hit.c l),.dead,.dead,.dead],[.cells 67 (Course.c q),.cells 52 (Fact.c ({z_Fact with No:=1,Kind:=6,Silence:={a with Lo:=a.First,Hi:=a.Last:Silence}:Fact})),.row 26 5 (List.map Hit.c l),.dead,.dead,.dead,.row 26 5 (List.map Hit.c x),.cells 68 [.osl 6 0 x.length 5]]] ([.cells 67 (Course.c q),.cells 52 (Fact.c ({z_Fact with No:=1,Kind:=6,Silence:={a with Lo:=a.First,Hi:=a.Last:Silence}:Fact})),.row 26 5 (List.map Hit.c l),.dead,.dead,.dead,.row 26 5 (List.map Hit.c x),.cells 68 [.osl 6 0 x.length 5]]) draws Z Z Z Z Z Z Z ?_ Z ?_
 ·refine QfT.cons (Qd (v0 Z Z) (Qd (v0 Z Z) (Qd (v0 Z Z) (Qd (v0 Z Z) (Qd (v0 Z Z) (Qo)))))) (QfT.cons ?_ (QfT.cons (Qd (v0 Z Z) (Qd (v0 Z Z) (Qd (v0 Z Z) (Qd (v0 Z Z) (Qd (v0 Z Z) (Qo)))))) (QfT.cons ?_ (QfT.cons (Qd (v0 Z Z) (Qd (v0 Z Z) (Qd (v0 Z Z) (Qd (v0 Z Z) (Qd (v0 Z Z) (Qo)))))) (QfT.cons ?_ (QfT.cons ?_ (QfT.cons ?_ (QfT.cons (Qd (v0 Z Z) (Qd (v0 Z Z) (Qd (v0 Z Z) (Qd (v0 Z Z) (Qd (v0 Z Z) (Qo)))))) (QfT.nil)))))))))
  ·refine Qd ?_ (Qo)
   ·refine Om1 Z sN ?_
    refine vH (OpH.lit (xs:=[]) (es:=List.map Fact.c []) Y5 Z Z Z Z Z trivial Z Z) ?_
    exact FE Z Wp
  ·refine Qd ?_ (Qo)
   ·refine Om1 Z (sD 1 (sD 2 sN)) ?_
    refine vH (Ym (e:=Fact.c) Y Y5 runUnderlying22 QfN) ?_
    exact FE Z Wp
  ·refine Qd ?_ (Qd ?_ (Qd ?_ (Qd ?_ (Qd ?_ (Qo)))))
   ·refine Om Z (sD 4 sN) ?_
    refine vH (Yr (xs:=[.tmp 120]) (es:=List.map Fact.c [{z_Fact with No:=1,Kind:=6,Silence:={a with Lo:=a.First,Hi:=a.Last:Silence}:Fact}]) Y5 Z Z Z Z Z ⟨Z,trivial⟩ Z Z) ?_
    exact FE Z Wp
   ·refine Om Z (sD 4 sN) ?_
    refine vH (Yr (xs:=[.tmp 120]) (es:=List.map Fact.c [{z_Fact with No:=1,Kind:=6,Silence:={a with Lo:=a.First,Hi:=a.Last:Silence}:Fact}]) Y5 Z Z Z Z Z ⟨Z,trivial⟩ Z Z) ?_
    exact FE Z Wp
   ·refine Om Z (sD 4 sN) ?_
    refine vH (Yr (xs:=[.tmp 120]) (es:=List.map Fact.c [{z_Fact with No:=1,Kind:=6,Silence:={a with Lo:=a.First,Hi:=a.Last:Silence}:Fact}]) Y5 Z Z Z Z Z ⟨Z,trivial⟩ Z Z) ?_
    exact FE Z Wp
   ·refine Om Z (sD 4 sN) ?_
    refine vH (Yr (xs:=[.tmp 120]) (es:=List.map Fact.c [{z_Fact with No:=1,Kind:=6,Silence:={a with Lo:=a.First,Hi:=a.Last:Silence}:Fact}]) Y5 Z Z Z Z Z ⟨Z,trivial⟩ Z Z) ?_
    exact FE Z Wp
   ·refine Om Z (sD 4 sN) ?_
    refine vH (Yr (xs:=[.tmp 120]) (es:=List.map Fact.c [{z_Fact with No:=1,Kind:=6,Silence:={a with Lo:=a.First,Hi:=a.Last:Silence}:Fact}]) Y5 Z Z Z Z Z ⟨Z,trivial⟩ Z Z) ?_
    exact FE Z Wp
  ·refine Qd ?_ (Qo)
   ·refine Om1 Z (sD 3 (sD 5 sN)) ?_
    refine vH (Ym (e:=Fact.c) aa Y5 runUnderlying22 QfN) ?_
    refine FE Z ?_
    refine WO.le (Qa6 [(122,_)] Z Z (QkV.cons Z FzA.o QkV.nil) (FzH.keep (FzH.keep (FzH.keep (FzH.keep (FzH.keep (FzH.keep (Y9 _)))))))) ?_
    refine WO.le Qbv ?_
    exact Wp
  ·refine Qd ?_ (Qo)
   ·refine Om1 Z (sD 0 (sD 6 sN)) ?_
    refine Qz [] (OpC.fn call16 Z Z Z) (k_f _ _ _ _ ab) ?_
    rintro _ _ ⟨rfl,rfl⟩
    exact FE Z Wp
 exact Cb h (k_aw _ _ _) Z (lo (lo ln)) fun be ba h=>Go 4 Z (Rt h 8 [])
end Go.Sw
