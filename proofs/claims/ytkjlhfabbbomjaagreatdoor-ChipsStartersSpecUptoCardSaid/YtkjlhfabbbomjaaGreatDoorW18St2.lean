/- What the functions compute that ChipsStartersSpec reaches, and that their calls refine it (part 2 of 4). -/
import Derived.Test.YtkjlhfabbbomjaaGreatDoorW18St1
set_option linter.unusedVariables false
set_option linter.unusedSimpArgs false
set_option maxRecDepth 100000
set_option maxHeartbeats 4000000
namespace Go.Sw
open Go.Proofs Tryz
def Q_facts_open_rxk(b:Fact)(d:Int):U_facts_open_rxk->Go.Sw.A->Qd->Prop
  |.c0 x,a,H=>a=.tup [.agg [.osl 2 0 8 3,.fn (.func 144) [] []],.bool true]/\H=[.cells 81 (Fact.c b),.cells 3 [I d],.rowr 181 3 [[.ptr 0 4,I 1,I 9999],[.ptr 0 5,I 0,I 7],[.ptr 0 6,I 0,I 31],[.ptr 0 7,I (-1099511627776),I 1099511627776],[.ptr 0 8,I 0,I 120],[.ptr 0 9,I 0,I 1048576],[.ptr 0 10,I 0,I 9999],[.ptr 0 11,I 0,I 1048576]],.cells 171 [.osl 2 0 8 3,.fn (.func 144) [] []]]
  |.c1 x,a,H=>a=.tup [.agg [.osl 2 0 4 3,.fn (.func 144) [] []],.bool true]/\H=[.cells 81 (Fact.c b),.cells 3 [I d],.rowr 181 3 [[.ptr 0 12,I 0,I 39],[.ptr 0 13,I 0,I 255],[.ptr 0 14,I 0,I 1048576],[.ptr 0 15,I (-1099511627776),I 1099511627776]],.cells 171 [.osl 2 0 4 3,.fn (.func 144) [] []]]
  |.c2 x,a,H=>a=.tup [.agg [.osl 2 0 5 3,.fn (.func 144) [] []],.bool true]/\H=[.cells 81 (Fact.c b),.cells 3 [I d],.rowr 181 3 [[.ptr 0 16,I 0,I 39],[.ptr 0 17,I 0,I 255],[.ptr 0 18,I (-1099511627776),I 1099511627776],[.ptr 0 19,I (-1099511627776),I 1099511627776],[.ptr 0 20,I 0,I 1099511627776]],.cells 171 [.osl 2 0 5 3,.fn (.func 144) [] []]]
  |.c3 x,a,H=>a=.tup [.agg [.osl 2 0 8 3,.fn (.func 145) [] [.ptr 3 0]],.bool true]/\H=[.cells 81 (Fact.c b),.cells 3 [I d],.rowr 181 3 [[.ptr 0 21,I 0,I 39],[.ptr 0 22,I 0,I 255],[.ptr 0 23,I (-1099511627776),I 1099511627776],[.ptr 0 24,I 0,I 39],[.ptr 0 25,I 0,I 255],[.ptr 0 26,I (-1099511627776),I 1099511627776],[.ptr 0 27,I (-1099511627776),I 1099511627776],[.ptr 0 28,I (-1099511627776),I 1099511627776]],.cells 238 [.ptr 0 21],.cells 171 [.osl 2 0 8 3,.fn (.func 145) [] [.ptr 3 0]]]
  |.c4 x,a,H=>a=.tup [.agg [.osl 2 0 4 3,.fn (.func 146) [] [.ptr 3 0]],.bool true]/\H=[.cells 81 (Fact.c b),.cells 3 [I d],.rowr 181 3 [[.ptr 0 29,I 1,I 9999],[.ptr 0 30,I 0,I 255],[.ptr 0 31,I (-1099511627776),I 1099511627776],[.ptr 0 32,I (-1099511627776),I 1099511627776]],.cells 239 [.ptr 0 29],.cells 171 [.osl 2 0 4 3,.fn (.func 146) [] [.ptr 3 0]]]
  |.c5 x,a,H=>a=.tup [.agg [.osl 2 0 4 3,.fn (.func 147) [] [.ptr 3 0]],.bool true]/\H=[.cells 81 (Fact.c b),.cells 3 [I d],.rowr 181 3 [[.ptr 0 33,I 0,I 39],[.ptr 0 34,I 0,I 255],[.ptr 0 35,I (-1099511627776),I 1099511627776],[.ptr 0 36,I (-1099511627776),I 1099511627776]],.cells 240 [.ptr 0 33],.cells 171 [.osl 2 0 4 3,.fn (.func 147) [] [.ptr 3 0]]]
  |.c6 x,a,H=>a=.tup [.agg [.osl 2 0 2 3,.fn (.func 148) [] [.ptr 3 0]],.bool true]/\H=[.cells 81 (Fact.c b),.cells 3 [I d],.rowr 181 3 [[.ptr 0 37,I 1,I 9999],[.ptr 0 38,I 1,I 9999]],.cells 241 [.ptr 0 37],.cells 171 [.osl 2 0 2 3,.fn (.func 148) [] [.ptr 3 0]]]
  |.c7 x,a,H=>a=.tup [.agg [.osl 2 0 4 3,.fn (.func 144) [] []],.bool true]/\H=[.cells 81 (Fact.c b),.cells 3 [I d],.rowr 181 3 [[.ptr 0 39,I 1,I 1048576],[.ptr 0 40,I 1,I 9999],[.ptr 0 41,I 0,I 31],[.ptr 0 42,I 0,I 255]],.cells 171 [.osl 2 0 4 3,.fn (.func 144) [] []]]
  |.c8 x,a,H=>a=.tup [.agg [.osl 2 0 4 3,.fn (.func 144) [] []],.bool true]/\H=[.cells 81 (Fact.c b),.cells 3 [I d],.rowr 181 3 [[.ptr 0 43,I 1,I 1048576],[.ptr 0 44,I 0,I 9999],[.ptr 0 45,I 0,I 1125899906842624],[.ptr 0 46,I 0,I 1]],.cells 171 [.osl 2 0 4 3,.fn (.func 144) [] []]]
  |.c9 x,a,H=>a=.tup [.agg [.osl 2 0 6 3,.fn (.func 144) [] []],.bool true]/\H=[.cells 81 (Fact.c b),.cells 3 [I d],.rowr 181 3 [[.ptr 0 47,I 1,I 1048576],[.ptr 0 48,I 1,I 2],[.ptr 0 49,I 1,I 5],[.ptr 0 50,I x.1,I x.2.1],[.ptr 0 51,I x.2.2.1,I x.2.2.2.1],[.ptr 0 52,I x.2.2.2.2.1,I x.2.2.2.2.2]],.cells 171 [.osl 2 0 6 3,.fn (.func 144) [] []]]
  |.c10 x,a,H=>a=.tup [.agg [.osl 2 0 2 3,.fn (.func 144) [] []],.bool true]/\H=[.cells 81 (Fact.c b),.cells 3 [I d],.rowr 181 3 [[.ptr 0 53,I 1,I 1048576],[.ptr 1 0,I 0,I 1]],.cells 171 [.osl 2 0 2 3,.fn (.func 144) [] []]]
  |.c11 x,a,H=>a=.tup [.agg [.nils,.fn (.func 144) [] []],.bool true]/\H=[.cells 81 (Fact.c b),.cells 3 [I d],.cells 171 [.nils,.fn (.func 144) [] []]]
  |.c12 x,a,H=>a=.tup [.agg [.osl 2 0 2 3,.fn (.func 144) [] []],.bool true]/\H=[.cells 81 (Fact.c b),.cells 3 [I d],.rowr 181 3 [[.ptr 0 55,I 0,I 31],[.ptr 0 56,I 1,I 1048576]],.cells 171 [.osl 2 0 2 3,.fn (.func 144) [] []]]
  |.c13 x,a,H=>a=.tup [.agg [.nils,.nilf],.bool false]/\H=[.cells 81 (Fact.c b),.cells 3 [I d],.cells 171 [.nils,.nilf]]
def F_bd(n:Nat)(a:Fact)(d:Int):Option U_facts_open_rxk:=
  (bif (a.Kind==1)then some (U_facts_open_rxk.c0 ())else(bif (a.Kind==2)then some (U_facts_open_rxk.c1 ())else(bif (a.Kind==3)then some (U_facts_open_rxk.c2 ())else(bif (a.Kind==4)then some (U_facts_open_rxk.c3 ())else(bif (a.Kind==5)then some (U_facts_open_rxk.c4 ())else(bif (a.Kind==6)then some (U_facts_open_rxk.c5 ())else(bif (a.Kind==7)then some (U_facts_open_rxk.c6 ())else(bif (a.Kind==8)then some (U_facts_open_rxk.c7 ())else(bif (a.Kind==9)then some (U_facts_open_rxk.c8 ())else(bif (a.Kind==10)then((bif (a.Ruling.Kind==1)then some (a.Ruling.Kind==1)else some (a.Ruling.Kind==2)):Option Bool).bind fun c=>((bif c then some ({least:=0,most:=0:facts_scope},{least:=0,most:=0:facts_scope},{least:=0,most:=0:facts_scope})else(bif (a.Ruling.Kind==3)then some ({least:=1,most:=9999:facts_scope},{least:=0,most:=255:facts_scope},{least:=1,most:=1099511627776:facts_scope})else(bif (a.Ruling.Kind==4)then some ({least:=1,most:=9999:facts_scope},{least:=0,most:=255:facts_scope},{least:=1,most:=64:facts_scope})else some ({least:=1,most:=9999:facts_scope},{least:=0,most:=255:facts_scope},{least:=0,most:=0:facts_scope})))):Option (facts_scope×facts_scope×facts_scope)).bind fun b=>some (U_facts_open_rxk.c9 (b.1.least,b.1.most,b.2.1.least,b.2.1.most,b.2.2.least,b.2.2.most))else(bif (a.Kind==11)then some (U_facts_open_rxk.c10 ())else(bif (a.Kind==12)then some (U_facts_open_rxk.c11 ())else(bif (a.Kind==13)then some (U_facts_open_rxk.c12 ())else some (U_facts_open_rxk.c13 ()))))))))))))))
theorem k_bd(n:Nat)(b:Fact)(d:Int)(r:U_facts_open_rxk)(h:F_bd n b d=some r):
    C prog 82 [.ptr 0 0,.ptr 1 0] [.cells 81 (Fact.c b),.cells 3 [I d]] (Q_facts_open_rxk b d r):=by
 refine Qb func82 Z Z Z ?_
 refine G0 22 Z (Cn Z h (fun u h=>?_) (fun u h=>?_))
 ·refine Gc 9 Z (DSs 40 Z (D 40 Z (DS.done Z ?_)))
  refine vH (YK (xs:=[.tmp 32,.tmp 37,.tmp 42,.tmp 47,.tmp 52,.tmp 57,.tmp 62,.tmp 67]) Jh Z Z Z Z Z ⟨Z,Z,Z,Z,Z,Z,Z,Z,trivial⟩ Z) ?_
  refine FE Z (Go 8 Z ?_)
  obtain rfl:=Oi h
  exact Rx [0,1,3,2] [4,5] Z (QY Z Z (Qje.cons (Qs isAgg171 sizeOf171 Z Z Z) (Qje.cons Qd3.tmp Qje.nil))) ⟨Z,Z⟩
 refine Gc 6 Z (Cn Z h (fun w h=>?_) (fun w h=>?_))
 ·refine Gc 9 Z (DSs 20 Z (D 20 Z (DS.done Z ?_)))
  refine vH (YK (xs:=[.tmp 79,.tmp 84,.tmp 89,.tmp 94]) Jh Z Z Z Z Z ⟨Z,Z,Z,Z,trivial⟩ Z) ?_
  refine FE Z (Go 8 Z ?_)
  obtain rfl:=Oi h
  exact Rx [0,1,3,2] [4,5] Z (QY Z Z (Qje.cons (Qs isAgg171 sizeOf171 Z Z Z) (Qje.cons Qd3.tmp Qje.nil))) ⟨Z,Z⟩
 refine Gc 6 Z (Cn Z h (fun x h=>?_) (fun x h=>?_))
 ·refine Gc 9 Z (DSs 25 Z (D 25 Z (DS.done Z ?_)))
  refine vH (YK (xs:=[.tmp 106,.tmp 111,.tmp 116,.tmp 121,.tmp 126]) Jh Z Z Z Z Z ⟨Z,Z,Z,Z,Z,trivial⟩ Z) ?_
  refine FE Z (Go 8 Z ?_)
  obtain rfl:=Oi h
  exact Rx [0,1,3,2] [4,5] Z (QY Z Z (Qje.cons (Qs isAgg171 sizeOf171 Z Z Z) (Qje.cons Qd3.tmp Qje.nil))) ⟨Z,Z⟩
 refine Gc 6 Z (Cn Z h (fun y h=>?_) (fun y h=>?_))
 ·refine Gc 10 Z (DAs 42 40 [0,0,0,0,0,0,0,0,0,0,0,0,0,0,0,0,0,0,0,0,0,0,0,0,0,0,0,0,0,0,0,0,0,0,0,0,0,0,0,0,1,3] (by kernel_rfl) (Da 40 Z ?_))
  refine QbP (YK (xs:=[.tmp 138,.tmp 143,.tmp 148,.tmp 153,.tmp 158,.tmp 163,.tmp 168,.tmp 173]) Jh Z Z Z Z Z ⟨Z,Z,Z,Z,Z,Z,Z,Z,trivial⟩ Z) Z Z (Db 1 Z (DB.done Z (Go 8 Z ?_)))
  obtain rfl:=Oi h
  exact Rx [0,1,4,3,2] [4,5] Z (QY Z Z (Qje.cons (Qs isAgg171 sizeOf171 Z Z Z) (Qje.cons Qd3.tmp Qje.nil))) ⟨Z,Z⟩
 refine Gc 6 Z (Cn Z h (fun z h=>?_) (fun z h=>?_))
 ·refine Gc 10 Z (DAs 22 20 [0,0,0,0,0,0,0,0,0,0,0,0,0,0,0,0,0,0,0,0,1,3] (by kernel_rfl) (Da 20 Z ?_))
  refine QbP (YK (xs:=[.tmp 186,.tmp 191,.tmp 196,.tmp 201]) Jh Z Z Z Z Z ⟨Z,Z,Z,Z,trivial⟩ Z) Z Z (Db 1 Z (DB.done Z (Go 8 Z ?_)))
  obtain rfl:=Oi h
  exact Rx [0,1,4,3,2] [4,5] Z (QY Z Z (Qje.cons (Qs isAgg171 sizeOf171 Z Z Z) (Qje.cons Qd3.tmp Qje.nil))) ⟨Z,Z⟩
 refine Gc 6 Z (Cn Z h (fun B h=>?_) (fun B h=>?_))
 ·refine Gc 10 Z (DAs 22 20 [0,0,0,0,0,0,0,0,0,0,0,0,0,0,0,0,0,0,0,0,1,3] (by kernel_rfl) (Da 20 Z ?_))
  refine QbP (YK (xs:=[.tmp 214,.tmp 219,.tmp 224,.tmp 229]) Jh Z Z Z Z Z ⟨Z,Z,Z,Z,trivial⟩ Z) Z Z (Db 1 Z (DB.done Z (Go 8 Z ?_)))
  obtain rfl:=Oi h
  exact Rx [0,1,4,3,2] [4,5] Z (QY Z Z (Qje.cons (Qs isAgg171 sizeOf171 Z Z Z) (Qje.cons Qd3.tmp Qje.nil))) ⟨Z,Z⟩
 refine Gc 6 Z (Cn Z h (fun E h=>?_) (fun E h=>?_))
 ·refine Gc 10 Z (DAs 12 10 [0,0,0,0,0,0,0,0,0,0,1,3] (by kernel_rfl) (Da 10 Z ?_))
  refine QbP (YK (xs:=[.tmp 242,.tmp 247]) Jh Z Z Z Z Z ⟨Z,Z,trivial⟩ Z) Z Z (Db 1 Z (DB.done Z (Go 8 Z ?_)))
  obtain rfl:=Oi h
  exact Rx [0,1,4,3,2] [4,5] Z (QY Z Z (Qje.cons (Qs isAgg171 sizeOf171 Z Z Z) (Qje.cons Qd3.tmp Qje.nil))) ⟨Z,Z⟩
 refine Gc 6 Z (Cn Z h (fun F h=>?_) (fun F h=>?_))
 ·refine Gc 9 Z (DSs 20 Z (D 20 Z (DS.done Z ?_)))
  refine vH (YK (xs:=[.tmp 260,.tmp 265,.tmp 270,.tmp 275]) Jh Z Z Z Z Z ⟨Z,Z,Z,Z,trivial⟩ Z) ?_
  refine FE Z (Go 8 Z ?_)
  obtain rfl:=Oi h
  exact Rx [0,1,3,2] [4,5] Z (QY Z Z (Qje.cons (Qs isAgg171 sizeOf171 Z Z Z) (Qje.cons Qd3.tmp Qje.nil))) ⟨Z,Z⟩
 refine Gc 6 Z (Cn Z h (fun G h=>?_) (fun G h=>?_))
 ·refine Gc 9 Z (DSs 20 Z (D 20 Z (DS.done Z ?_)))
  refine vH (YK (xs:=[.tmp 287,.tmp 292,.tmp 297,.tmp 302]) Jh Z Z Z Z Z ⟨Z,Z,Z,Z,trivial⟩ Z) ?_
  refine FE Z (Go 8 Z ?_)
  obtain rfl:=Oi h
  exact Rx [0,1,3,2] [4,5] Z (QY Z Z (Qje.cons (Qs isAgg171 sizeOf171 Z Z Z) (Qje.cons Qd3.tmp Qje.nil))) ⟨Z,Z⟩
 refine Gc 6 Z (Cn Z h (fun j h=>?_) (fun j h=>?_))
 ·refine Gc 9 Z ?_
  refine QaG 8 3 [310,311,312,16,17,18,1000006,1000007] [false,false,false,true,true,true,true,true] [[],[],[],[],[],[],[3,4,5],[3,4,5,6]] [[],[3],[4],[5],[3,4],[3,5],[4,5],[3,4,5],[3,4,5,6],[3,4,5,6,7]] [[(0,0),(1,1),(2,2),(3,3),(4,4),(5,5),(6,6),(7,7),(8,8),(9,9)],[(0,0),(1,1),(2,2),(3,3),(4,4),(5,5),(6,6),(7,7),(8,8),(9,9)],[(0,0),(1,1),(2,2),(3,3),(4,4),(5,5),(6,6),(7,7),(8,8),(9,9)],[(0,1),(2,4),(3,5),(6,7)],[(0,2),(1,4),(3,6),(5,7)],[(0,3),(1,5),(2,6),(4,7)],[(7,8)],[(8,9)]] [.agg [I 1,I 9999],.agg [I 0,I 255],.agg [I 0,I 0],.ptr 3 0,.ptr 4 0,.ptr 5 0,.any,.any] [[.cells 81 (Fact.c b),.cells 3 [I d],.cells 171 [.nils,.nilf],.dead,.dead,.dead],[.cells 81 (Fact.c b),.cells 3 [I d],.cells 171 [.nils,.nilf],.cells 179 [I 0,I 0],.dead,.dead],[.cells 81 (Fact.c b),.cells 3 [I d],.cells 171 [.nils,.nilf],.dead,.cells 179 [I 0,I 0],.dead],[.cells 81 (Fact.c b),.cells 3 [I d],.cells 171 [.nils,.nilf],.dead,.dead,.cells 179 [I 0,I 0]],[.cells 81 (Fact.c b),.cells 3 [I d],.cells 171 [.nils,.nilf],.cells 179 [I 0,I 0],.cells 179 [I 0,I 0],.dead],[.cells 81 (Fact.c b),.cells 3 [I d],.cells 171 [.nils,.nilf],.cells 179 [I 0,I 0],.dead,.cells 179 [I 0,I 0]],[.cells 81 (Fact.c b),.cells 3 [I d],.cells 171 [.nils,.nilf],.dead,.cells 179 [I 0,I 0],.cells 179 [I 0,I 0]],[.cells 81 (Fact.c b),.cells 3 [I d],.cells 171 [.nils,.nilf],.cells 179 [I 0,I 0],.cells 179 [I 0,I 0],.cells 179 [I 0,I 0]],[.cells 81 (Fact.c b),.cells 3 [I d],.cells 171 [.nils,.nilf],.cells 179 [I 1,I 9999],.cells 179 [I 0,I 0],.cells 179 [I 0,I 0]],[.cells 81 (Fact.c b),.cells 3 [I d],.cells 171 [.nils,.nilf],.cells 179 [I 1,I 9999],.cells 179 [I 0,I 255],.cells 179 [I 0,I 0]]] ([.cells 81 (Fact.c b),.cells 3 [I d],.cells 171 [.nils,.nilf],.cells 179 [I 1,I 9999],.cells 179 [I 0,I 255],.cells 179 [I 0,I 0]]) draws Z Z Z Z Z Z Z ?_ Z ?_
  ·refine Qic.cons (Qc (v0 Z Z) (Qc (v0 Z Z) (Qc (v0 Z Z) (Qc (v0 Z Z) (Qc (v0 Z Z) (Qc (v0 Z Z) (Qc (v0 Z Z) (Qc (v0 Z Z) (Qc (v0 Z Z) (Qc (v0 Z Z) (Qe))))))))))) (Qic.cons (Qc (v0 Z Z) (Qc (v0 Z Z) (Qc (v0 Z Z) (Qc (v0 Z Z) (Qc (v0 Z Z) (Qc (v0 Z Z) (Qc (v0 Z Z) (Qc (v0 Z Z) (Qc (v0 Z Z) (Qc (v0 Z Z) (Qe))))))))))) (Qic.cons (Qc (v0 Z Z) (Qc (v0 Z Z) (Qc (v0 Z Z) (Qc (v0 Z Z) (Qc (v0 Z Z) (Qc (v0 Z Z) (Qc (v0 Z Z) (Qc (v0 Z Z) (Qc (v0 Z Z) (Qc (v0 Z Z) (Qe))))))))))) (Qic.cons ?_ (Qic.cons ?_ (Qic.cons ?_ (Qic.cons ?_ (Qic.cons ?_ (Qic.nil))))))))
   ·refine Qc ?_ (Qc ?_ (Qc ?_ (Qc ?_ (Qe))))
    ·exact Qai.alloc _ 16 179 3 _ Z Z Z Z Z Z Z (OpZ.alloc (v:=(.agg [I 0,I 0])) zeroValue179 (zrC Z)) Z
    ·exact Qai.alloc _ 16 179 3 _ Z Z Z Z Z Z Z (OpZ.alloc (v:=(.agg [I 0,I 0])) zeroValue179 (zrC Z)) Z
    ·exact Qai.alloc _ 16 179 3 _ Z Z Z Z Z Z Z (OpZ.alloc (v:=(.agg [I 0,I 0])) zeroValue179 (zrC Z)) Z
    ·exact Qai.alloc _ 16 179 3 _ Z Z Z Z Z Z Z (OpZ.alloc (v:=(.agg [I 0,I 0])) zeroValue179 (zrC Z)) Z
   ·refine Qc ?_ (Qc ?_ (Qc ?_ (Qc ?_ (Qe))))
    ·exact Qai.alloc _ 17 179 4 _ Z Z Z Z Z Z Z (OpZ.alloc (v:=(.agg [I 0,I 0])) zeroValue179 (zrC Z)) Z
    ·exact Qai.alloc _ 17 179 4 _ Z Z Z Z Z Z Z (OpZ.alloc (v:=(.agg [I 0,I 0])) zeroValue179 (zrC Z)) Z
    ·exact Qai.alloc _ 17 179 4 _ Z Z Z Z Z Z Z (OpZ.alloc (v:=(.agg [I 0,I 0])) zeroValue179 (zrC Z)) Z
    ·exact Qai.alloc _ 17 179 4 _ Z Z Z Z Z Z Z (OpZ.alloc (v:=(.agg [I 0,I 0])) zeroValue179 (zrC Z)) Z
   ·refine Qc ?_ (Qc ?_ (Qc ?_ (Qc ?_ (Qe))))
    ·exact Qai.alloc _ 18 179 5 _ Z Z Z Z Z Z Z (OpZ.alloc (v:=(.agg [I 0,I 0])) zeroValue179 (zrC Z)) Z
    ·exact Qai.alloc _ 18 179 5 _ Z Z Z Z Z Z Z (OpZ.alloc (v:=(.agg [I 0,I 0])) zeroValue179 (zrC Z)) Z
    ·exact Qai.alloc _ 18 179 5 _ Z Z Z Z Z Z Z (OpZ.alloc (v:=(.agg [I 0,I 0])) zeroValue179 (zrC Z)) Z
    ·exact Qai.alloc _ 18 179 5 _ Z Z Z Z Z Z Z (OpZ.alloc (v:=(.agg [I 0,I 0])) zeroValue179 (zrC Z)) Z
   ·refine Qc ?_ (Qe)
    ·refine Om2 Z (sD 3 (sD 0 sN)) ?_
     refine vU (OpU.store Z Z Z sizeOf179 Z Z Z Z Z Z Z) ?_
     exact FE Z Wp
   ·refine Qc ?_ (Qe)
    ·refine Om2 Z (sD 4 (sD 1 sN)) ?_
     refine vU (OpU.store Z Z Z sizeOf179 Z Z Z Z Z Z Z) ?_
     exact FE Z Wp
  refine Go 20 Z (Bd h fun g e h=>?_)
  refine Ct g [0,1,2,3,4,5] [4,15,16,17,18,316] (fun g=>[(317,.bool g)]) (fun _=>[]) (fun _=>rfl) ?_ (fun env H i=>?_)
  ·refine G0 0 Z (Cn Z e (fun k e=>?_) (fun k e=>?_))
   ·exact Gc 1 Z (Cl e [0,1,2,3,4,5])
   exact Gc 4 Z (Cl e [0,1,2,3,4,5])
  refine Gx 1 Z (TC.le i (Bd h fun f a h=>?_))
  refine Ct f [0,1,2,3,4,5] [4,15,16,17,18] (fun _=>[]) (fun f=>[(3,.cells 179 (facts_scope.c f.1)),(4,.cells 179 (facts_scope.c f.2.1)),(5,.cells 179 (facts_scope.c f.2.2))]) (fun _=>rfl) ?_ (fun env H i=>?_)
  ·refine G0 0 Z (Cn Z a (fun l a=>?_) (fun l a=>?_))
   ·exact Gc 6 Z (Cl a [0,1,2,3,4,5])
   refine Gc 6 Z (Cn Z a (fun m a=>?_) (fun m a=>?_))
   ·exact Gc 4 Z (Cl a [0,1,2,3,4,5])
   refine Gc 6 Z (Cn Z a (fun p a=>?_) (fun p a=>?_))
   ·exact Gc 4 Z (Cl a [0,1,2,3,4,5])
   exact Gc 1 Z (Cl a [0,1,2,3,4,5])
  refine Gx 2 Z (TC.le i (Gc 1 Z (DSs 30 Z (D 30 Z (DS.done Z ?_)))))
  refine vH (YK (xs:=[.tmp 332,.tmp 337,.tmp 342,.tmp 347,.tmp 352,.tmp 357]) Jh Z Z Z Z Z ⟨Z,Z,Z,Z,Z,Z,trivial⟩ Z) ?_
  refine FE Z (Go 8 Z ?_)
  obtain rfl:=Oi h
  exact Rx [0,1,6,2] [4,5] Z (QY Z Z (Qje.cons (Qs isAgg171 sizeOf171 Z Z Z) (Qje.cons Qd3.tmp Qje.nil))) ⟨Z,Z⟩
 refine Gc 6 Z (Cn Z h (fun q h=>?_) (fun q h=>?_))
 ·refine Gc 1 Z (DSs 9 Z (D 9 Z (DS.done Z ?_)))
  refine vH (YK (xs:=[.tmp 367,.tmp 370]) Jh Z Z Z Z Z ⟨Z,Z,trivial⟩ Z) ?_
  refine FE Z (Go 8 Z ?_)
  obtain rfl:=Oi h
  exact Rx [0,1,3,2] [4,5] Z (QY Z Z (Qje.cons (Qs isAgg171 sizeOf171 Z Z Z) (Qje.cons Qd3.tmp Qje.nil))) ⟨Z,Z⟩
 refine Gc 6 Z (Cn Z h (fun s h=>?_) (fun s h=>?_))
 ·refine Gc 10 Z ?_
  obtain rfl:=Oi h
  exact Rx [0,1,2] [4,5] Z (QY Z Z (Qje.cons (Qs isAgg171 sizeOf171 Z Z Z) (Qje.cons Qd3.tmp Qje.nil))) ⟨Z,Z⟩
 refine Gc 6 Z (Cn Z h (fun t h=>?_) (fun t h=>?_))
 ·refine Gc 1 Z (DSs 12 Z (D 12 Z (DS.done Z ?_)))
  refine vH (YK (xs:=[.tmp 383,.tmp 389]) Jh Z Z Z Z Z ⟨Z,Z,trivial⟩ Z) ?_
  refine FE Z (Go 8 Z ?_)
  obtain rfl:=Oi h
  exact Rx [0,1,3,2] [4,5] Z (QY Z Z (Qje.cons (Qs isAgg171 sizeOf171 Z Z Z) (Qje.cons Qd3.tmp Qje.nil))) ⟨Z,Z⟩
 refine Gc 11 Z ?_
 obtain rfl:=Oi h
 exact Rx [0,1,2] [4,5] Z (QY Z Z (Qje.cons (Qs isAgg171 sizeOf171 Z Z Z) (Qje.cons Qd3.tmp Qje.nil))) ⟨Z,Z⟩
def F_e(n:Nat):Option Unit:=
  some ()
theorem k_e(n:Nat)(r:Unit)(h:F_e n=some r):
    Csm prog 144 [] [] (fun _=>.bool true) r:=by
 refine Qb func144 Z Z Z ?_
 exact G0 11 Z (Rt h 0 [])
def F_fx(n:Nat)(a:Fact):Option Unit:=
  some ()
theorem k_fx(n:Nat)(a:Fact)(r:Unit)(h:F_fx n a=some r):
    Csm prog 145 [.ptr 0 0] [.cells 238 [.ptr 1 21],.cells 81 (Fact.c a)] (fun _=>.bool (decide (a.Sync.Min<=a.Sync.Max))) r:=by
 refine Qb func145 Z Z Z ?_
 exact G0 6 Z (DSs 8 Z (D 8 Z (DS.done Z (Go 5 Z (Rt h 1 [0,1])))))
def F_gt(n:Nat)(a:Fact):Option Unit:=
  some ()
theorem k_gt(n:Nat)(a:Fact)(r:Unit)(h:F_gt n a=some r):
    Csm prog 146 [.ptr 0 0] [.cells 239 [.ptr 1 29],.cells 81 (Fact.c a)] (fun _=>.bool (decide (a.Hand.Lo<=a.Hand.Hi))) r:=by
 refine Qb func146 Z Z Z ?_
 exact G0 6 Z (DSs 8 Z (D 8 Z (DS.done Z (Go 5 Z (Rt h 1 [0,1])))))
def F_gj(n:Nat)(a:Fact):Option Unit:=
  some ()
theorem k_gj(n:Nat)(a:Fact)(r:Unit)(h:F_gj n a=some r):
    Csm prog 147 [.ptr 0 0] [.cells 240 [.ptr 1 33],.cells 81 (Fact.c a)] (fun _=>.bool (decide (a.Silence.Lo<=a.Silence.Hi))) r:=by
 refine Qb func147 Z Z Z ?_
 exact G0 6 Z (DSs 8 Z (D 8 Z (DS.done Z (Go 5 Z (Rt h 1 [0,1])))))
def F_gn(n:Nat)(a:Fact):Option Unit:=
  some ()
theorem k_gn(n:Nat)(a:Fact)(r:Unit)(h:F_gn n a=some r):
    Csm prog 148 [.ptr 0 0] [.cells 241 [.ptr 1 37],.cells 81 (Fact.c a)] (fun _=>.bool (decide (a.Pair.A<a.Pair.B))) r:=by
 refine Qb func148 Z Z Z ?_
 exact G0 6 Z (DSs 8 Z (D 8 Z (DS.done Z (Go 5 Z (Rt h 1 [0,1])))))
def F_bf(n:Nat)(a:Fact):Option Unit:=
  some ()
theorem k_bf(n:Nat)(a:Fact)(r:Unit)(h:F_bf n a=some r):
    C prog 84 [.ptr 0 0] [.cells 81 (Fact.c a)] (RQ (fun _=>.osl 1 0 4 3) (fun _=>[.cells 81 (Fact.c a),.rowr 181 3 [[.ptr 0 3,I 1,I 13],[.ptr 0 0,I 0,I 31],[.ptr 0 1,I 1,I 1048576],[.ptr 0 2,I 0,I 1099511627776]]]) r):=by
 refine Qb func84 Z Z Z ?_
 refine G0 6 Z (DSs 20 Z (D 20 Z (DS.done Z ?_)))
 refine vH (YK (xs:=[.tmp 7,.tmp 12,.tmp 17,.tmp 22]) Jh Z Z Z Z Z ⟨Z,Z,Z,Z,trivial⟩ Z) ?_
 exact FE Z (Go 4 Z (Rt h 2 [0,1]))
def F_dp(n:Nat)(b:Fact)(g:Int)(c:Fact):Option (List Ent):=
  ((F_bd n ({b with Kind:=c.Kind:Fact}) g).bind fun d=>(match d with|.c0 h=>(some ([⟨false,4,1,9999⟩,⟨false,5,0,7⟩,⟨false,6,0,31⟩,⟨false,7,(-1099511627776),1099511627776⟩,⟨false,8,0,120⟩,⟨false,9,0,1048576⟩,⟨false,10,0,9999⟩,⟨false,11,0,1048576⟩]:List Ent))|.c1 i=>(some ([⟨false,12,0,39⟩,⟨false,13,0,255⟩,⟨false,14,0,1048576⟩,⟨false,15,(-1099511627776),1099511627776⟩]:List Ent))|.c2 j=>(some ([⟨false,16,0,39⟩,⟨false,17,0,255⟩,⟨false,18,(-1099511627776),1099511627776⟩,⟨false,19,(-1099511627776),1099511627776⟩,⟨false,20,0,1099511627776⟩]:List Ent))|.c3 k=>(some ([⟨false,21,0,39⟩,⟨false,22,0,255⟩,⟨false,23,(-1099511627776),1099511627776⟩,⟨false,24,0,39⟩,⟨false,25,0,255⟩,⟨false,26,(-1099511627776),1099511627776⟩,⟨false,27,(-1099511627776),1099511627776⟩,⟨false,28,(-1099511627776),1099511627776⟩]:List Ent))|.c4 l=>(some ([⟨false,29,1,9999⟩,⟨false,30,0,255⟩,⟨false,31,(-1099511627776),1099511627776⟩,⟨false,32,(-1099511627776),1099511627776⟩]:List Ent))|.c5 m=>(some ([⟨false,33,0,39⟩,⟨false,34,0,255⟩,⟨false,35,(-1099511627776),1099511627776⟩,⟨false,36,(-1099511627776),1099511627776⟩]:List Ent))|.c6 p=>(some ([⟨false,37,1,9999⟩,⟨false,38,1,9999⟩]:List Ent))|.c7 q=>(some ([⟨false,39,1,1048576⟩,⟨false,40,1,9999⟩,⟨false,41,0,31⟩,⟨false,42,0,255⟩]:List Ent))|.c8 r=>(some ([⟨false,43,1,1048576⟩,⟨false,44,0,9999⟩,⟨false,45,0,1125899906842624⟩,⟨false,46,0,1⟩]:List Ent))|.c9 a=>(some ([⟨false,47,1,1048576⟩,⟨false,48,1,2⟩,⟨false,49,1,5⟩,⟨false,50,a.1,a.2.1⟩,⟨false,51,a.2.2.1,a.2.2.2.1⟩,⟨false,52,a.2.2.2.2.1,a.2.2.2.2.2⟩]:List Ent))|.c10 s=>(some ([⟨false,53,1,1048576⟩,⟨true,0,0,1⟩]:List Ent))|.c11 t=>(some [])|.c12 u=>(some ([⟨false,55,0,31⟩,⟨false,56,1,1048576⟩]:List Ent))|.c13 w=>(some [])):Option (List Ent)).bind fun e=>(F_bf n ({b with Kind:=c.Kind:Fact})).bind fun x=>(app ([⟨false,3,1,13⟩,⟨false,0,0,31⟩,⟨false,1,1,1048576⟩,⟨false,2,0,1099511627776⟩]:List Ent) e).bind fun f=>some f
theorem k_dp(n:Nat)(f:Fact)(g:Int)(e:Fact)(r:List Ent)(h:F_dp n f g e=some r):
    C prog 83 [.ptr 0 0,.ptr 1 0,.ptr 2 0] [.cells 81 (Fact.c f),.cells 3 [I g],.cells 81 (Fact.c e)] (RQ (fun r=>.osl 3 0 r.length 3) (fun r=>[.cells 81 (Fact.c ({f with Kind:=e.Kind:Fact})),.cells 3 [I g],.cells 81 (Fact.c e),.ents 181 0 1 r]) r):=by
 refine Qb func83 Z Z Z ?_
 refine G0 16 Z (Bd h fun d a h=>?_)
 refine Ct d [0,1,2,0,0] [0] (fun _=>[(6,.ptr 3 0)]) (fun d=>[(3,.cells 171 [.osl 4 0 d.length 3,.any]),(4,.ents 181 0 1 d)]) (fun _=>rfl) ?_ (fun env H q=>?_)
 ·refine G0 3 Z (Bd a fun s k a=>?_)
  refine QP [0,1] (OpC.fn call82 Z Z Z) (k_bd _ _ _ _ k) ?_
  intro ra rH b
  rcases s with u|w|y|z|B|E|F|G|J|L|M|N|O|P
  ·obtain⟨rfl,rfl⟩:=b
   refine FE Z (TE 3 0 1 Z Z (FE Z (Go 7 Z ?_)))
   cases a
   refine QA ?_
   refine Le.trans (QW (i:=5) (m:=1) Z) ?_
   exact Lr [0,1,2,5,3]
  ·obtain⟨rfl,rfl⟩:=b
   refine FE Z (TE 3 0 1 Z Z (FE Z (Go 7 Z ?_)))
   cases a
   refine QA ?_
   refine Le.trans (QW (i:=5) (m:=1) Z) ?_
   exact Lr [0,1,2,5,3]
  ·obtain⟨rfl,rfl⟩:=b
   refine FE Z (TE 3 0 1 Z Z (FE Z (Go 7 Z ?_)))
   cases a
   refine QA ?_
   refine Le.trans (QW (i:=5) (m:=1) Z) ?_
   exact Lr [0,1,2,5,3]
  ·obtain⟨rfl,rfl⟩:=b
   refine FE Z (TE 3 0 1 Z Z (FE Z (Go 7 Z ?_)))
   cases a
   refine QA ?_
   refine Le.trans (QW (i:=6) (m:=1) Z) ?_
   exact Lr [0,1,2,6,3]
  ·obtain⟨rfl,rfl⟩:=b
   refine FE Z (TE 3 0 1 Z Z (FE Z (Go 7 Z ?_)))
   cases a
   refine QA ?_
   refine Le.trans (QW (i:=6) (m:=1) Z) ?_
   exact Lr [0,1,2,6,3]
  ·obtain⟨rfl,rfl⟩:=b
   refine FE Z (TE 3 0 1 Z Z (FE Z (Go 7 Z ?_)))
   cases a
   refine QA ?_
   refine Le.trans (QW (i:=6) (m:=1) Z) ?_
   exact Lr [0,1,2,6,3]
  ·obtain⟨rfl,rfl⟩:=b
   refine FE Z (TE 3 0 1 Z Z (FE Z (Go 7 Z ?_)))
   cases a
   refine QA ?_
   refine Le.trans (QW (i:=6) (m:=1) Z) ?_
   exact Lr [0,1,2,6,3]
  ·obtain⟨rfl,rfl⟩:=b
   refine FE Z (TE 3 0 1 Z Z (FE Z (Go 7 Z ?_)))
   cases a
   refine QA ?_
   refine Le.trans (QW (i:=5) (m:=1) Z) ?_
   exact Lr [0,1,2,5,3]
  ·obtain⟨rfl,rfl⟩:=b
   refine FE Z (TE 3 0 1 Z Z (FE Z (Go 7 Z ?_)))
   cases a
   refine QA ?_
   refine Le.trans (QW (i:=5) (m:=1) Z) ?_
   exact Lr [0,1,2,5,3]
  ·obtain⟨rfl,rfl⟩:=b
   refine FE Z (TE 3 0 1 Z Z (FE Z (Go 7 Z ?_)))
   cases a
   refine QA ?_
   refine Le.trans (QW (i:=5) (m:=1) Z) ?_
   exact Lr [0,1,2,5,3]
  ·obtain⟨rfl,rfl⟩:=b
   refine FE Z (TE 3 0 1 Z Z (FE Z (Go 7 Z ?_)))
   cases a
   refine QA ?_
   refine Le.trans (QW (i:=5) (m:=1) Z) ?_
   exact Lr [0,1,2,5,3]
  ·obtain⟨rfl,rfl⟩:=b
   refine FE Z (Go 7 Z ?_)
   cases a
   refine QA ?_
   refine Le.trans (QW (i:=4) (m:=1) Z) ?_
   refine Le.trans (Le.phantomE (i:=4) (m:=0) (t:=181) (b1:=0) (b2:=1) Z Z Z) ?_
   exact Lr [0,1,2,4,5]
  ·obtain⟨rfl,rfl⟩:=b
   refine FE Z (TE 3 0 1 Z Z (FE Z (Go 7 Z ?_)))
   cases a
   refine QA ?_
   refine Le.trans (QW (i:=5) (m:=1) Z) ?_
   exact Lr [0,1,2,5,3]
  ·obtain⟨rfl,rfl⟩:=b
   refine FE Z (Go 7 Z ?_)
   cases a
   refine QA ?_
   refine Le.trans (QW (i:=4) (m:=1) Z) ?_
   refine Le.trans (Le.phantomE (i:=4) (m:=0) (t:=181) (b1:=0) (b2:=1) Z Z Z) ?_
   exact Lr [0,1,2,4,5]
 refine Gx 1 Z (TC.le q (Gc 1 Z (DAs 4 1 [0,1,3,3] (by kernel_rfl) (Da 1 Z ?_))))
 obtain⟨Q,l,h⟩:=Y3 h
 refine DA.op (x:=.osl 5 0 4 3) (H1:=[.cells 81 (Fact.c ({f with Kind:=e.Kind:Fact})),.cells 3 [I g],.cells 81 (Fact.c e),.cells 171 [.osl 4 0 d.length 3,.any],.ents 181 0 1 d,.rowr 181 3 [[.ptr 0 3,I 1,I 13],[.ptr 0 0,I 0,I 31],[.ptr 0 1,I 1,I 1048576],[.ptr 0 2,I 0,I 1099511627776]]]) ?_ ?_
 ·refine QP [0] (OpC.fn call84 Z Z Z) (k_bf _ _ _ l) ?_
  rintro _ _ ⟨rfl,rfl⟩
  exact FE Z Wp
 refine Db 1 Z ?_
 refine DB.wo2 (x:=.osl 4 0 d.length 3) (Ld isAgg169 Z Wp) (Ld isAgg169 Z Wp) ?_
 refine DB.done Z (TE 5 0 1 Z Z (FE Z (Bd h fun R p h=>?_)))
 refine vH (Qgd (i:=5) (j:=4) p Jh runUnderlying169 Z) ?_
 exact FE Z (Go 4 Z (Rt h 5 [0,1,2,6]))
def F_fp(n:Nat)(e:Fact)(b2:Int)(f:List Ent)(m:List Ent)(a:(List Int)×Fact×Int×Int):Option (Ctl ((List Int)×Fact×Int×Int) (Ctl ((List Int)×Fact×Int) ((List Int)×Bool))):=
  (bif decide (a.2.2.2<(f.length:Int))then(idx f a.2.2.2).bind fun b=>(QfA (Fact.c e) b2 b).bind fun g=>(bif decide (g<b.lo)then some (.done (.done ([],false)))else(QfA (Fact.c e) b2 b).bind fun h=>(bif decide (b.hi<h)then some (.done (.done ([],false)))else(idx m a.2.2.2).bind fun i=>(QfA (Fact.c e) b2 b).bind fun j=>(Qiy Fact.put a.2.1 a.2.2.1 i j).bind fun d=>(QfA (Fact.c e) b2 b).bind fun k=>(app a.1 [k]).bind fun l=>some (.cont (l,d.1,d.2,IntKind.i64.wrap (a.2.2.2+1)))))else some (.done (.cont (a.1,a.2.1,a.2.2.1))))
def F_bs(n:Nat)(a:Fact):Option ((List Int)×Bool):=
  ((bif a.Appeal.Suspends then some 1 else some 0):Option Int).bind fun b2=>((F_bd n a b2).bind fun f=>(match f with|.c0 k=>((F_e n).bind fun l=>some (.cont ([⟨false,4,1,9999⟩,⟨false,5,0,7⟩,⟨false,6,0,31⟩,⟨false,7,(-1099511627776),1099511627776⟩,⟨false,8,0,120⟩,⟨false,9,0,1048576⟩,⟨false,10,0,9999⟩,⟨false,11,0,1048576⟩]:List Ent)))|.c1 m=>((F_e n).bind fun p=>some (.cont ([⟨false,12,0,39⟩,⟨false,13,0,255⟩,⟨false,14,0,1048576⟩,⟨false,15,(-1099511627776),1099511627776⟩]:List Ent)))|.c2 q=>((F_e n).bind fun r=>some (.cont ([⟨false,16,0,39⟩,⟨false,17,0,255⟩,⟨false,18,(-1099511627776),1099511627776⟩,⟨false,19,(-1099511627776),1099511627776⟩,⟨false,20,0,1099511627776⟩]:List Ent)))|.c3 s=>((F_fx n a).bind fun t=>(bif (!(decide (a.Sync.Min<=a.Sync.Max)))then some (.done ([],false))else some (.cont ([⟨false,21,0,39⟩,⟨false,22,0,255⟩,⟨false,23,(-1099511627776),1099511627776⟩,⟨false,24,0,39⟩,⟨false,25,0,255⟩,⟨false,26,(-1099511627776),1099511627776⟩,⟨false,27,(-1099511627776),1099511627776⟩,⟨false,28,(-1099511627776),1099511627776⟩]:List Ent))))|.c4 u=>((F_gt n a).bind fun w=>(bif (!(decide (a.Hand.Lo<=a.Hand.Hi)))then some (.done ([],false))else some (.cont ([⟨false,29,1,9999⟩,⟨false,30,0,255⟩,⟨false,31,(-1099511627776),1099511627776⟩,⟨false,32,(-1099511627776),1099511627776⟩]:List Ent))))|.c5 x=>((F_gj n a).bind fun y=>(bif (!(decide (a.Silence.Lo<=a.Silence.Hi)))then some (.done ([],false))else some (.cont ([⟨false,33,0,39⟩,⟨false,34,0,255⟩,⟨false,35,(-1099511627776),1099511627776⟩,⟨false,36,(-1099511627776),1099511627776⟩]:List Ent))))|.c6 z=>((F_gn n a).bind fun E=>(bif (!(decide (a.Pair.A<a.Pair.B)))then some (.done ([],false))else some (.cont ([⟨false,37,1,9999⟩,⟨false,38,1,9999⟩]:List Ent))))|.c7 F=>((F_e n).bind fun G=>some (.cont ([⟨false,39,1,1048576⟩,⟨false,40,1,9999⟩,⟨false,41,0,31⟩,⟨false,42,0,255⟩]:List Ent)))|.c8 H=>((F_e n).bind fun J=>some (.cont ([⟨false,43,1,1048576⟩,⟨false,44,0,9999⟩,⟨false,45,0,1125899906842624⟩,⟨false,46,0,1⟩]:List Ent)))|.c9 c=>((F_e n).bind fun L=>some (.cont ([⟨false,47,1,1048576⟩,⟨false,48,1,2⟩,⟨false,49,1,5⟩,⟨false,50,c.1,c.2.1⟩,⟨false,51,c.2.2.1,c.2.2.2.1⟩,⟨false,52,c.2.2.2.2.1,c.2.2.2.2.2⟩]:List Ent)))|.c10 M=>((F_e n).bind fun N=>some (.cont ([⟨false,53,1,1048576⟩,⟨true,0,0,1⟩]:List Ent)))|.c11 O=>((F_e n).bind fun P=>some (.cont []))|.c12 Q=>((F_e n).bind fun R=>some (.cont ([⟨false,55,0,31⟩,⟨false,56,1,1048576⟩]:List Ent)))|.c13 T=>(some (.done ([],false)))):Option (Ctl (List Ent) ((List Int)×Bool))).bind fun g=>match g with|.cont d=>((F_bf n a).bind fun V=>(app ([⟨false,3,1,13⟩,⟨false,0,0,31⟩,⟨false,1,1,1048576⟩,⟨false,2,0,1099511627776⟩]:List Ent) d).bind fun h=>(F_dp n ({z_Fact with Ruling:={z_Ruling with Kind:=a.Ruling.Kind:Ruling}:Fact}) 0 a).bind fun i=>(iter (F_fp n a b2 h i) n ([],({({z_Fact with Ruling:={z_Ruling with Kind:=a.Ruling.Kind:Ruling}:Fact})with Kind:=a.Kind:Fact}),0,0):Option (Ctl ((List Int)×Fact×Int) ((List Int)×Bool))).bind fun j=>match j with|.cont b=>(((bif (a.Kind != 10)then some ({b.2.1 with Ruling:={b.2.1.Ruling with Kind:=0:Ruling}:Fact})else some b.2.1):Option Fact).bind fun e=>some (b.1,(({e with Appeal:={Case:=e.Appeal.Case,Suspends:=(b.2.2==1):Appeal}:Fact})==a)))|.done b=>some b)|.done d=>some d
theorem k_bs(n:Nat)(F:Fact)(r:(List Int)×Bool)(h:F_bs n F=some r):
    C prog 49 [.agg (Fact.c F)] [] (RQ (fun r=>.tup [.osl 0 0 r.1.length 1,.bool r.2]) (fun r=>[.row 3 1 (List.map (Qf .i64) r.1)]) r):=by
 refine Qb func49 Z Z Z ?_
 refine G0 21 Z (Bd h fun b2 M h=>?_)
 refine Ct b2 [0,1] [1,2,4] (fun _=>[]) (fun b2=>[(1,.cells 3 [I b2])]) (fun _=>rfl) ?_ (fun env H B=>?_)
 ·refine G0 0 Z (Cn Z M (fun am M=>?_) (fun am M=>?_))
  ·exact Gc 3 Z (Cl M [0,1])
  exact Gc 1 Z (Cl M [0,1])
 refine Gx 1 Z (TC.le B (Gc 7 Z (Bd h fun an a h=>?_)))
 refine Ct3E (b:=an) (fun y=>[(1,.ptr 0 0),(2,.nils),(5,.ptr 1 0),(6,.ptr 2 0)]) (fun y=>[.cells 81 (Fact.c F),.cells 81 (Fact.c F),.cells 171 [.osl 3 0 y.length 3,.any],.ents 181 1 4 y,.cells 3 [I b2]]) ?_ (fun y env H hb B=>?_)
 ·refine Gc 1 Z (Bd a fun ao aa a=>?_)
  refine QP [2,1] (OpC.fn call82 Z Z Z) (k_bd _ _ _ _ aa) ?_
  intro ra rH w
  rcases ao with bl|bm|bn|bo|bp|bq|br|bs|bt|bu|bv|bw|bx|bz
  ·obtain⟨rfl,rfl⟩:=w
   refine FE Z (TE 3 2 1 Z Z (FE Z (Go 15 Z (Cz [] a (k_e _) Z fun ca aw a=>Go 6 Z ?_))))
   cases a
   refine Qp Z ?_
   refine Le.trans (QW (i:=5) (m:=1) Z) ?_
   exact Lr [0,2,5,3,1]
  ·obtain⟨rfl,rfl⟩:=w
   refine FE Z (TE 3 2 1 Z Z (FE Z (Go 15 Z (Cz [] a (k_e _) Z fun cb ax a=>Go 6 Z ?_))))
   cases a
   refine Qp Z ?_
   refine Le.trans (QW (i:=5) (m:=1) Z) ?_
   exact Lr [0,2,5,3,1]
  ·obtain⟨rfl,rfl⟩:=w
   refine FE Z (TE 3 2 1 Z Z (FE Z (Go 15 Z (Cz [] a (k_e _) Z fun cc ay a=>Go 6 Z ?_))))
   cases a
   refine Qp Z ?_
   refine Le.trans (QW (i:=5) (m:=1) Z) ?_
   exact Lr [0,2,5,3,1]
  ·obtain⟨rfl,rfl⟩:=w
   refine FE Z (TE 3 2 1 Z Z (FE Z (Go 15 Z (Cz [4,2] a (k_fx _ _) Z fun cd az a=>Go 4 Z (Cn Z a (fun ab a=>?_) (fun ab a=>?_))))))
   ·refine Gc 7 Z ?_
    cases a
    refine Qq (Gx 1 Z ?_)
    obtain rfl:=Oi h
    refine R2 2 3 Z Z ?_
    refine Le.trans (Le.phantom (s:=2) (k:=1) (t:=3) (Nat.le_of_ble_eq_true Z) Z) ?_
    exact Lr [7]
   refine Gc 1 Z ?_
   cases a
   refine Qp Z ?_
   refine Le.trans (QW (i:=6) (m:=1) Z) ?_
   exact Lr [0,2,6,3,1]
  ·obtain⟨rfl,rfl⟩:=w
   refine FE Z (TE 3 2 1 Z Z (FE Z (Go 15 Z (Cz [4,2] a (k_gt _ _) Z fun ce ba a=>Go 4 Z (Cn Z a (fun ac a=>?_) (fun ac a=>?_))))))
   ·refine Gc 7 Z ?_
    cases a
    refine Qq (Gx 1 Z ?_)
    obtain rfl:=Oi h
    refine R2 2 3 Z Z ?_
    refine Le.trans (Le.phantom (s:=2) (k:=1) (t:=3) (Nat.le_of_ble_eq_true Z) Z) ?_
    exact Lr [7]
   refine Gc 1 Z ?_
   cases a
   refine Qp Z ?_
   refine Le.trans (QW (i:=6) (m:=1) Z) ?_
   exact Lr [0,2,6,3,1]
  ·obtain⟨rfl,rfl⟩:=w
   refine FE Z (TE 3 2 1 Z Z (FE Z (Go 15 Z (Cz [4,2] a (k_gj _ _) Z fun cf bb a=>Go 4 Z (Cn Z a (fun ad a=>?_) (fun ad a=>?_))))))
   ·refine Gc 7 Z ?_
    cases a
    refine Qq (Gx 1 Z ?_)
    obtain rfl:=Oi h
    refine R2 2 3 Z Z ?_
    refine Le.trans (Le.phantom (s:=2) (k:=1) (t:=3) (Nat.le_of_ble_eq_true Z) Z) ?_
    exact Lr [7]
   refine Gc 1 Z ?_
   cases a
   refine Qp Z ?_
   refine Le.trans (QW (i:=6) (m:=1) Z) ?_
   exact Lr [0,2,6,3,1]
  ·obtain⟨rfl,rfl⟩:=w
   refine FE Z (TE 3 2 1 Z Z (FE Z (Go 15 Z (Cz [4,2] a (k_gn _ _) Z fun cg bc a=>Go 4 Z (Cn Z a (fun ae a=>?_) (fun ae a=>?_))))))
   ·refine Gc 7 Z ?_
    cases a
    refine Qq (Gx 1 Z ?_)
    obtain rfl:=Oi h
    refine R2 2 3 Z Z ?_
    refine Le.trans (Le.phantom (s:=2) (k:=1) (t:=3) (Nat.le_of_ble_eq_true Z) Z) ?_
    exact Lr [7]
   refine Gc 1 Z ?_
   cases a
   refine Qp Z ?_
   refine Le.trans (QW (i:=6) (m:=1) Z) ?_
   exact Lr [0,2,6,3,1]
  ·obtain⟨rfl,rfl⟩:=w
   refine FE Z (TE 3 2 1 Z Z (FE Z (Go 15 Z (Cz [] a (k_e _) Z fun ch bd a=>Go 6 Z ?_))))
   cases a
   refine Qp Z ?_
   refine Le.trans (QW (i:=5) (m:=1) Z) ?_
   exact Lr [0,2,5,3,1]
  ·obtain⟨rfl,rfl⟩:=w
   refine FE Z (TE 3 2 1 Z Z (FE Z (Go 15 Z (Cz [] a (k_e _) Z fun ci be a=>Go 6 Z ?_))))
   cases a
   refine Qp Z ?_
   refine Le.trans (QW (i:=5) (m:=1) Z) ?_
   exact Lr [0,2,5,3,1]
  ·obtain⟨rfl,rfl⟩:=w
   refine FE Z (TE 3 2 1 Z Z (FE Z (Go 15 Z (Cz [] a (k_e _) Z fun cj bf a=>Go 6 Z ?_))))
   cases a
   refine Qp Z ?_
   refine Le.trans (QW (i:=5) (m:=1) Z) ?_
   exact Lr [0,2,5,3,1]
  ·obtain⟨rfl,rfl⟩:=w
   refine FE Z (TE 3 2 1 Z Z (FE Z (Go 15 Z (Cz [] a (k_e _) Z fun ck bg a=>Go 6 Z ?_))))
   cases a
   refine Qp Z ?_
   refine Le.trans (QW (i:=5) (m:=1) Z) ?_
   exact Lr [0,2,5,3,1]
  ·obtain⟨rfl,rfl⟩:=w
   refine FE Z (Go 15 Z (Cz [] a (k_e _) Z fun cl bh a=>Go 6 Z ?_))
   cases a
   refine Qp Z ?_
   refine Le.trans (QW (i:=4) (m:=1) Z) ?_
   refine Le.trans (Le.phantomE (i:=4) (m:=0) (t:=181) (b1:=2) (b2:=1) Z Z Z) ?_
   exact Lr [0,2,4,5,1]
  ·obtain⟨rfl,rfl⟩:=w
   refine FE Z (TE 3 2 1 Z Z (FE Z (Go 15 Z (Cz [] a (k_e _) Z fun cm bi a=>Go 6 Z ?_))))
   cases a
   refine Qp Z ?_
   refine Le.trans (QW (i:=5) (m:=1) Z) ?_
   exact Lr [0,2,5,3,1]
  ·obtain⟨rfl,rfl⟩:=w
   refine FE Z (Go 28 Z ?_)
   cases a
   refine Qq (Gx 1 Z ?_)
   obtain rfl:=Oi h
   refine R2 2 3 Z Z ?_
   refine Le.trans (Le.phantom (s:=2) (k:=1) (t:=3) (Nat.le_of_ble_eq_true Z) Z) ?_
   exact Lr [5]
 subst hb
 refine Gx 1 Z (TC.le B (Gc 12 Z (DAs 3 0 [1,3,3] (by kernel_rfl) ?_)))
 obtain⟨cn,af,h⟩:=Y3 h
 refine DA.op (x:=.osl 6 0 4 3) (H1:=[.cells 81 (Fact.c F),.cells 81 (Fact.c F),.cells 171 [.osl 3 0 y.length 3,.any],.ents 181 1 4 y,.cells 3 [I b2],.cells 81 (Fact.c z_Fact),.rowr 181 3 [[.ptr 1 3,I 1,I 13],[.ptr 1 0,I 0,I 31],[.ptr 1 1,I 1,I 1048576],[.ptr 1 2,I 0,I 1099511627776]]]) ?_ ?_
 ·refine QP [1] (OpC.fn call84 Z Z Z) (k_bf _ _ _ af) ?_
  rintro _ _ ⟨rfl,rfl⟩
  exact FE Z Wp
 refine Db 1 Z ?_
 refine DB.wo2 (x:=.osl 3 0 y.length 3) (Ld isAgg169 Z Wp) (Ld isAgg169 Z Wp) ?_
 refine DB.done Z (TE 6 1 4 Z Z (FE Z (Bd h fun aq ag h=>?_)))
 refine vH (Qgd (i:=6) (j:=3) ag Jh runUnderlying169 Z) ?_
 refine FE Z (Go 22 Z (Cd [5,8,0] h (k_dp _ _ _ _) Z fun ar bj h=>FE Z (Go 11 Z (Bd h fun au ah h=>?_))))
 refine CtE (b:=au) [0,1,2,3] [1] (fun g=>[(2,.osl 1 0 g.1.length 1),(7,.ptr 2 0),(10,.ptr 3 0)]) (fun g=>[(1,.row 3 1 (List.map (Qf .i64) g.1)),(2,.cells 81 (Fact.c g.2.1)),(3,.cells 3 [I g.2.2])]) (fun _=>rfl) ?_ (fun g env H av B=>?_)
 ·refine G0 1 Z ?_
  refine Lp [0,0,5,8,9,7,1,4] [1,7,10,11,42,43] (fun l=>[(2,.osl 1 0 l.1.length 1),(44,I l.2.2.2)]) (fun l=>[(1,.row 3 1 (List.map (Qf .i64) l.1)),(2,.cells 81 (Fact.c l.2.1)),(3,.cells 3 [I l.2.2.1]),(4,.ents 181 2 3 ar),(5,.ents 181 6 7 aq)]) ah (fun _=>rfl) ?_ ?_
  ·refine Le.trans (Le.phantom (s:=2) (k:=1) (t:=3) (Nat.le_of_ble_eq_true Z) Z) ?_
   exact Lr [0,10,5,8,9,7,1,4]
  intro l bk d G
  refine G0 6 Z (Ys Z d (fun O d=>?_) (fun O d=>?_))
  ·refine Gc 2 Z (Qm d ?_)
   obtain rfl:=Oj G d
   exact Gx 1 Z (Qp Z (Lr [0,1,2,3]))
  refine Gc 7 Z (Bd d fun z he106 d=>?_)
  refine vX (.ptr 5 (Int.toNat l.2.2.2*3)) (QK he106 Z runUnderlying169 sizeOf181) ?_
  refine vX (.agg [QgR 6 7 z,I z.lo,I z.hi]) (Qo Z isAgg181 sizeOf181 Z (Pts.ents (f:=0) (Qam he106).2) Z Z) ?_
  refine Go 7 Z (DSs 16 Z (D 2 Z ?_))
  refine DS.wo (x:=QgR 6 7 z) ?_ ?_
  ·exact S Z Wp
  obtain⟨ai,P,d⟩:=Y3 d
  refine DS.v (x:=(I ai)) (Qb2 P isAgg3) ?_
  refine D 5 Z (Qdg 8 d Z Z Z (fun Q d=>?_) (fun Q d=>?_))
  ·refine D 7 Z (DS.done Z (Go 15 Z (Qx d ?_)))
   obtain rfl:=Oj G d
   refine Gx 1 Z (Qq (Gx 1 Z ?_))
   obtain rfl:=Oi h
   refine R2 2 3 Z Z ?_
   refine Le.trans (Le.phantom (s:=2) (k:=1) (t:=3) (Nat.le_of_ble_eq_true Z) Z) ?_
   exact Lr [9]
  ·refine D 2 Z ?_
   refine DS.wo (x:=QgR 6 7 z) ?_ ?_
   ·exact Sg (gT Z) Z Wp
   obtain⟨aj,R,d⟩:=Y3 d
   refine DS.v (x:=(I aj)) (Qb2 R isAgg3) ?_ (hg:=(gT Z))
   refine D 3 Z (DS.done Z (Go 4 Z (Cn Z d (fun T d=>?_) (fun T d=>?_))))
   ·refine Gc 10 Z (Qx d ?_)
    obtain rfl:=Oj G d
    refine Gx 1 Z (Qq (Gx 1 Z ?_))
    obtain rfl:=Oi h
    refine R2 2 3 Z Z ?_
    refine Le.trans (Le.phantom (s:=2) (k:=1) (t:=3) (Nat.le_of_ble_eq_true Z) Z) ?_
    exact Lr [9]
   refine Gc 3 Z (DSs 9 Z (D 2 Z ?_))
   obtain⟨ak,he111,d⟩:=Y3 d
   refine DS.v (x:=(.ptr 4 (Int.toNat l.2.2.2*3))) (QK he111 Z runUnderlying169 sizeOf181) ?_
   refine DS.wo (x:=.ptr 4 (Int.toNat l.2.2.2*3)) ?_ ?_
   ·exact Fp QlY Z Wp
   refine DS.v (x:=(QgR 2 3 ak)) (OpV.load Z isAgg175 Z (Pts.ents (f:=0) (Qam he111).2)) ?_
   refine D 2 Z ?_
   refine DS.wo (x:=QgR 6 7 z) ?_ ?_
   ·exact S Z Wp
   obtain⟨al,V,d⟩:=Y3 d
   refine DS.v (x:=(I al)) (Qb2 V isAgg3) ?_
   refine DS.done Z (S Z (Bd d fun J hq113 d=>?_))
   refine vU (Qji (c:=Fact.c) (f:=l.2.1) (f':=J.1) (s':=J.2) hq113 QnB sizeOf3) ?_
   refine Qi7 (H:=[_,_,.cells 81 (Fact.c J.1),.cells 3 [I J.2],_,_,_,_,_]) Z ?_
   refine Go 6 Z (S Z (Bd d fun L W d=>?_))
   refine vX (I L) (Qb2 W isAgg3) ?_
   refine vH (OpH.lit (xs:=[.tmp 81]) (es:=List.map (Qf .i64) [L]) Qu Z Z Z Z Z ⟨Z,trivial⟩ Z Z) ?_
   refine aV (.osl 9 0 ([L].length) 1) [_,_,_,_,_,_,_,_,_,.row 3 1 (List.map (Qf .i64) [L])] Z Z ?_
   refine Bd d fun N X d=>?_
   refine vH (Ql (e:=(Qf .i64)) X Qu runUnderlying48 (QT (i:=9))) ?_
   refine aV (.osl 10 0 N.length 1) [_,.dead,_,_,_,_,_,_,_,_,.row 3 1 (List.map (Qf .i64) N)] Z Z ?_
   exact Go 8 Z (Qj d (Lr [0,10,2,3,4,5,6,7]))
 subst av
 refine Gx 1 Z (TC.le B (Gc 8 Z (Bd h fun u E h=>?_)))
 refine Ct u [0,1,2,3] [1,2,7,10] (fun _=>[]) (fun u=>[(2,.cells 81 (Fact.c u))]) (fun _=>rfl) ?_ (fun env H B=>?_)
 ·refine G0 0 Z (Cn Z E (fun Y E=>?_) (fun Y E=>?_))
  ·exact Gc 5 Z (Cl E [0,1,2,3])
  exact Gc 1 Z (Cl E [0,1,2,3])
 refine Gx 1 Z (TC.le B (Gc 10 Z ?_))
 refine TC.draw0 5 [94,95,96,97,2] [.osl 1 0 g.1.length 1,.agg (Fact.c ({u with Appeal:={Case:=u.Appeal.Case,Suspends:=(g.2.2==1):Appeal}:Fact})),.agg (Fact.c F),.bool (({u with Appeal:={Case:=u.Appeal.Case,Suspends:=(g.2.2==1):Appeal}:Fact})==F),.osl 1 0 g.1.length 1] draws Z Z Z ?_ ?_
 ·refine Oq.c ?_ (ov (ov (Oq.c ?_ (ov (Oq.n)))))
  ·refine Om Z (sP 4 sN) ?_
   exact S Z Wp
  ·refine Om Z (sD 1 (sD 2 sN)) ?_
   refine vX (.bool (({u with Appeal:={Case:=u.Appeal.Case,Suspends:=(g.2.2==1):Appeal}:Fact})==F)) (Qb4 (p:={u with Appeal:={Case:=u.Appeal.Case,Suspends:=(g.2.2==1):Appeal}:Fact}) (q:=F) QiZ Z Z) ?_
   exact Wp
 refine Go 4 Z ?_
 obtain rfl:=Oi h
 exact R2 2 3 Z Z (Lr [1])
def F_bc(n:Nat)(a:Fact):Option Int:=
  (F_bs n a).bind fun b=>(bif (!b.2)then some 120 else some 0)
theorem k_bc(n:Nat)(a:Fact)(r:Int)(h:F_bc n a=some r):
    Csm prog 26 [.agg (Fact.c a)] [] (fun r=>I r) r:=by
 refine Qb func26 Z Z Z ?_
 refine G0 10 Z (Cd [] h (k_bs _ _) Z fun e d h=>FE Z (Go 13 Z (Cn Z h (fun b h=>?_) (fun b h=>?_))))
 ·exact Gc 7 Z (Rt h 2 [])
 exact Gc 8 Z (Rt h 2 [])
def F_cb(n:Nat)(a:Int):Option Unit:=
  some ()
theorem k_cb(n:Nat)(a:Int)(r:Unit)(h:F_cb n a=some r):
    Csm prog 67 [I a] [] (fun _=>.bool (a != a)) r:=by
 refine Qb func67 Z Z Z ?_
 exact G0 14 Z (Rt h 2 [])
def F_af(n:Nat)(b:Int)(a:Int):Option Int:=
  (F_cb n b).bind fun c=>(F_cb n a).bind fun d=>(bif (b != b)then(bif (a != a)then some 0 else some (-1))else(bif (a != a)then some 1 else(bif decide (b<a)then some (-1)else(bif decide (a<b)then some 1 else some 0))))
theorem QlD(n:Nat)(a:Int)(b:Int)(r:Int)(h:F_af n a b=some r):
    Csm prog 41 [I a,I b] [] (fun r=>I r) r:=by
 refine Qb func41 Z Z Z ?_
 refine G0 8 Z (Cz [] h (k_cb _ _) Z fun k i h=>Go 6 Z (Cz [] h (k_cb _ _) Z fun l j h=>Go 9 Z (Cn Z h (fun c h=>?_) (fun c h=>?_))))
 ·refine Gc 6 Z (Cn Z h (fun d h=>?_) (fun d h=>?_))
  ·exact Gc 8 Z (Rt h 4 [])
  exact Gc 9 Z (Rt h 4 [])
 refine Gc 8 Z (Cn Z h (fun e h=>?_) (fun e h=>?_))
 ·exact Gc 7 Z (Rt h 4 [])
 refine Gc 10 Z (Cn Z h (fun f h=>?_) (fun f h=>?_))
 ·exact Gc 7 Z (Rt h 4 [])
 refine Gc 10 Z (Cn Z h (fun g h=>?_) (fun g h=>?_))
 ·exact Gc 7 Z (Rt h 4 [])
 exact Gc 8 Z (Rt h 4 [])
def F_bu(n:Nat)(c:List Int)(a:Int):Option (Ctl Int (Ctl Unit Int)):=
  (bif decide (a<(c.length:Int))then(idx c a).bind fun b=>(bif (b != 0)then some (.done (.done b))else some (.cont (IntKind.i64.wrap (a+1))))else some (.done (.cont ())))
def F_au(n:Nat)(b:List Int):Option Int:=
  (iter (F_bu n b) n 0:Option (Ctl Unit Int)).bind fun c=>match c with|.cont a=>(some 0)|.done a=>some a
theorem k_au(n:Nat)(i:List Int)(r:Int)(h:F_au n i=some r):
    Csm prog 40 [.rsl 1 (List.map (Qf .i64) i)] [] (fun r=>I r) r:=by
 refine Qb func40 Z Z Z ?_
 refine G0 14 Z (Lm Z (Go 3 Z (Bd h fun l m h=>?_)))
 refine CtE (b:=l) [] [3] (fun _=>[]) (fun _=>[]) (fun _=>rfl) ?_ (fun p env H j k=>?_)
 ·refine G0 1 Z ?_
  refine Lp [] [3,6,7] (fun d=>[(8,I d)]) (fun _=>[]) m (fun _=>rfl) (Lr []) fun d q a c=>?_
  refine G0 6 Z (Ys Z a (fun e a=>?_) (fun e a=>?_))
  ·refine Gc 2 Z (Qm a ?_)
   obtain rfl:=Oj c a
   exact Gx 1 Z (Qp Z (Lr []))
  refine Gc 6 Z (Bd a fun s f a=>Iz f Z (Go 11 Z (Cn Z a (fun g a=>?_) (fun g a=>?_))))
  ·refine Gc 9 Z (Qx a ?_)
   obtain rfl:=Oj c a
   exact Gx 1 Z (Qq (Gx 1 Z (Rt h 2 [])))
  exact Gc 7 Z (Qj a (Lr []))
 subst j
 exact Gx 1 Z (TC.le k (Gc 7 Z (Rt h 2 [])))
def F_jg(n:Nat)(c:Value)(rec137:Value->Option (Int×Bool))(a:Int×Int):Option (Ctl (Int×Int) (Ctl Int (Int×Bool))):=
  (bif decide (a.2<(c.L.length:Int))then(idx c.L a.2).bind fun d=>(rec137 d).bind fun b=>(bif (!b.2)then some (.done (.done (0,false)))else some (.cont ((if a.1<b.1 then b.1 else a.1),IntKind.i64.wrap (a.2+1))))else some (.done (.cont a.1)))
def B_u(rec137:Value->Option (Int×Bool))(n:Nat)(a:Value):Option (Int×Bool):=
  ((bif (a.S==[])then(bif (a.N==0)then(arr 4 (List.replicate 4 false)).bind fun k=>(arr 4 ([false,((a.L.length:Int)==0),((a.L.length:Int)==0),(a.S==[])]:List Bool)).bind fun c=>some c else(arr 4 (List.replicate 4 false)).bind fun l=>(arr 4 ([false,((a.L.length:Int)==0),false,false]:List Bool)).bind fun d=>some d)else(bif (a.N==0)then(arr 4 (List.replicate 4 false)).bind fun m=>(arr 4 ([false,false,((a.L.length:Int)==0),(a.S==[])]:List Bool)).bind fun e=>some e else(arr 4 (List.replicate 4 false)).bind fun p=>(arr 4 ([false,false,false,false]:List Bool)).bind fun f=>some f)):Option (List Bool)).bind fun g=>((bif decide (a.Kind<1)then some true else(bif decide (3<a.Kind)then some true else(Qea 4 g a.Kind).bind fun h=>some (!h))):Option Bool).bind fun i=>(bif i then some (0,false)else(bif decide (a.Kind<3)then some (0,true)else(iter (F_jg n a rec137) n (0,0):Option (Ctl Int (Int×Bool))).bind fun j=>match j with|.cont b=>(some (IntKind.i64.wrap (b+1),true))|.done b=>some b))
theorem Qdp(rec137:Value->Option (Int×Bool))(s:∀(j:Value) (r:Int×Bool),rec137 j=some r->Csm prog 200 [.agg (Value.c j)] [] (fun r=>.tup [I r.1,.bool r.2]) r)(n:Nat)(j:Value)(r:Int×Bool)(h:B_u rec137 n j=some r):
    Csm prog 200 [.agg (Value.c j)] [] (fun r=>.tup [I r.1,.bool r.2]) r:=by
 refine Qb func200 Z Z Z ?_
 refine G0 8 Z (Bd h fun q a h=>?_)
 refine Ct q [0,0] [1,2] (fun _=>[(4,.ptr 1 0)]) (fun q=>[(1,.row 314 1 (List.map Qa3 q))]) (fun _=>rfl) ?_ (fun env H m=>?_)
 ·refine G0 5 Z (Is 12 a Z (fun Q a=>?_) (fun Q a=>?_))
  ·refine Go 2 Z (Lm Z (Go 6 Z (Is 21 a Z (fun f a=>?_) (fun f a=>?_))))
   ·refine Go 2 Z (Lm Z (Go 6 Z (Fpg (gT f) QhL Z (Ldg (gT f) isAgg9 Z ?_))))
    refine vX (.bool (j.S==[])) (QdB Z Z Z) ?_ (gT f)
    refine Pk f Z ?_
    refine vV (x:=(.agg (List.flatten (List.map Qa3 ([false,((j.L.length:Int)==0),((j.L.length:Int)==0),(j.S==[])]:List Bool))))) (Jy (n:=4) (k:=1) (zs:=[.bool false,.bool false,.bool false,.bool false]) zeroValue314 (ZR.agg (zc ZR.bool (zc ZR.bool (zc ZR.bool (zc ZR.bool ZL.nil))))) runUnderlying314 sizeOf4 Z) ?_
    refine vH (Y6 (n:=4) (k:=1) (e:=Qa3) (z:=false) zeroValue314 (by kernel_rfl) (by kernel_rfl) (by kernel_rfl) Z) ?_
    refine FE Z (Bd a fun aq R a=>Bd a fun af t a=>?_)
    obtain⟨J,rfl⟩:=Jj R
    refine vU (Y5 (e:=Qa3) (l:=(List.replicate 4 false)) (l':=af) J (Qbq t) (fun _=>rfl) Z sizeOf314 (fun _=>rfl) (fun _=>rfl) (congrArg (fun l=>List.flatten (List.map Qa3 l)) (Jj t).2.symm)) ?_
    exact FE Z (Go 1 Z (Cl a [0,1]))
   ·refine Go 9 Z (KF f Z (KF f Z (KF f Z (Pk f Z ?_))))
    refine vV (x:=(.agg (List.flatten (List.map Qa3 ([false,((j.L.length:Int)==0),false,false]:List Bool))))) (Jy (n:=4) (k:=1) (zs:=[.bool false,.bool false,.bool false,.bool false]) zeroValue314 (ZR.agg (zc ZR.bool (zc ZR.bool (zc ZR.bool (zc ZR.bool ZL.nil))))) runUnderlying314 sizeOf4 Z) ?_
    refine vH (Y6 (n:=4) (k:=1) (e:=Qa3) (z:=false) zeroValue314 (by kernel_rfl) (by kernel_rfl) (by kernel_rfl) Z) ?_
    refine FE Z (Bd a fun ar T a=>Bd a fun ag u a=>?_)
    obtain⟨M,rfl⟩:=Jj T
    refine vU (Y5 (e:=Qa3) (l:=(List.replicate 4 false)) (l':=ag) M (Qbq u) (fun _=>rfl) Z sizeOf314 (fun _=>rfl) (fun _=>rfl) (congrArg (fun l=>List.flatten (List.map Qa3 l)) (Jj u).2.symm)) ?_
    exact FE Z (Go 1 Z (Cl a [0,1]))
  ·refine Go 9 Z (Is 21 a Z (fun g a=>?_) (fun g a=>?_))
   ·refine Go 2 Z (Lm Z (Go 6 Z (Fpg (gT g) QhL Z (Ldg (gT g) isAgg9 Z ?_))))
    refine vX (.bool (j.S==[])) (QdB Z Z Z) ?_ (gT g)
    refine Pk g Z ?_
    refine vV (x:=(.agg (List.flatten (List.map Qa3 ([false,false,((j.L.length:Int)==0),(j.S==[])]:List Bool))))) (Jy (n:=4) (k:=1) (zs:=[.bool false,.bool false,.bool false,.bool false]) zeroValue314 (ZR.agg (zc ZR.bool (zc ZR.bool (zc ZR.bool (zc ZR.bool ZL.nil))))) runUnderlying314 sizeOf4 Z) ?_
    refine vH (Y6 (n:=4) (k:=1) (e:=Qa3) (z:=false) zeroValue314 (by kernel_rfl) (by kernel_rfl) (by kernel_rfl) Z) ?_
    refine FE Z (Bd a fun au V a=>Bd a fun ah w a=>?_)
    obtain⟨N,rfl⟩:=Jj V
    refine vU (Y5 (e:=Qa3) (l:=(List.replicate 4 false)) (l':=ah) N (Qbq w) (fun _=>rfl) Z sizeOf314 (fun _=>rfl) (fun _=>rfl) (congrArg (fun l=>List.flatten (List.map Qa3 l)) (Jj w).2.symm)) ?_
    exact FE Z (Go 1 Z (Cl a [0,1]))
   ·refine Go 9 Z (KF g Z (KF g Z (KF g Z (Pk g Z ?_))))
    refine vX (.agg (List.flatten (List.map Qa3 ([false,false,false,false]:List Bool)))) (Jy (n:=4) (k:=1) (zs:=[.bool false,.bool false,.bool false,.bool false]) zeroValue314 (ZR.agg (zc ZR.bool (zc ZR.bool (zc ZR.bool (zc ZR.bool ZL.nil))))) runUnderlying314 sizeOf4 Z) ?_
    refine vH (Y6 (n:=4) (k:=1) (e:=Qa3) (z:=false) zeroValue314 (by kernel_rfl) (by kernel_rfl) (by kernel_rfl) Z) ?_
    refine FE Z (Bd a fun av W a=>Bd a fun ai y a=>?_)
    obtain⟨O,rfl⟩:=Jj W
    refine vU (Y5 (e:=Qa3) (l:=(List.replicate 4 false)) (l':=ai) O (Qbq y) (fun _=>rfl) Z sizeOf314 (fun _=>rfl) (fun _=>rfl) (congrArg (fun l=>List.flatten (List.map Qa3 l)) (Jj y).2.symm)) ?_
    exact FE Z (Go 1 Z (Cl a [0,1]))
 refine Gx 1 Z (TC.le m (Gc 2 Z (Bd h fun B i h=>?_)))
 refine Ct B [0] [1,2] (fun B=>[(50,.bool B)]) (fun _=>[]) (fun _=>rfl) ?_ (fun env H m=>?_)
 ·refine G0 5 Z (Is 39 i Z (fun X i=>?_) (fun X i=>?_))
  ·exact Go 12 Z (Cl i [0])
  ·refine Go 5 Z (Is 44 i Z (fun Y i=>?_) (fun Y i=>?_))
   ·exact Go 7 Z (Cl i [0])
   ·refine Go 2 Z (Bd i fun aj E i=>?_)
    refine vX (.ptr 1 (Int.toNat j.Kind*1)) (Qah (n:=4) (k:=1) (l:=q) E runUnderlying314 sizeOf4 Z) ?_ (gT Z)
    refine vX (.bool aj) (OpV.load Z isAgg4 Z (Qw (QaS E).2)) ?_ (gT Z)
    exact Go 3 Z (Cl i [0])
 refine Gx 1 Z (TC.le m (Cn Z h (fun aa h=>?_) (fun aa h=>?_)))
 ·refine Gc 8 Z ?_
  obtain rfl:=Oi h
  exact R2 2 3 Z Z (Lr [])
 refine Gc 10 Z (Cn Z h (fun ab h=>?_) (fun ab h=>?_))
 ·refine Gc 8 Z ?_
  obtain rfl:=Oi h
  exact R2 2 3 Z Z (Lr [])
 refine Gc 7 Z (Lm Z (Go 3 Z (Bd h fun ak al h=>?_)))
 refine CtE (b:=ak) [] [] (fun F=>[(2,I F)]) (fun _=>[]) (fun _=>rfl) ?_ (fun F env H am m=>?_)
 ·refine G0 1 Z ?_
  refine Lp [] [55,56] (fun p=>[(2,I p.1),(57,I p.2)]) (fun _=>[]) al (fun _=>rfl) (Lr []) fun p aw d G=>?_
  refine G0 6 Z (Ys Z d (fun ac d=>?_) (fun ac d=>?_))
  ·refine Gc 2 Z (Qm d ?_)
   obtain rfl:=Oj G d
   exact Gx 1 Z (Qp Z (Lr []))
  refine Gc 6 Z (Bd d fun an ad d=>IzE ad (YQ an) Z (Go 8 Z (Cd [] d (s _) Z fun P ao d=>FE Z (Go 14 Z (Cn Z d (fun ae d=>?_) (fun ae d=>?_))))))
  ·refine Gc 10 Z (Qx d ?_)
   obtain rfl:=Oj G d
   refine Gx 1 Z (Qq (Gx 1 Z ?_))
   obtain rfl:=Oi h
   exact R2 2 3 Z Z (Lr [])
  refine Gc 5 Z ?_
  refine vX (I (if p.1<P.1 then P.1 else p.1)) (OpV.max Z Z Z Z) ?_
  exact Go 8 Z (Qj d (Lr []))
 subst am
 refine Gx 1 Z (TC.le m (Gc 9 Z ?_))
 obtain rfl:=Oi h
 exact R2 2 3 Z Z (Lr [])
def F_u:Nat->Value->Option (Int×Bool)
  |0=>fun _=>none
  |n+1=>B_u (F_u n) n
theorem k_u(n:Nat):∀(a:Value) (r:Int×Bool),F_u n a=some r->Csm prog 200 [.agg (Value.c a)] [] (fun r=>.tup [I r.1,.bool r.2]) r:=by
  induction n with
  |zero=>intro a r h;cases h
  |succ n ih=>intro a r h;exact Qdp _ ih n a r h
def F_hb(n:Nat)(b:Value):Option Int:=
  (F_u n b).bind fun a=>(bif (!a.2)then some 1 else(bif decide (16<a.1)then some 2 else some 0))
theorem k_hb(n:Nat)(a:Value)(r:Int)(h:F_hb n a=some r):
    Csm prog 149 [.agg (Value.c a)] [] (fun r=>I r) r:=by
 refine Qb func149 Z Z Z ?_
 refine G0 9 Z (Cd [] h (k_u _ _) Z fun f e h=>FE Z (Go 16 Z (Cn Z h (fun b h=>?_) (fun b h=>?_))))
 ·exact Gc 8 Z (Rt h 2 [])
 refine Gc 7 Z (Cn Z h (fun d h=>?_) (fun d h=>?_))
 ·exact Gc 8 Z (Rt h 2 [])
 exact Gc 9 Z (Rt h 2 [])
def F_ez(n:Nat):Option Unit:=
  some ()
theorem k_ez(n:Nat)(r:Unit)(h:F_ez n=some r):
    C prog 150 [] [] (RQ (fun _=>.ptr 0 0) (fun _=>[.cells 284 [.nilf,.fn (.func 201) [] [],.fn (.func 204) [] [],.fn (.func 205) [] [.ptr 1 0]],.cells 249 [.ptr 0 0]]) r):=by
 refine Qb func150 Z Z Z ?_
 refine G0 2 Z (S Z (Go 4 Z ?_))
 refine vX (.agg [.nilf,.nilf,.nilf,.nilf]) (Jy (n:=4) (k:=1) (parts:=[]) (zs:=[.nilf,.nilf,.nilf,.nilf]) zeroValue284 (ZR.agg (zc ZR.nilf (zc ZR.nilf (zc ZR.nilf (zc ZR.nilf ZL.nil))))) runUnderlying284 sizeOf248 Z) ?_
 refine Go 9 Z ?_
 refine vX (.ptr 0 1) (YR (i:=1) (n:=4) (k:=1) (j:=1) (by decide) Z runUnderlying284 sizeOf248 Z) ?_
 refine Go 8 Z ?_
 refine vX (.ptr 0 2) (YR (i:=2) (n:=4) (k:=1) (j:=2) (by decide) Z runUnderlying284 sizeOf248 Z) ?_
 refine Go 9 Z ?_
 refine vX (.ptr 0 3) (YR (i:=3) (n:=4) (k:=1) (j:=3) (by decide) Z runUnderlying284 sizeOf248 Z) ?_
 exact Go 11 Z (Rt h 0 [0,1])
def F_bw(n:Nat)(a:Int):Option Unit:=
  some ()
theorem k_bw(n:Nat)(a:Int)(r:Unit)(h:F_bw n a=some r):
    Csm prog 203 [I a] [] (fun _=>.int .u64 (Qer .u64 (Qey .u64 (IntKind.u64.wrap a) 1) (IntKind.u64.wrap (Qck .i64 a 63)))) r:=by
 refine Qb func203 Z Z Z ?_
 refine G0 8 Z ?_
 refine vX (.int .u64 (IntKind.u64.wrap a)) (YI Z runUnderlying3 runUnderlying281 Z) ?_
 refine vX (.int .u64 (Qey .u64 (IntKind.u64.wrap a) 1)) (OpV.shl Z Z Z (by decide)) ?_
 refine Go 1 Z ?_
 refine vX (I (Qck .i64 a 63)) (OpV.shr Z Z Z (by decide)) ?_
 refine vX (.int .u64 (IntKind.u64.wrap (Qck .i64 a 63))) (YI Z runUnderlying3 runUnderlying281 Z) ?_
 refine vX (.int .u64 (Qer .u64 (Qey .u64 (IntKind.u64.wrap a) 1) (IntKind.u64.wrap (Qck .i64 a 63)))) (OpV.xor Z Z Z) ?_
 exact Go 4 Z (Rt h 2 [])
def F_fb(n:Nat)(a:(List Int)×Int):Option (Ctl ((List Int)×Int) ((List Int)×Int)):=
  (bif decide (128<=a.2)then(app a.1 [orI .u8 (IntKind.u8.wrap a.2) 128]).bind fun b=>some (.cont (b,Qck .u64 a.2 7))else some (.done (a.1,a.2)))
def F_al(n:Nat)(c:List Int)(d:Int):Option (List Int):=
  (iter (F_fb n) n (c,d):Option ((List Int)×Int)).bind fun a=>(app a.1 [IntKind.u8.wrap a.2]).bind fun b=>some b
theorem k_al(n:Nat)(d:List Int)(k:Int)(r:List Int)(h:F_al n d k=some r):
    C prog 202 [.osl 0 0 d.length 1,.int .u64 k] [.row 5 1 (List.map (Qf .u8) d)] (RQ (fun r=>.osl 1 0 r.length 1) (fun r=>[.dead,.row 5 1 (List.map (Qf .u8) r)]) r):=by
 refine Qb func202 Z Z Z ?_
 refine G0 6 Z (Bd h fun c p h=>?_)
 refine Ct c [0,0] [] (fun c=>[(0,.osl 1 0 c.1.length 1),(1,.int .u64 c.2)]) (fun c=>[(0,.dead),(1,.row 5 1 (List.map (Qf .u8) c.1))]) (fun _=>rfl) ?_ (fun env H l=>?_)
 ·refine G0 1 Z ?_
  refine Lp [0,0] [] (fun b=>[(0,.osl 1 0 b.1.length 1),(1,.int .u64 b.2)]) (fun b=>[(0,.dead),(1,.row 5 1 (List.map (Qf .u8) b.1))]) p (fun _=>rfl) ?_ ?_
  ·refine Le.trans (QkS (s:=0) (i:=0) Z Z Z) ?_
   exact Lr [0,1]
  intro b q a m
  refine G0 7 Z (Ys Z a (fun f a=>?_) (fun f a=>?_))
  ·refine Gc 2 Z (Qm a ?_)
   obtain rfl:=Oj m a
   exact Gx 1 Z (QA (Lr [0,1]))
  refine Gc 7 Z ?_
  refine vX (.int .u8 (IntKind.u8.wrap b.2)) (YI Z runUnderlying281 runUnderlying5 Z) ?_
  refine vX (.int .u8 (orI .u8 (IntKind.u8.wrap b.2) 128)) (OpV.or Z Z Z) ?_
  refine vH (OpH.lit (xs:=[.tmp 12]) (es:=List.map (Qf .u8) [orI .u8 (IntKind.u8.wrap b.2) 128]) Yw Z Z Z Z Z ⟨Z,trivial⟩ Z Z) ?_
  refine FE Z (Bd a fun t g a=>?_)
  refine vH (Ql (e:=(Qf .u8)) g Yw runUnderlying118 (QT (i:=2))) ?_
  refine FE Z (Go 6 Z ?_)
  refine vX (.int .u64 (Qck .u64 b.2 7)) (OpV.shr Z Z Z (by decide)) ?_
  exact Go 2 Z (Qj a (Lr [0,3]))
 refine Gx 1 Z (TC.le l (Gc 4 Z ?_))
 refine vX (.int .u8 (IntKind.u8.wrap c.2)) (YI Z runUnderlying281 runUnderlying5 Z) ?_
 refine vH (OpH.lit (xs:=[.tmp 17]) (es:=List.map (Qf .u8) [IntKind.u8.wrap c.2]) Yw Z Z Z Z Z ⟨Z,trivial⟩ Z Z) ?_
 refine FE Z (Bd h fun u j h=>?_)
 refine vH (Ql (e:=(Qf .u8)) j Yw runUnderlying118 (QT (i:=2))) ?_
 exact FE Z (Go 4 Z (Rt h 4 [0,3]))
def F_id(n:Nat)(a:Value):Option (List Int):=
  (app [] [1]).bind fun b=>(F_bw n a.N).bind fun d=>(F_al n b (Qer .u64 (Qey .u64 (IntKind.u64.wrap a.N) 1) (IntKind.u64.wrap (Qck .i64 a.N 63)))).bind fun c=>some c
theorem k_id(n:Nat)(a:Value)(r:List Int)(h:F_id n a=some r):
    C prog 201 [.nils,.agg (Value.c a)] [] (RQ (fun r=>.osl 0 0 r.length 1) (fun r=>[.row 5 1 (List.map (Qf .u8) r)]) r):=by
 refine Qb func201 Z Z Z ?_
 refine G0 7 Z (DAs 5 2 [0,0,1,3,3] (by kernel_rfl) (Da 1 Z ?_))
 refine DA.wo (x:=.rsl 1 (List.map (Qf .u8) [1])) ?_ ?_
 ·refine vH (Q4 (xs:=[.const (.int .u8 1)]) (es:=List.map (Qf .u8) [1]) Yw Z Z Z Z Z ⟨Z,trivial⟩ Z Z) ?_
  exact FE Z Wp
 obtain⟨g,b,h⟩:=Y3 h
 refine QbP (Qib (e:=(Qf .u8)) b Yw runUnderlying118 QbL) Z Z (Db 1 Z ?_)
 refine DB.wo2 (x:=I a.N) (Ld isAgg3 Z Wp) (Ld isAgg3 Z Wp) ?_
 exact DB.done Z (Cz [] h (k_bw _ _) Z fun i d h=>Cd [1] h (k_al _ _ _) Z fun j f h=>FE Z (Go 4 Z (Rt h 4 [2])))
def F_bo(n:Nat)(b:List Int)(a:Value):Option (List Int):=
  (app b [1]).bind fun c=>(F_bw n a.N).bind fun e=>(F_al n c (Qer .u64 (Qey .u64 (IntKind.u64.wrap a.N) 1) (IntKind.u64.wrap (Qck .i64 a.N 63)))).bind fun d=>some d
theorem k_bo(n:Nat)(a:List Int)(b:Value)(r:List Int)(h:F_bo n a b=some r):
    C prog 201 [.osl 0 0 a.length 1,.agg (Value.c b)] [.row 5 1 (List.map (Qf .u8) a)] (RQ (fun r=>.osl 1 0 r.length 1) (fun r=>[.dead,.row 5 1 (List.map (Qf .u8) r)]) r):=by
 refine Qb func201 Z Z Z ?_
 refine G0 7 Z (DAs 5 2 [0,0,1,3,3] (by kernel_rfl) (Da 1 Z ?_))
 refine DA.wo (x:=.rsl 1 (List.map (Qf .u8) [1])) ?_ ?_
 ·refine vH (Q4 (xs:=[.const (.int .u8 1)]) (es:=List.map (Qf .u8) [1]) Yw Z Z Z Z Z ⟨Z,trivial⟩ Z Z) ?_
  exact FE Z Wp
 obtain⟨i,d,h⟩:=Y3 h
 refine QbP (Ql (e:=(Qf .u8)) d Yw runUnderlying118 QbL) Z Z (Db 1 Z ?_)
 refine DB.wo2 (x:=I b.N) (Ld isAgg3 Z Wp) (Ld isAgg3 Z Wp) ?_
 exact DB.done Z (Cz [] h (k_bw _ _) Z fun j f h=>Cd [2] h (k_al _ _ _) Z fun k g h=>FE Z (Go 4 Z (Rt h 4 [0,3])))
def F_kw(n:Nat)(c:Value)(rec146:(List Int)->Value->Option (List Int))(a:(List Int)×Int):Option (Ctl ((List Int)×Int) (List Int)):=
  (bif decide (a.2<(c.L.length:Int))then(idx c.L a.2).bind fun b=>(bif (b.Kind==0)then none else(bif (b.Kind==1)then(F_bo n a.1 b).bind fun d=>some (.cont (d,IntKind.i64.wrap (a.2+1)))else(bif (b.Kind==2)then none else(bif (b.Kind==3)then(rec146 a.1 b).bind fun e=>some (.cont (e,IntKind.i64.wrap (a.2+1)))else none))))else some (.done a.1))
def B_bi(rec146:(List Int)->Value->Option (List Int))(n:Nat)(c:List Int)(a:Value):Option (List Int):=
  (app c [3]).bind fun d=>(F_al n d (IntKind.u64.wrap (a.L.length:Int))).bind fun e=>(iter (F_kw n a rec146) n (e,0):Option (List Int)).bind fun b=>some b
theorem QaN(rec146:(List Int)->Value->Option (List Int))(l:∀(g:List Int) (b:Value) (r:List Int),rec146 g b=some r->C prog 205 [.osl 0 0 g.length 1,.agg (Value.c b),.ptr 1 0] [.row 5 1 (List.map (Qf .u8) g),.cells 249 [.ptr 2 0],.cells 284 [.nilf,.fn (.func 201) [] [],.fn (.func 204) [] [],.fn (.func 205) [] [.ptr 1 0]]] (RQ (fun r=>.osl 3 0 r.length 1) (fun r=>[.dead,.cells 249 [.ptr 2 0],.cells 284 [.nilf,.fn (.func 201) [] [],.fn (.func 204) [] [],.fn (.func 205) [] [.ptr 1 0]],.row 5 1 (List.map (Qf .u8) r)]) r))(n:Nat)(g:List Int)(b:Value)(r:List Int)(h:B_bi rec146 n g b=some r):
    C prog 205 [.osl 0 0 g.length 1,.agg (Value.c b),.ptr 1 0] [.row 5 1 (List.map (Qf .u8) g),.cells 249 [.ptr 2 0],.cells 284 [.nilf,.fn (.func 201) [] [],.fn (.func 204) [] [],.fn (.func 205) [] [.ptr 1 0]]] (RQ (fun r=>.osl 3 0 r.length 1) (fun r=>[.dead,.cells 249 [.ptr 2 0],.cells 284 [.nilf,.fn (.func 201) [] [],.fn (.func 204) [] [],.fn (.func 205) [] [.ptr 1 0]],.row 5 1 (List.map (Qf .u8) r)]) r):=by
 refine Qb func205 Z Z Z ?_
 refine G0 7 Z (DAs 7 2 [0,0,1,3,3,3,3] (by kernel_rfl) (Da 1 Z ?_))
 refine DA.wo (x:=.rsl 1 (List.map (Qf .u8) [3])) ?_ ?_
 ·refine vH (Q4 (xs:=[.const (.int .u8 3)]) (es:=List.map (Qf .u8) [3]) Yw Z Z Z Z Z ⟨Z,trivial⟩ Z Z) ?_
  exact FE Z Wp
 obtain⟨P,z,h⟩:=Y3 h
 refine QbP (Ql (e:=(Qf .u8)) z Yw runUnderlying118 QbL) Z Z (Db 1 Z ?_)
 refine DB.wo2 (x:=.rsl 4 (List.map Value.enc b.L)) (Ld isAgg182 Z Wp) (Ld isAgg182 Z Wp) ?_
 refine DB.wo2 (x:=I (b.L.length:Int)) (LnM runUnderlying182 Z Wp) (LnM runUnderlying182 Z Wp) ?_
 refine DB.wo2 (x:=.int .u64 (IntKind.u64.wrap (b.L.length:Int))) ?_ ?_ ?_
 ·refine vX (.int .u64 (IntKind.u64.wrap (b.L.length:Int))) (YI Z runUnderlying3 runUnderlying281 Z) ?_
  exact Wp
 ·refine vX (.int .u64 (IntKind.u64.wrap (b.L.length:Int))) (YI Z runUnderlying3 runUnderlying281 Z) ?_
  exact Wp
 refine DB.done Z (Cd [4] h (k_al _ _ _) Z fun Q J h=>FE Z (Go 8 Z (Lm Z (Go 3 Z (Bd h fun d B h=>?_)))))
 refine Ct d [0,1,2,3] [] (fun d=>[(0,.osl 3 0 d.length 1)]) (fun d=>[(3,.row 5 1 (List.map (Qf .u8) d))]) (fun _=>rfl) ?_ (fun env H E=>?_)
 ·refine G0 1 Z ?_
  refine Lp [0,1,2,5] [2,17,18] (fun f=>[(0,.osl 3 0 f.1.length 1),(19,I f.2)]) (fun f=>[(3,.row 5 1 (List.map (Qf .u8) f.1))]) B (fun _=>rfl) (Lr [0,1,2,5]) fun f M a s=>?_
  refine G0 6 Z (Ys Z a (fun t a=>?_) (fun t a=>?_))
  ·refine Gc 2 Z (Qm a ?_)
   obtain rfl:=Oj s a
   exact Gx 1 Z (QA (Lr [0,1,2,3]))
  refine Gc 6 Z (Bd a fun m u a=>IzE u (YQ m) Z (Go 5 Z (DSs 9 Z (D 4 Z (If a (fun w a=>?_) (fun w a=>?_))))))
  ·cases a
  ·refine If a (fun p a=>?_) (fun p a=>?_)
   ·refine DS.v (x:=(.ptr 2 1)) (YR (i:=m.Kind) (n:=4) (k:=1) (j:=1) p Z runUnderlying284 sizeOf248 Z) ?_
    exact D 4 Z (DS.done Z (Cd [3] a (k_bo _ _ _) Z fun N F a=>FE Z (Go 8 Z (Qj a (Lr [0,1,2,5])))))
   ·refine If a (fun y a=>?_) (fun y a=>?_)
    ·cases a
    ·refine If a (fun q a=>?_) (fun q a=>?_)
     ·refine DS.v (x:=(.ptr 2 3)) (YR (i:=m.Kind) (n:=4) (k:=1) (j:=3) q Z runUnderlying284 sizeOf248 Z) ?_
      exact D 4 Z (DS.done Z (Cd [3,1,2] a (l _ _) Z fun O G a=>FE Z (Go 8 Z (Qj a (Lr [0,1,2,5])))))
     ·cases a
 exact Gx 1 Z (TC.le E (Gc 7 Z (Rt h 5 [0,1,2,3])))
def F_bi:Nat->(List Int)->Value->Option (List Int)
  |0=>fun _ _=>none
  |n+1=>B_bi (F_bi n) n
theorem k_bi(n:Nat):∀(a:List Int) (b:Value) (r:List Int),F_bi n a b=some r->C prog 205 [.osl 0 0 a.length 1,.agg (Value.c b),.ptr 1 0] [.row 5 1 (List.map (Qf .u8) a),.cells 249 [.ptr 2 0],.cells 284 [.nilf,.fn (.func 201) [] [],.fn (.func 204) [] [],.fn (.func 205) [] [.ptr 1 0]]] (RQ (fun r=>.osl 3 0 r.length 1) (fun r=>[.dead,.cells 249 [.ptr 2 0],.cells 284 [.nilf,.fn (.func 201) [] [],.fn (.func 204) [] [],.fn (.func 205) [] [.ptr 1 0]],.row 5 1 (List.map (Qf .u8) r)]) r):=by
  induction n with
  |zero=>intro a b r h;cases h
  |succ n ih=>intro a b r h;exact QaN _ ih n a b r h
def F_if(n:Nat)(c:Value)(a:(List Int)×Int):Option (Ctl ((List Int)×Int) (List Int)):=
  (bif decide (a.2<(c.L.length:Int))then(idx c.L a.2).bind fun b=>(bif (b.Kind==0)then none else(bif (b.Kind==1)then(F_bo n a.1 b).bind fun d=>some (.cont (d,IntKind.i64.wrap (a.2+1)))else(bif (b.Kind==2)then none else(bif (b.Kind==3)then(F_bi n a.1 b).bind fun e=>some (.cont (e,IntKind.i64.wrap (a.2+1)))else none))))else some (.done a.1))
def F_dt(n:Nat)(a:Value):Option (List Int):=
  (app [] [3]).bind fun c=>(F_al n c (IntKind.u64.wrap (a.L.length:Int))).bind fun d=>(iter (F_if n a) n (d,0):Option (List Int)).bind fun b=>some b
theorem k_dt(n:Nat)(f:Value)(r:List Int)(h:F_dt n f=some r):
    C prog 205 [.nils,.agg (Value.c f),.ptr 0 0] [.cells 249 [.ptr 1 0],.cells 284 [.nilf,.fn (.func 201) [] [],.fn (.func 204) [] [],.fn (.func 205) [] [.ptr 0 0]]] (RQ (fun r=>.osl 2 0 r.length 1) (fun r=>[.cells 249 [.ptr 1 0],.cells 284 [.nilf,.fn (.func 201) [] [],.fn (.func 204) [] [],.fn (.func 205) [] [.ptr 0 0]],.row 5 1 (List.map (Qf .u8) r)]) r):=by
 refine Qb func205 Z Z Z ?_
 refine G0 7 Z (DAs 7 2 [0,0,1,3,3,3,3] (by kernel_rfl) (Da 1 Z ?_))
 refine DA.wo (x:=.rsl 1 (List.map (Qf .u8) [3])) ?_ ?_
 ·refine vH (Q4 (xs:=[.const (.int .u8 3)]) (es:=List.map (Qf .u8) [3]) Yw Z Z Z Z Z ⟨Z,trivial⟩ Z Z) ?_
  exact FE Z Wp
 obtain⟨N,w,h⟩:=Y3 h
 refine QbP (Qib (e:=(Qf .u8)) w Yw runUnderlying118 QbL) Z Z (Db 1 Z ?_)
 refine DB.wo2 (x:=.rsl 4 (List.map Value.enc f.L)) (Ld isAgg182 Z Wp) (Ld isAgg182 Z Wp) ?_
 refine DB.wo2 (x:=I (f.L.length:Int)) (LnM runUnderlying182 Z Wp) (LnM runUnderlying182 Z Wp) ?_
 refine DB.wo2 (x:=.int .u64 (IntKind.u64.wrap (f.L.length:Int))) ?_ ?_ ?_
 ·refine vX (.int .u64 (IntKind.u64.wrap (f.L.length:Int))) (YI Z runUnderlying3 runUnderlying281 Z) ?_
  exact Wp
 ·refine vX (.int .u64 (IntKind.u64.wrap (f.L.length:Int))) (YI Z runUnderlying3 runUnderlying281 Z) ?_
  exact Wp
 refine DB.done Z (Cd [3] h (k_al _ _ _) Z fun O F h=>FE Z (Go 8 Z (Lm Z (Go 3 Z (Bd h fun b y h=>?_)))))
 refine Ct b [0,1,2] [] (fun b=>[(0,.osl 2 0 b.length 1)]) (fun b=>[(2,.row 5 1 (List.map (Qf .u8) b))]) (fun _=>rfl) ?_ (fun env H z=>?_)
 ·refine G0 1 Z ?_
  refine Lp [0,1,4] [2,17,18] (fun d=>[(0,.osl 2 0 d.1.length 1),(19,I d.2)]) (fun d=>[(2,.row 5 1 (List.map (Qf .u8) d.1))]) y (fun _=>rfl) (Lr [0,1,4]) fun d G a p=>?_
  refine G0 6 Z (Ys Z a (fun q a=>?_) (fun q a=>?_))
  ·refine Gc 2 Z (Qm a ?_)
   obtain rfl:=Oj p a
   exact Gx 1 Z (QA (Lr [0,1,2]))
  refine Gc 6 Z (Bd a fun g s a=>IzE s (YQ g) Z (Go 5 Z (DSs 9 Z (D 4 Z (If a (fun t a=>?_) (fun t a=>?_))))))
  ·cases a
  ·refine If a (fun l a=>?_) (fun l a=>?_)
   ·refine DS.v (x:=(.ptr 1 1)) (YR (i:=g.Kind) (n:=4) (k:=1) (j:=1) l Z runUnderlying284 sizeOf248 Z) ?_
    exact D 4 Z (DS.done Z (Cd [2] a (k_bo _ _ _) Z fun J B a=>FE Z (Go 8 Z (Qj a (Lr [0,1,4])))))
   ·refine If a (fun u a=>?_) (fun u a=>?_)
    ·cases a
    ·refine If a (fun m a=>?_) (fun m a=>?_)
     ·refine DS.v (x:=(.ptr 1 3)) (YR (i:=g.Kind) (n:=4) (k:=1) (j:=3) m Z runUnderlying284 sizeOf248 Z) ?_
      exact D 4 Z (DS.done Z (Cd [2,0,1] a (k_bi _ _ _) Z fun M E a=>FE Z (Go 8 Z (Qj a (Lr [0,1,4])))))
     ·cases a
 exact Gx 1 Z (TC.le z (Gc 7 Z (Rt h 5 [0,1,2])))
def F_ia(n:Nat)(a:Value):Option ((List Int)×Int):=
  (F_hb n a).bind fun b=>(bif (b != 0)then some ([],b)else(F_ez n).bind fun e=>(bif (a.Kind==0)then none else(bif (a.Kind==1)then(F_id n a).bind fun c=>some (c,0)else(bif (a.Kind==2)then none else(bif (a.Kind==3)then(F_dt n a).bind fun d=>some (d,0)else none)))))
theorem k_ia(n:Nat)(a:Value)(r:(List Int)×Int)(h:F_ia n a=some r):
    C prog 85 [.agg (Value.c a)] [] (RQ (fun r=>.tup [.osl 0 0 r.1.length 1,I r.2]) (fun r=>[.row 5 1 (List.map (Qf .u8) r.1)]) r):=by
 refine Qb func85 Z Z Z ?_
 refine G0 11 Z (Cz [] h (k_hb _ _) Z fun u m h=>Go 9 Z (Cn Z h (fun e h=>?_) (fun e h=>?_)))
 ·refine Gc 9 Z ?_
  obtain rfl:=Oi h
  refine R2 2 3 Z Z ?_
  refine Le.trans (Le.phantom (s:=2) (k:=1) (t:=5) (Nat.le_of_ble_eq_true Z) Z) ?_
  exact Lr [1]
 refine Gc 3 Z (DAs 8 0 [1,3,3,2,2,2,2,3] (by kernel_rfl) ?_)
 obtain⟨w,f,h⟩:=Y3 h
 refine DA.op (x:=.ptr 1 0) (H1:=[.cells 184 (Value.c a),.cells 284 [.nilf,.fn (.func 201) [] [],.fn (.func 204) [] [],.fn (.func 205) [] [.ptr 2 0]],.cells 249 [.ptr 1 0]]) ?_ ?_
 ·refine QP [] (OpC.fn call150 Z Z Z) (k_ez _ _ f) ?_
  rintro _ _ ⟨rfl,rfl⟩
  exact FE Z Wp
 refine Db 1 Z ?_
 refine DB.wo2 (x:=I a.Kind) (Ld isAgg3 Z Wp) (Ld isAgg3 Z Wp) ?_
 refine Db 1 Z (If h (fun g h=>?_) (fun g h=>?_))
 ·cases h
 ·refine If h (fun b h=>?_) (fun b h=>?_)
  ·refine DB.wo1 (x:=.ptr 1 1) ?_ ?_
   ·refine vX (.ptr 1 1) (YR (i:=a.Kind) (n:=4) (k:=1) (j:=1) b Z runUnderlying284 sizeOf248 Z) ?_
    exact Wp
   refine Db 2 Z ?_
   refine DB.wo2 (x:=.agg (Value.c a)) ?_ ?_ ?_
   ·refine vX (.agg (Value.c a)) (Qo Z isAgg184 sizeOf184 Z (Pts.cells Z Z) Z Z) ?_
    exact Wp
   ·refine vX (.agg (Value.c a)) (Qo Z isAgg184 sizeOf184 Z (Pts.cells Z Z) Z Z) ?_
    exact Wp
   refine DB.done Z (Cd [] h (k_id _ _) Z fun y p h=>FE Z (Go 5 Z ?_))
   obtain rfl:=Oi h
   exact R2 2 3 Z Z (Lr [3])
  ·refine If h (fun l h=>?_) (fun l h=>?_)
   ·cases h
   ·refine If h (fun d h=>?_) (fun d h=>?_)
    ·refine DB.wo1 (x:=.ptr 1 3) ?_ ?_
     ·refine vX (.ptr 1 3) (YR (i:=a.Kind) (n:=4) (k:=1) (j:=3) d Z runUnderlying284 sizeOf248 Z) ?_
      exact Wp
     refine Db 2 Z ?_
     refine DB.wo2 (x:=.agg (Value.c a)) ?_ ?_ ?_
     ·refine vX (.agg (Value.c a)) (Qo Z isAgg184 sizeOf184 Z (Pts.cells Z Z) Z Z) ?_
      exact Wp
     ·refine vX (.agg (Value.c a)) (Qo Z isAgg184 sizeOf184 Z (Pts.cells Z Z) Z Z) ?_
      exact Wp
     refine DB.done Z (Cd [2,1] h (k_dt _ _) Z fun z q h=>FE Z (Go 5 Z ?_))
     obtain rfl:=Oi h
     exact R2 2 3 Z Z (Lr [3])
    ·cases h
def F_jf(n:Nat)(b:(List Int)×Bool)(a:(List Value)×Int):Option (Ctl ((List Value)×Int) (List Value)):=
  (bif decide (a.2<(b.1.length:Int))then(idx b.1 a.2).bind fun c=>(app a.1 [{Kind:=1,N:=c,S:=[],L:=[]:Value}]).bind fun d=>some (.cont (d,IntKind.i64.wrap (a.2+1)))else some (.done a.1))
def F_bn(n:Nat)(d:Fact):Option ((List Int)×Int):=
  (F_bs n d).bind fun b=>(bif (!b.2)then some ([],120)else(iter (F_jf n b) n ([],0):Option (List Value)).bind fun c=>(F_ia n ({Kind:=3,N:=0,S:=[],L:=c:Value})).bind fun a=>some (a.1,a.2))
theorem k_bn(n:Nat)(q:Fact)(r:(List Int)×Int)(h:F_bn n q=some r):
    C prog 50 [.agg (Fact.c q)] [] (RQ (fun r=>.tup [.osl 0 0 r.1.length 1,I r.2]) (fun r=>[.row 5 1 (List.map (Qf .u8) r.1)]) r):=by
 refine Qb func50 Z Z Z ?_
 refine G0 10 Z (Cd [] h (k_bs _ _) Z fun G z h=>FE Z (Go 14 Z (Cn Z h (fun u h=>?_) (fun u h=>?_))))
 ·refine Gc 8 Z ?_
  obtain rfl:=Oi h
  refine R2 2 3 Z Z ?_
  refine Le.trans (Le.phantom (s:=2) (k:=1) (t:=5) (Nat.le_of_ble_eq_true Z) Z) ?_
  exact Lr [2]
 refine Gc 4 Z ?_
 refine vX (.agg [I 3,I 0,.str [],.nils]) (OpV.build (zs:=[I 0,I 0,.str [],.nils]) zeroValue184 (zrC Z) Qgt) ?_
 refine vH (QaH (v:=(.agg [I 0,I 0,.str [],.nils])) zeroValue184 (zrC Z)) ?_
 refine FE Z (Go 11 Z (Bd h fun d w h=>?_))
 refine Ct d [0,1] [] (fun _=>[(6,.ptr 0 0)]) (fun d=>[(0,.cells 184 [I 3,I 0,.str [],.osl 1 0 d.length 4]),(1,.row 184 4 (List.map Value.enc d))]) (fun _=>rfl) ?_ (fun env H x=>?_)
 ·refine G0 1 Z ?_
  refine Lp [2,0,1] [6,17,18] (fun b=>[(19,I b.2)]) (fun b=>[(0,.cells 184 [I 3,I 0,.str [],.osl 1 0 b.1.length 4]),(1,.row 184 4 (List.map Value.enc b.1))]) w (fun _=>rfl) ?_ ?_
  ·refine Le.trans (Qd5 (i:=2) (m:=3) (t:=184) (k:=4) Z Z Z) ?_
   exact Lr [2,3,1]
  intro b B a j
  refine G0 6 Z (Ys Z a (fun l a=>?_) (fun l a=>?_))
  ·refine Gc 2 Z (Qm a ?_)
   obtain rfl:=Oj j a
   exact Gx 1 Z (QA (Lr [0,1]))
  refine Gc 6 Z (Bd a fun g f a=>?_)
  refine vX (.ptr 2 (Int.toNat b.2*1)) (QK f Z runUnderlying48 sizeOf3) ?_
  refine vX (I g) (OpV.load Z isAgg3 Z (Qw f)) ?_
  refine Go 8 Z ?_
  refine vH (OpH.lit (xs:=[.tmp 26]) (es:=List.map Value.enc [{Kind:=1,N:=g,S:=[],L:=[]:Value}]) QgS Z Z Z Z Z ⟨Z,trivial⟩ Z Z) ?_
  refine FE Z (Bd a fun E p a=>?_)
  refine vH (Ql (e:=Value.enc) p QgS runUnderlying182 (QT (i:=3))) ?_
  exact FE Z (Go 9 Z (Qj a (Lr [0,4,2])))
 refine Gx 1 Z (TC.le x (Gc 3 Z ?_))
 refine WO.le (QaI [(31,_)] Z Z (QmA.cons Z (FzA.agg (FzL.cons (FzA.refl _) (FzL.cons (FzA.refl _) (FzL.cons (FzA.refl _) (FzL.cons FzA.o (FzL.refl _)))))) QmA.nil) (FzH.cells (FzL.cons (FzA.refl _) (FzL.cons (FzA.refl _) (FzL.cons (FzA.refl _) (FzL.cons FzA.o (FzL.refl _))))) (FzH.keep (Y7 _)))) ?_
 refine Cd [] h (k_ia _ _) Z fun F y h=>FE Z (Go 7 Z ?_)
 obtain rfl:=Oi h
 exact R2 2 3 Z Z (Lr [2])
def F_il(n:Nat)(a:List Int)(b:List Int):Option Unit:=
  some ()
theorem k_il(n:Nat)(a:List Int)(b:List Int)(r:Unit)(h:F_il n a b=some r):
    Csm prog 51 [.rsl 1 (List.map (Qf .u8) a),.rsl 1 (List.map (Qf .u8) b)] [] (fun _=>I (cmpB a b)) r:=by
 refine Qb func51 Z Z Z ?_
 refine G0 9 Z ?_
 refine vX (I (cmpB a b)) (OpV.cmpB (l:=a) (m:=b) func86 (by kernel_rfl) (by kernel_rfl) (by kernel_rfl) (by kernel_rfl) Qi9.rsl Qi9.rsl) ?_
 exact Go 4 Z (Rt h 4 [])
def F_dw(n:Nat)(a:Fact)(b:Fact):Option Int:=
  (F_af n a.At b.At).bind fun f=>(F_af n a.Crew b.Crew).bind fun g=>(F_af n a.No b.No).bind fun h=>(F_au n [f,g,h]).bind fun c=>(bif (c != 0)then some c else(F_bn n a).bind fun d=>(F_bn n b).bind fun e=>(F_il n d.1 e.1).bind fun i=>some (cmpB d.1 e.1))
theorem k_dw(n:Nat)(a:Fact)(b:Fact)(r:Int)(h:F_dw n a b=some r):
    Csm prog 27 [.agg (Fact.c a),.agg (Fact.c b)] [] (fun r=>I r) r:=by
 refine Qb func27 Z Z Z ?_
 refine G0 9 Z (DSs 14 Z (D 4 Z ?_))
 refine Dz [] h (QlD _ _ _) Z fun e i h=>D 4 Z ?_
 refine Dz [] h (QlD _ _ _) Z fun f j h=>D 4 Z (DS.done Z (Cz [] h (QlD _ _ _) Z fun g k h=>?_))
 refine vH (Q4 (xs:=[.tmp 14,.tmp 19,.tmp 24]) (es:=List.map (Qf .i64) [e,f,g]) Qu Z Z Z Z Z ⟨Z,Z,Z,trivial⟩ Z Z) ?_
 refine FE Z (Cz [] h (k_au _ _) Z fun s l h=>Go 9 Z (Cn Z h (fun d h=>?_) (fun d h=>?_)))
 ·exact Gc 8 Z (Rt h 4 [])
 exact Gc 5 Z (Cd [] h (k_bn _ _) Z fun t m h=>FE Z (Go 10 Z (Cd [] h (k_bn _ _) Z fun u p h=>FE Z (Go 11 Z (Cb h (k_il _ _ _) Z (lo (lo ln)) fun w q h=>Go 4 Z (Rt h 4 []))))))
def F_ff(n:Nat)(a:List (Int×Fact)):Option Unit:=
  some ()
theorem k_ff(n:Nat)(a:List (Int×Fact))(r:Unit)(h:F_ff n a=some r):
    C prog 61 [.map 0] [.map (QG (fun x=>A.int .i64 x) (fun x=>A.agg (Fact.c x)) a)] (RQ (fun _=>.fn (.func 129) [] [.ptr 1 0]) (fun _=>[.map (QG (fun x=>A.int .i64 x) (fun x=>A.agg (Fact.c x)) a),.cells 98 [.map 0]]) r):=by
 refine Qb func61 Z Z Z ?_
 exact G0 13 Z (Rt h 2 [0,1])
def F_eo(n:Nat)(a:List (Int×Fact)):Option (List Int):=
  QkD (List.map Prod.fst a) fun p1=>(sortI p1).bind fun b=>some b
theorem k_eo(n:Nat)(b:List (Int×Fact))(r:List Int)(h:F_eo n b=some r):
    C prog 60 [.fn (.func 129) [] [.ptr 0 0]] [.cells 98 [.map 1],.map (QG (fun x=>A.int .i64 x) (fun x=>A.agg (Fact.c x)) b)] (RQ (fun r=>.osl 2 0 r.length 1) (fun r=>[.dead,.fmap (QG (fun x=>A.int .i64 x) (fun x=>A.agg (Fact.c x)) b),.row 3 1 (List.map (Qf .i64) r)]) r):=by
 refine Qb func60 Z Z Z ?_
 refine G0 8 Z ?_
 refine WO.le (QjY (i:=1) Z) ?_
 refine Qi7 (H:=[.cells 98 [.map 1],.fmap (QG (fun x=>A.int .i64 x) (fun x=>A.agg (Fact.c x)) b)]) Z ?_
 obtain⟨d,h⟩:=QjT h
 refine QP [0,1] (OpC.fn call127 Z Z Z) (QmP _ d) ?_
 rintro _ _ ⟨p1,e,rfl,rfl⟩
 have h:=h p1 e
 refine FE Z (Go 6 Z (Bd h fun f a h=>?_))
 refine QP [2] (OpC.fn call128 Z Z Z) (Qnb Qfz a) ?_
 rintro _ _ ⟨rfl,rfl⟩
 refine FE Z ?_
 refine WO.le (Yx (s:=3) Z (congrArg (fun n=>A.osl 2 0 n 1) (QbR a))) ?_
 refine WO.le (Yx (s:=5) Z (congrArg (fun n=>A.osl 2 0 n 1) (QbR a))) ?_
 refine WO.le (Yx (s:=6) Z (congrArg (fun n=>A.osl 2 0 n 1) (QbR a))) ?_
 exact Go 9 Z (Rt h 2 [0,1,2])
def F_jm(n:Nat)(f:List (Int×Fact))(b:List Int)(a:(List Fact)×Int):Option (Ctl ((List Fact)×Int) (List Fact)):=
  (bif decide (a.2<(b.length:Int))then(idx b a.2).bind fun c=>(some (Qv f c z_Fact)).bind fun d=>(app a.1 [d]).bind fun e=>some (.cont (e,IntKind.i64.wrap (a.2+1)))else some (.done a.1))
def F_dy(n:Nat)(a:List (Int×Fact)):Option (List Fact):=
  (F_ff n a).bind fun d=>(F_eo n a).bind fun c=>(iter (F_jm n a c) n ([],0):Option (List Fact)).bind fun b=>some b
theorem k_dy(n:Nat)(g:List (Int×Fact))(r:List Fact)(h:F_dy n g=some r):
    C prog 34 [.map 0] [.map (QG (fun x=>A.int .i64 x) (fun x=>A.agg (Fact.c x)) g)] (RQ (fun r=>.osl 1 0 r.length 57) (fun r=>[.fmap (QG (fun x=>A.int .i64 x) (fun x=>A.agg (Fact.c x)) g),.row 81 57 (List.map Fact.c r)]) r):=by
 refine Qb func34 Z Z Z ?_
 refine G0 9 Z (Cd [0] h (k_ff _ _) Z fun J B h=>FE Z (Cd [1,0] h (k_eo _ _) Z fun L E h=>FE Z (Go 4 Z (Bd h fun d y h=>?_))))
 refine Ct d [0,1] [] (fun d=>[(2,.osl 1 0 d.length 57)]) (fun d=>[(1,.row 81 57 (List.map Fact.c d))]) (fun _=>rfl) ?_ (fun env H z=>?_)
 ·refine G0 1 Z ?_
  refine Lp [0,0,2] [0,7,8] (fun b=>[(2,.osl 1 0 b.1.length 57),(9,I b.2)]) (fun b=>[(1,.row 81 57 (List.map Fact.c b.1))]) y (fun _=>rfl) ?_ ?_
  ·refine Le.trans (Le.phantom (s:=2) (k:=57) (t:=81) (Nat.le_of_ble_eq_true Z) Z) ?_
   exact Lr [0,3,2]
  intro b F a p
  refine G0 6 Z (Ys Z a (fun q a=>?_) (fun q a=>?_))
  ·refine Gc 2 Z (Qm a ?_)
   obtain rfl:=Oj p a
   exact Gx 1 Z (QA (Lr [0,1]))
  refine Gc 6 Z (Bd a fun j f a=>?_)
  refine vX (.ptr 2 (Int.toNat b.2*1)) (QK f Z runUnderlying48 sizeOf3) ?_
  refine vX (I j) (OpV.load Z isAgg3 Z (Qw f)) ?_
  refine Go 7 Z (Bd a fun m u a=>?_)
  refine vX (.agg (Fact.c m)) (QkN (ev:=(fun x=>A.agg (Fact.c x))) (z0:=z_Fact) (k:=j) (l:=g) Qbv u underlying98 zeroValue81 (zrC Z)) ?_
  refine vH (OpH.lit (xs:=[.tmp 16]) (es:=List.map Fact.c [m]) Qbw Z Z Z Z Z ⟨Z,trivial⟩ Z Z) ?_
  refine FE Z (Bd a fun G w a=>?_)
  refine vH (Ql (e:=Fact.c) w Qbw runUnderlying34 (QT (i:=3))) ?_
  exact FE Z (Go 8 Z (Qj a (Lr [0,4,2])))
 exact Gx 1 Z (TC.le z (Gc 7 Z (Rt h 2 [0,1])))
def F_it(n:Nat)(k:Course)(l:List Fact)(a:(List (Int×Fact))×Int):Option (Ctl ((List (Int×Fact))×Int) (List (Int×Fact))):=
  (bif decide (a.2<(l.length:Int))then((idx l a.2).bind fun b=>((bif (b.Kind != 1)then some true else(F_bc n b).bind fun c=>(bif (c != 0)then some true else(bif decide ((k.Distances.length:Int)<=b.Starter.Distance)then some true else some (decide ((k.Waves.length:Int)<=b.Starter.Wave))))):Option Bool).bind fun d=>(bif d then some a.1 else(some (Qv a.1 b.Starter.Bib z_Fact)).bind fun e=>((bif (!(QaO a.1 b.Starter.Bib))then some true else(F_dw n b e).bind fun f=>some (decide (f<0))):Option Bool).bind fun g=>((bif g then(some (Yf a.1 b.Starter.Bib b)).bind fun h=>some h else some a.1):Option (List (Int×Fact))).bind fun i=>some i):Option (List (Int×Fact))).bind fun j=>some (.cont (j,IntKind.i64.wrap (a.2+1)))else some (.done a.1))
def F_de(n:Nat)(c:List Fact)(a:(List Starter)×(List (Int×Bool))×Int):Option (Ctl ((List Starter)×(List (Int×Bool))×Int) (Ctl (List Starter) ((List Starter)×Int))):=
  (bif decide (a.2.2<(c.length:Int))then(idx c a.2.2).bind fun b=>(some (Qv a.2.1 b.Starter.Chip false)).bind fun d=>(bif d then some (.done (.done ([],180)))else(some (Yf a.2.1 b.Starter.Chip true)).bind fun e=>(app a.1 [b.Starter]).bind fun f=>some (.cont (f,e,IntKind.i64.wrap (a.2.2+1))))else some (.done (.cont a.1)))
def F_aq(n:Nat)(e:Course)(g:List Fact):Option ((List Starter)×Int):=
  (F_av n e).bind fun f=>(bif (f != 0)then some ([],f)else(iter (F_it n e g) n ([],0):Option (List (Int×Fact))).bind fun b=>(bif decide (4000<(b.length:Int))then some ([],2)else(F_dy n b).bind fun c=>(iter (F_de n c) n ([],[],0):Option (Ctl (List Starter) ((List Starter)×Int))).bind fun d=>match d with|.cont a=>(some (a,0))|.done a=>some a))
theorem k_aq(n:Nat)(a1:Course)(a2:List Fact)(r:(List Starter)×Int)(h:F_aq n a1 a2=some r):
    C prog 13 [.agg (Course.c a1),.rsl 57 (List.map Fact.c a2)] [] (RQ (fun r=>.tup [.osl 0 0 r.1.length 8,I r.2]) (fun r=>[.row 50 8 (List.map Starter.c r.1)]) r):=by
 refine Qb func13 Z Z Z ?_
 refine G0 11 Z (Cz [] h (k_av _ _) Z fun r1 bc h=>Go 9 Z (Cn Z h (fun am h=>?_) (fun am h=>?_)))
 ·refine Gc 9 Z ?_
  obtain rfl:=Oi h
  refine R2 4 5 Z Z ?_
  refine Le.trans (Le.phantom (s:=4) (k:=8) (t:=50) (Nat.le_of_ble_eq_true Z) Z) ?_
  exact Lr [1]
 refine Gc 4 Z ?_
 refine vH Yu ?_
 refine FE Z (Go 7 Z (Lm Z (Go 3 Z (Bd h fun y ah h=>?_))))
 refine Ct y [1] [4,7] (fun _=>[]) (fun y=>[(0,.map (QG (fun x=>A.int .i64 x) (fun x=>A.agg (Fact.c x)) y))]) (fun _=>rfl) ?_ (fun env H j=>?_)
 ·refine G0 1 Z ?_
  refine Lp [0,1] [2,4,7,22,23] (fun p=>[(24,I p.2)]) (fun p=>[(1,.map (QG (fun x=>A.int .i64 x) (fun x=>A.agg (Fact.c x)) p.1))]) ah (fun _=>rfl) (Lr [0,1]) fun p au m N=>?_
  refine G0 6 Z (Ys Z m (fun O m=>?_) (fun O m=>?_))
  ·refine Gc 2 Z (Qm m ?_)
   obtain rfl:=Oj N m
   exact Gx 1 Z (QA (Lr [1]))
  refine Gc 3 Z (Bd m fun E d m=>?_)
  refine Ct E [0,1] [2,4,7,22,23,24] (fun _=>[]) (fun E=>[(1,.map (QG (fun x=>A.int .i64 x) (fun x=>A.agg (Fact.c x)) E))]) (fun _=>rfl) ?_ (fun env H j=>?_)
  ·refine G0 3 Z (Bd d fun z P d=>Iz P Z (Go 15 Z (Bd d fun F f d=>?_)))
   refine Ct F [0,1,2,3] [2,4,7,9,10,22,23,24] (fun F=>[(53,.bool F)]) (fun _=>[]) (fun _=>rfl) ?_ (fun env H j=>?_)
   ·refine G0 5 Z (Is 33 f Z (fun Q f=>?_) (fun Q f=>?_))
    ·exact Go 21 Z (Cl f [0,1,2,3])
    ·refine Go 1 Z (Cz [] f (k_bc _ _) Z fun av ao f=>Go 3 Z (Is 38 f Z (fun R f=>?_) (fun R f=>?_)))
     ·exact Go 16 Z (Cl f [0,1,2,3])
     ·refine Go 4 Z (Lm Z (Go 3 Z (Is 46 f Z (fun T f=>?_) (fun T f=>?_))))
      ·exact Go 8 Z (Cl f [0,1,2,3])
      ·exact Go 4 Z (Lm Z (Go 3 Z (Cl f [0,1,2,3])))
   refine Gx 1 Z (TC.le j (Cn Z d (fun V d=>?_) (fun V d=>?_)))
   ·exact Gc 3 Z (Cl d [0,1])
   refine Gc 7 Z (Bd d fun ai W d=>?_)
   refine vX (.tup [.agg (Fact.c ai),.bool (QaO p.1 z.Starter.Bib)]) (Qjh (ev:=(fun x=>A.agg (Fact.c x))) (z0:=z_Fact) (k:=z.Starter.Bib) (l:=p.1) Qbv W underlying98 zeroValue81 (zrC Z)) ?_
   refine Go 9 Z (Bd d fun G q d=>?_)
   refine Ct G [0,1,2,3] [2,4,7,9,10,22,23,24] (fun G=>[(68,.bool G)]) (fun _=>[]) (fun _=>rfl) ?_ (fun env H j=>?_)
   ·refine G0 4 Z (Is 63 q Z (fun X q=>?_) (fun X q=>?_))
    ·exact Go 6 Z (Cl q [0,1,2,3])
    ·exact Go 2 Z (Cz [] q (k_dw _ _ _) Z fun aw aq q=>Go 3 Z (Cl q [0,1,2,3]))
   refine Gx 1 Z (TC.le j (Bd d fun J u d=>?_))
   refine Ct J [0,1] [2,4,7,22,23,24] (fun _=>[]) (fun J=>[(1,.map (QG (fun x=>A.int .i64 x) (fun x=>A.agg (Fact.c x)) J))]) (fun _=>rfl) ?_ (fun env H j=>?_)
   ·refine G0 0 Z (Cn Z u (fun Y u=>?_) (fun Y u=>?_))
    ·refine Gc 5 Z (Bd u fun ax aa u=>?_)
     refine vU (YJ (ev:=(fun x=>A.agg (Fact.c x))) (k:=z.Starter.Bib) (v:=z) (l:=p.1) Qbv aa Z underlying98) ?_
     exact FE Z (Go 1 Z (Cl u [0,1]))
    exact Gc 1 Z (Cl u [0,1])
   refine Gx 1 Z ?_
   cases d
   exact QA (Le.trans j (Lr [0,1]))
  exact Gx 1 Z (TC.le j (Gc 4 Z (Qj m (Lr [0,1]))))
 refine Gx 1 Z (TC.le j (Gc 4 Z ?_))
 refine vX (I (y.length:Int)) (Qbs (l:=y) underlying98 Z) ?_
 refine Go 3 Z (Cn Z h (fun ab h=>?_) (fun ab h=>?_))
 ·refine Gc 8 Z ?_
  obtain rfl:=Oi h
  refine R2 4 5 Z Z ?_
  refine Le.trans (Le.phantom (s:=4) (k:=8) (t:=50) (Nat.le_of_ble_eq_true Z) Z) ?_
  exact Lr [1]
 refine Gc 4 Z ?_
 refine vH Yu ?_
 refine FE Z (Go 7 Z (Cd [0] h (k_dy _ _) Z fun ay ar h=>FE Z (Go 4 Z (Bd h fun aj ak h=>?_))))
 refine CtE (b:=aj) [0] [] (fun w=>[(4,.osl 0 0 w.length 8)]) (fun w=>[(0,.row 50 8 (List.map Starter.c w))]) (fun _=>rfl) ?_ (fun w env H an j=>?_)
 ·refine G0 1 Z ?_
  refine Lp [0,1,2] [13,79,80] (fun g=>[(4,.osl 0 0 g.1.length 8),(81,I g.2.2)]) (fun g=>[(0,.row 50 8 (List.map Starter.c g.1)),(1,.map (QG (fun x=>A.int .i64 x) A.bool g.2.1))]) ak (fun _=>rfl) ?_ ?_
  ·refine Le.trans (Le.phantom (s:=4) (k:=8) (t:=50) (Nat.le_of_ble_eq_true Z) Z) ?_
   exact Lr [3,1,2]
  intro g az a L
  refine G0 6 Z (Ys Z a (fun ac a=>?_) (fun ac a=>?_))
  ·refine Gc 2 Z (Qm a ?_)
   obtain rfl:=Oj L a
   exact Gx 1 Z (Qp Z (Lr [0]))
  refine Gc 6 Z (Bd a fun B M a=>?_)
  refine vX (.ptr 2 (Int.toNat g.2.2*57)) (QK M Z runUnderlying34 sizeOf81) ?_
  refine vX (.agg (Fact.c B)) (Qo Z isAgg81 sizeOf81 Z (Qw M) Z Z) ?_
  refine Go 11 Z (Bd a fun al ad a=>?_)
  refine vX (.bool al) (YH (ev:=A.bool) (z0:=false) (k:=B.Starter.Chip) (l:=g.2.1) Qbv ad underlying57 zeroValue4 ZR.bool) ?_
  refine Go 2 Z (Cn Z a (fun ae a=>?_) (fun ae a=>?_))
  ·refine Gc 10 Z (Qx a ?_)
   obtain rfl:=Oj L a
   refine Gx 1 Z (Qq (Gx 1 Z ?_))
   obtain rfl:=Oi h
   refine R2 4 5 Z Z ?_
   refine Le.trans (Le.phantom (s:=4) (k:=8) (t:=50) (Nat.le_of_ble_eq_true Z) Z) ?_
   exact Lr [4]
  refine Gc 8 Z (Bd a fun ba af a=>?_)
  refine vU (YJ (ev:=A.bool) (k:=B.Starter.Chip) (v:=true) (l:=g.2.1) Qbv af Z underlying57) ?_
  refine FE Z (Go 6 Z ?_)
  refine vH (OpH.lit (xs:=[.tmp 96]) (es:=List.map Starter.c [B.Starter]) QbH Z Z Z Z Z ⟨Z,trivial⟩ Z Z) ?_
  refine FE Z (Bd a fun bb ag a=>?_)
  refine vH (Ql (e:=Starter.c) ag QbH runUnderlying38 (QT (i:=4))) ?_
  exact FE Z (Go 8 Z (Qj a (Lr [5,1,2])))
 subst an
 refine Gx 1 Z (TC.le j (Gc 8 Z ?_))
 obtain rfl:=Oi h
 exact R2 4 5 Z Z (Lr [0])
def F_fa(n:Nat)(a:List (Pair×Bool)):Option Unit:=
  some ()
theorem k_fa(n:Nat)(a:List (Pair×Bool))(r:Unit)(h:F_fa n a=some r):
    C prog 38 [.map 0] [.map (QG (fun x=>A.agg (Pair.c x)) A.bool a)] (RQ (fun _=>.fn (.func 66) [] [.ptr 1 0]) (fun _=>[.map (QG (fun x=>A.agg (Pair.c x)) A.bool a),.cells 103 [.map 0]]) r):=by
 refine Qb func38 Z Z Z ?_
 exact G0 13 Z (Rt h 2 [0,1])
def F_bz(n:Nat)(a:Pair)(b:Pair):Option Int:=
  (F_af n a.A b.A).bind fun c=>(F_af n a.B b.B).bind fun d=>(F_au n [c,d]).bind fun e=>some e
theorem k_bz(n:Nat)(a:Pair)(b:Pair)(r:Int)(h:F_bz n a b=some r):
    Csm prog 39 [.agg (Pair.c a),.agg (Pair.c b)] [] (fun r=>I r) r:=by
 refine Qb func39 Z Z Z ?_
 refine G0 8 Z (DSs 9 Z (D 4 Z ?_))
 refine Dz [] h (QlD _ _ _) Z fun d f h=>D 4 Z (DS.done Z (Cz [] h (QlD _ _ _) Z fun e g h=>?_))
 refine vH (Q4 (xs:=[.tmp 9,.tmp 14]) (es:=List.map (Qf .i64) [d,e]) Qu Z Z Z Z Z ⟨Z,Z,trivial⟩ Z Z) ?_
 exact FE Z (Cz [] h (k_au _ _) Z fun j i h=>Go 4 Z (Rt h 4 []))
def F_bx(n:Nat)(a:List (Pair×Bool)):Option (List Pair):=
  QkD (List.map Prod.fst a) fun p1=>(QdF (fun x y=>F_bz n x y) p1).bind fun b=>some b
theorem k_bx(n:Nat)(b:List (Pair×Bool))(r:List Pair)(h:F_bx n b=some r):
    C prog 37 [.fn (.func 66) [] [.ptr 0 0],.fn (.func 39) [] []] [.cells 103 [.map 1],.map (QG (fun x=>A.agg (Pair.c x)) A.bool b)] (RQ (fun r=>.osl 2 0 r.length 2) (fun r=>[.dead,.fmap (QG (fun x=>A.agg (Pair.c x)) A.bool b),.row 59 2 (List.map Pair.c r)]) r):=by
 refine Qb func37 Z Z Z ?_
 refine G0 8 Z ?_
 refine WO.le (QjY (i:=1) Z) ?_
 refine Qi7 (H:=[.cells 103 [.map 1],.fmap (QG (fun x=>A.agg (Pair.c x)) A.bool b)]) Z ?_
 obtain⟨d,h⟩:=QjT h
 refine QP [0,1] (OpC.fn call64 Z Z Z) (QnM _ d) ?_
 rintro _ _ ⟨p1,e,rfl,rfl⟩
 have h:=h p1 e
 refine FE Z (Go 7 Z (Bd h fun f a h=>?_))
 refine QP [2] (OpC.fn call65 Z Z Z) (Qna (enc:=Pair.c) QgA a (fun x y c h=>k_bz n x y c h) isAgg59 sizeOf59 call39 (fun _=>rfl) Z) ?_
 rintro _ _ ⟨rfl,rfl⟩
 refine FE Z ?_
 refine WO.le (Yx (s:=5) Z (congrArg (fun n=>A.osl 2 0 n 2) (Qdk a))) ?_
 refine WO.le (Yx (s:=7) Z (congrArg (fun n=>A.osl 2 0 n 2) (Qdk a))) ?_
 refine WO.le (Yx (s:=8) Z (congrArg (fun n=>A.osl 2 0 n 2) (Qdk a))) ?_
 exact Go 9 Z (Rt h 4 [0,1,2])
def F_jc(n:Nat)(b:(List Starter)×Int)(a:(List (Int×Bool))×Int):Option (Ctl ((List (Int×Bool))×Int) (List (Int×Bool))):=
  (bif decide (a.2<(b.1.length:Int))then(idx b.1 a.2).bind fun c=>(some (Yf a.1 c.Bib true)).bind fun d=>some (.cont (d,IntKind.i64.wrap (a.2+1)))else some (.done a.1))
def F_ip(n:Nat)(d:List Fact)(c:List (Int×Bool))(a:(List (Pair×Bool))×Int):Option (Ctl ((List (Pair×Bool))×Int) (List (Pair×Bool))):=
  (bif decide (a.2<(d.length:Int))then(idx d a.2).bind fun b=>((bif (b.Kind==7)then(F_bc n b).bind fun e=>(bif (e==0)then(some (Qv c b.Pair.A false)).bind fun f=>(bif f then(some (Qv c b.Pair.B false)).bind fun g=>some g else some false)else some false)else some false):Option Bool).bind fun h=>((bif h then(some (Yf a.1 b.Pair true)).bind fun i=>some i else some a.1):Option (List (Pair×Bool))).bind fun j=>some (.cont (j,IntKind.i64.wrap (a.2+1)))else some (.done a.1))
def F_bl(n:Nat)(f:Course)(c:List Fact):Option ((List Pair)×Int):=
  (F_aq n f c).bind fun b=>(bif (b.2 != 0)then some ([],b.2)else(iter (F_jc n b) n ([],0):Option (List (Int×Bool))).bind fun d=>(iter (F_ip n c d) n ([],0):Option (List (Pair×Bool))).bind fun a=>(bif decide (16<(a.length:Int))then some ([],2)else(F_fa n a).bind fun g=>(F_bx n a).bind fun e=>some (e,0)))
theorem k_bl(n:Nat)(W:Course)(X:List Fact)(r:(List Pair)×Int)(h:F_bl n W X=some r):
    C prog 15 [.agg (Course.c W),.rsl 57 (List.map Fact.c X)] [] (RQ (fun r=>.tup [.osl 0 0 r.1.length 2,I r.2]) (fun r=>[.row 59 2 (List.map Pair.c r.1)]) r):=by
 refine Qb func15 Z Z Z ?_
 refine G0 11 Z (Cd [] h (k_aq _ _ _) Z fun r1 ah h=>FE Z (Go 14 Z (Cn Z h (fun Y h=>?_) (fun Y h=>?_))))
 ·refine Gc 9 Z ?_
  obtain rfl:=Oi h
  refine R2 4 5 Z Z ?_
  refine Le.trans (Le.phantom (s:=4) (k:=2) (t:=59) (Nat.le_of_ble_eq_true Z) Z) ?_
  exact Lr [2]
 refine Gc 4 Z ?_
 refine vH Yu ?_
 refine FE Z (Go 11 Z (Bd h fun i aa h=>?_))
 refine Ct i [0] [1] (fun _=>[(7,.map 0)]) (fun i=>[(0,.map (QG (fun x=>A.int .i64 x) A.bool i))]) (fun _=>rfl) ?_ (fun env H e=>?_)
 ·refine G0 1 Z ?_
  refine Lp [2,1] [1,7,23,24] (fun g=>[(25,I g.2)]) (fun g=>[(0,.map (QG (fun x=>A.int .i64 x) A.bool g.1))]) aa (fun _=>rfl) (Lr [2,1]) fun g ai d z=>?_
  refine G0 6 Z (Ys Z d (fun E d=>?_) (fun E d=>?_))
  ·refine Gc 2 Z (Qm d ?_)
   obtain rfl:=Oj z d
   exact Gx 1 Z (QA (Lr [0]))
  refine Gc 6 Z (Bd d fun y p d=>?_)
  refine vX (.ptr 1 (Int.toNat g.2*8)) (QK p Z runUnderlying38 sizeOf50) ?_
  refine vX (.agg (Starter.c y)) (Qo Z isAgg50 sizeOf50 Z (Qw p) Z Z) ?_
  refine Go 8 Z (Bd d fun aj F d=>?_)
  refine vU (YJ (ev:=A.bool) (k:=y.Bib) (v:=true) (l:=g.1) Qbv F Z underlying57) ?_
  exact FE Z (Go 7 Z (Qj d (Lr [0,1])))
 refine Gx 1 Z (TC.le e (Gc 2 Z ?_))
 refine vH Yu ?_
 refine FE Z (Go 7 Z (Lm Z (Go 3 Z (Bd h fun j ab h=>?_))))
 refine Ct j [1] [10] (fun _=>[]) (fun j=>[(0,.map (QG (fun x=>A.agg (Pair.c x)) A.bool j))]) (fun _=>rfl) ?_ (fun env H e=>?_)
 ·refine G0 1 Z ?_
  refine Lp [0,1] [7,10,34,35] (fun m=>[(36,I m.2)]) (fun m=>[(1,.map (QG (fun x=>A.agg (Pair.c x)) A.bool m.1))]) ab (fun _=>rfl) (Lr [0,1]) fun m ak b G=>?_
  refine G0 6 Z (Ys Z b (fun J b=>?_) (fun J b=>?_))
  ·refine Gc 2 Z (Qm b ?_)
   obtain rfl:=Oj G b
   exact Gx 1 Z (QA (Lr [1]))
  refine Gc 6 Z (Bd b fun q L b=>Iz L Z (Go 6 Z (Bd b fun u a b=>?_)))
  refine Ct u [0,1,2] [7,10,12,34,35,36] (fun u=>[(61,.bool u)]) (fun _=>[]) (fun _=>rfl) ?_ (fun env H e=>?_)
  ·refine G0 5 Z (Is 43 a Z (fun M a=>?_) (fun M a=>?_))
   ·refine Go 1 Z (Cz [] a (k_bc _ _) Z fun al ae a=>Go 3 Z (Is 48 a Z (fun N a=>?_) (fun N a=>?_)))
    ·refine Go 4 Z (Bd a fun ac O a=>?_)
     refine vX (.bool ac) (YH (ev:=A.bool) (z0:=false) (k:=q.Pair.A) (l:=i) Qbv O underlying57 zeroValue4 ZR.bool) ?_ (gT Z)
     refine Go 2 Z (Is 55 a Z (fun P a=>?_) (fun P a=>?_))
     ·refine Go 4 Z (Bd a fun ad Q a=>?_)
      refine vX (.bool ad) (YH (ev:=A.bool) (z0:=false) (k:=q.Pair.B) (l:=i) Qbv Q underlying57 zeroValue4 ZR.bool) ?_ (gT Z)
      exact Go 2 Z (Cl a [0,1,2])
     ·exact Go 7 Z (Cl a [0,1,2])
    ·exact Go 14 Z (Cl a [0,1,2])
   ·exact Go 19 Z (Cl a [0,1,2])
  refine Gx 1 Z (TC.le e (Bd b fun w f b=>?_))
  refine Ct w [0,1] [7,10,34,35,36] (fun _=>[]) (fun w=>[(1,.map (QG (fun x=>A.agg (Pair.c x)) A.bool w))]) (fun _=>rfl) ?_ (fun env H e=>?_)
  ·refine G0 0 Z (Cn Z f (fun R f=>?_) (fun R f=>?_))
   ·refine Gc 4 Z (Bd f fun am T f=>?_)
    refine vU (YJ (ev:=A.bool) (k:=q.Pair) (v:=true) (l:=m.1) QnU T Z underlying103) ?_
    exact FE Z (Go 1 Z (Cl f [0,1]))
   exact Gc 1 Z (Cl f [0,1])
  exact Gx 2 Z (TC.le e (Gc 4 Z (Qj b (Lr [0,1]))))
 refine Gx 1 Z (TC.le e (Gc 4 Z ?_))
 refine vX (I (j.length:Int)) (Qbs (l:=j) underlying103 Z) ?_
 refine Go 3 Z (Cn Z h (fun V h=>?_) (fun V h=>?_))
 ·refine Gc 8 Z ?_
  obtain rfl:=Oi h
  refine R2 4 5 Z Z ?_
  refine Le.trans (Le.phantom (s:=4) (k:=2) (t:=59) (Nat.le_of_ble_eq_true Z) Z) ?_
  exact Lr [1]
 refine Gc 5 Z (Cd [0] h (k_fa _ _) Z fun an af h=>FE Z (Cd [1,0] h (k_bx _ _) Z fun ao ag h=>FE Z (Go 5 Z ?_)))
 obtain rfl:=Oi h
 exact R2 4 5 Z Z (Lr [2])
def F_iv(n:Nat)(a:Starter)(b:Int):Option Unit:=
  some ()
theorem k_iv(n:Nat)(a:Starter)(b:Int)(r:Unit)(h:F_iv n a b=some r):
    Csm prog 69 [.agg (Starter.c a),.ptr 0 0] [.cells 3 [I b]] (fun _=>.bool (a.Bib==b)) r:=by
 refine Qb func69 Z Z Z ?_
 exact G0 16 Z (Rt h 3 [0])
def F_kg(n:Nat)(c:List Starter)(d:Int)(a:Int):Option (Ctl Int (Ctl Unit Int)):=
  (bif decide (a<(c.length:Int))then(idx c a).bind fun b=>(F_iv n b d).bind fun e=>(bif (b.Bib==d)then some (.done (.done a))else some (.cont (IntKind.i64.wrap (a+1))))else some (.done (.cont ())))
def F_jb(n:Nat)(c:List Starter)(d:Int):Option Int:=
  (iter (F_kg n c d) n 0:Option (Ctl Unit Int)).bind fun b=>match b with|.cont a=>(some (-1))|.done a=>some a
theorem k_jb(n:Nat)(j:List Starter)(k:Int)(r:Int)(h:F_jb n j k=some r):
    Csm prog 68 [.rsl 8 (List.map Starter.c j),.fn (.func 69) [] [.ptr 0 0]] [.cells 3 [I k]] (fun r=>I r) r:=by
 refine Qb func68 Z Z Z ?_
 refine G0 9 Z (Lm Z (Go 3 Z (Bd h fun l m h=>?_)))
 refine CtE (b:=l) [0] [] (fun _=>[]) (fun _=>[]) (fun _=>rfl) ?_ (fun s env H p q=>?_)
 ·refine G0 1 Z ?_
  refine Lp [0] [0,1,7] (fun e=>[(8,I e)]) (fun _=>[]) m (fun _=>rfl) (Lr [0]) fun e u a d=>?_
  refine G0 6 Z (Ys Z a (fun f a=>?_) (fun f a=>?_))
  ·refine Gc 2 Z (Qm a ?_)
   obtain rfl:=Oj d a
   exact Gx 1 Z (Qp Z (Lr [0]))
  refine Gc 15 Z (Bd a fun w g a=>Iz g Z (Go 1 Z (Cz [0] a (k_iv _ _ _) Z fun x t a=>Go 2 Z (Cn Z a (fun i a=>?_) (fun i a=>?_)))))
  ·refine Gc 9 Z (Qx a ?_)
   obtain rfl:=Oj d a
   exact Gx 1 Z (Qq (Gx 1 Z (Rt h 4 [0])))
  exact Gc 7 Z (Qj a (Lr [0]))
 subst p
 exact Gx 1 Z (TC.le q (Gc 6 Z (Rt h 4 [0])))
def F_co(n:Nat)(a:List Starter)(c:Int):Option (Starter×Bool):=
  (F_jb n a c).bind fun b=>(bif decide (b<0)then some (z_Starter,false)else(idx a b).bind fun d=>some (d,true))
theorem k_co(n:Nat)(a:List Starter)(b:Int)(r:Starter×Bool)(h:F_co n a b=some r):
    C prog 43 [.rsl 8 (List.map Starter.c a),I b] [] (RQ (fun r=>.tup [.agg (Starter.c r.1),.bool r.2]) (fun r=>[.cells 50 (Starter.c r.1)]) r):=by
 refine Qb func43 Z Z Z ?_
 refine G0 11 Z (Cz [0] h (k_jb _ _ _) Z fun g f h=>Go 10 Z (Cn Z h (fun d h=>?_) (fun d h=>?_)))
 ·refine Gc 9 Z ?_
  obtain rfl:=Oi h
  exact Rx [1] [4,5] Z (QY Z Z (Qje.cons (Qs isAgg50 sizeOf50 Z Z Z) (Qje.cons Qd3.tmp Qje.nil))) ⟨Z,Z⟩
 refine Gc 6 Z (Bd h fun i e h=>Iz e Z (Go 6 Z ?_))
 obtain rfl:=Oi h
 exact Rx [1] [4,5] Z (QY Z Z (Qje.cons (Qs isAgg50 sizeOf50 Z Z Z) (Qje.cons Qd3.tmp Qje.nil))) ⟨Z,Z⟩
def F_as(n:Nat)(e:List Starter)(f:List Pair)(c:Int)(b:Int):Option (Int×Int):=
  ((bif decide (c<0)then some true else some (decide ((f.length:Int)<c))):Option Bool).bind fun b2=>(bif b2 then some (0,1)else((bif decide (0<c)then(idx f (IntKind.i64.wrap (c-1))).bind fun a=>((bif (b==a.A)then some a.B else(bif (b==a.B)then some a.A else some b)):Option Int).bind fun g=>some g else some b):Option Int).bind fun h=>(F_co n e b).bind fun i=>(F_co n e h).bind fun d=>((bif (!i.2)then some true else some (!d.2)):Option Bool).bind fun j=>(bif j then some (0,180)else some (d.1.Chip,0)))
theorem k_as(n:Nat)(t:List Starter)(u:List Pair)(w:Int)(x:Int)(r:Int×Int)(h:F_as n t u w x=some r):
    Csm prog 19 [.rsl 8 (List.map Starter.c t),.rsl 2 (List.map Pair.c u),I w,I x] [] (fun r=>.tup [I r.1,I r.2]) r:=by
 refine Qb func19 Z Z Z ?_
 refine G0 8 Z (Bd h fun b2 f h=>?_)
 refine Ct b2 [] [0,1,2,3] (fun b2=>[(23,.bool b2)]) (fun _=>[]) (fun _=>rfl) ?_ (fun env H d=>?_)
 ·refine G0 4 Z (Is 18 f Z (fun y f=>?_) (fun y f=>?_))
  ·exact Go 6 Z (Cl f [])
  ·exact Go 2 Z (Lm Z (Go 3 Z (Cl f [])))
 refine Gx 1 Z (TC.le d (Cn Z h (fun z h=>?_) (fun z h=>?_)))
 ·refine Gc 8 Z ?_
  obtain rfl:=Oi h
  exact R2 8 9 Z Z (Lr [])
 refine Gc 15 Z (Bd h fun g a h=>?_)
 refine Ct g [] [0,3] (fun g=>[(10,I g)]) (fun _=>[]) (fun _=>rfl) ?_ (fun env H d=>?_)
 ·refine G0 0 Z (Cn Z a (fun k a=>?_) (fun k a=>?_))
  ·refine Gc 5 Z (Bd a fun F l a=>Iz l Z (Go 19 Z (Bd a fun i b a=>?_)))
   refine Ct i [] [0,3] (fun i=>[(10,I i)]) (fun _=>[]) (fun _=>rfl) ?_ (fun env H d=>?_)
   ·refine G0 0 Z (Cn Z b (fun m b=>?_) (fun m b=>?_))
    ·exact Gc 5 Z (Cl b [])
    refine Gc 8 Z (Cn Z b (fun p b=>?_) (fun p b=>?_))
    ·exact Gc 5 Z (Cl b [])
    exact Gc 1 Z (Cl b [])
   refine Gx 1 Z ?_
   cases a
   exact QA (Le.trans d (Lr []))
  exact Gc 1 Z (Cl a [])
 refine Gx 1 Z (TC.le d (Gc 4 Z (Cd [] h (k_co _ _ _) Z fun G B h=>FE Z (Go 12 Z (Cd [] h (k_co _ _ _) Z fun J E h=>FE Z (Go 10 Z (Bd h fun j e h=>?_)))))))
 refine Ct j [3] [14] (fun j=>[(62,.bool j)]) (fun _=>[]) (fun _=>rfl) ?_ (fun env H d=>?_)
 ·refine G0 4 Z (Is 59 e Z (fun q e=>?_) (fun q e=>?_))
  ·exact Go 4 Z (Cl e [3])
  ·exact Go 4 Z (Cl e [3])
 refine Gx 1 Z (TC.le d (Cn Z h (fun s h=>?_) (fun s h=>?_)))
 ·refine Gc 8 Z ?_
  obtain rfl:=Oi h
  exact R2 8 9 Z Z (Lr [])
 refine Gc 11 Z ?_
 obtain rfl:=Oi h
 exact R2 8 9 Z Z (Lr [])
def F_kp(n:Nat)(d:List Starter)(f:List Pair)(g:Int)(h:Int)(a:Int):Option (Ctl Int (Ctl Unit (Int×Bool))):=
  (bif decide (a<(d.length:Int))then(idx d a).bind fun b=>(F_as n d f g b.Bib).bind fun c=>((bif (c.2==0)then some (c.1==h)else some false):Option Bool).bind fun e=>(bif e then some (.done (.done (b.Bib,true)))else some (.cont (IntKind.i64.wrap (a+1))))else some (.done (.cont ())))
def F_ev(n:Nat)(c:List Starter)(d:List Pair)(e:Int)(f:Int):Option (Int×Bool):=
  (iter (F_kp n c d e f) n 0:Option (Ctl Unit (Int×Bool))).bind fun b=>match b with|.cont a=>(some (0,false))|.done a=>some a
theorem k_ev(n:Nat)(p:List Starter)(q:List Pair)(s:Int)(t:Int)(r:Int×Bool)(h:F_ev n p q s t=some r):
    Csm prog 21 [.rsl 8 (List.map Starter.c p),.rsl 2 (List.map Pair.c q),I s,I t] [] (fun r=>.tup [I r.1,.bool r.2]) r:=by
 refine Qb func21 Z Z Z ?_
 refine G0 10 Z (Lm Z (Go 3 Z (Bd h fun u w h=>?_)))
 refine CtE (b:=u) [] [] (fun _=>[]) (fun _=>[]) (fun _=>rfl) ?_ (fun y env H x e=>?_)
 ·refine G0 1 Z ?_
  refine Lp [] [0,1,2,3,14,15] (fun i=>[(16,I i)]) (fun _=>[]) w (fun _=>rfl) (Lr []) fun i B a f=>?_
  refine G0 6 Z (Ys Z a (fun j a=>?_) (fun j a=>?_))
  ·refine Gc 2 Z (Qm a ?_)
   obtain rfl:=Oj f a
   exact Gx 1 Z (Qp Z (Lr []))
  refine Gc 6 Z (Bd a fun E k a=>Iz k Z (Go 12 Z (Cd [] a (k_as _ _ _ _ _) Z fun F z a=>FE Z (Go 8 Z (Bd a fun g d a=>?_)))))
  refine Ct g [0] [0,1,2,3,11,14,15,16] (fun g=>[(35,.bool g)]) (fun _=>[]) (fun _=>rfl) ?_ (fun env H e=>?_)
  ·refine G0 4 Z (Is 31 d Z (fun l d=>?_) (fun l d=>?_))
   ·exact Go 5 Z (Cl d [0])
   ·exact Go 5 Z (Cl d [0])
  refine Gx 1 Z (TC.le e (Cn Z a (fun m a=>?_) (fun m a=>?_)))
  ·refine Gc 11 Z (Qx a ?_)
   obtain rfl:=Oj f a
   refine Gx 1 Z (Qq (Gx 1 Z ?_))
   obtain rfl:=Oi h
   exact R2 8 9 Z Z (Lr [])
  exact Gc 7 Z (Qj a (Lr []))
 subst x
 refine Gx 1 Z (TC.le e (Gc 7 Z ?_))
 obtain rfl:=Oi h
 exact R2 8 9 Z Z (Lr [])
def F_di(n:Nat)(a:List Pair):Option Unit:=
  some ()
theorem k_di(n:Nat)(a:List Pair)(r:Unit)(h:F_di n a=some r):
    Csm prog 23 [.rsl 2 (List.map Pair.c a)] [] (fun _=>I (IntKind.i64.wrap ((a.length:Int)+1))) r:=by
 refine Qb func23 Z Z Z ?_
 exact G0 8 Z (Lm Z (Go 5 Z (Rt h 2 [])))
def F_gv(n:Nat):Option Bool:=
  (F_bm n 2 3 30).bind fun q=>(F_bm n 1 5 50).bind fun r=>(F_bm n 3 5 99).bind fun s=>(F_db n).bind fun t=>(F_aq n ({Name:=[115,97,109,112,108,101],Mats:=[{Name:=[108,105,110,101],Kind:=1:Mat},{Name:=[102,105,110,105,115,104],Kind:=3:Mat}],Legs:=[{From:=0,To:=1,Min:=10,Max:=100:Leg}],Distances:=[{Name:=[98,114,105,101,102],Route:=[z_Part,{z_Part with Mat:=1:Part}],Timing:=1,Cutoffs:=[],Extra:=(-1):Distance}],Waves:=[{Name:=[101,108,105,116,101],Gun:=0:Wave}],Offences:=[],Categories:=[],Prizes:=[],Ties:=[{z_Step with Kind:=1,By:=4:Step}],Faults:=z_Faults,Fee:=0,Deadline:=0:Course}) [{z_Fact with No:=1,At:=2,Kind:=1,Starter:={z_Starter with Bib:=3,Chip:=30:Starter}:Fact},{z_Fact with No:=1,At:=1,Kind:=1,Starter:={z_Starter with Bib:=5,Chip:=50:Starter}:Fact},{z_Fact with No:=1,At:=3,Kind:=1,Starter:={z_Starter with Bib:=5,Chip:=99:Starter}:Fact},{z_Fact with No:=1,Kind:=7,Pair:={A:=3,B:=5:Pair}:Fact},{z_Fact with No:=2,Kind:=7,Pair:={A:=3,B:=6:Pair}:Fact}]).bind fun a=>(F_db n).bind fun u=>(F_bl n ({Name:=[115,97,109,112,108,101],Mats:=[{Name:=[108,105,110,101],Kind:=1:Mat},{Name:=[102,105,110,105,115,104],Kind:=3:Mat}],Legs:=[{From:=0,To:=1,Min:=10,Max:=100:Leg}],Distances:=[{Name:=[98,114,105,101,102],Route:=[z_Part,{z_Part with Mat:=1:Part}],Timing:=1,Cutoffs:=[],Extra:=(-1):Distance}],Waves:=[{Name:=[101,108,105,116,101],Gun:=0:Wave}],Offences:=[],Categories:=[],Prizes:=[],Ties:=[{z_Step with Kind:=1,By:=4:Step}],Faults:=z_Faults,Fee:=0,Deadline:=0:Course}) [{z_Fact with No:=1,At:=2,Kind:=1,Starter:={z_Starter with Bib:=3,Chip:=30:Starter}:Fact},{z_Fact with No:=1,At:=1,Kind:=1,Starter:={z_Starter with Bib:=5,Chip:=50:Starter}:Fact},{z_Fact with No:=1,At:=3,Kind:=1,Starter:={z_Starter with Bib:=5,Chip:=99:Starter}:Fact},{z_Fact with No:=1,Kind:=7,Pair:={A:=3,B:=5:Pair}:Fact},{z_Fact with No:=2,Kind:=7,Pair:={A:=3,B:=6:Pair}:Fact}]).bind fun b=>(F_as n a.1 b.1 1 3).bind fun d=>(F_as n [] [] 0 1).bind fun l=>(F_as n a.1 [] 1 3).bind fun e=>(F_ev n a.1 b.1 1 30).bind fun c=>(F_ev n [] [] 0 1).bind fun f=>((bif (a.2==0)then(bif ((a.1.length:Int)==2)then(idx a.1 0).bind fun g=>(bif (g.Bib==3)then(idx a.1 1).bind fun h=>(bif (h.Chip==50)then(bif (b.2==0)then(bif ((b.1.length:Int)==1)then(idx b.1 0).bind fun i=>some (i==({A:=3,B:=5:Pair}))else some false)else some false)else some false)else some false)else some false)else some false):Option Bool).bind fun j=>((bif j then(F_di n b.1).bind fun m=>(bif ((IntKind.i64.wrap ((b.1.length:Int)+1))==2)then(F_di n []).bind fun p=>(bif ((IntKind.i64.wrap ((([]:List Pair).length:Int)+1))==1)then(bif (d.2==0)then(bif (d.1==50)then(bif (l.2==180)then(bif (e.2==1)then(bif c.2 then(bif (c.1==5)then some (!f.2)else some false)else some false)else some false)else some false)else some false)else some false)else some false)else some false)else some false):Option Bool).bind fun k=>some k
theorem k_gv(n:Nat)(r:Bool)(h:F_gv n=some r):
    Csm prog 10 [] [] (fun r=>.bool r) r:=by
 refine Qb func10 Z Z Z ?_
 refine G0 7 Z (Cd [] h (k_bm _ _ _ _) Z fun r1 af h=>?_)
 refine aV (.agg (Fact.c ({z_Fact with No:=1,At:=2,Kind:=1,Starter:={z_Starter with Bib:=3,Chip:=30:Starter}:Fact}))) [.cells 81 (Fact.c ({z_Fact with No:=1,At:=2,Kind:=1,Starter:={z_Starter with Bib:=3,Chip:=30:Starter}:Fact}))] Z Z ?_
 refine Cd [] h (k_bm _ _ _ _) Z fun r2 ag h=>?_
 refine aV (.agg (Fact.c ({z_Fact with No:=1,At:=1,Kind:=1,Starter:={z_Starter with Bib:=5,Chip:=50:Starter}:Fact}))) [_,.cells 81 (Fact.c ({z_Fact with No:=1,At:=1,Kind:=1,Starter:={z_Starter with Bib:=5,Chip:=50:Starter}:Fact}))] Z Z ?_
 refine Cd [] h (k_bm _ _ _ _) Z fun r3 ah h=>?_
 refine aV (.agg (Fact.c ({z_Fact with No:=1,At:=3,Kind:=1,Starter:={z_Starter with Bib:=5,Chip:=99:Starter}:Fact}))) [_,_,.cells 81 (Fact.c ({z_Fact with No:=1,At:=3,Kind:=1,Starter:={z_Starter with Bib:=5,Chip:=99:Starter}:Fact}))] Z Z ?_
 refine Go 4 Z ?_
 refine vH (OpH.lit (xs:=[.tmp 17,.tmp 18,.tmp 19,.tmp 21,.tmp 23]) (es:=List.map Fact.c [{z_Fact with No:=1,At:=2,Kind:=1,Starter:={z_Starter with Bib:=3,Chip:=30:Starter}:Fact},{z_Fact with No:=1,At:=1,Kind:=1,Starter:={z_Starter with Bib:=5,Chip:=50:Starter}:Fact},{z_Fact with No:=1,At:=3,Kind:=1,Starter:={z_Starter with Bib:=5,Chip:=99:Starter}:Fact},{z_Fact with No:=1,Kind:=7,Pair:={A:=3,B:=5:Pair}:Fact},{z_Fact with No:=2,Kind:=7,Pair:={A:=3,B:=6:Pair}:Fact}]) Qbw Z Z Z Z Z ⟨Z,Z,Z,Z,Z,trivial⟩ Z Z) ?_
 refine aV (.osl 3 0 ([{z_Fact with No:=1,At:=2,Kind:=1,Starter:={z_Starter with Bib:=3,Chip:=30:Starter}:Fact},{z_Fact with No:=1,At:=1,Kind:=1,Starter:={z_Starter with Bib:=5,Chip:=50:Starter}:Fact},{z_Fact with No:=1,At:=3,Kind:=1,Starter:={z_Starter with Bib:=5,Chip:=99:Starter}:Fact},{z_Fact with No:=1,Kind:=7,Pair:={A:=3,B:=5:Pair}:Fact},{z_Fact with No:=2,Kind:=7,Pair:={A:=3,B:=6:Pair}:Fact}].length) 57) [_,_,_,.row 81 57 (List.map Fact.c [{z_Fact with No:=1,At:=2,Kind:=1,Starter:={z_Starter with Bib:=3,Chip:=30:Starter}:Fact},{z_Fact with No:=1,At:=1,Kind:=1,Starter:={z_Starter with Bib:=5,Chip:=50:Starter}:Fact},{z_Fact with No:=1,At:=3,Kind:=1,Starter:={z_Starter with Bib:=5,Chip:=99:Starter}:Fact},{z_Fact with No:=1,Kind:=7,Pair:={A:=3,B:=5:Pair}:Fact},{z_Fact with No:=2,Kind:=7,Pair:={A:=3,B:=6:Pair}:Fact}])] Z Z ?_
 refine Go 5 Z (Cd [] h (k_db _) Z fun r4 ai h=>?_)
 refine aV (.agg [.str [115,97,109,112,108,101],.osl 4 0 ([{Name:=[108,105,110,101],Kind:=1:Mat},{Name:=[102,105,110,105,115,104],Kind:=3:Mat}].length) 2,.osl 5 0 ([{From:=0,To:=1,Min:=10,Max:=100:Leg}].length) 4,.osl 6 0 ([{Name:=[98,114,105,101,102],Route:=[z_Part,{z_Part with Mat:=1:Part}],Timing:=1,Cutoffs:=[],Extra:=(-1):Distance}].length) 5,.osl 7 0 ([{Name:=[101,108,105,116,101],Gun:=0:Wave}].length) 2,.rsl 4 (List.map Offence.c []),.rsl 3 (List.map Category.c []),.rsl 4 (List.map Prize.c []),.osl 8 0 ([{z_Step with Kind:=1,By:=4:Step}].length) 8,I 0,I 0,I 0,I 0,I 0,I 0,I 0]) [_,_,_,_,.row 96 2 (List.map Mat.c [{Name:=[108,105,110,101],Kind:=1:Mat},{Name:=[102,105,110,105,115,104],Kind:=3:Mat}]),.row 123 4 (List.map Leg.c [{From:=0,To:=1,Min:=10,Max:=100:Leg}]),.row 94 5 (List.map Distance.c [{Name:=[98,114,105,101,102],Route:=[z_Part,{z_Part with Mat:=1:Part}],Timing:=1,Cutoffs:=[],Extra:=(-1):Distance}]),.row 127 2 (List.map Wave.c [{Name:=[101,108,105,116,101],Gun:=0:Wave}]),.row 132 8 (List.map Step.enc [{z_Step with Kind:=1,By:=4:Step}]),.cells 33 [.str [115,97,109,112,108,101],.osl 4 0 ([{Name:=[108,105,110,101],Kind:=1:Mat},{Name:=[102,105,110,105,115,104],Kind:=3:Mat}].length) 2,.osl 5 0 ([{From:=0,To:=1,Min:=10,Max:=100:Leg}].length) 4,.osl 6 0 ([{Name:=[98,114,105,101,102],Route:=[z_Part,{z_Part with Mat:=1:Part}],Timing:=1,Cutoffs:=[],Extra:=(-1):Distance}].length) 5,.osl 7 0 ([{Name:=[101,108,105,116,101],Gun:=0:Wave}].length) 2,.rsl 4 (List.map Offence.c []),.rsl 3 (List.map Category.c []),.rsl 4 (List.map Prize.c []),.osl 8 0 ([{z_Step with Kind:=1,By:=4:Step}].length) 8,I 0,I 0,I 0,I 0,I 0,I 0,I 0]] Z Z ?_
 refine Go 1 Z ?_
 refine WO.le (QaI [(26,_)] Z Z (QmA.cons Z (FzA.agg (FzL.cons (FzA.refl _) (FzL.cons FzA.o (FzL.refl _)))) QmA.nil) (FzH.keep (FzH.keep (FzH.keep (FzH.keep (FzH.keep (FzH.keep (FzH.keep (FzH.keep (FzH.keep (FzH.cells (FzL.cons (FzA.refl _) (FzL.cons FzA.o (FzL.refl _))) (Y7 _)))))))))))) ?_
 refine WO.le (QaI [(26,_)] Z Z (QmA.cons Z (FzA.agg (FzL.cons (FzA.refl _) (FzL.cons (FzA.refl _) (FzL.cons FzA.o (FzL.refl _))))) QmA.nil) (FzH.keep (FzH.keep (FzH.keep (FzH.keep (FzH.keep (FzH.keep (FzH.keep (FzH.keep (FzH.keep (FzH.cells (FzL.cons (FzA.refl _) (FzL.cons (FzA.refl _) (FzL.cons FzA.o (FzL.refl _)))) (Y7 _)))))))))))) ?_
 refine WO.le (QaI [(26,_)] Z Z (QmA.cons Z (FzA.agg (FzL.cons (FzA.refl _) (FzL.cons (FzA.refl _) (FzL.cons (FzA.refl _) (FzL.cons FzA.o (FzL.refl _)))))) QmA.nil) (FzH.keep (FzH.keep (FzH.keep (FzH.keep (FzH.keep (FzH.keep (FzH.keep (FzH.keep (FzH.keep (FzH.cells (FzL.cons (FzA.refl _) (FzL.cons (FzA.refl _) (FzL.cons (FzA.refl _) (FzL.cons FzA.o (FzL.refl _))))) (Y7 _)))))))))))) ?_
 refine WO.le (QaI [(26,_)] Z Z (QmA.cons Z (FzA.agg (FzL.cons (FzA.refl _) (FzL.cons (FzA.refl _) (FzL.cons (FzA.refl _) (FzL.cons (FzA.refl _) (FzL.cons FzA.o (FzL.refl _))))))) QmA.nil) (FzH.keep (FzH.keep (FzH.keep (FzH.keep (FzH.keep (FzH.keep (FzH.keep (FzH.keep (FzH.keep (FzH.cells (FzL.cons (FzA.refl _) (FzL.cons (FzA.refl _) (FzL.cons (FzA.refl _) (FzL.cons (FzA.refl _) (FzL.cons FzA.o (FzL.refl _)))))) (Y7 _)))))))))))) ?_
 refine WO.le (QaI [(26,_)] Z Z (QmA.cons Z (FzA.agg (FzL.cons (FzA.refl _) (FzL.cons (FzA.refl _) (FzL.cons (FzA.refl _) (FzL.cons (FzA.refl _) (FzL.cons (FzA.refl _) (FzL.cons (FzA.refl _) (FzL.cons (FzA.refl _) (FzL.cons (FzA.refl _) (FzL.cons FzA.o (FzL.refl _))))))))))) QmA.nil) (FzH.keep (FzH.keep (FzH.keep (FzH.keep (FzH.keep (FzH.keep (FzH.keep (FzH.keep (FzH.keep (FzH.cells (FzL.cons (FzA.refl _) (FzL.cons (FzA.refl _) (FzL.cons (FzA.refl _) (FzL.cons (FzA.refl _) (FzL.cons (FzA.refl _) (FzL.cons (FzA.refl _) (FzL.cons (FzA.refl _) (FzL.cons (FzA.refl _) (FzL.cons FzA.o (FzL.refl _)))))))))) (Y7 _)))))))))))) ?_
 refine WO.le (QaI [(1,_),(24,_),(27,_)] Z Z (QmA.cons Z FzA.o (QmA.cons Z FzA.o (QmA.cons Z FzA.o QmA.nil))) (FzH.keep (FzH.keep (FzH.keep (FzH.keep (Y7 _)))))) ?_
 refine Cd [] h (k_aq _ _ _) Z fun t aj h=>?_
 refine aV (.tup [.osl 10 0 t.1.length 8,I t.2]) [_,_,_,.dead,.dead,.dead,.dead,.dead,.dead,.cells 33 [.str [115,97,109,112,108,101],.rsl 2 (List.map Mat.c [{Name:=[108,105,110,101],Kind:=1:Mat},{Name:=[102,105,110,105,115,104],Kind:=3:Mat}]),.rsl 4 (List.map Leg.c [{From:=0,To:=1,Min:=10,Max:=100:Leg}]),.rsl 5 (List.map Distance.c [{Name:=[98,114,105,101,102],Route:=[z_Part,{z_Part with Mat:=1:Part}],Timing:=1,Cutoffs:=[],Extra:=(-1):Distance}]),.rsl 2 (List.map Wave.c [{Name:=[101,108,105,116,101],Gun:=0:Wave}]),.rsl 4 (List.map Offence.c []),.rsl 3 (List.map Category.c []),.rsl 4 (List.map Prize.c []),.rsl 8 (List.map Step.enc [{z_Step with Kind:=1,By:=4:Step}]),I 0,I 0,I 0,I 0,I 0,I 0,I 0],.row 50 8 (List.map Starter.c t.1)] Z Z ?_
 refine Go 9 Z (Cd [] h (k_db _) Z fun r6 ak h=>?_)
 refine aV (.agg [.str [115,97,109,112,108,101],.osl 11 0 ([{Name:=[108,105,110,101],Kind:=1:Mat},{Name:=[102,105,110,105,115,104],Kind:=3:Mat}].length) 2,.osl 12 0 ([{From:=0,To:=1,Min:=10,Max:=100:Leg}].length) 4,.osl 13 0 ([{Name:=[98,114,105,101,102],Route:=[z_Part,{z_Part with Mat:=1:Part}],Timing:=1,Cutoffs:=[],Extra:=(-1):Distance}].length) 5,.osl 14 0 ([{Name:=[101,108,105,116,101],Gun:=0:Wave}].length) 2,.rsl 4 (List.map Offence.c []),.rsl 3 (List.map Category.c []),.rsl 4 (List.map Prize.c []),.osl 15 0 ([{z_Step with Kind:=1,By:=4:Step}].length) 8,I 0,I 0,I 0,I 0,I 0,I 0,I 0]) [_,_,_,_,_,_,_,_,_,_,_,.row 96 2 (List.map Mat.c [{Name:=[108,105,110,101],Kind:=1:Mat},{Name:=[102,105,110,105,115,104],Kind:=3:Mat}]),.row 123 4 (List.map Leg.c [{From:=0,To:=1,Min:=10,Max:=100:Leg}]),.row 94 5 (List.map Distance.c [{Name:=[98,114,105,101,102],Route:=[z_Part,{z_Part with Mat:=1:Part}],Timing:=1,Cutoffs:=[],Extra:=(-1):Distance}]),.row 127 2 (List.map Wave.c [{Name:=[101,108,105,116,101],Gun:=0:Wave}]),.row 132 8 (List.map Step.enc [{z_Step with Kind:=1,By:=4:Step}]),.cells 33 [.str [115,97,109,112,108,101],.osl 11 0 ([{Name:=[108,105,110,101],Kind:=1:Mat},{Name:=[102,105,110,105,115,104],Kind:=3:Mat}].length) 2,.osl 12 0 ([{From:=0,To:=1,Min:=10,Max:=100:Leg}].length) 4,.osl 13 0 ([{Name:=[98,114,105,101,102],Route:=[z_Part,{z_Part with Mat:=1:Part}],Timing:=1,Cutoffs:=[],Extra:=(-1):Distance}].length) 5,.osl 14 0 ([{Name:=[101,108,105,116,101],Gun:=0:Wave}].length) 2,.rsl 4 (List.map Offence.c []),.rsl 3 (List.map Category.c []),.rsl 4 (List.map Prize.c []),.osl 15 0 ([{z_Step with Kind:=1,By:=4:Step}].length) 8,I 0,I 0,I 0,I 0,I 0,I 0,I 0]] Z Z ?_
 refine Go 1 Z ?_
 refine WO.le (QaI [(32,_)] Z Z (QmA.cons Z (FzA.agg (FzL.cons (FzA.refl _) (FzL.cons FzA.o (FzL.refl _)))) QmA.nil) (FzH.keep (FzH.keep (FzH.keep (FzH.keep (FzH.keep (FzH.keep (FzH.keep (FzH.keep (FzH.keep (FzH.keep (FzH.keep (FzH.keep (FzH.keep (FzH.keep (FzH.keep (FzH.keep (FzH.cells (FzL.cons (FzA.refl _) (FzL.cons FzA.o (FzL.refl _))) (Y7 _))))))))))))))))))) ?_
 refine WO.le (QaI [(32,_)] Z Z (QmA.cons Z (FzA.agg (FzL.cons (FzA.refl _) (FzL.cons (FzA.refl _) (FzL.cons FzA.o (FzL.refl _))))) QmA.nil) (FzH.keep (FzH.keep (FzH.keep (FzH.keep (FzH.keep (FzH.keep (FzH.keep (FzH.keep (FzH.keep (FzH.keep (FzH.keep (FzH.keep (FzH.keep (FzH.keep (FzH.keep (FzH.keep (FzH.cells (FzL.cons (FzA.refl _) (FzL.cons (FzA.refl _) (FzL.cons FzA.o (FzL.refl _)))) (Y7 _))))))))))))))))))) ?_
 refine WO.le (QaI [(32,_)] Z Z (QmA.cons Z (FzA.agg (FzL.cons (FzA.refl _) (FzL.cons (FzA.refl _) (FzL.cons (FzA.refl _) (FzL.cons FzA.o (FzL.refl _)))))) QmA.nil) (FzH.keep (FzH.keep (FzH.keep (FzH.keep (FzH.keep (FzH.keep (FzH.keep (FzH.keep (FzH.keep (FzH.keep (FzH.keep (FzH.keep (FzH.keep (FzH.keep (FzH.keep (FzH.keep (FzH.cells (FzL.cons (FzA.refl _) (FzL.cons (FzA.refl _) (FzL.cons (FzA.refl _) (FzL.cons FzA.o (FzL.refl _))))) (Y7 _))))))))))))))))))) ?_
 refine WO.le (QaI [(32,_)] Z Z (QmA.cons Z (FzA.agg (FzL.cons (FzA.refl _) (FzL.cons (FzA.refl _) (FzL.cons (FzA.refl _) (FzL.cons (FzA.refl _) (FzL.cons FzA.o (FzL.refl _))))))) QmA.nil) (FzH.keep (FzH.keep (FzH.keep (FzH.keep (FzH.keep (FzH.keep (FzH.keep (FzH.keep (FzH.keep (FzH.keep (FzH.keep (FzH.keep (FzH.keep (FzH.keep (FzH.keep (FzH.keep (FzH.cells (FzL.cons (FzA.refl _) (FzL.cons (FzA.refl _) (FzL.cons (FzA.refl _) (FzL.cons (FzA.refl _) (FzL.cons FzA.o (FzL.refl _)))))) (Y7 _))))))))))))))))))) ?_
 refine WO.le (QaI [(32,_)] Z Z (QmA.cons Z (FzA.agg (FzL.cons (FzA.refl _) (FzL.cons (FzA.refl _) (FzL.cons (FzA.refl _) (FzL.cons (FzA.refl _) (FzL.cons (FzA.refl _) (FzL.cons (FzA.refl _) (FzL.cons (FzA.refl _) (FzL.cons (FzA.refl _) (FzL.cons FzA.o (FzL.refl _))))))))))) QmA.nil) (FzH.keep (FzH.keep (FzH.keep (FzH.keep (FzH.keep (FzH.keep (FzH.keep (FzH.keep (FzH.keep (FzH.keep (FzH.keep (FzH.keep (FzH.keep (FzH.keep (FzH.keep (FzH.keep (FzH.cells (FzL.cons (FzA.refl _) (FzL.cons (FzA.refl _) (FzL.cons (FzA.refl _) (FzL.cons (FzA.refl _) (FzL.cons (FzA.refl _) (FzL.cons (FzA.refl _) (FzL.cons (FzA.refl _) (FzL.cons (FzA.refl _) (FzL.cons FzA.o (FzL.refl _)))))))))) (Y7 _))))))))))))))))))) ?_
 refine Cd [] h (k_bl _ _ _) Z fun u al h=>?_
 refine aV (.tup [.osl 17 0 u.1.length 2,I u.2]) [_,_,_,_,_,_,_,_,_,_,_,.dead,.dead,.dead,.dead,.dead,.cells 33 [.str [115,97,109,112,108,101],.rsl 2 (List.map Mat.c [{Name:=[108,105,110,101],Kind:=1:Mat},{Name:=[102,105,110,105,115,104],Kind:=3:Mat}]),.rsl 4 (List.map Leg.c [{From:=0,To:=1,Min:=10,Max:=100:Leg}]),.rsl 5 (List.map Distance.c [{Name:=[98,114,105,101,102],Route:=[z_Part,{z_Part with Mat:=1:Part}],Timing:=1,Cutoffs:=[],Extra:=(-1):Distance}]),.rsl 2 (List.map Wave.c [{Name:=[101,108,105,116,101],Gun:=0:Wave}]),.rsl 4 (List.map Offence.c []),.rsl 3 (List.map Category.c []),.rsl 4 (List.map Prize.c []),.rsl 8 (List.map Step.enc [{z_Step with Kind:=1,By:=4:Step}]),I 0,I 0,I 0,I 0,I 0,I 0,I 0],.row 59 2 (List.map Pair.c u.1)] Z Z ?_
 refine Go 11 Z (Bd h fun r8 aa h=>?_)
 refine QbK (OpC.fn call19 rfl rfl rfl) (Qbi.cons rfl (.inr ⟨_,_,_,_,_,rfl,rfl,List.length_map ..,rfl⟩) (Qbi.cons rfl (.inr ⟨_,_,_,_,_,rfl,rfl,List.length_map ..,rfl⟩) (Qbi.cons rfl (.inl ⟨rfl,rfl⟩) (Qbi.cons rfl (.inl ⟨rfl,rfl⟩) Qbi.nil)))) (k_as _ _ _ _ _ _ aa) (by rintro _ _ ⟨rfl,rfl⟩;rfl) ?_
 rintro _ _ ⟨rfl,rfl⟩
 refine aV (.tup [I r8.1,I r8.2]) [_,_,_,_,_,_,_,_,_,_,_,_,_,_,_,_,_,_] Z Z ?_
 refine Go 9 Z (Bd h fun r9 ab h=>?_)
 refine QP [] (OpC.fn call19 Z Z Z) (C.nils (Qjk.nl (Qjk.nl (Qjk.eq (Qjk.eq Qjk.nil)))) (k_as _ _ _ _ _ _ ab)) ?_
 rintro _ _ ⟨rfl,rfl⟩
 refine aV (.tup [I r9.1,I r9.2]) [_,_,_,_,_,_,_,_,_,_,_,_,_,_,_,_,_,_] Z Z ?_
 refine Go 10 Z (Bd h fun l w h=>?_)
 refine QbK (OpC.fn call19 rfl rfl rfl) (Qbi.cons rfl (.inr ⟨_,_,_,_,_,rfl,rfl,List.length_map ..,rfl⟩) (Qbi.cons rfl (.inl ⟨rfl,rfl⟩) (Qbi.cons rfl (.inl ⟨rfl,rfl⟩) (Qbi.cons rfl (.inl ⟨rfl,rfl⟩) Qbi.nil)))) (C.nils (Qjk.eq (Qjk.nl (Qjk.eq (Qjk.eq Qjk.nil)))) (k_as _ _ _ _ _ _ w)) (by rintro _ _ ⟨rfl,rfl⟩;rfl) ?_
 rintro _ _ ⟨rfl,rfl⟩
 refine aV (.tup [I l.1,I l.2]) [_,_,_,_,_,_,_,_,_,_,_,_,_,_,_,_,_,_] Z Z ?_
 refine Go 11 Z (Bd h fun m y h=>?_)
 refine QbK (OpC.fn call21 rfl rfl rfl) (Qbi.cons rfl (.inr ⟨_,_,_,_,_,rfl,rfl,List.length_map ..,rfl⟩) (Qbi.cons rfl (.inr ⟨_,_,_,_,_,rfl,rfl,List.length_map ..,rfl⟩) (Qbi.cons rfl (.inl ⟨rfl,rfl⟩) (Qbi.cons rfl (.inl ⟨rfl,rfl⟩) Qbi.nil)))) (k_ev _ _ _ _ _ _ y) (by rintro _ _ ⟨rfl,rfl⟩;rfl) ?_
 rintro _ _ ⟨rfl,rfl⟩
 refine aV (.tup [I m.1,.bool m.2]) [_,_,_,_,_,_,_,_,_,_,_,_,_,_,_,_,_,_] Z Z ?_
 refine Go 9 Z (Bd h fun s z h=>?_)
 refine QP [] (OpC.fn call21 Z Z Z) (C.nils (Qjk.nl (Qjk.nl (Qjk.eq (Qjk.eq Qjk.nil)))) (k_ev _ _ _ _ _ _ z)) ?_
 rintro _ _ ⟨rfl,rfl⟩
 refine aV (.tup [I s.1,.bool s.2]) [_,_,_,_,_,_,_,_,_,_,_,_,_,_,_,_,_,_] Z Z ?_
 refine Go 8 Z (Bd h fun d b h=>?_)
 refine Ct d [17] [4,6,7,9,11,12,13,15] (fun d=>[(16,.bool d)]) (fun _=>[]) (fun _=>rfl) ?_ (fun env H e=>?_)
 ·refine G0 4 Z (Is 64 b Z (fun E b=>?_) (fun E b=>?_))
  ·refine Go 5 Z (Is 69 b Z (fun F b=>?_) (fun F b=>?_))
   ·refine Go 1 Z (Bd b fun ac f b=>?_)
    refine vX (.ptr 10 (Int.toNat 0*8)) (QK f Z runUnderlying38 sizeOf50) ?_ (gT Z)
    refine Fpg (gT Z) QjL Z ?_
    refine vX (I ac.Bib) (OpV.load Z isAgg3 Z (Qw f)) ?_ (gT Z)
    refine Go 3 Z (Is 76 b Z (fun G b=>?_) (fun G b=>?_))
    ·refine Go 1 Z (Bd b fun ad g b=>?_)
     refine vX (.ptr 10 (Int.toNat 1*8)) (QK g Z runUnderlying38 sizeOf50) ?_ (gT Z)
     refine Fpg (gT Z) QgH Z ?_
     refine vX (I ad.Chip) (OpV.load Z isAgg3 Z (Qag g)) ?_ (gT Z)
     refine Go 3 Z (Is 83 b Z (fun J b=>?_) (fun J b=>?_))
     ·refine Go 4 Z (Is 87 b Z (fun L b=>?_) (fun L b=>?_))
      ·refine Go 5 Z (Is 92 b Z (fun M b=>?_) (fun M b=>?_))
       ·refine Go 1 Z (Bd b fun i j b=>?_)
        refine vX (.ptr 17 (Int.toNat 0*2)) (QK j Z runUnderlying42 sizeOf59) ?_ (gT Z)
        refine vX (.agg (Pair.c i)) (Qo Z isAgg59 sizeOf59 Z (Qw j) Z Z) ?_ (gT Z)
        refine Go 1 Z ?_
        refine vX (.bool (i==({A:=3,B:=5:Pair}))) (Qb4 (p:=i) (q:={A:=3,B:=5:Pair}) Qi0 Z Z) ?_ (gT Z)
        exact Go 3 Z (Cl b [17])
       ·exact Go 8 Z (Cl b [17])
      ·exact Go 13 Z (Cl b [17])
     ·exact Go 17 Z (Cl b [17])
    ·exact Go 24 Z (Cl b [17])
   ·exact Go 31 Z (Cl b [17])
  ·exact Go 36 Z (Cl b [17])
 refine Gx 1 Z (TC.le e (Gc 1 Z (Bd h fun k a h=>?_)))
 refine Ct k [] [] (fun k=>[(0,.bool k)]) (fun _=>[]) (fun _=>rfl) ?_ (fun env H e=>?_)
 ·refine G0 3 Z (Is 100 a Z (fun N a=>?_) (fun N a=>?_))
  ·refine Go 1 Z (Cb a (k_di _ _) Z (lo ln) fun am ae a=>Go 3 Z (Is 105 a Z (fun O a=>?_) (fun O a=>?_)))
   ·refine Bd a fun an P a=>?_
    refine QP [] (OpC.fn call23 Z Z Z) (C.nils (Qjk.nl Qjk.nil) (k_di _ _ _ P)) ?_ (hg:=(gT Z))
    rintro _ _ ⟨rfl,rfl⟩
    refine QgY (x:=(I (IntKind.i64.wrap ((([]:List Pair).length:Int)+1)))) (H:=[_]) Z Z ?_
    refine Go 3 Z (Is 109 a Z (fun Q a=>?_) (fun Q a=>?_))
    ·refine Go 4 Z (Is 113 a Z (fun R a=>?_) (fun R a=>?_))
     ·refine Go 4 Z (Is 117 a Z (fun T a=>?_) (fun T a=>?_))
      ·refine Go 4 Z (Is 121 a Z (fun V a=>?_) (fun V a=>?_))
       ·refine Go 4 Z (Is 125 a Z (fun W a=>?_) (fun W a=>?_))
        ·refine Go 3 Z (Is 128 a Z (fun X a=>?_) (fun X a=>?_))
         ·refine Go 4 Z (Is 132 a Z (fun Y a=>?_) (fun Y a=>?_))
          ·exact Go 5 Z (Cl a [])
          ·exact Go 5 Z (Cl a [])
         ·exact Go 9 Z (Cl a [])
        ·exact Go 12 Z (Cl a [])
       ·exact Go 16 Z (Cl a [])
      ·exact Go 20 Z (Cl a [])
     ·exact Go 24 Z (Cl a [])
    ·exact Go 28 Z (Cl a [])
   ·exact Go 32 Z (Cl a [])
  ·exact Go 37 Z (Cl a [])
 exact Gx 1 Z (TC.le e (Gc 1 Z (Rt h 0 [])))
def F_fi(n:Nat)(b:List Part)(f:Int)(rec177:(List Part)->Int->Option Int)(a:Int×Int):Option (Ctl (Int×Int) Int):=
  ((bif decide (a.2<(b.length:Int))then some (decide (a.1<500))else some false):Option Bool).bind fun c=>(bif c then(idx b a.2).bind fun d=>(rec177 d.Parts (IntKind.i64.wrap (f+1))).bind fun e=>some (.cont (IntKind.i64.wrap (a.1+e),IntKind.i64.wrap (a.2+1)))else some (.done a.1))
def B_t(rec177:(List Part)->Int->Option Int)(n:Nat)(a:List Part)(b:Int):Option Int:=
  (bif decide (20<b)then some 500 else(iter (F_fi n a b rec177) n ((a.length:Int),0):Option Int).bind fun c=>some c)
theorem Qa8(rec177:(List Part)->Int->Option Int)(c:∀(d:List Part) (e:Int) (r:Int),rec177 d e=some r->Csm prog 31 [.rsl 3 (List.map Part.enc d),I e] [] (fun r=>I r) r)(n:Nat)(d:List Part)(e:Int)(r:Int)(h:B_t rec177 n d e=some r):
    Csm prog 31 [.rsl 3 (List.map Part.enc d),I e] [] (fun r=>I r) r:=by
 refine Qb func31 Z Z Z ?_
 refine G0 8 Z (Lm Z (Go 10 Z (Cn Z h (fun q h=>?_) (fun q h=>?_))))
 ·exact Gc 7 Z (Rt h 4 [])
 refine Gc 8 Z (Bd h fun f s h=>?_)
 refine Ct f [] [] (fun f=>[(5,I f)]) (fun _=>[]) (fun _=>rfl) ?_ (fun env H g=>?_)
 ·refine G0 1 Z ?_
  refine Lp [] [0,1] (fun i=>[(5,I i.1),(6,I i.2)]) (fun _=>[]) s (fun _=>rfl) (Lr []) fun i w a k=>?_
  refine G0 2 Z (Bd a fun j b a=>?_)
  refine Ct j [] [0,1,5,6] (fun j=>[(18,.bool j)]) (fun _=>[]) (fun _=>rfl) ?_ (fun env H g=>?_)
  ·refine G0 3 Z (Lm Z (Go 2 Z (Is 15 b Z (fun l b=>?_) (fun l b=>?_))))
   ·exact Go 4 Z (Cl b [])
   ·exact Go 4 Z (Cl b [])
  refine Gx 1 Z (TC.le g (Ys Z a (fun m a=>?_) (fun m a=>?_)))
  ·refine Gc 2 Z (Qm a ?_)
   obtain rfl:=Oj k a
   exact Gx 1 Z (QA (Lr []))
  exact Gc 8 Z (Bd a fun t p a=>IzE p (Q0 t) Z (Go 4 Z (Cz [] a (c _ _) Z fun x u a=>Go 10 Z (Qj a (Lr [])))))
 exact Gx 1 Z (TC.le g (Gc 7 Z (Rt h 4 [])))
def F_t:Nat->(List Part)->Int->Option Int
  |0=>fun _ _=>none
  |n+1=>B_t (F_t n) n
theorem k_t(n:Nat):∀(a:List Part) (b:Int) (r:Int),F_t n a b=some r->Csm prog 31 [.rsl 3 (List.map Part.enc a),I b] [] (fun r=>I r) r:=by
  induction n with
  |zero=>intro a b r h;cases h
  |succ n ih=>intro a b r h;exact Qa8 _ ih n a b r h
def F_gb(n:Nat)(b:List Cond)(f:Int)(rec179:(List Cond)->Int->Option Int)(a:Int×Int):Option (Ctl (Int×Int) Int):=
  ((bif decide (a.2<(b.length:Int))then some (decide (a.1<500))else some false):Option Bool).bind fun c=>(bif c then(idx b a.2).bind fun d=>(rec179 d.Parts (IntKind.i64.wrap (f+1))).bind fun e=>some (.cont (IntKind.i64.wrap (a.1+e),IntKind.i64.wrap (a.2+1)))else some (.done a.1))
def B_r(rec179:(List Cond)->Int->Option Int)(n:Nat)(a:List Cond)(b:Int):Option Int:=
  (bif decide (20<b)then some 500 else(iter (F_gb n a b rec179) n ((a.length:Int),0):Option Int).bind fun c=>some c)
theorem QaX(rec179:(List Cond)->Int->Option Int)(c:∀(d:List Cond) (e:Int) (r:Int),rec179 d e=some r->Csm prog 52 [.rsl 4 (List.map Cond.enc d),I e] [] (fun r=>I r) r)(n:Nat)(d:List Cond)(e:Int)(r:Int)(h:B_r rec179 n d e=some r):
    Csm prog 52 [.rsl 4 (List.map Cond.enc d),I e] [] (fun r=>I r) r:=by
 refine Qb func52 Z Z Z ?_
 refine G0 8 Z (Lm Z (Go 10 Z (Cn Z h (fun q h=>?_) (fun q h=>?_))))
 ·exact Gc 7 Z (Rt h 4 [])
 refine Gc 8 Z (Bd h fun f s h=>?_)
 refine Ct f [] [] (fun f=>[(5,I f)]) (fun _=>[]) (fun _=>rfl) ?_ (fun env H g=>?_)
 ·refine G0 1 Z ?_
  refine Lp [] [0,1] (fun i=>[(5,I i.1),(6,I i.2)]) (fun _=>[]) s (fun _=>rfl) (Lr []) fun i w a k=>?_
  refine G0 2 Z (Bd a fun j b a=>?_)
  refine Ct j [] [0,1,5,6] (fun j=>[(18,.bool j)]) (fun _=>[]) (fun _=>rfl) ?_ (fun env H g=>?_)
  ·refine G0 3 Z (Lm Z (Go 2 Z (Is 15 b Z (fun l b=>?_) (fun l b=>?_))))
   ·exact Go 4 Z (Cl b [])
   ·exact Go 4 Z (Cl b [])
  refine Gx 1 Z (TC.le g (Ys Z a (fun m a=>?_) (fun m a=>?_)))
  ·refine Gc 2 Z (Qm a ?_)
   obtain rfl:=Oj k a
   exact Gx 1 Z (QA (Lr []))
  exact Gc 8 Z (Bd a fun t p a=>IzE p (Y2 t) Z (Go 4 Z (Cz [] a (c _ _) Z fun x u a=>Go 10 Z (Qj a (Lr [])))))
 exact Gx 1 Z (TC.le g (Gc 7 Z (Rt h 4 [])))
def F_r:Nat->(List Cond)->Int->Option Int
  |0=>fun _ _=>none
  |n+1=>B_r (F_r n) n
theorem k_r(n:Nat):∀(a:List Cond) (b:Int) (r:Int),F_r n a b=some r->Csm prog 52 [.rsl 4 (List.map Cond.enc a),I b] [] (fun r=>I r) r:=by
  induction n with
  |zero=>intro a b r h;cases h
  |succ n ih=>intro a b r h;exact QaX _ ih n a b r h
def F_ft(n:Nat)(b:List Step)(c:Int)(rec178:(List Step)->Int->Option Int)(a:Int×Int):Option (Ctl (Int×Int) Int):=
  ((bif decide (a.2<(b.length:Int))then some (decide (a.1<500))else some false):Option Bool).bind fun d=>(bif d then(idx b a.2).bind fun e=>(F_r n [e.Cond] 0).bind fun f=>(idx b a.2).bind fun g=>(rec178 g.Then (IntKind.i64.wrap (c+1))).bind fun h=>(idx b a.2).bind fun i=>(rec178 i.Else (IntKind.i64.wrap (c+1))).bind fun j=>some (.cont (IntKind.i64.wrap ((IntKind.i64.wrap ((IntKind.i64.wrap (a.1+f))+h))+j),IntKind.i64.wrap (a.2+1)))else some (.done a.1))
def B_s(rec178:(List Step)->Int->Option Int)(n:Nat)(a:List Step)(b:Int):Option Int:=
  (bif decide (20<b)then some 500 else(iter (F_ft n a b rec178) n ((a.length:Int),0):Option Int).bind fun c=>some c)
theorem QaW(rec178:(List Step)->Int->Option Int)(g:∀(j:List Step) (k:Int) (r:Int),rec178 j k=some r->Csm prog 32 [.rsl 8 (List.map Step.enc j),I k] [] (fun r=>I r) r)(n:Nat)(j:List Step)(k:Int)(r:Int)(h:B_s rec178 n j k=some r):
    Csm prog 32 [.rsl 8 (List.map Step.enc j),I k] [] (fun r=>I r) r:=by
 refine Qb func32 Z Z Z ?_
 refine G0 8 Z (Lm Z (Go 10 Z (Cn Z h (fun B h=>?_) (fun B h=>?_))))
 ·exact Gc 7 Z (Rt h 4 [])
 refine Gc 8 Z (Bd h fun l E h=>?_)
 refine Ct l [] [] (fun l=>[(5,I l)]) (fun _=>[]) (fun _=>rfl) ?_ (fun env H m=>?_)
 ·refine G0 1 Z ?_
  refine Lp [] [0,1] (fun p=>[(5,I p.1),(6,I p.2)]) (fun _=>[]) E (fun _=>rfl) (Lr []) fun p L a s=>?_
  refine G0 2 Z (Bd a fun q i a=>?_)
  refine Ct q [] [0,1,5,6] (fun q=>[(18,.bool q)]) (fun _=>[]) (fun _=>rfl) ?_ (fun env H m=>?_)
  ·refine G0 3 Z (Lm Z (Go 2 Z (Is 15 i Z (fun t i=>?_) (fun t i=>?_))))
   ·exact Go 4 Z (Cl i [])
   ·exact Go 4 Z (Cl i [])
  refine Gx 1 Z (TC.le m (Ys Z a (fun u a=>?_) (fun u a=>?_)))
  ·refine Gc 2 Z (Qm a ?_)
   obtain rfl:=Oj s a
   exact Gx 1 Z (QA (Lr []))
  refine Gc 4 Z (DSs 26 Z (D 3 Z ?_))
  obtain⟨b,w,a⟩:=Y3 a
  refine DS.v (x:=(.rp [I b.Kind,I b.By,I b.Cond.Kind,I b.Cond.Var,I b.Cond.N,.rsl 4 (List.map Cond.enc b.Cond.Parts),.rsl 8 (List.map Step.enc b.Then),.rsl 8 (List.map Step.enc b.Else)])) (Qfq (e:=Step.enc) w (Yb b) runUnderlying29 sizeOf132) ?_
  refine D 2 Z ?_
  refine DS.wo (x:=.rsl 4 (List.map Cond.enc [b.Cond])) ?_ ?_
  ·refine vH (Q4 (xs:=[.tmp 26]) (es:=[Cond.c b.Cond]) Qn1 Z Z Z Z Z ⟨Z,trivial⟩ Z Z) ?_
   refine QgY (x:=(.rsl 4 (List.map Cond.enc [b.Cond]))) (H:=[]) (by simp[Y2]) Z ?_
   exact Wp
  refine Dz [] a (k_r _ _ _) Z fun M F a=>D 3 Z ?_
  obtain⟨d,y,a⟩:=Y3 a
  refine DS.v (x:=(.rp [I d.Kind,I d.By,I d.Cond.Kind,I d.Cond.Var,I d.Cond.N,.rsl 4 (List.map Cond.enc d.Cond.Parts),.rsl 8 (List.map Step.enc d.Then),.rsl 8 (List.map Step.enc d.Else)])) (Qfq (e:=Step.enc) y (Yb d) runUnderlying29 sizeOf132) ?_
  refine D 4 Z ?_
  refine Dz [] a (g _ _) Z fun O G a=>D 3 Z ?_
  obtain⟨f,z,a⟩:=Y3 a
  refine DS.v (x:=(.rp [I f.Kind,I f.By,I f.Cond.Kind,I f.Cond.Var,I f.Cond.N,.rsl 4 (List.map Cond.enc f.Cond.Parts),.rsl 8 (List.map Step.enc f.Then),.rsl 8 (List.map Step.enc f.Else)])) (Qfq (e:=Step.enc) z (Yb f) runUnderlying29 sizeOf132) ?_
  refine D 4 Z ?_
  exact Dz [] a (g _ _) Z fun P J a=>DS.done Z (Go 10 Z (Qj a (Lr [])))
 exact Gx 1 Z (TC.le m (Gc 7 Z (Rt h 4 [])))
def F_s:Nat->(List Step)->Int->Option Int
  |0=>fun _ _=>none
  |n+1=>B_s (F_s n) n
theorem k_s(n:Nat):∀(a:List Step) (b:Int) (r:Int),F_s n a b=some r->Csm prog 32 [.rsl 8 (List.map Step.enc a),I b] [] (fun r=>I r) r:=by
  induction n with
  |zero=>intro a b r h;cases h
  |succ n ih=>intro a b r h;exact QaW _ ih n a b r h
def F_hf(n:Nat)(b:Course)(a:Int):Option (Ctl Int (Ctl Unit Bool)):=
  (bif decide (a<(b.Distances.length:Int))then((idx b.Distances a).bind fun c=>(F_t n c.Route 0).bind fun d=>(bif decide (24<d)then some true else(idx b.Distances a).bind fun e=>(bif decide (12<(e.Cutoffs.length:Int))then some true else(idx b.Distances a).bind fun f=>some (decide (60<(f.Name.length:Int))))):Option Bool).bind fun g=>(bif g then some (.done (.done false))else some (.cont (IntKind.i64.wrap (a+1))))else some (.done (.cont ())))
def F_ii(n:Nat)(b:Course)(a:Int):Option (Ctl Int (Ctl Unit Bool)):=
  (bif decide (a<(b.Mats.length:Int))then(idx b.Mats a).bind fun c=>(bif decide (60<(c.Name.length:Int))then some (.done (.done false))else some (.cont (IntKind.i64.wrap (a+1))))else some (.done (.cont ())))
def F_ba(n:Nat)(a:Course):Option Bool:=
  (iter (F_hf n a) n 0:Option (Ctl Unit Bool)).bind fun d=>match d with|.cont b=>((iter (F_ii n a) n 0:Option (Ctl Unit Bool)).bind fun e=>match e with|.cont c=>(((bif decide (12<(a.Mats.length:Int))then some true else(bif decide (30<(a.Legs.length:Int))then some true else(bif decide (4<(a.Distances.length:Int))then some true else(bif decide (6<(a.Waves.length:Int))then some true else(bif decide (6<(a.Offences.length:Int))then some true else(bif decide (6<(a.Categories.length:Int))then some true else(bif decide (6<(a.Prizes.length:Int))then some true else some (decide (60<(a.Name.length:Int)))))))))):Option Bool).bind fun f=>(bif f then some false else(F_s n a.Ties 0).bind fun g=>some (decide (g<=100))))|.done c=>some c)|.done b=>some b
theorem k_ba(n:Nat)(s:Course)(r:Bool)(h:F_ba n s=some r):
    Csm prog 11 [.agg (Course.c s)] [] (fun r=>.bool r) r:=by
 refine Qb func11 Z Z Z ?_
 refine G0 12 Z (Bd h fun T V h=>?_)
 refine CtE (b:=T) [0] [1] (fun _=>[]) (fun _=>[]) (fun _=>rfl) ?_ (fun ab env H i g=>?_)
 ·refine G0 1 Z ?_
  refine Lp [0] [1] (fun p=>[(3,I p)]) (fun _=>[]) V (fun _=>rfl) (Lr [0]) fun p af e j=>?_
  refine G0 6 Z (Lm Z (Go 3 Z (Ys Z e (fun t e=>?_) (fun t e=>?_))))
  ·refine Gc 2 Z (Qm e ?_)
   obtain rfl:=Oj j e
   exact Gx 1 Z (Qp Z (Lr [0]))
  refine Gc 5 Z (Bd e fun k d e=>?_)
  refine Ct k [0] [1,3] (fun k=>[(39,.bool k)]) (fun _=>[]) (fun _=>rfl) ?_ (fun env H g=>?_)
  ·refine G0 4 Z (Bd d fun ag u d=>Iz u Z (Go 2 Z (Cz [] d (k_t _ _ _) Z fun ah ac d=>Go 2 Z (Is 20 d Z (fun w d=>?_) (fun w d=>?_)))))
   ·exact Go 20 Z (Cl d [0])
   ·refine Go 3 Z (Bd d fun ai x d=>Iz x Z (Go 2 Z (Lm Z (Go 3 Z (Is 30 d Z (fun y d=>?_) (fun y d=>?_))))))
    ·exact Go 10 Z (Cl d [0])
    ·refine Go 3 Z (Bd d fun W z d=>Iz z Z (Go 2 Z ?_))
     refine vX (I (W.Name.length:Int)) (YE Z Z runUnderlying9 Z) ?_ (gT Z)
     exact Go 3 Z (Cl d [0])
  refine Gx 1 Z (TC.le g (Cn Z e (fun B e=>?_) (fun B e=>?_)))
  ·refine Gc 8 Z (Qx e ?_)
   obtain rfl:=Oj j e
   exact Gx 1 Z (Qq (Gx 1 Z (Rt h 2 [])))
  exact Gc 8 Z (Qj e (Lr [0]))
 subst i
 refine Gx 1 Z (TC.le g (Gc 6 Z (Bd h fun X Y h=>?_)))
 refine CtE (b:=X) [0] [1] (fun _=>[]) (fun _=>[]) (fun _=>rfl) ?_ (fun ad env H i g=>?_)
 ·refine G0 1 Z ?_
  refine Lp [0] [1] (fun q=>[(4,I q)]) (fun _=>[]) Y (fun _=>rfl) (Lr [0]) fun q aj f l=>?_
  refine G0 6 Z (Lm Z (Go 3 Z (Ys Z f (fun E f=>?_) (fun E f=>?_))))
  ·refine Gc 2 Z (Qm f ?_)
   obtain rfl:=Oj l f
   exact Gx 1 Z (Qp Z (Lr [0]))
  refine Gc 9 Z (Bd f fun aa F f=>Iz F Z (Go 2 Z ?_))
  refine vX (I (aa.Name.length:Int)) (YE Z Z runUnderlying9 Z) ?_
  refine Go 3 Z (Cn Z f (fun G f=>?_) (fun G f=>?_))
  ·refine Gc 8 Z (Qx f ?_)
   obtain rfl:=Oj l f
   exact Gx 1 Z (Qq (Gx 1 Z (Rt h 2 [])))
  exact Gc 8 Z (Qj f (Lr [0]))
 subst i
 refine Gx 1 Z (TC.le g (Gc 2 Z (Bd h fun m a h=>?_)))
 refine Ct m [0] [1] (fun m=>[(100,.bool m)]) (fun _=>[]) (fun _=>rfl) ?_ (fun env H g=>?_)
 ·refine G0 3 Z (Lm Z (Go 2 Z (Is 59 a Z (fun J a=>?_) (fun J a=>?_))))
  ·exact Go 42 Z (Cl a [0])
  ·refine Go 2 Z (Lm Z (Go 3 Z (Is 65 a Z (fun L a=>?_) (fun L a=>?_))))
   ·exact Go 36 Z (Cl a [0])
   ·refine Go 2 Z (Lm Z (Go 3 Z (Is 71 a Z (fun M a=>?_) (fun M a=>?_))))
    ·exact Go 30 Z (Cl a [0])
    ·refine Go 2 Z (Lm Z (Go 3 Z (Is 77 a Z (fun N a=>?_) (fun N a=>?_))))
     ·exact Go 24 Z (Cl a [0])
     ·refine Go 2 Z (Lm Z (Go 3 Z (Is 83 a Z (fun O a=>?_) (fun O a=>?_))))
      ·exact Go 18 Z (Cl a [0])
      ·refine Go 2 Z (Lm Z (Go 3 Z (Is 89 a Z (fun P a=>?_) (fun P a=>?_))))
       ·exact Go 12 Z (Cl a [0])
       ·refine Go 2 Z (Lm Z (Go 3 Z (Is 95 a Z (fun Q a=>?_) (fun Q a=>?_))))
        ·exact Go 6 Z (Cl a [0])
        ·refine Go 2 Z ?_
         refine vX (I (s.Name.length:Int)) (YE Z Z runUnderlying9 Z) ?_ (gT Z)
         exact Go 3 Z (Cl a [0])
 refine Gx 1 Z (TC.le g (Cn Z h (fun R h=>?_) (fun R h=>?_)))
 ·exact Gc 7 Z (Rt h 2 [])
 exact Gc 6 Z (Cz [] h (k_s _ _ _) Z fun ak ae h=>Go 5 Z (Rt h 2 []))
def F_ik(n:Nat)(a:List Fact)(b:Int):Option Unit:=
  some ()
theorem k_ik(n:Nat)(a:List Fact)(b:Int)(r:Unit)(h:F_ik n a b=some r):
    Csm prog 12 [.rsl 57 (List.map Fact.c a),I b] [] (fun _=>.bool (decide ((a.length:Int)<=b))) r:=by
 refine Qb func12 Z Z Z ?_
 exact G0 8 Z (Lm Z (Go 6 Z (Rt h 4 [])))
def F_dg(n:Nat)(c:List Part)(d:Int)(rec184:(List Part)->Int->Option Int)(a:Int×Int):Option (Ctl (Int×Int) Int):=
  ((bif decide (a.2<(c.length:Int))then some (decide (0<d))else some false):Option Bool).bind fun e=>(bif e then(idx c a.2).bind fun f=>((bif ((f.Parts.length:Int) != 0)then(idx c a.2).bind fun g=>(rec184 g.Parts (IntKind.i64.wrap (d-1))).bind fun b=>some (if a.1<IntKind.i64.wrap (1+b)then IntKind.i64.wrap (1+b)else a.1)else some a.1):Option Int).bind fun h=>some (.cont (h,IntKind.i64.wrap (a.2+1)))else some (.done a.1))
def B_ac(rec184:(List Part)->Int->Option Int)(n:Nat)(b:List Part)(c:Int):Option Int:=
  (iter (F_dg n b c rec184) n (0,0):Option Int).bind fun a=>some a
theorem Qa0(rec184:(List Part)->Int->Option Int)(f:∀(g:List Part) (i:Int) (r:Int),rec184 g i=some r->Csm prog 70 [.rsl 3 (List.map Part.enc g),I i] [] (fun r=>I r) r)(n:Nat)(g:List Part)(i:Int)(r:Int)(h:B_ac rec184 n g i=some r):
    Csm prog 70 [.rsl 3 (List.map Part.enc g),I i] [] (fun r=>I r) r:=by
 refine Qb func70 Z Z Z ?_
 refine G0 16 Z (Bd h fun j x h=>?_)
 refine Ct j [] [] (fun j=>[(5,I j)]) (fun _=>[]) (fun _=>rfl) ?_ (fun env H c=>?_)
 ·refine G0 1 Z ?_
  refine Lp [] [0,1] (fun d=>[(5,I d.1),(6,I d.2)]) (fun _=>[]) x (fun _=>rfl) (Lr []) fun d E a p=>?_
  refine G0 2 Z (Bd a fun k e a=>?_)
  refine Ct k [] [0,1,5,6] (fun k=>[(14,.bool k)]) (fun _=>[]) (fun _=>rfl) ?_ (fun env H c=>?_)
  ·refine G0 3 Z (Lm Z (Go 2 Z (Is 11 e Z (fun q e=>?_) (fun q e=>?_))))
   ·exact Go 4 Z (Cl e [])
   ·exact Go 4 Z (Cl e [])
  refine Gx 1 Z (TC.le c (Ys Z a (fun s a=>?_) (fun s a=>?_)))
  ·refine Gc 2 Z (Qm a ?_)
   obtain rfl:=Oj p a
   exact Gx 1 Z (QA (Lr []))
  refine Gc 8 Z (Bd a fun y t a=>IzE t (Q0 y) Z (Go 2 Z (Lm Z (Go 3 Z (Bd a fun l b a=>?_)))))
  refine Ct l [] [0,1,6] (fun l=>[(5,I l)]) (fun _=>[]) (fun _=>rfl) ?_ (fun env H c=>?_)
  ·refine G0 0 Z (Cn Z b (fun u b=>?_) (fun u b=>?_))
   ·refine Gc 4 Z (Bd b fun z w b=>IzE w (Q0 z) Z (Go 4 Z (Cz [] b (f _ _) Z fun m B b=>Go 1 Z ?_)))
    refine vX (I (if d.1<IntKind.i64.wrap (1+m)then IntKind.i64.wrap (1+m)else d.1)) (OpV.max Z Z Z Z) ?_
    exact Go 2 Z (Cl b [])
   exact Gc 1 Z (Cl b [])
  exact Gx 2 Z (TC.le c (Gc 5 Z (Qj a (Lr []))))
 exact Gx 1 Z (TC.le c (Gc 7 Z (Rt h 4 [])))
def F_ac:Nat->(List Part)->Int->Option Int
  |0=>fun _ _=>none
  |n+1=>B_ac (F_ac n) n
theorem k_ac(n:Nat):∀(a:List Part) (b:Int) (r:Int),F_ac n a b=some r->Csm prog 70 [.rsl 3 (List.map Part.enc a),I b] [] (fun r=>I r) r:=by
  induction n with
  |zero=>intro a b r h;cases h
  |succ n ih=>intro a b r h;exact Qa0 _ ih n a b r h
def F_fo(n:Nat)(b:List Part)(rec185:(List Part)->Option Int)(a:Int×Int):Option (Ctl (Int×Int) Int):=
  ((bif decide (a.2<(b.length:Int))then some (decide (a.1<=256))else some false):Option Bool).bind fun c=>(bif c then(idx b a.2).bind fun d=>(rec185 d.Parts).bind fun e=>some (.cont (IntKind.i64.wrap (a.1+e),IntKind.i64.wrap (a.2+1)))else some (.done a.1))
def B_ah(rec185:(List Part)->Option Int)(n:Nat)(b:List Part):Option Int:=
  (iter (F_fo n b rec185) n ((b.length:Int),0):Option Int).bind fun a=>some (if 257<a then 257 else a)
theorem Qa1(rec185:(List Part)->Option Int)(d:∀(e:List Part) (r:Int),rec185 e=some r->Csm prog 71 [.rsl 3 (List.map Part.enc e)] [] (fun r=>I r) r)(n:Nat)(e:List Part)(r:Int)(h:B_ah rec185 n e=some r):
    Csm prog 71 [.rsl 3 (List.map Part.enc e)] [] (fun r=>I r) r:=by
 refine Qb func71 Z Z Z ?_
 refine G0 8 Z (Lm Z (Go 9 Z (Bd h fun b p h=>?_)))
 refine Ct b [] [] (fun b=>[(3,I b)]) (fun _=>[]) (fun _=>rfl) ?_ (fun env H f=>?_)
 ·refine G0 1 Z ?_
  refine Lp [] [0] (fun g=>[(3,I g.1),(4,I g.2)]) (fun _=>[]) p (fun _=>rfl) (Lr []) fun g t a j=>?_
  refine G0 2 Z (Bd a fun i c a=>?_)
  refine Ct i [] [0,3,4] (fun i=>[(14,.bool i)]) (fun _=>[]) (fun _=>rfl) ?_ (fun env H f=>?_)
  ·refine G0 3 Z (Lm Z (Go 2 Z (Is 11 c Z (fun k c=>?_) (fun k c=>?_))))
   ·exact Go 4 Z (Cl c [])
   ·exact Go 4 Z (Cl c [])
  refine Gx 1 Z (TC.le f (Ys Z a (fun l a=>?_) (fun l a=>?_)))
  ·refine Gc 2 Z (Qm a ?_)
   obtain rfl:=Oj j a
   exact Gx 1 Z (QA (Lr []))
  exact Gc 8 Z (Bd a fun q m a=>IzE m (Q0 q) Z (Go 2 Z (Cz [] a (d _) Z fun u s a=>Go 10 Z (Qj a (Lr [])))))
 refine Gx 1 Z (TC.le f (Gc 3 Z ?_))
 refine vX (I (if 257<b then 257 else b)) (OpV.min Z Z Z Z) ?_
 exact Go 4 Z (Rt h 2 [])
def F_ah:Nat->(List Part)->Option Int
  |0=>fun _=>none
  |n+1=>B_ah (F_ah n) n
theorem k_ah(n:Nat):∀(a:List Part) (r:Int),F_ah n a=some r->Csm prog 71 [.rsl 3 (List.map Part.enc a)] [] (fun r=>I r) r:=by
  induction n with
  |zero=>intro a r h;cases h
  |succ n ih=>intro a r h;exact Qa1 _ ih n a r h
def F_hz(n:Nat)(c:Course)(a:Int):Option (Ctl Int (Ctl Unit Bool)):=
  (bif decide (a<(c.Distances.length:Int))then(idx c.Distances a).bind fun b=>((bif decide (64<(b.Cutoffs.length:Int))then some true else(F_ac n b.Route 17).bind fun d=>(bif decide (16<d)then some true else(F_ah n b.Route).bind fun e=>some (decide (256<e)))):Option Bool).bind fun f=>(bif f then some (.done (.done false))else some (.cont (IntKind.i64.wrap (a+1))))else some (.done (.cont ())))
def F_be(n:Nat)(a:Course):Option Bool:=
  ((bif decide (40<(a.Mats.length:Int))then some true else(bif decide (512<(a.Legs.length:Int))then some true else(bif decide (8<(a.Distances.length:Int))then some true else(bif decide (32<(a.Waves.length:Int))then some true else(bif decide (32<(a.Offences.length:Int))then some true else(bif decide (32<(a.Categories.length:Int))then some true else some (decide (32<(a.Prizes.length:Int))))))))):Option Bool).bind fun d=>(bif d then some false else(iter (F_hz n a) n 0:Option (Ctl Unit Bool)).bind fun c=>match c with|.cont b=>(some true)|.done b=>some b)
theorem k_be(n:Nat)(B:Course)(r:Bool)(h:F_be n B=some r):
    Csm prog 44 [.agg (Course.c B)] [] (fun r=>.bool r) r:=by
 refine Qb func44 Z Z Z ?_
 refine G0 8 Z (Bd h fun k a h=>?_)
 refine Ct k [0] [1] (fun k=>[(44,.bool k)]) (fun _=>[]) (fun _=>rfl) ?_ (fun env H f=>?_)
 ·refine G0 3 Z (Lm Z (Go 2 Z (Is 9 a Z (fun E a=>?_) (fun E a=>?_))))
  ·exact Go 36 Z (Cl a [0])
  ·refine Go 2 Z (Lm Z (Go 3 Z (Is 15 a Z (fun l a=>?_) (fun l a=>?_))))
   ·exact Go 30 Z (Cl a [0])
   ·refine Go 2 Z (Lm Z (Go 3 Z (Is 21 a Z (fun m a=>?_) (fun m a=>?_))))
    ·exact Go 24 Z (Cl a [0])
    ·refine Go 2 Z (Lm Z (Go 3 Z (Is 27 a Z (fun p a=>?_) (fun p a=>?_))))
     ·exact Go 18 Z (Cl a [0])
     ·refine Go 2 Z (Lm Z (Go 3 Z (Is 33 a Z (fun q a=>?_) (fun q a=>?_))))
      ·exact Go 12 Z (Cl a [0])
      ·refine Go 2 Z (Lm Z (Go 3 Z (Is 39 a Z (fun s a=>?_) (fun s a=>?_))))
       ·exact Go 6 Z (Cl a [0])
       ·exact Go 2 Z (Lm Z (Go 3 Z (Cl a [0])))
 refine Gx 1 Z (TC.le f (Cn Z h (fun t h=>?_) (fun t h=>?_)))
 ·exact Gc 7 Z (Rt h 2 [])
 refine Gc 8 Z (Bd h fun F G h=>?_)
 refine CtE (b:=F) [] [] (fun _=>[]) (fun _=>[]) (fun _=>rfl) ?_ (fun L env H J f=>?_)
 ·refine G0 1 Z ?_
  refine Lp [0] [1] (fun j=>[(3,I j)]) (fun _=>[]) G (fun _=>rfl) (Lr [0]) fun j O d g=>?_
  refine G0 6 Z (Lm Z (Go 3 Z (Ys Z d (fun u d=>?_) (fun u d=>?_))))
  ·refine Gc 2 Z (Qm d ?_)
   obtain rfl:=Oj g d
   exact Gx 1 Z (Qp Z (Lr []))
  refine Gc 9 Z (Bd d fun P w d=>Iz w Z (Go 6 Z (Bd d fun i e d=>?_)))
  refine Ct i [0] [1,3] (fun i=>[(72,.bool i)]) (fun _=>[]) (fun _=>rfl) ?_ (fun env H f=>?_)
  ·refine G0 3 Z (Lm Z (Go 2 Z (Is 61 e Z (fun x e=>?_) (fun x e=>?_))))
   ·exact Go 12 Z (Cl e [0])
   ·refine Go 2 Z (Cz [] e (k_ac _ _ _) Z fun Q M e=>Go 3 Z (Is 67 e Z (fun y e=>?_) (fun y e=>?_)))
    ·exact Go 6 Z (Cl e [0])
    ·exact Go 2 Z (Cz [] e (k_ah _ _) Z fun R N e=>Go 3 Z (Cl e [0]))
  refine Gx 1 Z (TC.le f (Cn Z d (fun z d=>?_) (fun z d=>?_)))
  ·refine Gc 8 Z (Qx d ?_)
   obtain rfl:=Oj g d
   exact Gx 1 Z (Qq (Gx 1 Z (Rt h 2 [])))
  exact Gc 8 Z (Qj d (Lr [0]))
 subst J
 exact Gx 1 Z (TC.le f (Gc 6 Z (Rt h 2 [])))
def F_dz(n:Nat)(a:List UInt8):Option Bool:=
  ((bif (a==[99,111,117,114,115,101])then some (a==[99,111,117,114,115,101])else(bif (a==[109,97,116,115])then some (a==[109,97,116,115])else(bif (a==[115,116,97,114,116])then some (a==[115,116,97,114,116])else(bif (a==[112,97,115,115])then some (a==[112,97,115,115])else(bif (a==[101,110,100])then some (a==[101,110,100])else(bif (a==[108,101,103])then some (a==[108,101,103])else(bif (a==[116,111])then some (a==[116,111])else(bif (a==[100,105,115,116,97,110,99,101])then some (a==[100,105,115,116,97,110,99,101])else(bif (a==[103,117,110])then some (a==[103,117,110])else(bif (a==[99,104,105,112])then some (a==[99,104,105,112])else(bif (a==[115,108,111,116])then some (a==[115,108,111,116])else(bif (a==[108,97,112,115])then some (a==[108,97,112,115])else(bif (a==[108,97,112])then some (a==[108,97,112])else(bif (a==[99,117,116,111,102,102])then some (a==[99,117,116,111,102,102])else(bif (a==[101,120,116,114,97])then some (a==[101,120,116,114,97])else(bif (a==[119,97,118,101])then some (a==[119,97,118,101])else(bif (a==[111,102,102,101,110,99,101])then some (a==[111,102,102,101,110,99,101])else(bif (a==[111,117,116])then some (a==[111,117,116])else(bif (a==[99,97,116,101,103,111,114,121])then some (a==[99,97,116,101,103,111,114,121])else(bif (a==[112,114,105,122,101])then some (a==[112,114,105,122,101])else(bif (a==[97,108,108])then some (a==[97,108,108])else some (a==[116,105,101,115])))))))))))))))))))))):Option Bool).bind fun b=>(bif b then some true else((bif (a==[105,102])then some (a==[105,102])else(bif (a==[101,108,115,101])then some (a==[101,108,115,101])else(bif (a==[97,110,100])then some (a==[97,110,100])else(bif (a==[111,114])then some (a==[111,114])else(bif (a==[110,111,116])then some (a==[110,111,116])else(bif (a==[111,108,100,101,114])then some (a==[111,108,100,101,114])else(bif (a==[121,111,117,110,103,101,114])then some (a==[121,111,117,110,103,101,114])else(bif (a==[98,105,98])then some (a==[98,105,98])else(bif (a==[100,114,97,119])then some (a==[100,114,97,119])else(bif (a==[102,105,101,108,100])then some (a==[102,105,101,108,100])else(bif (a==[115,104,111,114,116])then some (a==[115,104,111,114,116])else(bif (a==[102,97,117,108,116,115])then some (a==[102,97,117,108,116,115])else(bif (a==[109,105,115,115,101,115])then some (a==[109,105,115,115,101,115])else(bif (a==[115,116,114,97,121,115])then some (a==[115,116,114,97,121,115])else(bif (a==[119,105,110,100,111,119])then some (a==[119,105,110,100,111,119])else(bif (a==[114,101,115,105,100,117,97,108])then some (a==[114,101,115,105,100,117,97,108])else(bif (a==[100,114,105,102,116])then some (a==[100,114,105,102,116])else(bif (a==[112,114,111,116,101,115,116])then some (a==[112,114,111,116,101,115,116])else(bif (a==[102,101,101])then some (a==[102,101,101])else some (a==[100,101,97,100,108,105,110,101])))))))))))))))))))):Option Bool).bind fun c=>(bif c then some true else some false))
theorem k_dz(n:Nat)(a1:List UInt8)(r:Bool)(h:F_dz n a1=some r):
    Csm prog 139 [.str a1] [] (fun r=>.bool r) r:=by
 refine Qb func139 Z Z Z ?_
 refine G0 19 Z (Bd h fun c a h=>?_)
 refine Ct c [] [3] (fun c=>[(4,.bool c)]) (fun _=>[]) (fun _=>rfl) ?_ (fun env H d=>?_)
 ·refine G0 0 Z (Cn Z a (fun f a=>?_) (fun f a=>?_))
  ·exact Gc 1 Z (Cl a [])
  refine Gc 6 Z (Cn Z a (fun g a=>?_) (fun g a=>?_))
  ·exact Gc 1 Z (Cl a [])
  refine Gc 6 Z (Cn Z a (fun i a=>?_) (fun i a=>?_))
  ·exact Gc 1 Z (Cl a [])
  refine Gc 6 Z (Cn Z a (fun j a=>?_) (fun j a=>?_))
  ·exact Gc 1 Z (Cl a [])
  refine Gc 6 Z (Cn Z a (fun k a=>?_) (fun k a=>?_))
  ·exact Gc 1 Z (Cl a [])
  refine Gc 6 Z (Cn Z a (fun l a=>?_) (fun l a=>?_))
  ·exact Gc 1 Z (Cl a [])
  refine Gc 6 Z (Cn Z a (fun m a=>?_) (fun m a=>?_))
  ·exact Gc 1 Z (Cl a [])
  refine Gc 6 Z (Cn Z a (fun p a=>?_) (fun p a=>?_))
  ·exact Gc 1 Z (Cl a [])
  refine Gc 6 Z (Cn Z a (fun q a=>?_) (fun q a=>?_))
  ·exact Gc 1 Z (Cl a [])
  refine Gc 6 Z (Cn Z a (fun s a=>?_) (fun s a=>?_))
  ·exact Gc 1 Z (Cl a [])
  refine Gc 6 Z (Cn Z a (fun t a=>?_) (fun t a=>?_))
  ·exact Gc 1 Z (Cl a [])
  refine Gc 6 Z (Cn Z a (fun u a=>?_) (fun u a=>?_))
  ·exact Gc 1 Z (Cl a [])
  refine Gc 6 Z (Cn Z a (fun w a=>?_) (fun w a=>?_))
  ·exact Gc 1 Z (Cl a [])
  refine Gc 6 Z (Cn Z a (fun x a=>?_) (fun x a=>?_))
  ·exact Gc 1 Z (Cl a [])
  refine Gc 6 Z (Cn Z a (fun y a=>?_) (fun y a=>?_))
  ·exact Gc 1 Z (Cl a [])
  refine Gc 6 Z (Cn Z a (fun z a=>?_) (fun z a=>?_))
  ·exact Gc 1 Z (Cl a [])
  refine Gc 6 Z (Cn Z a (fun B a=>?_) (fun B a=>?_))
  ·exact Gc 1 Z (Cl a [])
  refine Gc 6 Z (Cn Z a (fun E a=>?_) (fun E a=>?_))
  ·exact Gc 1 Z (Cl a [])
  refine Gc 6 Z (Cn Z a (fun F a=>?_) (fun F a=>?_))
  ·exact Gc 1 Z (Cl a [])
  refine Gc 6 Z (Cn Z a (fun G a=>?_) (fun G a=>?_))
  ·exact Gc 1 Z (Cl a [])
  refine Gc 6 Z (Cn Z a (fun J a=>?_) (fun J a=>?_))
  ·exact Gc 1 Z (Cl a [])
  exact Gc 4 Z (Cl a [])
 refine Gx 1 Z (TC.le d (Cn Z h (fun L h=>?_) (fun L h=>?_)))
 ·exact Gc 8 Z (Rt h 2 [])
 refine Gc 7 Z (Bd h fun e b h=>?_)
 refine Ct e [] [] (fun e=>[(27,.bool e)]) (fun _=>[]) (fun _=>rfl) ?_ (fun env H d=>?_)
 ·refine G0 0 Z (Cn Z b (fun M b=>?_) (fun M b=>?_))
  ·exact Gc 1 Z (Cl b [])
  refine Gc 6 Z (Cn Z b (fun N b=>?_) (fun N b=>?_))
  ·exact Gc 1 Z (Cl b [])
  refine Gc 6 Z (Cn Z b (fun O b=>?_) (fun O b=>?_))
  ·exact Gc 1 Z (Cl b [])
  refine Gc 6 Z (Cn Z b (fun P b=>?_) (fun P b=>?_))
  ·exact Gc 1 Z (Cl b [])
  refine Gc 6 Z (Cn Z b (fun Q b=>?_) (fun Q b=>?_))
  ·exact Gc 1 Z (Cl b [])
  refine Gc 6 Z (Cn Z b (fun R b=>?_) (fun R b=>?_))
  ·exact Gc 1 Z (Cl b [])
  refine Gc 6 Z (Cn Z b (fun T b=>?_) (fun T b=>?_))
  ·exact Gc 1 Z (Cl b [])
  refine Gc 6 Z (Cn Z b (fun V b=>?_) (fun V b=>?_))
  ·exact Gc 1 Z (Cl b [])
  refine Gc 6 Z (Cn Z b (fun W b=>?_) (fun W b=>?_))
  ·exact Gc 1 Z (Cl b [])
  refine Gc 6 Z (Cn Z b (fun X b=>?_) (fun X b=>?_))
  ·exact Gc 1 Z (Cl b [])
  refine Gc 6 Z (Cn Z b (fun Y b=>?_) (fun Y b=>?_))
  ·exact Gc 1 Z (Cl b [])
  refine Gc 6 Z (Cn Z b (fun aa b=>?_) (fun aa b=>?_))
  ·exact Gc 1 Z (Cl b [])
  refine Gc 6 Z (Cn Z b (fun ab b=>?_) (fun ab b=>?_))
  ·exact Gc 1 Z (Cl b [])
  refine Gc 6 Z (Cn Z b (fun ac b=>?_) (fun ac b=>?_))
  ·exact Gc 1 Z (Cl b [])
  refine Gc 6 Z (Cn Z b (fun ad b=>?_) (fun ad b=>?_))
  ·exact Gc 1 Z (Cl b [])
  refine Gc 6 Z (Cn Z b (fun ae b=>?_) (fun ae b=>?_))
  ·exact Gc 1 Z (Cl b [])
  refine Gc 6 Z (Cn Z b (fun af b=>?_) (fun af b=>?_))
  ·exact Gc 1 Z (Cl b [])
  refine Gc 6 Z (Cn Z b (fun ag b=>?_) (fun ag b=>?_))
  ·exact Gc 1 Z (Cl b [])
  refine Gc 6 Z (Cn Z b (fun ah b=>?_) (fun ah b=>?_))
  ·exact Gc 1 Z (Cl b [])
  exact Gc 4 Z (Cl b [])
 refine Gx 1 Z (TC.le d (Cn Z h (fun ai h=>?_) (fun ai h=>?_)))
 ·exact Gc 8 Z (Rt h 2 [])
 exact Gc 9 Z (Rt h 2 [])
def F_ja(n:Nat)(b:List UInt8)(a:Int):Option (Ctl Int (Ctl Unit Bool)):=
  (bif decide (a<(b.length:Int))then((idx b a).bind fun c=>(bif decide ((c.toNat:Int)<97)then(idx b a).bind fun d=>(bif decide ((d.toNat:Int)<48)then(idx b a).bind fun e=>some ((e.toNat:Int) != 95)else(idx b a).bind fun f=>(bif decide (57<(f.toNat:Int))then(idx b a).bind fun g=>some ((g.toNat:Int) != 95)else some false))else(idx b a).bind fun h=>(bif decide (122<(h.toNat:Int))then(idx b a).bind fun i=>(bif decide ((i.toNat:Int)<48)then(idx b a).bind fun j=>some ((j.toNat:Int) != 95)else(idx b a).bind fun k=>(bif decide (57<(k.toNat:Int))then(idx b a).bind fun l=>some ((l.toNat:Int) != 95)else some false))else some false)):Option Bool).bind fun m=>(bif m then some (.done (.done false))else some (.cont (IntKind.i64.wrap (a+1))))else some (.done (.cont ())))
def F_bk(n:Nat)(a:List UInt8):Option Bool:=
  ((bif decide ((a.length:Int)<1)then some true else(bif decide (24<(a.length:Int))then some true else(idx a 0).bind fun d=>(bif decide ((d.toNat:Int)<97)then some true else(idx a 0).bind fun e=>some (decide (122<(e.toNat:Int)))))):Option Bool).bind fun g=>(bif g then some false else(iter (F_ja n a) n 1:Option (Ctl Unit Bool)).bind fun f=>match f with|.cont b=>((F_dz n a).bind fun c=>some (!c))|.done b=>some b)
theorem k_bk(n:Nat)(g:List UInt8)(r:Bool)(h:F_bk n g=some r):
    Csm prog 72 [.str g] [] (fun r=>.bool r) r:=by
 refine Qb func72 Z Z Z ?_
 refine G0 7 Z (Bd h fun L d h=>?_)
 refine Ct L [] [0] (fun L=>[(21,.bool L)]) (fun _=>[]) (fun _=>rfl) ?_ (fun env H e=>?_)
 ·refine G0 2 Z ?_
  refine vX (I (g.length:Int)) (YE Z Z runUnderlying9 Z) ?_
  refine Go 2 Z (Is 7 d Z (fun ae d=>?_) (fun ae d=>?_))
  ·exact Go 15 Z (Cl d [])
  ·refine Go 1 Z ?_
   refine vX (I (g.length:Int)) (YE Z Z runUnderlying9 Z) ?_ (gT Z)
   refine Go 3 Z (Is 12 d Z (fun af d=>?_) (fun af d=>?_))
   ·exact Go 10 Z (Cl d [])
   ·refine Go 1 Z (Bd d fun ag M d=>?_)
    refine vX (.int .u8 (ag.toNat:Int)) (QU M runUnderlying9) ?_ (gT Z)
    refine Go 3 Z (Is 17 d Z (fun N d=>?_) (fun N d=>?_))
    ·exact Go 5 Z (Cl d [])
    ·refine Go 1 Z (Bd d fun ah O d=>?_)
     refine vX (.int .u8 (ah.toNat:Int)) (QU O runUnderlying9) ?_ (gT Z)
     exact Go 3 Z (Cl d [])
 refine Gx 1 Z (TC.le e (Cn Z h (fun P h=>?_) (fun P h=>?_)))
 ·exact Gc 7 Z (Rt h 2 [])
 refine Gc 8 Z (Bd h fun ai aj h=>?_)
 refine CtE (b:=ai) [] [0] (fun _=>[]) (fun _=>[]) (fun _=>rfl) ?_ (fun am env H ak e=>?_)
 ·refine G0 1 Z ?_
  refine Lp [] [0] (fun J=>[(3,I J)]) (fun _=>[]) aj (fun _=>rfl) (Lr []) fun J ao c i=>?_
  refine G0 5 Z ?_
  refine vX (I (g.length:Int)) (YE Z Z runUnderlying9 Z) ?_
  refine Go 3 Z (Ys Z c (fun Q c=>?_) (fun Q c=>?_))
  ·refine Gc 2 Z (Qm c ?_)
   obtain rfl:=Oj i c
   exact Gx 1 Z (Qp Z (Lr []))
  refine Gc 5 Z (Bd c fun f a c=>?_)
  refine Ct f [] [0,3] (fun f=>[(55,.bool f)]) (fun _=>[]) (fun _=>rfl) ?_ (fun env H e=>?_)
  ·refine G0 3 Z (Bd a fun R j a=>?_)
   refine vX (.int .u8 (R.toNat:Int)) (QU j runUnderlying9) ?_
   refine Go 2 Z (Is 32 a Z (fun k a=>?_) (fun k a=>?_))
   ·refine Go 8 Z (Bd a fun T l a=>?_)
    refine vX (.int .u8 (T.toNat:Int)) (QU l runUnderlying9) ?_ (gT Z)
    refine Go 2 Z (Is 43 a Z (fun m a=>?_) (fun m a=>?_))
    ·refine Go 9 Z (Bd a fun V p a=>?_)
     refine vX (.int .u8 (V.toNat:Int)) (QU p runUnderlying9) ?_ (gT Z)
     exact Go 3 Z (Cl a [])
    ·refine Go 2 Z (Bd a fun W q a=>?_)
     refine vX (.int .u8 (W.toNat:Int)) (QU q runUnderlying9) ?_ (gT Z)
     refine Go 4 Z (Is 50 a Z (fun s a=>?_) (fun s a=>?_))
     ·refine Go 2 Z (Bd a fun X t a=>?_)
      refine vX (.int .u8 (X.toNat:Int)) (QU t runUnderlying9) ?_ (gT Z)
      exact Go 3 Z (Cl a [])
     ·exact Go 6 Z (Cl a [])
   ·refine Go 2 Z (Bd a fun Y u a=>?_)
    refine vX (.int .u8 (Y.toNat:Int)) (QU u runUnderlying9) ?_ (gT Z)
    refine Go 3 Z (Is 38 a Z (fun w a=>?_) (fun w a=>?_))
    ·refine Go 2 Z (Bd a fun aa x a=>?_)
     refine vX (.int .u8 (aa.toNat:Int)) (QU x runUnderlying9) ?_ (gT Z)
     refine Go 2 Z (Is 43 a Z (fun y a=>?_) (fun y a=>?_))
     ·refine Go 9 Z (Bd a fun ab z a=>?_)
      refine vX (.int .u8 (ab.toNat:Int)) (QU z runUnderlying9) ?_ (gT Z)
      exact Go 3 Z (Cl a [])
     ·refine Go 2 Z (Bd a fun ac B a=>?_)
      refine vX (.int .u8 (ac.toNat:Int)) (QU B runUnderlying9) ?_ (gT Z)
      refine Go 4 Z (Is 50 a Z (fun E a=>?_) (fun E a=>?_))
      ·refine Go 2 Z (Bd a fun ad F a=>?_)
       refine vX (.int .u8 (ad.toNat:Int)) (QU F runUnderlying9) ?_ (gT Z)
       exact Go 3 Z (Cl a [])
      ·exact Go 6 Z (Cl a [])
    ·exact Go 18 Z (Cl a [])
  refine Gx 1 Z (TC.le e (Cn Z c (fun G c=>?_) (fun G c=>?_)))
  ·refine Gc 8 Z (Qx c ?_)
   obtain rfl:=Oj i c
   exact Gx 1 Z (Qq (Gx 1 Z (Rt h 2 [])))
  exact Gc 8 Z (Qj c (Lr []))
 subst ak
 exact Gx 1 Z (TC.le e (Gc 3 Z (Cz [] h (k_dz _ _) Z fun an al h=>Go 5 Z (Rt h 2 []))))
def F_fm(n:Nat)(c:List (List UInt8))(b:Int)(a:Int):Option (Ctl Int (Ctl Unit (Ctl Int (Ctl Unit Bool)))):=
  (bif decide (a<b)then(idx c a).bind fun d=>(idx c b).bind fun e=>(bif (d==e)then some (.done (.done (.done (.done false))))else some (.cont (IntKind.i64.wrap (a+1))))else some (.done (.cont ())))
def F_jo(n:Nat)(c:List (List UInt8))(a:Int):Option (Ctl Int (Ctl Unit Bool)):=
  (bif decide (a<(c.length:Int))then(idx c a).bind fun d=>(F_bk n d).bind fun e=>(bif (!e)then some (.done (.done false))else(iter (F_fm n c a) n 0:Option (Ctl Unit (Ctl Int (Ctl Unit Bool)))).bind fun f=>match f with|.cont b=>(some (.cont (IntKind.i64.wrap (a+1))))|.done b=>some b)else some (.done (.cont ())))
def F_x(n:Nat)(c:List (List UInt8)):Option Bool:=
  (iter (F_jo n c) n 0:Option (Ctl Unit Bool)).bind fun b=>match b with|.cont a=>(some true)|.done a=>some a
theorem k_x(n:Nat)(u:List (List UInt8))(r:Bool)(h:F_x n u=some r):
    Csm prog 73 [.rsl 1 (List.map Jo u)] [] (fun r=>.bool r) r:=by
 refine Qb func73 Z Z Z ?_
 refine G0 11 Z (Bd h fun w y h=>?_)
 refine CtE (b:=w) [] [] (fun _=>[]) (fun _=>[]) (fun _=>rfl) ?_ (fun G env H e f=>?_)
 ·refine G0 1 Z ?_
  refine Lp [] [0] (fun i=>[(3,I i)]) (fun _=>[]) y (fun _=>rfl) (Lr []) fun i M a d=>?_
  refine G0 5 Z (Lm Z (Go 3 Z (Ys Z a (fun k a=>?_) (fun k a=>?_))))
  ·refine Gc 2 Z (Qm a ?_)
   obtain rfl:=Oj d a
   exact Gx 1 Z (Qp Z (Lr []))
  refine Gc 9 Z (Bd a fun N l a=>Iz l Z (Go 1 Z (Cz [] a (k_bk _ _) Z fun O J a=>Go 3 Z (Cn Z a (fun m a=>?_) (fun m a=>?_)))))
  ·refine Gc 9 Z (Qx a ?_)
   obtain rfl:=Oj d a
   exact Gx 1 Z (Qq (Gx 1 Z (Rt h 2 [])))
  refine Gc 7 Z (Bd a fun z B a=>?_)
  refine CtE (b:=z) [] [0,3] (fun _=>[]) (fun _=>[]) (fun _=>rfl) ?_ (fun L env H e f=>?_)
  ·refine G0 1 Z ?_
   refine Lp [] [0,3] (fun j=>[(4,I j)]) (fun _=>[]) B (fun _=>rfl) (Lr []) fun j P c g=>?_
   refine G0 8 Z (Ys Z c (fun p c=>?_) (fun p c=>?_))
   ·refine Gc 2 Z (Qm c ?_)
    obtain rfl:=Oj g c
    exact Gx 1 Z (Qp Z (Lr []))
   refine Gc 5 Z (DSs 8 Z (D 2 Z ?_))
   obtain⟨E,q,c⟩:=Y3 c
   refine DS.wo (x:=.rp [.str E]) ?_ ?_
   ·exact Ix q runUnderlying150 sizeOf9 Z Wp
   refine D 3 Z ?_
   obtain⟨F,s,c⟩:=Y3 c
   refine DS.wo (x:=.rp [.str F]) ?_ ?_
   ·exact Ix s runUnderlying150 sizeOf9 Z Wp
   refine D 1 Z (DS.done Z (Go 3 Z (Cn Z c (fun t c=>?_) (fun t c=>?_))))
   ·refine Gc 8 Z (Qx c ?_)
    obtain rfl:=Oj g c
    refine Gx 1 Z (Qq (Gx 2 Z (Qx a ?_)))
    obtain rfl:=Oj d a
    exact Gx 1 Z (Qq (Gx 1 Z (Rt h 2 [])))
   exact Gc 8 Z (Qj c (Lr []))
  subst e
  exact Gx 2 Z (TC.le f (Gc 5 Z (Qj a (Lr []))))
 subst e
 exact Gx 1 Z (TC.le f (Gc 6 Z (Rt h 2 [])))
end Go.Sw
