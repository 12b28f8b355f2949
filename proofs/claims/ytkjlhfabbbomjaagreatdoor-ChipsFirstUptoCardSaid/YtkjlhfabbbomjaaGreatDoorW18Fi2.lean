/- What the functions compute that ChipsFirst reaches, and that their calls refine it (part 2 of 3). -/
import Derived.Test.YtkjlhfabbbomjaaGreatDoorW18Fi1
set_option linter.unusedVariables false
set_option linter.unusedSimpArgs false
set_option maxRecDepth 100000
set_option maxHeartbeats 4000000
namespace Go.Sw
open Go.Proofs Tryz
def Q_facts_open_rxk (a1 : Fact) (a2 : Int) : U_facts_open_rxk -> Go.Sw.A -> Heap -> Prop
  | .c0 x, a, H => a = .tup [.agg [.osl 2 0 8 3, .fn (.func 144) [] []], .bool true] /\ H = [.cells 81 (Fact.c a1), .cells 3 [I a2], .rowr 181 3 [[.ptr 0 4, I 1, I 9999], [.ptr 0 5, I 0, I 7], [.ptr 0 6, I 0, I 31], [.ptr 0 7, I (-1099511627776), I 1099511627776], [.ptr 0 8, I 0, I 120], [.ptr 0 9, I 0, I 1048576], [.ptr 0 10, I 0, I 9999], [.ptr 0 11, I 0, I 1048576]], .cells 171 [.osl 2 0 8 3, .fn (.func 144) [] []]]
  | .c1 x, a, H => a = .tup [.agg [.osl 2 0 4 3, .fn (.func 144) [] []], .bool true] /\ H = [.cells 81 (Fact.c a1), .cells 3 [I a2], .rowr 181 3 [[.ptr 0 12, I 0, I 39], [.ptr 0 13, I 0, I 255], [.ptr 0 14, I 0, I 1048576], [.ptr 0 15, I (-1099511627776), I 1099511627776]], .cells 171 [.osl 2 0 4 3, .fn (.func 144) [] []]]
  | .c2 x, a, H => a = .tup [.agg [.osl 2 0 5 3, .fn (.func 144) [] []], .bool true] /\ H = [.cells 81 (Fact.c a1), .cells 3 [I a2], .rowr 181 3 [[.ptr 0 16, I 0, I 39], [.ptr 0 17, I 0, I 255], [.ptr 0 18, I (-1099511627776), I 1099511627776], [.ptr 0 19, I (-1099511627776), I 1099511627776], [.ptr 0 20, I 0, I 1099511627776]], .cells 171 [.osl 2 0 5 3, .fn (.func 144) [] []]]
  | .c3 x, a, H => a = .tup [.agg [.osl 2 0 8 3, .fn (.func 145) [] [.ptr 3 0]], .bool true] /\ H = [.cells 81 (Fact.c a1), .cells 3 [I a2], .rowr 181 3 [[.ptr 0 21, I 0, I 39], [.ptr 0 22, I 0, I 255], [.ptr 0 23, I (-1099511627776), I 1099511627776], [.ptr 0 24, I 0, I 39], [.ptr 0 25, I 0, I 255], [.ptr 0 26, I (-1099511627776), I 1099511627776], [.ptr 0 27, I (-1099511627776), I 1099511627776], [.ptr 0 28, I (-1099511627776), I 1099511627776]], .cells 238 [.ptr 0 21], .cells 171 [.osl 2 0 8 3, .fn (.func 145) [] [.ptr 3 0]]]
  | .c4 x, a, H => a = .tup [.agg [.osl 2 0 4 3, .fn (.func 146) [] [.ptr 3 0]], .bool true] /\ H = [.cells 81 (Fact.c a1), .cells 3 [I a2], .rowr 181 3 [[.ptr 0 29, I 1, I 9999], [.ptr 0 30, I 0, I 255], [.ptr 0 31, I (-1099511627776), I 1099511627776], [.ptr 0 32, I (-1099511627776), I 1099511627776]], .cells 239 [.ptr 0 29], .cells 171 [.osl 2 0 4 3, .fn (.func 146) [] [.ptr 3 0]]]
  | .c5 x, a, H => a = .tup [.agg [.osl 2 0 4 3, .fn (.func 147) [] [.ptr 3 0]], .bool true] /\ H = [.cells 81 (Fact.c a1), .cells 3 [I a2], .rowr 181 3 [[.ptr 0 33, I 0, I 39], [.ptr 0 34, I 0, I 255], [.ptr 0 35, I (-1099511627776), I 1099511627776], [.ptr 0 36, I (-1099511627776), I 1099511627776]], .cells 240 [.ptr 0 33], .cells 171 [.osl 2 0 4 3, .fn (.func 147) [] [.ptr 3 0]]]
  | .c6 x, a, H => a = .tup [.agg [.osl 2 0 2 3, .fn (.func 148) [] [.ptr 3 0]], .bool true] /\ H = [.cells 81 (Fact.c a1), .cells 3 [I a2], .rowr 181 3 [[.ptr 0 37, I 1, I 9999], [.ptr 0 38, I 1, I 9999]], .cells 241 [.ptr 0 37], .cells 171 [.osl 2 0 2 3, .fn (.func 148) [] [.ptr 3 0]]]
  | .c7 x, a, H => a = .tup [.agg [.osl 2 0 4 3, .fn (.func 144) [] []], .bool true] /\ H = [.cells 81 (Fact.c a1), .cells 3 [I a2], .rowr 181 3 [[.ptr 0 39, I 1, I 1048576], [.ptr 0 40, I 1, I 9999], [.ptr 0 41, I 0, I 31], [.ptr 0 42, I 0, I 255]], .cells 171 [.osl 2 0 4 3, .fn (.func 144) [] []]]
  | .c8 x, a, H => a = .tup [.agg [.osl 2 0 4 3, .fn (.func 144) [] []], .bool true] /\ H = [.cells 81 (Fact.c a1), .cells 3 [I a2], .rowr 181 3 [[.ptr 0 43, I 1, I 1048576], [.ptr 0 44, I 0, I 9999], [.ptr 0 45, I 0, I 1125899906842624], [.ptr 0 46, I 0, I 1]], .cells 171 [.osl 2 0 4 3, .fn (.func 144) [] []]]
  | .c9 x, a, H => a = .tup [.agg [.osl 2 0 6 3, .fn (.func 144) [] []], .bool true] /\ H = [.cells 81 (Fact.c a1), .cells 3 [I a2], .rowr 181 3 [[.ptr 0 47, I 1, I 1048576], [.ptr 0 48, I 1, I 2], [.ptr 0 49, I 1, I 5], [.ptr 0 50, I x.1, I x.2.1], [.ptr 0 51, I x.2.2.1, I x.2.2.2.1], [.ptr 0 52, I x.2.2.2.2.1, I x.2.2.2.2.2]], .cells 171 [.osl 2 0 6 3, .fn (.func 144) [] []]]
  | .c10 x, a, H => a = .tup [.agg [.osl 2 0 2 3, .fn (.func 144) [] []], .bool true] /\ H = [.cells 81 (Fact.c a1), .cells 3 [I a2], .rowr 181 3 [[.ptr 0 53, I 1, I 1048576], [.ptr 1 0, I 0, I 1]], .cells 171 [.osl 2 0 2 3, .fn (.func 144) [] []]]
  | .c11 x, a, H => a = .tup [.agg [.nils, .fn (.func 144) [] []], .bool true] /\ H = [.cells 81 (Fact.c a1), .cells 3 [I a2], .cells 171 [.nils, .fn (.func 144) [] []]]
  | .c12 x, a, H => a = .tup [.agg [.osl 2 0 2 3, .fn (.func 144) [] []], .bool true] /\ H = [.cells 81 (Fact.c a1), .cells 3 [I a2], .rowr 181 3 [[.ptr 0 55, I 0, I 31], [.ptr 0 56, I 1, I 1048576]], .cells 171 [.osl 2 0 2 3, .fn (.func 144) [] []]]
  | .c13 x, a, H => a = .tup [.agg [.nils, .nilf], .bool false] /\ H = [.cells 81 (Fact.c a1), .cells 3 [I a2], .cells 171 [.nils, .nilf]]
def F_au (n : Nat) (a1 : Fact) (a2 : Int) : Option U_facts_open_rxk :=
  (bif (a1.Kind == 1) then some (U_facts_open_rxk.c0 ()) else (bif (a1.Kind == 2) then some (U_facts_open_rxk.c1 ()) else (bif (a1.Kind == 3) then some (U_facts_open_rxk.c2 ()) else (bif (a1.Kind == 4) then some (U_facts_open_rxk.c3 ()) else (bif (a1.Kind == 5) then some (U_facts_open_rxk.c4 ()) else (bif (a1.Kind == 6) then some (U_facts_open_rxk.c5 ()) else (bif (a1.Kind == 7) then some (U_facts_open_rxk.c6 ()) else (bif (a1.Kind == 8) then some (U_facts_open_rxk.c7 ()) else (bif (a1.Kind == 9) then some (U_facts_open_rxk.c8 ()) else (bif (a1.Kind == 10) then ((bif (a1.Ruling.Kind == 1) then some (a1.Ruling.Kind == 1) else some (a1.Ruling.Kind == 2)) : Option Bool).bind fun b12 => ((bif b12 then some ({ least := 0, most := 0 : facts_scope }, { least := 0, most := 0 : facts_scope }, { least := 0, most := 0 : facts_scope }) else (bif (a1.Ruling.Kind == 3) then some ({ least := 1, most := 9999 : facts_scope }, { least := 0, most := 255 : facts_scope }, { least := 1, most := 1099511627776 : facts_scope }) else (bif (a1.Ruling.Kind == 4) then some ({ least := 1, most := 9999 : facts_scope }, { least := 0, most := 255 : facts_scope }, { least := 1, most := 64 : facts_scope }) else some ({ least := 1, most := 9999 : facts_scope }, { least := 0, most := 255 : facts_scope }, { least := 0, most := 0 : facts_scope })))) : Option (facts_scope × facts_scope × facts_scope)).bind fun b18 => some (U_facts_open_rxk.c9 (b18.1.least, b18.1.most, b18.2.1.least, b18.2.1.most, b18.2.2.least, b18.2.2.most)) else (bif (a1.Kind == 11) then some (U_facts_open_rxk.c10 ()) else (bif (a1.Kind == 12) then some (U_facts_open_rxk.c11 ()) else (bif (a1.Kind == 13) then some (U_facts_open_rxk.c12 ()) else some (U_facts_open_rxk.c13 ()))))))))))))))
theorem k_au (n : Nat) (a1 : Fact) (a2 : Int) (r : U_facts_open_rxk) (h : F_au n a1 a2 = some r) :
    C prog 82 [.ptr 0 0, .ptr 1 0] [.cells 81 (Fact.c a1), .cells 3 [I a2]] (Q_facts_open_rxk a1 a2 r) := by
 refine Qb func82 Z Z Z ?_
 refine G0 22 Z (Cn Z h (fun hc1 h => ?_) (fun hc1 h => ?_))
 ·refine Gc 9 Z (DSs 40 Z (D 40 Z (DS.done Z ?_)))
  refine vH (Q7 (xs := [.tmp 32, .tmp 37, .tmp 42, .tmp 47, .tmp 52, .tmp 57, .tmp 62, .tmp 67]) Yx Z Z Z Z Z ⟨Z, Z, Z, Z, Z, Z, Z, Z, trivial⟩ Z) ?_
  refine FE Z (Go 8 Z ?_)
  obtain rfl := Oi h
  exact Rx [0,1,3,2] [4,5] Z (Qz Z Z (ResL.cons (Qj isAgg171 sizeOf171 Z Z Z) (ResL.cons ResAt.tmp ResL.nil))) ⟨Z, Z⟩
 refine Gc 6 Z (Cn Z h (fun hc2 h => ?_) (fun hc2 h => ?_))
 ·refine Gc 9 Z (DSs 20 Z (D 20 Z (DS.done Z ?_)))
  refine vH (Q7 (xs := [.tmp 79, .tmp 84, .tmp 89, .tmp 94]) Yx Z Z Z Z Z ⟨Z, Z, Z, Z, trivial⟩ Z) ?_
  refine FE Z (Go 8 Z ?_)
  obtain rfl := Oi h
  exact Rx [0,1,3,2] [4,5] Z (Qz Z Z (ResL.cons (Qj isAgg171 sizeOf171 Z Z Z) (ResL.cons ResAt.tmp ResL.nil))) ⟨Z, Z⟩
 refine Gc 6 Z (Cn Z h (fun hc3 h => ?_) (fun hc3 h => ?_))
 ·refine Gc 9 Z (DSs 25 Z (D 25 Z (DS.done Z ?_)))
  refine vH (Q7 (xs := [.tmp 106, .tmp 111, .tmp 116, .tmp 121, .tmp 126]) Yx Z Z Z Z Z ⟨Z, Z, Z, Z, Z, trivial⟩ Z) ?_
  refine FE Z (Go 8 Z ?_)
  obtain rfl := Oi h
  exact Rx [0,1,3,2] [4,5] Z (Qz Z Z (ResL.cons (Qj isAgg171 sizeOf171 Z Z Z) (ResL.cons ResAt.tmp ResL.nil))) ⟨Z, Z⟩
 refine Gc 6 Z (Cn Z h (fun hc4 h => ?_) (fun hc4 h => ?_))
 ·refine Gc 10 Z (DAs 42 40 [0,0,0,0,0,0,0,0,0,0,0,0,0,0,0,0,0,0,0,0,0,0,0,0,0,0,0,0,0,0,0,0,0,0,0,0,0,0,0,0,1,3] (by kernel_rfl) (Da 40 Z ?_))
  refine Qbq (Q7 (xs := [.tmp 138, .tmp 143, .tmp 148, .tmp 153, .tmp 158, .tmp 163, .tmp 168, .tmp 173]) Yx Z Z Z Z Z ⟨Z, Z, Z, Z, Z, Z, Z, Z, trivial⟩ Z) Z Z (Db 1 Z (DB.done Z (Go 8 Z ?_)))
  obtain rfl := Oi h
  exact Rx [0,1,4,3,2] [4,5] Z (Qz Z Z (ResL.cons (Qj isAgg171 sizeOf171 Z Z Z) (ResL.cons ResAt.tmp ResL.nil))) ⟨Z, Z⟩
 refine Gc 6 Z (Cn Z h (fun hc5 h => ?_) (fun hc5 h => ?_))
 ·refine Gc 10 Z (DAs 22 20 [0,0,0,0,0,0,0,0,0,0,0,0,0,0,0,0,0,0,0,0,1,3] (by kernel_rfl) (Da 20 Z ?_))
  refine Qbq (Q7 (xs := [.tmp 186, .tmp 191, .tmp 196, .tmp 201]) Yx Z Z Z Z Z ⟨Z, Z, Z, Z, trivial⟩ Z) Z Z (Db 1 Z (DB.done Z (Go 8 Z ?_)))
  obtain rfl := Oi h
  exact Rx [0,1,4,3,2] [4,5] Z (Qz Z Z (ResL.cons (Qj isAgg171 sizeOf171 Z Z Z) (ResL.cons ResAt.tmp ResL.nil))) ⟨Z, Z⟩
 refine Gc 6 Z (Cn Z h (fun hc6 h => ?_) (fun hc6 h => ?_))
 ·refine Gc 10 Z (DAs 22 20 [0,0,0,0,0,0,0,0,0,0,0,0,0,0,0,0,0,0,0,0,1,3] (by kernel_rfl) (Da 20 Z ?_))
  refine Qbq (Q7 (xs := [.tmp 214, .tmp 219, .tmp 224, .tmp 229]) Yx Z Z Z Z Z ⟨Z, Z, Z, Z, trivial⟩ Z) Z Z (Db 1 Z (DB.done Z (Go 8 Z ?_)))
  obtain rfl := Oi h
  exact Rx [0,1,4,3,2] [4,5] Z (Qz Z Z (ResL.cons (Qj isAgg171 sizeOf171 Z Z Z) (ResL.cons ResAt.tmp ResL.nil))) ⟨Z, Z⟩
 refine Gc 6 Z (Cn Z h (fun hc7 h => ?_) (fun hc7 h => ?_))
 ·refine Gc 10 Z (DAs 12 10 [0,0,0,0,0,0,0,0,0,0,1,3] (by kernel_rfl) (Da 10 Z ?_))
  refine Qbq (Q7 (xs := [.tmp 242, .tmp 247]) Yx Z Z Z Z Z ⟨Z, Z, trivial⟩ Z) Z Z (Db 1 Z (DB.done Z (Go 8 Z ?_)))
  obtain rfl := Oi h
  exact Rx [0,1,4,3,2] [4,5] Z (Qz Z Z (ResL.cons (Qj isAgg171 sizeOf171 Z Z Z) (ResL.cons ResAt.tmp ResL.nil))) ⟨Z, Z⟩
 refine Gc 6 Z (Cn Z h (fun hc8 h => ?_) (fun hc8 h => ?_))
 ·refine Gc 9 Z (DSs 20 Z (D 20 Z (DS.done Z ?_)))
  refine vH (Q7 (xs := [.tmp 260, .tmp 265, .tmp 270, .tmp 275]) Yx Z Z Z Z Z ⟨Z, Z, Z, Z, trivial⟩ Z) ?_
  refine FE Z (Go 8 Z ?_)
  obtain rfl := Oi h
  exact Rx [0,1,3,2] [4,5] Z (Qz Z Z (ResL.cons (Qj isAgg171 sizeOf171 Z Z Z) (ResL.cons ResAt.tmp ResL.nil))) ⟨Z, Z⟩
 refine Gc 6 Z (Cn Z h (fun hc9 h => ?_) (fun hc9 h => ?_))
 ·refine Gc 9 Z (DSs 20 Z (D 20 Z (DS.done Z ?_)))
  refine vH (Q7 (xs := [.tmp 287, .tmp 292, .tmp 297, .tmp 302]) Yx Z Z Z Z Z ⟨Z, Z, Z, Z, trivial⟩ Z) ?_
  refine FE Z (Go 8 Z ?_)
  obtain rfl := Oi h
  exact Rx [0,1,3,2] [4,5] Z (Qz Z Z (ResL.cons (Qj isAgg171 sizeOf171 Z Z Z) (ResL.cons ResAt.tmp ResL.nil))) ⟨Z, Z⟩
 refine Gc 6 Z (Cn Z h (fun hc10 h => ?_) (fun hc10 h => ?_))
 ·refine Gc 9 Z ?_
  refine QfO 8 3 [310, 311, 312, 16, 17, 18, 1000006, 1000007] [false, false, false, true, true, true, true, true] [[], [], [], [], [], [], [3, 4, 5], [3, 4, 5, 6]] [[], [3], [4], [5], [3, 4], [3, 5], [4, 5], [3, 4, 5], [3, 4, 5, 6], [3, 4, 5, 6, 7]] [[(0, 0), (1, 1), (2, 2), (3, 3), (4, 4), (5, 5), (6, 6), (7, 7), (8, 8), (9, 9)], [(0, 0), (1, 1), (2, 2), (3, 3), (4, 4), (5, 5), (6, 6), (7, 7), (8, 8), (9, 9)], [(0, 0), (1, 1), (2, 2), (3, 3), (4, 4), (5, 5), (6, 6), (7, 7), (8, 8), (9, 9)], [(0, 1), (2, 4), (3, 5), (6, 7)], [(0, 2), (1, 4), (3, 6), (5, 7)], [(0, 3), (1, 5), (2, 6), (4, 7)], [(7, 8)], [(8, 9)]] [.agg [I 1, I 9999], .agg [I 0, I 255], .agg [I 0, I 0], .ptr 3 0, .ptr 4 0, .ptr 5 0, .any, .any] [[.cells 81 (Fact.c a1), .cells 3 [I a2], .cells 171 [.nils, .nilf], .dead, .dead, .dead], [.cells 81 (Fact.c a1), .cells 3 [I a2], .cells 171 [.nils, .nilf], .cells 179 [I 0, I 0], .dead, .dead], [.cells 81 (Fact.c a1), .cells 3 [I a2], .cells 171 [.nils, .nilf], .dead, .cells 179 [I 0, I 0], .dead], [.cells 81 (Fact.c a1), .cells 3 [I a2], .cells 171 [.nils, .nilf], .dead, .dead, .cells 179 [I 0, I 0]], [.cells 81 (Fact.c a1), .cells 3 [I a2], .cells 171 [.nils, .nilf], .cells 179 [I 0, I 0], .cells 179 [I 0, I 0], .dead], [.cells 81 (Fact.c a1), .cells 3 [I a2], .cells 171 [.nils, .nilf], .cells 179 [I 0, I 0], .dead, .cells 179 [I 0, I 0]], [.cells 81 (Fact.c a1), .cells 3 [I a2], .cells 171 [.nils, .nilf], .dead, .cells 179 [I 0, I 0], .cells 179 [I 0, I 0]], [.cells 81 (Fact.c a1), .cells 3 [I a2], .cells 171 [.nils, .nilf], .cells 179 [I 0, I 0], .cells 179 [I 0, I 0], .cells 179 [I 0, I 0]], [.cells 81 (Fact.c a1), .cells 3 [I a2], .cells 171 [.nils, .nilf], .cells 179 [I 1, I 9999], .cells 179 [I 0, I 0], .cells 179 [I 0, I 0]], [.cells 81 (Fact.c a1), .cells 3 [I a2], .cells 171 [.nils, .nilf], .cells 179 [I 1, I 9999], .cells 179 [I 0, I 255], .cells 179 [I 0, I 0]]] ([.cells 81 (Fact.c a1), .cells 3 [I a2], .cells 171 [.nils, .nilf], .cells 179 [I 1, I 9999], .cells 179 [I 0, I 255], .cells 179 [I 0, I 0]]) draws Z Z Z Z Z Z Z ?_ Z ?_
  ·refine OblM.cons (Qe (v0 Z Z) (Qe (v0 Z Z) (Qe (v0 Z Z) (Qe (v0 Z Z) (Qe (v0 Z Z) (Qe (v0 Z Z) (Qe (v0 Z Z) (Qe (v0 Z Z) (Qe (v0 Z Z) (Qe (v0 Z Z) (Qak))))))))))) (OblM.cons (Qe (v0 Z Z) (Qe (v0 Z Z) (Qe (v0 Z Z) (Qe (v0 Z Z) (Qe (v0 Z Z) (Qe (v0 Z Z) (Qe (v0 Z Z) (Qe (v0 Z Z) (Qe (v0 Z Z) (Qe (v0 Z Z) (Qak))))))))))) (OblM.cons (Qe (v0 Z Z) (Qe (v0 Z Z) (Qe (v0 Z Z) (Qe (v0 Z Z) (Qe (v0 Z Z) (Qe (v0 Z Z) (Qe (v0 Z Z) (Qe (v0 Z Z) (Qe (v0 Z Z) (Qe (v0 Z Z) (Qak))))))))))) (OblM.cons ?_ (OblM.cons ?_ (OblM.cons ?_ (OblM.cons ?_ (OblM.cons ?_ (OblM.nil))))))))
   ·refine Qe ?_ (Qe ?_ (Qe ?_ (Qe ?_ (Qak))))
    ·exact OblS.alloc _ 16 179 3 _ Z Z Z Z Z Z Z (OpZ.alloc (v := (.agg [I 0, I 0])) zeroValue179 (zrC Z)) Z
    ·exact OblS.alloc _ 16 179 3 _ Z Z Z Z Z Z Z (OpZ.alloc (v := (.agg [I 0, I 0])) zeroValue179 (zrC Z)) Z
    ·exact OblS.alloc _ 16 179 3 _ Z Z Z Z Z Z Z (OpZ.alloc (v := (.agg [I 0, I 0])) zeroValue179 (zrC Z)) Z
    ·exact OblS.alloc _ 16 179 3 _ Z Z Z Z Z Z Z (OpZ.alloc (v := (.agg [I 0, I 0])) zeroValue179 (zrC Z)) Z
   ·refine Qe ?_ (Qe ?_ (Qe ?_ (Qe ?_ (Qak))))
    ·exact OblS.alloc _ 17 179 4 _ Z Z Z Z Z Z Z (OpZ.alloc (v := (.agg [I 0, I 0])) zeroValue179 (zrC Z)) Z
    ·exact OblS.alloc _ 17 179 4 _ Z Z Z Z Z Z Z (OpZ.alloc (v := (.agg [I 0, I 0])) zeroValue179 (zrC Z)) Z
    ·exact OblS.alloc _ 17 179 4 _ Z Z Z Z Z Z Z (OpZ.alloc (v := (.agg [I 0, I 0])) zeroValue179 (zrC Z)) Z
    ·exact OblS.alloc _ 17 179 4 _ Z Z Z Z Z Z Z (OpZ.alloc (v := (.agg [I 0, I 0])) zeroValue179 (zrC Z)) Z
   ·refine Qe ?_ (Qe ?_ (Qe ?_ (Qe ?_ (Qak))))
    ·exact OblS.alloc _ 18 179 5 _ Z Z Z Z Z Z Z (OpZ.alloc (v := (.agg [I 0, I 0])) zeroValue179 (zrC Z)) Z
    ·exact OblS.alloc _ 18 179 5 _ Z Z Z Z Z Z Z (OpZ.alloc (v := (.agg [I 0, I 0])) zeroValue179 (zrC Z)) Z
    ·exact OblS.alloc _ 18 179 5 _ Z Z Z Z Z Z Z (OpZ.alloc (v := (.agg [I 0, I 0])) zeroValue179 (zrC Z)) Z
    ·exact OblS.alloc _ 18 179 5 _ Z Z Z Z Z Z Z (OpZ.alloc (v := (.agg [I 0, I 0])) zeroValue179 (zrC Z)) Z
   ·refine Qe ?_ (Qak)
    ·refine Om2 Z (sD 3 (sD 0 sN)) ?_
     refine vU (OpU.store Z Z Z sizeOf179 Z Z Z Z Z Z Z) ?_
     exact FE Z Wp
   ·refine Qe ?_ (Qak)
    ·refine Om2 Z (sD 4 (sD 1 sN)) ?_
     refine vU (OpU.store Z Z Z sizeOf179 Z Z Z Z Z Z Z) ?_
     exact FE Z Wp
  refine Go 20 Z (Bd h fun b12 h13 h => ?_)
  refine Ct b12 [0,1,2,3,4,5] [4,15,16,17,18,316] (fun b12 => [(317, .bool b12)]) (fun _ => []) (fun _ => rfl) ?_ (fun env H hle => ?_)
  ·refine G0 0 Z (Cn Z h13 (fun hc14 h13 => ?_) (fun hc14 h13 => ?_))
   ·exact Gc 1 Z (Cl h13 [0,1,2,3,4,5])
   exact Gc 4 Z (Cl h13 [0,1,2,3,4,5])
  refine Gx 1 Z (TC.le hle (Bd h fun b18 h19 h => ?_))
  refine Ct b18 [0,1,2,3,4,5] [4,15,16,17,18] (fun _ => []) (fun b18 => [(3, .cells 179 (facts_scope.c b18.1)), (4, .cells 179 (facts_scope.c b18.2.1)), (5, .cells 179 (facts_scope.c b18.2.2))]) (fun _ => rfl) ?_ (fun env H hle => ?_)
  ·refine G0 0 Z (Cn Z h19 (fun hc20 h19 => ?_) (fun hc20 h19 => ?_))
   ·exact Gc 6 Z (Cl h19 [0,1,2,3,4,5])
   refine Gc 6 Z (Cn Z h19 (fun hc21 h19 => ?_) (fun hc21 h19 => ?_))
   ·exact Gc 4 Z (Cl h19 [0,1,2,3,4,5])
   refine Gc 6 Z (Cn Z h19 (fun hc22 h19 => ?_) (fun hc22 h19 => ?_))
   ·exact Gc 4 Z (Cl h19 [0,1,2,3,4,5])
   exact Gc 1 Z (Cl h19 [0,1,2,3,4,5])
  refine Gx 2 Z (TC.le hle (Gc 1 Z (DSs 30 Z (D 30 Z (DS.done Z ?_)))))
  refine vH (Q7 (xs := [.tmp 332, .tmp 337, .tmp 342, .tmp 347, .tmp 352, .tmp 357]) Yx Z Z Z Z Z ⟨Z, Z, Z, Z, Z, Z, trivial⟩ Z) ?_
  refine FE Z (Go 8 Z ?_)
  obtain rfl := Oi h
  exact Rx [0,1,6,2] [4,5] Z (Qz Z Z (ResL.cons (Qj isAgg171 sizeOf171 Z Z Z) (ResL.cons ResAt.tmp ResL.nil))) ⟨Z, Z⟩
 refine Gc 6 Z (Cn Z h (fun hc23 h => ?_) (fun hc23 h => ?_))
 ·refine Gc 1 Z (DSs 9 Z (D 9 Z (DS.done Z ?_)))
  refine vH (Q7 (xs := [.tmp 367, .tmp 370]) Yx Z Z Z Z Z ⟨Z, Z, trivial⟩ Z) ?_
  refine FE Z (Go 8 Z ?_)
  obtain rfl := Oi h
  exact Rx [0,1,3,2] [4,5] Z (Qz Z Z (ResL.cons (Qj isAgg171 sizeOf171 Z Z Z) (ResL.cons ResAt.tmp ResL.nil))) ⟨Z, Z⟩
 refine Gc 6 Z (Cn Z h (fun hc24 h => ?_) (fun hc24 h => ?_))
 ·refine Gc 10 Z ?_
  obtain rfl := Oi h
  exact Rx [0,1,2] [4,5] Z (Qz Z Z (ResL.cons (Qj isAgg171 sizeOf171 Z Z Z) (ResL.cons ResAt.tmp ResL.nil))) ⟨Z, Z⟩
 refine Gc 6 Z (Cn Z h (fun hc25 h => ?_) (fun hc25 h => ?_))
 ·refine Gc 1 Z (DSs 12 Z (D 12 Z (DS.done Z ?_)))
  refine vH (Q7 (xs := [.tmp 383, .tmp 389]) Yx Z Z Z Z Z ⟨Z, Z, trivial⟩ Z) ?_
  refine FE Z (Go 8 Z ?_)
  obtain rfl := Oi h
  exact Rx [0,1,3,2] [4,5] Z (Qz Z Z (ResL.cons (Qj isAgg171 sizeOf171 Z Z Z) (ResL.cons ResAt.tmp ResL.nil))) ⟨Z, Z⟩
 refine Gc 11 Z ?_
 obtain rfl := Oi h
 exact Rx [0,1,2] [4,5] Z (Qz Z Z (ResL.cons (Qj isAgg171 sizeOf171 Z Z Z) (ResL.cons ResAt.tmp ResL.nil))) ⟨Z, Z⟩
def F_c (n : Nat) : Option Unit :=
  some ()
theorem k_c (n : Nat) (r : Unit) (h : F_c n = some r) :
    Csm prog 144 [] [] (fun _ => .bool true) r := by
 refine Qb func144 Z Z Z ?_
 exact G0 11 Z (Rt h 0 [])
def F_fl (n : Nat) (a1 : Fact) : Option Unit :=
  some ()
theorem k_fl (n : Nat) (a1 : Fact) (r : Unit) (h : F_fl n a1 = some r) :
    Csm prog 145 [.ptr 0 0] [.cells 238 [.ptr 1 21], .cells 81 (Fact.c a1)] (fun _ => .bool (decide (a1.Sync.Min <= a1.Sync.Max))) r := by
 refine Qb func145 Z Z Z ?_
 exact G0 6 Z (DSs 8 Z (D 8 Z (DS.done Z (Go 5 Z (Rt h 1 [0,1])))))
def F_fg (n : Nat) (a1 : Fact) : Option Unit :=
  some ()
theorem k_fg (n : Nat) (a1 : Fact) (r : Unit) (h : F_fg n a1 = some r) :
    Csm prog 146 [.ptr 0 0] [.cells 239 [.ptr 1 29], .cells 81 (Fact.c a1)] (fun _ => .bool (decide (a1.Hand.Lo <= a1.Hand.Hi))) r := by
 refine Qb func146 Z Z Z ?_
 exact G0 6 Z (DSs 8 Z (D 8 Z (DS.done Z (Go 5 Z (Rt h 1 [0,1])))))
def F_ez (n : Nat) (a1 : Fact) : Option Unit :=
  some ()
theorem k_ez (n : Nat) (a1 : Fact) (r : Unit) (h : F_ez n a1 = some r) :
    Csm prog 147 [.ptr 0 0] [.cells 240 [.ptr 1 33], .cells 81 (Fact.c a1)] (fun _ => .bool (decide (a1.Silence.Lo <= a1.Silence.Hi))) r := by
 refine Qb func147 Z Z Z ?_
 exact G0 6 Z (DSs 8 Z (D 8 Z (DS.done Z (Go 5 Z (Rt h 1 [0,1])))))
def F_gb (n : Nat) (a1 : Fact) : Option Unit :=
  some ()
theorem k_gb (n : Nat) (a1 : Fact) (r : Unit) (h : F_gb n a1 = some r) :
    Csm prog 148 [.ptr 0 0] [.cells 241 [.ptr 1 37], .cells 81 (Fact.c a1)] (fun _ => .bool (decide (a1.Pair.A < a1.Pair.B))) r := by
 refine Qb func148 Z Z Z ?_
 exact G0 6 Z (DSs 8 Z (D 8 Z (DS.done Z (Go 5 Z (Rt h 1 [0,1])))))
def F_ar (n : Nat) (a1 : Fact) : Option Unit :=
  some ()
theorem k_ar (n : Nat) (a1 : Fact) (r : Unit) (h : F_ar n a1 = some r) :
    C prog 84 [.ptr 0 0] [.cells 81 (Fact.c a1)] (RQ (fun _ => .osl 1 0 4 3) (fun _ => [.cells 81 (Fact.c a1), .rowr 181 3 [[.ptr 0 3, I 1, I 13], [.ptr 0 0, I 0, I 31], [.ptr 0 1, I 1, I 1048576], [.ptr 0 2, I 0, I 1099511627776]]]) r) := by
 refine Qb func84 Z Z Z ?_
 refine G0 6 Z (DSs 20 Z (D 20 Z (DS.done Z ?_)))
 refine vH (Q7 (xs := [.tmp 7, .tmp 12, .tmp 17, .tmp 22]) Yx Z Z Z Z Z ⟨Z, Z, Z, Z, trivial⟩ Z) ?_
 exact FE Z (Go 4 Z (Rt h 2 [0,1]))
def F_cq (n : Nat) (a1 : Fact) (a2 : Int) (a3 : Fact) : Option (List Ent) :=
  ((F_au n ({ a1 with Kind := a3.Kind : Fact }) a2).bind fun r19 => (match r19 with | .c0 x21 => (some ([⟨false, 4, 1, 9999⟩, ⟨false, 5, 0, 7⟩, ⟨false, 6, 0, 31⟩, ⟨false, 7, (-1099511627776), 1099511627776⟩, ⟨false, 8, 0, 120⟩, ⟨false, 9, 0, 1048576⟩, ⟨false, 10, 0, 9999⟩, ⟨false, 11, 0, 1048576⟩] : List Ent)) | .c1 x22 => (some ([⟨false, 12, 0, 39⟩, ⟨false, 13, 0, 255⟩, ⟨false, 14, 0, 1048576⟩, ⟨false, 15, (-1099511627776), 1099511627776⟩] : List Ent)) | .c2 x23 => (some ([⟨false, 16, 0, 39⟩, ⟨false, 17, 0, 255⟩, ⟨false, 18, (-1099511627776), 1099511627776⟩, ⟨false, 19, (-1099511627776), 1099511627776⟩, ⟨false, 20, 0, 1099511627776⟩] : List Ent)) | .c3 x24 => (some ([⟨false, 21, 0, 39⟩, ⟨false, 22, 0, 255⟩, ⟨false, 23, (-1099511627776), 1099511627776⟩, ⟨false, 24, 0, 39⟩, ⟨false, 25, 0, 255⟩, ⟨false, 26, (-1099511627776), 1099511627776⟩, ⟨false, 27, (-1099511627776), 1099511627776⟩, ⟨false, 28, (-1099511627776), 1099511627776⟩] : List Ent)) | .c4 x25 => (some ([⟨false, 29, 1, 9999⟩, ⟨false, 30, 0, 255⟩, ⟨false, 31, (-1099511627776), 1099511627776⟩, ⟨false, 32, (-1099511627776), 1099511627776⟩] : List Ent)) | .c5 x26 => (some ([⟨false, 33, 0, 39⟩, ⟨false, 34, 0, 255⟩, ⟨false, 35, (-1099511627776), 1099511627776⟩, ⟨false, 36, (-1099511627776), 1099511627776⟩] : List Ent)) | .c6 x27 => (some ([⟨false, 37, 1, 9999⟩, ⟨false, 38, 1, 9999⟩] : List Ent)) | .c7 x28 => (some ([⟨false, 39, 1, 1048576⟩, ⟨false, 40, 1, 9999⟩, ⟨false, 41, 0, 31⟩, ⟨false, 42, 0, 255⟩] : List Ent)) | .c8 x29 => (some ([⟨false, 43, 1, 1048576⟩, ⟨false, 44, 0, 9999⟩, ⟨false, 45, 0, 1125899906842624⟩, ⟨false, 46, 0, 1⟩] : List Ent)) | .c9 x30 => (some ([⟨false, 47, 1, 1048576⟩, ⟨false, 48, 1, 2⟩, ⟨false, 49, 1, 5⟩, ⟨false, 50, x30.1, x30.2.1⟩, ⟨false, 51, x30.2.2.1, x30.2.2.2.1⟩, ⟨false, 52, x30.2.2.2.2.1, x30.2.2.2.2.2⟩] : List Ent)) | .c10 x31 => (some ([⟨false, 53, 1, 1048576⟩, ⟨true, 0, 0, 1⟩] : List Ent)) | .c11 x32 => (some []) | .c12 x33 => (some ([⟨false, 55, 0, 31⟩, ⟨false, 56, 1, 1048576⟩] : List Ent)) | .c13 x34 => (some [])) : Option (List Ent)).bind fun b17 => (F_ar n ({ a1 with Kind := a3.Kind : Fact })).bind fun r35 => (app ([⟨false, 3, 1, 13⟩, ⟨false, 0, 0, 31⟩, ⟨false, 1, 1, 1048576⟩, ⟨false, 2, 0, 1099511627776⟩] : List Ent) b17).bind fun l36 => some l36
theorem k_cq (n : Nat) (a1 : Fact) (a2 : Int) (a3 : Fact) (r : List Ent) (h : F_cq n a1 a2 a3 = some r) :
    C prog 83 [.ptr 0 0, .ptr 1 0, .ptr 2 0] [.cells 81 (Fact.c a1), .cells 3 [I a2], .cells 81 (Fact.c a3)] (RQ (fun r => .osl 3 0 r.length 3) (fun r => [.cells 81 (Fact.c ({ a1 with Kind := a3.Kind : Fact })), .cells 3 [I a2], .cells 81 (Fact.c a3), .ents 181 0 1 r]) r) := by
 refine Qb func83 Z Z Z ?_
 refine G0 16 Z (Bd h fun b17 h18 h => ?_)
 refine Ct b17 [0,1,2,0,0] [0] (fun _ => [(6, .ptr 3 0)]) (fun b17 => [(3, .cells 171 [.osl 4 0 b17.length 3, .any]), (4, .ents 181 0 1 b17)]) (fun _ => rfl) ?_ (fun env H hle => ?_)
 ·refine G0 3 Z (Bd h18 fun r19 hr19 h18 => ?_)
  refine Qy [0, 1] (OpC.fn call82 Z Z Z) (k_au _ _ _ _ hr19) ?_
  intro ra rH h20
  rcases r19 with x21 | x22 | x23 | x24 | x25 | x26 | x27 | x28 | x29 | x30 | x31 | x32 | x33 | x34
  ·obtain ⟨rfl, rfl⟩ := h20
   refine FE Z (TE 3 0 1 Z Z (FE Z (Go 7 Z ?_)))
   cases h18
   refine Qt ?_
   refine Le.trans (Qx (i := 5) (m := 1) Z) ?_
   exact Lr [0, 1, 2, 5, 3]
  ·obtain ⟨rfl, rfl⟩ := h20
   refine FE Z (TE 3 0 1 Z Z (FE Z (Go 7 Z ?_)))
   cases h18
   refine Qt ?_
   refine Le.trans (Qx (i := 5) (m := 1) Z) ?_
   exact Lr [0, 1, 2, 5, 3]
  ·obtain ⟨rfl, rfl⟩ := h20
   refine FE Z (TE 3 0 1 Z Z (FE Z (Go 7 Z ?_)))
   cases h18
   refine Qt ?_
   refine Le.trans (Qx (i := 5) (m := 1) Z) ?_
   exact Lr [0, 1, 2, 5, 3]
  ·obtain ⟨rfl, rfl⟩ := h20
   refine FE Z (TE 3 0 1 Z Z (FE Z (Go 7 Z ?_)))
   cases h18
   refine Qt ?_
   refine Le.trans (Qx (i := 6) (m := 1) Z) ?_
   exact Lr [0, 1, 2, 6, 3]
  ·obtain ⟨rfl, rfl⟩ := h20
   refine FE Z (TE 3 0 1 Z Z (FE Z (Go 7 Z ?_)))
   cases h18
   refine Qt ?_
   refine Le.trans (Qx (i := 6) (m := 1) Z) ?_
   exact Lr [0, 1, 2, 6, 3]
  ·obtain ⟨rfl, rfl⟩ := h20
   refine FE Z (TE 3 0 1 Z Z (FE Z (Go 7 Z ?_)))
   cases h18
   refine Qt ?_
   refine Le.trans (Qx (i := 6) (m := 1) Z) ?_
   exact Lr [0, 1, 2, 6, 3]
  ·obtain ⟨rfl, rfl⟩ := h20
   refine FE Z (TE 3 0 1 Z Z (FE Z (Go 7 Z ?_)))
   cases h18
   refine Qt ?_
   refine Le.trans (Qx (i := 6) (m := 1) Z) ?_
   exact Lr [0, 1, 2, 6, 3]
  ·obtain ⟨rfl, rfl⟩ := h20
   refine FE Z (TE 3 0 1 Z Z (FE Z (Go 7 Z ?_)))
   cases h18
   refine Qt ?_
   refine Le.trans (Qx (i := 5) (m := 1) Z) ?_
   exact Lr [0, 1, 2, 5, 3]
  ·obtain ⟨rfl, rfl⟩ := h20
   refine FE Z (TE 3 0 1 Z Z (FE Z (Go 7 Z ?_)))
   cases h18
   refine Qt ?_
   refine Le.trans (Qx (i := 5) (m := 1) Z) ?_
   exact Lr [0, 1, 2, 5, 3]
  ·obtain ⟨rfl, rfl⟩ := h20
   refine FE Z (TE 3 0 1 Z Z (FE Z (Go 7 Z ?_)))
   cases h18
   refine Qt ?_
   refine Le.trans (Qx (i := 5) (m := 1) Z) ?_
   exact Lr [0, 1, 2, 5, 3]
  ·obtain ⟨rfl, rfl⟩ := h20
   refine FE Z (TE 3 0 1 Z Z (FE Z (Go 7 Z ?_)))
   cases h18
   refine Qt ?_
   refine Le.trans (Qx (i := 5) (m := 1) Z) ?_
   exact Lr [0, 1, 2, 5, 3]
  ·obtain ⟨rfl, rfl⟩ := h20
   refine FE Z (Go 7 Z ?_)
   cases h18
   refine Qt ?_
   refine Le.trans (Qx (i := 4) (m := 1) Z) ?_
   refine Le.trans (Le.phantomE (i := 4) (m := 0) (t := 181) (b1 := 0) (b2 := 1) Z Z Z) ?_
   exact Lr [0, 1, 2, 4, 5]
  ·obtain ⟨rfl, rfl⟩ := h20
   refine FE Z (TE 3 0 1 Z Z (FE Z (Go 7 Z ?_)))
   cases h18
   refine Qt ?_
   refine Le.trans (Qx (i := 5) (m := 1) Z) ?_
   exact Lr [0, 1, 2, 5, 3]
  ·obtain ⟨rfl, rfl⟩ := h20
   refine FE Z (Go 7 Z ?_)
   cases h18
   refine Qt ?_
   refine Le.trans (Qx (i := 4) (m := 1) Z) ?_
   refine Le.trans (Le.phantomE (i := 4) (m := 0) (t := 181) (b1 := 0) (b2 := 1) Z Z Z) ?_
   exact Lr [0, 1, 2, 4, 5]
 refine Gx 1 Z (TC.le hle (Gc 1 Z (DAs 4 1 [0,1,3,3] (by kernel_rfl) (Da 1 Z ?_))))
 obtain ⟨r35, hr35, h⟩ := bnd h
 refine DA.op (x := .osl 5 0 4 3) (H1 := [.cells 81 (Fact.c ({ a1 with Kind := a3.Kind : Fact })), .cells 3 [I a2], .cells 81 (Fact.c a3), .cells 171 [.osl 4 0 b17.length 3, .any], .ents 181 0 1 b17, .rowr 181 3 [[.ptr 0 3, I 1, I 13], [.ptr 0 0, I 0, I 31], [.ptr 0 1, I 1, I 1048576], [.ptr 0 2, I 0, I 1099511627776]]]) ?_ ?_
 ·refine Qy [0] (OpC.fn call84 Z Z Z) (k_ar _ _ _ hr35) ?_
  rintro _ _ ⟨rfl, rfl⟩
  exact FE Z Wp
 refine Db 1 Z ?_
 refine DB.wo2 (x := .osl 4 0 b17.length 3) (Ld isAgg169 Z Wp) (Ld isAgg169 Z Wp) ?_
 refine DB.done Z (TE 5 0 1 Z Z (FE Z (Bd h fun l36 hl36 h => ?_)))
 refine vH (Qep (i := 5) (j := 4) hl36 Yx runUnderlying169 Z) ?_
 exact FE Z (Go 4 Z (Rt h 5 [0,1,2,6]))
def F_ed (n : Nat) (a1 : Fact) (b2 : Int) (l74 : List Ent) (r75 : List Ent) (s102 : (List Int) × Fact × Int × Int) : Option (Ctl ((List Int) × Fact × Int × Int) (Ctl ((List Int) × Fact × Int) ((List Int) × Bool))) :=
  (bif decide (s102.2.2.2 < (l74.length : Int)) then (idx l74 s102.2.2.2).bind fun e106 => (getE (Fact.c a1) b2 e106).bind fun x107 => (bif decide (x107 < e106.lo) then some (.done (.done ([], false))) else (getE (Fact.c a1) b2 e106).bind fun x109 => (bif decide (e106.hi < x109) then some (.done (.done ([], false))) else (idx r75 s102.2.2.2).bind fun e111 => (getE (Fact.c a1) b2 e106).bind fun x112 => (putE Fact.put s102.2.1 s102.2.2.1 e111 x112).bind fun q113 => (getE (Fact.c a1) b2 e106).bind fun x114 => (app s102.1 [x114]).bind fun l115 => some (.cont (l115, q113.1, q113.2, IntKind.i64.wrap (s102.2.2.2 + 1))))) else some (.done (.cont (s102.1, s102.2.1, s102.2.2.1))))
def F_aq (n : Nat) (a1 : Fact) : Option ((List Int) × Bool) :=
  ((bif a1.Appeal.Suspends then some 1 else some 0) : Option Int).bind fun b2 => ((F_au n a1 b2).bind fun r40 => (match r40 with | .c0 x42 => ((F_c n).bind fun r56 => some (.cont ([⟨false, 4, 1, 9999⟩, ⟨false, 5, 0, 7⟩, ⟨false, 6, 0, 31⟩, ⟨false, 7, (-1099511627776), 1099511627776⟩, ⟨false, 8, 0, 120⟩, ⟨false, 9, 0, 1048576⟩, ⟨false, 10, 0, 9999⟩, ⟨false, 11, 0, 1048576⟩] : List Ent))) | .c1 x43 => ((F_c n).bind fun r57 => some (.cont ([⟨false, 12, 0, 39⟩, ⟨false, 13, 0, 255⟩, ⟨false, 14, 0, 1048576⟩, ⟨false, 15, (-1099511627776), 1099511627776⟩] : List Ent))) | .c2 x44 => ((F_c n).bind fun r58 => some (.cont ([⟨false, 16, 0, 39⟩, ⟨false, 17, 0, 255⟩, ⟨false, 18, (-1099511627776), 1099511627776⟩, ⟨false, 19, (-1099511627776), 1099511627776⟩, ⟨false, 20, 0, 1099511627776⟩] : List Ent))) | .c3 x45 => ((F_fl n a1).bind fun r59 => (bif (!(decide (a1.Sync.Min <= a1.Sync.Max))) then some (.done ([], false)) else some (.cont ([⟨false, 21, 0, 39⟩, ⟨false, 22, 0, 255⟩, ⟨false, 23, (-1099511627776), 1099511627776⟩, ⟨false, 24, 0, 39⟩, ⟨false, 25, 0, 255⟩, ⟨false, 26, (-1099511627776), 1099511627776⟩, ⟨false, 27, (-1099511627776), 1099511627776⟩, ⟨false, 28, (-1099511627776), 1099511627776⟩] : List Ent)))) | .c4 x46 => ((F_fg n a1).bind fun r61 => (bif (!(decide (a1.Hand.Lo <= a1.Hand.Hi))) then some (.done ([], false)) else some (.cont ([⟨false, 29, 1, 9999⟩, ⟨false, 30, 0, 255⟩, ⟨false, 31, (-1099511627776), 1099511627776⟩, ⟨false, 32, (-1099511627776), 1099511627776⟩] : List Ent)))) | .c5 x47 => ((F_ez n a1).bind fun r63 => (bif (!(decide (a1.Silence.Lo <= a1.Silence.Hi))) then some (.done ([], false)) else some (.cont ([⟨false, 33, 0, 39⟩, ⟨false, 34, 0, 255⟩, ⟨false, 35, (-1099511627776), 1099511627776⟩, ⟨false, 36, (-1099511627776), 1099511627776⟩] : List Ent)))) | .c6 x48 => ((F_gb n a1).bind fun r65 => (bif (!(decide (a1.Pair.A < a1.Pair.B))) then some (.done ([], false)) else some (.cont ([⟨false, 37, 1, 9999⟩, ⟨false, 38, 1, 9999⟩] : List Ent)))) | .c7 x49 => ((F_c n).bind fun r67 => some (.cont ([⟨false, 39, 1, 1048576⟩, ⟨false, 40, 1, 9999⟩, ⟨false, 41, 0, 31⟩, ⟨false, 42, 0, 255⟩] : List Ent))) | .c8 x50 => ((F_c n).bind fun r68 => some (.cont ([⟨false, 43, 1, 1048576⟩, ⟨false, 44, 0, 9999⟩, ⟨false, 45, 0, 1125899906842624⟩, ⟨false, 46, 0, 1⟩] : List Ent))) | .c9 x51 => ((F_c n).bind fun r69 => some (.cont ([⟨false, 47, 1, 1048576⟩, ⟨false, 48, 1, 2⟩, ⟨false, 49, 1, 5⟩, ⟨false, 50, x51.1, x51.2.1⟩, ⟨false, 51, x51.2.2.1, x51.2.2.2.1⟩, ⟨false, 52, x51.2.2.2.2.1, x51.2.2.2.2.2⟩] : List Ent))) | .c10 x52 => ((F_c n).bind fun r70 => some (.cont ([⟨false, 53, 1, 1048576⟩, ⟨true, 0, 0, 1⟩] : List Ent))) | .c11 x53 => ((F_c n).bind fun r71 => some (.cont [])) | .c12 x54 => ((F_c n).bind fun r72 => some (.cont ([⟨false, 55, 0, 31⟩, ⟨false, 56, 1, 1048576⟩] : List Ent))) | .c13 x55 => (some (.done ([], false)))) : Option (Ctl (List Ent) ((List Int) × Bool))).bind fun b38 => match b38 with | .cont sb38 => ((F_ar n a1).bind fun r73 => (app ([⟨false, 3, 1, 13⟩, ⟨false, 0, 0, 31⟩, ⟨false, 1, 1, 1048576⟩, ⟨false, 2, 0, 1099511627776⟩] : List Ent) sb38).bind fun l74 => (F_cq n ({ z_Fact with Ruling := { z_Ruling with Kind := a1.Ruling.Kind : Ruling } : Fact }) 0 a1).bind fun r75 => (iter (F_ed n a1 b2 l74 r75) n ([], ({ ({ z_Fact with Ruling := { z_Ruling with Kind := a1.Ruling.Kind : Ruling } : Fact }) with Kind := a1.Kind : Fact }), 0, 0) : Option (Ctl ((List Int) × Fact × Int) ((List Int) × Bool))).bind fun b99 => match b99 with | .cont sb99 => (((bif (a1.Kind != 10) then some ({ sb99.2.1 with Ruling := { sb99.2.1.Ruling with Kind := 0 : Ruling } : Fact }) else some sb99.2.1) : Option Fact).bind fun b117 => some (sb99.1, (({ b117 with Appeal := { Case := b117.Appeal.Case, Suspends := (sb99.2.2 == 1) : Appeal } : Fact }) == a1))) | .done sb99 => some sb99) | .done sb38 => some sb38
theorem k_aq (n : Nat) (a1 : Fact) (r : (List Int) × Bool) (h : F_aq n a1 = some r) :
    C prog 49 [.agg (Fact.c a1)] [] (RQ (fun r => .tup [.osl 0 0 r.1.length 1, .bool r.2]) (fun r => [.row 3 1 (List.map (encI .i64) r.1)]) r) := by
 refine Qb func49 Z Z Z ?_
 refine G0 21 Z (Bd h fun b2 h3 h => ?_)
 refine Ct b2 [0,1] [1,2,4] (fun _ => []) (fun b2 => [(1, .cells 3 [I b2])]) (fun _ => rfl) ?_ (fun env H hle => ?_)
 ·refine G0 0 Z (Cn Z h3 (fun hc4 h3 => ?_) (fun hc4 h3 => ?_))
  ·exact Gc 3 Z (Cl h3 [0,1])
  exact Gc 1 Z (Cl h3 [0,1])
 refine Gx 1 Z (TC.le hle (Gc 7 Z (Bd h fun b38 h39 h => ?_)))
 refine Ct3E (b := b38) (fun sb38 => [(1, .ptr 0 0), (2, .nils), (5, .ptr 1 0), (6, .ptr 2 0)]) (fun sb38 => [.cells 81 (Fact.c a1), .cells 81 (Fact.c a1), .cells 171 [.osl 3 0 sb38.length 3, .any], .ents 181 1 4 sb38, .cells 3 [I b2]]) ?_ (fun sb38 env H hb hle => ?_)
 ·refine Gc 1 Z (Bd h39 fun r40 hr40 h39 => ?_)
  refine Qy [2, 1] (OpC.fn call82 Z Z Z) (k_au _ _ _ _ hr40) ?_
  intro ra rH h41
  rcases r40 with x42 | x43 | x44 | x45 | x46 | x47 | x48 | x49 | x50 | x51 | x52 | x53 | x54 | x55
  ·obtain ⟨rfl, rfl⟩ := h41
   refine FE Z (TE 3 2 1 Z Z (FE Z (Go 15 Z (Cz [] h39 (k_c _) Z fun r56 hr56 h39 => Go 6 Z ?_))))
   cases h39
   refine Qh Z ?_
   refine Le.trans (Qx (i := 5) (m := 1) Z) ?_
   exact Lr [0, 2, 5, 3, 1]
  ·obtain ⟨rfl, rfl⟩ := h41
   refine FE Z (TE 3 2 1 Z Z (FE Z (Go 15 Z (Cz [] h39 (k_c _) Z fun r57 hr57 h39 => Go 6 Z ?_))))
   cases h39
   refine Qh Z ?_
   refine Le.trans (Qx (i := 5) (m := 1) Z) ?_
   exact Lr [0, 2, 5, 3, 1]
  ·obtain ⟨rfl, rfl⟩ := h41
   refine FE Z (TE 3 2 1 Z Z (FE Z (Go 15 Z (Cz [] h39 (k_c _) Z fun r58 hr58 h39 => Go 6 Z ?_))))
   cases h39
   refine Qh Z ?_
   refine Le.trans (Qx (i := 5) (m := 1) Z) ?_
   exact Lr [0, 2, 5, 3, 1]
  ·obtain ⟨rfl, rfl⟩ := h41
   refine FE Z (TE 3 2 1 Z Z (FE Z (Go 15 Z (Cz [4, 2] h39 (k_fl _ _) Z fun r59 hr59 h39 => Go 4 Z (Cn Z h39 (fun hc60 h39 => ?_) (fun hc60 h39 => ?_))))))
   ·refine Gc 7 Z ?_
    cases h39
    refine Qi (Gx 1 Z ?_)
    obtain rfl := Oi h
    refine R2 2 3 Z Z ?_
    refine Le.trans (Le.phantom (s := 2) (k := 1) (t := 3) (Nat.le_of_ble_eq_true Z) Z) ?_
    exact Lr [7]
   refine Gc 1 Z ?_
   cases h39
   refine Qh Z ?_
   refine Le.trans (Qx (i := 6) (m := 1) Z) ?_
   exact Lr [0, 2, 6, 3, 1]
  ·obtain ⟨rfl, rfl⟩ := h41
   refine FE Z (TE 3 2 1 Z Z (FE Z (Go 15 Z (Cz [4, 2] h39 (k_fg _ _) Z fun r61 hr61 h39 => Go 4 Z (Cn Z h39 (fun hc62 h39 => ?_) (fun hc62 h39 => ?_))))))
   ·refine Gc 7 Z ?_
    cases h39
    refine Qi (Gx 1 Z ?_)
    obtain rfl := Oi h
    refine R2 2 3 Z Z ?_
    refine Le.trans (Le.phantom (s := 2) (k := 1) (t := 3) (Nat.le_of_ble_eq_true Z) Z) ?_
    exact Lr [7]
   refine Gc 1 Z ?_
   cases h39
   refine Qh Z ?_
   refine Le.trans (Qx (i := 6) (m := 1) Z) ?_
   exact Lr [0, 2, 6, 3, 1]
  ·obtain ⟨rfl, rfl⟩ := h41
   refine FE Z (TE 3 2 1 Z Z (FE Z (Go 15 Z (Cz [4, 2] h39 (k_ez _ _) Z fun r63 hr63 h39 => Go 4 Z (Cn Z h39 (fun hc64 h39 => ?_) (fun hc64 h39 => ?_))))))
   ·refine Gc 7 Z ?_
    cases h39
    refine Qi (Gx 1 Z ?_)
    obtain rfl := Oi h
    refine R2 2 3 Z Z ?_
    refine Le.trans (Le.phantom (s := 2) (k := 1) (t := 3) (Nat.le_of_ble_eq_true Z) Z) ?_
    exact Lr [7]
   refine Gc 1 Z ?_
   cases h39
   refine Qh Z ?_
   refine Le.trans (Qx (i := 6) (m := 1) Z) ?_
   exact Lr [0, 2, 6, 3, 1]
  ·obtain ⟨rfl, rfl⟩ := h41
   refine FE Z (TE 3 2 1 Z Z (FE Z (Go 15 Z (Cz [4, 2] h39 (k_gb _ _) Z fun r65 hr65 h39 => Go 4 Z (Cn Z h39 (fun hc66 h39 => ?_) (fun hc66 h39 => ?_))))))
   ·refine Gc 7 Z ?_
    cases h39
    refine Qi (Gx 1 Z ?_)
    obtain rfl := Oi h
    refine R2 2 3 Z Z ?_
    refine Le.trans (Le.phantom (s := 2) (k := 1) (t := 3) (Nat.le_of_ble_eq_true Z) Z) ?_
    exact Lr [7]
   refine Gc 1 Z ?_
   cases h39
   refine Qh Z ?_
   refine Le.trans (Qx (i := 6) (m := 1) Z) ?_
   exact Lr [0, 2, 6, 3, 1]
  ·obtain ⟨rfl, rfl⟩ := h41
   refine FE Z (TE 3 2 1 Z Z (FE Z (Go 15 Z (Cz [] h39 (k_c _) Z fun r67 hr67 h39 => Go 6 Z ?_))))
   cases h39
   refine Qh Z ?_
   refine Le.trans (Qx (i := 5) (m := 1) Z) ?_
   exact Lr [0, 2, 5, 3, 1]
  ·obtain ⟨rfl, rfl⟩ := h41
   refine FE Z (TE 3 2 1 Z Z (FE Z (Go 15 Z (Cz [] h39 (k_c _) Z fun r68 hr68 h39 => Go 6 Z ?_))))
   cases h39
   refine Qh Z ?_
   refine Le.trans (Qx (i := 5) (m := 1) Z) ?_
   exact Lr [0, 2, 5, 3, 1]
  ·obtain ⟨rfl, rfl⟩ := h41
   refine FE Z (TE 3 2 1 Z Z (FE Z (Go 15 Z (Cz [] h39 (k_c _) Z fun r69 hr69 h39 => Go 6 Z ?_))))
   cases h39
   refine Qh Z ?_
   refine Le.trans (Qx (i := 5) (m := 1) Z) ?_
   exact Lr [0, 2, 5, 3, 1]
  ·obtain ⟨rfl, rfl⟩ := h41
   refine FE Z (TE 3 2 1 Z Z (FE Z (Go 15 Z (Cz [] h39 (k_c _) Z fun r70 hr70 h39 => Go 6 Z ?_))))
   cases h39
   refine Qh Z ?_
   refine Le.trans (Qx (i := 5) (m := 1) Z) ?_
   exact Lr [0, 2, 5, 3, 1]
  ·obtain ⟨rfl, rfl⟩ := h41
   refine FE Z (Go 15 Z (Cz [] h39 (k_c _) Z fun r71 hr71 h39 => Go 6 Z ?_))
   cases h39
   refine Qh Z ?_
   refine Le.trans (Qx (i := 4) (m := 1) Z) ?_
   refine Le.trans (Le.phantomE (i := 4) (m := 0) (t := 181) (b1 := 2) (b2 := 1) Z Z Z) ?_
   exact Lr [0, 2, 4, 5, 1]
  ·obtain ⟨rfl, rfl⟩ := h41
   refine FE Z (TE 3 2 1 Z Z (FE Z (Go 15 Z (Cz [] h39 (k_c _) Z fun r72 hr72 h39 => Go 6 Z ?_))))
   cases h39
   refine Qh Z ?_
   refine Le.trans (Qx (i := 5) (m := 1) Z) ?_
   exact Lr [0, 2, 5, 3, 1]
  ·obtain ⟨rfl, rfl⟩ := h41
   refine FE Z (Go 28 Z ?_)
   cases h39
   refine Qi (Gx 1 Z ?_)
   obtain rfl := Oi h
   refine R2 2 3 Z Z ?_
   refine Le.trans (Le.phantom (s := 2) (k := 1) (t := 3) (Nat.le_of_ble_eq_true Z) Z) ?_
   exact Lr [5]
 subst hb
 refine Gx 1 Z (TC.le hle (Gc 12 Z (DAs 3 0 [1,3,3] (by kernel_rfl) ?_)))
 obtain ⟨r73, hr73, h⟩ := bnd h
 refine DA.op (x := .osl 6 0 4 3) (H1 := [.cells 81 (Fact.c a1), .cells 81 (Fact.c a1), .cells 171 [.osl 3 0 sb38.length 3, .any], .ents 181 1 4 sb38, .cells 3 [I b2], .cells 81 (Fact.c z_Fact), .rowr 181 3 [[.ptr 1 3, I 1, I 13], [.ptr 1 0, I 0, I 31], [.ptr 1 1, I 1, I 1048576], [.ptr 1 2, I 0, I 1099511627776]]]) ?_ ?_
 ·refine Qy [1] (OpC.fn call84 Z Z Z) (k_ar _ _ _ hr73) ?_
  rintro _ _ ⟨rfl, rfl⟩
  exact FE Z Wp
 refine Db 1 Z ?_
 refine DB.wo2 (x := .osl 3 0 sb38.length 3) (Ld isAgg169 Z Wp) (Ld isAgg169 Z Wp) ?_
 refine DB.done Z (TE 6 1 4 Z Z (FE Z (Bd h fun l74 hl74 h => ?_)))
 refine vH (Qep (i := 6) (j := 3) hl74 Yx runUnderlying169 Z) ?_
 refine FE Z (Go 22 Z (Cd [5, 8, 0] h (k_cq _ _ _ _) Z fun r75 hr75 h => FE Z (Go 11 Z (Bd h fun b99 h100 h => ?_))))
 refine CtE (b := b99) [0,1,2,3] [1] (fun sb99 => [(2, .osl 1 0 sb99.1.length 1), (7, .ptr 2 0), (10, .ptr 3 0)]) (fun sb99 => [(1, .row 3 1 (List.map (encI .i64) sb99.1)), (2, .cells 81 (Fact.c sb99.2.1)), (3, .cells 3 [I sb99.2.2])]) (fun _ => rfl) ?_ (fun sb99 env H hbe hle => ?_)
 ·refine G0 1 Z ?_
  refine Lp [0,0,5,8,9,7,1,4] [1,7,10,11,42,43] (fun s102 => [(2, .osl 1 0 s102.1.length 1), (44, I s102.2.2.2)]) (fun s102 => [(1, .row 3 1 (List.map (encI .i64) s102.1)), (2, .cells 81 (Fact.c s102.2.1)), (3, .cells 3 [I s102.2.2.1]), (4, .ents 181 2 3 r75), (5, .ents 181 6 7 l74)]) h100 (fun _ => rfl) ?_ ?_
  ·refine Le.trans (Le.phantom (s := 2) (k := 1) (t := 3) (Nat.le_of_ble_eq_true Z) Z) ?_
   exact Lr [0, 10, 5, 8, 9, 7, 1, 4]
  intro s102 d103 h104 hb101
  refine G0 6 Z (Q1 Z h104 (fun hc105 h104 => ?_) (fun hc105 h104 => ?_))
  ·refine Gc 2 Z (Qg h104 ?_)
   obtain rfl := Oj hb101 h104
   exact Gx 1 Z (Qh Z (Lr [0, 1, 2, 3]))
  refine Gc 7 Z (Bd h104 fun e106 he106 h104 => ?_)
  refine vX (.ptr 5 (Int.toNat s102.2.2.2 * 3)) (QS he106 Z runUnderlying169 sizeOf181) ?_
  refine vX (.agg [entP 6 7 e106, I e106.lo, I e106.hi]) (Ql Z isAgg181 sizeOf181 Z (Pts.ents (f := 0) (Qal he106).2) Z Z) ?_
  refine Go 7 Z (DSs 16 Z (D 2 Z ?_))
  refine DS.wo (x := entP 6 7 e106) ?_ ?_
  ·exact S Z Wp
  obtain ⟨x107, hx107, h104⟩ := bnd h104
  refine DS.v (x := (I x107)) (Qby hx107 isAgg3) ?_
  refine D 5 Z (QfY 8 h104 Z Z Z (fun hg108 h104 => ?_) (fun hg108 h104 => ?_))
  ·refine D 7 Z (DS.done Z (Go 15 Z (Qk h104 ?_)))
   obtain rfl := Oj hb101 h104
   refine Gx 1 Z (Qi (Gx 1 Z ?_))
   obtain rfl := Oi h
   refine R2 2 3 Z Z ?_
   refine Le.trans (Le.phantom (s := 2) (k := 1) (t := 3) (Nat.le_of_ble_eq_true Z) Z) ?_
   exact Lr [9]
  ·refine D 2 Z ?_
   refine DS.wo (x := entP 6 7 e106) ?_ ?_
   ·exact Sg (gT Z) Z Wp
   obtain ⟨x109, hx109, h104⟩ := bnd h104
   refine DS.v (x := (I x109)) (Qby hx109 isAgg3) ?_ (hg := (gT Z))
   refine D 3 Z (DS.done Z (Go 4 Z (Cn Z h104 (fun hc110 h104 => ?_) (fun hc110 h104 => ?_))))
   ·refine Gc 10 Z (Qk h104 ?_)
    obtain rfl := Oj hb101 h104
    refine Gx 1 Z (Qi (Gx 1 Z ?_))
    obtain rfl := Oi h
    refine R2 2 3 Z Z ?_
    refine Le.trans (Le.phantom (s := 2) (k := 1) (t := 3) (Nat.le_of_ble_eq_true Z) Z) ?_
    exact Lr [9]
   refine Gc 3 Z (DSs 9 Z (D 2 Z ?_))
   obtain ⟨e111, he111, h104⟩ := bnd h104
   refine DS.v (x := (.ptr 4 (Int.toNat s102.2.2.2 * 3))) (QS he111 Z runUnderlying169 sizeOf181) ?_
   refine DS.wo (x := .ptr 4 (Int.toNat s102.2.2.2 * 3)) ?_ ?_
   ·exact Fp Qiw Z Wp
   refine DS.v (x := (entP 2 3 e111)) (OpV.load Z isAgg175 Z (Pts.ents (f := 0) (Qal he111).2)) ?_
   refine D 2 Z ?_
   refine DS.wo (x := entP 6 7 e106) ?_ ?_
   ·exact S Z Wp
   obtain ⟨x112, hx112, h104⟩ := bnd h104
   refine DS.v (x := (I x112)) (Qby hx112 isAgg3) ?_
   refine DS.done Z (S Z (Bd h104 fun q113 hq113 h104 => ?_))
   refine vU (QgA (c := Fact.c) (f := s102.2.1) (f' := q113.1) (s' := q113.2) hq113 QjR sizeOf3) ?_
   refine Qgu (H := [_, _, .cells 81 (Fact.c q113.1), .cells 3 [I q113.2], _, _, _, _, _]) Z ?_
   refine Go 6 Z (S Z (Bd h104 fun x114 hx114 h104 => ?_))
   refine vX (I x114) (Qby hx114 isAgg3) ?_
   refine vH (OpH.lit (xs := [.tmp 81]) (es := List.map (encI .i64) [x114]) QJ Z Z Z Z Z ⟨Z, trivial⟩ Z Z) ?_
   refine aV (.osl 9 0 ([x114].length) 1) [_, _, _, _, _, _, _, _, _, .row 3 1 (List.map (encI .i64) [x114])] Z Z ?_
   refine Bd h104 fun l115 hl115 h104 => ?_
   refine vH (QF (e := (encI .i64)) hl115 QJ runUnderlying48 (Yg (i := 9))) ?_
   refine aV (.osl 10 0 l115.length 1) [_, .dead, _, _, _, _, _, _, _, _, .row 3 1 (List.map (encI .i64) l115)] Z Z ?_
   exact Go 8 Z (Qf h104 (Lr [0, 10, 2, 3, 4, 5, 6, 7]))
 subst hbe
 refine Gx 1 Z (TC.le hle (Gc 8 Z (Bd h fun b117 h118 h => ?_)))
 refine Ct b117 [0,1,2,3] [1,2,7,10] (fun _ => []) (fun b117 => [(2, .cells 81 (Fact.c b117))]) (fun _ => rfl) ?_ (fun env H hle => ?_)
 ·refine G0 0 Z (Cn Z h118 (fun hc119 h118 => ?_) (fun hc119 h118 => ?_))
  ·exact Gc 5 Z (Cl h118 [0,1,2,3])
  exact Gc 1 Z (Cl h118 [0,1,2,3])
 refine Gx 1 Z (TC.le hle (Gc 10 Z ?_))
 refine TC.draw0 5 [94, 95, 96, 97, 2] [.osl 1 0 sb99.1.length 1, .agg (Fact.c ({ b117 with Appeal := { Case := b117.Appeal.Case, Suspends := (sb99.2.2 == 1) : Appeal } : Fact })), .agg (Fact.c a1), .bool (({ b117 with Appeal := { Case := b117.Appeal.Case, Suspends := (sb99.2.2 == 1) : Appeal } : Fact }) == a1), .osl 1 0 sb99.1.length 1] draws Z Z Z ?_ ?_
 ·refine Oq.c ?_ (ov (ov (Oq.c ?_ (ov (Oq.n)))))
  ·refine Om Z (sP 4 sN) ?_
   exact S Z Wp
  ·refine Om Z (sD 1 (sD 2 sN)) ?_
   refine vX (.bool (({ b117 with Appeal := { Case := b117.Appeal.Case, Suspends := (sb99.2.2 == 1) : Appeal } : Fact }) == a1)) (Qcx (p := { b117 with Appeal := { Case := b117.Appeal.Case, Suspends := (sb99.2.2 == 1) : Appeal } : Fact }) (q := a1) Qkc Z Z) ?_
   exact Wp
 refine Go 4 Z ?_
 obtain rfl := Oi h
 exact R2 2 3 Z Z (Lr [1])
def F_w (n : Nat) (a1 : Fact) : Option Int :=
  (F_aq n a1).bind fun r1 => (bif (!r1.2) then some 120 else some 0)
theorem k_w (n : Nat) (a1 : Fact) (r : Int) (h : F_w n a1 = some r) :
    Csm prog 26 [.agg (Fact.c a1)] [] (fun r => I r) r := by
 refine Qb func26 Z Z Z ?_
 refine G0 10 Z (Cd [] h (k_aq _ _) Z fun r1 hr1 h => FE Z (Go 13 Z (Cn Z h (fun hc2 h => ?_) (fun hc2 h => ?_))))
 ·exact Gc 7 Z (Rt h 2 [])
 exact Gc 8 Z (Rt h 2 [])
def F_bc (n : Nat) (a1 : Int) : Option Unit :=
  some ()
theorem k_bc (n : Nat) (a1 : Int) (r : Unit) (h : F_bc n a1 = some r) :
    Csm prog 67 [I a1] [] (fun _ => .bool (a1 != a1)) r := by
 refine Qb func67 Z Z Z ?_
 exact G0 14 Z (Rt h 2 [])
def F_u (n : Nat) (a1 : Int) (a2 : Int) : Option Int :=
  (F_bc n a1).bind fun r1 => (F_bc n a2).bind fun r2 => (bif (a1 != a1) then (bif (a2 != a2) then some 0 else some (-1)) else (bif (a2 != a2) then some 1 else (bif decide (a1 < a2) then some (-1) else (bif decide (a2 < a1) then some 1 else some 0))))
theorem k_u (n : Nat) (a1 : Int) (a2 : Int) (r : Int) (h : F_u n a1 a2 = some r) :
    Csm prog 41 [I a1, I a2] [] (fun r => I r) r := by
 refine Qb func41 Z Z Z ?_
 refine G0 8 Z (Cz [] h (k_bc _ _) Z fun r1 hr1 h => Go 6 Z (Cz [] h (k_bc _ _) Z fun r2 hr2 h => Go 9 Z (Cn Z h (fun hc3 h => ?_) (fun hc3 h => ?_))))
 ·refine Gc 6 Z (Cn Z h (fun hc4 h => ?_) (fun hc4 h => ?_))
  ·exact Gc 8 Z (Rt h 4 [])
  exact Gc 9 Z (Rt h 4 [])
 refine Gc 8 Z (Cn Z h (fun hc5 h => ?_) (fun hc5 h => ?_))
 ·exact Gc 7 Z (Rt h 4 [])
 refine Gc 10 Z (Cn Z h (fun hc6 h => ?_) (fun hc6 h => ?_))
 ·exact Gc 7 Z (Rt h 4 [])
 refine Gc 10 Z (Cn Z h (fun hc7 h => ?_) (fun hc7 h => ?_))
 ·exact Gc 7 Z (Rt h 4 [])
 exact Gc 8 Z (Rt h 4 [])
def F_eu (n : Nat) (a1 : List Int) (s11 : Int) : Option (Ctl Int (Ctl Unit Int)) :=
  (bif decide (s11 < (a1.length : Int)) then (idx a1 s11).bind fun x15 => (bif (x15 != 0) then some (.done (.done x15)) else some (.cont (IntKind.i64.wrap (s11 + 1)))) else some (.done (.cont ())))
def F_ax (n : Nat) (a1 : List Int) : Option Int :=
  (iter (F_eu n a1) n 0 : Option (Ctl Unit Int)).bind fun b8 => match b8 with | .cont sb8 => (some 0) | .done sb8 => some sb8
theorem k_ax (n : Nat) (a1 : List Int) (r : Int) (h : F_ax n a1 = some r) :
    Csm prog 40 [.rsl 1 (List.map (encI .i64) a1)] [] (fun r => I r) r := by
 refine Qb func40 Z Z Z ?_
 refine G0 14 Z (Lm Z (Go 3 Z (Bd h fun b8 h9 h => ?_)))
 refine CtE (b := b8) [] [3] (fun _ => []) (fun _ => []) (fun _ => rfl) ?_ (fun sb8 env H hbe hle => ?_)
 ·refine G0 1 Z ?_
  refine Lp [] [3,6,7] (fun s11 => [(8, I s11)]) (fun _ => []) h9 (fun _ => rfl) (Lr []) fun s11 d12 h13 hb10 => ?_
  refine G0 6 Z (Q1 Z h13 (fun hc14 h13 => ?_) (fun hc14 h13 => ?_))
  ·refine Gc 2 Z (Qg h13 ?_)
   obtain rfl := Oj hb10 h13
   exact Gx 1 Z (Qh Z (Lr []))
  refine Gc 6 Z (Bd h13 fun x15 hx15 h13 => Iz hx15 Z (Go 11 Z (Cn Z h13 (fun hc16 h13 => ?_) (fun hc16 h13 => ?_))))
  ·refine Gc 9 Z (Qk h13 ?_)
   obtain rfl := Oj hb10 h13
   exact Gx 1 Z (Qi (Gx 1 Z (Rt h 2 [])))
  exact Gc 7 Z (Qf h13 (Lr []))
 subst hbe
 exact Gx 1 Z (TC.le hle (Gc 7 Z (Rt h 2 [])))
def F_ht (n : Nat) (a1 : Value) (rec137 : Value -> Option (Int × Bool)) (s47 : Int × Int) : Option (Ctl (Int × Int) (Ctl Int (Int × Bool))) :=
  (bif decide (s47.2 < (a1.L.length : Int)) then (idx a1.L s47.2).bind fun x51 => (rec137 x51).bind fun r52 => (bif (!r52.2) then some (.done (.done (0, false))) else some (.cont ((if s47.1 < r52.1 then r52.1 else s47.1), IntKind.i64.wrap (s47.2 + 1)))) else some (.done (.cont s47.1)))
def B_p (rec137 : Value -> Option (Int × Bool)) (n : Nat) (a1 : Value) : Option (Int × Bool) :=
  ((bif (a1.S == []) then (bif (a1.N == 0) then (arr 4 (List.replicate 4 false)).bind fun l16 => (arr 4 ([false, ((a1.L.length : Int) == 0), ((a1.L.length : Int) == 0), (a1.S == [])] : List Bool)).bind fun l17 => some l17 else (arr 4 (List.replicate 4 false)).bind fun l18 => (arr 4 ([false, ((a1.L.length : Int) == 0), false, false] : List Bool)).bind fun l19 => some l19) else (bif (a1.N == 0) then (arr 4 (List.replicate 4 false)).bind fun l21 => (arr 4 ([false, false, ((a1.L.length : Int) == 0), (a1.S == [])] : List Bool)).bind fun l22 => some l22 else (arr 4 (List.replicate 4 false)).bind fun l23 => (arr 4 ([false, false, false, false] : List Bool)).bind fun l24 => some l24)) : Option (List Bool)).bind fun b12 => ((bif decide (a1.Kind < 1) then some true else (bif decide (3 < a1.Kind) then some true else (idxA 4 b12 a1.Kind).bind fun x32 => some (!x32))) : Option Bool).bind fun b28 => (bif b28 then some (0, false) else (bif decide (a1.Kind < 3) then some (0, true) else (iter (F_ht n a1 rec137) n (0, 0) : Option (Ctl Int (Int × Bool))).bind fun b44 => match b44 with | .cont sb44 => (some (IntKind.i64.wrap (sb44 + 1), true)) | .done sb44 => some sb44))
theorem Qcl (rec137 : Value -> Option (Int × Bool)) (hrec137 : ∀ (a1 : Value) (r : Int × Bool), rec137 a1 = some r -> Csm prog 200 [.agg (Value.c a1)] [] (fun r => .tup [I r.1, .bool r.2]) r) (n : Nat) (a1 : Value) (r : Int × Bool) (h : B_p rec137 n a1 = some r) :
    Csm prog 200 [.agg (Value.c a1)] [] (fun r => .tup [I r.1, .bool r.2]) r := by
 refine Qb func200 Z Z Z ?_
 refine G0 8 Z (Bd h fun b12 h13 h => ?_)
 refine Ct b12 [0,0] [1,2] (fun _ => [(4, .ptr 1 0)]) (fun b12 => [(1, .row 314 1 (List.map encB b12))]) (fun _ => rfl) ?_ (fun env H hle => ?_)
 ·refine G0 5 Z (Is 12 h13 Z (fun hg14 h13 => ?_) (fun hg14 h13 => ?_))
  ·refine Go 2 Z (Lm Z (Go 6 Z (Is 21 h13 Z (fun hg15 h13 => ?_) (fun hg15 h13 => ?_))))
   ·refine Go 2 Z (Lm Z (Go 6 Z (Fpg (gT hg15) Qfv Z (Ldg (gT hg15) isAgg9 Z ?_))))
    refine vX (.bool (a1.S == [])) (Qcw Z Z Z ) ?_ (gT hg15)
    refine Pk hg15 Z ?_
    refine vV (x := (.agg (List.flatten (List.map encB ([false, ((a1.L.length : Int) == 0), ((a1.L.length : Int) == 0), (a1.S == [])] : List Bool))))) (YI (n := 4) (k := 1) (zs := [.bool false, .bool false, .bool false, .bool false]) zeroValue314 (ZR.agg (zc ZR.bool (zc ZR.bool (zc ZR.bool (zc ZR.bool ZL.nil))))) runUnderlying314 sizeOf4 Z) ?_
    refine vH (Yr (n := 4) (k := 1) (e := encB) (z := false) zeroValue314 (by kernel_rfl) (by kernel_rfl) (by kernel_rfl) Z) ?_
    refine FE Z (Bd h13 fun l16 hl16 h13 => Bd h13 fun l17 hl17 h13 => ?_)
    obtain ⟨hll16, rfl⟩ := Yz hl16
    refine vU (Yq (e := encB) (l := (List.replicate 4 false)) (l' := l17) hll16 (Qa3 hl17) (fun _ => rfl) Z sizeOf314 (fun _ => rfl) (fun _ => rfl) (congrArg (fun l => List.flatten (List.map encB l)) (Yz hl17).2.symm)) ?_
    exact FE Z (Go 1 Z (Cl h13 [0,1]))
   ·refine Go 9 Z (KF hg15 Z (KF hg15 Z (KF hg15 Z (Pk hg15 Z ?_))))
    refine vV (x := (.agg (List.flatten (List.map encB ([false, ((a1.L.length : Int) == 0), false, false] : List Bool))))) (YI (n := 4) (k := 1) (zs := [.bool false, .bool false, .bool false, .bool false]) zeroValue314 (ZR.agg (zc ZR.bool (zc ZR.bool (zc ZR.bool (zc ZR.bool ZL.nil))))) runUnderlying314 sizeOf4 Z) ?_
    refine vH (Yr (n := 4) (k := 1) (e := encB) (z := false) zeroValue314 (by kernel_rfl) (by kernel_rfl) (by kernel_rfl) Z) ?_
    refine FE Z (Bd h13 fun l18 hl18 h13 => Bd h13 fun l19 hl19 h13 => ?_)
    obtain ⟨hll18, rfl⟩ := Yz hl18
    refine vU (Yq (e := encB) (l := (List.replicate 4 false)) (l' := l19) hll18 (Qa3 hl19) (fun _ => rfl) Z sizeOf314 (fun _ => rfl) (fun _ => rfl) (congrArg (fun l => List.flatten (List.map encB l)) (Yz hl19).2.symm)) ?_
    exact FE Z (Go 1 Z (Cl h13 [0,1]))
  ·refine Go 9 Z (Is 21 h13 Z (fun hg20 h13 => ?_) (fun hg20 h13 => ?_))
   ·refine Go 2 Z (Lm Z (Go 6 Z (Fpg (gT hg20) Qfv Z (Ldg (gT hg20) isAgg9 Z ?_))))
    refine vX (.bool (a1.S == [])) (Qcw Z Z Z ) ?_ (gT hg20)
    refine Pk hg20 Z ?_
    refine vV (x := (.agg (List.flatten (List.map encB ([false, false, ((a1.L.length : Int) == 0), (a1.S == [])] : List Bool))))) (YI (n := 4) (k := 1) (zs := [.bool false, .bool false, .bool false, .bool false]) zeroValue314 (ZR.agg (zc ZR.bool (zc ZR.bool (zc ZR.bool (zc ZR.bool ZL.nil))))) runUnderlying314 sizeOf4 Z) ?_
    refine vH (Yr (n := 4) (k := 1) (e := encB) (z := false) zeroValue314 (by kernel_rfl) (by kernel_rfl) (by kernel_rfl) Z) ?_
    refine FE Z (Bd h13 fun l21 hl21 h13 => Bd h13 fun l22 hl22 h13 => ?_)
    obtain ⟨hll21, rfl⟩ := Yz hl21
    refine vU (Yq (e := encB) (l := (List.replicate 4 false)) (l' := l22) hll21 (Qa3 hl22) (fun _ => rfl) Z sizeOf314 (fun _ => rfl) (fun _ => rfl) (congrArg (fun l => List.flatten (List.map encB l)) (Yz hl22).2.symm)) ?_
    exact FE Z (Go 1 Z (Cl h13 [0,1]))
   ·refine Go 9 Z (KF hg20 Z (KF hg20 Z (KF hg20 Z (Pk hg20 Z ?_))))
    refine vX (.agg (List.flatten (List.map encB ([false, false, false, false] : List Bool)))) (YI (n := 4) (k := 1) (zs := [.bool false, .bool false, .bool false, .bool false]) zeroValue314 (ZR.agg (zc ZR.bool (zc ZR.bool (zc ZR.bool (zc ZR.bool ZL.nil))))) runUnderlying314 sizeOf4 Z) ?_
    refine vH (Yr (n := 4) (k := 1) (e := encB) (z := false) zeroValue314 (by kernel_rfl) (by kernel_rfl) (by kernel_rfl) Z) ?_
    refine FE Z (Bd h13 fun l23 hl23 h13 => Bd h13 fun l24 hl24 h13 => ?_)
    obtain ⟨hll23, rfl⟩ := Yz hl23
    refine vU (Yq (e := encB) (l := (List.replicate 4 false)) (l' := l24) hll23 (Qa3 hl24) (fun _ => rfl) Z sizeOf314 (fun _ => rfl) (fun _ => rfl) (congrArg (fun l => List.flatten (List.map encB l)) (Yz hl24).2.symm)) ?_
    exact FE Z (Go 1 Z (Cl h13 [0,1]))
 refine Gx 1 Z (TC.le hle (Gc 2 Z (Bd h fun b28 h29 h => ?_)))
 refine Ct b28 [0] [1,2] (fun b28 => [(50, .bool b28)]) (fun _ => []) (fun _ => rfl) ?_ (fun env H hle => ?_)
 ·refine G0 5 Z (Is 39 h29 Z (fun hg30 h29 => ?_) (fun hg30 h29 => ?_))
  ·exact Go 12 Z (Cl h29 [0])
  ·refine Go 5 Z (Is 44 h29 Z (fun hg31 h29 => ?_) (fun hg31 h29 => ?_))
   ·exact Go 7 Z (Cl h29 [0])
   ·refine Go 2 Z (Bd h29 fun x32 hx32 h29 => ?_)
    refine vX (.ptr 1 (Int.toNat a1.Kind * 1)) (Qad (n := 4) (k := 1) (l := b12) hx32 runUnderlying314 sizeOf4 Z) ?_ (gT Z)
    refine vX (.bool x32) (OpV.load Z isAgg4 Z (Qu (QaD hx32).2)) ?_ (gT Z)
    exact Go 3 Z (Cl h29 [0])
 refine Gx 1 Z (TC.le hle (Cn Z h (fun hc33 h => ?_) (fun hc33 h => ?_)))
 ·refine Gc 8 Z ?_
  obtain rfl := Oi h
  exact R2 2 3 Z Z (Lr [])
 refine Gc 10 Z (Cn Z h (fun hc34 h => ?_) (fun hc34 h => ?_))
 ·refine Gc 8 Z ?_
  obtain rfl := Oi h
  exact R2 2 3 Z Z (Lr [])
 refine Gc 7 Z (Lm Z (Go 3 Z (Bd h fun b44 h45 h => ?_)))
 refine CtE (b := b44) [] [] (fun sb44 => [(2, I sb44)]) (fun _ => []) (fun _ => rfl) ?_ (fun sb44 env H hbe hle => ?_)
 ·refine G0 1 Z ?_
  refine Lp [] [55,56] (fun s47 => [(2, I s47.1), (57, I s47.2)]) (fun _ => []) h45 (fun _ => rfl) (Lr []) fun s47 d48 h49 hb46 => ?_
  refine G0 6 Z (Q1 Z h49 (fun hc50 h49 => ?_) (fun hc50 h49 => ?_))
  ·refine Gc 2 Z (Qg h49 ?_)
   obtain rfl := Oj hb46 h49
   exact Gx 1 Z (Qh Z (Lr []))
  refine Gc 6 Z (Bd h49 fun x51 hx51 h49 => IzE hx51 (Qa5 x51) Z (Go 8 Z (Cd [] h49 (hrec137 _) Z fun r52 hr52 h49 => FE Z (Go 14 Z (Cn Z h49 (fun hc53 h49 => ?_) (fun hc53 h49 => ?_))))))
  ·refine Gc 10 Z (Qk h49 ?_)
   obtain rfl := Oj hb46 h49
   refine Gx 1 Z (Qi (Gx 1 Z ?_))
   obtain rfl := Oi h
   exact R2 2 3 Z Z (Lr [])
  refine Gc 5 Z ?_
  refine vX (I (if s47.1 < r52.1 then r52.1 else s47.1)) (OpV.max Z Z Z Z) ?_
  exact Go 8 Z (Qf h49 (Lr []))
 subst hbe
 refine Gx 1 Z (TC.le hle (Gc 9 Z ?_))
 obtain rfl := Oi h
 exact R2 2 3 Z Z (Lr [])
def F_p : Nat -> Value -> Option (Int × Bool)
  | 0 => fun _ => none
  | n + 1 => B_p (F_p n) n
theorem k_p (n : Nat) : ∀ (a1 : Value) (r : Int × Bool), F_p n a1 = some r -> Csm prog 200 [.agg (Value.c a1)] [] (fun r => .tup [I r.1, .bool r.2]) r := by
  induction n with
  | zero => intro a1 r h; cases h
  | succ n ih => intro a1 r h; exact Qcl _ ih n a1 r h
def F_ef (n : Nat) (a1 : Value) : Option Int :=
  (F_p n a1).bind fun r1 => (bif (!r1.2) then some 1 else (bif decide (16 < r1.1) then some 2 else some 0))
theorem k_ef (n : Nat) (a1 : Value) (r : Int) (h : F_ef n a1 = some r) :
    Csm prog 149 [.agg (Value.c a1)] [] (fun r => I r) r := by
 refine Qb func149 Z Z Z ?_
 refine G0 9 Z (Cd [] h (k_p _ _) Z fun r1 hr1 h => FE Z (Go 16 Z (Cn Z h (fun hc2 h => ?_) (fun hc2 h => ?_))))
 ·exact Gc 8 Z (Rt h 2 [])
 refine Gc 7 Z (Cn Z h (fun hc3 h => ?_) (fun hc3 h => ?_))
 ·exact Gc 8 Z (Rt h 2 [])
 exact Gc 9 Z (Rt h 2 [])
def F_dy (n : Nat) : Option Unit :=
  some ()
theorem k_dy (n : Nat) (r : Unit) (h : F_dy n = some r) :
    C prog 150 [] [] (RQ (fun _ => .ptr 0 0) (fun _ => [.cells 284 [.nilf, .fn (.func 201) [] [], .fn (.func 204) [] [], .fn (.func 205) [] [.ptr 1 0]], .cells 249 [.ptr 0 0]]) r) := by
 refine Qb func150 Z Z Z ?_
 refine G0 2 Z (S Z (Go 4 Z ?_))
 refine vX (.agg [.nilf, .nilf, .nilf, .nilf]) (YI (n := 4) (k := 1) (parts := []) (zs := [.nilf, .nilf, .nilf, .nilf]) zeroValue284 (ZR.agg (zc ZR.nilf (zc ZR.nilf (zc ZR.nilf (zc ZR.nilf ZL.nil))))) runUnderlying284 sizeOf248 Z) ?_
 refine Go 9 Z ?_
 refine vX (.ptr 0 1) (Yb (i := 1) (n := 4) (k := 1) (j := 1) (by decide) Z runUnderlying284 sizeOf248 Z) ?_
 refine Go 8 Z ?_
 refine vX (.ptr 0 2) (Yb (i := 2) (n := 4) (k := 1) (j := 2) (by decide) Z runUnderlying284 sizeOf248 Z) ?_
 refine Go 9 Z ?_
 refine vX (.ptr 0 3) (Yb (i := 3) (n := 4) (k := 1) (j := 3) (by decide) Z runUnderlying284 sizeOf248 Z) ?_
 exact Go 11 Z (Rt h 0 [0,1])
def F_bb (n : Nat) (a1 : Int) : Option Unit :=
  some ()
theorem k_bb (n : Nat) (a1 : Int) (r : Unit) (h : F_bb n a1 = some r) :
    Csm prog 203 [I a1] [] (fun _ => .int .u64 (xorI .u64 (shlI .u64 (IntKind.u64.wrap a1) 1) (IntKind.u64.wrap (shrI .i64 a1 63)))) r := by
 refine Qb func203 Z Z Z ?_
 refine G0 8 Z ?_
 refine vX (.int .u64 (IntKind.u64.wrap a1)) (Qaj Z runUnderlying3 runUnderlying281 Z) ?_
 refine vX (.int .u64 (shlI .u64 (IntKind.u64.wrap a1) 1)) (OpV.shl Z Z Z (by decide)) ?_
 refine Go 1 Z ?_
 refine vX (I (shrI .i64 a1 63)) (OpV.shr Z Z Z (by decide)) ?_
 refine vX (.int .u64 (IntKind.u64.wrap (shrI .i64 a1 63))) (Qaj Z runUnderlying3 runUnderlying281 Z) ?_
 refine vX (.int .u64 (xorI .u64 (shlI .u64 (IntKind.u64.wrap a1) 1) (IntKind.u64.wrap (shrI .i64 a1 63)))) (OpV.xor Z Z Z) ?_
 exact Go 4 Z (Rt h 2 [])
def F_dx (n : Nat) (s9 : (List Int) × Int) : Option (Ctl ((List Int) × Int) ((List Int) × Int)) :=
  (bif decide (128 <= s9.2) then (app s9.1 [orI .u8 (IntKind.u8.wrap s9.2) 128]).bind fun l13 => some (.cont (l13, shrI .u64 s9.2 7)) else some (.done (s9.1, s9.2)))
def F_ab (n : Nat) (a1 : List Int) (a2 : Int) : Option (List Int) :=
  (iter (F_dx n) n (a1, a2) : Option ((List Int) × Int)).bind fun b6 => (app b6.1 [IntKind.u8.wrap b6.2]).bind fun l14 => some l14
theorem k_ab (n : Nat) (a1 : List Int) (a2 : Int) (r : List Int) (h : F_ab n a1 a2 = some r) :
    C prog 202 [.osl 0 0 a1.length 1, .int .u64 a2] [.row 5 1 (List.map (encI .u8) a1)] (RQ (fun r => .osl 1 0 r.length 1) (fun r => [.dead, .row 5 1 (List.map (encI .u8) r)]) r) := by
 refine Qb func202 Z Z Z ?_
 refine G0 6 Z (Bd h fun b6 h7 h => ?_)
 refine Ct b6 [0,0] [] (fun b6 => [(0, .osl 1 0 b6.1.length 1), (1, .int .u64 b6.2)]) (fun b6 => [(0, .dead), (1, .row 5 1 (List.map (encI .u8) b6.1))]) (fun _ => rfl) ?_ (fun env H hle => ?_)
 ·refine G0 1 Z ?_
  refine Lp [0,0] [] (fun s9 => [(0, .osl 1 0 s9.1.length 1), (1, .int .u64 s9.2)]) (fun s9 => [(0, .dead), (1, .row 5 1 (List.map (encI .u8) s9.1))]) h7 (fun _ => rfl) ?_ ?_
  ·refine Le.trans (QhI (s := 0) (i := 0) Z Z Z) ?_
   exact Lr [0, 1]
  intro s9 d10 h11 hb8
  refine G0 7 Z (Q1 Z h11 (fun hc12 h11 => ?_) (fun hc12 h11 => ?_))
  ·refine Gc 2 Z (Qg h11 ?_)
   obtain rfl := Oj hb8 h11
   exact Gx 1 Z (Qt (Lr [0, 1]))
  refine Gc 7 Z ?_
  refine vX (.int .u8 (IntKind.u8.wrap s9.2)) (Qaj Z runUnderlying281 runUnderlying5 Z) ?_
  refine vX (.int .u8 (orI .u8 (IntKind.u8.wrap s9.2) 128)) (OpV.or Z Z Z) ?_
  refine vH (OpH.lit (xs := [.tmp 12]) (es := List.map (encI .u8) [orI .u8 (IntKind.u8.wrap s9.2) 128]) YG Z Z Z Z Z ⟨Z, trivial⟩ Z Z) ?_
  refine FE Z (Bd h11 fun l13 hl13 h11 => ?_)
  refine vH (QF (e := (encI .u8)) hl13 YG runUnderlying118 (Yg (i := 2))) ?_
  refine FE Z (Go 6 Z ?_)
  refine vX (.int .u64 (shrI .u64 s9.2 7)) (OpV.shr Z Z Z (by decide)) ?_
  exact Go 2 Z (Qf h11 (Lr [0, 3]))
 refine Gx 1 Z (TC.le hle (Gc 4 Z ?_))
 refine vX (.int .u8 (IntKind.u8.wrap b6.2)) (Qaj Z runUnderlying281 runUnderlying5 Z) ?_
 refine vH (OpH.lit (xs := [.tmp 17]) (es := List.map (encI .u8) [IntKind.u8.wrap b6.2]) YG Z Z Z Z Z ⟨Z, trivial⟩ Z Z) ?_
 refine FE Z (Bd h fun l14 hl14 h => ?_)
 refine vH (QF (e := (encI .u8)) hl14 YG runUnderlying118 (Yg (i := 2))) ?_
 exact FE Z (Go 4 Z (Rt h 4 [0,3]))
def F_gs (n : Nat) (a1 : Value) : Option (List Int) :=
  (app [] [1]).bind fun l1 => (F_bb n a1.N).bind fun r2 => (F_ab n l1 (xorI .u64 (shlI .u64 (IntKind.u64.wrap a1.N) 1) (IntKind.u64.wrap (shrI .i64 a1.N 63)))).bind fun r3 => some r3
theorem k_gs (n : Nat) (a1 : Value) (r : List Int) (h : F_gs n a1 = some r) :
    C prog 201 [.nils, .agg (Value.c a1)] [] (RQ (fun r => .osl 0 0 r.length 1) (fun r => [.row 5 1 (List.map (encI .u8) r)]) r) := by
 refine Qb func201 Z Z Z ?_
 refine G0 7 Z (DAs 5 2 [0,0,1,3,3] (by kernel_rfl) (Da 1 Z ?_))
 refine DA.wo (x := .rsl 1 (List.map (encI .u8) [1])) ?_ ?_
 ·refine vH (Qay (xs := [.const (.int .u8 1)]) (es := List.map (encI .u8) [1]) YG Z Z Z Z Z ⟨Z, trivial⟩ Z Z) ?_
  exact FE Z Wp
 obtain ⟨l1, hl1, h⟩ := bnd h
 refine Qbq (QfR (e := (encI .u8)) hl1 YG runUnderlying118 QeU) Z Z (Db 1 Z ?_)
 refine DB.wo2 (x := I a1.N) (Ld isAgg3 Z Wp) (Ld isAgg3 Z Wp) ?_
 exact DB.done Z (Cz [] h (k_bb _ _) Z fun r2 hr2 h => Cd [1] h (k_ab _ _ _) Z fun r3 hr3 h => FE Z (Go 4 Z (Rt h 4 [2])))
def F_ap (n : Nat) (a1 : List Int) (a2 : Value) : Option (List Int) :=
  (app a1 [1]).bind fun l1 => (F_bb n a2.N).bind fun r2 => (F_ab n l1 (xorI .u64 (shlI .u64 (IntKind.u64.wrap a2.N) 1) (IntKind.u64.wrap (shrI .i64 a2.N 63)))).bind fun r3 => some r3
theorem k_ap (n : Nat) (a1 : List Int) (a2 : Value) (r : List Int) (h : F_ap n a1 a2 = some r) :
    C prog 201 [.osl 0 0 a1.length 1, .agg (Value.c a2)] [.row 5 1 (List.map (encI .u8) a1)] (RQ (fun r => .osl 1 0 r.length 1) (fun r => [.dead, .row 5 1 (List.map (encI .u8) r)]) r) := by
 refine Qb func201 Z Z Z ?_
 refine G0 7 Z (DAs 5 2 [0,0,1,3,3] (by kernel_rfl) (Da 1 Z ?_))
 refine DA.wo (x := .rsl 1 (List.map (encI .u8) [1])) ?_ ?_
 ·refine vH (Qay (xs := [.const (.int .u8 1)]) (es := List.map (encI .u8) [1]) YG Z Z Z Z Z ⟨Z, trivial⟩ Z Z) ?_
  exact FE Z Wp
 obtain ⟨l1, hl1, h⟩ := bnd h
 refine Qbq (QF (e := (encI .u8)) hl1 YG runUnderlying118 QeU) Z Z (Db 1 Z ?_)
 refine DB.wo2 (x := I a2.N) (Ld isAgg3 Z Wp) (Ld isAgg3 Z Wp) ?_
 exact DB.done Z (Cz [] h (k_bb _ _) Z fun r2 hr2 h => Cd [2] h (k_ab _ _ _) Z fun r3 hr3 h => FE Z (Go 4 Z (Rt h 4 [0,3])))
def F_ih (n : Nat) (a2 : Value) (rec146 : (List Int) -> Value -> Option (List Int)) (s23 : (List Int) × Int) : Option (Ctl ((List Int) × Int) (List Int)) :=
  (bif decide (s23.2 < (a2.L.length : Int)) then (idx a2.L s23.2).bind fun x27 => (bif (x27.Kind == 0) then none else (bif (x27.Kind == 1) then (F_ap n s23.1 x27).bind fun r30 => some (.cont (r30, IntKind.i64.wrap (s23.2 + 1))) else (bif (x27.Kind == 2) then none else (bif (x27.Kind == 3) then (rec146 s23.1 x27).bind fun r33 => some (.cont (r33, IntKind.i64.wrap (s23.2 + 1))) else none)))) else some (.done s23.1))
def B_as (rec146 : (List Int) -> Value -> Option (List Int)) (n : Nat) (a1 : List Int) (a2 : Value) : Option (List Int) :=
  (app a1 [3]).bind fun l1 => (F_ab n l1 (IntKind.u64.wrap (a2.L.length : Int))).bind fun r2 => (iter (F_ih n a2 rec146) n (r2, 0) : Option (List Int)).bind fun b20 => some b20
theorem QaB (rec146 : (List Int) -> Value -> Option (List Int)) (hrec146 : ∀ (a1 : List Int) (a2 : Value) (r : List Int), rec146 a1 a2 = some r -> C prog 205 [.osl 0 0 a1.length 1, .agg (Value.c a2), .ptr 1 0] [.row 5 1 (List.map (encI .u8) a1), .cells 249 [.ptr 2 0], .cells 284 [.nilf, .fn (.func 201) [] [], .fn (.func 204) [] [], .fn (.func 205) [] [.ptr 1 0]]] (RQ (fun r => .osl 3 0 r.length 1) (fun r => [.dead, .cells 249 [.ptr 2 0], .cells 284 [.nilf, .fn (.func 201) [] [], .fn (.func 204) [] [], .fn (.func 205) [] [.ptr 1 0]], .row 5 1 (List.map (encI .u8) r)]) r)) (n : Nat) (a1 : List Int) (a2 : Value) (r : List Int) (h : B_as rec146 n a1 a2 = some r) :
    C prog 205 [.osl 0 0 a1.length 1, .agg (Value.c a2), .ptr 1 0] [.row 5 1 (List.map (encI .u8) a1), .cells 249 [.ptr 2 0], .cells 284 [.nilf, .fn (.func 201) [] [], .fn (.func 204) [] [], .fn (.func 205) [] [.ptr 1 0]]] (RQ (fun r => .osl 3 0 r.length 1) (fun r => [.dead, .cells 249 [.ptr 2 0], .cells 284 [.nilf, .fn (.func 201) [] [], .fn (.func 204) [] [], .fn (.func 205) [] [.ptr 1 0]], .row 5 1 (List.map (encI .u8) r)]) r) := by
 refine Qb func205 Z Z Z ?_
 refine G0 7 Z (DAs 7 2 [0,0,1,3,3,3,3] (by kernel_rfl) (Da 1 Z ?_))
 refine DA.wo (x := .rsl 1 (List.map (encI .u8) [3])) ?_ ?_
 ·refine vH (Qay (xs := [.const (.int .u8 3)]) (es := List.map (encI .u8) [3]) YG Z Z Z Z Z ⟨Z, trivial⟩ Z Z) ?_
  exact FE Z Wp
 obtain ⟨l1, hl1, h⟩ := bnd h
 refine Qbq (QF (e := (encI .u8)) hl1 YG runUnderlying118 QeU) Z Z (Db 1 Z ?_)
 refine DB.wo2 (x := .rsl 4 (List.map Value.enc a2.L)) (Ld isAgg182 Z Wp) (Ld isAgg182 Z Wp) ?_
 refine DB.wo2 (x := I (a2.L.length : Int)) (LnM runUnderlying182 Z Wp) (LnM runUnderlying182 Z Wp) ?_
 refine DB.wo2 (x := .int .u64 (IntKind.u64.wrap (a2.L.length : Int))) ?_ ?_ ?_
 ·refine vX (.int .u64 (IntKind.u64.wrap (a2.L.length : Int))) (Qaj Z runUnderlying3 runUnderlying281 Z) ?_
  exact Wp
 ·refine vX (.int .u64 (IntKind.u64.wrap (a2.L.length : Int))) (Qaj Z runUnderlying3 runUnderlying281 Z) ?_
  exact Wp
 refine DB.done Z (Cd [4] h (k_ab _ _ _) Z fun r2 hr2 h => FE Z (Go 8 Z (Lm Z (Go 3 Z (Bd h fun b20 h21 h => ?_)))))
 refine Ct b20 [0,1,2,3] [] (fun b20 => [(0, .osl 3 0 b20.length 1)]) (fun b20 => [(3, .row 5 1 (List.map (encI .u8) b20))]) (fun _ => rfl) ?_ (fun env H hle => ?_)
 ·refine G0 1 Z ?_
  refine Lp [0,1,2,5] [2,17,18] (fun s23 => [(0, .osl 3 0 s23.1.length 1), (19, I s23.2)]) (fun s23 => [(3, .row 5 1 (List.map (encI .u8) s23.1))]) h21 (fun _ => rfl) (Lr [0, 1, 2, 5]) fun s23 d24 h25 hb22 => ?_
  refine G0 6 Z (Q1 Z h25 (fun hc26 h25 => ?_) (fun hc26 h25 => ?_))
  ·refine Gc 2 Z (Qg h25 ?_)
   obtain rfl := Oj hb22 h25
   exact Gx 1 Z (Qt (Lr [0, 1, 2, 3]))
  refine Gc 6 Z (Bd h25 fun x27 hx27 h25 => IzE hx27 (Qa5 x27) Z (Go 5 Z (DSs 9 Z (D 4 Z (If h25 (fun hg28 h25 => ?_) (fun hg28 h25 => ?_))))))
  ·cases h25
  ·refine If h25 (fun hg29 h25 => ?_) (fun hg29 h25 => ?_)
   ·refine DS.v (x := (.ptr 2 1)) (Yb (i := x27.Kind) (n := 4) (k := 1) (j := 1) hg29 Z runUnderlying284 sizeOf248 Z) ?_
    exact D 4 Z (DS.done Z (Cd [3] h25 (k_ap _ _ _) Z fun r30 hr30 h25 => FE Z (Go 8 Z (Qf h25 (Lr [0, 1, 2, 5])))))
   ·refine If h25 (fun hg31 h25 => ?_) (fun hg31 h25 => ?_)
    ·cases h25
    ·refine If h25 (fun hg32 h25 => ?_) (fun hg32 h25 => ?_)
     ·refine DS.v (x := (.ptr 2 3)) (Yb (i := x27.Kind) (n := 4) (k := 1) (j := 3) hg32 Z runUnderlying284 sizeOf248 Z) ?_
      exact D 4 Z (DS.done Z (Cd [3, 1, 2] h25 (hrec146 _ _) Z fun r33 hr33 h25 => FE Z (Go 8 Z (Qf h25 (Lr [0, 1, 2, 5])))))
     ·cases h25
 exact Gx 1 Z (TC.le hle (Gc 7 Z (Rt h 5 [0,1,2,3])))
def F_as : Nat -> (List Int) -> Value -> Option (List Int)
  | 0 => fun _ _ => none
  | n + 1 => B_as (F_as n) n
theorem k_as (n : Nat) : ∀ (a1 : List Int) (a2 : Value) (r : List Int), F_as n a1 a2 = some r -> C prog 205 [.osl 0 0 a1.length 1, .agg (Value.c a2), .ptr 1 0] [.row 5 1 (List.map (encI .u8) a1), .cells 249 [.ptr 2 0], .cells 284 [.nilf, .fn (.func 201) [] [], .fn (.func 204) [] [], .fn (.func 205) [] [.ptr 1 0]]] (RQ (fun r => .osl 3 0 r.length 1) (fun r => [.dead, .cells 249 [.ptr 2 0], .cells 284 [.nilf, .fn (.func 201) [] [], .fn (.func 204) [] [], .fn (.func 205) [] [.ptr 1 0]], .row 5 1 (List.map (encI .u8) r)]) r) := by
  induction n with
  | zero => intro a1 a2 r h; cases h
  | succ n ih => intro a1 a2 r h; exact QaB _ ih n a1 a2 r h
def F_gy (n : Nat) (a1 : Value) (s23 : (List Int) × Int) : Option (Ctl ((List Int) × Int) (List Int)) :=
  (bif decide (s23.2 < (a1.L.length : Int)) then (idx a1.L s23.2).bind fun x27 => (bif (x27.Kind == 0) then none else (bif (x27.Kind == 1) then (F_ap n s23.1 x27).bind fun r30 => some (.cont (r30, IntKind.i64.wrap (s23.2 + 1))) else (bif (x27.Kind == 2) then none else (bif (x27.Kind == 3) then (F_as n s23.1 x27).bind fun r33 => some (.cont (r33, IntKind.i64.wrap (s23.2 + 1))) else none)))) else some (.done s23.1))
def F_dj (n : Nat) (a1 : Value) : Option (List Int) :=
  (app [] [3]).bind fun l1 => (F_ab n l1 (IntKind.u64.wrap (a1.L.length : Int))).bind fun r2 => (iter (F_gy n a1) n (r2, 0) : Option (List Int)).bind fun b20 => some b20
theorem k_dj (n : Nat) (a1 : Value) (r : List Int) (h : F_dj n a1 = some r) :
    C prog 205 [.nils, .agg (Value.c a1), .ptr 0 0] [.cells 249 [.ptr 1 0], .cells 284 [.nilf, .fn (.func 201) [] [], .fn (.func 204) [] [], .fn (.func 205) [] [.ptr 0 0]]] (RQ (fun r => .osl 2 0 r.length 1) (fun r => [.cells 249 [.ptr 1 0], .cells 284 [.nilf, .fn (.func 201) [] [], .fn (.func 204) [] [], .fn (.func 205) [] [.ptr 0 0]], .row 5 1 (List.map (encI .u8) r)]) r) := by
 refine Qb func205 Z Z Z ?_
 refine G0 7 Z (DAs 7 2 [0,0,1,3,3,3,3] (by kernel_rfl) (Da 1 Z ?_))
 refine DA.wo (x := .rsl 1 (List.map (encI .u8) [3])) ?_ ?_
 ·refine vH (Qay (xs := [.const (.int .u8 3)]) (es := List.map (encI .u8) [3]) YG Z Z Z Z Z ⟨Z, trivial⟩ Z Z) ?_
  exact FE Z Wp
 obtain ⟨l1, hl1, h⟩ := bnd h
 refine Qbq (QfR (e := (encI .u8)) hl1 YG runUnderlying118 QeU) Z Z (Db 1 Z ?_)
 refine DB.wo2 (x := .rsl 4 (List.map Value.enc a1.L)) (Ld isAgg182 Z Wp) (Ld isAgg182 Z Wp) ?_
 refine DB.wo2 (x := I (a1.L.length : Int)) (LnM runUnderlying182 Z Wp) (LnM runUnderlying182 Z Wp) ?_
 refine DB.wo2 (x := .int .u64 (IntKind.u64.wrap (a1.L.length : Int))) ?_ ?_ ?_
 ·refine vX (.int .u64 (IntKind.u64.wrap (a1.L.length : Int))) (Qaj Z runUnderlying3 runUnderlying281 Z) ?_
  exact Wp
 ·refine vX (.int .u64 (IntKind.u64.wrap (a1.L.length : Int))) (Qaj Z runUnderlying3 runUnderlying281 Z) ?_
  exact Wp
 refine DB.done Z (Cd [3] h (k_ab _ _ _) Z fun r2 hr2 h => FE Z (Go 8 Z (Lm Z (Go 3 Z (Bd h fun b20 h21 h => ?_)))))
 refine Ct b20 [0,1,2] [] (fun b20 => [(0, .osl 2 0 b20.length 1)]) (fun b20 => [(2, .row 5 1 (List.map (encI .u8) b20))]) (fun _ => rfl) ?_ (fun env H hle => ?_)
 ·refine G0 1 Z ?_
  refine Lp [0,1,4] [2,17,18] (fun s23 => [(0, .osl 2 0 s23.1.length 1), (19, I s23.2)]) (fun s23 => [(2, .row 5 1 (List.map (encI .u8) s23.1))]) h21 (fun _ => rfl) (Lr [0, 1, 4]) fun s23 d24 h25 hb22 => ?_
  refine G0 6 Z (Q1 Z h25 (fun hc26 h25 => ?_) (fun hc26 h25 => ?_))
  ·refine Gc 2 Z (Qg h25 ?_)
   obtain rfl := Oj hb22 h25
   exact Gx 1 Z (Qt (Lr [0, 1, 2]))
  refine Gc 6 Z (Bd h25 fun x27 hx27 h25 => IzE hx27 (Qa5 x27) Z (Go 5 Z (DSs 9 Z (D 4 Z (If h25 (fun hg28 h25 => ?_) (fun hg28 h25 => ?_))))))
  ·cases h25
  ·refine If h25 (fun hg29 h25 => ?_) (fun hg29 h25 => ?_)
   ·refine DS.v (x := (.ptr 1 1)) (Yb (i := x27.Kind) (n := 4) (k := 1) (j := 1) hg29 Z runUnderlying284 sizeOf248 Z) ?_
    exact D 4 Z (DS.done Z (Cd [2] h25 (k_ap _ _ _) Z fun r30 hr30 h25 => FE Z (Go 8 Z (Qf h25 (Lr [0, 1, 4])))))
   ·refine If h25 (fun hg31 h25 => ?_) (fun hg31 h25 => ?_)
    ·cases h25
    ·refine If h25 (fun hg32 h25 => ?_) (fun hg32 h25 => ?_)
     ·refine DS.v (x := (.ptr 1 3)) (Yb (i := x27.Kind) (n := 4) (k := 1) (j := 3) hg32 Z runUnderlying284 sizeOf248 Z) ?_
      exact D 4 Z (DS.done Z (Cd [2, 0, 1] h25 (k_as _ _ _) Z fun r33 hr33 h25 => FE Z (Go 8 Z (Qf h25 (Lr [0, 1, 4])))))
     ·cases h25
 exact Gx 1 Z (TC.le hle (Gc 7 Z (Rt h 5 [0,1,2])))
def F_fq (n : Nat) (a1 : Value) : Option ((List Int) × Int) :=
  (F_ef n a1).bind fun r1 => (bif (r1 != 0) then some ([], r1) else (F_dy n).bind fun r3 => (bif (a1.Kind == 0) then none else (bif (a1.Kind == 1) then (F_gs n a1).bind fun r6 => some (r6, 0) else (bif (a1.Kind == 2) then none else (bif (a1.Kind == 3) then (F_dj n a1).bind fun r9 => some (r9, 0) else none)))))
theorem k_fq (n : Nat) (a1 : Value) (r : (List Int) × Int) (h : F_fq n a1 = some r) :
    C prog 85 [.agg (Value.c a1)] [] (RQ (fun r => .tup [.osl 0 0 r.1.length 1, I r.2]) (fun r => [.row 5 1 (List.map (encI .u8) r.1)]) r) := by
 refine Qb func85 Z Z Z ?_
 refine G0 11 Z (Cz [] h (k_ef _ _) Z fun r1 hr1 h => Go 9 Z (Cn Z h (fun hc2 h => ?_) (fun hc2 h => ?_)))
 ·refine Gc 9 Z ?_
  obtain rfl := Oi h
  refine R2 2 3 Z Z ?_
  refine Le.trans (Le.phantom (s := 2) (k := 1) (t := 5) (Nat.le_of_ble_eq_true Z) Z) ?_
  exact Lr [1]
 refine Gc 3 Z (DAs 8 0 [1,3,3,2,2,2,2,3] (by kernel_rfl) ?_)
 obtain ⟨r3, hr3, h⟩ := bnd h
 refine DA.op (x := .ptr 1 0) (H1 := [.cells 184 (Value.c a1), .cells 284 [.nilf, .fn (.func 201) [] [], .fn (.func 204) [] [], .fn (.func 205) [] [.ptr 2 0]], .cells 249 [.ptr 1 0]]) ?_ ?_
 ·refine Qy [] (OpC.fn call150 Z Z Z) (k_dy _ _ hr3) ?_
  rintro _ _ ⟨rfl, rfl⟩
  exact FE Z Wp
 refine Db 1 Z ?_
 refine DB.wo2 (x := I a1.Kind) (Ld isAgg3 Z Wp) (Ld isAgg3 Z Wp) ?_
 refine Db 1 Z (If h (fun hg4 h => ?_) (fun hg4 h => ?_))
 ·cases h
 ·refine If h (fun hg5 h => ?_) (fun hg5 h => ?_)
  ·refine DB.wo1 (x := .ptr 1 1) ?_ ?_
   ·refine vX (.ptr 1 1) (Yb (i := a1.Kind) (n := 4) (k := 1) (j := 1) hg5 Z runUnderlying284 sizeOf248 Z) ?_
    exact Wp
   refine Db 2 Z ?_
   refine DB.wo2 (x := .agg (Value.c a1)) ?_ ?_ ?_
   ·refine vX (.agg (Value.c a1)) (Ql Z isAgg184 sizeOf184 Z (Pts.cells Z Z) Z Z) ?_
    exact Wp
   ·refine vX (.agg (Value.c a1)) (Ql Z isAgg184 sizeOf184 Z (Pts.cells Z Z) Z Z) ?_
    exact Wp
   refine DB.done Z (Cd [] h (k_gs _ _) Z fun r6 hr6 h => FE Z (Go 5 Z ?_))
   obtain rfl := Oi h
   exact R2 2 3 Z Z (Lr [3])
  ·refine If h (fun hg7 h => ?_) (fun hg7 h => ?_)
   ·cases h
   ·refine If h (fun hg8 h => ?_) (fun hg8 h => ?_)
    ·refine DB.wo1 (x := .ptr 1 3) ?_ ?_
     ·refine vX (.ptr 1 3) (Yb (i := a1.Kind) (n := 4) (k := 1) (j := 3) hg8 Z runUnderlying284 sizeOf248 Z) ?_
      exact Wp
     refine Db 2 Z ?_
     refine DB.wo2 (x := .agg (Value.c a1)) ?_ ?_ ?_
     ·refine vX (.agg (Value.c a1)) (Ql Z isAgg184 sizeOf184 Z (Pts.cells Z Z) Z Z) ?_
      exact Wp
     ·refine vX (.agg (Value.c a1)) (Ql Z isAgg184 sizeOf184 Z (Pts.cells Z Z) Z Z) ?_
      exact Wp
     refine DB.done Z (Cd [2, 1] h (k_dj _ _) Z fun r9 hr9 h => FE Z (Go 5 Z ?_))
     obtain rfl := Oi h
     exact R2 2 3 Z Z (Lr [3])
    ·cases h
def F_hv (n : Nat) (r1 : (List Int) × Bool) (s13 : (List Value) × Int) : Option (Ctl ((List Value) × Int) (List Value)) :=
  (bif decide (s13.2 < (r1.1.length : Int)) then (idx r1.1 s13.2).bind fun x17 => (app s13.1 [{ Kind := 1, N := x17, S := [], L := [] : Value }]).bind fun l18 => some (.cont (l18, IntKind.i64.wrap (s13.2 + 1))) else some (.done s13.1))
def F_av (n : Nat) (a1 : Fact) : Option ((List Int) × Int) :=
  (F_aq n a1).bind fun r1 => (bif (!r1.2) then some ([], 120) else (iter (F_hv n r1) n ([], 0) : Option (List Value)).bind fun b10 => (F_fq n ({ Kind := 3, N := 0, S := [], L := b10 : Value })).bind fun r19 => some (r19.1, r19.2))
theorem k_av (n : Nat) (a1 : Fact) (r : (List Int) × Int) (h : F_av n a1 = some r) :
    C prog 50 [.agg (Fact.c a1)] [] (RQ (fun r => .tup [.osl 0 0 r.1.length 1, I r.2]) (fun r => [.row 5 1 (List.map (encI .u8) r.1)]) r) := by
 refine Qb func50 Z Z Z ?_
 refine G0 10 Z (Cd [] h (k_aq _ _) Z fun r1 hr1 h => FE Z (Go 14 Z (Cn Z h (fun hc2 h => ?_) (fun hc2 h => ?_))))
 ·refine Gc 8 Z ?_
  obtain rfl := Oi h
  refine R2 2 3 Z Z ?_
  refine Le.trans (Le.phantom (s := 2) (k := 1) (t := 5) (Nat.le_of_ble_eq_true Z) Z) ?_
  exact Lr [2]
 refine Gc 4 Z ?_
 refine vX (.agg [I 3, I 0, .str [], .nils]) (OpV.build (zs := [I 0, I 0, .str [], .nils]) zeroValue184 (zrC Z) Qf8) ?_
 refine vH (Qa8 (v := (.agg [I 0, I 0, .str [], .nils])) zeroValue184 (zrC Z)) ?_
 refine FE Z (Go 11 Z (Bd h fun b10 h11 h => ?_))
 refine Ct b10 [0,1] [] (fun _ => [(6, .ptr 0 0)]) (fun b10 => [(0, .cells 184 [I 3, I 0, .str [], .osl 1 0 b10.length 4]), (1, .row 184 4 (List.map Value.enc b10))]) (fun _ => rfl) ?_ (fun env H hle => ?_)
 ·refine G0 1 Z ?_
  refine Lp [2,0,1] [6,17,18] (fun s13 => [(19, I s13.2)]) (fun s13 => [(0, .cells 184 [I 3, I 0, .str [], .osl 1 0 s13.1.length 4]), (1, .row 184 4 (List.map Value.enc s13.1))]) h11 (fun _ => rfl) ?_ ?_
  ·refine Le.trans (QfT (i := 2) (m := 3) (t := 184) (k := 4) Z Z Z) ?_
   exact Lr [2, 3, 1]
  intro s13 d14 h15 hb12
  refine G0 6 Z (Q1 Z h15 (fun hc16 h15 => ?_) (fun hc16 h15 => ?_))
  ·refine Gc 2 Z (Qg h15 ?_)
   obtain rfl := Oj hb12 h15
   exact Gx 1 Z (Qt (Lr [0, 1]))
  refine Gc 6 Z (Bd h15 fun x17 hx17 h15 => ?_)
  refine vX (.ptr 2 (Int.toNat s13.2 * 1)) (QS hx17 Z runUnderlying48 sizeOf3) ?_
  refine vX (I x17) (OpV.load Z isAgg3 Z (Qu hx17)) ?_
  refine Go 8 Z ?_
  refine vH (OpH.lit (xs := [.tmp 26]) (es := List.map Value.enc [{ Kind := 1, N := x17, S := [], L := [] : Value }]) QiI Z Z Z Z Z ⟨Z, trivial⟩ Z Z) ?_
  refine FE Z (Bd h15 fun l18 hl18 h15 => ?_)
  refine vH (QF (e := Value.enc) hl18 QiI runUnderlying182 (Yg (i := 3))) ?_
  exact FE Z (Go 9 Z (Qf h15 (Lr [0, 4, 2])))
 refine Gx 1 Z (TC.le hle (Gc 3 Z ?_))
 refine WO.le (QaW [(31, _)] Z Z (FzOv.cons Z (FzA.agg (FzL.cons (FzA.refl _) (FzL.cons (FzA.refl _) (FzL.cons (FzA.refl _) (FzL.cons FzA.o (FzL.refl _)))))) FzOv.nil) (FzH.cells (FzL.cons (FzA.refl _) (FzL.cons (FzA.refl _) (FzL.cons (FzA.refl _) (FzL.cons FzA.o (FzL.refl _))))) (FzH.keep (YJ _)))) ?_
 refine Cd [] h (k_fq _ _) Z fun r19 hr19 h => FE Z (Go 7 Z ?_)
 obtain rfl := Oi h
 exact R2 2 3 Z Z (Lr [2])
def F_hg (n : Nat) (a1 : List Int) (a2 : List Int) : Option Unit :=
  some ()
theorem k_hg (n : Nat) (a1 : List Int) (a2 : List Int) (r : Unit) (h : F_hg n a1 a2 = some r) :
    Csm prog 51 [.rsl 1 (List.map (encI .u8) a1), .rsl 1 (List.map (encI .u8) a2)] [] (fun _ => I (cmpB a1 a2)) r := by
 refine Qb func51 Z Z Z ?_
 refine G0 9 Z ?_
 refine vX (I (cmpB a1 a2)) (OpV.cmpB (l := a1) (m := a2) func86 (by kernel_rfl) (by kernel_rfl) (by kernel_rfl) (by kernel_rfl) SrcB.rsl SrcB.rsl) ?_
 exact Go 4 Z (Rt h 4 [])
def F_ah (n : Nat) (a1 : Fact) (a2 : Fact) : Option Int :=
  (F_u n a1.At a2.At).bind fun r1 => (F_u n a1.Crew a2.Crew).bind fun r2 => (F_u n a1.No a2.No).bind fun r3 => (F_ax n [r1, r2, r3]).bind fun r4 => (bif (r4 != 0) then some r4 else (F_av n a1).bind fun r6 => (F_av n a2).bind fun r7 => (F_hg n r6.1 r7.1).bind fun r8 => some (cmpB r6.1 r7.1))
theorem k_ah (n : Nat) (a1 : Fact) (a2 : Fact) (r : Int) (h : F_ah n a1 a2 = some r) :
    Csm prog 27 [.agg (Fact.c a1), .agg (Fact.c a2)] [] (fun r => I r) r := by
 refine Qb func27 Z Z Z ?_
 refine G0 9 Z (DSs 14 Z (D 4 Z ?_))
 refine Dz [] h (k_u _ _ _) Z fun r1 hr1 h => D 4 Z ?_
 refine Dz [] h (k_u _ _ _) Z fun r2 hr2 h => D 4 Z (DS.done Z (Cz [] h (k_u _ _ _) Z fun r3 hr3 h => ?_))
 refine vH (Qay (xs := [.tmp 14, .tmp 19, .tmp 24]) (es := List.map (encI .i64) [r1, r2, r3]) QJ Z Z Z Z Z ⟨Z, Z, Z, trivial⟩ Z Z) ?_
 refine FE Z (Cz [] h (k_ax _ _) Z fun r4 hr4 h => Go 9 Z (Cn Z h (fun hc5 h => ?_) (fun hc5 h => ?_)))
 ·exact Gc 8 Z (Rt h 4 [])
 exact Gc 5 Z (Cd [] h (k_av _ _) Z fun r6 hr6 h => FE Z (Go 10 Z (Cd [] h (k_av _ _) Z fun r7 hr7 h => FE Z (Go 11 Z (Cb h (k_hg _ _ _) Z (lo (lo ln)) fun r8 hr8 h => Go 4 Z (Rt h 4 []))))))
def F_dv (n : Nat) (a1 : List (Int × Fact)) : Option Unit :=
  some ()
theorem k_dv (n : Nat) (a1 : List (Int × Fact)) (r : Unit) (h : F_dv n a1 = some r) :
    C prog 61 [.map 0] [.map (menc (fun x => A.int .i64 x) (fun x => A.agg (Fact.c x)) a1)] (RQ (fun _ => .fn (.func 129) [] [.ptr 1 0]) (fun _ => [.map (menc (fun x => A.int .i64 x) (fun x => A.agg (Fact.c x)) a1), .cells 98 [.map 0]]) r) := by
 refine Qb func61 Z Z Z ?_
 exact G0 13 Z (Rt h 2 [0,1])
def F_ci (n : Nat) (a1 : List (Int × Fact)) : Option (List Int) :=
  anyK (List.map Prod.fst a1) fun p1 => (sortI p1).bind fun l4 => some l4
theorem k_ci (n : Nat) (a1 : List (Int × Fact)) (r : List Int) (h : F_ci n a1 = some r) :
    C prog 60 [.fn (.func 129) [] [.ptr 0 0]] [.cells 98 [.map 1], .map (menc (fun x => A.int .i64 x) (fun x => A.agg (Fact.c x)) a1)] (RQ (fun r => .osl 2 0 r.length 1) (fun r => [.dead, .fmap (menc (fun x => A.int .i64 x) (fun x => A.agg (Fact.c x)) a1), .row 3 1 (List.map (encI .i64) r)]) r) := by
 refine Qb func60 Z Z Z ?_
 refine G0 8 Z ?_
 refine WO.le (Qg1 (i := 1) Z) ?_
 refine Qgu (H := [.cells 98 [.map 1], .fmap (menc (fun x => A.int .i64 x) (fun x => A.agg (Fact.c x)) a1)]) Z ?_
 obtain ⟨h3, h⟩ := QgW h
 refine Qy [0, 1] (OpC.fn call127 Z Z Z) (Qi5 _ h3) ?_
 rintro _ _ ⟨p1, h2, rfl, rfl⟩
 have h := h p1 h2
 refine FE Z (Go 6 Z (Bd h fun l4 hl4 h => ?_))
 refine Qy [2] (OpC.fn call128 Z Z Z) (Qjq QdV hl4) ?_
 rintro _ _ ⟨rfl, rfl⟩
 refine FE Z ?_
 refine WO.le (QW (s := 3) Z (congrArg (fun n => A.osl 2 0 n 1) (Qbs hl4))) ?_
 refine WO.le (QW (s := 5) Z (congrArg (fun n => A.osl 2 0 n 1) (Qbs hl4))) ?_
 refine WO.le (QW (s := 6) Z (congrArg (fun n => A.osl 2 0 n 1) (Qbs hl4))) ?_
 exact Go 9 Z (Rt h 2 [0,1,2])
def F_ho (n : Nat) (a1 : List (Int × Fact)) (r2 : List Int) (s15 : (List Fact) × Int) : Option (Ctl ((List Fact) × Int) (List Fact)) :=
  (bif decide (s15.2 < (r2.length : Int)) then (idx r2 s15.2).bind fun x19 => (some (mgetD a1 x19 z_Fact)).bind fun v20 => (app s15.1 [v20]).bind fun l21 => some (.cont (l21, IntKind.i64.wrap (s15.2 + 1))) else some (.done s15.1))
def F_dc (n : Nat) (a1 : List (Int × Fact)) : Option (List Fact) :=
  (F_dv n a1).bind fun r1 => (F_ci n a1).bind fun r2 => (iter (F_ho n a1 r2) n ([], 0) : Option (List Fact)).bind fun b12 => some b12
theorem k_dc (n : Nat) (a1 : List (Int × Fact)) (r : List Fact) (h : F_dc n a1 = some r) :
    C prog 34 [.map 0] [.map (menc (fun x => A.int .i64 x) (fun x => A.agg (Fact.c x)) a1)] (RQ (fun r => .osl 1 0 r.length 57) (fun r => [.fmap (menc (fun x => A.int .i64 x) (fun x => A.agg (Fact.c x)) a1), .row 81 57 (List.map Fact.c r)]) r) := by
 refine Qb func34 Z Z Z ?_
 refine G0 9 Z (Cd [0] h (k_dv _ _) Z fun r1 hr1 h => FE Z (Cd [1, 0] h (k_ci _ _) Z fun r2 hr2 h => FE Z (Go 4 Z (Bd h fun b12 h13 h => ?_))))
 refine Ct b12 [0,1] [] (fun b12 => [(2, .osl 1 0 b12.length 57)]) (fun b12 => [(1, .row 81 57 (List.map Fact.c b12))]) (fun _ => rfl) ?_ (fun env H hle => ?_)
 ·refine G0 1 Z ?_
  refine Lp [0,0,2] [0,7,8] (fun s15 => [(2, .osl 1 0 s15.1.length 57), (9, I s15.2)]) (fun s15 => [(1, .row 81 57 (List.map Fact.c s15.1))]) h13 (fun _ => rfl) ?_ ?_
  ·refine Le.trans (Le.phantom (s := 2) (k := 57) (t := 81) (Nat.le_of_ble_eq_true Z) Z) ?_
   exact Lr [0, 3, 2]
  intro s15 d16 h17 hb14
  refine G0 6 Z (Q1 Z h17 (fun hc18 h17 => ?_) (fun hc18 h17 => ?_))
  ·refine Gc 2 Z (Qg h17 ?_)
   obtain rfl := Oj hb14 h17
   exact Gx 1 Z (Qt (Lr [0, 1]))
  refine Gc 6 Z (Bd h17 fun x19 hx19 h17 => ?_)
  refine vX (.ptr 2 (Int.toNat s15.2 * 1)) (QS hx19 Z runUnderlying48 sizeOf3) ?_
  refine vX (I x19) (OpV.load Z isAgg3 Z (Qu hx19)) ?_
  refine Go 7 Z (Bd h17 fun v20 hv20 h17 => ?_)
  refine vX (.agg (Fact.c v20)) (QhE (ev := (fun x => A.agg (Fact.c x))) (z0 := z_Fact) (k := x19) (l := a1) Qbd hv20 underlying98 zeroValue81 (zrC Z)) ?_
  refine vH (OpH.lit (xs := [.tmp 16]) (es := List.map Fact.c [v20]) QiH Z Z Z Z Z ⟨Z, trivial⟩ Z Z) ?_
  refine FE Z (Bd h17 fun l21 hl21 h17 => ?_)
  refine vH (QF (e := Fact.c) hl21 QiH runUnderlying34 (Yg (i := 3))) ?_
  exact FE Z (Go 8 Z (Qf h17 (Lr [0, 4, 2])))
 exact Gx 1 Z (TC.le hle (Gc 7 Z (Rt h 2 [0,1])))
def F_gn (n : Nat) (a1 : Course) (a2 : List Fact) (s113 : (List (Int × Fact)) × Int) : Option (Ctl ((List (Int × Fact)) × Int) (List (Int × Fact))) :=
  (bif decide (s113.2 < (a2.length : Int)) then ((idx a2 s113.2).bind fun x144 => ((bif (x144.Kind != 1) then some true else (F_w n x144).bind fun r152 => (bif (r152 != 0) then some true else (bif decide ((a1.Distances.length : Int) <= x144.Starter.Distance) then some true else some (decide ((a1.Waves.length : Int) <= x144.Starter.Wave))))) : Option Bool).bind fun b149 => (bif b149 then some s113.1 else (some (mgetD s113.1 x144.Starter.Bib z_Fact)).bind fun v156 => ((bif (!(mhas s113.1 x144.Starter.Bib)) then some true else (F_ah n x144 v156).bind fun r162 => some (decide (r162 < 0))) : Option Bool).bind fun b159 => ((bif b159 then (some (mset s113.1 x144.Starter.Bib x144)).bind fun m168 => some m168 else some s113.1) : Option (List (Int × Fact))).bind fun b165 => some b165) : Option (List (Int × Fact))).bind fun b142 => some (.cont (b142, IntKind.i64.wrap (s113.2 + 1))) else some (.done s113.1))
def F_ce (n : Nat) (r170 : List Fact) (s187 : (List Starter) × (List (Int × Bool)) × Int) : Option (Ctl ((List Starter) × (List (Int × Bool)) × Int) (Ctl (List Starter) ((List Starter) × Int))) :=
  (bif decide (s187.2.2 < (r170.length : Int)) then (idx r170 s187.2.2).bind fun x191 => (some (mgetD s187.2.1 x191.Starter.Chip false)).bind fun v192 => (bif v192 then some (.done (.done ([], 180))) else (some (mset s187.2.1 x191.Starter.Chip true)).bind fun m194 => (app s187.1 [x191.Starter]).bind fun l195 => some (.cont (l195, m194, IntKind.i64.wrap (s187.2.2 + 1)))) else some (.done (.cont s187.1)))
def F_ad (n : Nat) (a1 : Course) (a2 : List Fact) : Option ((List Starter) × Int) :=
  (F_al n a1).bind fun r1 => (bif (r1 != 0) then some ([], r1) else (iter (F_gn n a1 a2) n ([], 0) : Option (List (Int × Fact))).bind fun b110 => (bif decide (4000 < (b110.length : Int)) then some ([], 2) else (F_dc n b110).bind fun r170 => (iter (F_ce n r170) n ([], [], 0) : Option (Ctl (List Starter) ((List Starter) × Int))).bind fun b184 => match b184 with | .cont sb184 => (some (sb184, 0)) | .done sb184 => some sb184))
theorem k_ad (n : Nat) (a1 : Course) (a2 : List Fact) (r : (List Starter) × Int) (h : F_ad n a1 a2 = some r) :
    C prog 13 [.agg (Course.c a1), .rsl 57 (List.map Fact.c a2)] [] (RQ (fun r => .tup [.osl 0 0 r.1.length 8, I r.2]) (fun r => [.row 50 8 (List.map Starter.c r.1)]) r) := by
 refine Qb func13 Z Z Z ?_
 refine G0 11 Z (Cz [] h (k_al _ _) Z fun r1 hr1 h => Go 9 Z (Cn Z h (fun hc2 h => ?_) (fun hc2 h => ?_)))
 ·refine Gc 9 Z ?_
  obtain rfl := Oi h
  refine R2 4 5 Z Z ?_
  refine Le.trans (Le.phantom (s := 4) (k := 8) (t := 50) (Nat.le_of_ble_eq_true Z) Z) ?_
  exact Lr [1]
 refine Gc 4 Z ?_
 refine vH QV ?_
 refine FE Z (Go 7 Z (Lm Z (Go 3 Z (Bd h fun b110 h111 h => ?_))))
 refine Ct b110 [1] [4,7] (fun _ => []) (fun b110 => [(0, .map (menc (fun x => A.int .i64 x) (fun x => A.agg (Fact.c x)) b110))]) (fun _ => rfl) ?_ (fun env H hle => ?_)
 ·refine G0 1 Z ?_
  refine Lp [0,1] [2,4,7,22,23] (fun s113 => [(24, I s113.2)]) (fun s113 => [(1, .map (menc (fun x => A.int .i64 x) (fun x => A.agg (Fact.c x)) s113.1))]) h111 (fun _ => rfl) (Lr [0, 1]) fun s113 d114 h115 hb112 => ?_
  refine G0 6 Z (Q1 Z h115 (fun hc116 h115 => ?_) (fun hc116 h115 => ?_))
  ·refine Gc 2 Z (Qg h115 ?_)
   obtain rfl := Oj hb112 h115
   exact Gx 1 Z (Qt (Lr [1]))
  refine Gc 3 Z (Bd h115 fun b142 h143 h115 => ?_)
  refine Ct b142 [0,1] [2,4,7,22,23,24] (fun _ => []) (fun b142 => [(1, .map (menc (fun x => A.int .i64 x) (fun x => A.agg (Fact.c x)) b142))]) (fun _ => rfl) ?_ (fun env H hle => ?_)
  ·refine G0 3 Z (Bd h143 fun x144 hx144 h143 => Iz hx144 Z (Go 15 Z (Bd h143 fun b149 h150 h143 => ?_)))
   refine Ct b149 [0,1,2,3] [2,4,7,9,10,22,23,24] (fun b149 => [(53, .bool b149)]) (fun _ => []) (fun _ => rfl) ?_ (fun env H hle => ?_)
   ·refine G0 5 Z (Is 33 h150 Z (fun hg151 h150 => ?_) (fun hg151 h150 => ?_))
    ·exact Go 21 Z (Cl h150 [0,1,2,3])
    ·refine Go 1 Z (Cz [] h150 (k_w _ _) Z fun r152 hr152 h150 => Go 3 Z (Is 38 h150 Z (fun hg153 h150 => ?_) (fun hg153 h150 => ?_)))
     ·exact Go 16 Z (Cl h150 [0,1,2,3])
     ·refine Go 4 Z (Lm Z (Go 3 Z (Is 46 h150 Z (fun hg154 h150 => ?_) (fun hg154 h150 => ?_))))
      ·exact Go 8 Z (Cl h150 [0,1,2,3])
      ·exact Go 4 Z (Lm Z (Go 3 Z (Cl h150 [0,1,2,3])))
   refine Gx 1 Z (TC.le hle (Cn Z h143 (fun hc155 h143 => ?_) (fun hc155 h143 => ?_)))
   ·exact Gc 3 Z (Cl h143 [0,1])
   refine Gc 7 Z (Bd h143 fun v156 hv156 h143 => ?_)
   refine vX (.tup [.agg (Fact.c v156), .bool (mhas s113.1 x144.Starter.Bib)]) (Qgz (ev := (fun x => A.agg (Fact.c x))) (z0 := z_Fact) (k := x144.Starter.Bib) (l := s113.1) Qbd hv156 underlying98 zeroValue81 (zrC Z)) ?_
   refine Go 9 Z (Bd h143 fun b159 h160 h143 => ?_)
   refine Ct b159 [0,1,2,3] [2,4,7,9,10,22,23,24] (fun b159 => [(68, .bool b159)]) (fun _ => []) (fun _ => rfl) ?_ (fun env H hle => ?_)
   ·refine G0 4 Z (Is 63 h160 Z (fun hg161 h160 => ?_) (fun hg161 h160 => ?_))
    ·exact Go 6 Z (Cl h160 [0,1,2,3])
    ·exact Go 2 Z (Cz [] h160 (k_ah _ _ _) Z fun r162 hr162 h160 => Go 3 Z (Cl h160 [0,1,2,3]))
   refine Gx 1 Z (TC.le hle (Bd h143 fun b165 h166 h143 => ?_))
   refine Ct b165 [0,1] [2,4,7,22,23,24] (fun _ => []) (fun b165 => [(1, .map (menc (fun x => A.int .i64 x) (fun x => A.agg (Fact.c x)) b165))]) (fun _ => rfl) ?_ (fun env H hle => ?_)
   ·refine G0 0 Z (Cn Z h166 (fun hc167 h166 => ?_) (fun hc167 h166 => ?_))
    ·refine Gc 5 Z (Bd h166 fun m168 hm168 h166 => ?_)
     refine vU (Q6 (ev := (fun x => A.agg (Fact.c x))) (k := x144.Starter.Bib) (v := x144) (l := s113.1) Qbd hm168 Z underlying98) ?_
     exact FE Z (Go 1 Z (Cl h166 [0,1]))
    exact Gc 1 Z (Cl h166 [0,1])
   refine Gx 1 Z ?_
   cases h143
   exact Qt (Le.trans hle (Lr [0, 1]))
  exact Gx 1 Z (TC.le hle (Gc 4 Z (Qf h115 (Lr [0, 1]))))
 refine Gx 1 Z (TC.le hle (Gc 4 Z ?_))
 refine vX (I (b110.length : Int)) (Qa7 (l := b110) underlying98 Z) ?_
 refine Go 3 Z (Cn Z h (fun hc169 h => ?_) (fun hc169 h => ?_))
 ·refine Gc 8 Z ?_
  obtain rfl := Oi h
  refine R2 4 5 Z Z ?_
  refine Le.trans (Le.phantom (s := 4) (k := 8) (t := 50) (Nat.le_of_ble_eq_true Z) Z) ?_
  exact Lr [1]
 refine Gc 4 Z ?_
 refine vH QV ?_
 refine FE Z (Go 7 Z (Cd [0] h (k_dc _ _) Z fun r170 hr170 h => FE Z (Go 4 Z (Bd h fun b184 h185 h => ?_))))
 refine CtE (b := b184) [0] [] (fun sb184 => [(4, .osl 0 0 sb184.length 8)]) (fun sb184 => [(0, .row 50 8 (List.map Starter.c sb184))]) (fun _ => rfl) ?_ (fun sb184 env H hbe hle => ?_)
 ·refine G0 1 Z ?_
  refine Lp [0,1,2] [13,79,80] (fun s187 => [(4, .osl 0 0 s187.1.length 8), (81, I s187.2.2)]) (fun s187 => [(0, .row 50 8 (List.map Starter.c s187.1)), (1, .map (menc (fun x => A.int .i64 x) A.bool s187.2.1))]) h185 (fun _ => rfl) ?_ ?_
  ·refine Le.trans (Le.phantom (s := 4) (k := 8) (t := 50) (Nat.le_of_ble_eq_true Z) Z) ?_
   exact Lr [3, 1, 2]
  intro s187 d188 h189 hb186
  refine G0 6 Z (Q1 Z h189 (fun hc190 h189 => ?_) (fun hc190 h189 => ?_))
  ·refine Gc 2 Z (Qg h189 ?_)
   obtain rfl := Oj hb186 h189
   exact Gx 1 Z (Qh Z (Lr [0]))
  refine Gc 6 Z (Bd h189 fun x191 hx191 h189 => ?_)
  refine vX (.ptr 2 (Int.toNat s187.2.2 * 57)) (QS hx191 Z runUnderlying34 sizeOf81) ?_
  refine vX (.agg (Fact.c x191)) (Ql Z isAgg81 sizeOf81 Z (Qu hx191) Z Z) ?_
  refine Go 11 Z (Bd h189 fun v192 hv192 h189 => ?_)
  refine vX (.bool v192) (Q5 (ev := A.bool) (z0 := false) (k := x191.Starter.Chip) (l := s187.2.1) Qbd hv192 underlying57 zeroValue4 ZR.bool) ?_
  refine Go 2 Z (Cn Z h189 (fun hc193 h189 => ?_) (fun hc193 h189 => ?_))
  ·refine Gc 10 Z (Qk h189 ?_)
   obtain rfl := Oj hb186 h189
   refine Gx 1 Z (Qi (Gx 1 Z ?_))
   obtain rfl := Oi h
   refine R2 4 5 Z Z ?_
   refine Le.trans (Le.phantom (s := 4) (k := 8) (t := 50) (Nat.le_of_ble_eq_true Z) Z) ?_
   exact Lr [4]
  refine Gc 8 Z (Bd h189 fun m194 hm194 h189 => ?_)
  refine vU (Q6 (ev := A.bool) (k := x191.Starter.Chip) (v := true) (l := s187.2.1) Qbd hm194 Z underlying57) ?_
  refine FE Z (Go 6 Z ?_)
  refine vH (OpH.lit (xs := [.tmp 96]) (es := List.map Starter.c [x191.Starter]) QjB Z Z Z Z Z ⟨Z, trivial⟩ Z Z) ?_
  refine FE Z (Bd h189 fun l195 hl195 h189 => ?_)
  refine vH (QF (e := Starter.c) hl195 QjB runUnderlying38 (Yg (i := 4))) ?_
  exact FE Z (Go 8 Z (Qf h189 (Lr [5, 1, 2])))
 subst hbe
 refine Gx 1 Z (TC.le hle (Gc 8 Z ?_))
 obtain rfl := Oi h
 exact R2 4 5 Z Z (Lr [0])
def F_go (n : Nat) (a1 : List (Pair × Bool)) : Option Unit :=
  some ()
theorem k_go (n : Nat) (a1 : List (Pair × Bool)) (r : Unit) (h : F_go n a1 = some r) :
    C prog 38 [.map 0] [.map (menc (fun x => A.agg (Pair.c x)) A.bool a1)] (RQ (fun _ => .fn (.func 66) [] [.ptr 1 0]) (fun _ => [.map (menc (fun x => A.agg (Pair.c x)) A.bool a1), .cells 103 [.map 0]]) r) := by
 refine Qb func38 Z Z Z ?_
 exact G0 13 Z (Rt h 2 [0,1])
def F_hh (n : Nat) (a1 : Pair) (a2 : Pair) : Option Int :=
  (F_u n a1.A a2.A).bind fun r1 => (F_u n a1.B a2.B).bind fun r2 => (F_ax n [r1, r2]).bind fun r3 => some r3
theorem k_hh (n : Nat) (a1 : Pair) (a2 : Pair) (r : Int) (h : F_hh n a1 a2 = some r) :
    Csm prog 39 [.agg (Pair.c a1), .agg (Pair.c a2)] [] (fun r => I r) r := by
 refine Qb func39 Z Z Z ?_
 refine G0 8 Z (DSs 9 Z (D 4 Z ?_))
 refine Dz [] h (k_u _ _ _) Z fun r1 hr1 h => D 4 Z (DS.done Z (Cz [] h (k_u _ _ _) Z fun r2 hr2 h => ?_))
 refine vH (Qay (xs := [.tmp 9, .tmp 14]) (es := List.map (encI .i64) [r1, r2]) QJ Z Z Z Z Z ⟨Z, Z, trivial⟩ Z Z) ?_
 exact FE Z (Cz [] h (k_ax _ _) Z fun r3 hr3 h => Go 4 Z (Rt h 4 []))
def F_hd (n : Nat) (a1 : List (Pair × Bool)) : Option (List Pair) :=
  anyK (List.map Prod.fst a1) fun p1 => (sortF (fun x y => F_hh n x y) p1).bind fun l4 => some l4
theorem k_hd (n : Nat) (a1 : List (Pair × Bool)) (r : List Pair) (h : F_hd n a1 = some r) :
    C prog 37 [.fn (.func 66) [] [.ptr 0 0], .fn (.func 39) [] []] [.cells 103 [.map 1], .map (menc (fun x => A.agg (Pair.c x)) A.bool a1)] (RQ (fun r => .osl 2 0 r.length 2) (fun r => [.dead, .fmap (menc (fun x => A.agg (Pair.c x)) A.bool a1), .row 59 2 (List.map Pair.c r)]) r) := by
 refine Qb func37 Z Z Z ?_
 refine G0 8 Z ?_
 refine WO.le (Qg1 (i := 1) Z) ?_
 refine Qgu (H := [.cells 103 [.map 1], .fmap (menc (fun x => A.agg (Pair.c x)) A.bool a1)]) Z ?_
 obtain ⟨h3, h⟩ := QgW h
 refine Qy [0, 1] (OpC.fn call64 Z Z Z) (Qj2 _ h3) ?_
 rintro _ _ ⟨p1, h2, rfl, rfl⟩
 have h := h p1 h2
 refine FE Z (Go 7 Z (Bd h fun l4 hl4 h => ?_))
 refine Qy [2] (OpC.fn call65 Z Z Z) (Qjp (enc := Pair.c) QeF hl4 (fun x y c h => k_hh n x y c h) isAgg59 sizeOf59 call39 (fun _ => rfl) Z) ?_
 rintro _ _ ⟨rfl, rfl⟩
 refine FE Z ?_
 refine WO.le (QW (s := 5) Z (congrArg (fun n => A.osl 2 0 n 2) (Qcg hl4))) ?_
 refine WO.le (QW (s := 7) Z (congrArg (fun n => A.osl 2 0 n 2) (Qcg hl4))) ?_
 refine WO.le (QW (s := 8) Z (congrArg (fun n => A.osl 2 0 n 2) (Qcg hl4))) ?_
 exact Go 9 Z (Rt h 4 [0,1,2])
def F_iw (n : Nat) (r1 : (List Starter) × Int) (s13 : (List (Int × Bool)) × Int) : Option (Ctl ((List (Int × Bool)) × Int) (List (Int × Bool))) :=
  (bif decide (s13.2 < (r1.1.length : Int)) then (idx r1.1 s13.2).bind fun x17 => (some (mset s13.1 x17.Bib true)).bind fun m18 => some (.cont (m18, IntKind.i64.wrap (s13.2 + 1))) else some (.done s13.1))
def F_ic (n : Nat) (a2 : List Fact) (b10 : List (Int × Bool)) (s67 : (List (Pair × Bool)) × Int) : Option (Ctl ((List (Pair × Bool)) × Int) (List (Pair × Bool))) :=
  (bif decide (s67.2 < (a2.length : Int)) then (idx a2 s67.2).bind fun x71 => ((bif (x71.Kind == 7) then (F_w n x71).bind fun r81 => (bif (r81 == 0) then (some (mgetD b10 x71.Pair.A false)).bind fun v83 => (bif v83 then (some (mgetD b10 x71.Pair.B false)).bind fun v85 => some v85 else some false) else some false) else some false) : Option Bool).bind fun b78 => ((bif b78 then (some (mset s67.1 x71.Pair true)).bind fun m91 => some m91 else some s67.1) : Option (List (Pair × Bool))).bind fun b88 => some (.cont (b88, IntKind.i64.wrap (s67.2 + 1))) else some (.done s67.1))
def F_hc (n : Nat) (a1 : Course) (a2 : List Fact) : Option ((List Pair) × Int) :=
  (F_ad n a1 a2).bind fun r1 => (bif (r1.2 != 0) then some ([], r1.2) else (iter (F_iw n r1) n ([], 0) : Option (List (Int × Bool))).bind fun b10 => (iter (F_ic n a2 b10) n ([], 0) : Option (List (Pair × Bool))).bind fun b64 => (bif decide (16 < (b64.length : Int)) then some ([], 2) else (F_go n b64).bind fun r93 => (F_hd n b64).bind fun r94 => some (r94, 0)))
theorem k_hc (n : Nat) (a1 : Course) (a2 : List Fact) (r : (List Pair) × Int) (h : F_hc n a1 a2 = some r) :
    C prog 15 [.agg (Course.c a1), .rsl 57 (List.map Fact.c a2)] [] (RQ (fun r => .tup [.osl 0 0 r.1.length 2, I r.2]) (fun r => [.row 59 2 (List.map Pair.c r.1)]) r) := by
 refine Qb func15 Z Z Z ?_
 refine G0 11 Z (Cd [] h (k_ad _ _ _) Z fun r1 hr1 h => FE Z (Go 14 Z (Cn Z h (fun hc2 h => ?_) (fun hc2 h => ?_))))
 ·refine Gc 9 Z ?_
  obtain rfl := Oi h
  refine R2 4 5 Z Z ?_
  refine Le.trans (Le.phantom (s := 4) (k := 2) (t := 59) (Nat.le_of_ble_eq_true Z) Z) ?_
  exact Lr [2]
 refine Gc 4 Z ?_
 refine vH QV ?_
 refine FE Z (Go 11 Z (Bd h fun b10 h11 h => ?_))
 refine Ct b10 [0] [1] (fun _ => [(7, .map 0)]) (fun b10 => [(0, .map (menc (fun x => A.int .i64 x) A.bool b10))]) (fun _ => rfl) ?_ (fun env H hle => ?_)
 ·refine G0 1 Z ?_
  refine Lp [2,1] [1,7,23,24] (fun s13 => [(25, I s13.2)]) (fun s13 => [(0, .map (menc (fun x => A.int .i64 x) A.bool s13.1))]) h11 (fun _ => rfl) (Lr [2, 1]) fun s13 d14 h15 hb12 => ?_
  refine G0 6 Z (Q1 Z h15 (fun hc16 h15 => ?_) (fun hc16 h15 => ?_))
  ·refine Gc 2 Z (Qg h15 ?_)
   obtain rfl := Oj hb12 h15
   exact Gx 1 Z (Qt (Lr [0]))
  refine Gc 6 Z (Bd h15 fun x17 hx17 h15 => ?_)
  refine vX (.ptr 1 (Int.toNat s13.2 * 8)) (QS hx17 Z runUnderlying38 sizeOf50) ?_
  refine vX (.agg (Starter.c x17)) (Ql Z isAgg50 sizeOf50 Z (Qu hx17) Z Z) ?_
  refine Go 8 Z (Bd h15 fun m18 hm18 h15 => ?_)
  refine vU (Q6 (ev := A.bool) (k := x17.Bib) (v := true) (l := s13.1) Qbd hm18 Z underlying57) ?_
  exact FE Z (Go 7 Z (Qf h15 (Lr [0, 1])))
 refine Gx 1 Z (TC.le hle (Gc 2 Z ?_))
 refine vH QV ?_
 refine FE Z (Go 7 Z (Lm Z (Go 3 Z (Bd h fun b64 h65 h => ?_))))
 refine Ct b64 [1] [10] (fun _ => []) (fun b64 => [(0, .map (menc (fun x => A.agg (Pair.c x)) A.bool b64))]) (fun _ => rfl) ?_ (fun env H hle => ?_)
 ·refine G0 1 Z ?_
  refine Lp [0,1] [7,10,34,35] (fun s67 => [(36, I s67.2)]) (fun s67 => [(1, .map (menc (fun x => A.agg (Pair.c x)) A.bool s67.1))]) h65 (fun _ => rfl) (Lr [0, 1]) fun s67 d68 h69 hb66 => ?_
  refine G0 6 Z (Q1 Z h69 (fun hc70 h69 => ?_) (fun hc70 h69 => ?_))
  ·refine Gc 2 Z (Qg h69 ?_)
   obtain rfl := Oj hb66 h69
   exact Gx 1 Z (Qt (Lr [1]))
  refine Gc 6 Z (Bd h69 fun x71 hx71 h69 => Iz hx71 Z (Go 6 Z (Bd h69 fun b78 h79 h69 => ?_)))
  refine Ct b78 [0,1,2] [7,10,12,34,35,36] (fun b78 => [(61, .bool b78)]) (fun _ => []) (fun _ => rfl) ?_ (fun env H hle => ?_)
  ·refine G0 5 Z (Is 43 h79 Z (fun hg80 h79 => ?_) (fun hg80 h79 => ?_))
   ·refine Go 1 Z (Cz [] h79 (k_w _ _) Z fun r81 hr81 h79 => Go 3 Z (Is 48 h79 Z (fun hg82 h79 => ?_) (fun hg82 h79 => ?_)))
    ·refine Go 4 Z (Bd h79 fun v83 hv83 h79 => ?_)
     refine vX (.bool v83) (Q5 (ev := A.bool) (z0 := false) (k := x71.Pair.A) (l := b10) Qbd hv83 underlying57 zeroValue4 ZR.bool) ?_ (gT Z)
     refine Go 2 Z (Is 55 h79 Z (fun hg84 h79 => ?_) (fun hg84 h79 => ?_))
     ·refine Go 4 Z (Bd h79 fun v85 hv85 h79 => ?_)
      refine vX (.bool v85) (Q5 (ev := A.bool) (z0 := false) (k := x71.Pair.B) (l := b10) Qbd hv85 underlying57 zeroValue4 ZR.bool) ?_ (gT Z)
      exact Go 2 Z (Cl h79 [0,1,2])
     ·exact Go 7 Z (Cl h79 [0,1,2])
    ·exact Go 14 Z (Cl h79 [0,1,2])
   ·exact Go 19 Z (Cl h79 [0,1,2])
  refine Gx 1 Z (TC.le hle (Bd h69 fun b88 h89 h69 => ?_))
  refine Ct b88 [0,1] [7,10,34,35,36] (fun _ => []) (fun b88 => [(1, .map (menc (fun x => A.agg (Pair.c x)) A.bool b88))]) (fun _ => rfl) ?_ (fun env H hle => ?_)
  ·refine G0 0 Z (Cn Z h89 (fun hc90 h89 => ?_) (fun hc90 h89 => ?_))
   ·refine Gc 4 Z (Bd h89 fun m91 hm91 h89 => ?_)
    refine vU (Q6 (ev := A.bool) (k := x71.Pair) (v := true) (l := s67.1) Qj7 hm91 Z underlying103) ?_
    exact FE Z (Go 1 Z (Cl h89 [0,1]))
   exact Gc 1 Z (Cl h89 [0,1])
  exact Gx 2 Z (TC.le hle (Gc 4 Z (Qf h69 (Lr [0, 1]))))
 refine Gx 1 Z (TC.le hle (Gc 4 Z ?_))
 refine vX (I (b64.length : Int)) (Qa7 (l := b64) underlying103 Z) ?_
 refine Go 3 Z (Cn Z h (fun hc92 h => ?_) (fun hc92 h => ?_))
 ·refine Gc 8 Z ?_
  obtain rfl := Oi h
  refine R2 4 5 Z Z ?_
  refine Le.trans (Le.phantom (s := 4) (k := 2) (t := 59) (Nat.le_of_ble_eq_true Z) Z) ?_
  exact Lr [1]
 refine Gc 5 Z (Cd [0] h (k_go _ _) Z fun r93 hr93 h => FE Z (Cd [1, 0] h (k_hd _ _) Z fun r94 hr94 h => FE Z (Go 5 Z ?_)))
 obtain rfl := Oi h
 exact R2 4 5 Z Z (Lr [2])
def F_hi (n : Nat) (a1 : Starter) (a2 : Int) : Option Unit :=
  some ()
theorem k_hi (n : Nat) (a1 : Starter) (a2 : Int) (r : Unit) (h : F_hi n a1 a2 = some r) :
    Csm prog 69 [.agg (Starter.c a1), .ptr 0 0] [.cells 3 [I a2]] (fun _ => .bool (a1.Bib == a2)) r := by
 refine Qb func69 Z Z Z ?_
 exact G0 16 Z (Rt h 3 [0])
def F_if (n : Nat) (a1 : List Starter) (a2 : Int) (s13 : Int) : Option (Ctl Int (Ctl Unit Int)) :=
  (bif decide (s13 < (a1.length : Int)) then (idx a1 s13).bind fun x17 => (F_hi n x17 a2).bind fun r18 => (bif (x17.Bib == a2) then some (.done (.done s13)) else some (.cont (IntKind.i64.wrap (s13 + 1)))) else some (.done (.cont ())))
def F_gq (n : Nat) (a1 : List Starter) (a2 : Int) : Option Int :=
  (iter (F_if n a1 a2) n 0 : Option (Ctl Unit Int)).bind fun b10 => match b10 with | .cont sb10 => (some (-1)) | .done sb10 => some sb10
theorem k_gq (n : Nat) (a1 : List Starter) (a2 : Int) (r : Int) (h : F_gq n a1 a2 = some r) :
    Csm prog 68 [.rsl 8 (List.map Starter.c a1), .fn (.func 69) [] [.ptr 0 0]] [.cells 3 [I a2]] (fun r => I r) r := by
 refine Qb func68 Z Z Z ?_
 refine G0 9 Z (Lm Z (Go 3 Z (Bd h fun b10 h11 h => ?_)))
 refine CtE (b := b10) [0] [] (fun _ => []) (fun _ => []) (fun _ => rfl) ?_ (fun sb10 env H hbe hle => ?_)
 ·refine G0 1 Z ?_
  refine Lp [0] [0,1,7] (fun s13 => [(8, I s13)]) (fun _ => []) h11 (fun _ => rfl) (Lr [0]) fun s13 d14 h15 hb12 => ?_
  refine G0 6 Z (Q1 Z h15 (fun hc16 h15 => ?_) (fun hc16 h15 => ?_))
  ·refine Gc 2 Z (Qg h15 ?_)
   obtain rfl := Oj hb12 h15
   exact Gx 1 Z (Qh Z (Lr [0]))
  refine Gc 15 Z (Bd h15 fun x17 hx17 h15 => Iz hx17 Z (Go 1 Z (Cz [0] h15 (k_hi _ _ _) Z fun r18 hr18 h15 => Go 2 Z (Cn Z h15 (fun hc19 h15 => ?_) (fun hc19 h15 => ?_)))))
  ·refine Gc 9 Z (Qk h15 ?_)
   obtain rfl := Oj hb12 h15
   exact Gx 1 Z (Qi (Gx 1 Z (Rt h 4 [0])))
  exact Gc 7 Z (Qf h15 (Lr [0]))
 subst hbe
 exact Gx 1 Z (TC.le hle (Gc 6 Z (Rt h 4 [0])))
def F_be (n : Nat) (a1 : List Starter) (a2 : Int) : Option (Starter × Bool) :=
  (F_gq n a1 a2).bind fun r1 => (bif decide (r1 < 0) then some (z_Starter, false) else (idx a1 r1).bind fun x3 => some (x3, true))
theorem k_be (n : Nat) (a1 : List Starter) (a2 : Int) (r : Starter × Bool) (h : F_be n a1 a2 = some r) :
    C prog 43 [.rsl 8 (List.map Starter.c a1), I a2] [] (RQ (fun r => .tup [.agg (Starter.c r.1), .bool r.2]) (fun r => [.cells 50 (Starter.c r.1)]) r) := by
 refine Qb func43 Z Z Z ?_
 refine G0 11 Z (Cz [0] h (k_gq _ _ _) Z fun r1 hr1 h => Go 10 Z (Cn Z h (fun hc2 h => ?_) (fun hc2 h => ?_)))
 ·refine Gc 9 Z ?_
  obtain rfl := Oi h
  exact Rx [1] [4,5] Z (Qz Z Z (ResL.cons (Qj isAgg50 sizeOf50 Z Z Z) (ResL.cons ResAt.tmp ResL.nil))) ⟨Z, Z⟩
 refine Gc 6 Z (Bd h fun x3 hx3 h => Iz hx3 Z (Go 6 Z ?_))
 obtain rfl := Oi h
 exact Rx [1] [4,5] Z (Qz Z Z (ResL.cons (Qj isAgg50 sizeOf50 Z Z Z) (ResL.cons ResAt.tmp ResL.nil))) ⟨Z, Z⟩
def F_ag (n : Nat) (a1 : List Starter) (a2 : List Pair) (a3 : Int) (a4 : Int) : Option (Int × Int) :=
  ((bif decide (a3 < 0) then some true else some (decide ((a2.length : Int) < a3))) : Option Bool).bind fun b2 => (bif b2 then some (0, 1) else ((bif decide (0 < a3) then (idx a2 (IntKind.i64.wrap (a3 - 1))).bind fun x17 => ((bif (a4 == x17.A) then some x17.B else (bif (a4 == x17.B) then some x17.A else some a4)) : Option Int).bind fun b20 => some b20 else some a4) : Option Int).bind fun b14 => (F_be n a1 a4).bind fun r24 => (F_be n a1 b14).bind fun r25 => ((bif (!r24.2) then some true else some (!r25.2)) : Option Bool).bind fun b27 => (bif b27 then some (0, 180) else some (r25.1.Chip, 0)))
theorem k_ag (n : Nat) (a1 : List Starter) (a2 : List Pair) (a3 : Int) (a4 : Int) (r : Int × Int) (h : F_ag n a1 a2 a3 a4 = some r) :
    Csm prog 19 [.rsl 8 (List.map Starter.c a1), .rsl 2 (List.map Pair.c a2), I a3, I a4] [] (fun r => .tup [I r.1, I r.2]) r := by
 refine Qb func19 Z Z Z ?_
 refine G0 8 Z (Bd h fun b2 h3 h => ?_)
 refine Ct b2 [] [0,1,2,3] (fun b2 => [(23, .bool b2)]) (fun _ => []) (fun _ => rfl) ?_ (fun env H hle => ?_)
 ·refine G0 4 Z (Is 18 h3 Z (fun hg4 h3 => ?_) (fun hg4 h3 => ?_))
  ·exact Go 6 Z (Cl h3 [])
  ·exact Go 2 Z (Lm Z (Go 3 Z (Cl h3 [])))
 refine Gx 1 Z (TC.le hle (Cn Z h (fun hc5 h => ?_) (fun hc5 h => ?_)))
 ·refine Gc 8 Z ?_
  obtain rfl := Oi h
  exact R2 8 9 Z Z (Lr [])
 refine Gc 15 Z (Bd h fun b14 h15 h => ?_)
 refine Ct b14 [] [0,3] (fun b14 => [(10, I b14)]) (fun _ => []) (fun _ => rfl) ?_ (fun env H hle => ?_)
 ·refine G0 0 Z (Cn Z h15 (fun hc16 h15 => ?_) (fun hc16 h15 => ?_))
  ·refine Gc 5 Z (Bd h15 fun x17 hx17 h15 => Iz hx17 Z (Go 19 Z (Bd h15 fun b20 h21 h15 => ?_)))
   refine Ct b20 [] [0,3] (fun b20 => [(10, I b20)]) (fun _ => []) (fun _ => rfl) ?_ (fun env H hle => ?_)
   ·refine G0 0 Z (Cn Z h21 (fun hc22 h21 => ?_) (fun hc22 h21 => ?_))
    ·exact Gc 5 Z (Cl h21 [])
    refine Gc 8 Z (Cn Z h21 (fun hc23 h21 => ?_) (fun hc23 h21 => ?_))
    ·exact Gc 5 Z (Cl h21 [])
    exact Gc 1 Z (Cl h21 [])
   refine Gx 1 Z ?_
   cases h15
   exact Qt (Le.trans hle (Lr []))
  exact Gc 1 Z (Cl h15 [])
 refine Gx 1 Z (TC.le hle (Gc 4 Z (Cd [] h (k_be _ _ _) Z fun r24 hr24 h => FE Z (Go 12 Z (Cd [] h (k_be _ _ _) Z fun r25 hr25 h => FE Z (Go 10 Z (Bd h fun b27 h28 h => ?_)))))))
 refine Ct b27 [3] [14] (fun b27 => [(62, .bool b27)]) (fun _ => []) (fun _ => rfl) ?_ (fun env H hle => ?_)
 ·refine G0 4 Z (Is 59 h28 Z (fun hg29 h28 => ?_) (fun hg29 h28 => ?_))
  ·exact Go 4 Z (Cl h28 [3])
  ·exact Go 4 Z (Cl h28 [3])
 refine Gx 1 Z (TC.le hle (Cn Z h (fun hc30 h => ?_) (fun hc30 h => ?_)))
 ·refine Gc 8 Z ?_
  obtain rfl := Oi h
  exact R2 8 9 Z Z (Lr [])
 refine Gc 11 Z ?_
 obtain rfl := Oi h
 exact R2 8 9 Z Z (Lr [])
def F_ib (n : Nat) (a1 : List Starter) (a2 : List Pair) (a3 : Int) (a4 : Int) (s21 : Int) : Option (Ctl Int (Ctl Unit (Int × Bool))) :=
  (bif decide (s21 < (a1.length : Int)) then (idx a1 s21).bind fun x25 => (F_ag n a1 a2 a3 x25.Bib).bind fun r26 => ((bif (r26.2 == 0) then some (r26.1 == a4) else some false) : Option Bool).bind fun b28 => (bif b28 then some (.done (.done (x25.Bib, true))) else some (.cont (IntKind.i64.wrap (s21 + 1)))) else some (.done (.cont ())))
def F_cm (n : Nat) (a1 : List Starter) (a2 : List Pair) (a3 : Int) (a4 : Int) : Option (Int × Bool) :=
  (iter (F_ib n a1 a2 a3 a4) n 0 : Option (Ctl Unit (Int × Bool))).bind fun b18 => match b18 with | .cont sb18 => (some (0, false)) | .done sb18 => some sb18
theorem k_cm (n : Nat) (a1 : List Starter) (a2 : List Pair) (a3 : Int) (a4 : Int) (r : Int × Bool) (h : F_cm n a1 a2 a3 a4 = some r) :
    Csm prog 21 [.rsl 8 (List.map Starter.c a1), .rsl 2 (List.map Pair.c a2), I a3, I a4] [] (fun r => .tup [I r.1, .bool r.2]) r := by
 refine Qb func21 Z Z Z ?_
 refine G0 10 Z (Lm Z (Go 3 Z (Bd h fun b18 h19 h => ?_)))
 refine CtE (b := b18) [] [] (fun _ => []) (fun _ => []) (fun _ => rfl) ?_ (fun sb18 env H hbe hle => ?_)
 ·refine G0 1 Z ?_
  refine Lp [] [0,1,2,3,14,15] (fun s21 => [(16, I s21)]) (fun _ => []) h19 (fun _ => rfl) (Lr []) fun s21 d22 h23 hb20 => ?_
  refine G0 6 Z (Q1 Z h23 (fun hc24 h23 => ?_) (fun hc24 h23 => ?_))
  ·refine Gc 2 Z (Qg h23 ?_)
   obtain rfl := Oj hb20 h23
   exact Gx 1 Z (Qh Z (Lr []))
  refine Gc 6 Z (Bd h23 fun x25 hx25 h23 => Iz hx25 Z (Go 12 Z (Cd [] h23 (k_ag _ _ _ _ _) Z fun r26 hr26 h23 => FE Z (Go 8 Z (Bd h23 fun b28 h29 h23 => ?_)))))
  refine Ct b28 [0] [0,1,2,3,11,14,15,16] (fun b28 => [(35, .bool b28)]) (fun _ => []) (fun _ => rfl) ?_ (fun env H hle => ?_)
  ·refine G0 4 Z (Is 31 h29 Z (fun hg30 h29 => ?_) (fun hg30 h29 => ?_))
   ·exact Go 5 Z (Cl h29 [0])
   ·exact Go 5 Z (Cl h29 [0])
  refine Gx 1 Z (TC.le hle (Cn Z h23 (fun hc31 h23 => ?_) (fun hc31 h23 => ?_)))
  ·refine Gc 11 Z (Qk h23 ?_)
   obtain rfl := Oj hb20 h23
   refine Gx 1 Z (Qi (Gx 1 Z ?_))
   obtain rfl := Oi h
   exact R2 8 9 Z Z (Lr [])
  exact Gc 7 Z (Qf h23 (Lr []))
 subst hbe
 refine Gx 1 Z (TC.le hle (Gc 7 Z ?_))
 obtain rfl := Oi h
 exact R2 8 9 Z Z (Lr [])
def F_cr (n : Nat) (a1 : List Pair) : Option Unit :=
  some ()
theorem k_cr (n : Nat) (a1 : List Pair) (r : Unit) (h : F_cr n a1 = some r) :
    Csm prog 23 [.rsl 2 (List.map Pair.c a1)] [] (fun _ => I (IntKind.i64.wrap ((a1.length : Int) + 1))) r := by
 refine Qb func23 Z Z Z ?_
 exact G0 8 Z (Lm Z (Go 5 Z (Rt h 2 [])))
def F_es (n : Nat) : Option Bool :=
  (F_ay n 2 3 30).bind fun r1 => (F_ay n 1 5 50).bind fun r2 => (F_ay n 3 5 99).bind fun r3 => (F_bg n).bind fun r4 => (F_ad n ({ Name := [115, 97, 109, 112, 108, 101], Mats := [{ Name := [108, 105, 110, 101], Kind := 1 : Mat }, { Name := [102, 105, 110, 105, 115, 104], Kind := 3 : Mat }], Legs := [{ From := 0, To := 1, Min := 10, Max := 100 : Leg }], Distances := [{ Name := [98, 114, 105, 101, 102], Route := [z_Part, { z_Part with Mat := 1 : Part }], Timing := 1, Cutoffs := [], Extra := (-1) : Distance }], Waves := [{ Name := [101, 108, 105, 116, 101], Gun := 0 : Wave }], Offences := [], Categories := [], Prizes := [], Ties := [{ z_Step with Kind := 1, By := 4 : Step }], Faults := z_Faults, Fee := 0, Deadline := 0 : Course }) [{ z_Fact with No := 1, At := 2, Kind := 1, Starter := { z_Starter with Bib := 3, Chip := 30 : Starter } : Fact }, { z_Fact with No := 1, At := 1, Kind := 1, Starter := { z_Starter with Bib := 5, Chip := 50 : Starter } : Fact }, { z_Fact with No := 1, At := 3, Kind := 1, Starter := { z_Starter with Bib := 5, Chip := 99 : Starter } : Fact }, { z_Fact with No := 1, Kind := 7, Pair := { A := 3, B := 5 : Pair } : Fact }, { z_Fact with No := 2, Kind := 7, Pair := { A := 3, B := 6 : Pair } : Fact }]).bind fun r5 => (F_bg n).bind fun r6 => (F_hc n ({ Name := [115, 97, 109, 112, 108, 101], Mats := [{ Name := [108, 105, 110, 101], Kind := 1 : Mat }, { Name := [102, 105, 110, 105, 115, 104], Kind := 3 : Mat }], Legs := [{ From := 0, To := 1, Min := 10, Max := 100 : Leg }], Distances := [{ Name := [98, 114, 105, 101, 102], Route := [z_Part, { z_Part with Mat := 1 : Part }], Timing := 1, Cutoffs := [], Extra := (-1) : Distance }], Waves := [{ Name := [101, 108, 105, 116, 101], Gun := 0 : Wave }], Offences := [], Categories := [], Prizes := [], Ties := [{ z_Step with Kind := 1, By := 4 : Step }], Faults := z_Faults, Fee := 0, Deadline := 0 : Course }) [{ z_Fact with No := 1, At := 2, Kind := 1, Starter := { z_Starter with Bib := 3, Chip := 30 : Starter } : Fact }, { z_Fact with No := 1, At := 1, Kind := 1, Starter := { z_Starter with Bib := 5, Chip := 50 : Starter } : Fact }, { z_Fact with No := 1, At := 3, Kind := 1, Starter := { z_Starter with Bib := 5, Chip := 99 : Starter } : Fact }, { z_Fact with No := 1, Kind := 7, Pair := { A := 3, B := 5 : Pair } : Fact }, { z_Fact with No := 2, Kind := 7, Pair := { A := 3, B := 6 : Pair } : Fact }]).bind fun r7 => (F_ag n r5.1 r7.1 1 3).bind fun r8 => (F_ag n [] [] 0 1).bind fun r9 => (F_ag n r5.1 [] 1 3).bind fun r10 => (F_cm n r5.1 r7.1 1 30).bind fun r11 => (F_cm n [] [] 0 1).bind fun r12 => ((bif (r5.2 == 0) then (bif ((r5.1.length : Int) == 2) then (idx r5.1 0).bind fun x26 => (bif (x26.Bib == 3) then (idx r5.1 1).bind fun x28 => (bif (x28.Chip == 50) then (bif (r7.2 == 0) then (bif ((r7.1.length : Int) == 1) then (idx r7.1 0).bind fun x32 => some (x32 == ({ A := 3, B := 5 : Pair })) else some false) else some false) else some false) else some false) else some false) else some false) : Option Bool).bind fun b22 => ((bif b22 then (F_cr n r7.1).bind fun r47 => (bif ((IntKind.i64.wrap ((r7.1.length : Int) + 1)) == 2) then (F_cr n []).bind fun r49 => (bif ((IntKind.i64.wrap ((([] : List Pair).length : Int) + 1)) == 1) then (bif (r8.2 == 0) then (bif (r8.1 == 50) then (bif (r9.2 == 180) then (bif (r10.2 == 1) then (bif r11.2 then (bif (r11.1 == 5) then some (!r12.2) else some false) else some false) else some false) else some false) else some false) else some false) else some false) else some false) else some false) : Option Bool).bind fun b44 => some b44
theorem k_es (n : Nat) (r : Bool) (h : F_es n = some r) :
    Csm prog 10 [] [] (fun r => .bool r) r := by
 refine Qb func10 Z Z Z ?_
 refine G0 7 Z (Cd [] h (k_ay _ _ _ _) Z fun r1 hr1 h => ?_)
 refine aV (.agg (Fact.c ({ z_Fact with No := 1, At := 2, Kind := 1, Starter := { z_Starter with Bib := 3, Chip := 30 : Starter } : Fact }))) [.cells 81 (Fact.c ({ z_Fact with No := 1, At := 2, Kind := 1, Starter := { z_Starter with Bib := 3, Chip := 30 : Starter } : Fact }))] Z Z ?_
 refine Cd [] h (k_ay _ _ _ _) Z fun r2 hr2 h => ?_
 refine aV (.agg (Fact.c ({ z_Fact with No := 1, At := 1, Kind := 1, Starter := { z_Starter with Bib := 5, Chip := 50 : Starter } : Fact }))) [_, .cells 81 (Fact.c ({ z_Fact with No := 1, At := 1, Kind := 1, Starter := { z_Starter with Bib := 5, Chip := 50 : Starter } : Fact }))] Z Z ?_
 refine Cd [] h (k_ay _ _ _ _) Z fun r3 hr3 h => ?_
 refine aV (.agg (Fact.c ({ z_Fact with No := 1, At := 3, Kind := 1, Starter := { z_Starter with Bib := 5, Chip := 99 : Starter } : Fact }))) [_, _, .cells 81 (Fact.c ({ z_Fact with No := 1, At := 3, Kind := 1, Starter := { z_Starter with Bib := 5, Chip := 99 : Starter } : Fact }))] Z Z ?_
 refine Go 4 Z ?_
 refine vH (OpH.lit (xs := [.tmp 17, .tmp 18, .tmp 19, .tmp 21, .tmp 23]) (es := List.map Fact.c [{ z_Fact with No := 1, At := 2, Kind := 1, Starter := { z_Starter with Bib := 3, Chip := 30 : Starter } : Fact }, { z_Fact with No := 1, At := 1, Kind := 1, Starter := { z_Starter with Bib := 5, Chip := 50 : Starter } : Fact }, { z_Fact with No := 1, At := 3, Kind := 1, Starter := { z_Starter with Bib := 5, Chip := 99 : Starter } : Fact }, { z_Fact with No := 1, Kind := 7, Pair := { A := 3, B := 5 : Pair } : Fact }, { z_Fact with No := 2, Kind := 7, Pair := { A := 3, B := 6 : Pair } : Fact }]) QiH Z Z Z Z Z ⟨Z, Z, Z, Z, Z, trivial⟩ Z Z) ?_
 refine aV (.osl 3 0 ([{ z_Fact with No := 1, At := 2, Kind := 1, Starter := { z_Starter with Bib := 3, Chip := 30 : Starter } : Fact }, { z_Fact with No := 1, At := 1, Kind := 1, Starter := { z_Starter with Bib := 5, Chip := 50 : Starter } : Fact }, { z_Fact with No := 1, At := 3, Kind := 1, Starter := { z_Starter with Bib := 5, Chip := 99 : Starter } : Fact }, { z_Fact with No := 1, Kind := 7, Pair := { A := 3, B := 5 : Pair } : Fact }, { z_Fact with No := 2, Kind := 7, Pair := { A := 3, B := 6 : Pair } : Fact }].length) 57) [_, _, _, .row 81 57 (List.map Fact.c [{ z_Fact with No := 1, At := 2, Kind := 1, Starter := { z_Starter with Bib := 3, Chip := 30 : Starter } : Fact }, { z_Fact with No := 1, At := 1, Kind := 1, Starter := { z_Starter with Bib := 5, Chip := 50 : Starter } : Fact }, { z_Fact with No := 1, At := 3, Kind := 1, Starter := { z_Starter with Bib := 5, Chip := 99 : Starter } : Fact }, { z_Fact with No := 1, Kind := 7, Pair := { A := 3, B := 5 : Pair } : Fact }, { z_Fact with No := 2, Kind := 7, Pair := { A := 3, B := 6 : Pair } : Fact }])] Z Z ?_
 refine Go 5 Z (Cd [] h (k_bg _) Z fun r4 hr4 h => ?_)
 refine aV (.agg [.str [115, 97, 109, 112, 108, 101], .osl 4 0 ([{ Name := [108, 105, 110, 101], Kind := 1 : Mat }, { Name := [102, 105, 110, 105, 115, 104], Kind := 3 : Mat }].length) 2, .osl 5 0 ([{ From := 0, To := 1, Min := 10, Max := 100 : Leg }].length) 4, .osl 6 0 ([{ Name := [98, 114, 105, 101, 102], Route := [z_Part, { z_Part with Mat := 1 : Part }], Timing := 1, Cutoffs := [], Extra := (-1) : Distance }].length) 5, .osl 7 0 ([{ Name := [101, 108, 105, 116, 101], Gun := 0 : Wave }].length) 2, .rsl 4 (List.map Offence.c []), .rsl 3 (List.map Category.c []), .rsl 4 (List.map Prize.c []), .osl 8 0 ([{ z_Step with Kind := 1, By := 4 : Step }].length) 8, I 0, I 0, I 0, I 0, I 0, I 0, I 0]) [_, _, _, _, .row 96 2 (List.map Mat.c [{ Name := [108, 105, 110, 101], Kind := 1 : Mat }, { Name := [102, 105, 110, 105, 115, 104], Kind := 3 : Mat }]), .row 123 4 (List.map Leg.c [{ From := 0, To := 1, Min := 10, Max := 100 : Leg }]), .row 94 5 (List.map Distance.c [{ Name := [98, 114, 105, 101, 102], Route := [z_Part, { z_Part with Mat := 1 : Part }], Timing := 1, Cutoffs := [], Extra := (-1) : Distance }]), .row 127 2 (List.map Wave.c [{ Name := [101, 108, 105, 116, 101], Gun := 0 : Wave }]), .row 132 8 (List.map Step.enc [{ z_Step with Kind := 1, By := 4 : Step }]), .cells 33 [.str [115, 97, 109, 112, 108, 101], .osl 4 0 ([{ Name := [108, 105, 110, 101], Kind := 1 : Mat }, { Name := [102, 105, 110, 105, 115, 104], Kind := 3 : Mat }].length) 2, .osl 5 0 ([{ From := 0, To := 1, Min := 10, Max := 100 : Leg }].length) 4, .osl 6 0 ([{ Name := [98, 114, 105, 101, 102], Route := [z_Part, { z_Part with Mat := 1 : Part }], Timing := 1, Cutoffs := [], Extra := (-1) : Distance }].length) 5, .osl 7 0 ([{ Name := [101, 108, 105, 116, 101], Gun := 0 : Wave }].length) 2, .rsl 4 (List.map Offence.c []), .rsl 3 (List.map Category.c []), .rsl 4 (List.map Prize.c []), .osl 8 0 ([{ z_Step with Kind := 1, By := 4 : Step }].length) 8, I 0, I 0, I 0, I 0, I 0, I 0, I 0]] Z Z ?_
 refine Go 1 Z ?_
 refine WO.le (QaW [(26, _)] Z Z (FzOv.cons Z (FzA.agg (FzL.cons (FzA.refl _) (FzL.cons FzA.o (FzL.refl _)))) FzOv.nil) (FzH.keep (FzH.keep (FzH.keep (FzH.keep (FzH.keep (FzH.keep (FzH.keep (FzH.keep (FzH.keep (FzH.cells (FzL.cons (FzA.refl _) (FzL.cons FzA.o (FzL.refl _))) (YJ _)))))))))))) ?_
 refine WO.le (QaW [(26, _)] Z Z (FzOv.cons Z (FzA.agg (FzL.cons (FzA.refl _) (FzL.cons (FzA.refl _) (FzL.cons FzA.o (FzL.refl _))))) FzOv.nil) (FzH.keep (FzH.keep (FzH.keep (FzH.keep (FzH.keep (FzH.keep (FzH.keep (FzH.keep (FzH.keep (FzH.cells (FzL.cons (FzA.refl _) (FzL.cons (FzA.refl _) (FzL.cons FzA.o (FzL.refl _)))) (YJ _)))))))))))) ?_
 refine WO.le (QaW [(26, _)] Z Z (FzOv.cons Z (FzA.agg (FzL.cons (FzA.refl _) (FzL.cons (FzA.refl _) (FzL.cons (FzA.refl _) (FzL.cons FzA.o (FzL.refl _)))))) FzOv.nil) (FzH.keep (FzH.keep (FzH.keep (FzH.keep (FzH.keep (FzH.keep (FzH.keep (FzH.keep (FzH.keep (FzH.cells (FzL.cons (FzA.refl _) (FzL.cons (FzA.refl _) (FzL.cons (FzA.refl _) (FzL.cons FzA.o (FzL.refl _))))) (YJ _)))))))))))) ?_
 refine WO.le (QaW [(26, _)] Z Z (FzOv.cons Z (FzA.agg (FzL.cons (FzA.refl _) (FzL.cons (FzA.refl _) (FzL.cons (FzA.refl _) (FzL.cons (FzA.refl _) (FzL.cons FzA.o (FzL.refl _))))))) FzOv.nil) (FzH.keep (FzH.keep (FzH.keep (FzH.keep (FzH.keep (FzH.keep (FzH.keep (FzH.keep (FzH.keep (FzH.cells (FzL.cons (FzA.refl _) (FzL.cons (FzA.refl _) (FzL.cons (FzA.refl _) (FzL.cons (FzA.refl _) (FzL.cons FzA.o (FzL.refl _)))))) (YJ _)))))))))))) ?_
 refine WO.le (QaW [(26, _)] Z Z (FzOv.cons Z (FzA.agg (FzL.cons (FzA.refl _) (FzL.cons (FzA.refl _) (FzL.cons (FzA.refl _) (FzL.cons (FzA.refl _) (FzL.cons (FzA.refl _) (FzL.cons (FzA.refl _) (FzL.cons (FzA.refl _) (FzL.cons (FzA.refl _) (FzL.cons FzA.o (FzL.refl _))))))))))) FzOv.nil) (FzH.keep (FzH.keep (FzH.keep (FzH.keep (FzH.keep (FzH.keep (FzH.keep (FzH.keep (FzH.keep (FzH.cells (FzL.cons (FzA.refl _) (FzL.cons (FzA.refl _) (FzL.cons (FzA.refl _) (FzL.cons (FzA.refl _) (FzL.cons (FzA.refl _) (FzL.cons (FzA.refl _) (FzL.cons (FzA.refl _) (FzL.cons (FzA.refl _) (FzL.cons FzA.o (FzL.refl _)))))))))) (YJ _)))))))))))) ?_
 refine WO.le (QaW [(1, _), (24, _), (27, _)] Z Z (FzOv.cons Z FzA.o (FzOv.cons Z FzA.o (FzOv.cons Z FzA.o FzOv.nil))) (FzH.keep (FzH.keep (FzH.keep (FzH.keep (YJ _)))))) ?_
 refine Cd [] h (k_ad _ _ _) Z fun r5 hr5 h => ?_
 refine aV (.tup [.osl 10 0 r5.1.length 8, I r5.2]) [_, _, _, .dead, .dead, .dead, .dead, .dead, .dead, .cells 33 [.str [115, 97, 109, 112, 108, 101], .rsl 2 (List.map Mat.c [{ Name := [108, 105, 110, 101], Kind := 1 : Mat }, { Name := [102, 105, 110, 105, 115, 104], Kind := 3 : Mat }]), .rsl 4 (List.map Leg.c [{ From := 0, To := 1, Min := 10, Max := 100 : Leg }]), .rsl 5 (List.map Distance.c [{ Name := [98, 114, 105, 101, 102], Route := [z_Part, { z_Part with Mat := 1 : Part }], Timing := 1, Cutoffs := [], Extra := (-1) : Distance }]), .rsl 2 (List.map Wave.c [{ Name := [101, 108, 105, 116, 101], Gun := 0 : Wave }]), .rsl 4 (List.map Offence.c []), .rsl 3 (List.map Category.c []), .rsl 4 (List.map Prize.c []), .rsl 8 (List.map Step.enc [{ z_Step with Kind := 1, By := 4 : Step }]), I 0, I 0, I 0, I 0, I 0, I 0, I 0], .row 50 8 (List.map Starter.c r5.1)] Z Z ?_
 refine Go 9 Z (Cd [] h (k_bg _) Z fun r6 hr6 h => ?_)
 refine aV (.agg [.str [115, 97, 109, 112, 108, 101], .osl 11 0 ([{ Name := [108, 105, 110, 101], Kind := 1 : Mat }, { Name := [102, 105, 110, 105, 115, 104], Kind := 3 : Mat }].length) 2, .osl 12 0 ([{ From := 0, To := 1, Min := 10, Max := 100 : Leg }].length) 4, .osl 13 0 ([{ Name := [98, 114, 105, 101, 102], Route := [z_Part, { z_Part with Mat := 1 : Part }], Timing := 1, Cutoffs := [], Extra := (-1) : Distance }].length) 5, .osl 14 0 ([{ Name := [101, 108, 105, 116, 101], Gun := 0 : Wave }].length) 2, .rsl 4 (List.map Offence.c []), .rsl 3 (List.map Category.c []), .rsl 4 (List.map Prize.c []), .osl 15 0 ([{ z_Step with Kind := 1, By := 4 : Step }].length) 8, I 0, I 0, I 0, I 0, I 0, I 0, I 0]) [_, _, _, _, _, _, _, _, _, _, _, .row 96 2 (List.map Mat.c [{ Name := [108, 105, 110, 101], Kind := 1 : Mat }, { Name := [102, 105, 110, 105, 115, 104], Kind := 3 : Mat }]), .row 123 4 (List.map Leg.c [{ From := 0, To := 1, Min := 10, Max := 100 : Leg }]), .row 94 5 (List.map Distance.c [{ Name := [98, 114, 105, 101, 102], Route := [z_Part, { z_Part with Mat := 1 : Part }], Timing := 1, Cutoffs := [], Extra := (-1) : Distance }]), .row 127 2 (List.map Wave.c [{ Name := [101, 108, 105, 116, 101], Gun := 0 : Wave }]), .row 132 8 (List.map Step.enc [{ z_Step with Kind := 1, By := 4 : Step }]), .cells 33 [.str [115, 97, 109, 112, 108, 101], .osl 11 0 ([{ Name := [108, 105, 110, 101], Kind := 1 : Mat }, { Name := [102, 105, 110, 105, 115, 104], Kind := 3 : Mat }].length) 2, .osl 12 0 ([{ From := 0, To := 1, Min := 10, Max := 100 : Leg }].length) 4, .osl 13 0 ([{ Name := [98, 114, 105, 101, 102], Route := [z_Part, { z_Part with Mat := 1 : Part }], Timing := 1, Cutoffs := [], Extra := (-1) : Distance }].length) 5, .osl 14 0 ([{ Name := [101, 108, 105, 116, 101], Gun := 0 : Wave }].length) 2, .rsl 4 (List.map Offence.c []), .rsl 3 (List.map Category.c []), .rsl 4 (List.map Prize.c []), .osl 15 0 ([{ z_Step with Kind := 1, By := 4 : Step }].length) 8, I 0, I 0, I 0, I 0, I 0, I 0, I 0]] Z Z ?_
 refine Go 1 Z ?_
 refine WO.le (QaW [(32, _)] Z Z (FzOv.cons Z (FzA.agg (FzL.cons (FzA.refl _) (FzL.cons FzA.o (FzL.refl _)))) FzOv.nil) (FzH.keep (FzH.keep (FzH.keep (FzH.keep (FzH.keep (FzH.keep (FzH.keep (FzH.keep (FzH.keep (FzH.keep (FzH.keep (FzH.keep (FzH.keep (FzH.keep (FzH.keep (FzH.keep (FzH.cells (FzL.cons (FzA.refl _) (FzL.cons FzA.o (FzL.refl _))) (YJ _))))))))))))))))))) ?_
 refine WO.le (QaW [(32, _)] Z Z (FzOv.cons Z (FzA.agg (FzL.cons (FzA.refl _) (FzL.cons (FzA.refl _) (FzL.cons FzA.o (FzL.refl _))))) FzOv.nil) (FzH.keep (FzH.keep (FzH.keep (FzH.keep (FzH.keep (FzH.keep (FzH.keep (FzH.keep (FzH.keep (FzH.keep (FzH.keep (FzH.keep (FzH.keep (FzH.keep (FzH.keep (FzH.keep (FzH.cells (FzL.cons (FzA.refl _) (FzL.cons (FzA.refl _) (FzL.cons FzA.o (FzL.refl _)))) (YJ _))))))))))))))))))) ?_
 refine WO.le (QaW [(32, _)] Z Z (FzOv.cons Z (FzA.agg (FzL.cons (FzA.refl _) (FzL.cons (FzA.refl _) (FzL.cons (FzA.refl _) (FzL.cons FzA.o (FzL.refl _)))))) FzOv.nil) (FzH.keep (FzH.keep (FzH.keep (FzH.keep (FzH.keep (FzH.keep (FzH.keep (FzH.keep (FzH.keep (FzH.keep (FzH.keep (FzH.keep (FzH.keep (FzH.keep (FzH.keep (FzH.keep (FzH.cells (FzL.cons (FzA.refl _) (FzL.cons (FzA.refl _) (FzL.cons (FzA.refl _) (FzL.cons FzA.o (FzL.refl _))))) (YJ _))))))))))))))))))) ?_
 refine WO.le (QaW [(32, _)] Z Z (FzOv.cons Z (FzA.agg (FzL.cons (FzA.refl _) (FzL.cons (FzA.refl _) (FzL.cons (FzA.refl _) (FzL.cons (FzA.refl _) (FzL.cons FzA.o (FzL.refl _))))))) FzOv.nil) (FzH.keep (FzH.keep (FzH.keep (FzH.keep (FzH.keep (FzH.keep (FzH.keep (FzH.keep (FzH.keep (FzH.keep (FzH.keep (FzH.keep (FzH.keep (FzH.keep (FzH.keep (FzH.keep (FzH.cells (FzL.cons (FzA.refl _) (FzL.cons (FzA.refl _) (FzL.cons (FzA.refl _) (FzL.cons (FzA.refl _) (FzL.cons FzA.o (FzL.refl _)))))) (YJ _))))))))))))))))))) ?_
 refine WO.le (QaW [(32, _)] Z Z (FzOv.cons Z (FzA.agg (FzL.cons (FzA.refl _) (FzL.cons (FzA.refl _) (FzL.cons (FzA.refl _) (FzL.cons (FzA.refl _) (FzL.cons (FzA.refl _) (FzL.cons (FzA.refl _) (FzL.cons (FzA.refl _) (FzL.cons (FzA.refl _) (FzL.cons FzA.o (FzL.refl _))))))))))) FzOv.nil) (FzH.keep (FzH.keep (FzH.keep (FzH.keep (FzH.keep (FzH.keep (FzH.keep (FzH.keep (FzH.keep (FzH.keep (FzH.keep (FzH.keep (FzH.keep (FzH.keep (FzH.keep (FzH.keep (FzH.cells (FzL.cons (FzA.refl _) (FzL.cons (FzA.refl _) (FzL.cons (FzA.refl _) (FzL.cons (FzA.refl _) (FzL.cons (FzA.refl _) (FzL.cons (FzA.refl _) (FzL.cons (FzA.refl _) (FzL.cons (FzA.refl _) (FzL.cons FzA.o (FzL.refl _)))))))))) (YJ _))))))))))))))))))) ?_
 refine Cd [] h (k_hc _ _ _) Z fun r7 hr7 h => ?_
 refine aV (.tup [.osl 17 0 r7.1.length 2, I r7.2]) [_, _, _, _, _, _, _, _, _, _, _, .dead, .dead, .dead, .dead, .dead, .cells 33 [.str [115, 97, 109, 112, 108, 101], .rsl 2 (List.map Mat.c [{ Name := [108, 105, 110, 101], Kind := 1 : Mat }, { Name := [102, 105, 110, 105, 115, 104], Kind := 3 : Mat }]), .rsl 4 (List.map Leg.c [{ From := 0, To := 1, Min := 10, Max := 100 : Leg }]), .rsl 5 (List.map Distance.c [{ Name := [98, 114, 105, 101, 102], Route := [z_Part, { z_Part with Mat := 1 : Part }], Timing := 1, Cutoffs := [], Extra := (-1) : Distance }]), .rsl 2 (List.map Wave.c [{ Name := [101, 108, 105, 116, 101], Gun := 0 : Wave }]), .rsl 4 (List.map Offence.c []), .rsl 3 (List.map Category.c []), .rsl 4 (List.map Prize.c []), .rsl 8 (List.map Step.enc [{ z_Step with Kind := 1, By := 4 : Step }]), I 0, I 0, I 0, I 0, I 0, I 0, I 0], .row 59 2 (List.map Pair.c r7.1)] Z Z ?_
 refine Go 11 Z (Bd h fun r8 hr8 h => ?_)
 refine Qbo (OpC.fn call19 rfl rfl rfl) (LookL.cons rfl (.inr ⟨_, _, _, _, _, rfl, rfl, List.length_map .., rfl⟩) (LookL.cons rfl (.inr ⟨_, _, _, _, _, rfl, rfl, List.length_map .., rfl⟩) (LookL.cons rfl (.inl ⟨rfl, rfl⟩) (LookL.cons rfl (.inl ⟨rfl, rfl⟩) LookL.nil)))) (k_ag _ _ _ _ _ _ hr8) (by rintro _ _ ⟨rfl, rfl⟩; rfl) ?_
 rintro _ _ ⟨rfl, rfl⟩
 refine aV (.tup [I r8.1, I r8.2]) [_, _, _, _, _, _, _, _, _, _, _, _, _, _, _, _, _, _] Z Z ?_
 refine Go 9 Z (Bd h fun r9 hr9 h => ?_)
 refine Qy [] (OpC.fn call19 Z Z Z) (C.nils (NilL.nl (NilL.nl (NilL.eq (NilL.eq NilL.nil)))) (k_ag _ _ _ _ _ _ hr9)) ?_
 rintro _ _ ⟨rfl, rfl⟩
 refine aV (.tup [I r9.1, I r9.2]) [_, _, _, _, _, _, _, _, _, _, _, _, _, _, _, _, _, _] Z Z ?_
 refine Go 10 Z (Bd h fun r10 hr10 h => ?_)
 refine Qbo (OpC.fn call19 rfl rfl rfl) (LookL.cons rfl (.inr ⟨_, _, _, _, _, rfl, rfl, List.length_map .., rfl⟩) (LookL.cons rfl (.inl ⟨rfl, rfl⟩) (LookL.cons rfl (.inl ⟨rfl, rfl⟩) (LookL.cons rfl (.inl ⟨rfl, rfl⟩) LookL.nil)))) (C.nils (NilL.eq (NilL.nl (NilL.eq (NilL.eq NilL.nil)))) (k_ag _ _ _ _ _ _ hr10)) (by rintro _ _ ⟨rfl, rfl⟩; rfl) ?_
 rintro _ _ ⟨rfl, rfl⟩
 refine aV (.tup [I r10.1, I r10.2]) [_, _, _, _, _, _, _, _, _, _, _, _, _, _, _, _, _, _] Z Z ?_
 refine Go 11 Z (Bd h fun r11 hr11 h => ?_)
 refine Qbo (OpC.fn call21 rfl rfl rfl) (LookL.cons rfl (.inr ⟨_, _, _, _, _, rfl, rfl, List.length_map .., rfl⟩) (LookL.cons rfl (.inr ⟨_, _, _, _, _, rfl, rfl, List.length_map .., rfl⟩) (LookL.cons rfl (.inl ⟨rfl, rfl⟩) (LookL.cons rfl (.inl ⟨rfl, rfl⟩) LookL.nil)))) (k_cm _ _ _ _ _ _ hr11) (by rintro _ _ ⟨rfl, rfl⟩; rfl) ?_
 rintro _ _ ⟨rfl, rfl⟩
 refine aV (.tup [I r11.1, .bool r11.2]) [_, _, _, _, _, _, _, _, _, _, _, _, _, _, _, _, _, _] Z Z ?_
 refine Go 9 Z (Bd h fun r12 hr12 h => ?_)
 refine Qy [] (OpC.fn call21 Z Z Z) (C.nils (NilL.nl (NilL.nl (NilL.eq (NilL.eq NilL.nil)))) (k_cm _ _ _ _ _ _ hr12)) ?_
 rintro _ _ ⟨rfl, rfl⟩
 refine aV (.tup [I r12.1, .bool r12.2]) [_, _, _, _, _, _, _, _, _, _, _, _, _, _, _, _, _, _] Z Z ?_
 refine Go 8 Z (Bd h fun b22 h23 h => ?_)
 refine Ct b22 [17] [4,6,7,9,11,12,13,15] (fun b22 => [(16, .bool b22)]) (fun _ => []) (fun _ => rfl) ?_ (fun env H hle => ?_)
 ·refine G0 4 Z (Is 64 h23 Z (fun hg24 h23 => ?_) (fun hg24 h23 => ?_))
  ·refine Go 5 Z (Is 69 h23 Z (fun hg25 h23 => ?_) (fun hg25 h23 => ?_))
   ·refine Go 1 Z (Bd h23 fun x26 hx26 h23 => ?_)
    refine vX (.ptr 10 (Int.toNat 0 * 8)) (QS hx26 Z runUnderlying38 sizeOf50) ?_ (gT Z)
    refine Fpg (gT Z) QgQ Z ?_
    refine vX (I x26.Bib) (OpV.load Z isAgg3 Z (Qu hx26)) ?_ (gT Z)
    refine Go 3 Z (Is 76 h23 Z (fun hg27 h23 => ?_) (fun hg27 h23 => ?_))
    ·refine Go 1 Z (Bd h23 fun x28 hx28 h23 => ?_)
     refine vX (.ptr 10 (Int.toNat 1 * 8)) (QS hx28 Z runUnderlying38 sizeOf50) ?_ (gT Z)
     refine Fpg (gT Z) Qjb Z ?_
     refine vX (I x28.Chip) (OpV.load Z isAgg3 Z (Qhz hx28)) ?_ (gT Z)
     refine Go 3 Z (Is 83 h23 Z (fun hg29 h23 => ?_) (fun hg29 h23 => ?_))
     ·refine Go 4 Z (Is 87 h23 Z (fun hg30 h23 => ?_) (fun hg30 h23 => ?_))
      ·refine Go 5 Z (Is 92 h23 Z (fun hg31 h23 => ?_) (fun hg31 h23 => ?_))
       ·refine Go 1 Z (Bd h23 fun x32 hx32 h23 => ?_)
        refine vX (.ptr 17 (Int.toNat 0 * 2)) (QS hx32 Z runUnderlying42 sizeOf59) ?_ (gT Z)
        refine vX (.agg (Pair.c x32)) (Ql Z isAgg59 sizeOf59 Z (Qu hx32) Z Z) ?_ (gT Z)
        refine Go 1 Z ?_
        refine vX (.bool (x32 == ({ A := 3, B := 5 : Pair }))) (Qcx (p := x32) (q := { A := 3, B := 5 : Pair }) Qkd Z Z) ?_ (gT Z)
        exact Go 3 Z (Cl h23 [17])
       ·exact Go 8 Z (Cl h23 [17])
      ·exact Go 13 Z (Cl h23 [17])
     ·exact Go 17 Z (Cl h23 [17])
    ·exact Go 24 Z (Cl h23 [17])
   ·exact Go 31 Z (Cl h23 [17])
  ·exact Go 36 Z (Cl h23 [17])
 refine Gx 1 Z (TC.le hle (Gc 1 Z (Bd h fun b44 h45 h => ?_)))
 refine Ct b44 [] [] (fun b44 => [(0, .bool b44)]) (fun _ => []) (fun _ => rfl) ?_ (fun env H hle => ?_)
 ·refine G0 3 Z (Is 100 h45 Z (fun hg46 h45 => ?_) (fun hg46 h45 => ?_))
  ·refine Go 1 Z (Cb h45 (k_cr _ _) Z (lo ln) fun r47 hr47 h45 => Go 3 Z (Is 105 h45 Z (fun hg48 h45 => ?_) (fun hg48 h45 => ?_)))
   ·refine Bd h45 fun r49 hr49 h45 => ?_
    refine Qy [] (OpC.fn call23 Z Z Z) (C.nils (NilL.nl NilL.nil) (k_cr _ _ _ hr49)) ?_ (hg := (gT Z))
    rintro _ _ ⟨rfl, rfl⟩
    refine Qgt (x := (I (IntKind.i64.wrap ((([] : List Pair).length : Int) + 1)))) (H := [_]) Z Z ?_
    refine Go 3 Z (Is 109 h45 Z (fun hg50 h45 => ?_) (fun hg50 h45 => ?_))
    ·refine Go 4 Z (Is 113 h45 Z (fun hg51 h45 => ?_) (fun hg51 h45 => ?_))
     ·refine Go 4 Z (Is 117 h45 Z (fun hg52 h45 => ?_) (fun hg52 h45 => ?_))
      ·refine Go 4 Z (Is 121 h45 Z (fun hg53 h45 => ?_) (fun hg53 h45 => ?_))
       ·refine Go 4 Z (Is 125 h45 Z (fun hg54 h45 => ?_) (fun hg54 h45 => ?_))
        ·refine Go 3 Z (Is 128 h45 Z (fun hg55 h45 => ?_) (fun hg55 h45 => ?_))
         ·refine Go 4 Z (Is 132 h45 Z (fun hg56 h45 => ?_) (fun hg56 h45 => ?_))
          ·exact Go 5 Z (Cl h45 [])
          ·exact Go 5 Z (Cl h45 [])
         ·exact Go 9 Z (Cl h45 [])
        ·exact Go 12 Z (Cl h45 [])
       ·exact Go 16 Z (Cl h45 [])
      ·exact Go 20 Z (Cl h45 [])
     ·exact Go 24 Z (Cl h45 [])
    ·exact Go 28 Z (Cl h45 [])
   ·exact Go 32 Z (Cl h45 [])
  ·exact Go 37 Z (Cl h45 [])
 exact Gx 1 Z (TC.le hle (Gc 1 Z (Rt h 0 [])))
def F_fm (n : Nat) (a1 : List Part) (a2 : Int) (rec177 : (List Part) -> Int -> Option Int) (s20 : Int × Int) : Option (Ctl (Int × Int) Int) :=
  ((bif decide (s20.2 < (a1.length : Int)) then some (decide (s20.1 < 500)) else some false) : Option Bool).bind fun b24 => (bif b24 then (idx a1 s20.2).bind fun x28 => (rec177 x28.Parts (IntKind.i64.wrap (a2 + 1))).bind fun r29 => some (.cont (IntKind.i64.wrap (s20.1 + r29), IntKind.i64.wrap (s20.2 + 1))) else some (.done s20.1))
def B_o (rec177 : (List Part) -> Int -> Option Int) (n : Nat) (a1 : List Part) (a2 : Int) : Option Int :=
  (bif decide (20 < a2) then some 500 else (iter (F_fm n a1 a2 rec177) n ((a1.length : Int), 0) : Option Int).bind fun b17 => some b17)
theorem QaQ (rec177 : (List Part) -> Int -> Option Int) (hrec177 : ∀ (a1 : List Part) (a2 : Int) (r : Int), rec177 a1 a2 = some r -> Csm prog 31 [.rsl 3 (List.map Part.enc a1), I a2] [] (fun r => I r) r) (n : Nat) (a1 : List Part) (a2 : Int) (r : Int) (h : B_o rec177 n a1 a2 = some r) :
    Csm prog 31 [.rsl 3 (List.map Part.enc a1), I a2] [] (fun r => I r) r := by
 refine Qb func31 Z Z Z ?_
 refine G0 8 Z (Lm Z (Go 10 Z (Cn Z h (fun hc1 h => ?_) (fun hc1 h => ?_))))
 ·exact Gc 7 Z (Rt h 4 [])
 refine Gc 8 Z (Bd h fun b17 h18 h => ?_)
 refine Ct b17 [] [] (fun b17 => [(5, I b17)]) (fun _ => []) (fun _ => rfl) ?_ (fun env H hle => ?_)
 ·refine G0 1 Z ?_
  refine Lp [] [0,1] (fun s20 => [(5, I s20.1), (6, I s20.2)]) (fun _ => []) h18 (fun _ => rfl) (Lr []) fun s20 d21 h22 hb19 => ?_
  refine G0 2 Z (Bd h22 fun b24 h25 h22 => ?_)
  refine Ct b24 [] [0,1,5,6] (fun b24 => [(18, .bool b24)]) (fun _ => []) (fun _ => rfl) ?_ (fun env H hle => ?_)
  ·refine G0 3 Z (Lm Z (Go 2 Z (Is 15 h25 Z (fun hg26 h25 => ?_) (fun hg26 h25 => ?_))))
   ·exact Go 4 Z (Cl h25 [])
   ·exact Go 4 Z (Cl h25 [])
  refine Gx 1 Z (TC.le hle (Q1 Z h22 (fun hc27 h22 => ?_) (fun hc27 h22 => ?_)))
  ·refine Gc 2 Z (Qg h22 ?_)
   obtain rfl := Oj hb19 h22
   exact Gx 1 Z (Qt (Lr []))
  exact Gc 8 Z (Bd h22 fun x28 hx28 h22 => IzE hx28 (QB x28) Z (Go 4 Z (Cz [] h22 (hrec177 _ _) Z fun r29 hr29 h22 => Go 10 Z (Qf h22 (Lr [])))))
 exact Gx 1 Z (TC.le hle (Gc 7 Z (Rt h 4 [])))
def F_o : Nat -> (List Part) -> Int -> Option Int
  | 0 => fun _ _ => none
  | n + 1 => B_o (F_o n) n
theorem k_o (n : Nat) : ∀ (a1 : List Part) (a2 : Int) (r : Int), F_o n a1 a2 = some r -> Csm prog 31 [.rsl 3 (List.map Part.enc a1), I a2] [] (fun r => I r) r := by
  induction n with
  | zero => intro a1 a2 r h; cases h
  | succ n ih => intro a1 a2 r h; exact QaQ _ ih n a1 a2 r h
def F_ex (n : Nat) (a1 : List Cond) (a2 : Int) (rec179 : (List Cond) -> Int -> Option Int) (s20 : Int × Int) : Option (Ctl (Int × Int) Int) :=
  ((bif decide (s20.2 < (a1.length : Int)) then some (decide (s20.1 < 500)) else some false) : Option Bool).bind fun b24 => (bif b24 then (idx a1 s20.2).bind fun x28 => (rec179 x28.Parts (IntKind.i64.wrap (a2 + 1))).bind fun r29 => some (.cont (IntKind.i64.wrap (s20.1 + r29), IntKind.i64.wrap (s20.2 + 1))) else some (.done s20.1))
def B_k (rec179 : (List Cond) -> Int -> Option Int) (n : Nat) (a1 : List Cond) (a2 : Int) : Option Int :=
  (bif decide (20 < a2) then some 500 else (iter (F_ex n a1 a2 rec179) n ((a1.length : Int), 0) : Option Int).bind fun b17 => some b17)
theorem QaG (rec179 : (List Cond) -> Int -> Option Int) (hrec179 : ∀ (a1 : List Cond) (a2 : Int) (r : Int), rec179 a1 a2 = some r -> Csm prog 52 [.rsl 4 (List.map Cond.enc a1), I a2] [] (fun r => I r) r) (n : Nat) (a1 : List Cond) (a2 : Int) (r : Int) (h : B_k rec179 n a1 a2 = some r) :
    Csm prog 52 [.rsl 4 (List.map Cond.enc a1), I a2] [] (fun r => I r) r := by
 refine Qb func52 Z Z Z ?_
 refine G0 8 Z (Lm Z (Go 10 Z (Cn Z h (fun hc1 h => ?_) (fun hc1 h => ?_))))
 ·exact Gc 7 Z (Rt h 4 [])
 refine Gc 8 Z (Bd h fun b17 h18 h => ?_)
 refine Ct b17 [] [] (fun b17 => [(5, I b17)]) (fun _ => []) (fun _ => rfl) ?_ (fun env H hle => ?_)
 ·refine G0 1 Z ?_
  refine Lp [] [0,1] (fun s20 => [(5, I s20.1), (6, I s20.2)]) (fun _ => []) h18 (fun _ => rfl) (Lr []) fun s20 d21 h22 hb19 => ?_
  refine G0 2 Z (Bd h22 fun b24 h25 h22 => ?_)
  refine Ct b24 [] [0,1,5,6] (fun b24 => [(18, .bool b24)]) (fun _ => []) (fun _ => rfl) ?_ (fun env H hle => ?_)
  ·refine G0 3 Z (Lm Z (Go 2 Z (Is 15 h25 Z (fun hg26 h25 => ?_) (fun hg26 h25 => ?_))))
   ·exact Go 4 Z (Cl h25 [])
   ·exact Go 4 Z (Cl h25 [])
  refine Gx 1 Z (TC.le hle (Q1 Z h22 (fun hc27 h22 => ?_) (fun hc27 h22 => ?_)))
  ·refine Gc 2 Z (Qg h22 ?_)
   obtain rfl := Oj hb19 h22
   exact Gx 1 Z (Qt (Lr []))
  exact Gc 8 Z (Bd h22 fun x28 hx28 h22 => IzE hx28 (Ym x28) Z (Go 4 Z (Cz [] h22 (hrec179 _ _) Z fun r29 hr29 h22 => Go 10 Z (Qf h22 (Lr [])))))
 exact Gx 1 Z (TC.le hle (Gc 7 Z (Rt h 4 [])))
def F_k : Nat -> (List Cond) -> Int -> Option Int
  | 0 => fun _ _ => none
  | n + 1 => B_k (F_k n) n
theorem k_k (n : Nat) : ∀ (a1 : List Cond) (a2 : Int) (r : Int), F_k n a1 a2 = some r -> Csm prog 52 [.rsl 4 (List.map Cond.enc a1), I a2] [] (fun r => I r) r := by
  induction n with
  | zero => intro a1 a2 r h; cases h
  | succ n ih => intro a1 a2 r h; exact QaG _ ih n a1 a2 r h
def F_eg (n : Nat) (a1 : List Step) (a2 : Int) (rec178 : (List Step) -> Int -> Option Int) (s28 : Int × Int) : Option (Ctl (Int × Int) Int) :=
  ((bif decide (s28.2 < (a1.length : Int)) then some (decide (s28.1 < 500)) else some false) : Option Bool).bind fun b32 => (bif b32 then (idx a1 s28.2).bind fun x36 => (F_k n [x36.Cond] 0).bind fun r37 => (idx a1 s28.2).bind fun x38 => (rec178 x38.Then (IntKind.i64.wrap (a2 + 1))).bind fun r39 => (idx a1 s28.2).bind fun x40 => (rec178 x40.Else (IntKind.i64.wrap (a2 + 1))).bind fun r41 => some (.cont (IntKind.i64.wrap ((IntKind.i64.wrap ((IntKind.i64.wrap (s28.1 + r37)) + r39)) + r41), IntKind.i64.wrap (s28.2 + 1))) else some (.done s28.1))
def B_n (rec178 : (List Step) -> Int -> Option Int) (n : Nat) (a1 : List Step) (a2 : Int) : Option Int :=
  (bif decide (20 < a2) then some 500 else (iter (F_eg n a1 a2 rec178) n ((a1.length : Int), 0) : Option Int).bind fun b25 => some b25)
theorem QaF (rec178 : (List Step) -> Int -> Option Int) (hrec178 : ∀ (a1 : List Step) (a2 : Int) (r : Int), rec178 a1 a2 = some r -> Csm prog 32 [.rsl 8 (List.map Step.enc a1), I a2] [] (fun r => I r) r) (n : Nat) (a1 : List Step) (a2 : Int) (r : Int) (h : B_n rec178 n a1 a2 = some r) :
    Csm prog 32 [.rsl 8 (List.map Step.enc a1), I a2] [] (fun r => I r) r := by
 refine Qb func32 Z Z Z ?_
 refine G0 8 Z (Lm Z (Go 10 Z (Cn Z h (fun hc1 h => ?_) (fun hc1 h => ?_))))
 ·exact Gc 7 Z (Rt h 4 [])
 refine Gc 8 Z (Bd h fun b25 h26 h => ?_)
 refine Ct b25 [] [] (fun b25 => [(5, I b25)]) (fun _ => []) (fun _ => rfl) ?_ (fun env H hle => ?_)
 ·refine G0 1 Z ?_
  refine Lp [] [0,1] (fun s28 => [(5, I s28.1), (6, I s28.2)]) (fun _ => []) h26 (fun _ => rfl) (Lr []) fun s28 d29 h30 hb27 => ?_
  refine G0 2 Z (Bd h30 fun b32 h33 h30 => ?_)
  refine Ct b32 [] [0,1,5,6] (fun b32 => [(18, .bool b32)]) (fun _ => []) (fun _ => rfl) ?_ (fun env H hle => ?_)
  ·refine G0 3 Z (Lm Z (Go 2 Z (Is 15 h33 Z (fun hg34 h33 => ?_) (fun hg34 h33 => ?_))))
   ·exact Go 4 Z (Cl h33 [])
   ·exact Go 4 Z (Cl h33 [])
  refine Gx 1 Z (TC.le hle (Q1 Z h30 (fun hc35 h30 => ?_) (fun hc35 h30 => ?_)))
  ·refine Gc 2 Z (Qg h30 ?_)
   obtain rfl := Oj hb27 h30
   exact Gx 1 Z (Qt (Lr []))
  refine Gc 4 Z (DSs 26 Z (D 3 Z ?_))
  obtain ⟨x36, hx36, h30⟩ := bnd h30
  refine DS.v (x := (.rp [I x36.Kind, I x36.By, I x36.Cond.Kind, I x36.Cond.Var, I x36.Cond.N, .rsl 4 (List.map Cond.enc x36.Cond.Parts), .rsl 8 (List.map Step.enc x36.Then), .rsl 8 (List.map Step.enc x36.Else)])) (QdP (e := Step.enc) hx36 (QK x36) runUnderlying29 sizeOf132) ?_
  refine D 2 Z ?_
  refine DS.wo (x := .rsl 4 (List.map Cond.enc [x36.Cond])) ?_ ?_
  ·refine vH (Qay (xs := [.tmp 26]) (es := [Cond.c x36.Cond]) Qkf Z Z Z Z Z ⟨Z, trivial⟩ Z Z) ?_
   refine Qgt (x := (.rsl 4 (List.map Cond.enc [x36.Cond]))) (H := []) (by simp [Ym]) Z ?_
   exact Wp
  refine Dz [] h30 (k_k _ _ _) Z fun r37 hr37 h30 => D 3 Z ?_
  obtain ⟨x38, hx38, h30⟩ := bnd h30
  refine DS.v (x := (.rp [I x38.Kind, I x38.By, I x38.Cond.Kind, I x38.Cond.Var, I x38.Cond.N, .rsl 4 (List.map Cond.enc x38.Cond.Parts), .rsl 8 (List.map Step.enc x38.Then), .rsl 8 (List.map Step.enc x38.Else)])) (QdP (e := Step.enc) hx38 (QK x38) runUnderlying29 sizeOf132) ?_
  refine D 4 Z ?_
  refine Dz [] h30 (hrec178 _ _) Z fun r39 hr39 h30 => D 3 Z ?_
  obtain ⟨x40, hx40, h30⟩ := bnd h30
  refine DS.v (x := (.rp [I x40.Kind, I x40.By, I x40.Cond.Kind, I x40.Cond.Var, I x40.Cond.N, .rsl 4 (List.map Cond.enc x40.Cond.Parts), .rsl 8 (List.map Step.enc x40.Then), .rsl 8 (List.map Step.enc x40.Else)])) (QdP (e := Step.enc) hx40 (QK x40) runUnderlying29 sizeOf132) ?_
  refine D 4 Z ?_
  exact Dz [] h30 (hrec178 _ _) Z fun r41 hr41 h30 => DS.done Z (Go 10 Z (Qf h30 (Lr [])))
 exact Gx 1 Z (TC.le hle (Gc 7 Z (Rt h 4 [])))
def F_n : Nat -> (List Step) -> Int -> Option Int
  | 0 => fun _ _ => none
  | n + 1 => B_n (F_n n) n
theorem k_n (n : Nat) : ∀ (a1 : List Step) (a2 : Int) (r : Int), F_n n a1 a2 = some r -> Csm prog 32 [.rsl 8 (List.map Step.enc a1), I a2] [] (fun r => I r) r := by
  induction n with
  | zero => intro a1 a2 r h; cases h
  | succ n ih => intro a1 a2 r h; exact QaF _ ih n a1 a2 r h
def F_gc (n : Nat) (a1 : Course) (s37 : Int) : Option (Ctl Int (Ctl Unit Bool)) :=
  (bif decide (s37 < (a1.Distances.length : Int)) then ((idx a1.Distances s37).bind fun x49 => (F_o n x49.Route 0).bind fun r50 => (bif decide (24 < r50) then some true else (idx a1.Distances s37).bind fun x52 => (bif decide (12 < (x52.Cutoffs.length : Int)) then some true else (idx a1.Distances s37).bind fun x54 => some (decide (60 < (x54.Name.length : Int))))) : Option Bool).bind fun b47 => (bif b47 then some (.done (.done false)) else some (.cont (IntKind.i64.wrap (s37 + 1)))) else some (.done (.cont ())))
def F_gu (n : Nat) (a1 : Course) (s66 : Int) : Option (Ctl Int (Ctl Unit Bool)) :=
  (bif decide (s66 < (a1.Mats.length : Int)) then (idx a1.Mats s66).bind fun x70 => (bif decide (60 < (x70.Name.length : Int)) then some (.done (.done false)) else some (.cont (IntKind.i64.wrap (s66 + 1)))) else some (.done (.cont ())))
def F_ai (n : Nat) (a1 : Course) : Option Bool :=
  (iter (F_gc n a1) n 0 : Option (Ctl Unit Bool)).bind fun b34 => match b34 with | .cont sb34 => ((iter (F_gu n a1) n 0 : Option (Ctl Unit Bool)).bind fun b63 => match b63 with | .cont sb63 => (((bif decide (12 < (a1.Mats.length : Int)) then some true else (bif decide (30 < (a1.Legs.length : Int)) then some true else (bif decide (4 < (a1.Distances.length : Int)) then some true else (bif decide (6 < (a1.Waves.length : Int)) then some true else (bif decide (6 < (a1.Offences.length : Int)) then some true else (bif decide (6 < (a1.Categories.length : Int)) then some true else (bif decide (6 < (a1.Prizes.length : Int)) then some true else some (decide (60 < (a1.Name.length : Int)))))))))) : Option Bool).bind fun b79 => (bif b79 then some false else (F_n n a1.Ties 0).bind fun r89 => some (decide (r89 <= 100)))) | .done sb63 => some sb63) | .done sb34 => some sb34
theorem k_ai (n : Nat) (a1 : Course) (r : Bool) (h : F_ai n a1 = some r) :
    Csm prog 11 [.agg (Course.c a1)] [] (fun r => .bool r) r := by
 refine Qb func11 Z Z Z ?_
 refine G0 12 Z (Bd h fun b34 h35 h => ?_)
 refine CtE (b := b34) [0] [1] (fun _ => []) (fun _ => []) (fun _ => rfl) ?_ (fun sb34 env H hbe hle => ?_)
 ·refine G0 1 Z ?_
  refine Lp [0] [1] (fun s37 => [(3, I s37)]) (fun _ => []) h35 (fun _ => rfl) (Lr [0]) fun s37 d38 h39 hb36 => ?_
  refine G0 6 Z (Lm Z (Go 3 Z (Q1 Z h39 (fun hc40 h39 => ?_) (fun hc40 h39 => ?_))))
  ·refine Gc 2 Z (Qg h39 ?_)
   obtain rfl := Oj hb36 h39
   exact Gx 1 Z (Qh Z (Lr [0]))
  refine Gc 5 Z (Bd h39 fun b47 h48 h39 => ?_)
  refine Ct b47 [0] [1,3] (fun b47 => [(39, .bool b47)]) (fun _ => []) (fun _ => rfl) ?_ (fun env H hle => ?_)
  ·refine G0 4 Z (Bd h48 fun x49 hx49 h48 => Iz hx49 Z (Go 2 Z (Cz [] h48 (k_o _ _ _) Z fun r50 hr50 h48 => Go 2 Z (Is 20 h48 Z (fun hg51 h48 => ?_) (fun hg51 h48 => ?_)))))
   ·exact Go 20 Z (Cl h48 [0])
   ·refine Go 3 Z (Bd h48 fun x52 hx52 h48 => Iz hx52 Z (Go 2 Z (Lm Z (Go 3 Z (Is 30 h48 Z (fun hg53 h48 => ?_) (fun hg53 h48 => ?_))))))
    ·exact Go 10 Z (Cl h48 [0])
    ·refine Go 3 Z (Bd h48 fun x54 hx54 h48 => Iz hx54 Z (Go 2 Z ?_))
     refine vX (I (x54.Name.length : Int)) (Q0 Z Z runUnderlying9 Z) ?_ (gT Z)
     exact Go 3 Z (Cl h48 [0])
  refine Gx 1 Z (TC.le hle (Cn Z h39 (fun hc55 h39 => ?_) (fun hc55 h39 => ?_)))
  ·refine Gc 8 Z (Qk h39 ?_)
   obtain rfl := Oj hb36 h39
   exact Gx 1 Z (Qi (Gx 1 Z (Rt h 2 [])))
  exact Gc 8 Z (Qf h39 (Lr [0]))
 subst hbe
 refine Gx 1 Z (TC.le hle (Gc 6 Z (Bd h fun b63 h64 h => ?_)))
 refine CtE (b := b63) [0] [1] (fun _ => []) (fun _ => []) (fun _ => rfl) ?_ (fun sb63 env H hbe hle => ?_)
 ·refine G0 1 Z ?_
  refine Lp [0] [1] (fun s66 => [(4, I s66)]) (fun _ => []) h64 (fun _ => rfl) (Lr [0]) fun s66 d67 h68 hb65 => ?_
  refine G0 6 Z (Lm Z (Go 3 Z (Q1 Z h68 (fun hc69 h68 => ?_) (fun hc69 h68 => ?_))))
  ·refine Gc 2 Z (Qg h68 ?_)
   obtain rfl := Oj hb65 h68
   exact Gx 1 Z (Qh Z (Lr [0]))
  refine Gc 9 Z (Bd h68 fun x70 hx70 h68 => Iz hx70 Z (Go 2 Z ?_))
  refine vX (I (x70.Name.length : Int)) (Q0 Z Z runUnderlying9 Z) ?_
  refine Go 3 Z (Cn Z h68 (fun hc71 h68 => ?_) (fun hc71 h68 => ?_))
  ·refine Gc 8 Z (Qk h68 ?_)
   obtain rfl := Oj hb65 h68
   exact Gx 1 Z (Qi (Gx 1 Z (Rt h 2 [])))
  exact Gc 8 Z (Qf h68 (Lr [0]))
 subst hbe
 refine Gx 1 Z (TC.le hle (Gc 2 Z (Bd h fun b79 h80 h => ?_)))
 refine Ct b79 [0] [1] (fun b79 => [(100, .bool b79)]) (fun _ => []) (fun _ => rfl) ?_ (fun env H hle => ?_)
 ·refine G0 3 Z (Lm Z (Go 2 Z (Is 59 h80 Z (fun hg81 h80 => ?_) (fun hg81 h80 => ?_))))
  ·exact Go 42 Z (Cl h80 [0])
  ·refine Go 2 Z (Lm Z (Go 3 Z (Is 65 h80 Z (fun hg82 h80 => ?_) (fun hg82 h80 => ?_))))
   ·exact Go 36 Z (Cl h80 [0])
   ·refine Go 2 Z (Lm Z (Go 3 Z (Is 71 h80 Z (fun hg83 h80 => ?_) (fun hg83 h80 => ?_))))
    ·exact Go 30 Z (Cl h80 [0])
    ·refine Go 2 Z (Lm Z (Go 3 Z (Is 77 h80 Z (fun hg84 h80 => ?_) (fun hg84 h80 => ?_))))
     ·exact Go 24 Z (Cl h80 [0])
     ·refine Go 2 Z (Lm Z (Go 3 Z (Is 83 h80 Z (fun hg85 h80 => ?_) (fun hg85 h80 => ?_))))
      ·exact Go 18 Z (Cl h80 [0])
      ·refine Go 2 Z (Lm Z (Go 3 Z (Is 89 h80 Z (fun hg86 h80 => ?_) (fun hg86 h80 => ?_))))
       ·exact Go 12 Z (Cl h80 [0])
       ·refine Go 2 Z (Lm Z (Go 3 Z (Is 95 h80 Z (fun hg87 h80 => ?_) (fun hg87 h80 => ?_))))
        ·exact Go 6 Z (Cl h80 [0])
        ·refine Go 2 Z ?_
         refine vX (I (a1.Name.length : Int)) (Q0 Z Z runUnderlying9 Z) ?_ (gT Z)
         exact Go 3 Z (Cl h80 [0])
 refine Gx 1 Z (TC.le hle (Cn Z h (fun hc88 h => ?_) (fun hc88 h => ?_)))
 ·exact Gc 7 Z (Rt h 2 [])
 exact Gc 6 Z (Cz [] h (k_n _ _ _) Z fun r89 hr89 h => Go 5 Z (Rt h 2 []))
def F_gm (n : Nat) (a1 : List Fact) (a2 : Int) : Option Unit :=
  some ()
theorem k_gm (n : Nat) (a1 : List Fact) (a2 : Int) (r : Unit) (h : F_gm n a1 a2 = some r) :
    Csm prog 12 [.rsl 57 (List.map Fact.c a1), I a2] [] (fun _ => .bool (decide ((a1.length : Int) <= a2))) r := by
 refine Qb func12 Z Z Z ?_
 exact G0 8 Z (Lm Z (Go 6 Z (Rt h 4 [])))
def F_cv (n : Nat) (a1 : List Part) (a2 : Int) (rec183 : (List Part) -> Int -> Option Int) (s33 : Int × Int) : Option (Ctl (Int × Int) Int) :=
  ((bif decide (s33.2 < (a1.length : Int)) then some (decide (0 < a2)) else some false) : Option Bool).bind fun b37 => (bif b37 then (idx a1 s33.2).bind fun x41 => ((bif ((x41.Parts.length : Int) != 0) then (idx a1 s33.2).bind fun x48 => (rec183 x48.Parts (IntKind.i64.wrap (a2 - 1))).bind fun r49 => some (if s33.1 < IntKind.i64.wrap (1 + r49) then IntKind.i64.wrap (1 + r49) else s33.1) else some s33.1) : Option Int).bind fun b45 => some (.cont (b45, IntKind.i64.wrap (s33.2 + 1))) else some (.done s33.1))
def B_v (rec183 : (List Part) -> Int -> Option Int) (n : Nat) (a1 : List Part) (a2 : Int) : Option Int :=
  (iter (F_cv n a1 a2 rec183) n (0, 0) : Option Int).bind fun b30 => some b30
theorem QaJ (rec183 : (List Part) -> Int -> Option Int) (hrec183 : ∀ (a1 : List Part) (a2 : Int) (r : Int), rec183 a1 a2 = some r -> Csm prog 70 [.rsl 3 (List.map Part.enc a1), I a2] [] (fun r => I r) r) (n : Nat) (a1 : List Part) (a2 : Int) (r : Int) (h : B_v rec183 n a1 a2 = some r) :
    Csm prog 70 [.rsl 3 (List.map Part.enc a1), I a2] [] (fun r => I r) r := by
 refine Qb func70 Z Z Z ?_
 refine G0 16 Z (Bd h fun b30 h31 h => ?_)
 refine Ct b30 [] [] (fun b30 => [(5, I b30)]) (fun _ => []) (fun _ => rfl) ?_ (fun env H hle => ?_)
 ·refine G0 1 Z ?_
  refine Lp [] [0,1] (fun s33 => [(5, I s33.1), (6, I s33.2)]) (fun _ => []) h31 (fun _ => rfl) (Lr []) fun s33 d34 h35 hb32 => ?_
  refine G0 2 Z (Bd h35 fun b37 h38 h35 => ?_)
  refine Ct b37 [] [0,1,5,6] (fun b37 => [(14, .bool b37)]) (fun _ => []) (fun _ => rfl) ?_ (fun env H hle => ?_)
  ·refine G0 3 Z (Lm Z (Go 2 Z (Is 11 h38 Z (fun hg39 h38 => ?_) (fun hg39 h38 => ?_))))
   ·exact Go 4 Z (Cl h38 [])
   ·exact Go 4 Z (Cl h38 [])
  refine Gx 1 Z (TC.le hle (Q1 Z h35 (fun hc40 h35 => ?_) (fun hc40 h35 => ?_)))
  ·refine Gc 2 Z (Qg h35 ?_)
   obtain rfl := Oj hb32 h35
   exact Gx 1 Z (Qt (Lr []))
  refine Gc 8 Z (Bd h35 fun x41 hx41 h35 => IzE hx41 (QB x41) Z (Go 2 Z (Lm Z (Go 3 Z (Bd h35 fun b45 h46 h35 => ?_)))))
  refine Ct b45 [] [0,1,6] (fun b45 => [(5, I b45)]) (fun _ => []) (fun _ => rfl) ?_ (fun env H hle => ?_)
  ·refine G0 0 Z (Cn Z h46 (fun hc47 h46 => ?_) (fun hc47 h46 => ?_))
   ·refine Gc 4 Z (Bd h46 fun x48 hx48 h46 => IzE hx48 (QB x48) Z (Go 4 Z (Cz [] h46 (hrec183 _ _) Z fun r49 hr49 h46 => Go 1 Z ?_)))
    refine vX (I (if s33.1 < IntKind.i64.wrap (1 + r49) then IntKind.i64.wrap (1 + r49) else s33.1)) (OpV.max Z Z Z Z) ?_
    exact Go 2 Z (Cl h46 [])
   exact Gc 1 Z (Cl h46 [])
  exact Gx 2 Z (TC.le hle (Gc 5 Z (Qf h35 (Lr []))))
 exact Gx 1 Z (TC.le hle (Gc 7 Z (Rt h 4 [])))
def F_v : Nat -> (List Part) -> Int -> Option Int
  | 0 => fun _ _ => none
  | n + 1 => B_v (F_v n) n
theorem k_v (n : Nat) : ∀ (a1 : List Part) (a2 : Int) (r : Int), F_v n a1 a2 = some r -> Csm prog 70 [.rsl 3 (List.map Part.enc a1), I a2] [] (fun r => I r) r := by
  induction n with
  | zero => intro a1 a2 r h; cases h
  | succ n ih => intro a1 a2 r h; exact QaJ _ ih n a1 a2 r h
def F_fs (n : Nat) (a1 : List Part) (rec184 : (List Part) -> Option Int) (s19 : Int × Int) : Option (Ctl (Int × Int) Int) :=
  ((bif decide (s19.2 < (a1.length : Int)) then some (decide (s19.1 <= 256)) else some false) : Option Bool).bind fun b23 => (bif b23 then (idx a1 s19.2).bind fun x27 => (rec184 x27.Parts).bind fun r28 => some (.cont (IntKind.i64.wrap (s19.1 + r28), IntKind.i64.wrap (s19.2 + 1))) else some (.done s19.1))
def B_y (rec184 : (List Part) -> Option Int) (n : Nat) (a1 : List Part) : Option Int :=
  (iter (F_fs n a1 rec184) n ((a1.length : Int), 0) : Option Int).bind fun b16 => some (if 257 < b16 then 257 else b16)
theorem QaK (rec184 : (List Part) -> Option Int) (hrec184 : ∀ (a1 : List Part) (r : Int), rec184 a1 = some r -> Csm prog 71 [.rsl 3 (List.map Part.enc a1)] [] (fun r => I r) r) (n : Nat) (a1 : List Part) (r : Int) (h : B_y rec184 n a1 = some r) :
    Csm prog 71 [.rsl 3 (List.map Part.enc a1)] [] (fun r => I r) r := by
 refine Qb func71 Z Z Z ?_
 refine G0 8 Z (Lm Z (Go 9 Z (Bd h fun b16 h17 h => ?_)))
 refine Ct b16 [] [] (fun b16 => [(3, I b16)]) (fun _ => []) (fun _ => rfl) ?_ (fun env H hle => ?_)
 ·refine G0 1 Z ?_
  refine Lp [] [0] (fun s19 => [(3, I s19.1), (4, I s19.2)]) (fun _ => []) h17 (fun _ => rfl) (Lr []) fun s19 d20 h21 hb18 => ?_
  refine G0 2 Z (Bd h21 fun b23 h24 h21 => ?_)
  refine Ct b23 [] [0,3,4] (fun b23 => [(14, .bool b23)]) (fun _ => []) (fun _ => rfl) ?_ (fun env H hle => ?_)
  ·refine G0 3 Z (Lm Z (Go 2 Z (Is 11 h24 Z (fun hg25 h24 => ?_) (fun hg25 h24 => ?_))))
   ·exact Go 4 Z (Cl h24 [])
   ·exact Go 4 Z (Cl h24 [])
  refine Gx 1 Z (TC.le hle (Q1 Z h21 (fun hc26 h21 => ?_) (fun hc26 h21 => ?_)))
  ·refine Gc 2 Z (Qg h21 ?_)
   obtain rfl := Oj hb18 h21
   exact Gx 1 Z (Qt (Lr []))
  exact Gc 8 Z (Bd h21 fun x27 hx27 h21 => IzE hx27 (QB x27) Z (Go 2 Z (Cz [] h21 (hrec184 _) Z fun r28 hr28 h21 => Go 10 Z (Qf h21 (Lr [])))))
 refine Gx 1 Z (TC.le hle (Gc 3 Z ?_))
 refine vX (I (if 257 < b16 then 257 else b16)) (OpV.min Z Z Z Z) ?_
 exact Go 4 Z (Rt h 2 [])
def F_y : Nat -> (List Part) -> Option Int
  | 0 => fun _ => none
  | n + 1 => B_y (F_y n) n
theorem k_y (n : Nat) : ∀ (a1 : List Part) (r : Int), F_y n a1 = some r -> Csm prog 71 [.rsl 3 (List.map Part.enc a1)] [] (fun r => I r) r := by
  induction n with
  | zero => intro a1 r h; cases h
  | succ n ih => intro a1 r h; exact QaK _ ih n a1 r h
def F_fk (n : Nat) (a1 : Course) (s46 : Int) : Option (Ctl Int (Ctl Unit Bool)) :=
  (bif decide (s46 < (a1.Distances.length : Int)) then (idx a1.Distances s46).bind fun x50 => ((bif decide (64 < (x50.Cutoffs.length : Int)) then some true else (F_v n x50.Route 17).bind fun r58 => (bif decide (16 < r58) then some true else (F_y n x50.Route).bind fun r60 => some (decide (256 < r60)))) : Option Bool).bind fun b55 => (bif b55 then some (.done (.done false)) else some (.cont (IntKind.i64.wrap (s46 + 1)))) else some (.done (.cont ())))
def F_an (n : Nat) (a1 : Course) : Option Bool :=
  ((bif decide (40 < (a1.Mats.length : Int)) then some true else (bif decide (512 < (a1.Legs.length : Int)) then some true else (bif decide (8 < (a1.Distances.length : Int)) then some true else (bif decide (32 < (a1.Waves.length : Int)) then some true else (bif decide (32 < (a1.Offences.length : Int)) then some true else (bif decide (32 < (a1.Categories.length : Int)) then some true else some (decide (32 < (a1.Prizes.length : Int))))))))) : Option Bool).bind fun b7 => (bif b7 then some false else (iter (F_fk n a1) n 0 : Option (Ctl Unit Bool)).bind fun b43 => match b43 with | .cont sb43 => (some true) | .done sb43 => some sb43)
theorem k_an (n : Nat) (a1 : Course) (r : Bool) (h : F_an n a1 = some r) :
    Csm prog 44 [.agg (Course.c a1)] [] (fun r => .bool r) r := by
 refine Qb func44 Z Z Z ?_
 refine G0 8 Z (Bd h fun b7 h8 h => ?_)
 refine Ct b7 [0] [1] (fun b7 => [(44, .bool b7)]) (fun _ => []) (fun _ => rfl) ?_ (fun env H hle => ?_)
 ·refine G0 3 Z (Lm Z (Go 2 Z (Is 9 h8 Z (fun hg9 h8 => ?_) (fun hg9 h8 => ?_))))
  ·exact Go 36 Z (Cl h8 [0])
  ·refine Go 2 Z (Lm Z (Go 3 Z (Is 15 h8 Z (fun hg10 h8 => ?_) (fun hg10 h8 => ?_))))
   ·exact Go 30 Z (Cl h8 [0])
   ·refine Go 2 Z (Lm Z (Go 3 Z (Is 21 h8 Z (fun hg11 h8 => ?_) (fun hg11 h8 => ?_))))
    ·exact Go 24 Z (Cl h8 [0])
    ·refine Go 2 Z (Lm Z (Go 3 Z (Is 27 h8 Z (fun hg12 h8 => ?_) (fun hg12 h8 => ?_))))
     ·exact Go 18 Z (Cl h8 [0])
     ·refine Go 2 Z (Lm Z (Go 3 Z (Is 33 h8 Z (fun hg13 h8 => ?_) (fun hg13 h8 => ?_))))
      ·exact Go 12 Z (Cl h8 [0])
      ·refine Go 2 Z (Lm Z (Go 3 Z (Is 39 h8 Z (fun hg14 h8 => ?_) (fun hg14 h8 => ?_))))
       ·exact Go 6 Z (Cl h8 [0])
       ·exact Go 2 Z (Lm Z (Go 3 Z (Cl h8 [0])))
 refine Gx 1 Z (TC.le hle (Cn Z h (fun hc15 h => ?_) (fun hc15 h => ?_)))
 ·exact Gc 7 Z (Rt h 2 [])
 refine Gc 8 Z (Bd h fun b43 h44 h => ?_)
 refine CtE (b := b43) [] [] (fun _ => []) (fun _ => []) (fun _ => rfl) ?_ (fun sb43 env H hbe hle => ?_)
 ·refine G0 1 Z ?_
  refine Lp [0] [1] (fun s46 => [(3, I s46)]) (fun _ => []) h44 (fun _ => rfl) (Lr [0]) fun s46 d47 h48 hb45 => ?_
  refine G0 6 Z (Lm Z (Go 3 Z (Q1 Z h48 (fun hc49 h48 => ?_) (fun hc49 h48 => ?_))))
  ·refine Gc 2 Z (Qg h48 ?_)
   obtain rfl := Oj hb45 h48
   exact Gx 1 Z (Qh Z (Lr []))
  refine Gc 9 Z (Bd h48 fun x50 hx50 h48 => Iz hx50 Z (Go 6 Z (Bd h48 fun b55 h56 h48 => ?_)))
  refine Ct b55 [0] [1,3] (fun b55 => [(72, .bool b55)]) (fun _ => []) (fun _ => rfl) ?_ (fun env H hle => ?_)
  ·refine G0 3 Z (Lm Z (Go 2 Z (Is 61 h56 Z (fun hg57 h56 => ?_) (fun hg57 h56 => ?_))))
   ·exact Go 12 Z (Cl h56 [0])
   ·refine Go 2 Z (Cz [] h56 (k_v _ _ _) Z fun r58 hr58 h56 => Go 3 Z (Is 67 h56 Z (fun hg59 h56 => ?_) (fun hg59 h56 => ?_)))
    ·exact Go 6 Z (Cl h56 [0])
    ·exact Go 2 Z (Cz [] h56 (k_y _ _) Z fun r60 hr60 h56 => Go 3 Z (Cl h56 [0]))
  refine Gx 1 Z (TC.le hle (Cn Z h48 (fun hc61 h48 => ?_) (fun hc61 h48 => ?_)))
  ·refine Gc 8 Z (Qk h48 ?_)
   obtain rfl := Oj hb45 h48
   exact Gx 1 Z (Qi (Gx 1 Z (Rt h 2 [])))
  exact Gc 8 Z (Qf h48 (Lr [0]))
 subst hbe
 exact Gx 1 Z (TC.le hle (Gc 6 Z (Rt h 2 [])))
def F_ck (n : Nat) (a1 : List UInt8) : Option Bool :=
  ((bif (a1 == [99, 111, 117, 114, 115, 101]) then some (a1 == [99, 111, 117, 114, 115, 101]) else (bif (a1 == [109, 97, 116, 115]) then some (a1 == [109, 97, 116, 115]) else (bif (a1 == [115, 116, 97, 114, 116]) then some (a1 == [115, 116, 97, 114, 116]) else (bif (a1 == [112, 97, 115, 115]) then some (a1 == [112, 97, 115, 115]) else (bif (a1 == [101, 110, 100]) then some (a1 == [101, 110, 100]) else (bif (a1 == [108, 101, 103]) then some (a1 == [108, 101, 103]) else (bif (a1 == [116, 111]) then some (a1 == [116, 111]) else (bif (a1 == [100, 105, 115, 116, 97, 110, 99, 101]) then some (a1 == [100, 105, 115, 116, 97, 110, 99, 101]) else (bif (a1 == [103, 117, 110]) then some (a1 == [103, 117, 110]) else (bif (a1 == [99, 104, 105, 112]) then some (a1 == [99, 104, 105, 112]) else (bif (a1 == [115, 108, 111, 116]) then some (a1 == [115, 108, 111, 116]) else (bif (a1 == [108, 97, 112, 115]) then some (a1 == [108, 97, 112, 115]) else (bif (a1 == [108, 97, 112]) then some (a1 == [108, 97, 112]) else (bif (a1 == [99, 117, 116, 111, 102, 102]) then some (a1 == [99, 117, 116, 111, 102, 102]) else (bif (a1 == [101, 120, 116, 114, 97]) then some (a1 == [101, 120, 116, 114, 97]) else (bif (a1 == [119, 97, 118, 101]) then some (a1 == [119, 97, 118, 101]) else (bif (a1 == [111, 102, 102, 101, 110, 99, 101]) then some (a1 == [111, 102, 102, 101, 110, 99, 101]) else (bif (a1 == [111, 117, 116]) then some (a1 == [111, 117, 116]) else (bif (a1 == [99, 97, 116, 101, 103, 111, 114, 121]) then some (a1 == [99, 97, 116, 101, 103, 111, 114, 121]) else (bif (a1 == [112, 114, 105, 122, 101]) then some (a1 == [112, 114, 105, 122, 101]) else (bif (a1 == [97, 108, 108]) then some (a1 == [97, 108, 108]) else some (a1 == [116, 105, 101, 115])))))))))))))))))))))) : Option Bool).bind fun b22 => (bif b22 then some true else ((bif (a1 == [105, 102]) then some (a1 == [105, 102]) else (bif (a1 == [101, 108, 115, 101]) then some (a1 == [101, 108, 115, 101]) else (bif (a1 == [97, 110, 100]) then some (a1 == [97, 110, 100]) else (bif (a1 == [111, 114]) then some (a1 == [111, 114]) else (bif (a1 == [110, 111, 116]) then some (a1 == [110, 111, 116]) else (bif (a1 == [111, 108, 100, 101, 114]) then some (a1 == [111, 108, 100, 101, 114]) else (bif (a1 == [121, 111, 117, 110, 103, 101, 114]) then some (a1 == [121, 111, 117, 110, 103, 101, 114]) else (bif (a1 == [98, 105, 98]) then some (a1 == [98, 105, 98]) else (bif (a1 == [100, 114, 97, 119]) then some (a1 == [100, 114, 97, 119]) else (bif (a1 == [102, 105, 101, 108, 100]) then some (a1 == [102, 105, 101, 108, 100]) else (bif (a1 == [115, 104, 111, 114, 116]) then some (a1 == [115, 104, 111, 114, 116]) else (bif (a1 == [102, 97, 117, 108, 116, 115]) then some (a1 == [102, 97, 117, 108, 116, 115]) else (bif (a1 == [109, 105, 115, 115, 101, 115]) then some (a1 == [109, 105, 115, 115, 101, 115]) else (bif (a1 == [115, 116, 114, 97, 121, 115]) then some (a1 == [115, 116, 114, 97, 121, 115]) else (bif (a1 == [119, 105, 110, 100, 111, 119]) then some (a1 == [119, 105, 110, 100, 111, 119]) else (bif (a1 == [114, 101, 115, 105, 100, 117, 97, 108]) then some (a1 == [114, 101, 115, 105, 100, 117, 97, 108]) else (bif (a1 == [100, 114, 105, 102, 116]) then some (a1 == [100, 114, 105, 102, 116]) else (bif (a1 == [112, 114, 111, 116, 101, 115, 116]) then some (a1 == [112, 114, 111, 116, 101, 115, 116]) else (bif (a1 == [102, 101, 101]) then some (a1 == [102, 101, 101]) else some (a1 == [100, 101, 97, 100, 108, 105, 110, 101])))))))))))))))))))) : Option Bool).bind fun b65 => (bif b65 then some true else some false))
theorem k_ck (n : Nat) (a1 : List UInt8) (r : Bool) (h : F_ck n a1 = some r) :
    Csm prog 139 [.str a1] [] (fun r => .bool r) r := by
 refine Qb func139 Z Z Z ?_
 refine G0 19 Z (Bd h fun b22 h23 h => ?_)
 refine Ct b22 [] [3] (fun b22 => [(4, .bool b22)]) (fun _ => []) (fun _ => rfl) ?_ (fun env H hle => ?_)
 ·refine G0 0 Z (Cn Z h23 (fun hc24 h23 => ?_) (fun hc24 h23 => ?_))
  ·exact Gc 1 Z (Cl h23 [])
  refine Gc 6 Z (Cn Z h23 (fun hc25 h23 => ?_) (fun hc25 h23 => ?_))
  ·exact Gc 1 Z (Cl h23 [])
  refine Gc 6 Z (Cn Z h23 (fun hc26 h23 => ?_) (fun hc26 h23 => ?_))
  ·exact Gc 1 Z (Cl h23 [])
  refine Gc 6 Z (Cn Z h23 (fun hc27 h23 => ?_) (fun hc27 h23 => ?_))
  ·exact Gc 1 Z (Cl h23 [])
  refine Gc 6 Z (Cn Z h23 (fun hc28 h23 => ?_) (fun hc28 h23 => ?_))
  ·exact Gc 1 Z (Cl h23 [])
  refine Gc 6 Z (Cn Z h23 (fun hc29 h23 => ?_) (fun hc29 h23 => ?_))
  ·exact Gc 1 Z (Cl h23 [])
  refine Gc 6 Z (Cn Z h23 (fun hc30 h23 => ?_) (fun hc30 h23 => ?_))
  ·exact Gc 1 Z (Cl h23 [])
  refine Gc 6 Z (Cn Z h23 (fun hc31 h23 => ?_) (fun hc31 h23 => ?_))
  ·exact Gc 1 Z (Cl h23 [])
  refine Gc 6 Z (Cn Z h23 (fun hc32 h23 => ?_) (fun hc32 h23 => ?_))
  ·exact Gc 1 Z (Cl h23 [])
  refine Gc 6 Z (Cn Z h23 (fun hc33 h23 => ?_) (fun hc33 h23 => ?_))
  ·exact Gc 1 Z (Cl h23 [])
  refine Gc 6 Z (Cn Z h23 (fun hc34 h23 => ?_) (fun hc34 h23 => ?_))
  ·exact Gc 1 Z (Cl h23 [])
  refine Gc 6 Z (Cn Z h23 (fun hc35 h23 => ?_) (fun hc35 h23 => ?_))
  ·exact Gc 1 Z (Cl h23 [])
  refine Gc 6 Z (Cn Z h23 (fun hc36 h23 => ?_) (fun hc36 h23 => ?_))
  ·exact Gc 1 Z (Cl h23 [])
  refine Gc 6 Z (Cn Z h23 (fun hc37 h23 => ?_) (fun hc37 h23 => ?_))
  ·exact Gc 1 Z (Cl h23 [])
  refine Gc 6 Z (Cn Z h23 (fun hc38 h23 => ?_) (fun hc38 h23 => ?_))
  ·exact Gc 1 Z (Cl h23 [])
  refine Gc 6 Z (Cn Z h23 (fun hc39 h23 => ?_) (fun hc39 h23 => ?_))
  ·exact Gc 1 Z (Cl h23 [])
  refine Gc 6 Z (Cn Z h23 (fun hc40 h23 => ?_) (fun hc40 h23 => ?_))
  ·exact Gc 1 Z (Cl h23 [])
  refine Gc 6 Z (Cn Z h23 (fun hc41 h23 => ?_) (fun hc41 h23 => ?_))
  ·exact Gc 1 Z (Cl h23 [])
  refine Gc 6 Z (Cn Z h23 (fun hc42 h23 => ?_) (fun hc42 h23 => ?_))
  ·exact Gc 1 Z (Cl h23 [])
  refine Gc 6 Z (Cn Z h23 (fun hc43 h23 => ?_) (fun hc43 h23 => ?_))
  ·exact Gc 1 Z (Cl h23 [])
  refine Gc 6 Z (Cn Z h23 (fun hc44 h23 => ?_) (fun hc44 h23 => ?_))
  ·exact Gc 1 Z (Cl h23 [])
  exact Gc 4 Z (Cl h23 [])
 refine Gx 1 Z (TC.le hle (Cn Z h (fun hc45 h => ?_) (fun hc45 h => ?_)))
 ·exact Gc 8 Z (Rt h 2 [])
 refine Gc 7 Z (Bd h fun b65 h66 h => ?_)
 refine Ct b65 [] [] (fun b65 => [(27, .bool b65)]) (fun _ => []) (fun _ => rfl) ?_ (fun env H hle => ?_)
 ·refine G0 0 Z (Cn Z h66 (fun hc67 h66 => ?_) (fun hc67 h66 => ?_))
  ·exact Gc 1 Z (Cl h66 [])
  refine Gc 6 Z (Cn Z h66 (fun hc68 h66 => ?_) (fun hc68 h66 => ?_))
  ·exact Gc 1 Z (Cl h66 [])
  refine Gc 6 Z (Cn Z h66 (fun hc69 h66 => ?_) (fun hc69 h66 => ?_))
  ·exact Gc 1 Z (Cl h66 [])
  refine Gc 6 Z (Cn Z h66 (fun hc70 h66 => ?_) (fun hc70 h66 => ?_))
  ·exact Gc 1 Z (Cl h66 [])
  refine Gc 6 Z (Cn Z h66 (fun hc71 h66 => ?_) (fun hc71 h66 => ?_))
  ·exact Gc 1 Z (Cl h66 [])
  refine Gc 6 Z (Cn Z h66 (fun hc72 h66 => ?_) (fun hc72 h66 => ?_))
  ·exact Gc 1 Z (Cl h66 [])
  refine Gc 6 Z (Cn Z h66 (fun hc73 h66 => ?_) (fun hc73 h66 => ?_))
  ·exact Gc 1 Z (Cl h66 [])
  refine Gc 6 Z (Cn Z h66 (fun hc74 h66 => ?_) (fun hc74 h66 => ?_))
  ·exact Gc 1 Z (Cl h66 [])
  refine Gc 6 Z (Cn Z h66 (fun hc75 h66 => ?_) (fun hc75 h66 => ?_))
  ·exact Gc 1 Z (Cl h66 [])
  refine Gc 6 Z (Cn Z h66 (fun hc76 h66 => ?_) (fun hc76 h66 => ?_))
  ·exact Gc 1 Z (Cl h66 [])
  refine Gc 6 Z (Cn Z h66 (fun hc77 h66 => ?_) (fun hc77 h66 => ?_))
  ·exact Gc 1 Z (Cl h66 [])
  refine Gc 6 Z (Cn Z h66 (fun hc78 h66 => ?_) (fun hc78 h66 => ?_))
  ·exact Gc 1 Z (Cl h66 [])
  refine Gc 6 Z (Cn Z h66 (fun hc79 h66 => ?_) (fun hc79 h66 => ?_))
  ·exact Gc 1 Z (Cl h66 [])
  refine Gc 6 Z (Cn Z h66 (fun hc80 h66 => ?_) (fun hc80 h66 => ?_))
  ·exact Gc 1 Z (Cl h66 [])
  refine Gc 6 Z (Cn Z h66 (fun hc81 h66 => ?_) (fun hc81 h66 => ?_))
  ·exact Gc 1 Z (Cl h66 [])
  refine Gc 6 Z (Cn Z h66 (fun hc82 h66 => ?_) (fun hc82 h66 => ?_))
  ·exact Gc 1 Z (Cl h66 [])
  refine Gc 6 Z (Cn Z h66 (fun hc83 h66 => ?_) (fun hc83 h66 => ?_))
  ·exact Gc 1 Z (Cl h66 [])
  refine Gc 6 Z (Cn Z h66 (fun hc84 h66 => ?_) (fun hc84 h66 => ?_))
  ·exact Gc 1 Z (Cl h66 [])
  refine Gc 6 Z (Cn Z h66 (fun hc85 h66 => ?_) (fun hc85 h66 => ?_))
  ·exact Gc 1 Z (Cl h66 [])
  exact Gc 4 Z (Cl h66 [])
 refine Gx 1 Z (TC.le hle (Cn Z h (fun hc86 h => ?_) (fun hc86 h => ?_)))
 ·exact Gc 8 Z (Rt h 2 [])
 exact Gc 9 Z (Rt h 2 [])
def F_gx (n : Nat) (a1 : List UInt8) (s90 : Int) : Option (Ctl Int (Ctl Unit Bool)) :=
  (bif decide (s90 < (a1.length : Int)) then ((idx a1 s90).bind fun x112 => (bif decide ((x112.toNat : Int) < 97) then (idx a1 s90).bind fun x114 => (bif decide ((x114.toNat : Int) < 48) then (idx a1 s90).bind fun x116 => some ((x116.toNat : Int) != 95) else (idx a1 s90).bind fun x117 => (bif decide (57 < (x117.toNat : Int)) then (idx a1 s90).bind fun x119 => some ((x119.toNat : Int) != 95) else some false)) else (idx a1 s90).bind fun x120 => (bif decide (122 < (x120.toNat : Int)) then (idx a1 s90).bind fun x122 => (bif decide ((x122.toNat : Int) < 48) then (idx a1 s90).bind fun x124 => some ((x124.toNat : Int) != 95) else (idx a1 s90).bind fun x125 => (bif decide (57 < (x125.toNat : Int)) then (idx a1 s90).bind fun x127 => some ((x127.toNat : Int) != 95) else some false)) else some false)) : Option Bool).bind fun b110 => (bif b110 then some (.done (.done false)) else some (.cont (IntKind.i64.wrap (s90 + 1)))) else some (.done (.cont ())))
def F_at (n : Nat) (a1 : List UInt8) : Option Bool :=
  ((bif decide ((a1.length : Int) < 1) then some true else (bif decide (24 < (a1.length : Int)) then some true else (idx a1 0).bind fun x10 => (bif decide ((x10.toNat : Int) < 97) then some true else (idx a1 0).bind fun x12 => some (decide (122 < (x12.toNat : Int)))))) : Option Bool).bind fun b6 => (bif b6 then some false else (iter (F_gx n a1) n 1 : Option (Ctl Unit Bool)).bind fun b87 => match b87 with | .cont sb87 => ((F_ck n a1).bind fun r129 => some (!r129)) | .done sb87 => some sb87)
theorem k_at (n : Nat) (a1 : List UInt8) (r : Bool) (h : F_at n a1 = some r) :
    Csm prog 72 [.str a1] [] (fun r => .bool r) r := by
 refine Qb func72 Z Z Z ?_
 refine G0 7 Z (Bd h fun b6 h7 h => ?_)
 refine Ct b6 [] [0] (fun b6 => [(21, .bool b6)]) (fun _ => []) (fun _ => rfl) ?_ (fun env H hle => ?_)
 ·refine G0 2 Z ?_
  refine vX (I (a1.length : Int)) (Q0 Z Z runUnderlying9 Z) ?_
  refine Go 2 Z (Is 7 h7 Z (fun hg8 h7 => ?_) (fun hg8 h7 => ?_))
  ·exact Go 15 Z (Cl h7 [])
  ·refine Go 1 Z ?_
   refine vX (I (a1.length : Int)) (Q0 Z Z runUnderlying9 Z) ?_ (gT Z)
   refine Go 3 Z (Is 12 h7 Z (fun hg9 h7 => ?_) (fun hg9 h7 => ?_))
   ·exact Go 10 Z (Cl h7 [])
   ·refine Go 1 Z (Bd h7 fun x10 hx10 h7 => ?_)
    refine vX (.int .u8 (x10.toNat : Int)) (Qv hx10 runUnderlying9) ?_ (gT Z)
    refine Go 3 Z (Is 17 h7 Z (fun hg11 h7 => ?_) (fun hg11 h7 => ?_))
    ·exact Go 5 Z (Cl h7 [])
    ·refine Go 1 Z (Bd h7 fun x12 hx12 h7 => ?_)
     refine vX (.int .u8 (x12.toNat : Int)) (Qv hx12 runUnderlying9) ?_ (gT Z)
     exact Go 3 Z (Cl h7 [])
 refine Gx 1 Z (TC.le hle (Cn Z h (fun hc13 h => ?_) (fun hc13 h => ?_)))
 ·exact Gc 7 Z (Rt h 2 [])
 refine Gc 8 Z (Bd h fun b87 h88 h => ?_)
 refine CtE (b := b87) [] [0] (fun _ => []) (fun _ => []) (fun _ => rfl) ?_ (fun sb87 env H hbe hle => ?_)
 ·refine G0 1 Z ?_
  refine Lp [] [0] (fun s90 => [(3, I s90)]) (fun _ => []) h88 (fun _ => rfl) (Lr []) fun s90 d91 h92 hb89 => ?_
  refine G0 5 Z ?_
  refine vX (I (a1.length : Int)) (Q0 Z Z runUnderlying9 Z) ?_
  refine Go 3 Z (Q1 Z h92 (fun hc93 h92 => ?_) (fun hc93 h92 => ?_))
  ·refine Gc 2 Z (Qg h92 ?_)
   obtain rfl := Oj hb89 h92
   exact Gx 1 Z (Qh Z (Lr []))
  refine Gc 5 Z (Bd h92 fun b110 h111 h92 => ?_)
  refine Ct b110 [] [0,3] (fun b110 => [(55, .bool b110)]) (fun _ => []) (fun _ => rfl) ?_ (fun env H hle => ?_)
  ·refine G0 3 Z (Bd h111 fun x112 hx112 h111 => ?_)
   refine vX (.int .u8 (x112.toNat : Int)) (Qv hx112 runUnderlying9) ?_
   refine Go 2 Z (Is 32 h111 Z (fun hg113 h111 => ?_) (fun hg113 h111 => ?_))
   ·refine Go 8 Z (Bd h111 fun x114 hx114 h111 => ?_)
    refine vX (.int .u8 (x114.toNat : Int)) (Qv hx114 runUnderlying9) ?_ (gT Z)
    refine Go 2 Z (Is 43 h111 Z (fun hg115 h111 => ?_) (fun hg115 h111 => ?_))
    ·refine Go 9 Z (Bd h111 fun x116 hx116 h111 => ?_)
     refine vX (.int .u8 (x116.toNat : Int)) (Qv hx116 runUnderlying9) ?_ (gT Z)
     exact Go 3 Z (Cl h111 [])
    ·refine Go 2 Z (Bd h111 fun x117 hx117 h111 => ?_)
     refine vX (.int .u8 (x117.toNat : Int)) (Qv hx117 runUnderlying9) ?_ (gT Z)
     refine Go 4 Z (Is 50 h111 Z (fun hg118 h111 => ?_) (fun hg118 h111 => ?_))
     ·refine Go 2 Z (Bd h111 fun x119 hx119 h111 => ?_)
      refine vX (.int .u8 (x119.toNat : Int)) (Qv hx119 runUnderlying9) ?_ (gT Z)
      exact Go 3 Z (Cl h111 [])
     ·exact Go 6 Z (Cl h111 [])
   ·refine Go 2 Z (Bd h111 fun x120 hx120 h111 => ?_)
    refine vX (.int .u8 (x120.toNat : Int)) (Qv hx120 runUnderlying9) ?_ (gT Z)
    refine Go 3 Z (Is 38 h111 Z (fun hg121 h111 => ?_) (fun hg121 h111 => ?_))
    ·refine Go 2 Z (Bd h111 fun x122 hx122 h111 => ?_)
     refine vX (.int .u8 (x122.toNat : Int)) (Qv hx122 runUnderlying9) ?_ (gT Z)
     refine Go 2 Z (Is 43 h111 Z (fun hg123 h111 => ?_) (fun hg123 h111 => ?_))
     ·refine Go 9 Z (Bd h111 fun x124 hx124 h111 => ?_)
      refine vX (.int .u8 (x124.toNat : Int)) (Qv hx124 runUnderlying9) ?_ (gT Z)
      exact Go 3 Z (Cl h111 [])
     ·refine Go 2 Z (Bd h111 fun x125 hx125 h111 => ?_)
      refine vX (.int .u8 (x125.toNat : Int)) (Qv hx125 runUnderlying9) ?_ (gT Z)
      refine Go 4 Z (Is 50 h111 Z (fun hg126 h111 => ?_) (fun hg126 h111 => ?_))
      ·refine Go 2 Z (Bd h111 fun x127 hx127 h111 => ?_)
       refine vX (.int .u8 (x127.toNat : Int)) (Qv hx127 runUnderlying9) ?_ (gT Z)
       exact Go 3 Z (Cl h111 [])
      ·exact Go 6 Z (Cl h111 [])
    ·exact Go 18 Z (Cl h111 [])
  refine Gx 1 Z (TC.le hle (Cn Z h92 (fun hc128 h92 => ?_) (fun hc128 h92 => ?_)))
  ·refine Gc 8 Z (Qk h92 ?_)
   obtain rfl := Oj hb89 h92
   exact Gx 1 Z (Qi (Gx 1 Z (Rt h 2 [])))
  exact Gc 8 Z (Qf h92 (Lr []))
 subst hbe
 exact Gx 1 Z (TC.le hle (Gc 3 Z (Cz [] h (k_ck _ _) Z fun r129 hr129 h => Go 5 Z (Rt h 2 []))))
def F_du (n : Nat) (a1 : List (List UInt8)) (s39 : Int) (s58 : Int) : Option (Ctl Int (Ctl Unit (Ctl Int (Ctl Unit Bool)))) :=
  (bif decide (s58 < s39) then (idx a1 s58).bind fun x62 => (idx a1 s39).bind fun x63 => (bif (x62 == x63) then some (.done (.done (.done (.done false)))) else some (.cont (IntKind.i64.wrap (s58 + 1)))) else some (.done (.cont ())))
def F_hs (n : Nat) (a1 : List (List UInt8)) (s39 : Int) : Option (Ctl Int (Ctl Unit Bool)) :=
  (bif decide (s39 < (a1.length : Int)) then (idx a1 s39).bind fun x43 => (F_at n x43).bind fun r44 => (bif (!r44) then some (.done (.done false)) else (iter (F_du n a1 s39) n 0 : Option (Ctl Unit (Ctl Int (Ctl Unit Bool)))).bind fun b55 => match b55 with | .cont sb55 => (some (.cont (IntKind.i64.wrap (s39 + 1)))) | .done sb55 => some sb55) else some (.done (.cont ())))
def F_q (n : Nat) (a1 : List (List UInt8)) : Option Bool :=
  (iter (F_hs n a1) n 0 : Option (Ctl Unit Bool)).bind fun b36 => match b36 with | .cont sb36 => (some true) | .done sb36 => some sb36
theorem k_q (n : Nat) (a1 : List (List UInt8)) (r : Bool) (h : F_q n a1 = some r) :
    Csm prog 73 [.rsl 1 (List.map encS a1)] [] (fun r => .bool r) r := by
 refine Qb func73 Z Z Z ?_
 refine G0 11 Z (Bd h fun b36 h37 h => ?_)
 refine CtE (b := b36) [] [] (fun _ => []) (fun _ => []) (fun _ => rfl) ?_ (fun sb36 env H hbe hle => ?_)
 ·refine G0 1 Z ?_
  refine Lp [] [0] (fun s39 => [(3, I s39)]) (fun _ => []) h37 (fun _ => rfl) (Lr []) fun s39 d40 h41 hb38 => ?_
  refine G0 5 Z (Lm Z (Go 3 Z (Q1 Z h41 (fun hc42 h41 => ?_) (fun hc42 h41 => ?_))))
  ·refine Gc 2 Z (Qg h41 ?_)
   obtain rfl := Oj hb38 h41
   exact Gx 1 Z (Qh Z (Lr []))
  refine Gc 9 Z (Bd h41 fun x43 hx43 h41 => Iz hx43 Z (Go 1 Z (Cz [] h41 (k_at _ _) Z fun r44 hr44 h41 => Go 3 Z (Cn Z h41 (fun hc45 h41 => ?_) (fun hc45 h41 => ?_)))))
  ·refine Gc 9 Z (Qk h41 ?_)
   obtain rfl := Oj hb38 h41
   exact Gx 1 Z (Qi (Gx 1 Z (Rt h 2 [])))
  refine Gc 7 Z (Bd h41 fun b55 h56 h41 => ?_)
  refine CtE (b := b55) [] [0,3] (fun _ => []) (fun _ => []) (fun _ => rfl) ?_ (fun sb55 env H hbe hle => ?_)
  ·refine G0 1 Z ?_
   refine Lp [] [0,3] (fun s58 => [(4, I s58)]) (fun _ => []) h56 (fun _ => rfl) (Lr []) fun s58 d59 h60 hb57 => ?_
   refine G0 8 Z (Q1 Z h60 (fun hc61 h60 => ?_) (fun hc61 h60 => ?_))
   ·refine Gc 2 Z (Qg h60 ?_)
    obtain rfl := Oj hb57 h60
    exact Gx 1 Z (Qh Z (Lr []))
   refine Gc 5 Z (DSs 8 Z (D 2 Z ?_))
   obtain ⟨x62, hx62, h60⟩ := bnd h60
   refine DS.wo (x := .rp [.str x62]) ?_ ?_
   ·exact Ix hx62 runUnderlying150 sizeOf9 Z Wp
   refine D 3 Z ?_
   obtain ⟨x63, hx63, h60⟩ := bnd h60
   refine DS.wo (x := .rp [.str x63]) ?_ ?_
   ·exact Ix hx63 runUnderlying150 sizeOf9 Z Wp
   refine D 1 Z (DS.done Z (Go 3 Z (Cn Z h60 (fun hc64 h60 => ?_) (fun hc64 h60 => ?_))))
   ·refine Gc 8 Z (Qk h60 ?_)
    obtain rfl := Oj hb57 h60
    refine Gx 1 Z (Qi (Gx 2 Z (Qk h41 ?_)))
    obtain rfl := Oj hb38 h41
    exact Gx 1 Z (Qi (Gx 1 Z (Rt h 2 [])))
   exact Gc 8 Z (Qf h60 (Lr []))
  subst hbe
  exact Gx 2 Z (TC.le hle (Gc 5 Z (Qf h41 (Lr []))))
 subst hbe
 exact Gx 1 Z (TC.le hle (Gc 6 Z (Rt h 2 [])))
end Go.Sw
