/- What the functions compute that ChipsExchange reaches, and that their calls refine it (part 3 of 5). -/
import Derived.Test.YtkjlhfabbbomjaaGreatDoorW18Ex2
set_option linter.unusedVariables false
set_option linter.unusedSimpArgs false
set_option maxRecDepth 100000
set_option maxHeartbeats 4000000
namespace Go.Sw
open Go.Proofs Tryz
def Q_facts_open_rxk (a1 : Fact) (a2 : Int) : U_facts_open_rxk → Go.Sw.A → Heap → Prop
  | .c0 x, a, H => a = .tup [.agg [.osl 2 0 8 3, .fn (.func 144) [] []], .bool true] ∧ H = [.cells 81 (Fact.c a1), .cells 3 [.int .i64 a2], .rowr 181 3 [[.ptr 0 4, .int .i64 1, .int .i64 9999], [.ptr 0 5, .int .i64 0, .int .i64 7], [.ptr 0 6, .int .i64 0, .int .i64 31], [.ptr 0 7, .int .i64 (-1099511627776), .int .i64 1099511627776], [.ptr 0 8, .int .i64 0, .int .i64 120], [.ptr 0 9, .int .i64 0, .int .i64 1048576], [.ptr 0 10, .int .i64 0, .int .i64 9999], [.ptr 0 11, .int .i64 0, .int .i64 1048576]], .cells 171 [.osl 2 0 8 3, .fn (.func 144) [] []]]
  | .c1 x, a, H => a = .tup [.agg [.osl 2 0 4 3, .fn (.func 144) [] []], .bool true] ∧ H = [.cells 81 (Fact.c a1), .cells 3 [.int .i64 a2], .rowr 181 3 [[.ptr 0 12, .int .i64 0, .int .i64 39], [.ptr 0 13, .int .i64 0, .int .i64 255], [.ptr 0 14, .int .i64 0, .int .i64 1048576], [.ptr 0 15, .int .i64 (-1099511627776), .int .i64 1099511627776]], .cells 171 [.osl 2 0 4 3, .fn (.func 144) [] []]]
  | .c2 x, a, H => a = .tup [.agg [.osl 2 0 5 3, .fn (.func 144) [] []], .bool true] ∧ H = [.cells 81 (Fact.c a1), .cells 3 [.int .i64 a2], .rowr 181 3 [[.ptr 0 16, .int .i64 0, .int .i64 39], [.ptr 0 17, .int .i64 0, .int .i64 255], [.ptr 0 18, .int .i64 (-1099511627776), .int .i64 1099511627776], [.ptr 0 19, .int .i64 (-1099511627776), .int .i64 1099511627776], [.ptr 0 20, .int .i64 0, .int .i64 1099511627776]], .cells 171 [.osl 2 0 5 3, .fn (.func 144) [] []]]
  | .c3 x, a, H => a = .tup [.agg [.osl 2 0 8 3, .fn (.func 145) [] [.ptr 3 0]], .bool true] ∧ H = [.cells 81 (Fact.c a1), .cells 3 [.int .i64 a2], .rowr 181 3 [[.ptr 0 21, .int .i64 0, .int .i64 39], [.ptr 0 22, .int .i64 0, .int .i64 255], [.ptr 0 23, .int .i64 (-1099511627776), .int .i64 1099511627776], [.ptr 0 24, .int .i64 0, .int .i64 39], [.ptr 0 25, .int .i64 0, .int .i64 255], [.ptr 0 26, .int .i64 (-1099511627776), .int .i64 1099511627776], [.ptr 0 27, .int .i64 (-1099511627776), .int .i64 1099511627776], [.ptr 0 28, .int .i64 (-1099511627776), .int .i64 1099511627776]], .cells 238 [.ptr 0 21], .cells 171 [.osl 2 0 8 3, .fn (.func 145) [] [.ptr 3 0]]]
  | .c4 x, a, H => a = .tup [.agg [.osl 2 0 4 3, .fn (.func 146) [] [.ptr 3 0]], .bool true] ∧ H = [.cells 81 (Fact.c a1), .cells 3 [.int .i64 a2], .rowr 181 3 [[.ptr 0 29, .int .i64 1, .int .i64 9999], [.ptr 0 30, .int .i64 0, .int .i64 255], [.ptr 0 31, .int .i64 (-1099511627776), .int .i64 1099511627776], [.ptr 0 32, .int .i64 (-1099511627776), .int .i64 1099511627776]], .cells 239 [.ptr 0 29], .cells 171 [.osl 2 0 4 3, .fn (.func 146) [] [.ptr 3 0]]]
  | .c5 x, a, H => a = .tup [.agg [.osl 2 0 4 3, .fn (.func 147) [] [.ptr 3 0]], .bool true] ∧ H = [.cells 81 (Fact.c a1), .cells 3 [.int .i64 a2], .rowr 181 3 [[.ptr 0 33, .int .i64 0, .int .i64 39], [.ptr 0 34, .int .i64 0, .int .i64 255], [.ptr 0 35, .int .i64 (-1099511627776), .int .i64 1099511627776], [.ptr 0 36, .int .i64 (-1099511627776), .int .i64 1099511627776]], .cells 240 [.ptr 0 33], .cells 171 [.osl 2 0 4 3, .fn (.func 147) [] [.ptr 3 0]]]
  | .c6 x, a, H => a = .tup [.agg [.osl 2 0 2 3, .fn (.func 148) [] [.ptr 3 0]], .bool true] ∧ H = [.cells 81 (Fact.c a1), .cells 3 [.int .i64 a2], .rowr 181 3 [[.ptr 0 37, .int .i64 1, .int .i64 9999], [.ptr 0 38, .int .i64 1, .int .i64 9999]], .cells 241 [.ptr 0 37], .cells 171 [.osl 2 0 2 3, .fn (.func 148) [] [.ptr 3 0]]]
  | .c7 x, a, H => a = .tup [.agg [.osl 2 0 4 3, .fn (.func 144) [] []], .bool true] ∧ H = [.cells 81 (Fact.c a1), .cells 3 [.int .i64 a2], .rowr 181 3 [[.ptr 0 39, .int .i64 1, .int .i64 1048576], [.ptr 0 40, .int .i64 1, .int .i64 9999], [.ptr 0 41, .int .i64 0, .int .i64 31], [.ptr 0 42, .int .i64 0, .int .i64 255]], .cells 171 [.osl 2 0 4 3, .fn (.func 144) [] []]]
  | .c8 x, a, H => a = .tup [.agg [.osl 2 0 4 3, .fn (.func 144) [] []], .bool true] ∧ H = [.cells 81 (Fact.c a1), .cells 3 [.int .i64 a2], .rowr 181 3 [[.ptr 0 43, .int .i64 1, .int .i64 1048576], [.ptr 0 44, .int .i64 0, .int .i64 9999], [.ptr 0 45, .int .i64 0, .int .i64 1125899906842624], [.ptr 0 46, .int .i64 0, .int .i64 1]], .cells 171 [.osl 2 0 4 3, .fn (.func 144) [] []]]
  | .c9 x, a, H => a = .tup [.agg [.osl 2 0 6 3, .fn (.func 144) [] []], .bool true] ∧ H = [.cells 81 (Fact.c a1), .cells 3 [.int .i64 a2], .rowr 181 3 [[.ptr 0 47, .int .i64 1, .int .i64 1048576], [.ptr 0 48, .int .i64 1, .int .i64 2], [.ptr 0 49, .int .i64 1, .int .i64 5], [.ptr 0 50, .int .i64 x.1, .int .i64 x.2.1], [.ptr 0 51, .int .i64 x.2.2.1, .int .i64 x.2.2.2.1], [.ptr 0 52, .int .i64 x.2.2.2.2.1, .int .i64 x.2.2.2.2.2]], .cells 171 [.osl 2 0 6 3, .fn (.func 144) [] []]]
  | .c10 x, a, H => a = .tup [.agg [.osl 2 0 2 3, .fn (.func 144) [] []], .bool true] ∧ H = [.cells 81 (Fact.c a1), .cells 3 [.int .i64 a2], .rowr 181 3 [[.ptr 0 53, .int .i64 1, .int .i64 1048576], [.ptr 1 0, .int .i64 0, .int .i64 1]], .cells 171 [.osl 2 0 2 3, .fn (.func 144) [] []]]
  | .c11 x, a, H => a = .tup [.agg [.nils, .fn (.func 144) [] []], .bool true] ∧ H = [.cells 81 (Fact.c a1), .cells 3 [.int .i64 a2], .cells 171 [.nils, .fn (.func 144) [] []]]
  | .c12 x, a, H => a = .tup [.agg [.osl 2 0 2 3, .fn (.func 144) [] []], .bool true] ∧ H = [.cells 81 (Fact.c a1), .cells 3 [.int .i64 a2], .rowr 181 3 [[.ptr 0 55, .int .i64 0, .int .i64 31], [.ptr 0 56, .int .i64 1, .int .i64 1048576]], .cells 171 [.osl 2 0 2 3, .fn (.func 144) [] []]]
  | .c13 x, a, H => a = .tup [.agg [.nils, .nilf], .bool false] ∧ H = [.cells 81 (Fact.c a1), .cells 3 [.int .i64 a2], .cells 171 [.nils, .nilf]]
def F_z (n : Nat) (a1 : Fact) (a2 : Int) : Option U_facts_open_rxk :=
  (bif (a1.Kind == 1) then some (U_facts_open_rxk.c0 ()) else (bif (a1.Kind == 2) then some (U_facts_open_rxk.c1 ()) else (bif (a1.Kind == 3) then some (U_facts_open_rxk.c2 ()) else (bif (a1.Kind == 4) then some (U_facts_open_rxk.c3 ()) else (bif (a1.Kind == 5) then some (U_facts_open_rxk.c4 ()) else (bif (a1.Kind == 6) then some (U_facts_open_rxk.c5 ()) else (bif (a1.Kind == 7) then some (U_facts_open_rxk.c6 ()) else (bif (a1.Kind == 8) then some (U_facts_open_rxk.c7 ()) else (bif (a1.Kind == 9) then some (U_facts_open_rxk.c8 ()) else (bif (a1.Kind == 10) then ((bif (a1.Ruling.Kind == 1) then some (a1.Ruling.Kind == 1) else some (a1.Ruling.Kind == 2)) : Option Bool).bind fun b12 => ((bif b12 then some ({ least := 0, most := 0 : facts_scope }, { least := 0, most := 0 : facts_scope }, { least := 0, most := 0 : facts_scope }) else (bif (a1.Ruling.Kind == 3) then some ({ least := 1, most := 9999 : facts_scope }, { least := 0, most := 255 : facts_scope }, { least := 1, most := 1099511627776 : facts_scope }) else (bif (a1.Ruling.Kind == 4) then some ({ least := 1, most := 9999 : facts_scope }, { least := 0, most := 255 : facts_scope }, { least := 1, most := 64 : facts_scope }) else some ({ least := 1, most := 9999 : facts_scope }, { least := 0, most := 255 : facts_scope }, { least := 0, most := 0 : facts_scope })))) : Option (facts_scope × facts_scope × facts_scope)).bind fun b18 => some (U_facts_open_rxk.c9 (b18.1.least, b18.1.most, b18.2.1.least, b18.2.1.most, b18.2.2.least, b18.2.2.most)) else (bif (a1.Kind == 11) then some (U_facts_open_rxk.c10 ()) else (bif (a1.Kind == 12) then some (U_facts_open_rxk.c11 ()) else (bif (a1.Kind == 13) then some (U_facts_open_rxk.c12 ()) else some (U_facts_open_rxk.c13 ()))))))))))))))
theorem k_z (n : Nat) (a1 : Fact) (a2 : Int) (r : U_facts_open_rxk) (h : F_z n a1 a2 = some r) :
    C prog 82 [.ptr 0 0, .ptr 1 0] [.cells 81 (Fact.c a1), .cells 3 [.int .i64 a2]] (Q_facts_open_rxk a1 a2 r) := by
 refine C.of_body func82 Z Z Z ?_
 refine Rg ?_
 refine vH (OpH.allocZ (v := (.agg [.nils, .nilf])) zeroValue171 (ZR.agg (ZL.cons ZR.nils (ZL.cons ZR.nilf ZL.nil)))) ?_
 refine aV (.ptr 2 0) [_, _, .cells 171 [.nils, .nilf]] Z Z ?_
 refine S Z (Nx (TC.seq (Rg (S Z (S Z (Fp fa_81_3 Z (Ld isAgg3 Z (Nx (TC.block (Rg (S Z (S Z (Nx (Cn Z h (fun hc1 h => ?_) (fun hc1 h => ?_)))))))))))))))
 ·refine Rg (S Z (S Z (Fp fa_81_4 Z (S Z (Nx (TC.seq ?_))))))
  refine TC.draw0 40 [28, 29, 30, 31, 32, 33, 34, 35, 36, 37, 38, 39, 40, 41, 42, 43, 44, 45, 46, 47, 48, 49, 50, 51, 52, 53, 54, 55, 56, 57, 58, 59, 60, 61, 62, 63, 64, 65, 66, 67] [.ptr 0 4, .ptr 0 4, .ptr 0 4, .agg [.int .i64 1, .int .i64 9999], .agg [.ptr 0 4, .int .i64 1, .int .i64 9999], .ptr 0 4, .ptr 0 4, .ptr 0 5, .agg [.int .i64 0, .int .i64 7], .agg [.ptr 0 5, .int .i64 0, .int .i64 7], .ptr 0 4, .ptr 0 4, .ptr 0 6, .agg [.int .i64 0, .int .i64 31], .agg [.ptr 0 6, .int .i64 0, .int .i64 31], .ptr 0 4, .ptr 0 4, .ptr 0 7, .agg [.int .i64 (-1099511627776), .int .i64 1099511627776], .agg [.ptr 0 7, .int .i64 (-1099511627776), .int .i64 1099511627776], .ptr 0 4, .ptr 0 4, .ptr 0 8, .agg [.int .i64 0, .int .i64 120], .agg [.ptr 0 8, .int .i64 0, .int .i64 120], .ptr 0 4, .ptr 0 4, .ptr 0 9, .agg [.int .i64 0, .int .i64 1048576], .agg [.ptr 0 9, .int .i64 0, .int .i64 1048576], .ptr 0 4, .ptr 0 4, .ptr 0 10, .agg [.int .i64 0, .int .i64 9999], .agg [.ptr 0 10, .int .i64 0, .int .i64 9999], .ptr 0 4, .ptr 0 4, .ptr 0 11, .agg [.int .i64 0, .int .i64 1048576], .agg [.ptr 0 11, .int .i64 0, .int .i64 1048576]] draws Z Z Z ?_ ?_
  ·refine Oq.c ?_ (Oq.c ?_ (Oq.c ?_ (Oq.c ?_ (Oq.c ?_ (Oq.c ?_ (Oq.c ?_ (Oq.c ?_ (Oq.c ?_ (Oq.c ?_ (Oq.c ?_ (Oq.c ?_ (Oq.c ?_ (Oq.c ?_ (Oq.c ?_ (Oq.c ?_ (Oq.c ?_ (Oq.c ?_ (Oq.c ?_ (Oq.c ?_ (Oq.c ?_ (Oq.c ?_ (Oq.c ?_ (Oq.c ?_ (Oq.c ?_ (Oq.c ?_ (Oq.c ?_ (Oq.c ?_ (Oq.c ?_ (Oq.c ?_ (Oq.c ?_ (Oq.c ?_ (Oq.c ?_ (Oq.c ?_ (Oq.c ?_ (Oq.c ?_ (Oq.c ?_ (Oq.c ?_ (Oq.c ?_ (Oq.c ?_ (Oq.n))))))))))))))))))))))))))))))))))))))))
   ·refine Om Z (sO 6 sN) ?_
    exact S Z Wp
   ·refine Om Z (sD 0 sN) ?_
    exact S Z Wp
   ·refine Om Z (sD 1 sN) ?_
    exact Fp fa_50_0 Z Wp
   ·refine Om Z sN ?_
    refine vX (.agg [.int .i64 1, .int .i64 9999]) (OpV.loadG (g := 0) isAgg179 sizeOf179 Z Z) ?_
    exact Wp
   ·refine Om Z (sD 2 (sD 3 sN)) ?_
    refine vX (.agg [.ptr 0 4, .int .i64 1, .int .i64 9999]) (OpV.build (zs := [.nilp, .int .i64 0, .int .i64 0]) zeroValue181 (ZR.agg (ZL.cons ZR.nilp (ZL.cons ZR.int (ZL.cons ZR.int ZL.nil)))) pl_181) ?_
    exact Wp
   ·refine Om Z (sO 6 sN) ?_
    exact S Z Wp
   ·refine Om Z (sD 5 sN) ?_
    exact S Z Wp
   ·refine Om Z (sD 6 sN) ?_
    exact Fp fa_50_1 Z Wp
   ·refine Om Z sN ?_
    refine vX (.agg [.int .i64 0, .int .i64 7]) (OpV.build (zs := [.int .i64 0, .int .i64 0]) zeroValue179 (ZR.agg (ZL.cons ZR.int (ZL.cons ZR.int ZL.nil))) pl_179) ?_
    exact Wp
   ·refine Om Z (sD 7 (sD 8 sN)) ?_
    refine vX (.agg [.ptr 0 5, .int .i64 0, .int .i64 7]) (OpV.build (zs := [.nilp, .int .i64 0, .int .i64 0]) zeroValue181 (ZR.agg (ZL.cons ZR.nilp (ZL.cons ZR.int (ZL.cons ZR.int ZL.nil)))) pl_181) ?_
    exact Wp
   ·refine Om Z (sO 6 sN) ?_
    exact S Z Wp
   ·refine Om Z (sD 10 sN) ?_
    exact S Z Wp
   ·refine Om Z (sD 11 sN) ?_
    exact Fp fa_50_2 Z Wp
   ·refine Om Z sN ?_
    refine vX (.agg [.int .i64 0, .int .i64 31]) (OpV.build (zs := [.int .i64 0, .int .i64 0]) zeroValue179 (ZR.agg (ZL.cons ZR.int (ZL.cons ZR.int ZL.nil))) pl_179) ?_
    exact Wp
   ·refine Om Z (sD 12 (sD 13 sN)) ?_
    refine vX (.agg [.ptr 0 6, .int .i64 0, .int .i64 31]) (OpV.build (zs := [.nilp, .int .i64 0, .int .i64 0]) zeroValue181 (ZR.agg (ZL.cons ZR.nilp (ZL.cons ZR.int (ZL.cons ZR.int ZL.nil)))) pl_181) ?_
    exact Wp
   ·refine Om Z (sO 6 sN) ?_
    exact S Z Wp
   ·refine Om Z (sD 15 sN) ?_
    exact S Z Wp
   ·refine Om Z (sD 16 sN) ?_
    exact Fp fa_50_3 Z Wp
   ·refine Om Z sN ?_
    refine vX (.agg [.int .i64 (-1099511627776), .int .i64 1099511627776]) (OpV.loadG (g := 1) isAgg179 sizeOf179 Z Z) ?_
    exact Wp
   ·refine Om Z (sD 17 (sD 18 sN)) ?_
    refine vX (.agg [.ptr 0 7, .int .i64 (-1099511627776), .int .i64 1099511627776]) (OpV.build (zs := [.nilp, .int .i64 0, .int .i64 0]) zeroValue181 (ZR.agg (ZL.cons ZR.nilp (ZL.cons ZR.int (ZL.cons ZR.int ZL.nil)))) pl_181) ?_
    exact Wp
   ·refine Om Z (sO 6 sN) ?_
    exact S Z Wp
   ·refine Om Z (sD 20 sN) ?_
    exact S Z Wp
   ·refine Om Z (sD 21 sN) ?_
    exact Fp fa_50_4 Z Wp
   ·refine Om Z sN ?_
    refine vX (.agg [.int .i64 0, .int .i64 120]) (OpV.build (zs := [.int .i64 0, .int .i64 0]) zeroValue179 (ZR.agg (ZL.cons ZR.int (ZL.cons ZR.int ZL.nil))) pl_179) ?_
    exact Wp
   ·refine Om Z (sD 22 (sD 23 sN)) ?_
    refine vX (.agg [.ptr 0 8, .int .i64 0, .int .i64 120]) (OpV.build (zs := [.nilp, .int .i64 0, .int .i64 0]) zeroValue181 (ZR.agg (ZL.cons ZR.nilp (ZL.cons ZR.int (ZL.cons ZR.int ZL.nil)))) pl_181) ?_
    exact Wp
   ·refine Om Z (sO 6 sN) ?_
    exact S Z Wp
   ·refine Om Z (sD 25 sN) ?_
    exact S Z Wp
   ·refine Om Z (sD 26 sN) ?_
    exact Fp fa_50_5 Z Wp
   ·refine Om Z sN ?_
    refine vX (.agg [.int .i64 0, .int .i64 1048576]) (OpV.loadG (g := 2) isAgg179 sizeOf179 Z Z) ?_
    exact Wp
   ·refine Om Z (sD 27 (sD 28 sN)) ?_
    refine vX (.agg [.ptr 0 9, .int .i64 0, .int .i64 1048576]) (OpV.build (zs := [.nilp, .int .i64 0, .int .i64 0]) zeroValue181 (ZR.agg (ZL.cons ZR.nilp (ZL.cons ZR.int (ZL.cons ZR.int ZL.nil)))) pl_181) ?_
    exact Wp
   ·refine Om Z (sO 6 sN) ?_
    exact S Z Wp
   ·refine Om Z (sD 30 sN) ?_
    exact S Z Wp
   ·refine Om Z (sD 31 sN) ?_
    exact Fp fa_50_6 Z Wp
   ·refine Om Z sN ?_
    refine vX (.agg [.int .i64 0, .int .i64 9999]) (OpV.build (zs := [.int .i64 0, .int .i64 0]) zeroValue179 (ZR.agg (ZL.cons ZR.int (ZL.cons ZR.int ZL.nil))) pl_179) ?_
    exact Wp
   ·refine Om Z (sD 32 (sD 33 sN)) ?_
    refine vX (.agg [.ptr 0 10, .int .i64 0, .int .i64 9999]) (OpV.build (zs := [.nilp, .int .i64 0, .int .i64 0]) zeroValue181 (ZR.agg (ZL.cons ZR.nilp (ZL.cons ZR.int (ZL.cons ZR.int ZL.nil)))) pl_181) ?_
    exact Wp
   ·refine Om Z (sO 6 sN) ?_
    exact S Z Wp
   ·refine Om Z (sD 35 sN) ?_
    exact S Z Wp
   ·refine Om Z (sD 36 sN) ?_
    exact Fp fa_50_7 Z Wp
   ·refine Om Z sN ?_
    refine vX (.agg [.int .i64 0, .int .i64 1048576]) (OpV.build (zs := [.int .i64 0, .int .i64 0]) zeroValue179 (ZR.agg (ZL.cons ZR.int (ZL.cons ZR.int ZL.nil))) pl_179) ?_
    exact Wp
   ·refine Om Z (sD 37 (sD 38 sN)) ?_
    refine vX (.agg [.ptr 0 11, .int .i64 0, .int .i64 1048576]) (OpV.build (zs := [.nilp, .int .i64 0, .int .i64 0]) zeroValue181 (ZR.agg (ZL.cons ZR.nilp (ZL.cons ZR.int (ZL.cons ZR.int ZL.nil)))) pl_181) ?_
    exact Wp
  refine vH (OpH.litr (xs := [.tmp 32, .tmp 37, .tmp 42, .tmp 47, .tmp 52, .tmp 57, .tmp 62, .tmp 67]) el_169 Z Z Z Z Z ⟨Z, Z, Z, Z, Z, Z, Z, Z, trivial⟩ Z) ?_
  refine aV (.osl 3 0 8 3) [_, _, _, .rowr 181 3 [[.ptr 0 4, .int .i64 1, .int .i64 9999], [.ptr 0 5, .int .i64 0, .int .i64 7], [.ptr 0 6, .int .i64 0, .int .i64 31], [.ptr 0 7, .int .i64 (-1099511627776), .int .i64 1099511627776], [.ptr 0 8, .int .i64 0, .int .i64 120], [.ptr 0 9, .int .i64 0, .int .i64 1048576], [.ptr 0 10, .int .i64 0, .int .i64 9999], [.ptr 0 11, .int .i64 0, .int .i64 1048576]]] Z Z ?_
  refine vX (.agg [.osl 3 0 8 3, .fn (.func 144) [] []]) (OpV.build (zs := [.nils, .nilf]) zeroValue171 (ZR.agg (ZL.cons ZR.nils (ZL.cons ZR.nilf ZL.nil))) pl_171) ?_
  refine vU (OpU.store Z Z Z sizeOf171 Z Z Z Z Z Z Z) ?_
  refine WO.atH (H := [_, _, .cells 171 [.osl 3 0 8 3, .fn (.func 144) [] []], _]) Z ?_
  refine S Z (Nx (TC.ret (bloR (seqR ?_))))
  obtain rfl := Oi h
  refine ⟨[(4, .ptr 3 0), (5, .bool true)], [.cells 81 (Fact.c a1), .cells 3 [.int .i64 a2], .rowr 181 3 [[.ptr 0 4, .int .i64 1, .int .i64 9999], [.ptr 0 5, .int .i64 0, .int .i64 7], [.ptr 0 6, .int .i64 0, .int .i64 31], [.ptr 0 7, .int .i64 (-1099511627776), .int .i64 1099511627776], [.ptr 0 8, .int .i64 0, .int .i64 120], [.ptr 0 9, .int .i64 0, .int .i64 1048576], [.ptr 0 10, .int .i64 0, .int .i64 9999], [.ptr 0 11, .int .i64 0, .int .i64 1048576]], .cells 171 [.osl 2 0 8 3, .fn (.func 144) [] []]], _, ?_, ResOK.many Z Z (ResL.cons (ResAt.cellB isAgg171 sizeOf171 Z Z Z) (ResL.cons ResAt.tmp ResL.nil)), Z, Z⟩
  exact Lr [0, 1, 3, 2]
 refine Rg (S Z (S Z (Nx (Cn Z h (fun hc2 h => ?_) (fun hc2 h => ?_)))))
 ·refine Rg (S Z (S Z (Fp fa_81_5 Z (S Z (Nx (TC.seq ?_))))))
  refine TC.draw0 20 [75, 76, 77, 78, 79, 80, 81, 82, 83, 84, 85, 86, 87, 88, 89, 90, 91, 92, 93, 94] [.ptr 0 12, .ptr 0 12, .ptr 0 12, .agg [.int .i64 0, .int .i64 39], .agg [.ptr 0 12, .int .i64 0, .int .i64 39], .ptr 0 12, .ptr 0 12, .ptr 0 13, .agg [.int .i64 0, .int .i64 255], .agg [.ptr 0 13, .int .i64 0, .int .i64 255], .ptr 0 12, .ptr 0 12, .ptr 0 14, .agg [.int .i64 0, .int .i64 1048576], .agg [.ptr 0 14, .int .i64 0, .int .i64 1048576], .ptr 0 12, .ptr 0 12, .ptr 0 15, .agg [.int .i64 (-1099511627776), .int .i64 1099511627776], .agg [.ptr 0 15, .int .i64 (-1099511627776), .int .i64 1099511627776]] draws Z Z Z ?_ ?_
  ·refine Oq.c ?_ (Oq.c ?_ (Oq.c ?_ (Oq.c ?_ (Oq.c ?_ (Oq.c ?_ (Oq.c ?_ (Oq.c ?_ (Oq.c ?_ (Oq.c ?_ (Oq.c ?_ (Oq.c ?_ (Oq.c ?_ (Oq.c ?_ (Oq.c ?_ (Oq.c ?_ (Oq.c ?_ (Oq.c ?_ (Oq.c ?_ (Oq.c ?_ (Oq.n))))))))))))))))))))
   ·refine Om Z (sO 7 sN) ?_
    exact S Z Wp
   ·refine Om Z (sD 0 sN) ?_
    exact S Z Wp
   ·refine Om Z (sD 1 sN) ?_
    exact Fp fa_61_0 Z Wp
   ·refine Om Z sN ?_
    refine vX (.agg [.int .i64 0, .int .i64 39]) (OpV.loadG (g := 3) isAgg179 sizeOf179 Z Z) ?_
    exact Wp
   ·refine Om Z (sD 2 (sD 3 sN)) ?_
    refine vX (.agg [.ptr 0 12, .int .i64 0, .int .i64 39]) (OpV.build (zs := [.nilp, .int .i64 0, .int .i64 0]) zeroValue181 (ZR.agg (ZL.cons ZR.nilp (ZL.cons ZR.int (ZL.cons ZR.int ZL.nil)))) pl_181) ?_
    exact Wp
   ·refine Om Z (sO 7 sN) ?_
    exact S Z Wp
   ·refine Om Z (sD 5 sN) ?_
    exact S Z Wp
   ·refine Om Z (sD 6 sN) ?_
    exact Fp fa_61_1 Z Wp
   ·refine Om Z sN ?_
    refine vX (.agg [.int .i64 0, .int .i64 255]) (OpV.loadG (g := 4) isAgg179 sizeOf179 Z Z) ?_
    exact Wp
   ·refine Om Z (sD 7 (sD 8 sN)) ?_
    refine vX (.agg [.ptr 0 13, .int .i64 0, .int .i64 255]) (OpV.build (zs := [.nilp, .int .i64 0, .int .i64 0]) zeroValue181 (ZR.agg (ZL.cons ZR.nilp (ZL.cons ZR.int (ZL.cons ZR.int ZL.nil)))) pl_181) ?_
    exact Wp
   ·refine Om Z (sO 7 sN) ?_
    exact S Z Wp
   ·refine Om Z (sD 10 sN) ?_
    exact S Z Wp
   ·refine Om Z (sD 11 sN) ?_
    exact Fp fa_61_2 Z Wp
   ·refine Om Z sN ?_
    refine vX (.agg [.int .i64 0, .int .i64 1048576]) (OpV.loadG (g := 2) isAgg179 sizeOf179 Z Z) ?_
    exact Wp
   ·refine Om Z (sD 12 (sD 13 sN)) ?_
    refine vX (.agg [.ptr 0 14, .int .i64 0, .int .i64 1048576]) (OpV.build (zs := [.nilp, .int .i64 0, .int .i64 0]) zeroValue181 (ZR.agg (ZL.cons ZR.nilp (ZL.cons ZR.int (ZL.cons ZR.int ZL.nil)))) pl_181) ?_
    exact Wp
   ·refine Om Z (sO 7 sN) ?_
    exact S Z Wp
   ·refine Om Z (sD 15 sN) ?_
    exact S Z Wp
   ·refine Om Z (sD 16 sN) ?_
    exact Fp fa_61_3 Z Wp
   ·refine Om Z sN ?_
    refine vX (.agg [.int .i64 (-1099511627776), .int .i64 1099511627776]) (OpV.loadG (g := 1) isAgg179 sizeOf179 Z Z) ?_
    exact Wp
   ·refine Om Z (sD 17 (sD 18 sN)) ?_
    refine vX (.agg [.ptr 0 15, .int .i64 (-1099511627776), .int .i64 1099511627776]) (OpV.build (zs := [.nilp, .int .i64 0, .int .i64 0]) zeroValue181 (ZR.agg (ZL.cons ZR.nilp (ZL.cons ZR.int (ZL.cons ZR.int ZL.nil)))) pl_181) ?_
    exact Wp
  refine vH (OpH.litr (xs := [.tmp 79, .tmp 84, .tmp 89, .tmp 94]) el_169 Z Z Z Z Z ⟨Z, Z, Z, Z, trivial⟩ Z) ?_
  refine aV (.osl 3 0 4 3) [_, _, _, .rowr 181 3 [[.ptr 0 12, .int .i64 0, .int .i64 39], [.ptr 0 13, .int .i64 0, .int .i64 255], [.ptr 0 14, .int .i64 0, .int .i64 1048576], [.ptr 0 15, .int .i64 (-1099511627776), .int .i64 1099511627776]]] Z Z ?_
  refine vX (.agg [.osl 3 0 4 3, .fn (.func 144) [] []]) (OpV.build (zs := [.nils, .nilf]) zeroValue171 (ZR.agg (ZL.cons ZR.nils (ZL.cons ZR.nilf ZL.nil))) pl_171) ?_
  refine vU (OpU.store Z Z Z sizeOf171 Z Z Z Z Z Z Z) ?_
  refine WO.atH (H := [_, _, .cells 171 [.osl 3 0 4 3, .fn (.func 144) [] []], _]) Z ?_
  refine S Z (Nx (TC.ret (bloR (seqR ?_))))
  obtain rfl := Oi h
  refine ⟨[(4, .ptr 3 0), (5, .bool true)], [.cells 81 (Fact.c a1), .cells 3 [.int .i64 a2], .rowr 181 3 [[.ptr 0 12, .int .i64 0, .int .i64 39], [.ptr 0 13, .int .i64 0, .int .i64 255], [.ptr 0 14, .int .i64 0, .int .i64 1048576], [.ptr 0 15, .int .i64 (-1099511627776), .int .i64 1099511627776]], .cells 171 [.osl 2 0 4 3, .fn (.func 144) [] []]], _, ?_, ResOK.many Z Z (ResL.cons (ResAt.cellB isAgg171 sizeOf171 Z Z Z) (ResL.cons ResAt.tmp ResL.nil)), Z, Z⟩
  exact Lr [0, 1, 3, 2]
 refine Rg (S Z (S Z (Nx (Cn Z h (fun hc3 h => ?_) (fun hc3 h => ?_)))))
 ·refine Rg (S Z (S Z (Fp fa_81_6 Z (S Z (Nx (TC.seq ?_))))))
  refine TC.draw0 25 [102, 103, 104, 105, 106, 107, 108, 109, 110, 111, 112, 113, 114, 115, 116, 117, 118, 119, 120, 121, 122, 123, 124, 125, 126] [.ptr 0 16, .ptr 0 16, .ptr 0 16, .agg [.int .i64 0, .int .i64 39], .agg [.ptr 0 16, .int .i64 0, .int .i64 39], .ptr 0 16, .ptr 0 16, .ptr 0 17, .agg [.int .i64 0, .int .i64 255], .agg [.ptr 0 17, .int .i64 0, .int .i64 255], .ptr 0 16, .ptr 0 16, .ptr 0 18, .agg [.int .i64 (-1099511627776), .int .i64 1099511627776], .agg [.ptr 0 18, .int .i64 (-1099511627776), .int .i64 1099511627776], .ptr 0 16, .ptr 0 16, .ptr 0 19, .agg [.int .i64 (-1099511627776), .int .i64 1099511627776], .agg [.ptr 0 19, .int .i64 (-1099511627776), .int .i64 1099511627776], .ptr 0 16, .ptr 0 16, .ptr 0 20, .agg [.int .i64 0, .int .i64 1099511627776], .agg [.ptr 0 20, .int .i64 0, .int .i64 1099511627776]] draws Z Z Z ?_ ?_
  ·refine Oq.c ?_ (Oq.c ?_ (Oq.c ?_ (Oq.c ?_ (Oq.c ?_ (Oq.c ?_ (Oq.c ?_ (Oq.c ?_ (Oq.c ?_ (Oq.c ?_ (Oq.c ?_ (Oq.c ?_ (Oq.c ?_ (Oq.c ?_ (Oq.c ?_ (Oq.c ?_ (Oq.c ?_ (Oq.c ?_ (Oq.c ?_ (Oq.c ?_ (Oq.c ?_ (Oq.c ?_ (Oq.c ?_ (Oq.c ?_ (Oq.c ?_ (Oq.n)))))))))))))))))))))))))
   ·refine Om Z (sO 8 sN) ?_
    exact S Z Wp
   ·refine Om Z (sD 0 sN) ?_
    exact S Z Wp
   ·refine Om Z (sD 1 sN) ?_
    exact Fp fa_63_0 Z Wp
   ·refine Om Z sN ?_
    refine vX (.agg [.int .i64 0, .int .i64 39]) (OpV.loadG (g := 3) isAgg179 sizeOf179 Z Z) ?_
    exact Wp
   ·refine Om Z (sD 2 (sD 3 sN)) ?_
    refine vX (.agg [.ptr 0 16, .int .i64 0, .int .i64 39]) (OpV.build (zs := [.nilp, .int .i64 0, .int .i64 0]) zeroValue181 (ZR.agg (ZL.cons ZR.nilp (ZL.cons ZR.int (ZL.cons ZR.int ZL.nil)))) pl_181) ?_
    exact Wp
   ·refine Om Z (sO 8 sN) ?_
    exact S Z Wp
   ·refine Om Z (sD 5 sN) ?_
    exact S Z Wp
   ·refine Om Z (sD 6 sN) ?_
    exact Fp fa_63_1 Z Wp
   ·refine Om Z sN ?_
    refine vX (.agg [.int .i64 0, .int .i64 255]) (OpV.loadG (g := 4) isAgg179 sizeOf179 Z Z) ?_
    exact Wp
   ·refine Om Z (sD 7 (sD 8 sN)) ?_
    refine vX (.agg [.ptr 0 17, .int .i64 0, .int .i64 255]) (OpV.build (zs := [.nilp, .int .i64 0, .int .i64 0]) zeroValue181 (ZR.agg (ZL.cons ZR.nilp (ZL.cons ZR.int (ZL.cons ZR.int ZL.nil)))) pl_181) ?_
    exact Wp
   ·refine Om Z (sO 8 sN) ?_
    exact S Z Wp
   ·refine Om Z (sD 10 sN) ?_
    exact S Z Wp
   ·refine Om Z (sD 11 sN) ?_
    exact Fp fa_63_2 Z Wp
   ·refine Om Z sN ?_
    refine vX (.agg [.int .i64 (-1099511627776), .int .i64 1099511627776]) (OpV.loadG (g := 1) isAgg179 sizeOf179 Z Z) ?_
    exact Wp
   ·refine Om Z (sD 12 (sD 13 sN)) ?_
    refine vX (.agg [.ptr 0 18, .int .i64 (-1099511627776), .int .i64 1099511627776]) (OpV.build (zs := [.nilp, .int .i64 0, .int .i64 0]) zeroValue181 (ZR.agg (ZL.cons ZR.nilp (ZL.cons ZR.int (ZL.cons ZR.int ZL.nil)))) pl_181) ?_
    exact Wp
   ·refine Om Z (sO 8 sN) ?_
    exact S Z Wp
   ·refine Om Z (sD 15 sN) ?_
    exact S Z Wp
   ·refine Om Z (sD 16 sN) ?_
    exact Fp fa_63_3 Z Wp
   ·refine Om Z sN ?_
    refine vX (.agg [.int .i64 (-1099511627776), .int .i64 1099511627776]) (OpV.loadG (g := 1) isAgg179 sizeOf179 Z Z) ?_
    exact Wp
   ·refine Om Z (sD 17 (sD 18 sN)) ?_
    refine vX (.agg [.ptr 0 19, .int .i64 (-1099511627776), .int .i64 1099511627776]) (OpV.build (zs := [.nilp, .int .i64 0, .int .i64 0]) zeroValue181 (ZR.agg (ZL.cons ZR.nilp (ZL.cons ZR.int (ZL.cons ZR.int ZL.nil)))) pl_181) ?_
    exact Wp
   ·refine Om Z (sO 8 sN) ?_
    exact S Z Wp
   ·refine Om Z (sD 20 sN) ?_
    exact S Z Wp
   ·refine Om Z (sD 21 sN) ?_
    exact Fp fa_63_4 Z Wp
   ·refine Om Z sN ?_
    refine vX (.agg [.int .i64 0, .int .i64 1099511627776]) (OpV.loadG (g := 5) isAgg179 sizeOf179 Z Z) ?_
    exact Wp
   ·refine Om Z (sD 22 (sD 23 sN)) ?_
    refine vX (.agg [.ptr 0 20, .int .i64 0, .int .i64 1099511627776]) (OpV.build (zs := [.nilp, .int .i64 0, .int .i64 0]) zeroValue181 (ZR.agg (ZL.cons ZR.nilp (ZL.cons ZR.int (ZL.cons ZR.int ZL.nil)))) pl_181) ?_
    exact Wp
  refine vH (OpH.litr (xs := [.tmp 106, .tmp 111, .tmp 116, .tmp 121, .tmp 126]) el_169 Z Z Z Z Z ⟨Z, Z, Z, Z, Z, trivial⟩ Z) ?_
  refine aV (.osl 3 0 5 3) [_, _, _, .rowr 181 3 [[.ptr 0 16, .int .i64 0, .int .i64 39], [.ptr 0 17, .int .i64 0, .int .i64 255], [.ptr 0 18, .int .i64 (-1099511627776), .int .i64 1099511627776], [.ptr 0 19, .int .i64 (-1099511627776), .int .i64 1099511627776], [.ptr 0 20, .int .i64 0, .int .i64 1099511627776]]] Z Z ?_
  refine vX (.agg [.osl 3 0 5 3, .fn (.func 144) [] []]) (OpV.build (zs := [.nils, .nilf]) zeroValue171 (ZR.agg (ZL.cons ZR.nils (ZL.cons ZR.nilf ZL.nil))) pl_171) ?_
  refine vU (OpU.store Z Z Z sizeOf171 Z Z Z Z Z Z Z) ?_
  refine WO.atH (H := [_, _, .cells 171 [.osl 3 0 5 3, .fn (.func 144) [] []], _]) Z ?_
  refine S Z (Nx (TC.ret (bloR (seqR ?_))))
  obtain rfl := Oi h
  refine ⟨[(4, .ptr 3 0), (5, .bool true)], [.cells 81 (Fact.c a1), .cells 3 [.int .i64 a2], .rowr 181 3 [[.ptr 0 16, .int .i64 0, .int .i64 39], [.ptr 0 17, .int .i64 0, .int .i64 255], [.ptr 0 18, .int .i64 (-1099511627776), .int .i64 1099511627776], [.ptr 0 19, .int .i64 (-1099511627776), .int .i64 1099511627776], [.ptr 0 20, .int .i64 0, .int .i64 1099511627776]], .cells 171 [.osl 2 0 5 3, .fn (.func 144) [] []]], _, ?_, ResOK.many Z Z (ResL.cons (ResAt.cellB isAgg171 sizeOf171 Z Z Z) (ResL.cons ResAt.tmp ResL.nil)), Z, Z⟩
  exact Lr [0, 1, 3, 2]
 refine Rg (S Z (S Z (Nx (Cn Z h (fun hc4 h => ?_) (fun hc4 h => ?_)))))
 ·refine Rg (S Z (S Z (Fp fa_81_7 Z ?_)))
  refine vH (OpH.allocZ (v := .nilp) zeroValue238 ZR.nilp) ?_
  refine aV (.ptr 3 0) [_, _, _, .cells 238 [.nilp]] Z Z ?_
  refine vU (OpU.store Z Z Z sizeOf238 Z Z Z Z Z Z Z) ?_
  refine WO.atH (H := [_, _, _, .cells 238 [.ptr 0 21]]) Z ?_
  refine Nx (TC.seq ?_)
  refine TC.draws 42 0 [134, 135, 136, 137, 138, 139, 140, 141, 142, 143, 144, 145, 146, 147, 148, 149, 150, 151, 152, 153, 154, 155, 156, 157, 158, 159, 160, 161, 162, 163, 164, 165, 166, 167, 168, 169, 170, 171, 172, 173, 174, 175] [false, false, false, false, false, false, false, false, false, false, false, false, false, false, false, false, false, false, false, false, false, false, false, false, false, false, false, false, false, false, false, false, false, false, false, false, false, false, false, false, true, false] [[], [], [], [], [], [], [], [], [], [], [], [], [], [], [], [], [], [], [], [], [], [], [], [], [], [], [], [], [], [], [], [], [], [], [], [], [], [], [], [], [], []] [[], [40]] [[(0, 0), (1, 1)], [(0, 0), (1, 1)], [(0, 0), (1, 1)], [(0, 0), (1, 1)], [(0, 0), (1, 1)], [(0, 0), (1, 1)], [(0, 0), (1, 1)], [(0, 0), (1, 1)], [(0, 0), (1, 1)], [(0, 0), (1, 1)], [(0, 0), (1, 1)], [(0, 0), (1, 1)], [(0, 0), (1, 1)], [(0, 0), (1, 1)], [(0, 0), (1, 1)], [(0, 0), (1, 1)], [(0, 0), (1, 1)], [(0, 0), (1, 1)], [(0, 0), (1, 1)], [(0, 0), (1, 1)], [(0, 0), (1, 1)], [(0, 0), (1, 1)], [(0, 0), (1, 1)], [(0, 0), (1, 1)], [(0, 0), (1, 1)], [(0, 0), (1, 1)], [(0, 0), (1, 1)], [(0, 0), (1, 1)], [(0, 0), (1, 1)], [(0, 0), (1, 1)], [(0, 0), (1, 1)], [(0, 0), (1, 1)], [(0, 0), (1, 1)], [(0, 0), (1, 1)], [(0, 0), (1, 1)], [(0, 0), (1, 1)], [(0, 0), (1, 1)], [(0, 0), (1, 1)], [(0, 0), (1, 1)], [(0, 0), (1, 1)], [(0, 1)], [(0, 0), (1, 1)]] [.ptr 0 21, .ptr 0 21, .ptr 0 21, .agg [.int .i64 0, .int .i64 39], .agg [.ptr 0 21, .int .i64 0, .int .i64 39], .ptr 0 21, .ptr 0 21, .ptr 0 22, .agg [.int .i64 0, .int .i64 255], .agg [.ptr 0 22, .int .i64 0, .int .i64 255], .ptr 0 21, .ptr 0 21, .ptr 0 23, .agg [.int .i64 (-1099511627776), .int .i64 1099511627776], .agg [.ptr 0 23, .int .i64 (-1099511627776), .int .i64 1099511627776], .ptr 0 21, .ptr 0 21, .ptr 0 24, .agg [.int .i64 0, .int .i64 39], .agg [.ptr 0 24, .int .i64 0, .int .i64 39], .ptr 0 21, .ptr 0 21, .ptr 0 25, .agg [.int .i64 0, .int .i64 255], .agg [.ptr 0 25, .int .i64 0, .int .i64 255], .ptr 0 21, .ptr 0 21, .ptr 0 26, .agg [.int .i64 (-1099511627776), .int .i64 1099511627776], .agg [.ptr 0 26, .int .i64 (-1099511627776), .int .i64 1099511627776], .ptr 0 21, .ptr 0 21, .ptr 0 27, .agg [.int .i64 (-1099511627776), .int .i64 1099511627776], .agg [.ptr 0 27, .int .i64 (-1099511627776), .int .i64 1099511627776], .ptr 0 21, .ptr 0 21, .ptr 0 28, .agg [.int .i64 (-1099511627776), .int .i64 1099511627776], .agg [.ptr 0 28, .int .i64 (-1099511627776), .int .i64 1099511627776], .osl 4 0 8 3, .fn (.func 145) [] [.ptr 3 0]] [[.cells 81 (Fact.c a1), .cells 3 [.int .i64 a2], .cells 171 [.nils, .nilf], .cells 238 [.ptr 0 21]], [.cells 81 (Fact.c a1), .cells 3 [.int .i64 a2], .cells 171 [.nils, .nilf], .cells 238 [.ptr 0 21], .rowr 181 3 [[.ptr 0 21, .int .i64 0, .int .i64 39], [.ptr 0 22, .int .i64 0, .int .i64 255], [.ptr 0 23, .int .i64 (-1099511627776), .int .i64 1099511627776], [.ptr 0 24, .int .i64 0, .int .i64 39], [.ptr 0 25, .int .i64 0, .int .i64 255], [.ptr 0 26, .int .i64 (-1099511627776), .int .i64 1099511627776], [.ptr 0 27, .int .i64 (-1099511627776), .int .i64 1099511627776], [.ptr 0 28, .int .i64 (-1099511627776), .int .i64 1099511627776]]]] ([.cells 81 (Fact.c a1), .cells 3 [.int .i64 a2], .cells 171 [.nils, .nilf], .cells 238 [.ptr 0 21], .rowr 181 3 [[.ptr 0 21, .int .i64 0, .int .i64 39], [.ptr 0 22, .int .i64 0, .int .i64 255], [.ptr 0 23, .int .i64 (-1099511627776), .int .i64 1099511627776], [.ptr 0 24, .int .i64 0, .int .i64 39], [.ptr 0 25, .int .i64 0, .int .i64 255], [.ptr 0 26, .int .i64 (-1099511627776), .int .i64 1099511627776], [.ptr 0 27, .int .i64 (-1099511627776), .int .i64 1099511627776], [.ptr 0 28, .int .i64 (-1099511627776), .int .i64 1099511627776]]]) draws Z Z Z Z Z Z Z ?_ Z ?_
  ·refine OblM.cons ?_ (OblM.cons ?_ (OblM.cons ?_ (OblM.cons ?_ (OblM.cons ?_ (OblM.cons ?_ (OblM.cons ?_ (OblM.cons ?_ (OblM.cons ?_ (OblM.cons ?_ (OblM.cons ?_ (OblM.cons ?_ (OblM.cons ?_ (OblM.cons ?_ (OblM.cons ?_ (OblM.cons ?_ (OblM.cons ?_ (OblM.cons ?_ (OblM.cons ?_ (OblM.cons ?_ (OblM.cons ?_ (OblM.cons ?_ (OblM.cons ?_ (OblM.cons ?_ (OblM.cons ?_ (OblM.cons ?_ (OblM.cons ?_ (OblM.cons ?_ (OblM.cons ?_ (OblM.cons ?_ (OblM.cons ?_ (OblM.cons ?_ (OblM.cons ?_ (OblM.cons ?_ (OblM.cons ?_ (OblM.cons ?_ (OblM.cons ?_ (OblM.cons ?_ (OblM.cons ?_ (OblM.cons ?_ (OblM.cons ?_ (OblM.cons ?_ (OblM.nil))))))))))))))))))))))))))))))))))))))))))
   ·refine OblM.stC ?_ (OblM.stC ?_ (OblM.st0))
    ·refine Om Z (sO 9 sN) ?_
     exact Ld isAgg238 Z Wp
    ·refine Om Z (sO 9 sN) ?_
     exact Ld isAgg238 Z Wp
   ·refine OblM.stC ?_ (OblM.stC ?_ (OblM.st0))
    ·refine Om Z (sD 0 sN) ?_
     exact S Z Wp
    ·refine Om Z (sD 0 sN) ?_
     exact S Z Wp
   ·refine OblM.stC ?_ (OblM.stC ?_ (OblM.st0))
    ·refine Om Z (sD 1 sN) ?_
     exact Fp fa_65_0 Z Wp
    ·refine Om Z (sD 1 sN) ?_
     exact Fp fa_65_0 Z Wp
   ·refine OblM.stC ?_ (OblM.stC ?_ (OblM.st0))
    ·refine Om Z sN ?_
     refine vX (.agg [.int .i64 0, .int .i64 39]) (OpV.loadG (g := 3) isAgg179 sizeOf179 Z Z) ?_
     exact Wp
    ·refine Om Z sN ?_
     refine vX (.agg [.int .i64 0, .int .i64 39]) (OpV.loadG (g := 3) isAgg179 sizeOf179 Z Z) ?_
     exact Wp
   ·refine OblM.stC ?_ (OblM.stC ?_ (OblM.st0))
    ·refine Om Z (sD 2 (sD 3 sN)) ?_
     refine vX (.agg [.ptr 0 21, .int .i64 0, .int .i64 39]) (OpV.build (zs := [.nilp, .int .i64 0, .int .i64 0]) zeroValue181 (ZR.agg (ZL.cons ZR.nilp (ZL.cons ZR.int (ZL.cons ZR.int ZL.nil)))) pl_181) ?_
     exact Wp
    ·refine Om Z (sD 2 (sD 3 sN)) ?_
     refine vX (.agg [.ptr 0 21, .int .i64 0, .int .i64 39]) (OpV.build (zs := [.nilp, .int .i64 0, .int .i64 0]) zeroValue181 (ZR.agg (ZL.cons ZR.nilp (ZL.cons ZR.int (ZL.cons ZR.int ZL.nil)))) pl_181) ?_
     exact Wp
   ·refine OblM.stC ?_ (OblM.stC ?_ (OblM.st0))
    ·refine Om Z (sO 9 sN) ?_
     exact Ld isAgg238 Z Wp
    ·refine Om Z (sO 9 sN) ?_
     exact Ld isAgg238 Z Wp
   ·refine OblM.stC ?_ (OblM.stC ?_ (OblM.st0))
    ·refine Om Z (sD 5 sN) ?_
     exact S Z Wp
    ·refine Om Z (sD 5 sN) ?_
     exact S Z Wp
   ·refine OblM.stC ?_ (OblM.stC ?_ (OblM.st0))
    ·refine Om Z (sD 6 sN) ?_
     exact Fp fa_65_1 Z Wp
    ·refine Om Z (sD 6 sN) ?_
     exact Fp fa_65_1 Z Wp
   ·refine OblM.stC ?_ (OblM.stC ?_ (OblM.st0))
    ·refine Om Z sN ?_
     refine vX (.agg [.int .i64 0, .int .i64 255]) (OpV.loadG (g := 4) isAgg179 sizeOf179 Z Z) ?_
     exact Wp
    ·refine Om Z sN ?_
     refine vX (.agg [.int .i64 0, .int .i64 255]) (OpV.loadG (g := 4) isAgg179 sizeOf179 Z Z) ?_
     exact Wp
   ·refine OblM.stC ?_ (OblM.stC ?_ (OblM.st0))
    ·refine Om Z (sD 7 (sD 8 sN)) ?_
     refine vX (.agg [.ptr 0 22, .int .i64 0, .int .i64 255]) (OpV.build (zs := [.nilp, .int .i64 0, .int .i64 0]) zeroValue181 (ZR.agg (ZL.cons ZR.nilp (ZL.cons ZR.int (ZL.cons ZR.int ZL.nil)))) pl_181) ?_
     exact Wp
    ·refine Om Z (sD 7 (sD 8 sN)) ?_
     refine vX (.agg [.ptr 0 22, .int .i64 0, .int .i64 255]) (OpV.build (zs := [.nilp, .int .i64 0, .int .i64 0]) zeroValue181 (ZR.agg (ZL.cons ZR.nilp (ZL.cons ZR.int (ZL.cons ZR.int ZL.nil)))) pl_181) ?_
     exact Wp
   ·refine OblM.stC ?_ (OblM.stC ?_ (OblM.st0))
    ·refine Om Z (sO 9 sN) ?_
     exact Ld isAgg238 Z Wp
    ·refine Om Z (sO 9 sN) ?_
     exact Ld isAgg238 Z Wp
   ·refine OblM.stC ?_ (OblM.stC ?_ (OblM.st0))
    ·refine Om Z (sD 10 sN) ?_
     exact S Z Wp
    ·refine Om Z (sD 10 sN) ?_
     exact S Z Wp
   ·refine OblM.stC ?_ (OblM.stC ?_ (OblM.st0))
    ·refine Om Z (sD 11 sN) ?_
     exact Fp fa_65_2 Z Wp
    ·refine Om Z (sD 11 sN) ?_
     exact Fp fa_65_2 Z Wp
   ·refine OblM.stC ?_ (OblM.stC ?_ (OblM.st0))
    ·refine Om Z sN ?_
     refine vX (.agg [.int .i64 (-1099511627776), .int .i64 1099511627776]) (OpV.loadG (g := 1) isAgg179 sizeOf179 Z Z) ?_
     exact Wp
    ·refine Om Z sN ?_
     refine vX (.agg [.int .i64 (-1099511627776), .int .i64 1099511627776]) (OpV.loadG (g := 1) isAgg179 sizeOf179 Z Z) ?_
     exact Wp
   ·refine OblM.stC ?_ (OblM.stC ?_ (OblM.st0))
    ·refine Om Z (sD 12 (sD 13 sN)) ?_
     refine vX (.agg [.ptr 0 23, .int .i64 (-1099511627776), .int .i64 1099511627776]) (OpV.build (zs := [.nilp, .int .i64 0, .int .i64 0]) zeroValue181 (ZR.agg (ZL.cons ZR.nilp (ZL.cons ZR.int (ZL.cons ZR.int ZL.nil)))) pl_181) ?_
     exact Wp
    ·refine Om Z (sD 12 (sD 13 sN)) ?_
     refine vX (.agg [.ptr 0 23, .int .i64 (-1099511627776), .int .i64 1099511627776]) (OpV.build (zs := [.nilp, .int .i64 0, .int .i64 0]) zeroValue181 (ZR.agg (ZL.cons ZR.nilp (ZL.cons ZR.int (ZL.cons ZR.int ZL.nil)))) pl_181) ?_
     exact Wp
   ·refine OblM.stC ?_ (OblM.stC ?_ (OblM.st0))
    ·refine Om Z (sO 9 sN) ?_
     exact Ld isAgg238 Z Wp
    ·refine Om Z (sO 9 sN) ?_
     exact Ld isAgg238 Z Wp
   ·refine OblM.stC ?_ (OblM.stC ?_ (OblM.st0))
    ·refine Om Z (sD 15 sN) ?_
     exact S Z Wp
    ·refine Om Z (sD 15 sN) ?_
     exact S Z Wp
   ·refine OblM.stC ?_ (OblM.stC ?_ (OblM.st0))
    ·refine Om Z (sD 16 sN) ?_
     exact Fp fa_65_3 Z Wp
    ·refine Om Z (sD 16 sN) ?_
     exact Fp fa_65_3 Z Wp
   ·refine OblM.stC ?_ (OblM.stC ?_ (OblM.st0))
    ·refine Om Z sN ?_
     refine vX (.agg [.int .i64 0, .int .i64 39]) (OpV.loadG (g := 3) isAgg179 sizeOf179 Z Z) ?_
     exact Wp
    ·refine Om Z sN ?_
     refine vX (.agg [.int .i64 0, .int .i64 39]) (OpV.loadG (g := 3) isAgg179 sizeOf179 Z Z) ?_
     exact Wp
   ·refine OblM.stC ?_ (OblM.stC ?_ (OblM.st0))
    ·refine Om Z (sD 17 (sD 18 sN)) ?_
     refine vX (.agg [.ptr 0 24, .int .i64 0, .int .i64 39]) (OpV.build (zs := [.nilp, .int .i64 0, .int .i64 0]) zeroValue181 (ZR.agg (ZL.cons ZR.nilp (ZL.cons ZR.int (ZL.cons ZR.int ZL.nil)))) pl_181) ?_
     exact Wp
    ·refine Om Z (sD 17 (sD 18 sN)) ?_
     refine vX (.agg [.ptr 0 24, .int .i64 0, .int .i64 39]) (OpV.build (zs := [.nilp, .int .i64 0, .int .i64 0]) zeroValue181 (ZR.agg (ZL.cons ZR.nilp (ZL.cons ZR.int (ZL.cons ZR.int ZL.nil)))) pl_181) ?_
     exact Wp
   ·refine OblM.stC ?_ (OblM.stC ?_ (OblM.st0))
    ·refine Om Z (sO 9 sN) ?_
     exact Ld isAgg238 Z Wp
    ·refine Om Z (sO 9 sN) ?_
     exact Ld isAgg238 Z Wp
   ·refine OblM.stC ?_ (OblM.stC ?_ (OblM.st0))
    ·refine Om Z (sD 20 sN) ?_
     exact S Z Wp
    ·refine Om Z (sD 20 sN) ?_
     exact S Z Wp
   ·refine OblM.stC ?_ (OblM.stC ?_ (OblM.st0))
    ·refine Om Z (sD 21 sN) ?_
     exact Fp fa_65_4 Z Wp
    ·refine Om Z (sD 21 sN) ?_
     exact Fp fa_65_4 Z Wp
   ·refine OblM.stC ?_ (OblM.stC ?_ (OblM.st0))
    ·refine Om Z sN ?_
     refine vX (.agg [.int .i64 0, .int .i64 255]) (OpV.loadG (g := 4) isAgg179 sizeOf179 Z Z) ?_
     exact Wp
    ·refine Om Z sN ?_
     refine vX (.agg [.int .i64 0, .int .i64 255]) (OpV.loadG (g := 4) isAgg179 sizeOf179 Z Z) ?_
     exact Wp
   ·refine OblM.stC ?_ (OblM.stC ?_ (OblM.st0))
    ·refine Om Z (sD 22 (sD 23 sN)) ?_
     refine vX (.agg [.ptr 0 25, .int .i64 0, .int .i64 255]) (OpV.build (zs := [.nilp, .int .i64 0, .int .i64 0]) zeroValue181 (ZR.agg (ZL.cons ZR.nilp (ZL.cons ZR.int (ZL.cons ZR.int ZL.nil)))) pl_181) ?_
     exact Wp
    ·refine Om Z (sD 22 (sD 23 sN)) ?_
     refine vX (.agg [.ptr 0 25, .int .i64 0, .int .i64 255]) (OpV.build (zs := [.nilp, .int .i64 0, .int .i64 0]) zeroValue181 (ZR.agg (ZL.cons ZR.nilp (ZL.cons ZR.int (ZL.cons ZR.int ZL.nil)))) pl_181) ?_
     exact Wp
   ·refine OblM.stC ?_ (OblM.stC ?_ (OblM.st0))
    ·refine Om Z (sO 9 sN) ?_
     exact Ld isAgg238 Z Wp
    ·refine Om Z (sO 9 sN) ?_
     exact Ld isAgg238 Z Wp
   ·refine OblM.stC ?_ (OblM.stC ?_ (OblM.st0))
    ·refine Om Z (sD 25 sN) ?_
     exact S Z Wp
    ·refine Om Z (sD 25 sN) ?_
     exact S Z Wp
   ·refine OblM.stC ?_ (OblM.stC ?_ (OblM.st0))
    ·refine Om Z (sD 26 sN) ?_
     exact Fp fa_65_5 Z Wp
    ·refine Om Z (sD 26 sN) ?_
     exact Fp fa_65_5 Z Wp
   ·refine OblM.stC ?_ (OblM.stC ?_ (OblM.st0))
    ·refine Om Z sN ?_
     refine vX (.agg [.int .i64 (-1099511627776), .int .i64 1099511627776]) (OpV.loadG (g := 1) isAgg179 sizeOf179 Z Z) ?_
     exact Wp
    ·refine Om Z sN ?_
     refine vX (.agg [.int .i64 (-1099511627776), .int .i64 1099511627776]) (OpV.loadG (g := 1) isAgg179 sizeOf179 Z Z) ?_
     exact Wp
   ·refine OblM.stC ?_ (OblM.stC ?_ (OblM.st0))
    ·refine Om Z (sD 27 (sD 28 sN)) ?_
     refine vX (.agg [.ptr 0 26, .int .i64 (-1099511627776), .int .i64 1099511627776]) (OpV.build (zs := [.nilp, .int .i64 0, .int .i64 0]) zeroValue181 (ZR.agg (ZL.cons ZR.nilp (ZL.cons ZR.int (ZL.cons ZR.int ZL.nil)))) pl_181) ?_
     exact Wp
    ·refine Om Z (sD 27 (sD 28 sN)) ?_
     refine vX (.agg [.ptr 0 26, .int .i64 (-1099511627776), .int .i64 1099511627776]) (OpV.build (zs := [.nilp, .int .i64 0, .int .i64 0]) zeroValue181 (ZR.agg (ZL.cons ZR.nilp (ZL.cons ZR.int (ZL.cons ZR.int ZL.nil)))) pl_181) ?_
     exact Wp
   ·refine OblM.stC ?_ (OblM.stC ?_ (OblM.st0))
    ·refine Om Z (sO 9 sN) ?_
     exact Ld isAgg238 Z Wp
    ·refine Om Z (sO 9 sN) ?_
     exact Ld isAgg238 Z Wp
   ·refine OblM.stC ?_ (OblM.stC ?_ (OblM.st0))
    ·refine Om Z (sD 30 sN) ?_
     exact S Z Wp
    ·refine Om Z (sD 30 sN) ?_
     exact S Z Wp
   ·refine OblM.stC ?_ (OblM.stC ?_ (OblM.st0))
    ·refine Om Z (sD 31 sN) ?_
     exact Fp fa_65_6 Z Wp
    ·refine Om Z (sD 31 sN) ?_
     exact Fp fa_65_6 Z Wp
   ·refine OblM.stC ?_ (OblM.stC ?_ (OblM.st0))
    ·refine Om Z sN ?_
     refine vX (.agg [.int .i64 (-1099511627776), .int .i64 1099511627776]) (OpV.loadG (g := 1) isAgg179 sizeOf179 Z Z) ?_
     exact Wp
    ·refine Om Z sN ?_
     refine vX (.agg [.int .i64 (-1099511627776), .int .i64 1099511627776]) (OpV.loadG (g := 1) isAgg179 sizeOf179 Z Z) ?_
     exact Wp
   ·refine OblM.stC ?_ (OblM.stC ?_ (OblM.st0))
    ·refine Om Z (sD 32 (sD 33 sN)) ?_
     refine vX (.agg [.ptr 0 27, .int .i64 (-1099511627776), .int .i64 1099511627776]) (OpV.build (zs := [.nilp, .int .i64 0, .int .i64 0]) zeroValue181 (ZR.agg (ZL.cons ZR.nilp (ZL.cons ZR.int (ZL.cons ZR.int ZL.nil)))) pl_181) ?_
     exact Wp
    ·refine Om Z (sD 32 (sD 33 sN)) ?_
     refine vX (.agg [.ptr 0 27, .int .i64 (-1099511627776), .int .i64 1099511627776]) (OpV.build (zs := [.nilp, .int .i64 0, .int .i64 0]) zeroValue181 (ZR.agg (ZL.cons ZR.nilp (ZL.cons ZR.int (ZL.cons ZR.int ZL.nil)))) pl_181) ?_
     exact Wp
   ·refine OblM.stC ?_ (OblM.stC ?_ (OblM.st0))
    ·refine Om Z (sO 9 sN) ?_
     exact Ld isAgg238 Z Wp
    ·refine Om Z (sO 9 sN) ?_
     exact Ld isAgg238 Z Wp
   ·refine OblM.stC ?_ (OblM.stC ?_ (OblM.st0))
    ·refine Om Z (sD 35 sN) ?_
     exact S Z Wp
    ·refine Om Z (sD 35 sN) ?_
     exact S Z Wp
   ·refine OblM.stC ?_ (OblM.stC ?_ (OblM.st0))
    ·refine Om Z (sD 36 sN) ?_
     exact Fp fa_65_7 Z Wp
    ·refine Om Z (sD 36 sN) ?_
     exact Fp fa_65_7 Z Wp
   ·refine OblM.stC ?_ (OblM.stC ?_ (OblM.st0))
    ·refine Om Z sN ?_
     refine vX (.agg [.int .i64 (-1099511627776), .int .i64 1099511627776]) (OpV.loadG (g := 1) isAgg179 sizeOf179 Z Z) ?_
     exact Wp
    ·refine Om Z sN ?_
     refine vX (.agg [.int .i64 (-1099511627776), .int .i64 1099511627776]) (OpV.loadG (g := 1) isAgg179 sizeOf179 Z Z) ?_
     exact Wp
   ·refine OblM.stC ?_ (OblM.stC ?_ (OblM.st0))
    ·refine Om Z (sD 37 (sD 38 sN)) ?_
     refine vX (.agg [.ptr 0 28, .int .i64 (-1099511627776), .int .i64 1099511627776]) (OpV.build (zs := [.nilp, .int .i64 0, .int .i64 0]) zeroValue181 (ZR.agg (ZL.cons ZR.nilp (ZL.cons ZR.int (ZL.cons ZR.int ZL.nil)))) pl_181) ?_
     exact Wp
    ·refine Om Z (sD 37 (sD 38 sN)) ?_
     refine vX (.agg [.ptr 0 28, .int .i64 (-1099511627776), .int .i64 1099511627776]) (OpV.build (zs := [.nilp, .int .i64 0, .int .i64 0]) zeroValue181 (ZR.agg (ZL.cons ZR.nilp (ZL.cons ZR.int (ZL.cons ZR.int ZL.nil)))) pl_181) ?_
     exact Wp
   ·refine OblM.stC ?_ (OblM.st0)
    ·refine Om1 Z (sD 4 (sD 9 (sD 14 (sD 19 (sD 24 (sD 29 (sD 34 (sD 39 sN)))))))) ?_
     refine vH (OpH.litr (xs := [.tmp 138, .tmp 143, .tmp 148, .tmp 153, .tmp 158, .tmp 163, .tmp 168, .tmp 173]) el_169 Z Z Z Z Z ⟨Z, Z, Z, Z, Z, Z, Z, Z, trivial⟩ Z) ?_
     refine aV (.osl 4 0 8 3) [_, _, _, _, .rowr 181 3 [[.ptr 0 21, .int .i64 0, .int .i64 39], [.ptr 0 22, .int .i64 0, .int .i64 255], [.ptr 0 23, .int .i64 (-1099511627776), .int .i64 1099511627776], [.ptr 0 24, .int .i64 0, .int .i64 39], [.ptr 0 25, .int .i64 0, .int .i64 255], [.ptr 0 26, .int .i64 (-1099511627776), .int .i64 1099511627776], [.ptr 0 27, .int .i64 (-1099511627776), .int .i64 1099511627776], [.ptr 0 28, .int .i64 (-1099511627776), .int .i64 1099511627776]]] Z Z ?_
     exact Wp
   ·refine OblM.stC ?_ (OblM.stC ?_ (OblM.st0))
    ·refine Om Z (sO 9 sN) ?_
     refine vX (.fn (.func 145) [] [.ptr 3 0]) (OpV.makeFunc (first := []) (cap := [.tmp 9]) Z Z Z) ?_
     exact Wp
    ·refine Om Z (sO 9 sN) ?_
     refine vX (.fn (.func 145) [] [.ptr 3 0]) (OpV.makeFunc (first := []) (cap := [.tmp 9]) Z Z Z) ?_
     exact Wp
  refine vX (.agg [.osl 4 0 8 3, .fn (.func 145) [] [.ptr 3 0]]) (OpV.build (zs := [.nils, .nilf]) zeroValue171 (ZR.agg (ZL.cons ZR.nils (ZL.cons ZR.nilf ZL.nil))) pl_171) ?_
  refine vU (OpU.store Z Z Z sizeOf171 Z Z Z Z Z Z Z) ?_
  refine WO.atH (H := [_, _, .cells 171 [.osl 4 0 8 3, .fn (.func 145) [] [.ptr 3 0]], _, _]) Z ?_
  refine S Z (Nx (TC.ret (bloR (seqR ?_))))
  obtain rfl := Oi h
  refine ⟨[(4, .ptr 4 0), (5, .bool true)], [.cells 81 (Fact.c a1), .cells 3 [.int .i64 a2], .rowr 181 3 [[.ptr 0 21, .int .i64 0, .int .i64 39], [.ptr 0 22, .int .i64 0, .int .i64 255], [.ptr 0 23, .int .i64 (-1099511627776), .int .i64 1099511627776], [.ptr 0 24, .int .i64 0, .int .i64 39], [.ptr 0 25, .int .i64 0, .int .i64 255], [.ptr 0 26, .int .i64 (-1099511627776), .int .i64 1099511627776], [.ptr 0 27, .int .i64 (-1099511627776), .int .i64 1099511627776], [.ptr 0 28, .int .i64 (-1099511627776), .int .i64 1099511627776]], .cells 238 [.ptr 0 21], .cells 171 [.osl 2 0 8 3, .fn (.func 145) [] [.ptr 3 0]]], _, ?_, ResOK.many Z Z (ResL.cons (ResAt.cellB isAgg171 sizeOf171 Z Z Z) (ResL.cons ResAt.tmp ResL.nil)), Z, Z⟩
  exact Lr [0, 1, 4, 3, 2]
 refine Rg (S Z (S Z (Nx (Cn Z h (fun hc5 h => ?_) (fun hc5 h => ?_)))))
 ·refine Rg (S Z (S Z (Fp fa_81_8 Z ?_)))
  refine vH (OpH.allocZ (v := .nilp) zeroValue239 ZR.nilp) ?_
  refine aV (.ptr 3 0) [_, _, _, .cells 239 [.nilp]] Z Z ?_
  refine vU (OpU.store Z Z Z sizeOf239 Z Z Z Z Z Z Z) ?_
  refine WO.atH (H := [_, _, _, .cells 239 [.ptr 0 29]]) Z ?_
  refine Nx (TC.seq ?_)
  refine TC.draws 22 0 [182, 183, 184, 185, 186, 187, 188, 189, 190, 191, 192, 193, 194, 195, 196, 197, 198, 199, 200, 201, 202, 203] [false, false, false, false, false, false, false, false, false, false, false, false, false, false, false, false, false, false, false, false, true, false] [[], [], [], [], [], [], [], [], [], [], [], [], [], [], [], [], [], [], [], [], [], []] [[], [20]] [[(0, 0), (1, 1)], [(0, 0), (1, 1)], [(0, 0), (1, 1)], [(0, 0), (1, 1)], [(0, 0), (1, 1)], [(0, 0), (1, 1)], [(0, 0), (1, 1)], [(0, 0), (1, 1)], [(0, 0), (1, 1)], [(0, 0), (1, 1)], [(0, 0), (1, 1)], [(0, 0), (1, 1)], [(0, 0), (1, 1)], [(0, 0), (1, 1)], [(0, 0), (1, 1)], [(0, 0), (1, 1)], [(0, 0), (1, 1)], [(0, 0), (1, 1)], [(0, 0), (1, 1)], [(0, 0), (1, 1)], [(0, 1)], [(0, 0), (1, 1)]] [.ptr 0 29, .ptr 0 29, .ptr 0 29, .agg [.int .i64 1, .int .i64 9999], .agg [.ptr 0 29, .int .i64 1, .int .i64 9999], .ptr 0 29, .ptr 0 29, .ptr 0 30, .agg [.int .i64 0, .int .i64 255], .agg [.ptr 0 30, .int .i64 0, .int .i64 255], .ptr 0 29, .ptr 0 29, .ptr 0 31, .agg [.int .i64 (-1099511627776), .int .i64 1099511627776], .agg [.ptr 0 31, .int .i64 (-1099511627776), .int .i64 1099511627776], .ptr 0 29, .ptr 0 29, .ptr 0 32, .agg [.int .i64 (-1099511627776), .int .i64 1099511627776], .agg [.ptr 0 32, .int .i64 (-1099511627776), .int .i64 1099511627776], .osl 4 0 4 3, .fn (.func 146) [] [.ptr 3 0]] [[.cells 81 (Fact.c a1), .cells 3 [.int .i64 a2], .cells 171 [.nils, .nilf], .cells 239 [.ptr 0 29]], [.cells 81 (Fact.c a1), .cells 3 [.int .i64 a2], .cells 171 [.nils, .nilf], .cells 239 [.ptr 0 29], .rowr 181 3 [[.ptr 0 29, .int .i64 1, .int .i64 9999], [.ptr 0 30, .int .i64 0, .int .i64 255], [.ptr 0 31, .int .i64 (-1099511627776), .int .i64 1099511627776], [.ptr 0 32, .int .i64 (-1099511627776), .int .i64 1099511627776]]]] ([.cells 81 (Fact.c a1), .cells 3 [.int .i64 a2], .cells 171 [.nils, .nilf], .cells 239 [.ptr 0 29], .rowr 181 3 [[.ptr 0 29, .int .i64 1, .int .i64 9999], [.ptr 0 30, .int .i64 0, .int .i64 255], [.ptr 0 31, .int .i64 (-1099511627776), .int .i64 1099511627776], [.ptr 0 32, .int .i64 (-1099511627776), .int .i64 1099511627776]]]) draws Z Z Z Z Z Z Z ?_ Z ?_
  ·refine OblM.cons ?_ (OblM.cons ?_ (OblM.cons ?_ (OblM.cons ?_ (OblM.cons ?_ (OblM.cons ?_ (OblM.cons ?_ (OblM.cons ?_ (OblM.cons ?_ (OblM.cons ?_ (OblM.cons ?_ (OblM.cons ?_ (OblM.cons ?_ (OblM.cons ?_ (OblM.cons ?_ (OblM.cons ?_ (OblM.cons ?_ (OblM.cons ?_ (OblM.cons ?_ (OblM.cons ?_ (OblM.cons ?_ (OblM.cons ?_ (OblM.nil))))))))))))))))))))))
   ·refine OblM.stC ?_ (OblM.stC ?_ (OblM.st0))
    ·refine Om Z (sO 10 sN) ?_
     exact Ld isAgg239 Z Wp
    ·refine Om Z (sO 10 sN) ?_
     exact Ld isAgg239 Z Wp
   ·refine OblM.stC ?_ (OblM.stC ?_ (OblM.st0))
    ·refine Om Z (sD 0 sN) ?_
     exact S Z Wp
    ·refine Om Z (sD 0 sN) ?_
     exact S Z Wp
   ·refine OblM.stC ?_ (OblM.stC ?_ (OblM.st0))
    ·refine Om Z (sD 1 sN) ?_
     exact Fp fa_67_0 Z Wp
    ·refine Om Z (sD 1 sN) ?_
     exact Fp fa_67_0 Z Wp
   ·refine OblM.stC ?_ (OblM.stC ?_ (OblM.st0))
    ·refine Om Z sN ?_
     refine vX (.agg [.int .i64 1, .int .i64 9999]) (OpV.loadG (g := 0) isAgg179 sizeOf179 Z Z) ?_
     exact Wp
    ·refine Om Z sN ?_
     refine vX (.agg [.int .i64 1, .int .i64 9999]) (OpV.loadG (g := 0) isAgg179 sizeOf179 Z Z) ?_
     exact Wp
   ·refine OblM.stC ?_ (OblM.stC ?_ (OblM.st0))
    ·refine Om Z (sD 2 (sD 3 sN)) ?_
     refine vX (.agg [.ptr 0 29, .int .i64 1, .int .i64 9999]) (OpV.build (zs := [.nilp, .int .i64 0, .int .i64 0]) zeroValue181 (ZR.agg (ZL.cons ZR.nilp (ZL.cons ZR.int (ZL.cons ZR.int ZL.nil)))) pl_181) ?_
     exact Wp
    ·refine Om Z (sD 2 (sD 3 sN)) ?_
     refine vX (.agg [.ptr 0 29, .int .i64 1, .int .i64 9999]) (OpV.build (zs := [.nilp, .int .i64 0, .int .i64 0]) zeroValue181 (ZR.agg (ZL.cons ZR.nilp (ZL.cons ZR.int (ZL.cons ZR.int ZL.nil)))) pl_181) ?_
     exact Wp
   ·refine OblM.stC ?_ (OblM.stC ?_ (OblM.st0))
    ·refine Om Z (sO 10 sN) ?_
     exact Ld isAgg239 Z Wp
    ·refine Om Z (sO 10 sN) ?_
     exact Ld isAgg239 Z Wp
   ·refine OblM.stC ?_ (OblM.stC ?_ (OblM.st0))
    ·refine Om Z (sD 5 sN) ?_
     exact S Z Wp
    ·refine Om Z (sD 5 sN) ?_
     exact S Z Wp
   ·refine OblM.stC ?_ (OblM.stC ?_ (OblM.st0))
    ·refine Om Z (sD 6 sN) ?_
     exact Fp fa_67_1 Z Wp
    ·refine Om Z (sD 6 sN) ?_
     exact Fp fa_67_1 Z Wp
   ·refine OblM.stC ?_ (OblM.stC ?_ (OblM.st0))
    ·refine Om Z sN ?_
     refine vX (.agg [.int .i64 0, .int .i64 255]) (OpV.loadG (g := 6) isAgg179 sizeOf179 Z Z) ?_
     exact Wp
    ·refine Om Z sN ?_
     refine vX (.agg [.int .i64 0, .int .i64 255]) (OpV.loadG (g := 6) isAgg179 sizeOf179 Z Z) ?_
     exact Wp
   ·refine OblM.stC ?_ (OblM.stC ?_ (OblM.st0))
    ·refine Om Z (sD 7 (sD 8 sN)) ?_
     refine vX (.agg [.ptr 0 30, .int .i64 0, .int .i64 255]) (OpV.build (zs := [.nilp, .int .i64 0, .int .i64 0]) zeroValue181 (ZR.agg (ZL.cons ZR.nilp (ZL.cons ZR.int (ZL.cons ZR.int ZL.nil)))) pl_181) ?_
     exact Wp
    ·refine Om Z (sD 7 (sD 8 sN)) ?_
     refine vX (.agg [.ptr 0 30, .int .i64 0, .int .i64 255]) (OpV.build (zs := [.nilp, .int .i64 0, .int .i64 0]) zeroValue181 (ZR.agg (ZL.cons ZR.nilp (ZL.cons ZR.int (ZL.cons ZR.int ZL.nil)))) pl_181) ?_
     exact Wp
   ·refine OblM.stC ?_ (OblM.stC ?_ (OblM.st0))
    ·refine Om Z (sO 10 sN) ?_
     exact Ld isAgg239 Z Wp
    ·refine Om Z (sO 10 sN) ?_
     exact Ld isAgg239 Z Wp
   ·refine OblM.stC ?_ (OblM.stC ?_ (OblM.st0))
    ·refine Om Z (sD 10 sN) ?_
     exact S Z Wp
    ·refine Om Z (sD 10 sN) ?_
     exact S Z Wp
   ·refine OblM.stC ?_ (OblM.stC ?_ (OblM.st0))
    ·refine Om Z (sD 11 sN) ?_
     exact Fp fa_67_2 Z Wp
    ·refine Om Z (sD 11 sN) ?_
     exact Fp fa_67_2 Z Wp
   ·refine OblM.stC ?_ (OblM.stC ?_ (OblM.st0))
    ·refine Om Z sN ?_
     refine vX (.agg [.int .i64 (-1099511627776), .int .i64 1099511627776]) (OpV.loadG (g := 1) isAgg179 sizeOf179 Z Z) ?_
     exact Wp
    ·refine Om Z sN ?_
     refine vX (.agg [.int .i64 (-1099511627776), .int .i64 1099511627776]) (OpV.loadG (g := 1) isAgg179 sizeOf179 Z Z) ?_
     exact Wp
   ·refine OblM.stC ?_ (OblM.stC ?_ (OblM.st0))
    ·refine Om Z (sD 12 (sD 13 sN)) ?_
     refine vX (.agg [.ptr 0 31, .int .i64 (-1099511627776), .int .i64 1099511627776]) (OpV.build (zs := [.nilp, .int .i64 0, .int .i64 0]) zeroValue181 (ZR.agg (ZL.cons ZR.nilp (ZL.cons ZR.int (ZL.cons ZR.int ZL.nil)))) pl_181) ?_
     exact Wp
    ·refine Om Z (sD 12 (sD 13 sN)) ?_
     refine vX (.agg [.ptr 0 31, .int .i64 (-1099511627776), .int .i64 1099511627776]) (OpV.build (zs := [.nilp, .int .i64 0, .int .i64 0]) zeroValue181 (ZR.agg (ZL.cons ZR.nilp (ZL.cons ZR.int (ZL.cons ZR.int ZL.nil)))) pl_181) ?_
     exact Wp
   ·refine OblM.stC ?_ (OblM.stC ?_ (OblM.st0))
    ·refine Om Z (sO 10 sN) ?_
     exact Ld isAgg239 Z Wp
    ·refine Om Z (sO 10 sN) ?_
     exact Ld isAgg239 Z Wp
   ·refine OblM.stC ?_ (OblM.stC ?_ (OblM.st0))
    ·refine Om Z (sD 15 sN) ?_
     exact S Z Wp
    ·refine Om Z (sD 15 sN) ?_
     exact S Z Wp
   ·refine OblM.stC ?_ (OblM.stC ?_ (OblM.st0))
    ·refine Om Z (sD 16 sN) ?_
     exact Fp fa_67_3 Z Wp
    ·refine Om Z (sD 16 sN) ?_
     exact Fp fa_67_3 Z Wp
   ·refine OblM.stC ?_ (OblM.stC ?_ (OblM.st0))
    ·refine Om Z sN ?_
     refine vX (.agg [.int .i64 (-1099511627776), .int .i64 1099511627776]) (OpV.loadG (g := 1) isAgg179 sizeOf179 Z Z) ?_
     exact Wp
    ·refine Om Z sN ?_
     refine vX (.agg [.int .i64 (-1099511627776), .int .i64 1099511627776]) (OpV.loadG (g := 1) isAgg179 sizeOf179 Z Z) ?_
     exact Wp
   ·refine OblM.stC ?_ (OblM.stC ?_ (OblM.st0))
    ·refine Om Z (sD 17 (sD 18 sN)) ?_
     refine vX (.agg [.ptr 0 32, .int .i64 (-1099511627776), .int .i64 1099511627776]) (OpV.build (zs := [.nilp, .int .i64 0, .int .i64 0]) zeroValue181 (ZR.agg (ZL.cons ZR.nilp (ZL.cons ZR.int (ZL.cons ZR.int ZL.nil)))) pl_181) ?_
     exact Wp
    ·refine Om Z (sD 17 (sD 18 sN)) ?_
     refine vX (.agg [.ptr 0 32, .int .i64 (-1099511627776), .int .i64 1099511627776]) (OpV.build (zs := [.nilp, .int .i64 0, .int .i64 0]) zeroValue181 (ZR.agg (ZL.cons ZR.nilp (ZL.cons ZR.int (ZL.cons ZR.int ZL.nil)))) pl_181) ?_
     exact Wp
   ·refine OblM.stC ?_ (OblM.st0)
    ·refine Om1 Z (sD 4 (sD 9 (sD 14 (sD 19 sN)))) ?_
     refine vH (OpH.litr (xs := [.tmp 186, .tmp 191, .tmp 196, .tmp 201]) el_169 Z Z Z Z Z ⟨Z, Z, Z, Z, trivial⟩ Z) ?_
     refine aV (.osl 4 0 4 3) [_, _, _, _, .rowr 181 3 [[.ptr 0 29, .int .i64 1, .int .i64 9999], [.ptr 0 30, .int .i64 0, .int .i64 255], [.ptr 0 31, .int .i64 (-1099511627776), .int .i64 1099511627776], [.ptr 0 32, .int .i64 (-1099511627776), .int .i64 1099511627776]]] Z Z ?_
     exact Wp
   ·refine OblM.stC ?_ (OblM.stC ?_ (OblM.st0))
    ·refine Om Z (sO 10 sN) ?_
     refine vX (.fn (.func 146) [] [.ptr 3 0]) (OpV.makeFunc (first := []) (cap := [.tmp 10]) Z Z Z) ?_
     exact Wp
    ·refine Om Z (sO 10 sN) ?_
     refine vX (.fn (.func 146) [] [.ptr 3 0]) (OpV.makeFunc (first := []) (cap := [.tmp 10]) Z Z Z) ?_
     exact Wp
  refine vX (.agg [.osl 4 0 4 3, .fn (.func 146) [] [.ptr 3 0]]) (OpV.build (zs := [.nils, .nilf]) zeroValue171 (ZR.agg (ZL.cons ZR.nils (ZL.cons ZR.nilf ZL.nil))) pl_171) ?_
  refine vU (OpU.store Z Z Z sizeOf171 Z Z Z Z Z Z Z) ?_
  refine WO.atH (H := [_, _, .cells 171 [.osl 4 0 4 3, .fn (.func 146) [] [.ptr 3 0]], _, _]) Z ?_
  refine S Z (Nx (TC.ret (bloR (seqR ?_))))
  obtain rfl := Oi h
  refine ⟨[(4, .ptr 4 0), (5, .bool true)], [.cells 81 (Fact.c a1), .cells 3 [.int .i64 a2], .rowr 181 3 [[.ptr 0 29, .int .i64 1, .int .i64 9999], [.ptr 0 30, .int .i64 0, .int .i64 255], [.ptr 0 31, .int .i64 (-1099511627776), .int .i64 1099511627776], [.ptr 0 32, .int .i64 (-1099511627776), .int .i64 1099511627776]], .cells 239 [.ptr 0 29], .cells 171 [.osl 2 0 4 3, .fn (.func 146) [] [.ptr 3 0]]], _, ?_, ResOK.many Z Z (ResL.cons (ResAt.cellB isAgg171 sizeOf171 Z Z Z) (ResL.cons ResAt.tmp ResL.nil)), Z, Z⟩
  exact Lr [0, 1, 4, 3, 2]
 refine Rg (S Z (S Z (Nx (Cn Z h (fun hc6 h => ?_) (fun hc6 h => ?_)))))
 ·refine Rg (S Z (S Z (Fp fa_81_9 Z ?_)))
  refine vH (OpH.allocZ (v := .nilp) zeroValue240 ZR.nilp) ?_
  refine aV (.ptr 3 0) [_, _, _, .cells 240 [.nilp]] Z Z ?_
  refine vU (OpU.store Z Z Z sizeOf240 Z Z Z Z Z Z Z) ?_
  refine WO.atH (H := [_, _, _, .cells 240 [.ptr 0 33]]) Z ?_
  refine Nx (TC.seq ?_)
  refine TC.draws 22 0 [210, 211, 212, 213, 214, 215, 216, 217, 218, 219, 220, 221, 222, 223, 224, 225, 226, 227, 228, 229, 230, 231] [false, false, false, false, false, false, false, false, false, false, false, false, false, false, false, false, false, false, false, false, true, false] [[], [], [], [], [], [], [], [], [], [], [], [], [], [], [], [], [], [], [], [], [], []] [[], [20]] [[(0, 0), (1, 1)], [(0, 0), (1, 1)], [(0, 0), (1, 1)], [(0, 0), (1, 1)], [(0, 0), (1, 1)], [(0, 0), (1, 1)], [(0, 0), (1, 1)], [(0, 0), (1, 1)], [(0, 0), (1, 1)], [(0, 0), (1, 1)], [(0, 0), (1, 1)], [(0, 0), (1, 1)], [(0, 0), (1, 1)], [(0, 0), (1, 1)], [(0, 0), (1, 1)], [(0, 0), (1, 1)], [(0, 0), (1, 1)], [(0, 0), (1, 1)], [(0, 0), (1, 1)], [(0, 0), (1, 1)], [(0, 1)], [(0, 0), (1, 1)]] [.ptr 0 33, .ptr 0 33, .ptr 0 33, .agg [.int .i64 0, .int .i64 39], .agg [.ptr 0 33, .int .i64 0, .int .i64 39], .ptr 0 33, .ptr 0 33, .ptr 0 34, .agg [.int .i64 0, .int .i64 255], .agg [.ptr 0 34, .int .i64 0, .int .i64 255], .ptr 0 33, .ptr 0 33, .ptr 0 35, .agg [.int .i64 (-1099511627776), .int .i64 1099511627776], .agg [.ptr 0 35, .int .i64 (-1099511627776), .int .i64 1099511627776], .ptr 0 33, .ptr 0 33, .ptr 0 36, .agg [.int .i64 (-1099511627776), .int .i64 1099511627776], .agg [.ptr 0 36, .int .i64 (-1099511627776), .int .i64 1099511627776], .osl 4 0 4 3, .fn (.func 147) [] [.ptr 3 0]] [[.cells 81 (Fact.c a1), .cells 3 [.int .i64 a2], .cells 171 [.nils, .nilf], .cells 240 [.ptr 0 33]], [.cells 81 (Fact.c a1), .cells 3 [.int .i64 a2], .cells 171 [.nils, .nilf], .cells 240 [.ptr 0 33], .rowr 181 3 [[.ptr 0 33, .int .i64 0, .int .i64 39], [.ptr 0 34, .int .i64 0, .int .i64 255], [.ptr 0 35, .int .i64 (-1099511627776), .int .i64 1099511627776], [.ptr 0 36, .int .i64 (-1099511627776), .int .i64 1099511627776]]]] ([.cells 81 (Fact.c a1), .cells 3 [.int .i64 a2], .cells 171 [.nils, .nilf], .cells 240 [.ptr 0 33], .rowr 181 3 [[.ptr 0 33, .int .i64 0, .int .i64 39], [.ptr 0 34, .int .i64 0, .int .i64 255], [.ptr 0 35, .int .i64 (-1099511627776), .int .i64 1099511627776], [.ptr 0 36, .int .i64 (-1099511627776), .int .i64 1099511627776]]]) draws Z Z Z Z Z Z Z ?_ Z ?_
  ·refine OblM.cons ?_ (OblM.cons ?_ (OblM.cons ?_ (OblM.cons ?_ (OblM.cons ?_ (OblM.cons ?_ (OblM.cons ?_ (OblM.cons ?_ (OblM.cons ?_ (OblM.cons ?_ (OblM.cons ?_ (OblM.cons ?_ (OblM.cons ?_ (OblM.cons ?_ (OblM.cons ?_ (OblM.cons ?_ (OblM.cons ?_ (OblM.cons ?_ (OblM.cons ?_ (OblM.cons ?_ (OblM.cons ?_ (OblM.cons ?_ (OblM.nil))))))))))))))))))))))
   ·refine OblM.stC ?_ (OblM.stC ?_ (OblM.st0))
    ·refine Om Z (sO 11 sN) ?_
     exact Ld isAgg240 Z Wp
    ·refine Om Z (sO 11 sN) ?_
     exact Ld isAgg240 Z Wp
   ·refine OblM.stC ?_ (OblM.stC ?_ (OblM.st0))
    ·refine Om Z (sD 0 sN) ?_
     exact S Z Wp
    ·refine Om Z (sD 0 sN) ?_
     exact S Z Wp
   ·refine OblM.stC ?_ (OblM.stC ?_ (OblM.st0))
    ·refine Om Z (sD 1 sN) ?_
     exact Fp fa_69_0 Z Wp
    ·refine Om Z (sD 1 sN) ?_
     exact Fp fa_69_0 Z Wp
   ·refine OblM.stC ?_ (OblM.stC ?_ (OblM.st0))
    ·refine Om Z sN ?_
     refine vX (.agg [.int .i64 0, .int .i64 39]) (OpV.loadG (g := 3) isAgg179 sizeOf179 Z Z) ?_
     exact Wp
    ·refine Om Z sN ?_
     refine vX (.agg [.int .i64 0, .int .i64 39]) (OpV.loadG (g := 3) isAgg179 sizeOf179 Z Z) ?_
     exact Wp
   ·refine OblM.stC ?_ (OblM.stC ?_ (OblM.st0))
    ·refine Om Z (sD 2 (sD 3 sN)) ?_
     refine vX (.agg [.ptr 0 33, .int .i64 0, .int .i64 39]) (OpV.build (zs := [.nilp, .int .i64 0, .int .i64 0]) zeroValue181 (ZR.agg (ZL.cons ZR.nilp (ZL.cons ZR.int (ZL.cons ZR.int ZL.nil)))) pl_181) ?_
     exact Wp
    ·refine Om Z (sD 2 (sD 3 sN)) ?_
     refine vX (.agg [.ptr 0 33, .int .i64 0, .int .i64 39]) (OpV.build (zs := [.nilp, .int .i64 0, .int .i64 0]) zeroValue181 (ZR.agg (ZL.cons ZR.nilp (ZL.cons ZR.int (ZL.cons ZR.int ZL.nil)))) pl_181) ?_
     exact Wp
   ·refine OblM.stC ?_ (OblM.stC ?_ (OblM.st0))
    ·refine Om Z (sO 11 sN) ?_
     exact Ld isAgg240 Z Wp
    ·refine Om Z (sO 11 sN) ?_
     exact Ld isAgg240 Z Wp
   ·refine OblM.stC ?_ (OblM.stC ?_ (OblM.st0))
    ·refine Om Z (sD 5 sN) ?_
     exact S Z Wp
    ·refine Om Z (sD 5 sN) ?_
     exact S Z Wp
   ·refine OblM.stC ?_ (OblM.stC ?_ (OblM.st0))
    ·refine Om Z (sD 6 sN) ?_
     exact Fp fa_69_1 Z Wp
    ·refine Om Z (sD 6 sN) ?_
     exact Fp fa_69_1 Z Wp
   ·refine OblM.stC ?_ (OblM.stC ?_ (OblM.st0))
    ·refine Om Z sN ?_
     refine vX (.agg [.int .i64 0, .int .i64 255]) (OpV.loadG (g := 4) isAgg179 sizeOf179 Z Z) ?_
     exact Wp
    ·refine Om Z sN ?_
     refine vX (.agg [.int .i64 0, .int .i64 255]) (OpV.loadG (g := 4) isAgg179 sizeOf179 Z Z) ?_
     exact Wp
   ·refine OblM.stC ?_ (OblM.stC ?_ (OblM.st0))
    ·refine Om Z (sD 7 (sD 8 sN)) ?_
     refine vX (.agg [.ptr 0 34, .int .i64 0, .int .i64 255]) (OpV.build (zs := [.nilp, .int .i64 0, .int .i64 0]) zeroValue181 (ZR.agg (ZL.cons ZR.nilp (ZL.cons ZR.int (ZL.cons ZR.int ZL.nil)))) pl_181) ?_
     exact Wp
    ·refine Om Z (sD 7 (sD 8 sN)) ?_
     refine vX (.agg [.ptr 0 34, .int .i64 0, .int .i64 255]) (OpV.build (zs := [.nilp, .int .i64 0, .int .i64 0]) zeroValue181 (ZR.agg (ZL.cons ZR.nilp (ZL.cons ZR.int (ZL.cons ZR.int ZL.nil)))) pl_181) ?_
     exact Wp
   ·refine OblM.stC ?_ (OblM.stC ?_ (OblM.st0))
    ·refine Om Z (sO 11 sN) ?_
     exact Ld isAgg240 Z Wp
    ·refine Om Z (sO 11 sN) ?_
     exact Ld isAgg240 Z Wp
   ·refine OblM.stC ?_ (OblM.stC ?_ (OblM.st0))
    ·refine Om Z (sD 10 sN) ?_
     exact S Z Wp
    ·refine Om Z (sD 10 sN) ?_
     exact S Z Wp
   ·refine OblM.stC ?_ (OblM.stC ?_ (OblM.st0))
    ·refine Om Z (sD 11 sN) ?_
     exact Fp fa_69_2 Z Wp
    ·refine Om Z (sD 11 sN) ?_
     exact Fp fa_69_2 Z Wp
   ·refine OblM.stC ?_ (OblM.stC ?_ (OblM.st0))
    ·refine Om Z sN ?_
     refine vX (.agg [.int .i64 (-1099511627776), .int .i64 1099511627776]) (OpV.loadG (g := 1) isAgg179 sizeOf179 Z Z) ?_
     exact Wp
    ·refine Om Z sN ?_
     refine vX (.agg [.int .i64 (-1099511627776), .int .i64 1099511627776]) (OpV.loadG (g := 1) isAgg179 sizeOf179 Z Z) ?_
     exact Wp
   ·refine OblM.stC ?_ (OblM.stC ?_ (OblM.st0))
    ·refine Om Z (sD 12 (sD 13 sN)) ?_
     refine vX (.agg [.ptr 0 35, .int .i64 (-1099511627776), .int .i64 1099511627776]) (OpV.build (zs := [.nilp, .int .i64 0, .int .i64 0]) zeroValue181 (ZR.agg (ZL.cons ZR.nilp (ZL.cons ZR.int (ZL.cons ZR.int ZL.nil)))) pl_181) ?_
     exact Wp
    ·refine Om Z (sD 12 (sD 13 sN)) ?_
     refine vX (.agg [.ptr 0 35, .int .i64 (-1099511627776), .int .i64 1099511627776]) (OpV.build (zs := [.nilp, .int .i64 0, .int .i64 0]) zeroValue181 (ZR.agg (ZL.cons ZR.nilp (ZL.cons ZR.int (ZL.cons ZR.int ZL.nil)))) pl_181) ?_
     exact Wp
   ·refine OblM.stC ?_ (OblM.stC ?_ (OblM.st0))
    ·refine Om Z (sO 11 sN) ?_
     exact Ld isAgg240 Z Wp
    ·refine Om Z (sO 11 sN) ?_
     exact Ld isAgg240 Z Wp
   ·refine OblM.stC ?_ (OblM.stC ?_ (OblM.st0))
    ·refine Om Z (sD 15 sN) ?_
     exact S Z Wp
    ·refine Om Z (sD 15 sN) ?_
     exact S Z Wp
   ·refine OblM.stC ?_ (OblM.stC ?_ (OblM.st0))
    ·refine Om Z (sD 16 sN) ?_
     exact Fp fa_69_3 Z Wp
    ·refine Om Z (sD 16 sN) ?_
     exact Fp fa_69_3 Z Wp
   ·refine OblM.stC ?_ (OblM.stC ?_ (OblM.st0))
    ·refine Om Z sN ?_
     refine vX (.agg [.int .i64 (-1099511627776), .int .i64 1099511627776]) (OpV.loadG (g := 1) isAgg179 sizeOf179 Z Z) ?_
     exact Wp
    ·refine Om Z sN ?_
     refine vX (.agg [.int .i64 (-1099511627776), .int .i64 1099511627776]) (OpV.loadG (g := 1) isAgg179 sizeOf179 Z Z) ?_
     exact Wp
   ·refine OblM.stC ?_ (OblM.stC ?_ (OblM.st0))
    ·refine Om Z (sD 17 (sD 18 sN)) ?_
     refine vX (.agg [.ptr 0 36, .int .i64 (-1099511627776), .int .i64 1099511627776]) (OpV.build (zs := [.nilp, .int .i64 0, .int .i64 0]) zeroValue181 (ZR.agg (ZL.cons ZR.nilp (ZL.cons ZR.int (ZL.cons ZR.int ZL.nil)))) pl_181) ?_
     exact Wp
    ·refine Om Z (sD 17 (sD 18 sN)) ?_
     refine vX (.agg [.ptr 0 36, .int .i64 (-1099511627776), .int .i64 1099511627776]) (OpV.build (zs := [.nilp, .int .i64 0, .int .i64 0]) zeroValue181 (ZR.agg (ZL.cons ZR.nilp (ZL.cons ZR.int (ZL.cons ZR.int ZL.nil)))) pl_181) ?_
     exact Wp
   ·refine OblM.stC ?_ (OblM.st0)
    ·refine Om1 Z (sD 4 (sD 9 (sD 14 (sD 19 sN)))) ?_
     refine vH (OpH.litr (xs := [.tmp 214, .tmp 219, .tmp 224, .tmp 229]) el_169 Z Z Z Z Z ⟨Z, Z, Z, Z, trivial⟩ Z) ?_
     refine aV (.osl 4 0 4 3) [_, _, _, _, .rowr 181 3 [[.ptr 0 33, .int .i64 0, .int .i64 39], [.ptr 0 34, .int .i64 0, .int .i64 255], [.ptr 0 35, .int .i64 (-1099511627776), .int .i64 1099511627776], [.ptr 0 36, .int .i64 (-1099511627776), .int .i64 1099511627776]]] Z Z ?_
     exact Wp
   ·refine OblM.stC ?_ (OblM.stC ?_ (OblM.st0))
    ·refine Om Z (sO 11 sN) ?_
     refine vX (.fn (.func 147) [] [.ptr 3 0]) (OpV.makeFunc (first := []) (cap := [.tmp 11]) Z Z Z) ?_
     exact Wp
    ·refine Om Z (sO 11 sN) ?_
     refine vX (.fn (.func 147) [] [.ptr 3 0]) (OpV.makeFunc (first := []) (cap := [.tmp 11]) Z Z Z) ?_
     exact Wp
  refine vX (.agg [.osl 4 0 4 3, .fn (.func 147) [] [.ptr 3 0]]) (OpV.build (zs := [.nils, .nilf]) zeroValue171 (ZR.agg (ZL.cons ZR.nils (ZL.cons ZR.nilf ZL.nil))) pl_171) ?_
  refine vU (OpU.store Z Z Z sizeOf171 Z Z Z Z Z Z Z) ?_
  refine WO.atH (H := [_, _, .cells 171 [.osl 4 0 4 3, .fn (.func 147) [] [.ptr 3 0]], _, _]) Z ?_
  refine S Z (Nx (TC.ret (bloR (seqR ?_))))
  obtain rfl := Oi h
  refine ⟨[(4, .ptr 4 0), (5, .bool true)], [.cells 81 (Fact.c a1), .cells 3 [.int .i64 a2], .rowr 181 3 [[.ptr 0 33, .int .i64 0, .int .i64 39], [.ptr 0 34, .int .i64 0, .int .i64 255], [.ptr 0 35, .int .i64 (-1099511627776), .int .i64 1099511627776], [.ptr 0 36, .int .i64 (-1099511627776), .int .i64 1099511627776]], .cells 240 [.ptr 0 33], .cells 171 [.osl 2 0 4 3, .fn (.func 147) [] [.ptr 3 0]]], _, ?_, ResOK.many Z Z (ResL.cons (ResAt.cellB isAgg171 sizeOf171 Z Z Z) (ResL.cons ResAt.tmp ResL.nil)), Z, Z⟩
  exact Lr [0, 1, 4, 3, 2]
 refine Rg (S Z (S Z (Nx (Cn Z h (fun hc7 h => ?_) (fun hc7 h => ?_)))))
 ·refine Rg (S Z (S Z (Fp fa_81_10 Z ?_)))
  refine vH (OpH.allocZ (v := .nilp) zeroValue241 ZR.nilp) ?_
  refine aV (.ptr 3 0) [_, _, _, .cells 241 [.nilp]] Z Z ?_
  refine vU (OpU.store Z Z Z sizeOf241 Z Z Z Z Z Z Z) ?_
  refine WO.atH (H := [_, _, _, .cells 241 [.ptr 0 37]]) Z ?_
  refine Nx (TC.seq ?_)
  refine TC.draws 12 0 [238, 239, 240, 241, 242, 243, 244, 245, 246, 247, 248, 249] [false, false, false, false, false, false, false, false, false, false, true, false] [[], [], [], [], [], [], [], [], [], [], [], []] [[], [10]] [[(0, 0), (1, 1)], [(0, 0), (1, 1)], [(0, 0), (1, 1)], [(0, 0), (1, 1)], [(0, 0), (1, 1)], [(0, 0), (1, 1)], [(0, 0), (1, 1)], [(0, 0), (1, 1)], [(0, 0), (1, 1)], [(0, 0), (1, 1)], [(0, 1)], [(0, 0), (1, 1)]] [.ptr 0 37, .ptr 0 37, .ptr 0 37, .agg [.int .i64 1, .int .i64 9999], .agg [.ptr 0 37, .int .i64 1, .int .i64 9999], .ptr 0 37, .ptr 0 37, .ptr 0 38, .agg [.int .i64 1, .int .i64 9999], .agg [.ptr 0 38, .int .i64 1, .int .i64 9999], .osl 4 0 2 3, .fn (.func 148) [] [.ptr 3 0]] [[.cells 81 (Fact.c a1), .cells 3 [.int .i64 a2], .cells 171 [.nils, .nilf], .cells 241 [.ptr 0 37]], [.cells 81 (Fact.c a1), .cells 3 [.int .i64 a2], .cells 171 [.nils, .nilf], .cells 241 [.ptr 0 37], .rowr 181 3 [[.ptr 0 37, .int .i64 1, .int .i64 9999], [.ptr 0 38, .int .i64 1, .int .i64 9999]]]] ([.cells 81 (Fact.c a1), .cells 3 [.int .i64 a2], .cells 171 [.nils, .nilf], .cells 241 [.ptr 0 37], .rowr 181 3 [[.ptr 0 37, .int .i64 1, .int .i64 9999], [.ptr 0 38, .int .i64 1, .int .i64 9999]]]) draws Z Z Z Z Z Z Z ?_ Z ?_
  ·refine OblM.cons ?_ (OblM.cons ?_ (OblM.cons ?_ (OblM.cons ?_ (OblM.cons ?_ (OblM.cons ?_ (OblM.cons ?_ (OblM.cons ?_ (OblM.cons ?_ (OblM.cons ?_ (OblM.cons ?_ (OblM.cons ?_ (OblM.nil))))))))))))
   ·refine OblM.stC ?_ (OblM.stC ?_ (OblM.st0))
    ·refine Om Z (sO 12 sN) ?_
     exact Ld isAgg241 Z Wp
    ·refine Om Z (sO 12 sN) ?_
     exact Ld isAgg241 Z Wp
   ·refine OblM.stC ?_ (OblM.stC ?_ (OblM.st0))
    ·refine Om Z (sD 0 sN) ?_
     exact S Z Wp
    ·refine Om Z (sD 0 sN) ?_
     exact S Z Wp
   ·refine OblM.stC ?_ (OblM.stC ?_ (OblM.st0))
    ·refine Om Z (sD 1 sN) ?_
     exact Fp fa_59_0 Z Wp
    ·refine Om Z (sD 1 sN) ?_
     exact Fp fa_59_0 Z Wp
   ·refine OblM.stC ?_ (OblM.stC ?_ (OblM.st0))
    ·refine Om Z sN ?_
     refine vX (.agg [.int .i64 1, .int .i64 9999]) (OpV.loadG (g := 0) isAgg179 sizeOf179 Z Z) ?_
     exact Wp
    ·refine Om Z sN ?_
     refine vX (.agg [.int .i64 1, .int .i64 9999]) (OpV.loadG (g := 0) isAgg179 sizeOf179 Z Z) ?_
     exact Wp
   ·refine OblM.stC ?_ (OblM.stC ?_ (OblM.st0))
    ·refine Om Z (sD 2 (sD 3 sN)) ?_
     refine vX (.agg [.ptr 0 37, .int .i64 1, .int .i64 9999]) (OpV.build (zs := [.nilp, .int .i64 0, .int .i64 0]) zeroValue181 (ZR.agg (ZL.cons ZR.nilp (ZL.cons ZR.int (ZL.cons ZR.int ZL.nil)))) pl_181) ?_
     exact Wp
    ·refine Om Z (sD 2 (sD 3 sN)) ?_
     refine vX (.agg [.ptr 0 37, .int .i64 1, .int .i64 9999]) (OpV.build (zs := [.nilp, .int .i64 0, .int .i64 0]) zeroValue181 (ZR.agg (ZL.cons ZR.nilp (ZL.cons ZR.int (ZL.cons ZR.int ZL.nil)))) pl_181) ?_
     exact Wp
   ·refine OblM.stC ?_ (OblM.stC ?_ (OblM.st0))
    ·refine Om Z (sO 12 sN) ?_
     exact Ld isAgg241 Z Wp
    ·refine Om Z (sO 12 sN) ?_
     exact Ld isAgg241 Z Wp
   ·refine OblM.stC ?_ (OblM.stC ?_ (OblM.st0))
    ·refine Om Z (sD 5 sN) ?_
     exact S Z Wp
    ·refine Om Z (sD 5 sN) ?_
     exact S Z Wp
   ·refine OblM.stC ?_ (OblM.stC ?_ (OblM.st0))
    ·refine Om Z (sD 6 sN) ?_
     exact Fp fa_59_1 Z Wp
    ·refine Om Z (sD 6 sN) ?_
     exact Fp fa_59_1 Z Wp
   ·refine OblM.stC ?_ (OblM.stC ?_ (OblM.st0))
    ·refine Om Z sN ?_
     refine vX (.agg [.int .i64 1, .int .i64 9999]) (OpV.loadG (g := 0) isAgg179 sizeOf179 Z Z) ?_
     exact Wp
    ·refine Om Z sN ?_
     refine vX (.agg [.int .i64 1, .int .i64 9999]) (OpV.loadG (g := 0) isAgg179 sizeOf179 Z Z) ?_
     exact Wp
   ·refine OblM.stC ?_ (OblM.stC ?_ (OblM.st0))
    ·refine Om Z (sD 7 (sD 8 sN)) ?_
     refine vX (.agg [.ptr 0 38, .int .i64 1, .int .i64 9999]) (OpV.build (zs := [.nilp, .int .i64 0, .int .i64 0]) zeroValue181 (ZR.agg (ZL.cons ZR.nilp (ZL.cons ZR.int (ZL.cons ZR.int ZL.nil)))) pl_181) ?_
     exact Wp
    ·refine Om Z (sD 7 (sD 8 sN)) ?_
     refine vX (.agg [.ptr 0 38, .int .i64 1, .int .i64 9999]) (OpV.build (zs := [.nilp, .int .i64 0, .int .i64 0]) zeroValue181 (ZR.agg (ZL.cons ZR.nilp (ZL.cons ZR.int (ZL.cons ZR.int ZL.nil)))) pl_181) ?_
     exact Wp
   ·refine OblM.stC ?_ (OblM.st0)
    ·refine Om1 Z (sD 4 (sD 9 sN)) ?_
     refine vH (OpH.litr (xs := [.tmp 242, .tmp 247]) el_169 Z Z Z Z Z ⟨Z, Z, trivial⟩ Z) ?_
     refine aV (.osl 4 0 2 3) [_, _, _, _, .rowr 181 3 [[.ptr 0 37, .int .i64 1, .int .i64 9999], [.ptr 0 38, .int .i64 1, .int .i64 9999]]] Z Z ?_
     exact Wp
   ·refine OblM.stC ?_ (OblM.stC ?_ (OblM.st0))
    ·refine Om Z (sO 12 sN) ?_
     refine vX (.fn (.func 148) [] [.ptr 3 0]) (OpV.makeFunc (first := []) (cap := [.tmp 12]) Z Z Z) ?_
     exact Wp
    ·refine Om Z (sO 12 sN) ?_
     refine vX (.fn (.func 148) [] [.ptr 3 0]) (OpV.makeFunc (first := []) (cap := [.tmp 12]) Z Z Z) ?_
     exact Wp
  refine vX (.agg [.osl 4 0 2 3, .fn (.func 148) [] [.ptr 3 0]]) (OpV.build (zs := [.nils, .nilf]) zeroValue171 (ZR.agg (ZL.cons ZR.nils (ZL.cons ZR.nilf ZL.nil))) pl_171) ?_
  refine vU (OpU.store Z Z Z sizeOf171 Z Z Z Z Z Z Z) ?_
  refine WO.atH (H := [_, _, .cells 171 [.osl 4 0 2 3, .fn (.func 148) [] [.ptr 3 0]], _, _]) Z ?_
  refine S Z (Nx (TC.ret (bloR (seqR ?_))))
  obtain rfl := Oi h
  refine ⟨[(4, .ptr 4 0), (5, .bool true)], [.cells 81 (Fact.c a1), .cells 3 [.int .i64 a2], .rowr 181 3 [[.ptr 0 37, .int .i64 1, .int .i64 9999], [.ptr 0 38, .int .i64 1, .int .i64 9999]], .cells 241 [.ptr 0 37], .cells 171 [.osl 2 0 2 3, .fn (.func 148) [] [.ptr 3 0]]], _, ?_, ResOK.many Z Z (ResL.cons (ResAt.cellB isAgg171 sizeOf171 Z Z Z) (ResL.cons ResAt.tmp ResL.nil)), Z, Z⟩
  exact Lr [0, 1, 4, 3, 2]
 refine Rg (S Z (S Z (Nx (Cn Z h (fun hc8 h => ?_) (fun hc8 h => ?_)))))
 ·refine Rg (S Z (S Z (Fp fa_81_11 Z (S Z (Nx (TC.seq ?_))))))
  refine TC.draw0 20 [256, 257, 258, 259, 260, 261, 262, 263, 264, 265, 266, 267, 268, 269, 270, 271, 272, 273, 274, 275] [.ptr 0 39, .ptr 0 39, .ptr 0 39, .agg [.int .i64 1, .int .i64 1048576], .agg [.ptr 0 39, .int .i64 1, .int .i64 1048576], .ptr 0 39, .ptr 0 39, .ptr 0 40, .agg [.int .i64 1, .int .i64 9999], .agg [.ptr 0 40, .int .i64 1, .int .i64 9999], .ptr 0 39, .ptr 0 39, .ptr 0 41, .agg [.int .i64 0, .int .i64 31], .agg [.ptr 0 41, .int .i64 0, .int .i64 31], .ptr 0 39, .ptr 0 39, .ptr 0 42, .agg [.int .i64 0, .int .i64 255], .agg [.ptr 0 42, .int .i64 0, .int .i64 255]] draws Z Z Z ?_ ?_
  ·refine Oq.c ?_ (Oq.c ?_ (Oq.c ?_ (Oq.c ?_ (Oq.c ?_ (Oq.c ?_ (Oq.c ?_ (Oq.c ?_ (Oq.c ?_ (Oq.c ?_ (Oq.c ?_ (Oq.c ?_ (Oq.c ?_ (Oq.c ?_ (Oq.c ?_ (Oq.c ?_ (Oq.c ?_ (Oq.c ?_ (Oq.c ?_ (Oq.c ?_ (Oq.n))))))))))))))))))))
   ·refine Om Z (sO 13 sN) ?_
    exact S Z Wp
   ·refine Om Z (sD 0 sN) ?_
    exact S Z Wp
   ·refine Om Z (sD 1 sN) ?_
    exact Fp fa_71_0 Z Wp
   ·refine Om Z sN ?_
    refine vX (.agg [.int .i64 1, .int .i64 1048576]) (OpV.loadG (g := 7) isAgg179 sizeOf179 Z Z) ?_
    exact Wp
   ·refine Om Z (sD 2 (sD 3 sN)) ?_
    refine vX (.agg [.ptr 0 39, .int .i64 1, .int .i64 1048576]) (OpV.build (zs := [.nilp, .int .i64 0, .int .i64 0]) zeroValue181 (ZR.agg (ZL.cons ZR.nilp (ZL.cons ZR.int (ZL.cons ZR.int ZL.nil)))) pl_181) ?_
    exact Wp
   ·refine Om Z (sO 13 sN) ?_
    exact S Z Wp
   ·refine Om Z (sD 5 sN) ?_
    exact S Z Wp
   ·refine Om Z (sD 6 sN) ?_
    exact Fp fa_71_1 Z Wp
   ·refine Om Z sN ?_
    refine vX (.agg [.int .i64 1, .int .i64 9999]) (OpV.loadG (g := 0) isAgg179 sizeOf179 Z Z) ?_
    exact Wp
   ·refine Om Z (sD 7 (sD 8 sN)) ?_
    refine vX (.agg [.ptr 0 40, .int .i64 1, .int .i64 9999]) (OpV.build (zs := [.nilp, .int .i64 0, .int .i64 0]) zeroValue181 (ZR.agg (ZL.cons ZR.nilp (ZL.cons ZR.int (ZL.cons ZR.int ZL.nil)))) pl_181) ?_
    exact Wp
   ·refine Om Z (sO 13 sN) ?_
    exact S Z Wp
   ·refine Om Z (sD 10 sN) ?_
    exact S Z Wp
   ·refine Om Z (sD 11 sN) ?_
    exact Fp fa_71_2 Z Wp
   ·refine Om Z sN ?_
    refine vX (.agg [.int .i64 0, .int .i64 31]) (OpV.build (zs := [.int .i64 0, .int .i64 0]) zeroValue179 (ZR.agg (ZL.cons ZR.int (ZL.cons ZR.int ZL.nil))) pl_179) ?_
    exact Wp
   ·refine Om Z (sD 12 (sD 13 sN)) ?_
    refine vX (.agg [.ptr 0 41, .int .i64 0, .int .i64 31]) (OpV.build (zs := [.nilp, .int .i64 0, .int .i64 0]) zeroValue181 (ZR.agg (ZL.cons ZR.nilp (ZL.cons ZR.int (ZL.cons ZR.int ZL.nil)))) pl_181) ?_
    exact Wp
   ·refine Om Z (sO 13 sN) ?_
    exact S Z Wp
   ·refine Om Z (sD 15 sN) ?_
    exact S Z Wp
   ·refine Om Z (sD 16 sN) ?_
    exact Fp fa_71_3 Z Wp
   ·refine Om Z sN ?_
    refine vX (.agg [.int .i64 0, .int .i64 255]) (OpV.loadG (g := 6) isAgg179 sizeOf179 Z Z) ?_
    exact Wp
   ·refine Om Z (sD 17 (sD 18 sN)) ?_
    refine vX (.agg [.ptr 0 42, .int .i64 0, .int .i64 255]) (OpV.build (zs := [.nilp, .int .i64 0, .int .i64 0]) zeroValue181 (ZR.agg (ZL.cons ZR.nilp (ZL.cons ZR.int (ZL.cons ZR.int ZL.nil)))) pl_181) ?_
    exact Wp
  refine vH (OpH.litr (xs := [.tmp 260, .tmp 265, .tmp 270, .tmp 275]) el_169 Z Z Z Z Z ⟨Z, Z, Z, Z, trivial⟩ Z) ?_
  refine aV (.osl 3 0 4 3) [_, _, _, .rowr 181 3 [[.ptr 0 39, .int .i64 1, .int .i64 1048576], [.ptr 0 40, .int .i64 1, .int .i64 9999], [.ptr 0 41, .int .i64 0, .int .i64 31], [.ptr 0 42, .int .i64 0, .int .i64 255]]] Z Z ?_
  refine vX (.agg [.osl 3 0 4 3, .fn (.func 144) [] []]) (OpV.build (zs := [.nils, .nilf]) zeroValue171 (ZR.agg (ZL.cons ZR.nils (ZL.cons ZR.nilf ZL.nil))) pl_171) ?_
  refine vU (OpU.store Z Z Z sizeOf171 Z Z Z Z Z Z Z) ?_
  refine WO.atH (H := [_, _, .cells 171 [.osl 3 0 4 3, .fn (.func 144) [] []], _]) Z ?_
  refine S Z (Nx (TC.ret (bloR (seqR ?_))))
  obtain rfl := Oi h
  refine ⟨[(4, .ptr 3 0), (5, .bool true)], [.cells 81 (Fact.c a1), .cells 3 [.int .i64 a2], .rowr 181 3 [[.ptr 0 39, .int .i64 1, .int .i64 1048576], [.ptr 0 40, .int .i64 1, .int .i64 9999], [.ptr 0 41, .int .i64 0, .int .i64 31], [.ptr 0 42, .int .i64 0, .int .i64 255]], .cells 171 [.osl 2 0 4 3, .fn (.func 144) [] []]], _, ?_, ResOK.many Z Z (ResL.cons (ResAt.cellB isAgg171 sizeOf171 Z Z Z) (ResL.cons ResAt.tmp ResL.nil)), Z, Z⟩
  exact Lr [0, 1, 3, 2]
 refine Rg (S Z (S Z (Nx (Cn Z h (fun hc9 h => ?_) (fun hc9 h => ?_)))))
 ·refine Rg (S Z (S Z (Fp fa_81_12 Z (S Z (Nx (TC.seq ?_))))))
  refine TC.draw0 20 [283, 284, 285, 286, 287, 288, 289, 290, 291, 292, 293, 294, 295, 296, 297, 298, 299, 300, 301, 302] [.ptr 0 43, .ptr 0 43, .ptr 0 43, .agg [.int .i64 1, .int .i64 1048576], .agg [.ptr 0 43, .int .i64 1, .int .i64 1048576], .ptr 0 43, .ptr 0 43, .ptr 0 44, .agg [.int .i64 0, .int .i64 9999], .agg [.ptr 0 44, .int .i64 0, .int .i64 9999], .ptr 0 43, .ptr 0 43, .ptr 0 45, .agg [.int .i64 0, .int .i64 1125899906842624], .agg [.ptr 0 45, .int .i64 0, .int .i64 1125899906842624], .ptr 0 43, .ptr 0 43, .ptr 0 46, .agg [.int .i64 0, .int .i64 1], .agg [.ptr 0 46, .int .i64 0, .int .i64 1]] draws Z Z Z ?_ ?_
  ·refine Oq.c ?_ (Oq.c ?_ (Oq.c ?_ (Oq.c ?_ (Oq.c ?_ (Oq.c ?_ (Oq.c ?_ (Oq.c ?_ (Oq.c ?_ (Oq.c ?_ (Oq.c ?_ (Oq.c ?_ (Oq.c ?_ (Oq.c ?_ (Oq.c ?_ (Oq.c ?_ (Oq.c ?_ (Oq.c ?_ (Oq.c ?_ (Oq.c ?_ (Oq.n))))))))))))))))))))
   ·refine Om Z (sO 14 sN) ?_
    exact S Z Wp
   ·refine Om Z (sD 0 sN) ?_
    exact S Z Wp
   ·refine Om Z (sD 1 sN) ?_
    exact Fp fa_73_0 Z Wp
   ·refine Om Z sN ?_
    refine vX (.agg [.int .i64 1, .int .i64 1048576]) (OpV.loadG (g := 7) isAgg179 sizeOf179 Z Z) ?_
    exact Wp
   ·refine Om Z (sD 2 (sD 3 sN)) ?_
    refine vX (.agg [.ptr 0 43, .int .i64 1, .int .i64 1048576]) (OpV.build (zs := [.nilp, .int .i64 0, .int .i64 0]) zeroValue181 (ZR.agg (ZL.cons ZR.nilp (ZL.cons ZR.int (ZL.cons ZR.int ZL.nil)))) pl_181) ?_
    exact Wp
   ·refine Om Z (sO 14 sN) ?_
    exact S Z Wp
   ·refine Om Z (sD 5 sN) ?_
    exact S Z Wp
   ·refine Om Z (sD 6 sN) ?_
    exact Fp fa_73_1 Z Wp
   ·refine Om Z sN ?_
    refine vX (.agg [.int .i64 0, .int .i64 9999]) (OpV.build (zs := [.int .i64 0, .int .i64 0]) zeroValue179 (ZR.agg (ZL.cons ZR.int (ZL.cons ZR.int ZL.nil))) pl_179) ?_
    exact Wp
   ·refine Om Z (sD 7 (sD 8 sN)) ?_
    refine vX (.agg [.ptr 0 44, .int .i64 0, .int .i64 9999]) (OpV.build (zs := [.nilp, .int .i64 0, .int .i64 0]) zeroValue181 (ZR.agg (ZL.cons ZR.nilp (ZL.cons ZR.int (ZL.cons ZR.int ZL.nil)))) pl_181) ?_
    exact Wp
   ·refine Om Z (sO 14 sN) ?_
    exact S Z Wp
   ·refine Om Z (sD 10 sN) ?_
    exact S Z Wp
   ·refine Om Z (sD 11 sN) ?_
    exact Fp fa_73_2 Z Wp
   ·refine Om Z sN ?_
    refine vX (.agg [.int .i64 0, .int .i64 1125899906842624]) (OpV.build (zs := [.int .i64 0, .int .i64 0]) zeroValue179 (ZR.agg (ZL.cons ZR.int (ZL.cons ZR.int ZL.nil))) pl_179) ?_
    exact Wp
   ·refine Om Z (sD 12 (sD 13 sN)) ?_
    refine vX (.agg [.ptr 0 45, .int .i64 0, .int .i64 1125899906842624]) (OpV.build (zs := [.nilp, .int .i64 0, .int .i64 0]) zeroValue181 (ZR.agg (ZL.cons ZR.nilp (ZL.cons ZR.int (ZL.cons ZR.int ZL.nil)))) pl_181) ?_
    exact Wp
   ·refine Om Z (sO 14 sN) ?_
    exact S Z Wp
   ·refine Om Z (sD 15 sN) ?_
    exact S Z Wp
   ·refine Om Z (sD 16 sN) ?_
    exact Fp fa_73_3 Z Wp
   ·refine Om Z sN ?_
    refine vX (.agg [.int .i64 0, .int .i64 1]) (OpV.loadG (g := 8) isAgg179 sizeOf179 Z Z) ?_
    exact Wp
   ·refine Om Z (sD 17 (sD 18 sN)) ?_
    refine vX (.agg [.ptr 0 46, .int .i64 0, .int .i64 1]) (OpV.build (zs := [.nilp, .int .i64 0, .int .i64 0]) zeroValue181 (ZR.agg (ZL.cons ZR.nilp (ZL.cons ZR.int (ZL.cons ZR.int ZL.nil)))) pl_181) ?_
    exact Wp
  refine vH (OpH.litr (xs := [.tmp 287, .tmp 292, .tmp 297, .tmp 302]) el_169 Z Z Z Z Z ⟨Z, Z, Z, Z, trivial⟩ Z) ?_
  refine aV (.osl 3 0 4 3) [_, _, _, .rowr 181 3 [[.ptr 0 43, .int .i64 1, .int .i64 1048576], [.ptr 0 44, .int .i64 0, .int .i64 9999], [.ptr 0 45, .int .i64 0, .int .i64 1125899906842624], [.ptr 0 46, .int .i64 0, .int .i64 1]]] Z Z ?_
  refine vX (.agg [.osl 3 0 4 3, .fn (.func 144) [] []]) (OpV.build (zs := [.nils, .nilf]) zeroValue171 (ZR.agg (ZL.cons ZR.nils (ZL.cons ZR.nilf ZL.nil))) pl_171) ?_
  refine vU (OpU.store Z Z Z sizeOf171 Z Z Z Z Z Z Z) ?_
  refine WO.atH (H := [_, _, .cells 171 [.osl 3 0 4 3, .fn (.func 144) [] []], _]) Z ?_
  refine S Z (Nx (TC.ret (bloR (seqR ?_))))
  obtain rfl := Oi h
  refine ⟨[(4, .ptr 3 0), (5, .bool true)], [.cells 81 (Fact.c a1), .cells 3 [.int .i64 a2], .rowr 181 3 [[.ptr 0 43, .int .i64 1, .int .i64 1048576], [.ptr 0 44, .int .i64 0, .int .i64 9999], [.ptr 0 45, .int .i64 0, .int .i64 1125899906842624], [.ptr 0 46, .int .i64 0, .int .i64 1]], .cells 171 [.osl 2 0 4 3, .fn (.func 144) [] []]], _, ?_, ResOK.many Z Z (ResL.cons (ResAt.cellB isAgg171 sizeOf171 Z Z Z) (ResL.cons ResAt.tmp ResL.nil)), Z, Z⟩
  exact Lr [0, 1, 3, 2]
 refine Rg (S Z (S Z (Nx (Cn Z h (fun hc10 h => ?_) (fun hc10 h => ?_)))))
 ·refine Rg (S Z (S Z (Fp fa_81_13 Z (S Z (Nx (TC.seq ?_))))))
  refine TC.draws 8 3 [310, 311, 312, 16, 17, 18, 1000006, 1000007] [false, false, false, true, true, true, true, true] [[], [], [], [], [], [], [3, 4, 5], [3, 4, 5, 6]] [[], [3], [4], [5], [3, 4], [3, 5], [4, 5], [3, 4, 5], [3, 4, 5, 6], [3, 4, 5, 6, 7]] [[(0, 0), (1, 1), (2, 2), (3, 3), (4, 4), (5, 5), (6, 6), (7, 7), (8, 8), (9, 9)], [(0, 0), (1, 1), (2, 2), (3, 3), (4, 4), (5, 5), (6, 6), (7, 7), (8, 8), (9, 9)], [(0, 0), (1, 1), (2, 2), (3, 3), (4, 4), (5, 5), (6, 6), (7, 7), (8, 8), (9, 9)], [(0, 1), (2, 4), (3, 5), (6, 7)], [(0, 2), (1, 4), (3, 6), (5, 7)], [(0, 3), (1, 5), (2, 6), (4, 7)], [(7, 8)], [(8, 9)]] [.agg [.int .i64 1, .int .i64 9999], .agg [.int .i64 0, .int .i64 255], .agg [.int .i64 0, .int .i64 0], .ptr 3 0, .ptr 4 0, .ptr 5 0, .any, .any] [[.cells 81 (Fact.c a1), .cells 3 [.int .i64 a2], .cells 171 [.nils, .nilf], .dead, .dead, .dead], [.cells 81 (Fact.c a1), .cells 3 [.int .i64 a2], .cells 171 [.nils, .nilf], .cells 179 [.int .i64 0, .int .i64 0], .dead, .dead], [.cells 81 (Fact.c a1), .cells 3 [.int .i64 a2], .cells 171 [.nils, .nilf], .dead, .cells 179 [.int .i64 0, .int .i64 0], .dead], [.cells 81 (Fact.c a1), .cells 3 [.int .i64 a2], .cells 171 [.nils, .nilf], .dead, .dead, .cells 179 [.int .i64 0, .int .i64 0]], [.cells 81 (Fact.c a1), .cells 3 [.int .i64 a2], .cells 171 [.nils, .nilf], .cells 179 [.int .i64 0, .int .i64 0], .cells 179 [.int .i64 0, .int .i64 0], .dead], [.cells 81 (Fact.c a1), .cells 3 [.int .i64 a2], .cells 171 [.nils, .nilf], .cells 179 [.int .i64 0, .int .i64 0], .dead, .cells 179 [.int .i64 0, .int .i64 0]], [.cells 81 (Fact.c a1), .cells 3 [.int .i64 a2], .cells 171 [.nils, .nilf], .dead, .cells 179 [.int .i64 0, .int .i64 0], .cells 179 [.int .i64 0, .int .i64 0]], [.cells 81 (Fact.c a1), .cells 3 [.int .i64 a2], .cells 171 [.nils, .nilf], .cells 179 [.int .i64 0, .int .i64 0], .cells 179 [.int .i64 0, .int .i64 0], .cells 179 [.int .i64 0, .int .i64 0]], [.cells 81 (Fact.c a1), .cells 3 [.int .i64 a2], .cells 171 [.nils, .nilf], .cells 179 [.int .i64 1, .int .i64 9999], .cells 179 [.int .i64 0, .int .i64 0], .cells 179 [.int .i64 0, .int .i64 0]], [.cells 81 (Fact.c a1), .cells 3 [.int .i64 a2], .cells 171 [.nils, .nilf], .cells 179 [.int .i64 1, .int .i64 9999], .cells 179 [.int .i64 0, .int .i64 255], .cells 179 [.int .i64 0, .int .i64 0]]] ([.cells 81 (Fact.c a1), .cells 3 [.int .i64 a2], .cells 171 [.nils, .nilf], .cells 179 [.int .i64 1, .int .i64 9999], .cells 179 [.int .i64 0, .int .i64 255], .cells 179 [.int .i64 0, .int .i64 0]]) draws Z Z Z Z Z Z Z ?_ Z ?_
  ·refine OblM.cons ?_ (OblM.cons ?_ (OblM.cons ?_ (OblM.cons ?_ (OblM.cons ?_ (OblM.cons ?_ (OblM.cons ?_ (OblM.cons ?_ (OblM.nil))))))))
   ·refine OblM.stC ?_ (OblM.stC ?_ (OblM.stC ?_ (OblM.stC ?_ (OblM.stC ?_ (OblM.stC ?_ (OblM.stC ?_ (OblM.stC ?_ (OblM.stC ?_ (OblM.stC ?_ (OblM.st0))))))))))
    ·refine Om Z sN ?_
     refine vX (.agg [.int .i64 1, .int .i64 9999]) (OpV.loadG (g := 0) isAgg179 sizeOf179 Z Z) ?_
     exact Wp
    ·refine Om Z sN ?_
     refine vX (.agg [.int .i64 1, .int .i64 9999]) (OpV.loadG (g := 0) isAgg179 sizeOf179 Z Z) ?_
     exact Wp
    ·refine Om Z sN ?_
     refine vX (.agg [.int .i64 1, .int .i64 9999]) (OpV.loadG (g := 0) isAgg179 sizeOf179 Z Z) ?_
     exact Wp
    ·refine Om Z sN ?_
     refine vX (.agg [.int .i64 1, .int .i64 9999]) (OpV.loadG (g := 0) isAgg179 sizeOf179 Z Z) ?_
     exact Wp
    ·refine Om Z sN ?_
     refine vX (.agg [.int .i64 1, .int .i64 9999]) (OpV.loadG (g := 0) isAgg179 sizeOf179 Z Z) ?_
     exact Wp
    ·refine Om Z sN ?_
     refine vX (.agg [.int .i64 1, .int .i64 9999]) (OpV.loadG (g := 0) isAgg179 sizeOf179 Z Z) ?_
     exact Wp
    ·refine Om Z sN ?_
     refine vX (.agg [.int .i64 1, .int .i64 9999]) (OpV.loadG (g := 0) isAgg179 sizeOf179 Z Z) ?_
     exact Wp
    ·refine Om Z sN ?_
     refine vX (.agg [.int .i64 1, .int .i64 9999]) (OpV.loadG (g := 0) isAgg179 sizeOf179 Z Z) ?_
     exact Wp
    ·refine Om Z sN ?_
     refine vX (.agg [.int .i64 1, .int .i64 9999]) (OpV.loadG (g := 0) isAgg179 sizeOf179 Z Z) ?_
     exact Wp
    ·refine Om Z sN ?_
     refine vX (.agg [.int .i64 1, .int .i64 9999]) (OpV.loadG (g := 0) isAgg179 sizeOf179 Z Z) ?_
     exact Wp
   ·refine OblM.stC ?_ (OblM.stC ?_ (OblM.stC ?_ (OblM.stC ?_ (OblM.stC ?_ (OblM.stC ?_ (OblM.stC ?_ (OblM.stC ?_ (OblM.stC ?_ (OblM.stC ?_ (OblM.st0))))))))))
    ·refine Om Z sN ?_
     refine vX (.agg [.int .i64 0, .int .i64 255]) (OpV.loadG (g := 6) isAgg179 sizeOf179 Z Z) ?_
     exact Wp
    ·refine Om Z sN ?_
     refine vX (.agg [.int .i64 0, .int .i64 255]) (OpV.loadG (g := 6) isAgg179 sizeOf179 Z Z) ?_
     exact Wp
    ·refine Om Z sN ?_
     refine vX (.agg [.int .i64 0, .int .i64 255]) (OpV.loadG (g := 6) isAgg179 sizeOf179 Z Z) ?_
     exact Wp
    ·refine Om Z sN ?_
     refine vX (.agg [.int .i64 0, .int .i64 255]) (OpV.loadG (g := 6) isAgg179 sizeOf179 Z Z) ?_
     exact Wp
    ·refine Om Z sN ?_
     refine vX (.agg [.int .i64 0, .int .i64 255]) (OpV.loadG (g := 6) isAgg179 sizeOf179 Z Z) ?_
     exact Wp
    ·refine Om Z sN ?_
     refine vX (.agg [.int .i64 0, .int .i64 255]) (OpV.loadG (g := 6) isAgg179 sizeOf179 Z Z) ?_
     exact Wp
    ·refine Om Z sN ?_
     refine vX (.agg [.int .i64 0, .int .i64 255]) (OpV.loadG (g := 6) isAgg179 sizeOf179 Z Z) ?_
     exact Wp
    ·refine Om Z sN ?_
     refine vX (.agg [.int .i64 0, .int .i64 255]) (OpV.loadG (g := 6) isAgg179 sizeOf179 Z Z) ?_
     exact Wp
    ·refine Om Z sN ?_
     refine vX (.agg [.int .i64 0, .int .i64 255]) (OpV.loadG (g := 6) isAgg179 sizeOf179 Z Z) ?_
     exact Wp
    ·refine Om Z sN ?_
     refine vX (.agg [.int .i64 0, .int .i64 255]) (OpV.loadG (g := 6) isAgg179 sizeOf179 Z Z) ?_
     exact Wp
   ·refine OblM.stC ?_ (OblM.stC ?_ (OblM.stC ?_ (OblM.stC ?_ (OblM.stC ?_ (OblM.stC ?_ (OblM.stC ?_ (OblM.stC ?_ (OblM.stC ?_ (OblM.stC ?_ (OblM.st0))))))))))
    ·refine Om Z sN ?_
     refine vX (.agg [.int .i64 0, .int .i64 0]) (OpV.build (zs := [.int .i64 0, .int .i64 0]) zeroValue179 (ZR.agg (ZL.cons ZR.int (ZL.cons ZR.int ZL.nil))) pl_179) ?_
     exact Wp
    ·refine Om Z sN ?_
     refine vX (.agg [.int .i64 0, .int .i64 0]) (OpV.build (zs := [.int .i64 0, .int .i64 0]) zeroValue179 (ZR.agg (ZL.cons ZR.int (ZL.cons ZR.int ZL.nil))) pl_179) ?_
     exact Wp
    ·refine Om Z sN ?_
     refine vX (.agg [.int .i64 0, .int .i64 0]) (OpV.build (zs := [.int .i64 0, .int .i64 0]) zeroValue179 (ZR.agg (ZL.cons ZR.int (ZL.cons ZR.int ZL.nil))) pl_179) ?_
     exact Wp
    ·refine Om Z sN ?_
     refine vX (.agg [.int .i64 0, .int .i64 0]) (OpV.build (zs := [.int .i64 0, .int .i64 0]) zeroValue179 (ZR.agg (ZL.cons ZR.int (ZL.cons ZR.int ZL.nil))) pl_179) ?_
     exact Wp
    ·refine Om Z sN ?_
     refine vX (.agg [.int .i64 0, .int .i64 0]) (OpV.build (zs := [.int .i64 0, .int .i64 0]) zeroValue179 (ZR.agg (ZL.cons ZR.int (ZL.cons ZR.int ZL.nil))) pl_179) ?_
     exact Wp
    ·refine Om Z sN ?_
     refine vX (.agg [.int .i64 0, .int .i64 0]) (OpV.build (zs := [.int .i64 0, .int .i64 0]) zeroValue179 (ZR.agg (ZL.cons ZR.int (ZL.cons ZR.int ZL.nil))) pl_179) ?_
     exact Wp
    ·refine Om Z sN ?_
     refine vX (.agg [.int .i64 0, .int .i64 0]) (OpV.build (zs := [.int .i64 0, .int .i64 0]) zeroValue179 (ZR.agg (ZL.cons ZR.int (ZL.cons ZR.int ZL.nil))) pl_179) ?_
     exact Wp
    ·refine Om Z sN ?_
     refine vX (.agg [.int .i64 0, .int .i64 0]) (OpV.build (zs := [.int .i64 0, .int .i64 0]) zeroValue179 (ZR.agg (ZL.cons ZR.int (ZL.cons ZR.int ZL.nil))) pl_179) ?_
     exact Wp
    ·refine Om Z sN ?_
     refine vX (.agg [.int .i64 0, .int .i64 0]) (OpV.build (zs := [.int .i64 0, .int .i64 0]) zeroValue179 (ZR.agg (ZL.cons ZR.int (ZL.cons ZR.int ZL.nil))) pl_179) ?_
     exact Wp
    ·refine Om Z sN ?_
     refine vX (.agg [.int .i64 0, .int .i64 0]) (OpV.build (zs := [.int .i64 0, .int .i64 0]) zeroValue179 (ZR.agg (ZL.cons ZR.int (ZL.cons ZR.int ZL.nil))) pl_179) ?_
     exact Wp
   ·refine OblM.stC ?_ (OblM.stC ?_ (OblM.stC ?_ (OblM.stC ?_ (OblM.st0))))
    ·exact OblS.alloc _ 16 179 3 _ Z Z Z Z Z Z Z (OpZ.alloc (v := (.agg [.int .i64 0, .int .i64 0])) zeroValue179 (ZR.agg (ZL.cons ZR.int (ZL.cons ZR.int ZL.nil)))) Z
    ·exact OblS.alloc _ 16 179 3 _ Z Z Z Z Z Z Z (OpZ.alloc (v := (.agg [.int .i64 0, .int .i64 0])) zeroValue179 (ZR.agg (ZL.cons ZR.int (ZL.cons ZR.int ZL.nil)))) Z
    ·exact OblS.alloc _ 16 179 3 _ Z Z Z Z Z Z Z (OpZ.alloc (v := (.agg [.int .i64 0, .int .i64 0])) zeroValue179 (ZR.agg (ZL.cons ZR.int (ZL.cons ZR.int ZL.nil)))) Z
    ·exact OblS.alloc _ 16 179 3 _ Z Z Z Z Z Z Z (OpZ.alloc (v := (.agg [.int .i64 0, .int .i64 0])) zeroValue179 (ZR.agg (ZL.cons ZR.int (ZL.cons ZR.int ZL.nil)))) Z
   ·refine OblM.stC ?_ (OblM.stC ?_ (OblM.stC ?_ (OblM.stC ?_ (OblM.st0))))
    ·exact OblS.alloc _ 17 179 4 _ Z Z Z Z Z Z Z (OpZ.alloc (v := (.agg [.int .i64 0, .int .i64 0])) zeroValue179 (ZR.agg (ZL.cons ZR.int (ZL.cons ZR.int ZL.nil)))) Z
    ·exact OblS.alloc _ 17 179 4 _ Z Z Z Z Z Z Z (OpZ.alloc (v := (.agg [.int .i64 0, .int .i64 0])) zeroValue179 (ZR.agg (ZL.cons ZR.int (ZL.cons ZR.int ZL.nil)))) Z
    ·exact OblS.alloc _ 17 179 4 _ Z Z Z Z Z Z Z (OpZ.alloc (v := (.agg [.int .i64 0, .int .i64 0])) zeroValue179 (ZR.agg (ZL.cons ZR.int (ZL.cons ZR.int ZL.nil)))) Z
    ·exact OblS.alloc _ 17 179 4 _ Z Z Z Z Z Z Z (OpZ.alloc (v := (.agg [.int .i64 0, .int .i64 0])) zeroValue179 (ZR.agg (ZL.cons ZR.int (ZL.cons ZR.int ZL.nil)))) Z
   ·refine OblM.stC ?_ (OblM.stC ?_ (OblM.stC ?_ (OblM.stC ?_ (OblM.st0))))
    ·exact OblS.alloc _ 18 179 5 _ Z Z Z Z Z Z Z (OpZ.alloc (v := (.agg [.int .i64 0, .int .i64 0])) zeroValue179 (ZR.agg (ZL.cons ZR.int (ZL.cons ZR.int ZL.nil)))) Z
    ·exact OblS.alloc _ 18 179 5 _ Z Z Z Z Z Z Z (OpZ.alloc (v := (.agg [.int .i64 0, .int .i64 0])) zeroValue179 (ZR.agg (ZL.cons ZR.int (ZL.cons ZR.int ZL.nil)))) Z
    ·exact OblS.alloc _ 18 179 5 _ Z Z Z Z Z Z Z (OpZ.alloc (v := (.agg [.int .i64 0, .int .i64 0])) zeroValue179 (ZR.agg (ZL.cons ZR.int (ZL.cons ZR.int ZL.nil)))) Z
    ·exact OblS.alloc _ 18 179 5 _ Z Z Z Z Z Z Z (OpZ.alloc (v := (.agg [.int .i64 0, .int .i64 0])) zeroValue179 (ZR.agg (ZL.cons ZR.int (ZL.cons ZR.int ZL.nil)))) Z
   ·refine OblM.stC ?_ (OblM.st0)
    ·refine Om2 Z (sD 3 (sD 0 sN)) ?_
     refine vU (OpU.store Z Z Z sizeOf179 Z Z Z Z Z Z Z) ?_
     refine WO.atH (H := [_, _, _, .cells 179 [.int .i64 1, .int .i64 9999], _, _]) Z ?_
     exact Wp
   ·refine OblM.stC ?_ (OblM.st0)
    ·refine Om2 Z (sD 4 (sD 1 sN)) ?_
     refine vU (OpU.store Z Z Z sizeOf179 Z Z Z Z Z Z Z) ?_
     refine WO.atH (H := [_, _, _, _, .cells 179 [.int .i64 0, .int .i64 255], _]) Z ?_
     exact Wp
  refine vU (OpU.store Z Z Z sizeOf179 Z Z Z Z Z Z Z) ?_
  refine WO.atH (H := [_, _, _, _, _, _]) Z ?_
  refine Nx (TC.seq (Rg (S Z (S Z (Fp fa_75_2 Z (Ld isAgg3 Z (Nx (TC.block (TC.seq (Rg (S Z (S Z (Nx (Bd h fun b12 h13 h => ?_))))))))))))))
  refine TC.cut ([(4, .ptr 2 0), (15, .ptr 0 47), (16, .ptr 3 0), (17, .ptr 4 0), (18, .ptr 5 0), (316, .int .i64 a1.Ruling.Kind), (317, .bool b12)]) ([.cells 81 (Fact.c a1), .cells 3 [.int .i64 a2], .cells 171 [.nils, .nilf], .cells 179 [.int .i64 1, .int .i64 9999], .cells 179 [.int .i64 0, .int .i64 255], .cells 179 [.int .i64 0, .int .i64 0]]) ?_ (fun env H hle => ?_)
  ·refine Cn Z h13 (fun hc14 h13 => ?_) (fun hc14 h13 => ?_)
   ·refine TC.skip ?_
    obtain rfl := Oi h13
    exact cutN (Lr [0, 1, 2, 3, 4, 5])
   refine TC.region (S Z (S Z (WO.nil ?_)))
   obtain rfl := Oi h13
   exact cutN (Lr [0, 1, 2, 3, 4, 5])
  refine seqN (TC.le hle (Bd h fun b18 h19 h => ?_))
  refine TC.cut ([(4, .ptr 2 0), (15, .ptr 0 47), (16, .ptr 3 0), (17, .ptr 4 0), (18, .ptr 5 0)]) ([.cells 81 (Fact.c a1), .cells 3 [.int .i64 a2], .cells 171 [.nils, .nilf], .cells 179 (facts_scope.c b18.1), .cells 179 (facts_scope.c b18.2.1), .cells 179 (facts_scope.c b18.2.2)]) ?_ (fun env H hle => ?_)
  ·refine Cn Z h19 (fun hc20 h19 => ?_) (fun hc20 h19 => ?_)
   ·refine TC.region ?_
    refine vX (.agg [.int .i64 0, .int .i64 0]) (OpV.build (zs := [.int .i64 0, .int .i64 0]) zeroValue179 (ZR.agg (ZL.cons ZR.int (ZL.cons ZR.int ZL.nil))) pl_179) ?_
    refine vX (.agg [.int .i64 0, .int .i64 0]) (OpV.build (zs := [.int .i64 0, .int .i64 0]) zeroValue179 (ZR.agg (ZL.cons ZR.int (ZL.cons ZR.int ZL.nil))) pl_179) ?_
    refine vU (OpU.store Z Z Z sizeOf179 Z Z Z Z Z Z Z) ?_
    refine WO.atH (H := [_, _, _, .cells 179 [.int .i64 0, .int .i64 0], _, _]) Z ?_
    refine vU (OpU.store Z Z Z sizeOf179 Z Z Z Z Z Z Z) ?_
    refine WO.atH (H := [_, _, _, _, .cells 179 [.int .i64 0, .int .i64 0], _]) Z ?_
    refine WO.nil ?_
    obtain rfl := Oi h19
    exact cutN (Lr [0, 1, 2, 3, 4, 5])
   refine Rg (S Z (S Z (Nx (Cn Z h19 (fun hc21 h19 => ?_) (fun hc21 h19 => ?_)))))
   ·refine TC.region ?_
    refine vX (.agg [.int .i64 1, .int .i64 1099511627776]) (OpV.build (zs := [.int .i64 0, .int .i64 0]) zeroValue179 (ZR.agg (ZL.cons ZR.int (ZL.cons ZR.int ZL.nil))) pl_179) ?_
    refine vU (OpU.store Z Z Z sizeOf179 Z Z Z Z Z Z Z) ?_
    refine WO.atH (H := [_, _, _, _, _, .cells 179 [.int .i64 1, .int .i64 1099511627776]]) Z ?_
    refine WO.nil ?_
    obtain rfl := Oi h19
    exact cutN (Lr [0, 1, 2, 3, 4, 5])
   refine Rg (S Z (S Z (Nx (Cn Z h19 (fun hc22 h19 => ?_) (fun hc22 h19 => ?_)))))
   ·refine TC.region ?_
    refine vX (.agg [.int .i64 1, .int .i64 64]) (OpV.build (zs := [.int .i64 0, .int .i64 0]) zeroValue179 (ZR.agg (ZL.cons ZR.int (ZL.cons ZR.int ZL.nil))) pl_179) ?_
    refine vU (OpU.store Z Z Z sizeOf179 Z Z Z Z Z Z Z) ?_
    refine WO.atH (H := [_, _, _, _, _, .cells 179 [.int .i64 1, .int .i64 64]]) Z ?_
    refine WO.nil ?_
    obtain rfl := Oi h19
    exact cutN (Lr [0, 1, 2, 3, 4, 5])
   refine TC.skip ?_
   obtain rfl := Oi h19
   exact cutN (Lr [0, 1, 2, 3, 4, 5])
  refine bloN (seqN (TC.le hle (TC.seq ?_)))
  refine TC.draw0 30 [328, 329, 330, 331, 332, 333, 334, 335, 336, 337, 338, 339, 340, 341, 342, 343, 344, 345, 346, 347, 348, 349, 350, 351, 352, 353, 354, 355, 356, 357] [.ptr 0 47, .ptr 0 47, .ptr 0 47, .agg [.int .i64 1, .int .i64 1048576], .agg [.ptr 0 47, .int .i64 1, .int .i64 1048576], .ptr 0 47, .ptr 0 47, .ptr 0 48, .agg [.int .i64 1, .int .i64 2], .agg [.ptr 0 48, .int .i64 1, .int .i64 2], .ptr 0 47, .ptr 0 47, .ptr 0 49, .agg [.int .i64 1, .int .i64 5], .agg [.ptr 0 49, .int .i64 1, .int .i64 5], .ptr 0 47, .ptr 0 47, .ptr 0 50, .agg (facts_scope.c b18.1), .agg [.ptr 0 50, .int .i64 b18.1.least, .int .i64 b18.1.most], .ptr 0 47, .ptr 0 47, .ptr 0 51, .agg (facts_scope.c b18.2.1), .agg [.ptr 0 51, .int .i64 b18.2.1.least, .int .i64 b18.2.1.most], .ptr 0 47, .ptr 0 47, .ptr 0 52, .agg (facts_scope.c b18.2.2), .agg [.ptr 0 52, .int .i64 b18.2.2.least, .int .i64 b18.2.2.most]] draws Z Z Z ?_ ?_
  ·refine Oq.c ?_ (Oq.c ?_ (Oq.c ?_ (Oq.c ?_ (Oq.c ?_ (Oq.c ?_ (Oq.c ?_ (Oq.c ?_ (Oq.c ?_ (Oq.c ?_ (Oq.c ?_ (Oq.c ?_ (Oq.c ?_ (Oq.c ?_ (Oq.c ?_ (Oq.c ?_ (Oq.c ?_ (Oq.c ?_ (Oq.c ?_ (Oq.c ?_ (Oq.c ?_ (Oq.c ?_ (Oq.c ?_ (Oq.c ?_ (Oq.c ?_ (Oq.c ?_ (Oq.c ?_ (Oq.c ?_ (Oq.c ?_ (Oq.c ?_ (Oq.n))))))))))))))))))))))))))))))
   ·refine Om Z (sO 15 sN) ?_
    exact S Z Wp
   ·refine Om Z (sD 0 sN) ?_
    exact S Z Wp
   ·refine Om Z (sD 1 sN) ?_
    exact Fp fa_75_0 Z Wp
   ·refine Om Z sN ?_
    refine vX (.agg [.int .i64 1, .int .i64 1048576]) (OpV.loadG (g := 7) isAgg179 sizeOf179 Z Z) ?_
    exact Wp
   ·refine Om Z (sD 2 (sD 3 sN)) ?_
    refine vX (.agg [.ptr 0 47, .int .i64 1, .int .i64 1048576]) (OpV.build (zs := [.nilp, .int .i64 0, .int .i64 0]) zeroValue181 (ZR.agg (ZL.cons ZR.nilp (ZL.cons ZR.int (ZL.cons ZR.int ZL.nil)))) pl_181) ?_
    exact Wp
   ·refine Om Z (sO 15 sN) ?_
    exact S Z Wp
   ·refine Om Z (sD 5 sN) ?_
    exact S Z Wp
   ·refine Om Z (sD 6 sN) ?_
    exact Fp fa_75_1 Z Wp
   ·refine Om Z sN ?_
    refine vX (.agg [.int .i64 1, .int .i64 2]) (OpV.build (zs := [.int .i64 0, .int .i64 0]) zeroValue179 (ZR.agg (ZL.cons ZR.int (ZL.cons ZR.int ZL.nil))) pl_179) ?_
    exact Wp
   ·refine Om Z (sD 7 (sD 8 sN)) ?_
    refine vX (.agg [.ptr 0 48, .int .i64 1, .int .i64 2]) (OpV.build (zs := [.nilp, .int .i64 0, .int .i64 0]) zeroValue181 (ZR.agg (ZL.cons ZR.nilp (ZL.cons ZR.int (ZL.cons ZR.int ZL.nil)))) pl_181) ?_
    exact Wp
   ·refine Om Z (sO 15 sN) ?_
    exact S Z Wp
   ·refine Om Z (sD 10 sN) ?_
    exact S Z Wp
   ·refine Om Z (sD 11 sN) ?_
    exact Fp fa_75_2 Z Wp
   ·refine Om Z sN ?_
    refine vX (.agg [.int .i64 1, .int .i64 5]) (OpV.build (zs := [.int .i64 0, .int .i64 0]) zeroValue179 (ZR.agg (ZL.cons ZR.int (ZL.cons ZR.int ZL.nil))) pl_179) ?_
    exact Wp
   ·refine Om Z (sD 12 (sD 13 sN)) ?_
    refine vX (.agg [.ptr 0 49, .int .i64 1, .int .i64 5]) (OpV.build (zs := [.nilp, .int .i64 0, .int .i64 0]) zeroValue181 (ZR.agg (ZL.cons ZR.nilp (ZL.cons ZR.int (ZL.cons ZR.int ZL.nil)))) pl_181) ?_
    exact Wp
   ·refine Om Z (sO 15 sN) ?_
    exact S Z Wp
   ·refine Om Z (sD 15 sN) ?_
    exact S Z Wp
   ·refine Om Z (sD 16 sN) ?_
    exact Fp fa_75_3 Z Wp
   ·refine Om Z (sO 16 sN) ?_
    refine vX (.agg (facts_scope.c b18.1)) (OpV.loadA Z isAgg179 sizeOf179 Z (Pts.cells Z Z) Z Z) ?_
    exact Wp
   ·refine Om Z (sD 17 (sD 18 sN)) ?_
    refine vX (.agg [.ptr 0 50, .int .i64 b18.1.least, .int .i64 b18.1.most]) (OpV.build (zs := [.nilp, .int .i64 0, .int .i64 0]) zeroValue181 (ZR.agg (ZL.cons ZR.nilp (ZL.cons ZR.int (ZL.cons ZR.int ZL.nil)))) pl_181) ?_
    exact Wp
   ·refine Om Z (sO 15 sN) ?_
    exact S Z Wp
   ·refine Om Z (sD 20 sN) ?_
    exact S Z Wp
   ·refine Om Z (sD 21 sN) ?_
    exact Fp fa_75_4 Z Wp
   ·refine Om Z (sO 17 sN) ?_
    refine vX (.agg (facts_scope.c b18.2.1)) (OpV.loadA Z isAgg179 sizeOf179 Z (Pts.cells Z Z) Z Z) ?_
    exact Wp
   ·refine Om Z (sD 22 (sD 23 sN)) ?_
    refine vX (.agg [.ptr 0 51, .int .i64 b18.2.1.least, .int .i64 b18.2.1.most]) (OpV.build (zs := [.nilp, .int .i64 0, .int .i64 0]) zeroValue181 (ZR.agg (ZL.cons ZR.nilp (ZL.cons ZR.int (ZL.cons ZR.int ZL.nil)))) pl_181) ?_
    exact Wp
   ·refine Om Z (sO 15 sN) ?_
    exact S Z Wp
   ·refine Om Z (sD 25 sN) ?_
    exact S Z Wp
   ·refine Om Z (sD 26 sN) ?_
    exact Fp fa_75_5 Z Wp
   ·refine Om Z (sO 18 sN) ?_
    refine vX (.agg (facts_scope.c b18.2.2)) (OpV.loadA Z isAgg179 sizeOf179 Z (Pts.cells Z Z) Z Z) ?_
    exact Wp
   ·refine Om Z (sD 27 (sD 28 sN)) ?_
    refine vX (.agg [.ptr 0 52, .int .i64 b18.2.2.least, .int .i64 b18.2.2.most]) (OpV.build (zs := [.nilp, .int .i64 0, .int .i64 0]) zeroValue181 (ZR.agg (ZL.cons ZR.nilp (ZL.cons ZR.int (ZL.cons ZR.int ZL.nil)))) pl_181) ?_
    exact Wp
  refine vH (OpH.litr (xs := [.tmp 332, .tmp 337, .tmp 342, .tmp 347, .tmp 352, .tmp 357]) el_169 Z Z Z Z Z ⟨Z, Z, Z, Z, Z, Z, trivial⟩ Z) ?_
  refine aV (.osl 6 0 6 3) [_, _, _, _, _, _, .rowr 181 3 [[.ptr 0 47, .int .i64 1, .int .i64 1048576], [.ptr 0 48, .int .i64 1, .int .i64 2], [.ptr 0 49, .int .i64 1, .int .i64 5], [.ptr 0 50, .int .i64 b18.1.least, .int .i64 b18.1.most], [.ptr 0 51, .int .i64 b18.2.1.least, .int .i64 b18.2.1.most], [.ptr 0 52, .int .i64 b18.2.2.least, .int .i64 b18.2.2.most]]] Z Z ?_
  refine vX (.agg [.osl 6 0 6 3, .fn (.func 144) [] []]) (OpV.build (zs := [.nils, .nilf]) zeroValue171 (ZR.agg (ZL.cons ZR.nils (ZL.cons ZR.nilf ZL.nil))) pl_171) ?_
  refine vU (OpU.store Z Z Z sizeOf171 Z Z Z Z Z Z Z) ?_
  refine WO.atH (H := [_, _, .cells 171 [.osl 6 0 6 3, .fn (.func 144) [] []], _, _, _, _]) Z ?_
  refine S Z (Nx (TC.ret (bloR (seqR ?_))))
  obtain rfl := Oi h
  refine ⟨[(4, .ptr 3 0), (5, .bool true)], [.cells 81 (Fact.c a1), .cells 3 [.int .i64 a2], .rowr 181 3 [[.ptr 0 47, .int .i64 1, .int .i64 1048576], [.ptr 0 48, .int .i64 1, .int .i64 2], [.ptr 0 49, .int .i64 1, .int .i64 5], [.ptr 0 50, .int .i64 ((b18.1.least, b18.1.most, b18.2.1.least, b18.2.1.most, b18.2.2.least, b18.2.2.most).1), .int .i64 ((b18.1.least, b18.1.most, b18.2.1.least, b18.2.1.most, b18.2.2.least, b18.2.2.most).2.1)], [.ptr 0 51, .int .i64 ((b18.1.least, b18.1.most, b18.2.1.least, b18.2.1.most, b18.2.2.least, b18.2.2.most).2.2.1), .int .i64 ((b18.1.least, b18.1.most, b18.2.1.least, b18.2.1.most, b18.2.2.least, b18.2.2.most).2.2.2.1)], [.ptr 0 52, .int .i64 ((b18.1.least, b18.1.most, b18.2.1.least, b18.2.1.most, b18.2.2.least, b18.2.2.most).2.2.2.2.1), .int .i64 ((b18.1.least, b18.1.most, b18.2.1.least, b18.2.1.most, b18.2.2.least, b18.2.2.most).2.2.2.2.2)]], .cells 171 [.osl 2 0 6 3, .fn (.func 144) [] []]], _, ?_, ResOK.many Z Z (ResL.cons (ResAt.cellB isAgg171 sizeOf171 Z Z Z) (ResL.cons ResAt.tmp ResL.nil)), Z, Z⟩
  exact Lr [0, 1, 6, 2]
 refine Rg (S Z (S Z (Nx (Cn Z h (fun hc23 h => ?_) (fun hc23 h => ?_)))))
 ·refine TC.seq ?_
  refine TC.draw0 9 [362, 363, 364, 365, 366, 367, 368, 369, 370] [.ptr 0 0, .ptr 0 0, .ptr 0 53, .ptr 0 53, .agg [.int .i64 1, .int .i64 1048576], .agg [.ptr 0 53, .int .i64 1, .int .i64 1048576], .ptr 1 0, .agg [.int .i64 0, .int .i64 1], .agg [.ptr 1 0, .int .i64 0, .int .i64 1]] draws Z Z Z ?_ ?_
  ·refine Oq.c ?_ (Oq.c ?_ (Oq.c ?_ (Oq.c ?_ (Oq.c ?_ (Oq.c ?_ (Oq.c ?_ (Oq.c ?_ (Oq.c ?_ (Oq.n)))))))))
   ·refine Om Z (sO 0 sN) ?_
    exact S Z Wp
   ·refine Om Z (sD 0 sN) ?_
    exact S Z Wp
   ·refine Om Z (sD 1 sN) ?_
    exact Fp fa_81_14 Z Wp
   ·refine Om Z (sD 2 sN) ?_
    exact Fp fa_77_0 Z Wp
   ·refine Om Z sN ?_
    refine vX (.agg [.int .i64 1, .int .i64 1048576]) (OpV.loadG (g := 7) isAgg179 sizeOf179 Z Z) ?_
    exact Wp
   ·refine Om Z (sD 3 (sD 4 sN)) ?_
    refine vX (.agg [.ptr 0 53, .int .i64 1, .int .i64 1048576]) (OpV.build (zs := [.nilp, .int .i64 0, .int .i64 0]) zeroValue181 (ZR.agg (ZL.cons ZR.nilp (ZL.cons ZR.int (ZL.cons ZR.int ZL.nil)))) pl_181) ?_
    exact Wp
   ·refine Om Z (sO 1 sN) ?_
    exact S Z Wp
   ·refine Om Z sN ?_
    refine vX (.agg [.int .i64 0, .int .i64 1]) (OpV.loadG (g := 8) isAgg179 sizeOf179 Z Z) ?_
    exact Wp
   ·refine Om Z (sD 6 (sD 7 sN)) ?_
    refine vX (.agg [.ptr 1 0, .int .i64 0, .int .i64 1]) (OpV.build (zs := [.nilp, .int .i64 0, .int .i64 0]) zeroValue181 (ZR.agg (ZL.cons ZR.nilp (ZL.cons ZR.int (ZL.cons ZR.int ZL.nil)))) pl_181) ?_
    exact Wp
  refine vH (OpH.litr (xs := [.tmp 367, .tmp 370]) el_169 Z Z Z Z Z ⟨Z, Z, trivial⟩ Z) ?_
  refine aV (.osl 3 0 2 3) [_, _, _, .rowr 181 3 [[.ptr 0 53, .int .i64 1, .int .i64 1048576], [.ptr 1 0, .int .i64 0, .int .i64 1]]] Z Z ?_
  refine vX (.agg [.osl 3 0 2 3, .fn (.func 144) [] []]) (OpV.build (zs := [.nils, .nilf]) zeroValue171 (ZR.agg (ZL.cons ZR.nils (ZL.cons ZR.nilf ZL.nil))) pl_171) ?_
  refine vU (OpU.store Z Z Z sizeOf171 Z Z Z Z Z Z Z) ?_
  refine WO.atH (H := [_, _, .cells 171 [.osl 3 0 2 3, .fn (.func 144) [] []], _]) Z ?_
  refine S Z (Nx (TC.ret (bloR (seqR ?_))))
  obtain rfl := Oi h
  refine ⟨[(4, .ptr 3 0), (5, .bool true)], [.cells 81 (Fact.c a1), .cells 3 [.int .i64 a2], .rowr 181 3 [[.ptr 0 53, .int .i64 1, .int .i64 1048576], [.ptr 1 0, .int .i64 0, .int .i64 1]], .cells 171 [.osl 2 0 2 3, .fn (.func 144) [] []]], _, ?_, ResOK.many Z Z (ResL.cons (ResAt.cellB isAgg171 sizeOf171 Z Z Z) (ResL.cons ResAt.tmp ResL.nil)), Z, Z⟩
  exact Lr [0, 1, 3, 2]
 refine Rg (S Z (S Z (Nx (Cn Z h (fun hc24 h => ?_) (fun hc24 h => ?_)))))
 ·refine Rg ?_
  refine vX (.agg [.nils, .fn (.func 144) [] []]) (OpV.build (zs := [.nils, .nilf]) zeroValue171 (ZR.agg (ZL.cons ZR.nils (ZL.cons ZR.nilf ZL.nil))) pl_171) ?_
  refine vU (OpU.store Z Z Z sizeOf171 Z Z Z Z Z Z Z) ?_
  refine WO.atH (H := [_, _, .cells 171 [.nils, .fn (.func 144) [] []]]) Z ?_
  refine S Z (Nx (TC.ret (bloR (seqR ?_))))
  obtain rfl := Oi h
  refine ⟨[(4, .ptr 2 0), (5, .bool true)], [.cells 81 (Fact.c a1), .cells 3 [.int .i64 a2], .cells 171 [.nils, .fn (.func 144) [] []]], _, ?_, ResOK.many Z Z (ResL.cons (ResAt.cellB isAgg171 sizeOf171 Z Z Z) (ResL.cons ResAt.tmp ResL.nil)), Z, Z⟩
  exact Lr [0, 1, 2]
 refine Rg (S Z (S Z (Nx (Cn Z h (fun hc25 h => ?_) (fun hc25 h => ?_)))))
 ·refine TC.seq ?_
  refine TC.draw0 12 [378, 379, 380, 381, 382, 383, 384, 385, 386, 387, 388, 389] [.ptr 0 0, .ptr 0 0, .ptr 0 55, .ptr 0 55, .agg [.int .i64 0, .int .i64 31], .agg [.ptr 0 55, .int .i64 0, .int .i64 31], .ptr 0 0, .ptr 0 0, .ptr 0 55, .ptr 0 56, .agg [.int .i64 1, .int .i64 1048576], .agg [.ptr 0 56, .int .i64 1, .int .i64 1048576]] draws Z Z Z ?_ ?_
  ·refine Oq.c ?_ (Oq.c ?_ (Oq.c ?_ (Oq.c ?_ (Oq.c ?_ (Oq.c ?_ (Oq.c ?_ (Oq.c ?_ (Oq.c ?_ (Oq.c ?_ (Oq.c ?_ (Oq.c ?_ (Oq.n))))))))))))
   ·refine Om Z (sO 0 sN) ?_
    exact S Z Wp
   ·refine Om Z (sD 0 sN) ?_
    exact S Z Wp
   ·refine Om Z (sD 1 sN) ?_
    exact Fp fa_81_15 Z Wp
   ·refine Om Z (sD 2 sN) ?_
    exact Fp fa_79_0 Z Wp
   ·refine Om Z sN ?_
    refine vX (.agg [.int .i64 0, .int .i64 31]) (OpV.loadG (g := 9) isAgg179 sizeOf179 Z Z) ?_
    exact Wp
   ·refine Om Z (sD 3 (sD 4 sN)) ?_
    refine vX (.agg [.ptr 0 55, .int .i64 0, .int .i64 31]) (OpV.build (zs := [.nilp, .int .i64 0, .int .i64 0]) zeroValue181 (ZR.agg (ZL.cons ZR.nilp (ZL.cons ZR.int (ZL.cons ZR.int ZL.nil)))) pl_181) ?_
    exact Wp
   ·refine Om Z (sO 0 sN) ?_
    exact S Z Wp
   ·refine Om Z (sD 6 sN) ?_
    exact S Z Wp
   ·refine Om Z (sD 7 sN) ?_
    exact Fp fa_81_15 Z Wp
   ·refine Om Z (sD 8 sN) ?_
    exact Fp fa_79_1 Z Wp
   ·refine Om Z sN ?_
    refine vX (.agg [.int .i64 1, .int .i64 1048576]) (OpV.loadG (g := 10) isAgg179 sizeOf179 Z Z) ?_
    exact Wp
   ·refine Om Z (sD 9 (sD 10 sN)) ?_
    refine vX (.agg [.ptr 0 56, .int .i64 1, .int .i64 1048576]) (OpV.build (zs := [.nilp, .int .i64 0, .int .i64 0]) zeroValue181 (ZR.agg (ZL.cons ZR.nilp (ZL.cons ZR.int (ZL.cons ZR.int ZL.nil)))) pl_181) ?_
    exact Wp
  refine vH (OpH.litr (xs := [.tmp 383, .tmp 389]) el_169 Z Z Z Z Z ⟨Z, Z, trivial⟩ Z) ?_
  refine aV (.osl 3 0 2 3) [_, _, _, .rowr 181 3 [[.ptr 0 55, .int .i64 0, .int .i64 31], [.ptr 0 56, .int .i64 1, .int .i64 1048576]]] Z Z ?_
  refine vX (.agg [.osl 3 0 2 3, .fn (.func 144) [] []]) (OpV.build (zs := [.nils, .nilf]) zeroValue171 (ZR.agg (ZL.cons ZR.nils (ZL.cons ZR.nilf ZL.nil))) pl_171) ?_
  refine vU (OpU.store Z Z Z sizeOf171 Z Z Z Z Z Z Z) ?_
  refine WO.atH (H := [_, _, .cells 171 [.osl 3 0 2 3, .fn (.func 144) [] []], _]) Z ?_
  refine S Z (Nx (TC.ret (bloR (seqR ?_))))
  obtain rfl := Oi h
  refine ⟨[(4, .ptr 3 0), (5, .bool true)], [.cells 81 (Fact.c a1), .cells 3 [.int .i64 a2], .rowr 181 3 [[.ptr 0 55, .int .i64 0, .int .i64 31], [.ptr 0 56, .int .i64 1, .int .i64 1048576]], .cells 171 [.osl 2 0 2 3, .fn (.func 144) [] []]], _, ?_, ResOK.many Z Z (ResL.cons (ResAt.cellB isAgg171 sizeOf171 Z Z Z) (ResL.cons ResAt.tmp ResL.nil)), Z, Z⟩
  exact Lr [0, 1, 3, 2]
 refine TC.skip (bloN (seqN (Rg ?_)))
 refine vX (.agg [.nils, .nilf]) (OpV.loadA Z isAgg171 sizeOf171 Z (Pts.cells Z Z) Z Z) ?_
 refine vU (OpU.store Z Z Z sizeOf171 Z Z Z Z Z Z Z) ?_
 refine WO.atH (H := [_, _, _]) Z ?_
 refine S Z (Nx (TC.ret ?_))
 obtain rfl := Oi h
 refine ⟨[(4, .ptr 2 0), (5, .bool false)], [.cells 81 (Fact.c a1), .cells 3 [.int .i64 a2], .cells 171 [.nils, .nilf]], _, ?_, ResOK.many Z Z (ResL.cons (ResAt.cellB isAgg171 sizeOf171 Z Z Z) (ResL.cons ResAt.tmp ResL.nil)), Z, Z⟩
 exact Lr [0, 1, 2]
def F_c (n : Nat) : Option Unit :=
  some ()
theorem k_c (n : Nat) (r : Unit) (h : F_c n = some r) :
    C prog 144 [] [] (fun a H => a = .bool true ∧ H = []) := by
 refine C.of_body func144 Z Z Z ?_
 refine Rg (S Z (Nx (Rg (S Z (Nx (TC.ret ?_))))))
 obtain rfl := Oi h
 refine ⟨[(0, _)], _, _, ?_, ResOK.one Z Z, Z, Z⟩
 exact Lr []
def F_em (n : Nat) (a1 : Fact) : Option Unit :=
  some ()
theorem k_em (n : Nat) (a1 : Fact) (r : Unit) (h : F_em n a1 = some r) :
    C prog 145 [.ptr 0 0] [.cells 238 [.ptr 1 21], .cells 81 (Fact.c a1)] (fun a H => a = .bool (decide (a1.Sync.Min ≤ a1.Sync.Max)) ∧ H = [.cells 238 [.ptr 1 21], .cells 81 (Fact.c a1)]) := by
 refine C.of_body func145 Z Z Z ?_
 refine Rg (S Z (Nx (TC.seq ?_)))
 refine TC.draw0 8 [2, 3, 4, 5, 6, 7, 8, 9] [.ptr 1 21, .ptr 1 21, .ptr 1 27, .int .i64 a1.Sync.Min, .ptr 1 21, .ptr 1 21, .ptr 1 28, .int .i64 a1.Sync.Max] draws Z Z Z ?_ ?_
 ·refine Oq.c ?_ (Oq.c ?_ (Oq.c ?_ (Oq.c ?_ (Oq.c ?_ (Oq.c ?_ (Oq.c ?_ (Oq.c ?_ (Oq.n))))))))
  ·refine Om Z (sO 0 sN) ?_
   exact Ld isAgg238 Z Wp
  ·refine Om Z (sD 0 sN) ?_
   exact S Z Wp
  ·refine Om Z (sD 1 sN) ?_
   exact Fp fa_65_6 Z Wp
  ·refine Om Z (sD 2 sN) ?_
   exact Ld isAgg3 Z Wp
  ·refine Om Z (sO 0 sN) ?_
   exact Ld isAgg238 Z Wp
  ·refine Om Z (sD 4 sN) ?_
   exact S Z Wp
  ·refine Om Z (sD 5 sN) ?_
   exact Fp fa_65_7 Z Wp
  ·refine Om Z (sD 6 sN) ?_
   exact Ld isAgg3 Z Wp
 refine S Z (S Z (Nx (TC.ret ?_)))
 obtain rfl := Oi h
 refine ⟨[(1, _)], _, _, ?_, ResOK.one Z Z, Z, Z⟩
 exact Lr [0, 1]
def F_cz (n : Nat) (a1 : Fact) : Option Unit :=
  some ()
theorem k_cz (n : Nat) (a1 : Fact) (r : Unit) (h : F_cz n a1 = some r) :
    C prog 146 [.ptr 0 0] [.cells 239 [.ptr 1 29], .cells 81 (Fact.c a1)] (fun a H => a = .bool (decide (a1.Hand.Lo ≤ a1.Hand.Hi)) ∧ H = [.cells 239 [.ptr 1 29], .cells 81 (Fact.c a1)]) := by
 refine C.of_body func146 Z Z Z ?_
 refine Rg (S Z (Nx (TC.seq ?_)))
 refine TC.draw0 8 [2, 3, 4, 5, 6, 7, 8, 9] [.ptr 1 29, .ptr 1 29, .ptr 1 31, .int .i64 a1.Hand.Lo, .ptr 1 29, .ptr 1 29, .ptr 1 32, .int .i64 a1.Hand.Hi] draws Z Z Z ?_ ?_
 ·refine Oq.c ?_ (Oq.c ?_ (Oq.c ?_ (Oq.c ?_ (Oq.c ?_ (Oq.c ?_ (Oq.c ?_ (Oq.c ?_ (Oq.n))))))))
  ·refine Om Z (sO 0 sN) ?_
   exact Ld isAgg239 Z Wp
  ·refine Om Z (sD 0 sN) ?_
   exact S Z Wp
  ·refine Om Z (sD 1 sN) ?_
   exact Fp fa_67_2 Z Wp
  ·refine Om Z (sD 2 sN) ?_
   exact Ld isAgg3 Z Wp
  ·refine Om Z (sO 0 sN) ?_
   exact Ld isAgg239 Z Wp
  ·refine Om Z (sD 4 sN) ?_
   exact S Z Wp
  ·refine Om Z (sD 5 sN) ?_
   exact Fp fa_67_3 Z Wp
  ·refine Om Z (sD 6 sN) ?_
   exact Ld isAgg3 Z Wp
 refine S Z (S Z (Nx (TC.ret ?_)))
 obtain rfl := Oi h
 refine ⟨[(1, _)], _, _, ?_, ResOK.one Z Z, Z, Z⟩
 exact Lr [0, 1]
def F_ef (n : Nat) (a1 : Fact) : Option Unit :=
  some ()
theorem k_ef (n : Nat) (a1 : Fact) (r : Unit) (h : F_ef n a1 = some r) :
    C prog 147 [.ptr 0 0] [.cells 240 [.ptr 1 33], .cells 81 (Fact.c a1)] (fun a H => a = .bool (decide (a1.Silence.Lo ≤ a1.Silence.Hi)) ∧ H = [.cells 240 [.ptr 1 33], .cells 81 (Fact.c a1)]) := by
 refine C.of_body func147 Z Z Z ?_
 refine Rg (S Z (Nx (TC.seq ?_)))
 refine TC.draw0 8 [2, 3, 4, 5, 6, 7, 8, 9] [.ptr 1 33, .ptr 1 33, .ptr 1 35, .int .i64 a1.Silence.Lo, .ptr 1 33, .ptr 1 33, .ptr 1 36, .int .i64 a1.Silence.Hi] draws Z Z Z ?_ ?_
 ·refine Oq.c ?_ (Oq.c ?_ (Oq.c ?_ (Oq.c ?_ (Oq.c ?_ (Oq.c ?_ (Oq.c ?_ (Oq.c ?_ (Oq.n))))))))
  ·refine Om Z (sO 0 sN) ?_
   exact Ld isAgg240 Z Wp
  ·refine Om Z (sD 0 sN) ?_
   exact S Z Wp
  ·refine Om Z (sD 1 sN) ?_
   exact Fp fa_69_2 Z Wp
  ·refine Om Z (sD 2 sN) ?_
   exact Ld isAgg3 Z Wp
  ·refine Om Z (sO 0 sN) ?_
   exact Ld isAgg240 Z Wp
  ·refine Om Z (sD 4 sN) ?_
   exact S Z Wp
  ·refine Om Z (sD 5 sN) ?_
   exact Fp fa_69_3 Z Wp
  ·refine Om Z (sD 6 sN) ?_
   exact Ld isAgg3 Z Wp
 refine S Z (S Z (Nx (TC.ret ?_)))
 obtain rfl := Oi h
 refine ⟨[(1, _)], _, _, ?_, ResOK.one Z Z, Z, Z⟩
 exact Lr [0, 1]
def F_en (n : Nat) (a1 : Fact) : Option Unit :=
  some ()
theorem k_en (n : Nat) (a1 : Fact) (r : Unit) (h : F_en n a1 = some r) :
    C prog 148 [.ptr 0 0] [.cells 241 [.ptr 1 37], .cells 81 (Fact.c a1)] (fun a H => a = .bool (decide (a1.Pair.A < a1.Pair.B)) ∧ H = [.cells 241 [.ptr 1 37], .cells 81 (Fact.c a1)]) := by
 refine C.of_body func148 Z Z Z ?_
 refine Rg (S Z (Nx (TC.seq ?_)))
 refine TC.draw0 8 [2, 3, 4, 5, 6, 7, 8, 9] [.ptr 1 37, .ptr 1 37, .ptr 1 37, .int .i64 a1.Pair.A, .ptr 1 37, .ptr 1 37, .ptr 1 38, .int .i64 a1.Pair.B] draws Z Z Z ?_ ?_
 ·refine Oq.c ?_ (Oq.c ?_ (Oq.c ?_ (Oq.c ?_ (Oq.c ?_ (Oq.c ?_ (Oq.c ?_ (Oq.c ?_ (Oq.n))))))))
  ·refine Om Z (sO 0 sN) ?_
   exact Ld isAgg241 Z Wp
  ·refine Om Z (sD 0 sN) ?_
   exact S Z Wp
  ·refine Om Z (sD 1 sN) ?_
   exact Fp fa_59_0 Z Wp
  ·refine Om Z (sD 2 sN) ?_
   exact Ld isAgg3 Z Wp
  ·refine Om Z (sO 0 sN) ?_
   exact Ld isAgg241 Z Wp
  ·refine Om Z (sD 4 sN) ?_
   exact S Z Wp
  ·refine Om Z (sD 5 sN) ?_
   exact Fp fa_59_1 Z Wp
  ·refine Om Z (sD 6 sN) ?_
   exact Ld isAgg3 Z Wp
 refine S Z (S Z (Nx (TC.ret ?_)))
 obtain rfl := Oi h
 refine ⟨[(1, _)], _, _, ?_, ResOK.one Z Z, Z, Z⟩
 exact Lr [0, 1]
def F_ae (n : Nat) (a1 : Fact) : Option Unit :=
  some ()
theorem k_ae (n : Nat) (a1 : Fact) (r : Unit) (h : F_ae n a1 = some r) :
    C prog 84 [.ptr 0 0] [.cells 81 (Fact.c a1)] (fun a H => a = .osl 1 0 4 3 ∧ H = [.cells 81 (Fact.c a1), .rowr 181 3 [[.ptr 0 3, .int .i64 1, .int .i64 13], [.ptr 0 0, .int .i64 0, .int .i64 31], [.ptr 0 1, .int .i64 1, .int .i64 1048576], [.ptr 0 2, .int .i64 0, .int .i64 1099511627776]]]) := by
 refine C.of_body func84 Z Z Z ?_
 refine Rg (S Z (Nx (TC.seq ?_)))
 refine TC.draw0 20 [3, 4, 5, 6, 7, 8, 9, 10, 11, 12, 13, 14, 15, 16, 17, 18, 19, 20, 21, 22] [.ptr 0 0, .ptr 0 0, .ptr 0 3, .agg [.int .i64 1, .int .i64 13], .agg [.ptr 0 3, .int .i64 1, .int .i64 13], .ptr 0 0, .ptr 0 0, .ptr 0 0, .agg [.int .i64 0, .int .i64 31], .agg [.ptr 0 0, .int .i64 0, .int .i64 31], .ptr 0 0, .ptr 0 0, .ptr 0 1, .agg [.int .i64 1, .int .i64 1048576], .agg [.ptr 0 1, .int .i64 1, .int .i64 1048576], .ptr 0 0, .ptr 0 0, .ptr 0 2, .agg [.int .i64 0, .int .i64 1099511627776], .agg [.ptr 0 2, .int .i64 0, .int .i64 1099511627776]] draws Z Z Z ?_ ?_
 ·refine Oq.c ?_ (Oq.c ?_ (Oq.c ?_ (Oq.c ?_ (Oq.c ?_ (Oq.c ?_ (Oq.c ?_ (Oq.c ?_ (Oq.c ?_ (Oq.c ?_ (Oq.c ?_ (Oq.c ?_ (Oq.c ?_ (Oq.c ?_ (Oq.c ?_ (Oq.c ?_ (Oq.c ?_ (Oq.c ?_ (Oq.c ?_ (Oq.c ?_ (Oq.n))))))))))))))))))))
  ·refine Om Z (sO 0 sN) ?_
   exact S Z Wp
  ·refine Om Z (sD 0 sN) ?_
   exact S Z Wp
  ·refine Om Z (sD 1 sN) ?_
   exact Fp fa_81_3 Z Wp
  ·refine Om Z sN ?_
   refine vX (.agg [.int .i64 1, .int .i64 13]) (OpV.build (zs := [.int .i64 0, .int .i64 0]) zeroValue179 (ZR.agg (ZL.cons ZR.int (ZL.cons ZR.int ZL.nil))) pl_179) ?_
   exact Wp
  ·refine Om Z (sD 2 (sD 3 sN)) ?_
   refine vX (.agg [.ptr 0 3, .int .i64 1, .int .i64 13]) (OpV.build (zs := [.nilp, .int .i64 0, .int .i64 0]) zeroValue181 (ZR.agg (ZL.cons ZR.nilp (ZL.cons ZR.int (ZL.cons ZR.int ZL.nil)))) pl_181) ?_
   exact Wp
  ·refine Om Z (sO 0 sN) ?_
   exact S Z Wp
  ·refine Om Z (sD 5 sN) ?_
   exact S Z Wp
  ·refine Om Z (sD 6 sN) ?_
   exact Fp fa_81_0 Z Wp
  ·refine Om Z sN ?_
   refine vX (.agg [.int .i64 0, .int .i64 31]) (OpV.loadG (g := 9) isAgg179 sizeOf179 Z Z) ?_
   exact Wp
  ·refine Om Z (sD 7 (sD 8 sN)) ?_
   refine vX (.agg [.ptr 0 0, .int .i64 0, .int .i64 31]) (OpV.build (zs := [.nilp, .int .i64 0, .int .i64 0]) zeroValue181 (ZR.agg (ZL.cons ZR.nilp (ZL.cons ZR.int (ZL.cons ZR.int ZL.nil)))) pl_181) ?_
   exact Wp
  ·refine Om Z (sO 0 sN) ?_
   exact S Z Wp
  ·refine Om Z (sD 10 sN) ?_
   exact S Z Wp
  ·refine Om Z (sD 11 sN) ?_
   exact Fp fa_81_1 Z Wp
  ·refine Om Z sN ?_
   refine vX (.agg [.int .i64 1, .int .i64 1048576]) (OpV.loadG (g := 10) isAgg179 sizeOf179 Z Z) ?_
   exact Wp
  ·refine Om Z (sD 12 (sD 13 sN)) ?_
   refine vX (.agg [.ptr 0 1, .int .i64 1, .int .i64 1048576]) (OpV.build (zs := [.nilp, .int .i64 0, .int .i64 0]) zeroValue181 (ZR.agg (ZL.cons ZR.nilp (ZL.cons ZR.int (ZL.cons ZR.int ZL.nil)))) pl_181) ?_
   exact Wp
  ·refine Om Z (sO 0 sN) ?_
   exact S Z Wp
  ·refine Om Z (sD 15 sN) ?_
   exact S Z Wp
  ·refine Om Z (sD 16 sN) ?_
   exact Fp fa_81_2 Z Wp
  ·refine Om Z sN ?_
   refine vX (.agg [.int .i64 0, .int .i64 1099511627776]) (OpV.loadG (g := 5) isAgg179 sizeOf179 Z Z) ?_
   exact Wp
  ·refine Om Z (sD 17 (sD 18 sN)) ?_
   refine vX (.agg [.ptr 0 2, .int .i64 0, .int .i64 1099511627776]) (OpV.build (zs := [.nilp, .int .i64 0, .int .i64 0]) zeroValue181 (ZR.agg (ZL.cons ZR.nilp (ZL.cons ZR.int (ZL.cons ZR.int ZL.nil)))) pl_181) ?_
   exact Wp
 refine vH (OpH.litr (xs := [.tmp 7, .tmp 12, .tmp 17, .tmp 22]) el_169 Z Z Z Z Z ⟨Z, Z, Z, Z, trivial⟩ Z) ?_
 refine aV (.osl 1 0 4 3) [_, .rowr 181 3 [[.ptr 0 3, .int .i64 1, .int .i64 13], [.ptr 0 0, .int .i64 0, .int .i64 31], [.ptr 0 1, .int .i64 1, .int .i64 1048576], [.ptr 0 2, .int .i64 0, .int .i64 1099511627776]]] Z Z ?_
 refine S Z (Nx (TC.ret ?_))
 obtain rfl := Oi h
 refine ⟨[(2, _)], _, _, ?_, ResOK.one Z Z, Z, Z⟩
 exact Lr [0, 1]
def F_ct (n : Nat) (a1 : Fact) (a2 : Int) (a3 : Fact) : Option (List Ent) :=
  ((F_z n ({ Crew := a1.Crew, No := a1.No, At := a1.At, Kind := a3.Kind, Starter := a1.Starter, Read := a1.Read, Beacon := a1.Beacon, Sync := a1.Sync, Hand := a1.Hand, Silence := a1.Silence, Pair := a1.Pair, Report := a1.Report, Protest := a1.Protest, Ruling := a1.Ruling, Appeal := a1.Appeal, Void := a1.Void : Fact }) a2).bind fun r19 => (match r19 with | .c0 x21 => (some ([⟨false, 4, 1, 9999⟩, ⟨false, 5, 0, 7⟩, ⟨false, 6, 0, 31⟩, ⟨false, 7, (-1099511627776), 1099511627776⟩, ⟨false, 8, 0, 120⟩, ⟨false, 9, 0, 1048576⟩, ⟨false, 10, 0, 9999⟩, ⟨false, 11, 0, 1048576⟩] : List Ent)) | .c1 x22 => (some ([⟨false, 12, 0, 39⟩, ⟨false, 13, 0, 255⟩, ⟨false, 14, 0, 1048576⟩, ⟨false, 15, (-1099511627776), 1099511627776⟩] : List Ent)) | .c2 x23 => (some ([⟨false, 16, 0, 39⟩, ⟨false, 17, 0, 255⟩, ⟨false, 18, (-1099511627776), 1099511627776⟩, ⟨false, 19, (-1099511627776), 1099511627776⟩, ⟨false, 20, 0, 1099511627776⟩] : List Ent)) | .c3 x24 => (some ([⟨false, 21, 0, 39⟩, ⟨false, 22, 0, 255⟩, ⟨false, 23, (-1099511627776), 1099511627776⟩, ⟨false, 24, 0, 39⟩, ⟨false, 25, 0, 255⟩, ⟨false, 26, (-1099511627776), 1099511627776⟩, ⟨false, 27, (-1099511627776), 1099511627776⟩, ⟨false, 28, (-1099511627776), 1099511627776⟩] : List Ent)) | .c4 x25 => (some ([⟨false, 29, 1, 9999⟩, ⟨false, 30, 0, 255⟩, ⟨false, 31, (-1099511627776), 1099511627776⟩, ⟨false, 32, (-1099511627776), 1099511627776⟩] : List Ent)) | .c5 x26 => (some ([⟨false, 33, 0, 39⟩, ⟨false, 34, 0, 255⟩, ⟨false, 35, (-1099511627776), 1099511627776⟩, ⟨false, 36, (-1099511627776), 1099511627776⟩] : List Ent)) | .c6 x27 => (some ([⟨false, 37, 1, 9999⟩, ⟨false, 38, 1, 9999⟩] : List Ent)) | .c7 x28 => (some ([⟨false, 39, 1, 1048576⟩, ⟨false, 40, 1, 9999⟩, ⟨false, 41, 0, 31⟩, ⟨false, 42, 0, 255⟩] : List Ent)) | .c8 x29 => (some ([⟨false, 43, 1, 1048576⟩, ⟨false, 44, 0, 9999⟩, ⟨false, 45, 0, 1125899906842624⟩, ⟨false, 46, 0, 1⟩] : List Ent)) | .c9 x30 => (some ([⟨false, 47, 1, 1048576⟩, ⟨false, 48, 1, 2⟩, ⟨false, 49, 1, 5⟩, ⟨false, 50, x30.1, x30.2.1⟩, ⟨false, 51, x30.2.2.1, x30.2.2.2.1⟩, ⟨false, 52, x30.2.2.2.2.1, x30.2.2.2.2.2⟩] : List Ent)) | .c10 x31 => (some ([⟨false, 53, 1, 1048576⟩, ⟨true, 0, 0, 1⟩] : List Ent)) | .c11 x32 => (some []) | .c12 x33 => (some ([⟨false, 55, 0, 31⟩, ⟨false, 56, 1, 1048576⟩] : List Ent)) | .c13 x34 => (some [])) : Option (List Ent)).bind fun b17 => (F_ae n ({ Crew := a1.Crew, No := a1.No, At := a1.At, Kind := a3.Kind, Starter := a1.Starter, Read := a1.Read, Beacon := a1.Beacon, Sync := a1.Sync, Hand := a1.Hand, Silence := a1.Silence, Pair := a1.Pair, Report := a1.Report, Protest := a1.Protest, Ruling := a1.Ruling, Appeal := a1.Appeal, Void := a1.Void : Fact })).bind fun r35 => (app ([⟨false, 3, 1, 13⟩, ⟨false, 0, 0, 31⟩, ⟨false, 1, 1, 1048576⟩, ⟨false, 2, 0, 1099511627776⟩] : List Ent) b17).bind fun l36 => some l36
theorem k_ct (n : Nat) (a1 : Fact) (a2 : Int) (a3 : Fact) (r : List Ent) (h : F_ct n a1 a2 a3 = some r) :
    C prog 83 [.ptr 0 0, .ptr 1 0, .ptr 2 0] [.cells 81 (Fact.c a1), .cells 3 [.int .i64 a2], .cells 81 (Fact.c a3)] (fun a H => a = .osl 3 0 r.length 3 ∧ H = [.cells 81 (Fact.c ({ Crew := a1.Crew, No := a1.No, At := a1.At, Kind := a3.Kind, Starter := a1.Starter, Read := a1.Read, Beacon := a1.Beacon, Sync := a1.Sync, Hand := a1.Hand, Silence := a1.Silence, Pair := a1.Pair, Report := a1.Report, Protest := a1.Protest, Ruling := a1.Ruling, Appeal := a1.Appeal, Void := a1.Void : Fact })), .cells 3 [.int .i64 a2], .cells 81 (Fact.c a3), .ents 181 0 1 r]) := by
 refine C.of_body func83 Z Z Z ?_
 refine Rg (S Z (Nx (Rg (S Z (Fp fa_81_3 Z (Ld isAgg3 Z (S Z (Fp fa_81_3 Z ?_))))))))
 refine vU (OpU.store Z Z Z sizeOf3 Z Z Z Z Z Z Z) ?_
 refine WO.atH (H := [.cells 81 (Fact.c ({ Crew := a1.Crew, No := a1.No, At := a1.At, Kind := a3.Kind, Starter := a1.Starter, Read := a1.Read, Beacon := a1.Beacon, Sync := a1.Sync, Hand := a1.Hand, Silence := a1.Silence, Pair := a1.Pair, Report := a1.Report, Protest := a1.Protest, Ruling := a1.Ruling, Appeal := a1.Appeal, Void := a1.Void : Fact })), _, _]) Z ?_
 refine Nx (TC.seq (Bd h fun b17 h18 h => ?_))
 refine TC.cut ([(0, .ptr 0 0), (6, .ptr 3 0)]) ([.cells 81 (Fact.c ({ Crew := a1.Crew, No := a1.No, At := a1.At, Kind := a3.Kind, Starter := a1.Starter, Read := a1.Read, Beacon := a1.Beacon, Sync := a1.Sync, Hand := a1.Hand, Silence := a1.Silence, Pair := a1.Pair, Report := a1.Report, Protest := a1.Protest, Ruling := a1.Ruling, Appeal := a1.Appeal, Void := a1.Void : Fact })), .cells 3 [.int .i64 a2], .cells 81 (Fact.c a3), .cells 171 [.osl 4 0 b17.length 3, .any], .ents 181 0 1 b17]) ?_ (fun env H hle => ?_)
 ·refine TC.region (S Z (S Z (Bd h18 fun r19 hr19 h18 => ?_)))
  refine WO.callD [0, 1] (OpC.fn call82 Z Z Z) (k_z _ _ _ _ hr19) ?_
  intro ra rH h20
  rcases r19 with x21 | x22 | x23 | x24 | x25 | x26 | x27 | x28 | x29 | x30 | x31 | x32 | x33 | x34
  ·obtain ⟨rfl, rfl⟩ := h20
   refine aV (.tup [.agg [.osl 3 0 8 3, .fn (.func 144) [] []], .bool true]) [.cells 81 (Fact.c ({ Crew := a1.Crew, No := a1.No, At := a1.At, Kind := a3.Kind, Starter := a1.Starter, Read := a1.Read, Beacon := a1.Beacon, Sync := a1.Sync, Hand := a1.Hand, Silence := a1.Silence, Pair := a1.Pair, Report := a1.Report, Protest := a1.Protest, Ruling := a1.Ruling, Appeal := a1.Appeal, Void := a1.Void : Fact })), .cells 3 [.int .i64 a2], .cells 81 (Fact.c a3), .rowr 181 3 [[.ptr 0 4, .int .i64 1, .int .i64 9999], [.ptr 0 5, .int .i64 0, .int .i64 7], [.ptr 0 6, .int .i64 0, .int .i64 31], [.ptr 0 7, .int .i64 (-1099511627776), .int .i64 1099511627776], [.ptr 0 8, .int .i64 0, .int .i64 120], [.ptr 0 9, .int .i64 0, .int .i64 1048576], [.ptr 0 10, .int .i64 0, .int .i64 9999], [.ptr 0 11, .int .i64 0, .int .i64 1048576]], .cells 171 [.osl 3 0 8 3, .fn (.func 144) [] []]] Z Z ?_
   refine WO.le (Le.toEnts (i := 3) (b1 := 0) (b2 := 1) (l := [⟨false, 4, 1, 9999⟩, ⟨false, 5, 0, 7⟩, ⟨false, 6, 0, 31⟩, ⟨false, 7, (-1099511627776), 1099511627776⟩, ⟨false, 8, 0, 120⟩, ⟨false, 9, 0, 1048576⟩, ⟨false, 10, 0, 9999⟩, ⟨false, 11, 0, 1048576⟩]) Z Z) ?_
   refine WO.atH (H := [.cells 81 (Fact.c ({ Crew := a1.Crew, No := a1.No, At := a1.At, Kind := a3.Kind, Starter := a1.Starter, Read := a1.Read, Beacon := a1.Beacon, Sync := a1.Sync, Hand := a1.Hand, Silence := a1.Silence, Pair := a1.Pair, Report := a1.Report, Protest := a1.Protest, Ruling := a1.Ruling, Appeal := a1.Appeal, Void := a1.Void : Fact })), .cells 3 [.int .i64 a2], .cells 81 (Fact.c a3), .ents 181 0 1 ([⟨false, 4, 1, 9999⟩, ⟨false, 5, 0, 7⟩, ⟨false, 6, 0, 31⟩, ⟨false, 7, (-1099511627776), 1099511627776⟩, ⟨false, 8, 0, 120⟩, ⟨false, 9, 0, 1048576⟩, ⟨false, 10, 0, 9999⟩, ⟨false, 11, 0, 1048576⟩] : List Ent), .cells 171 [.osl 3 0 8 3, .fn (.func 144) [] []]]) Z ?_
   refine S Z (S Z (S Z ?_))
   refine vH (OpH.allocZ (v := (.agg [.nils, .nilf])) zeroValue171 (ZR.agg (ZL.cons ZR.nils (ZL.cons ZR.nilf ZL.nil)))) ?_
   refine aV (.ptr 5 0) [_, _, _, _, _, .cells 171 [.nils, .nilf]] Z Z ?_
   refine vU (OpU.store Z Z Z sizeOf171 Z Z Z Z Z Z Z) ?_
   refine WO.atH (H := [_, _, _, _, _, .cells 171 [.osl 3 0 (([⟨false, 4, 1, 9999⟩, ⟨false, 5, 0, 7⟩, ⟨false, 6, 0, 31⟩, ⟨false, 7, (-1099511627776), 1099511627776⟩, ⟨false, 8, 0, 120⟩, ⟨false, 9, 0, 1048576⟩, ⟨false, 10, 0, 9999⟩, ⟨false, 11, 0, 1048576⟩] : List Ent).length) 3, .fn (.func 144) [] []]]) Z ?_
   refine S Z (WO.nil ?_)
   obtain rfl := Oi h18
   refine cutN ?_
   refine Le.trans (Le.anyC (i := 5) (m := 1) Z) ?_
   exact Lr [0, 1, 2, 5, 3]
  ·obtain ⟨rfl, rfl⟩ := h20
   refine aV (.tup [.agg [.osl 3 0 4 3, .fn (.func 144) [] []], .bool true]) [.cells 81 (Fact.c ({ Crew := a1.Crew, No := a1.No, At := a1.At, Kind := a3.Kind, Starter := a1.Starter, Read := a1.Read, Beacon := a1.Beacon, Sync := a1.Sync, Hand := a1.Hand, Silence := a1.Silence, Pair := a1.Pair, Report := a1.Report, Protest := a1.Protest, Ruling := a1.Ruling, Appeal := a1.Appeal, Void := a1.Void : Fact })), .cells 3 [.int .i64 a2], .cells 81 (Fact.c a3), .rowr 181 3 [[.ptr 0 12, .int .i64 0, .int .i64 39], [.ptr 0 13, .int .i64 0, .int .i64 255], [.ptr 0 14, .int .i64 0, .int .i64 1048576], [.ptr 0 15, .int .i64 (-1099511627776), .int .i64 1099511627776]], .cells 171 [.osl 3 0 4 3, .fn (.func 144) [] []]] Z Z ?_
   refine WO.le (Le.toEnts (i := 3) (b1 := 0) (b2 := 1) (l := [⟨false, 12, 0, 39⟩, ⟨false, 13, 0, 255⟩, ⟨false, 14, 0, 1048576⟩, ⟨false, 15, (-1099511627776), 1099511627776⟩]) Z Z) ?_
   refine WO.atH (H := [.cells 81 (Fact.c ({ Crew := a1.Crew, No := a1.No, At := a1.At, Kind := a3.Kind, Starter := a1.Starter, Read := a1.Read, Beacon := a1.Beacon, Sync := a1.Sync, Hand := a1.Hand, Silence := a1.Silence, Pair := a1.Pair, Report := a1.Report, Protest := a1.Protest, Ruling := a1.Ruling, Appeal := a1.Appeal, Void := a1.Void : Fact })), .cells 3 [.int .i64 a2], .cells 81 (Fact.c a3), .ents 181 0 1 ([⟨false, 12, 0, 39⟩, ⟨false, 13, 0, 255⟩, ⟨false, 14, 0, 1048576⟩, ⟨false, 15, (-1099511627776), 1099511627776⟩] : List Ent), .cells 171 [.osl 3 0 4 3, .fn (.func 144) [] []]]) Z ?_
   refine S Z (S Z (S Z ?_))
   refine vH (OpH.allocZ (v := (.agg [.nils, .nilf])) zeroValue171 (ZR.agg (ZL.cons ZR.nils (ZL.cons ZR.nilf ZL.nil)))) ?_
   refine aV (.ptr 5 0) [_, _, _, _, _, .cells 171 [.nils, .nilf]] Z Z ?_
   refine vU (OpU.store Z Z Z sizeOf171 Z Z Z Z Z Z Z) ?_
   refine WO.atH (H := [_, _, _, _, _, .cells 171 [.osl 3 0 (([⟨false, 12, 0, 39⟩, ⟨false, 13, 0, 255⟩, ⟨false, 14, 0, 1048576⟩, ⟨false, 15, (-1099511627776), 1099511627776⟩] : List Ent).length) 3, .fn (.func 144) [] []]]) Z ?_
   refine S Z (WO.nil ?_)
   obtain rfl := Oi h18
   refine cutN ?_
   refine Le.trans (Le.anyC (i := 5) (m := 1) Z) ?_
   exact Lr [0, 1, 2, 5, 3]
  ·obtain ⟨rfl, rfl⟩ := h20
   refine aV (.tup [.agg [.osl 3 0 5 3, .fn (.func 144) [] []], .bool true]) [.cells 81 (Fact.c ({ Crew := a1.Crew, No := a1.No, At := a1.At, Kind := a3.Kind, Starter := a1.Starter, Read := a1.Read, Beacon := a1.Beacon, Sync := a1.Sync, Hand := a1.Hand, Silence := a1.Silence, Pair := a1.Pair, Report := a1.Report, Protest := a1.Protest, Ruling := a1.Ruling, Appeal := a1.Appeal, Void := a1.Void : Fact })), .cells 3 [.int .i64 a2], .cells 81 (Fact.c a3), .rowr 181 3 [[.ptr 0 16, .int .i64 0, .int .i64 39], [.ptr 0 17, .int .i64 0, .int .i64 255], [.ptr 0 18, .int .i64 (-1099511627776), .int .i64 1099511627776], [.ptr 0 19, .int .i64 (-1099511627776), .int .i64 1099511627776], [.ptr 0 20, .int .i64 0, .int .i64 1099511627776]], .cells 171 [.osl 3 0 5 3, .fn (.func 144) [] []]] Z Z ?_
   refine WO.le (Le.toEnts (i := 3) (b1 := 0) (b2 := 1) (l := [⟨false, 16, 0, 39⟩, ⟨false, 17, 0, 255⟩, ⟨false, 18, (-1099511627776), 1099511627776⟩, ⟨false, 19, (-1099511627776), 1099511627776⟩, ⟨false, 20, 0, 1099511627776⟩]) Z Z) ?_
   refine WO.atH (H := [.cells 81 (Fact.c ({ Crew := a1.Crew, No := a1.No, At := a1.At, Kind := a3.Kind, Starter := a1.Starter, Read := a1.Read, Beacon := a1.Beacon, Sync := a1.Sync, Hand := a1.Hand, Silence := a1.Silence, Pair := a1.Pair, Report := a1.Report, Protest := a1.Protest, Ruling := a1.Ruling, Appeal := a1.Appeal, Void := a1.Void : Fact })), .cells 3 [.int .i64 a2], .cells 81 (Fact.c a3), .ents 181 0 1 ([⟨false, 16, 0, 39⟩, ⟨false, 17, 0, 255⟩, ⟨false, 18, (-1099511627776), 1099511627776⟩, ⟨false, 19, (-1099511627776), 1099511627776⟩, ⟨false, 20, 0, 1099511627776⟩] : List Ent), .cells 171 [.osl 3 0 5 3, .fn (.func 144) [] []]]) Z ?_
   refine S Z (S Z (S Z ?_))
   refine vH (OpH.allocZ (v := (.agg [.nils, .nilf])) zeroValue171 (ZR.agg (ZL.cons ZR.nils (ZL.cons ZR.nilf ZL.nil)))) ?_
   refine aV (.ptr 5 0) [_, _, _, _, _, .cells 171 [.nils, .nilf]] Z Z ?_
   refine vU (OpU.store Z Z Z sizeOf171 Z Z Z Z Z Z Z) ?_
   refine WO.atH (H := [_, _, _, _, _, .cells 171 [.osl 3 0 (([⟨false, 16, 0, 39⟩, ⟨false, 17, 0, 255⟩, ⟨false, 18, (-1099511627776), 1099511627776⟩, ⟨false, 19, (-1099511627776), 1099511627776⟩, ⟨false, 20, 0, 1099511627776⟩] : List Ent).length) 3, .fn (.func 144) [] []]]) Z ?_
   refine S Z (WO.nil ?_)
   obtain rfl := Oi h18
   refine cutN ?_
   refine Le.trans (Le.anyC (i := 5) (m := 1) Z) ?_
   exact Lr [0, 1, 2, 5, 3]
  ·obtain ⟨rfl, rfl⟩ := h20
   refine aV (.tup [.agg [.osl 3 0 8 3, .fn (.func 145) [] [.ptr 4 0]], .bool true]) [.cells 81 (Fact.c ({ Crew := a1.Crew, No := a1.No, At := a1.At, Kind := a3.Kind, Starter := a1.Starter, Read := a1.Read, Beacon := a1.Beacon, Sync := a1.Sync, Hand := a1.Hand, Silence := a1.Silence, Pair := a1.Pair, Report := a1.Report, Protest := a1.Protest, Ruling := a1.Ruling, Appeal := a1.Appeal, Void := a1.Void : Fact })), .cells 3 [.int .i64 a2], .cells 81 (Fact.c a3), .rowr 181 3 [[.ptr 0 21, .int .i64 0, .int .i64 39], [.ptr 0 22, .int .i64 0, .int .i64 255], [.ptr 0 23, .int .i64 (-1099511627776), .int .i64 1099511627776], [.ptr 0 24, .int .i64 0, .int .i64 39], [.ptr 0 25, .int .i64 0, .int .i64 255], [.ptr 0 26, .int .i64 (-1099511627776), .int .i64 1099511627776], [.ptr 0 27, .int .i64 (-1099511627776), .int .i64 1099511627776], [.ptr 0 28, .int .i64 (-1099511627776), .int .i64 1099511627776]], .cells 238 [.ptr 0 21], .cells 171 [.osl 3 0 8 3, .fn (.func 145) [] [.ptr 4 0]]] Z Z ?_
   refine WO.le (Le.toEnts (i := 3) (b1 := 0) (b2 := 1) (l := [⟨false, 21, 0, 39⟩, ⟨false, 22, 0, 255⟩, ⟨false, 23, (-1099511627776), 1099511627776⟩, ⟨false, 24, 0, 39⟩, ⟨false, 25, 0, 255⟩, ⟨false, 26, (-1099511627776), 1099511627776⟩, ⟨false, 27, (-1099511627776), 1099511627776⟩, ⟨false, 28, (-1099511627776), 1099511627776⟩]) Z Z) ?_
   refine WO.atH (H := [.cells 81 (Fact.c ({ Crew := a1.Crew, No := a1.No, At := a1.At, Kind := a3.Kind, Starter := a1.Starter, Read := a1.Read, Beacon := a1.Beacon, Sync := a1.Sync, Hand := a1.Hand, Silence := a1.Silence, Pair := a1.Pair, Report := a1.Report, Protest := a1.Protest, Ruling := a1.Ruling, Appeal := a1.Appeal, Void := a1.Void : Fact })), .cells 3 [.int .i64 a2], .cells 81 (Fact.c a3), .ents 181 0 1 ([⟨false, 21, 0, 39⟩, ⟨false, 22, 0, 255⟩, ⟨false, 23, (-1099511627776), 1099511627776⟩, ⟨false, 24, 0, 39⟩, ⟨false, 25, 0, 255⟩, ⟨false, 26, (-1099511627776), 1099511627776⟩, ⟨false, 27, (-1099511627776), 1099511627776⟩, ⟨false, 28, (-1099511627776), 1099511627776⟩] : List Ent), .cells 238 [.ptr 0 21], .cells 171 [.osl 3 0 8 3, .fn (.func 145) [] [.ptr 4 0]]]) Z ?_
   refine S Z (S Z (S Z ?_))
   refine vH (OpH.allocZ (v := (.agg [.nils, .nilf])) zeroValue171 (ZR.agg (ZL.cons ZR.nils (ZL.cons ZR.nilf ZL.nil)))) ?_
   refine aV (.ptr 6 0) [_, _, _, _, _, _, .cells 171 [.nils, .nilf]] Z Z ?_
   refine vU (OpU.store Z Z Z sizeOf171 Z Z Z Z Z Z Z) ?_
   refine WO.atH (H := [_, _, _, _, _, _, .cells 171 [.osl 3 0 (([⟨false, 21, 0, 39⟩, ⟨false, 22, 0, 255⟩, ⟨false, 23, (-1099511627776), 1099511627776⟩, ⟨false, 24, 0, 39⟩, ⟨false, 25, 0, 255⟩, ⟨false, 26, (-1099511627776), 1099511627776⟩, ⟨false, 27, (-1099511627776), 1099511627776⟩, ⟨false, 28, (-1099511627776), 1099511627776⟩] : List Ent).length) 3, .fn (.func 145) [] [.ptr 4 0]]]) Z ?_
   refine S Z (WO.nil ?_)
   obtain rfl := Oi h18
   refine cutN ?_
   refine Le.trans (Le.anyC (i := 6) (m := 1) Z) ?_
   exact Lr [0, 1, 2, 6, 3]
  ·obtain ⟨rfl, rfl⟩ := h20
   refine aV (.tup [.agg [.osl 3 0 4 3, .fn (.func 146) [] [.ptr 4 0]], .bool true]) [.cells 81 (Fact.c ({ Crew := a1.Crew, No := a1.No, At := a1.At, Kind := a3.Kind, Starter := a1.Starter, Read := a1.Read, Beacon := a1.Beacon, Sync := a1.Sync, Hand := a1.Hand, Silence := a1.Silence, Pair := a1.Pair, Report := a1.Report, Protest := a1.Protest, Ruling := a1.Ruling, Appeal := a1.Appeal, Void := a1.Void : Fact })), .cells 3 [.int .i64 a2], .cells 81 (Fact.c a3), .rowr 181 3 [[.ptr 0 29, .int .i64 1, .int .i64 9999], [.ptr 0 30, .int .i64 0, .int .i64 255], [.ptr 0 31, .int .i64 (-1099511627776), .int .i64 1099511627776], [.ptr 0 32, .int .i64 (-1099511627776), .int .i64 1099511627776]], .cells 239 [.ptr 0 29], .cells 171 [.osl 3 0 4 3, .fn (.func 146) [] [.ptr 4 0]]] Z Z ?_
   refine WO.le (Le.toEnts (i := 3) (b1 := 0) (b2 := 1) (l := [⟨false, 29, 1, 9999⟩, ⟨false, 30, 0, 255⟩, ⟨false, 31, (-1099511627776), 1099511627776⟩, ⟨false, 32, (-1099511627776), 1099511627776⟩]) Z Z) ?_
   refine WO.atH (H := [.cells 81 (Fact.c ({ Crew := a1.Crew, No := a1.No, At := a1.At, Kind := a3.Kind, Starter := a1.Starter, Read := a1.Read, Beacon := a1.Beacon, Sync := a1.Sync, Hand := a1.Hand, Silence := a1.Silence, Pair := a1.Pair, Report := a1.Report, Protest := a1.Protest, Ruling := a1.Ruling, Appeal := a1.Appeal, Void := a1.Void : Fact })), .cells 3 [.int .i64 a2], .cells 81 (Fact.c a3), .ents 181 0 1 ([⟨false, 29, 1, 9999⟩, ⟨false, 30, 0, 255⟩, ⟨false, 31, (-1099511627776), 1099511627776⟩, ⟨false, 32, (-1099511627776), 1099511627776⟩] : List Ent), .cells 239 [.ptr 0 29], .cells 171 [.osl 3 0 4 3, .fn (.func 146) [] [.ptr 4 0]]]) Z ?_
   refine S Z (S Z (S Z ?_))
   refine vH (OpH.allocZ (v := (.agg [.nils, .nilf])) zeroValue171 (ZR.agg (ZL.cons ZR.nils (ZL.cons ZR.nilf ZL.nil)))) ?_
   refine aV (.ptr 6 0) [_, _, _, _, _, _, .cells 171 [.nils, .nilf]] Z Z ?_
   refine vU (OpU.store Z Z Z sizeOf171 Z Z Z Z Z Z Z) ?_
   refine WO.atH (H := [_, _, _, _, _, _, .cells 171 [.osl 3 0 (([⟨false, 29, 1, 9999⟩, ⟨false, 30, 0, 255⟩, ⟨false, 31, (-1099511627776), 1099511627776⟩, ⟨false, 32, (-1099511627776), 1099511627776⟩] : List Ent).length) 3, .fn (.func 146) [] [.ptr 4 0]]]) Z ?_
   refine S Z (WO.nil ?_)
   obtain rfl := Oi h18
   refine cutN ?_
   refine Le.trans (Le.anyC (i := 6) (m := 1) Z) ?_
   exact Lr [0, 1, 2, 6, 3]
  ·obtain ⟨rfl, rfl⟩ := h20
   refine aV (.tup [.agg [.osl 3 0 4 3, .fn (.func 147) [] [.ptr 4 0]], .bool true]) [.cells 81 (Fact.c ({ Crew := a1.Crew, No := a1.No, At := a1.At, Kind := a3.Kind, Starter := a1.Starter, Read := a1.Read, Beacon := a1.Beacon, Sync := a1.Sync, Hand := a1.Hand, Silence := a1.Silence, Pair := a1.Pair, Report := a1.Report, Protest := a1.Protest, Ruling := a1.Ruling, Appeal := a1.Appeal, Void := a1.Void : Fact })), .cells 3 [.int .i64 a2], .cells 81 (Fact.c a3), .rowr 181 3 [[.ptr 0 33, .int .i64 0, .int .i64 39], [.ptr 0 34, .int .i64 0, .int .i64 255], [.ptr 0 35, .int .i64 (-1099511627776), .int .i64 1099511627776], [.ptr 0 36, .int .i64 (-1099511627776), .int .i64 1099511627776]], .cells 240 [.ptr 0 33], .cells 171 [.osl 3 0 4 3, .fn (.func 147) [] [.ptr 4 0]]] Z Z ?_
   refine WO.le (Le.toEnts (i := 3) (b1 := 0) (b2 := 1) (l := [⟨false, 33, 0, 39⟩, ⟨false, 34, 0, 255⟩, ⟨false, 35, (-1099511627776), 1099511627776⟩, ⟨false, 36, (-1099511627776), 1099511627776⟩]) Z Z) ?_
   refine WO.atH (H := [.cells 81 (Fact.c ({ Crew := a1.Crew, No := a1.No, At := a1.At, Kind := a3.Kind, Starter := a1.Starter, Read := a1.Read, Beacon := a1.Beacon, Sync := a1.Sync, Hand := a1.Hand, Silence := a1.Silence, Pair := a1.Pair, Report := a1.Report, Protest := a1.Protest, Ruling := a1.Ruling, Appeal := a1.Appeal, Void := a1.Void : Fact })), .cells 3 [.int .i64 a2], .cells 81 (Fact.c a3), .ents 181 0 1 ([⟨false, 33, 0, 39⟩, ⟨false, 34, 0, 255⟩, ⟨false, 35, (-1099511627776), 1099511627776⟩, ⟨false, 36, (-1099511627776), 1099511627776⟩] : List Ent), .cells 240 [.ptr 0 33], .cells 171 [.osl 3 0 4 3, .fn (.func 147) [] [.ptr 4 0]]]) Z ?_
   refine S Z (S Z (S Z ?_))
   refine vH (OpH.allocZ (v := (.agg [.nils, .nilf])) zeroValue171 (ZR.agg (ZL.cons ZR.nils (ZL.cons ZR.nilf ZL.nil)))) ?_
   refine aV (.ptr 6 0) [_, _, _, _, _, _, .cells 171 [.nils, .nilf]] Z Z ?_
   refine vU (OpU.store Z Z Z sizeOf171 Z Z Z Z Z Z Z) ?_
   refine WO.atH (H := [_, _, _, _, _, _, .cells 171 [.osl 3 0 (([⟨false, 33, 0, 39⟩, ⟨false, 34, 0, 255⟩, ⟨false, 35, (-1099511627776), 1099511627776⟩, ⟨false, 36, (-1099511627776), 1099511627776⟩] : List Ent).length) 3, .fn (.func 147) [] [.ptr 4 0]]]) Z ?_
   refine S Z (WO.nil ?_)
   obtain rfl := Oi h18
   refine cutN ?_
   refine Le.trans (Le.anyC (i := 6) (m := 1) Z) ?_
   exact Lr [0, 1, 2, 6, 3]
  ·obtain ⟨rfl, rfl⟩ := h20
   refine aV (.tup [.agg [.osl 3 0 2 3, .fn (.func 148) [] [.ptr 4 0]], .bool true]) [.cells 81 (Fact.c ({ Crew := a1.Crew, No := a1.No, At := a1.At, Kind := a3.Kind, Starter := a1.Starter, Read := a1.Read, Beacon := a1.Beacon, Sync := a1.Sync, Hand := a1.Hand, Silence := a1.Silence, Pair := a1.Pair, Report := a1.Report, Protest := a1.Protest, Ruling := a1.Ruling, Appeal := a1.Appeal, Void := a1.Void : Fact })), .cells 3 [.int .i64 a2], .cells 81 (Fact.c a3), .rowr 181 3 [[.ptr 0 37, .int .i64 1, .int .i64 9999], [.ptr 0 38, .int .i64 1, .int .i64 9999]], .cells 241 [.ptr 0 37], .cells 171 [.osl 3 0 2 3, .fn (.func 148) [] [.ptr 4 0]]] Z Z ?_
   refine WO.le (Le.toEnts (i := 3) (b1 := 0) (b2 := 1) (l := [⟨false, 37, 1, 9999⟩, ⟨false, 38, 1, 9999⟩]) Z Z) ?_
   refine WO.atH (H := [.cells 81 (Fact.c ({ Crew := a1.Crew, No := a1.No, At := a1.At, Kind := a3.Kind, Starter := a1.Starter, Read := a1.Read, Beacon := a1.Beacon, Sync := a1.Sync, Hand := a1.Hand, Silence := a1.Silence, Pair := a1.Pair, Report := a1.Report, Protest := a1.Protest, Ruling := a1.Ruling, Appeal := a1.Appeal, Void := a1.Void : Fact })), .cells 3 [.int .i64 a2], .cells 81 (Fact.c a3), .ents 181 0 1 ([⟨false, 37, 1, 9999⟩, ⟨false, 38, 1, 9999⟩] : List Ent), .cells 241 [.ptr 0 37], .cells 171 [.osl 3 0 2 3, .fn (.func 148) [] [.ptr 4 0]]]) Z ?_
   refine S Z (S Z (S Z ?_))
   refine vH (OpH.allocZ (v := (.agg [.nils, .nilf])) zeroValue171 (ZR.agg (ZL.cons ZR.nils (ZL.cons ZR.nilf ZL.nil)))) ?_
   refine aV (.ptr 6 0) [_, _, _, _, _, _, .cells 171 [.nils, .nilf]] Z Z ?_
   refine vU (OpU.store Z Z Z sizeOf171 Z Z Z Z Z Z Z) ?_
   refine WO.atH (H := [_, _, _, _, _, _, .cells 171 [.osl 3 0 (([⟨false, 37, 1, 9999⟩, ⟨false, 38, 1, 9999⟩] : List Ent).length) 3, .fn (.func 148) [] [.ptr 4 0]]]) Z ?_
   refine S Z (WO.nil ?_)
   obtain rfl := Oi h18
   refine cutN ?_
   refine Le.trans (Le.anyC (i := 6) (m := 1) Z) ?_
   exact Lr [0, 1, 2, 6, 3]
  ·obtain ⟨rfl, rfl⟩ := h20
   refine aV (.tup [.agg [.osl 3 0 4 3, .fn (.func 144) [] []], .bool true]) [.cells 81 (Fact.c ({ Crew := a1.Crew, No := a1.No, At := a1.At, Kind := a3.Kind, Starter := a1.Starter, Read := a1.Read, Beacon := a1.Beacon, Sync := a1.Sync, Hand := a1.Hand, Silence := a1.Silence, Pair := a1.Pair, Report := a1.Report, Protest := a1.Protest, Ruling := a1.Ruling, Appeal := a1.Appeal, Void := a1.Void : Fact })), .cells 3 [.int .i64 a2], .cells 81 (Fact.c a3), .rowr 181 3 [[.ptr 0 39, .int .i64 1, .int .i64 1048576], [.ptr 0 40, .int .i64 1, .int .i64 9999], [.ptr 0 41, .int .i64 0, .int .i64 31], [.ptr 0 42, .int .i64 0, .int .i64 255]], .cells 171 [.osl 3 0 4 3, .fn (.func 144) [] []]] Z Z ?_
   refine WO.le (Le.toEnts (i := 3) (b1 := 0) (b2 := 1) (l := [⟨false, 39, 1, 1048576⟩, ⟨false, 40, 1, 9999⟩, ⟨false, 41, 0, 31⟩, ⟨false, 42, 0, 255⟩]) Z Z) ?_
   refine WO.atH (H := [.cells 81 (Fact.c ({ Crew := a1.Crew, No := a1.No, At := a1.At, Kind := a3.Kind, Starter := a1.Starter, Read := a1.Read, Beacon := a1.Beacon, Sync := a1.Sync, Hand := a1.Hand, Silence := a1.Silence, Pair := a1.Pair, Report := a1.Report, Protest := a1.Protest, Ruling := a1.Ruling, Appeal := a1.Appeal, Void := a1.Void : Fact })), .cells 3 [.int .i64 a2], .cells 81 (Fact.c a3), .ents 181 0 1 ([⟨false, 39, 1, 1048576⟩, ⟨false, 40, 1, 9999⟩, ⟨false, 41, 0, 31⟩, ⟨false, 42, 0, 255⟩] : List Ent), .cells 171 [.osl 3 0 4 3, .fn (.func 144) [] []]]) Z ?_
   refine S Z (S Z (S Z ?_))
   refine vH (OpH.allocZ (v := (.agg [.nils, .nilf])) zeroValue171 (ZR.agg (ZL.cons ZR.nils (ZL.cons ZR.nilf ZL.nil)))) ?_
   refine aV (.ptr 5 0) [_, _, _, _, _, .cells 171 [.nils, .nilf]] Z Z ?_
   refine vU (OpU.store Z Z Z sizeOf171 Z Z Z Z Z Z Z) ?_
   refine WO.atH (H := [_, _, _, _, _, .cells 171 [.osl 3 0 (([⟨false, 39, 1, 1048576⟩, ⟨false, 40, 1, 9999⟩, ⟨false, 41, 0, 31⟩, ⟨false, 42, 0, 255⟩] : List Ent).length) 3, .fn (.func 144) [] []]]) Z ?_
   refine S Z (WO.nil ?_)
   obtain rfl := Oi h18
   refine cutN ?_
   refine Le.trans (Le.anyC (i := 5) (m := 1) Z) ?_
   exact Lr [0, 1, 2, 5, 3]
  ·obtain ⟨rfl, rfl⟩ := h20
   refine aV (.tup [.agg [.osl 3 0 4 3, .fn (.func 144) [] []], .bool true]) [.cells 81 (Fact.c ({ Crew := a1.Crew, No := a1.No, At := a1.At, Kind := a3.Kind, Starter := a1.Starter, Read := a1.Read, Beacon := a1.Beacon, Sync := a1.Sync, Hand := a1.Hand, Silence := a1.Silence, Pair := a1.Pair, Report := a1.Report, Protest := a1.Protest, Ruling := a1.Ruling, Appeal := a1.Appeal, Void := a1.Void : Fact })), .cells 3 [.int .i64 a2], .cells 81 (Fact.c a3), .rowr 181 3 [[.ptr 0 43, .int .i64 1, .int .i64 1048576], [.ptr 0 44, .int .i64 0, .int .i64 9999], [.ptr 0 45, .int .i64 0, .int .i64 1125899906842624], [.ptr 0 46, .int .i64 0, .int .i64 1]], .cells 171 [.osl 3 0 4 3, .fn (.func 144) [] []]] Z Z ?_
   refine WO.le (Le.toEnts (i := 3) (b1 := 0) (b2 := 1) (l := [⟨false, 43, 1, 1048576⟩, ⟨false, 44, 0, 9999⟩, ⟨false, 45, 0, 1125899906842624⟩, ⟨false, 46, 0, 1⟩]) Z Z) ?_
   refine WO.atH (H := [.cells 81 (Fact.c ({ Crew := a1.Crew, No := a1.No, At := a1.At, Kind := a3.Kind, Starter := a1.Starter, Read := a1.Read, Beacon := a1.Beacon, Sync := a1.Sync, Hand := a1.Hand, Silence := a1.Silence, Pair := a1.Pair, Report := a1.Report, Protest := a1.Protest, Ruling := a1.Ruling, Appeal := a1.Appeal, Void := a1.Void : Fact })), .cells 3 [.int .i64 a2], .cells 81 (Fact.c a3), .ents 181 0 1 ([⟨false, 43, 1, 1048576⟩, ⟨false, 44, 0, 9999⟩, ⟨false, 45, 0, 1125899906842624⟩, ⟨false, 46, 0, 1⟩] : List Ent), .cells 171 [.osl 3 0 4 3, .fn (.func 144) [] []]]) Z ?_
   refine S Z (S Z (S Z ?_))
   refine vH (OpH.allocZ (v := (.agg [.nils, .nilf])) zeroValue171 (ZR.agg (ZL.cons ZR.nils (ZL.cons ZR.nilf ZL.nil)))) ?_
   refine aV (.ptr 5 0) [_, _, _, _, _, .cells 171 [.nils, .nilf]] Z Z ?_
   refine vU (OpU.store Z Z Z sizeOf171 Z Z Z Z Z Z Z) ?_
   refine WO.atH (H := [_, _, _, _, _, .cells 171 [.osl 3 0 (([⟨false, 43, 1, 1048576⟩, ⟨false, 44, 0, 9999⟩, ⟨false, 45, 0, 1125899906842624⟩, ⟨false, 46, 0, 1⟩] : List Ent).length) 3, .fn (.func 144) [] []]]) Z ?_
   refine S Z (WO.nil ?_)
   obtain rfl := Oi h18
   refine cutN ?_
   refine Le.trans (Le.anyC (i := 5) (m := 1) Z) ?_
   exact Lr [0, 1, 2, 5, 3]
  ·obtain ⟨rfl, rfl⟩ := h20
   refine aV (.tup [.agg [.osl 3 0 6 3, .fn (.func 144) [] []], .bool true]) [.cells 81 (Fact.c ({ Crew := a1.Crew, No := a1.No, At := a1.At, Kind := a3.Kind, Starter := a1.Starter, Read := a1.Read, Beacon := a1.Beacon, Sync := a1.Sync, Hand := a1.Hand, Silence := a1.Silence, Pair := a1.Pair, Report := a1.Report, Protest := a1.Protest, Ruling := a1.Ruling, Appeal := a1.Appeal, Void := a1.Void : Fact })), .cells 3 [.int .i64 a2], .cells 81 (Fact.c a3), .rowr 181 3 [[.ptr 0 47, .int .i64 1, .int .i64 1048576], [.ptr 0 48, .int .i64 1, .int .i64 2], [.ptr 0 49, .int .i64 1, .int .i64 5], [.ptr 0 50, .int .i64 x30.1, .int .i64 x30.2.1], [.ptr 0 51, .int .i64 x30.2.2.1, .int .i64 x30.2.2.2.1], [.ptr 0 52, .int .i64 x30.2.2.2.2.1, .int .i64 x30.2.2.2.2.2]], .cells 171 [.osl 3 0 6 3, .fn (.func 144) [] []]] Z Z ?_
   refine WO.le (Le.toEnts (i := 3) (b1 := 0) (b2 := 1) (l := [⟨false, 47, 1, 1048576⟩, ⟨false, 48, 1, 2⟩, ⟨false, 49, 1, 5⟩, ⟨false, 50, x30.1, x30.2.1⟩, ⟨false, 51, x30.2.2.1, x30.2.2.2.1⟩, ⟨false, 52, x30.2.2.2.2.1, x30.2.2.2.2.2⟩]) Z Z) ?_
   refine WO.atH (H := [.cells 81 (Fact.c ({ Crew := a1.Crew, No := a1.No, At := a1.At, Kind := a3.Kind, Starter := a1.Starter, Read := a1.Read, Beacon := a1.Beacon, Sync := a1.Sync, Hand := a1.Hand, Silence := a1.Silence, Pair := a1.Pair, Report := a1.Report, Protest := a1.Protest, Ruling := a1.Ruling, Appeal := a1.Appeal, Void := a1.Void : Fact })), .cells 3 [.int .i64 a2], .cells 81 (Fact.c a3), .ents 181 0 1 ([⟨false, 47, 1, 1048576⟩, ⟨false, 48, 1, 2⟩, ⟨false, 49, 1, 5⟩, ⟨false, 50, x30.1, x30.2.1⟩, ⟨false, 51, x30.2.2.1, x30.2.2.2.1⟩, ⟨false, 52, x30.2.2.2.2.1, x30.2.2.2.2.2⟩] : List Ent), .cells 171 [.osl 3 0 6 3, .fn (.func 144) [] []]]) Z ?_
   refine S Z (S Z (S Z ?_))
   refine vH (OpH.allocZ (v := (.agg [.nils, .nilf])) zeroValue171 (ZR.agg (ZL.cons ZR.nils (ZL.cons ZR.nilf ZL.nil)))) ?_
   refine aV (.ptr 5 0) [_, _, _, _, _, .cells 171 [.nils, .nilf]] Z Z ?_
   refine vU (OpU.store Z Z Z sizeOf171 Z Z Z Z Z Z Z) ?_
   refine WO.atH (H := [_, _, _, _, _, .cells 171 [.osl 3 0 (([⟨false, 47, 1, 1048576⟩, ⟨false, 48, 1, 2⟩, ⟨false, 49, 1, 5⟩, ⟨false, 50, x30.1, x30.2.1⟩, ⟨false, 51, x30.2.2.1, x30.2.2.2.1⟩, ⟨false, 52, x30.2.2.2.2.1, x30.2.2.2.2.2⟩] : List Ent).length) 3, .fn (.func 144) [] []]]) Z ?_
   refine S Z (WO.nil ?_)
   obtain rfl := Oi h18
   refine cutN ?_
   refine Le.trans (Le.anyC (i := 5) (m := 1) Z) ?_
   exact Lr [0, 1, 2, 5, 3]
  ·obtain ⟨rfl, rfl⟩ := h20
   refine aV (.tup [.agg [.osl 3 0 2 3, .fn (.func 144) [] []], .bool true]) [.cells 81 (Fact.c ({ Crew := a1.Crew, No := a1.No, At := a1.At, Kind := a3.Kind, Starter := a1.Starter, Read := a1.Read, Beacon := a1.Beacon, Sync := a1.Sync, Hand := a1.Hand, Silence := a1.Silence, Pair := a1.Pair, Report := a1.Report, Protest := a1.Protest, Ruling := a1.Ruling, Appeal := a1.Appeal, Void := a1.Void : Fact })), .cells 3 [.int .i64 a2], .cells 81 (Fact.c a3), .rowr 181 3 [[.ptr 0 53, .int .i64 1, .int .i64 1048576], [.ptr 1 0, .int .i64 0, .int .i64 1]], .cells 171 [.osl 3 0 2 3, .fn (.func 144) [] []]] Z Z ?_
   refine WO.le (Le.toEnts (i := 3) (b1 := 0) (b2 := 1) (l := [⟨false, 53, 1, 1048576⟩, ⟨true, 0, 0, 1⟩]) Z Z) ?_
   refine WO.atH (H := [.cells 81 (Fact.c ({ Crew := a1.Crew, No := a1.No, At := a1.At, Kind := a3.Kind, Starter := a1.Starter, Read := a1.Read, Beacon := a1.Beacon, Sync := a1.Sync, Hand := a1.Hand, Silence := a1.Silence, Pair := a1.Pair, Report := a1.Report, Protest := a1.Protest, Ruling := a1.Ruling, Appeal := a1.Appeal, Void := a1.Void : Fact })), .cells 3 [.int .i64 a2], .cells 81 (Fact.c a3), .ents 181 0 1 ([⟨false, 53, 1, 1048576⟩, ⟨true, 0, 0, 1⟩] : List Ent), .cells 171 [.osl 3 0 2 3, .fn (.func 144) [] []]]) Z ?_
   refine S Z (S Z (S Z ?_))
   refine vH (OpH.allocZ (v := (.agg [.nils, .nilf])) zeroValue171 (ZR.agg (ZL.cons ZR.nils (ZL.cons ZR.nilf ZL.nil)))) ?_
   refine aV (.ptr 5 0) [_, _, _, _, _, .cells 171 [.nils, .nilf]] Z Z ?_
   refine vU (OpU.store Z Z Z sizeOf171 Z Z Z Z Z Z Z) ?_
   refine WO.atH (H := [_, _, _, _, _, .cells 171 [.osl 3 0 (([⟨false, 53, 1, 1048576⟩, ⟨true, 0, 0, 1⟩] : List Ent).length) 3, .fn (.func 144) [] []]]) Z ?_
   refine S Z (WO.nil ?_)
   obtain rfl := Oi h18
   refine cutN ?_
   refine Le.trans (Le.anyC (i := 5) (m := 1) Z) ?_
   exact Lr [0, 1, 2, 5, 3]
  ·obtain ⟨rfl, rfl⟩ := h20
   refine aV (.tup [.agg [.nils, .fn (.func 144) [] []], .bool true]) [.cells 81 (Fact.c ({ Crew := a1.Crew, No := a1.No, At := a1.At, Kind := a3.Kind, Starter := a1.Starter, Read := a1.Read, Beacon := a1.Beacon, Sync := a1.Sync, Hand := a1.Hand, Silence := a1.Silence, Pair := a1.Pair, Report := a1.Report, Protest := a1.Protest, Ruling := a1.Ruling, Appeal := a1.Appeal, Void := a1.Void : Fact })), .cells 3 [.int .i64 a2], .cells 81 (Fact.c a3), .cells 171 [.nils, .fn (.func 144) [] []]] Z Z ?_
   refine S Z (S Z (S Z ?_))
   refine vH (OpH.allocZ (v := (.agg [.nils, .nilf])) zeroValue171 (ZR.agg (ZL.cons ZR.nils (ZL.cons ZR.nilf ZL.nil)))) ?_
   refine aV (.ptr 4 0) [_, _, _, _, .cells 171 [.nils, .nilf]] Z Z ?_
   refine vU (OpU.store Z Z Z sizeOf171 Z Z Z Z Z Z Z) ?_
   refine WO.atH (H := [_, _, _, _, .cells 171 [.nils, .fn (.func 144) [] []]]) Z ?_
   refine S Z (WO.nil ?_)
   obtain rfl := Oi h18
   refine cutN ?_
   refine Le.trans (Le.anyC (i := 4) (m := 1) Z) ?_
   refine Le.trans (Le.phantomE (i := 4) (m := 0) (t := 181) (b1 := 0) (b2 := 1) Z Z Z) ?_
   exact Lr [0, 1, 2, 4, 5]
  ·obtain ⟨rfl, rfl⟩ := h20
   refine aV (.tup [.agg [.osl 3 0 2 3, .fn (.func 144) [] []], .bool true]) [.cells 81 (Fact.c ({ Crew := a1.Crew, No := a1.No, At := a1.At, Kind := a3.Kind, Starter := a1.Starter, Read := a1.Read, Beacon := a1.Beacon, Sync := a1.Sync, Hand := a1.Hand, Silence := a1.Silence, Pair := a1.Pair, Report := a1.Report, Protest := a1.Protest, Ruling := a1.Ruling, Appeal := a1.Appeal, Void := a1.Void : Fact })), .cells 3 [.int .i64 a2], .cells 81 (Fact.c a3), .rowr 181 3 [[.ptr 0 55, .int .i64 0, .int .i64 31], [.ptr 0 56, .int .i64 1, .int .i64 1048576]], .cells 171 [.osl 3 0 2 3, .fn (.func 144) [] []]] Z Z ?_
   refine WO.le (Le.toEnts (i := 3) (b1 := 0) (b2 := 1) (l := [⟨false, 55, 0, 31⟩, ⟨false, 56, 1, 1048576⟩]) Z Z) ?_
   refine WO.atH (H := [.cells 81 (Fact.c ({ Crew := a1.Crew, No := a1.No, At := a1.At, Kind := a3.Kind, Starter := a1.Starter, Read := a1.Read, Beacon := a1.Beacon, Sync := a1.Sync, Hand := a1.Hand, Silence := a1.Silence, Pair := a1.Pair, Report := a1.Report, Protest := a1.Protest, Ruling := a1.Ruling, Appeal := a1.Appeal, Void := a1.Void : Fact })), .cells 3 [.int .i64 a2], .cells 81 (Fact.c a3), .ents 181 0 1 ([⟨false, 55, 0, 31⟩, ⟨false, 56, 1, 1048576⟩] : List Ent), .cells 171 [.osl 3 0 2 3, .fn (.func 144) [] []]]) Z ?_
   refine S Z (S Z (S Z ?_))
   refine vH (OpH.allocZ (v := (.agg [.nils, .nilf])) zeroValue171 (ZR.agg (ZL.cons ZR.nils (ZL.cons ZR.nilf ZL.nil)))) ?_
   refine aV (.ptr 5 0) [_, _, _, _, _, .cells 171 [.nils, .nilf]] Z Z ?_
   refine vU (OpU.store Z Z Z sizeOf171 Z Z Z Z Z Z Z) ?_
   refine WO.atH (H := [_, _, _, _, _, .cells 171 [.osl 3 0 (([⟨false, 55, 0, 31⟩, ⟨false, 56, 1, 1048576⟩] : List Ent).length) 3, .fn (.func 144) [] []]]) Z ?_
   refine S Z (WO.nil ?_)
   obtain rfl := Oi h18
   refine cutN ?_
   refine Le.trans (Le.anyC (i := 5) (m := 1) Z) ?_
   exact Lr [0, 1, 2, 5, 3]
  ·obtain ⟨rfl, rfl⟩ := h20
   refine aV (.tup [.agg [.nils, .nilf], .bool false]) [.cells 81 (Fact.c ({ Crew := a1.Crew, No := a1.No, At := a1.At, Kind := a3.Kind, Starter := a1.Starter, Read := a1.Read, Beacon := a1.Beacon, Sync := a1.Sync, Hand := a1.Hand, Silence := a1.Silence, Pair := a1.Pair, Report := a1.Report, Protest := a1.Protest, Ruling := a1.Ruling, Appeal := a1.Appeal, Void := a1.Void : Fact })), .cells 3 [.int .i64 a2], .cells 81 (Fact.c a3), .cells 171 [.nils, .nilf]] Z Z ?_
   refine S Z (S Z (S Z ?_))
   refine vH (OpH.allocZ (v := (.agg [.nils, .nilf])) zeroValue171 (ZR.agg (ZL.cons ZR.nils (ZL.cons ZR.nilf ZL.nil)))) ?_
   refine aV (.ptr 4 0) [_, _, _, _, .cells 171 [.nils, .nilf]] Z Z ?_
   refine vU (OpU.store Z Z Z sizeOf171 Z Z Z Z Z Z Z) ?_
   refine WO.atH (H := [_, _, _, _, _]) Z ?_
   refine S Z (WO.nil ?_)
   obtain rfl := Oi h18
   refine cutN ?_
   refine Le.trans (Le.anyC (i := 4) (m := 1) Z) ?_
   refine Le.trans (Le.phantomE (i := 4) (m := 0) (t := 181) (b1 := 0) (b2 := 1) Z Z Z) ?_
   exact Lr [0, 1, 2, 4, 5]
 refine seqN (TC.le hle (TC.seq ?_))
 obtain ⟨r35, hr35, h⟩ := bnd h
 refine TC.draws 4 0 [19, 20, 21, 22] [false, true, false, false] [[], [], [], []] [[], [1]] [[(0, 0), (1, 1)], [(0, 1)], [(0, 0), (1, 1)], [(0, 0), (1, 1)]] [.ptr 0 0, .osl 5 0 4 3, .ptr 3 0, .osl 4 0 b17.length 3] [[.cells 81 (Fact.c ({ Crew := a1.Crew, No := a1.No, At := a1.At, Kind := a3.Kind, Starter := a1.Starter, Read := a1.Read, Beacon := a1.Beacon, Sync := a1.Sync, Hand := a1.Hand, Silence := a1.Silence, Pair := a1.Pair, Report := a1.Report, Protest := a1.Protest, Ruling := a1.Ruling, Appeal := a1.Appeal, Void := a1.Void : Fact })), .cells 3 [.int .i64 a2], .cells 81 (Fact.c a3), .cells 171 [.osl 4 0 b17.length 3, .any], .ents 181 0 1 b17], [.cells 81 (Fact.c ({ Crew := a1.Crew, No := a1.No, At := a1.At, Kind := a3.Kind, Starter := a1.Starter, Read := a1.Read, Beacon := a1.Beacon, Sync := a1.Sync, Hand := a1.Hand, Silence := a1.Silence, Pair := a1.Pair, Report := a1.Report, Protest := a1.Protest, Ruling := a1.Ruling, Appeal := a1.Appeal, Void := a1.Void : Fact })), .cells 3 [.int .i64 a2], .cells 81 (Fact.c a3), .cells 171 [.osl 4 0 b17.length 3, .any], .ents 181 0 1 b17, .rowr 181 3 [[.ptr 0 3, .int .i64 1, .int .i64 13], [.ptr 0 0, .int .i64 0, .int .i64 31], [.ptr 0 1, .int .i64 1, .int .i64 1048576], [.ptr 0 2, .int .i64 0, .int .i64 1099511627776]]]] ([.cells 81 (Fact.c ({ Crew := a1.Crew, No := a1.No, At := a1.At, Kind := a3.Kind, Starter := a1.Starter, Read := a1.Read, Beacon := a1.Beacon, Sync := a1.Sync, Hand := a1.Hand, Silence := a1.Silence, Pair := a1.Pair, Report := a1.Report, Protest := a1.Protest, Ruling := a1.Ruling, Appeal := a1.Appeal, Void := a1.Void : Fact })), .cells 3 [.int .i64 a2], .cells 81 (Fact.c a3), .cells 171 [.osl 4 0 b17.length 3, .any], .ents 181 0 1 b17, .rowr 181 3 [[.ptr 0 3, .int .i64 1, .int .i64 13], [.ptr 0 0, .int .i64 0, .int .i64 31], [.ptr 0 1, .int .i64 1, .int .i64 1048576], [.ptr 0 2, .int .i64 0, .int .i64 1099511627776]]]) draws Z Z Z Z Z Z Z ?_ Z ?_
 ·refine OblM.cons ?_ (OblM.cons ?_ (OblM.cons ?_ (OblM.cons ?_ (OblM.nil))))
  ·refine OblM.stC ?_ (OblM.stC ?_ (OblM.st0))
   ·refine Om Z (sO 0 sN) ?_
    exact S Z Wp
   ·refine Om Z (sO 0 sN) ?_
    exact S Z Wp
  ·refine OblM.stC ?_ (OblM.st0)
   ·refine Om1 Z (sD 0 sN) ?_
    refine WO.callD [0] (OpC.fn call84 Z Z Z) (k_ae _ _ _ hr35) ?_
    rintro _ _ ⟨rfl, rfl⟩
    refine aV (.osl 5 0 4 3) [_, _, _, _, _, .rowr 181 3 [[.ptr 0 3, .int .i64 1, .int .i64 13], [.ptr 0 0, .int .i64 0, .int .i64 31], [.ptr 0 1, .int .i64 1, .int .i64 1048576], [.ptr 0 2, .int .i64 0, .int .i64 1099511627776]]] Z Z ?_
    exact Wp
  ·refine OblM.stC ?_ (OblM.stC ?_ (OblM.st0))
   ·refine Om Z (sO 6 sN) ?_
    exact Fp fa_171_0 Z Wp
   ·refine Om Z (sO 6 sN) ?_
    exact Fp fa_171_0 Z Wp
  ·refine OblM.stC ?_ (OblM.stC ?_ (OblM.st0))
   ·refine Om Z (sD 2 sN) ?_
    exact Ld isAgg169 Z Wp
   ·refine Om Z (sD 2 sN) ?_
    exact Ld isAgg169 Z Wp
 refine WO.le (Le.toEnts (i := 5) (b1 := 0) (b2 := 1) (l := [⟨false, 3, 1, 13⟩, ⟨false, 0, 0, 31⟩, ⟨false, 1, 1, 1048576⟩, ⟨false, 2, 0, 1099511627776⟩]) Z Z) ?_
 refine WO.atH (H := [.cells 81 (Fact.c ({ Crew := a1.Crew, No := a1.No, At := a1.At, Kind := a3.Kind, Starter := a1.Starter, Read := a1.Read, Beacon := a1.Beacon, Sync := a1.Sync, Hand := a1.Hand, Silence := a1.Silence, Pair := a1.Pair, Report := a1.Report, Protest := a1.Protest, Ruling := a1.Ruling, Appeal := a1.Appeal, Void := a1.Void : Fact })), .cells 3 [.int .i64 a2], .cells 81 (Fact.c a3), .cells 171 [.osl 4 0 b17.length 3, .any], .ents 181 0 1 b17, .ents 181 0 1 ([⟨false, 3, 1, 13⟩, ⟨false, 0, 0, 31⟩, ⟨false, 1, 1, 1048576⟩, ⟨false, 2, 0, 1099511627776⟩] : List Ent)]) Z ?_
 refine Bd h fun l36 hl36 h => ?_
 refine vH (OpH.appE' (i := 5) (j := 4) hl36 el_169 runUnderlying169 Z) ?_
 refine aV (.osl 6 0 l36.length 3) [_, _, _, _, _, .dead, .ents 181 0 1 l36] Z Z ?_
 refine S Z (Nx (TC.ret ?_))
 obtain rfl := Oi h
 refine ⟨[(5, _)], _, _, ?_, ResOK.one Z Z, Z, Z⟩
 exact Lr [0, 1, 2, 6]
end Go.Sw
