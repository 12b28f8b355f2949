/- What the functions compute that ChipsExchange reaches, and that their calls refine it (part 2 of 5). -/
import Derived.Test.YtkjlhfabbbomjaaGreatDoorW18Ex1
set_option linter.unusedVariables false
set_option linter.unusedSimpArgs false
set_option maxRecDepth 100000
set_option maxHeartbeats 4000000
namespace Go.Sw
open Go.Proofs Tryz
def F_fy (n : Nat) (a1 : List Prize) (a2 : Course) (s13 : Int) : Option (Ctl Int (Ctl Unit Int)) :=
  (bif decide (s13 < (a1.length : Int)) then (idx a1 s13).bind fun x17 => (F_au n x17 a2).bind fun r18 => (bif r18 then some (.done (.done s13)) else some (.cont (IntKind.i64.wrap (s13 + 1)))) else some (.done (.cont ())))
def F_cc (n : Nat) (a1 : List Prize) (a2 : Course) : Option Int :=
  (iter (F_fy n a1 a2) n 0 : Option (Ctl Unit Int)).bind fun b10 => match b10 with | .cont sb10 => (some (-1)) | .done sb10 => some sb10
theorem k_cc (n : Nat) (a1 : List Prize) (a2 : Course) (r : Int) (h : F_cc n a1 a2 = some r) :
    C prog 216 [.rsl 4 (List.map Prize.c a1), .fn (.func 169) [] [.ptr 0 0]] [.cells 204 [.fn (.func 107) [] [.ptr 1 0]], .cells 33 (Course.c a2)] (fun a H => a = .int .i64 r ∧ H = [.cells 204 [.fn (.func 107) [] [.ptr 1 0]], .cells 33 (Course.c a2)]) := by
 refine C.of_body func216 Z Z Z ?_
 refine Rg (S Z (Nx (TC.seq (Rg (S Z (LnM runUnderlying28 Z (S Z (Nx (Bd h fun b10 h11 h => ?_)))))))))
 refine TC.cutE (b := b10) (fun sb10 => []) (fun sb10 => [.cells 204 [.fn (.func 107) [] [.ptr 1 0]], .cells 33 (Course.c a2)]) ?_ (fun sb10 env H hbe hle => ?_)
 ·refine TC.block ?_
  refine TC.loop (E := fun s13 => [(0, .rsl 4 (List.map Prize.c a1)), (1, .fn (.func 169) [] [.ptr 0 0]), (7, .int .i64 (a1.length : Int)), (8, .int .i64 s13)]) (Hp := fun s13 => [.cells 204 [.fn (.func 107) [] [.ptr 1 0]], .cells 33 (Course.c a2)]) h11 ?_ ?_
  ·exact Lr [0, 1]
  intro s13 d14 h15 hb12
  refine Rg (S Z (Nx (TC.seq (CnS Z h15 (fun hc16 h15 => ?_) (fun hc16 h15 => ?_)))))
  ·refine ExX (loopX h15 ?_)
   obtain rfl := hb12 _ (Oi h15).symm
   exact bloE (cutEN Z (Lr [0, 1]))
  refine SkN (TC.seq (TC.block (Rg (S Z (S Z (Nx (Rg (S Z (S Z (S Z (Bd h15 fun x17 hx17 h15 => Ix hx17 runUnderlying28 sizeOf160 Z ?_)))))))))))
  refine vX (.agg (Prize.c x17)) (OpV.loadA Z isAgg160 sizeOf160 Z Pts.rp Z Z) ?_
  refine Bd h15 fun r18 hr18 h15 => ?_
  refine WO.callD [0, 1] (OpC.clo call169 Z Z Z Z) (k_au _ _ _ _ hr18) ?_
  rintro _ _ ⟨rfl, rfl⟩
  refine aV (.bool r18) [_, _] Z Z ?_
  refine Nx (Cn Z h15 (fun hc19 h15 => ?_) (fun hc19 h15 => ?_))
  ·refine Rg (S Z (S Z (Nx (TC.ret (bloR (seqR (loopR h15 ?_)))))))
   obtain rfl := hb12 _ (Oi h15).symm
   refine bloR (cutER (seqR ?_))
   obtain rfl := Oi h
   refine ⟨[(4, _)], _, _, ?_, ResOK.one Z Z, Z, Z⟩
   exact Lr [0, 1]
  exact TC.skip (bloN (seqN (TC.region (S Z (S Z (WO.nil (loopN h15 (Lr [0, 1]))))))))
 subst hbe
 refine seqN (TC.le hle (Rg (S Z (Nx (TC.ret ?_)))))
 obtain rfl := Oi h
 refine ⟨[(4, _)], _, _, ?_, ResOK.one Z Z, Z, Z⟩
 exact Lr [0, 1]
def F_cr (n : Nat) (a1 : List Prize) (a2 : Course) : Option Bool :=
  (F_cc n a1 a2).bind fun r1 => some (decide (0 ≤ r1))
theorem k_cr (n : Nat) (a1 : List Prize) (a2 : Course) (r : Bool) (h : F_cr n a1 a2 = some r) :
    C prog 168 [.rsl 4 (List.map Prize.c a1), .fn (.func 169) [] [.ptr 0 0]] [.cells 204 [.fn (.func 107) [] [.ptr 1 0]], .cells 33 (Course.c a2)] (fun a H => a = .bool r ∧ H = [.cells 204 [.fn (.func 107) [] [.ptr 1 0]], .cells 33 (Course.c a2)]) := by
 refine C.of_body func168 Z Z Z ?_
 refine Rg (S Z (Nx (Rg (S Z (S Z (Bd h fun r1 hr1 h => ?_))))))
 refine WO.callD [0, 1] (OpC.fn call216 Z Z Z) (k_cc _ _ _ _ hr1) ?_
 rintro _ _ ⟨rfl, rfl⟩
 refine aV (.int .i64 r1) [_, _] Z Z ?_
 refine S Z (S Z (Nx (TC.ret ?_)))
 obtain rfl := Oi h
 refine ⟨[(4, _)], _, _, ?_, ResOK.one Z Z, Z, Z⟩
 exact Lr [0, 1]
def F_bw (n : Nat) (a1 : List Prize) (a2 : Course) : Option Bool :=
  (F_cr n a1 a2).bind fun r1 => some (!r1)
theorem k_bw (n : Nat) (a1 : List Prize) (a2 : Course) (r : Bool) (h : F_bw n a1 a2 = some r) :
    C prog 118 [.rsl 4 (List.map Prize.c a1), .fn (.func 107) [] [.ptr 0 0]] [.cells 33 (Course.c a2)] (fun a H => a = .bool r ∧ H = [.cells 33 (Course.c a2)]) := by
 refine C.of_body func118 Z Z Z ?_
 refine Rg ?_
 refine vH (OpH.box Z Z Z Z Z) ?_
 refine aV (.ptr 1 0) [_, .cells 204 [.fn (.func 107) [] [.ptr 0 0]]] Z Z ?_
 refine S Z (Nx (Rg (S Z ?_)))
 refine vX (.fn (.func 169) [] [.ptr 1 0]) (OpV.makeFunc (first := []) (cap := [.tmp 3]) Z Z Z) ?_
 refine Bd h fun r1 hr1 h => ?_
 refine WO.callD [1, 0] (OpC.fn call168 Z Z Z) (k_cr _ _ _ _ hr1) ?_
 rintro _ _ ⟨rfl, rfl⟩
 refine aV (.bool r1) [_, _] Z Z ?_
 refine S Z (S Z (Nx (TC.ret ?_)))
 obtain rfl := Oi h
 refine ⟨[(4, _)], _, _, ?_, ResOK.one Z Z, Z, Z⟩
 exact Lr [0]
def F_bg (n : Nat) (a1 : Prize) : Option Unit :=
  some ()
theorem k_bg (n : Nat) (a1 : Prize) (r : Unit) (h : F_bg n a1 = some r) :
    C prog 120 [.agg (Prize.c a1)] [] (fun a H => a = .agg [.int .i64 a1.Distance, .int .i64 a1.Category, .int .i64 a1.Rank] ∧ H = [.cells 218 [.int .i64 a1.Distance, .int .i64 a1.Category, .int .i64 a1.Rank]]) := by
 refine C.of_body func120 Z Z Z ?_
 refine Rg ?_
 refine vH (OpH.box Z Z Z Z Z) ?_
 refine aV (.ptr 0 0) [.cells 160 (Prize.c a1)] Z Z ?_
 refine vH (OpH.allocZ (v := (.agg [.int .i64 0, .int .i64 0, .int .i64 0])) zeroValue218 (ZR.agg (ZL.cons ZR.int (ZL.cons ZR.int (ZL.cons ZR.int ZL.nil))))) ?_
 refine aV (.ptr 1 0) [_, .cells 218 [.int .i64 0, .int .i64 0, .int .i64 0]] Z Z ?_
 refine Nx (Rg (Fp fa_160_0 Z (Ld isAgg3 Z (Fp fa_160_1 Z (Ld isAgg3 Z (Fp fa_160_2 Z (Ld isAgg3 Z ?_)))))))
 refine vX (.agg [.int .i64 a1.Distance, .int .i64 a1.Category, .int .i64 a1.Rank]) (OpV.build (zs := [.int .i64 0, .int .i64 0, .int .i64 0]) zeroValue218 (ZR.agg (ZL.cons ZR.int (ZL.cons ZR.int (ZL.cons ZR.int ZL.nil)))) pl_218) ?_
 refine vU (OpU.store Z Z Z sizeOf218 Z Z Z Z Z Z Z) ?_
 refine WO.atH (H := [_, .cells 218 [.int .i64 a1.Distance, .int .i64 a1.Category, .int .i64 a1.Rank]]) Z ?_
 refine Nx (TC.ret ?_)
 obtain rfl := Oi h
 refine ⟨[(2, .ptr 0 0)], [.cells 218 [.int .i64 a1.Distance, .int .i64 a1.Category, .int .i64 a1.Rank]], _, ?_, ResOK.single Z (ResAt.cellB isAgg218 sizeOf218 Z Z Z), Z, Z⟩
 exact Lr [1]
def F_gh (n : Nat) (a1 : List Prize) (s13 : (List (typing_place × Bool)) × Int) : Option (Ctl ((List (typing_place × Bool)) × Int) (List (typing_place × Bool))) :=
  (bif decide (s13.2 < (a1.length : Int)) then (idx a1 s13.2).bind fun x17 => (F_bg n x17).bind fun r18 => (some (mset s13.1 ({ distance := x17.Distance, category := x17.Category, rank := x17.Rank : typing_place }) true)).bind fun m19 => some (.cont (m19, IntKind.i64.wrap (s13.2 + 1))) else some (.done s13.1))
def F_bs (n : Nat) (a1 : List Prize) : Option Bool :=
  (iter (F_gh n a1) n ([], 0) : Option (List (typing_place × Bool))).bind fun b10 => some ((b10.length : Int) == (a1.length : Int))
theorem k_bs (n : Nat) (a1 : List Prize) (r : Bool) (h : F_bs n a1 = some r) :
    C prog 119 [.rsl 4 (List.map Prize.c a1), .fn (.func 120) [] []] [] (fun a H => a = .bool r ∧ H = []) := by
 refine C.of_body func119 Z Z Z ?_
 refine Rg (S Z (Nx (Rg ?_)))
 refine vH OpH.mkMap ?_
 refine aV (.map 0) [.map (menc (fun x => A.agg (typing_place.c x)) A.bool [])] Z Z ?_
 refine S Z (Nx (TC.seq (Rg (S Z (LnM runUnderlying28 Z (S Z (Nx (Bd h fun b10 h11 h => ?_))))))))
 refine TC.cut ([(0, .rsl 4 (List.map Prize.c a1)), (5, .map 0)]) ([.map (menc (fun x => A.agg (typing_place.c x)) A.bool b10)]) ?_ (fun env H hle => ?_)
 ·refine TC.block ?_
  refine TC.loop (E := fun s13 => [(0, .rsl 4 (List.map Prize.c a1)), (1, .fn (.func 120) [] []), (5, .map 0), (9, .rsl 4 (List.map Prize.c a1)), (10, .int .i64 (a1.length : Int)), (11, .int .i64 s13.2)]) (Hp := fun s13 => [.map (menc (fun x => A.agg (typing_place.c x)) A.bool s13.1)]) h11 ?_ ?_
  ·exact Lr [0]
  intro s13 d14 h15 hb12
  refine Rg (S Z (Nx (TC.seq (CnS Z h15 (fun hc16 h15 => ?_) (fun hc16 h15 => ?_)))))
  ·refine ExX (loopX h15 ?_)
   obtain rfl := hb12 _ (Oi h15).symm
   exact bloE (cutN (Lr [0]))
  refine SkN (TC.seq (TC.block (Rg (Bd h15 fun x17 hx17 h15 => Ix hx17 runUnderlying28 sizeOf160 Z ?_))))
  refine vX (.agg (Prize.c x17)) (OpV.loadA Z isAgg160 sizeOf160 Z Pts.rp Z Z) ?_
  refine vH (OpH.allocZ (v := (.agg [.int .i64 0, .int .i64 0, .int .i64 0, .int .i64 0])) zeroValue160 (ZR.agg (ZL.cons ZR.int (ZL.cons ZR.int (ZL.cons ZR.int (ZL.cons ZR.int ZL.nil)))))) ?_
  refine aV (.ptr 1 0) [_, .cells 160 [.int .i64 0, .int .i64 0, .int .i64 0, .int .i64 0]] Z Z ?_
  refine vU (OpU.store Z Z Z sizeOf160 Z Z Z Z Z Z Z) ?_
  refine WO.atH (H := [_, .cells 160 (Prize.c x17)]) Z ?_
  refine Nx (TC.region (S Z (S Z ?_)))
  refine vX (.agg (Prize.c x17)) (OpV.loadA Z isAgg160 sizeOf160 Z (Pts.cells Z Z) Z Z) ?_
  refine Bd h15 fun r18 hr18 h15 => ?_
  refine WO.callD [] (OpC.clo call120 Z Z Z Z) (k_bg _ _ _ hr18) ?_
  rintro _ _ ⟨rfl, rfl⟩
  refine aV (.agg [.int .i64 x17.Distance, .int .i64 x17.Category, .int .i64 x17.Rank]) [_, _, .cells 218 [.int .i64 x17.Distance, .int .i64 x17.Category, .int .i64 x17.Rank]] Z Z ?_
  refine Bd h15 fun m19 hm19 h15 => ?_
  refine vU (OpU.mput (ev := A.bool) (k := ({ distance := x17.Distance, category := x17.Category, rank := x17.Rank : typing_place })) (v := true) (l := s13.1) key_218 hm19 Z underlying253) ?_
  refine WO.atH (H := [.map (menc (fun x => A.agg (typing_place.c x)) A.bool m19), _, _]) Z ?_
  exact WO.nil (bloN (seqN (TC.region (S Z (S Z (WO.nil (loopN h15 (Lr [0]))))))))
 refine seqN (TC.le hle (Rg (S Z ?_)))
 refine vX (.int .i64 (b10.length : Int)) (OpV.lenMap (l := b10) underlying253 Z) ?_
 refine S Z (LnM runUnderlying28 Z (S Z (S Z (Nx (TC.ret ?_)))))
 obtain rfl := Oi h
 refine ⟨[(4, _)], _, _, ?_, ResOK.one Z Z, Z, Z⟩
 exact Lr []
def F_dd (n : Nat) (a1 : Course) : Option Bool :=
  ((F_cf n a1.Mats).bind fun r30 => (bif r30 then (F_dc n a1.Legs (IntKind.i64.wrap ((a1.Mats.length : Int) - 1))).bind fun r32 => (bif r32 then (F_as n a1.Legs).bind fun r34 => (bif r34 then (F_bl n a1.Distances (IntKind.i64.wrap ((a1.Mats.length : Int) - 1))).bind fun r36 => (bif r36 then (F_db n a1.Waves).bind fun r38 => (bif r38 then (F_el n a1.Offences).bind fun r40 => (bif r40 then (F_cv n a1.Categories).bind fun r42 => (bif r42 then (F_bw n a1.Prizes a1).bind fun r44 => (bif r44 then (F_bs n a1.Prizes).bind fun r46 => (bif r46 then (F_a n 0 16 [a1.Faults.Misses, a1.Faults.Strays]).bind fun r48 => (bif r48 then (F_a n 0 4294967296 [a1.Faults.Window, a1.Faults.Residual]).bind fun r50 => (bif r50 then (F_a n 0 100000 [a1.Faults.Drift]).bind fun r52 => (bif r52 then (F_a n 0 1125899906842624 [a1.Fee]).bind fun r54 => (bif r54 then (F_a n 0 1099511627776 [a1.Deadline]).bind fun r56 => some r56 else some false) else some false) else some false) else some false) else some false) else some false) else some false) else some false) else some false) else some false) else some false) else some false) else some false) : Option Bool).bind fun b28 => some b28
theorem k_dd (n : Nat) (a1 : Course) (r : Bool) (h : F_dd n a1 = some r) :
    C prog 55 [.agg (Course.c a1)] [] (fun a H => a = .bool r ∧ H = []) := by
 refine C.of_body func55 Z Z Z ?_
 refine Rg ?_
 refine vH (OpH.box Z Z Z Z Z) ?_
 refine aV (.ptr 0 0) [.cells 33 (Course.c a1)] Z Z ?_
 refine S Z (Nx (Rg (Fp fa_33_1 Z (Ld isAgg22 Z (LnM runUnderlying22 Z (S Z ?_))))))
 refine vH (OpH.allocZ (v := (.int .i64 0)) zeroValue3 ZR.int) ?_
 refine aV (.ptr 1 0) [_, .cells 3 [.int .i64 0]] Z Z ?_
 refine vU (OpU.store Z Z Z sizeOf3 Z Z Z Z Z Z Z) ?_
 refine WO.atH (H := [_, .cells 3 [.int .i64 (IntKind.i64.wrap ((a1.Mats.length : Int) - 1))]]) Z ?_
 refine Nx (Rg ?_)
 refine vH (OpH.allocZ (v := .nilf) zeroValue197 ZR.nilf) ?_
 refine aV (.ptr 2 0) [_, _, .cells 197 [.nilf]] Z Z ?_
 refine Nx (Rg ?_)
 refine vX (.fn (.func 99) [] [.ptr 1 0, .ptr 2 0]) (OpV.makeFunc (first := []) (cap := [.tmp 3, .tmp 4]) Z Z Z) ?_
 refine vU (OpU.store Z Z Z sizeOf197 Z Z Z Z Z Z Z) ?_
 refine WO.atH (H := [_, _, .cells 197 [.fn (.func 99) [] [.ptr 1 0, .ptr 2 0]]]) Z ?_
 refine Nx (Rg ?_)
 refine vX (.fn (.func 102) [] [.ptr 1 0]) (OpV.makeFunc (first := []) (cap := [.tmp 3]) Z Z Z) ?_
 refine vH (OpH.allocZ (v := .nilf) zeroValue200 ZR.nilf) ?_
 refine aV (.ptr 3 0) [_, _, _, .cells 200 [.nilf]] Z Z ?_
 refine vU (OpU.store Z Z Z sizeOf200 Z Z Z Z Z Z Z) ?_
 refine WO.atH (H := [_, _, _, .cells 200 [.fn (.func 102) [] [.ptr 1 0]]]) Z ?_
 refine Nx (Rg ?_)
 refine vX (.fn (.func 103) [] [.ptr 1 0, .ptr 2 0, .ptr 3 0]) (OpV.makeFunc (first := []) (cap := [.tmp 3, .tmp 4, .tmp 5]) Z Z Z) ?_
 refine S Z (Nx (Rg ?_))
 refine vX (.fn (.func 105) [] [.ptr 1 0]) (OpV.makeFunc (first := []) (cap := [.tmp 3]) Z Z Z) ?_
 refine S Z (Nx (Rg (S Z (Nx (Rg ?_)))))
 refine vX (.fn (.func 107) [] [.ptr 0 0]) (OpV.makeFunc (first := []) (cap := [.tmp 1]) Z Z Z) ?_
 refine S Z (Nx (Rg (Fp fa_33_9 Z ?_)))
 refine vX (.agg (Faults.c a1.Faults)) (OpV.loadA Z isAgg31 sizeOf31 Z (Pts.cells Z Z) Z Z) ?_
 refine vH (OpH.allocZ (v := (.agg [.int .i64 0, .int .i64 0, .int .i64 0, .int .i64 0, .int .i64 0])) zeroValue31 (ZR.agg (ZL.cons ZR.int (ZL.cons ZR.int (ZL.cons ZR.int (ZL.cons ZR.int (ZL.cons ZR.int ZL.nil))))))) ?_
 refine aV (.ptr 4 0) [_, _, _, _, .cells 31 [.int .i64 0, .int .i64 0, .int .i64 0, .int .i64 0, .int .i64 0]] Z Z ?_
 refine vU (OpU.store Z Z Z sizeOf31 Z Z Z Z Z Z Z) ?_
 refine WO.atH (H := [_, _, _, _, .cells 31 (Faults.c a1.Faults)]) Z ?_
 refine Nx (TC.seq (Bd h fun b28 h29 h => ?_))
 refine TC.cut ([(2, .bool b28)]) ([]) ?_ (fun env H hle => ?_)
 ·refine TC.region (Fp fa_33_1 Z (Ld isAgg22 Z (Bd h29 fun r30 hr30 h29 => ?_)))
  refine WO.callD [] (OpC.fn call108 Z Z Z) (k_cf _ _ _ hr30) ?_
  rintro _ _ ⟨rfl, rfl⟩
  refine aV (.bool r30) [_, _, _, _, _] Z Z ?_
  refine S Z (If h29 (fun hg31 h29 => ?_) (fun hg31 h29 => ?_))
  ·refine Fpg (gT hg31) fa_33_2 Z (Ldg (gT hg31) isAgg23 Z (Sg (gT hg31) Z (Bd h29 fun r32 hr32 h29 => ?_)))
   refine WO.callD [1] (OpC.fn call110 Z Z Z) (k_dc _ _ _ _ hr32) ?_ (hg := (gT hg31))
   rintro _ _ ⟨rfl, rfl⟩
   refine aV (.bool r32) [_, .cells 3 [.int .i64 (IntKind.i64.wrap ((a1.Mats.length : Int) - 1))], _, _, _] Z Z ?_
   refine Pk hg31 Z (S Z (If h29 (fun hg33 h29 => ?_) (fun hg33 h29 => ?_)))
   ·refine Fpg (gT hg33) fa_33_2 Z (Ldg (gT hg33) isAgg23 Z (Bd h29 fun r34 hr34 h29 => ?_))
    refine WO.callD [] (OpC.fn call111 Z Z Z) (k_as _ _ _ hr34) ?_ (hg := (gT hg33))
    rintro _ _ ⟨rfl, rfl⟩
    refine aV (.bool r34) [_, _, _, _, _] Z Z ?_
    refine Pk hg33 Z (S Z (If h29 (fun hg35 h29 => ?_) (fun hg35 h29 => ?_)))
    ·refine Fpg (gT hg35) fa_33_3 Z (Ldg (gT hg35) isAgg24 Z (Sg (gT hg35) Z (Bd h29 fun r36 hr36 h29 => ?_)))
     refine WO.callD [1, 2, 3] (OpC.fn call57 Z Z Z) (k_bl _ _ _ _ hr36) ?_ (hg := (gT hg35))
     rintro _ _ ⟨rfl, rfl⟩
     refine aV (.bool r36) [_, _, _, _, _] Z Z ?_
     refine Pk hg35 Z (S Z (If h29 (fun hg37 h29 => ?_) (fun hg37 h29 => ?_)))
     ·refine Fpg (gT hg37) fa_33_4 Z (Ldg (gT hg37) isAgg25 Z (Bd h29 fun r38 hr38 h29 => ?_))
      refine WO.callD [] (OpC.fn call113 Z Z Z) (k_db _ _ _ hr38) ?_ (hg := (gT hg37))
      rintro _ _ ⟨rfl, rfl⟩
      refine aV (.bool r38) [_, _, _, _, _] Z Z ?_
      refine Pk hg37 Z (S Z (If h29 (fun hg39 h29 => ?_) (fun hg39 h29 => ?_)))
      ·refine Fpg (gT hg39) fa_33_5 Z (Ldg (gT hg39) isAgg26 Z (Sg (gT hg39) Z (Bd h29 fun r40 hr40 h29 => ?_)))
       refine WO.callD [] (OpC.fn call115 Z Z Z) (k_el _ _ _ hr40) ?_ (hg := (gT hg39))
       rintro _ _ ⟨rfl, rfl⟩
       refine aV (.bool r40) [_, _, _, _, _] Z Z ?_
       refine Pk hg39 Z (S Z (If h29 (fun hg41 h29 => ?_) (fun hg41 h29 => ?_)))
       ·refine Fpg (gT hg41) fa_33_6 Z (Ldg (gT hg41) isAgg27 Z (Bd h29 fun r42 hr42 h29 => ?_))
        refine WO.callD [] (OpC.fn call116 Z Z Z) (k_cv _ _ _ hr42) ?_ (hg := (gT hg41))
        rintro _ _ ⟨rfl, rfl⟩
        refine aV (.bool r42) [_, _, _, _, _] Z Z ?_
        refine Pk hg41 Z (S Z (If h29 (fun hg43 h29 => ?_) (fun hg43 h29 => ?_)))
        ·refine Fpg (gT hg43) fa_33_7 Z (Ldg (gT hg43) isAgg28 Z (Sg (gT hg43) Z (Bd h29 fun r44 hr44 h29 => ?_)))
         refine WO.callD [0] (OpC.fn call118 Z Z Z) (k_bw _ _ _ _ hr44) ?_ (hg := (gT hg43))
         rintro _ _ ⟨rfl, rfl⟩
         refine aV (.bool r44) [_, _, _, _, _] Z Z ?_
         refine Pk hg43 Z (S Z (If h29 (fun hg45 h29 => ?_) (fun hg45 h29 => ?_)))
         ·refine Fpg (gT hg45) fa_33_7 Z (Ldg (gT hg45) isAgg28 Z (Bd h29 fun r46 hr46 h29 => ?_))
          refine WO.callD [] (OpC.fn call119 Z Z Z) (k_bs _ _ _ hr46) ?_ (hg := (gT hg45))
          rintro _ _ ⟨rfl, rfl⟩
          refine aV (.bool r46) [_, _, _, _, _] Z Z ?_
          refine Pk hg45 Z (S Z (If h29 (fun hg47 h29 => ?_) (fun hg47 h29 => ?_)))
          ·refine Fpg (gT hg47) fa_31_0 Z (Ldg (gT hg47) isAgg3 Z (Fpg (gT hg47) fa_31_1 Z (Ldg (gT hg47) isAgg3 Z ?_)))
           refine vH (OpH.lit (xs := [.tmp 71, .tmp 73]) (es := List.map (encI .i64) [a1.Faults.Misses, a1.Faults.Strays]) el_48 Z Z Z Z Z ⟨Z, Z, trivial⟩ Z Z) ?_ (gT hg47)
           refine aV (.osl 5 0 ([a1.Faults.Misses, a1.Faults.Strays].length) 1) [_, _, _, _, _, .row 3 1 (List.map (encI .i64) [a1.Faults.Misses, a1.Faults.Strays])] Z Z ?_
           refine Bd h29 fun r48 hr48 h29 => ?_
           refine WO.callB (OpC.fn call100 rfl rfl rfl) (LookL.cons rfl (.inl ⟨rfl, rfl⟩) (LookL.cons rfl (.inl ⟨rfl, rfl⟩) (LookL.cons rfl (.inr ⟨_, _, _, _, _, rfl, rfl, List.length_map .., rfl⟩) LookL.nil))) (k_a _ _ _ _ _ hr48) (by rintro _ _ ⟨rfl, rfl⟩; rfl) ?_ (gT hg47)
           rintro _ _ ⟨rfl, rfl⟩
           refine aV (.bool r48) [_, _, _, _, _, _] Z Z ?_
           refine Pk hg47 Z (S Z (If h29 (fun hg49 h29 => ?_) (fun hg49 h29 => ?_)))
           ·refine Fpg (gT hg49) fa_31_2 Z (Ldg (gT hg49) isAgg3 Z (Fpg (gT hg49) fa_31_3 Z (Ldg (gT hg49) isAgg3 Z ?_)))
            refine vH (OpH.lit (xs := [.tmp 79, .tmp 81]) (es := List.map (encI .i64) [a1.Faults.Window, a1.Faults.Residual]) el_48 Z Z Z Z Z ⟨Z, Z, trivial⟩ Z Z) ?_ (gT hg49)
            refine aV (.osl 6 0 ([a1.Faults.Window, a1.Faults.Residual].length) 1) [_, _, _, _, _, _, .row 3 1 (List.map (encI .i64) [a1.Faults.Window, a1.Faults.Residual])] Z Z ?_
            refine Bd h29 fun r50 hr50 h29 => ?_
            refine WO.callB (OpC.fn call100 rfl rfl rfl) (LookL.cons rfl (.inl ⟨rfl, rfl⟩) (LookL.cons rfl (.inl ⟨rfl, rfl⟩) (LookL.cons rfl (.inr ⟨_, _, _, _, _, rfl, rfl, List.length_map .., rfl⟩) LookL.nil))) (k_a _ _ _ _ _ hr50) (by rintro _ _ ⟨rfl, rfl⟩; rfl) ?_ (gT hg49)
            rintro _ _ ⟨rfl, rfl⟩
            refine aV (.bool r50) [_, _, _, _, _, _, _] Z Z ?_
            refine Pk hg49 Z (S Z (If h29 (fun hg51 h29 => ?_) (fun hg51 h29 => ?_)))
            ·refine Fpg (gT hg51) fa_31_4 Z (Ldg (gT hg51) isAgg3 Z ?_)
             refine vH (OpH.lit (xs := [.tmp 87]) (es := List.map (encI .i64) [a1.Faults.Drift]) el_48 Z Z Z Z Z ⟨Z, trivial⟩ Z Z) ?_ (gT hg51)
             refine aV (.osl 7 0 ([a1.Faults.Drift].length) 1) [_, _, _, _, _, _, _, .row 3 1 (List.map (encI .i64) [a1.Faults.Drift])] Z Z ?_
             refine Bd h29 fun r52 hr52 h29 => ?_
             refine WO.callB (OpC.fn call100 rfl rfl rfl) (LookL.cons rfl (.inl ⟨rfl, rfl⟩) (LookL.cons rfl (.inl ⟨rfl, rfl⟩) (LookL.cons rfl (.inr ⟨_, _, _, _, _, rfl, rfl, List.length_map .., rfl⟩) LookL.nil))) (k_a _ _ _ _ _ hr52) (by rintro _ _ ⟨rfl, rfl⟩; rfl) ?_ (gT hg51)
             rintro _ _ ⟨rfl, rfl⟩
             refine aV (.bool r52) [_, _, _, _, _, _, _, _] Z Z ?_
             refine Pk hg51 Z (S Z (If h29 (fun hg53 h29 => ?_) (fun hg53 h29 => ?_)))
             ·refine Fpg (gT hg53) fa_33_10 Z (Ldg (gT hg53) isAgg3 Z ?_)
              refine vH (OpH.lit (xs := [.tmp 93]) (es := List.map (encI .i64) [a1.Fee]) el_48 Z Z Z Z Z ⟨Z, trivial⟩ Z Z) ?_ (gT hg53)
              refine aV (.osl 8 0 ([a1.Fee].length) 1) [_, _, _, _, _, _, _, _, .row 3 1 (List.map (encI .i64) [a1.Fee])] Z Z ?_
              refine Bd h29 fun r54 hr54 h29 => ?_
              refine WO.callB (OpC.fn call100 rfl rfl rfl) (LookL.cons rfl (.inl ⟨rfl, rfl⟩) (LookL.cons rfl (.inl ⟨rfl, rfl⟩) (LookL.cons rfl (.inr ⟨_, _, _, _, _, rfl, rfl, List.length_map .., rfl⟩) LookL.nil))) (k_a _ _ _ _ _ hr54) (by rintro _ _ ⟨rfl, rfl⟩; rfl) ?_ (gT hg53)
              rintro _ _ ⟨rfl, rfl⟩
              refine aV (.bool r54) [_, _, _, _, _, _, _, _, _] Z Z ?_
              refine Pk hg53 Z (S Z (If h29 (fun hg55 h29 => ?_) (fun hg55 h29 => ?_)))
              ·refine Fpg (gT hg55) fa_33_11 Z (Ldg (gT hg55) isAgg3 Z ?_)
               refine vH (OpH.lit (xs := [.tmp 99]) (es := List.map (encI .i64) [a1.Deadline]) el_48 Z Z Z Z Z ⟨Z, trivial⟩ Z Z) ?_ (gT hg55)
               refine aV (.osl 9 0 ([a1.Deadline].length) 1) [_, _, _, _, _, _, _, _, _, .row 3 1 (List.map (encI .i64) [a1.Deadline])] Z Z ?_
               refine Bd h29 fun r56 hr56 h29 => ?_
               refine WO.callB (OpC.fn call100 rfl rfl rfl) (LookL.cons rfl (.inl ⟨rfl, rfl⟩) (LookL.cons rfl (.inl ⟨rfl, rfl⟩) (LookL.cons rfl (.inr ⟨_, _, _, _, _, rfl, rfl, List.length_map .., rfl⟩) LookL.nil))) (k_a _ _ _ _ _ hr56) (by rintro _ _ ⟨rfl, rfl⟩; rfl) ?_ (gT hg55)
               rintro _ _ ⟨rfl, rfl⟩
               refine aV (.bool r56) [_, _, _, _, _, _, _, _, _, _] Z Z ?_
               refine Pk hg55 Z (S Z (WO.nil ?_))
               obtain rfl := Oi h29
               exact cutN (Lr [])
              ·refine KF hg55 Z (KF hg55 Z (KF hg55 Z (KF hg55 Z (Pk hg55 Z (S Z (WO.nil ?_))))))
               obtain rfl := Oi h29
               exact cutN (Lr [])
             ·refine KF hg53 Z (KF hg53 Z (KF hg53 Z (KF hg53 Z (Pk hg53 Z (S Z (KF Z Z (KF Z Z (KF Z Z (KF Z Z (S Z (S Z (WO.nil ?_))))))))))))
              obtain rfl := Oi h29
              exact cutN (Lr [])
            ·refine KF hg51 Z (KF hg51 Z (KF hg51 Z (KF hg51 Z (Pk hg51 Z (S Z (KF Z Z (KF Z Z (KF Z Z (KF Z Z (S Z (S Z (KF Z Z (KF Z Z (KF Z Z (KF Z Z (S Z (S Z (WO.nil ?_))))))))))))))))))
             obtain rfl := Oi h29
             exact cutN (Lr [])
           ·refine KF hg49 Z (KF hg49 Z (KF hg49 Z (KF hg49 Z (KF hg49 Z (KF hg49 Z (Pk hg49 Z (S Z (KF Z Z (KF Z Z (KF Z Z (KF Z Z (S Z (S Z (KF Z Z (KF Z Z (KF Z Z (KF Z Z (S Z (S Z (KF Z Z (KF Z Z (KF Z Z (KF Z Z (S Z (S Z (WO.nil ?_))))))))))))))))))))))))))
            obtain rfl := Oi h29
            exact cutN (Lr [])
          ·refine KF hg47 Z (KF hg47 Z (KF hg47 Z (KF hg47 Z (KF hg47 Z (KF hg47 Z (Pk hg47 Z (S Z (KF Z Z (KF Z Z (KF Z Z (KF Z Z (KF Z Z (KF Z Z (S Z (S Z (KF Z Z (KF Z Z (KF Z Z (KF Z Z (S Z (S Z (KF Z Z (KF Z Z (KF Z Z (KF Z Z (S Z (S Z (KF Z Z (KF Z Z (KF Z Z (KF Z Z (S Z (S Z (WO.nil ?_))))))))))))))))))))))))))))))))))
           obtain rfl := Oi h29
           exact cutN (Lr [])
         ·refine KF hg45 Z (KF hg45 Z (KF hg45 Z (Pk hg45 Z (S Z (KF Z Z (KF Z Z (KF Z Z (KF Z Z (KF Z Z (KF Z Z (S Z (S Z (KF Z Z (KF Z Z (KF Z Z (KF Z Z (KF Z Z (KF Z Z (S Z (S Z (KF Z Z (KF Z Z (KF Z Z (KF Z Z (S Z (S Z (KF Z Z (KF Z Z (KF Z Z (KF Z Z (S Z (S Z (KF Z Z (KF Z Z (KF Z Z (KF Z Z (S Z (S Z (WO.nil ?_)))))))))))))))))))))))))))))))))))))))
          obtain rfl := Oi h29
          exact cutN (Lr [])
        ·refine KF hg43 Z (KF hg43 Z (KF hg43 Z (KF hg43 Z (Pk hg43 Z (S Z (KF Z Z (KF Z Z (KF Z Z (S Z (S Z (KF Z Z (KF Z Z (KF Z Z (KF Z Z (KF Z Z (KF Z Z (S Z (S Z (KF Z Z (KF Z Z (KF Z Z (KF Z Z (KF Z Z (KF Z Z (S Z (S Z (KF Z Z (KF Z Z (KF Z Z (KF Z Z (S Z (S Z (KF Z Z (KF Z Z (KF Z Z (KF Z Z (S Z (S Z (KF Z Z ?_)))))))))))))))))))))))))))))))))))))))
         refine KF Z Z (KF Z Z (KF Z Z (S Z (S Z (WO.nil ?_)))))
         obtain rfl := Oi h29
         exact cutN (Lr [])
       ·refine KF hg41 Z (KF hg41 Z (KF hg41 Z (Pk hg41 Z (S Z (KF Z Z (KF Z Z (KF Z Z (KF Z Z (S Z (S Z (KF Z Z (KF Z Z (KF Z Z (S Z (S Z (KF Z Z (KF Z Z (KF Z Z (KF Z Z (KF Z Z (KF Z Z (S Z (S Z (KF Z Z (KF Z Z (KF Z Z (KF Z Z (KF Z Z (KF Z Z (S Z (S Z (KF Z Z (KF Z Z (KF Z Z (KF Z Z (S Z (S Z (KF Z Z (KF Z Z ?_)))))))))))))))))))))))))))))))))))))))
        refine KF Z Z (KF Z Z (S Z (S Z (KF Z Z (KF Z Z (KF Z Z (KF Z Z (S Z (S Z (WO.nil ?_))))))))))
        obtain rfl := Oi h29
        exact cutN (Lr [])
      ·refine KF hg39 Z (KF hg39 Z (KF hg39 Z (KF hg39 Z (Pk hg39 Z (S Z (KF Z Z (KF Z Z (KF Z Z (S Z (S Z (KF Z Z (KF Z Z (KF Z Z (KF Z Z (S Z (S Z (KF Z Z (KF Z Z (KF Z Z (S Z (S Z (KF Z Z (KF Z Z (KF Z Z (KF Z Z (KF Z Z (KF Z Z (S Z (S Z (KF Z Z (KF Z Z (KF Z Z (KF Z Z (KF Z Z (KF Z Z (S Z (S Z (KF Z Z (KF Z Z ?_)))))))))))))))))))))))))))))))))))))))
       refine KF Z Z (KF Z Z (S Z (S Z (KF Z Z (KF Z Z (KF Z Z (KF Z Z (S Z (S Z (KF Z Z (KF Z Z (KF Z Z (KF Z Z (S Z (S Z (WO.nil ?_))))))))))))))))
       obtain rfl := Oi h29
       exact cutN (Lr [])
     ·refine KF hg37 Z (KF hg37 Z (KF hg37 Z (Pk hg37 Z (S Z (KF Z Z (KF Z Z (KF Z Z (KF Z Z (S Z (S Z (KF Z Z (KF Z Z (KF Z Z (S Z (S Z (KF Z Z (KF Z Z (KF Z Z (KF Z Z (S Z (S Z (KF Z Z (KF Z Z (KF Z Z (S Z (S Z (KF Z Z (KF Z Z (KF Z Z (KF Z Z (KF Z Z (KF Z Z (S Z (S Z (KF Z Z (KF Z Z (KF Z Z (KF Z Z (KF Z Z ?_)))))))))))))))))))))))))))))))))))))))
      refine KF Z Z (S Z (S Z (KF Z Z (KF Z Z (KF Z Z (KF Z Z (S Z (S Z (KF Z Z (KF Z Z (KF Z Z (KF Z Z (S Z (S Z (KF Z Z (KF Z Z (KF Z Z (KF Z Z (S Z (S Z (WO.nil ?_)))))))))))))))))))))
      obtain rfl := Oi h29
      exact cutN (Lr [])
    ·refine KF hg35 Z (KF hg35 Z (KF hg35 Z (KF hg35 Z (Pk hg35 Z (S Z (KF Z Z (KF Z Z (KF Z Z (S Z (S Z (KF Z Z (KF Z Z (KF Z Z (KF Z Z (S Z (S Z (KF Z Z (KF Z Z (KF Z Z (S Z (S Z (KF Z Z (KF Z Z (KF Z Z (KF Z Z (S Z (S Z (KF Z Z (KF Z Z (KF Z Z (S Z (S Z (KF Z Z (KF Z Z (KF Z Z (KF Z Z (KF Z Z (KF Z Z (S Z ?_)))))))))))))))))))))))))))))))))))))))
     refine S Z (KF Z Z (KF Z Z (KF Z Z (KF Z Z (KF Z Z (KF Z Z (S Z (S Z (KF Z Z (KF Z Z (KF Z Z (KF Z Z (S Z (S Z (KF Z Z (KF Z Z (KF Z Z (KF Z Z (S Z (S Z (KF Z Z (KF Z Z (KF Z Z (KF Z Z (S Z (S Z (WO.nil ?_)))))))))))))))))))))))))))
     obtain rfl := Oi h29
     exact cutN (Lr [])
   ·refine KF hg33 Z (KF hg33 Z (KF hg33 Z (Pk hg33 Z (S Z (KF Z Z (KF Z Z (KF Z Z (KF Z Z (S Z (S Z (KF Z Z (KF Z Z (KF Z Z (S Z (S Z (KF Z Z (KF Z Z (KF Z Z (KF Z Z (S Z (S Z (KF Z Z (KF Z Z (KF Z Z (S Z (S Z (KF Z Z (KF Z Z (KF Z Z (KF Z Z (S Z (S Z (KF Z Z (KF Z Z (KF Z Z (S Z (S Z (KF Z Z (KF Z Z ?_)))))))))))))))))))))))))))))))))))))))
    refine KF Z Z (KF Z Z (KF Z Z (KF Z Z (S Z (S Z (KF Z Z (KF Z Z (KF Z Z (KF Z Z (KF Z Z (KF Z Z (S Z (S Z (KF Z Z (KF Z Z (KF Z Z (KF Z Z (S Z (S Z (KF Z Z (KF Z Z (KF Z Z (KF Z Z (S Z (S Z (KF Z Z (KF Z Z (KF Z Z (KF Z Z (S Z (S Z (WO.nil ?_))))))))))))))))))))))))))))))))
    obtain rfl := Oi h29
    exact cutN (Lr [])
  ·refine KF hg31 Z (KF hg31 Z (KF hg31 Z (KF hg31 Z (Pk hg31 Z (S Z (KF Z Z (KF Z Z (KF Z Z (S Z (S Z (KF Z Z (KF Z Z (KF Z Z (KF Z Z (S Z (S Z (KF Z Z (KF Z Z (KF Z Z (S Z (S Z (KF Z Z (KF Z Z (KF Z Z (KF Z Z (S Z (S Z (KF Z Z (KF Z Z (KF Z Z (S Z (S Z (KF Z Z (KF Z Z (KF Z Z (KF Z Z (S Z (S Z (KF Z Z ?_)))))))))))))))))))))))))))))))))))))))
   refine KF Z Z (KF Z Z (S Z (S Z (KF Z Z (KF Z Z (KF Z Z (KF Z Z (KF Z Z (KF Z Z (S Z (S Z (KF Z Z (KF Z Z (KF Z Z (KF Z Z (KF Z Z (KF Z Z (S Z (S Z (KF Z Z (KF Z Z (KF Z Z (KF Z Z (S Z (S Z (KF Z Z (KF Z Z (KF Z Z (KF Z Z (S Z (S Z (KF Z Z (KF Z Z (KF Z Z (KF Z Z (S Z (S Z (WO.nil ?_))))))))))))))))))))))))))))))))))))))
   obtain rfl := Oi h29
   exact cutN (Lr [])
 refine seqN (TC.le hle (TC.ret ?_))
 obtain rfl := Oi h
 refine ⟨[(2, _)], _, _, ?_, ResOK.one Z Z, Z, Z⟩
 exact Lr []
def F_ga (n : Nat) (a1 : List Step) (s11 : (List typing_form) × Int) : Option (Ctl ((List typing_form) × Int) (List typing_form)) :=
  (bif decide (s11.2 < (a1.length : Int)) then (idx a1 s11.2).bind fun x15 => (app s11.1 [typing_form.ctyping_step ({ Step := x15 : typing_step })]).bind fun l16 => some (.cont (l16, IntKind.i64.wrap (s11.2 + 1))) else some (.done s11.1))
def F_p (n : Nat) (a1 : List Step) : Option (List typing_form) :=
  (iter (F_ga n a1) n ([], 0) : Option (List typing_form)).bind fun b8 => some b8
theorem k_p (n : Nat) (a1 : List Step) (r : List typing_form) (h : F_p n a1 = some r) :
    C prog 122 [.rsl 8 (List.map Step.enc a1)] [] (fun a H => a = .osl 0 0 r.length 1 ∧ H = [.row 260 1 (List.map typing_form.enc r)]) := by
 refine C.of_body func122 Z Z Z ?_
 refine Rg (S Z (Nx (TC.seq (Rg (S Z (LnM runUnderlying29 Z (S Z (Nx (Bd h fun b8 h9 h => ?_)))))))))
 refine TC.cut ([(2, .osl 0 0 b8.length 1)]) ([.row 260 1 (List.map typing_form.enc b8)]) ?_ (fun env H hle => ?_)
 ·refine TC.block ?_
  refine TC.loop (E := fun s11 => [(2, .osl 0 0 s11.1.length 1), (5, .rsl 8 (List.map Step.enc a1)), (6, .int .i64 (a1.length : Int)), (7, .int .i64 s11.2)]) (Hp := fun s11 => [.row 260 1 (List.map typing_form.enc s11.1)]) h9 ?_ ?_
  ·refine Le.trans (Le.phantom (s := 2) (k := 1) (t := 260) (Nat.le_of_ble_eq_true Z) Z) ?_
   exact Lr [0]
  intro s11 d12 h13 hb10
  refine Rg (S Z (Nx (TC.seq (CnS Z h13 (fun hc14 h13 => ?_) (fun hc14 h13 => ?_)))))
  ·refine ExX (loopX h13 ?_)
   obtain rfl := hb10 _ (Oi h13).symm
   exact bloE (cutN (Lr [0]))
  refine SkN (TC.seq (TC.block (Rg (Bd h13 fun x15 hx15 h13 => ?_))))
  refine vX (.rp [.int .i64 x15.Kind, .int .i64 x15.By, .int .i64 x15.Cond.Kind, .int .i64 x15.Cond.Var, .int .i64 x15.Cond.N, .rsl 4 (List.map Cond.enc x15.Cond.Parts), .rsl 8 (List.map Step.enc x15.Then), .rsl 8 (List.map Step.enc x15.Else)]) (OpV.ixME (e := Step.enc) hx15 (Step.enc_eq x15) runUnderlying29 sizeOf132) ?_
  refine vX (.agg (Step.c x15)) (OpV.loadA Z isAgg132 sizeOf132 Z Pts.rp Z Z) ?_
  refine vH (OpH.allocZ (v := (.agg [.int .i64 0, .int .i64 0, .int .i64 0, .int .i64 0, .int .i64 0, .rsl 4 (List.map Cond.enc []), .rsl 8 (List.map Step.enc []), .rsl 8 (List.map Step.enc [])])) zeroValue132 (ZR.agg (ZL.cons ZR.int (ZL.cons ZR.int (ZL.cons ZR.int (ZL.cons ZR.int (ZL.cons ZR.int (ZL.cons ZR.rsl (ZL.cons ZR.rsl (ZL.cons ZR.rsl ZL.nil)))))))))) ?_
  refine aV (.ptr 1 0) [_, .cells 132 [.int .i64 0, .int .i64 0, .int .i64 0, .int .i64 0, .int .i64 0, .rsl 4 (List.map Cond.enc []), .rsl 8 (List.map Step.enc []), .rsl 8 (List.map Step.enc [])]] Z Z ?_
  refine vU (OpU.store Z Z Z sizeOf132 Z Z Z Z Z Z Z) ?_
  refine WO.atH (H := [_, .cells 132 (Step.c x15)]) Z ?_
  refine Nx (TC.region (S Z ?_))
  refine vX (.agg (Step.c x15)) (OpV.loadA Z isAgg132 sizeOf132 Z (Pts.cells Z Z) Z Z) ?_
  refine vX (.agg (typing_step.c ({ Step := x15 : typing_step }))) (OpV.build (zs := [.int .i64 0, .int .i64 0, .int .i64 0, .int .i64 0, .int .i64 0, .rsl 4 (List.map Cond.enc []), .rsl 8 (List.map Step.enc []), .rsl 8 (List.map Step.enc [])]) zeroValue263 (ZR.agg (ZL.cons ZR.int (ZL.cons ZR.int (ZL.cons ZR.int (ZL.cons ZR.int (ZL.cons ZR.int (ZL.cons ZR.rsl (ZL.cons ZR.rsl (ZL.cons ZR.rsl ZL.nil))))))))) pl_263) ?_
  refine vX (.iface 263 (.agg (typing_step.c ({ Step := x15 : typing_step })))) (OpV.mkIface Z runUnderlying263 (by intro m; nofun) Z) ?_
  refine vH (OpH.lit (xs := [.tmp 14]) (es := List.map typing_form.enc [typing_form.ctyping_step ({ Step := x15 : typing_step })]) el_221 Z Z Z Z Z ⟨Z, trivial⟩ Z Z) ?_
  refine aV (.osl 2 0 ([typing_form.ctyping_step ({ Step := x15 : typing_step })].length) 1) [_, _, .row 260 1 (List.map typing_form.enc [typing_form.ctyping_step ({ Step := x15 : typing_step })])] Z Z ?_
  refine Bd h13 fun l16 hl16 h13 => ?_
  refine vH (OpH.appO (e := typing_form.enc) hl16 el_221 runUnderlying221 (Src.oM (i := 2))) ?_
  refine aV (.osl 3 0 l16.length 1) [.dead, _, _, .row 260 1 (List.map typing_form.enc l16)] Z Z ?_
  exact S Z (WO.nil (bloN (seqN (TC.region (S Z (S Z (WO.nil (loopN h13 (Lr [3])))))))))
 refine seqN (TC.le hle (Rg (S Z (S Z (Nx (TC.ret ?_))))))
 obtain rfl := Oi h
 refine ⟨[(2, _)], _, _, ?_, ResOK.one Z Z, Z, Z⟩
 exact Lr [0]
def F_q (n : Nat) (a1 : typing_cond) : Option Bool :=
  ((bif (a1.Cond.Kind == 0) then (bif (a1.Cond.Var == 0) then (bif (a1.Cond.N == 0) then some ((a1.Cond.Parts.length : Int) == 0) else some false) else some false) else some false) : Option Bool).bind fun b4 => some b4
theorem k_q (n : Nat) (a1 : typing_cond) (r : Bool) (h : F_q n a1 = some r) :
    C prog 217 [.agg (typing_cond.c ({ Cond := a1.Cond : typing_cond }))] [] (fun a H => a = .bool r ∧ H = []) := by
 refine C.of_body func217 Z Z Z ?_
 refine Rg ?_
 refine vH (OpH.box Z Z Z Z Z) ?_
 refine aV (.ptr 0 0) [.cells 298 (typing_cond.c ({ Cond := a1.Cond : typing_cond }))] Z Z ?_
 refine S Z (Nx (TC.seq (Bd h fun b4 h5 h => ?_)))
 refine TC.cut ([(2, .bool b4)]) ([]) ?_ (fun env H hle => ?_)
 ·refine TC.region (Fp fa_298_0 Z (Fp fa_130_0 Z (Ld isAgg3 Z (S Z (S Z (If h5 (fun hg6 h5 => ?_) (fun hg6 h5 => ?_)))))))
  ·refine Fpg (gT hg6) fa_298_0 Z (Fpg (gT hg6) fa_130_1 Z (Ldg (gT hg6) isAgg3 Z (Sg (gT hg6) Z (Pk hg6 Z (S Z (If h5 (fun hg7 h5 => ?_) (fun hg7 h5 => ?_)))))))
   ·refine Fpg (gT hg7) fa_298_0 Z (Fpg (gT hg7) fa_130_2 Z (Ldg (gT hg7) isAgg3 Z (Sg (gT hg7) Z (Pk hg7 Z (S Z (If h5 (fun hg8 h5 => ?_) (fun hg8 h5 => ?_)))))))
    ·refine Fpg (gT hg8) fa_298_0 Z (Fpg (gT hg8) fa_130_3 Z (Ldg (gT hg8) isAgg128 Z ?_))
     refine vX (.int .i64 (a1.Cond.Parts.length : Int)) (OpV.lenM (e := Cond.enc) (l := a1.Cond.Parts) runUnderlying128) ?_ (gT hg8)
     refine Sg (gT hg8) Z (Pk hg8 Z (S Z (WO.nil ?_)))
     obtain rfl := Oi h5
     exact cutN (Lr [])
    ·refine KF hg8 Z (KF hg8 Z (KF hg8 Z (KF hg8 Z (KF hg8 Z (Pk hg8 Z (S Z (WO.nil ?_)))))))
     obtain rfl := Oi h5
     exact cutN (Lr [])
   ·refine KF hg7 Z (KF hg7 Z (KF hg7 Z (KF hg7 Z (Pk hg7 Z (S Z (KF Z Z (KF Z Z (KF Z Z (KF Z Z (KF Z Z (S Z (S Z (WO.nil ?_)))))))))))))
    obtain rfl := Oi h5
    exact cutN (Lr [])
  ·refine KF hg6 Z (KF hg6 Z (KF hg6 Z (KF hg6 Z (Pk hg6 Z (S Z (KF Z Z (KF Z Z (KF Z Z (KF Z Z (S Z (S Z (KF Z Z (KF Z Z (KF Z Z (KF Z Z (KF Z Z (S Z (S Z (WO.nil ?_)))))))))))))))))))
   obtain rfl := Oi h5
   exact cutN (Lr [])
 refine seqN (TC.le hle (TC.ret ?_))
 obtain rfl := Oi h
 refine ⟨[(2, _)], _, _, ?_, ResOK.one Z Z, Z, Z⟩
 exact Lr []
def F_g (n : Nat) (a1 : typing_step) : Option (List typing_form) :=
  (F_p n a1.Step.Then).bind fun r1 => (F_p n a1.Step.Else).bind fun r2 => (app r1 r2).bind fun l3 => some l3
theorem k_g (n : Nat) (a1 : typing_step) (r : List typing_form) (h : F_g n a1 = some r) :
    C prog 240 [.agg (typing_step.c a1)] [] (fun a H => a = .osl 0 0 r.length 1 ∧ H = [.row 260 1 (List.map typing_form.enc r)]) := by
 refine C.of_body func240 Z Z Z ?_
 refine Rg ?_
 refine vH (OpH.box Z Z Z Z Z) ?_
 refine aV (.ptr 0 0) [.cells 263 (typing_step.c a1)] Z Z ?_
 refine S Z (Nx (TC.seq ?_))
 obtain ⟨r1, hr1, h⟩ := bnd h
 refine TC.draws 7 0 [3, 4, 5, 6, 7, 8, 9] [false, false, false, true, false, false, false] [[], [], [], [], [], [], []] [[], [3]] [[(0, 0), (1, 1)], [(0, 0), (1, 1)], [(0, 0), (1, 1)], [(0, 1)], [(0, 0), (1, 1)], [(0, 0), (1, 1)], [(0, 0), (1, 1)]] [.ptr 0 0, .ptr 0 6, .rsl 8 (List.map Step.enc a1.Step.Then), .osl 1 0 r1.length 1, .ptr 0 0, .ptr 0 7, .rsl 8 (List.map Step.enc a1.Step.Else)] [[.cells 263 (typing_step.c a1)], [.cells 263 (typing_step.c a1), .row 260 1 (List.map typing_form.enc r1)]] ([.cells 263 (typing_step.c a1), .row 260 1 (List.map typing_form.enc r1)]) draws Z Z Z Z Z Z Z ?_ Z ?_
 ·refine OblM.cons ?_ (OblM.cons ?_ (OblM.cons ?_ (OblM.cons ?_ (OblM.cons ?_ (OblM.cons ?_ (OblM.cons ?_ (OblM.nil)))))))
  ·refine OblM.stC ?_ (OblM.stC ?_ (OblM.st0))
   ·refine Om Z (sO 1 sN) ?_
    exact Fp fa_263_0 Z Wp
   ·refine Om Z (sO 1 sN) ?_
    exact Fp fa_263_0 Z Wp
  ·refine OblM.stC ?_ (OblM.stC ?_ (OblM.st0))
   ·refine Om Z (sD 0 sN) ?_
    exact Fp fa_132_3 Z Wp
   ·refine Om Z (sD 0 sN) ?_
    exact Fp fa_132_3 Z Wp
  ·refine OblM.stC ?_ (OblM.stC ?_ (OblM.st0))
   ·refine Om Z (sD 1 sN) ?_
    exact Ld isAgg29 Z Wp
   ·refine Om Z (sD 1 sN) ?_
    exact Ld isAgg29 Z Wp
  ·refine OblM.stC ?_ (OblM.st0)
   ·refine Om1 Z (sD 2 sN) ?_
    refine WO.callD [] (OpC.fn call122 Z Z Z) (k_p _ _ _ hr1) ?_
    rintro _ _ ⟨rfl, rfl⟩
    refine aV (.osl 1 0 r1.length 1) [_, .row 260 1 (List.map typing_form.enc r1)] Z Z ?_
    exact Wp
  ·refine OblM.stC ?_ (OblM.stC ?_ (OblM.st0))
   ·refine Om Z (sO 1 sN) ?_
    exact Fp fa_263_0 Z Wp
   ·refine Om Z (sO 1 sN) ?_
    exact Fp fa_263_0 Z Wp
  ·refine OblM.stC ?_ (OblM.stC ?_ (OblM.st0))
   ·refine Om Z (sD 4 sN) ?_
    exact Fp fa_132_4 Z Wp
   ·refine Om Z (sD 4 sN) ?_
    exact Fp fa_132_4 Z Wp
  ·refine OblM.stC ?_ (OblM.stC ?_ (OblM.st0))
   ·refine Om Z (sD 5 sN) ?_
    exact Ld isAgg29 Z Wp
   ·refine Om Z (sD 5 sN) ?_
    exact Ld isAgg29 Z Wp
 refine Bd h fun r2 hr2 h => ?_
 refine WO.callD [] (OpC.fn call122 Z Z Z) (k_p _ _ _ hr2) ?_
 rintro _ _ ⟨rfl, rfl⟩
 refine aV (.osl 2 0 r2.length 1) [_, _, .row 260 1 (List.map typing_form.enc r2)] Z Z ?_
 refine Bd h fun l3 hl3 h => ?_
 refine vH (OpH.appO (e := typing_form.enc) hl3 el_221 runUnderlying221 (Src.oM (i := 2))) ?_
 refine aV (.osl 3 0 l3.length 1) [_, .dead, _, .row 260 1 (List.map typing_form.enc l3)] Z Z ?_
 refine S Z (Nx (TC.ret ?_))
 obtain rfl := Oi h
 refine ⟨[(2, _)], _, _, ?_, ResOK.one Z Z, Z, Z⟩
 exact Lr [3]
def F_gf (n : Nat) (a1 : List Cond) (s11 : (List typing_form) × Int) : Option (Ctl ((List typing_form) × Int) (List typing_form)) :=
  (bif decide (s11.2 < (a1.length : Int)) then (idx a1 s11.2).bind fun x15 => (app s11.1 [typing_form.ctyping_cond ({ Cond := x15 : typing_cond })]).bind fun l16 => some (.cont (l16, IntKind.i64.wrap (s11.2 + 1))) else some (.done s11.1))
def F_cw (n : Nat) (a1 : List Cond) : Option (List typing_form) :=
  (iter (F_gf n a1) n ([], 0) : Option (List typing_form)).bind fun b8 => some b8
theorem k_cw (n : Nat) (a1 : List Cond) (r : List typing_form) (h : F_cw n a1 = some r) :
    C prog 250 [.rsl 4 (List.map Cond.enc a1)] [] (fun a H => a = .osl 0 0 r.length 1 ∧ H = [.row 260 1 (List.map typing_form.enc r)]) := by
 refine C.of_body func250 Z Z Z ?_
 refine Rg (S Z (Nx (TC.seq (Rg (S Z (LnM runUnderlying128 Z (S Z (Nx (Bd h fun b8 h9 h => ?_)))))))))
 refine TC.cut ([(2, .osl 0 0 b8.length 1)]) ([.row 260 1 (List.map typing_form.enc b8)]) ?_ (fun env H hle => ?_)
 ·refine TC.block ?_
  refine TC.loop (E := fun s11 => [(2, .osl 0 0 s11.1.length 1), (5, .rsl 4 (List.map Cond.enc a1)), (6, .int .i64 (a1.length : Int)), (7, .int .i64 s11.2)]) (Hp := fun s11 => [.row 260 1 (List.map typing_form.enc s11.1)]) h9 ?_ ?_
  ·refine Le.trans (Le.phantom (s := 2) (k := 1) (t := 260) (Nat.le_of_ble_eq_true Z) Z) ?_
   exact Lr [0]
  intro s11 d12 h13 hb10
  refine Rg (S Z (Nx (TC.seq (CnS Z h13 (fun hc14 h13 => ?_) (fun hc14 h13 => ?_)))))
  ·refine ExX (loopX h13 ?_)
   obtain rfl := hb10 _ (Oi h13).symm
   exact bloE (cutN (Lr [0]))
  refine SkN (TC.seq (TC.block (Rg (Bd h13 fun x15 hx15 h13 => ?_))))
  refine vX (.rp [.int .i64 x15.Kind, .int .i64 x15.Var, .int .i64 x15.N, .rsl 4 (List.map Cond.enc x15.Parts)]) (OpV.ixME (e := Cond.enc) hx15 (Cond.enc_eq x15) runUnderlying128 sizeOf130) ?_
  refine vX (.agg (Cond.c x15)) (OpV.loadA Z isAgg130 sizeOf130 Z Pts.rp Z Z) ?_
  refine vH (OpH.allocZ (v := (.agg [.int .i64 0, .int .i64 0, .int .i64 0, .rsl 4 (List.map Cond.enc [])])) zeroValue130 (ZR.agg (ZL.cons ZR.int (ZL.cons ZR.int (ZL.cons ZR.int (ZL.cons ZR.rsl ZL.nil)))))) ?_
  refine aV (.ptr 1 0) [_, .cells 130 [.int .i64 0, .int .i64 0, .int .i64 0, .rsl 4 (List.map Cond.enc [])]] Z Z ?_
  refine vU (OpU.store Z Z Z sizeOf130 Z Z Z Z Z Z Z) ?_
  refine WO.atH (H := [_, .cells 130 (Cond.c x15)]) Z ?_
  refine Nx (TC.region (S Z ?_))
  refine vX (.agg (Cond.c x15)) (OpV.loadA Z isAgg130 sizeOf130 Z (Pts.cells Z Z) Z Z) ?_
  refine vX (.agg (typing_cond.c ({ Cond := x15 : typing_cond }))) (OpV.build (zs := [.int .i64 0, .int .i64 0, .int .i64 0, .rsl 4 (List.map Cond.enc [])]) zeroValue298 (ZR.agg (ZL.cons ZR.int (ZL.cons ZR.int (ZL.cons ZR.int (ZL.cons ZR.rsl ZL.nil))))) pl_298) ?_
  refine vX (.iface 298 (.agg (typing_cond.c ({ Cond := x15 : typing_cond })))) (OpV.mkIface Z runUnderlying298 (by intro m; nofun) Z) ?_
  refine vH (OpH.lit (xs := [.tmp 14]) (es := List.map typing_form.enc [typing_form.ctyping_cond ({ Cond := x15 : typing_cond })]) el_221 Z Z Z Z Z ⟨Z, trivial⟩ Z Z) ?_
  refine aV (.osl 2 0 ([typing_form.ctyping_cond ({ Cond := x15 : typing_cond })].length) 1) [_, _, .row 260 1 (List.map typing_form.enc [typing_form.ctyping_cond ({ Cond := x15 : typing_cond })])] Z Z ?_
  refine Bd h13 fun l16 hl16 h13 => ?_
  refine vH (OpH.appO (e := typing_form.enc) hl16 el_221 runUnderlying221 (Src.oM (i := 2))) ?_
  refine aV (.osl 3 0 l16.length 1) [.dead, _, _, .row 260 1 (List.map typing_form.enc l16)] Z Z ?_
  exact S Z (WO.nil (bloN (seqN (TC.region (S Z (S Z (WO.nil (loopN h13 (Lr [3])))))))))
 refine seqN (TC.le hle (Rg (S Z (S Z (Nx (TC.ret ?_))))))
 obtain rfl := Oi h
 refine ⟨[(2, _)], _, _, ?_, ResOK.one Z Z, Z, Z⟩
 exact Lr [0]
def F_i (n : Nat) (a1 : typing_cond) : Option (List typing_form) :=
  (F_cw n a1.Cond.Parts).bind fun r1 => some r1
theorem k_i (n : Nat) (a1 : typing_cond) (r : List typing_form) (h : F_i n a1 = some r) :
    C prog 239 [.agg (typing_cond.c ({ Cond := a1.Cond : typing_cond }))] [] (fun a H => a = .osl 0 0 r.length 1 ∧ H = [.row 260 1 (List.map typing_form.enc r)]) := by
 refine C.of_body func239 Z Z Z ?_
 refine Rg ?_
 refine vH (OpH.box Z Z Z Z Z) ?_
 refine aV (.ptr 0 0) [.cells 298 (typing_cond.c ({ Cond := a1.Cond : typing_cond }))] Z Z ?_
 refine S Z (Nx (Rg (Fp fa_298_0 Z (Fp fa_130_3 Z (Ld isAgg128 Z (Bd h fun r1 hr1 h => ?_))))))
 refine WO.callD [] (OpC.fn call250 Z Z Z) (k_cw _ _ _ hr1) ?_
 rintro _ _ ⟨rfl, rfl⟩
 refine aV (.osl 1 0 r1.length 1) [_, .row 260 1 (List.map typing_form.enc r1)] Z Z ?_
 refine S Z (Nx (TC.ret ?_))
 obtain rfl := Oi h
 refine ⟨[(2, _)], _, _, ?_, ResOK.one Z Z, Z, Z⟩
 exact Lr [1]
def F_gc (n : Nat) (a1 : List typing_form) (a2 : Int) (rec91 : (List typing_form) → Int → typing_count → Option (typing_count × Bool)) (s84 : typing_count × Int) : Option (Ctl (typing_count × Int) (Ctl typing_count (typing_count × Bool))) :=
  (bif decide (s84.2 < (a1.length : Int)) then (idx a1 s84.2).bind fun x88 => typing_form.elim x88 (fun x89 => ((F_q n ({ Cond := x89.Step.Cond : typing_cond })).bind fun r98 => (bif (!r98) then (rec91 [typing_form.ctyping_cond ({ Cond := x89.Step.Cond : typing_cond })] 0 ({ steps := IntKind.i64.wrap (s84.1.steps + 1), conds := s84.1.conds : typing_count })).bind fun r100 => some (r100.1, (!r100.2)) else some ({ steps := IntKind.i64.wrap (s84.1.steps + 1), conds := s84.1.conds : typing_count }, false)) : Option (typing_count × Bool)).bind fun b96 => (bif b96.2 then some (.done (.done (b96.1, false))) else ((bif decide (64 < b96.1.steps) then some (b96.1, true) else (bif decide (256 < b96.1.conds) then some (b96.1, true) else (F_g n x89).bind fun r110 => (rec91 r110 (IntKind.i64.wrap (a2 + 1)) b96.1).bind fun r111 => some (r111.1, (!r111.2)))) : Option (typing_count × Bool)).bind fun b106 => (bif b106.2 then some (.done (.done (b106.1, false))) else some (.cont (b106.1, IntKind.i64.wrap (s84.2 + 1)))))) (fun x91 => ((bif decide (64 < s84.1.steps) then some ({ steps := s84.1.steps, conds := IntKind.i64.wrap (s84.1.conds + 1) : typing_count }, true) else (bif decide (256 < (IntKind.i64.wrap (s84.1.conds + 1))) then some ({ steps := s84.1.steps, conds := IntKind.i64.wrap (s84.1.conds + 1) : typing_count }, true) else (F_i n ({ Cond := x91.Cond : typing_cond })).bind fun r121 => (rec91 r121 (IntKind.i64.wrap (a2 + 1)) ({ steps := s84.1.steps, conds := IntKind.i64.wrap (s84.1.conds + 1) : typing_count })).bind fun r122 => some (r122.1, (!r122.2)))) : Option (typing_count × Bool)).bind fun b117 => (bif b117.2 then some (.done (.done (b117.1, false))) else some (.cont (b117.1, IntKind.i64.wrap (s84.2 + 1))))) else some (.done (.cont s84.1)))
def B_f (rec91 : (List typing_form) → Int → typing_count → Option (typing_count × Bool)) (n : Nat) (a1 : List typing_form) (a2 : Int) (a3 : typing_count) : Option (typing_count × Bool) :=
  ((bif decide (0 < (a1.length : Int)) then some (decide (16 < a2)) else some false) : Option Bool).bind fun b2 => (bif b2 then some (a3, false) else (iter (F_gc n a1 a2 rec91) n (a3, 0) : Option (Ctl typing_count (typing_count × Bool))).bind fun b81 => match b81 with | .cont sb81 => (some (sb81, true)) | .done sb81 => some sb81)
theorem okB_typing_count_within_mqp (rec91 : (List typing_form) → Int → typing_count → Option (typing_count × Bool)) (hrec91 : ∀ (a1 : List typing_form) (a2 : Int) (a3 : typing_count) (r : typing_count × Bool), rec91 a1 a2 a3 = some r → C prog 170 [.ptr 0 0, .osl 1 0 a1.length 1, .int .i64 a2] [.cells 256 (typing_count.c a3), .row 260 1 (List.map typing_form.enc a1)] (fun a H => a = .bool r.2 ∧ H = [.cells 256 (typing_count.c r.1), .row 260 1 (List.map typing_form.enc a1)])) (n : Nat) (a1 : List typing_form) (a2 : Int) (a3 : typing_count) (r : typing_count × Bool) (h : B_f rec91 n a1 a2 a3 = some r) :
    C prog 170 [.ptr 0 0, .osl 1 0 a1.length 1, .int .i64 a2] [.cells 256 (typing_count.c a3), .row 260 1 (List.map typing_form.enc a1)] (fun a H => a = .bool r.2 ∧ H = [.cells 256 (typing_count.c r.1), .row 260 1 (List.map typing_form.enc a1)]) := by
 refine C.of_body func170 Z Z Z ?_
 refine Rg (S Z (Nx (TC.seq (TC.seq (Bd h fun b2 h3 h => ?_)))))
 refine TC.cut ([(0, .ptr 0 0), (1, .osl 1 0 a1.length 1), (2, .int .i64 a2), (18, .bool b2)]) ([.cells 256 (typing_count.c a3), .row 260 1 (List.map typing_form.enc a1)]) ?_ (fun env H hle => ?_)
 ·refine TC.region (S Z (LnO runUnderlying221 Z (S Z (S Z (If h3 (fun hg4 h3 => ?_) (fun hg4 h3 => ?_))))))
  ·refine Sg (gT hg4) Z (Sg (gT hg4) Z (Pk hg4 Z (WO.nil ?_)))
   obtain rfl := Oi h3
   exact cutN (Lr [0, 1])
  ·refine KF hg4 Z (KF hg4 Z (Pk hg4 Z (WO.nil ?_)))
   obtain rfl := Oi h3
   exact cutN (Lr [0, 1])
 refine seqN (TC.le hle (Cn Z h (fun hc5 h => ?_) (fun hc5 h => ?_)))
 ·refine Rg (S Z (Nx (RtR ?_)))
  obtain rfl := Oi h
  refine ⟨[(6, _)], _, _, ?_, ResOK.one Z Z, Z, Z⟩
  exact Lr [0, 1]
 refine SkN (TC.seq (Rg (S Z (LnO runUnderlying221 Z (S Z (Nx (Bd h fun b81 h82 h => ?_)))))))
 refine TC.cutE (b := b81) (fun sb81 => []) (fun sb81 => [.cells 256 (typing_count.c sb81), .row 260 1 (List.map typing_form.enc a1)]) ?_ (fun sb81 env H hbe hle => ?_)
 ·refine TC.block ?_
  refine TC.loop (E := fun s84 => [(0, .ptr 0 0), (2, .int .i64 a2), (19, .osl 1 0 a1.length 1), (20, .int .i64 (a1.length : Int)), (21, .int .i64 s84.2)]) (Hp := fun s84 => [.cells 256 (typing_count.c s84.1), .row 260 1 (List.map typing_form.enc a1)]) h82 ?_ ?_
  ·exact Lr [0, 1]
  intro s84 d85 h86 hb83
  refine Rg (S Z (Nx (TC.seq (CnS Z h86 (fun hc87 h86 => ?_) (fun hc87 h86 => ?_)))))
  ·refine ExX (loopX h86 ?_)
   obtain rfl := hb83 _ (Oi h86).symm
   exact bloE (cutEN Z (Lr [0, 1]))
  refine SkN (TC.seq (TC.block (Rg (Bd h86 fun x88 hx88 h86 => ?_))))
  refine vX (.ptr 1 (Int.toNat s84.2 * 1)) (OpV.ixW hx88 Z runUnderlying221 sizeOf260) ?_
  refine vX (typing_form.val x88) (OpV.load Z isAgg260 Z (Pts.ofRow0 hx88)) ?_
  refine S Z (Nx (TC.seq (Rg (S Z (Nx (TC.block (Rg ?_)))))))
  rcases typing_form.split x88 with ⟨x89, hE90⟩ | ⟨x91, hE92⟩
  ·have h86 := typing_form.elim_0 hE90 h86
   refine WO.le (Le.ov1 (s := 8) (a' := .iface 263 (.agg (typing_step.c x89))) Z (congrArg typing_form.val hE90)) ?_
   refine WO.le (Le.ov1 (s := 24) (a' := .iface 263 (.agg (typing_step.c x89))) Z (congrArg typing_form.val hE90)) ?_
   refine WO.le (Le.ov1 (s := 25) (a' := .iface 263 (.agg (typing_step.c x89))) Z (congrArg typing_form.val hE90)) ?_
   refine vX (.tup [.agg [.int .i64 0, .int .i64 0, .int .i64 0, .rsl 4 (List.map Cond.enc [])], .bool false]) (OpV.taF (z := (.agg [.int .i64 0, .int .i64 0, .int .i64 0, .rsl 4 (List.map Cond.enc [])])) runUnderlying298 (by intro m; nofun) Z zeroValue298 (ZR.agg (ZL.cons ZR.int (ZL.cons ZR.int (ZL.cons ZR.int (ZL.cons ZR.rsl ZL.nil)))))) ?_
   refine S Z (S Z (Nx (CnF Z Z (Rg ?_))))
   refine vX (.tup [.agg (typing_step.c x89), .bool true]) (OpV.taT runUnderlying263 (by intro m; nofun)) ?_
   refine S Z (S Z (Nx (CnT Z Z (Rg ?_))))
   refine vH (OpH.allocZ (v := (.agg [.int .i64 0, .int .i64 0, .int .i64 0, .int .i64 0, .int .i64 0, .rsl 4 (List.map Cond.enc []), .rsl 8 (List.map Step.enc []), .rsl 8 (List.map Step.enc [])])) zeroValue263 (ZR.agg (ZL.cons ZR.int (ZL.cons ZR.int (ZL.cons ZR.int (ZL.cons ZR.int (ZL.cons ZR.int (ZL.cons ZR.rsl (ZL.cons ZR.rsl (ZL.cons ZR.rsl ZL.nil)))))))))) ?_
   refine aV (.ptr 2 0) [_, _, .cells 263 [.int .i64 0, .int .i64 0, .int .i64 0, .int .i64 0, .int .i64 0, .rsl 4 (List.map Cond.enc []), .rsl 8 (List.map Step.enc []), .rsl 8 (List.map Step.enc [])]] Z Z ?_
   refine vU (OpU.store Z Z Z sizeOf263 Z Z Z Z Z Z Z) ?_
   refine WO.atH (H := [_, _, .cells 263 (typing_step.c x89)]) Z ?_
   refine Nx (Rg (S Z (S Z (Fp fa_256_0 Z (Ld isAgg3 Z (S Z (S Z (Fp fa_256_0 Z ?_))))))))
   refine vU (OpU.store Z Z Z sizeOf3 Z Z Z Z Z Z Z) ?_
   refine WO.atH (H := [.cells 256 [.int .i64 (IntKind.i64.wrap (s84.1.steps + 1)), .int .i64 s84.1.conds], _, _]) Z ?_
   refine Nx (Rg (Fp fa_263_0 Z (Fp fa_132_2 Z ?_)))
   refine vX (.agg (Cond.c x89.Step.Cond)) (OpV.loadA Z isAgg130 sizeOf130 Z (Pts.cells Z Z) Z Z) ?_
   refine vX (.agg (typing_cond.c ({ Cond := x89.Step.Cond : typing_cond }))) (OpV.build (zs := [.int .i64 0, .int .i64 0, .int .i64 0, .rsl 4 (List.map Cond.enc [])]) zeroValue298 (ZR.agg (ZL.cons ZR.int (ZL.cons ZR.int (ZL.cons ZR.int (ZL.cons ZR.rsl ZL.nil))))) pl_298) ?_
   refine vH (OpH.allocZ (v := (.agg [.int .i64 0, .int .i64 0, .int .i64 0, .rsl 4 (List.map Cond.enc [])])) zeroValue298 (ZR.agg (ZL.cons ZR.int (ZL.cons ZR.int (ZL.cons ZR.int (ZL.cons ZR.rsl ZL.nil)))))) ?_
   refine aV (.ptr 3 0) [_, _, _, .cells 298 [.int .i64 0, .int .i64 0, .int .i64 0, .rsl 4 (List.map Cond.enc [])]] Z Z ?_
   refine vU (OpU.store Z Z Z sizeOf298 Z Z Z Z Z Z Z) ?_
   refine WO.atH (H := [_, _, _, .cells 298 (typing_cond.c ({ Cond := x89.Step.Cond : typing_cond }))]) Z ?_
   refine Nx (TC.seq (Bd h86 fun b96 h97 h86 => ?_))
   refine TC.cut ([(0, .ptr 0 0), (2, .int .i64 a2), (8, .iface 263 (.agg (typing_step.c x89))), (19, .osl 1 0 a1.length 1), (20, .int .i64 (a1.length : Int)), (21, .int .i64 s84.2), (60, .bool b96.2)]) ([.cells 256 (typing_count.c b96.1), .row 260 1 (List.map typing_form.enc a1)]) ?_ (fun env H hle => ?_)
   ·refine TC.region ?_
    refine vX (.agg (typing_cond.c ({ Cond := x89.Step.Cond : typing_cond }))) (OpV.loadA Z isAgg298 sizeOf298 Z (Pts.cells Z Z) Z Z) ?_
    refine Bd h97 fun r98 hr98 h97 => ?_
    refine WO.callD [] (OpC.fn call217 Z Z Z) (k_q _ _ _ hr98) ?_
    rintro _ _ ⟨rfl, rfl⟩
    refine aV (.bool r98) [_, _, _, _] Z Z ?_
    refine S Z (S Z (If h97 (fun hg99 h97 => ?_) (fun hg99 h97 => ?_)))
    ·refine Sg (gT hg99) Z ?_
     refine vX (.agg (typing_cond.c ({ Cond := x89.Step.Cond : typing_cond }))) (OpV.loadA Z isAgg298 sizeOf298 Z (Pts.cells Z Z) Z Z) ?_ (gT hg99)
     refine vX (.iface 298 (.agg (typing_cond.c ({ Cond := x89.Step.Cond : typing_cond })))) (OpV.mkIface Z runUnderlying298 (by intro m; nofun) Z) ?_ (gT hg99)
     refine vH (OpH.lit (xs := [.tmp 56]) (es := List.map typing_form.enc [typing_form.ctyping_cond ({ Cond := x89.Step.Cond : typing_cond })]) el_221 Z Z Z Z Z ⟨Z, trivial⟩ Z Z) ?_ (gT hg99)
     refine aV (.osl 4 0 ([typing_form.ctyping_cond ({ Cond := x89.Step.Cond : typing_cond })].length) 1) [_, _, _, _, .row 260 1 (List.map typing_form.enc [typing_form.ctyping_cond ({ Cond := x89.Step.Cond : typing_cond })])] Z Z ?_
     refine Bd h97 fun r100 hr100 h97 => ?_
     refine WO.callD [0, 4] (OpC.fn call170 Z Z Z) (hrec91 _ _ _ _ hr100) ?_ (hg := (gT hg99))
     rintro _ _ ⟨rfl, rfl⟩
     refine aV (.bool r100.2) [.cells 256 (typing_count.c r100.1), _, _, _, _] Z Z ?_
     refine Sg (gT hg99) Z (Pk hg99 Z (WO.nil ?_))
     obtain rfl := Oi h97
     exact cutN (Lr [0, 1])
    ·refine KF hg99 Z (KF hg99 Z (KF hg99 Z (KF hg99 Z (KF hg99 Z (KF hg99 Z (Pk hg99 Z (WO.nil ?_)))))))
     obtain rfl := Oi h97
     exact cutN (Lr [0, 1])
   refine seqN (TC.le hle (Cn Z h86 (fun hc101 h86 => ?_) (fun hc101 h86 => ?_)))
   ·refine Rg (S Z (Nx (TC.ret (bloR (seqR (bloR (seqR (loopR h86 ?_))))))))
    obtain rfl := hb83 _ (Oi h86).symm
    refine bloR (cutER (seqR ?_))
    obtain rfl := Oi h
    refine ⟨[(6, _)], _, _, ?_, ResOK.one Z Z, Z, Z⟩
    exact Lr [0, 1]
   refine TC.skip (bloN (seqN (TC.seq (Bd h86 fun b106 h107 h86 => ?_))))
   refine TC.cut ([(0, .ptr 0 0), (2, .int .i64 a2), (19, .osl 1 0 a1.length 1), (20, .int .i64 (a1.length : Int)), (21, .int .i64 s84.2), (81, .bool b106.2)]) ([.cells 256 (typing_count.c b106.1), .row 260 1 (List.map typing_form.enc a1)]) ?_ (fun env H hle => ?_)
   ·refine TC.region (S Z (S Z (Fp fa_256_0 Z (Ld isAgg3 Z (S Z (S Z (If h107 (fun hg108 h107 => ?_) (fun hg108 h107 => ?_))))))))
    ·refine KF hg108 Z (KF hg108 Z (KF hg108 Z (KF hg108 Z (KF hg108 Z (Pk hg108 Z (S Z (KF Z Z (KF Z Z (KF Z Z (KF Z Z (KF Z Z (KF Z Z (KF Z Z (S Z (WO.nil ?_)))))))))))))))
     obtain rfl := Oi h107
     exact cutN (Lr [0, 1])
    ·refine Sg (gT hg108) Z (Sg (gT hg108) Z (Fpg (gT hg108) fa_256_1 Z (Ldg (gT hg108) isAgg3 Z (Sg (gT hg108) Z (Pk hg108 Z (S Z (If h107 (fun hg109 h107 => ?_) (fun hg109 h107 => ?_))))))))
     ·refine KF hg109 Z (KF hg109 Z (KF hg109 Z (KF hg109 Z (KF hg109 Z (KF hg109 Z (KF hg109 Z (Pk hg109 Z (WO.nil ?_))))))))
      obtain rfl := Oi h107
      exact cutN (Lr [0, 1])
     ·refine Sg (gT hg109) Z (Sg (gT hg109) Z (Bd h107 fun r110 hr110 h107 => ?_))
      refine WO.callD [] (OpC.inv call240 Z Z Z Z (fun _ _ => by kernel_rfl)) (k_g _ _ _ hr110) ?_ (hg := (gT hg109))
      rintro _ _ ⟨rfl, rfl⟩
      refine aV (.osl 2 0 r110.length 1) [_, _, .row 260 1 (List.map typing_form.enc r110)] Z Z ?_
      refine Sg (gT hg109) Z (Sg (gT hg109) Z (Bd h107 fun r111 hr111 h107 => ?_))
      refine WO.callD [0, 2] (OpC.fn call170 Z Z Z) (hrec91 _ _ _ _ hr111) ?_ (hg := (gT hg109))
      rintro _ _ ⟨rfl, rfl⟩
      refine aV (.bool r111.2) [.cells 256 (typing_count.c r111.1), _, _] Z Z ?_
      refine Sg (gT hg109) Z (Pk hg109 Z (WO.nil ?_))
      obtain rfl := Oi h107
      exact cutN (Lr [0, 1])
   refine seqN (TC.le hle (Cn Z h86 (fun hc112 h86 => ?_) (fun hc112 h86 => ?_)))
   ·refine Rg (S Z (Nx (TC.ret (bloR (seqR (loopR h86 ?_))))))
    obtain rfl := hb83 _ (Oi h86).symm
    refine bloR (cutER (seqR ?_))
    obtain rfl := Oi h
    refine ⟨[(6, _)], _, _, ?_, ResOK.one Z Z, Z, Z⟩
    exact Lr [0, 1]
   exact TC.skip (bloN (seqN (TC.region (S Z (S Z (WO.nil (loopN h86 (Lr [0, 1]))))))))
  ·have h86 := typing_form.elim_1 hE92 h86
   refine WO.le (Le.ov1 (s := 8) (a' := .iface 298 (.agg (typing_cond.c ({ Cond := x91.Cond : typing_cond })))) Z (congrArg typing_form.val hE92)) ?_
   refine WO.le (Le.ov1 (s := 24) (a' := .iface 298 (.agg (typing_cond.c ({ Cond := x91.Cond : typing_cond })))) Z (congrArg typing_form.val hE92)) ?_
   refine WO.le (Le.ov1 (s := 25) (a' := .iface 298 (.agg (typing_cond.c ({ Cond := x91.Cond : typing_cond })))) Z (congrArg typing_form.val hE92)) ?_
   refine vX (.tup [.agg (typing_cond.c ({ Cond := x91.Cond : typing_cond })), .bool true]) (OpV.taT runUnderlying298 (by intro m; nofun)) ?_
   refine S Z (S Z (Nx (CnT Z Z (Rg ?_))))
   refine vH (OpH.allocZ (v := (.agg [.int .i64 0, .int .i64 0, .int .i64 0, .rsl 4 (List.map Cond.enc [])])) zeroValue298 (ZR.agg (ZL.cons ZR.int (ZL.cons ZR.int (ZL.cons ZR.int (ZL.cons ZR.rsl ZL.nil)))))) ?_
   refine aV (.ptr 2 0) [_, _, .cells 298 [.int .i64 0, .int .i64 0, .int .i64 0, .rsl 4 (List.map Cond.enc [])]] Z Z ?_
   refine vU (OpU.store Z Z Z sizeOf298 Z Z Z Z Z Z Z) ?_
   refine WO.atH (H := [_, _, .cells 298 (typing_cond.c ({ Cond := x91.Cond : typing_cond }))]) Z ?_
   refine Nx (TC.region (S Z (S Z (Fp fa_256_1 Z (Ld isAgg3 Z (S Z (S Z (Fp fa_256_1 Z ?_))))))))
   refine vU (OpU.store Z Z Z sizeOf3 Z Z Z Z Z Z Z) ?_
   refine WO.atH (H := [.cells 256 [.int .i64 s84.1.steps, .int .i64 (IntKind.i64.wrap (s84.1.conds + 1))], _, _]) Z ?_
   refine WO.nil (bloN (seqN (TC.seq (Bd h86 fun b117 h118 h86 => ?_))))
   refine TC.cut ([(0, .ptr 0 0), (2, .int .i64 a2), (19, .osl 1 0 a1.length 1), (20, .int .i64 (a1.length : Int)), (21, .int .i64 s84.2), (81, .bool b117.2)]) ([.cells 256 (typing_count.c b117.1), .row 260 1 (List.map typing_form.enc a1)]) ?_ (fun env H hle => ?_)
   ·refine TC.region (S Z (S Z (Fp fa_256_0 Z (Ld isAgg3 Z (S Z (S Z (If h118 (fun hg119 h118 => ?_) (fun hg119 h118 => ?_))))))))
    ·refine KF hg119 Z (KF hg119 Z (KF hg119 Z (KF hg119 Z (KF hg119 Z (Pk hg119 Z (S Z (KF Z Z (KF Z Z (KF Z Z (KF Z Z (KF Z Z (KF Z Z (KF Z Z (S Z (WO.nil ?_)))))))))))))))
     obtain rfl := Oi h118
     exact cutN (Lr [0, 1])
    ·refine Sg (gT hg119) Z (Sg (gT hg119) Z (Fpg (gT hg119) fa_256_1 Z (Ldg (gT hg119) isAgg3 Z (Sg (gT hg119) Z (Pk hg119 Z (S Z (If h118 (fun hg120 h118 => ?_) (fun hg120 h118 => ?_))))))))
     ·refine KF hg120 Z (KF hg120 Z (KF hg120 Z (KF hg120 Z (KF hg120 Z (KF hg120 Z (KF hg120 Z (Pk hg120 Z (WO.nil ?_))))))))
      obtain rfl := Oi h118
      exact cutN (Lr [0, 1])
     ·refine Sg (gT hg120) Z (Sg (gT hg120) Z (Bd h118 fun r121 hr121 h118 => ?_))
      refine WO.callD [] (OpC.inv call239 Z Z Z Z (fun _ _ => by kernel_rfl)) (k_i _ _ _ hr121) ?_ (hg := (gT hg120))
      rintro _ _ ⟨rfl, rfl⟩
      refine aV (.osl 3 0 r121.length 1) [_, _, _, .row 260 1 (List.map typing_form.enc r121)] Z Z ?_
      refine Sg (gT hg120) Z (Sg (gT hg120) Z (Bd h118 fun r122 hr122 h118 => ?_))
      refine WO.callD [0, 3] (OpC.fn call170 Z Z Z) (hrec91 _ _ _ _ hr122) ?_ (hg := (gT hg120))
      rintro _ _ ⟨rfl, rfl⟩
      refine aV (.bool r122.2) [.cells 256 (typing_count.c r122.1), _, _, _] Z Z ?_
      refine Sg (gT hg120) Z (Pk hg120 Z (WO.nil ?_))
      obtain rfl := Oi h118
      exact cutN (Lr [0, 1])
   refine seqN (TC.le hle (Cn Z h86 (fun hc123 h86 => ?_) (fun hc123 h86 => ?_)))
   ·refine Rg (S Z (Nx (TC.ret (bloR (seqR (loopR h86 ?_))))))
    obtain rfl := hb83 _ (Oi h86).symm
    refine bloR (cutER (seqR ?_))
    obtain rfl := Oi h
    refine ⟨[(6, _)], _, _, ?_, ResOK.one Z Z, Z, Z⟩
    exact Lr [0, 1]
   exact TC.skip (bloN (seqN (TC.region (S Z (S Z (WO.nil (loopN h86 (Lr [0, 1]))))))))
 subst hbe
 refine seqN (TC.le hle (Rg (S Z (Nx (TC.ret ?_)))))
 obtain rfl := Oi h
 refine ⟨[(6, _)], _, _, ?_, ResOK.one Z Z, Z, Z⟩
 exact Lr [0, 1]
def F_f : Nat → (List typing_form) → Int → typing_count → Option (typing_count × Bool)
  | 0 => fun _ _ _ => none
  | n + 1 => B_f (F_f n) n
theorem k_f (n : Nat) : ∀ (a1 : List typing_form) (a2 : Int) (a3 : typing_count) (r : typing_count × Bool), F_f n a1 a2 a3 = some r → C prog 170 [.ptr 0 0, .osl 1 0 a1.length 1, .int .i64 a2] [.cells 256 (typing_count.c a3), .row 260 1 (List.map typing_form.enc a1)] (fun a H => a = .bool r.2 ∧ H = [.cells 256 (typing_count.c r.1), .row 260 1 (List.map typing_form.enc a1)]) := by
  induction n with
  | zero => intro a1 a2 a3 r h; cases h
  | succ n ih => intro a1 a2 a3 r h; exact okB_typing_count_within_mqp _ ih n a1 a2 a3 r h
def F_fa (n : Nat) (a1 : List typing_form) (a2 : Int) (s84 : typing_count × Int) : Option (Ctl (typing_count × Int) (Ctl typing_count (typing_count × Bool))) :=
  (bif decide (s84.2 < (a1.length : Int)) then (idx a1 s84.2).bind fun x88 => typing_form.elim x88 (fun x89 => ((F_q n ({ Cond := x89.Step.Cond : typing_cond })).bind fun r98 => (bif (!r98) then (F_f n [typing_form.ctyping_cond ({ Cond := x89.Step.Cond : typing_cond })] 0 ({ steps := IntKind.i64.wrap (s84.1.steps + 1), conds := s84.1.conds : typing_count })).bind fun r100 => some (r100.1, (!r100.2)) else some ({ steps := IntKind.i64.wrap (s84.1.steps + 1), conds := s84.1.conds : typing_count }, false)) : Option (typing_count × Bool)).bind fun b96 => (bif b96.2 then some (.done (.done (b96.1, false))) else ((bif decide (64 < b96.1.steps) then some (b96.1, true) else (bif decide (256 < b96.1.conds) then some (b96.1, true) else (F_g n x89).bind fun r110 => (F_f n r110 (IntKind.i64.wrap (a2 + 1)) b96.1).bind fun r111 => some (r111.1, (!r111.2)))) : Option (typing_count × Bool)).bind fun b106 => (bif b106.2 then some (.done (.done (b106.1, false))) else some (.cont (b106.1, IntKind.i64.wrap (s84.2 + 1)))))) (fun x91 => ((bif decide (64 < s84.1.steps) then some ({ steps := s84.1.steps, conds := IntKind.i64.wrap (s84.1.conds + 1) : typing_count }, true) else (bif decide (256 < (IntKind.i64.wrap (s84.1.conds + 1))) then some ({ steps := s84.1.steps, conds := IntKind.i64.wrap (s84.1.conds + 1) : typing_count }, true) else (F_i n ({ Cond := x91.Cond : typing_cond })).bind fun r121 => (F_f n r121 (IntKind.i64.wrap (a2 + 1)) ({ steps := s84.1.steps, conds := IntKind.i64.wrap (s84.1.conds + 1) : typing_count })).bind fun r122 => some (r122.1, (!r122.2)))) : Option (typing_count × Bool)).bind fun b117 => (bif b117.2 then some (.done (.done (b117.1, false))) else some (.cont (b117.1, IntKind.i64.wrap (s84.2 + 1))))) else some (.done (.cont s84.1)))
def F_bc (n : Nat) (a1 : List typing_form) (a2 : Int) (a3 : typing_count) : Option (typing_count × Bool) :=
  ((bif decide (0 < (a1.length : Int)) then some (decide (16 < a2)) else some false) : Option Bool).bind fun b2 => (bif b2 then some (a3, false) else (iter (F_fa n a1 a2) n (a3, 0) : Option (Ctl typing_count (typing_count × Bool))).bind fun b81 => match b81 with | .cont sb81 => (some (sb81, true)) | .done sb81 => some sb81)
theorem k_bc (n : Nat) (a1 : List typing_form) (a2 : Int) (a3 : typing_count) (r : typing_count × Bool) (h : F_bc n a1 a2 a3 = some r) :
    C prog 170 [.ptr 0 0, .rsl 1 (List.map typing_form.enc a1), .int .i64 a2] [.cells 256 (typing_count.c a3)] (fun a H => a = .bool r.2 ∧ H = [.cells 256 (typing_count.c r.1)]) := by
 refine C.of_body func170 Z Z Z ?_
 refine Rg (S Z (Nx (TC.seq (TC.seq (Bd h fun b2 h3 h => ?_)))))
 refine TC.cut ([(0, .ptr 0 0), (1, .rsl 1 (List.map typing_form.enc a1)), (2, .int .i64 a2), (18, .bool b2)]) ([.cells 256 (typing_count.c a3)]) ?_ (fun env H hle => ?_)
 ·refine TC.region (S Z (LnM runUnderlying221 Z (S Z (S Z (If h3 (fun hg4 h3 => ?_) (fun hg4 h3 => ?_))))))
  ·refine Sg (gT hg4) Z (Sg (gT hg4) Z (Pk hg4 Z (WO.nil ?_)))
   obtain rfl := Oi h3
   exact cutN (Lr [0])
  ·refine KF hg4 Z (KF hg4 Z (Pk hg4 Z (WO.nil ?_)))
   obtain rfl := Oi h3
   exact cutN (Lr [0])
 refine seqN (TC.le hle (Cn Z h (fun hc5 h => ?_) (fun hc5 h => ?_)))
 ·refine Rg (S Z (Nx (RtR ?_)))
  obtain rfl := Oi h
  refine ⟨[(6, _)], _, _, ?_, ResOK.one Z Z, Z, Z⟩
  exact Lr [0]
 refine SkN (TC.seq (Rg (S Z (LnM runUnderlying221 Z (S Z (Nx (Bd h fun b81 h82 h => ?_)))))))
 refine TC.cutE (b := b81) (fun sb81 => []) (fun sb81 => [.cells 256 (typing_count.c sb81)]) ?_ (fun sb81 env H hbe hle => ?_)
 ·refine TC.block ?_
  refine TC.loop (E := fun s84 => [(0, .ptr 0 0), (2, .int .i64 a2), (19, .rsl 1 (List.map typing_form.enc a1)), (20, .int .i64 (a1.length : Int)), (21, .int .i64 s84.2)]) (Hp := fun s84 => [.cells 256 (typing_count.c s84.1)]) h82 ?_ ?_
  ·exact Lr [0]
  intro s84 d85 h86 hb83
  refine Rg (S Z (Nx (TC.seq (CnS Z h86 (fun hc87 h86 => ?_) (fun hc87 h86 => ?_)))))
  ·refine ExX (loopX h86 ?_)
   obtain rfl := hb83 _ (Oi h86).symm
   exact bloE (cutEN Z (Lr [0]))
  refine SkN (TC.seq (TC.block (Rg (Bd h86 fun x88 hx88 h86 => Ix hx88 runUnderlying221 sizeOf260 Z (Ld isAgg260 Z (S Z (Nx (TC.seq (Rg (S Z (Nx (TC.block (Rg ?_)))))))))))))
  rcases typing_form.split x88 with ⟨x89, hE90⟩ | ⟨x91, hE92⟩
  ·have h86 := typing_form.elim_0 hE90 h86
   refine WO.le (Le.ov1 (s := 8) (a' := .iface 263 (.agg (typing_step.c x89))) Z (congrArg typing_form.val hE90)) ?_
   refine WO.le (Le.ov1 (s := 24) (a' := .iface 263 (.agg (typing_step.c x89))) Z (congrArg typing_form.val hE90)) ?_
   refine WO.le (Le.ov1 (s := 25) (a' := .iface 263 (.agg (typing_step.c x89))) Z (congrArg typing_form.val hE90)) ?_
   refine vX (.tup [.agg [.int .i64 0, .int .i64 0, .int .i64 0, .rsl 4 (List.map Cond.enc [])], .bool false]) (OpV.taF (z := (.agg [.int .i64 0, .int .i64 0, .int .i64 0, .rsl 4 (List.map Cond.enc [])])) runUnderlying298 (by intro m; nofun) Z zeroValue298 (ZR.agg (ZL.cons ZR.int (ZL.cons ZR.int (ZL.cons ZR.int (ZL.cons ZR.rsl ZL.nil)))))) ?_
   refine S Z (S Z (Nx (CnF Z Z (Rg ?_))))
   refine vX (.tup [.agg (typing_step.c x89), .bool true]) (OpV.taT runUnderlying263 (by intro m; nofun)) ?_
   refine S Z (S Z (Nx (CnT Z Z (Rg ?_))))
   refine vH (OpH.allocZ (v := (.agg [.int .i64 0, .int .i64 0, .int .i64 0, .int .i64 0, .int .i64 0, .rsl 4 (List.map Cond.enc []), .rsl 8 (List.map Step.enc []), .rsl 8 (List.map Step.enc [])])) zeroValue263 (ZR.agg (ZL.cons ZR.int (ZL.cons ZR.int (ZL.cons ZR.int (ZL.cons ZR.int (ZL.cons ZR.int (ZL.cons ZR.rsl (ZL.cons ZR.rsl (ZL.cons ZR.rsl ZL.nil)))))))))) ?_
   refine aV (.ptr 1 0) [_, .cells 263 [.int .i64 0, .int .i64 0, .int .i64 0, .int .i64 0, .int .i64 0, .rsl 4 (List.map Cond.enc []), .rsl 8 (List.map Step.enc []), .rsl 8 (List.map Step.enc [])]] Z Z ?_
   refine vU (OpU.store Z Z Z sizeOf263 Z Z Z Z Z Z Z) ?_
   refine WO.atH (H := [_, .cells 263 (typing_step.c x89)]) Z ?_
   refine Nx (Rg (S Z (S Z (Fp fa_256_0 Z (Ld isAgg3 Z (S Z (S Z (Fp fa_256_0 Z ?_))))))))
   refine vU (OpU.store Z Z Z sizeOf3 Z Z Z Z Z Z Z) ?_
   refine WO.atH (H := [.cells 256 [.int .i64 (IntKind.i64.wrap (s84.1.steps + 1)), .int .i64 s84.1.conds], _]) Z ?_
   refine Nx (Rg (Fp fa_263_0 Z (Fp fa_132_2 Z ?_)))
   refine vX (.agg (Cond.c x89.Step.Cond)) (OpV.loadA Z isAgg130 sizeOf130 Z (Pts.cells Z Z) Z Z) ?_
   refine vX (.agg (typing_cond.c ({ Cond := x89.Step.Cond : typing_cond }))) (OpV.build (zs := [.int .i64 0, .int .i64 0, .int .i64 0, .rsl 4 (List.map Cond.enc [])]) zeroValue298 (ZR.agg (ZL.cons ZR.int (ZL.cons ZR.int (ZL.cons ZR.int (ZL.cons ZR.rsl ZL.nil))))) pl_298) ?_
   refine vH (OpH.allocZ (v := (.agg [.int .i64 0, .int .i64 0, .int .i64 0, .rsl 4 (List.map Cond.enc [])])) zeroValue298 (ZR.agg (ZL.cons ZR.int (ZL.cons ZR.int (ZL.cons ZR.int (ZL.cons ZR.rsl ZL.nil)))))) ?_
   refine aV (.ptr 2 0) [_, _, .cells 298 [.int .i64 0, .int .i64 0, .int .i64 0, .rsl 4 (List.map Cond.enc [])]] Z Z ?_
   refine vU (OpU.store Z Z Z sizeOf298 Z Z Z Z Z Z Z) ?_
   refine WO.atH (H := [_, _, .cells 298 (typing_cond.c ({ Cond := x89.Step.Cond : typing_cond }))]) Z ?_
   refine Nx (TC.seq (Bd h86 fun b96 h97 h86 => ?_))
   refine TC.cut ([(0, .ptr 0 0), (2, .int .i64 a2), (8, .iface 263 (.agg (typing_step.c x89))), (19, .rsl 1 (List.map typing_form.enc a1)), (20, .int .i64 (a1.length : Int)), (21, .int .i64 s84.2), (60, .bool b96.2)]) ([.cells 256 (typing_count.c b96.1)]) ?_ (fun env H hle => ?_)
   ·refine TC.region ?_
    refine vX (.agg (typing_cond.c ({ Cond := x89.Step.Cond : typing_cond }))) (OpV.loadA Z isAgg298 sizeOf298 Z (Pts.cells Z Z) Z Z) ?_
    refine Bd h97 fun r98 hr98 h97 => ?_
    refine WO.callD [] (OpC.fn call217 Z Z Z) (k_q _ _ _ hr98) ?_
    rintro _ _ ⟨rfl, rfl⟩
    refine aV (.bool r98) [_, _, _] Z Z ?_
    refine S Z (S Z (If h97 (fun hg99 h97 => ?_) (fun hg99 h97 => ?_)))
    ·refine Sg (gT hg99) Z ?_
     refine vX (.agg (typing_cond.c ({ Cond := x89.Step.Cond : typing_cond }))) (OpV.loadA Z isAgg298 sizeOf298 Z (Pts.cells Z Z) Z Z) ?_ (gT hg99)
     refine vX (.iface 298 (.agg (typing_cond.c ({ Cond := x89.Step.Cond : typing_cond })))) (OpV.mkIface Z runUnderlying298 (by intro m; nofun) Z) ?_ (gT hg99)
     refine vH (OpH.lit (xs := [.tmp 56]) (es := List.map typing_form.enc [typing_form.ctyping_cond ({ Cond := x89.Step.Cond : typing_cond })]) el_221 Z Z Z Z Z ⟨Z, trivial⟩ Z Z) ?_ (gT hg99)
     refine aV (.osl 3 0 ([typing_form.ctyping_cond ({ Cond := x89.Step.Cond : typing_cond })].length) 1) [_, _, _, .row 260 1 (List.map typing_form.enc [typing_form.ctyping_cond ({ Cond := x89.Step.Cond : typing_cond })])] Z Z ?_
     refine Bd h97 fun r100 hr100 h97 => ?_
     refine WO.callD [0, 3] (OpC.fn call170 Z Z Z) (k_f _ _ _ _ _ hr100) ?_ (hg := (gT hg99))
     rintro _ _ ⟨rfl, rfl⟩
     refine aV (.bool r100.2) [.cells 256 (typing_count.c r100.1), _, _, _] Z Z ?_
     refine Sg (gT hg99) Z (Pk hg99 Z (WO.nil ?_))
     obtain rfl := Oi h97
     exact cutN (Lr [0])
    ·refine KF hg99 Z (KF hg99 Z (KF hg99 Z (KF hg99 Z (KF hg99 Z (KF hg99 Z (Pk hg99 Z (WO.nil ?_)))))))
     obtain rfl := Oi h97
     exact cutN (Lr [0])
   refine seqN (TC.le hle (Cn Z h86 (fun hc101 h86 => ?_) (fun hc101 h86 => ?_)))
   ·refine Rg (S Z (Nx (TC.ret (bloR (seqR (bloR (seqR (loopR h86 ?_))))))))
    obtain rfl := hb83 _ (Oi h86).symm
    refine bloR (cutER (seqR ?_))
    obtain rfl := Oi h
    refine ⟨[(6, _)], _, _, ?_, ResOK.one Z Z, Z, Z⟩
    exact Lr [0]
   refine TC.skip (bloN (seqN (TC.seq (Bd h86 fun b106 h107 h86 => ?_))))
   refine TC.cut ([(0, .ptr 0 0), (2, .int .i64 a2), (19, .rsl 1 (List.map typing_form.enc a1)), (20, .int .i64 (a1.length : Int)), (21, .int .i64 s84.2), (81, .bool b106.2)]) ([.cells 256 (typing_count.c b106.1)]) ?_ (fun env H hle => ?_)
   ·refine TC.region (S Z (S Z (Fp fa_256_0 Z (Ld isAgg3 Z (S Z (S Z (If h107 (fun hg108 h107 => ?_) (fun hg108 h107 => ?_))))))))
    ·refine KF hg108 Z (KF hg108 Z (KF hg108 Z (KF hg108 Z (KF hg108 Z (Pk hg108 Z (S Z (KF Z Z (KF Z Z (KF Z Z (KF Z Z (KF Z Z (KF Z Z (KF Z Z (S Z (WO.nil ?_)))))))))))))))
     obtain rfl := Oi h107
     exact cutN (Lr [0])
    ·refine Sg (gT hg108) Z (Sg (gT hg108) Z (Fpg (gT hg108) fa_256_1 Z (Ldg (gT hg108) isAgg3 Z (Sg (gT hg108) Z (Pk hg108 Z (S Z (If h107 (fun hg109 h107 => ?_) (fun hg109 h107 => ?_))))))))
     ·refine KF hg109 Z (KF hg109 Z (KF hg109 Z (KF hg109 Z (KF hg109 Z (KF hg109 Z (KF hg109 Z (Pk hg109 Z (WO.nil ?_))))))))
      obtain rfl := Oi h107
      exact cutN (Lr [0])
     ·refine Sg (gT hg109) Z (Sg (gT hg109) Z (Bd h107 fun r110 hr110 h107 => ?_))
      refine WO.callD [] (OpC.inv call240 Z Z Z Z (fun _ _ => by kernel_rfl)) (k_g _ _ _ hr110) ?_ (hg := (gT hg109))
      rintro _ _ ⟨rfl, rfl⟩
      refine aV (.osl 1 0 r110.length 1) [_, .row 260 1 (List.map typing_form.enc r110)] Z Z ?_
      refine Sg (gT hg109) Z (Sg (gT hg109) Z (Bd h107 fun r111 hr111 h107 => ?_))
      refine WO.callD [0, 1] (OpC.fn call170 Z Z Z) (k_f _ _ _ _ _ hr111) ?_ (hg := (gT hg109))
      rintro _ _ ⟨rfl, rfl⟩
      refine aV (.bool r111.2) [.cells 256 (typing_count.c r111.1), _] Z Z ?_
      refine Sg (gT hg109) Z (Pk hg109 Z (WO.nil ?_))
      obtain rfl := Oi h107
      exact cutN (Lr [0])
   refine seqN (TC.le hle (Cn Z h86 (fun hc112 h86 => ?_) (fun hc112 h86 => ?_)))
   ·refine Rg (S Z (Nx (TC.ret (bloR (seqR (loopR h86 ?_))))))
    obtain rfl := hb83 _ (Oi h86).symm
    refine bloR (cutER (seqR ?_))
    obtain rfl := Oi h
    refine ⟨[(6, _)], _, _, ?_, ResOK.one Z Z, Z, Z⟩
    exact Lr [0]
   exact TC.skip (bloN (seqN (TC.region (S Z (S Z (WO.nil (loopN h86 (Lr [0]))))))))
  ·have h86 := typing_form.elim_1 hE92 h86
   refine WO.le (Le.ov1 (s := 8) (a' := .iface 298 (.agg (typing_cond.c ({ Cond := x91.Cond : typing_cond })))) Z (congrArg typing_form.val hE92)) ?_
   refine WO.le (Le.ov1 (s := 24) (a' := .iface 298 (.agg (typing_cond.c ({ Cond := x91.Cond : typing_cond })))) Z (congrArg typing_form.val hE92)) ?_
   refine WO.le (Le.ov1 (s := 25) (a' := .iface 298 (.agg (typing_cond.c ({ Cond := x91.Cond : typing_cond })))) Z (congrArg typing_form.val hE92)) ?_
   refine vX (.tup [.agg (typing_cond.c ({ Cond := x91.Cond : typing_cond })), .bool true]) (OpV.taT runUnderlying298 (by intro m; nofun)) ?_
   refine S Z (S Z (Nx (CnT Z Z (Rg ?_))))
   refine vH (OpH.allocZ (v := (.agg [.int .i64 0, .int .i64 0, .int .i64 0, .rsl 4 (List.map Cond.enc [])])) zeroValue298 (ZR.agg (ZL.cons ZR.int (ZL.cons ZR.int (ZL.cons ZR.int (ZL.cons ZR.rsl ZL.nil)))))) ?_
   refine aV (.ptr 1 0) [_, .cells 298 [.int .i64 0, .int .i64 0, .int .i64 0, .rsl 4 (List.map Cond.enc [])]] Z Z ?_
   refine vU (OpU.store Z Z Z sizeOf298 Z Z Z Z Z Z Z) ?_
   refine WO.atH (H := [_, .cells 298 (typing_cond.c ({ Cond := x91.Cond : typing_cond }))]) Z ?_
   refine Nx (TC.region (S Z (S Z (Fp fa_256_1 Z (Ld isAgg3 Z (S Z (S Z (Fp fa_256_1 Z ?_))))))))
   refine vU (OpU.store Z Z Z sizeOf3 Z Z Z Z Z Z Z) ?_
   refine WO.atH (H := [.cells 256 [.int .i64 s84.1.steps, .int .i64 (IntKind.i64.wrap (s84.1.conds + 1))], _]) Z ?_
   refine WO.nil (bloN (seqN (TC.seq (Bd h86 fun b117 h118 h86 => ?_))))
   refine TC.cut ([(0, .ptr 0 0), (2, .int .i64 a2), (19, .rsl 1 (List.map typing_form.enc a1)), (20, .int .i64 (a1.length : Int)), (21, .int .i64 s84.2), (81, .bool b117.2)]) ([.cells 256 (typing_count.c b117.1)]) ?_ (fun env H hle => ?_)
   ·refine TC.region (S Z (S Z (Fp fa_256_0 Z (Ld isAgg3 Z (S Z (S Z (If h118 (fun hg119 h118 => ?_) (fun hg119 h118 => ?_))))))))
    ·refine KF hg119 Z (KF hg119 Z (KF hg119 Z (KF hg119 Z (KF hg119 Z (Pk hg119 Z (S Z (KF Z Z (KF Z Z (KF Z Z (KF Z Z (KF Z Z (KF Z Z (KF Z Z (S Z (WO.nil ?_)))))))))))))))
     obtain rfl := Oi h118
     exact cutN (Lr [0])
    ·refine Sg (gT hg119) Z (Sg (gT hg119) Z (Fpg (gT hg119) fa_256_1 Z (Ldg (gT hg119) isAgg3 Z (Sg (gT hg119) Z (Pk hg119 Z (S Z (If h118 (fun hg120 h118 => ?_) (fun hg120 h118 => ?_))))))))
     ·refine KF hg120 Z (KF hg120 Z (KF hg120 Z (KF hg120 Z (KF hg120 Z (KF hg120 Z (KF hg120 Z (Pk hg120 Z (WO.nil ?_))))))))
      obtain rfl := Oi h118
      exact cutN (Lr [0])
     ·refine Sg (gT hg120) Z (Sg (gT hg120) Z (Bd h118 fun r121 hr121 h118 => ?_))
      refine WO.callD [] (OpC.inv call239 Z Z Z Z (fun _ _ => by kernel_rfl)) (k_i _ _ _ hr121) ?_ (hg := (gT hg120))
      rintro _ _ ⟨rfl, rfl⟩
      refine aV (.osl 2 0 r121.length 1) [_, _, .row 260 1 (List.map typing_form.enc r121)] Z Z ?_
      refine Sg (gT hg120) Z (Sg (gT hg120) Z (Bd h118 fun r122 hr122 h118 => ?_))
      refine WO.callD [0, 2] (OpC.fn call170 Z Z Z) (k_f _ _ _ _ _ hr122) ?_ (hg := (gT hg120))
      rintro _ _ ⟨rfl, rfl⟩
      refine aV (.bool r122.2) [.cells 256 (typing_count.c r122.1), _, _] Z Z ?_
      refine Sg (gT hg120) Z (Pk hg120 Z (WO.nil ?_))
      obtain rfl := Oi h118
      exact cutN (Lr [0])
   refine seqN (TC.le hle (Cn Z h86 (fun hc123 h86 => ?_) (fun hc123 h86 => ?_)))
   ·refine Rg (S Z (Nx (TC.ret (bloR (seqR (loopR h86 ?_))))))
    obtain rfl := hb83 _ (Oi h86).symm
    refine bloR (cutER (seqR ?_))
    obtain rfl := Oi h
    refine ⟨[(6, _)], _, _, ?_, ResOK.one Z Z, Z, Z⟩
    exact Lr [0]
   exact TC.skip (bloN (seqN (TC.region (S Z (S Z (WO.nil (loopN h86 (Lr [0]))))))))
 subst hbe
 refine seqN (TC.le hle (Rg (S Z (Nx (TC.ret ?_)))))
 obtain rfl := Oi h
 refine ⟨[(6, _)], _, _, ?_, ResOK.one Z Z, Z, Z⟩
 exact Lr [0]
def F_am (rec95 : (List typing_form) → Option Bool) (n : Nat) (a1 : typing_cond) : Option Bool :=
  ((bif (a1.Cond.Var == 0) then some (a1.Cond.N == 0) else some false) : Option Bool).bind fun b2 => (bif (a1.Cond.Kind == 1) then ((F_a n 1 3 [a1.Cond.Var]).bind fun r12 => (bif r12 then (F_a n 0 10000 [a1.Cond.N]).bind fun r14 => (bif r14 then some ((a1.Cond.Parts.length : Int) == 0) else some false) else some false) : Option Bool).bind fun b10 => some b10 else ((bif (a1.Cond.Kind == 4) then (bif b2 then some (.cont ((a1.Cond.Parts.length : Int) == 1)) else some (.cont false)) else ((bif (a1.Cond.Kind == 2) then some (a1.Cond.Kind == 2) else some (a1.Cond.Kind == 3)) : Option Bool).bind fun b30 => (bif b30 then (bif b2 then (bif decide (0 < (a1.Cond.Parts.length : Int)) then some (.cont (decide ((a1.Cond.Parts.length : Int) ≤ 16))) else some (.cont false)) else some (.cont false)) else some (.done false))) : Option (Ctl Bool Bool)).bind fun b25 => match b25 with | .cont sb25 => (((bif sb25 then (F_i n ({ Cond := a1.Cond : typing_cond })).bind fun r42 => (rec95 r42).bind fun r43 => some (!r43) else some false) : Option Bool).bind fun b39 => some b39) | .done sb25 => some sb25)
theorem k_am (rec95 : (List typing_form) → Option Bool) (hrec95 : ∀ (a1 : List typing_form) (r : Bool), rec95 a1 = some r → C prog 171 [.rsl 1 (List.map typing_form.enc a1), .fn (.func 172) [] []] [] (fun a H => a = .bool r ∧ H = [])) (n : Nat) (a1 : typing_cond) (r : Bool) (h : F_am rec95 n a1 = some r) :
    C prog 219 [.iface 298 (.agg (typing_cond.c ({ Cond := a1.Cond : typing_cond })))] [] (fun a H => a = .bool r ∧ H = []) := by
 refine C.of_body func219 Z Z Z ?_
 refine Rg (S Z (Nx (TC.seq (Rg (S Z (Nx (TC.block (Rg ?_))))))))
 refine vX (.tup [.agg (typing_cond.c ({ Cond := a1.Cond : typing_cond })), .bool true]) (OpV.taT runUnderlying298 (by intro m; nofun)) ?_
 refine S Z (S Z (Nx (CnT Z Z (Rg ?_))))
 refine vH (OpH.allocZ (v := (.agg [.int .i64 0, .int .i64 0, .int .i64 0, .rsl 4 (List.map Cond.enc [])])) zeroValue298 (ZR.agg (ZL.cons ZR.int (ZL.cons ZR.int (ZL.cons ZR.int (ZL.cons ZR.rsl ZL.nil)))))) ?_
 refine aV (.ptr 0 0) [.cells 298 [.int .i64 0, .int .i64 0, .int .i64 0, .rsl 4 (List.map Cond.enc [])]] Z Z ?_
 refine vU (OpU.store Z Z Z sizeOf298 Z Z Z Z Z Z Z) ?_
 refine WO.atH (H := [.cells 298 (typing_cond.c ({ Cond := a1.Cond : typing_cond }))]) Z ?_
 refine Nx (TC.seq (Bd h fun b2 h3 h => ?_))
 refine TC.cut ([(3, .ptr 0 0), (4, .bool b2)]) ([.cells 298 (typing_cond.c ({ Cond := a1.Cond : typing_cond }))]) ?_ (fun env H hle => ?_)
 ·refine TC.region (Fp fa_298_0 Z (Fp fa_130_1 Z (Ld isAgg3 Z (S Z (S Z (If h3 (fun hg4 h3 => ?_) (fun hg4 h3 => ?_)))))))
  ·refine Fpg (gT hg4) fa_298_0 Z (Fpg (gT hg4) fa_130_2 Z (Ldg (gT hg4) isAgg3 Z (Sg (gT hg4) Z (Pk hg4 Z (S Z (WO.nil ?_))))))
   obtain rfl := Oi h3
   exact cutN (Lr [0])
  ·refine KF hg4 Z (KF hg4 Z (KF hg4 Z (KF hg4 Z (Pk hg4 Z (S Z (WO.nil ?_))))))
   obtain rfl := Oi h3
   exact cutN (Lr [0])
 refine seqN (TC.le hle (TC.seq (Rg (Fp fa_298_0 Z (Fp fa_130_0 Z (Ld isAgg3 Z (Nx (TC.block (Rg (S Z (S Z (Nx (Cn Z h (fun hc5 h => ?_) (fun hc5 h => ?_))))))))))))))
 ·refine TC.seq (Bd h fun b10 h11 h => ?_)
  refine TC.cut ([(2, .bool b10)]) ([]) ?_ (fun env H hle => ?_)
  ·refine TC.region (Fp fa_298_0 Z (Fp fa_130_1 Z (Ld isAgg3 Z ?_)))
   refine vH (OpH.lit (xs := [.tmp 28]) (es := List.map (encI .i64) [a1.Cond.Var]) el_48 Z Z Z Z Z ⟨Z, trivial⟩ Z Z) ?_
   refine aV (.osl 1 0 ([a1.Cond.Var].length) 1) [_, .row 3 1 (List.map (encI .i64) [a1.Cond.Var])] Z Z ?_
   refine Bd h11 fun r12 hr12 h11 => ?_
   refine WO.callB (OpC.fn call100 rfl rfl rfl) (LookL.cons rfl (.inl ⟨rfl, rfl⟩) (LookL.cons rfl (.inl ⟨rfl, rfl⟩) (LookL.cons rfl (.inr ⟨_, _, _, _, _, rfl, rfl, List.length_map .., rfl⟩) LookL.nil))) (k_a _ _ _ _ _ hr12) (by rintro _ _ ⟨rfl, rfl⟩; rfl) ?_
   rintro _ _ ⟨rfl, rfl⟩
   refine aV (.bool r12) [_, _] Z Z ?_
   refine S Z (If h11 (fun hg13 h11 => ?_) (fun hg13 h11 => ?_))
   ·refine Fpg (gT hg13) fa_298_0 Z (Fpg (gT hg13) fa_130_2 Z (Ldg (gT hg13) isAgg3 Z ?_))
    refine vH (OpH.lit (xs := [.tmp 34]) (es := List.map (encI .i64) [a1.Cond.N]) el_48 Z Z Z Z Z ⟨Z, trivial⟩ Z Z) ?_ (gT hg13)
    refine aV (.osl 2 0 ([a1.Cond.N].length) 1) [_, _, .row 3 1 (List.map (encI .i64) [a1.Cond.N])] Z Z ?_
    refine Bd h11 fun r14 hr14 h11 => ?_
    refine WO.callB (OpC.fn call100 rfl rfl rfl) (LookL.cons rfl (.inl ⟨rfl, rfl⟩) (LookL.cons rfl (.inl ⟨rfl, rfl⟩) (LookL.cons rfl (.inr ⟨_, _, _, _, _, rfl, rfl, List.length_map .., rfl⟩) LookL.nil))) (k_a _ _ _ _ _ hr14) (by rintro _ _ ⟨rfl, rfl⟩; rfl) ?_ (gT hg13)
    rintro _ _ ⟨rfl, rfl⟩
    refine aV (.bool r14) [_, _, _] Z Z ?_
    refine Pk hg13 Z (S Z (If h11 (fun hg15 h11 => ?_) (fun hg15 h11 => ?_)))
    ·refine Fpg (gT hg15) fa_298_0 Z (Fpg (gT hg15) fa_130_3 Z (Ldg (gT hg15) isAgg128 Z ?_))
     refine vX (.int .i64 (a1.Cond.Parts.length : Int)) (OpV.lenM (e := Cond.enc) (l := a1.Cond.Parts) runUnderlying128) ?_ (gT hg15)
     refine Sg (gT hg15) Z (Pk hg15 Z (S Z (WO.nil ?_)))
     obtain rfl := Oi h11
     exact cutN (Lr [])
    ·refine KF hg15 Z (KF hg15 Z (KF hg15 Z (KF hg15 Z (KF hg15 Z (Pk hg15 Z (S Z (WO.nil ?_)))))))
     obtain rfl := Oi h11
     exact cutN (Lr [])
   ·refine KF hg13 Z (KF hg13 Z (KF hg13 Z (KF hg13 Z (KF hg13 Z (Pk hg13 Z (S Z (KF Z Z (KF Z Z (KF Z Z (KF Z Z (KF Z Z (S Z (S Z (WO.nil ?_))))))))))))))
    obtain rfl := Oi h11
    exact cutN (Lr [])
  refine seqN (TC.le hle (TC.ret (bloR (seqR (bloR (seqR ?_))))))
  obtain rfl := Oi h
  refine ⟨[(2, _)], _, _, ?_, ResOK.one Z Z, Z, Z⟩
  exact Lr []
 refine Rg (S Z (S Z (Nx (Bd h fun b25 h26 h => ?_))))
 refine TC.cutE (b := b25) (fun sb25 => [(3, .ptr 0 0), (4, .bool sb25)]) (fun sb25 => [.cells 298 (typing_cond.c ({ Cond := a1.Cond : typing_cond }))]) ?_ (fun sb25 env H hb hle => ?_)
 ·refine Cn Z h26 (fun hc27 h26 => ?_) (fun hc27 h26 => ?_)
  ·refine TC.region (S Z (S Z (If h26 (fun hg28 h26 => ?_) (fun hg28 h26 => ?_))))
   ·refine Fpg (gT hg28) fa_298_0 Z (Fpg (gT hg28) fa_130_3 Z (Ldg (gT hg28) isAgg128 Z ?_))
    refine vX (.int .i64 (a1.Cond.Parts.length : Int)) (OpV.lenM (e := Cond.enc) (l := a1.Cond.Parts) runUnderlying128) ?_ (gT hg28)
    refine Sg (gT hg28) Z (Pk hg28 Z (S Z (WO.nil ?_)))
    obtain rfl := Oi h26
    exact cutEN Z (Lr [0])
   ·refine KF hg28 Z (KF hg28 Z (KF hg28 Z (KF hg28 Z (KF hg28 Z (Pk hg28 Z (S Z (WO.nil ?_)))))))
    obtain rfl := Oi h26
    exact cutEN Z (Lr [0])
  refine TC.seq (Rg (S Z (S Z (Nx (Bd h26 fun b30 h31 h26 => ?_)))))
  refine TC.cut ([(3, .ptr 0 0), (4, .bool b2), (55, .bool b30)]) ([.cells 298 (typing_cond.c ({ Cond := a1.Cond : typing_cond }))]) ?_ (fun env H hle => ?_)
  ·refine Cn Z h31 (fun hc32 h31 => ?_) (fun hc32 h31 => ?_)
   ·refine TC.skip ?_
    obtain rfl := Oi h31
    exact cutN (Lr [0])
   refine TC.region (S Z (S Z (WO.nil ?_)))
   obtain rfl := Oi h31
   exact cutN (Lr [0])
  refine seqN (TC.le hle (CnS Z h26 (fun hc33 h26 => ?_) (fun hc33 h26 => ?_)))
  ·refine Rg (S Z (Nx (TC.ret ?_)))
   obtain rfl := Oi h26
   refine cutER (bloR (seqR (bloR (seqR ?_))))
   obtain rfl := Oi h
   refine ⟨[(2, _)], _, _, ?_, ResOK.one Z Z, Z, Z⟩
   exact Lr []
  refine TC.region (S Z (S Z (If h26 (fun hg34 h26 => ?_) (fun hg34 h26 => ?_))))
  ·refine Fpg (gT hg34) fa_298_0 Z (Fpg (gT hg34) fa_130_3 Z (Ldg (gT hg34) isAgg128 Z ?_))
   refine vX (.int .i64 (a1.Cond.Parts.length : Int)) (OpV.lenM (e := Cond.enc) (l := a1.Cond.Parts) runUnderlying128) ?_ (gT hg34)
   refine Sg (gT hg34) Z (Pk hg34 Z (S Z (If h26 (fun hg35 h26 => ?_) (fun hg35 h26 => ?_))))
   ·refine Fpg (gT hg35) fa_298_0 Z (Fpg (gT hg35) fa_130_3 Z (Ldg (gT hg35) isAgg128 Z ?_))
    refine vX (.int .i64 (a1.Cond.Parts.length : Int)) (OpV.lenM (e := Cond.enc) (l := a1.Cond.Parts) runUnderlying128) ?_ (gT hg35)
    refine Sg (gT hg35) Z (Pk hg35 Z (S Z (WO.nil ?_)))
    obtain rfl := Oi h26
    exact cutEN Z (Lr [0])
   ·refine KF hg35 Z (KF hg35 Z (KF hg35 Z (KF hg35 Z (KF hg35 Z (Pk hg35 Z (S Z (WO.nil ?_)))))))
    obtain rfl := Oi h26
    exact cutEN Z (Lr [0])
  ·refine KF hg34 Z (KF hg34 Z (KF hg34 Z (KF hg34 Z (KF hg34 Z (Pk hg34 Z (S Z (KF Z Z (KF Z Z (KF Z Z (KF Z Z (KF Z Z (S Z (S Z (WO.nil ?_))))))))))))))
   obtain rfl := Oi h26
   exact cutEN Z (Lr [0])
 subst hb
 refine bloN (seqN (TC.le hle (TC.seq (Bd h fun b39 h40 h => ?_))))
 refine TC.cut ([(2, .bool b39)]) ([]) ?_ (fun env H hle => ?_)
 ·refine TC.region (S Z (S Z (If h40 (fun hg41 h40 => ?_) (fun hg41 h40 => ?_))))
  ·refine vX (.agg (typing_cond.c ({ Cond := a1.Cond : typing_cond }))) (OpV.loadA Z isAgg298 sizeOf298 Z (Pts.cells Z Z) Z Z) ?_ (gT hg41)
   refine Bd h40 fun r42 hr42 h40 => ?_
   refine WO.callD [] (OpC.fn call239 Z Z Z) (k_i _ _ _ hr42) ?_ (hg := (gT hg41))
   rintro _ _ ⟨rfl, rfl⟩
   refine aV (.osl 1 0 r42.length 1) [_, .row 260 1 (List.map typing_form.enc r42)] Z Z ?_
   refine Bd h40 fun r43 hr43 h40 => ?_
   refine WO.callB (OpC.fn call171 rfl rfl rfl) (LookL.cons rfl (.inr ⟨_, _, _, _, _, rfl, rfl, List.length_map .., rfl⟩) (LookL.cons rfl (.inl ⟨rfl, rfl⟩) LookL.nil)) (hrec95 _ _ hr43) (by rintro _ _ ⟨rfl, rfl⟩; rfl) ?_ (gT hg41)
   rintro _ _ ⟨rfl, rfl⟩
   refine aV (.bool r43) [_, _] Z Z ?_
   refine Sg (gT hg41) Z (Pk hg41 Z (S Z (WO.nil ?_)))
   obtain rfl := Oi h40
   exact cutN (Lr [])
  ·refine KF hg41 Z (KF hg41 Z (KF hg41 Z (KF hg41 Z (Pk hg41 Z (S Z (WO.nil ?_))))))
   obtain rfl := Oi h40
   exact cutN (Lr [])
 refine seqN (TC.le hle (TC.ret (bloR (seqR ?_))))
 obtain rfl := Oi h
 refine ⟨[(2, _)], _, _, ?_, ResOK.one Z Z, Z, Z⟩
 exact Lr []
def F_bp (rec95 : (List typing_form) → Option Bool) (n : Nat) (a1 : typing_form) : Option Bool :=
  typing_form.elim a1 (fun x1 => (bif (x1.Step.Kind == 1) then ((F_a n 1 5 [x1.Step.By]).bind fun r13 => (bif r13 then (F_q n ({ Cond := x1.Step.Cond : typing_cond })).bind fun r15 => (bif r15 then (F_g n x1).bind fun r17 => some ((r17.length : Int) == 0) else some false) else some false) : Option Bool).bind fun b11 => some b11 else (bif (x1.Step.Kind == 2) then ((bif (x1.Step.By == 0) then (F_am rec95 n ({ Cond := x1.Step.Cond : typing_cond })).bind fun r28 => (bif r28 then (bif decide (0 < (x1.Step.Then.length : Int)) then (F_g n x1).bind fun r31 => (rec95 r31).bind fun r32 => some (!r32) else some false) else some false) else some false) : Option Bool).bind fun b25 => some b25 else some false))) (fun x3 => ((bif (x3.Cond.Var == 0) then some (x3.Cond.N == 0) else some false) : Option Bool).bind fun b34 => (bif (x3.Cond.Kind == 1) then ((F_a n 1 3 [x3.Cond.Var]).bind fun r44 => (bif r44 then (F_a n 0 10000 [x3.Cond.N]).bind fun r46 => (bif r46 then some ((x3.Cond.Parts.length : Int) == 0) else some false) else some false) : Option Bool).bind fun b42 => some b42 else ((bif (x3.Cond.Kind == 4) then (bif b34 then some (.cont ((x3.Cond.Parts.length : Int) == 1)) else some (.cont false)) else ((bif (x3.Cond.Kind == 2) then some (x3.Cond.Kind == 2) else some (x3.Cond.Kind == 3)) : Option Bool).bind fun b62 => (bif b62 then (bif b34 then (bif decide (0 < (x3.Cond.Parts.length : Int)) then some (.cont (decide ((x3.Cond.Parts.length : Int) ≤ 16))) else some (.cont false)) else some (.cont false)) else some (.done false))) : Option (Ctl Bool Bool)).bind fun b57 => match b57 with | .cont sb57 => (((bif sb57 then (F_i n ({ Cond := x3.Cond : typing_cond })).bind fun r74 => (rec95 r74).bind fun r75 => some (!r75) else some false) : Option Bool).bind fun b71 => some b71) | .done sb57 => some sb57))
theorem k_bp (rec95 : (List typing_form) → Option Bool) (hrec95 : ∀ (a1 : List typing_form) (r : Bool), rec95 a1 = some r → C prog 171 [.rsl 1 (List.map typing_form.enc a1), .fn (.func 172) [] []] [] (fun a H => a = .bool r ∧ H = [])) (n : Nat) (a1 : typing_form) (r : Bool) (h : F_bp rec95 n a1 = some r) :
    C prog 219 [typing_form.val a1] [] (fun a H => a = .bool r ∧ H = []) := by
 refine C.of_body func219 Z Z Z ?_
 refine Rg (S Z (Nx (TC.seq (Rg (S Z (Nx (TC.block (Rg ?_))))))))
 rcases typing_form.split a1 with ⟨x1, hE2⟩ | ⟨x3, hE4⟩
 ·have h := typing_form.elim_0 hE2 h
  refine WO.le (Le.ov1 (s := 0) (a' := .iface 263 (.agg (typing_step.c x1))) Z (congrArg typing_form.val hE2)) ?_
  refine WO.le (Le.ov1 (s := 7) (a' := .iface 263 (.agg (typing_step.c x1))) Z (congrArg typing_form.val hE2)) ?_
  refine vX (.tup [.agg [.int .i64 0, .int .i64 0, .int .i64 0, .rsl 4 (List.map Cond.enc [])], .bool false]) (OpV.taF (z := (.agg [.int .i64 0, .int .i64 0, .int .i64 0, .rsl 4 (List.map Cond.enc [])])) runUnderlying298 (by intro m; nofun) Z zeroValue298 (ZR.agg (ZL.cons ZR.int (ZL.cons ZR.int (ZL.cons ZR.int (ZL.cons ZR.rsl ZL.nil)))))) ?_
  refine S Z (S Z (Nx (CnF Z Z (Rg ?_))))
  refine vX (.tup [.agg (typing_step.c x1), .bool true]) (OpV.taT runUnderlying263 (by intro m; nofun)) ?_
  refine S Z (S Z (Nx (CnT Z Z (Rg ?_))))
  refine vH (OpH.allocZ (v := (.agg [.int .i64 0, .int .i64 0, .int .i64 0, .int .i64 0, .int .i64 0, .rsl 4 (List.map Cond.enc []), .rsl 8 (List.map Step.enc []), .rsl 8 (List.map Step.enc [])])) zeroValue263 (ZR.agg (ZL.cons ZR.int (ZL.cons ZR.int (ZL.cons ZR.int (ZL.cons ZR.int (ZL.cons ZR.int (ZL.cons ZR.rsl (ZL.cons ZR.rsl (ZL.cons ZR.rsl ZL.nil)))))))))) ?_
  refine aV (.ptr 0 0) [.cells 263 [.int .i64 0, .int .i64 0, .int .i64 0, .int .i64 0, .int .i64 0, .rsl 4 (List.map Cond.enc []), .rsl 8 (List.map Step.enc []), .rsl 8 (List.map Step.enc [])]] Z Z ?_
  refine vU (OpU.store Z Z Z sizeOf263 Z Z Z Z Z Z Z) ?_
  refine WO.atH (H := [.cells 263 (typing_step.c x1)]) Z ?_
  refine Nx (Rg (Fp fa_263_0 Z (Fp fa_132_2 Z ?_)))
  refine vX (.agg (Cond.c x1.Step.Cond)) (OpV.loadA Z isAgg130 sizeOf130 Z (Pts.cells Z Z) Z Z) ?_
  refine vX (.agg (typing_cond.c ({ Cond := x1.Step.Cond : typing_cond }))) (OpV.build (zs := [.int .i64 0, .int .i64 0, .int .i64 0, .rsl 4 (List.map Cond.enc [])]) zeroValue298 (ZR.agg (ZL.cons ZR.int (ZL.cons ZR.int (ZL.cons ZR.int (ZL.cons ZR.rsl ZL.nil))))) pl_298) ?_
  refine vH (OpH.allocZ (v := (.agg [.int .i64 0, .int .i64 0, .int .i64 0, .rsl 4 (List.map Cond.enc [])])) zeroValue298 (ZR.agg (ZL.cons ZR.int (ZL.cons ZR.int (ZL.cons ZR.int (ZL.cons ZR.rsl ZL.nil)))))) ?_
  refine aV (.ptr 1 0) [_, .cells 298 [.int .i64 0, .int .i64 0, .int .i64 0, .rsl 4 (List.map Cond.enc [])]] Z Z ?_
  refine vU (OpU.store Z Z Z sizeOf298 Z Z Z Z Z Z Z) ?_
  refine WO.atH (H := [_, .cells 298 (typing_cond.c ({ Cond := x1.Step.Cond : typing_cond }))]) Z ?_
  refine Nx (Rg (Fp fa_263_0 Z (Fp fa_132_0 Z (Ld isAgg3 Z (Nx (TC.block (Rg (S Z (S Z (Nx (Cn Z h (fun hc5 h => ?_) (fun hc5 h => ?_))))))))))))
  ·refine TC.seq (Bd h fun b11 h12 h => ?_)
   refine TC.cut ([(2, .bool b11)]) ([]) ?_ (fun env H hle => ?_)
   ·refine TC.region (Fp fa_263_0 Z (Fp fa_132_1 Z (Ld isAgg3 Z ?_)))
    refine vH (OpH.lit (xs := [.tmp 94]) (es := List.map (encI .i64) [x1.Step.By]) el_48 Z Z Z Z Z ⟨Z, trivial⟩ Z Z) ?_
    refine aV (.osl 2 0 ([x1.Step.By].length) 1) [_, _, .row 3 1 (List.map (encI .i64) [x1.Step.By])] Z Z ?_
    refine Bd h12 fun r13 hr13 h12 => ?_
    refine WO.callB (OpC.fn call100 rfl rfl rfl) (LookL.cons rfl (.inl ⟨rfl, rfl⟩) (LookL.cons rfl (.inl ⟨rfl, rfl⟩) (LookL.cons rfl (.inr ⟨_, _, _, _, _, rfl, rfl, List.length_map .., rfl⟩) LookL.nil))) (k_a _ _ _ _ _ hr13) (by rintro _ _ ⟨rfl, rfl⟩; rfl) ?_
    rintro _ _ ⟨rfl, rfl⟩
    refine aV (.bool r13) [_, _, _] Z Z ?_
    refine S Z (If h12 (fun hg14 h12 => ?_) (fun hg14 h12 => ?_))
    ·refine vX (.agg (typing_cond.c ({ Cond := x1.Step.Cond : typing_cond }))) (OpV.loadA Z isAgg298 sizeOf298 Z (Pts.cells Z Z) Z Z) ?_ (gT hg14)
     refine Bd h12 fun r15 hr15 h12 => ?_
     refine WO.callD [] (OpC.fn call217 Z Z Z) (k_q _ _ _ hr15) ?_ (hg := (gT hg14))
     rintro _ _ ⟨rfl, rfl⟩
     refine aV (.bool r15) [_, _, _] Z Z ?_
     refine Pk hg14 Z (S Z (If h12 (fun hg16 h12 => ?_) (fun hg16 h12 => ?_)))
     ·refine vX (.agg (typing_step.c x1)) (OpV.loadA Z isAgg263 sizeOf263 Z (Pts.cells Z Z) Z Z) ?_ (gT hg16)
      refine Bd h12 fun r17 hr17 h12 => ?_
      refine WO.callD [] (OpC.fn call240 Z Z Z) (k_g _ _ _ hr17) ?_ (hg := (gT hg16))
      rintro _ _ ⟨rfl, rfl⟩
      refine aV (.osl 3 0 r17.length 1) [_, _, _, .row 260 1 (List.map typing_form.enc r17)] Z Z ?_
      refine vX (.int .i64 (r17.length : Int)) (OpV.lenOM runUnderlying221) ?_ (gT hg16)
      refine Sg (gT hg16) Z (Pk hg16 Z (S Z (WO.nil ?_)))
      obtain rfl := Oi h12
      exact cutN (Lr [])
     ·refine KF hg16 Z (KF hg16 Z (KF hg16 Z (KF hg16 Z (Pk hg16 Z (S Z (WO.nil ?_))))))
      obtain rfl := Oi h12
      exact cutN (Lr [])
    ·refine KF hg14 Z (KF hg14 Z (Pk hg14 Z (S Z (KF Z Z (KF Z Z (KF Z Z (KF Z Z (S Z (S Z (WO.nil ?_))))))))))
     obtain rfl := Oi h12
     exact cutN (Lr [])
   refine seqN (TC.le hle (TC.ret (bloR (bloR (seqR ?_)))))
   obtain rfl := Oi h
   refine ⟨[(2, _)], _, _, ?_, ResOK.one Z Z, Z, Z⟩
   exact Lr []
  refine Rg (S Z (S Z (Nx (Cn Z h (fun hc18 h => ?_) (fun hc18 h => ?_)))))
  ·refine TC.seq (Bd h fun b25 h26 h => ?_)
   refine TC.cut ([(2, .bool b25)]) ([]) ?_ (fun env H hle => ?_)
   ·refine TC.region (Fp fa_263_0 Z (Fp fa_132_1 Z (Ld isAgg3 Z (S Z (S Z (If h26 (fun hg27 h26 => ?_) (fun hg27 h26 => ?_)))))))
    ·refine vX (.agg (typing_cond.c ({ Cond := x1.Step.Cond : typing_cond }))) (OpV.loadA Z isAgg298 sizeOf298 Z (Pts.cells Z Z) Z Z) ?_ (gT hg27)
     refine vX (.iface 298 (.agg (typing_cond.c ({ Cond := x1.Step.Cond : typing_cond })))) (OpV.mkIface Z runUnderlying298 (by intro m; nofun) Z) ?_ (gT hg27)
     refine Bd h26 fun r28 hr28 h26 => ?_
     refine WO.callD [] (OpC.fn call219 Z Z Z) (k_am rec95 hrec95 _ _ _ hr28) ?_ (hg := (gT hg27))
     rintro _ _ ⟨rfl, rfl⟩
     refine aV (.bool r28) [_, _] Z Z ?_
     refine Pk hg27 Z (S Z (If h26 (fun hg29 h26 => ?_) (fun hg29 h26 => ?_)))
     ·refine Fpg (gT hg29) fa_263_0 Z (Fpg (gT hg29) fa_132_3 Z (Ldg (gT hg29) isAgg29 Z ?_))
      refine vX (.int .i64 (x1.Step.Then.length : Int)) (OpV.lenM (e := Step.enc) (l := x1.Step.Then) runUnderlying29) ?_ (gT hg29)
      refine Sg (gT hg29) Z (Pk hg29 Z (S Z (If h26 (fun hg30 h26 => ?_) (fun hg30 h26 => ?_))))
      ·refine vX (.agg (typing_step.c x1)) (OpV.loadA Z isAgg263 sizeOf263 Z (Pts.cells Z Z) Z Z) ?_ (gT hg30)
       refine Bd h26 fun r31 hr31 h26 => ?_
       refine WO.callD [] (OpC.fn call240 Z Z Z) (k_g _ _ _ hr31) ?_ (hg := (gT hg30))
       rintro _ _ ⟨rfl, rfl⟩
       refine aV (.osl 2 0 r31.length 1) [_, _, .row 260 1 (List.map typing_form.enc r31)] Z Z ?_
       refine Bd h26 fun r32 hr32 h26 => ?_
       refine WO.callB (OpC.fn call171 rfl rfl rfl) (LookL.cons rfl (.inr ⟨_, _, _, _, _, rfl, rfl, List.length_map .., rfl⟩) (LookL.cons rfl (.inl ⟨rfl, rfl⟩) LookL.nil)) (hrec95 _ _ hr32) (by rintro _ _ ⟨rfl, rfl⟩; rfl) ?_ (gT hg30)
       rintro _ _ ⟨rfl, rfl⟩
       refine aV (.bool r32) [_, _, _] Z Z ?_
       refine Sg (gT hg30) Z (Pk hg30 Z (S Z (WO.nil ?_)))
       obtain rfl := Oi h26
       exact cutN (Lr [])
      ·refine KF hg30 Z (KF hg30 Z (KF hg30 Z (KF hg30 Z (Pk hg30 Z (S Z (WO.nil ?_))))))
       obtain rfl := Oi h26
       exact cutN (Lr [])
     ·refine KF hg29 Z (KF hg29 Z (KF hg29 Z (KF hg29 Z (KF hg29 Z (Pk hg29 Z (S Z (KF Z Z (KF Z Z (KF Z Z (KF Z Z (S Z (S Z (WO.nil ?_)))))))))))))
      obtain rfl := Oi h26
      exact cutN (Lr [])
    ·refine KF hg27 Z (KF hg27 Z (KF hg27 Z (Pk hg27 Z (S Z (KF Z Z (KF Z Z (KF Z Z (KF Z Z (KF Z Z (S Z (S Z (KF Z Z (KF Z Z (KF Z Z (KF Z Z (S Z (S Z (WO.nil ?_))))))))))))))))))
     obtain rfl := Oi h26
     exact cutN (Lr [])
   refine seqN (TC.le hle (TC.ret (bloR (bloR (seqR ?_)))))
   obtain rfl := Oi h
   refine ⟨[(2, _)], _, _, ?_, ResOK.one Z Z, Z, Z⟩
   exact Lr []
  refine TC.skip (bloN (bloN (seqN (Rg (S Z (Nx (TC.ret ?_)))))))
  obtain rfl := Oi h
  refine ⟨[(2, _)], _, _, ?_, ResOK.one Z Z, Z, Z⟩
  exact Lr []
 ·have h := typing_form.elim_1 hE4 h
  refine WO.le (Le.ov1 (s := 0) (a' := .iface 298 (.agg (typing_cond.c ({ Cond := x3.Cond : typing_cond })))) Z (congrArg typing_form.val hE4)) ?_
  refine WO.le (Le.ov1 (s := 7) (a' := .iface 298 (.agg (typing_cond.c ({ Cond := x3.Cond : typing_cond })))) Z (congrArg typing_form.val hE4)) ?_
  refine vX (.tup [.agg (typing_cond.c ({ Cond := x3.Cond : typing_cond })), .bool true]) (OpV.taT runUnderlying298 (by intro m; nofun)) ?_
  refine S Z (S Z (Nx (CnT Z Z (Rg ?_))))
  refine vH (OpH.allocZ (v := (.agg [.int .i64 0, .int .i64 0, .int .i64 0, .rsl 4 (List.map Cond.enc [])])) zeroValue298 (ZR.agg (ZL.cons ZR.int (ZL.cons ZR.int (ZL.cons ZR.int (ZL.cons ZR.rsl ZL.nil)))))) ?_
  refine aV (.ptr 0 0) [.cells 298 [.int .i64 0, .int .i64 0, .int .i64 0, .rsl 4 (List.map Cond.enc [])]] Z Z ?_
  refine vU (OpU.store Z Z Z sizeOf298 Z Z Z Z Z Z Z) ?_
  refine WO.atH (H := [.cells 298 (typing_cond.c ({ Cond := x3.Cond : typing_cond }))]) Z ?_
  refine Nx (TC.seq (Bd h fun b34 h35 h => ?_))
  refine TC.cut ([(3, .ptr 0 0), (4, .bool b34)]) ([.cells 298 (typing_cond.c ({ Cond := x3.Cond : typing_cond }))]) ?_ (fun env H hle => ?_)
  ·refine TC.region (Fp fa_298_0 Z (Fp fa_130_1 Z (Ld isAgg3 Z (S Z (S Z (If h35 (fun hg36 h35 => ?_) (fun hg36 h35 => ?_)))))))
   ·refine Fpg (gT hg36) fa_298_0 Z (Fpg (gT hg36) fa_130_2 Z (Ldg (gT hg36) isAgg3 Z (Sg (gT hg36) Z (Pk hg36 Z (S Z (WO.nil ?_))))))
    obtain rfl := Oi h35
    exact cutN (Lr [0])
   ·refine KF hg36 Z (KF hg36 Z (KF hg36 Z (KF hg36 Z (Pk hg36 Z (S Z (WO.nil ?_))))))
    obtain rfl := Oi h35
    exact cutN (Lr [0])
  refine seqN (TC.le hle (TC.seq (Rg (Fp fa_298_0 Z (Fp fa_130_0 Z (Ld isAgg3 Z (Nx (TC.block (Rg (S Z (S Z (Nx (Cn Z h (fun hc37 h => ?_) (fun hc37 h => ?_))))))))))))))
  ·refine TC.seq (Bd h fun b42 h43 h => ?_)
   refine TC.cut ([(2, .bool b42)]) ([]) ?_ (fun env H hle => ?_)
   ·refine TC.region (Fp fa_298_0 Z (Fp fa_130_1 Z (Ld isAgg3 Z ?_)))
    refine vH (OpH.lit (xs := [.tmp 28]) (es := List.map (encI .i64) [x3.Cond.Var]) el_48 Z Z Z Z Z ⟨Z, trivial⟩ Z Z) ?_
    refine aV (.osl 1 0 ([x3.Cond.Var].length) 1) [_, .row 3 1 (List.map (encI .i64) [x3.Cond.Var])] Z Z ?_
    refine Bd h43 fun r44 hr44 h43 => ?_
    refine WO.callB (OpC.fn call100 rfl rfl rfl) (LookL.cons rfl (.inl ⟨rfl, rfl⟩) (LookL.cons rfl (.inl ⟨rfl, rfl⟩) (LookL.cons rfl (.inr ⟨_, _, _, _, _, rfl, rfl, List.length_map .., rfl⟩) LookL.nil))) (k_a _ _ _ _ _ hr44) (by rintro _ _ ⟨rfl, rfl⟩; rfl) ?_
    rintro _ _ ⟨rfl, rfl⟩
    refine aV (.bool r44) [_, _] Z Z ?_
    refine S Z (If h43 (fun hg45 h43 => ?_) (fun hg45 h43 => ?_))
    ·refine Fpg (gT hg45) fa_298_0 Z (Fpg (gT hg45) fa_130_2 Z (Ldg (gT hg45) isAgg3 Z ?_))
     refine vH (OpH.lit (xs := [.tmp 34]) (es := List.map (encI .i64) [x3.Cond.N]) el_48 Z Z Z Z Z ⟨Z, trivial⟩ Z Z) ?_ (gT hg45)
     refine aV (.osl 2 0 ([x3.Cond.N].length) 1) [_, _, .row 3 1 (List.map (encI .i64) [x3.Cond.N])] Z Z ?_
     refine Bd h43 fun r46 hr46 h43 => ?_
     refine WO.callB (OpC.fn call100 rfl rfl rfl) (LookL.cons rfl (.inl ⟨rfl, rfl⟩) (LookL.cons rfl (.inl ⟨rfl, rfl⟩) (LookL.cons rfl (.inr ⟨_, _, _, _, _, rfl, rfl, List.length_map .., rfl⟩) LookL.nil))) (k_a _ _ _ _ _ hr46) (by rintro _ _ ⟨rfl, rfl⟩; rfl) ?_ (gT hg45)
     rintro _ _ ⟨rfl, rfl⟩
     refine aV (.bool r46) [_, _, _] Z Z ?_
     refine Pk hg45 Z (S Z (If h43 (fun hg47 h43 => ?_) (fun hg47 h43 => ?_)))
     ·refine Fpg (gT hg47) fa_298_0 Z (Fpg (gT hg47) fa_130_3 Z (Ldg (gT hg47) isAgg128 Z ?_))
      refine vX (.int .i64 (x3.Cond.Parts.length : Int)) (OpV.lenM (e := Cond.enc) (l := x3.Cond.Parts) runUnderlying128) ?_ (gT hg47)
      refine Sg (gT hg47) Z (Pk hg47 Z (S Z (WO.nil ?_)))
      obtain rfl := Oi h43
      exact cutN (Lr [])
     ·refine KF hg47 Z (KF hg47 Z (KF hg47 Z (KF hg47 Z (KF hg47 Z (Pk hg47 Z (S Z (WO.nil ?_)))))))
      obtain rfl := Oi h43
      exact cutN (Lr [])
    ·refine KF hg45 Z (KF hg45 Z (KF hg45 Z (KF hg45 Z (KF hg45 Z (Pk hg45 Z (S Z (KF Z Z (KF Z Z (KF Z Z (KF Z Z (KF Z Z (S Z (S Z (WO.nil ?_))))))))))))))
     obtain rfl := Oi h43
     exact cutN (Lr [])
   refine seqN (TC.le hle (TC.ret (bloR (seqR (bloR (seqR ?_))))))
   obtain rfl := Oi h
   refine ⟨[(2, _)], _, _, ?_, ResOK.one Z Z, Z, Z⟩
   exact Lr []
  refine Rg (S Z (S Z (Nx (Bd h fun b57 h58 h => ?_))))
  refine TC.cutE (b := b57) (fun sb57 => [(3, .ptr 0 0), (4, .bool sb57)]) (fun sb57 => [.cells 298 (typing_cond.c ({ Cond := x3.Cond : typing_cond }))]) ?_ (fun sb57 env H hb hle => ?_)
  ·refine Cn Z h58 (fun hc59 h58 => ?_) (fun hc59 h58 => ?_)
   ·refine TC.region (S Z (S Z (If h58 (fun hg60 h58 => ?_) (fun hg60 h58 => ?_))))
    ·refine Fpg (gT hg60) fa_298_0 Z (Fpg (gT hg60) fa_130_3 Z (Ldg (gT hg60) isAgg128 Z ?_))
     refine vX (.int .i64 (x3.Cond.Parts.length : Int)) (OpV.lenM (e := Cond.enc) (l := x3.Cond.Parts) runUnderlying128) ?_ (gT hg60)
     refine Sg (gT hg60) Z (Pk hg60 Z (S Z (WO.nil ?_)))
     obtain rfl := Oi h58
     exact cutEN Z (Lr [0])
    ·refine KF hg60 Z (KF hg60 Z (KF hg60 Z (KF hg60 Z (KF hg60 Z (Pk hg60 Z (S Z (WO.nil ?_)))))))
     obtain rfl := Oi h58
     exact cutEN Z (Lr [0])
   refine TC.seq (Rg (S Z (S Z (Nx (Bd h58 fun b62 h63 h58 => ?_)))))
   refine TC.cut ([(3, .ptr 0 0), (4, .bool b34), (55, .bool b62)]) ([.cells 298 (typing_cond.c ({ Cond := x3.Cond : typing_cond }))]) ?_ (fun env H hle => ?_)
   ·refine Cn Z h63 (fun hc64 h63 => ?_) (fun hc64 h63 => ?_)
    ·refine TC.skip ?_
     obtain rfl := Oi h63
     exact cutN (Lr [0])
    refine TC.region (S Z (S Z (WO.nil ?_)))
    obtain rfl := Oi h63
    exact cutN (Lr [0])
   refine seqN (TC.le hle (CnS Z h58 (fun hc65 h58 => ?_) (fun hc65 h58 => ?_)))
   ·refine Rg (S Z (Nx (TC.ret ?_)))
    obtain rfl := Oi h58
    refine cutER (bloR (seqR (bloR (seqR ?_))))
    obtain rfl := Oi h
    refine ⟨[(2, _)], _, _, ?_, ResOK.one Z Z, Z, Z⟩
    exact Lr []
   refine TC.region (S Z (S Z (If h58 (fun hg66 h58 => ?_) (fun hg66 h58 => ?_))))
   ·refine Fpg (gT hg66) fa_298_0 Z (Fpg (gT hg66) fa_130_3 Z (Ldg (gT hg66) isAgg128 Z ?_))
    refine vX (.int .i64 (x3.Cond.Parts.length : Int)) (OpV.lenM (e := Cond.enc) (l := x3.Cond.Parts) runUnderlying128) ?_ (gT hg66)
    refine Sg (gT hg66) Z (Pk hg66 Z (S Z (If h58 (fun hg67 h58 => ?_) (fun hg67 h58 => ?_))))
    ·refine Fpg (gT hg67) fa_298_0 Z (Fpg (gT hg67) fa_130_3 Z (Ldg (gT hg67) isAgg128 Z ?_))
     refine vX (.int .i64 (x3.Cond.Parts.length : Int)) (OpV.lenM (e := Cond.enc) (l := x3.Cond.Parts) runUnderlying128) ?_ (gT hg67)
     refine Sg (gT hg67) Z (Pk hg67 Z (S Z (WO.nil ?_)))
     obtain rfl := Oi h58
     exact cutEN Z (Lr [0])
    ·refine KF hg67 Z (KF hg67 Z (KF hg67 Z (KF hg67 Z (KF hg67 Z (Pk hg67 Z (S Z (WO.nil ?_)))))))
     obtain rfl := Oi h58
     exact cutEN Z (Lr [0])
   ·refine KF hg66 Z (KF hg66 Z (KF hg66 Z (KF hg66 Z (KF hg66 Z (Pk hg66 Z (S Z (KF Z Z (KF Z Z (KF Z Z (KF Z Z (KF Z Z (S Z (S Z (WO.nil ?_))))))))))))))
    obtain rfl := Oi h58
    exact cutEN Z (Lr [0])
  subst hb
  refine bloN (seqN (TC.le hle (TC.seq (Bd h fun b71 h72 h => ?_))))
  refine TC.cut ([(2, .bool b71)]) ([]) ?_ (fun env H hle => ?_)
  ·refine TC.region (S Z (S Z (If h72 (fun hg73 h72 => ?_) (fun hg73 h72 => ?_))))
   ·refine vX (.agg (typing_cond.c ({ Cond := x3.Cond : typing_cond }))) (OpV.loadA Z isAgg298 sizeOf298 Z (Pts.cells Z Z) Z Z) ?_ (gT hg73)
    refine Bd h72 fun r74 hr74 h72 => ?_
    refine WO.callD [] (OpC.fn call239 Z Z Z) (k_i _ _ _ hr74) ?_ (hg := (gT hg73))
    rintro _ _ ⟨rfl, rfl⟩
    refine aV (.osl 1 0 r74.length 1) [_, .row 260 1 (List.map typing_form.enc r74)] Z Z ?_
    refine Bd h72 fun r75 hr75 h72 => ?_
    refine WO.callB (OpC.fn call171 rfl rfl rfl) (LookL.cons rfl (.inr ⟨_, _, _, _, _, rfl, rfl, List.length_map .., rfl⟩) (LookL.cons rfl (.inl ⟨rfl, rfl⟩) LookL.nil)) (hrec95 _ _ hr75) (by rintro _ _ ⟨rfl, rfl⟩; rfl) ?_ (gT hg73)
    rintro _ _ ⟨rfl, rfl⟩
    refine aV (.bool r75) [_, _] Z Z ?_
    refine Sg (gT hg73) Z (Pk hg73 Z (S Z (WO.nil ?_)))
    obtain rfl := Oi h72
    exact cutN (Lr [])
   ·refine KF hg73 Z (KF hg73 Z (KF hg73 Z (KF hg73 Z (Pk hg73 Z (S Z (WO.nil ?_))))))
    obtain rfl := Oi h72
    exact cutN (Lr [])
  refine seqN (TC.le hle (TC.ret (bloR (seqR ?_))))
  obtain rfl := Oi h
  refine ⟨[(2, _)], _, _, ?_, ResOK.one Z Z, Z, Z⟩
  exact Lr []
def F_eh (rec95 : (List typing_form) → Option Bool) (n : Nat) (a1 : typing_form) : Option Bool :=
  (F_bp rec95 n a1).bind fun r1 => some (!r1)
theorem k_eh (rec95 : (List typing_form) → Option Bool) (hrec95 : ∀ (a1 : List typing_form) (r : Bool), rec95 a1 = some r → C prog 171 [.rsl 1 (List.map typing_form.enc a1), .fn (.func 172) [] []] [] (fun a H => a = .bool r ∧ H = [])) (n : Nat) (a1 : typing_form) (r : Bool) (h : F_eh rec95 n a1 = some r) :
    C prog 172 [typing_form.val a1] [] (fun a H => a = .bool r ∧ H = []) := by
 refine C.of_body func172 Z Z Z ?_
 refine Rg (S Z (Nx (Rg (S Z (Bd h fun r1 hr1 h => ?_)))))
 refine WO.callD [] (OpC.fn call219 Z Z Z) (k_bp rec95 hrec95 _ _ _ hr1) ?_ (hargs := by first | exact Z | exact Eq.trans (by exact Z) (renL_data _ (by simp [dataL, dataA, typing_form.data])).symm)
 rintro _ _ ⟨rfl, rfl⟩
 refine aV (.bool r1) [] Z Z ?_
 refine S Z (S Z (Nx (TC.ret ?_)))
 obtain rfl := Oi h
 refine ⟨[(2, _)], _, _, ?_, ResOK.one Z Z, Z, Z⟩
 exact Lr []
def F_ep (n : Nat) (a1 : List typing_form) (rec95 : (List typing_form) → Option Bool) (s13 : Int) : Option (Ctl Int (Ctl Unit Int)) :=
  (bif decide (s13 < (a1.length : Int)) then (idx a1 s13).bind fun x17 => (F_eh rec95 n x17).bind fun r18 => (bif r18 then some (.done (.done s13)) else some (.cont (IntKind.i64.wrap (s13 + 1)))) else some (.done (.cont ())))
def F_cn (rec95 : (List typing_form) → Option Bool) (n : Nat) (a1 : List typing_form) : Option Int :=
  (iter (F_ep n a1 rec95) n 0 : Option (Ctl Unit Int)).bind fun b10 => match b10 with | .cont sb10 => (some (-1)) | .done sb10 => some sb10
theorem k_cn (rec95 : (List typing_form) → Option Bool) (hrec95 : ∀ (a1 : List typing_form) (r : Bool), rec95 a1 = some r → C prog 171 [.rsl 1 (List.map typing_form.enc a1), .fn (.func 172) [] []] [] (fun a H => a = .bool r ∧ H = [])) (n : Nat) (a1 : List typing_form) (r : Int) (h : F_cn rec95 n a1 = some r) :
    C prog 218 [.rsl 1 (List.map typing_form.enc a1), .fn (.func 172) [] []] [] (fun a H => a = .int .i64 r ∧ H = []) := by
 refine C.of_body func218 Z Z Z ?_
 refine Rg (S Z (Nx (TC.seq (Rg (S Z (LnM runUnderlying221 Z (S Z (Nx (Bd h fun b10 h11 h => ?_)))))))))
 refine TC.cutE (b := b10) (fun sb10 => []) (fun sb10 => []) ?_ (fun sb10 env H hbe hle => ?_)
 ·refine TC.block ?_
  refine TC.loop (E := fun s13 => [(0, .rsl 1 (List.map typing_form.enc a1)), (1, .fn (.func 172) [] []), (7, .int .i64 (a1.length : Int)), (8, .int .i64 s13)]) (Hp := fun s13 => []) h11 ?_ ?_
  ·exact Lr []
  intro s13 d14 h15 hb12
  refine Rg (S Z (Nx (TC.seq (CnS Z h15 (fun hc16 h15 => ?_) (fun hc16 h15 => ?_)))))
  ·refine ExX (loopX h15 ?_)
   obtain rfl := hb12 _ (Oi h15).symm
   exact bloE (cutEN Z (Lr []))
  refine SkN (TC.seq (TC.block (Rg (S Z (S Z (Nx (Rg (S Z (S Z (S Z (Bd h15 fun x17 hx17 h15 => Ix hx17 runUnderlying221 sizeOf260 Z (Ld isAgg260 Z (Bd h15 fun r18 hr18 h15 => ?_)))))))))))))
  refine WO.callD [] (OpC.clo call172 Z Z Z Z) (k_eh rec95 hrec95 _ _ _ hr18) ?_ (hargs := by first | exact Z | exact Eq.trans (by exact Z) (renL_data _ (by simp [dataL, dataA, typing_form.data])).symm)
  rintro _ _ ⟨rfl, rfl⟩
  refine aV (.bool r18) [] Z Z ?_
  refine Nx (Cn Z h15 (fun hc19 h15 => ?_) (fun hc19 h15 => ?_))
  ·refine Rg (S Z (S Z (Nx (TC.ret (bloR (seqR (loopR h15 ?_)))))))
   obtain rfl := hb12 _ (Oi h15).symm
   refine bloR (cutER (seqR ?_))
   obtain rfl := Oi h
   refine ⟨[(4, _)], _, _, ?_, ResOK.one Z Z, Z, Z⟩
   exact Lr []
  exact TC.skip (bloN (seqN (TC.region (S Z (S Z (WO.nil (loopN h15 (Lr []))))))))
 subst hbe
 refine seqN (TC.le hle (Rg (S Z (Nx (TC.ret ?_)))))
 obtain rfl := Oi h
 refine ⟨[(4, _)], _, _, ?_, ResOK.one Z Z, Z, Z⟩
 exact Lr []
def B_j (rec95 : (List typing_form) → Option Bool) (n : Nat) (a1 : List typing_form) : Option Bool :=
  (F_cn rec95 n a1).bind fun r1 => some (decide (0 ≤ r1))
theorem okB_slices_ContainsFunc_wxf (rec95 : (List typing_form) → Option Bool) (hrec95 : ∀ (a1 : List typing_form) (r : Bool), rec95 a1 = some r → C prog 171 [.rsl 1 (List.map typing_form.enc a1), .fn (.func 172) [] []] [] (fun a H => a = .bool r ∧ H = [])) (n : Nat) (a1 : List typing_form) (r : Bool) (h : B_j rec95 n a1 = some r) :
    C prog 171 [.rsl 1 (List.map typing_form.enc a1), .fn (.func 172) [] []] [] (fun a H => a = .bool r ∧ H = []) := by
 refine C.of_body func171 Z Z Z ?_
 refine Rg (S Z (Nx (Rg (S Z (S Z (Bd h fun r1 hr1 h => ?_))))))
 refine WO.callD [] (OpC.fn call218 Z Z Z) (k_cn rec95 hrec95 _ _ _ hr1) ?_
 rintro _ _ ⟨rfl, rfl⟩
 refine aV (.int .i64 r1) [] Z Z ?_
 refine S Z (S Z (Nx (TC.ret ?_)))
 obtain rfl := Oi h
 refine ⟨[(4, _)], _, _, ?_, ResOK.one Z Z, Z, Z⟩
 exact Lr []
def F_j : Nat → (List typing_form) → Option Bool
  | 0 => fun _ => none
  | n + 1 => B_j (F_j n) n
theorem k_j (n : Nat) : ∀ (a1 : List typing_form) (r : Bool), F_j n a1 = some r → C prog 171 [.rsl 1 (List.map typing_form.enc a1), .fn (.func 172) [] []] [] (fun a H => a = .bool r ∧ H = []) := by
  induction n with
  | zero => intro a1 r h; cases h
  | succ n ih => intro a1 r h; exact okB_slices_ContainsFunc_wxf _ ih n a1 r h
def F_dt (n : Nat) (a1 : List typing_form) : Option Int :=
  (F_bc n a1 0 ({ steps := 0, conds := 0 : typing_count })).bind fun r1 => (bif (!r1.2) then some 2 else ((bif ((a1.length : Int) == 0) then some true else (F_j n a1).bind fun r8 => some r8) : Option Bool).bind fun b5 => (bif b5 then some 71 else some 0))
theorem k_dt (n : Nat) (a1 : List typing_form) (r : Int) (h : F_dt n a1 = some r) :
    C prog 121 [.rsl 1 (List.map typing_form.enc a1)] [] (fun a H => a = .int .i64 r ∧ H = []) := by
 refine C.of_body func121 Z Z Z ?_
 refine Rg (S Z (Nx (Rg ?_)))
 refine vX (.agg [.int .i64 0, .int .i64 0]) (OpV.build (zs := [.int .i64 0, .int .i64 0]) zeroValue256 (ZR.agg (ZL.cons ZR.int (ZL.cons ZR.int ZL.nil))) pl_256) ?_
 refine vH (OpH.box Z Z Z Z Z) ?_
 refine aV (.ptr 0 0) [.cells 256 [.int .i64 0, .int .i64 0]] Z Z ?_
 refine S Z (Nx (TC.seq (Rg (S Z (S Z (Bd h fun r1 hr1 h => ?_))))))
 refine WO.callD [0] (OpC.fn call170 Z Z Z) (k_bc _ _ _ _ _ hr1) ?_
 rintro _ _ ⟨rfl, rfl⟩
 refine aV (.bool r1.2) [.cells 256 (typing_count.c r1.1)] Z Z ?_
 refine S Z (Nx (Cn Z h (fun hc2 h => ?_) (fun hc2 h => ?_)))
 ·refine Rg (S Z (Nx (RtR ?_)))
  obtain rfl := Oi h
  refine ⟨[(2, _)], _, _, ?_, ResOK.one Z Z, Z, Z⟩
  exact Lr []
 refine SkN (TC.seq (TC.seq (Bd h fun b5 h6 h => ?_)))
 refine TC.cut ([(16, .bool b5)]) ([]) ?_ (fun env H hle => ?_)
 ·refine TC.region (S Z (LnM runUnderlying221 Z (S Z (S Z (If h6 (fun hg7 h6 => ?_) (fun hg7 h6 => ?_))))))
  ·refine KF hg7 Z (KF hg7 Z (Pk hg7 Z (WO.nil ?_)))
   obtain rfl := Oi h6
   exact cutN (Lr [])
  ·refine Sg (gT hg7) Z (Bd h6 fun r8 hr8 h6 => ?_)
   refine WO.callD [] (OpC.fn call171 Z Z Z) (k_j _ _ _ hr8) ?_ (hg := (gT hg7))
   rintro _ _ ⟨rfl, rfl⟩
   refine aV (.bool r8) [_] Z Z ?_
   refine Pk hg7 Z (WO.nil ?_)
   obtain rfl := Oi h6
   exact cutN (Lr [])
 refine seqN (TC.le hle (Cn Z h (fun hc9 h => ?_) (fun hc9 h => ?_)))
 ·refine Rg (S Z (Nx (RtR ?_)))
  obtain rfl := Oi h
  refine ⟨[(2, _)], _, _, ?_, ResOK.one Z Z, Z, Z⟩
  exact Lr []
 refine SkN (Rg (S Z (Nx (TC.ret ?_))))
 obtain rfl := Oi h
 refine ⟨[(2, _)], _, _, ?_, ResOK.one Z Z, Z, Z⟩
 exact Lr []
def F_at (n : Nat) (a1 : List Step) : Option Int :=
  (F_p n a1).bind fun r1 => (F_dt n r1).bind fun r2 => some r2
theorem k_at (n : Nat) (a1 : List Step) (r : Int) (h : F_at n a1 = some r) :
    C prog 56 [.rsl 8 (List.map Step.enc a1)] [] (fun a H => a = .int .i64 r ∧ H = []) := by
 refine C.of_body func56 Z Z Z ?_
 refine Rg (S Z (Nx (Rg (S Z (Bd h fun r1 hr1 h => ?_)))))
 refine WO.callD [] (OpC.fn call122 Z Z Z) (k_p _ _ _ hr1) ?_
 rintro _ _ ⟨rfl, rfl⟩
 refine aV (.osl 0 0 r1.length 1) [.row 260 1 (List.map typing_form.enc r1)] Z Z ?_
 refine Bd h fun r2 hr2 h => ?_
 refine WO.callB (OpC.fn call121 rfl rfl rfl) (LookL.cons rfl (.inr ⟨_, _, _, _, _, rfl, rfl, List.length_map .., rfl⟩) LookL.nil) (k_dt _ _ _ hr2) (by rintro _ _ ⟨rfl, rfl⟩; rfl) ?_
 rintro _ _ ⟨rfl, rfl⟩
 refine aV (.int .i64 r2) [_] Z Z ?_
 refine S Z (Nx (TC.ret ?_))
 obtain rfl := Oi h
 refine ⟨[(2, _)], _, _, ?_, ResOK.one Z Z, Z, Z⟩
 exact Lr []
def F_ex (n : Nat) (x56 : Part) (b59 : List Int) (s73 : (List Int) × Int) : Option (Ctl ((List Int) × Int) (Ctl (List Int) (Ctl ((List Int) × Int) (Ctl (List Int) (List Int))))) :=
  (bif decide (s73.2 < (if x56.Laps < 1 then 1 else x56.Laps)) then (bif decide (256 < (s73.1.length : Int)) then some (.done (.done (.done (.done s73.1)))) else (app s73.1 b59).bind fun l78 => some (.cont (l78, IntKind.i64.wrap (s73.2 + 1)))) else some (.done (.cont s73.1)))
def F_er (n : Nat) (a1 : List Part) (rec114 : (List Part) → Option (List Int)) (s52 : (List Int) × Int) : Option (Ctl ((List Int) × Int) (Ctl (List Int) (List Int))) :=
  (bif decide (s52.2 < (a1.length : Int)) then (idx a1 s52.2).bind fun x56 => ((bif decide (0 < x56.Laps) then (rec114 x56.Parts).bind fun r62 => some r62 else some [x56.Mat]) : Option (List Int)).bind fun b59 => (iter (F_ex n x56 b59) n (s52.1, 0) : Option (Ctl (List Int) (Ctl ((List Int) × Int) (Ctl (List Int) (List Int))))).bind fun b70 => match b70 with | .cont sb70 => (some (.cont (sb70, IntKind.i64.wrap (s52.2 + 1)))) | .done sb70 => some sb70 else some (.done (.cont s52.1)))
def B_s (rec114 : (List Part) → Option (List Int)) (n : Nat) (a1 : List Part) : Option (List Int) :=
  (iter (F_er n a1 rec114) n ([], 0) : Option (Ctl (List Int) (List Int))).bind fun b49 => match b49 with | .cont sb49 => (some sb49) | .done sb49 => some sb49
theorem okB_typing_expand (rec114 : (List Part) → Option (List Int)) (hrec114 : ∀ (a1 : List Part) (r : List Int), rec114 a1 = some r → C prog 125 [.rsl 3 (List.map Part.enc a1)] [] (fun a H => a = .osl 0 0 r.length 1 ∧ H = [.row 3 1 (List.map (encI .i64) r)])) (n : Nat) (a1 : List Part) (r : List Int) (h : B_s rec114 n a1 = some r) :
    C prog 125 [.rsl 3 (List.map Part.enc a1)] [] (fun a H => a = .osl 0 0 r.length 1 ∧ H = [.row 3 1 (List.map (encI .i64) r)]) := by
 refine C.of_body func125 Z Z Z ?_
 refine Rg (S Z (Nx (TC.seq (Rg (S Z (LnM runUnderlying91 Z (S Z (Nx (Bd h fun b49 h50 h => ?_)))))))))
 refine TC.cutE (b := b49) (fun sb49 => [(2, .osl 0 0 sb49.length 1)]) (fun sb49 => [.row 3 1 (List.map (encI .i64) sb49)]) ?_ (fun sb49 env H hbe hle => ?_)
 ·refine TC.block ?_
  refine TC.loop (E := fun s52 => [(2, .osl 0 0 s52.1.length 1), (6, .rsl 3 (List.map Part.enc a1)), (7, .int .i64 (a1.length : Int)), (8, .int .i64 s52.2)]) (Hp := fun s52 => [.row 3 1 (List.map (encI .i64) s52.1)]) h50 ?_ ?_
  ·refine Le.trans (Le.phantom (s := 2) (k := 1) (t := 3) (Nat.le_of_ble_eq_true Z) Z) ?_
   exact Lr [0]
  intro s52 d53 h54 hb51
  refine Rg (S Z (Nx (TC.seq (CnS Z h54 (fun hc55 h54 => ?_) (fun hc55 h54 => ?_)))))
  ·refine ExX (loopX h54 ?_)
   obtain rfl := hb51 _ (Oi h54).symm
   exact bloE (cutEN Z (Lr [0]))
  refine SkN (TC.seq (TC.block (Rg (Bd h54 fun x56 hx56 h54 => ?_))))
  refine vX (.rp [.int .i64 x56.Mat, .int .i64 x56.Laps, .rsl 3 (List.map Part.enc x56.Parts)]) (OpV.ixME (e := Part.enc) hx56 (Part.enc_eq x56) runUnderlying91 sizeOf125) ?_
  refine vX (.agg (Part.c x56)) (OpV.loadA Z isAgg125 sizeOf125 Z Pts.rp Z Z) ?_
  refine vH (OpH.allocZ (v := (.agg [.int .i64 0, .int .i64 0, .rsl 3 (List.map Part.enc [])])) zeroValue125 (ZR.agg (ZL.cons ZR.int (ZL.cons ZR.int (ZL.cons ZR.rsl ZL.nil))))) ?_
  refine aV (.ptr 1 0) [_, .cells 125 [.int .i64 0, .int .i64 0, .rsl 3 (List.map Part.enc [])]] Z Z ?_
  refine vU (OpU.store Z Z Z sizeOf125 Z Z Z Z Z Z Z) ?_
  refine WO.atH (H := [_, .cells 125 (Part.c x56)]) Z ?_
  refine Nx (Rg (Fp fa_125_0 Z (Ld isAgg3 Z ?_)))
  refine vH (OpH.lit (xs := [.tmp 13]) (es := List.map (encI .i64) [x56.Mat]) el_48 Z Z Z Z Z ⟨Z, trivial⟩ Z Z) ?_
  refine aV (.osl 2 0 ([x56.Mat].length) 1) [_, _, .row 3 1 (List.map (encI .i64) [x56.Mat])] Z Z ?_
  refine S Z (Nx (TC.seq (Rg (Fp fa_125_1 Z (Ld isAgg3 Z (S Z (Nx (Bd h54 fun b59 h60 h54 => ?_))))))))
  refine TC.cut ([(2, .osl 0 0 s52.1.length 1), (4, .ptr 1 0), (5, .osl 2 0 b59.length 1), (6, .rsl 3 (List.map Part.enc a1)), (7, .int .i64 (a1.length : Int)), (8, .int .i64 s52.2)]) ([.row 3 1 (List.map (encI .i64) s52.1), .cells 125 (Part.c x56), .row 3 1 (List.map (encI .i64) b59)]) ?_ (fun env H hle => ?_)
  ·refine Cn Z h60 (fun hc61 h60 => ?_) (fun hc61 h60 => ?_)
   ·refine TC.region (Fp fa_125_2 Z (Ld isAgg91 Z (Bd h60 fun r62 hr62 h60 => ?_)))
    refine WO.callD [] (OpC.fn call125 Z Z Z) (hrec114 _ _ hr62) ?_
    rintro _ _ ⟨rfl, rfl⟩
    refine aV (.osl 3 0 r62.length 1) [_, _, _, .row 3 1 (List.map (encI .i64) r62)] Z Z ?_
    refine S Z (WO.nil ?_)
    obtain rfl := Oi h60
    exact cutN (Lr [0, 1, 3])
   refine TC.skip ?_
   obtain rfl := Oi h60
   exact cutN (Lr [0, 1, 2])
  refine seqN (TC.le hle (Rg (Fp fa_125_1 Z (Ld isAgg3 Z ?_))))
  refine vX (.int .i64 (if x56.Laps < 1 then 1 else x56.Laps)) (OpV.max Z Z Z Z) ?_
  refine S Z (Nx (Bd h54 fun b70 h71 h54 => ?_))
  refine TC.cutE (b := b70) (fun sb70 => [(2, .osl 0 0 sb70.length 1), (6, .rsl 3 (List.map Part.enc a1)), (7, .int .i64 (a1.length : Int)), (8, .int .i64 s52.2)]) (fun sb70 => [.row 3 1 (List.map (encI .i64) sb70)]) ?_ (fun sb70 env H hbe hle => ?_)
  ·refine TC.block ?_
   refine TC.loop (E := fun s73 => [(2, .osl 0 0 s73.1.length 1), (5, .osl 1 0 b59.length 1), (6, .rsl 3 (List.map Part.enc a1)), (7, .int .i64 (a1.length : Int)), (8, .int .i64 s52.2), (23, .int .i64 (if x56.Laps < 1 then 1 else x56.Laps)), (24, .int .i64 s73.2)]) (Hp := fun s73 => [.row 3 1 (List.map (encI .i64) s73.1), .row 3 1 (List.map (encI .i64) b59)]) h71 ?_ ?_
   ·exact Lr [0, 2]
   intro s73 d74 h75 hb72
   refine Rg (S Z (Nx (TC.seq (CnS Z h75 (fun hc76 h75 => ?_) (fun hc76 h75 => ?_)))))
   ·refine ExX (loopX h75 ?_)
    obtain rfl := hb72 _ (Oi h75).symm
    exact bloE (cutEN Z (Lr [0]))
   refine SkN (TC.seq (TC.block (TC.seq (Rg (S Z (LnO runUnderlying48 Z (S Z (Nx (Cn Z h75 (fun hc77 h75 => ?_) (fun hc77 h75 => ?_))))))))))
   ·refine Rg (S Z (S Z (Nx (RtR (bloR (seqR (loopR h75 ?_)))))))
    obtain rfl := hb72 _ (Oi h75).symm
    refine bloR (cutER (bloR (seqR (loopR h54 ?_))))
    obtain rfl := hb51 _ (Oi h54).symm
    refine bloR (cutER (seqR ?_))
    obtain rfl := Oi h
    refine ⟨[(2, _)], _, _, ?_, ResOK.one Z Z, Z, Z⟩
    exact Lr [0]
   refine SkN (TC.region (S Z (S Z (Bd h75 fun l78 hl78 h75 => ?_))))
   refine vH (OpH.appO (e := (encI .i64)) hl78 el_48 runUnderlying48 (Src.oM (i := 1))) ?_
   refine aV (.osl 2 0 l78.length 1) [.dead, _, .row 3 1 (List.map (encI .i64) l78)] Z Z ?_
   exact S Z (WO.nil (bloN (seqN (TC.region (S Z (S Z (WO.nil (loopN h75 (Lr [2, 1])))))))))
  subst hbe
  exact bloN (seqN (TC.le hle (TC.region (S Z (S Z (WO.nil (loopN h54 (Lr [0]))))))))
 subst hbe
 refine seqN (TC.le hle (Rg (S Z (S Z (Nx (TC.ret ?_))))))
 obtain rfl := Oi h
 refine ⟨[(2, _)], _, _, ?_, ResOK.one Z Z, Z, Z⟩
 exact Lr [0]
def F_s : Nat → (List Part) → Option (List Int)
  | 0 => fun _ => none
  | n + 1 => B_s (F_s n) n
theorem k_s (n : Nat) : ∀ (a1 : List Part) (r : List Int), F_s n a1 = some r → C prog 125 [.rsl 3 (List.map Part.enc a1)] [] (fun a H => a = .osl 0 0 r.length 1 ∧ H = [.row 3 1 (List.map (encI .i64) r)]) := by
  induction n with
  | zero => intro a1 r h; cases h
  | succ n ih => intro a1 r h; exact okB_typing_expand _ ih n a1 r h
def F_dy (n : Nat) (a1 : Cutoff) (a2 : List (Int × Int)) : Option Bool :=
  (some (mgetD a2 a1.Mat 0)).bind fun v1 => some (decide (a1.Lap ≤ v1))
theorem k_dy (n : Nat) (a1 : Cutoff) (a2 : List (Int × Int)) (r : Bool) (h : F_dy n a1 a2 = some r) :
    C prog 126 [.agg (Cutoff.c a1), .ptr 0 0] [.cells 223 [.map 1], .map (menc (fun x => A.int .i64 x) (fun x => A.int .i64 x) a2)] (fun a H => a = .bool r ∧ H = [.cells 223 [.map 1], .map (menc (fun x => A.int .i64 x) (fun x => A.int .i64 x) a2)]) := by
 refine C.of_body func126 Z Z Z ?_
 refine Rg ?_
 refine vH (OpH.box Z Z Z Z Z) ?_
 refine aV (.ptr 2 0) [_, _, .cells 168 (Cutoff.c a1)] Z Z ?_
 refine S Z (Nx (Rg (Ld isAgg223 Z (Fp fa_168_0 Z (Ld isAgg3 Z (Bd h fun v1 hv1 h => ?_))))))
 refine vX (.int .i64 v1) (OpV.look (ev := (fun x => A.int .i64 x)) (z0 := 0) (k := a1.Mat) (l := a2) key_3 hv1 underlying223 zeroValue3 ZR.int) ?_
 refine Fp fa_168_1 Z (Ld isAgg3 Z (S Z (S Z (Nx (TC.ret ?_)))))
 obtain rfl := Oi h
 refine ⟨[(3, _)], _, _, ?_, ResOK.one Z Z, Z, Z⟩
 exact Lr [0, 1]
def F_dg (n : Nat) (a1 : Cutoff) (a2 : List (Int × Int)) : Option Bool :=
  (F_dy n a1 a2).bind fun r1 => some (!r1)
theorem k_dg (n : Nat) (a1 : Cutoff) (a2 : List (Int × Int)) (r : Bool) (h : F_dg n a1 a2 = some r) :
    C prog 157 [.agg (Cutoff.c a1), .ptr 0 0] [.cells 200 [.fn (.func 126) [] [.ptr 1 0]], .cells 223 [.map 2], .map (menc (fun x => A.int .i64 x) (fun x => A.int .i64 x) a2)] (fun a H => a = .bool r ∧ H = [.cells 200 [.fn (.func 126) [] [.ptr 1 0]], .cells 223 [.map 2], .map (menc (fun x => A.int .i64 x) (fun x => A.int .i64 x) a2)]) := by
 refine C.of_body func157 Z Z Z ?_
 refine Rg ?_
 refine vH (OpH.box Z Z Z Z Z) ?_
 refine aV (.ptr 3 0) [_, _, _, .cells 168 (Cutoff.c a1)] Z Z ?_
 refine S Z (Nx (Rg (Ld isAgg200 Z ?_)))
 refine vX (.agg (Cutoff.c a1)) (OpV.loadA Z isAgg168 sizeOf168 Z (Pts.cells Z Z) Z Z) ?_
 refine Bd h fun r1 hr1 h => ?_
 refine WO.callD [1, 2] (OpC.clo call126 Z Z Z Z) (k_dy _ _ _ _ hr1) ?_
 rintro _ _ ⟨rfl, rfl⟩
 refine aV (.bool r1) [_, _, _, _] Z Z ?_
 refine S Z (S Z (Nx (TC.ret ?_)))
 obtain rfl := Oi h
 refine ⟨[(3, _)], _, _, ?_, ResOK.one Z Z, Z, Z⟩
 exact Lr [0, 1, 2]
def F_gl (n : Nat) (a1 : List Cutoff) (a2 : List (Int × Int)) (s13 : Int) : Option (Ctl Int (Ctl Unit Int)) :=
  (bif decide (s13 < (a1.length : Int)) then (idx a1 s13).bind fun x17 => (F_dg n x17 a2).bind fun r18 => (bif r18 then some (.done (.done s13)) else some (.cont (IntKind.i64.wrap (s13 + 1)))) else some (.done (.cont ())))
def F_ao (n : Nat) (a1 : List Cutoff) (a2 : List (Int × Int)) : Option Int :=
  (iter (F_gl n a1 a2) n 0 : Option (Ctl Unit Int)).bind fun b10 => match b10 with | .cont sb10 => (some (-1)) | .done sb10 => some sb10
theorem k_ao (n : Nat) (a1 : List Cutoff) (a2 : List (Int × Int)) (r : Int) (h : F_ao n a1 a2 = some r) :
    C prog 210 [.rsl 3 (List.map Cutoff.c a1), .fn (.func 157) [] [.ptr 0 0]] [.cells 200 [.fn (.func 126) [] [.ptr 1 0]], .cells 223 [.map 2], .map (menc (fun x => A.int .i64 x) (fun x => A.int .i64 x) a2)] (fun a H => a = .int .i64 r ∧ H = [.cells 200 [.fn (.func 126) [] [.ptr 1 0]], .cells 223 [.map 2], .map (menc (fun x => A.int .i64 x) (fun x => A.int .i64 x) a2)]) := by
 refine C.of_body func210 Z Z Z ?_
 refine Rg (S Z (Nx (TC.seq (Rg (S Z (LnM runUnderlying92 Z (S Z (Nx (Bd h fun b10 h11 h => ?_)))))))))
 refine TC.cutE (b := b10) (fun sb10 => []) (fun sb10 => [.cells 200 [.fn (.func 126) [] [.ptr 1 0]], .cells 223 [.map 2], .map (menc (fun x => A.int .i64 x) (fun x => A.int .i64 x) a2)]) ?_ (fun sb10 env H hbe hle => ?_)
 ·refine TC.block ?_
  refine TC.loop (E := fun s13 => [(0, .rsl 3 (List.map Cutoff.c a1)), (1, .fn (.func 157) [] [.ptr 0 0]), (7, .int .i64 (a1.length : Int)), (8, .int .i64 s13)]) (Hp := fun s13 => [.cells 200 [.fn (.func 126) [] [.ptr 1 0]], .cells 223 [.map 2], .map (menc (fun x => A.int .i64 x) (fun x => A.int .i64 x) a2)]) h11 ?_ ?_
  ·exact Lr [0, 1, 2]
  intro s13 d14 h15 hb12
  refine Rg (S Z (Nx (TC.seq (CnS Z h15 (fun hc16 h15 => ?_) (fun hc16 h15 => ?_)))))
  ·refine ExX (loopX h15 ?_)
   obtain rfl := hb12 _ (Oi h15).symm
   exact bloE (cutEN Z (Lr [0, 1, 2]))
  refine SkN (TC.seq (TC.block (Rg (S Z (S Z (Nx (Rg (S Z (S Z (S Z (Bd h15 fun x17 hx17 h15 => Ix hx17 runUnderlying92 sizeOf168 Z ?_)))))))))))
  refine vX (.agg (Cutoff.c x17)) (OpV.loadA Z isAgg168 sizeOf168 Z Pts.rp Z Z) ?_
  refine Bd h15 fun r18 hr18 h15 => ?_
  refine WO.callD [0, 1, 2] (OpC.clo call157 Z Z Z Z) (k_dg _ _ _ _ hr18) ?_
  rintro _ _ ⟨rfl, rfl⟩
  refine aV (.bool r18) [_, _, _] Z Z ?_
  refine Nx (Cn Z h15 (fun hc19 h15 => ?_) (fun hc19 h15 => ?_))
  ·refine Rg (S Z (S Z (Nx (TC.ret (bloR (seqR (loopR h15 ?_)))))))
   obtain rfl := hb12 _ (Oi h15).symm
   refine bloR (cutER (seqR ?_))
   obtain rfl := Oi h
   refine ⟨[(4, _)], _, _, ?_, ResOK.one Z Z, Z, Z⟩
   exact Lr [0, 1, 2]
  exact TC.skip (bloN (seqN (TC.region (S Z (S Z (WO.nil (loopN h15 (Lr [0, 1, 2]))))))))
 subst hbe
 refine seqN (TC.le hle (Rg (S Z (Nx (TC.ret ?_)))))
 obtain rfl := Oi h
 refine ⟨[(4, _)], _, _, ?_, ResOK.one Z Z, Z, Z⟩
 exact Lr [0, 1, 2]
def F_ee (n : Nat) (a1 : List Cutoff) (a2 : List (Int × Int)) : Option Bool :=
  (F_ao n a1 a2).bind fun r1 => some (decide (0 ≤ r1))
theorem k_ee (n : Nat) (a1 : List Cutoff) (a2 : List (Int × Int)) (r : Bool) (h : F_ee n a1 a2 = some r) :
    C prog 156 [.rsl 3 (List.map Cutoff.c a1), .fn (.func 157) [] [.ptr 0 0]] [.cells 200 [.fn (.func 126) [] [.ptr 1 0]], .cells 223 [.map 2], .map (menc (fun x => A.int .i64 x) (fun x => A.int .i64 x) a2)] (fun a H => a = .bool r ∧ H = [.cells 200 [.fn (.func 126) [] [.ptr 1 0]], .cells 223 [.map 2], .map (menc (fun x => A.int .i64 x) (fun x => A.int .i64 x) a2)]) := by
 refine C.of_body func156 Z Z Z ?_
 refine Rg (S Z (Nx (Rg (S Z (S Z (Bd h fun r1 hr1 h => ?_))))))
 refine WO.callD [0, 1, 2] (OpC.fn call210 Z Z Z) (k_ao _ _ _ _ hr1) ?_
 rintro _ _ ⟨rfl, rfl⟩
 refine aV (.int .i64 r1) [_, _, _] Z Z ?_
 refine S Z (S Z (Nx (TC.ret ?_)))
 obtain rfl := Oi h
 refine ⟨[(4, _)], _, _, ?_, ResOK.one Z Z, Z, Z⟩
 exact Lr [0, 1, 2]
def F_bi (n : Nat) (a1 : List Cutoff) (a2 : List (Int × Int)) : Option Bool :=
  (F_ee n a1 a2).bind fun r1 => some (!r1)
theorem k_bi (n : Nat) (a1 : List Cutoff) (a2 : List (Int × Int)) (r : Bool) (h : F_bi n a1 a2 = some r) :
    C prog 104 [.rsl 3 (List.map Cutoff.c a1), .fn (.func 126) [] [.ptr 0 0]] [.cells 223 [.map 1], .map (menc (fun x => A.int .i64 x) (fun x => A.int .i64 x) a2)] (fun a H => a = .bool r ∧ H = [.cells 223 [.map 1], .map (menc (fun x => A.int .i64 x) (fun x => A.int .i64 x) a2)]) := by
 refine C.of_body func104 Z Z Z ?_
 refine Rg ?_
 refine vH (OpH.box Z Z Z Z Z) ?_
 refine aV (.ptr 2 0) [_, _, .cells 200 [.fn (.func 126) [] [.ptr 0 0]]] Z Z ?_
 refine S Z (Nx (Rg (S Z ?_)))
 refine vX (.fn (.func 157) [] [.ptr 2 0]) (OpV.makeFunc (first := []) (cap := [.tmp 3]) Z Z Z) ?_
 refine Bd h fun r1 hr1 h => ?_
 refine WO.callD [2, 0, 1] (OpC.fn call156 Z Z Z) (k_ee _ _ _ _ hr1) ?_
 rintro _ _ ⟨rfl, rfl⟩
 refine aV (.bool r1) [_, _, _] Z Z ?_
 refine S Z (S Z (Nx (TC.ret ?_)))
 obtain rfl := Oi h
 refine ⟨[(4, _)], _, _, ?_, ResOK.one Z Z, Z, Z⟩
 exact Lr [0, 1]
def F_ey (n : Nat) (a1 : Course) (a3 : List (typing_ends × Bool)) (r1 : List Int) (s41 : (List (Int × Int)) × Int) : Option (Ctl ((List (Int × Int)) × Int) (Ctl (List (Int × Int)) Bool)) :=
  (bif decide (s41.2 < (r1.length : Int)) then (idx r1 s41.2).bind fun x45 => (idx a1.Mats x45).bind fun x46 => ((bif ((x46.Kind == 1) != (s41.2 == 0)) then some true else (bif ((x46.Kind == 3) != (s41.2 == (IntKind.i64.wrap ((r1.length : Int) - 1)))) then some true else (bif decide (0 < s41.2) then (idx r1 (IntKind.i64.wrap (s41.2 - 1))).bind fun x57 => (some (mgetD a3 ({ from_ := x57, to_ := x45 : typing_ends }) false)).bind fun v58 => some (!v58) else some false))) : Option Bool).bind fun b52 => (bif b52 then some (.done (.done false)) else (some (mgetD s41.1 x45 0)).bind fun v60 => (some (mset s41.1 x45 (IntKind.i64.wrap (v60 + 1)))).bind fun m61 => some (.cont (m61, IntKind.i64.wrap (s41.2 + 1)))) else some (.done (.cont s41.1)))
def F_eb (n : Nat) (a1 : Course) (a2 : Distance) (a3 : List (typing_ends × Bool)) : Option Bool :=
  (F_s n a2.Route).bind fun r1 => ((bif decide ((IntKind.i64.wrap ((r1.length : Int) - 1)) < 1) then some true else some (decide (256 ≤ (IntKind.i64.wrap ((r1.length : Int) - 1))))) : Option Bool).bind fun b3 => (bif b3 then some false else (iter (F_ey n a1 a3 r1) n ([], 0) : Option (Ctl (List (Int × Int)) Bool)).bind fun b38 => match b38 with | .cont sb38 => (((bif decide (0 ≤ a2.Extra) then (some (mgetD sb38 a2.Extra 0)).bind fun v71 => (bif (v71 == 0) then some true else (idx a1.Mats a2.Extra).bind fun x73 => (bif (x73.Kind != 2) then some true else (some (mgetD a3 ({ from_ := a2.Extra, to_ := a2.Extra : typing_ends }) false)).bind fun v75 => some (!v75))) else some false) : Option Bool).bind fun b68 => (bif b68 then some false else (F_bi n a2.Cutoffs sb38).bind fun r77 => some r77)) | .done sb38 => some sb38)
theorem k_eb (n : Nat) (a1 : Course) (a2 : Distance) (a3 : List (typing_ends × Bool)) (r : Bool) (h : F_eb n a1 a2 a3 = some r) :
    C prog 59 [.agg (Course.c a1), .agg (Distance.c a2), .map 0] [.map (menc (fun x => A.agg (typing_ends.c x)) A.bool a3)] (fun a H => a = .bool r ∧ H = [.map (menc (fun x => A.agg (typing_ends.c x)) A.bool a3)]) := by
 refine C.of_body func59 Z Z Z ?_
 refine Rg ?_
 refine vH (OpH.box Z Z Z Z Z) ?_
 refine aV (.ptr 1 0) [_, .cells 33 (Course.c a1)] Z Z ?_
 refine vH (OpH.box Z Z Z Z Z) ?_
 refine aV (.ptr 2 0) [_, _, .cells 94 (Distance.c a2)] Z Z ?_
 refine S Z (Nx (Rg (Fp fa_94_1 Z (Ld isAgg91 Z (Bd h fun r1 hr1 h => ?_)))))
 refine WO.callD [] (OpC.fn call125 Z Z Z) (k_s _ _ _ hr1) ?_
 rintro _ _ ⟨rfl, rfl⟩
 refine aV (.osl 3 0 r1.length 1) [_, _, _, .row 3 1 (List.map (encI .i64) r1)] Z Z ?_
 refine S Z (Nx (Rg (S Z (LnO runUnderlying48 Z (S Z (S Z (Nx (TC.seq (TC.seq (Bd h fun b3 h4 h => ?_))))))))))
 refine TC.cut ([(2, .map 0), (3, .ptr 1 0), (4, .ptr 2 0), (7, .osl 3 0 r1.length 1), (8, .int .i64 (IntKind.i64.wrap ((r1.length : Int) - 1))), (25, .bool b3)]) ([.map (menc (fun x => A.agg (typing_ends.c x)) A.bool a3), .cells 33 (Course.c a1), .cells 94 (Distance.c a2), .row 3 1 (List.map (encI .i64) r1)]) ?_ (fun env H hle => ?_)
 ·refine TC.region (S Z (S Z (S Z (If h4 (fun hg5 h4 => ?_) (fun hg5 h4 => ?_)))))
  ·refine KF hg5 Z (KF hg5 Z (Pk hg5 Z (WO.nil ?_)))
   obtain rfl := Oi h4
   exact cutN (Lr [0, 1, 2, 3])
  ·refine Sg (gT hg5) Z (Sg (gT hg5) Z (Pk hg5 Z (WO.nil ?_)))
   obtain rfl := Oi h4
   exact cutN (Lr [0, 1, 2, 3])
 refine seqN (TC.le hle (Cn Z h (fun hc6 h => ?_) (fun hc6 h => ?_)))
 ·refine Rg (S Z (Nx (RtR ?_)))
  obtain rfl := Oi h
  refine ⟨[(6, _)], _, _, ?_, ResOK.one Z Z, Z, Z⟩
  exact Lr [0]
 refine SkN (Rg ?_)
 refine vH OpH.mkMap ?_
 refine aV (.map 4) [_, _, _, _, .map (menc (fun x => A.int .i64 x) (fun x => A.int .i64 x) [])] Z Z ?_
 refine vH (OpH.allocZ (v := .nilm) zeroValue223 ZR.nilm) ?_
 refine aV (.ptr 5 0) [_, _, _, _, _, .cells 223 [.nilm]] Z Z ?_
 refine vU (OpU.store Z Z Z sizeOf223 Z Z Z Z Z Z Z) ?_
 refine WO.atH (H := [_, _, _, _, _, .cells 223 [.map 4]]) Z ?_
 refine Nx (TC.seq (Rg (S Z (LnO runUnderlying48 Z (S Z (Nx (Bd h fun b38 h39 h => ?_)))))))
 refine TC.cutE (b := b38) (fun sb38 => [(2, .map 0), (3, .ptr 1 0), (4, .ptr 2 0), (9, .ptr 3 0)]) (fun sb38 => [.map (menc (fun x => A.agg (typing_ends.c x)) A.bool a3), .cells 33 (Course.c a1), .cells 94 (Distance.c a2), .cells 223 [.map 4], .map (menc (fun x => A.int .i64 x) (fun x => A.int .i64 x) sb38)]) ?_ (fun sb38 env H hbe hle => ?_)
 ·refine TC.block ?_
  refine TC.loop (E := fun s41 => [(2, .map 0), (3, .ptr 1 0), (4, .ptr 2 0), (7, .osl 3 0 r1.length 1), (8, .int .i64 (IntKind.i64.wrap ((r1.length : Int) - 1))), (9, .ptr 4 0), (27, .osl 3 0 r1.length 1), (28, .int .i64 (r1.length : Int)), (29, .int .i64 s41.2)]) (Hp := fun s41 => [.map (menc (fun x => A.agg (typing_ends.c x)) A.bool a3), .cells 33 (Course.c a1), .cells 94 (Distance.c a2), .row 3 1 (List.map (encI .i64) r1), .cells 223 [.map 5], .map (menc (fun x => A.int .i64 x) (fun x => A.int .i64 x) s41.1)]) h39 ?_ ?_
  ·exact Lr [0, 1, 2, 3, 5, 4]
  intro s41 d42 h43 hb40
  refine Rg (S Z (Nx (TC.seq (CnS Z h43 (fun hc44 h43 => ?_) (fun hc44 h43 => ?_)))))
  ·refine ExX (loopX h43 ?_)
   obtain rfl := hb40 _ (Oi h43).symm
   exact bloE (cutEN Z (Lr [0, 1, 2, 4, 5]))
  refine SkN (TC.seq (TC.block (Rg (S Z (Bd h43 fun x45 hx45 h43 => ?_)))))
  refine vX (.ptr 3 (Int.toNat s41.2 * 1)) (OpV.ixW hx45 Z runUnderlying48 sizeOf3) ?_
  refine vX (.int .i64 x45) (OpV.load Z isAgg3 Z (Pts.ofRow0 hx45)) ?_
  refine S Z (S Z (Nx (Rg (Fp fa_33_1 Z (Ld isAgg22 Z (S Z (Bd h43 fun x46 hx46 h43 => Ix hx46 runUnderlying22 sizeOf96 Z (Fr fa_96_1 Z (Ld isAgg3 Z (S Z (Nx (TC.seq (TC.seq (Bd h43 fun b52 h53 h43 => ?_))))))))))))))
  refine TC.cut ([(2, .map 0), (3, .ptr 1 0), (4, .ptr 2 0), (7, .osl 3 0 r1.length 1), (8, .int .i64 (IntKind.i64.wrap ((r1.length : Int) - 1))), (9, .ptr 4 0), (11, .int .i64 x45), (27, .osl 3 0 r1.length 1), (28, .int .i64 (r1.length : Int)), (29, .int .i64 s41.2), (68, .bool b52)]) ([.map (menc (fun x => A.agg (typing_ends.c x)) A.bool a3), .cells 33 (Course.c a1), .cells 94 (Distance.c a2), .row 3 1 (List.map (encI .i64) r1), .cells 223 [.map 5], .map (menc (fun x => A.int .i64 x) (fun x => A.int .i64 x) s41.1)]) ?_ (fun env H hle => ?_)
  ·refine TC.region (S Z (S Z (S Z (S Z ?_))))
   refine vX (.bool ((x46.Kind == 1) != (s41.2 == 0))) (OpV.boolNe runUnderlying4) ?_
   refine S Z (If h53 (fun hg54 h53 => ?_) (fun hg54 h53 => ?_))
   ·refine KF hg54 Z (KF hg54 Z (KF hg54 Z (KF hg54 Z (KF hg54 Z (KF hg54 Z (Pk hg54 Z (S Z (KF Z Z (KF Z Z (KF Z Z (KU Z (KU Z (KU Z (KU Z (KU Z (KU Z (KU Z (KU Z (KU Z (KU Z (KF Z Z (S Z (WO.nil ?_)))))))))))))))))))))))
    obtain rfl := Oi h53
    exact cutN (Lr [0, 1, 2, 3, 4, 5])
   ·refine Sg (gT hg54) Z (Sg (gT hg54) Z (Sg (gT hg54) Z (Sg (gT hg54) Z (Sg (gT hg54) Z ?_))))
    refine vV (x := (.bool ((x46.Kind == 3) != (s41.2 == (IntKind.i64.wrap ((r1.length : Int) - 1)))))) (OpV.boolNe runUnderlying4) ?_ (gT hg54)
    refine Pk hg54 Z (S Z (If h53 (fun hg55 h53 => ?_) (fun hg55 h53 => ?_)))
    ·refine KF hg55 Z (KF hg55 Z (KF hg55 Z (KU Z (KU Z (KU Z (KU Z (KU Z (KU Z (KU Z (KU Z (KU Z (KU Z (KF hg55 Z (Pk hg55 Z (WO.nil ?_)))))))))))))))
     obtain rfl := Oi h53
     exact cutN (Lr [0, 1, 2, 3, 4, 5])
    ·refine Sg (gT hg55) Z (Sg (gT hg55) Z (Sg (gT hg55) Z (If h53 (fun hg56 h53 => ?_) (fun hg56 h53 => ?_))))
     ·refine Sg (gT hg56) Z (Sg (gT hg56) Z (Sg (gT hg56) Z (Sg (gT hg56) Z (Bd h53 fun x57 hx57 h53 => ?_))))
      refine vX (.ptr 3 (Int.toNat (IntKind.i64.wrap (s41.2 - 1)) * 1)) (OpV.ixW hx57 Z runUnderlying48 sizeOf3) ?_ (gT hg56)
      refine vX (.int .i64 x57) (OpV.load Z isAgg3 Z (Pts.ofRow0 hx57)) ?_ (gT hg56)
      refine Sg (gT hg56) Z ?_
      refine vX (.agg [.int .i64 x57, .int .i64 x45]) (OpV.build (zs := [.int .i64 0, .int .i64 0]) zeroValue136 (ZR.agg (ZL.cons ZR.int (ZL.cons ZR.int ZL.nil))) pl_136) ?_ (gT hg56)
      refine Bd h53 fun v58 hv58 h53 => ?_
      refine vX (.bool v58) (OpV.look (ev := A.bool) (z0 := false) (k := ({ from_ := x57, to_ := x45 : typing_ends })) (l := a3) key_136 hv58 underlying134 zeroValue4 ZR.bool) ?_ (gT hg56)
      refine Sg (gT hg56) Z (Pkg (gT hg55) hg56 Z (Pk hg55 Z (WO.nil ?_)))
      obtain rfl := Oi h53
      exact cutN (Lr [0, 1, 2, 3, 4, 5])
     ·refine KF hg56 Z (KF hg56 Z (KF hg56 Z (KF hg56 Z (KF hg56 Z (KF hg56 Z (KF hg56 Z (KF hg56 Z (KF hg56 Z (KF hg56 Z (Pkg (gT hg55) hg56 Z (Pk hg55 Z (WO.nil ?_))))))))))))
      obtain rfl := Oi h53
      exact cutN (Lr [0, 1, 2, 3, 4, 5])
  refine seqN (TC.le hle (Cn Z h43 (fun hc59 h43 => ?_) (fun hc59 h43 => ?_)))
  ·refine Rg (S Z (Nx (RtR (bloR (seqR (loopR h43 ?_))))))
   obtain rfl := hb40 _ (Oi h43).symm
   refine bloR (cutER (seqR ?_))
   obtain rfl := Oi h
   refine ⟨[(6, _)], _, _, ?_, ResOK.one Z Z, Z, Z⟩
   exact Lr [0]
  refine SkN (TC.region (Ld isAgg223 Z (S Z (Bd h43 fun v60 hv60 h43 => ?_))))
  refine vX (.int .i64 v60) (OpV.look (ev := (fun x => A.int .i64 x)) (z0 := 0) (k := x45) (l := s41.1) key_3 hv60 underlying223 zeroValue3 ZR.int) ?_
  refine S Z (Bd h43 fun m61 hm61 h43 => ?_)
  refine vU (OpU.mput (ev := (fun x => A.int .i64 x)) (k := x45) (v := (IntKind.i64.wrap (v60 + 1))) (l := s41.1) key_3 hm61 Z underlying223) ?_
  refine WO.atH (H := [_, _, _, _, _, .map (menc (fun x => A.int .i64 x) (fun x => A.int .i64 x) m61)]) Z ?_
  exact WO.nil (bloN (seqN (TC.region (S Z (S Z (WO.nil (loopN h43 (Lr [0, 1, 2, 3, 4, 5]))))))))
 subst hbe
 refine seqN (TC.le hle (TC.seq (Rg (Fp fa_94_4 Z (Ld isAgg3 Z (S Z (Nx (TC.seq (Bd h fun b68 h69 h => ?_)))))))))
 refine TC.cut ([(4, .ptr 1 0), (9, .ptr 2 0), (100, .bool b68)]) ([.map (menc (fun x => A.agg (typing_ends.c x)) A.bool a3), .cells 94 (Distance.c a2), .cells 223 [.map 3], .map (menc (fun x => A.int .i64 x) (fun x => A.int .i64 x) sb38)]) ?_ (fun env H hle => ?_)
 ·refine TC.region (S Z (S Z (S Z (If h69 (fun hg70 h69 => ?_) (fun hg70 h69 => ?_)))))
  ·refine Ldg (gT hg70) isAgg223 Z (Sg (gT hg70) Z (Bd h69 fun v71 hv71 h69 => ?_))
   refine vX (.int .i64 v71) (OpV.look (ev := (fun x => A.int .i64 x)) (z0 := 0) (k := a2.Extra) (l := sb38) key_3 hv71 underlying223 zeroValue3 ZR.int) ?_ (gT hg70)
   refine Sg (gT hg70) Z (Sg (gT hg70) Z (If h69 (fun hg72 h69 => ?_) (fun hg72 h69 => ?_)))
   ·refine KF hg72 Z (KF hg72 Z (KF hg72 Z (KF hg72 Z (KF hg72 Z (KF hg72 Z (KF hg72 Z (Pkg (gT hg70) hg72 Z (Sg (gT hg70) Z (KF Z Z (KF Z Z (KF Z Z (KF Z Z (KF Z Z (KF Z Z (Sg (gT hg70) Z (Pk hg70 Z (WO.nil ?_)))))))))))))))))
    obtain rfl := Oi h69
    exact cutN (Lr [0, 2, 3, 4])
   ·refine Fpg (gT hg72) fa_33_1 Z (Ldg (gT hg72) isAgg22 Z (Sg (gT hg72) Z (Bd h69 fun x73 hx73 h69 => ?_)))
    refine vX (.rp [.str x73.Name, .int .i64 x73.Kind]) (OpV.ixM (e := Mat.c) (l := a1.Mats) (v := x73) hx73 runUnderlying22 sizeOf96) ?_ (gT hg72)
    refine Frg (gT hg72) fa_96_1 Z (Ldg (gT hg72) isAgg3 Z (Sg (gT hg72) Z (Pkg (gT hg70) hg72 Z (Sg (gT hg70) Z (If h69 (fun hg74 h69 => ?_) (fun hg74 h69 => ?_))))))
    ·refine KF hg74 Z (KF hg74 Z (KF hg74 Z (KF hg74 Z (KF hg74 Z (KF hg74 Z (Pkg (gT hg70) hg74 Z (Pk hg70 Z (WO.nil ?_))))))))
     obtain rfl := Oi h69
     exact cutN (Lr [0, 2, 3, 4])
    ·refine Sg (gT hg74) Z (Sg (gT hg74) Z (Sg (gT hg74) Z ?_))
     refine vX (.agg [.int .i64 a2.Extra, .int .i64 a2.Extra]) (OpV.build (zs := [.int .i64 0, .int .i64 0]) zeroValue136 (ZR.agg (ZL.cons ZR.int (ZL.cons ZR.int ZL.nil))) pl_136) ?_ (gT hg74)
     refine Bd h69 fun v75 hv75 h69 => ?_
     refine vX (.bool v75) (OpV.look (ev := A.bool) (z0 := false) (k := ({ from_ := a2.Extra, to_ := a2.Extra : typing_ends })) (l := a3) key_136 hv75 underlying134 zeroValue4 ZR.bool) ?_ (gT hg74)
     refine Sg (gT hg74) Z (Pkg (gT hg70) hg74 Z (Pk hg70 Z (WO.nil ?_)))
     obtain rfl := Oi h69
     exact cutN (Lr [0, 2, 3, 4])
  ·refine KF hg70 Z (KF hg70 Z (KF hg70 Z (KF hg70 Z (KF hg70 Z (KU Z (KU Z (KU Z (KU Z (KU Z (KU Z (KU Z (KF hg70 Z (KF hg70 Z (KU Z (KU Z (KU Z (KU Z (KU Z (KU Z (KF hg70 Z (Pk hg70 Z (WO.nil ?_))))))))))))))))))))))
   obtain rfl := Oi h69
   exact cutN (Lr [0, 2, 3, 4])
 refine seqN (TC.le hle (Cn Z h (fun hc76 h => ?_) (fun hc76 h => ?_)))
 ·refine Rg (S Z (Nx (RtR ?_)))
  obtain rfl := Oi h
  refine ⟨[(6, _)], _, _, ?_, ResOK.one Z Z, Z, Z⟩
  exact Lr [0]
 refine SkN (Rg (Fp fa_94_3 Z (Ld isAgg92 Z ?_)))
 refine vX (.fn (.func 126) [] [.ptr 2 0]) (OpV.makeFunc (first := []) (cap := [.tmp 9]) Z Z Z) ?_
 refine Bd h fun r77 hr77 h => ?_
 refine WO.callD [2, 3] (OpC.fn call104 Z Z Z) (k_bi _ _ _ _ hr77) ?_
 rintro _ _ ⟨rfl, rfl⟩
 refine aV (.bool r77) [_, _, _, _] Z Z ?_
 refine S Z (Nx (TC.ret ?_))
 obtain rfl := Oi h
 refine ⟨[(6, _)], _, _, ?_, ResOK.one Z Z, Z, Z⟩
 exact Lr [0]
def F_bb (n : Nat) (a1 : Distance) (a2 : Course) (a3 : List (typing_ends × Bool)) : Option Bool :=
  (F_eb n a2 a1 a3).bind fun r1 => some r1
theorem k_bb (n : Nat) (a1 : Distance) (a2 : Course) (a3 : List (typing_ends × Bool)) (r : Bool) (h : F_bb n a1 a2 a3 = some r) :
    C prog 58 [.agg (Distance.c a1), .ptr 0 0, .ptr 1 0] [.cells 33 (Course.c a2), .cells 134 [.map 2], .map (menc (fun x => A.agg (typing_ends.c x)) A.bool a3)] (fun a H => a = .bool r ∧ H = [.cells 33 (Course.c a2), .cells 134 [.map 2], .map (menc (fun x => A.agg (typing_ends.c x)) A.bool a3)]) := by
 refine C.of_body func58 Z Z Z ?_
 refine Rg ?_
 refine vH (OpH.box Z Z Z Z Z) ?_
 refine aV (.ptr 3 0) [_, _, _, .cells 94 (Distance.c a1)] Z Z ?_
 refine S Z (Nx (Rg ?_))
 refine vX (.agg (Course.c a2)) (OpV.loadA Z isAgg33 sizeOf33 Z (Pts.cells Z Z) Z Z) ?_
 refine vX (.agg (Distance.c a1)) (OpV.loadA Z isAgg94 sizeOf94 Z (Pts.cells Z Z) Z Z) ?_
 refine Ld isAgg134 Z (Bd h fun r1 hr1 h => ?_)
 refine WO.callD [2] (OpC.fn call59 Z Z Z) (k_eb _ _ _ _ _ hr1) ?_
 rintro _ _ ⟨rfl, rfl⟩
 refine aV (.bool r1) [_, _, _, _] Z Z ?_
 refine S Z (Nx (TC.ret ?_))
 obtain rfl := Oi h
 refine ⟨[(4, _)], _, _, ?_, ResOK.one Z Z, Z, Z⟩
 exact Lr [0, 1, 2]
def F_ca (n : Nat) (a1 : Distance) (a2 : Course) (a3 : List (typing_ends × Bool)) : Option Bool :=
  (F_bb n a1 a2 a3).bind fun r1 => some (!r1)
theorem k_ca (n : Nat) (a1 : Distance) (a2 : Course) (a3 : List (typing_ends × Bool)) (r : Bool) (h : F_ca n a1 a2 a3 = some r) :
    C prog 124 [.agg (Distance.c a1), .ptr 0 0] [.cells 139 [.fn (.func 58) [] [.ptr 1 0, .ptr 2 0]], .cells 33 (Course.c a2), .cells 134 [.map 3], .map (menc (fun x => A.agg (typing_ends.c x)) A.bool a3)] (fun a H => a = .bool r ∧ H = [.cells 139 [.fn (.func 58) [] [.ptr 1 0, .ptr 2 0]], .cells 33 (Course.c a2), .cells 134 [.map 3], .map (menc (fun x => A.agg (typing_ends.c x)) A.bool a3)]) := by
 refine C.of_body func124 Z Z Z ?_
 refine Rg ?_
 refine vH (OpH.box Z Z Z Z Z) ?_
 refine aV (.ptr 4 0) [_, _, _, _, .cells 94 (Distance.c a1)] Z Z ?_
 refine S Z (Nx (Rg (Ld isAgg139 Z ?_)))
 refine vX (.agg (Distance.c a1)) (OpV.loadA Z isAgg94 sizeOf94 Z (Pts.cells Z Z) Z Z) ?_
 refine Bd h fun r1 hr1 h => ?_
 refine WO.callD [1, 2, 3] (OpC.clo call58 Z Z Z Z) (k_bb _ _ _ _ _ hr1) ?_
 rintro _ _ ⟨rfl, rfl⟩
 refine aV (.bool r1) [_, _, _, _, _] Z Z ?_
 refine S Z (S Z (Nx (TC.ret ?_)))
 obtain rfl := Oi h
 refine ⟨[(3, _)], _, _, ?_, ResOK.one Z Z, Z, Z⟩
 exact Lr [0, 1, 2, 3]
def F_fc (n : Nat) (a1 : List Distance) (a2 : Course) (a3 : List (typing_ends × Bool)) (s13 : Int) : Option (Ctl Int (Ctl Unit Int)) :=
  (bif decide (s13 < (a1.length : Int)) then (idx a1 s13).bind fun x17 => (F_ca n x17 a2 a3).bind fun r18 => (bif r18 then some (.done (.done s13)) else some (.cont (IntKind.i64.wrap (s13 + 1)))) else some (.done (.cont ())))
def F_br (n : Nat) (a1 : List Distance) (a2 : Course) (a3 : List (typing_ends × Bool)) : Option Int :=
  (iter (F_fc n a1 a2 a3) n 0 : Option (Ctl Unit Int)).bind fun b10 => match b10 with | .cont sb10 => (some (-1)) | .done sb10 => some sb10
theorem k_br (n : Nat) (a1 : List Distance) (a2 : Course) (a3 : List (typing_ends × Bool)) (r : Int) (h : F_br n a1 a2 a3 = some r) :
    C prog 173 [.rsl 5 (List.map Distance.c a1), .fn (.func 124) [] [.ptr 0 0]] [.cells 139 [.fn (.func 58) [] [.ptr 1 0, .ptr 2 0]], .cells 33 (Course.c a2), .cells 134 [.map 3], .map (menc (fun x => A.agg (typing_ends.c x)) A.bool a3)] (fun a H => a = .int .i64 r ∧ H = [.cells 139 [.fn (.func 58) [] [.ptr 1 0, .ptr 2 0]], .cells 33 (Course.c a2), .cells 134 [.map 3], .map (menc (fun x => A.agg (typing_ends.c x)) A.bool a3)]) := by
 refine C.of_body func173 Z Z Z ?_
 refine Rg (S Z (Nx (TC.seq (Rg (S Z (LnM runUnderlying24 Z (S Z (Nx (Bd h fun b10 h11 h => ?_)))))))))
 refine TC.cutE (b := b10) (fun sb10 => []) (fun sb10 => [.cells 139 [.fn (.func 58) [] [.ptr 1 0, .ptr 2 0]], .cells 33 (Course.c a2), .cells 134 [.map 3], .map (menc (fun x => A.agg (typing_ends.c x)) A.bool a3)]) ?_ (fun sb10 env H hbe hle => ?_)
 ·refine TC.block ?_
  refine TC.loop (E := fun s13 => [(0, .rsl 5 (List.map Distance.c a1)), (1, .fn (.func 124) [] [.ptr 0 0]), (7, .int .i64 (a1.length : Int)), (8, .int .i64 s13)]) (Hp := fun s13 => [.cells 139 [.fn (.func 58) [] [.ptr 1 0, .ptr 2 0]], .cells 33 (Course.c a2), .cells 134 [.map 3], .map (menc (fun x => A.agg (typing_ends.c x)) A.bool a3)]) h11 ?_ ?_
  ·exact Lr [0, 1, 2, 3]
  intro s13 d14 h15 hb12
  refine Rg (S Z (Nx (TC.seq (CnS Z h15 (fun hc16 h15 => ?_) (fun hc16 h15 => ?_)))))
  ·refine ExX (loopX h15 ?_)
   obtain rfl := hb12 _ (Oi h15).symm
   exact bloE (cutEN Z (Lr [0, 1, 2, 3]))
  refine SkN (TC.seq (TC.block (Rg (S Z (S Z (Nx (Rg (S Z (S Z (S Z (Bd h15 fun x17 hx17 h15 => Ix hx17 runUnderlying24 sizeOf94 Z ?_)))))))))))
  refine vX (.agg (Distance.c x17)) (OpV.loadA Z isAgg94 sizeOf94 Z Pts.rp Z Z) ?_
  refine Bd h15 fun r18 hr18 h15 => ?_
  refine WO.callD [0, 1, 2, 3] (OpC.clo call124 Z Z Z Z) (k_ca _ _ _ _ _ hr18) ?_
  rintro _ _ ⟨rfl, rfl⟩
  refine aV (.bool r18) [_, _, _, _] Z Z ?_
  refine Nx (Cn Z h15 (fun hc19 h15 => ?_) (fun hc19 h15 => ?_))
  ·refine Rg (S Z (S Z (Nx (TC.ret (bloR (seqR (loopR h15 ?_)))))))
   obtain rfl := hb12 _ (Oi h15).symm
   refine bloR (cutER (seqR ?_))
   obtain rfl := Oi h
   refine ⟨[(4, _)], _, _, ?_, ResOK.one Z Z, Z, Z⟩
   exact Lr [0, 1, 2, 3]
  exact TC.skip (bloN (seqN (TC.region (S Z (S Z (WO.nil (loopN h15 (Lr [0, 1, 2, 3]))))))))
 subst hbe
 refine seqN (TC.le hle (Rg (S Z (Nx (TC.ret ?_)))))
 obtain rfl := Oi h
 refine ⟨[(4, _)], _, _, ?_, ResOK.one Z Z, Z, Z⟩
 exact Lr [0, 1, 2, 3]
def F_az (n : Nat) (a1 : List Distance) (a2 : Course) (a3 : List (typing_ends × Bool)) : Option Bool :=
  (F_br n a1 a2 a3).bind fun r1 => some (decide (0 ≤ r1))
theorem k_az (n : Nat) (a1 : List Distance) (a2 : Course) (a3 : List (typing_ends × Bool)) (r : Bool) (h : F_az n a1 a2 a3 = some r) :
    C prog 123 [.rsl 5 (List.map Distance.c a1), .fn (.func 124) [] [.ptr 0 0]] [.cells 139 [.fn (.func 58) [] [.ptr 1 0, .ptr 2 0]], .cells 33 (Course.c a2), .cells 134 [.map 3], .map (menc (fun x => A.agg (typing_ends.c x)) A.bool a3)] (fun a H => a = .bool r ∧ H = [.cells 139 [.fn (.func 58) [] [.ptr 1 0, .ptr 2 0]], .cells 33 (Course.c a2), .cells 134 [.map 3], .map (menc (fun x => A.agg (typing_ends.c x)) A.bool a3)]) := by
 refine C.of_body func123 Z Z Z ?_
 refine Rg (S Z (Nx (Rg (S Z (S Z (Bd h fun r1 hr1 h => ?_))))))
 refine WO.callD [0, 1, 2, 3] (OpC.fn call173 Z Z Z) (k_br _ _ _ _ _ hr1) ?_
 rintro _ _ ⟨rfl, rfl⟩
 refine aV (.int .i64 r1) [_, _, _, _] Z Z ?_
 refine S Z (S Z (Nx (TC.ret ?_)))
 obtain rfl := Oi h
 refine ⟨[(4, _)], _, _, ?_, ResOK.one Z Z, Z, Z⟩
 exact Lr [0, 1, 2, 3]
def F_cl (n : Nat) (a1 : List Distance) (a2 : Course) (a3 : List (typing_ends × Bool)) : Option Bool :=
  (F_az n a1 a2 a3).bind fun r1 => some (!r1)
theorem k_cl (n : Nat) (a1 : List Distance) (a2 : Course) (a3 : List (typing_ends × Bool)) (r : Bool) (h : F_cl n a1 a2 a3 = some r) :
    C prog 57 [.rsl 5 (List.map Distance.c a1), .fn (.func 58) [] [.ptr 0 0, .ptr 1 0]] [.cells 33 (Course.c a2), .cells 134 [.map 2], .map (menc (fun x => A.agg (typing_ends.c x)) A.bool a3)] (fun a H => a = .bool r ∧ H = [.cells 33 (Course.c a2), .cells 134 [.map 2], .map (menc (fun x => A.agg (typing_ends.c x)) A.bool a3)]) := by
 refine C.of_body func57 Z Z Z ?_
 refine Rg ?_
 refine vH (OpH.box Z Z Z Z Z) ?_
 refine aV (.ptr 3 0) [_, _, _, .cells 139 [.fn (.func 58) [] [.ptr 0 0, .ptr 1 0]]] Z Z ?_
 refine S Z (Nx (Rg (S Z ?_)))
 refine vX (.fn (.func 124) [] [.ptr 3 0]) (OpV.makeFunc (first := []) (cap := [.tmp 3]) Z Z Z) ?_
 refine Bd h fun r1 hr1 h => ?_
 refine WO.callD [3, 0, 1, 2] (OpC.fn call123 Z Z Z) (k_az _ _ _ _ _ hr1) ?_
 rintro _ _ ⟨rfl, rfl⟩
 refine aV (.bool r1) [_, _, _, _] Z Z ?_
 refine S Z (S Z (Nx (TC.ret ?_)))
 obtain rfl := Oi h
 refine ⟨[(4, _)], _, _, ?_, ResOK.one Z Z, Z, Z⟩
 exact Lr [0, 1, 2]
def F_fk (n : Nat) (a1 : Course) (s19 : (List (typing_ends × Bool)) × Int) : Option (Ctl ((List (typing_ends × Bool)) × Int) (List (typing_ends × Bool))) :=
  (bif decide (s19.2 < (a1.Legs.length : Int)) then (idx a1.Legs s19.2).bind fun x23 => (some (mset s19.1 ({ from_ := x23.From, to_ := x23.To : typing_ends }) true)).bind fun m24 => some (.cont (m24, IntKind.i64.wrap (s19.2 + 1))) else some (.done s19.1))
def F_an (n : Nat) (a1 : Course) : Option Int :=
  (F_cg n a1).bind fun r1 => (bif (!r1) then some 2 else (F_be n a1).bind fun r3 => (bif (!r3) then some 70 else (F_dd n a1).bind fun r5 => (bif (!r5) then some 71 else (F_at n a1.Ties).bind fun r7 => (bif (r7 != 0) then some r7 else (iter (F_fk n a1) n ([], 0) : Option (List (typing_ends × Bool))).bind fun b16 => (F_cl n a1.Distances a1 b16).bind fun r25 => (bif (!r25) then some 72 else some 0)))))
theorem k_an (n : Nat) (a1 : Course) (r : Int) (h : F_an n a1 = some r) :
    C prog 33 [.agg (Course.c a1)] [] (fun a H => a = .int .i64 r ∧ H = []) := by
 refine C.of_body func33 Z Z Z ?_
 refine Rg ?_
 refine vH (OpH.box Z Z Z Z Z) ?_
 refine aV (.ptr 0 0) [.cells 33 (Course.c a1)] Z Z ?_
 refine S Z (Nx (TC.seq (TC.block (Rg ?_))))
 refine vX (.agg (Course.c a1)) (OpV.loadA Z isAgg33 sizeOf33 Z (Pts.cells Z Z) Z Z) ?_
 refine Bd h fun r1 hr1 h => ?_
 refine WO.callD [] (OpC.fn call53 Z Z Z) (k_cg _ _ _ hr1) ?_
 rintro _ _ ⟨rfl, rfl⟩
 refine aV (.bool r1) [_] Z Z ?_
 refine S Z (S Z (Nx (Cn Z h (fun hc2 h => ?_) (fun hc2 h => ?_))))
 ·refine Rg (S Z (Nx (TC.ret (bloR (seqR ?_)))))
  obtain rfl := Oi h
  refine ⟨[(2, _)], _, _, ?_, ResOK.one Z Z, Z, Z⟩
  exact Lr []
 refine Rg ?_
 refine vX (.agg (Course.c a1)) (OpV.loadA Z isAgg33 sizeOf33 Z (Pts.cells Z Z) Z Z) ?_
 refine Bd h fun r3 hr3 h => ?_
 refine WO.callD [] (OpC.fn call54 Z Z Z) (k_be _ _ _ hr3) ?_
 rintro _ _ ⟨rfl, rfl⟩
 refine aV (.bool r3) [_] Z Z ?_
 refine S Z (S Z (Nx (Cn Z h (fun hc4 h => ?_) (fun hc4 h => ?_))))
 ·refine Rg (S Z (Nx (TC.ret (bloR (seqR ?_)))))
  obtain rfl := Oi h
  refine ⟨[(2, _)], _, _, ?_, ResOK.one Z Z, Z, Z⟩
  exact Lr []
 refine Rg ?_
 refine vX (.agg (Course.c a1)) (OpV.loadA Z isAgg33 sizeOf33 Z (Pts.cells Z Z) Z Z) ?_
 refine Bd h fun r5 hr5 h => ?_
 refine WO.callD [] (OpC.fn call55 Z Z Z) (k_dd _ _ _ hr5) ?_
 rintro _ _ ⟨rfl, rfl⟩
 refine aV (.bool r5) [_] Z Z ?_
 refine S Z (S Z (Nx (Cn Z h (fun hc6 h => ?_) (fun hc6 h => ?_))))
 ·refine Rg (S Z (Nx (TC.ret (bloR (seqR ?_)))))
  obtain rfl := Oi h
  refine ⟨[(2, _)], _, _, ?_, ResOK.one Z Z, Z, Z⟩
  exact Lr []
 refine TC.skip (bloN (seqN (TC.seq (Rg (Fp fa_33_8 Z (Ld isAgg29 Z (Bd h fun r7 hr7 h => ?_)))))))
 refine WO.callD [] (OpC.fn call56 Z Z Z) (k_at _ _ _ hr7) ?_
 rintro _ _ ⟨rfl, rfl⟩
 refine aV (.int .i64 r7) [_] Z Z ?_
 refine S Z (Nx (Rg (S Z (S Z (Nx (Cn Z h (fun hc8 h => ?_) (fun hc8 h => ?_)))))))
 ·refine Rg (S Z (S Z (Nx (RtR ?_))))
  obtain rfl := Oi h
  refine ⟨[(2, _)], _, _, ?_, ResOK.one Z Z, Z, Z⟩
  exact Lr []
 refine SkN (Rg ?_)
 refine vH OpH.mkMap ?_
 refine aV (.map 1) [_, .map (menc (fun x => A.agg (typing_ends.c x)) A.bool [])] Z Z ?_
 refine vH (OpH.allocZ (v := .nilm) zeroValue134 ZR.nilm) ?_
 refine aV (.ptr 2 0) [_, _, .cells 134 [.nilm]] Z Z ?_
 refine vU (OpU.store Z Z Z sizeOf134 Z Z Z Z Z Z Z) ?_
 refine WO.atH (H := [_, _, .cells 134 [.map 1]]) Z ?_
 refine Nx (TC.seq (Rg (Fp fa_33_2 Z (Ld isAgg23 Z (LnM runUnderlying23 Z (S Z (Nx (Bd h fun b16 h17 h => ?_))))))))
 refine TC.cut ([(1, .ptr 0 0), (3, .ptr 1 0)]) ([.cells 33 (Course.c a1), .cells 134 [.map 2], .map (menc (fun x => A.agg (typing_ends.c x)) A.bool b16)]) ?_ (fun env H hle => ?_)
 ·refine TC.block ?_
  refine TC.loop (E := fun s19 => [(1, .ptr 0 0), (3, .ptr 1 0), (26, .rsl 4 (List.map Leg.c a1.Legs)), (27, .int .i64 (a1.Legs.length : Int)), (28, .int .i64 s19.2)]) (Hp := fun s19 => [.cells 33 (Course.c a1), .cells 134 [.map 2], .map (menc (fun x => A.agg (typing_ends.c x)) A.bool s19.1)]) h17 ?_ ?_
  ·exact Lr [0, 2, 1]
  intro s19 d20 h21 hb18
  refine Rg (S Z (Nx (TC.seq (CnS Z h21 (fun hc22 h21 => ?_) (fun hc22 h21 => ?_)))))
  ·refine ExX (loopX h21 ?_)
   obtain rfl := hb18 _ (Oi h21).symm
   exact bloE (cutN (Lr [0, 1, 2]))
  refine SkN (TC.seq (TC.block (Rg (Bd h21 fun x23 hx23 h21 => Ix hx23 runUnderlying23 sizeOf123 Z ?_))))
  refine vX (.agg (Leg.c x23)) (OpV.loadA Z isAgg123 sizeOf123 Z Pts.rp Z Z) ?_
  refine vH (OpH.allocZ (v := (.agg [.int .i64 0, .int .i64 0, .int .i64 0, .int .i64 0])) zeroValue123 (ZR.agg (ZL.cons ZR.int (ZL.cons ZR.int (ZL.cons ZR.int (ZL.cons ZR.int ZL.nil)))))) ?_
  refine aV (.ptr 3 0) [_, _, _, .cells 123 [.int .i64 0, .int .i64 0, .int .i64 0, .int .i64 0]] Z Z ?_
  refine vU (OpU.store Z Z Z sizeOf123 Z Z Z Z Z Z Z) ?_
  refine WO.atH (H := [_, _, _, .cells 123 (Leg.c x23)]) Z ?_
  refine Nx (TC.region (Ld isAgg134 Z (Fp fa_123_0 Z (Ld isAgg3 Z (Fp fa_123_1 Z (Ld isAgg3 Z ?_))))))
  refine vX (.agg [.int .i64 x23.From, .int .i64 x23.To]) (OpV.build (zs := [.int .i64 0, .int .i64 0]) zeroValue136 (ZR.agg (ZL.cons ZR.int (ZL.cons ZR.int ZL.nil))) pl_136) ?_
  refine Bd h21 fun m24 hm24 h21 => ?_
  refine vU (OpU.mput (ev := A.bool) (k := ({ from_ := x23.From, to_ := x23.To : typing_ends })) (v := true) (l := s19.1) key_136 hm24 Z underlying134) ?_
  refine WO.atH (H := [_, _, .map (menc (fun x => A.agg (typing_ends.c x)) A.bool m24), _]) Z ?_
  exact WO.nil (bloN (seqN (TC.region (S Z (S Z (WO.nil (loopN h21 (Lr [0, 1, 2]))))))))
 refine seqN (TC.le hle (TC.seq (Rg (Fp fa_33_3 Z (Ld isAgg24 Z ?_)))))
 refine vX (.fn (.func 58) [] [.ptr 0 0, .ptr 1 0]) (OpV.makeFunc (first := []) (cap := [.tmp 1, .tmp 3]) Z Z Z) ?_
 refine Bd h fun r25 hr25 h => ?_
 refine WO.callD [0, 1, 2] (OpC.fn call57 Z Z Z) (k_cl _ _ _ _ _ hr25) ?_
 rintro _ _ ⟨rfl, rfl⟩
 refine aV (.bool r25) [_, _, _] Z Z ?_
 refine S Z (Nx (Cn Z h (fun hc26 h => ?_) (fun hc26 h => ?_)))
 ·refine Rg (S Z (Nx (RtR ?_)))
  obtain rfl := Oi h
  refine ⟨[(2, _)], _, _, ?_, ResOK.one Z Z, Z, Z⟩
  exact Lr []
 refine SkN (Rg (S Z (Nx (TC.ret ?_))))
 obtain rfl := Oi h
 refine ⟨[(2, _)], _, _, ?_, ResOK.one Z Z, Z, Z⟩
 exact Lr []
end Go.Sw
