/- What the functions compute that ChipsExchange reaches, and that their calls refine it (part 5 of 5). -/
import Derived.Test.YtkjlhfabbbomjaaGreatDoorW18Ex4
set_option linter.unusedVariables false
set_option linter.unusedSimpArgs false
set_option maxRecDepth 100000
set_option maxHeartbeats 4000000
namespace Go.Sw
open Go.Proofs Tryz
def F_fe (n : Nat) (r1 : (List Starter) × Int) (s13 : (List (Int × Bool)) × Int) : Option (Ctl ((List (Int × Bool)) × Int) (List (Int × Bool))) :=
  (bif decide (s13.2 < (r1.1.length : Int)) then (idx r1.1 s13.2).bind fun x17 => (some (mset s13.1 x17.Bib true)).bind fun m18 => some (.cont (m18, IntKind.i64.wrap (s13.2 + 1))) else some (.done s13.1))
def F_gi (n : Nat) (a2 : List Fact) (b10 : List (Int × Bool)) (s67 : (List (Pair × Bool)) × Int) : Option (Ctl ((List (Pair × Bool)) × Int) (List (Pair × Bool))) :=
  (bif decide (s67.2 < (a2.length : Int)) then (idx a2 s67.2).bind fun x71 => ((bif (x71.Kind == 7) then (F_af n x71).bind fun r81 => (bif (r81 == 0) then (some (mgetD b10 x71.Pair.A false)).bind fun v83 => (bif v83 then (some (mgetD b10 x71.Pair.B false)).bind fun v85 => some v85 else some false) else some false) else some false) : Option Bool).bind fun b78 => ((bif b78 then (some (mset s67.1 x71.Pair true)).bind fun m91 => some m91 else some s67.1) : Option (List (Pair × Bool))).bind fun b88 => some (.cont (b88, IntKind.i64.wrap (s67.2 + 1))) else some (.done s67.1))
def F_cy (n : Nat) (a1 : Course) (a2 : List Fact) : Option ((List Pair) × Int) :=
  (F_aa n a1 a2).bind fun r1 => (bif (r1.2 != 0) then some ([], r1.2) else (iter (F_fe n r1) n ([], 0) : Option (List (Int × Bool))).bind fun b10 => (iter (F_gi n a2 b10) n ([], 0) : Option (List (Pair × Bool))).bind fun b64 => (bif decide (16 < (b64.length : Int)) then some ([], 2) else (F_dq n b64).bind fun r93 => (F_bk n b64).bind fun r94 => some (r94, 0)))
theorem k_cy (n : Nat) (a1 : Course) (a2 : List Fact) (r : (List Pair) × Int) (h : F_cy n a1 a2 = some r) :
    C prog 15 [.agg (Course.c a1), .rsl 57 (List.map Fact.c a2)] [] (fun a H => a = .tup [.osl 0 0 r.1.length 2, .int .i64 r.2] ∧ H = [.row 59 2 (List.map Pair.c r.1)]) := by
 refine C.of_body func15 Z Z Z ?_
 refine Rg ?_
 refine vH (OpH.box Z Z Z Z Z) ?_
 refine aV (.ptr 0 0) [.cells 33 (Course.c a1)] Z Z ?_
 refine S Z (S Z (Nx (Rg ?_)))
 refine vX (.agg (Course.c a1)) (OpV.loadA Z isAgg33 sizeOf33 Z (Pts.cells Z Z) Z Z) ?_
 refine S Z (Bd h fun r1 hr1 h => ?_)
 refine WO.callD [] (OpC.fn call13 Z Z Z) (k_aa _ _ _ _ hr1) ?_
 rintro _ _ ⟨rfl, rfl⟩
 refine aV (.tup [.osl 1 0 r1.1.length 8, .int .i64 r1.2]) [_, .row 50 8 (List.map Starter.c r1.1)] Z Z ?_
 refine S Z (S Z (S Z (S Z (S Z (Nx (TC.seq (Rg (S Z (S Z (Nx (Cn Z h (fun hc2 h => ?_) (fun hc2 h => ?_))))))))))))
 ·refine Rg (S Z (S Z (S Z (Nx (RtR ?_)))))
  obtain rfl := Oi h
  refine ⟨[(4, _), (5, _)], _, _, ?_, ResOK.two Z Z Z, Z, Z⟩
  refine Le.trans (Le.phantom (s := 4) (k := 2) (t := 59) (Nat.le_of_ble_eq_true Z) Z) ?_
  exact Lr [2]
 refine SkN (Rg ?_)
 refine vH OpH.mkMap ?_
 refine aV (.map 2) [_, _, .map (menc (fun x => A.int .i64 x) A.bool [])] Z Z ?_
 refine S Z (Nx (TC.seq (Rg (S Z (LnO runUnderlying38 Z (S Z (Nx (Bd h fun b10 h11 h => ?_))))))))
 refine TC.cut ([(1, .rsl 57 (List.map Fact.c a2)), (7, .map 0)]) ([.map (menc (fun x => A.int .i64 x) A.bool b10)]) ?_ (fun env H hle => ?_)
 ·refine TC.block ?_
  refine TC.loop (E := fun s13 => [(1, .rsl 57 (List.map Fact.c a2)), (7, .map 0), (23, .osl 1 0 r1.1.length 8), (24, .int .i64 (r1.1.length : Int)), (25, .int .i64 s13.2)]) (Hp := fun s13 => [.map (menc (fun x => A.int .i64 x) A.bool s13.1), .row 50 8 (List.map Starter.c r1.1)]) h11 ?_ ?_
  ·exact Lr [2, 1]
  intro s13 d14 h15 hb12
  refine Rg (S Z (Nx (TC.seq (CnS Z h15 (fun hc16 h15 => ?_) (fun hc16 h15 => ?_)))))
  ·refine ExX (loopX h15 ?_)
   obtain rfl := hb12 _ (Oi h15).symm
   exact bloE (cutN (Lr [0]))
  refine SkN (TC.seq (TC.block (Rg (Bd h15 fun x17 hx17 h15 => ?_))))
  refine vX (.ptr 1 (Int.toNat s13.2 * 8)) (OpV.ixW hx17 Z runUnderlying38 sizeOf50) ?_
  refine vX (.agg (Starter.c x17)) (OpV.loadA Z isAgg50 sizeOf50 Z (Pts.ofRow0 hx17) Z Z) ?_
  refine vH (OpH.allocZ (v := (.agg [.int .i64 0, .int .i64 0, .int .i64 0, .int .i64 0, .int .i64 0, .int .i64 0, .int .i64 0, .int .i64 0])) zeroValue50 (ZR.agg (ZL.cons ZR.int (ZL.cons ZR.int (ZL.cons ZR.int (ZL.cons ZR.int (ZL.cons ZR.int (ZL.cons ZR.int (ZL.cons ZR.int (ZL.cons ZR.int ZL.nil)))))))))) ?_
  refine aV (.ptr 2 0) [_, _, .cells 50 [.int .i64 0, .int .i64 0, .int .i64 0, .int .i64 0, .int .i64 0, .int .i64 0, .int .i64 0, .int .i64 0]] Z Z ?_
  refine vU (OpU.store Z Z Z sizeOf50 Z Z Z Z Z Z Z) ?_
  refine WO.atH (H := [_, _, .cells 50 (Starter.c x17)]) Z ?_
  refine Nx (TC.region (S Z (Fp fa_50_0 Z (Ld isAgg3 Z (Bd h15 fun m18 hm18 h15 => ?_)))))
  refine vU (OpU.mput (ev := A.bool) (k := x17.Bib) (v := true) (l := s13.1) key_3 hm18 Z underlying57) ?_
  refine WO.atH (H := [.map (menc (fun x => A.int .i64 x) A.bool m18), _, _]) Z ?_
  exact WO.nil (bloN (seqN (TC.region (S Z (S Z (WO.nil (loopN h15 (Lr [0, 1]))))))))
 refine seqN (TC.le hle (Rg ?_))
 refine vH OpH.mkMap ?_
 refine aV (.map 1) [_, .map (menc (fun x => A.agg (Pair.c x)) A.bool [])] Z Z ?_
 refine S Z (Nx (TC.seq (Rg (S Z (LnM runUnderlying34 Z (S Z (Nx (Bd h fun b64 h65 h => ?_))))))))
 refine TC.cut ([(10, .map 0)]) ([.map (menc (fun x => A.agg (Pair.c x)) A.bool b64)]) ?_ (fun env H hle => ?_)
 ·refine TC.block ?_
  refine TC.loop (E := fun s67 => [(7, .map 0), (10, .map 1), (34, .rsl 57 (List.map Fact.c a2)), (35, .int .i64 (a2.length : Int)), (36, .int .i64 s67.2)]) (Hp := fun s67 => [.map (menc (fun x => A.int .i64 x) A.bool b10), .map (menc (fun x => A.agg (Pair.c x)) A.bool s67.1)]) h65 ?_ ?_
  ·exact Lr [0, 1]
  intro s67 d68 h69 hb66
  refine Rg (S Z (Nx (TC.seq (CnS Z h69 (fun hc70 h69 => ?_) (fun hc70 h69 => ?_)))))
  ·refine ExX (loopX h69 ?_)
   obtain rfl := hb66 _ (Oi h69).symm
   exact bloE (cutN (Lr [1]))
  refine SkN (TC.seq (TC.block (Rg (Bd h69 fun x71 hx71 h69 => Ix hx71 runUnderlying34 sizeOf81 Z ?_))))
  refine vX (.agg (Fact.c x71)) (OpV.loadA Z isAgg81 sizeOf81 Z Pts.rp Z Z) ?_
  refine vH (OpH.allocZ (v := (.agg [.int .i64 0, .int .i64 0, .int .i64 0, .int .i64 0, .int .i64 0, .int .i64 0, .int .i64 0, .int .i64 0, .int .i64 0, .int .i64 0, .int .i64 0, .int .i64 0, .int .i64 0, .int .i64 0, .int .i64 0, .int .i64 0, .int .i64 0, .int .i64 0, .int .i64 0, .int .i64 0, .int .i64 0, .int .i64 0, .int .i64 0, .int .i64 0, .int .i64 0, .int .i64 0, .int .i64 0, .int .i64 0, .int .i64 0, .int .i64 0, .int .i64 0, .int .i64 0, .int .i64 0, .int .i64 0, .int .i64 0, .int .i64 0, .int .i64 0, .int .i64 0, .int .i64 0, .int .i64 0, .int .i64 0, .int .i64 0, .int .i64 0, .int .i64 0, .int .i64 0, .int .i64 0, .int .i64 0, .int .i64 0, .int .i64 0, .int .i64 0, .int .i64 0, .int .i64 0, .int .i64 0, .int .i64 0, .bool false, .int .i64 0, .int .i64 0])) zeroValue81 (ZR.agg (ZL.cons ZR.int (ZL.cons ZR.int (ZL.cons ZR.int (ZL.cons ZR.int (ZL.cons ZR.int (ZL.cons ZR.int (ZL.cons ZR.int (ZL.cons ZR.int (ZL.cons ZR.int (ZL.cons ZR.int (ZL.cons ZR.int (ZL.cons ZR.int (ZL.cons ZR.int (ZL.cons ZR.int (ZL.cons ZR.int (ZL.cons ZR.int (ZL.cons ZR.int (ZL.cons ZR.int (ZL.cons ZR.int (ZL.cons ZR.int (ZL.cons ZR.int (ZL.cons ZR.int (ZL.cons ZR.int (ZL.cons ZR.int (ZL.cons ZR.int (ZL.cons ZR.int (ZL.cons ZR.int (ZL.cons ZR.int (ZL.cons ZR.int (ZL.cons ZR.int (ZL.cons ZR.int (ZL.cons ZR.int (ZL.cons ZR.int (ZL.cons ZR.int (ZL.cons ZR.int (ZL.cons ZR.int (ZL.cons ZR.int (ZL.cons ZR.int (ZL.cons ZR.int (ZL.cons ZR.int (ZL.cons ZR.int (ZL.cons ZR.int (ZL.cons ZR.int (ZL.cons ZR.int (ZL.cons ZR.int (ZL.cons ZR.int (ZL.cons ZR.int (ZL.cons ZR.int (ZL.cons ZR.int (ZL.cons ZR.int (ZL.cons ZR.int (ZL.cons ZR.int (ZL.cons ZR.int (ZL.cons ZR.int (ZL.cons ZR.bool (ZL.cons ZR.int (ZL.cons ZR.int ZL.nil))))))))))))))))))))))))))))))))))))))))))))))))))))))))))) ?_
  refine aV (.ptr 2 0) [_, _, .cells 81 [.int .i64 0, .int .i64 0, .int .i64 0, .int .i64 0, .int .i64 0, .int .i64 0, .int .i64 0, .int .i64 0, .int .i64 0, .int .i64 0, .int .i64 0, .int .i64 0, .int .i64 0, .int .i64 0, .int .i64 0, .int .i64 0, .int .i64 0, .int .i64 0, .int .i64 0, .int .i64 0, .int .i64 0, .int .i64 0, .int .i64 0, .int .i64 0, .int .i64 0, .int .i64 0, .int .i64 0, .int .i64 0, .int .i64 0, .int .i64 0, .int .i64 0, .int .i64 0, .int .i64 0, .int .i64 0, .int .i64 0, .int .i64 0, .int .i64 0, .int .i64 0, .int .i64 0, .int .i64 0, .int .i64 0, .int .i64 0, .int .i64 0, .int .i64 0, .int .i64 0, .int .i64 0, .int .i64 0, .int .i64 0, .int .i64 0, .int .i64 0, .int .i64 0, .int .i64 0, .int .i64 0, .int .i64 0, .bool false, .int .i64 0, .int .i64 0]] Z Z ?_
  refine vU (OpU.store Z Z Z sizeOf81 Z Z Z Z Z Z Z) ?_
  refine WO.atH (H := [_, _, .cells 81 (Fact.c x71)]) Z ?_
  refine Nx (TC.seq (Bd h69 fun b78 h79 h69 => ?_))
  refine TC.cut ([(7, .map 0), (10, .map 1), (12, .ptr 2 0), (34, .rsl 57 (List.map Fact.c a2)), (35, .int .i64 (a2.length : Int)), (36, .int .i64 s67.2), (61, .bool b78)]) ([.map (menc (fun x => A.int .i64 x) A.bool b10), .map (menc (fun x => A.agg (Pair.c x)) A.bool s67.1), .cells 81 (Fact.c x71)]) ?_ (fun env H hle => ?_)
  ·refine TC.region (Fp fa_81_3 Z (Ld isAgg3 Z (S Z (S Z (If h79 (fun hg80 h79 => ?_) (fun hg80 h79 => ?_))))))
   ·refine vX (.agg (Fact.c x71)) (OpV.loadA Z isAgg81 sizeOf81 Z (Pts.cells Z Z) Z Z) ?_ (gT hg80)
    refine Bd h79 fun r81 hr81 h79 => ?_
    refine WO.callD [] (OpC.fn call26 Z Z Z) (k_af _ _ _ hr81) ?_ (hg := (gT hg80))
    rintro _ _ ⟨rfl, rfl⟩
    refine aV (.int .i64 r81) [_, _, _] Z Z ?_
    refine Sg (gT hg80) Z (Pk hg80 Z (S Z (If h79 (fun hg82 h79 => ?_) (fun hg82 h79 => ?_))))
    ·refine Sg (gT hg82) Z (Fpg (gT hg82) fa_81_10 Z (Fpg (gT hg82) fa_59_0 Z (Ldg (gT hg82) isAgg3 Z (Bd h79 fun v83 hv83 h79 => ?_))))
     refine vX (.bool v83) (OpV.look (ev := A.bool) (z0 := false) (k := x71.Pair.A) (l := b10) key_3 hv83 underlying57 zeroValue4 ZR.bool) ?_ (gT hg82)
     refine Pk hg82 Z (S Z (If h79 (fun hg84 h79 => ?_) (fun hg84 h79 => ?_)))
     ·refine Sg (gT hg84) Z (Fpg (gT hg84) fa_81_10 Z (Fpg (gT hg84) fa_59_1 Z (Ldg (gT hg84) isAgg3 Z (Bd h79 fun v85 hv85 h79 => ?_))))
      refine vX (.bool v85) (OpV.look (ev := A.bool) (z0 := false) (k := x71.Pair.B) (l := b10) key_3 hv85 underlying57 zeroValue4 ZR.bool) ?_ (gT hg84)
      refine Pk hg84 Z (WO.nil ?_)
      obtain rfl := Oi h79
      exact cutN (Lr [0, 1, 2])
     ·refine KF hg84 Z (KF hg84 Z (KF hg84 Z (KF hg84 Z (KF hg84 Z (Pk hg84 Z (WO.nil ?_))))))
      obtain rfl := Oi h79
      exact cutN (Lr [0, 1, 2])
    ·refine KF hg82 Z (KF hg82 Z (KF hg82 Z (KF hg82 Z (KF hg82 Z (Pk hg82 Z (S Z (KF Z Z (KF Z Z (KF Z Z (KF Z Z (KF Z Z (S Z (WO.nil ?_)))))))))))))
     obtain rfl := Oi h79
     exact cutN (Lr [0, 1, 2])
   ·refine KF hg80 Z (KF hg80 Z (KF hg80 Z (Pk hg80 Z (S Z (KF Z Z (KF Z Z (KF Z Z (KF Z Z (KF Z Z (S Z (S Z (KF Z Z (KF Z Z (KF Z Z (KF Z Z (KF Z Z (S Z (WO.nil ?_))))))))))))))))))
    obtain rfl := Oi h79
    exact cutN (Lr [0, 1, 2])
  refine seqN (TC.le hle (Bd h69 fun b88 h89 h69 => ?_))
  refine TC.cut ([(7, .map 0), (10, .map 1), (34, .rsl 57 (List.map Fact.c a2)), (35, .int .i64 (a2.length : Int)), (36, .int .i64 s67.2)]) ([.map (menc (fun x => A.int .i64 x) A.bool b10), .map (menc (fun x => A.agg (Pair.c x)) A.bool b88)]) ?_ (fun env H hle => ?_)
  ·refine Cn Z h89 (fun hc90 h89 => ?_) (fun hc90 h89 => ?_)
   ·refine TC.region (S Z (Fp fa_81_10 Z ?_))
    refine vX (.agg (Pair.c x71.Pair)) (OpV.loadA Z isAgg59 sizeOf59 Z (Pts.cells Z Z) Z Z) ?_
    refine Bd h89 fun m91 hm91 h89 => ?_
    refine vU (OpU.mput (ev := A.bool) (k := x71.Pair) (v := true) (l := s67.1) key_59 hm91 Z underlying103) ?_
    refine WO.atH (H := [_, .map (menc (fun x => A.agg (Pair.c x)) A.bool m91), _]) Z ?_
    refine WO.nil ?_
    obtain rfl := Oi h89
    exact cutN (Lr [0, 1])
   refine TC.skip ?_
   obtain rfl := Oi h89
   exact cutN (Lr [0, 1])
  exact bloN (seqN (TC.le hle (TC.region (S Z (S Z (WO.nil (loopN h69 (Lr [0, 1]))))))))
 refine seqN (TC.le hle (TC.seq (Rg (S Z ?_))))
 refine vX (.int .i64 (b64.length : Int)) (OpV.lenMap (l := b64) underlying103 Z) ?_
 refine S Z (Nx (Cn Z h (fun hc92 h => ?_) (fun hc92 h => ?_)))
 ·refine Rg (S Z (S Z (Nx (RtR ?_))))
  obtain rfl := Oi h
  refine ⟨[(4, _), (5, _)], _, _, ?_, ResOK.two Z Z Z, Z, Z⟩
  refine Le.trans (Le.phantom (s := 4) (k := 2) (t := 59) (Nat.le_of_ble_eq_true Z) Z) ?_
  exact Lr [1]
 refine SkN (Rg (S Z (Bd h fun r93 hr93 h => ?_)))
 refine WO.callD [0] (OpC.fn call38 Z Z Z) (k_dq _ _ _ hr93) ?_
 rintro _ _ ⟨rfl, rfl⟩
 refine aV (.fn (.func 66) [] [.ptr 1 0]) [_, .cells 103 [.map 0]] Z Z ?_
 refine Bd h fun r94 hr94 h => ?_
 refine WO.callD [1, 0] (OpC.fn call37 Z Z Z) (k_bk _ _ _ hr94) ?_
 rintro _ _ ⟨rfl, rfl⟩
 refine aV (.osl 2 0 r94.length 2) [.fmap (menc (fun x => A.agg (Pair.c x)) A.bool b64), .dead, .row 59 2 (List.map Pair.c r94)] Z Z ?_
 refine S Z (S Z (Nx (TC.ret ?_)))
 obtain rfl := Oi h
 refine ⟨[(4, _), (5, _)], _, _, ?_, ResOK.two Z Z Z, Z, Z⟩
 exact Lr [2]
def F_cs (n : Nat) (a1 : Starter) (a2 : Int) : Option Unit :=
  some ()
theorem k_cs (n : Nat) (a1 : Starter) (a2 : Int) (r : Unit) (h : F_cs n a1 a2 = some r) :
    C prog 69 [.agg (Starter.c a1), .ptr 0 0] [.cells 3 [.int .i64 a2]] (fun a H => a = .bool (a1.Bib == a2) ∧ H = [.cells 3 [.int .i64 a2]]) := by
 refine C.of_body func69 Z Z Z ?_
 refine Rg ?_
 refine vH (OpH.box Z Z Z Z Z) ?_
 refine aV (.ptr 1 0) [_, .cells 50 (Starter.c a1)] Z Z ?_
 refine S Z (Nx (Rg (Fp fa_50_0 Z (Ld isAgg3 Z (Ld isAgg3 Z (S Z (S Z (Nx (TC.ret ?_)))))))))
 obtain rfl := Oi h
 refine ⟨[(3, _)], _, _, ?_, ResOK.one Z Z, Z, Z⟩
 exact Lr [0]
def F_cd (n : Nat) (a1 : List Starter) (a2 : Int) (s13 : Int) : Option (Ctl Int (Ctl Unit Int)) :=
  (bif decide (s13 < (a1.length : Int)) then (idx a1 s13).bind fun x17 => (F_cs n x17 a2).bind fun r18 => (bif (x17.Bib == a2) then some (.done (.done s13)) else some (.cont (IntKind.i64.wrap (s13 + 1)))) else some (.done (.cont ())))
def F_ag (n : Nat) (a1 : List Starter) (a2 : Int) : Option Int :=
  (iter (F_cd n a1 a2) n 0 : Option (Ctl Unit Int)).bind fun b10 => match b10 with | .cont sb10 => (some (-1)) | .done sb10 => some sb10
theorem k_ag (n : Nat) (a1 : List Starter) (a2 : Int) (r : Int) (h : F_ag n a1 a2 = some r) :
    C prog 68 [.rsl 8 (List.map Starter.c a1), .fn (.func 69) [] [.ptr 0 0]] [.cells 3 [.int .i64 a2]] (fun a H => a = .int .i64 r ∧ H = [.cells 3 [.int .i64 a2]]) := by
 refine C.of_body func68 Z Z Z ?_
 refine Rg (S Z (Nx (TC.seq (Rg (S Z (LnM runUnderlying38 Z (S Z (Nx (Bd h fun b10 h11 h => ?_)))))))))
 refine TC.cutE (b := b10) (fun sb10 => []) (fun sb10 => [.cells 3 [.int .i64 a2]]) ?_ (fun sb10 env H hbe hle => ?_)
 ·refine TC.block ?_
  refine TC.loop (E := fun s13 => [(0, .rsl 8 (List.map Starter.c a1)), (1, .fn (.func 69) [] [.ptr 0 0]), (7, .int .i64 (a1.length : Int)), (8, .int .i64 s13)]) (Hp := fun s13 => [.cells 3 [.int .i64 a2]]) h11 ?_ ?_
  ·exact Lr [0]
  intro s13 d14 h15 hb12
  refine Rg (S Z (Nx (TC.seq (CnS Z h15 (fun hc16 h15 => ?_) (fun hc16 h15 => ?_)))))
  ·refine ExX (loopX h15 ?_)
   obtain rfl := hb12 _ (Oi h15).symm
   exact bloE (cutEN Z (Lr [0]))
  refine SkN (TC.seq (TC.block (Rg (S Z (S Z (Nx (Rg (S Z (S Z (S Z (Bd h15 fun x17 hx17 h15 => Ix hx17 runUnderlying38 sizeOf50 Z ?_)))))))))))
  refine vX (.agg (Starter.c x17)) (OpV.loadA Z isAgg50 sizeOf50 Z Pts.rp Z Z) ?_
  refine Bd h15 fun r18 hr18 h15 => ?_
  refine WO.callD [0] (OpC.clo call69 Z Z Z Z) (k_cs _ _ _ _ hr18) ?_
  rintro _ _ ⟨rfl, rfl⟩
  refine aV (.bool (x17.Bib == a2)) [_] Z Z ?_
  refine Nx (Cn Z h15 (fun hc19 h15 => ?_) (fun hc19 h15 => ?_))
  ·refine Rg (S Z (S Z (Nx (TC.ret (bloR (seqR (loopR h15 ?_)))))))
   obtain rfl := hb12 _ (Oi h15).symm
   refine bloR (cutER (seqR ?_))
   obtain rfl := Oi h
   refine ⟨[(4, _)], _, _, ?_, ResOK.one Z Z, Z, Z⟩
   exact Lr [0]
  exact TC.skip (bloN (seqN (TC.region (S Z (S Z (WO.nil (loopN h15 (Lr [0]))))))))
 subst hbe
 refine seqN (TC.le hle (Rg (S Z (Nx (TC.ret ?_)))))
 obtain rfl := Oi h
 refine ⟨[(4, _)], _, _, ?_, ResOK.one Z Z, Z, Z⟩
 exact Lr [0]
def F_k (n : Nat) (a1 : List Starter) (a2 : Int) : Option (Starter × Bool) :=
  (F_ag n a1 a2).bind fun r1 => (bif decide (r1 < 0) then some ({ Bib := 0, Distance := 0, Wave := 0, Slot := 0, Age := 0, Chip := 0, Team := 0, Lot := 0 : Starter }, false) else (idx a1 r1).bind fun x3 => some (x3, true))
theorem k_k (n : Nat) (a1 : List Starter) (a2 : Int) (r : Starter × Bool) (h : F_k n a1 a2 = some r) :
    C prog 43 [.rsl 8 (List.map Starter.c a1), .int .i64 a2] [] (fun a H => a = .tup [.agg (Starter.c r.1), .bool r.2] ∧ H = [.cells 50 (Starter.c r.1)]) := by
 refine C.of_body func43 Z Z Z ?_
 refine Rg ?_
 refine vH (OpH.box Z Z Z Z Z) ?_
 refine aV (.ptr 0 0) [.cells 3 [.int .i64 a2]] Z Z ?_
 refine vH (OpH.allocZ (v := (.agg [.int .i64 0, .int .i64 0, .int .i64 0, .int .i64 0, .int .i64 0, .int .i64 0, .int .i64 0, .int .i64 0])) zeroValue50 (ZR.agg (ZL.cons ZR.int (ZL.cons ZR.int (ZL.cons ZR.int (ZL.cons ZR.int (ZL.cons ZR.int (ZL.cons ZR.int (ZL.cons ZR.int (ZL.cons ZR.int ZL.nil)))))))))) ?_
 refine aV (.ptr 1 0) [_, .cells 50 [.int .i64 0, .int .i64 0, .int .i64 0, .int .i64 0, .int .i64 0, .int .i64 0, .int .i64 0, .int .i64 0]] Z Z ?_
 refine S Z (Nx (Rg (S Z ?_)))
 refine vX (.fn (.func 69) [] [.ptr 0 0]) (OpV.makeFunc (first := []) (cap := [.tmp 3]) Z Z Z) ?_
 refine Bd h fun r1 hr1 h => ?_
 refine WO.callD [0] (OpC.fn call68 Z Z Z) (k_ag _ _ _ _ hr1) ?_
 rintro _ _ ⟨rfl, rfl⟩
 refine aV (.int .i64 r1) [_, _] Z Z ?_
 refine S Z (Nx (TC.seq (Rg (S Z (S Z (Nx (Cn Z h (fun hc2 h => ?_) (fun hc2 h => ?_))))))))
 ·refine Rg ?_
  refine vX (.agg [.int .i64 0, .int .i64 0, .int .i64 0, .int .i64 0, .int .i64 0, .int .i64 0, .int .i64 0, .int .i64 0]) (OpV.loadA Z isAgg50 sizeOf50 Z (Pts.cells Z Z) Z Z) ?_
  refine vU (OpU.store Z Z Z sizeOf50 Z Z Z Z Z Z Z) ?_
  refine WO.atH (H := [_, _]) Z ?_
  refine S Z (Nx (RtR ?_))
  obtain rfl := Oi h
  refine ⟨[(4, .ptr 0 0), (5, .bool (({ Bib := 0, Distance := 0, Wave := 0, Slot := 0, Age := 0, Chip := 0, Team := 0, Lot := 0 : Starter }, false).2))], [.cells 50 (Starter.c (({ Bib := 0, Distance := 0, Wave := 0, Slot := 0, Age := 0, Chip := 0, Team := 0, Lot := 0 : Starter }, false).1))], _, ?_, ResOK.many Z Z (ResL.cons (ResAt.cellB isAgg50 sizeOf50 Z Z Z) (ResL.cons ResAt.tmp ResL.nil)), Z, Z⟩
  exact Lr [1]
 refine SkN (Rg (S Z (S Z (Bd h fun x3 hx3 h => Ix hx3 runUnderlying38 sizeOf50 Z ?_))))
 refine vX (.agg (Starter.c x3)) (OpV.loadA Z isAgg50 sizeOf50 Z Pts.rp Z Z) ?_
 refine vU (OpU.store Z Z Z sizeOf50 Z Z Z Z Z Z Z) ?_
 refine WO.atH (H := [_, .cells 50 (Starter.c x3)]) Z ?_
 refine S Z (Nx (TC.ret ?_))
 obtain rfl := Oi h
 refine ⟨[(4, .ptr 0 0), (5, .bool ((x3, true).2))], [.cells 50 (Starter.c ((x3, true).1))], _, ?_, ResOK.many Z Z (ResL.cons (ResAt.cellB isAgg50 sizeOf50 Z Z Z) (ResL.cons ResAt.tmp ResL.nil)), Z, Z⟩
 exact Lr [1]
def F_b (n : Nat) (a1 : List Starter) (a2 : List Pair) (a3 : Int) (a4 : Int) : Option (Int × Int) :=
  ((bif decide (a3 < 0) then some true else some (decide ((a2.length : Int) < a3))) : Option Bool).bind fun b2 => (bif b2 then some (0, 1) else ((bif decide (0 < a3) then (idx a2 (IntKind.i64.wrap (a3 - 1))).bind fun x17 => ((bif (a4 == x17.A) then some x17.B else (bif (a4 == x17.B) then some x17.A else some a4)) : Option Int).bind fun b20 => some b20 else some a4) : Option Int).bind fun b14 => (F_k n a1 a4).bind fun r24 => (F_k n a1 b14).bind fun r25 => ((bif (!r24.2) then some true else some (!r25.2)) : Option Bool).bind fun b27 => (bif b27 then some (0, 180) else some (r25.1.Chip, 0)))
theorem k_b (n : Nat) (a1 : List Starter) (a2 : List Pair) (a3 : Int) (a4 : Int) (r : Int × Int) (h : F_b n a1 a2 a3 a4 = some r) :
    C prog 19 [.rsl 8 (List.map Starter.c a1), .rsl 2 (List.map Pair.c a2), .int .i64 a3, .int .i64 a4] [] (fun a H => a = .tup [.int .i64 r.1, .int .i64 r.2] ∧ H = []) := by
 refine C.of_body func19 Z Z Z ?_
 refine Rg (S Z (S Z (Nx (TC.seq (TC.seq (Bd h fun b2 h3 h => ?_))))))
 refine TC.cut ([(0, .rsl 8 (List.map Starter.c a1)), (1, .rsl 2 (List.map Pair.c a2)), (2, .int .i64 a3), (3, .int .i64 a4), (23, .bool b2)]) ([]) ?_ (fun env H hle => ?_)
 ·refine TC.region (S Z (S Z (S Z (If h3 (fun hg4 h3 => ?_) (fun hg4 h3 => ?_)))))
  ·refine KF hg4 Z (KF hg4 Z (KF hg4 Z (KF hg4 Z (Pk hg4 Z (WO.nil ?_)))))
   obtain rfl := Oi h3
   exact cutN (Lr [])
  ·refine Sg (gT hg4) Z (Sg (gT hg4) Z ?_)
   refine vX (.int .i64 (a2.length : Int)) (OpV.lenM (e := Pair.c) (l := a2) runUnderlying42) ?_ (gT hg4)
   refine Sg (gT hg4) Z (Pk hg4 Z (WO.nil ?_))
   obtain rfl := Oi h3
   exact cutN (Lr [])
 refine seqN (TC.le hle (Cn Z h (fun hc5 h => ?_) (fun hc5 h => ?_)))
 ·refine Rg (S Z (S Z (Nx (RtR ?_))))
  obtain rfl := Oi h
  refine ⟨[(8, _), (9, _)], _, _, ?_, ResOK.two Z Z Z, Z, Z⟩
  exact Lr []
 refine SkN (Rg (S Z (S Z (Nx (TC.seq (Rg (S Z (S Z (Nx (Bd h fun b14 h15 h => ?_))))))))))
 refine TC.cut ([(0, .rsl 8 (List.map Starter.c a1)), (3, .int .i64 a4), (10, .int .i64 b14)]) ([]) ?_ (fun env H hle => ?_)
 ·refine Cn Z h15 (fun hc16 h15 => ?_) (fun hc16 h15 => ?_)
  ·refine Rg (S Z (S Z (S Z (Bd h15 fun x17 hx17 h15 => Ix hx17 runUnderlying42 sizeOf59 Z ?_))))
   refine vX (.agg (Pair.c x17)) (OpV.loadA Z isAgg59 sizeOf59 Z Pts.rp Z Z) ?_
   refine vH (OpH.allocZ (v := (.agg [.int .i64 0, .int .i64 0])) zeroValue59 (ZR.agg (ZL.cons ZR.int (ZL.cons ZR.int ZL.nil)))) ?_
   refine aV (.ptr 0 0) [.cells 59 [.int .i64 0, .int .i64 0]] Z Z ?_
   refine vU (OpU.store Z Z Z sizeOf59 Z Z Z Z Z Z Z) ?_
   refine WO.atH (H := [.cells 59 (Pair.c x17)]) Z ?_
   refine Nx (Rg (S Z (Nx (TC.block (Rg (Fp fa_59_0 Z (Ld isAgg3 Z (S Z (S Z (Nx (Bd h15 fun b20 h21 h15 => ?_)))))))))))
   refine TC.cut ([(0, .rsl 8 (List.map Starter.c a1)), (3, .int .i64 a4), (10, .int .i64 b20)]) ([]) ?_ (fun env H hle => ?_)
   ·refine Cn Z h21 (fun hc22 h21 => ?_) (fun hc22 h21 => ?_)
    ·refine TC.region (Fp fa_59_1 Z (Ld isAgg3 Z (S Z (WO.nil ?_))))
     obtain rfl := Oi h21
     exact cutN (Lr [])
    refine Rg (Fp fa_59_1 Z (Ld isAgg3 Z (S Z (S Z (Nx (Cn Z h21 (fun hc23 h21 => ?_) (fun hc23 h21 => ?_)))))))
    ·refine TC.region (Fp fa_59_0 Z (Ld isAgg3 Z (S Z (WO.nil ?_))))
     obtain rfl := Oi h21
     exact cutN (Lr [])
    refine TC.skip ?_
    obtain rfl := Oi h21
    exact cutN (Lr [])
   refine bloN ?_
   obtain rfl := Oi h15
   exact cutN (Le.trans hle (Lr []))
  refine TC.skip ?_
  obtain rfl := Oi h15
  exact cutN (Lr [])
 refine seqN (TC.le hle (Rg (S Z (S Z (Bd h fun r24 hr24 h => ?_)))))
 refine WO.callD [] (OpC.fn call43 Z Z Z) (k_k _ _ _ _ hr24) ?_
 rintro _ _ ⟨rfl, rfl⟩
 refine aV (.tup [.agg (Starter.c r24.1), .bool r24.2]) [.cells 50 (Starter.c r24.1)] Z Z ?_
 refine S Z (S Z (S Z ?_))
 refine vH (OpH.allocZ (v := (.agg [.int .i64 0, .int .i64 0, .int .i64 0, .int .i64 0, .int .i64 0, .int .i64 0, .int .i64 0, .int .i64 0])) zeroValue50 (ZR.agg (ZL.cons ZR.int (ZL.cons ZR.int (ZL.cons ZR.int (ZL.cons ZR.int (ZL.cons ZR.int (ZL.cons ZR.int (ZL.cons ZR.int (ZL.cons ZR.int ZL.nil)))))))))) ?_
 refine aV (.ptr 1 0) [_, .cells 50 [.int .i64 0, .int .i64 0, .int .i64 0, .int .i64 0, .int .i64 0, .int .i64 0, .int .i64 0, .int .i64 0]] Z Z ?_
 refine vU (OpU.store Z Z Z sizeOf50 Z Z Z Z Z Z Z) ?_
 refine WO.atH (H := [_, .cells 50 (Starter.c r24.1)]) Z ?_
 refine S Z (Nx (Rg (S Z (S Z (Bd h fun r25 hr25 h => ?_)))))
 refine WO.callD [] (OpC.fn call43 Z Z Z) (k_k _ _ _ _ hr25) ?_
 rintro _ _ ⟨rfl, rfl⟩
 refine aV (.tup [.agg (Starter.c r25.1), .bool r25.2]) [_, _, .cells 50 (Starter.c r25.1)] Z Z ?_
 refine S Z (S Z (S Z ?_))
 refine vH (OpH.allocZ (v := (.agg [.int .i64 0, .int .i64 0, .int .i64 0, .int .i64 0, .int .i64 0, .int .i64 0, .int .i64 0, .int .i64 0])) zeroValue50 (ZR.agg (ZL.cons ZR.int (ZL.cons ZR.int (ZL.cons ZR.int (ZL.cons ZR.int (ZL.cons ZR.int (ZL.cons ZR.int (ZL.cons ZR.int (ZL.cons ZR.int ZL.nil)))))))))) ?_
 refine aV (.ptr 3 0) [_, _, _, .cells 50 [.int .i64 0, .int .i64 0, .int .i64 0, .int .i64 0, .int .i64 0, .int .i64 0, .int .i64 0, .int .i64 0]] Z Z ?_
 refine vU (OpU.store Z Z Z sizeOf50 Z Z Z Z Z Z Z) ?_
 refine WO.atH (H := [_, _, _, .cells 50 (Starter.c r25.1)]) Z ?_
 refine S Z (Nx (TC.seq (TC.seq (Bd h fun b27 h28 h => ?_))))
 refine TC.cut ([(14, .ptr 0 0), (62, .bool b27)]) ([.cells 50 (Starter.c r25.1)]) ?_ (fun env H hle => ?_)
 ·refine TC.region (S Z (S Z (S Z (If h28 (fun hg29 h28 => ?_) (fun hg29 h28 => ?_)))))
  ·refine KF hg29 Z (KF hg29 Z (Pk hg29 Z (WO.nil ?_)))
   obtain rfl := Oi h28
   exact cutN (Lr [3])
  ·refine Sg (gT hg29) Z (Sg (gT hg29) Z (Pk hg29 Z (WO.nil ?_)))
   obtain rfl := Oi h28
   exact cutN (Lr [3])
 refine seqN (TC.le hle (Cn Z h (fun hc30 h => ?_) (fun hc30 h => ?_)))
 ·refine Rg (S Z (S Z (Nx (RtR ?_))))
  obtain rfl := Oi h
  refine ⟨[(8, _), (9, _)], _, _, ?_, ResOK.two Z Z Z, Z, Z⟩
  exact Lr []
 refine SkN (Rg (Fp fa_50_5 Z (Ld isAgg3 Z (S Z (S Z (Nx (TC.ret ?_)))))))
 obtain rfl := Oi h
 refine ⟨[(8, _), (9, _)], _, _, ?_, ResOK.two Z Z Z, Z, Z⟩
 exact Lr []
def F_fq (n : Nat) (a1 : List Starter) (a2 : List Pair) (a3 : Int) (a4 : Int) (s21 : Int) : Option (Ctl Int (Ctl Unit (Int × Bool))) :=
  (bif decide (s21 < (a1.length : Int)) then (idx a1 s21).bind fun x25 => (F_b n a1 a2 a3 x25.Bib).bind fun r26 => ((bif (r26.2 == 0) then some (r26.1 == a4) else some false) : Option Bool).bind fun b28 => (bif b28 then some (.done (.done (x25.Bib, true))) else some (.cont (IntKind.i64.wrap (s21 + 1)))) else some (.done (.cont ())))
def F_u (n : Nat) (a1 : List Starter) (a2 : List Pair) (a3 : Int) (a4 : Int) : Option (Int × Bool) :=
  (iter (F_fq n a1 a2 a3 a4) n 0 : Option (Ctl Unit (Int × Bool))).bind fun b18 => match b18 with | .cont sb18 => (some (0, false)) | .done sb18 => some sb18
theorem k_u (n : Nat) (a1 : List Starter) (a2 : List Pair) (a3 : Int) (a4 : Int) (r : Int × Bool) (h : F_u n a1 a2 a3 a4 = some r) :
    C prog 21 [.rsl 8 (List.map Starter.c a1), .rsl 2 (List.map Pair.c a2), .int .i64 a3, .int .i64 a4] [] (fun a H => a = .tup [.int .i64 r.1, .bool r.2] ∧ H = []) := by
 refine C.of_body func21 Z Z Z ?_
 refine Rg (S Z (S Z (Nx (TC.seq (Rg (S Z (LnM runUnderlying38 Z (S Z (Nx (Bd h fun b18 h19 h => ?_))))))))))
 refine TC.cutE (b := b18) (fun sb18 => []) (fun sb18 => []) ?_ (fun sb18 env H hbe hle => ?_)
 ·refine TC.block ?_
  refine TC.loop (E := fun s21 => [(0, .rsl 8 (List.map Starter.c a1)), (1, .rsl 2 (List.map Pair.c a2)), (2, .int .i64 a3), (3, .int .i64 a4), (14, .rsl 8 (List.map Starter.c a1)), (15, .int .i64 (a1.length : Int)), (16, .int .i64 s21)]) (Hp := fun s21 => []) h19 ?_ ?_
  ·exact Lr []
  intro s21 d22 h23 hb20
  refine Rg (S Z (Nx (TC.seq (CnS Z h23 (fun hc24 h23 => ?_) (fun hc24 h23 => ?_)))))
  ·refine ExX (loopX h23 ?_)
   obtain rfl := hb20 _ (Oi h23).symm
   exact bloE (cutEN Z (Lr []))
  refine SkN (TC.seq (TC.block (Rg (Bd h23 fun x25 hx25 h23 => Ix hx25 runUnderlying38 sizeOf50 Z ?_))))
  refine vX (.agg (Starter.c x25)) (OpV.loadA Z isAgg50 sizeOf50 Z Pts.rp Z Z) ?_
  refine vH (OpH.allocZ (v := (.agg [.int .i64 0, .int .i64 0, .int .i64 0, .int .i64 0, .int .i64 0, .int .i64 0, .int .i64 0, .int .i64 0])) zeroValue50 (ZR.agg (ZL.cons ZR.int (ZL.cons ZR.int (ZL.cons ZR.int (ZL.cons ZR.int (ZL.cons ZR.int (ZL.cons ZR.int (ZL.cons ZR.int (ZL.cons ZR.int ZL.nil)))))))))) ?_
  refine aV (.ptr 0 0) [.cells 50 [.int .i64 0, .int .i64 0, .int .i64 0, .int .i64 0, .int .i64 0, .int .i64 0, .int .i64 0, .int .i64 0]] Z Z ?_
  refine vU (OpU.store Z Z Z sizeOf50 Z Z Z Z Z Z Z) ?_
  refine WO.atH (H := [.cells 50 (Starter.c x25)]) Z ?_
  refine Nx (Rg (S Z (S Z (S Z (Fp fa_50_0 Z (Ld isAgg3 Z (Bd h23 fun r26 hr26 h23 => ?_)))))))
  refine WO.callD [] (OpC.fn call19 Z Z Z) (k_b _ _ _ _ _ _ hr26) ?_
  rintro _ _ ⟨rfl, rfl⟩
  refine aV (.tup [.int .i64 r26.1, .int .i64 r26.2]) [_] Z Z ?_
  refine S Z (S Z (S Z (S Z (S Z (Nx (TC.seq (Bd h23 fun b28 h29 h23 => ?_)))))))
  refine TC.cut ([(0, .rsl 8 (List.map Starter.c a1)), (1, .rsl 2 (List.map Pair.c a2)), (2, .int .i64 a3), (3, .int .i64 a4), (11, .ptr 0 0), (14, .rsl 8 (List.map Starter.c a1)), (15, .int .i64 (a1.length : Int)), (16, .int .i64 s21), (35, .bool b28)]) ([.cells 50 (Starter.c x25)]) ?_ (fun env H hle => ?_)
  ·refine TC.region (S Z (S Z (S Z (If h29 (fun hg30 h29 => ?_) (fun hg30 h29 => ?_)))))
   ·refine Sg (gT hg30) Z (Sg (gT hg30) Z (Sg (gT hg30) Z (Pk hg30 Z (WO.nil ?_))))
    obtain rfl := Oi h29
    exact cutN (Lr [0])
   ·refine KF hg30 Z (KF hg30 Z (KF hg30 Z (Pk hg30 Z (WO.nil ?_))))
    obtain rfl := Oi h29
    exact cutN (Lr [0])
  refine seqN (TC.le hle (Cn Z h23 (fun hc31 h23 => ?_) (fun hc31 h23 => ?_)))
  ·refine Rg (Fp fa_50_0 Z (Ld isAgg3 Z (S Z (S Z (Nx (TC.ret (bloR (seqR (loopR h23 ?_)))))))))
   obtain rfl := hb20 _ (Oi h23).symm
   refine bloR (cutER (seqR ?_))
   obtain rfl := Oi h
   refine ⟨[(8, _), (9, _)], _, _, ?_, ResOK.two Z Z Z, Z, Z⟩
   exact Lr []
  exact TC.skip (bloN (seqN (TC.region (S Z (S Z (WO.nil (loopN h23 (Lr []))))))))
 subst hbe
 refine seqN (TC.le hle (Rg (S Z (S Z (Nx (TC.ret ?_))))))
 obtain rfl := Oi h
 refine ⟨[(8, _), (9, _)], _, _, ?_, ResOK.two Z Z Z, Z, Z⟩
 exact Lr []
def F_ab (n : Nat) (a1 : List Pair) : Option Unit :=
  some ()
theorem k_ab (n : Nat) (a1 : List Pair) (r : Unit) (h : F_ab n a1 = some r) :
    C prog 23 [.rsl 2 (List.map Pair.c a1)] [] (fun a H => a = .int .i64 (IntKind.i64.wrap ((a1.length : Int) + 1)) ∧ H = []) := by
 refine C.of_body func23 Z Z Z ?_
 refine Rg (S Z (Nx (Rg (S Z (LnM runUnderlying42 Z (S Z (S Z (Nx (TC.ret ?_)))))))))
 obtain rfl := Oi h
 refine ⟨[(2, _)], _, _, ?_, ResOK.one Z Z, Z, Z⟩
 exact Lr []
def F_aj (n : Nat) : Option Bool :=
  (F_n n 2 3 30).bind fun r1 => (F_n n 1 5 50).bind fun r2 => (F_n n 3 5 99).bind fun r3 => (F_x n).bind fun r4 => (F_aa n ({ Name := [115, 97, 109, 112, 108, 101], Mats := [{ Name := [108, 105, 110, 101], Kind := 1 : Mat }, { Name := [102, 105, 110, 105, 115, 104], Kind := 3 : Mat }], Legs := [{ From := 0, To := 1, Min := 10, Max := 100 : Leg }], Distances := [{ Name := [98, 114, 105, 101, 102], Route := [{ Mat := 0, Laps := 0, Parts := [] : Part }, { Mat := 1, Laps := 0, Parts := [] : Part }], Timing := 1, Cutoffs := [], Extra := (-1) : Distance }], Waves := [{ Name := [101, 108, 105, 116, 101], Gun := 0 : Wave }], Offences := [], Categories := [], Prizes := [], Ties := [{ Kind := 1, By := 4, Cond := { Kind := 0, Var := 0, N := 0, Parts := [] : Cond }, Then := [], Else := [] : Step }], Faults := { Misses := 0, Strays := 0, Window := 0, Residual := 0, Drift := 0 : Faults }, Fee := 0, Deadline := 0 : Course }) [{ Crew := 0, No := 1, At := 2, Kind := 1, Starter := { Bib := 3, Distance := 0, Wave := 0, Slot := 0, Age := 0, Chip := 30, Team := 0, Lot := 0 : Starter }, Read := { Mat := 0, Epoch := 0, Chip := 0, Local := 0 : Read }, Beacon := { Mat := 0, Epoch := 0, Local := 0, True := 0, Err := 0 : Beacon }, Sync := { MatA := 0, EpochA := 0, LocalA := 0, MatB := 0, EpochB := 0, LocalB := 0, Min := 0, Max := 0 : Sync }, Hand := { Bib := 0, Position := 0, Lo := 0, Hi := 0 : Hand }, Silence := { Mat := 0, Epoch := 0, Lo := 0, Hi := 0 : Silence }, Pair := { A := 0, B := 0 : Pair }, Report := { Case := 0, Bib := 0, Offence := 0, Position := 0 : Report }, Protest := { Case := 0, By := 0, Fee := 0, Form := 0 : Protest }, Ruling := { Case := 0, Instance := 0, Kind := 0, Bib := 0, Position := 0, Amount := 0 : Ruling }, Appeal := { Case := 0, Suspends := false : Appeal }, Void := { Crew := 0, No := 0 : Ref } : Fact }, { Crew := 0, No := 1, At := 1, Kind := 1, Starter := { Bib := 5, Distance := 0, Wave := 0, Slot := 0, Age := 0, Chip := 50, Team := 0, Lot := 0 : Starter }, Read := { Mat := 0, Epoch := 0, Chip := 0, Local := 0 : Read }, Beacon := { Mat := 0, Epoch := 0, Local := 0, True := 0, Err := 0 : Beacon }, Sync := { MatA := 0, EpochA := 0, LocalA := 0, MatB := 0, EpochB := 0, LocalB := 0, Min := 0, Max := 0 : Sync }, Hand := { Bib := 0, Position := 0, Lo := 0, Hi := 0 : Hand }, Silence := { Mat := 0, Epoch := 0, Lo := 0, Hi := 0 : Silence }, Pair := { A := 0, B := 0 : Pair }, Report := { Case := 0, Bib := 0, Offence := 0, Position := 0 : Report }, Protest := { Case := 0, By := 0, Fee := 0, Form := 0 : Protest }, Ruling := { Case := 0, Instance := 0, Kind := 0, Bib := 0, Position := 0, Amount := 0 : Ruling }, Appeal := { Case := 0, Suspends := false : Appeal }, Void := { Crew := 0, No := 0 : Ref } : Fact }, { Crew := 0, No := 1, At := 3, Kind := 1, Starter := { Bib := 5, Distance := 0, Wave := 0, Slot := 0, Age := 0, Chip := 99, Team := 0, Lot := 0 : Starter }, Read := { Mat := 0, Epoch := 0, Chip := 0, Local := 0 : Read }, Beacon := { Mat := 0, Epoch := 0, Local := 0, True := 0, Err := 0 : Beacon }, Sync := { MatA := 0, EpochA := 0, LocalA := 0, MatB := 0, EpochB := 0, LocalB := 0, Min := 0, Max := 0 : Sync }, Hand := { Bib := 0, Position := 0, Lo := 0, Hi := 0 : Hand }, Silence := { Mat := 0, Epoch := 0, Lo := 0, Hi := 0 : Silence }, Pair := { A := 0, B := 0 : Pair }, Report := { Case := 0, Bib := 0, Offence := 0, Position := 0 : Report }, Protest := { Case := 0, By := 0, Fee := 0, Form := 0 : Protest }, Ruling := { Case := 0, Instance := 0, Kind := 0, Bib := 0, Position := 0, Amount := 0 : Ruling }, Appeal := { Case := 0, Suspends := false : Appeal }, Void := { Crew := 0, No := 0 : Ref } : Fact }, { Crew := 0, No := 1, At := 0, Kind := 7, Starter := { Bib := 0, Distance := 0, Wave := 0, Slot := 0, Age := 0, Chip := 0, Team := 0, Lot := 0 : Starter }, Read := { Mat := 0, Epoch := 0, Chip := 0, Local := 0 : Read }, Beacon := { Mat := 0, Epoch := 0, Local := 0, True := 0, Err := 0 : Beacon }, Sync := { MatA := 0, EpochA := 0, LocalA := 0, MatB := 0, EpochB := 0, LocalB := 0, Min := 0, Max := 0 : Sync }, Hand := { Bib := 0, Position := 0, Lo := 0, Hi := 0 : Hand }, Silence := { Mat := 0, Epoch := 0, Lo := 0, Hi := 0 : Silence }, Pair := { A := 3, B := 5 : Pair }, Report := { Case := 0, Bib := 0, Offence := 0, Position := 0 : Report }, Protest := { Case := 0, By := 0, Fee := 0, Form := 0 : Protest }, Ruling := { Case := 0, Instance := 0, Kind := 0, Bib := 0, Position := 0, Amount := 0 : Ruling }, Appeal := { Case := 0, Suspends := false : Appeal }, Void := { Crew := 0, No := 0 : Ref } : Fact }, { Crew := 0, No := 2, At := 0, Kind := 7, Starter := { Bib := 0, Distance := 0, Wave := 0, Slot := 0, Age := 0, Chip := 0, Team := 0, Lot := 0 : Starter }, Read := { Mat := 0, Epoch := 0, Chip := 0, Local := 0 : Read }, Beacon := { Mat := 0, Epoch := 0, Local := 0, True := 0, Err := 0 : Beacon }, Sync := { MatA := 0, EpochA := 0, LocalA := 0, MatB := 0, EpochB := 0, LocalB := 0, Min := 0, Max := 0 : Sync }, Hand := { Bib := 0, Position := 0, Lo := 0, Hi := 0 : Hand }, Silence := { Mat := 0, Epoch := 0, Lo := 0, Hi := 0 : Silence }, Pair := { A := 3, B := 6 : Pair }, Report := { Case := 0, Bib := 0, Offence := 0, Position := 0 : Report }, Protest := { Case := 0, By := 0, Fee := 0, Form := 0 : Protest }, Ruling := { Case := 0, Instance := 0, Kind := 0, Bib := 0, Position := 0, Amount := 0 : Ruling }, Appeal := { Case := 0, Suspends := false : Appeal }, Void := { Crew := 0, No := 0 : Ref } : Fact }]).bind fun r5 => (F_x n).bind fun r6 => (F_cy n ({ Name := [115, 97, 109, 112, 108, 101], Mats := [{ Name := [108, 105, 110, 101], Kind := 1 : Mat }, { Name := [102, 105, 110, 105, 115, 104], Kind := 3 : Mat }], Legs := [{ From := 0, To := 1, Min := 10, Max := 100 : Leg }], Distances := [{ Name := [98, 114, 105, 101, 102], Route := [{ Mat := 0, Laps := 0, Parts := [] : Part }, { Mat := 1, Laps := 0, Parts := [] : Part }], Timing := 1, Cutoffs := [], Extra := (-1) : Distance }], Waves := [{ Name := [101, 108, 105, 116, 101], Gun := 0 : Wave }], Offences := [], Categories := [], Prizes := [], Ties := [{ Kind := 1, By := 4, Cond := { Kind := 0, Var := 0, N := 0, Parts := [] : Cond }, Then := [], Else := [] : Step }], Faults := { Misses := 0, Strays := 0, Window := 0, Residual := 0, Drift := 0 : Faults }, Fee := 0, Deadline := 0 : Course }) [{ Crew := 0, No := 1, At := 2, Kind := 1, Starter := { Bib := 3, Distance := 0, Wave := 0, Slot := 0, Age := 0, Chip := 30, Team := 0, Lot := 0 : Starter }, Read := { Mat := 0, Epoch := 0, Chip := 0, Local := 0 : Read }, Beacon := { Mat := 0, Epoch := 0, Local := 0, True := 0, Err := 0 : Beacon }, Sync := { MatA := 0, EpochA := 0, LocalA := 0, MatB := 0, EpochB := 0, LocalB := 0, Min := 0, Max := 0 : Sync }, Hand := { Bib := 0, Position := 0, Lo := 0, Hi := 0 : Hand }, Silence := { Mat := 0, Epoch := 0, Lo := 0, Hi := 0 : Silence }, Pair := { A := 0, B := 0 : Pair }, Report := { Case := 0, Bib := 0, Offence := 0, Position := 0 : Report }, Protest := { Case := 0, By := 0, Fee := 0, Form := 0 : Protest }, Ruling := { Case := 0, Instance := 0, Kind := 0, Bib := 0, Position := 0, Amount := 0 : Ruling }, Appeal := { Case := 0, Suspends := false : Appeal }, Void := { Crew := 0, No := 0 : Ref } : Fact }, { Crew := 0, No := 1, At := 1, Kind := 1, Starter := { Bib := 5, Distance := 0, Wave := 0, Slot := 0, Age := 0, Chip := 50, Team := 0, Lot := 0 : Starter }, Read := { Mat := 0, Epoch := 0, Chip := 0, Local := 0 : Read }, Beacon := { Mat := 0, Epoch := 0, Local := 0, True := 0, Err := 0 : Beacon }, Sync := { MatA := 0, EpochA := 0, LocalA := 0, MatB := 0, EpochB := 0, LocalB := 0, Min := 0, Max := 0 : Sync }, Hand := { Bib := 0, Position := 0, Lo := 0, Hi := 0 : Hand }, Silence := { Mat := 0, Epoch := 0, Lo := 0, Hi := 0 : Silence }, Pair := { A := 0, B := 0 : Pair }, Report := { Case := 0, Bib := 0, Offence := 0, Position := 0 : Report }, Protest := { Case := 0, By := 0, Fee := 0, Form := 0 : Protest }, Ruling := { Case := 0, Instance := 0, Kind := 0, Bib := 0, Position := 0, Amount := 0 : Ruling }, Appeal := { Case := 0, Suspends := false : Appeal }, Void := { Crew := 0, No := 0 : Ref } : Fact }, { Crew := 0, No := 1, At := 3, Kind := 1, Starter := { Bib := 5, Distance := 0, Wave := 0, Slot := 0, Age := 0, Chip := 99, Team := 0, Lot := 0 : Starter }, Read := { Mat := 0, Epoch := 0, Chip := 0, Local := 0 : Read }, Beacon := { Mat := 0, Epoch := 0, Local := 0, True := 0, Err := 0 : Beacon }, Sync := { MatA := 0, EpochA := 0, LocalA := 0, MatB := 0, EpochB := 0, LocalB := 0, Min := 0, Max := 0 : Sync }, Hand := { Bib := 0, Position := 0, Lo := 0, Hi := 0 : Hand }, Silence := { Mat := 0, Epoch := 0, Lo := 0, Hi := 0 : Silence }, Pair := { A := 0, B := 0 : Pair }, Report := { Case := 0, Bib := 0, Offence := 0, Position := 0 : Report }, Protest := { Case := 0, By := 0, Fee := 0, Form := 0 : Protest }, Ruling := { Case := 0, Instance := 0, Kind := 0, Bib := 0, Position := 0, Amount := 0 : Ruling }, Appeal := { Case := 0, Suspends := false : Appeal }, Void := { Crew := 0, No := 0 : Ref } : Fact }, { Crew := 0, No := 1, At := 0, Kind := 7, Starter := { Bib := 0, Distance := 0, Wave := 0, Slot := 0, Age := 0, Chip := 0, Team := 0, Lot := 0 : Starter }, Read := { Mat := 0, Epoch := 0, Chip := 0, Local := 0 : Read }, Beacon := { Mat := 0, Epoch := 0, Local := 0, True := 0, Err := 0 : Beacon }, Sync := { MatA := 0, EpochA := 0, LocalA := 0, MatB := 0, EpochB := 0, LocalB := 0, Min := 0, Max := 0 : Sync }, Hand := { Bib := 0, Position := 0, Lo := 0, Hi := 0 : Hand }, Silence := { Mat := 0, Epoch := 0, Lo := 0, Hi := 0 : Silence }, Pair := { A := 3, B := 5 : Pair }, Report := { Case := 0, Bib := 0, Offence := 0, Position := 0 : Report }, Protest := { Case := 0, By := 0, Fee := 0, Form := 0 : Protest }, Ruling := { Case := 0, Instance := 0, Kind := 0, Bib := 0, Position := 0, Amount := 0 : Ruling }, Appeal := { Case := 0, Suspends := false : Appeal }, Void := { Crew := 0, No := 0 : Ref } : Fact }, { Crew := 0, No := 2, At := 0, Kind := 7, Starter := { Bib := 0, Distance := 0, Wave := 0, Slot := 0, Age := 0, Chip := 0, Team := 0, Lot := 0 : Starter }, Read := { Mat := 0, Epoch := 0, Chip := 0, Local := 0 : Read }, Beacon := { Mat := 0, Epoch := 0, Local := 0, True := 0, Err := 0 : Beacon }, Sync := { MatA := 0, EpochA := 0, LocalA := 0, MatB := 0, EpochB := 0, LocalB := 0, Min := 0, Max := 0 : Sync }, Hand := { Bib := 0, Position := 0, Lo := 0, Hi := 0 : Hand }, Silence := { Mat := 0, Epoch := 0, Lo := 0, Hi := 0 : Silence }, Pair := { A := 3, B := 6 : Pair }, Report := { Case := 0, Bib := 0, Offence := 0, Position := 0 : Report }, Protest := { Case := 0, By := 0, Fee := 0, Form := 0 : Protest }, Ruling := { Case := 0, Instance := 0, Kind := 0, Bib := 0, Position := 0, Amount := 0 : Ruling }, Appeal := { Case := 0, Suspends := false : Appeal }, Void := { Crew := 0, No := 0 : Ref } : Fact }]).bind fun r7 => (F_b n r5.1 r7.1 1 3).bind fun r8 => (F_b n [] [] 0 1).bind fun r9 => (F_b n r5.1 [] 1 3).bind fun r10 => (F_u n r5.1 r7.1 1 30).bind fun r11 => (F_u n [] [] 0 1).bind fun r12 => ((bif (r5.2 == 0) then (bif ((r5.1.length : Int) == 2) then (idx r5.1 0).bind fun x26 => (bif (x26.Bib == 3) then (idx r5.1 1).bind fun x28 => (bif (x28.Chip == 50) then (bif (r7.2 == 0) then (bif ((r7.1.length : Int) == 1) then (idx r7.1 0).bind fun x32 => some (x32 == ({ A := 3, B := 5 : Pair })) else some false) else some false) else some false) else some false) else some false) else some false) : Option Bool).bind fun b22 => ((bif b22 then (F_ab n r7.1).bind fun r47 => (bif ((IntKind.i64.wrap ((r7.1.length : Int) + 1)) == 2) then (F_ab n []).bind fun r49 => (bif ((IntKind.i64.wrap ((([] : List Pair).length : Int) + 1)) == 1) then (bif (r8.2 == 0) then (bif (r8.1 == 50) then (bif (r9.2 == 180) then (bif (r10.2 == 1) then (bif r11.2 then (bif (r11.1 == 5) then some (!r12.2) else some false) else some false) else some false) else some false) else some false) else some false) else some false) else some false) else some false) : Option Bool).bind fun b44 => some b44
theorem k_aj (n : Nat) (r : Bool) (h : F_aj n = some r) :
    C prog 10 [] [] (fun a H => a = .bool r ∧ H = []) := by
 refine C.of_body func10 Z Z Z ?_
 refine Rg (S Z (Nx (Rg (Bd h fun r1 hr1 h => ?_))))
 refine WO.callD [] (OpC.fn call29 Z Z Z) (k_n _ _ _ _ _ hr1) ?_
 rintro _ _ ⟨rfl, rfl⟩
 refine aV (.agg [.int .i64 0, .int .i64 1, .int .i64 2, .int .i64 1, .int .i64 3, .int .i64 0, .int .i64 0, .int .i64 0, .int .i64 0, .int .i64 30, .int .i64 0, .int .i64 0, .int .i64 0, .int .i64 0, .int .i64 0, .int .i64 0, .int .i64 0, .int .i64 0, .int .i64 0, .int .i64 0, .int .i64 0, .int .i64 0, .int .i64 0, .int .i64 0, .int .i64 0, .int .i64 0, .int .i64 0, .int .i64 0, .int .i64 0, .int .i64 0, .int .i64 0, .int .i64 0, .int .i64 0, .int .i64 0, .int .i64 0, .int .i64 0, .int .i64 0, .int .i64 0, .int .i64 0, .int .i64 0, .int .i64 0, .int .i64 0, .int .i64 0, .int .i64 0, .int .i64 0, .int .i64 0, .int .i64 0, .int .i64 0, .int .i64 0, .int .i64 0, .int .i64 0, .int .i64 0, .int .i64 0, .int .i64 0, .bool false, .int .i64 0, .int .i64 0]) [.cells 81 [.int .i64 0, .int .i64 1, .int .i64 2, .int .i64 1, .int .i64 3, .int .i64 0, .int .i64 0, .int .i64 0, .int .i64 0, .int .i64 30, .int .i64 0, .int .i64 0, .int .i64 0, .int .i64 0, .int .i64 0, .int .i64 0, .int .i64 0, .int .i64 0, .int .i64 0, .int .i64 0, .int .i64 0, .int .i64 0, .int .i64 0, .int .i64 0, .int .i64 0, .int .i64 0, .int .i64 0, .int .i64 0, .int .i64 0, .int .i64 0, .int .i64 0, .int .i64 0, .int .i64 0, .int .i64 0, .int .i64 0, .int .i64 0, .int .i64 0, .int .i64 0, .int .i64 0, .int .i64 0, .int .i64 0, .int .i64 0, .int .i64 0, .int .i64 0, .int .i64 0, .int .i64 0, .int .i64 0, .int .i64 0, .int .i64 0, .int .i64 0, .int .i64 0, .int .i64 0, .int .i64 0, .int .i64 0, .bool false, .int .i64 0, .int .i64 0]] Z Z ?_
 refine Bd h fun r2 hr2 h => ?_
 refine WO.callD [] (OpC.fn call29 Z Z Z) (k_n _ _ _ _ _ hr2) ?_
 rintro _ _ ⟨rfl, rfl⟩
 refine aV (.agg [.int .i64 0, .int .i64 1, .int .i64 1, .int .i64 1, .int .i64 5, .int .i64 0, .int .i64 0, .int .i64 0, .int .i64 0, .int .i64 50, .int .i64 0, .int .i64 0, .int .i64 0, .int .i64 0, .int .i64 0, .int .i64 0, .int .i64 0, .int .i64 0, .int .i64 0, .int .i64 0, .int .i64 0, .int .i64 0, .int .i64 0, .int .i64 0, .int .i64 0, .int .i64 0, .int .i64 0, .int .i64 0, .int .i64 0, .int .i64 0, .int .i64 0, .int .i64 0, .int .i64 0, .int .i64 0, .int .i64 0, .int .i64 0, .int .i64 0, .int .i64 0, .int .i64 0, .int .i64 0, .int .i64 0, .int .i64 0, .int .i64 0, .int .i64 0, .int .i64 0, .int .i64 0, .int .i64 0, .int .i64 0, .int .i64 0, .int .i64 0, .int .i64 0, .int .i64 0, .int .i64 0, .int .i64 0, .bool false, .int .i64 0, .int .i64 0]) [_, .cells 81 [.int .i64 0, .int .i64 1, .int .i64 1, .int .i64 1, .int .i64 5, .int .i64 0, .int .i64 0, .int .i64 0, .int .i64 0, .int .i64 50, .int .i64 0, .int .i64 0, .int .i64 0, .int .i64 0, .int .i64 0, .int .i64 0, .int .i64 0, .int .i64 0, .int .i64 0, .int .i64 0, .int .i64 0, .int .i64 0, .int .i64 0, .int .i64 0, .int .i64 0, .int .i64 0, .int .i64 0, .int .i64 0, .int .i64 0, .int .i64 0, .int .i64 0, .int .i64 0, .int .i64 0, .int .i64 0, .int .i64 0, .int .i64 0, .int .i64 0, .int .i64 0, .int .i64 0, .int .i64 0, .int .i64 0, .int .i64 0, .int .i64 0, .int .i64 0, .int .i64 0, .int .i64 0, .int .i64 0, .int .i64 0, .int .i64 0, .int .i64 0, .int .i64 0, .int .i64 0, .int .i64 0, .int .i64 0, .bool false, .int .i64 0, .int .i64 0]] Z Z ?_
 refine Bd h fun r3 hr3 h => ?_
 refine WO.callD [] (OpC.fn call29 Z Z Z) (k_n _ _ _ _ _ hr3) ?_
 rintro _ _ ⟨rfl, rfl⟩
 refine aV (.agg [.int .i64 0, .int .i64 1, .int .i64 3, .int .i64 1, .int .i64 5, .int .i64 0, .int .i64 0, .int .i64 0, .int .i64 0, .int .i64 99, .int .i64 0, .int .i64 0, .int .i64 0, .int .i64 0, .int .i64 0, .int .i64 0, .int .i64 0, .int .i64 0, .int .i64 0, .int .i64 0, .int .i64 0, .int .i64 0, .int .i64 0, .int .i64 0, .int .i64 0, .int .i64 0, .int .i64 0, .int .i64 0, .int .i64 0, .int .i64 0, .int .i64 0, .int .i64 0, .int .i64 0, .int .i64 0, .int .i64 0, .int .i64 0, .int .i64 0, .int .i64 0, .int .i64 0, .int .i64 0, .int .i64 0, .int .i64 0, .int .i64 0, .int .i64 0, .int .i64 0, .int .i64 0, .int .i64 0, .int .i64 0, .int .i64 0, .int .i64 0, .int .i64 0, .int .i64 0, .int .i64 0, .int .i64 0, .bool false, .int .i64 0, .int .i64 0]) [_, _, .cells 81 [.int .i64 0, .int .i64 1, .int .i64 3, .int .i64 1, .int .i64 5, .int .i64 0, .int .i64 0, .int .i64 0, .int .i64 0, .int .i64 99, .int .i64 0, .int .i64 0, .int .i64 0, .int .i64 0, .int .i64 0, .int .i64 0, .int .i64 0, .int .i64 0, .int .i64 0, .int .i64 0, .int .i64 0, .int .i64 0, .int .i64 0, .int .i64 0, .int .i64 0, .int .i64 0, .int .i64 0, .int .i64 0, .int .i64 0, .int .i64 0, .int .i64 0, .int .i64 0, .int .i64 0, .int .i64 0, .int .i64 0, .int .i64 0, .int .i64 0, .int .i64 0, .int .i64 0, .int .i64 0, .int .i64 0, .int .i64 0, .int .i64 0, .int .i64 0, .int .i64 0, .int .i64 0, .int .i64 0, .int .i64 0, .int .i64 0, .int .i64 0, .int .i64 0, .int .i64 0, .int .i64 0, .int .i64 0, .bool false, .int .i64 0, .int .i64 0]] Z Z ?_
 refine vX (.agg [.int .i64 3, .int .i64 5]) (OpV.build (zs := [.int .i64 0, .int .i64 0]) zeroValue59 (ZR.agg (ZL.cons ZR.int (ZL.cons ZR.int ZL.nil))) pl_59) ?_
 refine vX (.agg [.int .i64 0, .int .i64 1, .int .i64 0, .int .i64 7, .int .i64 0, .int .i64 0, .int .i64 0, .int .i64 0, .int .i64 0, .int .i64 0, .int .i64 0, .int .i64 0, .int .i64 0, .int .i64 0, .int .i64 0, .int .i64 0, .int .i64 0, .int .i64 0, .int .i64 0, .int .i64 0, .int .i64 0, .int .i64 0, .int .i64 0, .int .i64 0, .int .i64 0, .int .i64 0, .int .i64 0, .int .i64 0, .int .i64 0, .int .i64 0, .int .i64 0, .int .i64 0, .int .i64 0, .int .i64 0, .int .i64 0, .int .i64 0, .int .i64 0, .int .i64 3, .int .i64 5, .int .i64 0, .int .i64 0, .int .i64 0, .int .i64 0, .int .i64 0, .int .i64 0, .int .i64 0, .int .i64 0, .int .i64 0, .int .i64 0, .int .i64 0, .int .i64 0, .int .i64 0, .int .i64 0, .int .i64 0, .bool false, .int .i64 0, .int .i64 0]) (OpV.build (zs := [.int .i64 0, .int .i64 0, .int .i64 0, .int .i64 0, .int .i64 0, .int .i64 0, .int .i64 0, .int .i64 0, .int .i64 0, .int .i64 0, .int .i64 0, .int .i64 0, .int .i64 0, .int .i64 0, .int .i64 0, .int .i64 0, .int .i64 0, .int .i64 0, .int .i64 0, .int .i64 0, .int .i64 0, .int .i64 0, .int .i64 0, .int .i64 0, .int .i64 0, .int .i64 0, .int .i64 0, .int .i64 0, .int .i64 0, .int .i64 0, .int .i64 0, .int .i64 0, .int .i64 0, .int .i64 0, .int .i64 0, .int .i64 0, .int .i64 0, .int .i64 0, .int .i64 0, .int .i64 0, .int .i64 0, .int .i64 0, .int .i64 0, .int .i64 0, .int .i64 0, .int .i64 0, .int .i64 0, .int .i64 0, .int .i64 0, .int .i64 0, .int .i64 0, .int .i64 0, .int .i64 0, .int .i64 0, .bool false, .int .i64 0, .int .i64 0]) zeroValue81 (ZR.agg (ZL.cons ZR.int (ZL.cons ZR.int (ZL.cons ZR.int (ZL.cons ZR.int (ZL.cons ZR.int (ZL.cons ZR.int (ZL.cons ZR.int (ZL.cons ZR.int (ZL.cons ZR.int (ZL.cons ZR.int (ZL.cons ZR.int (ZL.cons ZR.int (ZL.cons ZR.int (ZL.cons ZR.int (ZL.cons ZR.int (ZL.cons ZR.int (ZL.cons ZR.int (ZL.cons ZR.int (ZL.cons ZR.int (ZL.cons ZR.int (ZL.cons ZR.int (ZL.cons ZR.int (ZL.cons ZR.int (ZL.cons ZR.int (ZL.cons ZR.int (ZL.cons ZR.int (ZL.cons ZR.int (ZL.cons ZR.int (ZL.cons ZR.int (ZL.cons ZR.int (ZL.cons ZR.int (ZL.cons ZR.int (ZL.cons ZR.int (ZL.cons ZR.int (ZL.cons ZR.int (ZL.cons ZR.int (ZL.cons ZR.int (ZL.cons ZR.int (ZL.cons ZR.int (ZL.cons ZR.int (ZL.cons ZR.int (ZL.cons ZR.int (ZL.cons ZR.int (ZL.cons ZR.int (ZL.cons ZR.int (ZL.cons ZR.int (ZL.cons ZR.int (ZL.cons ZR.int (ZL.cons ZR.int (ZL.cons ZR.int (ZL.cons ZR.int (ZL.cons ZR.int (ZL.cons ZR.int (ZL.cons ZR.int (ZL.cons ZR.bool (ZL.cons ZR.int (ZL.cons ZR.int ZL.nil)))))))))))))))))))))))))))))))))))))))))))))))))))))))))) pl_81) ?_
 refine vX (.agg [.int .i64 3, .int .i64 6]) (OpV.build (zs := [.int .i64 0, .int .i64 0]) zeroValue59 (ZR.agg (ZL.cons ZR.int (ZL.cons ZR.int ZL.nil))) pl_59) ?_
 refine vX (.agg [.int .i64 0, .int .i64 2, .int .i64 0, .int .i64 7, .int .i64 0, .int .i64 0, .int .i64 0, .int .i64 0, .int .i64 0, .int .i64 0, .int .i64 0, .int .i64 0, .int .i64 0, .int .i64 0, .int .i64 0, .int .i64 0, .int .i64 0, .int .i64 0, .int .i64 0, .int .i64 0, .int .i64 0, .int .i64 0, .int .i64 0, .int .i64 0, .int .i64 0, .int .i64 0, .int .i64 0, .int .i64 0, .int .i64 0, .int .i64 0, .int .i64 0, .int .i64 0, .int .i64 0, .int .i64 0, .int .i64 0, .int .i64 0, .int .i64 0, .int .i64 3, .int .i64 6, .int .i64 0, .int .i64 0, .int .i64 0, .int .i64 0, .int .i64 0, .int .i64 0, .int .i64 0, .int .i64 0, .int .i64 0, .int .i64 0, .int .i64 0, .int .i64 0, .int .i64 0, .int .i64 0, .int .i64 0, .bool false, .int .i64 0, .int .i64 0]) (OpV.build (zs := [.int .i64 0, .int .i64 0, .int .i64 0, .int .i64 0, .int .i64 0, .int .i64 0, .int .i64 0, .int .i64 0, .int .i64 0, .int .i64 0, .int .i64 0, .int .i64 0, .int .i64 0, .int .i64 0, .int .i64 0, .int .i64 0, .int .i64 0, .int .i64 0, .int .i64 0, .int .i64 0, .int .i64 0, .int .i64 0, .int .i64 0, .int .i64 0, .int .i64 0, .int .i64 0, .int .i64 0, .int .i64 0, .int .i64 0, .int .i64 0, .int .i64 0, .int .i64 0, .int .i64 0, .int .i64 0, .int .i64 0, .int .i64 0, .int .i64 0, .int .i64 0, .int .i64 0, .int .i64 0, .int .i64 0, .int .i64 0, .int .i64 0, .int .i64 0, .int .i64 0, .int .i64 0, .int .i64 0, .int .i64 0, .int .i64 0, .int .i64 0, .int .i64 0, .int .i64 0, .int .i64 0, .int .i64 0, .bool false, .int .i64 0, .int .i64 0]) zeroValue81 (ZR.agg (ZL.cons ZR.int (ZL.cons ZR.int (ZL.cons ZR.int (ZL.cons ZR.int (ZL.cons ZR.int (ZL.cons ZR.int (ZL.cons ZR.int (ZL.cons ZR.int (ZL.cons ZR.int (ZL.cons ZR.int (ZL.cons ZR.int (ZL.cons ZR.int (ZL.cons ZR.int (ZL.cons ZR.int (ZL.cons ZR.int (ZL.cons ZR.int (ZL.cons ZR.int (ZL.cons ZR.int (ZL.cons ZR.int (ZL.cons ZR.int (ZL.cons ZR.int (ZL.cons ZR.int (ZL.cons ZR.int (ZL.cons ZR.int (ZL.cons ZR.int (ZL.cons ZR.int (ZL.cons ZR.int (ZL.cons ZR.int (ZL.cons ZR.int (ZL.cons ZR.int (ZL.cons ZR.int (ZL.cons ZR.int (ZL.cons ZR.int (ZL.cons ZR.int (ZL.cons ZR.int (ZL.cons ZR.int (ZL.cons ZR.int (ZL.cons ZR.int (ZL.cons ZR.int (ZL.cons ZR.int (ZL.cons ZR.int (ZL.cons ZR.int (ZL.cons ZR.int (ZL.cons ZR.int (ZL.cons ZR.int (ZL.cons ZR.int (ZL.cons ZR.int (ZL.cons ZR.int (ZL.cons ZR.int (ZL.cons ZR.int (ZL.cons ZR.int (ZL.cons ZR.int (ZL.cons ZR.int (ZL.cons ZR.int (ZL.cons ZR.bool (ZL.cons ZR.int (ZL.cons ZR.int ZL.nil)))))))))))))))))))))))))))))))))))))))))))))))))))))))))) pl_81) ?_
 refine vH (OpH.lit (xs := [.tmp 17, .tmp 18, .tmp 19, .tmp 21, .tmp 23]) (es := List.map Fact.c [{ Crew := 0, No := 1, At := 2, Kind := 1, Starter := { Bib := 3, Distance := 0, Wave := 0, Slot := 0, Age := 0, Chip := 30, Team := 0, Lot := 0 : Starter }, Read := { Mat := 0, Epoch := 0, Chip := 0, Local := 0 : Read }, Beacon := { Mat := 0, Epoch := 0, Local := 0, True := 0, Err := 0 : Beacon }, Sync := { MatA := 0, EpochA := 0, LocalA := 0, MatB := 0, EpochB := 0, LocalB := 0, Min := 0, Max := 0 : Sync }, Hand := { Bib := 0, Position := 0, Lo := 0, Hi := 0 : Hand }, Silence := { Mat := 0, Epoch := 0, Lo := 0, Hi := 0 : Silence }, Pair := { A := 0, B := 0 : Pair }, Report := { Case := 0, Bib := 0, Offence := 0, Position := 0 : Report }, Protest := { Case := 0, By := 0, Fee := 0, Form := 0 : Protest }, Ruling := { Case := 0, Instance := 0, Kind := 0, Bib := 0, Position := 0, Amount := 0 : Ruling }, Appeal := { Case := 0, Suspends := false : Appeal }, Void := { Crew := 0, No := 0 : Ref } : Fact }, { Crew := 0, No := 1, At := 1, Kind := 1, Starter := { Bib := 5, Distance := 0, Wave := 0, Slot := 0, Age := 0, Chip := 50, Team := 0, Lot := 0 : Starter }, Read := { Mat := 0, Epoch := 0, Chip := 0, Local := 0 : Read }, Beacon := { Mat := 0, Epoch := 0, Local := 0, True := 0, Err := 0 : Beacon }, Sync := { MatA := 0, EpochA := 0, LocalA := 0, MatB := 0, EpochB := 0, LocalB := 0, Min := 0, Max := 0 : Sync }, Hand := { Bib := 0, Position := 0, Lo := 0, Hi := 0 : Hand }, Silence := { Mat := 0, Epoch := 0, Lo := 0, Hi := 0 : Silence }, Pair := { A := 0, B := 0 : Pair }, Report := { Case := 0, Bib := 0, Offence := 0, Position := 0 : Report }, Protest := { Case := 0, By := 0, Fee := 0, Form := 0 : Protest }, Ruling := { Case := 0, Instance := 0, Kind := 0, Bib := 0, Position := 0, Amount := 0 : Ruling }, Appeal := { Case := 0, Suspends := false : Appeal }, Void := { Crew := 0, No := 0 : Ref } : Fact }, { Crew := 0, No := 1, At := 3, Kind := 1, Starter := { Bib := 5, Distance := 0, Wave := 0, Slot := 0, Age := 0, Chip := 99, Team := 0, Lot := 0 : Starter }, Read := { Mat := 0, Epoch := 0, Chip := 0, Local := 0 : Read }, Beacon := { Mat := 0, Epoch := 0, Local := 0, True := 0, Err := 0 : Beacon }, Sync := { MatA := 0, EpochA := 0, LocalA := 0, MatB := 0, EpochB := 0, LocalB := 0, Min := 0, Max := 0 : Sync }, Hand := { Bib := 0, Position := 0, Lo := 0, Hi := 0 : Hand }, Silence := { Mat := 0, Epoch := 0, Lo := 0, Hi := 0 : Silence }, Pair := { A := 0, B := 0 : Pair }, Report := { Case := 0, Bib := 0, Offence := 0, Position := 0 : Report }, Protest := { Case := 0, By := 0, Fee := 0, Form := 0 : Protest }, Ruling := { Case := 0, Instance := 0, Kind := 0, Bib := 0, Position := 0, Amount := 0 : Ruling }, Appeal := { Case := 0, Suspends := false : Appeal }, Void := { Crew := 0, No := 0 : Ref } : Fact }, { Crew := 0, No := 1, At := 0, Kind := 7, Starter := { Bib := 0, Distance := 0, Wave := 0, Slot := 0, Age := 0, Chip := 0, Team := 0, Lot := 0 : Starter }, Read := { Mat := 0, Epoch := 0, Chip := 0, Local := 0 : Read }, Beacon := { Mat := 0, Epoch := 0, Local := 0, True := 0, Err := 0 : Beacon }, Sync := { MatA := 0, EpochA := 0, LocalA := 0, MatB := 0, EpochB := 0, LocalB := 0, Min := 0, Max := 0 : Sync }, Hand := { Bib := 0, Position := 0, Lo := 0, Hi := 0 : Hand }, Silence := { Mat := 0, Epoch := 0, Lo := 0, Hi := 0 : Silence }, Pair := { A := 3, B := 5 : Pair }, Report := { Case := 0, Bib := 0, Offence := 0, Position := 0 : Report }, Protest := { Case := 0, By := 0, Fee := 0, Form := 0 : Protest }, Ruling := { Case := 0, Instance := 0, Kind := 0, Bib := 0, Position := 0, Amount := 0 : Ruling }, Appeal := { Case := 0, Suspends := false : Appeal }, Void := { Crew := 0, No := 0 : Ref } : Fact }, { Crew := 0, No := 2, At := 0, Kind := 7, Starter := { Bib := 0, Distance := 0, Wave := 0, Slot := 0, Age := 0, Chip := 0, Team := 0, Lot := 0 : Starter }, Read := { Mat := 0, Epoch := 0, Chip := 0, Local := 0 : Read }, Beacon := { Mat := 0, Epoch := 0, Local := 0, True := 0, Err := 0 : Beacon }, Sync := { MatA := 0, EpochA := 0, LocalA := 0, MatB := 0, EpochB := 0, LocalB := 0, Min := 0, Max := 0 : Sync }, Hand := { Bib := 0, Position := 0, Lo := 0, Hi := 0 : Hand }, Silence := { Mat := 0, Epoch := 0, Lo := 0, Hi := 0 : Silence }, Pair := { A := 3, B := 6 : Pair }, Report := { Case := 0, Bib := 0, Offence := 0, Position := 0 : Report }, Protest := { Case := 0, By := 0, Fee := 0, Form := 0 : Protest }, Ruling := { Case := 0, Instance := 0, Kind := 0, Bib := 0, Position := 0, Amount := 0 : Ruling }, Appeal := { Case := 0, Suspends := false : Appeal }, Void := { Crew := 0, No := 0 : Ref } : Fact }]) el_34 Z Z Z Z Z ⟨Z, Z, Z, Z, Z, trivial⟩ Z Z) ?_
 refine aV (.osl 3 0 ([{ Crew := 0, No := 1, At := 2, Kind := 1, Starter := { Bib := 3, Distance := 0, Wave := 0, Slot := 0, Age := 0, Chip := 30, Team := 0, Lot := 0 : Starter }, Read := { Mat := 0, Epoch := 0, Chip := 0, Local := 0 : Read }, Beacon := { Mat := 0, Epoch := 0, Local := 0, True := 0, Err := 0 : Beacon }, Sync := { MatA := 0, EpochA := 0, LocalA := 0, MatB := 0, EpochB := 0, LocalB := 0, Min := 0, Max := 0 : Sync }, Hand := { Bib := 0, Position := 0, Lo := 0, Hi := 0 : Hand }, Silence := { Mat := 0, Epoch := 0, Lo := 0, Hi := 0 : Silence }, Pair := { A := 0, B := 0 : Pair }, Report := { Case := 0, Bib := 0, Offence := 0, Position := 0 : Report }, Protest := { Case := 0, By := 0, Fee := 0, Form := 0 : Protest }, Ruling := { Case := 0, Instance := 0, Kind := 0, Bib := 0, Position := 0, Amount := 0 : Ruling }, Appeal := { Case := 0, Suspends := false : Appeal }, Void := { Crew := 0, No := 0 : Ref } : Fact }, { Crew := 0, No := 1, At := 1, Kind := 1, Starter := { Bib := 5, Distance := 0, Wave := 0, Slot := 0, Age := 0, Chip := 50, Team := 0, Lot := 0 : Starter }, Read := { Mat := 0, Epoch := 0, Chip := 0, Local := 0 : Read }, Beacon := { Mat := 0, Epoch := 0, Local := 0, True := 0, Err := 0 : Beacon }, Sync := { MatA := 0, EpochA := 0, LocalA := 0, MatB := 0, EpochB := 0, LocalB := 0, Min := 0, Max := 0 : Sync }, Hand := { Bib := 0, Position := 0, Lo := 0, Hi := 0 : Hand }, Silence := { Mat := 0, Epoch := 0, Lo := 0, Hi := 0 : Silence }, Pair := { A := 0, B := 0 : Pair }, Report := { Case := 0, Bib := 0, Offence := 0, Position := 0 : Report }, Protest := { Case := 0, By := 0, Fee := 0, Form := 0 : Protest }, Ruling := { Case := 0, Instance := 0, Kind := 0, Bib := 0, Position := 0, Amount := 0 : Ruling }, Appeal := { Case := 0, Suspends := false : Appeal }, Void := { Crew := 0, No := 0 : Ref } : Fact }, { Crew := 0, No := 1, At := 3, Kind := 1, Starter := { Bib := 5, Distance := 0, Wave := 0, Slot := 0, Age := 0, Chip := 99, Team := 0, Lot := 0 : Starter }, Read := { Mat := 0, Epoch := 0, Chip := 0, Local := 0 : Read }, Beacon := { Mat := 0, Epoch := 0, Local := 0, True := 0, Err := 0 : Beacon }, Sync := { MatA := 0, EpochA := 0, LocalA := 0, MatB := 0, EpochB := 0, LocalB := 0, Min := 0, Max := 0 : Sync }, Hand := { Bib := 0, Position := 0, Lo := 0, Hi := 0 : Hand }, Silence := { Mat := 0, Epoch := 0, Lo := 0, Hi := 0 : Silence }, Pair := { A := 0, B := 0 : Pair }, Report := { Case := 0, Bib := 0, Offence := 0, Position := 0 : Report }, Protest := { Case := 0, By := 0, Fee := 0, Form := 0 : Protest }, Ruling := { Case := 0, Instance := 0, Kind := 0, Bib := 0, Position := 0, Amount := 0 : Ruling }, Appeal := { Case := 0, Suspends := false : Appeal }, Void := { Crew := 0, No := 0 : Ref } : Fact }, { Crew := 0, No := 1, At := 0, Kind := 7, Starter := { Bib := 0, Distance := 0, Wave := 0, Slot := 0, Age := 0, Chip := 0, Team := 0, Lot := 0 : Starter }, Read := { Mat := 0, Epoch := 0, Chip := 0, Local := 0 : Read }, Beacon := { Mat := 0, Epoch := 0, Local := 0, True := 0, Err := 0 : Beacon }, Sync := { MatA := 0, EpochA := 0, LocalA := 0, MatB := 0, EpochB := 0, LocalB := 0, Min := 0, Max := 0 : Sync }, Hand := { Bib := 0, Position := 0, Lo := 0, Hi := 0 : Hand }, Silence := { Mat := 0, Epoch := 0, Lo := 0, Hi := 0 : Silence }, Pair := { A := 3, B := 5 : Pair }, Report := { Case := 0, Bib := 0, Offence := 0, Position := 0 : Report }, Protest := { Case := 0, By := 0, Fee := 0, Form := 0 : Protest }, Ruling := { Case := 0, Instance := 0, Kind := 0, Bib := 0, Position := 0, Amount := 0 : Ruling }, Appeal := { Case := 0, Suspends := false : Appeal }, Void := { Crew := 0, No := 0 : Ref } : Fact }, { Crew := 0, No := 2, At := 0, Kind := 7, Starter := { Bib := 0, Distance := 0, Wave := 0, Slot := 0, Age := 0, Chip := 0, Team := 0, Lot := 0 : Starter }, Read := { Mat := 0, Epoch := 0, Chip := 0, Local := 0 : Read }, Beacon := { Mat := 0, Epoch := 0, Local := 0, True := 0, Err := 0 : Beacon }, Sync := { MatA := 0, EpochA := 0, LocalA := 0, MatB := 0, EpochB := 0, LocalB := 0, Min := 0, Max := 0 : Sync }, Hand := { Bib := 0, Position := 0, Lo := 0, Hi := 0 : Hand }, Silence := { Mat := 0, Epoch := 0, Lo := 0, Hi := 0 : Silence }, Pair := { A := 3, B := 6 : Pair }, Report := { Case := 0, Bib := 0, Offence := 0, Position := 0 : Report }, Protest := { Case := 0, By := 0, Fee := 0, Form := 0 : Protest }, Ruling := { Case := 0, Instance := 0, Kind := 0, Bib := 0, Position := 0, Amount := 0 : Ruling }, Appeal := { Case := 0, Suspends := false : Appeal }, Void := { Crew := 0, No := 0 : Ref } : Fact }].length) 57) [_, _, _, .row 81 57 (List.map Fact.c [{ Crew := 0, No := 1, At := 2, Kind := 1, Starter := { Bib := 3, Distance := 0, Wave := 0, Slot := 0, Age := 0, Chip := 30, Team := 0, Lot := 0 : Starter }, Read := { Mat := 0, Epoch := 0, Chip := 0, Local := 0 : Read }, Beacon := { Mat := 0, Epoch := 0, Local := 0, True := 0, Err := 0 : Beacon }, Sync := { MatA := 0, EpochA := 0, LocalA := 0, MatB := 0, EpochB := 0, LocalB := 0, Min := 0, Max := 0 : Sync }, Hand := { Bib := 0, Position := 0, Lo := 0, Hi := 0 : Hand }, Silence := { Mat := 0, Epoch := 0, Lo := 0, Hi := 0 : Silence }, Pair := { A := 0, B := 0 : Pair }, Report := { Case := 0, Bib := 0, Offence := 0, Position := 0 : Report }, Protest := { Case := 0, By := 0, Fee := 0, Form := 0 : Protest }, Ruling := { Case := 0, Instance := 0, Kind := 0, Bib := 0, Position := 0, Amount := 0 : Ruling }, Appeal := { Case := 0, Suspends := false : Appeal }, Void := { Crew := 0, No := 0 : Ref } : Fact }, { Crew := 0, No := 1, At := 1, Kind := 1, Starter := { Bib := 5, Distance := 0, Wave := 0, Slot := 0, Age := 0, Chip := 50, Team := 0, Lot := 0 : Starter }, Read := { Mat := 0, Epoch := 0, Chip := 0, Local := 0 : Read }, Beacon := { Mat := 0, Epoch := 0, Local := 0, True := 0, Err := 0 : Beacon }, Sync := { MatA := 0, EpochA := 0, LocalA := 0, MatB := 0, EpochB := 0, LocalB := 0, Min := 0, Max := 0 : Sync }, Hand := { Bib := 0, Position := 0, Lo := 0, Hi := 0 : Hand }, Silence := { Mat := 0, Epoch := 0, Lo := 0, Hi := 0 : Silence }, Pair := { A := 0, B := 0 : Pair }, Report := { Case := 0, Bib := 0, Offence := 0, Position := 0 : Report }, Protest := { Case := 0, By := 0, Fee := 0, Form := 0 : Protest }, Ruling := { Case := 0, Instance := 0, Kind := 0, Bib := 0, Position := 0, Amount := 0 : Ruling }, Appeal := { Case := 0, Suspends := false : Appeal }, Void := { Crew := 0, No := 0 : Ref } : Fact }, { Crew := 0, No := 1, At := 3, Kind := 1, Starter := { Bib := 5, Distance := 0, Wave := 0, Slot := 0, Age := 0, Chip := 99, Team := 0, Lot := 0 : Starter }, Read := { Mat := 0, Epoch := 0, Chip := 0, Local := 0 : Read }, Beacon := { Mat := 0, Epoch := 0, Local := 0, True := 0, Err := 0 : Beacon }, Sync := { MatA := 0, EpochA := 0, LocalA := 0, MatB := 0, EpochB := 0, LocalB := 0, Min := 0, Max := 0 : Sync }, Hand := { Bib := 0, Position := 0, Lo := 0, Hi := 0 : Hand }, Silence := { Mat := 0, Epoch := 0, Lo := 0, Hi := 0 : Silence }, Pair := { A := 0, B := 0 : Pair }, Report := { Case := 0, Bib := 0, Offence := 0, Position := 0 : Report }, Protest := { Case := 0, By := 0, Fee := 0, Form := 0 : Protest }, Ruling := { Case := 0, Instance := 0, Kind := 0, Bib := 0, Position := 0, Amount := 0 : Ruling }, Appeal := { Case := 0, Suspends := false : Appeal }, Void := { Crew := 0, No := 0 : Ref } : Fact }, { Crew := 0, No := 1, At := 0, Kind := 7, Starter := { Bib := 0, Distance := 0, Wave := 0, Slot := 0, Age := 0, Chip := 0, Team := 0, Lot := 0 : Starter }, Read := { Mat := 0, Epoch := 0, Chip := 0, Local := 0 : Read }, Beacon := { Mat := 0, Epoch := 0, Local := 0, True := 0, Err := 0 : Beacon }, Sync := { MatA := 0, EpochA := 0, LocalA := 0, MatB := 0, EpochB := 0, LocalB := 0, Min := 0, Max := 0 : Sync }, Hand := { Bib := 0, Position := 0, Lo := 0, Hi := 0 : Hand }, Silence := { Mat := 0, Epoch := 0, Lo := 0, Hi := 0 : Silence }, Pair := { A := 3, B := 5 : Pair }, Report := { Case := 0, Bib := 0, Offence := 0, Position := 0 : Report }, Protest := { Case := 0, By := 0, Fee := 0, Form := 0 : Protest }, Ruling := { Case := 0, Instance := 0, Kind := 0, Bib := 0, Position := 0, Amount := 0 : Ruling }, Appeal := { Case := 0, Suspends := false : Appeal }, Void := { Crew := 0, No := 0 : Ref } : Fact }, { Crew := 0, No := 2, At := 0, Kind := 7, Starter := { Bib := 0, Distance := 0, Wave := 0, Slot := 0, Age := 0, Chip := 0, Team := 0, Lot := 0 : Starter }, Read := { Mat := 0, Epoch := 0, Chip := 0, Local := 0 : Read }, Beacon := { Mat := 0, Epoch := 0, Local := 0, True := 0, Err := 0 : Beacon }, Sync := { MatA := 0, EpochA := 0, LocalA := 0, MatB := 0, EpochB := 0, LocalB := 0, Min := 0, Max := 0 : Sync }, Hand := { Bib := 0, Position := 0, Lo := 0, Hi := 0 : Hand }, Silence := { Mat := 0, Epoch := 0, Lo := 0, Hi := 0 : Silence }, Pair := { A := 3, B := 6 : Pair }, Report := { Case := 0, Bib := 0, Offence := 0, Position := 0 : Report }, Protest := { Case := 0, By := 0, Fee := 0, Form := 0 : Protest }, Ruling := { Case := 0, Instance := 0, Kind := 0, Bib := 0, Position := 0, Amount := 0 : Ruling }, Appeal := { Case := 0, Suspends := false : Appeal }, Void := { Crew := 0, No := 0 : Ref } : Fact }])] Z Z ?_
 refine S Z (Nx (Rg (Bd h fun r4 hr4 h => ?_)))
 refine WO.callD [] (OpC.fn call30 Z Z Z) (k_x _ _ hr4) ?_
 rintro _ _ ⟨rfl, rfl⟩
 refine aV (.agg [.str [115, 97, 109, 112, 108, 101], .osl 4 0 ([{ Name := [108, 105, 110, 101], Kind := 1 : Mat }, { Name := [102, 105, 110, 105, 115, 104], Kind := 3 : Mat }].length) 2, .osl 5 0 ([{ From := 0, To := 1, Min := 10, Max := 100 : Leg }].length) 4, .osl 6 0 ([{ Name := [98, 114, 105, 101, 102], Route := [{ Mat := 0, Laps := 0, Parts := [] : Part }, { Mat := 1, Laps := 0, Parts := [] : Part }], Timing := 1, Cutoffs := [], Extra := (-1) : Distance }].length) 5, .osl 7 0 ([{ Name := [101, 108, 105, 116, 101], Gun := 0 : Wave }].length) 2, .rsl 4 (List.map Offence.c []), .rsl 3 (List.map Category.c []), .rsl 4 (List.map Prize.c []), .osl 8 0 ([{ Kind := 1, By := 4, Cond := { Kind := 0, Var := 0, N := 0, Parts := [] : Cond }, Then := [], Else := [] : Step }].length) 8, .int .i64 0, .int .i64 0, .int .i64 0, .int .i64 0, .int .i64 0, .int .i64 0, .int .i64 0]) [_, _, _, _, .row 96 2 (List.map Mat.c [{ Name := [108, 105, 110, 101], Kind := 1 : Mat }, { Name := [102, 105, 110, 105, 115, 104], Kind := 3 : Mat }]), .row 123 4 (List.map Leg.c [{ From := 0, To := 1, Min := 10, Max := 100 : Leg }]), .row 94 5 (List.map Distance.c [{ Name := [98, 114, 105, 101, 102], Route := [{ Mat := 0, Laps := 0, Parts := [] : Part }, { Mat := 1, Laps := 0, Parts := [] : Part }], Timing := 1, Cutoffs := [], Extra := (-1) : Distance }]), .row 127 2 (List.map Wave.c [{ Name := [101, 108, 105, 116, 101], Gun := 0 : Wave }]), .row 132 8 (List.map Step.enc [{ Kind := 1, By := 4, Cond := { Kind := 0, Var := 0, N := 0, Parts := [] : Cond }, Then := [], Else := [] : Step }]), .cells 33 [.str [115, 97, 109, 112, 108, 101], .osl 4 0 ([{ Name := [108, 105, 110, 101], Kind := 1 : Mat }, { Name := [102, 105, 110, 105, 115, 104], Kind := 3 : Mat }].length) 2, .osl 5 0 ([{ From := 0, To := 1, Min := 10, Max := 100 : Leg }].length) 4, .osl 6 0 ([{ Name := [98, 114, 105, 101, 102], Route := [{ Mat := 0, Laps := 0, Parts := [] : Part }, { Mat := 1, Laps := 0, Parts := [] : Part }], Timing := 1, Cutoffs := [], Extra := (-1) : Distance }].length) 5, .osl 7 0 ([{ Name := [101, 108, 105, 116, 101], Gun := 0 : Wave }].length) 2, .rsl 4 (List.map Offence.c []), .rsl 3 (List.map Category.c []), .rsl 4 (List.map Prize.c []), .osl 8 0 ([{ Kind := 1, By := 4, Cond := { Kind := 0, Var := 0, N := 0, Parts := [] : Cond }, Then := [], Else := [] : Step }].length) 8, .int .i64 0, .int .i64 0, .int .i64 0, .int .i64 0, .int .i64 0, .int .i64 0, .int .i64 0]] Z Z ?_
 refine S Z ?_
 refine WO.le (Le.fz [(26, _)] Z Z (FzOv.cons Z (FzA.agg (FzL.cons (FzA.refl _) (FzL.cons (FzA.own (List.length_map ..).symm) (FzL.refl _)))) FzOv.nil) (FzH.keep (FzH.keep (FzH.keep (FzH.keep (FzH.keep (FzH.keep (FzH.keep (FzH.keep (FzH.keep (FzH.cells (FzL.cons (FzA.refl _) (FzL.cons (FzA.own (List.length_map ..).symm) (FzL.refl _))) (FzH.nil)))))))))))) ?_
 refine WO.le (Le.fz [(26, _)] Z Z (FzOv.cons Z (FzA.agg (FzL.cons (FzA.refl _) (FzL.cons (FzA.refl _) (FzL.cons (FzA.own (List.length_map ..).symm) (FzL.refl _))))) FzOv.nil) (FzH.keep (FzH.keep (FzH.keep (FzH.keep (FzH.keep (FzH.keep (FzH.keep (FzH.keep (FzH.keep (FzH.cells (FzL.cons (FzA.refl _) (FzL.cons (FzA.refl _) (FzL.cons (FzA.own (List.length_map ..).symm) (FzL.refl _)))) (FzH.nil)))))))))))) ?_
 refine WO.le (Le.fz [(26, _)] Z Z (FzOv.cons Z (FzA.agg (FzL.cons (FzA.refl _) (FzL.cons (FzA.refl _) (FzL.cons (FzA.refl _) (FzL.cons (FzA.own (List.length_map ..).symm) (FzL.refl _)))))) FzOv.nil) (FzH.keep (FzH.keep (FzH.keep (FzH.keep (FzH.keep (FzH.keep (FzH.keep (FzH.keep (FzH.keep (FzH.cells (FzL.cons (FzA.refl _) (FzL.cons (FzA.refl _) (FzL.cons (FzA.refl _) (FzL.cons (FzA.own (List.length_map ..).symm) (FzL.refl _))))) (FzH.nil)))))))))))) ?_
 refine WO.le (Le.fz [(26, _)] Z Z (FzOv.cons Z (FzA.agg (FzL.cons (FzA.refl _) (FzL.cons (FzA.refl _) (FzL.cons (FzA.refl _) (FzL.cons (FzA.refl _) (FzL.cons (FzA.own (List.length_map ..).symm) (FzL.refl _))))))) FzOv.nil) (FzH.keep (FzH.keep (FzH.keep (FzH.keep (FzH.keep (FzH.keep (FzH.keep (FzH.keep (FzH.keep (FzH.cells (FzL.cons (FzA.refl _) (FzL.cons (FzA.refl _) (FzL.cons (FzA.refl _) (FzL.cons (FzA.refl _) (FzL.cons (FzA.own (List.length_map ..).symm) (FzL.refl _)))))) (FzH.nil)))))))))))) ?_
 refine WO.le (Le.fz [(26, _)] Z Z (FzOv.cons Z (FzA.agg (FzL.cons (FzA.refl _) (FzL.cons (FzA.refl _) (FzL.cons (FzA.refl _) (FzL.cons (FzA.refl _) (FzL.cons (FzA.refl _) (FzL.cons (FzA.refl _) (FzL.cons (FzA.refl _) (FzL.cons (FzA.refl _) (FzL.cons (FzA.own (List.length_map ..).symm) (FzL.refl _))))))))))) FzOv.nil) (FzH.keep (FzH.keep (FzH.keep (FzH.keep (FzH.keep (FzH.keep (FzH.keep (FzH.keep (FzH.keep (FzH.cells (FzL.cons (FzA.refl _) (FzL.cons (FzA.refl _) (FzL.cons (FzA.refl _) (FzL.cons (FzA.refl _) (FzL.cons (FzA.refl _) (FzL.cons (FzA.refl _) (FzL.cons (FzA.refl _) (FzL.cons (FzA.refl _) (FzL.cons (FzA.own (List.length_map ..).symm) (FzL.refl _)))))))))) (FzH.nil)))))))))))) ?_
 refine WO.le (Le.fz [(1, _), (24, _), (27, _)] Z Z (FzOv.cons Z (FzA.own (List.length_map ..).symm) (FzOv.cons Z (FzA.own (List.length_map ..).symm) (FzOv.cons Z (FzA.own (List.length_map ..).symm) FzOv.nil))) (FzH.keep (FzH.keep (FzH.keep (FzH.keep (FzH.keep (FzH.keep (FzH.keep (FzH.keep (FzH.keep (FzH.keep (FzH.nil)))))))))))) ?_
 refine Bd h fun r5 hr5 h => ?_
 refine WO.callD [] (OpC.fn call13 Z Z Z) (k_aa _ _ _ _ hr5) ?_
 rintro _ _ ⟨rfl, rfl⟩
 refine aV (.tup [.osl 10 0 r5.1.length 8, .int .i64 r5.2]) [_, _, _, .dead, .dead, .dead, .dead, .dead, .dead, .cells 33 [.str [115, 97, 109, 112, 108, 101], .rsl 2 (List.map Mat.c [{ Name := [108, 105, 110, 101], Kind := 1 : Mat }, { Name := [102, 105, 110, 105, 115, 104], Kind := 3 : Mat }]), .rsl 4 (List.map Leg.c [{ From := 0, To := 1, Min := 10, Max := 100 : Leg }]), .rsl 5 (List.map Distance.c [{ Name := [98, 114, 105, 101, 102], Route := [{ Mat := 0, Laps := 0, Parts := [] : Part }, { Mat := 1, Laps := 0, Parts := [] : Part }], Timing := 1, Cutoffs := [], Extra := (-1) : Distance }]), .rsl 2 (List.map Wave.c [{ Name := [101, 108, 105, 116, 101], Gun := 0 : Wave }]), .rsl 4 (List.map Offence.c []), .rsl 3 (List.map Category.c []), .rsl 4 (List.map Prize.c []), .rsl 8 (List.map Step.enc [{ Kind := 1, By := 4, Cond := { Kind := 0, Var := 0, N := 0, Parts := [] : Cond }, Then := [], Else := [] : Step }]), .int .i64 0, .int .i64 0, .int .i64 0, .int .i64 0, .int .i64 0, .int .i64 0, .int .i64 0], .row 50 8 (List.map Starter.c r5.1)] Z Z ?_
 refine S Z (S Z (S Z (S Z (S Z (Nx (Rg (Bd h fun r6 hr6 h => ?_)))))))
 refine WO.callD [] (OpC.fn call30 Z Z Z) (k_x _ _ hr6) ?_
 rintro _ _ ⟨rfl, rfl⟩
 refine aV (.agg [.str [115, 97, 109, 112, 108, 101], .osl 11 0 ([{ Name := [108, 105, 110, 101], Kind := 1 : Mat }, { Name := [102, 105, 110, 105, 115, 104], Kind := 3 : Mat }].length) 2, .osl 12 0 ([{ From := 0, To := 1, Min := 10, Max := 100 : Leg }].length) 4, .osl 13 0 ([{ Name := [98, 114, 105, 101, 102], Route := [{ Mat := 0, Laps := 0, Parts := [] : Part }, { Mat := 1, Laps := 0, Parts := [] : Part }], Timing := 1, Cutoffs := [], Extra := (-1) : Distance }].length) 5, .osl 14 0 ([{ Name := [101, 108, 105, 116, 101], Gun := 0 : Wave }].length) 2, .rsl 4 (List.map Offence.c []), .rsl 3 (List.map Category.c []), .rsl 4 (List.map Prize.c []), .osl 15 0 ([{ Kind := 1, By := 4, Cond := { Kind := 0, Var := 0, N := 0, Parts := [] : Cond }, Then := [], Else := [] : Step }].length) 8, .int .i64 0, .int .i64 0, .int .i64 0, .int .i64 0, .int .i64 0, .int .i64 0, .int .i64 0]) [_, _, _, _, _, _, _, _, _, _, _, .row 96 2 (List.map Mat.c [{ Name := [108, 105, 110, 101], Kind := 1 : Mat }, { Name := [102, 105, 110, 105, 115, 104], Kind := 3 : Mat }]), .row 123 4 (List.map Leg.c [{ From := 0, To := 1, Min := 10, Max := 100 : Leg }]), .row 94 5 (List.map Distance.c [{ Name := [98, 114, 105, 101, 102], Route := [{ Mat := 0, Laps := 0, Parts := [] : Part }, { Mat := 1, Laps := 0, Parts := [] : Part }], Timing := 1, Cutoffs := [], Extra := (-1) : Distance }]), .row 127 2 (List.map Wave.c [{ Name := [101, 108, 105, 116, 101], Gun := 0 : Wave }]), .row 132 8 (List.map Step.enc [{ Kind := 1, By := 4, Cond := { Kind := 0, Var := 0, N := 0, Parts := [] : Cond }, Then := [], Else := [] : Step }]), .cells 33 [.str [115, 97, 109, 112, 108, 101], .osl 11 0 ([{ Name := [108, 105, 110, 101], Kind := 1 : Mat }, { Name := [102, 105, 110, 105, 115, 104], Kind := 3 : Mat }].length) 2, .osl 12 0 ([{ From := 0, To := 1, Min := 10, Max := 100 : Leg }].length) 4, .osl 13 0 ([{ Name := [98, 114, 105, 101, 102], Route := [{ Mat := 0, Laps := 0, Parts := [] : Part }, { Mat := 1, Laps := 0, Parts := [] : Part }], Timing := 1, Cutoffs := [], Extra := (-1) : Distance }].length) 5, .osl 14 0 ([{ Name := [101, 108, 105, 116, 101], Gun := 0 : Wave }].length) 2, .rsl 4 (List.map Offence.c []), .rsl 3 (List.map Category.c []), .rsl 4 (List.map Prize.c []), .osl 15 0 ([{ Kind := 1, By := 4, Cond := { Kind := 0, Var := 0, N := 0, Parts := [] : Cond }, Then := [], Else := [] : Step }].length) 8, .int .i64 0, .int .i64 0, .int .i64 0, .int .i64 0, .int .i64 0, .int .i64 0, .int .i64 0]] Z Z ?_
 refine S Z ?_
 refine WO.le (Le.fz [(32, _)] Z Z (FzOv.cons Z (FzA.agg (FzL.cons (FzA.refl _) (FzL.cons (FzA.own (List.length_map ..).symm) (FzL.refl _)))) FzOv.nil) (FzH.keep (FzH.keep (FzH.keep (FzH.keep (FzH.keep (FzH.keep (FzH.keep (FzH.keep (FzH.keep (FzH.keep (FzH.keep (FzH.keep (FzH.keep (FzH.keep (FzH.keep (FzH.keep (FzH.cells (FzL.cons (FzA.refl _) (FzL.cons (FzA.own (List.length_map ..).symm) (FzL.refl _))) (FzH.nil))))))))))))))))))) ?_
 refine WO.le (Le.fz [(32, _)] Z Z (FzOv.cons Z (FzA.agg (FzL.cons (FzA.refl _) (FzL.cons (FzA.refl _) (FzL.cons (FzA.own (List.length_map ..).symm) (FzL.refl _))))) FzOv.nil) (FzH.keep (FzH.keep (FzH.keep (FzH.keep (FzH.keep (FzH.keep (FzH.keep (FzH.keep (FzH.keep (FzH.keep (FzH.keep (FzH.keep (FzH.keep (FzH.keep (FzH.keep (FzH.keep (FzH.cells (FzL.cons (FzA.refl _) (FzL.cons (FzA.refl _) (FzL.cons (FzA.own (List.length_map ..).symm) (FzL.refl _)))) (FzH.nil))))))))))))))))))) ?_
 refine WO.le (Le.fz [(32, _)] Z Z (FzOv.cons Z (FzA.agg (FzL.cons (FzA.refl _) (FzL.cons (FzA.refl _) (FzL.cons (FzA.refl _) (FzL.cons (FzA.own (List.length_map ..).symm) (FzL.refl _)))))) FzOv.nil) (FzH.keep (FzH.keep (FzH.keep (FzH.keep (FzH.keep (FzH.keep (FzH.keep (FzH.keep (FzH.keep (FzH.keep (FzH.keep (FzH.keep (FzH.keep (FzH.keep (FzH.keep (FzH.keep (FzH.cells (FzL.cons (FzA.refl _) (FzL.cons (FzA.refl _) (FzL.cons (FzA.refl _) (FzL.cons (FzA.own (List.length_map ..).symm) (FzL.refl _))))) (FzH.nil))))))))))))))))))) ?_
 refine WO.le (Le.fz [(32, _)] Z Z (FzOv.cons Z (FzA.agg (FzL.cons (FzA.refl _) (FzL.cons (FzA.refl _) (FzL.cons (FzA.refl _) (FzL.cons (FzA.refl _) (FzL.cons (FzA.own (List.length_map ..).symm) (FzL.refl _))))))) FzOv.nil) (FzH.keep (FzH.keep (FzH.keep (FzH.keep (FzH.keep (FzH.keep (FzH.keep (FzH.keep (FzH.keep (FzH.keep (FzH.keep (FzH.keep (FzH.keep (FzH.keep (FzH.keep (FzH.keep (FzH.cells (FzL.cons (FzA.refl _) (FzL.cons (FzA.refl _) (FzL.cons (FzA.refl _) (FzL.cons (FzA.refl _) (FzL.cons (FzA.own (List.length_map ..).symm) (FzL.refl _)))))) (FzH.nil))))))))))))))))))) ?_
 refine WO.le (Le.fz [(32, _)] Z Z (FzOv.cons Z (FzA.agg (FzL.cons (FzA.refl _) (FzL.cons (FzA.refl _) (FzL.cons (FzA.refl _) (FzL.cons (FzA.refl _) (FzL.cons (FzA.refl _) (FzL.cons (FzA.refl _) (FzL.cons (FzA.refl _) (FzL.cons (FzA.refl _) (FzL.cons (FzA.own (List.length_map ..).symm) (FzL.refl _))))))))))) FzOv.nil) (FzH.keep (FzH.keep (FzH.keep (FzH.keep (FzH.keep (FzH.keep (FzH.keep (FzH.keep (FzH.keep (FzH.keep (FzH.keep (FzH.keep (FzH.keep (FzH.keep (FzH.keep (FzH.keep (FzH.cells (FzL.cons (FzA.refl _) (FzL.cons (FzA.refl _) (FzL.cons (FzA.refl _) (FzL.cons (FzA.refl _) (FzL.cons (FzA.refl _) (FzL.cons (FzA.refl _) (FzL.cons (FzA.refl _) (FzL.cons (FzA.refl _) (FzL.cons (FzA.own (List.length_map ..).symm) (FzL.refl _)))))))))) (FzH.nil))))))))))))))))))) ?_
 refine Bd h fun r7 hr7 h => ?_
 refine WO.callD [] (OpC.fn call15 Z Z Z) (k_cy _ _ _ _ hr7) ?_
 rintro _ _ ⟨rfl, rfl⟩
 refine aV (.tup [.osl 17 0 r7.1.length 2, .int .i64 r7.2]) [_, _, _, _, _, _, _, _, _, _, _, .dead, .dead, .dead, .dead, .dead, .cells 33 [.str [115, 97, 109, 112, 108, 101], .rsl 2 (List.map Mat.c [{ Name := [108, 105, 110, 101], Kind := 1 : Mat }, { Name := [102, 105, 110, 105, 115, 104], Kind := 3 : Mat }]), .rsl 4 (List.map Leg.c [{ From := 0, To := 1, Min := 10, Max := 100 : Leg }]), .rsl 5 (List.map Distance.c [{ Name := [98, 114, 105, 101, 102], Route := [{ Mat := 0, Laps := 0, Parts := [] : Part }, { Mat := 1, Laps := 0, Parts := [] : Part }], Timing := 1, Cutoffs := [], Extra := (-1) : Distance }]), .rsl 2 (List.map Wave.c [{ Name := [101, 108, 105, 116, 101], Gun := 0 : Wave }]), .rsl 4 (List.map Offence.c []), .rsl 3 (List.map Category.c []), .rsl 4 (List.map Prize.c []), .rsl 8 (List.map Step.enc [{ Kind := 1, By := 4, Cond := { Kind := 0, Var := 0, N := 0, Parts := [] : Cond }, Then := [], Else := [] : Step }]), .int .i64 0, .int .i64 0, .int .i64 0, .int .i64 0, .int .i64 0, .int .i64 0, .int .i64 0], .row 59 2 (List.map Pair.c r7.1)] Z Z ?_
 refine S Z (S Z (S Z (S Z (S Z (Nx (Rg (S Z (S Z (Bd h fun r8 hr8 h => ?_)))))))))
 refine WO.callB (OpC.fn call19 rfl rfl rfl) (LookL.cons rfl (.inr ⟨_, _, _, _, _, rfl, rfl, List.length_map .., rfl⟩) (LookL.cons rfl (.inr ⟨_, _, _, _, _, rfl, rfl, List.length_map .., rfl⟩) (LookL.cons rfl (.inl ⟨rfl, rfl⟩) (LookL.cons rfl (.inl ⟨rfl, rfl⟩) LookL.nil)))) (k_b _ _ _ _ _ _ hr8) (by rintro _ _ ⟨rfl, rfl⟩; rfl) ?_
 rintro _ _ ⟨rfl, rfl⟩
 refine aV (.tup [.int .i64 r8.1, .int .i64 r8.2]) [_, _, _, _, _, _, _, _, _, _, _, _, _, _, _, _, _, _] Z Z ?_
 refine S Z (S Z (S Z (S Z (S Z (Nx (Rg (Bd h fun r9 hr9 h => ?_)))))))
 refine WO.callD [] (OpC.fn call19 Z Z Z) (C.nils (NilL.nl (NilL.nl (NilL.eq (NilL.eq NilL.nil)))) (k_b _ _ _ _ _ _ hr9)) ?_
 rintro _ _ ⟨rfl, rfl⟩
 refine aV (.tup [.int .i64 r9.1, .int .i64 r9.2]) [_, _, _, _, _, _, _, _, _, _, _, _, _, _, _, _, _, _] Z Z ?_
 refine S Z (S Z (S Z (S Z (S Z (Nx (Rg (S Z (Bd h fun r10 hr10 h => ?_))))))))
 refine WO.callB (OpC.fn call19 rfl rfl rfl) (LookL.cons rfl (.inr ⟨_, _, _, _, _, rfl, rfl, List.length_map .., rfl⟩) (LookL.cons rfl (.inl ⟨rfl, rfl⟩) (LookL.cons rfl (.inl ⟨rfl, rfl⟩) (LookL.cons rfl (.inl ⟨rfl, rfl⟩) LookL.nil)))) (C.nils (NilL.eq (NilL.nl (NilL.eq (NilL.eq NilL.nil)))) (k_b _ _ _ _ _ _ hr10)) (by rintro _ _ ⟨rfl, rfl⟩; rfl) ?_
 rintro _ _ ⟨rfl, rfl⟩
 refine aV (.tup [.int .i64 r10.1, .int .i64 r10.2]) [_, _, _, _, _, _, _, _, _, _, _, _, _, _, _, _, _, _] Z Z ?_
 refine S Z (S Z (S Z (S Z (S Z (Nx (Rg (S Z (S Z (Bd h fun r11 hr11 h => ?_)))))))))
 refine WO.callB (OpC.fn call21 rfl rfl rfl) (LookL.cons rfl (.inr ⟨_, _, _, _, _, rfl, rfl, List.length_map .., rfl⟩) (LookL.cons rfl (.inr ⟨_, _, _, _, _, rfl, rfl, List.length_map .., rfl⟩) (LookL.cons rfl (.inl ⟨rfl, rfl⟩) (LookL.cons rfl (.inl ⟨rfl, rfl⟩) LookL.nil)))) (k_u _ _ _ _ _ _ hr11) (by rintro _ _ ⟨rfl, rfl⟩; rfl) ?_
 rintro _ _ ⟨rfl, rfl⟩
 refine aV (.tup [.int .i64 r11.1, .bool r11.2]) [_, _, _, _, _, _, _, _, _, _, _, _, _, _, _, _, _, _] Z Z ?_
 refine S Z (S Z (S Z (S Z (S Z (Nx (Rg (Bd h fun r12 hr12 h => ?_)))))))
 refine WO.callD [] (OpC.fn call21 Z Z Z) (C.nils (NilL.nl (NilL.nl (NilL.eq (NilL.eq NilL.nil)))) (k_u _ _ _ _ _ _ hr12)) ?_
 rintro _ _ ⟨rfl, rfl⟩
 refine aV (.tup [.int .i64 r12.1, .bool r12.2]) [_, _, _, _, _, _, _, _, _, _, _, _, _, _, _, _, _, _] Z Z ?_
 refine S Z (S Z (S Z (S Z (S Z (Nx (TC.seq (Bd h fun b22 h23 h => ?_)))))))
 refine TC.cut ([(4, .osl 0 0 r7.1.length 2), (6, .int .i64 r8.1), (7, .int .i64 r8.2), (9, .int .i64 r9.2), (11, .int .i64 r10.2), (12, .int .i64 r11.1), (13, .bool r11.2), (15, .bool r12.2), (16, .bool b22)]) ([.row 59 2 (List.map Pair.c r7.1)]) ?_ (fun env H hle => ?_)
 ·refine TC.region (S Z (S Z (S Z (If h23 (fun hg24 h23 => ?_) (fun hg24 h23 => ?_)))))
  ·refine Sg (gT hg24) Z ?_
   refine vX (.int .i64 (r5.1.length : Int)) (OpV.lenOM runUnderlying38) ?_ (gT hg24)
   refine Sg (gT hg24) Z (Pk hg24 Z (S Z (If h23 (fun hg25 h23 => ?_) (fun hg25 h23 => ?_))))
   ·refine Sg (gT hg25) Z (Bd h23 fun x26 hx26 h23 => ?_)
    refine vX (.ptr 10 (Int.toNat 0 * 8)) (OpV.ixW hx26 Z runUnderlying38 sizeOf50) ?_ (gT hg25)
    refine Fpg (gT hg25) fa_50_0 Z ?_
    refine vX (.int .i64 x26.Bib) (OpV.load Z isAgg3 Z (Pts.ofRow0 hx26)) ?_ (gT hg25)
    refine Sg (gT hg25) Z (Pk hg25 Z (S Z (If h23 (fun hg27 h23 => ?_) (fun hg27 h23 => ?_))))
    ·refine Sg (gT hg27) Z (Bd h23 fun x28 hx28 h23 => ?_)
     refine vX (.ptr 10 (Int.toNat 1 * 8)) (OpV.ixW hx28 Z runUnderlying38 sizeOf50) ?_ (gT hg27)
     refine Fpg (gT hg27) fa_50_5 Z ?_
     refine vX (.int .i64 x28.Chip) (OpV.load Z isAgg3 Z (Pts.ofRow hx28)) ?_ (gT hg27)
     refine Sg (gT hg27) Z (Pk hg27 Z (S Z (If h23 (fun hg29 h23 => ?_) (fun hg29 h23 => ?_))))
     ·refine Sg (gT hg29) Z (Sg (gT hg29) Z (Pk hg29 Z (S Z (If h23 (fun hg30 h23 => ?_) (fun hg30 h23 => ?_)))))
      ·refine Sg (gT hg30) Z ?_
       refine vX (.int .i64 (r7.1.length : Int)) (OpV.lenOM runUnderlying42) ?_ (gT hg30)
       refine Sg (gT hg30) Z (Pk hg30 Z (S Z (If h23 (fun hg31 h23 => ?_) (fun hg31 h23 => ?_))))
       ·refine Sg (gT hg31) Z (Bd h23 fun x32 hx32 h23 => ?_)
        refine vX (.ptr 17 (Int.toNat 0 * 2)) (OpV.ixW hx32 Z runUnderlying42 sizeOf59) ?_ (gT hg31)
        refine vX (.agg (Pair.c x32)) (OpV.loadA Z isAgg59 sizeOf59 Z (Pts.ofRow0 hx32) Z Z) ?_ (gT hg31)
        refine vX (.agg [.int .i64 3, .int .i64 5]) (OpV.build (zs := [.int .i64 0, .int .i64 0]) zeroValue59 (ZR.agg (ZL.cons ZR.int (ZL.cons ZR.int ZL.nil))) pl_59) ?_ (gT hg31)
        refine vX (.bool (x32 == ({ A := 3, B := 5 : Pair }))) (OpV.aggEq (p := x32) (q := { A := 3, B := 5 : Pair }) eqd_59 Z Z) ?_ (gT hg31)
        refine Pk hg31 Z (S Z (WO.nil ?_))
        obtain rfl := Oi h23
        exact cutN (Lr [17])
       ·refine KF hg31 Z (KF hg31 Z (KF hg31 Z (KF hg31 Z (KF hg31 Z (Pk hg31 Z (S Z (WO.nil ?_)))))))
        obtain rfl := Oi h23
        exact cutN (Lr [17])
      ·refine KF hg30 Z (KF hg30 Z (KF hg30 Z (Pk hg30 Z (S Z (KF Z Z (KF Z Z (KF Z Z (KF Z Z (KF Z Z (S Z (S Z (WO.nil ?_))))))))))))
       obtain rfl := Oi h23
       exact cutN (Lr [17])
     ·refine KF hg29 Z (KF hg29 Z (Pk hg29 Z (S Z (KF Z Z (KF Z Z (KF Z Z (S Z (S Z (KF Z Z (KF Z Z (KF Z Z (KF Z Z (KF Z Z (S Z (S Z (WO.nil ?_))))))))))))))))
      obtain rfl := Oi h23
      exact cutN (Lr [17])
    ·refine KF hg27 Z (KF hg27 Z (KF hg27 Z (KF hg27 Z (KF hg27 Z (Pk hg27 Z (S Z (KF Z Z (KF Z Z (S Z (S Z (KF Z Z (KF Z Z (KF Z Z (S Z (S Z (KF Z Z (KF Z Z (KF Z Z (KF Z Z (KF Z Z (S Z (S Z (WO.nil ?_)))))))))))))))))))))))
     obtain rfl := Oi h23
     exact cutN (Lr [17])
   ·refine KF hg25 Z (KF hg25 Z (KF hg25 Z (KF hg25 Z (KF hg25 Z (Pk hg25 Z (S Z (KF Z Z (KF Z Z (KF Z Z (KF Z Z (KF Z Z (S Z (S Z (KF Z Z (KF Z Z (S Z (S Z (KF Z Z (KF Z Z (KF Z Z (S Z (S Z (KF Z Z (KF Z Z (KF Z Z (KF Z Z (KF Z Z (S Z (S Z (WO.nil ?_))))))))))))))))))))))))))))))
    obtain rfl := Oi h23
    exact cutN (Lr [17])
  ·refine KF hg24 Z (KF hg24 Z (KF hg24 Z (Pk hg24 Z (S Z (KF Z Z (KF Z Z (KF Z Z (KF Z Z (KF Z Z (S Z (S Z (KF Z Z (KF Z Z (KF Z Z (KF Z Z (KF Z Z (S Z (S Z (KF Z Z (KF Z Z (S Z (S Z (KF Z Z (KF Z Z (KF Z Z (S Z (S Z (KF Z Z (KF Z Z (KF Z Z (KF Z Z (KF Z Z (S Z (S Z (WO.nil ?_)))))))))))))))))))))))))))))))))))
   obtain rfl := Oi h23
   exact cutN (Lr [17])
 refine seqN (TC.le hle (TC.seq (Bd h fun b44 h45 h => ?_)))
 refine TC.cut ([(0, .bool b44)]) ([]) ?_ (fun env H hle => ?_)
 ·refine TC.region (S Z (S Z (If h45 (fun hg46 h45 => ?_) (fun hg46 h45 => ?_))))
  ·refine Sg (gT hg46) Z (Bd h45 fun r47 hr47 h45 => ?_)
   refine WO.callB (OpC.fn call23 rfl rfl rfl) (LookL.cons rfl (.inr ⟨_, _, _, _, _, rfl, rfl, List.length_map .., rfl⟩) LookL.nil) (k_ab _ _ _ hr47) (by rintro _ _ ⟨rfl, rfl⟩; rfl) ?_ (gT hg46)
   rintro _ _ ⟨rfl, rfl⟩
   refine aV (.int .i64 (IntKind.i64.wrap ((r7.1.length : Int) + 1))) [_] Z Z ?_
   refine Sg (gT hg46) Z (Pk hg46 Z (S Z (If h45 (fun hg48 h45 => ?_) (fun hg48 h45 => ?_))))
   ·refine Bd h45 fun r49 hr49 h45 => ?_
    refine WO.callD [] (OpC.fn call23 Z Z Z) (C.nils (NilL.nl NilL.nil) (k_ab _ _ _ hr49)) ?_ (hg := (gT hg48))
    rintro _ _ ⟨rfl, rfl⟩
    refine WO.atV (x := (.int .i64 (IntKind.i64.wrap ((([] : List Pair).length : Int) + 1)))) (H := [_]) Z Z ?_
    refine Sg (gT hg48) Z (Pk hg48 Z (S Z (If h45 (fun hg50 h45 => ?_) (fun hg50 h45 => ?_))))
    ·refine Sg (gT hg50) Z (Sg (gT hg50) Z (Pk hg50 Z (S Z (If h45 (fun hg51 h45 => ?_) (fun hg51 h45 => ?_)))))
     ·refine Sg (gT hg51) Z (Sg (gT hg51) Z (Pk hg51 Z (S Z (If h45 (fun hg52 h45 => ?_) (fun hg52 h45 => ?_)))))
      ·refine Sg (gT hg52) Z (Sg (gT hg52) Z (Pk hg52 Z (S Z (If h45 (fun hg53 h45 => ?_) (fun hg53 h45 => ?_)))))
       ·refine Sg (gT hg53) Z (Sg (gT hg53) Z (Pk hg53 Z (S Z (If h45 (fun hg54 h45 => ?_) (fun hg54 h45 => ?_)))))
        ·refine Sg (gT hg54) Z (Pk hg54 Z (S Z (If h45 (fun hg55 h45 => ?_) (fun hg55 h45 => ?_))))
         ·refine Sg (gT hg55) Z (Sg (gT hg55) Z (Pk hg55 Z (S Z (If h45 (fun hg56 h45 => ?_) (fun hg56 h45 => ?_)))))
          ·refine Sg (gT hg56) Z (Sg (gT hg56) Z (Pk hg56 Z (S Z (WO.nil ?_))))
           obtain rfl := Oi h45
           exact cutN (Lr [])
          ·refine KF hg56 Z (KF hg56 Z (Pk hg56 Z (S Z (WO.nil ?_))))
           obtain rfl := Oi h45
           exact cutN (Lr [])
         ·refine KF hg55 Z (KF hg55 Z (Pk hg55 Z (S Z (KF Z Z (KF Z Z (S Z (S Z (WO.nil ?_))))))))
          obtain rfl := Oi h45
          exact cutN (Lr [])
        ·refine KF hg54 Z (Pk hg54 Z (S Z (KF Z Z (KF Z Z (S Z (S Z (KF Z Z (KF Z Z (S Z (S Z (WO.nil ?_)))))))))))
         obtain rfl := Oi h45
         exact cutN (Lr [])
       ·refine KF hg53 Z (KF hg53 Z (Pk hg53 Z (S Z (KF Z Z (S Z (S Z (KF Z Z (KF Z Z (S Z (S Z (KF Z Z (KF Z Z (S Z (S Z (WO.nil ?_)))))))))))))))
        obtain rfl := Oi h45
        exact cutN (Lr [])
      ·refine KF hg52 Z (KF hg52 Z (Pk hg52 Z (S Z (KF Z Z (KF Z Z (S Z (S Z (KF Z Z (S Z (S Z (KF Z Z (KF Z Z (S Z (S Z (KF Z Z (KF Z Z (S Z (S Z (WO.nil ?_)))))))))))))))))))
       obtain rfl := Oi h45
       exact cutN (Lr [])
     ·refine KF hg51 Z (KF hg51 Z (Pk hg51 Z (S Z (KF Z Z (KF Z Z (S Z (S Z (KF Z Z (KF Z Z (S Z (S Z (KF Z Z (S Z (S Z (KF Z Z (KF Z Z (S Z (S Z (KF Z Z (KF Z Z (S Z (S Z (WO.nil ?_)))))))))))))))))))))))
      obtain rfl := Oi h45
      exact cutN (Lr [])
    ·refine KF hg50 Z (KF hg50 Z (Pk hg50 Z (S Z (KF Z Z (KF Z Z (S Z (S Z (KF Z Z (KF Z Z (S Z (S Z (KF Z Z (KF Z Z (S Z (S Z (KF Z Z (S Z (S Z (KF Z Z (KF Z Z (S Z (S Z (KF Z Z (KF Z Z (S Z (S Z (WO.nil ?_)))))))))))))))))))))))))))
     obtain rfl := Oi h45
     exact cutN (Lr [])
   ·refine KF hg48 Z (KF hg48 Z (Pk hg48 Z (S Z (KF Z Z (KF Z Z (S Z (S Z (KF Z Z (KF Z Z (S Z (S Z (KF Z Z (KF Z Z (S Z (S Z (KF Z Z (KF Z Z (S Z (S Z (KF Z Z (S Z (S Z (KF Z Z (KF Z Z (S Z (S Z (KF Z Z (KF Z Z (S Z (S Z (WO.nil ?_)))))))))))))))))))))))))))))))
    obtain rfl := Oi h45
    exact cutN (Lr [])
  ·refine KF hg46 Z (KF hg46 Z (KF hg46 Z (Pk hg46 Z (S Z (KF Z Z (KF Z Z (S Z (S Z (KF Z Z (KF Z Z (S Z (S Z (KF Z Z (KF Z Z (S Z (S Z (KF Z Z (KF Z Z (S Z (S Z (KF Z Z (KF Z Z (S Z (S Z (KF Z Z (S Z (S Z (KF Z Z (KF Z Z (S Z (S Z (KF Z Z (KF Z Z (S Z (S Z (WO.nil ?_))))))))))))))))))))))))))))))))))))
   obtain rfl := Oi h45
   exact cutN (Lr [])
 refine seqN (TC.le hle (TC.ret ?_))
 obtain rfl := Oi h
 refine ⟨[(0, _)], _, _, ?_, ResOK.one Z Z, Z, Z⟩
 exact Lr []
def F_ai (n : Nat) (a1 : List Starter) (s40 : Int) (s56 : Int) : Option (Ctl Int (Ctl Unit (Ctl Int (Ctl Unit Bool)))) :=
  (bif decide (s56 < s40) then (idx a1 s40).bind fun x60 => (idx a1 s56).bind fun x61 => (bif (x60.Bib == x61.Bib) then some (.done (.done (.done (.done true)))) else some (.cont (IntKind.i64.wrap (s56 + 1)))) else some (.done (.cont ())))
def F_al (n : Nat) (a1 : List Starter) (s40 : Int) : Option (Ctl Int (Ctl Unit Bool)) :=
  (bif decide (s40 < (a1.length : Int)) then (iter (F_ai n a1 s40) n 0 : Option (Ctl Unit (Ctl Int (Ctl Unit Bool)))).bind fun b53 => match b53 with | .cont sb53 => (some (.cont (IntKind.i64.wrap (s40 + 1)))) | .done sb53 => some sb53 else some (.done (.cont ())))
def F_ah (n : Nat) (a1 : List Starter) (a2 : Int) (a3 : Int) (a4 : Int) : Option Bool :=
  (F_aj 300).bind fun r1 => (bif (!r1) then some false else ((bif decide ((a1.length : Int) < 2) then some true else some (decide (30 < (a1.length : Int)))) : Option Bool).bind fun b4 => (bif b4 then some true else (iter (F_al n a1) n 0 : Option (Ctl Unit Bool)).bind fun b37 => match b37 with | .cont sb37 => ((nz (a1.length : Int)).bind fun x63 => (idx a1 (Int.tmod (andI .i64 a2 1023) (a1.length : Int))).bind fun x64 => (nz (a1.length : Int)).bind fun x65 => (idx a1 (Int.tmod (andI .i64 a3 1023) (a1.length : Int))).bind fun x66 => (F_b n a1 [{ A := x64.Bib, B := x66.Bib : Pair }] 1 x64.Bib).bind fun r67 => (F_b n a1 [{ A := x64.Bib, B := x66.Bib : Pair }] 1 x66.Bib).bind fun r68 => ((bif (r67.2 != 0) then some true else (bif (r68.2 != 0) then some true else (bif (r67.1 != x66.Chip) then some true else some (r68.1 != x64.Chip)))) : Option Bool).bind fun b72 => (bif b72 then some false else (nz (a1.length : Int)).bind fun x78 => (idx a1 (Int.tmod (andI .i64 a4 1023) (a1.length : Int))).bind fun x79 => ((bif (x79.Bib == x64.Bib) then some true else some (x79.Bib == x66.Bib)) : Option Bool).bind fun b81 => (bif b81 then some true else (F_b n a1 [{ A := x64.Bib, B := x66.Bib : Pair }] 1 x79.Bib).bind fun r85 => (F_b n a1 [{ A := x64.Bib, B := x66.Bib : Pair }] 0 x79.Bib).bind fun r86 => ((bif (r85.2 == 0) then (bif (r86.2 == 0) then (bif (r85.1 == x79.Chip) then some (r86.1 == x79.Chip) else some false) else some false) else some false) : Option Bool).bind fun b90 => some b90))) | .done sb37 => some sb37))
theorem k_ah (n : Nat) (a1 : List Starter) (a2 : Int) (a3 : Int) (a4 : Int) (r : Bool) (h : F_ah n a1 a2 a3 a4 = some r) :
    C prog 9 [.rsl 8 (List.map Starter.c a1), .int .i64 a2, .int .i64 a3, .int .i64 a4] [] (fun a H => a = .bool r ∧ H = []) := by
 refine C.of_body func9 Z Z Z ?_
 refine Rg (S Z (Nx (TC.seq (Rg (Bd h fun r1 hr1 h => ?_)))))
 refine WO.callD [] (OpC.fn call10 Z Z Z) (k_aj _ _ hr1) ?_
 rintro _ _ ⟨rfl, rfl⟩
 refine aV (.bool r1) [] Z Z ?_
 refine S Z (Nx (Cn Z h (fun hc2 h => ?_) (fun hc2 h => ?_)))
 ·refine Rg (S Z (Nx (RtR ?_)))
  obtain rfl := Oi h
  refine ⟨[(8, _)], _, _, ?_, ResOK.one Z Z, Z, Z⟩
  exact Lr []
 refine SkN (TC.seq (TC.seq (Bd h fun b4 h5 h => ?_)))
 refine TC.cut ([(0, .rsl 8 (List.map Starter.c a1)), (1, .int .i64 a2), (2, .int .i64 a3), (3, .int .i64 a4), (32, .bool b4)]) ([]) ?_ (fun env H hle => ?_)
 ·refine TC.region (S Z (LnM runUnderlying38 Z (S Z (S Z (If h5 (fun hg6 h5 => ?_) (fun hg6 h5 => ?_))))))
  ·refine KF hg6 Z (KF hg6 Z (KF hg6 Z (Pk hg6 Z (WO.nil ?_))))
   obtain rfl := Oi h5
   exact cutN (Lr [])
  ·refine Sg (gT hg6) Z ?_
   refine vX (.int .i64 (a1.length : Int)) (OpV.lenM (e := Starter.c) (l := a1) runUnderlying38) ?_ (gT hg6)
   refine Sg (gT hg6) Z (Pk hg6 Z (WO.nil ?_))
   obtain rfl := Oi h5
   exact cutN (Lr [])
 refine seqN (TC.le hle (Cn Z h (fun hc7 h => ?_) (fun hc7 h => ?_)))
 ·refine Rg (S Z (Nx (RtR ?_)))
  obtain rfl := Oi h
  refine ⟨[(8, _)], _, _, ?_, ResOK.one Z Z, Z, Z⟩
  exact Lr []
 refine SkN (TC.seq (Rg (S Z (LnM runUnderlying38 Z (S Z (Nx (Bd h fun b37 h38 h => ?_)))))))
 refine TC.cutE (b := b37) (fun sb37 => [(0, .rsl 8 (List.map Starter.c a1)), (1, .int .i64 a2), (2, .int .i64 a3), (3, .int .i64 a4)]) (fun sb37 => []) ?_ (fun sb37 env H hbe hle => ?_)
 ·refine TC.block ?_
  refine TC.loop (E := fun s40 => [(0, .rsl 8 (List.map Starter.c a1)), (1, .int .i64 a2), (2, .int .i64 a3), (3, .int .i64 a4), (34, .int .i64 (a1.length : Int)), (35, .int .i64 s40)]) (Hp := fun s40 => []) h38 ?_ ?_
  ·exact Lr []
  intro s40 d41 h42 hb39
  refine Rg (S Z (Nx (TC.seq (CnS Z h42 (fun hc43 h42 => ?_) (fun hc43 h42 => ?_)))))
  ·refine ExX (loopX h42 ?_)
   obtain rfl := hb39 _ (Oi h42).symm
   exact bloE (cutEN Z (Lr []))
  refine SkN (TC.seq (TC.block (Rg (S Z (S Z (Nx (Rg (S Z (S Z (Nx (Bd h42 fun b53 h54 h42 => ?_)))))))))))
  refine TC.cutE (b := b53) (fun sb53 => [(0, .rsl 8 (List.map Starter.c a1)), (1, .int .i64 a2), (2, .int .i64 a3), (3, .int .i64 a4), (34, .int .i64 (a1.length : Int)), (35, .int .i64 s40)]) (fun sb53 => []) ?_ (fun sb53 env H hbe hle => ?_)
  ·refine TC.block ?_
   refine TC.loop (E := fun s56 => [(0, .rsl 8 (List.map Starter.c a1)), (1, .int .i64 a2), (2, .int .i64 a3), (3, .int .i64 a4), (9, .int .i64 s40), (34, .int .i64 (a1.length : Int)), (35, .int .i64 s40), (38, .int .i64 s40), (39, .int .i64 s56)]) (Hp := fun s56 => []) h54 ?_ ?_
   ·exact Lr []
   intro s56 d57 h58 hb55
   refine Rg (S Z (Nx (TC.seq (CnS Z h58 (fun hc59 h58 => ?_) (fun hc59 h58 => ?_)))))
   ·refine ExX (loopX h58 ?_)
    obtain rfl := hb55 _ (Oi h58).symm
    exact bloE (cutEN Z (Lr []))
   refine SkN (TC.seq (TC.block (Rg (S Z (S Z (Nx (TC.seq ?_)))))))
   obtain ⟨x60, hx60, h58⟩ := bnd h58
   obtain ⟨x61, hx61, h58⟩ := bnd h58
   refine TC.draw0 10 [42, 43, 44, 45, 46, 47, 48, 49, 50, 51] [.rsl 8 (List.map Starter.c a1), .int .i64 s40, .rp [.int .i64 x60.Bib, .int .i64 x60.Distance, .int .i64 x60.Wave, .int .i64 x60.Slot, .int .i64 x60.Age, .int .i64 x60.Chip, .int .i64 x60.Team, .int .i64 x60.Lot], .rp [.int .i64 x60.Bib, .int .i64 x60.Distance, .int .i64 x60.Wave, .int .i64 x60.Slot, .int .i64 x60.Age, .int .i64 x60.Chip, .int .i64 x60.Team, .int .i64 x60.Lot], .int .i64 x60.Bib, .rsl 8 (List.map Starter.c a1), .int .i64 s56, .rp [.int .i64 x61.Bib, .int .i64 x61.Distance, .int .i64 x61.Wave, .int .i64 x61.Slot, .int .i64 x61.Age, .int .i64 x61.Chip, .int .i64 x61.Team, .int .i64 x61.Lot], .rp [.int .i64 x61.Bib, .int .i64 x61.Distance, .int .i64 x61.Wave, .int .i64 x61.Slot, .int .i64 x61.Age, .int .i64 x61.Chip, .int .i64 x61.Team, .int .i64 x61.Lot], .int .i64 x61.Bib] draws Z Z Z ?_ ?_
   ·refine Oq.c ?_ (Oq.c ?_ (Oq.c ?_ (Oq.c ?_ (Oq.c ?_ (Oq.c ?_ (Oq.c ?_ (Oq.c ?_ (Oq.c ?_ (Oq.c ?_ (Oq.n))))))))))
    ·refine Om Z (sO 0 sN) ?_
     exact S Z Wp
    ·refine Om Z (sO 9 sN) ?_
     exact S Z Wp
    ·refine Om Z (sD 0 (sD 1 sN)) ?_
     exact Ix hx60 runUnderlying38 sizeOf50 Z Wp
    ·refine Om Z (sD 2 sN) ?_
     exact Fr fa_50_0 Z Wp
    ·refine Om Z (sD 3 sN) ?_
     exact Ld isAgg3 Z Wp
    ·refine Om Z (sO 0 sN) ?_
     exact S Z Wp
    ·refine Om Z (sO 10 sN) ?_
     exact S Z Wp
    ·refine Om Z (sD 5 (sD 6 sN)) ?_
     exact Ix hx61 runUnderlying38 sizeOf50 Z Wp
    ·refine Om Z (sD 7 sN) ?_
     exact Fr fa_50_0 Z Wp
    ·refine Om Z (sD 8 sN) ?_
     exact Ld isAgg3 Z Wp
   refine S Z (Nx (Cn Z h58 (fun hc62 h58 => ?_) (fun hc62 h58 => ?_)))
   ·refine Rg (S Z (Nx (TC.ret (bloR (seqR (loopR h58 ?_))))))
    obtain rfl := hb55 _ (Oi h58).symm
    refine bloR (cutER (bloR (seqR (loopR h42 ?_))))
    obtain rfl := hb39 _ (Oi h42).symm
    refine bloR (cutER (seqR ?_))
    obtain rfl := Oi h
    refine ⟨[(8, _)], _, _, ?_, ResOK.one Z Z, Z, Z⟩
    exact Lr []
   exact TC.skip (bloN (seqN (TC.region (S Z (S Z (WO.nil (loopN h58 (Lr []))))))))
  subst hbe
  exact bloN (seqN (TC.le hle (TC.region (S Z (S Z (WO.nil (loopN h42 (Lr []))))))))
 subst hbe
 refine seqN (TC.le hle (TC.seq ?_))
 obtain ⟨x63, hx63, h⟩ := bnd h
 obtain ⟨x64, hx64, h⟩ := bnd h
 obtain ⟨x65, hx65, h⟩ := bnd h
 obtain ⟨x66, hx66, h⟩ := bnd h
 refine TC.draws 19 2 [55, 56, 57, 58, 59, 60, 61, 62, 63, 64, 65, 66, 67, 68, 69, 70, 11, 12, 1000018] [false, false, false, false, false, false, false, false, false, false, false, false, false, false, false, false, true, true, true] [[], [], [], [], [], [], [], [], [], [], [], [], [], [], [], [], [], [], [16, 17]] [[], [16], [17], [16, 17], [16, 17, 18]] [[(0, 0), (1, 1), (2, 2), (3, 3), (4, 4)], [(0, 0), (1, 1), (2, 2), (3, 3), (4, 4)], [(0, 0), (1, 1), (2, 2), (3, 3), (4, 4)], [(0, 0), (1, 1), (2, 2), (3, 3), (4, 4)], [(0, 0), (1, 1), (2, 2), (3, 3), (4, 4)], [(0, 0), (1, 1), (2, 2), (3, 3), (4, 4)], [(0, 0), (1, 1), (2, 2), (3, 3), (4, 4)], [(0, 0), (1, 1), (2, 2), (3, 3), (4, 4)], [(0, 0), (1, 1), (2, 2), (3, 3), (4, 4)], [(0, 0), (1, 1), (2, 2), (3, 3), (4, 4)], [(0, 0), (1, 1), (2, 2), (3, 3), (4, 4)], [(0, 0), (1, 1), (2, 2), (3, 3), (4, 4)], [(0, 0), (1, 1), (2, 2), (3, 3), (4, 4)], [(0, 0), (1, 1), (2, 2), (3, 3), (4, 4)], [(0, 0), (1, 1), (2, 2), (3, 3), (4, 4)], [(0, 0), (1, 1), (2, 2), (3, 3), (4, 4)], [(0, 1), (2, 3)], [(0, 2), (1, 3)], [(3, 4)]] [.rsl 8 (List.map Starter.c a1), .int .i64 a2, .int .i64 (andI .i64 a2 1023), .rsl 8 (List.map Starter.c a1), .int .i64 (a1.length : Int), .int .i64 (Int.tmod (andI .i64 a2 1023) (a1.length : Int)), .rp [.int .i64 x64.Bib, .int .i64 x64.Distance, .int .i64 x64.Wave, .int .i64 x64.Slot, .int .i64 x64.Age, .int .i64 x64.Chip, .int .i64 x64.Team, .int .i64 x64.Lot], .agg (Starter.c x64), .rsl 8 (List.map Starter.c a1), .int .i64 a3, .int .i64 (andI .i64 a3 1023), .rsl 8 (List.map Starter.c a1), .int .i64 (a1.length : Int), .int .i64 (Int.tmod (andI .i64 a3 1023) (a1.length : Int)), .rp [.int .i64 x66.Bib, .int .i64 x66.Distance, .int .i64 x66.Wave, .int .i64 x66.Slot, .int .i64 x66.Age, .int .i64 x66.Chip, .int .i64 x66.Team, .int .i64 x66.Lot], .agg (Starter.c x66), .ptr 0 0, .ptr 1 0, .any] [[.dead, .dead], [.cells 50 [.int .i64 0, .int .i64 0, .int .i64 0, .int .i64 0, .int .i64 0, .int .i64 0, .int .i64 0, .int .i64 0], .dead], [.dead, .cells 50 [.int .i64 0, .int .i64 0, .int .i64 0, .int .i64 0, .int .i64 0, .int .i64 0, .int .i64 0, .int .i64 0]], [.cells 50 [.int .i64 0, .int .i64 0, .int .i64 0, .int .i64 0, .int .i64 0, .int .i64 0, .int .i64 0, .int .i64 0], .cells 50 [.int .i64 0, .int .i64 0, .int .i64 0, .int .i64 0, .int .i64 0, .int .i64 0, .int .i64 0, .int .i64 0]], [.cells 50 (Starter.c x64), .cells 50 [.int .i64 0, .int .i64 0, .int .i64 0, .int .i64 0, .int .i64 0, .int .i64 0, .int .i64 0, .int .i64 0]]] ([.cells 50 (Starter.c x64), .cells 50 [.int .i64 0, .int .i64 0, .int .i64 0, .int .i64 0, .int .i64 0, .int .i64 0, .int .i64 0, .int .i64 0]]) draws Z Z Z Z Z Z Z ?_ Z ?_
 ·refine OblM.cons ?_ (OblM.cons ?_ (OblM.cons ?_ (OblM.cons ?_ (OblM.cons ?_ (OblM.cons ?_ (OblM.cons ?_ (OblM.cons ?_ (OblM.cons ?_ (OblM.cons ?_ (OblM.cons ?_ (OblM.cons ?_ (OblM.cons ?_ (OblM.cons ?_ (OblM.cons ?_ (OblM.cons ?_ (OblM.cons ?_ (OblM.cons ?_ (OblM.cons ?_ (OblM.nil)))))))))))))))))))
  ·refine OblM.stC ?_ (OblM.stC ?_ (OblM.stC ?_ (OblM.stC ?_ (OblM.stC ?_ (OblM.st0)))))
   ·refine Om Z (sO 0 sN) ?_
    exact S Z Wp
   ·refine Om Z (sO 0 sN) ?_
    exact S Z Wp
   ·refine Om Z (sO 0 sN) ?_
    exact S Z Wp
   ·refine Om Z (sO 0 sN) ?_
    exact S Z Wp
   ·refine Om Z (sO 0 sN) ?_
    exact S Z Wp
  ·refine OblM.stC ?_ (OblM.stC ?_ (OblM.stC ?_ (OblM.stC ?_ (OblM.stC ?_ (OblM.st0)))))
   ·refine Om Z (sO 1 sN) ?_
    exact S Z Wp
   ·refine Om Z (sO 1 sN) ?_
    exact S Z Wp
   ·refine Om Z (sO 1 sN) ?_
    exact S Z Wp
   ·refine Om Z (sO 1 sN) ?_
    exact S Z Wp
   ·refine Om Z (sO 1 sN) ?_
    exact S Z Wp
  ·refine OblM.stC ?_ (OblM.stC ?_ (OblM.stC ?_ (OblM.stC ?_ (OblM.stC ?_ (OblM.st0)))))
   ·refine Om Z (sD 1 sN) ?_
    refine vX (.int .i64 (andI .i64 a2 1023)) (OpV.and Z Z Z) ?_
    exact Wp
   ·refine Om Z (sD 1 sN) ?_
    refine vX (.int .i64 (andI .i64 a2 1023)) (OpV.and Z Z Z) ?_
    exact Wp
   ·refine Om Z (sD 1 sN) ?_
    refine vX (.int .i64 (andI .i64 a2 1023)) (OpV.and Z Z Z) ?_
    exact Wp
   ·refine Om Z (sD 1 sN) ?_
    refine vX (.int .i64 (andI .i64 a2 1023)) (OpV.and Z Z Z) ?_
    exact Wp
   ·refine Om Z (sD 1 sN) ?_
    refine vX (.int .i64 (andI .i64 a2 1023)) (OpV.and Z Z Z) ?_
    exact Wp
  ·refine OblM.stC ?_ (OblM.stC ?_ (OblM.stC ?_ (OblM.stC ?_ (OblM.stC ?_ (OblM.st0)))))
   ·refine Om Z (sO 0 sN) ?_
    exact S Z Wp
   ·refine Om Z (sO 0 sN) ?_
    exact S Z Wp
   ·refine Om Z (sO 0 sN) ?_
    exact S Z Wp
   ·refine Om Z (sO 0 sN) ?_
    exact S Z Wp
   ·refine Om Z (sO 0 sN) ?_
    exact S Z Wp
  ·refine OblM.stC ?_ (OblM.stC ?_ (OblM.stC ?_ (OblM.stC ?_ (OblM.stC ?_ (OblM.st0)))))
   ·refine Om Z (sD 3 sN) ?_
    exact LnM runUnderlying38 Z Wp
   ·refine Om Z (sD 3 sN) ?_
    exact LnM runUnderlying38 Z Wp
   ·refine Om Z (sD 3 sN) ?_
    exact LnM runUnderlying38 Z Wp
   ·refine Om Z (sD 3 sN) ?_
    exact LnM runUnderlying38 Z Wp
   ·refine Om Z (sD 3 sN) ?_
    exact LnM runUnderlying38 Z Wp
  ·refine OblM.stC ?_ (OblM.stC ?_ (OblM.stC ?_ (OblM.stC ?_ (OblM.stC ?_ (OblM.st0)))))
   ·refine Om Z (sD 2 (sD 4 sN)) ?_
    refine vX (.int .i64 (Int.tmod (andI .i64 a2 1023) (a1.length : Int))) (OpV.rem Z Z Z (nz_ok hx63)) ?_
    exact Wp
   ·refine Om Z (sD 2 (sD 4 sN)) ?_
    refine vX (.int .i64 (Int.tmod (andI .i64 a2 1023) (a1.length : Int))) (OpV.rem Z Z Z (nz_ok hx63)) ?_
    exact Wp
   ·refine Om Z (sD 2 (sD 4 sN)) ?_
    refine vX (.int .i64 (Int.tmod (andI .i64 a2 1023) (a1.length : Int))) (OpV.rem Z Z Z (nz_ok hx63)) ?_
    exact Wp
   ·refine Om Z (sD 2 (sD 4 sN)) ?_
    refine vX (.int .i64 (Int.tmod (andI .i64 a2 1023) (a1.length : Int))) (OpV.rem Z Z Z (nz_ok hx63)) ?_
    exact Wp
   ·refine Om Z (sD 2 (sD 4 sN)) ?_
    refine vX (.int .i64 (Int.tmod (andI .i64 a2 1023) (a1.length : Int))) (OpV.rem Z Z Z (nz_ok hx63)) ?_
    exact Wp
  ·refine OblM.stC ?_ (OblM.stC ?_ (OblM.stC ?_ (OblM.stC ?_ (OblM.stC ?_ (OblM.st0)))))
   ·refine Om Z (sD 0 (sD 5 sN)) ?_
    exact Ix hx64 runUnderlying38 sizeOf50 Z Wp
   ·refine Om Z (sD 0 (sD 5 sN)) ?_
    exact Ix hx64 runUnderlying38 sizeOf50 Z Wp
   ·refine Om Z (sD 0 (sD 5 sN)) ?_
    exact Ix hx64 runUnderlying38 sizeOf50 Z Wp
   ·refine Om Z (sD 0 (sD 5 sN)) ?_
    exact Ix hx64 runUnderlying38 sizeOf50 Z Wp
   ·refine Om Z (sD 0 (sD 5 sN)) ?_
    exact Ix hx64 runUnderlying38 sizeOf50 Z Wp
  ·refine OblM.stC ?_ (OblM.stC ?_ (OblM.stC ?_ (OblM.stC ?_ (OblM.stC ?_ (OblM.st0)))))
   ·refine Om Z (sD 6 sN) ?_
    refine vX (.agg (Starter.c x64)) (OpV.loadA Z isAgg50 sizeOf50 Z Pts.rp Z Z) ?_
    exact Wp
   ·refine Om Z (sD 6 sN) ?_
    refine vX (.agg (Starter.c x64)) (OpV.loadA Z isAgg50 sizeOf50 Z Pts.rp Z Z) ?_
    exact Wp
   ·refine Om Z (sD 6 sN) ?_
    refine vX (.agg (Starter.c x64)) (OpV.loadA Z isAgg50 sizeOf50 Z Pts.rp Z Z) ?_
    exact Wp
   ·refine Om Z (sD 6 sN) ?_
    refine vX (.agg (Starter.c x64)) (OpV.loadA Z isAgg50 sizeOf50 Z Pts.rp Z Z) ?_
    exact Wp
   ·refine Om Z (sD 6 sN) ?_
    refine vX (.agg (Starter.c x64)) (OpV.loadA Z isAgg50 sizeOf50 Z Pts.rp Z Z) ?_
    exact Wp
  ·refine OblM.stC ?_ (OblM.stC ?_ (OblM.stC ?_ (OblM.stC ?_ (OblM.stC ?_ (OblM.st0)))))
   ·refine Om Z (sO 0 sN) ?_
    exact S Z Wp
   ·refine Om Z (sO 0 sN) ?_
    exact S Z Wp
   ·refine Om Z (sO 0 sN) ?_
    exact S Z Wp
   ·refine Om Z (sO 0 sN) ?_
    exact S Z Wp
   ·refine Om Z (sO 0 sN) ?_
    exact S Z Wp
  ·refine OblM.stC ?_ (OblM.stC ?_ (OblM.stC ?_ (OblM.stC ?_ (OblM.stC ?_ (OblM.st0)))))
   ·refine Om Z (sO 2 sN) ?_
    exact S Z Wp
   ·refine Om Z (sO 2 sN) ?_
    exact S Z Wp
   ·refine Om Z (sO 2 sN) ?_
    exact S Z Wp
   ·refine Om Z (sO 2 sN) ?_
    exact S Z Wp
   ·refine Om Z (sO 2 sN) ?_
    exact S Z Wp
  ·refine OblM.stC ?_ (OblM.stC ?_ (OblM.stC ?_ (OblM.stC ?_ (OblM.stC ?_ (OblM.st0)))))
   ·refine Om Z (sD 9 sN) ?_
    refine vX (.int .i64 (andI .i64 a3 1023)) (OpV.and Z Z Z) ?_
    exact Wp
   ·refine Om Z (sD 9 sN) ?_
    refine vX (.int .i64 (andI .i64 a3 1023)) (OpV.and Z Z Z) ?_
    exact Wp
   ·refine Om Z (sD 9 sN) ?_
    refine vX (.int .i64 (andI .i64 a3 1023)) (OpV.and Z Z Z) ?_
    exact Wp
   ·refine Om Z (sD 9 sN) ?_
    refine vX (.int .i64 (andI .i64 a3 1023)) (OpV.and Z Z Z) ?_
    exact Wp
   ·refine Om Z (sD 9 sN) ?_
    refine vX (.int .i64 (andI .i64 a3 1023)) (OpV.and Z Z Z) ?_
    exact Wp
  ·refine OblM.stC ?_ (OblM.stC ?_ (OblM.stC ?_ (OblM.stC ?_ (OblM.stC ?_ (OblM.st0)))))
   ·refine Om Z (sO 0 sN) ?_
    exact S Z Wp
   ·refine Om Z (sO 0 sN) ?_
    exact S Z Wp
   ·refine Om Z (sO 0 sN) ?_
    exact S Z Wp
   ·refine Om Z (sO 0 sN) ?_
    exact S Z Wp
   ·refine Om Z (sO 0 sN) ?_
    exact S Z Wp
  ·refine OblM.stC ?_ (OblM.stC ?_ (OblM.stC ?_ (OblM.stC ?_ (OblM.stC ?_ (OblM.st0)))))
   ·refine Om Z (sD 11 sN) ?_
    exact LnM runUnderlying38 Z Wp
   ·refine Om Z (sD 11 sN) ?_
    exact LnM runUnderlying38 Z Wp
   ·refine Om Z (sD 11 sN) ?_
    exact LnM runUnderlying38 Z Wp
   ·refine Om Z (sD 11 sN) ?_
    exact LnM runUnderlying38 Z Wp
   ·refine Om Z (sD 11 sN) ?_
    exact LnM runUnderlying38 Z Wp
  ·refine OblM.stC ?_ (OblM.stC ?_ (OblM.stC ?_ (OblM.stC ?_ (OblM.stC ?_ (OblM.st0)))))
   ·refine Om Z (sD 10 (sD 12 sN)) ?_
    refine vX (.int .i64 (Int.tmod (andI .i64 a3 1023) (a1.length : Int))) (OpV.rem Z Z Z (nz_ok hx65)) ?_
    exact Wp
   ·refine Om Z (sD 10 (sD 12 sN)) ?_
    refine vX (.int .i64 (Int.tmod (andI .i64 a3 1023) (a1.length : Int))) (OpV.rem Z Z Z (nz_ok hx65)) ?_
    exact Wp
   ·refine Om Z (sD 10 (sD 12 sN)) ?_
    refine vX (.int .i64 (Int.tmod (andI .i64 a3 1023) (a1.length : Int))) (OpV.rem Z Z Z (nz_ok hx65)) ?_
    exact Wp
   ·refine Om Z (sD 10 (sD 12 sN)) ?_
    refine vX (.int .i64 (Int.tmod (andI .i64 a3 1023) (a1.length : Int))) (OpV.rem Z Z Z (nz_ok hx65)) ?_
    exact Wp
   ·refine Om Z (sD 10 (sD 12 sN)) ?_
    refine vX (.int .i64 (Int.tmod (andI .i64 a3 1023) (a1.length : Int))) (OpV.rem Z Z Z (nz_ok hx65)) ?_
    exact Wp
  ·refine OblM.stC ?_ (OblM.stC ?_ (OblM.stC ?_ (OblM.stC ?_ (OblM.stC ?_ (OblM.st0)))))
   ·refine Om Z (sD 8 (sD 13 sN)) ?_
    exact Ix hx66 runUnderlying38 sizeOf50 Z Wp
   ·refine Om Z (sD 8 (sD 13 sN)) ?_
    exact Ix hx66 runUnderlying38 sizeOf50 Z Wp
   ·refine Om Z (sD 8 (sD 13 sN)) ?_
    exact Ix hx66 runUnderlying38 sizeOf50 Z Wp
   ·refine Om Z (sD 8 (sD 13 sN)) ?_
    exact Ix hx66 runUnderlying38 sizeOf50 Z Wp
   ·refine Om Z (sD 8 (sD 13 sN)) ?_
    exact Ix hx66 runUnderlying38 sizeOf50 Z Wp
  ·refine OblM.stC ?_ (OblM.stC ?_ (OblM.stC ?_ (OblM.stC ?_ (OblM.stC ?_ (OblM.st0)))))
   ·refine Om Z (sD 14 sN) ?_
    refine vX (.agg (Starter.c x66)) (OpV.loadA Z isAgg50 sizeOf50 Z Pts.rp Z Z) ?_
    exact Wp
   ·refine Om Z (sD 14 sN) ?_
    refine vX (.agg (Starter.c x66)) (OpV.loadA Z isAgg50 sizeOf50 Z Pts.rp Z Z) ?_
    exact Wp
   ·refine Om Z (sD 14 sN) ?_
    refine vX (.agg (Starter.c x66)) (OpV.loadA Z isAgg50 sizeOf50 Z Pts.rp Z Z) ?_
    exact Wp
   ·refine Om Z (sD 14 sN) ?_
    refine vX (.agg (Starter.c x66)) (OpV.loadA Z isAgg50 sizeOf50 Z Pts.rp Z Z) ?_
    exact Wp
   ·refine Om Z (sD 14 sN) ?_
    refine vX (.agg (Starter.c x66)) (OpV.loadA Z isAgg50 sizeOf50 Z Pts.rp Z Z) ?_
    exact Wp
  ·refine OblM.stC ?_ (OblM.stC ?_ (OblM.st0))
   ·exact OblS.alloc _ 11 50 0 _ Z Z Z Z Z Z Z (OpZ.alloc (v := (.agg [.int .i64 0, .int .i64 0, .int .i64 0, .int .i64 0, .int .i64 0, .int .i64 0, .int .i64 0, .int .i64 0])) zeroValue50 (ZR.agg (ZL.cons ZR.int (ZL.cons ZR.int (ZL.cons ZR.int (ZL.cons ZR.int (ZL.cons ZR.int (ZL.cons ZR.int (ZL.cons ZR.int (ZL.cons ZR.int ZL.nil)))))))))) Z
   ·exact OblS.alloc _ 11 50 0 _ Z Z Z Z Z Z Z (OpZ.alloc (v := (.agg [.int .i64 0, .int .i64 0, .int .i64 0, .int .i64 0, .int .i64 0, .int .i64 0, .int .i64 0, .int .i64 0])) zeroValue50 (ZR.agg (ZL.cons ZR.int (ZL.cons ZR.int (ZL.cons ZR.int (ZL.cons ZR.int (ZL.cons ZR.int (ZL.cons ZR.int (ZL.cons ZR.int (ZL.cons ZR.int ZL.nil)))))))))) Z
  ·refine OblM.stC ?_ (OblM.stC ?_ (OblM.st0))
   ·exact OblS.alloc _ 12 50 1 _ Z Z Z Z Z Z Z (OpZ.alloc (v := (.agg [.int .i64 0, .int .i64 0, .int .i64 0, .int .i64 0, .int .i64 0, .int .i64 0, .int .i64 0, .int .i64 0])) zeroValue50 (ZR.agg (ZL.cons ZR.int (ZL.cons ZR.int (ZL.cons ZR.int (ZL.cons ZR.int (ZL.cons ZR.int (ZL.cons ZR.int (ZL.cons ZR.int (ZL.cons ZR.int ZL.nil)))))))))) Z
   ·exact OblS.alloc _ 12 50 1 _ Z Z Z Z Z Z Z (OpZ.alloc (v := (.agg [.int .i64 0, .int .i64 0, .int .i64 0, .int .i64 0, .int .i64 0, .int .i64 0, .int .i64 0, .int .i64 0])) zeroValue50 (ZR.agg (ZL.cons ZR.int (ZL.cons ZR.int (ZL.cons ZR.int (ZL.cons ZR.int (ZL.cons ZR.int (ZL.cons ZR.int (ZL.cons ZR.int (ZL.cons ZR.int ZL.nil)))))))))) Z
  ·refine OblM.stC ?_ (OblM.st0)
   ·refine Om2 Z (sD 16 (sD 7 sN)) ?_
    refine vU (OpU.store Z Z Z sizeOf50 Z Z Z Z Z Z Z) ?_
    refine WO.atH (H := [.cells 50 (Starter.c x64), _]) Z ?_
    exact Wp
 refine vU (OpU.store Z Z Z sizeOf50 Z Z Z Z Z Z Z) ?_
 refine WO.atH (H := [_, .cells 50 (Starter.c x66)]) Z ?_
 refine Nx (Rg (Fp fa_50_0 Z (Ld isAgg3 Z (Fp fa_50_0 Z (Ld isAgg3 Z ?_)))))
 refine vX (.agg [.int .i64 x64.Bib, .int .i64 x66.Bib]) (OpV.build (zs := [.int .i64 0, .int .i64 0]) zeroValue59 (ZR.agg (ZL.cons ZR.int (ZL.cons ZR.int ZL.nil))) pl_59) ?_
 refine vH (OpH.lit (xs := [.tmp 75]) (es := List.map Pair.c [{ A := x64.Bib, B := x66.Bib : Pair }]) el_42 Z Z Z Z Z ⟨Z, trivial⟩ Z Z) ?_
 refine aV (.osl 2 0 ([{ A := x64.Bib, B := x66.Bib : Pair }].length) 2) [_, _, .row 59 2 (List.map Pair.c [{ A := x64.Bib, B := x66.Bib : Pair }])] Z Z ?_
 refine S Z (Nx (Rg (S Z (S Z (Fp fa_50_0 Z (Ld isAgg3 Z (Bd h fun r67 hr67 h => ?_)))))))
 refine WO.callB (OpC.fn call19 rfl rfl rfl) (LookL.cons rfl (.inl ⟨rfl, rfl⟩) (LookL.cons rfl (.inr ⟨_, _, _, _, _, rfl, rfl, List.length_map .., rfl⟩) (LookL.cons rfl (.inl ⟨rfl, rfl⟩) (LookL.cons rfl (.inl ⟨rfl, rfl⟩) LookL.nil)))) (k_b _ _ _ _ _ _ hr67) (by rintro _ _ ⟨rfl, rfl⟩; rfl) ?_
 rintro _ _ ⟨rfl, rfl⟩
 refine aV (.tup [.int .i64 r67.1, .int .i64 r67.2]) [_, _, _] Z Z ?_
 refine S Z (S Z (S Z (S Z (S Z (Nx (Rg (S Z (S Z (Fp fa_50_0 Z (Ld isAgg3 Z (Bd h fun r68 hr68 h => ?_)))))))))))
 refine WO.callB (OpC.fn call19 rfl rfl rfl) (LookL.cons rfl (.inl ⟨rfl, rfl⟩) (LookL.cons rfl (.inr ⟨_, _, _, _, _, rfl, rfl, List.length_map .., rfl⟩) (LookL.cons rfl (.inl ⟨rfl, rfl⟩) (LookL.cons rfl (.inl ⟨rfl, rfl⟩) LookL.nil)))) (k_b _ _ _ _ _ _ hr68) (by rintro _ _ ⟨rfl, rfl⟩; rfl) ?_
 rintro _ _ ⟨rfl, rfl⟩
 refine aV (.tup [.int .i64 r68.1, .int .i64 r68.2]) [_, _, _] Z Z ?_
 refine S Z (S Z (S Z (S Z (S Z (Nx (TC.seq (TC.seq (Bd h fun b72 h73 h => ?_))))))))
 refine TC.cut ([(0, .rsl 8 (List.map Starter.c a1)), (3, .int .i64 a4), (11, .ptr 0 0), (12, .ptr 1 0), (13, .osl 2 0 ([{ A := x64.Bib, B := x66.Bib : Pair }].length) 2), (110, .bool b72)]) ([.cells 50 (Starter.c x64), .cells 50 (Starter.c x66), .row 59 2 (List.map Pair.c [{ A := x64.Bib, B := x66.Bib : Pair }])]) ?_ (fun env H hle => ?_)
 ·refine TC.region (S Z (S Z (S Z (If h73 (fun hg74 h73 => ?_) (fun hg74 h73 => ?_)))))
  ·refine KF hg74 Z (KF hg74 Z (Pk hg74 Z (S Z (KF Z Z (KF Z Z (KF Z Z (KF Z Z (S Z (S Z (KF Z Z (KF Z Z (KF Z Z (KF Z Z (S Z (WO.nil ?_)))))))))))))))
   obtain rfl := Oi h73
   exact cutN (Lr [0, 1, 2])
  ·refine Sg (gT hg74) Z (Sg (gT hg74) Z (Pk hg74 Z (S Z (If h73 (fun hg75 h73 => ?_) (fun hg75 h73 => ?_)))))
   ·refine KF hg75 Z (KF hg75 Z (KF hg75 Z (KF hg75 Z (Pk hg75 Z (S Z (KF Z Z (KF Z Z (KF Z Z (KF Z Z (S Z (WO.nil ?_)))))))))))
    obtain rfl := Oi h73
    exact cutN (Lr [0, 1, 2])
   ·refine Sg (gT hg75) Z (Fpg (gT hg75) fa_50_5 Z (Ldg (gT hg75) isAgg3 Z (Sg (gT hg75) Z (Pk hg75 Z (S Z (If h73 (fun hg76 h73 => ?_) (fun hg76 h73 => ?_)))))))
    ·refine KF hg76 Z (KF hg76 Z (KF hg76 Z (KF hg76 Z (Pk hg76 Z (WO.nil ?_)))))
     obtain rfl := Oi h73
     exact cutN (Lr [0, 1, 2])
    ·refine Sg (gT hg76) Z (Fpg (gT hg76) fa_50_5 Z (Ldg (gT hg76) isAgg3 Z (Sg (gT hg76) Z (Pk hg76 Z (WO.nil ?_)))))
     obtain rfl := Oi h73
     exact cutN (Lr [0, 1, 2])
 refine seqN (TC.le hle (Cn Z h (fun hc77 h => ?_) (fun hc77 h => ?_)))
 ·refine Rg (S Z (Nx (RtR ?_)))
  obtain rfl := Oi h
  refine ⟨[(8, _)], _, _, ?_, ResOK.one Z Z, Z, Z⟩
  exact Lr []
 refine SkN (Rg (S Z (S Z ?_)))
 refine vX (.int .i64 (andI .i64 a4 1023)) (OpV.and Z Z Z) ?_
 refine S Z (LnM runUnderlying38 Z (Bd h fun x78 hx78 h => ?_))
 refine vX (.int .i64 (Int.tmod (andI .i64 a4 1023) (a1.length : Int))) (OpV.rem Z Z Z (nz_ok hx78)) ?_
 refine Bd h fun x79 hx79 h => Ix hx79 runUnderlying38 sizeOf50 Z ?_
 refine vX (.agg (Starter.c x79)) (OpV.loadA Z isAgg50 sizeOf50 Z Pts.rp Z Z) ?_
 refine vH (OpH.allocZ (v := (.agg [.int .i64 0, .int .i64 0, .int .i64 0, .int .i64 0, .int .i64 0, .int .i64 0, .int .i64 0, .int .i64 0])) zeroValue50 (ZR.agg (ZL.cons ZR.int (ZL.cons ZR.int (ZL.cons ZR.int (ZL.cons ZR.int (ZL.cons ZR.int (ZL.cons ZR.int (ZL.cons ZR.int (ZL.cons ZR.int ZL.nil)))))))))) ?_
 refine aV (.ptr 3 0) [_, _, _, .cells 50 [.int .i64 0, .int .i64 0, .int .i64 0, .int .i64 0, .int .i64 0, .int .i64 0, .int .i64 0, .int .i64 0]] Z Z ?_
 refine vU (OpU.store Z Z Z sizeOf50 Z Z Z Z Z Z Z) ?_
 refine WO.atH (H := [_, _, _, .cells 50 (Starter.c x79)]) Z ?_
 refine Nx (TC.seq (TC.seq (Bd h fun b81 h82 h => ?_)))
 refine TC.cut ([(0, .rsl 8 (List.map Starter.c a1)), (13, .osl 0 0 ([{ A := x64.Bib, B := x66.Bib : Pair }].length) 2), (18, .ptr 1 0), (130, .bool b81)]) ([.row 59 2 (List.map Pair.c [{ A := x64.Bib, B := x66.Bib : Pair }]), .cells 50 (Starter.c x79)]) ?_ (fun env H hle => ?_)
 ·refine TC.region (Fp fa_50_0 Z (Ld isAgg3 Z (Fp fa_50_0 Z (Ld isAgg3 Z (S Z (S Z (If h82 (fun hg83 h82 => ?_) (fun hg83 h82 => ?_))))))))
  ·refine KF hg83 Z (KF hg83 Z (KF hg83 Z (KF hg83 Z (KF hg83 Z (Pk hg83 Z (WO.nil ?_))))))
   obtain rfl := Oi h82
   exact cutN (Lr [2, 3])
  ·refine Fpg (gT hg83) fa_50_0 Z (Ldg (gT hg83) isAgg3 Z (Fpg (gT hg83) fa_50_0 Z (Ldg (gT hg83) isAgg3 Z (Sg (gT hg83) Z (Pk hg83 Z (WO.nil ?_))))))
   obtain rfl := Oi h82
   exact cutN (Lr [2, 3])
 refine seqN (TC.le hle (Cn Z h (fun hc84 h => ?_) (fun hc84 h => ?_)))
 ·refine Rg (S Z (Nx (RtR ?_)))
  obtain rfl := Oi h
  refine ⟨[(8, _)], _, _, ?_, ResOK.one Z Z, Z, Z⟩
  exact Lr []
 refine SkN (Rg (S Z (S Z (Fp fa_50_0 Z (Ld isAgg3 Z (Bd h fun r85 hr85 h => ?_))))))
 refine WO.callB (OpC.fn call19 rfl rfl rfl) (LookL.cons rfl (.inl ⟨rfl, rfl⟩) (LookL.cons rfl (.inr ⟨_, _, _, _, _, rfl, rfl, List.length_map .., rfl⟩) (LookL.cons rfl (.inl ⟨rfl, rfl⟩) (LookL.cons rfl (.inl ⟨rfl, rfl⟩) LookL.nil)))) (k_b _ _ _ _ _ _ hr85) (by rintro _ _ ⟨rfl, rfl⟩; rfl) ?_
 rintro _ _ ⟨rfl, rfl⟩
 refine aV (.tup [.int .i64 r85.1, .int .i64 r85.2]) [_, _] Z Z ?_
 refine S Z (S Z (S Z (S Z (S Z (Nx (Rg (S Z (S Z (Fp fa_50_0 Z (Ld isAgg3 Z (Bd h fun r86 hr86 h => ?_)))))))))))
 refine WO.callB (OpC.fn call19 rfl rfl rfl) (LookL.cons rfl (.inl ⟨rfl, rfl⟩) (LookL.cons rfl (.inr ⟨_, _, _, _, _, rfl, rfl, List.length_map .., rfl⟩) (LookL.cons rfl (.inl ⟨rfl, rfl⟩) (LookL.cons rfl (.inl ⟨rfl, rfl⟩) LookL.nil)))) (k_b _ _ _ _ _ _ hr86) (by rintro _ _ ⟨rfl, rfl⟩; rfl) ?_
 rintro _ _ ⟨rfl, rfl⟩
 refine aV (.tup [.int .i64 r86.1, .int .i64 r86.2]) [_, _] Z Z ?_
 refine S Z (S Z (S Z (S Z (S Z (Nx (TC.seq (Bd h fun b90 h91 h => ?_)))))))
 refine TC.cut ([(8, .bool b90)]) ([]) ?_ (fun env H hle => ?_)
 ·refine TC.region (S Z (S Z (S Z (If h91 (fun hg92 h91 => ?_) (fun hg92 h91 => ?_)))))
  ·refine Sg (gT hg92) Z (Sg (gT hg92) Z (Pk hg92 Z (S Z (If h91 (fun hg93 h91 => ?_) (fun hg93 h91 => ?_)))))
   ·refine Sg (gT hg93) Z (Fpg (gT hg93) fa_50_5 Z (Ldg (gT hg93) isAgg3 Z (Sg (gT hg93) Z (Pk hg93 Z (S Z (If h91 (fun hg94 h91 => ?_) (fun hg94 h91 => ?_)))))))
    ·refine Sg (gT hg94) Z (Fpg (gT hg94) fa_50_5 Z (Ldg (gT hg94) isAgg3 Z (Sg (gT hg94) Z (Pk hg94 Z (S Z (WO.nil ?_))))))
     obtain rfl := Oi h91
     exact cutN (Lr [])
    ·refine KF hg94 Z (KF hg94 Z (KF hg94 Z (KF hg94 Z (Pk hg94 Z (S Z (WO.nil ?_))))))
     obtain rfl := Oi h91
     exact cutN (Lr [])
   ·refine KF hg93 Z (KF hg93 Z (KF hg93 Z (KF hg93 Z (Pk hg93 Z (S Z (KF Z Z (KF Z Z (KF Z Z (KF Z Z (S Z (S Z (WO.nil ?_))))))))))))
    obtain rfl := Oi h91
    exact cutN (Lr [])
  ·refine KF hg92 Z (KF hg92 Z (Pk hg92 Z (S Z (KF Z Z (KF Z Z (KF Z Z (KF Z Z (S Z (S Z (KF Z Z (KF Z Z (KF Z Z (KF Z Z (S Z (S Z (WO.nil ?_))))))))))))))))
   obtain rfl := Oi h91
   exact cutN (Lr [])
 refine seqN (TC.le hle (TC.ret ?_))
 obtain rfl := Oi h
 refine ⟨[(8, _)], _, _, ?_, ResOK.one Z Z, Z, Z⟩
 exact Lr []
end Go.Sw
