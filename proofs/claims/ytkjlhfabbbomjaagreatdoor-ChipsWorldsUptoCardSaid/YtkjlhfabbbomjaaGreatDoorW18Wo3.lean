/- What the functions compute that ChipsWorlds reaches, and that their calls refine it (part 3 of 4). -/
import Derived.Test.YtkjlhfabbbomjaaGreatDoorW18Wo2
set_option linter.unusedVariables false
set_option linter.unusedSimpArgs false
set_option maxRecDepth 100000
set_option maxHeartbeats 4000000
namespace Go.Sw
open Go.Proofs Tryz
def F_eo (n : Nat) (a1 : Fact) (b2 : Int) (l74 : List Ent) (r75 : List Ent) (s102 : (List Int) × Fact × Int × Int) : Option (Ctl ((List Int) × Fact × Int × Int) (Ctl ((List Int) × Fact × Int) ((List Int) × Bool))) :=
  (bif decide (s102.2.2.2 < (l74.length : Int)) then (idx l74 s102.2.2.2).bind fun e106 => (getE (Fact.c a1) b2 e106).bind fun x107 => (bif decide (x107 < e106.lo) then some (.done (.done ([], false))) else (getE (Fact.c a1) b2 e106).bind fun x109 => (bif decide (e106.hi < x109) then some (.done (.done ([], false))) else (idx r75 s102.2.2.2).bind fun e111 => (getE (Fact.c a1) b2 e106).bind fun x112 => (putE Fact.put s102.2.1 s102.2.2.1 e111 x112).bind fun q113 => (getE (Fact.c a1) b2 e106).bind fun x114 => (app s102.1 [x114]).bind fun l115 => some (.cont (l115, q113.1, q113.2, IntKind.i64.wrap (s102.2.2.2 + 1))))) else some (.done (.cont (s102.1, s102.2.1, s102.2.2.1))))
def F_ad (n : Nat) (a1 : Fact) : Option ((List Int) × Bool) :=
  ((bif a1.Appeal.Suspends then some 1 else some 0) : Option Int).bind fun b2 => ((F_al n a1 b2).bind fun r40 => (match r40 with | .c0 x42 => ((F_b n).bind fun r56 => some (.cont ([⟨false, 4, 1, 9999⟩, ⟨false, 5, 0, 7⟩, ⟨false, 6, 0, 31⟩, ⟨false, 7, (-1099511627776), 1099511627776⟩, ⟨false, 8, 0, 120⟩, ⟨false, 9, 0, 1048576⟩, ⟨false, 10, 0, 9999⟩, ⟨false, 11, 0, 1048576⟩] : List Ent))) | .c1 x43 => ((F_b n).bind fun r57 => some (.cont ([⟨false, 12, 0, 39⟩, ⟨false, 13, 0, 255⟩, ⟨false, 14, 0, 1048576⟩, ⟨false, 15, (-1099511627776), 1099511627776⟩] : List Ent))) | .c2 x44 => ((F_b n).bind fun r58 => some (.cont ([⟨false, 16, 0, 39⟩, ⟨false, 17, 0, 255⟩, ⟨false, 18, (-1099511627776), 1099511627776⟩, ⟨false, 19, (-1099511627776), 1099511627776⟩, ⟨false, 20, 0, 1099511627776⟩] : List Ent))) | .c3 x45 => ((F_ea n a1).bind fun r59 => (bif (!(decide (a1.Sync.Min ≤ a1.Sync.Max))) then some (.done ([], false)) else some (.cont ([⟨false, 21, 0, 39⟩, ⟨false, 22, 0, 255⟩, ⟨false, 23, (-1099511627776), 1099511627776⟩, ⟨false, 24, 0, 39⟩, ⟨false, 25, 0, 255⟩, ⟨false, 26, (-1099511627776), 1099511627776⟩, ⟨false, 27, (-1099511627776), 1099511627776⟩, ⟨false, 28, (-1099511627776), 1099511627776⟩] : List Ent)))) | .c4 x46 => ((F_cx n a1).bind fun r61 => (bif (!(decide (a1.Hand.Lo ≤ a1.Hand.Hi))) then some (.done ([], false)) else some (.cont ([⟨false, 29, 1, 9999⟩, ⟨false, 30, 0, 255⟩, ⟨false, 31, (-1099511627776), 1099511627776⟩, ⟨false, 32, (-1099511627776), 1099511627776⟩] : List Ent)))) | .c5 x47 => ((F_du n a1).bind fun r63 => (bif (!(decide (a1.Silence.Lo ≤ a1.Silence.Hi))) then some (.done ([], false)) else some (.cont ([⟨false, 33, 0, 39⟩, ⟨false, 34, 0, 255⟩, ⟨false, 35, (-1099511627776), 1099511627776⟩, ⟨false, 36, (-1099511627776), 1099511627776⟩] : List Ent)))) | .c6 x48 => ((F_eh n a1).bind fun r65 => (bif (!(decide (a1.Pair.A < a1.Pair.B))) then some (.done ([], false)) else some (.cont ([⟨false, 37, 1, 9999⟩, ⟨false, 38, 1, 9999⟩] : List Ent)))) | .c7 x49 => ((F_b n).bind fun r67 => some (.cont ([⟨false, 39, 1, 1048576⟩, ⟨false, 40, 1, 9999⟩, ⟨false, 41, 0, 31⟩, ⟨false, 42, 0, 255⟩] : List Ent))) | .c8 x50 => ((F_b n).bind fun r68 => some (.cont ([⟨false, 43, 1, 1048576⟩, ⟨false, 44, 0, 9999⟩, ⟨false, 45, 0, 1125899906842624⟩, ⟨false, 46, 0, 1⟩] : List Ent))) | .c9 x51 => ((F_b n).bind fun r69 => some (.cont ([⟨false, 47, 1, 1048576⟩, ⟨false, 48, 1, 2⟩, ⟨false, 49, 1, 5⟩, ⟨false, 50, x51.1, x51.2.1⟩, ⟨false, 51, x51.2.2.1, x51.2.2.2.1⟩, ⟨false, 52, x51.2.2.2.2.1, x51.2.2.2.2.2⟩] : List Ent))) | .c10 x52 => ((F_b n).bind fun r70 => some (.cont ([⟨false, 53, 1, 1048576⟩, ⟨true, 0, 0, 1⟩] : List Ent))) | .c11 x53 => ((F_b n).bind fun r71 => some (.cont [])) | .c12 x54 => ((F_b n).bind fun r72 => some (.cont ([⟨false, 55, 0, 31⟩, ⟨false, 56, 1, 1048576⟩] : List Ent))) | .c13 x55 => (some (.done ([], false)))) : Option (Ctl (List Ent) ((List Int) × Bool))).bind fun b38 => match b38 with | .cont sb38 => ((F_ae n a1).bind fun r73 => (app ([⟨false, 3, 1, 13⟩, ⟨false, 0, 0, 31⟩, ⟨false, 1, 1, 1048576⟩, ⟨false, 2, 0, 1099511627776⟩] : List Ent) sb38).bind fun l74 => (F_bo n ({ z_Fact with Ruling := { z_Ruling with Kind := a1.Ruling.Kind : Ruling } : Fact }) 0 a1).bind fun r75 => (iter (F_eo n a1 b2 l74 r75) n ([], ({ ({ z_Fact with Ruling := { z_Ruling with Kind := a1.Ruling.Kind : Ruling } : Fact }) with Kind := a1.Kind : Fact }), 0, 0) : Option (Ctl ((List Int) × Fact × Int) ((List Int) × Bool))).bind fun b99 => match b99 with | .cont sb99 => (((bif (a1.Kind != 10) then some ({ sb99.2.1 with Ruling := { sb99.2.1.Ruling with Kind := 0 : Ruling } : Fact }) else some sb99.2.1) : Option Fact).bind fun b117 => some (sb99.1, (({ b117 with Appeal := { Case := b117.Appeal.Case, Suspends := (sb99.2.2 == 1) : Appeal } : Fact }) == a1))) | .done sb99 => some sb99) | .done sb38 => some sb38
theorem k_ad (n : Nat) (a1 : Fact) (r : (List Int) × Bool) (h : F_ad n a1 = some r) :
    C prog 49 [.agg (Fact.c a1)] [] (fun a H => a = .tup [.osl 0 0 r.1.length 1, .bool r.2] ∧ H = [.row 3 1 (List.map (encI .i64) r.1)]) := by
 refine Qd func49 Z Z Z ?_
 refine Rg (U 3 Z (Nx (Rg (U 2 Z (Nx (TC.seq (Rg (U 3 Z (Nx (Bd h fun b2 h3 h => ?_))))))))))
 refine TC.cut ([(1, .ptr 0 0), (2, .nils), (4, .ptr 1 0)]) ([.cells 81 (Fact.c a1), .cells 3 [I b2]]) ?_ (fun env H hle => ?_)
 ·refine Cn Z h3 (fun hc4 h3 => ?_) (fun hc4 h3 => ?_)
  ·refine TC.region (U 1 Z (WO.nil ?_))
   obtain rfl := Oi h3
   exact cutN (Lr [0, 1])
  refine TC.skip ?_
  obtain rfl := Oi h3
  exact cutN (Lr [0, 1])
 refine Qf (TC.le hle (Rg (U 3 Z (Nx (Bd h fun b38 h39 h => ?_)))))
 refine Qiu (b := b38) (fun sb38 => [(1, .ptr 0 0), (2, .nils), (5, .ptr 1 0), (6, .ptr 2 0)]) (fun sb38 => [.cells 81 (Fact.c a1), .cells 81 (Fact.c a1), .cells 171 [.osl 3 0 sb38.length 3, .any], .ents 181 1 4 sb38, .cells 3 [I b2]]) ?_ (fun sb38 env H hb hle => ?_)
 ·refine TC.region (Bd h39 fun r40 hr40 h39 => ?_)
  refine Qc [2, 1] (OpC.fn call82 Z Z Z) (k_al _ _ _ _ hr40) ?_
  intro ra rH h41
  rcases r40 with x42 | x43 | x44 | x45 | x46 | x47 | x48 | x49 | x50 | x51 | x52 | x53 | x54 | x55
  ·obtain ⟨rfl, rfl⟩ := h41
   refine aV (.tup [.agg [.osl 3 0 8 3, .fn (.func 144) [] []], .bool true]) [.cells 81 (Fact.c a1), .cells 3 [I b2], .cells 81 (Fact.c a1), .rowr 181 3 [[.ptr 2 4, I 1, I 9999], [.ptr 2 5, I 0, I 7], [.ptr 2 6, I 0, I 31], [.ptr 2 7, I (-1099511627776), I 1099511627776], [.ptr 2 8, I 0, I 120], [.ptr 2 9, I 0, I 1048576], [.ptr 2 10, I 0, I 9999], [.ptr 2 11, I 0, I 1048576]], .cells 171 [.osl 3 0 8 3, .fn (.func 144) [] []]] Z Z ?_
   refine WO.le (Qs (i := 3) (b1 := 2) (b2 := 1) (l := [⟨false, 4, 1, 9999⟩, ⟨false, 5, 0, 7⟩, ⟨false, 6, 0, 31⟩, ⟨false, 7, (-1099511627776), 1099511627776⟩, ⟨false, 8, 0, 120⟩, ⟨false, 9, 0, 1048576⟩, ⟨false, 10, 0, 9999⟩, ⟨false, 11, 0, 1048576⟩]) Z Z) ?_
   refine Ql (H := [.cells 81 (Fact.c a1), .cells 3 [I b2], .cells 81 (Fact.c a1), .ents 181 2 1 ([⟨false, 4, 1, 9999⟩, ⟨false, 5, 0, 7⟩, ⟨false, 6, 0, 31⟩, ⟨false, 7, (-1099511627776), 1099511627776⟩, ⟨false, 8, 0, 120⟩, ⟨false, 9, 0, 1048576⟩, ⟨false, 10, 0, 9999⟩, ⟨false, 11, 0, 1048576⟩] : List Ent), .cells 171 [.osl 3 0 8 3, .fn (.func 144) [] []]]) Z ?_
   refine U 6 Z (Nx (Rg (U 5 Z (Bd h39 fun r56 hr56 h39 => ?_))))
   refine Qc [] (Qh call144 Z Z Z Z) (k_b _ _ hr56) ?_ (hg := (gT Z))
   rintro _ _ ⟨rfl, rfl⟩
   refine aV (.bool true) [_, _, _, _, _, _] Z Z ?_
   refine U 2 Z (Nx (CnF Z Z (TC.skip ?_)))
   obtain rfl := Oi h39
   refine Qt Z ?_
   refine Le.trans (QF (i := 5) (m := 1) Z) ?_
   exact Lr [0, 2, 5, 3, 1]
  ·obtain ⟨rfl, rfl⟩ := h41
   refine aV (.tup [.agg [.osl 3 0 4 3, .fn (.func 144) [] []], .bool true]) [.cells 81 (Fact.c a1), .cells 3 [I b2], .cells 81 (Fact.c a1), .rowr 181 3 [[.ptr 2 12, I 0, I 39], [.ptr 2 13, I 0, I 255], [.ptr 2 14, I 0, I 1048576], [.ptr 2 15, I (-1099511627776), I 1099511627776]], .cells 171 [.osl 3 0 4 3, .fn (.func 144) [] []]] Z Z ?_
   refine WO.le (Qs (i := 3) (b1 := 2) (b2 := 1) (l := [⟨false, 12, 0, 39⟩, ⟨false, 13, 0, 255⟩, ⟨false, 14, 0, 1048576⟩, ⟨false, 15, (-1099511627776), 1099511627776⟩]) Z Z) ?_
   refine Ql (H := [.cells 81 (Fact.c a1), .cells 3 [I b2], .cells 81 (Fact.c a1), .ents 181 2 1 ([⟨false, 12, 0, 39⟩, ⟨false, 13, 0, 255⟩, ⟨false, 14, 0, 1048576⟩, ⟨false, 15, (-1099511627776), 1099511627776⟩] : List Ent), .cells 171 [.osl 3 0 4 3, .fn (.func 144) [] []]]) Z ?_
   refine U 6 Z (Nx (Rg (U 5 Z (Bd h39 fun r57 hr57 h39 => ?_))))
   refine Qc [] (Qh call144 Z Z Z Z) (k_b _ _ hr57) ?_ (hg := (gT Z))
   rintro _ _ ⟨rfl, rfl⟩
   refine aV (.bool true) [_, _, _, _, _, _] Z Z ?_
   refine U 2 Z (Nx (CnF Z Z (TC.skip ?_)))
   obtain rfl := Oi h39
   refine Qt Z ?_
   refine Le.trans (QF (i := 5) (m := 1) Z) ?_
   exact Lr [0, 2, 5, 3, 1]
  ·obtain ⟨rfl, rfl⟩ := h41
   refine aV (.tup [.agg [.osl 3 0 5 3, .fn (.func 144) [] []], .bool true]) [.cells 81 (Fact.c a1), .cells 3 [I b2], .cells 81 (Fact.c a1), .rowr 181 3 [[.ptr 2 16, I 0, I 39], [.ptr 2 17, I 0, I 255], [.ptr 2 18, I (-1099511627776), I 1099511627776], [.ptr 2 19, I (-1099511627776), I 1099511627776], [.ptr 2 20, I 0, I 1099511627776]], .cells 171 [.osl 3 0 5 3, .fn (.func 144) [] []]] Z Z ?_
   refine WO.le (Qs (i := 3) (b1 := 2) (b2 := 1) (l := [⟨false, 16, 0, 39⟩, ⟨false, 17, 0, 255⟩, ⟨false, 18, (-1099511627776), 1099511627776⟩, ⟨false, 19, (-1099511627776), 1099511627776⟩, ⟨false, 20, 0, 1099511627776⟩]) Z Z) ?_
   refine Ql (H := [.cells 81 (Fact.c a1), .cells 3 [I b2], .cells 81 (Fact.c a1), .ents 181 2 1 ([⟨false, 16, 0, 39⟩, ⟨false, 17, 0, 255⟩, ⟨false, 18, (-1099511627776), 1099511627776⟩, ⟨false, 19, (-1099511627776), 1099511627776⟩, ⟨false, 20, 0, 1099511627776⟩] : List Ent), .cells 171 [.osl 3 0 5 3, .fn (.func 144) [] []]]) Z ?_
   refine U 6 Z (Nx (Rg (U 5 Z (Bd h39 fun r58 hr58 h39 => ?_))))
   refine Qc [] (Qh call144 Z Z Z Z) (k_b _ _ hr58) ?_ (hg := (gT Z))
   rintro _ _ ⟨rfl, rfl⟩
   refine aV (.bool true) [_, _, _, _, _, _] Z Z ?_
   refine U 2 Z (Nx (CnF Z Z (TC.skip ?_)))
   obtain rfl := Oi h39
   refine Qt Z ?_
   refine Le.trans (QF (i := 5) (m := 1) Z) ?_
   exact Lr [0, 2, 5, 3, 1]
  ·obtain ⟨rfl, rfl⟩ := h41
   refine aV (.tup [.agg [.osl 3 0 8 3, .fn (.func 145) [] [.ptr 4 0]], .bool true]) [.cells 81 (Fact.c a1), .cells 3 [I b2], .cells 81 (Fact.c a1), .rowr 181 3 [[.ptr 2 21, I 0, I 39], [.ptr 2 22, I 0, I 255], [.ptr 2 23, I (-1099511627776), I 1099511627776], [.ptr 2 24, I 0, I 39], [.ptr 2 25, I 0, I 255], [.ptr 2 26, I (-1099511627776), I 1099511627776], [.ptr 2 27, I (-1099511627776), I 1099511627776], [.ptr 2 28, I (-1099511627776), I 1099511627776]], .cells 238 [.ptr 2 21], .cells 171 [.osl 3 0 8 3, .fn (.func 145) [] [.ptr 4 0]]] Z Z ?_
   refine WO.le (Qs (i := 3) (b1 := 2) (b2 := 1) (l := [⟨false, 21, 0, 39⟩, ⟨false, 22, 0, 255⟩, ⟨false, 23, (-1099511627776), 1099511627776⟩, ⟨false, 24, 0, 39⟩, ⟨false, 25, 0, 255⟩, ⟨false, 26, (-1099511627776), 1099511627776⟩, ⟨false, 27, (-1099511627776), 1099511627776⟩, ⟨false, 28, (-1099511627776), 1099511627776⟩]) Z Z) ?_
   refine Ql (H := [.cells 81 (Fact.c a1), .cells 3 [I b2], .cells 81 (Fact.c a1), .ents 181 2 1 ([⟨false, 21, 0, 39⟩, ⟨false, 22, 0, 255⟩, ⟨false, 23, (-1099511627776), 1099511627776⟩, ⟨false, 24, 0, 39⟩, ⟨false, 25, 0, 255⟩, ⟨false, 26, (-1099511627776), 1099511627776⟩, ⟨false, 27, (-1099511627776), 1099511627776⟩, ⟨false, 28, (-1099511627776), 1099511627776⟩] : List Ent), .cells 238 [.ptr 2 21], .cells 171 [.osl 3 0 8 3, .fn (.func 145) [] [.ptr 4 0]]]) Z ?_
   refine U 6 Z (Nx (Rg (U 5 Z (Bd h39 fun r59 hr59 h39 => ?_))))
   refine Qc [4, 2] (Qh call145 Z Z Z Z) (k_ea _ _ _ hr59) ?_ (hg := (gT Z))
   rintro _ _ ⟨rfl, rfl⟩
   refine aV (.bool (decide (a1.Sync.Min ≤ a1.Sync.Max))) [_, _, _, _, _, _, _] Z Z ?_
   refine U 2 Z (Nx (Cn Z h39 (fun hc60 h39 => ?_) (fun hc60 h39 => ?_)))
   ·refine Rg (U 2 Z (Nx (TC.ret ?_)))
    obtain rfl := Oi h39
    refine QC (Qi ?_)
    obtain rfl := Oi h
    refine ⟨[(2, _), (3, _)], _, _, ?_, Qm Z Z Z, Z, Z⟩
    refine Le.trans (Le.phantom (s := 2) (k := 1) (t := 3) (Nat.le_of_ble_eq_true Z) Z) ?_
    exact Lr [7]
   refine TC.skip ?_
   obtain rfl := Oi h39
   refine Qt Z ?_
   refine Le.trans (QF (i := 6) (m := 1) Z) ?_
   exact Lr [0, 2, 6, 3, 1]
  ·obtain ⟨rfl, rfl⟩ := h41
   refine aV (.tup [.agg [.osl 3 0 4 3, .fn (.func 146) [] [.ptr 4 0]], .bool true]) [.cells 81 (Fact.c a1), .cells 3 [I b2], .cells 81 (Fact.c a1), .rowr 181 3 [[.ptr 2 29, I 1, I 9999], [.ptr 2 30, I 0, I 255], [.ptr 2 31, I (-1099511627776), I 1099511627776], [.ptr 2 32, I (-1099511627776), I 1099511627776]], .cells 239 [.ptr 2 29], .cells 171 [.osl 3 0 4 3, .fn (.func 146) [] [.ptr 4 0]]] Z Z ?_
   refine WO.le (Qs (i := 3) (b1 := 2) (b2 := 1) (l := [⟨false, 29, 1, 9999⟩, ⟨false, 30, 0, 255⟩, ⟨false, 31, (-1099511627776), 1099511627776⟩, ⟨false, 32, (-1099511627776), 1099511627776⟩]) Z Z) ?_
   refine Ql (H := [.cells 81 (Fact.c a1), .cells 3 [I b2], .cells 81 (Fact.c a1), .ents 181 2 1 ([⟨false, 29, 1, 9999⟩, ⟨false, 30, 0, 255⟩, ⟨false, 31, (-1099511627776), 1099511627776⟩, ⟨false, 32, (-1099511627776), 1099511627776⟩] : List Ent), .cells 239 [.ptr 2 29], .cells 171 [.osl 3 0 4 3, .fn (.func 146) [] [.ptr 4 0]]]) Z ?_
   refine U 6 Z (Nx (Rg (U 5 Z (Bd h39 fun r61 hr61 h39 => ?_))))
   refine Qc [4, 2] (Qh call146 Z Z Z Z) (k_cx _ _ _ hr61) ?_ (hg := (gT Z))
   rintro _ _ ⟨rfl, rfl⟩
   refine aV (.bool (decide (a1.Hand.Lo ≤ a1.Hand.Hi))) [_, _, _, _, _, _, _] Z Z ?_
   refine U 2 Z (Nx (Cn Z h39 (fun hc62 h39 => ?_) (fun hc62 h39 => ?_)))
   ·refine Rg (U 2 Z (Nx (TC.ret ?_)))
    obtain rfl := Oi h39
    refine QC (Qi ?_)
    obtain rfl := Oi h
    refine ⟨[(2, _), (3, _)], _, _, ?_, Qm Z Z Z, Z, Z⟩
    refine Le.trans (Le.phantom (s := 2) (k := 1) (t := 3) (Nat.le_of_ble_eq_true Z) Z) ?_
    exact Lr [7]
   refine TC.skip ?_
   obtain rfl := Oi h39
   refine Qt Z ?_
   refine Le.trans (QF (i := 6) (m := 1) Z) ?_
   exact Lr [0, 2, 6, 3, 1]
  ·obtain ⟨rfl, rfl⟩ := h41
   refine aV (.tup [.agg [.osl 3 0 4 3, .fn (.func 147) [] [.ptr 4 0]], .bool true]) [.cells 81 (Fact.c a1), .cells 3 [I b2], .cells 81 (Fact.c a1), .rowr 181 3 [[.ptr 2 33, I 0, I 39], [.ptr 2 34, I 0, I 255], [.ptr 2 35, I (-1099511627776), I 1099511627776], [.ptr 2 36, I (-1099511627776), I 1099511627776]], .cells 240 [.ptr 2 33], .cells 171 [.osl 3 0 4 3, .fn (.func 147) [] [.ptr 4 0]]] Z Z ?_
   refine WO.le (Qs (i := 3) (b1 := 2) (b2 := 1) (l := [⟨false, 33, 0, 39⟩, ⟨false, 34, 0, 255⟩, ⟨false, 35, (-1099511627776), 1099511627776⟩, ⟨false, 36, (-1099511627776), 1099511627776⟩]) Z Z) ?_
   refine Ql (H := [.cells 81 (Fact.c a1), .cells 3 [I b2], .cells 81 (Fact.c a1), .ents 181 2 1 ([⟨false, 33, 0, 39⟩, ⟨false, 34, 0, 255⟩, ⟨false, 35, (-1099511627776), 1099511627776⟩, ⟨false, 36, (-1099511627776), 1099511627776⟩] : List Ent), .cells 240 [.ptr 2 33], .cells 171 [.osl 3 0 4 3, .fn (.func 147) [] [.ptr 4 0]]]) Z ?_
   refine U 6 Z (Nx (Rg (U 5 Z (Bd h39 fun r63 hr63 h39 => ?_))))
   refine Qc [4, 2] (Qh call147 Z Z Z Z) (k_du _ _ _ hr63) ?_ (hg := (gT Z))
   rintro _ _ ⟨rfl, rfl⟩
   refine aV (.bool (decide (a1.Silence.Lo ≤ a1.Silence.Hi))) [_, _, _, _, _, _, _] Z Z ?_
   refine U 2 Z (Nx (Cn Z h39 (fun hc64 h39 => ?_) (fun hc64 h39 => ?_)))
   ·refine Rg (U 2 Z (Nx (TC.ret ?_)))
    obtain rfl := Oi h39
    refine QC (Qi ?_)
    obtain rfl := Oi h
    refine ⟨[(2, _), (3, _)], _, _, ?_, Qm Z Z Z, Z, Z⟩
    refine Le.trans (Le.phantom (s := 2) (k := 1) (t := 3) (Nat.le_of_ble_eq_true Z) Z) ?_
    exact Lr [7]
   refine TC.skip ?_
   obtain rfl := Oi h39
   refine Qt Z ?_
   refine Le.trans (QF (i := 6) (m := 1) Z) ?_
   exact Lr [0, 2, 6, 3, 1]
  ·obtain ⟨rfl, rfl⟩ := h41
   refine aV (.tup [.agg [.osl 3 0 2 3, .fn (.func 148) [] [.ptr 4 0]], .bool true]) [.cells 81 (Fact.c a1), .cells 3 [I b2], .cells 81 (Fact.c a1), .rowr 181 3 [[.ptr 2 37, I 1, I 9999], [.ptr 2 38, I 1, I 9999]], .cells 241 [.ptr 2 37], .cells 171 [.osl 3 0 2 3, .fn (.func 148) [] [.ptr 4 0]]] Z Z ?_
   refine WO.le (Qs (i := 3) (b1 := 2) (b2 := 1) (l := [⟨false, 37, 1, 9999⟩, ⟨false, 38, 1, 9999⟩]) Z Z) ?_
   refine Ql (H := [.cells 81 (Fact.c a1), .cells 3 [I b2], .cells 81 (Fact.c a1), .ents 181 2 1 ([⟨false, 37, 1, 9999⟩, ⟨false, 38, 1, 9999⟩] : List Ent), .cells 241 [.ptr 2 37], .cells 171 [.osl 3 0 2 3, .fn (.func 148) [] [.ptr 4 0]]]) Z ?_
   refine U 6 Z (Nx (Rg (U 5 Z (Bd h39 fun r65 hr65 h39 => ?_))))
   refine Qc [4, 2] (Qh call148 Z Z Z Z) (k_eh _ _ _ hr65) ?_ (hg := (gT Z))
   rintro _ _ ⟨rfl, rfl⟩
   refine aV (.bool (decide (a1.Pair.A < a1.Pair.B))) [_, _, _, _, _, _, _] Z Z ?_
   refine U 2 Z (Nx (Cn Z h39 (fun hc66 h39 => ?_) (fun hc66 h39 => ?_)))
   ·refine Rg (U 2 Z (Nx (TC.ret ?_)))
    obtain rfl := Oi h39
    refine QC (Qi ?_)
    obtain rfl := Oi h
    refine ⟨[(2, _), (3, _)], _, _, ?_, Qm Z Z Z, Z, Z⟩
    refine Le.trans (Le.phantom (s := 2) (k := 1) (t := 3) (Nat.le_of_ble_eq_true Z) Z) ?_
    exact Lr [7]
   refine TC.skip ?_
   obtain rfl := Oi h39
   refine Qt Z ?_
   refine Le.trans (QF (i := 6) (m := 1) Z) ?_
   exact Lr [0, 2, 6, 3, 1]
  ·obtain ⟨rfl, rfl⟩ := h41
   refine aV (.tup [.agg [.osl 3 0 4 3, .fn (.func 144) [] []], .bool true]) [.cells 81 (Fact.c a1), .cells 3 [I b2], .cells 81 (Fact.c a1), .rowr 181 3 [[.ptr 2 39, I 1, I 1048576], [.ptr 2 40, I 1, I 9999], [.ptr 2 41, I 0, I 31], [.ptr 2 42, I 0, I 255]], .cells 171 [.osl 3 0 4 3, .fn (.func 144) [] []]] Z Z ?_
   refine WO.le (Qs (i := 3) (b1 := 2) (b2 := 1) (l := [⟨false, 39, 1, 1048576⟩, ⟨false, 40, 1, 9999⟩, ⟨false, 41, 0, 31⟩, ⟨false, 42, 0, 255⟩]) Z Z) ?_
   refine Ql (H := [.cells 81 (Fact.c a1), .cells 3 [I b2], .cells 81 (Fact.c a1), .ents 181 2 1 ([⟨false, 39, 1, 1048576⟩, ⟨false, 40, 1, 9999⟩, ⟨false, 41, 0, 31⟩, ⟨false, 42, 0, 255⟩] : List Ent), .cells 171 [.osl 3 0 4 3, .fn (.func 144) [] []]]) Z ?_
   refine U 6 Z (Nx (Rg (U 5 Z (Bd h39 fun r67 hr67 h39 => ?_))))
   refine Qc [] (Qh call144 Z Z Z Z) (k_b _ _ hr67) ?_ (hg := (gT Z))
   rintro _ _ ⟨rfl, rfl⟩
   refine aV (.bool true) [_, _, _, _, _, _] Z Z ?_
   refine U 2 Z (Nx (CnF Z Z (TC.skip ?_)))
   obtain rfl := Oi h39
   refine Qt Z ?_
   refine Le.trans (QF (i := 5) (m := 1) Z) ?_
   exact Lr [0, 2, 5, 3, 1]
  ·obtain ⟨rfl, rfl⟩ := h41
   refine aV (.tup [.agg [.osl 3 0 4 3, .fn (.func 144) [] []], .bool true]) [.cells 81 (Fact.c a1), .cells 3 [I b2], .cells 81 (Fact.c a1), .rowr 181 3 [[.ptr 2 43, I 1, I 1048576], [.ptr 2 44, I 0, I 9999], [.ptr 2 45, I 0, I 1125899906842624], [.ptr 2 46, I 0, I 1]], .cells 171 [.osl 3 0 4 3, .fn (.func 144) [] []]] Z Z ?_
   refine WO.le (Qs (i := 3) (b1 := 2) (b2 := 1) (l := [⟨false, 43, 1, 1048576⟩, ⟨false, 44, 0, 9999⟩, ⟨false, 45, 0, 1125899906842624⟩, ⟨false, 46, 0, 1⟩]) Z Z) ?_
   refine Ql (H := [.cells 81 (Fact.c a1), .cells 3 [I b2], .cells 81 (Fact.c a1), .ents 181 2 1 ([⟨false, 43, 1, 1048576⟩, ⟨false, 44, 0, 9999⟩, ⟨false, 45, 0, 1125899906842624⟩, ⟨false, 46, 0, 1⟩] : List Ent), .cells 171 [.osl 3 0 4 3, .fn (.func 144) [] []]]) Z ?_
   refine U 6 Z (Nx (Rg (U 5 Z (Bd h39 fun r68 hr68 h39 => ?_))))
   refine Qc [] (Qh call144 Z Z Z Z) (k_b _ _ hr68) ?_ (hg := (gT Z))
   rintro _ _ ⟨rfl, rfl⟩
   refine aV (.bool true) [_, _, _, _, _, _] Z Z ?_
   refine U 2 Z (Nx (CnF Z Z (TC.skip ?_)))
   obtain rfl := Oi h39
   refine Qt Z ?_
   refine Le.trans (QF (i := 5) (m := 1) Z) ?_
   exact Lr [0, 2, 5, 3, 1]
  ·obtain ⟨rfl, rfl⟩ := h41
   refine aV (.tup [.agg [.osl 3 0 6 3, .fn (.func 144) [] []], .bool true]) [.cells 81 (Fact.c a1), .cells 3 [I b2], .cells 81 (Fact.c a1), .rowr 181 3 [[.ptr 2 47, I 1, I 1048576], [.ptr 2 48, I 1, I 2], [.ptr 2 49, I 1, I 5], [.ptr 2 50, I x51.1, I x51.2.1], [.ptr 2 51, I x51.2.2.1, I x51.2.2.2.1], [.ptr 2 52, I x51.2.2.2.2.1, I x51.2.2.2.2.2]], .cells 171 [.osl 3 0 6 3, .fn (.func 144) [] []]] Z Z ?_
   refine WO.le (Qs (i := 3) (b1 := 2) (b2 := 1) (l := [⟨false, 47, 1, 1048576⟩, ⟨false, 48, 1, 2⟩, ⟨false, 49, 1, 5⟩, ⟨false, 50, x51.1, x51.2.1⟩, ⟨false, 51, x51.2.2.1, x51.2.2.2.1⟩, ⟨false, 52, x51.2.2.2.2.1, x51.2.2.2.2.2⟩]) Z Z) ?_
   refine Ql (H := [.cells 81 (Fact.c a1), .cells 3 [I b2], .cells 81 (Fact.c a1), .ents 181 2 1 ([⟨false, 47, 1, 1048576⟩, ⟨false, 48, 1, 2⟩, ⟨false, 49, 1, 5⟩, ⟨false, 50, x51.1, x51.2.1⟩, ⟨false, 51, x51.2.2.1, x51.2.2.2.1⟩, ⟨false, 52, x51.2.2.2.2.1, x51.2.2.2.2.2⟩] : List Ent), .cells 171 [.osl 3 0 6 3, .fn (.func 144) [] []]]) Z ?_
   refine U 6 Z (Nx (Rg (U 5 Z (Bd h39 fun r69 hr69 h39 => ?_))))
   refine Qc [] (Qh call144 Z Z Z Z) (k_b _ _ hr69) ?_ (hg := (gT Z))
   rintro _ _ ⟨rfl, rfl⟩
   refine aV (.bool true) [_, _, _, _, _, _] Z Z ?_
   refine U 2 Z (Nx (CnF Z Z (TC.skip ?_)))
   obtain rfl := Oi h39
   refine Qt Z ?_
   refine Le.trans (QF (i := 5) (m := 1) Z) ?_
   exact Lr [0, 2, 5, 3, 1]
  ·obtain ⟨rfl, rfl⟩ := h41
   refine aV (.tup [.agg [.osl 3 0 2 3, .fn (.func 144) [] []], .bool true]) [.cells 81 (Fact.c a1), .cells 3 [I b2], .cells 81 (Fact.c a1), .rowr 181 3 [[.ptr 2 53, I 1, I 1048576], [.ptr 1 0, I 0, I 1]], .cells 171 [.osl 3 0 2 3, .fn (.func 144) [] []]] Z Z ?_
   refine WO.le (Qs (i := 3) (b1 := 2) (b2 := 1) (l := [⟨false, 53, 1, 1048576⟩, ⟨true, 0, 0, 1⟩]) Z Z) ?_
   refine Ql (H := [.cells 81 (Fact.c a1), .cells 3 [I b2], .cells 81 (Fact.c a1), .ents 181 2 1 ([⟨false, 53, 1, 1048576⟩, ⟨true, 0, 0, 1⟩] : List Ent), .cells 171 [.osl 3 0 2 3, .fn (.func 144) [] []]]) Z ?_
   refine U 6 Z (Nx (Rg (U 5 Z (Bd h39 fun r70 hr70 h39 => ?_))))
   refine Qc [] (Qh call144 Z Z Z Z) (k_b _ _ hr70) ?_ (hg := (gT Z))
   rintro _ _ ⟨rfl, rfl⟩
   refine aV (.bool true) [_, _, _, _, _, _] Z Z ?_
   refine U 2 Z (Nx (CnF Z Z (TC.skip ?_)))
   obtain rfl := Oi h39
   refine Qt Z ?_
   refine Le.trans (QF (i := 5) (m := 1) Z) ?_
   exact Lr [0, 2, 5, 3, 1]
  ·obtain ⟨rfl, rfl⟩ := h41
   refine aV (.tup [.agg [.nils, .fn (.func 144) [] []], .bool true]) [.cells 81 (Fact.c a1), .cells 3 [I b2], .cells 81 (Fact.c a1), .cells 171 [.nils, .fn (.func 144) [] []]] Z Z ?_
   refine U 6 Z (Nx (Rg (U 5 Z (Bd h39 fun r71 hr71 h39 => ?_))))
   refine Qc [] (Qh call144 Z Z Z Z) (k_b _ _ hr71) ?_ (hg := (gT Z))
   rintro _ _ ⟨rfl, rfl⟩
   refine aV (.bool true) [_, _, _, _, _] Z Z ?_
   refine U 2 Z (Nx (CnF Z Z (TC.skip ?_)))
   obtain rfl := Oi h39
   refine Qt Z ?_
   refine Le.trans (QF (i := 4) (m := 1) Z) ?_
   refine Le.trans (Le.phantomE (i := 4) (m := 0) (t := 181) (b1 := 2) (b2 := 1) Z Z Z) ?_
   exact Lr [0, 2, 4, 5, 1]
  ·obtain ⟨rfl, rfl⟩ := h41
   refine aV (.tup [.agg [.osl 3 0 2 3, .fn (.func 144) [] []], .bool true]) [.cells 81 (Fact.c a1), .cells 3 [I b2], .cells 81 (Fact.c a1), .rowr 181 3 [[.ptr 2 55, I 0, I 31], [.ptr 2 56, I 1, I 1048576]], .cells 171 [.osl 3 0 2 3, .fn (.func 144) [] []]] Z Z ?_
   refine WO.le (Qs (i := 3) (b1 := 2) (b2 := 1) (l := [⟨false, 55, 0, 31⟩, ⟨false, 56, 1, 1048576⟩]) Z Z) ?_
   refine Ql (H := [.cells 81 (Fact.c a1), .cells 3 [I b2], .cells 81 (Fact.c a1), .ents 181 2 1 ([⟨false, 55, 0, 31⟩, ⟨false, 56, 1, 1048576⟩] : List Ent), .cells 171 [.osl 3 0 2 3, .fn (.func 144) [] []]]) Z ?_
   refine U 6 Z (Nx (Rg (U 5 Z (Bd h39 fun r72 hr72 h39 => ?_))))
   refine Qc [] (Qh call144 Z Z Z Z) (k_b _ _ hr72) ?_ (hg := (gT Z))
   rintro _ _ ⟨rfl, rfl⟩
   refine aV (.bool true) [_, _, _, _, _, _] Z Z ?_
   refine U 2 Z (Nx (CnF Z Z (TC.skip ?_)))
   obtain rfl := Oi h39
   refine Qt Z ?_
   refine Le.trans (QF (i := 5) (m := 1) Z) ?_
   exact Lr [0, 2, 5, 3, 1]
  ·obtain ⟨rfl, rfl⟩ := h41
   refine aV (.tup [.agg [.nils, .nilf], .bool false]) [.cells 81 (Fact.c a1), .cells 3 [I b2], .cells 81 (Fact.c a1), .cells 171 [.nils, .nilf]] Z Z ?_
   refine U 6 Z (Nx (Rg (U 8 Z (Nx (CnT Z Z (Rg (U 2 Z (Nx (TC.ret ?_)))))))))
   obtain rfl := Oi h39
   refine QC (Qi ?_)
   obtain rfl := Oi h
   refine ⟨[(2, _), (3, _)], _, _, ?_, Qm Z Z Z, Z, Z⟩
   refine Le.trans (Le.phantom (s := 2) (k := 1) (t := 3) (Nat.le_of_ble_eq_true Z) Z) ?_
   exact Lr [5]
 subst hb
 refine Qf (TC.le hle (Rg (U 1 Z (Nx (Rg (U 2 Z (Nx (TC.seq ?_))))))))
 obtain ⟨r73, hr73, h⟩ := bnd h
 refine Q2 3 0 [31, 32, 33] [true, false, false] [[], [], []] [[], [0]] [[(0, 1)], [(0, 0), (1, 1)], [(0, 0), (1, 1)]] [.osl 6 0 4 3, .ptr 2 0, .osl 3 0 sb38.length 3] [[.cells 81 (Fact.c a1), .cells 81 (Fact.c a1), .cells 171 [.osl 3 0 sb38.length 3, .any], .ents 181 1 4 sb38, .cells 3 [I b2], .cells 81 (Fact.c z_Fact)], [.cells 81 (Fact.c a1), .cells 81 (Fact.c a1), .cells 171 [.osl 3 0 sb38.length 3, .any], .ents 181 1 4 sb38, .cells 3 [I b2], .cells 81 (Fact.c z_Fact), .rowr 181 3 [[.ptr 1 3, I 1, I 13], [.ptr 1 0, I 0, I 31], [.ptr 1 1, I 1, I 1048576], [.ptr 1 2, I 0, I 1099511627776]]]] ([.cells 81 (Fact.c a1), .cells 81 (Fact.c a1), .cells 171 [.osl 3 0 sb38.length 3, .any], .ents 181 1 4 sb38, .cells 3 [I b2], .cells 81 (Fact.c z_Fact), .rowr 181 3 [[.ptr 1 3, I 1, I 13], [.ptr 1 0, I 0, I 31], [.ptr 1 1, I 1, I 1048576], [.ptr 1 2, I 0, I 1099511627776]]]) draws Z Z Z Z Z Z Z ?_ Z ?_
 ·refine OblM.cons ?_ (OblM.cons (Qa (v0 Z Z) (Qa (v0 Z Z) (Qe))) (OblM.cons (Qa (v0 Z Z) (Qa (v0 Z Z) (Qe))) (OblM.nil)))
  ·refine Qa ?_ (Qe)
   ·refine Om1 Z (sO 5 sN) ?_
    refine Qc [1] (OpC.fn call84 Z Z Z) (k_ae _ _ _ hr73) ?_
    rintro _ _ ⟨rfl, rfl⟩
    refine aV (.osl 6 0 4 3) [_, _, _, _, _, _, .rowr 181 3 [[.ptr 1 3, I 1, I 13], [.ptr 1 0, I 0, I 31], [.ptr 1 1, I 1, I 1048576], [.ptr 1 2, I 0, I 1099511627776]]] Z Z ?_
    exact Wp
 refine WO.le (Qs (i := 6) (b1 := 1) (b2 := 4) (l := [⟨false, 3, 1, 13⟩, ⟨false, 0, 0, 31⟩, ⟨false, 1, 1, 1048576⟩, ⟨false, 2, 0, 1099511627776⟩]) Z Z) ?_
 refine Ql (H := [.cells 81 (Fact.c a1), .cells 81 (Fact.c a1), .cells 171 [.osl 3 0 sb38.length 3, .any], .ents 181 1 4 sb38, .cells 3 [I b2], .cells 81 (Fact.c z_Fact), .ents 181 1 4 ([⟨false, 3, 1, 13⟩, ⟨false, 0, 0, 31⟩, ⟨false, 1, 1, 1048576⟩, ⟨false, 2, 0, 1099511627776⟩] : List Ent)]) Z ?_
 refine Bd h fun l74 hl74 h => ?_
 refine vH (QdS (i := 6) (j := 3) hl74 Yz runUnderlying169 Z) ?_
 refine aV (.osl 7 0 l74.length 3) [_, _, _, _, _, _, .dead, .ents 181 1 4 l74] Z Z ?_
 refine U 1 Z (Nx (Rg (U 2 Z (Nx (Rg (U 6 Z (Nx (Rg (U 1 Z (Bd h fun r75 hr75 h => ?_))))))))))
 refine Qc [5, 8, 0] (Qh call83 Z Z Z Z) (k_bo _ _ _ _ _ hr75) ?_
 rintro _ _ ⟨rfl, rfl⟩
 refine aV (.osl 9 0 r75.length 3) [_, _, _, _, _, .cells 81 (Fact.c ({ ({ z_Fact with Ruling := { z_Ruling with Kind := a1.Ruling.Kind : Ruling } : Fact }) with Kind := a1.Kind : Fact })), _, _, _, .ents 181 5 8 r75] Z Z ?_
 refine U 1 Z (Nx (TC.seq (Rg (U 3 Z (Nx (Bd h fun b99 h100 h => ?_))))))
 refine Qn (b := b99) (fun sb99 => [(1, .ptr 0 0), (2, .osl 1 0 sb99.1.length 1), (7, .ptr 2 0), (10, .ptr 3 0)]) (fun sb99 => [.cells 81 (Fact.c a1), .row 3 1 (List.map (encI .i64) sb99.1), .cells 81 (Fact.c sb99.2.1), .cells 3 [I sb99.2.2]]) ?_ (fun sb99 env H hbe hle => ?_)
 ·refine TC.block ?_
  refine TC.loop (E := fun s102 => [(1, .ptr 0 0), (2, .osl 1 0 s102.1.length 1), (7, .ptr 2 0), (10, .ptr 3 0), (11, .osl 4 0 r75.length 3), (42, .osl 5 0 l74.length 3), (43, I (l74.length : Int)), (44, I s102.2.2.2)]) (Hp := fun s102 => [.cells 81 (Fact.c a1), .row 3 1 (List.map (encI .i64) s102.1), .cells 81 (Fact.c s102.2.1), .cells 3 [I s102.2.2.1], .ents 181 2 3 r75, .ents 181 6 7 l74, .cells 81 (Fact.c a1), .cells 3 [I b2]]) h100 ?_ ?_
  ·refine Le.trans (Le.phantom (s := 2) (k := 1) (t := 3) (Nat.le_of_ble_eq_true Z) Z) ?_
   exact Lr [0, 10, 5, 8, 9, 7, 1, 4]
  intro s102 d103 h104 hb101
  refine Rg (U 1 Z (Nx (TC.seq (YK Z h104 (fun hc105 h104 => ?_) (fun hc105 h104 => ?_)))))
  ·refine YJ (Qv h104 ?_)
   obtain rfl := hb101 _ (Oi h104).symm
   exact QL (Qt Z (Lr [0, 1, 2, 3]))
  refine QP (TC.seq (TC.block (Rg (U 1 Z (Bd h104 fun e106 he106 h104 => ?_)))))
  refine vX (.ptr 5 (Int.toNat s102.2.2.2 * 3)) (QY he106 Z runUnderlying169 sizeOf181) ?_
  refine vX (.agg [entP 6 7 e106, I e106.lo, I e106.hi]) (Qy Z isAgg181 sizeOf181 Z (Pts.ents (f := 0) (Qao he106).2) Z Z) ?_
  refine U 3 Z (Nx (TC.seq (TC.seq ?_)))
  obtain ⟨x107, hx107, h104⟩ := bnd h104
  refine If h104 (fun hg108 h104 => ?_) (fun hg108 h104 => ?_)
  ·refine TC.draw0 16 [49, 50, 51, 52, 53, 54, 55, 56, 57, 58, 59, 60, 61, 62, 63, 64] [.ptr 8 0, entP 6 7 e106, entP 6 7 e106, I x107, .ptr 8 1, .ptr 8 1, I e106.lo, .bool (decide (x107 < e106.lo)), .bool (decide (x107 < e106.lo)), .tup [], .tup [], .tup [], .tup [], .tup [], .tup [], .tup []] draws Z Z Z ?_ ?_
   ·refine ov (ov (Oq.c ?_ (Oq.c ?_ (ov (ov (ov (Oq.c ?_ (ov (Oq.c ?_ (Oq.c ?_ (Oq.c ?_ (Oq.c ?_ (Oq.c ?_ (Oq.c ?_ (Oq.c ?_ (Oq.n))))))))))))))))
    ·refine Om Z (sD 1 sN) ?_
     exact S Z Wp
    ·refine Om Z (sD 2 sN) ?_
     refine vX (I x107) (QaR hx107 isAgg3) ?_
     exact Wp
    ·refine Om Z (sD 3 (sD 6 sN)) ?_
     exact S Z Wp
    ·refine Om Z (sO 13 (sD 8 sN)) ?_
     exact K (gF hg108) Z Wp
    ·refine Om Z (sD 8 (sD 9 sN)) ?_
     exact K (gF hg108) Z Wp
    ·refine Om Z (sD 8 (sD 10 sN)) ?_
     exact K (gF hg108) Z Wp
    ·refine Om Z (sD 8 (sD 11 sN)) ?_
     exact K (gF hg108) Z Wp
    ·refine Om Z (sO 13 (sD 8 sN)) ?_
     exact K (gF hg108) Z Wp
    ·refine Om Z (sD 8 (sD 13 sN)) ?_
     exact K (gF hg108) Z Wp
    ·refine Om Z (sD 8 (sD 14 sN)) ?_
     exact K (gF hg108) Z Wp
   refine KF hg108 Z (Pk hg108 Z (Nx (CnT Z Z (Rg (U 2 Z (Nx (RtR (Qj (Qi (QJ h104 ?_))))))))))
   obtain rfl := hb101 _ (Oi h104).symm
   refine Qj (QC (Qi ?_))
   obtain rfl := Oi h
   refine ⟨[(2, _), (3, _)], _, _, ?_, Qm Z Z Z, Z, Z⟩
   refine Le.trans (Le.phantom (s := 2) (k := 1) (t := 3) (Nat.le_of_ble_eq_true Z) Z) ?_
   exact Lr [9]
  ·obtain ⟨x109, hx109, h104⟩ := bnd h104
   refine TC.draw0 16 [49, 50, 51, 52, 53, 54, 55, 56, 57, 58, 59, 60, 61, 62, 63, 64] [.ptr 8 0, entP 6 7 e106, entP 6 7 e106, I x107, .ptr 8 1, .ptr 8 1, I e106.lo, .bool (decide (x107 < e106.lo)), .bool (decide (x107 < e106.lo)), .ptr 8 0, entP 6 7 e106, entP 6 7 e106, I x109, .ptr 8 1, .ptr 8 2, I e106.hi] draws Z Z Z ?_ ?_
   ·refine ov (ov (Oq.c ?_ (Oq.c ?_ (ov (ov (ov (Oq.c ?_ (ov (Oq.c ?_ (Oq.c ?_ (Oq.c ?_ (Oq.c ?_ (Oq.c ?_ (Oq.c ?_ (Oq.c ?_ (Oq.n))))))))))))))))
    ·refine Om Z (sD 1 sN) ?_
     exact S Z Wp
    ·refine Om Z (sD 2 sN) ?_
     refine vX (I x107) (QaR hx107 isAgg3) ?_
     exact Wp
    ·refine Om Z (sD 3 (sD 6 sN)) ?_
     exact S Z Wp
    ·refine Om Z (sO 13 (sD 8 sN)) ?_
     exact QM (gT hg108) Qc4 Z Wp
    ·refine Om Z (sD 8 (sD 9 sN)) ?_
     exact QR (gT hg108) isAgg175 Z Wp
    ·refine Om Z (sD 8 (sD 10 sN)) ?_
     exact Sg (gT hg108) Z Wp
    ·refine Om Z (sD 8 (sD 11 sN)) ?_
     refine vX (I x109) (QaR hx109 isAgg3) ?_ (gT hg108)
     exact Wp
    ·refine Om Z (sO 13 (sD 8 sN)) ?_
     exact QM (gT hg108) QeK Z Wp
    ·refine Om Z (sD 8 (sD 13 sN)) ?_
     exact QM (gT hg108) QhQ Z Wp
    ·refine Om Z (sD 8 (sD 14 sN)) ?_
     exact QR (gT hg108) isAgg3 Z Wp
   refine Sg (gT hg108) Z (Pk hg108 Z (Nx (Cn Z h104 (fun hc110 h104 => ?_) (fun hc110 h104 => ?_))))
   ·refine Rg (U 2 Z (Nx (RtR (Qj (Qi (QJ h104 ?_))))))
    obtain rfl := hb101 _ (Oi h104).symm
    refine Qj (QC (Qi ?_))
    obtain rfl := Oi h
    refine ⟨[(2, _), (3, _)], _, _, ?_, Qm Z Z Z, Z, Z⟩
    refine Le.trans (Le.phantom (s := 2) (k := 1) (t := 3) (Nat.le_of_ble_eq_true Z) Z) ?_
    exact Lr [9]
   refine QP (TC.seq ?_)
   obtain ⟨e111, he111, h104⟩ := bnd h104
   obtain ⟨x112, hx112, h104⟩ := bnd h104
   refine TC.draw0 9 [67, 68, 69, 70, 71, 72, 73, 74, 75] [.osl 4 0 r75.length 3, I s102.2.2.2, .ptr 4 (Int.toNat s102.2.2.2 * 3), .ptr 4 (Int.toNat s102.2.2.2 * 3), entP 2 3 e111, .ptr 8 0, entP 6 7 e106, entP 6 7 e106, I x112] draws Z Z Z ?_ ?_
   ·refine ov (ov (Oq.c ?_ (Oq.c ?_ (Oq.c ?_ (ov (ov (Oq.c ?_ (Oq.c ?_ (Oq.n)))))))))
    ·refine Om Z (sD 0 (sD 1 sN)) ?_
     refine vX (.ptr 4 (Int.toNat s102.2.2.2 * 3)) (QY he111 Z runUnderlying169 sizeOf181) ?_
     exact Wp
    ·refine Om Z (sD 2 sN) ?_
     exact Fp Qc4 Z Wp
    ·refine Om Z (sD 3 sN) ?_
     refine vX (entP 2 3 e111) (OpV.load Z isAgg175 Z (Pts.ents (f := 0) (Qao he111).2)) ?_
     exact Wp
    ·refine Om Z (sD 6 sN) ?_
     exact S Z Wp
    ·refine Om Z (sD 7 sN) ?_
     refine vX (I x112) (QaR hx112 isAgg3) ?_
     exact Wp
   refine S Z (Bd h104 fun q113 hq113 h104 => ?_)
   refine vU (QfO (c := Fact.c) (f := s102.2.1) (f' := q113.1) (s' := q113.2) hq113 Qkr sizeOf3) ?_
   refine Ql (H := [_, _, .cells 81 (Fact.c q113.1), .cells 3 [I q113.2], _, _, _, _, _]) Z ?_
   refine Nx (TC.region (U 3 Z (S Z (Bd h104 fun x114 hx114 h104 => ?_))))
   refine vX (I x114) (QaR hx114 isAgg3) ?_
   refine vH (OpH.lit (xs := [.tmp 81]) (es := List.map (encI .i64) [x114]) QS Z Z Z Z Z ⟨Z, trivial⟩ Z Z) ?_
   refine aV (.osl 9 0 ([x114].length) 1) [_, _, _, _, _, _, _, _, _, .row 3 1 (List.map (encI .i64) [x114])] Z Z ?_
   refine Bd h104 fun l115 hl115 h104 => ?_
   refine vH (Ya (e := (encI .i64)) hl115 QS runUnderlying48 (Qaz (i := 9))) ?_
   refine aV (.osl 10 0 l115.length 1) [_, .dead, _, _, _, _, _, _, _, _, .row 3 1 (List.map (encI .i64) l115)] Z Z ?_
   exact U 1 Z (WO.nil (QB (Qf (TC.region (U 2 Z (WO.nil (Qp h104 (Lr [0, 10, 2, 3, 4, 5, 6, 7]))))))))
 subst hbe
 refine Qf (TC.le hle (TC.seq (Rg (U 3 Z (Nx (Bd h fun b117 h118 h => ?_))))))
 refine TC.cut ([(1, .ptr 0 0), (2, .osl 1 0 sb99.1.length 1), (7, .ptr 2 0), (10, .ptr 3 0)]) ([.cells 81 (Fact.c a1), .row 3 1 (List.map (encI .i64) sb99.1), .cells 81 (Fact.c b117), .cells 3 [I sb99.2.2]]) ?_ (fun env H hle => ?_)
 ·refine Cn Z h118 (fun hc119 h118 => ?_) (fun hc119 h118 => ?_)
  ·refine TC.region (U 3 Z (WO.nil ?_))
   obtain rfl := Oi h118
   exact cutN (Lr [0, 1, 2, 3])
  refine TC.skip ?_
  obtain rfl := Oi h118
  exact cutN (Lr [0, 1, 2, 3])
 refine Qf (TC.le hle (Rg (U 5 Z (Nx (TC.seq ?_)))))
 refine TC.draw0 5 [94, 95, 96, 97, 2] [.osl 1 0 sb99.1.length 1, .agg (Fact.c ({ b117 with Appeal := { Case := b117.Appeal.Case, Suspends := (sb99.2.2 == 1) : Appeal } : Fact })), .agg (Fact.c a1), .bool (({ b117 with Appeal := { Case := b117.Appeal.Case, Suspends := (sb99.2.2 == 1) : Appeal } : Fact }) == a1), .osl 1 0 sb99.1.length 1] draws Z Z Z ?_ ?_
 ·refine Oq.c ?_ (ov (ov (Oq.c ?_ (ov (Oq.n)))))
  ·refine Om Z (sP 4 sN) ?_
   exact S Z Wp
  ·refine Om Z (sD 1 (sD 2 sN)) ?_
   refine vX (.bool (({ b117 with Appeal := { Case := b117.Appeal.Case, Suspends := (sb99.2.2 == 1) : Appeal } : Fact }) == a1)) (QdR (p := { b117 with Appeal := { Case := b117.Appeal.Case, Suspends := (sb99.2.2 == 1) : Appeal } : Fact }) (q := a1) QkP Z Z) ?_
   exact Wp
 refine U 1 Z (Nx (TC.ret ?_))
 obtain rfl := Oi h
 refine ⟨[(2, _), (3, _)], _, _, ?_, Qm Z Z Z, Z, Z⟩
 exact Lr [1]
def F_aj (n : Nat) (a1 : Fact) : Option Int :=
  (F_ad n a1).bind fun r1 => (bif (!r1.2) then some 120 else some 0)
theorem k_aj (n : Nat) (a1 : Fact) (r : Int) (h : F_aj n a1 = some r) :
    C prog 26 [.agg (Fact.c a1)] [] (fun a H => a = I r ∧ H = []) := by
 refine Qd func26 Z Z Z ?_
 refine Rg (U 2 Z (Nx (TC.seq (Rg (U 1 Z (Bd h fun r1 hr1 h => ?_))))))
 refine Qc [] (OpC.fn call49 Z Z Z) (k_ad _ _ _ hr1) ?_
 rintro _ _ ⟨rfl, rfl⟩
 refine aV (.tup [.osl 1 0 r1.1.length 1, .bool r1.2]) [_, .row 3 1 (List.map (encI .i64) r1.1)] Z Z ?_
 refine U 5 Z (Nx (Rg (U 2 Z (Nx (Cn Z h (fun hc2 h => ?_) (fun hc2 h => ?_))))))
 ·refine Rg (U 1 Z (Nx (RtR ?_)))
  obtain rfl := Oi h
  refine ⟨[(2, _)], _, _, ?_, ResOK.one Z Z, Z, Z⟩
  exact Lr []
 refine QP (Rg (U 1 Z (Nx (TC.ret ?_))))
 obtain rfl := Oi h
 refine ⟨[(2, _)], _, _, ?_, ResOK.one Z Z, Z, Z⟩
 exact Lr []
def F_ao (n : Nat) (a1 : Int) : Option Unit :=
  some ()
theorem k_ao (n : Nat) (a1 : Int) (r : Unit) (h : F_ao n a1 = some r) :
    C prog 67 [I a1] [] (fun a H => a = .bool (a1 != a1) ∧ H = []) := by
 refine Qd func67 Z Z Z ?_
 refine Rg (U 1 Z (Nx (Rg (U 4 Z (Nx (TC.ret ?_))))))
 obtain rfl := Oi h
 refine ⟨[(2, _)], _, _, ?_, ResOK.one Z Z, Z, Z⟩
 exact Lr []
def F_n (n : Nat) (a1 : Int) (a2 : Int) : Option Int :=
  (F_ao n a1).bind fun r1 => (F_ao n a2).bind fun r2 => (bif (a1 != a1) then (bif (a2 != a2) then some 0 else some (-1)) else (bif (a2 != a2) then some 1 else (bif decide (a1 < a2) then some (-1) else (bif decide (a2 < a1) then some 1 else some 0))))
theorem k_n (n : Nat) (a1 : Int) (a2 : Int) (r : Int) (h : F_n n a1 a2 = some r) :
    C prog 41 [I a1, I a2] [] (fun a H => a = I r ∧ H = []) := by
 refine Qd func41 Z Z Z ?_
 refine Rg (U 1 Z (Nx (Rg (U 1 Z (Bd h fun r1 hr1 h => ?_)))))
 refine Qc [] (OpC.fn call67 Z Z Z) (k_ao _ _ _ hr1) ?_
 rintro _ _ ⟨rfl, rfl⟩
 refine aV (.bool (a1 != a1)) [] Z Z ?_
 refine U 1 Z (Nx (Rg (U 1 Z (Bd h fun r2 hr2 h => ?_))))
 refine Qc [] (OpC.fn call67 Z Z Z) (k_ao _ _ _ hr2) ?_
 rintro _ _ ⟨rfl, rfl⟩
 refine aV (.bool (a2 != a2)) [] Z Z ?_
 refine U 1 Z (Nx (TC.seq (Rg (U 1 Z (Nx (Cn Z h (fun hc3 h => ?_) (fun hc3 h => ?_)))))))
 ·refine TC.seq (Rg (U 1 Z (Nx (Cn Z h (fun hc4 h => ?_) (fun hc4 h => ?_)))))
  ·refine Rg (U 1 Z (Nx (RtR (Qi ?_))))
   obtain rfl := Oi h
   refine ⟨[(4, _)], _, _, ?_, ResOK.one Z Z, Z, Z⟩
   exact Lr []
  refine QP (Rg (U 1 Z (Nx (RtR ?_))))
  obtain rfl := Oi h
  refine ⟨[(4, _)], _, _, ?_, ResOK.one Z Z, Z, Z⟩
  exact Lr []
 refine QP (TC.seq (Rg (U 1 Z (Nx (Cn Z h (fun hc5 h => ?_) (fun hc5 h => ?_))))))
 ·refine Rg (U 1 Z (Nx (RtR ?_)))
  obtain rfl := Oi h
  refine ⟨[(4, _)], _, _, ?_, ResOK.one Z Z, Z, Z⟩
  exact Lr []
 refine QP (TC.seq (Rg (U 3 Z (Nx (Cn Z h (fun hc6 h => ?_) (fun hc6 h => ?_))))))
 ·refine Rg (U 1 Z (Nx (RtR ?_)))
  obtain rfl := Oi h
  refine ⟨[(4, _)], _, _, ?_, ResOK.one Z Z, Z, Z⟩
  exact Lr []
 refine QP (TC.seq (Rg (U 3 Z (Nx (Cn Z h (fun hc7 h => ?_) (fun hc7 h => ?_))))))
 ·refine Rg (U 1 Z (Nx (RtR ?_)))
  obtain rfl := Oi h
  refine ⟨[(4, _)], _, _, ?_, ResOK.one Z Z, Z, Z⟩
  exact Lr []
 refine QP (Rg (U 1 Z (Nx (TC.ret ?_))))
 obtain rfl := Oi h
 refine ⟨[(4, _)], _, _, ?_, ResOK.one Z Z, Z, Z⟩
 exact Lr []
def F_ak (n : Nat) (a1 : List Int) (s11 : Int) : Option (Ctl Int (Ctl Unit Int)) :=
  (bif decide (s11 < (a1.length : Int)) then (idx a1 s11).bind fun x15 => (bif (x15 != 0) then some (.done (.done x15)) else some (.cont (IntKind.i64.wrap (s11 + 1)))) else some (.done (.cont ())))
def F_t (n : Nat) (a1 : List Int) : Option Int :=
  (iter (F_ak n a1) n 0 : Option (Ctl Unit Int)).bind fun b8 => match b8 with | .cont sb8 => (some 0) | .done sb8 => some sb8
theorem k_t (n : Nat) (a1 : List Int) (r : Int) (h : F_t n a1 = some r) :
    C prog 40 [.rsl 1 (List.map (encI .i64) a1)] [] (fun a H => a = I r ∧ H = []) := by
 refine Qd func40 Z Z Z ?_
 refine Rg (U 1 Z (Nx (Rg (U 1 Z (Nx (TC.seq (Rg (U 1 Z (YI runUnderlying48 Z (U 1 Z (Nx (Bd h fun b8 h9 h => ?_))))))))))))
 refine Qn (b := b8) (fun sb8 => [(3, I 0)]) (fun sb8 => []) ?_ (fun sb8 env H hbe hle => ?_)
 ·refine TC.block ?_
  refine TC.loop (E := fun s11 => [(3, I 0), (6, .rsl 1 (List.map (encI .i64) a1)), (7, I (a1.length : Int)), (8, I s11)]) (Hp := fun s11 => []) h9 ?_ ?_
  ·exact Lr []
  intro s11 d12 h13 hb10
  refine Rg (U 1 Z (Nx (TC.seq (YK Z h13 (fun hc14 h13 => ?_) (fun hc14 h13 => ?_)))))
  ·refine YJ (Qv h13 ?_)
   obtain rfl := hb10 _ (Oi h13).symm
   exact QL (Qt Z (Lr []))
  refine QP (TC.seq (TC.block (Rg (Bd h13 fun x15 hx15 h13 => Ix hx15 runUnderlying48 sizeOf3 Z (U 2 Z (Nx (Rg (U 3 Z (Nx (Cn Z h13 (fun hc16 h13 => ?_) (fun hc16 h13 => ?_)))))))))))
  ·refine Rg (U 2 Z (Nx (TC.ret (Qj (Qi (QJ h13 ?_))))))
   obtain rfl := hb10 _ (Oi h13).symm
   refine Qj (QC (Qi ?_))
   obtain rfl := Oi h
   refine ⟨[(2, _)], _, _, ?_, ResOK.one Z Z, Z, Z⟩
   exact Lr []
  exact TC.skip (QB (Qf (TC.region (U 2 Z (WO.nil (Qp h13 (Lr [])))))))
 subst hbe
 refine Qf (TC.le hle (Rg (U 2 Z (Nx (TC.ret ?_)))))
 obtain rfl := Oi h
 refine ⟨[(2, _)], _, _, ?_, ResOK.one Z Z, Z, Z⟩
 exact Lr []
def F_fy (n : Nat) (a1 : Value) (rec137 : Value → Option (Int × Bool)) (s47 : Int × Int) : Option (Ctl (Int × Int) (Ctl Int (Int × Bool))) :=
  (bif decide (s47.2 < (a1.L.length : Int)) then (idx a1.L s47.2).bind fun x51 => (rec137 x51).bind fun r52 => (bif (!r52.2) then some (.done (.done (0, false))) else some (.cont ((if s47.1 < r52.1 then r52.1 else s47.1), IntKind.i64.wrap (s47.2 + 1)))) else some (.done (.cont s47.1)))
def B_g (rec137 : Value → Option (Int × Bool)) (n : Nat) (a1 : Value) : Option (Int × Bool) :=
  ((bif (a1.S == []) then (bif (a1.N == 0) then (arr 4 (List.replicate 4 false)).bind fun l16 => (arr 4 ([false, ((a1.L.length : Int) == 0), ((a1.L.length : Int) == 0), (a1.S == [])] : List Bool)).bind fun l17 => some l17 else (arr 4 (List.replicate 4 false)).bind fun l18 => (arr 4 ([false, ((a1.L.length : Int) == 0), false, false] : List Bool)).bind fun l19 => some l19) else (bif (a1.N == 0) then (arr 4 (List.replicate 4 false)).bind fun l21 => (arr 4 ([false, false, ((a1.L.length : Int) == 0), (a1.S == [])] : List Bool)).bind fun l22 => some l22 else (arr 4 (List.replicate 4 false)).bind fun l23 => (arr 4 ([false, false, false, false] : List Bool)).bind fun l24 => some l24)) : Option (List Bool)).bind fun b12 => ((bif decide (a1.Kind < 1) then some true else (bif decide (3 < a1.Kind) then some true else (idxA 4 b12 a1.Kind).bind fun x32 => some (!x32))) : Option Bool).bind fun b28 => (bif b28 then some (0, false) else (bif decide (a1.Kind < 3) then some (0, true) else (iter (F_fy n a1 rec137) n (0, 0) : Option (Ctl Int (Int × Bool))).bind fun b44 => match b44 with | .cont sb44 => (some (IntKind.i64.wrap (sb44 + 1), true)) | .done sb44 => some sb44))
theorem Qb7 (rec137 : Value → Option (Int × Bool)) (hrec137 : ∀ (a1 : Value) (r : Int × Bool), rec137 a1 = some r → C prog 200 [.agg (Value.c a1)] [] (fun a H => a = .tup [I r.1, .bool r.2] ∧ H = [])) (n : Nat) (a1 : Value) (r : Int × Bool) (h : B_g rec137 n a1 = some r) :
    C prog 200 [.agg (Value.c a1)] [] (fun a H => a = .tup [I r.1, .bool r.2] ∧ H = []) := by
 refine Qd func200 Z Z Z ?_
 refine Rg (U 3 Z (Nx (TC.seq (Bd h fun b12 h13 h => ?_))))
 refine TC.cut ([(1, .ptr 0 0), (2, I 0), (4, .ptr 1 0)]) ([.cells 184 (Value.c a1), .row 314 1 (List.map encB b12)]) ?_ (fun env H hle => ?_)
 ·refine TC.region (U 2 Z ?_)
  refine vX (.bool (a1.S == [])) (Qbn Z Z Z ) ?_
  refine U 1 Z (If h13 (fun hg14 h13 => ?_) (fun hg14 h13 => ?_))
  ·refine QM (gT hg14) QbN Z (QR (gT hg14) isAgg182 Z ?_)
   refine vX (I (a1.L.length : Int)) (Qo (e := Value.enc) (l := a1.L) runUnderlying182) ?_ (gT hg14)
   refine Sg (gT hg14) Z (Pk hg14 Z (U 4 Z (If h13 (fun hg15 h13 => ?_) (fun hg15 h13 => ?_))))
   ·refine QM (gT hg15) QbN Z (QR (gT hg15) isAgg182 Z ?_)
    refine vX (I (a1.L.length : Int)) (Qo (e := Value.enc) (l := a1.L) runUnderlying182) ?_ (gT hg15)
    refine Sg (gT hg15) Z (Pk hg15 Z (U 4 Z (QM (gT hg15) Qc2 Z (QR (gT hg15) isAgg9 Z ?_))))
    refine vX (.bool (a1.S == [])) (Qbn Z Z Z ) ?_ (gT hg15)
    refine Pk hg15 Z ?_
    refine vV (x := (.agg (List.flatten (List.map encB ([false, ((a1.L.length : Int) == 0), ((a1.L.length : Int) == 0), (a1.S == [])] : List Bool))))) (YQ (n := 4) (k := 1) (zs := [.bool false, .bool false, .bool false, .bool false]) zeroValue314 (ZR.agg (zc ZR.bool (zc ZR.bool (zc ZR.bool (zc ZR.bool ZL.nil))))) runUnderlying314 sizeOf4 Z) ?_
    refine vH (Ys (n := 4) (k := 1) (e := encB) (z := false) zeroValue314 (by kernel_rfl) (by kernel_rfl) (by kernel_rfl) Z) ?_
    refine aV (.ptr 1 0) [_, .row 314 1 (List.map encB (List.replicate 4 false))] Z Z ?_
    refine Bd h13 fun l16 hl16 h13 => Bd h13 fun l17 hl17 h13 => ?_
    obtain ⟨hll16, rfl⟩ := YB hl16
    refine vU (Yr (e := encB) (l := (List.replicate 4 false)) (l' := l17) hll16 (QaZ hl17) (fun _ => rfl) Z sizeOf314 (fun _ => rfl) (fun _ => rfl) (congrArg (fun l => List.flatten (List.map encB l)) (YB hl17).2.symm)) ?_
    refine Ql (H := [_, .row 314 1 (List.map encB l17)]) Z ?_
    refine WO.nil ?_
    obtain rfl := Oi h13
    exact cutN (Lr [0, 1])
   ·refine KF hg15 Z (KF hg15 Z (KF hg15 Z (KF hg15 Z (Pk hg15 Z (U 4 Z (KF hg15 Z (KF hg15 Z (KF hg15 Z (Pk hg15 Z ?_)))))))))
    refine vV (x := (.agg (List.flatten (List.map encB ([false, ((a1.L.length : Int) == 0), false, false] : List Bool))))) (YQ (n := 4) (k := 1) (zs := [.bool false, .bool false, .bool false, .bool false]) zeroValue314 (ZR.agg (zc ZR.bool (zc ZR.bool (zc ZR.bool (zc ZR.bool ZL.nil))))) runUnderlying314 sizeOf4 Z) ?_
    refine vH (Ys (n := 4) (k := 1) (e := encB) (z := false) zeroValue314 (by kernel_rfl) (by kernel_rfl) (by kernel_rfl) Z) ?_
    refine aV (.ptr 1 0) [_, .row 314 1 (List.map encB (List.replicate 4 false))] Z Z ?_
    refine Bd h13 fun l18 hl18 h13 => Bd h13 fun l19 hl19 h13 => ?_
    obtain ⟨hll18, rfl⟩ := YB hl18
    refine vU (Yr (e := encB) (l := (List.replicate 4 false)) (l' := l19) hll18 (QaZ hl19) (fun _ => rfl) Z sizeOf314 (fun _ => rfl) (fun _ => rfl) (congrArg (fun l => List.flatten (List.map encB l)) (YB hl19).2.symm)) ?_
    refine Ql (H := [_, .row 314 1 (List.map encB l19)]) Z ?_
    refine WO.nil ?_
    obtain rfl := Oi h13
    exact cutN (Lr [0, 1])
  ·refine KF hg14 Z (KF hg14 Z (KF hg14 Z (KF hg14 Z (Pk hg14 Z (U 4 Z (If h13 (fun hg20 h13 => ?_) (fun hg20 h13 => ?_)))))))
   ·refine QM (gT hg20) QbN Z (QR (gT hg20) isAgg182 Z ?_)
    refine vX (I (a1.L.length : Int)) (Qo (e := Value.enc) (l := a1.L) runUnderlying182) ?_ (gT hg20)
    refine Sg (gT hg20) Z (Pk hg20 Z (U 4 Z (QM (gT hg20) Qc2 Z (QR (gT hg20) isAgg9 Z ?_))))
    refine vX (.bool (a1.S == [])) (Qbn Z Z Z ) ?_ (gT hg20)
    refine Pk hg20 Z ?_
    refine vV (x := (.agg (List.flatten (List.map encB ([false, false, ((a1.L.length : Int) == 0), (a1.S == [])] : List Bool))))) (YQ (n := 4) (k := 1) (zs := [.bool false, .bool false, .bool false, .bool false]) zeroValue314 (ZR.agg (zc ZR.bool (zc ZR.bool (zc ZR.bool (zc ZR.bool ZL.nil))))) runUnderlying314 sizeOf4 Z) ?_
    refine vH (Ys (n := 4) (k := 1) (e := encB) (z := false) zeroValue314 (by kernel_rfl) (by kernel_rfl) (by kernel_rfl) Z) ?_
    refine aV (.ptr 1 0) [_, .row 314 1 (List.map encB (List.replicate 4 false))] Z Z ?_
    refine Bd h13 fun l21 hl21 h13 => Bd h13 fun l22 hl22 h13 => ?_
    obtain ⟨hll21, rfl⟩ := YB hl21
    refine vU (Yr (e := encB) (l := (List.replicate 4 false)) (l' := l22) hll21 (QaZ hl22) (fun _ => rfl) Z sizeOf314 (fun _ => rfl) (fun _ => rfl) (congrArg (fun l => List.flatten (List.map encB l)) (YB hl22).2.symm)) ?_
    refine Ql (H := [_, .row 314 1 (List.map encB l22)]) Z ?_
    refine WO.nil ?_
    obtain rfl := Oi h13
    exact cutN (Lr [0, 1])
   ·refine KF hg20 Z (KF hg20 Z (KF hg20 Z (KF hg20 Z (Pk hg20 Z (U 4 Z (KF hg20 Z (KF hg20 Z (KF hg20 Z (Pk hg20 Z ?_)))))))))
    refine vX (.agg (List.flatten (List.map encB ([false, false, false, false] : List Bool)))) (YQ (n := 4) (k := 1) (zs := [.bool false, .bool false, .bool false, .bool false]) zeroValue314 (ZR.agg (zc ZR.bool (zc ZR.bool (zc ZR.bool (zc ZR.bool ZL.nil))))) runUnderlying314 sizeOf4 Z) ?_
    refine vH (Ys (n := 4) (k := 1) (e := encB) (z := false) zeroValue314 (by kernel_rfl) (by kernel_rfl) (by kernel_rfl) Z) ?_
    refine aV (.ptr 1 0) [_, .row 314 1 (List.map encB (List.replicate 4 false))] Z Z ?_
    refine Bd h13 fun l23 hl23 h13 => Bd h13 fun l24 hl24 h13 => ?_
    obtain ⟨hll23, rfl⟩ := YB hl23
    refine vU (Yr (e := encB) (l := (List.replicate 4 false)) (l' := l24) hll23 (QaZ hl24) (fun _ => rfl) Z sizeOf314 (fun _ => rfl) (fun _ => rfl) (congrArg (fun l => List.flatten (List.map encB l)) (YB hl24).2.symm)) ?_
    refine Ql (H := [_, .row 314 1 (List.map encB l24)]) Z ?_
    refine WO.nil ?_
    obtain rfl := Oi h13
    exact cutN (Lr [0, 1])
 refine Qf (TC.le hle (TC.seq (TC.seq (Bd h fun b28 h29 h => ?_))))
 refine TC.cut ([(1, .ptr 0 0), (2, I 0), (50, .bool b28)]) ([.cells 184 (Value.c a1)]) ?_ (fun env H hle => ?_)
 ·refine TC.region (U 4 Z (If h29 (fun hg30 h29 => ?_) (fun hg30 h29 => ?_)))
  ·refine KF hg30 Z (KF hg30 Z (KF hg30 Z (Pk hg30 Z (U 7 Z (WO.nil ?_)))))
   obtain rfl := Oi h29
   exact cutN (Lr [0])
  ·refine QM (gT hg30) Qc3 Z (QR (gT hg30) isAgg3 Z (Sg (gT hg30) Z (Pk hg30 Z (U 1 Z (If h29 (fun hg31 h29 => ?_) (fun hg31 h29 => ?_))))))
   ·refine KF hg31 Z (KF hg31 Z (KF hg31 Z (KF hg31 Z (KF hg31 Z (Pk hg31 Z (WO.nil ?_))))))
    obtain rfl := Oi h29
    exact cutN (Lr [0])
   ·refine QM (gT hg31) Qc3 Z (QR (gT hg31) isAgg3 Z (Bd h29 fun x32 hx32 h29 => ?_))
    refine vX (.ptr 1 (Int.toNat a1.Kind * 1)) (Qae (n := 4) (k := 1) (l := b12) hx32 runUnderlying314 sizeOf4 Z) ?_ (gT hg31)
    refine vX (.bool x32) (OpV.load Z isAgg4 Z (QH (QaD hx32).2)) ?_ (gT hg31)
    refine Sg (gT hg31) Z (Pk hg31 Z (WO.nil ?_))
    obtain rfl := Oi h29
    exact cutN (Lr [0])
 refine Qf (TC.le hle (Cn Z h (fun hc33 h => ?_) (fun hc33 h => ?_)))
 ·refine Rg (U 2 Z (Nx (RtR ?_)))
  obtain rfl := Oi h
  refine ⟨[(2, _), (3, _)], _, _, ?_, Qm Z Z Z, Z, Z⟩
  exact Lr []
 refine QP (TC.seq (Rg (U 3 Z (Nx (Cn Z h (fun hc34 h => ?_) (fun hc34 h => ?_))))))
 ·refine Rg (U 2 Z (Nx (RtR ?_)))
  obtain rfl := Oi h
  refine ⟨[(2, _), (3, _)], _, _, ?_, Qm Z Z Z, Z, Z⟩
  exact Lr []
 refine QP (TC.seq (Rg (U 2 Z (YI runUnderlying182 Z (U 1 Z (Nx (Bd h fun b44 h45 h => ?_)))))))
 refine Qn (b := b44) (fun sb44 => [(2, I sb44)]) (fun sb44 => []) ?_ (fun sb44 env H hbe hle => ?_)
 ·refine TC.block ?_
  refine TC.loop (E := fun s47 => [(2, I s47.1), (55, .rsl 4 (List.map Value.enc a1.L)), (56, I (a1.L.length : Int)), (57, I s47.2)]) (Hp := fun s47 => []) h45 ?_ ?_
  ·exact Lr []
  intro s47 d48 h49 hb46
  refine Rg (U 1 Z (Nx (TC.seq (YK Z h49 (fun hc50 h49 => ?_) (fun hc50 h49 => ?_)))))
  ·refine YJ (Qv h49 ?_)
   obtain rfl := hb46 _ (Oi h49).symm
   exact QL (Qt Z (Lr []))
  refine QP (TC.seq (TC.block (Rg (Bd h49 fun x51 hx51 h49 => ?_))))
  refine vX (.rp [I x51.Kind, I x51.N, .str x51.S, .rsl 4 (List.map Value.enc x51.L)]) (Q8 (e := Value.enc) hx51 (Qa1 x51) runUnderlying182 sizeOf184) ?_
  refine U 3 Z (Nx (Rg (U 1 Z (Bd h49 fun r52 hr52 h49 => ?_))))
  refine Qc [] (OpC.fn call200 Z Z Z) (hrec137 _ _ hr52) ?_
  rintro _ _ ⟨rfl, rfl⟩
  refine aV (.tup [I r52.1, .bool r52.2]) [_] Z Z ?_
  refine U 5 Z (Nx (TC.seq (Rg (U 2 Z (Nx (Cn Z h49 (fun hc53 h49 => ?_) (fun hc53 h49 => ?_)))))))
  ·refine Rg (U 2 Z (Nx (RtR (Qj (Qi (QJ h49 ?_))))))
   obtain rfl := hb46 _ (Oi h49).symm
   refine Qj (QC (Qi ?_))
   obtain rfl := Oi h
   refine ⟨[(2, _), (3, _)], _, _, ?_, Qm Z Z Z, Z, Z⟩
   exact Lr []
  refine QP (TC.region (U 2 Z ?_))
  refine vX (I (if s47.1 < r52.1 then r52.1 else s47.1)) (OpV.max Z Z Z Z) ?_
  exact U 1 Z (WO.nil (QB (Qf (TC.region (U 2 Z (WO.nil (Qp h49 (Lr []))))))))
 subst hbe
 refine Qf (TC.le hle (Rg (U 4 Z (Nx (TC.ret ?_)))))
 obtain rfl := Oi h
 refine ⟨[(2, _), (3, _)], _, _, ?_, Qm Z Z Z, Z, Z⟩
 exact Lr []
def F_g : Nat → Value → Option (Int × Bool)
  | 0 => fun _ => none
  | n + 1 => B_g (F_g n) n
theorem k_g (n : Nat) : ∀ (a1 : Value) (r : Int × Bool), F_g n a1 = some r → C prog 200 [.agg (Value.c a1)] [] (fun a H => a = .tup [I r.1, .bool r.2] ∧ H = []) := by
  induction n with
  | zero => intro a1 r h; cases h
  | succ n ih => intro a1 r h; exact Qb7 _ ih n a1 r h
def F_ed (n : Nat) (a1 : Value) : Option Int :=
  (F_g n a1).bind fun r1 => (bif (!r1.2) then some 1 else (bif decide (16 < r1.1) then some 2 else some 0))
theorem k_ed (n : Nat) (a1 : Value) (r : Int) (h : F_ed n a1 = some r) :
    C prog 149 [.agg (Value.c a1)] [] (fun a H => a = I r ∧ H = []) := by
 refine Qd func149 Z Z Z ?_
 refine Rg (U 2 Z (Nx (Rg (U 1 Z (Bd h fun r1 hr1 h => ?_)))))
 refine Qc [] (OpC.fn call200 Z Z Z) (k_g _ _ _ hr1) ?_
 rintro _ _ ⟨rfl, rfl⟩
 refine aV (.tup [I r1.1, .bool r1.2]) [_] Z Z ?_
 refine U 5 Z (Nx (TC.seq (TC.block (Rg (U 3 Z (Nx (Cn Z h (fun hc2 h => ?_) (fun hc2 h => ?_))))))))
 ·refine Rg (U 1 Z (Nx (TC.ret (Qj (Qi ?_)))))
  obtain rfl := Oi h
  refine ⟨[(2, _)], _, _, ?_, ResOK.one Z Z, Z, Z⟩
  exact Lr []
 refine Rg (U 3 Z (Nx (Cn Z h (fun hc3 h => ?_) (fun hc3 h => ?_))))
 ·refine Rg (U 1 Z (Nx (TC.ret (Qj (Qi ?_)))))
  obtain rfl := Oi h
  refine ⟨[(2, _)], _, _, ?_, ResOK.one Z Z, Z, Z⟩
  exact Lr []
 refine TC.skip (QB (Qf (Rg (U 1 Z (Nx (TC.ret ?_))))))
 obtain rfl := Oi h
 refine ⟨[(2, _)], _, _, ?_, ResOK.one Z Z, Z, Z⟩
 exact Lr []
def F_bn (n : Nat) : Option Unit :=
  some ()
theorem k_bn (n : Nat) (r : Unit) (h : F_bn n = some r) :
    C prog 150 [] [] (fun a H => a = .ptr 0 0 ∧ H = [.cells 284 [.nilf, .fn (.func 201) [] [], .fn (.func 204) [] [], .fn (.func 205) [] [.ptr 1 0]], .cells 249 [.ptr 0 0]]) := by
 refine Qd func150 Z Z Z ?_
 refine Rg (S Z (Nx (Rg ?_)))
 refine vX (.agg [.nilf, .nilf, .nilf, .nilf]) (YQ (n := 4) (k := 1) (parts := []) (zs := [.nilf, .nilf, .nilf, .nilf]) zeroValue284 (ZR.agg (zc ZR.nilf (zc ZR.nilf (zc ZR.nilf (zc ZR.nilf ZL.nil))))) runUnderlying284 sizeOf248 Z) ?_
 refine U 3 Z (Nx (Rg (U 2 Z ?_)))
 refine vX (.ptr 0 1) (Yg (i := 1) (n := 4) (k := 1) (j := 1) (by decide) Z runUnderlying284 sizeOf248 Z) ?_
 refine U 2 Z (Nx (Rg (U 2 Z ?_)))
 refine vX (.ptr 0 2) (Yg (i := 2) (n := 4) (k := 1) (j := 2) (by decide) Z runUnderlying284 sizeOf248 Z) ?_
 refine U 2 Z (Nx (Rg (U 3 Z ?_)))
 refine vX (.ptr 0 3) (Yg (i := 3) (n := 4) (k := 1) (j := 3) (by decide) Z runUnderlying284 sizeOf248 Z) ?_
 refine U 2 Z (Nx (Rg (U 2 Z (Nx (TC.ret ?_)))))
 obtain rfl := Oi h
 refine ⟨[(0, _)], _, _, ?_, ResOK.one Z Z, Z, Z⟩
 exact Lr [0, 1]
def F_aq (n : Nat) (a1 : Int) : Option Unit :=
  some ()
theorem k_aq (n : Nat) (a1 : Int) (r : Unit) (h : F_aq n a1 = some r) :
    C prog 203 [I a1] [] (fun a H => a = .int .u64 (xorI .u64 (shlI .u64 (IntKind.u64.wrap a1) 1) (IntKind.u64.wrap (shrI .i64 a1 63))) ∧ H = []) := by
 refine Qd func203 Z Z Z ?_
 refine Rg (U 1 Z (Nx (Rg (U 1 Z ?_))))
 refine vX (.int .u64 (IntKind.u64.wrap a1)) (Qal Z runUnderlying3 runUnderlying281 Z) ?_
 refine vX (.int .u64 (shlI .u64 (IntKind.u64.wrap a1) 1)) (OpV.shl Z Z Z (by decide)) ?_
 refine U 1 Z ?_
 refine vX (I (shrI .i64 a1 63)) (OpV.shr Z Z Z (by decide)) ?_
 refine vX (.int .u64 (IntKind.u64.wrap (shrI .i64 a1 63))) (Qal Z runUnderlying3 runUnderlying281 Z) ?_
 refine vX (.int .u64 (xorI .u64 (shlI .u64 (IntKind.u64.wrap a1) 1) (IntKind.u64.wrap (shrI .i64 a1 63)))) (OpV.xor Z Z Z) ?_
 refine U 1 Z (Nx (TC.ret ?_))
 obtain rfl := Oi h
 refine ⟨[(2, _)], _, _, ?_, ResOK.one Z Z, Z, Z⟩
 exact Lr []
def F_ei (n : Nat) (s9 : (List Int) × Int) : Option (Ctl ((List Int) × Int) ((List Int) × Int)) :=
  (bif decide (128 ≤ s9.2) then (app s9.1 [orI .u8 (IntKind.u8.wrap s9.2) 128]).bind fun l13 => some (.cont (l13, shrI .u64 s9.2 7)) else some (.done (s9.1, s9.2)))
def F_q (n : Nat) (a1 : List Int) (a2 : Int) : Option (List Int) :=
  (iter (F_ei n) n (a1, a2) : Option ((List Int) × Int)).bind fun b6 => (app b6.1 [IntKind.u8.wrap b6.2]).bind fun l14 => some l14
theorem k_q (n : Nat) (a1 : List Int) (a2 : Int) (r : List Int) (h : F_q n a1 a2 = some r) :
    C prog 202 [.osl 0 0 a1.length 1, .int .u64 a2] [.row 5 1 (List.map (encI .u8) a1)] (fun a H => a = .osl 1 0 r.length 1 ∧ H = [.dead, .row 5 1 (List.map (encI .u8) r)]) := by
 refine Qd func202 Z Z Z ?_
 refine Rg (U 1 Z (Nx (TC.seq (Bd h fun b6 h7 h => ?_))))
 refine TC.cut ([(0, .osl 1 0 b6.1.length 1), (1, .int .u64 b6.2)]) ([.dead, .row 5 1 (List.map (encI .u8) b6.1)]) ?_ (fun env H hle => ?_)
 ·refine TC.block ?_
  refine TC.loop (E := fun s9 => [(0, .osl 1 0 s9.1.length 1), (1, .int .u64 s9.2)]) (Hp := fun s9 => [.dead, .row 5 1 (List.map (encI .u8) s9.1)]) h7 ?_ ?_
  ·refine Le.trans (QgZ (s := 0) (i := 0) Z Z Z) ?_
   exact Lr [0, 1]
  intro s9 d10 h11 hb8
  refine TC.seq (Rg (U 2 Z (Nx (YK Z h11 (fun hc12 h11 => ?_) (fun hc12 h11 => ?_)))))
  ·refine YJ (Qv h11 ?_)
   obtain rfl := hb8 _ (Oi h11).symm
   exact QL (cutN (Lr [0, 1]))
  refine QP (TC.seq (TC.block (TC.region (U 2 Z ?_))))
  refine vX (.int .u8 (IntKind.u8.wrap s9.2)) (Qal Z runUnderlying281 runUnderlying5 Z) ?_
  refine vX (.int .u8 (orI .u8 (IntKind.u8.wrap s9.2) 128)) (OpV.or Z Z Z) ?_
  refine vH (OpH.lit (xs := [.tmp 12]) (es := List.map (encI .u8) [orI .u8 (IntKind.u8.wrap s9.2) 128]) Yj Z Z Z Z Z ⟨Z, trivial⟩ Z Z) ?_
  refine aV (.osl 2 0 ([orI .u8 (IntKind.u8.wrap s9.2) 128].length) 1) [_, _, .row 5 1 (List.map (encI .u8) [orI .u8 (IntKind.u8.wrap s9.2) 128])] Z Z ?_
  refine Bd h11 fun l13 hl13 h11 => ?_
  refine vH (Ya (e := (encI .u8)) hl13 Yj runUnderlying118 (Qaz (i := 2))) ?_
  refine aV (.osl 3 0 l13.length 1) [_, .dead, _, .row 5 1 (List.map (encI .u8) l13)] Z Z ?_
  refine U 1 Z (WO.nil (QB (Qf (TC.region (U 1 Z ?_)))))
  refine vX (.int .u64 (shrI .u64 s9.2 7)) (OpV.shr Z Z Z (by decide)) ?_
  exact U 1 Z (WO.nil (Qp h11 (Lr [0, 3])))
 refine Qf (TC.le hle (Rg (U 2 Z ?_)))
 refine vX (.int .u8 (IntKind.u8.wrap b6.2)) (Qal Z runUnderlying281 runUnderlying5 Z) ?_
 refine vH (OpH.lit (xs := [.tmp 17]) (es := List.map (encI .u8) [IntKind.u8.wrap b6.2]) Yj Z Z Z Z Z ⟨Z, trivial⟩ Z Z) ?_
 refine aV (.osl 2 0 ([IntKind.u8.wrap b6.2].length) 1) [_, _, .row 5 1 (List.map (encI .u8) [IntKind.u8.wrap b6.2])] Z Z ?_
 refine Bd h fun l14 hl14 h => ?_
 refine vH (Ya (e := (encI .u8)) hl14 Yj runUnderlying118 (Qaz (i := 2))) ?_
 refine aV (.osl 3 0 l14.length 1) [_, .dead, _, .row 5 1 (List.map (encI .u8) l14)] Z Z ?_
 refine U 1 Z (Nx (TC.ret ?_))
 obtain rfl := Oi h
 refine ⟨[(4, _)], _, _, ?_, ResOK.one Z Z, Z, Z⟩
 exact Lr [0, 3]
def F_ff (n : Nat) (a1 : Value) : Option (List Int) :=
  (app [] [1]).bind fun l1 => (F_aq n a1.N).bind fun r2 => (F_q n l1 (xorI .u64 (shlI .u64 (IntKind.u64.wrap a1.N) 1) (IntKind.u64.wrap (shrI .i64 a1.N 63)))).bind fun r3 => some r3
theorem k_ff (n : Nat) (a1 : Value) (r : List Int) (h : F_ff n a1 = some r) :
    C prog 201 [.nils, .agg (Value.c a1)] [] (fun a H => a = .osl 0 0 r.length 1 ∧ H = [.row 5 1 (List.map (encI .u8) r)]) := by
 refine Qd func201 Z Z Z ?_
 refine Rg (U 2 Z (Nx (TC.seq ?_)))
 obtain ⟨l1, hl1, h⟩ := bnd h
 refine Q2 5 0 [5, 6, 7, 8, 9] [false, false, true, false, false] [[], [], [], [], []] [[], [2]] [[(0, 0), (1, 1)], [(0, 0), (1, 1)], [(0, 1)], [(0, 0), (1, 1)], [(0, 0), (1, 1)]] [.nils, .rsl 1 (List.map (encI .u8) [1]), .osl 1 0 l1.length 1, .ptr 0 1, I a1.N] [[.cells 184 (Value.c a1)], [.cells 184 (Value.c a1), .row 5 1 (List.map (encI .u8) l1)]] ([.cells 184 (Value.c a1), .row 5 1 (List.map (encI .u8) l1)]) draws Z Z Z Z Z Z Z ?_ Z ?_
 ·refine OblM.cons (Qa (v0 Z Z) (Qa (v0 Z Z) (Qe))) (OblM.cons ?_ (OblM.cons ?_ (OblM.cons (Qa (v0 Z Z) (Qa (v0 Z Z) (Qe))) (OblM.cons (Qa (v0 Z Z) (Qa (v0 Z Z) (Qe))) (OblM.nil)))))
  ·refine Qa ?_ (Qa ?_ (Qe))
   ·refine Om Z sN ?_
    refine vH (Yo (xs := [.const (.int .u8 1)]) (es := List.map (encI .u8) [1]) Yj Z Z Z Z Z ⟨Z, trivial⟩ Z Z) ?_
    refine aV (.rsl 1 (List.map (encI .u8) [1])) [_] Z Z ?_
    exact Wp
   ·refine Om Z sN ?_
    refine vH (Yo (xs := [.const (.int .u8 1)]) (es := List.map (encI .u8) [1]) Yj Z Z Z Z Z ⟨Z, trivial⟩ Z Z) ?_
    refine aV (.rsl 1 (List.map (encI .u8) [1])) [_, _] Z Z ?_
    exact Wp
  ·refine Qa ?_ (Qe)
   ·refine Om1 Z (sD 0 (sD 1 sN)) ?_
    refine vH (Qfd (e := (encI .u8)) hl1 Yj runUnderlying118 Qef) ?_
    refine aV (.osl 1 0 l1.length 1) [_, .row 5 1 (List.map (encI .u8) l1)] Z Z ?_
    exact Wp
 refine Bd h fun r2 hr2 h => ?_
 refine Qc [] (OpC.fn call203 Z Z Z) (k_aq _ _ _ hr2) ?_
 rintro _ _ ⟨rfl, rfl⟩
 refine aV (.int .u64 (xorI .u64 (shlI .u64 (IntKind.u64.wrap a1.N) 1) (IntKind.u64.wrap (shrI .i64 a1.N 63)))) [_, _] Z Z ?_
 refine Bd h fun r3 hr3 h => ?_
 refine Qc [1] (OpC.fn call202 Z Z Z) (k_q _ _ _ _ hr3) ?_
 rintro _ _ ⟨rfl, rfl⟩
 refine aV (.osl 2 0 r3.length 1) [_, .dead, .row 5 1 (List.map (encI .u8) r3)] Z Z ?_
 refine U 1 Z (Nx (TC.ret ?_))
 obtain rfl := Oi h
 refine ⟨[(4, _)], _, _, ?_, ResOK.one Z Z, Z, Z⟩
 exact Lr [2]
def F_ah (n : Nat) (a1 : List Int) (a2 : Value) : Option (List Int) :=
  (app a1 [1]).bind fun l1 => (F_aq n a2.N).bind fun r2 => (F_q n l1 (xorI .u64 (shlI .u64 (IntKind.u64.wrap a2.N) 1) (IntKind.u64.wrap (shrI .i64 a2.N 63)))).bind fun r3 => some r3
theorem k_ah (n : Nat) (a1 : List Int) (a2 : Value) (r : List Int) (h : F_ah n a1 a2 = some r) :
    C prog 201 [.osl 0 0 a1.length 1, .agg (Value.c a2)] [.row 5 1 (List.map (encI .u8) a1)] (fun a H => a = .osl 1 0 r.length 1 ∧ H = [.dead, .row 5 1 (List.map (encI .u8) r)]) := by
 refine Qd func201 Z Z Z ?_
 refine Rg (U 2 Z (Nx (TC.seq ?_)))
 obtain ⟨l1, hl1, h⟩ := bnd h
 refine Q2 5 0 [5, 6, 7, 8, 9] [false, false, true, false, false] [[], [], [], [], []] [[], [2]] [[(0, 0), (1, 1)], [(0, 0), (1, 1)], [(0, 1)], [(0, 0), (1, 1)], [(0, 0), (1, 1)]] [.osl 0 0 a1.length 1, .rsl 1 (List.map (encI .u8) [1]), .osl 2 0 l1.length 1, .ptr 1 1, I a2.N] [[.row 5 1 (List.map (encI .u8) a1), .cells 184 (Value.c a2)], [.dead, .cells 184 (Value.c a2), .row 5 1 (List.map (encI .u8) l1)]] ([.dead, .cells 184 (Value.c a2), .row 5 1 (List.map (encI .u8) l1)]) draws Z Z Z Z Z Z Z ?_ Z ?_
 ·refine OblM.cons (Qa (v0 Z Z) (Qa (v0 Z Z) (Qe))) (OblM.cons ?_ (OblM.cons ?_ (OblM.cons (Qa (v0 Z Z) (Qa (v0 Z Z) (Qe))) (OblM.cons (Qa (v0 Z Z) (Qa (v0 Z Z) (Qe))) (OblM.nil)))))
  ·refine Qa ?_ (Qa ?_ (Qe))
   ·refine Om Z sN ?_
    refine vH (Yo (xs := [.const (.int .u8 1)]) (es := List.map (encI .u8) [1]) Yj Z Z Z Z Z ⟨Z, trivial⟩ Z Z) ?_
    refine aV (.rsl 1 (List.map (encI .u8) [1])) [_, _] Z Z ?_
    exact Wp
   ·refine Om Z sN ?_
    refine vH (Yo (xs := [.const (.int .u8 1)]) (es := List.map (encI .u8) [1]) Yj Z Z Z Z Z ⟨Z, trivial⟩ Z Z) ?_
    refine aV (.rsl 1 (List.map (encI .u8) [1])) [_, _, _] Z Z ?_
    exact Wp
  ·refine Qa ?_ (Qe)
   ·refine Om1 Z (sD 0 (sD 1 sN)) ?_
    refine vH (Ya (e := (encI .u8)) hl1 Yj runUnderlying118 Qef) ?_
    refine aV (.osl 2 0 l1.length 1) [.dead, _, .row 5 1 (List.map (encI .u8) l1)] Z Z ?_
    exact Wp
 refine Bd h fun r2 hr2 h => ?_
 refine Qc [] (OpC.fn call203 Z Z Z) (k_aq _ _ _ hr2) ?_
 rintro _ _ ⟨rfl, rfl⟩
 refine aV (.int .u64 (xorI .u64 (shlI .u64 (IntKind.u64.wrap a2.N) 1) (IntKind.u64.wrap (shrI .i64 a2.N 63)))) [_, _, _] Z Z ?_
 refine Bd h fun r3 hr3 h => ?_
 refine Qc [2] (OpC.fn call202 Z Z Z) (k_q _ _ _ _ hr3) ?_
 rintro _ _ ⟨rfl, rfl⟩
 refine aV (.osl 3 0 r3.length 1) [_, _, .dead, .row 5 1 (List.map (encI .u8) r3)] Z Z ?_
 refine U 1 Z (Nx (TC.ret ?_))
 obtain rfl := Oi h
 refine ⟨[(4, _)], _, _, ?_, ResOK.one Z Z, Z, Z⟩
 exact Lr [0, 3]
def F_gf (n : Nat) (a2 : Value) (rec146 : (List Int) → Value → Option (List Int)) (s23 : (List Int) × Int) : Option (Ctl ((List Int) × Int) (List Int)) :=
  (bif decide (s23.2 < (a2.L.length : Int)) then (idx a2.L s23.2).bind fun x27 => (bif (x27.Kind == 0) then none else (bif (x27.Kind == 1) then (F_ah n s23.1 x27).bind fun r30 => some (.cont (r30, IntKind.i64.wrap (s23.2 + 1))) else (bif (x27.Kind == 2) then none else (bif (x27.Kind == 3) then (rec146 s23.1 x27).bind fun r33 => some (.cont (r33, IntKind.i64.wrap (s23.2 + 1))) else none)))) else some (.done s23.1))
def B_ag (rec146 : (List Int) → Value → Option (List Int)) (n : Nat) (a1 : List Int) (a2 : Value) : Option (List Int) :=
  (app a1 [3]).bind fun l1 => (F_q n l1 (IntKind.u64.wrap (a2.L.length : Int))).bind fun r2 => (iter (F_gf n a2 rec146) n (r2, 0) : Option (List Int)).bind fun b20 => some b20
theorem QaC (rec146 : (List Int) → Value → Option (List Int)) (hrec146 : ∀ (a1 : List Int) (a2 : Value) (r : List Int), rec146 a1 a2 = some r → C prog 205 [.osl 0 0 a1.length 1, .agg (Value.c a2), .ptr 1 0] [.row 5 1 (List.map (encI .u8) a1), .cells 249 [.ptr 2 0], .cells 284 [.nilf, .fn (.func 201) [] [], .fn (.func 204) [] [], .fn (.func 205) [] [.ptr 1 0]]] (fun a H => a = .osl 3 0 r.length 1 ∧ H = [.dead, .cells 249 [.ptr 2 0], .cells 284 [.nilf, .fn (.func 201) [] [], .fn (.func 204) [] [], .fn (.func 205) [] [.ptr 1 0]], .row 5 1 (List.map (encI .u8) r)])) (n : Nat) (a1 : List Int) (a2 : Value) (r : List Int) (h : B_ag rec146 n a1 a2 = some r) :
    C prog 205 [.osl 0 0 a1.length 1, .agg (Value.c a2), .ptr 1 0] [.row 5 1 (List.map (encI .u8) a1), .cells 249 [.ptr 2 0], .cells 284 [.nilf, .fn (.func 201) [] [], .fn (.func 204) [] [], .fn (.func 205) [] [.ptr 1 0]]] (fun a H => a = .osl 3 0 r.length 1 ∧ H = [.dead, .cells 249 [.ptr 2 0], .cells 284 [.nilf, .fn (.func 201) [] [], .fn (.func 204) [] [], .fn (.func 205) [] [.ptr 1 0]], .row 5 1 (List.map (encI .u8) r)]) := by
 refine Qd func205 Z Z Z ?_
 refine Rg (U 2 Z (Nx (TC.seq ?_)))
 obtain ⟨l1, hl1, h⟩ := bnd h
 refine Q2 7 0 [8, 9, 10, 11, 12, 13, 14] [false, false, true, false, false, false, false] [[], [], [], [], [], [], []] [[], [2]] [[(0, 0), (1, 1)], [(0, 0), (1, 1)], [(0, 1)], [(0, 0), (1, 1)], [(0, 0), (1, 1)], [(0, 0), (1, 1)], [(0, 0), (1, 1)]] [.osl 0 0 a1.length 1, .rsl 1 (List.map (encI .u8) [3]), .osl 4 0 l1.length 1, .ptr 3 3, .rsl 4 (List.map Value.enc a2.L), I (a2.L.length : Int), .int .u64 (IntKind.u64.wrap (a2.L.length : Int))] [[.row 5 1 (List.map (encI .u8) a1), .cells 249 [.ptr 2 0], .cells 284 [.nilf, .fn (.func 201) [] [], .fn (.func 204) [] [], .fn (.func 205) [] [.ptr 1 0]], .cells 184 (Value.c a2)], [.dead, .cells 249 [.ptr 2 0], .cells 284 [.nilf, .fn (.func 201) [] [], .fn (.func 204) [] [], .fn (.func 205) [] [.ptr 1 0]], .cells 184 (Value.c a2), .row 5 1 (List.map (encI .u8) l1)]] ([.dead, .cells 249 [.ptr 2 0], .cells 284 [.nilf, .fn (.func 201) [] [], .fn (.func 204) [] [], .fn (.func 205) [] [.ptr 1 0]], .cells 184 (Value.c a2), .row 5 1 (List.map (encI .u8) l1)]) draws Z Z Z Z Z Z Z ?_ Z ?_
 ·refine OblM.cons (Qa (v0 Z Z) (Qa (v0 Z Z) (Qe))) (OblM.cons ?_ (OblM.cons ?_ (OblM.cons (Qa (v0 Z Z) (Qa (v0 Z Z) (Qe))) (OblM.cons (Qa (v0 Z Z) (Qa (v0 Z Z) (Qe))) (OblM.cons ?_ (OblM.cons ?_ (OblM.nil)))))))
  ·refine Qa ?_ (Qa ?_ (Qe))
   ·refine Om Z sN ?_
    refine vH (Yo (xs := [.const (.int .u8 3)]) (es := List.map (encI .u8) [3]) Yj Z Z Z Z Z ⟨Z, trivial⟩ Z Z) ?_
    refine aV (.rsl 1 (List.map (encI .u8) [3])) [_, _, _, _] Z Z ?_
    exact Wp
   ·refine Om Z sN ?_
    refine vH (Yo (xs := [.const (.int .u8 3)]) (es := List.map (encI .u8) [3]) Yj Z Z Z Z Z ⟨Z, trivial⟩ Z Z) ?_
    refine aV (.rsl 1 (List.map (encI .u8) [3])) [_, _, _, _, _] Z Z ?_
    exact Wp
  ·refine Qa ?_ (Qe)
   ·refine Om1 Z (sD 0 (sD 1 sN)) ?_
    refine vH (Ya (e := (encI .u8)) hl1 Yj runUnderlying118 Qef) ?_
    refine aV (.osl 4 0 l1.length 1) [.dead, _, _, _, .row 5 1 (List.map (encI .u8) l1)] Z Z ?_
    exact Wp
  ·refine Qa ?_ (Qa ?_ (Qe))
   ·refine Om Z (sD 4 sN) ?_
    exact YI runUnderlying182 Z Wp
   ·refine Om Z (sD 4 sN) ?_
    exact YI runUnderlying182 Z Wp
  ·refine Qa ?_ (Qa ?_ (Qe))
   ·refine Om Z (sD 5 sN) ?_
    refine vX (.int .u64 (IntKind.u64.wrap (a2.L.length : Int))) (Qal Z runUnderlying3 runUnderlying281 Z) ?_
    exact Wp
   ·refine Om Z (sD 5 sN) ?_
    refine vX (.int .u64 (IntKind.u64.wrap (a2.L.length : Int))) (Qal Z runUnderlying3 runUnderlying281 Z) ?_
    exact Wp
 refine Bd h fun r2 hr2 h => ?_
 refine Qc [4] (OpC.fn call202 Z Z Z) (k_q _ _ _ _ hr2) ?_
 rintro _ _ ⟨rfl, rfl⟩
 refine aV (.osl 5 0 r2.length 1) [_, _, _, _, .dead, .row 5 1 (List.map (encI .u8) r2)] Z Z ?_
 refine U 1 Z (Nx (TC.seq (Rg (U 2 Z (YI runUnderlying182 Z (U 1 Z (Nx (Bd h fun b20 h21 h => ?_))))))))
 refine TC.cut ([(0, .osl 3 0 b20.length 1)]) ([.dead, .cells 249 [.ptr 2 0], .cells 284 [.nilf, .fn (.func 201) [] [], .fn (.func 204) [] [], .fn (.func 205) [] [.ptr 1 0]], .row 5 1 (List.map (encI .u8) b20)]) ?_ (fun env H hle => ?_)
 ·refine TC.block ?_
  refine TC.loop (E := fun s23 => [(0, .osl 3 0 s23.1.length 1), (2, .ptr 1 0), (17, .rsl 4 (List.map Value.enc a2.L)), (18, I (a2.L.length : Int)), (19, I s23.2)]) (Hp := fun s23 => [.dead, .cells 249 [.ptr 2 0], .cells 284 [.nilf, .fn (.func 201) [] [], .fn (.func 204) [] [], .fn (.func 205) [] [.ptr 1 0]], .row 5 1 (List.map (encI .u8) s23.1)]) h21 ?_ ?_
  ·exact Lr [0, 1, 2, 5]
  intro s23 d24 h25 hb22
  refine Rg (U 1 Z (Nx (TC.seq (YK Z h25 (fun hc26 h25 => ?_) (fun hc26 h25 => ?_)))))
  ·refine YJ (Qv h25 ?_)
   obtain rfl := hb22 _ (Oi h25).symm
   exact QL (cutN (Lr [0, 1, 2, 3]))
  refine QP (TC.seq (TC.block (Rg (Bd h25 fun x27 hx27 h25 => ?_))))
  refine vX (.rp [I x27.Kind, I x27.N, .str x27.S, .rsl 4 (List.map Value.enc x27.L)]) (Q8 (e := Value.enc) hx27 (Qa1 x27) runUnderlying182 sizeOf184) ?_
  refine U 3 Z (Nx ?_)
  refine If h25 (fun hg28 h25 => ?_) (fun hg28 h25 => ?_)
  ·cases h25
  ·refine If h25 (fun hg29 h25 => ?_) (fun hg29 h25 => ?_)
   ·refine TC.draw0 9 [23, 24, 25, 26, 27, 28, 29, 30, 31] [.ptr 2 0, .ptr 4 0, I x27.Kind, .ptr 2 0, .ptr 2 1, .ptr 2 1, .fn (.func 201) [] [], .osl 3 0 s23.1.length 1, .agg (Value.c x27)] draws Z Z Z ?_ ?_
    ·refine ov (ov (ov (Oq.c ?_ (Oq.c ?_ (ov (ov (ov (ov (Oq.n)))))))))
     ·refine Om Z (sD 0 sN) ?_
      exact S Z Wp
     ·refine Om Z (sD 2 (sD 3 sN)) ?_
      refine vX (.ptr 2 1) (Yg (i := x27.Kind) (n := 4) (k := 1) (j := 1) hg29 Z runUnderlying284 sizeOf248 Z) ?_
      exact Wp
    refine Bd h25 fun r30 hr30 h25 => ?_
    refine Qc [3] (Qh call201 Z Z Z Z) (k_ah _ _ _ _ hr30) ?_
    rintro _ _ ⟨rfl, rfl⟩
    refine aV (.osl 5 0 r30.length 1) [_, _, _, .dead, _, .row 5 1 (List.map (encI .u8) r30)] Z Z ?_
    exact U 1 Z (WO.nil (QB (Qf (TC.region (U 2 Z (WO.nil (Qp h25 (Lr [0, 1, 2, 5]))))))))
   ·refine If h25 (fun hg31 h25 => ?_) (fun hg31 h25 => ?_)
    ·cases h25
    ·refine If h25 (fun hg32 h25 => ?_) (fun hg32 h25 => ?_)
     ·refine TC.draw0 9 [23, 24, 25, 26, 27, 28, 29, 30, 31] [.ptr 2 0, .ptr 4 0, I x27.Kind, .ptr 2 0, .ptr 2 3, .ptr 2 3, .fn (.func 205) [] [.ptr 1 0], .osl 3 0 s23.1.length 1, .agg (Value.c x27)] draws Z Z Z ?_ ?_
      ·refine ov (ov (ov (Oq.c ?_ (Oq.c ?_ (ov (ov (ov (ov (Oq.n)))))))))
       ·refine Om Z (sD 0 sN) ?_
        exact S Z Wp
       ·refine Om Z (sD 2 (sD 3 sN)) ?_
        refine vX (.ptr 2 3) (Yg (i := x27.Kind) (n := 4) (k := 1) (j := 3) hg32 Z runUnderlying284 sizeOf248 Z) ?_
        exact Wp
      refine Bd h25 fun r33 hr33 h25 => ?_
      refine Qc [3, 1, 2] (Qh call205 Z Z Z Z) (hrec146 _ _ _ hr33) ?_
      rintro _ _ ⟨rfl, rfl⟩
      refine aV (.osl 5 0 r33.length 1) [_, _, _, .dead, _, .row 5 1 (List.map (encI .u8) r33)] Z Z ?_
      exact U 1 Z (WO.nil (QB (Qf (TC.region (U 2 Z (WO.nil (Qp h25 (Lr [0, 1, 2, 5]))))))))
     ·cases h25
 refine Qf (TC.le hle (Rg (U 2 Z (Nx (TC.ret ?_)))))
 obtain rfl := Oi h
 refine ⟨[(5, _)], _, _, ?_, ResOK.one Z Z, Z, Z⟩
 exact Lr [0, 1, 2, 3]
def F_ag : Nat → (List Int) → Value → Option (List Int)
  | 0 => fun _ _ => none
  | n + 1 => B_ag (F_ag n) n
theorem k_ag (n : Nat) : ∀ (a1 : List Int) (a2 : Value) (r : List Int), F_ag n a1 a2 = some r → C prog 205 [.osl 0 0 a1.length 1, .agg (Value.c a2), .ptr 1 0] [.row 5 1 (List.map (encI .u8) a1), .cells 249 [.ptr 2 0], .cells 284 [.nilf, .fn (.func 201) [] [], .fn (.func 204) [] [], .fn (.func 205) [] [.ptr 1 0]]] (fun a H => a = .osl 3 0 r.length 1 ∧ H = [.dead, .cells 249 [.ptr 2 0], .cells 284 [.nilf, .fn (.func 201) [] [], .fn (.func 204) [] [], .fn (.func 205) [] [.ptr 1 0]], .row 5 1 (List.map (encI .u8) r)]) := by
  induction n with
  | zero => intro a1 a2 r h; cases h
  | succ n ih => intro a1 a2 r h; exact QaC _ ih n a1 a2 r h
def F_fc (n : Nat) (a1 : Value) (s23 : (List Int) × Int) : Option (Ctl ((List Int) × Int) (List Int)) :=
  (bif decide (s23.2 < (a1.L.length : Int)) then (idx a1.L s23.2).bind fun x27 => (bif (x27.Kind == 0) then none else (bif (x27.Kind == 1) then (F_ah n s23.1 x27).bind fun r30 => some (.cont (r30, IntKind.i64.wrap (s23.2 + 1))) else (bif (x27.Kind == 2) then none else (bif (x27.Kind == 3) then (F_ag n s23.1 x27).bind fun r33 => some (.cont (r33, IntKind.i64.wrap (s23.2 + 1))) else none)))) else some (.done s23.1))
def F_av (n : Nat) (a1 : Value) : Option (List Int) :=
  (app [] [3]).bind fun l1 => (F_q n l1 (IntKind.u64.wrap (a1.L.length : Int))).bind fun r2 => (iter (F_fc n a1) n (r2, 0) : Option (List Int)).bind fun b20 => some b20
theorem k_av (n : Nat) (a1 : Value) (r : List Int) (h : F_av n a1 = some r) :
    C prog 205 [.nils, .agg (Value.c a1), .ptr 0 0] [.cells 249 [.ptr 1 0], .cells 284 [.nilf, .fn (.func 201) [] [], .fn (.func 204) [] [], .fn (.func 205) [] [.ptr 0 0]]] (fun a H => a = .osl 2 0 r.length 1 ∧ H = [.cells 249 [.ptr 1 0], .cells 284 [.nilf, .fn (.func 201) [] [], .fn (.func 204) [] [], .fn (.func 205) [] [.ptr 0 0]], .row 5 1 (List.map (encI .u8) r)]) := by
 refine Qd func205 Z Z Z ?_
 refine Rg (U 2 Z (Nx (TC.seq ?_)))
 obtain ⟨l1, hl1, h⟩ := bnd h
 refine Q2 7 0 [8, 9, 10, 11, 12, 13, 14] [false, false, true, false, false, false, false] [[], [], [], [], [], [], []] [[], [2]] [[(0, 0), (1, 1)], [(0, 0), (1, 1)], [(0, 1)], [(0, 0), (1, 1)], [(0, 0), (1, 1)], [(0, 0), (1, 1)], [(0, 0), (1, 1)]] [.nils, .rsl 1 (List.map (encI .u8) [3]), .osl 3 0 l1.length 1, .ptr 2 3, .rsl 4 (List.map Value.enc a1.L), I (a1.L.length : Int), .int .u64 (IntKind.u64.wrap (a1.L.length : Int))] [[.cells 249 [.ptr 1 0], .cells 284 [.nilf, .fn (.func 201) [] [], .fn (.func 204) [] [], .fn (.func 205) [] [.ptr 0 0]], .cells 184 (Value.c a1)], [.cells 249 [.ptr 1 0], .cells 284 [.nilf, .fn (.func 201) [] [], .fn (.func 204) [] [], .fn (.func 205) [] [.ptr 0 0]], .cells 184 (Value.c a1), .row 5 1 (List.map (encI .u8) l1)]] ([.cells 249 [.ptr 1 0], .cells 284 [.nilf, .fn (.func 201) [] [], .fn (.func 204) [] [], .fn (.func 205) [] [.ptr 0 0]], .cells 184 (Value.c a1), .row 5 1 (List.map (encI .u8) l1)]) draws Z Z Z Z Z Z Z ?_ Z ?_
 ·refine OblM.cons (Qa (v0 Z Z) (Qa (v0 Z Z) (Qe))) (OblM.cons ?_ (OblM.cons ?_ (OblM.cons (Qa (v0 Z Z) (Qa (v0 Z Z) (Qe))) (OblM.cons (Qa (v0 Z Z) (Qa (v0 Z Z) (Qe))) (OblM.cons ?_ (OblM.cons ?_ (OblM.nil)))))))
  ·refine Qa ?_ (Qa ?_ (Qe))
   ·refine Om Z sN ?_
    refine vH (Yo (xs := [.const (.int .u8 3)]) (es := List.map (encI .u8) [3]) Yj Z Z Z Z Z ⟨Z, trivial⟩ Z Z) ?_
    refine aV (.rsl 1 (List.map (encI .u8) [3])) [_, _, _] Z Z ?_
    exact Wp
   ·refine Om Z sN ?_
    refine vH (Yo (xs := [.const (.int .u8 3)]) (es := List.map (encI .u8) [3]) Yj Z Z Z Z Z ⟨Z, trivial⟩ Z Z) ?_
    refine aV (.rsl 1 (List.map (encI .u8) [3])) [_, _, _, _] Z Z ?_
    exact Wp
  ·refine Qa ?_ (Qe)
   ·refine Om1 Z (sD 0 (sD 1 sN)) ?_
    refine vH (Qfd (e := (encI .u8)) hl1 Yj runUnderlying118 Qef) ?_
    refine aV (.osl 3 0 l1.length 1) [_, _, _, .row 5 1 (List.map (encI .u8) l1)] Z Z ?_
    exact Wp
  ·refine Qa ?_ (Qa ?_ (Qe))
   ·refine Om Z (sD 4 sN) ?_
    exact YI runUnderlying182 Z Wp
   ·refine Om Z (sD 4 sN) ?_
    exact YI runUnderlying182 Z Wp
  ·refine Qa ?_ (Qa ?_ (Qe))
   ·refine Om Z (sD 5 sN) ?_
    refine vX (.int .u64 (IntKind.u64.wrap (a1.L.length : Int))) (Qal Z runUnderlying3 runUnderlying281 Z) ?_
    exact Wp
   ·refine Om Z (sD 5 sN) ?_
    refine vX (.int .u64 (IntKind.u64.wrap (a1.L.length : Int))) (Qal Z runUnderlying3 runUnderlying281 Z) ?_
    exact Wp
 refine Bd h fun r2 hr2 h => ?_
 refine Qc [3] (OpC.fn call202 Z Z Z) (k_q _ _ _ _ hr2) ?_
 rintro _ _ ⟨rfl, rfl⟩
 refine aV (.osl 4 0 r2.length 1) [_, _, _, .dead, .row 5 1 (List.map (encI .u8) r2)] Z Z ?_
 refine U 1 Z (Nx (TC.seq (Rg (U 2 Z (YI runUnderlying182 Z (U 1 Z (Nx (Bd h fun b20 h21 h => ?_))))))))
 refine TC.cut ([(0, .osl 2 0 b20.length 1)]) ([.cells 249 [.ptr 1 0], .cells 284 [.nilf, .fn (.func 201) [] [], .fn (.func 204) [] [], .fn (.func 205) [] [.ptr 0 0]], .row 5 1 (List.map (encI .u8) b20)]) ?_ (fun env H hle => ?_)
 ·refine TC.block ?_
  refine TC.loop (E := fun s23 => [(0, .osl 2 0 s23.1.length 1), (2, .ptr 0 0), (17, .rsl 4 (List.map Value.enc a1.L)), (18, I (a1.L.length : Int)), (19, I s23.2)]) (Hp := fun s23 => [.cells 249 [.ptr 1 0], .cells 284 [.nilf, .fn (.func 201) [] [], .fn (.func 204) [] [], .fn (.func 205) [] [.ptr 0 0]], .row 5 1 (List.map (encI .u8) s23.1)]) h21 ?_ ?_
  ·exact Lr [0, 1, 4]
  intro s23 d24 h25 hb22
  refine Rg (U 1 Z (Nx (TC.seq (YK Z h25 (fun hc26 h25 => ?_) (fun hc26 h25 => ?_)))))
  ·refine YJ (Qv h25 ?_)
   obtain rfl := hb22 _ (Oi h25).symm
   exact QL (cutN (Lr [0, 1, 2]))
  refine QP (TC.seq (TC.block (Rg (Bd h25 fun x27 hx27 h25 => ?_))))
  refine vX (.rp [I x27.Kind, I x27.N, .str x27.S, .rsl 4 (List.map Value.enc x27.L)]) (Q8 (e := Value.enc) hx27 (Qa1 x27) runUnderlying182 sizeOf184) ?_
  refine U 3 Z (Nx ?_)
  refine If h25 (fun hg28 h25 => ?_) (fun hg28 h25 => ?_)
  ·cases h25
  ·refine If h25 (fun hg29 h25 => ?_) (fun hg29 h25 => ?_)
   ·refine TC.draw0 9 [23, 24, 25, 26, 27, 28, 29, 30, 31] [.ptr 1 0, .ptr 3 0, I x27.Kind, .ptr 1 0, .ptr 1 1, .ptr 1 1, .fn (.func 201) [] [], .osl 2 0 s23.1.length 1, .agg (Value.c x27)] draws Z Z Z ?_ ?_
    ·refine ov (ov (ov (Oq.c ?_ (Oq.c ?_ (ov (ov (ov (ov (Oq.n)))))))))
     ·refine Om Z (sD 0 sN) ?_
      exact S Z Wp
     ·refine Om Z (sD 2 (sD 3 sN)) ?_
      refine vX (.ptr 1 1) (Yg (i := x27.Kind) (n := 4) (k := 1) (j := 1) hg29 Z runUnderlying284 sizeOf248 Z) ?_
      exact Wp
    refine Bd h25 fun r30 hr30 h25 => ?_
    refine Qc [2] (Qh call201 Z Z Z Z) (k_ah _ _ _ _ hr30) ?_
    rintro _ _ ⟨rfl, rfl⟩
    refine aV (.osl 4 0 r30.length 1) [_, _, .dead, _, .row 5 1 (List.map (encI .u8) r30)] Z Z ?_
    exact U 1 Z (WO.nil (QB (Qf (TC.region (U 2 Z (WO.nil (Qp h25 (Lr [0, 1, 4]))))))))
   ·refine If h25 (fun hg31 h25 => ?_) (fun hg31 h25 => ?_)
    ·cases h25
    ·refine If h25 (fun hg32 h25 => ?_) (fun hg32 h25 => ?_)
     ·refine TC.draw0 9 [23, 24, 25, 26, 27, 28, 29, 30, 31] [.ptr 1 0, .ptr 3 0, I x27.Kind, .ptr 1 0, .ptr 1 3, .ptr 1 3, .fn (.func 205) [] [.ptr 0 0], .osl 2 0 s23.1.length 1, .agg (Value.c x27)] draws Z Z Z ?_ ?_
      ·refine ov (ov (ov (Oq.c ?_ (Oq.c ?_ (ov (ov (ov (ov (Oq.n)))))))))
       ·refine Om Z (sD 0 sN) ?_
        exact S Z Wp
       ·refine Om Z (sD 2 (sD 3 sN)) ?_
        refine vX (.ptr 1 3) (Yg (i := x27.Kind) (n := 4) (k := 1) (j := 3) hg32 Z runUnderlying284 sizeOf248 Z) ?_
        exact Wp
      refine Bd h25 fun r33 hr33 h25 => ?_
      refine Qc [2, 0, 1] (Qh call205 Z Z Z Z) (k_ag _ _ _ _ hr33) ?_
      rintro _ _ ⟨rfl, rfl⟩
      refine aV (.osl 4 0 r33.length 1) [_, _, .dead, _, .row 5 1 (List.map (encI .u8) r33)] Z Z ?_
      exact U 1 Z (WO.nil (QB (Qf (TC.region (U 2 Z (WO.nil (Qp h25 (Lr [0, 1, 4]))))))))
     ·cases h25
 refine Qf (TC.le hle (Rg (U 2 Z (Nx (TC.ret ?_)))))
 obtain rfl := Oi h
 refine ⟨[(5, _)], _, _, ?_, ResOK.one Z Z, Z, Z⟩
 exact Lr [0, 1, 2]
def F_cz (n : Nat) (a1 : Value) : Option ((List Int) × Int) :=
  (F_ed n a1).bind fun r1 => (bif (r1 != 0) then some ([], r1) else (F_bn n).bind fun r3 => (bif (a1.Kind == 0) then none else (bif (a1.Kind == 1) then (F_ff n a1).bind fun r6 => some (r6, 0) else (bif (a1.Kind == 2) then none else (bif (a1.Kind == 3) then (F_av n a1).bind fun r9 => some (r9, 0) else none)))))
theorem k_cz (n : Nat) (a1 : Value) (r : (List Int) × Int) (h : F_cz n a1 = some r) :
    C prog 85 [.agg (Value.c a1)] [] (fun a H => a = .tup [.osl 0 0 r.1.length 1, I r.2] ∧ H = [.row 5 1 (List.map (encI .u8) r.1)]) := by
 refine Qd func85 Z Z Z ?_
 refine Rg (U 3 Z (Nx (TC.seq (Rg (U 1 Z (Bd h fun r1 hr1 h => ?_))))))
 refine Qc [] (OpC.fn call149 Z Z Z) (k_ed _ _ _ hr1) ?_
 rintro _ _ ⟨rfl, rfl⟩
 refine aV (I r1) [_] Z Z ?_
 refine U 1 Z (Nx (Rg (U 2 Z (Nx (Cn Z h (fun hc2 h => ?_) (fun hc2 h => ?_))))))
 ·refine Rg (U 3 Z (Nx (RtR ?_)))
  obtain rfl := Oi h
  refine ⟨[(2, _), (3, _)], _, _, ?_, Qm Z Z Z, Z, Z⟩
  refine Le.trans (Le.phantom (s := 2) (k := 1) (t := 5) (Nat.le_of_ble_eq_true Z) Z) ?_
  exact Lr [1]
 refine QP (TC.seq ?_)
 obtain ⟨r3, hr3, h⟩ := bnd h
 refine If h (fun hg4 h => ?_) (fun hg4 h => ?_)
 ·cases h
 ·refine If h (fun hg5 h => ?_) (fun hg5 h => ?_)
  ·refine Q2 8 0 [10, 11, 12, 13, 14, 15, 16, 17] [true, false, false, false, false, false, false, false] [[], [], [], [0], [0], [0], [0], []] [[], [0]] [[(0, 1)], [(0, 0), (1, 1)], [(0, 0), (1, 1)], [(1, 1)], [(1, 1)], [(1, 1)], [(1, 1)], [(0, 0), (1, 1)]] [.ptr 1 0, .ptr 0 0, I a1.Kind, .ptr 1 0, .ptr 1 1, .ptr 1 1, .fn (.func 201) [] [], .agg (Value.c a1)] [[.cells 184 (Value.c a1)], [.cells 184 (Value.c a1), .cells 284 [.nilf, .fn (.func 201) [] [], .fn (.func 204) [] [], .fn (.func 205) [] [.ptr 2 0]], .cells 249 [.ptr 1 0]]] ([.cells 184 (Value.c a1), .cells 284 [.nilf, .fn (.func 201) [] [], .fn (.func 204) [] [], .fn (.func 205) [] [.ptr 2 0]], .cells 249 [.ptr 1 0]]) draws Z Z Z Z Z Z Z ?_ Z ?_
   ·refine OblM.cons ?_ (OblM.cons (Qa (v0 Z Z) (Qa (v0 Z Z) (Qe))) (OblM.cons (Qa (v0 Z Z) (Qa (v0 Z Z) (Qe))) (OblM.cons ?_ (OblM.cons ?_ (OblM.cons (Qa (v0 Z Z) (Qe)) (OblM.cons (Qa (v0 Z Z) (Qe)) (OblM.cons (Qa (v0 Z Z) (Qa (v0 Z Z) (Qe))) (OblM.nil))))))))
    ·refine Qa ?_ (Qe)
     ·refine Om1 Z sN ?_
      refine Qc [] (OpC.fn call150 Z Z Z) (k_bn _ _ hr3) ?_
      rintro _ _ ⟨rfl, rfl⟩
      refine aV (.ptr 1 0) [_, .cells 284 [.nilf, .fn (.func 201) [] [], .fn (.func 204) [] [], .fn (.func 205) [] [.ptr 2 0]], .cells 249 [.ptr 1 0]] Z Z ?_
      exact Wp
    ·refine Qa ?_ (Qe)
     ·refine Om Z (sD 0 sN) ?_
      exact S Z Wp
    ·refine Qa ?_ (Qe)
     ·refine Om Z (sD 2 (sD 3 sN)) ?_
      refine vX (.ptr 1 1) (Yg (i := a1.Kind) (n := 4) (k := 1) (j := 1) hg5 Z runUnderlying284 sizeOf248 Z) ?_
      exact Wp
   refine Bd h fun r6 hr6 h => ?_
   refine Qc [] (Qh call201 Z Z Z Z) (k_ff _ _ _ hr6) ?_
   rintro _ _ ⟨rfl, rfl⟩
   refine aV (.osl 3 0 r6.length 1) [_, _, _, .row 5 1 (List.map (encI .u8) r6)] Z Z ?_
   refine U 2 Z (Nx (TC.ret ?_))
   obtain rfl := Oi h
   refine ⟨[(2, _), (3, _)], _, _, ?_, Qm Z Z Z, Z, Z⟩
   exact Lr [3]
  ·refine If h (fun hg7 h => ?_) (fun hg7 h => ?_)
   ·cases h
   ·refine If h (fun hg8 h => ?_) (fun hg8 h => ?_)
    ·refine Q2 8 0 [10, 11, 12, 13, 14, 15, 16, 17] [true, false, false, false, false, false, false, false] [[], [], [], [0], [0], [0], [0], []] [[], [0]] [[(0, 1)], [(0, 0), (1, 1)], [(0, 0), (1, 1)], [(1, 1)], [(1, 1)], [(1, 1)], [(1, 1)], [(0, 0), (1, 1)]] [.ptr 1 0, .ptr 0 0, I a1.Kind, .ptr 1 0, .ptr 1 3, .ptr 1 3, .fn (.func 205) [] [.ptr 2 0], .agg (Value.c a1)] [[.cells 184 (Value.c a1)], [.cells 184 (Value.c a1), .cells 284 [.nilf, .fn (.func 201) [] [], .fn (.func 204) [] [], .fn (.func 205) [] [.ptr 2 0]], .cells 249 [.ptr 1 0]]] ([.cells 184 (Value.c a1), .cells 284 [.nilf, .fn (.func 201) [] [], .fn (.func 204) [] [], .fn (.func 205) [] [.ptr 2 0]], .cells 249 [.ptr 1 0]]) draws Z Z Z Z Z Z Z ?_ Z ?_
     ·refine OblM.cons ?_ (OblM.cons (Qa (v0 Z Z) (Qa (v0 Z Z) (Qe))) (OblM.cons (Qa (v0 Z Z) (Qa (v0 Z Z) (Qe))) (OblM.cons ?_ (OblM.cons ?_ (OblM.cons (Qa (v0 Z Z) (Qe)) (OblM.cons (Qa (v0 Z Z) (Qe)) (OblM.cons (Qa (v0 Z Z) (Qa (v0 Z Z) (Qe))) (OblM.nil))))))))
      ·refine Qa ?_ (Qe)
       ·refine Om1 Z sN ?_
        refine Qc [] (OpC.fn call150 Z Z Z) (k_bn _ _ hr3) ?_
        rintro _ _ ⟨rfl, rfl⟩
        refine aV (.ptr 1 0) [_, .cells 284 [.nilf, .fn (.func 201) [] [], .fn (.func 204) [] [], .fn (.func 205) [] [.ptr 2 0]], .cells 249 [.ptr 1 0]] Z Z ?_
        exact Wp
      ·refine Qa ?_ (Qe)
       ·refine Om Z (sD 0 sN) ?_
        exact S Z Wp
      ·refine Qa ?_ (Qe)
       ·refine Om Z (sD 2 (sD 3 sN)) ?_
        refine vX (.ptr 1 3) (Yg (i := a1.Kind) (n := 4) (k := 1) (j := 3) hg8 Z runUnderlying284 sizeOf248 Z) ?_
        exact Wp
     refine Bd h fun r9 hr9 h => ?_
     refine Qc [2, 1] (Qh call205 Z Z Z Z) (k_av _ _ _ hr9) ?_
     rintro _ _ ⟨rfl, rfl⟩
     refine aV (.osl 3 0 r9.length 1) [_, _, _, .row 5 1 (List.map (encI .u8) r9)] Z Z ?_
     refine U 2 Z (Nx (TC.ret ?_))
     obtain rfl := Oi h
     refine ⟨[(2, _), (3, _)], _, _, ?_, Qm Z Z Z, Z, Z⟩
     exact Lr [3]
    ·cases h
def F_fr (n : Nat) (r1 : (List Int) × Bool) (s13 : (List Value) × Int) : Option (Ctl ((List Value) × Int) (List Value)) :=
  (bif decide (s13.2 < (r1.1.length : Int)) then (idx r1.1 s13.2).bind fun x17 => (app s13.1 [{ Kind := 1, N := x17, S := [], L := [] : Value }]).bind fun l18 => some (.cont (l18, IntKind.i64.wrap (s13.2 + 1))) else some (.done s13.1))
def F_af (n : Nat) (a1 : Fact) : Option ((List Int) × Int) :=
  (F_ad n a1).bind fun r1 => (bif (!r1.2) then some ([], 120) else (iter (F_fr n r1) n ([], 0) : Option (List Value)).bind fun b10 => (F_cz n ({ Kind := 3, N := 0, S := [], L := b10 : Value })).bind fun r19 => some (r19.1, r19.2))
theorem k_af (n : Nat) (a1 : Fact) (r : (List Int) × Int) (h : F_af n a1 = some r) :
    C prog 50 [.agg (Fact.c a1)] [] (fun a H => a = .tup [.osl 0 0 r.1.length 1, I r.2] ∧ H = [.row 5 1 (List.map (encI .u8) r.1)]) := by
 refine Qd func50 Z Z Z ?_
 refine Rg (U 3 Z (Nx (Rg (U 1 Z (Bd h fun r1 hr1 h => ?_)))))
 refine Qc [] (OpC.fn call49 Z Z Z) (k_ad _ _ _ hr1) ?_
 rintro _ _ ⟨rfl, rfl⟩
 refine aV (.tup [.osl 1 0 r1.1.length 1, .bool r1.2]) [_, .row 3 1 (List.map (encI .i64) r1.1)] Z Z ?_
 refine U 5 Z (Nx (TC.seq (Rg (U 2 Z (Nx (Cn Z h (fun hc2 h => ?_) (fun hc2 h => ?_)))))))
 ·refine Rg (U 2 Z (Nx (RtR ?_)))
  obtain rfl := Oi h
  refine ⟨[(2, _), (3, _)], _, _, ?_, Qm Z Z Z, Z, Z⟩
  refine Le.trans (Le.phantom (s := 2) (k := 1) (t := 5) (Nat.le_of_ble_eq_true Z) Z) ?_
  exact Lr [2]
 refine QP (Rg ?_)
 refine vX (.agg [I 3, I 0, .str [], .nils]) (OpV.build (zs := [I 0, I 0, .str [], .nils]) zeroValue184 (zrC Z) Qhf) ?_
 refine vH (Qa4 (v := (.agg [I 0, I 0, .str [], .nils])) zeroValue184 (zrC Z)) ?_
 refine aV (.ptr 2 0) [_, _, .cells 184 [I 0, I 0, .str [], .nils]] Z Z ?_
 refine U 1 Z (Nx (TC.seq (Rg (U 3 Z (Nx (Bd h fun b10 h11 h => ?_))))))
 refine TC.cut ([(6, .ptr 0 0)]) ([.cells 184 [I 3, I 0, .str [], .osl 1 0 b10.length 4], .row 184 4 (List.map Value.enc b10)]) ?_ (fun env H hle => ?_)
 ·refine TC.block ?_
  refine TC.loop (E := fun s13 => [(6, .ptr 0 0), (17, .osl 2 0 r1.1.length 1), (18, I (r1.1.length : Int)), (19, I s13.2)]) (Hp := fun s13 => [.cells 184 [I 3, I 0, .str [], .osl 1 0 s13.1.length 4], .row 184 4 (List.map Value.enc s13.1), .row 3 1 (List.map (encI .i64) r1.1)]) h11 ?_ ?_
  ·refine Le.trans (Qfe (i := 2) (m := 3) (t := 184) (k := 4) Z Z Z) ?_
   exact Lr [2, 3, 1]
  intro s13 d14 h15 hb12
  refine Rg (U 1 Z (Nx (TC.seq (YK Z h15 (fun hc16 h15 => ?_) (fun hc16 h15 => ?_)))))
  ·refine YJ (Qv h15 ?_)
   obtain rfl := hb12 _ (Oi h15).symm
   exact QL (cutN (Lr [0, 1]))
  refine QP (TC.seq (TC.block (Rg (Bd h15 fun x17 hx17 h15 => ?_))))
  refine vX (.ptr 2 (Int.toNat s13.2 * 1)) (QY hx17 Z runUnderlying48 sizeOf3) ?_
  refine vX (I x17) (OpV.load Z isAgg3 Z (QH hx17)) ?_
  refine U 1 Z (Nx (TC.region (U 4 Z ?_)))
  refine vH (OpH.lit (xs := [.tmp 26]) (es := List.map Value.enc [{ Kind := 1, N := x17, S := [], L := [] : Value }]) Qim Z Z Z Z Z ⟨Z, trivial⟩ Z Z) ?_
  refine aV (.osl 3 0 ([{ Kind := 1, N := x17, S := [], L := [] : Value }].length) 4) [_, _, _, .row 184 4 (List.map Value.enc [{ Kind := 1, N := x17, S := [], L := [] : Value }])] Z Z ?_
  refine Bd h15 fun l18 hl18 h15 => ?_
  refine vH (Ya (e := Value.enc) hl18 Qim runUnderlying182 (Qaz (i := 3))) ?_
  refine aV (.osl 4 0 l18.length 4) [_, .dead, _, _, .row 184 4 (List.map Value.enc l18)] Z Z ?_
  exact U 2 Z (WO.nil (QB (Qf (TC.region (U 2 Z (WO.nil (Qp h15 (Lr [0, 4, 2]))))))))
 refine Qf (TC.le hle (Rg (U 1 Z ?_)))
 refine WO.le (QaS [(31, _)] Z Z (FzOv.cons Z (FzA.agg (FzL.cons (FzA.refl _) (FzL.cons (FzA.refl _) (FzL.cons (FzA.refl _) (FzL.cons (FzA.own (List.length_map ..).symm) (FzL.refl _)))))) FzOv.nil) (FzH.cells (FzL.cons (FzA.refl _) (FzL.cons (FzA.refl _) (FzL.cons (FzA.refl _) (FzL.cons (FzA.own (List.length_map ..).symm) (FzL.refl _))))) (FzH.keep (FzH.nil)))) ?_
 refine Bd h fun r19 hr19 h => ?_
 refine Qc [] (OpC.fn call85 Z Z Z) (k_cz _ _ _ hr19) ?_
 rintro _ _ ⟨rfl, rfl⟩
 refine aV (.tup [.osl 2 0 r19.1.length 1, I r19.2]) [.cells 184 [I 3, I 0, .str [], .rsl 4 (List.map Value.enc b10)], .dead, .row 5 1 (List.map (encI .u8) r19.1)] Z Z ?_
 refine U 4 Z (Nx (TC.ret ?_))
 obtain rfl := Oi h
 refine ⟨[(2, _), (3, _)], _, _, ?_, Qm Z Z Z, Z, Z⟩
 exact Lr [2]
def F_fp (n : Nat) (a1 : List Int) (a2 : List Int) : Option Unit :=
  some ()
theorem k_fp (n : Nat) (a1 : List Int) (a2 : List Int) (r : Unit) (h : F_fp n a1 a2 = some r) :
    C prog 51 [.rsl 1 (List.map (encI .u8) a1), .rsl 1 (List.map (encI .u8) a2)] [] (fun a H => a = I (cmpB a1 a2) ∧ H = []) := by
 refine Qd func51 Z Z Z ?_
 refine Rg (U 1 Z (Nx (Rg (U 2 Z ?_))))
 refine vX (I (cmpB a1 a2)) (OpV.cmpB (l := a1) (m := a2) func86 (by kernel_rfl) (by kernel_rfl) (by kernel_rfl) (by kernel_rfl) SrcB.rsl SrcB.rsl) ?_
 refine U 1 Z (Nx (TC.ret ?_))
 obtain rfl := Oi h
 refine ⟨[(4, _)], _, _, ?_, ResOK.one Z Z, Z, Z⟩
 exact Lr []
def F_bp (n : Nat) (a1 : Fact) (a2 : Fact) : Option Int :=
  (F_n n a1.At a2.At).bind fun r1 => (F_n n a1.Crew a2.Crew).bind fun r2 => (F_n n a1.No a2.No).bind fun r3 => (F_t n [r1, r2, r3]).bind fun r4 => (bif (r4 != 0) then some r4 else (F_af n a1).bind fun r6 => (F_af n a2).bind fun r7 => (F_fp n r6.1 r7.1).bind fun r8 => some (cmpB r6.1 r7.1))
theorem k_bp (n : Nat) (a1 : Fact) (a2 : Fact) (r : Int) (h : F_bp n a1 a2 = some r) :
    C prog 27 [.agg (Fact.c a1), .agg (Fact.c a2)] [] (fun a H => a = I r ∧ H = []) := by
 refine Qd func27 Z Z Z ?_
 refine Rg (U 3 Z (Nx (TC.seq (TC.seq ?_))))
 obtain ⟨r1, hr1, h⟩ := bnd h
 obtain ⟨r2, hr2, h⟩ := bnd h
 refine TC.draw0 14 [10, 11, 12, 13, 14, 15, 16, 17, 18, 19, 20, 21, 22, 23] [.ptr 0 2, I a1.At, .ptr 1 2, I a2.At, I r1, .ptr 0 0, I a1.Crew, .ptr 1 0, I a2.Crew, I r2, .ptr 0 1, I a1.No, .ptr 1 1, I a2.No] draws Z Z Z ?_ ?_
 ·refine ov (ov (ov (ov (Oq.c ?_ (ov (ov (ov (ov (Oq.c ?_ (ov (ov (ov (ov (Oq.n))))))))))))))
  ·refine Om Z (sD 1 (sD 3 sN)) ?_
   refine Qc [] (OpC.fn call41 Z Z Z) (k_n _ _ _ _ hr1) ?_
   rintro _ _ ⟨rfl, rfl⟩
   refine aV (I r1) [_, _] Z Z ?_
   exact Wp
  ·refine Om Z (sD 6 (sD 8 sN)) ?_
   refine Qc [] (OpC.fn call41 Z Z Z) (k_n _ _ _ _ hr2) ?_
   rintro _ _ ⟨rfl, rfl⟩
   refine aV (I r2) [_, _] Z Z ?_
   exact Wp
 refine Bd h fun r3 hr3 h => ?_
 refine Qc [] (OpC.fn call41 Z Z Z) (k_n _ _ _ _ hr3) ?_
 rintro _ _ ⟨rfl, rfl⟩
 refine aV (I r3) [_, _] Z Z ?_
 refine vH (Yo (xs := [.tmp 14, .tmp 19, .tmp 24]) (es := List.map (encI .i64) [r1, r2, r3]) QS Z Z Z Z Z ⟨Z, Z, Z, trivial⟩ Z Z) ?_
 refine aV (.rsl 1 (List.map (encI .i64) [r1, r2, r3])) [_, _] Z Z ?_
 refine Bd h fun r4 hr4 h => ?_
 refine Qc [] (OpC.fn call40 Z Z Z) (k_t _ _ _ hr4) ?_
 rintro _ _ ⟨rfl, rfl⟩
 refine aV (I r4) [_, _] Z Z ?_
 refine U 1 Z (Nx (Rg (U 2 Z (Nx (Cn Z h (fun hc5 h => ?_) (fun hc5 h => ?_))))))
 ·refine Rg (U 2 Z (Nx (RtR ?_)))
  obtain rfl := Oi h
  refine ⟨[(4, _)], _, _, ?_, ResOK.one Z Z, Z, Z⟩
  exact Lr []
 refine QP (Rg (U 1 Z (Bd h fun r6 hr6 h => ?_)))
 refine Qc [] (OpC.fn call50 Z Z Z) (k_af _ _ _ hr6) ?_
 rintro _ _ ⟨rfl, rfl⟩
 refine aV (.tup [.osl 2 0 r6.1.length 1, I r6.2]) [_, _, .row 5 1 (List.map (encI .u8) r6.1)] Z Z ?_
 refine U 5 Z (Nx (Rg (U 1 Z (Bd h fun r7 hr7 h => ?_))))
 refine Qc [] (OpC.fn call50 Z Z Z) (k_af _ _ _ hr7) ?_
 rintro _ _ ⟨rfl, rfl⟩
 refine aV (.tup [.osl 3 0 r7.1.length 1, I r7.2]) [_, _, _, .row 5 1 (List.map (encI .u8) r7.1)] Z Z ?_
 refine U 5 Z (Nx (Rg (U 2 Z (Bd h fun r8 hr8 h => ?_))))
 refine Qk (OpC.fn call51 rfl rfl rfl) (LookL.cons rfl (.inr ⟨_, _, _, _, _, rfl, rfl, List.length_map .., rfl⟩) (LookL.cons rfl (.inr ⟨_, _, _, _, _, rfl, rfl, List.length_map .., rfl⟩) LookL.nil)) (k_fp _ _ _ _ hr8) (by rintro _ _ ⟨rfl, rfl⟩; rfl) ?_
 rintro _ _ ⟨rfl, rfl⟩
 refine aV (I (cmpB r6.1 r7.1)) [_, _, _, _] Z Z ?_
 refine U 1 Z (Nx (TC.ret ?_))
 obtain rfl := Oi h
 refine ⟨[(4, _)], _, _, ?_, ResOK.one Z Z, Z, Z⟩
 exact Lr []
def F_df (n : Nat) (a1 : List (Int × Fact)) : Option Unit :=
  some ()
theorem k_df (n : Nat) (a1 : List (Int × Fact)) (r : Unit) (h : F_df n a1 = some r) :
    C prog 61 [.map 0] [.map (menc (fun x => A.int .i64 x) (fun x => A.agg (Fact.c x)) a1)] (fun a H => a = .fn (.func 129) [] [.ptr 1 0] ∧ H = [.map (menc (fun x => A.int .i64 x) (fun x => A.agg (Fact.c x)) a1), .cells 98 [.map 0]]) := by
 refine Qd func61 Z Z Z ?_
 refine Rg (U 2 Z (Nx (Rg (U 2 Z (Nx (TC.ret ?_))))))
 obtain rfl := Oi h
 refine ⟨[(2, _)], _, _, ?_, ResOK.one Z Z, Z, Z⟩
 exact Lr [0, 1]
def F_by (n : Nat) (a1 : List (Int × Fact)) : Option (List Int) :=
  anyK (List.map Prod.fst a1) fun p1 => (sortI p1).bind fun l4 => some l4
theorem k_by (n : Nat) (a1 : List (Int × Fact)) (r : List Int) (h : F_by n a1 = some r) :
    C prog 60 [.fn (.func 129) [] [.ptr 0 0]] [.cells 98 [.map 1], .map (menc (fun x => A.int .i64 x) (fun x => A.agg (Fact.c x)) a1)] (fun a H => a = .osl 2 0 r.length 1 ∧ H = [.dead, .fmap (menc (fun x => A.int .i64 x) (fun x => A.agg (Fact.c x)) a1), .row 3 1 (List.map (encI .i64) r)]) := by
 refine Qd func60 Z Z Z ?_
 refine Rg (U 1 Z (Nx (Rg (U 1 Z ?_))))
 refine WO.le (Qgo (i := 1) Z) ?_
 refine Ql (H := [.cells 98 [.map 1], .fmap (menc (fun x => A.int .i64 x) (fun x => A.agg (Fact.c x)) a1)]) Z ?_
 obtain ⟨h3, h⟩ := Qgl h
 refine Qc [0, 1] (OpC.fn call127 Z Z Z) (QiF _ h3) ?_
 rintro _ _ ⟨p1, h2, rfl, rfl⟩
 have h := h p1 h2
 refine aV (.osl 2 0 p1.length 1) [.dead, .fmap (menc (fun x => A.int .i64 x) (fun x => A.agg (Fact.c x)) a1), .row 3 1 (List.map (encI .i64) p1)] Z Z ?_
 refine U 1 Z (Nx (Rg (U 1 Z (Bd h fun l4 hl4 h => ?_))))
 refine Qc [2] (OpC.fn call128 Z Z Z) (Qj1 Qdn hl4) ?_
 rintro _ _ ⟨rfl, rfl⟩
 refine Qdi (x := .tup []) (H := [.dead, .fmap (menc (fun x => A.int .i64 x) (fun x => A.agg (Fact.c x)) a1), .row 3 1 (List.map (encI .i64) l4)]) Z Z ?_
 refine WO.le (QZ (s := 3) Z (congrArg (fun n => A.osl 2 0 n 1) (Qbh hl4))) ?_
 refine WO.le (QZ (s := 5) Z (congrArg (fun n => A.osl 2 0 n 1) (Qbh hl4))) ?_
 refine WO.le (QZ (s := 6) Z (congrArg (fun n => A.osl 2 0 n 1) (Qbh hl4))) ?_
 refine Nx (Rg (U 2 Z (Nx (TC.ret ?_))))
 obtain rfl := Oi h
 refine ⟨[(2, _)], _, _, ?_, ResOK.one Z Z, Z, Z⟩
 exact Lr [0, 1, 2]
def F_ft (n : Nat) (a1 : List (Int × Fact)) (r2 : List Int) (s15 : (List Fact) × Int) : Option (Ctl ((List Fact) × Int) (List Fact)) :=
  (bif decide (s15.2 < (r2.length : Int)) then (idx r2 s15.2).bind fun x19 => (some (mgetD a1 x19 z_Fact)).bind fun v20 => (app s15.1 [v20]).bind fun l21 => some (.cont (l21, IntKind.i64.wrap (s15.2 + 1))) else some (.done s15.1))
def F_ax (n : Nat) (a1 : List (Int × Fact)) : Option (List Fact) :=
  (F_df n a1).bind fun r1 => (F_by n a1).bind fun r2 => (iter (F_ft n a1 r2) n ([], 0) : Option (List Fact)).bind fun b12 => some b12
theorem k_ax (n : Nat) (a1 : List (Int × Fact)) (r : List Fact) (h : F_ax n a1 = some r) :
    C prog 34 [.map 0] [.map (menc (fun x => A.int .i64 x) (fun x => A.agg (Fact.c x)) a1)] (fun a H => a = .osl 1 0 r.length 57 ∧ H = [.fmap (menc (fun x => A.int .i64 x) (fun x => A.agg (Fact.c x)) a1), .row 81 57 (List.map Fact.c r)]) := by
 refine Qd func34 Z Z Z ?_
 refine Rg (U 1 Z (Nx (TC.seq (Rg (U 1 Z (Bd h fun r1 hr1 h => ?_))))))
 refine Qc [0] (OpC.fn call61 Z Z Z) (k_df _ _ _ hr1) ?_
 rintro _ _ ⟨rfl, rfl⟩
 refine aV (.fn (.func 129) [] [.ptr 1 0]) [_, .cells 98 [.map 0]] Z Z ?_
 refine Bd h fun r2 hr2 h => ?_
 refine Qc [1, 0] (OpC.fn call60 Z Z Z) (k_by _ _ _ hr2) ?_
 rintro _ _ ⟨rfl, rfl⟩
 refine aV (.osl 2 0 r2.length 1) [.fmap (menc (fun x => A.int .i64 x) (fun x => A.agg (Fact.c x)) a1), .dead, .row 3 1 (List.map (encI .i64) r2)] Z Z ?_
 refine U 2 Z (Nx (Bd h fun b12 h13 h => ?_))
 refine TC.cut ([(2, .osl 1 0 b12.length 57)]) ([.fmap (menc (fun x => A.int .i64 x) (fun x => A.agg (Fact.c x)) a1), .row 81 57 (List.map Fact.c b12)]) ?_ (fun env H hle => ?_)
 ·refine TC.block ?_
  refine TC.loop (E := fun s15 => [(0, .map 0), (2, .osl 1 0 s15.1.length 57), (7, .osl 2 0 r2.length 1), (8, I (r2.length : Int)), (9, I s15.2)]) (Hp := fun s15 => [.fmap (menc (fun x => A.int .i64 x) (fun x => A.agg (Fact.c x)) a1), .row 81 57 (List.map Fact.c s15.1), .row 3 1 (List.map (encI .i64) r2)]) h13 ?_ ?_
  ·refine Le.trans (Le.phantom (s := 2) (k := 57) (t := 81) (Nat.le_of_ble_eq_true Z) Z) ?_
   exact Lr [0, 3, 2]
  intro s15 d16 h17 hb14
  refine Rg (U 1 Z (Nx (TC.seq (YK Z h17 (fun hc18 h17 => ?_) (fun hc18 h17 => ?_)))))
  ·refine YJ (Qv h17 ?_)
   obtain rfl := hb14 _ (Oi h17).symm
   exact QL (cutN (Lr [0, 1]))
  refine QP (TC.seq (TC.block (Rg (Bd h17 fun x19 hx19 h17 => ?_))))
  refine vX (.ptr 2 (Int.toNat s15.2 * 1)) (QY hx19 Z runUnderlying48 sizeOf3) ?_
  refine vX (I x19) (OpV.load Z isAgg3 Z (QH hx19)) ?_
  refine U 1 Z (Nx (TC.region (U 3 Z (Bd h17 fun v20 hv20 h17 => ?_))))
  refine vX (.agg (Fact.c v20)) (QgX (ev := (fun x => A.agg (Fact.c x))) (z0 := z_Fact) (k := x19) (l := a1) Qax hv20 underlying98 zeroValue81 (zrC Z)) ?_
  refine vH (OpH.lit (xs := [.tmp 16]) (es := List.map Fact.c [v20]) Qil Z Z Z Z Z ⟨Z, trivial⟩ Z Z) ?_
  refine aV (.osl 3 0 ([v20].length) 57) [_, _, _, .row 81 57 (List.map Fact.c [v20])] Z Z ?_
  refine Bd h17 fun l21 hl21 h17 => ?_
  refine vH (Ya (e := Fact.c) hl21 Qil runUnderlying34 (Qaz (i := 3))) ?_
  refine aV (.osl 4 0 l21.length 57) [_, .dead, _, _, .row 81 57 (List.map Fact.c l21)] Z Z ?_
  exact U 1 Z (WO.nil (QB (Qf (TC.region (U 2 Z (WO.nil (Qp h17 (Lr [0, 4, 2]))))))))
 refine Qf (TC.le hle (Rg (U 2 Z (Nx (TC.ret ?_)))))
 obtain rfl := Oi h
 refine ⟨[(2, _)], _, _, ?_, ResOK.one Z Z, Z, Z⟩
 exact Lr [0, 1]
def F_fj (n : Nat) (a1 : Course) (a2 : List Fact) (s113 : (List (Int × Fact)) × Int) : Option (Ctl ((List (Int × Fact)) × Int) (List (Int × Fact))) :=
  (bif decide (s113.2 < (a2.length : Int)) then ((idx a2 s113.2).bind fun x144 => ((bif (x144.Kind != 1) then some true else (F_aj n x144).bind fun r152 => (bif (r152 != 0) then some true else (bif decide ((a1.Distances.length : Int) ≤ x144.Starter.Distance) then some true else some (decide ((a1.Waves.length : Int) ≤ x144.Starter.Wave))))) : Option Bool).bind fun b149 => (bif b149 then some s113.1 else (some (mgetD s113.1 x144.Starter.Bib z_Fact)).bind fun v156 => ((bif (!(mhas s113.1 x144.Starter.Bib)) then some true else (F_bp n x144 v156).bind fun r162 => some (decide (r162 < 0))) : Option Bool).bind fun b159 => ((bif b159 then (some (mset s113.1 x144.Starter.Bib x144)).bind fun m168 => some m168 else some s113.1) : Option (List (Int × Fact))).bind fun b165 => some b165) : Option (List (Int × Fact))).bind fun b142 => some (.cont (b142, IntKind.i64.wrap (s113.2 + 1))) else some (.done s113.1))
def F_az (n : Nat) (r170 : List Fact) (s187 : (List Starter) × (List (Int × Bool)) × Int) : Option (Ctl ((List Starter) × (List (Int × Bool)) × Int) (Ctl (List Starter) ((List Starter) × Int))) :=
  (bif decide (s187.2.2 < (r170.length : Int)) then (idx r170 s187.2.2).bind fun x191 => (some (mgetD s187.2.1 x191.Starter.Chip false)).bind fun v192 => (bif v192 then some (.done (.done ([], 180))) else (some (mset s187.2.1 x191.Starter.Chip true)).bind fun m194 => (app s187.1 [x191.Starter]).bind fun l195 => some (.cont (l195, m194, IntKind.i64.wrap (s187.2.2 + 1)))) else some (.done (.cont s187.1)))
def F_s (n : Nat) (a1 : Course) (a2 : List Fact) : Option ((List Starter) × Int) :=
  (F_w n a1).bind fun r1 => (bif (r1 != 0) then some ([], r1) else (iter (F_fj n a1 a2) n ([], 0) : Option (List (Int × Fact))).bind fun b110 => (bif decide (4000 < (b110.length : Int)) then some ([], 2) else (F_ax n b110).bind fun r170 => (iter (F_az n r170) n ([], [], 0) : Option (Ctl (List Starter) ((List Starter) × Int))).bind fun b184 => match b184 with | .cont sb184 => (some (sb184, 0)) | .done sb184 => some sb184))
theorem k_s (n : Nat) (a1 : Course) (a2 : List Fact) (r : (List Starter) × Int) (h : F_s n a1 a2 = some r) :
    C prog 13 [.agg (Course.c a1), .rsl 57 (List.map Fact.c a2)] [] (fun a H => a = .tup [.osl 0 0 r.1.length 8, I r.2] ∧ H = [.row 50 8 (List.map Starter.c r.1)]) := by
 refine Qd func13 Z Z Z ?_
 refine Rg (U 3 Z (Nx (TC.seq (Rg (U 1 Z (Bd h fun r1 hr1 h => ?_))))))
 refine Qc [] (OpC.fn call33 Z Z Z) (k_w _ _ _ hr1) ?_
 rintro _ _ ⟨rfl, rfl⟩
 refine aV (I r1) [_] Z Z ?_
 refine U 1 Z (Nx (Rg (U 2 Z (Nx (Cn Z h (fun hc2 h => ?_) (fun hc2 h => ?_))))))
 ·refine Rg (U 3 Z (Nx (RtR ?_)))
  obtain rfl := Oi h
  refine ⟨[(4, _), (5, _)], _, _, ?_, Qm Z Z Z, Z, Z⟩
  refine Le.trans (Le.phantom (s := 4) (k := 8) (t := 50) (Nat.le_of_ble_eq_true Z) Z) ?_
  exact Lr [1]
 refine QP (Rg ?_)
 refine vH QT ?_
 refine aV (.map 1) [_, .map (menc (fun x => A.int .i64 x) (fun x => A.agg (Fact.c x)) [])] Z Z ?_
 refine U 1 Z (Nx (TC.seq (Rg (U 1 Z (YI runUnderlying34 Z (U 1 Z (Nx (Bd h fun b110 h111 h => ?_))))))))
 refine TC.cut ([(4, .nils), (7, .map 0)]) ([.map (menc (fun x => A.int .i64 x) (fun x => A.agg (Fact.c x)) b110)]) ?_ (fun env H hle => ?_)
 ·refine TC.block ?_
  refine TC.loop (E := fun s113 => [(2, .ptr 0 0), (4, .nils), (7, .map 1), (22, .rsl 57 (List.map Fact.c a2)), (23, I (a2.length : Int)), (24, I s113.2)]) (Hp := fun s113 => [.cells 33 (Course.c a1), .map (menc (fun x => A.int .i64 x) (fun x => A.agg (Fact.c x)) s113.1)]) h111 ?_ ?_
  ·exact Lr [0, 1]
  intro s113 d114 h115 hb112
  refine Rg (U 1 Z (Nx (TC.seq (YK Z h115 (fun hc116 h115 => ?_) (fun hc116 h115 => ?_)))))
  ·refine YJ (Qv h115 ?_)
   obtain rfl := hb112 _ (Oi h115).symm
   exact QL (cutN (Lr [1]))
  refine QP (TC.seq (Bd h115 fun b142 h143 h115 => ?_))
  refine TC.cut ([(2, .ptr 0 0), (4, .nils), (7, .map 1), (22, .rsl 57 (List.map Fact.c a2)), (23, I (a2.length : Int)), (24, I s113.2)]) ([.cells 33 (Course.c a1), .map (menc (fun x => A.int .i64 x) (fun x => A.agg (Fact.c x)) b142)]) ?_ (fun env H hle => ?_)
  ·refine TC.block (Rg (Bd h143 fun x144 hx144 h143 => Ix hx144 runUnderlying34 sizeOf81 Z (U 3 Z (Nx (Rg (U 4 Z (Nx (TC.seq (TC.seq (Bd h143 fun b149 h150 h143 => ?_))))))))))
   refine TC.cut ([(2, .ptr 0 0), (4, .nils), (7, .map 1), (9, .ptr 2 0), (10, .ptr 3 0), (22, .rsl 57 (List.map Fact.c a2)), (23, I (a2.length : Int)), (24, I s113.2), (53, .bool b149)]) ([.cells 33 (Course.c a1), .map (menc (fun x => A.int .i64 x) (fun x => A.agg (Fact.c x)) s113.1), .cells 81 (Fact.c x144), .cells 50 (Starter.c x144.Starter)]) ?_ (fun env H hle => ?_)
   ·refine TC.region (U 4 Z (If h150 (fun hg151 h150 => ?_) (fun hg151 h150 => ?_)))
    ·refine KF hg151 Z (KF hg151 Z (KF hg151 Z (Pk hg151 Z (U 16 Z (WO.nil ?_)))))
     obtain rfl := Oi h150
     exact cutN (Lr [0, 1, 2, 3])
    ·refine vX (.agg (Fact.c x144)) (Qy Z isAgg81 sizeOf81 Z (Pts.cells Z Z) Z Z) ?_ (gT hg151)
     refine Bd h150 fun r152 hr152 h150 => ?_
     refine Qc [] (OpC.fn call26 Z Z Z) (k_aj _ _ _ hr152) ?_ (hg := (gT hg151))
     rintro _ _ ⟨rfl, rfl⟩
     refine aV (I r152) [_, _, _, _] Z Z ?_
     refine Sg (gT hg151) Z (Pk hg151 Z (U 1 Z (If h150 (fun hg153 h150 => ?_) (fun hg153 h150 => ?_))))
     ·refine KF hg153 Z (KF hg153 Z (KF hg153 Z (KF hg153 Z (KF hg153 Z (KF hg153 Z (Pk hg153 Z (U 8 Z (WO.nil ?_))))))))
      obtain rfl := Oi h150
      exact cutN (Lr [0, 1, 2, 3])
     ·refine QM (gT hg153) Qga Z (QR (gT hg153) isAgg3 Z (QM (gT hg153) QaE Z (QR (gT hg153) isAgg24 Z ?_)))
      refine vX (I (a1.Distances.length : Int)) (Qo (e := Distance.c) (l := a1.Distances) runUnderlying24) ?_ (gT hg153)
      refine Sg (gT hg153) Z (Pk hg153 Z (U 1 Z (If h150 (fun hg154 h150 => ?_) (fun hg154 h150 => ?_))))
      ·refine KF hg154 Z (KF hg154 Z (KF hg154 Z (KF hg154 Z (KF hg154 Z (KF hg154 Z (Pk hg154 Z (WO.nil ?_)))))))
       obtain rfl := Oi h150
       exact cutN (Lr [0, 1, 2, 3])
      ·refine QM (gT hg154) Qf9 Z (QR (gT hg154) isAgg3 Z (QM (gT hg154) QbL Z (QR (gT hg154) isAgg25 Z ?_)))
       refine vX (I (a1.Waves.length : Int)) (Qo (e := Wave.c) (l := a1.Waves) runUnderlying25) ?_ (gT hg154)
       refine Sg (gT hg154) Z (Pk hg154 Z (WO.nil ?_))
       obtain rfl := Oi h150
       exact cutN (Lr [0, 1, 2, 3])
   refine Qf (TC.le hle (Cn Z h143 (fun hc155 h143 => ?_) (fun hc155 h143 => ?_)))
   ·refine YJ (QL ?_)
    obtain rfl := Oi h143
    exact cutN (Lr [0, 1])
   refine QP (Rg (U 3 Z (Bd h143 fun v156 hv156 h143 => ?_)))
   refine vX (.tup [.agg (Fact.c v156), .bool (mhas s113.1 x144.Starter.Bib)]) (QfN (ev := (fun x => A.agg (Fact.c x))) (z0 := z_Fact) (k := x144.Starter.Bib) (l := s113.1) Qax hv156 underlying98 zeroValue81 (zrC Z)) ?_
   refine U 6 Z (Nx (TC.seq (Bd h143 fun b159 h160 h143 => ?_)))
   refine TC.cut ([(2, .ptr 0 0), (4, .nils), (7, .map 1), (9, .ptr 2 0), (10, .ptr 3 0), (22, .rsl 57 (List.map Fact.c a2)), (23, I (a2.length : Int)), (24, I s113.2), (68, .bool b159)]) ([.cells 33 (Course.c a1), .map (menc (fun x => A.int .i64 x) (fun x => A.agg (Fact.c x)) s113.1), .cells 81 (Fact.c x144), .cells 50 (Starter.c x144.Starter)]) ?_ (fun env H hle => ?_)
   ·refine TC.region (U 3 Z (If h160 (fun hg161 h160 => ?_) (fun hg161 h160 => ?_)))
    ·refine KF hg161 Z (KF hg161 Z (KF hg161 Z (KF hg161 Z (Pk hg161 Z (WO.nil ?_)))))
     obtain rfl := Oi h160
     exact cutN (Lr [0, 1, 2, 3])
    ·refine vX (.agg (Fact.c x144)) (Qy Z isAgg81 sizeOf81 Z (Pts.cells Z Z) Z Z) ?_ (gT hg161)
     refine vX (.agg (Fact.c v156)) (Qy Z isAgg81 sizeOf81 Z (Pts.cells Z Z) Z Z) ?_ (gT hg161)
     refine Bd h160 fun r162 hr162 h160 => ?_
     refine Qc [] (OpC.fn call27 Z Z Z) (k_bp _ _ _ _ hr162) ?_ (hg := (gT hg161))
     rintro _ _ ⟨rfl, rfl⟩
     refine aV (I r162) [_, _, _, _, _] Z Z ?_
     refine Sg (gT hg161) Z (Pk hg161 Z (WO.nil ?_))
     obtain rfl := Oi h160
     exact cutN (Lr [0, 1, 2, 3])
   refine Qf (TC.le hle (Bd h143 fun b165 h166 h143 => ?_))
   refine TC.cut ([(2, .ptr 0 0), (4, .nils), (7, .map 1), (22, .rsl 57 (List.map Fact.c a2)), (23, I (a2.length : Int)), (24, I s113.2)]) ([.cells 33 (Course.c a1), .map (menc (fun x => A.int .i64 x) (fun x => A.agg (Fact.c x)) b165)]) ?_ (fun env H hle => ?_)
   ·refine Cn Z h166 (fun hc167 h166 => ?_) (fun hc167 h166 => ?_)
    ·refine TC.region (U 4 Z (Bd h166 fun m168 hm168 h166 => ?_))
     refine vU (Q3 (ev := (fun x => A.agg (Fact.c x))) (k := x144.Starter.Bib) (v := x144) (l := s113.1) Qax hm168 Z underlying98) ?_
     refine Ql (H := [_, .map (menc (fun x => A.int .i64 x) (fun x => A.agg (Fact.c x)) m168), _, _]) Z ?_
     refine WO.nil ?_
     obtain rfl := Oi h166
     exact cutN (Lr [0, 1])
    refine TC.skip ?_
    obtain rfl := Oi h166
    exact cutN (Lr [0, 1])
   refine QB ?_
   obtain rfl := Oi h143
   exact cutN (Le.trans hle (Lr [0, 1]))
  exact Qf (TC.le hle (TC.region (U 2 Z (WO.nil (Qp h115 (Lr [0, 1]))))))
 refine Qf (TC.le hle (TC.seq (Rg (U 1 Z ?_))))
 refine vX (I (b110.length : Int)) (Qa3 (l := b110) underlying98 Z) ?_
 refine U 1 Z (Nx (Cn Z h (fun hc169 h => ?_) (fun hc169 h => ?_)))
 ·refine Rg (U 2 Z (Nx (RtR ?_)))
  obtain rfl := Oi h
  refine ⟨[(4, _), (5, _)], _, _, ?_, Qm Z Z Z, Z, Z⟩
  refine Le.trans (Le.phantom (s := 4) (k := 8) (t := 50) (Nat.le_of_ble_eq_true Z) Z) ?_
  exact Lr [1]
 refine QP (Rg ?_)
 refine vH QT ?_
 refine aV (.map 1) [_, .map (menc (fun x => A.int .i64 x) A.bool [])] Z Z ?_
 refine U 1 Z (Nx (TC.seq (Rg (U 1 Z (Bd h fun r170 hr170 h => ?_)))))
 refine Qc [0] (OpC.fn call34 Z Z Z) (k_ax _ _ _ hr170) ?_
 rintro _ _ ⟨rfl, rfl⟩
 refine aV (.osl 2 0 r170.length 57) [.fmap (menc (fun x => A.int .i64 x) (fun x => A.agg (Fact.c x)) b110), _, .row 81 57 (List.map Fact.c r170)] Z Z ?_
 refine U 2 Z (Nx (Bd h fun b184 h185 h => ?_))
 refine Qn (b := b184) (fun sb184 => [(4, .osl 0 0 sb184.length 8)]) (fun sb184 => [.row 50 8 (List.map Starter.c sb184)]) ?_ (fun sb184 env H hbe hle => ?_)
 ·refine TC.block ?_
  refine TC.loop (E := fun s187 => [(4, .osl 0 0 s187.1.length 8), (13, .map 1), (79, .osl 2 0 r170.length 57), (80, I (r170.length : Int)), (81, I s187.2.2)]) (Hp := fun s187 => [.row 50 8 (List.map Starter.c s187.1), .map (menc (fun x => A.int .i64 x) A.bool s187.2.1), .row 81 57 (List.map Fact.c r170)]) h185 ?_ ?_
  ·refine Le.trans (Le.phantom (s := 4) (k := 8) (t := 50) (Nat.le_of_ble_eq_true Z) Z) ?_
   exact Lr [3, 1, 2]
  intro s187 d188 h189 hb186
  refine Rg (U 1 Z (Nx (TC.seq (YK Z h189 (fun hc190 h189 => ?_) (fun hc190 h189 => ?_)))))
  ·refine YJ (Qv h189 ?_)
   obtain rfl := hb186 _ (Oi h189).symm
   exact QL (Qt Z (Lr [0]))
  refine QP (TC.seq (TC.block (Rg (Bd h189 fun x191 hx191 h189 => ?_))))
  refine vX (.ptr 2 (Int.toNat s187.2.2 * 57)) (QY hx191 Z runUnderlying34 sizeOf81) ?_
  refine vX (.agg (Fact.c x191)) (Qy Z isAgg81 sizeOf81 Z (QH hx191) Z Z) ?_
  refine U 2 Z (Nx (TC.seq (Rg (U 4 Z (Bd h189 fun v192 hv192 h189 => ?_)))))
  refine vX (.bool v192) (QX (ev := A.bool) (z0 := false) (k := x191.Starter.Chip) (l := s187.2.1) Qax hv192 underlying57 zeroValue4 ZR.bool) ?_
  refine Nx (Cn Z h189 (fun hc193 h189 => ?_) (fun hc193 h189 => ?_))
  ·refine Rg (U 2 Z (Nx (RtR (Qj (Qi (QJ h189 ?_))))))
   obtain rfl := hb186 _ (Oi h189).symm
   refine Qj (QC (Qi ?_))
   obtain rfl := Oi h
   refine ⟨[(4, _), (5, _)], _, _, ?_, Qm Z Z Z, Z, Z⟩
   refine Le.trans (Le.phantom (s := 4) (k := 8) (t := 50) (Nat.le_of_ble_eq_true Z) Z) ?_
   exact Lr [4]
  refine QP (Rg (U 4 Z (Bd h189 fun m194 hm194 h189 => ?_)))
  refine vU (Q3 (ev := A.bool) (k := x191.Starter.Chip) (v := true) (l := s187.2.1) Qax hm194 Z underlying57) ?_
  refine Ql (H := [_, .map (menc (fun x => A.int .i64 x) A.bool m194), _, _]) Z ?_
  refine Nx (TC.region (U 3 Z ?_))
  refine vH (OpH.lit (xs := [.tmp 96]) (es := List.map Starter.c [x191.Starter]) Qka Z Z Z Z Z ⟨Z, trivial⟩ Z Z) ?_
  refine aV (.osl 4 0 ([x191.Starter].length) 8) [_, _, _, _, .row 50 8 (List.map Starter.c [x191.Starter])] Z Z ?_
  refine Bd h189 fun l195 hl195 h189 => ?_
  refine vH (Ya (e := Starter.c) hl195 Qka runUnderlying38 (Qaz (i := 4))) ?_
  refine aV (.osl 5 0 l195.length 8) [.dead, _, _, _, _, .row 50 8 (List.map Starter.c l195)] Z Z ?_
  exact U 1 Z (WO.nil (QB (Qf (TC.region (U 2 Z (WO.nil (Qp h189 (Lr [5, 1, 2]))))))))
 subst hbe
 refine Qf (TC.le hle (Rg (U 3 Z (Nx (TC.ret ?_)))))
 obtain rfl := Oi h
 refine ⟨[(4, _), (5, _)], _, _, ?_, Qm Z Z Z, Z, Z⟩
 exact Lr [0]
def F_en (n : Nat) (a1 : List (Pair × Bool)) : Option Unit :=
  some ()
theorem k_en (n : Nat) (a1 : List (Pair × Bool)) (r : Unit) (h : F_en n a1 = some r) :
    C prog 38 [.map 0] [.map (menc (fun x => A.agg (Pair.c x)) A.bool a1)] (fun a H => a = .fn (.func 66) [] [.ptr 1 0] ∧ H = [.map (menc (fun x => A.agg (Pair.c x)) A.bool a1), .cells 103 [.map 0]]) := by
 refine Qd func38 Z Z Z ?_
 refine Rg (U 2 Z (Nx (Rg (U 2 Z (Nx (TC.ret ?_))))))
 obtain rfl := Oi h
 refine ⟨[(2, _)], _, _, ?_, ResOK.one Z Z, Z, Z⟩
 exact Lr [0, 1]
def F_am (n : Nat) (a1 : Pair) (a2 : Pair) : Option Int :=
  (F_n n a1.A a2.A).bind fun r1 => (F_n n a1.B a2.B).bind fun r2 => (F_t n [r1, r2]).bind fun r3 => some r3
theorem k_am (n : Nat) (a1 : Pair) (a2 : Pair) (r : Int) (h : F_am n a1 a2 = some r) :
    C prog 39 [.agg (Pair.c a1), .agg (Pair.c a2)] [] (fun a H => a = I r ∧ H = []) := by
 refine Qd func39 Z Z Z ?_
 refine Rg (U 3 Z (Nx (TC.seq ?_)))
 obtain ⟨r1, hr1, h⟩ := bnd h
 refine TC.draw0 9 [5, 6, 7, 8, 9, 10, 11, 12, 13] [.ptr 0 0, I a1.A, .ptr 1 0, I a2.A, I r1, .ptr 0 1, I a1.B, .ptr 1 1, I a2.B] draws Z Z Z ?_ ?_
 ·refine ov (ov (ov (ov (Oq.c ?_ (ov (ov (ov (ov (Oq.n)))))))))
  ·refine Om Z (sD 1 (sD 3 sN)) ?_
   refine Qc [] (OpC.fn call41 Z Z Z) (k_n _ _ _ _ hr1) ?_
   rintro _ _ ⟨rfl, rfl⟩
   refine aV (I r1) [_, _] Z Z ?_
   exact Wp
 refine Bd h fun r2 hr2 h => ?_
 refine Qc [] (OpC.fn call41 Z Z Z) (k_n _ _ _ _ hr2) ?_
 rintro _ _ ⟨rfl, rfl⟩
 refine aV (I r2) [_, _] Z Z ?_
 refine vH (Yo (xs := [.tmp 9, .tmp 14]) (es := List.map (encI .i64) [r1, r2]) QS Z Z Z Z Z ⟨Z, Z, trivial⟩ Z Z) ?_
 refine aV (.rsl 1 (List.map (encI .i64) [r1, r2])) [_, _] Z Z ?_
 refine Bd h fun r3 hr3 h => ?_
 refine Qc [] (OpC.fn call40 Z Z Z) (k_t _ _ _ hr3) ?_
 rintro _ _ ⟨rfl, rfl⟩
 refine aV (I r3) [_, _] Z Z ?_
 refine U 1 Z (Nx (TC.ret ?_))
 obtain rfl := Oi h
 refine ⟨[(4, _)], _, _, ?_, ResOK.one Z Z, Z, Z⟩
 exact Lr []
def F_ap (n : Nat) (a1 : List (Pair × Bool)) : Option (List Pair) :=
  anyK (List.map Prod.fst a1) fun p1 => (sortF (fun x y => F_am n x y) p1).bind fun l4 => some l4
theorem k_ap (n : Nat) (a1 : List (Pair × Bool)) (r : List Pair) (h : F_ap n a1 = some r) :
    C prog 37 [.fn (.func 66) [] [.ptr 0 0], .fn (.func 39) [] []] [.cells 103 [.map 1], .map (menc (fun x => A.agg (Pair.c x)) A.bool a1)] (fun a H => a = .osl 2 0 r.length 2 ∧ H = [.dead, .fmap (menc (fun x => A.agg (Pair.c x)) A.bool a1), .row 59 2 (List.map Pair.c r)]) := by
 refine Qd func37 Z Z Z ?_
 refine Rg (U 1 Z (Nx (Rg (U 1 Z ?_))))
 refine WO.le (Qgo (i := 1) Z) ?_
 refine Ql (H := [.cells 103 [.map 1], .fmap (menc (fun x => A.agg (Pair.c x)) A.bool a1)]) Z ?_
 obtain ⟨h3, h⟩ := Qgl h
 refine Qc [0, 1] (OpC.fn call64 Z Z Z) (QkF _ h3) ?_
 rintro _ _ ⟨p1, h2, rfl, rfl⟩
 have h := h p1 h2
 refine aV (.osl 2 0 p1.length 2) [.dead, .fmap (menc (fun x => A.agg (Pair.c x)) A.bool a1), .row 59 2 (List.map Pair.c p1)] Z Z ?_
 refine U 1 Z (Nx (Rg (U 2 Z (Bd h fun l4 hl4 h => ?_))))
 refine Qc [2] (OpC.fn call65 Z Z Z) (Qj0 (enc := Pair.c) Qd2 hl4 (fun x y c h => k_am n x y c h) isAgg59 sizeOf59 call39 (fun _ => rfl) Z) ?_
 rintro _ _ ⟨rfl, rfl⟩
 refine Qdi (x := .tup []) (H := [.dead, .fmap (menc (fun x => A.agg (Pair.c x)) A.bool a1), .row 59 2 (List.map Pair.c l4)]) Z Z ?_
 refine WO.le (QZ (s := 5) Z (congrArg (fun n => A.osl 2 0 n 2) (Qb1 hl4))) ?_
 refine WO.le (QZ (s := 7) Z (congrArg (fun n => A.osl 2 0 n 2) (Qb1 hl4))) ?_
 refine WO.le (QZ (s := 8) Z (congrArg (fun n => A.osl 2 0 n 2) (Qb1 hl4))) ?_
 refine Nx (Rg (U 2 Z (Nx (TC.ret ?_))))
 obtain rfl := Oi h
 refine ⟨[(4, _)], _, _, ?_, ResOK.one Z Z, Z, Z⟩
 exact Lr [0, 1, 2]
def F_eu (n : Nat) (r1 : (List Starter) × Int) (s13 : (List (Int × Bool)) × Int) : Option (Ctl ((List (Int × Bool)) × Int) (List (Int × Bool))) :=
  (bif decide (s13.2 < (r1.1.length : Int)) then (idx r1.1 s13.2).bind fun x17 => (some (mset s13.1 x17.Bib true)).bind fun m18 => some (.cont (m18, IntKind.i64.wrap (s13.2 + 1))) else some (.done s13.1))
def F_ev (n : Nat) (a2 : List Fact) (b10 : List (Int × Bool)) (s67 : (List (Pair × Bool)) × Int) : Option (Ctl ((List (Pair × Bool)) × Int) (List (Pair × Bool))) :=
  (bif decide (s67.2 < (a2.length : Int)) then (idx a2 s67.2).bind fun x71 => ((bif (x71.Kind == 7) then (F_aj n x71).bind fun r81 => (bif (r81 == 0) then (some (mgetD b10 x71.Pair.A false)).bind fun v83 => (bif v83 then (some (mgetD b10 x71.Pair.B false)).bind fun v85 => some v85 else some false) else some false) else some false) : Option Bool).bind fun b78 => ((bif b78 then (some (mset s67.1 x71.Pair true)).bind fun m91 => some m91 else some s67.1) : Option (List (Pair × Bool))).bind fun b88 => some (.cont (b88, IntKind.i64.wrap (s67.2 + 1))) else some (.done s67.1))
def F_ai (n : Nat) (a1 : Course) (a2 : List Fact) : Option ((List Pair) × Int) :=
  (F_s n a1 a2).bind fun r1 => (bif (r1.2 != 0) then some ([], r1.2) else (iter (F_eu n r1) n ([], 0) : Option (List (Int × Bool))).bind fun b10 => (iter (F_ev n a2 b10) n ([], 0) : Option (List (Pair × Bool))).bind fun b64 => (bif decide (16 < (b64.length : Int)) then some ([], 2) else (F_en n b64).bind fun r93 => (F_ap n b64).bind fun r94 => some (r94, 0)))
theorem k_ai (n : Nat) (a1 : Course) (a2 : List Fact) (r : (List Pair) × Int) (h : F_ai n a1 a2 = some r) :
    C prog 15 [.agg (Course.c a1), .rsl 57 (List.map Fact.c a2)] [] (fun a H => a = .tup [.osl 0 0 r.1.length 2, I r.2] ∧ H = [.row 59 2 (List.map Pair.c r.1)]) := by
 refine Qd func15 Z Z Z ?_
 refine Rg (U 3 Z (Nx (Rg (U 2 Z (Bd h fun r1 hr1 h => ?_)))))
 refine Qc [] (OpC.fn call13 Z Z Z) (k_s _ _ _ _ hr1) ?_
 rintro _ _ ⟨rfl, rfl⟩
 refine aV (.tup [.osl 1 0 r1.1.length 8, I r1.2]) [_, .row 50 8 (List.map Starter.c r1.1)] Z Z ?_
 refine U 5 Z (Nx (TC.seq (Rg (U 2 Z (Nx (Cn Z h (fun hc2 h => ?_) (fun hc2 h => ?_)))))))
 ·refine Rg (U 3 Z (Nx (RtR ?_)))
  obtain rfl := Oi h
  refine ⟨[(4, _), (5, _)], _, _, ?_, Qm Z Z Z, Z, Z⟩
  refine Le.trans (Le.phantom (s := 4) (k := 2) (t := 59) (Nat.le_of_ble_eq_true Z) Z) ?_
  exact Lr [2]
 refine QP (Rg ?_)
 refine vH QT ?_
 refine aV (.map 2) [_, _, .map (menc (fun x => A.int .i64 x) A.bool [])] Z Z ?_
 refine U 1 Z (Nx (TC.seq (Rg (U 3 Z (Nx (Bd h fun b10 h11 h => ?_))))))
 refine TC.cut ([(1, .rsl 57 (List.map Fact.c a2)), (7, .map 0)]) ([.map (menc (fun x => A.int .i64 x) A.bool b10)]) ?_ (fun env H hle => ?_)
 ·refine TC.block ?_
  refine TC.loop (E := fun s13 => [(1, .rsl 57 (List.map Fact.c a2)), (7, .map 0), (23, .osl 1 0 r1.1.length 8), (24, I (r1.1.length : Int)), (25, I s13.2)]) (Hp := fun s13 => [.map (menc (fun x => A.int .i64 x) A.bool s13.1), .row 50 8 (List.map Starter.c r1.1)]) h11 ?_ ?_
  ·exact Lr [2, 1]
  intro s13 d14 h15 hb12
  refine Rg (U 1 Z (Nx (TC.seq (YK Z h15 (fun hc16 h15 => ?_) (fun hc16 h15 => ?_)))))
  ·refine YJ (Qv h15 ?_)
   obtain rfl := hb12 _ (Oi h15).symm
   exact QL (cutN (Lr [0]))
  refine QP (TC.seq (TC.block (Rg (Bd h15 fun x17 hx17 h15 => ?_))))
  refine vX (.ptr 1 (Int.toNat s13.2 * 8)) (QY hx17 Z runUnderlying38 sizeOf50) ?_
  refine vX (.agg (Starter.c x17)) (Qy Z isAgg50 sizeOf50 Z (QH hx17) Z Z) ?_
  refine U 2 Z (Nx (TC.region (U 3 Z (Bd h15 fun m18 hm18 h15 => ?_))))
  refine vU (Q3 (ev := A.bool) (k := x17.Bib) (v := true) (l := s13.1) Qax hm18 Z underlying57) ?_
  refine Ql (H := [.map (menc (fun x => A.int .i64 x) A.bool m18), _, _]) Z ?_
  exact WO.nil (QB (Qf (TC.region (U 2 Z (WO.nil (Qp h15 (Lr [0, 1])))))))
 refine Qf (TC.le hle (Rg ?_))
 refine vH QT ?_
 refine aV (.map 1) [_, .map (menc (fun x => A.agg (Pair.c x)) A.bool [])] Z Z ?_
 refine U 1 Z (Nx (TC.seq (Rg (U 1 Z (YI runUnderlying34 Z (U 1 Z (Nx (Bd h fun b64 h65 h => ?_))))))))
 refine TC.cut ([(10, .map 0)]) ([.map (menc (fun x => A.agg (Pair.c x)) A.bool b64)]) ?_ (fun env H hle => ?_)
 ·refine TC.block ?_
  refine TC.loop (E := fun s67 => [(7, .map 0), (10, .map 1), (34, .rsl 57 (List.map Fact.c a2)), (35, I (a2.length : Int)), (36, I s67.2)]) (Hp := fun s67 => [.map (menc (fun x => A.int .i64 x) A.bool b10), .map (menc (fun x => A.agg (Pair.c x)) A.bool s67.1)]) h65 ?_ ?_
  ·exact Lr [0, 1]
  intro s67 d68 h69 hb66
  refine Rg (U 1 Z (Nx (TC.seq (YK Z h69 (fun hc70 h69 => ?_) (fun hc70 h69 => ?_)))))
  ·refine YJ (Qv h69 ?_)
   obtain rfl := hb66 _ (Oi h69).symm
   exact QL (cutN (Lr [1]))
  refine QP (TC.seq (TC.block (Rg (Bd h69 fun x71 hx71 h69 => Ix hx71 runUnderlying34 sizeOf81 Z (U 3 Z (Nx (TC.seq (Bd h69 fun b78 h79 h69 => ?_))))))))
  refine TC.cut ([(7, .map 0), (10, .map 1), (12, .ptr 2 0), (34, .rsl 57 (List.map Fact.c a2)), (35, I (a2.length : Int)), (36, I s67.2), (61, .bool b78)]) ([.map (menc (fun x => A.int .i64 x) A.bool b10), .map (menc (fun x => A.agg (Pair.c x)) A.bool s67.1), .cells 81 (Fact.c x71)]) ?_ (fun env H hle => ?_)
  ·refine TC.region (U 4 Z (If h79 (fun hg80 h79 => ?_) (fun hg80 h79 => ?_)))
   ·refine vX (.agg (Fact.c x71)) (Qy Z isAgg81 sizeOf81 Z (Pts.cells Z Z) Z Z) ?_ (gT hg80)
    refine Bd h79 fun r81 hr81 h79 => ?_
    refine Qc [] (OpC.fn call26 Z Z Z) (k_aj _ _ _ hr81) ?_ (hg := (gT hg80))
    rintro _ _ ⟨rfl, rfl⟩
    refine aV (I r81) [_, _, _] Z Z ?_
    refine Sg (gT hg80) Z (Pk hg80 Z (U 1 Z (If h79 (fun hg82 h79 => ?_) (fun hg82 h79 => ?_))))
    ·refine Sg (gT hg82) Z (QM (gT hg82) Qc1 Z (QM (gT hg82) QcF Z (QR (gT hg82) isAgg3 Z (Bd h79 fun v83 hv83 h79 => ?_))))
     refine vX (.bool v83) (QX (ev := A.bool) (z0 := false) (k := x71.Pair.A) (l := b10) Qax hv83 underlying57 zeroValue4 ZR.bool) ?_ (gT hg82)
     refine Pk hg82 Z (U 1 Z (If h79 (fun hg84 h79 => ?_) (fun hg84 h79 => ?_)))
     ·refine Sg (gT hg84) Z (QM (gT hg84) Qc1 Z (QM (gT hg84) Qd7 Z (QR (gT hg84) isAgg3 Z (Bd h79 fun v85 hv85 h79 => ?_))))
      refine vX (.bool v85) (QX (ev := A.bool) (z0 := false) (k := x71.Pair.B) (l := b10) Qax hv85 underlying57 zeroValue4 ZR.bool) ?_ (gT hg84)
      refine Pk hg84 Z (WO.nil ?_)
      obtain rfl := Oi h79
      exact cutN (Lr [0, 1, 2])
     ·refine KF hg84 Z (KF hg84 Z (KF hg84 Z (KF hg84 Z (KF hg84 Z (Pk hg84 Z (WO.nil ?_))))))
      obtain rfl := Oi h79
      exact cutN (Lr [0, 1, 2])
    ·refine KF hg82 Z (KF hg82 Z (KF hg82 Z (KF hg82 Z (KF hg82 Z (Pk hg82 Z (U 7 Z (WO.nil ?_)))))))
     obtain rfl := Oi h79
     exact cutN (Lr [0, 1, 2])
   ·refine KF hg80 Z (KF hg80 Z (KF hg80 Z (Pk hg80 Z (U 14 Z (WO.nil ?_)))))
    obtain rfl := Oi h79
    exact cutN (Lr [0, 1, 2])
  refine Qf (TC.le hle (Bd h69 fun b88 h89 h69 => ?_))
  refine TC.cut ([(7, .map 0), (10, .map 1), (34, .rsl 57 (List.map Fact.c a2)), (35, I (a2.length : Int)), (36, I s67.2)]) ([.map (menc (fun x => A.int .i64 x) A.bool b10), .map (menc (fun x => A.agg (Pair.c x)) A.bool b88)]) ?_ (fun env H hle => ?_)
  ·refine Cn Z h89 (fun hc90 h89 => ?_) (fun hc90 h89 => ?_)
   ·refine TC.region (U 3 Z (Bd h89 fun m91 hm91 h89 => ?_))
    refine vU (Q3 (ev := A.bool) (k := x71.Pair) (v := true) (l := s67.1) QkL hm91 Z underlying103) ?_
    refine Ql (H := [_, .map (menc (fun x => A.agg (Pair.c x)) A.bool m91), _]) Z ?_
    refine WO.nil ?_
    obtain rfl := Oi h89
    exact cutN (Lr [0, 1])
   refine TC.skip ?_
   obtain rfl := Oi h89
   exact cutN (Lr [0, 1])
  exact QB (Qf (TC.le hle (TC.region (U 2 Z (WO.nil (Qp h69 (Lr [0, 1])))))))
 refine Qf (TC.le hle (TC.seq (Rg (U 1 Z ?_))))
 refine vX (I (b64.length : Int)) (Qa3 (l := b64) underlying103 Z) ?_
 refine U 1 Z (Nx (Cn Z h (fun hc92 h => ?_) (fun hc92 h => ?_)))
 ·refine Rg (U 2 Z (Nx (RtR ?_)))
  obtain rfl := Oi h
  refine ⟨[(4, _), (5, _)], _, _, ?_, Qm Z Z Z, Z, Z⟩
  refine Le.trans (Le.phantom (s := 4) (k := 2) (t := 59) (Nat.le_of_ble_eq_true Z) Z) ?_
  exact Lr [1]
 refine QP (Rg (U 1 Z (Bd h fun r93 hr93 h => ?_)))
 refine Qc [0] (OpC.fn call38 Z Z Z) (k_en _ _ _ hr93) ?_
 rintro _ _ ⟨rfl, rfl⟩
 refine aV (.fn (.func 66) [] [.ptr 1 0]) [_, .cells 103 [.map 0]] Z Z ?_
 refine Bd h fun r94 hr94 h => ?_
 refine Qc [1, 0] (OpC.fn call37 Z Z Z) (k_ap _ _ _ hr94) ?_
 rintro _ _ ⟨rfl, rfl⟩
 refine aV (.osl 2 0 r94.length 2) [.fmap (menc (fun x => A.agg (Pair.c x)) A.bool b64), .dead, .row 59 2 (List.map Pair.c r94)] Z Z ?_
 refine U 2 Z (Nx (TC.ret ?_))
 obtain rfl := Oi h
 refine ⟨[(4, _), (5, _)], _, _, ?_, Qm Z Z Z, Z, Z⟩
 exact Lr [2]
def F_fe (n : Nat) (a1 : Starter) (a2 : Int) : Option Unit :=
  some ()
theorem k_fe (n : Nat) (a1 : Starter) (a2 : Int) (r : Unit) (h : F_fe n a1 a2 = some r) :
    C prog 69 [.agg (Starter.c a1), .ptr 0 0] [.cells 3 [I a2]] (fun a H => a = .bool (a1.Bib == a2) ∧ H = [.cells 3 [I a2]]) := by
 refine Qd func69 Z Z Z ?_
 refine Rg (U 2 Z (Nx (Rg (U 5 Z (Nx (TC.ret ?_))))))
 obtain rfl := Oi h
 refine ⟨[(3, _)], _, _, ?_, ResOK.one Z Z, Z, Z⟩
 exact Lr [0]
def F_et (n : Nat) (a1 : List Starter) (a2 : Int) (s13 : Int) : Option (Ctl Int (Ctl Unit Int)) :=
  (bif decide (s13 < (a1.length : Int)) then (idx a1 s13).bind fun x17 => (F_fe n x17 a2).bind fun r18 => (bif (x17.Bib == a2) then some (.done (.done s13)) else some (.cont (IntKind.i64.wrap (s13 + 1)))) else some (.done (.cont ())))
def F_bm (n : Nat) (a1 : List Starter) (a2 : Int) : Option Int :=
  (iter (F_et n a1 a2) n 0 : Option (Ctl Unit Int)).bind fun b10 => match b10 with | .cont sb10 => (some (-1)) | .done sb10 => some sb10
theorem k_bm (n : Nat) (a1 : List Starter) (a2 : Int) (r : Int) (h : F_bm n a1 a2 = some r) :
    C prog 68 [.rsl 8 (List.map Starter.c a1), .fn (.func 69) [] [.ptr 0 0]] [.cells 3 [I a2]] (fun a H => a = I r ∧ H = [.cells 3 [I a2]]) := by
 refine Qd func68 Z Z Z ?_
 refine Rg (U 1 Z (Nx (TC.seq (Rg (U 1 Z (YI runUnderlying38 Z (U 1 Z (Nx (Bd h fun b10 h11 h => ?_)))))))))
 refine Qn (b := b10) (fun sb10 => []) (fun sb10 => [.cells 3 [I a2]]) ?_ (fun sb10 env H hbe hle => ?_)
 ·refine TC.block ?_
  refine TC.loop (E := fun s13 => [(0, .rsl 8 (List.map Starter.c a1)), (1, .fn (.func 69) [] [.ptr 0 0]), (7, I (a1.length : Int)), (8, I s13)]) (Hp := fun s13 => [.cells 3 [I a2]]) h11 ?_ ?_
  ·exact Lr [0]
  intro s13 d14 h15 hb12
  refine Rg (U 1 Z (Nx (TC.seq (YK Z h15 (fun hc16 h15 => ?_) (fun hc16 h15 => ?_)))))
  ·refine YJ (Qv h15 ?_)
   obtain rfl := hb12 _ (Oi h15).symm
   exact QL (Qt Z (Lr [0]))
  refine QP (TC.seq (TC.block (Rg (U 2 Z (Nx (Rg (U 3 Z (Bd h15 fun x17 hx17 h15 => Ix hx17 runUnderlying38 sizeOf50 Z (U 1 Z (Bd h15 fun r18 hr18 h15 => ?_))))))))))
  refine Qc [0] (Qh call69 Z Z Z Z) (k_fe _ _ _ _ hr18) ?_
  rintro _ _ ⟨rfl, rfl⟩
  refine aV (.bool (x17.Bib == a2)) [_] Z Z ?_
  refine Nx (Cn Z h15 (fun hc19 h15 => ?_) (fun hc19 h15 => ?_))
  ·refine Rg (U 2 Z (Nx (TC.ret (Qj (Qi (QJ h15 ?_))))))
   obtain rfl := hb12 _ (Oi h15).symm
   refine Qj (QC (Qi ?_))
   obtain rfl := Oi h
   refine ⟨[(4, _)], _, _, ?_, ResOK.one Z Z, Z, Z⟩
   exact Lr [0]
  exact TC.skip (QB (Qf (TC.region (U 2 Z (WO.nil (Qp h15 (Lr [0])))))))
 subst hbe
 refine Qf (TC.le hle (Rg (U 1 Z (Nx (TC.ret ?_)))))
 obtain rfl := Oi h
 refine ⟨[(4, _)], _, _, ?_, ResOK.one Z Z, Z, Z⟩
 exact Lr [0]
def F_ab (n : Nat) (a1 : List Starter) (a2 : Int) : Option (Starter × Bool) :=
  (F_bm n a1 a2).bind fun r1 => (bif decide (r1 < 0) then some (z_Starter, false) else (idx a1 r1).bind fun x3 => some (x3, true))
theorem k_ab (n : Nat) (a1 : List Starter) (a2 : Int) (r : Starter × Bool) (h : F_ab n a1 a2 = some r) :
    C prog 43 [.rsl 8 (List.map Starter.c a1), I a2] [] (fun a H => a = .tup [.agg (Starter.c r.1), .bool r.2] ∧ H = [.cells 50 (Starter.c r.1)]) := by
 refine Qd func43 Z Z Z ?_
 refine Rg (U 3 Z (Nx (Rg (U 2 Z (Bd h fun r1 hr1 h => ?_)))))
 refine Qc [0] (OpC.fn call68 Z Z Z) (k_bm _ _ _ _ hr1) ?_
 rintro _ _ ⟨rfl, rfl⟩
 refine aV (I r1) [_, _] Z Z ?_
 refine U 1 Z (Nx (TC.seq (Rg (U 2 Z (Nx (Cn Z h (fun hc2 h => ?_) (fun hc2 h => ?_)))))))
 ·refine Rg (U 3 Z (Nx (RtR ?_)))
  obtain rfl := Oi h
  refine ⟨[(4, .ptr 0 0), (5, .bool ((z_Starter, false).2))], [.cells 50 (Starter.c ((z_Starter, false).1))], _, ?_, QG Z Z (ResL.cons (Qq isAgg50 sizeOf50 Z Z Z) (ResL.cons ResAt.tmp ResL.nil)), Z, Z⟩
  exact Lr [1]
 refine QP (Rg (U 2 Z (Bd h fun x3 hx3 h => Ix hx3 runUnderlying38 sizeOf50 Z (U 3 Z (Nx (TC.ret ?_))))))
 obtain rfl := Oi h
 refine ⟨[(4, .ptr 0 0), (5, .bool ((x3, true).2))], [.cells 50 (Starter.c ((x3, true).1))], _, ?_, QG Z Z (ResL.cons (Qq isAgg50 sizeOf50 Z Z Z) (ResL.cons ResAt.tmp ResL.nil)), Z, Z⟩
 exact Lr [1]
def F_l (n : Nat) (a1 : List Starter) (a2 : List Pair) (a3 : Int) (a4 : Int) : Option (Int × Int) :=
  ((bif decide (a3 < 0) then some true else some (decide ((a2.length : Int) < a3))) : Option Bool).bind fun b2 => (bif b2 then some (0, 1) else ((bif decide (0 < a3) then (idx a2 (IntKind.i64.wrap (a3 - 1))).bind fun x17 => ((bif (a4 == x17.A) then some x17.B else (bif (a4 == x17.B) then some x17.A else some a4)) : Option Int).bind fun b20 => some b20 else some a4) : Option Int).bind fun b14 => (F_ab n a1 a4).bind fun r24 => (F_ab n a1 b14).bind fun r25 => ((bif (!r24.2) then some true else some (!r25.2)) : Option Bool).bind fun b27 => (bif b27 then some (0, 180) else some (r25.1.Chip, 0)))
theorem k_l (n : Nat) (a1 : List Starter) (a2 : List Pair) (a3 : Int) (a4 : Int) (r : Int × Int) (h : F_l n a1 a2 a3 a4 = some r) :
    C prog 19 [.rsl 8 (List.map Starter.c a1), .rsl 2 (List.map Pair.c a2), I a3, I a4] [] (fun a H => a = .tup [I r.1, I r.2] ∧ H = []) := by
 refine Qd func19 Z Z Z ?_
 refine Rg (U 2 Z (Nx (TC.seq (TC.seq (Bd h fun b2 h3 h => ?_)))))
 refine TC.cut ([(0, .rsl 8 (List.map Starter.c a1)), (1, .rsl 2 (List.map Pair.c a2)), (2, I a3), (3, I a4), (23, .bool b2)]) ([]) ?_ (fun env H hle => ?_)
 ·refine TC.region (U 3 Z (If h3 (fun hg4 h3 => ?_) (fun hg4 h3 => ?_)))
  ·refine KF hg4 Z (KF hg4 Z (KF hg4 Z (KF hg4 Z (Pk hg4 Z (WO.nil ?_)))))
   obtain rfl := Oi h3
   exact cutN (Lr [])
  ·refine Sg (gT hg4) Z (Sg (gT hg4) Z ?_)
   refine vX (I (a2.length : Int)) (Qo (e := Pair.c) (l := a2) runUnderlying42) ?_ (gT hg4)
   refine Sg (gT hg4) Z (Pk hg4 Z (WO.nil ?_))
   obtain rfl := Oi h3
   exact cutN (Lr [])
 refine Qf (TC.le hle (Cn Z h (fun hc5 h => ?_) (fun hc5 h => ?_)))
 ·refine Rg (U 2 Z (Nx (RtR ?_)))
  obtain rfl := Oi h
  refine ⟨[(8, _), (9, _)], _, _, ?_, Qm Z Z Z, Z, Z⟩
  exact Lr []
 refine QP (Rg (U 2 Z (Nx (TC.seq (Rg (U 2 Z (Nx (Bd h fun b14 h15 h => ?_))))))))
 refine TC.cut ([(0, .rsl 8 (List.map Starter.c a1)), (3, I a4), (10, I b14)]) ([]) ?_ (fun env H hle => ?_)
 ·refine Cn Z h15 (fun hc16 h15 => ?_) (fun hc16 h15 => ?_)
  ·refine Rg (U 3 Z (Bd h15 fun x17 hx17 h15 => Ix hx17 runUnderlying42 sizeOf59 Z (U 3 Z (Nx (Rg (U 1 Z (Nx (TC.block (Rg (U 4 Z (Nx (Bd h15 fun b20 h21 h15 => ?_))))))))))))
   refine TC.cut ([(0, .rsl 8 (List.map Starter.c a1)), (3, I a4), (10, I b20)]) ([]) ?_ (fun env H hle => ?_)
   ·refine Cn Z h21 (fun hc22 h21 => ?_) (fun hc22 h21 => ?_)
    ·refine TC.region (U 3 Z (WO.nil ?_))
     obtain rfl := Oi h21
     exact cutN (Lr [])
    refine Rg (U 4 Z (Nx (Cn Z h21 (fun hc23 h21 => ?_) (fun hc23 h21 => ?_))))
    ·refine TC.region (U 3 Z (WO.nil ?_))
     obtain rfl := Oi h21
     exact cutN (Lr [])
    refine TC.skip ?_
    obtain rfl := Oi h21
    exact cutN (Lr [])
   refine QB ?_
   obtain rfl := Oi h15
   exact cutN (Le.trans hle (Lr []))
  refine TC.skip ?_
  obtain rfl := Oi h15
  exact cutN (Lr [])
 refine Qf (TC.le hle (Rg (U 2 Z (Bd h fun r24 hr24 h => ?_))))
 refine Qc [] (OpC.fn call43 Z Z Z) (k_ab _ _ _ _ hr24) ?_
 rintro _ _ ⟨rfl, rfl⟩
 refine aV (.tup [.agg (Starter.c r24.1), .bool r24.2]) [.cells 50 (Starter.c r24.1)] Z Z ?_
 refine U 6 Z (Nx (Rg (U 2 Z (Bd h fun r25 hr25 h => ?_))))
 refine Qc [] (OpC.fn call43 Z Z Z) (k_ab _ _ _ _ hr25) ?_
 rintro _ _ ⟨rfl, rfl⟩
 refine aV (.tup [.agg (Starter.c r25.1), .bool r25.2]) [_, _, .cells 50 (Starter.c r25.1)] Z Z ?_
 refine U 6 Z (Nx (TC.seq (TC.seq (Bd h fun b27 h28 h => ?_))))
 refine TC.cut ([(14, .ptr 0 0), (62, .bool b27)]) ([.cells 50 (Starter.c r25.1)]) ?_ (fun env H hle => ?_)
 ·refine TC.region (U 3 Z (If h28 (fun hg29 h28 => ?_) (fun hg29 h28 => ?_)))
  ·refine KF hg29 Z (KF hg29 Z (Pk hg29 Z (WO.nil ?_)))
   obtain rfl := Oi h28
   exact cutN (Lr [3])
  ·refine Sg (gT hg29) Z (Sg (gT hg29) Z (Pk hg29 Z (WO.nil ?_)))
   obtain rfl := Oi h28
   exact cutN (Lr [3])
 refine Qf (TC.le hle (Cn Z h (fun hc30 h => ?_) (fun hc30 h => ?_)))
 ·refine Rg (U 2 Z (Nx (RtR ?_)))
  obtain rfl := Oi h
  refine ⟨[(8, _), (9, _)], _, _, ?_, Qm Z Z Z, Z, Z⟩
  exact Lr []
 refine QP (Rg (U 4 Z (Nx (TC.ret ?_))))
 obtain rfl := Oi h
 refine ⟨[(8, _), (9, _)], _, _, ?_, Qm Z Z Z, Z, Z⟩
 exact Lr []
def F_fg (n : Nat) (a1 : List Starter) (a2 : List Pair) (a3 : Int) (a4 : Int) (s21 : Int) : Option (Ctl Int (Ctl Unit (Int × Bool))) :=
  (bif decide (s21 < (a1.length : Int)) then (idx a1 s21).bind fun x25 => (F_l n a1 a2 a3 x25.Bib).bind fun r26 => ((bif (r26.2 == 0) then some (r26.1 == a4) else some false) : Option Bool).bind fun b28 => (bif b28 then some (.done (.done (x25.Bib, true))) else some (.cont (IntKind.i64.wrap (s21 + 1)))) else some (.done (.cont ())))
def F_v (n : Nat) (a1 : List Starter) (a2 : List Pair) (a3 : Int) (a4 : Int) : Option (Int × Bool) :=
  (iter (F_fg n a1 a2 a3 a4) n 0 : Option (Ctl Unit (Int × Bool))).bind fun b18 => match b18 with | .cont sb18 => (some (0, false)) | .done sb18 => some sb18
theorem k_v (n : Nat) (a1 : List Starter) (a2 : List Pair) (a3 : Int) (a4 : Int) (r : Int × Bool) (h : F_v n a1 a2 a3 a4 = some r) :
    C prog 21 [.rsl 8 (List.map Starter.c a1), .rsl 2 (List.map Pair.c a2), I a3, I a4] [] (fun a H => a = .tup [I r.1, .bool r.2] ∧ H = []) := by
 refine Qd func21 Z Z Z ?_
 refine Rg (U 2 Z (Nx (TC.seq (Rg (U 1 Z (YI runUnderlying38 Z (U 1 Z (Nx (Bd h fun b18 h19 h => ?_)))))))))
 refine Qn (b := b18) (fun sb18 => []) (fun sb18 => []) ?_ (fun sb18 env H hbe hle => ?_)
 ·refine TC.block ?_
  refine TC.loop (E := fun s21 => [(0, .rsl 8 (List.map Starter.c a1)), (1, .rsl 2 (List.map Pair.c a2)), (2, I a3), (3, I a4), (14, .rsl 8 (List.map Starter.c a1)), (15, I (a1.length : Int)), (16, I s21)]) (Hp := fun s21 => []) h19 ?_ ?_
  ·exact Lr []
  intro s21 d22 h23 hb20
  refine Rg (U 1 Z (Nx (TC.seq (YK Z h23 (fun hc24 h23 => ?_) (fun hc24 h23 => ?_)))))
  ·refine YJ (Qv h23 ?_)
   obtain rfl := hb20 _ (Oi h23).symm
   exact QL (Qt Z (Lr []))
  refine QP (TC.seq (TC.block (Rg (Bd h23 fun x25 hx25 h23 => Ix hx25 runUnderlying38 sizeOf50 Z (U 3 Z (Nx (Rg (U 5 Z (Bd h23 fun r26 hr26 h23 => ?_)))))))))
  refine Qc [] (OpC.fn call19 Z Z Z) (k_l _ _ _ _ _ _ hr26) ?_
  rintro _ _ ⟨rfl, rfl⟩
  refine aV (.tup [I r26.1, I r26.2]) [_] Z Z ?_
  refine U 5 Z (Nx (TC.seq (Bd h23 fun b28 h29 h23 => ?_)))
  refine TC.cut ([(0, .rsl 8 (List.map Starter.c a1)), (1, .rsl 2 (List.map Pair.c a2)), (2, I a3), (3, I a4), (11, .ptr 0 0), (14, .rsl 8 (List.map Starter.c a1)), (15, I (a1.length : Int)), (16, I s21), (35, .bool b28)]) ([.cells 50 (Starter.c x25)]) ?_ (fun env H hle => ?_)
  ·refine TC.region (U 3 Z (If h29 (fun hg30 h29 => ?_) (fun hg30 h29 => ?_)))
   ·refine Sg (gT hg30) Z (Sg (gT hg30) Z (Sg (gT hg30) Z (Pk hg30 Z (WO.nil ?_))))
    obtain rfl := Oi h29
    exact cutN (Lr [0])
   ·refine KF hg30 Z (KF hg30 Z (KF hg30 Z (Pk hg30 Z (WO.nil ?_))))
    obtain rfl := Oi h29
    exact cutN (Lr [0])
  refine Qf (TC.le hle (Cn Z h23 (fun hc31 h23 => ?_) (fun hc31 h23 => ?_)))
  ·refine Rg (U 4 Z (Nx (TC.ret (Qj (Qi (QJ h23 ?_))))))
   obtain rfl := hb20 _ (Oi h23).symm
   refine Qj (QC (Qi ?_))
   obtain rfl := Oi h
   refine ⟨[(8, _), (9, _)], _, _, ?_, Qm Z Z Z, Z, Z⟩
   exact Lr []
  exact TC.skip (QB (Qf (TC.region (U 2 Z (WO.nil (Qp h23 (Lr [])))))))
 subst hbe
 refine Qf (TC.le hle (Rg (U 2 Z (Nx (TC.ret ?_)))))
 obtain rfl := Oi h
 refine ⟨[(8, _), (9, _)], _, _, ?_, Qm Z Z Z, Z, Z⟩
 exact Lr []
def F_r (n : Nat) (a1 : List Pair) : Option Unit :=
  some ()
theorem k_r (n : Nat) (a1 : List Pair) (r : Unit) (h : F_r n a1 = some r) :
    C prog 23 [.rsl 2 (List.map Pair.c a1)] [] (fun a H => a = I (IntKind.i64.wrap ((a1.length : Int) + 1)) ∧ H = []) := by
 refine Qd func23 Z Z Z ?_
 refine Rg (U 1 Z (Nx (Rg (U 1 Z (YI runUnderlying42 Z (U 2 Z (Nx (TC.ret ?_))))))))
 obtain rfl := Oi h
 refine ⟨[(2, _)], _, _, ?_, ResOK.one Z Z, Z, Z⟩
 exact Lr []
def F_dx (n : Nat) : Option Bool :=
  (F_aa n 2 3 30).bind fun r1 => (F_aa n 1 5 50).bind fun r2 => (F_aa n 3 5 99).bind fun r3 => (F_cc n).bind fun r4 => (F_s n ({ Name := [115, 97, 109, 112, 108, 101], Mats := [{ Name := [108, 105, 110, 101], Kind := 1 : Mat }, { Name := [102, 105, 110, 105, 115, 104], Kind := 3 : Mat }], Legs := [{ From := 0, To := 1, Min := 10, Max := 100 : Leg }], Distances := [{ Name := [98, 114, 105, 101, 102], Route := [z_Part, { z_Part with Mat := 1 : Part }], Timing := 1, Cutoffs := [], Extra := (-1) : Distance }], Waves := [{ Name := [101, 108, 105, 116, 101], Gun := 0 : Wave }], Offences := [], Categories := [], Prizes := [], Ties := [{ z_Step with Kind := 1, By := 4 : Step }], Faults := z_Faults, Fee := 0, Deadline := 0 : Course }) [{ z_Fact with No := 1, At := 2, Kind := 1, Starter := { z_Starter with Bib := 3, Chip := 30 : Starter } : Fact }, { z_Fact with No := 1, At := 1, Kind := 1, Starter := { z_Starter with Bib := 5, Chip := 50 : Starter } : Fact }, { z_Fact with No := 1, At := 3, Kind := 1, Starter := { z_Starter with Bib := 5, Chip := 99 : Starter } : Fact }, { z_Fact with No := 1, Kind := 7, Pair := { A := 3, B := 5 : Pair } : Fact }, { z_Fact with No := 2, Kind := 7, Pair := { A := 3, B := 6 : Pair } : Fact }]).bind fun r5 => (F_cc n).bind fun r6 => (F_ai n ({ Name := [115, 97, 109, 112, 108, 101], Mats := [{ Name := [108, 105, 110, 101], Kind := 1 : Mat }, { Name := [102, 105, 110, 105, 115, 104], Kind := 3 : Mat }], Legs := [{ From := 0, To := 1, Min := 10, Max := 100 : Leg }], Distances := [{ Name := [98, 114, 105, 101, 102], Route := [z_Part, { z_Part with Mat := 1 : Part }], Timing := 1, Cutoffs := [], Extra := (-1) : Distance }], Waves := [{ Name := [101, 108, 105, 116, 101], Gun := 0 : Wave }], Offences := [], Categories := [], Prizes := [], Ties := [{ z_Step with Kind := 1, By := 4 : Step }], Faults := z_Faults, Fee := 0, Deadline := 0 : Course }) [{ z_Fact with No := 1, At := 2, Kind := 1, Starter := { z_Starter with Bib := 3, Chip := 30 : Starter } : Fact }, { z_Fact with No := 1, At := 1, Kind := 1, Starter := { z_Starter with Bib := 5, Chip := 50 : Starter } : Fact }, { z_Fact with No := 1, At := 3, Kind := 1, Starter := { z_Starter with Bib := 5, Chip := 99 : Starter } : Fact }, { z_Fact with No := 1, Kind := 7, Pair := { A := 3, B := 5 : Pair } : Fact }, { z_Fact with No := 2, Kind := 7, Pair := { A := 3, B := 6 : Pair } : Fact }]).bind fun r7 => (F_l n r5.1 r7.1 1 3).bind fun r8 => (F_l n [] [] 0 1).bind fun r9 => (F_l n r5.1 [] 1 3).bind fun r10 => (F_v n r5.1 r7.1 1 30).bind fun r11 => (F_v n [] [] 0 1).bind fun r12 => ((bif (r5.2 == 0) then (bif ((r5.1.length : Int) == 2) then (idx r5.1 0).bind fun x26 => (bif (x26.Bib == 3) then (idx r5.1 1).bind fun x28 => (bif (x28.Chip == 50) then (bif (r7.2 == 0) then (bif ((r7.1.length : Int) == 1) then (idx r7.1 0).bind fun x32 => some (x32 == ({ A := 3, B := 5 : Pair })) else some false) else some false) else some false) else some false) else some false) else some false) : Option Bool).bind fun b22 => ((bif b22 then (F_r n r7.1).bind fun r47 => (bif ((IntKind.i64.wrap ((r7.1.length : Int) + 1)) == 2) then (F_r n []).bind fun r49 => (bif ((IntKind.i64.wrap ((([] : List Pair).length : Int) + 1)) == 1) then (bif (r8.2 == 0) then (bif (r8.1 == 50) then (bif (r9.2 == 180) then (bif (r10.2 == 1) then (bif r11.2 then (bif (r11.1 == 5) then some (!r12.2) else some false) else some false) else some false) else some false) else some false) else some false) else some false) else some false) else some false) : Option Bool).bind fun b44 => some b44
theorem k_dx (n : Nat) (r : Bool) (h : F_dx n = some r) :
    C prog 10 [] [] (fun a H => a = .bool r ∧ H = []) := by
 refine Qd func10 Z Z Z ?_
 refine Rg (U 1 Z (Nx (Rg (Bd h fun r1 hr1 h => ?_))))
 refine Qc [] (OpC.fn call29 Z Z Z) (k_aa _ _ _ _ _ hr1) ?_
 rintro _ _ ⟨rfl, rfl⟩
 refine aV (.agg (Fact.c ({ z_Fact with No := 1, At := 2, Kind := 1, Starter := { z_Starter with Bib := 3, Chip := 30 : Starter } : Fact }))) [.cells 81 (Fact.c ({ z_Fact with No := 1, At := 2, Kind := 1, Starter := { z_Starter with Bib := 3, Chip := 30 : Starter } : Fact }))] Z Z ?_
 refine Bd h fun r2 hr2 h => ?_
 refine Qc [] (OpC.fn call29 Z Z Z) (k_aa _ _ _ _ _ hr2) ?_
 rintro _ _ ⟨rfl, rfl⟩
 refine aV (.agg (Fact.c ({ z_Fact with No := 1, At := 1, Kind := 1, Starter := { z_Starter with Bib := 5, Chip := 50 : Starter } : Fact }))) [_, .cells 81 (Fact.c ({ z_Fact with No := 1, At := 1, Kind := 1, Starter := { z_Starter with Bib := 5, Chip := 50 : Starter } : Fact }))] Z Z ?_
 refine Bd h fun r3 hr3 h => ?_
 refine Qc [] (OpC.fn call29 Z Z Z) (k_aa _ _ _ _ _ hr3) ?_
 rintro _ _ ⟨rfl, rfl⟩
 refine aV (.agg (Fact.c ({ z_Fact with No := 1, At := 3, Kind := 1, Starter := { z_Starter with Bib := 5, Chip := 99 : Starter } : Fact }))) [_, _, .cells 81 (Fact.c ({ z_Fact with No := 1, At := 3, Kind := 1, Starter := { z_Starter with Bib := 5, Chip := 99 : Starter } : Fact }))] Z Z ?_
 refine U 4 Z ?_
 refine vH (OpH.lit (xs := [.tmp 17, .tmp 18, .tmp 19, .tmp 21, .tmp 23]) (es := List.map Fact.c [{ z_Fact with No := 1, At := 2, Kind := 1, Starter := { z_Starter with Bib := 3, Chip := 30 : Starter } : Fact }, { z_Fact with No := 1, At := 1, Kind := 1, Starter := { z_Starter with Bib := 5, Chip := 50 : Starter } : Fact }, { z_Fact with No := 1, At := 3, Kind := 1, Starter := { z_Starter with Bib := 5, Chip := 99 : Starter } : Fact }, { z_Fact with No := 1, Kind := 7, Pair := { A := 3, B := 5 : Pair } : Fact }, { z_Fact with No := 2, Kind := 7, Pair := { A := 3, B := 6 : Pair } : Fact }]) Qil Z Z Z Z Z ⟨Z, Z, Z, Z, Z, trivial⟩ Z Z) ?_
 refine aV (.osl 3 0 ([{ z_Fact with No := 1, At := 2, Kind := 1, Starter := { z_Starter with Bib := 3, Chip := 30 : Starter } : Fact }, { z_Fact with No := 1, At := 1, Kind := 1, Starter := { z_Starter with Bib := 5, Chip := 50 : Starter } : Fact }, { z_Fact with No := 1, At := 3, Kind := 1, Starter := { z_Starter with Bib := 5, Chip := 99 : Starter } : Fact }, { z_Fact with No := 1, Kind := 7, Pair := { A := 3, B := 5 : Pair } : Fact }, { z_Fact with No := 2, Kind := 7, Pair := { A := 3, B := 6 : Pair } : Fact }].length) 57) [_, _, _, .row 81 57 (List.map Fact.c [{ z_Fact with No := 1, At := 2, Kind := 1, Starter := { z_Starter with Bib := 3, Chip := 30 : Starter } : Fact }, { z_Fact with No := 1, At := 1, Kind := 1, Starter := { z_Starter with Bib := 5, Chip := 50 : Starter } : Fact }, { z_Fact with No := 1, At := 3, Kind := 1, Starter := { z_Starter with Bib := 5, Chip := 99 : Starter } : Fact }, { z_Fact with No := 1, Kind := 7, Pair := { A := 3, B := 5 : Pair } : Fact }, { z_Fact with No := 2, Kind := 7, Pair := { A := 3, B := 6 : Pair } : Fact }])] Z Z ?_
 refine U 1 Z (Nx (Rg (Bd h fun r4 hr4 h => ?_)))
 refine Qc [] (OpC.fn call30 Z Z Z) (k_cc _ _ hr4) ?_
 rintro _ _ ⟨rfl, rfl⟩
 refine aV (.agg [.str [115, 97, 109, 112, 108, 101], .osl 4 0 ([{ Name := [108, 105, 110, 101], Kind := 1 : Mat }, { Name := [102, 105, 110, 105, 115, 104], Kind := 3 : Mat }].length) 2, .osl 5 0 ([{ From := 0, To := 1, Min := 10, Max := 100 : Leg }].length) 4, .osl 6 0 ([{ Name := [98, 114, 105, 101, 102], Route := [z_Part, { z_Part with Mat := 1 : Part }], Timing := 1, Cutoffs := [], Extra := (-1) : Distance }].length) 5, .osl 7 0 ([{ Name := [101, 108, 105, 116, 101], Gun := 0 : Wave }].length) 2, .rsl 4 (List.map Offence.c []), .rsl 3 (List.map Category.c []), .rsl 4 (List.map Prize.c []), .osl 8 0 ([{ z_Step with Kind := 1, By := 4 : Step }].length) 8, I 0, I 0, I 0, I 0, I 0, I 0, I 0]) [_, _, _, _, .row 96 2 (List.map Mat.c [{ Name := [108, 105, 110, 101], Kind := 1 : Mat }, { Name := [102, 105, 110, 105, 115, 104], Kind := 3 : Mat }]), .row 123 4 (List.map Leg.c [{ From := 0, To := 1, Min := 10, Max := 100 : Leg }]), .row 94 5 (List.map Distance.c [{ Name := [98, 114, 105, 101, 102], Route := [z_Part, { z_Part with Mat := 1 : Part }], Timing := 1, Cutoffs := [], Extra := (-1) : Distance }]), .row 127 2 (List.map Wave.c [{ Name := [101, 108, 105, 116, 101], Gun := 0 : Wave }]), .row 132 8 (List.map Step.enc [{ z_Step with Kind := 1, By := 4 : Step }]), .cells 33 [.str [115, 97, 109, 112, 108, 101], .osl 4 0 ([{ Name := [108, 105, 110, 101], Kind := 1 : Mat }, { Name := [102, 105, 110, 105, 115, 104], Kind := 3 : Mat }].length) 2, .osl 5 0 ([{ From := 0, To := 1, Min := 10, Max := 100 : Leg }].length) 4, .osl 6 0 ([{ Name := [98, 114, 105, 101, 102], Route := [z_Part, { z_Part with Mat := 1 : Part }], Timing := 1, Cutoffs := [], Extra := (-1) : Distance }].length) 5, .osl 7 0 ([{ Name := [101, 108, 105, 116, 101], Gun := 0 : Wave }].length) 2, .rsl 4 (List.map Offence.c []), .rsl 3 (List.map Category.c []), .rsl 4 (List.map Prize.c []), .osl 8 0 ([{ z_Step with Kind := 1, By := 4 : Step }].length) 8, I 0, I 0, I 0, I 0, I 0, I 0, I 0]] Z Z ?_
 refine U 1 Z ?_
 refine WO.le (QaS [(26, _)] Z Z (FzOv.cons Z (FzA.agg (FzL.cons (FzA.refl _) (FzL.cons (FzA.own (List.length_map ..).symm) (FzL.refl _)))) FzOv.nil) (FzH.keep (FzH.keep (FzH.keep (FzH.keep (FzH.keep (FzH.keep (FzH.keep (FzH.keep (FzH.keep (FzH.cells (FzL.cons (FzA.refl _) (FzL.cons (FzA.own (List.length_map ..).symm) (FzL.refl _))) (FzH.nil)))))))))))) ?_
 refine WO.le (QaS [(26, _)] Z Z (FzOv.cons Z (FzA.agg (FzL.cons (FzA.refl _) (FzL.cons (FzA.refl _) (FzL.cons (FzA.own (List.length_map ..).symm) (FzL.refl _))))) FzOv.nil) (FzH.keep (FzH.keep (FzH.keep (FzH.keep (FzH.keep (FzH.keep (FzH.keep (FzH.keep (FzH.keep (FzH.cells (FzL.cons (FzA.refl _) (FzL.cons (FzA.refl _) (FzL.cons (FzA.own (List.length_map ..).symm) (FzL.refl _)))) (FzH.nil)))))))))))) ?_
 refine WO.le (QaS [(26, _)] Z Z (FzOv.cons Z (FzA.agg (FzL.cons (FzA.refl _) (FzL.cons (FzA.refl _) (FzL.cons (FzA.refl _) (FzL.cons (FzA.own (List.length_map ..).symm) (FzL.refl _)))))) FzOv.nil) (FzH.keep (FzH.keep (FzH.keep (FzH.keep (FzH.keep (FzH.keep (FzH.keep (FzH.keep (FzH.keep (FzH.cells (FzL.cons (FzA.refl _) (FzL.cons (FzA.refl _) (FzL.cons (FzA.refl _) (FzL.cons (FzA.own (List.length_map ..).symm) (FzL.refl _))))) (FzH.nil)))))))))))) ?_
 refine WO.le (QaS [(26, _)] Z Z (FzOv.cons Z (FzA.agg (FzL.cons (FzA.refl _) (FzL.cons (FzA.refl _) (FzL.cons (FzA.refl _) (FzL.cons (FzA.refl _) (FzL.cons (FzA.own (List.length_map ..).symm) (FzL.refl _))))))) FzOv.nil) (FzH.keep (FzH.keep (FzH.keep (FzH.keep (FzH.keep (FzH.keep (FzH.keep (FzH.keep (FzH.keep (FzH.cells (FzL.cons (FzA.refl _) (FzL.cons (FzA.refl _) (FzL.cons (FzA.refl _) (FzL.cons (FzA.refl _) (FzL.cons (FzA.own (List.length_map ..).symm) (FzL.refl _)))))) (FzH.nil)))))))))))) ?_
 refine WO.le (QaS [(26, _)] Z Z (FzOv.cons Z (FzA.agg (FzL.cons (FzA.refl _) (FzL.cons (FzA.refl _) (FzL.cons (FzA.refl _) (FzL.cons (FzA.refl _) (FzL.cons (FzA.refl _) (FzL.cons (FzA.refl _) (FzL.cons (FzA.refl _) (FzL.cons (FzA.refl _) (FzL.cons (FzA.own (List.length_map ..).symm) (FzL.refl _))))))))))) FzOv.nil) (FzH.keep (FzH.keep (FzH.keep (FzH.keep (FzH.keep (FzH.keep (FzH.keep (FzH.keep (FzH.keep (FzH.cells (FzL.cons (FzA.refl _) (FzL.cons (FzA.refl _) (FzL.cons (FzA.refl _) (FzL.cons (FzA.refl _) (FzL.cons (FzA.refl _) (FzL.cons (FzA.refl _) (FzL.cons (FzA.refl _) (FzL.cons (FzA.refl _) (FzL.cons (FzA.own (List.length_map ..).symm) (FzL.refl _)))))))))) (FzH.nil)))))))))))) ?_
 refine WO.le (QaS [(1, _), (24, _), (27, _)] Z Z (FzOv.cons Z (FzA.own (List.length_map ..).symm) (FzOv.cons Z (FzA.own (List.length_map ..).symm) (FzOv.cons Z (FzA.own (List.length_map ..).symm) FzOv.nil))) (FzH.keep (FzH.keep (FzH.keep (FzH.keep (FzH.keep (FzH.keep (FzH.keep (FzH.keep (FzH.keep (FzH.keep (FzH.nil)))))))))))) ?_
 refine Bd h fun r5 hr5 h => ?_
 refine Qc [] (OpC.fn call13 Z Z Z) (k_s _ _ _ _ hr5) ?_
 rintro _ _ ⟨rfl, rfl⟩
 refine aV (.tup [.osl 10 0 r5.1.length 8, I r5.2]) [_, _, _, .dead, .dead, .dead, .dead, .dead, .dead, .cells 33 [.str [115, 97, 109, 112, 108, 101], .rsl 2 (List.map Mat.c [{ Name := [108, 105, 110, 101], Kind := 1 : Mat }, { Name := [102, 105, 110, 105, 115, 104], Kind := 3 : Mat }]), .rsl 4 (List.map Leg.c [{ From := 0, To := 1, Min := 10, Max := 100 : Leg }]), .rsl 5 (List.map Distance.c [{ Name := [98, 114, 105, 101, 102], Route := [z_Part, { z_Part with Mat := 1 : Part }], Timing := 1, Cutoffs := [], Extra := (-1) : Distance }]), .rsl 2 (List.map Wave.c [{ Name := [101, 108, 105, 116, 101], Gun := 0 : Wave }]), .rsl 4 (List.map Offence.c []), .rsl 3 (List.map Category.c []), .rsl 4 (List.map Prize.c []), .rsl 8 (List.map Step.enc [{ z_Step with Kind := 1, By := 4 : Step }]), I 0, I 0, I 0, I 0, I 0, I 0, I 0], .row 50 8 (List.map Starter.c r5.1)] Z Z ?_
 refine U 5 Z (Nx (Rg (Bd h fun r6 hr6 h => ?_)))
 refine Qc [] (OpC.fn call30 Z Z Z) (k_cc _ _ hr6) ?_
 rintro _ _ ⟨rfl, rfl⟩
 refine aV (.agg [.str [115, 97, 109, 112, 108, 101], .osl 11 0 ([{ Name := [108, 105, 110, 101], Kind := 1 : Mat }, { Name := [102, 105, 110, 105, 115, 104], Kind := 3 : Mat }].length) 2, .osl 12 0 ([{ From := 0, To := 1, Min := 10, Max := 100 : Leg }].length) 4, .osl 13 0 ([{ Name := [98, 114, 105, 101, 102], Route := [z_Part, { z_Part with Mat := 1 : Part }], Timing := 1, Cutoffs := [], Extra := (-1) : Distance }].length) 5, .osl 14 0 ([{ Name := [101, 108, 105, 116, 101], Gun := 0 : Wave }].length) 2, .rsl 4 (List.map Offence.c []), .rsl 3 (List.map Category.c []), .rsl 4 (List.map Prize.c []), .osl 15 0 ([{ z_Step with Kind := 1, By := 4 : Step }].length) 8, I 0, I 0, I 0, I 0, I 0, I 0, I 0]) [_, _, _, _, _, _, _, _, _, _, _, .row 96 2 (List.map Mat.c [{ Name := [108, 105, 110, 101], Kind := 1 : Mat }, { Name := [102, 105, 110, 105, 115, 104], Kind := 3 : Mat }]), .row 123 4 (List.map Leg.c [{ From := 0, To := 1, Min := 10, Max := 100 : Leg }]), .row 94 5 (List.map Distance.c [{ Name := [98, 114, 105, 101, 102], Route := [z_Part, { z_Part with Mat := 1 : Part }], Timing := 1, Cutoffs := [], Extra := (-1) : Distance }]), .row 127 2 (List.map Wave.c [{ Name := [101, 108, 105, 116, 101], Gun := 0 : Wave }]), .row 132 8 (List.map Step.enc [{ z_Step with Kind := 1, By := 4 : Step }]), .cells 33 [.str [115, 97, 109, 112, 108, 101], .osl 11 0 ([{ Name := [108, 105, 110, 101], Kind := 1 : Mat }, { Name := [102, 105, 110, 105, 115, 104], Kind := 3 : Mat }].length) 2, .osl 12 0 ([{ From := 0, To := 1, Min := 10, Max := 100 : Leg }].length) 4, .osl 13 0 ([{ Name := [98, 114, 105, 101, 102], Route := [z_Part, { z_Part with Mat := 1 : Part }], Timing := 1, Cutoffs := [], Extra := (-1) : Distance }].length) 5, .osl 14 0 ([{ Name := [101, 108, 105, 116, 101], Gun := 0 : Wave }].length) 2, .rsl 4 (List.map Offence.c []), .rsl 3 (List.map Category.c []), .rsl 4 (List.map Prize.c []), .osl 15 0 ([{ z_Step with Kind := 1, By := 4 : Step }].length) 8, I 0, I 0, I 0, I 0, I 0, I 0, I 0]] Z Z ?_
 refine U 1 Z ?_
 refine WO.le (QaS [(32, _)] Z Z (FzOv.cons Z (FzA.agg (FzL.cons (FzA.refl _) (FzL.cons (FzA.own (List.length_map ..).symm) (FzL.refl _)))) FzOv.nil) (FzH.keep (FzH.keep (FzH.keep (FzH.keep (FzH.keep (FzH.keep (FzH.keep (FzH.keep (FzH.keep (FzH.keep (FzH.keep (FzH.keep (FzH.keep (FzH.keep (FzH.keep (FzH.keep (FzH.cells (FzL.cons (FzA.refl _) (FzL.cons (FzA.own (List.length_map ..).symm) (FzL.refl _))) (FzH.nil))))))))))))))))))) ?_
 refine WO.le (QaS [(32, _)] Z Z (FzOv.cons Z (FzA.agg (FzL.cons (FzA.refl _) (FzL.cons (FzA.refl _) (FzL.cons (FzA.own (List.length_map ..).symm) (FzL.refl _))))) FzOv.nil) (FzH.keep (FzH.keep (FzH.keep (FzH.keep (FzH.keep (FzH.keep (FzH.keep (FzH.keep (FzH.keep (FzH.keep (FzH.keep (FzH.keep (FzH.keep (FzH.keep (FzH.keep (FzH.keep (FzH.cells (FzL.cons (FzA.refl _) (FzL.cons (FzA.refl _) (FzL.cons (FzA.own (List.length_map ..).symm) (FzL.refl _)))) (FzH.nil))))))))))))))))))) ?_
 refine WO.le (QaS [(32, _)] Z Z (FzOv.cons Z (FzA.agg (FzL.cons (FzA.refl _) (FzL.cons (FzA.refl _) (FzL.cons (FzA.refl _) (FzL.cons (FzA.own (List.length_map ..).symm) (FzL.refl _)))))) FzOv.nil) (FzH.keep (FzH.keep (FzH.keep (FzH.keep (FzH.keep (FzH.keep (FzH.keep (FzH.keep (FzH.keep (FzH.keep (FzH.keep (FzH.keep (FzH.keep (FzH.keep (FzH.keep (FzH.keep (FzH.cells (FzL.cons (FzA.refl _) (FzL.cons (FzA.refl _) (FzL.cons (FzA.refl _) (FzL.cons (FzA.own (List.length_map ..).symm) (FzL.refl _))))) (FzH.nil))))))))))))))))))) ?_
 refine WO.le (QaS [(32, _)] Z Z (FzOv.cons Z (FzA.agg (FzL.cons (FzA.refl _) (FzL.cons (FzA.refl _) (FzL.cons (FzA.refl _) (FzL.cons (FzA.refl _) (FzL.cons (FzA.own (List.length_map ..).symm) (FzL.refl _))))))) FzOv.nil) (FzH.keep (FzH.keep (FzH.keep (FzH.keep (FzH.keep (FzH.keep (FzH.keep (FzH.keep (FzH.keep (FzH.keep (FzH.keep (FzH.keep (FzH.keep (FzH.keep (FzH.keep (FzH.keep (FzH.cells (FzL.cons (FzA.refl _) (FzL.cons (FzA.refl _) (FzL.cons (FzA.refl _) (FzL.cons (FzA.refl _) (FzL.cons (FzA.own (List.length_map ..).symm) (FzL.refl _)))))) (FzH.nil))))))))))))))))))) ?_
 refine WO.le (QaS [(32, _)] Z Z (FzOv.cons Z (FzA.agg (FzL.cons (FzA.refl _) (FzL.cons (FzA.refl _) (FzL.cons (FzA.refl _) (FzL.cons (FzA.refl _) (FzL.cons (FzA.refl _) (FzL.cons (FzA.refl _) (FzL.cons (FzA.refl _) (FzL.cons (FzA.refl _) (FzL.cons (FzA.own (List.length_map ..).symm) (FzL.refl _))))))))))) FzOv.nil) (FzH.keep (FzH.keep (FzH.keep (FzH.keep (FzH.keep (FzH.keep (FzH.keep (FzH.keep (FzH.keep (FzH.keep (FzH.keep (FzH.keep (FzH.keep (FzH.keep (FzH.keep (FzH.keep (FzH.cells (FzL.cons (FzA.refl _) (FzL.cons (FzA.refl _) (FzL.cons (FzA.refl _) (FzL.cons (FzA.refl _) (FzL.cons (FzA.refl _) (FzL.cons (FzA.refl _) (FzL.cons (FzA.refl _) (FzL.cons (FzA.refl _) (FzL.cons (FzA.own (List.length_map ..).symm) (FzL.refl _)))))))))) (FzH.nil))))))))))))))))))) ?_
 refine Bd h fun r7 hr7 h => ?_
 refine Qc [] (OpC.fn call15 Z Z Z) (k_ai _ _ _ _ hr7) ?_
 rintro _ _ ⟨rfl, rfl⟩
 refine aV (.tup [.osl 17 0 r7.1.length 2, I r7.2]) [_, _, _, _, _, _, _, _, _, _, _, .dead, .dead, .dead, .dead, .dead, .cells 33 [.str [115, 97, 109, 112, 108, 101], .rsl 2 (List.map Mat.c [{ Name := [108, 105, 110, 101], Kind := 1 : Mat }, { Name := [102, 105, 110, 105, 115, 104], Kind := 3 : Mat }]), .rsl 4 (List.map Leg.c [{ From := 0, To := 1, Min := 10, Max := 100 : Leg }]), .rsl 5 (List.map Distance.c [{ Name := [98, 114, 105, 101, 102], Route := [z_Part, { z_Part with Mat := 1 : Part }], Timing := 1, Cutoffs := [], Extra := (-1) : Distance }]), .rsl 2 (List.map Wave.c [{ Name := [101, 108, 105, 116, 101], Gun := 0 : Wave }]), .rsl 4 (List.map Offence.c []), .rsl 3 (List.map Category.c []), .rsl 4 (List.map Prize.c []), .rsl 8 (List.map Step.enc [{ z_Step with Kind := 1, By := 4 : Step }]), I 0, I 0, I 0, I 0, I 0, I 0, I 0], .row 59 2 (List.map Pair.c r7.1)] Z Z ?_
 refine U 5 Z (Nx (Rg (U 2 Z (Bd h fun r8 hr8 h => ?_))))
 refine Qk (OpC.fn call19 rfl rfl rfl) (LookL.cons rfl (.inr ⟨_, _, _, _, _, rfl, rfl, List.length_map .., rfl⟩) (LookL.cons rfl (.inr ⟨_, _, _, _, _, rfl, rfl, List.length_map .., rfl⟩) (LookL.cons rfl (.inl ⟨rfl, rfl⟩) (LookL.cons rfl (.inl ⟨rfl, rfl⟩) LookL.nil)))) (k_l _ _ _ _ _ _ hr8) (by rintro _ _ ⟨rfl, rfl⟩; rfl) ?_
 rintro _ _ ⟨rfl, rfl⟩
 refine aV (.tup [I r8.1, I r8.2]) [_, _, _, _, _, _, _, _, _, _, _, _, _, _, _, _, _, _] Z Z ?_
 refine U 5 Z (Nx (Rg (Bd h fun r9 hr9 h => ?_)))
 refine Qc [] (OpC.fn call19 Z Z Z) (C.nils (NilL.nl (NilL.nl (NilL.eq (NilL.eq NilL.nil)))) (k_l _ _ _ _ _ _ hr9)) ?_
 rintro _ _ ⟨rfl, rfl⟩
 refine aV (.tup [I r9.1, I r9.2]) [_, _, _, _, _, _, _, _, _, _, _, _, _, _, _, _, _, _] Z Z ?_
 refine U 5 Z (Nx (Rg (U 1 Z (Bd h fun r10 hr10 h => ?_))))
 refine Qk (OpC.fn call19 rfl rfl rfl) (LookL.cons rfl (.inr ⟨_, _, _, _, _, rfl, rfl, List.length_map .., rfl⟩) (LookL.cons rfl (.inl ⟨rfl, rfl⟩) (LookL.cons rfl (.inl ⟨rfl, rfl⟩) (LookL.cons rfl (.inl ⟨rfl, rfl⟩) LookL.nil)))) (C.nils (NilL.eq (NilL.nl (NilL.eq (NilL.eq NilL.nil)))) (k_l _ _ _ _ _ _ hr10)) (by rintro _ _ ⟨rfl, rfl⟩; rfl) ?_
 rintro _ _ ⟨rfl, rfl⟩
 refine aV (.tup [I r10.1, I r10.2]) [_, _, _, _, _, _, _, _, _, _, _, _, _, _, _, _, _, _] Z Z ?_
 refine U 5 Z (Nx (Rg (U 2 Z (Bd h fun r11 hr11 h => ?_))))
 refine Qk (OpC.fn call21 rfl rfl rfl) (LookL.cons rfl (.inr ⟨_, _, _, _, _, rfl, rfl, List.length_map .., rfl⟩) (LookL.cons rfl (.inr ⟨_, _, _, _, _, rfl, rfl, List.length_map .., rfl⟩) (LookL.cons rfl (.inl ⟨rfl, rfl⟩) (LookL.cons rfl (.inl ⟨rfl, rfl⟩) LookL.nil)))) (k_v _ _ _ _ _ _ hr11) (by rintro _ _ ⟨rfl, rfl⟩; rfl) ?_
 rintro _ _ ⟨rfl, rfl⟩
 refine aV (.tup [I r11.1, .bool r11.2]) [_, _, _, _, _, _, _, _, _, _, _, _, _, _, _, _, _, _] Z Z ?_
 refine U 5 Z (Nx (Rg (Bd h fun r12 hr12 h => ?_)))
 refine Qc [] (OpC.fn call21 Z Z Z) (C.nils (NilL.nl (NilL.nl (NilL.eq (NilL.eq NilL.nil)))) (k_v _ _ _ _ _ _ hr12)) ?_
 rintro _ _ ⟨rfl, rfl⟩
 refine aV (.tup [I r12.1, .bool r12.2]) [_, _, _, _, _, _, _, _, _, _, _, _, _, _, _, _, _, _] Z Z ?_
 refine U 5 Z (Nx (TC.seq (Bd h fun b22 h23 h => ?_)))
 refine TC.cut ([(4, .osl 0 0 r7.1.length 2), (6, I r8.1), (7, I r8.2), (9, I r9.2), (11, I r10.2), (12, I r11.1), (13, .bool r11.2), (15, .bool r12.2), (16, .bool b22)]) ([.row 59 2 (List.map Pair.c r7.1)]) ?_ (fun env H hle => ?_)
 ·refine TC.region (U 3 Z (If h23 (fun hg24 h23 => ?_) (fun hg24 h23 => ?_)))
  ·refine Sg (gT hg24) Z ?_
   refine vX (I (r5.1.length : Int)) (Qbo runUnderlying38) ?_ (gT hg24)
   refine Sg (gT hg24) Z (Pk hg24 Z (U 1 Z (If h23 (fun hg25 h23 => ?_) (fun hg25 h23 => ?_))))
   ·refine Sg (gT hg25) Z (Bd h23 fun x26 hx26 h23 => ?_)
    refine vX (.ptr 10 (Int.toNat 0 * 8)) (QY hx26 Z runUnderlying38 sizeOf50) ?_ (gT hg25)
    refine QM (gT hg25) Qbl Z ?_
    refine vX (I x26.Bib) (OpV.load Z isAgg3 Z (QH hx26)) ?_ (gT hg25)
    refine Sg (gT hg25) Z (Pk hg25 Z (U 1 Z (If h23 (fun hg27 h23 => ?_) (fun hg27 h23 => ?_))))
    ·refine Sg (gT hg27) Z (Bd h23 fun x28 hx28 h23 => ?_)
     refine vX (.ptr 10 (Int.toNat 1 * 8)) (QY hx28 Z runUnderlying38 sizeOf50) ?_ (gT hg27)
     refine QM (gT hg27) Qd8 Z ?_
     refine vX (I x28.Chip) (OpV.load Z isAgg3 Z (QdO hx28)) ?_ (gT hg27)
     refine Sg (gT hg27) Z (Pk hg27 Z (U 1 Z (If h23 (fun hg29 h23 => ?_) (fun hg29 h23 => ?_))))
     ·refine Sg (gT hg29) Z (Sg (gT hg29) Z (Pk hg29 Z (U 1 Z (If h23 (fun hg30 h23 => ?_) (fun hg30 h23 => ?_)))))
      ·refine Sg (gT hg30) Z ?_
       refine vX (I (r7.1.length : Int)) (Qbo runUnderlying42) ?_ (gT hg30)
       refine Sg (gT hg30) Z (Pk hg30 Z (U 1 Z (If h23 (fun hg31 h23 => ?_) (fun hg31 h23 => ?_))))
       ·refine Sg (gT hg31) Z (Bd h23 fun x32 hx32 h23 => ?_)
        refine vX (.ptr 17 (Int.toNat 0 * 2)) (QY hx32 Z runUnderlying42 sizeOf59) ?_ (gT hg31)
        refine vX (.agg (Pair.c x32)) (Qy Z isAgg59 sizeOf59 Z (QH hx32) Z Z) ?_ (gT hg31)
        refine vX (.agg [I 3, I 5]) (OpV.build (zs := [I 0, I 0]) zeroValue59 (zrC Z) Qj5) ?_ (gT hg31)
        refine vX (.bool (x32 == ({ A := 3, B := 5 : Pair }))) (QdR (p := x32) (q := { A := 3, B := 5 : Pair }) QkQ Z Z) ?_ (gT hg31)
        refine Pk hg31 Z (U 1 Z (WO.nil ?_))
        obtain rfl := Oi h23
        exact cutN (Lr [17])
       ·refine KF hg31 Z (KF hg31 Z (KF hg31 Z (KF hg31 Z (KF hg31 Z (Pk hg31 Z (U 1 Z (WO.nil ?_)))))))
        obtain rfl := Oi h23
        exact cutN (Lr [17])
      ·refine KF hg30 Z (KF hg30 Z (KF hg30 Z (Pk hg30 Z (U 8 Z (WO.nil ?_)))))
       obtain rfl := Oi h23
       exact cutN (Lr [17])
     ·refine KF hg29 Z (KF hg29 Z (Pk hg29 Z (U 13 Z (WO.nil ?_))))
      obtain rfl := Oi h23
      exact cutN (Lr [17])
    ·refine KF hg27 Z (KF hg27 Z (KF hg27 Z (KF hg27 Z (KF hg27 Z (Pk hg27 Z (U 17 Z (WO.nil ?_)))))))
     obtain rfl := Oi h23
     exact cutN (Lr [17])
   ·refine KF hg25 Z (KF hg25 Z (KF hg25 Z (KF hg25 Z (KF hg25 Z (Pk hg25 Z (U 24 Z (WO.nil ?_)))))))
    obtain rfl := Oi h23
    exact cutN (Lr [17])
  ·refine KF hg24 Z (KF hg24 Z (KF hg24 Z (Pk hg24 Z (U 31 Z (WO.nil ?_)))))
   obtain rfl := Oi h23
   exact cutN (Lr [17])
 refine Qf (TC.le hle (TC.seq (Bd h fun b44 h45 h => ?_)))
 refine TC.cut ([(0, .bool b44)]) ([]) ?_ (fun env H hle => ?_)
 ·refine TC.region (U 2 Z (If h45 (fun hg46 h45 => ?_) (fun hg46 h45 => ?_)))
  ·refine Sg (gT hg46) Z (Bd h45 fun r47 hr47 h45 => ?_)
   refine Qk (OpC.fn call23 rfl rfl rfl) (LookL.cons rfl (.inr ⟨_, _, _, _, _, rfl, rfl, List.length_map .., rfl⟩) LookL.nil) (k_r _ _ _ hr47) (by rintro _ _ ⟨rfl, rfl⟩; rfl) ?_ (gT hg46)
   rintro _ _ ⟨rfl, rfl⟩
   refine aV (I (IntKind.i64.wrap ((r7.1.length : Int) + 1))) [_] Z Z ?_
   refine Sg (gT hg46) Z (Pk hg46 Z (U 1 Z (If h45 (fun hg48 h45 => ?_) (fun hg48 h45 => ?_))))
   ·refine Bd h45 fun r49 hr49 h45 => ?_
    refine Qc [] (OpC.fn call23 Z Z Z) (C.nils (NilL.nl NilL.nil) (k_r _ _ _ hr49)) ?_ (hg := (gT hg48))
    rintro _ _ ⟨rfl, rfl⟩
    refine Qdi (x := (I (IntKind.i64.wrap ((([] : List Pair).length : Int) + 1)))) (H := [_]) Z Z ?_
    refine Sg (gT hg48) Z (Pk hg48 Z (U 1 Z (If h45 (fun hg50 h45 => ?_) (fun hg50 h45 => ?_))))
    ·refine Sg (gT hg50) Z (Sg (gT hg50) Z (Pk hg50 Z (U 1 Z (If h45 (fun hg51 h45 => ?_) (fun hg51 h45 => ?_)))))
     ·refine Sg (gT hg51) Z (Sg (gT hg51) Z (Pk hg51 Z (U 1 Z (If h45 (fun hg52 h45 => ?_) (fun hg52 h45 => ?_)))))
      ·refine Sg (gT hg52) Z (Sg (gT hg52) Z (Pk hg52 Z (U 1 Z (If h45 (fun hg53 h45 => ?_) (fun hg53 h45 => ?_)))))
       ·refine Sg (gT hg53) Z (Sg (gT hg53) Z (Pk hg53 Z (U 1 Z (If h45 (fun hg54 h45 => ?_) (fun hg54 h45 => ?_)))))
        ·refine Sg (gT hg54) Z (Pk hg54 Z (U 1 Z (If h45 (fun hg55 h45 => ?_) (fun hg55 h45 => ?_))))
         ·refine Sg (gT hg55) Z (Sg (gT hg55) Z (Pk hg55 Z (U 1 Z (If h45 (fun hg56 h45 => ?_) (fun hg56 h45 => ?_)))))
          ·refine Sg (gT hg56) Z (Sg (gT hg56) Z (Pk hg56 Z (U 1 Z (WO.nil ?_))))
           obtain rfl := Oi h45
           exact cutN (Lr [])
          ·refine KF hg56 Z (KF hg56 Z (Pk hg56 Z (U 1 Z (WO.nil ?_))))
           obtain rfl := Oi h45
           exact cutN (Lr [])
         ·refine KF hg55 Z (KF hg55 Z (Pk hg55 Z (U 5 Z (WO.nil ?_))))
          obtain rfl := Oi h45
          exact cutN (Lr [])
        ·refine KF hg54 Z (Pk hg54 Z (U 9 Z (WO.nil ?_)))
         obtain rfl := Oi h45
         exact cutN (Lr [])
       ·refine KF hg53 Z (KF hg53 Z (Pk hg53 Z (U 12 Z (WO.nil ?_))))
        obtain rfl := Oi h45
        exact cutN (Lr [])
      ·refine KF hg52 Z (KF hg52 Z (Pk hg52 Z (U 16 Z (WO.nil ?_))))
       obtain rfl := Oi h45
       exact cutN (Lr [])
     ·refine KF hg51 Z (KF hg51 Z (Pk hg51 Z (U 20 Z (WO.nil ?_))))
      obtain rfl := Oi h45
      exact cutN (Lr [])
    ·refine KF hg50 Z (KF hg50 Z (Pk hg50 Z (U 24 Z (WO.nil ?_))))
     obtain rfl := Oi h45
     exact cutN (Lr [])
   ·refine KF hg48 Z (KF hg48 Z (Pk hg48 Z (U 28 Z (WO.nil ?_))))
    obtain rfl := Oi h45
    exact cutN (Lr [])
  ·refine KF hg46 Z (KF hg46 Z (KF hg46 Z (Pk hg46 Z (U 32 Z (WO.nil ?_)))))
   obtain rfl := Oi h45
   exact cutN (Lr [])
 refine Qf (TC.le hle (TC.ret ?_))
 obtain rfl := Oi h
 refine ⟨[(0, _)], _, _, ?_, ResOK.one Z Z, Z, Z⟩
 exact Lr []
def F_dy (n : Nat) (a1 : List Part) (a2 : Int) (rec177 : (List Part) → Int → Option Int) (s20 : Int × Int) : Option (Ctl (Int × Int) Int) :=
  ((bif decide (s20.2 < (a1.length : Int)) then some (decide (s20.1 < 500)) else some false) : Option Bool).bind fun b24 => (bif b24 then (idx a1 s20.2).bind fun x28 => (rec177 x28.Parts (IntKind.i64.wrap (a2 + 1))).bind fun r29 => some (.cont (IntKind.i64.wrap (s20.1 + r29), IntKind.i64.wrap (s20.2 + 1))) else some (.done s20.1))
def B_h (rec177 : (List Part) → Int → Option Int) (n : Nat) (a1 : List Part) (a2 : Int) : Option Int :=
  (bif decide (20 < a2) then some 500 else (iter (F_dy n a1 a2 rec177) n ((a1.length : Int), 0) : Option Int).bind fun b17 => some b17)
theorem QaN (rec177 : (List Part) → Int → Option Int) (hrec177 : ∀ (a1 : List Part) (a2 : Int) (r : Int), rec177 a1 a2 = some r → C prog 31 [.rsl 3 (List.map Part.enc a1), I a2] [] (fun a H => a = I r ∧ H = [])) (n : Nat) (a1 : List Part) (a2 : Int) (r : Int) (h : B_h rec177 n a1 a2 = some r) :
    C prog 31 [.rsl 3 (List.map Part.enc a1), I a2] [] (fun a H => a = I r ∧ H = []) := by
 refine Qd func31 Z Z Z ?_
 refine Rg (U 1 Z (Nx (Rg (U 1 Z (YI runUnderlying91 Z (U 1 Z (Nx (TC.seq (Rg (U 2 Z (Nx (Cn Z h (fun hc1 h => ?_) (fun hc1 h => ?_)))))))))))))
 ·refine Rg (U 1 Z (Nx (RtR ?_)))
  obtain rfl := Oi h
  refine ⟨[(4, _)], _, _, ?_, ResOK.one Z Z, Z, Z⟩
  exact Lr []
 refine QP (TC.seq (Rg (U 1 Z (Nx (Bd h fun b17 h18 h => ?_)))))
 refine TC.cut ([(5, I b17)]) ([]) ?_ (fun env H hle => ?_)
 ·refine TC.block ?_
  refine TC.loop (E := fun s20 => [(0, .rsl 3 (List.map Part.enc a1)), (1, I a2), (5, I s20.1), (6, I s20.2)]) (Hp := fun s20 => []) h18 ?_ ?_
  ·exact Lr []
  intro s20 d21 h22 hb19
  refine TC.seq (TC.seq (Bd h22 fun b24 h25 h22 => ?_))
  refine TC.cut ([(0, .rsl 3 (List.map Part.enc a1)), (1, I a2), (5, I s20.1), (6, I s20.2), (18, .bool b24)]) ([]) ?_ (fun env H hle => ?_)
  ·refine TC.region (U 2 Z (YI runUnderlying91 Z (U 2 Z (If h25 (fun hg26 h25 => ?_) (fun hg26 h25 => ?_)))))
   ·refine Sg (gT hg26) Z (Sg (gT hg26) Z (Pk hg26 Z (WO.nil ?_)))
    obtain rfl := Oi h25
    exact cutN (Lr [])
   ·refine KF hg26 Z (KF hg26 Z (Pk hg26 Z (WO.nil ?_)))
    obtain rfl := Oi h25
    exact cutN (Lr [])
  refine Qf (TC.le hle (YK Z h22 (fun hc27 h22 => ?_) (fun hc27 h22 => ?_)))
  ·refine YJ (Qv h22 ?_)
   obtain rfl := hb19 _ (Oi h22).symm
   exact QL (cutN (Lr []))
  refine QP (TC.seq (TC.block (TC.region (U 3 Z (Bd h22 fun x28 hx28 h22 => ?_)))))
  refine vX (.rp [I x28.Mat, I x28.Laps, .rsl 3 (List.map Part.enc x28.Parts)]) (Q8 (e := Part.enc) hx28 (YH x28) runUnderlying91 sizeOf125) ?_
  refine U 4 Z (Bd h22 fun r29 hr29 h22 => ?_)
  refine Qc [] (OpC.fn call31 Z Z Z) (hrec177 _ _ _ hr29) ?_
  rintro _ _ ⟨rfl, rfl⟩
  refine aV (I r29) [] Z Z ?_
  exact U 2 Z (WO.nil (QB (Qf (TC.region (U 3 Z (WO.nil (Qp h22 (Lr []))))))))
 refine Qf (TC.le hle (Rg (U 2 Z (Nx (TC.ret ?_)))))
 obtain rfl := Oi h
 refine ⟨[(4, _)], _, _, ?_, ResOK.one Z Z, Z, Z⟩
 exact Lr []
def F_h : Nat → (List Part) → Int → Option Int
  | 0 => fun _ _ => none
  | n + 1 => B_h (F_h n) n
theorem k_h (n : Nat) : ∀ (a1 : List Part) (a2 : Int) (r : Int), F_h n a1 a2 = some r → C prog 31 [.rsl 3 (List.map Part.enc a1), I a2] [] (fun a H => a = I r ∧ H = []) := by
  induction n with
  | zero => intro a1 a2 r h; cases h
  | succ n ih => intro a1 a2 r h; exact QaN _ ih n a1 a2 r h
def F_el (n : Nat) (a1 : List Cond) (a2 : Int) (rec179 : (List Cond) → Int → Option Int) (s20 : Int × Int) : Option (Ctl (Int × Int) Int) :=
  ((bif decide (s20.2 < (a1.length : Int)) then some (decide (s20.1 < 500)) else some false) : Option Bool).bind fun b24 => (bif b24 then (idx a1 s20.2).bind fun x28 => (rec179 x28.Parts (IntKind.i64.wrap (a2 + 1))).bind fun r29 => some (.cont (IntKind.i64.wrap (s20.1 + r29), IntKind.i64.wrap (s20.2 + 1))) else some (.done s20.1))
def B_k (rec179 : (List Cond) → Int → Option Int) (n : Nat) (a1 : List Cond) (a2 : Int) : Option Int :=
  (bif decide (20 < a2) then some 500 else (iter (F_el n a1 a2 rec179) n ((a1.length : Int), 0) : Option Int).bind fun b17 => some b17)
theorem QaG (rec179 : (List Cond) → Int → Option Int) (hrec179 : ∀ (a1 : List Cond) (a2 : Int) (r : Int), rec179 a1 a2 = some r → C prog 52 [.rsl 4 (List.map Cond.enc a1), I a2] [] (fun a H => a = I r ∧ H = [])) (n : Nat) (a1 : List Cond) (a2 : Int) (r : Int) (h : B_k rec179 n a1 a2 = some r) :
    C prog 52 [.rsl 4 (List.map Cond.enc a1), I a2] [] (fun a H => a = I r ∧ H = []) := by
 refine Qd func52 Z Z Z ?_
 refine Rg (U 1 Z (Nx (Rg (U 1 Z (YI runUnderlying128 Z (U 1 Z (Nx (TC.seq (Rg (U 2 Z (Nx (Cn Z h (fun hc1 h => ?_) (fun hc1 h => ?_)))))))))))))
 ·refine Rg (U 1 Z (Nx (RtR ?_)))
  obtain rfl := Oi h
  refine ⟨[(4, _)], _, _, ?_, ResOK.one Z Z, Z, Z⟩
  exact Lr []
 refine QP (TC.seq (Rg (U 1 Z (Nx (Bd h fun b17 h18 h => ?_)))))
 refine TC.cut ([(5, I b17)]) ([]) ?_ (fun env H hle => ?_)
 ·refine TC.block ?_
  refine TC.loop (E := fun s20 => [(0, .rsl 4 (List.map Cond.enc a1)), (1, I a2), (5, I s20.1), (6, I s20.2)]) (Hp := fun s20 => []) h18 ?_ ?_
  ·exact Lr []
  intro s20 d21 h22 hb19
  refine TC.seq (TC.seq (Bd h22 fun b24 h25 h22 => ?_))
  refine TC.cut ([(0, .rsl 4 (List.map Cond.enc a1)), (1, I a2), (5, I s20.1), (6, I s20.2), (18, .bool b24)]) ([]) ?_ (fun env H hle => ?_)
  ·refine TC.region (U 2 Z (YI runUnderlying128 Z (U 2 Z (If h25 (fun hg26 h25 => ?_) (fun hg26 h25 => ?_)))))
   ·refine Sg (gT hg26) Z (Sg (gT hg26) Z (Pk hg26 Z (WO.nil ?_)))
    obtain rfl := Oi h25
    exact cutN (Lr [])
   ·refine KF hg26 Z (KF hg26 Z (Pk hg26 Z (WO.nil ?_)))
    obtain rfl := Oi h25
    exact cutN (Lr [])
  refine Qf (TC.le hle (YK Z h22 (fun hc27 h22 => ?_) (fun hc27 h22 => ?_)))
  ·refine YJ (Qv h22 ?_)
   obtain rfl := hb19 _ (Oi h22).symm
   exact QL (cutN (Lr []))
  refine QP (TC.seq (TC.block (TC.region (U 3 Z (Bd h22 fun x28 hx28 h22 => ?_)))))
  refine vX (.rp [I x28.Kind, I x28.Var, I x28.N, .rsl 4 (List.map Cond.enc x28.Parts)]) (Q8 (e := Cond.enc) hx28 (Qan x28) runUnderlying128 sizeOf130) ?_
  refine U 4 Z (Bd h22 fun r29 hr29 h22 => ?_)
  refine Qc [] (OpC.fn call52 Z Z Z) (hrec179 _ _ _ hr29) ?_
  rintro _ _ ⟨rfl, rfl⟩
  refine aV (I r29) [] Z Z ?_
  exact U 2 Z (WO.nil (QB (Qf (TC.region (U 3 Z (WO.nil (Qp h22 (Lr []))))))))
 refine Qf (TC.le hle (Rg (U 2 Z (Nx (TC.ret ?_)))))
 obtain rfl := Oi h
 refine ⟨[(4, _)], _, _, ?_, ResOK.one Z Z, Z, Z⟩
 exact Lr []
def F_k : Nat → (List Cond) → Int → Option Int
  | 0 => fun _ _ => none
  | n + 1 => B_k (F_k n) n
theorem k_k (n : Nat) : ∀ (a1 : List Cond) (a2 : Int) (r : Int), F_k n a1 a2 = some r → C prog 52 [.rsl 4 (List.map Cond.enc a1), I a2] [] (fun a H => a = I r ∧ H = []) := by
  induction n with
  | zero => intro a1 a2 r h; cases h
  | succ n ih => intro a1 a2 r h; exact QaG _ ih n a1 a2 r h
end Go.Sw
