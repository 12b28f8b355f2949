/- What the functions compute that CategoriesTables reaches, and that their calls refine it (part 3 of 4). -/
import Derived.Test.YtjikdlekkmifhaaGreatW29Ta2
set_option linter.unusedVariables false
set_option linter.unusedSimpArgs false
set_option maxRecDepth 100000
namespace Go.Sw
open Go.Proofs Tryz
def F_fy (n : Nat) (a1 : Course) (s19 : (List (typing_ends × Bool)) × Int) : Option (Ctl ((List (typing_ends × Bool)) × Int) (List (typing_ends × Bool))) :=
  (bif decide (s19.2 < (a1.Legs.length : Int)) then (idx a1.Legs s19.2).bind fun x23 => (some (mset s19.1 ({ from_ := x23.From, to_ := x23.To : typing_ends }) true)).bind fun m24 => some (.cont (m24, IntKind.i64.wrap (s19.2 + 1))) else some (.done s19.1))
def F_bk (n : Nat) (a1 : Course) : Option Int :=
  (F_ch n a1).bind fun r1 => (bif (!r1) then some 2 else (F_cg n a1).bind fun r3 => (bif (!r3) then some 70 else (F_av n a1).bind fun r5 => (bif (!r5) then some 71 else (F_ba n a1.Ties).bind fun r7 => (bif (r7 != 0) then some r7 else (iter (F_fy n a1) n ([], 0) : Option (List (typing_ends × Bool))).bind fun b16 => (F_bw n a1.Distances a1 b16).bind fun r25 => (bif (!r25) then some 72 else some 0)))))
theorem k_bk (n : Nat) (a1 : Course) (r : Int) (h : F_bk n a1 = some r) :
    C prog 26 [.agg (Course.c a1)] [] (fun a H => a = .int .i64 r ∧ H = []) := by
 refine C.of_body func26 Z Z Z ?_
 refine Rg ?_
 refine vH (OpH.box Z Z Z Z Z) ?_
 refine aV (.ptr 0 0) [.cells 33 (Course.c a1)] Z Z ?_
 refine S Z (Nx (TC.seq (TC.block (Rg ?_))))
 refine vX (.agg (Course.c a1)) (OpV.loadA Z isAgg33 sizeOf33 Z (Pts.cells Z Z) Z Z) ?_
 refine Bd h fun r1 hr1 h => ?_
 refine WO.callD [] (OpC.fn call43 Z Z Z) (k_ch _ _ _ hr1) ?_
 rintro _ _ ⟨rfl, rfl⟩
 refine aV (.bool r1) [_] Z Z ?_
 refine S Z (S Z (Nx (Cn Z h (fun hc2 h => ?_) (fun hc2 h => ?_))))
 ·
  refine Rg (S Z (Nx (TC.ret (bloR (seqR ?_)))))
  obtain rfl := Oi h
  refine ⟨[(2, _)], _, _, ?_, ResOK.one Z Z, Z, Z⟩
  exact Lr []
 refine Rg ?_
 refine vX (.agg (Course.c a1)) (OpV.loadA Z isAgg33 sizeOf33 Z (Pts.cells Z Z) Z Z) ?_
 refine Bd h fun r3 hr3 h => ?_
 refine WO.callD [] (OpC.fn call44 Z Z Z) (k_cg _ _ _ hr3) ?_
 rintro _ _ ⟨rfl, rfl⟩
 refine aV (.bool r3) [_] Z Z ?_
 refine S Z (S Z (Nx (Cn Z h (fun hc4 h => ?_) (fun hc4 h => ?_))))
 ·
  refine Rg (S Z (Nx (TC.ret (bloR (seqR ?_)))))
  obtain rfl := Oi h
  refine ⟨[(2, _)], _, _, ?_, ResOK.one Z Z, Z, Z⟩
  exact Lr []
 refine Rg ?_
 refine vX (.agg (Course.c a1)) (OpV.loadA Z isAgg33 sizeOf33 Z (Pts.cells Z Z) Z Z) ?_
 refine Bd h fun r5 hr5 h => ?_
 refine WO.callD [] (OpC.fn call45 Z Z Z) (k_av _ _ _ hr5) ?_
 rintro _ _ ⟨rfl, rfl⟩
 refine aV (.bool r5) [_] Z Z ?_
 refine S Z (S Z (Nx (Cn Z h (fun hc6 h => ?_) (fun hc6 h => ?_))))
 ·
  refine Rg (S Z (Nx (TC.ret (bloR (seqR ?_)))))
  obtain rfl := Oi h
  refine ⟨[(2, _)], _, _, ?_, ResOK.one Z Z, Z, Z⟩
  exact Lr []
 refine TC.skip (bloN (seqN (TC.seq (Rg (Fp fa_33_8 Z (Ld isAgg29 Z (Bd h fun r7 hr7 h => ?_)))))))
 refine WO.callD [] (OpC.fn call46 Z Z Z) (k_ba _ _ _ hr7) ?_
 rintro _ _ ⟨rfl, rfl⟩
 refine aV (.int .i64 r7) [_] Z Z ?_
 refine S Z (Nx (Rg (S Z (S Z (Nx (Cn Z h (fun hc8 h => ?_) (fun hc8 h => ?_)))))))
 ·
  refine Rg (S Z (S Z (Nx (RtR ?_))))
  obtain rfl := Oi h
  refine ⟨[(2, _)], _, _, ?_, ResOK.one Z Z, Z, Z⟩
  exact Lr []
 refine SkN (Rg ?_)
 refine vH OpH.mkMap ?_
 refine aV (.map 1) [_, .map (menc (fun x => A.agg (typing_ends.c x)) A.bool [])] Z Z ?_
 refine vH (OpH.allocZ (v := .nilm) zeroValue88 ZR.nilm) ?_
 refine aV (.ptr 2 0) [_, _, .cells 88 [.nilm]] Z Z ?_
 refine vU (OpU.store Z Z Z sizeOf88 Z Z Z Z Z Z Z) ?_
 refine WO.atH (H := [_, _, .cells 88 [.map 1]]) Z ?_
 refine Nx (TC.seq (Rg (Fp fa_33_2 Z (Ld isAgg23 Z (LnM runUnderlying23 Z (S Z (Nx (Bd h fun b16 h17 h => ?_))))))))
 refine TC.cut ([(1, .ptr 0 0), (3, .ptr 1 0)]) ([.cells 33 (Course.c a1), .cells 88 [.map 2], .map (menc (fun x => A.agg (typing_ends.c x)) A.bool b16)]) ?_ (fun env H hle => ?_)
 ·
  refine TC.block ?_
  refine TC.loop (E := fun s19 => [(1, .ptr 0 0), (3, .ptr 1 0), (26, .rsl 4 (List.map Leg.c a1.Legs)), (27, .int .i64 (a1.Legs.length : Int)), (28, .int .i64 s19.2)]) (Hp := fun s19 => [.cells 33 (Course.c a1), .cells 88 [.map 2], .map (menc (fun x => A.agg (typing_ends.c x)) A.bool s19.1)]) h17 ?_ ?_
  ·
   exact Lr [0, 2, 1]
  intro s19 d20 h21 hb18
  refine Rg (S Z (Nx (TC.seq (CnS Z h21 (fun hc22 h21 => ?_) (fun hc22 h21 => ?_)))))
  ·
   refine ExX (loopX h21 ?_)
   obtain rfl := hb18 _ (Oi h21).symm
   exact bloE (cutN (Lr [0, 1, 2]))
  refine SkN (TC.seq (TC.block (Rg (Bd h21 fun x23 hx23 h21 => Ix hx23 runUnderlying23 sizeOf90 Z ?_))))
  refine vX (.agg (Leg.c x23)) (OpV.loadA Z isAgg90 sizeOf90 Z Pts.rp Z Z) ?_
  refine vH (OpH.allocZ (v := (.agg [.int .i64 0, .int .i64 0, .int .i64 0, .int .i64 0])) zeroValue90 (ZR.agg (ZL.cons ZR.int (ZL.cons ZR.int (ZL.cons ZR.int (ZL.cons ZR.int ZL.nil)))))) ?_
  refine aV (.ptr 3 0) [_, _, _, .cells 90 [.int .i64 0, .int .i64 0, .int .i64 0, .int .i64 0]] Z Z ?_
  refine vU (OpU.store Z Z Z sizeOf90 Z Z Z Z Z Z Z) ?_
  refine WO.atH (H := [_, _, _, .cells 90 (Leg.c x23)]) Z ?_
  refine Nx (TC.region (Ld isAgg88 Z (Fp fa_90_0 Z (Ld isAgg3 Z (Fp fa_90_1 Z (Ld isAgg3 Z ?_))))))
  refine vX (.agg [.int .i64 x23.From, .int .i64 x23.To]) (OpV.build (zs := [.int .i64 0, .int .i64 0]) zeroValue92 (ZR.agg (ZL.cons ZR.int (ZL.cons ZR.int ZL.nil))) pl_92) ?_
  refine Bd h21 fun m24 hm24 h21 => ?_
  refine vU (OpU.mput (ev := A.bool) (k := ({ from_ := x23.From, to_ := x23.To : typing_ends })) (v := true) (l := s19.1) key_92 hm24 Z underlying88) ?_
  refine WO.atH (H := [_, _, .map (menc (fun x => A.agg (typing_ends.c x)) A.bool m24), _]) Z ?_
  exact WO.nil (bloN (seqN (TC.region (S Z (S Z (WO.nil (loopN h21 (Lr [0, 1, 2]))))))))
 refine seqN (TC.le hle (TC.seq (Rg (Fp fa_33_3 Z (Ld isAgg24 Z ?_)))))
 refine vX (.fn (.func 48) [] [.ptr 0 0, .ptr 1 0]) (OpV.makeFunc (first := []) (cap := [.tmp 1, .tmp 3]) Z Z Z) ?_
 refine Bd h fun r25 hr25 h => ?_
 refine WO.callD [0, 1, 2] (OpC.fn call47 Z Z Z) (k_bw _ _ _ _ _ hr25) ?_
 rintro _ _ ⟨rfl, rfl⟩
 refine aV (.bool r25) [_, _, _] Z Z ?_
 refine S Z (Nx (Cn Z h (fun hc26 h => ?_) (fun hc26 h => ?_)))
 ·
  refine Rg (S Z (Nx (RtR ?_)))
  obtain rfl := Oi h
  refine ⟨[(2, _)], _, _, ?_, ResOK.one Z Z, Z, Z⟩
  exact Lr []
 refine SkN (Rg (S Z (Nx (TC.ret ?_))))
 obtain rfl := Oi h
 refine ⟨[(2, _)], _, _, ?_, ResOK.one Z Z, Z, Z⟩
 exact Lr []
def F_fu (n : Nat) (a1 : Int) : Option Unit :=
  some ()
theorem k_fu (n : Nat) (a1 : Int) (r : Unit) (h : F_fu n a1 = some r) :
    C prog 28 [.int .i64 a1] [] (fun a H => a = .fn (.func 55) [] [.ptr 0 0] ∧ H = [.cells 3 [.int .i64 a1]]) := by
 refine C.of_body func28 Z Z Z ?_
 refine Rg ?_
 refine vH (OpH.box Z Z Z Z Z) ?_
 refine aV (.ptr 0 0) [.cells 3 [.int .i64 a1]] Z Z ?_
 refine S Z (Nx (Rg ?_))
 refine vX (.fn (.func 55) [] [.ptr 0 0]) (OpV.makeFunc (first := []) (cap := [.tmp 1]) Z Z Z) ?_
 refine S Z (Nx (TC.ret ?_))
 obtain rfl := Oi h
 refine ⟨[(2, _)], _, _, ?_, ResOK.one Z Z, Z, Z⟩
 exact Lr [0]
def F_ft (n : Nat) (a1 : Course) (a2 : Int) : Option Unit :=
  some ()
theorem k_ft (n : Nat) (a1 : Course) (a2 : Int) (r : Unit) (h : F_ft n a1 a2 = some r) :
    C prog 29 [.agg (Course.c a1), .int .i64 a2] [] (fun a H => a = .fn (.func 56) [] [.ptr 0 0, .ptr 1 0] ∧ H = [.cells 3 [.int .i64 a2], .cells 33 (Course.c a1)]) := by
 refine C.of_body func29 Z Z Z ?_
 refine Rg ?_
 refine vH (OpH.box Z Z Z Z Z) ?_
 refine aV (.ptr 0 0) [.cells 33 (Course.c a1)] Z Z ?_
 refine vH (OpH.box Z Z Z Z Z) ?_
 refine aV (.ptr 1 0) [_, .cells 3 [.int .i64 a2]] Z Z ?_
 refine S Z (Nx (Rg ?_))
 refine vX (.fn (.func 56) [] [.ptr 1 0, .ptr 0 0]) (OpV.makeFunc (first := []) (cap := [.tmp 3, .tmp 2]) Z Z Z) ?_
 refine S Z (Nx (TC.ret ?_))
 obtain rfl := Oi h
 refine ⟨[(4, _)], _, _, ?_, ResOK.one Z Z, Z, Z⟩
 exact Lr [1, 0]
def F_ew (n : Nat) (a1 : List Starter) : Option (List Starter) :=
  isNil a1 (some []) ((app ([] : List Starter) a1).bind fun l3 => some l3)
theorem k_ew (n : Nat) (a1 : List Starter) (r : List Starter) (h : F_ew n a1 = some r) :
    C prog 51 [.rsl 8 (List.map Starter.c a1)] [] (fun a H => a = .osl 0 0 r.length 8 ∧ H = [.row 42 8 (List.map Starter.c r)]) := by
 refine C.of_body func51 Z Z Z ?_
 refine Rg (S Z (Nx (TC.seq (Rg (S Z ?_)))))
 refine WO.nilEq (e := Starter.c) (l := a1) underlying34 Z (fun b1 hb2 => ?_)
 have hkb1 := isNil_ok h b1 hb2
 cases b1
 ·
  have h := hkb1.2 Z
  refine Nx (CnF Z Z (SkN (Rg ?_)))
  refine vH (OpH.lit (xs := []) (es := List.map Starter.c []) el_34 Z Z Z Z Z trivial Z Z) ?_
  refine aV (.osl 0 0 (([] : List Starter).length) 8) [.row 42 8 (List.map Starter.c ([] : List Starter))] Z Z ?_
  refine S Z (Bd h fun l3 hl3 h => ?_)
  refine vH (OpH.appO (e := Starter.c) hl3 el_34 runUnderlying34 Src.rM) ?_
  refine aV (.osl 1 0 l3.length 8) [.dead, .row 42 8 (List.map Starter.c l3)] Z Z ?_
  refine S Z (Nx (TC.ret ?_))
  obtain rfl := Oi h
  refine ⟨[(2, _)], _, _, ?_, ResOK.one Z Z, Z, Z⟩
  exact Lr [1]
 ·
  have h := hkb1.1 Z
  refine Nx (CnT Z Z (Rg (S Z (Nx (RtR ?_)))))
  obtain rfl := Oi h
  refine ⟨[(2, _)], _, _, ?_, ResOK.one Z Z, Z, Z⟩
  refine Le.trans (Le.phantom (s := 2) (k := 8) (t := 42) (Nat.le_of_ble_eq_true Z) Z) ?_
  exact Lr [0]
def F_ei (n : Nat) (a1 : Starter) (a2 : Int) : Option Unit :=
  some ()
theorem k_ei (n : Nat) (a1 : Starter) (a2 : Int) (r : Unit) (h : F_ei n a1 a2 = some r) :
    C prog 55 [.agg (Starter.c a1), .ptr 0 0] [.cells 3 [.int .i64 a2]] (fun a H => a = .bool (a1.Distance == a2) ∧ H = [.cells 3 [.int .i64 a2]]) := by
 refine C.of_body func55 Z Z Z ?_
 refine Rg ?_
 refine vH (OpH.box Z Z Z Z Z) ?_
 refine aV (.ptr 1 0) [_, .cells 42 (Starter.c a1)] Z Z ?_
 refine S Z (Nx (Rg (Fp fa_42_1 Z (Ld isAgg3 Z (Ld isAgg3 Z (S Z (S Z (Nx (TC.ret ?_)))))))))
 obtain rfl := Oi h
 refine ⟨[(3, _)], _, _, ?_, ResOK.one Z Z, Z, Z⟩
 exact Lr [0]
def F_cv (n : Nat) (a1 : Int) (a2 : Starter) : Option Unit :=
  (F_ei n a2 a1).bind fun r1 => some ()
theorem k_cv (n : Nat) (a1 : Int) (a2 : Starter) (r : Unit) (h : F_cv n a1 a2 = some r) :
    C prog 54 [.fn (.func 55) [] [.ptr 0 0], .ptr 1 0] [.cells 3 [.int .i64 a1], .cells 42 (Starter.c a2)] (fun a H => a = .bool (!(a2.Distance == a1)) ∧ H = [.cells 3 [.int .i64 a1], .cells 42 (Starter.c a2)]) := by
 refine C.of_body func54 Z Z Z ?_
 refine Rg (S Z (Nx (Rg (S Z ?_))))
 refine vX (.agg (Starter.c a2)) (OpV.loadA Z isAgg42 sizeOf42 Z (Pts.cells Z Z) Z Z) ?_
 refine Bd h fun r1 hr1 h => ?_
 refine WO.callD [0] (OpC.clo call55 Z Z Z Z) (k_ei _ _ _ _ hr1) ?_
 rintro _ _ ⟨rfl, rfl⟩
 refine aV (.bool (a2.Distance == a1)) [_, _] Z Z ?_
 refine S Z (S Z (Nx (TC.ret ?_)))
 obtain rfl := Oi h
 refine ⟨[(3, _)], _, _, ?_, ResOK.one Z Z, Z, Z⟩
 exact Lr [0, 1]
def F_gw (n : Nat) (a1 : List Int) (a2 : Int) (s11 : Int) : Option (Ctl Int (Ctl Unit Int)) :=
  (bif decide (s11 < (a1.length : Int)) then (idx a1 s11).bind fun x15 => (bif (a2 == x15) then some (.done (.done s11)) else some (.cont (IntKind.i64.wrap (s11 + 1)))) else some (.done (.cont ())))
def F_et (n : Nat) (a1 : List Int) (a2 : Int) : Option Int :=
  (iter (F_gw n a1 a2) n 0 : Option (Ctl Unit Int)).bind fun b8 => match b8 with | .cont sb8 => (some (-1)) | .done sb8 => some sb8
theorem k_et (n : Nat) (a1 : List Int) (a2 : Int) (r : Int) (h : F_et n a1 a2 = some r) :
    C prog 115 [.rsl 1 (List.map (encI .i64) a1), .int .i64 a2] [] (fun a H => a = .int .i64 r ∧ H = []) := by
 refine C.of_body func115 Z Z Z ?_
 refine Rg (S Z (Nx (TC.seq (Rg (S Z (LnM runUnderlying39 Z (S Z (Nx (Bd h fun b8 h9 h => ?_)))))))))
 refine TC.cutE (b := b8) (fun sb8 => []) (fun sb8 => []) ?_ (fun sb8 env H hbe hle => ?_)
 ·
  refine TC.block ?_
  refine TC.loop (E := fun s11 => [(0, .rsl 1 (List.map (encI .i64) a1)), (1, .int .i64 a2), (7, .int .i64 (a1.length : Int)), (8, .int .i64 s11)]) (Hp := fun s11 => []) h9 ?_ ?_
  ·
   exact Lr []
  intro s11 d12 h13 hb10
  refine Rg (S Z (Nx (TC.seq (CnS Z h13 (fun hc14 h13 => ?_) (fun hc14 h13 => ?_)))))
  ·
   refine ExX (loopX h13 ?_)
   obtain rfl := hb10 _ (Oi h13).symm
   exact bloE (cutEN Z (Lr []))
  refine SkN (TC.seq (TC.block (Rg (S Z (S Z (Nx (Rg (S Z (S Z (S Z (Bd h13 fun x15 hx15 h13 => Ix hx15 runUnderlying39 sizeOf3 Z (Ld isAgg3 Z (S Z (Nx (Cn Z h13 (fun hc16 h13 => ?_) (fun hc16 h13 => ?_))))))))))))))))
  ·
   refine Rg (S Z (S Z (Nx (TC.ret (bloR (seqR (loopR h13 ?_)))))))
   obtain rfl := hb10 _ (Oi h13).symm
   refine bloR (cutER (seqR ?_))
   obtain rfl := Oi h
   refine ⟨[(4, _)], _, _, ?_, ResOK.one Z Z, Z, Z⟩
   exact Lr []
  exact TC.skip (bloN (seqN (TC.region (S Z (S Z (WO.nil (loopN h13 (Lr []))))))))
 subst hbe
 refine seqN (TC.le hle (Rg (S Z (Nx (TC.ret ?_)))))
 obtain rfl := Oi h
 refine ⟨[(4, _)], _, _, ?_, ResOK.one Z Z, Z, Z⟩
 exact Lr []
def F_am (n : Nat) (a1 : List Int) (a2 : Int) : Option Bool :=
  (F_et n a1 a2).bind fun r1 => some (decide (0 ≤ r1))
theorem k_am (n : Nat) (a1 : List Int) (a2 : Int) (r : Bool) (h : F_am n a1 a2 = some r) :
    C prog 57 [.rsl 1 (List.map (encI .i64) a1), .int .i64 a2] [] (fun a H => a = .bool r ∧ H = []) := by
 refine C.of_body func57 Z Z Z ?_
 refine Rg (S Z (Nx (Rg (S Z (S Z (Bd h fun r1 hr1 h => ?_))))))
 refine WO.callD [] (OpC.fn call115 Z Z Z) (k_et _ _ _ _ hr1) ?_
 rintro _ _ ⟨rfl, rfl⟩
 refine aV (.int .i64 r1) [] Z Z ?_
 refine S Z (S Z (Nx (TC.ret ?_)))
 obtain rfl := Oi h
 refine ⟨[(4, _)], _, _, ?_, ResOK.one Z Z, Z, Z⟩
 exact Lr []
def F_dg (n : Nat) (a1 : Starter) (a2 : Int) (a3 : Course) : Option Bool :=
  ((bif (a2 == (-1)) then some true else (F_u n a3 a1).bind fun r7 => (F_am n r7 a2).bind fun r8 => some r8) : Option Bool).bind fun b4 => some b4
theorem k_dg (n : Nat) (a1 : Starter) (a2 : Int) (a3 : Course) (r : Bool) (h : F_dg n a1 a2 a3 = some r) :
    C prog 56 [.agg (Starter.c a1), .ptr 0 0, .ptr 1 0] [.cells 3 [.int .i64 a2], .cells 33 (Course.c a3)] (fun a H => a = .bool r ∧ H = [.cells 3 [.int .i64 a2], .cells 33 (Course.c a3)]) := by
 refine C.of_body func56 Z Z Z ?_
 refine Rg ?_
 refine vH (OpH.box Z Z Z Z Z) ?_
 refine aV (.ptr 2 0) [_, _, .cells 42 (Starter.c a1)] Z Z ?_
 refine S Z (Nx (TC.seq (Bd h fun b4 h5 h => ?_)))
 refine TC.cut ([(4, .bool b4)]) ([.cells 3 [.int .i64 a2], .cells 33 (Course.c a3)]) ?_ (fun env H hle => ?_)
 ·
  refine If h5 (fun hg6 h5 => ?_) (fun hg6 h5 => ?_)
  ·
   refine TC.draw 7 0 [5, 6, 7, 8, 9, 10, 11] [0, 0, 0, 0, 0, 0, 0] [false, false, false, false, false, false, false] [.int .i64 a2, .bool (a2 == (-1)), .bool (a2 == (-1)), .tup [], .tup [], .tup [], .tup []] [[.cells 3 [.int .i64 a2], .cells 33 (Course.c a3), .cells 42 (Starter.c a1)]] ([.cells 3 [.int .i64 a2], .cells 33 (Course.c a3), .cells 42 (Starter.c a1)]) draws Z Z Z Z Z Z Z Z ?_ ?_
   ·
    refine Ob.cons ?_ (Ob.cons ?_ (Ob.cons ?_ (Ob.cons ?_ (Ob.cons ?_ (Ob.cons ?_ (Ob.cons ?_ (Ob.nil)))))))
    ·
      refine OB [(1, _)] 5 Z Z Z (Sb.old Z Z Sb.nil) ?_
      exact Ld isAgg3 Z Wp
    ·
      refine OB [(5, _)] 6 Z Z Z (Sb.dep 0 Z Z Z Sb.nil) ?_
      exact S Z Wp
    ·
      refine OB [(6, _)] 7 Z Z Z (Sb.dep 1 Z Z Z Sb.nil) ?_
      exact S Z Wp
    ·
      refine OB [(2, _), (7, _)] 8 Z Z Z (Sb.old Z Z (Sb.dep 2 Z Z Z Sb.nil)) ?_
      exact K (gF hg6) Z Wp
    ·
      refine OB [(3, _), (7, _)] 9 Z Z Z (Sb.old Z Z (Sb.dep 2 Z Z Z Sb.nil)) ?_
      exact K (gF hg6) Z Wp
    ·
      refine OB [(7, _), (8, _), (9, _)] 10 Z Z Z (Sb.dep 2 Z Z Z (Sb.dep 3 Z Z Z (Sb.dep 4 Z Z Z Sb.nil))) ?_
      exact K (gF hg6) Z Wp
    ·
      refine OB [(1, _), (7, _)] 11 Z Z Z (Sb.old Z Z (Sb.dep 2 Z Z Z Sb.nil)) ?_
      exact K (gF hg6) Z Wp
   refine KF hg6 Z (Pk hg6 Z (S Z (WO.nil ?_)))
   obtain rfl := Oi h5
   exact cutN (Lr [0, 1])
  ·
   obtain ⟨r7, hr7, h5⟩ := bnd h5
   refine TC.draw 7 1 [5, 6, 7, 8, 9, 10, 11] [0, 0, 0, 0, 0, 0, 0] [false, false, false, false, false, true, false] [.int .i64 a2, .bool (a2 == (-1)), .bool (a2 == (-1)), .agg (Course.c a3), .agg (Starter.c a1), .osl 3 0 r7.length 1, .int .i64 a2] [[.cells 3 [.int .i64 a2], .cells 33 (Course.c a3), .cells 42 (Starter.c a1)], [.cells 3 [.int .i64 a2], .cells 33 (Course.c a3), .cells 42 (Starter.c a1), .row 3 1 (List.map (encI .i64) r7)]] ([.cells 3 [.int .i64 a2], .cells 33 (Course.c a3), .cells 42 (Starter.c a1), .row 3 1 (List.map (encI .i64) r7)]) draws Z Z Z Z Z Z Z Z ?_ ?_
   ·
    refine Ob.cons ?_ (Ob.cons ?_ (Ob.cons ?_ (Ob.cons ?_ (Ob.cons ?_ (Ob.cons ?_ (Ob.cons ?_ (Ob.nil)))))))
    ·
     refine Ob.stC ?_ (Ob.stC ?_ (Ob.st0))
     ·
      refine OblAt.mk _ [(1, _)] 5 _ Z Z Z (Sb.old Z Z Sb.nil) ?_
      exact Ld isAgg3 Z Wp
     ·
      refine OblAt.mk _ [(1, _)] 5 _ Z Z Z (Sb.old Z Z Sb.nil) ?_
      exact Ld isAgg3 Z Wp
    ·
     refine Ob.stC ?_ (Ob.stC ?_ (Ob.st0))
     ·
      refine OblAt.mk _ [(5, _)] 6 _ Z Z Z (Sb.dep 0 Z Z Z Sb.nil) ?_
      exact S Z Wp
     ·
      refine OblAt.mk _ [(5, _)] 6 _ Z Z Z (Sb.dep 0 Z Z Z Sb.nil) ?_
      exact S Z Wp
    ·
     refine Ob.stC ?_ (Ob.stC ?_ (Ob.st0))
     ·
      refine OblAt.mk _ [(6, _)] 7 _ Z Z Z (Sb.dep 1 Z Z Z Sb.nil) ?_
      exact S Z Wp
     ·
      refine OblAt.mk _ [(6, _)] 7 _ Z Z Z (Sb.dep 1 Z Z Z Sb.nil) ?_
      exact S Z Wp
    ·
     refine Ob.stC ?_ (Ob.stC ?_ (Ob.st0))
     ·
      refine OblAt.mk _ [(2, _), (7, _)] 8 _ Z Z Z (Sb.old Z Z (Sb.dep 2 Z Z Z Sb.nil)) ?_
      refine vX (.agg (Course.c a3)) (OpV.loadA Z isAgg33 sizeOf33 Z (Pts.cells Z Z) Z Z) ?_ (gT hg6)
      exact WO.nil Post1.mk
     ·
      refine OblAt.mk _ [(2, _), (7, _)] 8 _ Z Z Z (Sb.old Z Z (Sb.dep 2 Z Z Z Sb.nil)) ?_
      refine vX (.agg (Course.c a3)) (OpV.loadA Z isAgg33 sizeOf33 Z (Pts.cells Z Z) Z Z) ?_ (gT hg6)
      exact WO.nil Post1.mk
    ·
     refine Ob.stC ?_ (Ob.stC ?_ (Ob.st0))
     ·
      refine OblAt.mk _ [(3, _), (7, _)] 9 _ Z Z Z (Sb.old Z Z (Sb.dep 2 Z Z Z Sb.nil)) ?_
      refine vX (.agg (Starter.c a1)) (OpV.loadA Z isAgg42 sizeOf42 Z (Pts.cells Z Z) Z Z) ?_ (gT hg6)
      exact WO.nil Post1.mk
     ·
      refine OblAt.mk _ [(3, _), (7, _)] 9 _ Z Z Z (Sb.old Z Z (Sb.dep 2 Z Z Z Sb.nil)) ?_
      refine vX (.agg (Starter.c a1)) (OpV.loadA Z isAgg42 sizeOf42 Z (Pts.cells Z Z) Z Z) ?_ (gT hg6)
      exact WO.nil Post1.mk
    ·
      refine OB [(7, _), (8, _), (9, _)] 10 Z Z Z (Sb.dep 2 Z Z Z (Sb.dep 3 Z Z Z (Sb.dep 4 Z Z Z Sb.nil))) ?_
      refine WO.callD [] (OpC.fn call12 Z Z Z) (k_u _ _ _ _ hr7) ?_ (hg := (gT hg6))
      rintro _ _ ⟨rfl, rfl⟩
      refine aV (.osl 3 0 r7.length 1) [_, _, _, .row 3 1 (List.map (encI .i64) r7)] Z Z ?_
      exact WO.nil Post1.mk
    ·
     refine Ob.stC ?_ (Ob.stC ?_ (Ob.st0))
     ·
      refine OblAt.mk _ [(1, _), (7, _)] 11 _ Z Z Z (Sb.old Z Z (Sb.dep 2 Z Z Z Sb.nil)) ?_
      exact Ldg (gT hg6) isAgg3 Z Wp
     ·
      refine OblAt.mk _ [(1, _), (7, _)] 11 _ Z Z Z (Sb.old Z Z (Sb.dep 2 Z Z Z Sb.nil)) ?_
      exact Ldg (gT hg6) isAgg3 Z Wp
   refine Bd h5 fun r8 hr8 h5 => ?_
   refine WO.callB (OpC.fn call57 rfl rfl rfl) (LookL.cons rfl (.inr ⟨_, _, _, _, _, rfl, rfl, List.length_map .., rfl⟩) (LookL.cons rfl (.inl ⟨rfl, rfl⟩) LookL.nil)) (k_am _ _ _ _ hr8) (by rintro _ _ ⟨rfl, rfl⟩; rfl) ?_ (gT hg6)
   rintro _ _ ⟨rfl, rfl⟩
   refine aV (.bool r8) [_, _, _, _] Z Z ?_
   refine Pk hg6 Z (S Z (WO.nil ?_))
   obtain rfl := Oi h5
   exact cutN (Lr [0, 1])
 refine seqN (TC.le hle (TC.ret ?_))
 obtain rfl := Oi h
 refine ⟨[(4, _)], _, _, ?_, ResOK.one Z Z, Z, Z⟩
 exact Lr [0, 1]
def F_du (n : Nat) (a1 : Int) (a2 : Course) (a3 : Starter) : Option Bool :=
  (F_dg n a3 a1 a2).bind fun r1 => some (!r1)
theorem k_du (n : Nat) (a1 : Int) (a2 : Course) (a3 : Starter) (r : Bool) (h : F_du n a1 a2 a3 = some r) :
    C prog 54 [.fn (.func 56) [] [.ptr 0 0, .ptr 1 0], .ptr 2 0] [.cells 3 [.int .i64 a1], .cells 33 (Course.c a2), .cells 42 (Starter.c a3)] (fun a H => a = .bool r ∧ H = [.cells 3 [.int .i64 a1], .cells 33 (Course.c a2), .cells 42 (Starter.c a3)]) := by
 refine C.of_body func54 Z Z Z ?_
 refine Rg (S Z (Nx (Rg (S Z ?_))))
 refine vX (.agg (Starter.c a3)) (OpV.loadA Z isAgg42 sizeOf42 Z (Pts.cells Z Z) Z Z) ?_
 refine Bd h fun r1 hr1 h => ?_
 refine WO.callD [0, 1] (OpC.clo call56 Z Z Z Z) (k_dg _ _ _ _ _ hr1) ?_
 rintro _ _ ⟨rfl, rfl⟩
 refine aV (.bool r1) [_, _, _] Z Z ?_
 refine S Z (S Z (Nx (TC.ret ?_)))
 obtain rfl := Oi h
 refine ⟨[(3, _)], _, _, ?_, ResOK.one Z Z, Z, Z⟩
 exact Lr [0, 1, 2]
def F_fb (n : Nat) (a1 : Starter) (a2 : Int) (a3 : Int) (a4 : Course) : Option Int :=
  (F_cv n a2 a1).bind fun r1 => (bif (!(a1.Distance == a2)) then some 0 else (F_du n a3 a4 a1).bind fun r3 => (bif r3 then some 1 else some (-1)))
theorem k_fb (n : Nat) (a1 : Starter) (a2 : Int) (a3 : Int) (a4 : Course) (r : Int) (h : F_fb n a1 a2 a3 a4 = some r) :
    C prog 114 [.osl 0 0 2 1, .fn (.func 54) [] [.ptr 1 0]] [.rowr 68 1 [[.fn (.func 55) [] [.ptr 2 0]], [.fn (.func 56) [] [.ptr 3 0, .ptr 4 0]]], .cells 42 (Starter.c a1), .cells 3 [.int .i64 a2], .cells 3 [.int .i64 a3], .cells 33 (Course.c a4)] (fun a H => a = .int .i64 r ∧ H = [.rowr 68 1 [[.fn (.func 55) [] [.ptr 2 0]], [.fn (.func 56) [] [.ptr 3 0, .ptr 4 0]]], .cells 42 (Starter.c a1), .cells 3 [.int .i64 a2], .cells 3 [.int .i64 a3], .cells 33 (Course.c a4)]) := by
 refine C.of_body func114 Z Z Z ?_
 refine Rg (S Z (Nx (TC.seq (Rg (S Z (LnO runUnderlying96 Z (S Z (Nx (TC.block (TC.unroll (Rg ?_)))))))))))
 refine vX (.bool true) (OpV.lss (m := 0) (n := 2) Z Z Z) ?_
 refine Nx (TC.seq (CnT Z Z (SkN (TC.seq (TC.block (Rg (S Z (S Z (Nx (Rg (S Z (S Z (S Z ?_)))))))))))))
 refine vX (.ptr 0 0) (OpV.ixL (j := 0) Z Z runUnderlying96 sizeOf68) ?_
 refine vX (.fn (.func 55) [] [.ptr 2 0]) (OpV.load Z isAgg68 Z (Pts.rowrL (e := 0) (f := 0) Z)) ?_
 refine Bd h fun r1 hr1 h => ?_
 refine WO.callD [2, 1] (OpC.clo call54 Z Z Z Z) (k_cv _ _ _ _ hr1) ?_
 rintro _ _ ⟨rfl, rfl⟩
 refine aV (.bool (!(a1.Distance == a2))) [_, _, _, _, _] Z Z ?_
 refine Nx (Cn Z h (fun hc2 h => ?_) (fun hc2 h => ?_))
 ·
  refine Rg (S Z (S Z (Nx (TC.ret (bloR (seqR (unrR (bloR (seqR ?_)))))))))
  obtain rfl := Oi h
  refine ⟨[(4, _)], _, _, ?_, ResOK.one Z Z, Z, Z⟩
  exact Lr [0, 1, 2, 3, 4]
 refine TC.skip (bloN (seqN (TC.region ?_)))
 refine vX (.int .i64 1) (OpV.add (m := 0) (n := 1) Z Z Z) ?_
 refine S Z (WO.nil (unrN (Rg ?_)))
 refine vX (.bool true) (OpV.lss (m := 1) (n := 2) Z Z Z) ?_
 refine Nx (TC.seq (CnT Z Z (SkN (TC.seq (TC.block (Rg (S Z (S Z (Nx (Rg (S Z (S Z (S Z ?_)))))))))))))
 refine vX (.ptr 0 1) (OpV.ixL (j := 1) Z Z runUnderlying96 sizeOf68) ?_
 refine vX (.fn (.func 56) [] [.ptr 3 0, .ptr 4 0]) (OpV.load Z isAgg68 Z (Pts.rowrL (e := 1) (f := 0) Z)) ?_
 refine Bd h fun r3 hr3 h => ?_
 refine WO.callD [3, 4, 1] (OpC.clo call54 Z Z Z Z) (k_du _ _ _ _ _ hr3) ?_
 rintro _ _ ⟨rfl, rfl⟩
 refine aV (.bool r3) [_, _, _, _, _] Z Z ?_
 refine Nx (Cn Z h (fun hc4 h => ?_) (fun hc4 h => ?_))
 ·
  refine Rg (S Z (S Z (Nx (TC.ret (bloR (seqR (unrR (bloR (seqR ?_)))))))))
  obtain rfl := Oi h
  refine ⟨[(4, _)], _, _, ?_, ResOK.one Z Z, Z, Z⟩
  exact Lr [0, 1, 2, 3, 4]
 refine TC.skip (bloN (seqN (TC.region ?_)))
 refine vX (.int .i64 2) (OpV.add (m := 1) (n := 1) Z Z Z) ?_
 refine S Z (WO.nil (unrN (Rg ?_)))
 refine vX (.bool false) (OpV.lss (m := 2) (n := 2) Z Z Z) ?_
 refine Nx (TC.seq (CnF Z Z (ExX (unrX (bloE (seqN (Rg (S Z (Nx (TC.ret ?_))))))))))
 obtain rfl := Oi h
 refine ⟨[(4, _)], _, _, ?_, ResOK.one Z Z, Z, Z⟩
 exact Lr [0, 1, 2, 3, 4]
def F_cy (n : Nat) (a1 : Starter) (a2 : Int) (a3 : Int) (a4 : Course) : Option Bool :=
  (F_fb n a1 a2 a3 a4).bind fun r1 => some (decide (0 ≤ r1))
theorem k_cy (n : Nat) (a1 : Starter) (a2 : Int) (a3 : Int) (a4 : Course) (r : Bool) (h : F_cy n a1 a2 a3 a4 = some r) :
    C prog 53 [.osl 0 0 2 1, .fn (.func 54) [] [.ptr 1 0]] [.rowr 68 1 [[.fn (.func 55) [] [.ptr 2 0]], [.fn (.func 56) [] [.ptr 3 0, .ptr 4 0]]], .cells 42 (Starter.c a1), .cells 3 [.int .i64 a2], .cells 3 [.int .i64 a3], .cells 33 (Course.c a4)] (fun a H => a = .bool r ∧ H = [.rowr 68 1 [[.fn (.func 55) [] [.ptr 2 0]], [.fn (.func 56) [] [.ptr 3 0, .ptr 4 0]]], .cells 42 (Starter.c a1), .cells 3 [.int .i64 a2], .cells 3 [.int .i64 a3], .cells 33 (Course.c a4)]) := by
 refine C.of_body func53 Z Z Z ?_
 refine Rg (S Z (Nx (Rg (S Z (S Z (Bd h fun r1 hr1 h => ?_))))))
 refine WO.callD [0, 1, 2, 3, 4] (OpC.fn call114 Z Z Z) (k_fb _ _ _ _ _ _ hr1) ?_
 rintro _ _ ⟨rfl, rfl⟩
 refine aV (.int .i64 r1) [_, _, _, _, _] Z Z ?_
 refine S Z (S Z (Nx (TC.ret ?_)))
 obtain rfl := Oi h
 refine ⟨[(4, _)], _, _, ?_, ResOK.one Z Z, Z, Z⟩
 exact Lr [0, 1, 2, 3, 4]
def F_ai (n : Nat) (a1 : Starter) (a2 : Int) (a3 : Int) (a4 : Course) : Option Bool :=
  (F_cy n a1 a2 a3 a4).bind fun r1 => some r1
theorem k_ai (n : Nat) (a1 : Starter) (a2 : Int) (a3 : Int) (a4 : Course) (r : Bool) (h : F_ai n a1 a2 a3 a4 = some r) :
    C prog 52 [.agg (Starter.c a1), .ptr 0 0] [.cells 96 [.osl 1 0 2 1], .rowr 68 1 [[.fn (.func 55) [] [.ptr 2 0]], [.fn (.func 56) [] [.ptr 3 0, .ptr 4 0]]], .cells 3 [.int .i64 a2], .cells 3 [.int .i64 a3], .cells 33 (Course.c a4)] (fun a H => a = .bool r ∧ H = [.cells 96 [.osl 1 0 2 1], .rowr 68 1 [[.fn (.func 55) [] [.ptr 2 0]], [.fn (.func 56) [] [.ptr 3 0, .ptr 4 0]]], .cells 3 [.int .i64 a2], .cells 3 [.int .i64 a3], .cells 33 (Course.c a4)]) := by
 refine C.of_body func52 Z Z Z ?_
 refine Rg ?_
 refine vH (OpH.box Z Z Z Z Z) ?_
 refine aV (.ptr 5 0) [_, _, _, _, _, .cells 42 (Starter.c a1)] Z Z ?_
 refine S Z (Nx (Rg (Ld isAgg96 Z ?_)))
 refine vX (.fn (.func 54) [] [.ptr 5 0]) (OpV.makeFunc (first := []) (cap := [.tmp 2]) Z Z Z) ?_
 refine Bd h fun r1 hr1 h => ?_
 refine WO.callD [1, 5, 2, 3, 4] (OpC.fn call53 Z Z Z) (k_cy _ _ _ _ _ _ hr1) ?_
 rintro _ _ ⟨rfl, rfl⟩
 refine aV (.bool r1) [_, _, _, _, _, _] Z Z ?_
 refine S Z (Nx (TC.ret ?_))
 obtain rfl := Oi h
 refine ⟨[(3, _)], _, _, ?_, ResOK.one Z Z, Z, Z⟩
 exact Lr [0, 1, 2, 3, 4]
def F_gj (n : Nat) (a1 : List Starter) (a2 : Int) (a3 : Int) (a4 : Course) (s13 : Int) : Option (Ctl Int (Ctl Unit Int)) :=
  (bif decide (s13 < (a1.length : Int)) then (idx a1 s13).bind fun x17 => (F_ai n x17 a2 a3 a4).bind fun r18 => (bif r18 then some (.done (.done s13)) else some (.cont (IntKind.i64.wrap (s13 + 1)))) else some (.done (.cont ())))
def F_ef (n : Nat) (a1 : List Starter) (a2 : Int) (a3 : Int) (a4 : Course) : Option Int :=
  (iter (F_gj n a1 a2 a3 a4) n 0 : Option (Ctl Unit Int)).bind fun b10 => match b10 with | .cont sb10 => (some (-1)) | .done sb10 => some sb10
theorem k_ef (n : Nat) (a1 : List Starter) (a2 : Int) (a3 : Int) (a4 : Course) (r : Int) (h : F_ef n a1 a2 a3 a4 = some r) :
    C prog 113 [.osl 0 0 a1.length 8, .fn (.func 52) [] [.ptr 1 0]] [.row 42 8 (List.map Starter.c a1), .cells 96 [.osl 2 0 2 1], .rowr 68 1 [[.fn (.func 55) [] [.ptr 3 0]], [.fn (.func 56) [] [.ptr 4 0, .ptr 5 0]]], .cells 3 [.int .i64 a2], .cells 3 [.int .i64 a3], .cells 33 (Course.c a4)] (fun a H => a = .int .i64 r ∧ H = [.row 42 8 (List.map Starter.c a1), .cells 96 [.osl 2 0 2 1], .rowr 68 1 [[.fn (.func 55) [] [.ptr 3 0]], [.fn (.func 56) [] [.ptr 4 0, .ptr 5 0]]], .cells 3 [.int .i64 a2], .cells 3 [.int .i64 a3], .cells 33 (Course.c a4)]) := by
 refine C.of_body func113 Z Z Z ?_
 refine Rg (S Z (Nx (TC.seq (Rg (S Z (LnO runUnderlying34 Z (S Z (Nx (Bd h fun b10 h11 h => ?_)))))))))
 refine TC.cutE (b := b10) (fun sb10 => []) (fun sb10 => [.row 42 8 (List.map Starter.c a1), .cells 96 [.osl 2 0 2 1], .rowr 68 1 [[.fn (.func 55) [] [.ptr 3 0]], [.fn (.func 56) [] [.ptr 4 0, .ptr 5 0]]], .cells 3 [.int .i64 a2], .cells 3 [.int .i64 a3], .cells 33 (Course.c a4)]) ?_ (fun sb10 env H hbe hle => ?_)
 ·
  refine TC.block ?_
  refine TC.loop (E := fun s13 => [(0, .osl 0 0 a1.length 8), (1, .fn (.func 52) [] [.ptr 1 0]), (7, .int .i64 (a1.length : Int)), (8, .int .i64 s13)]) (Hp := fun s13 => [.row 42 8 (List.map Starter.c a1), .cells 96 [.osl 2 0 2 1], .rowr 68 1 [[.fn (.func 55) [] [.ptr 3 0]], [.fn (.func 56) [] [.ptr 4 0, .ptr 5 0]]], .cells 3 [.int .i64 a2], .cells 3 [.int .i64 a3], .cells 33 (Course.c a4)]) h11 ?_ ?_
  ·
   exact Lr [0, 1, 2, 3, 4, 5]
  intro s13 d14 h15 hb12
  refine Rg (S Z (Nx (TC.seq (CnS Z h15 (fun hc16 h15 => ?_) (fun hc16 h15 => ?_)))))
  ·
   refine ExX (loopX h15 ?_)
   obtain rfl := hb12 _ (Oi h15).symm
   exact bloE (cutEN Z (Lr [0, 1, 2, 3, 4, 5]))
  refine SkN (TC.seq (TC.block (Rg (S Z (S Z (Nx (Rg (S Z (S Z (S Z (Bd h15 fun x17 hx17 h15 => ?_)))))))))))
  refine vX (.ptr 0 (Int.toNat s13 * 8)) (OpV.ixW hx17 Z runUnderlying34 sizeOf42) ?_
  refine vX (.agg (Starter.c x17)) (OpV.loadA Z isAgg42 sizeOf42 Z (Pts.ofRow0 hx17) Z Z) ?_
  refine Bd h15 fun r18 hr18 h15 => ?_
  refine WO.callD [1, 2, 3, 4, 5] (OpC.clo call52 Z Z Z Z) (k_ai _ _ _ _ _ _ hr18) ?_
  rintro _ _ ⟨rfl, rfl⟩
  refine aV (.bool r18) [_, _, _, _, _, _] Z Z ?_
  refine Nx (Cn Z h15 (fun hc19 h15 => ?_) (fun hc19 h15 => ?_))
  ·
   refine Rg (S Z (S Z (Nx (TC.ret (bloR (seqR (loopR h15 ?_)))))))
   obtain rfl := hb12 _ (Oi h15).symm
   refine bloR (cutER (seqR ?_))
   obtain rfl := Oi h
   refine ⟨[(4, _)], _, _, ?_, ResOK.one Z Z, Z, Z⟩
   exact Lr [0, 1, 2, 3, 4, 5]
  exact TC.skip (bloN (seqN (TC.region (S Z (S Z (WO.nil (loopN h15 (Lr [0, 1, 2, 3, 4, 5]))))))))
 subst hbe
 refine seqN (TC.le hle (Rg (S Z (Nx (TC.ret ?_)))))
 obtain rfl := Oi h
 refine ⟨[(4, _)], _, _, ?_, ResOK.one Z Z, Z, Z⟩
 exact Lr [0, 1, 2, 3, 4, 5]
def F_gk (n : Nat) (a2 : Int) (a3 : Int) (a4 : Course) (s29 : (List Starter) × Int × Int) : Option (Ctl ((List Starter) × Int × Int) ((List Starter) × Int)) :=
  (bif decide (s29.2.2 < (s29.1.length : Int)) then (idx s29.1 s29.2.2).bind fun x33 => (F_ai n x33 a2 a3 a4).bind fun r34 => ((bif (!r34) then (idx s29.1 s29.2.1).bind fun x41 => (setI s29.1 s29.2.1 x33).bind fun l42 => some (l42, IntKind.i64.wrap (s29.2.1 + 1)) else some (s29.1, s29.2.1)) : Option ((List Starter) × Int)).bind fun b38 => some (.cont (b38.1, b38.2, IntKind.i64.wrap (s29.2.2 + 1))) else some (.done (s29.1, s29.2.1)))
def F_dd (n : Nat) (a1 : List Starter) (a2 : Int) (a3 : Int) (a4 : Course) : Option (List Starter) :=
  (F_ef n a1 a2 a3 a4).bind fun r1 => (bif (r1 == (-1)) then some a1 else (iter (F_gk n a2 a3 a4) n (a1, r1, IntKind.i64.wrap (r1 + 1)) : Option ((List Starter) × Int)).bind fun b26 => (slc b26.1 0 b26.2).bind fun x43 => some x43)
theorem k_dd (n : Nat) (a1 : List Starter) (a2 : Int) (a3 : Int) (a4 : Course) (r : List Starter) (h : F_dd n a1 a2 a3 a4 = some r) :
    C prog 50 [.osl 0 0 a1.length 8, .fn (.func 52) [] [.ptr 1 0]] [.row 42 8 (List.map Starter.c a1), .cells 96 [.osl 2 0 2 1], .rowr 68 1 [[.fn (.func 55) [] [.ptr 3 0]], [.fn (.func 56) [] [.ptr 4 0, .ptr 5 0]]], .cells 3 [.int .i64 a2], .cells 3 [.int .i64 a3], .cells 33 (Course.c a4)] (fun a H => a = .osl 0 0 r.length 8 ∧ H = [.row 42 8 (List.map Starter.c r), .cells 96 [.osl 2 0 2 1], .rowr 68 1 [[.fn (.func 55) [] [.ptr 3 0]], [.fn (.func 56) [] [.ptr 4 0, .ptr 5 0]]], .cells 3 [.int .i64 a2], .cells 3 [.int .i64 a3], .cells 33 (Course.c a4)]) := by
 refine C.of_body func50 Z Z Z ?_
 refine Rg (S Z (Nx (Rg (S Z (S Z (Bd h fun r1 hr1 h => ?_))))))
 refine WO.callD [0, 1, 2, 3, 4, 5] (OpC.fn call113 Z Z Z) (k_ef _ _ _ _ _ _ hr1) ?_
 rintro _ _ ⟨rfl, rfl⟩
 refine aV (.int .i64 r1) [_, _, _, _, _, _] Z Z ?_
 refine S Z (Nx (TC.seq (Rg (S Z (S Z (Nx (Cn Z h (fun hc2 h => ?_) (fun hc2 h => ?_))))))))
 ·
  refine Rg (S Z (S Z (Nx (RtR ?_))))
  obtain rfl := Oi h
  refine ⟨[(4, _)], _, _, ?_, ResOK.one Z Z, Z, Z⟩
  exact Lr [0, 1, 2, 3, 4, 5]
 refine SkN (TC.seq (Rg (S Z (S Z (S Z (Nx (Bd h fun b26 h27 h => ?_)))))))
 refine TC.cut ([(0, .osl 0 0 b26.1.length 8), (5, .int .i64 b26.2)]) ([.row 42 8 (List.map Starter.c b26.1), .cells 96 [.osl 2 0 2 1], .rowr 68 1 [[.fn (.func 55) [] [.ptr 3 0]], [.fn (.func 56) [] [.ptr 4 0, .ptr 5 0]]], .cells 3 [.int .i64 a2], .cells 3 [.int .i64 a3], .cells 33 (Course.c a4)]) ?_ (fun env H hle => ?_)
 ·
  refine TC.block ?_
  refine TC.loop (E := fun s29 => [(0, .osl 0 0 s29.1.length 8), (1, .fn (.func 52) [] [.ptr 1 0]), (5, .int .i64 s29.2.1), (6, .int .i64 s29.2.2)]) (Hp := fun s29 => [.row 42 8 (List.map Starter.c s29.1), .cells 96 [.osl 2 0 2 1], .rowr 68 1 [[.fn (.func 55) [] [.ptr 3 0]], [.fn (.func 56) [] [.ptr 4 0, .ptr 5 0]]], .cells 3 [.int .i64 a2], .cells 3 [.int .i64 a3], .cells 33 (Course.c a4)]) h27 ?_ ?_
  ·
   exact Lr [0, 1, 2, 3, 4, 5]
  intro s29 d30 h31 hb28
  refine TC.seq (Rg (S Z (S Z (LnO runUnderlying34 Z (S Z (Nx (CnS Z h31 (fun hc32 h31 => ?_) (fun hc32 h31 => ?_))))))))
  ·
   refine ExX (loopX h31 ?_)
   obtain rfl := hb28 _ (Oi h31).symm
   exact bloE (cutN (Lr [0, 1, 2, 3, 4, 5]))
  refine SkN (TC.seq (TC.block (Rg (S Z (S Z (Bd h31 fun x33 hx33 h31 => ?_))))))
  refine vX (.ptr 0 (Int.toNat s29.2.2 * 8)) (OpV.ixW hx33 Z runUnderlying34 sizeOf42) ?_
  refine vX (.agg (Starter.c x33)) (OpV.loadA Z isAgg42 sizeOf42 Z (Pts.ofRow0 hx33) Z Z) ?_
  refine vH (OpH.allocZ (v := (.agg [.int .i64 0, .int .i64 0, .int .i64 0, .int .i64 0, .int .i64 0, .int .i64 0, .int .i64 0, .int .i64 0])) zeroValue42 (ZR.agg (ZL.cons ZR.int (ZL.cons ZR.int (ZL.cons ZR.int (ZL.cons ZR.int (ZL.cons ZR.int (ZL.cons ZR.int (ZL.cons ZR.int (ZL.cons ZR.int ZL.nil)))))))))) ?_
  refine aV (.ptr 6 0) [_, _, _, _, _, _, .cells 42 [.int .i64 0, .int .i64 0, .int .i64 0, .int .i64 0, .int .i64 0, .int .i64 0, .int .i64 0, .int .i64 0]] Z Z ?_
  refine vU (OpU.store Z Z Z sizeOf42 Z Z Z Z Z Z Z) ?_
  refine WO.atH (H := [_, _, _, _, _, _, .cells 42 (Starter.c x33)]) Z ?_
  refine Nx (Rg (S Z ?_))
  refine vX (.agg (Starter.c x33)) (OpV.loadA Z isAgg42 sizeOf42 Z (Pts.cells Z Z) Z Z) ?_
  refine Bd h31 fun r34 hr34 h31 => ?_
  refine WO.callD [1, 2, 3, 4, 5] (OpC.clo call52 Z Z Z Z) (k_ai _ _ _ _ _ _ hr34) ?_
  rintro _ _ ⟨rfl, rfl⟩
  refine aV (.bool r34) [_, _, _, _, _, _, _] Z Z ?_
  refine S Z (Nx (Bd h31 fun b38 h39 h31 => ?_))
  refine TC.cut ([(0, .osl 0 0 b38.1.length 8), (1, .fn (.func 52) [] [.ptr 1 0]), (5, .int .i64 b38.2), (6, .int .i64 s29.2.2)]) ([.row 42 8 (List.map Starter.c b38.1), .cells 96 [.osl 2 0 2 1], .rowr 68 1 [[.fn (.func 55) [] [.ptr 3 0]], [.fn (.func 56) [] [.ptr 4 0, .ptr 5 0]]], .cells 3 [.int .i64 a2], .cells 3 [.int .i64 a3], .cells 33 (Course.c a4)]) ?_ (fun env H hle => ?_)
  ·
   refine Cn Z h39 (fun hc40 h39 => ?_) (fun hc40 h39 => ?_)
   ·
    refine Rg (S Z (S Z ?_))
    refine vX (.agg (Starter.c x33)) (OpV.loadA Z isAgg42 sizeOf42 Z (Pts.cells Z Z) Z Z) ?_
    refine Bd h39 fun x41 hx41 h39 => ?_
    refine vX (.ptr 0 (Int.toNat s29.2.1 * 8)) (OpV.ixW hx41 Z runUnderlying34 sizeOf42) ?_
    refine Bd h39 fun l42 hl42 h39 => ?_
    refine vU (OpU.setW (e := Starter.c) (k := 8) (f := 0) hx41 hl42 sizeOf42 Z Z) ?_
    refine WO.atH (H := [.row 42 8 (List.map Starter.c l42), _, _, _, _, _, _]) Z ?_
    refine WO.le (Le.ov1 (s := 0) Z (congrArg (fun n => A.osl 0 0 n 8) (setI_len hl42))) ?_
    refine WO.le (Le.ov1 (s := 17) Z (congrArg (fun n => A.osl 0 0 n 8) (setI_len hl42))) ?_
    refine WO.le (Le.ov1 (s := 22) Z (congrArg (fun n => A.osl 0 0 n 8) (setI_len hl42))) ?_
    refine WO.le (Le.ov1 (s := 30) Z (congrArg (fun n => A.osl 0 0 n 8) (setI_len hl42))) ?_
    refine Nx (TC.region (S Z (S Z (S Z (WO.nil ?_)))))
    obtain rfl := Oi h39
    exact cutN (Lr [0, 1, 2, 3, 4, 5])
   refine TC.skip ?_
   obtain rfl := Oi h39
   exact cutN (Lr [0, 1, 2, 3, 4, 5])
  exact bloN (seqN (TC.le hle (TC.region (S Z (S Z (S Z (WO.nil (loopN h31 (Lr [0, 1, 2, 3, 4, 5])))))))))
 refine seqN (TC.le hle (Rg (S Z (S Z (Bd h fun x43 hx43 h => ?_)))))
 refine vX (.osl 0 (0 + Int.toNat b26.2) (b26.1.length - Int.toNat b26.2) 8) (OpV.cutSuf (l := b26.1) hx43 runUnderlying34 sizeOf42) ?_
 refine vN (OpH.clearT (e := Starter.c) (l := b26.1) hx43 underlying34 zeroValue42 Z (by simp [plainV, Value.cells])) ?_
 refine WO.atH (H := [.row 42 8 (List.map Starter.c x43), .cells 96 [.osl 2 0 2 1], .rowr 68 1 [[.fn (.func 55) [] [.ptr 3 0]], [.fn (.func 56) [] [.ptr 4 0, .ptr 5 0]]], .cells 3 [.int .i64 a2], .cells 3 [.int .i64 a3], .cells 33 (Course.c a4)]) Z ?_
 refine Nx (Rg (S Z (S Z ?_)))
 refine vX (.osl 0 0 x43.length 8) (OpV.cutPre (l := b26.1) hx43 runUnderlying34 sizeOf42) ?_
 refine S Z (Nx (TC.ret ?_))
 obtain rfl := Oi h
 refine ⟨[(4, _)], _, _, ?_, ResOK.one Z Z, Z, Z⟩
 exact Lr [0, 1, 2, 3, 4, 5]
def F_bq (n : Nat) (a1 : List Starter) (a2 : Int) (a3 : Int) (a4 : Course) : Option (List Starter) :=
  (F_ew n a1).bind fun r1 => (F_dd n r1 a2 a3 a4).bind fun r2 => some r2
theorem k_bq (n : Nat) (a1 : List Starter) (a2 : Int) (a3 : Int) (a4 : Course) (r : List Starter) (h : F_bq n a1 a2 a3 a4 = some r) :
    C prog 27 [.rsl 8 (List.map Starter.c a1), .osl 0 0 2 1] [.rowr 68 1 [[.fn (.func 55) [] [.ptr 1 0]], [.fn (.func 56) [] [.ptr 2 0, .ptr 3 0]]], .cells 3 [.int .i64 a2], .cells 3 [.int .i64 a3], .cells 33 (Course.c a4)] (fun a H => a = .osl 4 0 r.length 8 ∧ H = [.rowr 68 1 [[.fn (.func 55) [] [.ptr 1 0]], [.fn (.func 56) [] [.ptr 2 0, .ptr 3 0]]], .cells 3 [.int .i64 a2], .cells 3 [.int .i64 a3], .cells 33 (Course.c a4), .row 42 8 (List.map Starter.c r)]) := by
 refine C.of_body func27 Z Z Z ?_
 refine Rg ?_
 refine vH (OpH.box Z Z Z Z Z) ?_
 refine aV (.ptr 4 0) [_, _, _, _, .cells 96 [.osl 0 0 2 1]] Z Z ?_
 refine S Z (Nx (Rg (S Z (Bd h fun r1 hr1 h => ?_))))
 refine WO.callD [] (OpC.fn call51 Z Z Z) (k_ew _ _ _ hr1) ?_
 rintro _ _ ⟨rfl, rfl⟩
 refine aV (.osl 5 0 r1.length 8) [_, _, _, _, _, .row 42 8 (List.map Starter.c r1)] Z Z ?_
 refine vX (.fn (.func 52) [] [.ptr 4 0]) (OpV.makeFunc (first := []) (cap := [.tmp 3]) Z Z Z) ?_
 refine Bd h fun r2 hr2 h => ?_
 refine WO.callD [5, 4, 0, 1, 2, 3] (OpC.fn call50 Z Z Z) (k_dd _ _ _ _ _ _ hr2) ?_
 rintro _ _ ⟨rfl, rfl⟩
 refine aV (.osl 5 0 r2.length 8) [_, _, _, _, _, .row 42 8 (List.map Starter.c r2)] Z Z ?_
 refine S Z (Nx (TC.ret ?_))
 obtain rfl := Oi h
 refine ⟨[(4, _)], _, _, ?_, ResOK.one Z Z, Z, Z⟩
 exact Lr [0, 1, 2, 3, 5]
def F_ga (n : Nat) (r12 : List Starter) (s23 : (List Int) × Int) : Option (Ctl ((List Int) × Int) (List Int)) :=
  (bif decide (s23.2 < (r12.length : Int)) then (idx r12 s23.2).bind fun x27 => (app s23.1 [x27.Bib]).bind fun l28 => some (.cont (l28, IntKind.i64.wrap (s23.2 + 1))) else some (.done s23.1))
def F_ag (n : Nat) (a1 : Course) (a2 : List Starter) (a3 : Int) (a4 : Int) : Option ((List Int) × Int) :=
  (F_bk n a1).bind fun r1 => (bif (r1 != 0) then some ([], r1) else ((bif decide (a3 < 0) then some true else some (decide ((a1.Distances.length : Int) ≤ a3))) : Option Bool).bind fun b4 => (bif b4 then some ([], 90) else (F_w n a1 a4).bind fun r8 => (bif (r8.2 != 0) then some ([], r8.2) else (F_fu n a3).bind fun r10 => (F_ft n a1 a4).bind fun r11 => (F_bq n a2 a3 a4 a1).bind fun r12 => (iter (F_ga n r12) n ([], 0) : Option (List Int)).bind fun b20 => (sortI b20).bind fun l29 => (dedupF l29).bind fun l30 => some (l30, 0))))
theorem k_ag (n : Nat) (a1 : Course) (a2 : List Starter) (a3 : Int) (a4 : Int) (r : (List Int) × Int) (h : F_ag n a1 a2 a3 a4 = some r) :
    C prog 16 [.agg (Course.c a1), .rsl 8 (List.map Starter.c a2), .int .i64 a3, .int .i64 a4] [] (fun a H => a = .tup [.osl 0 0 r.1.length 1, .int .i64 r.2] ∧ H = [.row 3 1 (List.map (encI .i64) r.1)]) := by
 refine C.of_body func16 Z Z Z ?_
 refine Rg ?_
 refine vH (OpH.box Z Z Z Z Z) ?_
 refine aV (.ptr 0 0) [.cells 33 (Course.c a1)] Z Z ?_
 refine S Z (S Z (Nx (TC.seq (Rg ?_))))
 refine vX (.agg (Course.c a1)) (OpV.loadA Z isAgg33 sizeOf33 Z (Pts.cells Z Z) Z Z) ?_
 refine Bd h fun r1 hr1 h => ?_
 refine WO.callD [] (OpC.fn call26 Z Z Z) (k_bk _ _ _ hr1) ?_
 rintro _ _ ⟨rfl, rfl⟩
 refine aV (.int .i64 r1) [_] Z Z ?_
 refine S Z (Nx (Rg (S Z (S Z (Nx (Cn Z h (fun hc2 h => ?_) (fun hc2 h => ?_)))))))
 ·
  refine Rg (S Z (S Z (S Z (Nx (RtR ?_)))))
  obtain rfl := Oi h
  refine ⟨[(8, _), (9, _)], _, _, ?_, ResOK.two Z Z Z, Z, Z⟩
  refine Le.trans (Le.phantom (s := 8) (k := 1) (t := 3) (Nat.le_of_ble_eq_true Z) Z) ?_
  exact Lr [1]
 refine SkN (TC.seq (TC.seq (Bd h fun b4 h5 h => ?_)))
 refine TC.cut ([(1, .rsl 8 (List.map Starter.c a2)), (2, .int .i64 a3), (3, .int .i64 a4), (4, .ptr 0 0), (8, .nils), (28, .bool b4)]) ([.cells 33 (Course.c a1)]) ?_ (fun env H hle => ?_)
 ·
  refine TC.region (S Z (S Z (S Z (If h5 (fun hg6 h5 => ?_) (fun hg6 h5 => ?_)))))
  ·
   refine KF hg6 Z (KF hg6 Z (KF hg6 Z (KF hg6 Z (KF hg6 Z (Pk hg6 Z (WO.nil ?_))))))
   obtain rfl := Oi h5
   exact cutN (Lr [0])
  ·
   refine Sg (gT hg6) Z (Fpg (gT hg6) fa_33_3 Z (Ldg (gT hg6) isAgg24 Z ?_))
   refine vX (.int .i64 (a1.Distances.length : Int)) (OpV.lenM (e := Distance.c) (l := a1.Distances) runUnderlying24) ?_ (gT hg6)
   refine Sg (gT hg6) Z (Pk hg6 Z (WO.nil ?_))
   obtain rfl := Oi h5
   exact cutN (Lr [0])
 refine seqN (TC.le hle (Cn Z h (fun hc7 h => ?_) (fun hc7 h => ?_)))
 ·
  refine Rg (S Z (S Z (Nx (RtR ?_))))
  obtain rfl := Oi h
  refine ⟨[(8, _), (9, _)], _, _, ?_, ResOK.two Z Z Z, Z, Z⟩
  refine Le.trans (Le.phantom (s := 8) (k := 1) (t := 3) (Nat.le_of_ble_eq_true Z) Z) ?_
  exact Lr [1]
 refine SkN (TC.seq (Rg ?_))
 refine vX (.agg (Course.c a1)) (OpV.loadA Z isAgg33 sizeOf33 Z (Pts.cells Z Z) Z Z) ?_
 refine S Z (Bd h fun r8 hr8 h => ?_)
 refine WO.callD [] (OpC.fn call14 Z Z Z) (k_w _ _ _ _ hr8) ?_
 rintro _ _ ⟨rfl, rfl⟩
 refine aV (.tup [.str r8.1, .int .i64 r8.2]) [_] Z Z ?_
 refine S Z (S Z (S Z (S Z (S Z (Nx (Rg (S Z (S Z (Nx (Cn Z h (fun hc9 h => ?_) (fun hc9 h => ?_)))))))))))
 ·
  refine Rg (S Z (S Z (S Z (Nx (RtR ?_)))))
  obtain rfl := Oi h
  refine ⟨[(8, _), (9, _)], _, _, ?_, ResOK.two Z Z Z, Z, Z⟩
  refine Le.trans (Le.phantom (s := 8) (k := 1) (t := 3) (Nat.le_of_ble_eq_true Z) Z) ?_
  exact Lr [1]
 refine SkN (TC.seq (TC.seq ?_))
 obtain ⟨r10, hr10, h⟩ := bnd h
 obtain ⟨r11, hr11, h⟩ := bnd h
 obtain ⟨r12, hr12, h⟩ := bnd h
 refine TC.draw 10 4 [38, 39, 40, 41, 42, 43, 44, 45, 46, 47] [0, 0, 0, 0, 0, 1, 2, 3, 4, 0] [false, false, true, false, false, true, true, true, false, false] [.rsl 8 (List.map Starter.c a2), .int .i64 a3, .fn (.func 55) [] [.ptr 1 0], .agg (Course.c a1), .int .i64 a4, .fn (.func 56) [] [.ptr 2 0, .ptr 3 0], .osl 4 0 2 1, .osl 5 0 r12.length 8, .int .i64 (r12.length : Int), .int .i64 0] [[.cells 33 (Course.c a1)], [.cells 33 (Course.c a1), .cells 3 [.int .i64 a3]], [.cells 33 (Course.c a1), .cells 3 [.int .i64 a3], .cells 3 [.int .i64 a4], .cells 33 (Course.c a1)], [.cells 33 (Course.c a1), .cells 3 [.int .i64 a3], .cells 3 [.int .i64 a4], .cells 33 (Course.c a1), .rowr 68 1 [[.fn (.func 55) [] [.ptr 1 0]], [.fn (.func 56) [] [.ptr 2 0, .ptr 3 0]]]], [.cells 33 (Course.c a1), .cells 3 [.int .i64 a3], .cells 3 [.int .i64 a4], .cells 33 (Course.c a1), .rowr 68 1 [[.fn (.func 55) [] [.ptr 1 0]], [.fn (.func 56) [] [.ptr 2 0, .ptr 3 0]]], .row 42 8 (List.map Starter.c r12)]] ([.cells 33 (Course.c a1), .cells 3 [.int .i64 a3], .cells 3 [.int .i64 a4], .cells 33 (Course.c a1), .rowr 68 1 [[.fn (.func 55) [] [.ptr 1 0]], [.fn (.func 56) [] [.ptr 2 0, .ptr 3 0]]], .row 42 8 (List.map Starter.c r12)]) draws Z Z Z Z Z Z Z Z ?_ ?_
 ·
  refine Ob.cons ?_ (Ob.cons ?_ (Ob.cons ?_ (Ob.cons ?_ (Ob.cons ?_ (Ob.cons ?_ (Ob.cons ?_ (Ob.cons ?_ (Ob.cons ?_ (Ob.cons ?_ (Ob.nil))))))))))
  ·
   refine Ob.stC ?_ (Ob.stC ?_ (Ob.stC ?_ (Ob.stC ?_ (Ob.stC ?_ (Ob.st0)))))
   ·
    refine OblAt.mk _ [(1, _)] 38 _ Z Z Z (Sb.old Z Z Sb.nil) ?_
    exact S Z Wp
   ·
    refine OblAt.mk _ [(1, _)] 38 _ Z Z Z (Sb.old Z Z Sb.nil) ?_
    exact S Z Wp
   ·
    refine OblAt.mk _ [(1, _)] 38 _ Z Z Z (Sb.old Z Z Sb.nil) ?_
    exact S Z Wp
   ·
    refine OblAt.mk _ [(1, _)] 38 _ Z Z Z (Sb.old Z Z Sb.nil) ?_
    exact S Z Wp
   ·
    refine OblAt.mk _ [(1, _)] 38 _ Z Z Z (Sb.old Z Z Sb.nil) ?_
    exact S Z Wp
  ·
   refine Ob.stC ?_ (Ob.stC ?_ (Ob.stC ?_ (Ob.stC ?_ (Ob.stC ?_ (Ob.st0)))))
   ·
    refine OblAt.mk _ [(2, _)] 39 _ Z Z Z (Sb.old Z Z Sb.nil) ?_
    exact S Z Wp
   ·
    refine OblAt.mk _ [(2, _)] 39 _ Z Z Z (Sb.old Z Z Sb.nil) ?_
    exact S Z Wp
   ·
    refine OblAt.mk _ [(2, _)] 39 _ Z Z Z (Sb.old Z Z Sb.nil) ?_
    exact S Z Wp
   ·
    refine OblAt.mk _ [(2, _)] 39 _ Z Z Z (Sb.old Z Z Sb.nil) ?_
    exact S Z Wp
   ·
    refine OblAt.mk _ [(2, _)] 39 _ Z Z Z (Sb.old Z Z Sb.nil) ?_
    exact S Z Wp
  ·
    refine OB [(39, _)] 40 Z Z Z (Sb.dep 1 Z Z Z Sb.nil) ?_
    refine WO.callD [] (OpC.fn call28 Z Z Z) (k_fu _ _ _ hr10) ?_
    rintro _ _ ⟨rfl, rfl⟩
    refine aV (.fn (.func 55) [] [.ptr 1 0]) [_, .cells 3 [.int .i64 a3]] Z Z ?_
    exact WO.nil Post1.mk
  ·
   refine Ob.stC ?_ (Ob.stC ?_ (Ob.stC ?_ (Ob.stC ?_ (Ob.stC ?_ (Ob.st0)))))
   ·
    refine OblAt.mk _ [(4, _)] 41 _ Z Z Z (Sb.old Z Z Sb.nil) ?_
    refine vX (.agg (Course.c a1)) (OpV.loadA Z isAgg33 sizeOf33 Z (Pts.cells Z Z) Z Z) ?_
    exact WO.nil Post1.mk
   ·
    refine OblAt.mk _ [(4, _)] 41 _ Z Z Z (Sb.old Z Z Sb.nil) ?_
    refine vX (.agg (Course.c a1)) (OpV.loadA Z isAgg33 sizeOf33 Z (Pts.cells Z Z) Z Z) ?_
    exact WO.nil Post1.mk
   ·
    refine OblAt.mk _ [(4, _)] 41 _ Z Z Z (Sb.old Z Z Sb.nil) ?_
    refine vX (.agg (Course.c a1)) (OpV.loadA Z isAgg33 sizeOf33 Z (Pts.cells Z Z) Z Z) ?_
    exact WO.nil Post1.mk
   ·
    refine OblAt.mk _ [(4, _)] 41 _ Z Z Z (Sb.old Z Z Sb.nil) ?_
    refine vX (.agg (Course.c a1)) (OpV.loadA Z isAgg33 sizeOf33 Z (Pts.cells Z Z) Z Z) ?_
    exact WO.nil Post1.mk
   ·
    refine OblAt.mk _ [(4, _)] 41 _ Z Z Z (Sb.old Z Z Sb.nil) ?_
    refine vX (.agg (Course.c a1)) (OpV.loadA Z isAgg33 sizeOf33 Z (Pts.cells Z Z) Z Z) ?_
    exact WO.nil Post1.mk
  ·
   refine Ob.stC ?_ (Ob.stC ?_ (Ob.stC ?_ (Ob.stC ?_ (Ob.stC ?_ (Ob.st0)))))
   ·
    refine OblAt.mk _ [(3, _)] 42 _ Z Z Z (Sb.old Z Z Sb.nil) ?_
    exact S Z Wp
   ·
    refine OblAt.mk _ [(3, _)] 42 _ Z Z Z (Sb.old Z Z Sb.nil) ?_
    exact S Z Wp
   ·
    refine OblAt.mk _ [(3, _)] 42 _ Z Z Z (Sb.old Z Z Sb.nil) ?_
    exact S Z Wp
   ·
    refine OblAt.mk _ [(3, _)] 42 _ Z Z Z (Sb.old Z Z Sb.nil) ?_
    exact S Z Wp
   ·
    refine OblAt.mk _ [(3, _)] 42 _ Z Z Z (Sb.old Z Z Sb.nil) ?_
    exact S Z Wp
  ·
    refine OB [(41, _), (42, _)] 43 Z Z Z (Sb.dep 3 Z Z Z (Sb.dep 4 Z Z Z Sb.nil)) ?_
    refine WO.callD [] (OpC.fn call29 Z Z Z) (k_ft _ _ _ _ hr11) ?_
    rintro _ _ ⟨rfl, rfl⟩
    refine aV (.fn (.func 56) [] [.ptr 2 0, .ptr 3 0]) [_, _, .cells 3 [.int .i64 a4], .cells 33 (Course.c a1)] Z Z ?_
    exact WO.nil Post1.mk
  ·
    refine OB [(40, _), (43, _)] 44 Z Z Z (Sb.dep 2 Z Z Z (Sb.dep 5 Z Z Z Sb.nil)) ?_
    refine vH (OpH.litr (xs := [.tmp 40, .tmp 43]) el_96 Z Z Z Z Z ⟨Z, Z, trivial⟩ Z) ?_
    refine aV (.osl 4 0 2 1) [_, _, _, _, .rowr 68 1 [[.fn (.func 55) [] [.ptr 1 0]], [.fn (.func 56) [] [.ptr 2 0, .ptr 3 0]]]] Z Z ?_
    exact WO.nil Post1.mk
  ·
    refine OB [(38, _), (44, _)] 45 Z Z Z (Sb.dep 0 Z Z Z (Sb.dep 6 Z Z Z Sb.nil)) ?_
    refine WO.callD [4, 1, 2, 3] (OpC.fn call27 Z Z Z) (k_bq _ _ _ _ _ _ hr12) ?_
    rintro _ _ ⟨rfl, rfl⟩
    refine aV (.osl 5 0 r12.length 8) [_, _, _, _, _, .row 42 8 (List.map Starter.c r12)] Z Z ?_
    exact WO.nil Post1.mk
  ·
    refine OB [(45, _)] 46 Z Z Z (Sb.dep 7 Z Z Z Sb.nil) ?_
    exact LnO runUnderlying34 Z Wp
  ·
   refine Ob.stC ?_ (Ob.stC ?_ (Ob.stC ?_ (Ob.stC ?_ (Ob.stC ?_ (Ob.st0)))))
   ·
    refine OblAt.mk _ [] 47 _ Z Z Z Sb.nil ?_
    exact S Z Wp
   ·
    refine OblAt.mk _ [] 47 _ Z Z Z Sb.nil ?_
    exact S Z Wp
   ·
    refine OblAt.mk _ [] 47 _ Z Z Z Sb.nil ?_
    exact S Z Wp
   ·
    refine OblAt.mk _ [] 47 _ Z Z Z Sb.nil ?_
    exact S Z Wp
   ·
    refine OblAt.mk _ [] 47 _ Z Z Z Sb.nil ?_
    exact S Z Wp
 refine Nx (Bd h fun b20 h21 h => ?_)
 refine TC.cut ([(8, .osl 0 0 b20.length 1)]) ([.row 3 1 (List.map (encI .i64) b20)]) ?_ (fun env H hle => ?_)
 ·
  refine TC.block ?_
  refine TC.loop (E := fun s23 => [(8, .osl 0 0 s23.1.length 1), (45, .osl 1 0 r12.length 8), (46, .int .i64 (r12.length : Int)), (47, .int .i64 s23.2)]) (Hp := fun s23 => [.row 3 1 (List.map (encI .i64) s23.1), .row 42 8 (List.map Starter.c r12)]) h21 ?_ ?_
  ·
   refine Le.trans (Le.phantom (s := 8) (k := 1) (t := 3) (Nat.le_of_ble_eq_true Z) Z) ?_
   exact Lr [6, 5]
  intro s23 d24 h25 hb22
  refine Rg (S Z (Nx (TC.seq (CnS Z h25 (fun hc26 h25 => ?_) (fun hc26 h25 => ?_)))))
  ·
   refine ExX (loopX h25 ?_)
   obtain rfl := hb22 _ (Oi h25).symm
   exact bloE (cutN (Lr [0]))
  refine SkN (TC.seq (TC.block (Rg (Bd h25 fun x27 hx27 h25 => ?_))))
  refine vX (.ptr 1 (Int.toNat s23.2 * 8)) (OpV.ixW hx27 Z runUnderlying34 sizeOf42) ?_
  refine vX (.agg (Starter.c x27)) (OpV.loadA Z isAgg42 sizeOf42 Z (Pts.ofRow0 hx27) Z Z) ?_
  refine vH (OpH.allocZ (v := (.agg [.int .i64 0, .int .i64 0, .int .i64 0, .int .i64 0, .int .i64 0, .int .i64 0, .int .i64 0, .int .i64 0])) zeroValue42 (ZR.agg (ZL.cons ZR.int (ZL.cons ZR.int (ZL.cons ZR.int (ZL.cons ZR.int (ZL.cons ZR.int (ZL.cons ZR.int (ZL.cons ZR.int (ZL.cons ZR.int ZL.nil)))))))))) ?_
  refine aV (.ptr 2 0) [_, _, .cells 42 [.int .i64 0, .int .i64 0, .int .i64 0, .int .i64 0, .int .i64 0, .int .i64 0, .int .i64 0, .int .i64 0]] Z Z ?_
  refine vU (OpU.store Z Z Z sizeOf42 Z Z Z Z Z Z Z) ?_
  refine WO.atH (H := [_, _, .cells 42 (Starter.c x27)]) Z ?_
  refine Nx (TC.region (S Z (Fp fa_42_0 Z (Ld isAgg3 Z ?_))))
  refine vH (OpH.lit (xs := [.tmp 53]) (es := List.map (encI .i64) [x27.Bib]) el_39 Z Z Z Z Z ⟨Z, trivial⟩ Z Z) ?_
  refine aV (.osl 3 0 ([x27.Bib].length) 1) [_, _, _, .row 3 1 (List.map (encI .i64) [x27.Bib])] Z Z ?_
  refine Bd h25 fun l28 hl28 h25 => ?_
  refine vH (OpH.appO (e := (encI .i64)) hl28 el_39 runUnderlying39 (Src.oM (i := 3))) ?_
  refine aV (.osl 4 0 l28.length 1) [.dead, _, _, _, .row 3 1 (List.map (encI .i64) l28)] Z Z ?_
  exact S Z (WO.nil (bloN (seqN (TC.region (S Z (S Z (WO.nil (loopN h25 (Lr [4, 1])))))))))
 refine seqN (TC.le hle (Rg (S Z (Bd h fun l29 hl29 h => ?_))))
 refine WO.callD [0] (OpC.fn call30 Z Z Z) (C.sortI lay_sortI_30 hl29) ?_
 rintro _ _ ⟨rfl, rfl⟩
 refine WO.atV (x := .tup []) (H := [.row 3 1 (List.map (encI .i64) l29)]) Z Z ?_
 refine WO.le (Le.ov1 (s := 8) Z (congrArg (fun n => A.osl 0 0 n 1) (sortI_len hl29))) ?_
 refine WO.le (Le.ov1 (s := 57) Z (congrArg (fun n => A.osl 0 0 n 1) (sortI_len hl29))) ?_
 refine Nx (Rg (S Z (Bd h fun l30 hl30 h => ?_)))
 refine WO.callD [0] (OpC.fn call31 Z Z Z) (C.compact lay_compact_31 hl30) ?_
 rintro _ _ ⟨rfl, rfl⟩
 refine aV (.osl 0 0 l30.length 1) [.row 3 1 (List.map (encI .i64) l30)] Z Z ?_
 refine S Z (S Z (Nx (TC.ret ?_)))
 obtain rfl := Oi h
 refine ⟨[(8, _), (9, _)], _, _, ?_, ResOK.two Z Z Z, Z, Z⟩
 exact Lr [0]
def F_ib (n : Nat) (a1 : List Int) (a2 : List Int) (s14 : Int) : Option (Ctl Int (Ctl Unit Bool)) :=
  (bif decide (s14 < (a1.length : Int)) then (idx a1 s14).bind fun x18 => (idx a2 s14).bind fun x19 => (bif (x18 != x19) then some (.done (.done false)) else some (.cont (IntKind.i64.wrap (s14 + 1)))) else some (.done (.cont ())))
def F_ah (n : Nat) (a1 : List Int) (a2 : List Int) : Option Bool :=
  (bif ((a1.length : Int) != (a2.length : Int)) then some false else (iter (F_ib n a1 a2) n 0 : Option (Ctl Unit Bool)).bind fun b11 => match b11 with | .cont sb11 => (some true) | .done sb11 => some sb11)
theorem k_ah (n : Nat) (a1 : List Int) (a2 : List Int) (r : Bool) (h : F_ah n a1 a2 = some r) :
    C prog 11 [.rsl 1 (List.map (encI .i64) a1), .rsl 1 (List.map (encI .i64) a2)] [] (fun a H => a = .bool r ∧ H = []) := by
 refine C.of_body func11 Z Z Z ?_
 refine Rg (S Z (Nx (TC.seq (Rg (S Z (LnM runUnderlying39 Z (S Z (LnM runUnderlying39 Z (S Z (Nx (Cn Z h (fun hc1 h => ?_) (fun hc1 h => ?_))))))))))))
 ·
  refine Rg (S Z (Nx (RtR ?_)))
  obtain rfl := Oi h
  refine ⟨[(4, _)], _, _, ?_, ResOK.one Z Z, Z, Z⟩
  exact Lr []
 refine SkN (TC.seq (Rg (S Z (Nx (Bd h fun b11 h12 h => ?_)))))
 refine TC.cutE (b := b11) (fun sb11 => []) (fun sb11 => []) ?_ (fun sb11 env H hbe hle => ?_)
 ·
  refine TC.block ?_
  refine TC.loop (E := fun s14 => [(0, .rsl 1 (List.map (encI .i64) a1)), (1, .rsl 1 (List.map (encI .i64) a2)), (5, .int .i64 s14)]) (Hp := fun s14 => []) h12 ?_ ?_
  ·
   exact Lr []
  intro s14 d15 h16 hb13
  refine TC.seq (Rg (S Z (S Z (LnM runUnderlying39 Z (S Z (Nx (CnS Z h16 (fun hc17 h16 => ?_) (fun hc17 h16 => ?_))))))))
  ·
   refine ExX (loopX h16 ?_)
   obtain rfl := hb13 _ (Oi h16).symm
   exact bloE (cutEN Z (Lr []))
  refine SkN (TC.seq (TC.block (TC.seq ?_)))
  obtain ⟨x18, hx18, h16⟩ := bnd h16
  obtain ⟨x19, hx19, h16⟩ := bnd h16
  refine TC.draw 8 0 [17, 18, 19, 20, 21, 22, 23, 24] [0, 0, 0, 0, 0, 0, 0, 0] [false, false, false, false, false, false, false, false] [.rsl 1 (List.map (encI .i64) a1), .int .i64 s14, .rp [.int .i64 x18], .int .i64 x18, .rsl 1 (List.map (encI .i64) a2), .int .i64 s14, .rp [.int .i64 x19], .int .i64 x19] [[]] ([]) draws Z Z Z Z Z Z Z Z ?_ ?_
  ·
   refine Ob.cons ?_ (Ob.cons ?_ (Ob.cons ?_ (Ob.cons ?_ (Ob.cons ?_ (Ob.cons ?_ (Ob.cons ?_ (Ob.cons ?_ (Ob.nil))))))))
   ·
     refine OB [(0, _)] 17 Z Z Z (Sb.old Z Z Sb.nil) ?_
     exact S Z Wp
   ·
     refine OB [(5, _)] 18 Z Z Z (Sb.old Z Z Sb.nil) ?_
     exact S Z Wp
   ·
     refine OB [(17, _), (18, _)] 19 Z Z Z (Sb.dep 0 Z Z Z (Sb.dep 1 Z Z Z Sb.nil)) ?_
     exact Ix hx18 runUnderlying39 sizeOf3 Z Wp
   ·
     refine OB [(19, _)] 20 Z Z Z (Sb.dep 2 Z Z Z Sb.nil) ?_
     exact Ld isAgg3 Z Wp
   ·
     refine OB [(1, _)] 21 Z Z Z (Sb.old Z Z Sb.nil) ?_
     exact S Z Wp
   ·
     refine OB [(5, _)] 22 Z Z Z (Sb.old Z Z Sb.nil) ?_
     exact S Z Wp
   ·
     refine OB [(21, _), (22, _)] 23 Z Z Z (Sb.dep 4 Z Z Z (Sb.dep 5 Z Z Z Sb.nil)) ?_
     exact Ix hx19 runUnderlying39 sizeOf3 Z Wp
   ·
     refine OB [(23, _)] 24 Z Z Z (Sb.dep 6 Z Z Z Sb.nil) ?_
     exact Ld isAgg3 Z Wp
  refine S Z (Nx (Cn Z h16 (fun hc20 h16 => ?_) (fun hc20 h16 => ?_)))
  ·
   refine Rg (S Z (Nx (TC.ret (bloR (seqR (loopR h16 ?_))))))
   obtain rfl := hb13 _ (Oi h16).symm
   refine bloR (cutER (seqR ?_))
   obtain rfl := Oi h
   refine ⟨[(4, _)], _, _, ?_, ResOK.one Z Z, Z, Z⟩
   exact Lr []
  exact TC.skip (bloN (seqN (TC.region (S Z (S Z (S Z (WO.nil (loopN h16 (Lr [])))))))))
 subst hbe
 refine seqN (TC.le hle (Rg (S Z (Nx (TC.ret ?_)))))
 obtain rfl := Oi h
 refine ⟨[(4, _)], _, _, ?_, ResOK.one Z Z, Z, Z⟩
 exact Lr []
def F_em (n : Nat) : Option Bool :=
  (F_i n).bind fun r1 => (F_w n ({ Name := [], Mats := [], Legs := [], Distances := r1, Waves := [], Offences := [], Categories := [{ Name := [106, 117, 110, 105, 111, 114], From := 16, To := 19 : Category }, { Name := [115, 101, 110, 105, 111, 114], From := 20, To := 39 : Category }], Prizes := [], Ties := [], Faults := { Misses := 0, Strays := 0, Window := 0, Residual := 0, Drift := 0 : Faults }, Fee := 0, Deadline := 0 : Course }) (-1)).bind fun r2 => (F_i n).bind fun r3 => (F_w n ({ Name := [], Mats := [], Legs := [], Distances := r3, Waves := [], Offences := [], Categories := [{ Name := [106, 117, 110, 105, 111, 114], From := 16, To := 19 : Category }, { Name := [115, 101, 110, 105, 111, 114], From := 20, To := 39 : Category }], Prizes := [], Ties := [], Faults := { Misses := 0, Strays := 0, Window := 0, Residual := 0, Drift := 0 : Faults }, Fee := 0, Deadline := 0 : Course }) 1).bind fun r4 => (F_i n).bind fun r5 => (F_w n ({ Name := [], Mats := [], Legs := [], Distances := r5, Waves := [], Offences := [], Categories := [{ Name := [106, 117, 110, 105, 111, 114], From := 16, To := 19 : Category }, { Name := [115, 101, 110, 105, 111, 114], From := 20, To := 39 : Category }], Prizes := [], Ties := [], Faults := { Misses := 0, Strays := 0, Window := 0, Residual := 0, Drift := 0 : Faults }, Fee := 0, Deadline := 0 : Course }) 2).bind fun r6 => (F_i n).bind fun r7 => (F_aa n ({ Name := [], Mats := [], Legs := [], Distances := r7, Waves := [], Offences := [], Categories := [{ Name := [106, 117, 110, 105, 111, 114], From := 16, To := 19 : Category }, { Name := [115, 101, 110, 105, 111, 114], From := 20, To := 39 : Category }], Prizes := [], Ties := [], Faults := { Misses := 0, Strays := 0, Window := 0, Residual := 0, Drift := 0 : Faults }, Fee := 0, Deadline := 0 : Course }) []).bind fun r8 => (F_i n).bind fun r9 => (F_aa n ({ Name := [], Mats := [], Legs := [], Distances := r9, Waves := [], Offences := [], Categories := [{ Name := [106, 117, 110, 105, 111, 114], From := 16, To := 19 : Category }, { Name := [115, 101, 110, 105, 111, 114], From := 20, To := 39 : Category }], Prizes := [], Ties := [], Faults := { Misses := 0, Strays := 0, Window := 0, Residual := 0, Drift := 0 : Faults }, Fee := 0, Deadline := 0 : Course }) [{ Bib := 1, Distance := 1, Wave := 0, Slot := 0, Age := 16, Chip := 0, Team := 0, Lot := 0 : Starter }]).bind fun r10 => (F_ag n ({ Name := [], Mats := [], Legs := [], Distances := [], Waves := [], Offences := [], Categories := [], Prizes := [], Ties := [], Faults := { Misses := 0, Strays := 0, Window := 0, Residual := 0, Drift := 0 : Faults }, Fee := 0, Deadline := 0 : Course }) [] 0 (-1)).bind fun r11 => ((bif (r2.1 == []) then (bif (r2.2 == 0) then (bif (r4.1 == [115, 101, 110, 105, 111, 114]) then (bif (r4.2 == 0) then (bif (r6.2 == 290) then (F_i n).bind fun r36 => (F_u n ({ Name := [], Mats := [], Legs := [], Distances := r36, Waves := [], Offences := [], Categories := [{ Name := [106, 117, 110, 105, 111, 114], From := 16, To := 19 : Category }, { Name := [115, 101, 110, 105, 111, 114], From := 20, To := 39 : Category }], Prizes := [], Ties := [], Faults := { Misses := 0, Strays := 0, Window := 0, Residual := 0, Drift := 0 : Faults }, Fee := 0, Deadline := 0 : Course }) ({ Bib := 0, Distance := 0, Wave := 0, Slot := 0, Age := 45, Chip := 0, Team := 0, Lot := 0 : Starter })).bind fun r37 => (bif ((r37.length : Int) == 0) then (F_i n).bind fun r39 => (F_u n ({ Name := [], Mats := [], Legs := [], Distances := r39, Waves := [], Offences := [], Categories := [{ Name := [106, 117, 110, 105, 111, 114], From := 16, To := 19 : Category }, { Name := [115, 101, 110, 105, 111, 114], From := 20, To := 39 : Category }], Prizes := [], Ties := [], Faults := { Misses := 0, Strays := 0, Window := 0, Residual := 0, Drift := 0 : Faults }, Fee := 0, Deadline := 0 : Course }) ({ Bib := 0, Distance := 0, Wave := 0, Slot := 0, Age := 20, Chip := 0, Team := 0, Lot := 0 : Starter })).bind fun r40 => (F_ah n r40 [1]).bind fun r41 => (bif r41 then (bif ((IntKind.i64.wrap ((r8.1.length : Int) + (r8.2.length : Int))) == 0) then (F_ah n r10.1 [1, 1]).bind fun r44 => (bif r44 then (F_ah n r10.2 [(-1), 0]).bind fun r46 => (bif r46 then some (r11.2 != 0) else some false) else some false) else some false) else some false) else some false) else some false) else some false) else some false) else some false) else some false) : Option Bool).bind fun b29 => some b29
theorem k_em (n : Nat) (r : Bool) (h : F_em n = some r) :
    C prog 8 [] [] (fun a H => a = .bool r ∧ H = []) := by
 refine C.of_body func8 Z Z Z ?_
 refine Rg (S Z (Nx (Rg (Bd h fun r1 hr1 h => ?_))))
 refine WO.callD [] (OpC.fn call22 Z Z Z) (k_i _ _ hr1) ?_
 rintro _ _ ⟨rfl, rfl⟩
 refine aV (.agg [.str [], .rsl 2 (List.map Mat.c []), .rsl 4 (List.map Leg.c []), .osl 0 0 r1.length 5, .rsl 2 (List.map Wave.c []), .rsl 4 (List.map Offence.c []), .osl 1 0 ([{ Name := [106, 117, 110, 105, 111, 114], From := 16, To := 19 : Category }, { Name := [115, 101, 110, 105, 111, 114], From := 20, To := 39 : Category }].length) 3, .rsl 4 (List.map Prize.c []), .rsl 8 (List.map Step.enc []), .int .i64 0, .int .i64 0, .int .i64 0, .int .i64 0, .int .i64 0, .int .i64 0, .int .i64 0]) [.row 62 5 (List.map Distance.c r1), .row 52 3 (List.map Category.c [{ Name := [106, 117, 110, 105, 111, 114], From := 16, To := 19 : Category }, { Name := [115, 101, 110, 105, 111, 114], From := 20, To := 39 : Category }]), .cells 33 [.str [], .rsl 2 (List.map Mat.c []), .rsl 4 (List.map Leg.c []), .osl 0 0 r1.length 5, .rsl 2 (List.map Wave.c []), .rsl 4 (List.map Offence.c []), .osl 1 0 ([{ Name := [106, 117, 110, 105, 111, 114], From := 16, To := 19 : Category }, { Name := [115, 101, 110, 105, 111, 114], From := 20, To := 39 : Category }].length) 3, .rsl 4 (List.map Prize.c []), .rsl 8 (List.map Step.enc []), .int .i64 0, .int .i64 0, .int .i64 0, .int .i64 0, .int .i64 0, .int .i64 0, .int .i64 0]] Z Z ?_
 refine WO.le (Le.fz [(14, _)] Z Z (FzOv.cons Z (FzA.agg (FzL.cons (FzA.refl _) (FzL.cons (FzA.refl _) (FzL.cons (FzA.refl _) (FzL.cons (FzA.own (List.length_map ..).symm) (FzL.refl _)))))) FzOv.nil) (FzH.keep (FzH.keep (FzH.cells (FzL.cons (FzA.refl _) (FzL.cons (FzA.refl _) (FzL.cons (FzA.refl _) (FzL.cons (FzA.own (List.length_map ..).symm) (FzL.refl _))))) (FzH.nil))))) ?_
 refine WO.le (Le.fz [(14, _)] Z Z (FzOv.cons Z (FzA.agg (FzL.cons (FzA.refl _) (FzL.cons (FzA.refl _) (FzL.cons (FzA.refl _) (FzL.cons (FzA.refl _) (FzL.cons (FzA.refl _) (FzL.cons (FzA.refl _) (FzL.cons (FzA.own (List.length_map ..).symm) (FzL.refl _))))))))) FzOv.nil) (FzH.keep (FzH.keep (FzH.cells (FzL.cons (FzA.refl _) (FzL.cons (FzA.refl _) (FzL.cons (FzA.refl _) (FzL.cons (FzA.refl _) (FzL.cons (FzA.refl _) (FzL.cons (FzA.refl _) (FzL.cons (FzA.own (List.length_map ..).symm) (FzL.refl _)))))))) (FzH.nil))))) ?_
 refine Bd h fun r2 hr2 h => ?_
 refine WO.callD [] (OpC.fn call14 Z Z Z) (k_w _ _ _ _ hr2) ?_
 rintro _ _ ⟨rfl, rfl⟩
 refine aV (.tup [.str r2.1, .int .i64 r2.2]) [.dead, .dead, .cells 33 [.str [], .rsl 2 (List.map Mat.c []), .rsl 4 (List.map Leg.c []), .rsl 5 (List.map Distance.c r1), .rsl 2 (List.map Wave.c []), .rsl 4 (List.map Offence.c []), .rsl 3 (List.map Category.c [{ Name := [106, 117, 110, 105, 111, 114], From := 16, To := 19 : Category }, { Name := [115, 101, 110, 105, 111, 114], From := 20, To := 39 : Category }]), .rsl 4 (List.map Prize.c []), .rsl 8 (List.map Step.enc []), .int .i64 0, .int .i64 0, .int .i64 0, .int .i64 0, .int .i64 0, .int .i64 0, .int .i64 0]] Z Z ?_
 refine S Z (S Z (S Z (S Z (S Z (Nx (Rg (Bd h fun r3 hr3 h => ?_)))))))
 refine WO.callD [] (OpC.fn call22 Z Z Z) (k_i _ _ hr3) ?_
 rintro _ _ ⟨rfl, rfl⟩
 refine aV (.agg [.str [], .rsl 2 (List.map Mat.c []), .rsl 4 (List.map Leg.c []), .osl 3 0 r3.length 5, .rsl 2 (List.map Wave.c []), .rsl 4 (List.map Offence.c []), .osl 4 0 ([{ Name := [106, 117, 110, 105, 111, 114], From := 16, To := 19 : Category }, { Name := [115, 101, 110, 105, 111, 114], From := 20, To := 39 : Category }].length) 3, .rsl 4 (List.map Prize.c []), .rsl 8 (List.map Step.enc []), .int .i64 0, .int .i64 0, .int .i64 0, .int .i64 0, .int .i64 0, .int .i64 0, .int .i64 0]) [_, _, _, .row 62 5 (List.map Distance.c r3), .row 52 3 (List.map Category.c [{ Name := [106, 117, 110, 105, 111, 114], From := 16, To := 19 : Category }, { Name := [115, 101, 110, 105, 111, 114], From := 20, To := 39 : Category }]), .cells 33 [.str [], .rsl 2 (List.map Mat.c []), .rsl 4 (List.map Leg.c []), .osl 3 0 r3.length 5, .rsl 2 (List.map Wave.c []), .rsl 4 (List.map Offence.c []), .osl 4 0 ([{ Name := [106, 117, 110, 105, 111, 114], From := 16, To := 19 : Category }, { Name := [115, 101, 110, 105, 111, 114], From := 20, To := 39 : Category }].length) 3, .rsl 4 (List.map Prize.c []), .rsl 8 (List.map Step.enc []), .int .i64 0, .int .i64 0, .int .i64 0, .int .i64 0, .int .i64 0, .int .i64 0, .int .i64 0]] Z Z ?_
 refine WO.le (Le.fz [(19, _)] Z Z (FzOv.cons Z (FzA.agg (FzL.cons (FzA.refl _) (FzL.cons (FzA.refl _) (FzL.cons (FzA.refl _) (FzL.cons (FzA.own (List.length_map ..).symm) (FzL.refl _)))))) FzOv.nil) (FzH.keep (FzH.keep (FzH.keep (FzH.keep (FzH.keep (FzH.cells (FzL.cons (FzA.refl _) (FzL.cons (FzA.refl _) (FzL.cons (FzA.refl _) (FzL.cons (FzA.own (List.length_map ..).symm) (FzL.refl _))))) (FzH.nil)))))))) ?_
 refine WO.le (Le.fz [(19, _)] Z Z (FzOv.cons Z (FzA.agg (FzL.cons (FzA.refl _) (FzL.cons (FzA.refl _) (FzL.cons (FzA.refl _) (FzL.cons (FzA.refl _) (FzL.cons (FzA.refl _) (FzL.cons (FzA.refl _) (FzL.cons (FzA.own (List.length_map ..).symm) (FzL.refl _))))))))) FzOv.nil) (FzH.keep (FzH.keep (FzH.keep (FzH.keep (FzH.keep (FzH.cells (FzL.cons (FzA.refl _) (FzL.cons (FzA.refl _) (FzL.cons (FzA.refl _) (FzL.cons (FzA.refl _) (FzL.cons (FzA.refl _) (FzL.cons (FzA.refl _) (FzL.cons (FzA.own (List.length_map ..).symm) (FzL.refl _)))))))) (FzH.nil)))))))) ?_
 refine Bd h fun r4 hr4 h => ?_
 refine WO.callD [] (OpC.fn call14 Z Z Z) (k_w _ _ _ _ hr4) ?_
 rintro _ _ ⟨rfl, rfl⟩
 refine aV (.tup [.str r4.1, .int .i64 r4.2]) [_, _, _, .dead, .dead, .cells 33 [.str [], .rsl 2 (List.map Mat.c []), .rsl 4 (List.map Leg.c []), .rsl 5 (List.map Distance.c r3), .rsl 2 (List.map Wave.c []), .rsl 4 (List.map Offence.c []), .rsl 3 (List.map Category.c [{ Name := [106, 117, 110, 105, 111, 114], From := 16, To := 19 : Category }, { Name := [115, 101, 110, 105, 111, 114], From := 20, To := 39 : Category }]), .rsl 4 (List.map Prize.c []), .rsl 8 (List.map Step.enc []), .int .i64 0, .int .i64 0, .int .i64 0, .int .i64 0, .int .i64 0, .int .i64 0, .int .i64 0]] Z Z ?_
 refine S Z (S Z (S Z (S Z (S Z (Nx (Rg (Bd h fun r5 hr5 h => ?_)))))))
 refine WO.callD [] (OpC.fn call22 Z Z Z) (k_i _ _ hr5) ?_
 rintro _ _ ⟨rfl, rfl⟩
 refine aV (.agg [.str [], .rsl 2 (List.map Mat.c []), .rsl 4 (List.map Leg.c []), .osl 6 0 r5.length 5, .rsl 2 (List.map Wave.c []), .rsl 4 (List.map Offence.c []), .osl 7 0 ([{ Name := [106, 117, 110, 105, 111, 114], From := 16, To := 19 : Category }, { Name := [115, 101, 110, 105, 111, 114], From := 20, To := 39 : Category }].length) 3, .rsl 4 (List.map Prize.c []), .rsl 8 (List.map Step.enc []), .int .i64 0, .int .i64 0, .int .i64 0, .int .i64 0, .int .i64 0, .int .i64 0, .int .i64 0]) [_, _, _, _, _, _, .row 62 5 (List.map Distance.c r5), .row 52 3 (List.map Category.c [{ Name := [106, 117, 110, 105, 111, 114], From := 16, To := 19 : Category }, { Name := [115, 101, 110, 105, 111, 114], From := 20, To := 39 : Category }]), .cells 33 [.str [], .rsl 2 (List.map Mat.c []), .rsl 4 (List.map Leg.c []), .osl 6 0 r5.length 5, .rsl 2 (List.map Wave.c []), .rsl 4 (List.map Offence.c []), .osl 7 0 ([{ Name := [106, 117, 110, 105, 111, 114], From := 16, To := 19 : Category }, { Name := [115, 101, 110, 105, 111, 114], From := 20, To := 39 : Category }].length) 3, .rsl 4 (List.map Prize.c []), .rsl 8 (List.map Step.enc []), .int .i64 0, .int .i64 0, .int .i64 0, .int .i64 0, .int .i64 0, .int .i64 0, .int .i64 0]] Z Z ?_
 refine WO.le (Le.fz [(24, _)] Z Z (FzOv.cons Z (FzA.agg (FzL.cons (FzA.refl _) (FzL.cons (FzA.refl _) (FzL.cons (FzA.refl _) (FzL.cons (FzA.own (List.length_map ..).symm) (FzL.refl _)))))) FzOv.nil) (FzH.keep (FzH.keep (FzH.keep (FzH.keep (FzH.keep (FzH.keep (FzH.keep (FzH.keep (FzH.cells (FzL.cons (FzA.refl _) (FzL.cons (FzA.refl _) (FzL.cons (FzA.refl _) (FzL.cons (FzA.own (List.length_map ..).symm) (FzL.refl _))))) (FzH.nil))))))))))) ?_
 refine WO.le (Le.fz [(24, _)] Z Z (FzOv.cons Z (FzA.agg (FzL.cons (FzA.refl _) (FzL.cons (FzA.refl _) (FzL.cons (FzA.refl _) (FzL.cons (FzA.refl _) (FzL.cons (FzA.refl _) (FzL.cons (FzA.refl _) (FzL.cons (FzA.own (List.length_map ..).symm) (FzL.refl _))))))))) FzOv.nil) (FzH.keep (FzH.keep (FzH.keep (FzH.keep (FzH.keep (FzH.keep (FzH.keep (FzH.keep (FzH.cells (FzL.cons (FzA.refl _) (FzL.cons (FzA.refl _) (FzL.cons (FzA.refl _) (FzL.cons (FzA.refl _) (FzL.cons (FzA.refl _) (FzL.cons (FzA.refl _) (FzL.cons (FzA.own (List.length_map ..).symm) (FzL.refl _)))))))) (FzH.nil))))))))))) ?_
 refine Bd h fun r6 hr6 h => ?_
 refine WO.callD [] (OpC.fn call14 Z Z Z) (k_w _ _ _ _ hr6) ?_
 rintro _ _ ⟨rfl, rfl⟩
 refine aV (.tup [.str r6.1, .int .i64 r6.2]) [_, _, _, _, _, _, .dead, .dead, .cells 33 [.str [], .rsl 2 (List.map Mat.c []), .rsl 4 (List.map Leg.c []), .rsl 5 (List.map Distance.c r5), .rsl 2 (List.map Wave.c []), .rsl 4 (List.map Offence.c []), .rsl 3 (List.map Category.c [{ Name := [106, 117, 110, 105, 111, 114], From := 16, To := 19 : Category }, { Name := [115, 101, 110, 105, 111, 114], From := 20, To := 39 : Category }]), .rsl 4 (List.map Prize.c []), .rsl 8 (List.map Step.enc []), .int .i64 0, .int .i64 0, .int .i64 0, .int .i64 0, .int .i64 0, .int .i64 0, .int .i64 0]] Z Z ?_
 refine S Z (S Z (S Z (S Z (S Z (Nx (Rg (Bd h fun r7 hr7 h => ?_)))))))
 refine WO.callD [] (OpC.fn call22 Z Z Z) (k_i _ _ hr7) ?_
 rintro _ _ ⟨rfl, rfl⟩
 refine aV (.agg [.str [], .rsl 2 (List.map Mat.c []), .rsl 4 (List.map Leg.c []), .osl 9 0 r7.length 5, .rsl 2 (List.map Wave.c []), .rsl 4 (List.map Offence.c []), .osl 10 0 ([{ Name := [106, 117, 110, 105, 111, 114], From := 16, To := 19 : Category }, { Name := [115, 101, 110, 105, 111, 114], From := 20, To := 39 : Category }].length) 3, .rsl 4 (List.map Prize.c []), .rsl 8 (List.map Step.enc []), .int .i64 0, .int .i64 0, .int .i64 0, .int .i64 0, .int .i64 0, .int .i64 0, .int .i64 0]) [_, _, _, _, _, _, _, _, _, .row 62 5 (List.map Distance.c r7), .row 52 3 (List.map Category.c [{ Name := [106, 117, 110, 105, 111, 114], From := 16, To := 19 : Category }, { Name := [115, 101, 110, 105, 111, 114], From := 20, To := 39 : Category }]), .cells 33 [.str [], .rsl 2 (List.map Mat.c []), .rsl 4 (List.map Leg.c []), .osl 9 0 r7.length 5, .rsl 2 (List.map Wave.c []), .rsl 4 (List.map Offence.c []), .osl 10 0 ([{ Name := [106, 117, 110, 105, 111, 114], From := 16, To := 19 : Category }, { Name := [115, 101, 110, 105, 111, 114], From := 20, To := 39 : Category }].length) 3, .rsl 4 (List.map Prize.c []), .rsl 8 (List.map Step.enc []), .int .i64 0, .int .i64 0, .int .i64 0, .int .i64 0, .int .i64 0, .int .i64 0, .int .i64 0]] Z Z ?_
 refine WO.le (Le.fz [(29, _)] Z Z (FzOv.cons Z (FzA.agg (FzL.cons (FzA.refl _) (FzL.cons (FzA.refl _) (FzL.cons (FzA.refl _) (FzL.cons (FzA.own (List.length_map ..).symm) (FzL.refl _)))))) FzOv.nil) (FzH.keep (FzH.keep (FzH.keep (FzH.keep (FzH.keep (FzH.keep (FzH.keep (FzH.keep (FzH.keep (FzH.keep (FzH.keep (FzH.cells (FzL.cons (FzA.refl _) (FzL.cons (FzA.refl _) (FzL.cons (FzA.refl _) (FzL.cons (FzA.own (List.length_map ..).symm) (FzL.refl _))))) (FzH.nil)))))))))))))) ?_
 refine WO.le (Le.fz [(29, _)] Z Z (FzOv.cons Z (FzA.agg (FzL.cons (FzA.refl _) (FzL.cons (FzA.refl _) (FzL.cons (FzA.refl _) (FzL.cons (FzA.refl _) (FzL.cons (FzA.refl _) (FzL.cons (FzA.refl _) (FzL.cons (FzA.own (List.length_map ..).symm) (FzL.refl _))))))))) FzOv.nil) (FzH.keep (FzH.keep (FzH.keep (FzH.keep (FzH.keep (FzH.keep (FzH.keep (FzH.keep (FzH.keep (FzH.keep (FzH.keep (FzH.cells (FzL.cons (FzA.refl _) (FzL.cons (FzA.refl _) (FzL.cons (FzA.refl _) (FzL.cons (FzA.refl _) (FzL.cons (FzA.refl _) (FzL.cons (FzA.refl _) (FzL.cons (FzA.own (List.length_map ..).symm) (FzL.refl _)))))))) (FzH.nil)))))))))))))) ?_
 refine Bd h fun r8 hr8 h => ?_
 refine WO.callD [] (OpC.fn call18 Z Z Z) (C.nils (NilL.eq (NilL.nl NilL.nil)) (k_aa _ _ _ _ hr8)) ?_
 rintro _ _ ⟨rfl, rfl⟩
 refine aV (.tup [.osl 12 0 r8.1.length 1, .osl 13 0 r8.2.length 1]) [_, _, _, _, _, _, _, _, _, .dead, .dead, .cells 33 [.str [], .rsl 2 (List.map Mat.c []), .rsl 4 (List.map Leg.c []), .rsl 5 (List.map Distance.c r7), .rsl 2 (List.map Wave.c []), .rsl 4 (List.map Offence.c []), .rsl 3 (List.map Category.c [{ Name := [106, 117, 110, 105, 111, 114], From := 16, To := 19 : Category }, { Name := [115, 101, 110, 105, 111, 114], From := 20, To := 39 : Category }]), .rsl 4 (List.map Prize.c []), .rsl 8 (List.map Step.enc []), .int .i64 0, .int .i64 0, .int .i64 0, .int .i64 0, .int .i64 0, .int .i64 0, .int .i64 0], .row 3 1 (List.map (encI .i64) r8.1), .row 3 1 (List.map (encI .i64) r8.2)] Z Z ?_
 refine S Z (S Z (S Z (S Z (S Z (Nx (Rg (Bd h fun r9 hr9 h => ?_)))))))
 refine WO.callD [] (OpC.fn call22 Z Z Z) (k_i _ _ hr9) ?_
 rintro _ _ ⟨rfl, rfl⟩
 refine aV (.agg [.str [], .rsl 2 (List.map Mat.c []), .rsl 4 (List.map Leg.c []), .osl 14 0 r9.length 5, .rsl 2 (List.map Wave.c []), .rsl 4 (List.map Offence.c []), .osl 15 0 ([{ Name := [106, 117, 110, 105, 111, 114], From := 16, To := 19 : Category }, { Name := [115, 101, 110, 105, 111, 114], From := 20, To := 39 : Category }].length) 3, .rsl 4 (List.map Prize.c []), .rsl 8 (List.map Step.enc []), .int .i64 0, .int .i64 0, .int .i64 0, .int .i64 0, .int .i64 0, .int .i64 0, .int .i64 0]) [_, _, _, _, _, _, _, _, _, _, _, _, _, _, .row 62 5 (List.map Distance.c r9), .row 52 3 (List.map Category.c [{ Name := [106, 117, 110, 105, 111, 114], From := 16, To := 19 : Category }, { Name := [115, 101, 110, 105, 111, 114], From := 20, To := 39 : Category }]), .cells 33 [.str [], .rsl 2 (List.map Mat.c []), .rsl 4 (List.map Leg.c []), .osl 14 0 r9.length 5, .rsl 2 (List.map Wave.c []), .rsl 4 (List.map Offence.c []), .osl 15 0 ([{ Name := [106, 117, 110, 105, 111, 114], From := 16, To := 19 : Category }, { Name := [115, 101, 110, 105, 111, 114], From := 20, To := 39 : Category }].length) 3, .rsl 4 (List.map Prize.c []), .rsl 8 (List.map Step.enc []), .int .i64 0, .int .i64 0, .int .i64 0, .int .i64 0, .int .i64 0, .int .i64 0, .int .i64 0]] Z Z ?_
 refine vX (.agg [.int .i64 1, .int .i64 1, .int .i64 0, .int .i64 0, .int .i64 16, .int .i64 0, .int .i64 0, .int .i64 0]) (OpV.build (zs := [.int .i64 0, .int .i64 0, .int .i64 0, .int .i64 0, .int .i64 0, .int .i64 0, .int .i64 0, .int .i64 0]) zeroValue42 (ZR.agg (ZL.cons ZR.int (ZL.cons ZR.int (ZL.cons ZR.int (ZL.cons ZR.int (ZL.cons ZR.int (ZL.cons ZR.int (ZL.cons ZR.int (ZL.cons ZR.int ZL.nil))))))))) pl_42) ?_
 refine vH (OpH.lit (xs := [.tmp 35]) (es := List.map Starter.c [{ Bib := 1, Distance := 1, Wave := 0, Slot := 0, Age := 16, Chip := 0, Team := 0, Lot := 0 : Starter }]) el_34 Z Z Z Z Z ⟨Z, trivial⟩ Z Z) ?_
 refine aV (.osl 17 0 ([{ Bib := 1, Distance := 1, Wave := 0, Slot := 0, Age := 16, Chip := 0, Team := 0, Lot := 0 : Starter }].length) 8) [_, _, _, _, _, _, _, _, _, _, _, _, _, _, _, _, _, .row 42 8 (List.map Starter.c [{ Bib := 1, Distance := 1, Wave := 0, Slot := 0, Age := 16, Chip := 0, Team := 0, Lot := 0 : Starter }])] Z Z ?_
 refine WO.le (Le.fz [(34, _)] Z Z (FzOv.cons Z (FzA.agg (FzL.cons (FzA.refl _) (FzL.cons (FzA.refl _) (FzL.cons (FzA.refl _) (FzL.cons (FzA.own (List.length_map ..).symm) (FzL.refl _)))))) FzOv.nil) (FzH.keep (FzH.keep (FzH.keep (FzH.keep (FzH.keep (FzH.keep (FzH.keep (FzH.keep (FzH.keep (FzH.keep (FzH.keep (FzH.keep (FzH.keep (FzH.keep (FzH.keep (FzH.keep (FzH.cells (FzL.cons (FzA.refl _) (FzL.cons (FzA.refl _) (FzL.cons (FzA.refl _) (FzL.cons (FzA.own (List.length_map ..).symm) (FzL.refl _))))) (FzH.keep (FzH.nil)))))))))))))))))))) ?_
 refine WO.le (Le.fz [(34, _)] Z Z (FzOv.cons Z (FzA.agg (FzL.cons (FzA.refl _) (FzL.cons (FzA.refl _) (FzL.cons (FzA.refl _) (FzL.cons (FzA.refl _) (FzL.cons (FzA.refl _) (FzL.cons (FzA.refl _) (FzL.cons (FzA.own (List.length_map ..).symm) (FzL.refl _))))))))) FzOv.nil) (FzH.keep (FzH.keep (FzH.keep (FzH.keep (FzH.keep (FzH.keep (FzH.keep (FzH.keep (FzH.keep (FzH.keep (FzH.keep (FzH.keep (FzH.keep (FzH.keep (FzH.keep (FzH.keep (FzH.cells (FzL.cons (FzA.refl _) (FzL.cons (FzA.refl _) (FzL.cons (FzA.refl _) (FzL.cons (FzA.refl _) (FzL.cons (FzA.refl _) (FzL.cons (FzA.refl _) (FzL.cons (FzA.own (List.length_map ..).symm) (FzL.refl _)))))))) (FzH.keep (FzH.nil)))))))))))))))))))) ?_
 refine WO.le (Le.fz [(36, _)] Z Z (FzOv.cons Z (FzA.own (List.length_map ..).symm) FzOv.nil) (FzH.keep (FzH.keep (FzH.keep (FzH.keep (FzH.keep (FzH.keep (FzH.keep (FzH.keep (FzH.keep (FzH.keep (FzH.keep (FzH.keep (FzH.keep (FzH.keep (FzH.keep (FzH.keep (FzH.keep (FzH.keep (FzH.nil)))))))))))))))))))) ?_
 refine Bd h fun r10 hr10 h => ?_
 refine WO.callD [] (OpC.fn call18 Z Z Z) (k_aa _ _ _ _ hr10) ?_
 rintro _ _ ⟨rfl, rfl⟩
 refine aV (.tup [.osl 18 0 r10.1.length 1, .osl 19 0 r10.2.length 1]) [_, _, _, _, _, _, _, _, _, _, _, _, _, _, .dead, .dead, .cells 33 [.str [], .rsl 2 (List.map Mat.c []), .rsl 4 (List.map Leg.c []), .rsl 5 (List.map Distance.c r9), .rsl 2 (List.map Wave.c []), .rsl 4 (List.map Offence.c []), .rsl 3 (List.map Category.c [{ Name := [106, 117, 110, 105, 111, 114], From := 16, To := 19 : Category }, { Name := [115, 101, 110, 105, 111, 114], From := 20, To := 39 : Category }]), .rsl 4 (List.map Prize.c []), .rsl 8 (List.map Step.enc []), .int .i64 0, .int .i64 0, .int .i64 0, .int .i64 0, .int .i64 0, .int .i64 0, .int .i64 0], .dead, .row 3 1 (List.map (encI .i64) r10.1), .row 3 1 (List.map (encI .i64) r10.2)] Z Z ?_
 refine S Z (S Z (S Z (S Z (S Z (Nx (Rg ?_))))))
 refine vX (.agg [.str [], .rsl 2 (List.map Mat.c []), .rsl 4 (List.map Leg.c []), .rsl 5 (List.map Distance.c []), .rsl 2 (List.map Wave.c []), .rsl 4 (List.map Offence.c []), .rsl 3 (List.map Category.c []), .rsl 4 (List.map Prize.c []), .rsl 8 (List.map Step.enc []), .int .i64 0, .int .i64 0, .int .i64 0, .int .i64 0, .int .i64 0, .int .i64 0, .int .i64 0]) (OpV.build (zs := [.str [], .rsl 2 (List.map Mat.c []), .rsl 4 (List.map Leg.c []), .rsl 5 (List.map Distance.c []), .rsl 2 (List.map Wave.c []), .rsl 4 (List.map Offence.c []), .rsl 3 (List.map Category.c []), .rsl 4 (List.map Prize.c []), .rsl 8 (List.map Step.enc []), .int .i64 0, .int .i64 0, .int .i64 0, .int .i64 0, .int .i64 0, .int .i64 0, .int .i64 0]) zeroValue33 (ZR.agg (ZL.cons ZR.str (ZL.cons ZR.rsl (ZL.cons ZR.rsl (ZL.cons ZR.rsl (ZL.cons ZR.rsl (ZL.cons ZR.rsl (ZL.cons ZR.rsl (ZL.cons ZR.rsl (ZL.cons ZR.rsl (ZL.cons ZR.int (ZL.cons ZR.int (ZL.cons ZR.int (ZL.cons ZR.int (ZL.cons ZR.int (ZL.cons ZR.int (ZL.cons ZR.int ZL.nil))))))))))))))))) pl_33) ?_
 refine Bd h fun r11 hr11 h => ?_
 refine WO.callD [] (OpC.fn call16 Z Z Z) (C.nils (NilL.eq (NilL.nl (NilL.eq (NilL.eq NilL.nil)))) (k_ag _ _ _ _ _ _ hr11)) ?_
 rintro _ _ ⟨rfl, rfl⟩
 refine aV (.tup [.osl 20 0 r11.1.length 1, .int .i64 r11.2]) [_, _, _, _, _, _, _, _, _, _, _, _, _, _, _, _, _, _, _, _, .row 3 1 (List.map (encI .i64) r11.1)] Z Z ?_
 refine S Z (S Z (S Z (S Z (S Z (Nx (TC.seq (Bd h fun b29 h30 h => ?_)))))))
 refine TC.cut ([(0, .bool b29)]) ([]) ?_ (fun env H hle => ?_)
 ·
  refine TC.region (S Z ?_)
  refine vX (.bool (r2.1 == [])) (OpV.strEq Z Z Z ) ?_
  refine S Z (If h30 (fun hg31 h30 => ?_) (fun hg31 h30 => ?_))
  ·
   refine Sg (gT hg31) Z (Sg (gT hg31) Z (Pk hg31 Z (S Z (If h30 (fun hg32 h30 => ?_) (fun hg32 h30 => ?_)))))
   ·
    refine Sg (gT hg32) Z ?_
    refine vX (.bool (r4.1 == [115, 101, 110, 105, 111, 114])) (OpV.strEq Z Z Z ) ?_ (gT hg32)
    refine Pk hg32 Z (S Z (If h30 (fun hg33 h30 => ?_) (fun hg33 h30 => ?_)))
    ·
     refine Sg (gT hg33) Z (Sg (gT hg33) Z (Pk hg33 Z (S Z (If h30 (fun hg34 h30 => ?_) (fun hg34 h30 => ?_)))))
     ·
      refine Sg (gT hg34) Z (Sg (gT hg34) Z (Pk hg34 Z (S Z (If h30 (fun hg35 h30 => ?_) (fun hg35 h30 => ?_)))))
      ·
       refine Bd h30 fun r36 hr36 h30 => ?_
       refine WO.callD [] (OpC.fn call22 Z Z Z) (k_i _ _ hr36) ?_ (hg := (gT hg35))
       rintro _ _ ⟨rfl, rfl⟩
       refine aV (.agg [.str [], .rsl 2 (List.map Mat.c []), .rsl 4 (List.map Leg.c []), .osl 21 0 r36.length 5, .rsl 2 (List.map Wave.c []), .rsl 4 (List.map Offence.c []), .osl 22 0 ([{ Name := [106, 117, 110, 105, 111, 114], From := 16, To := 19 : Category }, { Name := [115, 101, 110, 105, 111, 114], From := 20, To := 39 : Category }].length) 3, .rsl 4 (List.map Prize.c []), .rsl 8 (List.map Step.enc []), .int .i64 0, .int .i64 0, .int .i64 0, .int .i64 0, .int .i64 0, .int .i64 0, .int .i64 0]) [_, _, _, _, _, _, _, _, _, _, _, _, _, _, _, _, _, _, _, _, _, .row 62 5 (List.map Distance.c r36), .row 52 3 (List.map Category.c [{ Name := [106, 117, 110, 105, 111, 114], From := 16, To := 19 : Category }, { Name := [115, 101, 110, 105, 111, 114], From := 20, To := 39 : Category }]), .cells 33 [.str [], .rsl 2 (List.map Mat.c []), .rsl 4 (List.map Leg.c []), .osl 21 0 r36.length 5, .rsl 2 (List.map Wave.c []), .rsl 4 (List.map Offence.c []), .osl 22 0 ([{ Name := [106, 117, 110, 105, 111, 114], From := 16, To := 19 : Category }, { Name := [115, 101, 110, 105, 111, 114], From := 20, To := 39 : Category }].length) 3, .rsl 4 (List.map Prize.c []), .rsl 8 (List.map Step.enc []), .int .i64 0, .int .i64 0, .int .i64 0, .int .i64 0, .int .i64 0, .int .i64 0, .int .i64 0]] Z Z ?_
       refine vX (.agg [.int .i64 0, .int .i64 0, .int .i64 0, .int .i64 0, .int .i64 45, .int .i64 0, .int .i64 0, .int .i64 0]) (OpV.build (zs := [.int .i64 0, .int .i64 0, .int .i64 0, .int .i64 0, .int .i64 0, .int .i64 0, .int .i64 0, .int .i64 0]) zeroValue42 (ZR.agg (ZL.cons ZR.int (ZL.cons ZR.int (ZL.cons ZR.int (ZL.cons ZR.int (ZL.cons ZR.int (ZL.cons ZR.int (ZL.cons ZR.int (ZL.cons ZR.int ZL.nil))))))))) pl_42) ?_ (gT hg35)
       refine WO.le (Le.fz [(64, _)] Z Z (FzOv.cons Z (FzA.agg (FzL.cons (FzA.refl _) (FzL.cons (FzA.refl _) (FzL.cons (FzA.refl _) (FzL.cons (FzA.own (List.length_map ..).symm) (FzL.refl _)))))) FzOv.nil) (FzH.keep (FzH.keep (FzH.keep (FzH.keep (FzH.keep (FzH.keep (FzH.keep (FzH.keep (FzH.keep (FzH.keep (FzH.keep (FzH.keep (FzH.keep (FzH.keep (FzH.keep (FzH.keep (FzH.keep (FzH.keep (FzH.keep (FzH.keep (FzH.keep (FzH.keep (FzH.keep (FzH.cells (FzL.cons (FzA.refl _) (FzL.cons (FzA.refl _) (FzL.cons (FzA.refl _) (FzL.cons (FzA.own (List.length_map ..).symm) (FzL.refl _))))) (FzH.nil)))))))))))))))))))))))))) ?_
       refine WO.le (Le.fz [(64, _)] Z Z (FzOv.cons Z (FzA.agg (FzL.cons (FzA.refl _) (FzL.cons (FzA.refl _) (FzL.cons (FzA.refl _) (FzL.cons (FzA.refl _) (FzL.cons (FzA.refl _) (FzL.cons (FzA.refl _) (FzL.cons (FzA.own (List.length_map ..).symm) (FzL.refl _))))))))) FzOv.nil) (FzH.keep (FzH.keep (FzH.keep (FzH.keep (FzH.keep (FzH.keep (FzH.keep (FzH.keep (FzH.keep (FzH.keep (FzH.keep (FzH.keep (FzH.keep (FzH.keep (FzH.keep (FzH.keep (FzH.keep (FzH.keep (FzH.keep (FzH.keep (FzH.keep (FzH.keep (FzH.keep (FzH.cells (FzL.cons (FzA.refl _) (FzL.cons (FzA.refl _) (FzL.cons (FzA.refl _) (FzL.cons (FzA.refl _) (FzL.cons (FzA.refl _) (FzL.cons (FzA.refl _) (FzL.cons (FzA.own (List.length_map ..).symm) (FzL.refl _)))))))) (FzH.nil)))))))))))))))))))))))))) ?_
       refine Bd h30 fun r37 hr37 h30 => ?_
       refine WO.callD [] (OpC.fn call12 Z Z Z) (k_u _ _ _ _ hr37) ?_ (hg := (gT hg35))
       rintro _ _ ⟨rfl, rfl⟩
       refine aV (.osl 24 0 r37.length 1) [_, _, _, _, _, _, _, _, _, _, _, _, _, _, _, _, _, _, _, _, _, .dead, .dead, .cells 33 [.str [], .rsl 2 (List.map Mat.c []), .rsl 4 (List.map Leg.c []), .rsl 5 (List.map Distance.c r36), .rsl 2 (List.map Wave.c []), .rsl 4 (List.map Offence.c []), .rsl 3 (List.map Category.c [{ Name := [106, 117, 110, 105, 111, 114], From := 16, To := 19 : Category }, { Name := [115, 101, 110, 105, 111, 114], From := 20, To := 39 : Category }]), .rsl 4 (List.map Prize.c []), .rsl 8 (List.map Step.enc []), .int .i64 0, .int .i64 0, .int .i64 0, .int .i64 0, .int .i64 0, .int .i64 0, .int .i64 0], .row 3 1 (List.map (encI .i64) r37)] Z Z ?_
       refine vX (.int .i64 (r37.length : Int)) (OpV.lenOM runUnderlying39) ?_ (gT hg35)
       refine Sg (gT hg35) Z (Pk hg35 Z (S Z (If h30 (fun hg38 h30 => ?_) (fun hg38 h30 => ?_))))
       ·
        refine Bd h30 fun r39 hr39 h30 => ?_
        refine WO.callD [] (OpC.fn call22 Z Z Z) (k_i _ _ hr39) ?_ (hg := (gT hg38))
        rintro _ _ ⟨rfl, rfl⟩
        refine aV (.agg [.str [], .rsl 2 (List.map Mat.c []), .rsl 4 (List.map Leg.c []), .osl 25 0 r39.length 5, .rsl 2 (List.map Wave.c []), .rsl 4 (List.map Offence.c []), .osl 26 0 ([{ Name := [106, 117, 110, 105, 111, 114], From := 16, To := 19 : Category }, { Name := [115, 101, 110, 105, 111, 114], From := 20, To := 39 : Category }].length) 3, .rsl 4 (List.map Prize.c []), .rsl 8 (List.map Step.enc []), .int .i64 0, .int .i64 0, .int .i64 0, .int .i64 0, .int .i64 0, .int .i64 0, .int .i64 0]) [_, _, _, _, _, _, _, _, _, _, _, _, _, _, _, _, _, _, _, _, _, _, _, _, _, .row 62 5 (List.map Distance.c r39), .row 52 3 (List.map Category.c [{ Name := [106, 117, 110, 105, 111, 114], From := 16, To := 19 : Category }, { Name := [115, 101, 110, 105, 111, 114], From := 20, To := 39 : Category }]), .cells 33 [.str [], .rsl 2 (List.map Mat.c []), .rsl 4 (List.map Leg.c []), .osl 25 0 r39.length 5, .rsl 2 (List.map Wave.c []), .rsl 4 (List.map Offence.c []), .osl 26 0 ([{ Name := [106, 117, 110, 105, 111, 114], From := 16, To := 19 : Category }, { Name := [115, 101, 110, 105, 111, 114], From := 20, To := 39 : Category }].length) 3, .rsl 4 (List.map Prize.c []), .rsl 8 (List.map Step.enc []), .int .i64 0, .int .i64 0, .int .i64 0, .int .i64 0, .int .i64 0, .int .i64 0, .int .i64 0]] Z Z ?_
        refine vX (.agg [.int .i64 0, .int .i64 0, .int .i64 0, .int .i64 0, .int .i64 20, .int .i64 0, .int .i64 0, .int .i64 0]) (OpV.build (zs := [.int .i64 0, .int .i64 0, .int .i64 0, .int .i64 0, .int .i64 0, .int .i64 0, .int .i64 0, .int .i64 0]) zeroValue42 (ZR.agg (ZL.cons ZR.int (ZL.cons ZR.int (ZL.cons ZR.int (ZL.cons ZR.int (ZL.cons ZR.int (ZL.cons ZR.int (ZL.cons ZR.int (ZL.cons ZR.int ZL.nil))))))))) pl_42) ?_ (gT hg38)
        refine WO.le (Le.fz [(71, _)] Z Z (FzOv.cons Z (FzA.agg (FzL.cons (FzA.refl _) (FzL.cons (FzA.refl _) (FzL.cons (FzA.refl _) (FzL.cons (FzA.own (List.length_map ..).symm) (FzL.refl _)))))) FzOv.nil) (FzH.keep (FzH.keep (FzH.keep (FzH.keep (FzH.keep (FzH.keep (FzH.keep (FzH.keep (FzH.keep (FzH.keep (FzH.keep (FzH.keep (FzH.keep (FzH.keep (FzH.keep (FzH.keep (FzH.keep (FzH.keep (FzH.keep (FzH.keep (FzH.keep (FzH.keep (FzH.keep (FzH.keep (FzH.keep (FzH.keep (FzH.keep (FzH.cells (FzL.cons (FzA.refl _) (FzL.cons (FzA.refl _) (FzL.cons (FzA.refl _) (FzL.cons (FzA.own (List.length_map ..).symm) (FzL.refl _))))) (FzH.nil)))))))))))))))))))))))))))))) ?_
        refine WO.le (Le.fz [(71, _)] Z Z (FzOv.cons Z (FzA.agg (FzL.cons (FzA.refl _) (FzL.cons (FzA.refl _) (FzL.cons (FzA.refl _) (FzL.cons (FzA.refl _) (FzL.cons (FzA.refl _) (FzL.cons (FzA.refl _) (FzL.cons (FzA.own (List.length_map ..).symm) (FzL.refl _))))))))) FzOv.nil) (FzH.keep (FzH.keep (FzH.keep (FzH.keep (FzH.keep (FzH.keep (FzH.keep (FzH.keep (FzH.keep (FzH.keep (FzH.keep (FzH.keep (FzH.keep (FzH.keep (FzH.keep (FzH.keep (FzH.keep (FzH.keep (FzH.keep (FzH.keep (FzH.keep (FzH.keep (FzH.keep (FzH.keep (FzH.keep (FzH.keep (FzH.keep (FzH.cells (FzL.cons (FzA.refl _) (FzL.cons (FzA.refl _) (FzL.cons (FzA.refl _) (FzL.cons (FzA.refl _) (FzL.cons (FzA.refl _) (FzL.cons (FzA.refl _) (FzL.cons (FzA.own (List.length_map ..).symm) (FzL.refl _)))))))) (FzH.nil)))))))))))))))))))))))))))))) ?_
        refine Bd h30 fun r40 hr40 h30 => ?_
        refine WO.callD [] (OpC.fn call12 Z Z Z) (k_u _ _ _ _ hr40) ?_ (hg := (gT hg38))
        rintro _ _ ⟨rfl, rfl⟩
        refine aV (.osl 28 0 r40.length 1) [_, _, _, _, _, _, _, _, _, _, _, _, _, _, _, _, _, _, _, _, _, _, _, _, _, .dead, .dead, .cells 33 [.str [], .rsl 2 (List.map Mat.c []), .rsl 4 (List.map Leg.c []), .rsl 5 (List.map Distance.c r39), .rsl 2 (List.map Wave.c []), .rsl 4 (List.map Offence.c []), .rsl 3 (List.map Category.c [{ Name := [106, 117, 110, 105, 111, 114], From := 16, To := 19 : Category }, { Name := [115, 101, 110, 105, 111, 114], From := 20, To := 39 : Category }]), .rsl 4 (List.map Prize.c []), .rsl 8 (List.map Step.enc []), .int .i64 0, .int .i64 0, .int .i64 0, .int .i64 0, .int .i64 0, .int .i64 0, .int .i64 0], .row 3 1 (List.map (encI .i64) r40)] Z Z ?_
        refine vH (OpH.lit (xs := [.const (.int .i64 1)]) (es := List.map (encI .i64) [1]) el_39 Z Z Z Z Z ⟨Z, trivial⟩ Z Z) ?_ (gT hg38)
        refine aV (.osl 29 0 ([1].length) 1) [_, _, _, _, _, _, _, _, _, _, _, _, _, _, _, _, _, _, _, _, _, _, _, _, _, _, _, _, _, .row 3 1 (List.map (encI .i64) [1])] Z Z ?_
        refine Bd h30 fun r41 hr41 h30 => ?_
        refine WO.callB (OpC.fn call11 rfl rfl rfl) (LookL.cons rfl (.inr ⟨_, _, _, _, _, rfl, rfl, List.length_map .., rfl⟩) (LookL.cons rfl (.inr ⟨_, _, _, _, _, rfl, rfl, List.length_map .., rfl⟩) LookL.nil)) (k_ah _ _ _ _ hr41) (by rintro _ _ ⟨rfl, rfl⟩; rfl) ?_ (gT hg38)
        rintro _ _ ⟨rfl, rfl⟩
        refine aV (.bool r41) [_, _, _, _, _, _, _, _, _, _, _, _, _, _, _, _, _, _, _, _, _, _, _, _, _, _, _, _, _, _] Z Z ?_
        refine Pk hg38 Z (S Z (If h30 (fun hg42 h30 => ?_) (fun hg42 h30 => ?_)))
        ·
         refine Sg (gT hg42) Z ?_
         refine vX (.int .i64 (r8.1.length : Int)) (OpV.lenOM runUnderlying39) ?_ (gT hg42)
         refine Sg (gT hg42) Z ?_
         refine vX (.int .i64 (r8.2.length : Int)) (OpV.lenOM runUnderlying39) ?_ (gT hg42)
         refine Sg (gT hg42) Z (Sg (gT hg42) Z (Pk hg42 Z (S Z (If h30 (fun hg43 h30 => ?_) (fun hg43 h30 => ?_)))))
         ·
          refine Sg (gT hg43) Z ?_
          refine vH (OpH.lit (xs := [.const (.int .i64 1), .const (.int .i64 1)]) (es := List.map (encI .i64) [1, 1]) el_39 Z Z Z Z Z ⟨Z, Z, trivial⟩ Z Z) ?_ (gT hg43)
          refine aV (.osl 30 0 ([1, 1].length) 1) [_, _, _, _, _, _, _, _, _, _, _, _, _, _, _, _, _, _, _, _, _, _, _, _, _, _, _, _, _, _, .row 3 1 (List.map (encI .i64) [1, 1])] Z Z ?_
          refine Bd h30 fun r44 hr44 h30 => ?_
          refine WO.callB (OpC.fn call11 rfl rfl rfl) (LookL.cons rfl (.inr ⟨_, _, _, _, _, rfl, rfl, List.length_map .., rfl⟩) (LookL.cons rfl (.inr ⟨_, _, _, _, _, rfl, rfl, List.length_map .., rfl⟩) LookL.nil)) (k_ah _ _ _ _ hr44) (by rintro _ _ ⟨rfl, rfl⟩; rfl) ?_ (gT hg43)
          rintro _ _ ⟨rfl, rfl⟩
          refine aV (.bool r44) [_, _, _, _, _, _, _, _, _, _, _, _, _, _, _, _, _, _, _, _, _, _, _, _, _, _, _, _, _, _, _] Z Z ?_
          refine Pk hg43 Z (S Z (If h30 (fun hg45 h30 => ?_) (fun hg45 h30 => ?_)))
          ·
           refine Sg (gT hg45) Z ?_
           refine vH (OpH.lit (xs := [.const (.int .i64 (-1)), .const (.int .i64 0)]) (es := List.map (encI .i64) [(-1), 0]) el_39 Z Z Z Z Z ⟨Z, Z, trivial⟩ Z Z) ?_ (gT hg45)
           refine aV (.osl 31 0 ([(-1), 0].length) 1) [_, _, _, _, _, _, _, _, _, _, _, _, _, _, _, _, _, _, _, _, _, _, _, _, _, _, _, _, _, _, _, .row 3 1 (List.map (encI .i64) [(-1), 0])] Z Z ?_
           refine Bd h30 fun r46 hr46 h30 => ?_
           refine WO.callB (OpC.fn call11 rfl rfl rfl) (LookL.cons rfl (.inr ⟨_, _, _, _, _, rfl, rfl, List.length_map .., rfl⟩) (LookL.cons rfl (.inr ⟨_, _, _, _, _, rfl, rfl, List.length_map .., rfl⟩) LookL.nil)) (k_ah _ _ _ _ hr46) (by rintro _ _ ⟨rfl, rfl⟩; rfl) ?_ (gT hg45)
           rintro _ _ ⟨rfl, rfl⟩
           refine aV (.bool r46) [_, _, _, _, _, _, _, _, _, _, _, _, _, _, _, _, _, _, _, _, _, _, _, _, _, _, _, _, _, _, _, _] Z Z ?_
           refine Pk hg45 Z (S Z (If h30 (fun hg47 h30 => ?_) (fun hg47 h30 => ?_)))
           ·
            refine Sg (gT hg47) Z (Sg (gT hg47) Z (Pk hg47 Z (S Z (WO.nil ?_))))
            obtain rfl := Oi h30
            exact cutN (Lr [])
           ·
            refine KF hg47 Z (KF hg47 Z (Pk hg47 Z (S Z (WO.nil ?_))))
            obtain rfl := Oi h30
            exact cutN (Lr [])
          ·
           refine KF hg45 Z (KF hg45 Z (KF hg45 Z (Pk hg45 Z (S Z (KF Z Z (KF Z Z (S Z (S Z (WO.nil ?_)))))))))
           obtain rfl := Oi h30
           exact cutN (Lr [])
         ·
          refine KF hg43 Z (KF hg43 Z (KF hg43 Z (Pk hg43 Z (S Z (KF Z Z (KF Z Z (KF Z Z (S Z (S Z (KF Z Z (KF Z Z (S Z (S Z (WO.nil ?_))))))))))))))
          obtain rfl := Oi h30
          exact cutN (Lr [])
        ·
         refine KF hg42 Z (KF hg42 Z (KF hg42 Z (KF hg42 Z (KF hg42 Z (KF hg42 Z (Pk hg42 Z (S Z (KF Z Z (KF Z Z (KF Z Z (S Z (S Z (KF Z Z (KF Z Z (KF Z Z (S Z (S Z (KF Z Z (KF Z Z (S Z (S Z (WO.nil ?_))))))))))))))))))))))
         obtain rfl := Oi h30
         exact cutN (Lr [])
       ·
        refine KF hg38 Z (KF hg38 Z (KF hg38 Z (KF hg38 Z (KF hg38 Z (Pk hg38 Z (S Z (KF Z Z (KF Z Z (KF Z Z (KF Z Z (KF Z Z (KF Z Z (S Z (S Z (KF Z Z (KF Z Z (KF Z Z (S Z (S Z (KF Z Z (KF Z Z (KF Z Z (S Z (S Z (KF Z Z (KF Z Z (S Z (S Z (WO.nil ?_)))))))))))))))))))))))))))))
        obtain rfl := Oi h30
        exact cutN (Lr [])
      ·
       refine KF hg35 Z (KF hg35 Z (KF hg35 Z (KF hg35 Z (KF hg35 Z (Pk hg35 Z (S Z (KF Z Z (KF Z Z (KF Z Z (KF Z Z (KF Z Z (S Z (S Z (KF Z Z (KF Z Z (KF Z Z (KF Z Z (KF Z Z (KF Z Z (S Z (S Z (KF Z Z (KF Z Z (KF Z Z (S Z (S Z (KF Z Z (KF Z Z (KF Z Z (S Z (S Z (KF Z Z (KF Z Z (S Z (S Z (WO.nil ?_))))))))))))))))))))))))))))))))))))
       obtain rfl := Oi h30
       exact cutN (Lr [])
     ·
      refine KF hg34 Z (KF hg34 Z (Pk hg34 Z (S Z (KF Z Z (KF Z Z (KF Z Z (KF Z Z (KF Z Z (S Z (S Z (KF Z Z (KF Z Z (KF Z Z (KF Z Z (KF Z Z (S Z (S Z (KF Z Z (KF Z Z (KF Z Z (KF Z Z (KF Z Z (KF Z Z (S Z (S Z (KF Z Z (KF Z Z (KF Z Z (S Z (S Z (KF Z Z (KF Z Z (KF Z Z (S Z (S Z (KF Z Z (KF Z Z (S Z (S Z ?_)))))))))))))))))))))))))))))))))))))))
      refine WO.nil ?_
      obtain rfl := Oi h30
      exact cutN (Lr [])
    ·
     refine KF hg33 Z (KF hg33 Z (Pk hg33 Z (S Z (KF Z Z (KF Z Z (S Z (S Z (KF Z Z (KF Z Z (KF Z Z (KF Z Z (KF Z Z (S Z (S Z (KF Z Z (KF Z Z (KF Z Z (KF Z Z (KF Z Z (S Z (S Z (KF Z Z (KF Z Z (KF Z Z (KF Z Z (KF Z Z (KF Z Z (S Z (S Z (KF Z Z (KF Z Z (KF Z Z (S Z (S Z (KF Z Z (KF Z Z (KF Z Z (S Z (S Z ?_)))))))))))))))))))))))))))))))))))))))
     refine KF Z Z (KF Z Z (S Z (S Z (WO.nil ?_))))
     obtain rfl := Oi h30
     exact cutN (Lr [])
   ·
    refine KF hg32 Z (KF hg32 Z (Pk hg32 Z (S Z (KF Z Z (KF Z Z (S Z (S Z (KF Z Z (KF Z Z (S Z (S Z (KF Z Z (KF Z Z (KF Z Z (KF Z Z (KF Z Z (S Z (S Z (KF Z Z (KF Z Z (KF Z Z (KF Z Z (KF Z Z (S Z (S Z (KF Z Z (KF Z Z (KF Z Z (KF Z Z (KF Z Z (KF Z Z (S Z (S Z (KF Z Z (KF Z Z (KF Z Z (S Z (S Z (KF Z Z ?_)))))))))))))))))))))))))))))))))))))))
    refine KF Z Z (KF Z Z (S Z (S Z (KF Z Z (KF Z Z (S Z (S Z (WO.nil ?_))))))))
    obtain rfl := Oi h30
    exact cutN (Lr [])
  ·
   refine KF hg31 Z (KF hg31 Z (Pk hg31 Z (S Z (KF Z Z (KF Z Z (S Z (S Z (KF Z Z (KF Z Z (S Z (S Z (KF Z Z (KF Z Z (S Z (S Z (KF Z Z (KF Z Z (KF Z Z (KF Z Z (KF Z Z (S Z (S Z (KF Z Z (KF Z Z (KF Z Z (KF Z Z (KF Z Z (S Z (S Z (KF Z Z (KF Z Z (KF Z Z (KF Z Z (KF Z Z (KF Z Z (S Z (S Z (KF Z Z (KF Z Z ?_)))))))))))))))))))))))))))))))))))))))
   refine KF Z Z (S Z (S Z (KF Z Z (KF Z Z (KF Z Z (S Z (S Z (KF Z Z (KF Z Z (S Z (S Z (WO.nil ?_))))))))))))
   obtain rfl := Oi h30
   exact cutN (Lr [])
 refine seqN (TC.le hle (TC.ret ?_))
 obtain rfl := Oi h
 refine ⟨[(0, _)], _, _, ?_, ResOK.one Z Z, Z, Z⟩
 exact Lr []
def F_cz (n : Nat) (a1 : List Part) (rec143 : (List Part) → Option Int) (s19 : Int × Int) : Option (Ctl (Int × Int) Int) :=
  ((bif decide (s19.2 < (a1.length : Int)) then some (decide (s19.1 ≤ 256)) else some false) : Option Bool).bind fun b23 => (bif b23 then (idx a1 s19.2).bind fun x27 => (rec143 x27.Parts).bind fun r28 => some (.cont (IntKind.i64.wrap (s19.1 + r28), IntKind.i64.wrap (s19.2 + 1))) else some (.done s19.1))
def B_n (rec143 : (List Part) → Option Int) (n : Nat) (a1 : List Part) : Option Int :=
  (iter (F_cz n a1 rec143) n ((a1.length : Int), 0) : Option Int).bind fun b16 => some (if 257 < b16 then 257 else b16)
theorem okB_stopwatchref07_count (rec143 : (List Part) → Option Int) (hrec143 : ∀ (a1 : List Part) (r : Int), rec143 a1 = some r → C prog 23 [.rsl 3 (List.map Part.enc a1)] [] (fun a H => a = .int .i64 r ∧ H = [])) (n : Nat) (a1 : List Part) (r : Int) (h : B_n rec143 n a1 = some r) :
    C prog 23 [.rsl 3 (List.map Part.enc a1)] [] (fun a H => a = .int .i64 r ∧ H = []) := by
 refine C.of_body func23 Z Z Z ?_
 refine Rg (S Z (Nx (Rg (S Z (LnM runUnderlying59 Z (S Z (Nx (TC.seq (Rg (S Z (Nx (Bd h fun b16 h17 h => ?_))))))))))))
 refine TC.cut ([(3, .int .i64 b16)]) ([]) ?_ (fun env H hle => ?_)
 ·
  refine TC.block ?_
  refine TC.loop (E := fun s19 => [(0, .rsl 3 (List.map Part.enc a1)), (3, .int .i64 s19.1), (4, .int .i64 s19.2)]) (Hp := fun s19 => []) h17 ?_ ?_
  ·
   exact Lr []
  intro s19 d20 h21 hb18
  refine TC.seq (TC.seq (Bd h21 fun b23 h24 h21 => ?_))
  refine TC.cut ([(0, .rsl 3 (List.map Part.enc a1)), (3, .int .i64 s19.1), (4, .int .i64 s19.2), (14, .bool b23)]) ([]) ?_ (fun env H hle => ?_)
  ·
   refine TC.region (S Z (S Z (LnM runUnderlying59 Z (S Z (S Z (If h24 (fun hg25 h24 => ?_) (fun hg25 h24 => ?_)))))))
   ·
    refine Sg (gT hg25) Z (Sg (gT hg25) Z (Pk hg25 Z (WO.nil ?_)))
    obtain rfl := Oi h24
    exact cutN (Lr [])
   ·
    refine KF hg25 Z (KF hg25 Z (Pk hg25 Z (WO.nil ?_)))
    obtain rfl := Oi h24
    exact cutN (Lr [])
  refine seqN (TC.le hle (CnS Z h21 (fun hc26 h21 => ?_) (fun hc26 h21 => ?_)))
  ·
   refine ExX (loopX h21 ?_)
   obtain rfl := hb18 _ (Oi h21).symm
   exact bloE (cutN (Lr []))
  refine SkN (TC.seq (TC.block (TC.region (S Z (S Z (S Z (Bd h21 fun x27 hx27 h21 => ?_)))))))
  refine vX (.rp [.int .i64 x27.Mat, .int .i64 x27.Laps, .rsl 3 (List.map Part.enc x27.Parts)]) (OpV.ixME (e := Part.enc) hx27 (Part.enc_eq x27) runUnderlying59 sizeOf85) ?_
  refine Fr fa_85_2 Z (Ld isAgg59 Z (Bd h21 fun r28 hr28 h21 => ?_))
  refine WO.callD [] (OpC.fn call23 Z Z Z) (hrec143 _ _ hr28) ?_
  rintro _ _ ⟨rfl, rfl⟩
  refine aV (.int .i64 r28) [] Z Z ?_
  exact S Z (S Z (WO.nil (bloN (seqN (TC.region (S Z (S Z (S Z (WO.nil (loopN h21 (Lr [])))))))))))
 refine seqN (TC.le hle (Rg (S Z ?_)))
 refine vX (.int .i64 (if 257 < b16 then 257 else b16)) (OpV.min Z Z Z Z) ?_
 refine S Z (Nx (TC.ret ?_))
 obtain rfl := Oi h
 refine ⟨[(2, _)], _, _, ?_, ResOK.one Z Z, Z, Z⟩
 exact Lr []
def F_n : Nat → (List Part) → Option Int
  | 0 => fun _ => none
  | n + 1 => B_n (F_n n) n
theorem k_n (n : Nat) : ∀ (a1 : List Part) (r : Int), F_n n a1 = some r → C prog 23 [.rsl 3 (List.map Part.enc a1)] [] (fun a H => a = .int .i64 r ∧ H = []) := by
  induction n with
  | zero => intro a1 r h; cases h
  | succ n ih => intro a1 r h; exact okB_stopwatchref07_count _ ih n a1 r h
def F_cj (n : Nat) (a1 : List Part) (a2 : Int) (rec144 : (List Part) → Int → Option Int) (s33 : Int × Int) : Option (Ctl (Int × Int) Int) :=
  ((bif decide (s33.2 < (a1.length : Int)) then some (decide (0 < a2)) else some false) : Option Bool).bind fun b37 => (bif b37 then (idx a1 s33.2).bind fun x41 => ((bif ((x41.Parts.length : Int) != 0) then (idx a1 s33.2).bind fun x48 => (rec144 x48.Parts (IntKind.i64.wrap (a2 - 1))).bind fun r49 => some (if s33.1 < IntKind.i64.wrap (1 + r49) then IntKind.i64.wrap (1 + r49) else s33.1) else some s33.1) : Option Int).bind fun b45 => some (.cont (b45, IntKind.i64.wrap (s33.2 + 1))) else some (.done s33.1))
def B_m (rec144 : (List Part) → Int → Option Int) (n : Nat) (a1 : List Part) (a2 : Int) : Option Int :=
  (iter (F_cj n a1 a2 rec144) n (0, 0) : Option Int).bind fun b30 => some b30
theorem okB_stopwatchref07_depth (rec144 : (List Part) → Int → Option Int) (hrec144 : ∀ (a1 : List Part) (a2 : Int) (r : Int), rec144 a1 a2 = some r → C prog 24 [.rsl 3 (List.map Part.enc a1), .int .i64 a2] [] (fun a H => a = .int .i64 r ∧ H = [])) (n : Nat) (a1 : List Part) (a2 : Int) (r : Int) (h : B_m rec144 n a1 a2 = some r) :
    C prog 24 [.rsl 3 (List.map Part.enc a1), .int .i64 a2] [] (fun a H => a = .int .i64 r ∧ H = []) := by
 refine C.of_body func24 Z Z Z ?_
 refine Rg (S Z (Nx (Rg (S Z (Nx (TC.seq (Rg (S Z (Nx (Bd h fun b30 h31 h => ?_))))))))))
 refine TC.cut ([(5, .int .i64 b30)]) ([]) ?_ (fun env H hle => ?_)
 ·
  refine TC.block ?_
  refine TC.loop (E := fun s33 => [(0, .rsl 3 (List.map Part.enc a1)), (1, .int .i64 a2), (5, .int .i64 s33.1), (6, .int .i64 s33.2)]) (Hp := fun s33 => []) h31 ?_ ?_
  ·
   exact Lr []
  intro s33 d34 h35 hb32
  refine TC.seq (TC.seq (Bd h35 fun b37 h38 h35 => ?_))
  refine TC.cut ([(0, .rsl 3 (List.map Part.enc a1)), (1, .int .i64 a2), (5, .int .i64 s33.1), (6, .int .i64 s33.2), (14, .bool b37)]) ([]) ?_ (fun env H hle => ?_)
  ·
   refine TC.region (S Z (S Z (LnM runUnderlying59 Z (S Z (S Z (If h38 (fun hg39 h38 => ?_) (fun hg39 h38 => ?_)))))))
   ·
    refine Sg (gT hg39) Z (Sg (gT hg39) Z (Pk hg39 Z (WO.nil ?_)))
    obtain rfl := Oi h38
    exact cutN (Lr [])
   ·
    refine KF hg39 Z (KF hg39 Z (Pk hg39 Z (WO.nil ?_)))
    obtain rfl := Oi h38
    exact cutN (Lr [])
  refine seqN (TC.le hle (CnS Z h35 (fun hc40 h35 => ?_) (fun hc40 h35 => ?_)))
  ·
   refine ExX (loopX h35 ?_)
   obtain rfl := hb32 _ (Oi h35).symm
   exact bloE (cutN (Lr []))
  refine SkN (TC.seq (TC.block (Rg (S Z (S Z (Bd h35 fun x41 hx41 h35 => ?_))))))
  refine vX (.rp [.int .i64 x41.Mat, .int .i64 x41.Laps, .rsl 3 (List.map Part.enc x41.Parts)]) (OpV.ixME (e := Part.enc) hx41 (Part.enc_eq x41) runUnderlying59 sizeOf85) ?_
  refine Fr fa_85_2 Z (Ld isAgg59 Z (LnM runUnderlying59 Z (S Z (Nx (Bd h35 fun b45 h46 h35 => ?_)))))
  refine TC.cut ([(0, .rsl 3 (List.map Part.enc a1)), (1, .int .i64 a2), (5, .int .i64 b45), (6, .int .i64 s33.2)]) ([]) ?_ (fun env H hle => ?_)
  ·
   refine Cn Z h46 (fun hc47 h46 => ?_) (fun hc47 h46 => ?_)
   ·
    refine TC.region (S Z (S Z (S Z (Bd h46 fun x48 hx48 h46 => ?_))))
    refine vX (.rp [.int .i64 x48.Mat, .int .i64 x48.Laps, .rsl 3 (List.map Part.enc x48.Parts)]) (OpV.ixME (e := Part.enc) hx48 (Part.enc_eq x48) runUnderlying59 sizeOf85) ?_
    refine Fr fa_85_2 Z (Ld isAgg59 Z (S Z (S Z (Bd h46 fun r49 hr49 h46 => ?_))))
    refine WO.callD [] (OpC.fn call24 Z Z Z) (hrec144 _ _ _ hr49) ?_
    rintro _ _ ⟨rfl, rfl⟩
    refine aV (.int .i64 r49) [] Z Z ?_
    refine S Z ?_
    refine vX (.int .i64 (if s33.1 < IntKind.i64.wrap (1 + r49) then IntKind.i64.wrap (1 + r49) else s33.1)) (OpV.max Z Z Z Z) ?_
    refine S Z (WO.nil ?_)
    obtain rfl := Oi h46
    exact cutN (Lr [])
   refine TC.skip ?_
   obtain rfl := Oi h46
   exact cutN (Lr [])
  exact bloN (seqN (TC.le hle (TC.region (S Z (S Z (S Z (WO.nil (loopN h35 (Lr [])))))))))
 refine seqN (TC.le hle (Rg (S Z (S Z (Nx (TC.ret ?_))))))
 obtain rfl := Oi h
 refine ⟨[(4, _)], _, _, ?_, ResOK.one Z Z, Z, Z⟩
 exact Lr []
def F_m : Nat → (List Part) → Int → Option Int
  | 0 => fun _ _ => none
  | n + 1 => B_m (F_m n) n
theorem k_m (n : Nat) : ∀ (a1 : List Part) (a2 : Int) (r : Int), F_m n a1 a2 = some r → C prog 24 [.rsl 3 (List.map Part.enc a1), .int .i64 a2] [] (fun a H => a = .int .i64 r ∧ H = []) := by
  induction n with
  | zero => intro a1 a2 r h; cases h
  | succ n ih => intro a1 a2 r h; exact okB_stopwatchref07_depth _ ih n a1 a2 r h
def F_af (n : Nat) (a1 : Cond) : Option Bool :=
  ((bif (a1.Kind == 0) then (bif (a1.Var == 0) then (bif (a1.N == 0) then some ((a1.Parts.length : Int) == 0) else some false) else some false) else some false) : Option Bool).bind fun b4 => some b4
theorem k_af (n : Nat) (a1 : Cond) (r : Bool) (h : F_af n a1 = some r) :
    C prog 71 [.agg (Cond.c a1)] [] (fun a H => a = .bool r ∧ H = []) := by
 refine C.of_body func71 Z Z Z ?_
 refine Rg ?_
 refine vH (OpH.box Z Z Z Z Z) ?_
 refine aV (.ptr 0 0) [.cells 125 (Cond.c a1)] Z Z ?_
 refine S Z (Nx (TC.seq (Bd h fun b4 h5 h => ?_)))
 refine TC.cut ([(2, .bool b4)]) ([]) ?_ (fun env H hle => ?_)
 ·
  refine TC.region (Fp fa_125_0 Z (Ld isAgg3 Z (S Z (S Z (If h5 (fun hg6 h5 => ?_) (fun hg6 h5 => ?_))))))
  ·
   refine Fpg (gT hg6) fa_125_1 Z (Ldg (gT hg6) isAgg3 Z (Sg (gT hg6) Z (Pk hg6 Z (S Z (If h5 (fun hg7 h5 => ?_) (fun hg7 h5 => ?_))))))
   ·
    refine Fpg (gT hg7) fa_125_2 Z (Ldg (gT hg7) isAgg3 Z (Sg (gT hg7) Z (Pk hg7 Z (S Z (If h5 (fun hg8 h5 => ?_) (fun hg8 h5 => ?_))))))
    ·
     refine Fpg (gT hg8) fa_125_3 Z (Ldg (gT hg8) isAgg123 Z ?_)
     refine vX (.int .i64 (a1.Parts.length : Int)) (OpV.lenM (e := Cond.enc) (l := a1.Parts) runUnderlying123) ?_ (gT hg8)
     refine Sg (gT hg8) Z (Pk hg8 Z (S Z (WO.nil ?_)))
     obtain rfl := Oi h5
     exact cutN (Lr [])
    ·
     refine KF hg8 Z (KF hg8 Z (KF hg8 Z (KF hg8 Z (Pk hg8 Z (S Z (WO.nil ?_))))))
     obtain rfl := Oi h5
     exact cutN (Lr [])
   ·
    refine KF hg7 Z (KF hg7 Z (KF hg7 Z (Pk hg7 Z (S Z (KF Z Z (KF Z Z (KF Z Z (KF Z Z (S Z (S Z (WO.nil ?_)))))))))))
    obtain rfl := Oi h5
    exact cutN (Lr [])
  ·
   refine KF hg6 Z (KF hg6 Z (KF hg6 Z (Pk hg6 Z (S Z (KF Z Z (KF Z Z (KF Z Z (S Z (S Z (KF Z Z (KF Z Z (KF Z Z (KF Z Z (S Z (S Z (WO.nil ?_))))))))))))))))
   obtain rfl := Oi h5
   exact cutN (Lr [])
 refine seqN (TC.le hle (TC.ret ?_))
 obtain rfl := Oi h
 refine ⟨[(2, _)], _, _, ?_, ResOK.one Z Z, Z, Z⟩
 exact Lr []
def F_fc (n : Nat) (a1 : Cond) (a2 : Int) (rec148 : Cond → Int → Option Int) (s20 : Int × Int) : Option (Ctl (Int × Int) Int) :=
  ((bif decide (s20.2 < (a1.Parts.length : Int)) then some (decide (s20.1 ≤ 256)) else some false) : Option Bool).bind fun b24 => (bif b24 then (idx a1.Parts s20.2).bind fun x28 => (rec148 x28 (IntKind.i64.wrap (a2 + 1))).bind fun r29 => some (.cont (IntKind.i64.wrap (s20.1 + r29), IntKind.i64.wrap (s20.2 + 1))) else some (.done s20.1))
def B_h (rec148 : Cond → Int → Option Int) (n : Nat) (a1 : Cond) (a2 : Int) : Option Int :=
  (bif decide (16 < a2) then some 1000 else (iter (F_fc n a1 a2 rec148) n (1, 0) : Option Int).bind fun b17 => some b17)
theorem okB_stopwatchref07_conditions (rec148 : Cond → Int → Option Int) (hrec148 : ∀ (a1 : Cond) (a2 : Int) (r : Int), rec148 a1 a2 = some r → C prog 72 [.agg (Cond.c a1), .int .i64 a2] [] (fun a H => a = .int .i64 r ∧ H = [])) (n : Nat) (a1 : Cond) (a2 : Int) (r : Int) (h : B_h rec148 n a1 a2 = some r) :
    C prog 72 [.agg (Cond.c a1), .int .i64 a2] [] (fun a H => a = .int .i64 r ∧ H = []) := by
 refine C.of_body func72 Z Z Z ?_
 refine Rg ?_
 refine vH (OpH.box Z Z Z Z Z) ?_
 refine aV (.ptr 0 0) [.cells 125 (Cond.c a1)] Z Z ?_
 refine S Z (Nx (TC.seq (Rg (S Z (S Z (Nx (Cn Z h (fun hc1 h => ?_) (fun hc1 h => ?_))))))))
 ·
  refine Rg (S Z (Nx (RtR ?_)))
  obtain rfl := Oi h
  refine ⟨[(4, _)], _, _, ?_, ResOK.one Z Z, Z, Z⟩
  exact Lr []
 refine SkN (Rg (S Z (Nx (TC.seq (Rg (S Z (Nx (Bd h fun b17 h18 h => ?_))))))))
 refine TC.cut ([(5, .int .i64 b17)]) ([]) ?_ (fun env H hle => ?_)
 ·
  refine TC.block ?_
  refine TC.loop (E := fun s20 => [(1, .int .i64 a2), (2, .ptr 0 0), (5, .int .i64 s20.1), (6, .int .i64 s20.2)]) (Hp := fun s20 => [.cells 125 (Cond.c a1)]) h18 ?_ ?_
  ·
   exact Lr [0]
  intro s20 d21 h22 hb19
  refine TC.seq (TC.seq (Bd h22 fun b24 h25 h22 => ?_))
  refine TC.cut ([(1, .int .i64 a2), (2, .ptr 0 0), (5, .int .i64 s20.1), (6, .int .i64 s20.2), (17, .bool b24)]) ([.cells 125 (Cond.c a1)]) ?_ (fun env H hle => ?_)
  ·
   refine TC.region (S Z (Fp fa_125_3 Z (Ld isAgg123 Z (LnM runUnderlying123 Z (S Z (S Z (If h25 (fun hg26 h25 => ?_) (fun hg26 h25 => ?_))))))))
   ·
    refine Sg (gT hg26) Z (Sg (gT hg26) Z (Pk hg26 Z (WO.nil ?_)))
    obtain rfl := Oi h25
    exact cutN (Lr [0])
   ·
    refine KF hg26 Z (KF hg26 Z (Pk hg26 Z (WO.nil ?_)))
    obtain rfl := Oi h25
    exact cutN (Lr [0])
  refine seqN (TC.le hle (CnS Z h22 (fun hc27 h22 => ?_) (fun hc27 h22 => ?_)))
  ·
   refine ExX (loopX h22 ?_)
   obtain rfl := hb19 _ (Oi h22).symm
   exact bloE (cutN (Lr []))
  refine SkN (TC.seq (TC.block (TC.region (S Z (Fp fa_125_3 Z (Ld isAgg123 Z (S Z (Bd h22 fun x28 hx28 h22 => ?_))))))))
  refine vX (.rp [.int .i64 x28.Kind, .int .i64 x28.Var, .int .i64 x28.N, .rsl 4 (List.map Cond.enc x28.Parts)]) (OpV.ixME (e := Cond.enc) hx28 (Cond.enc_eq x28) runUnderlying123 sizeOf125) ?_
  refine vX (.agg (Cond.c x28)) (OpV.loadA Z isAgg125 sizeOf125 Z Pts.rp Z Z) ?_
  refine S Z (S Z (Bd h22 fun r29 hr29 h22 => ?_))
  refine WO.callD [] (OpC.fn call72 Z Z Z) (hrec148 _ _ _ hr29) ?_
  rintro _ _ ⟨rfl, rfl⟩
  refine aV (.int .i64 r29) [_] Z Z ?_
  exact S Z (S Z (WO.nil (bloN (seqN (TC.region (S Z (S Z (S Z (WO.nil (loopN h22 (Lr [0])))))))))))
 refine seqN (TC.le hle (Rg (S Z (S Z (Nx (TC.ret ?_))))))
 obtain rfl := Oi h
 refine ⟨[(4, _)], _, _, ?_, ResOK.one Z Z, Z, Z⟩
 exact Lr []
def F_h : Nat → Cond → Int → Option Int
  | 0 => fun _ _ => none
  | n + 1 => B_h (F_h n) n
theorem k_h (n : Nat) : ∀ (a1 : Cond) (a2 : Int) (r : Int), F_h n a1 a2 = some r → C prog 72 [.agg (Cond.c a1), .int .i64 a2] [] (fun a H => a = .int .i64 r ∧ H = []) := by
  induction n with
  | zero => intro a1 a2 r h; cases h
  | succ n ih => intro a1 a2 r h; exact okB_stopwatchref07_conditions _ ih n a1 a2 r h
def F_dt (n : Nat) (a1 : List Step) (a2 : Int) (rec146 : (List Step) → Int → Option (Int × Int)) (s50 : Int × Int × Int) : Option (Ctl (Int × Int × Int) (Int × Int)) :=
  ((bif decide (s50.2.2 < (a1.length : Int)) then (bif decide (s50.1 ≤ 64) then some (decide (s50.2.1 ≤ 256)) else some false) else some false) : Option Bool).bind fun b55 => (bif b55 then (idx a1 s50.2.2).bind fun x60 => (rec146 x60.Then (IntKind.i64.wrap (a2 + 1))).bind fun r61 => (idx a1 s50.2.2).bind fun x62 => (rec146 x62.Else (IntKind.i64.wrap (a2 + 1))).bind fun r63 => (idx a1 s50.2.2).bind fun x64 => (F_af n x64.Cond).bind fun r65 => ((bif (!r65) then (idx a1 s50.2.2).bind fun x72 => (F_h n x72.Cond 0).bind fun r73 => some (IntKind.i64.wrap ((IntKind.i64.wrap ((IntKind.i64.wrap (s50.2.1 + r61.2)) + r63.2)) + r73)) else some (IntKind.i64.wrap ((IntKind.i64.wrap (s50.2.1 + r61.2)) + r63.2))) : Option Int).bind fun b69 => some (.cont (IntKind.i64.wrap ((IntKind.i64.wrap ((IntKind.i64.wrap (s50.1 + 1)) + r61.1)) + r63.1), b69, IntKind.i64.wrap (s50.2.2 + 1))) else some (.done (s50.1, s50.2.1)))
def B_k (rec146 : (List Step) → Int → Option (Int × Int)) (n : Nat) (a1 : List Step) (a2 : Int) : Option (Int × Int) :=
  ((bif decide (0 < (a1.length : Int)) then some (decide (16 < a2)) else some false) : Option Bool).bind fun b2 => (bif b2 then some (1000, 1000) else (iter (F_dt n a1 a2 rec146) n (0, 0, 0) : Option (Int × Int)).bind fun b47 => some (b47.1, b47.2))
theorem okB_stopwatchref07_size (rec146 : (List Step) → Int → Option (Int × Int)) (hrec146 : ∀ (a1 : List Step) (a2 : Int) (r : Int × Int), rec146 a1 a2 = some r → C prog 42 [.rsl 8 (List.map Step.enc a1), .int .i64 a2] [] (fun a H => a = .tup [.int .i64 r.1, .int .i64 r.2] ∧ H = [])) (n : Nat) (a1 : List Step) (a2 : Int) (r : Int × Int) (h : B_k rec146 n a1 a2 = some r) :
    C prog 42 [.rsl 8 (List.map Step.enc a1), .int .i64 a2] [] (fun a H => a = .tup [.int .i64 r.1, .int .i64 r.2] ∧ H = []) := by
 refine C.of_body func42 Z Z Z ?_
 refine Rg (S Z (S Z (Nx (TC.seq (TC.seq (Bd h fun b2 h3 h => ?_))))))
 refine TC.cut ([(0, .rsl 8 (List.map Step.enc a1)), (1, .int .i64 a2), (19, .bool b2)]) ([]) ?_ (fun env H hle => ?_)
 ·
  refine TC.region (S Z (LnM runUnderlying29 Z (S Z (S Z (If h3 (fun hg4 h3 => ?_) (fun hg4 h3 => ?_))))))
  ·
   refine Sg (gT hg4) Z (Sg (gT hg4) Z (Pk hg4 Z (WO.nil ?_)))
   obtain rfl := Oi h3
   exact cutN (Lr [])
  ·
   refine KF hg4 Z (KF hg4 Z (Pk hg4 Z (WO.nil ?_)))
   obtain rfl := Oi h3
   exact cutN (Lr [])
 refine seqN (TC.le hle (Cn Z h (fun hc5 h => ?_) (fun hc5 h => ?_)))
 ·
  refine Rg (S Z (S Z (Nx (RtR ?_))))
  obtain rfl := Oi h
  refine ⟨[(4, _), (5, _)], _, _, ?_, ResOK.two Z Z Z, Z, Z⟩
  exact Lr []
 refine SkN (Rg (S Z (Nx (Rg (S Z (Nx (TC.seq (Rg (S Z (Nx (Bd h fun b47 h48 h => ?_)))))))))))
 refine TC.cut ([(6, .int .i64 b47.1), (7, .int .i64 b47.2)]) ([]) ?_ (fun env H hle => ?_)
 ·
  refine TC.block ?_
  refine TC.loop (E := fun s50 => [(0, .rsl 8 (List.map Step.enc a1)), (1, .int .i64 a2), (6, .int .i64 s50.1), (7, .int .i64 s50.2.1), (8, .int .i64 s50.2.2)]) (Hp := fun s50 => []) h48 ?_ ?_
  ·
   exact Lr []
  intro s50 d51 h52 hb49
  refine TC.seq (TC.seq (Bd h52 fun b55 h56 h52 => ?_))
  refine TC.cut ([(0, .rsl 8 (List.map Step.enc a1)), (1, .int .i64 a2), (6, .int .i64 s50.1), (7, .int .i64 s50.2.1), (8, .int .i64 s50.2.2), (31, .bool b55)]) ([]) ?_ (fun env H hle => ?_)
  ·
   refine TC.region (S Z (S Z (LnM runUnderlying29 Z (S Z (S Z (If h56 (fun hg57 h56 => ?_) (fun hg57 h56 => ?_)))))))
   ·
    refine Sg (gT hg57) Z (Sg (gT hg57) Z (Pk hg57 Z (S Z (If h56 (fun hg58 h56 => ?_) (fun hg58 h56 => ?_)))))
    ·
     refine Sg (gT hg58) Z (Sg (gT hg58) Z (Pk hg58 Z (WO.nil ?_)))
     obtain rfl := Oi h56
     exact cutN (Lr [])
    ·
     refine KF hg58 Z (KF hg58 Z (Pk hg58 Z (WO.nil ?_)))
     obtain rfl := Oi h56
     exact cutN (Lr [])
   ·
    refine KF hg57 Z (KF hg57 Z (Pk hg57 Z (S Z (KF Z Z (KF Z Z (S Z (WO.nil ?_)))))))
    obtain rfl := Oi h56
    exact cutN (Lr [])
  refine seqN (TC.le hle (CnS Z h52 (fun hc59 h52 => ?_) (fun hc59 h52 => ?_)))
  ·
   refine ExX (loopX h52 ?_)
   obtain rfl := hb49 _ (Oi h52).symm
   exact bloE (cutN (Lr []))
  refine SkN (TC.seq (TC.block (Rg (S Z (S Z (Bd h52 fun x60 hx60 h52 => ?_))))))
  refine vX (.rp [.int .i64 x60.Kind, .int .i64 x60.By, .int .i64 x60.Cond.Kind, .int .i64 x60.Cond.Var, .int .i64 x60.Cond.N, .rsl 4 (List.map Cond.enc x60.Cond.Parts), .rsl 8 (List.map Step.enc x60.Then), .rsl 8 (List.map Step.enc x60.Else)]) (OpV.ixME (e := Step.enc) hx60 (Step.enc_eq x60) runUnderlying29 sizeOf127) ?_
  refine Fr fa_127_3 Z (Ld isAgg29 Z (S Z (S Z (Bd h52 fun r61 hr61 h52 => ?_))))
  refine WO.callD [] (OpC.fn call42 Z Z Z) (hrec146 _ _ _ hr61) ?_
  rintro _ _ ⟨rfl, rfl⟩
  refine aV (.tup [.int .i64 r61.1, .int .i64 r61.2]) [] Z Z ?_
  refine S Z (S Z (S Z (S Z (S Z (Nx (Rg (S Z (S Z (Bd h52 fun x62 hx62 h52 => ?_)))))))))
  refine vX (.rp [.int .i64 x62.Kind, .int .i64 x62.By, .int .i64 x62.Cond.Kind, .int .i64 x62.Cond.Var, .int .i64 x62.Cond.N, .rsl 4 (List.map Cond.enc x62.Cond.Parts), .rsl 8 (List.map Step.enc x62.Then), .rsl 8 (List.map Step.enc x62.Else)]) (OpV.ixME (e := Step.enc) hx62 (Step.enc_eq x62) runUnderlying29 sizeOf127) ?_
  refine Fr fa_127_4 Z (Ld isAgg29 Z (S Z (S Z (Bd h52 fun r63 hr63 h52 => ?_))))
  refine WO.callD [] (OpC.fn call42 Z Z Z) (hrec146 _ _ _ hr63) ?_
  rintro _ _ ⟨rfl, rfl⟩
  refine aV (.tup [.int .i64 r63.1, .int .i64 r63.2]) [] Z Z ?_
  refine S Z (S Z (S Z (S Z (S Z (Nx (Rg (S Z (S Z (S Z (S Z (S Z (S Z (S Z (Nx (Rg (S Z (S Z (S Z (S Z (S Z (S Z (Nx (Rg (S Z (S Z (Bd h52 fun x64 hx64 h52 => ?_))))))))))))))))))))))))))
  refine vX (.rp [.int .i64 x64.Kind, .int .i64 x64.By, .int .i64 x64.Cond.Kind, .int .i64 x64.Cond.Var, .int .i64 x64.Cond.N, .rsl 4 (List.map Cond.enc x64.Cond.Parts), .rsl 8 (List.map Step.enc x64.Then), .rsl 8 (List.map Step.enc x64.Else)]) (OpV.ixME (e := Step.enc) hx64 (Step.enc_eq x64) runUnderlying29 sizeOf127) ?_
  refine Fr fa_127_2 Z ?_
  refine vX (.agg (Cond.c x64.Cond)) (OpV.loadA Z isAgg125 sizeOf125 Z Pts.rp Z Z) ?_
  refine Bd h52 fun r65 hr65 h52 => ?_
  refine WO.callD [] (OpC.fn call71 Z Z Z) (k_af _ _ _ hr65) ?_
  rintro _ _ ⟨rfl, rfl⟩
  refine aV (.bool r65) [] Z Z ?_
  refine S Z (Nx (Bd h52 fun b69 h70 h52 => ?_))
  refine TC.cut ([(0, .rsl 8 (List.map Step.enc a1)), (1, .int .i64 a2), (6, .int .i64 (IntKind.i64.wrap ((IntKind.i64.wrap ((IntKind.i64.wrap (s50.1 + 1)) + r61.1)) + r63.1))), (7, .int .i64 b69), (8, .int .i64 s50.2.2)]) ([]) ?_ (fun env H hle => ?_)
  ·
   refine Cn Z h70 (fun hc71 h70 => ?_) (fun hc71 h70 => ?_)
   ·
    refine TC.region (S Z (S Z (S Z (Bd h70 fun x72 hx72 h70 => ?_))))
    refine vX (.rp [.int .i64 x72.Kind, .int .i64 x72.By, .int .i64 x72.Cond.Kind, .int .i64 x72.Cond.Var, .int .i64 x72.Cond.N, .rsl 4 (List.map Cond.enc x72.Cond.Parts), .rsl 8 (List.map Step.enc x72.Then), .rsl 8 (List.map Step.enc x72.Else)]) (OpV.ixME (e := Step.enc) hx72 (Step.enc_eq x72) runUnderlying29 sizeOf127) ?_
    refine Fr fa_127_2 Z ?_
    refine vX (.agg (Cond.c x72.Cond)) (OpV.loadA Z isAgg125 sizeOf125 Z Pts.rp Z Z) ?_
    refine Bd h70 fun r73 hr73 h70 => ?_
    refine WO.callD [] (OpC.fn call72 Z Z Z) (k_h _ _ _ _ hr73) ?_
    rintro _ _ ⟨rfl, rfl⟩
    refine aV (.int .i64 r73) [] Z Z ?_
    refine S Z (S Z (WO.nil ?_))
    obtain rfl := Oi h70
    exact cutN (Lr [])
   refine TC.skip ?_
   obtain rfl := Oi h70
   exact cutN (Lr [])
  exact bloN (seqN (TC.le hle (TC.region (S Z (S Z (S Z (WO.nil (loopN h52 (Lr [])))))))))
 refine seqN (TC.le hle (Rg (S Z (S Z (S Z (S Z (Nx (TC.ret ?_))))))))
 obtain rfl := Oi h
 refine ⟨[(4, _), (5, _)], _, _, ?_, ResOK.two Z Z Z, Z, Z⟩
 exact Lr []
def F_k : Nat → (List Step) → Int → Option (Int × Int)
  | 0 => fun _ _ => none
  | n + 1 => B_k (F_k n) n
theorem k_k (n : Nat) : ∀ (a1 : List Step) (a2 : Int) (r : Int × Int), F_k n a1 a2 = some r → C prog 42 [.rsl 8 (List.map Step.enc a1), .int .i64 a2] [] (fun a H => a = .tup [.int .i64 r.1, .int .i64 r.2] ∧ H = []) := by
  induction n with
  | zero => intro a1 a2 r h; cases h
  | succ n ih => intro a1 a2 r h; exact okB_stopwatchref07_size _ ih n a1 a2 r h
def F_bb (n : Nat) (a1 : List Step) : Option Bool :=
  (F_k n a1 0).bind fun r1 => ((bif decide ((a1.length : Int) ≤ 20) then (bif decide (r1.1 ≤ 80) then some (decide (r1.2 ≤ 300)) else some false) else some false) : Option Bool).bind fun b4 => some b4
theorem k_bb (n : Nat) (a1 : List Step) (r : Bool) (h : F_bb n a1 = some r) :
    C prog 25 [.rsl 8 (List.map Step.enc a1)] [] (fun a H => a = .bool r ∧ H = []) := by
 refine C.of_body func25 Z Z Z ?_
 refine Rg (S Z (Nx (Rg (S Z (Bd h fun r1 hr1 h => ?_)))))
 refine WO.callD [] (OpC.fn call42 Z Z Z) (k_k _ _ _ _ hr1) ?_
 rintro _ _ ⟨rfl, rfl⟩
 refine aV (.tup [.int .i64 r1.1, .int .i64 r1.2]) [] Z Z ?_
 refine S Z (S Z (S Z (S Z (S Z (Nx (TC.seq (Bd h fun b4 h5 h => ?_)))))))
 refine TC.cut ([(2, .bool b4)]) ([]) ?_ (fun env H hle => ?_)
 ·
  refine TC.region (S Z (LnM runUnderlying29 Z (S Z (S Z (If h5 (fun hg6 h5 => ?_) (fun hg6 h5 => ?_))))))
  ·
   refine Sg (gT hg6) Z (Sg (gT hg6) Z (Pk hg6 Z (S Z (If h5 (fun hg7 h5 => ?_) (fun hg7 h5 => ?_)))))
   ·
    refine Sg (gT hg7) Z (Sg (gT hg7) Z (Pk hg7 Z (S Z (WO.nil ?_))))
    obtain rfl := Oi h5
    exact cutN (Lr [])
   ·
    refine KF hg7 Z (KF hg7 Z (Pk hg7 Z (S Z (WO.nil ?_))))
    obtain rfl := Oi h5
    exact cutN (Lr [])
  ·
   refine KF hg6 Z (KF hg6 Z (Pk hg6 Z (S Z (KF Z Z (KF Z Z (S Z (S Z (WO.nil ?_))))))))
   obtain rfl := Oi h5
   exact cutN (Lr [])
 refine seqN (TC.le hle (TC.ret ?_))
 obtain rfl := Oi h
 refine ⟨[(2, _)], _, _, ?_, ResOK.one Z Z, Z, Z⟩
 exact Lr []
def F_bo (n : Nat) (a1 : Course) (s27 : Int × Int) : Option (Ctl (Int × Int) (Ctl Int Bool)) :=
  ((bif decide (s27.2 < (a1.Distances.length : Int)) then some (decide (s27.1 ≤ 200)) else some false) : Option Bool).bind fun b31 => (bif b31 then (idx a1.Distances s27.2).bind fun x35 => (idx a1.Distances s27.2).bind fun x36 => (F_n n x36.Route).bind fun r37 => (idx a1.Distances s27.2).bind fun x38 => (F_m n x38.Route 17).bind fun r39 => (bif decide (16 < r39) then some (.done (.done false)) else some (.cont (IntKind.i64.wrap ((IntKind.i64.wrap (s27.1 + (x35.Cutoffs.length : Int))) + r37), IntKind.i64.wrap (s27.2 + 1)))) else some (.done (.cont s27.1)))
def F_au (n : Nat) (a1 : Course) : Option Bool :=
  (iter (F_bo n a1) n (IntKind.i64.wrap ((IntKind.i64.wrap ((IntKind.i64.wrap ((IntKind.i64.wrap ((IntKind.i64.wrap ((IntKind.i64.wrap ((a1.Mats.length : Int) + (a1.Legs.length : Int))) + (a1.Distances.length : Int))) + (a1.Waves.length : Int))) + (a1.Offences.length : Int))) + (a1.Categories.length : Int))) + (a1.Prizes.length : Int)), 0) : Option (Ctl Int Bool)).bind fun b24 => match b24 with | .cont sb24 => (((bif decide (sb24 ≤ 200) then (bif decide ((a1.Name.length : Int) ≤ 100) then (F_bb n a1.Ties).bind fun r48 => some r48 else some false) else some false) : Option Bool).bind fun b44 => some b44) | .done sb24 => some sb24
theorem k_au (n : Nat) (a1 : Course) (r : Bool) (h : F_au n a1 = some r) :
    C prog 9 [.agg (Course.c a1)] [] (fun a H => a = .bool r ∧ H = []) := by
 refine C.of_body func9 Z Z Z ?_
 refine Rg ?_
 refine vH (OpH.box Z Z Z Z Z) ?_
 refine aV (.ptr 0 0) [.cells 33 (Course.c a1)] Z Z ?_
 refine S Z (Nx (Rg (Fp fa_33_1 Z (Ld isAgg22 Z (LnM runUnderlying22 Z (Fp fa_33_2 Z (Ld isAgg23 Z (LnM runUnderlying23 Z (S Z (Fp fa_33_3 Z (Ld isAgg24 Z (LnM runUnderlying24 Z (S Z (Fp fa_33_4 Z (Ld isAgg25 Z (LnM runUnderlying25 Z (S Z (Fp fa_33_5 Z (Ld isAgg26 Z (LnM runUnderlying26 Z (S Z (Fp fa_33_6 Z (Ld isAgg27 Z (LnM runUnderlying27 Z (S Z (Fp fa_33_7 Z (Ld isAgg28 Z (LnM runUnderlying28 Z (S Z (S Z (Nx (TC.seq (Rg (S Z (WO.nil ?_)))))))))))))))))))))))))))))))))))
 refine seqN (Bd h fun b24 h25 h => ?_)
 refine TC.cutE (b := b24) (fun sb24 => [(1, .ptr 0 0), (3, .int .i64 sb24)]) (fun sb24 => [.cells 33 (Course.c a1)]) ?_ (fun sb24 env H hbe hle => ?_)
 ·
  refine TC.block ?_
  refine TC.loop (E := fun s27 => [(1, .ptr 0 0), (3, .int .i64 s27.1), (4, .int .i64 s27.2)]) (Hp := fun s27 => [.cells 33 (Course.c a1)]) h25 ?_ ?_
  ·
   exact Lr [0]
  intro s27 d28 h29 hb26
  refine TC.seq (TC.seq (Bd h29 fun b31 h32 h29 => ?_))
  refine TC.cut ([(1, .ptr 0 0), (3, .int .i64 s27.1), (4, .int .i64 s27.2), (40, .bool b31)]) ([.cells 33 (Course.c a1)]) ?_ (fun env H hle => ?_)
  ·
   refine TC.region (S Z (Fp fa_33_3 Z (Ld isAgg24 Z (LnM runUnderlying24 Z (S Z (S Z (If h32 (fun hg33 h32 => ?_) (fun hg33 h32 => ?_))))))))
   ·
    refine Sg (gT hg33) Z (Sg (gT hg33) Z (Pk hg33 Z (WO.nil ?_)))
    obtain rfl := Oi h32
    exact cutN (Lr [0])
   ·
    refine KF hg33 Z (KF hg33 Z (Pk hg33 Z (WO.nil ?_)))
    obtain rfl := Oi h32
    exact cutN (Lr [0])
  refine seqN (TC.le hle (CnS Z h29 (fun hc34 h29 => ?_) (fun hc34 h29 => ?_)))
  ·
   refine ExX (loopX h29 ?_)
   obtain rfl := hb26 _ (Oi h29).symm
   exact bloE (cutEN Z (Lr [0]))
  refine SkN (TC.seq (TC.block (TC.seq ?_)))
  obtain ⟨x35, hx35, h29⟩ := bnd h29
  obtain ⟨x36, hx36, h29⟩ := bnd h29
  obtain ⟨r37, hr37, h29⟩ := bnd h29
  refine TC.draw 16 0 [43, 44, 45, 46, 47, 48, 49, 50, 51, 52, 53, 54, 55, 56, 57, 58] [0, 0, 0, 0, 0, 0, 0, 0, 0, 0, 0, 0, 0, 0, 0, 0] [false, false, false, false, false, false, false, false, false, false, false, false, false, false, false, false] [.int .i64 s27.1, .ptr 0 3, .rsl 5 (List.map Distance.c a1.Distances), .int .i64 s27.2, .rp [.str x35.Name, .rsl 3 (List.map Part.enc x35.Route), .int .i64 x35.Timing, .rsl 3 (List.map Cutoff.c x35.Cutoffs), .int .i64 x35.Extra], .rp [.rsl 3 (List.map Cutoff.c x35.Cutoffs), .int .i64 x35.Extra], .rsl 3 (List.map Cutoff.c x35.Cutoffs), .int .i64 (x35.Cutoffs.length : Int), .int .i64 (IntKind.i64.wrap (s27.1 + (x35.Cutoffs.length : Int))), .ptr 0 3, .rsl 5 (List.map Distance.c a1.Distances), .int .i64 s27.2, .rp [.str x36.Name, .rsl 3 (List.map Part.enc x36.Route), .int .i64 x36.Timing, .rsl 3 (List.map Cutoff.c x36.Cutoffs), .int .i64 x36.Extra], .rp [.rsl 3 (List.map Part.enc x36.Route), .int .i64 x36.Timing, .rsl 3 (List.map Cutoff.c x36.Cutoffs), .int .i64 x36.Extra], .rsl 3 (List.map Part.enc x36.Route), .int .i64 r37] [[.cells 33 (Course.c a1)]] ([.cells 33 (Course.c a1)]) draws Z Z Z Z Z Z Z Z ?_ ?_
  ·
   refine Ob.cons ?_ (Ob.cons ?_ (Ob.cons ?_ (Ob.cons ?_ (Ob.cons ?_ (Ob.cons ?_ (Ob.cons ?_ (Ob.cons ?_ (Ob.cons ?_ (Ob.cons ?_ (Ob.cons ?_ (Ob.cons ?_ (Ob.cons ?_ (Ob.cons ?_ (Ob.cons ?_ (Ob.cons ?_ (Ob.nil))))))))))))))))
   ·
     refine OB [(3, _)] 43 Z Z Z (Sb.old Z Z Sb.nil) ?_
     exact S Z Wp
   ·
     refine OB [(1, _)] 44 Z Z Z (Sb.old Z Z Sb.nil) ?_
     exact Fp fa_33_3 Z Wp
   ·
     refine OB [(44, _)] 45 Z Z Z (Sb.dep 1 Z Z Z Sb.nil) ?_
     exact Ld isAgg24 Z Wp
   ·
     refine OB [(4, _)] 46 Z Z Z (Sb.old Z Z Sb.nil) ?_
     exact S Z Wp
   ·
     refine OB [(45, _), (46, _)] 47 Z Z Z (Sb.dep 2 Z Z Z (Sb.dep 3 Z Z Z Sb.nil)) ?_
     exact Ix hx35 runUnderlying24 sizeOf62 Z Wp
   ·
     refine OB [(47, _)] 48 Z Z Z (Sb.dep 4 Z Z Z Sb.nil) ?_
     exact Fr fa_62_3 Z Wp
   ·
     refine OB [(48, _)] 49 Z Z Z (Sb.dep 5 Z Z Z Sb.nil) ?_
     exact Ld isAgg60 Z Wp
   ·
     refine OB [(49, _)] 50 Z Z Z (Sb.dep 6 Z Z Z Sb.nil) ?_
     exact LnM runUnderlying60 Z Wp
   ·
     refine OB [(43, _), (50, _)] 51 Z Z Z (Sb.dep 0 Z Z Z (Sb.dep 7 Z Z Z Sb.nil)) ?_
     exact S Z Wp
   ·
     refine OB [(1, _)] 52 Z Z Z (Sb.old Z Z Sb.nil) ?_
     exact Fp fa_33_3 Z Wp
   ·
     refine OB [(52, _)] 53 Z Z Z (Sb.dep 9 Z Z Z Sb.nil) ?_
     exact Ld isAgg24 Z Wp
   ·
     refine OB [(4, _)] 54 Z Z Z (Sb.old Z Z Sb.nil) ?_
     exact S Z Wp
   ·
     refine OB [(53, _), (54, _)] 55 Z Z Z (Sb.dep 10 Z Z Z (Sb.dep 11 Z Z Z Sb.nil)) ?_
     exact Ix hx36 runUnderlying24 sizeOf62 Z Wp
   ·
     refine OB [(55, _)] 56 Z Z Z (Sb.dep 12 Z Z Z Sb.nil) ?_
     exact Fr fa_62_1 Z Wp
   ·
     refine OB [(56, _)] 57 Z Z Z (Sb.dep 13 Z Z Z Sb.nil) ?_
     exact Ld isAgg59 Z Wp
   ·
     refine OB [(57, _)] 58 Z Z Z (Sb.dep 14 Z Z Z Sb.nil) ?_
     refine WO.callD [] (OpC.fn call23 Z Z Z) (k_n _ _ _ hr37) ?_
     rintro _ _ ⟨rfl, rfl⟩
     refine aV (.int .i64 r37) [_] Z Z ?_
     exact WO.nil Post1.mk
  refine S Z (S Z (Nx (Rg (Fp fa_33_3 Z (Ld isAgg24 Z (S Z (Bd h29 fun x38 hx38 h29 => Ix hx38 runUnderlying24 sizeOf62 Z (Fr fa_62_1 Z (Ld isAgg59 Z (Bd h29 fun r39 hr39 h29 => ?_))))))))))
  refine WO.callD [] (OpC.fn call24 Z Z Z) (k_m _ _ _ _ hr39) ?_
  rintro _ _ ⟨rfl, rfl⟩
  refine aV (.int .i64 r39) [_] Z Z ?_
  refine S Z (Nx (Cn Z h29 (fun hc40 h29 => ?_) (fun hc40 h29 => ?_)))
  ·
   refine Rg (S Z (Nx (TC.ret (bloR (seqR (loopR h29 ?_))))))
   obtain rfl := hb26 _ (Oi h29).symm
   refine bloR (cutER (seqR ?_))
   obtain rfl := Oi h
   refine ⟨[(2, _)], _, _, ?_, ResOK.one Z Z, Z, Z⟩
   exact Lr []
  exact TC.skip (bloN (seqN (TC.region (S Z (S Z (S Z (WO.nil (loopN h29 (Lr [0])))))))))
 subst hbe
 refine seqN (TC.le hle (TC.seq (Bd h fun b44 h45 h => ?_)))
 refine TC.cut ([(2, .bool b44)]) ([]) ?_ (fun env H hle => ?_)
 ·
  refine TC.region (S Z (S Z (S Z (If h45 (fun hg46 h45 => ?_) (fun hg46 h45 => ?_)))))
  ·
   refine Fpg (gT hg46) fa_33_0 Z (Ldg (gT hg46) isAgg9 Z ?_)
   refine vX (.int .i64 (a1.Name.length : Int)) (OpV.lenStr Z Z runUnderlying9 Z) ?_ (gT hg46)
   refine Sg (gT hg46) Z (Pk hg46 Z (S Z (If h45 (fun hg47 h45 => ?_) (fun hg47 h45 => ?_))))
   ·
    refine Fpg (gT hg47) fa_33_8 Z (Ldg (gT hg47) isAgg29 Z (Bd h45 fun r48 hr48 h45 => ?_))
    refine WO.callD [] (OpC.fn call25 Z Z Z) (k_bb _ _ _ hr48) ?_ (hg := (gT hg47))
    rintro _ _ ⟨rfl, rfl⟩
    refine aV (.bool r48) [_] Z Z ?_
    refine Pk hg47 Z (S Z (WO.nil ?_))
    obtain rfl := Oi h45
    exact cutN (Lr [])
   ·
    refine KF hg47 Z (KF hg47 Z (KF hg47 Z (Pk hg47 Z (S Z (WO.nil ?_)))))
    obtain rfl := Oi h45
    exact cutN (Lr [])
  ·
   refine KF hg46 Z (KF hg46 Z (KF hg46 Z (KF hg46 Z (Pk hg46 Z (S Z (KF Z Z (KF Z Z (KF Z Z (S Z (S Z (WO.nil ?_)))))))))))
   obtain rfl := Oi h45
   exact cutN (Lr [])
 refine seqN (TC.le hle (TC.ret ?_))
 obtain rfl := Oi h
 refine ⟨[(2, _)], _, _, ?_, ResOK.one Z Z, Z, Z⟩
 exact Lr []
def F_bl (n : Nat) (a1 : Course) (a2 : List Starter) : Option Bool :=
  ((bif decide ((a1.Distances.length : Int) ≤ 10) then (bif decide ((a1.Categories.length : Int) ≤ 40) then some (decide ((a2.length : Int) ≤ 20)) else some false) else some false) : Option Bool).bind fun b3 => some b3
theorem k_bl (n : Nat) (a1 : Course) (a2 : List Starter) (r : Bool) (h : F_bl n a1 a2 = some r) :
    C prog 10 [.agg (Course.c a1), .rsl 8 (List.map Starter.c a2)] [] (fun a H => a = .bool r ∧ H = []) := by
 refine C.of_body func10 Z Z Z ?_
 refine Rg ?_
 refine vH (OpH.box Z Z Z Z Z) ?_
 refine aV (.ptr 0 0) [.cells 33 (Course.c a1)] Z Z ?_
 refine S Z (Nx (TC.seq (Bd h fun b3 h4 h => ?_)))
 refine TC.cut ([(4, .bool b3)]) ([]) ?_ (fun env H hle => ?_)
 ·
  refine TC.region (Fp fa_33_3 Z (Ld isAgg24 Z (LnM runUnderlying24 Z (S Z (S Z (If h4 (fun hg5 h4 => ?_) (fun hg5 h4 => ?_)))))))
  ·
   refine Fpg (gT hg5) fa_33_6 Z (Ldg (gT hg5) isAgg27 Z ?_)
   refine vX (.int .i64 (a1.Categories.length : Int)) (OpV.lenM (e := Category.c) (l := a1.Categories) runUnderlying27) ?_ (gT hg5)
   refine Sg (gT hg5) Z (Pk hg5 Z (S Z (If h4 (fun hg6 h4 => ?_) (fun hg6 h4 => ?_))))
   ·
    refine Sg (gT hg6) Z ?_
    refine vX (.int .i64 (a2.length : Int)) (OpV.lenM (e := Starter.c) (l := a2) runUnderlying34) ?_ (gT hg6)
    refine Sg (gT hg6) Z (Pk hg6 Z (S Z (WO.nil ?_)))
    obtain rfl := Oi h4
    exact cutN (Lr [])
   ·
    refine KF hg6 Z (KF hg6 Z (KF hg6 Z (Pk hg6 Z (S Z (WO.nil ?_)))))
    obtain rfl := Oi h4
    exact cutN (Lr [])
  ·
   refine KF hg5 Z (KF hg5 Z (KF hg5 Z (KF hg5 Z (Pk hg5 Z (S Z (KF Z Z (KF Z Z (KF Z Z (S Z (S Z (WO.nil ?_)))))))))))
   obtain rfl := Oi h4
   exact cutN (Lr [])
 refine seqN (TC.le hle (TC.ret ?_))
 obtain rfl := Oi h
 refine ⟨[(4, _)], _, _, ?_, ResOK.one Z Z, Z, Z⟩
 exact Lr []
def F_gi (n : Nat) (a1 : Course) (s46 : Int) : Option (Ctl Int (Ctl Unit Bool)) :=
  (bif decide (s46 < (a1.Distances.length : Int)) then (idx a1.Distances s46).bind fun x50 => ((bif decide (64 < (x50.Cutoffs.length : Int)) then some true else (F_m n x50.Route 17).bind fun r58 => (bif decide (16 < r58) then some true else (F_n n x50.Route).bind fun r60 => some (decide (256 < r60)))) : Option Bool).bind fun b55 => (bif b55 then some (.done (.done false)) else some (.cont (IntKind.i64.wrap (s46 + 1)))) else some (.done (.cont ())))
def F_cs (n : Nat) (a1 : Course) : Option Bool :=
  ((bif decide (40 < (a1.Mats.length : Int)) then some true else (bif decide (512 < (a1.Legs.length : Int)) then some true else (bif decide (8 < (a1.Distances.length : Int)) then some true else (bif decide (32 < (a1.Waves.length : Int)) then some true else (bif decide (32 < (a1.Offences.length : Int)) then some true else (bif decide (32 < (a1.Categories.length : Int)) then some true else some (decide (32 < (a1.Prizes.length : Int))))))))) : Option Bool).bind fun b7 => (bif b7 then some false else (iter (F_gi n a1) n 0 : Option (Ctl Unit Bool)).bind fun b43 => match b43 with | .cont sb43 => (some true) | .done sb43 => some sb43)
theorem k_cs (n : Nat) (a1 : Course) (r : Bool) (h : F_cs n a1 = some r) :
    C prog 37 [.agg (Course.c a1)] [] (fun a H => a = .bool r ∧ H = []) := by
 refine C.of_body func37 Z Z Z ?_
 refine Rg ?_
 refine vH (OpH.box Z Z Z Z Z) ?_
 refine aV (.ptr 0 0) [.cells 33 (Course.c a1)] Z Z ?_
 refine S Z (Nx (TC.seq (TC.seq (Bd h fun b7 h8 h => ?_))))
 refine TC.cut ([(1, .ptr 0 0), (44, .bool b7)]) ([.cells 33 (Course.c a1)]) ?_ (fun env H hle => ?_)
 ·
  refine TC.region (Fp fa_33_1 Z (Ld isAgg22 Z (LnM runUnderlying22 Z (S Z (S Z (If h8 (fun hg9 h8 => ?_) (fun hg9 h8 => ?_)))))))
  ·
   refine KF hg9 Z (KF hg9 Z (KF hg9 Z (KF hg9 Z (Pk hg9 Z (S Z (KF Z Z (KF Z Z (KF Z Z (KF Z Z (S Z (S Z (KF Z Z (KF Z Z (KF Z Z (KF Z Z (S Z (S Z (KF Z Z (KF Z Z (KF Z Z (KF Z Z (S Z (S Z (KF Z Z (KF Z Z (KF Z Z (KF Z Z (S Z (S Z (KF Z Z (KF Z Z (KF Z Z (KF Z Z (S Z (WO.nil ?_)))))))))))))))))))))))))))))))))))
   obtain rfl := Oi h8
   exact cutN (Lr [0])
  ·
   refine Fpg (gT hg9) fa_33_2 Z (Ldg (gT hg9) isAgg23 Z ?_)
   refine vX (.int .i64 (a1.Legs.length : Int)) (OpV.lenM (e := Leg.c) (l := a1.Legs) runUnderlying23) ?_ (gT hg9)
   refine Sg (gT hg9) Z (Pk hg9 Z (S Z (If h8 (fun hg10 h8 => ?_) (fun hg10 h8 => ?_))))
   ·
    refine KF hg10 Z (KF hg10 Z (KF hg10 Z (KF hg10 Z (Pk hg10 Z (S Z (KF Z Z (KF Z Z (KF Z Z (KF Z Z (S Z (S Z (KF Z Z (KF Z Z (KF Z Z (KF Z Z (S Z (S Z (KF Z Z (KF Z Z (KF Z Z (KF Z Z (S Z (S Z (KF Z Z (KF Z Z (KF Z Z (KF Z Z (S Z (WO.nil ?_)))))))))))))))))))))))))))))
    obtain rfl := Oi h8
    exact cutN (Lr [0])
   ·
    refine Fpg (gT hg10) fa_33_3 Z (Ldg (gT hg10) isAgg24 Z ?_)
    refine vX (.int .i64 (a1.Distances.length : Int)) (OpV.lenM (e := Distance.c) (l := a1.Distances) runUnderlying24) ?_ (gT hg10)
    refine Sg (gT hg10) Z (Pk hg10 Z (S Z (If h8 (fun hg11 h8 => ?_) (fun hg11 h8 => ?_))))
    ·
     refine KF hg11 Z (KF hg11 Z (KF hg11 Z (KF hg11 Z (Pk hg11 Z (S Z (KF Z Z (KF Z Z (KF Z Z (KF Z Z (S Z (S Z (KF Z Z (KF Z Z (KF Z Z (KF Z Z (S Z (S Z (KF Z Z (KF Z Z (KF Z Z (KF Z Z (S Z (WO.nil ?_)))))))))))))))))))))))
     obtain rfl := Oi h8
     exact cutN (Lr [0])
    ·
     refine Fpg (gT hg11) fa_33_4 Z (Ldg (gT hg11) isAgg25 Z ?_)
     refine vX (.int .i64 (a1.Waves.length : Int)) (OpV.lenM (e := Wave.c) (l := a1.Waves) runUnderlying25) ?_ (gT hg11)
     refine Sg (gT hg11) Z (Pk hg11 Z (S Z (If h8 (fun hg12 h8 => ?_) (fun hg12 h8 => ?_))))
     ·
      refine KF hg12 Z (KF hg12 Z (KF hg12 Z (KF hg12 Z (Pk hg12 Z (S Z (KF Z Z (KF Z Z (KF Z Z (KF Z Z (S Z (S Z (KF Z Z (KF Z Z (KF Z Z (KF Z Z (S Z (WO.nil ?_)))))))))))))))))
      obtain rfl := Oi h8
      exact cutN (Lr [0])
     ·
      refine Fpg (gT hg12) fa_33_5 Z (Ldg (gT hg12) isAgg26 Z ?_)
      refine vX (.int .i64 (a1.Offences.length : Int)) (OpV.lenM (e := Offence.c) (l := a1.Offences) runUnderlying26) ?_ (gT hg12)
      refine Sg (gT hg12) Z (Pk hg12 Z (S Z (If h8 (fun hg13 h8 => ?_) (fun hg13 h8 => ?_))))
      ·
       refine KF hg13 Z (KF hg13 Z (KF hg13 Z (KF hg13 Z (Pk hg13 Z (S Z (KF Z Z (KF Z Z (KF Z Z (KF Z Z (S Z (WO.nil ?_)))))))))))
       obtain rfl := Oi h8
       exact cutN (Lr [0])
      ·
       refine Fpg (gT hg13) fa_33_6 Z (Ldg (gT hg13) isAgg27 Z ?_)
       refine vX (.int .i64 (a1.Categories.length : Int)) (OpV.lenM (e := Category.c) (l := a1.Categories) runUnderlying27) ?_ (gT hg13)
       refine Sg (gT hg13) Z (Pk hg13 Z (S Z (If h8 (fun hg14 h8 => ?_) (fun hg14 h8 => ?_))))
       ·
        refine KF hg14 Z (KF hg14 Z (KF hg14 Z (KF hg14 Z (Pk hg14 Z (WO.nil ?_)))))
        obtain rfl := Oi h8
        exact cutN (Lr [0])
       ·
        refine Fpg (gT hg14) fa_33_7 Z (Ldg (gT hg14) isAgg28 Z ?_)
        refine vX (.int .i64 (a1.Prizes.length : Int)) (OpV.lenM (e := Prize.c) (l := a1.Prizes) runUnderlying28) ?_ (gT hg14)
        refine Sg (gT hg14) Z (Pk hg14 Z (WO.nil ?_))
        obtain rfl := Oi h8
        exact cutN (Lr [0])
 refine seqN (TC.le hle (Cn Z h (fun hc15 h => ?_) (fun hc15 h => ?_)))
 ·
  refine Rg (S Z (Nx (RtR ?_)))
  obtain rfl := Oi h
  refine ⟨[(2, _)], _, _, ?_, ResOK.one Z Z, Z, Z⟩
  exact Lr []
 refine SkN (TC.seq (Rg (S Z (Nx (Bd h fun b43 h44 h => ?_)))))
 refine TC.cutE (b := b43) (fun sb43 => []) (fun sb43 => []) ?_ (fun sb43 env H hbe hle => ?_)
 ·
  refine TC.block ?_
  refine TC.loop (E := fun s46 => [(1, .ptr 0 0), (3, .int .i64 s46)]) (Hp := fun s46 => [.cells 33 (Course.c a1)]) h44 ?_ ?_
  ·
   exact Lr [0]
  intro s46 d47 h48 hb45
  refine TC.seq (Rg (S Z (Fp fa_33_3 Z (Ld isAgg24 Z (LnM runUnderlying24 Z (S Z (Nx (CnS Z h48 (fun hc49 h48 => ?_) (fun hc49 h48 => ?_)))))))))
  ·
   refine ExX (loopX h48 ?_)
   obtain rfl := hb45 _ (Oi h48).symm
   exact bloE (cutEN Z (Lr []))
  refine SkN (TC.seq (TC.block (Rg (Fp fa_33_3 Z (Ld isAgg24 Z (S Z (Bd h48 fun x50 hx50 h48 => Ix hx50 runUnderlying24 sizeOf62 Z ?_)))))))
  refine vX (.agg (Distance.c x50)) (OpV.loadA Z isAgg62 sizeOf62 Z Pts.rp Z Z) ?_
  refine vH (OpH.allocZ (v := (.agg [.str [], .rsl 3 (List.map Part.enc []), .int .i64 0, .rsl 3 (List.map Cutoff.c []), .int .i64 0])) zeroValue62 (ZR.agg (ZL.cons ZR.str (ZL.cons ZR.rsl (ZL.cons ZR.int (ZL.cons ZR.rsl (ZL.cons ZR.int ZL.nil))))))) ?_
  refine aV (.ptr 1 0) [_, .cells 62 [.str [], .rsl 3 (List.map Part.enc []), .int .i64 0, .rsl 3 (List.map Cutoff.c []), .int .i64 0]] Z Z ?_
  refine vU (OpU.store Z Z Z sizeOf62 Z Z Z Z Z Z Z) ?_
  refine WO.atH (H := [_, .cells 62 (Distance.c x50)]) Z ?_
  refine Nx (TC.seq (Bd h48 fun b55 h56 h48 => ?_))
  refine TC.cut ([(1, .ptr 0 0), (3, .int .i64 s46), (72, .bool b55)]) ([.cells 33 (Course.c a1)]) ?_ (fun env H hle => ?_)
  ·
   refine TC.region (Fp fa_62_3 Z (Ld isAgg60 Z (LnM runUnderlying60 Z (S Z (S Z (If h56 (fun hg57 h56 => ?_) (fun hg57 h56 => ?_)))))))
   ·
    refine KF hg57 Z (KF hg57 Z (KF hg57 Z (KF hg57 Z (Pk hg57 Z (S Z (KF Z Z (KF Z Z (KF Z Z (KF Z Z (S Z (WO.nil ?_)))))))))))
    obtain rfl := Oi h56
    exact cutN (Lr [0])
   ·
    refine Fpg (gT hg57) fa_62_1 Z (Ldg (gT hg57) isAgg59 Z (Bd h56 fun r58 hr58 h56 => ?_))
    refine WO.callD [] (OpC.fn call24 Z Z Z) (k_m _ _ _ _ hr58) ?_ (hg := (gT hg57))
    rintro _ _ ⟨rfl, rfl⟩
    refine aV (.int .i64 r58) [_, _] Z Z ?_
    refine Sg (gT hg57) Z (Pk hg57 Z (S Z (If h56 (fun hg59 h56 => ?_) (fun hg59 h56 => ?_))))
    ·
     refine KF hg59 Z (KF hg59 Z (KF hg59 Z (KF hg59 Z (Pk hg59 Z (WO.nil ?_)))))
     obtain rfl := Oi h56
     exact cutN (Lr [0])
    ·
     refine Fpg (gT hg59) fa_62_1 Z (Ldg (gT hg59) isAgg59 Z (Bd h56 fun r60 hr60 h56 => ?_))
     refine WO.callD [] (OpC.fn call23 Z Z Z) (k_n _ _ _ hr60) ?_ (hg := (gT hg59))
     rintro _ _ ⟨rfl, rfl⟩
     refine aV (.int .i64 r60) [_, _] Z Z ?_
     refine Sg (gT hg59) Z (Pk hg59 Z (WO.nil ?_))
     obtain rfl := Oi h56
     exact cutN (Lr [0])
  refine seqN (TC.le hle (Cn Z h48 (fun hc61 h48 => ?_) (fun hc61 h48 => ?_)))
  ·
   refine Rg (S Z (Nx (TC.ret (bloR (seqR (loopR h48 ?_))))))
   obtain rfl := hb45 _ (Oi h48).symm
   refine bloR (cutER (seqR ?_))
   obtain rfl := Oi h
   refine ⟨[(2, _)], _, _, ?_, ResOK.one Z Z, Z, Z⟩
   exact Lr []
  exact TC.skip (bloN (seqN (TC.region (S Z (S Z (S Z (WO.nil (loopN h48 (Lr [0])))))))))
 subst hbe
 refine seqN (TC.le hle (Rg (S Z (Nx (TC.ret ?_)))))
 obtain rfl := Oi h
 refine ⟨[(2, _)], _, _, ?_, ResOK.one Z Z, Z, Z⟩
 exact Lr []
def F_cc (n : Nat) (a1 : List UInt8) : Option Bool :=
  ((bif (a1 == [99, 111, 117, 114, 115, 101]) then some (a1 == [99, 111, 117, 114, 115, 101]) else (bif (a1 == [109, 97, 116, 115]) then some (a1 == [109, 97, 116, 115]) else (bif (a1 == [115, 116, 97, 114, 116]) then some (a1 == [115, 116, 97, 114, 116]) else (bif (a1 == [112, 97, 115, 115]) then some (a1 == [112, 97, 115, 115]) else (bif (a1 == [101, 110, 100]) then some (a1 == [101, 110, 100]) else (bif (a1 == [108, 101, 103]) then some (a1 == [108, 101, 103]) else (bif (a1 == [116, 111]) then some (a1 == [116, 111]) else (bif (a1 == [100, 105, 115, 116, 97, 110, 99, 101]) then some (a1 == [100, 105, 115, 116, 97, 110, 99, 101]) else (bif (a1 == [103, 117, 110]) then some (a1 == [103, 117, 110]) else (bif (a1 == [99, 104, 105, 112]) then some (a1 == [99, 104, 105, 112]) else (bif (a1 == [115, 108, 111, 116]) then some (a1 == [115, 108, 111, 116]) else (bif (a1 == [108, 97, 112, 115]) then some (a1 == [108, 97, 112, 115]) else (bif (a1 == [108, 97, 112]) then some (a1 == [108, 97, 112]) else (bif (a1 == [99, 117, 116, 111, 102, 102]) then some (a1 == [99, 117, 116, 111, 102, 102]) else (bif (a1 == [101, 120, 116, 114, 97]) then some (a1 == [101, 120, 116, 114, 97]) else (bif (a1 == [119, 97, 118, 101]) then some (a1 == [119, 97, 118, 101]) else (bif (a1 == [111, 102, 102, 101, 110, 99, 101]) then some (a1 == [111, 102, 102, 101, 110, 99, 101]) else (bif (a1 == [111, 117, 116]) then some (a1 == [111, 117, 116]) else (bif (a1 == [99, 97, 116, 101, 103, 111, 114, 121]) then some (a1 == [99, 97, 116, 101, 103, 111, 114, 121]) else (bif (a1 == [112, 114, 105, 122, 101]) then some (a1 == [112, 114, 105, 122, 101]) else (bif (a1 == [97, 108, 108]) then some (a1 == [97, 108, 108]) else some (a1 == [116, 105, 101, 115])))))))))))))))))))))) : Option Bool).bind fun b22 => (bif b22 then some true else ((bif (a1 == [105, 102]) then some (a1 == [105, 102]) else (bif (a1 == [101, 108, 115, 101]) then some (a1 == [101, 108, 115, 101]) else (bif (a1 == [97, 110, 100]) then some (a1 == [97, 110, 100]) else (bif (a1 == [111, 114]) then some (a1 == [111, 114]) else (bif (a1 == [110, 111, 116]) then some (a1 == [110, 111, 116]) else (bif (a1 == [111, 108, 100, 101, 114]) then some (a1 == [111, 108, 100, 101, 114]) else (bif (a1 == [121, 111, 117, 110, 103, 101, 114]) then some (a1 == [121, 111, 117, 110, 103, 101, 114]) else (bif (a1 == [98, 105, 98]) then some (a1 == [98, 105, 98]) else (bif (a1 == [100, 114, 97, 119]) then some (a1 == [100, 114, 97, 119]) else (bif (a1 == [102, 105, 101, 108, 100]) then some (a1 == [102, 105, 101, 108, 100]) else (bif (a1 == [115, 104, 111, 114, 116]) then some (a1 == [115, 104, 111, 114, 116]) else (bif (a1 == [102, 97, 117, 108, 116, 115]) then some (a1 == [102, 97, 117, 108, 116, 115]) else (bif (a1 == [109, 105, 115, 115, 101, 115]) then some (a1 == [109, 105, 115, 115, 101, 115]) else (bif (a1 == [115, 116, 114, 97, 121, 115]) then some (a1 == [115, 116, 114, 97, 121, 115]) else (bif (a1 == [119, 105, 110, 100, 111, 119]) then some (a1 == [119, 105, 110, 100, 111, 119]) else (bif (a1 == [114, 101, 115, 105, 100, 117, 97, 108]) then some (a1 == [114, 101, 115, 105, 100, 117, 97, 108]) else (bif (a1 == [100, 114, 105, 102, 116]) then some (a1 == [100, 114, 105, 102, 116]) else (bif (a1 == [112, 114, 111, 116, 101, 115, 116]) then some (a1 == [112, 114, 111, 116, 101, 115, 116]) else (bif (a1 == [102, 101, 101]) then some (a1 == [102, 101, 101]) else some (a1 == [100, 101, 97, 100, 108, 105, 110, 101])))))))))))))))))))) : Option Bool).bind fun b65 => (bif b65 then some true else some false))
theorem k_cc (n : Nat) (a1 : List UInt8) (r : Bool) (h : F_cc n a1 = some r) :
    C prog 135 [.str a1] [] (fun a H => a = .bool r ∧ H = []) := by
 refine C.of_body func135 Z Z Z ?_
 refine Rg (S Z (Nx (TC.seq (Rg (S Z (Nx (TC.block (TC.seq (Rg ?_)))))))))
 refine vX (.bool (a1 == [99, 111, 117, 114, 115, 101])) (OpV.strEq Z Z Z ) ?_
 refine S Z (Nx (Bd h fun b22 h23 h => ?_))
 refine TC.cut ([(3, .str a1), (4, .bool b22)]) ([]) ?_ (fun env H hle => ?_)
 ·
  refine Cn Z h23 (fun hc24 h23 => ?_) (fun hc24 h23 => ?_)
  ·
   refine TC.skip ?_
   obtain rfl := Oi h23
   exact cutN (Lr [])
  refine Rg ?_
  refine vX (.bool (a1 == [109, 97, 116, 115])) (OpV.strEq Z Z Z ) ?_
  refine S Z (Nx (Cn Z h23 (fun hc25 h23 => ?_) (fun hc25 h23 => ?_)))
  ·
   refine TC.skip ?_
   obtain rfl := Oi h23
   exact cutN (Lr [])
  refine Rg ?_
  refine vX (.bool (a1 == [115, 116, 97, 114, 116])) (OpV.strEq Z Z Z ) ?_
  refine S Z (Nx (Cn Z h23 (fun hc26 h23 => ?_) (fun hc26 h23 => ?_)))
  ·
   refine TC.skip ?_
   obtain rfl := Oi h23
   exact cutN (Lr [])
  refine Rg ?_
  refine vX (.bool (a1 == [112, 97, 115, 115])) (OpV.strEq Z Z Z ) ?_
  refine S Z (Nx (Cn Z h23 (fun hc27 h23 => ?_) (fun hc27 h23 => ?_)))
  ·
   refine TC.skip ?_
   obtain rfl := Oi h23
   exact cutN (Lr [])
  refine Rg ?_
  refine vX (.bool (a1 == [101, 110, 100])) (OpV.strEq Z Z Z ) ?_
  refine S Z (Nx (Cn Z h23 (fun hc28 h23 => ?_) (fun hc28 h23 => ?_)))
  ·
   refine TC.skip ?_
   obtain rfl := Oi h23
   exact cutN (Lr [])
  refine Rg ?_
  refine vX (.bool (a1 == [108, 101, 103])) (OpV.strEq Z Z Z ) ?_
  refine S Z (Nx (Cn Z h23 (fun hc29 h23 => ?_) (fun hc29 h23 => ?_)))
  ·
   refine TC.skip ?_
   obtain rfl := Oi h23
   exact cutN (Lr [])
  refine Rg ?_
  refine vX (.bool (a1 == [116, 111])) (OpV.strEq Z Z Z ) ?_
  refine S Z (Nx (Cn Z h23 (fun hc30 h23 => ?_) (fun hc30 h23 => ?_)))
  ·
   refine TC.skip ?_
   obtain rfl := Oi h23
   exact cutN (Lr [])
  refine Rg ?_
  refine vX (.bool (a1 == [100, 105, 115, 116, 97, 110, 99, 101])) (OpV.strEq Z Z Z ) ?_
  refine S Z (Nx (Cn Z h23 (fun hc31 h23 => ?_) (fun hc31 h23 => ?_)))
  ·
   refine TC.skip ?_
   obtain rfl := Oi h23
   exact cutN (Lr [])
  refine Rg ?_
  refine vX (.bool (a1 == [103, 117, 110])) (OpV.strEq Z Z Z ) ?_
  refine S Z (Nx (Cn Z h23 (fun hc32 h23 => ?_) (fun hc32 h23 => ?_)))
  ·
   refine TC.skip ?_
   obtain rfl := Oi h23
   exact cutN (Lr [])
  refine Rg ?_
  refine vX (.bool (a1 == [99, 104, 105, 112])) (OpV.strEq Z Z Z ) ?_
  refine S Z (Nx (Cn Z h23 (fun hc33 h23 => ?_) (fun hc33 h23 => ?_)))
  ·
   refine TC.skip ?_
   obtain rfl := Oi h23
   exact cutN (Lr [])
  refine Rg ?_
  refine vX (.bool (a1 == [115, 108, 111, 116])) (OpV.strEq Z Z Z ) ?_
  refine S Z (Nx (Cn Z h23 (fun hc34 h23 => ?_) (fun hc34 h23 => ?_)))
  ·
   refine TC.skip ?_
   obtain rfl := Oi h23
   exact cutN (Lr [])
  refine Rg ?_
  refine vX (.bool (a1 == [108, 97, 112, 115])) (OpV.strEq Z Z Z ) ?_
  refine S Z (Nx (Cn Z h23 (fun hc35 h23 => ?_) (fun hc35 h23 => ?_)))
  ·
   refine TC.skip ?_
   obtain rfl := Oi h23
   exact cutN (Lr [])
  refine Rg ?_
  refine vX (.bool (a1 == [108, 97, 112])) (OpV.strEq Z Z Z ) ?_
  refine S Z (Nx (Cn Z h23 (fun hc36 h23 => ?_) (fun hc36 h23 => ?_)))
  ·
   refine TC.skip ?_
   obtain rfl := Oi h23
   exact cutN (Lr [])
  refine Rg ?_
  refine vX (.bool (a1 == [99, 117, 116, 111, 102, 102])) (OpV.strEq Z Z Z ) ?_
  refine S Z (Nx (Cn Z h23 (fun hc37 h23 => ?_) (fun hc37 h23 => ?_)))
  ·
   refine TC.skip ?_
   obtain rfl := Oi h23
   exact cutN (Lr [])
  refine Rg ?_
  refine vX (.bool (a1 == [101, 120, 116, 114, 97])) (OpV.strEq Z Z Z ) ?_
  refine S Z (Nx (Cn Z h23 (fun hc38 h23 => ?_) (fun hc38 h23 => ?_)))
  ·
   refine TC.skip ?_
   obtain rfl := Oi h23
   exact cutN (Lr [])
  refine Rg ?_
  refine vX (.bool (a1 == [119, 97, 118, 101])) (OpV.strEq Z Z Z ) ?_
  refine S Z (Nx (Cn Z h23 (fun hc39 h23 => ?_) (fun hc39 h23 => ?_)))
  ·
   refine TC.skip ?_
   obtain rfl := Oi h23
   exact cutN (Lr [])
  refine Rg ?_
  refine vX (.bool (a1 == [111, 102, 102, 101, 110, 99, 101])) (OpV.strEq Z Z Z ) ?_
  refine S Z (Nx (Cn Z h23 (fun hc40 h23 => ?_) (fun hc40 h23 => ?_)))
  ·
   refine TC.skip ?_
   obtain rfl := Oi h23
   exact cutN (Lr [])
  refine Rg ?_
  refine vX (.bool (a1 == [111, 117, 116])) (OpV.strEq Z Z Z ) ?_
  refine S Z (Nx (Cn Z h23 (fun hc41 h23 => ?_) (fun hc41 h23 => ?_)))
  ·
   refine TC.skip ?_
   obtain rfl := Oi h23
   exact cutN (Lr [])
  refine Rg ?_
  refine vX (.bool (a1 == [99, 97, 116, 101, 103, 111, 114, 121])) (OpV.strEq Z Z Z ) ?_
  refine S Z (Nx (Cn Z h23 (fun hc42 h23 => ?_) (fun hc42 h23 => ?_)))
  ·
   refine TC.skip ?_
   obtain rfl := Oi h23
   exact cutN (Lr [])
  refine Rg ?_
  refine vX (.bool (a1 == [112, 114, 105, 122, 101])) (OpV.strEq Z Z Z ) ?_
  refine S Z (Nx (Cn Z h23 (fun hc43 h23 => ?_) (fun hc43 h23 => ?_)))
  ·
   refine TC.skip ?_
   obtain rfl := Oi h23
   exact cutN (Lr [])
  refine Rg ?_
  refine vX (.bool (a1 == [97, 108, 108])) (OpV.strEq Z Z Z ) ?_
  refine S Z (Nx (Cn Z h23 (fun hc44 h23 => ?_) (fun hc44 h23 => ?_)))
  ·
   refine TC.skip ?_
   obtain rfl := Oi h23
   exact cutN (Lr [])
  refine TC.region ?_
  refine vX (.bool (a1 == [116, 105, 101, 115])) (OpV.strEq Z Z Z ) ?_
  refine S Z (WO.nil ?_)
  obtain rfl := Oi h23
  exact cutN (Lr [])
 refine seqN (TC.le hle (Cn Z h (fun hc45 h => ?_) (fun hc45 h => ?_)))
 ·
  refine Rg (S Z (Nx (TC.ret (bloR (seqR ?_)))))
  obtain rfl := Oi h
  refine ⟨[(2, _)], _, _, ?_, ResOK.one Z Z, Z, Z⟩
  exact Lr []
 refine TC.seq (Rg ?_)
 refine vX (.bool (a1 == [105, 102])) (OpV.strEq Z Z Z ) ?_
 refine S Z (Nx (Bd h fun b65 h66 h => ?_))
 refine TC.cut ([(27, .bool b65)]) ([]) ?_ (fun env H hle => ?_)
 ·
  refine Cn Z h66 (fun hc67 h66 => ?_) (fun hc67 h66 => ?_)
  ·
   refine TC.skip ?_
   obtain rfl := Oi h66
   exact cutN (Lr [])
  refine Rg ?_
  refine vX (.bool (a1 == [101, 108, 115, 101])) (OpV.strEq Z Z Z ) ?_
  refine S Z (Nx (Cn Z h66 (fun hc68 h66 => ?_) (fun hc68 h66 => ?_)))
  ·
   refine TC.skip ?_
   obtain rfl := Oi h66
   exact cutN (Lr [])
  refine Rg ?_
  refine vX (.bool (a1 == [97, 110, 100])) (OpV.strEq Z Z Z ) ?_
  refine S Z (Nx (Cn Z h66 (fun hc69 h66 => ?_) (fun hc69 h66 => ?_)))
  ·
   refine TC.skip ?_
   obtain rfl := Oi h66
   exact cutN (Lr [])
  refine Rg ?_
  refine vX (.bool (a1 == [111, 114])) (OpV.strEq Z Z Z ) ?_
  refine S Z (Nx (Cn Z h66 (fun hc70 h66 => ?_) (fun hc70 h66 => ?_)))
  ·
   refine TC.skip ?_
   obtain rfl := Oi h66
   exact cutN (Lr [])
  refine Rg ?_
  refine vX (.bool (a1 == [110, 111, 116])) (OpV.strEq Z Z Z ) ?_
  refine S Z (Nx (Cn Z h66 (fun hc71 h66 => ?_) (fun hc71 h66 => ?_)))
  ·
   refine TC.skip ?_
   obtain rfl := Oi h66
   exact cutN (Lr [])
  refine Rg ?_
  refine vX (.bool (a1 == [111, 108, 100, 101, 114])) (OpV.strEq Z Z Z ) ?_
  refine S Z (Nx (Cn Z h66 (fun hc72 h66 => ?_) (fun hc72 h66 => ?_)))
  ·
   refine TC.skip ?_
   obtain rfl := Oi h66
   exact cutN (Lr [])
  refine Rg ?_
  refine vX (.bool (a1 == [121, 111, 117, 110, 103, 101, 114])) (OpV.strEq Z Z Z ) ?_
  refine S Z (Nx (Cn Z h66 (fun hc73 h66 => ?_) (fun hc73 h66 => ?_)))
  ·
   refine TC.skip ?_
   obtain rfl := Oi h66
   exact cutN (Lr [])
  refine Rg ?_
  refine vX (.bool (a1 == [98, 105, 98])) (OpV.strEq Z Z Z ) ?_
  refine S Z (Nx (Cn Z h66 (fun hc74 h66 => ?_) (fun hc74 h66 => ?_)))
  ·
   refine TC.skip ?_
   obtain rfl := Oi h66
   exact cutN (Lr [])
  refine Rg ?_
  refine vX (.bool (a1 == [100, 114, 97, 119])) (OpV.strEq Z Z Z ) ?_
  refine S Z (Nx (Cn Z h66 (fun hc75 h66 => ?_) (fun hc75 h66 => ?_)))
  ·
   refine TC.skip ?_
   obtain rfl := Oi h66
   exact cutN (Lr [])
  refine Rg ?_
  refine vX (.bool (a1 == [102, 105, 101, 108, 100])) (OpV.strEq Z Z Z ) ?_
  refine S Z (Nx (Cn Z h66 (fun hc76 h66 => ?_) (fun hc76 h66 => ?_)))
  ·
   refine TC.skip ?_
   obtain rfl := Oi h66
   exact cutN (Lr [])
  refine Rg ?_
  refine vX (.bool (a1 == [115, 104, 111, 114, 116])) (OpV.strEq Z Z Z ) ?_
  refine S Z (Nx (Cn Z h66 (fun hc77 h66 => ?_) (fun hc77 h66 => ?_)))
  ·
   refine TC.skip ?_
   obtain rfl := Oi h66
   exact cutN (Lr [])
  refine Rg ?_
  refine vX (.bool (a1 == [102, 97, 117, 108, 116, 115])) (OpV.strEq Z Z Z ) ?_
  refine S Z (Nx (Cn Z h66 (fun hc78 h66 => ?_) (fun hc78 h66 => ?_)))
  ·
   refine TC.skip ?_
   obtain rfl := Oi h66
   exact cutN (Lr [])
  refine Rg ?_
  refine vX (.bool (a1 == [109, 105, 115, 115, 101, 115])) (OpV.strEq Z Z Z ) ?_
  refine S Z (Nx (Cn Z h66 (fun hc79 h66 => ?_) (fun hc79 h66 => ?_)))
  ·
   refine TC.skip ?_
   obtain rfl := Oi h66
   exact cutN (Lr [])
  refine Rg ?_
  refine vX (.bool (a1 == [115, 116, 114, 97, 121, 115])) (OpV.strEq Z Z Z ) ?_
  refine S Z (Nx (Cn Z h66 (fun hc80 h66 => ?_) (fun hc80 h66 => ?_)))
  ·
   refine TC.skip ?_
   obtain rfl := Oi h66
   exact cutN (Lr [])
  refine Rg ?_
  refine vX (.bool (a1 == [119, 105, 110, 100, 111, 119])) (OpV.strEq Z Z Z ) ?_
  refine S Z (Nx (Cn Z h66 (fun hc81 h66 => ?_) (fun hc81 h66 => ?_)))
  ·
   refine TC.skip ?_
   obtain rfl := Oi h66
   exact cutN (Lr [])
  refine Rg ?_
  refine vX (.bool (a1 == [114, 101, 115, 105, 100, 117, 97, 108])) (OpV.strEq Z Z Z ) ?_
  refine S Z (Nx (Cn Z h66 (fun hc82 h66 => ?_) (fun hc82 h66 => ?_)))
  ·
   refine TC.skip ?_
   obtain rfl := Oi h66
   exact cutN (Lr [])
  refine Rg ?_
  refine vX (.bool (a1 == [100, 114, 105, 102, 116])) (OpV.strEq Z Z Z ) ?_
  refine S Z (Nx (Cn Z h66 (fun hc83 h66 => ?_) (fun hc83 h66 => ?_)))
  ·
   refine TC.skip ?_
   obtain rfl := Oi h66
   exact cutN (Lr [])
  refine Rg ?_
  refine vX (.bool (a1 == [112, 114, 111, 116, 101, 115, 116])) (OpV.strEq Z Z Z ) ?_
  refine S Z (Nx (Cn Z h66 (fun hc84 h66 => ?_) (fun hc84 h66 => ?_)))
  ·
   refine TC.skip ?_
   obtain rfl := Oi h66
   exact cutN (Lr [])
  refine Rg ?_
  refine vX (.bool (a1 == [102, 101, 101])) (OpV.strEq Z Z Z ) ?_
  refine S Z (Nx (Cn Z h66 (fun hc85 h66 => ?_) (fun hc85 h66 => ?_)))
  ·
   refine TC.skip ?_
   obtain rfl := Oi h66
   exact cutN (Lr [])
  refine TC.region ?_
  refine vX (.bool (a1 == [100, 101, 97, 100, 108, 105, 110, 101])) (OpV.strEq Z Z Z ) ?_
  refine S Z (WO.nil ?_)
  obtain rfl := Oi h66
  exact cutN (Lr [])
 refine seqN (TC.le hle (Cn Z h (fun hc86 h => ?_) (fun hc86 h => ?_)))
 ·
  refine Rg (S Z (Nx (TC.ret (bloR (seqR ?_)))))
  obtain rfl := Oi h
  refine ⟨[(2, _)], _, _, ?_, ResOK.one Z Z, Z, Z⟩
  exact Lr []
 refine TC.skip (bloN (seqN (Rg (S Z (Nx (TC.ret ?_))))))
 obtain rfl := Oi h
 refine ⟨[(2, _)], _, _, ?_, ResOK.one Z Z, Z, Z⟩
 exact Lr []
def F_gh (n : Nat) (a1 : List UInt8) (s90 : Int) : Option (Ctl Int (Ctl Unit Bool)) :=
  (bif decide (s90 < (a1.length : Int)) then ((idx a1 s90).bind fun x112 => (bif decide ((x112.toNat : Int) < 97) then (idx a1 s90).bind fun x114 => (bif decide ((x114.toNat : Int) < 48) then (idx a1 s90).bind fun x116 => some ((x116.toNat : Int) != 95) else (idx a1 s90).bind fun x117 => (bif decide (57 < (x117.toNat : Int)) then (idx a1 s90).bind fun x119 => some ((x119.toNat : Int) != 95) else some false)) else (idx a1 s90).bind fun x120 => (bif decide (122 < (x120.toNat : Int)) then (idx a1 s90).bind fun x122 => (bif decide ((x122.toNat : Int) < 48) then (idx a1 s90).bind fun x124 => some ((x124.toNat : Int) != 95) else (idx a1 s90).bind fun x125 => (bif decide (57 < (x125.toNat : Int)) then (idx a1 s90).bind fun x127 => some ((x127.toNat : Int) != 95) else some false)) else some false)) : Option Bool).bind fun b110 => (bif b110 then some (.done (.done false)) else some (.cont (IntKind.i64.wrap (s90 + 1)))) else some (.done (.cont ())))
def F_ae (n : Nat) (a1 : List UInt8) : Option Bool :=
  ((bif decide ((a1.length : Int) < 1) then some true else (bif decide (24 < (a1.length : Int)) then some true else (idx a1 0).bind fun x10 => (bif decide ((x10.toNat : Int) < 97) then some true else (idx a1 0).bind fun x12 => some (decide (122 < (x12.toNat : Int)))))) : Option Bool).bind fun b6 => (bif b6 then some false else (iter (F_gh n a1) n 1 : Option (Ctl Unit Bool)).bind fun b87 => match b87 with | .cont sb87 => ((F_cc n a1).bind fun r129 => some (!r129)) | .done sb87 => some sb87)
theorem k_ae (n : Nat) (a1 : List UInt8) (r : Bool) (h : F_ae n a1 = some r) :
    C prog 62 [.str a1] [] (fun a H => a = .bool r ∧ H = []) := by
 refine C.of_body func62 Z Z Z ?_
 refine Rg (S Z (Nx (TC.seq (TC.seq (Bd h fun b6 h7 h => ?_)))))
 refine TC.cut ([(0, .str a1), (21, .bool b6)]) ([]) ?_ (fun env H hle => ?_)
 ·
  refine TC.region (S Z ?_)
  refine vX (.int .i64 (a1.length : Int)) (OpV.lenStr Z Z runUnderlying9 Z) ?_
  refine S Z (S Z (If h7 (fun hg8 h7 => ?_) (fun hg8 h7 => ?_)))
  ·
   refine KF hg8 Z (KF hg8 Z (KF hg8 Z (Pk hg8 Z (S Z (KF Z Z (KF Z Z (KF Z Z (S Z (S Z (KF Z Z (KF Z Z (KF Z Z (S Z (WO.nil ?_))))))))))))))
   obtain rfl := Oi h7
   exact cutN (Lr [])
  ·
   refine Sg (gT hg8) Z ?_
   refine vX (.int .i64 (a1.length : Int)) (OpV.lenStr Z Z runUnderlying9 Z) ?_ (gT hg8)
   refine Sg (gT hg8) Z (Pk hg8 Z (S Z (If h7 (fun hg9 h7 => ?_) (fun hg9 h7 => ?_))))
   ·
    refine KF hg9 Z (KF hg9 Z (KF hg9 Z (Pk hg9 Z (S Z (KF Z Z (KF Z Z (KF Z Z (S Z (WO.nil ?_)))))))))
    obtain rfl := Oi h7
    exact cutN (Lr [])
   ·
    refine Sg (gT hg9) Z (Bd h7 fun x10 hx10 h7 => ?_)
    refine vX (.int .u8 (x10.toNat : Int)) (OpV.strIdx hx10 runUnderlying9) ?_ (gT hg9)
    refine Sg (gT hg9) Z (Pk hg9 Z (S Z (If h7 (fun hg11 h7 => ?_) (fun hg11 h7 => ?_))))
    ·
     refine KF hg11 Z (KF hg11 Z (KF hg11 Z (Pk hg11 Z (WO.nil ?_))))
     obtain rfl := Oi h7
     exact cutN (Lr [])
    ·
     refine Sg (gT hg11) Z (Bd h7 fun x12 hx12 h7 => ?_)
     refine vX (.int .u8 (x12.toNat : Int)) (OpV.strIdx hx12 runUnderlying9) ?_ (gT hg11)
     refine Sg (gT hg11) Z (Pk hg11 Z (WO.nil ?_))
     obtain rfl := Oi h7
     exact cutN (Lr [])
 refine seqN (TC.le hle (Cn Z h (fun hc13 h => ?_) (fun hc13 h => ?_)))
 ·
  refine Rg (S Z (Nx (RtR ?_)))
  obtain rfl := Oi h
  refine ⟨[(2, _)], _, _, ?_, ResOK.one Z Z, Z, Z⟩
  exact Lr []
 refine SkN (TC.seq (Rg (S Z (Nx (Bd h fun b87 h88 h => ?_)))))
 refine TC.cutE (b := b87) (fun sb87 => [(0, .str a1)]) (fun sb87 => []) ?_ (fun sb87 env H hbe hle => ?_)
 ·
  refine TC.block ?_
  refine TC.loop (E := fun s90 => [(0, .str a1), (3, .int .i64 s90)]) (Hp := fun s90 => []) h88 ?_ ?_
  ·
   exact Lr []
  intro s90 d91 h92 hb89
  refine TC.seq (Rg (S Z (S Z ?_)))
  refine vX (.int .i64 (a1.length : Int)) (OpV.lenStr Z Z runUnderlying9 Z) ?_
  refine S Z (Nx (CnS Z h92 (fun hc93 h92 => ?_) (fun hc93 h92 => ?_)))
  ·
   refine ExX (loopX h92 ?_)
   obtain rfl := hb89 _ (Oi h92).symm
   exact bloE (cutEN Z (Lr []))
  refine SkN (TC.seq (TC.block (TC.seq (Bd h92 fun b110 h111 h92 => ?_))))
  refine TC.cut ([(0, .str a1), (3, .int .i64 s90), (55, .bool b110)]) ([]) ?_ (fun env H hle => ?_)
  ·
   refine TC.region (S Z (S Z (Bd h111 fun x112 hx112 h111 => ?_)))
   refine vX (.int .u8 (x112.toNat : Int)) (OpV.strIdx hx112 runUnderlying9) ?_
   refine S Z (S Z (If h111 (fun hg113 h111 => ?_) (fun hg113 h111 => ?_)))
   ·
    refine KF hg113 Z (KF hg113 Z (KF hg113 Z (KF hg113 Z (Pk hg113 Z (S Z (Sg (gT Z) Z (Sg (gT Z) Z (Bd h111 fun x114 hx114 h111 => ?_))))))))
    refine vX (.int .u8 (x114.toNat : Int)) (OpV.strIdx hx114 runUnderlying9) ?_ (gT Z)
    refine Sg (gT Z) Z (Sg (gT Z) Z (If h111 (fun hg115 h111 => ?_) (fun hg115 h111 => ?_)))
    ·
     refine KF hg115 Z (KF hg115 Z (KF hg115 Z (KF hg115 Z (Pkg (gT Z) hg115 Z (S Z (S Z (Sg (gT Z) Z (Sg (gT Z) Z (Bd h111 fun x116 hx116 h111 => ?_)))))))))
     refine vX (.int .u8 (x116.toNat : Int)) (OpV.strIdx hx116 runUnderlying9) ?_ (gT Z)
     refine Sg (gT Z) Z (S Z (WO.nil ?_))
     obtain rfl := Oi h111
     exact cutN (Lr [])
    ·
     refine Sg (gT hg115) Z (Sg (gT hg115) Z (Bd h111 fun x117 hx117 h111 => ?_))
     refine vX (.int .u8 (x117.toNat : Int)) (OpV.strIdx hx117 runUnderlying9) ?_ (gT hg115)
     refine Sg (gT hg115) Z (Pkg (gT Z) hg115 Z (S Z (S Z (If h111 (fun hg118 h111 => ?_) (fun hg118 h111 => ?_)))))
     ·
      refine Sg (gT hg118) Z (Sg (gT hg118) Z (Bd h111 fun x119 hx119 h111 => ?_))
      refine vX (.int .u8 (x119.toNat : Int)) (OpV.strIdx hx119 runUnderlying9) ?_ (gT hg118)
      refine Sg (gT hg118) Z (Pk hg118 Z (WO.nil ?_))
      obtain rfl := Oi h111
      exact cutN (Lr [])
     ·
      refine KF hg118 Z (KF hg118 Z (KF hg118 Z (KF hg118 Z (Pk hg118 Z (WO.nil ?_)))))
      obtain rfl := Oi h111
      exact cutN (Lr [])
   ·
    refine Sg (gT hg113) Z (Sg (gT hg113) Z (Bd h111 fun x120 hx120 h111 => ?_))
    refine vX (.int .u8 (x120.toNat : Int)) (OpV.strIdx hx120 runUnderlying9) ?_ (gT hg113)
    refine Sg (gT hg113) Z (Pk hg113 Z (S Z (If h111 (fun hg121 h111 => ?_) (fun hg121 h111 => ?_))))
    ·
     refine Sg (gT hg121) Z (Sg (gT hg121) Z (Bd h111 fun x122 hx122 h111 => ?_))
     refine vX (.int .u8 (x122.toNat : Int)) (OpV.strIdx hx122 runUnderlying9) ?_ (gT hg121)
     refine Sg (gT hg121) Z (Sg (gT hg121) Z (If h111 (fun hg123 h111 => ?_) (fun hg123 h111 => ?_)))
     ·
      refine KF hg123 Z (KF hg123 Z (KF hg123 Z (KF hg123 Z (Pkg (gT hg121) hg123 Z (Pk hg121 Z (S Z (Sg (gT Z) Z (Sg (gT Z) Z (Bd h111 fun x124 hx124 h111 => ?_)))))))))
      refine vX (.int .u8 (x124.toNat : Int)) (OpV.strIdx hx124 runUnderlying9) ?_ (gT Z)
      refine Sg (gT Z) Z (S Z (WO.nil ?_))
      obtain rfl := Oi h111
      exact cutN (Lr [])
     ·
      refine Sg (gT hg123) Z (Sg (gT hg123) Z (Bd h111 fun x125 hx125 h111 => ?_))
      refine vX (.int .u8 (x125.toNat : Int)) (OpV.strIdx hx125 runUnderlying9) ?_ (gT hg123)
      refine Sg (gT hg123) Z (Pkg (gT hg121) hg123 Z (Pk hg121 Z (S Z (If h111 (fun hg126 h111 => ?_) (fun hg126 h111 => ?_)))))
      ·
       refine Sg (gT hg126) Z (Sg (gT hg126) Z (Bd h111 fun x127 hx127 h111 => ?_))
       refine vX (.int .u8 (x127.toNat : Int)) (OpV.strIdx hx127 runUnderlying9) ?_ (gT hg126)
       refine Sg (gT hg126) Z (Pk hg126 Z (WO.nil ?_))
       obtain rfl := Oi h111
       exact cutN (Lr [])
      ·
       refine KF hg126 Z (KF hg126 Z (KF hg126 Z (KF hg126 Z (Pk hg126 Z (WO.nil ?_)))))
       obtain rfl := Oi h111
       exact cutN (Lr [])
    ·
     refine KF hg121 Z (KF hg121 Z (KF hg121 Z (KF hg121 Z (KF hg121 Z (KU Z (KU Z (KU Z (KU Z (KF hg121 Z (Pk hg121 Z (S Z (KF Z Z (KF Z Z (KF Z Z (KF Z Z (S Z (WO.nil ?_)))))))))))))))))
     obtain rfl := Oi h111
     exact cutN (Lr [])
  refine seqN (TC.le hle (Cn Z h92 (fun hc128 h92 => ?_) (fun hc128 h92 => ?_)))
  ·
   refine Rg (S Z (Nx (TC.ret (bloR (seqR (loopR h92 ?_))))))
   obtain rfl := hb89 _ (Oi h92).symm
   refine bloR (cutER (seqR ?_))
   obtain rfl := Oi h
   refine ⟨[(2, _)], _, _, ?_, ResOK.one Z Z, Z, Z⟩
   exact Lr []
  exact TC.skip (bloN (seqN (TC.region (S Z (S Z (S Z (WO.nil (loopN h92 (Lr [])))))))))
 subst hbe
 refine seqN (TC.le hle (Rg (S Z (Bd h fun r129 hr129 h => ?_))))
 refine WO.callD [] (OpC.fn call135 Z Z Z) (k_cc _ _ _ hr129) ?_
 rintro _ _ ⟨rfl, rfl⟩
 refine aV (.bool r129) [] Z Z ?_
 refine S Z (S Z (Nx (TC.ret ?_)))
 obtain rfl := Oi h
 refine ⟨[(2, _)], _, _, ?_, ResOK.one Z Z, Z, Z⟩
 exact Lr []
def F_dw (n : Nat) (a1 : List (List UInt8)) (s39 : Int) (s58 : Int) : Option (Ctl Int (Ctl Unit (Ctl Int (Ctl Unit Bool)))) :=
  (bif decide (s58 < s39) then (idx a1 s58).bind fun x62 => (idx a1 s39).bind fun x63 => (bif (x62 == x63) then some (.done (.done (.done (.done false)))) else some (.cont (IntKind.i64.wrap (s58 + 1)))) else some (.done (.cont ())))
def F_gs (n : Nat) (a1 : List (List UInt8)) (s39 : Int) : Option (Ctl Int (Ctl Unit Bool)) :=
  (bif decide (s39 < (a1.length : Int)) then (idx a1 s39).bind fun x43 => (F_ae n x43).bind fun r44 => (bif (!r44) then some (.done (.done false)) else (iter (F_dw n a1 s39) n 0 : Option (Ctl Unit (Ctl Int (Ctl Unit Bool)))).bind fun b55 => match b55 with | .cont sb55 => (some (.cont (IntKind.i64.wrap (s39 + 1)))) | .done sb55 => some sb55) else some (.done (.cont ())))
def F_o (n : Nat) (a1 : List (List UInt8)) : Option Bool :=
  (iter (F_gs n a1) n 0 : Option (Ctl Unit Bool)).bind fun b36 => match b36 with | .cont sb36 => (some true) | .done sb36 => some sb36
theorem k_o (n : Nat) (a1 : List (List UInt8)) (r : Bool) (h : F_o n a1 = some r) :
    C prog 63 [.rsl 1 (List.map encS a1)] [] (fun a H => a = .bool r ∧ H = []) := by
 refine C.of_body func63 Z Z Z ?_
 refine Rg (S Z (Nx (TC.seq (Rg (S Z (Nx (Bd h fun b36 h37 h => ?_)))))))
 refine TC.cutE (b := b36) (fun sb36 => []) (fun sb36 => []) ?_ (fun sb36 env H hbe hle => ?_)
 ·
  refine TC.block ?_
  refine TC.loop (E := fun s39 => [(0, .rsl 1 (List.map encS a1)), (3, .int .i64 s39)]) (Hp := fun s39 => []) h37 ?_ ?_
  ·
   exact Lr []
  intro s39 d40 h41 hb38
  refine TC.seq (Rg (S Z (S Z (LnM runUnderlying105 Z (S Z (Nx (CnS Z h41 (fun hc42 h41 => ?_) (fun hc42 h41 => ?_))))))))
  ·
   refine ExX (loopX h41 ?_)
   obtain rfl := hb38 _ (Oi h41).symm
   exact bloE (cutEN Z (Lr []))
  refine SkN (TC.seq (TC.block (TC.seq (Rg (S Z (S Z (Bd h41 fun x43 hx43 h41 => Ix hx43 runUnderlying105 sizeOf9 Z (Ld isAgg9 Z (Bd h41 fun r44 hr44 h41 => ?_)))))))))
  refine WO.callD [] (OpC.fn call62 Z Z Z) (k_ae _ _ _ hr44) ?_
  rintro _ _ ⟨rfl, rfl⟩
  refine aV (.bool r44) [] Z Z ?_
  refine S Z (Nx (Cn Z h41 (fun hc45 h41 => ?_) (fun hc45 h41 => ?_)))
  ·
   refine Rg (S Z (Nx (RtR (bloR (seqR (loopR h41 ?_))))))
   obtain rfl := hb38 _ (Oi h41).symm
   refine bloR (cutER (seqR ?_))
   obtain rfl := Oi h
   refine ⟨[(2, _)], _, _, ?_, ResOK.one Z Z, Z, Z⟩
   exact Lr []
  refine SkN (Rg (S Z (Nx (Bd h41 fun b55 h56 h41 => ?_))))
  refine TC.cutE (b := b55) (fun sb55 => [(0, .rsl 1 (List.map encS a1)), (3, .int .i64 s39)]) (fun sb55 => []) ?_ (fun sb55 env H hbe hle => ?_)
  ·
   refine TC.block ?_
   refine TC.loop (E := fun s58 => [(0, .rsl 1 (List.map encS a1)), (3, .int .i64 s39), (4, .int .i64 s58)]) (Hp := fun s58 => []) h56 ?_ ?_
   ·
    exact Lr []
   intro s58 d59 h60 hb57
   refine TC.seq (Rg (S Z (S Z (S Z (Nx (CnS Z h60 (fun hc61 h60 => ?_) (fun hc61 h60 => ?_)))))))
   ·
    refine ExX (loopX h60 ?_)
    obtain rfl := hb57 _ (Oi h60).symm
    exact bloE (cutEN Z (Lr []))
   refine SkN (TC.seq (TC.block (TC.seq ?_)))
   obtain ⟨x62, hx62, h60⟩ := bnd h60
   obtain ⟨x63, hx63, h60⟩ := bnd h60
   refine TC.draw 8 0 [22, 23, 24, 25, 26, 27, 28, 29] [0, 0, 0, 0, 0, 0, 0, 0] [false, false, false, false, false, false, false, false] [.rsl 1 (List.map encS a1), .int .i64 s58, .rp [.str x62], .str x62, .rsl 1 (List.map encS a1), .int .i64 s39, .rp [.str x63], .str x63] [[]] ([]) draws Z Z Z Z Z Z Z Z ?_ ?_
   ·
    refine Ob.cons ?_ (Ob.cons ?_ (Ob.cons ?_ (Ob.cons ?_ (Ob.cons ?_ (Ob.cons ?_ (Ob.cons ?_ (Ob.cons ?_ (Ob.nil))))))))
    ·
      refine OB [(0, _)] 22 Z Z Z (Sb.old Z Z Sb.nil) ?_
      exact S Z Wp
    ·
      refine OB [(4, _)] 23 Z Z Z (Sb.old Z Z Sb.nil) ?_
      exact S Z Wp
    ·
      refine OB [(22, _), (23, _)] 24 Z Z Z (Sb.dep 0 Z Z Z (Sb.dep 1 Z Z Z Sb.nil)) ?_
      exact Ix hx62 runUnderlying105 sizeOf9 Z Wp
    ·
      refine OB [(24, _)] 25 Z Z Z (Sb.dep 2 Z Z Z Sb.nil) ?_
      exact Ld isAgg9 Z Wp
    ·
      refine OB [(0, _)] 26 Z Z Z (Sb.old Z Z Sb.nil) ?_
      exact S Z Wp
    ·
      refine OB [(3, _)] 27 Z Z Z (Sb.old Z Z Sb.nil) ?_
      exact S Z Wp
    ·
      refine OB [(26, _), (27, _)] 28 Z Z Z (Sb.dep 4 Z Z Z (Sb.dep 5 Z Z Z Sb.nil)) ?_
      exact Ix hx63 runUnderlying105 sizeOf9 Z Wp
    ·
      refine OB [(28, _)] 29 Z Z Z (Sb.dep 6 Z Z Z Sb.nil) ?_
      exact Ld isAgg9 Z Wp
   refine S Z (Nx (Cn Z h60 (fun hc64 h60 => ?_) (fun hc64 h60 => ?_)))
   ·
    refine Rg (S Z (Nx (TC.ret (bloR (seqR (loopR h60 ?_))))))
    obtain rfl := hb57 _ (Oi h60).symm
    refine bloR (cutER (bloR (seqR (loopR h41 ?_))))
    obtain rfl := hb38 _ (Oi h41).symm
    refine bloR (cutER (seqR ?_))
    obtain rfl := Oi h
    refine ⟨[(2, _)], _, _, ?_, ResOK.one Z Z, Z, Z⟩
    exact Lr []
   exact TC.skip (bloN (seqN (TC.region (S Z (S Z (S Z (WO.nil (loopN h60 (Lr [])))))))))
  subst hbe
  exact bloN (seqN (TC.le hle (TC.region (S Z (S Z (S Z (WO.nil (loopN h41 (Lr [])))))))))
 subst hbe
 refine seqN (TC.le hle (Rg (S Z (Nx (TC.ret ?_)))))
 obtain rfl := Oi h
 refine ⟨[(2, _)], _, _, ?_, ResOK.one Z Z, Z, Z⟩
 exact Lr []
end Go.Sw
