/- What the functions compute that CategoriesTables reaches, and that their calls refine it (part 1 of 4). -/
import Derived.Test.YtjikdlekkmifhaaGreatW29TaB
set_option linter.unusedVariables false
set_option linter.unusedSimpArgs false
set_option maxRecDepth 100000
namespace Go.Sw
open Go.Proofs Tryz
def F_i (n : Nat) : Option (List Distance) :=
  (mk 2 ({ Name := [], Route := [], Timing := 0, Cutoffs := [], Extra := 0 : Distance })).bind fun l1 => some l1
theorem k_i (n : Nat) (r : List Distance) (h : F_i n = some r) :
    C prog 22 [] [] (fun a H => a = .agg [.str [], .rsl 2 (List.map Mat.c []), .rsl 4 (List.map Leg.c []), .osl 0 0 r.length 5, .rsl 2 (List.map Wave.c []), .rsl 4 (List.map Offence.c []), .osl 1 0 ([{ Name := [106, 117, 110, 105, 111, 114], From := 16, To := 19 : Category }, { Name := [115, 101, 110, 105, 111, 114], From := 20, To := 39 : Category }].length) 3, .rsl 4 (List.map Prize.c []), .rsl 8 (List.map Step.enc []), .int .i64 0, .int .i64 0, .int .i64 0, .int .i64 0, .int .i64 0, .int .i64 0, .int .i64 0] ∧ H = [.row 62 5 (List.map Distance.c r), .row 52 3 (List.map Category.c [{ Name := [106, 117, 110, 105, 111, 114], From := 16, To := 19 : Category }, { Name := [115, 101, 110, 105, 111, 114], From := 20, To := 39 : Category }]), .cells 33 [.str [], .rsl 2 (List.map Mat.c []), .rsl 4 (List.map Leg.c []), .osl 0 0 r.length 5, .rsl 2 (List.map Wave.c []), .rsl 4 (List.map Offence.c []), .osl 1 0 ([{ Name := [106, 117, 110, 105, 111, 114], From := 16, To := 19 : Category }, { Name := [115, 101, 110, 105, 111, 114], From := 20, To := 39 : Category }].length) 3, .rsl 4 (List.map Prize.c []), .rsl 8 (List.map Step.enc []), .int .i64 0, .int .i64 0, .int .i64 0, .int .i64 0, .int .i64 0, .int .i64 0, .int .i64 0]]) := by
 refine C.of_body func22 Z Z Z ?_
 refine Rg ?_
 refine vH (OpH.allocZ (v := (.agg [.str [], .rsl 2 (List.map Mat.c []), .rsl 4 (List.map Leg.c []), .rsl 5 (List.map Distance.c []), .rsl 2 (List.map Wave.c []), .rsl 4 (List.map Offence.c []), .rsl 3 (List.map Category.c []), .rsl 4 (List.map Prize.c []), .rsl 8 (List.map Step.enc []), .int .i64 0, .int .i64 0, .int .i64 0, .int .i64 0, .int .i64 0, .int .i64 0, .int .i64 0])) zeroValue33 (ZR.agg (ZL.cons ZR.str (ZL.cons ZR.rsl (ZL.cons ZR.rsl (ZL.cons ZR.rsl (ZL.cons ZR.rsl (ZL.cons ZR.rsl (ZL.cons ZR.rsl (ZL.cons ZR.rsl (ZL.cons ZR.rsl (ZL.cons ZR.int (ZL.cons ZR.int (ZL.cons ZR.int (ZL.cons ZR.int (ZL.cons ZR.int (ZL.cons ZR.int (ZL.cons ZR.int ZL.nil)))))))))))))))))) ?_
 refine aV (.ptr 0 0) [.cells 33 [.str [], .rsl 2 (List.map Mat.c []), .rsl 4 (List.map Leg.c []), .rsl 5 (List.map Distance.c []), .rsl 2 (List.map Wave.c []), .rsl 4 (List.map Offence.c []), .rsl 3 (List.map Category.c []), .rsl 4 (List.map Prize.c []), .rsl 8 (List.map Step.enc []), .int .i64 0, .int .i64 0, .int .i64 0, .int .i64 0, .int .i64 0, .int .i64 0, .int .i64 0]] Z Z ?_
 refine Nx (Rg (Bd h fun l1 hl1 h => ?_))
 refine vH (OpH.mkS (e := Distance.c) (zv := ({ Name := [], Route := [], Timing := 0, Cutoffs := [], Extra := 0 : Distance })) (a := (.agg [.str [], .rsl 3 (List.map Part.enc []), .int .i64 0, .rsl 3 (List.map Cutoff.c []), .int .i64 0])) hl1 el_24 zeroValue62 (ZR.agg (ZL.cons ZR.str (ZL.cons ZR.rsl (ZL.cons ZR.int (ZL.cons ZR.rsl (ZL.cons ZR.int ZL.nil)))))) Z Z Z Z) ?_
 refine aV (.osl 1 0 l1.length 5) [_, .row 62 5 (List.map Distance.c l1)] Z Z ?_
 refine vX (.agg [.str [106, 117, 110, 105, 111, 114], .int .i64 16, .int .i64 19]) (OpV.build (zs := [.str [], .int .i64 0, .int .i64 0]) zeroValue52 (ZR.agg (ZL.cons ZR.str (ZL.cons ZR.int (ZL.cons ZR.int ZL.nil)))) pl_52) ?_
 refine vX (.agg [.str [115, 101, 110, 105, 111, 114], .int .i64 20, .int .i64 39]) (OpV.build (zs := [.str [], .int .i64 0, .int .i64 0]) zeroValue52 (ZR.agg (ZL.cons ZR.str (ZL.cons ZR.int (ZL.cons ZR.int ZL.nil)))) pl_52) ?_
 refine vH (OpH.lit (xs := [.tmp 2, .tmp 3]) (es := List.map Category.c [{ Name := [106, 117, 110, 105, 111, 114], From := 16, To := 19 : Category }, { Name := [115, 101, 110, 105, 111, 114], From := 20, To := 39 : Category }]) el_27 Z Z Z Z Z ⟨Z, Z, trivial⟩ Z Z) ?_
 refine aV (.osl 2 0 ([{ Name := [106, 117, 110, 105, 111, 114], From := 16, To := 19 : Category }, { Name := [115, 101, 110, 105, 111, 114], From := 20, To := 39 : Category }].length) 3) [_, _, .row 52 3 (List.map Category.c [{ Name := [106, 117, 110, 105, 111, 114], From := 16, To := 19 : Category }, { Name := [115, 101, 110, 105, 111, 114], From := 20, To := 39 : Category }])] Z Z ?_
 refine vX (.agg [.str [], .rsl 2 (List.map Mat.c []), .rsl 4 (List.map Leg.c []), .osl 1 0 l1.length 5, .rsl 2 (List.map Wave.c []), .rsl 4 (List.map Offence.c []), .osl 2 0 ([{ Name := [106, 117, 110, 105, 111, 114], From := 16, To := 19 : Category }, { Name := [115, 101, 110, 105, 111, 114], From := 20, To := 39 : Category }].length) 3, .rsl 4 (List.map Prize.c []), .rsl 8 (List.map Step.enc []), .int .i64 0, .int .i64 0, .int .i64 0, .int .i64 0, .int .i64 0, .int .i64 0, .int .i64 0]) (OpV.build (zs := [.str [], .rsl 2 (List.map Mat.c []), .rsl 4 (List.map Leg.c []), .rsl 5 (List.map Distance.c []), .rsl 2 (List.map Wave.c []), .rsl 4 (List.map Offence.c []), .rsl 3 (List.map Category.c []), .rsl 4 (List.map Prize.c []), .rsl 8 (List.map Step.enc []), .int .i64 0, .int .i64 0, .int .i64 0, .int .i64 0, .int .i64 0, .int .i64 0, .int .i64 0]) zeroValue33 (ZR.agg (ZL.cons ZR.str (ZL.cons ZR.rsl (ZL.cons ZR.rsl (ZL.cons ZR.rsl (ZL.cons ZR.rsl (ZL.cons ZR.rsl (ZL.cons ZR.rsl (ZL.cons ZR.rsl (ZL.cons ZR.rsl (ZL.cons ZR.int (ZL.cons ZR.int (ZL.cons ZR.int (ZL.cons ZR.int (ZL.cons ZR.int (ZL.cons ZR.int (ZL.cons ZR.int ZL.nil))))))))))))))))) pl_33) ?_
 refine vU (OpU.store Z Z Z sizeOf33 Z Z Z Z Z Z Z) ?_
 refine WO.atH (H := [.cells 33 [.str [], .rsl 2 (List.map Mat.c []), .rsl 4 (List.map Leg.c []), .osl 1 0 l1.length 5, .rsl 2 (List.map Wave.c []), .rsl 4 (List.map Offence.c []), .osl 2 0 ([{ Name := [106, 117, 110, 105, 111, 114], From := 16, To := 19 : Category }, { Name := [115, 101, 110, 105, 111, 114], From := 20, To := 39 : Category }].length) 3, .rsl 4 (List.map Prize.c []), .rsl 8 (List.map Step.enc []), .int .i64 0, .int .i64 0, .int .i64 0, .int .i64 0, .int .i64 0, .int .i64 0, .int .i64 0], _, _]) Z ?_
 refine Nx (TC.ret ?_)
 obtain rfl := Oi h
 refine ⟨[(0, .ptr 2 0)], [.row 62 5 (List.map Distance.c l1), .row 52 3 (List.map Category.c [{ Name := [106, 117, 110, 105, 111, 114], From := 16, To := 19 : Category }, { Name := [115, 101, 110, 105, 111, 114], From := 20, To := 39 : Category }]), .cells 33 [.str [], .rsl 2 (List.map Mat.c []), .rsl 4 (List.map Leg.c []), .osl 0 0 l1.length 5, .rsl 2 (List.map Wave.c []), .rsl 4 (List.map Offence.c []), .osl 1 0 ([{ Name := [106, 117, 110, 105, 111, 114], From := 16, To := 19 : Category }, { Name := [115, 101, 110, 105, 111, 114], From := 20, To := 39 : Category }].length) 3, .rsl 4 (List.map Prize.c []), .rsl 8 (List.map Step.enc []), .int .i64 0, .int .i64 0, .int .i64 0, .int .i64 0, .int .i64 0, .int .i64 0, .int .i64 0]], _, ?_, ResOK.single Z (ResAt.cellB isAgg33 sizeOf33 Z Z Z), Z, Z⟩
 exact Lr [1, 2, 0]
def F_w (n : Nat) (a1 : Course) (a2 : Int) : Option ((List UInt8) × Int) :=
  (bif (a2 == (-1)) then some ([], 0) else ((bif decide (a2 < 0) then some true else some (decide ((a1.Categories.length : Int) ≤ a2))) : Option Bool).bind fun b3 => (bif b3 then some ([], 290) else (idx a1.Categories a2).bind fun x7 => some (x7.Name, 0)))
theorem k_w (n : Nat) (a1 : Course) (a2 : Int) (r : (List UInt8) × Int) (h : F_w n a1 a2 = some r) :
    C prog 14 [.agg (Course.c a1), .int .i64 a2] [] (fun a H => a = .tup [.str r.1, .int .i64 r.2] ∧ H = []) := by
 refine C.of_body func14 Z Z Z ?_
 refine Rg ?_
 refine vH (OpH.box Z Z Z Z Z) ?_
 refine aV (.ptr 0 0) [.cells 33 (Course.c a1)] Z Z ?_
 refine vX (.str []) (OpV.assign Z Z ) ?_
 refine S Z (Nx (TC.seq (Rg (S Z (S Z (Nx (Cn Z h (fun hc1 h => ?_) (fun hc1 h => ?_))))))))
 ·
  refine Rg ?_
  refine vX (.str []) (OpV.assign Z Z ) ?_
  refine S Z (Nx (RtR ?_))
  obtain rfl := Oi h
  refine ⟨[(4, _), (5, _)], _, _, ?_, ResOK.two Z Z Z, Z, Z⟩
  exact Lr []
 refine SkN (TC.seq (TC.seq (Bd h fun b3 h4 h => ?_)))
 refine TC.cut ([(1, .int .i64 a2), (2, .ptr 0 0), (16, .bool b3)]) ([.cells 33 (Course.c a1)]) ?_ (fun env H hle => ?_)
 ·
  refine TC.region (S Z (S Z (S Z (If h4 (fun hg5 h4 => ?_) (fun hg5 h4 => ?_)))))
  ·
   refine KF hg5 Z (KF hg5 Z (KF hg5 Z (KF hg5 Z (KF hg5 Z (Pk hg5 Z (WO.nil ?_))))))
   obtain rfl := Oi h4
   exact cutN (Lr [0])
  ·
   refine Sg (gT hg5) Z (Fpg (gT hg5) fa_33_6 Z (Ldg (gT hg5) isAgg27 Z ?_))
   refine vX (.int .i64 (a1.Categories.length : Int)) (OpV.lenM (e := Category.c) (l := a1.Categories) runUnderlying27) ?_ (gT hg5)
   refine Sg (gT hg5) Z (Pk hg5 Z (WO.nil ?_))
   obtain rfl := Oi h4
   exact cutN (Lr [0])
 refine seqN (TC.le hle (Cn Z h (fun hc6 h => ?_) (fun hc6 h => ?_)))
 ·
  refine Rg ?_
  refine vX (.str []) (OpV.assign Z Z ) ?_
  refine S Z (Nx (RtR ?_))
  obtain rfl := Oi h
  refine ⟨[(4, _), (5, _)], _, _, ?_, ResOK.two Z Z Z, Z, Z⟩
  exact Lr []
 refine SkN (Rg (Fp fa_33_6 Z (Ld isAgg27 Z (S Z (Bd h fun x7 hx7 h => Ix hx7 runUnderlying27 sizeOf52 Z (Fr fa_52_0 Z (Ld isAgg9 Z (S Z (S Z (Nx (TC.ret ?_)))))))))))
 obtain rfl := Oi h
 refine ⟨[(4, _), (5, _)], _, _, ?_, ResOK.two Z Z Z, Z, Z⟩
 exact Lr []
def F_ej (n : Nat) (a1 : Course) (a2 : Starter) (s29 : (List Int) × Int) : Option (Ctl ((List Int) × Int) (List Int)) :=
  (bif decide (s29.2 < (a1.Categories.length : Int)) then (idx a1.Categories s29.2).bind fun x33 => ((bif decide (x33.From ≤ a2.Age) then some (decide (a2.Age ≤ x33.To)) else some false) : Option Bool).bind fun b35 => ((bif b35 then (app s29.1 [s29.2]).bind fun l43 => some l43 else some s29.1) : Option (List Int)).bind fun b40 => some (.cont (b40, IntKind.i64.wrap (s29.2 + 1))) else some (.done s29.1))
def F_u (n : Nat) (a1 : Course) (a2 : Starter) : Option (List Int) :=
  (iter (F_ej n a1 a2) n ([], 0) : Option (List Int)).bind fun b26 => some b26
theorem k_u (n : Nat) (a1 : Course) (a2 : Starter) (r : List Int) (h : F_u n a1 a2 = some r) :
    C prog 12 [.agg (Course.c a1), .agg (Starter.c a2)] [] (fun a H => a = .osl 0 0 r.length 1 ∧ H = [.row 3 1 (List.map (encI .i64) r)]) := by
 refine C.of_body func12 Z Z Z ?_
 refine Rg ?_
 refine vH (OpH.box Z Z Z Z Z) ?_
 refine aV (.ptr 0 0) [.cells 33 (Course.c a1)] Z Z ?_
 refine vH (OpH.box Z Z Z Z Z) ?_
 refine aV (.ptr 1 0) [_, .cells 42 (Starter.c a2)] Z Z ?_
 refine S Z (Nx (TC.seq (Rg (Fp fa_33_6 Z (Ld isAgg27 Z (LnM runUnderlying27 Z (S Z (Nx (Bd h fun b26 h27 h => ?_)))))))))
 refine TC.cut ([(4, .osl 0 0 b26.length 1)]) ([.row 3 1 (List.map (encI .i64) b26)]) ?_ (fun env H hle => ?_)
 ·
  refine TC.block ?_
  refine TC.loop (E := fun s29 => [(3, .ptr 0 0), (4, .osl 1 0 s29.1.length 1), (8, .rsl 3 (List.map Category.c a1.Categories)), (9, .int .i64 (a1.Categories.length : Int)), (10, .int .i64 s29.2)]) (Hp := fun s29 => [.cells 42 (Starter.c a2), .row 3 1 (List.map (encI .i64) s29.1)]) h27 ?_ ?_
  ·
   refine Le.trans (Le.phantom (s := 4) (k := 1) (t := 3) (Nat.le_of_ble_eq_true Z) Z) ?_
   exact Lr [1, 2]
  intro s29 d30 h31 hb28
  refine Rg (S Z (Nx (TC.seq (CnS Z h31 (fun hc32 h31 => ?_) (fun hc32 h31 => ?_)))))
  ·
   refine ExX (loopX h31 ?_)
   obtain rfl := hb28 _ (Oi h31).symm
   exact bloE (cutN (Lr [1]))
  refine SkN (TC.seq (TC.block (Rg (S Z (Bd h31 fun x33 hx33 h31 => Ix hx33 runUnderlying27 sizeOf52 Z ?_)))))
  refine vX (.agg (Category.c x33)) (OpV.loadA Z isAgg52 sizeOf52 Z Pts.rp Z Z) ?_
  refine vH (OpH.allocZ (v := (.agg [.str [], .int .i64 0, .int .i64 0])) zeroValue52 (ZR.agg (ZL.cons ZR.str (ZL.cons ZR.int (ZL.cons ZR.int ZL.nil))))) ?_
  refine aV (.ptr 2 0) [_, _, .cells 52 [.str [], .int .i64 0, .int .i64 0]] Z Z ?_
  refine S Z ?_
  refine vU (OpU.store Z Z Z sizeOf52 Z Z Z Z Z Z Z) ?_
  refine WO.atH (H := [_, _, .cells 52 (Category.c x33)]) Z ?_
  refine Nx (TC.seq (Bd h31 fun b35 h36 h31 => ?_))
  refine TC.cut ([(3, .ptr 0 0), (4, .osl 1 0 s29.1.length 1), (5, .int .i64 s29.2), (8, .rsl 3 (List.map Category.c a1.Categories)), (9, .int .i64 (a1.Categories.length : Int)), (10, .int .i64 s29.2), (26, .bool b35)]) ([.cells 42 (Starter.c a2), .row 3 1 (List.map (encI .i64) s29.1)]) ?_ (fun env H hle => ?_)
  ·
   refine TC.region (Fp fa_52_1 Z (Ld isAgg3 Z (Fp fa_42_4 Z (Ld isAgg3 Z (S Z (S Z (If h36 (fun hg37 h36 => ?_) (fun hg37 h36 => ?_))))))))
   ·
    refine Fpg (gT hg37) fa_42_4 Z (Ldg (gT hg37) isAgg3 Z (Fpg (gT hg37) fa_52_2 Z (Ldg (gT hg37) isAgg3 Z (Sg (gT hg37) Z (Pk hg37 Z (WO.nil ?_))))))
    obtain rfl := Oi h36
    exact cutN (Lr [0, 1])
   ·
    refine KF hg37 Z (KF hg37 Z (KF hg37 Z (KF hg37 Z (KF hg37 Z (Pk hg37 Z (WO.nil ?_))))))
    obtain rfl := Oi h36
    exact cutN (Lr [0, 1])
  refine seqN (TC.le hle (Bd h31 fun b40 h41 h31 => ?_))
  refine TC.cut ([(3, .ptr 0 0), (4, .osl 1 0 b40.length 1), (8, .rsl 3 (List.map Category.c a1.Categories)), (9, .int .i64 (a1.Categories.length : Int)), (10, .int .i64 s29.2)]) ([.cells 42 (Starter.c a2), .row 3 1 (List.map (encI .i64) b40)]) ?_ (fun env H hle => ?_)
  ·
   refine Cn Z h41 (fun hc42 h41 => ?_) (fun hc42 h41 => ?_)
   ·
    refine TC.region (S Z (S Z ?_))
    refine vH (OpH.lit (xs := [.tmp 28]) (es := List.map (encI .i64) [s29.2]) el_39 Z Z Z Z Z ⟨Z, trivial⟩ Z Z) ?_
    refine aV (.osl 2 0 ([s29.2].length) 1) [_, _, .row 3 1 (List.map (encI .i64) [s29.2])] Z Z ?_
    refine Bd h41 fun l43 hl43 h41 => ?_
    refine vH (OpH.appO (e := (encI .i64)) hl43 el_39 runUnderlying39 (Src.oM (i := 2))) ?_
    refine aV (.osl 3 0 l43.length 1) [_, .dead, _, .row 3 1 (List.map (encI .i64) l43)] Z Z ?_
    refine S Z (WO.nil ?_)
    obtain rfl := Oi h41
    exact cutN (Lr [0, 3])
   refine TC.skip ?_
   obtain rfl := Oi h41
   exact cutN (Lr [0, 1])
  exact bloN (seqN (TC.le hle (TC.region (S Z (S Z (WO.nil (loopN h31 (Lr [0, 1]))))))))
 refine seqN (TC.le hle (Rg (S Z (S Z (Nx (TC.ret ?_))))))
 obtain rfl := Oi h
 refine ⟨[(4, _)], _, _, ?_, ResOK.one Z Z, Z, Z⟩
 exact Lr [0]
def F_ak (n : Nat) (a1 : Int) : Option Unit :=
  some ()
theorem k_ak (n : Nat) (a1 : Int) (r : Unit) (h : F_ak n a1 = some r) :
    C prog 61 [.int .i64 a1] [] (fun a H => a = .bool (a1 != a1) ∧ H = []) := by
 refine C.of_body func61 Z Z Z ?_
 refine Rg (S Z (Nx (Rg (S Z (S Z (S Z (S Z (Nx (TC.ret ?_)))))))))
 obtain rfl := Oi h
 refine ⟨[(2, _)], _, _, ?_, ResOK.one Z Z, Z, Z⟩
 exact Lr []
def F_ac (n : Nat) (a1 : Int) (a2 : Int) : Option Int :=
  (F_ak n a1).bind fun r1 => (F_ak n a2).bind fun r2 => (bif (a1 != a1) then (bif (a2 != a2) then some 0 else some (-1)) else (bif (a2 != a2) then some 1 else (bif decide (a1 < a2) then some (-1) else (bif decide (a2 < a1) then some 1 else some 0))))
theorem k_ac (n : Nat) (a1 : Int) (a2 : Int) (r : Int) (h : F_ac n a1 a2 = some r) :
    C prog 36 [.int .i64 a1, .int .i64 a2] [] (fun a H => a = .int .i64 r ∧ H = []) := by
 refine C.of_body func36 Z Z Z ?_
 refine Rg (S Z (Nx (Rg (S Z (Bd h fun r1 hr1 h => ?_)))))
 refine WO.callD [] (OpC.fn call61 Z Z Z) (k_ak _ _ _ hr1) ?_
 rintro _ _ ⟨rfl, rfl⟩
 refine aV (.bool (a1 != a1)) [] Z Z ?_
 refine S Z (Nx (Rg (S Z (Bd h fun r2 hr2 h => ?_))))
 refine WO.callD [] (OpC.fn call61 Z Z Z) (k_ak _ _ _ hr2) ?_
 rintro _ _ ⟨rfl, rfl⟩
 refine aV (.bool (a2 != a2)) [] Z Z ?_
 refine S Z (Nx (TC.seq (Rg (S Z (Nx (Cn Z h (fun hc3 h => ?_) (fun hc3 h => ?_)))))))
 ·
  refine TC.seq (Rg (S Z (Nx (Cn Z h (fun hc4 h => ?_) (fun hc4 h => ?_)))))
  ·
   refine Rg (S Z (Nx (RtR (seqR ?_))))
   obtain rfl := Oi h
   refine ⟨[(4, _)], _, _, ?_, ResOK.one Z Z, Z, Z⟩
   exact Lr []
  refine SkN (Rg (S Z (Nx (RtR ?_))))
  obtain rfl := Oi h
  refine ⟨[(4, _)], _, _, ?_, ResOK.one Z Z, Z, Z⟩
  exact Lr []
 refine SkN (TC.seq (Rg (S Z (Nx (Cn Z h (fun hc5 h => ?_) (fun hc5 h => ?_))))))
 ·
  refine Rg (S Z (Nx (RtR ?_)))
  obtain rfl := Oi h
  refine ⟨[(4, _)], _, _, ?_, ResOK.one Z Z, Z, Z⟩
  exact Lr []
 refine SkN (TC.seq (Rg (S Z (S Z (S Z (Nx (Cn Z h (fun hc6 h => ?_) (fun hc6 h => ?_))))))))
 ·
  refine Rg (S Z (Nx (RtR ?_)))
  obtain rfl := Oi h
  refine ⟨[(4, _)], _, _, ?_, ResOK.one Z Z, Z, Z⟩
  exact Lr []
 refine SkN (TC.seq (Rg (S Z (S Z (S Z (Nx (Cn Z h (fun hc7 h => ?_) (fun hc7 h => ?_))))))))
 ·
  refine Rg (S Z (Nx (RtR ?_)))
  obtain rfl := Oi h
  refine ⟨[(4, _)], _, _, ?_, ResOK.one Z Z, Z, Z⟩
  exact Lr []
 refine SkN (Rg (S Z (Nx (TC.ret ?_))))
 obtain rfl := Oi h
 refine ⟨[(4, _)], _, _, ?_, ResOK.one Z Z, Z, Z⟩
 exact Lr []
def F_gz (n : Nat) (a1 : List Int) (s11 : Int) : Option (Ctl Int (Ctl Unit Int)) :=
  (bif decide (s11 < (a1.length : Int)) then (idx a1 s11).bind fun x15 => (bif (x15 != 0) then some (.done (.done x15)) else some (.cont (IntKind.i64.wrap (s11 + 1)))) else some (.done (.cont ())))
def F_ec (n : Nat) (a1 : List Int) : Option Int :=
  (iter (F_gz n a1) n 0 : Option (Ctl Unit Int)).bind fun b8 => match b8 with | .cont sb8 => (some 0) | .done sb8 => some sb8
theorem k_ec (n : Nat) (a1 : List Int) (r : Int) (h : F_ec n a1 = some r) :
    C prog 35 [.rsl 1 (List.map (encI .i64) a1)] [] (fun a H => a = .int .i64 r ∧ H = []) := by
 refine C.of_body func35 Z Z Z ?_
 refine Rg (S Z (Nx (Rg (S Z (Nx (TC.seq (Rg (S Z (LnM runUnderlying39 Z (S Z (Nx (Bd h fun b8 h9 h => ?_))))))))))))
 refine TC.cutE (b := b8) (fun sb8 => [(3, .int .i64 0)]) (fun sb8 => []) ?_ (fun sb8 env H hbe hle => ?_)
 ·
  refine TC.block ?_
  refine TC.loop (E := fun s11 => [(3, .int .i64 0), (6, .rsl 1 (List.map (encI .i64) a1)), (7, .int .i64 (a1.length : Int)), (8, .int .i64 s11)]) (Hp := fun s11 => []) h9 ?_ ?_
  ·
   exact Lr []
  intro s11 d12 h13 hb10
  refine Rg (S Z (Nx (TC.seq (CnS Z h13 (fun hc14 h13 => ?_) (fun hc14 h13 => ?_)))))
  ·
   refine ExX (loopX h13 ?_)
   obtain rfl := hb10 _ (Oi h13).symm
   exact bloE (cutEN Z (Lr []))
  refine SkN (TC.seq (TC.block (Rg (Bd h13 fun x15 hx15 h13 => Ix hx15 runUnderlying39 sizeOf3 Z (Ld isAgg3 Z (S Z (Nx (Rg (S Z (S Z (S Z (Nx (Cn Z h13 (fun hc16 h13 => ?_) (fun hc16 h13 => ?_))))))))))))))
  ·
   refine Rg (S Z (S Z (Nx (TC.ret (bloR (seqR (loopR h13 ?_)))))))
   obtain rfl := hb10 _ (Oi h13).symm
   refine bloR (cutER (seqR ?_))
   obtain rfl := Oi h
   refine ⟨[(2, _)], _, _, ?_, ResOK.one Z Z, Z, Z⟩
   exact Lr []
  exact TC.skip (bloN (seqN (TC.region (S Z (S Z (WO.nil (loopN h13 (Lr []))))))))
 subst hbe
 refine seqN (TC.le hle (Rg (S Z (S Z (Nx (TC.ret ?_))))))
 obtain rfl := Oi h
 refine ⟨[(2, _)], _, _, ?_, ResOK.one Z Z, Z, Z⟩
 exact Lr []
def F_ad (n : Nat) (a1 : categories_table) (a2 : categories_table) : Option Int :=
  (F_ac n a1.distance a2.distance).bind fun r1 => (F_ac n a1.category a2.category).bind fun r2 => (F_ec n [r1, r2]).bind fun r3 => some r3
theorem k_ad (n : Nat) (a1 : categories_table) (a2 : categories_table) (r : Int) (h : F_ad n a1 a2 = some r) :
    C prog 34 [.agg [.int .i64 a1.distance, .int .i64 a1.category], .agg [.int .i64 a2.distance, .int .i64 a2.category]] [] (fun a H => a = .int .i64 r ∧ H = []) := by
 refine C.of_body func34 Z Z Z ?_
 refine Rg ?_
 refine vH (OpH.box Z Z Z Z Z) ?_
 refine aV (.ptr 0 0) [.cells 76 [.int .i64 a1.distance, .int .i64 a1.category]] Z Z ?_
 refine vH (OpH.box Z Z Z Z Z) ?_
 refine aV (.ptr 1 0) [_, .cells 76 [.int .i64 a2.distance, .int .i64 a2.category]] Z Z ?_
 refine S Z (Nx (TC.seq ?_))
 obtain ⟨r1, hr1, h⟩ := bnd h
 refine TC.draw 9 0 [5, 6, 7, 8, 9, 10, 11, 12, 13] [0, 0, 0, 0, 0, 0, 0, 0, 0] [false, false, false, false, false, false, false, false, false] [.ptr 0 0, .int .i64 a1.distance, .ptr 1 0, .int .i64 a2.distance, .int .i64 r1, .ptr 0 1, .int .i64 a1.category, .ptr 1 1, .int .i64 a2.category] [[.cells 76 [.int .i64 a1.distance, .int .i64 a1.category], .cells 76 [.int .i64 a2.distance, .int .i64 a2.category]]] ([.cells 76 [.int .i64 a1.distance, .int .i64 a1.category], .cells 76 [.int .i64 a2.distance, .int .i64 a2.category]]) draws Z Z Z Z Z Z Z Z ?_ ?_
 ·
  refine Ob.cons ?_ (Ob.cons ?_ (Ob.cons ?_ (Ob.cons ?_ (Ob.cons ?_ (Ob.cons ?_ (Ob.cons ?_ (Ob.cons ?_ (Ob.cons ?_ (Ob.nil)))))))))
  ·
    refine OB [(2, _)] 5 Z Z Z (Sb.old Z Z Sb.nil) ?_
    exact Fp fa_76_0 Z Wp
  ·
    refine OB [(5, _)] 6 Z Z Z (Sb.dep 0 Z Z Z Sb.nil) ?_
    exact Ld isAgg3 Z Wp
  ·
    refine OB [(3, _)] 7 Z Z Z (Sb.old Z Z Sb.nil) ?_
    exact Fp fa_76_0 Z Wp
  ·
    refine OB [(7, _)] 8 Z Z Z (Sb.dep 2 Z Z Z Sb.nil) ?_
    exact Ld isAgg3 Z Wp
  ·
    refine OB [(6, _), (8, _)] 9 Z Z Z (Sb.dep 1 Z Z Z (Sb.dep 3 Z Z Z Sb.nil)) ?_
    refine WO.callD [] (OpC.fn call36 Z Z Z) (k_ac _ _ _ _ hr1) ?_
    rintro _ _ ⟨rfl, rfl⟩
    refine aV (.int .i64 r1) [_, _] Z Z ?_
    exact WO.nil Post1.mk
  ·
    refine OB [(2, _)] 10 Z Z Z (Sb.old Z Z Sb.nil) ?_
    exact Fp fa_76_1 Z Wp
  ·
    refine OB [(10, _)] 11 Z Z Z (Sb.dep 5 Z Z Z Sb.nil) ?_
    exact Ld isAgg3 Z Wp
  ·
    refine OB [(3, _)] 12 Z Z Z (Sb.old Z Z Sb.nil) ?_
    exact Fp fa_76_1 Z Wp
  ·
    refine OB [(12, _)] 13 Z Z Z (Sb.dep 7 Z Z Z Sb.nil) ?_
    exact Ld isAgg3 Z Wp
 refine Bd h fun r2 hr2 h => ?_
 refine WO.callD [] (OpC.fn call36 Z Z Z) (k_ac _ _ _ _ hr2) ?_
 rintro _ _ ⟨rfl, rfl⟩
 refine aV (.int .i64 r2) [_, _] Z Z ?_
 refine vH (OpH.litR (xs := [.tmp 9, .tmp 14]) (es := List.map (encI .i64) [r1, r2]) el_39 Z Z Z Z Z ⟨Z, Z, trivial⟩ Z Z) ?_
 refine aV (.rsl 1 (List.map (encI .i64) [r1, r2])) [_, _] Z Z ?_
 refine Bd h fun r3 hr3 h => ?_
 refine WO.callD [] (OpC.fn call35 Z Z Z) (k_ec _ _ _ hr3) ?_
 rintro _ _ ⟨rfl, rfl⟩
 refine aV (.int .i64 r3) [_, _] Z Z ?_
 refine S Z (Nx (TC.ret ?_))
 obtain rfl := Oi h
 refine ⟨[(4, _)], _, _, ?_, ResOK.one Z Z, Z, Z⟩
 exact Lr []
def F_gg (n : Nat) (x137 : Starter) (l144 : List Int) (s155 : (List (categories_table × Bool)) × Int) : Option (Ctl ((List (categories_table × Bool)) × Int) (List (categories_table × Bool))) :=
  (bif decide (s155.2 < (l144.length : Int)) then (idx l144 s155.2).bind fun x159 => (some (mset s155.1 ({ distance := x137.Distance, category := x159 : categories_table }) true)).bind fun m160 => some (.cont (m160, IntKind.i64.wrap (s155.2 + 1))) else some (.done s155.1))
def F_gp (n : Nat) (a1 : Course) (a2 : List Starter) (s107 : (List (categories_table × Bool)) × Int) : Option (Ctl ((List (categories_table × Bool)) × Int) (List (categories_table × Bool))) :=
  (bif decide (s107.2 < (a2.length : Int)) then ((idx a2 s107.2).bind fun x137 => ((bif decide (x137.Distance < 0) then some true else some (decide ((a1.Distances.length : Int) ≤ x137.Distance))) : Option Bool).bind fun b139 => (bif b139 then some s107.1 else (F_u n a1 x137).bind fun r143 => (app r143 [(-1)]).bind fun l144 => (iter (F_gg n x137 l144) n (s107.1, 0) : Option (List (categories_table × Bool))).bind fun b152 => some b152) : Option (List (categories_table × Bool))).bind fun b135 => some (.cont (b135, IntKind.i64.wrap (s107.2 + 1))) else some (.done s107.1))
def F_fv (n : Nat) (s184 : List categories_table) (e192 : categories_table × Bool) : Option (Ctl (List categories_table) (List categories_table)) :=
  (app s184 [{ distance := e192.1.distance, category := e192.1.category : categories_table }]).bind fun l198 => some (.cont l198)
def F_gu (n : Nat) (s184 : List categories_table) : Option (List categories_table) :=
  some s184
def F_gn (n : Nat) (l199 : List categories_table) (s212 : (List Int) × (List Int) × Int) : Option (Ctl ((List Int) × (List Int) × Int) ((List Int) × (List Int))) :=
  (bif decide (s212.2.2 < (l199.length : Int)) then (idx l199 s212.2.2).bind fun x216 => (app s212.1 [x216.distance]).bind fun l217 => (app s212.2.1 [x216.category]).bind fun l218 => some (.cont (l217, l218, IntKind.i64.wrap (s212.2.2 + 1))) else some (.done (s212.1, s212.2.1)))
def F_aa (n : Nat) (a1 : Course) (a2 : List Starter) : Option ((List Int) × (List Int)) :=
  (iter (F_gp n a1 a2) n ([], 0) : Option (List (categories_table × Bool))).bind fun b104 => anyP (fun p219 => (runP (F_fv n) (F_gu n) [] p219).bind fun b182 => (sortF (fun x y => F_ad n x y) b182).bind fun l199 => (iter (F_gn n l199) n ([], [], 0) : Option ((List Int) × (List Int))).bind fun b209 => some (b209.1, b209.2)) b104
theorem k_aa (n : Nat) (a1 : Course) (a2 : List Starter) (r : (List Int) × (List Int)) (h : F_aa n a1 a2 = some r) :
    C prog 18 [.agg (Course.c a1), .rsl 8 (List.map Starter.c a2)] [] (fun a H => a = .tup [.osl 0 0 r.1.length 1, .osl 1 0 r.2.length 1] ∧ H = [.row 3 1 (List.map (encI .i64) r.1), .row 3 1 (List.map (encI .i64) r.2)]) := by
 refine C.of_body func18 Z Z Z ?_
 refine Rg ?_
 refine vH (OpH.box Z Z Z Z Z) ?_
 refine aV (.ptr 0 0) [.cells 33 (Course.c a1)] Z Z ?_
 refine S Z (S Z (Nx (Rg ?_)))
 refine vH OpH.mkMap ?_
 refine aV (.map 1) [_, .map (menc (fun x => A.agg (categories_table.c x)) A.bool [])] Z Z ?_
 refine S Z (Nx (TC.seq (Rg (S Z (LnM runUnderlying34 Z (S Z (Nx (Bd h fun b104 h105 h => ?_))))))))
 refine TC.cut ([(4, .nils), (5, .nils), (6, .map 0)]) ([.map (menc (fun x => A.agg (categories_table.c x)) A.bool b104)]) ?_ (fun env H hle => ?_)
 ·
  refine TC.block ?_
  refine TC.loop (E := fun s107 => [(2, .ptr 0 0), (4, .nils), (5, .nils), (6, .map 1), (16, .rsl 8 (List.map Starter.c a2)), (17, .int .i64 (a2.length : Int)), (18, .int .i64 s107.2)]) (Hp := fun s107 => [.cells 33 (Course.c a1), .map (menc (fun x => A.agg (categories_table.c x)) A.bool s107.1)]) h105 ?_ ?_
  ·
   exact Lr [0, 1]
  intro s107 d108 h109 hb106
  refine Rg (S Z (Nx (TC.seq (CnS Z h109 (fun hc110 h109 => ?_) (fun hc110 h109 => ?_)))))
  ·
   refine ExX (loopX h109 ?_)
   obtain rfl := hb106 _ (Oi h109).symm
   exact bloE (cutN (Lr [1]))
  refine SkN (TC.seq (Bd h109 fun b135 h136 h109 => ?_))
  refine TC.cut ([(2, .ptr 0 0), (4, .nils), (5, .nils), (6, .map 1), (16, .rsl 8 (List.map Starter.c a2)), (17, .int .i64 (a2.length : Int)), (18, .int .i64 s107.2)]) ([.cells 33 (Course.c a1), .map (menc (fun x => A.agg (categories_table.c x)) A.bool b135)]) ?_ (fun env H hle => ?_)
  ·
   refine TC.block (Rg (Bd h136 fun x137 hx137 h136 => Ix hx137 runUnderlying34 sizeOf42 Z ?_))
   refine vX (.agg (Starter.c x137)) (OpV.loadA Z isAgg42 sizeOf42 Z Pts.rp Z Z) ?_
   refine vH (OpH.allocZ (v := (.agg [.int .i64 0, .int .i64 0, .int .i64 0, .int .i64 0, .int .i64 0, .int .i64 0, .int .i64 0, .int .i64 0])) zeroValue42 (ZR.agg (ZL.cons ZR.int (ZL.cons ZR.int (ZL.cons ZR.int (ZL.cons ZR.int (ZL.cons ZR.int (ZL.cons ZR.int (ZL.cons ZR.int (ZL.cons ZR.int ZL.nil)))))))))) ?_
   refine aV (.ptr 2 0) [_, _, .cells 42 [.int .i64 0, .int .i64 0, .int .i64 0, .int .i64 0, .int .i64 0, .int .i64 0, .int .i64 0, .int .i64 0]] Z Z ?_
   refine vU (OpU.store Z Z Z sizeOf42 Z Z Z Z Z Z Z) ?_
   refine WO.atH (H := [_, _, .cells 42 (Starter.c x137)]) Z ?_
   refine Nx (TC.seq (TC.seq (Bd h136 fun b139 h140 h136 => ?_)))
   refine TC.cut ([(2, .ptr 0 0), (4, .nils), (5, .nils), (6, .map 1), (8, .ptr 2 0), (16, .rsl 8 (List.map Starter.c a2)), (17, .int .i64 (a2.length : Int)), (18, .int .i64 s107.2), (32, .bool b139)]) ([.cells 33 (Course.c a1), .map (menc (fun x => A.agg (categories_table.c x)) A.bool s107.1), .cells 42 (Starter.c x137)]) ?_ (fun env H hle => ?_)
   ·
    refine TC.region (Fp fa_42_1 Z (Ld isAgg3 Z (S Z (S Z (If h140 (fun hg141 h140 => ?_) (fun hg141 h140 => ?_))))))
    ·
     refine KF hg141 Z (KF hg141 Z (KF hg141 Z (KF hg141 Z (KF hg141 Z (KF hg141 Z (Pk hg141 Z (WO.nil ?_)))))))
     obtain rfl := Oi h140
     exact cutN (Lr [0, 1, 2])
    ·
     refine Fpg (gT hg141) fa_42_1 Z (Ldg (gT hg141) isAgg3 Z (Fpg (gT hg141) fa_33_3 Z (Ldg (gT hg141) isAgg24 Z ?_)))
     refine vX (.int .i64 (a1.Distances.length : Int)) (OpV.lenM (e := Distance.c) (l := a1.Distances) runUnderlying24) ?_ (gT hg141)
     refine Sg (gT hg141) Z (Pk hg141 Z (WO.nil ?_))
     obtain rfl := Oi h140
     exact cutN (Lr [0, 1, 2])
   refine seqN (TC.le hle (Cn Z h136 (fun hc142 h136 => ?_) (fun hc142 h136 => ?_)))
   ·
    refine ExX (bloE ?_)
    obtain rfl := Oi h136
    exact cutN (Lr [0, 1])
   refine SkN (Rg ?_)
   refine vX (.agg (Course.c a1)) (OpV.loadA Z isAgg33 sizeOf33 Z (Pts.cells Z Z) Z Z) ?_
   refine vX (.agg (Starter.c x137)) (OpV.loadA Z isAgg42 sizeOf42 Z (Pts.cells Z Z) Z Z) ?_
   refine Bd h136 fun r143 hr143 h136 => ?_
   refine WO.callD [] (OpC.fn call12 Z Z Z) (k_u _ _ _ _ hr143) ?_
   rintro _ _ ⟨rfl, rfl⟩
   refine aV (.osl 3 0 r143.length 1) [_, _, _, .row 3 1 (List.map (encI .i64) r143)] Z Z ?_
   refine vH (OpH.lit (xs := [.const (.int .i64 (-1))]) (es := List.map (encI .i64) [(-1)]) el_39 Z Z Z Z Z ⟨Z, trivial⟩ Z Z) ?_
   refine aV (.osl 4 0 ([(-1)].length) 1) [_, _, _, _, .row 3 1 (List.map (encI .i64) [(-1)])] Z Z ?_
   refine Bd h136 fun l144 hl144 h136 => ?_
   refine vH (OpH.appO (e := (encI .i64)) hl144 el_39 runUnderlying39 (Src.oM (i := 4))) ?_
   refine aV (.osl 5 0 l144.length 1) [_, _, _, .dead, _, .row 3 1 (List.map (encI .i64) l144)] Z Z ?_
   refine LnO runUnderlying39 Z (S Z (Nx (Bd h136 fun b152 h153 h136 => ?_)))
   refine TC.cut ([(2, .ptr 0 0), (4, .nils), (5, .nils), (6, .map 1), (16, .rsl 8 (List.map Starter.c a2)), (17, .int .i64 (a2.length : Int)), (18, .int .i64 s107.2)]) ([.cells 33 (Course.c a1), .map (menc (fun x => A.agg (categories_table.c x)) A.bool b152)]) ?_ (fun env H hle => ?_)
   ·
    refine TC.block ?_
    refine TC.loop (E := fun s155 => [(2, .ptr 0 0), (4, .nils), (5, .nils), (6, .map 1), (8, .ptr 2 0), (16, .rsl 8 (List.map Starter.c a2)), (17, .int .i64 (a2.length : Int)), (18, .int .i64 s107.2), (37, .osl 3 0 l144.length 1), (38, .int .i64 (l144.length : Int)), (39, .int .i64 s155.2)]) (Hp := fun s155 => [.cells 33 (Course.c a1), .map (menc (fun x => A.agg (categories_table.c x)) A.bool s155.1), .cells 42 (Starter.c x137), .row 3 1 (List.map (encI .i64) l144)]) h153 ?_ ?_
    ·
     exact Lr [0, 1, 2, 5]
    intro s155 d156 h157 hb154
    refine Rg (S Z (Nx (TC.seq (CnS Z h157 (fun hc158 h157 => ?_) (fun hc158 h157 => ?_)))))
    ·
     refine ExX (loopX h157 ?_)
     obtain rfl := hb154 _ (Oi h157).symm
     exact bloE (cutN (Lr [0, 1]))
    refine SkN (TC.seq (TC.block (Rg (Bd h157 fun x159 hx159 h157 => ?_))))
    refine vX (.ptr 3 (Int.toNat s155.2 * 1)) (OpV.ixW hx159 Z runUnderlying39 sizeOf3) ?_
    refine vX (.int .i64 x159) (OpV.load Z isAgg3 Z (Pts.ofRow0 hx159)) ?_
    refine S Z (Nx (TC.region (S Z (Fp fa_42_1 Z (Ld isAgg3 Z (S Z ?_))))))
    refine vX (.agg [.int .i64 x137.Distance, .int .i64 x159]) (OpV.build (zs := [.int .i64 0, .int .i64 0]) zeroValue76 (ZR.agg (ZL.cons ZR.int (ZL.cons ZR.int ZL.nil))) pl_76) ?_
    refine Bd h157 fun m160 hm160 h157 => ?_
    refine vU (OpU.mput (ev := A.bool) (k := ({ distance := x137.Distance, category := x159 : categories_table })) (v := true) (l := s155.1) key_76 hm160 Z underlying74) ?_
    refine WO.atH (H := [_, .map (menc (fun x => A.agg (categories_table.c x)) A.bool m160), _, _]) Z ?_
    exact WO.nil (bloN (seqN (TC.region (S Z (S Z (WO.nil (loopN h157 (Lr [0, 1, 2, 3]))))))))
   refine bloN ?_
   obtain rfl := Oi h136
   exact cutN (Le.trans hle (Lr [0, 1]))
  exact seqN (TC.le hle (TC.region (S Z (S Z (WO.nil (loopN h109 (Lr [0, 1])))))))
 refine seqN (TC.le hle (Rg (S Z (Nx (TC.seq (Rg (S Z ?_)))))))
 refine vH (OpH.range underlying74) ?_
 refine aV (.ptr 1 0) [.dead, .iter none (List.map (fun p => ((fun x => A.agg (categories_table.c x)) p.1, A.bool p.2)) b104)] Z Z ?_
 refine Nx ?_
 have h185 := anyP_ok h
 have h186 : AllP _ _ _ _ _ := fun p hp => bnd (h185 p hp)
 refine TC.cutG h186 (fun b182 => [(4, .nils), (5, .nils), (11, .osl 0 0 b182.length 2)]) (fun b182 => [.row 76 2 (List.map categories_table.c b182)]) ?_ (fun b182 env H h183 hle => ?_)
 ·
  refine TC.block ?_
  refine TC.loopP (enc := (fun p => ((fun x => A.agg (categories_table.c x)) p.1, A.bool p.2))) (fun s184 => [(4, .nils), (5, .nils), (11, .osl 0 0 s184.length 2), (51, .ptr 1 0)]) (fun s184 l187 => [.row 76 2 (List.map categories_table.c s184), .iter none l187]) h186 ?_ ?_
  ·
   refine Le.trans (Le.phantom (s := 11) (k := 2) (t := 76) (Nat.le_of_ble_eq_true Z) Z) ?_
   exact Lr [2, 1]
  intro s184 l187 h188
  refine Rg ?_
  refine WO.nextP (enc := (fun p => ((fun x => A.agg (categories_table.c x)) p.1, A.bool p.2))) h188 (fun b189 h190 h191 => ?_) (fun e192 l193 D194 h195 h196 h197 => ?_)
  ·
   refine S Z (Nx (TC.seq (CnF Z Z (ExX (mloopX ?_)))))
   obtain rfl := Oi h190
   exact bloE (cutGN h191 (Lr [0]))
  refine aV (.tup [.bool true, .agg [.int .i64 e192.1.distance, .int .i64 e192.1.category], .bool e192.2]) [.row 76 2 (List.map categories_table.c s184), .iter (some (.agg [.int .i64 e192.1.distance, .int .i64 e192.1.category], .bool e192.2)) (List.map (fun p => ((fun x => A.agg (categories_table.c x)) p.1, A.bool p.2)) l193)] Z Z ?_
  refine S Z (Nx (TC.seq (CnT Z Z (SkN (TC.block (Rg ?_))))))
  refine vX (.tup [.agg [.int .i64 e192.1.distance, .int .i64 e192.1.category], .bool e192.2]) (OpV.entry (e := (.agg [.int .i64 e192.1.distance, .int .i64 e192.1.category], .bool e192.2))) ?_
  refine S Z ?_
  refine vH (OpH.allocZ (v := (.agg [.int .i64 0, .int .i64 0])) zeroValue76 (ZR.agg (ZL.cons ZR.int (ZL.cons ZR.int ZL.nil)))) ?_
  refine aV (.ptr 2 0) [_, _, .cells 76 [.int .i64 0, .int .i64 0]] Z Z ?_
  refine vU (OpU.store Z Z Z sizeOf76 Z Z Z Z Z Z Z) ?_
  refine WO.atH (H := [_, _, .cells 76 [.int .i64 e192.1.distance, .int .i64 e192.1.category]]) Z ?_
  refine Nx (TC.region (S Z ?_))
  refine vX (.agg [.int .i64 e192.1.distance, .int .i64 e192.1.category]) (OpV.loadA Z isAgg76 sizeOf76 Z (Pts.cells Z Z) Z Z) ?_
  refine vH (OpH.lit (xs := [.tmp 57]) (es := List.map categories_table.c [{ distance := e192.1.distance, category := e192.1.category : categories_table }]) el_77 Z Z Z Z Z ⟨Z, trivial⟩ Z Z) ?_
  refine aV (.osl 3 0 ([{ distance := e192.1.distance, category := e192.1.category : categories_table }].length) 2) [_, _, _, .row 76 2 (List.map categories_table.c [{ distance := e192.1.distance, category := e192.1.category : categories_table }])] Z Z ?_
  refine Bd h195 fun l198 hl198 h195 => ?_
  refine vH (OpH.appO (e := categories_table.c) hl198 el_77 runUnderlying77 (Src.oM (i := 3))) ?_
  refine aV (.osl 4 0 l198.length 2) [.dead, _, _, _, .row 76 2 (List.map categories_table.c l198)] Z Z ?_
  refine S Z (WO.nil (bloN (mloopN _ _ h195 h197 ?_)))
  refine Le.trans (Le.forget (i := 1) (H' := [.dead, .iter none (List.map (fun p => ((fun x => A.agg (categories_table.c x)) p.1, A.bool p.2)) l193), .cells 76 [.int .i64 e192.1.distance, .int .i64 e192.1.category], .row 76 2 (List.map categories_table.c [{ distance := e192.1.distance, category := e192.1.category : categories_table }]), .row 76 2 (List.map categories_table.c l198)]) Z Z) ?_
  exact Lr [4, 1]
 refine seqN (TC.le hle (Rg (S Z (Bd h183 fun l199 hl199 h183 => ?_))))
 refine WO.callD [0] (OpC.fn call33 Z Z Z) (C.sortK (enc := categories_table.c) lay_sortK_33 hl199 (fun x y c h => k_ad n x y c h) isAgg76 sizeOf76 call34 (fun _ => rfl) Z) ?_
 rintro _ _ ⟨rfl, rfl⟩
 refine WO.atV (x := .tup []) (H := [.row 76 2 (List.map categories_table.c l199)]) Z Z ?_
 refine WO.le (Le.ov1 (s := 11) Z (congrArg (fun n => A.osl 0 0 n 2) (sortF_len hl199))) ?_
 refine WO.le (Le.ov1 (s := 60) Z (congrArg (fun n => A.osl 0 0 n 2) (sortF_len hl199))) ?_
 refine Nx (TC.seq (Rg (S Z (LnO runUnderlying77 Z (S Z (Nx (Bd h183 fun b209 h210 h183 => ?_)))))))
 refine TC.cut ([(4, .osl 0 0 b209.1.length 1), (5, .osl 1 0 b209.2.length 1)]) ([.row 3 1 (List.map (encI .i64) b209.1), .row 3 1 (List.map (encI .i64) b209.2)]) ?_ (fun env H hle => ?_)
 ·
  refine TC.block ?_
  refine TC.loop (E := fun s212 => [(4, .osl 0 0 s212.1.length 1), (5, .osl 1 0 s212.2.1.length 1), (62, .osl 2 0 l199.length 2), (63, .int .i64 (l199.length : Int)), (64, .int .i64 s212.2.2)]) (Hp := fun s212 => [.row 3 1 (List.map (encI .i64) s212.1), .row 3 1 (List.map (encI .i64) s212.2.1), .row 76 2 (List.map categories_table.c l199)]) h210 ?_ ?_
  ·
   refine Le.trans (Le.phantom (s := 4) (k := 1) (t := 3) (Nat.le_of_ble_eq_true Z) Z) ?_
   refine Le.trans (Le.phantom (s := 5) (k := 1) (t := 3) (Nat.le_of_ble_eq_true Z) Z) ?_
   exact Lr [1, 2, 0]
  intro s212 d213 h214 hb211
  refine Rg (S Z (Nx (TC.seq (CnS Z h214 (fun hc215 h214 => ?_) (fun hc215 h214 => ?_)))))
  ·
   refine ExX (loopX h214 ?_)
   obtain rfl := hb211 _ (Oi h214).symm
   exact bloE (cutN (Lr [0, 1]))
  refine SkN (TC.seq (TC.block (Rg (Bd h214 fun x216 hx216 h214 => ?_))))
  refine vX (.ptr 2 (Int.toNat s212.2.2 * 2)) (OpV.ixW hx216 Z runUnderlying77 sizeOf76) ?_
  refine vX (.agg [.int .i64 x216.distance, .int .i64 x216.category]) (OpV.loadA Z isAgg76 sizeOf76 Z (Pts.ofRow0 hx216) Z Z) ?_
  refine vH (OpH.allocZ (v := (.agg [.int .i64 0, .int .i64 0])) zeroValue76 (ZR.agg (ZL.cons ZR.int (ZL.cons ZR.int ZL.nil)))) ?_
  refine aV (.ptr 3 0) [_, _, _, .cells 76 [.int .i64 0, .int .i64 0]] Z Z ?_
  refine vU (OpU.store Z Z Z sizeOf76 Z Z Z Z Z Z Z) ?_
  refine WO.atH (H := [_, _, _, .cells 76 [.int .i64 x216.distance, .int .i64 x216.category]]) Z ?_
  refine Nx ?_
  obtain ⟨l217, hl217, h214⟩ := bnd h214
  refine TC.draw 9 1 [68, 69, 70, 71, 72, 73, 74, 75, 76] [0, 0, 0, 0, 0, 0, 0, 0, 0] [false, false, false, false, true, false, false, false, false] [.osl 0 0 s212.1.length 1, .ptr 3 0, .int .i64 x216.distance, .rsl 1 (List.map (encI .i64) [x216.distance]), .osl 4 0 l217.length 1, .osl 1 0 s212.2.1.length 1, .ptr 3 1, .int .i64 x216.category, .rsl 1 (List.map (encI .i64) [x216.category])] [[.row 3 1 (List.map (encI .i64) s212.1), .row 3 1 (List.map (encI .i64) s212.2.1), .row 76 2 (List.map categories_table.c l199), .cells 76 [.int .i64 x216.distance, .int .i64 x216.category]], [.dead, .row 3 1 (List.map (encI .i64) s212.2.1), .row 76 2 (List.map categories_table.c l199), .cells 76 [.int .i64 x216.distance, .int .i64 x216.category], .row 3 1 (List.map (encI .i64) l217)]] ([.dead, .row 3 1 (List.map (encI .i64) s212.2.1), .row 76 2 (List.map categories_table.c l199), .cells 76 [.int .i64 x216.distance, .int .i64 x216.category], .row 3 1 (List.map (encI .i64) l217)]) draws Z Z Z Z Z Z Z Z ?_ ?_
  ·
   refine Ob.cons ?_ (Ob.cons ?_ (Ob.cons ?_ (Ob.cons ?_ (Ob.cons ?_ (Ob.cons ?_ (Ob.cons ?_ (Ob.cons ?_ (Ob.cons ?_ (Ob.nil)))))))))
   ·
    refine Ob.stC ?_ (Ob.stC ?_ (Ob.st0))
    ·
     refine OblAt.mk _ [(4, _)] 68 _ Z Z Z (Sb.old Z Z Sb.nil) ?_
     exact S Z Wp
    ·
     refine OblAt.mk _ [(4, _)] 68 _ Z Z Z (Sb.old Z Z Sb.nil) ?_
     exact S Z Wp
   ·
    refine Ob.stC ?_ (Ob.stC ?_ (Ob.st0))
    ·
     refine OblAt.mk _ [(14, _)] 69 _ Z Z Z (Sb.old Z Z Sb.nil) ?_
     exact Fp fa_76_0 Z Wp
    ·
     refine OblAt.mk _ [(14, _)] 69 _ Z Z Z (Sb.old Z Z Sb.nil) ?_
     exact Fp fa_76_0 Z Wp
   ·
    refine Ob.stC ?_ (Ob.stC ?_ (Ob.st0))
    ·
     refine OblAt.mk _ [(69, _)] 70 _ Z Z Z (Sb.dep 1 Z Z Z Sb.nil) ?_
     exact Ld isAgg3 Z Wp
    ·
     refine OblAt.mk _ [(69, _)] 70 _ Z Z Z (Sb.dep 1 Z Z Z Sb.nil) ?_
     exact Ld isAgg3 Z Wp
   ·
    refine Ob.stC ?_ (Ob.stC ?_ (Ob.st0))
    ·
     refine OblAt.mk _ [(70, _)] 71 _ Z Z Z (Sb.dep 2 Z Z Z Sb.nil) ?_
     refine vH (OpH.litR (xs := [.tmp 70]) (es := List.map (encI .i64) [x216.distance]) el_39 Z Z Z Z Z ⟨Z, trivial⟩ Z Z) ?_
     refine aV (.rsl 1 (List.map (encI .i64) [x216.distance])) [_, _, _, _] Z Z ?_
     exact WO.nil Post1.mk
    ·
     refine OblAt.mk _ [(70, _)] 71 _ Z Z Z (Sb.dep 2 Z Z Z Sb.nil) ?_
     refine vH (OpH.litR (xs := [.tmp 70]) (es := List.map (encI .i64) [x216.distance]) el_39 Z Z Z Z Z ⟨Z, trivial⟩ Z Z) ?_
     refine aV (.rsl 1 (List.map (encI .i64) [x216.distance])) [_, _, _, _, _] Z Z ?_
     exact WO.nil Post1.mk
   ·
     refine OB [(68, _), (71, _)] 72 Z Z Z (Sb.dep 0 Z Z Z (Sb.dep 3 Z Z Z Sb.nil)) ?_
     refine vH (OpH.appO (e := (encI .i64)) hl217 el_39 runUnderlying39 Src.rM) ?_
     refine aV (.osl 4 0 l217.length 1) [.dead, _, _, _, .row 3 1 (List.map (encI .i64) l217)] Z Z ?_
     exact WO.nil Post1.mk
   ·
    refine Ob.stC ?_ (Ob.stC ?_ (Ob.st0))
    ·
     refine OblAt.mk _ [(5, _)] 73 _ Z Z Z (Sb.old Z Z Sb.nil) ?_
     exact S Z Wp
    ·
     refine OblAt.mk _ [(5, _)] 73 _ Z Z Z (Sb.old Z Z Sb.nil) ?_
     exact S Z Wp
   ·
    refine Ob.stC ?_ (Ob.stC ?_ (Ob.st0))
    ·
     refine OblAt.mk _ [(14, _)] 74 _ Z Z Z (Sb.old Z Z Sb.nil) ?_
     exact Fp fa_76_1 Z Wp
    ·
     refine OblAt.mk _ [(14, _)] 74 _ Z Z Z (Sb.old Z Z Sb.nil) ?_
     exact Fp fa_76_1 Z Wp
   ·
    refine Ob.stC ?_ (Ob.stC ?_ (Ob.st0))
    ·
     refine OblAt.mk _ [(74, _)] 75 _ Z Z Z (Sb.dep 6 Z Z Z Sb.nil) ?_
     exact Ld isAgg3 Z Wp
    ·
     refine OblAt.mk _ [(74, _)] 75 _ Z Z Z (Sb.dep 6 Z Z Z Sb.nil) ?_
     exact Ld isAgg3 Z Wp
   ·
    refine Ob.stC ?_ (Ob.stC ?_ (Ob.st0))
    ·
     refine OblAt.mk _ [(75, _)] 76 _ Z Z Z (Sb.dep 7 Z Z Z Sb.nil) ?_
     refine vH (OpH.litR (xs := [.tmp 75]) (es := List.map (encI .i64) [x216.category]) el_39 Z Z Z Z Z ⟨Z, trivial⟩ Z Z) ?_
     refine aV (.rsl 1 (List.map (encI .i64) [x216.category])) [_, _, _, _] Z Z ?_
     exact WO.nil Post1.mk
    ·
     refine OblAt.mk _ [(75, _)] 76 _ Z Z Z (Sb.dep 7 Z Z Z Sb.nil) ?_
     refine vH (OpH.litR (xs := [.tmp 75]) (es := List.map (encI .i64) [x216.category]) el_39 Z Z Z Z Z ⟨Z, trivial⟩ Z Z) ?_
     refine aV (.rsl 1 (List.map (encI .i64) [x216.category])) [_, _, _, _, _] Z Z ?_
     exact WO.nil Post1.mk
  refine Bd h214 fun l218 hl218 h214 => ?_
  refine vH (OpH.appO (e := (encI .i64)) hl218 el_39 runUnderlying39 Src.rM) ?_
  refine aV (.osl 5 0 l218.length 1) [_, .dead, _, _, _, .row 3 1 (List.map (encI .i64) l218)] Z Z ?_
  exact S Z (S Z (WO.nil (bloN (seqN (TC.region (S Z (S Z (WO.nil (loopN h214 (Lr [4, 5, 2]))))))))))
 refine seqN (TC.le hle (Rg (S Z (S Z (S Z (S Z (Nx (TC.ret ?_))))))))
 obtain rfl := Oi h183
 refine ⟨[(4, _), (5, _)], _, _, ?_, ResOK.two Z Z Z, Z, Z⟩
 exact Lr [0, 1]
def F_eh (n : Nat) (a1 : List Part) (a2 : Int) (rec14 : (List Part) → Int → Option (Int × Int)) (s47 : Int × Int × Int) : Option (Ctl (Int × Int × Int) (Int × Int)) :=
  (bif decide (s47.2.2 < (a1.length : Int)) then ((idx a1 s47.2.2).bind fun x62 => ((bif ((x62.Parts.length : Int) == 0) then some true else (bif (a2 == 0) then some true else some (decide (256 < s47.2.1)))) : Option Bool).bind fun b65 => (bif b65 then some (s47.1, s47.2.1) else (rec14 x62.Parts (IntKind.i64.wrap (a2 - 1))).bind fun r70 => some ((if s47.1 < IntKind.i64.wrap (r70.1 + 1) then IntKind.i64.wrap (r70.1 + 1) else s47.1), IntKind.i64.wrap (s47.2.1 + r70.2))) : Option (Int × Int)).bind fun b60 => some (.cont (b60.1, b60.2, IntKind.i64.wrap (s47.2.2 + 1))) else some (.done (s47.1, s47.2.1)))
def B_r (rec14 : (List Part) → Int → Option (Int × Int)) (n : Nat) (a1 : List Part) (a2 : Int) : Option (Int × Int) :=
  (iter (F_eh n a1 a2 rec14) n (0, (a1.length : Int), 0) : Option (Int × Int)).bind fun b44 => some (b44.1, b44.2)
theorem okB_typing_depth (rec14 : (List Part) → Int → Option (Int × Int)) (hrec14 : ∀ (a1 : List Part) (a2 : Int) (r : Int × Int), rec14 a1 a2 = some r → C prog 73 [.rsl 3 (List.map Part.enc a1), .int .i64 a2] [] (fun a H => a = .tup [.int .i64 r.1, .int .i64 r.2] ∧ H = [])) (n : Nat) (a1 : List Part) (a2 : Int) (r : Int × Int) (h : B_r rec14 n a1 a2 = some r) :
    C prog 73 [.rsl 3 (List.map Part.enc a1), .int .i64 a2] [] (fun a H => a = .tup [.int .i64 r.1, .int .i64 r.2] ∧ H = []) := by
 refine C.of_body func73 Z Z Z ?_
 refine Rg (S Z (S Z (Nx (Rg (S Z (LnM runUnderlying59 Z (S Z (Nx (TC.seq (Rg (S Z (LnM runUnderlying59 Z (S Z (Nx (Bd h fun b44 h45 h => ?_)))))))))))))))
 refine TC.cut ([(4, .int .i64 b44.1), (5, .int .i64 b44.2)]) ([]) ?_ (fun env H hle => ?_)
 ·
  refine TC.block ?_
  refine TC.loop (E := fun s47 => [(1, .int .i64 a2), (4, .int .i64 s47.1), (5, .int .i64 s47.2.1), (12, .rsl 3 (List.map Part.enc a1)), (13, .int .i64 (a1.length : Int)), (14, .int .i64 s47.2.2)]) (Hp := fun s47 => []) h45 ?_ ?_
  ·
   exact Lr []
  intro s47 d48 h49 hb46
  refine Rg (S Z (Nx (TC.seq (CnS Z h49 (fun hc50 h49 => ?_) (fun hc50 h49 => ?_)))))
  ·
   refine ExX (loopX h49 ?_)
   obtain rfl := hb46 _ (Oi h49).symm
   exact bloE (cutN (Lr []))
  refine SkN (TC.seq (Bd h49 fun b60 h61 h49 => ?_))
  refine TC.cut ([(1, .int .i64 a2), (4, .int .i64 b60.1), (5, .int .i64 b60.2), (12, .rsl 3 (List.map Part.enc a1)), (13, .int .i64 (a1.length : Int)), (14, .int .i64 s47.2.2)]) ([]) ?_ (fun env H hle => ?_)
  ·
   refine TC.block (Rg (Bd h61 fun x62 hx62 h61 => ?_))
   refine vX (.rp [.int .i64 x62.Mat, .int .i64 x62.Laps, .rsl 3 (List.map Part.enc x62.Parts)]) (OpV.ixME (e := Part.enc) hx62 (Part.enc_eq x62) runUnderlying59 sizeOf85) ?_
   refine vX (.agg (Part.c x62)) (OpV.loadA Z isAgg85 sizeOf85 Z Pts.rp Z Z) ?_
   refine vH (OpH.allocZ (v := (.agg [.int .i64 0, .int .i64 0, .rsl 3 (List.map Part.enc [])])) zeroValue85 (ZR.agg (ZL.cons ZR.int (ZL.cons ZR.int (ZL.cons ZR.rsl ZL.nil))))) ?_
   refine aV (.ptr 0 0) [.cells 85 [.int .i64 0, .int .i64 0, .rsl 3 (List.map Part.enc [])]] Z Z ?_
   refine vU (OpU.store Z Z Z sizeOf85 Z Z Z Z Z Z Z) ?_
   refine WO.atH (H := [.cells 85 (Part.c x62)]) Z ?_
   refine Nx (TC.seq (TC.seq (Bd h61 fun b65 h66 h61 => ?_)))
   refine TC.cut ([(1, .int .i64 a2), (4, .int .i64 s47.1), (5, .int .i64 s47.2.1), (7, .ptr 0 0), (12, .rsl 3 (List.map Part.enc a1)), (13, .int .i64 (a1.length : Int)), (14, .int .i64 s47.2.2), (29, .bool b65)]) ([.cells 85 (Part.c x62)]) ?_ (fun env H hle => ?_)
   ·
    refine TC.region (Fp fa_85_2 Z (Ld isAgg59 Z (LnM runUnderlying59 Z (S Z (S Z (If h66 (fun hg67 h66 => ?_) (fun hg67 h66 => ?_)))))))
    ·
     refine KF hg67 Z (KF hg67 Z (Pk hg67 Z (S Z (KF Z Z (KF Z Z (S Z (WO.nil ?_)))))))
     obtain rfl := Oi h66
     exact cutN (Lr [0])
    ·
     refine Sg (gT hg67) Z (Sg (gT hg67) Z (Pk hg67 Z (S Z (If h66 (fun hg68 h66 => ?_) (fun hg68 h66 => ?_)))))
     ·
      refine KF hg68 Z (KF hg68 Z (Pk hg68 Z (WO.nil ?_)))
      obtain rfl := Oi h66
      exact cutN (Lr [0])
     ·
      refine Sg (gT hg68) Z (Sg (gT hg68) Z (Pk hg68 Z (WO.nil ?_)))
      obtain rfl := Oi h66
      exact cutN (Lr [0])
   refine seqN (TC.le hle (Cn Z h61 (fun hc69 h61 => ?_) (fun hc69 h61 => ?_)))
   ·
    refine ExX (bloE ?_)
    obtain rfl := Oi h61
    exact cutN (Lr [])
   refine SkN (Rg (Fp fa_85_2 Z (Ld isAgg59 Z (S Z (S Z (Bd h61 fun r70 hr70 h61 => ?_))))))
   refine WO.callD [] (OpC.fn call73 Z Z Z) (hrec14 _ _ _ hr70) ?_
   rintro _ _ ⟨rfl, rfl⟩
   refine aV (.tup [.int .i64 r70.1, .int .i64 r70.2]) [_] Z Z ?_
   refine S Z (S Z (S Z (S Z (S Z (Nx (TC.region (S Z (S Z (S Z ?_)))))))))
   refine vX (.int .i64 (if s47.1 < IntKind.i64.wrap (r70.1 + 1) then IntKind.i64.wrap (r70.1 + 1) else s47.1)) (OpV.max Z Z Z Z) ?_
   refine S Z (S Z (S Z (S Z (S Z (WO.nil (bloN ?_))))))
   obtain rfl := Oi h61
   exact cutN (Lr [])
  exact seqN (TC.le hle (TC.region (S Z (S Z (WO.nil (loopN h49 (Lr [])))))))
 refine seqN (TC.le hle (Rg (S Z (S Z (S Z (S Z (Nx (TC.ret ?_))))))))
 obtain rfl := Oi h
 refine ⟨[(4, _), (5, _)], _, _, ?_, ResOK.two Z Z Z, Z, Z⟩
 exact Lr []
def F_r : Nat → (List Part) → Int → Option (Int × Int)
  | 0 => fun _ _ => none
  | n + 1 => B_r (F_r n) n
theorem k_r (n : Nat) : ∀ (a1 : List Part) (a2 : Int) (r : Int × Int), F_r n a1 a2 = some r → C prog 73 [.rsl 3 (List.map Part.enc a1), .int .i64 a2] [] (fun a H => a = .tup [.int .i64 r.1, .int .i64 r.2] ∧ H = []) := by
  induction n with
  | zero => intro a1 a2 r h; cases h
  | succ n ih => intro a1 a2 r h; exact okB_typing_depth _ ih n a1 a2 r h
def F_gq (n : Nat) (a1 : Course) (s40 : Int) : Option (Ctl Int (Ctl Unit Bool)) :=
  (bif decide (s40 < (a1.Distances.length : Int)) then (idx a1.Distances s40).bind fun x44 => (F_r n x44.Route 17).bind fun r45 => ((bif decide (64 < (x44.Cutoffs.length : Int)) then some true else (bif decide (16 < r45.1) then some true else some (decide (256 < r45.2)))) : Option Bool).bind fun b48 => (bif b48 then some (.done (.done false)) else some (.cont (IntKind.i64.wrap (s40 + 1)))) else some (.done (.cont ())))
def F_ch (n : Nat) (a1 : Course) : Option Bool :=
  ((bif decide (40 < (a1.Mats.length : Int)) then some true else (bif decide (512 < (a1.Legs.length : Int)) then some true else (bif decide (8 < (a1.Distances.length : Int)) then some true else (bif decide (32 < (a1.Waves.length : Int)) then some true else (bif decide (32 < (a1.Offences.length : Int)) then some true else (bif decide (32 < (a1.Categories.length : Int)) then some true else some (decide (32 < (a1.Prizes.length : Int))))))))) : Option Bool).bind fun b7 => (bif b7 then some false else (iter (F_gq n a1) n 0 : Option (Ctl Unit Bool)).bind fun b37 => match b37 with | .cont sb37 => (some true) | .done sb37 => some sb37)
theorem k_ch (n : Nat) (a1 : Course) (r : Bool) (h : F_ch n a1 = some r) :
    C prog 43 [.agg (Course.c a1)] [] (fun a H => a = .bool r ∧ H = []) := by
 refine C.of_body func43 Z Z Z ?_
 refine Rg ?_
 refine vH (OpH.box Z Z Z Z Z) ?_
 refine aV (.ptr 0 0) [.cells 33 (Course.c a1)] Z Z ?_
 refine S Z (Nx (TC.seq (TC.seq (Bd h fun b7 h8 h => ?_))))
 refine TC.cut ([(1, .ptr 0 0), (46, .bool b7)]) ([.cells 33 (Course.c a1)]) ?_ (fun env H hle => ?_)
 ·
  refine TC.region (Fp fa_33_1 Z (Ld isAgg22 Z (LnM runUnderlying22 Z (S Z (S Z (If h8 (fun hg9 h8 => ?_) (fun hg9 h8 => ?_)))))))
  ·
   refine KF hg9 Z (KF hg9 Z (KF hg9 Z (KF hg9 Z (Pk hg9 Z (S Z (KF Z Z (KF Z Z (KF Z Z (KF Z Z (S Z (S Z (KF Z Z (KF Z Z (KF Z Z (KF Z Z (S Z (S Z (KF Z Z (KF Z Z (KF Z Z (KF Z Z (S Z (S Z (KF Z Z (KF Z Z (KF Z Z (KF Z Z (S Z (S Z (KF Z Z (KF Z Z (KF Z Z (KF Z Z (S Z (WO.nil ?_)))))))))))))))))))))))))))))))))))
   obtain rfl := Oi h8
   exact cutN (Lr [0])
  ·
   refine Fpg (gT hg9) fa_33_2 Z (Ldg (gT hg9) isAgg23 Z ?_)
   refine vX (.int .i64 (a1.Legs.length : Int)) (OpV.lenM (e := Leg.c) (l := a1.Legs) runUnderlying23) ?_ (gT hg9)
   refine Sg (gT hg9) Z (Pk hg9 Z (S Z (If h8 (fun hg10 h8 => ?_) (fun hg10 h8 => ?_))))
   ·
    refine KF hg10 Z (KF hg10 Z (KF hg10 Z (KF hg10 Z (Pk hg10 Z (S Z (KF Z Z (KF Z Z (KF Z Z (KF Z Z (S Z (S Z (KF Z Z (KF Z Z (KF Z Z (KF Z Z (S Z (S Z (KF Z Z (KF Z Z (KF Z Z (KF Z Z (S Z (S Z (KF Z Z (KF Z Z (KF Z Z (KF Z Z (S Z (WO.nil ?_)))))))))))))))))))))))))))))
    obtain rfl := Oi h8
    exact cutN (Lr [0])
   ·
    refine Fpg (gT hg10) fa_33_3 Z (Ldg (gT hg10) isAgg24 Z ?_)
    refine vX (.int .i64 (a1.Distances.length : Int)) (OpV.lenM (e := Distance.c) (l := a1.Distances) runUnderlying24) ?_ (gT hg10)
    refine Sg (gT hg10) Z (Pk hg10 Z (S Z (If h8 (fun hg11 h8 => ?_) (fun hg11 h8 => ?_))))
    ·
     refine KF hg11 Z (KF hg11 Z (KF hg11 Z (KF hg11 Z (Pk hg11 Z (S Z (KF Z Z (KF Z Z (KF Z Z (KF Z Z (S Z (S Z (KF Z Z (KF Z Z (KF Z Z (KF Z Z (S Z (S Z (KF Z Z (KF Z Z (KF Z Z (KF Z Z (S Z (WO.nil ?_)))))))))))))))))))))))
     obtain rfl := Oi h8
     exact cutN (Lr [0])
    ·
     refine Fpg (gT hg11) fa_33_4 Z (Ldg (gT hg11) isAgg25 Z ?_)
     refine vX (.int .i64 (a1.Waves.length : Int)) (OpV.lenM (e := Wave.c) (l := a1.Waves) runUnderlying25) ?_ (gT hg11)
     refine Sg (gT hg11) Z (Pk hg11 Z (S Z (If h8 (fun hg12 h8 => ?_) (fun hg12 h8 => ?_))))
     ·
      refine KF hg12 Z (KF hg12 Z (KF hg12 Z (KF hg12 Z (Pk hg12 Z (S Z (KF Z Z (KF Z Z (KF Z Z (KF Z Z (S Z (S Z (KF Z Z (KF Z Z (KF Z Z (KF Z Z (S Z (WO.nil ?_)))))))))))))))))
      obtain rfl := Oi h8
      exact cutN (Lr [0])
     ·
      refine Fpg (gT hg12) fa_33_5 Z (Ldg (gT hg12) isAgg26 Z ?_)
      refine vX (.int .i64 (a1.Offences.length : Int)) (OpV.lenM (e := Offence.c) (l := a1.Offences) runUnderlying26) ?_ (gT hg12)
      refine Sg (gT hg12) Z (Pk hg12 Z (S Z (If h8 (fun hg13 h8 => ?_) (fun hg13 h8 => ?_))))
      ·
       refine KF hg13 Z (KF hg13 Z (KF hg13 Z (KF hg13 Z (Pk hg13 Z (S Z (KF Z Z (KF Z Z (KF Z Z (KF Z Z (S Z (WO.nil ?_)))))))))))
       obtain rfl := Oi h8
       exact cutN (Lr [0])
      ·
       refine Fpg (gT hg13) fa_33_6 Z (Ldg (gT hg13) isAgg27 Z ?_)
       refine vX (.int .i64 (a1.Categories.length : Int)) (OpV.lenM (e := Category.c) (l := a1.Categories) runUnderlying27) ?_ (gT hg13)
       refine Sg (gT hg13) Z (Pk hg13 Z (S Z (If h8 (fun hg14 h8 => ?_) (fun hg14 h8 => ?_))))
       ·
        refine KF hg14 Z (KF hg14 Z (KF hg14 Z (KF hg14 Z (Pk hg14 Z (WO.nil ?_)))))
        obtain rfl := Oi h8
        exact cutN (Lr [0])
       ·
        refine Fpg (gT hg14) fa_33_7 Z (Ldg (gT hg14) isAgg28 Z ?_)
        refine vX (.int .i64 (a1.Prizes.length : Int)) (OpV.lenM (e := Prize.c) (l := a1.Prizes) runUnderlying28) ?_ (gT hg14)
        refine Sg (gT hg14) Z (Pk hg14 Z (WO.nil ?_))
        obtain rfl := Oi h8
        exact cutN (Lr [0])
 refine seqN (TC.le hle (Cn Z h (fun hc15 h => ?_) (fun hc15 h => ?_)))
 ·
  refine Rg (S Z (Nx (RtR ?_)))
  obtain rfl := Oi h
  refine ⟨[(2, _)], _, _, ?_, ResOK.one Z Z, Z, Z⟩
  exact Lr []
 refine SkN (TC.seq (Rg (Fp fa_33_3 Z (Ld isAgg24 Z (LnM runUnderlying24 Z (S Z (Nx (Bd h fun b37 h38 h => ?_))))))))
 refine TC.cutE (b := b37) (fun sb37 => []) (fun sb37 => []) ?_ (fun sb37 env H hbe hle => ?_)
 ·
  refine TC.block ?_
  refine TC.loop (E := fun s40 => [(48, .rsl 5 (List.map Distance.c a1.Distances)), (49, .int .i64 (a1.Distances.length : Int)), (50, .int .i64 s40)]) (Hp := fun s40 => []) h38 ?_ ?_
  ·
   exact Lr []
  intro s40 d41 h42 hb39
  refine Rg (S Z (Nx (TC.seq (CnS Z h42 (fun hc43 h42 => ?_) (fun hc43 h42 => ?_)))))
  ·
   refine ExX (loopX h42 ?_)
   obtain rfl := hb39 _ (Oi h42).symm
   exact bloE (cutEN Z (Lr []))
  refine SkN (TC.seq (TC.block (Rg (Bd h42 fun x44 hx44 h42 => Ix hx44 runUnderlying24 sizeOf62 Z ?_))))
  refine vX (.agg (Distance.c x44)) (OpV.loadA Z isAgg62 sizeOf62 Z Pts.rp Z Z) ?_
  refine vH (OpH.allocZ (v := (.agg [.str [], .rsl 3 (List.map Part.enc []), .int .i64 0, .rsl 3 (List.map Cutoff.c []), .int .i64 0])) zeroValue62 (ZR.agg (ZL.cons ZR.str (ZL.cons ZR.rsl (ZL.cons ZR.int (ZL.cons ZR.rsl (ZL.cons ZR.int ZL.nil))))))) ?_
  refine aV (.ptr 0 0) [.cells 62 [.str [], .rsl 3 (List.map Part.enc []), .int .i64 0, .rsl 3 (List.map Cutoff.c []), .int .i64 0]] Z Z ?_
  refine vU (OpU.store Z Z Z sizeOf62 Z Z Z Z Z Z Z) ?_
  refine WO.atH (H := [.cells 62 (Distance.c x44)]) Z ?_
  refine Nx (Rg (Fp fa_62_1 Z (Ld isAgg59 Z (Bd h42 fun r45 hr45 h42 => ?_))))
  refine WO.callD [] (OpC.fn call73 Z Z Z) (k_r _ _ _ _ hr45) ?_
  rintro _ _ ⟨rfl, rfl⟩
  refine aV (.tup [.int .i64 r45.1, .int .i64 r45.2]) [_] Z Z ?_
  refine S Z (S Z (S Z (S Z (S Z (Nx (TC.seq (Bd h42 fun b48 h49 h42 => ?_)))))))
  refine TC.cut ([(48, .rsl 5 (List.map Distance.c a1.Distances)), (49, .int .i64 (a1.Distances.length : Int)), (50, .int .i64 s40), (71, .bool b48)]) ([]) ?_ (fun env H hle => ?_)
  ·
   refine TC.region (Fp fa_62_3 Z (Ld isAgg60 Z (LnM runUnderlying60 Z (S Z (S Z (If h49 (fun hg50 h49 => ?_) (fun hg50 h49 => ?_)))))))
   ·
    refine KF hg50 Z (KF hg50 Z (Pk hg50 Z (S Z (KF Z Z (KF Z Z (S Z (WO.nil ?_)))))))
    obtain rfl := Oi h49
    exact cutN (Lr [])
   ·
    refine Sg (gT hg50) Z (Sg (gT hg50) Z (Pk hg50 Z (S Z (If h49 (fun hg51 h49 => ?_) (fun hg51 h49 => ?_)))))
    ·
     refine KF hg51 Z (KF hg51 Z (Pk hg51 Z (WO.nil ?_)))
     obtain rfl := Oi h49
     exact cutN (Lr [])
    ·
     refine Sg (gT hg51) Z (Sg (gT hg51) Z (Pk hg51 Z (WO.nil ?_)))
     obtain rfl := Oi h49
     exact cutN (Lr [])
  refine seqN (TC.le hle (Cn Z h42 (fun hc52 h42 => ?_) (fun hc52 h42 => ?_)))
  ·
   refine Rg (S Z (Nx (TC.ret (bloR (seqR (loopR h42 ?_))))))
   obtain rfl := hb39 _ (Oi h42).symm
   refine bloR (cutER (seqR ?_))
   obtain rfl := Oi h
   refine ⟨[(2, _)], _, _, ?_, ResOK.one Z Z, Z, Z⟩
   exact Lr []
  exact TC.skip (bloN (seqN (TC.region (S Z (S Z (WO.nil (loopN h42 (Lr []))))))))
 subst hbe
 refine seqN (TC.le hle (Rg (S Z (Nx (TC.ret ?_)))))
 obtain rfl := Oi h
 refine ⟨[(2, _)], _, _, ?_, ResOK.one Z Z, Z, Z⟩
 exact Lr []
def F_eb (n : Nat) (s15 : (List Int) × Int) : Option (Ctl ((List Int) × Int) (List Int)) :=
  (bif decide (s15.2 ≤ 122) then (idxA 256 s15.1 s15.2).bind fun x19 => (setI s15.1 s15.2 2).bind fun l20 => (idxA 256 l20 (IntKind.u8.wrap (s15.2 - 32))).bind fun x21 => (setI l20 (IntKind.u8.wrap (s15.2 - 32)) 2).bind fun l22 => some (.cont (l22, IntKind.u8.wrap (s15.2 + 1))) else some (.done s15.1))
def F_gc (n : Nat) (s33 : (List Int) × Int) : Option (Ctl ((List Int) × Int) (List Int)) :=
  (bif decide (s33.2 ≤ 57) then (idxA 256 s33.1 s33.2).bind fun x37 => (setI s33.1 s33.2 3).bind fun l38 => some (.cont (l38, IntKind.u8.wrap (s33.2 + 1))) else some (.done s33.1))
def F_gt (n : Nat) (s51 : (List Int) × Int) : Option (Ctl ((List Int) × Int) (List Int)) :=
  (bif decide (s51.2 < ([123, 125, 40, 41, 91, 93, 59, 44, 61, 60, 62].length : Int)) then (idx [123, 125, 40, 41, 91, 93, 59, 44, 61, 60, 62] s51.2).bind fun x55 => (idxA 256 s51.1 x55).bind fun x56 => (setI s51.1 x55 4).bind fun l57 => some (.cont (l57, IntKind.i64.wrap (s51.2 + 1))) else some (.done s51.1))
def F_ha (n : Nat) (s70 : (List Int) × Int) : Option (Ctl ((List Int) × Int) (List Int)) :=
  (bif decide (s70.2 < (([32, 9, 10, 13].length) : Int)) then (idx [32, 9, 10, 13] s70.2).bind fun x74 => (idxA 256 s70.1 x74).bind fun x75 => (setI s70.1 x74 1).bind fun l76 => some (.cont (l76, IntKind.i64.wrap (s70.2 + 1))) else some (.done s70.1))
def F_bn (n : Nat) : Option (List Int) :=
  (iter (F_eb n) n (List.replicate 256 0, 97) : Option (List Int)).bind fun b12 => (iter (F_gc n) n (b12, 48) : Option (List Int)).bind fun b30 => (iter (F_gt n) n (b30, 0) : Option (List Int)).bind fun b48 => (iter (F_ha n) n (b48, 0) : Option (List Int)).bind fun b67 => (arr 256 b67).bind fun l77 => (arr 256 b67).bind fun l78 => (arr 256 l77).bind fun l79 => some l79
theorem k_bn (n : Nat) (r : List Int) (h : F_bn n = some r) :
    C prog 186 [] [] (fun a H => a = .agg (List.flatten (List.map (encI .u8) r)) ∧ H = [.row 229 1 (List.map (encI .u8) r)]) := by
 refine C.of_body func186 Z Z Z ?_
 refine Rg ?_
 refine vH (OpH.allocArr (n := 256) (k := 1) (e := (encI .u8)) (z := 0) zeroValue229 (by kernel_rfl) (by kernel_rfl) (by kernel_rfl) Z) ?_
 refine aV (.ptr 0 0) [.row 229 1 (List.map (encI .u8) (List.replicate 256 0))] Z Z ?_
 refine Nx (TC.seq (Rg (S Z (Nx (Bd h fun b12 h13 h => ?_)))))
 refine TC.cut ([(0, .ptr 0 0)]) ([.row 229 1 (List.map (encI .u8) b12)]) ?_ (fun env H hle => ?_)
 ·
  refine TC.block ?_
  refine TC.loop (E := fun s15 => [(0, .ptr 0 0), (1, .int .u8 s15.2)]) (Hp := fun s15 => [.row 229 1 (List.map (encI .u8) s15.1)]) h13 ?_ ?_
  ·
   exact Lr [0]
  intro s15 d16 h17 hb14
  refine TC.seq (Rg (S Z (S Z (Nx (CnS Z h17 (fun hc18 h17 => ?_) (fun hc18 h17 => ?_))))))
  ·
   refine ExX (loopX h17 ?_)
   obtain rfl := hb14 _ (Oi h17).symm
   exact bloE (cutN (Lr [0]))
  refine SkN (TC.seq (TC.block (TC.region (S Z (S Z (S Z (Bd h17 fun x19 hx19 h17 => ?_)))))))
  refine vX (.ptr 0 (Int.toNat s15.2 * 1)) (OpV.ixArr (n := 256) (k := 1) (l := s15.1) hx19 runUnderlying229 sizeOf5 Z) ?_
  refine Bd h17 fun l20 hl20 h17 => ?_
  refine vU (OpU.setW (e := (encI .u8)) (k := 1) (f := 0) (idxA_ok hx19).2 hl20 sizeOf5 Z Z) ?_
  refine WO.atH (H := [.row 229 1 (List.map (encI .u8) l20)]) Z ?_
  refine Bd h17 fun x21 hx21 h17 => ?_
  refine vX (.ptr 0 (Int.toNat (IntKind.u8.wrap (s15.2 - 32)) * 1)) (OpV.ixArr (n := 256) (k := 1) (l := l20) hx21 runUnderlying229 sizeOf5 Z) ?_
  refine Bd h17 fun l22 hl22 h17 => ?_
  refine vU (OpU.setW (e := (encI .u8)) (k := 1) (f := 0) (idxA_ok hx21).2 hl22 sizeOf5 Z Z) ?_
  refine WO.atH (H := [.row 229 1 (List.map (encI .u8) l22)]) Z ?_
  exact WO.nil (bloN (seqN (TC.region (S Z (S Z (S Z (WO.nil (loopN h17 (Lr [0])))))))))
 refine seqN (TC.le hle (TC.seq (Rg (S Z (Nx (Bd h fun b30 h31 h => ?_))))))
 refine TC.cut ([(0, .ptr 0 0)]) ([.row 229 1 (List.map (encI .u8) b30)]) ?_ (fun env H hle => ?_)
 ·
  refine TC.block ?_
  refine TC.loop (E := fun s33 => [(0, .ptr 0 0), (2, .int .u8 s33.2)]) (Hp := fun s33 => [.row 229 1 (List.map (encI .u8) s33.1)]) h31 ?_ ?_
  ·
   exact Lr [0]
  intro s33 d34 h35 hb32
  refine TC.seq (Rg (S Z (S Z (Nx (CnS Z h35 (fun hc36 h35 => ?_) (fun hc36 h35 => ?_))))))
  ·
   refine ExX (loopX h35 ?_)
   obtain rfl := hb32 _ (Oi h35).symm
   exact bloE (cutN (Lr [0]))
  refine SkN (TC.seq (TC.block (TC.region (S Z (Bd h35 fun x37 hx37 h35 => ?_)))))
  refine vX (.ptr 0 (Int.toNat s33.2 * 1)) (OpV.ixArr (n := 256) (k := 1) (l := s33.1) hx37 runUnderlying229 sizeOf5 Z) ?_
  refine Bd h35 fun l38 hl38 h35 => ?_
  refine vU (OpU.setW (e := (encI .u8)) (k := 1) (f := 0) (idxA_ok hx37).2 hl38 sizeOf5 Z Z) ?_
  refine WO.atH (H := [.row 229 1 (List.map (encI .u8) l38)]) Z ?_
  exact WO.nil (bloN (seqN (TC.region (S Z (S Z (S Z (WO.nil (loopN h35 (Lr [0])))))))))
 refine seqN (TC.le hle (TC.seq (Rg ?_)))
 refine vH (OpH.lit (xs := [.const (.int .u8 123), .const (.int .u8 125), .const (.int .u8 40), .const (.int .u8 41), .const (.int .u8 91), .const (.int .u8 93), .const (.int .u8 59), .const (.int .u8 44), .const (.int .u8 61), .const (.int .u8 60), .const (.int .u8 62)]) (es := List.map (encI .u8) [123, 125, 40, 41, 91, 93, 59, 44, 61, 60, 62]) el_232 Z Z Z Z Z ⟨Z, Z, Z, Z, Z, Z, Z, Z, Z, Z, Z, trivial⟩ Z Z) ?_
 refine aV (.osl 1 0 ([123, 125, 40, 41, 91, 93, 59, 44, 61, 60, 62].length) 1) [_, .row 5 1 (List.map (encI .u8) [123, 125, 40, 41, 91, 93, 59, 44, 61, 60, 62])] Z Z ?_
 refine vH (OpH.convB (es := List.map (encI .u8) [123, 125, 40, 41, 91, 93, 59, 44, 61, 60, 62]) underlying232 underlying5 (List.length_map ..) Z) ?_
 refine aV (.rsl 1 (List.map (encI .u8) [123, 125, 40, 41, 91, 93, 59, 44, 61, 60, 62])) [_, .dead] Z Z ?_
 refine LnM runUnderlying232 Z (S Z (Nx (Bd h fun b48 h49 h => ?_)))
 refine TC.cut ([(0, .ptr 0 0)]) ([.row 229 1 (List.map (encI .u8) b48)]) ?_ (fun env H hle => ?_)
 ·
  refine TC.block ?_
  refine TC.loop (E := fun s51 => [(0, .ptr 0 0), (23, .rsl 1 (List.map (encI .u8) [123, 125, 40, 41, 91, 93, 59, 44, 61, 60, 62])), (24, .int .i64 ([123, 125, 40, 41, 91, 93, 59, 44, 61, 60, 62].length : Int)), (25, .int .i64 s51.2)]) (Hp := fun s51 => [.row 229 1 (List.map (encI .u8) s51.1)]) h49 ?_ ?_
  ·
   exact Lr [0]
  intro s51 d52 h53 hb50
  refine Rg (S Z (Nx (TC.seq (CnS Z h53 (fun hc54 h53 => ?_) (fun hc54 h53 => ?_)))))
  ·
   refine ExX (loopX h53 ?_)
   obtain rfl := hb50 _ (Oi h53).symm
   exact bloE (cutN (Lr [0]))
  refine SkN (TC.seq (TC.block (Rg (Bd h53 fun x55 hx55 h53 => Ix hx55 runUnderlying232 sizeOf5 Z (Ld isAgg5 Z (S Z (Nx (TC.region (S Z (Bd h53 fun x56 hx56 h53 => ?_))))))))))
  refine vX (.ptr 0 (Int.toNat x55 * 1)) (OpV.ixArr (n := 256) (k := 1) (l := s51.1) hx56 runUnderlying229 sizeOf5 Z) ?_
  refine Bd h53 fun l57 hl57 h53 => ?_
  refine vU (OpU.setW (e := (encI .u8)) (k := 1) (f := 0) (idxA_ok hx56).2 hl57 sizeOf5 Z Z) ?_
  refine WO.atH (H := [.row 229 1 (List.map (encI .u8) l57)]) Z ?_
  exact WO.nil (bloN (seqN (TC.region (S Z (S Z (WO.nil (loopN h53 (Lr [0]))))))))
 refine seqN (TC.le hle (TC.seq (Rg ?_)))
 refine vH (OpH.lit (xs := [.const (.int .u8 32), .const (.int .u8 9), .const (.int .u8 10), .const (.int .u8 13)]) (es := List.map (encI .u8) [32, 9, 10, 13]) el_232 Z Z Z Z Z ⟨Z, Z, Z, Z, trivial⟩ Z Z) ?_
 refine aV (.osl 1 0 ([32, 9, 10, 13].length) 1) [_, .row 5 1 (List.map (encI .u8) [32, 9, 10, 13])] Z Z ?_
 refine LnO runUnderlying232 Z (S Z (Nx (Bd h fun b67 h68 h => ?_)))
 refine TC.cut ([(0, .ptr 0 0)]) ([.row 229 1 (List.map (encI .u8) b67)]) ?_ (fun env H hle => ?_)
 ·
  refine TC.block ?_
  refine TC.loop (E := fun s70 => [(0, .ptr 0 0), (32, .osl 1 0 ([32, 9, 10, 13].length) 1), (33, .int .i64 (([32, 9, 10, 13].length) : Int)), (34, .int .i64 s70.2)]) (Hp := fun s70 => [.row 229 1 (List.map (encI .u8) s70.1), .row 5 1 (List.map (encI .u8) [32, 9, 10, 13])]) h68 ?_ ?_
  ·
   exact Lr [0, 1]
  intro s70 d71 h72 hb69
  refine Rg (S Z (Nx (TC.seq (CnS Z h72 (fun hc73 h72 => ?_) (fun hc73 h72 => ?_)))))
  ·
   refine ExX (loopX h72 ?_)
   obtain rfl := hb69 _ (Oi h72).symm
   exact bloE (cutN (Lr [0]))
  refine SkN (TC.seq (TC.block (Rg (Bd h72 fun x74 hx74 h72 => ?_))))
  refine vX (.ptr 1 (Int.toNat s70.2 * 1)) (OpV.ixW hx74 Z runUnderlying232 sizeOf5) ?_
  refine vX (.int .u8 x74) (OpV.load Z isAgg5 Z (Pts.ofRow0 hx74)) ?_
  refine S Z (Nx (TC.region (S Z (Bd h72 fun x75 hx75 h72 => ?_))))
  refine vX (.ptr 0 (Int.toNat x74 * 1)) (OpV.ixArr (n := 256) (k := 1) (l := s70.1) hx75 runUnderlying229 sizeOf5 Z) ?_
  refine Bd h72 fun l76 hl76 h72 => ?_
  refine vU (OpU.setW (e := (encI .u8)) (k := 1) (f := 0) (idxA_ok hx75).2 hl76 sizeOf5 Z Z) ?_
  refine WO.atH (H := [.row 229 1 (List.map (encI .u8) l76), _]) Z ?_
  exact WO.nil (bloN (seqN (TC.region (S Z (S Z (WO.nil (loopN h72 (Lr [0, 1]))))))))
 refine seqN (TC.le hle (Rg (Bd h fun l77 hl77 h => ?_)))
 refine vX (.agg (List.flatten (List.map (encI .u8) l77))) (OpV.loadArr (e := (encI .u8)) hl77 (fun _ => rfl) Z isAgg229 sizeOf229) ?_
 refine Bd h fun l78 hl78 h => Bd h fun l79 hl79 h => ?_
 obtain ⟨hll78, rfl⟩ := arr_ok hl78
 refine vU (OpU.storeArr (e := (encI .u8)) (l := b67) (l' := l79) hll78 (arr_len hl79) (fun _ => rfl) Z sizeOf229 (fun _ => rfl) (fun _ => rfl) (congrArg (fun l => List.flatten (List.map (encI .u8) l)) (arr_ok hl79).2.symm)) ?_
 refine WO.atH (H := [.row 229 1 (List.map (encI .u8) l79)]) Z ?_
 refine Nx (TC.ret ?_)
 obtain rfl := Oi h
 refine ⟨[(0, .ptr 0 0)], [.row 229 1 (List.map (encI .u8) l79)], _, ?_, ResOK.single Z (ResAt.arr (e := (encI .u8)) (arr_len hl79) (fun _ => rfl) Z isAgg229 sizeOf229), Z, Z⟩
 exact Lr [0]
def F_gr (n : Nat) (a1 : List UInt8) (l3 : List Int) (s30 : Int) : Option (Ctl Int (Ctl Unit Bool)) :=
  (bif decide (s30 < (a1.length : Int)) then (idx a1 s30).bind fun x34 => (idxA 256 l3 (x34.toNat : Int)).bind fun x35 => ((bif (x35 != 2) then (bif (s30 == 0) then some true else (bif (x35 != 3) then (idx a1 s30).bind fun x45 => some ((x45.toNat : Int) != 95) else some false)) else some false) : Option Bool).bind fun b40 => (bif b40 then some (.done (.done false)) else some (.cont (IntKind.i64.wrap (s30 + 1)))) else some (.done (.cont ())))
def F_cu (n : Nat) (a1 : List UInt8) : Option Bool :=
  (F_bn n).bind fun r1 => (arr 256 (List.replicate 256 0)).bind fun l2 => (arr 256 r1).bind fun l3 => (iter (F_gr n a1 l3) n 0 : Option (Ctl Unit Bool)).bind fun b27 => match b27 with | .cont sb27 => (some (a1 != [])) | .done sb27 => some sb27
theorem k_cu (n : Nat) (a1 : List UInt8) (r : Bool) (h : F_cu n a1 = some r) :
    C prog 170 [.str a1] [] (fun a H => a = .bool r ∧ H = []) := by
 refine C.of_body func170 Z Z Z ?_
 refine Rg (S Z (Nx (Rg (Bd h fun r1 hr1 h => ?_))))
 refine WO.callD [] (OpC.fn call186 Z Z Z) (k_bn _ _ hr1) ?_
 rintro _ _ ⟨rfl, rfl⟩
 refine WO.atV (x := (.agg (List.flatten (List.map (encI .u8) r1)))) (H := [.row 229 1 (List.map (encI .u8) r1)]) (ren_arr (e := (encI .u8)) (fun _ => rfl) _ _) Z ?_
 refine vH (OpH.allocArr (n := 256) (k := 1) (e := (encI .u8)) (z := 0) zeroValue229 (by kernel_rfl) (by kernel_rfl) (by kernel_rfl) Z) ?_
 refine aV (.ptr 1 0) [_, .row 229 1 (List.map (encI .u8) (List.replicate 256 0))] Z Z ?_
 refine Bd h fun l2 hl2 h => Bd h fun l3 hl3 h => ?_
 obtain ⟨hll2, rfl⟩ := arr_ok hl2
 refine vU (OpU.storeArr (e := (encI .u8)) (l := (List.replicate 256 0)) (l' := l3) hll2 (arr_len hl3) (fun _ => rfl) Z sizeOf229 (fun _ => rfl) (fun _ => rfl) (congrArg (fun l => List.flatten (List.map (encI .u8) l)) (arr_ok hl3).2.symm)) ?_
 refine WO.atH (H := [_, .row 229 1 (List.map (encI .u8) l3)]) Z ?_
 refine Nx (TC.seq (Rg (S Z ?_)))
 refine vX (.int .i64 (a1.length : Int)) (OpV.lenStr Z Z runUnderlying9 Z) ?_
 refine S Z (Nx (Bd h fun b27 h28 h => ?_))
 refine TC.cutE (b := b27) (fun sb27 => [(0, .str a1)]) (fun sb27 => []) ?_ (fun sb27 env H hbe hle => ?_)
 ·
  refine TC.block ?_
  refine TC.loop (E := fun s30 => [(0, .str a1), (3, .ptr 0 0), (8, .int .i64 (a1.length : Int)), (9, .int .i64 s30)]) (Hp := fun s30 => [.row 229 1 (List.map (encI .u8) l3)]) h28 ?_ ?_
  ·
   exact Lr [1]
  intro s30 d31 h32 hb29
  refine Rg (S Z (Nx (TC.seq (CnS Z h32 (fun hc33 h32 => ?_) (fun hc33 h32 => ?_)))))
  ·
   refine ExX (loopX h32 ?_)
   obtain rfl := hb29 _ (Oi h32).symm
   exact bloE (cutEN Z (Lr []))
  refine SkN (TC.seq (TC.block (Rg (S Z (S Z (Nx (Rg (S Z (S Z (Bd h32 fun x34 hx34 h32 => ?_))))))))))
  refine vX (.int .u8 (x34.toNat : Int)) (OpV.strIdx hx34 runUnderlying9) ?_
  refine Bd h32 fun x35 hx35 h32 => ?_
  refine vX (.ptr 0 (Int.toNat (x34.toNat : Int) * 1)) (OpV.ixArr (n := 256) (k := 1) (l := l3) hx35 runUnderlying229 sizeOf5 Z) ?_
  refine vX (.int .u8 x35) (OpV.load Z isAgg5 Z (Pts.ofRow0 (idxA_ok hx35).2)) ?_
  refine S Z (Nx (TC.seq (Bd h32 fun b40 h41 h32 => ?_)))
  refine TC.cut ([(0, .str a1), (3, .ptr 0 0), (8, .int .i64 (a1.length : Int)), (9, .int .i64 s30), (32, .bool b40)]) ([.row 229 1 (List.map (encI .u8) l3)]) ?_ (fun env H hle => ?_)
  ·
   refine TC.region (S Z (S Z (S Z (If h41 (fun hg42 h41 => ?_) (fun hg42 h41 => ?_)))))
   ·
    refine Sg (gT hg42) Z (Sg (gT hg42) Z (Sg (gT hg42) Z (If h41 (fun hg43 h41 => ?_) (fun hg43 h41 => ?_))))
    ·
     refine KF hg43 Z (KF hg43 Z (KF hg43 Z (KU Z (KU Z (KU Z (KU Z (KF hg43 Z (Pkg (gT hg42) hg43 Z (Pk hg42 Z (WO.nil ?_))))))))))
     obtain rfl := Oi h41
     exact cutN (Lr [0])
    ·
     refine Sg (gT hg43) Z (Sg (gT hg43) Z (Sg (gT hg43) Z (If h41 (fun hg44 h41 => ?_) (fun hg44 h41 => ?_))))
     ·
      refine Sg (gT hg44) Z (Sg (gT hg44) Z (Bd h41 fun x45 hx45 h41 => ?_))
      refine vX (.int .u8 (x45.toNat : Int)) (OpV.strIdx hx45 runUnderlying9) ?_ (gT hg44)
      refine Sg (gT hg44) Z (Pkg (gT hg43) hg44 Z (Pkg (gT hg42) hg43 Z (Pk hg42 Z (WO.nil ?_))))
      obtain rfl := Oi h41
      exact cutN (Lr [0])
     ·
      refine KF hg44 Z (KF hg44 Z (KF hg44 Z (KF hg44 Z (Pkg (gT hg43) hg44 Z (Pkg (gT hg42) hg43 Z (Pk hg42 Z (WO.nil ?_)))))))
      obtain rfl := Oi h41
      exact cutN (Lr [0])
   ·
    refine KF hg42 Z (KF hg42 Z (KF hg42 Z (KU Z (KU Z (KU Z (KU Z (KU Z (KU Z (KU Z (KU Z (KF hg42 Z (Pk hg42 Z (WO.nil ?_)))))))))))))
    obtain rfl := Oi h41
    exact cutN (Lr [0])
  refine seqN (TC.le hle (Cn Z h32 (fun hc46 h32 => ?_) (fun hc46 h32 => ?_)))
  ·
   refine Rg (S Z (Nx (TC.ret (bloR (seqR (loopR h32 ?_))))))
   obtain rfl := hb29 _ (Oi h32).symm
   refine bloR (cutER (seqR ?_))
   obtain rfl := Oi h
   refine ⟨[(2, _)], _, _, ?_, ResOK.one Z Z, Z, Z⟩
   exact Lr []
  exact TC.skip (bloN (seqN (TC.region (S Z (S Z (WO.nil (loopN h32 (Lr [0]))))))))
 subst hbe
 refine seqN (TC.le hle (Rg (S Z ?_)))
 refine vX (.bool (a1 != [])) (OpV.strNe Z Z Z ) ?_
 refine S Z (Nx (TC.ret ?_))
 obtain rfl := Oi h
 refine ⟨[(2, _)], _, _, ?_, ResOK.one Z Z, Z, Z⟩
 exact Lr []
def F_cq (n : Nat) (a1 : List UInt8) : Option Bool :=
  ((F_cu n a1).bind fun r8 => (bif r8 then (cat [32] a1).bind fun x10 => (cat x10 [32]).bind fun x11 => (hasSub [32, 99, 111, 117, 114, 115, 101, 32, 109, 97, 116, 115, 32, 115, 116, 97, 114, 116, 32, 112, 97, 115, 115, 32, 101, 110, 100, 32, 108, 101, 103, 32, 116, 111, 32, 100, 105, 115, 116, 97, 110, 99, 101, 32, 103, 117, 110, 32, 99, 104, 105, 112, 32, 115, 108, 111, 116, 32, 108, 97, 112, 115, 32, 108, 97, 112, 32, 99, 117, 116, 111, 102, 102, 32, 101, 120, 116, 114, 97, 32, 119, 97, 118, 101, 32, 111, 102, 102, 101, 110, 99, 101, 32, 111, 117, 116, 32, 99, 97, 116, 101, 103, 111, 114, 121, 32, 112, 114, 105, 122, 101, 32, 97, 108, 108, 32, 116, 105, 101, 115, 32, 105, 102, 32, 101, 108, 115, 101, 32, 97, 110, 100, 32, 111, 114, 32, 110, 111, 116, 32, 111, 108, 100, 101, 114, 32, 121, 111, 117, 110, 103, 101, 114, 32, 98, 105, 98, 32, 100, 114, 97, 119, 32, 102, 105, 101, 108, 100, 32, 115, 104, 111, 114, 116, 32, 102, 97, 117, 108, 116, 115, 32, 109, 105, 115, 115, 101, 115, 32, 115, 116, 114, 97, 121, 115, 32, 119, 105, 110, 100, 111, 119, 32, 114, 101, 115, 105, 100, 117, 97, 108, 32, 100, 114, 105, 102, 116, 32, 112, 114, 111, 116, 101, 115, 116, 32, 102, 101, 101, 32, 100, 101, 97, 100, 108, 105, 110, 101, 32] x11).bind fun r12 => some r12 else some false) : Option Bool).bind fun b6 => some b6
theorem k_cq (n : Nat) (a1 : List UInt8) (r : Bool) (h : F_cq n a1 = some r) :
    C prog 138 [.str a1] [] (fun a H => a = .bool r ∧ H = []) := by
 refine C.of_body func138 Z Z Z ?_
 refine Rg (S Z (Nx (TC.seq (Bd h fun b6 h7 h => ?_))))
 refine TC.cut ([(2, .bool b6)]) ([]) ?_ (fun env H hle => ?_)
 ·
  refine TC.region (S Z (Bd h7 fun r8 hr8 h7 => ?_))
  refine WO.callD [] (OpC.fn call170 Z Z Z) (k_cu _ _ _ hr8) ?_
  rintro _ _ ⟨rfl, rfl⟩
  refine aV (.bool r8) [] Z Z ?_
  refine S Z (If h7 (fun hg9 h7 => ?_) (fun hg9 h7 => ?_))
  ·
   refine Sg (gT hg9) Z (Bd h7 fun x10 hx10 h7 => ?_)
   refine vX (.str x10) (OpV.strAdd hx10) ?_ (gT hg9)
   refine Bd h7 fun x11 hx11 h7 => ?_
   refine vX (.str x11) (OpV.strAdd hx11) ?_ (gT hg9)
   refine Bd h7 fun r12 hr12 h7 => ?_
   refine WO.callD [] (OpC.fn call171 Z Z Z) (C.contains lay_contains_171 Z hr12) ?_ (hg := (gT hg9))
   rintro _ _ ⟨rfl, rfl⟩
   refine aV (.bool r12) [] Z Z ?_
   refine Pk hg9 Z (S Z (WO.nil ?_))
   obtain rfl := Oi h7
   exact cutN (Lr [])
  ·
   refine KF hg9 Z (KF hg9 Z (KF hg9 Z (KF hg9 Z (Pk hg9 Z (S Z (WO.nil ?_))))))
   obtain rfl := Oi h7
   exact cutN (Lr [])
 refine seqN (TC.le hle (TC.ret ?_))
 obtain rfl := Oi h
 refine ⟨[(2, _)], _, _, ?_, ResOK.one Z Z, Z, Z⟩
 exact Lr []
def F_fn (n : Nat) (a1 : List UInt8) (s52 : Int) : Option (Ctl Int (Ctl Unit Bool)) :=
  (bif decide (s52 < (a1.length : Int)) then (idx a1 s52).bind fun x56 => ((bif decide ((x56.toNat : Int) < 97) then (bif decide ((x56.toNat : Int) < 48) then some ((x56.toNat : Int) != 95) else (bif decide (57 < (x56.toNat : Int)) then some ((x56.toNat : Int) != 95) else some false)) else (bif decide (122 < (x56.toNat : Int)) then (bif decide ((x56.toNat : Int) < 48) then some ((x56.toNat : Int) != 95) else (bif decide (57 < (x56.toNat : Int)) then some ((x56.toNat : Int) != 95) else some false)) else some false)) : Option Bool).bind fun b63 => (bif b63 then some (.done (.done false)) else some (.cont (IntKind.i64.wrap (s52 + 1)))) else some (.done (.cont ())))
def F_d (n : Nat) (a1 : List UInt8) : Option Bool :=
  ((bif decide ((a1.length : Int) < 1) then some true else (bif decide (24 < (a1.length : Int)) then some true else (idx a1 0).bind fun x10 => (bif decide ((x10.toNat : Int) < 97) then some true else (idx a1 0).bind fun x12 => some (decide (122 < (x12.toNat : Int)))))) : Option Bool).bind fun b6 => (bif b6 then some false else (iter (F_fn n a1) n 0 : Option (Ctl Unit Bool)).bind fun b49 => match b49 with | .cont sb49 => ((F_cq n a1).bind fun r72 => some (!r72)) | .done sb49 => some sb49)
theorem k_d (n : Nat) (a1 : List UInt8) (r : Bool) (h : F_d n a1 = some r) :
    C prog 74 [.str a1] [] (fun a H => a = .bool r ∧ H = []) := by
 refine C.of_body func74 Z Z Z ?_
 refine Rg (S Z (Nx (TC.seq (TC.seq (Bd h fun b6 h7 h => ?_)))))
 refine TC.cut ([(0, .str a1), (22, .bool b6)]) ([]) ?_ (fun env H hle => ?_)
 ·
  refine TC.region (S Z ?_)
  refine vX (.int .i64 (a1.length : Int)) (OpV.lenStr Z Z runUnderlying9 Z) ?_
  refine S Z (S Z (If h7 (fun hg8 h7 => ?_) (fun hg8 h7 => ?_)))
  ·
   refine KF hg8 Z (KF hg8 Z (KF hg8 Z (Pk hg8 Z (S Z (KF Z Z (KF Z Z (KF Z Z (S Z (S Z (KF Z Z (KF Z Z (KF Z Z (S Z (WO.nil ?_))))))))))))))
   obtain rfl := Oi h7
   exact cutN (Lr [])
  ·
   refine Sg (gT hg8) Z ?_
   refine vX (.int .i64 (a1.length : Int)) (OpV.lenStr Z Z runUnderlying9 Z) ?_ (gT hg8)
   refine Sg (gT hg8) Z (Pk hg8 Z (S Z (If h7 (fun hg9 h7 => ?_) (fun hg9 h7 => ?_))))
   ·
    refine KF hg9 Z (KF hg9 Z (KF hg9 Z (Pk hg9 Z (S Z (KF Z Z (KF Z Z (KF Z Z (S Z (WO.nil ?_)))))))))
    obtain rfl := Oi h7
    exact cutN (Lr [])
   ·
    refine Sg (gT hg9) Z (Bd h7 fun x10 hx10 h7 => ?_)
    refine vX (.int .u8 (x10.toNat : Int)) (OpV.strIdx hx10 runUnderlying9) ?_ (gT hg9)
    refine Sg (gT hg9) Z (Pk hg9 Z (S Z (If h7 (fun hg11 h7 => ?_) (fun hg11 h7 => ?_))))
    ·
     refine KF hg11 Z (KF hg11 Z (KF hg11 Z (Pk hg11 Z (WO.nil ?_))))
     obtain rfl := Oi h7
     exact cutN (Lr [])
    ·
     refine Sg (gT hg11) Z (Bd h7 fun x12 hx12 h7 => ?_)
     refine vX (.int .u8 (x12.toNat : Int)) (OpV.strIdx hx12 runUnderlying9) ?_ (gT hg11)
     refine Sg (gT hg11) Z (Pk hg11 Z (WO.nil ?_))
     obtain rfl := Oi h7
     exact cutN (Lr [])
 refine seqN (TC.le hle (Cn Z h (fun hc13 h => ?_) (fun hc13 h => ?_)))
 ·
  refine Rg (S Z (Nx (RtR ?_)))
  obtain rfl := Oi h
  refine ⟨[(2, _)], _, _, ?_, ResOK.one Z Z, Z, Z⟩
  exact Lr []
 refine SkN (TC.seq (Rg (S Z ?_)))
 refine vX (.int .i64 (a1.length : Int)) (OpV.lenStr Z Z runUnderlying9 Z) ?_
 refine S Z (Nx (Bd h fun b49 h50 h => ?_))
 refine TC.cutE (b := b49) (fun sb49 => [(0, .str a1)]) (fun sb49 => []) ?_ (fun sb49 env H hbe hle => ?_)
 ·
  refine TC.block ?_
  refine TC.loop (E := fun s52 => [(0, .str a1), (24, .int .i64 (a1.length : Int)), (25, .int .i64 s52)]) (Hp := fun s52 => []) h50 ?_ ?_
  ·
   exact Lr []
  intro s52 d53 h54 hb51
  refine Rg (S Z (Nx (TC.seq (CnS Z h54 (fun hc55 h54 => ?_) (fun hc55 h54 => ?_)))))
  ·
   refine ExX (loopX h54 ?_)
   obtain rfl := hb51 _ (Oi h54).symm
   exact bloE (cutEN Z (Lr []))
  refine SkN (TC.seq (TC.block (Rg (S Z (S Z (Nx (Rg (S Z (S Z (Bd h54 fun x56 hx56 h54 => ?_))))))))))
  refine vX (.int .u8 (x56.toNat : Int)) (OpV.strIdx hx56 runUnderlying9) ?_
  refine S Z (Nx (TC.seq (Bd h54 fun b63 h64 h54 => ?_)))
  refine TC.cut ([(0, .str a1), (24, .int .i64 (a1.length : Int)), (25, .int .i64 s52), (48, .bool b63)]) ([]) ?_ (fun env H hle => ?_)
  ·
   refine TC.region (S Z (S Z (S Z (If h64 (fun hg65 h64 => ?_) (fun hg65 h64 => ?_)))))
   ·
    refine KF hg65 Z (KF hg65 Z (Pk hg65 Z (S Z (Sg (gT Z) Z (Sg (gT Z) Z (Sg (gT Z) Z (If h64 (fun hg66 h64 => ?_) (fun hg66 h64 => ?_))))))))
    ·
     refine KF hg66 Z (KF hg66 Z (Pkg (gT Z) hg66 Z (S Z (S Z (Sg (gT Z) Z (Sg (gT Z) Z (S Z (WO.nil ?_))))))))
     obtain rfl := Oi h64
     exact cutN (Lr [])
    ·
     refine Sg (gT hg66) Z (Sg (gT hg66) Z (Pkg (gT Z) hg66 Z (S Z (S Z (If h64 (fun hg67 h64 => ?_) (fun hg67 h64 => ?_))))))
     ·
      refine Sg (gT hg67) Z (Sg (gT hg67) Z (Pk hg67 Z (WO.nil ?_)))
      obtain rfl := Oi h64
      exact cutN (Lr [])
     ·
      refine KF hg67 Z (KF hg67 Z (Pk hg67 Z (WO.nil ?_)))
      obtain rfl := Oi h64
      exact cutN (Lr [])
   ·
    refine Sg (gT hg65) Z (Sg (gT hg65) Z (Pk hg65 Z (S Z (If h64 (fun hg68 h64 => ?_) (fun hg68 h64 => ?_)))))
    ·
     refine Sg (gT hg68) Z (Sg (gT hg68) Z (Sg (gT hg68) Z (If h64 (fun hg69 h64 => ?_) (fun hg69 h64 => ?_))))
     ·
      refine KF hg69 Z (KF hg69 Z (Pkg (gT hg68) hg69 Z (Pk hg68 Z (S Z (Sg (gT Z) Z (Sg (gT Z) Z (S Z (WO.nil ?_))))))))
      obtain rfl := Oi h64
      exact cutN (Lr [])
     ·
      refine Sg (gT hg69) Z (Sg (gT hg69) Z (Pkg (gT hg68) hg69 Z (Pk hg68 Z (S Z (If h64 (fun hg70 h64 => ?_) (fun hg70 h64 => ?_))))))
      ·
       refine Sg (gT hg70) Z (Sg (gT hg70) Z (Pk hg70 Z (WO.nil ?_)))
       obtain rfl := Oi h64
       exact cutN (Lr [])
      ·
       refine KF hg70 Z (KF hg70 Z (Pk hg70 Z (WO.nil ?_)))
       obtain rfl := Oi h64
       exact cutN (Lr [])
    ·
     refine KF hg68 Z (KF hg68 Z (KF hg68 Z (KU Z (KU Z (KF hg68 Z (Pk hg68 Z (S Z (KF Z Z (KF Z Z (S Z (WO.nil ?_)))))))))))
     obtain rfl := Oi h64
     exact cutN (Lr [])
  refine seqN (TC.le hle (Cn Z h54 (fun hc71 h54 => ?_) (fun hc71 h54 => ?_)))
  ·
   refine Rg (S Z (Nx (TC.ret (bloR (seqR (loopR h54 ?_))))))
   obtain rfl := hb51 _ (Oi h54).symm
   refine bloR (cutER (seqR ?_))
   obtain rfl := Oi h
   refine ⟨[(2, _)], _, _, ?_, ResOK.one Z Z, Z, Z⟩
   exact Lr []
  exact TC.skip (bloN (seqN (TC.region (S Z (S Z (WO.nil (loopN h54 (Lr []))))))))
 subst hbe
 refine seqN (TC.le hle (Rg (S Z (Bd h fun r72 hr72 h => ?_))))
 refine WO.callD [] (OpC.fn call138 Z Z Z) (k_cq _ _ _ hr72) ?_
 rintro _ _ ⟨rfl, rfl⟩
 refine aV (.bool r72) [] Z Z ?_
 refine S Z (S Z (Nx (TC.ret ?_)))
 obtain rfl := Oi h
 refine ⟨[(2, _)], _, _, ?_, ResOK.one Z Z, Z, Z⟩
 exact Lr []
def F_dj (n : Nat) (a1 : Mat) : Option Unit :=
  some ()
theorem k_dj (n : Nat) (a1 : Mat) (r : Unit) (h : F_dj n a1 = some r) :
    C prog 76 [.agg (Mat.c a1)] [] (fun a H => a = .str a1.Name ∧ H = []) := by
 refine C.of_body func76 Z Z Z ?_
 refine Rg ?_
 refine vH (OpH.box Z Z Z Z Z) ?_
 refine aV (.ptr 0 0) [.cells 107 (Mat.c a1)] Z Z ?_
 refine vX (.str []) (OpV.assign Z Z ) ?_
 refine Nx (Rg (Fp fa_107_0 Z (Ld isAgg9 Z (S Z (Nx (TC.ret ?_))))))
 obtain rfl := Oi h
 refine ⟨[(2, _)], _, _, ?_, ResOK.one Z Z, Z, Z⟩
 exact Lr []
def F_hb (n : Nat) (a1 : List Mat) (s31 : (List (List UInt8 × Bool)) × Int) : Option (Ctl ((List (List UInt8 × Bool)) × Int) (Ctl Unit Bool)) :=
  (bif decide (s31.2 < (a1.length : Int)) then (idx a1 s31.2).bind fun x35 => (F_dj n x35).bind fun r36 => ((F_d n x35.Name).bind fun r42 => (bif (!r42) then some true else (some (mgetD s31.1 x35.Name false)).bind fun v44 => some v44) : Option Bool).bind fun b40 => (bif b40 then some (.done (.done false)) else (some (mset s31.1 x35.Name true)).bind fun m46 => some (.cont (m46, IntKind.i64.wrap (s31.2 + 1)))) else some (.done (.cont ())))
def F_cb (n : Nat) (a1 : List Mat) : Option Bool :=
  (iter (F_hb n a1) n ([], 0) : Option (Ctl Unit Bool)).bind fun b28 => match b28 with | .cont sb28 => (some true) | .done sb28 => some sb28
theorem k_cb (n : Nat) (a1 : List Mat) (r : Bool) (h : F_cb n a1 = some r) :
    C prog 75 [.rsl 2 (List.map Mat.c a1), .fn (.func 76) [] []] [] (fun a H => a = .bool r ∧ H = []) := by
 refine C.of_body func75 Z Z Z ?_
 refine Rg (S Z (Nx (Rg ?_)))
 refine vH OpH.mkMap ?_
 refine aV (.map 0) [.map (menc A.str A.bool [])] Z Z ?_
 refine S Z (Nx (TC.seq (Rg (S Z (LnM runUnderlying22 Z (S Z (Nx (Bd h fun b28 h29 h => ?_))))))))
 refine TC.cutE (b := b28) (fun sb28 => []) (fun sb28 => []) ?_ (fun sb28 env H hbe hle => ?_)
 ·
  refine TC.block ?_
  refine TC.loop (E := fun s31 => [(1, .fn (.func 76) [] []), (5, .map 0), (10, .rsl 2 (List.map Mat.c a1)), (11, .int .i64 (a1.length : Int)), (12, .int .i64 s31.2)]) (Hp := fun s31 => [.map (menc A.str A.bool s31.1)]) h29 ?_ ?_
  ·
   exact Lr [0]
  intro s31 d32 h33 hb30
  refine Rg (S Z (Nx (TC.seq (CnS Z h33 (fun hc34 h33 => ?_) (fun hc34 h33 => ?_)))))
  ·
   refine ExX (loopX h33 ?_)
   obtain rfl := hb30 _ (Oi h33).symm
   exact bloE (cutEN Z (Lr []))
  refine SkN (TC.seq (TC.block (Rg (Bd h33 fun x35 hx35 h33 => Ix hx35 runUnderlying22 sizeOf107 Z ?_))))
  refine vX (.agg (Mat.c x35)) (OpV.loadA Z isAgg107 sizeOf107 Z Pts.rp Z Z) ?_
  refine vH (OpH.allocZ (v := (.agg [.str [], .int .i64 0])) zeroValue107 (ZR.agg (ZL.cons ZR.str (ZL.cons ZR.int ZL.nil)))) ?_
  refine aV (.ptr 1 0) [_, .cells 107 [.str [], .int .i64 0]] Z Z ?_
  refine vU (OpU.store Z Z Z sizeOf107 Z Z Z Z Z Z Z) ?_
  refine WO.atH (H := [_, .cells 107 (Mat.c x35)]) Z ?_
  refine Nx (Rg (S Z ?_))
  refine vX (.agg (Mat.c x35)) (OpV.loadA Z isAgg107 sizeOf107 Z (Pts.cells Z Z) Z Z) ?_
  refine Bd h33 fun r36 hr36 h33 => ?_
  refine WO.callD [] (OpC.clo call76 Z Z Z Z) (k_dj _ _ _ hr36) ?_
  rintro _ _ ⟨rfl, rfl⟩
  refine aV (.str x35.Name) [_, _] Z Z ?_
  refine S Z (Nx (TC.seq (TC.seq (Bd h33 fun b40 h41 h33 => ?_))))
  refine TC.cut ([(1, .fn (.func 76) [] []), (5, .map 0), (8, .str x35.Name), (10, .rsl 2 (List.map Mat.c a1)), (11, .int .i64 (a1.length : Int)), (12, .int .i64 s31.2), (26, .bool b40)]) ([.map (menc A.str A.bool s31.1)]) ?_ (fun env H hle => ?_)
  ·
   refine TC.region (S Z (Bd h41 fun r42 hr42 h41 => ?_))
   refine WO.callD [] (OpC.fn call74 Z Z Z) (k_d _ _ _ hr42) ?_
   rintro _ _ ⟨rfl, rfl⟩
   refine aV (.bool r42) [_, _] Z Z ?_
   refine S Z (S Z (If h41 (fun hg43 h41 => ?_) (fun hg43 h41 => ?_)))
   ·
    refine KF hg43 Z (KF hg43 Z (KF hg43 Z (Pk hg43 Z (WO.nil ?_))))
    obtain rfl := Oi h41
    exact cutN (Lr [0])
   ·
    refine Sg (gT hg43) Z (Sg (gT hg43) Z (Bd h41 fun v44 hv44 h41 => ?_))
    refine vX (.bool v44) (OpV.look (ev := A.bool) (z0 := false) (k := x35.Name) (l := s31.1) key_9 hv44 underlying190 zeroValue4 ZR.bool) ?_ (gT hg43)
    refine Pk hg43 Z (WO.nil ?_)
    obtain rfl := Oi h41
    exact cutN (Lr [0])
  refine seqN (TC.le hle (Cn Z h33 (fun hc45 h33 => ?_) (fun hc45 h33 => ?_)))
  ·
   refine Rg (S Z (Nx (RtR (bloR (seqR (loopR h33 ?_))))))
   obtain rfl := hb30 _ (Oi h33).symm
   refine bloR (cutER (seqR ?_))
   obtain rfl := Oi h
   refine ⟨[(4, _)], _, _, ?_, ResOK.one Z Z, Z, Z⟩
   exact Lr []
  refine SkN (TC.region (S Z (S Z (Bd h33 fun m46 hm46 h33 => ?_))))
  refine vU (OpU.mput (ev := A.bool) (k := x35.Name) (v := true) (l := s31.1) key_9 hm46 Z underlying190) ?_
  refine WO.atH (H := [.map (menc A.str A.bool m46)]) Z ?_
  exact WO.nil (bloN (seqN (TC.region (S Z (S Z (WO.nil (loopN h33 (Lr [0]))))))))
 subst hbe
 refine seqN (TC.le hle (Rg (S Z (Nx (TC.ret ?_)))))
 obtain rfl := Oi h
 refine ⟨[(4, _)], _, _, ?_, ResOK.one Z Z, Z, Z⟩
 exact Lr []
def F_di (n : Nat) (a1 : Distance) : Option Unit :=
  some ()
theorem k_di (n : Nat) (a1 : Distance) (r : Unit) (h : F_di n a1 = some r) :
    C prog 78 [.agg (Distance.c a1)] [] (fun a H => a = .str a1.Name ∧ H = []) := by
 refine C.of_body func78 Z Z Z ?_
 refine Rg ?_
 refine vH (OpH.box Z Z Z Z Z) ?_
 refine aV (.ptr 0 0) [.cells 62 (Distance.c a1)] Z Z ?_
 refine vX (.str []) (OpV.assign Z Z ) ?_
 refine Nx (Rg (Fp fa_62_0 Z (Ld isAgg9 Z (S Z (Nx (TC.ret ?_))))))
 obtain rfl := Oi h
 refine ⟨[(2, _)], _, _, ?_, ResOK.one Z Z, Z, Z⟩
 exact Lr []
def F_hf (n : Nat) (a1 : List Distance) (s31 : (List (List UInt8 × Bool)) × Int) : Option (Ctl ((List (List UInt8 × Bool)) × Int) (Ctl Unit Bool)) :=
  (bif decide (s31.2 < (a1.length : Int)) then (idx a1 s31.2).bind fun x35 => (F_di n x35).bind fun r36 => ((F_d n x35.Name).bind fun r42 => (bif (!r42) then some true else (some (mgetD s31.1 x35.Name false)).bind fun v44 => some v44) : Option Bool).bind fun b40 => (bif b40 then some (.done (.done false)) else (some (mset s31.1 x35.Name true)).bind fun m46 => some (.cont (m46, IntKind.i64.wrap (s31.2 + 1)))) else some (.done (.cont ())))
def F_bv (n : Nat) (a1 : List Distance) : Option Bool :=
  (iter (F_hf n a1) n ([], 0) : Option (Ctl Unit Bool)).bind fun b28 => match b28 with | .cont sb28 => (some true) | .done sb28 => some sb28
theorem k_bv (n : Nat) (a1 : List Distance) (r : Bool) (h : F_bv n a1 = some r) :
    C prog 77 [.rsl 5 (List.map Distance.c a1), .fn (.func 78) [] []] [] (fun a H => a = .bool r ∧ H = []) := by
 refine C.of_body func77 Z Z Z ?_
 refine Rg (S Z (Nx (Rg ?_)))
 refine vH OpH.mkMap ?_
 refine aV (.map 0) [.map (menc A.str A.bool [])] Z Z ?_
 refine S Z (Nx (TC.seq (Rg (S Z (LnM runUnderlying24 Z (S Z (Nx (Bd h fun b28 h29 h => ?_))))))))
 refine TC.cutE (b := b28) (fun sb28 => []) (fun sb28 => []) ?_ (fun sb28 env H hbe hle => ?_)
 ·
  refine TC.block ?_
  refine TC.loop (E := fun s31 => [(1, .fn (.func 78) [] []), (5, .map 0), (10, .rsl 5 (List.map Distance.c a1)), (11, .int .i64 (a1.length : Int)), (12, .int .i64 s31.2)]) (Hp := fun s31 => [.map (menc A.str A.bool s31.1)]) h29 ?_ ?_
  ·
   exact Lr [0]
  intro s31 d32 h33 hb30
  refine Rg (S Z (Nx (TC.seq (CnS Z h33 (fun hc34 h33 => ?_) (fun hc34 h33 => ?_)))))
  ·
   refine ExX (loopX h33 ?_)
   obtain rfl := hb30 _ (Oi h33).symm
   exact bloE (cutEN Z (Lr []))
  refine SkN (TC.seq (TC.block (Rg (Bd h33 fun x35 hx35 h33 => Ix hx35 runUnderlying24 sizeOf62 Z ?_))))
  refine vX (.agg (Distance.c x35)) (OpV.loadA Z isAgg62 sizeOf62 Z Pts.rp Z Z) ?_
  refine vH (OpH.allocZ (v := (.agg [.str [], .rsl 3 (List.map Part.enc []), .int .i64 0, .rsl 3 (List.map Cutoff.c []), .int .i64 0])) zeroValue62 (ZR.agg (ZL.cons ZR.str (ZL.cons ZR.rsl (ZL.cons ZR.int (ZL.cons ZR.rsl (ZL.cons ZR.int ZL.nil))))))) ?_
  refine aV (.ptr 1 0) [_, .cells 62 [.str [], .rsl 3 (List.map Part.enc []), .int .i64 0, .rsl 3 (List.map Cutoff.c []), .int .i64 0]] Z Z ?_
  refine vU (OpU.store Z Z Z sizeOf62 Z Z Z Z Z Z Z) ?_
  refine WO.atH (H := [_, .cells 62 (Distance.c x35)]) Z ?_
  refine Nx (Rg (S Z ?_))
  refine vX (.agg (Distance.c x35)) (OpV.loadA Z isAgg62 sizeOf62 Z (Pts.cells Z Z) Z Z) ?_
  refine Bd h33 fun r36 hr36 h33 => ?_
  refine WO.callD [] (OpC.clo call78 Z Z Z Z) (k_di _ _ _ hr36) ?_
  rintro _ _ ⟨rfl, rfl⟩
  refine aV (.str x35.Name) [_, _] Z Z ?_
  refine S Z (Nx (TC.seq (TC.seq (Bd h33 fun b40 h41 h33 => ?_))))
  refine TC.cut ([(1, .fn (.func 78) [] []), (5, .map 0), (8, .str x35.Name), (10, .rsl 5 (List.map Distance.c a1)), (11, .int .i64 (a1.length : Int)), (12, .int .i64 s31.2), (26, .bool b40)]) ([.map (menc A.str A.bool s31.1)]) ?_ (fun env H hle => ?_)
  ·
   refine TC.region (S Z (Bd h41 fun r42 hr42 h41 => ?_))
   refine WO.callD [] (OpC.fn call74 Z Z Z) (k_d _ _ _ hr42) ?_
   rintro _ _ ⟨rfl, rfl⟩
   refine aV (.bool r42) [_, _] Z Z ?_
   refine S Z (S Z (If h41 (fun hg43 h41 => ?_) (fun hg43 h41 => ?_)))
   ·
    refine KF hg43 Z (KF hg43 Z (KF hg43 Z (Pk hg43 Z (WO.nil ?_))))
    obtain rfl := Oi h41
    exact cutN (Lr [0])
   ·
    refine Sg (gT hg43) Z (Sg (gT hg43) Z (Bd h41 fun v44 hv44 h41 => ?_))
    refine vX (.bool v44) (OpV.look (ev := A.bool) (z0 := false) (k := x35.Name) (l := s31.1) key_9 hv44 underlying190 zeroValue4 ZR.bool) ?_ (gT hg43)
    refine Pk hg43 Z (WO.nil ?_)
    obtain rfl := Oi h41
    exact cutN (Lr [0])
  refine seqN (TC.le hle (Cn Z h33 (fun hc45 h33 => ?_) (fun hc45 h33 => ?_)))
  ·
   refine Rg (S Z (Nx (RtR (bloR (seqR (loopR h33 ?_))))))
   obtain rfl := hb30 _ (Oi h33).symm
   refine bloR (cutER (seqR ?_))
   obtain rfl := Oi h
   refine ⟨[(4, _)], _, _, ?_, ResOK.one Z Z, Z, Z⟩
   exact Lr []
  refine SkN (TC.region (S Z (S Z (Bd h33 fun m46 hm46 h33 => ?_))))
  refine vU (OpU.mput (ev := A.bool) (k := x35.Name) (v := true) (l := s31.1) key_9 hm46 Z underlying190) ?_
  refine WO.atH (H := [.map (menc A.str A.bool m46)]) Z ?_
  exact WO.nil (bloN (seqN (TC.region (S Z (S Z (WO.nil (loopN h33 (Lr [0]))))))))
 subst hbe
 refine seqN (TC.le hle (Rg (S Z (Nx (TC.ret ?_)))))
 obtain rfl := Oi h
 refine ⟨[(4, _)], _, _, ?_, ResOK.one Z Z, Z, Z⟩
 exact Lr []
def F_eu (n : Nat) (a1 : Wave) : Option Unit :=
  some ()
theorem k_eu (n : Nat) (a1 : Wave) (r : Unit) (h : F_eu n a1 = some r) :
    C prog 80 [.agg (Wave.c a1)] [] (fun a H => a = .str a1.Name ∧ H = []) := by
 refine C.of_body func80 Z Z Z ?_
 refine Rg ?_
 refine vH (OpH.box Z Z Z Z Z) ?_
 refine aV (.ptr 0 0) [.cells 109 (Wave.c a1)] Z Z ?_
 refine vX (.str []) (OpV.assign Z Z ) ?_
 refine Nx (Rg (Fp fa_109_0 Z (Ld isAgg9 Z (S Z (Nx (TC.ret ?_))))))
 obtain rfl := Oi h
 refine ⟨[(2, _)], _, _, ?_, ResOK.one Z Z, Z, Z⟩
 exact Lr []
def F_hs (n : Nat) (a1 : List Wave) (s31 : (List (List UInt8 × Bool)) × Int) : Option (Ctl ((List (List UInt8 × Bool)) × Int) (Ctl Unit Bool)) :=
  (bif decide (s31.2 < (a1.length : Int)) then (idx a1 s31.2).bind fun x35 => (F_eu n x35).bind fun r36 => ((F_d n x35.Name).bind fun r42 => (bif (!r42) then some true else (some (mgetD s31.1 x35.Name false)).bind fun v44 => some v44) : Option Bool).bind fun b40 => (bif b40 then some (.done (.done false)) else (some (mset s31.1 x35.Name true)).bind fun m46 => some (.cont (m46, IntKind.i64.wrap (s31.2 + 1)))) else some (.done (.cont ())))
def F_bm (n : Nat) (a1 : List Wave) : Option Bool :=
  (iter (F_hs n a1) n ([], 0) : Option (Ctl Unit Bool)).bind fun b28 => match b28 with | .cont sb28 => (some true) | .done sb28 => some sb28
theorem k_bm (n : Nat) (a1 : List Wave) (r : Bool) (h : F_bm n a1 = some r) :
    C prog 79 [.rsl 2 (List.map Wave.c a1), .fn (.func 80) [] []] [] (fun a H => a = .bool r ∧ H = []) := by
 refine C.of_body func79 Z Z Z ?_
 refine Rg (S Z (Nx (Rg ?_)))
 refine vH OpH.mkMap ?_
 refine aV (.map 0) [.map (menc A.str A.bool [])] Z Z ?_
 refine S Z (Nx (TC.seq (Rg (S Z (LnM runUnderlying25 Z (S Z (Nx (Bd h fun b28 h29 h => ?_))))))))
 refine TC.cutE (b := b28) (fun sb28 => []) (fun sb28 => []) ?_ (fun sb28 env H hbe hle => ?_)
 ·
  refine TC.block ?_
  refine TC.loop (E := fun s31 => [(1, .fn (.func 80) [] []), (5, .map 0), (10, .rsl 2 (List.map Wave.c a1)), (11, .int .i64 (a1.length : Int)), (12, .int .i64 s31.2)]) (Hp := fun s31 => [.map (menc A.str A.bool s31.1)]) h29 ?_ ?_
  ·
   exact Lr [0]
  intro s31 d32 h33 hb30
  refine Rg (S Z (Nx (TC.seq (CnS Z h33 (fun hc34 h33 => ?_) (fun hc34 h33 => ?_)))))
  ·
   refine ExX (loopX h33 ?_)
   obtain rfl := hb30 _ (Oi h33).symm
   exact bloE (cutEN Z (Lr []))
  refine SkN (TC.seq (TC.block (Rg (Bd h33 fun x35 hx35 h33 => Ix hx35 runUnderlying25 sizeOf109 Z ?_))))
  refine vX (.agg (Wave.c x35)) (OpV.loadA Z isAgg109 sizeOf109 Z Pts.rp Z Z) ?_
  refine vH (OpH.allocZ (v := (.agg [.str [], .int .i64 0])) zeroValue109 (ZR.agg (ZL.cons ZR.str (ZL.cons ZR.int ZL.nil)))) ?_
  refine aV (.ptr 1 0) [_, .cells 109 [.str [], .int .i64 0]] Z Z ?_
  refine vU (OpU.store Z Z Z sizeOf109 Z Z Z Z Z Z Z) ?_
  refine WO.atH (H := [_, .cells 109 (Wave.c x35)]) Z ?_
  refine Nx (Rg (S Z ?_))
  refine vX (.agg (Wave.c x35)) (OpV.loadA Z isAgg109 sizeOf109 Z (Pts.cells Z Z) Z Z) ?_
  refine Bd h33 fun r36 hr36 h33 => ?_
  refine WO.callD [] (OpC.clo call80 Z Z Z Z) (k_eu _ _ _ hr36) ?_
  rintro _ _ ⟨rfl, rfl⟩
  refine aV (.str x35.Name) [_, _] Z Z ?_
  refine S Z (Nx (TC.seq (TC.seq (Bd h33 fun b40 h41 h33 => ?_))))
  refine TC.cut ([(1, .fn (.func 80) [] []), (5, .map 0), (8, .str x35.Name), (10, .rsl 2 (List.map Wave.c a1)), (11, .int .i64 (a1.length : Int)), (12, .int .i64 s31.2), (26, .bool b40)]) ([.map (menc A.str A.bool s31.1)]) ?_ (fun env H hle => ?_)
  ·
   refine TC.region (S Z (Bd h41 fun r42 hr42 h41 => ?_))
   refine WO.callD [] (OpC.fn call74 Z Z Z) (k_d _ _ _ hr42) ?_
   rintro _ _ ⟨rfl, rfl⟩
   refine aV (.bool r42) [_, _] Z Z ?_
   refine S Z (S Z (If h41 (fun hg43 h41 => ?_) (fun hg43 h41 => ?_)))
   ·
    refine KF hg43 Z (KF hg43 Z (KF hg43 Z (Pk hg43 Z (WO.nil ?_))))
    obtain rfl := Oi h41
    exact cutN (Lr [0])
   ·
    refine Sg (gT hg43) Z (Sg (gT hg43) Z (Bd h41 fun v44 hv44 h41 => ?_))
    refine vX (.bool v44) (OpV.look (ev := A.bool) (z0 := false) (k := x35.Name) (l := s31.1) key_9 hv44 underlying190 zeroValue4 ZR.bool) ?_ (gT hg43)
    refine Pk hg43 Z (WO.nil ?_)
    obtain rfl := Oi h41
    exact cutN (Lr [0])
  refine seqN (TC.le hle (Cn Z h33 (fun hc45 h33 => ?_) (fun hc45 h33 => ?_)))
  ·
   refine Rg (S Z (Nx (RtR (bloR (seqR (loopR h33 ?_))))))
   obtain rfl := hb30 _ (Oi h33).symm
   refine bloR (cutER (seqR ?_))
   obtain rfl := Oi h
   refine ⟨[(4, _)], _, _, ?_, ResOK.one Z Z, Z, Z⟩
   exact Lr []
  refine SkN (TC.region (S Z (S Z (Bd h33 fun m46 hm46 h33 => ?_))))
  refine vU (OpU.mput (ev := A.bool) (k := x35.Name) (v := true) (l := s31.1) key_9 hm46 Z underlying190) ?_
  refine WO.atH (H := [.map (menc A.str A.bool m46)]) Z ?_
  exact WO.nil (bloN (seqN (TC.region (S Z (S Z (WO.nil (loopN h33 (Lr [0]))))))))
 subst hbe
 refine seqN (TC.le hle (Rg (S Z (Nx (TC.ret ?_)))))
 obtain rfl := Oi h
 refine ⟨[(4, _)], _, _, ?_, ResOK.one Z Z, Z, Z⟩
 exact Lr []
def F_ee (n : Nat) (a1 : Offence) : Option Unit :=
  some ()
theorem k_ee (n : Nat) (a1 : Offence) (r : Unit) (h : F_ee n a1 = some r) :
    C prog 82 [.agg (Offence.c a1)] [] (fun a H => a = .str a1.Name ∧ H = []) := by
 refine C.of_body func82 Z Z Z ?_
 refine Rg ?_
 refine vH (OpH.box Z Z Z Z Z) ?_
 refine aV (.ptr 0 0) [.cells 111 (Offence.c a1)] Z Z ?_
 refine vX (.str []) (OpV.assign Z Z ) ?_
 refine Nx (Rg (Fp fa_111_0 Z (Ld isAgg9 Z (S Z (Nx (TC.ret ?_))))))
 obtain rfl := Oi h
 refine ⟨[(2, _)], _, _, ?_, ResOK.one Z Z, Z, Z⟩
 exact Lr []
def F_hg (n : Nat) (a1 : List Offence) (s31 : (List (List UInt8 × Bool)) × Int) : Option (Ctl ((List (List UInt8 × Bool)) × Int) (Ctl Unit Bool)) :=
  (bif decide (s31.2 < (a1.length : Int)) then (idx a1 s31.2).bind fun x35 => (F_ee n x35).bind fun r36 => ((F_d n x35.Name).bind fun r42 => (bif (!r42) then some true else (some (mgetD s31.1 x35.Name false)).bind fun v44 => some v44) : Option Bool).bind fun b40 => (bif b40 then some (.done (.done false)) else (some (mset s31.1 x35.Name true)).bind fun m46 => some (.cont (m46, IntKind.i64.wrap (s31.2 + 1)))) else some (.done (.cont ())))
def F_bs (n : Nat) (a1 : List Offence) : Option Bool :=
  (iter (F_hg n a1) n ([], 0) : Option (Ctl Unit Bool)).bind fun b28 => match b28 with | .cont sb28 => (some true) | .done sb28 => some sb28
theorem k_bs (n : Nat) (a1 : List Offence) (r : Bool) (h : F_bs n a1 = some r) :
    C prog 81 [.rsl 4 (List.map Offence.c a1), .fn (.func 82) [] []] [] (fun a H => a = .bool r ∧ H = []) := by
 refine C.of_body func81 Z Z Z ?_
 refine Rg (S Z (Nx (Rg ?_)))
 refine vH OpH.mkMap ?_
 refine aV (.map 0) [.map (menc A.str A.bool [])] Z Z ?_
 refine S Z (Nx (TC.seq (Rg (S Z (LnM runUnderlying26 Z (S Z (Nx (Bd h fun b28 h29 h => ?_))))))))
 refine TC.cutE (b := b28) (fun sb28 => []) (fun sb28 => []) ?_ (fun sb28 env H hbe hle => ?_)
 ·
  refine TC.block ?_
  refine TC.loop (E := fun s31 => [(1, .fn (.func 82) [] []), (5, .map 0), (10, .rsl 4 (List.map Offence.c a1)), (11, .int .i64 (a1.length : Int)), (12, .int .i64 s31.2)]) (Hp := fun s31 => [.map (menc A.str A.bool s31.1)]) h29 ?_ ?_
  ·
   exact Lr [0]
  intro s31 d32 h33 hb30
  refine Rg (S Z (Nx (TC.seq (CnS Z h33 (fun hc34 h33 => ?_) (fun hc34 h33 => ?_)))))
  ·
   refine ExX (loopX h33 ?_)
   obtain rfl := hb30 _ (Oi h33).symm
   exact bloE (cutEN Z (Lr []))
  refine SkN (TC.seq (TC.block (Rg (Bd h33 fun x35 hx35 h33 => Ix hx35 runUnderlying26 sizeOf111 Z ?_))))
  refine vX (.agg (Offence.c x35)) (OpV.loadA Z isAgg111 sizeOf111 Z Pts.rp Z Z) ?_
  refine vH (OpH.allocZ (v := (.agg [.str [], .int .i64 0, .int .i64 0, .bool false])) zeroValue111 (ZR.agg (ZL.cons ZR.str (ZL.cons ZR.int (ZL.cons ZR.int (ZL.cons ZR.bool ZL.nil)))))) ?_
  refine aV (.ptr 1 0) [_, .cells 111 [.str [], .int .i64 0, .int .i64 0, .bool false]] Z Z ?_
  refine vU (OpU.store Z Z Z sizeOf111 Z Z Z Z Z Z Z) ?_
  refine WO.atH (H := [_, .cells 111 (Offence.c x35)]) Z ?_
  refine Nx (Rg (S Z ?_))
  refine vX (.agg (Offence.c x35)) (OpV.loadA Z isAgg111 sizeOf111 Z (Pts.cells Z Z) Z Z) ?_
  refine Bd h33 fun r36 hr36 h33 => ?_
  refine WO.callD [] (OpC.clo call82 Z Z Z Z) (k_ee _ _ _ hr36) ?_
  rintro _ _ ⟨rfl, rfl⟩
  refine aV (.str x35.Name) [_, _] Z Z ?_
  refine S Z (Nx (TC.seq (TC.seq (Bd h33 fun b40 h41 h33 => ?_))))
  refine TC.cut ([(1, .fn (.func 82) [] []), (5, .map 0), (8, .str x35.Name), (10, .rsl 4 (List.map Offence.c a1)), (11, .int .i64 (a1.length : Int)), (12, .int .i64 s31.2), (26, .bool b40)]) ([.map (menc A.str A.bool s31.1)]) ?_ (fun env H hle => ?_)
  ·
   refine TC.region (S Z (Bd h41 fun r42 hr42 h41 => ?_))
   refine WO.callD [] (OpC.fn call74 Z Z Z) (k_d _ _ _ hr42) ?_
   rintro _ _ ⟨rfl, rfl⟩
   refine aV (.bool r42) [_, _] Z Z ?_
   refine S Z (S Z (If h41 (fun hg43 h41 => ?_) (fun hg43 h41 => ?_)))
   ·
    refine KF hg43 Z (KF hg43 Z (KF hg43 Z (Pk hg43 Z (WO.nil ?_))))
    obtain rfl := Oi h41
    exact cutN (Lr [0])
   ·
    refine Sg (gT hg43) Z (Sg (gT hg43) Z (Bd h41 fun v44 hv44 h41 => ?_))
    refine vX (.bool v44) (OpV.look (ev := A.bool) (z0 := false) (k := x35.Name) (l := s31.1) key_9 hv44 underlying190 zeroValue4 ZR.bool) ?_ (gT hg43)
    refine Pk hg43 Z (WO.nil ?_)
    obtain rfl := Oi h41
    exact cutN (Lr [0])
  refine seqN (TC.le hle (Cn Z h33 (fun hc45 h33 => ?_) (fun hc45 h33 => ?_)))
  ·
   refine Rg (S Z (Nx (RtR (bloR (seqR (loopR h33 ?_))))))
   obtain rfl := hb30 _ (Oi h33).symm
   refine bloR (cutER (seqR ?_))
   obtain rfl := Oi h
   refine ⟨[(4, _)], _, _, ?_, ResOK.one Z Z, Z, Z⟩
   exact Lr []
  refine SkN (TC.region (S Z (S Z (Bd h33 fun m46 hm46 h33 => ?_))))
  refine vU (OpU.mput (ev := A.bool) (k := x35.Name) (v := true) (l := s31.1) key_9 hm46 Z underlying190) ?_
  refine WO.atH (H := [.map (menc A.str A.bool m46)]) Z ?_
  exact WO.nil (bloN (seqN (TC.region (S Z (S Z (WO.nil (loopN h33 (Lr [0]))))))))
 subst hbe
 refine seqN (TC.le hle (Rg (S Z (Nx (TC.ret ?_)))))
 obtain rfl := Oi h
 refine ⟨[(4, _)], _, _, ?_, ResOK.one Z Z, Z, Z⟩
 exact Lr []
def F_ek (n : Nat) (a1 : Category) : Option Unit :=
  some ()
theorem k_ek (n : Nat) (a1 : Category) (r : Unit) (h : F_ek n a1 = some r) :
    C prog 84 [.agg (Category.c a1)] [] (fun a H => a = .str a1.Name ∧ H = []) := by
 refine C.of_body func84 Z Z Z ?_
 refine Rg ?_
 refine vH (OpH.box Z Z Z Z Z) ?_
 refine aV (.ptr 0 0) [.cells 52 (Category.c a1)] Z Z ?_
 refine vX (.str []) (OpV.assign Z Z ) ?_
 refine Nx (Rg (Fp fa_52_0 Z (Ld isAgg9 Z (S Z (Nx (TC.ret ?_))))))
 obtain rfl := Oi h
 refine ⟨[(2, _)], _, _, ?_, ResOK.one Z Z, Z, Z⟩
 exact Lr []
def F_ia (n : Nat) (a1 : List Category) (s31 : (List (List UInt8 × Bool)) × Int) : Option (Ctl ((List (List UInt8 × Bool)) × Int) (Ctl Unit Bool)) :=
  (bif decide (s31.2 < (a1.length : Int)) then (idx a1 s31.2).bind fun x35 => (F_ek n x35).bind fun r36 => ((F_d n x35.Name).bind fun r42 => (bif (!r42) then some true else (some (mgetD s31.1 x35.Name false)).bind fun v44 => some v44) : Option Bool).bind fun b40 => (bif b40 then some (.done (.done false)) else (some (mset s31.1 x35.Name true)).bind fun m46 => some (.cont (m46, IntKind.i64.wrap (s31.2 + 1)))) else some (.done (.cont ())))
def F_ck (n : Nat) (a1 : List Category) : Option Bool :=
  (iter (F_ia n a1) n ([], 0) : Option (Ctl Unit Bool)).bind fun b28 => match b28 with | .cont sb28 => (some true) | .done sb28 => some sb28
theorem k_ck (n : Nat) (a1 : List Category) (r : Bool) (h : F_ck n a1 = some r) :
    C prog 83 [.rsl 3 (List.map Category.c a1), .fn (.func 84) [] []] [] (fun a H => a = .bool r ∧ H = []) := by
 refine C.of_body func83 Z Z Z ?_
 refine Rg (S Z (Nx (Rg ?_)))
 refine vH OpH.mkMap ?_
 refine aV (.map 0) [.map (menc A.str A.bool [])] Z Z ?_
 refine S Z (Nx (TC.seq (Rg (S Z (LnM runUnderlying27 Z (S Z (Nx (Bd h fun b28 h29 h => ?_))))))))
 refine TC.cutE (b := b28) (fun sb28 => []) (fun sb28 => []) ?_ (fun sb28 env H hbe hle => ?_)
 ·
  refine TC.block ?_
  refine TC.loop (E := fun s31 => [(1, .fn (.func 84) [] []), (5, .map 0), (10, .rsl 3 (List.map Category.c a1)), (11, .int .i64 (a1.length : Int)), (12, .int .i64 s31.2)]) (Hp := fun s31 => [.map (menc A.str A.bool s31.1)]) h29 ?_ ?_
  ·
   exact Lr [0]
  intro s31 d32 h33 hb30
  refine Rg (S Z (Nx (TC.seq (CnS Z h33 (fun hc34 h33 => ?_) (fun hc34 h33 => ?_)))))
  ·
   refine ExX (loopX h33 ?_)
   obtain rfl := hb30 _ (Oi h33).symm
   exact bloE (cutEN Z (Lr []))
  refine SkN (TC.seq (TC.block (Rg (Bd h33 fun x35 hx35 h33 => Ix hx35 runUnderlying27 sizeOf52 Z ?_))))
  refine vX (.agg (Category.c x35)) (OpV.loadA Z isAgg52 sizeOf52 Z Pts.rp Z Z) ?_
  refine vH (OpH.allocZ (v := (.agg [.str [], .int .i64 0, .int .i64 0])) zeroValue52 (ZR.agg (ZL.cons ZR.str (ZL.cons ZR.int (ZL.cons ZR.int ZL.nil))))) ?_
  refine aV (.ptr 1 0) [_, .cells 52 [.str [], .int .i64 0, .int .i64 0]] Z Z ?_
  refine vU (OpU.store Z Z Z sizeOf52 Z Z Z Z Z Z Z) ?_
  refine WO.atH (H := [_, .cells 52 (Category.c x35)]) Z ?_
  refine Nx (Rg (S Z ?_))
  refine vX (.agg (Category.c x35)) (OpV.loadA Z isAgg52 sizeOf52 Z (Pts.cells Z Z) Z Z) ?_
  refine Bd h33 fun r36 hr36 h33 => ?_
  refine WO.callD [] (OpC.clo call84 Z Z Z Z) (k_ek _ _ _ hr36) ?_
  rintro _ _ ⟨rfl, rfl⟩
  refine aV (.str x35.Name) [_, _] Z Z ?_
  refine S Z (Nx (TC.seq (TC.seq (Bd h33 fun b40 h41 h33 => ?_))))
  refine TC.cut ([(1, .fn (.func 84) [] []), (5, .map 0), (8, .str x35.Name), (10, .rsl 3 (List.map Category.c a1)), (11, .int .i64 (a1.length : Int)), (12, .int .i64 s31.2), (26, .bool b40)]) ([.map (menc A.str A.bool s31.1)]) ?_ (fun env H hle => ?_)
  ·
   refine TC.region (S Z (Bd h41 fun r42 hr42 h41 => ?_))
   refine WO.callD [] (OpC.fn call74 Z Z Z) (k_d _ _ _ hr42) ?_
   rintro _ _ ⟨rfl, rfl⟩
   refine aV (.bool r42) [_, _] Z Z ?_
   refine S Z (S Z (If h41 (fun hg43 h41 => ?_) (fun hg43 h41 => ?_)))
   ·
    refine KF hg43 Z (KF hg43 Z (KF hg43 Z (Pk hg43 Z (WO.nil ?_))))
    obtain rfl := Oi h41
    exact cutN (Lr [0])
   ·
    refine Sg (gT hg43) Z (Sg (gT hg43) Z (Bd h41 fun v44 hv44 h41 => ?_))
    refine vX (.bool v44) (OpV.look (ev := A.bool) (z0 := false) (k := x35.Name) (l := s31.1) key_9 hv44 underlying190 zeroValue4 ZR.bool) ?_ (gT hg43)
    refine Pk hg43 Z (WO.nil ?_)
    obtain rfl := Oi h41
    exact cutN (Lr [0])
  refine seqN (TC.le hle (Cn Z h33 (fun hc45 h33 => ?_) (fun hc45 h33 => ?_)))
  ·
   refine Rg (S Z (Nx (RtR (bloR (seqR (loopR h33 ?_))))))
   obtain rfl := hb30 _ (Oi h33).symm
   refine bloR (cutER (seqR ?_))
   obtain rfl := Oi h
   refine ⟨[(4, _)], _, _, ?_, ResOK.one Z Z, Z, Z⟩
   exact Lr []
  refine SkN (TC.region (S Z (S Z (Bd h33 fun m46 hm46 h33 => ?_))))
  refine vU (OpU.mput (ev := A.bool) (k := x35.Name) (v := true) (l := s31.1) key_9 hm46 Z underlying190) ?_
  refine WO.atH (H := [.map (menc A.str A.bool m46)]) Z ?_
  exact WO.nil (bloN (seqN (TC.region (S Z (S Z (WO.nil (loopN h33 (Lr [0]))))))))
 subst hbe
 refine seqN (TC.le hle (Rg (S Z (Nx (TC.ret ?_)))))
 obtain rfl := Oi h
 refine ⟨[(4, _)], _, _, ?_, ResOK.one Z Z, Z, Z⟩
 exact Lr []
def F_cg (n : Nat) (a1 : Course) : Option Bool :=
  ((F_d n a1.Name).bind fun r14 => (bif r14 then (F_cb n a1.Mats).bind fun r16 => (bif r16 then (F_bv n a1.Distances).bind fun r18 => (bif r18 then (F_bm n a1.Waves).bind fun r20 => (bif r20 then (F_bs n a1.Offences).bind fun r22 => (bif r22 then (F_ck n a1.Categories).bind fun r24 => some r24 else some false) else some false) else some false) else some false) else some false) : Option Bool).bind fun b12 => some b12
theorem k_cg (n : Nat) (a1 : Course) (r : Bool) (h : F_cg n a1 = some r) :
    C prog 44 [.agg (Course.c a1)] [] (fun a H => a = .bool r ∧ H = []) := by
 refine C.of_body func44 Z Z Z ?_
 refine Rg ?_
 refine vH (OpH.box Z Z Z Z Z) ?_
 refine aV (.ptr 0 0) [.cells 33 (Course.c a1)] Z Z ?_
 refine S Z (Nx (TC.seq (Bd h fun b12 h13 h => ?_)))
 refine TC.cut ([(2, .bool b12)]) ([]) ?_ (fun env H hle => ?_)
 ·
  refine TC.region (Fp fa_33_0 Z (Ld isAgg9 Z (Bd h13 fun r14 hr14 h13 => ?_)))
  refine WO.callD [] (OpC.fn call74 Z Z Z) (k_d _ _ _ hr14) ?_
  rintro _ _ ⟨rfl, rfl⟩
  refine aV (.bool r14) [_] Z Z ?_
  refine S Z (If h13 (fun hg15 h13 => ?_) (fun hg15 h13 => ?_))
  ·
   refine Fpg (gT hg15) fa_33_1 Z (Ldg (gT hg15) isAgg22 Z (Bd h13 fun r16 hr16 h13 => ?_))
   refine WO.callD [] (OpC.fn call75 Z Z Z) (k_cb _ _ _ hr16) ?_ (hg := (gT hg15))
   rintro _ _ ⟨rfl, rfl⟩
   refine aV (.bool r16) [_] Z Z ?_
   refine Pk hg15 Z (S Z (If h13 (fun hg17 h13 => ?_) (fun hg17 h13 => ?_)))
   ·
    refine Fpg (gT hg17) fa_33_3 Z (Ldg (gT hg17) isAgg24 Z (Bd h13 fun r18 hr18 h13 => ?_))
    refine WO.callD [] (OpC.fn call77 Z Z Z) (k_bv _ _ _ hr18) ?_ (hg := (gT hg17))
    rintro _ _ ⟨rfl, rfl⟩
    refine aV (.bool r18) [_] Z Z ?_
    refine Pk hg17 Z (S Z (If h13 (fun hg19 h13 => ?_) (fun hg19 h13 => ?_)))
    ·
     refine Fpg (gT hg19) fa_33_4 Z (Ldg (gT hg19) isAgg25 Z (Bd h13 fun r20 hr20 h13 => ?_))
     refine WO.callD [] (OpC.fn call79 Z Z Z) (k_bm _ _ _ hr20) ?_ (hg := (gT hg19))
     rintro _ _ ⟨rfl, rfl⟩
     refine aV (.bool r20) [_] Z Z ?_
     refine Pk hg19 Z (S Z (If h13 (fun hg21 h13 => ?_) (fun hg21 h13 => ?_)))
     ·
      refine Fpg (gT hg21) fa_33_5 Z (Ldg (gT hg21) isAgg26 Z (Bd h13 fun r22 hr22 h13 => ?_))
      refine WO.callD [] (OpC.fn call81 Z Z Z) (k_bs _ _ _ hr22) ?_ (hg := (gT hg21))
      rintro _ _ ⟨rfl, rfl⟩
      refine aV (.bool r22) [_] Z Z ?_
      refine Pk hg21 Z (S Z (If h13 (fun hg23 h13 => ?_) (fun hg23 h13 => ?_)))
      ·
       refine Fpg (gT hg23) fa_33_6 Z (Ldg (gT hg23) isAgg27 Z (Bd h13 fun r24 hr24 h13 => ?_))
       refine WO.callD [] (OpC.fn call83 Z Z Z) (k_ck _ _ _ hr24) ?_ (hg := (gT hg23))
       rintro _ _ ⟨rfl, rfl⟩
       refine aV (.bool r24) [_] Z Z ?_
       refine Pk hg23 Z (S Z (WO.nil ?_))
       obtain rfl := Oi h13
       exact cutN (Lr [])
      ·
       refine KF hg23 Z (KF hg23 Z (KF hg23 Z (Pk hg23 Z (S Z (WO.nil ?_)))))
       obtain rfl := Oi h13
       exact cutN (Lr [])
     ·
      refine KF hg21 Z (KF hg21 Z (KF hg21 Z (Pk hg21 Z (S Z (KF Z Z (KF Z Z (KF Z Z (S Z (S Z (WO.nil ?_))))))))))
      obtain rfl := Oi h13
      exact cutN (Lr [])
    ·
     refine KF hg19 Z (KF hg19 Z (KF hg19 Z (Pk hg19 Z (S Z (KF Z Z (KF Z Z (KF Z Z (S Z (S Z (KF Z Z (KF Z Z (KF Z Z (S Z (S Z (WO.nil ?_)))))))))))))))
     obtain rfl := Oi h13
     exact cutN (Lr [])
   ·
    refine KF hg17 Z (KF hg17 Z (KF hg17 Z (Pk hg17 Z (S Z (KF Z Z (KF Z Z (KF Z Z (S Z (S Z (KF Z Z (KF Z Z (KF Z Z (S Z (S Z (KF Z Z (KF Z Z (KF Z Z (S Z (S Z (WO.nil ?_))))))))))))))))))))
    obtain rfl := Oi h13
    exact cutN (Lr [])
  ·
   refine KF hg15 Z (KF hg15 Z (KF hg15 Z (Pk hg15 Z (S Z (KF Z Z (KF Z Z (KF Z Z (S Z (S Z (KF Z Z (KF Z Z (KF Z Z (S Z (S Z (KF Z Z (KF Z Z (KF Z Z (S Z (S Z (KF Z Z (KF Z Z (KF Z Z (S Z (S Z (WO.nil ?_)))))))))))))))))))))))))
   obtain rfl := Oi h13
   exact cutN (Lr [])
 refine seqN (TC.le hle (TC.ret ?_))
 obtain rfl := Oi h
 refine ⟨[(2, _)], _, _, ?_, ResOK.one Z Z, Z, Z⟩
 exact Lr []
def F_bu (n : Nat) (a1 : Int) (a2 : Int) (a3 : Int) : Option Bool :=
  ((bif decide (a1 < a2) then some true else some (decide (a3 < a1))) : Option Bool).bind fun b2 => some b2
theorem k_bu (n : Nat) (a1 : Int) (a2 : Int) (a3 : Int) (r : Bool) (h : F_bu n a1 a2 a3 = some r) :
    C prog 140 [.int .i64 a1, .ptr 0 0, .ptr 1 0] [.cells 3 [.int .i64 a2], .cells 3 [.int .i64 a3]] (fun a H => a = .bool r ∧ H = [.cells 3 [.int .i64 a2], .cells 3 [.int .i64 a3]]) := by
 refine C.of_body func140 Z Z Z ?_
 refine Rg (S Z (Nx (TC.seq (Bd h fun b2 h3 h => ?_))))
 refine TC.cut ([(4, .bool b2)]) ([.cells 3 [.int .i64 a2], .cells 3 [.int .i64 a3]]) ?_ (fun env H hle => ?_)
 ·
  refine TC.region (S Z (Ld isAgg3 Z (S Z (S Z (If h3 (fun hg4 h3 => ?_) (fun hg4 h3 => ?_))))))
  ·
   refine KF hg4 Z (KF hg4 Z (KF hg4 Z (Pk hg4 Z (S Z (WO.nil ?_)))))
   obtain rfl := Oi h3
   exact cutN (Lr [0, 1])
  ·
   refine Sg (gT hg4) Z (Ldg (gT hg4) isAgg3 Z (Sg (gT hg4) Z (Pk hg4 Z (S Z (WO.nil ?_)))))
   obtain rfl := Oi h3
   exact cutN (Lr [0, 1])
 refine seqN (TC.le hle (TC.ret ?_))
 obtain rfl := Oi h
 refine ⟨[(4, _)], _, _, ?_, ResOK.one Z Z, Z, Z⟩
 exact Lr [0, 1]
def F_hr (n : Nat) (a1 : List Int) (a2 : Int) (a3 : Int) (s13 : Int) : Option (Ctl Int (Ctl Unit Int)) :=
  (bif decide (s13 < (a1.length : Int)) then (idx a1 s13).bind fun x17 => (F_bu n x17 a2 a3).bind fun r18 => (bif r18 then some (.done (.done s13)) else some (.cont (IntKind.i64.wrap (s13 + 1)))) else some (.done (.cont ())))
def F_es (n : Nat) (a1 : List Int) (a2 : Int) (a3 : Int) : Option Int :=
  (iter (F_hr n a1 a2 a3) n 0 : Option (Ctl Unit Int)).bind fun b10 => match b10 with | .cont sb10 => (some (-1)) | .done sb10 => some sb10
theorem k_es (n : Nat) (a1 : List Int) (a2 : Int) (a3 : Int) (r : Int) (h : F_es n a1 a2 a3 = some r) :
    C prog 172 [.rsl 1 (List.map (encI .i64) a1), .fn (.func 140) [] [.ptr 0 0, .ptr 1 0]] [.cells 3 [.int .i64 a2], .cells 3 [.int .i64 a3]] (fun a H => a = .int .i64 r ∧ H = [.cells 3 [.int .i64 a2], .cells 3 [.int .i64 a3]]) := by
 refine C.of_body func172 Z Z Z ?_
 refine Rg (S Z (Nx (TC.seq (Rg (S Z (LnM runUnderlying39 Z (S Z (Nx (Bd h fun b10 h11 h => ?_)))))))))
 refine TC.cutE (b := b10) (fun sb10 => []) (fun sb10 => [.cells 3 [.int .i64 a2], .cells 3 [.int .i64 a3]]) ?_ (fun sb10 env H hbe hle => ?_)
 ·
  refine TC.block ?_
  refine TC.loop (E := fun s13 => [(0, .rsl 1 (List.map (encI .i64) a1)), (1, .fn (.func 140) [] [.ptr 0 0, .ptr 1 0]), (7, .int .i64 (a1.length : Int)), (8, .int .i64 s13)]) (Hp := fun s13 => [.cells 3 [.int .i64 a2], .cells 3 [.int .i64 a3]]) h11 ?_ ?_
  ·
   exact Lr [0, 1]
  intro s13 d14 h15 hb12
  refine Rg (S Z (Nx (TC.seq (CnS Z h15 (fun hc16 h15 => ?_) (fun hc16 h15 => ?_)))))
  ·
   refine ExX (loopX h15 ?_)
   obtain rfl := hb12 _ (Oi h15).symm
   exact bloE (cutEN Z (Lr [0, 1]))
  refine SkN (TC.seq (TC.block (Rg (S Z (S Z (Nx (Rg (S Z (S Z (S Z (Bd h15 fun x17 hx17 h15 => Ix hx17 runUnderlying39 sizeOf3 Z (Ld isAgg3 Z (Bd h15 fun r18 hr18 h15 => ?_)))))))))))))
  refine WO.callD [0, 1] (OpC.clo call140 Z Z Z Z) (k_bu _ _ _ _ _ hr18) ?_
  rintro _ _ ⟨rfl, rfl⟩
  refine aV (.bool r18) [_, _] Z Z ?_
  refine Nx (Cn Z h15 (fun hc19 h15 => ?_) (fun hc19 h15 => ?_))
  ·
   refine Rg (S Z (S Z (Nx (TC.ret (bloR (seqR (loopR h15 ?_)))))))
   obtain rfl := hb12 _ (Oi h15).symm
   refine bloR (cutER (seqR ?_))
   obtain rfl := Oi h
   refine ⟨[(4, _)], _, _, ?_, ResOK.one Z Z, Z, Z⟩
   exact Lr [0, 1]
  exact TC.skip (bloN (seqN (TC.region (S Z (S Z (WO.nil (loopN h15 (Lr [0, 1]))))))))
 subst hbe
 refine seqN (TC.le hle (Rg (S Z (Nx (TC.ret ?_)))))
 obtain rfl := Oi h
 refine ⟨[(4, _)], _, _, ?_, ResOK.one Z Z, Z, Z⟩
 exact Lr [0, 1]
def F_as (n : Nat) (a1 : List Int) (a2 : Int) (a3 : Int) : Option Bool :=
  (F_es n a1 a2 a3).bind fun r1 => some (decide (0 ≤ r1))
theorem k_as (n : Nat) (a1 : List Int) (a2 : Int) (a3 : Int) (r : Bool) (h : F_as n a1 a2 a3 = some r) :
    C prog 139 [.rsl 1 (List.map (encI .i64) a1), .fn (.func 140) [] [.ptr 0 0, .ptr 1 0]] [.cells 3 [.int .i64 a2], .cells 3 [.int .i64 a3]] (fun a H => a = .bool r ∧ H = [.cells 3 [.int .i64 a2], .cells 3 [.int .i64 a3]]) := by
 refine C.of_body func139 Z Z Z ?_
 refine Rg (S Z (Nx (Rg (S Z (S Z (Bd h fun r1 hr1 h => ?_))))))
 refine WO.callD [0, 1] (OpC.fn call172 Z Z Z) (k_es _ _ _ _ _ hr1) ?_
 rintro _ _ ⟨rfl, rfl⟩
 refine aV (.int .i64 r1) [_, _] Z Z ?_
 refine S Z (S Z (Nx (TC.ret ?_)))
 obtain rfl := Oi h
 refine ⟨[(4, _)], _, _, ?_, ResOK.one Z Z, Z, Z⟩
 exact Lr [0, 1]
def F_a (n : Nat) (a1 : Int) (a2 : Int) (a3 : List Int) : Option Bool :=
  (F_as n a3 a1 a2).bind fun r1 => some (!r1)
theorem k_a (n : Nat) (a1 : Int) (a2 : Int) (a3 : List Int) (r : Bool) (h : F_a n a1 a2 a3 = some r) :
    C prog 86 [.int .i64 a1, .int .i64 a2, .rsl 1 (List.map (encI .i64) a3)] [] (fun a H => a = .bool r ∧ H = []) := by
 refine C.of_body func86 Z Z Z ?_
 refine Rg ?_
 refine vH (OpH.box Z Z Z Z Z) ?_
 refine aV (.ptr 0 0) [.cells 3 [.int .i64 a1]] Z Z ?_
 refine vH (OpH.box Z Z Z Z Z) ?_
 refine aV (.ptr 1 0) [_, .cells 3 [.int .i64 a2]] Z Z ?_
 refine S Z (Nx (Rg (S Z ?_)))
 refine vX (.fn (.func 140) [] [.ptr 0 0, .ptr 1 0]) (OpV.makeFunc (first := []) (cap := [.tmp 3, .tmp 4]) Z Z Z) ?_
 refine Bd h fun r1 hr1 h => ?_
 refine WO.callD [0, 1] (OpC.fn call139 Z Z Z) (k_as _ _ _ _ _ hr1) ?_
 rintro _ _ ⟨rfl, rfl⟩
 refine aV (.bool r1) [_, _] Z Z ?_
 refine S Z (S Z (Nx (TC.ret ?_)))
 obtain rfl := Oi h
 refine ⟨[(6, _)], _, _, ?_, ResOK.one Z Z, Z, Z⟩
 exact Lr []
def F_bg (n : Nat) (a1 : Mat) : Option Bool :=
  (F_a n 1 3 [a1.Kind]).bind fun r1 => some r1
theorem k_bg (n : Nat) (a1 : Mat) (r : Bool) (h : F_bg n a1 = some r) :
    C prog 95 [.agg (Mat.c a1)] [] (fun a H => a = .bool r ∧ H = []) := by
 refine C.of_body func95 Z Z Z ?_
 refine Rg ?_
 refine vH (OpH.box Z Z Z Z Z) ?_
 refine aV (.ptr 0 0) [.cells 107 (Mat.c a1)] Z Z ?_
 refine S Z (Nx (Rg (Fp fa_107_1 Z (Ld isAgg3 Z ?_))))
 refine vH (OpH.lit (xs := [.tmp 4]) (es := List.map (encI .i64) [a1.Kind]) el_39 Z Z Z Z Z ⟨Z, trivial⟩ Z Z) ?_
 refine aV (.osl 1 0 ([a1.Kind].length) 1) [_, .row 3 1 (List.map (encI .i64) [a1.Kind])] Z Z ?_
 refine Bd h fun r1 hr1 h => ?_
 refine WO.callB (OpC.fn call86 rfl rfl rfl) (LookL.cons rfl (.inl ⟨rfl, rfl⟩) (LookL.cons rfl (.inl ⟨rfl, rfl⟩) (LookL.cons rfl (.inr ⟨_, _, _, _, _, rfl, rfl, List.length_map .., rfl⟩) LookL.nil))) (k_a _ _ _ _ _ hr1) (by rintro _ _ ⟨rfl, rfl⟩; rfl) ?_
 rintro _ _ ⟨rfl, rfl⟩
 refine aV (.bool r1) [_, _] Z Z ?_
 refine S Z (Nx (TC.ret ?_))
 obtain rfl := Oi h
 refine ⟨[(2, _)], _, _, ?_, ResOK.one Z Z, Z, Z⟩
 exact Lr []
def F_fx (n : Nat) (a1 : Mat) : Option Bool :=
  (F_bg n a1).bind fun r1 => some (!r1)
theorem k_fx (n : Nat) (a1 : Mat) (r : Bool) (h : F_fx n a1 = some r) :
    C prog 146 [.agg (Mat.c a1), .ptr 0 0] [.cells 150 [.fn (.func 95) [] []]] (fun a H => a = .bool r ∧ H = [.cells 150 [.fn (.func 95) [] []]]) := by
 refine C.of_body func146 Z Z Z ?_
 refine Rg ?_
 refine vH (OpH.box Z Z Z Z Z) ?_
 refine aV (.ptr 1 0) [_, .cells 107 (Mat.c a1)] Z Z ?_
 refine S Z (Nx (Rg (Ld isAgg150 Z ?_)))
 refine vX (.agg (Mat.c a1)) (OpV.loadA Z isAgg107 sizeOf107 Z (Pts.cells Z Z) Z Z) ?_
 refine Bd h fun r1 hr1 h => ?_
 refine WO.callD [] (OpC.clo call95 Z Z Z Z) (k_bg _ _ _ hr1) ?_
 rintro _ _ ⟨rfl, rfl⟩
 refine aV (.bool r1) [_, _] Z Z ?_
 refine S Z (S Z (Nx (TC.ret ?_)))
 obtain rfl := Oi h
 refine ⟨[(3, _)], _, _, ?_, ResOK.one Z Z, Z, Z⟩
 exact Lr [0]
def F_hu (n : Nat) (a1 : List Mat) (s13 : Int) : Option (Ctl Int (Ctl Unit Int)) :=
  (bif decide (s13 < (a1.length : Int)) then (idx a1 s13).bind fun x17 => (F_fx n x17).bind fun r18 => (bif r18 then some (.done (.done s13)) else some (.cont (IntKind.i64.wrap (s13 + 1)))) else some (.done (.cont ())))
def F_cx (n : Nat) (a1 : List Mat) : Option Int :=
  (iter (F_hu n a1) n 0 : Option (Ctl Unit Int)).bind fun b10 => match b10 with | .cont sb10 => (some (-1)) | .done sb10 => some sb10
theorem k_cx (n : Nat) (a1 : List Mat) (r : Int) (h : F_cx n a1 = some r) :
    C prog 175 [.rsl 2 (List.map Mat.c a1), .fn (.func 146) [] [.ptr 0 0]] [.cells 150 [.fn (.func 95) [] []]] (fun a H => a = .int .i64 r ∧ H = [.cells 150 [.fn (.func 95) [] []]]) := by
 refine C.of_body func175 Z Z Z ?_
 refine Rg (S Z (Nx (TC.seq (Rg (S Z (LnM runUnderlying22 Z (S Z (Nx (Bd h fun b10 h11 h => ?_)))))))))
 refine TC.cutE (b := b10) (fun sb10 => []) (fun sb10 => [.cells 150 [.fn (.func 95) [] []]]) ?_ (fun sb10 env H hbe hle => ?_)
 ·
  refine TC.block ?_
  refine TC.loop (E := fun s13 => [(0, .rsl 2 (List.map Mat.c a1)), (1, .fn (.func 146) [] [.ptr 0 0]), (7, .int .i64 (a1.length : Int)), (8, .int .i64 s13)]) (Hp := fun s13 => [.cells 150 [.fn (.func 95) [] []]]) h11 ?_ ?_
  ·
   exact Lr [0]
  intro s13 d14 h15 hb12
  refine Rg (S Z (Nx (TC.seq (CnS Z h15 (fun hc16 h15 => ?_) (fun hc16 h15 => ?_)))))
  ·
   refine ExX (loopX h15 ?_)
   obtain rfl := hb12 _ (Oi h15).symm
   exact bloE (cutEN Z (Lr [0]))
  refine SkN (TC.seq (TC.block (Rg (S Z (S Z (Nx (Rg (S Z (S Z (S Z (Bd h15 fun x17 hx17 h15 => Ix hx17 runUnderlying22 sizeOf107 Z ?_)))))))))))
  refine vX (.agg (Mat.c x17)) (OpV.loadA Z isAgg107 sizeOf107 Z Pts.rp Z Z) ?_
  refine Bd h15 fun r18 hr18 h15 => ?_
  refine WO.callD [0] (OpC.clo call146 Z Z Z Z) (k_fx _ _ _ hr18) ?_
  rintro _ _ ⟨rfl, rfl⟩
  refine aV (.bool r18) [_] Z Z ?_
  refine Nx (Cn Z h15 (fun hc19 h15 => ?_) (fun hc19 h15 => ?_))
  ·
   refine Rg (S Z (S Z (Nx (TC.ret (bloR (seqR (loopR h15 ?_)))))))
   obtain rfl := hb12 _ (Oi h15).symm
   refine bloR (cutER (seqR ?_))
   obtain rfl := Oi h
   refine ⟨[(4, _)], _, _, ?_, ResOK.one Z Z, Z, Z⟩
   exact Lr [0]
  exact TC.skip (bloN (seqN (TC.region (S Z (S Z (WO.nil (loopN h15 (Lr [0]))))))))
 subst hbe
 refine seqN (TC.le hle (Rg (S Z (Nx (TC.ret ?_)))))
 obtain rfl := Oi h
 refine ⟨[(4, _)], _, _, ?_, ResOK.one Z Z, Z, Z⟩
 exact Lr [0]
def F_ea (n : Nat) (a1 : List Mat) : Option Bool :=
  (F_cx n a1).bind fun r1 => some (decide (0 ≤ r1))
theorem k_ea (n : Nat) (a1 : List Mat) (r : Bool) (h : F_ea n a1 = some r) :
    C prog 145 [.rsl 2 (List.map Mat.c a1), .fn (.func 146) [] [.ptr 0 0]] [.cells 150 [.fn (.func 95) [] []]] (fun a H => a = .bool r ∧ H = [.cells 150 [.fn (.func 95) [] []]]) := by
 refine C.of_body func145 Z Z Z ?_
 refine Rg (S Z (Nx (Rg (S Z (S Z (Bd h fun r1 hr1 h => ?_))))))
 refine WO.callD [0] (OpC.fn call175 Z Z Z) (k_cx _ _ _ hr1) ?_
 rintro _ _ ⟨rfl, rfl⟩
 refine aV (.int .i64 r1) [_] Z Z ?_
 refine S Z (S Z (Nx (TC.ret ?_)))
 obtain rfl := Oi h
 refine ⟨[(4, _)], _, _, ?_, ResOK.one Z Z, Z, Z⟩
 exact Lr [0]
def F_cf (n : Nat) (a1 : List Mat) : Option Bool :=
  (F_ea n a1).bind fun r1 => some (!r1)
theorem k_cf (n : Nat) (a1 : List Mat) (r : Bool) (h : F_cf n a1 = some r) :
    C prog 94 [.rsl 2 (List.map Mat.c a1), .fn (.func 95) [] []] [] (fun a H => a = .bool r ∧ H = []) := by
 refine C.of_body func94 Z Z Z ?_
 refine Rg ?_
 refine vH (OpH.box Z Z Z Z Z) ?_
 refine aV (.ptr 0 0) [.cells 150 [.fn (.func 95) [] []]] Z Z ?_
 refine S Z (Nx (Rg (S Z ?_)))
 refine vX (.fn (.func 146) [] [.ptr 0 0]) (OpV.makeFunc (first := []) (cap := [.tmp 3]) Z Z Z) ?_
 refine Bd h fun r1 hr1 h => ?_
 refine WO.callD [0] (OpC.fn call145 Z Z Z) (k_ea _ _ _ hr1) ?_
 rintro _ _ ⟨rfl, rfl⟩
 refine aV (.bool r1) [_] Z Z ?_
 refine S Z (S Z (Nx (TC.ret ?_)))
 obtain rfl := Oi h
 refine ⟨[(4, _)], _, _, ?_, ResOK.one Z Z, Z, Z⟩
 exact Lr []
def F_bj (n : Nat) (a1 : Leg) (a2 : Int) : Option Bool :=
  ((F_a n 0 a2 [a1.From, a1.To]).bind fun r7 => (bif r7 then (F_a n 0 68719476736 [a1.Min, a1.Max]).bind fun r9 => (bif r9 then some (decide (a1.Min ≤ a1.Max)) else some false) else some false) : Option Bool).bind fun b5 => some b5
theorem k_bj (n : Nat) (a1 : Leg) (a2 : Int) (r : Bool) (h : F_bj n a1 a2 = some r) :
    C prog 91 [.agg (Leg.c a1), .ptr 0 0] [.cells 3 [.int .i64 a2]] (fun a H => a = .bool r ∧ H = [.cells 3 [.int .i64 a2]]) := by
 refine C.of_body func91 Z Z Z ?_
 refine Rg ?_
 refine vH (OpH.box Z Z Z Z Z) ?_
 refine aV (.ptr 1 0) [_, .cells 90 (Leg.c a1)] Z Z ?_
 refine S Z (Nx (TC.seq (Bd h fun b5 h6 h => ?_)))
 refine TC.cut ([(3, .bool b5)]) ([.cells 3 [.int .i64 a2]]) ?_ (fun env H hle => ?_)
 ·
  refine TC.region (Ld isAgg3 Z (Fp fa_90_0 Z (Ld isAgg3 Z (Fp fa_90_1 Z (Ld isAgg3 Z ?_)))))
  refine vH (OpH.lit (xs := [.tmp 6, .tmp 8]) (es := List.map (encI .i64) [a1.From, a1.To]) el_39 Z Z Z Z Z ⟨Z, Z, trivial⟩ Z Z) ?_
  refine aV (.osl 2 0 ([a1.From, a1.To].length) 1) [_, _, .row 3 1 (List.map (encI .i64) [a1.From, a1.To])] Z Z ?_
  refine Bd h6 fun r7 hr7 h6 => ?_
  refine WO.callB (OpC.fn call86 rfl rfl rfl) (LookL.cons rfl (.inl ⟨rfl, rfl⟩) (LookL.cons rfl (.inl ⟨rfl, rfl⟩) (LookL.cons rfl (.inr ⟨_, _, _, _, _, rfl, rfl, List.length_map .., rfl⟩) LookL.nil))) (k_a _ _ _ _ _ hr7) (by rintro _ _ ⟨rfl, rfl⟩; rfl) ?_
  rintro _ _ ⟨rfl, rfl⟩
  refine aV (.bool r7) [_, _, _] Z Z ?_
  refine S Z (If h6 (fun hg8 h6 => ?_) (fun hg8 h6 => ?_))
  ·
   refine Fpg (gT hg8) fa_90_2 Z (Ldg (gT hg8) isAgg3 Z (Fpg (gT hg8) fa_90_3 Z (Ldg (gT hg8) isAgg3 Z ?_)))
   refine vH (OpH.lit (xs := [.tmp 13, .tmp 15]) (es := List.map (encI .i64) [a1.Min, a1.Max]) el_39 Z Z Z Z Z ⟨Z, Z, trivial⟩ Z Z) ?_ (gT hg8)
   refine aV (.osl 3 0 ([a1.Min, a1.Max].length) 1) [_, _, _, .row 3 1 (List.map (encI .i64) [a1.Min, a1.Max])] Z Z ?_
   refine Bd h6 fun r9 hr9 h6 => ?_
   refine WO.callB (OpC.fn call86 rfl rfl rfl) (LookL.cons rfl (.inl ⟨rfl, rfl⟩) (LookL.cons rfl (.inl ⟨rfl, rfl⟩) (LookL.cons rfl (.inr ⟨_, _, _, _, _, rfl, rfl, List.length_map .., rfl⟩) LookL.nil))) (k_a _ _ _ _ _ hr9) (by rintro _ _ ⟨rfl, rfl⟩; rfl) ?_ (gT hg8)
   rintro _ _ ⟨rfl, rfl⟩
   refine aV (.bool r9) [_, _, _, _] Z Z ?_
   refine Pk hg8 Z (S Z (If h6 (fun hg10 h6 => ?_) (fun hg10 h6 => ?_)))
   ·
    refine Fpg (gT hg10) fa_90_2 Z (Ldg (gT hg10) isAgg3 Z (Fpg (gT hg10) fa_90_3 Z (Ldg (gT hg10) isAgg3 Z (Sg (gT hg10) Z (Pk hg10 Z (S Z (WO.nil ?_)))))))
    obtain rfl := Oi h6
    exact cutN (Lr [0])
   ·
    refine KF hg10 Z (KF hg10 Z (KF hg10 Z (KF hg10 Z (KF hg10 Z (Pk hg10 Z (S Z (WO.nil ?_)))))))
    obtain rfl := Oi h6
    exact cutN (Lr [0])
  ·
   refine KF hg8 Z (KF hg8 Z (KF hg8 Z (KF hg8 Z (KF hg8 Z (KF hg8 Z (Pk hg8 Z (S Z (KF Z Z (KF Z Z (KF Z Z (KF Z Z (KF Z Z (S Z (S Z (WO.nil ?_)))))))))))))))
   obtain rfl := Oi h6
   exact cutN (Lr [0])
 refine seqN (TC.le hle (TC.ret ?_))
 obtain rfl := Oi h
 refine ⟨[(3, _)], _, _, ?_, ResOK.one Z Z, Z, Z⟩
 exact Lr [0]
def F_fj (n : Nat) (a1 : Leg) (a2 : Int) : Option Bool :=
  (F_bj n a1 a2).bind fun r1 => some (!r1)
theorem k_fj (n : Nat) (a1 : Leg) (a2 : Int) (r : Bool) (h : F_fj n a1 a2 = some r) :
    C prog 148 [.agg (Leg.c a1), .ptr 0 0] [.cells 146 [.fn (.func 91) [] [.ptr 1 0]], .cells 3 [.int .i64 a2]] (fun a H => a = .bool r ∧ H = [.cells 146 [.fn (.func 91) [] [.ptr 1 0]], .cells 3 [.int .i64 a2]]) := by
 refine C.of_body func148 Z Z Z ?_
 refine Rg ?_
 refine vH (OpH.box Z Z Z Z Z) ?_
 refine aV (.ptr 2 0) [_, _, .cells 90 (Leg.c a1)] Z Z ?_
 refine S Z (Nx (Rg (Ld isAgg146 Z ?_)))
 refine vX (.agg (Leg.c a1)) (OpV.loadA Z isAgg90 sizeOf90 Z (Pts.cells Z Z) Z Z) ?_
 refine Bd h fun r1 hr1 h => ?_
 refine WO.callD [1] (OpC.clo call91 Z Z Z Z) (k_bj _ _ _ _ hr1) ?_
 rintro _ _ ⟨rfl, rfl⟩
 refine aV (.bool r1) [_, _, _] Z Z ?_
 refine S Z (S Z (Nx (TC.ret ?_)))
 obtain rfl := Oi h
 refine ⟨[(3, _)], _, _, ?_, ResOK.one Z Z, Z, Z⟩
 exact Lr [0, 1]
def F_ho (n : Nat) (a1 : List Leg) (a2 : Int) (s13 : Int) : Option (Ctl Int (Ctl Unit Int)) :=
  (bif decide (s13 < (a1.length : Int)) then (idx a1 s13).bind fun x17 => (F_fj n x17 a2).bind fun r18 => (bif r18 then some (.done (.done s13)) else some (.cont (IntKind.i64.wrap (s13 + 1)))) else some (.done (.cont ())))
def F_dp (n : Nat) (a1 : List Leg) (a2 : Int) : Option Int :=
  (iter (F_ho n a1 a2) n 0 : Option (Ctl Unit Int)).bind fun b10 => match b10 with | .cont sb10 => (some (-1)) | .done sb10 => some sb10
theorem k_dp (n : Nat) (a1 : List Leg) (a2 : Int) (r : Int) (h : F_dp n a1 a2 = some r) :
    C prog 176 [.rsl 4 (List.map Leg.c a1), .fn (.func 148) [] [.ptr 0 0]] [.cells 146 [.fn (.func 91) [] [.ptr 1 0]], .cells 3 [.int .i64 a2]] (fun a H => a = .int .i64 r ∧ H = [.cells 146 [.fn (.func 91) [] [.ptr 1 0]], .cells 3 [.int .i64 a2]]) := by
 refine C.of_body func176 Z Z Z ?_
 refine Rg (S Z (Nx (TC.seq (Rg (S Z (LnM runUnderlying23 Z (S Z (Nx (Bd h fun b10 h11 h => ?_)))))))))
 refine TC.cutE (b := b10) (fun sb10 => []) (fun sb10 => [.cells 146 [.fn (.func 91) [] [.ptr 1 0]], .cells 3 [.int .i64 a2]]) ?_ (fun sb10 env H hbe hle => ?_)
 ·
  refine TC.block ?_
  refine TC.loop (E := fun s13 => [(0, .rsl 4 (List.map Leg.c a1)), (1, .fn (.func 148) [] [.ptr 0 0]), (7, .int .i64 (a1.length : Int)), (8, .int .i64 s13)]) (Hp := fun s13 => [.cells 146 [.fn (.func 91) [] [.ptr 1 0]], .cells 3 [.int .i64 a2]]) h11 ?_ ?_
  ·
   exact Lr [0, 1]
  intro s13 d14 h15 hb12
  refine Rg (S Z (Nx (TC.seq (CnS Z h15 (fun hc16 h15 => ?_) (fun hc16 h15 => ?_)))))
  ·
   refine ExX (loopX h15 ?_)
   obtain rfl := hb12 _ (Oi h15).symm
   exact bloE (cutEN Z (Lr [0, 1]))
  refine SkN (TC.seq (TC.block (Rg (S Z (S Z (Nx (Rg (S Z (S Z (S Z (Bd h15 fun x17 hx17 h15 => Ix hx17 runUnderlying23 sizeOf90 Z ?_)))))))))))
  refine vX (.agg (Leg.c x17)) (OpV.loadA Z isAgg90 sizeOf90 Z Pts.rp Z Z) ?_
  refine Bd h15 fun r18 hr18 h15 => ?_
  refine WO.callD [0, 1] (OpC.clo call148 Z Z Z Z) (k_fj _ _ _ _ hr18) ?_
  rintro _ _ ⟨rfl, rfl⟩
  refine aV (.bool r18) [_, _] Z Z ?_
  refine Nx (Cn Z h15 (fun hc19 h15 => ?_) (fun hc19 h15 => ?_))
  ·
   refine Rg (S Z (S Z (Nx (TC.ret (bloR (seqR (loopR h15 ?_)))))))
   obtain rfl := hb12 _ (Oi h15).symm
   refine bloR (cutER (seqR ?_))
   obtain rfl := Oi h
   refine ⟨[(4, _)], _, _, ?_, ResOK.one Z Z, Z, Z⟩
   exact Lr [0, 1]
  exact TC.skip (bloN (seqN (TC.region (S Z (S Z (WO.nil (loopN h15 (Lr [0, 1]))))))))
 subst hbe
 refine seqN (TC.le hle (Rg (S Z (Nx (TC.ret ?_)))))
 obtain rfl := Oi h
 refine ⟨[(4, _)], _, _, ?_, ResOK.one Z Z, Z, Z⟩
 exact Lr [0, 1]
def F_ep (n : Nat) (a1 : List Leg) (a2 : Int) : Option Bool :=
  (F_dp n a1 a2).bind fun r1 => some (decide (0 ≤ r1))
theorem k_ep (n : Nat) (a1 : List Leg) (a2 : Int) (r : Bool) (h : F_ep n a1 a2 = some r) :
    C prog 147 [.rsl 4 (List.map Leg.c a1), .fn (.func 148) [] [.ptr 0 0]] [.cells 146 [.fn (.func 91) [] [.ptr 1 0]], .cells 3 [.int .i64 a2]] (fun a H => a = .bool r ∧ H = [.cells 146 [.fn (.func 91) [] [.ptr 1 0]], .cells 3 [.int .i64 a2]]) := by
 refine C.of_body func147 Z Z Z ?_
 refine Rg (S Z (Nx (Rg (S Z (S Z (Bd h fun r1 hr1 h => ?_))))))
 refine WO.callD [0, 1] (OpC.fn call176 Z Z Z) (k_dp _ _ _ _ hr1) ?_
 rintro _ _ ⟨rfl, rfl⟩
 refine aV (.int .i64 r1) [_, _] Z Z ?_
 refine S Z (S Z (Nx (TC.ret ?_)))
 obtain rfl := Oi h
 refine ⟨[(4, _)], _, _, ?_, ResOK.one Z Z, Z, Z⟩
 exact Lr [0, 1]
def F_ce (n : Nat) (a1 : List Leg) (a2 : Int) : Option Bool :=
  (F_ep n a1 a2).bind fun r1 => some (!r1)
theorem k_ce (n : Nat) (a1 : List Leg) (a2 : Int) (r : Bool) (h : F_ce n a1 a2 = some r) :
    C prog 96 [.rsl 4 (List.map Leg.c a1), .fn (.func 91) [] [.ptr 0 0]] [.cells 3 [.int .i64 a2]] (fun a H => a = .bool r ∧ H = [.cells 3 [.int .i64 a2]]) := by
 refine C.of_body func96 Z Z Z ?_
 refine Rg ?_
 refine vH (OpH.box Z Z Z Z Z) ?_
 refine aV (.ptr 1 0) [_, .cells 146 [.fn (.func 91) [] [.ptr 0 0]]] Z Z ?_
 refine S Z (Nx (Rg (S Z ?_)))
 refine vX (.fn (.func 148) [] [.ptr 1 0]) (OpV.makeFunc (first := []) (cap := [.tmp 3]) Z Z Z) ?_
 refine Bd h fun r1 hr1 h => ?_
 refine WO.callD [1, 0] (OpC.fn call147 Z Z Z) (k_ep _ _ _ _ hr1) ?_
 rintro _ _ ⟨rfl, rfl⟩
 refine aV (.bool r1) [_, _] Z Z ?_
 refine S Z (S Z (Nx (TC.ret ?_)))
 obtain rfl := Oi h
 refine ⟨[(4, _)], _, _, ?_, ResOK.one Z Z, Z, Z⟩
 exact Lr [0]
def F_fd (n : Nat) (a1 : Leg) : Option Unit :=
  some ()
theorem k_fd (n : Nat) (a1 : Leg) (r : Unit) (h : F_fd n a1 = some r) :
    C prog 98 [.agg (Leg.c a1)] [] (fun a H => a = .agg [.int .i64 a1.From, .int .i64 a1.To] ∧ H = [.cells 92 [.int .i64 a1.From, .int .i64 a1.To]]) := by
 refine C.of_body func98 Z Z Z ?_
 refine Rg ?_
 refine vH (OpH.box Z Z Z Z Z) ?_
 refine aV (.ptr 0 0) [.cells 90 (Leg.c a1)] Z Z ?_
 refine vH (OpH.allocZ (v := (.agg [.int .i64 0, .int .i64 0])) zeroValue92 (ZR.agg (ZL.cons ZR.int (ZL.cons ZR.int ZL.nil)))) ?_
 refine aV (.ptr 1 0) [_, .cells 92 [.int .i64 0, .int .i64 0]] Z Z ?_
 refine Nx (Rg (Fp fa_90_0 Z (Ld isAgg3 Z (Fp fa_90_1 Z (Ld isAgg3 Z ?_)))))
 refine vX (.agg [.int .i64 a1.From, .int .i64 a1.To]) (OpV.build (zs := [.int .i64 0, .int .i64 0]) zeroValue92 (ZR.agg (ZL.cons ZR.int (ZL.cons ZR.int ZL.nil))) pl_92) ?_
 refine vU (OpU.store Z Z Z sizeOf92 Z Z Z Z Z Z Z) ?_
 refine WO.atH (H := [_, .cells 92 [.int .i64 a1.From, .int .i64 a1.To]]) Z ?_
 refine Nx (TC.ret ?_)
 obtain rfl := Oi h
 refine ⟨[(2, .ptr 0 0)], [.cells 92 [.int .i64 a1.From, .int .i64 a1.To]], _, ?_, ResOK.single Z (ResAt.cellB isAgg92 sizeOf92 Z Z Z), Z, Z⟩
 exact Lr [1]
def F_gv (n : Nat) (a1 : List Leg) (s13 : (List (typing_ends × Bool)) × Int) : Option (Ctl ((List (typing_ends × Bool)) × Int) (List (typing_ends × Bool))) :=
  (bif decide (s13.2 < (a1.length : Int)) then (idx a1 s13.2).bind fun x17 => (F_fd n x17).bind fun r18 => (some (mset s13.1 ({ from_ := x17.From, to_ := x17.To : typing_ends }) true)).bind fun m19 => some (.cont (m19, IntKind.i64.wrap (s13.2 + 1))) else some (.done s13.1))
def F_bz (n : Nat) (a1 : List Leg) : Option Bool :=
  (iter (F_gv n a1) n ([], 0) : Option (List (typing_ends × Bool))).bind fun b10 => some ((b10.length : Int) == (a1.length : Int))
theorem k_bz (n : Nat) (a1 : List Leg) (r : Bool) (h : F_bz n a1 = some r) :
    C prog 97 [.rsl 4 (List.map Leg.c a1), .fn (.func 98) [] []] [] (fun a H => a = .bool r ∧ H = []) := by
 refine C.of_body func97 Z Z Z ?_
 refine Rg (S Z (Nx (Rg ?_)))
 refine vH OpH.mkMap ?_
 refine aV (.map 0) [.map (menc (fun x => A.agg (typing_ends.c x)) A.bool [])] Z Z ?_
 refine S Z (Nx (TC.seq (Rg (S Z (LnM runUnderlying23 Z (S Z (Nx (Bd h fun b10 h11 h => ?_))))))))
 refine TC.cut ([(0, .rsl 4 (List.map Leg.c a1)), (5, .map 0)]) ([.map (menc (fun x => A.agg (typing_ends.c x)) A.bool b10)]) ?_ (fun env H hle => ?_)
 ·
  refine TC.block ?_
  refine TC.loop (E := fun s13 => [(0, .rsl 4 (List.map Leg.c a1)), (1, .fn (.func 98) [] []), (5, .map 0), (9, .rsl 4 (List.map Leg.c a1)), (10, .int .i64 (a1.length : Int)), (11, .int .i64 s13.2)]) (Hp := fun s13 => [.map (menc (fun x => A.agg (typing_ends.c x)) A.bool s13.1)]) h11 ?_ ?_
  ·
   exact Lr [0]
  intro s13 d14 h15 hb12
  refine Rg (S Z (Nx (TC.seq (CnS Z h15 (fun hc16 h15 => ?_) (fun hc16 h15 => ?_)))))
  ·
   refine ExX (loopX h15 ?_)
   obtain rfl := hb12 _ (Oi h15).symm
   exact bloE (cutN (Lr [0]))
  refine SkN (TC.seq (TC.block (Rg (Bd h15 fun x17 hx17 h15 => Ix hx17 runUnderlying23 sizeOf90 Z ?_))))
  refine vX (.agg (Leg.c x17)) (OpV.loadA Z isAgg90 sizeOf90 Z Pts.rp Z Z) ?_
  refine vH (OpH.allocZ (v := (.agg [.int .i64 0, .int .i64 0, .int .i64 0, .int .i64 0])) zeroValue90 (ZR.agg (ZL.cons ZR.int (ZL.cons ZR.int (ZL.cons ZR.int (ZL.cons ZR.int ZL.nil)))))) ?_
  refine aV (.ptr 1 0) [_, .cells 90 [.int .i64 0, .int .i64 0, .int .i64 0, .int .i64 0]] Z Z ?_
  refine vU (OpU.store Z Z Z sizeOf90 Z Z Z Z Z Z Z) ?_
  refine WO.atH (H := [_, .cells 90 (Leg.c x17)]) Z ?_
  refine Nx (TC.region (S Z (S Z ?_)))
  refine vX (.agg (Leg.c x17)) (OpV.loadA Z isAgg90 sizeOf90 Z (Pts.cells Z Z) Z Z) ?_
  refine Bd h15 fun r18 hr18 h15 => ?_
  refine WO.callD [] (OpC.clo call98 Z Z Z Z) (k_fd _ _ _ hr18) ?_
  rintro _ _ ⟨rfl, rfl⟩
  refine aV (.agg [.int .i64 x17.From, .int .i64 x17.To]) [_, _, .cells 92 [.int .i64 x17.From, .int .i64 x17.To]] Z Z ?_
  refine Bd h15 fun m19 hm19 h15 => ?_
  refine vU (OpU.mput (ev := A.bool) (k := ({ from_ := x17.From, to_ := x17.To : typing_ends })) (v := true) (l := s13.1) key_92 hm19 Z underlying88) ?_
  refine WO.atH (H := [.map (menc (fun x => A.agg (typing_ends.c x)) A.bool m19), _, _]) Z ?_
  exact WO.nil (bloN (seqN (TC.region (S Z (S Z (WO.nil (loopN h15 (Lr [0]))))))))
 refine seqN (TC.le hle (Rg (S Z ?_)))
 refine vX (.int .i64 (b10.length : Int)) (OpV.lenMap (l := b10) underlying88 Z) ?_
 refine S Z (LnM runUnderlying23 Z (S Z (S Z (Nx (TC.ret ?_)))))
 obtain rfl := Oi h
 refine ⟨[(4, _)], _, _, ?_, ResOK.one Z Z, Z, Z⟩
 exact Lr []
def F_al (rec52 : (List Part) → Int → Option Bool) (n : Nat) (a1 : Part) (a2 : Int) : Option Bool :=
  (bif (a1.Laps == 0) then ((F_a n 0 a2 [a1.Mat]).bind fun r6 => (bif r6 then some ((a1.Parts.length : Int) == 0) else some false) : Option Bool).bind fun b4 => some b4 else ((F_a n 1 64 [a1.Laps]).bind fun r15 => (bif r15 then (bif (a1.Mat == 0) then (bif decide (0 < (a1.Parts.length : Int)) then (rec52 a1.Parts a2).bind fun r19 => some r19 else some false) else some false) else some false) : Option Bool).bind fun b13 => some b13)
theorem k_al (rec52 : (List Part) → Int → Option Bool) (hrec52 : ∀ (a1 : List Part) (a2 : Int) (r : Bool), rec52 a1 a2 = some r → C prog 87 [.rsl 3 (List.map Part.enc a1), .fn (.func 85) [] [.ptr 0 0, .ptr 1 0]] [.cells 3 [.int .i64 a2], .cells 141 [.fn (.func 85) [] [.ptr 0 0, .ptr 1 0]]] (fun a H => a = .bool r ∧ H = [.cells 3 [.int .i64 a2], .cells 141 [.fn (.func 85) [] [.ptr 0 0, .ptr 1 0]]])) (n : Nat) (a1 : Part) (a2 : Int) (r : Bool) (h : F_al rec52 n a1 a2 = some r) :
    C prog 85 [.agg (Part.c a1), .ptr 0 0, .ptr 1 0] [.cells 3 [.int .i64 a2], .cells 141 [.fn (.func 85) [] [.ptr 0 0, .ptr 1 0]]] (fun a H => a = .bool r ∧ H = [.cells 3 [.int .i64 a2], .cells 141 [.fn (.func 85) [] [.ptr 0 0, .ptr 1 0]]]) := by
 refine C.of_body func85 Z Z Z ?_
 refine Rg ?_
 refine vH (OpH.box Z Z Z Z Z) ?_
 refine aV (.ptr 2 0) [_, _, .cells 85 (Part.c a1)] Z Z ?_
 refine S Z (Nx (TC.seq (Rg (Fp fa_85_1 Z (Ld isAgg3 Z (S Z (Nx (Cn Z h (fun hc1 h => ?_) (fun hc1 h => ?_)))))))))
 ·
  refine TC.seq (Bd h fun b4 h5 h => ?_)
  refine TC.cut ([(4, .bool b4)]) ([.cells 3 [.int .i64 a2], .cells 141 [.fn (.func 85) [] [.ptr 0 0, .ptr 1 0]]]) ?_ (fun env H hle => ?_)
  ·
   refine TC.region (Ld isAgg3 Z (Fp fa_85_0 Z (Ld isAgg3 Z ?_)))
   refine vH (OpH.lit (xs := [.tmp 10]) (es := List.map (encI .i64) [a1.Mat]) el_39 Z Z Z Z Z ⟨Z, trivial⟩ Z Z) ?_
   refine aV (.osl 3 0 ([a1.Mat].length) 1) [_, _, _, .row 3 1 (List.map (encI .i64) [a1.Mat])] Z Z ?_
   refine Bd h5 fun r6 hr6 h5 => ?_
   refine WO.callB (OpC.fn call86 rfl rfl rfl) (LookL.cons rfl (.inl ⟨rfl, rfl⟩) (LookL.cons rfl (.inl ⟨rfl, rfl⟩) (LookL.cons rfl (.inr ⟨_, _, _, _, _, rfl, rfl, List.length_map .., rfl⟩) LookL.nil))) (k_a _ _ _ _ _ hr6) (by rintro _ _ ⟨rfl, rfl⟩; rfl) ?_
   rintro _ _ ⟨rfl, rfl⟩
   refine aV (.bool r6) [_, _, _, _] Z Z ?_
   refine S Z (If h5 (fun hg7 h5 => ?_) (fun hg7 h5 => ?_))
   ·
    refine Fpg (gT hg7) fa_85_2 Z (Ldg (gT hg7) isAgg59 Z ?_)
    refine vX (.int .i64 (a1.Parts.length : Int)) (OpV.lenM (e := Part.enc) (l := a1.Parts) runUnderlying59) ?_ (gT hg7)
    refine Sg (gT hg7) Z (Pk hg7 Z (S Z (WO.nil ?_)))
    obtain rfl := Oi h5
    exact cutN (Lr [0, 1])
   ·
    refine KF hg7 Z (KF hg7 Z (KF hg7 Z (KF hg7 Z (Pk hg7 Z (S Z (WO.nil ?_))))))
    obtain rfl := Oi h5
    exact cutN (Lr [0, 1])
  refine seqN (TC.le hle (RtR ?_))
  obtain rfl := Oi h
  refine ⟨[(4, _)], _, _, ?_, ResOK.one Z Z, Z, Z⟩
  exact Lr [0, 1]
 refine SkN (TC.seq (Bd h fun b13 h14 h => ?_))
 refine TC.cut ([(4, .bool b13)]) ([.cells 3 [.int .i64 a2], .cells 141 [.fn (.func 85) [] [.ptr 0 0, .ptr 1 0]]]) ?_ (fun env H hle => ?_)
 ·
  refine TC.region (Fp fa_85_1 Z (Ld isAgg3 Z ?_))
  refine vH (OpH.lit (xs := [.tmp 20]) (es := List.map (encI .i64) [a1.Laps]) el_39 Z Z Z Z Z ⟨Z, trivial⟩ Z Z) ?_
  refine aV (.osl 3 0 ([a1.Laps].length) 1) [_, _, _, .row 3 1 (List.map (encI .i64) [a1.Laps])] Z Z ?_
  refine Bd h14 fun r15 hr15 h14 => ?_
  refine WO.callB (OpC.fn call86 rfl rfl rfl) (LookL.cons rfl (.inl ⟨rfl, rfl⟩) (LookL.cons rfl (.inl ⟨rfl, rfl⟩) (LookL.cons rfl (.inr ⟨_, _, _, _, _, rfl, rfl, List.length_map .., rfl⟩) LookL.nil))) (k_a _ _ _ _ _ hr15) (by rintro _ _ ⟨rfl, rfl⟩; rfl) ?_
  rintro _ _ ⟨rfl, rfl⟩
  refine aV (.bool r15) [_, _, _, _] Z Z ?_
  refine S Z (If h14 (fun hg16 h14 => ?_) (fun hg16 h14 => ?_))
  ·
   refine Fpg (gT hg16) fa_85_0 Z (Ldg (gT hg16) isAgg3 Z (Sg (gT hg16) Z (Pk hg16 Z (S Z (If h14 (fun hg17 h14 => ?_) (fun hg17 h14 => ?_))))))
   ·
    refine Fpg (gT hg17) fa_85_2 Z (Ldg (gT hg17) isAgg59 Z ?_)
    refine vX (.int .i64 (a1.Parts.length : Int)) (OpV.lenM (e := Part.enc) (l := a1.Parts) runUnderlying59) ?_ (gT hg17)
    refine Sg (gT hg17) Z (Pk hg17 Z (S Z (If h14 (fun hg18 h14 => ?_) (fun hg18 h14 => ?_))))
    ·
     refine Fpg (gT hg18) fa_85_2 Z (Ldg (gT hg18) isAgg59 Z (Ldg (gT hg18) isAgg141 Z (Bd h14 fun r19 hr19 h14 => ?_)))
     refine WO.callD [0, 1] (OpC.fn call87 Z Z Z) (hrec52 _ _ _ hr19) ?_ (hg := (gT hg18))
     rintro _ _ ⟨rfl, rfl⟩
     refine aV (.bool r19) [_, _, _, _] Z Z ?_
     refine Pk hg18 Z (S Z (WO.nil ?_))
     obtain rfl := Oi h14
     exact cutN (Lr [0, 1])
    ·
     refine KF hg18 Z (KF hg18 Z (KF hg18 Z (KF hg18 Z (Pk hg18 Z (S Z (WO.nil ?_))))))
     obtain rfl := Oi h14
     exact cutN (Lr [0, 1])
   ·
    refine KF hg17 Z (KF hg17 Z (KF hg17 Z (KF hg17 Z (Pk hg17 Z (S Z (KF Z Z (KF Z Z (KF Z Z (KF Z Z (S Z (S Z (WO.nil ?_))))))))))))
    obtain rfl := Oi h14
    exact cutN (Lr [0, 1])
  ·
   refine KF hg16 Z (KF hg16 Z (KF hg16 Z (Pk hg16 Z (S Z (KF Z Z (KF Z Z (KF Z Z (KF Z Z (S Z (S Z (KF Z Z (KF Z Z (KF Z Z (KF Z Z (S Z (S Z (WO.nil ?_)))))))))))))))))
   obtain rfl := Oi h14
   exact cutN (Lr [0, 1])
 refine seqN (TC.le hle (TC.ret ?_))
 obtain rfl := Oi h
 refine ⟨[(4, _)], _, _, ?_, ResOK.one Z Z, Z, Z⟩
 exact Lr [0, 1]
def F_fo (rec52 : (List Part) → Int → Option Bool) (n : Nat) (a1 : Part) (a2 : Int) : Option Bool :=
  (F_al rec52 n a1 a2).bind fun r1 => some (!r1)
theorem k_fo (rec52 : (List Part) → Int → Option Bool) (hrec52 : ∀ (a1 : List Part) (a2 : Int) (r : Bool), rec52 a1 a2 = some r → C prog 87 [.rsl 3 (List.map Part.enc a1), .fn (.func 85) [] [.ptr 0 0, .ptr 1 0]] [.cells 3 [.int .i64 a2], .cells 141 [.fn (.func 85) [] [.ptr 0 0, .ptr 1 0]]] (fun a H => a = .bool r ∧ H = [.cells 3 [.int .i64 a2], .cells 141 [.fn (.func 85) [] [.ptr 0 0, .ptr 1 0]]])) (n : Nat) (a1 : Part) (a2 : Int) (r : Bool) (h : F_fo rec52 n a1 a2 = some r) :
    C prog 142 [.agg (Part.c a1), .ptr 0 0] [.cells 141 [.fn (.func 85) [] [.ptr 1 0, .ptr 2 0]], .cells 3 [.int .i64 a2], .cells 141 [.fn (.func 85) [] [.ptr 1 0, .ptr 2 0]]] (fun a H => a = .bool r ∧ H = [.cells 141 [.fn (.func 85) [] [.ptr 1 0, .ptr 2 0]], .cells 3 [.int .i64 a2], .cells 141 [.fn (.func 85) [] [.ptr 1 0, .ptr 2 0]]]) := by
 refine C.of_body func142 Z Z Z ?_
 refine Rg ?_
 refine vH (OpH.box Z Z Z Z Z) ?_
 refine aV (.ptr 3 0) [_, _, _, .cells 85 (Part.c a1)] Z Z ?_
 refine S Z (Nx (Rg (Ld isAgg141 Z ?_)))
 refine vX (.agg (Part.c a1)) (OpV.loadA Z isAgg85 sizeOf85 Z (Pts.cells Z Z) Z Z) ?_
 refine Bd h fun r1 hr1 h => ?_
 refine WO.callD [1, 2] (OpC.clo call85 Z Z Z Z) (k_al rec52 hrec52 _ _ _ _ hr1) ?_
 rintro _ _ ⟨rfl, rfl⟩
 refine aV (.bool r1) [_, _, _, _] Z Z ?_
 refine S Z (S Z (Nx (TC.ret ?_)))
 obtain rfl := Oi h
 refine ⟨[(3, _)], _, _, ?_, ResOK.one Z Z, Z, Z⟩
 exact Lr [0, 1, 2]
def F_hc (n : Nat) (a1 : List Part) (a2 : Int) (rec52 : (List Part) → Int → Option Bool) (s13 : Int) : Option (Ctl Int (Ctl Unit Int)) :=
  (bif decide (s13 < (a1.length : Int)) then (idx a1 s13).bind fun x17 => (F_fo rec52 n x17 a2).bind fun r18 => (bif r18 then some (.done (.done s13)) else some (.cont (IntKind.i64.wrap (s13 + 1)))) else some (.done (.cont ())))
def F_an (rec52 : (List Part) → Int → Option Bool) (n : Nat) (a1 : List Part) (a2 : Int) : Option Int :=
  (iter (F_hc n a1 a2 rec52) n 0 : Option (Ctl Unit Int)).bind fun b10 => match b10 with | .cont sb10 => (some (-1)) | .done sb10 => some sb10
theorem k_an (rec52 : (List Part) → Int → Option Bool) (hrec52 : ∀ (a1 : List Part) (a2 : Int) (r : Bool), rec52 a1 a2 = some r → C prog 87 [.rsl 3 (List.map Part.enc a1), .fn (.func 85) [] [.ptr 0 0, .ptr 1 0]] [.cells 3 [.int .i64 a2], .cells 141 [.fn (.func 85) [] [.ptr 0 0, .ptr 1 0]]] (fun a H => a = .bool r ∧ H = [.cells 3 [.int .i64 a2], .cells 141 [.fn (.func 85) [] [.ptr 0 0, .ptr 1 0]]])) (n : Nat) (a1 : List Part) (a2 : Int) (r : Int) (h : F_an rec52 n a1 a2 = some r) :
    C prog 173 [.rsl 3 (List.map Part.enc a1), .fn (.func 142) [] [.ptr 0 0]] [.cells 141 [.fn (.func 85) [] [.ptr 1 0, .ptr 2 0]], .cells 3 [.int .i64 a2], .cells 141 [.fn (.func 85) [] [.ptr 1 0, .ptr 2 0]]] (fun a H => a = .int .i64 r ∧ H = [.cells 141 [.fn (.func 85) [] [.ptr 1 0, .ptr 2 0]], .cells 3 [.int .i64 a2], .cells 141 [.fn (.func 85) [] [.ptr 1 0, .ptr 2 0]]]) := by
 refine C.of_body func173 Z Z Z ?_
 refine Rg (S Z (Nx (TC.seq (Rg (S Z (LnM runUnderlying59 Z (S Z (Nx (Bd h fun b10 h11 h => ?_)))))))))
 refine TC.cutE (b := b10) (fun sb10 => []) (fun sb10 => [.cells 141 [.fn (.func 85) [] [.ptr 1 0, .ptr 2 0]], .cells 3 [.int .i64 a2], .cells 141 [.fn (.func 85) [] [.ptr 1 0, .ptr 2 0]]]) ?_ (fun sb10 env H hbe hle => ?_)
 ·
  refine TC.block ?_
  refine TC.loop (E := fun s13 => [(0, .rsl 3 (List.map Part.enc a1)), (1, .fn (.func 142) [] [.ptr 0 0]), (7, .int .i64 (a1.length : Int)), (8, .int .i64 s13)]) (Hp := fun s13 => [.cells 141 [.fn (.func 85) [] [.ptr 1 0, .ptr 2 0]], .cells 3 [.int .i64 a2], .cells 141 [.fn (.func 85) [] [.ptr 1 0, .ptr 2 0]]]) h11 ?_ ?_
  ·
   exact Lr [0, 1, 2]
  intro s13 d14 h15 hb12
  refine Rg (S Z (Nx (TC.seq (CnS Z h15 (fun hc16 h15 => ?_) (fun hc16 h15 => ?_)))))
  ·
   refine ExX (loopX h15 ?_)
   obtain rfl := hb12 _ (Oi h15).symm
   exact bloE (cutEN Z (Lr [0, 1, 2]))
  refine SkN (TC.seq (TC.block (Rg (S Z (S Z (Nx (Rg (S Z (S Z (S Z (Bd h15 fun x17 hx17 h15 => ?_)))))))))))
  refine vX (.rp [.int .i64 x17.Mat, .int .i64 x17.Laps, .rsl 3 (List.map Part.enc x17.Parts)]) (OpV.ixME (e := Part.enc) hx17 (Part.enc_eq x17) runUnderlying59 sizeOf85) ?_
  refine vX (.agg (Part.c x17)) (OpV.loadA Z isAgg85 sizeOf85 Z Pts.rp Z Z) ?_
  refine Bd h15 fun r18 hr18 h15 => ?_
  refine WO.callD [0, 1, 2] (OpC.clo call142 Z Z Z Z) (k_fo rec52 hrec52 _ _ _ _ hr18) ?_
  rintro _ _ ⟨rfl, rfl⟩
  refine aV (.bool r18) [_, _, _] Z Z ?_
  refine Nx (Cn Z h15 (fun hc19 h15 => ?_) (fun hc19 h15 => ?_))
  ·
   refine Rg (S Z (S Z (Nx (TC.ret (bloR (seqR (loopR h15 ?_)))))))
   obtain rfl := hb12 _ (Oi h15).symm
   refine bloR (cutER (seqR ?_))
   obtain rfl := Oi h
   refine ⟨[(4, _)], _, _, ?_, ResOK.one Z Z, Z, Z⟩
   exact Lr [0, 1, 2]
  exact TC.skip (bloN (seqN (TC.region (S Z (S Z (WO.nil (loopN h15 (Lr [0, 1, 2]))))))))
 subst hbe
 refine seqN (TC.le hle (Rg (S Z (Nx (TC.ret ?_)))))
 obtain rfl := Oi h
 refine ⟨[(4, _)], _, _, ?_, ResOK.one Z Z, Z, Z⟩
 exact Lr [0, 1, 2]
def F_ap (rec52 : (List Part) → Int → Option Bool) (n : Nat) (a1 : List Part) (a2 : Int) : Option Bool :=
  (F_an rec52 n a1 a2).bind fun r1 => some (decide (0 ≤ r1))
theorem k_ap (rec52 : (List Part) → Int → Option Bool) (hrec52 : ∀ (a1 : List Part) (a2 : Int) (r : Bool), rec52 a1 a2 = some r → C prog 87 [.rsl 3 (List.map Part.enc a1), .fn (.func 85) [] [.ptr 0 0, .ptr 1 0]] [.cells 3 [.int .i64 a2], .cells 141 [.fn (.func 85) [] [.ptr 0 0, .ptr 1 0]]] (fun a H => a = .bool r ∧ H = [.cells 3 [.int .i64 a2], .cells 141 [.fn (.func 85) [] [.ptr 0 0, .ptr 1 0]]])) (n : Nat) (a1 : List Part) (a2 : Int) (r : Bool) (h : F_ap rec52 n a1 a2 = some r) :
    C prog 141 [.rsl 3 (List.map Part.enc a1), .fn (.func 142) [] [.ptr 0 0]] [.cells 141 [.fn (.func 85) [] [.ptr 1 0, .ptr 2 0]], .cells 3 [.int .i64 a2], .cells 141 [.fn (.func 85) [] [.ptr 1 0, .ptr 2 0]]] (fun a H => a = .bool r ∧ H = [.cells 141 [.fn (.func 85) [] [.ptr 1 0, .ptr 2 0]], .cells 3 [.int .i64 a2], .cells 141 [.fn (.func 85) [] [.ptr 1 0, .ptr 2 0]]]) := by
 refine C.of_body func141 Z Z Z ?_
 refine Rg (S Z (Nx (Rg (S Z (S Z (Bd h fun r1 hr1 h => ?_))))))
 refine WO.callD [0, 1, 2] (OpC.fn call173 Z Z Z) (k_an rec52 hrec52 _ _ _ _ hr1) ?_
 rintro _ _ ⟨rfl, rfl⟩
 refine aV (.int .i64 r1) [_, _, _] Z Z ?_
 refine S Z (S Z (Nx (TC.ret ?_)))
 obtain rfl := Oi h
 refine ⟨[(4, _)], _, _, ?_, ResOK.one Z Z, Z, Z⟩
 exact Lr [0, 1, 2]
def B_f (rec52 : (List Part) → Int → Option Bool) (n : Nat) (a1 : List Part) (a2 : Int) : Option Bool :=
  (F_ap rec52 n a1 a2).bind fun r1 => some (!r1)
theorem okB_typing_all_xbr (rec52 : (List Part) → Int → Option Bool) (hrec52 : ∀ (a1 : List Part) (a2 : Int) (r : Bool), rec52 a1 a2 = some r → C prog 87 [.rsl 3 (List.map Part.enc a1), .fn (.func 85) [] [.ptr 0 0, .ptr 1 0]] [.cells 3 [.int .i64 a2], .cells 141 [.fn (.func 85) [] [.ptr 0 0, .ptr 1 0]]] (fun a H => a = .bool r ∧ H = [.cells 3 [.int .i64 a2], .cells 141 [.fn (.func 85) [] [.ptr 0 0, .ptr 1 0]]])) (n : Nat) (a1 : List Part) (a2 : Int) (r : Bool) (h : B_f rec52 n a1 a2 = some r) :
    C prog 87 [.rsl 3 (List.map Part.enc a1), .fn (.func 85) [] [.ptr 0 0, .ptr 1 0]] [.cells 3 [.int .i64 a2], .cells 141 [.fn (.func 85) [] [.ptr 0 0, .ptr 1 0]]] (fun a H => a = .bool r ∧ H = [.cells 3 [.int .i64 a2], .cells 141 [.fn (.func 85) [] [.ptr 0 0, .ptr 1 0]]]) := by
 refine C.of_body func87 Z Z Z ?_
 refine Rg ?_
 refine vH (OpH.box Z Z Z Z Z) ?_
 refine aV (.ptr 2 0) [_, _, .cells 141 [.fn (.func 85) [] [.ptr 0 0, .ptr 1 0]]] Z Z ?_
 refine S Z (Nx (Rg (S Z ?_)))
 refine vX (.fn (.func 142) [] [.ptr 2 0]) (OpV.makeFunc (first := []) (cap := [.tmp 3]) Z Z Z) ?_
 refine Bd h fun r1 hr1 h => ?_
 refine WO.callD [2, 0, 1] (OpC.fn call141 Z Z Z) (k_ap rec52 hrec52 _ _ _ _ hr1) ?_
 rintro _ _ ⟨rfl, rfl⟩
 refine aV (.bool r1) [_, _, _] Z Z ?_
 refine S Z (S Z (Nx (TC.ret ?_)))
 obtain rfl := Oi h
 refine ⟨[(4, _)], _, _, ?_, ResOK.one Z Z, Z, Z⟩
 exact Lr [0, 1]
def F_f : Nat → (List Part) → Int → Option Bool
  | 0 => fun _ _ => none
  | n + 1 => B_f (F_f n) n
theorem k_f (n : Nat) : ∀ (a1 : List Part) (a2 : Int) (r : Bool), F_f n a1 a2 = some r → C prog 87 [.rsl 3 (List.map Part.enc a1), .fn (.func 85) [] [.ptr 0 0, .ptr 1 0]] [.cells 3 [.int .i64 a2], .cells 141 [.fn (.func 85) [] [.ptr 0 0, .ptr 1 0]]] (fun a H => a = .bool r ∧ H = [.cells 3 [.int .i64 a2], .cells 141 [.fn (.func 85) [] [.ptr 0 0, .ptr 1 0]]]) := by
  induction n with
  | zero => intro a1 a2 r h; cases h
  | succ n ih => intro a1 a2 r h; exact okB_typing_all_xbr _ ih n a1 a2 r h
def F_bx (n : Nat) (a1 : Cutoff) (a2 : Int) : Option Bool :=
  ((F_a n 0 a2 [a1.Mat]).bind fun r7 => (bif r7 then (bif decide (1 ≤ a1.Lap) then (F_a n 0 1099511627776 [a1.Limit]).bind fun r10 => some r10 else some false) else some false) : Option Bool).bind fun b5 => some b5
theorem k_bx (n : Nat) (a1 : Cutoff) (a2 : Int) (r : Bool) (h : F_bx n a1 a2 = some r) :
    C prog 88 [.agg (Cutoff.c a1), .ptr 0 0] [.cells 3 [.int .i64 a2]] (fun a H => a = .bool r ∧ H = [.cells 3 [.int .i64 a2]]) := by
 refine C.of_body func88 Z Z Z ?_
 refine Rg ?_
 refine vH (OpH.box Z Z Z Z Z) ?_
 refine aV (.ptr 1 0) [_, .cells 122 (Cutoff.c a1)] Z Z ?_
 refine S Z (Nx (TC.seq (Bd h fun b5 h6 h => ?_)))
 refine TC.cut ([(3, .bool b5)]) ([.cells 3 [.int .i64 a2]]) ?_ (fun env H hle => ?_)
 ·
  refine TC.region (Ld isAgg3 Z (Fp fa_122_0 Z (Ld isAgg3 Z ?_)))
  refine vH (OpH.lit (xs := [.tmp 6]) (es := List.map (encI .i64) [a1.Mat]) el_39 Z Z Z Z Z ⟨Z, trivial⟩ Z Z) ?_
  refine aV (.osl 2 0 ([a1.Mat].length) 1) [_, _, .row 3 1 (List.map (encI .i64) [a1.Mat])] Z Z ?_
  refine Bd h6 fun r7 hr7 h6 => ?_
  refine WO.callB (OpC.fn call86 rfl rfl rfl) (LookL.cons rfl (.inl ⟨rfl, rfl⟩) (LookL.cons rfl (.inl ⟨rfl, rfl⟩) (LookL.cons rfl (.inr ⟨_, _, _, _, _, rfl, rfl, List.length_map .., rfl⟩) LookL.nil))) (k_a _ _ _ _ _ hr7) (by rintro _ _ ⟨rfl, rfl⟩; rfl) ?_
  rintro _ _ ⟨rfl, rfl⟩
  refine aV (.bool r7) [_, _, _] Z Z ?_
  refine S Z (If h6 (fun hg8 h6 => ?_) (fun hg8 h6 => ?_))
  ·
   refine Fpg (gT hg8) fa_122_1 Z (Ldg (gT hg8) isAgg3 Z (Sg (gT hg8) Z (Pk hg8 Z (S Z (If h6 (fun hg9 h6 => ?_) (fun hg9 h6 => ?_))))))
   ·
    refine Fpg (gT hg9) fa_122_2 Z (Ldg (gT hg9) isAgg3 Z ?_)
    refine vH (OpH.lit (xs := [.tmp 16]) (es := List.map (encI .i64) [a1.Limit]) el_39 Z Z Z Z Z ⟨Z, trivial⟩ Z Z) ?_ (gT hg9)
    refine aV (.osl 3 0 ([a1.Limit].length) 1) [_, _, _, .row 3 1 (List.map (encI .i64) [a1.Limit])] Z Z ?_
    refine Bd h6 fun r10 hr10 h6 => ?_
    refine WO.callB (OpC.fn call86 rfl rfl rfl) (LookL.cons rfl (.inl ⟨rfl, rfl⟩) (LookL.cons rfl (.inl ⟨rfl, rfl⟩) (LookL.cons rfl (.inr ⟨_, _, _, _, _, rfl, rfl, List.length_map .., rfl⟩) LookL.nil))) (k_a _ _ _ _ _ hr10) (by rintro _ _ ⟨rfl, rfl⟩; rfl) ?_ (gT hg9)
    rintro _ _ ⟨rfl, rfl⟩
    refine aV (.bool r10) [_, _, _, _] Z Z ?_
    refine Pk hg9 Z (S Z (WO.nil ?_))
    obtain rfl := Oi h6
    exact cutN (Lr [0])
   ·
    refine KF hg9 Z (KF hg9 Z (KF hg9 Z (KF hg9 Z (Pk hg9 Z (S Z (WO.nil ?_))))))
    obtain rfl := Oi h6
    exact cutN (Lr [0])
  ·
   refine KF hg8 Z (KF hg8 Z (KF hg8 Z (Pk hg8 Z (S Z (KF Z Z (KF Z Z (KF Z Z (KF Z Z (S Z (S Z (WO.nil ?_)))))))))))
   obtain rfl := Oi h6
   exact cutN (Lr [0])
 refine seqN (TC.le hle (TC.ret ?_))
 obtain rfl := Oi h
 refine ⟨[(3, _)], _, _, ?_, ResOK.one Z Z, Z, Z⟩
 exact Lr [0]
def F_fl (n : Nat) (a1 : Cutoff) (a2 : Int) : Option Bool :=
  (F_bx n a1 a2).bind fun r1 => some (!r1)
theorem k_fl (n : Nat) (a1 : Cutoff) (a2 : Int) (r : Bool) (h : F_fl n a1 a2 = some r) :
    C prog 144 [.agg (Cutoff.c a1), .ptr 0 0] [.cells 144 [.fn (.func 88) [] [.ptr 1 0]], .cells 3 [.int .i64 a2]] (fun a H => a = .bool r ∧ H = [.cells 144 [.fn (.func 88) [] [.ptr 1 0]], .cells 3 [.int .i64 a2]]) := by
 refine C.of_body func144 Z Z Z ?_
 refine Rg ?_
 refine vH (OpH.box Z Z Z Z Z) ?_
 refine aV (.ptr 2 0) [_, _, .cells 122 (Cutoff.c a1)] Z Z ?_
 refine S Z (Nx (Rg (Ld isAgg144 Z ?_)))
 refine vX (.agg (Cutoff.c a1)) (OpV.loadA Z isAgg122 sizeOf122 Z (Pts.cells Z Z) Z Z) ?_
 refine Bd h fun r1 hr1 h => ?_
 refine WO.callD [1] (OpC.clo call88 Z Z Z Z) (k_bx _ _ _ _ hr1) ?_
 rintro _ _ ⟨rfl, rfl⟩
 refine aV (.bool r1) [_, _, _] Z Z ?_
 refine S Z (S Z (Nx (TC.ret ?_)))
 obtain rfl := Oi h
 refine ⟨[(3, _)], _, _, ?_, ResOK.one Z Z, Z, Z⟩
 exact Lr [0, 1]
def F_hl (n : Nat) (a1 : List Cutoff) (a2 : Int) (s13 : Int) : Option (Ctl Int (Ctl Unit Int)) :=
  (bif decide (s13 < (a1.length : Int)) then (idx a1 s13).bind fun x17 => (F_fl n x17 a2).bind fun r18 => (bif r18 then some (.done (.done s13)) else some (.cont (IntKind.i64.wrap (s13 + 1)))) else some (.done (.cont ())))
def F_dx (n : Nat) (a1 : List Cutoff) (a2 : Int) : Option Int :=
  (iter (F_hl n a1 a2) n 0 : Option (Ctl Unit Int)).bind fun b10 => match b10 with | .cont sb10 => (some (-1)) | .done sb10 => some sb10
theorem k_dx (n : Nat) (a1 : List Cutoff) (a2 : Int) (r : Int) (h : F_dx n a1 a2 = some r) :
    C prog 174 [.rsl 3 (List.map Cutoff.c a1), .fn (.func 144) [] [.ptr 0 0]] [.cells 144 [.fn (.func 88) [] [.ptr 1 0]], .cells 3 [.int .i64 a2]] (fun a H => a = .int .i64 r ∧ H = [.cells 144 [.fn (.func 88) [] [.ptr 1 0]], .cells 3 [.int .i64 a2]]) := by
 refine C.of_body func174 Z Z Z ?_
 refine Rg (S Z (Nx (TC.seq (Rg (S Z (LnM runUnderlying60 Z (S Z (Nx (Bd h fun b10 h11 h => ?_)))))))))
 refine TC.cutE (b := b10) (fun sb10 => []) (fun sb10 => [.cells 144 [.fn (.func 88) [] [.ptr 1 0]], .cells 3 [.int .i64 a2]]) ?_ (fun sb10 env H hbe hle => ?_)
 ·
  refine TC.block ?_
  refine TC.loop (E := fun s13 => [(0, .rsl 3 (List.map Cutoff.c a1)), (1, .fn (.func 144) [] [.ptr 0 0]), (7, .int .i64 (a1.length : Int)), (8, .int .i64 s13)]) (Hp := fun s13 => [.cells 144 [.fn (.func 88) [] [.ptr 1 0]], .cells 3 [.int .i64 a2]]) h11 ?_ ?_
  ·
   exact Lr [0, 1]
  intro s13 d14 h15 hb12
  refine Rg (S Z (Nx (TC.seq (CnS Z h15 (fun hc16 h15 => ?_) (fun hc16 h15 => ?_)))))
  ·
   refine ExX (loopX h15 ?_)
   obtain rfl := hb12 _ (Oi h15).symm
   exact bloE (cutEN Z (Lr [0, 1]))
  refine SkN (TC.seq (TC.block (Rg (S Z (S Z (Nx (Rg (S Z (S Z (S Z (Bd h15 fun x17 hx17 h15 => Ix hx17 runUnderlying60 sizeOf122 Z ?_)))))))))))
  refine vX (.agg (Cutoff.c x17)) (OpV.loadA Z isAgg122 sizeOf122 Z Pts.rp Z Z) ?_
  refine Bd h15 fun r18 hr18 h15 => ?_
  refine WO.callD [0, 1] (OpC.clo call144 Z Z Z Z) (k_fl _ _ _ _ hr18) ?_
  rintro _ _ ⟨rfl, rfl⟩
  refine aV (.bool r18) [_, _] Z Z ?_
  refine Nx (Cn Z h15 (fun hc19 h15 => ?_) (fun hc19 h15 => ?_))
  ·
   refine Rg (S Z (S Z (Nx (TC.ret (bloR (seqR (loopR h15 ?_)))))))
   obtain rfl := hb12 _ (Oi h15).symm
   refine bloR (cutER (seqR ?_))
   obtain rfl := Oi h
   refine ⟨[(4, _)], _, _, ?_, ResOK.one Z Z, Z, Z⟩
   exact Lr [0, 1]
  exact TC.skip (bloN (seqN (TC.region (S Z (S Z (WO.nil (loopN h15 (Lr [0, 1]))))))))
 subst hbe
 refine seqN (TC.le hle (Rg (S Z (Nx (TC.ret ?_)))))
 obtain rfl := Oi h
 refine ⟨[(4, _)], _, _, ?_, ResOK.one Z Z, Z, Z⟩
 exact Lr [0, 1]
def F_dq (n : Nat) (a1 : List Cutoff) (a2 : Int) : Option Bool :=
  (F_dx n a1 a2).bind fun r1 => some (decide (0 ≤ r1))
theorem k_dq (n : Nat) (a1 : List Cutoff) (a2 : Int) (r : Bool) (h : F_dq n a1 a2 = some r) :
    C prog 143 [.rsl 3 (List.map Cutoff.c a1), .fn (.func 144) [] [.ptr 0 0]] [.cells 144 [.fn (.func 88) [] [.ptr 1 0]], .cells 3 [.int .i64 a2]] (fun a H => a = .bool r ∧ H = [.cells 144 [.fn (.func 88) [] [.ptr 1 0]], .cells 3 [.int .i64 a2]]) := by
 refine C.of_body func143 Z Z Z ?_
 refine Rg (S Z (Nx (Rg (S Z (S Z (Bd h fun r1 hr1 h => ?_))))))
 refine WO.callD [0, 1] (OpC.fn call174 Z Z Z) (k_dx _ _ _ _ hr1) ?_
 rintro _ _ ⟨rfl, rfl⟩
 refine aV (.int .i64 r1) [_, _] Z Z ?_
 refine S Z (S Z (Nx (TC.ret ?_)))
 obtain rfl := Oi h
 refine ⟨[(4, _)], _, _, ?_, ResOK.one Z Z, Z, Z⟩
 exact Lr [0, 1]
def F_ay (n : Nat) (a1 : List Cutoff) (a2 : Int) : Option Bool :=
  (F_dq n a1 a2).bind fun r1 => some (!r1)
theorem k_ay (n : Nat) (a1 : List Cutoff) (a2 : Int) (r : Bool) (h : F_ay n a1 a2 = some r) :
    C prog 90 [.rsl 3 (List.map Cutoff.c a1), .fn (.func 88) [] [.ptr 0 0]] [.cells 3 [.int .i64 a2]] (fun a H => a = .bool r ∧ H = [.cells 3 [.int .i64 a2]]) := by
 refine C.of_body func90 Z Z Z ?_
 refine Rg ?_
 refine vH (OpH.box Z Z Z Z Z) ?_
 refine aV (.ptr 1 0) [_, .cells 144 [.fn (.func 88) [] [.ptr 0 0]]] Z Z ?_
 refine S Z (Nx (Rg (S Z ?_)))
 refine vX (.fn (.func 144) [] [.ptr 1 0]) (OpV.makeFunc (first := []) (cap := [.tmp 3]) Z Z Z) ?_
 refine Bd h fun r1 hr1 h => ?_
 refine WO.callD [1, 0] (OpC.fn call143 Z Z Z) (k_dq _ _ _ _ hr1) ?_
 rintro _ _ ⟨rfl, rfl⟩
 refine aV (.bool r1) [_, _] Z Z ?_
 refine S Z (S Z (Nx (TC.ret ?_)))
 obtain rfl := Oi h
 refine ⟨[(4, _)], _, _, ?_, ResOK.one Z Z, Z, Z⟩
 exact Lr [0]
def F_az (n : Nat) (a1 : Distance) (a2 : Int) : Option Bool :=
  ((F_a n 1 3 [a1.Timing]).bind fun r10 => (bif r10 then (F_a n (-1) a2 [a1.Extra]).bind fun r12 => (bif r12 then (F_f n a1.Route a2).bind fun r14 => (bif r14 then (F_ay n a1.Cutoffs a2).bind fun r16 => some r16 else some false) else some false) else some false) : Option Bool).bind fun b8 => some b8
theorem k_az (n : Nat) (a1 : Distance) (a2 : Int) (r : Bool) (h : F_az n a1 a2 = some r) :
    C prog 89 [.agg (Distance.c a1), .ptr 0 0, .ptr 1 0, .ptr 2 0] [.cells 3 [.int .i64 a2], .cells 141 [.fn (.func 85) [] [.ptr 0 0, .ptr 1 0]], .cells 144 [.fn (.func 88) [] [.ptr 0 0]]] (fun a H => a = .bool r ∧ H = [.cells 3 [.int .i64 a2], .cells 141 [.fn (.func 85) [] [.ptr 0 0, .ptr 1 0]], .cells 144 [.fn (.func 88) [] [.ptr 0 0]]]) := by
 refine C.of_body func89 Z Z Z ?_
 refine Rg ?_
 refine vH (OpH.box Z Z Z Z Z) ?_
 refine aV (.ptr 3 0) [_, _, _, .cells 62 (Distance.c a1)] Z Z ?_
 refine S Z (Nx (TC.seq (Bd h fun b8 h9 h => ?_)))
 refine TC.cut ([(5, .bool b8)]) ([.cells 3 [.int .i64 a2], .cells 141 [.fn (.func 85) [] [.ptr 0 0, .ptr 1 0]], .cells 144 [.fn (.func 88) [] [.ptr 0 0]]]) ?_ (fun env H hle => ?_)
 ·
  refine TC.region (Fp fa_62_2 Z (Ld isAgg3 Z ?_))
  refine vH (OpH.lit (xs := [.tmp 7]) (es := List.map (encI .i64) [a1.Timing]) el_39 Z Z Z Z Z ⟨Z, trivial⟩ Z Z) ?_
  refine aV (.osl 4 0 ([a1.Timing].length) 1) [_, _, _, _, .row 3 1 (List.map (encI .i64) [a1.Timing])] Z Z ?_
  refine Bd h9 fun r10 hr10 h9 => ?_
  refine WO.callB (OpC.fn call86 rfl rfl rfl) (LookL.cons rfl (.inl ⟨rfl, rfl⟩) (LookL.cons rfl (.inl ⟨rfl, rfl⟩) (LookL.cons rfl (.inr ⟨_, _, _, _, _, rfl, rfl, List.length_map .., rfl⟩) LookL.nil))) (k_a _ _ _ _ _ hr10) (by rintro _ _ ⟨rfl, rfl⟩; rfl) ?_
  rintro _ _ ⟨rfl, rfl⟩
  refine aV (.bool r10) [_, _, _, _, _] Z Z ?_
  refine S Z (If h9 (fun hg11 h9 => ?_) (fun hg11 h9 => ?_))
  ·
   refine Ldg (gT hg11) isAgg3 Z (Fpg (gT hg11) fa_62_4 Z (Ldg (gT hg11) isAgg3 Z ?_))
   refine vH (OpH.lit (xs := [.tmp 13]) (es := List.map (encI .i64) [a1.Extra]) el_39 Z Z Z Z Z ⟨Z, trivial⟩ Z Z) ?_ (gT hg11)
   refine aV (.osl 5 0 ([a1.Extra].length) 1) [_, _, _, _, _, .row 3 1 (List.map (encI .i64) [a1.Extra])] Z Z ?_
   refine Bd h9 fun r12 hr12 h9 => ?_
   refine WO.callB (OpC.fn call86 rfl rfl rfl) (LookL.cons rfl (.inl ⟨rfl, rfl⟩) (LookL.cons rfl (.inl ⟨rfl, rfl⟩) (LookL.cons rfl (.inr ⟨_, _, _, _, _, rfl, rfl, List.length_map .., rfl⟩) LookL.nil))) (k_a _ _ _ _ _ hr12) (by rintro _ _ ⟨rfl, rfl⟩; rfl) ?_ (gT hg11)
   rintro _ _ ⟨rfl, rfl⟩
   refine aV (.bool r12) [_, _, _, _, _, _] Z Z ?_
   refine Pk hg11 Z (S Z (If h9 (fun hg13 h9 => ?_) (fun hg13 h9 => ?_)))
   ·
    refine Fpg (gT hg13) fa_62_1 Z (Ldg (gT hg13) isAgg59 Z (Ldg (gT hg13) isAgg141 Z (Bd h9 fun r14 hr14 h9 => ?_)))
    refine WO.callD [0, 1] (OpC.fn call87 Z Z Z) (k_f _ _ _ _ hr14) ?_ (hg := (gT hg13))
    rintro _ _ ⟨rfl, rfl⟩
    refine aV (.bool r14) [_, _, _, _, _, _] Z Z ?_
    refine Pk hg13 Z (S Z (If h9 (fun hg15 h9 => ?_) (fun hg15 h9 => ?_)))
    ·
     refine Fpg (gT hg15) fa_62_3 Z (Ldg (gT hg15) isAgg60 Z (Ldg (gT hg15) isAgg144 Z (Bd h9 fun r16 hr16 h9 => ?_)))
     refine WO.callD [0] (OpC.fn call90 Z Z Z) (k_ay _ _ _ _ hr16) ?_ (hg := (gT hg15))
     rintro _ _ ⟨rfl, rfl⟩
     refine aV (.bool r16) [_, _, _, _, _, _] Z Z ?_
     refine Pk hg15 Z (S Z (WO.nil ?_))
     obtain rfl := Oi h9
     exact cutN (Lr [0, 1, 2])
    ·
     refine KF hg15 Z (KF hg15 Z (KF hg15 Z (KF hg15 Z (Pk hg15 Z (S Z (WO.nil ?_))))))
     obtain rfl := Oi h9
     exact cutN (Lr [0, 1, 2])
   ·
    refine KF hg13 Z (KF hg13 Z (KF hg13 Z (KF hg13 Z (Pk hg13 Z (S Z (KF Z Z (KF Z Z (KF Z Z (KF Z Z (S Z (S Z (WO.nil ?_))))))))))))
    obtain rfl := Oi h9
    exact cutN (Lr [0, 1, 2])
  ·
   refine KF hg11 Z (KF hg11 Z (KF hg11 Z (KF hg11 Z (KF hg11 Z (Pk hg11 Z (S Z (KF Z Z (KF Z Z (KF Z Z (KF Z Z (S Z (S Z (KF Z Z (KF Z Z (KF Z Z (KF Z Z (S Z (S Z (WO.nil ?_)))))))))))))))))))
   obtain rfl := Oi h9
   exact cutN (Lr [0, 1, 2])
 refine seqN (TC.le hle (TC.ret ?_))
 obtain rfl := Oi h
 refine ⟨[(5, _)], _, _, ?_, ResOK.one Z Z, Z, Z⟩
 exact Lr [0, 1, 2]
def F_fp (n : Nat) (a1 : Distance) (a2 : Int) : Option Bool :=
  (F_az n a1 a2).bind fun r1 => some (!r1)
theorem k_fp (n : Nat) (a1 : Distance) (a2 : Int) (r : Bool) (h : F_fp n a1 a2 = some r) :
    C prog 110 [.agg (Distance.c a1), .ptr 0 0] [.cells 95 [.fn (.func 89) [] [.ptr 1 0, .ptr 2 0, .ptr 3 0]], .cells 3 [.int .i64 a2], .cells 141 [.fn (.func 85) [] [.ptr 1 0, .ptr 2 0]], .cells 144 [.fn (.func 88) [] [.ptr 1 0]]] (fun a H => a = .bool r ∧ H = [.cells 95 [.fn (.func 89) [] [.ptr 1 0, .ptr 2 0, .ptr 3 0]], .cells 3 [.int .i64 a2], .cells 141 [.fn (.func 85) [] [.ptr 1 0, .ptr 2 0]], .cells 144 [.fn (.func 88) [] [.ptr 1 0]]]) := by
 refine C.of_body func110 Z Z Z ?_
 refine Rg ?_
 refine vH (OpH.box Z Z Z Z Z) ?_
 refine aV (.ptr 4 0) [_, _, _, _, .cells 62 (Distance.c a1)] Z Z ?_
 refine S Z (Nx (Rg (Ld isAgg95 Z ?_)))
 refine vX (.agg (Distance.c a1)) (OpV.loadA Z isAgg62 sizeOf62 Z (Pts.cells Z Z) Z Z) ?_
 refine Bd h fun r1 hr1 h => ?_
 refine WO.callD [1, 2, 3] (OpC.clo call89 Z Z Z Z) (k_az _ _ _ _ hr1) ?_
 rintro _ _ ⟨rfl, rfl⟩
 refine aV (.bool r1) [_, _, _, _, _] Z Z ?_
 refine S Z (S Z (Nx (TC.ret ?_)))
 obtain rfl := Oi h
 refine ⟨[(3, _)], _, _, ?_, ResOK.one Z Z, Z, Z⟩
 exact Lr [0, 1, 2, 3]
def F_ht (n : Nat) (a1 : List Distance) (a2 : Int) (s13 : Int) : Option (Ctl Int (Ctl Unit Int)) :=
  (bif decide (s13 < (a1.length : Int)) then (idx a1 s13).bind fun x17 => (F_fp n x17 a2).bind fun r18 => (bif r18 then some (.done (.done s13)) else some (.cont (IntKind.i64.wrap (s13 + 1)))) else some (.done (.cont ())))
def F_dc (n : Nat) (a1 : List Distance) (a2 : Int) : Option Int :=
  (iter (F_ht n a1 a2) n 0 : Option (Ctl Unit Int)).bind fun b10 => match b10 with | .cont sb10 => (some (-1)) | .done sb10 => some sb10
theorem k_dc (n : Nat) (a1 : List Distance) (a2 : Int) (r : Int) (h : F_dc n a1 a2 = some r) :
    C prog 160 [.rsl 5 (List.map Distance.c a1), .fn (.func 110) [] [.ptr 0 0]] [.cells 95 [.fn (.func 89) [] [.ptr 1 0, .ptr 2 0, .ptr 3 0]], .cells 3 [.int .i64 a2], .cells 141 [.fn (.func 85) [] [.ptr 1 0, .ptr 2 0]], .cells 144 [.fn (.func 88) [] [.ptr 1 0]]] (fun a H => a = .int .i64 r ∧ H = [.cells 95 [.fn (.func 89) [] [.ptr 1 0, .ptr 2 0, .ptr 3 0]], .cells 3 [.int .i64 a2], .cells 141 [.fn (.func 85) [] [.ptr 1 0, .ptr 2 0]], .cells 144 [.fn (.func 88) [] [.ptr 1 0]]]) := by
 refine C.of_body func160 Z Z Z ?_
 refine Rg (S Z (Nx (TC.seq (Rg (S Z (LnM runUnderlying24 Z (S Z (Nx (Bd h fun b10 h11 h => ?_)))))))))
 refine TC.cutE (b := b10) (fun sb10 => []) (fun sb10 => [.cells 95 [.fn (.func 89) [] [.ptr 1 0, .ptr 2 0, .ptr 3 0]], .cells 3 [.int .i64 a2], .cells 141 [.fn (.func 85) [] [.ptr 1 0, .ptr 2 0]], .cells 144 [.fn (.func 88) [] [.ptr 1 0]]]) ?_ (fun sb10 env H hbe hle => ?_)
 ·
  refine TC.block ?_
  refine TC.loop (E := fun s13 => [(0, .rsl 5 (List.map Distance.c a1)), (1, .fn (.func 110) [] [.ptr 0 0]), (7, .int .i64 (a1.length : Int)), (8, .int .i64 s13)]) (Hp := fun s13 => [.cells 95 [.fn (.func 89) [] [.ptr 1 0, .ptr 2 0, .ptr 3 0]], .cells 3 [.int .i64 a2], .cells 141 [.fn (.func 85) [] [.ptr 1 0, .ptr 2 0]], .cells 144 [.fn (.func 88) [] [.ptr 1 0]]]) h11 ?_ ?_
  ·
   exact Lr [0, 1, 2, 3]
  intro s13 d14 h15 hb12
  refine Rg (S Z (Nx (TC.seq (CnS Z h15 (fun hc16 h15 => ?_) (fun hc16 h15 => ?_)))))
  ·
   refine ExX (loopX h15 ?_)
   obtain rfl := hb12 _ (Oi h15).symm
   exact bloE (cutEN Z (Lr [0, 1, 2, 3]))
  refine SkN (TC.seq (TC.block (Rg (S Z (S Z (Nx (Rg (S Z (S Z (S Z (Bd h15 fun x17 hx17 h15 => Ix hx17 runUnderlying24 sizeOf62 Z ?_)))))))))))
  refine vX (.agg (Distance.c x17)) (OpV.loadA Z isAgg62 sizeOf62 Z Pts.rp Z Z) ?_
  refine Bd h15 fun r18 hr18 h15 => ?_
  refine WO.callD [0, 1, 2, 3] (OpC.clo call110 Z Z Z Z) (k_fp _ _ _ _ hr18) ?_
  rintro _ _ ⟨rfl, rfl⟩
  refine aV (.bool r18) [_, _, _, _] Z Z ?_
  refine Nx (Cn Z h15 (fun hc19 h15 => ?_) (fun hc19 h15 => ?_))
  ·
   refine Rg (S Z (S Z (Nx (TC.ret (bloR (seqR (loopR h15 ?_)))))))
   obtain rfl := hb12 _ (Oi h15).symm
   refine bloR (cutER (seqR ?_))
   obtain rfl := Oi h
   refine ⟨[(4, _)], _, _, ?_, ResOK.one Z Z, Z, Z⟩
   exact Lr [0, 1, 2, 3]
  exact TC.skip (bloN (seqN (TC.region (S Z (S Z (WO.nil (loopN h15 (Lr [0, 1, 2, 3]))))))))
 subst hbe
 refine seqN (TC.le hle (Rg (S Z (Nx (TC.ret ?_)))))
 obtain rfl := Oi h
 refine ⟨[(4, _)], _, _, ?_, ResOK.one Z Z, Z, Z⟩
 exact Lr [0, 1, 2, 3]
def F_ev (n : Nat) (a1 : List Distance) (a2 : Int) : Option Bool :=
  (F_dc n a1 a2).bind fun r1 => some (decide (0 ≤ r1))
theorem k_ev (n : Nat) (a1 : List Distance) (a2 : Int) (r : Bool) (h : F_ev n a1 a2 = some r) :
    C prog 109 [.rsl 5 (List.map Distance.c a1), .fn (.func 110) [] [.ptr 0 0]] [.cells 95 [.fn (.func 89) [] [.ptr 1 0, .ptr 2 0, .ptr 3 0]], .cells 3 [.int .i64 a2], .cells 141 [.fn (.func 85) [] [.ptr 1 0, .ptr 2 0]], .cells 144 [.fn (.func 88) [] [.ptr 1 0]]] (fun a H => a = .bool r ∧ H = [.cells 95 [.fn (.func 89) [] [.ptr 1 0, .ptr 2 0, .ptr 3 0]], .cells 3 [.int .i64 a2], .cells 141 [.fn (.func 85) [] [.ptr 1 0, .ptr 2 0]], .cells 144 [.fn (.func 88) [] [.ptr 1 0]]]) := by
 refine C.of_body func109 Z Z Z ?_
 refine Rg (S Z (Nx (Rg (S Z (S Z (Bd h fun r1 hr1 h => ?_))))))
 refine WO.callD [0, 1, 2, 3] (OpC.fn call160 Z Z Z) (k_dc _ _ _ _ hr1) ?_
 rintro _ _ ⟨rfl, rfl⟩
 refine aV (.int .i64 r1) [_, _, _, _] Z Z ?_
 refine S Z (S Z (Nx (TC.ret ?_)))
 obtain rfl := Oi h
 refine ⟨[(4, _)], _, _, ?_, ResOK.one Z Z, Z, Z⟩
 exact Lr [0, 1, 2, 3]
def F_bp (n : Nat) (a1 : List Distance) (a2 : Int) : Option Bool :=
  (F_ev n a1 a2).bind fun r1 => some (!r1)
theorem k_bp (n : Nat) (a1 : List Distance) (a2 : Int) (r : Bool) (h : F_bp n a1 a2 = some r) :
    C prog 47 [.rsl 5 (List.map Distance.c a1), .fn (.func 89) [] [.ptr 0 0, .ptr 1 0, .ptr 2 0]] [.cells 3 [.int .i64 a2], .cells 141 [.fn (.func 85) [] [.ptr 0 0, .ptr 1 0]], .cells 144 [.fn (.func 88) [] [.ptr 0 0]]] (fun a H => a = .bool r ∧ H = [.cells 3 [.int .i64 a2], .cells 141 [.fn (.func 85) [] [.ptr 0 0, .ptr 1 0]], .cells 144 [.fn (.func 88) [] [.ptr 0 0]]]) := by
 refine C.of_body func47 Z Z Z ?_
 refine Rg ?_
 refine vH (OpH.box Z Z Z Z Z) ?_
 refine aV (.ptr 3 0) [_, _, _, .cells 95 [.fn (.func 89) [] [.ptr 0 0, .ptr 1 0, .ptr 2 0]]] Z Z ?_
 refine S Z (Nx (Rg (S Z ?_)))
 refine vX (.fn (.func 110) [] [.ptr 3 0]) (OpV.makeFunc (first := []) (cap := [.tmp 3]) Z Z Z) ?_
 refine Bd h fun r1 hr1 h => ?_
 refine WO.callD [3, 0, 1, 2] (OpC.fn call109 Z Z Z) (k_ev _ _ _ _ hr1) ?_
 rintro _ _ ⟨rfl, rfl⟩
 refine aV (.bool r1) [_, _, _, _] Z Z ?_
 refine S Z (S Z (Nx (TC.ret ?_)))
 obtain rfl := Oi h
 refine ⟨[(4, _)], _, _, ?_, ResOK.one Z Z, Z, Z⟩
 exact Lr [0, 1, 2]
def F_br (n : Nat) (a1 : Wave) : Option Bool :=
  (F_a n 0 1099511627776 [a1.Gun]).bind fun r1 => some r1
theorem k_br (n : Nat) (a1 : Wave) (r : Bool) (h : F_br n a1 = some r) :
    C prog 100 [.agg (Wave.c a1)] [] (fun a H => a = .bool r ∧ H = []) := by
 refine C.of_body func100 Z Z Z ?_
 refine Rg ?_
 refine vH (OpH.box Z Z Z Z Z) ?_
 refine aV (.ptr 0 0) [.cells 109 (Wave.c a1)] Z Z ?_
 refine S Z (Nx (Rg (Fp fa_109_1 Z (Ld isAgg3 Z ?_))))
 refine vH (OpH.lit (xs := [.tmp 4]) (es := List.map (encI .i64) [a1.Gun]) el_39 Z Z Z Z Z ⟨Z, trivial⟩ Z Z) ?_
 refine aV (.osl 1 0 ([a1.Gun].length) 1) [_, .row 3 1 (List.map (encI .i64) [a1.Gun])] Z Z ?_
 refine Bd h fun r1 hr1 h => ?_
 refine WO.callB (OpC.fn call86 rfl rfl rfl) (LookL.cons rfl (.inl ⟨rfl, rfl⟩) (LookL.cons rfl (.inl ⟨rfl, rfl⟩) (LookL.cons rfl (.inr ⟨_, _, _, _, _, rfl, rfl, List.length_map .., rfl⟩) LookL.nil))) (k_a _ _ _ _ _ hr1) (by rintro _ _ ⟨rfl, rfl⟩; rfl) ?_
 rintro _ _ ⟨rfl, rfl⟩
 refine aV (.bool r1) [_, _] Z Z ?_
 refine S Z (Nx (TC.ret ?_))
 obtain rfl := Oi h
 refine ⟨[(2, _)], _, _, ?_, ResOK.one Z Z, Z, Z⟩
 exact Lr []
def F_fz (n : Nat) (a1 : Wave) : Option Bool :=
  (F_br n a1).bind fun r1 => some (!r1)
theorem k_fz (n : Nat) (a1 : Wave) (r : Bool) (h : F_fz n a1 = some r) :
    C prog 150 [.agg (Wave.c a1), .ptr 0 0] [.cells 155 [.fn (.func 100) [] []]] (fun a H => a = .bool r ∧ H = [.cells 155 [.fn (.func 100) [] []]]) := by
 refine C.of_body func150 Z Z Z ?_
 refine Rg ?_
 refine vH (OpH.box Z Z Z Z Z) ?_
 refine aV (.ptr 1 0) [_, .cells 109 (Wave.c a1)] Z Z ?_
 refine S Z (Nx (Rg (Ld isAgg155 Z ?_)))
 refine vX (.agg (Wave.c a1)) (OpV.loadA Z isAgg109 sizeOf109 Z (Pts.cells Z Z) Z Z) ?_
 refine Bd h fun r1 hr1 h => ?_
 refine WO.callD [] (OpC.clo call100 Z Z Z Z) (k_br _ _ _ hr1) ?_
 rintro _ _ ⟨rfl, rfl⟩
 refine aV (.bool r1) [_, _] Z Z ?_
 refine S Z (S Z (Nx (TC.ret ?_)))
 obtain rfl := Oi h
 refine ⟨[(3, _)], _, _, ?_, ResOK.one Z Z, Z, Z⟩
 exact Lr [0]
def F_hh (n : Nat) (a1 : List Wave) (s13 : Int) : Option (Ctl Int (Ctl Unit Int)) :=
  (bif decide (s13 < (a1.length : Int)) then (idx a1 s13).bind fun x17 => (F_fz n x17).bind fun r18 => (bif r18 then some (.done (.done s13)) else some (.cont (IntKind.i64.wrap (s13 + 1)))) else some (.done (.cont ())))
def F_eq (n : Nat) (a1 : List Wave) : Option Int :=
  (iter (F_hh n a1) n 0 : Option (Ctl Unit Int)).bind fun b10 => match b10 with | .cont sb10 => (some (-1)) | .done sb10 => some sb10
theorem k_eq (n : Nat) (a1 : List Wave) (r : Int) (h : F_eq n a1 = some r) :
    C prog 177 [.rsl 2 (List.map Wave.c a1), .fn (.func 150) [] [.ptr 0 0]] [.cells 155 [.fn (.func 100) [] []]] (fun a H => a = .int .i64 r ∧ H = [.cells 155 [.fn (.func 100) [] []]]) := by
 refine C.of_body func177 Z Z Z ?_
 refine Rg (S Z (Nx (TC.seq (Rg (S Z (LnM runUnderlying25 Z (S Z (Nx (Bd h fun b10 h11 h => ?_)))))))))
 refine TC.cutE (b := b10) (fun sb10 => []) (fun sb10 => [.cells 155 [.fn (.func 100) [] []]]) ?_ (fun sb10 env H hbe hle => ?_)
 ·
  refine TC.block ?_
  refine TC.loop (E := fun s13 => [(0, .rsl 2 (List.map Wave.c a1)), (1, .fn (.func 150) [] [.ptr 0 0]), (7, .int .i64 (a1.length : Int)), (8, .int .i64 s13)]) (Hp := fun s13 => [.cells 155 [.fn (.func 100) [] []]]) h11 ?_ ?_
  ·
   exact Lr [0]
  intro s13 d14 h15 hb12
  refine Rg (S Z (Nx (TC.seq (CnS Z h15 (fun hc16 h15 => ?_) (fun hc16 h15 => ?_)))))
  ·
   refine ExX (loopX h15 ?_)
   obtain rfl := hb12 _ (Oi h15).symm
   exact bloE (cutEN Z (Lr [0]))
  refine SkN (TC.seq (TC.block (Rg (S Z (S Z (Nx (Rg (S Z (S Z (S Z (Bd h15 fun x17 hx17 h15 => Ix hx17 runUnderlying25 sizeOf109 Z ?_)))))))))))
  refine vX (.agg (Wave.c x17)) (OpV.loadA Z isAgg109 sizeOf109 Z Pts.rp Z Z) ?_
  refine Bd h15 fun r18 hr18 h15 => ?_
  refine WO.callD [0] (OpC.clo call150 Z Z Z Z) (k_fz _ _ _ hr18) ?_
  rintro _ _ ⟨rfl, rfl⟩
  refine aV (.bool r18) [_] Z Z ?_
  refine Nx (Cn Z h15 (fun hc19 h15 => ?_) (fun hc19 h15 => ?_))
  ·
   refine Rg (S Z (S Z (Nx (TC.ret (bloR (seqR (loopR h15 ?_)))))))
   obtain rfl := hb12 _ (Oi h15).symm
   refine bloR (cutER (seqR ?_))
   obtain rfl := Oi h
   refine ⟨[(4, _)], _, _, ?_, ResOK.one Z Z, Z, Z⟩
   exact Lr [0]
  exact TC.skip (bloN (seqN (TC.region (S Z (S Z (WO.nil (loopN h15 (Lr [0]))))))))
 subst hbe
 refine seqN (TC.le hle (Rg (S Z (Nx (TC.ret ?_)))))
 obtain rfl := Oi h
 refine ⟨[(4, _)], _, _, ?_, ResOK.one Z Z, Z, Z⟩
 exact Lr [0]
def F_df (n : Nat) (a1 : List Wave) : Option Bool :=
  (F_eq n a1).bind fun r1 => some (decide (0 ≤ r1))
theorem k_df (n : Nat) (a1 : List Wave) (r : Bool) (h : F_df n a1 = some r) :
    C prog 149 [.rsl 2 (List.map Wave.c a1), .fn (.func 150) [] [.ptr 0 0]] [.cells 155 [.fn (.func 100) [] []]] (fun a H => a = .bool r ∧ H = [.cells 155 [.fn (.func 100) [] []]]) := by
 refine C.of_body func149 Z Z Z ?_
 refine Rg (S Z (Nx (Rg (S Z (S Z (Bd h fun r1 hr1 h => ?_))))))
 refine WO.callD [0] (OpC.fn call177 Z Z Z) (k_eq _ _ _ hr1) ?_
 rintro _ _ ⟨rfl, rfl⟩
 refine aV (.int .i64 r1) [_] Z Z ?_
 refine S Z (S Z (Nx (TC.ret ?_)))
 obtain rfl := Oi h
 refine ⟨[(4, _)], _, _, ?_, ResOK.one Z Z, Z, Z⟩
 exact Lr [0]
def F_be (n : Nat) (a1 : List Wave) : Option Bool :=
  (F_df n a1).bind fun r1 => some (!r1)
theorem k_be (n : Nat) (a1 : List Wave) (r : Bool) (h : F_be n a1 = some r) :
    C prog 99 [.rsl 2 (List.map Wave.c a1), .fn (.func 100) [] []] [] (fun a H => a = .bool r ∧ H = []) := by
 refine C.of_body func99 Z Z Z ?_
 refine Rg ?_
 refine vH (OpH.box Z Z Z Z Z) ?_
 refine aV (.ptr 0 0) [.cells 155 [.fn (.func 100) [] []]] Z Z ?_
 refine S Z (Nx (Rg (S Z ?_)))
 refine vX (.fn (.func 150) [] [.ptr 0 0]) (OpV.makeFunc (first := []) (cap := [.tmp 3]) Z Z Z) ?_
 refine Bd h fun r1 hr1 h => ?_
 refine WO.callD [0] (OpC.fn call149 Z Z Z) (k_df _ _ _ hr1) ?_
 rintro _ _ ⟨rfl, rfl⟩
 refine aV (.bool r1) [_] Z Z ?_
 refine S Z (S Z (Nx (TC.ret ?_)))
 obtain rfl := Oi h
 refine ⟨[(4, _)], _, _, ?_, ResOK.one Z Z, Z, Z⟩
 exact Lr []
end Go.Sw
