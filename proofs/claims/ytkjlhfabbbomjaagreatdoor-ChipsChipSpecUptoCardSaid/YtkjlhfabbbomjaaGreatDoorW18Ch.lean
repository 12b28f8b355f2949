/- What the functions compute that ChipsChipSpec reaches, and that their calls refine it (part 5 of 5). -/
import Derived.Test.YtkjlhfabbbomjaaGreatDoorW18Ch4
set_option linter.unusedVariables false
set_option linter.unusedSimpArgs false
set_option maxRecDepth 100000
set_option maxHeartbeats 4000000
namespace Go.Sw
open Go.Proofs Tryz
def F_gh (n : Nat) (a1 : Course) (a2 : List Fact) (s113 : (List (Int × Fact)) × Int) : Option (Ctl ((List (Int × Fact)) × Int) (List (Int × Fact))) :=
  (bif decide (s113.2 < (a2.length : Int)) then ((idx a2 s113.2).bind fun x144 => ((bif (x144.Kind != 1) then some true else (F_x n x144).bind fun r152 => (bif (r152 != 0) then some true else (bif decide ((a1.Distances.length : Int) ≤ x144.Starter.Distance) then some true else some (decide ((a1.Waves.length : Int) ≤ x144.Starter.Wave))))) : Option Bool).bind fun b149 => (bif b149 then some s113.1 else (some (mgetD s113.1 x144.Starter.Bib ({ Crew := 0, No := 0, At := 0, Kind := 0, Starter := { Bib := 0, Distance := 0, Wave := 0, Slot := 0, Age := 0, Chip := 0, Team := 0, Lot := 0 : Starter }, Read := { Mat := 0, Epoch := 0, Chip := 0, Local := 0 : Read }, Beacon := { Mat := 0, Epoch := 0, Local := 0, True := 0, Err := 0 : Beacon }, Sync := { MatA := 0, EpochA := 0, LocalA := 0, MatB := 0, EpochB := 0, LocalB := 0, Min := 0, Max := 0 : Sync }, Hand := { Bib := 0, Position := 0, Lo := 0, Hi := 0 : Hand }, Silence := { Mat := 0, Epoch := 0, Lo := 0, Hi := 0 : Silence }, Pair := { A := 0, B := 0 : Pair }, Report := { Case := 0, Bib := 0, Offence := 0, Position := 0 : Report }, Protest := { Case := 0, By := 0, Fee := 0, Form := 0 : Protest }, Ruling := { Case := 0, Instance := 0, Kind := 0, Bib := 0, Position := 0, Amount := 0 : Ruling }, Appeal := { Case := 0, Suspends := false : Appeal }, Void := { Crew := 0, No := 0 : Ref } : Fact }))).bind fun v156 => ((bif (!(mhas s113.1 x144.Starter.Bib)) then some true else (F_dg n x144 v156).bind fun r162 => some (decide (r162 < 0))) : Option Bool).bind fun b159 => ((bif b159 then (some (mset s113.1 x144.Starter.Bib x144)).bind fun m168 => some m168 else some s113.1) : Option (List (Int × Fact))).bind fun b165 => some b165) : Option (List (Int × Fact))).bind fun b142 => some (.cont (b142, IntKind.i64.wrap (s113.2 + 1))) else some (.done s113.1))
def F_gb (n : Nat) (r170 : List Fact) (s187 : (List Starter) × (List (Int × Bool)) × Int) : Option (Ctl ((List Starter) × (List (Int × Bool)) × Int) (Ctl (List Starter) ((List Starter) × Int))) :=
  (bif decide (s187.2.2 < (r170.length : Int)) then (idx r170 s187.2.2).bind fun x191 => (some (mgetD s187.2.1 x191.Starter.Chip false)).bind fun v192 => (bif v192 then some (.done (.done ([], 180))) else (some (mset s187.2.1 x191.Starter.Chip true)).bind fun m194 => (app s187.1 [x191.Starter]).bind fun l195 => some (.cont (l195, m194, IntKind.i64.wrap (s187.2.2 + 1)))) else some (.done (.cont s187.1)))
def F_ab (n : Nat) (a1 : Course) (a2 : List Fact) : Option ((List Starter) × Int) :=
  (F_bp n a1).bind fun r1 => (bif (r1 != 0) then some ([], r1) else (iter (F_gh n a1 a2) n ([], 0) : Option (List (Int × Fact))).bind fun b110 => (bif decide (4000 < (b110.length : Int)) then some ([], 2) else (F_dl n b110).bind fun r170 => (iter (F_gb n r170) n ([], [], 0) : Option (Ctl (List Starter) ((List Starter) × Int))).bind fun b184 => match b184 with | .cont sb184 => (some (sb184, 0)) | .done sb184 => some sb184))
theorem k_ab (n : Nat) (a1 : Course) (a2 : List Fact) (r : (List Starter) × Int) (h : F_ab n a1 a2 = some r) :
    C prog 13 [.agg (Course.c a1), .rsl 57 (List.map Fact.c a2)] [] (fun a H => a = .tup [.osl 0 0 r.1.length 8, .int .i64 r.2] ∧ H = [.row 50 8 (List.map Starter.c r.1)]) := by
 refine C.of_body func13 Z Z Z ?_
 refine Rg ?_
 refine vH (OpH.box Z Z Z Z Z) ?_
 refine aV (.ptr 0 0) [.cells 33 (Course.c a1)] Z Z ?_
 refine S Z (S Z (Nx (TC.seq (Rg ?_))))
 refine vX (.agg (Course.c a1)) (OpV.loadA Z isAgg33 sizeOf33 Z (Pts.cells Z Z) Z Z) ?_
 refine Bd h fun r1 hr1 h => ?_
 refine WO.callD [] (OpC.fn call33 Z Z Z) (k_bp _ _ _ hr1) ?_
 rintro _ _ ⟨rfl, rfl⟩
 refine aV (.int .i64 r1) [_] Z Z ?_
 refine S Z (Nx (Rg (S Z (S Z (Nx (Cn Z h (fun hc2 h => ?_) (fun hc2 h => ?_)))))))
 ·
  refine Rg (S Z (S Z (S Z (Nx (RtR ?_)))))
  obtain rfl := Oi h
  refine ⟨[(4, _), (5, _)], _, _, ?_, ResOK.two Z Z Z, Z, Z⟩
  refine Le.trans (Le.phantom (s := 4) (k := 8) (t := 50) (Nat.le_of_ble_eq_true Z) Z) ?_
  exact Lr [1]
 refine SkN (Rg ?_)
 refine vH OpH.mkMap ?_
 refine aV (.map 1) [_, .map (menc (fun x => A.int .i64 x) (fun x => A.agg (Fact.c x)) [])] Z Z ?_
 refine S Z (Nx (TC.seq (Rg (S Z (LnM runUnderlying34 Z (S Z (Nx (Bd h fun b110 h111 h => ?_))))))))
 refine TC.cut ([(4, .nils), (7, .map 0)]) ([.map (menc (fun x => A.int .i64 x) (fun x => A.agg (Fact.c x)) b110)]) ?_ (fun env H hle => ?_)
 ·
  refine TC.block ?_
  refine TC.loop (E := fun s113 => [(2, .ptr 0 0), (4, .nils), (7, .map 1), (22, .rsl 57 (List.map Fact.c a2)), (23, .int .i64 (a2.length : Int)), (24, .int .i64 s113.2)]) (Hp := fun s113 => [.cells 33 (Course.c a1), .map (menc (fun x => A.int .i64 x) (fun x => A.agg (Fact.c x)) s113.1)]) h111 ?_ ?_
  ·
   exact Lr [0, 1]
  intro s113 d114 h115 hb112
  refine Rg (S Z (Nx (TC.seq (CnS Z h115 (fun hc116 h115 => ?_) (fun hc116 h115 => ?_)))))
  ·
   refine ExX (loopX h115 ?_)
   obtain rfl := hb112 _ (Oi h115).symm
   exact bloE (cutN (Lr [1]))
  refine SkN (TC.seq (Bd h115 fun b142 h143 h115 => ?_))
  refine TC.cut ([(2, .ptr 0 0), (4, .nils), (7, .map 1), (22, .rsl 57 (List.map Fact.c a2)), (23, .int .i64 (a2.length : Int)), (24, .int .i64 s113.2)]) ([.cells 33 (Course.c a1), .map (menc (fun x => A.int .i64 x) (fun x => A.agg (Fact.c x)) b142)]) ?_ (fun env H hle => ?_)
  ·
   refine TC.block (Rg (Bd h143 fun x144 hx144 h143 => Ix hx144 runUnderlying34 sizeOf81 Z ?_))
   refine vX (.agg (Fact.c x144)) (OpV.loadA Z isAgg81 sizeOf81 Z Pts.rp Z Z) ?_
   refine vH (OpH.allocZ (v := (.agg [.int .i64 0, .int .i64 0, .int .i64 0, .int .i64 0, .int .i64 0, .int .i64 0, .int .i64 0, .int .i64 0, .int .i64 0, .int .i64 0, .int .i64 0, .int .i64 0, .int .i64 0, .int .i64 0, .int .i64 0, .int .i64 0, .int .i64 0, .int .i64 0, .int .i64 0, .int .i64 0, .int .i64 0, .int .i64 0, .int .i64 0, .int .i64 0, .int .i64 0, .int .i64 0, .int .i64 0, .int .i64 0, .int .i64 0, .int .i64 0, .int .i64 0, .int .i64 0, .int .i64 0, .int .i64 0, .int .i64 0, .int .i64 0, .int .i64 0, .int .i64 0, .int .i64 0, .int .i64 0, .int .i64 0, .int .i64 0, .int .i64 0, .int .i64 0, .int .i64 0, .int .i64 0, .int .i64 0, .int .i64 0, .int .i64 0, .int .i64 0, .int .i64 0, .int .i64 0, .int .i64 0, .int .i64 0, .bool false, .int .i64 0, .int .i64 0])) zeroValue81 (ZR.agg (ZL.cons ZR.int (ZL.cons ZR.int (ZL.cons ZR.int (ZL.cons ZR.int (ZL.cons ZR.int (ZL.cons ZR.int (ZL.cons ZR.int (ZL.cons ZR.int (ZL.cons ZR.int (ZL.cons ZR.int (ZL.cons ZR.int (ZL.cons ZR.int (ZL.cons ZR.int (ZL.cons ZR.int (ZL.cons ZR.int (ZL.cons ZR.int (ZL.cons ZR.int (ZL.cons ZR.int (ZL.cons ZR.int (ZL.cons ZR.int (ZL.cons ZR.int (ZL.cons ZR.int (ZL.cons ZR.int (ZL.cons ZR.int (ZL.cons ZR.int (ZL.cons ZR.int (ZL.cons ZR.int (ZL.cons ZR.int (ZL.cons ZR.int (ZL.cons ZR.int (ZL.cons ZR.int (ZL.cons ZR.int (ZL.cons ZR.int (ZL.cons ZR.int (ZL.cons ZR.int (ZL.cons ZR.int (ZL.cons ZR.int (ZL.cons ZR.int (ZL.cons ZR.int (ZL.cons ZR.int (ZL.cons ZR.int (ZL.cons ZR.int (ZL.cons ZR.int (ZL.cons ZR.int (ZL.cons ZR.int (ZL.cons ZR.int (ZL.cons ZR.int (ZL.cons ZR.int (ZL.cons ZR.int (ZL.cons ZR.int (ZL.cons ZR.int (ZL.cons ZR.int (ZL.cons ZR.int (ZL.cons ZR.int (ZL.cons ZR.bool (ZL.cons ZR.int (ZL.cons ZR.int ZL.nil))))))))))))))))))))))))))))))))))))))))))))))))))))))))))) ?_
   refine aV (.ptr 2 0) [_, _, .cells 81 [.int .i64 0, .int .i64 0, .int .i64 0, .int .i64 0, .int .i64 0, .int .i64 0, .int .i64 0, .int .i64 0, .int .i64 0, .int .i64 0, .int .i64 0, .int .i64 0, .int .i64 0, .int .i64 0, .int .i64 0, .int .i64 0, .int .i64 0, .int .i64 0, .int .i64 0, .int .i64 0, .int .i64 0, .int .i64 0, .int .i64 0, .int .i64 0, .int .i64 0, .int .i64 0, .int .i64 0, .int .i64 0, .int .i64 0, .int .i64 0, .int .i64 0, .int .i64 0, .int .i64 0, .int .i64 0, .int .i64 0, .int .i64 0, .int .i64 0, .int .i64 0, .int .i64 0, .int .i64 0, .int .i64 0, .int .i64 0, .int .i64 0, .int .i64 0, .int .i64 0, .int .i64 0, .int .i64 0, .int .i64 0, .int .i64 0, .int .i64 0, .int .i64 0, .int .i64 0, .int .i64 0, .int .i64 0, .bool false, .int .i64 0, .int .i64 0]] Z Z ?_
   refine vU (OpU.store Z Z Z sizeOf81 Z Z Z Z Z Z Z) ?_
   refine WO.atH (H := [_, _, .cells 81 (Fact.c x144)]) Z ?_
   refine Nx (Rg (Fp fa_81_4 Z ?_))
   refine vX (.agg (Starter.c x144.Starter)) (OpV.loadA Z isAgg50 sizeOf50 Z (Pts.cells Z Z) Z Z) ?_
   refine vH (OpH.allocZ (v := (.agg [.int .i64 0, .int .i64 0, .int .i64 0, .int .i64 0, .int .i64 0, .int .i64 0, .int .i64 0, .int .i64 0])) zeroValue50 (ZR.agg (ZL.cons ZR.int (ZL.cons ZR.int (ZL.cons ZR.int (ZL.cons ZR.int (ZL.cons ZR.int (ZL.cons ZR.int (ZL.cons ZR.int (ZL.cons ZR.int ZL.nil)))))))))) ?_
   refine aV (.ptr 3 0) [_, _, _, .cells 50 [.int .i64 0, .int .i64 0, .int .i64 0, .int .i64 0, .int .i64 0, .int .i64 0, .int .i64 0, .int .i64 0]] Z Z ?_
   refine vU (OpU.store Z Z Z sizeOf50 Z Z Z Z Z Z Z) ?_
   refine WO.atH (H := [_, _, _, .cells 50 (Starter.c x144.Starter)]) Z ?_
   refine Nx (TC.seq (TC.seq (Bd h143 fun b149 h150 h143 => ?_)))
   refine TC.cut ([(2, .ptr 0 0), (4, .nils), (7, .map 1), (9, .ptr 2 0), (10, .ptr 3 0), (22, .rsl 57 (List.map Fact.c a2)), (23, .int .i64 (a2.length : Int)), (24, .int .i64 s113.2), (53, .bool b149)]) ([.cells 33 (Course.c a1), .map (menc (fun x => A.int .i64 x) (fun x => A.agg (Fact.c x)) s113.1), .cells 81 (Fact.c x144), .cells 50 (Starter.c x144.Starter)]) ?_ (fun env H hle => ?_)
   ·
    refine TC.region (Fp fa_81_3 Z (Ld isAgg3 Z (S Z (S Z (If h150 (fun hg151 h150 => ?_) (fun hg151 h150 => ?_))))))
    ·
     refine KF hg151 Z (KF hg151 Z (KF hg151 Z (Pk hg151 Z (S Z (KF Z Z (KF Z Z (KF Z Z (KF Z Z (KF Z Z (KF Z Z (S Z (S Z (KF Z Z (KF Z Z (KF Z Z (KF Z Z (KF Z Z (KF Z Z (S Z (WO.nil ?_))))))))))))))))))))
     obtain rfl := Oi h150
     exact cutN (Lr [0, 1, 2, 3])
    ·
     refine vX (.agg (Fact.c x144)) (OpV.loadA Z isAgg81 sizeOf81 Z (Pts.cells Z Z) Z Z) ?_ (gT hg151)
     refine Bd h150 fun r152 hr152 h150 => ?_
     refine WO.callD [] (OpC.fn call26 Z Z Z) (k_x _ _ _ hr152) ?_ (hg := (gT hg151))
     rintro _ _ ⟨rfl, rfl⟩
     refine aV (.int .i64 r152) [_, _, _, _] Z Z ?_
     refine Sg (gT hg151) Z (Pk hg151 Z (S Z (If h150 (fun hg153 h150 => ?_) (fun hg153 h150 => ?_))))
     ·
      refine KF hg153 Z (KF hg153 Z (KF hg153 Z (KF hg153 Z (KF hg153 Z (KF hg153 Z (Pk hg153 Z (S Z (KF Z Z (KF Z Z (KF Z Z (KF Z Z (KF Z Z (KF Z Z (S Z (WO.nil ?_)))))))))))))))
      obtain rfl := Oi h150
      exact cutN (Lr [0, 1, 2, 3])
     ·
      refine Fpg (gT hg153) fa_50_1 Z (Ldg (gT hg153) isAgg3 Z (Fpg (gT hg153) fa_33_3 Z (Ldg (gT hg153) isAgg24 Z ?_)))
      refine vX (.int .i64 (a1.Distances.length : Int)) (OpV.lenM (e := Distance.c) (l := a1.Distances) runUnderlying24) ?_ (gT hg153)
      refine Sg (gT hg153) Z (Pk hg153 Z (S Z (If h150 (fun hg154 h150 => ?_) (fun hg154 h150 => ?_))))
      ·
       refine KF hg154 Z (KF hg154 Z (KF hg154 Z (KF hg154 Z (KF hg154 Z (KF hg154 Z (Pk hg154 Z (WO.nil ?_)))))))
       obtain rfl := Oi h150
       exact cutN (Lr [0, 1, 2, 3])
      ·
       refine Fpg (gT hg154) fa_50_2 Z (Ldg (gT hg154) isAgg3 Z (Fpg (gT hg154) fa_33_4 Z (Ldg (gT hg154) isAgg25 Z ?_)))
       refine vX (.int .i64 (a1.Waves.length : Int)) (OpV.lenM (e := Wave.c) (l := a1.Waves) runUnderlying25) ?_ (gT hg154)
       refine Sg (gT hg154) Z (Pk hg154 Z (WO.nil ?_))
       obtain rfl := Oi h150
       exact cutN (Lr [0, 1, 2, 3])
   refine seqN (TC.le hle (Cn Z h143 (fun hc155 h143 => ?_) (fun hc155 h143 => ?_)))
   ·
    refine ExX (bloE ?_)
    obtain rfl := Oi h143
    exact cutN (Lr [0, 1])
   refine SkN (Rg (S Z (Fp fa_50_0 Z (Ld isAgg3 Z (Bd h143 fun v156 hv156 h143 => ?_)))))
   refine vX (.tup [.agg (Fact.c v156), .bool (mhas s113.1 x144.Starter.Bib)]) (OpV.lookOk (ev := (fun x => A.agg (Fact.c x))) (z0 := ({ Crew := 0, No := 0, At := 0, Kind := 0, Starter := { Bib := 0, Distance := 0, Wave := 0, Slot := 0, Age := 0, Chip := 0, Team := 0, Lot := 0 : Starter }, Read := { Mat := 0, Epoch := 0, Chip := 0, Local := 0 : Read }, Beacon := { Mat := 0, Epoch := 0, Local := 0, True := 0, Err := 0 : Beacon }, Sync := { MatA := 0, EpochA := 0, LocalA := 0, MatB := 0, EpochB := 0, LocalB := 0, Min := 0, Max := 0 : Sync }, Hand := { Bib := 0, Position := 0, Lo := 0, Hi := 0 : Hand }, Silence := { Mat := 0, Epoch := 0, Lo := 0, Hi := 0 : Silence }, Pair := { A := 0, B := 0 : Pair }, Report := { Case := 0, Bib := 0, Offence := 0, Position := 0 : Report }, Protest := { Case := 0, By := 0, Fee := 0, Form := 0 : Protest }, Ruling := { Case := 0, Instance := 0, Kind := 0, Bib := 0, Position := 0, Amount := 0 : Ruling }, Appeal := { Case := 0, Suspends := false : Appeal }, Void := { Crew := 0, No := 0 : Ref } : Fact })) (k := x144.Starter.Bib) (l := s113.1) key_3 hv156 underlying98 zeroValue81 (ZR.agg (ZL.cons ZR.int (ZL.cons ZR.int (ZL.cons ZR.int (ZL.cons ZR.int (ZL.cons ZR.int (ZL.cons ZR.int (ZL.cons ZR.int (ZL.cons ZR.int (ZL.cons ZR.int (ZL.cons ZR.int (ZL.cons ZR.int (ZL.cons ZR.int (ZL.cons ZR.int (ZL.cons ZR.int (ZL.cons ZR.int (ZL.cons ZR.int (ZL.cons ZR.int (ZL.cons ZR.int (ZL.cons ZR.int (ZL.cons ZR.int (ZL.cons ZR.int (ZL.cons ZR.int (ZL.cons ZR.int (ZL.cons ZR.int (ZL.cons ZR.int (ZL.cons ZR.int (ZL.cons ZR.int (ZL.cons ZR.int (ZL.cons ZR.int (ZL.cons ZR.int (ZL.cons ZR.int (ZL.cons ZR.int (ZL.cons ZR.int (ZL.cons ZR.int (ZL.cons ZR.int (ZL.cons ZR.int (ZL.cons ZR.int (ZL.cons ZR.int (ZL.cons ZR.int (ZL.cons ZR.int (ZL.cons ZR.int (ZL.cons ZR.int (ZL.cons ZR.int (ZL.cons ZR.int (ZL.cons ZR.int (ZL.cons ZR.int (ZL.cons ZR.int (ZL.cons ZR.int (ZL.cons ZR.int (ZL.cons ZR.int (ZL.cons ZR.int (ZL.cons ZR.int (ZL.cons ZR.int (ZL.cons ZR.int (ZL.cons ZR.bool (ZL.cons ZR.int (ZL.cons ZR.int ZL.nil))))))))))))))))))))))))))))))))))))))))))))))))))))))))))) ?_
   refine S Z (S Z (S Z ?_))
   refine vH (OpH.allocZ (v := (.agg [.int .i64 0, .int .i64 0, .int .i64 0, .int .i64 0, .int .i64 0, .int .i64 0, .int .i64 0, .int .i64 0, .int .i64 0, .int .i64 0, .int .i64 0, .int .i64 0, .int .i64 0, .int .i64 0, .int .i64 0, .int .i64 0, .int .i64 0, .int .i64 0, .int .i64 0, .int .i64 0, .int .i64 0, .int .i64 0, .int .i64 0, .int .i64 0, .int .i64 0, .int .i64 0, .int .i64 0, .int .i64 0, .int .i64 0, .int .i64 0, .int .i64 0, .int .i64 0, .int .i64 0, .int .i64 0, .int .i64 0, .int .i64 0, .int .i64 0, .int .i64 0, .int .i64 0, .int .i64 0, .int .i64 0, .int .i64 0, .int .i64 0, .int .i64 0, .int .i64 0, .int .i64 0, .int .i64 0, .int .i64 0, .int .i64 0, .int .i64 0, .int .i64 0, .int .i64 0, .int .i64 0, .int .i64 0, .bool false, .int .i64 0, .int .i64 0])) zeroValue81 (ZR.agg (ZL.cons ZR.int (ZL.cons ZR.int (ZL.cons ZR.int (ZL.cons ZR.int (ZL.cons ZR.int (ZL.cons ZR.int (ZL.cons ZR.int (ZL.cons ZR.int (ZL.cons ZR.int (ZL.cons ZR.int (ZL.cons ZR.int (ZL.cons ZR.int (ZL.cons ZR.int (ZL.cons ZR.int (ZL.cons ZR.int (ZL.cons ZR.int (ZL.cons ZR.int (ZL.cons ZR.int (ZL.cons ZR.int (ZL.cons ZR.int (ZL.cons ZR.int (ZL.cons ZR.int (ZL.cons ZR.int (ZL.cons ZR.int (ZL.cons ZR.int (ZL.cons ZR.int (ZL.cons ZR.int (ZL.cons ZR.int (ZL.cons ZR.int (ZL.cons ZR.int (ZL.cons ZR.int (ZL.cons ZR.int (ZL.cons ZR.int (ZL.cons ZR.int (ZL.cons ZR.int (ZL.cons ZR.int (ZL.cons ZR.int (ZL.cons ZR.int (ZL.cons ZR.int (ZL.cons ZR.int (ZL.cons ZR.int (ZL.cons ZR.int (ZL.cons ZR.int (ZL.cons ZR.int (ZL.cons ZR.int (ZL.cons ZR.int (ZL.cons ZR.int (ZL.cons ZR.int (ZL.cons ZR.int (ZL.cons ZR.int (ZL.cons ZR.int (ZL.cons ZR.int (ZL.cons ZR.int (ZL.cons ZR.int (ZL.cons ZR.bool (ZL.cons ZR.int (ZL.cons ZR.int ZL.nil))))))))))))))))))))))))))))))))))))))))))))))))))))))))))) ?_
   refine aV (.ptr 4 0) [_, _, _, _, .cells 81 [.int .i64 0, .int .i64 0, .int .i64 0, .int .i64 0, .int .i64 0, .int .i64 0, .int .i64 0, .int .i64 0, .int .i64 0, .int .i64 0, .int .i64 0, .int .i64 0, .int .i64 0, .int .i64 0, .int .i64 0, .int .i64 0, .int .i64 0, .int .i64 0, .int .i64 0, .int .i64 0, .int .i64 0, .int .i64 0, .int .i64 0, .int .i64 0, .int .i64 0, .int .i64 0, .int .i64 0, .int .i64 0, .int .i64 0, .int .i64 0, .int .i64 0, .int .i64 0, .int .i64 0, .int .i64 0, .int .i64 0, .int .i64 0, .int .i64 0, .int .i64 0, .int .i64 0, .int .i64 0, .int .i64 0, .int .i64 0, .int .i64 0, .int .i64 0, .int .i64 0, .int .i64 0, .int .i64 0, .int .i64 0, .int .i64 0, .int .i64 0, .int .i64 0, .int .i64 0, .int .i64 0, .int .i64 0, .bool false, .int .i64 0, .int .i64 0]] Z Z ?_
   refine vU (OpU.store Z Z Z sizeOf81 Z Z Z Z Z Z Z) ?_
   refine WO.atH (H := [_, _, _, _, .cells 81 (Fact.c v156)]) Z ?_
   refine S Z (Nx (TC.seq (Bd h143 fun b159 h160 h143 => ?_)))
   refine TC.cut ([(2, .ptr 0 0), (4, .nils), (7, .map 1), (9, .ptr 2 0), (10, .ptr 3 0), (22, .rsl 57 (List.map Fact.c a2)), (23, .int .i64 (a2.length : Int)), (24, .int .i64 s113.2), (68, .bool b159)]) ([.cells 33 (Course.c a1), .map (menc (fun x => A.int .i64 x) (fun x => A.agg (Fact.c x)) s113.1), .cells 81 (Fact.c x144), .cells 50 (Starter.c x144.Starter)]) ?_ (fun env H hle => ?_)
   ·
    refine TC.region (S Z (S Z (S Z (If h160 (fun hg161 h160 => ?_) (fun hg161 h160 => ?_)))))
    ·
     refine KF hg161 Z (KF hg161 Z (KF hg161 Z (KF hg161 Z (Pk hg161 Z (WO.nil ?_)))))
     obtain rfl := Oi h160
     exact cutN (Lr [0, 1, 2, 3])
    ·
     refine vX (.agg (Fact.c x144)) (OpV.loadA Z isAgg81 sizeOf81 Z (Pts.cells Z Z) Z Z) ?_ (gT hg161)
     refine vX (.agg (Fact.c v156)) (OpV.loadA Z isAgg81 sizeOf81 Z (Pts.cells Z Z) Z Z) ?_ (gT hg161)
     refine Bd h160 fun r162 hr162 h160 => ?_
     refine WO.callD [] (OpC.fn call27 Z Z Z) (k_dg _ _ _ _ hr162) ?_ (hg := (gT hg161))
     rintro _ _ ⟨rfl, rfl⟩
     refine aV (.int .i64 r162) [_, _, _, _, _] Z Z ?_
     refine Sg (gT hg161) Z (Pk hg161 Z (WO.nil ?_))
     obtain rfl := Oi h160
     exact cutN (Lr [0, 1, 2, 3])
   refine seqN (TC.le hle (Bd h143 fun b165 h166 h143 => ?_))
   refine TC.cut ([(2, .ptr 0 0), (4, .nils), (7, .map 1), (22, .rsl 57 (List.map Fact.c a2)), (23, .int .i64 (a2.length : Int)), (24, .int .i64 s113.2)]) ([.cells 33 (Course.c a1), .map (menc (fun x => A.int .i64 x) (fun x => A.agg (Fact.c x)) b165)]) ?_ (fun env H hle => ?_)
   ·
    refine Cn Z h166 (fun hc167 h166 => ?_) (fun hc167 h166 => ?_)
    ·
     refine TC.region (S Z (Fp fa_50_0 Z (Ld isAgg3 Z ?_)))
     refine vX (.agg (Fact.c x144)) (OpV.loadA Z isAgg81 sizeOf81 Z (Pts.cells Z Z) Z Z) ?_
     refine Bd h166 fun m168 hm168 h166 => ?_
     refine vU (OpU.mput (ev := (fun x => A.agg (Fact.c x))) (k := x144.Starter.Bib) (v := x144) (l := s113.1) key_3 hm168 Z underlying98) ?_
     refine WO.atH (H := [_, .map (menc (fun x => A.int .i64 x) (fun x => A.agg (Fact.c x)) m168), _, _]) Z ?_
     refine WO.nil ?_
     obtain rfl := Oi h166
     exact cutN (Lr [0, 1])
    refine TC.skip ?_
    obtain rfl := Oi h166
    exact cutN (Lr [0, 1])
   refine bloN ?_
   obtain rfl := Oi h143
   exact cutN (Le.trans hle (Lr [0, 1]))
  exact seqN (TC.le hle (TC.region (S Z (S Z (WO.nil (loopN h115 (Lr [0, 1])))))))
 refine seqN (TC.le hle (TC.seq (Rg (S Z ?_))))
 refine vX (.int .i64 (b110.length : Int)) (OpV.lenMap (l := b110) underlying98 Z) ?_
 refine S Z (Nx (Cn Z h (fun hc169 h => ?_) (fun hc169 h => ?_)))
 ·
  refine Rg (S Z (S Z (Nx (RtR ?_))))
  obtain rfl := Oi h
  refine ⟨[(4, _), (5, _)], _, _, ?_, ResOK.two Z Z Z, Z, Z⟩
  refine Le.trans (Le.phantom (s := 4) (k := 8) (t := 50) (Nat.le_of_ble_eq_true Z) Z) ?_
  exact Lr [1]
 refine SkN (Rg ?_)
 refine vH OpH.mkMap ?_
 refine aV (.map 1) [_, .map (menc (fun x => A.int .i64 x) A.bool [])] Z Z ?_
 refine S Z (Nx (TC.seq (Rg (S Z (Bd h fun r170 hr170 h => ?_)))))
 refine WO.callD [0] (OpC.fn call34 Z Z Z) (k_dl _ _ _ hr170) ?_
 rintro _ _ ⟨rfl, rfl⟩
 refine aV (.osl 2 0 r170.length 57) [.fmap (menc (fun x => A.int .i64 x) (fun x => A.agg (Fact.c x)) b110), _, .row 81 57 (List.map Fact.c r170)] Z Z ?_
 refine LnO runUnderlying34 Z (S Z (Nx (Bd h fun b184 h185 h => ?_)))
 refine TC.cutE (b := b184) (fun sb184 => [(4, .osl 0 0 sb184.length 8)]) (fun sb184 => [.row 50 8 (List.map Starter.c sb184)]) ?_ (fun sb184 env H hbe hle => ?_)
 ·
  refine TC.block ?_
  refine TC.loop (E := fun s187 => [(4, .osl 0 0 s187.1.length 8), (13, .map 1), (79, .osl 2 0 r170.length 57), (80, .int .i64 (r170.length : Int)), (81, .int .i64 s187.2.2)]) (Hp := fun s187 => [.row 50 8 (List.map Starter.c s187.1), .map (menc (fun x => A.int .i64 x) A.bool s187.2.1), .row 81 57 (List.map Fact.c r170)]) h185 ?_ ?_
  ·
   refine Le.trans (Le.phantom (s := 4) (k := 8) (t := 50) (Nat.le_of_ble_eq_true Z) Z) ?_
   exact Lr [3, 1, 2]
  intro s187 d188 h189 hb186
  refine Rg (S Z (Nx (TC.seq (CnS Z h189 (fun hc190 h189 => ?_) (fun hc190 h189 => ?_)))))
  ·
   refine ExX (loopX h189 ?_)
   obtain rfl := hb186 _ (Oi h189).symm
   exact bloE (cutEN Z (Lr [0]))
  refine SkN (TC.seq (TC.block (Rg (Bd h189 fun x191 hx191 h189 => ?_))))
  refine vX (.ptr 2 (Int.toNat s187.2.2 * 57)) (OpV.ixW hx191 Z runUnderlying34 sizeOf81) ?_
  refine vX (.agg (Fact.c x191)) (OpV.loadA Z isAgg81 sizeOf81 Z (Pts.ofRow0 hx191) Z Z) ?_
  refine vH (OpH.allocZ (v := (.agg [.int .i64 0, .int .i64 0, .int .i64 0, .int .i64 0, .int .i64 0, .int .i64 0, .int .i64 0, .int .i64 0, .int .i64 0, .int .i64 0, .int .i64 0, .int .i64 0, .int .i64 0, .int .i64 0, .int .i64 0, .int .i64 0, .int .i64 0, .int .i64 0, .int .i64 0, .int .i64 0, .int .i64 0, .int .i64 0, .int .i64 0, .int .i64 0, .int .i64 0, .int .i64 0, .int .i64 0, .int .i64 0, .int .i64 0, .int .i64 0, .int .i64 0, .int .i64 0, .int .i64 0, .int .i64 0, .int .i64 0, .int .i64 0, .int .i64 0, .int .i64 0, .int .i64 0, .int .i64 0, .int .i64 0, .int .i64 0, .int .i64 0, .int .i64 0, .int .i64 0, .int .i64 0, .int .i64 0, .int .i64 0, .int .i64 0, .int .i64 0, .int .i64 0, .int .i64 0, .int .i64 0, .int .i64 0, .bool false, .int .i64 0, .int .i64 0])) zeroValue81 (ZR.agg (ZL.cons ZR.int (ZL.cons ZR.int (ZL.cons ZR.int (ZL.cons ZR.int (ZL.cons ZR.int (ZL.cons ZR.int (ZL.cons ZR.int (ZL.cons ZR.int (ZL.cons ZR.int (ZL.cons ZR.int (ZL.cons ZR.int (ZL.cons ZR.int (ZL.cons ZR.int (ZL.cons ZR.int (ZL.cons ZR.int (ZL.cons ZR.int (ZL.cons ZR.int (ZL.cons ZR.int (ZL.cons ZR.int (ZL.cons ZR.int (ZL.cons ZR.int (ZL.cons ZR.int (ZL.cons ZR.int (ZL.cons ZR.int (ZL.cons ZR.int (ZL.cons ZR.int (ZL.cons ZR.int (ZL.cons ZR.int (ZL.cons ZR.int (ZL.cons ZR.int (ZL.cons ZR.int (ZL.cons ZR.int (ZL.cons ZR.int (ZL.cons ZR.int (ZL.cons ZR.int (ZL.cons ZR.int (ZL.cons ZR.int (ZL.cons ZR.int (ZL.cons ZR.int (ZL.cons ZR.int (ZL.cons ZR.int (ZL.cons ZR.int (ZL.cons ZR.int (ZL.cons ZR.int (ZL.cons ZR.int (ZL.cons ZR.int (ZL.cons ZR.int (ZL.cons ZR.int (ZL.cons ZR.int (ZL.cons ZR.int (ZL.cons ZR.int (ZL.cons ZR.int (ZL.cons ZR.int (ZL.cons ZR.int (ZL.cons ZR.bool (ZL.cons ZR.int (ZL.cons ZR.int ZL.nil))))))))))))))))))))))))))))))))))))))))))))))))))))))))))) ?_
  refine aV (.ptr 3 0) [_, _, _, .cells 81 [.int .i64 0, .int .i64 0, .int .i64 0, .int .i64 0, .int .i64 0, .int .i64 0, .int .i64 0, .int .i64 0, .int .i64 0, .int .i64 0, .int .i64 0, .int .i64 0, .int .i64 0, .int .i64 0, .int .i64 0, .int .i64 0, .int .i64 0, .int .i64 0, .int .i64 0, .int .i64 0, .int .i64 0, .int .i64 0, .int .i64 0, .int .i64 0, .int .i64 0, .int .i64 0, .int .i64 0, .int .i64 0, .int .i64 0, .int .i64 0, .int .i64 0, .int .i64 0, .int .i64 0, .int .i64 0, .int .i64 0, .int .i64 0, .int .i64 0, .int .i64 0, .int .i64 0, .int .i64 0, .int .i64 0, .int .i64 0, .int .i64 0, .int .i64 0, .int .i64 0, .int .i64 0, .int .i64 0, .int .i64 0, .int .i64 0, .int .i64 0, .int .i64 0, .int .i64 0, .int .i64 0, .int .i64 0, .bool false, .int .i64 0, .int .i64 0]] Z Z ?_
  refine vU (OpU.store Z Z Z sizeOf81 Z Z Z Z Z Z Z) ?_
  refine WO.atH (H := [_, _, _, .cells 81 (Fact.c x191)]) Z ?_
  refine Nx (TC.seq (Rg (S Z (Fp fa_81_4 Z (Fp fa_50_5 Z (Ld isAgg3 Z (Bd h189 fun v192 hv192 h189 => ?_)))))))
  refine vX (.bool v192) (OpV.look (ev := A.bool) (z0 := false) (k := x191.Starter.Chip) (l := s187.2.1) key_3 hv192 underlying57 zeroValue4 ZR.bool) ?_
  refine Nx (Cn Z h189 (fun hc193 h189 => ?_) (fun hc193 h189 => ?_))
  ·
   refine Rg (S Z (S Z (Nx (RtR (bloR (seqR (loopR h189 ?_)))))))
   obtain rfl := hb186 _ (Oi h189).symm
   refine bloR (cutER (seqR ?_))
   obtain rfl := Oi h
   refine ⟨[(4, _), (5, _)], _, _, ?_, ResOK.two Z Z Z, Z, Z⟩
   refine Le.trans (Le.phantom (s := 4) (k := 8) (t := 50) (Nat.le_of_ble_eq_true Z) Z) ?_
   exact Lr [4]
  refine SkN (Rg (S Z (Fp fa_81_4 Z (Fp fa_50_5 Z (Ld isAgg3 Z (Bd h189 fun m194 hm194 h189 => ?_))))))
  refine vU (OpU.mput (ev := A.bool) (k := x191.Starter.Chip) (v := true) (l := s187.2.1) key_3 hm194 Z underlying57) ?_
  refine WO.atH (H := [_, .map (menc (fun x => A.int .i64 x) A.bool m194), _, _]) Z ?_
  refine Nx (TC.region (S Z (Fp fa_81_4 Z ?_)))
  refine vX (.agg (Starter.c x191.Starter)) (OpV.loadA Z isAgg50 sizeOf50 Z (Pts.cells Z Z) Z Z) ?_
  refine vH (OpH.lit (xs := [.tmp 96]) (es := List.map Starter.c [x191.Starter]) el_38 Z Z Z Z Z ⟨Z, trivial⟩ Z Z) ?_
  refine aV (.osl 4 0 ([x191.Starter].length) 8) [_, _, _, _, .row 50 8 (List.map Starter.c [x191.Starter])] Z Z ?_
  refine Bd h189 fun l195 hl195 h189 => ?_
  refine vH (OpH.appO (e := Starter.c) hl195 el_38 runUnderlying38 (Src.oM (i := 4))) ?_
  refine aV (.osl 5 0 l195.length 8) [.dead, _, _, _, _, .row 50 8 (List.map Starter.c l195)] Z Z ?_
  exact S Z (WO.nil (bloN (seqN (TC.region (S Z (S Z (WO.nil (loopN h189 (Lr [5, 1, 2])))))))))
 subst hbe
 refine seqN (TC.le hle (Rg (S Z (S Z (S Z (Nx (TC.ret ?_)))))))
 obtain rfl := Oi h
 refine ⟨[(4, _), (5, _)], _, _, ?_, ResOK.two Z Z Z, Z, Z⟩
 exact Lr [0]
def F_bb (n : Nat) (a1 : List (Pair × Bool)) : Option Unit :=
  some ()
theorem k_bb (n : Nat) (a1 : List (Pair × Bool)) (r : Unit) (h : F_bb n a1 = some r) :
    C prog 38 [.map 0] [.map (menc (fun x => A.agg (Pair.c x)) A.bool a1)] (fun a H => a = .fn (.func 66) [] [.ptr 1 0] ∧ H = [.map (menc (fun x => A.agg (Pair.c x)) A.bool a1), .cells 103 [.map 0]]) := by
 refine C.of_body func38 Z Z Z ?_
 refine Rg ?_
 refine vH (OpH.box Z Z Z Z Z) ?_
 refine aV (.ptr 1 0) [_, .cells 103 [.map 0]] Z Z ?_
 refine S Z (Nx (Rg ?_))
 refine vX (.fn (.func 66) [] [.ptr 1 0]) (OpV.makeFunc (first := []) (cap := [.tmp 1]) Z Z Z) ?_
 refine S Z (Nx (TC.ret ?_))
 obtain rfl := Oi h
 refine ⟨[(2, _)], _, _, ?_, ResOK.one Z Z, Z, Z⟩
 exact Lr [0, 1]
def F_dr (n : Nat) (a1 : Pair) (a2 : Pair) : Option Int :=
  (F_f n a1.A a2.A).bind fun r1 => (F_f n a1.B a2.B).bind fun r2 => (F_y n [r1, r2]).bind fun r3 => some r3
theorem k_dr (n : Nat) (a1 : Pair) (a2 : Pair) (r : Int) (h : F_dr n a1 a2 = some r) :
    C prog 39 [.agg (Pair.c a1), .agg (Pair.c a2)] [] (fun a H => a = .int .i64 r ∧ H = []) := by
 refine C.of_body func39 Z Z Z ?_
 refine Rg ?_
 refine vH (OpH.box Z Z Z Z Z) ?_
 refine aV (.ptr 0 0) [.cells 59 (Pair.c a1)] Z Z ?_
 refine vH (OpH.box Z Z Z Z Z) ?_
 refine aV (.ptr 1 0) [_, .cells 59 (Pair.c a2)] Z Z ?_
 refine S Z (Nx (TC.seq ?_))
 obtain ⟨r1, hr1, h⟩ := bnd h
 refine TC.draw 9 0 [5, 6, 7, 8, 9, 10, 11, 12, 13] [0, 0, 0, 0, 0, 0, 0, 0, 0] [false, false, false, false, false, false, false, false, false] [.ptr 0 0, .int .i64 a1.A, .ptr 1 0, .int .i64 a2.A, .int .i64 r1, .ptr 0 1, .int .i64 a1.B, .ptr 1 1, .int .i64 a2.B] [[.cells 59 (Pair.c a1), .cells 59 (Pair.c a2)]] ([.cells 59 (Pair.c a1), .cells 59 (Pair.c a2)]) draws Z Z Z Z Z Z Z Z ?_ ?_
 ·
  refine Ob.cons ?_ (Ob.cons ?_ (Ob.cons ?_ (Ob.cons ?_ (Ob.cons ?_ (Ob.cons ?_ (Ob.cons ?_ (Ob.cons ?_ (Ob.cons ?_ (Ob.nil)))))))))
  ·
    refine OB [(2, _)] 5 Z Z Z (Sb.old Z Z Sb.nil) ?_
    exact Fp fa_59_0 Z Wp
  ·
    refine OB [(5, _)] 6 Z Z Z (Sb.dep 0 Z Z Z Sb.nil) ?_
    exact Ld isAgg3 Z Wp
  ·
    refine OB [(3, _)] 7 Z Z Z (Sb.old Z Z Sb.nil) ?_
    exact Fp fa_59_0 Z Wp
  ·
    refine OB [(7, _)] 8 Z Z Z (Sb.dep 2 Z Z Z Sb.nil) ?_
    exact Ld isAgg3 Z Wp
  ·
    refine OB [(6, _), (8, _)] 9 Z Z Z (Sb.dep 1 Z Z Z (Sb.dep 3 Z Z Z Sb.nil)) ?_
    refine WO.callD [] (OpC.fn call41 Z Z Z) (k_f _ _ _ _ hr1) ?_
    rintro _ _ ⟨rfl, rfl⟩
    refine aV (.int .i64 r1) [_, _] Z Z ?_
    exact WO.nil Post1.mk
  ·
    refine OB [(2, _)] 10 Z Z Z (Sb.old Z Z Sb.nil) ?_
    exact Fp fa_59_1 Z Wp
  ·
    refine OB [(10, _)] 11 Z Z Z (Sb.dep 5 Z Z Z Sb.nil) ?_
    exact Ld isAgg3 Z Wp
  ·
    refine OB [(3, _)] 12 Z Z Z (Sb.old Z Z Sb.nil) ?_
    exact Fp fa_59_1 Z Wp
  ·
    refine OB [(12, _)] 13 Z Z Z (Sb.dep 7 Z Z Z Sb.nil) ?_
    exact Ld isAgg3 Z Wp
 refine Bd h fun r2 hr2 h => ?_
 refine WO.callD [] (OpC.fn call41 Z Z Z) (k_f _ _ _ _ hr2) ?_
 rintro _ _ ⟨rfl, rfl⟩
 refine aV (.int .i64 r2) [_, _] Z Z ?_
 refine vH (OpH.litR (xs := [.tmp 9, .tmp 14]) (es := List.map (encI .i64) [r1, r2]) el_48 Z Z Z Z Z ⟨Z, Z, trivial⟩ Z Z) ?_
 refine aV (.rsl 1 (List.map (encI .i64) [r1, r2])) [_, _] Z Z ?_
 refine Bd h fun r3 hr3 h => ?_
 refine WO.callD [] (OpC.fn call40 Z Z Z) (k_y _ _ _ hr3) ?_
 rintro _ _ ⟨rfl, rfl⟩
 refine aV (.int .i64 r3) [_, _] Z Z ?_
 refine S Z (Nx (TC.ret ?_))
 obtain rfl := Oi h
 refine ⟨[(4, _)], _, _, ?_, ResOK.one Z Z, Z, Z⟩
 exact Lr []
def F_et (n : Nat) (a1 : List (Pair × Bool)) : Option (List Pair) :=
  anyK (List.map Prod.fst a1) fun p1 => (sortF (fun x y => F_dr n x y) p1).bind fun l4 => some l4
theorem k_et (n : Nat) (a1 : List (Pair × Bool)) (r : List Pair) (h : F_et n a1 = some r) :
    C prog 37 [.fn (.func 66) [] [.ptr 0 0], .fn (.func 39) [] []] [.cells 103 [.map 1], .map (menc (fun x => A.agg (Pair.c x)) A.bool a1)] (fun a H => a = .osl 2 0 r.length 2 ∧ H = [.dead, .fmap (menc (fun x => A.agg (Pair.c x)) A.bool a1), .row 59 2 (List.map Pair.c r)]) := by
 refine C.of_body func37 Z Z Z ?_
 refine Rg (S Z (Nx (Rg (S Z ?_))))
 refine WO.le (Le.shut (i := 1) Z) ?_
 refine WO.atH (H := [.cells 103 [.map 1], .fmap (menc (fun x => A.agg (Pair.c x)) A.bool a1)]) Z ?_
 obtain ⟨h3, h⟩ := anyK_ok h
 refine WO.callD [0, 1] (OpC.fn call64 Z Z Z) (okc_64 _ h3) ?_
 rintro _ _ ⟨p1, h2, rfl, rfl⟩
 have h := h p1 h2
 refine aV (.osl 2 0 p1.length 2) [.dead, .fmap (menc (fun x => A.agg (Pair.c x)) A.bool a1), .row 59 2 (List.map Pair.c p1)] Z Z ?_
 refine S Z (Nx (Rg (S Z (S Z (Bd h fun l4 hl4 h => ?_)))))
 refine WO.callD [2] (OpC.fn call65 Z Z Z) (C.sortK (enc := Pair.c) lay_sortK_65 hl4 (fun x y c h => k_dr n x y c h) isAgg59 sizeOf59 call39 (fun _ => rfl) Z) ?_
 rintro _ _ ⟨rfl, rfl⟩
 refine WO.atV (x := .tup []) (H := [.dead, .fmap (menc (fun x => A.agg (Pair.c x)) A.bool a1), .row 59 2 (List.map Pair.c l4)]) Z Z ?_
 refine WO.le (Le.ov1 (s := 5) Z (congrArg (fun n => A.osl 2 0 n 2) (sortF_len hl4))) ?_
 refine WO.le (Le.ov1 (s := 7) Z (congrArg (fun n => A.osl 2 0 n 2) (sortF_len hl4))) ?_
 refine WO.le (Le.ov1 (s := 8) Z (congrArg (fun n => A.osl 2 0 n 2) (sortF_len hl4))) ?_
 refine Nx (Rg (S Z (S Z (Nx (TC.ret ?_)))))
 obtain rfl := Oi h
 refine ⟨[(4, _)], _, _, ?_, ResOK.one Z Z, Z, Z⟩
 exact Lr [0, 1, 2]
def F_gn (n : Nat) (r1 : (List Starter) × Int) (s13 : (List (Int × Bool)) × Int) : Option (Ctl ((List (Int × Bool)) × Int) (List (Int × Bool))) :=
  (bif decide (s13.2 < (r1.1.length : Int)) then (idx r1.1 s13.2).bind fun x17 => (some (mset s13.1 x17.Bib true)).bind fun m18 => some (.cont (m18, IntKind.i64.wrap (s13.2 + 1))) else some (.done s13.1))
def F_fc (n : Nat) (a2 : List Fact) (b10 : List (Int × Bool)) (s67 : (List (Pair × Bool)) × Int) : Option (Ctl ((List (Pair × Bool)) × Int) (List (Pair × Bool))) :=
  (bif decide (s67.2 < (a2.length : Int)) then (idx a2 s67.2).bind fun x71 => ((bif (x71.Kind == 7) then (F_x n x71).bind fun r81 => (bif (r81 == 0) then (some (mgetD b10 x71.Pair.A false)).bind fun v83 => (bif v83 then (some (mgetD b10 x71.Pair.B false)).bind fun v85 => some v85 else some false) else some false) else some false) : Option Bool).bind fun b78 => ((bif b78 then (some (mset s67.1 x71.Pair true)).bind fun m91 => some m91 else some s67.1) : Option (List (Pair × Bool))).bind fun b88 => some (.cont (b88, IntKind.i64.wrap (s67.2 + 1))) else some (.done s67.1))
def F_cm (n : Nat) (a1 : Course) (a2 : List Fact) : Option ((List Pair) × Int) :=
  (F_ab n a1 a2).bind fun r1 => (bif (r1.2 != 0) then some ([], r1.2) else (iter (F_gn n r1) n ([], 0) : Option (List (Int × Bool))).bind fun b10 => (iter (F_fc n a2 b10) n ([], 0) : Option (List (Pair × Bool))).bind fun b64 => (bif decide (16 < (b64.length : Int)) then some ([], 2) else (F_bb n b64).bind fun r93 => (F_et n b64).bind fun r94 => some (r94, 0)))
theorem k_cm (n : Nat) (a1 : Course) (a2 : List Fact) (r : (List Pair) × Int) (h : F_cm n a1 a2 = some r) :
    C prog 15 [.agg (Course.c a1), .rsl 57 (List.map Fact.c a2)] [] (fun a H => a = .tup [.osl 0 0 r.1.length 2, .int .i64 r.2] ∧ H = [.row 59 2 (List.map Pair.c r.1)]) := by
 refine C.of_body func15 Z Z Z ?_
 refine Rg ?_
 refine vH (OpH.box Z Z Z Z Z) ?_
 refine aV (.ptr 0 0) [.cells 33 (Course.c a1)] Z Z ?_
 refine S Z (S Z (Nx (Rg ?_)))
 refine vX (.agg (Course.c a1)) (OpV.loadA Z isAgg33 sizeOf33 Z (Pts.cells Z Z) Z Z) ?_
 refine S Z (Bd h fun r1 hr1 h => ?_)
 refine WO.callD [] (OpC.fn call13 Z Z Z) (k_ab _ _ _ _ hr1) ?_
 rintro _ _ ⟨rfl, rfl⟩
 refine aV (.tup [.osl 1 0 r1.1.length 8, .int .i64 r1.2]) [_, .row 50 8 (List.map Starter.c r1.1)] Z Z ?_
 refine S Z (S Z (S Z (S Z (S Z (Nx (TC.seq (Rg (S Z (S Z (Nx (Cn Z h (fun hc2 h => ?_) (fun hc2 h => ?_))))))))))))
 ·
  refine Rg (S Z (S Z (S Z (Nx (RtR ?_)))))
  obtain rfl := Oi h
  refine ⟨[(4, _), (5, _)], _, _, ?_, ResOK.two Z Z Z, Z, Z⟩
  refine Le.trans (Le.phantom (s := 4) (k := 2) (t := 59) (Nat.le_of_ble_eq_true Z) Z) ?_
  exact Lr [2]
 refine SkN (Rg ?_)
 refine vH OpH.mkMap ?_
 refine aV (.map 2) [_, _, .map (menc (fun x => A.int .i64 x) A.bool [])] Z Z ?_
 refine S Z (Nx (TC.seq (Rg (S Z (LnO runUnderlying38 Z (S Z (Nx (Bd h fun b10 h11 h => ?_))))))))
 refine TC.cut ([(1, .rsl 57 (List.map Fact.c a2)), (7, .map 0)]) ([.map (menc (fun x => A.int .i64 x) A.bool b10)]) ?_ (fun env H hle => ?_)
 ·
  refine TC.block ?_
  refine TC.loop (E := fun s13 => [(1, .rsl 57 (List.map Fact.c a2)), (7, .map 0), (23, .osl 1 0 r1.1.length 8), (24, .int .i64 (r1.1.length : Int)), (25, .int .i64 s13.2)]) (Hp := fun s13 => [.map (menc (fun x => A.int .i64 x) A.bool s13.1), .row 50 8 (List.map Starter.c r1.1)]) h11 ?_ ?_
  ·
   exact Lr [2, 1]
  intro s13 d14 h15 hb12
  refine Rg (S Z (Nx (TC.seq (CnS Z h15 (fun hc16 h15 => ?_) (fun hc16 h15 => ?_)))))
  ·
   refine ExX (loopX h15 ?_)
   obtain rfl := hb12 _ (Oi h15).symm
   exact bloE (cutN (Lr [0]))
  refine SkN (TC.seq (TC.block (Rg (Bd h15 fun x17 hx17 h15 => ?_))))
  refine vX (.ptr 1 (Int.toNat s13.2 * 8)) (OpV.ixW hx17 Z runUnderlying38 sizeOf50) ?_
  refine vX (.agg (Starter.c x17)) (OpV.loadA Z isAgg50 sizeOf50 Z (Pts.ofRow0 hx17) Z Z) ?_
  refine vH (OpH.allocZ (v := (.agg [.int .i64 0, .int .i64 0, .int .i64 0, .int .i64 0, .int .i64 0, .int .i64 0, .int .i64 0, .int .i64 0])) zeroValue50 (ZR.agg (ZL.cons ZR.int (ZL.cons ZR.int (ZL.cons ZR.int (ZL.cons ZR.int (ZL.cons ZR.int (ZL.cons ZR.int (ZL.cons ZR.int (ZL.cons ZR.int ZL.nil)))))))))) ?_
  refine aV (.ptr 2 0) [_, _, .cells 50 [.int .i64 0, .int .i64 0, .int .i64 0, .int .i64 0, .int .i64 0, .int .i64 0, .int .i64 0, .int .i64 0]] Z Z ?_
  refine vU (OpU.store Z Z Z sizeOf50 Z Z Z Z Z Z Z) ?_
  refine WO.atH (H := [_, _, .cells 50 (Starter.c x17)]) Z ?_
  refine Nx (TC.region (S Z (Fp fa_50_0 Z (Ld isAgg3 Z (Bd h15 fun m18 hm18 h15 => ?_)))))
  refine vU (OpU.mput (ev := A.bool) (k := x17.Bib) (v := true) (l := s13.1) key_3 hm18 Z underlying57) ?_
  refine WO.atH (H := [.map (menc (fun x => A.int .i64 x) A.bool m18), _, _]) Z ?_
  exact WO.nil (bloN (seqN (TC.region (S Z (S Z (WO.nil (loopN h15 (Lr [0, 1]))))))))
 refine seqN (TC.le hle (Rg ?_))
 refine vH OpH.mkMap ?_
 refine aV (.map 1) [_, .map (menc (fun x => A.agg (Pair.c x)) A.bool [])] Z Z ?_
 refine S Z (Nx (TC.seq (Rg (S Z (LnM runUnderlying34 Z (S Z (Nx (Bd h fun b64 h65 h => ?_))))))))
 refine TC.cut ([(10, .map 0)]) ([.map (menc (fun x => A.agg (Pair.c x)) A.bool b64)]) ?_ (fun env H hle => ?_)
 ·
  refine TC.block ?_
  refine TC.loop (E := fun s67 => [(7, .map 0), (10, .map 1), (34, .rsl 57 (List.map Fact.c a2)), (35, .int .i64 (a2.length : Int)), (36, .int .i64 s67.2)]) (Hp := fun s67 => [.map (menc (fun x => A.int .i64 x) A.bool b10), .map (menc (fun x => A.agg (Pair.c x)) A.bool s67.1)]) h65 ?_ ?_
  ·
   exact Lr [0, 1]
  intro s67 d68 h69 hb66
  refine Rg (S Z (Nx (TC.seq (CnS Z h69 (fun hc70 h69 => ?_) (fun hc70 h69 => ?_)))))
  ·
   refine ExX (loopX h69 ?_)
   obtain rfl := hb66 _ (Oi h69).symm
   exact bloE (cutN (Lr [1]))
  refine SkN (TC.seq (TC.block (Rg (Bd h69 fun x71 hx71 h69 => Ix hx71 runUnderlying34 sizeOf81 Z ?_))))
  refine vX (.agg (Fact.c x71)) (OpV.loadA Z isAgg81 sizeOf81 Z Pts.rp Z Z) ?_
  refine vH (OpH.allocZ (v := (.agg [.int .i64 0, .int .i64 0, .int .i64 0, .int .i64 0, .int .i64 0, .int .i64 0, .int .i64 0, .int .i64 0, .int .i64 0, .int .i64 0, .int .i64 0, .int .i64 0, .int .i64 0, .int .i64 0, .int .i64 0, .int .i64 0, .int .i64 0, .int .i64 0, .int .i64 0, .int .i64 0, .int .i64 0, .int .i64 0, .int .i64 0, .int .i64 0, .int .i64 0, .int .i64 0, .int .i64 0, .int .i64 0, .int .i64 0, .int .i64 0, .int .i64 0, .int .i64 0, .int .i64 0, .int .i64 0, .int .i64 0, .int .i64 0, .int .i64 0, .int .i64 0, .int .i64 0, .int .i64 0, .int .i64 0, .int .i64 0, .int .i64 0, .int .i64 0, .int .i64 0, .int .i64 0, .int .i64 0, .int .i64 0, .int .i64 0, .int .i64 0, .int .i64 0, .int .i64 0, .int .i64 0, .int .i64 0, .bool false, .int .i64 0, .int .i64 0])) zeroValue81 (ZR.agg (ZL.cons ZR.int (ZL.cons ZR.int (ZL.cons ZR.int (ZL.cons ZR.int (ZL.cons ZR.int (ZL.cons ZR.int (ZL.cons ZR.int (ZL.cons ZR.int (ZL.cons ZR.int (ZL.cons ZR.int (ZL.cons ZR.int (ZL.cons ZR.int (ZL.cons ZR.int (ZL.cons ZR.int (ZL.cons ZR.int (ZL.cons ZR.int (ZL.cons ZR.int (ZL.cons ZR.int (ZL.cons ZR.int (ZL.cons ZR.int (ZL.cons ZR.int (ZL.cons ZR.int (ZL.cons ZR.int (ZL.cons ZR.int (ZL.cons ZR.int (ZL.cons ZR.int (ZL.cons ZR.int (ZL.cons ZR.int (ZL.cons ZR.int (ZL.cons ZR.int (ZL.cons ZR.int (ZL.cons ZR.int (ZL.cons ZR.int (ZL.cons ZR.int (ZL.cons ZR.int (ZL.cons ZR.int (ZL.cons ZR.int (ZL.cons ZR.int (ZL.cons ZR.int (ZL.cons ZR.int (ZL.cons ZR.int (ZL.cons ZR.int (ZL.cons ZR.int (ZL.cons ZR.int (ZL.cons ZR.int (ZL.cons ZR.int (ZL.cons ZR.int (ZL.cons ZR.int (ZL.cons ZR.int (ZL.cons ZR.int (ZL.cons ZR.int (ZL.cons ZR.int (ZL.cons ZR.int (ZL.cons ZR.int (ZL.cons ZR.bool (ZL.cons ZR.int (ZL.cons ZR.int ZL.nil))))))))))))))))))))))))))))))))))))))))))))))))))))))))))) ?_
  refine aV (.ptr 2 0) [_, _, .cells 81 [.int .i64 0, .int .i64 0, .int .i64 0, .int .i64 0, .int .i64 0, .int .i64 0, .int .i64 0, .int .i64 0, .int .i64 0, .int .i64 0, .int .i64 0, .int .i64 0, .int .i64 0, .int .i64 0, .int .i64 0, .int .i64 0, .int .i64 0, .int .i64 0, .int .i64 0, .int .i64 0, .int .i64 0, .int .i64 0, .int .i64 0, .int .i64 0, .int .i64 0, .int .i64 0, .int .i64 0, .int .i64 0, .int .i64 0, .int .i64 0, .int .i64 0, .int .i64 0, .int .i64 0, .int .i64 0, .int .i64 0, .int .i64 0, .int .i64 0, .int .i64 0, .int .i64 0, .int .i64 0, .int .i64 0, .int .i64 0, .int .i64 0, .int .i64 0, .int .i64 0, .int .i64 0, .int .i64 0, .int .i64 0, .int .i64 0, .int .i64 0, .int .i64 0, .int .i64 0, .int .i64 0, .int .i64 0, .bool false, .int .i64 0, .int .i64 0]] Z Z ?_
  refine vU (OpU.store Z Z Z sizeOf81 Z Z Z Z Z Z Z) ?_
  refine WO.atH (H := [_, _, .cells 81 (Fact.c x71)]) Z ?_
  refine Nx (TC.seq (Bd h69 fun b78 h79 h69 => ?_))
  refine TC.cut ([(7, .map 0), (10, .map 1), (12, .ptr 2 0), (34, .rsl 57 (List.map Fact.c a2)), (35, .int .i64 (a2.length : Int)), (36, .int .i64 s67.2), (61, .bool b78)]) ([.map (menc (fun x => A.int .i64 x) A.bool b10), .map (menc (fun x => A.agg (Pair.c x)) A.bool s67.1), .cells 81 (Fact.c x71)]) ?_ (fun env H hle => ?_)
  ·
   refine TC.region (Fp fa_81_3 Z (Ld isAgg3 Z (S Z (S Z (If h79 (fun hg80 h79 => ?_) (fun hg80 h79 => ?_))))))
   ·
    refine vX (.agg (Fact.c x71)) (OpV.loadA Z isAgg81 sizeOf81 Z (Pts.cells Z Z) Z Z) ?_ (gT hg80)
    refine Bd h79 fun r81 hr81 h79 => ?_
    refine WO.callD [] (OpC.fn call26 Z Z Z) (k_x _ _ _ hr81) ?_ (hg := (gT hg80))
    rintro _ _ ⟨rfl, rfl⟩
    refine aV (.int .i64 r81) [_, _, _] Z Z ?_
    refine Sg (gT hg80) Z (Pk hg80 Z (S Z (If h79 (fun hg82 h79 => ?_) (fun hg82 h79 => ?_))))
    ·
     refine Sg (gT hg82) Z (Fpg (gT hg82) fa_81_10 Z (Fpg (gT hg82) fa_59_0 Z (Ldg (gT hg82) isAgg3 Z (Bd h79 fun v83 hv83 h79 => ?_))))
     refine vX (.bool v83) (OpV.look (ev := A.bool) (z0 := false) (k := x71.Pair.A) (l := b10) key_3 hv83 underlying57 zeroValue4 ZR.bool) ?_ (gT hg82)
     refine Pk hg82 Z (S Z (If h79 (fun hg84 h79 => ?_) (fun hg84 h79 => ?_)))
     ·
      refine Sg (gT hg84) Z (Fpg (gT hg84) fa_81_10 Z (Fpg (gT hg84) fa_59_1 Z (Ldg (gT hg84) isAgg3 Z (Bd h79 fun v85 hv85 h79 => ?_))))
      refine vX (.bool v85) (OpV.look (ev := A.bool) (z0 := false) (k := x71.Pair.B) (l := b10) key_3 hv85 underlying57 zeroValue4 ZR.bool) ?_ (gT hg84)
      refine Pk hg84 Z (WO.nil ?_)
      obtain rfl := Oi h79
      exact cutN (Lr [0, 1, 2])
     ·
      refine KF hg84 Z (KF hg84 Z (KF hg84 Z (KF hg84 Z (KF hg84 Z (Pk hg84 Z (WO.nil ?_))))))
      obtain rfl := Oi h79
      exact cutN (Lr [0, 1, 2])
    ·
     refine KF hg82 Z (KF hg82 Z (KF hg82 Z (KF hg82 Z (KF hg82 Z (Pk hg82 Z (S Z (KF Z Z (KF Z Z (KF Z Z (KF Z Z (KF Z Z (S Z (WO.nil ?_)))))))))))))
     obtain rfl := Oi h79
     exact cutN (Lr [0, 1, 2])
   ·
    refine KF hg80 Z (KF hg80 Z (KF hg80 Z (Pk hg80 Z (S Z (KF Z Z (KF Z Z (KF Z Z (KF Z Z (KF Z Z (S Z (S Z (KF Z Z (KF Z Z (KF Z Z (KF Z Z (KF Z Z (S Z (WO.nil ?_))))))))))))))))))
    obtain rfl := Oi h79
    exact cutN (Lr [0, 1, 2])
  refine seqN (TC.le hle (Bd h69 fun b88 h89 h69 => ?_))
  refine TC.cut ([(7, .map 0), (10, .map 1), (34, .rsl 57 (List.map Fact.c a2)), (35, .int .i64 (a2.length : Int)), (36, .int .i64 s67.2)]) ([.map (menc (fun x => A.int .i64 x) A.bool b10), .map (menc (fun x => A.agg (Pair.c x)) A.bool b88)]) ?_ (fun env H hle => ?_)
  ·
   refine Cn Z h89 (fun hc90 h89 => ?_) (fun hc90 h89 => ?_)
   ·
    refine TC.region (S Z (Fp fa_81_10 Z ?_))
    refine vX (.agg (Pair.c x71.Pair)) (OpV.loadA Z isAgg59 sizeOf59 Z (Pts.cells Z Z) Z Z) ?_
    refine Bd h89 fun m91 hm91 h89 => ?_
    refine vU (OpU.mput (ev := A.bool) (k := x71.Pair) (v := true) (l := s67.1) key_59 hm91 Z underlying103) ?_
    refine WO.atH (H := [_, .map (menc (fun x => A.agg (Pair.c x)) A.bool m91), _]) Z ?_
    refine WO.nil ?_
    obtain rfl := Oi h89
    exact cutN (Lr [0, 1])
   refine TC.skip ?_
   obtain rfl := Oi h89
   exact cutN (Lr [0, 1])
  exact bloN (seqN (TC.le hle (TC.region (S Z (S Z (WO.nil (loopN h69 (Lr [0, 1]))))))))
 refine seqN (TC.le hle (TC.seq (Rg (S Z ?_))))
 refine vX (.int .i64 (b64.length : Int)) (OpV.lenMap (l := b64) underlying103 Z) ?_
 refine S Z (Nx (Cn Z h (fun hc92 h => ?_) (fun hc92 h => ?_)))
 ·
  refine Rg (S Z (S Z (Nx (RtR ?_))))
  obtain rfl := Oi h
  refine ⟨[(4, _), (5, _)], _, _, ?_, ResOK.two Z Z Z, Z, Z⟩
  refine Le.trans (Le.phantom (s := 4) (k := 2) (t := 59) (Nat.le_of_ble_eq_true Z) Z) ?_
  exact Lr [1]
 refine SkN (Rg (S Z (Bd h fun r93 hr93 h => ?_)))
 refine WO.callD [0] (OpC.fn call38 Z Z Z) (k_bb _ _ _ hr93) ?_
 rintro _ _ ⟨rfl, rfl⟩
 refine aV (.fn (.func 66) [] [.ptr 1 0]) [_, .cells 103 [.map 0]] Z Z ?_
 refine Bd h fun r94 hr94 h => ?_
 refine WO.callD [1, 0] (OpC.fn call37 Z Z Z) (k_et _ _ _ hr94) ?_
 rintro _ _ ⟨rfl, rfl⟩
 refine aV (.osl 2 0 r94.length 2) [.fmap (menc (fun x => A.agg (Pair.c x)) A.bool b64), .dead, .row 59 2 (List.map Pair.c r94)] Z Z ?_
 refine S Z (S Z (Nx (TC.ret ?_)))
 obtain rfl := Oi h
 refine ⟨[(4, _), (5, _)], _, _, ?_, ResOK.two Z Z Z, Z, Z⟩
 exact Lr [2]
def F_ep (n : Nat) (a1 : Starter) (a2 : Int) : Option Unit :=
  some ()
theorem k_ep (n : Nat) (a1 : Starter) (a2 : Int) (r : Unit) (h : F_ep n a1 a2 = some r) :
    C prog 69 [.agg (Starter.c a1), .ptr 0 0] [.cells 3 [.int .i64 a2]] (fun a H => a = .bool (a1.Bib == a2) ∧ H = [.cells 3 [.int .i64 a2]]) := by
 refine C.of_body func69 Z Z Z ?_
 refine Rg ?_
 refine vH (OpH.box Z Z Z Z Z) ?_
 refine aV (.ptr 1 0) [_, .cells 50 (Starter.c a1)] Z Z ?_
 refine S Z (Nx (Rg (Fp fa_50_0 Z (Ld isAgg3 Z (Ld isAgg3 Z (S Z (S Z (Nx (TC.ret ?_)))))))))
 obtain rfl := Oi h
 refine ⟨[(3, _)], _, _, ?_, ResOK.one Z Z, Z, Z⟩
 exact Lr [0]
def F_bk (n : Nat) (a1 : List Starter) (a2 : Int) (s13 : Int) : Option (Ctl Int (Ctl Unit Int)) :=
  (bif decide (s13 < (a1.length : Int)) then (idx a1 s13).bind fun x17 => (F_ep n x17 a2).bind fun r18 => (bif (x17.Bib == a2) then some (.done (.done s13)) else some (.cont (IntKind.i64.wrap (s13 + 1)))) else some (.done (.cont ())))
def F_ah (n : Nat) (a1 : List Starter) (a2 : Int) : Option Int :=
  (iter (F_bk n a1 a2) n 0 : Option (Ctl Unit Int)).bind fun b10 => match b10 with | .cont sb10 => (some (-1)) | .done sb10 => some sb10
theorem k_ah (n : Nat) (a1 : List Starter) (a2 : Int) (r : Int) (h : F_ah n a1 a2 = some r) :
    C prog 68 [.rsl 8 (List.map Starter.c a1), .fn (.func 69) [] [.ptr 0 0]] [.cells 3 [.int .i64 a2]] (fun a H => a = .int .i64 r ∧ H = [.cells 3 [.int .i64 a2]]) := by
 refine C.of_body func68 Z Z Z ?_
 refine Rg (S Z (Nx (TC.seq (Rg (S Z (LnM runUnderlying38 Z (S Z (Nx (Bd h fun b10 h11 h => ?_)))))))))
 refine TC.cutE (b := b10) (fun sb10 => []) (fun sb10 => [.cells 3 [.int .i64 a2]]) ?_ (fun sb10 env H hbe hle => ?_)
 ·
  refine TC.block ?_
  refine TC.loop (E := fun s13 => [(0, .rsl 8 (List.map Starter.c a1)), (1, .fn (.func 69) [] [.ptr 0 0]), (7, .int .i64 (a1.length : Int)), (8, .int .i64 s13)]) (Hp := fun s13 => [.cells 3 [.int .i64 a2]]) h11 ?_ ?_
  ·
   exact Lr [0]
  intro s13 d14 h15 hb12
  refine Rg (S Z (Nx (TC.seq (CnS Z h15 (fun hc16 h15 => ?_) (fun hc16 h15 => ?_)))))
  ·
   refine ExX (loopX h15 ?_)
   obtain rfl := hb12 _ (Oi h15).symm
   exact bloE (cutEN Z (Lr [0]))
  refine SkN (TC.seq (TC.block (Rg (S Z (S Z (Nx (Rg (S Z (S Z (S Z (Bd h15 fun x17 hx17 h15 => Ix hx17 runUnderlying38 sizeOf50 Z ?_)))))))))))
  refine vX (.agg (Starter.c x17)) (OpV.loadA Z isAgg50 sizeOf50 Z Pts.rp Z Z) ?_
  refine Bd h15 fun r18 hr18 h15 => ?_
  refine WO.callD [0] (OpC.clo call69 Z Z Z Z) (k_ep _ _ _ _ hr18) ?_
  rintro _ _ ⟨rfl, rfl⟩
  refine aV (.bool (x17.Bib == a2)) [_] Z Z ?_
  refine Nx (Cn Z h15 (fun hc19 h15 => ?_) (fun hc19 h15 => ?_))
  ·
   refine Rg (S Z (S Z (Nx (TC.ret (bloR (seqR (loopR h15 ?_)))))))
   obtain rfl := hb12 _ (Oi h15).symm
   refine bloR (cutER (seqR ?_))
   obtain rfl := Oi h
   refine ⟨[(4, _)], _, _, ?_, ResOK.one Z Z, Z, Z⟩
   exact Lr [0]
  exact TC.skip (bloN (seqN (TC.region (S Z (S Z (WO.nil (loopN h15 (Lr [0]))))))))
 subst hbe
 refine seqN (TC.le hle (Rg (S Z (Nx (TC.ret ?_)))))
 obtain rfl := Oi h
 refine ⟨[(4, _)], _, _, ?_, ResOK.one Z Z, Z, Z⟩
 exact Lr [0]
def F_o (n : Nat) (a1 : List Starter) (a2 : Int) : Option (Starter × Bool) :=
  (F_ah n a1 a2).bind fun r1 => (bif decide (r1 < 0) then some ({ Bib := 0, Distance := 0, Wave := 0, Slot := 0, Age := 0, Chip := 0, Team := 0, Lot := 0 : Starter }, false) else (idx a1 r1).bind fun x3 => some (x3, true))
theorem k_o (n : Nat) (a1 : List Starter) (a2 : Int) (r : Starter × Bool) (h : F_o n a1 a2 = some r) :
    C prog 43 [.rsl 8 (List.map Starter.c a1), .int .i64 a2] [] (fun a H => a = .tup [.agg (Starter.c r.1), .bool r.2] ∧ H = [.cells 50 (Starter.c r.1)]) := by
 refine C.of_body func43 Z Z Z ?_
 refine Rg ?_
 refine vH (OpH.box Z Z Z Z Z) ?_
 refine aV (.ptr 0 0) [.cells 3 [.int .i64 a2]] Z Z ?_
 refine vH (OpH.allocZ (v := (.agg [.int .i64 0, .int .i64 0, .int .i64 0, .int .i64 0, .int .i64 0, .int .i64 0, .int .i64 0, .int .i64 0])) zeroValue50 (ZR.agg (ZL.cons ZR.int (ZL.cons ZR.int (ZL.cons ZR.int (ZL.cons ZR.int (ZL.cons ZR.int (ZL.cons ZR.int (ZL.cons ZR.int (ZL.cons ZR.int ZL.nil)))))))))) ?_
 refine aV (.ptr 1 0) [_, .cells 50 [.int .i64 0, .int .i64 0, .int .i64 0, .int .i64 0, .int .i64 0, .int .i64 0, .int .i64 0, .int .i64 0]] Z Z ?_
 refine S Z (Nx (Rg (S Z ?_)))
 refine vX (.fn (.func 69) [] [.ptr 0 0]) (OpV.makeFunc (first := []) (cap := [.tmp 3]) Z Z Z) ?_
 refine Bd h fun r1 hr1 h => ?_
 refine WO.callD [0] (OpC.fn call68 Z Z Z) (k_ah _ _ _ _ hr1) ?_
 rintro _ _ ⟨rfl, rfl⟩
 refine aV (.int .i64 r1) [_, _] Z Z ?_
 refine S Z (Nx (TC.seq (Rg (S Z (S Z (Nx (Cn Z h (fun hc2 h => ?_) (fun hc2 h => ?_))))))))
 ·
  refine Rg ?_
  refine vX (.agg [.int .i64 0, .int .i64 0, .int .i64 0, .int .i64 0, .int .i64 0, .int .i64 0, .int .i64 0, .int .i64 0]) (OpV.loadA Z isAgg50 sizeOf50 Z (Pts.cells Z Z) Z Z) ?_
  refine vU (OpU.store Z Z Z sizeOf50 Z Z Z Z Z Z Z) ?_
  refine WO.atH (H := [_, _]) Z ?_
  refine S Z (Nx (RtR ?_))
  obtain rfl := Oi h
  refine ⟨[(4, .ptr 0 0), (5, .bool (({ Bib := 0, Distance := 0, Wave := 0, Slot := 0, Age := 0, Chip := 0, Team := 0, Lot := 0 : Starter }, false).2))], [.cells 50 (Starter.c (({ Bib := 0, Distance := 0, Wave := 0, Slot := 0, Age := 0, Chip := 0, Team := 0, Lot := 0 : Starter }, false).1))], _, ?_, ResOK.many Z Z (ResL.cons (ResAt.cellB isAgg50 sizeOf50 Z Z Z) (ResL.cons ResAt.tmp ResL.nil)), Z, Z⟩
  exact Lr [1]
 refine SkN (Rg (S Z (S Z (Bd h fun x3 hx3 h => Ix hx3 runUnderlying38 sizeOf50 Z ?_))))
 refine vX (.agg (Starter.c x3)) (OpV.loadA Z isAgg50 sizeOf50 Z Pts.rp Z Z) ?_
 refine vU (OpU.store Z Z Z sizeOf50 Z Z Z Z Z Z Z) ?_
 refine WO.atH (H := [_, .cells 50 (Starter.c x3)]) Z ?_
 refine S Z (Nx (TC.ret ?_))
 obtain rfl := Oi h
 refine ⟨[(4, .ptr 0 0), (5, .bool ((x3, true).2))], [.cells 50 (Starter.c ((x3, true).1))], _, ?_, ResOK.many Z Z (ResL.cons (ResAt.cellB isAgg50 sizeOf50 Z Z Z) (ResL.cons ResAt.tmp ResL.nil)), Z, Z⟩
 exact Lr [1]
def F_c (n : Nat) (a1 : List Starter) (a2 : List Pair) (a3 : Int) (a4 : Int) : Option (Int × Int) :=
  ((bif decide (a3 < 0) then some true else some (decide ((a2.length : Int) < a3))) : Option Bool).bind fun b2 => (bif b2 then some (0, 1) else ((bif decide (0 < a3) then (idx a2 (IntKind.i64.wrap (a3 - 1))).bind fun x17 => ((bif (a4 == x17.A) then some x17.B else (bif (a4 == x17.B) then some x17.A else some a4)) : Option Int).bind fun b20 => some b20 else some a4) : Option Int).bind fun b14 => (F_o n a1 a4).bind fun r24 => (F_o n a1 b14).bind fun r25 => ((bif (!r24.2) then some true else some (!r25.2)) : Option Bool).bind fun b27 => (bif b27 then some (0, 180) else some (r25.1.Chip, 0)))
theorem k_c (n : Nat) (a1 : List Starter) (a2 : List Pair) (a3 : Int) (a4 : Int) (r : Int × Int) (h : F_c n a1 a2 a3 a4 = some r) :
    C prog 19 [.rsl 8 (List.map Starter.c a1), .rsl 2 (List.map Pair.c a2), .int .i64 a3, .int .i64 a4] [] (fun a H => a = .tup [.int .i64 r.1, .int .i64 r.2] ∧ H = []) := by
 refine C.of_body func19 Z Z Z ?_
 refine Rg (S Z (S Z (Nx (TC.seq (TC.seq (Bd h fun b2 h3 h => ?_))))))
 refine TC.cut ([(0, .rsl 8 (List.map Starter.c a1)), (1, .rsl 2 (List.map Pair.c a2)), (2, .int .i64 a3), (3, .int .i64 a4), (23, .bool b2)]) ([]) ?_ (fun env H hle => ?_)
 ·
  refine TC.region (S Z (S Z (S Z (If h3 (fun hg4 h3 => ?_) (fun hg4 h3 => ?_)))))
  ·
   refine KF hg4 Z (KF hg4 Z (KF hg4 Z (KF hg4 Z (Pk hg4 Z (WO.nil ?_)))))
   obtain rfl := Oi h3
   exact cutN (Lr [])
  ·
   refine Sg (gT hg4) Z (Sg (gT hg4) Z ?_)
   refine vX (.int .i64 (a2.length : Int)) (OpV.lenM (e := Pair.c) (l := a2) runUnderlying42) ?_ (gT hg4)
   refine Sg (gT hg4) Z (Pk hg4 Z (WO.nil ?_))
   obtain rfl := Oi h3
   exact cutN (Lr [])
 refine seqN (TC.le hle (Cn Z h (fun hc5 h => ?_) (fun hc5 h => ?_)))
 ·
  refine Rg (S Z (S Z (Nx (RtR ?_))))
  obtain rfl := Oi h
  refine ⟨[(8, _), (9, _)], _, _, ?_, ResOK.two Z Z Z, Z, Z⟩
  exact Lr []
 refine SkN (Rg (S Z (S Z (Nx (TC.seq (Rg (S Z (S Z (Nx (Bd h fun b14 h15 h => ?_))))))))))
 refine TC.cut ([(0, .rsl 8 (List.map Starter.c a1)), (3, .int .i64 a4), (10, .int .i64 b14)]) ([]) ?_ (fun env H hle => ?_)
 ·
  refine Cn Z h15 (fun hc16 h15 => ?_) (fun hc16 h15 => ?_)
  ·
   refine Rg (S Z (S Z (S Z (Bd h15 fun x17 hx17 h15 => Ix hx17 runUnderlying42 sizeOf59 Z ?_))))
   refine vX (.agg (Pair.c x17)) (OpV.loadA Z isAgg59 sizeOf59 Z Pts.rp Z Z) ?_
   refine vH (OpH.allocZ (v := (.agg [.int .i64 0, .int .i64 0])) zeroValue59 (ZR.agg (ZL.cons ZR.int (ZL.cons ZR.int ZL.nil)))) ?_
   refine aV (.ptr 0 0) [.cells 59 [.int .i64 0, .int .i64 0]] Z Z ?_
   refine vU (OpU.store Z Z Z sizeOf59 Z Z Z Z Z Z Z) ?_
   refine WO.atH (H := [.cells 59 (Pair.c x17)]) Z ?_
   refine Nx (Rg (S Z (Nx (TC.block (Rg (Fp fa_59_0 Z (Ld isAgg3 Z (S Z (S Z (Nx (Bd h15 fun b20 h21 h15 => ?_)))))))))))
   refine TC.cut ([(0, .rsl 8 (List.map Starter.c a1)), (3, .int .i64 a4), (10, .int .i64 b20)]) ([]) ?_ (fun env H hle => ?_)
   ·
    refine Cn Z h21 (fun hc22 h21 => ?_) (fun hc22 h21 => ?_)
    ·
     refine TC.region (Fp fa_59_1 Z (Ld isAgg3 Z (S Z (WO.nil ?_))))
     obtain rfl := Oi h21
     exact cutN (Lr [])
    refine Rg (Fp fa_59_1 Z (Ld isAgg3 Z (S Z (S Z (Nx (Cn Z h21 (fun hc23 h21 => ?_) (fun hc23 h21 => ?_)))))))
    ·
     refine TC.region (Fp fa_59_0 Z (Ld isAgg3 Z (S Z (WO.nil ?_))))
     obtain rfl := Oi h21
     exact cutN (Lr [])
    refine TC.skip ?_
    obtain rfl := Oi h21
    exact cutN (Lr [])
   refine bloN ?_
   obtain rfl := Oi h15
   exact cutN (Le.trans hle (Lr []))
  refine TC.skip ?_
  obtain rfl := Oi h15
  exact cutN (Lr [])
 refine seqN (TC.le hle (Rg (S Z (S Z (Bd h fun r24 hr24 h => ?_)))))
 refine WO.callD [] (OpC.fn call43 Z Z Z) (k_o _ _ _ _ hr24) ?_
 rintro _ _ ⟨rfl, rfl⟩
 refine aV (.tup [.agg (Starter.c r24.1), .bool r24.2]) [.cells 50 (Starter.c r24.1)] Z Z ?_
 refine S Z (S Z (S Z ?_))
 refine vH (OpH.allocZ (v := (.agg [.int .i64 0, .int .i64 0, .int .i64 0, .int .i64 0, .int .i64 0, .int .i64 0, .int .i64 0, .int .i64 0])) zeroValue50 (ZR.agg (ZL.cons ZR.int (ZL.cons ZR.int (ZL.cons ZR.int (ZL.cons ZR.int (ZL.cons ZR.int (ZL.cons ZR.int (ZL.cons ZR.int (ZL.cons ZR.int ZL.nil)))))))))) ?_
 refine aV (.ptr 1 0) [_, .cells 50 [.int .i64 0, .int .i64 0, .int .i64 0, .int .i64 0, .int .i64 0, .int .i64 0, .int .i64 0, .int .i64 0]] Z Z ?_
 refine vU (OpU.store Z Z Z sizeOf50 Z Z Z Z Z Z Z) ?_
 refine WO.atH (H := [_, .cells 50 (Starter.c r24.1)]) Z ?_
 refine S Z (Nx (Rg (S Z (S Z (Bd h fun r25 hr25 h => ?_)))))
 refine WO.callD [] (OpC.fn call43 Z Z Z) (k_o _ _ _ _ hr25) ?_
 rintro _ _ ⟨rfl, rfl⟩
 refine aV (.tup [.agg (Starter.c r25.1), .bool r25.2]) [_, _, .cells 50 (Starter.c r25.1)] Z Z ?_
 refine S Z (S Z (S Z ?_))
 refine vH (OpH.allocZ (v := (.agg [.int .i64 0, .int .i64 0, .int .i64 0, .int .i64 0, .int .i64 0, .int .i64 0, .int .i64 0, .int .i64 0])) zeroValue50 (ZR.agg (ZL.cons ZR.int (ZL.cons ZR.int (ZL.cons ZR.int (ZL.cons ZR.int (ZL.cons ZR.int (ZL.cons ZR.int (ZL.cons ZR.int (ZL.cons ZR.int ZL.nil)))))))))) ?_
 refine aV (.ptr 3 0) [_, _, _, .cells 50 [.int .i64 0, .int .i64 0, .int .i64 0, .int .i64 0, .int .i64 0, .int .i64 0, .int .i64 0, .int .i64 0]] Z Z ?_
 refine vU (OpU.store Z Z Z sizeOf50 Z Z Z Z Z Z Z) ?_
 refine WO.atH (H := [_, _, _, .cells 50 (Starter.c r25.1)]) Z ?_
 refine S Z (Nx (TC.seq (TC.seq (Bd h fun b27 h28 h => ?_))))
 refine TC.cut ([(14, .ptr 0 0), (62, .bool b27)]) ([.cells 50 (Starter.c r25.1)]) ?_ (fun env H hle => ?_)
 ·
  refine TC.region (S Z (S Z (S Z (If h28 (fun hg29 h28 => ?_) (fun hg29 h28 => ?_)))))
  ·
   refine KF hg29 Z (KF hg29 Z (Pk hg29 Z (WO.nil ?_)))
   obtain rfl := Oi h28
   exact cutN (Lr [3])
  ·
   refine Sg (gT hg29) Z (Sg (gT hg29) Z (Pk hg29 Z (WO.nil ?_)))
   obtain rfl := Oi h28
   exact cutN (Lr [3])
 refine seqN (TC.le hle (Cn Z h (fun hc30 h => ?_) (fun hc30 h => ?_)))
 ·
  refine Rg (S Z (S Z (Nx (RtR ?_))))
  obtain rfl := Oi h
  refine ⟨[(8, _), (9, _)], _, _, ?_, ResOK.two Z Z Z, Z, Z⟩
  exact Lr []
 refine SkN (Rg (Fp fa_50_5 Z (Ld isAgg3 Z (S Z (S Z (Nx (TC.ret ?_)))))))
 obtain rfl := Oi h
 refine ⟨[(8, _), (9, _)], _, _, ?_, ResOK.two Z Z Z, Z, Z⟩
 exact Lr []
def F_at (n : Nat) (a1 : List Starter) (a2 : List Pair) (a3 : Int) (a4 : Int) (s21 : Int) : Option (Ctl Int (Ctl Unit (Int × Bool))) :=
  (bif decide (s21 < (a1.length : Int)) then (idx a1 s21).bind fun x25 => (F_c n a1 a2 a3 x25.Bib).bind fun r26 => ((bif (r26.2 == 0) then some (r26.1 == a4) else some false) : Option Bool).bind fun b28 => (bif b28 then some (.done (.done (x25.Bib, true))) else some (.cont (IntKind.i64.wrap (s21 + 1)))) else some (.done (.cont ())))
def F_j (n : Nat) (a1 : List Starter) (a2 : List Pair) (a3 : Int) (a4 : Int) : Option (Int × Bool) :=
  (iter (F_at n a1 a2 a3 a4) n 0 : Option (Ctl Unit (Int × Bool))).bind fun b18 => match b18 with | .cont sb18 => (some (0, false)) | .done sb18 => some sb18
theorem k_j (n : Nat) (a1 : List Starter) (a2 : List Pair) (a3 : Int) (a4 : Int) (r : Int × Bool) (h : F_j n a1 a2 a3 a4 = some r) :
    C prog 21 [.rsl 8 (List.map Starter.c a1), .rsl 2 (List.map Pair.c a2), .int .i64 a3, .int .i64 a4] [] (fun a H => a = .tup [.int .i64 r.1, .bool r.2] ∧ H = []) := by
 refine C.of_body func21 Z Z Z ?_
 refine Rg (S Z (S Z (Nx (TC.seq (Rg (S Z (LnM runUnderlying38 Z (S Z (Nx (Bd h fun b18 h19 h => ?_))))))))))
 refine TC.cutE (b := b18) (fun sb18 => []) (fun sb18 => []) ?_ (fun sb18 env H hbe hle => ?_)
 ·
  refine TC.block ?_
  refine TC.loop (E := fun s21 => [(0, .rsl 8 (List.map Starter.c a1)), (1, .rsl 2 (List.map Pair.c a2)), (2, .int .i64 a3), (3, .int .i64 a4), (14, .rsl 8 (List.map Starter.c a1)), (15, .int .i64 (a1.length : Int)), (16, .int .i64 s21)]) (Hp := fun s21 => []) h19 ?_ ?_
  ·
   exact Lr []
  intro s21 d22 h23 hb20
  refine Rg (S Z (Nx (TC.seq (CnS Z h23 (fun hc24 h23 => ?_) (fun hc24 h23 => ?_)))))
  ·
   refine ExX (loopX h23 ?_)
   obtain rfl := hb20 _ (Oi h23).symm
   exact bloE (cutEN Z (Lr []))
  refine SkN (TC.seq (TC.block (Rg (Bd h23 fun x25 hx25 h23 => Ix hx25 runUnderlying38 sizeOf50 Z ?_))))
  refine vX (.agg (Starter.c x25)) (OpV.loadA Z isAgg50 sizeOf50 Z Pts.rp Z Z) ?_
  refine vH (OpH.allocZ (v := (.agg [.int .i64 0, .int .i64 0, .int .i64 0, .int .i64 0, .int .i64 0, .int .i64 0, .int .i64 0, .int .i64 0])) zeroValue50 (ZR.agg (ZL.cons ZR.int (ZL.cons ZR.int (ZL.cons ZR.int (ZL.cons ZR.int (ZL.cons ZR.int (ZL.cons ZR.int (ZL.cons ZR.int (ZL.cons ZR.int ZL.nil)))))))))) ?_
  refine aV (.ptr 0 0) [.cells 50 [.int .i64 0, .int .i64 0, .int .i64 0, .int .i64 0, .int .i64 0, .int .i64 0, .int .i64 0, .int .i64 0]] Z Z ?_
  refine vU (OpU.store Z Z Z sizeOf50 Z Z Z Z Z Z Z) ?_
  refine WO.atH (H := [.cells 50 (Starter.c x25)]) Z ?_
  refine Nx (Rg (S Z (S Z (S Z (Fp fa_50_0 Z (Ld isAgg3 Z (Bd h23 fun r26 hr26 h23 => ?_)))))))
  refine WO.callD [] (OpC.fn call19 Z Z Z) (k_c _ _ _ _ _ _ hr26) ?_
  rintro _ _ ⟨rfl, rfl⟩
  refine aV (.tup [.int .i64 r26.1, .int .i64 r26.2]) [_] Z Z ?_
  refine S Z (S Z (S Z (S Z (S Z (Nx (TC.seq (Bd h23 fun b28 h29 h23 => ?_)))))))
  refine TC.cut ([(0, .rsl 8 (List.map Starter.c a1)), (1, .rsl 2 (List.map Pair.c a2)), (2, .int .i64 a3), (3, .int .i64 a4), (11, .ptr 0 0), (14, .rsl 8 (List.map Starter.c a1)), (15, .int .i64 (a1.length : Int)), (16, .int .i64 s21), (35, .bool b28)]) ([.cells 50 (Starter.c x25)]) ?_ (fun env H hle => ?_)
  ·
   refine TC.region (S Z (S Z (S Z (If h29 (fun hg30 h29 => ?_) (fun hg30 h29 => ?_)))))
   ·
    refine Sg (gT hg30) Z (Sg (gT hg30) Z (Sg (gT hg30) Z (Pk hg30 Z (WO.nil ?_))))
    obtain rfl := Oi h29
    exact cutN (Lr [0])
   ·
    refine KF hg30 Z (KF hg30 Z (KF hg30 Z (Pk hg30 Z (WO.nil ?_))))
    obtain rfl := Oi h29
    exact cutN (Lr [0])
  refine seqN (TC.le hle (Cn Z h23 (fun hc31 h23 => ?_) (fun hc31 h23 => ?_)))
  ·
   refine Rg (Fp fa_50_0 Z (Ld isAgg3 Z (S Z (S Z (Nx (TC.ret (bloR (seqR (loopR h23 ?_)))))))))
   obtain rfl := hb20 _ (Oi h23).symm
   refine bloR (cutER (seqR ?_))
   obtain rfl := Oi h
   refine ⟨[(8, _), (9, _)], _, _, ?_, ResOK.two Z Z Z, Z, Z⟩
   exact Lr []
  exact TC.skip (bloN (seqN (TC.region (S Z (S Z (WO.nil (loopN h23 (Lr []))))))))
 subst hbe
 refine seqN (TC.le hle (Rg (S Z (S Z (Nx (TC.ret ?_))))))
 obtain rfl := Oi h
 refine ⟨[(8, _), (9, _)], _, _, ?_, ResOK.two Z Z Z, Z, Z⟩
 exact Lr []
def F_m (n : Nat) (a1 : List Pair) : Option Unit :=
  some ()
theorem k_m (n : Nat) (a1 : List Pair) (r : Unit) (h : F_m n a1 = some r) :
    C prog 23 [.rsl 2 (List.map Pair.c a1)] [] (fun a H => a = .int .i64 (IntKind.i64.wrap ((a1.length : Int) + 1)) ∧ H = []) := by
 refine C.of_body func23 Z Z Z ?_
 refine Rg (S Z (Nx (Rg (S Z (LnM runUnderlying42 Z (S Z (S Z (Nx (TC.ret ?_)))))))))
 obtain rfl := Oi h
 refine ⟨[(2, _)], _, _, ?_, ResOK.one Z Z, Z, Z⟩
 exact Lr []
def F_al (n : Nat) : Option Bool :=
  (F_s n 2 3 30).bind fun r1 => (F_s n 1 5 50).bind fun r2 => (F_s n 3 5 99).bind fun r3 => (F_aj n).bind fun r4 => (F_ab n ({ Name := [115, 97, 109, 112, 108, 101], Mats := [{ Name := [108, 105, 110, 101], Kind := 1 : Mat }, { Name := [102, 105, 110, 105, 115, 104], Kind := 3 : Mat }], Legs := [{ From := 0, To := 1, Min := 10, Max := 100 : Leg }], Distances := [{ Name := [98, 114, 105, 101, 102], Route := [{ Mat := 0, Laps := 0, Parts := [] : Part }, { Mat := 1, Laps := 0, Parts := [] : Part }], Timing := 1, Cutoffs := [], Extra := (-1) : Distance }], Waves := [{ Name := [101, 108, 105, 116, 101], Gun := 0 : Wave }], Offences := [], Categories := [], Prizes := [], Ties := [{ Kind := 1, By := 4, Cond := { Kind := 0, Var := 0, N := 0, Parts := [] : Cond }, Then := [], Else := [] : Step }], Faults := { Misses := 0, Strays := 0, Window := 0, Residual := 0, Drift := 0 : Faults }, Fee := 0, Deadline := 0 : Course }) [{ Crew := 0, No := 1, At := 2, Kind := 1, Starter := { Bib := 3, Distance := 0, Wave := 0, Slot := 0, Age := 0, Chip := 30, Team := 0, Lot := 0 : Starter }, Read := { Mat := 0, Epoch := 0, Chip := 0, Local := 0 : Read }, Beacon := { Mat := 0, Epoch := 0, Local := 0, True := 0, Err := 0 : Beacon }, Sync := { MatA := 0, EpochA := 0, LocalA := 0, MatB := 0, EpochB := 0, LocalB := 0, Min := 0, Max := 0 : Sync }, Hand := { Bib := 0, Position := 0, Lo := 0, Hi := 0 : Hand }, Silence := { Mat := 0, Epoch := 0, Lo := 0, Hi := 0 : Silence }, Pair := { A := 0, B := 0 : Pair }, Report := { Case := 0, Bib := 0, Offence := 0, Position := 0 : Report }, Protest := { Case := 0, By := 0, Fee := 0, Form := 0 : Protest }, Ruling := { Case := 0, Instance := 0, Kind := 0, Bib := 0, Position := 0, Amount := 0 : Ruling }, Appeal := { Case := 0, Suspends := false : Appeal }, Void := { Crew := 0, No := 0 : Ref } : Fact }, { Crew := 0, No := 1, At := 1, Kind := 1, Starter := { Bib := 5, Distance := 0, Wave := 0, Slot := 0, Age := 0, Chip := 50, Team := 0, Lot := 0 : Starter }, Read := { Mat := 0, Epoch := 0, Chip := 0, Local := 0 : Read }, Beacon := { Mat := 0, Epoch := 0, Local := 0, True := 0, Err := 0 : Beacon }, Sync := { MatA := 0, EpochA := 0, LocalA := 0, MatB := 0, EpochB := 0, LocalB := 0, Min := 0, Max := 0 : Sync }, Hand := { Bib := 0, Position := 0, Lo := 0, Hi := 0 : Hand }, Silence := { Mat := 0, Epoch := 0, Lo := 0, Hi := 0 : Silence }, Pair := { A := 0, B := 0 : Pair }, Report := { Case := 0, Bib := 0, Offence := 0, Position := 0 : Report }, Protest := { Case := 0, By := 0, Fee := 0, Form := 0 : Protest }, Ruling := { Case := 0, Instance := 0, Kind := 0, Bib := 0, Position := 0, Amount := 0 : Ruling }, Appeal := { Case := 0, Suspends := false : Appeal }, Void := { Crew := 0, No := 0 : Ref } : Fact }, { Crew := 0, No := 1, At := 3, Kind := 1, Starter := { Bib := 5, Distance := 0, Wave := 0, Slot := 0, Age := 0, Chip := 99, Team := 0, Lot := 0 : Starter }, Read := { Mat := 0, Epoch := 0, Chip := 0, Local := 0 : Read }, Beacon := { Mat := 0, Epoch := 0, Local := 0, True := 0, Err := 0 : Beacon }, Sync := { MatA := 0, EpochA := 0, LocalA := 0, MatB := 0, EpochB := 0, LocalB := 0, Min := 0, Max := 0 : Sync }, Hand := { Bib := 0, Position := 0, Lo := 0, Hi := 0 : Hand }, Silence := { Mat := 0, Epoch := 0, Lo := 0, Hi := 0 : Silence }, Pair := { A := 0, B := 0 : Pair }, Report := { Case := 0, Bib := 0, Offence := 0, Position := 0 : Report }, Protest := { Case := 0, By := 0, Fee := 0, Form := 0 : Protest }, Ruling := { Case := 0, Instance := 0, Kind := 0, Bib := 0, Position := 0, Amount := 0 : Ruling }, Appeal := { Case := 0, Suspends := false : Appeal }, Void := { Crew := 0, No := 0 : Ref } : Fact }, { Crew := 0, No := 1, At := 0, Kind := 7, Starter := { Bib := 0, Distance := 0, Wave := 0, Slot := 0, Age := 0, Chip := 0, Team := 0, Lot := 0 : Starter }, Read := { Mat := 0, Epoch := 0, Chip := 0, Local := 0 : Read }, Beacon := { Mat := 0, Epoch := 0, Local := 0, True := 0, Err := 0 : Beacon }, Sync := { MatA := 0, EpochA := 0, LocalA := 0, MatB := 0, EpochB := 0, LocalB := 0, Min := 0, Max := 0 : Sync }, Hand := { Bib := 0, Position := 0, Lo := 0, Hi := 0 : Hand }, Silence := { Mat := 0, Epoch := 0, Lo := 0, Hi := 0 : Silence }, Pair := { A := 3, B := 5 : Pair }, Report := { Case := 0, Bib := 0, Offence := 0, Position := 0 : Report }, Protest := { Case := 0, By := 0, Fee := 0, Form := 0 : Protest }, Ruling := { Case := 0, Instance := 0, Kind := 0, Bib := 0, Position := 0, Amount := 0 : Ruling }, Appeal := { Case := 0, Suspends := false : Appeal }, Void := { Crew := 0, No := 0 : Ref } : Fact }, { Crew := 0, No := 2, At := 0, Kind := 7, Starter := { Bib := 0, Distance := 0, Wave := 0, Slot := 0, Age := 0, Chip := 0, Team := 0, Lot := 0 : Starter }, Read := { Mat := 0, Epoch := 0, Chip := 0, Local := 0 : Read }, Beacon := { Mat := 0, Epoch := 0, Local := 0, True := 0, Err := 0 : Beacon }, Sync := { MatA := 0, EpochA := 0, LocalA := 0, MatB := 0, EpochB := 0, LocalB := 0, Min := 0, Max := 0 : Sync }, Hand := { Bib := 0, Position := 0, Lo := 0, Hi := 0 : Hand }, Silence := { Mat := 0, Epoch := 0, Lo := 0, Hi := 0 : Silence }, Pair := { A := 3, B := 6 : Pair }, Report := { Case := 0, Bib := 0, Offence := 0, Position := 0 : Report }, Protest := { Case := 0, By := 0, Fee := 0, Form := 0 : Protest }, Ruling := { Case := 0, Instance := 0, Kind := 0, Bib := 0, Position := 0, Amount := 0 : Ruling }, Appeal := { Case := 0, Suspends := false : Appeal }, Void := { Crew := 0, No := 0 : Ref } : Fact }]).bind fun r5 => (F_aj n).bind fun r6 => (F_cm n ({ Name := [115, 97, 109, 112, 108, 101], Mats := [{ Name := [108, 105, 110, 101], Kind := 1 : Mat }, { Name := [102, 105, 110, 105, 115, 104], Kind := 3 : Mat }], Legs := [{ From := 0, To := 1, Min := 10, Max := 100 : Leg }], Distances := [{ Name := [98, 114, 105, 101, 102], Route := [{ Mat := 0, Laps := 0, Parts := [] : Part }, { Mat := 1, Laps := 0, Parts := [] : Part }], Timing := 1, Cutoffs := [], Extra := (-1) : Distance }], Waves := [{ Name := [101, 108, 105, 116, 101], Gun := 0 : Wave }], Offences := [], Categories := [], Prizes := [], Ties := [{ Kind := 1, By := 4, Cond := { Kind := 0, Var := 0, N := 0, Parts := [] : Cond }, Then := [], Else := [] : Step }], Faults := { Misses := 0, Strays := 0, Window := 0, Residual := 0, Drift := 0 : Faults }, Fee := 0, Deadline := 0 : Course }) [{ Crew := 0, No := 1, At := 2, Kind := 1, Starter := { Bib := 3, Distance := 0, Wave := 0, Slot := 0, Age := 0, Chip := 30, Team := 0, Lot := 0 : Starter }, Read := { Mat := 0, Epoch := 0, Chip := 0, Local := 0 : Read }, Beacon := { Mat := 0, Epoch := 0, Local := 0, True := 0, Err := 0 : Beacon }, Sync := { MatA := 0, EpochA := 0, LocalA := 0, MatB := 0, EpochB := 0, LocalB := 0, Min := 0, Max := 0 : Sync }, Hand := { Bib := 0, Position := 0, Lo := 0, Hi := 0 : Hand }, Silence := { Mat := 0, Epoch := 0, Lo := 0, Hi := 0 : Silence }, Pair := { A := 0, B := 0 : Pair }, Report := { Case := 0, Bib := 0, Offence := 0, Position := 0 : Report }, Protest := { Case := 0, By := 0, Fee := 0, Form := 0 : Protest }, Ruling := { Case := 0, Instance := 0, Kind := 0, Bib := 0, Position := 0, Amount := 0 : Ruling }, Appeal := { Case := 0, Suspends := false : Appeal }, Void := { Crew := 0, No := 0 : Ref } : Fact }, { Crew := 0, No := 1, At := 1, Kind := 1, Starter := { Bib := 5, Distance := 0, Wave := 0, Slot := 0, Age := 0, Chip := 50, Team := 0, Lot := 0 : Starter }, Read := { Mat := 0, Epoch := 0, Chip := 0, Local := 0 : Read }, Beacon := { Mat := 0, Epoch := 0, Local := 0, True := 0, Err := 0 : Beacon }, Sync := { MatA := 0, EpochA := 0, LocalA := 0, MatB := 0, EpochB := 0, LocalB := 0, Min := 0, Max := 0 : Sync }, Hand := { Bib := 0, Position := 0, Lo := 0, Hi := 0 : Hand }, Silence := { Mat := 0, Epoch := 0, Lo := 0, Hi := 0 : Silence }, Pair := { A := 0, B := 0 : Pair }, Report := { Case := 0, Bib := 0, Offence := 0, Position := 0 : Report }, Protest := { Case := 0, By := 0, Fee := 0, Form := 0 : Protest }, Ruling := { Case := 0, Instance := 0, Kind := 0, Bib := 0, Position := 0, Amount := 0 : Ruling }, Appeal := { Case := 0, Suspends := false : Appeal }, Void := { Crew := 0, No := 0 : Ref } : Fact }, { Crew := 0, No := 1, At := 3, Kind := 1, Starter := { Bib := 5, Distance := 0, Wave := 0, Slot := 0, Age := 0, Chip := 99, Team := 0, Lot := 0 : Starter }, Read := { Mat := 0, Epoch := 0, Chip := 0, Local := 0 : Read }, Beacon := { Mat := 0, Epoch := 0, Local := 0, True := 0, Err := 0 : Beacon }, Sync := { MatA := 0, EpochA := 0, LocalA := 0, MatB := 0, EpochB := 0, LocalB := 0, Min := 0, Max := 0 : Sync }, Hand := { Bib := 0, Position := 0, Lo := 0, Hi := 0 : Hand }, Silence := { Mat := 0, Epoch := 0, Lo := 0, Hi := 0 : Silence }, Pair := { A := 0, B := 0 : Pair }, Report := { Case := 0, Bib := 0, Offence := 0, Position := 0 : Report }, Protest := { Case := 0, By := 0, Fee := 0, Form := 0 : Protest }, Ruling := { Case := 0, Instance := 0, Kind := 0, Bib := 0, Position := 0, Amount := 0 : Ruling }, Appeal := { Case := 0, Suspends := false : Appeal }, Void := { Crew := 0, No := 0 : Ref } : Fact }, { Crew := 0, No := 1, At := 0, Kind := 7, Starter := { Bib := 0, Distance := 0, Wave := 0, Slot := 0, Age := 0, Chip := 0, Team := 0, Lot := 0 : Starter }, Read := { Mat := 0, Epoch := 0, Chip := 0, Local := 0 : Read }, Beacon := { Mat := 0, Epoch := 0, Local := 0, True := 0, Err := 0 : Beacon }, Sync := { MatA := 0, EpochA := 0, LocalA := 0, MatB := 0, EpochB := 0, LocalB := 0, Min := 0, Max := 0 : Sync }, Hand := { Bib := 0, Position := 0, Lo := 0, Hi := 0 : Hand }, Silence := { Mat := 0, Epoch := 0, Lo := 0, Hi := 0 : Silence }, Pair := { A := 3, B := 5 : Pair }, Report := { Case := 0, Bib := 0, Offence := 0, Position := 0 : Report }, Protest := { Case := 0, By := 0, Fee := 0, Form := 0 : Protest }, Ruling := { Case := 0, Instance := 0, Kind := 0, Bib := 0, Position := 0, Amount := 0 : Ruling }, Appeal := { Case := 0, Suspends := false : Appeal }, Void := { Crew := 0, No := 0 : Ref } : Fact }, { Crew := 0, No := 2, At := 0, Kind := 7, Starter := { Bib := 0, Distance := 0, Wave := 0, Slot := 0, Age := 0, Chip := 0, Team := 0, Lot := 0 : Starter }, Read := { Mat := 0, Epoch := 0, Chip := 0, Local := 0 : Read }, Beacon := { Mat := 0, Epoch := 0, Local := 0, True := 0, Err := 0 : Beacon }, Sync := { MatA := 0, EpochA := 0, LocalA := 0, MatB := 0, EpochB := 0, LocalB := 0, Min := 0, Max := 0 : Sync }, Hand := { Bib := 0, Position := 0, Lo := 0, Hi := 0 : Hand }, Silence := { Mat := 0, Epoch := 0, Lo := 0, Hi := 0 : Silence }, Pair := { A := 3, B := 6 : Pair }, Report := { Case := 0, Bib := 0, Offence := 0, Position := 0 : Report }, Protest := { Case := 0, By := 0, Fee := 0, Form := 0 : Protest }, Ruling := { Case := 0, Instance := 0, Kind := 0, Bib := 0, Position := 0, Amount := 0 : Ruling }, Appeal := { Case := 0, Suspends := false : Appeal }, Void := { Crew := 0, No := 0 : Ref } : Fact }]).bind fun r7 => (F_c n r5.1 r7.1 1 3).bind fun r8 => (F_c n [] [] 0 1).bind fun r9 => (F_c n r5.1 [] 1 3).bind fun r10 => (F_j n r5.1 r7.1 1 30).bind fun r11 => (F_j n [] [] 0 1).bind fun r12 => ((bif (r5.2 == 0) then (bif ((r5.1.length : Int) == 2) then (idx r5.1 0).bind fun x26 => (bif (x26.Bib == 3) then (idx r5.1 1).bind fun x28 => (bif (x28.Chip == 50) then (bif (r7.2 == 0) then (bif ((r7.1.length : Int) == 1) then (idx r7.1 0).bind fun x32 => some (x32 == ({ A := 3, B := 5 : Pair })) else some false) else some false) else some false) else some false) else some false) else some false) : Option Bool).bind fun b22 => ((bif b22 then (F_m n r7.1).bind fun r47 => (bif ((IntKind.i64.wrap ((r7.1.length : Int) + 1)) == 2) then (F_m n []).bind fun r49 => (bif ((IntKind.i64.wrap ((([] : List Pair).length : Int) + 1)) == 1) then (bif (r8.2 == 0) then (bif (r8.1 == 50) then (bif (r9.2 == 180) then (bif (r10.2 == 1) then (bif r11.2 then (bif (r11.1 == 5) then some (!r12.2) else some false) else some false) else some false) else some false) else some false) else some false) else some false) else some false) else some false) : Option Bool).bind fun b44 => some b44
theorem k_al (n : Nat) (r : Bool) (h : F_al n = some r) :
    C prog 10 [] [] (fun a H => a = .bool r ∧ H = []) := by
 refine C.of_body func10 Z Z Z ?_
 refine Rg (S Z (Nx (Rg (Bd h fun r1 hr1 h => ?_))))
 refine WO.callD [] (OpC.fn call29 Z Z Z) (k_s _ _ _ _ _ hr1) ?_
 rintro _ _ ⟨rfl, rfl⟩
 refine aV (.agg [.int .i64 0, .int .i64 1, .int .i64 2, .int .i64 1, .int .i64 3, .int .i64 0, .int .i64 0, .int .i64 0, .int .i64 0, .int .i64 30, .int .i64 0, .int .i64 0, .int .i64 0, .int .i64 0, .int .i64 0, .int .i64 0, .int .i64 0, .int .i64 0, .int .i64 0, .int .i64 0, .int .i64 0, .int .i64 0, .int .i64 0, .int .i64 0, .int .i64 0, .int .i64 0, .int .i64 0, .int .i64 0, .int .i64 0, .int .i64 0, .int .i64 0, .int .i64 0, .int .i64 0, .int .i64 0, .int .i64 0, .int .i64 0, .int .i64 0, .int .i64 0, .int .i64 0, .int .i64 0, .int .i64 0, .int .i64 0, .int .i64 0, .int .i64 0, .int .i64 0, .int .i64 0, .int .i64 0, .int .i64 0, .int .i64 0, .int .i64 0, .int .i64 0, .int .i64 0, .int .i64 0, .int .i64 0, .bool false, .int .i64 0, .int .i64 0]) [.cells 81 [.int .i64 0, .int .i64 1, .int .i64 2, .int .i64 1, .int .i64 3, .int .i64 0, .int .i64 0, .int .i64 0, .int .i64 0, .int .i64 30, .int .i64 0, .int .i64 0, .int .i64 0, .int .i64 0, .int .i64 0, .int .i64 0, .int .i64 0, .int .i64 0, .int .i64 0, .int .i64 0, .int .i64 0, .int .i64 0, .int .i64 0, .int .i64 0, .int .i64 0, .int .i64 0, .int .i64 0, .int .i64 0, .int .i64 0, .int .i64 0, .int .i64 0, .int .i64 0, .int .i64 0, .int .i64 0, .int .i64 0, .int .i64 0, .int .i64 0, .int .i64 0, .int .i64 0, .int .i64 0, .int .i64 0, .int .i64 0, .int .i64 0, .int .i64 0, .int .i64 0, .int .i64 0, .int .i64 0, .int .i64 0, .int .i64 0, .int .i64 0, .int .i64 0, .int .i64 0, .int .i64 0, .int .i64 0, .bool false, .int .i64 0, .int .i64 0]] Z Z ?_
 refine Bd h fun r2 hr2 h => ?_
 refine WO.callD [] (OpC.fn call29 Z Z Z) (k_s _ _ _ _ _ hr2) ?_
 rintro _ _ ⟨rfl, rfl⟩
 refine aV (.agg [.int .i64 0, .int .i64 1, .int .i64 1, .int .i64 1, .int .i64 5, .int .i64 0, .int .i64 0, .int .i64 0, .int .i64 0, .int .i64 50, .int .i64 0, .int .i64 0, .int .i64 0, .int .i64 0, .int .i64 0, .int .i64 0, .int .i64 0, .int .i64 0, .int .i64 0, .int .i64 0, .int .i64 0, .int .i64 0, .int .i64 0, .int .i64 0, .int .i64 0, .int .i64 0, .int .i64 0, .int .i64 0, .int .i64 0, .int .i64 0, .int .i64 0, .int .i64 0, .int .i64 0, .int .i64 0, .int .i64 0, .int .i64 0, .int .i64 0, .int .i64 0, .int .i64 0, .int .i64 0, .int .i64 0, .int .i64 0, .int .i64 0, .int .i64 0, .int .i64 0, .int .i64 0, .int .i64 0, .int .i64 0, .int .i64 0, .int .i64 0, .int .i64 0, .int .i64 0, .int .i64 0, .int .i64 0, .bool false, .int .i64 0, .int .i64 0]) [_, .cells 81 [.int .i64 0, .int .i64 1, .int .i64 1, .int .i64 1, .int .i64 5, .int .i64 0, .int .i64 0, .int .i64 0, .int .i64 0, .int .i64 50, .int .i64 0, .int .i64 0, .int .i64 0, .int .i64 0, .int .i64 0, .int .i64 0, .int .i64 0, .int .i64 0, .int .i64 0, .int .i64 0, .int .i64 0, .int .i64 0, .int .i64 0, .int .i64 0, .int .i64 0, .int .i64 0, .int .i64 0, .int .i64 0, .int .i64 0, .int .i64 0, .int .i64 0, .int .i64 0, .int .i64 0, .int .i64 0, .int .i64 0, .int .i64 0, .int .i64 0, .int .i64 0, .int .i64 0, .int .i64 0, .int .i64 0, .int .i64 0, .int .i64 0, .int .i64 0, .int .i64 0, .int .i64 0, .int .i64 0, .int .i64 0, .int .i64 0, .int .i64 0, .int .i64 0, .int .i64 0, .int .i64 0, .int .i64 0, .bool false, .int .i64 0, .int .i64 0]] Z Z ?_
 refine Bd h fun r3 hr3 h => ?_
 refine WO.callD [] (OpC.fn call29 Z Z Z) (k_s _ _ _ _ _ hr3) ?_
 rintro _ _ ⟨rfl, rfl⟩
 refine aV (.agg [.int .i64 0, .int .i64 1, .int .i64 3, .int .i64 1, .int .i64 5, .int .i64 0, .int .i64 0, .int .i64 0, .int .i64 0, .int .i64 99, .int .i64 0, .int .i64 0, .int .i64 0, .int .i64 0, .int .i64 0, .int .i64 0, .int .i64 0, .int .i64 0, .int .i64 0, .int .i64 0, .int .i64 0, .int .i64 0, .int .i64 0, .int .i64 0, .int .i64 0, .int .i64 0, .int .i64 0, .int .i64 0, .int .i64 0, .int .i64 0, .int .i64 0, .int .i64 0, .int .i64 0, .int .i64 0, .int .i64 0, .int .i64 0, .int .i64 0, .int .i64 0, .int .i64 0, .int .i64 0, .int .i64 0, .int .i64 0, .int .i64 0, .int .i64 0, .int .i64 0, .int .i64 0, .int .i64 0, .int .i64 0, .int .i64 0, .int .i64 0, .int .i64 0, .int .i64 0, .int .i64 0, .int .i64 0, .bool false, .int .i64 0, .int .i64 0]) [_, _, .cells 81 [.int .i64 0, .int .i64 1, .int .i64 3, .int .i64 1, .int .i64 5, .int .i64 0, .int .i64 0, .int .i64 0, .int .i64 0, .int .i64 99, .int .i64 0, .int .i64 0, .int .i64 0, .int .i64 0, .int .i64 0, .int .i64 0, .int .i64 0, .int .i64 0, .int .i64 0, .int .i64 0, .int .i64 0, .int .i64 0, .int .i64 0, .int .i64 0, .int .i64 0, .int .i64 0, .int .i64 0, .int .i64 0, .int .i64 0, .int .i64 0, .int .i64 0, .int .i64 0, .int .i64 0, .int .i64 0, .int .i64 0, .int .i64 0, .int .i64 0, .int .i64 0, .int .i64 0, .int .i64 0, .int .i64 0, .int .i64 0, .int .i64 0, .int .i64 0, .int .i64 0, .int .i64 0, .int .i64 0, .int .i64 0, .int .i64 0, .int .i64 0, .int .i64 0, .int .i64 0, .int .i64 0, .int .i64 0, .bool false, .int .i64 0, .int .i64 0]] Z Z ?_
 refine vX (.agg [.int .i64 3, .int .i64 5]) (OpV.build (zs := [.int .i64 0, .int .i64 0]) zeroValue59 (ZR.agg (ZL.cons ZR.int (ZL.cons ZR.int ZL.nil))) pl_59) ?_
 refine vX (.agg [.int .i64 0, .int .i64 1, .int .i64 0, .int .i64 7, .int .i64 0, .int .i64 0, .int .i64 0, .int .i64 0, .int .i64 0, .int .i64 0, .int .i64 0, .int .i64 0, .int .i64 0, .int .i64 0, .int .i64 0, .int .i64 0, .int .i64 0, .int .i64 0, .int .i64 0, .int .i64 0, .int .i64 0, .int .i64 0, .int .i64 0, .int .i64 0, .int .i64 0, .int .i64 0, .int .i64 0, .int .i64 0, .int .i64 0, .int .i64 0, .int .i64 0, .int .i64 0, .int .i64 0, .int .i64 0, .int .i64 0, .int .i64 0, .int .i64 0, .int .i64 3, .int .i64 5, .int .i64 0, .int .i64 0, .int .i64 0, .int .i64 0, .int .i64 0, .int .i64 0, .int .i64 0, .int .i64 0, .int .i64 0, .int .i64 0, .int .i64 0, .int .i64 0, .int .i64 0, .int .i64 0, .int .i64 0, .bool false, .int .i64 0, .int .i64 0]) (OpV.build (zs := [.int .i64 0, .int .i64 0, .int .i64 0, .int .i64 0, .int .i64 0, .int .i64 0, .int .i64 0, .int .i64 0, .int .i64 0, .int .i64 0, .int .i64 0, .int .i64 0, .int .i64 0, .int .i64 0, .int .i64 0, .int .i64 0, .int .i64 0, .int .i64 0, .int .i64 0, .int .i64 0, .int .i64 0, .int .i64 0, .int .i64 0, .int .i64 0, .int .i64 0, .int .i64 0, .int .i64 0, .int .i64 0, .int .i64 0, .int .i64 0, .int .i64 0, .int .i64 0, .int .i64 0, .int .i64 0, .int .i64 0, .int .i64 0, .int .i64 0, .int .i64 0, .int .i64 0, .int .i64 0, .int .i64 0, .int .i64 0, .int .i64 0, .int .i64 0, .int .i64 0, .int .i64 0, .int .i64 0, .int .i64 0, .int .i64 0, .int .i64 0, .int .i64 0, .int .i64 0, .int .i64 0, .int .i64 0, .bool false, .int .i64 0, .int .i64 0]) zeroValue81 (ZR.agg (ZL.cons ZR.int (ZL.cons ZR.int (ZL.cons ZR.int (ZL.cons ZR.int (ZL.cons ZR.int (ZL.cons ZR.int (ZL.cons ZR.int (ZL.cons ZR.int (ZL.cons ZR.int (ZL.cons ZR.int (ZL.cons ZR.int (ZL.cons ZR.int (ZL.cons ZR.int (ZL.cons ZR.int (ZL.cons ZR.int (ZL.cons ZR.int (ZL.cons ZR.int (ZL.cons ZR.int (ZL.cons ZR.int (ZL.cons ZR.int (ZL.cons ZR.int (ZL.cons ZR.int (ZL.cons ZR.int (ZL.cons ZR.int (ZL.cons ZR.int (ZL.cons ZR.int (ZL.cons ZR.int (ZL.cons ZR.int (ZL.cons ZR.int (ZL.cons ZR.int (ZL.cons ZR.int (ZL.cons ZR.int (ZL.cons ZR.int (ZL.cons ZR.int (ZL.cons ZR.int (ZL.cons ZR.int (ZL.cons ZR.int (ZL.cons ZR.int (ZL.cons ZR.int (ZL.cons ZR.int (ZL.cons ZR.int (ZL.cons ZR.int (ZL.cons ZR.int (ZL.cons ZR.int (ZL.cons ZR.int (ZL.cons ZR.int (ZL.cons ZR.int (ZL.cons ZR.int (ZL.cons ZR.int (ZL.cons ZR.int (ZL.cons ZR.int (ZL.cons ZR.int (ZL.cons ZR.int (ZL.cons ZR.int (ZL.cons ZR.bool (ZL.cons ZR.int (ZL.cons ZR.int ZL.nil)))))))))))))))))))))))))))))))))))))))))))))))))))))))))) pl_81) ?_
 refine vX (.agg [.int .i64 3, .int .i64 6]) (OpV.build (zs := [.int .i64 0, .int .i64 0]) zeroValue59 (ZR.agg (ZL.cons ZR.int (ZL.cons ZR.int ZL.nil))) pl_59) ?_
 refine vX (.agg [.int .i64 0, .int .i64 2, .int .i64 0, .int .i64 7, .int .i64 0, .int .i64 0, .int .i64 0, .int .i64 0, .int .i64 0, .int .i64 0, .int .i64 0, .int .i64 0, .int .i64 0, .int .i64 0, .int .i64 0, .int .i64 0, .int .i64 0, .int .i64 0, .int .i64 0, .int .i64 0, .int .i64 0, .int .i64 0, .int .i64 0, .int .i64 0, .int .i64 0, .int .i64 0, .int .i64 0, .int .i64 0, .int .i64 0, .int .i64 0, .int .i64 0, .int .i64 0, .int .i64 0, .int .i64 0, .int .i64 0, .int .i64 0, .int .i64 0, .int .i64 3, .int .i64 6, .int .i64 0, .int .i64 0, .int .i64 0, .int .i64 0, .int .i64 0, .int .i64 0, .int .i64 0, .int .i64 0, .int .i64 0, .int .i64 0, .int .i64 0, .int .i64 0, .int .i64 0, .int .i64 0, .int .i64 0, .bool false, .int .i64 0, .int .i64 0]) (OpV.build (zs := [.int .i64 0, .int .i64 0, .int .i64 0, .int .i64 0, .int .i64 0, .int .i64 0, .int .i64 0, .int .i64 0, .int .i64 0, .int .i64 0, .int .i64 0, .int .i64 0, .int .i64 0, .int .i64 0, .int .i64 0, .int .i64 0, .int .i64 0, .int .i64 0, .int .i64 0, .int .i64 0, .int .i64 0, .int .i64 0, .int .i64 0, .int .i64 0, .int .i64 0, .int .i64 0, .int .i64 0, .int .i64 0, .int .i64 0, .int .i64 0, .int .i64 0, .int .i64 0, .int .i64 0, .int .i64 0, .int .i64 0, .int .i64 0, .int .i64 0, .int .i64 0, .int .i64 0, .int .i64 0, .int .i64 0, .int .i64 0, .int .i64 0, .int .i64 0, .int .i64 0, .int .i64 0, .int .i64 0, .int .i64 0, .int .i64 0, .int .i64 0, .int .i64 0, .int .i64 0, .int .i64 0, .int .i64 0, .bool false, .int .i64 0, .int .i64 0]) zeroValue81 (ZR.agg (ZL.cons ZR.int (ZL.cons ZR.int (ZL.cons ZR.int (ZL.cons ZR.int (ZL.cons ZR.int (ZL.cons ZR.int (ZL.cons ZR.int (ZL.cons ZR.int (ZL.cons ZR.int (ZL.cons ZR.int (ZL.cons ZR.int (ZL.cons ZR.int (ZL.cons ZR.int (ZL.cons ZR.int (ZL.cons ZR.int (ZL.cons ZR.int (ZL.cons ZR.int (ZL.cons ZR.int (ZL.cons ZR.int (ZL.cons ZR.int (ZL.cons ZR.int (ZL.cons ZR.int (ZL.cons ZR.int (ZL.cons ZR.int (ZL.cons ZR.int (ZL.cons ZR.int (ZL.cons ZR.int (ZL.cons ZR.int (ZL.cons ZR.int (ZL.cons ZR.int (ZL.cons ZR.int (ZL.cons ZR.int (ZL.cons ZR.int (ZL.cons ZR.int (ZL.cons ZR.int (ZL.cons ZR.int (ZL.cons ZR.int (ZL.cons ZR.int (ZL.cons ZR.int (ZL.cons ZR.int (ZL.cons ZR.int (ZL.cons ZR.int (ZL.cons ZR.int (ZL.cons ZR.int (ZL.cons ZR.int (ZL.cons ZR.int (ZL.cons ZR.int (ZL.cons ZR.int (ZL.cons ZR.int (ZL.cons ZR.int (ZL.cons ZR.int (ZL.cons ZR.int (ZL.cons ZR.int (ZL.cons ZR.int (ZL.cons ZR.bool (ZL.cons ZR.int (ZL.cons ZR.int ZL.nil)))))))))))))))))))))))))))))))))))))))))))))))))))))))))) pl_81) ?_
 refine vH (OpH.lit (xs := [.tmp 17, .tmp 18, .tmp 19, .tmp 21, .tmp 23]) (es := List.map Fact.c [{ Crew := 0, No := 1, At := 2, Kind := 1, Starter := { Bib := 3, Distance := 0, Wave := 0, Slot := 0, Age := 0, Chip := 30, Team := 0, Lot := 0 : Starter }, Read := { Mat := 0, Epoch := 0, Chip := 0, Local := 0 : Read }, Beacon := { Mat := 0, Epoch := 0, Local := 0, True := 0, Err := 0 : Beacon }, Sync := { MatA := 0, EpochA := 0, LocalA := 0, MatB := 0, EpochB := 0, LocalB := 0, Min := 0, Max := 0 : Sync }, Hand := { Bib := 0, Position := 0, Lo := 0, Hi := 0 : Hand }, Silence := { Mat := 0, Epoch := 0, Lo := 0, Hi := 0 : Silence }, Pair := { A := 0, B := 0 : Pair }, Report := { Case := 0, Bib := 0, Offence := 0, Position := 0 : Report }, Protest := { Case := 0, By := 0, Fee := 0, Form := 0 : Protest }, Ruling := { Case := 0, Instance := 0, Kind := 0, Bib := 0, Position := 0, Amount := 0 : Ruling }, Appeal := { Case := 0, Suspends := false : Appeal }, Void := { Crew := 0, No := 0 : Ref } : Fact }, { Crew := 0, No := 1, At := 1, Kind := 1, Starter := { Bib := 5, Distance := 0, Wave := 0, Slot := 0, Age := 0, Chip := 50, Team := 0, Lot := 0 : Starter }, Read := { Mat := 0, Epoch := 0, Chip := 0, Local := 0 : Read }, Beacon := { Mat := 0, Epoch := 0, Local := 0, True := 0, Err := 0 : Beacon }, Sync := { MatA := 0, EpochA := 0, LocalA := 0, MatB := 0, EpochB := 0, LocalB := 0, Min := 0, Max := 0 : Sync }, Hand := { Bib := 0, Position := 0, Lo := 0, Hi := 0 : Hand }, Silence := { Mat := 0, Epoch := 0, Lo := 0, Hi := 0 : Silence }, Pair := { A := 0, B := 0 : Pair }, Report := { Case := 0, Bib := 0, Offence := 0, Position := 0 : Report }, Protest := { Case := 0, By := 0, Fee := 0, Form := 0 : Protest }, Ruling := { Case := 0, Instance := 0, Kind := 0, Bib := 0, Position := 0, Amount := 0 : Ruling }, Appeal := { Case := 0, Suspends := false : Appeal }, Void := { Crew := 0, No := 0 : Ref } : Fact }, { Crew := 0, No := 1, At := 3, Kind := 1, Starter := { Bib := 5, Distance := 0, Wave := 0, Slot := 0, Age := 0, Chip := 99, Team := 0, Lot := 0 : Starter }, Read := { Mat := 0, Epoch := 0, Chip := 0, Local := 0 : Read }, Beacon := { Mat := 0, Epoch := 0, Local := 0, True := 0, Err := 0 : Beacon }, Sync := { MatA := 0, EpochA := 0, LocalA := 0, MatB := 0, EpochB := 0, LocalB := 0, Min := 0, Max := 0 : Sync }, Hand := { Bib := 0, Position := 0, Lo := 0, Hi := 0 : Hand }, Silence := { Mat := 0, Epoch := 0, Lo := 0, Hi := 0 : Silence }, Pair := { A := 0, B := 0 : Pair }, Report := { Case := 0, Bib := 0, Offence := 0, Position := 0 : Report }, Protest := { Case := 0, By := 0, Fee := 0, Form := 0 : Protest }, Ruling := { Case := 0, Instance := 0, Kind := 0, Bib := 0, Position := 0, Amount := 0 : Ruling }, Appeal := { Case := 0, Suspends := false : Appeal }, Void := { Crew := 0, No := 0 : Ref } : Fact }, { Crew := 0, No := 1, At := 0, Kind := 7, Starter := { Bib := 0, Distance := 0, Wave := 0, Slot := 0, Age := 0, Chip := 0, Team := 0, Lot := 0 : Starter }, Read := { Mat := 0, Epoch := 0, Chip := 0, Local := 0 : Read }, Beacon := { Mat := 0, Epoch := 0, Local := 0, True := 0, Err := 0 : Beacon }, Sync := { MatA := 0, EpochA := 0, LocalA := 0, MatB := 0, EpochB := 0, LocalB := 0, Min := 0, Max := 0 : Sync }, Hand := { Bib := 0, Position := 0, Lo := 0, Hi := 0 : Hand }, Silence := { Mat := 0, Epoch := 0, Lo := 0, Hi := 0 : Silence }, Pair := { A := 3, B := 5 : Pair }, Report := { Case := 0, Bib := 0, Offence := 0, Position := 0 : Report }, Protest := { Case := 0, By := 0, Fee := 0, Form := 0 : Protest }, Ruling := { Case := 0, Instance := 0, Kind := 0, Bib := 0, Position := 0, Amount := 0 : Ruling }, Appeal := { Case := 0, Suspends := false : Appeal }, Void := { Crew := 0, No := 0 : Ref } : Fact }, { Crew := 0, No := 2, At := 0, Kind := 7, Starter := { Bib := 0, Distance := 0, Wave := 0, Slot := 0, Age := 0, Chip := 0, Team := 0, Lot := 0 : Starter }, Read := { Mat := 0, Epoch := 0, Chip := 0, Local := 0 : Read }, Beacon := { Mat := 0, Epoch := 0, Local := 0, True := 0, Err := 0 : Beacon }, Sync := { MatA := 0, EpochA := 0, LocalA := 0, MatB := 0, EpochB := 0, LocalB := 0, Min := 0, Max := 0 : Sync }, Hand := { Bib := 0, Position := 0, Lo := 0, Hi := 0 : Hand }, Silence := { Mat := 0, Epoch := 0, Lo := 0, Hi := 0 : Silence }, Pair := { A := 3, B := 6 : Pair }, Report := { Case := 0, Bib := 0, Offence := 0, Position := 0 : Report }, Protest := { Case := 0, By := 0, Fee := 0, Form := 0 : Protest }, Ruling := { Case := 0, Instance := 0, Kind := 0, Bib := 0, Position := 0, Amount := 0 : Ruling }, Appeal := { Case := 0, Suspends := false : Appeal }, Void := { Crew := 0, No := 0 : Ref } : Fact }]) el_34 Z Z Z Z Z ⟨Z, Z, Z, Z, Z, trivial⟩ Z Z) ?_
 refine aV (.osl 3 0 ([{ Crew := 0, No := 1, At := 2, Kind := 1, Starter := { Bib := 3, Distance := 0, Wave := 0, Slot := 0, Age := 0, Chip := 30, Team := 0, Lot := 0 : Starter }, Read := { Mat := 0, Epoch := 0, Chip := 0, Local := 0 : Read }, Beacon := { Mat := 0, Epoch := 0, Local := 0, True := 0, Err := 0 : Beacon }, Sync := { MatA := 0, EpochA := 0, LocalA := 0, MatB := 0, EpochB := 0, LocalB := 0, Min := 0, Max := 0 : Sync }, Hand := { Bib := 0, Position := 0, Lo := 0, Hi := 0 : Hand }, Silence := { Mat := 0, Epoch := 0, Lo := 0, Hi := 0 : Silence }, Pair := { A := 0, B := 0 : Pair }, Report := { Case := 0, Bib := 0, Offence := 0, Position := 0 : Report }, Protest := { Case := 0, By := 0, Fee := 0, Form := 0 : Protest }, Ruling := { Case := 0, Instance := 0, Kind := 0, Bib := 0, Position := 0, Amount := 0 : Ruling }, Appeal := { Case := 0, Suspends := false : Appeal }, Void := { Crew := 0, No := 0 : Ref } : Fact }, { Crew := 0, No := 1, At := 1, Kind := 1, Starter := { Bib := 5, Distance := 0, Wave := 0, Slot := 0, Age := 0, Chip := 50, Team := 0, Lot := 0 : Starter }, Read := { Mat := 0, Epoch := 0, Chip := 0, Local := 0 : Read }, Beacon := { Mat := 0, Epoch := 0, Local := 0, True := 0, Err := 0 : Beacon }, Sync := { MatA := 0, EpochA := 0, LocalA := 0, MatB := 0, EpochB := 0, LocalB := 0, Min := 0, Max := 0 : Sync }, Hand := { Bib := 0, Position := 0, Lo := 0, Hi := 0 : Hand }, Silence := { Mat := 0, Epoch := 0, Lo := 0, Hi := 0 : Silence }, Pair := { A := 0, B := 0 : Pair }, Report := { Case := 0, Bib := 0, Offence := 0, Position := 0 : Report }, Protest := { Case := 0, By := 0, Fee := 0, Form := 0 : Protest }, Ruling := { Case := 0, Instance := 0, Kind := 0, Bib := 0, Position := 0, Amount := 0 : Ruling }, Appeal := { Case := 0, Suspends := false : Appeal }, Void := { Crew := 0, No := 0 : Ref } : Fact }, { Crew := 0, No := 1, At := 3, Kind := 1, Starter := { Bib := 5, Distance := 0, Wave := 0, Slot := 0, Age := 0, Chip := 99, Team := 0, Lot := 0 : Starter }, Read := { Mat := 0, Epoch := 0, Chip := 0, Local := 0 : Read }, Beacon := { Mat := 0, Epoch := 0, Local := 0, True := 0, Err := 0 : Beacon }, Sync := { MatA := 0, EpochA := 0, LocalA := 0, MatB := 0, EpochB := 0, LocalB := 0, Min := 0, Max := 0 : Sync }, Hand := { Bib := 0, Position := 0, Lo := 0, Hi := 0 : Hand }, Silence := { Mat := 0, Epoch := 0, Lo := 0, Hi := 0 : Silence }, Pair := { A := 0, B := 0 : Pair }, Report := { Case := 0, Bib := 0, Offence := 0, Position := 0 : Report }, Protest := { Case := 0, By := 0, Fee := 0, Form := 0 : Protest }, Ruling := { Case := 0, Instance := 0, Kind := 0, Bib := 0, Position := 0, Amount := 0 : Ruling }, Appeal := { Case := 0, Suspends := false : Appeal }, Void := { Crew := 0, No := 0 : Ref } : Fact }, { Crew := 0, No := 1, At := 0, Kind := 7, Starter := { Bib := 0, Distance := 0, Wave := 0, Slot := 0, Age := 0, Chip := 0, Team := 0, Lot := 0 : Starter }, Read := { Mat := 0, Epoch := 0, Chip := 0, Local := 0 : Read }, Beacon := { Mat := 0, Epoch := 0, Local := 0, True := 0, Err := 0 : Beacon }, Sync := { MatA := 0, EpochA := 0, LocalA := 0, MatB := 0, EpochB := 0, LocalB := 0, Min := 0, Max := 0 : Sync }, Hand := { Bib := 0, Position := 0, Lo := 0, Hi := 0 : Hand }, Silence := { Mat := 0, Epoch := 0, Lo := 0, Hi := 0 : Silence }, Pair := { A := 3, B := 5 : Pair }, Report := { Case := 0, Bib := 0, Offence := 0, Position := 0 : Report }, Protest := { Case := 0, By := 0, Fee := 0, Form := 0 : Protest }, Ruling := { Case := 0, Instance := 0, Kind := 0, Bib := 0, Position := 0, Amount := 0 : Ruling }, Appeal := { Case := 0, Suspends := false : Appeal }, Void := { Crew := 0, No := 0 : Ref } : Fact }, { Crew := 0, No := 2, At := 0, Kind := 7, Starter := { Bib := 0, Distance := 0, Wave := 0, Slot := 0, Age := 0, Chip := 0, Team := 0, Lot := 0 : Starter }, Read := { Mat := 0, Epoch := 0, Chip := 0, Local := 0 : Read }, Beacon := { Mat := 0, Epoch := 0, Local := 0, True := 0, Err := 0 : Beacon }, Sync := { MatA := 0, EpochA := 0, LocalA := 0, MatB := 0, EpochB := 0, LocalB := 0, Min := 0, Max := 0 : Sync }, Hand := { Bib := 0, Position := 0, Lo := 0, Hi := 0 : Hand }, Silence := { Mat := 0, Epoch := 0, Lo := 0, Hi := 0 : Silence }, Pair := { A := 3, B := 6 : Pair }, Report := { Case := 0, Bib := 0, Offence := 0, Position := 0 : Report }, Protest := { Case := 0, By := 0, Fee := 0, Form := 0 : Protest }, Ruling := { Case := 0, Instance := 0, Kind := 0, Bib := 0, Position := 0, Amount := 0 : Ruling }, Appeal := { Case := 0, Suspends := false : Appeal }, Void := { Crew := 0, No := 0 : Ref } : Fact }].length) 57) [_, _, _, .row 81 57 (List.map Fact.c [{ Crew := 0, No := 1, At := 2, Kind := 1, Starter := { Bib := 3, Distance := 0, Wave := 0, Slot := 0, Age := 0, Chip := 30, Team := 0, Lot := 0 : Starter }, Read := { Mat := 0, Epoch := 0, Chip := 0, Local := 0 : Read }, Beacon := { Mat := 0, Epoch := 0, Local := 0, True := 0, Err := 0 : Beacon }, Sync := { MatA := 0, EpochA := 0, LocalA := 0, MatB := 0, EpochB := 0, LocalB := 0, Min := 0, Max := 0 : Sync }, Hand := { Bib := 0, Position := 0, Lo := 0, Hi := 0 : Hand }, Silence := { Mat := 0, Epoch := 0, Lo := 0, Hi := 0 : Silence }, Pair := { A := 0, B := 0 : Pair }, Report := { Case := 0, Bib := 0, Offence := 0, Position := 0 : Report }, Protest := { Case := 0, By := 0, Fee := 0, Form := 0 : Protest }, Ruling := { Case := 0, Instance := 0, Kind := 0, Bib := 0, Position := 0, Amount := 0 : Ruling }, Appeal := { Case := 0, Suspends := false : Appeal }, Void := { Crew := 0, No := 0 : Ref } : Fact }, { Crew := 0, No := 1, At := 1, Kind := 1, Starter := { Bib := 5, Distance := 0, Wave := 0, Slot := 0, Age := 0, Chip := 50, Team := 0, Lot := 0 : Starter }, Read := { Mat := 0, Epoch := 0, Chip := 0, Local := 0 : Read }, Beacon := { Mat := 0, Epoch := 0, Local := 0, True := 0, Err := 0 : Beacon }, Sync := { MatA := 0, EpochA := 0, LocalA := 0, MatB := 0, EpochB := 0, LocalB := 0, Min := 0, Max := 0 : Sync }, Hand := { Bib := 0, Position := 0, Lo := 0, Hi := 0 : Hand }, Silence := { Mat := 0, Epoch := 0, Lo := 0, Hi := 0 : Silence }, Pair := { A := 0, B := 0 : Pair }, Report := { Case := 0, Bib := 0, Offence := 0, Position := 0 : Report }, Protest := { Case := 0, By := 0, Fee := 0, Form := 0 : Protest }, Ruling := { Case := 0, Instance := 0, Kind := 0, Bib := 0, Position := 0, Amount := 0 : Ruling }, Appeal := { Case := 0, Suspends := false : Appeal }, Void := { Crew := 0, No := 0 : Ref } : Fact }, { Crew := 0, No := 1, At := 3, Kind := 1, Starter := { Bib := 5, Distance := 0, Wave := 0, Slot := 0, Age := 0, Chip := 99, Team := 0, Lot := 0 : Starter }, Read := { Mat := 0, Epoch := 0, Chip := 0, Local := 0 : Read }, Beacon := { Mat := 0, Epoch := 0, Local := 0, True := 0, Err := 0 : Beacon }, Sync := { MatA := 0, EpochA := 0, LocalA := 0, MatB := 0, EpochB := 0, LocalB := 0, Min := 0, Max := 0 : Sync }, Hand := { Bib := 0, Position := 0, Lo := 0, Hi := 0 : Hand }, Silence := { Mat := 0, Epoch := 0, Lo := 0, Hi := 0 : Silence }, Pair := { A := 0, B := 0 : Pair }, Report := { Case := 0, Bib := 0, Offence := 0, Position := 0 : Report }, Protest := { Case := 0, By := 0, Fee := 0, Form := 0 : Protest }, Ruling := { Case := 0, Instance := 0, Kind := 0, Bib := 0, Position := 0, Amount := 0 : Ruling }, Appeal := { Case := 0, Suspends := false : Appeal }, Void := { Crew := 0, No := 0 : Ref } : Fact }, { Crew := 0, No := 1, At := 0, Kind := 7, Starter := { Bib := 0, Distance := 0, Wave := 0, Slot := 0, Age := 0, Chip := 0, Team := 0, Lot := 0 : Starter }, Read := { Mat := 0, Epoch := 0, Chip := 0, Local := 0 : Read }, Beacon := { Mat := 0, Epoch := 0, Local := 0, True := 0, Err := 0 : Beacon }, Sync := { MatA := 0, EpochA := 0, LocalA := 0, MatB := 0, EpochB := 0, LocalB := 0, Min := 0, Max := 0 : Sync }, Hand := { Bib := 0, Position := 0, Lo := 0, Hi := 0 : Hand }, Silence := { Mat := 0, Epoch := 0, Lo := 0, Hi := 0 : Silence }, Pair := { A := 3, B := 5 : Pair }, Report := { Case := 0, Bib := 0, Offence := 0, Position := 0 : Report }, Protest := { Case := 0, By := 0, Fee := 0, Form := 0 : Protest }, Ruling := { Case := 0, Instance := 0, Kind := 0, Bib := 0, Position := 0, Amount := 0 : Ruling }, Appeal := { Case := 0, Suspends := false : Appeal }, Void := { Crew := 0, No := 0 : Ref } : Fact }, { Crew := 0, No := 2, At := 0, Kind := 7, Starter := { Bib := 0, Distance := 0, Wave := 0, Slot := 0, Age := 0, Chip := 0, Team := 0, Lot := 0 : Starter }, Read := { Mat := 0, Epoch := 0, Chip := 0, Local := 0 : Read }, Beacon := { Mat := 0, Epoch := 0, Local := 0, True := 0, Err := 0 : Beacon }, Sync := { MatA := 0, EpochA := 0, LocalA := 0, MatB := 0, EpochB := 0, LocalB := 0, Min := 0, Max := 0 : Sync }, Hand := { Bib := 0, Position := 0, Lo := 0, Hi := 0 : Hand }, Silence := { Mat := 0, Epoch := 0, Lo := 0, Hi := 0 : Silence }, Pair := { A := 3, B := 6 : Pair }, Report := { Case := 0, Bib := 0, Offence := 0, Position := 0 : Report }, Protest := { Case := 0, By := 0, Fee := 0, Form := 0 : Protest }, Ruling := { Case := 0, Instance := 0, Kind := 0, Bib := 0, Position := 0, Amount := 0 : Ruling }, Appeal := { Case := 0, Suspends := false : Appeal }, Void := { Crew := 0, No := 0 : Ref } : Fact }])] Z Z ?_
 refine S Z (Nx (Rg (Bd h fun r4 hr4 h => ?_)))
 refine WO.callD [] (OpC.fn call30 Z Z Z) (k_aj _ _ hr4) ?_
 rintro _ _ ⟨rfl, rfl⟩
 refine aV (.agg [.str [115, 97, 109, 112, 108, 101], .osl 4 0 ([{ Name := [108, 105, 110, 101], Kind := 1 : Mat }, { Name := [102, 105, 110, 105, 115, 104], Kind := 3 : Mat }].length) 2, .osl 5 0 ([{ From := 0, To := 1, Min := 10, Max := 100 : Leg }].length) 4, .osl 6 0 ([{ Name := [98, 114, 105, 101, 102], Route := [{ Mat := 0, Laps := 0, Parts := [] : Part }, { Mat := 1, Laps := 0, Parts := [] : Part }], Timing := 1, Cutoffs := [], Extra := (-1) : Distance }].length) 5, .osl 7 0 ([{ Name := [101, 108, 105, 116, 101], Gun := 0 : Wave }].length) 2, .rsl 4 (List.map Offence.c []), .rsl 3 (List.map Category.c []), .rsl 4 (List.map Prize.c []), .osl 8 0 ([{ Kind := 1, By := 4, Cond := { Kind := 0, Var := 0, N := 0, Parts := [] : Cond }, Then := [], Else := [] : Step }].length) 8, .int .i64 0, .int .i64 0, .int .i64 0, .int .i64 0, .int .i64 0, .int .i64 0, .int .i64 0]) [_, _, _, _, .row 96 2 (List.map Mat.c [{ Name := [108, 105, 110, 101], Kind := 1 : Mat }, { Name := [102, 105, 110, 105, 115, 104], Kind := 3 : Mat }]), .row 123 4 (List.map Leg.c [{ From := 0, To := 1, Min := 10, Max := 100 : Leg }]), .row 94 5 (List.map Distance.c [{ Name := [98, 114, 105, 101, 102], Route := [{ Mat := 0, Laps := 0, Parts := [] : Part }, { Mat := 1, Laps := 0, Parts := [] : Part }], Timing := 1, Cutoffs := [], Extra := (-1) : Distance }]), .row 127 2 (List.map Wave.c [{ Name := [101, 108, 105, 116, 101], Gun := 0 : Wave }]), .row 132 8 (List.map Step.enc [{ Kind := 1, By := 4, Cond := { Kind := 0, Var := 0, N := 0, Parts := [] : Cond }, Then := [], Else := [] : Step }]), .cells 33 [.str [115, 97, 109, 112, 108, 101], .osl 4 0 ([{ Name := [108, 105, 110, 101], Kind := 1 : Mat }, { Name := [102, 105, 110, 105, 115, 104], Kind := 3 : Mat }].length) 2, .osl 5 0 ([{ From := 0, To := 1, Min := 10, Max := 100 : Leg }].length) 4, .osl 6 0 ([{ Name := [98, 114, 105, 101, 102], Route := [{ Mat := 0, Laps := 0, Parts := [] : Part }, { Mat := 1, Laps := 0, Parts := [] : Part }], Timing := 1, Cutoffs := [], Extra := (-1) : Distance }].length) 5, .osl 7 0 ([{ Name := [101, 108, 105, 116, 101], Gun := 0 : Wave }].length) 2, .rsl 4 (List.map Offence.c []), .rsl 3 (List.map Category.c []), .rsl 4 (List.map Prize.c []), .osl 8 0 ([{ Kind := 1, By := 4, Cond := { Kind := 0, Var := 0, N := 0, Parts := [] : Cond }, Then := [], Else := [] : Step }].length) 8, .int .i64 0, .int .i64 0, .int .i64 0, .int .i64 0, .int .i64 0, .int .i64 0, .int .i64 0]] Z Z ?_
 refine S Z ?_
 refine WO.le (Le.fz [(26, _)] Z Z (FzOv.cons Z (FzA.agg (FzL.cons (FzA.refl _) (FzL.cons (FzA.own (List.length_map ..).symm) (FzL.refl _)))) FzOv.nil) (FzH.keep (FzH.keep (FzH.keep (FzH.keep (FzH.keep (FzH.keep (FzH.keep (FzH.keep (FzH.keep (FzH.cells (FzL.cons (FzA.refl _) (FzL.cons (FzA.own (List.length_map ..).symm) (FzL.refl _))) (FzH.nil)))))))))))) ?_
 refine WO.le (Le.fz [(26, _)] Z Z (FzOv.cons Z (FzA.agg (FzL.cons (FzA.refl _) (FzL.cons (FzA.refl _) (FzL.cons (FzA.own (List.length_map ..).symm) (FzL.refl _))))) FzOv.nil) (FzH.keep (FzH.keep (FzH.keep (FzH.keep (FzH.keep (FzH.keep (FzH.keep (FzH.keep (FzH.keep (FzH.cells (FzL.cons (FzA.refl _) (FzL.cons (FzA.refl _) (FzL.cons (FzA.own (List.length_map ..).symm) (FzL.refl _)))) (FzH.nil)))))))))))) ?_
 refine WO.le (Le.fz [(26, _)] Z Z (FzOv.cons Z (FzA.agg (FzL.cons (FzA.refl _) (FzL.cons (FzA.refl _) (FzL.cons (FzA.refl _) (FzL.cons (FzA.own (List.length_map ..).symm) (FzL.refl _)))))) FzOv.nil) (FzH.keep (FzH.keep (FzH.keep (FzH.keep (FzH.keep (FzH.keep (FzH.keep (FzH.keep (FzH.keep (FzH.cells (FzL.cons (FzA.refl _) (FzL.cons (FzA.refl _) (FzL.cons (FzA.refl _) (FzL.cons (FzA.own (List.length_map ..).symm) (FzL.refl _))))) (FzH.nil)))))))))))) ?_
 refine WO.le (Le.fz [(26, _)] Z Z (FzOv.cons Z (FzA.agg (FzL.cons (FzA.refl _) (FzL.cons (FzA.refl _) (FzL.cons (FzA.refl _) (FzL.cons (FzA.refl _) (FzL.cons (FzA.own (List.length_map ..).symm) (FzL.refl _))))))) FzOv.nil) (FzH.keep (FzH.keep (FzH.keep (FzH.keep (FzH.keep (FzH.keep (FzH.keep (FzH.keep (FzH.keep (FzH.cells (FzL.cons (FzA.refl _) (FzL.cons (FzA.refl _) (FzL.cons (FzA.refl _) (FzL.cons (FzA.refl _) (FzL.cons (FzA.own (List.length_map ..).symm) (FzL.refl _)))))) (FzH.nil)))))))))))) ?_
 refine WO.le (Le.fz [(26, _)] Z Z (FzOv.cons Z (FzA.agg (FzL.cons (FzA.refl _) (FzL.cons (FzA.refl _) (FzL.cons (FzA.refl _) (FzL.cons (FzA.refl _) (FzL.cons (FzA.refl _) (FzL.cons (FzA.refl _) (FzL.cons (FzA.refl _) (FzL.cons (FzA.refl _) (FzL.cons (FzA.own (List.length_map ..).symm) (FzL.refl _))))))))))) FzOv.nil) (FzH.keep (FzH.keep (FzH.keep (FzH.keep (FzH.keep (FzH.keep (FzH.keep (FzH.keep (FzH.keep (FzH.cells (FzL.cons (FzA.refl _) (FzL.cons (FzA.refl _) (FzL.cons (FzA.refl _) (FzL.cons (FzA.refl _) (FzL.cons (FzA.refl _) (FzL.cons (FzA.refl _) (FzL.cons (FzA.refl _) (FzL.cons (FzA.refl _) (FzL.cons (FzA.own (List.length_map ..).symm) (FzL.refl _)))))))))) (FzH.nil)))))))))))) ?_
 refine WO.le (Le.fz [(1, _), (24, _), (27, _)] Z Z (FzOv.cons Z (FzA.own (List.length_map ..).symm) (FzOv.cons Z (FzA.own (List.length_map ..).symm) (FzOv.cons Z (FzA.own (List.length_map ..).symm) FzOv.nil))) (FzH.keep (FzH.keep (FzH.keep (FzH.keep (FzH.keep (FzH.keep (FzH.keep (FzH.keep (FzH.keep (FzH.keep (FzH.nil)))))))))))) ?_
 refine Bd h fun r5 hr5 h => ?_
 refine WO.callD [] (OpC.fn call13 Z Z Z) (k_ab _ _ _ _ hr5) ?_
 rintro _ _ ⟨rfl, rfl⟩
 refine aV (.tup [.osl 10 0 r5.1.length 8, .int .i64 r5.2]) [_, _, _, .dead, .dead, .dead, .dead, .dead, .dead, .cells 33 [.str [115, 97, 109, 112, 108, 101], .rsl 2 (List.map Mat.c [{ Name := [108, 105, 110, 101], Kind := 1 : Mat }, { Name := [102, 105, 110, 105, 115, 104], Kind := 3 : Mat }]), .rsl 4 (List.map Leg.c [{ From := 0, To := 1, Min := 10, Max := 100 : Leg }]), .rsl 5 (List.map Distance.c [{ Name := [98, 114, 105, 101, 102], Route := [{ Mat := 0, Laps := 0, Parts := [] : Part }, { Mat := 1, Laps := 0, Parts := [] : Part }], Timing := 1, Cutoffs := [], Extra := (-1) : Distance }]), .rsl 2 (List.map Wave.c [{ Name := [101, 108, 105, 116, 101], Gun := 0 : Wave }]), .rsl 4 (List.map Offence.c []), .rsl 3 (List.map Category.c []), .rsl 4 (List.map Prize.c []), .rsl 8 (List.map Step.enc [{ Kind := 1, By := 4, Cond := { Kind := 0, Var := 0, N := 0, Parts := [] : Cond }, Then := [], Else := [] : Step }]), .int .i64 0, .int .i64 0, .int .i64 0, .int .i64 0, .int .i64 0, .int .i64 0, .int .i64 0], .row 50 8 (List.map Starter.c r5.1)] Z Z ?_
 refine S Z (S Z (S Z (S Z (S Z (Nx (Rg (Bd h fun r6 hr6 h => ?_)))))))
 refine WO.callD [] (OpC.fn call30 Z Z Z) (k_aj _ _ hr6) ?_
 rintro _ _ ⟨rfl, rfl⟩
 refine aV (.agg [.str [115, 97, 109, 112, 108, 101], .osl 11 0 ([{ Name := [108, 105, 110, 101], Kind := 1 : Mat }, { Name := [102, 105, 110, 105, 115, 104], Kind := 3 : Mat }].length) 2, .osl 12 0 ([{ From := 0, To := 1, Min := 10, Max := 100 : Leg }].length) 4, .osl 13 0 ([{ Name := [98, 114, 105, 101, 102], Route := [{ Mat := 0, Laps := 0, Parts := [] : Part }, { Mat := 1, Laps := 0, Parts := [] : Part }], Timing := 1, Cutoffs := [], Extra := (-1) : Distance }].length) 5, .osl 14 0 ([{ Name := [101, 108, 105, 116, 101], Gun := 0 : Wave }].length) 2, .rsl 4 (List.map Offence.c []), .rsl 3 (List.map Category.c []), .rsl 4 (List.map Prize.c []), .osl 15 0 ([{ Kind := 1, By := 4, Cond := { Kind := 0, Var := 0, N := 0, Parts := [] : Cond }, Then := [], Else := [] : Step }].length) 8, .int .i64 0, .int .i64 0, .int .i64 0, .int .i64 0, .int .i64 0, .int .i64 0, .int .i64 0]) [_, _, _, _, _, _, _, _, _, _, _, .row 96 2 (List.map Mat.c [{ Name := [108, 105, 110, 101], Kind := 1 : Mat }, { Name := [102, 105, 110, 105, 115, 104], Kind := 3 : Mat }]), .row 123 4 (List.map Leg.c [{ From := 0, To := 1, Min := 10, Max := 100 : Leg }]), .row 94 5 (List.map Distance.c [{ Name := [98, 114, 105, 101, 102], Route := [{ Mat := 0, Laps := 0, Parts := [] : Part }, { Mat := 1, Laps := 0, Parts := [] : Part }], Timing := 1, Cutoffs := [], Extra := (-1) : Distance }]), .row 127 2 (List.map Wave.c [{ Name := [101, 108, 105, 116, 101], Gun := 0 : Wave }]), .row 132 8 (List.map Step.enc [{ Kind := 1, By := 4, Cond := { Kind := 0, Var := 0, N := 0, Parts := [] : Cond }, Then := [], Else := [] : Step }]), .cells 33 [.str [115, 97, 109, 112, 108, 101], .osl 11 0 ([{ Name := [108, 105, 110, 101], Kind := 1 : Mat }, { Name := [102, 105, 110, 105, 115, 104], Kind := 3 : Mat }].length) 2, .osl 12 0 ([{ From := 0, To := 1, Min := 10, Max := 100 : Leg }].length) 4, .osl 13 0 ([{ Name := [98, 114, 105, 101, 102], Route := [{ Mat := 0, Laps := 0, Parts := [] : Part }, { Mat := 1, Laps := 0, Parts := [] : Part }], Timing := 1, Cutoffs := [], Extra := (-1) : Distance }].length) 5, .osl 14 0 ([{ Name := [101, 108, 105, 116, 101], Gun := 0 : Wave }].length) 2, .rsl 4 (List.map Offence.c []), .rsl 3 (List.map Category.c []), .rsl 4 (List.map Prize.c []), .osl 15 0 ([{ Kind := 1, By := 4, Cond := { Kind := 0, Var := 0, N := 0, Parts := [] : Cond }, Then := [], Else := [] : Step }].length) 8, .int .i64 0, .int .i64 0, .int .i64 0, .int .i64 0, .int .i64 0, .int .i64 0, .int .i64 0]] Z Z ?_
 refine S Z ?_
 refine WO.le (Le.fz [(32, _)] Z Z (FzOv.cons Z (FzA.agg (FzL.cons (FzA.refl _) (FzL.cons (FzA.own (List.length_map ..).symm) (FzL.refl _)))) FzOv.nil) (FzH.keep (FzH.keep (FzH.keep (FzH.keep (FzH.keep (FzH.keep (FzH.keep (FzH.keep (FzH.keep (FzH.keep (FzH.keep (FzH.keep (FzH.keep (FzH.keep (FzH.keep (FzH.keep (FzH.cells (FzL.cons (FzA.refl _) (FzL.cons (FzA.own (List.length_map ..).symm) (FzL.refl _))) (FzH.nil))))))))))))))))))) ?_
 refine WO.le (Le.fz [(32, _)] Z Z (FzOv.cons Z (FzA.agg (FzL.cons (FzA.refl _) (FzL.cons (FzA.refl _) (FzL.cons (FzA.own (List.length_map ..).symm) (FzL.refl _))))) FzOv.nil) (FzH.keep (FzH.keep (FzH.keep (FzH.keep (FzH.keep (FzH.keep (FzH.keep (FzH.keep (FzH.keep (FzH.keep (FzH.keep (FzH.keep (FzH.keep (FzH.keep (FzH.keep (FzH.keep (FzH.cells (FzL.cons (FzA.refl _) (FzL.cons (FzA.refl _) (FzL.cons (FzA.own (List.length_map ..).symm) (FzL.refl _)))) (FzH.nil))))))))))))))))))) ?_
 refine WO.le (Le.fz [(32, _)] Z Z (FzOv.cons Z (FzA.agg (FzL.cons (FzA.refl _) (FzL.cons (FzA.refl _) (FzL.cons (FzA.refl _) (FzL.cons (FzA.own (List.length_map ..).symm) (FzL.refl _)))))) FzOv.nil) (FzH.keep (FzH.keep (FzH.keep (FzH.keep (FzH.keep (FzH.keep (FzH.keep (FzH.keep (FzH.keep (FzH.keep (FzH.keep (FzH.keep (FzH.keep (FzH.keep (FzH.keep (FzH.keep (FzH.cells (FzL.cons (FzA.refl _) (FzL.cons (FzA.refl _) (FzL.cons (FzA.refl _) (FzL.cons (FzA.own (List.length_map ..).symm) (FzL.refl _))))) (FzH.nil))))))))))))))))))) ?_
 refine WO.le (Le.fz [(32, _)] Z Z (FzOv.cons Z (FzA.agg (FzL.cons (FzA.refl _) (FzL.cons (FzA.refl _) (FzL.cons (FzA.refl _) (FzL.cons (FzA.refl _) (FzL.cons (FzA.own (List.length_map ..).symm) (FzL.refl _))))))) FzOv.nil) (FzH.keep (FzH.keep (FzH.keep (FzH.keep (FzH.keep (FzH.keep (FzH.keep (FzH.keep (FzH.keep (FzH.keep (FzH.keep (FzH.keep (FzH.keep (FzH.keep (FzH.keep (FzH.keep (FzH.cells (FzL.cons (FzA.refl _) (FzL.cons (FzA.refl _) (FzL.cons (FzA.refl _) (FzL.cons (FzA.refl _) (FzL.cons (FzA.own (List.length_map ..).symm) (FzL.refl _)))))) (FzH.nil))))))))))))))))))) ?_
 refine WO.le (Le.fz [(32, _)] Z Z (FzOv.cons Z (FzA.agg (FzL.cons (FzA.refl _) (FzL.cons (FzA.refl _) (FzL.cons (FzA.refl _) (FzL.cons (FzA.refl _) (FzL.cons (FzA.refl _) (FzL.cons (FzA.refl _) (FzL.cons (FzA.refl _) (FzL.cons (FzA.refl _) (FzL.cons (FzA.own (List.length_map ..).symm) (FzL.refl _))))))))))) FzOv.nil) (FzH.keep (FzH.keep (FzH.keep (FzH.keep (FzH.keep (FzH.keep (FzH.keep (FzH.keep (FzH.keep (FzH.keep (FzH.keep (FzH.keep (FzH.keep (FzH.keep (FzH.keep (FzH.keep (FzH.cells (FzL.cons (FzA.refl _) (FzL.cons (FzA.refl _) (FzL.cons (FzA.refl _) (FzL.cons (FzA.refl _) (FzL.cons (FzA.refl _) (FzL.cons (FzA.refl _) (FzL.cons (FzA.refl _) (FzL.cons (FzA.refl _) (FzL.cons (FzA.own (List.length_map ..).symm) (FzL.refl _)))))))))) (FzH.nil))))))))))))))))))) ?_
 refine Bd h fun r7 hr7 h => ?_
 refine WO.callD [] (OpC.fn call15 Z Z Z) (k_cm _ _ _ _ hr7) ?_
 rintro _ _ ⟨rfl, rfl⟩
 refine aV (.tup [.osl 17 0 r7.1.length 2, .int .i64 r7.2]) [_, _, _, _, _, _, _, _, _, _, _, .dead, .dead, .dead, .dead, .dead, .cells 33 [.str [115, 97, 109, 112, 108, 101], .rsl 2 (List.map Mat.c [{ Name := [108, 105, 110, 101], Kind := 1 : Mat }, { Name := [102, 105, 110, 105, 115, 104], Kind := 3 : Mat }]), .rsl 4 (List.map Leg.c [{ From := 0, To := 1, Min := 10, Max := 100 : Leg }]), .rsl 5 (List.map Distance.c [{ Name := [98, 114, 105, 101, 102], Route := [{ Mat := 0, Laps := 0, Parts := [] : Part }, { Mat := 1, Laps := 0, Parts := [] : Part }], Timing := 1, Cutoffs := [], Extra := (-1) : Distance }]), .rsl 2 (List.map Wave.c [{ Name := [101, 108, 105, 116, 101], Gun := 0 : Wave }]), .rsl 4 (List.map Offence.c []), .rsl 3 (List.map Category.c []), .rsl 4 (List.map Prize.c []), .rsl 8 (List.map Step.enc [{ Kind := 1, By := 4, Cond := { Kind := 0, Var := 0, N := 0, Parts := [] : Cond }, Then := [], Else := [] : Step }]), .int .i64 0, .int .i64 0, .int .i64 0, .int .i64 0, .int .i64 0, .int .i64 0, .int .i64 0], .row 59 2 (List.map Pair.c r7.1)] Z Z ?_
 refine S Z (S Z (S Z (S Z (S Z (Nx (Rg (S Z (S Z (Bd h fun r8 hr8 h => ?_)))))))))
 refine WO.callB (OpC.fn call19 rfl rfl rfl) (LookL.cons rfl (.inr ⟨_, _, _, _, _, rfl, rfl, List.length_map .., rfl⟩) (LookL.cons rfl (.inr ⟨_, _, _, _, _, rfl, rfl, List.length_map .., rfl⟩) (LookL.cons rfl (.inl ⟨rfl, rfl⟩) (LookL.cons rfl (.inl ⟨rfl, rfl⟩) LookL.nil)))) (k_c _ _ _ _ _ _ hr8) (by rintro _ _ ⟨rfl, rfl⟩; rfl) ?_
 rintro _ _ ⟨rfl, rfl⟩
 refine aV (.tup [.int .i64 r8.1, .int .i64 r8.2]) [_, _, _, _, _, _, _, _, _, _, _, _, _, _, _, _, _, _] Z Z ?_
 refine S Z (S Z (S Z (S Z (S Z (Nx (Rg (Bd h fun r9 hr9 h => ?_)))))))
 refine WO.callD [] (OpC.fn call19 Z Z Z) (C.nils (NilL.nl (NilL.nl (NilL.eq (NilL.eq NilL.nil)))) (k_c _ _ _ _ _ _ hr9)) ?_
 rintro _ _ ⟨rfl, rfl⟩
 refine aV (.tup [.int .i64 r9.1, .int .i64 r9.2]) [_, _, _, _, _, _, _, _, _, _, _, _, _, _, _, _, _, _] Z Z ?_
 refine S Z (S Z (S Z (S Z (S Z (Nx (Rg (S Z (Bd h fun r10 hr10 h => ?_))))))))
 refine WO.callB (OpC.fn call19 rfl rfl rfl) (LookL.cons rfl (.inr ⟨_, _, _, _, _, rfl, rfl, List.length_map .., rfl⟩) (LookL.cons rfl (.inl ⟨rfl, rfl⟩) (LookL.cons rfl (.inl ⟨rfl, rfl⟩) (LookL.cons rfl (.inl ⟨rfl, rfl⟩) LookL.nil)))) (C.nils (NilL.eq (NilL.nl (NilL.eq (NilL.eq NilL.nil)))) (k_c _ _ _ _ _ _ hr10)) (by rintro _ _ ⟨rfl, rfl⟩; rfl) ?_
 rintro _ _ ⟨rfl, rfl⟩
 refine aV (.tup [.int .i64 r10.1, .int .i64 r10.2]) [_, _, _, _, _, _, _, _, _, _, _, _, _, _, _, _, _, _] Z Z ?_
 refine S Z (S Z (S Z (S Z (S Z (Nx (Rg (S Z (S Z (Bd h fun r11 hr11 h => ?_)))))))))
 refine WO.callB (OpC.fn call21 rfl rfl rfl) (LookL.cons rfl (.inr ⟨_, _, _, _, _, rfl, rfl, List.length_map .., rfl⟩) (LookL.cons rfl (.inr ⟨_, _, _, _, _, rfl, rfl, List.length_map .., rfl⟩) (LookL.cons rfl (.inl ⟨rfl, rfl⟩) (LookL.cons rfl (.inl ⟨rfl, rfl⟩) LookL.nil)))) (k_j _ _ _ _ _ _ hr11) (by rintro _ _ ⟨rfl, rfl⟩; rfl) ?_
 rintro _ _ ⟨rfl, rfl⟩
 refine aV (.tup [.int .i64 r11.1, .bool r11.2]) [_, _, _, _, _, _, _, _, _, _, _, _, _, _, _, _, _, _] Z Z ?_
 refine S Z (S Z (S Z (S Z (S Z (Nx (Rg (Bd h fun r12 hr12 h => ?_)))))))
 refine WO.callD [] (OpC.fn call21 Z Z Z) (C.nils (NilL.nl (NilL.nl (NilL.eq (NilL.eq NilL.nil)))) (k_j _ _ _ _ _ _ hr12)) ?_
 rintro _ _ ⟨rfl, rfl⟩
 refine aV (.tup [.int .i64 r12.1, .bool r12.2]) [_, _, _, _, _, _, _, _, _, _, _, _, _, _, _, _, _, _] Z Z ?_
 refine S Z (S Z (S Z (S Z (S Z (Nx (TC.seq (Bd h fun b22 h23 h => ?_)))))))
 refine TC.cut ([(4, .osl 0 0 r7.1.length 2), (6, .int .i64 r8.1), (7, .int .i64 r8.2), (9, .int .i64 r9.2), (11, .int .i64 r10.2), (12, .int .i64 r11.1), (13, .bool r11.2), (15, .bool r12.2), (16, .bool b22)]) ([.row 59 2 (List.map Pair.c r7.1)]) ?_ (fun env H hle => ?_)
 ·
  refine TC.region (S Z (S Z (S Z (If h23 (fun hg24 h23 => ?_) (fun hg24 h23 => ?_)))))
  ·
   refine Sg (gT hg24) Z ?_
   refine vX (.int .i64 (r5.1.length : Int)) (OpV.lenOM runUnderlying38) ?_ (gT hg24)
   refine Sg (gT hg24) Z (Pk hg24 Z (S Z (If h23 (fun hg25 h23 => ?_) (fun hg25 h23 => ?_))))
   ·
    refine Sg (gT hg25) Z (Bd h23 fun x26 hx26 h23 => ?_)
    refine vX (.ptr 10 (Int.toNat 0 * 8)) (OpV.ixW hx26 Z runUnderlying38 sizeOf50) ?_ (gT hg25)
    refine Fpg (gT hg25) fa_50_0 Z ?_
    refine vX (.int .i64 x26.Bib) (OpV.load Z isAgg3 Z (Pts.ofRow0 hx26)) ?_ (gT hg25)
    refine Sg (gT hg25) Z (Pk hg25 Z (S Z (If h23 (fun hg27 h23 => ?_) (fun hg27 h23 => ?_))))
    ·
     refine Sg (gT hg27) Z (Bd h23 fun x28 hx28 h23 => ?_)
     refine vX (.ptr 10 (Int.toNat 1 * 8)) (OpV.ixW hx28 Z runUnderlying38 sizeOf50) ?_ (gT hg27)
     refine Fpg (gT hg27) fa_50_5 Z ?_
     refine vX (.int .i64 x28.Chip) (OpV.load Z isAgg3 Z (Pts.ofRow hx28)) ?_ (gT hg27)
     refine Sg (gT hg27) Z (Pk hg27 Z (S Z (If h23 (fun hg29 h23 => ?_) (fun hg29 h23 => ?_))))
     ·
      refine Sg (gT hg29) Z (Sg (gT hg29) Z (Pk hg29 Z (S Z (If h23 (fun hg30 h23 => ?_) (fun hg30 h23 => ?_)))))
      ·
       refine Sg (gT hg30) Z ?_
       refine vX (.int .i64 (r7.1.length : Int)) (OpV.lenOM runUnderlying42) ?_ (gT hg30)
       refine Sg (gT hg30) Z (Pk hg30 Z (S Z (If h23 (fun hg31 h23 => ?_) (fun hg31 h23 => ?_))))
       ·
        refine Sg (gT hg31) Z (Bd h23 fun x32 hx32 h23 => ?_)
        refine vX (.ptr 17 (Int.toNat 0 * 2)) (OpV.ixW hx32 Z runUnderlying42 sizeOf59) ?_ (gT hg31)
        refine vX (.agg (Pair.c x32)) (OpV.loadA Z isAgg59 sizeOf59 Z (Pts.ofRow0 hx32) Z Z) ?_ (gT hg31)
        refine vX (.agg [.int .i64 3, .int .i64 5]) (OpV.build (zs := [.int .i64 0, .int .i64 0]) zeroValue59 (ZR.agg (ZL.cons ZR.int (ZL.cons ZR.int ZL.nil))) pl_59) ?_ (gT hg31)
        refine vX (.bool (x32 == ({ A := 3, B := 5 : Pair }))) (OpV.aggEq (p := x32) (q := { A := 3, B := 5 : Pair }) eqd_59 Z Z) ?_ (gT hg31)
        refine Pk hg31 Z (S Z (WO.nil ?_))
        obtain rfl := Oi h23
        exact cutN (Lr [17])
       ·
        refine KF hg31 Z (KF hg31 Z (KF hg31 Z (KF hg31 Z (KF hg31 Z (Pk hg31 Z (S Z (WO.nil ?_)))))))
        obtain rfl := Oi h23
        exact cutN (Lr [17])
      ·
       refine KF hg30 Z (KF hg30 Z (KF hg30 Z (Pk hg30 Z (S Z (KF Z Z (KF Z Z (KF Z Z (KF Z Z (KF Z Z (S Z (S Z (WO.nil ?_))))))))))))
       obtain rfl := Oi h23
       exact cutN (Lr [17])
     ·
      refine KF hg29 Z (KF hg29 Z (Pk hg29 Z (S Z (KF Z Z (KF Z Z (KF Z Z (S Z (S Z (KF Z Z (KF Z Z (KF Z Z (KF Z Z (KF Z Z (S Z (S Z (WO.nil ?_))))))))))))))))
      obtain rfl := Oi h23
      exact cutN (Lr [17])
    ·
     refine KF hg27 Z (KF hg27 Z (KF hg27 Z (KF hg27 Z (KF hg27 Z (Pk hg27 Z (S Z (KF Z Z (KF Z Z (S Z (S Z (KF Z Z (KF Z Z (KF Z Z (S Z (S Z (KF Z Z (KF Z Z (KF Z Z (KF Z Z (KF Z Z (S Z (S Z (WO.nil ?_)))))))))))))))))))))))
     obtain rfl := Oi h23
     exact cutN (Lr [17])
   ·
    refine KF hg25 Z (KF hg25 Z (KF hg25 Z (KF hg25 Z (KF hg25 Z (Pk hg25 Z (S Z (KF Z Z (KF Z Z (KF Z Z (KF Z Z (KF Z Z (S Z (S Z (KF Z Z (KF Z Z (S Z (S Z (KF Z Z (KF Z Z (KF Z Z (S Z (S Z (KF Z Z (KF Z Z (KF Z Z (KF Z Z (KF Z Z (S Z (S Z (WO.nil ?_))))))))))))))))))))))))))))))
    obtain rfl := Oi h23
    exact cutN (Lr [17])
  ·
   refine KF hg24 Z (KF hg24 Z (KF hg24 Z (Pk hg24 Z (S Z (KF Z Z (KF Z Z (KF Z Z (KF Z Z (KF Z Z (S Z (S Z (KF Z Z (KF Z Z (KF Z Z (KF Z Z (KF Z Z (S Z (S Z (KF Z Z (KF Z Z (S Z (S Z (KF Z Z (KF Z Z (KF Z Z (S Z (S Z (KF Z Z (KF Z Z (KF Z Z (KF Z Z (KF Z Z (S Z (S Z (WO.nil ?_)))))))))))))))))))))))))))))))))))
   obtain rfl := Oi h23
   exact cutN (Lr [17])
 refine seqN (TC.le hle (TC.seq (Bd h fun b44 h45 h => ?_)))
 refine TC.cut ([(0, .bool b44)]) ([]) ?_ (fun env H hle => ?_)
 ·
  refine TC.region (S Z (S Z (If h45 (fun hg46 h45 => ?_) (fun hg46 h45 => ?_))))
  ·
   refine Sg (gT hg46) Z (Bd h45 fun r47 hr47 h45 => ?_)
   refine WO.callB (OpC.fn call23 rfl rfl rfl) (LookL.cons rfl (.inr ⟨_, _, _, _, _, rfl, rfl, List.length_map .., rfl⟩) LookL.nil) (k_m _ _ _ hr47) (by rintro _ _ ⟨rfl, rfl⟩; rfl) ?_ (gT hg46)
   rintro _ _ ⟨rfl, rfl⟩
   refine aV (.int .i64 (IntKind.i64.wrap ((r7.1.length : Int) + 1))) [_] Z Z ?_
   refine Sg (gT hg46) Z (Pk hg46 Z (S Z (If h45 (fun hg48 h45 => ?_) (fun hg48 h45 => ?_))))
   ·
    refine Bd h45 fun r49 hr49 h45 => ?_
    refine WO.callD [] (OpC.fn call23 Z Z Z) (C.nils (NilL.nl NilL.nil) (k_m _ _ _ hr49)) ?_ (hg := (gT hg48))
    rintro _ _ ⟨rfl, rfl⟩
    refine WO.atV (x := (.int .i64 (IntKind.i64.wrap ((([] : List Pair).length : Int) + 1)))) (H := [_]) Z Z ?_
    refine Sg (gT hg48) Z (Pk hg48 Z (S Z (If h45 (fun hg50 h45 => ?_) (fun hg50 h45 => ?_))))
    ·
     refine Sg (gT hg50) Z (Sg (gT hg50) Z (Pk hg50 Z (S Z (If h45 (fun hg51 h45 => ?_) (fun hg51 h45 => ?_)))))
     ·
      refine Sg (gT hg51) Z (Sg (gT hg51) Z (Pk hg51 Z (S Z (If h45 (fun hg52 h45 => ?_) (fun hg52 h45 => ?_)))))
      ·
       refine Sg (gT hg52) Z (Sg (gT hg52) Z (Pk hg52 Z (S Z (If h45 (fun hg53 h45 => ?_) (fun hg53 h45 => ?_)))))
       ·
        refine Sg (gT hg53) Z (Sg (gT hg53) Z (Pk hg53 Z (S Z (If h45 (fun hg54 h45 => ?_) (fun hg54 h45 => ?_)))))
        ·
         refine Sg (gT hg54) Z (Pk hg54 Z (S Z (If h45 (fun hg55 h45 => ?_) (fun hg55 h45 => ?_))))
         ·
          refine Sg (gT hg55) Z (Sg (gT hg55) Z (Pk hg55 Z (S Z (If h45 (fun hg56 h45 => ?_) (fun hg56 h45 => ?_)))))
          ·
           refine Sg (gT hg56) Z (Sg (gT hg56) Z (Pk hg56 Z (S Z (WO.nil ?_))))
           obtain rfl := Oi h45
           exact cutN (Lr [])
          ·
           refine KF hg56 Z (KF hg56 Z (Pk hg56 Z (S Z (WO.nil ?_))))
           obtain rfl := Oi h45
           exact cutN (Lr [])
         ·
          refine KF hg55 Z (KF hg55 Z (Pk hg55 Z (S Z (KF Z Z (KF Z Z (S Z (S Z (WO.nil ?_))))))))
          obtain rfl := Oi h45
          exact cutN (Lr [])
        ·
         refine KF hg54 Z (Pk hg54 Z (S Z (KF Z Z (KF Z Z (S Z (S Z (KF Z Z (KF Z Z (S Z (S Z (WO.nil ?_)))))))))))
         obtain rfl := Oi h45
         exact cutN (Lr [])
       ·
        refine KF hg53 Z (KF hg53 Z (Pk hg53 Z (S Z (KF Z Z (S Z (S Z (KF Z Z (KF Z Z (S Z (S Z (KF Z Z (KF Z Z (S Z (S Z (WO.nil ?_)))))))))))))))
        obtain rfl := Oi h45
        exact cutN (Lr [])
      ·
       refine KF hg52 Z (KF hg52 Z (Pk hg52 Z (S Z (KF Z Z (KF Z Z (S Z (S Z (KF Z Z (S Z (S Z (KF Z Z (KF Z Z (S Z (S Z (KF Z Z (KF Z Z (S Z (S Z (WO.nil ?_)))))))))))))))))))
       obtain rfl := Oi h45
       exact cutN (Lr [])
     ·
      refine KF hg51 Z (KF hg51 Z (Pk hg51 Z (S Z (KF Z Z (KF Z Z (S Z (S Z (KF Z Z (KF Z Z (S Z (S Z (KF Z Z (S Z (S Z (KF Z Z (KF Z Z (S Z (S Z (KF Z Z (KF Z Z (S Z (S Z (WO.nil ?_)))))))))))))))))))))))
      obtain rfl := Oi h45
      exact cutN (Lr [])
    ·
     refine KF hg50 Z (KF hg50 Z (Pk hg50 Z (S Z (KF Z Z (KF Z Z (S Z (S Z (KF Z Z (KF Z Z (S Z (S Z (KF Z Z (KF Z Z (S Z (S Z (KF Z Z (S Z (S Z (KF Z Z (KF Z Z (S Z (S Z (KF Z Z (KF Z Z (S Z (S Z (WO.nil ?_)))))))))))))))))))))))))))
     obtain rfl := Oi h45
     exact cutN (Lr [])
   ·
    refine KF hg48 Z (KF hg48 Z (Pk hg48 Z (S Z (KF Z Z (KF Z Z (S Z (S Z (KF Z Z (KF Z Z (S Z (S Z (KF Z Z (KF Z Z (S Z (S Z (KF Z Z (KF Z Z (S Z (S Z (KF Z Z (S Z (S Z (KF Z Z (KF Z Z (S Z (S Z (KF Z Z (KF Z Z (S Z (S Z (WO.nil ?_)))))))))))))))))))))))))))))))
    obtain rfl := Oi h45
    exact cutN (Lr [])
  ·
   refine KF hg46 Z (KF hg46 Z (KF hg46 Z (Pk hg46 Z (S Z (KF Z Z (KF Z Z (S Z (S Z (KF Z Z (KF Z Z (S Z (S Z (KF Z Z (KF Z Z (S Z (S Z (KF Z Z (KF Z Z (S Z (S Z (KF Z Z (KF Z Z (S Z (S Z (KF Z Z (S Z (S Z (KF Z Z (KF Z Z (S Z (S Z (KF Z Z (KF Z Z (S Z (S Z (WO.nil ?_))))))))))))))))))))))))))))))))))))
   obtain rfl := Oi h45
   exact cutN (Lr [])
 refine seqN (TC.le hle (TC.ret ?_))
 obtain rfl := Oi h
 refine ⟨[(0, _)], _, _, ?_, ResOK.one Z Z, Z, Z⟩
 exact Lr []
def F_da (n : Nat) (a1 : List Starter) (a2 : Int) (s11 : Int) : Option (Ctl Int (Ctl Unit Int)) :=
  (bif decide (s11 < (a1.length : Int)) then (idx a1 s11).bind fun x15 => (bif (x15.Bib == a2) then some (.done (.done s11)) else some (.cont (IntKind.i64.wrap (s11 + 1)))) else some (.done (.cont ())))
def F_e (n : Nat) (a1 : List Starter) (a2 : Int) : Option Int :=
  (iter (F_da n a1 a2) n 0 : Option (Ctl Unit Int)).bind fun b8 => match b8 with | .cont sb8 => (some (-1)) | .done sb8 => some sb8
theorem k_e (n : Nat) (a1 : List Starter) (a2 : Int) (r : Int) (h : F_e n a1 a2 = some r) :
    C prog 36 [.rsl 8 (List.map Starter.c a1), .int .i64 a2] [] (fun a H => a = .int .i64 r ∧ H = []) := by
 refine C.of_body func36 Z Z Z ?_
 refine Rg (S Z (Nx (TC.seq (Rg (S Z (Nx (Bd h fun b8 h9 h => ?_)))))))
 refine TC.cutE (b := b8) (fun sb8 => []) (fun sb8 => []) ?_ (fun sb8 env H hbe hle => ?_)
 ·
  refine TC.block ?_
  refine TC.loop (E := fun s11 => [(0, .rsl 8 (List.map Starter.c a1)), (1, .int .i64 a2), (5, .int .i64 s11)]) (Hp := fun s11 => []) h9 ?_ ?_
  ·
   exact Lr []
  intro s11 d12 h13 hb10
  refine TC.seq (Rg (S Z (S Z (LnM runUnderlying38 Z (S Z (Nx (CnS Z h13 (fun hc14 h13 => ?_) (fun hc14 h13 => ?_))))))))
  ·
   refine ExX (loopX h13 ?_)
   obtain rfl := hb10 _ (Oi h13).symm
   exact bloE (cutEN Z (Lr []))
  refine SkN (TC.seq (TC.block (Rg (S Z (S Z (Bd h13 fun x15 hx15 h13 => Ix hx15 runUnderlying38 sizeOf50 Z (Fr fa_50_0 Z (Ld isAgg3 Z (S Z (S Z (Nx (Cn Z h13 (fun hc16 h13 => ?_) (fun hc16 h13 => ?_)))))))))))))
  ·
   refine Rg (S Z (S Z (Nx (TC.ret (bloR (seqR (loopR h13 ?_)))))))
   obtain rfl := hb10 _ (Oi h13).symm
   refine bloR (cutER (seqR ?_))
   obtain rfl := Oi h
   refine ⟨[(4, _)], _, _, ?_, ResOK.one Z Z, Z, Z⟩
   exact Lr []
  exact TC.skip (bloN (seqN (TC.region (S Z (S Z (S Z (WO.nil (loopN h13 (Lr [])))))))))
 subst hbe
 refine seqN (TC.le hle (Rg (S Z (Nx (TC.ret ?_)))))
 obtain rfl := Oi h
 refine ⟨[(4, _)], _, _, ?_, ResOK.one Z Z, Z, Z⟩
 exact Lr []
def F_p (n : Nat) (a1 : List Starter) (a2 : List Pair) (a3 : Int) (a4 : Int) : Option (Int × Int) :=
  ((bif decide (a3 < 0) then some true else some (decide ((a2.length : Int) < a3))) : Option Bool).bind fun b2 => (bif b2 then some (0, 1) else ((bif decide (0 < a3) then (idx a2 (IntKind.i64.wrap (a3 - 1))).bind fun x11 => some (x11.A == a4) else some false) : Option Bool).bind fun b8 => ((bif b8 then (idx a2 (IntKind.i64.wrap (a3 - 1))).bind fun x25 => some x25.B else ((bif decide (0 < a3) then (idx a2 (IntKind.i64.wrap (a3 - 1))).bind fun x31 => some (x31.B == a4) else some false) : Option Bool).bind fun b28 => (bif b28 then (idx a2 (IntKind.i64.wrap (a3 - 1))).bind fun x33 => some x33.A else some a4)) : Option Int).bind fun b22 => ((F_e n a1 a4).bind fun r39 => (bif decide (r39 < 0) then some true else (F_e n a1 b22).bind fun r41 => some (decide (r41 < 0))) : Option Bool).bind fun b37 => (bif b37 then some (0, 180) else (F_e n a1 b22).bind fun r43 => (idx a1 r43).bind fun x44 => some (x44.Chip, 0)))
theorem k_p (n : Nat) (a1 : List Starter) (a2 : List Pair) (a3 : Int) (a4 : Int) (r : Int × Int) (h : F_p n a1 a2 a3 a4 = some r) :
    C prog 20 [.rsl 8 (List.map Starter.c a1), .rsl 2 (List.map Pair.c a2), .int .i64 a3, .int .i64 a4] [] (fun a H => a = .tup [.int .i64 r.1, .int .i64 r.2] ∧ H = []) := by
 refine C.of_body func20 Z Z Z ?_
 refine Rg (S Z (S Z (Nx (TC.seq (TC.seq (Bd h fun b2 h3 h => ?_))))))
 refine TC.cut ([(0, .rsl 8 (List.map Starter.c a1)), (1, .rsl 2 (List.map Pair.c a2)), (2, .int .i64 a3), (3, .int .i64 a4), (18, .bool b2)]) ([]) ?_ (fun env H hle => ?_)
 ·
  refine TC.region (S Z (S Z (S Z (If h3 (fun hg4 h3 => ?_) (fun hg4 h3 => ?_)))))
  ·
   refine KF hg4 Z (KF hg4 Z (KF hg4 Z (KF hg4 Z (Pk hg4 Z (WO.nil ?_)))))
   obtain rfl := Oi h3
   exact cutN (Lr [])
  ·
   refine Sg (gT hg4) Z (Sg (gT hg4) Z ?_)
   refine vX (.int .i64 (a2.length : Int)) (OpV.lenM (e := Pair.c) (l := a2) runUnderlying42) ?_ (gT hg4)
   refine Sg (gT hg4) Z (Pk hg4 Z (WO.nil ?_))
   obtain rfl := Oi h3
   exact cutN (Lr [])
 refine seqN (TC.le hle (Cn Z h (fun hc5 h => ?_) (fun hc5 h => ?_)))
 ·
  refine Rg (S Z (S Z (Nx (RtR ?_))))
  obtain rfl := Oi h
  refine ⟨[(8, _), (9, _)], _, _, ?_, ResOK.two Z Z Z, Z, Z⟩
  exact Lr []
 refine SkN (Rg (S Z (S Z (Nx (TC.seq (TC.seq (Bd h fun b8 h9 h => ?_)))))))
 refine TC.cut ([(0, .rsl 8 (List.map Starter.c a1)), (1, .rsl 2 (List.map Pair.c a2)), (2, .int .i64 a3), (3, .int .i64 a4), (10, .int .i64 a4), (31, .bool b8)]) ([]) ?_ (fun env H hle => ?_)
 ·
  refine TC.region (S Z (S Z (S Z (If h9 (fun hg10 h9 => ?_) (fun hg10 h9 => ?_)))))
  ·
   refine Sg (gT hg10) Z (Sg (gT hg10) Z (Sg (gT hg10) Z (Bd h9 fun x11 hx11 h9 => ?_)))
   refine vX (.rp [.int .i64 x11.A, .int .i64 x11.B]) (OpV.ixM (e := Pair.c) (l := a2) (v := x11) hx11 runUnderlying42 sizeOf59) ?_ (gT hg10)
   refine Frg (gT hg10) fa_59_0 Z (Ldg (gT hg10) isAgg3 Z (Sg (gT hg10) Z (Sg (gT hg10) Z (Pk hg10 Z (WO.nil ?_)))))
   obtain rfl := Oi h9
   exact cutN (Lr [])
  ·
   refine KF hg10 Z (KF hg10 Z (KF hg10 Z (KF hg10 Z (KF hg10 Z (KF hg10 Z (KF hg10 Z (KF hg10 Z (Pk hg10 Z (WO.nil ?_)))))))))
   obtain rfl := Oi h9
   exact cutN (Lr [])
 refine seqN (TC.le hle (Bd h fun b22 h23 h => ?_))
 refine TC.cut ([(0, .rsl 8 (List.map Starter.c a1)), (3, .int .i64 a4), (10, .int .i64 b22)]) ([]) ?_ (fun env H hle => ?_)
 ·
  refine Cn Z h23 (fun hc24 h23 => ?_) (fun hc24 h23 => ?_)
  ·
   refine TC.region (S Z (S Z (S Z (Bd h23 fun x25 hx25 h23 => Ix hx25 runUnderlying42 sizeOf59 Z (Fr fa_59_1 Z (Ld isAgg3 Z (S Z (WO.nil ?_))))))))
   obtain rfl := Oi h23
   exact cutN (Lr [])
  refine TC.seq (Bd h23 fun b28 h29 h23 => ?_)
  refine TC.cut ([(0, .rsl 8 (List.map Starter.c a1)), (1, .rsl 2 (List.map Pair.c a2)), (2, .int .i64 a3), (3, .int .i64 a4), (10, .int .i64 a4), (49, .bool b28)]) ([]) ?_ (fun env H hle => ?_)
  ·
   refine TC.region (S Z (S Z (S Z (If h29 (fun hg30 h29 => ?_) (fun hg30 h29 => ?_)))))
   ·
    refine Sg (gT hg30) Z (Sg (gT hg30) Z (Sg (gT hg30) Z (Bd h29 fun x31 hx31 h29 => ?_)))
    refine vX (.rp [.int .i64 x31.A, .int .i64 x31.B]) (OpV.ixM (e := Pair.c) (l := a2) (v := x31) hx31 runUnderlying42 sizeOf59) ?_ (gT hg30)
    refine Frg (gT hg30) fa_59_1 Z (Ldg (gT hg30) isAgg3 Z (Sg (gT hg30) Z (Sg (gT hg30) Z (Pk hg30 Z (WO.nil ?_)))))
    obtain rfl := Oi h29
    exact cutN (Lr [])
   ·
    refine KF hg30 Z (KF hg30 Z (KF hg30 Z (KF hg30 Z (KF hg30 Z (KF hg30 Z (KF hg30 Z (KF hg30 Z (Pk hg30 Z (WO.nil ?_)))))))))
    obtain rfl := Oi h29
    exact cutN (Lr [])
  refine seqN (TC.le hle (Cn Z h23 (fun hc32 h23 => ?_) (fun hc32 h23 => ?_)))
  ·
   refine TC.region (S Z (S Z (S Z (Bd h23 fun x33 hx33 h23 => Ix hx33 runUnderlying42 sizeOf59 Z (Fr fa_59_0 Z (Ld isAgg3 Z (S Z (WO.nil ?_))))))))
   obtain rfl := Oi h23
   exact cutN (Lr [])
  refine TC.skip ?_
  obtain rfl := Oi h23
  exact cutN (Lr [])
 refine seqN (TC.le hle (TC.seq (TC.seq (Bd h fun b37 h38 h => ?_))))
 refine TC.cut ([(0, .rsl 8 (List.map Starter.c a1)), (10, .int .i64 b22), (65, .bool b37)]) ([]) ?_ (fun env H hle => ?_)
 ·
  refine TC.region (S Z (S Z (Bd h38 fun r39 hr39 h38 => ?_)))
  refine WO.callD [] (OpC.fn call36 Z Z Z) (k_e _ _ _ _ hr39) ?_
  rintro _ _ ⟨rfl, rfl⟩
  refine aV (.int .i64 r39) [] Z Z ?_
  refine S Z (S Z (If h38 (fun hg40 h38 => ?_) (fun hg40 h38 => ?_)))
  ·
   refine KF hg40 Z (KF hg40 Z (KF hg40 Z (KF hg40 Z (Pk hg40 Z (WO.nil ?_)))))
   obtain rfl := Oi h38
   exact cutN (Lr [])
  ·
   refine Sg (gT hg40) Z (Sg (gT hg40) Z (Bd h38 fun r41 hr41 h38 => ?_))
   refine WO.callD [] (OpC.fn call36 Z Z Z) (k_e _ _ _ _ hr41) ?_ (hg := (gT hg40))
   rintro _ _ ⟨rfl, rfl⟩
   refine aV (.int .i64 r41) [] Z Z ?_
   refine Sg (gT hg40) Z (Pk hg40 Z (WO.nil ?_))
   obtain rfl := Oi h38
   exact cutN (Lr [])
 refine seqN (TC.le hle (Cn Z h (fun hc42 h => ?_) (fun hc42 h => ?_)))
 ·
  refine Rg (S Z (S Z (Nx (RtR ?_))))
  obtain rfl := Oi h
  refine ⟨[(8, _), (9, _)], _, _, ?_, ResOK.two Z Z Z, Z, Z⟩
  exact Lr []
 refine SkN (Rg (S Z (S Z (S Z (Bd h fun r43 hr43 h => ?_)))))
 refine WO.callD [] (OpC.fn call36 Z Z Z) (k_e _ _ _ _ hr43) ?_
 rintro _ _ ⟨rfl, rfl⟩
 refine aV (.int .i64 r43) [] Z Z ?_
 refine Bd h fun x44 hx44 h => Ix hx44 runUnderlying38 sizeOf50 Z (Fr fa_50_5 Z (Ld isAgg3 Z (S Z (S Z (Nx (TC.ret ?_))))))
 obtain rfl := Oi h
 refine ⟨[(8, _), (9, _)], _, _, ?_, ResOK.two Z Z Z, Z, Z⟩
 exact Lr []
def F_ci (n : Nat) (a1 : List Starter) (a2 : List Pair) (a3 : Int) (a4 : Int) (s23 : Int) : Option (Ctl Int (Ctl Unit (Int × Bool))) :=
  (bif decide (s23 < (a1.length : Int)) then (idx a1 s23).bind fun x27 => (F_p n a1 a2 a3 x27.Bib).bind fun r28 => ((bif (r28.2 == 0) then some (r28.1 == a4) else some false) : Option Bool).bind fun b30 => (bif b30 then (idx a1 s23).bind fun x34 => some (.done (.done (x34.Bib, true))) else some (.cont (IntKind.i64.wrap (s23 + 1)))) else some (.done (.cont ())))
def F_ac (n : Nat) (a1 : List Starter) (a2 : List Pair) (a3 : Int) (a4 : Int) : Option (Int × Bool) :=
  (iter (F_ci n a1 a2 a3 a4) n 0 : Option (Ctl Unit (Int × Bool))).bind fun b20 => match b20 with | .cont sb20 => (some (0, false)) | .done sb20 => some sb20
theorem k_ac (n : Nat) (a1 : List Starter) (a2 : List Pair) (a3 : Int) (a4 : Int) (r : Int × Bool) (h : F_ac n a1 a2 a3 a4 = some r) :
    C prog 22 [.rsl 8 (List.map Starter.c a1), .rsl 2 (List.map Pair.c a2), .int .i64 a3, .int .i64 a4] [] (fun a H => a = .tup [.int .i64 r.1, .bool r.2] ∧ H = []) := by
 refine C.of_body func22 Z Z Z ?_
 refine Rg (S Z (S Z (Nx (TC.seq (Rg (S Z (Nx (Bd h fun b20 h21 h => ?_))))))))
 refine TC.cutE (b := b20) (fun sb20 => []) (fun sb20 => []) ?_ (fun sb20 env H hbe hle => ?_)
 ·
  refine TC.block ?_
  refine TC.loop (E := fun s23 => [(0, .rsl 8 (List.map Starter.c a1)), (1, .rsl 2 (List.map Pair.c a2)), (2, .int .i64 a3), (3, .int .i64 a4), (10, .int .i64 s23)]) (Hp := fun s23 => []) h21 ?_ ?_
  ·
   exact Lr []
  intro s23 d24 h25 hb22
  refine TC.seq (Rg (S Z (S Z (LnM runUnderlying38 Z (S Z (Nx (CnS Z h25 (fun hc26 h25 => ?_) (fun hc26 h25 => ?_))))))))
  ·
   refine ExX (loopX h25 ?_)
   obtain rfl := hb22 _ (Oi h25).symm
   exact bloE (cutEN Z (Lr []))
  refine SkN (TC.seq (TC.block (Rg (S Z (S Z (S Z (S Z (S Z (Bd h25 fun x27 hx27 h25 => Ix hx27 runUnderlying38 sizeOf50 Z (Fr fa_50_0 Z (Ld isAgg3 Z (Bd h25 fun r28 hr28 h25 => ?_))))))))))))
  refine WO.callD [] (OpC.fn call20 Z Z Z) (k_p _ _ _ _ _ _ hr28) ?_
  rintro _ _ ⟨rfl, rfl⟩
  refine aV (.tup [.int .i64 r28.1, .int .i64 r28.2]) [] Z Z ?_
  refine S Z (S Z (S Z (S Z (S Z (Nx (TC.seq (Bd h25 fun b30 h31 h25 => ?_)))))))
  refine TC.cut ([(0, .rsl 8 (List.map Starter.c a1)), (1, .rsl 2 (List.map Pair.c a2)), (2, .int .i64 a3), (3, .int .i64 a4), (10, .int .i64 s23), (37, .bool b30)]) ([]) ?_ (fun env H hle => ?_)
  ·
   refine TC.region (S Z (S Z (S Z (If h31 (fun hg32 h31 => ?_) (fun hg32 h31 => ?_)))))
   ·
    refine Sg (gT hg32) Z (Sg (gT hg32) Z (Sg (gT hg32) Z (Pk hg32 Z (WO.nil ?_))))
    obtain rfl := Oi h31
    exact cutN (Lr [])
   ·
    refine KF hg32 Z (KF hg32 Z (KF hg32 Z (Pk hg32 Z (WO.nil ?_))))
    obtain rfl := Oi h31
    exact cutN (Lr [])
  refine seqN (TC.le hle (Cn Z h25 (fun hc33 h25 => ?_) (fun hc33 h25 => ?_)))
  ·
   refine Rg (S Z (S Z (Bd h25 fun x34 hx34 h25 => Ix hx34 runUnderlying38 sizeOf50 Z (Fr fa_50_0 Z (Ld isAgg3 Z (S Z (S Z (Nx (TC.ret (bloR (seqR (loopR h25 ?_))))))))))))
   obtain rfl := hb22 _ (Oi h25).symm
   refine bloR (cutER (seqR ?_))
   obtain rfl := Oi h
   refine ⟨[(8, _), (9, _)], _, _, ?_, ResOK.two Z Z Z, Z, Z⟩
   exact Lr []
  exact TC.skip (bloN (seqN (TC.region (S Z (S Z (S Z (WO.nil (loopN h25 (Lr [])))))))))
 subst hbe
 refine seqN (TC.le hle (Rg (S Z (S Z (Nx (TC.ret ?_))))))
 obtain rfl := Oi h
 refine ⟨[(8, _), (9, _)], _, _, ?_, ResOK.two Z Z Z, Z, Z⟩
 exact Lr []
def F_cz (n : Nat) (a1 : List Pair) : Option Unit :=
  some ()
theorem k_cz (n : Nat) (a1 : List Pair) (r : Unit) (h : F_cz n a1 = some r) :
    C prog 24 [.rsl 2 (List.map Pair.c a1)] [] (fun a H => a = .int .i64 (IntKind.i64.wrap ((a1.length : Int) + 1)) ∧ H = []) := by
 refine C.of_body func24 Z Z Z ?_
 refine Rg (S Z (Nx (Rg (S Z (LnM runUnderlying42 Z (S Z (S Z (Nx (TC.ret ?_)))))))))
 obtain rfl := Oi h
 refine ⟨[(2, _)], _, _, ?_, ResOK.one Z Z, Z, Z⟩
 exact Lr []
def F_au (n : Nat) (a1 : List Starter) (s197 : (List Int) × Int) : Option (Ctl ((List Int) × Int) (List Int)) :=
  (bif decide (s197.2 < (a1.length : Int)) then ((bif decide (s197.2 < 4) then (idx a1 s197.2).bind fun x207 => (app s197.1 [x207.Bib]).bind fun l208 => some l208 else some s197.1) : Option (List Int)).bind fun b204 => some (.cont (b204, IntKind.i64.wrap (s197.2 + 1))) else some (.done s197.1))
def F_bl (n : Nat) (a1 : List Starter) (a2 : List Pair) (a5 : Int) (x180 : Int) (b194 : List Int) (s243 : Int) : Option (Ctl Int (Ctl Unit (Ctl Int (Ctl Unit Bool)))) :=
  (bif decide (s243 < (b194.length : Int)) then (idx b194 s243).bind fun x247 => (F_c n a1 a2 x180 x247).bind fun r248 => (F_p n a1 a2 x180 x247).bind fun r249 => (F_j n a1 a2 x180 (if a5 < r249.1 then r249.1 else a5)).bind fun r250 => (F_ac n a1 a2 x180 (if a5 < r249.1 then r249.1 else a5)).bind fun r251 => ((bif (r248.1 != r249.1) then some true else (bif (r248.2 != r249.2) then some true else (bif (r250.1 != r251.1) then some true else some (r250.2 != r251.2)))) : Option Bool).bind fun b255 => (bif b255 then some (.done (.done (.done (.done false)))) else some (.cont (IntKind.i64.wrap (s243 + 1)))) else some (.done (.cont ())))
def F_ew (n : Nat) (a1 : List Starter) (a2 : List Pair) (a3 : Int) (a4 : Int) (a5 : Int) (s176 : Int) : Option (Ctl Int (Ctl Unit Bool)) :=
  (bif decide (s176 < (([a3, andI .i64 a3 3].length) : Int)) then (idx [a3, andI .i64 a3 3] s176).bind fun x180 => (iter (F_au n a1) n ([a4], 0) : Option (List Int)).bind fun b194 => (iter (F_bl n a1 a2 a5 x180 b194) n 0 : Option (Ctl Unit (Ctl Int (Ctl Unit Bool)))).bind fun b240 => match b240 with | .cont sb240 => (some (.cont (IntKind.i64.wrap (s176 + 1)))) | .done sb240 => some sb240 else some (.done (.cont ())))
def F_am (n : Nat) (a1 : List Starter) (a2 : List Pair) (a3 : Int) (a4 : Int) (a5 : Int) : Option Bool :=
  (F_al 300).bind fun r1 => (bif (!r1) then some false else ((bif decide (30 < (a1.length : Int)) then some true else some (decide (30 < (a2.length : Int)))) : Option Bool).bind fun b4 => (bif b4 then some true else (iter (F_ew n a1 a2 a3 a4 a5) n 0 : Option (Ctl Unit Bool)).bind fun b173 => match b173 with | .cont sb173 => ((F_m n a2).bind fun r261 => (F_cz n a2).bind fun r262 => some ((IntKind.i64.wrap ((a2.length : Int) + 1)) == (IntKind.i64.wrap ((a2.length : Int) + 1)))) | .done sb173 => some sb173))
theorem k_am (n : Nat) (a1 : List Starter) (a2 : List Pair) (a3 : Int) (a4 : Int) (a5 : Int) (r : Bool) (h : F_am n a1 a2 a3 a4 a5 = some r) :
    C prog 4 [.rsl 8 (List.map Starter.c a1), .rsl 2 (List.map Pair.c a2), .int .i64 a3, .int .i64 a4, .int .i64 a5] [] (fun a H => a = .bool r ∧ H = []) := by
 refine C.of_body func4 Z Z Z ?_
 refine Rg (S Z (Nx (TC.seq (Rg (Bd h fun r1 hr1 h => ?_)))))
 refine WO.callD [] (OpC.fn call10 Z Z Z) (k_al _ _ hr1) ?_
 rintro _ _ ⟨rfl, rfl⟩
 refine aV (.bool r1) [] Z Z ?_
 refine S Z (Nx (Cn Z h (fun hc2 h => ?_) (fun hc2 h => ?_)))
 ·
  refine Rg (S Z (Nx (RtR ?_)))
  obtain rfl := Oi h
  refine ⟨[(10, _)], _, _, ?_, ResOK.one Z Z, Z, Z⟩
  exact Lr []
 refine SkN (TC.seq (TC.seq (Bd h fun b4 h5 h => ?_)))
 refine TC.cut ([(0, .rsl 8 (List.map Starter.c a1)), (1, .rsl 2 (List.map Pair.c a2)), (2, .int .i64 a3), (3, .int .i64 a4), (4, .int .i64 a5), (34, .bool b4)]) ([]) ?_ (fun env H hle => ?_)
 ·
  refine TC.region (S Z (LnM runUnderlying38 Z (S Z (S Z (If h5 (fun hg6 h5 => ?_) (fun hg6 h5 => ?_))))))
  ·
   refine KF hg6 Z (KF hg6 Z (KF hg6 Z (Pk hg6 Z (WO.nil ?_))))
   obtain rfl := Oi h5
   exact cutN (Lr [])
  ·
   refine Sg (gT hg6) Z ?_
   refine vX (.int .i64 (a2.length : Int)) (OpV.lenM (e := Pair.c) (l := a2) runUnderlying42) ?_ (gT hg6)
   refine Sg (gT hg6) Z (Pk hg6 Z (WO.nil ?_))
   obtain rfl := Oi h5
   exact cutN (Lr [])
 refine seqN (TC.le hle (Cn Z h (fun hc7 h => ?_) (fun hc7 h => ?_)))
 ·
  refine Rg (S Z (Nx (RtR ?_)))
  obtain rfl := Oi h
  refine ⟨[(10, _)], _, _, ?_, ResOK.one Z Z, Z, Z⟩
  exact Lr []
 refine SkN (TC.seq (Rg (S Z (S Z ?_))))
 refine vX (.int .i64 (andI .i64 a3 3)) (OpV.and Z Z Z) ?_
 refine vH (OpH.lit (xs := [.tmp 35, .tmp 37]) (es := List.map (encI .i64) [a3, andI .i64 a3 3]) el_48 Z Z Z Z Z ⟨Z, Z, trivial⟩ Z Z) ?_
 refine aV (.osl 0 0 ([a3, andI .i64 a3 3].length) 1) [.row 3 1 (List.map (encI .i64) [a3, andI .i64 a3 3])] Z Z ?_
 refine LnO runUnderlying48 Z (S Z (Nx (Bd h fun b173 h174 h => ?_)))
 refine TC.cutE (b := b173) (fun sb173 => [(1, .rsl 2 (List.map Pair.c a2))]) (fun sb173 => []) ?_ (fun sb173 env H hbe hle => ?_)
 ·
  refine TC.block ?_
  refine TC.loop (E := fun s176 => [(0, .rsl 8 (List.map Starter.c a1)), (1, .rsl 2 (List.map Pair.c a2)), (3, .int .i64 a4), (4, .int .i64 a5), (38, .osl 0 0 ([a3, andI .i64 a3 3].length) 1), (39, .int .i64 (([a3, andI .i64 a3 3].length) : Int)), (40, .int .i64 s176)]) (Hp := fun s176 => [.row 3 1 (List.map (encI .i64) [a3, andI .i64 a3 3])]) h174 ?_ ?_
  ·
   exact Lr [0]
  intro s176 d177 h178 hb175
  refine Rg (S Z (Nx (TC.seq (CnS Z h178 (fun hc179 h178 => ?_) (fun hc179 h178 => ?_)))))
  ·
   refine ExX (loopX h178 ?_)
   obtain rfl := hb175 _ (Oi h178).symm
   exact bloE (cutEN Z (Lr []))
  refine SkN (TC.seq (TC.block (Rg (Bd h178 fun x180 hx180 h178 => ?_))))
  refine vX (.ptr 0 (Int.toNat s176 * 1)) (OpV.ixW hx180 Z runUnderlying48 sizeOf3) ?_
  refine vX (.int .i64 x180) (OpV.load Z isAgg3 Z (Pts.ofRow0 hx180)) ?_
  refine S Z (Nx (Rg (S Z ?_)))
  refine vH (OpH.lit (xs := [.tmp 44]) (es := List.map (encI .i64) [a4]) el_48 Z Z Z Z Z ⟨Z, trivial⟩ Z Z) ?_
  refine aV (.osl 1 0 ([a4].length) 1) [_, .row 3 1 (List.map (encI .i64) [a4])] Z Z ?_
  refine S Z (Nx (TC.seq (Rg (S Z (LnM runUnderlying38 Z (S Z (Nx (Bd h178 fun b194 h195 h178 => ?_))))))))
  refine TC.cut ([(0, .rsl 8 (List.map Starter.c a1)), (1, .rsl 2 (List.map Pair.c a2)), (3, .int .i64 a4), (4, .int .i64 a5), (12, .int .i64 x180), (13, .osl 0 0 b194.length 1), (38, .osl 1 0 ([a3, andI .i64 a3 3].length) 1), (39, .int .i64 (([a3, andI .i64 a3 3].length) : Int)), (40, .int .i64 s176)]) ([.row 3 1 (List.map (encI .i64) b194), .row 3 1 (List.map (encI .i64) [a3, andI .i64 a3 3])]) ?_ (fun env H hle => ?_)
  ·
   refine TC.block ?_
   refine TC.loop (E := fun s197 => [(0, .rsl 8 (List.map Starter.c a1)), (1, .rsl 2 (List.map Pair.c a2)), (3, .int .i64 a4), (4, .int .i64 a5), (12, .int .i64 x180), (13, .osl 0 0 s197.1.length 1), (38, .osl 1 0 ([a3, andI .i64 a3 3].length) 1), (39, .int .i64 (([a3, andI .i64 a3 3].length) : Int)), (40, .int .i64 s176), (47, .int .i64 (a1.length : Int)), (48, .int .i64 s197.2)]) (Hp := fun s197 => [.row 3 1 (List.map (encI .i64) s197.1), .row 3 1 (List.map (encI .i64) [a3, andI .i64 a3 3])]) h195 ?_ ?_
   ·
    exact Lr [1, 0]
   intro s197 d198 h199 hb196
   refine Rg (S Z (Nx (TC.seq (CnS Z h199 (fun hc200 h199 => ?_) (fun hc200 h199 => ?_)))))
   ·
    refine ExX (loopX h199 ?_)
    obtain rfl := hb196 _ (Oi h199).symm
    exact bloE (cutN (Lr [0, 1]))
   refine SkN (TC.seq (TC.block (Rg (S Z (S Z (Nx (Rg (S Z (S Z (Nx (Bd h199 fun b204 h205 h199 => ?_)))))))))))
   refine TC.cut ([(0, .rsl 8 (List.map Starter.c a1)), (1, .rsl 2 (List.map Pair.c a2)), (3, .int .i64 a4), (4, .int .i64 a5), (12, .int .i64 x180), (13, .osl 0 0 b204.length 1), (38, .osl 1 0 ([a3, andI .i64 a3 3].length) 1), (39, .int .i64 (([a3, andI .i64 a3 3].length) : Int)), (40, .int .i64 s176), (47, .int .i64 (a1.length : Int)), (48, .int .i64 s197.2)]) ([.row 3 1 (List.map (encI .i64) b204), .row 3 1 (List.map (encI .i64) [a3, andI .i64 a3 3])]) ?_ (fun env H hle => ?_)
   ·
    refine Cn Z h205 (fun hc206 h205 => ?_) (fun hc206 h205 => ?_)
    ·
     refine TC.region (S Z (S Z (S Z (Bd h205 fun x207 hx207 h205 => Ix hx207 runUnderlying38 sizeOf50 Z (Fr fa_50_0 Z (Ld isAgg3 Z ?_))))))
     refine vH (OpH.lit (xs := [.tmp 58]) (es := List.map (encI .i64) [x207.Bib]) el_48 Z Z Z Z Z ⟨Z, trivial⟩ Z Z) ?_
     refine aV (.osl 2 0 ([x207.Bib].length) 1) [_, _, .row 3 1 (List.map (encI .i64) [x207.Bib])] Z Z ?_
     refine Bd h205 fun l208 hl208 h205 => ?_
     refine vH (OpH.appO (e := (encI .i64)) hl208 el_48 runUnderlying48 (Src.oM (i := 2))) ?_
     refine aV (.osl 3 0 l208.length 1) [.dead, _, _, .row 3 1 (List.map (encI .i64) l208)] Z Z ?_
     refine S Z (WO.nil ?_)
     obtain rfl := Oi h205
     exact cutN (Lr [3, 1])
    refine TC.skip ?_
    obtain rfl := Oi h205
    exact cutN (Lr [0, 1])
   exact bloN (seqN (TC.le hle (TC.region (S Z (S Z (WO.nil (loopN h199 (Lr [0, 1]))))))))
  refine seqN (TC.le hle (Rg (S Z (LnO runUnderlying48 Z (S Z (Nx (Bd h178 fun b240 h241 h178 => ?_)))))))
  refine TC.cutE (b := b240) (fun sb240 => [(0, .rsl 8 (List.map Starter.c a1)), (1, .rsl 2 (List.map Pair.c a2)), (3, .int .i64 a4), (4, .int .i64 a5), (38, .osl 0 0 ([a3, andI .i64 a3 3].length) 1), (39, .int .i64 (([a3, andI .i64 a3 3].length) : Int)), (40, .int .i64 s176)]) (fun sb240 => [.row 3 1 (List.map (encI .i64) [a3, andI .i64 a3 3])]) ?_ (fun sb240 env H hbe hle => ?_)
  ·
   refine TC.block ?_
   refine TC.loop (E := fun s243 => [(0, .rsl 8 (List.map Starter.c a1)), (1, .rsl 2 (List.map Pair.c a2)), (3, .int .i64 a4), (4, .int .i64 a5), (12, .int .i64 x180), (38, .osl 0 0 ([a3, andI .i64 a3 3].length) 1), (39, .int .i64 (([a3, andI .i64 a3 3].length) : Int)), (40, .int .i64 s176), (62, .osl 1 0 b194.length 1), (63, .int .i64 (b194.length : Int)), (64, .int .i64 s243)]) (Hp := fun s243 => [.row 3 1 (List.map (encI .i64) [a3, andI .i64 a3 3]), .row 3 1 (List.map (encI .i64) b194)]) h241 ?_ ?_
   ·
    exact Lr [1, 0]
   intro s243 d244 h245 hb242
   refine Rg (S Z (Nx (TC.seq (CnS Z h245 (fun hc246 h245 => ?_) (fun hc246 h245 => ?_)))))
   ·
    refine ExX (loopX h245 ?_)
    obtain rfl := hb242 _ (Oi h245).symm
    exact bloE (cutEN Z (Lr [0]))
   refine SkN (TC.seq (TC.block (Rg (Bd h245 fun x247 hx247 h245 => ?_))))
   refine vX (.ptr 1 (Int.toNat s243 * 1)) (OpV.ixW hx247 Z runUnderlying48 sizeOf3) ?_
   refine vX (.int .i64 x247) (OpV.load Z isAgg3 Z (Pts.ofRow0 hx247)) ?_
   refine S Z (Nx (Rg (S Z (S Z (S Z (S Z (Bd h245 fun r248 hr248 h245 => ?_)))))))
   refine WO.callD [] (OpC.fn call19 Z Z Z) (k_c _ _ _ _ _ _ hr248) ?_
   rintro _ _ ⟨rfl, rfl⟩
   refine aV (.tup [.int .i64 r248.1, .int .i64 r248.2]) [_, _] Z Z ?_
   refine S Z (S Z (S Z (S Z (S Z (Nx (Rg (S Z (S Z (S Z (S Z (Bd h245 fun r249 hr249 h245 => ?_)))))))))))
   refine WO.callD [] (OpC.fn call20 Z Z Z) (k_p _ _ _ _ _ _ hr249) ?_
   rintro _ _ ⟨rfl, rfl⟩
   refine aV (.tup [.int .i64 r249.1, .int .i64 r249.2]) [_, _] Z Z ?_
   refine S Z (S Z (S Z (S Z (S Z (Nx (Rg (S Z (S Z (S Z (S Z (S Z ?_)))))))))))
   refine vX (.int .i64 (if a5 < r249.1 then r249.1 else a5)) (OpV.max Z Z Z Z) ?_
   refine Bd h245 fun r250 hr250 h245 => ?_
   refine WO.callD [] (OpC.fn call21 Z Z Z) (k_j _ _ _ _ _ _ hr250) ?_
   rintro _ _ ⟨rfl, rfl⟩
   refine aV (.tup [.int .i64 r250.1, .bool r250.2]) [_, _] Z Z ?_
   refine S Z (S Z (S Z (S Z (S Z (Nx (Rg (S Z (S Z (S Z (S Z (S Z ?_)))))))))))
   refine vX (.int .i64 (if a5 < r249.1 then r249.1 else a5)) (OpV.max Z Z Z Z) ?_
   refine Bd h245 fun r251 hr251 h245 => ?_
   refine WO.callD [] (OpC.fn call22 Z Z Z) (k_ac _ _ _ _ _ _ hr251) ?_
   rintro _ _ ⟨rfl, rfl⟩
   refine aV (.tup [.int .i64 r251.1, .bool r251.2]) [_, _] Z Z ?_
   refine S Z (S Z (S Z (S Z (S Z (Nx (TC.seq (Bd h245 fun b255 h256 h245 => ?_)))))))
   refine TC.cut ([(0, .rsl 8 (List.map Starter.c a1)), (1, .rsl 2 (List.map Pair.c a2)), (3, .int .i64 a4), (4, .int .i64 a5), (12, .int .i64 x180), (38, .osl 0 0 ([a3, andI .i64 a3 3].length) 1), (39, .int .i64 (([a3, andI .i64 a3 3].length) : Int)), (40, .int .i64 s176), (62, .osl 1 0 b194.length 1), (63, .int .i64 (b194.length : Int)), (64, .int .i64 s243), (121, .bool b255)]) ([.row 3 1 (List.map (encI .i64) [a3, andI .i64 a3 3]), .row 3 1 (List.map (encI .i64) b194)]) ?_ (fun env H hle => ?_)
   ·
    refine TC.region (S Z (S Z (S Z (S Z (If h256 (fun hg257 h256 => ?_) (fun hg257 h256 => ?_))))))
    ·
     refine KF hg257 Z (KF hg257 Z (KF hg257 Z (Pk hg257 Z (S Z (KF Z Z (KF Z Z (KF Z Z (S Z (S Z (KF Z Z (KF Z Z (KF Z Z (S Z (WO.nil ?_))))))))))))))
     obtain rfl := Oi h256
     exact cutN (Lr [0, 1])
    ·
     refine Sg (gT hg257) Z (Sg (gT hg257) Z (Sg (gT hg257) Z (Pk hg257 Z (S Z (If h256 (fun hg258 h256 => ?_) (fun hg258 h256 => ?_))))))
     ·
      refine KF hg258 Z (KF hg258 Z (KF hg258 Z (Pk hg258 Z (S Z (KF Z Z (KF Z Z (KF Z Z (S Z (WO.nil ?_)))))))))
      obtain rfl := Oi h256
      exact cutN (Lr [0, 1])
     ·
      refine Sg (gT hg258) Z (Sg (gT hg258) Z (Sg (gT hg258) Z (Pk hg258 Z (S Z (If h256 (fun hg259 h256 => ?_) (fun hg259 h256 => ?_))))))
      ·
       refine KF hg259 Z (KF hg259 Z (KF hg259 Z (Pk hg259 Z (WO.nil ?_))))
       obtain rfl := Oi h256
       exact cutN (Lr [0, 1])
      ·
       refine Sg (gT hg259) Z (Sg (gT hg259) Z ?_)
       refine vX (.bool (r250.2 != r251.2)) (OpV.boolNe runUnderlying4) ?_ (gT hg259)
       refine Pk hg259 Z (WO.nil ?_)
       obtain rfl := Oi h256
       exact cutN (Lr [0, 1])
   refine seqN (TC.le hle (Cn Z h245 (fun hc260 h245 => ?_) (fun hc260 h245 => ?_)))
   ·
    refine Rg (S Z (Nx (TC.ret (bloR (seqR (loopR h245 ?_))))))
    obtain rfl := hb242 _ (Oi h245).symm
    refine bloR (cutER (bloR (seqR (loopR h178 ?_))))
    obtain rfl := hb175 _ (Oi h178).symm
    refine bloR (cutER (seqR ?_))
    obtain rfl := Oi h
    refine ⟨[(10, _)], _, _, ?_, ResOK.one Z Z, Z, Z⟩
    exact Lr []
   exact TC.skip (bloN (seqN (TC.region (S Z (S Z (WO.nil (loopN h245 (Lr [0, 1]))))))))
  subst hbe
  exact bloN (seqN (TC.le hle (TC.region (S Z (S Z (WO.nil (loopN h178 (Lr [0]))))))))
 subst hbe
 refine seqN (TC.le hle (Rg (S Z (Bd h fun r261 hr261 h => ?_))))
 refine WO.callD [] (OpC.fn call23 Z Z Z) (k_m _ _ _ hr261) ?_
 rintro _ _ ⟨rfl, rfl⟩
 refine aV (.int .i64 (IntKind.i64.wrap ((a2.length : Int) + 1))) [] Z Z ?_
 refine S Z (Bd h fun r262 hr262 h => ?_)
 refine WO.callD [] (OpC.fn call24 Z Z Z) (k_cz _ _ _ hr262) ?_
 rintro _ _ ⟨rfl, rfl⟩
 refine aV (.int .i64 (IntKind.i64.wrap ((a2.length : Int) + 1))) [] Z Z ?_
 refine S Z (S Z (Nx (TC.ret ?_)))
 obtain rfl := Oi h
 refine ⟨[(10, _)], _, _, ?_, ResOK.one Z Z, Z, Z⟩
 exact Lr []
end Go.Sw
