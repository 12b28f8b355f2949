/- What the functions compute that ChipsWorlds reaches, and that their calls refine it (part 4 of 4). -/
import Derived.Test.YtkjlhfabbbomjaaGreatDoorW18Wo3
set_option linter.unusedVariables false
set_option linter.unusedSimpArgs false
set_option maxRecDepth 100000
set_option maxHeartbeats 4000000
namespace Go.Sw
open Go.Proofs Tryz
def F_dn (n : Nat) (a1 : List Step) (a2 : Int) (rec178 : (List Step) → Int → Option Int) (s28 : Int × Int) : Option (Ctl (Int × Int) Int) :=
  ((bif decide (s28.2 < (a1.length : Int)) then some (decide (s28.1 < 500)) else some false) : Option Bool).bind fun b32 => (bif b32 then (idx a1 s28.2).bind fun x36 => (F_k n [x36.Cond] 0).bind fun r37 => (idx a1 s28.2).bind fun x38 => (rec178 x38.Then (IntKind.i64.wrap (a2 + 1))).bind fun r39 => (idx a1 s28.2).bind fun x40 => (rec178 x40.Else (IntKind.i64.wrap (a2 + 1))).bind fun r41 => some (.cont (IntKind.i64.wrap ((IntKind.i64.wrap ((IntKind.i64.wrap (s28.1 + r37)) + r39)) + r41), IntKind.i64.wrap (s28.2 + 1))) else some (.done s28.1))
def B_j (rec178 : (List Step) → Int → Option Int) (n : Nat) (a1 : List Step) (a2 : Int) : Option Int :=
  (bif decide (20 < a2) then some 500 else (iter (F_dn n a1 a2 rec178) n ((a1.length : Int), 0) : Option Int).bind fun b25 => some b25)
theorem QaF (rec178 : (List Step) → Int → Option Int) (hrec178 : ∀ (a1 : List Step) (a2 : Int) (r : Int), rec178 a1 a2 = some r → C prog 32 [.rsl 8 (List.map Step.enc a1), I a2] [] (fun a H => a = I r ∧ H = [])) (n : Nat) (a1 : List Step) (a2 : Int) (r : Int) (h : B_j rec178 n a1 a2 = some r) :
    C prog 32 [.rsl 8 (List.map Step.enc a1), I a2] [] (fun a H => a = I r ∧ H = []) := by
 refine Qd func32 Z Z Z ?_
 refine Rg (U 1 Z (Nx (Rg (U 1 Z (YI runUnderlying29 Z (U 1 Z (Nx (TC.seq (Rg (U 2 Z (Nx (Cn Z h (fun hc1 h => ?_) (fun hc1 h => ?_)))))))))))))
 ·refine Rg (U 1 Z (Nx (RtR ?_)))
  obtain rfl := Oi h
  refine ⟨[(4, _)], _, _, ?_, ResOK.one Z Z, Z, Z⟩
  exact Lr []
 refine QP (TC.seq (Rg (U 1 Z (Nx (Bd h fun b25 h26 h => ?_)))))
 refine TC.cut ([(5, I b25)]) ([]) ?_ (fun env H hle => ?_)
 ·refine TC.block ?_
  refine TC.loop (E := fun s28 => [(0, .rsl 8 (List.map Step.enc a1)), (1, I a2), (5, I s28.1), (6, I s28.2)]) (Hp := fun s28 => []) h26 ?_ ?_
  ·exact Lr []
  intro s28 d29 h30 hb27
  refine TC.seq (TC.seq (Bd h30 fun b32 h33 h30 => ?_))
  refine TC.cut ([(0, .rsl 8 (List.map Step.enc a1)), (1, I a2), (5, I s28.1), (6, I s28.2), (18, .bool b32)]) ([]) ?_ (fun env H hle => ?_)
  ·refine TC.region (U 2 Z (YI runUnderlying29 Z (U 2 Z (If h33 (fun hg34 h33 => ?_) (fun hg34 h33 => ?_)))))
   ·refine Sg (gT hg34) Z (Sg (gT hg34) Z (Pk hg34 Z (WO.nil ?_)))
    obtain rfl := Oi h33
    exact cutN (Lr [])
   ·refine KF hg34 Z (KF hg34 Z (Pk hg34 Z (WO.nil ?_)))
    obtain rfl := Oi h33
    exact cutN (Lr [])
  refine Qf (TC.le hle (YK Z h30 (fun hc35 h30 => ?_) (fun hc35 h30 => ?_)))
  ·refine YJ (Qv h30 ?_)
   obtain rfl := hb27 _ (Oi h30).symm
   exact QL (cutN (Lr []))
  refine QP (TC.seq (TC.block ?_))
  obtain ⟨x36, hx36, h30⟩ := bnd h30
  obtain ⟨r37, hr37, h30⟩ := bnd h30
  obtain ⟨x38, hx38, h30⟩ := bnd h30
  obtain ⟨r39, hr39, h30⟩ := bnd h30
  obtain ⟨x40, hx40, h30⟩ := bnd h30
  obtain ⟨r41, hr41, h30⟩ := bnd h30
  refine TC.draw0 26 [21, 22, 23, 24, 25, 26, 27, 28, 29, 30, 31, 32, 33, 34, 35, 36, 37, 38, 39, 40, 41, 42, 43, 44, 45, 46] [I s28.1, .rsl 8 (List.map Step.enc a1), I s28.2, .rp [I x36.Kind, I x36.By, I x36.Cond.Kind, I x36.Cond.Var, I x36.Cond.N, .rsl 4 (List.map Cond.enc x36.Cond.Parts), .rsl 8 (List.map Step.enc x36.Then), .rsl 8 (List.map Step.enc x36.Else)], .rp [I x36.Cond.Kind, I x36.Cond.Var, I x36.Cond.N, .rsl 4 (List.map Cond.enc x36.Cond.Parts), .rsl 8 (List.map Step.enc x36.Then), .rsl 8 (List.map Step.enc x36.Else)], .agg (Cond.c x36.Cond), .rsl 4 (List.map Cond.enc [x36.Cond]), I r37, I (IntKind.i64.wrap (s28.1 + r37)), .rsl 8 (List.map Step.enc a1), I s28.2, .rp [I x38.Kind, I x38.By, I x38.Cond.Kind, I x38.Cond.Var, I x38.Cond.N, .rsl 4 (List.map Cond.enc x38.Cond.Parts), .rsl 8 (List.map Step.enc x38.Then), .rsl 8 (List.map Step.enc x38.Else)], .rp [.rsl 8 (List.map Step.enc x38.Then), .rsl 8 (List.map Step.enc x38.Else)], .rsl 8 (List.map Step.enc x38.Then), I a2, I (IntKind.i64.wrap (a2 + 1)), I r39, I (IntKind.i64.wrap ((IntKind.i64.wrap (s28.1 + r37)) + r39)), .rsl 8 (List.map Step.enc a1), I s28.2, .rp [I x40.Kind, I x40.By, I x40.Cond.Kind, I x40.Cond.Var, I x40.Cond.N, .rsl 4 (List.map Cond.enc x40.Cond.Parts), .rsl 8 (List.map Step.enc x40.Then), .rsl 8 (List.map Step.enc x40.Else)], .rp [.rsl 8 (List.map Step.enc x40.Else)], .rsl 8 (List.map Step.enc x40.Else), I a2, I (IntKind.i64.wrap (a2 + 1)), I r41] draws Z Z Z ?_ ?_
  ·refine ov (ov (ov (Oq.c ?_ (ov (ov (Oq.c ?_ (Oq.c ?_ (Oq.c ?_ (ov (ov (Oq.c ?_ (ov (ov (ov (Oq.c ?_ (Oq.c ?_ (Oq.c ?_ (ov (ov (Oq.c ?_ (ov (ov (ov (Oq.c ?_ (Oq.c ?_ (Oq.n))))))))))))))))))))))))))
   ·refine Om Z (sD 1 (sD 2 sN)) ?_
    refine vX (.rp [I x36.Kind, I x36.By, I x36.Cond.Kind, I x36.Cond.Var, I x36.Cond.N, .rsl 4 (List.map Cond.enc x36.Cond.Parts), .rsl 8 (List.map Step.enc x36.Then), .rsl 8 (List.map Step.enc x36.Else)]) (Q8 (e := Step.enc) hx36 (Yn x36) runUnderlying29 sizeOf132) ?_
    exact Wp
   ·refine Om Z (sD 5 sN) ?_
    refine vH (Yo (xs := [.tmp 26]) (es := [Cond.c x36.Cond]) QkR Z Z Z Z Z ⟨Z, trivial⟩ Z Z) ?_
    refine Qdi (x := (.rsl 4 (List.map Cond.enc [x36.Cond]))) (H := []) (by simp [Qan]) Z ?_
    exact Wp
   ·refine Om Z (sD 6 sN) ?_
    refine Qc [] (OpC.fn call52 Z Z Z) (k_k _ _ _ _ hr37) ?_
    rintro _ _ ⟨rfl, rfl⟩
    refine aV (I r37) [] Z Z ?_
    exact Wp
   ·refine Om Z (sD 0 (sD 7 sN)) ?_
    exact S Z Wp
   ·refine Om Z (sD 9 (sD 10 sN)) ?_
    refine vX (.rp [I x38.Kind, I x38.By, I x38.Cond.Kind, I x38.Cond.Var, I x38.Cond.N, .rsl 4 (List.map Cond.enc x38.Cond.Parts), .rsl 8 (List.map Step.enc x38.Then), .rsl 8 (List.map Step.enc x38.Else)]) (Q8 (e := Step.enc) hx38 (Yn x38) runUnderlying29 sizeOf132) ?_
    exact Wp
   ·refine Om Z (sD 14 sN) ?_
    exact S Z Wp
   ·refine Om Z (sD 13 (sD 15 sN)) ?_
    refine Qc [] (OpC.fn call32 Z Z Z) (hrec178 _ _ _ hr39) ?_
    rintro _ _ ⟨rfl, rfl⟩
    refine aV (I r39) [] Z Z ?_
    exact Wp
   ·refine Om Z (sD 8 (sD 16 sN)) ?_
    exact S Z Wp
   ·refine Om Z (sD 18 (sD 19 sN)) ?_
    refine vX (.rp [I x40.Kind, I x40.By, I x40.Cond.Kind, I x40.Cond.Var, I x40.Cond.N, .rsl 4 (List.map Cond.enc x40.Cond.Parts), .rsl 8 (List.map Step.enc x40.Then), .rsl 8 (List.map Step.enc x40.Else)]) (Q8 (e := Step.enc) hx40 (Yn x40) runUnderlying29 sizeOf132) ?_
    exact Wp
   ·refine Om Z (sD 23 sN) ?_
    exact S Z Wp
   ·refine Om Z (sD 22 (sD 24 sN)) ?_
    refine Qc [] (OpC.fn call32 Z Z Z) (hrec178 _ _ _ hr41) ?_
    rintro _ _ ⟨rfl, rfl⟩
    refine aV (I r41) [] Z Z ?_
    exact Wp
  exact U 2 Z (WO.nil (QB (Qf (TC.region (U 3 Z (WO.nil (Qp h30 (Lr []))))))))
 refine Qf (TC.le hle (Rg (U 2 Z (Nx (TC.ret ?_)))))
 obtain rfl := Oi h
 refine ⟨[(4, _)], _, _, ?_, ResOK.one Z Z, Z, Z⟩
 exact Lr []
def F_j : Nat → (List Step) → Int → Option Int
  | 0 => fun _ _ => none
  | n + 1 => B_j (F_j n) n
theorem k_j (n : Nat) : ∀ (a1 : List Step) (a2 : Int) (r : Int), F_j n a1 a2 = some r → C prog 32 [.rsl 8 (List.map Step.enc a1), I a2] [] (fun a H => a = I r ∧ H = []) := by
  induction n with
  | zero => intro a1 a2 r h; cases h
  | succ n ih => intro a1 a2 r h; exact QaF _ ih n a1 a2 r h
def F_dk (n : Nat) (a1 : Course) (s37 : Int) : Option (Ctl Int (Ctl Unit Bool)) :=
  (bif decide (s37 < (a1.Distances.length : Int)) then ((idx a1.Distances s37).bind fun x49 => (F_h n x49.Route 0).bind fun r50 => (bif decide (24 < r50) then some true else (idx a1.Distances s37).bind fun x52 => (bif decide (12 < (x52.Cutoffs.length : Int)) then some true else (idx a1.Distances s37).bind fun x54 => some (decide (60 < (x54.Name.length : Int))))) : Option Bool).bind fun b47 => (bif b47 then some (.done (.done false)) else some (.cont (IntKind.i64.wrap (s37 + 1)))) else some (.done (.cont ())))
def F_er (n : Nat) (a1 : Course) (s66 : Int) : Option (Ctl Int (Ctl Unit Bool)) :=
  (bif decide (s66 < (a1.Mats.length : Int)) then (idx a1.Mats s66).bind fun x70 => (bif decide (60 < (x70.Name.length : Int)) then some (.done (.done false)) else some (.cont (IntKind.i64.wrap (s66 + 1)))) else some (.done (.cont ())))
def F_z (n : Nat) (a1 : Course) : Option Bool :=
  (iter (F_dk n a1) n 0 : Option (Ctl Unit Bool)).bind fun b34 => match b34 with | .cont sb34 => ((iter (F_er n a1) n 0 : Option (Ctl Unit Bool)).bind fun b63 => match b63 with | .cont sb63 => (((bif decide (12 < (a1.Mats.length : Int)) then some true else (bif decide (30 < (a1.Legs.length : Int)) then some true else (bif decide (4 < (a1.Distances.length : Int)) then some true else (bif decide (6 < (a1.Waves.length : Int)) then some true else (bif decide (6 < (a1.Offences.length : Int)) then some true else (bif decide (6 < (a1.Categories.length : Int)) then some true else (bif decide (6 < (a1.Prizes.length : Int)) then some true else some (decide (60 < (a1.Name.length : Int)))))))))) : Option Bool).bind fun b79 => (bif b79 then some false else (F_j n a1.Ties 0).bind fun r89 => some (decide (r89 ≤ 100)))) | .done sb63 => some sb63) | .done sb34 => some sb34
theorem k_z (n : Nat) (a1 : Course) (r : Bool) (h : F_z n a1 = some r) :
    C prog 11 [.agg (Course.c a1)] [] (fun a H => a = .bool r ∧ H = []) := by
 refine Qd func11 Z Z Z ?_
 refine Rg (U 2 Z (Nx (TC.seq (Rg (U 1 Z (Nx (Bd h fun b34 h35 h => ?_)))))))
 refine Qn (b := b34) (fun sb34 => [(1, .ptr 0 0)]) (fun sb34 => [.cells 33 (Course.c a1)]) ?_ (fun sb34 env H hbe hle => ?_)
 ·refine TC.block ?_
  refine TC.loop (E := fun s37 => [(1, .ptr 0 0), (3, I s37)]) (Hp := fun s37 => [.cells 33 (Course.c a1)]) h35 ?_ ?_
  ·exact Lr [0]
  intro s37 d38 h39 hb36
  refine TC.seq (Rg (U 3 Z (YI runUnderlying24 Z (U 1 Z (Nx (YK Z h39 (fun hc40 h39 => ?_) (fun hc40 h39 => ?_)))))))
  ·refine YJ (Qv h39 ?_)
   obtain rfl := hb36 _ (Oi h39).symm
   exact QL (Qt Z (Lr [0]))
  refine QP (TC.seq (TC.block (TC.seq (Bd h39 fun b47 h48 h39 => ?_))))
  refine TC.cut ([(1, .ptr 0 0), (3, I s37), (39, .bool b47)]) ([.cells 33 (Course.c a1)]) ?_ (fun env H hle => ?_)
  ·refine TC.region (U 3 Z (Bd h48 fun x49 hx49 h48 => Ix hx49 runUnderlying24 sizeOf94 Z (U 2 Z (Bd h48 fun r50 hr50 h48 => ?_))))
   refine Qc [] (OpC.fn call31 Z Z Z) (k_h _ _ _ _ hr50) ?_
   rintro _ _ ⟨rfl, rfl⟩
   refine aV (I r50) [_] Z Z ?_
   refine U 2 Z (If h48 (fun hg51 h48 => ?_) (fun hg51 h48 => ?_))
   ·refine KF hg51 Z (KF hg51 Z (KF hg51 Z (KF hg51 Z (KF hg51 Z (KF hg51 Z (KF hg51 Z (KF hg51 Z (Pk hg51 Z (U 10 Z (WO.nil ?_))))))))))
    obtain rfl := Oi h48
    exact cutN (Lr [0])
   ·refine QM (gT hg51) QaE Z (QR (gT hg51) isAgg24 Z (Sg (gT hg51) Z (Bd h48 fun x52 hx52 h48 => ?_)))
    refine vX (.rp [.str x52.Name, .rsl 3 (List.map Part.enc x52.Route), I x52.Timing, .rsl 3 (List.map Cutoff.c x52.Cutoffs), I x52.Extra]) (QbY (e := Distance.c) (l := a1.Distances) (v := x52) hx52 runUnderlying24 sizeOf94) ?_ (gT hg51)
    refine Frg (gT hg51) Qd6 Z (QR (gT hg51) isAgg92 Z ?_)
    refine vX (I (x52.Cutoffs.length : Int)) (Qo (e := Cutoff.c) (l := x52.Cutoffs) runUnderlying92) ?_ (gT hg51)
    refine Sg (gT hg51) Z (Pk hg51 Z (U 1 Z (If h48 (fun hg53 h48 => ?_) (fun hg53 h48 => ?_))))
    ·refine KF hg53 Z (KF hg53 Z (KF hg53 Z (KF hg53 Z (KF hg53 Z (KF hg53 Z (KF hg53 Z (KF hg53 Z (Pk hg53 Z (WO.nil ?_)))))))))
     obtain rfl := Oi h48
     exact cutN (Lr [0])
    ·refine QM (gT hg53) QaE Z (QR (gT hg53) isAgg24 Z (Sg (gT hg53) Z (Bd h48 fun x54 hx54 h48 => ?_)))
     refine vX (.rp [.str x54.Name, .rsl 3 (List.map Part.enc x54.Route), I x54.Timing, .rsl 3 (List.map Cutoff.c x54.Cutoffs), I x54.Extra]) (QbY (e := Distance.c) (l := a1.Distances) (v := x54) hx54 runUnderlying24 sizeOf94) ?_ (gT hg53)
     refine Frg (gT hg53) Qf8 Z (QR (gT hg53) isAgg9 Z ?_)
     refine vX (I (x54.Name.length : Int)) (YD Z Z runUnderlying9 Z) ?_ (gT hg53)
     refine Sg (gT hg53) Z (Pk hg53 Z (WO.nil ?_))
     obtain rfl := Oi h48
     exact cutN (Lr [0])
  refine Qf (TC.le hle (Cn Z h39 (fun hc55 h39 => ?_) (fun hc55 h39 => ?_)))
  ·refine Rg (U 1 Z (Nx (TC.ret (Qj (Qi (QJ h39 ?_))))))
   obtain rfl := hb36 _ (Oi h39).symm
   refine Qj (QC (Qi ?_))
   obtain rfl := Oi h
   refine ⟨[(2, _)], _, _, ?_, ResOK.one Z Z, Z, Z⟩
   exact Lr []
  exact TC.skip (QB (Qf (TC.region (U 3 Z (WO.nil (Qp h39 (Lr [0])))))))
 subst hbe
 refine Qf (TC.le hle (TC.seq (Rg (U 1 Z (Nx (Bd h fun b63 h64 h => ?_))))))
 refine Qn (b := b63) (fun sb63 => [(1, .ptr 0 0)]) (fun sb63 => [.cells 33 (Course.c a1)]) ?_ (fun sb63 env H hbe hle => ?_)
 ·refine TC.block ?_
  refine TC.loop (E := fun s66 => [(1, .ptr 0 0), (4, I s66)]) (Hp := fun s66 => [.cells 33 (Course.c a1)]) h64 ?_ ?_
  ·exact Lr [0]
  intro s66 d67 h68 hb65
  refine TC.seq (Rg (U 3 Z (YI runUnderlying22 Z (U 1 Z (Nx (YK Z h68 (fun hc69 h68 => ?_) (fun hc69 h68 => ?_)))))))
  ·refine YJ (Qv h68 ?_)
   obtain rfl := hb65 _ (Oi h68).symm
   exact QL (Qt Z (Lr [0]))
  refine QP (TC.seq (TC.block (Rg (U 3 Z (Bd h68 fun x70 hx70 h68 => Ix hx70 runUnderlying22 sizeOf96 Z (U 2 Z ?_))))))
  refine vX (I (x70.Name.length : Int)) (YD Z Z runUnderlying9 Z) ?_
  refine U 1 Z (Nx (Cn Z h68 (fun hc71 h68 => ?_) (fun hc71 h68 => ?_)))
  ·refine Rg (U 1 Z (Nx (TC.ret (Qj (Qi (QJ h68 ?_))))))
   obtain rfl := hb65 _ (Oi h68).symm
   refine Qj (QC (Qi ?_))
   obtain rfl := Oi h
   refine ⟨[(2, _)], _, _, ?_, ResOK.one Z Z, Z, Z⟩
   exact Lr []
  exact TC.skip (QB (Qf (TC.region (U 3 Z (WO.nil (Qp h68 (Lr [0])))))))
 subst hbe
 refine Qf (TC.le hle (TC.seq (TC.seq (Bd h fun b79 h80 h => ?_))))
 refine TC.cut ([(1, .ptr 0 0), (100, .bool b79)]) ([.cells 33 (Course.c a1)]) ?_ (fun env H hle => ?_)
 ·refine TC.region (U 2 Z (YI runUnderlying22 Z (U 2 Z (If h80 (fun hg81 h80 => ?_) (fun hg81 h80 => ?_)))))
  ·refine KF hg81 Z (KF hg81 Z (KF hg81 Z (KF hg81 Z (Pk hg81 Z (U 36 Z (WO.nil ?_))))))
   obtain rfl := Oi h80
   exact cutN (Lr [0])
  ·refine QM (gT hg81) QbM Z (QR (gT hg81) isAgg23 Z ?_)
   refine vX (I (a1.Legs.length : Int)) (Qo (e := Leg.c) (l := a1.Legs) runUnderlying23) ?_ (gT hg81)
   refine Sg (gT hg81) Z (Pk hg81 Z (U 1 Z (If h80 (fun hg82 h80 => ?_) (fun hg82 h80 => ?_))))
   ·refine KF hg82 Z (KF hg82 Z (KF hg82 Z (KF hg82 Z (Pk hg82 Z (U 30 Z (WO.nil ?_))))))
    obtain rfl := Oi h80
    exact cutN (Lr [0])
   ·refine QM (gT hg82) QaE Z (QR (gT hg82) isAgg24 Z ?_)
    refine vX (I (a1.Distances.length : Int)) (Qo (e := Distance.c) (l := a1.Distances) runUnderlying24) ?_ (gT hg82)
    refine Sg (gT hg82) Z (Pk hg82 Z (U 1 Z (If h80 (fun hg83 h80 => ?_) (fun hg83 h80 => ?_))))
    ·refine KF hg83 Z (KF hg83 Z (KF hg83 Z (KF hg83 Z (Pk hg83 Z (U 24 Z (WO.nil ?_))))))
     obtain rfl := Oi h80
     exact cutN (Lr [0])
    ·refine QM (gT hg83) QbL Z (QR (gT hg83) isAgg25 Z ?_)
     refine vX (I (a1.Waves.length : Int)) (Qo (e := Wave.c) (l := a1.Waves) runUnderlying25) ?_ (gT hg83)
     refine Sg (gT hg83) Z (Pk hg83 Z (U 1 Z (If h80 (fun hg84 h80 => ?_) (fun hg84 h80 => ?_))))
     ·refine KF hg84 Z (KF hg84 Z (KF hg84 Z (KF hg84 Z (Pk hg84 Z (U 18 Z (WO.nil ?_))))))
      obtain rfl := Oi h80
      exact cutN (Lr [0])
     ·refine QM (gT hg84) QcH Z (QR (gT hg84) isAgg26 Z ?_)
      refine vX (I (a1.Offences.length : Int)) (Qo (e := Offence.c) (l := a1.Offences) runUnderlying26) ?_ (gT hg84)
      refine Sg (gT hg84) Z (Pk hg84 Z (U 1 Z (If h80 (fun hg85 h80 => ?_) (fun hg85 h80 => ?_))))
      ·refine KF hg85 Z (KF hg85 Z (KF hg85 Z (KF hg85 Z (Pk hg85 Z (U 12 Z (WO.nil ?_))))))
       obtain rfl := Oi h80
       exact cutN (Lr [0])
      ·refine QM (gT hg85) QbK Z (QR (gT hg85) isAgg27 Z ?_)
       refine vX (I (a1.Categories.length : Int)) (Qo (e := Category.c) (l := a1.Categories) runUnderlying27) ?_ (gT hg85)
       refine Sg (gT hg85) Z (Pk hg85 Z (U 1 Z (If h80 (fun hg86 h80 => ?_) (fun hg86 h80 => ?_))))
       ·refine KF hg86 Z (KF hg86 Z (KF hg86 Z (KF hg86 Z (Pk hg86 Z (U 6 Z (WO.nil ?_))))))
        obtain rfl := Oi h80
        exact cutN (Lr [0])
       ·refine QM (gT hg86) QcG Z (QR (gT hg86) isAgg28 Z ?_)
        refine vX (I (a1.Prizes.length : Int)) (Qo (e := Prize.c) (l := a1.Prizes) runUnderlying28) ?_ (gT hg86)
        refine Sg (gT hg86) Z (Pk hg86 Z (U 1 Z (If h80 (fun hg87 h80 => ?_) (fun hg87 h80 => ?_))))
        ·refine KF hg87 Z (KF hg87 Z (KF hg87 Z (KF hg87 Z (Pk hg87 Z (WO.nil ?_)))))
         obtain rfl := Oi h80
         exact cutN (Lr [0])
        ·refine QM (gT hg87) Qgb Z (QR (gT hg87) isAgg9 Z ?_)
         refine vX (I (a1.Name.length : Int)) (YD Z Z runUnderlying9 Z) ?_ (gT hg87)
         refine Sg (gT hg87) Z (Pk hg87 Z (WO.nil ?_))
         obtain rfl := Oi h80
         exact cutN (Lr [0])
 refine Qf (TC.le hle (Cn Z h (fun hc88 h => ?_) (fun hc88 h => ?_)))
 ·refine Rg (U 1 Z (Nx (RtR ?_)))
  obtain rfl := Oi h
  refine ⟨[(2, _)], _, _, ?_, ResOK.one Z Z, Z, Z⟩
  exact Lr []
 refine QP (Rg (U 2 Z (Bd h fun r89 hr89 h => ?_)))
 refine Qc [] (OpC.fn call32 Z Z Z) (k_j _ _ _ _ hr89) ?_
 rintro _ _ ⟨rfl, rfl⟩
 refine aV (I r89) [_] Z Z ?_
 refine U 2 Z (Nx (TC.ret ?_))
 obtain rfl := Oi h
 refine ⟨[(2, _)], _, _, ?_, ResOK.one Z Z, Z, Z⟩
 exact Lr []
def F_fq (n : Nat) (a1 : List Fact) (a2 : Int) : Option Unit :=
  some ()
theorem k_fq (n : Nat) (a1 : List Fact) (a2 : Int) (r : Unit) (h : F_fq n a1 a2 = some r) :
    C prog 12 [.rsl 57 (List.map Fact.c a1), I a2] [] (fun a H => a = .bool (decide ((a1.length : Int) ≤ a2)) ∧ H = []) := by
 refine Qd func12 Z Z Z ?_
 refine Rg (U 1 Z (Nx (Rg (U 1 Z (YI runUnderlying34 Z (U 3 Z (Nx (TC.ret ?_))))))))
 obtain rfl := Oi h
 refine ⟨[(4, _)], _, _, ?_, ResOK.one Z Z, Z, Z⟩
 exact Lr []
def F_fk (n : Nat) (r12 : (List Starter) × Int) (r13 : (List Pair) × Int) (s228 : Int) (s292 : (List (Int × Bool)) × Int) : Option (Ctl ((List (Int × Bool)) × Int) (Ctl (List (Int × Bool)) (Ctl Int (Ctl Unit Bool)))) :=
  (bif decide (s292.2 < (r12.1.length : Int)) then (idx r12.1 s292.2).bind fun x296 => (F_l n r12.1 r13.1 s228 x296.Bib).bind fun r297 => (F_v n r12.1 r13.1 s228 r297.1).bind fun r298 => ((bif (s228 == 0) then some true else (idx r13.1 (IntKind.i64.wrap (s228 - 1))).bind fun x306 => (bif (x296.Bib != x306.A) then (idx r13.1 (IntKind.i64.wrap (s228 - 1))).bind fun x308 => some (x296.Bib != x308.B) else some false)) : Option Bool).bind fun b303 => ((bif (r297.2 != 0) then some true else (some (mgetD s292.1 r297.1 false)).bind fun v317 => (bif v317 then some true else (bif (!r298.2) then some true else (bif (r298.1 != x296.Bib) then some true else some (b303 != (r297.1 == x296.Chip)))))) : Option Bool).bind fun b314 => (bif b314 then some (.done (.done (.done (.done false)))) else (some (mset s292.1 r297.1 true)).bind fun m322 => some (.cont (m322, IntKind.i64.wrap (s292.2 + 1)))) else some (.done (.cont s292.1)))
def F_fu (n : Nat) (r12 : (List Starter) × Int) (sb289 : List (Int × Bool)) (s335 : Int) : Option (Ctl Int (Ctl Unit (Ctl Int (Ctl Unit Bool)))) :=
  (bif decide (s335 < (r12.1.length : Int)) then (idx r12.1 s335).bind fun x339 => (some (mgetD sb289 x339.Chip false)).bind fun v340 => (bif (!v340) then some (.done (.done (.done (.done false)))) else some (.cont (IntKind.i64.wrap (s335 + 1)))) else some (.done (.cont ())))
def F_fv (n : Nat) (r12 : (List Starter) × Int) (r13 : (List Pair) × Int) (s228 : Int) : Option (Ctl Int (Ctl Unit Bool)) :=
  (bif decide (s228 < (IntKind.i64.wrap ((r13.1.length : Int) + 1))) then (iter (F_fk n r12 r13 s228) n ([], 0) : Option (Ctl (List (Int × Bool)) (Ctl Int (Ctl Unit Bool)))).bind fun b289 => match b289 with | .cont sb289 => ((iter (F_fu n r12 sb289) n 0 : Option (Ctl Unit (Ctl Int (Ctl Unit Bool)))).bind fun b332 => match b332 with | .cont sb332 => (some (.cont (IntKind.i64.wrap (s228 + 1)))) | .done sb332 => some sb332) | .done sb289 => some sb289 else some (.done (.cont ())))
def F_dw (n : Nat) (a1 : Course) (a2 : List Fact) : Option Bool :=
  (F_dx 300).bind fun r1 => (bif (!r1) then some false else ((F_z n a1).bind fun r8 => (bif (!r8) then some true else (F_fq n a2 14).bind fun r10 => some (!(decide ((a2.length : Int) ≤ 14)))) : Option Bool).bind fun b6 => (bif b6 then some true else (F_s n a1 a2).bind fun r12 => (F_ai n a1 a2).bind fun r13 => ((bif (r12.2 != 0) then some true else some (r13.2 != 0)) : Option Bool).bind fun b15 => (bif b15 then ((bif (r12.2 == 0) then some true else some (r13.2 == r12.2)) : Option Bool).bind fun b20 => some b20 else (F_r n r13.1).bind fun r23 => (bif ((IntKind.i64.wrap ((r13.1.length : Int) + 1)) != (IntKind.i64.wrap ((r13.1.length : Int) + 1))) then some false else (F_r n r13.1).bind fun r25 => (iter (F_fv n r12 r13) n 0 : Option (Ctl Unit Bool)).bind fun b225 => match b225 with | .cont sb225 => (some true) | .done sb225 => some sb225))))
theorem k_dw (n : Nat) (a1 : Course) (a2 : List Fact) (r : Bool) (h : F_dw n a1 a2 = some r) :
    C prog 5 [.agg (Course.c a1), .rsl 57 (List.map Fact.c a2)] [] (fun a H => a = .bool r ∧ H = []) := by
 refine Qd func5 Z Z Z ?_
 refine Rg (U 2 Z (Nx (TC.seq (Rg (Bd h fun r1 hr1 h => ?_)))))
 refine Qc [] (OpC.fn call10 Z Z Z) (k_dx _ _ hr1) ?_
 rintro _ _ ⟨rfl, rfl⟩
 refine aV (.bool r1) [_] Z Z ?_
 refine U 1 Z (Nx (Cn Z h (fun hc2 h => ?_) (fun hc2 h => ?_)))
 ·refine Rg (U 1 Z (Nx (RtR ?_)))
  obtain rfl := Oi h
  refine ⟨[(4, _)], _, _, ?_, ResOK.one Z Z, Z, Z⟩
  exact Lr []
 refine QP (TC.seq (TC.seq (Bd h fun b6 h7 h => ?_)))
 refine TC.cut ([(1, .rsl 57 (List.map Fact.c a2)), (2, .ptr 0 0), (29, .bool b6)]) ([.cells 33 (Course.c a1)]) ?_ (fun env H hle => ?_)
 ·refine TC.region (U 1 Z (Bd h7 fun r8 hr8 h7 => ?_))
  refine Qc [] (OpC.fn call11 Z Z Z) (k_z _ _ _ hr8) ?_
  rintro _ _ ⟨rfl, rfl⟩
  refine aV (.bool r8) [_] Z Z ?_
  refine U 2 Z (If h7 (fun hg9 h7 => ?_) (fun hg9 h7 => ?_))
  ·refine KF hg9 Z (KF hg9 Z (KF hg9 Z (Pk hg9 Z (WO.nil ?_))))
   obtain rfl := Oi h7
   exact cutN (Lr [0])
  ·refine Sg (gT hg9) Z (Bd h7 fun r10 hr10 h7 => ?_)
   refine Qc [] (OpC.fn call12 Z Z Z) (k_fq _ _ _ _ hr10) ?_ (hg := (gT hg9))
   rintro _ _ ⟨rfl, rfl⟩
   refine aV (.bool (decide ((a2.length : Int) ≤ 14))) [_] Z Z ?_
   refine Sg (gT hg9) Z (Pk hg9 Z (WO.nil ?_))
   obtain rfl := Oi h7
   exact cutN (Lr [0])
 refine Qf (TC.le hle (Cn Z h (fun hc11 h => ?_) (fun hc11 h => ?_)))
 ·refine Rg (U 1 Z (Nx (RtR ?_)))
  obtain rfl := Oi h
  refine ⟨[(4, _)], _, _, ?_, ResOK.one Z Z, Z, Z⟩
  exact Lr []
 refine QP (Rg (U 2 Z (Bd h fun r12 hr12 h => ?_)))
 refine Qc [] (OpC.fn call13 Z Z Z) (k_s _ _ _ _ hr12) ?_
 rintro _ _ ⟨rfl, rfl⟩
 refine aV (.tup [.osl 1 0 r12.1.length 8, I r12.2]) [_, .row 50 8 (List.map Starter.c r12.1)] Z Z ?_
 refine U 5 Z (Nx (Rg (U 2 Z (Bd h fun r13 hr13 h => ?_))))
 refine Qc [] (OpC.fn call15 Z Z Z) (k_ai _ _ _ _ hr13) ?_
 rintro _ _ ⟨rfl, rfl⟩
 refine aV (.tup [.osl 2 0 r13.1.length 2, I r13.2]) [_, _, .row 59 2 (List.map Pair.c r13.1)] Z Z ?_
 refine U 5 Z (Nx (TC.seq (TC.seq (Bd h fun b15 h16 h => ?_))))
 refine TC.cut ([(5, .osl 0 0 r12.1.length 8), (6, I r12.2), (7, .osl 1 0 r13.1.length 2), (8, I r13.2), (47, .bool b15)]) ([.row 50 8 (List.map Starter.c r12.1), .row 59 2 (List.map Pair.c r13.1)]) ?_ (fun env H hle => ?_)
 ·refine TC.region (U 3 Z (If h16 (fun hg17 h16 => ?_) (fun hg17 h16 => ?_)))
  ·refine KF hg17 Z (KF hg17 Z (Pk hg17 Z (WO.nil ?_)))
   obtain rfl := Oi h16
   exact cutN (Lr [1, 2])
  ·refine Sg (gT hg17) Z (Sg (gT hg17) Z (Pk hg17 Z (WO.nil ?_)))
   obtain rfl := Oi h16
   exact cutN (Lr [1, 2])
 refine Qf (TC.le hle (Cn Z h (fun hc18 h => ?_) (fun hc18 h => ?_)))
 ·refine TC.seq (Bd h fun b20 h21 h => ?_)
  refine TC.cut ([(4, .bool b20)]) ([]) ?_ (fun env H hle => ?_)
  ·refine TC.region (U 3 Z (If h21 (fun hg22 h21 => ?_) (fun hg22 h21 => ?_)))
   ·refine KF hg22 Z (KF hg22 Z (KF hg22 Z (Pk hg22 Z (U 1 Z (WO.nil ?_)))))
    obtain rfl := Oi h21
    exact cutN (Lr [])
   ·refine Sg (gT hg22) Z (Sg (gT hg22) Z (Sg (gT hg22) Z (Pk hg22 Z (U 1 Z (WO.nil ?_)))))
    obtain rfl := Oi h21
    exact cutN (Lr [])
  refine Qf (TC.le hle (RtR ?_))
  obtain rfl := Oi h
  refine ⟨[(4, _)], _, _, ?_, ResOK.one Z Z, Z, Z⟩
  exact Lr []
 refine QP (TC.seq (Rg (U 1 Z (Bd h fun r23 hr23 h => ?_))))
 refine Qk (OpC.fn call23 rfl rfl rfl) (LookL.cons rfl (.inr ⟨_, _, _, _, _, rfl, rfl, List.length_map .., rfl⟩) LookL.nil) (k_r _ _ _ hr23) (by rintro _ _ ⟨rfl, rfl⟩; rfl) ?_
 rintro _ _ ⟨rfl, rfl⟩
 refine aV (I (IntKind.i64.wrap ((r13.1.length : Int) + 1))) [_, _] Z Z ?_
 refine U 4 Z (Nx (Cn Z h (fun hc24 h => ?_) (fun hc24 h => ?_)))
 ·refine Rg (U 1 Z (Nx (RtR ?_)))
  obtain rfl := Oi h
  refine ⟨[(4, _)], _, _, ?_, ResOK.one Z Z, Z, Z⟩
  exact Lr []
 refine QP (TC.seq (Rg (U 1 Z (Bd h fun r25 hr25 h => ?_))))
 refine Qk (OpC.fn call23 rfl rfl rfl) (LookL.cons rfl (.inr ⟨_, _, _, _, _, rfl, rfl, List.length_map .., rfl⟩) LookL.nil) (k_r _ _ _ hr25) (by rintro _ _ ⟨rfl, rfl⟩; rfl) ?_
 rintro _ _ ⟨rfl, rfl⟩
 refine aV (I (IntKind.i64.wrap ((r13.1.length : Int) + 1))) [_, _] Z Z ?_
 refine U 1 Z (Nx (Bd h fun b225 h226 h => ?_))
 refine Qn (b := b225) (fun sb225 => []) (fun sb225 => []) ?_ (fun sb225 env H hbe hle => ?_)
 ·refine TC.block ?_
  refine TC.loop (E := fun s228 => [(5, .osl 0 0 r12.1.length 8), (7, .osl 1 0 r13.1.length 2), (62, I (IntKind.i64.wrap ((r13.1.length : Int) + 1))), (63, I s228)]) (Hp := fun s228 => [.row 50 8 (List.map Starter.c r12.1), .row 59 2 (List.map Pair.c r13.1)]) h226 ?_ ?_
  ·exact Lr [0, 1]
  intro s228 d229 h230 hb227
  refine Rg (U 1 Z (Nx (TC.seq (YK Z h230 (fun hc231 h230 => ?_) (fun hc231 h230 => ?_)))))
  ·refine YJ (Qv h230 ?_)
   obtain rfl := hb227 _ (Oi h230).symm
   exact QL (Qt Z (Lr []))
  refine QP (TC.seq (TC.block (Rg (U 2 Z (Nx (Rg ?_))))))
  refine vH QT ?_
  refine aV (.map 2) [_, _, .map (menc (fun x => A.int .i64 x) A.bool [])] Z Z ?_
  refine U 1 Z (Nx (TC.seq (Rg (U 3 Z (Nx (Bd h230 fun b289 h290 h230 => ?_))))))
  refine Qn (b := b289) (fun sb289 => [(5, .osl 0 0 r12.1.length 8), (7, .osl 1 0 r13.1.length 2), (10, .map 2), (62, I (IntKind.i64.wrap ((r13.1.length : Int) + 1))), (63, I s228)]) (fun sb289 => [.row 50 8 (List.map Starter.c r12.1), .row 59 2 (List.map Pair.c r13.1), .map (menc (fun x => A.int .i64 x) A.bool sb289)]) ?_ (fun sb289 env H hbe hle => ?_)
  ·refine TC.block ?_
   refine TC.loop (E := fun s292 => [(5, .osl 0 0 r12.1.length 8), (7, .osl 1 0 r13.1.length 2), (9, I s228), (10, .map 2), (62, I (IntKind.i64.wrap ((r13.1.length : Int) + 1))), (63, I s228), (67, .osl 0 0 r12.1.length 8), (68, I (r12.1.length : Int)), (69, I s292.2)]) (Hp := fun s292 => [.row 50 8 (List.map Starter.c r12.1), .row 59 2 (List.map Pair.c r13.1), .map (menc (fun x => A.int .i64 x) A.bool s292.1)]) h290 ?_ ?_
   ·exact Lr [0, 1, 2]
   intro s292 d293 h294 hb291
   refine Rg (U 1 Z (Nx (TC.seq (YK Z h294 (fun hc295 h294 => ?_) (fun hc295 h294 => ?_)))))
   ·refine YJ (Qv h294 ?_)
    obtain rfl := hb291 _ (Oi h294).symm
    exact QL (Qt Z (Lr [0, 1, 2]))
   refine QP (TC.seq (TC.block (Rg (Bd h294 fun x296 hx296 h294 => ?_))))
   refine vX (.ptr 0 (Int.toNat s292.2 * 8)) (QY hx296 Z runUnderlying38 sizeOf50) ?_
   refine vX (.agg (Starter.c x296)) (Qy Z isAgg50 sizeOf50 Z (QH hx296) Z Z) ?_
   refine U 2 Z (Nx (Rg (U 5 Z (Bd h294 fun r297 hr297 h294 => ?_))))
   refine Qk (OpC.fn call19 rfl rfl rfl) (LookL.cons rfl (.inr ⟨_, _, _, _, _, rfl, rfl, List.length_map .., rfl⟩) (LookL.cons rfl (.inr ⟨_, _, _, _, _, rfl, rfl, List.length_map .., rfl⟩) (LookL.cons rfl (.inl ⟨rfl, rfl⟩) (LookL.cons rfl (.inl ⟨rfl, rfl⟩) LookL.nil)))) (k_l _ _ _ _ _ _ hr297) (by rintro _ _ ⟨rfl, rfl⟩; rfl) ?_
   rintro _ _ ⟨rfl, rfl⟩
   refine aV (.tup [I r297.1, I r297.2]) [_, _, _, _] Z Z ?_
   refine U 5 Z (Nx (Rg (U 4 Z (Bd h294 fun r298 hr298 h294 => ?_))))
   refine Qk (OpC.fn call21 rfl rfl rfl) (LookL.cons rfl (.inr ⟨_, _, _, _, _, rfl, rfl, List.length_map .., rfl⟩) (LookL.cons rfl (.inr ⟨_, _, _, _, _, rfl, rfl, List.length_map .., rfl⟩) (LookL.cons rfl (.inl ⟨rfl, rfl⟩) (LookL.cons rfl (.inl ⟨rfl, rfl⟩) LookL.nil)))) (k_v _ _ _ _ _ _ hr298) (by rintro _ _ ⟨rfl, rfl⟩; rfl) ?_
   rintro _ _ ⟨rfl, rfl⟩
   refine aV (.tup [I r298.1, .bool r298.2]) [_, _, _, _] Z Z ?_
   refine U 5 Z (Nx (TC.seq (Bd h294 fun b303 h304 h294 => ?_)))
   refine TC.cut ([(5, .osl 0 0 r12.1.length 8), (7, .osl 1 0 r13.1.length 2), (9, I s228), (10, .map 2), (12, .ptr 3 0), (13, I r297.1), (14, I r297.2), (15, I r298.1), (16, .bool r298.2), (17, .bool b303), (62, I (IntKind.i64.wrap ((r13.1.length : Int) + 1))), (63, I s228), (67, .osl 0 0 r12.1.length 8), (68, I (r12.1.length : Int)), (69, I s292.2)]) ([.row 50 8 (List.map Starter.c r12.1), .row 59 2 (List.map Pair.c r13.1), .map (menc (fun x => A.int .i64 x) A.bool s292.1), .cells 50 (Starter.c x296)]) ?_ (fun env H hle => ?_)
   ·refine If h304 (fun hg305 h304 => ?_) (fun hg305 h304 => ?_)
    ·refine TC.draw0 21 [90, 91, 92, 93, 94, 95, 96, 97, 98, 99, 100, 101, 102, 103, 104, 105, 106, 107, 108, 109, 110] [I s228, .bool (s228 == 0), .bool (s228 == 0), .tup [], .tup [], .tup [], .tup [], .tup [], .tup [], .tup [], .tup [], .tup [], .tup [], .tup [], .tup [], .tup [], .tup [], .tup [], .tup [], .tup [], .tup []] draws Z Z Z ?_ ?_
     ·refine ov (Oq.c ?_ (ov (Oq.c ?_ (Oq.c ?_ (Oq.c ?_ (Oq.c ?_ (Oq.c ?_ (Oq.c ?_ (Oq.c ?_ (Oq.c ?_ (Oq.c ?_ (Oq.c ?_ (Oq.c ?_ (Oq.c ?_ (Oq.c ?_ (Oq.c ?_ (Oq.c ?_ (Oq.c ?_ (Oq.c ?_ (Oq.c ?_ (Oq.n)))))))))))))))))))))
      ·refine Om Z (sD 0 sN) ?_
       exact S Z Wp
      ·refine Om Z (sO 12 (sD 2 sN)) ?_
       exact K (gF hg305) Z Wp
      ·refine Om Z (sD 2 (sD 3 sN)) ?_
       exact K (gF hg305) Z Wp
      ·refine Om Z (sO 7 (sD 2 sN)) ?_
       exact K (gF hg305) Z Wp
      ·refine Om Z (sO 9 (sD 2 sN)) ?_
       exact K (gF hg305) Z Wp
      ·refine Om Z (sD 2 (sD 6 sN)) ?_
       exact K (gF hg305) Z Wp
      ·refine Om Z (sD 2 (sD 5 (sD 7 sN))) ?_
       exact K (gF hg305) Z Wp
      ·refine Om Z (sD 2 (sD 8 sN)) ?_
       exact K (gF hg305) Z Wp
      ·refine Om Z (sD 2 (sD 9 sN)) ?_
       exact K (gF hg305) Z Wp
      ·refine Om Z (sD 2 (sD 4 (sD 10 sN))) ?_
       exact K (gF hg305) Z Wp
      ·refine Om Z (sD 2 (sD 11 sN)) ?_
       exact K (gF hg305) Z Wp
      ·refine Om Z (sO 12 (sD 12 sN)) ?_
       exact K gU Z Wp
      ·refine Om Z (sD 12 (sD 13 sN)) ?_
       exact K gU Z Wp
      ·refine Om Z (sO 7 (sD 12 sN)) ?_
       exact K gU Z Wp
      ·refine Om Z (sO 9 (sD 12 sN)) ?_
       exact K gU Z Wp
      ·refine Om Z (sD 12 (sD 16 sN)) ?_
       exact K gU Z Wp
      ·refine Om Z (sD 12 (sD 15 (sD 17 sN))) ?_
       exact K gU Z Wp
      ·refine Om Z (sD 12 (sD 18 sN)) ?_
       exact K gU Z Wp
      ·refine Om Z (sD 12 (sD 19 sN)) ?_
       exact K gU Z Wp
     refine U 1 Z (KF hg305 Z (Pk hg305 Z (U 1 Z (WO.nil ?_))))
     obtain rfl := Oi h304
     exact cutN (Lr [0, 1, 2, 3])
    ·obtain ⟨x306, hx306, h304⟩ := bnd h304
     refine If h304 (fun hg307 h304 => ?_) (fun hg307 h304 => ?_)
     ·obtain ⟨x308, hx308, h304⟩ := bnd h304
      refine TC.draw0 21 [90, 91, 92, 93, 94, 95, 96, 97, 98, 99, 100, 101, 102, 103, 104, 105, 106, 107, 108, 109, 110] [I s228, .bool (s228 == 0), .bool (s228 == 0), .ptr 3 0, I x296.Bib, .osl 1 0 r13.1.length 2, I s228, I (IntKind.i64.wrap (s228 - 1)), .ptr 1 (Int.toNat (IntKind.i64.wrap (s228 - 1)) * 2), .ptr 1 (Int.toNat (IntKind.i64.wrap (s228 - 1)) * 2), I x306.A, .bool (x296.Bib != x306.A), .bool (x296.Bib != x306.A), .ptr 3 0, I x296.Bib, .osl 1 0 r13.1.length 2, I s228, I (IntKind.i64.wrap (s228 - 1)), .ptr 1 (Int.toNat (IntKind.i64.wrap (s228 - 1)) * 2), .ptr 1 (Int.toNat (IntKind.i64.wrap (s228 - 1)) * 2 + 1), I x308.B] draws Z Z Z ?_ ?_
      ·refine ov (Oq.c ?_ (ov (Oq.c ?_ (Oq.c ?_ (Oq.c ?_ (Oq.c ?_ (Oq.c ?_ (Oq.c ?_ (Oq.c ?_ (Oq.c ?_ (Oq.c ?_ (Oq.c ?_ (Oq.c ?_ (Oq.c ?_ (Oq.c ?_ (Oq.c ?_ (Oq.c ?_ (Oq.c ?_ (Oq.c ?_ (Oq.c ?_ (Oq.n)))))))))))))))))))))
       ·refine Om Z (sD 0 sN) ?_
        exact S Z Wp
       ·refine Om Z (sO 12 (sD 2 sN)) ?_
        exact QM (gT hg305) Qbl Z Wp
       ·refine Om Z (sD 2 (sD 3 sN)) ?_
        exact QR (gT hg305) isAgg3 Z Wp
       ·refine Om Z (sO 7 (sD 2 sN)) ?_
        exact Sg (gT hg305) Z Wp
       ·refine Om Z (sO 9 (sD 2 sN)) ?_
        exact Sg (gT hg305) Z Wp
       ·refine Om Z (sD 2 (sD 6 sN)) ?_
        exact Sg (gT hg305) Z Wp
       ·refine Om Z (sD 2 (sD 5 (sD 7 sN))) ?_
        refine vX (.ptr 1 (Int.toNat (IntKind.i64.wrap (s228 - 1)) * 2)) (QY hx306 Z runUnderlying42 sizeOf59) ?_ (gT hg305)
        exact Wp
       ·refine Om Z (sD 2 (sD 8 sN)) ?_
        exact QM (gT hg305) QcF Z Wp
       ·refine Om Z (sD 2 (sD 9 sN)) ?_
        refine vX (I x306.A) (OpV.load Z isAgg3 Z (QH hx306)) ?_ (gT hg305)
        exact Wp
       ·refine Om Z (sD 2 (sD 4 (sD 10 sN))) ?_
        exact Sg (gT hg305) Z Wp
       ·refine Om Z (sD 2 (sD 11 sN)) ?_
        exact Sg (gT hg305) Z Wp
       ·refine Om Z (sO 12 (sD 12 sN)) ?_
        exact QM (gT hg307) Qbl Z Wp
       ·refine Om Z (sD 12 (sD 13 sN)) ?_
        exact QR (gT hg307) isAgg3 Z Wp
       ·refine Om Z (sO 7 (sD 12 sN)) ?_
        exact Sg (gT hg307) Z Wp
       ·refine Om Z (sO 9 (sD 12 sN)) ?_
        exact Sg (gT hg307) Z Wp
       ·refine Om Z (sD 12 (sD 16 sN)) ?_
        exact Sg (gT hg307) Z Wp
       ·refine Om Z (sD 12 (sD 15 (sD 17 sN))) ?_
        refine vX (.ptr 1 (Int.toNat (IntKind.i64.wrap (s228 - 1)) * 2)) (QY hx308 Z runUnderlying42 sizeOf59) ?_ (gT hg307)
        exact Wp
       ·refine Om Z (sD 12 (sD 18 sN)) ?_
        exact QM (gT hg307) Qd7 Z Wp
       ·refine Om Z (sD 12 (sD 19 sN)) ?_
        refine vX (I x308.B) (OpV.load Z isAgg3 Z (QdO hx308)) ?_ (gT hg307)
        exact Wp
      refine Sg (gT hg307) Z (Pkg (gT hg305) hg307 Z (Pk hg305 Z (U 1 Z (WO.nil ?_))))
      obtain rfl := Oi h304
      exact cutN (Lr [0, 1, 2, 3])
     ·refine TC.draw0 21 [90, 91, 92, 93, 94, 95, 96, 97, 98, 99, 100, 101, 102, 103, 104, 105, 106, 107, 108, 109, 110] [I s228, .bool (s228 == 0), .bool (s228 == 0), .ptr 3 0, I x296.Bib, .osl 1 0 r13.1.length 2, I s228, I (IntKind.i64.wrap (s228 - 1)), .ptr 1 (Int.toNat (IntKind.i64.wrap (s228 - 1)) * 2), .ptr 1 (Int.toNat (IntKind.i64.wrap (s228 - 1)) * 2), I x306.A, .bool (x296.Bib != x306.A), .bool (x296.Bib != x306.A), .tup [], .tup [], .tup [], .tup [], .tup [], .tup [], .tup [], .tup []] draws Z Z Z ?_ ?_
      ·refine ov (Oq.c ?_ (ov (Oq.c ?_ (Oq.c ?_ (Oq.c ?_ (Oq.c ?_ (Oq.c ?_ (Oq.c ?_ (Oq.c ?_ (Oq.c ?_ (Oq.c ?_ (Oq.c ?_ (Oq.c ?_ (Oq.c ?_ (Oq.c ?_ (Oq.c ?_ (Oq.c ?_ (Oq.c ?_ (Oq.c ?_ (Oq.c ?_ (Oq.n)))))))))))))))))))))
       ·refine Om Z (sD 0 sN) ?_
        exact S Z Wp
       ·refine Om Z (sO 12 (sD 2 sN)) ?_
        exact QM (gT hg305) Qbl Z Wp
       ·refine Om Z (sD 2 (sD 3 sN)) ?_
        exact QR (gT hg305) isAgg3 Z Wp
       ·refine Om Z (sO 7 (sD 2 sN)) ?_
        exact Sg (gT hg305) Z Wp
       ·refine Om Z (sO 9 (sD 2 sN)) ?_
        exact Sg (gT hg305) Z Wp
       ·refine Om Z (sD 2 (sD 6 sN)) ?_
        exact Sg (gT hg305) Z Wp
       ·refine Om Z (sD 2 (sD 5 (sD 7 sN))) ?_
        refine vX (.ptr 1 (Int.toNat (IntKind.i64.wrap (s228 - 1)) * 2)) (QY hx306 Z runUnderlying42 sizeOf59) ?_ (gT hg305)
        exact Wp
       ·refine Om Z (sD 2 (sD 8 sN)) ?_
        exact QM (gT hg305) QcF Z Wp
       ·refine Om Z (sD 2 (sD 9 sN)) ?_
        refine vX (I x306.A) (OpV.load Z isAgg3 Z (QH hx306)) ?_ (gT hg305)
        exact Wp
       ·refine Om Z (sD 2 (sD 4 (sD 10 sN))) ?_
        exact Sg (gT hg305) Z Wp
       ·refine Om Z (sD 2 (sD 11 sN)) ?_
        exact Sg (gT hg305) Z Wp
       ·refine Om Z (sO 12 (sD 12 sN)) ?_
        exact K (gF hg307) Z Wp
       ·refine Om Z (sD 12 (sD 13 sN)) ?_
        exact K (gF hg307) Z Wp
       ·refine Om Z (sO 7 (sD 12 sN)) ?_
        exact K (gF hg307) Z Wp
       ·refine Om Z (sO 9 (sD 12 sN)) ?_
        exact K (gF hg307) Z Wp
       ·refine Om Z (sD 12 (sD 16 sN)) ?_
        exact K (gF hg307) Z Wp
       ·refine Om Z (sD 12 (sD 15 (sD 17 sN))) ?_
        exact K (gF hg307) Z Wp
       ·refine Om Z (sD 12 (sD 18 sN)) ?_
        exact K (gF hg307) Z Wp
       ·refine Om Z (sD 12 (sD 19 sN)) ?_
        exact K (gF hg307) Z Wp
      refine KF hg307 Z (Pkg (gT hg305) hg307 Z (Pk hg305 Z (U 1 Z (WO.nil ?_))))
      obtain rfl := Oi h304
      exact cutN (Lr [0, 1, 2, 3])
   refine Qf (TC.le hle (TC.seq (TC.seq (Bd h294 fun b314 h315 h294 => ?_))))
   refine TC.cut ([(5, .osl 0 0 r12.1.length 8), (7, .osl 1 0 r13.1.length 2), (9, I s228), (10, .map 2), (13, I r297.1), (62, I (IntKind.i64.wrap ((r13.1.length : Int) + 1))), (63, I s228), (67, .osl 0 0 r12.1.length 8), (68, I (r12.1.length : Int)), (69, I s292.2), (138, .bool b314)]) ([.row 50 8 (List.map Starter.c r12.1), .row 59 2 (List.map Pair.c r13.1), .map (menc (fun x => A.int .i64 x) A.bool s292.1)]) ?_ (fun env H hle => ?_)
   ·refine TC.region (U 3 Z (If h315 (fun hg316 h315 => ?_) (fun hg316 h315 => ?_)))
    ·refine KF hg316 Z (KF hg316 Z (KF hg316 Z (Pk hg316 Z (U 18 Z (WO.nil ?_)))))
     obtain rfl := Oi h315
     exact cutN (Lr [0, 1, 2])
    ·refine Sg (gT hg316) Z (Sg (gT hg316) Z (Bd h315 fun v317 hv317 h315 => ?_))
     refine vX (.bool v317) (QX (ev := A.bool) (z0 := false) (k := r297.1) (l := s292.1) Qax hv317 underlying57 zeroValue4 ZR.bool) ?_ (gT hg316)
     refine Pk hg316 Z (U 1 Z (If h315 (fun hg318 h315 => ?_) (fun hg318 h315 => ?_)))
     ·refine KF hg318 Z (KF hg318 Z (Pk hg318 Z (U 14 Z (WO.nil ?_))))
      obtain rfl := Oi h315
      exact cutN (Lr [0, 1, 2])
     ·refine Sg (gT hg318) Z (Sg (gT hg318) Z (Pk hg318 Z (U 1 Z (If h315 (fun hg319 h315 => ?_) (fun hg319 h315 => ?_)))))
      ·refine KF hg319 Z (KF hg319 Z (KF hg319 Z (KF hg319 Z (Pk hg319 Z (U 8 Z (WO.nil ?_))))))
       obtain rfl := Oi h315
       exact cutN (Lr [0, 1, 2])
      ·refine Sg (gT hg319) Z (QM (gT hg319) Qbl Z (QR (gT hg319) isAgg3 Z (Sg (gT hg319) Z (Pk hg319 Z (U 1 Z (If h315 (fun hg320 h315 => ?_) (fun hg320 h315 => ?_)))))))
       ·refine KF hg320 Z (KF hg320 Z (KF hg320 Z (KF hg320 Z (KF hg320 Z (KF hg320 Z (Pk hg320 Z (WO.nil ?_)))))))
        obtain rfl := Oi h315
        exact cutN (Lr [0, 1, 2])
       ·refine Sg (gT hg320) Z (Sg (gT hg320) Z (QM (gT hg320) Qd8 Z (QR (gT hg320) isAgg3 Z (Sg (gT hg320) Z ?_))))
        refine vX (.bool (b303 != (r297.1 == x296.Chip))) (QbD runUnderlying4) ?_ (gT hg320)
        refine Pk hg320 Z (WO.nil ?_)
        obtain rfl := Oi h315
        exact cutN (Lr [0, 1, 2])
   refine Qf (TC.le hle (Cn Z h294 (fun hc321 h294 => ?_) (fun hc321 h294 => ?_)))
   ·refine Rg (U 1 Z (Nx (RtR (Qj (Qi (QJ h294 ?_))))))
    obtain rfl := hb291 _ (Oi h294).symm
    refine Qj (QC (Qi (Qj (Qi (QJ h230 ?_)))))
    obtain rfl := hb227 _ (Oi h230).symm
    refine Qj (QC (Qi ?_))
    obtain rfl := Oi h
    refine ⟨[(4, _)], _, _, ?_, ResOK.one Z Z, Z, Z⟩
    exact Lr []
   refine QP (TC.region (U 2 Z (Bd h294 fun m322 hm322 h294 => ?_)))
   refine vU (Q3 (ev := A.bool) (k := r297.1) (v := true) (l := s292.1) Qax hm322 Z underlying57) ?_
   refine Ql (H := [_, _, .map (menc (fun x => A.int .i64 x) A.bool m322)]) Z ?_
   exact WO.nil (QB (Qf (TC.region (U 2 Z (WO.nil (Qp h294 (Lr [0, 1, 2])))))))
  subst hbe
  refine Qf (TC.le hle (Rg (U 3 Z (Nx (Bd h230 fun b332 h333 h230 => ?_)))))
  refine Qn (b := b332) (fun sb332 => [(5, .osl 0 0 r12.1.length 8), (7, .osl 1 0 r13.1.length 2), (62, I (IntKind.i64.wrap ((r13.1.length : Int) + 1))), (63, I s228)]) (fun sb332 => [.row 50 8 (List.map Starter.c r12.1), .row 59 2 (List.map Pair.c r13.1)]) ?_ (fun sb332 env H hbe hle => ?_)
  ·refine TC.block ?_
   refine TC.loop (E := fun s335 => [(5, .osl 0 0 r12.1.length 8), (7, .osl 1 0 r13.1.length 2), (10, .map 2), (62, I (IntKind.i64.wrap ((r13.1.length : Int) + 1))), (63, I s228), (142, .osl 0 0 r12.1.length 8), (143, I (r12.1.length : Int)), (144, I s335)]) (Hp := fun s335 => [.row 50 8 (List.map Starter.c r12.1), .row 59 2 (List.map Pair.c r13.1), .map (menc (fun x => A.int .i64 x) A.bool sb289)]) h333 ?_ ?_
   ·exact Lr [0, 1, 2]
   intro s335 d336 h337 hb334
   refine Rg (U 1 Z (Nx (TC.seq (YK Z h337 (fun hc338 h337 => ?_) (fun hc338 h337 => ?_)))))
   ·refine YJ (Qv h337 ?_)
    obtain rfl := hb334 _ (Oi h337).symm
    exact QL (Qt Z (Lr [0, 1]))
   refine QP (TC.seq (TC.block (Rg (Bd h337 fun x339 hx339 h337 => ?_))))
   refine vX (.ptr 0 (Int.toNat s335 * 8)) (QY hx339 Z runUnderlying38 sizeOf50) ?_
   refine vX (.agg (Starter.c x339)) (Qy Z isAgg50 sizeOf50 Z (QH hx339) Z Z) ?_
   refine U 2 Z (Nx (Rg (U 3 Z (Bd h337 fun v340 hv340 h337 => ?_))))
   refine vX (.bool v340) (QX (ev := A.bool) (z0 := false) (k := x339.Chip) (l := sb289) Qax hv340 underlying57 zeroValue4 ZR.bool) ?_
   refine U 1 Z (Nx (Cn Z h337 (fun hc341 h337 => ?_) (fun hc341 h337 => ?_)))
   ·refine Rg (U 1 Z (Nx (TC.ret (Qj (Qi (QJ h337 ?_))))))
    obtain rfl := hb334 _ (Oi h337).symm
    refine Qj (QC (Qj (Qi (QJ h230 ?_))))
    obtain rfl := hb227 _ (Oi h230).symm
    refine Qj (QC (Qi ?_))
    obtain rfl := Oi h
    refine ⟨[(4, _)], _, _, ?_, ResOK.one Z Z, Z, Z⟩
    exact Lr []
   exact TC.skip (QB (Qf (TC.region (U 2 Z (WO.nil (Qp h337 (Lr [0, 1, 2])))))))
  subst hbe
  exact QB (Qf (TC.le hle (TC.region (U 2 Z (WO.nil (Qp h230 (Lr [0, 1])))))))
 subst hbe
 refine Qf (TC.le hle (Rg (U 1 Z (Nx (TC.ret ?_)))))
 obtain rfl := Oi h
 refine ⟨[(4, _)], _, _, ?_, ResOK.one Z Z, Z, Z⟩
 exact Lr []
end Go.Sw
