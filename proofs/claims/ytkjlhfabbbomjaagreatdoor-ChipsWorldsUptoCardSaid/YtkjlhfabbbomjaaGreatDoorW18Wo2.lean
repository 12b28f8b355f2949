/- What the functions compute that ChipsWorlds reaches, and that their calls refine it (part 2 of 4). -/
import Derived.Test.YtkjlhfabbbomjaaGreatDoorW18Wo1
set_option linter.unusedVariables false
set_option linter.unusedSimpArgs false
set_option maxRecDepth 100000
set_option maxHeartbeats 4000000
namespace Go.Sw
open Go.Proofs Tryz
def F_gc (n : Nat) (a1 : List Cond) (s11 : (List typing_form) × Int) : Option (Ctl ((List typing_form) × Int) (List typing_form)) :=
  (bif decide (s11.2 < (a1.length : Int)) then (idx a1 s11.2).bind fun x15 => (app s11.1 [typing_form.ctyping_cond ({ Cond := x15 : typing_cond })]).bind fun l16 => some (.cont (l16, IntKind.i64.wrap (s11.2 + 1))) else some (.done s11.1))
def F_aw (n : Nat) (a1 : List Cond) : Option (List typing_form) :=
  (iter (F_gc n a1) n ([], 0) : Option (List typing_form)).bind fun b8 => some b8
theorem k_aw (n : Nat) (a1 : List Cond) (r : List typing_form) (h : F_aw n a1 = some r) :
    C prog 250 [.rsl 4 (List.map Cond.enc a1)] [] (fun a H => a = .osl 0 0 r.length 1 ∧ H = [.row 260 1 (List.map typing_form.enc r)]) := by
 refine Qd func250 Z Z Z ?_
 refine Rg (U 1 Z (Nx (TC.seq (Rg (U 1 Z (YI runUnderlying128 Z (U 1 Z (Nx (Bd h fun b8 h9 h => ?_)))))))))
 refine TC.cut ([(2, .osl 0 0 b8.length 1)]) ([.row 260 1 (List.map typing_form.enc b8)]) ?_ (fun env H hle => ?_)
 ·refine TC.block ?_
  refine TC.loop (E := fun s11 => [(2, .osl 0 0 s11.1.length 1), (5, .rsl 4 (List.map Cond.enc a1)), (6, I (a1.length : Int)), (7, I s11.2)]) (Hp := fun s11 => [.row 260 1 (List.map typing_form.enc s11.1)]) h9 ?_ ?_
  ·refine Le.trans (Le.phantom (s := 2) (k := 1) (t := 260) (Nat.le_of_ble_eq_true Z) Z) ?_
   exact Lr [0]
  intro s11 d12 h13 hb10
  refine Rg (U 1 Z (Nx (TC.seq (YK Z h13 (fun hc14 h13 => ?_) (fun hc14 h13 => ?_)))))
  ·refine YJ (Qv h13 ?_)
   obtain rfl := hb10 _ (Oi h13).symm
   exact QL (cutN (Lr [0]))
  refine QP (TC.seq (TC.block (Rg (Bd h13 fun x15 hx15 h13 => ?_))))
  refine vX (.rp [I x15.Kind, I x15.Var, I x15.N, .rsl 4 (List.map Cond.enc x15.Parts)]) (Q8 (e := Cond.enc) hx15 (Qan x15) runUnderlying128 sizeOf130) ?_
  refine U 3 Z (Nx (TC.region (U 3 Z ?_)))
  refine vX (.iface 298 (.agg (typing_cond.c ({ Cond := x15 : typing_cond })))) (Qak Z runUnderlying298 (by intro m; nofun) Z) ?_
  refine vH (OpH.lit (xs := [.tmp 14]) (es := List.map typing_form.enc [typing_form.ctyping_cond ({ Cond := x15 : typing_cond })]) Qbz Z Z Z Z Z ⟨Z, trivial⟩ Z Z) ?_
  refine aV (.osl 2 0 ([typing_form.ctyping_cond ({ Cond := x15 : typing_cond })].length) 1) [_, _, .row 260 1 (List.map typing_form.enc [typing_form.ctyping_cond ({ Cond := x15 : typing_cond })])] Z Z ?_
  refine Bd h13 fun l16 hl16 h13 => ?_
  refine vH (Ya (e := typing_form.enc) hl16 Qbz runUnderlying221 (Qaz (i := 2))) ?_
  refine aV (.osl 3 0 l16.length 1) [.dead, _, _, .row 260 1 (List.map typing_form.enc l16)] Z Z ?_
  exact U 1 Z (WO.nil (QB (Qf (TC.region (U 2 Z (WO.nil (Qp h13 (Lr [3]))))))))
 refine Qf (TC.le hle (Rg (U 2 Z (Nx (TC.ret ?_)))))
 obtain rfl := Oi h
 refine ⟨[(2, _)], _, _, ?_, ResOK.one Z Z, Z, Z⟩
 exact Lr [0]
def F_o (n : Nat) (a1 : typing_cond) : Option (List typing_form) :=
  (F_aw n a1.Cond.Parts).bind fun r1 => some r1
theorem k_o (n : Nat) (a1 : typing_cond) (r : List typing_form) (h : F_o n a1 = some r) :
    C prog 239 [.agg (typing_cond.c ({ Cond := a1.Cond : typing_cond }))] [] (fun a H => a = .osl 0 0 r.length 1 ∧ H = [.row 260 1 (List.map typing_form.enc r)]) := by
 refine Qd func239 Z Z Z ?_
 refine Rg (U 2 Z (Nx (Rg (U 3 Z (Bd h fun r1 hr1 h => ?_)))))
 refine Qc [] (OpC.fn call250 Z Z Z) (k_aw _ _ _ hr1) ?_
 rintro _ _ ⟨rfl, rfl⟩
 refine aV (.osl 1 0 r1.length 1) [_, .row 260 1 (List.map typing_form.enc r1)] Z Z ?_
 refine U 1 Z (Nx (TC.ret ?_))
 obtain rfl := Oi h
 refine ⟨[(2, _)], _, _, ?_, ResOK.one Z Z, Z, Z⟩
 exact Lr [1]
def F_do (n : Nat) (a1 : List typing_form) (a2 : Int) (rec91 : (List typing_form) → Int → typing_count → Option (typing_count × Bool)) (s84 : typing_count × Int) : Option (Ctl (typing_count × Int) (Ctl typing_count (typing_count × Bool))) :=
  (bif decide (s84.2 < (a1.length : Int)) then (idx a1 s84.2).bind fun x88 => typing_form.elim x88 (fun x89 => ((F_x n ({ Cond := x89.Step.Cond : typing_cond })).bind fun r98 => (bif (!r98) then (rec91 [typing_form.ctyping_cond ({ Cond := x89.Step.Cond : typing_cond })] 0 ({ steps := IntKind.i64.wrap (s84.1.steps + 1), conds := s84.1.conds : typing_count })).bind fun r100 => some (r100.1, (!r100.2)) else some ({ steps := IntKind.i64.wrap (s84.1.steps + 1), conds := s84.1.conds : typing_count }, false)) : Option (typing_count × Bool)).bind fun b96 => (bif b96.2 then some (.done (.done (b96.1, false))) else ((bif decide (64 < b96.1.steps) then some (b96.1, true) else (bif decide (256 < b96.1.conds) then some (b96.1, true) else (F_p n x89).bind fun r110 => (rec91 r110 (IntKind.i64.wrap (a2 + 1)) b96.1).bind fun r111 => some (r111.1, (!r111.2)))) : Option (typing_count × Bool)).bind fun b106 => (bif b106.2 then some (.done (.done (b106.1, false))) else some (.cont (b106.1, IntKind.i64.wrap (s84.2 + 1)))))) (fun x91 => ((bif decide (64 < s84.1.steps) then some ({ steps := s84.1.steps, conds := IntKind.i64.wrap (s84.1.conds + 1) : typing_count }, true) else (bif decide (256 < (IntKind.i64.wrap (s84.1.conds + 1))) then some ({ steps := s84.1.steps, conds := IntKind.i64.wrap (s84.1.conds + 1) : typing_count }, true) else (F_o n ({ Cond := x91.Cond : typing_cond })).bind fun r121 => (rec91 r121 (IntKind.i64.wrap (a2 + 1)) ({ steps := s84.1.steps, conds := IntKind.i64.wrap (s84.1.conds + 1) : typing_count })).bind fun r122 => some (r122.1, (!r122.2)))) : Option (typing_count × Bool)).bind fun b117 => (bif b117.2 then some (.done (.done (b117.1, false))) else some (.cont (b117.1, IntKind.i64.wrap (s84.2 + 1))))) else some (.done (.cont s84.1)))
def B_d (rec91 : (List typing_form) → Int → typing_count → Option (typing_count × Bool)) (n : Nat) (a1 : List typing_form) (a2 : Int) (a3 : typing_count) : Option (typing_count × Bool) :=
  ((bif decide (0 < (a1.length : Int)) then some (decide (16 < a2)) else some false) : Option Bool).bind fun b2 => (bif b2 then some (a3, false) else (iter (F_do n a1 a2 rec91) n (a3, 0) : Option (Ctl typing_count (typing_count × Bool))).bind fun b81 => match b81 with | .cont sb81 => (some (sb81, true)) | .done sb81 => some sb81)
theorem Qar (rec91 : (List typing_form) → Int → typing_count → Option (typing_count × Bool)) (hrec91 : ∀ (a1 : List typing_form) (a2 : Int) (a3 : typing_count) (r : typing_count × Bool), rec91 a1 a2 a3 = some r → C prog 170 [.ptr 0 0, .osl 1 0 a1.length 1, I a2] [.cells 256 (typing_count.c a3), .row 260 1 (List.map typing_form.enc a1)] (fun a H => a = .bool r.2 ∧ H = [.cells 256 (typing_count.c r.1), .row 260 1 (List.map typing_form.enc a1)])) (n : Nat) (a1 : List typing_form) (a2 : Int) (a3 : typing_count) (r : typing_count × Bool) (h : B_d rec91 n a1 a2 a3 = some r) :
    C prog 170 [.ptr 0 0, .osl 1 0 a1.length 1, I a2] [.cells 256 (typing_count.c a3), .row 260 1 (List.map typing_form.enc a1)] (fun a H => a = .bool r.2 ∧ H = [.cells 256 (typing_count.c r.1), .row 260 1 (List.map typing_form.enc a1)]) := by
 refine Qd func170 Z Z Z ?_
 refine Rg (U 1 Z (Nx (TC.seq (TC.seq (Bd h fun b2 h3 h => ?_)))))
 refine TC.cut ([(0, .ptr 0 0), (1, .osl 1 0 a1.length 1), (2, I a2), (18, .bool b2)]) ([.cells 256 (typing_count.c a3), .row 260 1 (List.map typing_form.enc a1)]) ?_ (fun env H hle => ?_)
 ·refine TC.region (U 4 Z (If h3 (fun hg4 h3 => ?_) (fun hg4 h3 => ?_)))
  ·refine Sg (gT hg4) Z (Sg (gT hg4) Z (Pk hg4 Z (WO.nil ?_)))
   obtain rfl := Oi h3
   exact cutN (Lr [0, 1])
  ·refine KF hg4 Z (KF hg4 Z (Pk hg4 Z (WO.nil ?_)))
   obtain rfl := Oi h3
   exact cutN (Lr [0, 1])
 refine Qf (TC.le hle (Cn Z h (fun hc5 h => ?_) (fun hc5 h => ?_)))
 ·refine Rg (U 1 Z (Nx (RtR ?_)))
  obtain rfl := Oi h
  refine ⟨[(6, _)], _, _, ?_, ResOK.one Z Z, Z, Z⟩
  exact Lr [0, 1]
 refine QP (TC.seq (Rg (U 3 Z (Nx (Bd h fun b81 h82 h => ?_)))))
 refine Qn (b := b81) (fun sb81 => []) (fun sb81 => [.cells 256 (typing_count.c sb81), .row 260 1 (List.map typing_form.enc a1)]) ?_ (fun sb81 env H hbe hle => ?_)
 ·refine TC.block ?_
  refine TC.loop (E := fun s84 => [(0, .ptr 0 0), (2, I a2), (19, .osl 1 0 a1.length 1), (20, I (a1.length : Int)), (21, I s84.2)]) (Hp := fun s84 => [.cells 256 (typing_count.c s84.1), .row 260 1 (List.map typing_form.enc a1)]) h82 ?_ ?_
  ·exact Lr [0, 1]
  intro s84 d85 h86 hb83
  refine Rg (U 1 Z (Nx (TC.seq (YK Z h86 (fun hc87 h86 => ?_) (fun hc87 h86 => ?_)))))
  ·refine YJ (Qv h86 ?_)
   obtain rfl := hb83 _ (Oi h86).symm
   exact QL (Qt Z (Lr [0, 1]))
  refine QP (TC.seq (TC.block (Rg (Bd h86 fun x88 hx88 h86 => ?_))))
  refine vX (.ptr 1 (Int.toNat s84.2 * 1)) (QY hx88 Z runUnderlying221 sizeOf260) ?_
  refine vX (typing_form.val x88) (OpV.load Z isAgg260 Z (QH hx88)) ?_
  refine U 1 Z (Nx (TC.seq (Rg (U 1 Z (Nx (TC.block (Rg ?_)))))))
  rcases YL x88 with ⟨x89, hE90⟩ | ⟨x91, hE92⟩
  ·have h86 := Yy hE90 h86
   refine WO.le (QZ (s := 8) (a' := .iface 263 (.agg (typing_step.c x89))) Z (congrArg typing_form.val hE90)) ?_
   refine WO.le (QZ (s := 24) (a' := .iface 263 (.agg (typing_step.c x89))) Z (congrArg typing_form.val hE90)) ?_
   refine WO.le (QZ (s := 25) (a' := .iface 263 (.agg (typing_step.c x89))) Z (congrArg typing_form.val hE90)) ?_
   refine vX (.tup [.agg [I 0, I 0, I 0, .rsl 4 (List.map Cond.enc [])], .bool false]) (Qeh (z := (.agg [I 0, I 0, I 0, .rsl 4 (List.map Cond.enc [])])) runUnderlying298 (by intro m; nofun) Z zeroValue298 (zrC Z)) ?_
   refine U 2 Z (Nx (CnF Z Z (Rg ?_)))
   refine vX (.tup [.agg (typing_step.c x89), .bool true]) (Qa2 runUnderlying263 (by intro m; nofun)) ?_
   refine U 2 Z (Nx (CnT Z Z (Rg (U 2 Z (Nx (Rg (U 8 Z (Nx (Rg (U 6 Z (Nx (TC.seq (Bd h86 fun b96 h97 h86 => ?_)))))))))))))
   refine TC.cut ([(0, .ptr 0 0), (2, I a2), (8, .iface 263 (.agg (typing_step.c x89))), (19, .osl 1 0 a1.length 1), (20, I (a1.length : Int)), (21, I s84.2), (60, .bool b96.2)]) ([.cells 256 (typing_count.c b96.1), .row 260 1 (List.map typing_form.enc a1)]) ?_ (fun env H hle => ?_)
   ·refine TC.region (U 1 Z (Bd h97 fun r98 hr98 h97 => ?_))
    refine Qc [] (OpC.fn call217 Z Z Z) (k_x _ _ _ hr98) ?_
    rintro _ _ ⟨rfl, rfl⟩
    refine aV (.bool r98) [_, _, _, _] Z Z ?_
    refine U 2 Z (If h97 (fun hg99 h97 => ?_) (fun hg99 h97 => ?_))
    ·refine Sg (gT hg99) Z ?_
     refine vX (.agg (typing_cond.c ({ Cond := x89.Step.Cond : typing_cond }))) (Qy Z isAgg298 sizeOf298 Z (Pts.cells Z Z) Z Z) ?_ (gT hg99)
     refine vX (.iface 298 (.agg (typing_cond.c ({ Cond := x89.Step.Cond : typing_cond })))) (Qak Z runUnderlying298 (by intro m; nofun) Z) ?_ (gT hg99)
     refine vH (OpH.lit (xs := [.tmp 56]) (es := List.map typing_form.enc [typing_form.ctyping_cond ({ Cond := x89.Step.Cond : typing_cond })]) Qbz Z Z Z Z Z ⟨Z, trivial⟩ Z Z) ?_ (gT hg99)
     refine aV (.osl 4 0 ([typing_form.ctyping_cond ({ Cond := x89.Step.Cond : typing_cond })].length) 1) [_, _, _, _, .row 260 1 (List.map typing_form.enc [typing_form.ctyping_cond ({ Cond := x89.Step.Cond : typing_cond })])] Z Z ?_
     refine Bd h97 fun r100 hr100 h97 => ?_
     refine Qc [0, 4] (OpC.fn call170 Z Z Z) (hrec91 _ _ _ _ hr100) ?_ (hg := (gT hg99))
     rintro _ _ ⟨rfl, rfl⟩
     refine aV (.bool r100.2) [.cells 256 (typing_count.c r100.1), _, _, _, _] Z Z ?_
     refine Sg (gT hg99) Z (Pk hg99 Z (WO.nil ?_))
     obtain rfl := Oi h97
     exact cutN (Lr [0, 1])
    ·refine KF hg99 Z (KF hg99 Z (KF hg99 Z (KF hg99 Z (KF hg99 Z (KF hg99 Z (Pk hg99 Z (WO.nil ?_)))))))
     obtain rfl := Oi h97
     exact cutN (Lr [0, 1])
   refine Qf (TC.le hle (Cn Z h86 (fun hc101 h86 => ?_) (fun hc101 h86 => ?_)))
   ·refine Rg (U 1 Z (Nx (TC.ret (Qj (Qi (Qj (Qi (QJ h86 ?_))))))))
    obtain rfl := hb83 _ (Oi h86).symm
    refine Qj (QC (Qi ?_))
    obtain rfl := Oi h
    refine ⟨[(6, _)], _, _, ?_, ResOK.one Z Z, Z, Z⟩
    exact Lr [0, 1]
   refine TC.skip (QB (Qf (TC.seq (Bd h86 fun b106 h107 h86 => ?_))))
   refine TC.cut ([(0, .ptr 0 0), (2, I a2), (19, .osl 1 0 a1.length 1), (20, I (a1.length : Int)), (21, I s84.2), (81, .bool b106.2)]) ([.cells 256 (typing_count.c b106.1), .row 260 1 (List.map typing_form.enc a1)]) ?_ (fun env H hle => ?_)
   ·refine TC.region (U 6 Z (If h107 (fun hg108 h107 => ?_) (fun hg108 h107 => ?_)))
    ·refine KF hg108 Z (KF hg108 Z (KF hg108 Z (KF hg108 Z (KF hg108 Z (Pk hg108 Z (U 9 Z (WO.nil ?_)))))))
     obtain rfl := Oi h107
     exact cutN (Lr [0, 1])
    ·refine Sg (gT hg108) Z (Sg (gT hg108) Z (QM (gT hg108) Qa8 Z (QR (gT hg108) isAgg3 Z (Sg (gT hg108) Z (Pk hg108 Z (U 1 Z (If h107 (fun hg109 h107 => ?_) (fun hg109 h107 => ?_))))))))
     ·refine KF hg109 Z (KF hg109 Z (KF hg109 Z (KF hg109 Z (KF hg109 Z (KF hg109 Z (KF hg109 Z (Pk hg109 Z (WO.nil ?_))))))))
      obtain rfl := Oi h107
      exact cutN (Lr [0, 1])
     ·refine Sg (gT hg109) Z (Sg (gT hg109) Z (Bd h107 fun r110 hr110 h107 => ?_))
      refine Qc [] (QcJ call240 Z Z Z Z (fun _ _ => by kernel_rfl)) (k_p _ _ _ hr110) ?_ (hg := (gT hg109))
      rintro _ _ ⟨rfl, rfl⟩
      refine aV (.osl 2 0 r110.length 1) [_, _, .row 260 1 (List.map typing_form.enc r110)] Z Z ?_
      refine Sg (gT hg109) Z (Sg (gT hg109) Z (Bd h107 fun r111 hr111 h107 => ?_))
      refine Qc [0, 2] (OpC.fn call170 Z Z Z) (hrec91 _ _ _ _ hr111) ?_ (hg := (gT hg109))
      rintro _ _ ⟨rfl, rfl⟩
      refine aV (.bool r111.2) [.cells 256 (typing_count.c r111.1), _, _] Z Z ?_
      refine Sg (gT hg109) Z (Pk hg109 Z (WO.nil ?_))
      obtain rfl := Oi h107
      exact cutN (Lr [0, 1])
   refine Qf (TC.le hle (Cn Z h86 (fun hc112 h86 => ?_) (fun hc112 h86 => ?_)))
   ·refine Rg (U 1 Z (Nx (TC.ret (Qj (Qi (QJ h86 ?_))))))
    obtain rfl := hb83 _ (Oi h86).symm
    refine Qj (QC (Qi ?_))
    obtain rfl := Oi h
    refine ⟨[(6, _)], _, _, ?_, ResOK.one Z Z, Z, Z⟩
    exact Lr [0, 1]
   exact TC.skip (QB (Qf (TC.region (U 2 Z (WO.nil (Qp h86 (Lr [0, 1])))))))
  ·have h86 := Yx hE92 h86
   refine WO.le (QZ (s := 8) (a' := .iface 298 (.agg (typing_cond.c ({ Cond := x91.Cond : typing_cond })))) Z (congrArg typing_form.val hE92)) ?_
   refine WO.le (QZ (s := 24) (a' := .iface 298 (.agg (typing_cond.c ({ Cond := x91.Cond : typing_cond })))) Z (congrArg typing_form.val hE92)) ?_
   refine WO.le (QZ (s := 25) (a' := .iface 298 (.agg (typing_cond.c ({ Cond := x91.Cond : typing_cond })))) Z (congrArg typing_form.val hE92)) ?_
   refine vX (.tup [.agg (typing_cond.c ({ Cond := x91.Cond : typing_cond })), .bool true]) (Qa2 runUnderlying298 (by intro m; nofun)) ?_
   refine U 2 Z (Nx (CnT Z Z (Rg (U 2 Z (Nx (TC.region (U 8 Z (WO.nil (QB (Qf (TC.seq (Bd h86 fun b117 h118 h86 => ?_))))))))))))
   refine TC.cut ([(0, .ptr 0 0), (2, I a2), (19, .osl 1 0 a1.length 1), (20, I (a1.length : Int)), (21, I s84.2), (81, .bool b117.2)]) ([.cells 256 (typing_count.c b117.1), .row 260 1 (List.map typing_form.enc a1)]) ?_ (fun env H hle => ?_)
   ·refine TC.region (U 6 Z (If h118 (fun hg119 h118 => ?_) (fun hg119 h118 => ?_)))
    ·refine KF hg119 Z (KF hg119 Z (KF hg119 Z (KF hg119 Z (KF hg119 Z (Pk hg119 Z (U 9 Z (WO.nil ?_)))))))
     obtain rfl := Oi h118
     exact cutN (Lr [0, 1])
    ·refine Sg (gT hg119) Z (Sg (gT hg119) Z (QM (gT hg119) Qa8 Z (QR (gT hg119) isAgg3 Z (Sg (gT hg119) Z (Pk hg119 Z (U 1 Z (If h118 (fun hg120 h118 => ?_) (fun hg120 h118 => ?_))))))))
     ·refine KF hg120 Z (KF hg120 Z (KF hg120 Z (KF hg120 Z (KF hg120 Z (KF hg120 Z (KF hg120 Z (Pk hg120 Z (WO.nil ?_))))))))
      obtain rfl := Oi h118
      exact cutN (Lr [0, 1])
     ·refine Sg (gT hg120) Z (Sg (gT hg120) Z (Bd h118 fun r121 hr121 h118 => ?_))
      refine Qc [] (QcJ call239 Z Z Z Z (fun _ _ => by kernel_rfl)) (k_o _ _ _ hr121) ?_ (hg := (gT hg120))
      rintro _ _ ⟨rfl, rfl⟩
      refine aV (.osl 3 0 r121.length 1) [_, _, _, .row 260 1 (List.map typing_form.enc r121)] Z Z ?_
      refine Sg (gT hg120) Z (Sg (gT hg120) Z (Bd h118 fun r122 hr122 h118 => ?_))
      refine Qc [0, 3] (OpC.fn call170 Z Z Z) (hrec91 _ _ _ _ hr122) ?_ (hg := (gT hg120))
      rintro _ _ ⟨rfl, rfl⟩
      refine aV (.bool r122.2) [.cells 256 (typing_count.c r122.1), _, _, _] Z Z ?_
      refine Sg (gT hg120) Z (Pk hg120 Z (WO.nil ?_))
      obtain rfl := Oi h118
      exact cutN (Lr [0, 1])
   refine Qf (TC.le hle (Cn Z h86 (fun hc123 h86 => ?_) (fun hc123 h86 => ?_)))
   ·refine Rg (U 1 Z (Nx (TC.ret (Qj (Qi (QJ h86 ?_))))))
    obtain rfl := hb83 _ (Oi h86).symm
    refine Qj (QC (Qi ?_))
    obtain rfl := Oi h
    refine ⟨[(6, _)], _, _, ?_, ResOK.one Z Z, Z, Z⟩
    exact Lr [0, 1]
   exact TC.skip (QB (Qf (TC.region (U 2 Z (WO.nil (Qp h86 (Lr [0, 1])))))))
 subst hbe
 refine Qf (TC.le hle (Rg (U 1 Z (Nx (TC.ret ?_)))))
 obtain rfl := Oi h
 refine ⟨[(6, _)], _, _, ?_, ResOK.one Z Z, Z, Z⟩
 exact Lr [0, 1]
def F_d : Nat → (List typing_form) → Int → typing_count → Option (typing_count × Bool)
  | 0 => fun _ _ _ => none
  | n + 1 => B_d (F_d n) n
theorem k_d (n : Nat) : ∀ (a1 : List typing_form) (a2 : Int) (a3 : typing_count) (r : typing_count × Bool), F_d n a1 a2 a3 = some r → C prog 170 [.ptr 0 0, .osl 1 0 a1.length 1, I a2] [.cells 256 (typing_count.c a3), .row 260 1 (List.map typing_form.enc a1)] (fun a H => a = .bool r.2 ∧ H = [.cells 256 (typing_count.c r.1), .row 260 1 (List.map typing_form.enc a1)]) := by
  induction n with
  | zero => intro a1 a2 a3 r h; cases h
  | succ n ih => intro a1 a2 a3 r h; exact Qar _ ih n a1 a2 a3 r h
def F_gi (n : Nat) (a1 : List typing_form) (a2 : Int) (s84 : typing_count × Int) : Option (Ctl (typing_count × Int) (Ctl typing_count (typing_count × Bool))) :=
  (bif decide (s84.2 < (a1.length : Int)) then (idx a1 s84.2).bind fun x88 => typing_form.elim x88 (fun x89 => ((F_x n ({ Cond := x89.Step.Cond : typing_cond })).bind fun r98 => (bif (!r98) then (F_d n [typing_form.ctyping_cond ({ Cond := x89.Step.Cond : typing_cond })] 0 ({ steps := IntKind.i64.wrap (s84.1.steps + 1), conds := s84.1.conds : typing_count })).bind fun r100 => some (r100.1, (!r100.2)) else some ({ steps := IntKind.i64.wrap (s84.1.steps + 1), conds := s84.1.conds : typing_count }, false)) : Option (typing_count × Bool)).bind fun b96 => (bif b96.2 then some (.done (.done (b96.1, false))) else ((bif decide (64 < b96.1.steps) then some (b96.1, true) else (bif decide (256 < b96.1.conds) then some (b96.1, true) else (F_p n x89).bind fun r110 => (F_d n r110 (IntKind.i64.wrap (a2 + 1)) b96.1).bind fun r111 => some (r111.1, (!r111.2)))) : Option (typing_count × Bool)).bind fun b106 => (bif b106.2 then some (.done (.done (b106.1, false))) else some (.cont (b106.1, IntKind.i64.wrap (s84.2 + 1)))))) (fun x91 => ((bif decide (64 < s84.1.steps) then some ({ steps := s84.1.steps, conds := IntKind.i64.wrap (s84.1.conds + 1) : typing_count }, true) else (bif decide (256 < (IntKind.i64.wrap (s84.1.conds + 1))) then some ({ steps := s84.1.steps, conds := IntKind.i64.wrap (s84.1.conds + 1) : typing_count }, true) else (F_o n ({ Cond := x91.Cond : typing_cond })).bind fun r121 => (F_d n r121 (IntKind.i64.wrap (a2 + 1)) ({ steps := s84.1.steps, conds := IntKind.i64.wrap (s84.1.conds + 1) : typing_count })).bind fun r122 => some (r122.1, (!r122.2)))) : Option (typing_count × Bool)).bind fun b117 => (bif b117.2 then some (.done (.done (b117.1, false))) else some (.cont (b117.1, IntKind.i64.wrap (s84.2 + 1))))) else some (.done (.cont s84.1)))
def F_eq (n : Nat) (a1 : List typing_form) (a2 : Int) (a3 : typing_count) : Option (typing_count × Bool) :=
  ((bif decide (0 < (a1.length : Int)) then some (decide (16 < a2)) else some false) : Option Bool).bind fun b2 => (bif b2 then some (a3, false) else (iter (F_gi n a1 a2) n (a3, 0) : Option (Ctl typing_count (typing_count × Bool))).bind fun b81 => match b81 with | .cont sb81 => (some (sb81, true)) | .done sb81 => some sb81)
theorem k_eq (n : Nat) (a1 : List typing_form) (a2 : Int) (a3 : typing_count) (r : typing_count × Bool) (h : F_eq n a1 a2 a3 = some r) :
    C prog 170 [.ptr 0 0, .rsl 1 (List.map typing_form.enc a1), I a2] [.cells 256 (typing_count.c a3)] (fun a H => a = .bool r.2 ∧ H = [.cells 256 (typing_count.c r.1)]) := by
 refine Qd func170 Z Z Z ?_
 refine Rg (U 1 Z (Nx (TC.seq (TC.seq (Bd h fun b2 h3 h => ?_)))))
 refine TC.cut ([(0, .ptr 0 0), (1, .rsl 1 (List.map typing_form.enc a1)), (2, I a2), (18, .bool b2)]) ([.cells 256 (typing_count.c a3)]) ?_ (fun env H hle => ?_)
 ·refine TC.region (U 1 Z (YI runUnderlying221 Z (U 2 Z (If h3 (fun hg4 h3 => ?_) (fun hg4 h3 => ?_)))))
  ·refine Sg (gT hg4) Z (Sg (gT hg4) Z (Pk hg4 Z (WO.nil ?_)))
   obtain rfl := Oi h3
   exact cutN (Lr [0])
  ·refine KF hg4 Z (KF hg4 Z (Pk hg4 Z (WO.nil ?_)))
   obtain rfl := Oi h3
   exact cutN (Lr [0])
 refine Qf (TC.le hle (Cn Z h (fun hc5 h => ?_) (fun hc5 h => ?_)))
 ·refine Rg (U 1 Z (Nx (RtR ?_)))
  obtain rfl := Oi h
  refine ⟨[(6, _)], _, _, ?_, ResOK.one Z Z, Z, Z⟩
  exact Lr [0]
 refine QP (TC.seq (Rg (U 1 Z (YI runUnderlying221 Z (U 1 Z (Nx (Bd h fun b81 h82 h => ?_)))))))
 refine Qn (b := b81) (fun sb81 => []) (fun sb81 => [.cells 256 (typing_count.c sb81)]) ?_ (fun sb81 env H hbe hle => ?_)
 ·refine TC.block ?_
  refine TC.loop (E := fun s84 => [(0, .ptr 0 0), (2, I a2), (19, .rsl 1 (List.map typing_form.enc a1)), (20, I (a1.length : Int)), (21, I s84.2)]) (Hp := fun s84 => [.cells 256 (typing_count.c s84.1)]) h82 ?_ ?_
  ·exact Lr [0]
  intro s84 d85 h86 hb83
  refine Rg (U 1 Z (Nx (TC.seq (YK Z h86 (fun hc87 h86 => ?_) (fun hc87 h86 => ?_)))))
  ·refine YJ (Qv h86 ?_)
   obtain rfl := hb83 _ (Oi h86).symm
   exact QL (Qt Z (Lr [0]))
  refine QP (TC.seq (TC.block (Rg (Bd h86 fun x88 hx88 h86 => Ix hx88 runUnderlying221 sizeOf260 Z (U 2 Z (Nx (TC.seq (Rg (U 1 Z (Nx (TC.block (Rg ?_))))))))))))
  rcases YL x88 with ⟨x89, hE90⟩ | ⟨x91, hE92⟩
  ·have h86 := Yy hE90 h86
   refine WO.le (QZ (s := 8) (a' := .iface 263 (.agg (typing_step.c x89))) Z (congrArg typing_form.val hE90)) ?_
   refine WO.le (QZ (s := 24) (a' := .iface 263 (.agg (typing_step.c x89))) Z (congrArg typing_form.val hE90)) ?_
   refine WO.le (QZ (s := 25) (a' := .iface 263 (.agg (typing_step.c x89))) Z (congrArg typing_form.val hE90)) ?_
   refine vX (.tup [.agg [I 0, I 0, I 0, .rsl 4 (List.map Cond.enc [])], .bool false]) (Qeh (z := (.agg [I 0, I 0, I 0, .rsl 4 (List.map Cond.enc [])])) runUnderlying298 (by intro m; nofun) Z zeroValue298 (zrC Z)) ?_
   refine U 2 Z (Nx (CnF Z Z (Rg ?_)))
   refine vX (.tup [.agg (typing_step.c x89), .bool true]) (Qa2 runUnderlying263 (by intro m; nofun)) ?_
   refine U 2 Z (Nx (CnT Z Z (Rg (U 2 Z (Nx (Rg (U 8 Z (Nx (Rg (U 6 Z (Nx (TC.seq (Bd h86 fun b96 h97 h86 => ?_)))))))))))))
   refine TC.cut ([(0, .ptr 0 0), (2, I a2), (8, .iface 263 (.agg (typing_step.c x89))), (19, .rsl 1 (List.map typing_form.enc a1)), (20, I (a1.length : Int)), (21, I s84.2), (60, .bool b96.2)]) ([.cells 256 (typing_count.c b96.1)]) ?_ (fun env H hle => ?_)
   ·refine TC.region (U 1 Z (Bd h97 fun r98 hr98 h97 => ?_))
    refine Qc [] (OpC.fn call217 Z Z Z) (k_x _ _ _ hr98) ?_
    rintro _ _ ⟨rfl, rfl⟩
    refine aV (.bool r98) [_, _, _] Z Z ?_
    refine U 2 Z (If h97 (fun hg99 h97 => ?_) (fun hg99 h97 => ?_))
    ·refine Sg (gT hg99) Z ?_
     refine vX (.agg (typing_cond.c ({ Cond := x89.Step.Cond : typing_cond }))) (Qy Z isAgg298 sizeOf298 Z (Pts.cells Z Z) Z Z) ?_ (gT hg99)
     refine vX (.iface 298 (.agg (typing_cond.c ({ Cond := x89.Step.Cond : typing_cond })))) (Qak Z runUnderlying298 (by intro m; nofun) Z) ?_ (gT hg99)
     refine vH (OpH.lit (xs := [.tmp 56]) (es := List.map typing_form.enc [typing_form.ctyping_cond ({ Cond := x89.Step.Cond : typing_cond })]) Qbz Z Z Z Z Z ⟨Z, trivial⟩ Z Z) ?_ (gT hg99)
     refine aV (.osl 3 0 ([typing_form.ctyping_cond ({ Cond := x89.Step.Cond : typing_cond })].length) 1) [_, _, _, .row 260 1 (List.map typing_form.enc [typing_form.ctyping_cond ({ Cond := x89.Step.Cond : typing_cond })])] Z Z ?_
     refine Bd h97 fun r100 hr100 h97 => ?_
     refine Qc [0, 3] (OpC.fn call170 Z Z Z) (k_d _ _ _ _ _ hr100) ?_ (hg := (gT hg99))
     rintro _ _ ⟨rfl, rfl⟩
     refine aV (.bool r100.2) [.cells 256 (typing_count.c r100.1), _, _, _] Z Z ?_
     refine Sg (gT hg99) Z (Pk hg99 Z (WO.nil ?_))
     obtain rfl := Oi h97
     exact cutN (Lr [0])
    ·refine KF hg99 Z (KF hg99 Z (KF hg99 Z (KF hg99 Z (KF hg99 Z (KF hg99 Z (Pk hg99 Z (WO.nil ?_)))))))
     obtain rfl := Oi h97
     exact cutN (Lr [0])
   refine Qf (TC.le hle (Cn Z h86 (fun hc101 h86 => ?_) (fun hc101 h86 => ?_)))
   ·refine Rg (U 1 Z (Nx (TC.ret (Qj (Qi (Qj (Qi (QJ h86 ?_))))))))
    obtain rfl := hb83 _ (Oi h86).symm
    refine Qj (QC (Qi ?_))
    obtain rfl := Oi h
    refine ⟨[(6, _)], _, _, ?_, ResOK.one Z Z, Z, Z⟩
    exact Lr [0]
   refine TC.skip (QB (Qf (TC.seq (Bd h86 fun b106 h107 h86 => ?_))))
   refine TC.cut ([(0, .ptr 0 0), (2, I a2), (19, .rsl 1 (List.map typing_form.enc a1)), (20, I (a1.length : Int)), (21, I s84.2), (81, .bool b106.2)]) ([.cells 256 (typing_count.c b106.1)]) ?_ (fun env H hle => ?_)
   ·refine TC.region (U 6 Z (If h107 (fun hg108 h107 => ?_) (fun hg108 h107 => ?_)))
    ·refine KF hg108 Z (KF hg108 Z (KF hg108 Z (KF hg108 Z (KF hg108 Z (Pk hg108 Z (U 9 Z (WO.nil ?_)))))))
     obtain rfl := Oi h107
     exact cutN (Lr [0])
    ·refine Sg (gT hg108) Z (Sg (gT hg108) Z (QM (gT hg108) Qa8 Z (QR (gT hg108) isAgg3 Z (Sg (gT hg108) Z (Pk hg108 Z (U 1 Z (If h107 (fun hg109 h107 => ?_) (fun hg109 h107 => ?_))))))))
     ·refine KF hg109 Z (KF hg109 Z (KF hg109 Z (KF hg109 Z (KF hg109 Z (KF hg109 Z (KF hg109 Z (Pk hg109 Z (WO.nil ?_))))))))
      obtain rfl := Oi h107
      exact cutN (Lr [0])
     ·refine Sg (gT hg109) Z (Sg (gT hg109) Z (Bd h107 fun r110 hr110 h107 => ?_))
      refine Qc [] (QcJ call240 Z Z Z Z (fun _ _ => by kernel_rfl)) (k_p _ _ _ hr110) ?_ (hg := (gT hg109))
      rintro _ _ ⟨rfl, rfl⟩
      refine aV (.osl 1 0 r110.length 1) [_, .row 260 1 (List.map typing_form.enc r110)] Z Z ?_
      refine Sg (gT hg109) Z (Sg (gT hg109) Z (Bd h107 fun r111 hr111 h107 => ?_))
      refine Qc [0, 1] (OpC.fn call170 Z Z Z) (k_d _ _ _ _ _ hr111) ?_ (hg := (gT hg109))
      rintro _ _ ⟨rfl, rfl⟩
      refine aV (.bool r111.2) [.cells 256 (typing_count.c r111.1), _] Z Z ?_
      refine Sg (gT hg109) Z (Pk hg109 Z (WO.nil ?_))
      obtain rfl := Oi h107
      exact cutN (Lr [0])
   refine Qf (TC.le hle (Cn Z h86 (fun hc112 h86 => ?_) (fun hc112 h86 => ?_)))
   ·refine Rg (U 1 Z (Nx (TC.ret (Qj (Qi (QJ h86 ?_))))))
    obtain rfl := hb83 _ (Oi h86).symm
    refine Qj (QC (Qi ?_))
    obtain rfl := Oi h
    refine ⟨[(6, _)], _, _, ?_, ResOK.one Z Z, Z, Z⟩
    exact Lr [0]
   exact TC.skip (QB (Qf (TC.region (U 2 Z (WO.nil (Qp h86 (Lr [0])))))))
  ·have h86 := Yx hE92 h86
   refine WO.le (QZ (s := 8) (a' := .iface 298 (.agg (typing_cond.c ({ Cond := x91.Cond : typing_cond })))) Z (congrArg typing_form.val hE92)) ?_
   refine WO.le (QZ (s := 24) (a' := .iface 298 (.agg (typing_cond.c ({ Cond := x91.Cond : typing_cond })))) Z (congrArg typing_form.val hE92)) ?_
   refine WO.le (QZ (s := 25) (a' := .iface 298 (.agg (typing_cond.c ({ Cond := x91.Cond : typing_cond })))) Z (congrArg typing_form.val hE92)) ?_
   refine vX (.tup [.agg (typing_cond.c ({ Cond := x91.Cond : typing_cond })), .bool true]) (Qa2 runUnderlying298 (by intro m; nofun)) ?_
   refine U 2 Z (Nx (CnT Z Z (Rg (U 2 Z (Nx (TC.region (U 8 Z (WO.nil (QB (Qf (TC.seq (Bd h86 fun b117 h118 h86 => ?_))))))))))))
   refine TC.cut ([(0, .ptr 0 0), (2, I a2), (19, .rsl 1 (List.map typing_form.enc a1)), (20, I (a1.length : Int)), (21, I s84.2), (81, .bool b117.2)]) ([.cells 256 (typing_count.c b117.1)]) ?_ (fun env H hle => ?_)
   ·refine TC.region (U 6 Z (If h118 (fun hg119 h118 => ?_) (fun hg119 h118 => ?_)))
    ·refine KF hg119 Z (KF hg119 Z (KF hg119 Z (KF hg119 Z (KF hg119 Z (Pk hg119 Z (U 9 Z (WO.nil ?_)))))))
     obtain rfl := Oi h118
     exact cutN (Lr [0])
    ·refine Sg (gT hg119) Z (Sg (gT hg119) Z (QM (gT hg119) Qa8 Z (QR (gT hg119) isAgg3 Z (Sg (gT hg119) Z (Pk hg119 Z (U 1 Z (If h118 (fun hg120 h118 => ?_) (fun hg120 h118 => ?_))))))))
     ·refine KF hg120 Z (KF hg120 Z (KF hg120 Z (KF hg120 Z (KF hg120 Z (KF hg120 Z (KF hg120 Z (Pk hg120 Z (WO.nil ?_))))))))
      obtain rfl := Oi h118
      exact cutN (Lr [0])
     ·refine Sg (gT hg120) Z (Sg (gT hg120) Z (Bd h118 fun r121 hr121 h118 => ?_))
      refine Qc [] (QcJ call239 Z Z Z Z (fun _ _ => by kernel_rfl)) (k_o _ _ _ hr121) ?_ (hg := (gT hg120))
      rintro _ _ ⟨rfl, rfl⟩
      refine aV (.osl 2 0 r121.length 1) [_, _, .row 260 1 (List.map typing_form.enc r121)] Z Z ?_
      refine Sg (gT hg120) Z (Sg (gT hg120) Z (Bd h118 fun r122 hr122 h118 => ?_))
      refine Qc [0, 2] (OpC.fn call170 Z Z Z) (k_d _ _ _ _ _ hr122) ?_ (hg := (gT hg120))
      rintro _ _ ⟨rfl, rfl⟩
      refine aV (.bool r122.2) [.cells 256 (typing_count.c r122.1), _, _] Z Z ?_
      refine Sg (gT hg120) Z (Pk hg120 Z (WO.nil ?_))
      obtain rfl := Oi h118
      exact cutN (Lr [0])
   refine Qf (TC.le hle (Cn Z h86 (fun hc123 h86 => ?_) (fun hc123 h86 => ?_)))
   ·refine Rg (U 1 Z (Nx (TC.ret (Qj (Qi (QJ h86 ?_))))))
    obtain rfl := hb83 _ (Oi h86).symm
    refine Qj (QC (Qi ?_))
    obtain rfl := Oi h
    refine ⟨[(6, _)], _, _, ?_, ResOK.one Z Z, Z, Z⟩
    exact Lr [0]
   exact TC.skip (QB (Qf (TC.region (U 2 Z (WO.nil (Qp h86 (Lr [0])))))))
 subst hbe
 refine Qf (TC.le hle (Rg (U 1 Z (Nx (TC.ret ?_)))))
 obtain rfl := Oi h
 refine ⟨[(6, _)], _, _, ?_, ResOK.one Z Z, Z, Z⟩
 exact Lr [0]
def F_bl (rec95 : (List typing_form) → Option Bool) (n : Nat) (a1 : typing_cond) : Option Bool :=
  ((bif (a1.Cond.Var == 0) then some (a1.Cond.N == 0) else some false) : Option Bool).bind fun b2 => (bif (a1.Cond.Kind == 1) then ((F_a n 1 3 [a1.Cond.Var]).bind fun r12 => (bif r12 then (F_a n 0 10000 [a1.Cond.N]).bind fun r14 => (bif r14 then some ((a1.Cond.Parts.length : Int) == 0) else some false) else some false) : Option Bool).bind fun b10 => some b10 else ((bif (a1.Cond.Kind == 4) then (bif b2 then some (.cont ((a1.Cond.Parts.length : Int) == 1)) else some (.cont false)) else ((bif (a1.Cond.Kind == 2) then some (a1.Cond.Kind == 2) else some (a1.Cond.Kind == 3)) : Option Bool).bind fun b30 => (bif b30 then (bif b2 then (bif decide (0 < (a1.Cond.Parts.length : Int)) then some (.cont (decide ((a1.Cond.Parts.length : Int) ≤ 16))) else some (.cont false)) else some (.cont false)) else some (.done false))) : Option (Ctl Bool Bool)).bind fun b25 => match b25 with | .cont sb25 => (((bif sb25 then (F_o n ({ Cond := a1.Cond : typing_cond })).bind fun r42 => (rec95 r42).bind fun r43 => some (!r43) else some false) : Option Bool).bind fun b39 => some b39) | .done sb25 => some sb25)
theorem k_bl (rec95 : (List typing_form) → Option Bool) (hrec95 : ∀ (a1 : List typing_form) (r : Bool), rec95 a1 = some r → C prog 171 [.rsl 1 (List.map typing_form.enc a1), .fn (.func 172) [] []] [] (fun a H => a = .bool r ∧ H = [])) (n : Nat) (a1 : typing_cond) (r : Bool) (h : F_bl rec95 n a1 = some r) :
    C prog 219 [.iface 298 (.agg (typing_cond.c ({ Cond := a1.Cond : typing_cond })))] [] (fun a H => a = .bool r ∧ H = []) := by
 refine Qd func219 Z Z Z ?_
 refine Rg (U 1 Z (Nx (TC.seq (Rg (U 1 Z (Nx (TC.block (Rg ?_))))))))
 refine vX (.tup [.agg (typing_cond.c ({ Cond := a1.Cond : typing_cond })), .bool true]) (Qa2 runUnderlying298 (by intro m; nofun)) ?_
 refine U 2 Z (Nx (CnT Z Z (Rg (U 2 Z (Nx (TC.seq (Bd h fun b2 h3 h => ?_)))))))
 refine TC.cut ([(3, .ptr 0 0), (4, .bool b2)]) ([.cells 298 (typing_cond.c ({ Cond := a1.Cond : typing_cond }))]) ?_ (fun env H hle => ?_)
 ·refine TC.region (U 5 Z (If h3 (fun hg4 h3 => ?_) (fun hg4 h3 => ?_)))
  ·refine QM (gT hg4) QU Z (QM (gT hg4) Qa9 Z (QR (gT hg4) isAgg3 Z (Sg (gT hg4) Z (Pk hg4 Z (U 1 Z (WO.nil ?_))))))
   obtain rfl := Oi h3
   exact cutN (Lr [0])
  ·refine KF hg4 Z (KF hg4 Z (KF hg4 Z (KF hg4 Z (Pk hg4 Z (U 1 Z (WO.nil ?_))))))
   obtain rfl := Oi h3
   exact cutN (Lr [0])
 refine Qf (TC.le hle (TC.seq (Rg (U 3 Z (Nx (TC.block (Rg (U 2 Z (Nx (Cn Z h (fun hc5 h => ?_) (fun hc5 h => ?_)))))))))))
 ·refine TC.seq (Bd h fun b10 h11 h => ?_)
  refine TC.cut ([(2, .bool b10)]) ([]) ?_ (fun env H hle => ?_)
  ·refine TC.region (U 3 Z ?_)
   refine vH (OpH.lit (xs := [.tmp 28]) (es := List.map (encI .i64) [a1.Cond.Var]) QS Z Z Z Z Z ⟨Z, trivial⟩ Z Z) ?_
   refine aV (.osl 1 0 ([a1.Cond.Var].length) 1) [_, .row 3 1 (List.map (encI .i64) [a1.Cond.Var])] Z Z ?_
   refine Bd h11 fun r12 hr12 h11 => ?_
   refine Qk (OpC.fn call100 rfl rfl rfl) (LookL.cons rfl (.inl ⟨rfl, rfl⟩) (LookL.cons rfl (.inl ⟨rfl, rfl⟩) (LookL.cons rfl (.inr ⟨_, _, _, _, _, rfl, rfl, List.length_map .., rfl⟩) LookL.nil))) (k_a _ _ _ _ _ hr12) (by rintro _ _ ⟨rfl, rfl⟩; rfl) ?_
   rintro _ _ ⟨rfl, rfl⟩
   refine aV (.bool r12) [_, _] Z Z ?_
   refine U 1 Z (If h11 (fun hg13 h11 => ?_) (fun hg13 h11 => ?_))
   ·refine QM (gT hg13) QU Z (QM (gT hg13) Qa9 Z (QR (gT hg13) isAgg3 Z ?_))
    refine vH (OpH.lit (xs := [.tmp 34]) (es := List.map (encI .i64) [a1.Cond.N]) QS Z Z Z Z Z ⟨Z, trivial⟩ Z Z) ?_ (gT hg13)
    refine aV (.osl 2 0 ([a1.Cond.N].length) 1) [_, _, .row 3 1 (List.map (encI .i64) [a1.Cond.N])] Z Z ?_
    refine Bd h11 fun r14 hr14 h11 => ?_
    refine Qk (OpC.fn call100 rfl rfl rfl) (LookL.cons rfl (.inl ⟨rfl, rfl⟩) (LookL.cons rfl (.inl ⟨rfl, rfl⟩) (LookL.cons rfl (.inr ⟨_, _, _, _, _, rfl, rfl, List.length_map .., rfl⟩) LookL.nil))) (k_a _ _ _ _ _ hr14) (by rintro _ _ ⟨rfl, rfl⟩; rfl) ?_ (gT hg13)
    rintro _ _ ⟨rfl, rfl⟩
    refine aV (.bool r14) [_, _, _] Z Z ?_
    refine Pk hg13 Z (U 1 Z (If h11 (fun hg15 h11 => ?_) (fun hg15 h11 => ?_)))
    ·refine QM (gT hg15) QU Z (QM (gT hg15) Yt Z (QR (gT hg15) isAgg128 Z ?_))
     refine vX (I (a1.Cond.Parts.length : Int)) (Qo (e := Cond.enc) (l := a1.Cond.Parts) runUnderlying128) ?_ (gT hg15)
     refine Sg (gT hg15) Z (Pk hg15 Z (U 1 Z (WO.nil ?_)))
     obtain rfl := Oi h11
     exact cutN (Lr [])
    ·refine KF hg15 Z (KF hg15 Z (KF hg15 Z (KF hg15 Z (KF hg15 Z (Pk hg15 Z (U 1 Z (WO.nil ?_)))))))
     obtain rfl := Oi h11
     exact cutN (Lr [])
   ·refine KF hg13 Z (KF hg13 Z (KF hg13 Z (KF hg13 Z (KF hg13 Z (Pk hg13 Z (U 8 Z (WO.nil ?_)))))))
    obtain rfl := Oi h11
    exact cutN (Lr [])
  refine Qf (TC.le hle (TC.ret (Qj (Qi (Qj (Qi ?_))))))
  obtain rfl := Oi h
  refine ⟨[(2, _)], _, _, ?_, ResOK.one Z Z, Z, Z⟩
  exact Lr []
 refine Rg (U 2 Z (Nx (Bd h fun b25 h26 h => ?_)))
 refine Qn (b := b25) (fun sb25 => [(3, .ptr 0 0), (4, .bool sb25)]) (fun sb25 => [.cells 298 (typing_cond.c ({ Cond := a1.Cond : typing_cond }))]) ?_ (fun sb25 env H hb hle => ?_)
 ·refine Cn Z h26 (fun hc27 h26 => ?_) (fun hc27 h26 => ?_)
  ·refine TC.region (U 2 Z (If h26 (fun hg28 h26 => ?_) (fun hg28 h26 => ?_)))
   ·refine QM (gT hg28) QU Z (QM (gT hg28) Yt Z (QR (gT hg28) isAgg128 Z ?_))
    refine vX (I (a1.Cond.Parts.length : Int)) (Qo (e := Cond.enc) (l := a1.Cond.Parts) runUnderlying128) ?_ (gT hg28)
    refine Sg (gT hg28) Z (Pk hg28 Z (U 1 Z (WO.nil ?_)))
    obtain rfl := Oi h26
    exact Qt Z (Lr [0])
   ·refine KF hg28 Z (KF hg28 Z (KF hg28 Z (KF hg28 Z (KF hg28 Z (Pk hg28 Z (U 1 Z (WO.nil ?_)))))))
    obtain rfl := Oi h26
    exact Qt Z (Lr [0])
  refine TC.seq (Rg (U 2 Z (Nx (Bd h26 fun b30 h31 h26 => ?_))))
  refine TC.cut ([(3, .ptr 0 0), (4, .bool b2), (55, .bool b30)]) ([.cells 298 (typing_cond.c ({ Cond := a1.Cond : typing_cond }))]) ?_ (fun env H hle => ?_)
  ·refine Cn Z h31 (fun hc32 h31 => ?_) (fun hc32 h31 => ?_)
   ·refine TC.skip ?_
    obtain rfl := Oi h31
    exact cutN (Lr [0])
   refine TC.region (U 2 Z (WO.nil ?_))
   obtain rfl := Oi h31
   exact cutN (Lr [0])
  refine Qf (TC.le hle (YK Z h26 (fun hc33 h26 => ?_) (fun hc33 h26 => ?_)))
  ·refine Rg (U 1 Z (Nx (TC.ret ?_)))
   obtain rfl := Oi h26
   refine QC (Qj (Qi (Qj (Qi ?_))))
   obtain rfl := Oi h
   refine ⟨[(2, _)], _, _, ?_, ResOK.one Z Z, Z, Z⟩
   exact Lr []
  refine TC.region (U 2 Z (If h26 (fun hg34 h26 => ?_) (fun hg34 h26 => ?_)))
  ·refine QM (gT hg34) QU Z (QM (gT hg34) Yt Z (QR (gT hg34) isAgg128 Z ?_))
   refine vX (I (a1.Cond.Parts.length : Int)) (Qo (e := Cond.enc) (l := a1.Cond.Parts) runUnderlying128) ?_ (gT hg34)
   refine Sg (gT hg34) Z (Pk hg34 Z (U 1 Z (If h26 (fun hg35 h26 => ?_) (fun hg35 h26 => ?_))))
   ·refine QM (gT hg35) QU Z (QM (gT hg35) Yt Z (QR (gT hg35) isAgg128 Z ?_))
    refine vX (I (a1.Cond.Parts.length : Int)) (Qo (e := Cond.enc) (l := a1.Cond.Parts) runUnderlying128) ?_ (gT hg35)
    refine Sg (gT hg35) Z (Pk hg35 Z (U 1 Z (WO.nil ?_)))
    obtain rfl := Oi h26
    exact Qt Z (Lr [0])
   ·refine KF hg35 Z (KF hg35 Z (KF hg35 Z (KF hg35 Z (KF hg35 Z (Pk hg35 Z (U 1 Z (WO.nil ?_)))))))
    obtain rfl := Oi h26
    exact Qt Z (Lr [0])
  ·refine KF hg34 Z (KF hg34 Z (KF hg34 Z (KF hg34 Z (KF hg34 Z (Pk hg34 Z (U 8 Z (WO.nil ?_)))))))
   obtain rfl := Oi h26
   exact Qt Z (Lr [0])
 subst hb
 refine QB (Qf (TC.le hle (TC.seq (Bd h fun b39 h40 h => ?_))))
 refine TC.cut ([(2, .bool b39)]) ([]) ?_ (fun env H hle => ?_)
 ·refine TC.region (U 2 Z (If h40 (fun hg41 h40 => ?_) (fun hg41 h40 => ?_)))
  ·refine vX (.agg (typing_cond.c ({ Cond := a1.Cond : typing_cond }))) (Qy Z isAgg298 sizeOf298 Z (Pts.cells Z Z) Z Z) ?_ (gT hg41)
   refine Bd h40 fun r42 hr42 h40 => ?_
   refine Qc [] (OpC.fn call239 Z Z Z) (k_o _ _ _ hr42) ?_ (hg := (gT hg41))
   rintro _ _ ⟨rfl, rfl⟩
   refine aV (.osl 1 0 r42.length 1) [_, .row 260 1 (List.map typing_form.enc r42)] Z Z ?_
   refine Bd h40 fun r43 hr43 h40 => ?_
   refine Qk (OpC.fn call171 rfl rfl rfl) (LookL.cons rfl (.inr ⟨_, _, _, _, _, rfl, rfl, List.length_map .., rfl⟩) (LookL.cons rfl (.inl ⟨rfl, rfl⟩) LookL.nil)) (hrec95 _ _ hr43) (by rintro _ _ ⟨rfl, rfl⟩; rfl) ?_ (gT hg41)
   rintro _ _ ⟨rfl, rfl⟩
   refine aV (.bool r43) [_, _] Z Z ?_
   refine Sg (gT hg41) Z (Pk hg41 Z (U 1 Z (WO.nil ?_)))
   obtain rfl := Oi h40
   exact cutN (Lr [])
  ·refine KF hg41 Z (KF hg41 Z (KF hg41 Z (KF hg41 Z (Pk hg41 Z (U 1 Z (WO.nil ?_))))))
   obtain rfl := Oi h40
   exact cutN (Lr [])
 refine Qf (TC.le hle (TC.ret (Qj (Qi ?_))))
 obtain rfl := Oi h
 refine ⟨[(2, _)], _, _, ?_, ResOK.one Z Z, Z, Z⟩
 exact Lr []
def F_de (rec95 : (List typing_form) → Option Bool) (n : Nat) (a1 : typing_form) : Option Bool :=
  typing_form.elim a1 (fun x1 => (bif (x1.Step.Kind == 1) then ((F_a n 1 5 [x1.Step.By]).bind fun r13 => (bif r13 then (F_x n ({ Cond := x1.Step.Cond : typing_cond })).bind fun r15 => (bif r15 then (F_p n x1).bind fun r17 => some ((r17.length : Int) == 0) else some false) else some false) : Option Bool).bind fun b11 => some b11 else (bif (x1.Step.Kind == 2) then ((bif (x1.Step.By == 0) then (F_bl rec95 n ({ Cond := x1.Step.Cond : typing_cond })).bind fun r28 => (bif r28 then (bif decide (0 < (x1.Step.Then.length : Int)) then (F_p n x1).bind fun r31 => (rec95 r31).bind fun r32 => some (!r32) else some false) else some false) else some false) : Option Bool).bind fun b25 => some b25 else some false))) (fun x3 => ((bif (x3.Cond.Var == 0) then some (x3.Cond.N == 0) else some false) : Option Bool).bind fun b34 => (bif (x3.Cond.Kind == 1) then ((F_a n 1 3 [x3.Cond.Var]).bind fun r44 => (bif r44 then (F_a n 0 10000 [x3.Cond.N]).bind fun r46 => (bif r46 then some ((x3.Cond.Parts.length : Int) == 0) else some false) else some false) : Option Bool).bind fun b42 => some b42 else ((bif (x3.Cond.Kind == 4) then (bif b34 then some (.cont ((x3.Cond.Parts.length : Int) == 1)) else some (.cont false)) else ((bif (x3.Cond.Kind == 2) then some (x3.Cond.Kind == 2) else some (x3.Cond.Kind == 3)) : Option Bool).bind fun b62 => (bif b62 then (bif b34 then (bif decide (0 < (x3.Cond.Parts.length : Int)) then some (.cont (decide ((x3.Cond.Parts.length : Int) ≤ 16))) else some (.cont false)) else some (.cont false)) else some (.done false))) : Option (Ctl Bool Bool)).bind fun b57 => match b57 with | .cont sb57 => (((bif sb57 then (F_o n ({ Cond := x3.Cond : typing_cond })).bind fun r74 => (rec95 r74).bind fun r75 => some (!r75) else some false) : Option Bool).bind fun b71 => some b71) | .done sb57 => some sb57))
theorem k_de (rec95 : (List typing_form) → Option Bool) (hrec95 : ∀ (a1 : List typing_form) (r : Bool), rec95 a1 = some r → C prog 171 [.rsl 1 (List.map typing_form.enc a1), .fn (.func 172) [] []] [] (fun a H => a = .bool r ∧ H = [])) (n : Nat) (a1 : typing_form) (r : Bool) (h : F_de rec95 n a1 = some r) :
    C prog 219 [typing_form.val a1] [] (fun a H => a = .bool r ∧ H = []) := by
 refine Qd func219 Z Z Z ?_
 refine Rg (U 1 Z (Nx (TC.seq (Rg (U 1 Z (Nx (TC.block (Rg ?_))))))))
 rcases YL a1 with ⟨x1, hE2⟩ | ⟨x3, hE4⟩
 ·have h := Yy hE2 h
  refine WO.le (QZ (s := 0) (a' := .iface 263 (.agg (typing_step.c x1))) Z (congrArg typing_form.val hE2)) ?_
  refine WO.le (QZ (s := 7) (a' := .iface 263 (.agg (typing_step.c x1))) Z (congrArg typing_form.val hE2)) ?_
  refine vX (.tup [.agg [I 0, I 0, I 0, .rsl 4 (List.map Cond.enc [])], .bool false]) (Qeh (z := (.agg [I 0, I 0, I 0, .rsl 4 (List.map Cond.enc [])])) runUnderlying298 (by intro m; nofun) Z zeroValue298 (zrC Z)) ?_
  refine U 2 Z (Nx (CnF Z Z (Rg ?_)))
  refine vX (.tup [.agg (typing_step.c x1), .bool true]) (Qa2 runUnderlying263 (by intro m; nofun)) ?_
  refine U 2 Z (Nx (CnT Z Z (Rg (U 2 Z (Nx (Rg (U 6 Z (Nx (Rg (U 3 Z (Nx (TC.block (Rg (U 2 Z (Nx (Cn Z h (fun hc5 h => ?_) (fun hc5 h => ?_)))))))))))))))))
  ·refine TC.seq (Bd h fun b11 h12 h => ?_)
   refine TC.cut ([(2, .bool b11)]) ([]) ?_ (fun env H hle => ?_)
   ·refine TC.region (U 3 Z ?_)
    refine vH (OpH.lit (xs := [.tmp 94]) (es := List.map (encI .i64) [x1.Step.By]) QS Z Z Z Z Z ⟨Z, trivial⟩ Z Z) ?_
    refine aV (.osl 2 0 ([x1.Step.By].length) 1) [_, _, .row 3 1 (List.map (encI .i64) [x1.Step.By])] Z Z ?_
    refine Bd h12 fun r13 hr13 h12 => ?_
    refine Qk (OpC.fn call100 rfl rfl rfl) (LookL.cons rfl (.inl ⟨rfl, rfl⟩) (LookL.cons rfl (.inl ⟨rfl, rfl⟩) (LookL.cons rfl (.inr ⟨_, _, _, _, _, rfl, rfl, List.length_map .., rfl⟩) LookL.nil))) (k_a _ _ _ _ _ hr13) (by rintro _ _ ⟨rfl, rfl⟩; rfl) ?_
    rintro _ _ ⟨rfl, rfl⟩
    refine aV (.bool r13) [_, _, _] Z Z ?_
    refine U 1 Z (If h12 (fun hg14 h12 => ?_) (fun hg14 h12 => ?_))
    ·refine vX (.agg (typing_cond.c ({ Cond := x1.Step.Cond : typing_cond }))) (Qy Z isAgg298 sizeOf298 Z (Pts.cells Z Z) Z Z) ?_ (gT hg14)
     refine Bd h12 fun r15 hr15 h12 => ?_
     refine Qc [] (OpC.fn call217 Z Z Z) (k_x _ _ _ hr15) ?_ (hg := (gT hg14))
     rintro _ _ ⟨rfl, rfl⟩
     refine aV (.bool r15) [_, _, _] Z Z ?_
     refine Pk hg14 Z (U 1 Z (If h12 (fun hg16 h12 => ?_) (fun hg16 h12 => ?_)))
     ·refine vX (.agg (typing_step.c x1)) (Qy Z isAgg263 sizeOf263 Z (Pts.cells Z Z) Z Z) ?_ (gT hg16)
      refine Bd h12 fun r17 hr17 h12 => ?_
      refine Qc [] (OpC.fn call240 Z Z Z) (k_p _ _ _ hr17) ?_ (hg := (gT hg16))
      rintro _ _ ⟨rfl, rfl⟩
      refine aV (.osl 3 0 r17.length 1) [_, _, _, .row 260 1 (List.map typing_form.enc r17)] Z Z ?_
      refine vX (I (r17.length : Int)) (Qbo runUnderlying221) ?_ (gT hg16)
      refine Sg (gT hg16) Z (Pk hg16 Z (U 1 Z (WO.nil ?_)))
      obtain rfl := Oi h12
      exact cutN (Lr [])
     ·refine KF hg16 Z (KF hg16 Z (KF hg16 Z (KF hg16 Z (Pk hg16 Z (U 1 Z (WO.nil ?_))))))
      obtain rfl := Oi h12
      exact cutN (Lr [])
    ·refine KF hg14 Z (KF hg14 Z (Pk hg14 Z (U 7 Z (WO.nil ?_))))
     obtain rfl := Oi h12
     exact cutN (Lr [])
   refine Qf (TC.le hle (TC.ret (Qj (Qj (Qi ?_)))))
   obtain rfl := Oi h
   refine ⟨[(2, _)], _, _, ?_, ResOK.one Z Z, Z, Z⟩
   exact Lr []
  refine Rg (U 2 Z (Nx (Cn Z h (fun hc18 h => ?_) (fun hc18 h => ?_))))
  ·refine TC.seq (Bd h fun b25 h26 h => ?_)
   refine TC.cut ([(2, .bool b25)]) ([]) ?_ (fun env H hle => ?_)
   ·refine TC.region (U 5 Z (If h26 (fun hg27 h26 => ?_) (fun hg27 h26 => ?_)))
    ·refine vX (.agg (typing_cond.c ({ Cond := x1.Step.Cond : typing_cond }))) (Qy Z isAgg298 sizeOf298 Z (Pts.cells Z Z) Z Z) ?_ (gT hg27)
     refine vX (.iface 298 (.agg (typing_cond.c ({ Cond := x1.Step.Cond : typing_cond })))) (Qak Z runUnderlying298 (by intro m; nofun) Z) ?_ (gT hg27)
     refine Bd h26 fun r28 hr28 h26 => ?_
     refine Qc [] (OpC.fn call219 Z Z Z) (k_bl rec95 hrec95 _ _ _ hr28) ?_ (hg := (gT hg27))
     rintro _ _ ⟨rfl, rfl⟩
     refine aV (.bool r28) [_, _] Z Z ?_
     refine Pk hg27 Z (U 1 Z (If h26 (fun hg29 h26 => ?_) (fun hg29 h26 => ?_)))
     ·refine QM (gT hg29) QeJ Z (QM (gT hg29) QeQ Z (QR (gT hg29) isAgg29 Z ?_))
      refine vX (I (x1.Step.Then.length : Int)) (Qo (e := Step.enc) (l := x1.Step.Then) runUnderlying29) ?_ (gT hg29)
      refine Sg (gT hg29) Z (Pk hg29 Z (U 1 Z (If h26 (fun hg30 h26 => ?_) (fun hg30 h26 => ?_))))
      ·refine vX (.agg (typing_step.c x1)) (Qy Z isAgg263 sizeOf263 Z (Pts.cells Z Z) Z Z) ?_ (gT hg30)
       refine Bd h26 fun r31 hr31 h26 => ?_
       refine Qc [] (OpC.fn call240 Z Z Z) (k_p _ _ _ hr31) ?_ (hg := (gT hg30))
       rintro _ _ ⟨rfl, rfl⟩
       refine aV (.osl 2 0 r31.length 1) [_, _, .row 260 1 (List.map typing_form.enc r31)] Z Z ?_
       refine Bd h26 fun r32 hr32 h26 => ?_
       refine Qk (OpC.fn call171 rfl rfl rfl) (LookL.cons rfl (.inr ⟨_, _, _, _, _, rfl, rfl, List.length_map .., rfl⟩) (LookL.cons rfl (.inl ⟨rfl, rfl⟩) LookL.nil)) (hrec95 _ _ hr32) (by rintro _ _ ⟨rfl, rfl⟩; rfl) ?_ (gT hg30)
       rintro _ _ ⟨rfl, rfl⟩
       refine aV (.bool r32) [_, _, _] Z Z ?_
       refine Sg (gT hg30) Z (Pk hg30 Z (U 1 Z (WO.nil ?_)))
       obtain rfl := Oi h26
       exact cutN (Lr [])
      ·refine KF hg30 Z (KF hg30 Z (KF hg30 Z (KF hg30 Z (Pk hg30 Z (U 1 Z (WO.nil ?_))))))
       obtain rfl := Oi h26
       exact cutN (Lr [])
     ·refine KF hg29 Z (KF hg29 Z (KF hg29 Z (KF hg29 Z (KF hg29 Z (Pk hg29 Z (U 7 Z (WO.nil ?_)))))))
      obtain rfl := Oi h26
      exact cutN (Lr [])
    ·refine KF hg27 Z (KF hg27 Z (KF hg27 Z (Pk hg27 Z (U 14 Z (WO.nil ?_)))))
     obtain rfl := Oi h26
     exact cutN (Lr [])
   refine Qf (TC.le hle (TC.ret (Qj (Qj (Qi ?_)))))
   obtain rfl := Oi h
   refine ⟨[(2, _)], _, _, ?_, ResOK.one Z Z, Z, Z⟩
   exact Lr []
  refine TC.skip (QB (QB (Qf (Rg (U 1 Z (Nx (TC.ret ?_)))))))
  obtain rfl := Oi h
  refine ⟨[(2, _)], _, _, ?_, ResOK.one Z Z, Z, Z⟩
  exact Lr []
 ·have h := Yx hE4 h
  refine WO.le (QZ (s := 0) (a' := .iface 298 (.agg (typing_cond.c ({ Cond := x3.Cond : typing_cond })))) Z (congrArg typing_form.val hE4)) ?_
  refine WO.le (QZ (s := 7) (a' := .iface 298 (.agg (typing_cond.c ({ Cond := x3.Cond : typing_cond })))) Z (congrArg typing_form.val hE4)) ?_
  refine vX (.tup [.agg (typing_cond.c ({ Cond := x3.Cond : typing_cond })), .bool true]) (Qa2 runUnderlying298 (by intro m; nofun)) ?_
  refine U 2 Z (Nx (CnT Z Z (Rg (U 2 Z (Nx (TC.seq (Bd h fun b34 h35 h => ?_)))))))
  refine TC.cut ([(3, .ptr 0 0), (4, .bool b34)]) ([.cells 298 (typing_cond.c ({ Cond := x3.Cond : typing_cond }))]) ?_ (fun env H hle => ?_)
  ·refine TC.region (U 5 Z (If h35 (fun hg36 h35 => ?_) (fun hg36 h35 => ?_)))
   ·refine QM (gT hg36) QU Z (QM (gT hg36) Qa9 Z (QR (gT hg36) isAgg3 Z (Sg (gT hg36) Z (Pk hg36 Z (U 1 Z (WO.nil ?_))))))
    obtain rfl := Oi h35
    exact cutN (Lr [0])
   ·refine KF hg36 Z (KF hg36 Z (KF hg36 Z (KF hg36 Z (Pk hg36 Z (U 1 Z (WO.nil ?_))))))
    obtain rfl := Oi h35
    exact cutN (Lr [0])
  refine Qf (TC.le hle (TC.seq (Rg (U 3 Z (Nx (TC.block (Rg (U 2 Z (Nx (Cn Z h (fun hc37 h => ?_) (fun hc37 h => ?_)))))))))))
  ·refine TC.seq (Bd h fun b42 h43 h => ?_)
   refine TC.cut ([(2, .bool b42)]) ([]) ?_ (fun env H hle => ?_)
   ·refine TC.region (U 3 Z ?_)
    refine vH (OpH.lit (xs := [.tmp 28]) (es := List.map (encI .i64) [x3.Cond.Var]) QS Z Z Z Z Z ⟨Z, trivial⟩ Z Z) ?_
    refine aV (.osl 1 0 ([x3.Cond.Var].length) 1) [_, .row 3 1 (List.map (encI .i64) [x3.Cond.Var])] Z Z ?_
    refine Bd h43 fun r44 hr44 h43 => ?_
    refine Qk (OpC.fn call100 rfl rfl rfl) (LookL.cons rfl (.inl ⟨rfl, rfl⟩) (LookL.cons rfl (.inl ⟨rfl, rfl⟩) (LookL.cons rfl (.inr ⟨_, _, _, _, _, rfl, rfl, List.length_map .., rfl⟩) LookL.nil))) (k_a _ _ _ _ _ hr44) (by rintro _ _ ⟨rfl, rfl⟩; rfl) ?_
    rintro _ _ ⟨rfl, rfl⟩
    refine aV (.bool r44) [_, _] Z Z ?_
    refine U 1 Z (If h43 (fun hg45 h43 => ?_) (fun hg45 h43 => ?_))
    ·refine QM (gT hg45) QU Z (QM (gT hg45) Qa9 Z (QR (gT hg45) isAgg3 Z ?_))
     refine vH (OpH.lit (xs := [.tmp 34]) (es := List.map (encI .i64) [x3.Cond.N]) QS Z Z Z Z Z ⟨Z, trivial⟩ Z Z) ?_ (gT hg45)
     refine aV (.osl 2 0 ([x3.Cond.N].length) 1) [_, _, .row 3 1 (List.map (encI .i64) [x3.Cond.N])] Z Z ?_
     refine Bd h43 fun r46 hr46 h43 => ?_
     refine Qk (OpC.fn call100 rfl rfl rfl) (LookL.cons rfl (.inl ⟨rfl, rfl⟩) (LookL.cons rfl (.inl ⟨rfl, rfl⟩) (LookL.cons rfl (.inr ⟨_, _, _, _, _, rfl, rfl, List.length_map .., rfl⟩) LookL.nil))) (k_a _ _ _ _ _ hr46) (by rintro _ _ ⟨rfl, rfl⟩; rfl) ?_ (gT hg45)
     rintro _ _ ⟨rfl, rfl⟩
     refine aV (.bool r46) [_, _, _] Z Z ?_
     refine Pk hg45 Z (U 1 Z (If h43 (fun hg47 h43 => ?_) (fun hg47 h43 => ?_)))
     ·refine QM (gT hg47) QU Z (QM (gT hg47) Yt Z (QR (gT hg47) isAgg128 Z ?_))
      refine vX (I (x3.Cond.Parts.length : Int)) (Qo (e := Cond.enc) (l := x3.Cond.Parts) runUnderlying128) ?_ (gT hg47)
      refine Sg (gT hg47) Z (Pk hg47 Z (U 1 Z (WO.nil ?_)))
      obtain rfl := Oi h43
      exact cutN (Lr [])
     ·refine KF hg47 Z (KF hg47 Z (KF hg47 Z (KF hg47 Z (KF hg47 Z (Pk hg47 Z (U 1 Z (WO.nil ?_)))))))
      obtain rfl := Oi h43
      exact cutN (Lr [])
    ·refine KF hg45 Z (KF hg45 Z (KF hg45 Z (KF hg45 Z (KF hg45 Z (Pk hg45 Z (U 8 Z (WO.nil ?_)))))))
     obtain rfl := Oi h43
     exact cutN (Lr [])
   refine Qf (TC.le hle (TC.ret (Qj (Qi (Qj (Qi ?_))))))
   obtain rfl := Oi h
   refine ⟨[(2, _)], _, _, ?_, ResOK.one Z Z, Z, Z⟩
   exact Lr []
  refine Rg (U 2 Z (Nx (Bd h fun b57 h58 h => ?_)))
  refine Qn (b := b57) (fun sb57 => [(3, .ptr 0 0), (4, .bool sb57)]) (fun sb57 => [.cells 298 (typing_cond.c ({ Cond := x3.Cond : typing_cond }))]) ?_ (fun sb57 env H hb hle => ?_)
  ·refine Cn Z h58 (fun hc59 h58 => ?_) (fun hc59 h58 => ?_)
   ·refine TC.region (U 2 Z (If h58 (fun hg60 h58 => ?_) (fun hg60 h58 => ?_)))
    ·refine QM (gT hg60) QU Z (QM (gT hg60) Yt Z (QR (gT hg60) isAgg128 Z ?_))
     refine vX (I (x3.Cond.Parts.length : Int)) (Qo (e := Cond.enc) (l := x3.Cond.Parts) runUnderlying128) ?_ (gT hg60)
     refine Sg (gT hg60) Z (Pk hg60 Z (U 1 Z (WO.nil ?_)))
     obtain rfl := Oi h58
     exact Qt Z (Lr [0])
    ·refine KF hg60 Z (KF hg60 Z (KF hg60 Z (KF hg60 Z (KF hg60 Z (Pk hg60 Z (U 1 Z (WO.nil ?_)))))))
     obtain rfl := Oi h58
     exact Qt Z (Lr [0])
   refine TC.seq (Rg (U 2 Z (Nx (Bd h58 fun b62 h63 h58 => ?_))))
   refine TC.cut ([(3, .ptr 0 0), (4, .bool b34), (55, .bool b62)]) ([.cells 298 (typing_cond.c ({ Cond := x3.Cond : typing_cond }))]) ?_ (fun env H hle => ?_)
   ·refine Cn Z h63 (fun hc64 h63 => ?_) (fun hc64 h63 => ?_)
    ·refine TC.skip ?_
     obtain rfl := Oi h63
     exact cutN (Lr [0])
    refine TC.region (U 2 Z (WO.nil ?_))
    obtain rfl := Oi h63
    exact cutN (Lr [0])
   refine Qf (TC.le hle (YK Z h58 (fun hc65 h58 => ?_) (fun hc65 h58 => ?_)))
   ·refine Rg (U 1 Z (Nx (TC.ret ?_)))
    obtain rfl := Oi h58
    refine QC (Qj (Qi (Qj (Qi ?_))))
    obtain rfl := Oi h
    refine ⟨[(2, _)], _, _, ?_, ResOK.one Z Z, Z, Z⟩
    exact Lr []
   refine TC.region (U 2 Z (If h58 (fun hg66 h58 => ?_) (fun hg66 h58 => ?_)))
   ·refine QM (gT hg66) QU Z (QM (gT hg66) Yt Z (QR (gT hg66) isAgg128 Z ?_))
    refine vX (I (x3.Cond.Parts.length : Int)) (Qo (e := Cond.enc) (l := x3.Cond.Parts) runUnderlying128) ?_ (gT hg66)
    refine Sg (gT hg66) Z (Pk hg66 Z (U 1 Z (If h58 (fun hg67 h58 => ?_) (fun hg67 h58 => ?_))))
    ·refine QM (gT hg67) QU Z (QM (gT hg67) Yt Z (QR (gT hg67) isAgg128 Z ?_))
     refine vX (I (x3.Cond.Parts.length : Int)) (Qo (e := Cond.enc) (l := x3.Cond.Parts) runUnderlying128) ?_ (gT hg67)
     refine Sg (gT hg67) Z (Pk hg67 Z (U 1 Z (WO.nil ?_)))
     obtain rfl := Oi h58
     exact Qt Z (Lr [0])
    ·refine KF hg67 Z (KF hg67 Z (KF hg67 Z (KF hg67 Z (KF hg67 Z (Pk hg67 Z (U 1 Z (WO.nil ?_)))))))
     obtain rfl := Oi h58
     exact Qt Z (Lr [0])
   ·refine KF hg66 Z (KF hg66 Z (KF hg66 Z (KF hg66 Z (KF hg66 Z (Pk hg66 Z (U 8 Z (WO.nil ?_)))))))
    obtain rfl := Oi h58
    exact Qt Z (Lr [0])
  subst hb
  refine QB (Qf (TC.le hle (TC.seq (Bd h fun b71 h72 h => ?_))))
  refine TC.cut ([(2, .bool b71)]) ([]) ?_ (fun env H hle => ?_)
  ·refine TC.region (U 2 Z (If h72 (fun hg73 h72 => ?_) (fun hg73 h72 => ?_)))
   ·refine vX (.agg (typing_cond.c ({ Cond := x3.Cond : typing_cond }))) (Qy Z isAgg298 sizeOf298 Z (Pts.cells Z Z) Z Z) ?_ (gT hg73)
    refine Bd h72 fun r74 hr74 h72 => ?_
    refine Qc [] (OpC.fn call239 Z Z Z) (k_o _ _ _ hr74) ?_ (hg := (gT hg73))
    rintro _ _ ⟨rfl, rfl⟩
    refine aV (.osl 1 0 r74.length 1) [_, .row 260 1 (List.map typing_form.enc r74)] Z Z ?_
    refine Bd h72 fun r75 hr75 h72 => ?_
    refine Qk (OpC.fn call171 rfl rfl rfl) (LookL.cons rfl (.inr ⟨_, _, _, _, _, rfl, rfl, List.length_map .., rfl⟩) (LookL.cons rfl (.inl ⟨rfl, rfl⟩) LookL.nil)) (hrec95 _ _ hr75) (by rintro _ _ ⟨rfl, rfl⟩; rfl) ?_ (gT hg73)
    rintro _ _ ⟨rfl, rfl⟩
    refine aV (.bool r75) [_, _] Z Z ?_
    refine Sg (gT hg73) Z (Pk hg73 Z (U 1 Z (WO.nil ?_)))
    obtain rfl := Oi h72
    exact cutN (Lr [])
   ·refine KF hg73 Z (KF hg73 Z (KF hg73 Z (KF hg73 Z (Pk hg73 Z (U 1 Z (WO.nil ?_))))))
    obtain rfl := Oi h72
    exact cutN (Lr [])
  refine Qf (TC.le hle (TC.ret (Qj (Qi ?_))))
  obtain rfl := Oi h
  refine ⟨[(2, _)], _, _, ?_, ResOK.one Z Z, Z, Z⟩
  exact Lr []
def F_ce (rec95 : (List typing_form) → Option Bool) (n : Nat) (a1 : typing_form) : Option Bool :=
  (F_de rec95 n a1).bind fun r1 => some (!r1)
theorem k_ce (rec95 : (List typing_form) → Option Bool) (hrec95 : ∀ (a1 : List typing_form) (r : Bool), rec95 a1 = some r → C prog 171 [.rsl 1 (List.map typing_form.enc a1), .fn (.func 172) [] []] [] (fun a H => a = .bool r ∧ H = [])) (n : Nat) (a1 : typing_form) (r : Bool) (h : F_ce rec95 n a1 = some r) :
    C prog 172 [typing_form.val a1] [] (fun a H => a = .bool r ∧ H = []) := by
 refine Qd func172 Z Z Z ?_
 refine Rg (U 1 Z (Nx (Rg (U 1 Z (Bd h fun r1 hr1 h => ?_)))))
 refine Qc [] (OpC.fn call219 Z Z Z) (k_de rec95 hrec95 _ _ _ hr1) ?_ (hargs := by first | exact Z | exact Eq.trans (by exact Z) (Qac _ (by simp [dataL, dataA, typing_form.data])).symm)
 rintro _ _ ⟨rfl, rfl⟩
 refine aV (.bool r1) [] Z Z ?_
 refine U 2 Z (Nx (TC.ret ?_))
 obtain rfl := Oi h
 refine ⟨[(2, _)], _, _, ?_, ResOK.one Z Z, Z, Z⟩
 exact Lr []
def F_gb (n : Nat) (a1 : List typing_form) (rec95 : (List typing_form) → Option Bool) (s13 : Int) : Option (Ctl Int (Ctl Unit Int)) :=
  (bif decide (s13 < (a1.length : Int)) then (idx a1 s13).bind fun x17 => (F_ce rec95 n x17).bind fun r18 => (bif r18 then some (.done (.done s13)) else some (.cont (IntKind.i64.wrap (s13 + 1)))) else some (.done (.cont ())))
def F_ds (rec95 : (List typing_form) → Option Bool) (n : Nat) (a1 : List typing_form) : Option Int :=
  (iter (F_gb n a1 rec95) n 0 : Option (Ctl Unit Int)).bind fun b10 => match b10 with | .cont sb10 => (some (-1)) | .done sb10 => some sb10
theorem k_ds (rec95 : (List typing_form) → Option Bool) (hrec95 : ∀ (a1 : List typing_form) (r : Bool), rec95 a1 = some r → C prog 171 [.rsl 1 (List.map typing_form.enc a1), .fn (.func 172) [] []] [] (fun a H => a = .bool r ∧ H = [])) (n : Nat) (a1 : List typing_form) (r : Int) (h : F_ds rec95 n a1 = some r) :
    C prog 218 [.rsl 1 (List.map typing_form.enc a1), .fn (.func 172) [] []] [] (fun a H => a = I r ∧ H = []) := by
 refine Qd func218 Z Z Z ?_
 refine Rg (U 1 Z (Nx (TC.seq (Rg (U 1 Z (YI runUnderlying221 Z (U 1 Z (Nx (Bd h fun b10 h11 h => ?_)))))))))
 refine Qn (b := b10) (fun sb10 => []) (fun sb10 => []) ?_ (fun sb10 env H hbe hle => ?_)
 ·refine TC.block ?_
  refine TC.loop (E := fun s13 => [(0, .rsl 1 (List.map typing_form.enc a1)), (1, .fn (.func 172) [] []), (7, I (a1.length : Int)), (8, I s13)]) (Hp := fun s13 => []) h11 ?_ ?_
  ·exact Lr []
  intro s13 d14 h15 hb12
  refine Rg (U 1 Z (Nx (TC.seq (YK Z h15 (fun hc16 h15 => ?_) (fun hc16 h15 => ?_)))))
  ·refine YJ (Qv h15 ?_)
   obtain rfl := hb12 _ (Oi h15).symm
   exact QL (Qt Z (Lr []))
  refine QP (TC.seq (TC.block (Rg (U 2 Z (Nx (Rg (U 3 Z (Bd h15 fun x17 hx17 h15 => Ix hx17 runUnderlying221 sizeOf260 Z (U 1 Z (Bd h15 fun r18 hr18 h15 => ?_))))))))))
  refine Qc [] (Qh call172 Z Z Z Z) (k_ce rec95 hrec95 _ _ _ hr18) ?_ (hargs := by first | exact Z | exact Eq.trans (by exact Z) (Qac _ (by simp [dataL, dataA, typing_form.data])).symm)
  rintro _ _ ⟨rfl, rfl⟩
  refine aV (.bool r18) [] Z Z ?_
  refine Nx (Cn Z h15 (fun hc19 h15 => ?_) (fun hc19 h15 => ?_))
  ·refine Rg (U 2 Z (Nx (TC.ret (Qj (Qi (QJ h15 ?_))))))
   obtain rfl := hb12 _ (Oi h15).symm
   refine Qj (QC (Qi ?_))
   obtain rfl := Oi h
   refine ⟨[(4, _)], _, _, ?_, ResOK.one Z Z, Z, Z⟩
   exact Lr []
  exact TC.skip (QB (Qf (TC.region (U 2 Z (WO.nil (Qp h15 (Lr [])))))))
 subst hbe
 refine Qf (TC.le hle (Rg (U 1 Z (Nx (TC.ret ?_)))))
 obtain rfl := Oi h
 refine ⟨[(4, _)], _, _, ?_, ResOK.one Z Z, Z, Z⟩
 exact Lr []
def B_i (rec95 : (List typing_form) → Option Bool) (n : Nat) (a1 : List typing_form) : Option Bool :=
  (F_ds rec95 n a1).bind fun r1 => some (decide (0 ≤ r1))
theorem Qas (rec95 : (List typing_form) → Option Bool) (hrec95 : ∀ (a1 : List typing_form) (r : Bool), rec95 a1 = some r → C prog 171 [.rsl 1 (List.map typing_form.enc a1), .fn (.func 172) [] []] [] (fun a H => a = .bool r ∧ H = [])) (n : Nat) (a1 : List typing_form) (r : Bool) (h : B_i rec95 n a1 = some r) :
    C prog 171 [.rsl 1 (List.map typing_form.enc a1), .fn (.func 172) [] []] [] (fun a H => a = .bool r ∧ H = []) := by
 refine Qd func171 Z Z Z ?_
 refine Rg (U 1 Z (Nx (Rg (U 2 Z (Bd h fun r1 hr1 h => ?_)))))
 refine Qc [] (OpC.fn call218 Z Z Z) (k_ds rec95 hrec95 _ _ _ hr1) ?_
 rintro _ _ ⟨rfl, rfl⟩
 refine aV (I r1) [] Z Z ?_
 refine U 2 Z (Nx (TC.ret ?_))
 obtain rfl := Oi h
 refine ⟨[(4, _)], _, _, ?_, ResOK.one Z Z, Z, Z⟩
 exact Lr []
def F_i : Nat → (List typing_form) → Option Bool
  | 0 => fun _ => none
  | n + 1 => B_i (F_i n) n
theorem k_i (n : Nat) : ∀ (a1 : List typing_form) (r : Bool), F_i n a1 = some r → C prog 171 [.rsl 1 (List.map typing_form.enc a1), .fn (.func 172) [] []] [] (fun a H => a = .bool r ∧ H = []) := by
  induction n with
  | zero => intro a1 r h; cases h
  | succ n ih => intro a1 r h; exact Qas _ ih n a1 r h
def F_da (n : Nat) (a1 : List typing_form) : Option Int :=
  (F_eq n a1 0 ({ steps := 0, conds := 0 : typing_count })).bind fun r1 => (bif (!r1.2) then some 2 else ((bif ((a1.length : Int) == 0) then some true else (F_i n a1).bind fun r8 => some r8) : Option Bool).bind fun b5 => (bif b5 then some 71 else some 0))
theorem k_da (n : Nat) (a1 : List typing_form) (r : Int) (h : F_da n a1 = some r) :
    C prog 121 [.rsl 1 (List.map typing_form.enc a1)] [] (fun a H => a = I r ∧ H = []) := by
 refine Qd func121 Z Z Z ?_
 refine Rg (U 1 Z (Nx (Rg (U 3 Z (Nx (TC.seq (Rg (U 2 Z (Bd h fun r1 hr1 h => ?_)))))))))
 refine Qc [0] (OpC.fn call170 Z Z Z) (k_eq _ _ _ _ _ hr1) ?_
 rintro _ _ ⟨rfl, rfl⟩
 refine aV (.bool r1.2) [.cells 256 (typing_count.c r1.1)] Z Z ?_
 refine U 1 Z (Nx (Cn Z h (fun hc2 h => ?_) (fun hc2 h => ?_)))
 ·refine Rg (U 1 Z (Nx (RtR ?_)))
  obtain rfl := Oi h
  refine ⟨[(2, _)], _, _, ?_, ResOK.one Z Z, Z, Z⟩
  exact Lr []
 refine QP (TC.seq (TC.seq (Bd h fun b5 h6 h => ?_)))
 refine TC.cut ([(16, .bool b5)]) ([]) ?_ (fun env H hle => ?_)
 ·refine TC.region (U 1 Z (YI runUnderlying221 Z (U 2 Z (If h6 (fun hg7 h6 => ?_) (fun hg7 h6 => ?_)))))
  ·refine KF hg7 Z (KF hg7 Z (Pk hg7 Z (WO.nil ?_)))
   obtain rfl := Oi h6
   exact cutN (Lr [])
  ·refine Sg (gT hg7) Z (Bd h6 fun r8 hr8 h6 => ?_)
   refine Qc [] (OpC.fn call171 Z Z Z) (k_i _ _ _ hr8) ?_ (hg := (gT hg7))
   rintro _ _ ⟨rfl, rfl⟩
   refine aV (.bool r8) [_] Z Z ?_
   refine Pk hg7 Z (WO.nil ?_)
   obtain rfl := Oi h6
   exact cutN (Lr [])
 refine Qf (TC.le hle (Cn Z h (fun hc9 h => ?_) (fun hc9 h => ?_)))
 ·refine Rg (U 1 Z (Nx (RtR ?_)))
  obtain rfl := Oi h
  refine ⟨[(2, _)], _, _, ?_, ResOK.one Z Z, Z, Z⟩
  exact Lr []
 refine QP (Rg (U 1 Z (Nx (TC.ret ?_))))
 obtain rfl := Oi h
 refine ⟨[(2, _)], _, _, ?_, ResOK.one Z Z, Z, Z⟩
 exact Lr []
def F_ba (n : Nat) (a1 : List Step) : Option Int :=
  (F_u n a1).bind fun r1 => (F_da n r1).bind fun r2 => some r2
theorem k_ba (n : Nat) (a1 : List Step) (r : Int) (h : F_ba n a1 = some r) :
    C prog 56 [.rsl 8 (List.map Step.enc a1)] [] (fun a H => a = I r ∧ H = []) := by
 refine Qd func56 Z Z Z ?_
 refine Rg (U 1 Z (Nx (Rg (U 1 Z (Bd h fun r1 hr1 h => ?_)))))
 refine Qc [] (OpC.fn call122 Z Z Z) (k_u _ _ _ hr1) ?_
 rintro _ _ ⟨rfl, rfl⟩
 refine aV (.osl 0 0 r1.length 1) [.row 260 1 (List.map typing_form.enc r1)] Z Z ?_
 refine Bd h fun r2 hr2 h => ?_
 refine Qk (OpC.fn call121 rfl rfl rfl) (LookL.cons rfl (.inr ⟨_, _, _, _, _, rfl, rfl, List.length_map .., rfl⟩) LookL.nil) (k_da _ _ _ hr2) (by rintro _ _ ⟨rfl, rfl⟩; rfl) ?_
 rintro _ _ ⟨rfl, rfl⟩
 refine aV (I r2) [_] Z Z ?_
 refine U 1 Z (Nx (TC.ret ?_))
 obtain rfl := Oi h
 refine ⟨[(2, _)], _, _, ?_, ResOK.one Z Z, Z, Z⟩
 exact Lr []
def F_ec (n : Nat) (x56 : Part) (b59 : List Int) (s73 : (List Int) × Int) : Option (Ctl ((List Int) × Int) (Ctl (List Int) (Ctl ((List Int) × Int) (Ctl (List Int) (List Int))))) :=
  (bif decide (s73.2 < (if x56.Laps < 1 then 1 else x56.Laps)) then (bif decide (256 < (s73.1.length : Int)) then some (.done (.done (.done (.done s73.1)))) else (app s73.1 b59).bind fun l78 => some (.cont (l78, IntKind.i64.wrap (s73.2 + 1)))) else some (.done (.cont s73.1)))
def F_ef (n : Nat) (a1 : List Part) (rec114 : (List Part) → Option (List Int)) (s52 : (List Int) × Int) : Option (Ctl ((List Int) × Int) (Ctl (List Int) (List Int))) :=
  (bif decide (s52.2 < (a1.length : Int)) then (idx a1 s52.2).bind fun x56 => ((bif decide (0 < x56.Laps) then (rec114 x56.Parts).bind fun r62 => some r62 else some [x56.Mat]) : Option (List Int)).bind fun b59 => (iter (F_ec n x56 b59) n (s52.1, 0) : Option (Ctl (List Int) (Ctl ((List Int) × Int) (Ctl (List Int) (List Int))))).bind fun b70 => match b70 with | .cont sb70 => (some (.cont (sb70, IntKind.i64.wrap (s52.2 + 1)))) | .done sb70 => some sb70 else some (.done (.cont s52.1)))
def B_m (rec114 : (List Part) → Option (List Int)) (n : Nat) (a1 : List Part) : Option (List Int) :=
  (iter (F_ef n a1 rec114) n ([], 0) : Option (Ctl (List Int) (List Int))).bind fun b49 => match b49 with | .cont sb49 => (some sb49) | .done sb49 => some sb49
theorem QbJ (rec114 : (List Part) → Option (List Int)) (hrec114 : ∀ (a1 : List Part) (r : List Int), rec114 a1 = some r → C prog 125 [.rsl 3 (List.map Part.enc a1)] [] (fun a H => a = .osl 0 0 r.length 1 ∧ H = [.row 3 1 (List.map (encI .i64) r)])) (n : Nat) (a1 : List Part) (r : List Int) (h : B_m rec114 n a1 = some r) :
    C prog 125 [.rsl 3 (List.map Part.enc a1)] [] (fun a H => a = .osl 0 0 r.length 1 ∧ H = [.row 3 1 (List.map (encI .i64) r)]) := by
 refine Qd func125 Z Z Z ?_
 refine Rg (U 1 Z (Nx (TC.seq (Rg (U 1 Z (YI runUnderlying91 Z (U 1 Z (Nx (Bd h fun b49 h50 h => ?_)))))))))
 refine Qn (b := b49) (fun sb49 => [(2, .osl 0 0 sb49.length 1)]) (fun sb49 => [.row 3 1 (List.map (encI .i64) sb49)]) ?_ (fun sb49 env H hbe hle => ?_)
 ·refine TC.block ?_
  refine TC.loop (E := fun s52 => [(2, .osl 0 0 s52.1.length 1), (6, .rsl 3 (List.map Part.enc a1)), (7, I (a1.length : Int)), (8, I s52.2)]) (Hp := fun s52 => [.row 3 1 (List.map (encI .i64) s52.1)]) h50 ?_ ?_
  ·refine Le.trans (Le.phantom (s := 2) (k := 1) (t := 3) (Nat.le_of_ble_eq_true Z) Z) ?_
   exact Lr [0]
  intro s52 d53 h54 hb51
  refine Rg (U 1 Z (Nx (TC.seq (YK Z h54 (fun hc55 h54 => ?_) (fun hc55 h54 => ?_)))))
  ·refine YJ (Qv h54 ?_)
   obtain rfl := hb51 _ (Oi h54).symm
   exact QL (Qt Z (Lr [0]))
  refine QP (TC.seq (TC.block (Rg (Bd h54 fun x56 hx56 h54 => ?_))))
  refine vX (.rp [I x56.Mat, I x56.Laps, .rsl 3 (List.map Part.enc x56.Parts)]) (Q8 (e := Part.enc) hx56 (YH x56) runUnderlying91 sizeOf125) ?_
  refine U 3 Z (Nx (Rg (U 2 Z ?_)))
  refine vH (OpH.lit (xs := [.tmp 13]) (es := List.map (encI .i64) [x56.Mat]) QS Z Z Z Z Z ⟨Z, trivial⟩ Z Z) ?_
  refine aV (.osl 2 0 ([x56.Mat].length) 1) [_, _, .row 3 1 (List.map (encI .i64) [x56.Mat])] Z Z ?_
  refine U 1 Z (Nx (TC.seq (Rg (U 3 Z (Nx (Bd h54 fun b59 h60 h54 => ?_))))))
  refine TC.cut ([(2, .osl 0 0 s52.1.length 1), (4, .ptr 1 0), (5, .osl 2 0 b59.length 1), (6, .rsl 3 (List.map Part.enc a1)), (7, I (a1.length : Int)), (8, I s52.2)]) ([.row 3 1 (List.map (encI .i64) s52.1), .cells 125 (Part.c x56), .row 3 1 (List.map (encI .i64) b59)]) ?_ (fun env H hle => ?_)
  ·refine Cn Z h60 (fun hc61 h60 => ?_) (fun hc61 h60 => ?_)
   ·refine TC.region (U 2 Z (Bd h60 fun r62 hr62 h60 => ?_))
    refine Qc [] (OpC.fn call125 Z Z Z) (hrec114 _ _ hr62) ?_
    rintro _ _ ⟨rfl, rfl⟩
    refine aV (.osl 3 0 r62.length 1) [_, _, _, .row 3 1 (List.map (encI .i64) r62)] Z Z ?_
    refine U 1 Z (WO.nil ?_)
    obtain rfl := Oi h60
    exact cutN (Lr [0, 1, 3])
   refine TC.skip ?_
   obtain rfl := Oi h60
   exact cutN (Lr [0, 1, 2])
  refine Qf (TC.le hle (Rg (U 2 Z ?_)))
  refine vX (I (if x56.Laps < 1 then 1 else x56.Laps)) (OpV.max Z Z Z Z) ?_
  refine U 1 Z (Nx (Bd h54 fun b70 h71 h54 => ?_))
  refine Qn (b := b70) (fun sb70 => [(2, .osl 0 0 sb70.length 1), (6, .rsl 3 (List.map Part.enc a1)), (7, I (a1.length : Int)), (8, I s52.2)]) (fun sb70 => [.row 3 1 (List.map (encI .i64) sb70)]) ?_ (fun sb70 env H hbe hle => ?_)
  ·refine TC.block ?_
   refine TC.loop (E := fun s73 => [(2, .osl 0 0 s73.1.length 1), (5, .osl 1 0 b59.length 1), (6, .rsl 3 (List.map Part.enc a1)), (7, I (a1.length : Int)), (8, I s52.2), (23, I (if x56.Laps < 1 then 1 else x56.Laps)), (24, I s73.2)]) (Hp := fun s73 => [.row 3 1 (List.map (encI .i64) s73.1), .row 3 1 (List.map (encI .i64) b59)]) h71 ?_ ?_
   ·exact Lr [0, 2]
   intro s73 d74 h75 hb72
   refine Rg (U 1 Z (Nx (TC.seq (YK Z h75 (fun hc76 h75 => ?_) (fun hc76 h75 => ?_)))))
   ·refine YJ (Qv h75 ?_)
    obtain rfl := hb72 _ (Oi h75).symm
    exact QL (Qt Z (Lr [0]))
   refine QP (TC.seq (TC.block (TC.seq (Rg (U 3 Z (Nx (Cn Z h75 (fun hc77 h75 => ?_) (fun hc77 h75 => ?_))))))))
   ·refine Rg (U 2 Z (Nx (RtR (Qj (Qi (QJ h75 ?_))))))
    obtain rfl := hb72 _ (Oi h75).symm
    refine Qj (QC (Qj (Qi (QJ h54 ?_))))
    obtain rfl := hb51 _ (Oi h54).symm
    refine Qj (QC (Qi ?_))
    obtain rfl := Oi h
    refine ⟨[(2, _)], _, _, ?_, ResOK.one Z Z, Z, Z⟩
    exact Lr [0]
   refine QP (TC.region (U 2 Z (Bd h75 fun l78 hl78 h75 => ?_)))
   refine vH (Ya (e := (encI .i64)) hl78 QS runUnderlying48 (Qaz (i := 1))) ?_
   refine aV (.osl 2 0 l78.length 1) [.dead, _, .row 3 1 (List.map (encI .i64) l78)] Z Z ?_
   exact U 1 Z (WO.nil (QB (Qf (TC.region (U 2 Z (WO.nil (Qp h75 (Lr [2, 1]))))))))
  subst hbe
  exact QB (Qf (TC.le hle (TC.region (U 2 Z (WO.nil (Qp h54 (Lr [0])))))))
 subst hbe
 refine Qf (TC.le hle (Rg (U 2 Z (Nx (TC.ret ?_)))))
 obtain rfl := Oi h
 refine ⟨[(2, _)], _, _, ?_, ResOK.one Z Z, Z, Z⟩
 exact Lr [0]
def F_m : Nat → (List Part) → Option (List Int)
  | 0 => fun _ => none
  | n + 1 => B_m (F_m n) n
theorem k_m (n : Nat) : ∀ (a1 : List Part) (r : List Int), F_m n a1 = some r → C prog 125 [.rsl 3 (List.map Part.enc a1)] [] (fun a H => a = .osl 0 0 r.length 1 ∧ H = [.row 3 1 (List.map (encI .i64) r)]) := by
  induction n with
  | zero => intro a1 r h; cases h
  | succ n ih => intro a1 r h; exact QbJ _ ih n a1 r h
def F_bs (n : Nat) (a1 : Cutoff) (a2 : List (Int × Int)) : Option Bool :=
  (some (mgetD a2 a1.Mat 0)).bind fun v1 => some (decide (a1.Lap ≤ v1))
theorem k_bs (n : Nat) (a1 : Cutoff) (a2 : List (Int × Int)) (r : Bool) (h : F_bs n a1 a2 = some r) :
    C prog 126 [.agg (Cutoff.c a1), .ptr 0 0] [.cells 223 [.map 1], .map (menc (fun x => A.int .i64 x) (fun x => A.int .i64 x) a2)] (fun a H => a = .bool r ∧ H = [.cells 223 [.map 1], .map (menc (fun x => A.int .i64 x) (fun x => A.int .i64 x) a2)]) := by
 refine Qd func126 Z Z Z ?_
 refine Rg (U 2 Z (Nx (Rg (U 3 Z (Bd h fun v1 hv1 h => ?_)))))
 refine vX (I v1) (QX (ev := (fun x => A.int .i64 x)) (z0 := 0) (k := a1.Mat) (l := a2) Qax hv1 underlying223 zeroValue3 ZR.int) ?_
 refine U 4 Z (Nx (TC.ret ?_))
 obtain rfl := Oi h
 refine ⟨[(3, _)], _, _, ?_, ResOK.one Z Z, Z, Z⟩
 exact Lr [0, 1]
def F_ey (n : Nat) (a1 : Cutoff) (a2 : List (Int × Int)) : Option Bool :=
  (F_bs n a1 a2).bind fun r1 => some (!r1)
theorem k_ey (n : Nat) (a1 : Cutoff) (a2 : List (Int × Int)) (r : Bool) (h : F_ey n a1 a2 = some r) :
    C prog 157 [.agg (Cutoff.c a1), .ptr 0 0] [.cells 200 [.fn (.func 126) [] [.ptr 1 0]], .cells 223 [.map 2], .map (menc (fun x => A.int .i64 x) (fun x => A.int .i64 x) a2)] (fun a H => a = .bool r ∧ H = [.cells 200 [.fn (.func 126) [] [.ptr 1 0]], .cells 223 [.map 2], .map (menc (fun x => A.int .i64 x) (fun x => A.int .i64 x) a2)]) := by
 refine Qd func157 Z Z Z ?_
 refine Rg (U 2 Z (Nx (Rg (U 2 Z (Bd h fun r1 hr1 h => ?_)))))
 refine Qc [1, 2] (Qh call126 Z Z Z Z) (k_bs _ _ _ _ hr1) ?_
 rintro _ _ ⟨rfl, rfl⟩
 refine aV (.bool r1) [_, _, _, _] Z Z ?_
 refine U 2 Z (Nx (TC.ret ?_))
 obtain rfl := Oi h
 refine ⟨[(3, _)], _, _, ?_, ResOK.one Z Z, Z, Z⟩
 exact Lr [0, 1, 2]
def F_gp (n : Nat) (a1 : List Cutoff) (a2 : List (Int × Int)) (s13 : Int) : Option (Ctl Int (Ctl Unit Int)) :=
  (bif decide (s13 < (a1.length : Int)) then (idx a1 s13).bind fun x17 => (F_ey n x17 a2).bind fun r18 => (bif r18 then some (.done (.done s13)) else some (.cont (IntKind.i64.wrap (s13 + 1)))) else some (.done (.cont ())))
def F_cv (n : Nat) (a1 : List Cutoff) (a2 : List (Int × Int)) : Option Int :=
  (iter (F_gp n a1 a2) n 0 : Option (Ctl Unit Int)).bind fun b10 => match b10 with | .cont sb10 => (some (-1)) | .done sb10 => some sb10
theorem k_cv (n : Nat) (a1 : List Cutoff) (a2 : List (Int × Int)) (r : Int) (h : F_cv n a1 a2 = some r) :
    C prog 210 [.rsl 3 (List.map Cutoff.c a1), .fn (.func 157) [] [.ptr 0 0]] [.cells 200 [.fn (.func 126) [] [.ptr 1 0]], .cells 223 [.map 2], .map (menc (fun x => A.int .i64 x) (fun x => A.int .i64 x) a2)] (fun a H => a = I r ∧ H = [.cells 200 [.fn (.func 126) [] [.ptr 1 0]], .cells 223 [.map 2], .map (menc (fun x => A.int .i64 x) (fun x => A.int .i64 x) a2)]) := by
 refine Qd func210 Z Z Z ?_
 refine Rg (U 1 Z (Nx (TC.seq (Rg (U 1 Z (YI runUnderlying92 Z (U 1 Z (Nx (Bd h fun b10 h11 h => ?_)))))))))
 refine Qn (b := b10) (fun sb10 => []) (fun sb10 => [.cells 200 [.fn (.func 126) [] [.ptr 1 0]], .cells 223 [.map 2], .map (menc (fun x => A.int .i64 x) (fun x => A.int .i64 x) a2)]) ?_ (fun sb10 env H hbe hle => ?_)
 ·refine TC.block ?_
  refine TC.loop (E := fun s13 => [(0, .rsl 3 (List.map Cutoff.c a1)), (1, .fn (.func 157) [] [.ptr 0 0]), (7, I (a1.length : Int)), (8, I s13)]) (Hp := fun s13 => [.cells 200 [.fn (.func 126) [] [.ptr 1 0]], .cells 223 [.map 2], .map (menc (fun x => A.int .i64 x) (fun x => A.int .i64 x) a2)]) h11 ?_ ?_
  ·exact Lr [0, 1, 2]
  intro s13 d14 h15 hb12
  refine Rg (U 1 Z (Nx (TC.seq (YK Z h15 (fun hc16 h15 => ?_) (fun hc16 h15 => ?_)))))
  ·refine YJ (Qv h15 ?_)
   obtain rfl := hb12 _ (Oi h15).symm
   exact QL (Qt Z (Lr [0, 1, 2]))
  refine QP (TC.seq (TC.block (Rg (U 2 Z (Nx (Rg (U 3 Z (Bd h15 fun x17 hx17 h15 => Ix hx17 runUnderlying92 sizeOf168 Z (U 1 Z (Bd h15 fun r18 hr18 h15 => ?_))))))))))
  refine Qc [0, 1, 2] (Qh call157 Z Z Z Z) (k_ey _ _ _ _ hr18) ?_
  rintro _ _ ⟨rfl, rfl⟩
  refine aV (.bool r18) [_, _, _] Z Z ?_
  refine Nx (Cn Z h15 (fun hc19 h15 => ?_) (fun hc19 h15 => ?_))
  ·refine Rg (U 2 Z (Nx (TC.ret (Qj (Qi (QJ h15 ?_))))))
   obtain rfl := hb12 _ (Oi h15).symm
   refine Qj (QC (Qi ?_))
   obtain rfl := Oi h
   refine ⟨[(4, _)], _, _, ?_, ResOK.one Z Z, Z, Z⟩
   exact Lr [0, 1, 2]
  exact TC.skip (QB (Qf (TC.region (U 2 Z (WO.nil (Qp h15 (Lr [0, 1, 2])))))))
 subst hbe
 refine Qf (TC.le hle (Rg (U 1 Z (Nx (TC.ret ?_)))))
 obtain rfl := Oi h
 refine ⟨[(4, _)], _, _, ?_, ResOK.one Z Z, Z, Z⟩
 exact Lr [0, 1, 2]
def F_ee (n : Nat) (a1 : List Cutoff) (a2 : List (Int × Int)) : Option Bool :=
  (F_cv n a1 a2).bind fun r1 => some (decide (0 ≤ r1))
theorem k_ee (n : Nat) (a1 : List Cutoff) (a2 : List (Int × Int)) (r : Bool) (h : F_ee n a1 a2 = some r) :
    C prog 156 [.rsl 3 (List.map Cutoff.c a1), .fn (.func 157) [] [.ptr 0 0]] [.cells 200 [.fn (.func 126) [] [.ptr 1 0]], .cells 223 [.map 2], .map (menc (fun x => A.int .i64 x) (fun x => A.int .i64 x) a2)] (fun a H => a = .bool r ∧ H = [.cells 200 [.fn (.func 126) [] [.ptr 1 0]], .cells 223 [.map 2], .map (menc (fun x => A.int .i64 x) (fun x => A.int .i64 x) a2)]) := by
 refine Qd func156 Z Z Z ?_
 refine Rg (U 1 Z (Nx (Rg (U 2 Z (Bd h fun r1 hr1 h => ?_)))))
 refine Qc [0, 1, 2] (OpC.fn call210 Z Z Z) (k_cv _ _ _ _ hr1) ?_
 rintro _ _ ⟨rfl, rfl⟩
 refine aV (I r1) [_, _, _] Z Z ?_
 refine U 2 Z (Nx (TC.ret ?_))
 obtain rfl := Oi h
 refine ⟨[(4, _)], _, _, ?_, ResOK.one Z Z, Z, Z⟩
 exact Lr [0, 1, 2]
def F_cy (n : Nat) (a1 : List Cutoff) (a2 : List (Int × Int)) : Option Bool :=
  (F_ee n a1 a2).bind fun r1 => some (!r1)
theorem k_cy (n : Nat) (a1 : List Cutoff) (a2 : List (Int × Int)) (r : Bool) (h : F_cy n a1 a2 = some r) :
    C prog 104 [.rsl 3 (List.map Cutoff.c a1), .fn (.func 126) [] [.ptr 0 0]] [.cells 223 [.map 1], .map (menc (fun x => A.int .i64 x) (fun x => A.int .i64 x) a2)] (fun a H => a = .bool r ∧ H = [.cells 223 [.map 1], .map (menc (fun x => A.int .i64 x) (fun x => A.int .i64 x) a2)]) := by
 refine Qd func104 Z Z Z ?_
 refine Rg (U 2 Z (Nx (Rg (U 2 Z (Bd h fun r1 hr1 h => ?_)))))
 refine Qc [2, 0, 1] (OpC.fn call156 Z Z Z) (k_ee _ _ _ _ hr1) ?_
 rintro _ _ ⟨rfl, rfl⟩
 refine aV (.bool r1) [_, _, _] Z Z ?_
 refine U 2 Z (Nx (TC.ret ?_))
 obtain rfl := Oi h
 refine ⟨[(4, _)], _, _, ?_, ResOK.one Z Z, Z, Z⟩
 exact Lr [0, 1]
def F_cj (n : Nat) (a1 : Course) (a3 : List (typing_ends × Bool)) (r1 : List Int) (s41 : (List (Int × Int)) × Int) : Option (Ctl ((List (Int × Int)) × Int) (Ctl (List (Int × Int)) Bool)) :=
  (bif decide (s41.2 < (r1.length : Int)) then (idx r1 s41.2).bind fun x45 => (idx a1.Mats x45).bind fun x46 => ((bif ((x46.Kind == 1) != (s41.2 == 0)) then some true else (bif ((x46.Kind == 3) != (s41.2 == (IntKind.i64.wrap ((r1.length : Int) - 1)))) then some true else (bif decide (0 < s41.2) then (idx r1 (IntKind.i64.wrap (s41.2 - 1))).bind fun x57 => (some (mgetD a3 ({ from_ := x57, to_ := x45 : typing_ends }) false)).bind fun v58 => some (!v58) else some false))) : Option Bool).bind fun b52 => (bif b52 then some (.done (.done false)) else (some (mgetD s41.1 x45 0)).bind fun v60 => (some (mset s41.1 x45 (IntKind.i64.wrap (v60 + 1)))).bind fun m61 => some (.cont (m61, IntKind.i64.wrap (s41.2 + 1)))) else some (.done (.cont s41.1)))
def F_bt (n : Nat) (a1 : Course) (a2 : Distance) (a3 : List (typing_ends × Bool)) : Option Bool :=
  (F_m n a2.Route).bind fun r1 => ((bif decide ((IntKind.i64.wrap ((r1.length : Int) - 1)) < 1) then some true else some (decide (256 ≤ (IntKind.i64.wrap ((r1.length : Int) - 1))))) : Option Bool).bind fun b3 => (bif b3 then some false else (iter (F_cj n a1 a3 r1) n ([], 0) : Option (Ctl (List (Int × Int)) Bool)).bind fun b38 => match b38 with | .cont sb38 => (((bif decide (0 ≤ a2.Extra) then (some (mgetD sb38 a2.Extra 0)).bind fun v71 => (bif (v71 == 0) then some true else (idx a1.Mats a2.Extra).bind fun x73 => (bif (x73.Kind != 2) then some true else (some (mgetD a3 ({ from_ := a2.Extra, to_ := a2.Extra : typing_ends }) false)).bind fun v75 => some (!v75))) else some false) : Option Bool).bind fun b68 => (bif b68 then some false else (F_cy n a2.Cutoffs sb38).bind fun r77 => some r77)) | .done sb38 => some sb38)
theorem k_bt (n : Nat) (a1 : Course) (a2 : Distance) (a3 : List (typing_ends × Bool)) (r : Bool) (h : F_bt n a1 a2 a3 = some r) :
    C prog 59 [.agg (Course.c a1), .agg (Distance.c a2), .map 0] [.map (menc (fun x => A.agg (typing_ends.c x)) A.bool a3)] (fun a H => a = .bool r ∧ H = [.map (menc (fun x => A.agg (typing_ends.c x)) A.bool a3)]) := by
 refine Qd func59 Z Z Z ?_
 refine Rg (U 3 Z (Nx (Rg (U 2 Z (Bd h fun r1 hr1 h => ?_)))))
 refine Qc [] (OpC.fn call125 Z Z Z) (k_m _ _ _ hr1) ?_
 rintro _ _ ⟨rfl, rfl⟩
 refine aV (.osl 3 0 r1.length 1) [_, _, _, .row 3 1 (List.map (encI .i64) r1)] Z Z ?_
 refine U 1 Z (Nx (Rg (U 4 Z (Nx (TC.seq (TC.seq (Bd h fun b3 h4 h => ?_)))))))
 refine TC.cut ([(2, .map 0), (3, .ptr 1 0), (4, .ptr 2 0), (7, .osl 3 0 r1.length 1), (8, I (IntKind.i64.wrap ((r1.length : Int) - 1))), (25, .bool b3)]) ([.map (menc (fun x => A.agg (typing_ends.c x)) A.bool a3), .cells 33 (Course.c a1), .cells 94 (Distance.c a2), .row 3 1 (List.map (encI .i64) r1)]) ?_ (fun env H hle => ?_)
 ·refine TC.region (U 3 Z (If h4 (fun hg5 h4 => ?_) (fun hg5 h4 => ?_)))
  ·refine KF hg5 Z (KF hg5 Z (Pk hg5 Z (WO.nil ?_)))
   obtain rfl := Oi h4
   exact cutN (Lr [0, 1, 2, 3])
  ·refine Sg (gT hg5) Z (Sg (gT hg5) Z (Pk hg5 Z (WO.nil ?_)))
   obtain rfl := Oi h4
   exact cutN (Lr [0, 1, 2, 3])
 refine Qf (TC.le hle (Cn Z h (fun hc6 h => ?_) (fun hc6 h => ?_)))
 ·refine Rg (U 1 Z (Nx (RtR ?_)))
  obtain rfl := Oi h
  refine ⟨[(6, _)], _, _, ?_, ResOK.one Z Z, Z, Z⟩
  exact Lr [0]
 refine QP (Rg ?_)
 refine vH QT ?_
 refine aV (.map 4) [_, _, _, _, .map (menc (fun x => A.int .i64 x) (fun x => A.int .i64 x) [])] Z Z ?_
 refine U 2 Z (Nx (TC.seq (Rg (U 3 Z (Nx (Bd h fun b38 h39 h => ?_))))))
 refine Qn (b := b38) (fun sb38 => [(2, .map 0), (3, .ptr 1 0), (4, .ptr 2 0), (9, .ptr 3 0)]) (fun sb38 => [.map (menc (fun x => A.agg (typing_ends.c x)) A.bool a3), .cells 33 (Course.c a1), .cells 94 (Distance.c a2), .cells 223 [.map 4], .map (menc (fun x => A.int .i64 x) (fun x => A.int .i64 x) sb38)]) ?_ (fun sb38 env H hbe hle => ?_)
 ·refine TC.block ?_
  refine TC.loop (E := fun s41 => [(2, .map 0), (3, .ptr 1 0), (4, .ptr 2 0), (7, .osl 3 0 r1.length 1), (8, I (IntKind.i64.wrap ((r1.length : Int) - 1))), (9, .ptr 4 0), (27, .osl 3 0 r1.length 1), (28, I (r1.length : Int)), (29, I s41.2)]) (Hp := fun s41 => [.map (menc (fun x => A.agg (typing_ends.c x)) A.bool a3), .cells 33 (Course.c a1), .cells 94 (Distance.c a2), .row 3 1 (List.map (encI .i64) r1), .cells 223 [.map 5], .map (menc (fun x => A.int .i64 x) (fun x => A.int .i64 x) s41.1)]) h39 ?_ ?_
  ·exact Lr [0, 1, 2, 3, 5, 4]
  intro s41 d42 h43 hb40
  refine Rg (U 1 Z (Nx (TC.seq (YK Z h43 (fun hc44 h43 => ?_) (fun hc44 h43 => ?_)))))
  ·refine YJ (Qv h43 ?_)
   obtain rfl := hb40 _ (Oi h43).symm
   exact QL (Qt Z (Lr [0, 1, 2, 4, 5]))
  refine QP (TC.seq (TC.block (Rg (U 1 Z (Bd h43 fun x45 hx45 h43 => ?_)))))
  refine vX (.ptr 3 (Int.toNat s41.2 * 1)) (QY hx45 Z runUnderlying48 sizeOf3) ?_
  refine vX (I x45) (OpV.load Z isAgg3 Z (QH hx45)) ?_
  refine U 2 Z (Nx (Rg (U 3 Z (Bd h43 fun x46 hx46 h43 => Ix hx46 runUnderlying22 sizeOf96 Z (U 3 Z (Nx (TC.seq (TC.seq (Bd h43 fun b52 h53 h43 => ?_)))))))))
  refine TC.cut ([(2, .map 0), (3, .ptr 1 0), (4, .ptr 2 0), (7, .osl 3 0 r1.length 1), (8, I (IntKind.i64.wrap ((r1.length : Int) - 1))), (9, .ptr 4 0), (11, I x45), (27, .osl 3 0 r1.length 1), (28, I (r1.length : Int)), (29, I s41.2), (68, .bool b52)]) ([.map (menc (fun x => A.agg (typing_ends.c x)) A.bool a3), .cells 33 (Course.c a1), .cells 94 (Distance.c a2), .row 3 1 (List.map (encI .i64) r1), .cells 223 [.map 5], .map (menc (fun x => A.int .i64 x) (fun x => A.int .i64 x) s41.1)]) ?_ (fun env H hle => ?_)
  ·refine TC.region (U 4 Z ?_)
   refine vX (.bool ((x46.Kind == 1) != (s41.2 == 0))) (QbD runUnderlying4) ?_
   refine U 1 Z (If h53 (fun hg54 h53 => ?_) (fun hg54 h53 => ?_))
   ·refine KF hg54 Z (KF hg54 Z (KF hg54 Z (KF hg54 Z (KF hg54 Z (KF hg54 Z (Pk hg54 Z (U 16 Z (WO.nil ?_))))))))
    obtain rfl := Oi h53
    exact cutN (Lr [0, 1, 2, 3, 4, 5])
   ·refine Sg (gT hg54) Z (Sg (gT hg54) Z (Sg (gT hg54) Z (Sg (gT hg54) Z (Sg (gT hg54) Z ?_))))
    refine vV (x := (.bool ((x46.Kind == 3) != (s41.2 == (IntKind.i64.wrap ((r1.length : Int) - 1)))))) (QbD runUnderlying4) ?_ (gT hg54)
    refine Pk hg54 Z (U 1 Z (If h53 (fun hg55 h53 => ?_) (fun hg55 h53 => ?_)))
    ·refine KF hg55 Z (KF hg55 Z (KF hg55 Z (U 10 Z (KF hg55 Z (Pk hg55 Z (WO.nil ?_))))))
     obtain rfl := Oi h53
     exact cutN (Lr [0, 1, 2, 3, 4, 5])
    ·refine Sg (gT hg55) Z (Sg (gT hg55) Z (Sg (gT hg55) Z (If h53 (fun hg56 h53 => ?_) (fun hg56 h53 => ?_))))
     ·refine Sg (gT hg56) Z (Sg (gT hg56) Z (Sg (gT hg56) Z (Sg (gT hg56) Z (Bd h53 fun x57 hx57 h53 => ?_))))
      refine vX (.ptr 3 (Int.toNat (IntKind.i64.wrap (s41.2 - 1)) * 1)) (QY hx57 Z runUnderlying48 sizeOf3) ?_ (gT hg56)
      refine vX (I x57) (OpV.load Z isAgg3 Z (QH hx57)) ?_ (gT hg56)
      refine Sg (gT hg56) Z ?_
      refine vX (.agg [I x57, I x45]) (OpV.build (zs := [I 0, I 0]) zeroValue136 (zrC Z) Qfq) ?_ (gT hg56)
      refine Bd h53 fun v58 hv58 h53 => ?_
      refine vX (.bool v58) (QX (ev := A.bool) (z0 := false) (k := ({ from_ := x57, to_ := x45 : typing_ends })) (l := a3) QcD hv58 underlying134 zeroValue4 ZR.bool) ?_ (gT hg56)
      refine Sg (gT hg56) Z (Pkg (gT hg55) hg56 Z (Pk hg55 Z (WO.nil ?_)))
      obtain rfl := Oi h53
      exact cutN (Lr [0, 1, 2, 3, 4, 5])
     ·refine KF hg56 Z (KF hg56 Z (KF hg56 Z (KF hg56 Z (KF hg56 Z (KF hg56 Z (KF hg56 Z (KF hg56 Z (KF hg56 Z (KF hg56 Z (Pkg (gT hg55) hg56 Z (Pk hg55 Z (WO.nil ?_))))))))))))
      obtain rfl := Oi h53
      exact cutN (Lr [0, 1, 2, 3, 4, 5])
  refine Qf (TC.le hle (Cn Z h43 (fun hc59 h43 => ?_) (fun hc59 h43 => ?_)))
  ·refine Rg (U 1 Z (Nx (RtR (Qj (Qi (QJ h43 ?_))))))
   obtain rfl := hb40 _ (Oi h43).symm
   refine Qj (QC (Qi ?_))
   obtain rfl := Oi h
   refine ⟨[(6, _)], _, _, ?_, ResOK.one Z Z, Z, Z⟩
   exact Lr [0]
  refine QP (TC.region (U 2 Z (Bd h43 fun v60 hv60 h43 => ?_)))
  refine vX (I v60) (QX (ev := (fun x => A.int .i64 x)) (z0 := 0) (k := x45) (l := s41.1) Qax hv60 underlying223 zeroValue3 ZR.int) ?_
  refine U 1 Z (Bd h43 fun m61 hm61 h43 => ?_)
  refine vU (Q3 (ev := (fun x => A.int .i64 x)) (k := x45) (v := (IntKind.i64.wrap (v60 + 1))) (l := s41.1) Qax hm61 Z underlying223) ?_
  refine Ql (H := [_, _, _, _, _, .map (menc (fun x => A.int .i64 x) (fun x => A.int .i64 x) m61)]) Z ?_
  exact WO.nil (QB (Qf (TC.region (U 2 Z (WO.nil (Qp h43 (Lr [0, 1, 2, 3, 4, 5])))))))
 subst hbe
 refine Qf (TC.le hle (TC.seq (Rg (U 3 Z (Nx (TC.seq (Bd h fun b68 h69 h => ?_)))))))
 refine TC.cut ([(4, .ptr 1 0), (9, .ptr 2 0), (100, .bool b68)]) ([.map (menc (fun x => A.agg (typing_ends.c x)) A.bool a3), .cells 94 (Distance.c a2), .cells 223 [.map 3], .map (menc (fun x => A.int .i64 x) (fun x => A.int .i64 x) sb38)]) ?_ (fun env H hle => ?_)
 ·refine TC.region (U 3 Z (If h69 (fun hg70 h69 => ?_) (fun hg70 h69 => ?_)))
  ·refine QR (gT hg70) isAgg223 Z (Sg (gT hg70) Z (Bd h69 fun v71 hv71 h69 => ?_))
   refine vX (I v71) (QX (ev := (fun x => A.int .i64 x)) (z0 := 0) (k := a2.Extra) (l := sb38) Qax hv71 underlying223 zeroValue3 ZR.int) ?_ (gT hg70)
   refine Sg (gT hg70) Z (Sg (gT hg70) Z (If h69 (fun hg72 h69 => ?_) (fun hg72 h69 => ?_)))
   ·refine KF hg72 Z (KF hg72 Z (KF hg72 Z (KF hg72 Z (KF hg72 Z (KF hg72 Z (KF hg72 Z (Pkg (gT hg70) hg72 Z (Sg (gT hg70) Z (U 6 Z (Sg (gT hg70) Z (Pk hg70 Z (WO.nil ?_))))))))))))
    obtain rfl := Oi h69
    exact cutN (Lr [0, 2, 3, 4])
   ·refine QM (gT hg72) Qd9 Z (QR (gT hg72) isAgg22 Z (Sg (gT hg72) Z (Bd h69 fun x73 hx73 h69 => ?_)))
    refine vX (.rp [.str x73.Name, I x73.Kind]) (QbY (e := Mat.c) (l := a1.Mats) (v := x73) hx73 runUnderlying22 sizeOf96) ?_ (gT hg72)
    refine Frg (gT hg72) Qf5 Z (QR (gT hg72) isAgg3 Z (Sg (gT hg72) Z (Pkg (gT hg70) hg72 Z (Sg (gT hg70) Z (If h69 (fun hg74 h69 => ?_) (fun hg74 h69 => ?_))))))
    ·refine KF hg74 Z (KF hg74 Z (KF hg74 Z (KF hg74 Z (KF hg74 Z (KF hg74 Z (Pkg (gT hg70) hg74 Z (Pk hg70 Z (WO.nil ?_))))))))
     obtain rfl := Oi h69
     exact cutN (Lr [0, 2, 3, 4])
    ·refine Sg (gT hg74) Z (Sg (gT hg74) Z (Sg (gT hg74) Z ?_))
     refine vX (.agg [I a2.Extra, I a2.Extra]) (OpV.build (zs := [I 0, I 0]) zeroValue136 (zrC Z) Qfq) ?_ (gT hg74)
     refine Bd h69 fun v75 hv75 h69 => ?_
     refine vX (.bool v75) (QX (ev := A.bool) (z0 := false) (k := ({ from_ := a2.Extra, to_ := a2.Extra : typing_ends })) (l := a3) QcD hv75 underlying134 zeroValue4 ZR.bool) ?_ (gT hg74)
     refine Sg (gT hg74) Z (Pkg (gT hg70) hg74 Z (Pk hg70 Z (WO.nil ?_)))
     obtain rfl := Oi h69
     exact cutN (Lr [0, 2, 3, 4])
  ·refine KF hg70 Z (KF hg70 Z (KF hg70 Z (KF hg70 Z (KF hg70 Z (U 7 Z (KF hg70 Z (KF hg70 Z (U 6 Z (KF hg70 Z (Pk hg70 Z (WO.nil ?_)))))))))))
   obtain rfl := Oi h69
   exact cutN (Lr [0, 2, 3, 4])
 refine Qf (TC.le hle (Cn Z h (fun hc76 h => ?_) (fun hc76 h => ?_)))
 ·refine Rg (U 1 Z (Nx (RtR ?_)))
  obtain rfl := Oi h
  refine ⟨[(6, _)], _, _, ?_, ResOK.one Z Z, Z, Z⟩
  exact Lr [0]
 refine QP (Rg (U 3 Z (Bd h fun r77 hr77 h => ?_)))
 refine Qc [2, 3] (OpC.fn call104 Z Z Z) (k_cy _ _ _ _ hr77) ?_
 rintro _ _ ⟨rfl, rfl⟩
 refine aV (.bool r77) [_, _, _, _] Z Z ?_
 refine U 1 Z (Nx (TC.ret ?_))
 obtain rfl := Oi h
 refine ⟨[(6, _)], _, _, ?_, ResOK.one Z Z, Z, Z⟩
 exact Lr [0]
def F_bb (n : Nat) (a1 : Distance) (a2 : Course) (a3 : List (typing_ends × Bool)) : Option Bool :=
  (F_bt n a2 a1 a3).bind fun r1 => some r1
theorem k_bb (n : Nat) (a1 : Distance) (a2 : Course) (a3 : List (typing_ends × Bool)) (r : Bool) (h : F_bb n a1 a2 a3 = some r) :
    C prog 58 [.agg (Distance.c a1), .ptr 0 0, .ptr 1 0] [.cells 33 (Course.c a2), .cells 134 [.map 2], .map (menc (fun x => A.agg (typing_ends.c x)) A.bool a3)] (fun a H => a = .bool r ∧ H = [.cells 33 (Course.c a2), .cells 134 [.map 2], .map (menc (fun x => A.agg (typing_ends.c x)) A.bool a3)]) := by
 refine Qd func58 Z Z Z ?_
 refine Rg (U 2 Z (Nx (Rg (U 3 Z (Bd h fun r1 hr1 h => ?_)))))
 refine Qc [2] (OpC.fn call59 Z Z Z) (k_bt _ _ _ _ _ hr1) ?_
 rintro _ _ ⟨rfl, rfl⟩
 refine aV (.bool r1) [_, _, _, _] Z Z ?_
 refine U 1 Z (Nx (TC.ret ?_))
 obtain rfl := Oi h
 refine ⟨[(4, _)], _, _, ?_, ResOK.one Z Z, Z, Z⟩
 exact Lr [0, 1, 2]
def F_es (n : Nat) (a1 : Distance) (a2 : Course) (a3 : List (typing_ends × Bool)) : Option Bool :=
  (F_bb n a1 a2 a3).bind fun r1 => some (!r1)
theorem k_es (n : Nat) (a1 : Distance) (a2 : Course) (a3 : List (typing_ends × Bool)) (r : Bool) (h : F_es n a1 a2 a3 = some r) :
    C prog 124 [.agg (Distance.c a1), .ptr 0 0] [.cells 139 [.fn (.func 58) [] [.ptr 1 0, .ptr 2 0]], .cells 33 (Course.c a2), .cells 134 [.map 3], .map (menc (fun x => A.agg (typing_ends.c x)) A.bool a3)] (fun a H => a = .bool r ∧ H = [.cells 139 [.fn (.func 58) [] [.ptr 1 0, .ptr 2 0]], .cells 33 (Course.c a2), .cells 134 [.map 3], .map (menc (fun x => A.agg (typing_ends.c x)) A.bool a3)]) := by
 refine Qd func124 Z Z Z ?_
 refine Rg (U 2 Z (Nx (Rg (U 2 Z (Bd h fun r1 hr1 h => ?_)))))
 refine Qc [1, 2, 3] (Qh call58 Z Z Z Z) (k_bb _ _ _ _ _ hr1) ?_
 rintro _ _ ⟨rfl, rfl⟩
 refine aV (.bool r1) [_, _, _, _, _] Z Z ?_
 refine U 2 Z (Nx (TC.ret ?_))
 obtain rfl := Oi h
 refine ⟨[(3, _)], _, _, ?_, ResOK.one Z Z, Z, Z⟩
 exact Lr [0, 1, 2, 3]
def F_gt (n : Nat) (a1 : List Distance) (a2 : Course) (a3 : List (typing_ends × Bool)) (s13 : Int) : Option (Ctl Int (Ctl Unit Int)) :=
  (bif decide (s13 < (a1.length : Int)) then (idx a1 s13).bind fun x17 => (F_es n x17 a2 a3).bind fun r18 => (bif r18 then some (.done (.done s13)) else some (.cont (IntKind.i64.wrap (s13 + 1)))) else some (.done (.cont ())))
def F_cp (n : Nat) (a1 : List Distance) (a2 : Course) (a3 : List (typing_ends × Bool)) : Option Int :=
  (iter (F_gt n a1 a2 a3) n 0 : Option (Ctl Unit Int)).bind fun b10 => match b10 with | .cont sb10 => (some (-1)) | .done sb10 => some sb10
theorem k_cp (n : Nat) (a1 : List Distance) (a2 : Course) (a3 : List (typing_ends × Bool)) (r : Int) (h : F_cp n a1 a2 a3 = some r) :
    C prog 173 [.rsl 5 (List.map Distance.c a1), .fn (.func 124) [] [.ptr 0 0]] [.cells 139 [.fn (.func 58) [] [.ptr 1 0, .ptr 2 0]], .cells 33 (Course.c a2), .cells 134 [.map 3], .map (menc (fun x => A.agg (typing_ends.c x)) A.bool a3)] (fun a H => a = I r ∧ H = [.cells 139 [.fn (.func 58) [] [.ptr 1 0, .ptr 2 0]], .cells 33 (Course.c a2), .cells 134 [.map 3], .map (menc (fun x => A.agg (typing_ends.c x)) A.bool a3)]) := by
 refine Qd func173 Z Z Z ?_
 refine Rg (U 1 Z (Nx (TC.seq (Rg (U 1 Z (YI runUnderlying24 Z (U 1 Z (Nx (Bd h fun b10 h11 h => ?_)))))))))
 refine Qn (b := b10) (fun sb10 => []) (fun sb10 => [.cells 139 [.fn (.func 58) [] [.ptr 1 0, .ptr 2 0]], .cells 33 (Course.c a2), .cells 134 [.map 3], .map (menc (fun x => A.agg (typing_ends.c x)) A.bool a3)]) ?_ (fun sb10 env H hbe hle => ?_)
 ·refine TC.block ?_
  refine TC.loop (E := fun s13 => [(0, .rsl 5 (List.map Distance.c a1)), (1, .fn (.func 124) [] [.ptr 0 0]), (7, I (a1.length : Int)), (8, I s13)]) (Hp := fun s13 => [.cells 139 [.fn (.func 58) [] [.ptr 1 0, .ptr 2 0]], .cells 33 (Course.c a2), .cells 134 [.map 3], .map (menc (fun x => A.agg (typing_ends.c x)) A.bool a3)]) h11 ?_ ?_
  ·exact Lr [0, 1, 2, 3]
  intro s13 d14 h15 hb12
  refine Rg (U 1 Z (Nx (TC.seq (YK Z h15 (fun hc16 h15 => ?_) (fun hc16 h15 => ?_)))))
  ·refine YJ (Qv h15 ?_)
   obtain rfl := hb12 _ (Oi h15).symm
   exact QL (Qt Z (Lr [0, 1, 2, 3]))
  refine QP (TC.seq (TC.block (Rg (U 2 Z (Nx (Rg (U 3 Z (Bd h15 fun x17 hx17 h15 => Ix hx17 runUnderlying24 sizeOf94 Z (U 1 Z (Bd h15 fun r18 hr18 h15 => ?_))))))))))
  refine Qc [0, 1, 2, 3] (Qh call124 Z Z Z Z) (k_es _ _ _ _ _ hr18) ?_
  rintro _ _ ⟨rfl, rfl⟩
  refine aV (.bool r18) [_, _, _, _] Z Z ?_
  refine Nx (Cn Z h15 (fun hc19 h15 => ?_) (fun hc19 h15 => ?_))
  ·refine Rg (U 2 Z (Nx (TC.ret (Qj (Qi (QJ h15 ?_))))))
   obtain rfl := hb12 _ (Oi h15).symm
   refine Qj (QC (Qi ?_))
   obtain rfl := Oi h
   refine ⟨[(4, _)], _, _, ?_, ResOK.one Z Z, Z, Z⟩
   exact Lr [0, 1, 2, 3]
  exact TC.skip (QB (Qf (TC.region (U 2 Z (WO.nil (Qp h15 (Lr [0, 1, 2, 3])))))))
 subst hbe
 refine Qf (TC.le hle (Rg (U 1 Z (Nx (TC.ret ?_)))))
 obtain rfl := Oi h
 refine ⟨[(4, _)], _, _, ?_, ResOK.one Z Z, Z, Z⟩
 exact Lr [0, 1, 2, 3]
def F_dt (n : Nat) (a1 : List Distance) (a2 : Course) (a3 : List (typing_ends × Bool)) : Option Bool :=
  (F_cp n a1 a2 a3).bind fun r1 => some (decide (0 ≤ r1))
theorem k_dt (n : Nat) (a1 : List Distance) (a2 : Course) (a3 : List (typing_ends × Bool)) (r : Bool) (h : F_dt n a1 a2 a3 = some r) :
    C prog 123 [.rsl 5 (List.map Distance.c a1), .fn (.func 124) [] [.ptr 0 0]] [.cells 139 [.fn (.func 58) [] [.ptr 1 0, .ptr 2 0]], .cells 33 (Course.c a2), .cells 134 [.map 3], .map (menc (fun x => A.agg (typing_ends.c x)) A.bool a3)] (fun a H => a = .bool r ∧ H = [.cells 139 [.fn (.func 58) [] [.ptr 1 0, .ptr 2 0]], .cells 33 (Course.c a2), .cells 134 [.map 3], .map (menc (fun x => A.agg (typing_ends.c x)) A.bool a3)]) := by
 refine Qd func123 Z Z Z ?_
 refine Rg (U 1 Z (Nx (Rg (U 2 Z (Bd h fun r1 hr1 h => ?_)))))
 refine Qc [0, 1, 2, 3] (OpC.fn call173 Z Z Z) (k_cp _ _ _ _ _ hr1) ?_
 rintro _ _ ⟨rfl, rfl⟩
 refine aV (I r1) [_, _, _, _] Z Z ?_
 refine U 2 Z (Nx (TC.ret ?_))
 obtain rfl := Oi h
 refine ⟨[(4, _)], _, _, ?_, ResOK.one Z Z, Z, Z⟩
 exact Lr [0, 1, 2, 3]
def F_cb (n : Nat) (a1 : List Distance) (a2 : Course) (a3 : List (typing_ends × Bool)) : Option Bool :=
  (F_dt n a1 a2 a3).bind fun r1 => some (!r1)
theorem k_cb (n : Nat) (a1 : List Distance) (a2 : Course) (a3 : List (typing_ends × Bool)) (r : Bool) (h : F_cb n a1 a2 a3 = some r) :
    C prog 57 [.rsl 5 (List.map Distance.c a1), .fn (.func 58) [] [.ptr 0 0, .ptr 1 0]] [.cells 33 (Course.c a2), .cells 134 [.map 2], .map (menc (fun x => A.agg (typing_ends.c x)) A.bool a3)] (fun a H => a = .bool r ∧ H = [.cells 33 (Course.c a2), .cells 134 [.map 2], .map (menc (fun x => A.agg (typing_ends.c x)) A.bool a3)]) := by
 refine Qd func57 Z Z Z ?_
 refine Rg (U 2 Z (Nx (Rg (U 2 Z (Bd h fun r1 hr1 h => ?_)))))
 refine Qc [3, 0, 1, 2] (OpC.fn call123 Z Z Z) (k_dt _ _ _ _ _ hr1) ?_
 rintro _ _ ⟨rfl, rfl⟩
 refine aV (.bool r1) [_, _, _, _] Z Z ?_
 refine U 2 Z (Nx (TC.ret ?_))
 obtain rfl := Oi h
 refine ⟨[(4, _)], _, _, ?_, ResOK.one Z Z, Z, Z⟩
 exact Lr [0, 1, 2]
def F_fd (n : Nat) (a1 : Course) (s19 : (List (typing_ends × Bool)) × Int) : Option (Ctl ((List (typing_ends × Bool)) × Int) (List (typing_ends × Bool))) :=
  (bif decide (s19.2 < (a1.Legs.length : Int)) then (idx a1.Legs s19.2).bind fun x23 => (some (mset s19.1 ({ from_ := x23.From, to_ := x23.To : typing_ends }) true)).bind fun m24 => some (.cont (m24, IntKind.i64.wrap (s19.2 + 1))) else some (.done s19.1))
def F_w (n : Nat) (a1 : Course) : Option Int :=
  (F_ac n a1).bind fun r1 => (bif (!r1) then some 2 else (F_bc n a1).bind fun r3 => (bif (!r3) then some 70 else (F_ci n a1).bind fun r5 => (bif (!r5) then some 71 else (F_ba n a1.Ties).bind fun r7 => (bif (r7 != 0) then some r7 else (iter (F_fd n a1) n ([], 0) : Option (List (typing_ends × Bool))).bind fun b16 => (F_cb n a1.Distances a1 b16).bind fun r25 => (bif (!r25) then some 72 else some 0)))))
theorem k_w (n : Nat) (a1 : Course) (r : Int) (h : F_w n a1 = some r) :
    C prog 33 [.agg (Course.c a1)] [] (fun a H => a = I r ∧ H = []) := by
 refine Qd func33 Z Z Z ?_
 refine Rg (U 2 Z (Nx (TC.seq (TC.block (Rg (U 1 Z (Bd h fun r1 hr1 h => ?_)))))))
 refine Qc [] (OpC.fn call53 Z Z Z) (k_ac _ _ _ hr1) ?_
 rintro _ _ ⟨rfl, rfl⟩
 refine aV (.bool r1) [_] Z Z ?_
 refine U 2 Z (Nx (Cn Z h (fun hc2 h => ?_) (fun hc2 h => ?_)))
 ·refine Rg (U 1 Z (Nx (TC.ret (Qj (Qi ?_)))))
  obtain rfl := Oi h
  refine ⟨[(2, _)], _, _, ?_, ResOK.one Z Z, Z, Z⟩
  exact Lr []
 refine Rg (U 1 Z (Bd h fun r3 hr3 h => ?_))
 refine Qc [] (OpC.fn call54 Z Z Z) (k_bc _ _ _ hr3) ?_
 rintro _ _ ⟨rfl, rfl⟩
 refine aV (.bool r3) [_] Z Z ?_
 refine U 2 Z (Nx (Cn Z h (fun hc4 h => ?_) (fun hc4 h => ?_)))
 ·refine Rg (U 1 Z (Nx (TC.ret (Qj (Qi ?_)))))
  obtain rfl := Oi h
  refine ⟨[(2, _)], _, _, ?_, ResOK.one Z Z, Z, Z⟩
  exact Lr []
 refine Rg (U 1 Z (Bd h fun r5 hr5 h => ?_))
 refine Qc [] (OpC.fn call55 Z Z Z) (k_ci _ _ _ hr5) ?_
 rintro _ _ ⟨rfl, rfl⟩
 refine aV (.bool r5) [_] Z Z ?_
 refine U 2 Z (Nx (Cn Z h (fun hc6 h => ?_) (fun hc6 h => ?_)))
 ·refine Rg (U 1 Z (Nx (TC.ret (Qj (Qi ?_)))))
  obtain rfl := Oi h
  refine ⟨[(2, _)], _, _, ?_, ResOK.one Z Z, Z, Z⟩
  exact Lr []
 refine TC.skip (QB (Qf (TC.seq (Rg (U 2 Z (Bd h fun r7 hr7 h => ?_))))))
 refine Qc [] (OpC.fn call56 Z Z Z) (k_ba _ _ _ hr7) ?_
 rintro _ _ ⟨rfl, rfl⟩
 refine aV (I r7) [_] Z Z ?_
 refine U 1 Z (Nx (Rg (U 2 Z (Nx (Cn Z h (fun hc8 h => ?_) (fun hc8 h => ?_))))))
 ·refine Rg (U 2 Z (Nx (RtR ?_)))
  obtain rfl := Oi h
  refine ⟨[(2, _)], _, _, ?_, ResOK.one Z Z, Z, Z⟩
  exact Lr []
 refine QP (Rg ?_)
 refine vH QT ?_
 refine aV (.map 1) [_, .map (menc (fun x => A.agg (typing_ends.c x)) A.bool [])] Z Z ?_
 refine U 2 Z (Nx (TC.seq (Rg (U 2 Z (YI runUnderlying23 Z (U 1 Z (Nx (Bd h fun b16 h17 h => ?_))))))))
 refine TC.cut ([(1, .ptr 0 0), (3, .ptr 1 0)]) ([.cells 33 (Course.c a1), .cells 134 [.map 2], .map (menc (fun x => A.agg (typing_ends.c x)) A.bool b16)]) ?_ (fun env H hle => ?_)
 ·refine TC.block ?_
  refine TC.loop (E := fun s19 => [(1, .ptr 0 0), (3, .ptr 1 0), (26, .rsl 4 (List.map Leg.c a1.Legs)), (27, I (a1.Legs.length : Int)), (28, I s19.2)]) (Hp := fun s19 => [.cells 33 (Course.c a1), .cells 134 [.map 2], .map (menc (fun x => A.agg (typing_ends.c x)) A.bool s19.1)]) h17 ?_ ?_
  ·exact Lr [0, 2, 1]
  intro s19 d20 h21 hb18
  refine Rg (U 1 Z (Nx (TC.seq (YK Z h21 (fun hc22 h21 => ?_) (fun hc22 h21 => ?_)))))
  ·refine YJ (Qv h21 ?_)
   obtain rfl := hb18 _ (Oi h21).symm
   exact QL (cutN (Lr [0, 1, 2]))
  refine QP (TC.seq (TC.block (Rg (Bd h21 fun x23 hx23 h21 => Ix hx23 runUnderlying23 sizeOf123 Z (U 3 Z (Nx (TC.region (U 6 Z (Bd h21 fun m24 hm24 h21 => ?_)))))))))
  refine vU (Q3 (ev := A.bool) (k := ({ from_ := x23.From, to_ := x23.To : typing_ends })) (v := true) (l := s19.1) QcD hm24 Z underlying134) ?_
  refine Ql (H := [_, _, .map (menc (fun x => A.agg (typing_ends.c x)) A.bool m24), _]) Z ?_
  exact WO.nil (QB (Qf (TC.region (U 2 Z (WO.nil (Qp h21 (Lr [0, 1, 2])))))))
 refine Qf (TC.le hle (TC.seq (Rg (U 3 Z (Bd h fun r25 hr25 h => ?_)))))
 refine Qc [0, 1, 2] (OpC.fn call57 Z Z Z) (k_cb _ _ _ _ _ hr25) ?_
 rintro _ _ ⟨rfl, rfl⟩
 refine aV (.bool r25) [_, _, _] Z Z ?_
 refine U 1 Z (Nx (Cn Z h (fun hc26 h => ?_) (fun hc26 h => ?_)))
 ·refine Rg (U 1 Z (Nx (RtR ?_)))
  obtain rfl := Oi h
  refine ⟨[(2, _)], _, _, ?_, ResOK.one Z Z, Z, Z⟩
  exact Lr []
 refine QP (Rg (U 1 Z (Nx (TC.ret ?_))))
 obtain rfl := Oi h
 refine ⟨[(2, _)], _, _, ?_, ResOK.one Z Z, Z, Z⟩
 exact Lr []
def Q_facts_open_rxk (a1 : Fact) (a2 : Int) : U_facts_open_rxk → Go.Sw.A → Heap → Prop
  | .c0 x, a, H => a = .tup [.agg [.osl 2 0 8 3, .fn (.func 144) [] []], .bool true] ∧ H = [.cells 81 (Fact.c a1), .cells 3 [I a2], .rowr 181 3 [[.ptr 0 4, I 1, I 9999], [.ptr 0 5, I 0, I 7], [.ptr 0 6, I 0, I 31], [.ptr 0 7, I (-1099511627776), I 1099511627776], [.ptr 0 8, I 0, I 120], [.ptr 0 9, I 0, I 1048576], [.ptr 0 10, I 0, I 9999], [.ptr 0 11, I 0, I 1048576]], .cells 171 [.osl 2 0 8 3, .fn (.func 144) [] []]]
  | .c1 x, a, H => a = .tup [.agg [.osl 2 0 4 3, .fn (.func 144) [] []], .bool true] ∧ H = [.cells 81 (Fact.c a1), .cells 3 [I a2], .rowr 181 3 [[.ptr 0 12, I 0, I 39], [.ptr 0 13, I 0, I 255], [.ptr 0 14, I 0, I 1048576], [.ptr 0 15, I (-1099511627776), I 1099511627776]], .cells 171 [.osl 2 0 4 3, .fn (.func 144) [] []]]
  | .c2 x, a, H => a = .tup [.agg [.osl 2 0 5 3, .fn (.func 144) [] []], .bool true] ∧ H = [.cells 81 (Fact.c a1), .cells 3 [I a2], .rowr 181 3 [[.ptr 0 16, I 0, I 39], [.ptr 0 17, I 0, I 255], [.ptr 0 18, I (-1099511627776), I 1099511627776], [.ptr 0 19, I (-1099511627776), I 1099511627776], [.ptr 0 20, I 0, I 1099511627776]], .cells 171 [.osl 2 0 5 3, .fn (.func 144) [] []]]
  | .c3 x, a, H => a = .tup [.agg [.osl 2 0 8 3, .fn (.func 145) [] [.ptr 3 0]], .bool true] ∧ H = [.cells 81 (Fact.c a1), .cells 3 [I a2], .rowr 181 3 [[.ptr 0 21, I 0, I 39], [.ptr 0 22, I 0, I 255], [.ptr 0 23, I (-1099511627776), I 1099511627776], [.ptr 0 24, I 0, I 39], [.ptr 0 25, I 0, I 255], [.ptr 0 26, I (-1099511627776), I 1099511627776], [.ptr 0 27, I (-1099511627776), I 1099511627776], [.ptr 0 28, I (-1099511627776), I 1099511627776]], .cells 238 [.ptr 0 21], .cells 171 [.osl 2 0 8 3, .fn (.func 145) [] [.ptr 3 0]]]
  | .c4 x, a, H => a = .tup [.agg [.osl 2 0 4 3, .fn (.func 146) [] [.ptr 3 0]], .bool true] ∧ H = [.cells 81 (Fact.c a1), .cells 3 [I a2], .rowr 181 3 [[.ptr 0 29, I 1, I 9999], [.ptr 0 30, I 0, I 255], [.ptr 0 31, I (-1099511627776), I 1099511627776], [.ptr 0 32, I (-1099511627776), I 1099511627776]], .cells 239 [.ptr 0 29], .cells 171 [.osl 2 0 4 3, .fn (.func 146) [] [.ptr 3 0]]]
  | .c5 x, a, H => a = .tup [.agg [.osl 2 0 4 3, .fn (.func 147) [] [.ptr 3 0]], .bool true] ∧ H = [.cells 81 (Fact.c a1), .cells 3 [I a2], .rowr 181 3 [[.ptr 0 33, I 0, I 39], [.ptr 0 34, I 0, I 255], [.ptr 0 35, I (-1099511627776), I 1099511627776], [.ptr 0 36, I (-1099511627776), I 1099511627776]], .cells 240 [.ptr 0 33], .cells 171 [.osl 2 0 4 3, .fn (.func 147) [] [.ptr 3 0]]]
  | .c6 x, a, H => a = .tup [.agg [.osl 2 0 2 3, .fn (.func 148) [] [.ptr 3 0]], .bool true] ∧ H = [.cells 81 (Fact.c a1), .cells 3 [I a2], .rowr 181 3 [[.ptr 0 37, I 1, I 9999], [.ptr 0 38, I 1, I 9999]], .cells 241 [.ptr 0 37], .cells 171 [.osl 2 0 2 3, .fn (.func 148) [] [.ptr 3 0]]]
  | .c7 x, a, H => a = .tup [.agg [.osl 2 0 4 3, .fn (.func 144) [] []], .bool true] ∧ H = [.cells 81 (Fact.c a1), .cells 3 [I a2], .rowr 181 3 [[.ptr 0 39, I 1, I 1048576], [.ptr 0 40, I 1, I 9999], [.ptr 0 41, I 0, I 31], [.ptr 0 42, I 0, I 255]], .cells 171 [.osl 2 0 4 3, .fn (.func 144) [] []]]
  | .c8 x, a, H => a = .tup [.agg [.osl 2 0 4 3, .fn (.func 144) [] []], .bool true] ∧ H = [.cells 81 (Fact.c a1), .cells 3 [I a2], .rowr 181 3 [[.ptr 0 43, I 1, I 1048576], [.ptr 0 44, I 0, I 9999], [.ptr 0 45, I 0, I 1125899906842624], [.ptr 0 46, I 0, I 1]], .cells 171 [.osl 2 0 4 3, .fn (.func 144) [] []]]
  | .c9 x, a, H => a = .tup [.agg [.osl 2 0 6 3, .fn (.func 144) [] []], .bool true] ∧ H = [.cells 81 (Fact.c a1), .cells 3 [I a2], .rowr 181 3 [[.ptr 0 47, I 1, I 1048576], [.ptr 0 48, I 1, I 2], [.ptr 0 49, I 1, I 5], [.ptr 0 50, I x.1, I x.2.1], [.ptr 0 51, I x.2.2.1, I x.2.2.2.1], [.ptr 0 52, I x.2.2.2.2.1, I x.2.2.2.2.2]], .cells 171 [.osl 2 0 6 3, .fn (.func 144) [] []]]
  | .c10 x, a, H => a = .tup [.agg [.osl 2 0 2 3, .fn (.func 144) [] []], .bool true] ∧ H = [.cells 81 (Fact.c a1), .cells 3 [I a2], .rowr 181 3 [[.ptr 0 53, I 1, I 1048576], [.ptr 1 0, I 0, I 1]], .cells 171 [.osl 2 0 2 3, .fn (.func 144) [] []]]
  | .c11 x, a, H => a = .tup [.agg [.nils, .fn (.func 144) [] []], .bool true] ∧ H = [.cells 81 (Fact.c a1), .cells 3 [I a2], .cells 171 [.nils, .fn (.func 144) [] []]]
  | .c12 x, a, H => a = .tup [.agg [.osl 2 0 2 3, .fn (.func 144) [] []], .bool true] ∧ H = [.cells 81 (Fact.c a1), .cells 3 [I a2], .rowr 181 3 [[.ptr 0 55, I 0, I 31], [.ptr 0 56, I 1, I 1048576]], .cells 171 [.osl 2 0 2 3, .fn (.func 144) [] []]]
  | .c13 x, a, H => a = .tup [.agg [.nils, .nilf], .bool false] ∧ H = [.cells 81 (Fact.c a1), .cells 3 [I a2], .cells 171 [.nils, .nilf]]
def F_al (n : Nat) (a1 : Fact) (a2 : Int) : Option U_facts_open_rxk :=
  (bif (a1.Kind == 1) then some (U_facts_open_rxk.c0 ()) else (bif (a1.Kind == 2) then some (U_facts_open_rxk.c1 ()) else (bif (a1.Kind == 3) then some (U_facts_open_rxk.c2 ()) else (bif (a1.Kind == 4) then some (U_facts_open_rxk.c3 ()) else (bif (a1.Kind == 5) then some (U_facts_open_rxk.c4 ()) else (bif (a1.Kind == 6) then some (U_facts_open_rxk.c5 ()) else (bif (a1.Kind == 7) then some (U_facts_open_rxk.c6 ()) else (bif (a1.Kind == 8) then some (U_facts_open_rxk.c7 ()) else (bif (a1.Kind == 9) then some (U_facts_open_rxk.c8 ()) else (bif (a1.Kind == 10) then ((bif (a1.Ruling.Kind == 1) then some (a1.Ruling.Kind == 1) else some (a1.Ruling.Kind == 2)) : Option Bool).bind fun b12 => ((bif b12 then some ({ least := 0, most := 0 : facts_scope }, { least := 0, most := 0 : facts_scope }, { least := 0, most := 0 : facts_scope }) else (bif (a1.Ruling.Kind == 3) then some ({ least := 1, most := 9999 : facts_scope }, { least := 0, most := 255 : facts_scope }, { least := 1, most := 1099511627776 : facts_scope }) else (bif (a1.Ruling.Kind == 4) then some ({ least := 1, most := 9999 : facts_scope }, { least := 0, most := 255 : facts_scope }, { least := 1, most := 64 : facts_scope }) else some ({ least := 1, most := 9999 : facts_scope }, { least := 0, most := 255 : facts_scope }, { least := 0, most := 0 : facts_scope })))) : Option (facts_scope × facts_scope × facts_scope)).bind fun b18 => some (U_facts_open_rxk.c9 (b18.1.least, b18.1.most, b18.2.1.least, b18.2.1.most, b18.2.2.least, b18.2.2.most)) else (bif (a1.Kind == 11) then some (U_facts_open_rxk.c10 ()) else (bif (a1.Kind == 12) then some (U_facts_open_rxk.c11 ()) else (bif (a1.Kind == 13) then some (U_facts_open_rxk.c12 ()) else some (U_facts_open_rxk.c13 ()))))))))))))))
theorem k_al (n : Nat) (a1 : Fact) (a2 : Int) (r : U_facts_open_rxk) (h : F_al n a1 a2 = some r) :
    C prog 82 [.ptr 0 0, .ptr 1 0] [.cells 81 (Fact.c a1), .cells 3 [I a2]] (Q_facts_open_rxk a1 a2 r) := by
 refine Qd func82 Z Z Z ?_
 refine Rg (U 2 Z (Nx (TC.seq (Rg (U 4 Z (Nx (TC.block (Rg (U 2 Z (Nx (Cn Z h (fun hc1 h => ?_) (fun hc1 h => ?_))))))))))))
 ·refine Rg (U 4 Z (Nx (TC.seq ?_)))
  refine UD 40 Z (by kernel_rfl) ?_
  refine vH (Q9 (xs := [.tmp 32, .tmp 37, .tmp 42, .tmp 47, .tmp 52, .tmp 57, .tmp 62, .tmp 67]) Yz Z Z Z Z Z ⟨Z, Z, Z, Z, Z, Z, Z, Z, trivial⟩ Z) ?_
  refine aV (.osl 3 0 8 3) [_, _, _, .rowr 181 3 [[.ptr 0 4, I 1, I 9999], [.ptr 0 5, I 0, I 7], [.ptr 0 6, I 0, I 31], [.ptr 0 7, I (-1099511627776), I 1099511627776], [.ptr 0 8, I 0, I 120], [.ptr 0 9, I 0, I 1048576], [.ptr 0 10, I 0, I 9999], [.ptr 0 11, I 0, I 1048576]]] Z Z ?_
  refine U 3 Z (Nx (TC.ret (Qj (Qi ?_))))
  obtain rfl := Oi h
  refine ⟨[(4, .ptr 3 0), (5, .bool true)], [.cells 81 (Fact.c a1), .cells 3 [I a2], .rowr 181 3 [[.ptr 0 4, I 1, I 9999], [.ptr 0 5, I 0, I 7], [.ptr 0 6, I 0, I 31], [.ptr 0 7, I (-1099511627776), I 1099511627776], [.ptr 0 8, I 0, I 120], [.ptr 0 9, I 0, I 1048576], [.ptr 0 10, I 0, I 9999], [.ptr 0 11, I 0, I 1048576]], .cells 171 [.osl 2 0 8 3, .fn (.func 144) [] []]], _, ?_, QG Z Z (ResL.cons (Qq isAgg171 sizeOf171 Z Z Z) (ResL.cons ResAt.tmp ResL.nil)), Z, Z⟩
  exact Lr [0, 1, 3, 2]
 refine Rg (U 2 Z (Nx (Cn Z h (fun hc2 h => ?_) (fun hc2 h => ?_))))
 ·refine Rg (U 4 Z (Nx (TC.seq ?_)))
  refine UD 20 Z (by kernel_rfl) ?_
  refine vH (Q9 (xs := [.tmp 79, .tmp 84, .tmp 89, .tmp 94]) Yz Z Z Z Z Z ⟨Z, Z, Z, Z, trivial⟩ Z) ?_
  refine aV (.osl 3 0 4 3) [_, _, _, .rowr 181 3 [[.ptr 0 12, I 0, I 39], [.ptr 0 13, I 0, I 255], [.ptr 0 14, I 0, I 1048576], [.ptr 0 15, I (-1099511627776), I 1099511627776]]] Z Z ?_
  refine U 3 Z (Nx (TC.ret (Qj (Qi ?_))))
  obtain rfl := Oi h
  refine ⟨[(4, .ptr 3 0), (5, .bool true)], [.cells 81 (Fact.c a1), .cells 3 [I a2], .rowr 181 3 [[.ptr 0 12, I 0, I 39], [.ptr 0 13, I 0, I 255], [.ptr 0 14, I 0, I 1048576], [.ptr 0 15, I (-1099511627776), I 1099511627776]], .cells 171 [.osl 2 0 4 3, .fn (.func 144) [] []]], _, ?_, QG Z Z (ResL.cons (Qq isAgg171 sizeOf171 Z Z Z) (ResL.cons ResAt.tmp ResL.nil)), Z, Z⟩
  exact Lr [0, 1, 3, 2]
 refine Rg (U 2 Z (Nx (Cn Z h (fun hc3 h => ?_) (fun hc3 h => ?_))))
 ·refine Rg (U 4 Z (Nx (TC.seq ?_)))
  refine UD 25 Z (by kernel_rfl) ?_
  refine vH (Q9 (xs := [.tmp 106, .tmp 111, .tmp 116, .tmp 121, .tmp 126]) Yz Z Z Z Z Z ⟨Z, Z, Z, Z, Z, trivial⟩ Z) ?_
  refine aV (.osl 3 0 5 3) [_, _, _, .rowr 181 3 [[.ptr 0 16, I 0, I 39], [.ptr 0 17, I 0, I 255], [.ptr 0 18, I (-1099511627776), I 1099511627776], [.ptr 0 19, I (-1099511627776), I 1099511627776], [.ptr 0 20, I 0, I 1099511627776]]] Z Z ?_
  refine U 3 Z (Nx (TC.ret (Qj (Qi ?_))))
  obtain rfl := Oi h
  refine ⟨[(4, .ptr 3 0), (5, .bool true)], [.cells 81 (Fact.c a1), .cells 3 [I a2], .rowr 181 3 [[.ptr 0 16, I 0, I 39], [.ptr 0 17, I 0, I 255], [.ptr 0 18, I (-1099511627776), I 1099511627776], [.ptr 0 19, I (-1099511627776), I 1099511627776], [.ptr 0 20, I 0, I 1099511627776]], .cells 171 [.osl 2 0 5 3, .fn (.func 144) [] []]], _, ?_, QG Z Z (ResL.cons (Qq isAgg171 sizeOf171 Z Z Z) (ResL.cons ResAt.tmp ResL.nil)), Z, Z⟩
  exact Lr [0, 1, 3, 2]
 refine Rg (U 2 Z (Nx (Cn Z h (fun hc4 h => ?_) (fun hc4 h => ?_))))
 ·refine Rg (U 5 Z (Nx (TC.seq ?_)))
  refine Q2 42 0 [134, 135, 136, 137, 138, 139, 140, 141, 142, 143, 144, 145, 146, 147, 148, 149, 150, 151, 152, 153, 154, 155, 156, 157, 158, 159, 160, 161, 162, 163, 164, 165, 166, 167, 168, 169, 170, 171, 172, 173, 174, 175] [false, false, false, false, false, false, false, false, false, false, false, false, false, false, false, false, false, false, false, false, false, false, false, false, false, false, false, false, false, false, false, false, false, false, false, false, false, false, false, false, true, false] [[], [], [], [], [], [], [], [], [], [], [], [], [], [], [], [], [], [], [], [], [], [], [], [], [], [], [], [], [], [], [], [], [], [], [], [], [], [], [], [], [], []] [[], [40]] [[(0, 0), (1, 1)], [(0, 0), (1, 1)], [(0, 0), (1, 1)], [(0, 0), (1, 1)], [(0, 0), (1, 1)], [(0, 0), (1, 1)], [(0, 0), (1, 1)], [(0, 0), (1, 1)], [(0, 0), (1, 1)], [(0, 0), (1, 1)], [(0, 0), (1, 1)], [(0, 0), (1, 1)], [(0, 0), (1, 1)], [(0, 0), (1, 1)], [(0, 0), (1, 1)], [(0, 0), (1, 1)], [(0, 0), (1, 1)], [(0, 0), (1, 1)], [(0, 0), (1, 1)], [(0, 0), (1, 1)], [(0, 0), (1, 1)], [(0, 0), (1, 1)], [(0, 0), (1, 1)], [(0, 0), (1, 1)], [(0, 0), (1, 1)], [(0, 0), (1, 1)], [(0, 0), (1, 1)], [(0, 0), (1, 1)], [(0, 0), (1, 1)], [(0, 0), (1, 1)], [(0, 0), (1, 1)], [(0, 0), (1, 1)], [(0, 0), (1, 1)], [(0, 0), (1, 1)], [(0, 0), (1, 1)], [(0, 0), (1, 1)], [(0, 0), (1, 1)], [(0, 0), (1, 1)], [(0, 0), (1, 1)], [(0, 0), (1, 1)], [(0, 1)], [(0, 0), (1, 1)]] [.ptr 0 21, .ptr 0 21, .ptr 0 21, .agg [I 0, I 39], .agg [.ptr 0 21, I 0, I 39], .ptr 0 21, .ptr 0 21, .ptr 0 22, .agg [I 0, I 255], .agg [.ptr 0 22, I 0, I 255], .ptr 0 21, .ptr 0 21, .ptr 0 23, .agg [I (-1099511627776), I 1099511627776], .agg [.ptr 0 23, I (-1099511627776), I 1099511627776], .ptr 0 21, .ptr 0 21, .ptr 0 24, .agg [I 0, I 39], .agg [.ptr 0 24, I 0, I 39], .ptr 0 21, .ptr 0 21, .ptr 0 25, .agg [I 0, I 255], .agg [.ptr 0 25, I 0, I 255], .ptr 0 21, .ptr 0 21, .ptr 0 26, .agg [I (-1099511627776), I 1099511627776], .agg [.ptr 0 26, I (-1099511627776), I 1099511627776], .ptr 0 21, .ptr 0 21, .ptr 0 27, .agg [I (-1099511627776), I 1099511627776], .agg [.ptr 0 27, I (-1099511627776), I 1099511627776], .ptr 0 21, .ptr 0 21, .ptr 0 28, .agg [I (-1099511627776), I 1099511627776], .agg [.ptr 0 28, I (-1099511627776), I 1099511627776], .osl 4 0 8 3, .fn (.func 145) [] [.ptr 3 0]] [[.cells 81 (Fact.c a1), .cells 3 [I a2], .cells 171 [.nils, .nilf], .cells 238 [.ptr 0 21]], [.cells 81 (Fact.c a1), .cells 3 [I a2], .cells 171 [.nils, .nilf], .cells 238 [.ptr 0 21], .rowr 181 3 [[.ptr 0 21, I 0, I 39], [.ptr 0 22, I 0, I 255], [.ptr 0 23, I (-1099511627776), I 1099511627776], [.ptr 0 24, I 0, I 39], [.ptr 0 25, I 0, I 255], [.ptr 0 26, I (-1099511627776), I 1099511627776], [.ptr 0 27, I (-1099511627776), I 1099511627776], [.ptr 0 28, I (-1099511627776), I 1099511627776]]]] ([.cells 81 (Fact.c a1), .cells 3 [I a2], .cells 171 [.nils, .nilf], .cells 238 [.ptr 0 21], .rowr 181 3 [[.ptr 0 21, I 0, I 39], [.ptr 0 22, I 0, I 255], [.ptr 0 23, I (-1099511627776), I 1099511627776], [.ptr 0 24, I 0, I 39], [.ptr 0 25, I 0, I 255], [.ptr 0 26, I (-1099511627776), I 1099511627776], [.ptr 0 27, I (-1099511627776), I 1099511627776], [.ptr 0 28, I (-1099511627776), I 1099511627776]]]) draws Z Z Z Z Z Z Z ?_ Z ?_
  ·refine OblM.cons (Qa (v0 Z Z) (Qa (v0 Z Z) (Qe))) (OblM.cons ?_ (OblM.cons (Qa (v0 Z Z) (Qa (v0 Z Z) (Qe))) (OblM.cons (Qa (v0 Z Z) (Qa (v0 Z Z) (Qe))) (OblM.cons (Qa (v0 Z Z) (Qa (v0 Z Z) (Qe))) (OblM.cons (Qa (v0 Z Z) (Qa (v0 Z Z) (Qe))) (OblM.cons ?_ (OblM.cons (Qa (v0 Z Z) (Qa (v0 Z Z) (Qe))) (OblM.cons (Qa (v0 Z Z) (Qa (v0 Z Z) (Qe))) (OblM.cons (Qa (v0 Z Z) (Qa (v0 Z Z) (Qe))) (OblM.cons (Qa (v0 Z Z) (Qa (v0 Z Z) (Qe))) (OblM.cons ?_ (OblM.cons (Qa (v0 Z Z) (Qa (v0 Z Z) (Qe))) (OblM.cons (Qa (v0 Z Z) (Qa (v0 Z Z) (Qe))) (OblM.cons (Qa (v0 Z Z) (Qa (v0 Z Z) (Qe))) (OblM.cons (Qa (v0 Z Z) (Qa (v0 Z Z) (Qe))) (OblM.cons ?_ (OblM.cons (Qa (v0 Z Z) (Qa (v0 Z Z) (Qe))) (OblM.cons (Qa (v0 Z Z) (Qa (v0 Z Z) (Qe))) (OblM.cons (Qa (v0 Z Z) (Qa (v0 Z Z) (Qe))) (OblM.cons (Qa (v0 Z Z) (Qa (v0 Z Z) (Qe))) (OblM.cons ?_ (OblM.cons (Qa (v0 Z Z) (Qa (v0 Z Z) (Qe))) (OblM.cons (Qa (v0 Z Z) (Qa (v0 Z Z) (Qe))) (OblM.cons (Qa (v0 Z Z) (Qa (v0 Z Z) (Qe))) (OblM.cons (Qa (v0 Z Z) (Qa (v0 Z Z) (Qe))) (OblM.cons ?_ (OblM.cons (Qa (v0 Z Z) (Qa (v0 Z Z) (Qe))) (OblM.cons (Qa (v0 Z Z) (Qa (v0 Z Z) (Qe))) (OblM.cons (Qa (v0 Z Z) (Qa (v0 Z Z) (Qe))) (OblM.cons (Qa (v0 Z Z) (Qa (v0 Z Z) (Qe))) (OblM.cons ?_ (OblM.cons (Qa (v0 Z Z) (Qa (v0 Z Z) (Qe))) (OblM.cons (Qa (v0 Z Z) (Qa (v0 Z Z) (Qe))) (OblM.cons (Qa (v0 Z Z) (Qa (v0 Z Z) (Qe))) (OblM.cons (Qa (v0 Z Z) (Qa (v0 Z Z) (Qe))) (OblM.cons ?_ (OblM.cons (Qa (v0 Z Z) (Qa (v0 Z Z) (Qe))) (OblM.cons (Qa (v0 Z Z) (Qa (v0 Z Z) (Qe))) (OblM.cons (Qa (v0 Z Z) (Qa (v0 Z Z) (Qe))) (OblM.cons ?_ (OblM.cons (Qa (v0 Z Z) (Qa (v0 Z Z) (Qe))) (OblM.nil))))))))))))))))))))))))))))))))))))))))))
   ·refine Qa ?_ (Qa ?_ (Qe))
    ·refine Om Z (sD 0 sN) ?_
     exact S Z Wp
    ·refine Om Z (sD 0 sN) ?_
     exact S Z Wp
   ·refine Qa ?_ (Qa ?_ (Qe))
    ·refine Om Z (sD 5 sN) ?_
     exact S Z Wp
    ·refine Om Z (sD 5 sN) ?_
     exact S Z Wp
   ·refine Qa ?_ (Qa ?_ (Qe))
    ·refine Om Z (sD 10 sN) ?_
     exact S Z Wp
    ·refine Om Z (sD 10 sN) ?_
     exact S Z Wp
   ·refine Qa ?_ (Qa ?_ (Qe))
    ·refine Om Z (sD 15 sN) ?_
     exact S Z Wp
    ·refine Om Z (sD 15 sN) ?_
     exact S Z Wp
   ·refine Qa ?_ (Qa ?_ (Qe))
    ·refine Om Z (sD 20 sN) ?_
     exact S Z Wp
    ·refine Om Z (sD 20 sN) ?_
     exact S Z Wp
   ·refine Qa ?_ (Qa ?_ (Qe))
    ·refine Om Z (sD 25 sN) ?_
     exact S Z Wp
    ·refine Om Z (sD 25 sN) ?_
     exact S Z Wp
   ·refine Qa ?_ (Qa ?_ (Qe))
    ·refine Om Z (sD 30 sN) ?_
     exact S Z Wp
    ·refine Om Z (sD 30 sN) ?_
     exact S Z Wp
   ·refine Qa ?_ (Qa ?_ (Qe))
    ·refine Om Z (sD 35 sN) ?_
     exact S Z Wp
    ·refine Om Z (sD 35 sN) ?_
     exact S Z Wp
   ·refine Qa ?_ (Qe)
    ·refine Om1 Z (sD 4 (sD 9 (sD 14 (sD 19 (sD 24 (sD 29 (sD 34 (sD 39 sN)))))))) ?_
     refine vH (Q9 (xs := [.tmp 138, .tmp 143, .tmp 148, .tmp 153, .tmp 158, .tmp 163, .tmp 168, .tmp 173]) Yz Z Z Z Z Z ⟨Z, Z, Z, Z, Z, Z, Z, Z, trivial⟩ Z) ?_
     refine aV (.osl 4 0 8 3) [_, _, _, _, .rowr 181 3 [[.ptr 0 21, I 0, I 39], [.ptr 0 22, I 0, I 255], [.ptr 0 23, I (-1099511627776), I 1099511627776], [.ptr 0 24, I 0, I 39], [.ptr 0 25, I 0, I 255], [.ptr 0 26, I (-1099511627776), I 1099511627776], [.ptr 0 27, I (-1099511627776), I 1099511627776], [.ptr 0 28, I (-1099511627776), I 1099511627776]]] Z Z ?_
     exact Wp
  refine U 3 Z (Nx (TC.ret (Qj (Qi ?_))))
  obtain rfl := Oi h
  refine ⟨[(4, .ptr 4 0), (5, .bool true)], [.cells 81 (Fact.c a1), .cells 3 [I a2], .rowr 181 3 [[.ptr 0 21, I 0, I 39], [.ptr 0 22, I 0, I 255], [.ptr 0 23, I (-1099511627776), I 1099511627776], [.ptr 0 24, I 0, I 39], [.ptr 0 25, I 0, I 255], [.ptr 0 26, I (-1099511627776), I 1099511627776], [.ptr 0 27, I (-1099511627776), I 1099511627776], [.ptr 0 28, I (-1099511627776), I 1099511627776]], .cells 238 [.ptr 0 21], .cells 171 [.osl 2 0 8 3, .fn (.func 145) [] [.ptr 3 0]]], _, ?_, QG Z Z (ResL.cons (Qq isAgg171 sizeOf171 Z Z Z) (ResL.cons ResAt.tmp ResL.nil)), Z, Z⟩
  exact Lr [0, 1, 4, 3, 2]
 refine Rg (U 2 Z (Nx (Cn Z h (fun hc5 h => ?_) (fun hc5 h => ?_))))
 ·refine Rg (U 5 Z (Nx (TC.seq ?_)))
  refine Q2 22 0 [182, 183, 184, 185, 186, 187, 188, 189, 190, 191, 192, 193, 194, 195, 196, 197, 198, 199, 200, 201, 202, 203] [false, false, false, false, false, false, false, false, false, false, false, false, false, false, false, false, false, false, false, false, true, false] [[], [], [], [], [], [], [], [], [], [], [], [], [], [], [], [], [], [], [], [], [], []] [[], [20]] [[(0, 0), (1, 1)], [(0, 0), (1, 1)], [(0, 0), (1, 1)], [(0, 0), (1, 1)], [(0, 0), (1, 1)], [(0, 0), (1, 1)], [(0, 0), (1, 1)], [(0, 0), (1, 1)], [(0, 0), (1, 1)], [(0, 0), (1, 1)], [(0, 0), (1, 1)], [(0, 0), (1, 1)], [(0, 0), (1, 1)], [(0, 0), (1, 1)], [(0, 0), (1, 1)], [(0, 0), (1, 1)], [(0, 0), (1, 1)], [(0, 0), (1, 1)], [(0, 0), (1, 1)], [(0, 0), (1, 1)], [(0, 1)], [(0, 0), (1, 1)]] [.ptr 0 29, .ptr 0 29, .ptr 0 29, .agg [I 1, I 9999], .agg [.ptr 0 29, I 1, I 9999], .ptr 0 29, .ptr 0 29, .ptr 0 30, .agg [I 0, I 255], .agg [.ptr 0 30, I 0, I 255], .ptr 0 29, .ptr 0 29, .ptr 0 31, .agg [I (-1099511627776), I 1099511627776], .agg [.ptr 0 31, I (-1099511627776), I 1099511627776], .ptr 0 29, .ptr 0 29, .ptr 0 32, .agg [I (-1099511627776), I 1099511627776], .agg [.ptr 0 32, I (-1099511627776), I 1099511627776], .osl 4 0 4 3, .fn (.func 146) [] [.ptr 3 0]] [[.cells 81 (Fact.c a1), .cells 3 [I a2], .cells 171 [.nils, .nilf], .cells 239 [.ptr 0 29]], [.cells 81 (Fact.c a1), .cells 3 [I a2], .cells 171 [.nils, .nilf], .cells 239 [.ptr 0 29], .rowr 181 3 [[.ptr 0 29, I 1, I 9999], [.ptr 0 30, I 0, I 255], [.ptr 0 31, I (-1099511627776), I 1099511627776], [.ptr 0 32, I (-1099511627776), I 1099511627776]]]] ([.cells 81 (Fact.c a1), .cells 3 [I a2], .cells 171 [.nils, .nilf], .cells 239 [.ptr 0 29], .rowr 181 3 [[.ptr 0 29, I 1, I 9999], [.ptr 0 30, I 0, I 255], [.ptr 0 31, I (-1099511627776), I 1099511627776], [.ptr 0 32, I (-1099511627776), I 1099511627776]]]) draws Z Z Z Z Z Z Z ?_ Z ?_
  ·refine OblM.cons (Qa (v0 Z Z) (Qa (v0 Z Z) (Qe))) (OblM.cons ?_ (OblM.cons (Qa (v0 Z Z) (Qa (v0 Z Z) (Qe))) (OblM.cons (Qa (v0 Z Z) (Qa (v0 Z Z) (Qe))) (OblM.cons (Qa (v0 Z Z) (Qa (v0 Z Z) (Qe))) (OblM.cons (Qa (v0 Z Z) (Qa (v0 Z Z) (Qe))) (OblM.cons ?_ (OblM.cons (Qa (v0 Z Z) (Qa (v0 Z Z) (Qe))) (OblM.cons (Qa (v0 Z Z) (Qa (v0 Z Z) (Qe))) (OblM.cons (Qa (v0 Z Z) (Qa (v0 Z Z) (Qe))) (OblM.cons (Qa (v0 Z Z) (Qa (v0 Z Z) (Qe))) (OblM.cons ?_ (OblM.cons (Qa (v0 Z Z) (Qa (v0 Z Z) (Qe))) (OblM.cons (Qa (v0 Z Z) (Qa (v0 Z Z) (Qe))) (OblM.cons (Qa (v0 Z Z) (Qa (v0 Z Z) (Qe))) (OblM.cons (Qa (v0 Z Z) (Qa (v0 Z Z) (Qe))) (OblM.cons ?_ (OblM.cons (Qa (v0 Z Z) (Qa (v0 Z Z) (Qe))) (OblM.cons (Qa (v0 Z Z) (Qa (v0 Z Z) (Qe))) (OblM.cons (Qa (v0 Z Z) (Qa (v0 Z Z) (Qe))) (OblM.cons ?_ (OblM.cons (Qa (v0 Z Z) (Qa (v0 Z Z) (Qe))) (OblM.nil))))))))))))))))))))))
   ·refine Qa ?_ (Qa ?_ (Qe))
    ·refine Om Z (sD 0 sN) ?_
     exact S Z Wp
    ·refine Om Z (sD 0 sN) ?_
     exact S Z Wp
   ·refine Qa ?_ (Qa ?_ (Qe))
    ·refine Om Z (sD 5 sN) ?_
     exact S Z Wp
    ·refine Om Z (sD 5 sN) ?_
     exact S Z Wp
   ·refine Qa ?_ (Qa ?_ (Qe))
    ·refine Om Z (sD 10 sN) ?_
     exact S Z Wp
    ·refine Om Z (sD 10 sN) ?_
     exact S Z Wp
   ·refine Qa ?_ (Qa ?_ (Qe))
    ·refine Om Z (sD 15 sN) ?_
     exact S Z Wp
    ·refine Om Z (sD 15 sN) ?_
     exact S Z Wp
   ·refine Qa ?_ (Qe)
    ·refine Om1 Z (sD 4 (sD 9 (sD 14 (sD 19 sN)))) ?_
     refine vH (Q9 (xs := [.tmp 186, .tmp 191, .tmp 196, .tmp 201]) Yz Z Z Z Z Z ⟨Z, Z, Z, Z, trivial⟩ Z) ?_
     refine aV (.osl 4 0 4 3) [_, _, _, _, .rowr 181 3 [[.ptr 0 29, I 1, I 9999], [.ptr 0 30, I 0, I 255], [.ptr 0 31, I (-1099511627776), I 1099511627776], [.ptr 0 32, I (-1099511627776), I 1099511627776]]] Z Z ?_
     exact Wp
  refine U 3 Z (Nx (TC.ret (Qj (Qi ?_))))
  obtain rfl := Oi h
  refine ⟨[(4, .ptr 4 0), (5, .bool true)], [.cells 81 (Fact.c a1), .cells 3 [I a2], .rowr 181 3 [[.ptr 0 29, I 1, I 9999], [.ptr 0 30, I 0, I 255], [.ptr 0 31, I (-1099511627776), I 1099511627776], [.ptr 0 32, I (-1099511627776), I 1099511627776]], .cells 239 [.ptr 0 29], .cells 171 [.osl 2 0 4 3, .fn (.func 146) [] [.ptr 3 0]]], _, ?_, QG Z Z (ResL.cons (Qq isAgg171 sizeOf171 Z Z Z) (ResL.cons ResAt.tmp ResL.nil)), Z, Z⟩
  exact Lr [0, 1, 4, 3, 2]
 refine Rg (U 2 Z (Nx (Cn Z h (fun hc6 h => ?_) (fun hc6 h => ?_))))
 ·refine Rg (U 5 Z (Nx (TC.seq ?_)))
  refine Q2 22 0 [210, 211, 212, 213, 214, 215, 216, 217, 218, 219, 220, 221, 222, 223, 224, 225, 226, 227, 228, 229, 230, 231] [false, false, false, false, false, false, false, false, false, false, false, false, false, false, false, false, false, false, false, false, true, false] [[], [], [], [], [], [], [], [], [], [], [], [], [], [], [], [], [], [], [], [], [], []] [[], [20]] [[(0, 0), (1, 1)], [(0, 0), (1, 1)], [(0, 0), (1, 1)], [(0, 0), (1, 1)], [(0, 0), (1, 1)], [(0, 0), (1, 1)], [(0, 0), (1, 1)], [(0, 0), (1, 1)], [(0, 0), (1, 1)], [(0, 0), (1, 1)], [(0, 0), (1, 1)], [(0, 0), (1, 1)], [(0, 0), (1, 1)], [(0, 0), (1, 1)], [(0, 0), (1, 1)], [(0, 0), (1, 1)], [(0, 0), (1, 1)], [(0, 0), (1, 1)], [(0, 0), (1, 1)], [(0, 0), (1, 1)], [(0, 1)], [(0, 0), (1, 1)]] [.ptr 0 33, .ptr 0 33, .ptr 0 33, .agg [I 0, I 39], .agg [.ptr 0 33, I 0, I 39], .ptr 0 33, .ptr 0 33, .ptr 0 34, .agg [I 0, I 255], .agg [.ptr 0 34, I 0, I 255], .ptr 0 33, .ptr 0 33, .ptr 0 35, .agg [I (-1099511627776), I 1099511627776], .agg [.ptr 0 35, I (-1099511627776), I 1099511627776], .ptr 0 33, .ptr 0 33, .ptr 0 36, .agg [I (-1099511627776), I 1099511627776], .agg [.ptr 0 36, I (-1099511627776), I 1099511627776], .osl 4 0 4 3, .fn (.func 147) [] [.ptr 3 0]] [[.cells 81 (Fact.c a1), .cells 3 [I a2], .cells 171 [.nils, .nilf], .cells 240 [.ptr 0 33]], [.cells 81 (Fact.c a1), .cells 3 [I a2], .cells 171 [.nils, .nilf], .cells 240 [.ptr 0 33], .rowr 181 3 [[.ptr 0 33, I 0, I 39], [.ptr 0 34, I 0, I 255], [.ptr 0 35, I (-1099511627776), I 1099511627776], [.ptr 0 36, I (-1099511627776), I 1099511627776]]]] ([.cells 81 (Fact.c a1), .cells 3 [I a2], .cells 171 [.nils, .nilf], .cells 240 [.ptr 0 33], .rowr 181 3 [[.ptr 0 33, I 0, I 39], [.ptr 0 34, I 0, I 255], [.ptr 0 35, I (-1099511627776), I 1099511627776], [.ptr 0 36, I (-1099511627776), I 1099511627776]]]) draws Z Z Z Z Z Z Z ?_ Z ?_
  ·refine OblM.cons (Qa (v0 Z Z) (Qa (v0 Z Z) (Qe))) (OblM.cons ?_ (OblM.cons (Qa (v0 Z Z) (Qa (v0 Z Z) (Qe))) (OblM.cons (Qa (v0 Z Z) (Qa (v0 Z Z) (Qe))) (OblM.cons (Qa (v0 Z Z) (Qa (v0 Z Z) (Qe))) (OblM.cons (Qa (v0 Z Z) (Qa (v0 Z Z) (Qe))) (OblM.cons ?_ (OblM.cons (Qa (v0 Z Z) (Qa (v0 Z Z) (Qe))) (OblM.cons (Qa (v0 Z Z) (Qa (v0 Z Z) (Qe))) (OblM.cons (Qa (v0 Z Z) (Qa (v0 Z Z) (Qe))) (OblM.cons (Qa (v0 Z Z) (Qa (v0 Z Z) (Qe))) (OblM.cons ?_ (OblM.cons (Qa (v0 Z Z) (Qa (v0 Z Z) (Qe))) (OblM.cons (Qa (v0 Z Z) (Qa (v0 Z Z) (Qe))) (OblM.cons (Qa (v0 Z Z) (Qa (v0 Z Z) (Qe))) (OblM.cons (Qa (v0 Z Z) (Qa (v0 Z Z) (Qe))) (OblM.cons ?_ (OblM.cons (Qa (v0 Z Z) (Qa (v0 Z Z) (Qe))) (OblM.cons (Qa (v0 Z Z) (Qa (v0 Z Z) (Qe))) (OblM.cons (Qa (v0 Z Z) (Qa (v0 Z Z) (Qe))) (OblM.cons ?_ (OblM.cons (Qa (v0 Z Z) (Qa (v0 Z Z) (Qe))) (OblM.nil))))))))))))))))))))))
   ·refine Qa ?_ (Qa ?_ (Qe))
    ·refine Om Z (sD 0 sN) ?_
     exact S Z Wp
    ·refine Om Z (sD 0 sN) ?_
     exact S Z Wp
   ·refine Qa ?_ (Qa ?_ (Qe))
    ·refine Om Z (sD 5 sN) ?_
     exact S Z Wp
    ·refine Om Z (sD 5 sN) ?_
     exact S Z Wp
   ·refine Qa ?_ (Qa ?_ (Qe))
    ·refine Om Z (sD 10 sN) ?_
     exact S Z Wp
    ·refine Om Z (sD 10 sN) ?_
     exact S Z Wp
   ·refine Qa ?_ (Qa ?_ (Qe))
    ·refine Om Z (sD 15 sN) ?_
     exact S Z Wp
    ·refine Om Z (sD 15 sN) ?_
     exact S Z Wp
   ·refine Qa ?_ (Qe)
    ·refine Om1 Z (sD 4 (sD 9 (sD 14 (sD 19 sN)))) ?_
     refine vH (Q9 (xs := [.tmp 214, .tmp 219, .tmp 224, .tmp 229]) Yz Z Z Z Z Z ⟨Z, Z, Z, Z, trivial⟩ Z) ?_
     refine aV (.osl 4 0 4 3) [_, _, _, _, .rowr 181 3 [[.ptr 0 33, I 0, I 39], [.ptr 0 34, I 0, I 255], [.ptr 0 35, I (-1099511627776), I 1099511627776], [.ptr 0 36, I (-1099511627776), I 1099511627776]]] Z Z ?_
     exact Wp
  refine U 3 Z (Nx (TC.ret (Qj (Qi ?_))))
  obtain rfl := Oi h
  refine ⟨[(4, .ptr 4 0), (5, .bool true)], [.cells 81 (Fact.c a1), .cells 3 [I a2], .rowr 181 3 [[.ptr 0 33, I 0, I 39], [.ptr 0 34, I 0, I 255], [.ptr 0 35, I (-1099511627776), I 1099511627776], [.ptr 0 36, I (-1099511627776), I 1099511627776]], .cells 240 [.ptr 0 33], .cells 171 [.osl 2 0 4 3, .fn (.func 147) [] [.ptr 3 0]]], _, ?_, QG Z Z (ResL.cons (Qq isAgg171 sizeOf171 Z Z Z) (ResL.cons ResAt.tmp ResL.nil)), Z, Z⟩
  exact Lr [0, 1, 4, 3, 2]
 refine Rg (U 2 Z (Nx (Cn Z h (fun hc7 h => ?_) (fun hc7 h => ?_))))
 ·refine Rg (U 5 Z (Nx (TC.seq ?_)))
  refine Q2 12 0 [238, 239, 240, 241, 242, 243, 244, 245, 246, 247, 248, 249] [false, false, false, false, false, false, false, false, false, false, true, false] [[], [], [], [], [], [], [], [], [], [], [], []] [[], [10]] [[(0, 0), (1, 1)], [(0, 0), (1, 1)], [(0, 0), (1, 1)], [(0, 0), (1, 1)], [(0, 0), (1, 1)], [(0, 0), (1, 1)], [(0, 0), (1, 1)], [(0, 0), (1, 1)], [(0, 0), (1, 1)], [(0, 0), (1, 1)], [(0, 1)], [(0, 0), (1, 1)]] [.ptr 0 37, .ptr 0 37, .ptr 0 37, .agg [I 1, I 9999], .agg [.ptr 0 37, I 1, I 9999], .ptr 0 37, .ptr 0 37, .ptr 0 38, .agg [I 1, I 9999], .agg [.ptr 0 38, I 1, I 9999], .osl 4 0 2 3, .fn (.func 148) [] [.ptr 3 0]] [[.cells 81 (Fact.c a1), .cells 3 [I a2], .cells 171 [.nils, .nilf], .cells 241 [.ptr 0 37]], [.cells 81 (Fact.c a1), .cells 3 [I a2], .cells 171 [.nils, .nilf], .cells 241 [.ptr 0 37], .rowr 181 3 [[.ptr 0 37, I 1, I 9999], [.ptr 0 38, I 1, I 9999]]]] ([.cells 81 (Fact.c a1), .cells 3 [I a2], .cells 171 [.nils, .nilf], .cells 241 [.ptr 0 37], .rowr 181 3 [[.ptr 0 37, I 1, I 9999], [.ptr 0 38, I 1, I 9999]]]) draws Z Z Z Z Z Z Z ?_ Z ?_
  ·refine OblM.cons (Qa (v0 Z Z) (Qa (v0 Z Z) (Qe))) (OblM.cons ?_ (OblM.cons (Qa (v0 Z Z) (Qa (v0 Z Z) (Qe))) (OblM.cons (Qa (v0 Z Z) (Qa (v0 Z Z) (Qe))) (OblM.cons (Qa (v0 Z Z) (Qa (v0 Z Z) (Qe))) (OblM.cons (Qa (v0 Z Z) (Qa (v0 Z Z) (Qe))) (OblM.cons ?_ (OblM.cons (Qa (v0 Z Z) (Qa (v0 Z Z) (Qe))) (OblM.cons (Qa (v0 Z Z) (Qa (v0 Z Z) (Qe))) (OblM.cons (Qa (v0 Z Z) (Qa (v0 Z Z) (Qe))) (OblM.cons ?_ (OblM.cons (Qa (v0 Z Z) (Qa (v0 Z Z) (Qe))) (OblM.nil))))))))))))
   ·refine Qa ?_ (Qa ?_ (Qe))
    ·refine Om Z (sD 0 sN) ?_
     exact S Z Wp
    ·refine Om Z (sD 0 sN) ?_
     exact S Z Wp
   ·refine Qa ?_ (Qa ?_ (Qe))
    ·refine Om Z (sD 5 sN) ?_
     exact S Z Wp
    ·refine Om Z (sD 5 sN) ?_
     exact S Z Wp
   ·refine Qa ?_ (Qe)
    ·refine Om1 Z (sD 4 (sD 9 sN)) ?_
     refine vH (Q9 (xs := [.tmp 242, .tmp 247]) Yz Z Z Z Z Z ⟨Z, Z, trivial⟩ Z) ?_
     refine aV (.osl 4 0 2 3) [_, _, _, _, .rowr 181 3 [[.ptr 0 37, I 1, I 9999], [.ptr 0 38, I 1, I 9999]]] Z Z ?_
     exact Wp
  refine U 3 Z (Nx (TC.ret (Qj (Qi ?_))))
  obtain rfl := Oi h
  refine ⟨[(4, .ptr 4 0), (5, .bool true)], [.cells 81 (Fact.c a1), .cells 3 [I a2], .rowr 181 3 [[.ptr 0 37, I 1, I 9999], [.ptr 0 38, I 1, I 9999]], .cells 241 [.ptr 0 37], .cells 171 [.osl 2 0 2 3, .fn (.func 148) [] [.ptr 3 0]]], _, ?_, QG Z Z (ResL.cons (Qq isAgg171 sizeOf171 Z Z Z) (ResL.cons ResAt.tmp ResL.nil)), Z, Z⟩
  exact Lr [0, 1, 4, 3, 2]
 refine Rg (U 2 Z (Nx (Cn Z h (fun hc8 h => ?_) (fun hc8 h => ?_))))
 ·refine Rg (U 4 Z (Nx (TC.seq ?_)))
  refine UD 20 Z (by kernel_rfl) ?_
  refine vH (Q9 (xs := [.tmp 260, .tmp 265, .tmp 270, .tmp 275]) Yz Z Z Z Z Z ⟨Z, Z, Z, Z, trivial⟩ Z) ?_
  refine aV (.osl 3 0 4 3) [_, _, _, .rowr 181 3 [[.ptr 0 39, I 1, I 1048576], [.ptr 0 40, I 1, I 9999], [.ptr 0 41, I 0, I 31], [.ptr 0 42, I 0, I 255]]] Z Z ?_
  refine U 3 Z (Nx (TC.ret (Qj (Qi ?_))))
  obtain rfl := Oi h
  refine ⟨[(4, .ptr 3 0), (5, .bool true)], [.cells 81 (Fact.c a1), .cells 3 [I a2], .rowr 181 3 [[.ptr 0 39, I 1, I 1048576], [.ptr 0 40, I 1, I 9999], [.ptr 0 41, I 0, I 31], [.ptr 0 42, I 0, I 255]], .cells 171 [.osl 2 0 4 3, .fn (.func 144) [] []]], _, ?_, QG Z Z (ResL.cons (Qq isAgg171 sizeOf171 Z Z Z) (ResL.cons ResAt.tmp ResL.nil)), Z, Z⟩
  exact Lr [0, 1, 3, 2]
 refine Rg (U 2 Z (Nx (Cn Z h (fun hc9 h => ?_) (fun hc9 h => ?_))))
 ·refine Rg (U 4 Z (Nx (TC.seq ?_)))
  refine UD 20 Z (by kernel_rfl) ?_
  refine vH (Q9 (xs := [.tmp 287, .tmp 292, .tmp 297, .tmp 302]) Yz Z Z Z Z Z ⟨Z, Z, Z, Z, trivial⟩ Z) ?_
  refine aV (.osl 3 0 4 3) [_, _, _, .rowr 181 3 [[.ptr 0 43, I 1, I 1048576], [.ptr 0 44, I 0, I 9999], [.ptr 0 45, I 0, I 1125899906842624], [.ptr 0 46, I 0, I 1]]] Z Z ?_
  refine U 3 Z (Nx (TC.ret (Qj (Qi ?_))))
  obtain rfl := Oi h
  refine ⟨[(4, .ptr 3 0), (5, .bool true)], [.cells 81 (Fact.c a1), .cells 3 [I a2], .rowr 181 3 [[.ptr 0 43, I 1, I 1048576], [.ptr 0 44, I 0, I 9999], [.ptr 0 45, I 0, I 1125899906842624], [.ptr 0 46, I 0, I 1]], .cells 171 [.osl 2 0 4 3, .fn (.func 144) [] []]], _, ?_, QG Z Z (ResL.cons (Qq isAgg171 sizeOf171 Z Z Z) (ResL.cons ResAt.tmp ResL.nil)), Z, Z⟩
  exact Lr [0, 1, 3, 2]
 refine Rg (U 2 Z (Nx (Cn Z h (fun hc10 h => ?_) (fun hc10 h => ?_))))
 ·refine Rg (U 4 Z (Nx (TC.seq ?_)))
  refine Q2 8 3 [310, 311, 312, 16, 17, 18, 1000006, 1000007] [false, false, false, true, true, true, true, true] [[], [], [], [], [], [], [3, 4, 5], [3, 4, 5, 6]] [[], [3], [4], [5], [3, 4], [3, 5], [4, 5], [3, 4, 5], [3, 4, 5, 6], [3, 4, 5, 6, 7]] [[(0, 0), (1, 1), (2, 2), (3, 3), (4, 4), (5, 5), (6, 6), (7, 7), (8, 8), (9, 9)], [(0, 0), (1, 1), (2, 2), (3, 3), (4, 4), (5, 5), (6, 6), (7, 7), (8, 8), (9, 9)], [(0, 0), (1, 1), (2, 2), (3, 3), (4, 4), (5, 5), (6, 6), (7, 7), (8, 8), (9, 9)], [(0, 1), (2, 4), (3, 5), (6, 7)], [(0, 2), (1, 4), (3, 6), (5, 7)], [(0, 3), (1, 5), (2, 6), (4, 7)], [(7, 8)], [(8, 9)]] [.agg [I 1, I 9999], .agg [I 0, I 255], .agg [I 0, I 0], .ptr 3 0, .ptr 4 0, .ptr 5 0, .any, .any] [[.cells 81 (Fact.c a1), .cells 3 [I a2], .cells 171 [.nils, .nilf], .dead, .dead, .dead], [.cells 81 (Fact.c a1), .cells 3 [I a2], .cells 171 [.nils, .nilf], .cells 179 [I 0, I 0], .dead, .dead], [.cells 81 (Fact.c a1), .cells 3 [I a2], .cells 171 [.nils, .nilf], .dead, .cells 179 [I 0, I 0], .dead], [.cells 81 (Fact.c a1), .cells 3 [I a2], .cells 171 [.nils, .nilf], .dead, .dead, .cells 179 [I 0, I 0]], [.cells 81 (Fact.c a1), .cells 3 [I a2], .cells 171 [.nils, .nilf], .cells 179 [I 0, I 0], .cells 179 [I 0, I 0], .dead], [.cells 81 (Fact.c a1), .cells 3 [I a2], .cells 171 [.nils, .nilf], .cells 179 [I 0, I 0], .dead, .cells 179 [I 0, I 0]], [.cells 81 (Fact.c a1), .cells 3 [I a2], .cells 171 [.nils, .nilf], .dead, .cells 179 [I 0, I 0], .cells 179 [I 0, I 0]], [.cells 81 (Fact.c a1), .cells 3 [I a2], .cells 171 [.nils, .nilf], .cells 179 [I 0, I 0], .cells 179 [I 0, I 0], .cells 179 [I 0, I 0]], [.cells 81 (Fact.c a1), .cells 3 [I a2], .cells 171 [.nils, .nilf], .cells 179 [I 1, I 9999], .cells 179 [I 0, I 0], .cells 179 [I 0, I 0]], [.cells 81 (Fact.c a1), .cells 3 [I a2], .cells 171 [.nils, .nilf], .cells 179 [I 1, I 9999], .cells 179 [I 0, I 255], .cells 179 [I 0, I 0]]] ([.cells 81 (Fact.c a1), .cells 3 [I a2], .cells 171 [.nils, .nilf], .cells 179 [I 1, I 9999], .cells 179 [I 0, I 255], .cells 179 [I 0, I 0]]) draws Z Z Z Z Z Z Z ?_ Z ?_
  ·refine OblM.cons (Qa (v0 Z Z) (Qa (v0 Z Z) (Qa (v0 Z Z) (Qa (v0 Z Z) (Qa (v0 Z Z) (Qa (v0 Z Z) (Qa (v0 Z Z) (Qa (v0 Z Z) (Qa (v0 Z Z) (Qa (v0 Z Z) (Qe))))))))))) (OblM.cons (Qa (v0 Z Z) (Qa (v0 Z Z) (Qa (v0 Z Z) (Qa (v0 Z Z) (Qa (v0 Z Z) (Qa (v0 Z Z) (Qa (v0 Z Z) (Qa (v0 Z Z) (Qa (v0 Z Z) (Qa (v0 Z Z) (Qe))))))))))) (OblM.cons (Qa (v0 Z Z) (Qa (v0 Z Z) (Qa (v0 Z Z) (Qa (v0 Z Z) (Qa (v0 Z Z) (Qa (v0 Z Z) (Qa (v0 Z Z) (Qa (v0 Z Z) (Qa (v0 Z Z) (Qa (v0 Z Z) (Qe))))))))))) (OblM.cons ?_ (OblM.cons ?_ (OblM.cons ?_ (OblM.cons ?_ (OblM.cons ?_ (OblM.nil))))))))
   ·refine Qa ?_ (Qa ?_ (Qa ?_ (Qa ?_ (Qe))))
    ·exact OblS.alloc _ 16 179 3 _ Z Z Z Z Z Z Z (OpZ.alloc (v := (.agg [I 0, I 0])) zeroValue179 (zrC Z)) Z
    ·exact OblS.alloc _ 16 179 3 _ Z Z Z Z Z Z Z (OpZ.alloc (v := (.agg [I 0, I 0])) zeroValue179 (zrC Z)) Z
    ·exact OblS.alloc _ 16 179 3 _ Z Z Z Z Z Z Z (OpZ.alloc (v := (.agg [I 0, I 0])) zeroValue179 (zrC Z)) Z
    ·exact OblS.alloc _ 16 179 3 _ Z Z Z Z Z Z Z (OpZ.alloc (v := (.agg [I 0, I 0])) zeroValue179 (zrC Z)) Z
   ·refine Qa ?_ (Qa ?_ (Qa ?_ (Qa ?_ (Qe))))
    ·exact OblS.alloc _ 17 179 4 _ Z Z Z Z Z Z Z (OpZ.alloc (v := (.agg [I 0, I 0])) zeroValue179 (zrC Z)) Z
    ·exact OblS.alloc _ 17 179 4 _ Z Z Z Z Z Z Z (OpZ.alloc (v := (.agg [I 0, I 0])) zeroValue179 (zrC Z)) Z
    ·exact OblS.alloc _ 17 179 4 _ Z Z Z Z Z Z Z (OpZ.alloc (v := (.agg [I 0, I 0])) zeroValue179 (zrC Z)) Z
    ·exact OblS.alloc _ 17 179 4 _ Z Z Z Z Z Z Z (OpZ.alloc (v := (.agg [I 0, I 0])) zeroValue179 (zrC Z)) Z
   ·refine Qa ?_ (Qa ?_ (Qa ?_ (Qa ?_ (Qe))))
    ·exact OblS.alloc _ 18 179 5 _ Z Z Z Z Z Z Z (OpZ.alloc (v := (.agg [I 0, I 0])) zeroValue179 (zrC Z)) Z
    ·exact OblS.alloc _ 18 179 5 _ Z Z Z Z Z Z Z (OpZ.alloc (v := (.agg [I 0, I 0])) zeroValue179 (zrC Z)) Z
    ·exact OblS.alloc _ 18 179 5 _ Z Z Z Z Z Z Z (OpZ.alloc (v := (.agg [I 0, I 0])) zeroValue179 (zrC Z)) Z
    ·exact OblS.alloc _ 18 179 5 _ Z Z Z Z Z Z Z (OpZ.alloc (v := (.agg [I 0, I 0])) zeroValue179 (zrC Z)) Z
   ·refine Qa ?_ (Qe)
    ·refine Om2 Z (sD 3 (sD 0 sN)) ?_
     refine vU (OpU.store Z Z Z sizeOf179 Z Z Z Z Z Z Z) ?_
     refine Ql (H := [_, _, _, .cells 179 [I 1, I 9999], _, _]) Z ?_
     exact Wp
   ·refine Qa ?_ (Qe)
    ·refine Om2 Z (sD 4 (sD 1 sN)) ?_
     refine vU (OpU.store Z Z Z sizeOf179 Z Z Z Z Z Z Z) ?_
     refine Ql (H := [_, _, _, _, .cells 179 [I 0, I 255], _]) Z ?_
     exact Wp
  refine U 1 Z (Nx (TC.seq (Rg (U 4 Z (Nx (TC.block (TC.seq (Rg (U 2 Z (Nx (Bd h fun b12 h13 h => ?_)))))))))))
  refine TC.cut ([(4, .ptr 2 0), (15, .ptr 0 47), (16, .ptr 3 0), (17, .ptr 4 0), (18, .ptr 5 0), (316, I a1.Ruling.Kind), (317, .bool b12)]) ([.cells 81 (Fact.c a1), .cells 3 [I a2], .cells 171 [.nils, .nilf], .cells 179 [I 1, I 9999], .cells 179 [I 0, I 255], .cells 179 [I 0, I 0]]) ?_ (fun env H hle => ?_)
  ·refine Cn Z h13 (fun hc14 h13 => ?_) (fun hc14 h13 => ?_)
   ·refine TC.skip ?_
    obtain rfl := Oi h13
    exact cutN (Lr [0, 1, 2, 3, 4, 5])
   refine TC.region (U 2 Z (WO.nil ?_))
   obtain rfl := Oi h13
   exact cutN (Lr [0, 1, 2, 3, 4, 5])
  refine Qf (TC.le hle (Bd h fun b18 h19 h => ?_))
  refine TC.cut ([(4, .ptr 2 0), (15, .ptr 0 47), (16, .ptr 3 0), (17, .ptr 4 0), (18, .ptr 5 0)]) ([.cells 81 (Fact.c a1), .cells 3 [I a2], .cells 171 [.nils, .nilf], .cells 179 (facts_scope.c b18.1), .cells 179 (facts_scope.c b18.2.1), .cells 179 (facts_scope.c b18.2.2)]) ?_ (fun env H hle => ?_)
  ·refine Cn Z h19 (fun hc20 h19 => ?_) (fun hc20 h19 => ?_)
   ·refine TC.region (U 4 Z (WO.nil ?_))
    obtain rfl := Oi h19
    exact cutN (Lr [0, 1, 2, 3, 4, 5])
   refine Rg (U 2 Z (Nx (Cn Z h19 (fun hc21 h19 => ?_) (fun hc21 h19 => ?_))))
   ·refine TC.region (U 2 Z (WO.nil ?_))
    obtain rfl := Oi h19
    exact cutN (Lr [0, 1, 2, 3, 4, 5])
   refine Rg (U 2 Z (Nx (Cn Z h19 (fun hc22 h19 => ?_) (fun hc22 h19 => ?_))))
   ·refine TC.region (U 2 Z (WO.nil ?_))
    obtain rfl := Oi h19
    exact cutN (Lr [0, 1, 2, 3, 4, 5])
   refine TC.skip ?_
   obtain rfl := Oi h19
   exact cutN (Lr [0, 1, 2, 3, 4, 5])
  refine QB (Qf (TC.le hle (TC.seq ?_)))
  refine UD 30 Z (by kernel_rfl) ?_
  refine vH (Q9 (xs := [.tmp 332, .tmp 337, .tmp 342, .tmp 347, .tmp 352, .tmp 357]) Yz Z Z Z Z Z ⟨Z, Z, Z, Z, Z, Z, trivial⟩ Z) ?_
  refine aV (.osl 6 0 6 3) [_, _, _, _, _, _, .rowr 181 3 [[.ptr 0 47, I 1, I 1048576], [.ptr 0 48, I 1, I 2], [.ptr 0 49, I 1, I 5], [.ptr 0 50, I b18.1.least, I b18.1.most], [.ptr 0 51, I b18.2.1.least, I b18.2.1.most], [.ptr 0 52, I b18.2.2.least, I b18.2.2.most]]] Z Z ?_
  refine U 3 Z (Nx (TC.ret (Qj (Qi ?_))))
  obtain rfl := Oi h
  refine ⟨[(4, .ptr 3 0), (5, .bool true)], [.cells 81 (Fact.c a1), .cells 3 [I a2], .rowr 181 3 [[.ptr 0 47, I 1, I 1048576], [.ptr 0 48, I 1, I 2], [.ptr 0 49, I 1, I 5], [.ptr 0 50, I ((b18.1.least, b18.1.most, b18.2.1.least, b18.2.1.most, b18.2.2.least, b18.2.2.most).1), I ((b18.1.least, b18.1.most, b18.2.1.least, b18.2.1.most, b18.2.2.least, b18.2.2.most).2.1)], [.ptr 0 51, I ((b18.1.least, b18.1.most, b18.2.1.least, b18.2.1.most, b18.2.2.least, b18.2.2.most).2.2.1), I ((b18.1.least, b18.1.most, b18.2.1.least, b18.2.1.most, b18.2.2.least, b18.2.2.most).2.2.2.1)], [.ptr 0 52, I ((b18.1.least, b18.1.most, b18.2.1.least, b18.2.1.most, b18.2.2.least, b18.2.2.most).2.2.2.2.1), I ((b18.1.least, b18.1.most, b18.2.1.least, b18.2.1.most, b18.2.2.least, b18.2.2.most).2.2.2.2.2)]], .cells 171 [.osl 2 0 6 3, .fn (.func 144) [] []]], _, ?_, QG Z Z (ResL.cons (Qq isAgg171 sizeOf171 Z Z Z) (ResL.cons ResAt.tmp ResL.nil)), Z, Z⟩
  exact Lr [0, 1, 6, 2]
 refine Rg (U 2 Z (Nx (Cn Z h (fun hc23 h => ?_) (fun hc23 h => ?_))))
 ·refine TC.seq ?_
  refine UD 9 Z (by kernel_rfl) ?_
  refine vH (Q9 (xs := [.tmp 367, .tmp 370]) Yz Z Z Z Z Z ⟨Z, Z, trivial⟩ Z) ?_
  refine aV (.osl 3 0 2 3) [_, _, _, .rowr 181 3 [[.ptr 0 53, I 1, I 1048576], [.ptr 1 0, I 0, I 1]]] Z Z ?_
  refine U 3 Z (Nx (TC.ret (Qj (Qi ?_))))
  obtain rfl := Oi h
  refine ⟨[(4, .ptr 3 0), (5, .bool true)], [.cells 81 (Fact.c a1), .cells 3 [I a2], .rowr 181 3 [[.ptr 0 53, I 1, I 1048576], [.ptr 1 0, I 0, I 1]], .cells 171 [.osl 2 0 2 3, .fn (.func 144) [] []]], _, ?_, QG Z Z (ResL.cons (Qq isAgg171 sizeOf171 Z Z Z) (ResL.cons ResAt.tmp ResL.nil)), Z, Z⟩
  exact Lr [0, 1, 3, 2]
 refine Rg (U 2 Z (Nx (Cn Z h (fun hc24 h => ?_) (fun hc24 h => ?_))))
 ·refine Rg (U 3 Z (Nx (TC.ret (Qj (Qi ?_)))))
  obtain rfl := Oi h
  refine ⟨[(4, .ptr 2 0), (5, .bool true)], [.cells 81 (Fact.c a1), .cells 3 [I a2], .cells 171 [.nils, .fn (.func 144) [] []]], _, ?_, QG Z Z (ResL.cons (Qq isAgg171 sizeOf171 Z Z Z) (ResL.cons ResAt.tmp ResL.nil)), Z, Z⟩
  exact Lr [0, 1, 2]
 refine Rg (U 2 Z (Nx (Cn Z h (fun hc25 h => ?_) (fun hc25 h => ?_))))
 ·refine TC.seq ?_
  refine UD 12 Z (by kernel_rfl) ?_
  refine vH (Q9 (xs := [.tmp 383, .tmp 389]) Yz Z Z Z Z Z ⟨Z, Z, trivial⟩ Z) ?_
  refine aV (.osl 3 0 2 3) [_, _, _, .rowr 181 3 [[.ptr 0 55, I 0, I 31], [.ptr 0 56, I 1, I 1048576]]] Z Z ?_
  refine U 3 Z (Nx (TC.ret (Qj (Qi ?_))))
  obtain rfl := Oi h
  refine ⟨[(4, .ptr 3 0), (5, .bool true)], [.cells 81 (Fact.c a1), .cells 3 [I a2], .rowr 181 3 [[.ptr 0 55, I 0, I 31], [.ptr 0 56, I 1, I 1048576]], .cells 171 [.osl 2 0 2 3, .fn (.func 144) [] []]], _, ?_, QG Z Z (ResL.cons (Qq isAgg171 sizeOf171 Z Z Z) (ResL.cons ResAt.tmp ResL.nil)), Z, Z⟩
  exact Lr [0, 1, 3, 2]
 refine TC.skip (QB (Qf (Rg (U 3 Z (Nx (TC.ret ?_))))))
 obtain rfl := Oi h
 refine ⟨[(4, .ptr 2 0), (5, .bool false)], [.cells 81 (Fact.c a1), .cells 3 [I a2], .cells 171 [.nils, .nilf]], _, ?_, QG Z Z (ResL.cons (Qq isAgg171 sizeOf171 Z Z Z) (ResL.cons ResAt.tmp ResL.nil)), Z, Z⟩
 exact Lr [0, 1, 2]
def F_b (n : Nat) : Option Unit :=
  some ()
theorem k_b (n : Nat) (r : Unit) (h : F_b n = some r) :
    C prog 144 [] [] (fun a H => a = .bool true ∧ H = []) := by
 refine Qd func144 Z Z Z ?_
 refine Rg (U 1 Z (Nx (Rg (U 1 Z (Nx (TC.ret ?_))))))
 obtain rfl := Oi h
 refine ⟨[(0, _)], _, _, ?_, ResOK.one Z Z, Z, Z⟩
 exact Lr []
def F_ea (n : Nat) (a1 : Fact) : Option Unit :=
  some ()
theorem k_ea (n : Nat) (a1 : Fact) (r : Unit) (h : F_ea n a1 = some r) :
    C prog 145 [.ptr 0 0] [.cells 238 [.ptr 1 21], .cells 81 (Fact.c a1)] (fun a H => a = .bool (decide (a1.Sync.Min ≤ a1.Sync.Max)) ∧ H = [.cells 238 [.ptr 1 21], .cells 81 (Fact.c a1)]) := by
 refine Qd func145 Z Z Z ?_
 refine Rg (U 1 Z (Nx (TC.seq ?_)))
 refine UD 8 Z (by kernel_rfl) (U 2 Z (Nx (TC.ret ?_)))
 obtain rfl := Oi h
 refine ⟨[(1, _)], _, _, ?_, ResOK.one Z Z, Z, Z⟩
 exact Lr [0, 1]
def F_cx (n : Nat) (a1 : Fact) : Option Unit :=
  some ()
theorem k_cx (n : Nat) (a1 : Fact) (r : Unit) (h : F_cx n a1 = some r) :
    C prog 146 [.ptr 0 0] [.cells 239 [.ptr 1 29], .cells 81 (Fact.c a1)] (fun a H => a = .bool (decide (a1.Hand.Lo ≤ a1.Hand.Hi)) ∧ H = [.cells 239 [.ptr 1 29], .cells 81 (Fact.c a1)]) := by
 refine Qd func146 Z Z Z ?_
 refine Rg (U 1 Z (Nx (TC.seq ?_)))
 refine UD 8 Z (by kernel_rfl) (U 2 Z (Nx (TC.ret ?_)))
 obtain rfl := Oi h
 refine ⟨[(1, _)], _, _, ?_, ResOK.one Z Z, Z, Z⟩
 exact Lr [0, 1]
def F_du (n : Nat) (a1 : Fact) : Option Unit :=
  some ()
theorem k_du (n : Nat) (a1 : Fact) (r : Unit) (h : F_du n a1 = some r) :
    C prog 147 [.ptr 0 0] [.cells 240 [.ptr 1 33], .cells 81 (Fact.c a1)] (fun a H => a = .bool (decide (a1.Silence.Lo ≤ a1.Silence.Hi)) ∧ H = [.cells 240 [.ptr 1 33], .cells 81 (Fact.c a1)]) := by
 refine Qd func147 Z Z Z ?_
 refine Rg (U 1 Z (Nx (TC.seq ?_)))
 refine UD 8 Z (by kernel_rfl) (U 2 Z (Nx (TC.ret ?_)))
 obtain rfl := Oi h
 refine ⟨[(1, _)], _, _, ?_, ResOK.one Z Z, Z, Z⟩
 exact Lr [0, 1]
def F_eh (n : Nat) (a1 : Fact) : Option Unit :=
  some ()
theorem k_eh (n : Nat) (a1 : Fact) (r : Unit) (h : F_eh n a1 = some r) :
    C prog 148 [.ptr 0 0] [.cells 241 [.ptr 1 37], .cells 81 (Fact.c a1)] (fun a H => a = .bool (decide (a1.Pair.A < a1.Pair.B)) ∧ H = [.cells 241 [.ptr 1 37], .cells 81 (Fact.c a1)]) := by
 refine Qd func148 Z Z Z ?_
 refine Rg (U 1 Z (Nx (TC.seq ?_)))
 refine UD 8 Z (by kernel_rfl) (U 2 Z (Nx (TC.ret ?_)))
 obtain rfl := Oi h
 refine ⟨[(1, _)], _, _, ?_, ResOK.one Z Z, Z, Z⟩
 exact Lr [0, 1]
def F_ae (n : Nat) (a1 : Fact) : Option Unit :=
  some ()
theorem k_ae (n : Nat) (a1 : Fact) (r : Unit) (h : F_ae n a1 = some r) :
    C prog 84 [.ptr 0 0] [.cells 81 (Fact.c a1)] (fun a H => a = .osl 1 0 4 3 ∧ H = [.cells 81 (Fact.c a1), .rowr 181 3 [[.ptr 0 3, I 1, I 13], [.ptr 0 0, I 0, I 31], [.ptr 0 1, I 1, I 1048576], [.ptr 0 2, I 0, I 1099511627776]]]) := by
 refine Qd func84 Z Z Z ?_
 refine Rg (U 1 Z (Nx (TC.seq ?_)))
 refine UD 20 Z (by kernel_rfl) ?_
 refine vH (Q9 (xs := [.tmp 7, .tmp 12, .tmp 17, .tmp 22]) Yz Z Z Z Z Z ⟨Z, Z, Z, Z, trivial⟩ Z) ?_
 refine aV (.osl 1 0 4 3) [_, .rowr 181 3 [[.ptr 0 3, I 1, I 13], [.ptr 0 0, I 0, I 31], [.ptr 0 1, I 1, I 1048576], [.ptr 0 2, I 0, I 1099511627776]]] Z Z ?_
 refine U 1 Z (Nx (TC.ret ?_))
 obtain rfl := Oi h
 refine ⟨[(2, _)], _, _, ?_, ResOK.one Z Z, Z, Z⟩
 exact Lr [0, 1]
def F_bo (n : Nat) (a1 : Fact) (a2 : Int) (a3 : Fact) : Option (List Ent) :=
  ((F_al n ({ a1 with Kind := a3.Kind : Fact }) a2).bind fun r19 => (match r19 with | .c0 x21 => (some ([⟨false, 4, 1, 9999⟩, ⟨false, 5, 0, 7⟩, ⟨false, 6, 0, 31⟩, ⟨false, 7, (-1099511627776), 1099511627776⟩, ⟨false, 8, 0, 120⟩, ⟨false, 9, 0, 1048576⟩, ⟨false, 10, 0, 9999⟩, ⟨false, 11, 0, 1048576⟩] : List Ent)) | .c1 x22 => (some ([⟨false, 12, 0, 39⟩, ⟨false, 13, 0, 255⟩, ⟨false, 14, 0, 1048576⟩, ⟨false, 15, (-1099511627776), 1099511627776⟩] : List Ent)) | .c2 x23 => (some ([⟨false, 16, 0, 39⟩, ⟨false, 17, 0, 255⟩, ⟨false, 18, (-1099511627776), 1099511627776⟩, ⟨false, 19, (-1099511627776), 1099511627776⟩, ⟨false, 20, 0, 1099511627776⟩] : List Ent)) | .c3 x24 => (some ([⟨false, 21, 0, 39⟩, ⟨false, 22, 0, 255⟩, ⟨false, 23, (-1099511627776), 1099511627776⟩, ⟨false, 24, 0, 39⟩, ⟨false, 25, 0, 255⟩, ⟨false, 26, (-1099511627776), 1099511627776⟩, ⟨false, 27, (-1099511627776), 1099511627776⟩, ⟨false, 28, (-1099511627776), 1099511627776⟩] : List Ent)) | .c4 x25 => (some ([⟨false, 29, 1, 9999⟩, ⟨false, 30, 0, 255⟩, ⟨false, 31, (-1099511627776), 1099511627776⟩, ⟨false, 32, (-1099511627776), 1099511627776⟩] : List Ent)) | .c5 x26 => (some ([⟨false, 33, 0, 39⟩, ⟨false, 34, 0, 255⟩, ⟨false, 35, (-1099511627776), 1099511627776⟩, ⟨false, 36, (-1099511627776), 1099511627776⟩] : List Ent)) | .c6 x27 => (some ([⟨false, 37, 1, 9999⟩, ⟨false, 38, 1, 9999⟩] : List Ent)) | .c7 x28 => (some ([⟨false, 39, 1, 1048576⟩, ⟨false, 40, 1, 9999⟩, ⟨false, 41, 0, 31⟩, ⟨false, 42, 0, 255⟩] : List Ent)) | .c8 x29 => (some ([⟨false, 43, 1, 1048576⟩, ⟨false, 44, 0, 9999⟩, ⟨false, 45, 0, 1125899906842624⟩, ⟨false, 46, 0, 1⟩] : List Ent)) | .c9 x30 => (some ([⟨false, 47, 1, 1048576⟩, ⟨false, 48, 1, 2⟩, ⟨false, 49, 1, 5⟩, ⟨false, 50, x30.1, x30.2.1⟩, ⟨false, 51, x30.2.2.1, x30.2.2.2.1⟩, ⟨false, 52, x30.2.2.2.2.1, x30.2.2.2.2.2⟩] : List Ent)) | .c10 x31 => (some ([⟨false, 53, 1, 1048576⟩, ⟨true, 0, 0, 1⟩] : List Ent)) | .c11 x32 => (some []) | .c12 x33 => (some ([⟨false, 55, 0, 31⟩, ⟨false, 56, 1, 1048576⟩] : List Ent)) | .c13 x34 => (some [])) : Option (List Ent)).bind fun b17 => (F_ae n ({ a1 with Kind := a3.Kind : Fact })).bind fun r35 => (app ([⟨false, 3, 1, 13⟩, ⟨false, 0, 0, 31⟩, ⟨false, 1, 1, 1048576⟩, ⟨false, 2, 0, 1099511627776⟩] : List Ent) b17).bind fun l36 => some l36
theorem k_bo (n : Nat) (a1 : Fact) (a2 : Int) (a3 : Fact) (r : List Ent) (h : F_bo n a1 a2 a3 = some r) :
    C prog 83 [.ptr 0 0, .ptr 1 0, .ptr 2 0] [.cells 81 (Fact.c a1), .cells 3 [I a2], .cells 81 (Fact.c a3)] (fun a H => a = .osl 3 0 r.length 3 ∧ H = [.cells 81 (Fact.c ({ a1 with Kind := a3.Kind : Fact })), .cells 3 [I a2], .cells 81 (Fact.c a3), .ents 181 0 1 r]) := by
 refine Qd func83 Z Z Z ?_
 refine Rg (U 1 Z (Nx (Rg (U 6 Z (Nx (TC.seq (Bd h fun b17 h18 h => ?_)))))))
 refine TC.cut ([(0, .ptr 0 0), (6, .ptr 3 0)]) ([.cells 81 (Fact.c ({ a1 with Kind := a3.Kind : Fact })), .cells 3 [I a2], .cells 81 (Fact.c a3), .cells 171 [.osl 4 0 b17.length 3, .any], .ents 181 0 1 b17]) ?_ (fun env H hle => ?_)
 ·refine TC.region (U 2 Z (Bd h18 fun r19 hr19 h18 => ?_))
  refine Qc [0, 1] (OpC.fn call82 Z Z Z) (k_al _ _ _ _ hr19) ?_
  intro ra rH h20
  rcases r19 with x21 | x22 | x23 | x24 | x25 | x26 | x27 | x28 | x29 | x30 | x31 | x32 | x33 | x34
  ·obtain ⟨rfl, rfl⟩ := h20
   refine aV (.tup [.agg [.osl 3 0 8 3, .fn (.func 144) [] []], .bool true]) [.cells 81 (Fact.c ({ a1 with Kind := a3.Kind : Fact })), .cells 3 [I a2], .cells 81 (Fact.c a3), .rowr 181 3 [[.ptr 0 4, I 1, I 9999], [.ptr 0 5, I 0, I 7], [.ptr 0 6, I 0, I 31], [.ptr 0 7, I (-1099511627776), I 1099511627776], [.ptr 0 8, I 0, I 120], [.ptr 0 9, I 0, I 1048576], [.ptr 0 10, I 0, I 9999], [.ptr 0 11, I 0, I 1048576]], .cells 171 [.osl 3 0 8 3, .fn (.func 144) [] []]] Z Z ?_
   refine WO.le (Qs (i := 3) (b1 := 0) (b2 := 1) (l := [⟨false, 4, 1, 9999⟩, ⟨false, 5, 0, 7⟩, ⟨false, 6, 0, 31⟩, ⟨false, 7, (-1099511627776), 1099511627776⟩, ⟨false, 8, 0, 120⟩, ⟨false, 9, 0, 1048576⟩, ⟨false, 10, 0, 9999⟩, ⟨false, 11, 0, 1048576⟩]) Z Z) ?_
   refine Ql (H := [.cells 81 (Fact.c ({ a1 with Kind := a3.Kind : Fact })), .cells 3 [I a2], .cells 81 (Fact.c a3), .ents 181 0 1 ([⟨false, 4, 1, 9999⟩, ⟨false, 5, 0, 7⟩, ⟨false, 6, 0, 31⟩, ⟨false, 7, (-1099511627776), 1099511627776⟩, ⟨false, 8, 0, 120⟩, ⟨false, 9, 0, 1048576⟩, ⟨false, 10, 0, 9999⟩, ⟨false, 11, 0, 1048576⟩] : List Ent), .cells 171 [.osl 3 0 8 3, .fn (.func 144) [] []]]) Z ?_
   refine U 6 Z (WO.nil ?_)
   obtain rfl := Oi h18
   refine cutN ?_
   refine Le.trans (QF (i := 5) (m := 1) Z) ?_
   exact Lr [0, 1, 2, 5, 3]
  ·obtain ⟨rfl, rfl⟩ := h20
   refine aV (.tup [.agg [.osl 3 0 4 3, .fn (.func 144) [] []], .bool true]) [.cells 81 (Fact.c ({ a1 with Kind := a3.Kind : Fact })), .cells 3 [I a2], .cells 81 (Fact.c a3), .rowr 181 3 [[.ptr 0 12, I 0, I 39], [.ptr 0 13, I 0, I 255], [.ptr 0 14, I 0, I 1048576], [.ptr 0 15, I (-1099511627776), I 1099511627776]], .cells 171 [.osl 3 0 4 3, .fn (.func 144) [] []]] Z Z ?_
   refine WO.le (Qs (i := 3) (b1 := 0) (b2 := 1) (l := [⟨false, 12, 0, 39⟩, ⟨false, 13, 0, 255⟩, ⟨false, 14, 0, 1048576⟩, ⟨false, 15, (-1099511627776), 1099511627776⟩]) Z Z) ?_
   refine Ql (H := [.cells 81 (Fact.c ({ a1 with Kind := a3.Kind : Fact })), .cells 3 [I a2], .cells 81 (Fact.c a3), .ents 181 0 1 ([⟨false, 12, 0, 39⟩, ⟨false, 13, 0, 255⟩, ⟨false, 14, 0, 1048576⟩, ⟨false, 15, (-1099511627776), 1099511627776⟩] : List Ent), .cells 171 [.osl 3 0 4 3, .fn (.func 144) [] []]]) Z ?_
   refine U 6 Z (WO.nil ?_)
   obtain rfl := Oi h18
   refine cutN ?_
   refine Le.trans (QF (i := 5) (m := 1) Z) ?_
   exact Lr [0, 1, 2, 5, 3]
  ·obtain ⟨rfl, rfl⟩ := h20
   refine aV (.tup [.agg [.osl 3 0 5 3, .fn (.func 144) [] []], .bool true]) [.cells 81 (Fact.c ({ a1 with Kind := a3.Kind : Fact })), .cells 3 [I a2], .cells 81 (Fact.c a3), .rowr 181 3 [[.ptr 0 16, I 0, I 39], [.ptr 0 17, I 0, I 255], [.ptr 0 18, I (-1099511627776), I 1099511627776], [.ptr 0 19, I (-1099511627776), I 1099511627776], [.ptr 0 20, I 0, I 1099511627776]], .cells 171 [.osl 3 0 5 3, .fn (.func 144) [] []]] Z Z ?_
   refine WO.le (Qs (i := 3) (b1 := 0) (b2 := 1) (l := [⟨false, 16, 0, 39⟩, ⟨false, 17, 0, 255⟩, ⟨false, 18, (-1099511627776), 1099511627776⟩, ⟨false, 19, (-1099511627776), 1099511627776⟩, ⟨false, 20, 0, 1099511627776⟩]) Z Z) ?_
   refine Ql (H := [.cells 81 (Fact.c ({ a1 with Kind := a3.Kind : Fact })), .cells 3 [I a2], .cells 81 (Fact.c a3), .ents 181 0 1 ([⟨false, 16, 0, 39⟩, ⟨false, 17, 0, 255⟩, ⟨false, 18, (-1099511627776), 1099511627776⟩, ⟨false, 19, (-1099511627776), 1099511627776⟩, ⟨false, 20, 0, 1099511627776⟩] : List Ent), .cells 171 [.osl 3 0 5 3, .fn (.func 144) [] []]]) Z ?_
   refine U 6 Z (WO.nil ?_)
   obtain rfl := Oi h18
   refine cutN ?_
   refine Le.trans (QF (i := 5) (m := 1) Z) ?_
   exact Lr [0, 1, 2, 5, 3]
  ·obtain ⟨rfl, rfl⟩ := h20
   refine aV (.tup [.agg [.osl 3 0 8 3, .fn (.func 145) [] [.ptr 4 0]], .bool true]) [.cells 81 (Fact.c ({ a1 with Kind := a3.Kind : Fact })), .cells 3 [I a2], .cells 81 (Fact.c a3), .rowr 181 3 [[.ptr 0 21, I 0, I 39], [.ptr 0 22, I 0, I 255], [.ptr 0 23, I (-1099511627776), I 1099511627776], [.ptr 0 24, I 0, I 39], [.ptr 0 25, I 0, I 255], [.ptr 0 26, I (-1099511627776), I 1099511627776], [.ptr 0 27, I (-1099511627776), I 1099511627776], [.ptr 0 28, I (-1099511627776), I 1099511627776]], .cells 238 [.ptr 0 21], .cells 171 [.osl 3 0 8 3, .fn (.func 145) [] [.ptr 4 0]]] Z Z ?_
   refine WO.le (Qs (i := 3) (b1 := 0) (b2 := 1) (l := [⟨false, 21, 0, 39⟩, ⟨false, 22, 0, 255⟩, ⟨false, 23, (-1099511627776), 1099511627776⟩, ⟨false, 24, 0, 39⟩, ⟨false, 25, 0, 255⟩, ⟨false, 26, (-1099511627776), 1099511627776⟩, ⟨false, 27, (-1099511627776), 1099511627776⟩, ⟨false, 28, (-1099511627776), 1099511627776⟩]) Z Z) ?_
   refine Ql (H := [.cells 81 (Fact.c ({ a1 with Kind := a3.Kind : Fact })), .cells 3 [I a2], .cells 81 (Fact.c a3), .ents 181 0 1 ([⟨false, 21, 0, 39⟩, ⟨false, 22, 0, 255⟩, ⟨false, 23, (-1099511627776), 1099511627776⟩, ⟨false, 24, 0, 39⟩, ⟨false, 25, 0, 255⟩, ⟨false, 26, (-1099511627776), 1099511627776⟩, ⟨false, 27, (-1099511627776), 1099511627776⟩, ⟨false, 28, (-1099511627776), 1099511627776⟩] : List Ent), .cells 238 [.ptr 0 21], .cells 171 [.osl 3 0 8 3, .fn (.func 145) [] [.ptr 4 0]]]) Z ?_
   refine U 6 Z (WO.nil ?_)
   obtain rfl := Oi h18
   refine cutN ?_
   refine Le.trans (QF (i := 6) (m := 1) Z) ?_
   exact Lr [0, 1, 2, 6, 3]
  ·obtain ⟨rfl, rfl⟩ := h20
   refine aV (.tup [.agg [.osl 3 0 4 3, .fn (.func 146) [] [.ptr 4 0]], .bool true]) [.cells 81 (Fact.c ({ a1 with Kind := a3.Kind : Fact })), .cells 3 [I a2], .cells 81 (Fact.c a3), .rowr 181 3 [[.ptr 0 29, I 1, I 9999], [.ptr 0 30, I 0, I 255], [.ptr 0 31, I (-1099511627776), I 1099511627776], [.ptr 0 32, I (-1099511627776), I 1099511627776]], .cells 239 [.ptr 0 29], .cells 171 [.osl 3 0 4 3, .fn (.func 146) [] [.ptr 4 0]]] Z Z ?_
   refine WO.le (Qs (i := 3) (b1 := 0) (b2 := 1) (l := [⟨false, 29, 1, 9999⟩, ⟨false, 30, 0, 255⟩, ⟨false, 31, (-1099511627776), 1099511627776⟩, ⟨false, 32, (-1099511627776), 1099511627776⟩]) Z Z) ?_
   refine Ql (H := [.cells 81 (Fact.c ({ a1 with Kind := a3.Kind : Fact })), .cells 3 [I a2], .cells 81 (Fact.c a3), .ents 181 0 1 ([⟨false, 29, 1, 9999⟩, ⟨false, 30, 0, 255⟩, ⟨false, 31, (-1099511627776), 1099511627776⟩, ⟨false, 32, (-1099511627776), 1099511627776⟩] : List Ent), .cells 239 [.ptr 0 29], .cells 171 [.osl 3 0 4 3, .fn (.func 146) [] [.ptr 4 0]]]) Z ?_
   refine U 6 Z (WO.nil ?_)
   obtain rfl := Oi h18
   refine cutN ?_
   refine Le.trans (QF (i := 6) (m := 1) Z) ?_
   exact Lr [0, 1, 2, 6, 3]
  ·obtain ⟨rfl, rfl⟩ := h20
   refine aV (.tup [.agg [.osl 3 0 4 3, .fn (.func 147) [] [.ptr 4 0]], .bool true]) [.cells 81 (Fact.c ({ a1 with Kind := a3.Kind : Fact })), .cells 3 [I a2], .cells 81 (Fact.c a3), .rowr 181 3 [[.ptr 0 33, I 0, I 39], [.ptr 0 34, I 0, I 255], [.ptr 0 35, I (-1099511627776), I 1099511627776], [.ptr 0 36, I (-1099511627776), I 1099511627776]], .cells 240 [.ptr 0 33], .cells 171 [.osl 3 0 4 3, .fn (.func 147) [] [.ptr 4 0]]] Z Z ?_
   refine WO.le (Qs (i := 3) (b1 := 0) (b2 := 1) (l := [⟨false, 33, 0, 39⟩, ⟨false, 34, 0, 255⟩, ⟨false, 35, (-1099511627776), 1099511627776⟩, ⟨false, 36, (-1099511627776), 1099511627776⟩]) Z Z) ?_
   refine Ql (H := [.cells 81 (Fact.c ({ a1 with Kind := a3.Kind : Fact })), .cells 3 [I a2], .cells 81 (Fact.c a3), .ents 181 0 1 ([⟨false, 33, 0, 39⟩, ⟨false, 34, 0, 255⟩, ⟨false, 35, (-1099511627776), 1099511627776⟩, ⟨false, 36, (-1099511627776), 1099511627776⟩] : List Ent), .cells 240 [.ptr 0 33], .cells 171 [.osl 3 0 4 3, .fn (.func 147) [] [.ptr 4 0]]]) Z ?_
   refine U 6 Z (WO.nil ?_)
   obtain rfl := Oi h18
   refine cutN ?_
   refine Le.trans (QF (i := 6) (m := 1) Z) ?_
   exact Lr [0, 1, 2, 6, 3]
  ·obtain ⟨rfl, rfl⟩ := h20
   refine aV (.tup [.agg [.osl 3 0 2 3, .fn (.func 148) [] [.ptr 4 0]], .bool true]) [.cells 81 (Fact.c ({ a1 with Kind := a3.Kind : Fact })), .cells 3 [I a2], .cells 81 (Fact.c a3), .rowr 181 3 [[.ptr 0 37, I 1, I 9999], [.ptr 0 38, I 1, I 9999]], .cells 241 [.ptr 0 37], .cells 171 [.osl 3 0 2 3, .fn (.func 148) [] [.ptr 4 0]]] Z Z ?_
   refine WO.le (Qs (i := 3) (b1 := 0) (b2 := 1) (l := [⟨false, 37, 1, 9999⟩, ⟨false, 38, 1, 9999⟩]) Z Z) ?_
   refine Ql (H := [.cells 81 (Fact.c ({ a1 with Kind := a3.Kind : Fact })), .cells 3 [I a2], .cells 81 (Fact.c a3), .ents 181 0 1 ([⟨false, 37, 1, 9999⟩, ⟨false, 38, 1, 9999⟩] : List Ent), .cells 241 [.ptr 0 37], .cells 171 [.osl 3 0 2 3, .fn (.func 148) [] [.ptr 4 0]]]) Z ?_
   refine U 6 Z (WO.nil ?_)
   obtain rfl := Oi h18
   refine cutN ?_
   refine Le.trans (QF (i := 6) (m := 1) Z) ?_
   exact Lr [0, 1, 2, 6, 3]
  ·obtain ⟨rfl, rfl⟩ := h20
   refine aV (.tup [.agg [.osl 3 0 4 3, .fn (.func 144) [] []], .bool true]) [.cells 81 (Fact.c ({ a1 with Kind := a3.Kind : Fact })), .cells 3 [I a2], .cells 81 (Fact.c a3), .rowr 181 3 [[.ptr 0 39, I 1, I 1048576], [.ptr 0 40, I 1, I 9999], [.ptr 0 41, I 0, I 31], [.ptr 0 42, I 0, I 255]], .cells 171 [.osl 3 0 4 3, .fn (.func 144) [] []]] Z Z ?_
   refine WO.le (Qs (i := 3) (b1 := 0) (b2 := 1) (l := [⟨false, 39, 1, 1048576⟩, ⟨false, 40, 1, 9999⟩, ⟨false, 41, 0, 31⟩, ⟨false, 42, 0, 255⟩]) Z Z) ?_
   refine Ql (H := [.cells 81 (Fact.c ({ a1 with Kind := a3.Kind : Fact })), .cells 3 [I a2], .cells 81 (Fact.c a3), .ents 181 0 1 ([⟨false, 39, 1, 1048576⟩, ⟨false, 40, 1, 9999⟩, ⟨false, 41, 0, 31⟩, ⟨false, 42, 0, 255⟩] : List Ent), .cells 171 [.osl 3 0 4 3, .fn (.func 144) [] []]]) Z ?_
   refine U 6 Z (WO.nil ?_)
   obtain rfl := Oi h18
   refine cutN ?_
   refine Le.trans (QF (i := 5) (m := 1) Z) ?_
   exact Lr [0, 1, 2, 5, 3]
  ·obtain ⟨rfl, rfl⟩ := h20
   refine aV (.tup [.agg [.osl 3 0 4 3, .fn (.func 144) [] []], .bool true]) [.cells 81 (Fact.c ({ a1 with Kind := a3.Kind : Fact })), .cells 3 [I a2], .cells 81 (Fact.c a3), .rowr 181 3 [[.ptr 0 43, I 1, I 1048576], [.ptr 0 44, I 0, I 9999], [.ptr 0 45, I 0, I 1125899906842624], [.ptr 0 46, I 0, I 1]], .cells 171 [.osl 3 0 4 3, .fn (.func 144) [] []]] Z Z ?_
   refine WO.le (Qs (i := 3) (b1 := 0) (b2 := 1) (l := [⟨false, 43, 1, 1048576⟩, ⟨false, 44, 0, 9999⟩, ⟨false, 45, 0, 1125899906842624⟩, ⟨false, 46, 0, 1⟩]) Z Z) ?_
   refine Ql (H := [.cells 81 (Fact.c ({ a1 with Kind := a3.Kind : Fact })), .cells 3 [I a2], .cells 81 (Fact.c a3), .ents 181 0 1 ([⟨false, 43, 1, 1048576⟩, ⟨false, 44, 0, 9999⟩, ⟨false, 45, 0, 1125899906842624⟩, ⟨false, 46, 0, 1⟩] : List Ent), .cells 171 [.osl 3 0 4 3, .fn (.func 144) [] []]]) Z ?_
   refine U 6 Z (WO.nil ?_)
   obtain rfl := Oi h18
   refine cutN ?_
   refine Le.trans (QF (i := 5) (m := 1) Z) ?_
   exact Lr [0, 1, 2, 5, 3]
  ·obtain ⟨rfl, rfl⟩ := h20
   refine aV (.tup [.agg [.osl 3 0 6 3, .fn (.func 144) [] []], .bool true]) [.cells 81 (Fact.c ({ a1 with Kind := a3.Kind : Fact })), .cells 3 [I a2], .cells 81 (Fact.c a3), .rowr 181 3 [[.ptr 0 47, I 1, I 1048576], [.ptr 0 48, I 1, I 2], [.ptr 0 49, I 1, I 5], [.ptr 0 50, I x30.1, I x30.2.1], [.ptr 0 51, I x30.2.2.1, I x30.2.2.2.1], [.ptr 0 52, I x30.2.2.2.2.1, I x30.2.2.2.2.2]], .cells 171 [.osl 3 0 6 3, .fn (.func 144) [] []]] Z Z ?_
   refine WO.le (Qs (i := 3) (b1 := 0) (b2 := 1) (l := [⟨false, 47, 1, 1048576⟩, ⟨false, 48, 1, 2⟩, ⟨false, 49, 1, 5⟩, ⟨false, 50, x30.1, x30.2.1⟩, ⟨false, 51, x30.2.2.1, x30.2.2.2.1⟩, ⟨false, 52, x30.2.2.2.2.1, x30.2.2.2.2.2⟩]) Z Z) ?_
   refine Ql (H := [.cells 81 (Fact.c ({ a1 with Kind := a3.Kind : Fact })), .cells 3 [I a2], .cells 81 (Fact.c a3), .ents 181 0 1 ([⟨false, 47, 1, 1048576⟩, ⟨false, 48, 1, 2⟩, ⟨false, 49, 1, 5⟩, ⟨false, 50, x30.1, x30.2.1⟩, ⟨false, 51, x30.2.2.1, x30.2.2.2.1⟩, ⟨false, 52, x30.2.2.2.2.1, x30.2.2.2.2.2⟩] : List Ent), .cells 171 [.osl 3 0 6 3, .fn (.func 144) [] []]]) Z ?_
   refine U 6 Z (WO.nil ?_)
   obtain rfl := Oi h18
   refine cutN ?_
   refine Le.trans (QF (i := 5) (m := 1) Z) ?_
   exact Lr [0, 1, 2, 5, 3]
  ·obtain ⟨rfl, rfl⟩ := h20
   refine aV (.tup [.agg [.osl 3 0 2 3, .fn (.func 144) [] []], .bool true]) [.cells 81 (Fact.c ({ a1 with Kind := a3.Kind : Fact })), .cells 3 [I a2], .cells 81 (Fact.c a3), .rowr 181 3 [[.ptr 0 53, I 1, I 1048576], [.ptr 1 0, I 0, I 1]], .cells 171 [.osl 3 0 2 3, .fn (.func 144) [] []]] Z Z ?_
   refine WO.le (Qs (i := 3) (b1 := 0) (b2 := 1) (l := [⟨false, 53, 1, 1048576⟩, ⟨true, 0, 0, 1⟩]) Z Z) ?_
   refine Ql (H := [.cells 81 (Fact.c ({ a1 with Kind := a3.Kind : Fact })), .cells 3 [I a2], .cells 81 (Fact.c a3), .ents 181 0 1 ([⟨false, 53, 1, 1048576⟩, ⟨true, 0, 0, 1⟩] : List Ent), .cells 171 [.osl 3 0 2 3, .fn (.func 144) [] []]]) Z ?_
   refine U 6 Z (WO.nil ?_)
   obtain rfl := Oi h18
   refine cutN ?_
   refine Le.trans (QF (i := 5) (m := 1) Z) ?_
   exact Lr [0, 1, 2, 5, 3]
  ·obtain ⟨rfl, rfl⟩ := h20
   refine aV (.tup [.agg [.nils, .fn (.func 144) [] []], .bool true]) [.cells 81 (Fact.c ({ a1 with Kind := a3.Kind : Fact })), .cells 3 [I a2], .cells 81 (Fact.c a3), .cells 171 [.nils, .fn (.func 144) [] []]] Z Z ?_
   refine U 6 Z (WO.nil ?_)
   obtain rfl := Oi h18
   refine cutN ?_
   refine Le.trans (QF (i := 4) (m := 1) Z) ?_
   refine Le.trans (Le.phantomE (i := 4) (m := 0) (t := 181) (b1 := 0) (b2 := 1) Z Z Z) ?_
   exact Lr [0, 1, 2, 4, 5]
  ·obtain ⟨rfl, rfl⟩ := h20
   refine aV (.tup [.agg [.osl 3 0 2 3, .fn (.func 144) [] []], .bool true]) [.cells 81 (Fact.c ({ a1 with Kind := a3.Kind : Fact })), .cells 3 [I a2], .cells 81 (Fact.c a3), .rowr 181 3 [[.ptr 0 55, I 0, I 31], [.ptr 0 56, I 1, I 1048576]], .cells 171 [.osl 3 0 2 3, .fn (.func 144) [] []]] Z Z ?_
   refine WO.le (Qs (i := 3) (b1 := 0) (b2 := 1) (l := [⟨false, 55, 0, 31⟩, ⟨false, 56, 1, 1048576⟩]) Z Z) ?_
   refine Ql (H := [.cells 81 (Fact.c ({ a1 with Kind := a3.Kind : Fact })), .cells 3 [I a2], .cells 81 (Fact.c a3), .ents 181 0 1 ([⟨false, 55, 0, 31⟩, ⟨false, 56, 1, 1048576⟩] : List Ent), .cells 171 [.osl 3 0 2 3, .fn (.func 144) [] []]]) Z ?_
   refine U 6 Z (WO.nil ?_)
   obtain rfl := Oi h18
   refine cutN ?_
   refine Le.trans (QF (i := 5) (m := 1) Z) ?_
   exact Lr [0, 1, 2, 5, 3]
  ·obtain ⟨rfl, rfl⟩ := h20
   refine aV (.tup [.agg [.nils, .nilf], .bool false]) [.cells 81 (Fact.c ({ a1 with Kind := a3.Kind : Fact })), .cells 3 [I a2], .cells 81 (Fact.c a3), .cells 171 [.nils, .nilf]] Z Z ?_
   refine U 6 Z (WO.nil ?_)
   obtain rfl := Oi h18
   refine cutN ?_
   refine Le.trans (QF (i := 4) (m := 1) Z) ?_
   refine Le.trans (Le.phantomE (i := 4) (m := 0) (t := 181) (b1 := 0) (b2 := 1) Z Z Z) ?_
   exact Lr [0, 1, 2, 4, 5]
 refine Qf (TC.le hle (TC.seq ?_))
 obtain ⟨r35, hr35, h⟩ := bnd h
 refine Q2 4 0 [19, 20, 21, 22] [false, true, false, false] [[], [], [], []] [[], [1]] [[(0, 0), (1, 1)], [(0, 1)], [(0, 0), (1, 1)], [(0, 0), (1, 1)]] [.ptr 0 0, .osl 5 0 4 3, .ptr 3 0, .osl 4 0 b17.length 3] [[.cells 81 (Fact.c ({ a1 with Kind := a3.Kind : Fact })), .cells 3 [I a2], .cells 81 (Fact.c a3), .cells 171 [.osl 4 0 b17.length 3, .any], .ents 181 0 1 b17], [.cells 81 (Fact.c ({ a1 with Kind := a3.Kind : Fact })), .cells 3 [I a2], .cells 81 (Fact.c a3), .cells 171 [.osl 4 0 b17.length 3, .any], .ents 181 0 1 b17, .rowr 181 3 [[.ptr 0 3, I 1, I 13], [.ptr 0 0, I 0, I 31], [.ptr 0 1, I 1, I 1048576], [.ptr 0 2, I 0, I 1099511627776]]]] ([.cells 81 (Fact.c ({ a1 with Kind := a3.Kind : Fact })), .cells 3 [I a2], .cells 81 (Fact.c a3), .cells 171 [.osl 4 0 b17.length 3, .any], .ents 181 0 1 b17, .rowr 181 3 [[.ptr 0 3, I 1, I 13], [.ptr 0 0, I 0, I 31], [.ptr 0 1, I 1, I 1048576], [.ptr 0 2, I 0, I 1099511627776]]]) draws Z Z Z Z Z Z Z ?_ Z ?_
 ·refine OblM.cons (Qa (v0 Z Z) (Qa (v0 Z Z) (Qe))) (OblM.cons ?_ (OblM.cons (Qa (v0 Z Z) (Qa (v0 Z Z) (Qe))) (OblM.cons (Qa (v0 Z Z) (Qa (v0 Z Z) (Qe))) (OblM.nil))))
  ·refine Qa ?_ (Qe)
   ·refine Om1 Z (sD 0 sN) ?_
    refine Qc [0] (OpC.fn call84 Z Z Z) (k_ae _ _ _ hr35) ?_
    rintro _ _ ⟨rfl, rfl⟩
    refine aV (.osl 5 0 4 3) [_, _, _, _, _, .rowr 181 3 [[.ptr 0 3, I 1, I 13], [.ptr 0 0, I 0, I 31], [.ptr 0 1, I 1, I 1048576], [.ptr 0 2, I 0, I 1099511627776]]] Z Z ?_
    exact Wp
 refine WO.le (Qs (i := 5) (b1 := 0) (b2 := 1) (l := [⟨false, 3, 1, 13⟩, ⟨false, 0, 0, 31⟩, ⟨false, 1, 1, 1048576⟩, ⟨false, 2, 0, 1099511627776⟩]) Z Z) ?_
 refine Ql (H := [.cells 81 (Fact.c ({ a1 with Kind := a3.Kind : Fact })), .cells 3 [I a2], .cells 81 (Fact.c a3), .cells 171 [.osl 4 0 b17.length 3, .any], .ents 181 0 1 b17, .ents 181 0 1 ([⟨false, 3, 1, 13⟩, ⟨false, 0, 0, 31⟩, ⟨false, 1, 1, 1048576⟩, ⟨false, 2, 0, 1099511627776⟩] : List Ent)]) Z ?_
 refine Bd h fun l36 hl36 h => ?_
 refine vH (QdS (i := 5) (j := 4) hl36 Yz runUnderlying169 Z) ?_
 refine aV (.osl 6 0 l36.length 3) [_, _, _, _, _, .dead, .ents 181 0 1 l36] Z Z ?_
 refine U 1 Z (Nx (TC.ret ?_))
 obtain rfl := Oi h
 refine ⟨[(5, _)], _, _, ?_, ResOK.one Z Z, Z, Z⟩
 exact Lr [0, 1, 2, 6]
end Go.Sw
