/- What the functions compute that ChipsOrder reaches, and that their calls refine it (part 2 of 3). -/
import Derived.Test.YtkjlhfabbbomjaaGreatDoorW18Or1
set_option linter.unusedVariables false
set_option linter.unusedSimpArgs false
set_option maxRecDepth 100000
set_option maxHeartbeats 4000000
namespace Go.Sw
open Go.Proofs Tryz
def F_bl (rec95 : (List typing_form) → Option Bool) (n : Nat) (a1 : typing_cond) : Option Bool :=
  ((bif (a1.Cond.Var == 0) then some (a1.Cond.N == 0) else some false) : Option Bool).bind fun b2 => (bif (a1.Cond.Kind == 1) then ((F_a n 1 3 [a1.Cond.Var]).bind fun r12 => (bif r12 then (F_a n 0 10000 [a1.Cond.N]).bind fun r14 => (bif r14 then some ((a1.Cond.Parts.length : Int) == 0) else some false) else some false) : Option Bool).bind fun b10 => some b10 else ((bif (a1.Cond.Kind == 4) then (bif b2 then some (.cont ((a1.Cond.Parts.length : Int) == 1)) else some (.cont false)) else ((bif (a1.Cond.Kind == 2) then some (a1.Cond.Kind == 2) else some (a1.Cond.Kind == 3)) : Option Bool).bind fun b30 => (bif b30 then (bif b2 then (bif decide (0 < (a1.Cond.Parts.length : Int)) then some (.cont (decide ((a1.Cond.Parts.length : Int) ≤ 16))) else some (.cont false)) else some (.cont false)) else some (.done false))) : Option (Ctl Bool Bool)).bind fun b25 => match b25 with | .cont sb25 => (((bif sb25 then (F_n n ({ Cond := a1.Cond : typing_cond })).bind fun r42 => (rec95 r42).bind fun r43 => some (!r43) else some false) : Option Bool).bind fun b39 => some b39) | .done sb25 => some sb25)
theorem k_bl (rec95 : (List typing_form) → Option Bool) (hrec95 : ∀ (a1 : List typing_form) (r : Bool), rec95 a1 = some r → C prog 171 [.rsl 1 (List.map typing_form.enc a1), .fn (.func 172) [] []] [] (fun a H => a = .bool r ∧ H = [])) (n : Nat) (a1 : typing_cond) (r : Bool) (h : F_bl rec95 n a1 = some r) :
    C prog 219 [.iface 298 (.agg (typing_cond.c ({ Cond := a1.Cond : typing_cond })))] [] (fun a H => a = .bool r ∧ H = []) := by
 refine Qd func219 Z Z Z ?_
 refine Rg (U 1 Z (Nx (TC.seq (Rg (U 1 Z (Nx (TC.block (Rg ?_))))))))
 refine vX (.tup [.agg (typing_cond.c ({ Cond := a1.Cond : typing_cond })), .bool true]) (Qa3 runUnderlying298 (by intro m; nofun)) ?_
 refine U 2 Z (Nx (CnT Z Z (Rg (U 2 Z (Nx (TC.seq (Bd h fun b2 h3 h => ?_)))))))
 refine TC.cut ([(3, .ptr 0 0), (4, .bool b2)]) ([.cells 298 (typing_cond.c ({ Cond := a1.Cond : typing_cond }))]) ?_ (fun env H hle => ?_)
 ·refine TC.region (U 5 Z (If h3 (fun hg4 h3 => ?_) (fun hg4 h3 => ?_)))
  ·refine QG (gT hg4) QM Z (QG (gT hg4) Qbc Z (QO (gT hg4) isAgg3 Z (Sg (gT hg4) Z (Pk hg4 Z (U 1 Z (WO.nil ?_))))))
   obtain rfl := Oi h3
   exact cutN (Lr [0])
  ·refine KF hg4 Z (KF hg4 Z (KF hg4 Z (KF hg4 Z (Pk hg4 Z (U 1 Z (WO.nil ?_))))))
   obtain rfl := Oi h3
   exact cutN (Lr [0])
 refine Qf (TC.le hle (TC.seq (Rg (U 3 Z (Nx (TC.block (Rg (U 2 Z (Nx (Cn Z h (fun hc5 h => ?_) (fun hc5 h => ?_)))))))))))
 ·refine TC.seq (Bd h fun b10 h11 h => ?_)
  refine TC.cut ([(2, .bool b10)]) ([]) ?_ (fun env H hle => ?_)
  ·refine TC.region (U 3 Z ?_)
   refine vH (OpH.lit (xs := [.tmp 28]) (es := List.map (encI .i64) [a1.Cond.Var]) QK Z Z Z Z Z ⟨Z, trivial⟩ Z Z) ?_
   refine FE Z (Bd h11 fun r12 hr12 h11 => ?_)
   refine Qh (OpC.fn call100 rfl rfl rfl) (LookL.cons rfl (.inl ⟨rfl, rfl⟩) (LookL.cons rfl (.inl ⟨rfl, rfl⟩) (LookL.cons rfl (.inr ⟨_, _, _, _, _, rfl, rfl, List.length_map .., rfl⟩) LookL.nil))) (k_a _ _ _ _ _ hr12) (by rintro _ _ ⟨rfl, rfl⟩; rfl) ?_
   rintro _ _ ⟨rfl, rfl⟩
   refine FE Z (U 1 Z (If h11 (fun hg13 h11 => ?_) (fun hg13 h11 => ?_)))
   ·refine QG (gT hg13) QM Z (QG (gT hg13) Qbc Z (QO (gT hg13) isAgg3 Z ?_))
    refine vH (OpH.lit (xs := [.tmp 34]) (es := List.map (encI .i64) [a1.Cond.N]) QK Z Z Z Z Z ⟨Z, trivial⟩ Z Z) ?_ (gT hg13)
    refine FE Z (Bd h11 fun r14 hr14 h11 => ?_)
    refine Qh (OpC.fn call100 rfl rfl rfl) (LookL.cons rfl (.inl ⟨rfl, rfl⟩) (LookL.cons rfl (.inl ⟨rfl, rfl⟩) (LookL.cons rfl (.inr ⟨_, _, _, _, _, rfl, rfl, List.length_map .., rfl⟩) LookL.nil))) (k_a _ _ _ _ _ hr14) (by rintro _ _ ⟨rfl, rfl⟩; rfl) ?_ (gT hg13)
    rintro _ _ ⟨rfl, rfl⟩
    refine FE Z (Pk hg13 Z (U 1 Z (If h11 (fun hg15 h11 => ?_) (fun hg15 h11 => ?_))))
    ·refine QG (gT hg15) QM Z (QG (gT hg15) Yr Z (QO (gT hg15) isAgg128 Z ?_))
     refine vX (I (a1.Cond.Parts.length : Int)) (Qk (e := Cond.enc) (l := a1.Cond.Parts) runUnderlying128) ?_ (gT hg15)
     refine Sg (gT hg15) Z (Pk hg15 Z (U 1 Z (WO.nil ?_)))
     obtain rfl := Oi h11
     exact cutN (Lr [])
    ·refine KF hg15 Z (KF hg15 Z (KF hg15 Z (KF hg15 Z (KF hg15 Z (Pk hg15 Z (U 1 Z (WO.nil ?_)))))))
     obtain rfl := Oi h11
     exact cutN (Lr [])
   ·refine KF hg13 Z (KF hg13 Z (KF hg13 Z (KF hg13 Z (KF hg13 Z (Pk hg13 Z (U 8 Z (WO.nil ?_)))))))
    obtain rfl := Oi h11
    exact cutN (Lr [])
  refine Qf (TC.le hle (TC.ret (Qm (Ql (Qm (Ql ?_))))))
  obtain rfl := Oi h
  exact R1 2 Z (Lr [])
 refine Rg (U 2 Z (Nx (Bd h fun b25 h26 h => ?_)))
 refine Qy (b := b25) (fun sb25 => [(3, .ptr 0 0), (4, .bool sb25)]) (fun sb25 => [.cells 298 (typing_cond.c ({ Cond := a1.Cond : typing_cond }))]) ?_ (fun sb25 env H hb hle => ?_)
 ·refine Cn Z h26 (fun hc27 h26 => ?_) (fun hc27 h26 => ?_)
  ·refine TC.region (U 2 Z (If h26 (fun hg28 h26 => ?_) (fun hg28 h26 => ?_)))
   ·refine QG (gT hg28) QM Z (QG (gT hg28) Yr Z (QO (gT hg28) isAgg128 Z ?_))
    refine vX (I (a1.Cond.Parts.length : Int)) (Qk (e := Cond.enc) (l := a1.Cond.Parts) runUnderlying128) ?_ (gT hg28)
    refine Sg (gT hg28) Z (Pk hg28 Z (U 1 Z (WO.nil ?_)))
    obtain rfl := Oi h26
    exact Qx Z (Lr [0])
   ·refine KF hg28 Z (KF hg28 Z (KF hg28 Z (KF hg28 Z (KF hg28 Z (Pk hg28 Z (U 1 Z (WO.nil ?_)))))))
    obtain rfl := Oi h26
    exact Qx Z (Lr [0])
  refine TC.seq (Rg (U 2 Z (Nx (Bd h26 fun b30 h31 h26 => ?_))))
  refine TC.cut ([(3, .ptr 0 0), (4, .bool b2), (55, .bool b30)]) ([.cells 298 (typing_cond.c ({ Cond := a1.Cond : typing_cond }))]) ?_ (fun env H hle => ?_)
  ·refine Cn Z h31 (fun hc32 h31 => ?_) (fun hc32 h31 => ?_)
   ·refine TC.skip ?_
    obtain rfl := Oi h31
    exact cutN (Lr [0])
   refine TC.region (U 2 Z (WO.nil ?_))
   obtain rfl := Oi h31
   exact cutN (Lr [0])
  refine Qf (TC.le hle (CnS Z h26 (fun hc33 h26 => ?_) (fun hc33 h26 => ?_)))
  ·refine Rg (U 1 Z (Nx (TC.ret ?_)))
   obtain rfl := Oi h26
   refine QF (Qm (Ql (Qm (Ql ?_))))
   obtain rfl := Oi h
   exact R1 2 Z (Lr [])
  refine TC.region (U 2 Z (If h26 (fun hg34 h26 => ?_) (fun hg34 h26 => ?_)))
  ·refine QG (gT hg34) QM Z (QG (gT hg34) Yr Z (QO (gT hg34) isAgg128 Z ?_))
   refine vX (I (a1.Cond.Parts.length : Int)) (Qk (e := Cond.enc) (l := a1.Cond.Parts) runUnderlying128) ?_ (gT hg34)
   refine Sg (gT hg34) Z (Pk hg34 Z (U 1 Z (If h26 (fun hg35 h26 => ?_) (fun hg35 h26 => ?_))))
   ·refine QG (gT hg35) QM Z (QG (gT hg35) Yr Z (QO (gT hg35) isAgg128 Z ?_))
    refine vX (I (a1.Cond.Parts.length : Int)) (Qk (e := Cond.enc) (l := a1.Cond.Parts) runUnderlying128) ?_ (gT hg35)
    refine Sg (gT hg35) Z (Pk hg35 Z (U 1 Z (WO.nil ?_)))
    obtain rfl := Oi h26
    exact Qx Z (Lr [0])
   ·refine KF hg35 Z (KF hg35 Z (KF hg35 Z (KF hg35 Z (KF hg35 Z (Pk hg35 Z (U 1 Z (WO.nil ?_)))))))
    obtain rfl := Oi h26
    exact Qx Z (Lr [0])
  ·refine KF hg34 Z (KF hg34 Z (KF hg34 Z (KF hg34 Z (KF hg34 Z (Pk hg34 Z (U 8 Z (WO.nil ?_)))))))
   obtain rfl := Oi h26
   exact Qx Z (Lr [0])
 subst hb
 refine QD (Qf (TC.le hle (TC.seq (Bd h fun b39 h40 h => ?_))))
 refine TC.cut ([(2, .bool b39)]) ([]) ?_ (fun env H hle => ?_)
 ·refine TC.region (U 2 Z (If h40 (fun hg41 h40 => ?_) (fun hg41 h40 => ?_)))
  ·refine vX (.agg (typing_cond.c ({ Cond := a1.Cond : typing_cond }))) (Qi Z isAgg298 sizeOf298 Z (Pts.cells Z Z) Z Z) ?_ (gT hg41)
   refine Bd h40 fun r42 hr42 h40 => ?_
   refine Qe [] (OpC.fn call239 Z Z Z) (k_n _ _ _ hr42) ?_ (hg := (gT hg41))
   rintro _ _ ⟨rfl, rfl⟩
   refine FE Z (Bd h40 fun r43 hr43 h40 => ?_)
   refine Qh (OpC.fn call171 rfl rfl rfl) (LookL.cons rfl (.inr ⟨_, _, _, _, _, rfl, rfl, List.length_map .., rfl⟩) (LookL.cons rfl (.inl ⟨rfl, rfl⟩) LookL.nil)) (hrec95 _ _ hr43) (by rintro _ _ ⟨rfl, rfl⟩; rfl) ?_ (gT hg41)
   rintro _ _ ⟨rfl, rfl⟩
   refine FE Z (Sg (gT hg41) Z (Pk hg41 Z (U 1 Z (WO.nil ?_))))
   obtain rfl := Oi h40
   exact cutN (Lr [])
  ·refine KF hg41 Z (KF hg41 Z (KF hg41 Z (KF hg41 Z (Pk hg41 Z (U 1 Z (WO.nil ?_))))))
   obtain rfl := Oi h40
   exact cutN (Lr [])
 refine Qf (TC.le hle (TC.ret (Qm (Ql ?_))))
 obtain rfl := Oi h
 exact R1 2 Z (Lr [])
def F_eg (rec95 : (List typing_form) → Option Bool) (n : Nat) (a1 : typing_form) : Option Bool :=
  typing_form.elim a1 (fun x1 => (bif (x1.Step.Kind == 1) then ((F_a n 1 5 [x1.Step.By]).bind fun r13 => (bif r13 then (F_r n ({ Cond := x1.Step.Cond : typing_cond })).bind fun r15 => (bif r15 then (F_q n x1).bind fun r17 => some ((r17.length : Int) == 0) else some false) else some false) : Option Bool).bind fun b11 => some b11 else (bif (x1.Step.Kind == 2) then ((bif (x1.Step.By == 0) then (F_bl rec95 n ({ Cond := x1.Step.Cond : typing_cond })).bind fun r28 => (bif r28 then (bif decide (0 < (x1.Step.Then.length : Int)) then (F_q n x1).bind fun r31 => (rec95 r31).bind fun r32 => some (!r32) else some false) else some false) else some false) : Option Bool).bind fun b25 => some b25 else some false))) (fun x3 => ((bif (x3.Cond.Var == 0) then some (x3.Cond.N == 0) else some false) : Option Bool).bind fun b34 => (bif (x3.Cond.Kind == 1) then ((F_a n 1 3 [x3.Cond.Var]).bind fun r44 => (bif r44 then (F_a n 0 10000 [x3.Cond.N]).bind fun r46 => (bif r46 then some ((x3.Cond.Parts.length : Int) == 0) else some false) else some false) : Option Bool).bind fun b42 => some b42 else ((bif (x3.Cond.Kind == 4) then (bif b34 then some (.cont ((x3.Cond.Parts.length : Int) == 1)) else some (.cont false)) else ((bif (x3.Cond.Kind == 2) then some (x3.Cond.Kind == 2) else some (x3.Cond.Kind == 3)) : Option Bool).bind fun b62 => (bif b62 then (bif b34 then (bif decide (0 < (x3.Cond.Parts.length : Int)) then some (.cont (decide ((x3.Cond.Parts.length : Int) ≤ 16))) else some (.cont false)) else some (.cont false)) else some (.done false))) : Option (Ctl Bool Bool)).bind fun b57 => match b57 with | .cont sb57 => (((bif sb57 then (F_n n ({ Cond := x3.Cond : typing_cond })).bind fun r74 => (rec95 r74).bind fun r75 => some (!r75) else some false) : Option Bool).bind fun b71 => some b71) | .done sb57 => some sb57))
theorem k_eg (rec95 : (List typing_form) → Option Bool) (hrec95 : ∀ (a1 : List typing_form) (r : Bool), rec95 a1 = some r → C prog 171 [.rsl 1 (List.map typing_form.enc a1), .fn (.func 172) [] []] [] (fun a H => a = .bool r ∧ H = [])) (n : Nat) (a1 : typing_form) (r : Bool) (h : F_eg rec95 n a1 = some r) :
    C prog 219 [typing_form.val a1] [] (fun a H => a = .bool r ∧ H = []) := by
 refine Qd func219 Z Z Z ?_
 refine Rg (U 1 Z (Nx (TC.seq (Rg (U 1 Z (Nx (TC.block (Rg ?_))))))))
 rcases YF a1 with ⟨x1, hE2⟩ | ⟨x3, hE4⟩
 ·have h := Yw hE2 h
  refine WO.le (QY (s := 0) (a' := .iface 263 (.agg (typing_step.c x1))) Z (congrArg typing_form.val hE2)) ?_
  refine WO.le (QY (s := 7) (a' := .iface 263 (.agg (typing_step.c x1))) Z (congrArg typing_form.val hE2)) ?_
  refine vX (.tup [.agg [I 0, I 0, I 0, .rsl 4 (List.map Cond.enc [])], .bool false]) (QeJ (z := (.agg [I 0, I 0, I 0, .rsl 4 (List.map Cond.enc [])])) runUnderlying298 (by intro m; nofun) Z zeroValue298 (zrC Z)) ?_
  refine U 2 Z (Nx (CnF Z Z (Rg ?_)))
  refine vX (.tup [.agg (typing_step.c x1), .bool true]) (Qa3 runUnderlying263 (by intro m; nofun)) ?_
  refine U 2 Z (Nx (CnT Z Z (Rg (U 2 Z (Nx (Rg (U 6 Z (Nx (Rg (U 3 Z (Nx (TC.block (Rg (U 2 Z (Nx (Cn Z h (fun hc5 h => ?_) (fun hc5 h => ?_)))))))))))))))))
  ·refine TC.seq (Bd h fun b11 h12 h => ?_)
   refine TC.cut ([(2, .bool b11)]) ([]) ?_ (fun env H hle => ?_)
   ·refine TC.region (U 3 Z ?_)
    refine vH (OpH.lit (xs := [.tmp 94]) (es := List.map (encI .i64) [x1.Step.By]) QK Z Z Z Z Z ⟨Z, trivial⟩ Z Z) ?_
    refine FE Z (Bd h12 fun r13 hr13 h12 => ?_)
    refine Qh (OpC.fn call100 rfl rfl rfl) (LookL.cons rfl (.inl ⟨rfl, rfl⟩) (LookL.cons rfl (.inl ⟨rfl, rfl⟩) (LookL.cons rfl (.inr ⟨_, _, _, _, _, rfl, rfl, List.length_map .., rfl⟩) LookL.nil))) (k_a _ _ _ _ _ hr13) (by rintro _ _ ⟨rfl, rfl⟩; rfl) ?_
    rintro _ _ ⟨rfl, rfl⟩
    refine FE Z (U 1 Z (If h12 (fun hg14 h12 => ?_) (fun hg14 h12 => ?_)))
    ·refine vX (.agg (typing_cond.c ({ Cond := x1.Step.Cond : typing_cond }))) (Qi Z isAgg298 sizeOf298 Z (Pts.cells Z Z) Z Z) ?_ (gT hg14)
     refine Bd h12 fun r15 hr15 h12 => Pc [] Z (OpC.fn call217 Z Z Z) (k_r _ _ _ hr15) (hg := (gT hg14)) Z (Pk hg14 Z (U 1 Z (If h12 (fun hg16 h12 => ?_) (fun hg16 h12 => ?_))))
     ·refine vX (.agg (typing_step.c x1)) (Qi Z isAgg263 sizeOf263 Z (Pts.cells Z Z) Z Z) ?_ (gT hg16)
      refine Bd h12 fun r17 hr17 h12 => ?_
      refine Qe [] (OpC.fn call240 Z Z Z) (k_q _ _ _ hr17) ?_ (hg := (gT hg16))
      rintro _ _ ⟨rfl, rfl⟩
      refine FE Z ?_
      refine vX (I (r17.length : Int)) (Qbs runUnderlying221) ?_ (gT hg16)
      refine Sg (gT hg16) Z (Pk hg16 Z (U 1 Z (WO.nil ?_)))
      obtain rfl := Oi h12
      exact cutN (Lr [])
     ·refine KF hg16 Z (KF hg16 Z (KF hg16 Z (KF hg16 Z (Pk hg16 Z (U 1 Z (WO.nil ?_))))))
      obtain rfl := Oi h12
      exact cutN (Lr [])
    ·refine KF hg14 Z (KF hg14 Z (Pk hg14 Z (U 7 Z (WO.nil ?_))))
     obtain rfl := Oi h12
     exact cutN (Lr [])
   refine Qf (TC.le hle (TC.ret (Qm (Qm (Ql ?_)))))
   obtain rfl := Oi h
   exact R1 2 Z (Lr [])
  refine Rg (U 2 Z (Nx (Cn Z h (fun hc18 h => ?_) (fun hc18 h => ?_))))
  ·refine TC.seq (Bd h fun b25 h26 h => ?_)
   refine TC.cut ([(2, .bool b25)]) ([]) ?_ (fun env H hle => ?_)
   ·refine TC.region (U 5 Z (If h26 (fun hg27 h26 => ?_) (fun hg27 h26 => ?_)))
    ·refine vX (.agg (typing_cond.c ({ Cond := x1.Step.Cond : typing_cond }))) (Qi Z isAgg298 sizeOf298 Z (Pts.cells Z Z) Z Z) ?_ (gT hg27)
     refine vX (.iface 298 (.agg (typing_cond.c ({ Cond := x1.Step.Cond : typing_cond })))) (Qai Z runUnderlying298 (by intro m; nofun) Z) ?_ (gT hg27)
     refine Bd h26 fun r28 hr28 h26 => Pc [] Z (OpC.fn call219 Z Z Z) (k_bl rec95 hrec95 _ _ _ hr28) (hg := (gT hg27)) Z (Pk hg27 Z (U 1 Z (If h26 (fun hg29 h26 => ?_) (fun hg29 h26 => ?_))))
     ·refine QG (gT hg29) Qfg Z (QG (gT hg29) Qfn Z (QO (gT hg29) isAgg29 Z ?_))
      refine vX (I (x1.Step.Then.length : Int)) (Qk (e := Step.enc) (l := x1.Step.Then) runUnderlying29) ?_ (gT hg29)
      refine Sg (gT hg29) Z (Pk hg29 Z (U 1 Z (If h26 (fun hg30 h26 => ?_) (fun hg30 h26 => ?_))))
      ·refine vX (.agg (typing_step.c x1)) (Qi Z isAgg263 sizeOf263 Z (Pts.cells Z Z) Z Z) ?_ (gT hg30)
       refine Bd h26 fun r31 hr31 h26 => ?_
       refine Qe [] (OpC.fn call240 Z Z Z) (k_q _ _ _ hr31) ?_ (hg := (gT hg30))
       rintro _ _ ⟨rfl, rfl⟩
       refine FE Z (Bd h26 fun r32 hr32 h26 => ?_)
       refine Qh (OpC.fn call171 rfl rfl rfl) (LookL.cons rfl (.inr ⟨_, _, _, _, _, rfl, rfl, List.length_map .., rfl⟩) (LookL.cons rfl (.inl ⟨rfl, rfl⟩) LookL.nil)) (hrec95 _ _ hr32) (by rintro _ _ ⟨rfl, rfl⟩; rfl) ?_ (gT hg30)
       rintro _ _ ⟨rfl, rfl⟩
       refine FE Z (Sg (gT hg30) Z (Pk hg30 Z (U 1 Z (WO.nil ?_))))
       obtain rfl := Oi h26
       exact cutN (Lr [])
      ·refine KF hg30 Z (KF hg30 Z (KF hg30 Z (KF hg30 Z (Pk hg30 Z (U 1 Z (WO.nil ?_))))))
       obtain rfl := Oi h26
       exact cutN (Lr [])
     ·refine KF hg29 Z (KF hg29 Z (KF hg29 Z (KF hg29 Z (KF hg29 Z (Pk hg29 Z (U 7 Z (WO.nil ?_)))))))
      obtain rfl := Oi h26
      exact cutN (Lr [])
    ·refine KF hg27 Z (KF hg27 Z (KF hg27 Z (Pk hg27 Z (U 14 Z (WO.nil ?_)))))
     obtain rfl := Oi h26
     exact cutN (Lr [])
   refine Qf (TC.le hle (TC.ret (Qm (Qm (Ql ?_)))))
   obtain rfl := Oi h
   exact R1 2 Z (Lr [])
  refine TC.skip (QD (QD (Qf (Rg (U 1 Z (Nx (TC.ret ?_)))))))
  obtain rfl := Oi h
  exact R1 2 Z (Lr [])
 ·have h := Yv hE4 h
  refine WO.le (QY (s := 0) (a' := .iface 298 (.agg (typing_cond.c ({ Cond := x3.Cond : typing_cond })))) Z (congrArg typing_form.val hE4)) ?_
  refine WO.le (QY (s := 7) (a' := .iface 298 (.agg (typing_cond.c ({ Cond := x3.Cond : typing_cond })))) Z (congrArg typing_form.val hE4)) ?_
  refine vX (.tup [.agg (typing_cond.c ({ Cond := x3.Cond : typing_cond })), .bool true]) (Qa3 runUnderlying298 (by intro m; nofun)) ?_
  refine U 2 Z (Nx (CnT Z Z (Rg (U 2 Z (Nx (TC.seq (Bd h fun b34 h35 h => ?_)))))))
  refine TC.cut ([(3, .ptr 0 0), (4, .bool b34)]) ([.cells 298 (typing_cond.c ({ Cond := x3.Cond : typing_cond }))]) ?_ (fun env H hle => ?_)
  ·refine TC.region (U 5 Z (If h35 (fun hg36 h35 => ?_) (fun hg36 h35 => ?_)))
   ·refine QG (gT hg36) QM Z (QG (gT hg36) Qbc Z (QO (gT hg36) isAgg3 Z (Sg (gT hg36) Z (Pk hg36 Z (U 1 Z (WO.nil ?_))))))
    obtain rfl := Oi h35
    exact cutN (Lr [0])
   ·refine KF hg36 Z (KF hg36 Z (KF hg36 Z (KF hg36 Z (Pk hg36 Z (U 1 Z (WO.nil ?_))))))
    obtain rfl := Oi h35
    exact cutN (Lr [0])
  refine Qf (TC.le hle (TC.seq (Rg (U 3 Z (Nx (TC.block (Rg (U 2 Z (Nx (Cn Z h (fun hc37 h => ?_) (fun hc37 h => ?_)))))))))))
  ·refine TC.seq (Bd h fun b42 h43 h => ?_)
   refine TC.cut ([(2, .bool b42)]) ([]) ?_ (fun env H hle => ?_)
   ·refine TC.region (U 3 Z ?_)
    refine vH (OpH.lit (xs := [.tmp 28]) (es := List.map (encI .i64) [x3.Cond.Var]) QK Z Z Z Z Z ⟨Z, trivial⟩ Z Z) ?_
    refine FE Z (Bd h43 fun r44 hr44 h43 => ?_)
    refine Qh (OpC.fn call100 rfl rfl rfl) (LookL.cons rfl (.inl ⟨rfl, rfl⟩) (LookL.cons rfl (.inl ⟨rfl, rfl⟩) (LookL.cons rfl (.inr ⟨_, _, _, _, _, rfl, rfl, List.length_map .., rfl⟩) LookL.nil))) (k_a _ _ _ _ _ hr44) (by rintro _ _ ⟨rfl, rfl⟩; rfl) ?_
    rintro _ _ ⟨rfl, rfl⟩
    refine FE Z (U 1 Z (If h43 (fun hg45 h43 => ?_) (fun hg45 h43 => ?_)))
    ·refine QG (gT hg45) QM Z (QG (gT hg45) Qbc Z (QO (gT hg45) isAgg3 Z ?_))
     refine vH (OpH.lit (xs := [.tmp 34]) (es := List.map (encI .i64) [x3.Cond.N]) QK Z Z Z Z Z ⟨Z, trivial⟩ Z Z) ?_ (gT hg45)
     refine FE Z (Bd h43 fun r46 hr46 h43 => ?_)
     refine Qh (OpC.fn call100 rfl rfl rfl) (LookL.cons rfl (.inl ⟨rfl, rfl⟩) (LookL.cons rfl (.inl ⟨rfl, rfl⟩) (LookL.cons rfl (.inr ⟨_, _, _, _, _, rfl, rfl, List.length_map .., rfl⟩) LookL.nil))) (k_a _ _ _ _ _ hr46) (by rintro _ _ ⟨rfl, rfl⟩; rfl) ?_ (gT hg45)
     rintro _ _ ⟨rfl, rfl⟩
     refine FE Z (Pk hg45 Z (U 1 Z (If h43 (fun hg47 h43 => ?_) (fun hg47 h43 => ?_))))
     ·refine QG (gT hg47) QM Z (QG (gT hg47) Yr Z (QO (gT hg47) isAgg128 Z ?_))
      refine vX (I (x3.Cond.Parts.length : Int)) (Qk (e := Cond.enc) (l := x3.Cond.Parts) runUnderlying128) ?_ (gT hg47)
      refine Sg (gT hg47) Z (Pk hg47 Z (U 1 Z (WO.nil ?_)))
      obtain rfl := Oi h43
      exact cutN (Lr [])
     ·refine KF hg47 Z (KF hg47 Z (KF hg47 Z (KF hg47 Z (KF hg47 Z (Pk hg47 Z (U 1 Z (WO.nil ?_)))))))
      obtain rfl := Oi h43
      exact cutN (Lr [])
    ·refine KF hg45 Z (KF hg45 Z (KF hg45 Z (KF hg45 Z (KF hg45 Z (Pk hg45 Z (U 8 Z (WO.nil ?_)))))))
     obtain rfl := Oi h43
     exact cutN (Lr [])
   refine Qf (TC.le hle (TC.ret (Qm (Ql (Qm (Ql ?_))))))
   obtain rfl := Oi h
   exact R1 2 Z (Lr [])
  refine Rg (U 2 Z (Nx (Bd h fun b57 h58 h => ?_)))
  refine Qy (b := b57) (fun sb57 => [(3, .ptr 0 0), (4, .bool sb57)]) (fun sb57 => [.cells 298 (typing_cond.c ({ Cond := x3.Cond : typing_cond }))]) ?_ (fun sb57 env H hb hle => ?_)
  ·refine Cn Z h58 (fun hc59 h58 => ?_) (fun hc59 h58 => ?_)
   ·refine TC.region (U 2 Z (If h58 (fun hg60 h58 => ?_) (fun hg60 h58 => ?_)))
    ·refine QG (gT hg60) QM Z (QG (gT hg60) Yr Z (QO (gT hg60) isAgg128 Z ?_))
     refine vX (I (x3.Cond.Parts.length : Int)) (Qk (e := Cond.enc) (l := x3.Cond.Parts) runUnderlying128) ?_ (gT hg60)
     refine Sg (gT hg60) Z (Pk hg60 Z (U 1 Z (WO.nil ?_)))
     obtain rfl := Oi h58
     exact Qx Z (Lr [0])
    ·refine KF hg60 Z (KF hg60 Z (KF hg60 Z (KF hg60 Z (KF hg60 Z (Pk hg60 Z (U 1 Z (WO.nil ?_)))))))
     obtain rfl := Oi h58
     exact Qx Z (Lr [0])
   refine TC.seq (Rg (U 2 Z (Nx (Bd h58 fun b62 h63 h58 => ?_))))
   refine TC.cut ([(3, .ptr 0 0), (4, .bool b34), (55, .bool b62)]) ([.cells 298 (typing_cond.c ({ Cond := x3.Cond : typing_cond }))]) ?_ (fun env H hle => ?_)
   ·refine Cn Z h63 (fun hc64 h63 => ?_) (fun hc64 h63 => ?_)
    ·refine TC.skip ?_
     obtain rfl := Oi h63
     exact cutN (Lr [0])
    refine TC.region (U 2 Z (WO.nil ?_))
    obtain rfl := Oi h63
    exact cutN (Lr [0])
   refine Qf (TC.le hle (CnS Z h58 (fun hc65 h58 => ?_) (fun hc65 h58 => ?_)))
   ·refine Rg (U 1 Z (Nx (TC.ret ?_)))
    obtain rfl := Oi h58
    refine QF (Qm (Ql (Qm (Ql ?_))))
    obtain rfl := Oi h
    exact R1 2 Z (Lr [])
   refine TC.region (U 2 Z (If h58 (fun hg66 h58 => ?_) (fun hg66 h58 => ?_)))
   ·refine QG (gT hg66) QM Z (QG (gT hg66) Yr Z (QO (gT hg66) isAgg128 Z ?_))
    refine vX (I (x3.Cond.Parts.length : Int)) (Qk (e := Cond.enc) (l := x3.Cond.Parts) runUnderlying128) ?_ (gT hg66)
    refine Sg (gT hg66) Z (Pk hg66 Z (U 1 Z (If h58 (fun hg67 h58 => ?_) (fun hg67 h58 => ?_))))
    ·refine QG (gT hg67) QM Z (QG (gT hg67) Yr Z (QO (gT hg67) isAgg128 Z ?_))
     refine vX (I (x3.Cond.Parts.length : Int)) (Qk (e := Cond.enc) (l := x3.Cond.Parts) runUnderlying128) ?_ (gT hg67)
     refine Sg (gT hg67) Z (Pk hg67 Z (U 1 Z (WO.nil ?_)))
     obtain rfl := Oi h58
     exact Qx Z (Lr [0])
    ·refine KF hg67 Z (KF hg67 Z (KF hg67 Z (KF hg67 Z (KF hg67 Z (Pk hg67 Z (U 1 Z (WO.nil ?_)))))))
     obtain rfl := Oi h58
     exact Qx Z (Lr [0])
   ·refine KF hg66 Z (KF hg66 Z (KF hg66 Z (KF hg66 Z (KF hg66 Z (Pk hg66 Z (U 8 Z (WO.nil ?_)))))))
    obtain rfl := Oi h58
    exact Qx Z (Lr [0])
  subst hb
  refine QD (Qf (TC.le hle (TC.seq (Bd h fun b71 h72 h => ?_))))
  refine TC.cut ([(2, .bool b71)]) ([]) ?_ (fun env H hle => ?_)
  ·refine TC.region (U 2 Z (If h72 (fun hg73 h72 => ?_) (fun hg73 h72 => ?_)))
   ·refine vX (.agg (typing_cond.c ({ Cond := x3.Cond : typing_cond }))) (Qi Z isAgg298 sizeOf298 Z (Pts.cells Z Z) Z Z) ?_ (gT hg73)
    refine Bd h72 fun r74 hr74 h72 => ?_
    refine Qe [] (OpC.fn call239 Z Z Z) (k_n _ _ _ hr74) ?_ (hg := (gT hg73))
    rintro _ _ ⟨rfl, rfl⟩
    refine FE Z (Bd h72 fun r75 hr75 h72 => ?_)
    refine Qh (OpC.fn call171 rfl rfl rfl) (LookL.cons rfl (.inr ⟨_, _, _, _, _, rfl, rfl, List.length_map .., rfl⟩) (LookL.cons rfl (.inl ⟨rfl, rfl⟩) LookL.nil)) (hrec95 _ _ hr75) (by rintro _ _ ⟨rfl, rfl⟩; rfl) ?_ (gT hg73)
    rintro _ _ ⟨rfl, rfl⟩
    refine FE Z (Sg (gT hg73) Z (Pk hg73 Z (U 1 Z (WO.nil ?_))))
    obtain rfl := Oi h72
    exact cutN (Lr [])
   ·refine KF hg73 Z (KF hg73 Z (KF hg73 Z (KF hg73 Z (Pk hg73 Z (U 1 Z (WO.nil ?_))))))
    obtain rfl := Oi h72
    exact cutN (Lr [])
  refine Qf (TC.le hle (TC.ret (Qm (Ql ?_))))
  obtain rfl := Oi h
  exact R1 2 Z (Lr [])
def F_bm (rec95 : (List typing_form) → Option Bool) (n : Nat) (a1 : typing_form) : Option Bool :=
  (F_eg rec95 n a1).bind fun r1 => some (!r1)
theorem k_bm (rec95 : (List typing_form) → Option Bool) (hrec95 : ∀ (a1 : List typing_form) (r : Bool), rec95 a1 = some r → C prog 171 [.rsl 1 (List.map typing_form.enc a1), .fn (.func 172) [] []] [] (fun a H => a = .bool r ∧ H = [])) (n : Nat) (a1 : typing_form) (r : Bool) (h : F_bm rec95 n a1 = some r) :
    C prog 172 [typing_form.val a1] [] (fun a H => a = .bool r ∧ H = []) := by
 refine Qd func172 Z Z Z ?_
 refine Rg (U 1 Z (Nx (Rg (U 1 Z (Bd h fun r1 hr1 h => Pc [] Z (OpC.fn call219 Z Z Z) (k_eg rec95 hrec95 _ _ _ hr1) (hargs := by first | exact Z | exact Eq.trans (by exact Z) (Qab _ (by simp [dataL, dataA, typing_form.data])).symm) Z (U 2 Z (Nx (TC.ret ?_))))))))
 obtain rfl := Oi h
 exact R1 2 Z (Lr [])
def F_gi (n : Nat) (a1 : List typing_form) (rec95 : (List typing_form) → Option Bool) (s13 : Int) : Option (Ctl Int (Ctl Unit Int)) :=
  (bif decide (s13 < (a1.length : Int)) then (idx a1 s13).bind fun x17 => (F_bm rec95 n x17).bind fun r18 => (bif r18 then some (.done (.done s13)) else some (.cont (IntKind.i64.wrap (s13 + 1)))) else some (.done (.cont ())))
def F_dw (rec95 : (List typing_form) → Option Bool) (n : Nat) (a1 : List typing_form) : Option Int :=
  (iter (F_gi n a1 rec95) n 0 : Option (Ctl Unit Int)).bind fun b10 => match b10 with | .cont sb10 => (some (-1)) | .done sb10 => some sb10
theorem k_dw (rec95 : (List typing_form) → Option Bool) (hrec95 : ∀ (a1 : List typing_form) (r : Bool), rec95 a1 = some r → C prog 171 [.rsl 1 (List.map typing_form.enc a1), .fn (.func 172) [] []] [] (fun a H => a = .bool r ∧ H = [])) (n : Nat) (a1 : List typing_form) (r : Int) (h : F_dw rec95 n a1 = some r) :
    C prog 218 [.rsl 1 (List.map typing_form.enc a1), .fn (.func 172) [] []] [] (fun a H => a = I r ∧ H = []) := by
 refine Qd func218 Z Z Z ?_
 refine Rg (U 1 Z (Nx (TC.seq (Rg (U 1 Z (LnM runUnderlying221 Z (U 1 Z (Nx (Bd h fun b10 h11 h => ?_)))))))))
 refine Qy (b := b10) (fun sb10 => []) (fun sb10 => []) ?_ (fun sb10 env H hbe hle => ?_)
 ·refine TC.block ?_
  refine TC.loop (E := fun s13 => [(0, .rsl 1 (List.map typing_form.enc a1)), (1, .fn (.func 172) [] []), (7, I (a1.length : Int)), (8, I s13)]) (Hp := fun s13 => []) h11 ?_ ?_
  ·exact Lr []
  intro s13 d14 h15 hb12
  refine Rg (U 1 Z (Nx (TC.seq (CnS Z h15 (fun hc16 h15 => ?_) (fun hc16 h15 => ?_)))))
  ·refine ExX (Qz h15 ?_)
   obtain rfl := hb12 _ (Oi h15).symm
   exact QQ (Qx Z (Lr []))
  refine QU (TC.seq (TC.block (Rg (U 2 Z (Nx (Rg (U 3 Z (Bd h15 fun x17 hx17 h15 => Ix hx17 runUnderlying221 sizeOf260 Z (U 1 Z (Bd h15 fun r18 hr18 h15 => Pc [] Z (Qj call172 Z Z Z Z) (k_bm rec95 hrec95 _ _ _ hr18) (hargs := by first | exact Z | exact Eq.trans (by exact Z) (Qab _ (by simp [dataL, dataA, typing_form.data])).symm) Z (Nx (Cn Z h15 (fun hc19 h15 => ?_) (fun hc19 h15 => ?_)))))))))))))
  ·refine Rg (U 2 Z (Nx (TC.ret (Qm (Ql (QV h15 ?_))))))
   obtain rfl := hb12 _ (Oi h15).symm
   refine Qm (QF (Ql ?_))
   obtain rfl := Oi h
   exact R1 4 Z (Lr [])
  exact TC.skip (QD (Qf (TC.region (U 2 Z (WO.nil (Qu h15 (Lr [])))))))
 subst hbe
 refine Qf (TC.le hle (Rg (U 1 Z (Nx (TC.ret ?_)))))
 obtain rfl := Oi h
 exact R1 4 Z (Lr [])
def B_k (rec95 : (List typing_form) → Option Bool) (n : Nat) (a1 : List typing_form) : Option Bool :=
  (F_dw rec95 n a1).bind fun r1 => some (decide (0 ≤ r1))
theorem Qaq (rec95 : (List typing_form) → Option Bool) (hrec95 : ∀ (a1 : List typing_form) (r : Bool), rec95 a1 = some r → C prog 171 [.rsl 1 (List.map typing_form.enc a1), .fn (.func 172) [] []] [] (fun a H => a = .bool r ∧ H = [])) (n : Nat) (a1 : List typing_form) (r : Bool) (h : B_k rec95 n a1 = some r) :
    C prog 171 [.rsl 1 (List.map typing_form.enc a1), .fn (.func 172) [] []] [] (fun a H => a = .bool r ∧ H = []) := by
 refine Qd func171 Z Z Z ?_
 refine Rg (U 1 Z (Nx (Rg (U 2 Z (Bd h fun r1 hr1 h => Pc [] Z (OpC.fn call218 Z Z Z) (k_dw rec95 hrec95 _ _ _ hr1) Z (U 2 Z (Nx (TC.ret ?_))))))))
 obtain rfl := Oi h
 exact R1 4 Z (Lr [])
def F_k : Nat → (List typing_form) → Option Bool
  | 0 => fun _ => none
  | n + 1 => B_k (F_k n) n
theorem k_k (n : Nat) : ∀ (a1 : List typing_form) (r : Bool), F_k n a1 = some r → C prog 171 [.rsl 1 (List.map typing_form.enc a1), .fn (.func 172) [] []] [] (fun a H => a = .bool r ∧ H = []) := by
  induction n with
  | zero => intro a1 r h; cases h
  | succ n ih => intro a1 r h; exact Qaq _ ih n a1 r h
def F_dc (n : Nat) (a1 : List typing_form) : Option Int :=
  (F_ed n a1 0 ({ steps := 0, conds := 0 : typing_count })).bind fun r1 => (bif (!r1.2) then some 2 else ((bif ((a1.length : Int) == 0) then some true else (F_k n a1).bind fun r8 => some r8) : Option Bool).bind fun b5 => (bif b5 then some 71 else some 0))
theorem k_dc (n : Nat) (a1 : List typing_form) (r : Int) (h : F_dc n a1 = some r) :
    C prog 121 [.rsl 1 (List.map typing_form.enc a1)] [] (fun a H => a = I r ∧ H = []) := by
 refine Qd func121 Z Z Z ?_
 refine Rg (U 1 Z (Nx (Rg (U 3 Z (Nx (TC.seq (Rg (U 2 Z (Bd h fun r1 hr1 h => ?_)))))))))
 refine Qe [0] (OpC.fn call170 Z Z Z) (k_ed _ _ _ _ _ hr1) ?_
 rintro _ _ ⟨rfl, rfl⟩
 refine FE Z (U 1 Z (Nx (Cn Z h (fun hc2 h => ?_) (fun hc2 h => ?_))))
 ·refine Rg (U 1 Z (Nx (RtR ?_)))
  obtain rfl := Oi h
  exact R1 2 Z (Lr [])
 refine QU (TC.seq (TC.seq (Bd h fun b5 h6 h => ?_)))
 refine TC.cut ([(16, .bool b5)]) ([]) ?_ (fun env H hle => ?_)
 ·refine TC.region (U 1 Z (LnM runUnderlying221 Z (U 2 Z (If h6 (fun hg7 h6 => ?_) (fun hg7 h6 => ?_)))))
  ·refine KF hg7 Z (KF hg7 Z (Pk hg7 Z (WO.nil ?_)))
   obtain rfl := Oi h6
   exact cutN (Lr [])
  ·refine Sg (gT hg7) Z (Bd h6 fun r8 hr8 h6 => Pc [] Z (OpC.fn call171 Z Z Z) (k_k _ _ _ hr8) (hg := (gT hg7)) Z (Pk hg7 Z (WO.nil ?_)))
   obtain rfl := Oi h6
   exact cutN (Lr [])
 refine Qf (TC.le hle (Cn Z h (fun hc9 h => ?_) (fun hc9 h => ?_)))
 ·refine Rg (U 1 Z (Nx (RtR ?_)))
  obtain rfl := Oi h
  exact R1 2 Z (Lr [])
 refine QU (Rg (U 1 Z (Nx (TC.ret ?_))))
 obtain rfl := Oi h
 exact R1 2 Z (Lr [])
def F_ax (n : Nat) (a1 : List Step) : Option Int :=
  (F_s n a1).bind fun r1 => (F_dc n r1).bind fun r2 => some r2
theorem k_ax (n : Nat) (a1 : List Step) (r : Int) (h : F_ax n a1 = some r) :
    C prog 56 [.rsl 8 (List.map Step.enc a1)] [] (fun a H => a = I r ∧ H = []) := by
 refine Qd func56 Z Z Z ?_
 refine Rg (U 1 Z (Nx (Rg (U 1 Z (Bd h fun r1 hr1 h => ?_)))))
 refine Qe [] (OpC.fn call122 Z Z Z) (k_s _ _ _ hr1) ?_
 rintro _ _ ⟨rfl, rfl⟩
 refine FE Z (Bd h fun r2 hr2 h => ?_)
 refine Qh (OpC.fn call121 rfl rfl rfl) (LookL.cons rfl (.inr ⟨_, _, _, _, _, rfl, rfl, List.length_map .., rfl⟩) LookL.nil) (k_dc _ _ _ hr2) (by rintro _ _ ⟨rfl, rfl⟩; rfl) ?_
 rintro _ _ ⟨rfl, rfl⟩
 refine FE Z (U 1 Z (Nx (TC.ret ?_)))
 obtain rfl := Oi h
 exact R1 2 Z (Lr [])
def F_eo (n : Nat) (x56 : Part) (b59 : List Int) (s73 : (List Int) × Int) : Option (Ctl ((List Int) × Int) (Ctl (List Int) (Ctl ((List Int) × Int) (Ctl (List Int) (List Int))))) :=
  (bif decide (s73.2 < (if x56.Laps < 1 then 1 else x56.Laps)) then (bif decide (256 < (s73.1.length : Int)) then some (.done (.done (.done (.done s73.1)))) else (app s73.1 b59).bind fun l78 => some (.cont (l78, IntKind.i64.wrap (s73.2 + 1)))) else some (.done (.cont s73.1)))
def F_cq (n : Nat) (a1 : List Part) (rec114 : (List Part) → Option (List Int)) (s52 : (List Int) × Int) : Option (Ctl ((List Int) × Int) (Ctl (List Int) (List Int))) :=
  (bif decide (s52.2 < (a1.length : Int)) then (idx a1 s52.2).bind fun x56 => ((bif decide (0 < x56.Laps) then (rec114 x56.Parts).bind fun r62 => some r62 else some [x56.Mat]) : Option (List Int)).bind fun b59 => (iter (F_eo n x56 b59) n (s52.1, 0) : Option (Ctl (List Int) (Ctl ((List Int) × Int) (Ctl (List Int) (List Int))))).bind fun b70 => match b70 with | .cont sb70 => (some (.cont (sb70, IntKind.i64.wrap (s52.2 + 1)))) | .done sb70 => some sb70 else some (.done (.cont s52.1)))
def B_m (rec114 : (List Part) → Option (List Int)) (n : Nat) (a1 : List Part) : Option (List Int) :=
  (iter (F_cq n a1 rec114) n ([], 0) : Option (Ctl (List Int) (List Int))).bind fun b49 => match b49 with | .cont sb49 => (some sb49) | .done sb49 => some sb49
theorem QbR (rec114 : (List Part) → Option (List Int)) (hrec114 : ∀ (a1 : List Part) (r : List Int), rec114 a1 = some r → C prog 125 [.rsl 3 (List.map Part.enc a1)] [] (fun a H => a = .osl 0 0 r.length 1 ∧ H = [.row 3 1 (List.map (encI .i64) r)])) (n : Nat) (a1 : List Part) (r : List Int) (h : B_m rec114 n a1 = some r) :
    C prog 125 [.rsl 3 (List.map Part.enc a1)] [] (fun a H => a = .osl 0 0 r.length 1 ∧ H = [.row 3 1 (List.map (encI .i64) r)]) := by
 refine Qd func125 Z Z Z ?_
 refine Rg (U 1 Z (Nx (TC.seq (Rg (U 1 Z (LnM runUnderlying91 Z (U 1 Z (Nx (Bd h fun b49 h50 h => ?_)))))))))
 refine Qy (b := b49) (fun sb49 => [(2, .osl 0 0 sb49.length 1)]) (fun sb49 => [.row 3 1 (List.map (encI .i64) sb49)]) ?_ (fun sb49 env H hbe hle => ?_)
 ·refine TC.block ?_
  refine TC.loop (E := fun s52 => [(2, .osl 0 0 s52.1.length 1), (6, .rsl 3 (List.map Part.enc a1)), (7, I (a1.length : Int)), (8, I s52.2)]) (Hp := fun s52 => [.row 3 1 (List.map (encI .i64) s52.1)]) h50 ?_ ?_
  ·refine Le.trans (Le.phantom (s := 2) (k := 1) (t := 3) (Nat.le_of_ble_eq_true Z) Z) ?_
   exact Lr [0]
  intro s52 d53 h54 hb51
  refine Rg (U 1 Z (Nx (TC.seq (CnS Z h54 (fun hc55 h54 => ?_) (fun hc55 h54 => ?_)))))
  ·refine ExX (Qz h54 ?_)
   obtain rfl := hb51 _ (Oi h54).symm
   exact QQ (Qx Z (Lr [0]))
  refine QU (TC.seq (TC.block (Rg (Bd h54 fun x56 hx56 h54 => ?_))))
  refine vX (.rp [I x56.Mat, I x56.Laps, .rsl 3 (List.map Part.enc x56.Parts)]) (Q7 (e := Part.enc) hx56 (YE x56) runUnderlying91 sizeOf125) ?_
  refine U 3 Z (Nx (Rg (U 2 Z ?_)))
  refine vH (OpH.lit (xs := [.tmp 13]) (es := List.map (encI .i64) [x56.Mat]) QK Z Z Z Z Z ⟨Z, trivial⟩ Z Z) ?_
  refine FE Z (U 1 Z (Nx (TC.seq (Rg (U 3 Z (Nx (Bd h54 fun b59 h60 h54 => ?_)))))))
  refine TC.cut ([(2, .osl 0 0 s52.1.length 1), (4, .ptr 1 0), (5, .osl 2 0 b59.length 1), (6, .rsl 3 (List.map Part.enc a1)), (7, I (a1.length : Int)), (8, I s52.2)]) ([.row 3 1 (List.map (encI .i64) s52.1), .cells 125 (Part.c x56), .row 3 1 (List.map (encI .i64) b59)]) ?_ (fun env H hle => ?_)
  ·refine Cn Z h60 (fun hc61 h60 => ?_) (fun hc61 h60 => ?_)
   ·refine TC.region (U 2 Z (Bd h60 fun r62 hr62 h60 => ?_))
    refine Qe [] (OpC.fn call125 Z Z Z) (hrec114 _ _ hr62) ?_
    rintro _ _ ⟨rfl, rfl⟩
    refine FE Z (U 1 Z (WO.nil ?_))
    obtain rfl := Oi h60
    exact cutN (Lr [0, 1, 3])
   refine TC.skip ?_
   obtain rfl := Oi h60
   exact cutN (Lr [0, 1, 2])
  refine Qf (TC.le hle (Rg (U 2 Z ?_)))
  refine vX (I (if x56.Laps < 1 then 1 else x56.Laps)) (OpV.max Z Z Z Z) ?_
  refine U 1 Z (Nx (Bd h54 fun b70 h71 h54 => ?_))
  refine Qy (b := b70) (fun sb70 => [(2, .osl 0 0 sb70.length 1), (6, .rsl 3 (List.map Part.enc a1)), (7, I (a1.length : Int)), (8, I s52.2)]) (fun sb70 => [.row 3 1 (List.map (encI .i64) sb70)]) ?_ (fun sb70 env H hbe hle => ?_)
  ·refine TC.block ?_
   refine TC.loop (E := fun s73 => [(2, .osl 0 0 s73.1.length 1), (5, .osl 1 0 b59.length 1), (6, .rsl 3 (List.map Part.enc a1)), (7, I (a1.length : Int)), (8, I s52.2), (23, I (if x56.Laps < 1 then 1 else x56.Laps)), (24, I s73.2)]) (Hp := fun s73 => [.row 3 1 (List.map (encI .i64) s73.1), .row 3 1 (List.map (encI .i64) b59)]) h71 ?_ ?_
   ·exact Lr [0, 2]
   intro s73 d74 h75 hb72
   refine Rg (U 1 Z (Nx (TC.seq (CnS Z h75 (fun hc76 h75 => ?_) (fun hc76 h75 => ?_)))))
   ·refine ExX (Qz h75 ?_)
    obtain rfl := hb72 _ (Oi h75).symm
    exact QQ (Qx Z (Lr [0]))
   refine QU (TC.seq (TC.block (TC.seq (Rg (U 3 Z (Nx (Cn Z h75 (fun hc77 h75 => ?_) (fun hc77 h75 => ?_))))))))
   ·refine Rg (U 2 Z (Nx (RtR (Qm (Ql (QV h75 ?_))))))
    obtain rfl := hb72 _ (Oi h75).symm
    refine Qm (QF (Qm (Ql (QV h54 ?_))))
    obtain rfl := hb51 _ (Oi h54).symm
    refine Qm (QF (Ql ?_))
    obtain rfl := Oi h
    exact R1 2 Z (Lr [0])
   refine QU (TC.region (U 2 Z (Bd h75 fun l78 hl78 h75 => ?_)))
   refine vH (QN (e := (encI .i64)) hl78 QK runUnderlying48 (Qay (i := 1))) ?_
   exact FE Z (U 1 Z (WO.nil (QD (Qf (TC.region (U 2 Z (WO.nil (Qu h75 (Lr [2, 1])))))))))
  subst hbe
  exact QD (Qf (TC.le hle (TC.region (U 2 Z (WO.nil (Qu h54 (Lr [0])))))))
 subst hbe
 refine Qf (TC.le hle (Rg (U 2 Z (Nx (TC.ret ?_)))))
 obtain rfl := Oi h
 exact R1 2 Z (Lr [0])
def F_m : Nat → (List Part) → Option (List Int)
  | 0 => fun _ => none
  | n + 1 => B_m (F_m n) n
theorem k_m (n : Nat) : ∀ (a1 : List Part) (r : List Int), F_m n a1 = some r → C prog 125 [.rsl 3 (List.map Part.enc a1)] [] (fun a H => a = .osl 0 0 r.length 1 ∧ H = [.row 3 1 (List.map (encI .i64) r)]) := by
  induction n with
  | zero => intro a1 r h; cases h
  | succ n ih => intro a1 r h; exact QbR _ ih n a1 r h
def F_ca (n : Nat) (a1 : Cutoff) (a2 : List (Int × Int)) : Option Bool :=
  (some (mgetD a2 a1.Mat 0)).bind fun v1 => some (decide (a1.Lap ≤ v1))
theorem k_ca (n : Nat) (a1 : Cutoff) (a2 : List (Int × Int)) (r : Bool) (h : F_ca n a1 a2 = some r) :
    C prog 126 [.agg (Cutoff.c a1), .ptr 0 0] [.cells 223 [.map 1], .map (menc (fun x => A.int .i64 x) (fun x => A.int .i64 x) a2)] (fun a H => a = .bool r ∧ H = [.cells 223 [.map 1], .map (menc (fun x => A.int .i64 x) (fun x => A.int .i64 x) a2)]) := by
 refine Qd func126 Z Z Z ?_
 refine Rg (U 2 Z (Nx (Rg (U 3 Z (Bd h fun v1 hv1 h => ?_)))))
 refine vX (I v1) (Q6 (ev := (fun x => A.int .i64 x)) (z0 := 0) (k := a1.Mat) (l := a2) Qa7 hv1 underlying223 zeroValue3 ZR.int) ?_
 refine U 4 Z (Nx (TC.ret ?_))
 obtain rfl := Oi h
 exact R1 3 Z (Lr [0, 1])
def F_es (n : Nat) (a1 : Cutoff) (a2 : List (Int × Int)) : Option Bool :=
  (F_ca n a1 a2).bind fun r1 => some (!r1)
theorem k_es (n : Nat) (a1 : Cutoff) (a2 : List (Int × Int)) (r : Bool) (h : F_es n a1 a2 = some r) :
    C prog 157 [.agg (Cutoff.c a1), .ptr 0 0] [.cells 200 [.fn (.func 126) [] [.ptr 1 0]], .cells 223 [.map 2], .map (menc (fun x => A.int .i64 x) (fun x => A.int .i64 x) a2)] (fun a H => a = .bool r ∧ H = [.cells 200 [.fn (.func 126) [] [.ptr 1 0]], .cells 223 [.map 2], .map (menc (fun x => A.int .i64 x) (fun x => A.int .i64 x) a2)]) := by
 refine Qd func157 Z Z Z ?_
 refine Rg (U 2 Z (Nx (Rg (U 2 Z (Bd h fun r1 hr1 h => Pc [1, 2] Z (Qj call126 Z Z Z Z) (k_ca _ _ _ _ hr1) Z (U 2 Z (Nx (TC.ret ?_))))))))
 obtain rfl := Oi h
 exact R1 3 Z (Lr [0, 1, 2])
def F_gx (n : Nat) (a1 : List Cutoff) (a2 : List (Int × Int)) (s13 : Int) : Option (Ctl Int (Ctl Unit Int)) :=
  (bif decide (s13 < (a1.length : Int)) then (idx a1 s13).bind fun x17 => (F_es n x17 a2).bind fun r18 => (bif r18 then some (.done (.done s13)) else some (.cont (IntKind.i64.wrap (s13 + 1)))) else some (.done (.cont ())))
def F_ek (n : Nat) (a1 : List Cutoff) (a2 : List (Int × Int)) : Option Int :=
  (iter (F_gx n a1 a2) n 0 : Option (Ctl Unit Int)).bind fun b10 => match b10 with | .cont sb10 => (some (-1)) | .done sb10 => some sb10
theorem k_ek (n : Nat) (a1 : List Cutoff) (a2 : List (Int × Int)) (r : Int) (h : F_ek n a1 a2 = some r) :
    C prog 210 [.rsl 3 (List.map Cutoff.c a1), .fn (.func 157) [] [.ptr 0 0]] [.cells 200 [.fn (.func 126) [] [.ptr 1 0]], .cells 223 [.map 2], .map (menc (fun x => A.int .i64 x) (fun x => A.int .i64 x) a2)] (fun a H => a = I r ∧ H = [.cells 200 [.fn (.func 126) [] [.ptr 1 0]], .cells 223 [.map 2], .map (menc (fun x => A.int .i64 x) (fun x => A.int .i64 x) a2)]) :=
 QJ (el := fun x => .agg (Cutoff.c x)) (g := fun x => F_es n x a2) func210 Z Z Z runUnderlying92 sizeOf168 (fun _ _ _ _ h1 h2 => Qi h1 isAgg168 sizeOf168 h2 Pts.rp Z Z) call157 (fun _ _ h => k_es _ _ _ _ h) h
def F_co (n : Nat) (a1 : List Cutoff) (a2 : List (Int × Int)) : Option Bool :=
  (F_ek n a1 a2).bind fun r1 => some (decide (0 ≤ r1))
theorem k_co (n : Nat) (a1 : List Cutoff) (a2 : List (Int × Int)) (r : Bool) (h : F_co n a1 a2 = some r) :
    C prog 156 [.rsl 3 (List.map Cutoff.c a1), .fn (.func 157) [] [.ptr 0 0]] [.cells 200 [.fn (.func 126) [] [.ptr 1 0]], .cells 223 [.map 2], .map (menc (fun x => A.int .i64 x) (fun x => A.int .i64 x) a2)] (fun a H => a = .bool r ∧ H = [.cells 200 [.fn (.func 126) [] [.ptr 1 0]], .cells 223 [.map 2], .map (menc (fun x => A.int .i64 x) (fun x => A.int .i64 x) a2)]) := by
 refine Qd func156 Z Z Z ?_
 refine Rg (U 1 Z (Nx (Rg (U 2 Z (Bd h fun r1 hr1 h => Pc [0, 1, 2] Z (OpC.fn call210 Z Z Z) (k_ek _ _ _ _ hr1) Z (U 2 Z (Nx (TC.ret ?_))))))))
 obtain rfl := Oi h
 exact R1 4 Z (Lr [0, 1, 2])
def F_dd (n : Nat) (a1 : List Cutoff) (a2 : List (Int × Int)) : Option Bool :=
  (F_co n a1 a2).bind fun r1 => some (!r1)
theorem k_dd (n : Nat) (a1 : List Cutoff) (a2 : List (Int × Int)) (r : Bool) (h : F_dd n a1 a2 = some r) :
    C prog 104 [.rsl 3 (List.map Cutoff.c a1), .fn (.func 126) [] [.ptr 0 0]] [.cells 223 [.map 1], .map (menc (fun x => A.int .i64 x) (fun x => A.int .i64 x) a2)] (fun a H => a = .bool r ∧ H = [.cells 223 [.map 1], .map (menc (fun x => A.int .i64 x) (fun x => A.int .i64 x) a2)]) := by
 refine Qd func104 Z Z Z ?_
 refine Rg (U 2 Z (Nx (Rg (U 2 Z (Bd h fun r1 hr1 h => Pc [2, 0, 1] Z (OpC.fn call156 Z Z Z) (k_co _ _ _ _ hr1) Z (U 2 Z (Nx (TC.ret ?_))))))))
 obtain rfl := Oi h
 exact R1 4 Z (Lr [0, 1])
def F_br (n : Nat) (a1 : Course) (a3 : List (typing_ends × Bool)) (r1 : List Int) (s41 : (List (Int × Int)) × Int) : Option (Ctl ((List (Int × Int)) × Int) (Ctl (List (Int × Int)) Bool)) :=
  (bif decide (s41.2 < (r1.length : Int)) then (idx r1 s41.2).bind fun x45 => (idx a1.Mats x45).bind fun x46 => ((bif ((x46.Kind == 1) != (s41.2 == 0)) then some true else (bif ((x46.Kind == 3) != (s41.2 == (IntKind.i64.wrap ((r1.length : Int) - 1)))) then some true else (bif decide (0 < s41.2) then (idx r1 (IntKind.i64.wrap (s41.2 - 1))).bind fun x57 => (some (mgetD a3 ({ from_ := x57, to_ := x45 : typing_ends }) false)).bind fun v58 => some (!v58) else some false))) : Option Bool).bind fun b52 => (bif b52 then some (.done (.done false)) else (some (mgetD s41.1 x45 0)).bind fun v60 => (some (mset s41.1 x45 (IntKind.i64.wrap (v60 + 1)))).bind fun m61 => some (.cont (m61, IntKind.i64.wrap (s41.2 + 1)))) else some (.done (.cont s41.1)))
def F_bg (n : Nat) (a1 : Course) (a2 : Distance) (a3 : List (typing_ends × Bool)) : Option Bool :=
  (F_m n a2.Route).bind fun r1 => ((bif decide ((IntKind.i64.wrap ((r1.length : Int) - 1)) < 1) then some true else some (decide (256 ≤ (IntKind.i64.wrap ((r1.length : Int) - 1))))) : Option Bool).bind fun b3 => (bif b3 then some false else (iter (F_br n a1 a3 r1) n ([], 0) : Option (Ctl (List (Int × Int)) Bool)).bind fun b38 => match b38 with | .cont sb38 => (((bif decide (0 ≤ a2.Extra) then (some (mgetD sb38 a2.Extra 0)).bind fun v71 => (bif (v71 == 0) then some true else (idx a1.Mats a2.Extra).bind fun x73 => (bif (x73.Kind != 2) then some true else (some (mgetD a3 ({ from_ := a2.Extra, to_ := a2.Extra : typing_ends }) false)).bind fun v75 => some (!v75))) else some false) : Option Bool).bind fun b68 => (bif b68 then some false else (F_dd n a2.Cutoffs sb38).bind fun r77 => some r77)) | .done sb38 => some sb38)
theorem k_bg (n : Nat) (a1 : Course) (a2 : Distance) (a3 : List (typing_ends × Bool)) (r : Bool) (h : F_bg n a1 a2 a3 = some r) :
    C prog 59 [.agg (Course.c a1), .agg (Distance.c a2), .map 0] [.map (menc (fun x => A.agg (typing_ends.c x)) A.bool a3)] (fun a H => a = .bool r ∧ H = [.map (menc (fun x => A.agg (typing_ends.c x)) A.bool a3)]) := by
 refine Qd func59 Z Z Z ?_
 refine Rg (U 3 Z (Nx (Rg (U 2 Z (Bd h fun r1 hr1 h => ?_)))))
 refine Qe [] (OpC.fn call125 Z Z Z) (k_m _ _ _ hr1) ?_
 rintro _ _ ⟨rfl, rfl⟩
 refine FE Z (U 1 Z (Nx (Rg (U 4 Z (Nx (TC.seq (TC.seq (Bd h fun b3 h4 h => ?_))))))))
 refine TC.cut ([(2, .map 0), (3, .ptr 1 0), (4, .ptr 2 0), (7, .osl 3 0 r1.length 1), (8, I (IntKind.i64.wrap ((r1.length : Int) - 1))), (25, .bool b3)]) ([.map (menc (fun x => A.agg (typing_ends.c x)) A.bool a3), .cells 33 (Course.c a1), .cells 94 (Distance.c a2), .row 3 1 (List.map (encI .i64) r1)]) ?_ (fun env H hle => ?_)
 ·refine TC.region (U 3 Z (If h4 (fun hg5 h4 => ?_) (fun hg5 h4 => ?_)))
  ·refine KF hg5 Z (KF hg5 Z (Pk hg5 Z (WO.nil ?_)))
   obtain rfl := Oi h4
   exact cutN (Lr [0, 1, 2, 3])
  ·refine Sg (gT hg5) Z (Sg (gT hg5) Z (Pk hg5 Z (WO.nil ?_)))
   obtain rfl := Oi h4
   exact cutN (Lr [0, 1, 2, 3])
 refine Qf (TC.le hle (Cn Z h (fun hc6 h => ?_) (fun hc6 h => ?_)))
 ·refine Rg (U 1 Z (Nx (RtR ?_)))
  obtain rfl := Oi h
  exact R1 6 Z (Lr [0])
 refine QU (Rg ?_)
 refine vH QT ?_
 refine FE Z (U 2 Z (Nx (TC.seq (Rg (U 3 Z (Nx (Bd h fun b38 h39 h => ?_)))))))
 refine Qy (b := b38) (fun sb38 => [(2, .map 0), (3, .ptr 1 0), (4, .ptr 2 0), (9, .ptr 3 0)]) (fun sb38 => [.map (menc (fun x => A.agg (typing_ends.c x)) A.bool a3), .cells 33 (Course.c a1), .cells 94 (Distance.c a2), .cells 223 [.map 4], .map (menc (fun x => A.int .i64 x) (fun x => A.int .i64 x) sb38)]) ?_ (fun sb38 env H hbe hle => ?_)
 ·refine TC.block ?_
  refine TC.loop (E := fun s41 => [(2, .map 0), (3, .ptr 1 0), (4, .ptr 2 0), (7, .osl 3 0 r1.length 1), (8, I (IntKind.i64.wrap ((r1.length : Int) - 1))), (9, .ptr 4 0), (27, .osl 3 0 r1.length 1), (28, I (r1.length : Int)), (29, I s41.2)]) (Hp := fun s41 => [.map (menc (fun x => A.agg (typing_ends.c x)) A.bool a3), .cells 33 (Course.c a1), .cells 94 (Distance.c a2), .row 3 1 (List.map (encI .i64) r1), .cells 223 [.map 5], .map (menc (fun x => A.int .i64 x) (fun x => A.int .i64 x) s41.1)]) h39 ?_ ?_
  ·exact Lr [0, 1, 2, 3, 5, 4]
  intro s41 d42 h43 hb40
  refine Rg (U 1 Z (Nx (TC.seq (CnS Z h43 (fun hc44 h43 => ?_) (fun hc44 h43 => ?_)))))
  ·refine ExX (Qz h43 ?_)
   obtain rfl := hb40 _ (Oi h43).symm
   exact QQ (Qx Z (Lr [0, 1, 2, 4, 5]))
  refine QU (TC.seq (TC.block (Rg (U 1 Z (Bd h43 fun x45 hx45 h43 => ?_)))))
  refine vX (.ptr 3 (Int.toNat s41.2 * 1)) (Yo hx45 Z runUnderlying48 sizeOf3) ?_
  refine vX (I x45) (OpV.load Z isAgg3 Z (QL hx45)) ?_
  refine U 2 Z (Nx (Rg (U 3 Z (Bd h43 fun x46 hx46 h43 => Ix hx46 runUnderlying22 sizeOf96 Z (U 3 Z (Nx (TC.seq (TC.seq (Bd h43 fun b52 h53 h43 => ?_)))))))))
  refine TC.cut ([(2, .map 0), (3, .ptr 1 0), (4, .ptr 2 0), (7, .osl 3 0 r1.length 1), (8, I (IntKind.i64.wrap ((r1.length : Int) - 1))), (9, .ptr 4 0), (11, I x45), (27, .osl 3 0 r1.length 1), (28, I (r1.length : Int)), (29, I s41.2), (68, .bool b52)]) ([.map (menc (fun x => A.agg (typing_ends.c x)) A.bool a3), .cells 33 (Course.c a1), .cells 94 (Distance.c a2), .row 3 1 (List.map (encI .i64) r1), .cells 223 [.map 5], .map (menc (fun x => A.int .i64 x) (fun x => A.int .i64 x) s41.1)]) ?_ (fun env H hle => ?_)
  ·refine TC.region (U 4 Z ?_)
   refine vX (.bool ((x46.Kind == 1) != (s41.2 == 0))) (QdH runUnderlying4) ?_
   refine U 1 Z (If h53 (fun hg54 h53 => ?_) (fun hg54 h53 => ?_))
   ·refine KF hg54 Z (KF hg54 Z (KF hg54 Z (KF hg54 Z (KF hg54 Z (KF hg54 Z (Pk hg54 Z (U 16 Z (WO.nil ?_))))))))
    obtain rfl := Oi h53
    exact cutN (Lr [0, 1, 2, 3, 4, 5])
   ·refine Sg (gT hg54) Z (Sg (gT hg54) Z (Sg (gT hg54) Z (Sg (gT hg54) Z (Sg (gT hg54) Z ?_))))
    refine vV (x := (.bool ((x46.Kind == 3) != (s41.2 == (IntKind.i64.wrap ((r1.length : Int) - 1)))))) (QdH runUnderlying4) ?_ (gT hg54)
    refine Pk hg54 Z (U 1 Z (If h53 (fun hg55 h53 => ?_) (fun hg55 h53 => ?_)))
    ·refine KF hg55 Z (KF hg55 Z (KF hg55 Z (U 10 Z (KF hg55 Z (Pk hg55 Z (WO.nil ?_))))))
     obtain rfl := Oi h53
     exact cutN (Lr [0, 1, 2, 3, 4, 5])
    ·refine Sg (gT hg55) Z (Sg (gT hg55) Z (Sg (gT hg55) Z (If h53 (fun hg56 h53 => ?_) (fun hg56 h53 => ?_))))
     ·refine Sg (gT hg56) Z (Sg (gT hg56) Z (Sg (gT hg56) Z (Sg (gT hg56) Z (Bd h53 fun x57 hx57 h53 => ?_))))
      refine vX (.ptr 3 (Int.toNat (IntKind.i64.wrap (s41.2 - 1)) * 1)) (Yo hx57 Z runUnderlying48 sizeOf3) ?_ (gT hg56)
      refine vX (I x57) (OpV.load Z isAgg3 Z (QL hx57)) ?_ (gT hg56)
      refine Sg (gT hg56) Z ?_
      refine vX (.agg [I x57, I x45]) (OpV.build (zs := [I 0, I 0]) zeroValue136 (zrC Z) QfZ) ?_ (gT hg56)
      refine Bd h53 fun v58 hv58 h53 => ?_
      refine vX (.bool v58) (Q6 (ev := A.bool) (z0 := false) (k := ({ from_ := x57, to_ := x45 : typing_ends })) (l := a3) QcT hv58 underlying134 zeroValue4 ZR.bool) ?_ (gT hg56)
      refine Sg (gT hg56) Z (Pkg (gT hg55) hg56 Z (Pk hg55 Z (WO.nil ?_)))
      obtain rfl := Oi h53
      exact cutN (Lr [0, 1, 2, 3, 4, 5])
     ·refine KF hg56 Z (KF hg56 Z (KF hg56 Z (KF hg56 Z (KF hg56 Z (KF hg56 Z (KF hg56 Z (KF hg56 Z (KF hg56 Z (KF hg56 Z (Pkg (gT hg55) hg56 Z (Pk hg55 Z (WO.nil ?_))))))))))))
      obtain rfl := Oi h53
      exact cutN (Lr [0, 1, 2, 3, 4, 5])
  refine Qf (TC.le hle (Cn Z h43 (fun hc59 h43 => ?_) (fun hc59 h43 => ?_)))
  ·refine Rg (U 1 Z (Nx (RtR (Qm (Ql (QV h43 ?_))))))
   obtain rfl := hb40 _ (Oi h43).symm
   refine Qm (QF (Ql ?_))
   obtain rfl := Oi h
   exact R1 6 Z (Lr [0])
  refine QU (TC.region (U 2 Z (Bd h43 fun v60 hv60 h43 => ?_)))
  refine vX (I v60) (Q6 (ev := (fun x => A.int .i64 x)) (z0 := 0) (k := x45) (l := s41.1) Qa7 hv60 underlying223 zeroValue3 ZR.int) ?_
  refine U 1 Z (Bd h43 fun m61 hm61 h43 => ?_)
  refine vU (Q8 (ev := (fun x => A.int .i64 x)) (k := x45) (v := (IntKind.i64.wrap (v60 + 1))) (l := s41.1) Qa7 hm61 Z underlying223) ?_
  exact FE Z (WO.nil (QD (Qf (TC.region (U 2 Z (WO.nil (Qu h43 (Lr [0, 1, 2, 3, 4, 5]))))))))
 subst hbe
 refine Qf (TC.le hle (TC.seq (Rg (U 3 Z (Nx (TC.seq (Bd h fun b68 h69 h => ?_)))))))
 refine TC.cut ([(4, .ptr 1 0), (9, .ptr 2 0), (100, .bool b68)]) ([.map (menc (fun x => A.agg (typing_ends.c x)) A.bool a3), .cells 94 (Distance.c a2), .cells 223 [.map 3], .map (menc (fun x => A.int .i64 x) (fun x => A.int .i64 x) sb38)]) ?_ (fun env H hle => ?_)
 ·refine TC.region (U 3 Z (If h69 (fun hg70 h69 => ?_) (fun hg70 h69 => ?_)))
  ·refine QO (gT hg70) isAgg223 Z (Sg (gT hg70) Z (Bd h69 fun v71 hv71 h69 => ?_))
   refine vX (I v71) (Q6 (ev := (fun x => A.int .i64 x)) (z0 := 0) (k := a2.Extra) (l := sb38) Qa7 hv71 underlying223 zeroValue3 ZR.int) ?_ (gT hg70)
   refine Sg (gT hg70) Z (Sg (gT hg70) Z (If h69 (fun hg72 h69 => ?_) (fun hg72 h69 => ?_)))
   ·refine KF hg72 Z (KF hg72 Z (KF hg72 Z (KF hg72 Z (KF hg72 Z (KF hg72 Z (KF hg72 Z (Pkg (gT hg70) hg72 Z (Sg (gT hg70) Z (U 6 Z (Sg (gT hg70) Z (Pk hg70 Z (WO.nil ?_))))))))))))
    obtain rfl := Oi h69
    exact cutN (Lr [0, 2, 3, 4])
   ·refine QG (gT hg72) QeB Z (QO (gT hg72) isAgg22 Z (Sg (gT hg72) Z (Bd h69 fun x73 hx73 h69 => ?_)))
    refine vX (.rp [.str x73.Name, I x73.Kind]) (Qb9 (e := Mat.c) (l := a1.Mats) (v := x73) hx73 runUnderlying22 sizeOf96) ?_ (gT hg72)
    refine Frg (gT hg72) QgM Z (QO (gT hg72) isAgg3 Z (Sg (gT hg72) Z (Pkg (gT hg70) hg72 Z (Sg (gT hg70) Z (If h69 (fun hg74 h69 => ?_) (fun hg74 h69 => ?_))))))
    ·refine KF hg74 Z (KF hg74 Z (KF hg74 Z (KF hg74 Z (KF hg74 Z (KF hg74 Z (Pkg (gT hg70) hg74 Z (Pk hg70 Z (WO.nil ?_))))))))
     obtain rfl := Oi h69
     exact cutN (Lr [0, 2, 3, 4])
    ·refine Sg (gT hg74) Z (Sg (gT hg74) Z (Sg (gT hg74) Z ?_))
     refine vX (.agg [I a2.Extra, I a2.Extra]) (OpV.build (zs := [I 0, I 0]) zeroValue136 (zrC Z) QfZ) ?_ (gT hg74)
     refine Bd h69 fun v75 hv75 h69 => ?_
     refine vX (.bool v75) (Q6 (ev := A.bool) (z0 := false) (k := ({ from_ := a2.Extra, to_ := a2.Extra : typing_ends })) (l := a3) QcT hv75 underlying134 zeroValue4 ZR.bool) ?_ (gT hg74)
     refine Sg (gT hg74) Z (Pkg (gT hg70) hg74 Z (Pk hg70 Z (WO.nil ?_)))
     obtain rfl := Oi h69
     exact cutN (Lr [0, 2, 3, 4])
  ·refine KF hg70 Z (KF hg70 Z (KF hg70 Z (KF hg70 Z (KF hg70 Z (U 7 Z (KF hg70 Z (KF hg70 Z (U 6 Z (KF hg70 Z (Pk hg70 Z (WO.nil ?_)))))))))))
   obtain rfl := Oi h69
   exact cutN (Lr [0, 2, 3, 4])
 refine Qf (TC.le hle (Cn Z h (fun hc76 h => ?_) (fun hc76 h => ?_)))
 ·refine Rg (U 1 Z (Nx (RtR ?_)))
  obtain rfl := Oi h
  exact R1 6 Z (Lr [0])
 refine QU (Rg (U 3 Z (Bd h fun r77 hr77 h => Pc [2, 3] Z (OpC.fn call104 Z Z Z) (k_dd _ _ _ _ hr77) Z (U 1 Z (Nx (TC.ret ?_))))))
 obtain rfl := Oi h
 exact R1 6 Z (Lr [0])
def F_bk (n : Nat) (a1 : Distance) (a2 : Course) (a3 : List (typing_ends × Bool)) : Option Bool :=
  (F_bg n a2 a1 a3).bind fun r1 => some r1
theorem k_bk (n : Nat) (a1 : Distance) (a2 : Course) (a3 : List (typing_ends × Bool)) (r : Bool) (h : F_bk n a1 a2 a3 = some r) :
    C prog 58 [.agg (Distance.c a1), .ptr 0 0, .ptr 1 0] [.cells 33 (Course.c a2), .cells 134 [.map 2], .map (menc (fun x => A.agg (typing_ends.c x)) A.bool a3)] (fun a H => a = .bool r ∧ H = [.cells 33 (Course.c a2), .cells 134 [.map 2], .map (menc (fun x => A.agg (typing_ends.c x)) A.bool a3)]) := by
 refine Qd func58 Z Z Z ?_
 refine Rg (U 2 Z (Nx (Rg (U 3 Z (Bd h fun r1 hr1 h => Pc [2] Z (OpC.fn call59 Z Z Z) (k_bg _ _ _ _ _ hr1) Z (U 1 Z (Nx (TC.ret ?_))))))))
 obtain rfl := Oi h
 exact R1 4 Z (Lr [0, 1, 2])
def F_eh (n : Nat) (a1 : Distance) (a2 : Course) (a3 : List (typing_ends × Bool)) : Option Bool :=
  (F_bk n a1 a2 a3).bind fun r1 => some (!r1)
theorem k_eh (n : Nat) (a1 : Distance) (a2 : Course) (a3 : List (typing_ends × Bool)) (r : Bool) (h : F_eh n a1 a2 a3 = some r) :
    C prog 124 [.agg (Distance.c a1), .ptr 0 0] [.cells 139 [.fn (.func 58) [] [.ptr 1 0, .ptr 2 0]], .cells 33 (Course.c a2), .cells 134 [.map 3], .map (menc (fun x => A.agg (typing_ends.c x)) A.bool a3)] (fun a H => a = .bool r ∧ H = [.cells 139 [.fn (.func 58) [] [.ptr 1 0, .ptr 2 0]], .cells 33 (Course.c a2), .cells 134 [.map 3], .map (menc (fun x => A.agg (typing_ends.c x)) A.bool a3)]) := by
 refine Qd func124 Z Z Z ?_
 refine Rg (U 2 Z (Nx (Rg (U 2 Z (Bd h fun r1 hr1 h => Pc [1, 2, 3] Z (Qj call58 Z Z Z Z) (k_bk _ _ _ _ _ hr1) Z (U 2 Z (Nx (TC.ret ?_))))))))
 obtain rfl := Oi h
 exact R1 3 Z (Lr [0, 1, 2, 3])
def F_gh (n : Nat) (a1 : List Distance) (a2 : Course) (a3 : List (typing_ends × Bool)) (s13 : Int) : Option (Ctl Int (Ctl Unit Int)) :=
  (bif decide (s13 < (a1.length : Int)) then (idx a1 s13).bind fun x17 => (F_eh n x17 a2 a3).bind fun r18 => (bif r18 then some (.done (.done s13)) else some (.cont (IntKind.i64.wrap (s13 + 1)))) else some (.done (.cont ())))
def F_et (n : Nat) (a1 : List Distance) (a2 : Course) (a3 : List (typing_ends × Bool)) : Option Int :=
  (iter (F_gh n a1 a2 a3) n 0 : Option (Ctl Unit Int)).bind fun b10 => match b10 with | .cont sb10 => (some (-1)) | .done sb10 => some sb10
theorem k_et (n : Nat) (a1 : List Distance) (a2 : Course) (a3 : List (typing_ends × Bool)) (r : Int) (h : F_et n a1 a2 a3 = some r) :
    C prog 173 [.rsl 5 (List.map Distance.c a1), .fn (.func 124) [] [.ptr 0 0]] [.cells 139 [.fn (.func 58) [] [.ptr 1 0, .ptr 2 0]], .cells 33 (Course.c a2), .cells 134 [.map 3], .map (menc (fun x => A.agg (typing_ends.c x)) A.bool a3)] (fun a H => a = I r ∧ H = [.cells 139 [.fn (.func 58) [] [.ptr 1 0, .ptr 2 0]], .cells 33 (Course.c a2), .cells 134 [.map 3], .map (menc (fun x => A.agg (typing_ends.c x)) A.bool a3)]) :=
 QJ (el := fun x => .agg (Distance.c x)) (g := fun x => F_eh n x a2 a3) func173 Z Z Z runUnderlying24 sizeOf94 (fun _ _ _ _ h1 h2 => Qi h1 isAgg94 sizeOf94 h2 Pts.rp Z Z) call124 (fun _ _ h => k_eh _ _ _ _ _ h) h
def F_di (n : Nat) (a1 : List Distance) (a2 : Course) (a3 : List (typing_ends × Bool)) : Option Bool :=
  (F_et n a1 a2 a3).bind fun r1 => some (decide (0 ≤ r1))
theorem k_di (n : Nat) (a1 : List Distance) (a2 : Course) (a3 : List (typing_ends × Bool)) (r : Bool) (h : F_di n a1 a2 a3 = some r) :
    C prog 123 [.rsl 5 (List.map Distance.c a1), .fn (.func 124) [] [.ptr 0 0]] [.cells 139 [.fn (.func 58) [] [.ptr 1 0, .ptr 2 0]], .cells 33 (Course.c a2), .cells 134 [.map 3], .map (menc (fun x => A.agg (typing_ends.c x)) A.bool a3)] (fun a H => a = .bool r ∧ H = [.cells 139 [.fn (.func 58) [] [.ptr 1 0, .ptr 2 0]], .cells 33 (Course.c a2), .cells 134 [.map 3], .map (menc (fun x => A.agg (typing_ends.c x)) A.bool a3)]) := by
 refine Qd func123 Z Z Z ?_
 refine Rg (U 1 Z (Nx (Rg (U 2 Z (Bd h fun r1 hr1 h => Pc [0, 1, 2, 3] Z (OpC.fn call173 Z Z Z) (k_et _ _ _ _ _ hr1) Z (U 2 Z (Nx (TC.ret ?_))))))))
 obtain rfl := Oi h
 exact R1 4 Z (Lr [0, 1, 2, 3])
def F_ch (n : Nat) (a1 : List Distance) (a2 : Course) (a3 : List (typing_ends × Bool)) : Option Bool :=
  (F_di n a1 a2 a3).bind fun r1 => some (!r1)
theorem k_ch (n : Nat) (a1 : List Distance) (a2 : Course) (a3 : List (typing_ends × Bool)) (r : Bool) (h : F_ch n a1 a2 a3 = some r) :
    C prog 57 [.rsl 5 (List.map Distance.c a1), .fn (.func 58) [] [.ptr 0 0, .ptr 1 0]] [.cells 33 (Course.c a2), .cells 134 [.map 2], .map (menc (fun x => A.agg (typing_ends.c x)) A.bool a3)] (fun a H => a = .bool r ∧ H = [.cells 33 (Course.c a2), .cells 134 [.map 2], .map (menc (fun x => A.agg (typing_ends.c x)) A.bool a3)]) := by
 refine Qd func57 Z Z Z ?_
 refine Rg (U 2 Z (Nx (Rg (U 2 Z (Bd h fun r1 hr1 h => Pc [3, 0, 1, 2] Z (OpC.fn call123 Z Z Z) (k_di _ _ _ _ _ hr1) Z (U 2 Z (Nx (TC.ret ?_))))))))
 obtain rfl := Oi h
 exact R1 4 Z (Lr [0, 1, 2])
def F_fe (n : Nat) (a1 : Course) (s19 : (List (typing_ends × Bool)) × Int) : Option (Ctl ((List (typing_ends × Bool)) × Int) (List (typing_ends × Bool))) :=
  (bif decide (s19.2 < (a1.Legs.length : Int)) then (idx a1.Legs s19.2).bind fun x23 => (some (mset s19.1 ({ from_ := x23.From, to_ := x23.To : typing_ends }) true)).bind fun m24 => some (.cont (m24, IntKind.i64.wrap (s19.2 + 1))) else some (.done s19.1))
def F_v (n : Nat) (a1 : Course) : Option Int :=
  (F_ac n a1).bind fun r1 => (bif (!r1) then some 2 else (F_bh n a1).bind fun r3 => (bif (!r3) then some 70 else (F_bz n a1).bind fun r5 => (bif (!r5) then some 71 else (F_ax n a1.Ties).bind fun r7 => (bif (r7 != 0) then some r7 else (iter (F_fe n a1) n ([], 0) : Option (List (typing_ends × Bool))).bind fun b16 => (F_ch n a1.Distances a1 b16).bind fun r25 => (bif (!r25) then some 72 else some 0)))))
theorem k_v (n : Nat) (a1 : Course) (r : Int) (h : F_v n a1 = some r) :
    C prog 33 [.agg (Course.c a1)] [] (fun a H => a = I r ∧ H = []) := by
 refine Qd func33 Z Z Z ?_
 refine Rg (U 2 Z (Nx (TC.seq (TC.block (Rg (U 1 Z (Bd h fun r1 hr1 h => Pc [] Z (OpC.fn call53 Z Z Z) (k_ac _ _ _ hr1) Z (U 2 Z (Nx (Cn Z h (fun hc2 h => ?_) (fun hc2 h => ?_)))))))))))
 ·refine Rg (U 1 Z (Nx (TC.ret (Qm (Ql ?_)))))
  obtain rfl := Oi h
  exact R1 2 Z (Lr [])
 refine Rg (U 1 Z (Bd h fun r3 hr3 h => Pc [] Z (OpC.fn call54 Z Z Z) (k_bh _ _ _ hr3) Z (U 2 Z (Nx (Cn Z h (fun hc4 h => ?_) (fun hc4 h => ?_))))))
 ·refine Rg (U 1 Z (Nx (TC.ret (Qm (Ql ?_)))))
  obtain rfl := Oi h
  exact R1 2 Z (Lr [])
 refine Rg (U 1 Z (Bd h fun r5 hr5 h => Pc [] Z (OpC.fn call55 Z Z Z) (k_bz _ _ _ hr5) Z (U 2 Z (Nx (Cn Z h (fun hc6 h => ?_) (fun hc6 h => ?_))))))
 ·refine Rg (U 1 Z (Nx (TC.ret (Qm (Ql ?_)))))
  obtain rfl := Oi h
  exact R1 2 Z (Lr [])
 refine TC.skip (QD (Qf (TC.seq (Rg (U 2 Z (Bd h fun r7 hr7 h => Pc [] Z (OpC.fn call56 Z Z Z) (k_ax _ _ _ hr7) Z (U 1 Z (Nx (Rg (U 2 Z (Nx (Cn Z h (fun hc8 h => ?_) (fun hc8 h => ?_)))))))))))))
 ·refine Rg (U 2 Z (Nx (RtR ?_)))
  obtain rfl := Oi h
  exact R1 2 Z (Lr [])
 refine QU (Rg ?_)
 refine vH QT ?_
 refine FE Z (U 2 Z (Nx (TC.seq (Rg (U 2 Z (LnM runUnderlying23 Z (U 1 Z (Nx (Bd h fun b16 h17 h => ?_)))))))))
 refine TC.cut ([(1, .ptr 0 0), (3, .ptr 1 0)]) ([.cells 33 (Course.c a1), .cells 134 [.map 2], .map (menc (fun x => A.agg (typing_ends.c x)) A.bool b16)]) ?_ (fun env H hle => ?_)
 ·refine TC.block ?_
  refine TC.loop (E := fun s19 => [(1, .ptr 0 0), (3, .ptr 1 0), (26, .rsl 4 (List.map Leg.c a1.Legs)), (27, I (a1.Legs.length : Int)), (28, I s19.2)]) (Hp := fun s19 => [.cells 33 (Course.c a1), .cells 134 [.map 2], .map (menc (fun x => A.agg (typing_ends.c x)) A.bool s19.1)]) h17 ?_ ?_
  ·exact Lr [0, 2, 1]
  intro s19 d20 h21 hb18
  refine Rg (U 1 Z (Nx (TC.seq (CnS Z h21 (fun hc22 h21 => ?_) (fun hc22 h21 => ?_)))))
  ·refine ExX (Qz h21 ?_)
   obtain rfl := hb18 _ (Oi h21).symm
   exact QQ (cutN (Lr [0, 1, 2]))
  refine QU (TC.seq (TC.block (Rg (Bd h21 fun x23 hx23 h21 => Ix hx23 runUnderlying23 sizeOf123 Z (U 3 Z (Nx (TC.region (U 6 Z (Bd h21 fun m24 hm24 h21 => ?_)))))))))
  refine vU (Q8 (ev := A.bool) (k := ({ from_ := x23.From, to_ := x23.To : typing_ends })) (v := true) (l := s19.1) QcT hm24 Z underlying134) ?_
  exact FE Z (WO.nil (QD (Qf (TC.region (U 2 Z (WO.nil (Qu h21 (Lr [0, 1, 2]))))))))
 refine Qf (TC.le hle (TC.seq (Rg (U 3 Z (Bd h fun r25 hr25 h => Pc [0, 1, 2] Z (OpC.fn call57 Z Z Z) (k_ch _ _ _ _ _ hr25) Z (U 1 Z (Nx (Cn Z h (fun hc26 h => ?_) (fun hc26 h => ?_)))))))))
 ·refine Rg (U 1 Z (Nx (RtR ?_)))
  obtain rfl := Oi h
  exact R1 2 Z (Lr [])
 refine QU (Rg (U 1 Z (Nx (TC.ret ?_))))
 obtain rfl := Oi h
 exact R1 2 Z (Lr [])
def Q_facts_open_rxk (a1 : Fact) (a2 : Int) : U_facts_open_rxk → Go.Sw.A → Heap → Prop
  | .c0 x, a, H => a = .tup [.agg [.osl 2 0 8 3, .fn (.func 144) [] []], .bool true] ∧ H = [.cells 81 (Fact.c a1), .cells 3 [I a2], .rowr 181 3 [[.ptr 0 4, I 1, I 9999], [.ptr 0 5, I 0, I 7], [.ptr 0 6, I 0, I 31], [.ptr 0 7, I (-1099511627776), I 1099511627776], [.ptr 0 8, I 0, I 120], [.ptr 0 9, I 0, I 1048576], [.ptr 0 10, I 0, I 9999], [.ptr 0 11, I 0, I 1048576]], .cells 171 [.osl 2 0 8 3, .fn (.func 144) [] []]]
  | .c1 x, a, H => a = .tup [.agg [.osl 2 0 4 3, .fn (.func 144) [] []], .bool true] ∧ H = [.cells 81 (Fact.c a1), .cells 3 [I a2], .rowr 181 3 [[.ptr 0 12, I 0, I 39], [.ptr 0 13, I 0, I 255], [.ptr 0 14, I 0, I 1048576], [.ptr 0 15, I (-1099511627776), I 1099511627776]], .cells 171 [.osl 2 0 4 3, .fn (.func 144) [] []]]
  | .c2 x, a, H => a = .tup [.agg [.osl 2 0 5 3, .fn (.func 144) [] []], .bool true] ∧ H = [.cells 81 (Fact.c a1), .cells 3 [I a2], .rowr 181 3 [[.ptr 0 16, I 0, I 39], [.ptr 0 17, I 0, I 255], [.ptr 0 18, I (-1099511627776), I 1099511627776], [.ptr 0 19, I (-1099511627776), I 1099511627776], [.ptr 0 20, I 0, I 1099511627776]], .cells 171 [.osl 2 0 5 3, .fn (.func 144) [] []]]
  | .c3 x, a, H => a = .tup [.agg [.osl 2 0 8 3, .fn (.func 145) [] [.ptr 3 0]], .bool true] ∧ H = [.cells 81 (Fact.c a1), .cells 3 [I a2], .rowr 181 3 [[.ptr 0 21, I 0, I 39], [.ptr 0 22, I 0, I 255], [.ptr 0 23, I (-1099511627776), I 1099511627776], [.ptr 0 24, I 0, I 39], [.ptr 0 25, I 0, I 255], [.ptr 0 26, I (-1099511627776), I 1099511627776], [.ptr 0 27, I (-1099511627776), I 1099511627776], [.ptr 0 28, I (-1099511627776), I 1099511627776]], .cells 238 [.ptr 0 21], .cells 171 [.osl 2 0 8 3, .fn (.func 145) [] [.ptr 3 0]]]
  | .c4 x, a, H => a = .tup [.agg [.osl 2 0 4 3, .fn (.func 146) [] [.ptr 3 0]], .bool true] ∧ H = [.cells 81 (Fact.c a1), .cells 3 [I a2], .rowr 181 3 [[.ptr 0 29, I 1, I 9999], [.ptr 0 30, I 0, I 255], [.ptr 0 31, I (-1099511627776), I 1099511627776], [.ptr 0 32, I (-1099511627776), I 1099511627776]], .cells 239 [.ptr 0 29], .cells 171 [.osl 2 0 4 3, .fn (.func 146) [] [.ptr 3 0]]]
  | .c5 x, a, H => a = .tup [.agg [.osl 2 0 4 3, .fn (.func 147) [] [.ptr 3 0]], .bool true] ∧ H = [.cells 81 (Fact.c a1), .cells 3 [I a2], .rowr 181 3 [[.ptr 0 33, I 0, I 39], [.ptr 0 34, I 0, I 255], [.ptr 0 35, I (-1099511627776), I 1099511627776], [.ptr 0 36, I (-1099511627776), I 1099511627776]], .cells 240 [.ptr 0 33], .cells 171 [.osl 2 0 4 3, .fn (.func 147) [] [.ptr 3 0]]]
  | .c6 x, a, H => a = .tup [.agg [.osl 2 0 2 3, .fn (.func 148) [] [.ptr 3 0]], .bool true] ∧ H = [.cells 81 (Fact.c a1), .cells 3 [I a2], .rowr 181 3 [[.ptr 0 37, I 1, I 9999], [.ptr 0 38, I 1, I 9999]], .cells 241 [.ptr 0 37], .cells 171 [.osl 2 0 2 3, .fn (.func 148) [] [.ptr 3 0]]]
  | .c7 x, a, H => a = .tup [.agg [.osl 2 0 4 3, .fn (.func 144) [] []], .bool true] ∧ H = [.cells 81 (Fact.c a1), .cells 3 [I a2], .rowr 181 3 [[.ptr 0 39, I 1, I 1048576], [.ptr 0 40, I 1, I 9999], [.ptr 0 41, I 0, I 31], [.ptr 0 42, I 0, I 255]], .cells 171 [.osl 2 0 4 3, .fn (.func 144) [] []]]
  | .c8 x, a, H => a = .tup [.agg [.osl 2 0 4 3, .fn (.func 144) [] []], .bool true] ∧ H = [.cells 81 (Fact.c a1), .cells 3 [I a2], .rowr 181 3 [[.ptr 0 43, I 1, I 1048576], [.ptr 0 44, I 0, I 9999], [.ptr 0 45, I 0, I 1125899906842624], [.ptr 0 46, I 0, I 1]], .cells 171 [.osl 2 0 4 3, .fn (.func 144) [] []]]
  | .c9 x, a, H => a = .tup [.agg [.osl 2 0 6 3, .fn (.func 144) [] []], .bool true] ∧ H = [.cells 81 (Fact.c a1), .cells 3 [I a2], .rowr 181 3 [[.ptr 0 47, I 1, I 1048576], [.ptr 0 48, I 1, I 2], [.ptr 0 49, I 1, I 5], [.ptr 0 50, I x.1, I x.2.1], [.ptr 0 51, I x.2.2.1, I x.2.2.2.1], [.ptr 0 52, I x.2.2.2.2.1, I x.2.2.2.2.2]], .cells 171 [.osl 2 0 6 3, .fn (.func 144) [] []]]
  | .c10 x, a, H => a = .tup [.agg [.osl 2 0 2 3, .fn (.func 144) [] []], .bool true] ∧ H = [.cells 81 (Fact.c a1), .cells 3 [I a2], .rowr 181 3 [[.ptr 0 53, I 1, I 1048576], [.ptr 1 0, I 0, I 1]], .cells 171 [.osl 2 0 2 3, .fn (.func 144) [] []]]
  | .c11 x, a, H => a = .tup [.agg [.nils, .fn (.func 144) [] []], .bool true] ∧ H = [.cells 81 (Fact.c a1), .cells 3 [I a2], .cells 171 [.nils, .fn (.func 144) [] []]]
  | .c12 x, a, H => a = .tup [.agg [.osl 2 0 2 3, .fn (.func 144) [] []], .bool true] ∧ H = [.cells 81 (Fact.c a1), .cells 3 [I a2], .rowr 181 3 [[.ptr 0 55, I 0, I 31], [.ptr 0 56, I 1, I 1048576]], .cells 171 [.osl 2 0 2 3, .fn (.func 144) [] []]]
  | .c13 x, a, H => a = .tup [.agg [.nils, .nilf], .bool false] ∧ H = [.cells 81 (Fact.c a1), .cells 3 [I a2], .cells 171 [.nils, .nilf]]
def F_ag (n : Nat) (a1 : Fact) (a2 : Int) : Option U_facts_open_rxk :=
  (bif (a1.Kind == 1) then some (U_facts_open_rxk.c0 ()) else (bif (a1.Kind == 2) then some (U_facts_open_rxk.c1 ()) else (bif (a1.Kind == 3) then some (U_facts_open_rxk.c2 ()) else (bif (a1.Kind == 4) then some (U_facts_open_rxk.c3 ()) else (bif (a1.Kind == 5) then some (U_facts_open_rxk.c4 ()) else (bif (a1.Kind == 6) then some (U_facts_open_rxk.c5 ()) else (bif (a1.Kind == 7) then some (U_facts_open_rxk.c6 ()) else (bif (a1.Kind == 8) then some (U_facts_open_rxk.c7 ()) else (bif (a1.Kind == 9) then some (U_facts_open_rxk.c8 ()) else (bif (a1.Kind == 10) then ((bif (a1.Ruling.Kind == 1) then some (a1.Ruling.Kind == 1) else some (a1.Ruling.Kind == 2)) : Option Bool).bind fun b12 => ((bif b12 then some ({ least := 0, most := 0 : facts_scope }, { least := 0, most := 0 : facts_scope }, { least := 0, most := 0 : facts_scope }) else (bif (a1.Ruling.Kind == 3) then some ({ least := 1, most := 9999 : facts_scope }, { least := 0, most := 255 : facts_scope }, { least := 1, most := 1099511627776 : facts_scope }) else (bif (a1.Ruling.Kind == 4) then some ({ least := 1, most := 9999 : facts_scope }, { least := 0, most := 255 : facts_scope }, { least := 1, most := 64 : facts_scope }) else some ({ least := 1, most := 9999 : facts_scope }, { least := 0, most := 255 : facts_scope }, { least := 0, most := 0 : facts_scope })))) : Option (facts_scope × facts_scope × facts_scope)).bind fun b18 => some (U_facts_open_rxk.c9 (b18.1.least, b18.1.most, b18.2.1.least, b18.2.1.most, b18.2.2.least, b18.2.2.most)) else (bif (a1.Kind == 11) then some (U_facts_open_rxk.c10 ()) else (bif (a1.Kind == 12) then some (U_facts_open_rxk.c11 ()) else (bif (a1.Kind == 13) then some (U_facts_open_rxk.c12 ()) else some (U_facts_open_rxk.c13 ()))))))))))))))
theorem k_ag (n : Nat) (a1 : Fact) (a2 : Int) (r : U_facts_open_rxk) (h : F_ag n a1 a2 = some r) :
    C prog 82 [.ptr 0 0, .ptr 1 0] [.cells 81 (Fact.c a1), .cells 3 [I a2]] (Q_facts_open_rxk a1 a2 r) := by
 refine Qd func82 Z Z Z ?_
 refine Rg (U 2 Z (Nx (TC.seq (Rg (U 4 Z (Nx (TC.block (Rg (U 2 Z (Nx (Cn Z h (fun hc1 h => ?_) (fun hc1 h => ?_))))))))))))
 ·refine Rg (U 4 Z (Nx (TC.seq ?_)))
  refine UD 40 Z (by kernel_rfl) ?_
  refine vH (Q9 (xs := [.tmp 32, .tmp 37, .tmp 42, .tmp 47, .tmp 52, .tmp 57, .tmp 62, .tmp 67]) Yx Z Z Z Z Z ⟨Z, Z, Z, Z, Z, Z, Z, Z, trivial⟩ Z) ?_
  refine FE Z (U 3 Z (Nx (TC.ret (Qm (Ql ?_)))))
  obtain rfl := Oi h
  refine ⟨[(4, .ptr 3 0), (5, .bool true)], [.cells 81 (Fact.c a1), .cells 3 [I a2], .rowr 181 3 [[.ptr 0 4, I 1, I 9999], [.ptr 0 5, I 0, I 7], [.ptr 0 6, I 0, I 31], [.ptr 0 7, I (-1099511627776), I 1099511627776], [.ptr 0 8, I 0, I 120], [.ptr 0 9, I 0, I 1048576], [.ptr 0 10, I 0, I 9999], [.ptr 0 11, I 0, I 1048576]], .cells 171 [.osl 2 0 8 3, .fn (.func 144) [] []]], _, ?_, QB Z Z (ResL.cons (Qn isAgg171 sizeOf171 Z Z Z) (ResL.cons ResAt.tmp ResL.nil)), Z, Z⟩
  exact Lr [0, 1, 3, 2]
 refine Rg (U 2 Z (Nx (Cn Z h (fun hc2 h => ?_) (fun hc2 h => ?_))))
 ·refine Rg (U 4 Z (Nx (TC.seq ?_)))
  refine UD 20 Z (by kernel_rfl) ?_
  refine vH (Q9 (xs := [.tmp 79, .tmp 84, .tmp 89, .tmp 94]) Yx Z Z Z Z Z ⟨Z, Z, Z, Z, trivial⟩ Z) ?_
  refine FE Z (U 3 Z (Nx (TC.ret (Qm (Ql ?_)))))
  obtain rfl := Oi h
  refine ⟨[(4, .ptr 3 0), (5, .bool true)], [.cells 81 (Fact.c a1), .cells 3 [I a2], .rowr 181 3 [[.ptr 0 12, I 0, I 39], [.ptr 0 13, I 0, I 255], [.ptr 0 14, I 0, I 1048576], [.ptr 0 15, I (-1099511627776), I 1099511627776]], .cells 171 [.osl 2 0 4 3, .fn (.func 144) [] []]], _, ?_, QB Z Z (ResL.cons (Qn isAgg171 sizeOf171 Z Z Z) (ResL.cons ResAt.tmp ResL.nil)), Z, Z⟩
  exact Lr [0, 1, 3, 2]
 refine Rg (U 2 Z (Nx (Cn Z h (fun hc3 h => ?_) (fun hc3 h => ?_))))
 ·refine Rg (U 4 Z (Nx (TC.seq ?_)))
  refine UD 25 Z (by kernel_rfl) ?_
  refine vH (Q9 (xs := [.tmp 106, .tmp 111, .tmp 116, .tmp 121, .tmp 126]) Yx Z Z Z Z Z ⟨Z, Z, Z, Z, Z, trivial⟩ Z) ?_
  refine FE Z (U 3 Z (Nx (TC.ret (Qm (Ql ?_)))))
  obtain rfl := Oi h
  refine ⟨[(4, .ptr 3 0), (5, .bool true)], [.cells 81 (Fact.c a1), .cells 3 [I a2], .rowr 181 3 [[.ptr 0 16, I 0, I 39], [.ptr 0 17, I 0, I 255], [.ptr 0 18, I (-1099511627776), I 1099511627776], [.ptr 0 19, I (-1099511627776), I 1099511627776], [.ptr 0 20, I 0, I 1099511627776]], .cells 171 [.osl 2 0 5 3, .fn (.func 144) [] []]], _, ?_, QB Z Z (ResL.cons (Qn isAgg171 sizeOf171 Z Z Z) (ResL.cons ResAt.tmp ResL.nil)), Z, Z⟩
  exact Lr [0, 1, 3, 2]
 refine Rg (U 2 Z (Nx (Cn Z h (fun hc4 h => ?_) (fun hc4 h => ?_))))
 ·refine Rg (U 5 Z (Nx (TC.seq ?_)))
  refine QW 42 0 [134, 135, 136, 137, 138, 139, 140, 141, 142, 143, 144, 145, 146, 147, 148, 149, 150, 151, 152, 153, 154, 155, 156, 157, 158, 159, 160, 161, 162, 163, 164, 165, 166, 167, 168, 169, 170, 171, 172, 173, 174, 175] [false, false, false, false, false, false, false, false, false, false, false, false, false, false, false, false, false, false, false, false, false, false, false, false, false, false, false, false, false, false, false, false, false, false, false, false, false, false, false, false, true, false] [[], [], [], [], [], [], [], [], [], [], [], [], [], [], [], [], [], [], [], [], [], [], [], [], [], [], [], [], [], [], [], [], [], [], [], [], [], [], [], [], [], []] [[], [40]] [[(0, 0), (1, 1)], [(0, 0), (1, 1)], [(0, 0), (1, 1)], [(0, 0), (1, 1)], [(0, 0), (1, 1)], [(0, 0), (1, 1)], [(0, 0), (1, 1)], [(0, 0), (1, 1)], [(0, 0), (1, 1)], [(0, 0), (1, 1)], [(0, 0), (1, 1)], [(0, 0), (1, 1)], [(0, 0), (1, 1)], [(0, 0), (1, 1)], [(0, 0), (1, 1)], [(0, 0), (1, 1)], [(0, 0), (1, 1)], [(0, 0), (1, 1)], [(0, 0), (1, 1)], [(0, 0), (1, 1)], [(0, 0), (1, 1)], [(0, 0), (1, 1)], [(0, 0), (1, 1)], [(0, 0), (1, 1)], [(0, 0), (1, 1)], [(0, 0), (1, 1)], [(0, 0), (1, 1)], [(0, 0), (1, 1)], [(0, 0), (1, 1)], [(0, 0), (1, 1)], [(0, 0), (1, 1)], [(0, 0), (1, 1)], [(0, 0), (1, 1)], [(0, 0), (1, 1)], [(0, 0), (1, 1)], [(0, 0), (1, 1)], [(0, 0), (1, 1)], [(0, 0), (1, 1)], [(0, 0), (1, 1)], [(0, 0), (1, 1)], [(0, 1)], [(0, 0), (1, 1)]] [.ptr 0 21, .ptr 0 21, .ptr 0 21, .agg [I 0, I 39], .agg [.ptr 0 21, I 0, I 39], .ptr 0 21, .ptr 0 21, .ptr 0 22, .agg [I 0, I 255], .agg [.ptr 0 22, I 0, I 255], .ptr 0 21, .ptr 0 21, .ptr 0 23, .agg [I (-1099511627776), I 1099511627776], .agg [.ptr 0 23, I (-1099511627776), I 1099511627776], .ptr 0 21, .ptr 0 21, .ptr 0 24, .agg [I 0, I 39], .agg [.ptr 0 24, I 0, I 39], .ptr 0 21, .ptr 0 21, .ptr 0 25, .agg [I 0, I 255], .agg [.ptr 0 25, I 0, I 255], .ptr 0 21, .ptr 0 21, .ptr 0 26, .agg [I (-1099511627776), I 1099511627776], .agg [.ptr 0 26, I (-1099511627776), I 1099511627776], .ptr 0 21, .ptr 0 21, .ptr 0 27, .agg [I (-1099511627776), I 1099511627776], .agg [.ptr 0 27, I (-1099511627776), I 1099511627776], .ptr 0 21, .ptr 0 21, .ptr 0 28, .agg [I (-1099511627776), I 1099511627776], .agg [.ptr 0 28, I (-1099511627776), I 1099511627776], .osl 4 0 8 3, .fn (.func 145) [] [.ptr 3 0]] [[.cells 81 (Fact.c a1), .cells 3 [I a2], .cells 171 [.nils, .nilf], .cells 238 [.ptr 0 21]], [.cells 81 (Fact.c a1), .cells 3 [I a2], .cells 171 [.nils, .nilf], .cells 238 [.ptr 0 21], .rowr 181 3 [[.ptr 0 21, I 0, I 39], [.ptr 0 22, I 0, I 255], [.ptr 0 23, I (-1099511627776), I 1099511627776], [.ptr 0 24, I 0, I 39], [.ptr 0 25, I 0, I 255], [.ptr 0 26, I (-1099511627776), I 1099511627776], [.ptr 0 27, I (-1099511627776), I 1099511627776], [.ptr 0 28, I (-1099511627776), I 1099511627776]]]] ([.cells 81 (Fact.c a1), .cells 3 [I a2], .cells 171 [.nils, .nilf], .cells 238 [.ptr 0 21], .rowr 181 3 [[.ptr 0 21, I 0, I 39], [.ptr 0 22, I 0, I 255], [.ptr 0 23, I (-1099511627776), I 1099511627776], [.ptr 0 24, I 0, I 39], [.ptr 0 25, I 0, I 255], [.ptr 0 26, I (-1099511627776), I 1099511627776], [.ptr 0 27, I (-1099511627776), I 1099511627776], [.ptr 0 28, I (-1099511627776), I 1099511627776]]]) draws Z Z Z Z Z Z Z ?_ Z ?_
  ·refine OblM.cons (Qa (v0 Z Z) (Qa (v0 Z Z) (Qc))) (OblM.cons ?_ (OblM.cons (Qa (v0 Z Z) (Qa (v0 Z Z) (Qc))) (OblM.cons (Qa (v0 Z Z) (Qa (v0 Z Z) (Qc))) (OblM.cons (Qa (v0 Z Z) (Qa (v0 Z Z) (Qc))) (OblM.cons (Qa (v0 Z Z) (Qa (v0 Z Z) (Qc))) (OblM.cons ?_ (OblM.cons (Qa (v0 Z Z) (Qa (v0 Z Z) (Qc))) (OblM.cons (Qa (v0 Z Z) (Qa (v0 Z Z) (Qc))) (OblM.cons (Qa (v0 Z Z) (Qa (v0 Z Z) (Qc))) (OblM.cons (Qa (v0 Z Z) (Qa (v0 Z Z) (Qc))) (OblM.cons ?_ (OblM.cons (Qa (v0 Z Z) (Qa (v0 Z Z) (Qc))) (OblM.cons (Qa (v0 Z Z) (Qa (v0 Z Z) (Qc))) (OblM.cons (Qa (v0 Z Z) (Qa (v0 Z Z) (Qc))) (OblM.cons (Qa (v0 Z Z) (Qa (v0 Z Z) (Qc))) (OblM.cons ?_ (OblM.cons (Qa (v0 Z Z) (Qa (v0 Z Z) (Qc))) (OblM.cons (Qa (v0 Z Z) (Qa (v0 Z Z) (Qc))) (OblM.cons (Qa (v0 Z Z) (Qa (v0 Z Z) (Qc))) (OblM.cons (Qa (v0 Z Z) (Qa (v0 Z Z) (Qc))) (OblM.cons ?_ (OblM.cons (Qa (v0 Z Z) (Qa (v0 Z Z) (Qc))) (OblM.cons (Qa (v0 Z Z) (Qa (v0 Z Z) (Qc))) (OblM.cons (Qa (v0 Z Z) (Qa (v0 Z Z) (Qc))) (OblM.cons (Qa (v0 Z Z) (Qa (v0 Z Z) (Qc))) (OblM.cons ?_ (OblM.cons (Qa (v0 Z Z) (Qa (v0 Z Z) (Qc))) (OblM.cons (Qa (v0 Z Z) (Qa (v0 Z Z) (Qc))) (OblM.cons (Qa (v0 Z Z) (Qa (v0 Z Z) (Qc))) (OblM.cons (Qa (v0 Z Z) (Qa (v0 Z Z) (Qc))) (OblM.cons ?_ (OblM.cons (Qa (v0 Z Z) (Qa (v0 Z Z) (Qc))) (OblM.cons (Qa (v0 Z Z) (Qa (v0 Z Z) (Qc))) (OblM.cons (Qa (v0 Z Z) (Qa (v0 Z Z) (Qc))) (OblM.cons (Qa (v0 Z Z) (Qa (v0 Z Z) (Qc))) (OblM.cons ?_ (OblM.cons (Qa (v0 Z Z) (Qa (v0 Z Z) (Qc))) (OblM.cons (Qa (v0 Z Z) (Qa (v0 Z Z) (Qc))) (OblM.cons (Qa (v0 Z Z) (Qa (v0 Z Z) (Qc))) (OblM.cons ?_ (OblM.cons (Qa (v0 Z Z) (Qa (v0 Z Z) (Qc))) (OblM.nil))))))))))))))))))))))))))))))))))))))))))
   ·refine Qa ?_ (Qa ?_ (Qc))
    ·refine Om Z (sD 0 sN) ?_
     exact S Z Wp
    ·refine Om Z (sD 0 sN) ?_
     exact S Z Wp
   ·refine Qa ?_ (Qa ?_ (Qc))
    ·refine Om Z (sD 5 sN) ?_
     exact S Z Wp
    ·refine Om Z (sD 5 sN) ?_
     exact S Z Wp
   ·refine Qa ?_ (Qa ?_ (Qc))
    ·refine Om Z (sD 10 sN) ?_
     exact S Z Wp
    ·refine Om Z (sD 10 sN) ?_
     exact S Z Wp
   ·refine Qa ?_ (Qa ?_ (Qc))
    ·refine Om Z (sD 15 sN) ?_
     exact S Z Wp
    ·refine Om Z (sD 15 sN) ?_
     exact S Z Wp
   ·refine Qa ?_ (Qa ?_ (Qc))
    ·refine Om Z (sD 20 sN) ?_
     exact S Z Wp
    ·refine Om Z (sD 20 sN) ?_
     exact S Z Wp
   ·refine Qa ?_ (Qa ?_ (Qc))
    ·refine Om Z (sD 25 sN) ?_
     exact S Z Wp
    ·refine Om Z (sD 25 sN) ?_
     exact S Z Wp
   ·refine Qa ?_ (Qa ?_ (Qc))
    ·refine Om Z (sD 30 sN) ?_
     exact S Z Wp
    ·refine Om Z (sD 30 sN) ?_
     exact S Z Wp
   ·refine Qa ?_ (Qa ?_ (Qc))
    ·refine Om Z (sD 35 sN) ?_
     exact S Z Wp
    ·refine Om Z (sD 35 sN) ?_
     exact S Z Wp
   ·refine Qa ?_ (Qc)
    ·refine Om1 Z (sD 4 (sD 9 (sD 14 (sD 19 (sD 24 (sD 29 (sD 34 (sD 39 sN)))))))) ?_
     refine vH (Q9 (xs := [.tmp 138, .tmp 143, .tmp 148, .tmp 153, .tmp 158, .tmp 163, .tmp 168, .tmp 173]) Yx Z Z Z Z Z ⟨Z, Z, Z, Z, Z, Z, Z, Z, trivial⟩ Z) ?_
     exact FE Z Wp
  refine U 3 Z (Nx (TC.ret (Qm (Ql ?_))))
  obtain rfl := Oi h
  refine ⟨[(4, .ptr 4 0), (5, .bool true)], [.cells 81 (Fact.c a1), .cells 3 [I a2], .rowr 181 3 [[.ptr 0 21, I 0, I 39], [.ptr 0 22, I 0, I 255], [.ptr 0 23, I (-1099511627776), I 1099511627776], [.ptr 0 24, I 0, I 39], [.ptr 0 25, I 0, I 255], [.ptr 0 26, I (-1099511627776), I 1099511627776], [.ptr 0 27, I (-1099511627776), I 1099511627776], [.ptr 0 28, I (-1099511627776), I 1099511627776]], .cells 238 [.ptr 0 21], .cells 171 [.osl 2 0 8 3, .fn (.func 145) [] [.ptr 3 0]]], _, ?_, QB Z Z (ResL.cons (Qn isAgg171 sizeOf171 Z Z Z) (ResL.cons ResAt.tmp ResL.nil)), Z, Z⟩
  exact Lr [0, 1, 4, 3, 2]
 refine Rg (U 2 Z (Nx (Cn Z h (fun hc5 h => ?_) (fun hc5 h => ?_))))
 ·refine Rg (U 5 Z (Nx (TC.seq ?_)))
  refine QW 22 0 [182, 183, 184, 185, 186, 187, 188, 189, 190, 191, 192, 193, 194, 195, 196, 197, 198, 199, 200, 201, 202, 203] [false, false, false, false, false, false, false, false, false, false, false, false, false, false, false, false, false, false, false, false, true, false] [[], [], [], [], [], [], [], [], [], [], [], [], [], [], [], [], [], [], [], [], [], []] [[], [20]] [[(0, 0), (1, 1)], [(0, 0), (1, 1)], [(0, 0), (1, 1)], [(0, 0), (1, 1)], [(0, 0), (1, 1)], [(0, 0), (1, 1)], [(0, 0), (1, 1)], [(0, 0), (1, 1)], [(0, 0), (1, 1)], [(0, 0), (1, 1)], [(0, 0), (1, 1)], [(0, 0), (1, 1)], [(0, 0), (1, 1)], [(0, 0), (1, 1)], [(0, 0), (1, 1)], [(0, 0), (1, 1)], [(0, 0), (1, 1)], [(0, 0), (1, 1)], [(0, 0), (1, 1)], [(0, 0), (1, 1)], [(0, 1)], [(0, 0), (1, 1)]] [.ptr 0 29, .ptr 0 29, .ptr 0 29, .agg [I 1, I 9999], .agg [.ptr 0 29, I 1, I 9999], .ptr 0 29, .ptr 0 29, .ptr 0 30, .agg [I 0, I 255], .agg [.ptr 0 30, I 0, I 255], .ptr 0 29, .ptr 0 29, .ptr 0 31, .agg [I (-1099511627776), I 1099511627776], .agg [.ptr 0 31, I (-1099511627776), I 1099511627776], .ptr 0 29, .ptr 0 29, .ptr 0 32, .agg [I (-1099511627776), I 1099511627776], .agg [.ptr 0 32, I (-1099511627776), I 1099511627776], .osl 4 0 4 3, .fn (.func 146) [] [.ptr 3 0]] [[.cells 81 (Fact.c a1), .cells 3 [I a2], .cells 171 [.nils, .nilf], .cells 239 [.ptr 0 29]], [.cells 81 (Fact.c a1), .cells 3 [I a2], .cells 171 [.nils, .nilf], .cells 239 [.ptr 0 29], .rowr 181 3 [[.ptr 0 29, I 1, I 9999], [.ptr 0 30, I 0, I 255], [.ptr 0 31, I (-1099511627776), I 1099511627776], [.ptr 0 32, I (-1099511627776), I 1099511627776]]]] ([.cells 81 (Fact.c a1), .cells 3 [I a2], .cells 171 [.nils, .nilf], .cells 239 [.ptr 0 29], .rowr 181 3 [[.ptr 0 29, I 1, I 9999], [.ptr 0 30, I 0, I 255], [.ptr 0 31, I (-1099511627776), I 1099511627776], [.ptr 0 32, I (-1099511627776), I 1099511627776]]]) draws Z Z Z Z Z Z Z ?_ Z ?_
  ·refine OblM.cons (Qa (v0 Z Z) (Qa (v0 Z Z) (Qc))) (OblM.cons ?_ (OblM.cons (Qa (v0 Z Z) (Qa (v0 Z Z) (Qc))) (OblM.cons (Qa (v0 Z Z) (Qa (v0 Z Z) (Qc))) (OblM.cons (Qa (v0 Z Z) (Qa (v0 Z Z) (Qc))) (OblM.cons (Qa (v0 Z Z) (Qa (v0 Z Z) (Qc))) (OblM.cons ?_ (OblM.cons (Qa (v0 Z Z) (Qa (v0 Z Z) (Qc))) (OblM.cons (Qa (v0 Z Z) (Qa (v0 Z Z) (Qc))) (OblM.cons (Qa (v0 Z Z) (Qa (v0 Z Z) (Qc))) (OblM.cons (Qa (v0 Z Z) (Qa (v0 Z Z) (Qc))) (OblM.cons ?_ (OblM.cons (Qa (v0 Z Z) (Qa (v0 Z Z) (Qc))) (OblM.cons (Qa (v0 Z Z) (Qa (v0 Z Z) (Qc))) (OblM.cons (Qa (v0 Z Z) (Qa (v0 Z Z) (Qc))) (OblM.cons (Qa (v0 Z Z) (Qa (v0 Z Z) (Qc))) (OblM.cons ?_ (OblM.cons (Qa (v0 Z Z) (Qa (v0 Z Z) (Qc))) (OblM.cons (Qa (v0 Z Z) (Qa (v0 Z Z) (Qc))) (OblM.cons (Qa (v0 Z Z) (Qa (v0 Z Z) (Qc))) (OblM.cons ?_ (OblM.cons (Qa (v0 Z Z) (Qa (v0 Z Z) (Qc))) (OblM.nil))))))))))))))))))))))
   ·refine Qa ?_ (Qa ?_ (Qc))
    ·refine Om Z (sD 0 sN) ?_
     exact S Z Wp
    ·refine Om Z (sD 0 sN) ?_
     exact S Z Wp
   ·refine Qa ?_ (Qa ?_ (Qc))
    ·refine Om Z (sD 5 sN) ?_
     exact S Z Wp
    ·refine Om Z (sD 5 sN) ?_
     exact S Z Wp
   ·refine Qa ?_ (Qa ?_ (Qc))
    ·refine Om Z (sD 10 sN) ?_
     exact S Z Wp
    ·refine Om Z (sD 10 sN) ?_
     exact S Z Wp
   ·refine Qa ?_ (Qa ?_ (Qc))
    ·refine Om Z (sD 15 sN) ?_
     exact S Z Wp
    ·refine Om Z (sD 15 sN) ?_
     exact S Z Wp
   ·refine Qa ?_ (Qc)
    ·refine Om1 Z (sD 4 (sD 9 (sD 14 (sD 19 sN)))) ?_
     refine vH (Q9 (xs := [.tmp 186, .tmp 191, .tmp 196, .tmp 201]) Yx Z Z Z Z Z ⟨Z, Z, Z, Z, trivial⟩ Z) ?_
     exact FE Z Wp
  refine U 3 Z (Nx (TC.ret (Qm (Ql ?_))))
  obtain rfl := Oi h
  refine ⟨[(4, .ptr 4 0), (5, .bool true)], [.cells 81 (Fact.c a1), .cells 3 [I a2], .rowr 181 3 [[.ptr 0 29, I 1, I 9999], [.ptr 0 30, I 0, I 255], [.ptr 0 31, I (-1099511627776), I 1099511627776], [.ptr 0 32, I (-1099511627776), I 1099511627776]], .cells 239 [.ptr 0 29], .cells 171 [.osl 2 0 4 3, .fn (.func 146) [] [.ptr 3 0]]], _, ?_, QB Z Z (ResL.cons (Qn isAgg171 sizeOf171 Z Z Z) (ResL.cons ResAt.tmp ResL.nil)), Z, Z⟩
  exact Lr [0, 1, 4, 3, 2]
 refine Rg (U 2 Z (Nx (Cn Z h (fun hc6 h => ?_) (fun hc6 h => ?_))))
 ·refine Rg (U 5 Z (Nx (TC.seq ?_)))
  refine QW 22 0 [210, 211, 212, 213, 214, 215, 216, 217, 218, 219, 220, 221, 222, 223, 224, 225, 226, 227, 228, 229, 230, 231] [false, false, false, false, false, false, false, false, false, false, false, false, false, false, false, false, false, false, false, false, true, false] [[], [], [], [], [], [], [], [], [], [], [], [], [], [], [], [], [], [], [], [], [], []] [[], [20]] [[(0, 0), (1, 1)], [(0, 0), (1, 1)], [(0, 0), (1, 1)], [(0, 0), (1, 1)], [(0, 0), (1, 1)], [(0, 0), (1, 1)], [(0, 0), (1, 1)], [(0, 0), (1, 1)], [(0, 0), (1, 1)], [(0, 0), (1, 1)], [(0, 0), (1, 1)], [(0, 0), (1, 1)], [(0, 0), (1, 1)], [(0, 0), (1, 1)], [(0, 0), (1, 1)], [(0, 0), (1, 1)], [(0, 0), (1, 1)], [(0, 0), (1, 1)], [(0, 0), (1, 1)], [(0, 0), (1, 1)], [(0, 1)], [(0, 0), (1, 1)]] [.ptr 0 33, .ptr 0 33, .ptr 0 33, .agg [I 0, I 39], .agg [.ptr 0 33, I 0, I 39], .ptr 0 33, .ptr 0 33, .ptr 0 34, .agg [I 0, I 255], .agg [.ptr 0 34, I 0, I 255], .ptr 0 33, .ptr 0 33, .ptr 0 35, .agg [I (-1099511627776), I 1099511627776], .agg [.ptr 0 35, I (-1099511627776), I 1099511627776], .ptr 0 33, .ptr 0 33, .ptr 0 36, .agg [I (-1099511627776), I 1099511627776], .agg [.ptr 0 36, I (-1099511627776), I 1099511627776], .osl 4 0 4 3, .fn (.func 147) [] [.ptr 3 0]] [[.cells 81 (Fact.c a1), .cells 3 [I a2], .cells 171 [.nils, .nilf], .cells 240 [.ptr 0 33]], [.cells 81 (Fact.c a1), .cells 3 [I a2], .cells 171 [.nils, .nilf], .cells 240 [.ptr 0 33], .rowr 181 3 [[.ptr 0 33, I 0, I 39], [.ptr 0 34, I 0, I 255], [.ptr 0 35, I (-1099511627776), I 1099511627776], [.ptr 0 36, I (-1099511627776), I 1099511627776]]]] ([.cells 81 (Fact.c a1), .cells 3 [I a2], .cells 171 [.nils, .nilf], .cells 240 [.ptr 0 33], .rowr 181 3 [[.ptr 0 33, I 0, I 39], [.ptr 0 34, I 0, I 255], [.ptr 0 35, I (-1099511627776), I 1099511627776], [.ptr 0 36, I (-1099511627776), I 1099511627776]]]) draws Z Z Z Z Z Z Z ?_ Z ?_
  ·refine OblM.cons (Qa (v0 Z Z) (Qa (v0 Z Z) (Qc))) (OblM.cons ?_ (OblM.cons (Qa (v0 Z Z) (Qa (v0 Z Z) (Qc))) (OblM.cons (Qa (v0 Z Z) (Qa (v0 Z Z) (Qc))) (OblM.cons (Qa (v0 Z Z) (Qa (v0 Z Z) (Qc))) (OblM.cons (Qa (v0 Z Z) (Qa (v0 Z Z) (Qc))) (OblM.cons ?_ (OblM.cons (Qa (v0 Z Z) (Qa (v0 Z Z) (Qc))) (OblM.cons (Qa (v0 Z Z) (Qa (v0 Z Z) (Qc))) (OblM.cons (Qa (v0 Z Z) (Qa (v0 Z Z) (Qc))) (OblM.cons (Qa (v0 Z Z) (Qa (v0 Z Z) (Qc))) (OblM.cons ?_ (OblM.cons (Qa (v0 Z Z) (Qa (v0 Z Z) (Qc))) (OblM.cons (Qa (v0 Z Z) (Qa (v0 Z Z) (Qc))) (OblM.cons (Qa (v0 Z Z) (Qa (v0 Z Z) (Qc))) (OblM.cons (Qa (v0 Z Z) (Qa (v0 Z Z) (Qc))) (OblM.cons ?_ (OblM.cons (Qa (v0 Z Z) (Qa (v0 Z Z) (Qc))) (OblM.cons (Qa (v0 Z Z) (Qa (v0 Z Z) (Qc))) (OblM.cons (Qa (v0 Z Z) (Qa (v0 Z Z) (Qc))) (OblM.cons ?_ (OblM.cons (Qa (v0 Z Z) (Qa (v0 Z Z) (Qc))) (OblM.nil))))))))))))))))))))))
   ·refine Qa ?_ (Qa ?_ (Qc))
    ·refine Om Z (sD 0 sN) ?_
     exact S Z Wp
    ·refine Om Z (sD 0 sN) ?_
     exact S Z Wp
   ·refine Qa ?_ (Qa ?_ (Qc))
    ·refine Om Z (sD 5 sN) ?_
     exact S Z Wp
    ·refine Om Z (sD 5 sN) ?_
     exact S Z Wp
   ·refine Qa ?_ (Qa ?_ (Qc))
    ·refine Om Z (sD 10 sN) ?_
     exact S Z Wp
    ·refine Om Z (sD 10 sN) ?_
     exact S Z Wp
   ·refine Qa ?_ (Qa ?_ (Qc))
    ·refine Om Z (sD 15 sN) ?_
     exact S Z Wp
    ·refine Om Z (sD 15 sN) ?_
     exact S Z Wp
   ·refine Qa ?_ (Qc)
    ·refine Om1 Z (sD 4 (sD 9 (sD 14 (sD 19 sN)))) ?_
     refine vH (Q9 (xs := [.tmp 214, .tmp 219, .tmp 224, .tmp 229]) Yx Z Z Z Z Z ⟨Z, Z, Z, Z, trivial⟩ Z) ?_
     exact FE Z Wp
  refine U 3 Z (Nx (TC.ret (Qm (Ql ?_))))
  obtain rfl := Oi h
  refine ⟨[(4, .ptr 4 0), (5, .bool true)], [.cells 81 (Fact.c a1), .cells 3 [I a2], .rowr 181 3 [[.ptr 0 33, I 0, I 39], [.ptr 0 34, I 0, I 255], [.ptr 0 35, I (-1099511627776), I 1099511627776], [.ptr 0 36, I (-1099511627776), I 1099511627776]], .cells 240 [.ptr 0 33], .cells 171 [.osl 2 0 4 3, .fn (.func 147) [] [.ptr 3 0]]], _, ?_, QB Z Z (ResL.cons (Qn isAgg171 sizeOf171 Z Z Z) (ResL.cons ResAt.tmp ResL.nil)), Z, Z⟩
  exact Lr [0, 1, 4, 3, 2]
 refine Rg (U 2 Z (Nx (Cn Z h (fun hc7 h => ?_) (fun hc7 h => ?_))))
 ·refine Rg (U 5 Z (Nx (TC.seq ?_)))
  refine QW 12 0 [238, 239, 240, 241, 242, 243, 244, 245, 246, 247, 248, 249] [false, false, false, false, false, false, false, false, false, false, true, false] [[], [], [], [], [], [], [], [], [], [], [], []] [[], [10]] [[(0, 0), (1, 1)], [(0, 0), (1, 1)], [(0, 0), (1, 1)], [(0, 0), (1, 1)], [(0, 0), (1, 1)], [(0, 0), (1, 1)], [(0, 0), (1, 1)], [(0, 0), (1, 1)], [(0, 0), (1, 1)], [(0, 0), (1, 1)], [(0, 1)], [(0, 0), (1, 1)]] [.ptr 0 37, .ptr 0 37, .ptr 0 37, .agg [I 1, I 9999], .agg [.ptr 0 37, I 1, I 9999], .ptr 0 37, .ptr 0 37, .ptr 0 38, .agg [I 1, I 9999], .agg [.ptr 0 38, I 1, I 9999], .osl 4 0 2 3, .fn (.func 148) [] [.ptr 3 0]] [[.cells 81 (Fact.c a1), .cells 3 [I a2], .cells 171 [.nils, .nilf], .cells 241 [.ptr 0 37]], [.cells 81 (Fact.c a1), .cells 3 [I a2], .cells 171 [.nils, .nilf], .cells 241 [.ptr 0 37], .rowr 181 3 [[.ptr 0 37, I 1, I 9999], [.ptr 0 38, I 1, I 9999]]]] ([.cells 81 (Fact.c a1), .cells 3 [I a2], .cells 171 [.nils, .nilf], .cells 241 [.ptr 0 37], .rowr 181 3 [[.ptr 0 37, I 1, I 9999], [.ptr 0 38, I 1, I 9999]]]) draws Z Z Z Z Z Z Z ?_ Z ?_
  ·refine OblM.cons (Qa (v0 Z Z) (Qa (v0 Z Z) (Qc))) (OblM.cons ?_ (OblM.cons (Qa (v0 Z Z) (Qa (v0 Z Z) (Qc))) (OblM.cons (Qa (v0 Z Z) (Qa (v0 Z Z) (Qc))) (OblM.cons (Qa (v0 Z Z) (Qa (v0 Z Z) (Qc))) (OblM.cons (Qa (v0 Z Z) (Qa (v0 Z Z) (Qc))) (OblM.cons ?_ (OblM.cons (Qa (v0 Z Z) (Qa (v0 Z Z) (Qc))) (OblM.cons (Qa (v0 Z Z) (Qa (v0 Z Z) (Qc))) (OblM.cons (Qa (v0 Z Z) (Qa (v0 Z Z) (Qc))) (OblM.cons ?_ (OblM.cons (Qa (v0 Z Z) (Qa (v0 Z Z) (Qc))) (OblM.nil))))))))))))
   ·refine Qa ?_ (Qa ?_ (Qc))
    ·refine Om Z (sD 0 sN) ?_
     exact S Z Wp
    ·refine Om Z (sD 0 sN) ?_
     exact S Z Wp
   ·refine Qa ?_ (Qa ?_ (Qc))
    ·refine Om Z (sD 5 sN) ?_
     exact S Z Wp
    ·refine Om Z (sD 5 sN) ?_
     exact S Z Wp
   ·refine Qa ?_ (Qc)
    ·refine Om1 Z (sD 4 (sD 9 sN)) ?_
     refine vH (Q9 (xs := [.tmp 242, .tmp 247]) Yx Z Z Z Z Z ⟨Z, Z, trivial⟩ Z) ?_
     exact FE Z Wp
  refine U 3 Z (Nx (TC.ret (Qm (Ql ?_))))
  obtain rfl := Oi h
  refine ⟨[(4, .ptr 4 0), (5, .bool true)], [.cells 81 (Fact.c a1), .cells 3 [I a2], .rowr 181 3 [[.ptr 0 37, I 1, I 9999], [.ptr 0 38, I 1, I 9999]], .cells 241 [.ptr 0 37], .cells 171 [.osl 2 0 2 3, .fn (.func 148) [] [.ptr 3 0]]], _, ?_, QB Z Z (ResL.cons (Qn isAgg171 sizeOf171 Z Z Z) (ResL.cons ResAt.tmp ResL.nil)), Z, Z⟩
  exact Lr [0, 1, 4, 3, 2]
 refine Rg (U 2 Z (Nx (Cn Z h (fun hc8 h => ?_) (fun hc8 h => ?_))))
 ·refine Rg (U 4 Z (Nx (TC.seq ?_)))
  refine UD 20 Z (by kernel_rfl) ?_
  refine vH (Q9 (xs := [.tmp 260, .tmp 265, .tmp 270, .tmp 275]) Yx Z Z Z Z Z ⟨Z, Z, Z, Z, trivial⟩ Z) ?_
  refine FE Z (U 3 Z (Nx (TC.ret (Qm (Ql ?_)))))
  obtain rfl := Oi h
  refine ⟨[(4, .ptr 3 0), (5, .bool true)], [.cells 81 (Fact.c a1), .cells 3 [I a2], .rowr 181 3 [[.ptr 0 39, I 1, I 1048576], [.ptr 0 40, I 1, I 9999], [.ptr 0 41, I 0, I 31], [.ptr 0 42, I 0, I 255]], .cells 171 [.osl 2 0 4 3, .fn (.func 144) [] []]], _, ?_, QB Z Z (ResL.cons (Qn isAgg171 sizeOf171 Z Z Z) (ResL.cons ResAt.tmp ResL.nil)), Z, Z⟩
  exact Lr [0, 1, 3, 2]
 refine Rg (U 2 Z (Nx (Cn Z h (fun hc9 h => ?_) (fun hc9 h => ?_))))
 ·refine Rg (U 4 Z (Nx (TC.seq ?_)))
  refine UD 20 Z (by kernel_rfl) ?_
  refine vH (Q9 (xs := [.tmp 287, .tmp 292, .tmp 297, .tmp 302]) Yx Z Z Z Z Z ⟨Z, Z, Z, Z, trivial⟩ Z) ?_
  refine FE Z (U 3 Z (Nx (TC.ret (Qm (Ql ?_)))))
  obtain rfl := Oi h
  refine ⟨[(4, .ptr 3 0), (5, .bool true)], [.cells 81 (Fact.c a1), .cells 3 [I a2], .rowr 181 3 [[.ptr 0 43, I 1, I 1048576], [.ptr 0 44, I 0, I 9999], [.ptr 0 45, I 0, I 1125899906842624], [.ptr 0 46, I 0, I 1]], .cells 171 [.osl 2 0 4 3, .fn (.func 144) [] []]], _, ?_, QB Z Z (ResL.cons (Qn isAgg171 sizeOf171 Z Z Z) (ResL.cons ResAt.tmp ResL.nil)), Z, Z⟩
  exact Lr [0, 1, 3, 2]
 refine Rg (U 2 Z (Nx (Cn Z h (fun hc10 h => ?_) (fun hc10 h => ?_))))
 ·refine Rg (U 4 Z (Nx (TC.seq ?_)))
  refine QW 8 3 [310, 311, 312, 16, 17, 18, 1000006, 1000007] [false, false, false, true, true, true, true, true] [[], [], [], [], [], [], [3, 4, 5], [3, 4, 5, 6]] [[], [3], [4], [5], [3, 4], [3, 5], [4, 5], [3, 4, 5], [3, 4, 5, 6], [3, 4, 5, 6, 7]] [[(0, 0), (1, 1), (2, 2), (3, 3), (4, 4), (5, 5), (6, 6), (7, 7), (8, 8), (9, 9)], [(0, 0), (1, 1), (2, 2), (3, 3), (4, 4), (5, 5), (6, 6), (7, 7), (8, 8), (9, 9)], [(0, 0), (1, 1), (2, 2), (3, 3), (4, 4), (5, 5), (6, 6), (7, 7), (8, 8), (9, 9)], [(0, 1), (2, 4), (3, 5), (6, 7)], [(0, 2), (1, 4), (3, 6), (5, 7)], [(0, 3), (1, 5), (2, 6), (4, 7)], [(7, 8)], [(8, 9)]] [.agg [I 1, I 9999], .agg [I 0, I 255], .agg [I 0, I 0], .ptr 3 0, .ptr 4 0, .ptr 5 0, .any, .any] [[.cells 81 (Fact.c a1), .cells 3 [I a2], .cells 171 [.nils, .nilf], .dead, .dead, .dead], [.cells 81 (Fact.c a1), .cells 3 [I a2], .cells 171 [.nils, .nilf], .cells 179 [I 0, I 0], .dead, .dead], [.cells 81 (Fact.c a1), .cells 3 [I a2], .cells 171 [.nils, .nilf], .dead, .cells 179 [I 0, I 0], .dead], [.cells 81 (Fact.c a1), .cells 3 [I a2], .cells 171 [.nils, .nilf], .dead, .dead, .cells 179 [I 0, I 0]], [.cells 81 (Fact.c a1), .cells 3 [I a2], .cells 171 [.nils, .nilf], .cells 179 [I 0, I 0], .cells 179 [I 0, I 0], .dead], [.cells 81 (Fact.c a1), .cells 3 [I a2], .cells 171 [.nils, .nilf], .cells 179 [I 0, I 0], .dead, .cells 179 [I 0, I 0]], [.cells 81 (Fact.c a1), .cells 3 [I a2], .cells 171 [.nils, .nilf], .dead, .cells 179 [I 0, I 0], .cells 179 [I 0, I 0]], [.cells 81 (Fact.c a1), .cells 3 [I a2], .cells 171 [.nils, .nilf], .cells 179 [I 0, I 0], .cells 179 [I 0, I 0], .cells 179 [I 0, I 0]], [.cells 81 (Fact.c a1), .cells 3 [I a2], .cells 171 [.nils, .nilf], .cells 179 [I 1, I 9999], .cells 179 [I 0, I 0], .cells 179 [I 0, I 0]], [.cells 81 (Fact.c a1), .cells 3 [I a2], .cells 171 [.nils, .nilf], .cells 179 [I 1, I 9999], .cells 179 [I 0, I 255], .cells 179 [I 0, I 0]]] ([.cells 81 (Fact.c a1), .cells 3 [I a2], .cells 171 [.nils, .nilf], .cells 179 [I 1, I 9999], .cells 179 [I 0, I 255], .cells 179 [I 0, I 0]]) draws Z Z Z Z Z Z Z ?_ Z ?_
  ·refine OblM.cons (Qa (v0 Z Z) (Qa (v0 Z Z) (Qa (v0 Z Z) (Qa (v0 Z Z) (Qa (v0 Z Z) (Qa (v0 Z Z) (Qa (v0 Z Z) (Qa (v0 Z Z) (Qa (v0 Z Z) (Qa (v0 Z Z) (Qc))))))))))) (OblM.cons (Qa (v0 Z Z) (Qa (v0 Z Z) (Qa (v0 Z Z) (Qa (v0 Z Z) (Qa (v0 Z Z) (Qa (v0 Z Z) (Qa (v0 Z Z) (Qa (v0 Z Z) (Qa (v0 Z Z) (Qa (v0 Z Z) (Qc))))))))))) (OblM.cons (Qa (v0 Z Z) (Qa (v0 Z Z) (Qa (v0 Z Z) (Qa (v0 Z Z) (Qa (v0 Z Z) (Qa (v0 Z Z) (Qa (v0 Z Z) (Qa (v0 Z Z) (Qa (v0 Z Z) (Qa (v0 Z Z) (Qc))))))))))) (OblM.cons ?_ (OblM.cons ?_ (OblM.cons ?_ (OblM.cons ?_ (OblM.cons ?_ (OblM.nil))))))))
   ·refine Qa ?_ (Qa ?_ (Qa ?_ (Qa ?_ (Qc))))
    ·exact OblS.alloc _ 16 179 3 _ Z Z Z Z Z Z Z (OpZ.alloc (v := (.agg [I 0, I 0])) zeroValue179 (zrC Z)) Z
    ·exact OblS.alloc _ 16 179 3 _ Z Z Z Z Z Z Z (OpZ.alloc (v := (.agg [I 0, I 0])) zeroValue179 (zrC Z)) Z
    ·exact OblS.alloc _ 16 179 3 _ Z Z Z Z Z Z Z (OpZ.alloc (v := (.agg [I 0, I 0])) zeroValue179 (zrC Z)) Z
    ·exact OblS.alloc _ 16 179 3 _ Z Z Z Z Z Z Z (OpZ.alloc (v := (.agg [I 0, I 0])) zeroValue179 (zrC Z)) Z
   ·refine Qa ?_ (Qa ?_ (Qa ?_ (Qa ?_ (Qc))))
    ·exact OblS.alloc _ 17 179 4 _ Z Z Z Z Z Z Z (OpZ.alloc (v := (.agg [I 0, I 0])) zeroValue179 (zrC Z)) Z
    ·exact OblS.alloc _ 17 179 4 _ Z Z Z Z Z Z Z (OpZ.alloc (v := (.agg [I 0, I 0])) zeroValue179 (zrC Z)) Z
    ·exact OblS.alloc _ 17 179 4 _ Z Z Z Z Z Z Z (OpZ.alloc (v := (.agg [I 0, I 0])) zeroValue179 (zrC Z)) Z
    ·exact OblS.alloc _ 17 179 4 _ Z Z Z Z Z Z Z (OpZ.alloc (v := (.agg [I 0, I 0])) zeroValue179 (zrC Z)) Z
   ·refine Qa ?_ (Qa ?_ (Qa ?_ (Qa ?_ (Qc))))
    ·exact OblS.alloc _ 18 179 5 _ Z Z Z Z Z Z Z (OpZ.alloc (v := (.agg [I 0, I 0])) zeroValue179 (zrC Z)) Z
    ·exact OblS.alloc _ 18 179 5 _ Z Z Z Z Z Z Z (OpZ.alloc (v := (.agg [I 0, I 0])) zeroValue179 (zrC Z)) Z
    ·exact OblS.alloc _ 18 179 5 _ Z Z Z Z Z Z Z (OpZ.alloc (v := (.agg [I 0, I 0])) zeroValue179 (zrC Z)) Z
    ·exact OblS.alloc _ 18 179 5 _ Z Z Z Z Z Z Z (OpZ.alloc (v := (.agg [I 0, I 0])) zeroValue179 (zrC Z)) Z
   ·refine Qa ?_ (Qc)
    ·refine Om2 Z (sD 3 (sD 0 sN)) ?_
     refine vU (OpU.store Z Z Z sizeOf179 Z Z Z Z Z Z Z) ?_
     exact FE Z Wp
   ·refine Qa ?_ (Qc)
    ·refine Om2 Z (sD 4 (sD 1 sN)) ?_
     refine vU (OpU.store Z Z Z sizeOf179 Z Z Z Z Z Z Z) ?_
     exact FE Z Wp
  refine U 1 Z (Nx (TC.seq (Rg (U 4 Z (Nx (TC.block (TC.seq (Rg (U 2 Z (Nx (Bd h fun b12 h13 h => ?_)))))))))))
  refine TC.cut ([(4, .ptr 2 0), (15, .ptr 0 47), (16, .ptr 3 0), (17, .ptr 4 0), (18, .ptr 5 0), (316, I a1.Ruling.Kind), (317, .bool b12)]) ([.cells 81 (Fact.c a1), .cells 3 [I a2], .cells 171 [.nils, .nilf], .cells 179 [I 1, I 9999], .cells 179 [I 0, I 255], .cells 179 [I 0, I 0]]) ?_ (fun env H hle => ?_)
  ·refine Cn Z h13 (fun hc14 h13 => ?_) (fun hc14 h13 => ?_)
   ·refine TC.skip ?_
    obtain rfl := Oi h13
    exact cutN (Lr [0, 1, 2, 3, 4, 5])
   refine TC.region (U 2 Z (WO.nil ?_))
   obtain rfl := Oi h13
   exact cutN (Lr [0, 1, 2, 3, 4, 5])
  refine Qf (TC.le hle (Bd h fun b18 h19 h => ?_))
  refine TC.cut ([(4, .ptr 2 0), (15, .ptr 0 47), (16, .ptr 3 0), (17, .ptr 4 0), (18, .ptr 5 0)]) ([.cells 81 (Fact.c a1), .cells 3 [I a2], .cells 171 [.nils, .nilf], .cells 179 (facts_scope.c b18.1), .cells 179 (facts_scope.c b18.2.1), .cells 179 (facts_scope.c b18.2.2)]) ?_ (fun env H hle => ?_)
  ·refine Cn Z h19 (fun hc20 h19 => ?_) (fun hc20 h19 => ?_)
   ·refine TC.region (U 4 Z (WO.nil ?_))
    obtain rfl := Oi h19
    exact cutN (Lr [0, 1, 2, 3, 4, 5])
   refine Rg (U 2 Z (Nx (Cn Z h19 (fun hc21 h19 => ?_) (fun hc21 h19 => ?_))))
   ·refine TC.region (U 2 Z (WO.nil ?_))
    obtain rfl := Oi h19
    exact cutN (Lr [0, 1, 2, 3, 4, 5])
   refine Rg (U 2 Z (Nx (Cn Z h19 (fun hc22 h19 => ?_) (fun hc22 h19 => ?_))))
   ·refine TC.region (U 2 Z (WO.nil ?_))
    obtain rfl := Oi h19
    exact cutN (Lr [0, 1, 2, 3, 4, 5])
   refine TC.skip ?_
   obtain rfl := Oi h19
   exact cutN (Lr [0, 1, 2, 3, 4, 5])
  refine QD (Qf (TC.le hle (TC.seq ?_)))
  refine UD 30 Z (by kernel_rfl) ?_
  refine vH (Q9 (xs := [.tmp 332, .tmp 337, .tmp 342, .tmp 347, .tmp 352, .tmp 357]) Yx Z Z Z Z Z ⟨Z, Z, Z, Z, Z, Z, trivial⟩ Z) ?_
  refine FE Z (U 3 Z (Nx (TC.ret (Qm (Ql ?_)))))
  obtain rfl := Oi h
  refine ⟨[(4, .ptr 3 0), (5, .bool true)], [.cells 81 (Fact.c a1), .cells 3 [I a2], .rowr 181 3 [[.ptr 0 47, I 1, I 1048576], [.ptr 0 48, I 1, I 2], [.ptr 0 49, I 1, I 5], [.ptr 0 50, I ((b18.1.least, b18.1.most, b18.2.1.least, b18.2.1.most, b18.2.2.least, b18.2.2.most).1), I ((b18.1.least, b18.1.most, b18.2.1.least, b18.2.1.most, b18.2.2.least, b18.2.2.most).2.1)], [.ptr 0 51, I ((b18.1.least, b18.1.most, b18.2.1.least, b18.2.1.most, b18.2.2.least, b18.2.2.most).2.2.1), I ((b18.1.least, b18.1.most, b18.2.1.least, b18.2.1.most, b18.2.2.least, b18.2.2.most).2.2.2.1)], [.ptr 0 52, I ((b18.1.least, b18.1.most, b18.2.1.least, b18.2.1.most, b18.2.2.least, b18.2.2.most).2.2.2.2.1), I ((b18.1.least, b18.1.most, b18.2.1.least, b18.2.1.most, b18.2.2.least, b18.2.2.most).2.2.2.2.2)]], .cells 171 [.osl 2 0 6 3, .fn (.func 144) [] []]], _, ?_, QB Z Z (ResL.cons (Qn isAgg171 sizeOf171 Z Z Z) (ResL.cons ResAt.tmp ResL.nil)), Z, Z⟩
  exact Lr [0, 1, 6, 2]
 refine Rg (U 2 Z (Nx (Cn Z h (fun hc23 h => ?_) (fun hc23 h => ?_))))
 ·refine TC.seq ?_
  refine UD 9 Z (by kernel_rfl) ?_
  refine vH (Q9 (xs := [.tmp 367, .tmp 370]) Yx Z Z Z Z Z ⟨Z, Z, trivial⟩ Z) ?_
  refine FE Z (U 3 Z (Nx (TC.ret (Qm (Ql ?_)))))
  obtain rfl := Oi h
  refine ⟨[(4, .ptr 3 0), (5, .bool true)], [.cells 81 (Fact.c a1), .cells 3 [I a2], .rowr 181 3 [[.ptr 0 53, I 1, I 1048576], [.ptr 1 0, I 0, I 1]], .cells 171 [.osl 2 0 2 3, .fn (.func 144) [] []]], _, ?_, QB Z Z (ResL.cons (Qn isAgg171 sizeOf171 Z Z Z) (ResL.cons ResAt.tmp ResL.nil)), Z, Z⟩
  exact Lr [0, 1, 3, 2]
 refine Rg (U 2 Z (Nx (Cn Z h (fun hc24 h => ?_) (fun hc24 h => ?_))))
 ·refine Rg (U 3 Z (Nx (TC.ret (Qm (Ql ?_)))))
  obtain rfl := Oi h
  refine ⟨[(4, .ptr 2 0), (5, .bool true)], [.cells 81 (Fact.c a1), .cells 3 [I a2], .cells 171 [.nils, .fn (.func 144) [] []]], _, ?_, QB Z Z (ResL.cons (Qn isAgg171 sizeOf171 Z Z Z) (ResL.cons ResAt.tmp ResL.nil)), Z, Z⟩
  exact Lr [0, 1, 2]
 refine Rg (U 2 Z (Nx (Cn Z h (fun hc25 h => ?_) (fun hc25 h => ?_))))
 ·refine TC.seq ?_
  refine UD 12 Z (by kernel_rfl) ?_
  refine vH (Q9 (xs := [.tmp 383, .tmp 389]) Yx Z Z Z Z Z ⟨Z, Z, trivial⟩ Z) ?_
  refine FE Z (U 3 Z (Nx (TC.ret (Qm (Ql ?_)))))
  obtain rfl := Oi h
  refine ⟨[(4, .ptr 3 0), (5, .bool true)], [.cells 81 (Fact.c a1), .cells 3 [I a2], .rowr 181 3 [[.ptr 0 55, I 0, I 31], [.ptr 0 56, I 1, I 1048576]], .cells 171 [.osl 2 0 2 3, .fn (.func 144) [] []]], _, ?_, QB Z Z (ResL.cons (Qn isAgg171 sizeOf171 Z Z Z) (ResL.cons ResAt.tmp ResL.nil)), Z, Z⟩
  exact Lr [0, 1, 3, 2]
 refine TC.skip (QD (Qf (Rg (U 3 Z (Nx (TC.ret ?_))))))
 obtain rfl := Oi h
 refine ⟨[(4, .ptr 2 0), (5, .bool false)], [.cells 81 (Fact.c a1), .cells 3 [I a2], .cells 171 [.nils, .nilf]], _, ?_, QB Z Z (ResL.cons (Qn isAgg171 sizeOf171 Z Z Z) (ResL.cons ResAt.tmp ResL.nil)), Z, Z⟩
 exact Lr [0, 1, 2]
def F_b (n : Nat) : Option Unit :=
  some ()
theorem k_b (n : Nat) (r : Unit) (h : F_b n = some r) :
    C prog 144 [] [] (fun a H => a = .bool true ∧ H = []) := by
 refine Qd func144 Z Z Z ?_
 refine Rg (U 1 Z (Nx (Rg (U 1 Z (Nx (TC.ret ?_))))))
 obtain rfl := Oi h
 exact R1 0 Z (Lr [])
def F_eq (n : Nat) (a1 : Fact) : Option Unit :=
  some ()
theorem k_eq (n : Nat) (a1 : Fact) (r : Unit) (h : F_eq n a1 = some r) :
    C prog 145 [.ptr 0 0] [.cells 238 [.ptr 1 21], .cells 81 (Fact.c a1)] (fun a H => a = .bool (decide (a1.Sync.Min ≤ a1.Sync.Max)) ∧ H = [.cells 238 [.ptr 1 21], .cells 81 (Fact.c a1)]) := by
 refine Qd func145 Z Z Z ?_
 refine Rg (U 1 Z (Nx (TC.seq ?_)))
 refine UD 8 Z (by kernel_rfl) (U 2 Z (Nx (TC.ret ?_)))
 obtain rfl := Oi h
 exact R1 1 Z (Lr [0, 1])
def F_dt (n : Nat) (a1 : Fact) : Option Unit :=
  some ()
theorem k_dt (n : Nat) (a1 : Fact) (r : Unit) (h : F_dt n a1 = some r) :
    C prog 146 [.ptr 0 0] [.cells 239 [.ptr 1 29], .cells 81 (Fact.c a1)] (fun a H => a = .bool (decide (a1.Hand.Lo ≤ a1.Hand.Hi)) ∧ H = [.cells 239 [.ptr 1 29], .cells 81 (Fact.c a1)]) := by
 refine Qd func146 Z Z Z ?_
 refine Rg (U 1 Z (Nx (TC.seq ?_)))
 refine UD 8 Z (by kernel_rfl) (U 2 Z (Nx (TC.ret ?_)))
 obtain rfl := Oi h
 exact R1 1 Z (Lr [0, 1])
def F_du (n : Nat) (a1 : Fact) : Option Unit :=
  some ()
theorem k_du (n : Nat) (a1 : Fact) (r : Unit) (h : F_du n a1 = some r) :
    C prog 147 [.ptr 0 0] [.cells 240 [.ptr 1 33], .cells 81 (Fact.c a1)] (fun a H => a = .bool (decide (a1.Silence.Lo ≤ a1.Silence.Hi)) ∧ H = [.cells 240 [.ptr 1 33], .cells 81 (Fact.c a1)]) := by
 refine Qd func147 Z Z Z ?_
 refine Rg (U 1 Z (Nx (TC.seq ?_)))
 refine UD 8 Z (by kernel_rfl) (U 2 Z (Nx (TC.ret ?_)))
 obtain rfl := Oi h
 exact R1 1 Z (Lr [0, 1])
def F_dr (n : Nat) (a1 : Fact) : Option Unit :=
  some ()
theorem k_dr (n : Nat) (a1 : Fact) (r : Unit) (h : F_dr n a1 = some r) :
    C prog 148 [.ptr 0 0] [.cells 241 [.ptr 1 37], .cells 81 (Fact.c a1)] (fun a H => a = .bool (decide (a1.Pair.A < a1.Pair.B)) ∧ H = [.cells 241 [.ptr 1 37], .cells 81 (Fact.c a1)]) := by
 refine Qd func148 Z Z Z ?_
 refine Rg (U 1 Z (Nx (TC.seq ?_)))
 refine UD 8 Z (by kernel_rfl) (U 2 Z (Nx (TC.ret ?_)))
 obtain rfl := Oi h
 exact R1 1 Z (Lr [0, 1])
def F_aa (n : Nat) (a1 : Fact) : Option Unit :=
  some ()
theorem k_aa (n : Nat) (a1 : Fact) (r : Unit) (h : F_aa n a1 = some r) :
    C prog 84 [.ptr 0 0] [.cells 81 (Fact.c a1)] (fun a H => a = .osl 1 0 4 3 ∧ H = [.cells 81 (Fact.c a1), .rowr 181 3 [[.ptr 0 3, I 1, I 13], [.ptr 0 0, I 0, I 31], [.ptr 0 1, I 1, I 1048576], [.ptr 0 2, I 0, I 1099511627776]]]) := by
 refine Qd func84 Z Z Z ?_
 refine Rg (U 1 Z (Nx (TC.seq ?_)))
 refine UD 20 Z (by kernel_rfl) ?_
 refine vH (Q9 (xs := [.tmp 7, .tmp 12, .tmp 17, .tmp 22]) Yx Z Z Z Z Z ⟨Z, Z, Z, Z, trivial⟩ Z) ?_
 refine FE Z (U 1 Z (Nx (TC.ret ?_)))
 obtain rfl := Oi h
 exact R1 2 Z (Lr [0, 1])
def F_ay (n : Nat) (a1 : Fact) (a2 : Int) (a3 : Fact) : Option (List Ent) :=
  ((F_ag n ({ a1 with Kind := a3.Kind : Fact }) a2).bind fun r19 => (match r19 with | .c0 x21 => (some ([⟨false, 4, 1, 9999⟩, ⟨false, 5, 0, 7⟩, ⟨false, 6, 0, 31⟩, ⟨false, 7, (-1099511627776), 1099511627776⟩, ⟨false, 8, 0, 120⟩, ⟨false, 9, 0, 1048576⟩, ⟨false, 10, 0, 9999⟩, ⟨false, 11, 0, 1048576⟩] : List Ent)) | .c1 x22 => (some ([⟨false, 12, 0, 39⟩, ⟨false, 13, 0, 255⟩, ⟨false, 14, 0, 1048576⟩, ⟨false, 15, (-1099511627776), 1099511627776⟩] : List Ent)) | .c2 x23 => (some ([⟨false, 16, 0, 39⟩, ⟨false, 17, 0, 255⟩, ⟨false, 18, (-1099511627776), 1099511627776⟩, ⟨false, 19, (-1099511627776), 1099511627776⟩, ⟨false, 20, 0, 1099511627776⟩] : List Ent)) | .c3 x24 => (some ([⟨false, 21, 0, 39⟩, ⟨false, 22, 0, 255⟩, ⟨false, 23, (-1099511627776), 1099511627776⟩, ⟨false, 24, 0, 39⟩, ⟨false, 25, 0, 255⟩, ⟨false, 26, (-1099511627776), 1099511627776⟩, ⟨false, 27, (-1099511627776), 1099511627776⟩, ⟨false, 28, (-1099511627776), 1099511627776⟩] : List Ent)) | .c4 x25 => (some ([⟨false, 29, 1, 9999⟩, ⟨false, 30, 0, 255⟩, ⟨false, 31, (-1099511627776), 1099511627776⟩, ⟨false, 32, (-1099511627776), 1099511627776⟩] : List Ent)) | .c5 x26 => (some ([⟨false, 33, 0, 39⟩, ⟨false, 34, 0, 255⟩, ⟨false, 35, (-1099511627776), 1099511627776⟩, ⟨false, 36, (-1099511627776), 1099511627776⟩] : List Ent)) | .c6 x27 => (some ([⟨false, 37, 1, 9999⟩, ⟨false, 38, 1, 9999⟩] : List Ent)) | .c7 x28 => (some ([⟨false, 39, 1, 1048576⟩, ⟨false, 40, 1, 9999⟩, ⟨false, 41, 0, 31⟩, ⟨false, 42, 0, 255⟩] : List Ent)) | .c8 x29 => (some ([⟨false, 43, 1, 1048576⟩, ⟨false, 44, 0, 9999⟩, ⟨false, 45, 0, 1125899906842624⟩, ⟨false, 46, 0, 1⟩] : List Ent)) | .c9 x30 => (some ([⟨false, 47, 1, 1048576⟩, ⟨false, 48, 1, 2⟩, ⟨false, 49, 1, 5⟩, ⟨false, 50, x30.1, x30.2.1⟩, ⟨false, 51, x30.2.2.1, x30.2.2.2.1⟩, ⟨false, 52, x30.2.2.2.2.1, x30.2.2.2.2.2⟩] : List Ent)) | .c10 x31 => (some ([⟨false, 53, 1, 1048576⟩, ⟨true, 0, 0, 1⟩] : List Ent)) | .c11 x32 => (some []) | .c12 x33 => (some ([⟨false, 55, 0, 31⟩, ⟨false, 56, 1, 1048576⟩] : List Ent)) | .c13 x34 => (some [])) : Option (List Ent)).bind fun b17 => (F_aa n ({ a1 with Kind := a3.Kind : Fact })).bind fun r35 => (app ([⟨false, 3, 1, 13⟩, ⟨false, 0, 0, 31⟩, ⟨false, 1, 1, 1048576⟩, ⟨false, 2, 0, 1099511627776⟩] : List Ent) b17).bind fun l36 => some l36
theorem k_ay (n : Nat) (a1 : Fact) (a2 : Int) (a3 : Fact) (r : List Ent) (h : F_ay n a1 a2 a3 = some r) :
    C prog 83 [.ptr 0 0, .ptr 1 0, .ptr 2 0] [.cells 81 (Fact.c a1), .cells 3 [I a2], .cells 81 (Fact.c a3)] (fun a H => a = .osl 3 0 r.length 3 ∧ H = [.cells 81 (Fact.c ({ a1 with Kind := a3.Kind : Fact })), .cells 3 [I a2], .cells 81 (Fact.c a3), .ents 181 0 1 r]) := by
 refine Qd func83 Z Z Z ?_
 refine Rg (U 1 Z (Nx (Rg (U 6 Z (Nx (TC.seq (Bd h fun b17 h18 h => ?_)))))))
 refine TC.cut ([(0, .ptr 0 0), (6, .ptr 3 0)]) ([.cells 81 (Fact.c ({ a1 with Kind := a3.Kind : Fact })), .cells 3 [I a2], .cells 81 (Fact.c a3), .cells 171 [.osl 4 0 b17.length 3, .any], .ents 181 0 1 b17]) ?_ (fun env H hle => ?_)
 ·refine TC.region (U 2 Z (Bd h18 fun r19 hr19 h18 => ?_))
  refine Qe [0, 1] (OpC.fn call82 Z Z Z) (k_ag _ _ _ _ hr19) ?_
  intro ra rH h20
  rcases r19 with x21 | x22 | x23 | x24 | x25 | x26 | x27 | x28 | x29 | x30 | x31 | x32 | x33 | x34
  ·obtain ⟨rfl, rfl⟩ := h20
   refine FE Z (TE 3 0 1 Z Z (FE Z (U 6 Z (WO.nil ?_))))
   obtain rfl := Oi h18
   refine cutN ?_
   refine Le.trans (QA (i := 5) (m := 1) Z) ?_
   exact Lr [0, 1, 2, 5, 3]
  ·obtain ⟨rfl, rfl⟩ := h20
   refine FE Z (TE 3 0 1 Z Z (FE Z (U 6 Z (WO.nil ?_))))
   obtain rfl := Oi h18
   refine cutN ?_
   refine Le.trans (QA (i := 5) (m := 1) Z) ?_
   exact Lr [0, 1, 2, 5, 3]
  ·obtain ⟨rfl, rfl⟩ := h20
   refine FE Z (TE 3 0 1 Z Z (FE Z (U 6 Z (WO.nil ?_))))
   obtain rfl := Oi h18
   refine cutN ?_
   refine Le.trans (QA (i := 5) (m := 1) Z) ?_
   exact Lr [0, 1, 2, 5, 3]
  ·obtain ⟨rfl, rfl⟩ := h20
   refine FE Z (TE 3 0 1 Z Z (FE Z (U 6 Z (WO.nil ?_))))
   obtain rfl := Oi h18
   refine cutN ?_
   refine Le.trans (QA (i := 6) (m := 1) Z) ?_
   exact Lr [0, 1, 2, 6, 3]
  ·obtain ⟨rfl, rfl⟩ := h20
   refine FE Z (TE 3 0 1 Z Z (FE Z (U 6 Z (WO.nil ?_))))
   obtain rfl := Oi h18
   refine cutN ?_
   refine Le.trans (QA (i := 6) (m := 1) Z) ?_
   exact Lr [0, 1, 2, 6, 3]
  ·obtain ⟨rfl, rfl⟩ := h20
   refine FE Z (TE 3 0 1 Z Z (FE Z (U 6 Z (WO.nil ?_))))
   obtain rfl := Oi h18
   refine cutN ?_
   refine Le.trans (QA (i := 6) (m := 1) Z) ?_
   exact Lr [0, 1, 2, 6, 3]
  ·obtain ⟨rfl, rfl⟩ := h20
   refine FE Z (TE 3 0 1 Z Z (FE Z (U 6 Z (WO.nil ?_))))
   obtain rfl := Oi h18
   refine cutN ?_
   refine Le.trans (QA (i := 6) (m := 1) Z) ?_
   exact Lr [0, 1, 2, 6, 3]
  ·obtain ⟨rfl, rfl⟩ := h20
   refine FE Z (TE 3 0 1 Z Z (FE Z (U 6 Z (WO.nil ?_))))
   obtain rfl := Oi h18
   refine cutN ?_
   refine Le.trans (QA (i := 5) (m := 1) Z) ?_
   exact Lr [0, 1, 2, 5, 3]
  ·obtain ⟨rfl, rfl⟩ := h20
   refine FE Z (TE 3 0 1 Z Z (FE Z (U 6 Z (WO.nil ?_))))
   obtain rfl := Oi h18
   refine cutN ?_
   refine Le.trans (QA (i := 5) (m := 1) Z) ?_
   exact Lr [0, 1, 2, 5, 3]
  ·obtain ⟨rfl, rfl⟩ := h20
   refine FE Z (TE 3 0 1 Z Z (FE Z (U 6 Z (WO.nil ?_))))
   obtain rfl := Oi h18
   refine cutN ?_
   refine Le.trans (QA (i := 5) (m := 1) Z) ?_
   exact Lr [0, 1, 2, 5, 3]
  ·obtain ⟨rfl, rfl⟩ := h20
   refine FE Z (TE 3 0 1 Z Z (FE Z (U 6 Z (WO.nil ?_))))
   obtain rfl := Oi h18
   refine cutN ?_
   refine Le.trans (QA (i := 5) (m := 1) Z) ?_
   exact Lr [0, 1, 2, 5, 3]
  ·obtain ⟨rfl, rfl⟩ := h20
   refine FE Z (U 6 Z (WO.nil ?_))
   obtain rfl := Oi h18
   refine cutN ?_
   refine Le.trans (QA (i := 4) (m := 1) Z) ?_
   refine Le.trans (Le.phantomE (i := 4) (m := 0) (t := 181) (b1 := 0) (b2 := 1) Z Z Z) ?_
   exact Lr [0, 1, 2, 4, 5]
  ·obtain ⟨rfl, rfl⟩ := h20
   refine FE Z (TE 3 0 1 Z Z (FE Z (U 6 Z (WO.nil ?_))))
   obtain rfl := Oi h18
   refine cutN ?_
   refine Le.trans (QA (i := 5) (m := 1) Z) ?_
   exact Lr [0, 1, 2, 5, 3]
  ·obtain ⟨rfl, rfl⟩ := h20
   refine FE Z (U 6 Z (WO.nil ?_))
   obtain rfl := Oi h18
   refine cutN ?_
   refine Le.trans (QA (i := 4) (m := 1) Z) ?_
   refine Le.trans (Le.phantomE (i := 4) (m := 0) (t := 181) (b1 := 0) (b2 := 1) Z Z Z) ?_
   exact Lr [0, 1, 2, 4, 5]
 refine Qf (TC.le hle (TC.seq ?_))
 obtain ⟨r35, hr35, h⟩ := bnd h
 refine QW 4 0 [19, 20, 21, 22] [false, true, false, false] [[], [], [], []] [[], [1]] [[(0, 0), (1, 1)], [(0, 1)], [(0, 0), (1, 1)], [(0, 0), (1, 1)]] [.ptr 0 0, .osl 5 0 4 3, .ptr 3 0, .osl 4 0 b17.length 3] [[.cells 81 (Fact.c ({ a1 with Kind := a3.Kind : Fact })), .cells 3 [I a2], .cells 81 (Fact.c a3), .cells 171 [.osl 4 0 b17.length 3, .any], .ents 181 0 1 b17], [.cells 81 (Fact.c ({ a1 with Kind := a3.Kind : Fact })), .cells 3 [I a2], .cells 81 (Fact.c a3), .cells 171 [.osl 4 0 b17.length 3, .any], .ents 181 0 1 b17, .rowr 181 3 [[.ptr 0 3, I 1, I 13], [.ptr 0 0, I 0, I 31], [.ptr 0 1, I 1, I 1048576], [.ptr 0 2, I 0, I 1099511627776]]]] ([.cells 81 (Fact.c ({ a1 with Kind := a3.Kind : Fact })), .cells 3 [I a2], .cells 81 (Fact.c a3), .cells 171 [.osl 4 0 b17.length 3, .any], .ents 181 0 1 b17, .rowr 181 3 [[.ptr 0 3, I 1, I 13], [.ptr 0 0, I 0, I 31], [.ptr 0 1, I 1, I 1048576], [.ptr 0 2, I 0, I 1099511627776]]]) draws Z Z Z Z Z Z Z ?_ Z ?_
 ·refine OblM.cons (Qa (v0 Z Z) (Qa (v0 Z Z) (Qc))) (OblM.cons ?_ (OblM.cons (Qa (v0 Z Z) (Qa (v0 Z Z) (Qc))) (OblM.cons (Qa (v0 Z Z) (Qa (v0 Z Z) (Qc))) (OblM.nil))))
  ·refine Qa ?_ (Qc)
   ·refine Om1 Z (sD 0 sN) ?_
    refine Qe [0] (OpC.fn call84 Z Z Z) (k_aa _ _ _ hr35) ?_
    rintro _ _ ⟨rfl, rfl⟩
    exact FE Z Wp
 refine TE 5 0 1 Z Z (FE Z (Bd h fun l36 hl36 h => ?_))
 refine vH (Qeh (i := 5) (j := 4) hl36 Yx runUnderlying169 Z) ?_
 refine FE Z (U 1 Z (Nx (TC.ret ?_)))
 obtain rfl := Oi h
 exact R1 5 Z (Lr [0, 1, 2, 6])
def F_dp (n : Nat) (a1 : Fact) (b2 : Int) (l74 : List Ent) (r75 : List Ent) (s102 : (List Int) × Fact × Int × Int) : Option (Ctl ((List Int) × Fact × Int × Int) (Ctl ((List Int) × Fact × Int) ((List Int) × Bool))) :=
  (bif decide (s102.2.2.2 < (l74.length : Int)) then (idx l74 s102.2.2.2).bind fun e106 => (getE (Fact.c a1) b2 e106).bind fun x107 => (bif decide (x107 < e106.lo) then some (.done (.done ([], false))) else (getE (Fact.c a1) b2 e106).bind fun x109 => (bif decide (e106.hi < x109) then some (.done (.done ([], false))) else (idx r75 s102.2.2.2).bind fun e111 => (getE (Fact.c a1) b2 e106).bind fun x112 => (putE Fact.put s102.2.1 s102.2.2.1 e111 x112).bind fun q113 => (getE (Fact.c a1) b2 e106).bind fun x114 => (app s102.1 [x114]).bind fun l115 => some (.cont (l115, q113.1, q113.2, IntKind.i64.wrap (s102.2.2.2 + 1))))) else some (.done (.cont (s102.1, s102.2.1, s102.2.2.1))))
def F_ae (n : Nat) (a1 : Fact) : Option ((List Int) × Bool) :=
  ((bif a1.Appeal.Suspends then some 1 else some 0) : Option Int).bind fun b2 => ((F_ag n a1 b2).bind fun r40 => (match r40 with | .c0 x42 => ((F_b n).bind fun r56 => some (.cont ([⟨false, 4, 1, 9999⟩, ⟨false, 5, 0, 7⟩, ⟨false, 6, 0, 31⟩, ⟨false, 7, (-1099511627776), 1099511627776⟩, ⟨false, 8, 0, 120⟩, ⟨false, 9, 0, 1048576⟩, ⟨false, 10, 0, 9999⟩, ⟨false, 11, 0, 1048576⟩] : List Ent))) | .c1 x43 => ((F_b n).bind fun r57 => some (.cont ([⟨false, 12, 0, 39⟩, ⟨false, 13, 0, 255⟩, ⟨false, 14, 0, 1048576⟩, ⟨false, 15, (-1099511627776), 1099511627776⟩] : List Ent))) | .c2 x44 => ((F_b n).bind fun r58 => some (.cont ([⟨false, 16, 0, 39⟩, ⟨false, 17, 0, 255⟩, ⟨false, 18, (-1099511627776), 1099511627776⟩, ⟨false, 19, (-1099511627776), 1099511627776⟩, ⟨false, 20, 0, 1099511627776⟩] : List Ent))) | .c3 x45 => ((F_eq n a1).bind fun r59 => (bif (!(decide (a1.Sync.Min ≤ a1.Sync.Max))) then some (.done ([], false)) else some (.cont ([⟨false, 21, 0, 39⟩, ⟨false, 22, 0, 255⟩, ⟨false, 23, (-1099511627776), 1099511627776⟩, ⟨false, 24, 0, 39⟩, ⟨false, 25, 0, 255⟩, ⟨false, 26, (-1099511627776), 1099511627776⟩, ⟨false, 27, (-1099511627776), 1099511627776⟩, ⟨false, 28, (-1099511627776), 1099511627776⟩] : List Ent)))) | .c4 x46 => ((F_dt n a1).bind fun r61 => (bif (!(decide (a1.Hand.Lo ≤ a1.Hand.Hi))) then some (.done ([], false)) else some (.cont ([⟨false, 29, 1, 9999⟩, ⟨false, 30, 0, 255⟩, ⟨false, 31, (-1099511627776), 1099511627776⟩, ⟨false, 32, (-1099511627776), 1099511627776⟩] : List Ent)))) | .c5 x47 => ((F_du n a1).bind fun r63 => (bif (!(decide (a1.Silence.Lo ≤ a1.Silence.Hi))) then some (.done ([], false)) else some (.cont ([⟨false, 33, 0, 39⟩, ⟨false, 34, 0, 255⟩, ⟨false, 35, (-1099511627776), 1099511627776⟩, ⟨false, 36, (-1099511627776), 1099511627776⟩] : List Ent)))) | .c6 x48 => ((F_dr n a1).bind fun r65 => (bif (!(decide (a1.Pair.A < a1.Pair.B))) then some (.done ([], false)) else some (.cont ([⟨false, 37, 1, 9999⟩, ⟨false, 38, 1, 9999⟩] : List Ent)))) | .c7 x49 => ((F_b n).bind fun r67 => some (.cont ([⟨false, 39, 1, 1048576⟩, ⟨false, 40, 1, 9999⟩, ⟨false, 41, 0, 31⟩, ⟨false, 42, 0, 255⟩] : List Ent))) | .c8 x50 => ((F_b n).bind fun r68 => some (.cont ([⟨false, 43, 1, 1048576⟩, ⟨false, 44, 0, 9999⟩, ⟨false, 45, 0, 1125899906842624⟩, ⟨false, 46, 0, 1⟩] : List Ent))) | .c9 x51 => ((F_b n).bind fun r69 => some (.cont ([⟨false, 47, 1, 1048576⟩, ⟨false, 48, 1, 2⟩, ⟨false, 49, 1, 5⟩, ⟨false, 50, x51.1, x51.2.1⟩, ⟨false, 51, x51.2.2.1, x51.2.2.2.1⟩, ⟨false, 52, x51.2.2.2.2.1, x51.2.2.2.2.2⟩] : List Ent))) | .c10 x52 => ((F_b n).bind fun r70 => some (.cont ([⟨false, 53, 1, 1048576⟩, ⟨true, 0, 0, 1⟩] : List Ent))) | .c11 x53 => ((F_b n).bind fun r71 => some (.cont [])) | .c12 x54 => ((F_b n).bind fun r72 => some (.cont ([⟨false, 55, 0, 31⟩, ⟨false, 56, 1, 1048576⟩] : List Ent))) | .c13 x55 => (some (.done ([], false)))) : Option (Ctl (List Ent) ((List Int) × Bool))).bind fun b38 => match b38 with | .cont sb38 => ((F_aa n a1).bind fun r73 => (app ([⟨false, 3, 1, 13⟩, ⟨false, 0, 0, 31⟩, ⟨false, 1, 1, 1048576⟩, ⟨false, 2, 0, 1099511627776⟩] : List Ent) sb38).bind fun l74 => (F_ay n ({ z_Fact with Ruling := { z_Ruling with Kind := a1.Ruling.Kind : Ruling } : Fact }) 0 a1).bind fun r75 => (iter (F_dp n a1 b2 l74 r75) n ([], ({ ({ z_Fact with Ruling := { z_Ruling with Kind := a1.Ruling.Kind : Ruling } : Fact }) with Kind := a1.Kind : Fact }), 0, 0) : Option (Ctl ((List Int) × Fact × Int) ((List Int) × Bool))).bind fun b99 => match b99 with | .cont sb99 => (((bif (a1.Kind != 10) then some ({ sb99.2.1 with Ruling := { sb99.2.1.Ruling with Kind := 0 : Ruling } : Fact }) else some sb99.2.1) : Option Fact).bind fun b117 => some (sb99.1, (({ b117 with Appeal := { Case := b117.Appeal.Case, Suspends := (sb99.2.2 == 1) : Appeal } : Fact }) == a1))) | .done sb99 => some sb99) | .done sb38 => some sb38
theorem k_ae (n : Nat) (a1 : Fact) (r : (List Int) × Bool) (h : F_ae n a1 = some r) :
    C prog 49 [.agg (Fact.c a1)] [] (fun a H => a = .tup [.osl 0 0 r.1.length 1, .bool r.2] ∧ H = [.row 3 1 (List.map (encI .i64) r.1)]) := by
 refine Qd func49 Z Z Z ?_
 refine Rg (U 3 Z (Nx (Rg (U 2 Z (Nx (TC.seq (Rg (U 3 Z (Nx (Bd h fun b2 h3 h => ?_))))))))))
 refine TC.cut ([(1, .ptr 0 0), (2, .nils), (4, .ptr 1 0)]) ([.cells 81 (Fact.c a1), .cells 3 [I b2]]) ?_ (fun env H hle => ?_)
 ·refine Cn Z h3 (fun hc4 h3 => ?_) (fun hc4 h3 => ?_)
  ·refine TC.region (U 1 Z (WO.nil ?_))
   obtain rfl := Oi h3
   exact cutN (Lr [0, 1])
  refine TC.skip ?_
  obtain rfl := Oi h3
  exact cutN (Lr [0, 1])
 refine Qf (TC.le hle (Rg (U 3 Z (Nx (Bd h fun b38 h39 h => ?_)))))
 refine Qji (b := b38) (fun sb38 => [(1, .ptr 0 0), (2, .nils), (5, .ptr 1 0), (6, .ptr 2 0)]) (fun sb38 => [.cells 81 (Fact.c a1), .cells 81 (Fact.c a1), .cells 171 [.osl 3 0 sb38.length 3, .any], .ents 181 1 4 sb38, .cells 3 [I b2]]) ?_ (fun sb38 env H hb hle => ?_)
 ·refine TC.region (Bd h39 fun r40 hr40 h39 => ?_)
  refine Qe [2, 1] (OpC.fn call82 Z Z Z) (k_ag _ _ _ _ hr40) ?_
  intro ra rH h41
  rcases r40 with x42 | x43 | x44 | x45 | x46 | x47 | x48 | x49 | x50 | x51 | x52 | x53 | x54 | x55
  ·obtain ⟨rfl, rfl⟩ := h41
   refine FE Z (TE 3 2 1 Z Z (FE Z (U 6 Z (Nx (Rg (U 5 Z (Bd h39 fun r56 hr56 h39 => Pc [] Z (Qj call144 Z Z Z Z) (k_b _ _ hr56) (hg := (gT Z)) Z (U 2 Z (Nx (CnF Z Z (TC.skip ?_)))))))))))
   obtain rfl := Oi h39
   refine Qx Z ?_
   refine Le.trans (QA (i := 5) (m := 1) Z) ?_
   exact Lr [0, 2, 5, 3, 1]
  ·obtain ⟨rfl, rfl⟩ := h41
   refine FE Z (TE 3 2 1 Z Z (FE Z (U 6 Z (Nx (Rg (U 5 Z (Bd h39 fun r57 hr57 h39 => Pc [] Z (Qj call144 Z Z Z Z) (k_b _ _ hr57) (hg := (gT Z)) Z (U 2 Z (Nx (CnF Z Z (TC.skip ?_)))))))))))
   obtain rfl := Oi h39
   refine Qx Z ?_
   refine Le.trans (QA (i := 5) (m := 1) Z) ?_
   exact Lr [0, 2, 5, 3, 1]
  ·obtain ⟨rfl, rfl⟩ := h41
   refine FE Z (TE 3 2 1 Z Z (FE Z (U 6 Z (Nx (Rg (U 5 Z (Bd h39 fun r58 hr58 h39 => Pc [] Z (Qj call144 Z Z Z Z) (k_b _ _ hr58) (hg := (gT Z)) Z (U 2 Z (Nx (CnF Z Z (TC.skip ?_)))))))))))
   obtain rfl := Oi h39
   refine Qx Z ?_
   refine Le.trans (QA (i := 5) (m := 1) Z) ?_
   exact Lr [0, 2, 5, 3, 1]
  ·obtain ⟨rfl, rfl⟩ := h41
   refine FE Z (TE 3 2 1 Z Z (FE Z (U 6 Z (Nx (Rg (U 5 Z (Bd h39 fun r59 hr59 h39 => Pc [4, 2] Z (Qj call145 Z Z Z Z) (k_eq _ _ _ hr59) (hg := (gT Z)) Z (U 2 Z (Nx (Cn Z h39 (fun hc60 h39 => ?_) (fun hc60 h39 => ?_)))))))))))
   ·refine Rg (U 2 Z (Nx (TC.ret ?_)))
    obtain rfl := Oi h39
    refine QF (Ql ?_)
    obtain rfl := Oi h
    refine R2 2 3 Z Z ?_
    refine Le.trans (Le.phantom (s := 2) (k := 1) (t := 3) (Nat.le_of_ble_eq_true Z) Z) ?_
    exact Lr [7]
   refine TC.skip ?_
   obtain rfl := Oi h39
   refine Qx Z ?_
   refine Le.trans (QA (i := 6) (m := 1) Z) ?_
   exact Lr [0, 2, 6, 3, 1]
  ·obtain ⟨rfl, rfl⟩ := h41
   refine FE Z (TE 3 2 1 Z Z (FE Z (U 6 Z (Nx (Rg (U 5 Z (Bd h39 fun r61 hr61 h39 => Pc [4, 2] Z (Qj call146 Z Z Z Z) (k_dt _ _ _ hr61) (hg := (gT Z)) Z (U 2 Z (Nx (Cn Z h39 (fun hc62 h39 => ?_) (fun hc62 h39 => ?_)))))))))))
   ·refine Rg (U 2 Z (Nx (TC.ret ?_)))
    obtain rfl := Oi h39
    refine QF (Ql ?_)
    obtain rfl := Oi h
    refine R2 2 3 Z Z ?_
    refine Le.trans (Le.phantom (s := 2) (k := 1) (t := 3) (Nat.le_of_ble_eq_true Z) Z) ?_
    exact Lr [7]
   refine TC.skip ?_
   obtain rfl := Oi h39
   refine Qx Z ?_
   refine Le.trans (QA (i := 6) (m := 1) Z) ?_
   exact Lr [0, 2, 6, 3, 1]
  ·obtain ⟨rfl, rfl⟩ := h41
   refine FE Z (TE 3 2 1 Z Z (FE Z (U 6 Z (Nx (Rg (U 5 Z (Bd h39 fun r63 hr63 h39 => Pc [4, 2] Z (Qj call147 Z Z Z Z) (k_du _ _ _ hr63) (hg := (gT Z)) Z (U 2 Z (Nx (Cn Z h39 (fun hc64 h39 => ?_) (fun hc64 h39 => ?_)))))))))))
   ·refine Rg (U 2 Z (Nx (TC.ret ?_)))
    obtain rfl := Oi h39
    refine QF (Ql ?_)
    obtain rfl := Oi h
    refine R2 2 3 Z Z ?_
    refine Le.trans (Le.phantom (s := 2) (k := 1) (t := 3) (Nat.le_of_ble_eq_true Z) Z) ?_
    exact Lr [7]
   refine TC.skip ?_
   obtain rfl := Oi h39
   refine Qx Z ?_
   refine Le.trans (QA (i := 6) (m := 1) Z) ?_
   exact Lr [0, 2, 6, 3, 1]
  ·obtain ⟨rfl, rfl⟩ := h41
   refine FE Z (TE 3 2 1 Z Z (FE Z (U 6 Z (Nx (Rg (U 5 Z (Bd h39 fun r65 hr65 h39 => Pc [4, 2] Z (Qj call148 Z Z Z Z) (k_dr _ _ _ hr65) (hg := (gT Z)) Z (U 2 Z (Nx (Cn Z h39 (fun hc66 h39 => ?_) (fun hc66 h39 => ?_)))))))))))
   ·refine Rg (U 2 Z (Nx (TC.ret ?_)))
    obtain rfl := Oi h39
    refine QF (Ql ?_)
    obtain rfl := Oi h
    refine R2 2 3 Z Z ?_
    refine Le.trans (Le.phantom (s := 2) (k := 1) (t := 3) (Nat.le_of_ble_eq_true Z) Z) ?_
    exact Lr [7]
   refine TC.skip ?_
   obtain rfl := Oi h39
   refine Qx Z ?_
   refine Le.trans (QA (i := 6) (m := 1) Z) ?_
   exact Lr [0, 2, 6, 3, 1]
  ·obtain ⟨rfl, rfl⟩ := h41
   refine FE Z (TE 3 2 1 Z Z (FE Z (U 6 Z (Nx (Rg (U 5 Z (Bd h39 fun r67 hr67 h39 => Pc [] Z (Qj call144 Z Z Z Z) (k_b _ _ hr67) (hg := (gT Z)) Z (U 2 Z (Nx (CnF Z Z (TC.skip ?_)))))))))))
   obtain rfl := Oi h39
   refine Qx Z ?_
   refine Le.trans (QA (i := 5) (m := 1) Z) ?_
   exact Lr [0, 2, 5, 3, 1]
  ·obtain ⟨rfl, rfl⟩ := h41
   refine FE Z (TE 3 2 1 Z Z (FE Z (U 6 Z (Nx (Rg (U 5 Z (Bd h39 fun r68 hr68 h39 => Pc [] Z (Qj call144 Z Z Z Z) (k_b _ _ hr68) (hg := (gT Z)) Z (U 2 Z (Nx (CnF Z Z (TC.skip ?_)))))))))))
   obtain rfl := Oi h39
   refine Qx Z ?_
   refine Le.trans (QA (i := 5) (m := 1) Z) ?_
   exact Lr [0, 2, 5, 3, 1]
  ·obtain ⟨rfl, rfl⟩ := h41
   refine FE Z (TE 3 2 1 Z Z (FE Z (U 6 Z (Nx (Rg (U 5 Z (Bd h39 fun r69 hr69 h39 => Pc [] Z (Qj call144 Z Z Z Z) (k_b _ _ hr69) (hg := (gT Z)) Z (U 2 Z (Nx (CnF Z Z (TC.skip ?_)))))))))))
   obtain rfl := Oi h39
   refine Qx Z ?_
   refine Le.trans (QA (i := 5) (m := 1) Z) ?_
   exact Lr [0, 2, 5, 3, 1]
  ·obtain ⟨rfl, rfl⟩ := h41
   refine FE Z (TE 3 2 1 Z Z (FE Z (U 6 Z (Nx (Rg (U 5 Z (Bd h39 fun r70 hr70 h39 => Pc [] Z (Qj call144 Z Z Z Z) (k_b _ _ hr70) (hg := (gT Z)) Z (U 2 Z (Nx (CnF Z Z (TC.skip ?_)))))))))))
   obtain rfl := Oi h39
   refine Qx Z ?_
   refine Le.trans (QA (i := 5) (m := 1) Z) ?_
   exact Lr [0, 2, 5, 3, 1]
  ·obtain ⟨rfl, rfl⟩ := h41
   refine FE Z (U 6 Z (Nx (Rg (U 5 Z (Bd h39 fun r71 hr71 h39 => Pc [] Z (Qj call144 Z Z Z Z) (k_b _ _ hr71) (hg := (gT Z)) Z (U 2 Z (Nx (CnF Z Z (TC.skip ?_)))))))))
   obtain rfl := Oi h39
   refine Qx Z ?_
   refine Le.trans (QA (i := 4) (m := 1) Z) ?_
   refine Le.trans (Le.phantomE (i := 4) (m := 0) (t := 181) (b1 := 2) (b2 := 1) Z Z Z) ?_
   exact Lr [0, 2, 4, 5, 1]
  ·obtain ⟨rfl, rfl⟩ := h41
   refine FE Z (TE 3 2 1 Z Z (FE Z (U 6 Z (Nx (Rg (U 5 Z (Bd h39 fun r72 hr72 h39 => Pc [] Z (Qj call144 Z Z Z Z) (k_b _ _ hr72) (hg := (gT Z)) Z (U 2 Z (Nx (CnF Z Z (TC.skip ?_)))))))))))
   obtain rfl := Oi h39
   refine Qx Z ?_
   refine Le.trans (QA (i := 5) (m := 1) Z) ?_
   exact Lr [0, 2, 5, 3, 1]
  ·obtain ⟨rfl, rfl⟩ := h41
   refine FE Z (U 6 Z (Nx (Rg (U 8 Z (Nx (CnT Z Z (Rg (U 2 Z (Nx (TC.ret ?_))))))))))
   obtain rfl := Oi h39
   refine QF (Ql ?_)
   obtain rfl := Oi h
   refine R2 2 3 Z Z ?_
   refine Le.trans (Le.phantom (s := 2) (k := 1) (t := 3) (Nat.le_of_ble_eq_true Z) Z) ?_
   exact Lr [5]
 subst hb
 refine Qf (TC.le hle (Rg (U 1 Z (Nx (Rg (U 2 Z (Nx (TC.seq ?_))))))))
 obtain ⟨r73, hr73, h⟩ := bnd h
 refine QW 3 0 [31, 32, 33] [true, false, false] [[], [], []] [[], [0]] [[(0, 1)], [(0, 0), (1, 1)], [(0, 0), (1, 1)]] [.osl 6 0 4 3, .ptr 2 0, .osl 3 0 sb38.length 3] [[.cells 81 (Fact.c a1), .cells 81 (Fact.c a1), .cells 171 [.osl 3 0 sb38.length 3, .any], .ents 181 1 4 sb38, .cells 3 [I b2], .cells 81 (Fact.c z_Fact)], [.cells 81 (Fact.c a1), .cells 81 (Fact.c a1), .cells 171 [.osl 3 0 sb38.length 3, .any], .ents 181 1 4 sb38, .cells 3 [I b2], .cells 81 (Fact.c z_Fact), .rowr 181 3 [[.ptr 1 3, I 1, I 13], [.ptr 1 0, I 0, I 31], [.ptr 1 1, I 1, I 1048576], [.ptr 1 2, I 0, I 1099511627776]]]] ([.cells 81 (Fact.c a1), .cells 81 (Fact.c a1), .cells 171 [.osl 3 0 sb38.length 3, .any], .ents 181 1 4 sb38, .cells 3 [I b2], .cells 81 (Fact.c z_Fact), .rowr 181 3 [[.ptr 1 3, I 1, I 13], [.ptr 1 0, I 0, I 31], [.ptr 1 1, I 1, I 1048576], [.ptr 1 2, I 0, I 1099511627776]]]) draws Z Z Z Z Z Z Z ?_ Z ?_
 ·refine OblM.cons ?_ (OblM.cons (Qa (v0 Z Z) (Qa (v0 Z Z) (Qc))) (OblM.cons (Qa (v0 Z Z) (Qa (v0 Z Z) (Qc))) (OblM.nil)))
  ·refine Qa ?_ (Qc)
   ·refine Om1 Z (sO 5 sN) ?_
    refine Qe [1] (OpC.fn call84 Z Z Z) (k_aa _ _ _ hr73) ?_
    rintro _ _ ⟨rfl, rfl⟩
    exact FE Z Wp
 refine TE 6 1 4 Z Z (FE Z (Bd h fun l74 hl74 h => ?_))
 refine vH (Qeh (i := 6) (j := 3) hl74 Yx runUnderlying169 Z) ?_
 refine FE Z (U 1 Z (Nx (Rg (U 2 Z (Nx (Rg (U 6 Z (Nx (Rg (U 1 Z (Bd h fun r75 hr75 h => ?_)))))))))))
 refine Qe [5, 8, 0] (Qj call83 Z Z Z Z) (k_ay _ _ _ _ _ hr75) ?_
 rintro _ _ ⟨rfl, rfl⟩
 refine FE Z (U 1 Z (Nx (TC.seq (Rg (U 3 Z (Nx (Bd h fun b99 h100 h => ?_)))))))
 refine Qy (b := b99) (fun sb99 => [(1, .ptr 0 0), (2, .osl 1 0 sb99.1.length 1), (7, .ptr 2 0), (10, .ptr 3 0)]) (fun sb99 => [.cells 81 (Fact.c a1), .row 3 1 (List.map (encI .i64) sb99.1), .cells 81 (Fact.c sb99.2.1), .cells 3 [I sb99.2.2]]) ?_ (fun sb99 env H hbe hle => ?_)
 ·refine TC.block ?_
  refine TC.loop (E := fun s102 => [(1, .ptr 0 0), (2, .osl 1 0 s102.1.length 1), (7, .ptr 2 0), (10, .ptr 3 0), (11, .osl 4 0 r75.length 3), (42, .osl 5 0 l74.length 3), (43, I (l74.length : Int)), (44, I s102.2.2.2)]) (Hp := fun s102 => [.cells 81 (Fact.c a1), .row 3 1 (List.map (encI .i64) s102.1), .cells 81 (Fact.c s102.2.1), .cells 3 [I s102.2.2.1], .ents 181 2 3 r75, .ents 181 6 7 l74, .cells 81 (Fact.c a1), .cells 3 [I b2]]) h100 ?_ ?_
  ·refine Le.trans (Le.phantom (s := 2) (k := 1) (t := 3) (Nat.le_of_ble_eq_true Z) Z) ?_
   exact Lr [0, 10, 5, 8, 9, 7, 1, 4]
  intro s102 d103 h104 hb101
  refine Rg (U 1 Z (Nx (TC.seq (CnS Z h104 (fun hc105 h104 => ?_) (fun hc105 h104 => ?_)))))
  ·refine ExX (Qz h104 ?_)
   obtain rfl := hb101 _ (Oi h104).symm
   exact QQ (Qx Z (Lr [0, 1, 2, 3]))
  refine QU (TC.seq (TC.block (Rg (U 1 Z (Bd h104 fun e106 he106 h104 => ?_)))))
  refine vX (.ptr 5 (Int.toNat s102.2.2.2 * 3)) (Yo he106 Z runUnderlying169 sizeOf181) ?_
  refine vX (.agg [entP 6 7 e106, I e106.lo, I e106.hi]) (Qi Z isAgg181 sizeOf181 Z (Pts.ents (f := 0) (Qaw he106).2) Z Z) ?_
  refine U 3 Z (Nx (TC.seq (TC.seq ?_)))
  obtain ⟨x107, hx107, h104⟩ := bnd h104
  refine If h104 (fun hg108 h104 => ?_) (fun hg108 h104 => ?_)
  ·refine TC.draw0 16 [49, 50, 51, 52, 53, 54, 55, 56, 57, 58, 59, 60, 61, 62, 63, 64] [.ptr 8 0, entP 6 7 e106, entP 6 7 e106, I x107, .ptr 8 1, .ptr 8 1, I e106.lo, .bool (decide (x107 < e106.lo)), .bool (decide (x107 < e106.lo)), .tup [], .tup [], .tup [], .tup [], .tup [], .tup [], .tup []] draws Z Z Z ?_ ?_
   ·refine ov (ov (Oq.c ?_ (Oq.c ?_ (ov (ov (ov (Oq.c ?_ (ov (Oq.c ?_ (Oq.c ?_ (Oq.c ?_ (Oq.c ?_ (Oq.c ?_ (Oq.c ?_ (Oq.c ?_ (Oq.n))))))))))))))))
    ·refine Om Z (sD 1 sN) ?_
     exact S Z Wp
    ·refine Om Z (sD 2 sN) ?_
     refine vX (I x107) (QaU hx107 isAgg3) ?_
     exact Wp
    ·refine Om Z (sD 3 (sD 6 sN)) ?_
     exact S Z Wp
    ·refine Om Z (sO 13 (sD 8 sN)) ?_
     exact K (gF hg108) Z Wp
    ·refine Om Z (sD 8 (sD 9 sN)) ?_
     exact K (gF hg108) Z Wp
    ·refine Om Z (sD 8 (sD 10 sN)) ?_
     exact K (gF hg108) Z Wp
    ·refine Om Z (sD 8 (sD 11 sN)) ?_
     exact K (gF hg108) Z Wp
    ·refine Om Z (sO 13 (sD 8 sN)) ?_
     exact K (gF hg108) Z Wp
    ·refine Om Z (sD 8 (sD 13 sN)) ?_
     exact K (gF hg108) Z Wp
    ·refine Om Z (sD 8 (sD 14 sN)) ?_
     exact K (gF hg108) Z Wp
   refine KF hg108 Z (Pk hg108 Z (Nx (CnT Z Z (Rg (U 2 Z (Nx (RtR (Qm (Ql (QV h104 ?_))))))))))
   obtain rfl := hb101 _ (Oi h104).symm
   refine Qm (QF (Ql ?_))
   obtain rfl := Oi h
   refine R2 2 3 Z Z ?_
   refine Le.trans (Le.phantom (s := 2) (k := 1) (t := 3) (Nat.le_of_ble_eq_true Z) Z) ?_
   exact Lr [9]
  ·obtain ⟨x109, hx109, h104⟩ := bnd h104
   refine TC.draw0 16 [49, 50, 51, 52, 53, 54, 55, 56, 57, 58, 59, 60, 61, 62, 63, 64] [.ptr 8 0, entP 6 7 e106, entP 6 7 e106, I x107, .ptr 8 1, .ptr 8 1, I e106.lo, .bool (decide (x107 < e106.lo)), .bool (decide (x107 < e106.lo)), .ptr 8 0, entP 6 7 e106, entP 6 7 e106, I x109, .ptr 8 1, .ptr 8 2, I e106.hi] draws Z Z Z ?_ ?_
   ·refine ov (ov (Oq.c ?_ (Oq.c ?_ (ov (ov (ov (Oq.c ?_ (ov (Oq.c ?_ (Oq.c ?_ (Oq.c ?_ (Oq.c ?_ (Oq.c ?_ (Oq.c ?_ (Oq.c ?_ (Oq.n))))))))))))))))
    ·refine Om Z (sD 1 sN) ?_
     exact S Z Wp
    ·refine Om Z (sD 2 sN) ?_
     refine vX (I x107) (QaU hx107 isAgg3) ?_
     exact Wp
    ·refine Om Z (sD 3 (sD 6 sN)) ?_
     exact S Z Wp
    ·refine Om Z (sO 13 (sD 8 sN)) ?_
     exact QG (gT hg108) Qdq Z Wp
    ·refine Om Z (sD 8 (sD 9 sN)) ?_
     exact QO (gT hg108) isAgg175 Z Wp
    ·refine Om Z (sD 8 (sD 10 sN)) ?_
     exact Sg (gT hg108) Z Wp
    ·refine Om Z (sD 8 (sD 11 sN)) ?_
     refine vX (I x109) (QaU hx109 isAgg3) ?_ (gT hg108)
     exact Wp
    ·refine Om Z (sO 13 (sD 8 sN)) ?_
     exact QG (gT hg108) Qfh Z Wp
    ·refine Om Z (sD 8 (sD 13 sN)) ?_
     exact QG (gT hg108) QiD Z Wp
    ·refine Om Z (sD 8 (sD 14 sN)) ?_
     exact QO (gT hg108) isAgg3 Z Wp
   refine Sg (gT hg108) Z (Pk hg108 Z (Nx (Cn Z h104 (fun hc110 h104 => ?_) (fun hc110 h104 => ?_))))
   ·refine Rg (U 2 Z (Nx (RtR (Qm (Ql (QV h104 ?_))))))
    obtain rfl := hb101 _ (Oi h104).symm
    refine Qm (QF (Ql ?_))
    obtain rfl := Oi h
    refine R2 2 3 Z Z ?_
    refine Le.trans (Le.phantom (s := 2) (k := 1) (t := 3) (Nat.le_of_ble_eq_true Z) Z) ?_
    exact Lr [9]
   refine QU (TC.seq ?_)
   obtain ⟨e111, he111, h104⟩ := bnd h104
   obtain ⟨x112, hx112, h104⟩ := bnd h104
   refine TC.draw0 9 [67, 68, 69, 70, 71, 72, 73, 74, 75] [.osl 4 0 r75.length 3, I s102.2.2.2, .ptr 4 (Int.toNat s102.2.2.2 * 3), .ptr 4 (Int.toNat s102.2.2.2 * 3), entP 2 3 e111, .ptr 8 0, entP 6 7 e106, entP 6 7 e106, I x112] draws Z Z Z ?_ ?_
   ·refine ov (ov (Oq.c ?_ (Oq.c ?_ (Oq.c ?_ (ov (ov (Oq.c ?_ (Oq.c ?_ (Oq.n)))))))))
    ·refine Om Z (sD 0 (sD 1 sN)) ?_
     refine vX (.ptr 4 (Int.toNat s102.2.2.2 * 3)) (Yo he111 Z runUnderlying169 sizeOf181) ?_
     exact Wp
    ·refine Om Z (sD 2 sN) ?_
     exact Fp Qdq Z Wp
    ·refine Om Z (sD 3 sN) ?_
     refine vX (entP 2 3 e111) (OpV.load Z isAgg175 Z (Pts.ents (f := 0) (Qaw he111).2)) ?_
     exact Wp
    ·refine Om Z (sD 6 sN) ?_
     exact S Z Wp
    ·refine Om Z (sD 7 sN) ?_
     refine vX (I x112) (QaU hx112 isAgg3) ?_
     exact Wp
   refine S Z (Bd h104 fun q113 hq113 h104 => ?_)
   refine vU (Qgr (c := Fact.c) (f := s102.2.1) (f' := q113.1) (s' := q113.2) hq113 Qlr sizeOf3) ?_
   refine Qgl (H := [_, _, .cells 81 (Fact.c q113.1), .cells 3 [I q113.2], _, _, _, _, _]) Z ?_
   refine Nx (TC.region (U 3 Z (S Z (Bd h104 fun x114 hx114 h104 => ?_))))
   refine vX (I x114) (QaU hx114 isAgg3) ?_
   refine vH (OpH.lit (xs := [.tmp 81]) (es := List.map (encI .i64) [x114]) QK Z Z Z Z Z ⟨Z, trivial⟩ Z Z) ?_
   refine aV (.osl 9 0 ([x114].length) 1) [_, _, _, _, _, _, _, _, _, .row 3 1 (List.map (encI .i64) [x114])] Z Z ?_
   refine Bd h104 fun l115 hl115 h104 => ?_
   refine vH (QN (e := (encI .i64)) hl115 QK runUnderlying48 (Qay (i := 9))) ?_
   refine aV (.osl 10 0 l115.length 1) [_, .dead, _, _, _, _, _, _, _, _, .row 3 1 (List.map (encI .i64) l115)] Z Z ?_
   exact U 1 Z (WO.nil (QD (Qf (TC.region (U 2 Z (WO.nil (Qu h104 (Lr [0, 10, 2, 3, 4, 5, 6, 7]))))))))
 subst hbe
 refine Qf (TC.le hle (TC.seq (Rg (U 3 Z (Nx (Bd h fun b117 h118 h => ?_))))))
 refine TC.cut ([(1, .ptr 0 0), (2, .osl 1 0 sb99.1.length 1), (7, .ptr 2 0), (10, .ptr 3 0)]) ([.cells 81 (Fact.c a1), .row 3 1 (List.map (encI .i64) sb99.1), .cells 81 (Fact.c b117), .cells 3 [I sb99.2.2]]) ?_ (fun env H hle => ?_)
 ·refine Cn Z h118 (fun hc119 h118 => ?_) (fun hc119 h118 => ?_)
  ·refine TC.region (U 3 Z (WO.nil ?_))
   obtain rfl := Oi h118
   exact cutN (Lr [0, 1, 2, 3])
  refine TC.skip ?_
  obtain rfl := Oi h118
  exact cutN (Lr [0, 1, 2, 3])
 refine Qf (TC.le hle (Rg (U 5 Z (Nx (TC.seq ?_)))))
 refine TC.draw0 5 [94, 95, 96, 97, 2] [.osl 1 0 sb99.1.length 1, .agg (Fact.c ({ b117 with Appeal := { Case := b117.Appeal.Case, Suspends := (sb99.2.2 == 1) : Appeal } : Fact })), .agg (Fact.c a1), .bool (({ b117 with Appeal := { Case := b117.Appeal.Case, Suspends := (sb99.2.2 == 1) : Appeal } : Fact }) == a1), .osl 1 0 sb99.1.length 1] draws Z Z Z ?_ ?_
 ·refine Oq.c ?_ (ov (ov (Oq.c ?_ (ov (Oq.n)))))
  ·refine Om Z (sP 4 sN) ?_
   exact S Z Wp
  ·refine Om Z (sD 1 (sD 2 sN)) ?_
   refine vX (.bool (({ b117 with Appeal := { Case := b117.Appeal.Case, Suspends := (sb99.2.2 == 1) : Appeal } : Fact }) == a1)) (Qeg (p := { b117 with Appeal := { Case := b117.Appeal.Case, Suspends := (sb99.2.2 == 1) : Appeal } : Fact }) (q := a1) QlR Z Z) ?_
   exact Wp
 refine U 1 Z (Nx (TC.ret ?_))
 obtain rfl := Oi h
 exact R2 2 3 Z Z (Lr [1])
def F_z (n : Nat) (a1 : Fact) : Option Int :=
  (F_ae n a1).bind fun r1 => (bif (!r1.2) then some 120 else some 0)
theorem k_z (n : Nat) (a1 : Fact) (r : Int) (h : F_z n a1 = some r) :
    C prog 26 [.agg (Fact.c a1)] [] (fun a H => a = I r ∧ H = []) := by
 refine Qd func26 Z Z Z ?_
 refine Rg (U 2 Z (Nx (TC.seq (Rg (U 1 Z (Bd h fun r1 hr1 h => ?_))))))
 refine Qe [] (OpC.fn call49 Z Z Z) (k_ae _ _ _ hr1) ?_
 rintro _ _ ⟨rfl, rfl⟩
 refine FE Z (U 5 Z (Nx (Rg (U 2 Z (Nx (Cn Z h (fun hc2 h => ?_) (fun hc2 h => ?_)))))))
 ·refine Rg (U 1 Z (Nx (RtR ?_)))
  obtain rfl := Oi h
  exact R1 2 Z (Lr [])
 refine QU (Rg (U 1 Z (Nx (TC.ret ?_))))
 obtain rfl := Oi h
 exact R1 2 Z (Lr [])
def F_al (n : Nat) (a1 : Int) : Option Unit :=
  some ()
theorem k_al (n : Nat) (a1 : Int) (r : Unit) (h : F_al n a1 = some r) :
    C prog 67 [I a1] [] (fun a H => a = .bool (a1 != a1) ∧ H = []) := by
 refine Qd func67 Z Z Z ?_
 refine Rg (U 1 Z (Nx (Rg (U 4 Z (Nx (TC.ret ?_))))))
 obtain rfl := Oi h
 exact R1 2 Z (Lr [])
def F_l (n : Nat) (a1 : Int) (a2 : Int) : Option Int :=
  (F_al n a1).bind fun r1 => (F_al n a2).bind fun r2 => (bif (a1 != a1) then (bif (a2 != a2) then some 0 else some (-1)) else (bif (a2 != a2) then some 1 else (bif decide (a1 < a2) then some (-1) else (bif decide (a2 < a1) then some 1 else some 0))))
theorem k_l (n : Nat) (a1 : Int) (a2 : Int) (r : Int) (h : F_l n a1 a2 = some r) :
    C prog 41 [I a1, I a2] [] (fun a H => a = I r ∧ H = []) := by
 refine Qd func41 Z Z Z ?_
 refine Rg (U 1 Z (Nx (Rg (U 1 Z (Bd h fun r1 hr1 h => Pc [] Z (OpC.fn call67 Z Z Z) (k_al _ _ _ hr1) Z (U 1 Z (Nx (Rg (U 1 Z (Bd h fun r2 hr2 h => Pc [] Z (OpC.fn call67 Z Z Z) (k_al _ _ _ hr2) Z (U 1 Z (Nx (TC.seq (Rg (U 1 Z (Nx (Cn Z h (fun hc3 h => ?_) (fun hc3 h => ?_))))))))))))))))))
 ·refine TC.seq (Rg (U 1 Z (Nx (Cn Z h (fun hc4 h => ?_) (fun hc4 h => ?_)))))
  ·refine Rg (U 1 Z (Nx (RtR (Ql ?_))))
   obtain rfl := Oi h
   exact R1 4 Z (Lr [])
  refine QU (Rg (U 1 Z (Nx (RtR ?_))))
  obtain rfl := Oi h
  exact R1 4 Z (Lr [])
 refine QU (TC.seq (Rg (U 1 Z (Nx (Cn Z h (fun hc5 h => ?_) (fun hc5 h => ?_))))))
 ·refine Rg (U 1 Z (Nx (RtR ?_)))
  obtain rfl := Oi h
  exact R1 4 Z (Lr [])
 refine QU (TC.seq (Rg (U 3 Z (Nx (Cn Z h (fun hc6 h => ?_) (fun hc6 h => ?_))))))
 ·refine Rg (U 1 Z (Nx (RtR ?_)))
  obtain rfl := Oi h
  exact R1 4 Z (Lr [])
 refine QU (TC.seq (Rg (U 3 Z (Nx (Cn Z h (fun hc7 h => ?_) (fun hc7 h => ?_))))))
 ·refine Rg (U 1 Z (Nx (RtR ?_)))
  obtain rfl := Oi h
  exact R1 4 Z (Lr [])
 refine QU (Rg (U 1 Z (Nx (TC.ret ?_))))
 obtain rfl := Oi h
 exact R1 4 Z (Lr [])
def F_ai (n : Nat) (a1 : List Int) (s11 : Int) : Option (Ctl Int (Ctl Unit Int)) :=
  (bif decide (s11 < (a1.length : Int)) then (idx a1 s11).bind fun x15 => (bif (x15 != 0) then some (.done (.done x15)) else some (.cont (IntKind.i64.wrap (s11 + 1)))) else some (.done (.cont ())))
def F_w (n : Nat) (a1 : List Int) : Option Int :=
  (iter (F_ai n a1) n 0 : Option (Ctl Unit Int)).bind fun b8 => match b8 with | .cont sb8 => (some 0) | .done sb8 => some sb8
theorem k_w (n : Nat) (a1 : List Int) (r : Int) (h : F_w n a1 = some r) :
    C prog 40 [.rsl 1 (List.map (encI .i64) a1)] [] (fun a H => a = I r ∧ H = []) := by
 refine Qd func40 Z Z Z ?_
 refine Rg (U 1 Z (Nx (Rg (U 1 Z (Nx (TC.seq (Rg (U 1 Z (LnM runUnderlying48 Z (U 1 Z (Nx (Bd h fun b8 h9 h => ?_))))))))))))
 refine Qy (b := b8) (fun sb8 => [(3, I 0)]) (fun sb8 => []) ?_ (fun sb8 env H hbe hle => ?_)
 ·refine TC.block ?_
  refine TC.loop (E := fun s11 => [(3, I 0), (6, .rsl 1 (List.map (encI .i64) a1)), (7, I (a1.length : Int)), (8, I s11)]) (Hp := fun s11 => []) h9 ?_ ?_
  ·exact Lr []
  intro s11 d12 h13 hb10
  refine Rg (U 1 Z (Nx (TC.seq (CnS Z h13 (fun hc14 h13 => ?_) (fun hc14 h13 => ?_)))))
  ·refine ExX (Qz h13 ?_)
   obtain rfl := hb10 _ (Oi h13).symm
   exact QQ (Qx Z (Lr []))
  refine QU (TC.seq (TC.block (Rg (Bd h13 fun x15 hx15 h13 => Ix hx15 runUnderlying48 sizeOf3 Z (U 2 Z (Nx (Rg (U 3 Z (Nx (Cn Z h13 (fun hc16 h13 => ?_) (fun hc16 h13 => ?_)))))))))))
  ·refine Rg (U 2 Z (Nx (TC.ret (Qm (Ql (QV h13 ?_))))))
   obtain rfl := hb10 _ (Oi h13).symm
   refine Qm (QF (Ql ?_))
   obtain rfl := Oi h
   exact R1 2 Z (Lr [])
  exact TC.skip (QD (Qf (TC.region (U 2 Z (WO.nil (Qu h13 (Lr [])))))))
 subst hbe
 refine Qf (TC.le hle (Rg (U 2 Z (Nx (TC.ret ?_)))))
 obtain rfl := Oi h
 exact R1 2 Z (Lr [])
def F_fq (n : Nat) (a1 : Value) (rec137 : Value → Option (Int × Bool)) (s47 : Int × Int) : Option (Ctl (Int × Int) (Ctl Int (Int × Bool))) :=
  (bif decide (s47.2 < (a1.L.length : Int)) then (idx a1.L s47.2).bind fun x51 => (rec137 x51).bind fun r52 => (bif (!r52.2) then some (.done (.done (0, false))) else some (.cont ((if s47.1 < r52.1 then r52.1 else s47.1), IntKind.i64.wrap (s47.2 + 1)))) else some (.done (.cont s47.1)))
def B_j (rec137 : Value → Option (Int × Bool)) (n : Nat) (a1 : Value) : Option (Int × Bool) :=
  ((bif (a1.S == []) then (bif (a1.N == 0) then (arr 4 (List.replicate 4 false)).bind fun l16 => (arr 4 ([false, ((a1.L.length : Int) == 0), ((a1.L.length : Int) == 0), (a1.S == [])] : List Bool)).bind fun l17 => some l17 else (arr 4 (List.replicate 4 false)).bind fun l18 => (arr 4 ([false, ((a1.L.length : Int) == 0), false, false] : List Bool)).bind fun l19 => some l19) else (bif (a1.N == 0) then (arr 4 (List.replicate 4 false)).bind fun l21 => (arr 4 ([false, false, ((a1.L.length : Int) == 0), (a1.S == [])] : List Bool)).bind fun l22 => some l22 else (arr 4 (List.replicate 4 false)).bind fun l23 => (arr 4 ([false, false, false, false] : List Bool)).bind fun l24 => some l24)) : Option (List Bool)).bind fun b12 => ((bif decide (a1.Kind < 1) then some true else (bif decide (3 < a1.Kind) then some true else (idxA 4 b12 a1.Kind).bind fun x32 => some (!x32))) : Option Bool).bind fun b28 => (bif b28 then some (0, false) else (bif decide (a1.Kind < 3) then some (0, true) else (iter (F_fq n a1 rec137) n (0, 0) : Option (Ctl Int (Int × Bool))).bind fun b44 => match b44 with | .cont sb44 => (some (IntKind.i64.wrap (sb44 + 1), true)) | .done sb44 => some sb44))
theorem Qci (rec137 : Value → Option (Int × Bool)) (hrec137 : ∀ (a1 : Value) (r : Int × Bool), rec137 a1 = some r → C prog 200 [.agg (Value.c a1)] [] (fun a H => a = .tup [I r.1, .bool r.2] ∧ H = [])) (n : Nat) (a1 : Value) (r : Int × Bool) (h : B_j rec137 n a1 = some r) :
    C prog 200 [.agg (Value.c a1)] [] (fun a H => a = .tup [I r.1, .bool r.2] ∧ H = []) := by
 refine Qd func200 Z Z Z ?_
 refine Rg (U 3 Z (Nx (TC.seq (Bd h fun b12 h13 h => ?_))))
 refine TC.cut ([(1, .ptr 0 0), (2, I 0), (4, .ptr 1 0)]) ([.cells 184 (Value.c a1), .row 314 1 (List.map encB b12)]) ?_ (fun env H hle => ?_)
 ·refine TC.region (U 2 Z ?_)
  refine vX (.bool (a1.S == [])) (Qbr Z Z Z ) ?_
  refine U 1 Z (If h13 (fun hg14 h13 => ?_) (fun hg14 h13 => ?_))
  ·refine QG (gT hg14) QbY Z (QO (gT hg14) isAgg182 Z ?_)
   refine vX (I (a1.L.length : Int)) (Qk (e := Value.enc) (l := a1.L) runUnderlying182) ?_ (gT hg14)
   refine Sg (gT hg14) Z (Pk hg14 Z (U 4 Z (If h13 (fun hg15 h13 => ?_) (fun hg15 h13 => ?_))))
   ·refine QG (gT hg15) QbY Z (QO (gT hg15) isAgg182 Z ?_)
    refine vX (I (a1.L.length : Int)) (Qk (e := Value.enc) (l := a1.L) runUnderlying182) ?_ (gT hg15)
    refine Sg (gT hg15) Z (Pk hg15 Z (U 4 Z (QG (gT hg15) Qdo Z (QO (gT hg15) isAgg9 Z ?_))))
    refine vX (.bool (a1.S == [])) (Qbr Z Z Z ) ?_ (gT hg15)
    refine Pk hg15 Z ?_
    refine vV (x := (.agg (List.flatten (List.map encB ([false, ((a1.L.length : Int) == 0), ((a1.L.length : Int) == 0), (a1.S == [])] : List Bool))))) (YL (n := 4) (k := 1) (zs := [.bool false, .bool false, .bool false, .bool false]) zeroValue314 (ZR.agg (zc ZR.bool (zc ZR.bool (zc ZR.bool (zc ZR.bool ZL.nil))))) runUnderlying314 sizeOf4 Z) ?_
    refine vH (Yq (n := 4) (k := 1) (e := encB) (z := false) zeroValue314 (by kernel_rfl) (by kernel_rfl) (by kernel_rfl) Z) ?_
    refine FE Z (Bd h13 fun l16 hl16 h13 => Bd h13 fun l17 hl17 h13 => ?_)
    obtain ⟨hll16, rfl⟩ := Yy hl16
    refine vU (Yp (e := encB) (l := (List.replicate 4 false)) (l' := l17) hll16 (Qa0 hl17) (fun _ => rfl) Z sizeOf314 (fun _ => rfl) (fun _ => rfl) (congrArg (fun l => List.flatten (List.map encB l)) (Yy hl17).2.symm)) ?_
    refine FE Z (WO.nil ?_)
    obtain rfl := Oi h13
    exact cutN (Lr [0, 1])
   ·refine KF hg15 Z (KF hg15 Z (KF hg15 Z (KF hg15 Z (Pk hg15 Z (U 4 Z (KF hg15 Z (KF hg15 Z (KF hg15 Z (Pk hg15 Z ?_)))))))))
    refine vV (x := (.agg (List.flatten (List.map encB ([false, ((a1.L.length : Int) == 0), false, false] : List Bool))))) (YL (n := 4) (k := 1) (zs := [.bool false, .bool false, .bool false, .bool false]) zeroValue314 (ZR.agg (zc ZR.bool (zc ZR.bool (zc ZR.bool (zc ZR.bool ZL.nil))))) runUnderlying314 sizeOf4 Z) ?_
    refine vH (Yq (n := 4) (k := 1) (e := encB) (z := false) zeroValue314 (by kernel_rfl) (by kernel_rfl) (by kernel_rfl) Z) ?_
    refine FE Z (Bd h13 fun l18 hl18 h13 => Bd h13 fun l19 hl19 h13 => ?_)
    obtain ⟨hll18, rfl⟩ := Yy hl18
    refine vU (Yp (e := encB) (l := (List.replicate 4 false)) (l' := l19) hll18 (Qa0 hl19) (fun _ => rfl) Z sizeOf314 (fun _ => rfl) (fun _ => rfl) (congrArg (fun l => List.flatten (List.map encB l)) (Yy hl19).2.symm)) ?_
    refine FE Z (WO.nil ?_)
    obtain rfl := Oi h13
    exact cutN (Lr [0, 1])
  ·refine KF hg14 Z (KF hg14 Z (KF hg14 Z (KF hg14 Z (Pk hg14 Z (U 4 Z (If h13 (fun hg20 h13 => ?_) (fun hg20 h13 => ?_)))))))
   ·refine QG (gT hg20) QbY Z (QO (gT hg20) isAgg182 Z ?_)
    refine vX (I (a1.L.length : Int)) (Qk (e := Value.enc) (l := a1.L) runUnderlying182) ?_ (gT hg20)
    refine Sg (gT hg20) Z (Pk hg20 Z (U 4 Z (QG (gT hg20) Qdo Z (QO (gT hg20) isAgg9 Z ?_))))
    refine vX (.bool (a1.S == [])) (Qbr Z Z Z ) ?_ (gT hg20)
    refine Pk hg20 Z ?_
    refine vV (x := (.agg (List.flatten (List.map encB ([false, false, ((a1.L.length : Int) == 0), (a1.S == [])] : List Bool))))) (YL (n := 4) (k := 1) (zs := [.bool false, .bool false, .bool false, .bool false]) zeroValue314 (ZR.agg (zc ZR.bool (zc ZR.bool (zc ZR.bool (zc ZR.bool ZL.nil))))) runUnderlying314 sizeOf4 Z) ?_
    refine vH (Yq (n := 4) (k := 1) (e := encB) (z := false) zeroValue314 (by kernel_rfl) (by kernel_rfl) (by kernel_rfl) Z) ?_
    refine FE Z (Bd h13 fun l21 hl21 h13 => Bd h13 fun l22 hl22 h13 => ?_)
    obtain ⟨hll21, rfl⟩ := Yy hl21
    refine vU (Yp (e := encB) (l := (List.replicate 4 false)) (l' := l22) hll21 (Qa0 hl22) (fun _ => rfl) Z sizeOf314 (fun _ => rfl) (fun _ => rfl) (congrArg (fun l => List.flatten (List.map encB l)) (Yy hl22).2.symm)) ?_
    refine FE Z (WO.nil ?_)
    obtain rfl := Oi h13
    exact cutN (Lr [0, 1])
   ·refine KF hg20 Z (KF hg20 Z (KF hg20 Z (KF hg20 Z (Pk hg20 Z (U 4 Z (KF hg20 Z (KF hg20 Z (KF hg20 Z (Pk hg20 Z ?_)))))))))
    refine vX (.agg (List.flatten (List.map encB ([false, false, false, false] : List Bool)))) (YL (n := 4) (k := 1) (zs := [.bool false, .bool false, .bool false, .bool false]) zeroValue314 (ZR.agg (zc ZR.bool (zc ZR.bool (zc ZR.bool (zc ZR.bool ZL.nil))))) runUnderlying314 sizeOf4 Z) ?_
    refine vH (Yq (n := 4) (k := 1) (e := encB) (z := false) zeroValue314 (by kernel_rfl) (by kernel_rfl) (by kernel_rfl) Z) ?_
    refine FE Z (Bd h13 fun l23 hl23 h13 => Bd h13 fun l24 hl24 h13 => ?_)
    obtain ⟨hll23, rfl⟩ := Yy hl23
    refine vU (Yp (e := encB) (l := (List.replicate 4 false)) (l' := l24) hll23 (Qa0 hl24) (fun _ => rfl) Z sizeOf314 (fun _ => rfl) (fun _ => rfl) (congrArg (fun l => List.flatten (List.map encB l)) (Yy hl24).2.symm)) ?_
    refine FE Z (WO.nil ?_)
    obtain rfl := Oi h13
    exact cutN (Lr [0, 1])
 refine Qf (TC.le hle (TC.seq (TC.seq (Bd h fun b28 h29 h => ?_))))
 refine TC.cut ([(1, .ptr 0 0), (2, I 0), (50, .bool b28)]) ([.cells 184 (Value.c a1)]) ?_ (fun env H hle => ?_)
 ·refine TC.region (U 4 Z (If h29 (fun hg30 h29 => ?_) (fun hg30 h29 => ?_)))
  ·refine KF hg30 Z (KF hg30 Z (KF hg30 Z (Pk hg30 Z (U 7 Z (WO.nil ?_)))))
   obtain rfl := Oi h29
   exact cutN (Lr [0])
  ·refine QG (gT hg30) Qdp Z (QO (gT hg30) isAgg3 Z (Sg (gT hg30) Z (Pk hg30 Z (U 1 Z (If h29 (fun hg31 h29 => ?_) (fun hg31 h29 => ?_))))))
   ·refine KF hg31 Z (KF hg31 Z (KF hg31 Z (KF hg31 Z (KF hg31 Z (Pk hg31 Z (WO.nil ?_))))))
    obtain rfl := Oi h29
    exact cutN (Lr [0])
   ·refine QG (gT hg31) Qdp Z (QO (gT hg31) isAgg3 Z (Bd h29 fun x32 hx32 h29 => ?_))
    refine vX (.ptr 1 (Int.toNat a1.Kind * 1)) (Qad (n := 4) (k := 1) (l := b12) hx32 runUnderlying314 sizeOf4 Z) ?_ (gT hg31)
    refine vX (.bool x32) (OpV.load Z isAgg4 Z (QL (QaE hx32).2)) ?_ (gT hg31)
    refine Sg (gT hg31) Z (Pk hg31 Z (WO.nil ?_))
    obtain rfl := Oi h29
    exact cutN (Lr [0])
 refine Qf (TC.le hle (Cn Z h (fun hc33 h => ?_) (fun hc33 h => ?_)))
 ·refine Rg (U 2 Z (Nx (RtR ?_)))
  obtain rfl := Oi h
  exact R2 2 3 Z Z (Lr [])
 refine QU (TC.seq (Rg (U 3 Z (Nx (Cn Z h (fun hc34 h => ?_) (fun hc34 h => ?_))))))
 ·refine Rg (U 2 Z (Nx (RtR ?_)))
  obtain rfl := Oi h
  exact R2 2 3 Z Z (Lr [])
 refine QU (TC.seq (Rg (U 2 Z (LnM runUnderlying182 Z (U 1 Z (Nx (Bd h fun b44 h45 h => ?_)))))))
 refine Qy (b := b44) (fun sb44 => [(2, I sb44)]) (fun sb44 => []) ?_ (fun sb44 env H hbe hle => ?_)
 ·refine TC.block ?_
  refine TC.loop (E := fun s47 => [(2, I s47.1), (55, .rsl 4 (List.map Value.enc a1.L)), (56, I (a1.L.length : Int)), (57, I s47.2)]) (Hp := fun s47 => []) h45 ?_ ?_
  ·exact Lr []
  intro s47 d48 h49 hb46
  refine Rg (U 1 Z (Nx (TC.seq (CnS Z h49 (fun hc50 h49 => ?_) (fun hc50 h49 => ?_)))))
  ·refine ExX (Qz h49 ?_)
   obtain rfl := hb46 _ (Oi h49).symm
   exact QQ (Qx Z (Lr []))
  refine QU (TC.seq (TC.block (Rg (Bd h49 fun x51 hx51 h49 => ?_))))
  refine vX (.rp [I x51.Kind, I x51.N, .str x51.S, .rsl 4 (List.map Value.enc x51.L)]) (Q7 (e := Value.enc) hx51 (Qa2 x51) runUnderlying182 sizeOf184) ?_
  refine U 3 Z (Nx (Rg (U 1 Z (Bd h49 fun r52 hr52 h49 => ?_))))
  refine Qe [] (OpC.fn call200 Z Z Z) (hrec137 _ _ hr52) ?_
  rintro _ _ ⟨rfl, rfl⟩
  refine FE Z (U 5 Z (Nx (TC.seq (Rg (U 2 Z (Nx (Cn Z h49 (fun hc53 h49 => ?_) (fun hc53 h49 => ?_))))))))
  ·refine Rg (U 2 Z (Nx (RtR (Qm (Ql (QV h49 ?_))))))
   obtain rfl := hb46 _ (Oi h49).symm
   refine Qm (QF (Ql ?_))
   obtain rfl := Oi h
   exact R2 2 3 Z Z (Lr [])
  refine QU (TC.region (U 2 Z ?_))
  refine vX (I (if s47.1 < r52.1 then r52.1 else s47.1)) (OpV.max Z Z Z Z) ?_
  exact U 1 Z (WO.nil (QD (Qf (TC.region (U 2 Z (WO.nil (Qu h49 (Lr []))))))))
 subst hbe
 refine Qf (TC.le hle (Rg (U 4 Z (Nx (TC.ret ?_)))))
 obtain rfl := Oi h
 exact R2 2 3 Z Z (Lr [])
def F_j : Nat → Value → Option (Int × Bool)
  | 0 => fun _ => none
  | n + 1 => B_j (F_j n) n
theorem k_j (n : Nat) : ∀ (a1 : Value) (r : Int × Bool), F_j n a1 = some r → C prog 200 [.agg (Value.c a1)] [] (fun a H => a = .tup [I r.1, .bool r.2] ∧ H = []) := by
  induction n with
  | zero => intro a1 r h; cases h
  | succ n ih => intro a1 r h; exact Qci _ ih n a1 r h
def F_ey (n : Nat) (a1 : Value) : Option Int :=
  (F_j n a1).bind fun r1 => (bif (!r1.2) then some 1 else (bif decide (16 < r1.1) then some 2 else some 0))
theorem k_ey (n : Nat) (a1 : Value) (r : Int) (h : F_ey n a1 = some r) :
    C prog 149 [.agg (Value.c a1)] [] (fun a H => a = I r ∧ H = []) := by
 refine Qd func149 Z Z Z ?_
 refine Rg (U 2 Z (Nx (Rg (U 1 Z (Bd h fun r1 hr1 h => ?_)))))
 refine Qe [] (OpC.fn call200 Z Z Z) (k_j _ _ _ hr1) ?_
 rintro _ _ ⟨rfl, rfl⟩
 refine FE Z (U 5 Z (Nx (TC.seq (TC.block (Rg (U 3 Z (Nx (Cn Z h (fun hc2 h => ?_) (fun hc2 h => ?_)))))))))
 ·refine Rg (U 1 Z (Nx (TC.ret (Qm (Ql ?_)))))
  obtain rfl := Oi h
  exact R1 2 Z (Lr [])
 refine Rg (U 3 Z (Nx (Cn Z h (fun hc3 h => ?_) (fun hc3 h => ?_))))
 ·refine Rg (U 1 Z (Nx (TC.ret (Qm (Ql ?_)))))
  obtain rfl := Oi h
  exact R1 2 Z (Lr [])
 refine TC.skip (QD (Qf (Rg (U 1 Z (Nx (TC.ret ?_))))))
 obtain rfl := Oi h
 exact R1 2 Z (Lr [])
def F_as (n : Nat) : Option Unit :=
  some ()
theorem k_as (n : Nat) (r : Unit) (h : F_as n = some r) :
    C prog 150 [] [] (fun a H => a = .ptr 0 0 ∧ H = [.cells 284 [.nilf, .fn (.func 201) [] [], .fn (.func 204) [] [], .fn (.func 205) [] [.ptr 1 0]], .cells 249 [.ptr 0 0]]) := by
 refine Qd func150 Z Z Z ?_
 refine Rg (S Z (Nx (Rg ?_)))
 refine vX (.agg [.nilf, .nilf, .nilf, .nilf]) (YL (n := 4) (k := 1) (parts := []) (zs := [.nilf, .nilf, .nilf, .nilf]) zeroValue284 (ZR.agg (zc ZR.nilf (zc ZR.nilf (zc ZR.nilf (zc ZR.nilf ZL.nil))))) runUnderlying284 sizeOf248 Z) ?_
 refine U 3 Z (Nx (Rg (U 2 Z ?_)))
 refine vX (.ptr 0 1) (Yd (i := 1) (n := 4) (k := 1) (j := 1) (by decide) Z runUnderlying284 sizeOf248 Z) ?_
 refine U 2 Z (Nx (Rg (U 2 Z ?_)))
 refine vX (.ptr 0 2) (Yd (i := 2) (n := 4) (k := 1) (j := 2) (by decide) Z runUnderlying284 sizeOf248 Z) ?_
 refine U 2 Z (Nx (Rg (U 3 Z ?_)))
 refine vX (.ptr 0 3) (Yd (i := 3) (n := 4) (k := 1) (j := 3) (by decide) Z runUnderlying284 sizeOf248 Z) ?_
 refine U 2 Z (Nx (Rg (U 2 Z (Nx (TC.ret ?_)))))
 obtain rfl := Oi h
 exact R1 0 Z (Lr [0, 1])
def F_am (n : Nat) (a1 : Int) : Option Unit :=
  some ()
theorem k_am (n : Nat) (a1 : Int) (r : Unit) (h : F_am n a1 = some r) :
    C prog 203 [I a1] [] (fun a H => a = .int .u64 (xorI .u64 (shlI .u64 (IntKind.u64.wrap a1) 1) (IntKind.u64.wrap (shrI .i64 a1 63))) ∧ H = []) := by
 refine Qd func203 Z Z Z ?_
 refine Rg (U 1 Z (Nx (Rg (U 1 Z ?_))))
 refine vX (.int .u64 (IntKind.u64.wrap a1)) (Qak Z runUnderlying3 runUnderlying281 Z) ?_
 refine vX (.int .u64 (shlI .u64 (IntKind.u64.wrap a1) 1)) (OpV.shl Z Z Z (by decide)) ?_
 refine U 1 Z ?_
 refine vX (I (shrI .i64 a1 63)) (OpV.shr Z Z Z (by decide)) ?_
 refine vX (.int .u64 (IntKind.u64.wrap (shrI .i64 a1 63))) (Qak Z runUnderlying3 runUnderlying281 Z) ?_
 refine vX (.int .u64 (xorI .u64 (shlI .u64 (IntKind.u64.wrap a1) 1) (IntKind.u64.wrap (shrI .i64 a1 63)))) (OpV.xor Z Z Z) ?_
 refine U 1 Z (Nx (TC.ret ?_))
 obtain rfl := Oi h
 exact R1 2 Z (Lr [])
def F_cv (n : Nat) (s9 : (List Int) × Int) : Option (Ctl ((List Int) × Int) ((List Int) × Int)) :=
  (bif decide (128 ≤ s9.2) then (app s9.1 [orI .u8 (IntKind.u8.wrap s9.2) 128]).bind fun l13 => some (.cont (l13, shrI .u64 s9.2 7)) else some (.done (s9.1, s9.2)))
def F_p (n : Nat) (a1 : List Int) (a2 : Int) : Option (List Int) :=
  (iter (F_cv n) n (a1, a2) : Option ((List Int) × Int)).bind fun b6 => (app b6.1 [IntKind.u8.wrap b6.2]).bind fun l14 => some l14
theorem k_p (n : Nat) (a1 : List Int) (a2 : Int) (r : List Int) (h : F_p n a1 a2 = some r) :
    C prog 202 [.osl 0 0 a1.length 1, .int .u64 a2] [.row 5 1 (List.map (encI .u8) a1)] (fun a H => a = .osl 1 0 r.length 1 ∧ H = [.dead, .row 5 1 (List.map (encI .u8) r)]) := by
 refine Qd func202 Z Z Z ?_
 refine Rg (U 1 Z (Nx (TC.seq (Bd h fun b6 h7 h => ?_))))
 refine TC.cut ([(0, .osl 1 0 b6.1.length 1), (1, .int .u64 b6.2)]) ([.dead, .row 5 1 (List.map (encI .u8) b6.1)]) ?_ (fun env H hle => ?_)
 ·refine TC.block ?_
  refine TC.loop (E := fun s9 => [(0, .osl 1 0 s9.1.length 1), (1, .int .u64 s9.2)]) (Hp := fun s9 => [.dead, .row 5 1 (List.map (encI .u8) s9.1)]) h7 ?_ ?_
  ·refine Le.trans (QhN (s := 0) (i := 0) Z Z Z) ?_
   exact Lr [0, 1]
  intro s9 d10 h11 hb8
  refine TC.seq (Rg (U 2 Z (Nx (CnS Z h11 (fun hc12 h11 => ?_) (fun hc12 h11 => ?_)))))
  ·refine ExX (Qz h11 ?_)
   obtain rfl := hb8 _ (Oi h11).symm
   exact QQ (cutN (Lr [0, 1]))
  refine QU (TC.seq (TC.block (TC.region (U 2 Z ?_))))
  refine vX (.int .u8 (IntKind.u8.wrap s9.2)) (Qak Z runUnderlying281 runUnderlying5 Z) ?_
  refine vX (.int .u8 (orI .u8 (IntKind.u8.wrap s9.2) 128)) (OpV.or Z Z Z) ?_
  refine vH (OpH.lit (xs := [.tmp 12]) (es := List.map (encI .u8) [orI .u8 (IntKind.u8.wrap s9.2) 128]) Yh Z Z Z Z Z ⟨Z, trivial⟩ Z Z) ?_
  refine FE Z (Bd h11 fun l13 hl13 h11 => ?_)
  refine vH (QN (e := (encI .u8)) hl13 Yh runUnderlying118 (Qay (i := 2))) ?_
  refine FE Z (U 1 Z (WO.nil (QD (Qf (TC.region (U 1 Z ?_))))))
  refine vX (.int .u64 (shrI .u64 s9.2 7)) (OpV.shr Z Z Z (by decide)) ?_
  exact U 1 Z (WO.nil (Qu h11 (Lr [0, 3])))
 refine Qf (TC.le hle (Rg (U 2 Z ?_)))
 refine vX (.int .u8 (IntKind.u8.wrap b6.2)) (Qak Z runUnderlying281 runUnderlying5 Z) ?_
 refine vH (OpH.lit (xs := [.tmp 17]) (es := List.map (encI .u8) [IntKind.u8.wrap b6.2]) Yh Z Z Z Z Z ⟨Z, trivial⟩ Z Z) ?_
 refine FE Z (Bd h fun l14 hl14 h => ?_)
 refine vH (QN (e := (encI .u8)) hl14 Yh runUnderlying118 (Qay (i := 2))) ?_
 refine FE Z (U 1 Z (Nx (TC.ret ?_)))
 obtain rfl := Oi h
 exact R1 4 Z (Lr [0, 3])
def F_fh (n : Nat) (a1 : Value) : Option (List Int) :=
  (app [] [1]).bind fun l1 => (F_am n a1.N).bind fun r2 => (F_p n l1 (xorI .u64 (shlI .u64 (IntKind.u64.wrap a1.N) 1) (IntKind.u64.wrap (shrI .i64 a1.N 63)))).bind fun r3 => some r3
theorem k_fh (n : Nat) (a1 : Value) (r : List Int) (h : F_fh n a1 = some r) :
    C prog 201 [.nils, .agg (Value.c a1)] [] (fun a H => a = .osl 0 0 r.length 1 ∧ H = [.row 5 1 (List.map (encI .u8) r)]) := by
 refine Qd func201 Z Z Z ?_
 refine Rg (U 2 Z (Nx (TC.seq ?_)))
 obtain ⟨l1, hl1, h⟩ := bnd h
 refine QW 5 0 [5, 6, 7, 8, 9] [false, false, true, false, false] [[], [], [], [], []] [[], [2]] [[(0, 0), (1, 1)], [(0, 0), (1, 1)], [(0, 1)], [(0, 0), (1, 1)], [(0, 0), (1, 1)]] [.nils, .rsl 1 (List.map (encI .u8) [1]), .osl 1 0 l1.length 1, .ptr 0 1, I a1.N] [[.cells 184 (Value.c a1)], [.cells 184 (Value.c a1), .row 5 1 (List.map (encI .u8) l1)]] ([.cells 184 (Value.c a1), .row 5 1 (List.map (encI .u8) l1)]) draws Z Z Z Z Z Z Z ?_ Z ?_
 ·refine OblM.cons (Qa (v0 Z Z) (Qa (v0 Z Z) (Qc))) (OblM.cons ?_ (OblM.cons ?_ (OblM.cons (Qa (v0 Z Z) (Qa (v0 Z Z) (Qc))) (OblM.cons (Qa (v0 Z Z) (Qa (v0 Z Z) (Qc))) (OblM.nil)))))
  ·refine Qa ?_ (Qa ?_ (Qc))
   ·refine Om Z sN ?_
    refine vH (QX (xs := [.const (.int .u8 1)]) (es := List.map (encI .u8) [1]) Yh Z Z Z Z Z ⟨Z, trivial⟩ Z Z) ?_
    exact FE Z Wp
   ·refine Om Z sN ?_
    refine vH (QX (xs := [.const (.int .u8 1)]) (es := List.map (encI .u8) [1]) Yh Z Z Z Z Z ⟨Z, trivial⟩ Z Z) ?_
    exact FE Z Wp
  ·refine Qa ?_ (Qc)
   ·refine Om1 Z (sD 0 (sD 1 sN)) ?_
    refine vH (QfK (e := (encI .u8)) hl1 Yh runUnderlying118 QbH) ?_
    exact FE Z Wp
 refine Bd h fun r2 hr2 h => Pc [] Z (OpC.fn call203 Z Z Z) (k_am _ _ _ hr2) Z (Bd h fun r3 hr3 h => ?_)
 refine Qe [1] (OpC.fn call202 Z Z Z) (k_p _ _ _ _ hr3) ?_
 rintro _ _ ⟨rfl, rfl⟩
 refine FE Z (U 1 Z (Nx (TC.ret ?_)))
 obtain rfl := Oi h
 exact R1 4 Z (Lr [2])
def F_af (n : Nat) (a1 : List Int) (a2 : Value) : Option (List Int) :=
  (app a1 [1]).bind fun l1 => (F_am n a2.N).bind fun r2 => (F_p n l1 (xorI .u64 (shlI .u64 (IntKind.u64.wrap a2.N) 1) (IntKind.u64.wrap (shrI .i64 a2.N 63)))).bind fun r3 => some r3
theorem k_af (n : Nat) (a1 : List Int) (a2 : Value) (r : List Int) (h : F_af n a1 a2 = some r) :
    C prog 201 [.osl 0 0 a1.length 1, .agg (Value.c a2)] [.row 5 1 (List.map (encI .u8) a1)] (fun a H => a = .osl 1 0 r.length 1 ∧ H = [.dead, .row 5 1 (List.map (encI .u8) r)]) := by
 refine Qd func201 Z Z Z ?_
 refine Rg (U 2 Z (Nx (TC.seq ?_)))
 obtain ⟨l1, hl1, h⟩ := bnd h
 refine QW 5 0 [5, 6, 7, 8, 9] [false, false, true, false, false] [[], [], [], [], []] [[], [2]] [[(0, 0), (1, 1)], [(0, 0), (1, 1)], [(0, 1)], [(0, 0), (1, 1)], [(0, 0), (1, 1)]] [.osl 0 0 a1.length 1, .rsl 1 (List.map (encI .u8) [1]), .osl 2 0 l1.length 1, .ptr 1 1, I a2.N] [[.row 5 1 (List.map (encI .u8) a1), .cells 184 (Value.c a2)], [.dead, .cells 184 (Value.c a2), .row 5 1 (List.map (encI .u8) l1)]] ([.dead, .cells 184 (Value.c a2), .row 5 1 (List.map (encI .u8) l1)]) draws Z Z Z Z Z Z Z ?_ Z ?_
 ·refine OblM.cons (Qa (v0 Z Z) (Qa (v0 Z Z) (Qc))) (OblM.cons ?_ (OblM.cons ?_ (OblM.cons (Qa (v0 Z Z) (Qa (v0 Z Z) (Qc))) (OblM.cons (Qa (v0 Z Z) (Qa (v0 Z Z) (Qc))) (OblM.nil)))))
  ·refine Qa ?_ (Qa ?_ (Qc))
   ·refine Om Z sN ?_
    refine vH (QX (xs := [.const (.int .u8 1)]) (es := List.map (encI .u8) [1]) Yh Z Z Z Z Z ⟨Z, trivial⟩ Z Z) ?_
    exact FE Z Wp
   ·refine Om Z sN ?_
    refine vH (QX (xs := [.const (.int .u8 1)]) (es := List.map (encI .u8) [1]) Yh Z Z Z Z Z ⟨Z, trivial⟩ Z Z) ?_
    exact FE Z Wp
  ·refine Qa ?_ (Qc)
   ·refine Om1 Z (sD 0 (sD 1 sN)) ?_
    refine vH (QN (e := (encI .u8)) hl1 Yh runUnderlying118 QbH) ?_
    exact FE Z Wp
 refine Bd h fun r2 hr2 h => Pc [] Z (OpC.fn call203 Z Z Z) (k_am _ _ _ hr2) Z (Bd h fun r3 hr3 h => ?_)
 refine Qe [2] (OpC.fn call202 Z Z Z) (k_p _ _ _ _ hr3) ?_
 rintro _ _ ⟨rfl, rfl⟩
 refine FE Z (U 1 Z (Nx (TC.ret ?_)))
 obtain rfl := Oi h
 exact R1 4 Z (Lr [0, 3])
def F_gb (n : Nat) (a2 : Value) (rec146 : (List Int) → Value → Option (List Int)) (s23 : (List Int) × Int) : Option (Ctl ((List Int) × Int) (List Int)) :=
  (bif decide (s23.2 < (a2.L.length : Int)) then (idx a2.L s23.2).bind fun x27 => (bif (x27.Kind == 0) then none else (bif (x27.Kind == 1) then (F_af n s23.1 x27).bind fun r30 => some (.cont (r30, IntKind.i64.wrap (s23.2 + 1))) else (bif (x27.Kind == 2) then none else (bif (x27.Kind == 3) then (rec146 s23.1 x27).bind fun r33 => some (.cont (r33, IntKind.i64.wrap (s23.2 + 1))) else none)))) else some (.done s23.1))
def B_ad (rec146 : (List Int) → Value → Option (List Int)) (n : Nat) (a1 : List Int) (a2 : Value) : Option (List Int) :=
  (app a1 [3]).bind fun l1 => (F_p n l1 (IntKind.u64.wrap (a2.L.length : Int))).bind fun r2 => (iter (F_gb n a2 rec146) n (r2, 0) : Option (List Int)).bind fun b20 => some b20
theorem QaB (rec146 : (List Int) → Value → Option (List Int)) (hrec146 : ∀ (a1 : List Int) (a2 : Value) (r : List Int), rec146 a1 a2 = some r → C prog 205 [.osl 0 0 a1.length 1, .agg (Value.c a2), .ptr 1 0] [.row 5 1 (List.map (encI .u8) a1), .cells 249 [.ptr 2 0], .cells 284 [.nilf, .fn (.func 201) [] [], .fn (.func 204) [] [], .fn (.func 205) [] [.ptr 1 0]]] (fun a H => a = .osl 3 0 r.length 1 ∧ H = [.dead, .cells 249 [.ptr 2 0], .cells 284 [.nilf, .fn (.func 201) [] [], .fn (.func 204) [] [], .fn (.func 205) [] [.ptr 1 0]], .row 5 1 (List.map (encI .u8) r)])) (n : Nat) (a1 : List Int) (a2 : Value) (r : List Int) (h : B_ad rec146 n a1 a2 = some r) :
    C prog 205 [.osl 0 0 a1.length 1, .agg (Value.c a2), .ptr 1 0] [.row 5 1 (List.map (encI .u8) a1), .cells 249 [.ptr 2 0], .cells 284 [.nilf, .fn (.func 201) [] [], .fn (.func 204) [] [], .fn (.func 205) [] [.ptr 1 0]]] (fun a H => a = .osl 3 0 r.length 1 ∧ H = [.dead, .cells 249 [.ptr 2 0], .cells 284 [.nilf, .fn (.func 201) [] [], .fn (.func 204) [] [], .fn (.func 205) [] [.ptr 1 0]], .row 5 1 (List.map (encI .u8) r)]) := by
 refine Qd func205 Z Z Z ?_
 refine Rg (U 2 Z (Nx (TC.seq ?_)))
 obtain ⟨l1, hl1, h⟩ := bnd h
 refine QW 7 0 [8, 9, 10, 11, 12, 13, 14] [false, false, true, false, false, false, false] [[], [], [], [], [], [], []] [[], [2]] [[(0, 0), (1, 1)], [(0, 0), (1, 1)], [(0, 1)], [(0, 0), (1, 1)], [(0, 0), (1, 1)], [(0, 0), (1, 1)], [(0, 0), (1, 1)]] [.osl 0 0 a1.length 1, .rsl 1 (List.map (encI .u8) [3]), .osl 4 0 l1.length 1, .ptr 3 3, .rsl 4 (List.map Value.enc a2.L), I (a2.L.length : Int), .int .u64 (IntKind.u64.wrap (a2.L.length : Int))] [[.row 5 1 (List.map (encI .u8) a1), .cells 249 [.ptr 2 0], .cells 284 [.nilf, .fn (.func 201) [] [], .fn (.func 204) [] [], .fn (.func 205) [] [.ptr 1 0]], .cells 184 (Value.c a2)], [.dead, .cells 249 [.ptr 2 0], .cells 284 [.nilf, .fn (.func 201) [] [], .fn (.func 204) [] [], .fn (.func 205) [] [.ptr 1 0]], .cells 184 (Value.c a2), .row 5 1 (List.map (encI .u8) l1)]] ([.dead, .cells 249 [.ptr 2 0], .cells 284 [.nilf, .fn (.func 201) [] [], .fn (.func 204) [] [], .fn (.func 205) [] [.ptr 1 0]], .cells 184 (Value.c a2), .row 5 1 (List.map (encI .u8) l1)]) draws Z Z Z Z Z Z Z ?_ Z ?_
 ·refine OblM.cons (Qa (v0 Z Z) (Qa (v0 Z Z) (Qc))) (OblM.cons ?_ (OblM.cons ?_ (OblM.cons (Qa (v0 Z Z) (Qa (v0 Z Z) (Qc))) (OblM.cons (Qa (v0 Z Z) (Qa (v0 Z Z) (Qc))) (OblM.cons ?_ (OblM.cons ?_ (OblM.nil)))))))
  ·refine Qa ?_ (Qa ?_ (Qc))
   ·refine Om Z sN ?_
    refine vH (QX (xs := [.const (.int .u8 3)]) (es := List.map (encI .u8) [3]) Yh Z Z Z Z Z ⟨Z, trivial⟩ Z Z) ?_
    exact FE Z Wp
   ·refine Om Z sN ?_
    refine vH (QX (xs := [.const (.int .u8 3)]) (es := List.map (encI .u8) [3]) Yh Z Z Z Z Z ⟨Z, trivial⟩ Z Z) ?_
    exact FE Z Wp
  ·refine Qa ?_ (Qc)
   ·refine Om1 Z (sD 0 (sD 1 sN)) ?_
    refine vH (QN (e := (encI .u8)) hl1 Yh runUnderlying118 QbH) ?_
    exact FE Z Wp
  ·refine Qa ?_ (Qa ?_ (Qc))
   ·refine Om Z (sD 4 sN) ?_
    exact LnM runUnderlying182 Z Wp
   ·refine Om Z (sD 4 sN) ?_
    exact LnM runUnderlying182 Z Wp
  ·refine Qa ?_ (Qa ?_ (Qc))
   ·refine Om Z (sD 5 sN) ?_
    refine vX (.int .u64 (IntKind.u64.wrap (a2.L.length : Int))) (Qak Z runUnderlying3 runUnderlying281 Z) ?_
    exact Wp
   ·refine Om Z (sD 5 sN) ?_
    refine vX (.int .u64 (IntKind.u64.wrap (a2.L.length : Int))) (Qak Z runUnderlying3 runUnderlying281 Z) ?_
    exact Wp
 refine Bd h fun r2 hr2 h => ?_
 refine Qe [4] (OpC.fn call202 Z Z Z) (k_p _ _ _ _ hr2) ?_
 rintro _ _ ⟨rfl, rfl⟩
 refine FE Z (U 1 Z (Nx (TC.seq (Rg (U 2 Z (LnM runUnderlying182 Z (U 1 Z (Nx (Bd h fun b20 h21 h => ?_)))))))))
 refine TC.cut ([(0, .osl 3 0 b20.length 1)]) ([.dead, .cells 249 [.ptr 2 0], .cells 284 [.nilf, .fn (.func 201) [] [], .fn (.func 204) [] [], .fn (.func 205) [] [.ptr 1 0]], .row 5 1 (List.map (encI .u8) b20)]) ?_ (fun env H hle => ?_)
 ·refine TC.block ?_
  refine TC.loop (E := fun s23 => [(0, .osl 3 0 s23.1.length 1), (2, .ptr 1 0), (17, .rsl 4 (List.map Value.enc a2.L)), (18, I (a2.L.length : Int)), (19, I s23.2)]) (Hp := fun s23 => [.dead, .cells 249 [.ptr 2 0], .cells 284 [.nilf, .fn (.func 201) [] [], .fn (.func 204) [] [], .fn (.func 205) [] [.ptr 1 0]], .row 5 1 (List.map (encI .u8) s23.1)]) h21 ?_ ?_
  ·exact Lr [0, 1, 2, 5]
  intro s23 d24 h25 hb22
  refine Rg (U 1 Z (Nx (TC.seq (CnS Z h25 (fun hc26 h25 => ?_) (fun hc26 h25 => ?_)))))
  ·refine ExX (Qz h25 ?_)
   obtain rfl := hb22 _ (Oi h25).symm
   exact QQ (cutN (Lr [0, 1, 2, 3]))
  refine QU (TC.seq (TC.block (Rg (Bd h25 fun x27 hx27 h25 => ?_))))
  refine vX (.rp [I x27.Kind, I x27.N, .str x27.S, .rsl 4 (List.map Value.enc x27.L)]) (Q7 (e := Value.enc) hx27 (Qa2 x27) runUnderlying182 sizeOf184) ?_
  refine U 3 Z (Nx ?_)
  refine If h25 (fun hg28 h25 => ?_) (fun hg28 h25 => ?_)
  ·cases h25
  ·refine If h25 (fun hg29 h25 => ?_) (fun hg29 h25 => ?_)
   ·refine TC.draw0 9 [23, 24, 25, 26, 27, 28, 29, 30, 31] [.ptr 2 0, .ptr 4 0, I x27.Kind, .ptr 2 0, .ptr 2 1, .ptr 2 1, .fn (.func 201) [] [], .osl 3 0 s23.1.length 1, .agg (Value.c x27)] draws Z Z Z ?_ ?_
    ·refine ov (ov (ov (Oq.c ?_ (Oq.c ?_ (ov (ov (ov (ov (Oq.n)))))))))
     ·refine Om Z (sD 0 sN) ?_
      exact S Z Wp
     ·refine Om Z (sD 2 (sD 3 sN)) ?_
      refine vX (.ptr 2 1) (Yd (i := x27.Kind) (n := 4) (k := 1) (j := 1) hg29 Z runUnderlying284 sizeOf248 Z) ?_
      exact Wp
    refine Bd h25 fun r30 hr30 h25 => ?_
    refine Qe [3] (Qj call201 Z Z Z Z) (k_af _ _ _ _ hr30) ?_
    rintro _ _ ⟨rfl, rfl⟩
    exact FE Z (U 1 Z (WO.nil (QD (Qf (TC.region (U 2 Z (WO.nil (Qu h25 (Lr [0, 1, 2, 5])))))))))
   ·refine If h25 (fun hg31 h25 => ?_) (fun hg31 h25 => ?_)
    ·cases h25
    ·refine If h25 (fun hg32 h25 => ?_) (fun hg32 h25 => ?_)
     ·refine TC.draw0 9 [23, 24, 25, 26, 27, 28, 29, 30, 31] [.ptr 2 0, .ptr 4 0, I x27.Kind, .ptr 2 0, .ptr 2 3, .ptr 2 3, .fn (.func 205) [] [.ptr 1 0], .osl 3 0 s23.1.length 1, .agg (Value.c x27)] draws Z Z Z ?_ ?_
      ·refine ov (ov (ov (Oq.c ?_ (Oq.c ?_ (ov (ov (ov (ov (Oq.n)))))))))
       ·refine Om Z (sD 0 sN) ?_
        exact S Z Wp
       ·refine Om Z (sD 2 (sD 3 sN)) ?_
        refine vX (.ptr 2 3) (Yd (i := x27.Kind) (n := 4) (k := 1) (j := 3) hg32 Z runUnderlying284 sizeOf248 Z) ?_
        exact Wp
      refine Bd h25 fun r33 hr33 h25 => ?_
      refine Qe [3, 1, 2] (Qj call205 Z Z Z Z) (hrec146 _ _ _ hr33) ?_
      rintro _ _ ⟨rfl, rfl⟩
      exact FE Z (U 1 Z (WO.nil (QD (Qf (TC.region (U 2 Z (WO.nil (Qu h25 (Lr [0, 1, 2, 5])))))))))
     ·cases h25
 refine Qf (TC.le hle (Rg (U 2 Z (Nx (TC.ret ?_)))))
 obtain rfl := Oi h
 exact R1 5 Z (Lr [0, 1, 2, 3])
def F_ad : Nat → (List Int) → Value → Option (List Int)
  | 0 => fun _ _ => none
  | n + 1 => B_ad (F_ad n) n
theorem k_ad (n : Nat) : ∀ (a1 : List Int) (a2 : Value) (r : List Int), F_ad n a1 a2 = some r → C prog 205 [.osl 0 0 a1.length 1, .agg (Value.c a2), .ptr 1 0] [.row 5 1 (List.map (encI .u8) a1), .cells 249 [.ptr 2 0], .cells 284 [.nilf, .fn (.func 201) [] [], .fn (.func 204) [] [], .fn (.func 205) [] [.ptr 1 0]]] (fun a H => a = .osl 3 0 r.length 1 ∧ H = [.dead, .cells 249 [.ptr 2 0], .cells 284 [.nilf, .fn (.func 201) [] [], .fn (.func 204) [] [], .fn (.func 205) [] [.ptr 1 0]], .row 5 1 (List.map (encI .u8) r)]) := by
  induction n with
  | zero => intro a1 a2 r h; cases h
  | succ n ih => intro a1 a2 r h; exact QaB _ ih n a1 a2 r h
def F_fn (n : Nat) (a1 : Value) (s23 : (List Int) × Int) : Option (Ctl ((List Int) × Int) (List Int)) :=
  (bif decide (s23.2 < (a1.L.length : Int)) then (idx a1.L s23.2).bind fun x27 => (bif (x27.Kind == 0) then none else (bif (x27.Kind == 1) then (F_af n s23.1 x27).bind fun r30 => some (.cont (r30, IntKind.i64.wrap (s23.2 + 1))) else (bif (x27.Kind == 2) then none else (bif (x27.Kind == 3) then (F_ad n s23.1 x27).bind fun r33 => some (.cont (r33, IntKind.i64.wrap (s23.2 + 1))) else none)))) else some (.done s23.1))
def F_ap (n : Nat) (a1 : Value) : Option (List Int) :=
  (app [] [3]).bind fun l1 => (F_p n l1 (IntKind.u64.wrap (a1.L.length : Int))).bind fun r2 => (iter (F_fn n a1) n (r2, 0) : Option (List Int)).bind fun b20 => some b20
theorem k_ap (n : Nat) (a1 : Value) (r : List Int) (h : F_ap n a1 = some r) :
    C prog 205 [.nils, .agg (Value.c a1), .ptr 0 0] [.cells 249 [.ptr 1 0], .cells 284 [.nilf, .fn (.func 201) [] [], .fn (.func 204) [] [], .fn (.func 205) [] [.ptr 0 0]]] (fun a H => a = .osl 2 0 r.length 1 ∧ H = [.cells 249 [.ptr 1 0], .cells 284 [.nilf, .fn (.func 201) [] [], .fn (.func 204) [] [], .fn (.func 205) [] [.ptr 0 0]], .row 5 1 (List.map (encI .u8) r)]) := by
 refine Qd func205 Z Z Z ?_
 refine Rg (U 2 Z (Nx (TC.seq ?_)))
 obtain ⟨l1, hl1, h⟩ := bnd h
 refine QW 7 0 [8, 9, 10, 11, 12, 13, 14] [false, false, true, false, false, false, false] [[], [], [], [], [], [], []] [[], [2]] [[(0, 0), (1, 1)], [(0, 0), (1, 1)], [(0, 1)], [(0, 0), (1, 1)], [(0, 0), (1, 1)], [(0, 0), (1, 1)], [(0, 0), (1, 1)]] [.nils, .rsl 1 (List.map (encI .u8) [3]), .osl 3 0 l1.length 1, .ptr 2 3, .rsl 4 (List.map Value.enc a1.L), I (a1.L.length : Int), .int .u64 (IntKind.u64.wrap (a1.L.length : Int))] [[.cells 249 [.ptr 1 0], .cells 284 [.nilf, .fn (.func 201) [] [], .fn (.func 204) [] [], .fn (.func 205) [] [.ptr 0 0]], .cells 184 (Value.c a1)], [.cells 249 [.ptr 1 0], .cells 284 [.nilf, .fn (.func 201) [] [], .fn (.func 204) [] [], .fn (.func 205) [] [.ptr 0 0]], .cells 184 (Value.c a1), .row 5 1 (List.map (encI .u8) l1)]] ([.cells 249 [.ptr 1 0], .cells 284 [.nilf, .fn (.func 201) [] [], .fn (.func 204) [] [], .fn (.func 205) [] [.ptr 0 0]], .cells 184 (Value.c a1), .row 5 1 (List.map (encI .u8) l1)]) draws Z Z Z Z Z Z Z ?_ Z ?_
 ·refine OblM.cons (Qa (v0 Z Z) (Qa (v0 Z Z) (Qc))) (OblM.cons ?_ (OblM.cons ?_ (OblM.cons (Qa (v0 Z Z) (Qa (v0 Z Z) (Qc))) (OblM.cons (Qa (v0 Z Z) (Qa (v0 Z Z) (Qc))) (OblM.cons ?_ (OblM.cons ?_ (OblM.nil)))))))
  ·refine Qa ?_ (Qa ?_ (Qc))
   ·refine Om Z sN ?_
    refine vH (QX (xs := [.const (.int .u8 3)]) (es := List.map (encI .u8) [3]) Yh Z Z Z Z Z ⟨Z, trivial⟩ Z Z) ?_
    exact FE Z Wp
   ·refine Om Z sN ?_
    refine vH (QX (xs := [.const (.int .u8 3)]) (es := List.map (encI .u8) [3]) Yh Z Z Z Z Z ⟨Z, trivial⟩ Z Z) ?_
    exact FE Z Wp
  ·refine Qa ?_ (Qc)
   ·refine Om1 Z (sD 0 (sD 1 sN)) ?_
    refine vH (QfK (e := (encI .u8)) hl1 Yh runUnderlying118 QbH) ?_
    exact FE Z Wp
  ·refine Qa ?_ (Qa ?_ (Qc))
   ·refine Om Z (sD 4 sN) ?_
    exact LnM runUnderlying182 Z Wp
   ·refine Om Z (sD 4 sN) ?_
    exact LnM runUnderlying182 Z Wp
  ·refine Qa ?_ (Qa ?_ (Qc))
   ·refine Om Z (sD 5 sN) ?_
    refine vX (.int .u64 (IntKind.u64.wrap (a1.L.length : Int))) (Qak Z runUnderlying3 runUnderlying281 Z) ?_
    exact Wp
   ·refine Om Z (sD 5 sN) ?_
    refine vX (.int .u64 (IntKind.u64.wrap (a1.L.length : Int))) (Qak Z runUnderlying3 runUnderlying281 Z) ?_
    exact Wp
 refine Bd h fun r2 hr2 h => ?_
 refine Qe [3] (OpC.fn call202 Z Z Z) (k_p _ _ _ _ hr2) ?_
 rintro _ _ ⟨rfl, rfl⟩
 refine FE Z (U 1 Z (Nx (TC.seq (Rg (U 2 Z (LnM runUnderlying182 Z (U 1 Z (Nx (Bd h fun b20 h21 h => ?_)))))))))
 refine TC.cut ([(0, .osl 2 0 b20.length 1)]) ([.cells 249 [.ptr 1 0], .cells 284 [.nilf, .fn (.func 201) [] [], .fn (.func 204) [] [], .fn (.func 205) [] [.ptr 0 0]], .row 5 1 (List.map (encI .u8) b20)]) ?_ (fun env H hle => ?_)
 ·refine TC.block ?_
  refine TC.loop (E := fun s23 => [(0, .osl 2 0 s23.1.length 1), (2, .ptr 0 0), (17, .rsl 4 (List.map Value.enc a1.L)), (18, I (a1.L.length : Int)), (19, I s23.2)]) (Hp := fun s23 => [.cells 249 [.ptr 1 0], .cells 284 [.nilf, .fn (.func 201) [] [], .fn (.func 204) [] [], .fn (.func 205) [] [.ptr 0 0]], .row 5 1 (List.map (encI .u8) s23.1)]) h21 ?_ ?_
  ·exact Lr [0, 1, 4]
  intro s23 d24 h25 hb22
  refine Rg (U 1 Z (Nx (TC.seq (CnS Z h25 (fun hc26 h25 => ?_) (fun hc26 h25 => ?_)))))
  ·refine ExX (Qz h25 ?_)
   obtain rfl := hb22 _ (Oi h25).symm
   exact QQ (cutN (Lr [0, 1, 2]))
  refine QU (TC.seq (TC.block (Rg (Bd h25 fun x27 hx27 h25 => ?_))))
  refine vX (.rp [I x27.Kind, I x27.N, .str x27.S, .rsl 4 (List.map Value.enc x27.L)]) (Q7 (e := Value.enc) hx27 (Qa2 x27) runUnderlying182 sizeOf184) ?_
  refine U 3 Z (Nx ?_)
  refine If h25 (fun hg28 h25 => ?_) (fun hg28 h25 => ?_)
  ·cases h25
  ·refine If h25 (fun hg29 h25 => ?_) (fun hg29 h25 => ?_)
   ·refine TC.draw0 9 [23, 24, 25, 26, 27, 28, 29, 30, 31] [.ptr 1 0, .ptr 3 0, I x27.Kind, .ptr 1 0, .ptr 1 1, .ptr 1 1, .fn (.func 201) [] [], .osl 2 0 s23.1.length 1, .agg (Value.c x27)] draws Z Z Z ?_ ?_
    ·refine ov (ov (ov (Oq.c ?_ (Oq.c ?_ (ov (ov (ov (ov (Oq.n)))))))))
     ·refine Om Z (sD 0 sN) ?_
      exact S Z Wp
     ·refine Om Z (sD 2 (sD 3 sN)) ?_
      refine vX (.ptr 1 1) (Yd (i := x27.Kind) (n := 4) (k := 1) (j := 1) hg29 Z runUnderlying284 sizeOf248 Z) ?_
      exact Wp
    refine Bd h25 fun r30 hr30 h25 => ?_
    refine Qe [2] (Qj call201 Z Z Z Z) (k_af _ _ _ _ hr30) ?_
    rintro _ _ ⟨rfl, rfl⟩
    exact FE Z (U 1 Z (WO.nil (QD (Qf (TC.region (U 2 Z (WO.nil (Qu h25 (Lr [0, 1, 4])))))))))
   ·refine If h25 (fun hg31 h25 => ?_) (fun hg31 h25 => ?_)
    ·cases h25
    ·refine If h25 (fun hg32 h25 => ?_) (fun hg32 h25 => ?_)
     ·refine TC.draw0 9 [23, 24, 25, 26, 27, 28, 29, 30, 31] [.ptr 1 0, .ptr 3 0, I x27.Kind, .ptr 1 0, .ptr 1 3, .ptr 1 3, .fn (.func 205) [] [.ptr 0 0], .osl 2 0 s23.1.length 1, .agg (Value.c x27)] draws Z Z Z ?_ ?_
      ·refine ov (ov (ov (Oq.c ?_ (Oq.c ?_ (ov (ov (ov (ov (Oq.n)))))))))
       ·refine Om Z (sD 0 sN) ?_
        exact S Z Wp
       ·refine Om Z (sD 2 (sD 3 sN)) ?_
        refine vX (.ptr 1 3) (Yd (i := x27.Kind) (n := 4) (k := 1) (j := 3) hg32 Z runUnderlying284 sizeOf248 Z) ?_
        exact Wp
      refine Bd h25 fun r33 hr33 h25 => ?_
      refine Qe [2, 0, 1] (Qj call205 Z Z Z Z) (k_ad _ _ _ _ hr33) ?_
      rintro _ _ ⟨rfl, rfl⟩
      exact FE Z (U 1 Z (WO.nil (QD (Qf (TC.region (U 2 Z (WO.nil (Qu h25 (Lr [0, 1, 4])))))))))
     ·cases h25
 refine Qf (TC.le hle (Rg (U 2 Z (Nx (TC.ret ?_)))))
 obtain rfl := Oi h
 exact R1 5 Z (Lr [0, 1, 2])
end Go.Sw
