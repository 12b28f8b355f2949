/- What the functions compute that ChipsFirst reaches, and that their calls refine it (part 1 of 3). -/
import Derived.Test.YtkjlhfabbbomjaaGreatDoorW18FiB
set_option linter.unusedVariables false
set_option linter.unusedSimpArgs false
set_option maxRecDepth 100000
set_option maxHeartbeats 4000000
namespace Go.Sw
open Go.Proofs Tryz
def F_ay (n : Nat) (a1 : Int) (a2 : Int) (a3 : Int) : Option Unit :=
  some ()
theorem k_ay (n : Nat) (a1 : Int) (a2 : Int) (a3 : Int) (r : Unit) (h : F_ay n a1 a2 a3 = some r) :
    C prog 29 [I a1, I a2, I a3] [] (RQ (fun _ => .agg (Fact.c ({ z_Fact with No := 1, At := a1, Kind := 1, Starter := { z_Starter with Bib := a2, Chip := a3 : Starter } : Fact }))) (fun _ => [.cells 81 (Fact.c ({ z_Fact with No := 1, At := a1, Kind := 1, Starter := { z_Starter with Bib := a2, Chip := a3 : Starter } : Fact }))]) r) := by
 refine Qb func29 Z Z Z ?_
 refine G0 16 Z ?_
 obtain rfl := Oi h
 exact Rx [0] [6] Z (YH Z (Qj isAgg81 sizeOf81 Z Z Z)) ⟨Z, Z⟩
def F_bg (n : Nat) : Option Unit :=
  some ()
theorem k_bg (n : Nat) (r : Unit) (h : F_bg n = some r) :
    C prog 30 [] [] (RQ (fun _ => .agg [.str [115, 97, 109, 112, 108, 101], .osl 0 0 ([{ Name := [108, 105, 110, 101], Kind := 1 : Mat }, { Name := [102, 105, 110, 105, 115, 104], Kind := 3 : Mat }].length) 2, .osl 1 0 ([{ From := 0, To := 1, Min := 10, Max := 100 : Leg }].length) 4, .osl 2 0 ([{ Name := [98, 114, 105, 101, 102], Route := [z_Part, { z_Part with Mat := 1 : Part }], Timing := 1, Cutoffs := [], Extra := (-1) : Distance }].length) 5, .osl 3 0 ([{ Name := [101, 108, 105, 116, 101], Gun := 0 : Wave }].length) 2, .rsl 4 (List.map Offence.c []), .rsl 3 (List.map Category.c []), .rsl 4 (List.map Prize.c []), .osl 4 0 ([{ z_Step with Kind := 1, By := 4 : Step }].length) 8, I 0, I 0, I 0, I 0, I 0, I 0, I 0]) (fun _ => [.row 96 2 (List.map Mat.c [{ Name := [108, 105, 110, 101], Kind := 1 : Mat }, { Name := [102, 105, 110, 105, 115, 104], Kind := 3 : Mat }]), .row 123 4 (List.map Leg.c [{ From := 0, To := 1, Min := 10, Max := 100 : Leg }]), .row 94 5 (List.map Distance.c [{ Name := [98, 114, 105, 101, 102], Route := [z_Part, { z_Part with Mat := 1 : Part }], Timing := 1, Cutoffs := [], Extra := (-1) : Distance }]), .row 127 2 (List.map Wave.c [{ Name := [101, 108, 105, 116, 101], Gun := 0 : Wave }]), .row 132 8 (List.map Step.enc [{ z_Step with Kind := 1, By := 4 : Step }]), .cells 33 [.str [115, 97, 109, 112, 108, 101], .osl 0 0 ([{ Name := [108, 105, 110, 101], Kind := 1 : Mat }, { Name := [102, 105, 110, 105, 115, 104], Kind := 3 : Mat }].length) 2, .osl 1 0 ([{ From := 0, To := 1, Min := 10, Max := 100 : Leg }].length) 4, .osl 2 0 ([{ Name := [98, 114, 105, 101, 102], Route := [z_Part, { z_Part with Mat := 1 : Part }], Timing := 1, Cutoffs := [], Extra := (-1) : Distance }].length) 5, .osl 3 0 ([{ Name := [101, 108, 105, 116, 101], Gun := 0 : Wave }].length) 2, .rsl 4 (List.map Offence.c []), .rsl 3 (List.map Category.c []), .rsl 4 (List.map Prize.c []), .osl 4 0 ([{ z_Step with Kind := 1, By := 4 : Step }].length) 8, I 0, I 0, I 0, I 0, I 0, I 0, I 0]]) r) := by
 refine Qb func30 Z Z Z ?_
 refine G0 9 Z ?_
 refine vH (OpH.lit (xs := [.tmp 1, .tmp 2]) (es := List.map Mat.c [{ Name := [108, 105, 110, 101], Kind := 1 : Mat }, { Name := [102, 105, 110, 105, 115, 104], Kind := 3 : Mat }]) el_22 Z Z Z Z Z ⟨Z, Z, trivial⟩ Z Z) ?_
 refine FE Z (Go 1 Z ?_)
 refine vH (OpH.lit (xs := [.tmp 4]) (es := List.map Leg.c [{ From := 0, To := 1, Min := 10, Max := 100 : Leg }]) el_23 Z Z Z Z Z ⟨Z, trivial⟩ Z Z) ?_
 refine FE Z (Go 2 Z ?_)
 refine vH (OpH.lit (xs := [.tmp 6, .tmp 7]) (es := List.map Part.enc [z_Part, { z_Part with Mat := 1 : Part }]) el_91 Z Z Z Z Z ⟨Z, Z, trivial⟩ Z Z) ?_
 refine FE Z (Go 1 Z ?_)
 refine WO.le (QaW [(8, _), (9, _)] Z Z (FzOv.cons Z FzA.o (FzOv.cons Z (FzA.agg (FzL.cons (FzA.refl _) (FzL.cons FzA.o (FzL.refl _)))) FzOv.nil)) (FzH.keep (FzH.keep (FzH.keep (FzH.keep (YJ _)))))) ?_
 refine vH (OpH.lit (xs := [.tmp 9]) (es := List.map Distance.c [{ Name := [98, 114, 105, 101, 102], Route := [z_Part, { z_Part with Mat := 1 : Part }], Timing := 1, Cutoffs := [], Extra := (-1) : Distance }]) el_24 Z Z Z Z Z ⟨Z, trivial⟩ Z Z) ?_
 refine FE Z (Go 1 Z ?_)
 refine vH (OpH.lit (xs := [.tmp 11]) (es := List.map Wave.c [{ Name := [101, 108, 105, 116, 101], Gun := 0 : Wave }]) el_25 Z Z Z Z Z ⟨Z, trivial⟩ Z Z) ?_
 refine FE Z (Go 1 Z ?_)
 refine vH (OpH.lit (xs := [.tmp 13]) (es := List.map Step.enc [{ z_Step with Kind := 1, By := 4 : Step }]) el_29 Z Z Z Z Z ⟨Z, trivial⟩ Z Z) ?_
 refine FE Z (Go 5 Z ?_)
 obtain rfl := Oi h
 exact Rx [1,2,4,5,6,0] [0] Z (YH Z (Qj isAgg33 sizeOf33 Z Z Z)) ⟨Z, Z⟩
def F_ak (n : Nat) (a1 : List Part) (a2 : Int) (rec8 : (List Part) -> Int -> Option (Int × Int)) (s47 : Int × Int × Int) : Option (Ctl (Int × Int × Int) (Int × Int)) :=
  (bif decide (s47.2.2 < (a1.length : Int)) then ((idx a1 s47.2.2).bind fun x62 => ((bif ((x62.Parts.length : Int) == 0) then some true else (bif (a2 == 0) then some true else some (decide (256 < s47.2.1)))) : Option Bool).bind fun b65 => (bif b65 then some (s47.1, s47.2.1) else (rec8 x62.Parts (IntKind.i64.wrap (a2 - 1))).bind fun r70 => some ((if s47.1 < IntKind.i64.wrap (r70.1 + 1) then IntKind.i64.wrap (r70.1 + 1) else s47.1), IntKind.i64.wrap (s47.2.1 + r70.2))) : Option (Int × Int)).bind fun b60 => some (.cont (b60.1, b60.2, IntKind.i64.wrap (s47.2.2 + 1))) else some (.done (s47.1, s47.2.1)))
def B_d (rec8 : (List Part) -> Int -> Option (Int × Int)) (n : Nat) (a1 : List Part) (a2 : Int) : Option (Int × Int) :=
  (iter (F_ak n a1 a2 rec8) n (0, (a1.length : Int), 0) : Option (Int × Int)).bind fun b44 => some (b44.1, b44.2)
theorem Qck (rec8 : (List Part) -> Int -> Option (Int × Int)) (hrec8 : ∀ (a1 : List Part) (a2 : Int) (r : Int × Int), rec8 a1 a2 = some r -> Csm prog 87 [.rsl 3 (List.map Part.enc a1), I a2] [] (fun r => .tup [I r.1, I r.2]) r) (n : Nat) (a1 : List Part) (a2 : Int) (r : Int × Int) (h : B_d rec8 n a1 a2 = some r) :
    Csm prog 87 [.rsl 3 (List.map Part.enc a1), I a2] [] (fun r => .tup [I r.1, I r.2]) r := by
 refine Qb func87 Z Z Z ?_
 refine G0 9 Z (Lm Z (Go 7 Z (Lm Z (Go 3 Z (Bd h fun b44 h45 h => ?_)))))
 refine Ct b44 [] [] (fun b44 => [(4, I b44.1), (5, I b44.2)]) (fun _ => []) (fun _ => rfl) ?_ (fun env H hle => ?_)
 ·refine G0 1 Z ?_
  refine Lp [] [1,12,13] (fun s47 => [(4, I s47.1), (5, I s47.2.1), (14, I s47.2.2)]) (fun _ => []) h45 (fun _ => rfl) (Lr []) fun s47 d48 h49 hb46 => ?_
  refine G0 6 Z (Q1 Z h49 (fun hc50 h49 => ?_) (fun hc50 h49 => ?_))
  ·refine Gc 2 Z (Qg h49 ?_)
   obtain rfl := Oj hb46 h49
   exact Gx 1 Z (Qt (Lr []))
  refine Gc 3 Z (Bd h49 fun b60 h61 h49 => ?_)
  refine Ct b60 [] [1,12,13,14] (fun b60 => [(4, I b60.1), (5, I b60.2)]) (fun _ => []) (fun _ => rfl) ?_ (fun env H hle => ?_)
  ·refine G0 3 Z (Bd h61 fun x62 hx62 h61 => IzE hx62 (QB x62) Z (Go 7 Z (Bd h61 fun b65 h66 h61 => ?_)))
   refine Ct b65 [0] [1,4,5,7,12,13,14] (fun b65 => [(29, .bool b65)]) (fun _ => []) (fun _ => rfl) ?_ (fun env H hle => ?_)
   ·refine G0 3 Z (Lm Z (Go 2 Z (Is 22 h66 Z (fun hg67 h66 => ?_) (fun hg67 h66 => ?_))))
    ·exact Go 8 Z (Cl h66 [0])
    ·refine Go 4 Z (Is 26 h66 Z (fun hg68 h66 => ?_) (fun hg68 h66 => ?_))
     ·exact Go 4 Z (Cl h66 [0])
     ·exact Go 4 Z (Cl h66 [0])
   refine Gx 1 Z (TC.le hle (Cn Z h61 (fun hc69 h61 => ?_) (fun hc69 h61 => ?_)))
   ·exact Gc 3 Z (Cl h61 [])
   refine Gc 8 Z (Cd [] h61 (hrec8 _ _) Z fun r70 hr70 h61 => FE Z (Go 11 Z ?_))
   refine vX (I (if s47.1 < IntKind.i64.wrap (r70.1 + 1) then IntKind.i64.wrap (r70.1 + 1) else s47.1)) (OpV.max Z Z Z Z) ?_
   exact Go 7 Z (Cl h61 [])
  exact Gx 1 Z (TC.le hle (Gc 4 Z (Qf h49 (Lr []))))
 refine Gx 1 Z (TC.le hle (Gc 9 Z ?_))
 obtain rfl := Oi h
 exact R2 4 5 Z Z (Lr [])
def F_d : Nat -> (List Part) -> Int -> Option (Int × Int)
  | 0 => fun _ _ => none
  | n + 1 => B_d (F_d n) n
theorem k_d (n : Nat) : ∀ (a1 : List Part) (a2 : Int) (r : Int × Int), F_d n a1 a2 = some r -> Csm prog 87 [.rsl 3 (List.map Part.enc a1), I a2] [] (fun r => .tup [I r.1, I r.2]) r := by
  induction n with
  | zero => intro a1 a2 r h; cases h
  | succ n ih => intro a1 a2 r h; exact Qck _ ih n a1 a2 r h
def F_ds (n : Nat) (a1 : Course) (s40 : Int) : Option (Ctl Int (Ctl Unit Bool)) :=
  (bif decide (s40 < (a1.Distances.length : Int)) then (idx a1.Distances s40).bind fun x44 => (F_d n x44.Route 17).bind fun r45 => ((bif decide (64 < (x44.Cutoffs.length : Int)) then some true else (bif decide (16 < r45.1) then some true else some (decide (256 < r45.2)))) : Option Bool).bind fun b48 => (bif b48 then some (.done (.done false)) else some (.cont (IntKind.i64.wrap (s40 + 1)))) else some (.done (.cont ())))
def F_aw (n : Nat) (a1 : Course) : Option Bool :=
  ((bif decide (40 < (a1.Mats.length : Int)) then some true else (bif decide (512 < (a1.Legs.length : Int)) then some true else (bif decide (8 < (a1.Distances.length : Int)) then some true else (bif decide (32 < (a1.Waves.length : Int)) then some true else (bif decide (32 < (a1.Offences.length : Int)) then some true else (bif decide (32 < (a1.Categories.length : Int)) then some true else some (decide (32 < (a1.Prizes.length : Int))))))))) : Option Bool).bind fun b7 => (bif b7 then some false else (iter (F_ds n a1) n 0 : Option (Ctl Unit Bool)).bind fun b37 => match b37 with | .cont sb37 => (some true) | .done sb37 => some sb37)
theorem k_aw (n : Nat) (a1 : Course) (r : Bool) (h : F_aw n a1 = some r) :
    Csm prog 53 [.agg (Course.c a1)] [] (fun r => .bool r) r := by
 refine Qb func53 Z Z Z ?_
 refine G0 8 Z (Bd h fun b7 h8 h => ?_)
 refine Ct b7 [0] [1] (fun b7 => [(46, .bool b7)]) (fun _ => []) (fun _ => rfl) ?_ (fun env H hle => ?_)
 ·refine G0 3 Z (Lm Z (Go 2 Z (Is 11 h8 Z (fun hg9 h8 => ?_) (fun hg9 h8 => ?_))))
  ·exact Go 36 Z (Cl h8 [0])
  ·refine Go 2 Z (Lm Z (Go 3 Z (Is 17 h8 Z (fun hg10 h8 => ?_) (fun hg10 h8 => ?_))))
   ·exact Go 30 Z (Cl h8 [0])
   ·refine Go 2 Z (Lm Z (Go 3 Z (Is 23 h8 Z (fun hg11 h8 => ?_) (fun hg11 h8 => ?_))))
    ·exact Go 24 Z (Cl h8 [0])
    ·refine Go 2 Z (Lm Z (Go 3 Z (Is 29 h8 Z (fun hg12 h8 => ?_) (fun hg12 h8 => ?_))))
     ·exact Go 18 Z (Cl h8 [0])
     ·refine Go 2 Z (Lm Z (Go 3 Z (Is 35 h8 Z (fun hg13 h8 => ?_) (fun hg13 h8 => ?_))))
      ·exact Go 12 Z (Cl h8 [0])
      ·refine Go 2 Z (Lm Z (Go 3 Z (Is 41 h8 Z (fun hg14 h8 => ?_) (fun hg14 h8 => ?_))))
       ·exact Go 6 Z (Cl h8 [0])
       ·exact Go 2 Z (Lm Z (Go 3 Z (Cl h8 [0])))
 refine Gx 1 Z (TC.le hle (Cn Z h (fun hc15 h => ?_) (fun hc15 h => ?_)))
 ·exact Gc 7 Z (Rt h 2 [])
 refine Gc 7 Z (Lm Z (Go 3 Z (Bd h fun b37 h38 h => ?_)))
 refine CtE (b := b37) [] [] (fun _ => []) (fun _ => []) (fun _ => rfl) ?_ (fun sb37 env H hbe hle => ?_)
 ·refine G0 1 Z ?_
  refine Lp [] [48,49] (fun s40 => [(50, I s40)]) (fun _ => []) h38 (fun _ => rfl) (Lr []) fun s40 d41 h42 hb39 => ?_
  refine G0 6 Z (Q1 Z h42 (fun hc43 h42 => ?_) (fun hc43 h42 => ?_))
  ·refine Gc 2 Z (Qg h42 ?_)
   obtain rfl := Oj hb39 h42
   exact Gx 1 Z (Qh Z (Lr []))
  refine Gc 6 Z (Bd h42 fun x44 hx44 h42 => Iz hx44 Z (Go 9 Z (Cd [] h42 (k_d _ _ _) Z fun r45 hr45 h42 => FE Z (Go 8 Z (Bd h42 fun b48 h49 h42 => ?_)))))
  refine Ct b48 [] [48,49,50] (fun b48 => [(71, .bool b48)]) (fun _ => []) (fun _ => rfl) ?_ (fun env H hle => ?_)
  ·refine G0 3 Z (Lm Z (Go 2 Z (Is 64 h49 Z (fun hg50 h49 => ?_) (fun hg50 h49 => ?_))))
   ·exact Go 8 Z (Cl h49 [])
   ·refine Go 4 Z (Is 68 h49 Z (fun hg51 h49 => ?_) (fun hg51 h49 => ?_))
    ·exact Go 4 Z (Cl h49 [])
    ·exact Go 4 Z (Cl h49 [])
  refine Gx 1 Z (TC.le hle (Cn Z h42 (fun hc52 h42 => ?_) (fun hc52 h42 => ?_)))
  ·refine Gc 8 Z (Qk h42 ?_)
   obtain rfl := Oj hb39 h42
   exact Gx 1 Z (Qi (Gx 1 Z (Rt h 2 [])))
  exact Gc 7 Z (Qf h42 (Lr []))
 subst hbe
 exact Gx 1 Z (TC.le hle (Gc 6 Z (Rt h 2 [])))
def F_fz (n : Nat) (s15 : (List Int) × Int) : Option (Ctl ((List Int) × Int) (List Int)) :=
  (bif decide (s15.2 <= 122) then (idxA 256 s15.1 s15.2).bind fun x19 => (setI s15.1 s15.2 2).bind fun l20 => (idxA 256 l20 (IntKind.u8.wrap (s15.2 - 32))).bind fun x21 => (setI l20 (IntKind.u8.wrap (s15.2 - 32)) 2).bind fun l22 => some (.cont (l22, IntKind.u8.wrap (s15.2 + 1))) else some (.done s15.1))
def F_gt (n : Nat) (s33 : (List Int) × Int) : Option (Ctl ((List Int) × Int) (List Int)) :=
  (bif decide (s33.2 <= 57) then (idxA 256 s33.1 s33.2).bind fun x37 => (setI s33.1 s33.2 3).bind fun l38 => some (.cont (l38, IntKind.u8.wrap (s33.2 + 1))) else some (.done s33.1))
def F_hl (n : Nat) (s51 : (List Int) × Int) : Option (Ctl ((List Int) × Int) (List Int)) :=
  (bif decide (s51.2 < ([123, 125, 40, 41, 91, 93, 59, 44, 61, 60, 62].length : Int)) then (idx [123, 125, 40, 41, 91, 93, 59, 44, 61, 60, 62] s51.2).bind fun x55 => (idxA 256 s51.1 x55).bind fun x56 => (setI s51.1 x55 4).bind fun l57 => some (.cont (l57, IntKind.i64.wrap (s51.2 + 1))) else some (.done s51.1))
def F_hy (n : Nat) (s70 : (List Int) × Int) : Option (Ctl ((List Int) × Int) (List Int)) :=
  (bif decide (s70.2 < (([32, 9, 10, 13].length) : Int)) then (idx [32, 9, 10, 13] s70.2).bind fun x74 => (idxA 256 s70.1 x74).bind fun x75 => (setI s70.1 x74 1).bind fun l76 => some (.cont (l76, IntKind.i64.wrap (s70.2 + 1))) else some (.done s70.1))
def F_cp (n : Nat) : Option (List Int) :=
  (iter (F_fz n) n (List.replicate 256 0, 97) : Option (List Int)).bind fun b12 => (iter (F_gt n) n (b12, 48) : Option (List Int)).bind fun b30 => (iter (F_hl n) n (b30, 0) : Option (List Int)).bind fun b48 => (iter (F_hy n) n (b48, 0) : Option (List Int)).bind fun b67 => (arr 256 b67).bind fun l77 => (arr 256 b67).bind fun l78 => (arr 256 l77).bind fun l79 => some l79
theorem k_cp (n : Nat) (r : List Int) (h : F_cp n = some r) :
    C prog 237 [] [] (RQ (fun r => .agg (List.flatten (List.map (encI .u8) r))) (fun r => [.row 315 1 (List.map (encI .u8) r)]) r) := by
 refine Qb func237 Z Z Z ?_
 refine G0 2 Z ?_
 refine vH (Yr (n := 256) (k := 1) (e := (encI .u8)) (z := 0) zeroValue315 (by kernel_rfl) (by kernel_rfl) (by kernel_rfl) Z) ?_
 refine FE Z (Go 8 Z (Bd h fun b12 h13 h => ?_))
 refine Ct b12 [0] [0] (fun _ => []) (fun b12 => [(0, .row 315 1 (List.map (encI .u8) b12))]) (fun _ => rfl) ?_ (fun env H hle => ?_)
 ·refine G0 1 Z ?_
  refine Lp [0] [0] (fun s15 => [(1, .int .u8 s15.2)]) (fun s15 => [(0, .row 315 1 (List.map (encI .u8) s15.1))]) h13 (fun _ => rfl) (Lr [0]) fun s15 d16 h17 hb14 => ?_
  refine G0 7 Z (Q1 Z h17 (fun hc18 h17 => ?_) (fun hc18 h17 => ?_))
  ·refine Gc 2 Z (Qg h17 ?_)
   obtain rfl := Oj hb14 h17
   exact Gx 1 Z (Qt (Lr [0]))
  refine Gc 8 Z (Bd h17 fun x19 hx19 h17 => ?_)
  refine vX (.ptr 0 (Int.toNat s15.2 * 1)) (Qad (n := 256) (k := 1) (l := s15.1) hx19 runUnderlying315 sizeOf5 Z) ?_
  refine Bd h17 fun l20 hl20 h17 => ?_
  refine vU (Qbp (e := (encI .u8)) (k := 1) (f := 0) (QaD hx19).2 hl20 sizeOf5 Z Z) ?_
  refine FE Z (Bd h17 fun x21 hx21 h17 => ?_)
  refine vX (.ptr 0 (Int.toNat (IntKind.u8.wrap (s15.2 - 32)) * 1)) (Qad (n := 256) (k := 1) (l := l20) hx21 runUnderlying315 sizeOf5 Z) ?_
  refine Bd h17 fun l22 hl22 h17 => ?_
  refine vU (Qbp (e := (encI .u8)) (k := 1) (f := 0) (QaD hx21).2 hl22 sizeOf5 Z Z) ?_
  exact FE Z (Go 8 Z (Qf h17 (Lr [0])))
 refine Gx 1 Z (TC.le hle (Gc 6 Z (Bd h fun b30 h31 h => ?_)))
 refine Ct b30 [0] [0] (fun _ => []) (fun b30 => [(0, .row 315 1 (List.map (encI .u8) b30))]) (fun _ => rfl) ?_ (fun env H hle => ?_)
 ·refine G0 1 Z ?_
  refine Lp [0] [0] (fun s33 => [(2, .int .u8 s33.2)]) (fun s33 => [(0, .row 315 1 (List.map (encI .u8) s33.1))]) h31 (fun _ => rfl) (Lr [0]) fun s33 d34 h35 hb32 => ?_
  refine G0 7 Z (Q1 Z h35 (fun hc36 h35 => ?_) (fun hc36 h35 => ?_))
  ·refine Gc 2 Z (Qg h35 ?_)
   obtain rfl := Oj hb32 h35
   exact Gx 1 Z (Qt (Lr [0]))
  refine Gc 6 Z (Bd h35 fun x37 hx37 h35 => ?_)
  refine vX (.ptr 0 (Int.toNat s33.2 * 1)) (Qad (n := 256) (k := 1) (l := s33.1) hx37 runUnderlying315 sizeOf5 Z) ?_
  refine Bd h35 fun l38 hl38 h35 => ?_
  refine vU (Qbp (e := (encI .u8)) (k := 1) (f := 0) (QaD hx37).2 hl38 sizeOf5 Z Z) ?_
  exact FE Z (Go 8 Z (Qf h35 (Lr [0])))
 refine Gx 1 Z (TC.le hle (Gc 3 Z ?_))
 refine vH (OpH.lit (xs := [.const (.int .u8 123), .const (.int .u8 125), .const (.int .u8 40), .const (.int .u8 41), .const (.int .u8 91), .const (.int .u8 93), .const (.int .u8 59), .const (.int .u8 44), .const (.int .u8 61), .const (.int .u8 60), .const (.int .u8 62)]) (es := List.map (encI .u8) [123, 125, 40, 41, 91, 93, 59, 44, 61, 60, 62]) YG Z Z Z Z Z ⟨Z, Z, Z, Z, Z, Z, Z, Z, Z, Z, Z, trivial⟩ Z Z) ?_
 refine FE Z ?_
 refine vH (QhG (es := List.map (encI .u8) [123, 125, 40, 41, 91, 93, 59, 44, 61, 60, 62]) underlying118 underlying5 (List.length_map ..) Z) ?_
 refine FE Z (Lm Z (Go 3 Z (Bd h fun b48 h49 h => ?_)))
 refine Ct b48 [0] [0] (fun _ => []) (fun b48 => [(0, .row 315 1 (List.map (encI .u8) b48))]) (fun _ => rfl) ?_ (fun env H hle => ?_)
 ·refine G0 1 Z ?_
  refine Lp [0] [0,23,24] (fun s51 => [(25, I s51.2)]) (fun s51 => [(0, .row 315 1 (List.map (encI .u8) s51.1))]) h49 (fun _ => rfl) (Lr [0]) fun s51 d52 h53 hb50 => ?_
  refine G0 6 Z (Q1 Z h53 (fun hc54 h53 => ?_) (fun hc54 h53 => ?_))
  ·refine Gc 2 Z (Qg h53 ?_)
   obtain rfl := Oj hb50 h53
   exact Gx 1 Z (Qt (Lr [0]))
  refine Gc 6 Z (Bd h53 fun x55 hx55 h53 => Iz hx55 Z (Go 6 Z (Bd h53 fun x56 hx56 h53 => ?_)))
  refine vX (.ptr 0 (Int.toNat x55 * 1)) (Qad (n := 256) (k := 1) (l := s51.1) hx56 runUnderlying315 sizeOf5 Z) ?_
  refine Bd h53 fun l57 hl57 h53 => ?_
  refine vU (Qbp (e := (encI .u8)) (k := 1) (f := 0) (QaD hx56).2 hl57 sizeOf5 Z Z) ?_
  exact FE Z (Go 7 Z (Qf h53 (Lr [0])))
 refine Gx 1 Z (TC.le hle (Gc 3 Z ?_))
 refine vH (OpH.lit (xs := [.const (.int .u8 32), .const (.int .u8 9), .const (.int .u8 10), .const (.int .u8 13)]) (es := List.map (encI .u8) [32, 9, 10, 13]) YG Z Z Z Z Z ⟨Z, Z, Z, Z, trivial⟩ Z Z) ?_
 refine FE Z (Go 4 Z (Bd h fun b67 h68 h => ?_))
 refine Ct b67 [0] [0] (fun _ => []) (fun b67 => [(0, .row 315 1 (List.map (encI .u8) b67))]) (fun _ => rfl) ?_ (fun env H hle => ?_)
 ·refine G0 1 Z ?_
  refine Lp [0,1] [0,32,33] (fun s70 => [(34, I s70.2)]) (fun s70 => [(0, .row 315 1 (List.map (encI .u8) s70.1))]) h68 (fun _ => rfl) (Lr [0, 1]) fun s70 d71 h72 hb69 => ?_
  refine G0 6 Z (Q1 Z h72 (fun hc73 h72 => ?_) (fun hc73 h72 => ?_))
  ·refine Gc 2 Z (Qg h72 ?_)
   obtain rfl := Oj hb69 h72
   exact Gx 1 Z (Qt (Lr [0]))
  refine Gc 6 Z (Bd h72 fun x74 hx74 h72 => ?_)
  refine vX (.ptr 1 (Int.toNat s70.2 * 1)) (QS hx74 Z runUnderlying118 sizeOf5) ?_
  refine vX (.int .u8 x74) (OpV.load Z isAgg5 Z (Qu hx74)) ?_
  refine Go 5 Z (Bd h72 fun x75 hx75 h72 => ?_)
  refine vX (.ptr 0 (Int.toNat x74 * 1)) (Qad (n := 256) (k := 1) (l := s70.1) hx75 runUnderlying315 sizeOf5 Z) ?_
  refine Bd h72 fun l76 hl76 h72 => ?_
  refine vU (Qbp (e := (encI .u8)) (k := 1) (f := 0) (QaD hx75).2 hl76 sizeOf5 Z Z) ?_
  exact FE Z (Go 7 Z (Qf h72 (Lr [0, 1])))
 refine Gx 1 Z (TC.le hle (Gc 2 Z (Bd h fun l77 hl77 h => ?_)))
 refine vX (.agg (List.flatten (List.map (encI .u8) l77))) (QfP (e := (encI .u8)) hl77 (fun _ => rfl) Z isAgg315 sizeOf315) ?_
 refine Bd h fun l78 hl78 h => Bd h fun l79 hl79 h => ?_
 obtain ⟨hll78, rfl⟩ := Yz hl78
 refine vU (Yq (e := (encI .u8)) (l := b67) (l' := l79) hll78 (Qa3 hl79) (fun _ => rfl) Z sizeOf315 (fun _ => rfl) (fun _ => rfl) (congrArg (fun l => List.flatten (List.map (encI .u8) l)) (Yz hl79).2.symm)) ?_
 refine FE Z (Go 3 Z ?_)
 obtain rfl := Oi h
 exact Rx [0] [0] Z (YH Z (Qhy (e := (encI .u8)) (Qa3 hl79) (fun _ => rfl) Z isAgg315 sizeOf315)) ⟨Z, Z⟩
def F_hp (n : Nat) (a1 : List UInt8) (l3 : List Int) (s30 : Int) : Option (Ctl Int (Ctl Unit Bool)) :=
  (bif decide (s30 < (a1.length : Int)) then (idx a1 s30).bind fun x34 => (idxA 256 l3 (x34.toNat : Int)).bind fun x35 => ((bif (x35 != 2) then (bif (s30 == 0) then some true else (bif (x35 != 3) then (idx a1 s30).bind fun x45 => some ((x45.toNat : Int) != 95) else some false)) else some false) : Option Bool).bind fun b40 => (bif b40 then some (.done (.done false)) else some (.cont (IntKind.i64.wrap (s30 + 1)))) else some (.done (.cont ())))
def F_df (n : Nat) (a1 : List UInt8) : Option Bool :=
  (F_cp n).bind fun r1 => (arr 256 (List.replicate 256 0)).bind fun l2 => (arr 256 r1).bind fun l3 => (iter (F_hp n a1 l3) n 0 : Option (Ctl Unit Bool)).bind fun b27 => match b27 with | .cont sb27 => (some (a1 != [])) | .done sb27 => some sb27
theorem k_df (n : Nat) (a1 : List UInt8) (r : Bool) (h : F_df n a1 = some r) :
    Csm prog 206 [.str a1] [] (fun r => .bool r) r := by
 refine Qb func206 Z Z Z ?_
 refine G0 7 Z (Bd h fun r1 hr1 h => ?_)
 refine Qy [] (OpC.fn call237 Z Z Z) (k_cp _ _ hr1) ?_
 rintro _ _ ⟨rfl, rfl⟩
 refine Qgt (x := (.agg (List.flatten (List.map (encI .u8) r1)))) (H := [.row 315 1 (List.map (encI .u8) r1)]) (Qi2 (e := (encI .u8)) (fun _ => rfl) _ _) Z ?_
 refine vH (Yr (n := 256) (k := 1) (e := (encI .u8)) (z := 0) zeroValue315 (by kernel_rfl) (by kernel_rfl) (by kernel_rfl) Z) ?_
 refine FE Z (Bd h fun l2 hl2 h => Bd h fun l3 hl3 h => ?_)
 obtain ⟨hll2, rfl⟩ := Yz hl2
 refine vU (Yq (e := (encI .u8)) (l := (List.replicate 256 0)) (l' := l3) hll2 (Qa3 hl3) (fun _ => rfl) Z sizeOf315 (fun _ => rfl) (fun _ => rfl) (congrArg (fun l => List.flatten (List.map (encI .u8) l)) (Yz hl3).2.symm)) ?_
 refine FE Z (Go 6 Z ?_)
 refine vX (I (a1.length : Int)) (Q0 Z Z runUnderlying9 Z) ?_
 refine Go 3 Z (Bd h fun b27 h28 h => ?_)
 refine CtE (b := b27) [] [0] (fun _ => []) (fun _ => []) (fun _ => rfl) ?_ (fun sb27 env H hbe hle => ?_)
 ·refine G0 1 Z ?_
  refine Lp [1] [0,3,8] (fun s30 => [(9, I s30)]) (fun _ => []) h28 (fun _ => rfl) (Lr [1]) fun s30 d31 h32 hb29 => ?_
  refine G0 6 Z (Q1 Z h32 (fun hc33 h32 => ?_) (fun hc33 h32 => ?_))
  ·refine Gc 2 Z (Qg h32 ?_)
   obtain rfl := Oj hb29 h32
   exact Gx 1 Z (Qh Z (Lr []))
  refine Gc 14 Z (Bd h32 fun x34 hx34 h32 => ?_)
  refine vX (.int .u8 (x34.toNat : Int)) (Qv hx34 runUnderlying9) ?_
  refine Bd h32 fun x35 hx35 h32 => ?_
  refine vX (.ptr 0 (Int.toNat (x34.toNat : Int) * 1)) (Qad (n := 256) (k := 1) (l := l3) hx35 runUnderlying315 sizeOf5 Z) ?_
  refine vX (.int .u8 x35) (OpV.load Z isAgg5 Z (Qu (QaD hx35).2)) ?_
  refine Go 4 Z (Bd h32 fun b40 h41 h32 => ?_)
  refine Ct b40 [0] [0,3,8,9] (fun b40 => [(32, .bool b40)]) (fun _ => []) (fun _ => rfl) ?_ (fun env H hle => ?_)
  ·refine G0 4 Z (Is 19 h41 Z (fun hg42 h41 => ?_) (fun hg42 h41 => ?_))
   ·refine Go 3 Z (Is 22 h41 Z (fun hg43 h41 => ?_) (fun hg43 h41 => ?_))
    ·exact Go 11 Z (Cl h41 [0])
    ·refine Go 3 Z (Is 25 h41 Z (fun hg44 h41 => ?_) (fun hg44 h41 => ?_))
     ·refine Go 2 Z (Bd h41 fun x45 hx45 h41 => ?_)
      refine vX (.int .u8 (x45.toNat : Int)) (Qv hx45 runUnderlying9) ?_ (gT Z)
      exact Go 5 Z (Cl h41 [0])
     ·exact Go 8 Z (Cl h41 [0])
   ·exact Go 14 Z (Cl h41 [0])
  refine Gx 1 Z (TC.le hle (Cn Z h32 (fun hc46 h32 => ?_) (fun hc46 h32 => ?_)))
  ·refine Gc 8 Z (Qk h32 ?_)
   obtain rfl := Oj hb29 h32
   exact Gx 1 Z (Qi (Gx 1 Z (Rt h 2 [])))
  exact Gc 7 Z (Qf h32 (Lr [0]))
 subst hbe
 exact Gx 1 Z (TC.le hle (Gc 8 Z (Rt h 2 [])))
def F_cw (n : Nat) (a1 : List UInt8) : Option Bool :=
  ((F_df n a1).bind fun r8 => (bif r8 then (cat [32] a1).bind fun x10 => (cat x10 [32]).bind fun x11 => (hasSub [32, 99, 111, 117, 114, 115, 101, 32, 109, 97, 116, 115, 32, 115, 116, 97, 114, 116, 32, 112, 97, 115, 115, 32, 101, 110, 100, 32, 108, 101, 103, 32, 116, 111, 32, 100, 105, 115, 116, 97, 110, 99, 101, 32, 103, 117, 110, 32, 99, 104, 105, 112, 32, 115, 108, 111, 116, 32, 108, 97, 112, 115, 32, 108, 97, 112, 32, 99, 117, 116, 111, 102, 102, 32, 101, 120, 116, 114, 97, 32, 119, 97, 118, 101, 32, 111, 102, 102, 101, 110, 99, 101, 32, 111, 117, 116, 32, 99, 97, 116, 101, 103, 111, 114, 121, 32, 112, 114, 105, 122, 101, 32, 97, 108, 108, 32, 116, 105, 101, 115, 32, 105, 102, 32, 101, 108, 115, 101, 32, 97, 110, 100, 32, 111, 114, 32, 110, 111, 116, 32, 111, 108, 100, 101, 114, 32, 121, 111, 117, 110, 103, 101, 114, 32, 98, 105, 98, 32, 100, 114, 97, 119, 32, 102, 105, 101, 108, 100, 32, 115, 104, 111, 114, 116, 32, 102, 97, 117, 108, 116, 115, 32, 109, 105, 115, 115, 101, 115, 32, 115, 116, 114, 97, 121, 115, 32, 119, 105, 110, 100, 111, 119, 32, 114, 101, 115, 105, 100, 117, 97, 108, 32, 100, 114, 105, 102, 116, 32, 112, 114, 111, 116, 101, 115, 116, 32, 102, 101, 101, 32, 100, 101, 97, 100, 108, 105, 110, 101, 32] x11).bind fun r12 => some r12 else some false) : Option Bool).bind fun b6 => some b6
theorem k_cw (n : Nat) (a1 : List UInt8) (r : Bool) (h : F_cw n a1 = some r) :
    Csm prog 151 [.str a1] [] (fun r => .bool r) r := by
 refine Qb func151 Z Z Z ?_
 refine G0 6 Z (Bd h fun b6 h7 h => ?_)
 refine Ct b6 [] [] (fun b6 => [(2, .bool b6)]) (fun _ => []) (fun _ => rfl) ?_ (fun env H hle => ?_)
 ·refine G0 2 Z (Cz [] h7 (k_df _ _) Z fun r8 hr8 h7 => Go 1 Z (Is 5 h7 Z (fun hg9 h7 => ?_) (fun hg9 h7 => ?_)))
  ·refine Go 1 Z (Bd h7 fun x10 hx10 h7 => ?_)
   refine vX (.str x10) (QdN hx10) ?_ (gT Z)
   refine Bd h7 fun x11 hx11 h7 => ?_
   refine vX (.str x11) (QdN hx11) ?_ (gT Z)
   refine Bd h7 fun r12 hr12 h7 => ?_
   refine Qy [] (OpC.fn call207 Z Z Z) (C.contains Qco Z hr12) ?_ (hg := (gT Z))
   rintro _ _ ⟨rfl, rfl⟩
   exact FE Z (Go 3 Z (Cl h7 []))
  ·exact Go 7 Z (Cl h7 [])
 exact Gx 1 Z (TC.le hle (Gc 1 Z (Rt h 2 [])))
def F_hf (n : Nat) (a1 : List UInt8) (s52 : Int) : Option (Ctl Int (Ctl Unit Bool)) :=
  (bif decide (s52 < (a1.length : Int)) then (idx a1 s52).bind fun x56 => ((bif decide ((x56.toNat : Int) < 97) then (bif decide ((x56.toNat : Int) < 48) then some ((x56.toNat : Int) != 95) else (bif decide (57 < (x56.toNat : Int)) then some ((x56.toNat : Int) != 95) else some false)) else (bif decide (122 < (x56.toNat : Int)) then (bif decide ((x56.toNat : Int) < 48) then some ((x56.toNat : Int) != 95) else (bif decide (57 < (x56.toNat : Int)) then some ((x56.toNat : Int) != 95) else some false)) else some false)) : Option Bool).bind fun b63 => (bif b63 then some (.done (.done false)) else some (.cont (IntKind.i64.wrap (s52 + 1)))) else some (.done (.cont ())))
def F_e (n : Nat) (a1 : List UInt8) : Option Bool :=
  ((bif decide ((a1.length : Int) < 1) then some true else (bif decide (24 < (a1.length : Int)) then some true else (idx a1 0).bind fun x10 => (bif decide ((x10.toNat : Int) < 97) then some true else (idx a1 0).bind fun x12 => some (decide (122 < (x12.toNat : Int)))))) : Option Bool).bind fun b6 => (bif b6 then some false else (iter (F_hf n a1) n 0 : Option (Ctl Unit Bool)).bind fun b49 => match b49 with | .cont sb49 => ((F_cw n a1).bind fun r72 => some (!r72)) | .done sb49 => some sb49)
theorem k_e (n : Nat) (a1 : List UInt8) (r : Bool) (h : F_e n a1 = some r) :
    Csm prog 88 [.str a1] [] (fun r => .bool r) r := by
 refine Qb func88 Z Z Z ?_
 refine G0 7 Z (Bd h fun b6 h7 h => ?_)
 refine Ct b6 [] [0] (fun b6 => [(22, .bool b6)]) (fun _ => []) (fun _ => rfl) ?_ (fun env H hle => ?_)
 ·refine G0 2 Z ?_
  refine vX (I (a1.length : Int)) (Q0 Z Z runUnderlying9 Z) ?_
  refine Go 2 Z (Is 8 h7 Z (fun hg8 h7 => ?_) (fun hg8 h7 => ?_))
  ·exact Go 15 Z (Cl h7 [])
  ·refine Go 1 Z ?_
   refine vX (I (a1.length : Int)) (Q0 Z Z runUnderlying9 Z) ?_ (gT Z)
   refine Go 3 Z (Is 13 h7 Z (fun hg9 h7 => ?_) (fun hg9 h7 => ?_))
   ·exact Go 10 Z (Cl h7 [])
   ·refine Go 1 Z (Bd h7 fun x10 hx10 h7 => ?_)
    refine vX (.int .u8 (x10.toNat : Int)) (Qv hx10 runUnderlying9) ?_ (gT Z)
    refine Go 3 Z (Is 18 h7 Z (fun hg11 h7 => ?_) (fun hg11 h7 => ?_))
    ·exact Go 5 Z (Cl h7 [])
    ·refine Go 1 Z (Bd h7 fun x12 hx12 h7 => ?_)
     refine vX (.int .u8 (x12.toNat : Int)) (Qv hx12 runUnderlying9) ?_ (gT Z)
     exact Go 3 Z (Cl h7 [])
 refine Gx 1 Z (TC.le hle (Cn Z h (fun hc13 h => ?_) (fun hc13 h => ?_)))
 ·exact Gc 7 Z (Rt h 2 [])
 refine Gc 6 Z ?_
 refine vX (I (a1.length : Int)) (Q0 Z Z runUnderlying9 Z) ?_
 refine Go 3 Z (Bd h fun b49 h50 h => ?_)
 refine CtE (b := b49) [] [0] (fun _ => []) (fun _ => []) (fun _ => rfl) ?_ (fun sb49 env H hbe hle => ?_)
 ·refine G0 1 Z ?_
  refine Lp [] [0,24] (fun s52 => [(25, I s52)]) (fun _ => []) h50 (fun _ => rfl) (Lr []) fun s52 d53 h54 hb51 => ?_
  refine G0 6 Z (Q1 Z h54 (fun hc55 h54 => ?_) (fun hc55 h54 => ?_))
  ·refine Gc 2 Z (Qg h54 ?_)
   obtain rfl := Oj hb51 h54
   exact Gx 1 Z (Qh Z (Lr []))
  refine Gc 14 Z (Bd h54 fun x56 hx56 h54 => ?_)
  refine vX (.int .u8 (x56.toNat : Int)) (Qv hx56 runUnderlying9) ?_
  refine Go 4 Z (Bd h54 fun b63 h64 h54 => ?_)
  refine Ct b63 [] [0,24,25] (fun b63 => [(48, .bool b63)]) (fun _ => []) (fun _ => rfl) ?_ (fun env H hle => ?_)
  ·refine G0 4 Z (Is 33 h64 Z (fun hg65 h64 => ?_) (fun hg65 h64 => ?_))
   ·refine Go 7 Z (Is 40 h64 Z (fun hg66 h64 => ?_) (fun hg66 h64 => ?_))
    ·exact Go 9 Z (Cl h64 [])
    ·refine Go 5 Z (Is 45 h64 Z (fun hg67 h64 => ?_) (fun hg67 h64 => ?_))
     ·exact Go 4 Z (Cl h64 [])
     ·exact Go 4 Z (Cl h64 [])
   ·refine Go 4 Z (Is 37 h64 Z (fun hg68 h64 => ?_) (fun hg68 h64 => ?_))
    ·refine Go 3 Z (Is 40 h64 Z (fun hg69 h64 => ?_) (fun hg69 h64 => ?_))
     ·exact Go 9 Z (Cl h64 [])
     ·refine Go 5 Z (Is 45 h64 Z (fun hg70 h64 => ?_) (fun hg70 h64 => ?_))
      ·exact Go 4 Z (Cl h64 [])
      ·exact Go 4 Z (Cl h64 [])
    ·exact Go 12 Z (Cl h64 [])
  refine Gx 1 Z (TC.le hle (Cn Z h54 (fun hc71 h54 => ?_) (fun hc71 h54 => ?_)))
  ·refine Gc 8 Z (Qk h54 ?_)
   obtain rfl := Oj hb51 h54
   exact Gx 1 Z (Qi (Gx 1 Z (Rt h 2 [])))
  exact Gc 7 Z (Qf h54 (Lr []))
 subst hbe
 exact Gx 1 Z (TC.le hle (Gc 3 Z (Cz [] h (k_cw _ _) Z fun r72 hr72 h => Go 5 Z (Rt h 2 []))))
def F_eo (n : Nat) (a1 : Mat) : Option Unit :=
  some ()
theorem k_eo (n : Nat) (a1 : Mat) (r : Unit) (h : F_eo n a1 = some r) :
    Csm prog 90 [.agg (Mat.c a1)] [] (fun _ => .str a1.Name) r := by
 refine Qb func90 Z Z Z ?_
 exact G0 14 Z (Rt h 2 [])
def F_ir (n : Nat) (a1 : List Mat) (s31 : (List (List UInt8 × Bool)) × Int) : Option (Ctl ((List (List UInt8 × Bool)) × Int) (Ctl Unit Bool)) :=
  (bif decide (s31.2 < (a1.length : Int)) then (idx a1 s31.2).bind fun x35 => (F_eo n x35).bind fun r36 => ((F_e n x35.Name).bind fun r42 => (bif (!r42) then some true else (some (mgetD s31.1 x35.Name false)).bind fun v44 => some v44) : Option Bool).bind fun b40 => (bif b40 then some (.done (.done false)) else (some (mset s31.1 x35.Name true)).bind fun m46 => some (.cont (m46, IntKind.i64.wrap (s31.2 + 1)))) else some (.done (.cont ())))
def F_da (n : Nat) (a1 : List Mat) : Option Bool :=
  (iter (F_ir n a1) n ([], 0) : Option (Ctl Unit Bool)).bind fun b28 => match b28 with | .cont sb28 => (some true) | .done sb28 => some sb28
theorem k_da (n : Nat) (a1 : List Mat) (r : Bool) (h : F_da n a1 = some r) :
    Csm prog 89 [.rsl 2 (List.map Mat.c a1), .fn (.func 90) [] []] [] (fun r => .bool r) r := by
 refine Qb func89 Z Z Z ?_
 refine G0 7 Z ?_
 refine vH QV ?_
 refine FE Z (Go 7 Z (Lm Z (Go 3 Z (Bd h fun b28 h29 h => ?_))))
 refine CtE (b := b28) [] [] (fun _ => []) (fun _ => []) (fun _ => rfl) ?_ (fun sb28 env H hbe hle => ?_)
 ·refine G0 1 Z ?_
  refine Lp [0] [1,5,10,11] (fun s31 => [(12, I s31.2)]) (fun s31 => [(0, .map (menc A.str A.bool s31.1))]) h29 (fun _ => rfl) (Lr [0]) fun s31 d32 h33 hb30 => ?_
  refine G0 6 Z (Q1 Z h33 (fun hc34 h33 => ?_) (fun hc34 h33 => ?_))
  ·refine Gc 2 Z (Qg h33 ?_)
   obtain rfl := Oj hb30 h33
   exact Gx 1 Z (Qh Z (Lr []))
  refine Gc 6 Z (Bd h33 fun x35 hx35 h33 => Iz hx35 Z (Go 9 Z (Cz [] h33 (k_eo _ _) Z fun r36 hr36 h33 => Go 5 Z (Bd h33 fun b40 h41 h33 => ?_))))
  refine Ct b40 [0] [1,5,8,10,11,12] (fun b40 => [(26, .bool b40)]) (fun _ => []) (fun _ => rfl) ?_ (fun env H hle => ?_)
  ·refine G0 2 Z (Cz [] h41 (k_e _ _) Z fun r42 hr42 h41 => Go 2 Z (Is 22 h41 Z (fun hg43 h41 => ?_) (fun hg43 h41 => ?_)))
   ·exact Go 5 Z (Cl h41 [0])
   ·refine Go 2 Z (Bd h41 fun v44 hv44 h41 => ?_)
    refine vX (.bool v44) (Q5 (ev := A.bool) (z0 := false) (k := x35.Name) (l := s31.1) QbD hv44 underlying251 zeroValue4 ZR.bool) ?_ (gT Z)
    exact Go 2 Z (Cl h41 [0])
  refine Gx 1 Z (TC.le hle (Cn Z h33 (fun hc45 h33 => ?_) (fun hc45 h33 => ?_)))
  ·refine Gc 9 Z (Qk h33 ?_)
   obtain rfl := Oj hb30 h33
   exact Gx 1 Z (Qi (Gx 1 Z (Rt h 4 [])))
  refine Gc 5 Z (Bd h33 fun m46 hm46 h33 => ?_)
  refine vU (Q6 (ev := A.bool) (k := x35.Name) (v := true) (l := s31.1) QbD hm46 Z underlying251) ?_
  exact FE Z (Go 7 Z (Qf h33 (Lr [0])))
 subst hbe
 exact Gx 1 Z (TC.le hle (Gc 6 Z (Rt h 4 [])))
def F_fn (n : Nat) (a1 : Distance) : Option Unit :=
  some ()
theorem k_fn (n : Nat) (a1 : Distance) (r : Unit) (h : F_fn n a1 = some r) :
    Csm prog 92 [.agg (Distance.c a1)] [] (fun _ => .str a1.Name) r := by
 refine Qb func92 Z Z Z ?_
 exact G0 14 Z (Rt h 2 [])
def F_ix (n : Nat) (a1 : List Distance) (s31 : (List (List UInt8 × Bool)) × Int) : Option (Ctl ((List (List UInt8 × Bool)) × Int) (Ctl Unit Bool)) :=
  (bif decide (s31.2 < (a1.length : Int)) then (idx a1 s31.2).bind fun x35 => (F_fn n x35).bind fun r36 => ((F_e n x35.Name).bind fun r42 => (bif (!r42) then some true else (some (mgetD s31.1 x35.Name false)).bind fun v44 => some v44) : Option Bool).bind fun b40 => (bif b40 then some (.done (.done false)) else (some (mset s31.1 x35.Name true)).bind fun m46 => some (.cont (m46, IntKind.i64.wrap (s31.2 + 1)))) else some (.done (.cont ())))
def F_br (n : Nat) (a1 : List Distance) : Option Bool :=
  (iter (F_ix n a1) n ([], 0) : Option (Ctl Unit Bool)).bind fun b28 => match b28 with | .cont sb28 => (some true) | .done sb28 => some sb28
theorem k_br (n : Nat) (a1 : List Distance) (r : Bool) (h : F_br n a1 = some r) :
    Csm prog 91 [.rsl 5 (List.map Distance.c a1), .fn (.func 92) [] []] [] (fun r => .bool r) r := by
 refine Qb func91 Z Z Z ?_
 refine G0 7 Z ?_
 refine vH QV ?_
 refine FE Z (Go 7 Z (Lm Z (Go 3 Z (Bd h fun b28 h29 h => ?_))))
 refine CtE (b := b28) [] [] (fun _ => []) (fun _ => []) (fun _ => rfl) ?_ (fun sb28 env H hbe hle => ?_)
 ·refine G0 1 Z ?_
  refine Lp [0] [1,5,10,11] (fun s31 => [(12, I s31.2)]) (fun s31 => [(0, .map (menc A.str A.bool s31.1))]) h29 (fun _ => rfl) (Lr [0]) fun s31 d32 h33 hb30 => ?_
  refine G0 6 Z (Q1 Z h33 (fun hc34 h33 => ?_) (fun hc34 h33 => ?_))
  ·refine Gc 2 Z (Qg h33 ?_)
   obtain rfl := Oj hb30 h33
   exact Gx 1 Z (Qh Z (Lr []))
  refine Gc 6 Z (Bd h33 fun x35 hx35 h33 => Iz hx35 Z (Go 9 Z (Cz [] h33 (k_fn _ _) Z fun r36 hr36 h33 => Go 5 Z (Bd h33 fun b40 h41 h33 => ?_))))
  refine Ct b40 [0] [1,5,8,10,11,12] (fun b40 => [(26, .bool b40)]) (fun _ => []) (fun _ => rfl) ?_ (fun env H hle => ?_)
  ·refine G0 2 Z (Cz [] h41 (k_e _ _) Z fun r42 hr42 h41 => Go 2 Z (Is 22 h41 Z (fun hg43 h41 => ?_) (fun hg43 h41 => ?_)))
   ·exact Go 5 Z (Cl h41 [0])
   ·refine Go 2 Z (Bd h41 fun v44 hv44 h41 => ?_)
    refine vX (.bool v44) (Q5 (ev := A.bool) (z0 := false) (k := x35.Name) (l := s31.1) QbD hv44 underlying251 zeroValue4 ZR.bool) ?_ (gT Z)
    exact Go 2 Z (Cl h41 [0])
  refine Gx 1 Z (TC.le hle (Cn Z h33 (fun hc45 h33 => ?_) (fun hc45 h33 => ?_)))
  ·refine Gc 9 Z (Qk h33 ?_)
   obtain rfl := Oj hb30 h33
   exact Gx 1 Z (Qi (Gx 1 Z (Rt h 4 [])))
  refine Gc 5 Z (Bd h33 fun m46 hm46 h33 => ?_)
  refine vU (Q6 (ev := A.bool) (k := x35.Name) (v := true) (l := s31.1) QbD hm46 Z underlying251) ?_
  exact FE Z (Go 7 Z (Qf h33 (Lr [0])))
 subst hbe
 exact Gx 1 Z (TC.le hle (Gc 6 Z (Rt h 4 [])))
def F_ga (n : Nat) (a1 : Wave) : Option Unit :=
  some ()
theorem k_ga (n : Nat) (a1 : Wave) (r : Unit) (h : F_ga n a1 = some r) :
    Csm prog 94 [.agg (Wave.c a1)] [] (fun _ => .str a1.Name) r := by
 refine Qb func94 Z Z Z ?_
 exact G0 14 Z (Rt h 2 [])
def F_ij (n : Nat) (a1 : List Wave) (s31 : (List (List UInt8 × Bool)) × Int) : Option (Ctl ((List (List UInt8 × Bool)) × Int) (Ctl Unit Bool)) :=
  (bif decide (s31.2 < (a1.length : Int)) then (idx a1 s31.2).bind fun x35 => (F_ga n x35).bind fun r36 => ((F_e n x35.Name).bind fun r42 => (bif (!r42) then some true else (some (mgetD s31.1 x35.Name false)).bind fun v44 => some v44) : Option Bool).bind fun b40 => (bif b40 then some (.done (.done false)) else (some (mset s31.1 x35.Name true)).bind fun m46 => some (.cont (m46, IntKind.i64.wrap (s31.2 + 1)))) else some (.done (.cont ())))
def F_bw (n : Nat) (a1 : List Wave) : Option Bool :=
  (iter (F_ij n a1) n ([], 0) : Option (Ctl Unit Bool)).bind fun b28 => match b28 with | .cont sb28 => (some true) | .done sb28 => some sb28
theorem k_bw (n : Nat) (a1 : List Wave) (r : Bool) (h : F_bw n a1 = some r) :
    Csm prog 93 [.rsl 2 (List.map Wave.c a1), .fn (.func 94) [] []] [] (fun r => .bool r) r := by
 refine Qb func93 Z Z Z ?_
 refine G0 7 Z ?_
 refine vH QV ?_
 refine FE Z (Go 7 Z (Lm Z (Go 3 Z (Bd h fun b28 h29 h => ?_))))
 refine CtE (b := b28) [] [] (fun _ => []) (fun _ => []) (fun _ => rfl) ?_ (fun sb28 env H hbe hle => ?_)
 ·refine G0 1 Z ?_
  refine Lp [0] [1,5,10,11] (fun s31 => [(12, I s31.2)]) (fun s31 => [(0, .map (menc A.str A.bool s31.1))]) h29 (fun _ => rfl) (Lr [0]) fun s31 d32 h33 hb30 => ?_
  refine G0 6 Z (Q1 Z h33 (fun hc34 h33 => ?_) (fun hc34 h33 => ?_))
  ·refine Gc 2 Z (Qg h33 ?_)
   obtain rfl := Oj hb30 h33
   exact Gx 1 Z (Qh Z (Lr []))
  refine Gc 6 Z (Bd h33 fun x35 hx35 h33 => Iz hx35 Z (Go 9 Z (Cz [] h33 (k_ga _ _) Z fun r36 hr36 h33 => Go 5 Z (Bd h33 fun b40 h41 h33 => ?_))))
  refine Ct b40 [0] [1,5,8,10,11,12] (fun b40 => [(26, .bool b40)]) (fun _ => []) (fun _ => rfl) ?_ (fun env H hle => ?_)
  ·refine G0 2 Z (Cz [] h41 (k_e _ _) Z fun r42 hr42 h41 => Go 2 Z (Is 22 h41 Z (fun hg43 h41 => ?_) (fun hg43 h41 => ?_)))
   ·exact Go 5 Z (Cl h41 [0])
   ·refine Go 2 Z (Bd h41 fun v44 hv44 h41 => ?_)
    refine vX (.bool v44) (Q5 (ev := A.bool) (z0 := false) (k := x35.Name) (l := s31.1) QbD hv44 underlying251 zeroValue4 ZR.bool) ?_ (gT Z)
    exact Go 2 Z (Cl h41 [0])
  refine Gx 1 Z (TC.le hle (Cn Z h33 (fun hc45 h33 => ?_) (fun hc45 h33 => ?_)))
  ·refine Gc 9 Z (Qk h33 ?_)
   obtain rfl := Oj hb30 h33
   exact Gx 1 Z (Qi (Gx 1 Z (Rt h 4 [])))
  refine Gc 5 Z (Bd h33 fun m46 hm46 h33 => ?_)
  refine vU (Q6 (ev := A.bool) (k := x35.Name) (v := true) (l := s31.1) QbD hm46 Z underlying251) ?_
  exact FE Z (Go 7 Z (Qf h33 (Lr [0])))
 subst hbe
 exact Gx 1 Z (TC.le hle (Gc 6 Z (Rt h 4 [])))
def F_do (n : Nat) (a1 : Offence) : Option Unit :=
  some ()
theorem k_do (n : Nat) (a1 : Offence) (r : Unit) (h : F_do n a1 = some r) :
    Csm prog 96 [.agg (Offence.c a1)] [] (fun _ => .str a1.Name) r := by
 refine Qb func96 Z Z Z ?_
 exact G0 14 Z (Rt h 2 [])
def F_in (n : Nat) (a1 : List Offence) (s31 : (List (List UInt8 × Bool)) × Int) : Option (Ctl ((List (List UInt8 × Bool)) × Int) (Ctl Unit Bool)) :=
  (bif decide (s31.2 < (a1.length : Int)) then (idx a1 s31.2).bind fun x35 => (F_do n x35).bind fun r36 => ((F_e n x35.Name).bind fun r42 => (bif (!r42) then some true else (some (mgetD s31.1 x35.Name false)).bind fun v44 => some v44) : Option Bool).bind fun b40 => (bif b40 then some (.done (.done false)) else (some (mset s31.1 x35.Name true)).bind fun m46 => some (.cont (m46, IntKind.i64.wrap (s31.2 + 1)))) else some (.done (.cont ())))
def F_bi (n : Nat) (a1 : List Offence) : Option Bool :=
  (iter (F_in n a1) n ([], 0) : Option (Ctl Unit Bool)).bind fun b28 => match b28 with | .cont sb28 => (some true) | .done sb28 => some sb28
theorem k_bi (n : Nat) (a1 : List Offence) (r : Bool) (h : F_bi n a1 = some r) :
    Csm prog 95 [.rsl 4 (List.map Offence.c a1), .fn (.func 96) [] []] [] (fun r => .bool r) r := by
 refine Qb func95 Z Z Z ?_
 refine G0 7 Z ?_
 refine vH QV ?_
 refine FE Z (Go 7 Z (Lm Z (Go 3 Z (Bd h fun b28 h29 h => ?_))))
 refine CtE (b := b28) [] [] (fun _ => []) (fun _ => []) (fun _ => rfl) ?_ (fun sb28 env H hbe hle => ?_)
 ·refine G0 1 Z ?_
  refine Lp [0] [1,5,10,11] (fun s31 => [(12, I s31.2)]) (fun s31 => [(0, .map (menc A.str A.bool s31.1))]) h29 (fun _ => rfl) (Lr [0]) fun s31 d32 h33 hb30 => ?_
  refine G0 6 Z (Q1 Z h33 (fun hc34 h33 => ?_) (fun hc34 h33 => ?_))
  ·refine Gc 2 Z (Qg h33 ?_)
   obtain rfl := Oj hb30 h33
   exact Gx 1 Z (Qh Z (Lr []))
  refine Gc 6 Z (Bd h33 fun x35 hx35 h33 => Iz hx35 Z (Go 9 Z (Cz [] h33 (k_do _ _) Z fun r36 hr36 h33 => Go 5 Z (Bd h33 fun b40 h41 h33 => ?_))))
  refine Ct b40 [0] [1,5,8,10,11,12] (fun b40 => [(26, .bool b40)]) (fun _ => []) (fun _ => rfl) ?_ (fun env H hle => ?_)
  ·refine G0 2 Z (Cz [] h41 (k_e _ _) Z fun r42 hr42 h41 => Go 2 Z (Is 22 h41 Z (fun hg43 h41 => ?_) (fun hg43 h41 => ?_)))
   ·exact Go 5 Z (Cl h41 [0])
   ·refine Go 2 Z (Bd h41 fun v44 hv44 h41 => ?_)
    refine vX (.bool v44) (Q5 (ev := A.bool) (z0 := false) (k := x35.Name) (l := s31.1) QbD hv44 underlying251 zeroValue4 ZR.bool) ?_ (gT Z)
    exact Go 2 Z (Cl h41 [0])
  refine Gx 1 Z (TC.le hle (Cn Z h33 (fun hc45 h33 => ?_) (fun hc45 h33 => ?_)))
  ·refine Gc 9 Z (Qk h33 ?_)
   obtain rfl := Oj hb30 h33
   exact Gx 1 Z (Qi (Gx 1 Z (Rt h 4 [])))
  refine Gc 5 Z (Bd h33 fun m46 hm46 h33 => ?_)
  refine vU (Q6 (ev := A.bool) (k := x35.Name) (v := true) (l := s31.1) QbD hm46 Z underlying251) ?_
  exact FE Z (Go 7 Z (Qf h33 (Lr [0])))
 subst hbe
 exact Gx 1 Z (TC.le hle (Gc 6 Z (Rt h 4 [])))
def F_ff (n : Nat) (a1 : Category) : Option Unit :=
  some ()
theorem k_ff (n : Nat) (a1 : Category) (r : Unit) (h : F_ff n a1 = some r) :
    Csm prog 98 [.agg (Category.c a1)] [] (fun _ => .str a1.Name) r := by
 refine Qb func98 Z Z Z ?_
 exact G0 14 Z (Rt h 2 [])
def F_il (n : Nat) (a1 : List Category) (s31 : (List (List UInt8 × Bool)) × Int) : Option (Ctl ((List (List UInt8 × Bool)) × Int) (Ctl Unit Bool)) :=
  (bif decide (s31.2 < (a1.length : Int)) then (idx a1 s31.2).bind fun x35 => (F_ff n x35).bind fun r36 => ((F_e n x35.Name).bind fun r42 => (bif (!r42) then some true else (some (mgetD s31.1 x35.Name false)).bind fun v44 => some v44) : Option Bool).bind fun b40 => (bif b40 then some (.done (.done false)) else (some (mset s31.1 x35.Name true)).bind fun m46 => some (.cont (m46, IntKind.i64.wrap (s31.2 + 1)))) else some (.done (.cont ())))
def F_de (n : Nat) (a1 : List Category) : Option Bool :=
  (iter (F_il n a1) n ([], 0) : Option (Ctl Unit Bool)).bind fun b28 => match b28 with | .cont sb28 => (some true) | .done sb28 => some sb28
theorem k_de (n : Nat) (a1 : List Category) (r : Bool) (h : F_de n a1 = some r) :
    Csm prog 97 [.rsl 3 (List.map Category.c a1), .fn (.func 98) [] []] [] (fun r => .bool r) r := by
 refine Qb func97 Z Z Z ?_
 refine G0 7 Z ?_
 refine vH QV ?_
 refine FE Z (Go 7 Z (Lm Z (Go 3 Z (Bd h fun b28 h29 h => ?_))))
 refine CtE (b := b28) [] [] (fun _ => []) (fun _ => []) (fun _ => rfl) ?_ (fun sb28 env H hbe hle => ?_)
 ·refine G0 1 Z ?_
  refine Lp [0] [1,5,10,11] (fun s31 => [(12, I s31.2)]) (fun s31 => [(0, .map (menc A.str A.bool s31.1))]) h29 (fun _ => rfl) (Lr [0]) fun s31 d32 h33 hb30 => ?_
  refine G0 6 Z (Q1 Z h33 (fun hc34 h33 => ?_) (fun hc34 h33 => ?_))
  ·refine Gc 2 Z (Qg h33 ?_)
   obtain rfl := Oj hb30 h33
   exact Gx 1 Z (Qh Z (Lr []))
  refine Gc 6 Z (Bd h33 fun x35 hx35 h33 => Iz hx35 Z (Go 9 Z (Cz [] h33 (k_ff _ _) Z fun r36 hr36 h33 => Go 5 Z (Bd h33 fun b40 h41 h33 => ?_))))
  refine Ct b40 [0] [1,5,8,10,11,12] (fun b40 => [(26, .bool b40)]) (fun _ => []) (fun _ => rfl) ?_ (fun env H hle => ?_)
  ·refine G0 2 Z (Cz [] h41 (k_e _ _) Z fun r42 hr42 h41 => Go 2 Z (Is 22 h41 Z (fun hg43 h41 => ?_) (fun hg43 h41 => ?_)))
   ·exact Go 5 Z (Cl h41 [0])
   ·refine Go 2 Z (Bd h41 fun v44 hv44 h41 => ?_)
    refine vX (.bool v44) (Q5 (ev := A.bool) (z0 := false) (k := x35.Name) (l := s31.1) QbD hv44 underlying251 zeroValue4 ZR.bool) ?_ (gT Z)
    exact Go 2 Z (Cl h41 [0])
  refine Gx 1 Z (TC.le hle (Cn Z h33 (fun hc45 h33 => ?_) (fun hc45 h33 => ?_)))
  ·refine Gc 9 Z (Qk h33 ?_)
   obtain rfl := Oj hb30 h33
   exact Gx 1 Z (Qi (Gx 1 Z (Rt h 4 [])))
  refine Gc 5 Z (Bd h33 fun m46 hm46 h33 => ?_)
  refine vU (Q6 (ev := A.bool) (k := x35.Name) (v := true) (l := s31.1) QbD hm46 Z underlying251) ?_
  exact FE Z (Go 7 Z (Qf h33 (Lr [0])))
 subst hbe
 exact Gx 1 Z (TC.le hle (Gc 6 Z (Rt h 4 [])))
def F_bv (n : Nat) (a1 : Course) : Option Bool :=
  ((F_e n a1.Name).bind fun r14 => (bif r14 then (F_da n a1.Mats).bind fun r16 => (bif r16 then (F_br n a1.Distances).bind fun r18 => (bif r18 then (F_bw n a1.Waves).bind fun r20 => (bif r20 then (F_bi n a1.Offences).bind fun r22 => (bif r22 then (F_de n a1.Categories).bind fun r24 => some r24 else some false) else some false) else some false) else some false) else some false) : Option Bool).bind fun b12 => some b12
theorem k_bv (n : Nat) (a1 : Course) (r : Bool) (h : F_bv n a1 = some r) :
    Csm prog 54 [.agg (Course.c a1)] [] (fun r => .bool r) r := by
 refine Qb func54 Z Z Z ?_
 refine G0 7 Z (Bd h fun b12 h13 h => ?_)
 refine Ct b12 [] [] (fun b12 => [(2, .bool b12)]) (fun _ => []) (fun _ => rfl) ?_ (fun env H hle => ?_)
 ·refine G0 3 Z (Cz [] h13 (k_e _ _) Z fun r14 hr14 h13 => Go 1 Z (Is 6 h13 Z (fun hg15 h13 => ?_) (fun hg15 h13 => ?_)))
  ·refine Go 2 Z (Cz [] h13 (k_da _ _) Z fun r16 hr16 h13 => Go 2 Z (Is 11 h13 Z (fun hg17 h13 => ?_) (fun hg17 h13 => ?_)))
   ·refine Go 2 Z (Cz [] h13 (k_br _ _) Z fun r18 hr18 h13 => Go 2 Z (Is 16 h13 Z (fun hg19 h13 => ?_) (fun hg19 h13 => ?_)))
    ·refine Go 2 Z (Cz [] h13 (k_bw _ _) Z fun r20 hr20 h13 => Go 2 Z (Is 21 h13 Z (fun hg21 h13 => ?_) (fun hg21 h13 => ?_)))
     ·refine Go 2 Z (Cz [] h13 (k_bi _ _) Z fun r22 hr22 h13 => Go 2 Z (Is 26 h13 Z (fun hg23 h13 => ?_) (fun hg23 h13 => ?_)))
      ·exact Go 2 Z (Cz [] h13 (k_de _ _) Z fun r24 hr24 h13 => Go 3 Z (Cl h13 []))
      ·exact Go 6 Z (Cl h13 [])
     ·exact Go 11 Z (Cl h13 [])
    ·exact Go 16 Z (Cl h13 [])
   ·exact Go 21 Z (Cl h13 [])
  ·exact Go 26 Z (Cl h13 [])
 exact Gx 1 Z (TC.le hle (Gc 1 Z (Rt h 2 [])))
def F_az (n : Nat) (a1 : Int) (a2 : Int) (a3 : Int) : Option Bool :=
  ((bif decide (a1 < a2) then some true else some (decide (a3 < a1))) : Option Bool).bind fun b2 => some b2
theorem k_az (n : Nat) (a1 : Int) (a2 : Int) (a3 : Int) (r : Bool) (h : F_az n a1 a2 a3 = some r) :
    Csm prog 153 [I a1, .ptr 0 0, .ptr 1 0] [.cells 3 [I a2], .cells 3 [I a3]] (fun r => .bool r) r := by
 refine Qb func153 Z Z Z ?_
 refine G0 6 Z (Bd h fun b2 h3 h => ?_)
 refine Ct b2 [0,1] [] (fun b2 => [(4, .bool b2)]) (fun _ => []) (fun _ => rfl) ?_ (fun env H hle => ?_)
 ·refine G0 5 Z (Is 8 h3 Z (fun hg4 h3 => ?_) (fun hg4 h3 => ?_))
  ·exact Go 6 Z (Cl h3 [0,1])
  ·exact Go 6 Z (Cl h3 [0,1])
 exact Gx 1 Z (TC.le hle (Gc 1 Z (Rt h 4 [0,1])))
def F_iv (n : Nat) (a1 : List Int) (a2 : Int) (a3 : Int) (s13 : Int) : Option (Ctl Int (Ctl Unit Int)) :=
  (bif decide (s13 < (a1.length : Int)) then (idx a1 s13).bind fun x17 => (F_az n x17 a2 a3).bind fun r18 => (bif r18 then some (.done (.done s13)) else some (.cont (IntKind.i64.wrap (s13 + 1)))) else some (.done (.cont ())))
def F_dt (n : Nat) (a1 : List Int) (a2 : Int) (a3 : Int) : Option Int :=
  (iter (F_iv n a1 a2 a3) n 0 : Option (Ctl Unit Int)).bind fun b10 => match b10 with | .cont sb10 => (some (-1)) | .done sb10 => some sb10
theorem k_dt (n : Nat) (a1 : List Int) (a2 : Int) (a3 : Int) (r : Int) (h : F_dt n a1 a2 a3 = some r) :
    Csm prog 208 [.rsl 1 (List.map (encI .i64) a1), .fn (.func 153) [] [.ptr 0 0, .ptr 1 0]] [.cells 3 [I a2], .cells 3 [I a3]] (fun r => I r) r :=
 QQ (el := fun x => I x) (g := fun x => F_az n x a2 a3) func208 Z Z Z runUnderlying48 sizeOf3 (fun _ _ _ _ h1 h2 => OpV.load h1 isAgg3 h2 Pts.rp) call153 (fun _ _ h => k_az _ _ _ _ _ h) h
def F_bt (n : Nat) (a1 : List Int) (a2 : Int) (a3 : Int) : Option Bool :=
  (F_dt n a1 a2 a3).bind fun r1 => some (decide (0 <= r1))
theorem k_bt (n : Nat) (a1 : List Int) (a2 : Int) (a3 : Int) (r : Bool) (h : F_bt n a1 a2 a3 = some r) :
    Csm prog 152 [.rsl 1 (List.map (encI .i64) a1), .fn (.func 153) [] [.ptr 0 0, .ptr 1 0]] [.cells 3 [I a2], .cells 3 [I a3]] (fun r => .bool r) r := by
 refine Qb func152 Z Z Z ?_
 exact G0 9 Z (Cz [0, 1] h (k_dt _ _ _ _) Z fun r1 hr1 h => Go 5 Z (Rt h 4 [0,1]))
def F_a (n : Nat) (a1 : Int) (a2 : Int) (a3 : List Int) : Option Bool :=
  (F_bt n a3 a1 a2).bind fun r1 => some (!r1)
theorem k_a (n : Nat) (a1 : Int) (a2 : Int) (a3 : List Int) (r : Bool) (h : F_a n a1 a2 a3 = some r) :
    Csm prog 100 [I a1, I a2, .rsl 1 (List.map (encI .i64) a3)] [] (fun r => .bool r) r := by
 refine Qb func100 Z Z Z ?_
 exact G0 11 Z (Cz [0, 1] h (k_bt _ _ _ _) Z fun r1 hr1 h => Go 5 Z (Rt h 6 []))
def F_by (n : Nat) (a1 : Mat) : Option Bool :=
  (F_a n 1 3 [a1.Kind]).bind fun r1 => some r1
theorem k_by (n : Nat) (a1 : Mat) (r : Bool) (h : F_by n a1 = some r) :
    Csm prog 109 [.agg (Mat.c a1)] [] (fun r => .bool r) r := by
 refine Qb func109 Z Z Z ?_
 refine G0 10 Z ?_
 refine vH (OpH.lit (xs := [.tmp 4]) (es := List.map (encI .i64) [a1.Kind]) QJ Z Z Z Z Z ⟨Z, trivial⟩ Z Z) ?_
 exact FE Z (Cb h (k_a _ _ _ _) Z (ls (ls (lo ln))) fun r1 hr1 h => Go 4 Z (Rt h 2 []))
def F_ge (n : Nat) (a1 : Mat) : Option Bool :=
  (F_by n a1).bind fun r1 => some (!r1)
theorem k_ge (n : Nat) (a1 : Mat) (r : Bool) (h : F_ge n a1 = some r) :
    Csm prog 159 [.agg (Mat.c a1), .ptr 0 0] [.cells 206 [.fn (.func 109) [] []]] (fun r => .bool r) r := by
 refine Qb func159 Z Z Z ?_
 exact G0 10 Z (Cz [] h (k_by _ _) Z fun r1 hr1 h => Go 5 Z (Rt h 3 [0]))
def F_jc (n : Nat) (a1 : List Mat) (s13 : Int) : Option (Ctl Int (Ctl Unit Int)) :=
  (bif decide (s13 < (a1.length : Int)) then (idx a1 s13).bind fun x17 => (F_ge n x17).bind fun r18 => (bif r18 then some (.done (.done s13)) else some (.cont (IntKind.i64.wrap (s13 + 1)))) else some (.done (.cont ())))
def F_eb (n : Nat) (a1 : List Mat) : Option Int :=
  (iter (F_jc n a1) n 0 : Option (Ctl Unit Int)).bind fun b10 => match b10 with | .cont sb10 => (some (-1)) | .done sb10 => some sb10
theorem k_eb (n : Nat) (a1 : List Mat) (r : Int) (h : F_eb n a1 = some r) :
    Csm prog 211 [.rsl 2 (List.map Mat.c a1), .fn (.func 159) [] [.ptr 0 0]] [.cells 206 [.fn (.func 109) [] []]] (fun r => I r) r :=
 QQ (el := fun x => .agg (Mat.c x)) (g := fun x => F_ge n x) func211 Z Z Z runUnderlying22 sizeOf96 (fun _ _ _ _ h1 h2 => Ql h1 isAgg96 sizeOf96 h2 Pts.rp Z Z) call159 (fun _ _ h => k_ge _ _ _ h) h
def F_dp (n : Nat) (a1 : List Mat) : Option Bool :=
  (F_eb n a1).bind fun r1 => some (decide (0 <= r1))
theorem k_dp (n : Nat) (a1 : List Mat) (r : Bool) (h : F_dp n a1 = some r) :
    Csm prog 158 [.rsl 2 (List.map Mat.c a1), .fn (.func 159) [] [.ptr 0 0]] [.cells 206 [.fn (.func 109) [] []]] (fun r => .bool r) r := by
 refine Qb func158 Z Z Z ?_
 exact G0 9 Z (Cz [0] h (k_eb _ _) Z fun r1 hr1 h => Go 5 Z (Rt h 4 [0]))
def F_cg (n : Nat) (a1 : List Mat) : Option Bool :=
  (F_dp n a1).bind fun r1 => some (!r1)
theorem k_cg (n : Nat) (a1 : List Mat) (r : Bool) (h : F_cg n a1 = some r) :
    Csm prog 108 [.rsl 2 (List.map Mat.c a1), .fn (.func 109) [] []] [] (fun r => .bool r) r := by
 refine Qb func108 Z Z Z ?_
 exact G0 10 Z (Cz [0] h (k_dp _ _) Z fun r1 hr1 h => Go 5 Z (Rt h 4 []))
def F_bk (n : Nat) (a1 : Leg) (a2 : Int) : Option Bool :=
  ((F_a n 0 a2 [a1.From, a1.To]).bind fun r7 => (bif r7 then (F_a n 0 68719476736 [a1.Min, a1.Max]).bind fun r9 => (bif r9 then some (decide (a1.Min <= a1.Max)) else some false) else some false) : Option Bool).bind fun b5 => some b5
theorem k_bk (n : Nat) (a1 : Leg) (a2 : Int) (r : Bool) (h : F_bk n a1 a2 = some r) :
    Csm prog 105 [.agg (Leg.c a1), .ptr 0 0] [.cells 3 [I a2]] (fun r => .bool r) r := by
 refine Qb func105 Z Z Z ?_
 refine G0 7 Z (Bd h fun b5 h6 h => ?_)
 refine Ct b5 [0] [] (fun b5 => [(3, .bool b5)]) (fun _ => []) (fun _ => rfl) ?_ (fun env H hle => ?_)
 ·refine G0 6 Z ?_
  refine vH (OpH.lit (xs := [.tmp 6, .tmp 8]) (es := List.map (encI .i64) [a1.From, a1.To]) QJ Z Z Z Z Z ⟨Z, Z, trivial⟩ Z Z) ?_
  refine FE Z (Cb h6 (k_a _ _ _ _) Z (ls (ls (lo ln))) fun r7 hr7 h6 => Go 1 Z (Is 11 h6 Z (fun hg8 h6 => ?_) (fun hg8 h6 => ?_)))
  ·refine Go 4 Z ?_
   refine vH (OpH.lit (xs := [.tmp 13, .tmp 15]) (es := List.map (encI .i64) [a1.Min, a1.Max]) QJ Z Z Z Z Z ⟨Z, Z, trivial⟩ Z Z) ?_ (gT Z)
   refine FE Z (Cb h6 (k_a _ _ _ _) Z (ls (ls (lo ln))) fun r9 hr9 h6 => Go 2 Z (Is 19 h6 Z (fun hg10 h6 => ?_) (fun hg10 h6 => ?_)))
   ·exact Go 8 Z (Cl h6 [0])
   ·exact Go 8 Z (Cl h6 [0])
  ·exact Go 16 Z (Cl h6 [0])
 exact Gx 1 Z (TC.le hle (Gc 1 Z (Rt h 3 [0])))
def F_fb (n : Nat) (a1 : Leg) (a2 : Int) : Option Bool :=
  (F_bk n a1 a2).bind fun r1 => some (!r1)
theorem k_fb (n : Nat) (a1 : Leg) (a2 : Int) (r : Bool) (h : F_fb n a1 a2 = some r) :
    Csm prog 161 [.agg (Leg.c a1), .ptr 0 0] [.cells 202 [.fn (.func 105) [] [.ptr 1 0]], .cells 3 [I a2]] (fun r => .bool r) r := by
 refine Qb func161 Z Z Z ?_
 exact G0 10 Z (Cz [1] h (k_bk _ _ _) Z fun r1 hr1 h => Go 5 Z (Rt h 3 [0,1]))
def F_io (n : Nat) (a1 : List Leg) (a2 : Int) (s13 : Int) : Option (Ctl Int (Ctl Unit Int)) :=
  (bif decide (s13 < (a1.length : Int)) then (idx a1 s13).bind fun x17 => (F_fb n x17 a2).bind fun r18 => (bif r18 then some (.done (.done s13)) else some (.cont (IntKind.i64.wrap (s13 + 1)))) else some (.done (.cont ())))
def F_dz (n : Nat) (a1 : List Leg) (a2 : Int) : Option Int :=
  (iter (F_io n a1 a2) n 0 : Option (Ctl Unit Int)).bind fun b10 => match b10 with | .cont sb10 => (some (-1)) | .done sb10 => some sb10
theorem k_dz (n : Nat) (a1 : List Leg) (a2 : Int) (r : Int) (h : F_dz n a1 a2 = some r) :
    Csm prog 212 [.rsl 4 (List.map Leg.c a1), .fn (.func 161) [] [.ptr 0 0]] [.cells 202 [.fn (.func 105) [] [.ptr 1 0]], .cells 3 [I a2]] (fun r => I r) r :=
 QQ (el := fun x => .agg (Leg.c x)) (g := fun x => F_fb n x a2) func212 Z Z Z runUnderlying23 sizeOf123 (fun _ _ _ _ h1 h2 => Ql h1 isAgg123 sizeOf123 h2 Pts.rp Z Z) call161 (fun _ _ h => k_fb _ _ _ _ h) h
def F_fw (n : Nat) (a1 : List Leg) (a2 : Int) : Option Bool :=
  (F_dz n a1 a2).bind fun r1 => some (decide (0 <= r1))
theorem k_fw (n : Nat) (a1 : List Leg) (a2 : Int) (r : Bool) (h : F_fw n a1 a2 = some r) :
    Csm prog 160 [.rsl 4 (List.map Leg.c a1), .fn (.func 161) [] [.ptr 0 0]] [.cells 202 [.fn (.func 105) [] [.ptr 1 0]], .cells 3 [I a2]] (fun r => .bool r) r := by
 refine Qb func160 Z Z Z ?_
 exact G0 9 Z (Cz [0, 1] h (k_dz _ _ _) Z fun r1 hr1 h => Go 5 Z (Rt h 4 [0,1]))
def F_bf (n : Nat) (a1 : List Leg) (a2 : Int) : Option Bool :=
  (F_fw n a1 a2).bind fun r1 => some (!r1)
theorem k_bf (n : Nat) (a1 : List Leg) (a2 : Int) (r : Bool) (h : F_bf n a1 a2 = some r) :
    Csm prog 110 [.rsl 4 (List.map Leg.c a1), .fn (.func 105) [] [.ptr 0 0]] [.cells 3 [I a2]] (fun r => .bool r) r := by
 refine Qb func110 Z Z Z ?_
 exact G0 10 Z (Cz [1, 0] h (k_fw _ _ _) Z fun r1 hr1 h => Go 5 Z (Rt h 4 [0]))
def F_gj (n : Nat) (a1 : Leg) : Option Unit :=
  some ()
theorem k_gj (n : Nat) (a1 : Leg) (r : Unit) (h : F_gj n a1 = some r) :
    C prog 112 [.agg (Leg.c a1)] [] (RQ (fun _ => .agg [I a1.From, I a1.To]) (fun _ => [.cells 136 [I a1.From, I a1.To]]) r) := by
 refine Qb func112 Z Z Z ?_
 refine G0 17 Z ?_
 obtain rfl := Oi h
 exact Rx [1] [2] Z (YH Z (Qj isAgg136 sizeOf136 Z Z Z)) ⟨Z, Z⟩
def F_hx (n : Nat) (a1 : List Leg) (s13 : (List (typing_ends × Bool)) × Int) : Option (Ctl ((List (typing_ends × Bool)) × Int) (List (typing_ends × Bool))) :=
  (bif decide (s13.2 < (a1.length : Int)) then (idx a1 s13.2).bind fun x17 => (F_gj n x17).bind fun r18 => (some (mset s13.1 ({ from_ := x17.From, to_ := x17.To : typing_ends }) true)).bind fun m19 => some (.cont (m19, IntKind.i64.wrap (s13.2 + 1))) else some (.done s13.1))
def F_dd (n : Nat) (a1 : List Leg) : Option Bool :=
  (iter (F_hx n a1) n ([], 0) : Option (List (typing_ends × Bool))).bind fun b10 => some ((b10.length : Int) == (a1.length : Int))
theorem k_dd (n : Nat) (a1 : List Leg) (r : Bool) (h : F_dd n a1 = some r) :
    Csm prog 111 [.rsl 4 (List.map Leg.c a1), .fn (.func 112) [] []] [] (fun r => .bool r) r := by
 refine Qb func111 Z Z Z ?_
 refine G0 7 Z ?_
 refine vH QV ?_
 refine FE Z (Go 7 Z (Lm Z (Go 3 Z (Bd h fun b10 h11 h => ?_))))
 refine Ct b10 [0] [0,5] (fun _ => []) (fun b10 => [(0, .map (menc (fun x => A.agg (typing_ends.c x)) A.bool b10))]) (fun _ => rfl) ?_ (fun env H hle => ?_)
 ·refine G0 1 Z ?_
  refine Lp [0] [0,1,5,9,10] (fun s13 => [(11, I s13.2)]) (fun s13 => [(0, .map (menc (fun x => A.agg (typing_ends.c x)) A.bool s13.1))]) h11 (fun _ => rfl) (Lr [0]) fun s13 d14 h15 hb12 => ?_
  refine G0 6 Z (Q1 Z h15 (fun hc16 h15 => ?_) (fun hc16 h15 => ?_))
  ·refine Gc 2 Z (Qg h15 ?_)
   obtain rfl := Oj hb12 h15
   exact Gx 1 Z (Qt (Lr [0]))
  refine Gc 6 Z (Bd h15 fun x17 hx17 h15 => Iz hx17 Z (Go 9 Z (Cd [] h15 (k_gj _ _) Z fun r18 hr18 h15 => FE Z (Bd h15 fun m19 hm19 h15 => ?_))))
  refine vU (Q6 (ev := A.bool) (k := ({ from_ := x17.From, to_ := x17.To : typing_ends })) (v := true) (l := s13.1) QcZ hm19 Z underlying134) ?_
  exact FE Z (Go 7 Z (Qf h15 (Lr [0])))
 refine Gx 1 Z (TC.le hle (Gc 3 Z ?_))
 refine vX (I (b10.length : Int)) (Qa7 (l := b10) underlying134 Z) ?_
 exact Go 1 Z (Lm Z (Go 5 Z (Rt h 4 [])))
def F_ba (rec46 : (List Part) -> Int -> Option Bool) (n : Nat) (a1 : Part) (a2 : Int) : Option Bool :=
  (bif (a1.Laps == 0) then ((F_a n 0 a2 [a1.Mat]).bind fun r6 => (bif r6 then some ((a1.Parts.length : Int) == 0) else some false) : Option Bool).bind fun b4 => some b4 else ((F_a n 1 64 [a1.Laps]).bind fun r15 => (bif r15 then (bif (a1.Mat == 0) then (bif decide (0 < (a1.Parts.length : Int)) then (rec46 a1.Parts a2).bind fun r19 => some r19 else some false) else some false) else some false) : Option Bool).bind fun b13 => some b13)
theorem k_ba (rec46 : (List Part) -> Int -> Option Bool) (hrec46 : ∀ (a1 : List Part) (a2 : Int) (r : Bool), rec46 a1 a2 = some r -> Csm prog 101 [.rsl 3 (List.map Part.enc a1), .fn (.func 99) [] [.ptr 0 0, .ptr 1 0]] [.cells 3 [I a2], .cells 197 [.fn (.func 99) [] [.ptr 0 0, .ptr 1 0]]] (fun r => .bool r) r) (n : Nat) (a1 : Part) (a2 : Int) (r : Bool) (h : F_ba rec46 n a1 a2 = some r) :
    Csm prog 99 [.agg (Part.c a1), .ptr 0 0, .ptr 1 0] [.cells 3 [I a2], .cells 197 [.fn (.func 99) [] [.ptr 0 0, .ptr 1 0]]] (fun r => .bool r) r := by
 refine Qb func99 Z Z Z ?_
 refine G0 14 Z (Cn Z h (fun hc1 h => ?_) (fun hc1 h => ?_))
 ·refine Gc 1 Z (Bd h fun b4 h5 h => ?_)
  refine Ct b4 [0,1] [] (fun b4 => [(4, .bool b4)]) (fun _ => []) (fun _ => rfl) ?_ (fun env H hle => ?_)
  ·refine G0 4 Z ?_
   refine vH (OpH.lit (xs := [.tmp 10]) (es := List.map (encI .i64) [a1.Mat]) QJ Z Z Z Z Z ⟨Z, trivial⟩ Z Z) ?_
   refine FE Z (Cb h5 (k_a _ _ _ _) Z (ls (ls (lo ln))) fun r6 hr6 h5 => Go 1 Z (Is 13 h5 Z (fun hg7 h5 => ?_) (fun hg7 h5 => ?_)))
   ·exact Go 2 Z (Lm Z (Go 4 Z (Cl h5 [0,1])))
   ·exact Go 7 Z (Cl h5 [0,1])
  exact Gx 1 Z (TC.le hle (Gc 2 Z (Rt h 4 [0,1])))
 refine Gc 3 Z (Bd h fun b13 h14 h => ?_)
 refine Ct b13 [0,1] [] (fun b13 => [(4, .bool b13)]) (fun _ => []) (fun _ => rfl) ?_ (fun env H hle => ?_)
 ·refine G0 3 Z ?_
  refine vH (OpH.lit (xs := [.tmp 20]) (es := List.map (encI .i64) [a1.Laps]) QJ Z Z Z Z Z ⟨Z, trivial⟩ Z Z) ?_
  refine FE Z (Cb h14 (k_a _ _ _ _) Z (ls (ls (lo ln))) fun r15 hr15 h14 => Go 1 Z (Is 23 h14 Z (fun hg16 h14 => ?_) (fun hg16 h14 => ?_)))
  ·refine Go 5 Z (Is 28 h14 Z (fun hg17 h14 => ?_) (fun hg17 h14 => ?_))
   ·refine Go 2 Z (Lm Z (Go 3 Z (Is 34 h14 Z (fun hg18 h14 => ?_) (fun hg18 h14 => ?_))))
    ·exact Go 3 Z (Cz [0, 1] h14 (hrec46 _ _) Z fun r19 hr19 h14 => Go 3 Z (Cl h14 [0,1]))
    ·exact Go 7 Z (Cl h14 [0,1])
   ·exact Go 13 Z (Cl h14 [0,1])
  ·exact Go 18 Z (Cl h14 [0,1])
 exact Gx 1 Z (TC.le hle (Gc 1 Z (Rt h 4 [0,1])))
def F_gk (rec46 : (List Part) -> Int -> Option Bool) (n : Nat) (a1 : Part) (a2 : Int) : Option Bool :=
  (F_ba rec46 n a1 a2).bind fun r1 => some (!r1)
theorem k_gk (rec46 : (List Part) -> Int -> Option Bool) (hrec46 : ∀ (a1 : List Part) (a2 : Int) (r : Bool), rec46 a1 a2 = some r -> Csm prog 101 [.rsl 3 (List.map Part.enc a1), .fn (.func 99) [] [.ptr 0 0, .ptr 1 0]] [.cells 3 [I a2], .cells 197 [.fn (.func 99) [] [.ptr 0 0, .ptr 1 0]]] (fun r => .bool r) r) (n : Nat) (a1 : Part) (a2 : Int) (r : Bool) (h : F_gk rec46 n a1 a2 = some r) :
    Csm prog 155 [.agg (Part.c a1), .ptr 0 0] [.cells 197 [.fn (.func 99) [] [.ptr 1 0, .ptr 2 0]], .cells 3 [I a2], .cells 197 [.fn (.func 99) [] [.ptr 1 0, .ptr 2 0]]] (fun r => .bool r) r := by
 refine Qb func155 Z Z Z ?_
 exact G0 10 Z (Cz [1, 2] h (k_ba rec46 hrec46 _ _ _) Z fun r1 hr1 h => Go 5 Z (Rt h 3 [0,1,2]))
def F_ja (n : Nat) (a1 : List Part) (a2 : Int) (rec46 : (List Part) -> Int -> Option Bool) (s13 : Int) : Option (Ctl Int (Ctl Unit Int)) :=
  (bif decide (s13 < (a1.length : Int)) then (idx a1 s13).bind fun x17 => (F_gk rec46 n x17 a2).bind fun r18 => (bif r18 then some (.done (.done s13)) else some (.cont (IntKind.i64.wrap (s13 + 1)))) else some (.done (.cont ())))
def F_cc (rec46 : (List Part) -> Int -> Option Bool) (n : Nat) (a1 : List Part) (a2 : Int) : Option Int :=
  (iter (F_ja n a1 a2 rec46) n 0 : Option (Ctl Unit Int)).bind fun b10 => match b10 with | .cont sb10 => (some (-1)) | .done sb10 => some sb10
theorem k_cc (rec46 : (List Part) -> Int -> Option Bool) (hrec46 : ∀ (a1 : List Part) (a2 : Int) (r : Bool), rec46 a1 a2 = some r -> Csm prog 101 [.rsl 3 (List.map Part.enc a1), .fn (.func 99) [] [.ptr 0 0, .ptr 1 0]] [.cells 3 [I a2], .cells 197 [.fn (.func 99) [] [.ptr 0 0, .ptr 1 0]]] (fun r => .bool r) r) (n : Nat) (a1 : List Part) (a2 : Int) (r : Int) (h : F_cc rec46 n a1 a2 = some r) :
    Csm prog 209 [.rsl 3 (List.map Part.enc a1), .fn (.func 155) [] [.ptr 0 0]] [.cells 197 [.fn (.func 99) [] [.ptr 1 0, .ptr 2 0]], .cells 3 [I a2], .cells 197 [.fn (.func 99) [] [.ptr 1 0, .ptr 2 0]]] (fun r => I r) r := by
 refine Qb func209 Z Z Z ?_
 refine G0 9 Z (Lm Z (Go 3 Z (Bd h fun b10 h11 h => ?_)))
 refine CtE (b := b10) [0,1,2] [] (fun _ => []) (fun _ => []) (fun _ => rfl) ?_ (fun sb10 env H hbe hle => ?_)
 ·refine G0 1 Z ?_
  refine Lp [0,1,2] [0,1,7] (fun s13 => [(8, I s13)]) (fun _ => []) h11 (fun _ => rfl) (Lr [0, 1, 2]) fun s13 d14 h15 hb12 => ?_
  refine G0 6 Z (Q1 Z h15 (fun hc16 h15 => ?_) (fun hc16 h15 => ?_))
  ·refine Gc 2 Z (Qg h15 ?_)
   obtain rfl := Oj hb12 h15
   exact Gx 1 Z (Qh Z (Lr [0, 1, 2]))
  refine Gc 15 Z (Bd h15 fun x17 hx17 h15 => IzE hx17 (QB x17) Z (Go 1 Z (Cz [0, 1, 2] h15 (k_gk rec46 hrec46 _ _ _) Z fun r18 hr18 h15 => Go 2 Z (Cn Z h15 (fun hc19 h15 => ?_) (fun hc19 h15 => ?_)))))
  ·refine Gc 9 Z (Qk h15 ?_)
   obtain rfl := Oj hb12 h15
   exact Gx 1 Z (Qi (Gx 1 Z (Rt h 4 [0,1,2])))
  exact Gc 7 Z (Qf h15 (Lr [0, 1, 2]))
 subst hbe
 exact Gx 1 Z (TC.le hle (Gc 6 Z (Rt h 4 [0,1,2])))
def F_dk (rec46 : (List Part) -> Int -> Option Bool) (n : Nat) (a1 : List Part) (a2 : Int) : Option Bool :=
  (F_cc rec46 n a1 a2).bind fun r1 => some (decide (0 <= r1))
theorem k_dk (rec46 : (List Part) -> Int -> Option Bool) (hrec46 : ∀ (a1 : List Part) (a2 : Int) (r : Bool), rec46 a1 a2 = some r -> Csm prog 101 [.rsl 3 (List.map Part.enc a1), .fn (.func 99) [] [.ptr 0 0, .ptr 1 0]] [.cells 3 [I a2], .cells 197 [.fn (.func 99) [] [.ptr 0 0, .ptr 1 0]]] (fun r => .bool r) r) (n : Nat) (a1 : List Part) (a2 : Int) (r : Bool) (h : F_dk rec46 n a1 a2 = some r) :
    Csm prog 154 [.rsl 3 (List.map Part.enc a1), .fn (.func 155) [] [.ptr 0 0]] [.cells 197 [.fn (.func 99) [] [.ptr 1 0, .ptr 2 0]], .cells 3 [I a2], .cells 197 [.fn (.func 99) [] [.ptr 1 0, .ptr 2 0]]] (fun r => .bool r) r := by
 refine Qb func154 Z Z Z ?_
 exact G0 9 Z (Cz [0, 1, 2] h (k_cc rec46 hrec46 _ _ _) Z fun r1 hr1 h => Go 5 Z (Rt h 4 [0,1,2]))
def B_j (rec46 : (List Part) -> Int -> Option Bool) (n : Nat) (a1 : List Part) (a2 : Int) : Option Bool :=
  (F_dk rec46 n a1 a2).bind fun r1 => some (!r1)
theorem QbI (rec46 : (List Part) -> Int -> Option Bool) (hrec46 : ∀ (a1 : List Part) (a2 : Int) (r : Bool), rec46 a1 a2 = some r -> Csm prog 101 [.rsl 3 (List.map Part.enc a1), .fn (.func 99) [] [.ptr 0 0, .ptr 1 0]] [.cells 3 [I a2], .cells 197 [.fn (.func 99) [] [.ptr 0 0, .ptr 1 0]]] (fun r => .bool r) r) (n : Nat) (a1 : List Part) (a2 : Int) (r : Bool) (h : B_j rec46 n a1 a2 = some r) :
    Csm prog 101 [.rsl 3 (List.map Part.enc a1), .fn (.func 99) [] [.ptr 0 0, .ptr 1 0]] [.cells 3 [I a2], .cells 197 [.fn (.func 99) [] [.ptr 0 0, .ptr 1 0]]] (fun r => .bool r) r := by
 refine Qb func101 Z Z Z ?_
 exact G0 10 Z (Cz [2, 0, 1] h (k_dk rec46 hrec46 _ _ _) Z fun r1 hr1 h => Go 5 Z (Rt h 4 [0,1]))
def F_j : Nat -> (List Part) -> Int -> Option Bool
  | 0 => fun _ _ => none
  | n + 1 => B_j (F_j n) n
theorem k_j (n : Nat) : ∀ (a1 : List Part) (a2 : Int) (r : Bool), F_j n a1 a2 = some r -> Csm prog 101 [.rsl 3 (List.map Part.enc a1), .fn (.func 99) [] [.ptr 0 0, .ptr 1 0]] [.cells 3 [I a2], .cells 197 [.fn (.func 99) [] [.ptr 0 0, .ptr 1 0]]] (fun r => .bool r) r := by
  induction n with
  | zero => intro a1 a2 r h; cases h
  | succ n ih => intro a1 a2 r h; exact QbI _ ih n a1 a2 r h
def F_cj (n : Nat) (a1 : Cutoff) (a2 : Int) : Option Bool :=
  ((F_a n 0 a2 [a1.Mat]).bind fun r7 => (bif r7 then (bif decide (1 <= a1.Lap) then (F_a n 0 1099511627776 [a1.Limit]).bind fun r10 => some r10 else some false) else some false) : Option Bool).bind fun b5 => some b5
theorem k_cj (n : Nat) (a1 : Cutoff) (a2 : Int) (r : Bool) (h : F_cj n a1 a2 = some r) :
    Csm prog 102 [.agg (Cutoff.c a1), .ptr 0 0] [.cells 3 [I a2]] (fun r => .bool r) r := by
 refine Qb func102 Z Z Z ?_
 refine G0 7 Z (Bd h fun b5 h6 h => ?_)
 refine Ct b5 [0] [] (fun b5 => [(3, .bool b5)]) (fun _ => []) (fun _ => rfl) ?_ (fun env H hle => ?_)
 ·refine G0 4 Z ?_
  refine vH (OpH.lit (xs := [.tmp 6]) (es := List.map (encI .i64) [a1.Mat]) QJ Z Z Z Z Z ⟨Z, trivial⟩ Z Z) ?_
  refine FE Z (Cb h6 (k_a _ _ _ _) Z (ls (ls (lo ln))) fun r7 hr7 h6 => Go 1 Z (Is 9 h6 Z (fun hg8 h6 => ?_) (fun hg8 h6 => ?_)))
  ·refine Go 5 Z (Is 14 h6 Z (fun hg9 h6 => ?_) (fun hg9 h6 => ?_))
   ·refine Go 2 Z ?_
    refine vH (OpH.lit (xs := [.tmp 16]) (es := List.map (encI .i64) [a1.Limit]) QJ Z Z Z Z Z ⟨Z, trivial⟩ Z Z) ?_ (gT Z)
    exact FE Z (Cb h6 (k_a _ _ _ _) Z (ls (ls (lo ln))) fun r10 hr10 h6 => Go 3 Z (Cl h6 [0]))
   ·exact Go 7 Z (Cl h6 [0])
  ·exact Go 12 Z (Cl h6 [0])
 exact Gx 1 Z (TC.le hle (Gc 1 Z (Rt h 3 [0])))
def F_dw (n : Nat) (a1 : Cutoff) (a2 : Int) : Option Bool :=
  (F_cj n a1 a2).bind fun r1 => some (!r1)
theorem k_dw (n : Nat) (a1 : Cutoff) (a2 : Int) (r : Bool) (h : F_dw n a1 a2 = some r) :
    Csm prog 157 [.agg (Cutoff.c a1), .ptr 0 0] [.cells 200 [.fn (.func 102) [] [.ptr 1 0]], .cells 3 [I a2]] (fun r => .bool r) r := by
 refine Qb func157 Z Z Z ?_
 exact G0 10 Z (Cz [1] h (k_cj _ _ _) Z fun r1 hr1 h => Go 5 Z (Rt h 3 [0,1]))
def F_is (n : Nat) (a1 : List Cutoff) (a2 : Int) (s13 : Int) : Option (Ctl Int (Ctl Unit Int)) :=
  (bif decide (s13 < (a1.length : Int)) then (idx a1 s13).bind fun x17 => (F_dw n x17 a2).bind fun r18 => (bif r18 then some (.done (.done s13)) else some (.cont (IntKind.i64.wrap (s13 + 1)))) else some (.done (.cont ())))
def F_ej (n : Nat) (a1 : List Cutoff) (a2 : Int) : Option Int :=
  (iter (F_is n a1 a2) n 0 : Option (Ctl Unit Int)).bind fun b10 => match b10 with | .cont sb10 => (some (-1)) | .done sb10 => some sb10
theorem k_ej (n : Nat) (a1 : List Cutoff) (a2 : Int) (r : Int) (h : F_ej n a1 a2 = some r) :
    Csm prog 210 [.rsl 3 (List.map Cutoff.c a1), .fn (.func 157) [] [.ptr 0 0]] [.cells 200 [.fn (.func 102) [] [.ptr 1 0]], .cells 3 [I a2]] (fun r => I r) r :=
 QQ (el := fun x => .agg (Cutoff.c x)) (g := fun x => F_dw n x a2) func210 Z Z Z runUnderlying92 sizeOf168 (fun _ _ _ _ h1 h2 => Ql h1 isAgg168 sizeOf168 h2 Pts.rp Z Z) call157 (fun _ _ h => k_dw _ _ _ _ h) h
def F_eq (n : Nat) (a1 : List Cutoff) (a2 : Int) : Option Bool :=
  (F_ej n a1 a2).bind fun r1 => some (decide (0 <= r1))
theorem k_eq (n : Nat) (a1 : List Cutoff) (a2 : Int) (r : Bool) (h : F_eq n a1 a2 = some r) :
    Csm prog 156 [.rsl 3 (List.map Cutoff.c a1), .fn (.func 157) [] [.ptr 0 0]] [.cells 200 [.fn (.func 102) [] [.ptr 1 0]], .cells 3 [I a2]] (fun r => .bool r) r := by
 refine Qb func156 Z Z Z ?_
 exact G0 9 Z (Cz [0, 1] h (k_ej _ _ _) Z fun r1 hr1 h => Go 5 Z (Rt h 4 [0,1]))
def F_bj (n : Nat) (a1 : List Cutoff) (a2 : Int) : Option Bool :=
  (F_eq n a1 a2).bind fun r1 => some (!r1)
theorem k_bj (n : Nat) (a1 : List Cutoff) (a2 : Int) (r : Bool) (h : F_bj n a1 a2 = some r) :
    Csm prog 104 [.rsl 3 (List.map Cutoff.c a1), .fn (.func 102) [] [.ptr 0 0]] [.cells 3 [I a2]] (fun r => .bool r) r := by
 refine Qb func104 Z Z Z ?_
 exact G0 10 Z (Cz [1, 0] h (k_eq _ _ _) Z fun r1 hr1 h => Go 5 Z (Rt h 4 [0]))
def F_bs (n : Nat) (a1 : Distance) (a2 : Int) : Option Bool :=
  ((F_a n 1 3 [a1.Timing]).bind fun r10 => (bif r10 then (F_a n (-1) a2 [a1.Extra]).bind fun r12 => (bif r12 then (F_j n a1.Route a2).bind fun r14 => (bif r14 then (F_bj n a1.Cutoffs a2).bind fun r16 => some r16 else some false) else some false) else some false) : Option Bool).bind fun b8 => some b8
theorem k_bs (n : Nat) (a1 : Distance) (a2 : Int) (r : Bool) (h : F_bs n a1 a2 = some r) :
    Csm prog 103 [.agg (Distance.c a1), .ptr 0 0, .ptr 1 0, .ptr 2 0] [.cells 3 [I a2], .cells 197 [.fn (.func 99) [] [.ptr 0 0, .ptr 1 0]], .cells 200 [.fn (.func 102) [] [.ptr 0 0]]] (fun r => .bool r) r := by
 refine Qb func103 Z Z Z ?_
 refine G0 7 Z (Bd h fun b8 h9 h => ?_)
 refine Ct b8 [0,1,2] [] (fun b8 => [(5, .bool b8)]) (fun _ => []) (fun _ => rfl) ?_ (fun env H hle => ?_)
 ·refine G0 3 Z ?_
  refine vH (OpH.lit (xs := [.tmp 7]) (es := List.map (encI .i64) [a1.Timing]) QJ Z Z Z Z Z ⟨Z, trivial⟩ Z Z) ?_
  refine FE Z (Cb h9 (k_a _ _ _ _) Z (ls (ls (lo ln))) fun r10 hr10 h9 => Go 1 Z (Is 10 h9 Z (fun hg11 h9 => ?_) (fun hg11 h9 => ?_)))
  ·refine Go 3 Z ?_
   refine vH (OpH.lit (xs := [.tmp 13]) (es := List.map (encI .i64) [a1.Extra]) QJ Z Z Z Z Z ⟨Z, trivial⟩ Z Z) ?_ (gT Z)
   refine FE Z (Cb h9 (k_a _ _ _ _) Z (ls (ls (lo ln))) fun r12 hr12 h9 => Go 2 Z (Is 17 h9 Z (fun hg13 h9 => ?_) (fun hg13 h9 => ?_)))
   ·refine Go 3 Z (Cz [0, 1] h9 (k_j _ _ _) Z fun r14 hr14 h9 => Go 2 Z (Is 23 h9 Z (fun hg15 h9 => ?_) (fun hg15 h9 => ?_)))
    ·exact Go 3 Z (Cz [0] h9 (k_bj _ _ _) Z fun r16 hr16 h9 => Go 3 Z (Cl h9 [0,1,2]))
    ·exact Go 7 Z (Cl h9 [0,1,2])
   ·exact Go 13 Z (Cl h9 [0,1,2])
  ·exact Go 20 Z (Cl h9 [0,1,2])
 exact Gx 1 Z (TC.le hle (Gc 1 Z (Rt h 5 [0,1,2])))
def F_fi (n : Nat) (a1 : Distance) (a2 : Int) : Option Bool :=
  (F_bs n a1 a2).bind fun r1 => some (!r1)
theorem k_fi (n : Nat) (a1 : Distance) (a2 : Int) (r : Bool) (h : F_fi n a1 a2 = some r) :
    Csm prog 124 [.agg (Distance.c a1), .ptr 0 0] [.cells 139 [.fn (.func 103) [] [.ptr 1 0, .ptr 2 0, .ptr 3 0]], .cells 3 [I a2], .cells 197 [.fn (.func 99) [] [.ptr 1 0, .ptr 2 0]], .cells 200 [.fn (.func 102) [] [.ptr 1 0]]] (fun r => .bool r) r := by
 refine Qb func124 Z Z Z ?_
 exact G0 10 Z (Cz [1, 2, 3] h (k_bs _ _ _) Z fun r1 hr1 h => Go 5 Z (Rt h 3 [0,1,2,3]))
def F_ip (n : Nat) (a1 : List Distance) (a2 : Int) (s13 : Int) : Option (Ctl Int (Ctl Unit Int)) :=
  (bif decide (s13 < (a1.length : Int)) then (idx a1 s13).bind fun x17 => (F_fi n x17 a2).bind fun r18 => (bif r18 then some (.done (.done s13)) else some (.cont (IntKind.i64.wrap (s13 + 1)))) else some (.done (.cont ())))
def F_fr (n : Nat) (a1 : List Distance) (a2 : Int) : Option Int :=
  (iter (F_ip n a1 a2) n 0 : Option (Ctl Unit Int)).bind fun b10 => match b10 with | .cont sb10 => (some (-1)) | .done sb10 => some sb10
theorem k_fr (n : Nat) (a1 : List Distance) (a2 : Int) (r : Int) (h : F_fr n a1 a2 = some r) :
    Csm prog 173 [.rsl 5 (List.map Distance.c a1), .fn (.func 124) [] [.ptr 0 0]] [.cells 139 [.fn (.func 103) [] [.ptr 1 0, .ptr 2 0, .ptr 3 0]], .cells 3 [I a2], .cells 197 [.fn (.func 99) [] [.ptr 1 0, .ptr 2 0]], .cells 200 [.fn (.func 102) [] [.ptr 1 0]]] (fun r => I r) r :=
 QQ (el := fun x => .agg (Distance.c x)) (g := fun x => F_fi n x a2) func173 Z Z Z runUnderlying24 sizeOf94 (fun _ _ _ _ h1 h2 => Ql h1 isAgg94 sizeOf94 h2 Pts.rp Z Z) call124 (fun _ _ h => k_fi _ _ _ _ h) h
def F_ev (n : Nat) (a1 : List Distance) (a2 : Int) : Option Bool :=
  (F_fr n a1 a2).bind fun r1 => some (decide (0 <= r1))
theorem k_ev (n : Nat) (a1 : List Distance) (a2 : Int) (r : Bool) (h : F_ev n a1 a2 = some r) :
    Csm prog 123 [.rsl 5 (List.map Distance.c a1), .fn (.func 124) [] [.ptr 0 0]] [.cells 139 [.fn (.func 103) [] [.ptr 1 0, .ptr 2 0, .ptr 3 0]], .cells 3 [I a2], .cells 197 [.fn (.func 99) [] [.ptr 1 0, .ptr 2 0]], .cells 200 [.fn (.func 102) [] [.ptr 1 0]]] (fun r => .bool r) r := by
 refine Qb func123 Z Z Z ?_
 exact G0 9 Z (Cz [0, 1, 2, 3] h (k_fr _ _ _) Z fun r1 hr1 h => Go 5 Z (Rt h 4 [0,1,2,3]))
def F_di (n : Nat) (a1 : List Distance) (a2 : Int) : Option Bool :=
  (F_ev n a1 a2).bind fun r1 => some (!r1)
theorem k_di (n : Nat) (a1 : List Distance) (a2 : Int) (r : Bool) (h : F_di n a1 a2 = some r) :
    Csm prog 57 [.rsl 5 (List.map Distance.c a1), .fn (.func 103) [] [.ptr 0 0, .ptr 1 0, .ptr 2 0]] [.cells 3 [I a2], .cells 197 [.fn (.func 99) [] [.ptr 0 0, .ptr 1 0]], .cells 200 [.fn (.func 102) [] [.ptr 0 0]]] (fun r => .bool r) r := by
 refine Qb func57 Z Z Z ?_
 exact G0 10 Z (Cz [3, 0, 1, 2] h (k_ev _ _ _) Z fun r1 hr1 h => Go 5 Z (Rt h 4 [0,1,2]))
def F_cl (n : Nat) (a1 : Wave) : Option Bool :=
  (F_a n 0 1099511627776 [a1.Gun]).bind fun r1 => some r1
theorem k_cl (n : Nat) (a1 : Wave) (r : Bool) (h : F_cl n a1 = some r) :
    Csm prog 114 [.agg (Wave.c a1)] [] (fun r => .bool r) r := by
 refine Qb func114 Z Z Z ?_
 refine G0 10 Z ?_
 refine vH (OpH.lit (xs := [.tmp 4]) (es := List.map (encI .i64) [a1.Gun]) QJ Z Z Z Z Z ⟨Z, trivial⟩ Z Z) ?_
 exact FE Z (Cb h (k_a _ _ _ _) Z (ls (ls (lo ln))) fun r1 hr1 h => Go 4 Z (Rt h 2 []))
def F_em (n : Nat) (a1 : Wave) : Option Bool :=
  (F_cl n a1).bind fun r1 => some (!r1)
theorem k_em (n : Nat) (a1 : Wave) (r : Bool) (h : F_em n a1 = some r) :
    Csm prog 163 [.agg (Wave.c a1), .ptr 0 0] [.cells 211 [.fn (.func 114) [] []]] (fun r => .bool r) r := by
 refine Qb func163 Z Z Z ?_
 exact G0 10 Z (Cz [] h (k_cl _ _) Z fun r1 hr1 h => Go 5 Z (Rt h 3 [0]))
def F_iq (n : Nat) (a1 : List Wave) (s13 : Int) : Option (Ctl Int (Ctl Unit Int)) :=
  (bif decide (s13 < (a1.length : Int)) then (idx a1 s13).bind fun x17 => (F_em n x17).bind fun r18 => (bif r18 then some (.done (.done s13)) else some (.cont (IntKind.i64.wrap (s13 + 1)))) else some (.done (.cont ())))
def F_ft (n : Nat) (a1 : List Wave) : Option Int :=
  (iter (F_iq n a1) n 0 : Option (Ctl Unit Int)).bind fun b10 => match b10 with | .cont sb10 => (some (-1)) | .done sb10 => some sb10
theorem k_ft (n : Nat) (a1 : List Wave) (r : Int) (h : F_ft n a1 = some r) :
    Csm prog 213 [.rsl 2 (List.map Wave.c a1), .fn (.func 163) [] [.ptr 0 0]] [.cells 211 [.fn (.func 114) [] []]] (fun r => I r) r :=
 QQ (el := fun x => .agg (Wave.c x)) (g := fun x => F_em n x) func213 Z Z Z runUnderlying25 sizeOf127 (fun _ _ _ _ h1 h2 => Ql h1 isAgg127 sizeOf127 h2 Pts.rp Z Z) call163 (fun _ _ h => k_em _ _ _ h) h
def F_dm (n : Nat) (a1 : List Wave) : Option Bool :=
  (F_ft n a1).bind fun r1 => some (decide (0 <= r1))
theorem k_dm (n : Nat) (a1 : List Wave) (r : Bool) (h : F_dm n a1 = some r) :
    Csm prog 162 [.rsl 2 (List.map Wave.c a1), .fn (.func 163) [] [.ptr 0 0]] [.cells 211 [.fn (.func 114) [] []]] (fun r => .bool r) r := by
 refine Qb func162 Z Z Z ?_
 exact G0 9 Z (Cz [0] h (k_ft _ _) Z fun r1 hr1 h => Go 5 Z (Rt h 4 [0]))
def F_cu (n : Nat) (a1 : List Wave) : Option Bool :=
  (F_dm n a1).bind fun r1 => some (!r1)
theorem k_cu (n : Nat) (a1 : List Wave) (r : Bool) (h : F_cu n a1 = some r) :
    Csm prog 113 [.rsl 2 (List.map Wave.c a1), .fn (.func 114) [] []] [] (fun r => .bool r) r := by
 refine Qb func113 Z Z Z ?_
 exact G0 10 Z (Cz [0] h (k_dm _ _) Z fun r1 hr1 h => Go 5 Z (Rt h 4 []))
def F_cs (n : Nat) (a1 : Offence) : Option Bool :=
  (bif a1.Out then ((bif (a1.Time == 0) then some (a1.Laps == 0) else some false) : Option Bool).bind fun b3 => some b3 else (bif (a1.Laps != 0) then ((bif (a1.Time == 0) then (F_a n 1 64 [a1.Laps]).bind fun r12 => some r12 else some false) : Option Bool).bind fun b9 => some b9 else (F_a n 0 68719476736 [a1.Time]).bind fun r13 => some r13))
theorem k_cs (n : Nat) (a1 : Offence) (r : Bool) (h : F_cs n a1 = some r) :
    Csm prog 106 [.agg (Offence.c a1)] [] (fun r => .bool r) r := by
 refine Qb func106 Z Z Z ?_
 refine G0 15 Z (Cn Z h (fun hc1 h => ?_) (fun hc1 h => ?_))
 ·refine Gc 1 Z (Bd h fun b3 h4 h => ?_)
  refine Ct b3 [] [] (fun b3 => [(2, .bool b3)]) (fun _ => []) (fun _ => rfl) ?_ (fun env H hle => ?_)
  ·refine G0 5 Z (Is 9 h4 Z (fun hg5 h4 => ?_) (fun hg5 h4 => ?_))
   ·exact Go 6 Z (Cl h4 [])
   ·exact Go 6 Z (Cl h4 [])
  exact Gx 1 Z (TC.le hle (Gc 3 Z (Rt h 2 [])))
 refine Gc 8 Z (Cn Z h (fun hc6 h => ?_) (fun hc6 h => ?_))
 ·refine Gc 1 Z (Bd h fun b9 h10 h => ?_)
  refine Ct b9 [] [] (fun b9 => [(2, .bool b9)]) (fun _ => []) (fun _ => rfl) ?_ (fun env H hle => ?_)
  ·refine G0 5 Z (Is 21 h10 Z (fun hg11 h10 => ?_) (fun hg11 h10 => ?_))
   ·refine Go 2 Z ?_
    refine vH (OpH.lit (xs := [.tmp 23]) (es := List.map (encI .i64) [a1.Laps]) QJ Z Z Z Z Z ⟨Z, trivial⟩ Z Z) ?_ (gT Z)
    exact FE Z (Cb h10 (k_a _ _ _ _) Z (ls (ls (lo ln))) fun r12 hr12 h10 => Go 3 Z (Cl h10 []))
   ·exact Go 7 Z (Cl h10 [])
  exact Gx 1 Z (TC.le hle (Gc 3 Z (Rt h 2 [])))
 refine Gc 7 Z ?_
 refine vH (OpH.lit (xs := [.tmp 28]) (es := List.map (encI .i64) [a1.Time]) QJ Z Z Z Z Z ⟨Z, trivial⟩ Z Z) ?_
 exact FE Z (Cb h (k_a _ _ _ _) Z (ls (ls (lo ln))) fun r13 hr13 h => Go 4 Z (Rt h 2 []))
def F_ee (n : Nat) (a1 : Offence) : Option Bool :=
  (F_cs n a1).bind fun r1 => some (!r1)
theorem k_ee (n : Nat) (a1 : Offence) (r : Bool) (h : F_ee n a1 = some r) :
    Csm prog 165 [.agg (Offence.c a1), .ptr 0 0] [.cells 203 [.fn (.func 106) [] []]] (fun r => .bool r) r := by
 refine Qb func165 Z Z Z ?_
 exact G0 10 Z (Cz [] h (k_cs _ _) Z fun r1 hr1 h => Go 5 Z (Rt h 3 [0]))
def F_ig (n : Nat) (a1 : List Offence) (s13 : Int) : Option (Ctl Int (Ctl Unit Int)) :=
  (bif decide (s13 < (a1.length : Int)) then (idx a1 s13).bind fun x17 => (F_ee n x17).bind fun r18 => (bif r18 then some (.done (.done s13)) else some (.cont (IntKind.i64.wrap (s13 + 1)))) else some (.done (.cont ())))
def F_ei (n : Nat) (a1 : List Offence) : Option Int :=
  (iter (F_ig n a1) n 0 : Option (Ctl Unit Int)).bind fun b10 => match b10 with | .cont sb10 => (some (-1)) | .done sb10 => some sb10
theorem k_ei (n : Nat) (a1 : List Offence) (r : Int) (h : F_ei n a1 = some r) :
    Csm prog 214 [.rsl 4 (List.map Offence.c a1), .fn (.func 165) [] [.ptr 0 0]] [.cells 203 [.fn (.func 106) [] []]] (fun r => I r) r :=
 QQ (el := fun x => .agg (Offence.c x)) (g := fun x => F_ee n x) func214 Z Z Z runUnderlying26 sizeOf152 (fun _ _ _ _ h1 h2 => Ql h1 isAgg152 sizeOf152 h2 Pts.rp Z Z) call165 (fun _ _ h => k_ee _ _ _ h) h
def F_fo (n : Nat) (a1 : List Offence) : Option Bool :=
  (F_ei n a1).bind fun r1 => some (decide (0 <= r1))
theorem k_fo (n : Nat) (a1 : List Offence) (r : Bool) (h : F_fo n a1 = some r) :
    Csm prog 164 [.rsl 4 (List.map Offence.c a1), .fn (.func 165) [] [.ptr 0 0]] [.cells 203 [.fn (.func 106) [] []]] (fun r => .bool r) r := by
 refine Qb func164 Z Z Z ?_
 exact G0 9 Z (Cz [0] h (k_ei _ _) Z fun r1 hr1 h => Go 5 Z (Rt h 4 [0]))
def F_dg (n : Nat) (a1 : List Offence) : Option Bool :=
  (F_fo n a1).bind fun r1 => some (!r1)
theorem k_dg (n : Nat) (a1 : List Offence) (r : Bool) (h : F_dg n a1 = some r) :
    Csm prog 115 [.rsl 4 (List.map Offence.c a1), .fn (.func 106) [] []] [] (fun r => .bool r) r := by
 refine Qb func115 Z Z Z ?_
 exact G0 10 Z (Cz [0] h (k_fo _ _) Z fun r1 hr1 h => Go 5 Z (Rt h 4 []))
def F_bn (n : Nat) (a1 : Category) : Option Bool :=
  ((F_a n 0 120 [a1.From, a1.To]).bind fun r5 => (bif r5 then some (decide (a1.From <= a1.To)) else some false) : Option Bool).bind fun b3 => some b3
theorem k_bn (n : Nat) (a1 : Category) (r : Bool) (h : F_bn n a1 = some r) :
    Csm prog 117 [.agg (Category.c a1)] [] (fun r => .bool r) r := by
 refine Qb func117 Z Z Z ?_
 refine G0 7 Z (Bd h fun b3 h4 h => ?_)
 refine Ct b3 [] [] (fun b3 => [(2, .bool b3)]) (fun _ => []) (fun _ => rfl) ?_ (fun env H hle => ?_)
 ·refine G0 5 Z ?_
  refine vH (OpH.lit (xs := [.tmp 4, .tmp 6]) (es := List.map (encI .i64) [a1.From, a1.To]) QJ Z Z Z Z Z ⟨Z, Z, trivial⟩ Z Z) ?_
  refine FE Z (Cb h4 (k_a _ _ _ _) Z (ls (ls (lo ln))) fun r5 hr5 h4 => Go 1 Z (Is 9 h4 Z (fun hg6 h4 => ?_) (fun hg6 h4 => ?_)))
  ·exact Go 8 Z (Cl h4 [])
  ·exact Go 8 Z (Cl h4 [])
 exact Gx 1 Z (TC.le hle (Gc 1 Z (Rt h 2 [])))
def F_fu (n : Nat) (a1 : Category) : Option Bool :=
  (F_bn n a1).bind fun r1 => some (!r1)
theorem k_fu (n : Nat) (a1 : Category) (r : Bool) (h : F_fu n a1 = some r) :
    Csm prog 167 [.agg (Category.c a1), .ptr 0 0] [.cells 214 [.fn (.func 117) [] []]] (fun r => .bool r) r := by
 refine Qb func167 Z Z Z ?_
 exact G0 10 Z (Cz [] h (k_bn _ _) Z fun r1 hr1 h => Go 5 Z (Rt h 3 [0]))
def F_it (n : Nat) (a1 : List Category) (s13 : Int) : Option (Ctl Int (Ctl Unit Int)) :=
  (bif decide (s13 < (a1.length : Int)) then (idx a1 s13).bind fun x17 => (F_fu n x17).bind fun r18 => (bif r18 then some (.done (.done s13)) else some (.cont (IntKind.i64.wrap (s13 + 1)))) else some (.done (.cont ())))
def F_el (n : Nat) (a1 : List Category) : Option Int :=
  (iter (F_it n a1) n 0 : Option (Ctl Unit Int)).bind fun b10 => match b10 with | .cont sb10 => (some (-1)) | .done sb10 => some sb10
theorem k_el (n : Nat) (a1 : List Category) (r : Int) (h : F_el n a1 = some r) :
    Csm prog 215 [.rsl 3 (List.map Category.c a1), .fn (.func 167) [] [.ptr 0 0]] [.cells 214 [.fn (.func 117) [] []]] (fun r => I r) r :=
 QQ (el := fun x => .agg (Category.c x)) (g := fun x => F_fu n x) func215 Z Z Z runUnderlying27 sizeOf154 (fun _ _ _ _ h1 h2 => Ql h1 isAgg154 sizeOf154 h2 Pts.rp Z Z) call167 (fun _ _ h => k_fu _ _ _ h) h
def F_ea (n : Nat) (a1 : List Category) : Option Bool :=
  (F_el n a1).bind fun r1 => some (decide (0 <= r1))
theorem k_ea (n : Nat) (a1 : List Category) (r : Bool) (h : F_ea n a1 = some r) :
    Csm prog 166 [.rsl 3 (List.map Category.c a1), .fn (.func 167) [] [.ptr 0 0]] [.cells 214 [.fn (.func 117) [] []]] (fun r => .bool r) r := by
 refine Qb func166 Z Z Z ?_
 exact G0 9 Z (Cz [0] h (k_el _ _) Z fun r1 hr1 h => Go 5 Z (Rt h 4 [0]))
def F_bh (n : Nat) (a1 : List Category) : Option Bool :=
  (F_ea n a1).bind fun r1 => some (!r1)
theorem k_bh (n : Nat) (a1 : List Category) (r : Bool) (h : F_bh n a1 = some r) :
    Csm prog 116 [.rsl 3 (List.map Category.c a1), .fn (.func 117) [] []] [] (fun r => .bool r) r := by
 refine Qb func116 Z Z Z ?_
 exact G0 10 Z (Cz [0] h (k_ea _ _) Z fun r1 hr1 h => Go 5 Z (Rt h 4 []))
def F_bp (n : Nat) (a1 : Prize) (a2 : Course) : Option Bool :=
  ((F_a n 0 (IntKind.i64.wrap ((a2.Distances.length : Int) - 1)) [a1.Distance]).bind fun r10 => (bif r10 then (F_a n (-1) (IntKind.i64.wrap ((a2.Categories.length : Int) - 1)) [a1.Category]).bind fun r12 => (bif r12 then (F_a n 1 4000 [a1.Rank]).bind fun r14 => (bif r14 then (F_a n 1 1125899906842624 [a1.Amount]).bind fun r16 => some r16 else some false) else some false) else some false) : Option Bool).bind fun b8 => some b8
theorem k_bp (n : Nat) (a1 : Prize) (a2 : Course) (r : Bool) (h : F_bp n a1 a2 = some r) :
    Csm prog 107 [.agg (Prize.c a1), .ptr 0 0] [.cells 33 (Course.c a2)] (fun r => .bool r) r := by
 refine Qb func107 Z Z Z ?_
 refine G0 7 Z (Bd h fun b8 h9 h => ?_)
 refine Ct b8 [0] [] (fun b8 => [(3, .bool b8)]) (fun _ => []) (fun _ => rfl) ?_ (fun env H hle => ?_)
 ·refine G0 3 Z (Lm Z (Go 3 Z ?_))
  refine vH (OpH.lit (xs := [.tmp 9]) (es := List.map (encI .i64) [a1.Distance]) QJ Z Z Z Z Z ⟨Z, trivial⟩ Z Z) ?_
  refine FE Z (Cb h9 (k_a _ _ _ _) Z (ls (ls (lo ln))) fun r10 hr10 h9 => Go 1 Z (Is 12 h9 Z (fun hg11 h9 => ?_) (fun hg11 h9 => ?_)))
  ·refine Go 2 Z (Lm Z (Go 3 Z ?_))
   refine vH (OpH.lit (xs := [.tmp 18]) (es := List.map (encI .i64) [a1.Category]) QJ Z Z Z Z Z ⟨Z, trivial⟩ Z Z) ?_ (gT Z)
   refine FE Z (Cb h9 (k_a _ _ _ _) Z (ls (ls (lo ln))) fun r12 hr12 h9 => Go 2 Z (Is 22 h9 Z (fun hg13 h9 => ?_) (fun hg13 h9 => ?_)))
   ·refine Go 2 Z ?_
    refine vH (OpH.lit (xs := [.tmp 24]) (es := List.map (encI .i64) [a1.Rank]) QJ Z Z Z Z Z ⟨Z, trivial⟩ Z Z) ?_ (gT Z)
    refine FE Z (Cb h9 (k_a _ _ _ _) Z (ls (ls (lo ln))) fun r14 hr14 h9 => Go 2 Z (Is 28 h9 Z (fun hg15 h9 => ?_) (fun hg15 h9 => ?_)))
    ·refine Go 2 Z ?_
     refine vH (OpH.lit (xs := [.tmp 30]) (es := List.map (encI .i64) [a1.Amount]) QJ Z Z Z Z Z ⟨Z, trivial⟩ Z Z) ?_ (gT Z)
     exact FE Z (Cb h9 (k_a _ _ _ _) Z (ls (ls (lo ln))) fun r16 hr16 h9 => Go 3 Z (Cl h9 [0]))
    ·exact Go 7 Z (Cl h9 [0])
   ·exact Go 13 Z (Cl h9 [0])
  ·exact Go 23 Z (Cl h9 [0])
 exact Gx 1 Z (TC.le hle (Gc 1 Z (Rt h 3 [0])))
def F_er (n : Nat) (a1 : Prize) (a2 : Course) : Option Bool :=
  (F_bp n a1 a2).bind fun r1 => some (!r1)
theorem k_er (n : Nat) (a1 : Prize) (a2 : Course) (r : Bool) (h : F_er n a1 a2 = some r) :
    Csm prog 169 [.agg (Prize.c a1), .ptr 0 0] [.cells 204 [.fn (.func 107) [] [.ptr 1 0]], .cells 33 (Course.c a2)] (fun r => .bool r) r := by
 refine Qb func169 Z Z Z ?_
 exact G0 10 Z (Cz [1] h (k_bp _ _ _) Z fun r1 hr1 h => Go 5 Z (Rt h 3 [0,1]))
def F_ii (n : Nat) (a1 : List Prize) (a2 : Course) (s13 : Int) : Option (Ctl Int (Ctl Unit Int)) :=
  (bif decide (s13 < (a1.length : Int)) then (idx a1 s13).bind fun x17 => (F_er n x17 a2).bind fun r18 => (bif r18 then some (.done (.done s13)) else some (.cont (IntKind.i64.wrap (s13 + 1)))) else some (.done (.cont ())))
def F_fe (n : Nat) (a1 : List Prize) (a2 : Course) : Option Int :=
  (iter (F_ii n a1 a2) n 0 : Option (Ctl Unit Int)).bind fun b10 => match b10 with | .cont sb10 => (some (-1)) | .done sb10 => some sb10
theorem k_fe (n : Nat) (a1 : List Prize) (a2 : Course) (r : Int) (h : F_fe n a1 a2 = some r) :
    Csm prog 216 [.rsl 4 (List.map Prize.c a1), .fn (.func 169) [] [.ptr 0 0]] [.cells 204 [.fn (.func 107) [] [.ptr 1 0]], .cells 33 (Course.c a2)] (fun r => I r) r :=
 QQ (el := fun x => .agg (Prize.c x)) (g := fun x => F_er n x a2) func216 Z Z Z runUnderlying28 sizeOf160 (fun _ _ _ _ h1 h2 => Ql h1 isAgg160 sizeOf160 h2 Pts.rp Z Z) call169 (fun _ _ h => k_er _ _ _ _ h) h
def F_gd (n : Nat) (a1 : List Prize) (a2 : Course) : Option Bool :=
  (F_fe n a1 a2).bind fun r1 => some (decide (0 <= r1))
theorem k_gd (n : Nat) (a1 : List Prize) (a2 : Course) (r : Bool) (h : F_gd n a1 a2 = some r) :
    Csm prog 168 [.rsl 4 (List.map Prize.c a1), .fn (.func 169) [] [.ptr 0 0]] [.cells 204 [.fn (.func 107) [] [.ptr 1 0]], .cells 33 (Course.c a2)] (fun r => .bool r) r := by
 refine Qb func168 Z Z Z ?_
 exact G0 9 Z (Cz [0, 1] h (k_fe _ _ _) Z fun r1 hr1 h => Go 5 Z (Rt h 4 [0,1]))
def F_db (n : Nat) (a1 : List Prize) (a2 : Course) : Option Bool :=
  (F_gd n a1 a2).bind fun r1 => some (!r1)
theorem k_db (n : Nat) (a1 : List Prize) (a2 : Course) (r : Bool) (h : F_db n a1 a2 = some r) :
    Csm prog 118 [.rsl 4 (List.map Prize.c a1), .fn (.func 107) [] [.ptr 0 0]] [.cells 33 (Course.c a2)] (fun r => .bool r) r := by
 refine Qb func118 Z Z Z ?_
 exact G0 10 Z (Cz [1, 0] h (k_gd _ _ _) Z fun r1 hr1 h => Go 5 Z (Rt h 4 [0]))
def F_fc (n : Nat) (a1 : Prize) : Option Unit :=
  some ()
theorem k_fc (n : Nat) (a1 : Prize) (r : Unit) (h : F_fc n a1 = some r) :
    C prog 120 [.agg (Prize.c a1)] [] (RQ (fun _ => .agg [I a1.Distance, I a1.Category, I a1.Rank]) (fun _ => [.cells 218 [I a1.Distance, I a1.Category, I a1.Rank]]) r) := by
 refine Qb func120 Z Z Z ?_
 refine G0 19 Z ?_
 obtain rfl := Oi h
 exact Rx [1] [2] Z (YH Z (Qj isAgg218 sizeOf218 Z Z Z)) ⟨Z, Z⟩
def F_hu (n : Nat) (a1 : List Prize) (s13 : (List (typing_place × Bool)) × Int) : Option (Ctl ((List (typing_place × Bool)) × Int) (List (typing_place × Bool))) :=
  (bif decide (s13.2 < (a1.length : Int)) then (idx a1 s13.2).bind fun x17 => (F_fc n x17).bind fun r18 => (some (mset s13.1 ({ distance := x17.Distance, category := x17.Category, rank := x17.Rank : typing_place }) true)).bind fun m19 => some (.cont (m19, IntKind.i64.wrap (s13.2 + 1))) else some (.done s13.1))
def F_cy (n : Nat) (a1 : List Prize) : Option Bool :=
  (iter (F_hu n a1) n ([], 0) : Option (List (typing_place × Bool))).bind fun b10 => some ((b10.length : Int) == (a1.length : Int))
theorem k_cy (n : Nat) (a1 : List Prize) (r : Bool) (h : F_cy n a1 = some r) :
    Csm prog 119 [.rsl 4 (List.map Prize.c a1), .fn (.func 120) [] []] [] (fun r => .bool r) r := by
 refine Qb func119 Z Z Z ?_
 refine G0 7 Z ?_
 refine vH QV ?_
 refine FE Z (Go 7 Z (Lm Z (Go 3 Z (Bd h fun b10 h11 h => ?_))))
 refine Ct b10 [0] [0,5] (fun _ => []) (fun b10 => [(0, .map (menc (fun x => A.agg (typing_place.c x)) A.bool b10))]) (fun _ => rfl) ?_ (fun env H hle => ?_)
 ·refine G0 1 Z ?_
  refine Lp [0] [0,1,5,9,10] (fun s13 => [(11, I s13.2)]) (fun s13 => [(0, .map (menc (fun x => A.agg (typing_place.c x)) A.bool s13.1))]) h11 (fun _ => rfl) (Lr [0]) fun s13 d14 h15 hb12 => ?_
  refine G0 6 Z (Q1 Z h15 (fun hc16 h15 => ?_) (fun hc16 h15 => ?_))
  ·refine Gc 2 Z (Qg h15 ?_)
   obtain rfl := Oj hb12 h15
   exact Gx 1 Z (Qt (Lr [0]))
  refine Gc 6 Z (Bd h15 fun x17 hx17 h15 => Iz hx17 Z (Go 9 Z (Cd [] h15 (k_fc _ _) Z fun r18 hr18 h15 => FE Z (Bd h15 fun m19 hm19 h15 => ?_))))
  refine vU (Q6 (ev := A.bool) (k := ({ distance := x17.Distance, category := x17.Category, rank := x17.Rank : typing_place })) (v := true) (l := s13.1) Qi9 hm19 Z underlying253) ?_
  exact FE Z (Go 7 Z (Qf h15 (Lr [0])))
 refine Gx 1 Z (TC.le hle (Gc 3 Z ?_))
 refine vX (I (b10.length : Int)) (Qa7 (l := b10) underlying253 Z) ?_
 exact Go 1 Z (Lm Z (Go 5 Z (Rt h 4 [])))
def F_ch (n : Nat) (a1 : Course) : Option Bool :=
  ((F_cg n a1.Mats).bind fun r30 => (bif r30 then (F_bf n a1.Legs (IntKind.i64.wrap ((a1.Mats.length : Int) - 1))).bind fun r32 => (bif r32 then (F_dd n a1.Legs).bind fun r34 => (bif r34 then (F_di n a1.Distances (IntKind.i64.wrap ((a1.Mats.length : Int) - 1))).bind fun r36 => (bif r36 then (F_cu n a1.Waves).bind fun r38 => (bif r38 then (F_dg n a1.Offences).bind fun r40 => (bif r40 then (F_bh n a1.Categories).bind fun r42 => (bif r42 then (F_db n a1.Prizes a1).bind fun r44 => (bif r44 then (F_cy n a1.Prizes).bind fun r46 => (bif r46 then (F_a n 0 16 [a1.Faults.Misses, a1.Faults.Strays]).bind fun r48 => (bif r48 then (F_a n 0 4294967296 [a1.Faults.Window, a1.Faults.Residual]).bind fun r50 => (bif r50 then (F_a n 0 100000 [a1.Faults.Drift]).bind fun r52 => (bif r52 then (F_a n 0 1125899906842624 [a1.Fee]).bind fun r54 => (bif r54 then (F_a n 0 1099511627776 [a1.Deadline]).bind fun r56 => some r56 else some false) else some false) else some false) else some false) else some false) else some false) else some false) else some false) else some false) else some false) else some false) else some false) else some false) : Option Bool).bind fun b28 => some b28
theorem k_ch (n : Nat) (a1 : Course) (r : Bool) (h : F_ch n a1 = some r) :
    Csm prog 55 [.agg (Course.c a1)] [] (fun r => .bool r) r := by
 refine Qb func55 Z Z Z ?_
 refine G0 10 Z (Lm Z (Go 55 Z (Bd h fun b28 h29 h => ?_)))
 refine Ct b28 [] [] (fun b28 => [(2, .bool b28)]) (fun _ => []) (fun _ => rfl) ?_ (fun env H hle => ?_)
 ·refine G0 3 Z (Cz [] h29 (k_cg _ _) Z fun r30 hr30 h29 => Go 1 Z (Is 25 h29 Z (fun hg31 h29 => ?_) (fun hg31 h29 => ?_)))
  ·refine Go 3 Z (Cd [1] h29 (k_bf _ _ _) Z fun r32 hr32 h29 => FE Z (Go 2 Z (Is 31 h29 Z (fun hg33 h29 => ?_) (fun hg33 h29 => ?_))))
   ·refine Go 2 Z (Cz [] h29 (k_dd _ _) Z fun r34 hr34 h29 => Go 2 Z (Is 36 h29 Z (fun hg35 h29 => ?_) (fun hg35 h29 => ?_)))
    ·refine Go 3 Z (Cz [1, 2, 3] h29 (k_di _ _ _) Z fun r36 hr36 h29 => Go 2 Z (Is 42 h29 Z (fun hg37 h29 => ?_) (fun hg37 h29 => ?_)))
     ·refine Go 2 Z (Cz [] h29 (k_cu _ _) Z fun r38 hr38 h29 => Go 2 Z (Is 47 h29 Z (fun hg39 h29 => ?_) (fun hg39 h29 => ?_)))
      ·refine Go 3 Z (Cz [] h29 (k_dg _ _) Z fun r40 hr40 h29 => Go 2 Z (Is 53 h29 Z (fun hg41 h29 => ?_) (fun hg41 h29 => ?_)))
       ·refine Go 2 Z (Cz [] h29 (k_bh _ _) Z fun r42 hr42 h29 => Go 2 Z (Is 58 h29 Z (fun hg43 h29 => ?_) (fun hg43 h29 => ?_)))
        ·refine Go 3 Z (Cz [0] h29 (k_db _ _ _) Z fun r44 hr44 h29 => Go 2 Z (Is 64 h29 Z (fun hg45 h29 => ?_) (fun hg45 h29 => ?_)))
         ·refine Go 2 Z (Cz [] h29 (k_cy _ _) Z fun r46 hr46 h29 => Go 2 Z (Is 69 h29 Z (fun hg47 h29 => ?_) (fun hg47 h29 => ?_)))
          ·refine Go 4 Z ?_
           refine vH (OpH.lit (xs := [.tmp 71, .tmp 73]) (es := List.map (encI .i64) [a1.Faults.Misses, a1.Faults.Strays]) QJ Z Z Z Z Z ⟨Z, Z, trivial⟩ Z Z) ?_ (gT Z)
           refine FE Z (Cb h29 (k_a _ _ _ _) Z (ls (ls (lo ln))) fun r48 hr48 h29 => Go 2 Z (Is 77 h29 Z (fun hg49 h29 => ?_) (fun hg49 h29 => ?_)))
           ·refine Go 4 Z ?_
            refine vH (OpH.lit (xs := [.tmp 79, .tmp 81]) (es := List.map (encI .i64) [a1.Faults.Window, a1.Faults.Residual]) QJ Z Z Z Z Z ⟨Z, Z, trivial⟩ Z Z) ?_ (gT Z)
            refine FE Z (Cb h29 (k_a _ _ _ _) Z (ls (ls (lo ln))) fun r50 hr50 h29 => Go 2 Z (Is 85 h29 Z (fun hg51 h29 => ?_) (fun hg51 h29 => ?_)))
            ·refine Go 2 Z ?_
             refine vH (OpH.lit (xs := [.tmp 87]) (es := List.map (encI .i64) [a1.Faults.Drift]) QJ Z Z Z Z Z ⟨Z, trivial⟩ Z Z) ?_ (gT Z)
             refine FE Z (Cb h29 (k_a _ _ _ _) Z (ls (ls (lo ln))) fun r52 hr52 h29 => Go 2 Z (Is 91 h29 Z (fun hg53 h29 => ?_) (fun hg53 h29 => ?_)))
             ·refine Go 2 Z ?_
              refine vH (OpH.lit (xs := [.tmp 93]) (es := List.map (encI .i64) [a1.Fee]) QJ Z Z Z Z Z ⟨Z, trivial⟩ Z Z) ?_ (gT Z)
              refine FE Z (Cb h29 (k_a _ _ _ _) Z (ls (ls (lo ln))) fun r54 hr54 h29 => Go 2 Z (Is 97 h29 Z (fun hg55 h29 => ?_) (fun hg55 h29 => ?_)))
              ·refine Go 2 Z ?_
               refine vH (OpH.lit (xs := [.tmp 99]) (es := List.map (encI .i64) [a1.Deadline]) QJ Z Z Z Z Z ⟨Z, trivial⟩ Z Z) ?_ (gT Z)
               exact FE Z (Cb h29 (k_a _ _ _ _) Z (ls (ls (lo ln))) fun r56 hr56 h29 => Go 3 Z (Cl h29 []))
              ·exact Go 7 Z (Cl h29 [])
             ·exact Go 13 Z (Cl h29 [])
            ·exact Go 19 Z (Cl h29 [])
           ·exact Go 27 Z (Cl h29 [])
          ·exact Go 35 Z (Cl h29 [])
         ·exact Go 40 Z (Cl h29 [])
        ·exact Go 46 Z (Cl h29 [])
       ·exact Go 51 Z (Cl h29 [])
      ·exact Go 57 Z (Cl h29 [])
     ·exact Go 62 Z (Cl h29 [])
    ·exact Go 68 Z (Cl h29 [])
   ·exact Go 73 Z (Cl h29 [])
  ·exact Go 79 Z (Cl h29 [])
 exact Gx 1 Z (TC.le hle (Gc 1 Z (Rt h 2 [])))
def F_jb (n : Nat) (a1 : List Step) (s11 : (List typing_form) × Int) : Option (Ctl ((List typing_form) × Int) (List typing_form)) :=
  (bif decide (s11.2 < (a1.length : Int)) then (idx a1 s11.2).bind fun x15 => (app s11.1 [typing_form.ctyping_step ({ Step := x15 : typing_step })]).bind fun l16 => some (.cont (l16, IntKind.i64.wrap (s11.2 + 1))) else some (.done s11.1))
def F_ac (n : Nat) (a1 : List Step) : Option (List typing_form) :=
  (iter (F_jb n a1) n ([], 0) : Option (List typing_form)).bind fun b8 => some b8
theorem k_ac (n : Nat) (a1 : List Step) (r : List typing_form) (h : F_ac n a1 = some r) :
    C prog 122 [.rsl 8 (List.map Step.enc a1)] [] (RQ (fun r => .osl 0 0 r.length 1) (fun r => [.row 260 1 (List.map typing_form.enc r)]) r) := by
 refine Qb func122 Z Z Z ?_
 refine G0 9 Z (Lm Z (Go 3 Z (Bd h fun b8 h9 h => ?_)))
 refine Ct b8 [0] [] (fun b8 => [(2, .osl 0 0 b8.length 1)]) (fun b8 => [(0, .row 260 1 (List.map typing_form.enc b8))]) (fun _ => rfl) ?_ (fun env H hle => ?_)
 ·refine G0 1 Z ?_
  refine Lp [0] [5,6] (fun s11 => [(2, .osl 0 0 s11.1.length 1), (7, I s11.2)]) (fun s11 => [(0, .row 260 1 (List.map typing_form.enc s11.1))]) h9 (fun _ => rfl) ?_ ?_
  ·refine Le.trans (Le.phantom (s := 2) (k := 1) (t := 260) (Nat.le_of_ble_eq_true Z) Z) ?_
   exact Lr [0]
  intro s11 d12 h13 hb10
  refine G0 6 Z (Q1 Z h13 (fun hc14 h13 => ?_) (fun hc14 h13 => ?_))
  ·refine Gc 2 Z (Qg h13 ?_)
   obtain rfl := Oj hb10 h13
   exact Gx 1 Z (Qt (Lr [0]))
  refine Gc 6 Z (Bd h13 fun x15 hx15 h13 => IzE hx15 (QK x15) Z (Go 9 Z ?_))
  refine vX (.iface 263 (.agg (typing_step.c ({ Step := x15 : typing_step })))) (Qai Z runUnderlying263 (by intro m; nofun) Z) ?_
  refine vH (OpH.lit (xs := [.tmp 14]) (es := List.map typing_form.enc [typing_form.ctyping_step ({ Step := x15 : typing_step })]) QbM Z Z Z Z Z ⟨Z, trivial⟩ Z Z) ?_
  refine FE Z (Bd h13 fun l16 hl16 h13 => ?_)
  refine vH (QF (e := typing_form.enc) hl16 QbM runUnderlying221 (Yg (i := 2))) ?_
  exact FE Z (Go 8 Z (Qf h13 (Lr [3])))
 exact Gx 1 Z (TC.le hle (Gc 7 Z (Rt h 2 [0])))
def F_ae (n : Nat) (a1 : typing_cond) : Option Bool :=
  ((bif (a1.Cond.Kind == 0) then (bif (a1.Cond.Var == 0) then (bif (a1.Cond.N == 0) then some ((a1.Cond.Parts.length : Int) == 0) else some false) else some false) else some false) : Option Bool).bind fun b4 => some b4
theorem k_ae (n : Nat) (a1 : typing_cond) (r : Bool) (h : F_ae n a1 = some r) :
    Csm prog 217 [.agg (typing_cond.c ({ Cond := a1.Cond : typing_cond }))] [] (fun r => .bool r) r := by
 refine Qb func217 Z Z Z ?_
 refine G0 7 Z (Bd h fun b4 h5 h => ?_)
 refine Ct b4 [] [] (fun b4 => [(2, .bool b4)]) (fun _ => []) (fun _ => rfl) ?_ (fun env H hle => ?_)
 ·refine G0 6 Z (Is 7 h5 Z (fun hg6 h5 => ?_) (fun hg6 h5 => ?_))
  ·refine Go 6 Z (Is 13 h5 Z (fun hg7 h5 => ?_) (fun hg7 h5 => ?_))
   ·refine Go 6 Z (Is 19 h5 Z (fun hg8 h5 => ?_) (fun hg8 h5 => ?_))
    ·exact Go 3 Z (Lm Z (Go 4 Z (Cl h5 [])))
    ·exact Go 8 Z (Cl h5 [])
   ·exact Go 14 Z (Cl h5 [])
  ·exact Go 20 Z (Cl h5 [])
 exact Gx 1 Z (TC.le hle (Gc 1 Z (Rt h 2 [])))
def F_aa (n : Nat) (a1 : typing_step) : Option (List typing_form) :=
  (F_ac n a1.Step.Then).bind fun r1 => (F_ac n a1.Step.Else).bind fun r2 => (app r1 r2).bind fun l3 => some l3
theorem k_aa (n : Nat) (a1 : typing_step) (r : List typing_form) (h : F_aa n a1 = some r) :
    C prog 240 [.agg (typing_step.c a1)] [] (RQ (fun r => .osl 0 0 r.length 1) (fun r => [.row 260 1 (List.map typing_form.enc r)]) r) := by
 refine Qb func240 Z Z Z ?_
 refine G0 7 Z (DAs 7 3 [0,0,0,1,3,3,3] (by kernel_rfl) (Da 3 Z ?_))
 obtain ⟨r1, hr1, h⟩ := bnd h
 refine DA.op (x := .osl 1 0 r1.length 1) (H1 := [.cells 263 (typing_step.c a1), .row 260 1 (List.map typing_form.enc r1)]) ?_ ?_
 ·refine Qy [] (OpC.fn call122 Z Z Z) (k_ac _ _ _ hr1) ?_
  rintro _ _ ⟨rfl, rfl⟩
  exact FE Z Wp
 refine Db 2 Z ?_
 refine DB.wo2 (x := .rsl 8 (List.map Step.enc a1.Step.Else)) (Ld isAgg29 Z Wp) (Ld isAgg29 Z Wp) ?_
 refine DB.done Z (Cd [] h (k_ac _ _) Z fun r2 hr2 h => FE Z (Bd h fun l3 hl3 h => ?_))
 refine vH (QF (e := typing_form.enc) hl3 QbM runUnderlying221 (Yg (i := 2))) ?_
 exact FE Z (Go 4 Z (Rt h 2 [3]))
def F_ie (n : Nat) (a1 : List Cond) (s11 : (List typing_form) × Int) : Option (Ctl ((List typing_form) × Int) (List typing_form)) :=
  (bif decide (s11.2 < (a1.length : Int)) then (idx a1 s11.2).bind fun x15 => (app s11.1 [typing_form.ctyping_cond ({ Cond := x15 : typing_cond })]).bind fun l16 => some (.cont (l16, IntKind.i64.wrap (s11.2 + 1))) else some (.done s11.1))
def F_cd (n : Nat) (a1 : List Cond) : Option (List typing_form) :=
  (iter (F_ie n a1) n ([], 0) : Option (List typing_form)).bind fun b8 => some b8
theorem k_cd (n : Nat) (a1 : List Cond) (r : List typing_form) (h : F_cd n a1 = some r) :
    C prog 250 [.rsl 4 (List.map Cond.enc a1)] [] (RQ (fun r => .osl 0 0 r.length 1) (fun r => [.row 260 1 (List.map typing_form.enc r)]) r) := by
 refine Qb func250 Z Z Z ?_
 refine G0 9 Z (Lm Z (Go 3 Z (Bd h fun b8 h9 h => ?_)))
 refine Ct b8 [0] [] (fun b8 => [(2, .osl 0 0 b8.length 1)]) (fun b8 => [(0, .row 260 1 (List.map typing_form.enc b8))]) (fun _ => rfl) ?_ (fun env H hle => ?_)
 ·refine G0 1 Z ?_
  refine Lp [0] [5,6] (fun s11 => [(2, .osl 0 0 s11.1.length 1), (7, I s11.2)]) (fun s11 => [(0, .row 260 1 (List.map typing_form.enc s11.1))]) h9 (fun _ => rfl) ?_ ?_
  ·refine Le.trans (Le.phantom (s := 2) (k := 1) (t := 260) (Nat.le_of_ble_eq_true Z) Z) ?_
   exact Lr [0]
  intro s11 d12 h13 hb10
  refine G0 6 Z (Q1 Z h13 (fun hc14 h13 => ?_) (fun hc14 h13 => ?_))
  ·refine Gc 2 Z (Qg h13 ?_)
   obtain rfl := Oj hb10 h13
   exact Gx 1 Z (Qt (Lr [0]))
  refine Gc 6 Z (Bd h13 fun x15 hx15 h13 => IzE hx15 (Ym x15) Z (Go 9 Z ?_))
  refine vX (.iface 298 (.agg (typing_cond.c ({ Cond := x15 : typing_cond })))) (Qai Z runUnderlying298 (by intro m; nofun) Z) ?_
  refine vH (OpH.lit (xs := [.tmp 14]) (es := List.map typing_form.enc [typing_form.ctyping_cond ({ Cond := x15 : typing_cond })]) QbM Z Z Z Z Z ⟨Z, trivial⟩ Z Z) ?_
  refine FE Z (Bd h13 fun l16 hl16 h13 => ?_)
  refine vH (QF (e := typing_form.enc) hl16 QbM runUnderlying221 (Yg (i := 2))) ?_
  exact FE Z (Go 8 Z (Qf h13 (Lr [3])))
 exact Gx 1 Z (TC.le hle (Gc 7 Z (Rt h 2 [0])))
def F_z (n : Nat) (a1 : typing_cond) : Option (List typing_form) :=
  (F_cd n a1.Cond.Parts).bind fun r1 => some r1
theorem k_z (n : Nat) (a1 : typing_cond) (r : List typing_form) (h : F_z n a1 = some r) :
    C prog 239 [.agg (typing_cond.c ({ Cond := a1.Cond : typing_cond }))] [] (RQ (fun r => .osl 0 0 r.length 1) (fun r => [.row 260 1 (List.map typing_form.enc r)]) r) := by
 refine Qb func239 Z Z Z ?_
 exact G0 11 Z (Cd [] h (k_cd _ _) Z fun r1 hr1 h => FE Z (Go 4 Z (Rt h 2 [1])))
def F_dl (n : Nat) (a1 : List typing_form) (a2 : Int) (rec91 : (List typing_form) -> Int -> typing_count -> Option (typing_count × Bool)) (s84 : typing_count × Int) : Option (Ctl (typing_count × Int) (Ctl typing_count (typing_count × Bool))) :=
  (bif decide (s84.2 < (a1.length : Int)) then (idx a1 s84.2).bind fun x88 => typing_form.elim x88 (fun x89 => ((F_ae n ({ Cond := x89.Step.Cond : typing_cond })).bind fun r98 => (bif (!r98) then (rec91 [typing_form.ctyping_cond ({ Cond := x89.Step.Cond : typing_cond })] 0 ({ steps := IntKind.i64.wrap (s84.1.steps + 1), conds := s84.1.conds : typing_count })).bind fun r100 => some (r100.1, (!r100.2)) else some ({ steps := IntKind.i64.wrap (s84.1.steps + 1), conds := s84.1.conds : typing_count }, false)) : Option (typing_count × Bool)).bind fun b96 => (bif b96.2 then some (.done (.done (b96.1, false))) else ((bif decide (64 < b96.1.steps) then some (b96.1, true) else (bif decide (256 < b96.1.conds) then some (b96.1, true) else (F_aa n x89).bind fun r110 => (rec91 r110 (IntKind.i64.wrap (a2 + 1)) b96.1).bind fun r111 => some (r111.1, (!r111.2)))) : Option (typing_count × Bool)).bind fun b106 => (bif b106.2 then some (.done (.done (b106.1, false))) else some (.cont (b106.1, IntKind.i64.wrap (s84.2 + 1)))))) (fun x91 => ((bif decide (64 < s84.1.steps) then some ({ steps := s84.1.steps, conds := IntKind.i64.wrap (s84.1.conds + 1) : typing_count }, true) else (bif decide (256 < (IntKind.i64.wrap (s84.1.conds + 1))) then some ({ steps := s84.1.steps, conds := IntKind.i64.wrap (s84.1.conds + 1) : typing_count }, true) else (F_z n ({ Cond := x91.Cond : typing_cond })).bind fun r121 => (rec91 r121 (IntKind.i64.wrap (a2 + 1)) ({ steps := s84.1.steps, conds := IntKind.i64.wrap (s84.1.conds + 1) : typing_count })).bind fun r122 => some (r122.1, (!r122.2)))) : Option (typing_count × Bool)).bind fun b117 => (bif b117.2 then some (.done (.done (b117.1, false))) else some (.cont (b117.1, IntKind.i64.wrap (s84.2 + 1))))) else some (.done (.cont s84.1)))
def B_f (rec91 : (List typing_form) -> Int -> typing_count -> Option (typing_count × Bool)) (n : Nat) (a1 : List typing_form) (a2 : Int) (a3 : typing_count) : Option (typing_count × Bool) :=
  ((bif decide (0 < (a1.length : Int)) then some (decide (16 < a2)) else some false) : Option Bool).bind fun b2 => (bif b2 then some (a3, false) else (iter (F_dl n a1 a2 rec91) n (a3, 0) : Option (Ctl typing_count (typing_count × Bool))).bind fun b81 => match b81 with | .cont sb81 => (some (sb81, true)) | .done sb81 => some sb81)
theorem Qap (rec91 : (List typing_form) -> Int -> typing_count -> Option (typing_count × Bool)) (hrec91 : ∀ (a1 : List typing_form) (a2 : Int) (a3 : typing_count) (r : typing_count × Bool), rec91 a1 a2 a3 = some r -> C prog 170 [.ptr 0 0, .osl 1 0 a1.length 1, I a2] [.cells 256 (typing_count.c a3), .row 260 1 (List.map typing_form.enc a1)] (RQ (fun r => .bool r.2) (fun r => [.cells 256 (typing_count.c r.1), .row 260 1 (List.map typing_form.enc a1)]) r)) (n : Nat) (a1 : List typing_form) (a2 : Int) (a3 : typing_count) (r : typing_count × Bool) (h : B_f rec91 n a1 a2 a3 = some r) :
    C prog 170 [.ptr 0 0, .osl 1 0 a1.length 1, I a2] [.cells 256 (typing_count.c a3), .row 260 1 (List.map typing_form.enc a1)] (RQ (fun r => .bool r.2) (fun r => [.cells 256 (typing_count.c r.1), .row 260 1 (List.map typing_form.enc a1)]) r) := by
 refine Qb func170 Z Z Z ?_
 refine G0 7 Z (Bd h fun b2 h3 h => ?_)
 refine Ct b2 [0,1] [0,1,2] (fun b2 => [(18, .bool b2)]) (fun _ => []) (fun _ => rfl) ?_ (fun env H hle => ?_)
 ·refine G0 5 Z (Is 15 h3 Z (fun hg4 h3 => ?_) (fun hg4 h3 => ?_))
  ·exact Go 4 Z (Cl h3 [0,1])
  ·exact Go 4 Z (Cl h3 [0,1])
 refine Gx 1 Z (TC.le hle (Cn Z h (fun hc5 h => ?_) (fun hc5 h => ?_)))
 ·exact Gc 7 Z (Rt h 6 [0,1])
 refine Gc 10 Z (Bd h fun b81 h82 h => ?_)
 refine CtE (b := b81) [0,1] [] (fun _ => []) (fun sb81 => [(0, .cells 256 (typing_count.c sb81))]) (fun _ => rfl) ?_ (fun sb81 env H hbe hle => ?_)
 ·refine G0 1 Z ?_
  refine Lp [0,1] [0,2,19,20] (fun s84 => [(21, I s84.2)]) (fun s84 => [(0, .cells 256 (typing_count.c s84.1))]) h82 (fun _ => rfl) (Lr [0, 1]) fun s84 d85 h86 hb83 => ?_
  refine G0 6 Z (Q1 Z h86 (fun hc87 h86 => ?_) (fun hc87 h86 => ?_))
  ·refine Gc 2 Z (Qg h86 ?_)
   obtain rfl := Oj hb83 h86
   exact Gx 1 Z (Qh Z (Lr [0, 1]))
  refine Gc 6 Z (Bd h86 fun x88 hx88 h86 => ?_)
  refine vX (.ptr 1 (Int.toNat s84.2 * 1)) (QS hx88 Z runUnderlying221 sizeOf260) ?_
  refine vX (typing_form.val x88) (OpV.load Z isAgg260 Z (Qu hx88)) ?_
  refine Go 12 Z ?_
  rcases YC x88 with ⟨x89, hE90⟩ | ⟨x91, hE92⟩
  ·have h86 := Yw hE90 h86
   refine WO.le (QW (s := 8) (a' := .iface 263 (.agg (typing_step.c x89))) Z (congrArg typing_form.val hE90)) ?_
   refine WO.le (QW (s := 24) (a' := .iface 263 (.agg (typing_step.c x89))) Z (congrArg typing_form.val hE90)) ?_
   refine WO.le (QW (s := 25) (a' := .iface 263 (.agg (typing_step.c x89))) Z (congrArg typing_form.val hE90)) ?_
   refine vX (.tup [.agg [I 0, I 0, I 0, .rsl 4 (List.map Cond.enc [])], .bool false]) (QeW (z := (.agg [I 0, I 0, I 0, .rsl 4 (List.map Cond.enc [])])) runUnderlying298 (by intro m; nofun) Z zeroValue298 (zrC Z)) ?_
   refine Go 7 Z ?_
   refine vX (.tup [.agg (typing_step.c x89), .bool true]) (Qa6 runUnderlying263 (by intro m; nofun)) ?_
   refine Go 34 Z (Bd h86 fun b96 h97 h86 => ?_)
   refine Ct b96 [0,1] [0,2,8,19,20,21] (fun b96 => [(60, .bool b96.2)]) (fun b96 => [(0, .cells 256 (typing_count.c b96.1))]) (fun _ => rfl) ?_ (fun env H hle => ?_)
   ·refine G0 2 Z (Cz [] h97 (k_ae _ _) Z fun r98 hr98 h97 => Go 2 Z (Is 53 h97 Z (fun hg99 h97 => ?_) (fun hg99 h97 => ?_)))
    ·refine Go 2 Z ?_
     refine vX (.iface 298 (.agg (typing_cond.c ({ Cond := x89.Step.Cond : typing_cond })))) (Qai Z runUnderlying298 (by intro m; nofun) Z) ?_ (gT Z)
     refine vH (OpH.lit (xs := [.tmp 56]) (es := List.map typing_form.enc [typing_form.ctyping_cond ({ Cond := x89.Step.Cond : typing_cond })]) QbM Z Z Z Z Z ⟨Z, trivial⟩ Z Z) ?_ (gT Z)
     exact FE Z (Cd [0, 4] h97 (hrec91 _ _ _) Z fun r100 hr100 h97 => FE Z (Go 3 Z (Cl h97 [0,1])))
    ·exact Go 8 Z (Cl h97 [0,1])
   refine Gx 1 Z (TC.le hle (Cn Z h86 (fun hc101 h86 => ?_) (fun hc101 h86 => ?_)))
   ·refine Gc 10 Z (Qk h86 ?_)
    obtain rfl := Oj hb83 h86
    exact Gx 1 Z (Qi (Gx 1 Z (Rt h 6 [0,1])))
   refine Gc 4 Z (Bd h86 fun b106 h107 h86 => ?_)
   refine Ct b106 [0,1] [0,2,19,20,21] (fun b106 => [(81, .bool b106.2)]) (fun b106 => [(0, .cells 256 (typing_count.c b106.1))]) (fun _ => rfl) ?_ (fun env H hle => ?_)
   ·refine G0 7 Z (Is 66 h107 Z (fun hg108 h107 => ?_) (fun hg108 h107 => ?_))
    ·exact Go 16 Z (Cl h107 [0,1])
    ·refine Go 7 Z (Is 73 h107 Z (fun hg109 h107 => ?_) (fun hg109 h107 => ?_))
     ·exact Go 9 Z (Cl h107 [0,1])
     ·refine Go 2 Z (Bd h107 fun r110 hr110 h107 => ?_)
      refine Qy [] (Qc2 call240 Z Z Z Z (fun _ _ => by kernel_rfl)) (k_aa _ _ _ hr110) ?_ (hg := (gT Z))
      rintro _ _ ⟨rfl, rfl⟩
      exact FE Z (Go 2 Z (Cd [0, 2] h107 (hrec91 _ _ _) Z fun r111 hr111 h107 => FE Z (Go 3 Z (Cl h107 [0,1]))))
   refine Gx 1 Z (TC.le hle (Cn Z h86 (fun hc112 h86 => ?_) (fun hc112 h86 => ?_)))
   ·refine Gc 8 Z (Qk h86 ?_)
    obtain rfl := Oj hb83 h86
    exact Gx 1 Z (Qi (Gx 1 Z (Rt h 6 [0,1])))
   exact Gc 7 Z (Qf h86 (Lr [0, 1]))
  ·have h86 := Yv hE92 h86
   refine WO.le (QW (s := 8) (a' := .iface 298 (.agg (typing_cond.c ({ Cond := x91.Cond : typing_cond })))) Z (congrArg typing_form.val hE92)) ?_
   refine WO.le (QW (s := 24) (a' := .iface 298 (.agg (typing_cond.c ({ Cond := x91.Cond : typing_cond })))) Z (congrArg typing_form.val hE92)) ?_
   refine WO.le (QW (s := 25) (a' := .iface 298 (.agg (typing_cond.c ({ Cond := x91.Cond : typing_cond })))) Z (congrArg typing_form.val hE92)) ?_
   refine vX (.tup [.agg (typing_cond.c ({ Cond := x91.Cond : typing_cond })), .bool true]) (Qa6 runUnderlying298 (by intro m; nofun)) ?_
   refine Go 24 Z (Bd h86 fun b117 h118 h86 => ?_)
   refine Ct b117 [0,1] [0,2,19,20,21] (fun b117 => [(81, .bool b117.2)]) (fun b117 => [(0, .cells 256 (typing_count.c b117.1))]) (fun _ => rfl) ?_ (fun env H hle => ?_)
   ·refine G0 7 Z (Is 66 h118 Z (fun hg119 h118 => ?_) (fun hg119 h118 => ?_))
    ·exact Go 16 Z (Cl h118 [0,1])
    ·refine Go 7 Z (Is 73 h118 Z (fun hg120 h118 => ?_) (fun hg120 h118 => ?_))
     ·exact Go 9 Z (Cl h118 [0,1])
     ·refine Go 2 Z (Bd h118 fun r121 hr121 h118 => ?_)
      refine Qy [] (Qc2 call239 Z Z Z Z (fun _ _ => by kernel_rfl)) (k_z _ _ _ hr121) ?_ (hg := (gT Z))
      rintro _ _ ⟨rfl, rfl⟩
      exact FE Z (Go 2 Z (Cd [0, 3] h118 (hrec91 _ _ _) Z fun r122 hr122 h118 => FE Z (Go 3 Z (Cl h118 [0,1]))))
   refine Gx 1 Z (TC.le hle (Cn Z h86 (fun hc123 h86 => ?_) (fun hc123 h86 => ?_)))
   ·refine Gc 8 Z (Qk h86 ?_)
    obtain rfl := Oj hb83 h86
    exact Gx 1 Z (Qi (Gx 1 Z (Rt h 6 [0,1])))
   exact Gc 7 Z (Qf h86 (Lr [0, 1]))
 subst hbe
 exact Gx 1 Z (TC.le hle (Gc 6 Z (Rt h 6 [0,1])))
def F_f : Nat -> (List typing_form) -> Int -> typing_count -> Option (typing_count × Bool)
  | 0 => fun _ _ _ => none
  | n + 1 => B_f (F_f n) n
theorem k_f (n : Nat) : ∀ (a1 : List typing_form) (a2 : Int) (a3 : typing_count) (r : typing_count × Bool), F_f n a1 a2 a3 = some r -> C prog 170 [.ptr 0 0, .osl 1 0 a1.length 1, I a2] [.cells 256 (typing_count.c a3), .row 260 1 (List.map typing_form.enc a1)] (RQ (fun r => .bool r.2) (fun r => [.cells 256 (typing_count.c r.1), .row 260 1 (List.map typing_form.enc a1)]) r) := by
  induction n with
  | zero => intro a1 a2 a3 r h; cases h
  | succ n ih => intro a1 a2 a3 r h; exact Qap _ ih n a1 a2 a3 r h
def F_im (n : Nat) (a1 : List typing_form) (a2 : Int) (s84 : typing_count × Int) : Option (Ctl (typing_count × Int) (Ctl typing_count (typing_count × Bool))) :=
  (bif decide (s84.2 < (a1.length : Int)) then (idx a1 s84.2).bind fun x88 => typing_form.elim x88 (fun x89 => ((F_ae n ({ Cond := x89.Step.Cond : typing_cond })).bind fun r98 => (bif (!r98) then (F_f n [typing_form.ctyping_cond ({ Cond := x89.Step.Cond : typing_cond })] 0 ({ steps := IntKind.i64.wrap (s84.1.steps + 1), conds := s84.1.conds : typing_count })).bind fun r100 => some (r100.1, (!r100.2)) else some ({ steps := IntKind.i64.wrap (s84.1.steps + 1), conds := s84.1.conds : typing_count }, false)) : Option (typing_count × Bool)).bind fun b96 => (bif b96.2 then some (.done (.done (b96.1, false))) else ((bif decide (64 < b96.1.steps) then some (b96.1, true) else (bif decide (256 < b96.1.conds) then some (b96.1, true) else (F_aa n x89).bind fun r110 => (F_f n r110 (IntKind.i64.wrap (a2 + 1)) b96.1).bind fun r111 => some (r111.1, (!r111.2)))) : Option (typing_count × Bool)).bind fun b106 => (bif b106.2 then some (.done (.done (b106.1, false))) else some (.cont (b106.1, IntKind.i64.wrap (s84.2 + 1)))))) (fun x91 => ((bif decide (64 < s84.1.steps) then some ({ steps := s84.1.steps, conds := IntKind.i64.wrap (s84.1.conds + 1) : typing_count }, true) else (bif decide (256 < (IntKind.i64.wrap (s84.1.conds + 1))) then some ({ steps := s84.1.steps, conds := IntKind.i64.wrap (s84.1.conds + 1) : typing_count }, true) else (F_z n ({ Cond := x91.Cond : typing_cond })).bind fun r121 => (F_f n r121 (IntKind.i64.wrap (a2 + 1)) ({ steps := s84.1.steps, conds := IntKind.i64.wrap (s84.1.conds + 1) : typing_count })).bind fun r122 => some (r122.1, (!r122.2)))) : Option (typing_count × Bool)).bind fun b117 => (bif b117.2 then some (.done (.done (b117.1, false))) else some (.cont (b117.1, IntKind.i64.wrap (s84.2 + 1))))) else some (.done (.cont s84.1)))
def F_ep (n : Nat) (a1 : List typing_form) (a2 : Int) (a3 : typing_count) : Option (typing_count × Bool) :=
  ((bif decide (0 < (a1.length : Int)) then some (decide (16 < a2)) else some false) : Option Bool).bind fun b2 => (bif b2 then some (a3, false) else (iter (F_im n a1 a2) n (a3, 0) : Option (Ctl typing_count (typing_count × Bool))).bind fun b81 => match b81 with | .cont sb81 => (some (sb81, true)) | .done sb81 => some sb81)
theorem k_ep (n : Nat) (a1 : List typing_form) (a2 : Int) (a3 : typing_count) (r : typing_count × Bool) (h : F_ep n a1 a2 a3 = some r) :
    C prog 170 [.ptr 0 0, .rsl 1 (List.map typing_form.enc a1), I a2] [.cells 256 (typing_count.c a3)] (RQ (fun r => .bool r.2) (fun r => [.cells 256 (typing_count.c r.1)]) r) := by
 refine Qb func170 Z Z Z ?_
 refine G0 7 Z (Bd h fun b2 h3 h => ?_)
 refine Ct b2 [0] [0,1,2] (fun b2 => [(18, .bool b2)]) (fun _ => []) (fun _ => rfl) ?_ (fun env H hle => ?_)
 ·refine G0 2 Z (Lm Z (Go 2 Z (Is 15 h3 Z (fun hg4 h3 => ?_) (fun hg4 h3 => ?_))))
  ·exact Go 4 Z (Cl h3 [0])
  ·exact Go 4 Z (Cl h3 [0])
 refine Gx 1 Z (TC.le hle (Cn Z h (fun hc5 h => ?_) (fun hc5 h => ?_)))
 ·exact Gc 7 Z (Rt h 6 [0])
 refine Gc 6 Z (Lm Z (Go 3 Z (Bd h fun b81 h82 h => ?_)))
 refine CtE (b := b81) [0] [] (fun _ => []) (fun sb81 => [(0, .cells 256 (typing_count.c sb81))]) (fun _ => rfl) ?_ (fun sb81 env H hbe hle => ?_)
 ·refine G0 1 Z ?_
  refine Lp [0] [0,2,19,20] (fun s84 => [(21, I s84.2)]) (fun s84 => [(0, .cells 256 (typing_count.c s84.1))]) h82 (fun _ => rfl) (Lr [0]) fun s84 d85 h86 hb83 => ?_
  refine G0 6 Z (Q1 Z h86 (fun hc87 h86 => ?_) (fun hc87 h86 => ?_))
  ·refine Gc 2 Z (Qg h86 ?_)
   obtain rfl := Oj hb83 h86
   exact Gx 1 Z (Qh Z (Lr [0]))
  refine Gc 6 Z (Bd h86 fun x88 hx88 h86 => Iz hx88 Z (Go 13 Z ?_))
  rcases YC x88 with ⟨x89, hE90⟩ | ⟨x91, hE92⟩
  ·have h86 := Yw hE90 h86
   refine WO.le (QW (s := 8) (a' := .iface 263 (.agg (typing_step.c x89))) Z (congrArg typing_form.val hE90)) ?_
   refine WO.le (QW (s := 24) (a' := .iface 263 (.agg (typing_step.c x89))) Z (congrArg typing_form.val hE90)) ?_
   refine WO.le (QW (s := 25) (a' := .iface 263 (.agg (typing_step.c x89))) Z (congrArg typing_form.val hE90)) ?_
   refine vX (.tup [.agg [I 0, I 0, I 0, .rsl 4 (List.map Cond.enc [])], .bool false]) (QeW (z := (.agg [I 0, I 0, I 0, .rsl 4 (List.map Cond.enc [])])) runUnderlying298 (by intro m; nofun) Z zeroValue298 (zrC Z)) ?_
   refine Go 7 Z ?_
   refine vX (.tup [.agg (typing_step.c x89), .bool true]) (Qa6 runUnderlying263 (by intro m; nofun)) ?_
   refine Go 34 Z (Bd h86 fun b96 h97 h86 => ?_)
   refine Ct b96 [0] [0,2,8,19,20,21] (fun b96 => [(60, .bool b96.2)]) (fun b96 => [(0, .cells 256 (typing_count.c b96.1))]) (fun _ => rfl) ?_ (fun env H hle => ?_)
   ·refine G0 2 Z (Cz [] h97 (k_ae _ _) Z fun r98 hr98 h97 => Go 2 Z (Is 53 h97 Z (fun hg99 h97 => ?_) (fun hg99 h97 => ?_)))
    ·refine Go 2 Z ?_
     refine vX (.iface 298 (.agg (typing_cond.c ({ Cond := x89.Step.Cond : typing_cond })))) (Qai Z runUnderlying298 (by intro m; nofun) Z) ?_ (gT Z)
     refine vH (OpH.lit (xs := [.tmp 56]) (es := List.map typing_form.enc [typing_form.ctyping_cond ({ Cond := x89.Step.Cond : typing_cond })]) QbM Z Z Z Z Z ⟨Z, trivial⟩ Z Z) ?_ (gT Z)
     exact FE Z (Cd [0, 3] h97 (k_f _ _ _ _) Z fun r100 hr100 h97 => FE Z (Go 3 Z (Cl h97 [0])))
    ·exact Go 8 Z (Cl h97 [0])
   refine Gx 1 Z (TC.le hle (Cn Z h86 (fun hc101 h86 => ?_) (fun hc101 h86 => ?_)))
   ·refine Gc 10 Z (Qk h86 ?_)
    obtain rfl := Oj hb83 h86
    exact Gx 1 Z (Qi (Gx 1 Z (Rt h 6 [0])))
   refine Gc 4 Z (Bd h86 fun b106 h107 h86 => ?_)
   refine Ct b106 [0] [0,2,19,20,21] (fun b106 => [(81, .bool b106.2)]) (fun b106 => [(0, .cells 256 (typing_count.c b106.1))]) (fun _ => rfl) ?_ (fun env H hle => ?_)
   ·refine G0 7 Z (Is 66 h107 Z (fun hg108 h107 => ?_) (fun hg108 h107 => ?_))
    ·exact Go 16 Z (Cl h107 [0])
    ·refine Go 7 Z (Is 73 h107 Z (fun hg109 h107 => ?_) (fun hg109 h107 => ?_))
     ·exact Go 9 Z (Cl h107 [0])
     ·refine Go 2 Z (Bd h107 fun r110 hr110 h107 => ?_)
      refine Qy [] (Qc2 call240 Z Z Z Z (fun _ _ => by kernel_rfl)) (k_aa _ _ _ hr110) ?_ (hg := (gT Z))
      rintro _ _ ⟨rfl, rfl⟩
      exact FE Z (Go 2 Z (Cd [0, 1] h107 (k_f _ _ _ _) Z fun r111 hr111 h107 => FE Z (Go 3 Z (Cl h107 [0]))))
   refine Gx 1 Z (TC.le hle (Cn Z h86 (fun hc112 h86 => ?_) (fun hc112 h86 => ?_)))
   ·refine Gc 8 Z (Qk h86 ?_)
    obtain rfl := Oj hb83 h86
    exact Gx 1 Z (Qi (Gx 1 Z (Rt h 6 [0])))
   exact Gc 7 Z (Qf h86 (Lr [0]))
  ·have h86 := Yv hE92 h86
   refine WO.le (QW (s := 8) (a' := .iface 298 (.agg (typing_cond.c ({ Cond := x91.Cond : typing_cond })))) Z (congrArg typing_form.val hE92)) ?_
   refine WO.le (QW (s := 24) (a' := .iface 298 (.agg (typing_cond.c ({ Cond := x91.Cond : typing_cond })))) Z (congrArg typing_form.val hE92)) ?_
   refine WO.le (QW (s := 25) (a' := .iface 298 (.agg (typing_cond.c ({ Cond := x91.Cond : typing_cond })))) Z (congrArg typing_form.val hE92)) ?_
   refine vX (.tup [.agg (typing_cond.c ({ Cond := x91.Cond : typing_cond })), .bool true]) (Qa6 runUnderlying298 (by intro m; nofun)) ?_
   refine Go 24 Z (Bd h86 fun b117 h118 h86 => ?_)
   refine Ct b117 [0] [0,2,19,20,21] (fun b117 => [(81, .bool b117.2)]) (fun b117 => [(0, .cells 256 (typing_count.c b117.1))]) (fun _ => rfl) ?_ (fun env H hle => ?_)
   ·refine G0 7 Z (Is 66 h118 Z (fun hg119 h118 => ?_) (fun hg119 h118 => ?_))
    ·exact Go 16 Z (Cl h118 [0])
    ·refine Go 7 Z (Is 73 h118 Z (fun hg120 h118 => ?_) (fun hg120 h118 => ?_))
     ·exact Go 9 Z (Cl h118 [0])
     ·refine Go 2 Z (Bd h118 fun r121 hr121 h118 => ?_)
      refine Qy [] (Qc2 call239 Z Z Z Z (fun _ _ => by kernel_rfl)) (k_z _ _ _ hr121) ?_ (hg := (gT Z))
      rintro _ _ ⟨rfl, rfl⟩
      exact FE Z (Go 2 Z (Cd [0, 2] h118 (k_f _ _ _ _) Z fun r122 hr122 h118 => FE Z (Go 3 Z (Cl h118 [0]))))
   refine Gx 1 Z (TC.le hle (Cn Z h86 (fun hc123 h86 => ?_) (fun hc123 h86 => ?_)))
   ·refine Gc 8 Z (Qk h86 ?_)
    obtain rfl := Oj hb83 h86
    exact Gx 1 Z (Qi (Gx 1 Z (Rt h 6 [0])))
   exact Gc 7 Z (Qf h86 (Lr [0]))
 subst hbe
 exact Gx 1 Z (TC.le hle (Gc 6 Z (Rt h 6 [0])))
def F_cz (rec95 : (List typing_form) -> Option Bool) (n : Nat) (a1 : typing_cond) : Option Bool :=
  ((bif (a1.Cond.Var == 0) then some (a1.Cond.N == 0) else some false) : Option Bool).bind fun b2 => (bif (a1.Cond.Kind == 1) then ((F_a n 1 3 [a1.Cond.Var]).bind fun r12 => (bif r12 then (F_a n 0 10000 [a1.Cond.N]).bind fun r14 => (bif r14 then some ((a1.Cond.Parts.length : Int) == 0) else some false) else some false) : Option Bool).bind fun b10 => some b10 else ((bif (a1.Cond.Kind == 4) then (bif b2 then some (.cont ((a1.Cond.Parts.length : Int) == 1)) else some (.cont false)) else ((bif (a1.Cond.Kind == 2) then some (a1.Cond.Kind == 2) else some (a1.Cond.Kind == 3)) : Option Bool).bind fun b30 => (bif b30 then (bif b2 then (bif decide (0 < (a1.Cond.Parts.length : Int)) then some (.cont (decide ((a1.Cond.Parts.length : Int) <= 16))) else some (.cont false)) else some (.cont false)) else some (.done false))) : Option (Ctl Bool Bool)).bind fun b25 => match b25 with | .cont sb25 => (((bif sb25 then (F_z n ({ Cond := a1.Cond : typing_cond })).bind fun r42 => (rec95 r42).bind fun r43 => some (!r43) else some false) : Option Bool).bind fun b39 => some b39) | .done sb25 => some sb25)
theorem k_cz (rec95 : (List typing_form) -> Option Bool) (hrec95 : ∀ (a1 : List typing_form) (r : Bool), rec95 a1 = some r -> Csm prog 171 [.rsl 1 (List.map typing_form.enc a1), .fn (.func 172) [] []] [] (fun r => .bool r) r) (n : Nat) (a1 : typing_cond) (r : Bool) (h : F_cz rec95 n a1 = some r) :
    Csm prog 219 [.iface 298 (.agg (typing_cond.c ({ Cond := a1.Cond : typing_cond })))] [] (fun r => .bool r) r := by
 refine Qb func219 Z Z Z ?_
 refine G0 14 Z ?_
 refine vX (.tup [.agg (typing_cond.c ({ Cond := a1.Cond : typing_cond })), .bool true]) (Qa6 runUnderlying298 (by intro m; nofun)) ?_
 refine Go 12 Z (Bd h fun b2 h3 h => ?_)
 refine Ct b2 [0] [3] (fun b2 => [(4, .bool b2)]) (fun _ => []) (fun _ => rfl) ?_ (fun env H hle => ?_)
 ·refine G0 6 Z (Is 15 h3 Z (fun hg4 h3 => ?_) (fun hg4 h3 => ?_))
  ·exact Go 7 Z (Cl h3 [0])
  ·exact Go 7 Z (Cl h3 [0])
 refine Gx 1 Z (TC.le hle (Gc 15 Z (Cn Z h (fun hc5 h => ?_) (fun hc5 h => ?_))))
 ·refine Gc 1 Z (Bd h fun b10 h11 h => ?_)
  refine Ct b10 [] [] (fun b10 => [(2, .bool b10)]) (fun _ => []) (fun _ => rfl) ?_ (fun env H hle => ?_)
  ·refine G0 4 Z ?_
   refine vH (OpH.lit (xs := [.tmp 28]) (es := List.map (encI .i64) [a1.Cond.Var]) QJ Z Z Z Z Z ⟨Z, trivial⟩ Z Z) ?_
   refine FE Z (Cb h11 (k_a _ _ _ _) Z (ls (ls (lo ln))) fun r12 hr12 h11 => Go 1 Z (Is 31 h11 Z (fun hg13 h11 => ?_) (fun hg13 h11 => ?_)))
   ·refine Go 3 Z ?_
    refine vH (OpH.lit (xs := [.tmp 34]) (es := List.map (encI .i64) [a1.Cond.N]) QJ Z Z Z Z Z ⟨Z, trivial⟩ Z Z) ?_ (gT Z)
    refine FE Z (Cb h11 (k_a _ _ _ _) Z (ls (ls (lo ln))) fun r14 hr14 h11 => Go 2 Z (Is 38 h11 Z (fun hg15 h11 => ?_) (fun hg15 h11 => ?_)))
    ·exact Go 3 Z (Lm Z (Go 4 Z (Cl h11 [])))
    ·exact Go 8 Z (Cl h11 [])
   ·exact Go 15 Z (Cl h11 [])
  exact Gx 1 Z (TC.le hle (Gc 5 Z (Rt h 2 [])))
 refine Gc 6 Z (Bd h fun b25 h26 h => ?_)
 refine CtE (b := b25) [0] [3] (fun sb25 => [(4, .bool sb25)]) (fun _ => []) (fun _ => rfl) ?_ (fun sb25 env H hb hle => ?_)
 ·refine G0 0 Z (Cn Z h26 (fun hc27 h26 => ?_) (fun hc27 h26 => ?_))
  ·refine Gc 3 Z (Is 48 h26 Z (fun hg28 h26 => ?_) (fun hg28 h26 => ?_))
   ·refine Go 3 Z (Lm Z (Go 4 Z ?_))
    cases h26
    exact Qh Z (Lr [0])
   ·refine Go 8 Z ?_
    cases h26
    exact Qh Z (Lr [0])
  refine Gc 7 Z (Bd h26 fun b30 h31 h26 => ?_)
  refine Ct b30 [0] [3,4] (fun b30 => [(55, .bool b30)]) (fun _ => []) (fun _ => rfl) ?_ (fun env H hle => ?_)
  ·refine G0 0 Z (Cn Z h31 (fun hc32 h31 => ?_) (fun hc32 h31 => ?_))
   ·exact Gc 1 Z (Cl h31 [0])
   exact Gc 4 Z (Cl h31 [0])
  refine Gx 1 Z (TC.le hle (Q1 Z h26 (fun hc33 h26 => ?_) (fun hc33 h26 => ?_)))
  ·refine Gc 6 Z ?_
   cases h26
   exact Qi (Gx 4 Z (Rt h 2 []))
  refine Gc 3 Z (Is 59 h26 Z (fun hg34 h26 => ?_) (fun hg34 h26 => ?_))
  ·refine Go 3 Z (Lm Z (Go 3 Z (Is 66 h26 Z (fun hg35 h26 => ?_) (fun hg35 h26 => ?_))))
   ·refine Go 3 Z (Lm Z (Go 4 Z ?_))
    cases h26
    exact Qh Z (Lr [0])
   ·refine Go 8 Z ?_
    cases h26
    exact Qh Z (Lr [0])
  ·refine Go 15 Z ?_
   cases h26
   exact Qh Z (Lr [0])
 subst hb
 refine Gx 2 Z (TC.le hle (Gc 1 Z (Bd h fun b39 h40 h => ?_)))
 refine Ct b39 [] [] (fun b39 => [(2, .bool b39)]) (fun _ => []) (fun _ => rfl) ?_ (fun env H hle => ?_)
 ·refine G0 3 Z (Is 74 h40 Z (fun hg41 h40 => ?_) (fun hg41 h40 => ?_))
  ·exact Go 1 Z (Cd [] h40 (k_z _ _) Z fun r42 hr42 h40 => FE Z (Cb h40 (hrec95 _) Z (lo (ls ln)) fun r43 hr43 h40 => Go 4 Z (Cl h40 [])))
  ·exact Go 7 Z (Cl h40 [])
 exact Gx 1 Z (TC.le hle (Gc 3 Z (Rt h 2 [])))
def F_dr (rec95 : (List typing_form) -> Option Bool) (n : Nat) (a1 : typing_form) : Option Bool :=
  typing_form.elim a1 (fun x1 => (bif (x1.Step.Kind == 1) then ((F_a n 1 5 [x1.Step.By]).bind fun r13 => (bif r13 then (F_ae n ({ Cond := x1.Step.Cond : typing_cond })).bind fun r15 => (bif r15 then (F_aa n x1).bind fun r17 => some ((r17.length : Int) == 0) else some false) else some false) : Option Bool).bind fun b11 => some b11 else (bif (x1.Step.Kind == 2) then ((bif (x1.Step.By == 0) then (F_cz rec95 n ({ Cond := x1.Step.Cond : typing_cond })).bind fun r28 => (bif r28 then (bif decide (0 < (x1.Step.Then.length : Int)) then (F_aa n x1).bind fun r31 => (rec95 r31).bind fun r32 => some (!r32) else some false) else some false) else some false) : Option Bool).bind fun b25 => some b25 else some false))) (fun x3 => ((bif (x3.Cond.Var == 0) then some (x3.Cond.N == 0) else some false) : Option Bool).bind fun b34 => (bif (x3.Cond.Kind == 1) then ((F_a n 1 3 [x3.Cond.Var]).bind fun r44 => (bif r44 then (F_a n 0 10000 [x3.Cond.N]).bind fun r46 => (bif r46 then some ((x3.Cond.Parts.length : Int) == 0) else some false) else some false) : Option Bool).bind fun b42 => some b42 else ((bif (x3.Cond.Kind == 4) then (bif b34 then some (.cont ((x3.Cond.Parts.length : Int) == 1)) else some (.cont false)) else ((bif (x3.Cond.Kind == 2) then some (x3.Cond.Kind == 2) else some (x3.Cond.Kind == 3)) : Option Bool).bind fun b62 => (bif b62 then (bif b34 then (bif decide (0 < (x3.Cond.Parts.length : Int)) then some (.cont (decide ((x3.Cond.Parts.length : Int) <= 16))) else some (.cont false)) else some (.cont false)) else some (.done false))) : Option (Ctl Bool Bool)).bind fun b57 => match b57 with | .cont sb57 => (((bif sb57 then (F_z n ({ Cond := x3.Cond : typing_cond })).bind fun r74 => (rec95 r74).bind fun r75 => some (!r75) else some false) : Option Bool).bind fun b71 => some b71) | .done sb57 => some sb57))
theorem k_dr (rec95 : (List typing_form) -> Option Bool) (hrec95 : ∀ (a1 : List typing_form) (r : Bool), rec95 a1 = some r -> Csm prog 171 [.rsl 1 (List.map typing_form.enc a1), .fn (.func 172) [] []] [] (fun r => .bool r) r) (n : Nat) (a1 : typing_form) (r : Bool) (h : F_dr rec95 n a1 = some r) :
    Csm prog 219 [typing_form.val a1] [] (fun r => .bool r) r := by
 refine Qb func219 Z Z Z ?_
 refine G0 14 Z ?_
 rcases YC a1 with ⟨x1, hE2⟩ | ⟨x3, hE4⟩
 ·have h := Yw hE2 h
  refine WO.le (QW (s := 0) (a' := .iface 263 (.agg (typing_step.c x1))) Z (congrArg typing_form.val hE2)) ?_
  refine WO.le (QW (s := 7) (a' := .iface 263 (.agg (typing_step.c x1))) Z (congrArg typing_form.val hE2)) ?_
  refine vX (.tup [.agg [I 0, I 0, I 0, .rsl 4 (List.map Cond.enc [])], .bool false]) (QeW (z := (.agg [I 0, I 0, I 0, .rsl 4 (List.map Cond.enc [])])) runUnderlying298 (by intro m; nofun) Z zeroValue298 (zrC Z)) ?_
  refine Go 7 Z ?_
  refine vX (.tup [.agg (typing_step.c x1), .bool true]) (Qa6 runUnderlying263 (by intro m; nofun)) ?_
  refine Go 35 Z (Cn Z h (fun hc5 h => ?_) (fun hc5 h => ?_))
  ·refine Gc 1 Z (Bd h fun b11 h12 h => ?_)
   refine Ct b11 [] [] (fun b11 => [(2, .bool b11)]) (fun _ => []) (fun _ => rfl) ?_ (fun env H hle => ?_)
   ·refine G0 4 Z ?_
    refine vH (OpH.lit (xs := [.tmp 94]) (es := List.map (encI .i64) [x1.Step.By]) QJ Z Z Z Z Z ⟨Z, trivial⟩ Z Z) ?_
    refine FE Z (Cb h12 (k_a _ _ _ _) Z (ls (ls (lo ln))) fun r13 hr13 h12 => Go 1 Z (Is 97 h12 Z (fun hg14 h12 => ?_) (fun hg14 h12 => ?_)))
    ·refine Go 1 Z (Cz [] h12 (k_ae _ _) Z fun r15 hr15 h12 => Go 2 Z (Is 101 h12 Z (fun hg16 h12 => ?_) (fun hg16 h12 => ?_)))
     ·exact Go 1 Z (Cd [] h12 (k_aa _ _) Z fun r17 hr17 h12 => FE Z (Go 5 Z (Cl h12 [])))
     ·exact Go 7 Z (Cl h12 [])
    ·exact Go 11 Z (Cl h12 [])
   exact Gx 1 Z (TC.le hle (Gc 4 Z (Rt h 2 [])))
  refine Gc 6 Z (Cn Z h (fun hc18 h => ?_) (fun hc18 h => ?_))
  ·refine Gc 1 Z (Bd h fun b25 h26 h => ?_)
   refine Ct b25 [] [] (fun b25 => [(2, .bool b25)]) (fun _ => []) (fun _ => rfl) ?_ (fun env H hle => ?_)
   ·refine G0 6 Z (Is 113 h26 Z (fun hg27 h26 => ?_) (fun hg27 h26 => ?_))
    ·refine Go 1 Z ?_
     refine vX (.iface 298 (.agg (typing_cond.c ({ Cond := x1.Step.Cond : typing_cond })))) (Qai Z runUnderlying298 (by intro m; nofun) Z) ?_ (gT Z)
     refine Cz [] h26 (k_cz rec95 hrec95 _ _) Z fun r28 hr28 h26 => Go 2 Z (Is 118 h26 Z (fun hg29 h26 => ?_) (fun hg29 h26 => ?_))
     ·refine Go 3 Z (Lm Z (Go 3 Z (Is 125 h26 Z (fun hg30 h26 => ?_) (fun hg30 h26 => ?_))))
      ·exact Go 1 Z (Cd [] h26 (k_aa _ _) Z fun r31 hr31 h26 => FE Z (Cb h26 (hrec95 _) Z (lo (ls ln)) fun r32 hr32 h26 => Go 4 Z (Cl h26 [])))
      ·exact Go 7 Z (Cl h26 [])
     ·exact Go 14 Z (Cl h26 [])
    ·exact Go 19 Z (Cl h26 [])
   exact Gx 1 Z (TC.le hle (Gc 4 Z (Rt h 2 [])))
  exact Gc 10 Z (Rt h 2 [])
 ·have h := Yv hE4 h
  refine WO.le (QW (s := 0) (a' := .iface 298 (.agg (typing_cond.c ({ Cond := x3.Cond : typing_cond })))) Z (congrArg typing_form.val hE4)) ?_
  refine WO.le (QW (s := 7) (a' := .iface 298 (.agg (typing_cond.c ({ Cond := x3.Cond : typing_cond })))) Z (congrArg typing_form.val hE4)) ?_
  refine vX (.tup [.agg (typing_cond.c ({ Cond := x3.Cond : typing_cond })), .bool true]) (Qa6 runUnderlying298 (by intro m; nofun)) ?_
  refine Go 12 Z (Bd h fun b34 h35 h => ?_)
  refine Ct b34 [0] [3] (fun b34 => [(4, .bool b34)]) (fun _ => []) (fun _ => rfl) ?_ (fun env H hle => ?_)
  ·refine G0 6 Z (Is 15 h35 Z (fun hg36 h35 => ?_) (fun hg36 h35 => ?_))
   ·exact Go 7 Z (Cl h35 [0])
   ·exact Go 7 Z (Cl h35 [0])
  refine Gx 1 Z (TC.le hle (Gc 15 Z (Cn Z h (fun hc37 h => ?_) (fun hc37 h => ?_))))
  ·refine Gc 1 Z (Bd h fun b42 h43 h => ?_)
   refine Ct b42 [] [] (fun b42 => [(2, .bool b42)]) (fun _ => []) (fun _ => rfl) ?_ (fun env H hle => ?_)
   ·refine G0 4 Z ?_
    refine vH (OpH.lit (xs := [.tmp 28]) (es := List.map (encI .i64) [x3.Cond.Var]) QJ Z Z Z Z Z ⟨Z, trivial⟩ Z Z) ?_
    refine FE Z (Cb h43 (k_a _ _ _ _) Z (ls (ls (lo ln))) fun r44 hr44 h43 => Go 1 Z (Is 31 h43 Z (fun hg45 h43 => ?_) (fun hg45 h43 => ?_)))
    ·refine Go 3 Z ?_
     refine vH (OpH.lit (xs := [.tmp 34]) (es := List.map (encI .i64) [x3.Cond.N]) QJ Z Z Z Z Z ⟨Z, trivial⟩ Z Z) ?_ (gT Z)
     refine FE Z (Cb h43 (k_a _ _ _ _) Z (ls (ls (lo ln))) fun r46 hr46 h43 => Go 2 Z (Is 38 h43 Z (fun hg47 h43 => ?_) (fun hg47 h43 => ?_)))
     ·exact Go 3 Z (Lm Z (Go 4 Z (Cl h43 [])))
     ·exact Go 8 Z (Cl h43 [])
    ·exact Go 15 Z (Cl h43 [])
   exact Gx 1 Z (TC.le hle (Gc 5 Z (Rt h 2 [])))
  refine Gc 6 Z (Bd h fun b57 h58 h => ?_)
  refine CtE (b := b57) [0] [3] (fun sb57 => [(4, .bool sb57)]) (fun _ => []) (fun _ => rfl) ?_ (fun sb57 env H hb hle => ?_)
  ·refine G0 0 Z (Cn Z h58 (fun hc59 h58 => ?_) (fun hc59 h58 => ?_))
   ·refine Gc 3 Z (Is 48 h58 Z (fun hg60 h58 => ?_) (fun hg60 h58 => ?_))
    ·refine Go 3 Z (Lm Z (Go 4 Z ?_))
     cases h58
     exact Qh Z (Lr [0])
    ·refine Go 8 Z ?_
     cases h58
     exact Qh Z (Lr [0])
   refine Gc 7 Z (Bd h58 fun b62 h63 h58 => ?_)
   refine Ct b62 [0] [3,4] (fun b62 => [(55, .bool b62)]) (fun _ => []) (fun _ => rfl) ?_ (fun env H hle => ?_)
   ·refine G0 0 Z (Cn Z h63 (fun hc64 h63 => ?_) (fun hc64 h63 => ?_))
    ·exact Gc 1 Z (Cl h63 [0])
    exact Gc 4 Z (Cl h63 [0])
   refine Gx 1 Z (TC.le hle (Q1 Z h58 (fun hc65 h58 => ?_) (fun hc65 h58 => ?_)))
   ·refine Gc 6 Z ?_
    cases h58
    exact Qi (Gx 4 Z (Rt h 2 []))
   refine Gc 3 Z (Is 59 h58 Z (fun hg66 h58 => ?_) (fun hg66 h58 => ?_))
   ·refine Go 3 Z (Lm Z (Go 3 Z (Is 66 h58 Z (fun hg67 h58 => ?_) (fun hg67 h58 => ?_))))
    ·refine Go 3 Z (Lm Z (Go 4 Z ?_))
     cases h58
     exact Qh Z (Lr [0])
    ·refine Go 8 Z ?_
     cases h58
     exact Qh Z (Lr [0])
   ·refine Go 15 Z ?_
    cases h58
    exact Qh Z (Lr [0])
  subst hb
  refine Gx 2 Z (TC.le hle (Gc 1 Z (Bd h fun b71 h72 h => ?_)))
  refine Ct b71 [] [] (fun b71 => [(2, .bool b71)]) (fun _ => []) (fun _ => rfl) ?_ (fun env H hle => ?_)
  ·refine G0 3 Z (Is 74 h72 Z (fun hg73 h72 => ?_) (fun hg73 h72 => ?_))
   ·exact Go 1 Z (Cd [] h72 (k_z _ _) Z fun r74 hr74 h72 => FE Z (Cb h72 (hrec95 _) Z (lo (ls ln)) fun r75 hr75 h72 => Go 4 Z (Cl h72 [])))
   ·exact Go 7 Z (Cl h72 [])
  exact Gx 1 Z (TC.le hle (Gc 3 Z (Rt h 2 [])))
def F_bx (rec95 : (List typing_form) -> Option Bool) (n : Nat) (a1 : typing_form) : Option Bool :=
  (F_dr rec95 n a1).bind fun r1 => some (!r1)
theorem k_bx (rec95 : (List typing_form) -> Option Bool) (hrec95 : ∀ (a1 : List typing_form) (r : Bool), rec95 a1 = some r -> Csm prog 171 [.rsl 1 (List.map typing_form.enc a1), .fn (.func 172) [] []] [] (fun r => .bool r) r) (n : Nat) (a1 : typing_form) (r : Bool) (h : F_bx rec95 n a1 = some r) :
    Csm prog 172 [typing_form.val a1] [] (fun r => .bool r) r := by
 refine Qb func172 Z Z Z ?_
 exact G0 8 Z (Bd h fun r1 hr1 h => Pc [] Z (OpC.fn call219 Z Z Z) (k_dr rec95 hrec95 _ _ _ hr1) (hargs := by first | exact Z | exact Eq.trans (by exact Z) (Qaa _ (by simp [dataL, dataA, typing_form.data])).symm) Z (Go 5 Z (Rt h 2 [])))
def F_ia (n : Nat) (a1 : List typing_form) (rec95 : (List typing_form) -> Option Bool) (s13 : Int) : Option (Ctl Int (Ctl Unit Int)) :=
  (bif decide (s13 < (a1.length : Int)) then (idx a1 s13).bind fun x17 => (F_bx rec95 n x17).bind fun r18 => (bif r18 then some (.done (.done s13)) else some (.cont (IntKind.i64.wrap (s13 + 1)))) else some (.done (.cont ())))
def F_gg (rec95 : (List typing_form) -> Option Bool) (n : Nat) (a1 : List typing_form) : Option Int :=
  (iter (F_ia n a1 rec95) n 0 : Option (Ctl Unit Int)).bind fun b10 => match b10 with | .cont sb10 => (some (-1)) | .done sb10 => some sb10
theorem k_gg (rec95 : (List typing_form) -> Option Bool) (hrec95 : ∀ (a1 : List typing_form) (r : Bool), rec95 a1 = some r -> Csm prog 171 [.rsl 1 (List.map typing_form.enc a1), .fn (.func 172) [] []] [] (fun r => .bool r) r) (n : Nat) (a1 : List typing_form) (r : Int) (h : F_gg rec95 n a1 = some r) :
    Csm prog 218 [.rsl 1 (List.map typing_form.enc a1), .fn (.func 172) [] []] [] (fun r => I r) r := by
 refine Qb func218 Z Z Z ?_
 refine G0 9 Z (Lm Z (Go 3 Z (Bd h fun b10 h11 h => ?_)))
 refine CtE (b := b10) [] [] (fun _ => []) (fun _ => []) (fun _ => rfl) ?_ (fun sb10 env H hbe hle => ?_)
 ·refine G0 1 Z ?_
  refine Lp [] [0,1,7] (fun s13 => [(8, I s13)]) (fun _ => []) h11 (fun _ => rfl) (Lr []) fun s13 d14 h15 hb12 => ?_
  refine G0 6 Z (Q1 Z h15 (fun hc16 h15 => ?_) (fun hc16 h15 => ?_))
  ·refine Gc 2 Z (Qg h15 ?_)
   obtain rfl := Oj hb12 h15
   exact Gx 1 Z (Qh Z (Lr []))
  refine Gc 15 Z (Bd h15 fun x17 hx17 h15 => Iz hx17 Z (Go 1 Z (Bd h15 fun r18 hr18 h15 => Pc [] Z (QeZ call172 Z Z Z Z) (k_bx rec95 hrec95 _ _ _ hr18) (hargs := by first | exact Z | exact Eq.trans (by exact Z) (Qaa _ (by simp [dataL, dataA, typing_form.data])).symm) Z (Go 2 Z (Cn Z h15 (fun hc19 h15 => ?_) (fun hc19 h15 => ?_))))))
  ·refine Gc 9 Z (Qk h15 ?_)
   obtain rfl := Oj hb12 h15
   exact Gx 1 Z (Qi (Gx 1 Z (Rt h 4 [])))
  exact Gc 7 Z (Qf h15 (Lr []))
 subst hbe
 exact Gx 1 Z (TC.le hle (Gc 6 Z (Rt h 4 [])))
def B_m (rec95 : (List typing_form) -> Option Bool) (n : Nat) (a1 : List typing_form) : Option Bool :=
  (F_gg rec95 n a1).bind fun r1 => some (decide (0 <= r1))
theorem Qaq (rec95 : (List typing_form) -> Option Bool) (hrec95 : ∀ (a1 : List typing_form) (r : Bool), rec95 a1 = some r -> Csm prog 171 [.rsl 1 (List.map typing_form.enc a1), .fn (.func 172) [] []] [] (fun r => .bool r) r) (n : Nat) (a1 : List typing_form) (r : Bool) (h : B_m rec95 n a1 = some r) :
    Csm prog 171 [.rsl 1 (List.map typing_form.enc a1), .fn (.func 172) [] []] [] (fun r => .bool r) r := by
 refine Qb func171 Z Z Z ?_
 exact G0 9 Z (Cz [] h (k_gg rec95 hrec95 _ _) Z fun r1 hr1 h => Go 5 Z (Rt h 4 []))
def F_m : Nat -> (List typing_form) -> Option Bool
  | 0 => fun _ => none
  | n + 1 => B_m (F_m n) n
theorem k_m (n : Nat) : ∀ (a1 : List typing_form) (r : Bool), F_m n a1 = some r -> Csm prog 171 [.rsl 1 (List.map typing_form.enc a1), .fn (.func 172) [] []] [] (fun r => .bool r) r := by
  induction n with
  | zero => intro a1 r h; cases h
  | succ n ih => intro a1 r h; exact Qaq _ ih n a1 r h
def F_eh (n : Nat) (a1 : List typing_form) : Option Int :=
  (F_ep n a1 0 ({ steps := 0, conds := 0 : typing_count })).bind fun r1 => (bif (!r1.2) then some 2 else ((bif ((a1.length : Int) == 0) then some true else (F_m n a1).bind fun r8 => some r8) : Option Bool).bind fun b5 => (bif b5 then some 71 else some 0))
theorem k_eh (n : Nat) (a1 : List typing_form) (r : Int) (h : F_eh n a1 = some r) :
    Csm prog 121 [.rsl 1 (List.map typing_form.enc a1)] [] (fun r => I r) r := by
 refine Qb func121 Z Z Z ?_
 refine G0 17 Z (Cd [0] h (k_ep _ _ _ _) Z fun r1 hr1 h => FE Z (Go 3 Z (Cn Z h (fun hc2 h => ?_) (fun hc2 h => ?_))))
 ·exact Gc 7 Z (Rt h 2 [])
 refine Gc 4 Z (Bd h fun b5 h6 h => ?_)
 refine Ct b5 [] [] (fun b5 => [(16, .bool b5)]) (fun _ => []) (fun _ => rfl) ?_ (fun env H hle => ?_)
 ·refine G0 2 Z (Lm Z (Go 2 Z (Is 13 h6 Z (fun hg7 h6 => ?_) (fun hg7 h6 => ?_))))
  ·exact Go 4 Z (Cl h6 [])
  ·exact Go 1 Z (Cz [] h6 (k_m _ _) Z fun r8 hr8 h6 => Go 2 Z (Cl h6 []))
 refine Gx 1 Z (TC.le hle (Cn Z h (fun hc9 h => ?_) (fun hc9 h => ?_)))
 ·exact Gc 7 Z (Rt h 2 [])
 exact Gc 8 Z (Rt h 2 [])
def F_dh (n : Nat) (a1 : List Step) : Option Int :=
  (F_ac n a1).bind fun r1 => (F_eh n r1).bind fun r2 => some r2
theorem k_dh (n : Nat) (a1 : List Step) (r : Int) (h : F_dh n a1 = some r) :
    Csm prog 56 [.rsl 8 (List.map Step.enc a1)] [] (fun r => I r) r := by
 refine Qb func56 Z Z Z ?_
 exact G0 8 Z (Cd [] h (k_ac _ _) Z fun r1 hr1 h => FE Z (Cb h (k_eh _ _) Z (lo ln) fun r2 hr2 h => Go 4 Z (Rt h 2 [])))
def F_fd (n : Nat) (x56 : Part) (b59 : List Int) (s73 : (List Int) × Int) : Option (Ctl ((List Int) × Int) (Ctl (List Int) (Ctl ((List Int) × Int) (Ctl (List Int) (List Int))))) :=
  (bif decide (s73.2 < (if x56.Laps < 1 then 1 else x56.Laps)) then (bif decide (256 < (s73.1.length : Int)) then some (.done (.done (.done (.done s73.1)))) else (app s73.1 b59).bind fun l78 => some (.cont (l78, IntKind.i64.wrap (s73.2 + 1)))) else some (.done (.cont s73.1)))
def F_fy (n : Nat) (a1 : List Part) (rec114 : (List Part) -> Option (List Int)) (s52 : (List Int) × Int) : Option (Ctl ((List Int) × Int) (Ctl (List Int) (List Int))) :=
  (bif decide (s52.2 < (a1.length : Int)) then (idx a1 s52.2).bind fun x56 => ((bif decide (0 < x56.Laps) then (rec114 x56.Parts).bind fun r62 => some r62 else some [x56.Mat]) : Option (List Int)).bind fun b59 => (iter (F_fd n x56 b59) n (s52.1, 0) : Option (Ctl (List Int) (Ctl ((List Int) × Int) (Ctl (List Int) (List Int))))).bind fun b70 => match b70 with | .cont sb70 => (some (.cont (sb70, IntKind.i64.wrap (s52.2 + 1)))) | .done sb70 => some sb70 else some (.done (.cont s52.1)))
def B_s (rec114 : (List Part) -> Option (List Int)) (n : Nat) (a1 : List Part) : Option (List Int) :=
  (iter (F_fy n a1 rec114) n ([], 0) : Option (Ctl (List Int) (List Int))).bind fun b49 => match b49 with | .cont sb49 => (some sb49) | .done sb49 => some sb49
theorem QbY (rec114 : (List Part) -> Option (List Int)) (hrec114 : ∀ (a1 : List Part) (r : List Int), rec114 a1 = some r -> C prog 125 [.rsl 3 (List.map Part.enc a1)] [] (RQ (fun r => .osl 0 0 r.length 1) (fun r => [.row 3 1 (List.map (encI .i64) r)]) r)) (n : Nat) (a1 : List Part) (r : List Int) (h : B_s rec114 n a1 = some r) :
    C prog 125 [.rsl 3 (List.map Part.enc a1)] [] (RQ (fun r => .osl 0 0 r.length 1) (fun r => [.row 3 1 (List.map (encI .i64) r)]) r) := by
 refine Qb func125 Z Z Z ?_
 refine G0 9 Z (Lm Z (Go 3 Z (Bd h fun b49 h50 h => ?_)))
 refine CtE (b := b49) [0] [] (fun sb49 => [(2, .osl 0 0 sb49.length 1)]) (fun sb49 => [(0, .row 3 1 (List.map (encI .i64) sb49))]) (fun _ => rfl) ?_ (fun sb49 env H hbe hle => ?_)
 ·refine G0 1 Z ?_
  refine Lp [0] [6,7] (fun s52 => [(2, .osl 0 0 s52.1.length 1), (8, I s52.2)]) (fun s52 => [(0, .row 3 1 (List.map (encI .i64) s52.1))]) h50 (fun _ => rfl) ?_ ?_
  ·refine Le.trans (Le.phantom (s := 2) (k := 1) (t := 3) (Nat.le_of_ble_eq_true Z) Z) ?_
   exact Lr [0]
  intro s52 d53 h54 hb51
  refine G0 6 Z (Q1 Z h54 (fun hc55 h54 => ?_) (fun hc55 h54 => ?_))
  ·refine Gc 2 Z (Qg h54 ?_)
   obtain rfl := Oj hb51 h54
   exact Gx 1 Z (Qh Z (Lr [0]))
  refine Gc 6 Z (Bd h54 fun x56 hx56 h54 => IzE hx56 (QB x56) Z (Go 9 Z ?_))
  refine vH (OpH.lit (xs := [.tmp 13]) (es := List.map (encI .i64) [x56.Mat]) QJ Z Z Z Z Z ⟨Z, trivial⟩ Z Z) ?_
  refine FE Z (Go 11 Z (Bd h54 fun b59 h60 h54 => ?_))
  refine Ct b59 [0,1,0] [2,4,6,7,8] (fun b59 => [(5, .osl 2 0 b59.length 1)]) (fun b59 => [(2, .row 3 1 (List.map (encI .i64) b59))]) (fun _ => rfl) ?_ (fun env H hle => ?_)
  ·refine G0 0 Z (Cn Z h60 (fun hc61 h60 => ?_) (fun hc61 h60 => ?_))
   ·exact Gc 3 Z (Cd [] h60 (hrec114 _) Z fun r62 hr62 h60 => FE Z (Go 2 Z (Cl h60 [0,1,3])))
   exact Gc 1 Z (Cl h60 [0,1,2])
  refine Gx 1 Z (TC.le hle (Gc 4 Z ?_))
  refine vX (I (if x56.Laps < 1 then 1 else x56.Laps)) (OpV.max Z Z Z Z) ?_
  refine Go 3 Z (Bd h54 fun b70 h71 h54 => ?_)
  refine CtE (b := b70) [0] [6,7,8] (fun sb70 => [(2, .osl 0 0 sb70.length 1)]) (fun sb70 => [(0, .row 3 1 (List.map (encI .i64) sb70))]) (fun _ => rfl) ?_ (fun sb70 env H hbe hle => ?_)
  ·refine G0 1 Z ?_
   refine Lp [0,2] [5,6,7,8,23] (fun s73 => [(2, .osl 0 0 s73.1.length 1), (24, I s73.2)]) (fun s73 => [(0, .row 3 1 (List.map (encI .i64) s73.1))]) h71 (fun _ => rfl) (Lr [0, 2]) fun s73 d74 h75 hb72 => ?_
   refine G0 6 Z (Q1 Z h75 (fun hc76 h75 => ?_) (fun hc76 h75 => ?_))
   ·refine Gc 2 Z (Qg h75 ?_)
    obtain rfl := Oj hb72 h75
    exact Gx 1 Z (Qh Z (Lr [0]))
   refine Gc 12 Z (Cn Z h75 (fun hc77 h75 => ?_) (fun hc77 h75 => ?_))
   ·refine Gc 10 Z (Qk h75 ?_)
    obtain rfl := Oj hb72 h75
    refine Gx 1 Z (Qi (Gx 2 Z (Qk h54 ?_)))
    obtain rfl := Oj hb51 h54
    exact Gx 1 Z (Qi (Gx 1 Z (Rt h 2 [0])))
   refine Gc 5 Z (Bd h75 fun l78 hl78 h75 => ?_)
   refine vH (QF (e := (encI .i64)) hl78 QJ runUnderlying48 (Yg (i := 1))) ?_
   exact FE Z (Go 8 Z (Qf h75 (Lr [2, 1])))
  subst hbe
  exact Gx 2 Z (TC.le hle (Gc 4 Z (Qf h54 (Lr [0]))))
 subst hbe
 exact Gx 1 Z (TC.le hle (Gc 7 Z (Rt h 2 [0])))
def F_s : Nat -> (List Part) -> Option (List Int)
  | 0 => fun _ => none
  | n + 1 => B_s (F_s n) n
theorem k_s (n : Nat) : ∀ (a1 : List Part) (r : List Int), F_s n a1 = some r -> C prog 125 [.rsl 3 (List.map Part.enc a1)] [] (RQ (fun r => .osl 0 0 r.length 1) (fun r => [.row 3 1 (List.map (encI .i64) r)]) r) := by
  induction n with
  | zero => intro a1 r h; cases h
  | succ n ih => intro a1 r h; exact QbY _ ih n a1 r h
def F_cf (n : Nat) (a1 : Cutoff) (a2 : List (Int × Int)) : Option Bool :=
  (some (mgetD a2 a1.Mat 0)).bind fun v1 => some (decide (a1.Lap <= v1))
theorem k_cf (n : Nat) (a1 : Cutoff) (a2 : List (Int × Int)) (r : Bool) (h : F_cf n a1 a2 = some r) :
    Csm prog 126 [.agg (Cutoff.c a1), .ptr 0 0] [.cells 223 [.map 1], .map (menc (fun x => A.int .i64 x) (fun x => A.int .i64 x) a2)] (fun r => .bool r) r := by
 refine Qb func126 Z Z Z ?_
 refine G0 11 Z (Bd h fun v1 hv1 h => ?_)
 refine vX (I v1) (Q5 (ev := (fun x => A.int .i64 x)) (z0 := 0) (k := a1.Mat) (l := a2) Qbd hv1 underlying223 zeroValue3 ZR.int) ?_
 exact Go 7 Z (Rt h 3 [0,1])
def F_ew (n : Nat) (a1 : Cutoff) (a2 : List (Int × Int)) : Option Bool :=
  (F_cf n a1 a2).bind fun r1 => some (!r1)
theorem k_ew (n : Nat) (a1 : Cutoff) (a2 : List (Int × Int)) (r : Bool) (h : F_ew n a1 a2 = some r) :
    Csm prog 157 [.agg (Cutoff.c a1), .ptr 0 0] [.cells 200 [.fn (.func 126) [] [.ptr 1 0]], .cells 223 [.map 2], .map (menc (fun x => A.int .i64 x) (fun x => A.int .i64 x) a2)] (fun r => .bool r) r := by
 refine Qb func157 Z Z Z ?_
 exact G0 10 Z (Cz [1, 2] h (k_cf _ _ _) Z fun r1 hr1 h => Go 5 Z (Rt h 3 [0,1,2]))
def F_ik (n : Nat) (a1 : List Cutoff) (a2 : List (Int × Int)) (s13 : Int) : Option (Ctl Int (Ctl Unit Int)) :=
  (bif decide (s13 < (a1.length : Int)) then (idx a1 s13).bind fun x17 => (F_ew n x17 a2).bind fun r18 => (bif r18 then some (.done (.done s13)) else some (.cont (IntKind.i64.wrap (s13 + 1)))) else some (.done (.cont ())))
def F_gh (n : Nat) (a1 : List Cutoff) (a2 : List (Int × Int)) : Option Int :=
  (iter (F_ik n a1 a2) n 0 : Option (Ctl Unit Int)).bind fun b10 => match b10 with | .cont sb10 => (some (-1)) | .done sb10 => some sb10
theorem k_gh (n : Nat) (a1 : List Cutoff) (a2 : List (Int × Int)) (r : Int) (h : F_gh n a1 a2 = some r) :
    Csm prog 210 [.rsl 3 (List.map Cutoff.c a1), .fn (.func 157) [] [.ptr 0 0]] [.cells 200 [.fn (.func 126) [] [.ptr 1 0]], .cells 223 [.map 2], .map (menc (fun x => A.int .i64 x) (fun x => A.int .i64 x) a2)] (fun r => I r) r :=
 QQ (el := fun x => .agg (Cutoff.c x)) (g := fun x => F_ew n x a2) func210 Z Z Z runUnderlying92 sizeOf168 (fun _ _ _ _ h1 h2 => Ql h1 isAgg168 sizeOf168 h2 Pts.rp Z Z) call157 (fun _ _ h => k_ew _ _ _ _ h) h
def F_fp (n : Nat) (a1 : List Cutoff) (a2 : List (Int × Int)) : Option Bool :=
  (F_gh n a1 a2).bind fun r1 => some (decide (0 <= r1))
theorem k_fp (n : Nat) (a1 : List Cutoff) (a2 : List (Int × Int)) (r : Bool) (h : F_fp n a1 a2 = some r) :
    Csm prog 156 [.rsl 3 (List.map Cutoff.c a1), .fn (.func 157) [] [.ptr 0 0]] [.cells 200 [.fn (.func 126) [] [.ptr 1 0]], .cells 223 [.map 2], .map (menc (fun x => A.int .i64 x) (fun x => A.int .i64 x) a2)] (fun r => .bool r) r := by
 refine Qb func156 Z Z Z ?_
 exact G0 9 Z (Cz [0, 1, 2] h (k_gh _ _ _) Z fun r1 hr1 h => Go 5 Z (Rt h 4 [0,1,2]))
def F_dq (n : Nat) (a1 : List Cutoff) (a2 : List (Int × Int)) : Option Bool :=
  (F_fp n a1 a2).bind fun r1 => some (!r1)
theorem k_dq (n : Nat) (a1 : List Cutoff) (a2 : List (Int × Int)) (r : Bool) (h : F_dq n a1 a2 = some r) :
    Csm prog 104 [.rsl 3 (List.map Cutoff.c a1), .fn (.func 126) [] [.ptr 0 0]] [.cells 223 [.map 1], .map (menc (fun x => A.int .i64 x) (fun x => A.int .i64 x) a2)] (fun r => .bool r) r := by
 refine Qb func104 Z Z Z ?_
 exact G0 10 Z (Cz [2, 0, 1] h (k_fp _ _ _) Z fun r1 hr1 h => Go 5 Z (Rt h 4 [0,1]))
def F_bl (n : Nat) (a1 : Course) (a3 : List (typing_ends × Bool)) (r1 : List Int) (s41 : (List (Int × Int)) × Int) : Option (Ctl ((List (Int × Int)) × Int) (Ctl (List (Int × Int)) Bool)) :=
  (bif decide (s41.2 < (r1.length : Int)) then (idx r1 s41.2).bind fun x45 => (idx a1.Mats x45).bind fun x46 => ((bif ((x46.Kind == 1) != (s41.2 == 0)) then some true else (bif ((x46.Kind == 3) != (s41.2 == (IntKind.i64.wrap ((r1.length : Int) - 1)))) then some true else (bif decide (0 < s41.2) then (idx r1 (IntKind.i64.wrap (s41.2 - 1))).bind fun x57 => (some (mgetD a3 ({ from_ := x57, to_ := x45 : typing_ends }) false)).bind fun v58 => some (!v58) else some false))) : Option Bool).bind fun b52 => (bif b52 then some (.done (.done false)) else (some (mgetD s41.1 x45 0)).bind fun v60 => (some (mset s41.1 x45 (IntKind.i64.wrap (v60 + 1)))).bind fun m61 => some (.cont (m61, IntKind.i64.wrap (s41.2 + 1)))) else some (.done (.cont s41.1)))
def F_bm (n : Nat) (a1 : Course) (a2 : Distance) (a3 : List (typing_ends × Bool)) : Option Bool :=
  (F_s n a2.Route).bind fun r1 => ((bif decide ((IntKind.i64.wrap ((r1.length : Int) - 1)) < 1) then some true else some (decide (256 <= (IntKind.i64.wrap ((r1.length : Int) - 1))))) : Option Bool).bind fun b3 => (bif b3 then some false else (iter (F_bl n a1 a3 r1) n ([], 0) : Option (Ctl (List (Int × Int)) Bool)).bind fun b38 => match b38 with | .cont sb38 => (((bif decide (0 <= a2.Extra) then (some (mgetD sb38 a2.Extra 0)).bind fun v71 => (bif (v71 == 0) then some true else (idx a1.Mats a2.Extra).bind fun x73 => (bif (x73.Kind != 2) then some true else (some (mgetD a3 ({ from_ := a2.Extra, to_ := a2.Extra : typing_ends }) false)).bind fun v75 => some (!v75))) else some false) : Option Bool).bind fun b68 => (bif b68 then some false else (F_dq n a2.Cutoffs sb38).bind fun r77 => some r77)) | .done sb38 => some sb38)
theorem k_bm (n : Nat) (a1 : Course) (a2 : Distance) (a3 : List (typing_ends × Bool)) (r : Bool) (h : F_bm n a1 a2 a3 = some r) :
    Csm prog 59 [.agg (Course.c a1), .agg (Distance.c a2), .map 0] [.map (menc (fun x => A.agg (typing_ends.c x)) A.bool a3)] (fun r => .bool r) r := by
 refine Qb func59 Z Z Z ?_
 refine G0 11 Z (Cd [] h (k_s _ _) Z fun r1 hr1 h => FE Z (Go 13 Z (Bd h fun b3 h4 h => ?_)))
 refine Ct b3 [0,1,2,3] [2,3,4,7,8] (fun b3 => [(25, .bool b3)]) (fun _ => []) (fun _ => rfl) ?_ (fun env H hle => ?_)
 ·refine G0 4 Z (Is 22 h4 Z (fun hg5 h4 => ?_) (fun hg5 h4 => ?_))
  ·exact Go 4 Z (Cl h4 [0,1,2,3])
  ·exact Go 4 Z (Cl h4 [0,1,2,3])
 refine Gx 1 Z (TC.le hle (Cn Z h (fun hc6 h => ?_) (fun hc6 h => ?_)))
 ·exact Gc 7 Z (Rt h 6 [0])
 refine Gc 4 Z ?_
 refine vH QV ?_
 refine FE Z (Go 12 Z (Bd h fun b38 h39 h => ?_))
 refine CtE (b := b38) [0,1,2,4,5] [2,3,4] (fun _ => [(9, .ptr 3 0)]) (fun sb38 => [(3, .cells 223 [.map 4]), (4, .map (menc (fun x => A.int .i64 x) (fun x => A.int .i64 x) sb38))]) (fun _ => rfl) ?_ (fun sb38 env H hbe hle => ?_)
 ·refine G0 1 Z ?_
  refine Lp [0,1,2,3,5,4] [2,3,4,7,8,9,27,28] (fun s41 => [(29, I s41.2)]) (fun s41 => [(4, .cells 223 [.map 5]), (5, .map (menc (fun x => A.int .i64 x) (fun x => A.int .i64 x) s41.1))]) h39 (fun _ => rfl) (Lr [0, 1, 2, 3, 5, 4]) fun s41 d42 h43 hb40 => ?_
  refine G0 6 Z (Q1 Z h43 (fun hc44 h43 => ?_) (fun hc44 h43 => ?_))
  ·refine Gc 2 Z (Qg h43 ?_)
   obtain rfl := Oj hb40 h43
   exact Gx 1 Z (Qh Z (Lr [0, 1, 2, 4, 5]))
  refine Gc 7 Z (Bd h43 fun x45 hx45 h43 => ?_)
  refine vX (.ptr 3 (Int.toNat s41.2 * 1)) (QS hx45 Z runUnderlying48 sizeOf3) ?_
  refine vX (I x45) (OpV.load Z isAgg3 Z (Qu hx45)) ?_
  refine Go 9 Z (Bd h43 fun x46 hx46 h43 => Iz hx46 Z (Go 7 Z (Bd h43 fun b52 h53 h43 => ?_)))
  refine Ct b52 [0,1,2,3,4,5] [2,3,4,7,8,9,11,27,28,29] (fun b52 => [(68, .bool b52)]) (fun _ => []) (fun _ => rfl) ?_ (fun env H hle => ?_)
  ·refine G0 5 Z ?_
   refine vX (.bool ((x46.Kind == 1) != (s41.2 == 0))) (QdR runUnderlying4) ?_
   refine Go 1 Z (Is 45 h53 Z (fun hg54 h53 => ?_) (fun hg54 h53 => ?_))
   ·exact Go 24 Z (Cl h53 [0,1,2,3,4,5])
   ·refine Go 5 Z ?_
    refine vV (x := (.bool ((x46.Kind == 3) != (s41.2 == (IntKind.i64.wrap ((r1.length : Int) - 1)))))) (QdR runUnderlying4) ?_ (gT Z)
    refine Go 2 Z (Is 53 h53 Z (fun hg55 h53 => ?_) (fun hg55 h53 => ?_))
    ·exact Go 16 Z (Cl h53 [0,1,2,3,4,5])
    ·refine Go 3 Z (Is 56 h53 Z (fun hg56 h53 => ?_) (fun hg56 h53 => ?_))
     ·refine Go 4 Z (Bd h53 fun x57 hx57 h53 => ?_)
      refine vX (.ptr 3 (Int.toNat (IntKind.i64.wrap (s41.2 - 1)) * 1)) (QS hx57 Z runUnderlying48 sizeOf3) ?_ (gT Z)
      refine vX (I x57) (OpV.load Z isAgg3 Z (Qu hx57)) ?_ (gT Z)
      refine Go 2 Z (Bd h53 fun v58 hv58 h53 => ?_)
      refine vX (.bool v58) (Q5 (ev := A.bool) (z0 := false) (k := ({ from_ := x57, to_ := x45 : typing_ends })) (l := a3) QcZ hv58 underlying134 zeroValue4 ZR.bool) ?_ (gT Z)
      exact Go 4 Z (Cl h53 [0,1,2,3,4,5])
     ·exact Go 13 Z (Cl h53 [0,1,2,3,4,5])
  refine Gx 1 Z (TC.le hle (Cn Z h43 (fun hc59 h43 => ?_) (fun hc59 h43 => ?_)))
  ·refine Gc 9 Z (Qk h43 ?_)
   obtain rfl := Oj hb40 h43
   exact Gx 1 Z (Qi (Gx 1 Z (Rt h 6 [0])))
  refine Gc 5 Z (Bd h43 fun v60 hv60 h43 => ?_)
  refine vX (I v60) (Q5 (ev := (fun x => A.int .i64 x)) (z0 := 0) (k := x45) (l := s41.1) Qbd hv60 underlying223 zeroValue3 ZR.int) ?_
  refine Go 1 Z (Bd h43 fun m61 hm61 h43 => ?_)
  refine vU (Q6 (ev := (fun x => A.int .i64 x)) (k := x45) (v := (IntKind.i64.wrap (v60 + 1))) (l := s41.1) Qbd hm61 Z underlying223) ?_
  exact FE Z (Go 7 Z (Qf h43 (Lr [0, 1, 2, 3, 4, 5])))
 subst hbe
 refine Gx 1 Z (TC.le hle (Gc 9 Z (Bd h fun b68 h69 h => ?_)))
 refine Ct b68 [0,2,3,4] [4,9] (fun b68 => [(100, .bool b68)]) (fun _ => [(2, .cells 223 [.map 3])]) (fun _ => rfl) ?_ (fun env H hle => ?_)
 ·refine G0 4 Z (Is 78 h69 Z (fun hg70 h69 => ?_) (fun hg70 h69 => ?_))
  ·refine Go 2 Z (Bd h69 fun v71 hv71 h69 => ?_)
   refine vX (I v71) (Q5 (ev := (fun x => A.int .i64 x)) (z0 := 0) (k := a2.Extra) (l := sb38) Qbd hv71 underlying223 zeroValue3 ZR.int) ?_ (gT Z)
   refine Go 2 Z (Is 83 h69 Z (fun hg72 h69 => ?_) (fun hg72 h69 => ?_))
   ·exact Go 18 Z (Cl h69 [0,2,3,4])
   ·refine Go 3 Z (Bd h69 fun x73 hx73 h69 => Iz hx73 Z (Go 5 Z (Is 92 h69 Z (fun hg74 h69 => ?_) (fun hg74 h69 => ?_))))
    ·exact Go 9 Z (Cl h69 [0,2,3,4])
    ·refine Go 4 Z (Bd h69 fun v75 hv75 h69 => ?_)
     refine vX (.bool v75) (Q5 (ev := A.bool) (z0 := false) (k := ({ from_ := a2.Extra, to_ := a2.Extra : typing_ends })) (l := a3) QcZ hv75 underlying134 zeroValue4 ZR.bool) ?_ (gT Z)
     exact Go 4 Z (Cl h69 [0,2,3,4])
  ·exact Go 23 Z (Cl h69 [0,2,3,4])
 refine Gx 1 Z (TC.le hle (Cn Z h (fun hc76 h => ?_) (fun hc76 h => ?_)))
 ·exact Gc 7 Z (Rt h 6 [0])
 exact Gc 7 Z (Cz [2, 3] h (k_dq _ _ _) Z fun r77 hr77 h => Go 4 Z (Rt h 6 [0]))
def F_bo (n : Nat) (a1 : Distance) (a2 : Course) (a3 : List (typing_ends × Bool)) : Option Bool :=
  (F_bm n a2 a1 a3).bind fun r1 => some r1
theorem k_bo (n : Nat) (a1 : Distance) (a2 : Course) (a3 : List (typing_ends × Bool)) (r : Bool) (h : F_bo n a1 a2 a3 = some r) :
    Csm prog 58 [.agg (Distance.c a1), .ptr 0 0, .ptr 1 0] [.cells 33 (Course.c a2), .cells 134 [.map 2], .map (menc (fun x => A.agg (typing_ends.c x)) A.bool a3)] (fun r => .bool r) r := by
 refine Qb func58 Z Z Z ?_
 exact G0 11 Z (Cz [2] h (k_bm _ _ _ _) Z fun r1 hr1 h => Go 4 Z (Rt h 4 [0,1,2]))
def F_fj (n : Nat) (a1 : Distance) (a2 : Course) (a3 : List (typing_ends × Bool)) : Option Bool :=
  (F_bo n a1 a2 a3).bind fun r1 => some (!r1)
theorem k_fj (n : Nat) (a1 : Distance) (a2 : Course) (a3 : List (typing_ends × Bool)) (r : Bool) (h : F_fj n a1 a2 a3 = some r) :
    Csm prog 124 [.agg (Distance.c a1), .ptr 0 0] [.cells 139 [.fn (.func 58) [] [.ptr 1 0, .ptr 2 0]], .cells 33 (Course.c a2), .cells 134 [.map 3], .map (menc (fun x => A.agg (typing_ends.c x)) A.bool a3)] (fun r => .bool r) r := by
 refine Qb func124 Z Z Z ?_
 exact G0 10 Z (Cz [1, 2, 3] h (k_bo _ _ _ _) Z fun r1 hr1 h => Go 5 Z (Rt h 3 [0,1,2,3]))
def F_iz (n : Nat) (a1 : List Distance) (a2 : Course) (a3 : List (typing_ends × Bool)) (s13 : Int) : Option (Ctl Int (Ctl Unit Int)) :=
  (bif decide (s13 < (a1.length : Int)) then (idx a1 s13).bind fun x17 => (F_fj n x17 a2 a3).bind fun r18 => (bif r18 then some (.done (.done s13)) else some (.cont (IntKind.i64.wrap (s13 + 1)))) else some (.done (.cont ())))
def F_en (n : Nat) (a1 : List Distance) (a2 : Course) (a3 : List (typing_ends × Bool)) : Option Int :=
  (iter (F_iz n a1 a2 a3) n 0 : Option (Ctl Unit Int)).bind fun b10 => match b10 with | .cont sb10 => (some (-1)) | .done sb10 => some sb10
theorem k_en (n : Nat) (a1 : List Distance) (a2 : Course) (a3 : List (typing_ends × Bool)) (r : Int) (h : F_en n a1 a2 a3 = some r) :
    Csm prog 173 [.rsl 5 (List.map Distance.c a1), .fn (.func 124) [] [.ptr 0 0]] [.cells 139 [.fn (.func 58) [] [.ptr 1 0, .ptr 2 0]], .cells 33 (Course.c a2), .cells 134 [.map 3], .map (menc (fun x => A.agg (typing_ends.c x)) A.bool a3)] (fun r => I r) r :=
 QQ (el := fun x => .agg (Distance.c x)) (g := fun x => F_fj n x a2 a3) func173 Z Z Z runUnderlying24 sizeOf94 (fun _ _ _ _ h1 h2 => Ql h1 isAgg94 sizeOf94 h2 Pts.rp Z Z) call124 (fun _ _ h => k_fj _ _ _ _ _ h) h
def F_fv (n : Nat) (a1 : List Distance) (a2 : Course) (a3 : List (typing_ends × Bool)) : Option Bool :=
  (F_en n a1 a2 a3).bind fun r1 => some (decide (0 <= r1))
theorem k_fv (n : Nat) (a1 : List Distance) (a2 : Course) (a3 : List (typing_ends × Bool)) (r : Bool) (h : F_fv n a1 a2 a3 = some r) :
    Csm prog 123 [.rsl 5 (List.map Distance.c a1), .fn (.func 124) [] [.ptr 0 0]] [.cells 139 [.fn (.func 58) [] [.ptr 1 0, .ptr 2 0]], .cells 33 (Course.c a2), .cells 134 [.map 3], .map (menc (fun x => A.agg (typing_ends.c x)) A.bool a3)] (fun r => .bool r) r := by
 refine Qb func123 Z Z Z ?_
 exact G0 9 Z (Cz [0, 1, 2, 3] h (k_en _ _ _ _) Z fun r1 hr1 h => Go 5 Z (Rt h 4 [0,1,2,3]))
def F_bz (n : Nat) (a1 : List Distance) (a2 : Course) (a3 : List (typing_ends × Bool)) : Option Bool :=
  (F_fv n a1 a2 a3).bind fun r1 => some (!r1)
theorem k_bz (n : Nat) (a1 : List Distance) (a2 : Course) (a3 : List (typing_ends × Bool)) (r : Bool) (h : F_bz n a1 a2 a3 = some r) :
    Csm prog 57 [.rsl 5 (List.map Distance.c a1), .fn (.func 58) [] [.ptr 0 0, .ptr 1 0]] [.cells 33 (Course.c a2), .cells 134 [.map 2], .map (menc (fun x => A.agg (typing_ends.c x)) A.bool a3)] (fun r => .bool r) r := by
 refine Qb func57 Z Z Z ?_
 exact G0 10 Z (Cz [3, 0, 1, 2] h (k_fv _ _ _ _) Z fun r1 hr1 h => Go 5 Z (Rt h 4 [0,1,2]))
def F_gz (n : Nat) (a1 : Course) (s19 : (List (typing_ends × Bool)) × Int) : Option (Ctl ((List (typing_ends × Bool)) × Int) (List (typing_ends × Bool))) :=
  (bif decide (s19.2 < (a1.Legs.length : Int)) then (idx a1.Legs s19.2).bind fun x23 => (some (mset s19.1 ({ from_ := x23.From, to_ := x23.To : typing_ends }) true)).bind fun m24 => some (.cont (m24, IntKind.i64.wrap (s19.2 + 1))) else some (.done s19.1))
def F_al (n : Nat) (a1 : Course) : Option Int :=
  (F_aw n a1).bind fun r1 => (bif (!r1) then some 2 else (F_bv n a1).bind fun r3 => (bif (!r3) then some 70 else (F_ch n a1).bind fun r5 => (bif (!r5) then some 71 else (F_dh n a1.Ties).bind fun r7 => (bif (r7 != 0) then some r7 else (iter (F_gz n a1) n ([], 0) : Option (List (typing_ends × Bool))).bind fun b16 => (F_bz n a1.Distances a1 b16).bind fun r25 => (bif (!r25) then some 72 else some 0)))))
theorem k_al (n : Nat) (a1 : Course) (r : Int) (h : F_al n a1 = some r) :
    Csm prog 33 [.agg (Course.c a1)] [] (fun r => I r) r := by
 refine Qb func33 Z Z Z ?_
 refine G0 11 Z (Cz [] h (k_aw _ _) Z fun r1 hr1 h => Go 4 Z (Cn Z h (fun hc2 h => ?_) (fun hc2 h => ?_)))
 ·exact Gc 8 Z (Rt h 2 [])
 refine Gc 3 Z (Cz [] h (k_bv _ _) Z fun r3 hr3 h => Go 4 Z (Cn Z h (fun hc4 h => ?_) (fun hc4 h => ?_)))
 ·exact Gc 8 Z (Rt h 2 [])
 refine Gc 3 Z (Cz [] h (k_ch _ _) Z fun r5 hr5 h => Go 4 Z (Cn Z h (fun hc6 h => ?_) (fun hc6 h => ?_)))
 ·exact Gc 8 Z (Rt h 2 [])
 refine Gc 8 Z (Cz [] h (k_dh _ _) Z fun r7 hr7 h => Go 9 Z (Cn Z h (fun hc8 h => ?_) (fun hc8 h => ?_)))
 ·exact Gc 8 Z (Rt h 2 [])
 refine Gc 4 Z ?_
 refine vH QV ?_
 refine FE Z (Go 9 Z (Lm Z (Go 3 Z (Bd h fun b16 h17 h => ?_))))
 refine Ct b16 [0,1,2] [1] (fun _ => [(3, .ptr 1 0)]) (fun b16 => [(1, .cells 134 [.map 2]), (2, .map (menc (fun x => A.agg (typing_ends.c x)) A.bool b16))]) (fun _ => rfl) ?_ (fun env H hle => ?_)
 ·refine G0 1 Z ?_
  refine Lp [0,2,1] [1,3,26,27] (fun s19 => [(28, I s19.2)]) (fun s19 => [(1, .cells 134 [.map 2]), (2, .map (menc (fun x => A.agg (typing_ends.c x)) A.bool s19.1))]) h17 (fun _ => rfl) (Lr [0, 2, 1]) fun s19 d20 h21 hb18 => ?_
  refine G0 6 Z (Q1 Z h21 (fun hc22 h21 => ?_) (fun hc22 h21 => ?_))
  ·refine Gc 2 Z (Qg h21 ?_)
   obtain rfl := Oj hb18 h21
   exact Gx 1 Z (Qt (Lr [0, 1, 2]))
  refine Gc 6 Z (Bd h21 fun x23 hx23 h21 => Iz hx23 Z (Go 12 Z (Bd h21 fun m24 hm24 h21 => ?_)))
  refine vU (Q6 (ev := A.bool) (k := ({ from_ := x23.From, to_ := x23.To : typing_ends })) (v := true) (l := s19.1) QcZ hm24 Z underlying134) ?_
  exact FE Z (Go 7 Z (Qf h21 (Lr [0, 1, 2])))
 refine Gx 1 Z (TC.le hle (Gc 6 Z (Cz [0, 1, 2] h (k_bz _ _ _ _) Z fun r25 hr25 h => Go 3 Z (Cn Z h (fun hc26 h => ?_) (fun hc26 h => ?_)))))
 ·exact Gc 7 Z (Rt h 2 [])
 exact Gc 8 Z (Rt h 2 [])
end Go.Sw
