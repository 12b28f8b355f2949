/- What the functions compute that ChipsOrder reaches, and that their calls refine it (part 1 of 3). -/
import Derived.Test.YtkjlhfabbbomjaaGreatDoorW18OrB
set_option linter.unusedVariables false
set_option linter.unusedSimpArgs false
set_option maxRecDepth 100000
set_option maxHeartbeats 4000000
namespace Go.Sw
open Go.Proofs Tryz
def F_ah (n : Nat) (a1 : Int) (a2 : Int) (a3 : Int) : Option Unit :=
  some ()
theorem k_ah (n : Nat) (a1 : Int) (a2 : Int) (a3 : Int) (r : Unit) (h : F_ah n a1 a2 a3 = some r) :
    C prog 29 [I a1, I a2, I a3] [] (fun a H => a = .agg (Fact.c ({ z_Fact with No := 1, At := a1, Kind := 1, Starter := { z_Starter with Bib := a2, Chip := a3 : Starter } : Fact })) ∧ H = [.cells 81 (Fact.c ({ z_Fact with No := 1, At := a1, Kind := 1, Starter := { z_Starter with Bib := a2, Chip := a3 : Starter } : Fact }))]) := by
 refine Qd func29 Z Z Z ?_
 refine Rg (U 1 Z (Nx (Rg (U 6 Z (Nx (TC.ret ?_))))))
 obtain rfl := Oi h
 refine ⟨[(6, .ptr 0 0)], [.cells 81 (Fact.c ({ z_Fact with No := 1, At := a1, Kind := 1, Starter := { z_Starter with Bib := a2, Chip := a3 : Starter } : Fact }))], _, ?_, YK Z (Qn isAgg81 sizeOf81 Z Z Z), Z, Z⟩
 exact Lr [0]
def F_by (n : Nat) : Option Unit :=
  some ()
theorem k_by (n : Nat) (r : Unit) (h : F_by n = some r) :
    C prog 30 [] [] (fun a H => a = .agg [.str [115, 97, 109, 112, 108, 101], .osl 0 0 ([{ Name := [108, 105, 110, 101], Kind := 1 : Mat }, { Name := [102, 105, 110, 105, 115, 104], Kind := 3 : Mat }].length) 2, .osl 1 0 ([{ From := 0, To := 1, Min := 10, Max := 100 : Leg }].length) 4, .osl 2 0 ([{ Name := [98, 114, 105, 101, 102], Route := [z_Part, { z_Part with Mat := 1 : Part }], Timing := 1, Cutoffs := [], Extra := (-1) : Distance }].length) 5, .osl 3 0 ([{ Name := [101, 108, 105, 116, 101], Gun := 0 : Wave }].length) 2, .rsl 4 (List.map Offence.c []), .rsl 3 (List.map Category.c []), .rsl 4 (List.map Prize.c []), .osl 4 0 ([{ z_Step with Kind := 1, By := 4 : Step }].length) 8, I 0, I 0, I 0, I 0, I 0, I 0, I 0] ∧ H = [.row 96 2 (List.map Mat.c [{ Name := [108, 105, 110, 101], Kind := 1 : Mat }, { Name := [102, 105, 110, 105, 115, 104], Kind := 3 : Mat }]), .row 123 4 (List.map Leg.c [{ From := 0, To := 1, Min := 10, Max := 100 : Leg }]), .row 94 5 (List.map Distance.c [{ Name := [98, 114, 105, 101, 102], Route := [z_Part, { z_Part with Mat := 1 : Part }], Timing := 1, Cutoffs := [], Extra := (-1) : Distance }]), .row 127 2 (List.map Wave.c [{ Name := [101, 108, 105, 116, 101], Gun := 0 : Wave }]), .row 132 8 (List.map Step.enc [{ z_Step with Kind := 1, By := 4 : Step }]), .cells 33 [.str [115, 97, 109, 112, 108, 101], .osl 0 0 ([{ Name := [108, 105, 110, 101], Kind := 1 : Mat }, { Name := [102, 105, 110, 105, 115, 104], Kind := 3 : Mat }].length) 2, .osl 1 0 ([{ From := 0, To := 1, Min := 10, Max := 100 : Leg }].length) 4, .osl 2 0 ([{ Name := [98, 114, 105, 101, 102], Route := [z_Part, { z_Part with Mat := 1 : Part }], Timing := 1, Cutoffs := [], Extra := (-1) : Distance }].length) 5, .osl 3 0 ([{ Name := [101, 108, 105, 116, 101], Gun := 0 : Wave }].length) 2, .rsl 4 (List.map Offence.c []), .rsl 3 (List.map Category.c []), .rsl 4 (List.map Prize.c []), .osl 4 0 ([{ z_Step with Kind := 1, By := 4 : Step }].length) 8, I 0, I 0, I 0, I 0, I 0, I 0, I 0]]) := by
 refine Qd func30 Z Z Z ?_
 refine Rg (U 1 Z (Nx (Rg ?_)))
 refine vX (.agg [.str [108, 105, 110, 101], I 1]) (OpV.build (zs := [.str [], I 0]) zeroValue96 (zrC Z) Qk0) ?_
 refine vX (.agg [.str [102, 105, 110, 105, 115, 104], I 3]) (OpV.build (zs := [.str [], I 0]) zeroValue96 (zrC Z) Qk0) ?_
 refine vH (OpH.lit (xs := [.tmp 1, .tmp 2]) (es := List.map Mat.c [{ Name := [108, 105, 110, 101], Kind := 1 : Mat }, { Name := [102, 105, 110, 105, 115, 104], Kind := 3 : Mat }]) el_22 Z Z Z Z Z ⟨Z, Z, trivial⟩ Z Z) ?_
 refine FE Z (U 1 Z ?_)
 refine vH (OpH.lit (xs := [.tmp 4]) (es := List.map Leg.c [{ From := 0, To := 1, Min := 10, Max := 100 : Leg }]) el_23 Z Z Z Z Z ⟨Z, trivial⟩ Z Z) ?_
 refine FE Z (U 2 Z ?_)
 refine vH (OpH.lit (xs := [.tmp 6, .tmp 7]) (es := List.map Part.enc [z_Part, { z_Part with Mat := 1 : Part }]) el_91 Z Z Z Z Z ⟨Z, Z, trivial⟩ Z Z) ?_
 refine FE Z ?_
 refine vX (.agg [.str [98, 114, 105, 101, 102], .osl 3 0 ([z_Part, { z_Part with Mat := 1 : Part }].length) 3, I 1, .rsl 3 (List.map Cutoff.c []), I (-1)]) (OpV.build (zs := [.str [], .rsl 3 (List.map Part.enc []), I 0, .rsl 3 (List.map Cutoff.c []), I 0]) zeroValue94 (zrC Z) pl_94) ?_
 refine WO.le (QaG [(8, _), (9, _)] Z Z (FzOv.cons Z FzA.o (FzOv.cons Z (FzA.agg (FzL.cons (FzA.refl _) (FzL.cons FzA.o (FzL.refl _)))) FzOv.nil)) (FzH.keep (FzH.keep (FzH.keep (FzH.keep (YB _)))))) ?_
 refine vH (OpH.lit (xs := [.tmp 9]) (es := List.map Distance.c [{ Name := [98, 114, 105, 101, 102], Route := [z_Part, { z_Part with Mat := 1 : Part }], Timing := 1, Cutoffs := [], Extra := (-1) : Distance }]) el_24 Z Z Z Z Z ⟨Z, trivial⟩ Z Z) ?_
 refine FE Z ?_
 refine vX (.agg [.str [101, 108, 105, 116, 101], I 0]) (OpV.build (zs := [.str [], I 0]) zeroValue127 (zrC Z) QlB) ?_
 refine vH (OpH.lit (xs := [.tmp 11]) (es := List.map Wave.c [{ Name := [101, 108, 105, 116, 101], Gun := 0 : Wave }]) el_25 Z Z Z Z Z ⟨Z, trivial⟩ Z Z) ?_
 refine FE Z (U 1 Z ?_)
 refine vH (OpH.lit (xs := [.tmp 13]) (es := List.map Step.enc [{ z_Step with Kind := 1, By := 4 : Step }]) el_29 Z Z Z Z Z ⟨Z, trivial⟩ Z Z) ?_
 refine FE Z ?_
 refine vX (.agg [.str [115, 97, 109, 112, 108, 101], .osl 1 0 ([{ Name := [108, 105, 110, 101], Kind := 1 : Mat }, { Name := [102, 105, 110, 105, 115, 104], Kind := 3 : Mat }].length) 2, .osl 2 0 ([{ From := 0, To := 1, Min := 10, Max := 100 : Leg }].length) 4, .osl 4 0 ([{ Name := [98, 114, 105, 101, 102], Route := [z_Part, { z_Part with Mat := 1 : Part }], Timing := 1, Cutoffs := [], Extra := (-1) : Distance }].length) 5, .osl 5 0 ([{ Name := [101, 108, 105, 116, 101], Gun := 0 : Wave }].length) 2, .rsl 4 (List.map Offence.c []), .rsl 3 (List.map Category.c []), .rsl 4 (List.map Prize.c []), .osl 6 0 ([{ z_Step with Kind := 1, By := 4 : Step }].length) 8, I 0, I 0, I 0, I 0, I 0, I 0, I 0]) (OpV.build (zs := [.str [], .rsl 2 (List.map Mat.c []), .rsl 4 (List.map Leg.c []), .rsl 5 (List.map Distance.c []), .rsl 2 (List.map Wave.c []), .rsl 4 (List.map Offence.c []), .rsl 3 (List.map Category.c []), .rsl 4 (List.map Prize.c []), .rsl 8 (List.map Step.enc []), I 0, I 0, I 0, I 0, I 0, I 0, I 0]) zeroValue33 (zrC Z) pl_33) ?_
 refine U 1 Z (Nx (TC.ret ?_))
 obtain rfl := Oi h
 refine ⟨[(0, .ptr 5 0)], [.row 96 2 (List.map Mat.c [{ Name := [108, 105, 110, 101], Kind := 1 : Mat }, { Name := [102, 105, 110, 105, 115, 104], Kind := 3 : Mat }]), .row 123 4 (List.map Leg.c [{ From := 0, To := 1, Min := 10, Max := 100 : Leg }]), .row 94 5 (List.map Distance.c [{ Name := [98, 114, 105, 101, 102], Route := [z_Part, { z_Part with Mat := 1 : Part }], Timing := 1, Cutoffs := [], Extra := (-1) : Distance }]), .row 127 2 (List.map Wave.c [{ Name := [101, 108, 105, 116, 101], Gun := 0 : Wave }]), .row 132 8 (List.map Step.enc [{ z_Step with Kind := 1, By := 4 : Step }]), .cells 33 [.str [115, 97, 109, 112, 108, 101], .osl 0 0 ([{ Name := [108, 105, 110, 101], Kind := 1 : Mat }, { Name := [102, 105, 110, 105, 115, 104], Kind := 3 : Mat }].length) 2, .osl 1 0 ([{ From := 0, To := 1, Min := 10, Max := 100 : Leg }].length) 4, .osl 2 0 ([{ Name := [98, 114, 105, 101, 102], Route := [z_Part, { z_Part with Mat := 1 : Part }], Timing := 1, Cutoffs := [], Extra := (-1) : Distance }].length) 5, .osl 3 0 ([{ Name := [101, 108, 105, 116, 101], Gun := 0 : Wave }].length) 2, .rsl 4 (List.map Offence.c []), .rsl 3 (List.map Category.c []), .rsl 4 (List.map Prize.c []), .osl 4 0 ([{ z_Step with Kind := 1, By := 4 : Step }].length) 8, I 0, I 0, I 0, I 0, I 0, I 0, I 0]], _, ?_, YK Z (Qn isAgg33 sizeOf33 Z Z Z), Z, Z⟩
 exact Lr [1, 2, 4, 5, 6, 0]
def F_y (n : Nat) (a1 : List Part) (a2 : Int) (rec8 : (List Part) → Int → Option (Int × Int)) (s47 : Int × Int × Int) : Option (Ctl (Int × Int × Int) (Int × Int)) :=
  (bif decide (s47.2.2 < (a1.length : Int)) then ((idx a1 s47.2.2).bind fun x62 => ((bif ((x62.Parts.length : Int) == 0) then some true else (bif (a2 == 0) then some true else some (decide (256 < s47.2.1)))) : Option Bool).bind fun b65 => (bif b65 then some (s47.1, s47.2.1) else (rec8 x62.Parts (IntKind.i64.wrap (a2 - 1))).bind fun r70 => some ((if s47.1 < IntKind.i64.wrap (r70.1 + 1) then IntKind.i64.wrap (r70.1 + 1) else s47.1), IntKind.i64.wrap (s47.2.1 + r70.2))) : Option (Int × Int)).bind fun b60 => some (.cont (b60.1, b60.2, IntKind.i64.wrap (s47.2.2 + 1))) else some (.done (s47.1, s47.2.1)))
def B_c (rec8 : (List Part) → Int → Option (Int × Int)) (n : Nat) (a1 : List Part) (a2 : Int) : Option (Int × Int) :=
  (iter (F_y n a1 a2 rec8) n (0, (a1.length : Int), 0) : Option (Int × Int)).bind fun b44 => some (b44.1, b44.2)
theorem Qch (rec8 : (List Part) → Int → Option (Int × Int)) (hrec8 : ∀ (a1 : List Part) (a2 : Int) (r : Int × Int), rec8 a1 a2 = some r → C prog 87 [.rsl 3 (List.map Part.enc a1), I a2] [] (fun a H => a = .tup [I r.1, I r.2] ∧ H = [])) (n : Nat) (a1 : List Part) (a2 : Int) (r : Int × Int) (h : B_c rec8 n a1 a2 = some r) :
    C prog 87 [.rsl 3 (List.map Part.enc a1), I a2] [] (fun a H => a = .tup [I r.1, I r.2] ∧ H = []) := by
 refine Qd func87 Z Z Z ?_
 refine Rg (U 2 Z (Nx (Rg (U 1 Z (LnM runUnderlying91 Z (U 1 Z (Nx (TC.seq (Rg (U 1 Z (LnM runUnderlying91 Z (U 1 Z (Nx (Bd h fun b44 h45 h => ?_))))))))))))))
 refine TC.cut ([(4, I b44.1), (5, I b44.2)]) ([]) ?_ (fun env H hle => ?_)
 ·refine TC.block ?_
  refine TC.loop (E := fun s47 => [(1, I a2), (4, I s47.1), (5, I s47.2.1), (12, .rsl 3 (List.map Part.enc a1)), (13, I (a1.length : Int)), (14, I s47.2.2)]) (Hp := fun s47 => []) h45 ?_ ?_
  ·exact Lr []
  intro s47 d48 h49 hb46
  refine Rg (U 1 Z (Nx (TC.seq (CnS Z h49 (fun hc50 h49 => ?_) (fun hc50 h49 => ?_)))))
  ·refine ExX (Qz h49 ?_)
   obtain rfl := hb46 _ (Oi h49).symm
   exact QQ (cutN (Lr []))
  refine QU (TC.seq (Bd h49 fun b60 h61 h49 => ?_))
  refine TC.cut ([(1, I a2), (4, I b60.1), (5, I b60.2), (12, .rsl 3 (List.map Part.enc a1)), (13, I (a1.length : Int)), (14, I s47.2.2)]) ([]) ?_ (fun env H hle => ?_)
  ·refine TC.block (Rg (Bd h61 fun x62 hx62 h61 => ?_))
   refine vX (.rp [I x62.Mat, I x62.Laps, .rsl 3 (List.map Part.enc x62.Parts)]) (Q7 (e := Part.enc) hx62 (YE x62) runUnderlying91 sizeOf125) ?_
   refine U 3 Z (Nx (TC.seq (TC.seq (Bd h61 fun b65 h66 h61 => ?_))))
   refine TC.cut ([(1, I a2), (4, I s47.1), (5, I s47.2.1), (7, .ptr 0 0), (12, .rsl 3 (List.map Part.enc a1)), (13, I (a1.length : Int)), (14, I s47.2.2), (29, .bool b65)]) ([.cells 125 (Part.c x62)]) ?_ (fun env H hle => ?_)
   ·refine TC.region (U 2 Z (LnM runUnderlying91 Z (U 2 Z (If h66 (fun hg67 h66 => ?_) (fun hg67 h66 => ?_)))))
    ·refine KF hg67 Z (KF hg67 Z (Pk hg67 Z (U 4 Z (WO.nil ?_))))
     obtain rfl := Oi h66
     exact cutN (Lr [0])
    ·refine Sg (gT hg67) Z (Sg (gT hg67) Z (Pk hg67 Z (U 1 Z (If h66 (fun hg68 h66 => ?_) (fun hg68 h66 => ?_)))))
     ·refine KF hg68 Z (KF hg68 Z (Pk hg68 Z (WO.nil ?_)))
      obtain rfl := Oi h66
      exact cutN (Lr [0])
     ·refine Sg (gT hg68) Z (Sg (gT hg68) Z (Pk hg68 Z (WO.nil ?_)))
      obtain rfl := Oi h66
      exact cutN (Lr [0])
   refine Qf (TC.le hle (Cn Z h61 (fun hc69 h61 => ?_) (fun hc69 h61 => ?_)))
   ·refine ExX (QQ ?_)
    obtain rfl := Oi h61
    exact cutN (Lr [])
   refine QU (Rg (U 4 Z (Bd h61 fun r70 hr70 h61 => ?_)))
   refine Qe [] (OpC.fn call87 Z Z Z) (hrec8 _ _ _ hr70) ?_
   rintro _ _ ⟨rfl, rfl⟩
   refine FE Z (U 5 Z (Nx (TC.region (U 3 Z ?_))))
   refine vX (I (if s47.1 < IntKind.i64.wrap (r70.1 + 1) then IntKind.i64.wrap (r70.1 + 1) else s47.1)) (OpV.max Z Z Z Z) ?_
   refine U 5 Z (WO.nil (QD ?_))
   obtain rfl := Oi h61
   exact cutN (Lr [])
  exact Qf (TC.le hle (TC.region (U 2 Z (WO.nil (Qu h49 (Lr []))))))
 refine Qf (TC.le hle (Rg (U 4 Z (Nx (TC.ret ?_)))))
 obtain rfl := Oi h
 exact R2 4 5 Z Z (Lr [])
def F_c : Nat → (List Part) → Int → Option (Int × Int)
  | 0 => fun _ _ => none
  | n + 1 => B_c (F_c n) n
theorem k_c (n : Nat) : ∀ (a1 : List Part) (a2 : Int) (r : Int × Int), F_c n a1 a2 = some r → C prog 87 [.rsl 3 (List.map Part.enc a1), I a2] [] (fun a H => a = .tup [I r.1, I r.2] ∧ H = []) := by
  induction n with
  | zero => intro a1 a2 r h; cases h
  | succ n ih => intro a1 a2 r h; exact Qch _ ih n a1 a2 r h
def F_ef (n : Nat) (a1 : Course) (s40 : Int) : Option (Ctl Int (Ctl Unit Bool)) :=
  (bif decide (s40 < (a1.Distances.length : Int)) then (idx a1.Distances s40).bind fun x44 => (F_c n x44.Route 17).bind fun r45 => ((bif decide (64 < (x44.Cutoffs.length : Int)) then some true else (bif decide (16 < r45.1) then some true else some (decide (256 < r45.2)))) : Option Bool).bind fun b48 => (bif b48 then some (.done (.done false)) else some (.cont (IntKind.i64.wrap (s40 + 1)))) else some (.done (.cont ())))
def F_ac (n : Nat) (a1 : Course) : Option Bool :=
  ((bif decide (40 < (a1.Mats.length : Int)) then some true else (bif decide (512 < (a1.Legs.length : Int)) then some true else (bif decide (8 < (a1.Distances.length : Int)) then some true else (bif decide (32 < (a1.Waves.length : Int)) then some true else (bif decide (32 < (a1.Offences.length : Int)) then some true else (bif decide (32 < (a1.Categories.length : Int)) then some true else some (decide (32 < (a1.Prizes.length : Int))))))))) : Option Bool).bind fun b7 => (bif b7 then some false else (iter (F_ef n a1) n 0 : Option (Ctl Unit Bool)).bind fun b37 => match b37 with | .cont sb37 => (some true) | .done sb37 => some sb37)
theorem k_ac (n : Nat) (a1 : Course) (r : Bool) (h : F_ac n a1 = some r) :
    C prog 53 [.agg (Course.c a1)] [] (fun a H => a = .bool r ∧ H = []) := by
 refine Qd func53 Z Z Z ?_
 refine Rg (U 2 Z (Nx (TC.seq (TC.seq (Bd h fun b7 h8 h => ?_)))))
 refine TC.cut ([(1, .ptr 0 0), (46, .bool b7)]) ([.cells 33 (Course.c a1)]) ?_ (fun env H hle => ?_)
 ·refine TC.region (U 2 Z (LnM runUnderlying22 Z (U 2 Z (If h8 (fun hg9 h8 => ?_) (fun hg9 h8 => ?_)))))
  ·refine KF hg9 Z (KF hg9 Z (KF hg9 Z (KF hg9 Z (Pk hg9 Z (U 30 Z (WO.nil ?_))))))
   obtain rfl := Oi h8
   exact cutN (Lr [0])
  ·refine QG (gT hg9) QbX Z (QO (gT hg9) isAgg23 Z ?_)
   refine vX (I (a1.Legs.length : Int)) (Qk (e := Leg.c) (l := a1.Legs) runUnderlying23) ?_ (gT hg9)
   refine Sg (gT hg9) Z (Pk hg9 Z (U 1 Z (If h8 (fun hg10 h8 => ?_) (fun hg10 h8 => ?_))))
   ·refine KF hg10 Z (KF hg10 Z (KF hg10 Z (KF hg10 Z (Pk hg10 Z (U 24 Z (WO.nil ?_))))))
    obtain rfl := Oi h8
    exact cutN (Lr [0])
   ·refine QG (gT hg10) QaF Z (QO (gT hg10) isAgg24 Z ?_)
    refine vX (I (a1.Distances.length : Int)) (Qk (e := Distance.c) (l := a1.Distances) runUnderlying24) ?_ (gT hg10)
    refine Sg (gT hg10) Z (Pk hg10 Z (U 1 Z (If h8 (fun hg11 h8 => ?_) (fun hg11 h8 => ?_))))
    ·refine KF hg11 Z (KF hg11 Z (KF hg11 Z (KF hg11 Z (Pk hg11 Z (U 18 Z (WO.nil ?_))))))
     obtain rfl := Oi h8
     exact cutN (Lr [0])
    ·refine QG (gT hg11) QbW Z (QO (gT hg11) isAgg25 Z ?_)
     refine vX (I (a1.Waves.length : Int)) (Qk (e := Wave.c) (l := a1.Waves) runUnderlying25) ?_ (gT hg11)
     refine Sg (gT hg11) Z (Pk hg11 Z (U 1 Z (If h8 (fun hg12 h8 => ?_) (fun hg12 h8 => ?_))))
     ·refine KF hg12 Z (KF hg12 Z (KF hg12 Z (KF hg12 Z (Pk hg12 Z (U 12 Z (WO.nil ?_))))))
      obtain rfl := Oi h8
      exact cutN (Lr [0])
     ·refine QG (gT hg12) QcW Z (QO (gT hg12) isAgg26 Z ?_)
      refine vX (I (a1.Offences.length : Int)) (Qk (e := Offence.c) (l := a1.Offences) runUnderlying26) ?_ (gT hg12)
      refine Sg (gT hg12) Z (Pk hg12 Z (U 1 Z (If h8 (fun hg13 h8 => ?_) (fun hg13 h8 => ?_))))
      ·refine KF hg13 Z (KF hg13 Z (KF hg13 Z (KF hg13 Z (Pk hg13 Z (U 6 Z (WO.nil ?_))))))
       obtain rfl := Oi h8
       exact cutN (Lr [0])
      ·refine QG (gT hg13) QbV Z (QO (gT hg13) isAgg27 Z ?_)
       refine vX (I (a1.Categories.length : Int)) (Qk (e := Category.c) (l := a1.Categories) runUnderlying27) ?_ (gT hg13)
       refine Sg (gT hg13) Z (Pk hg13 Z (U 1 Z (If h8 (fun hg14 h8 => ?_) (fun hg14 h8 => ?_))))
       ·refine KF hg14 Z (KF hg14 Z (KF hg14 Z (KF hg14 Z (Pk hg14 Z (WO.nil ?_)))))
        obtain rfl := Oi h8
        exact cutN (Lr [0])
       ·refine QG (gT hg14) QcV Z (QO (gT hg14) isAgg28 Z ?_)
        refine vX (I (a1.Prizes.length : Int)) (Qk (e := Prize.c) (l := a1.Prizes) runUnderlying28) ?_ (gT hg14)
        refine Sg (gT hg14) Z (Pk hg14 Z (WO.nil ?_))
        obtain rfl := Oi h8
        exact cutN (Lr [0])
 refine Qf (TC.le hle (Cn Z h (fun hc15 h => ?_) (fun hc15 h => ?_)))
 ·refine Rg (U 1 Z (Nx (RtR ?_)))
  obtain rfl := Oi h
  exact R1 2 Z (Lr [])
 refine QU (TC.seq (Rg (U 2 Z (LnM runUnderlying24 Z (U 1 Z (Nx (Bd h fun b37 h38 h => ?_)))))))
 refine Qy (b := b37) (fun sb37 => []) (fun sb37 => []) ?_ (fun sb37 env H hbe hle => ?_)
 ·refine TC.block ?_
  refine TC.loop (E := fun s40 => [(48, .rsl 5 (List.map Distance.c a1.Distances)), (49, I (a1.Distances.length : Int)), (50, I s40)]) (Hp := fun s40 => []) h38 ?_ ?_
  ·exact Lr []
  intro s40 d41 h42 hb39
  refine Rg (U 1 Z (Nx (TC.seq (CnS Z h42 (fun hc43 h42 => ?_) (fun hc43 h42 => ?_)))))
  ·refine ExX (Qz h42 ?_)
   obtain rfl := hb39 _ (Oi h42).symm
   exact QQ (Qx Z (Lr []))
  refine QU (TC.seq (TC.block (Rg (Bd h42 fun x44 hx44 h42 => Ix hx44 runUnderlying24 sizeOf94 Z (U 3 Z (Nx (Rg (U 2 Z (Bd h42 fun r45 hr45 h42 => ?_)))))))))
  refine Qe [] (OpC.fn call87 Z Z Z) (k_c _ _ _ _ hr45) ?_
  rintro _ _ ⟨rfl, rfl⟩
  refine FE Z (U 5 Z (Nx (TC.seq (Bd h42 fun b48 h49 h42 => ?_))))
  refine TC.cut ([(48, .rsl 5 (List.map Distance.c a1.Distances)), (49, I (a1.Distances.length : Int)), (50, I s40), (71, .bool b48)]) ([]) ?_ (fun env H hle => ?_)
  ·refine TC.region (U 2 Z (LnM runUnderlying92 Z (U 2 Z (If h49 (fun hg50 h49 => ?_) (fun hg50 h49 => ?_)))))
   ·refine KF hg50 Z (KF hg50 Z (Pk hg50 Z (U 4 Z (WO.nil ?_))))
    obtain rfl := Oi h49
    exact cutN (Lr [])
   ·refine Sg (gT hg50) Z (Sg (gT hg50) Z (Pk hg50 Z (U 1 Z (If h49 (fun hg51 h49 => ?_) (fun hg51 h49 => ?_)))))
    ·refine KF hg51 Z (KF hg51 Z (Pk hg51 Z (WO.nil ?_)))
     obtain rfl := Oi h49
     exact cutN (Lr [])
    ·refine Sg (gT hg51) Z (Sg (gT hg51) Z (Pk hg51 Z (WO.nil ?_)))
     obtain rfl := Oi h49
     exact cutN (Lr [])
  refine Qf (TC.le hle (Cn Z h42 (fun hc52 h42 => ?_) (fun hc52 h42 => ?_)))
  ·refine Rg (U 1 Z (Nx (TC.ret (Qm (Ql (QV h42 ?_))))))
   obtain rfl := hb39 _ (Oi h42).symm
   refine Qm (QF (Ql ?_))
   obtain rfl := Oi h
   exact R1 2 Z (Lr [])
  exact TC.skip (QD (Qf (TC.region (U 2 Z (WO.nil (Qu h42 (Lr [])))))))
 subst hbe
 refine Qf (TC.le hle (Rg (U 1 Z (Nx (TC.ret ?_)))))
 obtain rfl := Oi h
 exact R1 2 Z (Lr [])
def F_dy (n : Nat) (s15 : (List Int) × Int) : Option (Ctl ((List Int) × Int) (List Int)) :=
  (bif decide (s15.2 ≤ 122) then (idxA 256 s15.1 s15.2).bind fun x19 => (setI s15.1 s15.2 2).bind fun l20 => (idxA 256 l20 (IntKind.u8.wrap (s15.2 - 32))).bind fun x21 => (setI l20 (IntKind.u8.wrap (s15.2 - 32)) 2).bind fun l22 => some (.cont (l22, IntKind.u8.wrap (s15.2 + 1))) else some (.done s15.1))
def F_fi (n : Nat) (s33 : (List Int) × Int) : Option (Ctl ((List Int) × Int) (List Int)) :=
  (bif decide (s33.2 ≤ 57) then (idxA 256 s33.1 s33.2).bind fun x37 => (setI s33.1 s33.2 3).bind fun l38 => some (.cont (l38, IntKind.u8.wrap (s33.2 + 1))) else some (.done s33.1))
def F_fv (n : Nat) (s51 : (List Int) × Int) : Option (Ctl ((List Int) × Int) (List Int)) :=
  (bif decide (s51.2 < ([123, 125, 40, 41, 91, 93, 59, 44, 61, 60, 62].length : Int)) then (idx [123, 125, 40, 41, 91, 93, 59, 44, 61, 60, 62] s51.2).bind fun x55 => (idxA 256 s51.1 x55).bind fun x56 => (setI s51.1 x55 4).bind fun l57 => some (.cont (l57, IntKind.i64.wrap (s51.2 + 1))) else some (.done s51.1))
def F_fy (n : Nat) (s70 : (List Int) × Int) : Option (Ctl ((List Int) × Int) (List Int)) :=
  (bif decide (s70.2 < (([32, 9, 10, 13].length) : Int)) then (idx [32, 9, 10, 13] s70.2).bind fun x74 => (idxA 256 s70.1 x74).bind fun x75 => (setI s70.1 x74 1).bind fun l76 => some (.cont (l76, IntKind.i64.wrap (s70.2 + 1))) else some (.done s70.1))
def F_bw (n : Nat) : Option (List Int) :=
  (iter (F_dy n) n (List.replicate 256 0, 97) : Option (List Int)).bind fun b12 => (iter (F_fi n) n (b12, 48) : Option (List Int)).bind fun b30 => (iter (F_fv n) n (b30, 0) : Option (List Int)).bind fun b48 => (iter (F_fy n) n (b48, 0) : Option (List Int)).bind fun b67 => (arr 256 b67).bind fun l77 => (arr 256 b67).bind fun l78 => (arr 256 l77).bind fun l79 => some l79
theorem k_bw (n : Nat) (r : List Int) (h : F_bw n = some r) :
    C prog 237 [] [] (fun a H => a = .agg (List.flatten (List.map (encI .u8) r)) ∧ H = [.row 315 1 (List.map (encI .u8) r)]) := by
 refine Qd func237 Z Z Z ?_
 refine Rg ?_
 refine vH (Yq (n := 256) (k := 1) (e := (encI .u8)) (z := 0) zeroValue315 (by kernel_rfl) (by kernel_rfl) (by kernel_rfl) Z) ?_
 refine FE Z (Nx (TC.seq (Rg (U 1 Z (Nx (Bd h fun b12 h13 h => ?_))))))
 refine TC.cut ([(0, .ptr 0 0)]) ([.row 315 1 (List.map (encI .u8) b12)]) ?_ (fun env H hle => ?_)
 ·refine TC.block ?_
  refine TC.loop (E := fun s15 => [(0, .ptr 0 0), (1, .int .u8 s15.2)]) (Hp := fun s15 => [.row 315 1 (List.map (encI .u8) s15.1)]) h13 ?_ ?_
  ·exact Lr [0]
  intro s15 d16 h17 hb14
  refine TC.seq (Rg (U 2 Z (Nx (CnS Z h17 (fun hc18 h17 => ?_) (fun hc18 h17 => ?_)))))
  ·refine ExX (Qz h17 ?_)
   obtain rfl := hb14 _ (Oi h17).symm
   exact QQ (cutN (Lr [0]))
  refine QU (TC.seq (TC.block (TC.region (U 3 Z (Bd h17 fun x19 hx19 h17 => ?_)))))
  refine vX (.ptr 0 (Int.toNat s15.2 * 1)) (Qad (n := 256) (k := 1) (l := s15.1) hx19 runUnderlying315 sizeOf5 Z) ?_
  refine Bd h17 fun l20 hl20 h17 => ?_
  refine vU (Qbi (e := (encI .u8)) (k := 1) (f := 0) (QaE hx19).2 hl20 sizeOf5 Z Z) ?_
  refine FE Z (Bd h17 fun x21 hx21 h17 => ?_)
  refine vX (.ptr 0 (Int.toNat (IntKind.u8.wrap (s15.2 - 32)) * 1)) (Qad (n := 256) (k := 1) (l := l20) hx21 runUnderlying315 sizeOf5 Z) ?_
  refine Bd h17 fun l22 hl22 h17 => ?_
  refine vU (Qbi (e := (encI .u8)) (k := 1) (f := 0) (QaE hx21).2 hl22 sizeOf5 Z Z) ?_
  exact FE Z (WO.nil (QD (Qf (TC.region (U 3 Z (WO.nil (Qu h17 (Lr [0]))))))))
 refine Qf (TC.le hle (TC.seq (Rg (U 1 Z (Nx (Bd h fun b30 h31 h => ?_))))))
 refine TC.cut ([(0, .ptr 0 0)]) ([.row 315 1 (List.map (encI .u8) b30)]) ?_ (fun env H hle => ?_)
 ·refine TC.block ?_
  refine TC.loop (E := fun s33 => [(0, .ptr 0 0), (2, .int .u8 s33.2)]) (Hp := fun s33 => [.row 315 1 (List.map (encI .u8) s33.1)]) h31 ?_ ?_
  ·exact Lr [0]
  intro s33 d34 h35 hb32
  refine TC.seq (Rg (U 2 Z (Nx (CnS Z h35 (fun hc36 h35 => ?_) (fun hc36 h35 => ?_)))))
  ·refine ExX (Qz h35 ?_)
   obtain rfl := hb32 _ (Oi h35).symm
   exact QQ (cutN (Lr [0]))
  refine QU (TC.seq (TC.block (TC.region (U 1 Z (Bd h35 fun x37 hx37 h35 => ?_)))))
  refine vX (.ptr 0 (Int.toNat s33.2 * 1)) (Qad (n := 256) (k := 1) (l := s33.1) hx37 runUnderlying315 sizeOf5 Z) ?_
  refine Bd h35 fun l38 hl38 h35 => ?_
  refine vU (Qbi (e := (encI .u8)) (k := 1) (f := 0) (QaE hx37).2 hl38 sizeOf5 Z Z) ?_
  exact FE Z (WO.nil (QD (Qf (TC.region (U 3 Z (WO.nil (Qu h35 (Lr [0]))))))))
 refine Qf (TC.le hle (TC.seq (Rg ?_)))
 refine vH (OpH.lit (xs := [.const (.int .u8 123), .const (.int .u8 125), .const (.int .u8 40), .const (.int .u8 41), .const (.int .u8 91), .const (.int .u8 93), .const (.int .u8 59), .const (.int .u8 44), .const (.int .u8 61), .const (.int .u8 60), .const (.int .u8 62)]) (es := List.map (encI .u8) [123, 125, 40, 41, 91, 93, 59, 44, 61, 60, 62]) Yh Z Z Z Z Z ⟨Z, Z, Z, Z, Z, Z, Z, Z, Z, Z, Z, trivial⟩ Z Z) ?_
 refine FE Z ?_
 refine vH (QhL (es := List.map (encI .u8) [123, 125, 40, 41, 91, 93, 59, 44, 61, 60, 62]) underlying118 underlying5 (List.length_map ..) Z) ?_
 refine FE Z (LnM runUnderlying118 Z (U 1 Z (Nx (Bd h fun b48 h49 h => ?_))))
 refine TC.cut ([(0, .ptr 0 0)]) ([.row 315 1 (List.map (encI .u8) b48)]) ?_ (fun env H hle => ?_)
 ·refine TC.block ?_
  refine TC.loop (E := fun s51 => [(0, .ptr 0 0), (23, .rsl 1 (List.map (encI .u8) [123, 125, 40, 41, 91, 93, 59, 44, 61, 60, 62])), (24, I ([123, 125, 40, 41, 91, 93, 59, 44, 61, 60, 62].length : Int)), (25, I s51.2)]) (Hp := fun s51 => [.row 315 1 (List.map (encI .u8) s51.1)]) h49 ?_ ?_
  ·exact Lr [0]
  intro s51 d52 h53 hb50
  refine Rg (U 1 Z (Nx (TC.seq (CnS Z h53 (fun hc54 h53 => ?_) (fun hc54 h53 => ?_)))))
  ·refine ExX (Qz h53 ?_)
   obtain rfl := hb50 _ (Oi h53).symm
   exact QQ (cutN (Lr [0]))
  refine QU (TC.seq (TC.block (Rg (Bd h53 fun x55 hx55 h53 => Ix hx55 runUnderlying118 sizeOf5 Z (U 2 Z (Nx (TC.region (U 1 Z (Bd h53 fun x56 hx56 h53 => ?_)))))))))
  refine vX (.ptr 0 (Int.toNat x55 * 1)) (Qad (n := 256) (k := 1) (l := s51.1) hx56 runUnderlying315 sizeOf5 Z) ?_
  refine Bd h53 fun l57 hl57 h53 => ?_
  refine vU (Qbi (e := (encI .u8)) (k := 1) (f := 0) (QaE hx56).2 hl57 sizeOf5 Z Z) ?_
  exact FE Z (WO.nil (QD (Qf (TC.region (U 2 Z (WO.nil (Qu h53 (Lr [0]))))))))
 refine Qf (TC.le hle (TC.seq (Rg ?_)))
 refine vH (OpH.lit (xs := [.const (.int .u8 32), .const (.int .u8 9), .const (.int .u8 10), .const (.int .u8 13)]) (es := List.map (encI .u8) [32, 9, 10, 13]) Yh Z Z Z Z Z ⟨Z, Z, Z, Z, trivial⟩ Z Z) ?_
 refine FE Z (U 2 Z (Nx (Bd h fun b67 h68 h => ?_)))
 refine TC.cut ([(0, .ptr 0 0)]) ([.row 315 1 (List.map (encI .u8) b67)]) ?_ (fun env H hle => ?_)
 ·refine TC.block ?_
  refine TC.loop (E := fun s70 => [(0, .ptr 0 0), (32, .osl 1 0 ([32, 9, 10, 13].length) 1), (33, I (([32, 9, 10, 13].length) : Int)), (34, I s70.2)]) (Hp := fun s70 => [.row 315 1 (List.map (encI .u8) s70.1), .row 5 1 (List.map (encI .u8) [32, 9, 10, 13])]) h68 ?_ ?_
  ·exact Lr [0, 1]
  intro s70 d71 h72 hb69
  refine Rg (U 1 Z (Nx (TC.seq (CnS Z h72 (fun hc73 h72 => ?_) (fun hc73 h72 => ?_)))))
  ·refine ExX (Qz h72 ?_)
   obtain rfl := hb69 _ (Oi h72).symm
   exact QQ (cutN (Lr [0]))
  refine QU (TC.seq (TC.block (Rg (Bd h72 fun x74 hx74 h72 => ?_))))
  refine vX (.ptr 1 (Int.toNat s70.2 * 1)) (Yo hx74 Z runUnderlying118 sizeOf5) ?_
  refine vX (.int .u8 x74) (OpV.load Z isAgg5 Z (QL hx74)) ?_
  refine U 1 Z (Nx (TC.region (U 1 Z (Bd h72 fun x75 hx75 h72 => ?_))))
  refine vX (.ptr 0 (Int.toNat x74 * 1)) (Qad (n := 256) (k := 1) (l := s70.1) hx75 runUnderlying315 sizeOf5 Z) ?_
  refine Bd h72 fun l76 hl76 h72 => ?_
  refine vU (Qbi (e := (encI .u8)) (k := 1) (f := 0) (QaE hx75).2 hl76 sizeOf5 Z Z) ?_
  exact FE Z (WO.nil (QD (Qf (TC.region (U 2 Z (WO.nil (Qu h72 (Lr [0, 1]))))))))
 refine Qf (TC.le hle (Rg (Bd h fun l77 hl77 h => ?_)))
 refine vX (.agg (List.flatten (List.map (encI .u8) l77))) (QfI (e := (encI .u8)) hl77 (fun _ => rfl) Z isAgg315 sizeOf315) ?_
 refine Bd h fun l78 hl78 h => Bd h fun l79 hl79 h => ?_
 obtain ⟨hll78, rfl⟩ := Yy hl78
 refine vU (Yp (e := (encI .u8)) (l := b67) (l' := l79) hll78 (Qa0 hl79) (fun _ => rfl) Z sizeOf315 (fun _ => rfl) (fun _ => rfl) (congrArg (fun l => List.flatten (List.map (encI .u8) l)) (Yy hl79).2.symm)) ?_
 refine FE Z (Nx (TC.ret ?_))
 obtain rfl := Oi h
 refine ⟨[(0, .ptr 0 0)], [.row 315 1 (List.map (encI .u8) l79)], _, ?_, YK Z (QhF (e := (encI .u8)) (Qa0 hl79) (fun _ => rfl) Z isAgg315 sizeOf315), Z, Z⟩
 exact Lr [0]
def F_ft (n : Nat) (a1 : List UInt8) (l3 : List Int) (s30 : Int) : Option (Ctl Int (Ctl Unit Bool)) :=
  (bif decide (s30 < (a1.length : Int)) then (idx a1 s30).bind fun x34 => (idxA 256 l3 (x34.toNat : Int)).bind fun x35 => ((bif (x35 != 2) then (bif (s30 == 0) then some true else (bif (x35 != 3) then (idx a1 s30).bind fun x45 => some ((x45.toNat : Int) != 95) else some false)) else some false) : Option Bool).bind fun b40 => (bif b40 then some (.done (.done false)) else some (.cont (IntKind.i64.wrap (s30 + 1)))) else some (.done (.cont ())))
def F_bs (n : Nat) (a1 : List UInt8) : Option Bool :=
  (F_bw n).bind fun r1 => (arr 256 (List.replicate 256 0)).bind fun l2 => (arr 256 r1).bind fun l3 => (iter (F_ft n a1 l3) n 0 : Option (Ctl Unit Bool)).bind fun b27 => match b27 with | .cont sb27 => (some (a1 != [])) | .done sb27 => some sb27
theorem k_bs (n : Nat) (a1 : List UInt8) (r : Bool) (h : F_bs n a1 = some r) :
    C prog 206 [.str a1] [] (fun a H => a = .bool r ∧ H = []) := by
 refine Qd func206 Z Z Z ?_
 refine Rg (U 1 Z (Nx (Rg (Bd h fun r1 hr1 h => ?_))))
 refine Qe [] (OpC.fn call237 Z Z Z) (k_bw _ _ hr1) ?_
 rintro _ _ ⟨rfl, rfl⟩
 refine Qgk (x := (.agg (List.flatten (List.map (encI .u8) r1)))) (H := [.row 315 1 (List.map (encI .u8) r1)]) (Qju (e := (encI .u8)) (fun _ => rfl) _ _) Z ?_
 refine vH (Yq (n := 256) (k := 1) (e := (encI .u8)) (z := 0) zeroValue315 (by kernel_rfl) (by kernel_rfl) (by kernel_rfl) Z) ?_
 refine FE Z (Bd h fun l2 hl2 h => Bd h fun l3 hl3 h => ?_)
 obtain ⟨hll2, rfl⟩ := Yy hl2
 refine vU (Yp (e := (encI .u8)) (l := (List.replicate 256 0)) (l' := l3) hll2 (Qa0 hl3) (fun _ => rfl) Z sizeOf315 (fun _ => rfl) (fun _ => rfl) (congrArg (fun l => List.flatten (List.map (encI .u8) l)) (Yy hl3).2.symm)) ?_
 refine FE Z (Nx (TC.seq (Rg (U 1 Z ?_))))
 refine vX (I (a1.length : Int)) (YA Z Z runUnderlying9 Z) ?_
 refine U 1 Z (Nx (Bd h fun b27 h28 h => ?_))
 refine Qy (b := b27) (fun sb27 => [(0, .str a1)]) (fun sb27 => []) ?_ (fun sb27 env H hbe hle => ?_)
 ·refine TC.block ?_
  refine TC.loop (E := fun s30 => [(0, .str a1), (3, .ptr 0 0), (8, I (a1.length : Int)), (9, I s30)]) (Hp := fun s30 => [.row 315 1 (List.map (encI .u8) l3)]) h28 ?_ ?_
  ·exact Lr [1]
  intro s30 d31 h32 hb29
  refine Rg (U 1 Z (Nx (TC.seq (CnS Z h32 (fun hc33 h32 => ?_) (fun hc33 h32 => ?_)))))
  ·refine ExX (Qz h32 ?_)
   obtain rfl := hb29 _ (Oi h32).symm
   exact QQ (Qx Z (Lr []))
  refine QU (TC.seq (TC.block (Rg (U 2 Z (Nx (Rg (U 2 Z (Bd h32 fun x34 hx34 h32 => ?_))))))))
  refine vX (.int .u8 (x34.toNat : Int)) (Qaz hx34 runUnderlying9) ?_
  refine Bd h32 fun x35 hx35 h32 => ?_
  refine vX (.ptr 0 (Int.toNat (x34.toNat : Int) * 1)) (Qad (n := 256) (k := 1) (l := l3) hx35 runUnderlying315 sizeOf5 Z) ?_
  refine vX (.int .u8 x35) (OpV.load Z isAgg5 Z (QL (QaE hx35).2)) ?_
  refine U 1 Z (Nx (TC.seq (Bd h32 fun b40 h41 h32 => ?_)))
  refine TC.cut ([(0, .str a1), (3, .ptr 0 0), (8, I (a1.length : Int)), (9, I s30), (32, .bool b40)]) ([.row 315 1 (List.map (encI .u8) l3)]) ?_ (fun env H hle => ?_)
  ·refine TC.region (U 3 Z (If h41 (fun hg42 h41 => ?_) (fun hg42 h41 => ?_)))
   ·refine Sg (gT hg42) Z (Sg (gT hg42) Z (Sg (gT hg42) Z (If h41 (fun hg43 h41 => ?_) (fun hg43 h41 => ?_))))
    ·refine KF hg43 Z (KF hg43 Z (KF hg43 Z (U 4 Z (KF hg43 Z (Pkg (gT hg42) hg43 Z (Pk hg42 Z (WO.nil ?_)))))))
     obtain rfl := Oi h41
     exact cutN (Lr [0])
    ·refine Sg (gT hg43) Z (Sg (gT hg43) Z (Sg (gT hg43) Z (If h41 (fun hg44 h41 => ?_) (fun hg44 h41 => ?_))))
     ·refine Sg (gT hg44) Z (Sg (gT hg44) Z (Bd h41 fun x45 hx45 h41 => ?_))
      refine vX (.int .u8 (x45.toNat : Int)) (Qaz hx45 runUnderlying9) ?_ (gT hg44)
      refine Sg (gT hg44) Z (Pkg (gT hg43) hg44 Z (Pkg (gT hg42) hg43 Z (Pk hg42 Z (WO.nil ?_))))
      obtain rfl := Oi h41
      exact cutN (Lr [0])
     ·refine KF hg44 Z (KF hg44 Z (KF hg44 Z (KF hg44 Z (Pkg (gT hg43) hg44 Z (Pkg (gT hg42) hg43 Z (Pk hg42 Z (WO.nil ?_)))))))
      obtain rfl := Oi h41
      exact cutN (Lr [0])
   ·refine KF hg42 Z (KF hg42 Z (KF hg42 Z (U 8 Z (KF hg42 Z (Pk hg42 Z (WO.nil ?_))))))
    obtain rfl := Oi h41
    exact cutN (Lr [0])
  refine Qf (TC.le hle (Cn Z h32 (fun hc46 h32 => ?_) (fun hc46 h32 => ?_)))
  ·refine Rg (U 1 Z (Nx (TC.ret (Qm (Ql (QV h32 ?_))))))
   obtain rfl := hb29 _ (Oi h32).symm
   refine Qm (QF (Ql ?_))
   obtain rfl := Oi h
   exact R1 2 Z (Lr [])
  exact TC.skip (QD (Qf (TC.region (U 2 Z (WO.nil (Qu h32 (Lr [0])))))))
 subst hbe
 refine Qf (TC.le hle (Rg (U 1 Z ?_)))
 refine vX (.bool (a1 != [])) (Qed Z Z Z ) ?_
 refine U 1 Z (Nx (TC.ret ?_))
 obtain rfl := Oi h
 exact R1 2 Z (Lr [])
def F_cm (n : Nat) (a1 : List UInt8) : Option Bool :=
  ((F_bs n a1).bind fun r8 => (bif r8 then (cat [32] a1).bind fun x10 => (cat x10 [32]).bind fun x11 => (hasSub [32, 99, 111, 117, 114, 115, 101, 32, 109, 97, 116, 115, 32, 115, 116, 97, 114, 116, 32, 112, 97, 115, 115, 32, 101, 110, 100, 32, 108, 101, 103, 32, 116, 111, 32, 100, 105, 115, 116, 97, 110, 99, 101, 32, 103, 117, 110, 32, 99, 104, 105, 112, 32, 115, 108, 111, 116, 32, 108, 97, 112, 115, 32, 108, 97, 112, 32, 99, 117, 116, 111, 102, 102, 32, 101, 120, 116, 114, 97, 32, 119, 97, 118, 101, 32, 111, 102, 102, 101, 110, 99, 101, 32, 111, 117, 116, 32, 99, 97, 116, 101, 103, 111, 114, 121, 32, 112, 114, 105, 122, 101, 32, 97, 108, 108, 32, 116, 105, 101, 115, 32, 105, 102, 32, 101, 108, 115, 101, 32, 97, 110, 100, 32, 111, 114, 32, 110, 111, 116, 32, 111, 108, 100, 101, 114, 32, 121, 111, 117, 110, 103, 101, 114, 32, 98, 105, 98, 32, 100, 114, 97, 119, 32, 102, 105, 101, 108, 100, 32, 115, 104, 111, 114, 116, 32, 102, 97, 117, 108, 116, 115, 32, 109, 105, 115, 115, 101, 115, 32, 115, 116, 114, 97, 121, 115, 32, 119, 105, 110, 100, 111, 119, 32, 114, 101, 115, 105, 100, 117, 97, 108, 32, 100, 114, 105, 102, 116, 32, 112, 114, 111, 116, 101, 115, 116, 32, 102, 101, 101, 32, 100, 101, 97, 100, 108, 105, 110, 101, 32] x11).bind fun r12 => some r12 else some false) : Option Bool).bind fun b6 => some b6
theorem k_cm (n : Nat) (a1 : List UInt8) (r : Bool) (h : F_cm n a1 = some r) :
    C prog 151 [.str a1] [] (fun a H => a = .bool r ∧ H = []) := by
 refine Qd func151 Z Z Z ?_
 refine Rg (U 1 Z (Nx (TC.seq (Bd h fun b6 h7 h => ?_))))
 refine TC.cut ([(2, .bool b6)]) ([]) ?_ (fun env H hle => ?_)
 ·refine TC.region (U 1 Z (Bd h7 fun r8 hr8 h7 => Pc [] Z (OpC.fn call206 Z Z Z) (k_bs _ _ _ hr8) Z (U 1 Z (If h7 (fun hg9 h7 => ?_) (fun hg9 h7 => ?_)))))
  ·refine Sg (gT hg9) Z (Bd h7 fun x10 hx10 h7 => ?_)
   refine vX (.str x10) (QdF hx10) ?_ (gT hg9)
   refine Bd h7 fun x11 hx11 h7 => ?_
   refine vX (.str x11) (QdF hx11) ?_ (gT hg9)
   refine Bd h7 fun r12 hr12 h7 => ?_
   refine Qe [] (OpC.fn call207 Z Z Z) (C.contains Qck Z hr12) ?_ (hg := (gT hg9))
   rintro _ _ ⟨rfl, rfl⟩
   refine FE Z (Pk hg9 Z (U 1 Z (WO.nil ?_)))
   obtain rfl := Oi h7
   exact cutN (Lr [])
  ·refine KF hg9 Z (KF hg9 Z (KF hg9 Z (KF hg9 Z (Pk hg9 Z (U 1 Z (WO.nil ?_))))))
   obtain rfl := Oi h7
   exact cutN (Lr [])
 refine Qf (TC.le hle (TC.ret ?_))
 obtain rfl := Oi h
 exact R1 2 Z (Lr [])
def F_fm (n : Nat) (a1 : List UInt8) (s52 : Int) : Option (Ctl Int (Ctl Unit Bool)) :=
  (bif decide (s52 < (a1.length : Int)) then (idx a1 s52).bind fun x56 => ((bif decide ((x56.toNat : Int) < 97) then (bif decide ((x56.toNat : Int) < 48) then some ((x56.toNat : Int) != 95) else (bif decide (57 < (x56.toNat : Int)) then some ((x56.toNat : Int) != 95) else some false)) else (bif decide (122 < (x56.toNat : Int)) then (bif decide ((x56.toNat : Int) < 48) then some ((x56.toNat : Int) != 95) else (bif decide (57 < (x56.toNat : Int)) then some ((x56.toNat : Int) != 95) else some false)) else some false)) : Option Bool).bind fun b63 => (bif b63 then some (.done (.done false)) else some (.cont (IntKind.i64.wrap (s52 + 1)))) else some (.done (.cont ())))
def F_d (n : Nat) (a1 : List UInt8) : Option Bool :=
  ((bif decide ((a1.length : Int) < 1) then some true else (bif decide (24 < (a1.length : Int)) then some true else (idx a1 0).bind fun x10 => (bif decide ((x10.toNat : Int) < 97) then some true else (idx a1 0).bind fun x12 => some (decide (122 < (x12.toNat : Int)))))) : Option Bool).bind fun b6 => (bif b6 then some false else (iter (F_fm n a1) n 0 : Option (Ctl Unit Bool)).bind fun b49 => match b49 with | .cont sb49 => ((F_cm n a1).bind fun r72 => some (!r72)) | .done sb49 => some sb49)
theorem k_d (n : Nat) (a1 : List UInt8) (r : Bool) (h : F_d n a1 = some r) :
    C prog 88 [.str a1] [] (fun a H => a = .bool r ∧ H = []) := by
 refine Qd func88 Z Z Z ?_
 refine Rg (U 1 Z (Nx (TC.seq (TC.seq (Bd h fun b6 h7 h => ?_)))))
 refine TC.cut ([(0, .str a1), (22, .bool b6)]) ([]) ?_ (fun env H hle => ?_)
 ·refine TC.region (U 1 Z ?_)
  refine vX (I (a1.length : Int)) (YA Z Z runUnderlying9 Z) ?_
  refine U 2 Z (If h7 (fun hg8 h7 => ?_) (fun hg8 h7 => ?_))
  ·refine KF hg8 Z (KF hg8 Z (KF hg8 Z (Pk hg8 Z (U 10 Z (WO.nil ?_)))))
   obtain rfl := Oi h7
   exact cutN (Lr [])
  ·refine Sg (gT hg8) Z ?_
   refine vX (I (a1.length : Int)) (YA Z Z runUnderlying9 Z) ?_ (gT hg8)
   refine Sg (gT hg8) Z (Pk hg8 Z (U 1 Z (If h7 (fun hg9 h7 => ?_) (fun hg9 h7 => ?_))))
   ·refine KF hg9 Z (KF hg9 Z (KF hg9 Z (Pk hg9 Z (U 5 Z (WO.nil ?_)))))
    obtain rfl := Oi h7
    exact cutN (Lr [])
   ·refine Sg (gT hg9) Z (Bd h7 fun x10 hx10 h7 => ?_)
    refine vX (.int .u8 (x10.toNat : Int)) (Qaz hx10 runUnderlying9) ?_ (gT hg9)
    refine Sg (gT hg9) Z (Pk hg9 Z (U 1 Z (If h7 (fun hg11 h7 => ?_) (fun hg11 h7 => ?_))))
    ·refine KF hg11 Z (KF hg11 Z (KF hg11 Z (Pk hg11 Z (WO.nil ?_))))
     obtain rfl := Oi h7
     exact cutN (Lr [])
    ·refine Sg (gT hg11) Z (Bd h7 fun x12 hx12 h7 => ?_)
     refine vX (.int .u8 (x12.toNat : Int)) (Qaz hx12 runUnderlying9) ?_ (gT hg11)
     refine Sg (gT hg11) Z (Pk hg11 Z (WO.nil ?_))
     obtain rfl := Oi h7
     exact cutN (Lr [])
 refine Qf (TC.le hle (Cn Z h (fun hc13 h => ?_) (fun hc13 h => ?_)))
 ·refine Rg (U 1 Z (Nx (RtR ?_)))
  obtain rfl := Oi h
  exact R1 2 Z (Lr [])
 refine QU (TC.seq (Rg (U 1 Z ?_)))
 refine vX (I (a1.length : Int)) (YA Z Z runUnderlying9 Z) ?_
 refine U 1 Z (Nx (Bd h fun b49 h50 h => ?_))
 refine Qy (b := b49) (fun sb49 => [(0, .str a1)]) (fun sb49 => []) ?_ (fun sb49 env H hbe hle => ?_)
 ·refine TC.block ?_
  refine TC.loop (E := fun s52 => [(0, .str a1), (24, I (a1.length : Int)), (25, I s52)]) (Hp := fun s52 => []) h50 ?_ ?_
  ·exact Lr []
  intro s52 d53 h54 hb51
  refine Rg (U 1 Z (Nx (TC.seq (CnS Z h54 (fun hc55 h54 => ?_) (fun hc55 h54 => ?_)))))
  ·refine ExX (Qz h54 ?_)
   obtain rfl := hb51 _ (Oi h54).symm
   exact QQ (Qx Z (Lr []))
  refine QU (TC.seq (TC.block (Rg (U 2 Z (Nx (Rg (U 2 Z (Bd h54 fun x56 hx56 h54 => ?_))))))))
  refine vX (.int .u8 (x56.toNat : Int)) (Qaz hx56 runUnderlying9) ?_
  refine U 1 Z (Nx (TC.seq (Bd h54 fun b63 h64 h54 => ?_)))
  refine TC.cut ([(0, .str a1), (24, I (a1.length : Int)), (25, I s52), (48, .bool b63)]) ([]) ?_ (fun env H hle => ?_)
  ·refine TC.region (U 3 Z (If h64 (fun hg65 h64 => ?_) (fun hg65 h64 => ?_)))
   ·refine KF hg65 Z (KF hg65 Z (Pk hg65 Z (U 4 Z (If h64 (fun hg66 h64 => ?_) (fun hg66 h64 => ?_)))))
    ·refine KF hg66 Z (KF hg66 Z (Pkg (gT Z) hg66 Z (U 5 Z (WO.nil ?_))))
     obtain rfl := Oi h64
     exact cutN (Lr [])
    ·refine Sg (gT hg66) Z (Sg (gT hg66) Z (Pkg (gT Z) hg66 Z (U 2 Z (If h64 (fun hg67 h64 => ?_) (fun hg67 h64 => ?_)))))
     ·refine Sg (gT hg67) Z (Sg (gT hg67) Z (Pk hg67 Z (WO.nil ?_)))
      obtain rfl := Oi h64
      exact cutN (Lr [])
     ·refine KF hg67 Z (KF hg67 Z (Pk hg67 Z (WO.nil ?_)))
      obtain rfl := Oi h64
      exact cutN (Lr [])
   ·refine Sg (gT hg65) Z (Sg (gT hg65) Z (Pk hg65 Z (U 1 Z (If h64 (fun hg68 h64 => ?_) (fun hg68 h64 => ?_)))))
    ·refine Sg (gT hg68) Z (Sg (gT hg68) Z (Sg (gT hg68) Z (If h64 (fun hg69 h64 => ?_) (fun hg69 h64 => ?_))))
     ·refine KF hg69 Z (KF hg69 Z (Pkg (gT hg68) hg69 Z (Pk hg68 Z (U 4 Z (WO.nil ?_)))))
      obtain rfl := Oi h64
      exact cutN (Lr [])
     ·refine Sg (gT hg69) Z (Sg (gT hg69) Z (Pkg (gT hg68) hg69 Z (Pk hg68 Z (U 1 Z (If h64 (fun hg70 h64 => ?_) (fun hg70 h64 => ?_))))))
      ·refine Sg (gT hg70) Z (Sg (gT hg70) Z (Pk hg70 Z (WO.nil ?_)))
       obtain rfl := Oi h64
       exact cutN (Lr [])
      ·refine KF hg70 Z (KF hg70 Z (Pk hg70 Z (WO.nil ?_)))
       obtain rfl := Oi h64
       exact cutN (Lr [])
    ·refine KF hg68 Z (KF hg68 Z (KF hg68 Z (U 2 Z (KF hg68 Z (Pk hg68 Z (U 4 Z (WO.nil ?_)))))))
     obtain rfl := Oi h64
     exact cutN (Lr [])
  refine Qf (TC.le hle (Cn Z h54 (fun hc71 h54 => ?_) (fun hc71 h54 => ?_)))
  ·refine Rg (U 1 Z (Nx (TC.ret (Qm (Ql (QV h54 ?_))))))
   obtain rfl := hb51 _ (Oi h54).symm
   refine Qm (QF (Ql ?_))
   obtain rfl := Oi h
   exact R1 2 Z (Lr [])
  exact TC.skip (QD (Qf (TC.region (U 2 Z (WO.nil (Qu h54 (Lr [])))))))
 subst hbe
 refine Qf (TC.le hle (Rg (U 1 Z (Bd h fun r72 hr72 h => Pc [] Z (OpC.fn call151 Z Z Z) (k_cm _ _ _ hr72) Z (U 2 Z (Nx (TC.ret ?_)))))))
 obtain rfl := Oi h
 exact R1 2 Z (Lr [])
def F_cs (n : Nat) (a1 : Mat) : Option Unit :=
  some ()
theorem k_cs (n : Nat) (a1 : Mat) (r : Unit) (h : F_cs n a1 = some r) :
    C prog 90 [.agg (Mat.c a1)] [] (fun a H => a = .str a1.Name ∧ H = []) := by
 refine Qd func90 Z Z Z ?_
 refine Rg (U 1 Z ?_)
 refine vX (.str []) (OpV.assign Z Z ) ?_
 refine Nx (Rg (U 3 Z (Nx (TC.ret ?_))))
 obtain rfl := Oi h
 exact R1 2 Z (Lr [])
def F_gc (n : Nat) (a1 : List Mat) (s31 : (List (List UInt8 × Bool)) × Int) : Option (Ctl ((List (List UInt8 × Bool)) × Int) (Ctl Unit Bool)) :=
  (bif decide (s31.2 < (a1.length : Int)) then (idx a1 s31.2).bind fun x35 => (F_cs n x35).bind fun r36 => ((F_d n x35.Name).bind fun r42 => (bif (!r42) then some true else (some (mgetD s31.1 x35.Name false)).bind fun v44 => some v44) : Option Bool).bind fun b40 => (bif b40 then some (.done (.done false)) else (some (mset s31.1 x35.Name true)).bind fun m46 => some (.cont (m46, IntKind.i64.wrap (s31.2 + 1)))) else some (.done (.cont ())))
def F_bc (n : Nat) (a1 : List Mat) : Option Bool :=
  (iter (F_gc n a1) n ([], 0) : Option (Ctl Unit Bool)).bind fun b28 => match b28 with | .cont sb28 => (some true) | .done sb28 => some sb28
theorem k_bc (n : Nat) (a1 : List Mat) (r : Bool) (h : F_bc n a1 = some r) :
    C prog 89 [.rsl 2 (List.map Mat.c a1), .fn (.func 90) [] []] [] (fun a H => a = .bool r ∧ H = []) := by
 refine Qd func89 Z Z Z ?_
 refine Rg (U 1 Z (Nx (Rg ?_)))
 refine vH QT ?_
 refine FE Z (U 1 Z (Nx (TC.seq (Rg (U 1 Z (LnM runUnderlying22 Z (U 1 Z (Nx (Bd h fun b28 h29 h => ?_)))))))))
 refine Qy (b := b28) (fun sb28 => []) (fun sb28 => []) ?_ (fun sb28 env H hbe hle => ?_)
 ·refine TC.block ?_
  refine TC.loop (E := fun s31 => [(1, .fn (.func 90) [] []), (5, .map 0), (10, .rsl 2 (List.map Mat.c a1)), (11, I (a1.length : Int)), (12, I s31.2)]) (Hp := fun s31 => [.map (menc A.str A.bool s31.1)]) h29 ?_ ?_
  ·exact Lr [0]
  intro s31 d32 h33 hb30
  refine Rg (U 1 Z (Nx (TC.seq (CnS Z h33 (fun hc34 h33 => ?_) (fun hc34 h33 => ?_)))))
  ·refine ExX (Qz h33 ?_)
   obtain rfl := hb30 _ (Oi h33).symm
   exact QQ (Qx Z (Lr []))
  refine QU (TC.seq (TC.block (Rg (Bd h33 fun x35 hx35 h33 => Ix hx35 runUnderlying22 sizeOf96 Z (U 3 Z (Nx (Rg (U 2 Z (Bd h33 fun r36 hr36 h33 => Pc [] Z (Qj call90 Z Z Z Z) (k_cs _ _ _ hr36) Z (U 1 Z (Nx (TC.seq (TC.seq (Bd h33 fun b40 h41 h33 => ?_))))))))))))))
  refine TC.cut ([(1, .fn (.func 90) [] []), (5, .map 0), (8, .str x35.Name), (10, .rsl 2 (List.map Mat.c a1)), (11, I (a1.length : Int)), (12, I s31.2), (26, .bool b40)]) ([.map (menc A.str A.bool s31.1)]) ?_ (fun env H hle => ?_)
  ·refine TC.region (U 1 Z (Bd h41 fun r42 hr42 h41 => Pc [] Z (OpC.fn call88 Z Z Z) (k_d _ _ _ hr42) Z (U 2 Z (If h41 (fun hg43 h41 => ?_) (fun hg43 h41 => ?_)))))
   ·refine KF hg43 Z (KF hg43 Z (KF hg43 Z (Pk hg43 Z (WO.nil ?_))))
    obtain rfl := Oi h41
    exact cutN (Lr [0])
   ·refine Sg (gT hg43) Z (Sg (gT hg43) Z (Bd h41 fun v44 hv44 h41 => ?_))
    refine vX (.bool v44) (Q6 (ev := A.bool) (z0 := false) (k := x35.Name) (l := s31.1) Qbx hv44 underlying251 zeroValue4 ZR.bool) ?_ (gT hg43)
    refine Pk hg43 Z (WO.nil ?_)
    obtain rfl := Oi h41
    exact cutN (Lr [0])
  refine Qf (TC.le hle (Cn Z h33 (fun hc45 h33 => ?_) (fun hc45 h33 => ?_)))
  ·refine Rg (U 1 Z (Nx (RtR (Qm (Ql (QV h33 ?_))))))
   obtain rfl := hb30 _ (Oi h33).symm
   refine Qm (QF (Ql ?_))
   obtain rfl := Oi h
   exact R1 4 Z (Lr [])
  refine QU (TC.region (U 2 Z (Bd h33 fun m46 hm46 h33 => ?_)))
  refine vU (Q8 (ev := A.bool) (k := x35.Name) (v := true) (l := s31.1) Qbx hm46 Z underlying251) ?_
  exact FE Z (WO.nil (QD (Qf (TC.region (U 2 Z (WO.nil (Qu h33 (Lr [0]))))))))
 subst hbe
 refine Qf (TC.le hle (Rg (U 1 Z (Nx (TC.ret ?_)))))
 obtain rfl := Oi h
 exact R1 4 Z (Lr [])
def F_cz (n : Nat) (a1 : Distance) : Option Unit :=
  some ()
theorem k_cz (n : Nat) (a1 : Distance) (r : Unit) (h : F_cz n a1 = some r) :
    C prog 92 [.agg (Distance.c a1)] [] (fun a H => a = .str a1.Name ∧ H = []) := by
 refine Qd func92 Z Z Z ?_
 refine Rg (U 1 Z ?_)
 refine vX (.str []) (OpV.assign Z Z ) ?_
 refine Nx (Rg (U 3 Z (Nx (TC.ret ?_))))
 obtain rfl := Oi h
 exact R1 2 Z (Lr [])
def F_ga (n : Nat) (a1 : List Distance) (s31 : (List (List UInt8 × Bool)) × Int) : Option (Ctl ((List (List UInt8 × Bool)) × Int) (Ctl Unit Bool)) :=
  (bif decide (s31.2 < (a1.length : Int)) then (idx a1 s31.2).bind fun x35 => (F_cz n x35).bind fun r36 => ((F_d n x35.Name).bind fun r42 => (bif (!r42) then some true else (some (mgetD s31.1 x35.Name false)).bind fun v44 => some v44) : Option Bool).bind fun b40 => (bif b40 then some (.done (.done false)) else (some (mset s31.1 x35.Name true)).bind fun m46 => some (.cont (m46, IntKind.i64.wrap (s31.2 + 1)))) else some (.done (.cont ())))
def F_cj (n : Nat) (a1 : List Distance) : Option Bool :=
  (iter (F_ga n a1) n ([], 0) : Option (Ctl Unit Bool)).bind fun b28 => match b28 with | .cont sb28 => (some true) | .done sb28 => some sb28
theorem k_cj (n : Nat) (a1 : List Distance) (r : Bool) (h : F_cj n a1 = some r) :
    C prog 91 [.rsl 5 (List.map Distance.c a1), .fn (.func 92) [] []] [] (fun a H => a = .bool r ∧ H = []) := by
 refine Qd func91 Z Z Z ?_
 refine Rg (U 1 Z (Nx (Rg ?_)))
 refine vH QT ?_
 refine FE Z (U 1 Z (Nx (TC.seq (Rg (U 1 Z (LnM runUnderlying24 Z (U 1 Z (Nx (Bd h fun b28 h29 h => ?_)))))))))
 refine Qy (b := b28) (fun sb28 => []) (fun sb28 => []) ?_ (fun sb28 env H hbe hle => ?_)
 ·refine TC.block ?_
  refine TC.loop (E := fun s31 => [(1, .fn (.func 92) [] []), (5, .map 0), (10, .rsl 5 (List.map Distance.c a1)), (11, I (a1.length : Int)), (12, I s31.2)]) (Hp := fun s31 => [.map (menc A.str A.bool s31.1)]) h29 ?_ ?_
  ·exact Lr [0]
  intro s31 d32 h33 hb30
  refine Rg (U 1 Z (Nx (TC.seq (CnS Z h33 (fun hc34 h33 => ?_) (fun hc34 h33 => ?_)))))
  ·refine ExX (Qz h33 ?_)
   obtain rfl := hb30 _ (Oi h33).symm
   exact QQ (Qx Z (Lr []))
  refine QU (TC.seq (TC.block (Rg (Bd h33 fun x35 hx35 h33 => Ix hx35 runUnderlying24 sizeOf94 Z (U 3 Z (Nx (Rg (U 2 Z (Bd h33 fun r36 hr36 h33 => Pc [] Z (Qj call92 Z Z Z Z) (k_cz _ _ _ hr36) Z (U 1 Z (Nx (TC.seq (TC.seq (Bd h33 fun b40 h41 h33 => ?_))))))))))))))
  refine TC.cut ([(1, .fn (.func 92) [] []), (5, .map 0), (8, .str x35.Name), (10, .rsl 5 (List.map Distance.c a1)), (11, I (a1.length : Int)), (12, I s31.2), (26, .bool b40)]) ([.map (menc A.str A.bool s31.1)]) ?_ (fun env H hle => ?_)
  ·refine TC.region (U 1 Z (Bd h41 fun r42 hr42 h41 => Pc [] Z (OpC.fn call88 Z Z Z) (k_d _ _ _ hr42) Z (U 2 Z (If h41 (fun hg43 h41 => ?_) (fun hg43 h41 => ?_)))))
   ·refine KF hg43 Z (KF hg43 Z (KF hg43 Z (Pk hg43 Z (WO.nil ?_))))
    obtain rfl := Oi h41
    exact cutN (Lr [0])
   ·refine Sg (gT hg43) Z (Sg (gT hg43) Z (Bd h41 fun v44 hv44 h41 => ?_))
    refine vX (.bool v44) (Q6 (ev := A.bool) (z0 := false) (k := x35.Name) (l := s31.1) Qbx hv44 underlying251 zeroValue4 ZR.bool) ?_ (gT hg43)
    refine Pk hg43 Z (WO.nil ?_)
    obtain rfl := Oi h41
    exact cutN (Lr [0])
  refine Qf (TC.le hle (Cn Z h33 (fun hc45 h33 => ?_) (fun hc45 h33 => ?_)))
  ·refine Rg (U 1 Z (Nx (RtR (Qm (Ql (QV h33 ?_))))))
   obtain rfl := hb30 _ (Oi h33).symm
   refine Qm (QF (Ql ?_))
   obtain rfl := Oi h
   exact R1 4 Z (Lr [])
  refine QU (TC.region (U 2 Z (Bd h33 fun m46 hm46 h33 => ?_)))
  refine vU (Q8 (ev := A.bool) (k := x35.Name) (v := true) (l := s31.1) Qbx hm46 Z underlying251) ?_
  exact FE Z (WO.nil (QD (Qf (TC.region (U 2 Z (WO.nil (Qu h33 (Lr [0]))))))))
 subst hbe
 refine Qf (TC.le hle (Rg (U 1 Z (Nx (TC.ret ?_)))))
 obtain rfl := Oi h
 exact R1 4 Z (Lr [])
def F_fb (n : Nat) (a1 : Wave) : Option Unit :=
  some ()
theorem k_fb (n : Nat) (a1 : Wave) (r : Unit) (h : F_fb n a1 = some r) :
    C prog 94 [.agg (Wave.c a1)] [] (fun a H => a = .str a1.Name ∧ H = []) := by
 refine Qd func94 Z Z Z ?_
 refine Rg (U 1 Z ?_)
 refine vX (.str []) (OpV.assign Z Z ) ?_
 refine Nx (Rg (U 3 Z (Nx (TC.ret ?_))))
 obtain rfl := Oi h
 exact R1 2 Z (Lr [])
def F_ge (n : Nat) (a1 : List Wave) (s31 : (List (List UInt8 × Bool)) × Int) : Option (Ctl ((List (List UInt8 × Bool)) × Int) (Ctl Unit Bool)) :=
  (bif decide (s31.2 < (a1.length : Int)) then (idx a1 s31.2).bind fun x35 => (F_fb n x35).bind fun r36 => ((F_d n x35.Name).bind fun r42 => (bif (!r42) then some true else (some (mgetD s31.1 x35.Name false)).bind fun v44 => some v44) : Option Bool).bind fun b40 => (bif b40 then some (.done (.done false)) else (some (mset s31.1 x35.Name true)).bind fun m46 => some (.cont (m46, IntKind.i64.wrap (s31.2 + 1)))) else some (.done (.cont ())))
def F_aw (n : Nat) (a1 : List Wave) : Option Bool :=
  (iter (F_ge n a1) n ([], 0) : Option (Ctl Unit Bool)).bind fun b28 => match b28 with | .cont sb28 => (some true) | .done sb28 => some sb28
theorem k_aw (n : Nat) (a1 : List Wave) (r : Bool) (h : F_aw n a1 = some r) :
    C prog 93 [.rsl 2 (List.map Wave.c a1), .fn (.func 94) [] []] [] (fun a H => a = .bool r ∧ H = []) := by
 refine Qd func93 Z Z Z ?_
 refine Rg (U 1 Z (Nx (Rg ?_)))
 refine vH QT ?_
 refine FE Z (U 1 Z (Nx (TC.seq (Rg (U 1 Z (LnM runUnderlying25 Z (U 1 Z (Nx (Bd h fun b28 h29 h => ?_)))))))))
 refine Qy (b := b28) (fun sb28 => []) (fun sb28 => []) ?_ (fun sb28 env H hbe hle => ?_)
 ·refine TC.block ?_
  refine TC.loop (E := fun s31 => [(1, .fn (.func 94) [] []), (5, .map 0), (10, .rsl 2 (List.map Wave.c a1)), (11, I (a1.length : Int)), (12, I s31.2)]) (Hp := fun s31 => [.map (menc A.str A.bool s31.1)]) h29 ?_ ?_
  ·exact Lr [0]
  intro s31 d32 h33 hb30
  refine Rg (U 1 Z (Nx (TC.seq (CnS Z h33 (fun hc34 h33 => ?_) (fun hc34 h33 => ?_)))))
  ·refine ExX (Qz h33 ?_)
   obtain rfl := hb30 _ (Oi h33).symm
   exact QQ (Qx Z (Lr []))
  refine QU (TC.seq (TC.block (Rg (Bd h33 fun x35 hx35 h33 => Ix hx35 runUnderlying25 sizeOf127 Z (U 3 Z (Nx (Rg (U 2 Z (Bd h33 fun r36 hr36 h33 => Pc [] Z (Qj call94 Z Z Z Z) (k_fb _ _ _ hr36) Z (U 1 Z (Nx (TC.seq (TC.seq (Bd h33 fun b40 h41 h33 => ?_))))))))))))))
  refine TC.cut ([(1, .fn (.func 94) [] []), (5, .map 0), (8, .str x35.Name), (10, .rsl 2 (List.map Wave.c a1)), (11, I (a1.length : Int)), (12, I s31.2), (26, .bool b40)]) ([.map (menc A.str A.bool s31.1)]) ?_ (fun env H hle => ?_)
  ·refine TC.region (U 1 Z (Bd h41 fun r42 hr42 h41 => Pc [] Z (OpC.fn call88 Z Z Z) (k_d _ _ _ hr42) Z (U 2 Z (If h41 (fun hg43 h41 => ?_) (fun hg43 h41 => ?_)))))
   ·refine KF hg43 Z (KF hg43 Z (KF hg43 Z (Pk hg43 Z (WO.nil ?_))))
    obtain rfl := Oi h41
    exact cutN (Lr [0])
   ·refine Sg (gT hg43) Z (Sg (gT hg43) Z (Bd h41 fun v44 hv44 h41 => ?_))
    refine vX (.bool v44) (Q6 (ev := A.bool) (z0 := false) (k := x35.Name) (l := s31.1) Qbx hv44 underlying251 zeroValue4 ZR.bool) ?_ (gT hg43)
    refine Pk hg43 Z (WO.nil ?_)
    obtain rfl := Oi h41
    exact cutN (Lr [0])
  refine Qf (TC.le hle (Cn Z h33 (fun hc45 h33 => ?_) (fun hc45 h33 => ?_)))
  ·refine Rg (U 1 Z (Nx (RtR (Qm (Ql (QV h33 ?_))))))
   obtain rfl := hb30 _ (Oi h33).symm
   refine Qm (QF (Ql ?_))
   obtain rfl := Oi h
   exact R1 4 Z (Lr [])
  refine QU (TC.region (U 2 Z (Bd h33 fun m46 hm46 h33 => ?_)))
  refine vU (Q8 (ev := A.bool) (k := x35.Name) (v := true) (l := s31.1) Qbx hm46 Z underlying251) ?_
  exact FE Z (WO.nil (QD (Qf (TC.region (U 2 Z (WO.nil (Qu h33 (Lr [0]))))))))
 subst hbe
 refine Qf (TC.le hle (Rg (U 1 Z (Nx (TC.ret ?_)))))
 obtain rfl := Oi h
 exact R1 4 Z (Lr [])
def F_df (n : Nat) (a1 : Offence) : Option Unit :=
  some ()
theorem k_df (n : Nat) (a1 : Offence) (r : Unit) (h : F_df n a1 = some r) :
    C prog 96 [.agg (Offence.c a1)] [] (fun a H => a = .str a1.Name ∧ H = []) := by
 refine Qd func96 Z Z Z ?_
 refine Rg (U 1 Z ?_)
 refine vX (.str []) (OpV.assign Z Z ) ?_
 refine Nx (Rg (U 3 Z (Nx (TC.ret ?_))))
 obtain rfl := Oi h
 exact R1 2 Z (Lr [])
def F_gn (n : Nat) (a1 : List Offence) (s31 : (List (List UInt8 × Bool)) × Int) : Option (Ctl ((List (List UInt8 × Bool)) × Int) (Ctl Unit Bool)) :=
  (bif decide (s31.2 < (a1.length : Int)) then (idx a1 s31.2).bind fun x35 => (F_df n x35).bind fun r36 => ((F_d n x35.Name).bind fun r42 => (bif (!r42) then some true else (some (mgetD s31.1 x35.Name false)).bind fun v44 => some v44) : Option Bool).bind fun b40 => (bif b40 then some (.done (.done false)) else (some (mset s31.1 x35.Name true)).bind fun m46 => some (.cont (m46, IntKind.i64.wrap (s31.2 + 1)))) else some (.done (.cont ())))
def F_ar (n : Nat) (a1 : List Offence) : Option Bool :=
  (iter (F_gn n a1) n ([], 0) : Option (Ctl Unit Bool)).bind fun b28 => match b28 with | .cont sb28 => (some true) | .done sb28 => some sb28
theorem k_ar (n : Nat) (a1 : List Offence) (r : Bool) (h : F_ar n a1 = some r) :
    C prog 95 [.rsl 4 (List.map Offence.c a1), .fn (.func 96) [] []] [] (fun a H => a = .bool r ∧ H = []) := by
 refine Qd func95 Z Z Z ?_
 refine Rg (U 1 Z (Nx (Rg ?_)))
 refine vH QT ?_
 refine FE Z (U 1 Z (Nx (TC.seq (Rg (U 1 Z (LnM runUnderlying26 Z (U 1 Z (Nx (Bd h fun b28 h29 h => ?_)))))))))
 refine Qy (b := b28) (fun sb28 => []) (fun sb28 => []) ?_ (fun sb28 env H hbe hle => ?_)
 ·refine TC.block ?_
  refine TC.loop (E := fun s31 => [(1, .fn (.func 96) [] []), (5, .map 0), (10, .rsl 4 (List.map Offence.c a1)), (11, I (a1.length : Int)), (12, I s31.2)]) (Hp := fun s31 => [.map (menc A.str A.bool s31.1)]) h29 ?_ ?_
  ·exact Lr [0]
  intro s31 d32 h33 hb30
  refine Rg (U 1 Z (Nx (TC.seq (CnS Z h33 (fun hc34 h33 => ?_) (fun hc34 h33 => ?_)))))
  ·refine ExX (Qz h33 ?_)
   obtain rfl := hb30 _ (Oi h33).symm
   exact QQ (Qx Z (Lr []))
  refine QU (TC.seq (TC.block (Rg (Bd h33 fun x35 hx35 h33 => Ix hx35 runUnderlying26 sizeOf152 Z (U 3 Z (Nx (Rg (U 2 Z (Bd h33 fun r36 hr36 h33 => Pc [] Z (Qj call96 Z Z Z Z) (k_df _ _ _ hr36) Z (U 1 Z (Nx (TC.seq (TC.seq (Bd h33 fun b40 h41 h33 => ?_))))))))))))))
  refine TC.cut ([(1, .fn (.func 96) [] []), (5, .map 0), (8, .str x35.Name), (10, .rsl 4 (List.map Offence.c a1)), (11, I (a1.length : Int)), (12, I s31.2), (26, .bool b40)]) ([.map (menc A.str A.bool s31.1)]) ?_ (fun env H hle => ?_)
  ·refine TC.region (U 1 Z (Bd h41 fun r42 hr42 h41 => Pc [] Z (OpC.fn call88 Z Z Z) (k_d _ _ _ hr42) Z (U 2 Z (If h41 (fun hg43 h41 => ?_) (fun hg43 h41 => ?_)))))
   ·refine KF hg43 Z (KF hg43 Z (KF hg43 Z (Pk hg43 Z (WO.nil ?_))))
    obtain rfl := Oi h41
    exact cutN (Lr [0])
   ·refine Sg (gT hg43) Z (Sg (gT hg43) Z (Bd h41 fun v44 hv44 h41 => ?_))
    refine vX (.bool v44) (Q6 (ev := A.bool) (z0 := false) (k := x35.Name) (l := s31.1) Qbx hv44 underlying251 zeroValue4 ZR.bool) ?_ (gT hg43)
    refine Pk hg43 Z (WO.nil ?_)
    obtain rfl := Oi h41
    exact cutN (Lr [0])
  refine Qf (TC.le hle (Cn Z h33 (fun hc45 h33 => ?_) (fun hc45 h33 => ?_)))
  ·refine Rg (U 1 Z (Nx (RtR (Qm (Ql (QV h33 ?_))))))
   obtain rfl := hb30 _ (Oi h33).symm
   refine Qm (QF (Ql ?_))
   obtain rfl := Oi h
   exact R1 4 Z (Lr [])
  refine QU (TC.region (U 2 Z (Bd h33 fun m46 hm46 h33 => ?_)))
  refine vU (Q8 (ev := A.bool) (k := x35.Name) (v := true) (l := s31.1) Qbx hm46 Z underlying251) ?_
  exact FE Z (WO.nil (QD (Qf (TC.region (U 2 Z (WO.nil (Qu h33 (Lr [0]))))))))
 subst hbe
 refine Qf (TC.le hle (Rg (U 1 Z (Nx (TC.ret ?_)))))
 obtain rfl := Oi h
 exact R1 4 Z (Lr [])
def F_eu (n : Nat) (a1 : Category) : Option Unit :=
  some ()
theorem k_eu (n : Nat) (a1 : Category) (r : Unit) (h : F_eu n a1 = some r) :
    C prog 98 [.agg (Category.c a1)] [] (fun a H => a = .str a1.Name ∧ H = []) := by
 refine Qd func98 Z Z Z ?_
 refine Rg (U 1 Z ?_)
 refine vX (.str []) (OpV.assign Z Z ) ?_
 refine Nx (Rg (U 3 Z (Nx (TC.ret ?_))))
 obtain rfl := Oi h
 exact R1 2 Z (Lr [])
def F_gr (n : Nat) (a1 : List Category) (s31 : (List (List UInt8 × Bool)) × Int) : Option (Ctl ((List (List UInt8 × Bool)) × Int) (Ctl Unit Bool)) :=
  (bif decide (s31.2 < (a1.length : Int)) then (idx a1 s31.2).bind fun x35 => (F_eu n x35).bind fun r36 => ((F_d n x35.Name).bind fun r42 => (bif (!r42) then some true else (some (mgetD s31.1 x35.Name false)).bind fun v44 => some v44) : Option Bool).bind fun b40 => (bif b40 then some (.done (.done false)) else (some (mset s31.1 x35.Name true)).bind fun m46 => some (.cont (m46, IntKind.i64.wrap (s31.2 + 1)))) else some (.done (.cont ())))
def F_au (n : Nat) (a1 : List Category) : Option Bool :=
  (iter (F_gr n a1) n ([], 0) : Option (Ctl Unit Bool)).bind fun b28 => match b28 with | .cont sb28 => (some true) | .done sb28 => some sb28
theorem k_au (n : Nat) (a1 : List Category) (r : Bool) (h : F_au n a1 = some r) :
    C prog 97 [.rsl 3 (List.map Category.c a1), .fn (.func 98) [] []] [] (fun a H => a = .bool r ∧ H = []) := by
 refine Qd func97 Z Z Z ?_
 refine Rg (U 1 Z (Nx (Rg ?_)))
 refine vH QT ?_
 refine FE Z (U 1 Z (Nx (TC.seq (Rg (U 1 Z (LnM runUnderlying27 Z (U 1 Z (Nx (Bd h fun b28 h29 h => ?_)))))))))
 refine Qy (b := b28) (fun sb28 => []) (fun sb28 => []) ?_ (fun sb28 env H hbe hle => ?_)
 ·refine TC.block ?_
  refine TC.loop (E := fun s31 => [(1, .fn (.func 98) [] []), (5, .map 0), (10, .rsl 3 (List.map Category.c a1)), (11, I (a1.length : Int)), (12, I s31.2)]) (Hp := fun s31 => [.map (menc A.str A.bool s31.1)]) h29 ?_ ?_
  ·exact Lr [0]
  intro s31 d32 h33 hb30
  refine Rg (U 1 Z (Nx (TC.seq (CnS Z h33 (fun hc34 h33 => ?_) (fun hc34 h33 => ?_)))))
  ·refine ExX (Qz h33 ?_)
   obtain rfl := hb30 _ (Oi h33).symm
   exact QQ (Qx Z (Lr []))
  refine QU (TC.seq (TC.block (Rg (Bd h33 fun x35 hx35 h33 => Ix hx35 runUnderlying27 sizeOf154 Z (U 3 Z (Nx (Rg (U 2 Z (Bd h33 fun r36 hr36 h33 => Pc [] Z (Qj call98 Z Z Z Z) (k_eu _ _ _ hr36) Z (U 1 Z (Nx (TC.seq (TC.seq (Bd h33 fun b40 h41 h33 => ?_))))))))))))))
  refine TC.cut ([(1, .fn (.func 98) [] []), (5, .map 0), (8, .str x35.Name), (10, .rsl 3 (List.map Category.c a1)), (11, I (a1.length : Int)), (12, I s31.2), (26, .bool b40)]) ([.map (menc A.str A.bool s31.1)]) ?_ (fun env H hle => ?_)
  ·refine TC.region (U 1 Z (Bd h41 fun r42 hr42 h41 => Pc [] Z (OpC.fn call88 Z Z Z) (k_d _ _ _ hr42) Z (U 2 Z (If h41 (fun hg43 h41 => ?_) (fun hg43 h41 => ?_)))))
   ·refine KF hg43 Z (KF hg43 Z (KF hg43 Z (Pk hg43 Z (WO.nil ?_))))
    obtain rfl := Oi h41
    exact cutN (Lr [0])
   ·refine Sg (gT hg43) Z (Sg (gT hg43) Z (Bd h41 fun v44 hv44 h41 => ?_))
    refine vX (.bool v44) (Q6 (ev := A.bool) (z0 := false) (k := x35.Name) (l := s31.1) Qbx hv44 underlying251 zeroValue4 ZR.bool) ?_ (gT hg43)
    refine Pk hg43 Z (WO.nil ?_)
    obtain rfl := Oi h41
    exact cutN (Lr [0])
  refine Qf (TC.le hle (Cn Z h33 (fun hc45 h33 => ?_) (fun hc45 h33 => ?_)))
  ·refine Rg (U 1 Z (Nx (RtR (Qm (Ql (QV h33 ?_))))))
   obtain rfl := hb30 _ (Oi h33).symm
   refine Qm (QF (Ql ?_))
   obtain rfl := Oi h
   exact R1 4 Z (Lr [])
  refine QU (TC.region (U 2 Z (Bd h33 fun m46 hm46 h33 => ?_)))
  refine vU (Q8 (ev := A.bool) (k := x35.Name) (v := true) (l := s31.1) Qbx hm46 Z underlying251) ?_
  exact FE Z (WO.nil (QD (Qf (TC.region (U 2 Z (WO.nil (Qu h33 (Lr [0]))))))))
 subst hbe
 refine Qf (TC.le hle (Rg (U 1 Z (Nx (TC.ret ?_)))))
 obtain rfl := Oi h
 exact R1 4 Z (Lr [])
def F_bh (n : Nat) (a1 : Course) : Option Bool :=
  ((F_d n a1.Name).bind fun r14 => (bif r14 then (F_bc n a1.Mats).bind fun r16 => (bif r16 then (F_cj n a1.Distances).bind fun r18 => (bif r18 then (F_aw n a1.Waves).bind fun r20 => (bif r20 then (F_ar n a1.Offences).bind fun r22 => (bif r22 then (F_au n a1.Categories).bind fun r24 => some r24 else some false) else some false) else some false) else some false) else some false) : Option Bool).bind fun b12 => some b12
theorem k_bh (n : Nat) (a1 : Course) (r : Bool) (h : F_bh n a1 = some r) :
    C prog 54 [.agg (Course.c a1)] [] (fun a H => a = .bool r ∧ H = []) := by
 refine Qd func54 Z Z Z ?_
 refine Rg (U 2 Z (Nx (TC.seq (Bd h fun b12 h13 h => ?_))))
 refine TC.cut ([(2, .bool b12)]) ([]) ?_ (fun env H hle => ?_)
 ·refine TC.region (U 2 Z (Bd h13 fun r14 hr14 h13 => Pc [] Z (OpC.fn call88 Z Z Z) (k_d _ _ _ hr14) Z (U 1 Z (If h13 (fun hg15 h13 => ?_) (fun hg15 h13 => ?_)))))
  ·refine QG (gT hg15) QeB Z (QO (gT hg15) isAgg22 Z (Bd h13 fun r16 hr16 h13 => Pc [] Z (OpC.fn call89 Z Z Z) (k_bc _ _ _ hr16) (hg := (gT hg15)) Z (Pk hg15 Z (U 1 Z (If h13 (fun hg17 h13 => ?_) (fun hg17 h13 => ?_))))))
   ·refine QG (gT hg17) QaF Z (QO (gT hg17) isAgg24 Z (Bd h13 fun r18 hr18 h13 => Pc [] Z (OpC.fn call91 Z Z Z) (k_cj _ _ _ hr18) (hg := (gT hg17)) Z (Pk hg17 Z (U 1 Z (If h13 (fun hg19 h13 => ?_) (fun hg19 h13 => ?_))))))
    ·refine QG (gT hg19) QbW Z (QO (gT hg19) isAgg25 Z (Bd h13 fun r20 hr20 h13 => Pc [] Z (OpC.fn call93 Z Z Z) (k_aw _ _ _ hr20) (hg := (gT hg19)) Z (Pk hg19 Z (U 1 Z (If h13 (fun hg21 h13 => ?_) (fun hg21 h13 => ?_))))))
     ·refine QG (gT hg21) QcW Z (QO (gT hg21) isAgg26 Z (Bd h13 fun r22 hr22 h13 => Pc [] Z (OpC.fn call95 Z Z Z) (k_ar _ _ _ hr22) (hg := (gT hg21)) Z (Pk hg21 Z (U 1 Z (If h13 (fun hg23 h13 => ?_) (fun hg23 h13 => ?_))))))
      ·refine QG (gT hg23) QbV Z (QO (gT hg23) isAgg27 Z (Bd h13 fun r24 hr24 h13 => Pc [] Z (OpC.fn call97 Z Z Z) (k_au _ _ _ hr24) (hg := (gT hg23)) Z (Pk hg23 Z (U 1 Z (WO.nil ?_)))))
       obtain rfl := Oi h13
       exact cutN (Lr [])
      ·refine KF hg23 Z (KF hg23 Z (KF hg23 Z (Pk hg23 Z (U 1 Z (WO.nil ?_)))))
       obtain rfl := Oi h13
       exact cutN (Lr [])
     ·refine KF hg21 Z (KF hg21 Z (KF hg21 Z (Pk hg21 Z (U 6 Z (WO.nil ?_)))))
      obtain rfl := Oi h13
      exact cutN (Lr [])
    ·refine KF hg19 Z (KF hg19 Z (KF hg19 Z (Pk hg19 Z (U 11 Z (WO.nil ?_)))))
     obtain rfl := Oi h13
     exact cutN (Lr [])
   ·refine KF hg17 Z (KF hg17 Z (KF hg17 Z (Pk hg17 Z (U 16 Z (WO.nil ?_)))))
    obtain rfl := Oi h13
    exact cutN (Lr [])
  ·refine KF hg15 Z (KF hg15 Z (KF hg15 Z (Pk hg15 Z (U 21 Z (WO.nil ?_)))))
   obtain rfl := Oi h13
   exact cutN (Lr [])
 refine Qf (TC.le hle (TC.ret ?_))
 obtain rfl := Oi h
 exact R1 2 Z (Lr [])
def F_an (n : Nat) (a1 : Int) (a2 : Int) (a3 : Int) : Option Bool :=
  ((bif decide (a1 < a2) then some true else some (decide (a3 < a1))) : Option Bool).bind fun b2 => some b2
theorem k_an (n : Nat) (a1 : Int) (a2 : Int) (a3 : Int) (r : Bool) (h : F_an n a1 a2 a3 = some r) :
    C prog 153 [I a1, .ptr 0 0, .ptr 1 0] [.cells 3 [I a2], .cells 3 [I a3]] (fun a H => a = .bool r ∧ H = [.cells 3 [I a2], .cells 3 [I a3]]) := by
 refine Qd func153 Z Z Z ?_
 refine Rg (U 1 Z (Nx (TC.seq (Bd h fun b2 h3 h => ?_))))
 refine TC.cut ([(4, .bool b2)]) ([.cells 3 [I a2], .cells 3 [I a3]]) ?_ (fun env H hle => ?_)
 ·refine TC.region (U 4 Z (If h3 (fun hg4 h3 => ?_) (fun hg4 h3 => ?_)))
  ·refine KF hg4 Z (KF hg4 Z (KF hg4 Z (Pk hg4 Z (U 1 Z (WO.nil ?_)))))
   obtain rfl := Oi h3
   exact cutN (Lr [0, 1])
  ·refine Sg (gT hg4) Z (QO (gT hg4) isAgg3 Z (Sg (gT hg4) Z (Pk hg4 Z (U 1 Z (WO.nil ?_)))))
   obtain rfl := Oi h3
   exact cutN (Lr [0, 1])
 refine Qf (TC.le hle (TC.ret ?_))
 obtain rfl := Oi h
 exact R1 4 Z (Lr [0, 1])
def F_gt (n : Nat) (a1 : List Int) (a2 : Int) (a3 : Int) (s13 : Int) : Option (Ctl Int (Ctl Unit Int)) :=
  (bif decide (s13 < (a1.length : Int)) then (idx a1 s13).bind fun x17 => (F_an n x17 a2 a3).bind fun r18 => (bif r18 then some (.done (.done s13)) else some (.cont (IntKind.i64.wrap (s13 + 1)))) else some (.done (.cont ())))
def F_er (n : Nat) (a1 : List Int) (a2 : Int) (a3 : Int) : Option Int :=
  (iter (F_gt n a1 a2 a3) n 0 : Option (Ctl Unit Int)).bind fun b10 => match b10 with | .cont sb10 => (some (-1)) | .done sb10 => some sb10
theorem k_er (n : Nat) (a1 : List Int) (a2 : Int) (a3 : Int) (r : Int) (h : F_er n a1 a2 a3 = some r) :
    C prog 208 [.rsl 1 (List.map (encI .i64) a1), .fn (.func 153) [] [.ptr 0 0, .ptr 1 0]] [.cells 3 [I a2], .cells 3 [I a3]] (fun a H => a = I r ∧ H = [.cells 3 [I a2], .cells 3 [I a3]]) :=
 QJ (el := fun x => I x) (g := fun x => F_an n x a2 a3) func208 Z Z Z runUnderlying48 sizeOf3 (fun _ _ _ _ h1 h2 => OpV.load h1 isAgg3 h2 Pts.rp) call153 (fun _ _ h => k_an _ _ _ _ _ h) h
def F_aq (n : Nat) (a1 : List Int) (a2 : Int) (a3 : Int) : Option Bool :=
  (F_er n a1 a2 a3).bind fun r1 => some (decide (0 ≤ r1))
theorem k_aq (n : Nat) (a1 : List Int) (a2 : Int) (a3 : Int) (r : Bool) (h : F_aq n a1 a2 a3 = some r) :
    C prog 152 [.rsl 1 (List.map (encI .i64) a1), .fn (.func 153) [] [.ptr 0 0, .ptr 1 0]] [.cells 3 [I a2], .cells 3 [I a3]] (fun a H => a = .bool r ∧ H = [.cells 3 [I a2], .cells 3 [I a3]]) := by
 refine Qd func152 Z Z Z ?_
 refine Rg (U 1 Z (Nx (Rg (U 2 Z (Bd h fun r1 hr1 h => Pc [0, 1] Z (OpC.fn call208 Z Z Z) (k_er _ _ _ _ _ hr1) Z (U 2 Z (Nx (TC.ret ?_))))))))
 obtain rfl := Oi h
 exact R1 4 Z (Lr [0, 1])
def F_a (n : Nat) (a1 : Int) (a2 : Int) (a3 : List Int) : Option Bool :=
  (F_aq n a3 a1 a2).bind fun r1 => some (!r1)
theorem k_a (n : Nat) (a1 : Int) (a2 : Int) (a3 : List Int) (r : Bool) (h : F_a n a1 a2 a3 = some r) :
    C prog 100 [I a1, I a2, .rsl 1 (List.map (encI .i64) a3)] [] (fun a H => a = .bool r ∧ H = []) := by
 refine Qd func100 Z Z Z ?_
 refine Rg (U 3 Z (Nx (Rg (U 2 Z (Bd h fun r1 hr1 h => Pc [0, 1] Z (OpC.fn call152 Z Z Z) (k_aq _ _ _ _ _ hr1) Z (U 2 Z (Nx (TC.ret ?_))))))))
 obtain rfl := Oi h
 exact R1 6 Z (Lr [])
def F_bj (n : Nat) (a1 : Mat) : Option Bool :=
  (F_a n 1 3 [a1.Kind]).bind fun r1 => some r1
theorem k_bj (n : Nat) (a1 : Mat) (r : Bool) (h : F_bj n a1 = some r) :
    C prog 109 [.agg (Mat.c a1)] [] (fun a H => a = .bool r ∧ H = []) := by
 refine Qd func109 Z Z Z ?_
 refine Rg (U 2 Z (Nx (Rg (U 2 Z ?_))))
 refine vH (OpH.lit (xs := [.tmp 4]) (es := List.map (encI .i64) [a1.Kind]) QK Z Z Z Z Z ⟨Z, trivial⟩ Z Z) ?_
 refine FE Z (Bd h fun r1 hr1 h => ?_)
 refine Qh (OpC.fn call100 rfl rfl rfl) (LookL.cons rfl (.inl ⟨rfl, rfl⟩) (LookL.cons rfl (.inl ⟨rfl, rfl⟩) (LookL.cons rfl (.inr ⟨_, _, _, _, _, rfl, rfl, List.length_map .., rfl⟩) LookL.nil))) (k_a _ _ _ _ _ hr1) (by rintro _ _ ⟨rfl, rfl⟩; rfl) ?_
 rintro _ _ ⟨rfl, rfl⟩
 refine FE Z (U 1 Z (Nx (TC.ret ?_)))
 obtain rfl := Oi h
 exact R1 2 Z (Lr [])
def F_da (n : Nat) (a1 : Mat) : Option Bool :=
  (F_bj n a1).bind fun r1 => some (!r1)
theorem k_da (n : Nat) (a1 : Mat) (r : Bool) (h : F_da n a1 = some r) :
    C prog 159 [.agg (Mat.c a1), .ptr 0 0] [.cells 206 [.fn (.func 109) [] []]] (fun a H => a = .bool r ∧ H = [.cells 206 [.fn (.func 109) [] []]]) := by
 refine Qd func159 Z Z Z ?_
 refine Rg (U 2 Z (Nx (Rg (U 2 Z (Bd h fun r1 hr1 h => Pc [] Z (Qj call109 Z Z Z Z) (k_bj _ _ _ hr1) Z (U 2 Z (Nx (TC.ret ?_))))))))
 obtain rfl := Oi h
 exact R1 3 Z (Lr [0])
def F_gm (n : Nat) (a1 : List Mat) (s13 : Int) : Option (Ctl Int (Ctl Unit Int)) :=
  (bif decide (s13 < (a1.length : Int)) then (idx a1 s13).bind fun x17 => (F_da n x17).bind fun r18 => (bif r18 then some (.done (.done s13)) else some (.cont (IntKind.i64.wrap (s13 + 1)))) else some (.done (.cont ())))
def F_de (n : Nat) (a1 : List Mat) : Option Int :=
  (iter (F_gm n a1) n 0 : Option (Ctl Unit Int)).bind fun b10 => match b10 with | .cont sb10 => (some (-1)) | .done sb10 => some sb10
theorem k_de (n : Nat) (a1 : List Mat) (r : Int) (h : F_de n a1 = some r) :
    C prog 211 [.rsl 2 (List.map Mat.c a1), .fn (.func 159) [] [.ptr 0 0]] [.cells 206 [.fn (.func 109) [] []]] (fun a H => a = I r ∧ H = [.cells 206 [.fn (.func 109) [] []]]) :=
 QJ (el := fun x => .agg (Mat.c x)) (g := fun x => F_da n x) func211 Z Z Z runUnderlying22 sizeOf96 (fun _ _ _ _ h1 h2 => Qi h1 isAgg96 sizeOf96 h2 Pts.rp Z Z) call159 (fun _ _ h => k_da _ _ _ h) h
def F_ea (n : Nat) (a1 : List Mat) : Option Bool :=
  (F_de n a1).bind fun r1 => some (decide (0 ≤ r1))
theorem k_ea (n : Nat) (a1 : List Mat) (r : Bool) (h : F_ea n a1 = some r) :
    C prog 158 [.rsl 2 (List.map Mat.c a1), .fn (.func 159) [] [.ptr 0 0]] [.cells 206 [.fn (.func 109) [] []]] (fun a H => a = .bool r ∧ H = [.cells 206 [.fn (.func 109) [] []]]) := by
 refine Qd func158 Z Z Z ?_
 refine Rg (U 1 Z (Nx (Rg (U 2 Z (Bd h fun r1 hr1 h => Pc [0] Z (OpC.fn call211 Z Z Z) (k_de _ _ _ hr1) Z (U 2 Z (Nx (TC.ret ?_))))))))
 obtain rfl := Oi h
 exact R1 4 Z (Lr [0])
def F_bi (n : Nat) (a1 : List Mat) : Option Bool :=
  (F_ea n a1).bind fun r1 => some (!r1)
theorem k_bi (n : Nat) (a1 : List Mat) (r : Bool) (h : F_bi n a1 = some r) :
    C prog 108 [.rsl 2 (List.map Mat.c a1), .fn (.func 109) [] []] [] (fun a H => a = .bool r ∧ H = []) := by
 refine Qd func108 Z Z Z ?_
 refine Rg (U 2 Z (Nx (Rg (U 2 Z (Bd h fun r1 hr1 h => Pc [0] Z (OpC.fn call158 Z Z Z) (k_ea _ _ _ hr1) Z (U 2 Z (Nx (TC.ret ?_))))))))
 obtain rfl := Oi h
 exact R1 4 Z (Lr [])
def F_cf (n : Nat) (a1 : Leg) (a2 : Int) : Option Bool :=
  ((F_a n 0 a2 [a1.From, a1.To]).bind fun r7 => (bif r7 then (F_a n 0 68719476736 [a1.Min, a1.Max]).bind fun r9 => (bif r9 then some (decide (a1.Min ≤ a1.Max)) else some false) else some false) : Option Bool).bind fun b5 => some b5
theorem k_cf (n : Nat) (a1 : Leg) (a2 : Int) (r : Bool) (h : F_cf n a1 a2 = some r) :
    C prog 105 [.agg (Leg.c a1), .ptr 0 0] [.cells 3 [I a2]] (fun a H => a = .bool r ∧ H = [.cells 3 [I a2]]) := by
 refine Qd func105 Z Z Z ?_
 refine Rg (U 2 Z (Nx (TC.seq (Bd h fun b5 h6 h => ?_))))
 refine TC.cut ([(3, .bool b5)]) ([.cells 3 [I a2]]) ?_ (fun env H hle => ?_)
 ·refine TC.region (U 5 Z ?_)
  refine vH (OpH.lit (xs := [.tmp 6, .tmp 8]) (es := List.map (encI .i64) [a1.From, a1.To]) QK Z Z Z Z Z ⟨Z, Z, trivial⟩ Z Z) ?_
  refine FE Z (Bd h6 fun r7 hr7 h6 => ?_)
  refine Qh (OpC.fn call100 rfl rfl rfl) (LookL.cons rfl (.inl ⟨rfl, rfl⟩) (LookL.cons rfl (.inl ⟨rfl, rfl⟩) (LookL.cons rfl (.inr ⟨_, _, _, _, _, rfl, rfl, List.length_map .., rfl⟩) LookL.nil))) (k_a _ _ _ _ _ hr7) (by rintro _ _ ⟨rfl, rfl⟩; rfl) ?_
  rintro _ _ ⟨rfl, rfl⟩
  refine FE Z (U 1 Z (If h6 (fun hg8 h6 => ?_) (fun hg8 h6 => ?_)))
  ·refine QG (gT hg8) Qfr Z (QO (gT hg8) isAgg3 Z (QG (gT hg8) Qfq Z (QO (gT hg8) isAgg3 Z ?_)))
   refine vH (OpH.lit (xs := [.tmp 13, .tmp 15]) (es := List.map (encI .i64) [a1.Min, a1.Max]) QK Z Z Z Z Z ⟨Z, Z, trivial⟩ Z Z) ?_ (gT hg8)
   refine FE Z (Bd h6 fun r9 hr9 h6 => ?_)
   refine Qh (OpC.fn call100 rfl rfl rfl) (LookL.cons rfl (.inl ⟨rfl, rfl⟩) (LookL.cons rfl (.inl ⟨rfl, rfl⟩) (LookL.cons rfl (.inr ⟨_, _, _, _, _, rfl, rfl, List.length_map .., rfl⟩) LookL.nil))) (k_a _ _ _ _ _ hr9) (by rintro _ _ ⟨rfl, rfl⟩; rfl) ?_ (gT hg8)
   rintro _ _ ⟨rfl, rfl⟩
   refine FE Z (Pk hg8 Z (U 1 Z (If h6 (fun hg10 h6 => ?_) (fun hg10 h6 => ?_))))
   ·refine QG (gT hg10) Qfr Z (QO (gT hg10) isAgg3 Z (QG (gT hg10) Qfq Z (QO (gT hg10) isAgg3 Z (Sg (gT hg10) Z (Pk hg10 Z (U 1 Z (WO.nil ?_)))))))
    obtain rfl := Oi h6
    exact cutN (Lr [0])
   ·refine KF hg10 Z (KF hg10 Z (KF hg10 Z (KF hg10 Z (KF hg10 Z (Pk hg10 Z (U 1 Z (WO.nil ?_)))))))
    obtain rfl := Oi h6
    exact cutN (Lr [0])
  ·refine KF hg8 Z (KF hg8 Z (KF hg8 Z (KF hg8 Z (KF hg8 Z (KF hg8 Z (Pk hg8 Z (U 8 Z (WO.nil ?_))))))))
   obtain rfl := Oi h6
   exact cutN (Lr [0])
 refine Qf (TC.le hle (TC.ret ?_))
 obtain rfl := Oi h
 exact R1 3 Z (Lr [0])
def F_ei (n : Nat) (a1 : Leg) (a2 : Int) : Option Bool :=
  (F_cf n a1 a2).bind fun r1 => some (!r1)
theorem k_ei (n : Nat) (a1 : Leg) (a2 : Int) (r : Bool) (h : F_ei n a1 a2 = some r) :
    C prog 161 [.agg (Leg.c a1), .ptr 0 0] [.cells 202 [.fn (.func 105) [] [.ptr 1 0]], .cells 3 [I a2]] (fun a H => a = .bool r ∧ H = [.cells 202 [.fn (.func 105) [] [.ptr 1 0]], .cells 3 [I a2]]) := by
 refine Qd func161 Z Z Z ?_
 refine Rg (U 2 Z (Nx (Rg (U 2 Z (Bd h fun r1 hr1 h => Pc [1] Z (Qj call105 Z Z Z Z) (k_cf _ _ _ _ hr1) Z (U 2 Z (Nx (TC.ret ?_))))))))
 obtain rfl := Oi h
 exact R1 3 Z (Lr [0, 1])
def F_gf (n : Nat) (a1 : List Leg) (a2 : Int) (s13 : Int) : Option (Ctl Int (Ctl Unit Int)) :=
  (bif decide (s13 < (a1.length : Int)) then (idx a1 s13).bind fun x17 => (F_ei n x17 a2).bind fun r18 => (bif r18 then some (.done (.done s13)) else some (.cont (IntKind.i64.wrap (s13 + 1)))) else some (.done (.cont ())))
def F_ec (n : Nat) (a1 : List Leg) (a2 : Int) : Option Int :=
  (iter (F_gf n a1 a2) n 0 : Option (Ctl Unit Int)).bind fun b10 => match b10 with | .cont sb10 => (some (-1)) | .done sb10 => some sb10
theorem k_ec (n : Nat) (a1 : List Leg) (a2 : Int) (r : Int) (h : F_ec n a1 a2 = some r) :
    C prog 212 [.rsl 4 (List.map Leg.c a1), .fn (.func 161) [] [.ptr 0 0]] [.cells 202 [.fn (.func 105) [] [.ptr 1 0]], .cells 3 [I a2]] (fun a H => a = I r ∧ H = [.cells 202 [.fn (.func 105) [] [.ptr 1 0]], .cells 3 [I a2]]) :=
 QJ (el := fun x => .agg (Leg.c x)) (g := fun x => F_ei n x a2) func212 Z Z Z runUnderlying23 sizeOf123 (fun _ _ _ _ h1 h2 => Qi h1 isAgg123 sizeOf123 h2 Pts.rp Z Z) call161 (fun _ _ h => k_ei _ _ _ _ h) h
def F_ej (n : Nat) (a1 : List Leg) (a2 : Int) : Option Bool :=
  (F_ec n a1 a2).bind fun r1 => some (decide (0 ≤ r1))
theorem k_ej (n : Nat) (a1 : List Leg) (a2 : Int) (r : Bool) (h : F_ej n a1 a2 = some r) :
    C prog 160 [.rsl 4 (List.map Leg.c a1), .fn (.func 161) [] [.ptr 0 0]] [.cells 202 [.fn (.func 105) [] [.ptr 1 0]], .cells 3 [I a2]] (fun a H => a = .bool r ∧ H = [.cells 202 [.fn (.func 105) [] [.ptr 1 0]], .cells 3 [I a2]]) := by
 refine Qd func160 Z Z Z ?_
 refine Rg (U 1 Z (Nx (Rg (U 2 Z (Bd h fun r1 hr1 h => Pc [0, 1] Z (OpC.fn call212 Z Z Z) (k_ec _ _ _ _ hr1) Z (U 2 Z (Nx (TC.ret ?_))))))))
 obtain rfl := Oi h
 exact R1 4 Z (Lr [0, 1])
def F_av (n : Nat) (a1 : List Leg) (a2 : Int) : Option Bool :=
  (F_ej n a1 a2).bind fun r1 => some (!r1)
theorem k_av (n : Nat) (a1 : List Leg) (a2 : Int) (r : Bool) (h : F_av n a1 a2 = some r) :
    C prog 110 [.rsl 4 (List.map Leg.c a1), .fn (.func 105) [] [.ptr 0 0]] [.cells 3 [I a2]] (fun a H => a = .bool r ∧ H = [.cells 3 [I a2]]) := by
 refine Qd func110 Z Z Z ?_
 refine Rg (U 2 Z (Nx (Rg (U 2 Z (Bd h fun r1 hr1 h => Pc [1, 0] Z (OpC.fn call160 Z Z Z) (k_ej _ _ _ _ hr1) Z (U 2 Z (Nx (TC.ret ?_))))))))
 obtain rfl := Oi h
 exact R1 4 Z (Lr [0])
def F_cw (n : Nat) (a1 : Leg) : Option Unit :=
  some ()
theorem k_cw (n : Nat) (a1 : Leg) (r : Unit) (h : F_cw n a1 = some r) :
    C prog 112 [.agg (Leg.c a1)] [] (fun a H => a = .agg [I a1.From, I a1.To] ∧ H = [.cells 136 [I a1.From, I a1.To]]) := by
 refine Qd func112 Z Z Z ?_
 refine Rg (U 2 Z (Nx (Rg (U 6 Z (Nx (TC.ret ?_))))))
 obtain rfl := Oi h
 refine ⟨[(2, .ptr 0 0)], [.cells 136 [I a1.From, I a1.To]], _, ?_, YK Z (Qn isAgg136 sizeOf136 Z Z Z), Z, Z⟩
 exact Lr [1]
def F_fw (n : Nat) (a1 : List Leg) (s13 : (List (typing_ends × Bool)) × Int) : Option (Ctl ((List (typing_ends × Bool)) × Int) (List (typing_ends × Bool))) :=
  (bif decide (s13.2 < (a1.length : Int)) then (idx a1 s13.2).bind fun x17 => (F_cw n x17).bind fun r18 => (some (mset s13.1 ({ from_ := x17.From, to_ := x17.To : typing_ends }) true)).bind fun m19 => some (.cont (m19, IntKind.i64.wrap (s13.2 + 1))) else some (.done s13.1))
def F_bd (n : Nat) (a1 : List Leg) : Option Bool :=
  (iter (F_fw n a1) n ([], 0) : Option (List (typing_ends × Bool))).bind fun b10 => some ((b10.length : Int) == (a1.length : Int))
theorem k_bd (n : Nat) (a1 : List Leg) (r : Bool) (h : F_bd n a1 = some r) :
    C prog 111 [.rsl 4 (List.map Leg.c a1), .fn (.func 112) [] []] [] (fun a H => a = .bool r ∧ H = []) := by
 refine Qd func111 Z Z Z ?_
 refine Rg (U 1 Z (Nx (Rg ?_)))
 refine vH QT ?_
 refine FE Z (U 1 Z (Nx (TC.seq (Rg (U 1 Z (LnM runUnderlying23 Z (U 1 Z (Nx (Bd h fun b10 h11 h => ?_)))))))))
 refine TC.cut ([(0, .rsl 4 (List.map Leg.c a1)), (5, .map 0)]) ([.map (menc (fun x => A.agg (typing_ends.c x)) A.bool b10)]) ?_ (fun env H hle => ?_)
 ·refine TC.block ?_
  refine TC.loop (E := fun s13 => [(0, .rsl 4 (List.map Leg.c a1)), (1, .fn (.func 112) [] []), (5, .map 0), (9, .rsl 4 (List.map Leg.c a1)), (10, I (a1.length : Int)), (11, I s13.2)]) (Hp := fun s13 => [.map (menc (fun x => A.agg (typing_ends.c x)) A.bool s13.1)]) h11 ?_ ?_
  ·exact Lr [0]
  intro s13 d14 h15 hb12
  refine Rg (U 1 Z (Nx (TC.seq (CnS Z h15 (fun hc16 h15 => ?_) (fun hc16 h15 => ?_)))))
  ·refine ExX (Qz h15 ?_)
   obtain rfl := hb12 _ (Oi h15).symm
   exact QQ (cutN (Lr [0]))
  refine QU (TC.seq (TC.block (Rg (Bd h15 fun x17 hx17 h15 => Ix hx17 runUnderlying23 sizeOf123 Z (U 3 Z (Nx (TC.region (U 3 Z (Bd h15 fun r18 hr18 h15 => ?_)))))))))
  refine Qe [] (Qj call112 Z Z Z Z) (k_cw _ _ _ hr18) ?_
  rintro _ _ ⟨rfl, rfl⟩
  refine FE Z (Bd h15 fun m19 hm19 h15 => ?_)
  refine vU (Q8 (ev := A.bool) (k := ({ from_ := x17.From, to_ := x17.To : typing_ends })) (v := true) (l := s13.1) QcT hm19 Z underlying134) ?_
  exact FE Z (WO.nil (QD (Qf (TC.region (U 2 Z (WO.nil (Qu h15 (Lr [0]))))))))
 refine Qf (TC.le hle (Rg (U 1 Z ?_)))
 refine vX (I (b10.length : Int)) (Qa4 (l := b10) underlying134 Z) ?_
 refine U 1 Z (LnM runUnderlying23 Z (U 2 Z (Nx (TC.ret ?_))))
 obtain rfl := Oi h
 exact R1 4 Z (Lr [])
def F_ao (rec46 : (List Part) → Int → Option Bool) (n : Nat) (a1 : Part) (a2 : Int) : Option Bool :=
  (bif (a1.Laps == 0) then ((F_a n 0 a2 [a1.Mat]).bind fun r6 => (bif r6 then some ((a1.Parts.length : Int) == 0) else some false) : Option Bool).bind fun b4 => some b4 else ((F_a n 1 64 [a1.Laps]).bind fun r15 => (bif r15 then (bif (a1.Mat == 0) then (bif decide (0 < (a1.Parts.length : Int)) then (rec46 a1.Parts a2).bind fun r19 => some r19 else some false) else some false) else some false) : Option Bool).bind fun b13 => some b13)
theorem k_ao (rec46 : (List Part) → Int → Option Bool) (hrec46 : ∀ (a1 : List Part) (a2 : Int) (r : Bool), rec46 a1 a2 = some r → C prog 101 [.rsl 3 (List.map Part.enc a1), .fn (.func 99) [] [.ptr 0 0, .ptr 1 0]] [.cells 3 [I a2], .cells 197 [.fn (.func 99) [] [.ptr 0 0, .ptr 1 0]]] (fun a H => a = .bool r ∧ H = [.cells 3 [I a2], .cells 197 [.fn (.func 99) [] [.ptr 0 0, .ptr 1 0]]])) (n : Nat) (a1 : Part) (a2 : Int) (r : Bool) (h : F_ao rec46 n a1 a2 = some r) :
    C prog 99 [.agg (Part.c a1), .ptr 0 0, .ptr 1 0] [.cells 3 [I a2], .cells 197 [.fn (.func 99) [] [.ptr 0 0, .ptr 1 0]]] (fun a H => a = .bool r ∧ H = [.cells 3 [I a2], .cells 197 [.fn (.func 99) [] [.ptr 0 0, .ptr 1 0]]]) := by
 refine Qd func99 Z Z Z ?_
 refine Rg (U 2 Z (Nx (TC.seq (Rg (U 3 Z (Nx (Cn Z h (fun hc1 h => ?_) (fun hc1 h => ?_))))))))
 ·refine TC.seq (Bd h fun b4 h5 h => ?_)
  refine TC.cut ([(4, .bool b4)]) ([.cells 3 [I a2], .cells 197 [.fn (.func 99) [] [.ptr 0 0, .ptr 1 0]]]) ?_ (fun env H hle => ?_)
  ·refine TC.region (U 3 Z ?_)
   refine vH (OpH.lit (xs := [.tmp 10]) (es := List.map (encI .i64) [a1.Mat]) QK Z Z Z Z Z ⟨Z, trivial⟩ Z Z) ?_
   refine FE Z (Bd h5 fun r6 hr6 h5 => ?_)
   refine Qh (OpC.fn call100 rfl rfl rfl) (LookL.cons rfl (.inl ⟨rfl, rfl⟩) (LookL.cons rfl (.inl ⟨rfl, rfl⟩) (LookL.cons rfl (.inr ⟨_, _, _, _, _, rfl, rfl, List.length_map .., rfl⟩) LookL.nil))) (k_a _ _ _ _ _ hr6) (by rintro _ _ ⟨rfl, rfl⟩; rfl) ?_
   rintro _ _ ⟨rfl, rfl⟩
   refine FE Z (U 1 Z (If h5 (fun hg7 h5 => ?_) (fun hg7 h5 => ?_)))
   ·refine QG (gT hg7) QbZ Z (QO (gT hg7) isAgg91 Z ?_)
    refine vX (I (a1.Parts.length : Int)) (Qk (e := Part.enc) (l := a1.Parts) runUnderlying91) ?_ (gT hg7)
    refine Sg (gT hg7) Z (Pk hg7 Z (U 1 Z (WO.nil ?_)))
    obtain rfl := Oi h5
    exact cutN (Lr [0, 1])
   ·refine KF hg7 Z (KF hg7 Z (KF hg7 Z (KF hg7 Z (Pk hg7 Z (U 1 Z (WO.nil ?_))))))
    obtain rfl := Oi h5
    exact cutN (Lr [0, 1])
  refine Qf (TC.le hle (RtR ?_))
  obtain rfl := Oi h
  exact R1 4 Z (Lr [0, 1])
 refine QU (TC.seq (Bd h fun b13 h14 h => ?_))
 refine TC.cut ([(4, .bool b13)]) ([.cells 3 [I a2], .cells 197 [.fn (.func 99) [] [.ptr 0 0, .ptr 1 0]]]) ?_ (fun env H hle => ?_)
 ·refine TC.region (U 2 Z ?_)
  refine vH (OpH.lit (xs := [.tmp 20]) (es := List.map (encI .i64) [a1.Laps]) QK Z Z Z Z Z ⟨Z, trivial⟩ Z Z) ?_
  refine FE Z (Bd h14 fun r15 hr15 h14 => ?_)
  refine Qh (OpC.fn call100 rfl rfl rfl) (LookL.cons rfl (.inl ⟨rfl, rfl⟩) (LookL.cons rfl (.inl ⟨rfl, rfl⟩) (LookL.cons rfl (.inr ⟨_, _, _, _, _, rfl, rfl, List.length_map .., rfl⟩) LookL.nil))) (k_a _ _ _ _ _ hr15) (by rintro _ _ ⟨rfl, rfl⟩; rfl) ?_
  rintro _ _ ⟨rfl, rfl⟩
  refine FE Z (U 1 Z (If h14 (fun hg16 h14 => ?_) (fun hg16 h14 => ?_)))
  ·refine QG (gT hg16) Qfp Z (QO (gT hg16) isAgg3 Z (Sg (gT hg16) Z (Pk hg16 Z (U 1 Z (If h14 (fun hg17 h14 => ?_) (fun hg17 h14 => ?_))))))
   ·refine QG (gT hg17) QbZ Z (QO (gT hg17) isAgg91 Z ?_)
    refine vX (I (a1.Parts.length : Int)) (Qk (e := Part.enc) (l := a1.Parts) runUnderlying91) ?_ (gT hg17)
    refine Sg (gT hg17) Z (Pk hg17 Z (U 1 Z (If h14 (fun hg18 h14 => ?_) (fun hg18 h14 => ?_))))
    ·refine QG (gT hg18) QbZ Z (QO (gT hg18) isAgg91 Z (QO (gT hg18) isAgg197 Z (Bd h14 fun r19 hr19 h14 => Pc [0, 1] Z (OpC.fn call101 Z Z Z) (hrec46 _ _ _ hr19) (hg := (gT hg18)) Z (Pk hg18 Z (U 1 Z (WO.nil ?_))))))
     obtain rfl := Oi h14
     exact cutN (Lr [0, 1])
    ·refine KF hg18 Z (KF hg18 Z (KF hg18 Z (KF hg18 Z (Pk hg18 Z (U 1 Z (WO.nil ?_))))))
     obtain rfl := Oi h14
     exact cutN (Lr [0, 1])
   ·refine KF hg17 Z (KF hg17 Z (KF hg17 Z (KF hg17 Z (Pk hg17 Z (U 7 Z (WO.nil ?_))))))
    obtain rfl := Oi h14
    exact cutN (Lr [0, 1])
  ·refine KF hg16 Z (KF hg16 Z (KF hg16 Z (Pk hg16 Z (U 13 Z (WO.nil ?_)))))
   obtain rfl := Oi h14
   exact cutN (Lr [0, 1])
 refine Qf (TC.le hle (TC.ret ?_))
 obtain rfl := Oi h
 exact R1 4 Z (Lr [0, 1])
def F_fl (rec46 : (List Part) → Int → Option Bool) (n : Nat) (a1 : Part) (a2 : Int) : Option Bool :=
  (F_ao rec46 n a1 a2).bind fun r1 => some (!r1)
theorem k_fl (rec46 : (List Part) → Int → Option Bool) (hrec46 : ∀ (a1 : List Part) (a2 : Int) (r : Bool), rec46 a1 a2 = some r → C prog 101 [.rsl 3 (List.map Part.enc a1), .fn (.func 99) [] [.ptr 0 0, .ptr 1 0]] [.cells 3 [I a2], .cells 197 [.fn (.func 99) [] [.ptr 0 0, .ptr 1 0]]] (fun a H => a = .bool r ∧ H = [.cells 3 [I a2], .cells 197 [.fn (.func 99) [] [.ptr 0 0, .ptr 1 0]]])) (n : Nat) (a1 : Part) (a2 : Int) (r : Bool) (h : F_fl rec46 n a1 a2 = some r) :
    C prog 155 [.agg (Part.c a1), .ptr 0 0] [.cells 197 [.fn (.func 99) [] [.ptr 1 0, .ptr 2 0]], .cells 3 [I a2], .cells 197 [.fn (.func 99) [] [.ptr 1 0, .ptr 2 0]]] (fun a H => a = .bool r ∧ H = [.cells 197 [.fn (.func 99) [] [.ptr 1 0, .ptr 2 0]], .cells 3 [I a2], .cells 197 [.fn (.func 99) [] [.ptr 1 0, .ptr 2 0]]]) := by
 refine Qd func155 Z Z Z ?_
 refine Rg (U 2 Z (Nx (Rg (U 2 Z (Bd h fun r1 hr1 h => Pc [1, 2] Z (Qj call99 Z Z Z Z) (k_ao rec46 hrec46 _ _ _ _ hr1) Z (U 2 Z (Nx (TC.ret ?_))))))))
 obtain rfl := Oi h
 exact R1 3 Z (Lr [0, 1, 2])
def F_gp (n : Nat) (a1 : List Part) (a2 : Int) (rec46 : (List Part) → Int → Option Bool) (s13 : Int) : Option (Ctl Int (Ctl Unit Int)) :=
  (bif decide (s13 < (a1.length : Int)) then (idx a1 s13).bind fun x17 => (F_fl rec46 n x17 a2).bind fun r18 => (bif r18 then some (.done (.done s13)) else some (.cont (IntKind.i64.wrap (s13 + 1)))) else some (.done (.cont ())))
def F_az (rec46 : (List Part) → Int → Option Bool) (n : Nat) (a1 : List Part) (a2 : Int) : Option Int :=
  (iter (F_gp n a1 a2 rec46) n 0 : Option (Ctl Unit Int)).bind fun b10 => match b10 with | .cont sb10 => (some (-1)) | .done sb10 => some sb10
theorem k_az (rec46 : (List Part) → Int → Option Bool) (hrec46 : ∀ (a1 : List Part) (a2 : Int) (r : Bool), rec46 a1 a2 = some r → C prog 101 [.rsl 3 (List.map Part.enc a1), .fn (.func 99) [] [.ptr 0 0, .ptr 1 0]] [.cells 3 [I a2], .cells 197 [.fn (.func 99) [] [.ptr 0 0, .ptr 1 0]]] (fun a H => a = .bool r ∧ H = [.cells 3 [I a2], .cells 197 [.fn (.func 99) [] [.ptr 0 0, .ptr 1 0]]])) (n : Nat) (a1 : List Part) (a2 : Int) (r : Int) (h : F_az rec46 n a1 a2 = some r) :
    C prog 209 [.rsl 3 (List.map Part.enc a1), .fn (.func 155) [] [.ptr 0 0]] [.cells 197 [.fn (.func 99) [] [.ptr 1 0, .ptr 2 0]], .cells 3 [I a2], .cells 197 [.fn (.func 99) [] [.ptr 1 0, .ptr 2 0]]] (fun a H => a = I r ∧ H = [.cells 197 [.fn (.func 99) [] [.ptr 1 0, .ptr 2 0]], .cells 3 [I a2], .cells 197 [.fn (.func 99) [] [.ptr 1 0, .ptr 2 0]]]) := by
 refine Qd func209 Z Z Z ?_
 refine Rg (U 1 Z (Nx (TC.seq (Rg (U 1 Z (LnM runUnderlying91 Z (U 1 Z (Nx (Bd h fun b10 h11 h => ?_)))))))))
 refine Qy (b := b10) (fun sb10 => []) (fun sb10 => [.cells 197 [.fn (.func 99) [] [.ptr 1 0, .ptr 2 0]], .cells 3 [I a2], .cells 197 [.fn (.func 99) [] [.ptr 1 0, .ptr 2 0]]]) ?_ (fun sb10 env H hbe hle => ?_)
 ·refine TC.block ?_
  refine TC.loop (E := fun s13 => [(0, .rsl 3 (List.map Part.enc a1)), (1, .fn (.func 155) [] [.ptr 0 0]), (7, I (a1.length : Int)), (8, I s13)]) (Hp := fun s13 => [.cells 197 [.fn (.func 99) [] [.ptr 1 0, .ptr 2 0]], .cells 3 [I a2], .cells 197 [.fn (.func 99) [] [.ptr 1 0, .ptr 2 0]]]) h11 ?_ ?_
  ·exact Lr [0, 1, 2]
  intro s13 d14 h15 hb12
  refine Rg (U 1 Z (Nx (TC.seq (CnS Z h15 (fun hc16 h15 => ?_) (fun hc16 h15 => ?_)))))
  ·refine ExX (Qz h15 ?_)
   obtain rfl := hb12 _ (Oi h15).symm
   exact QQ (Qx Z (Lr [0, 1, 2]))
  refine QU (TC.seq (TC.block (Rg (U 2 Z (Nx (Rg (U 3 Z (Bd h15 fun x17 hx17 h15 => ?_))))))))
  refine vX (.rp [I x17.Mat, I x17.Laps, .rsl 3 (List.map Part.enc x17.Parts)]) (Q7 (e := Part.enc) hx17 (YE x17) runUnderlying91 sizeOf125) ?_
  refine U 1 Z (Bd h15 fun r18 hr18 h15 => Pc [0, 1, 2] Z (Qj call155 Z Z Z Z) (k_fl rec46 hrec46 _ _ _ _ hr18) Z (Nx (Cn Z h15 (fun hc19 h15 => ?_) (fun hc19 h15 => ?_))))
  ·refine Rg (U 2 Z (Nx (TC.ret (Qm (Ql (QV h15 ?_))))))
   obtain rfl := hb12 _ (Oi h15).symm
   refine Qm (QF (Ql ?_))
   obtain rfl := Oi h
   exact R1 4 Z (Lr [0, 1, 2])
  exact TC.skip (QD (Qf (TC.region (U 2 Z (WO.nil (Qu h15 (Lr [0, 1, 2])))))))
 subst hbe
 refine Qf (TC.le hle (Rg (U 1 Z (Nx (TC.ret ?_)))))
 obtain rfl := Oi h
 exact R1 4 Z (Lr [0, 1, 2])
def F_bu (rec46 : (List Part) → Int → Option Bool) (n : Nat) (a1 : List Part) (a2 : Int) : Option Bool :=
  (F_az rec46 n a1 a2).bind fun r1 => some (decide (0 ≤ r1))
theorem k_bu (rec46 : (List Part) → Int → Option Bool) (hrec46 : ∀ (a1 : List Part) (a2 : Int) (r : Bool), rec46 a1 a2 = some r → C prog 101 [.rsl 3 (List.map Part.enc a1), .fn (.func 99) [] [.ptr 0 0, .ptr 1 0]] [.cells 3 [I a2], .cells 197 [.fn (.func 99) [] [.ptr 0 0, .ptr 1 0]]] (fun a H => a = .bool r ∧ H = [.cells 3 [I a2], .cells 197 [.fn (.func 99) [] [.ptr 0 0, .ptr 1 0]]])) (n : Nat) (a1 : List Part) (a2 : Int) (r : Bool) (h : F_bu rec46 n a1 a2 = some r) :
    C prog 154 [.rsl 3 (List.map Part.enc a1), .fn (.func 155) [] [.ptr 0 0]] [.cells 197 [.fn (.func 99) [] [.ptr 1 0, .ptr 2 0]], .cells 3 [I a2], .cells 197 [.fn (.func 99) [] [.ptr 1 0, .ptr 2 0]]] (fun a H => a = .bool r ∧ H = [.cells 197 [.fn (.func 99) [] [.ptr 1 0, .ptr 2 0]], .cells 3 [I a2], .cells 197 [.fn (.func 99) [] [.ptr 1 0, .ptr 2 0]]]) := by
 refine Qd func154 Z Z Z ?_
 refine Rg (U 1 Z (Nx (Rg (U 2 Z (Bd h fun r1 hr1 h => Pc [0, 1, 2] Z (OpC.fn call209 Z Z Z) (k_az rec46 hrec46 _ _ _ _ hr1) Z (U 2 Z (Nx (TC.ret ?_))))))))
 obtain rfl := Oi h
 exact R1 4 Z (Lr [0, 1, 2])
def B_f (rec46 : (List Part) → Int → Option Bool) (n : Nat) (a1 : List Part) (a2 : Int) : Option Bool :=
  (F_bu rec46 n a1 a2).bind fun r1 => some (!r1)
theorem QbC (rec46 : (List Part) → Int → Option Bool) (hrec46 : ∀ (a1 : List Part) (a2 : Int) (r : Bool), rec46 a1 a2 = some r → C prog 101 [.rsl 3 (List.map Part.enc a1), .fn (.func 99) [] [.ptr 0 0, .ptr 1 0]] [.cells 3 [I a2], .cells 197 [.fn (.func 99) [] [.ptr 0 0, .ptr 1 0]]] (fun a H => a = .bool r ∧ H = [.cells 3 [I a2], .cells 197 [.fn (.func 99) [] [.ptr 0 0, .ptr 1 0]]])) (n : Nat) (a1 : List Part) (a2 : Int) (r : Bool) (h : B_f rec46 n a1 a2 = some r) :
    C prog 101 [.rsl 3 (List.map Part.enc a1), .fn (.func 99) [] [.ptr 0 0, .ptr 1 0]] [.cells 3 [I a2], .cells 197 [.fn (.func 99) [] [.ptr 0 0, .ptr 1 0]]] (fun a H => a = .bool r ∧ H = [.cells 3 [I a2], .cells 197 [.fn (.func 99) [] [.ptr 0 0, .ptr 1 0]]]) := by
 refine Qd func101 Z Z Z ?_
 refine Rg (U 2 Z (Nx (Rg (U 2 Z (Bd h fun r1 hr1 h => Pc [2, 0, 1] Z (OpC.fn call154 Z Z Z) (k_bu rec46 hrec46 _ _ _ _ hr1) Z (U 2 Z (Nx (TC.ret ?_))))))))
 obtain rfl := Oi h
 exact R1 4 Z (Lr [0, 1])
def F_f : Nat → (List Part) → Int → Option Bool
  | 0 => fun _ _ => none
  | n + 1 => B_f (F_f n) n
theorem k_f (n : Nat) : ∀ (a1 : List Part) (a2 : Int) (r : Bool), F_f n a1 a2 = some r → C prog 101 [.rsl 3 (List.map Part.enc a1), .fn (.func 99) [] [.ptr 0 0, .ptr 1 0]] [.cells 3 [I a2], .cells 197 [.fn (.func 99) [] [.ptr 0 0, .ptr 1 0]]] (fun a H => a = .bool r ∧ H = [.cells 3 [I a2], .cells 197 [.fn (.func 99) [] [.ptr 0 0, .ptr 1 0]]]) := by
  induction n with
  | zero => intro a1 a2 r h; cases h
  | succ n ih => intro a1 a2 r h; exact QbC _ ih n a1 a2 r h
def F_cn (n : Nat) (a1 : Cutoff) (a2 : Int) : Option Bool :=
  ((F_a n 0 a2 [a1.Mat]).bind fun r7 => (bif r7 then (bif decide (1 ≤ a1.Lap) then (F_a n 0 1099511627776 [a1.Limit]).bind fun r10 => some r10 else some false) else some false) : Option Bool).bind fun b5 => some b5
theorem k_cn (n : Nat) (a1 : Cutoff) (a2 : Int) (r : Bool) (h : F_cn n a1 a2 = some r) :
    C prog 102 [.agg (Cutoff.c a1), .ptr 0 0] [.cells 3 [I a2]] (fun a H => a = .bool r ∧ H = [.cells 3 [I a2]]) := by
 refine Qd func102 Z Z Z ?_
 refine Rg (U 2 Z (Nx (TC.seq (Bd h fun b5 h6 h => ?_))))
 refine TC.cut ([(3, .bool b5)]) ([.cells 3 [I a2]]) ?_ (fun env H hle => ?_)
 ·refine TC.region (U 3 Z ?_)
  refine vH (OpH.lit (xs := [.tmp 6]) (es := List.map (encI .i64) [a1.Mat]) QK Z Z Z Z Z ⟨Z, trivial⟩ Z Z) ?_
  refine FE Z (Bd h6 fun r7 hr7 h6 => ?_)
  refine Qh (OpC.fn call100 rfl rfl rfl) (LookL.cons rfl (.inl ⟨rfl, rfl⟩) (LookL.cons rfl (.inl ⟨rfl, rfl⟩) (LookL.cons rfl (.inr ⟨_, _, _, _, _, rfl, rfl, List.length_map .., rfl⟩) LookL.nil))) (k_a _ _ _ _ _ hr7) (by rintro _ _ ⟨rfl, rfl⟩; rfl) ?_
  rintro _ _ ⟨rfl, rfl⟩
  refine FE Z (U 1 Z (If h6 (fun hg8 h6 => ?_) (fun hg8 h6 => ?_)))
  ·refine QG (gT hg8) Qfi Z (QO (gT hg8) isAgg3 Z (Sg (gT hg8) Z (Pk hg8 Z (U 1 Z (If h6 (fun hg9 h6 => ?_) (fun hg9 h6 => ?_))))))
   ·refine QG (gT hg9) QiH Z (QO (gT hg9) isAgg3 Z ?_)
    refine vH (OpH.lit (xs := [.tmp 16]) (es := List.map (encI .i64) [a1.Limit]) QK Z Z Z Z Z ⟨Z, trivial⟩ Z Z) ?_ (gT hg9)
    refine FE Z (Bd h6 fun r10 hr10 h6 => ?_)
    refine Qh (OpC.fn call100 rfl rfl rfl) (LookL.cons rfl (.inl ⟨rfl, rfl⟩) (LookL.cons rfl (.inl ⟨rfl, rfl⟩) (LookL.cons rfl (.inr ⟨_, _, _, _, _, rfl, rfl, List.length_map .., rfl⟩) LookL.nil))) (k_a _ _ _ _ _ hr10) (by rintro _ _ ⟨rfl, rfl⟩; rfl) ?_ (gT hg9)
    rintro _ _ ⟨rfl, rfl⟩
    refine FE Z (Pk hg9 Z (U 1 Z (WO.nil ?_)))
    obtain rfl := Oi h6
    exact cutN (Lr [0])
   ·refine KF hg9 Z (KF hg9 Z (KF hg9 Z (KF hg9 Z (Pk hg9 Z (U 1 Z (WO.nil ?_))))))
    obtain rfl := Oi h6
    exact cutN (Lr [0])
  ·refine KF hg8 Z (KF hg8 Z (KF hg8 Z (Pk hg8 Z (U 7 Z (WO.nil ?_)))))
   obtain rfl := Oi h6
   exact cutN (Lr [0])
 refine Qf (TC.le hle (TC.ret ?_))
 obtain rfl := Oi h
 exact R1 3 Z (Lr [0])
def F_cr (n : Nat) (a1 : Cutoff) (a2 : Int) : Option Bool :=
  (F_cn n a1 a2).bind fun r1 => some (!r1)
theorem k_cr (n : Nat) (a1 : Cutoff) (a2 : Int) (r : Bool) (h : F_cr n a1 a2 = some r) :
    C prog 157 [.agg (Cutoff.c a1), .ptr 0 0] [.cells 200 [.fn (.func 102) [] [.ptr 1 0]], .cells 3 [I a2]] (fun a H => a = .bool r ∧ H = [.cells 200 [.fn (.func 102) [] [.ptr 1 0]], .cells 3 [I a2]]) := by
 refine Qd func157 Z Z Z ?_
 refine Rg (U 2 Z (Nx (Rg (U 2 Z (Bd h fun r1 hr1 h => Pc [1] Z (Qj call102 Z Z Z Z) (k_cn _ _ _ _ hr1) Z (U 2 Z (Nx (TC.ret ?_))))))))
 obtain rfl := Oi h
 exact R1 3 Z (Lr [0, 1])
def F_gl (n : Nat) (a1 : List Cutoff) (a2 : Int) (s13 : Int) : Option (Ctl Int (Ctl Unit Int)) :=
  (bif decide (s13 < (a1.length : Int)) then (idx a1 s13).bind fun x17 => (F_cr n x17 a2).bind fun r18 => (bif r18 then some (.done (.done s13)) else some (.cont (IntKind.i64.wrap (s13 + 1)))) else some (.done (.cont ())))
def F_dx (n : Nat) (a1 : List Cutoff) (a2 : Int) : Option Int :=
  (iter (F_gl n a1 a2) n 0 : Option (Ctl Unit Int)).bind fun b10 => match b10 with | .cont sb10 => (some (-1)) | .done sb10 => some sb10
theorem k_dx (n : Nat) (a1 : List Cutoff) (a2 : Int) (r : Int) (h : F_dx n a1 a2 = some r) :
    C prog 210 [.rsl 3 (List.map Cutoff.c a1), .fn (.func 157) [] [.ptr 0 0]] [.cells 200 [.fn (.func 102) [] [.ptr 1 0]], .cells 3 [I a2]] (fun a H => a = I r ∧ H = [.cells 200 [.fn (.func 102) [] [.ptr 1 0]], .cells 3 [I a2]]) :=
 QJ (el := fun x => .agg (Cutoff.c x)) (g := fun x => F_cr n x a2) func210 Z Z Z runUnderlying92 sizeOf168 (fun _ _ _ _ h1 h2 => Qi h1 isAgg168 sizeOf168 h2 Pts.rp Z Z) call157 (fun _ _ h => k_cr _ _ _ _ h) h
def F_dl (n : Nat) (a1 : List Cutoff) (a2 : Int) : Option Bool :=
  (F_dx n a1 a2).bind fun r1 => some (decide (0 ≤ r1))
theorem k_dl (n : Nat) (a1 : List Cutoff) (a2 : Int) (r : Bool) (h : F_dl n a1 a2 = some r) :
    C prog 156 [.rsl 3 (List.map Cutoff.c a1), .fn (.func 157) [] [.ptr 0 0]] [.cells 200 [.fn (.func 102) [] [.ptr 1 0]], .cells 3 [I a2]] (fun a H => a = .bool r ∧ H = [.cells 200 [.fn (.func 102) [] [.ptr 1 0]], .cells 3 [I a2]]) := by
 refine Qd func156 Z Z Z ?_
 refine Rg (U 1 Z (Nx (Rg (U 2 Z (Bd h fun r1 hr1 h => Pc [0, 1] Z (OpC.fn call210 Z Z Z) (k_dx _ _ _ _ hr1) Z (U 2 Z (Nx (TC.ret ?_))))))))
 obtain rfl := Oi h
 exact R1 4 Z (Lr [0, 1])
def F_at (n : Nat) (a1 : List Cutoff) (a2 : Int) : Option Bool :=
  (F_dl n a1 a2).bind fun r1 => some (!r1)
theorem k_at (n : Nat) (a1 : List Cutoff) (a2 : Int) (r : Bool) (h : F_at n a1 a2 = some r) :
    C prog 104 [.rsl 3 (List.map Cutoff.c a1), .fn (.func 102) [] [.ptr 0 0]] [.cells 3 [I a2]] (fun a H => a = .bool r ∧ H = [.cells 3 [I a2]]) := by
 refine Qd func104 Z Z Z ?_
 refine Rg (U 2 Z (Nx (Rg (U 2 Z (Bd h fun r1 hr1 h => Pc [1, 0] Z (OpC.fn call156 Z Z Z) (k_dl _ _ _ _ hr1) Z (U 2 Z (Nx (TC.ret ?_))))))))
 obtain rfl := Oi h
 exact R1 4 Z (Lr [0])
def F_ba (n : Nat) (a1 : Distance) (a2 : Int) : Option Bool :=
  ((F_a n 1 3 [a1.Timing]).bind fun r10 => (bif r10 then (F_a n (-1) a2 [a1.Extra]).bind fun r12 => (bif r12 then (F_f n a1.Route a2).bind fun r14 => (bif r14 then (F_at n a1.Cutoffs a2).bind fun r16 => some r16 else some false) else some false) else some false) : Option Bool).bind fun b8 => some b8
theorem k_ba (n : Nat) (a1 : Distance) (a2 : Int) (r : Bool) (h : F_ba n a1 a2 = some r) :
    C prog 103 [.agg (Distance.c a1), .ptr 0 0, .ptr 1 0, .ptr 2 0] [.cells 3 [I a2], .cells 197 [.fn (.func 99) [] [.ptr 0 0, .ptr 1 0]], .cells 200 [.fn (.func 102) [] [.ptr 0 0]]] (fun a H => a = .bool r ∧ H = [.cells 3 [I a2], .cells 197 [.fn (.func 99) [] [.ptr 0 0, .ptr 1 0]], .cells 200 [.fn (.func 102) [] [.ptr 0 0]]]) := by
 refine Qd func103 Z Z Z ?_
 refine Rg (U 2 Z (Nx (TC.seq (Bd h fun b8 h9 h => ?_))))
 refine TC.cut ([(5, .bool b8)]) ([.cells 3 [I a2], .cells 197 [.fn (.func 99) [] [.ptr 0 0, .ptr 1 0]], .cells 200 [.fn (.func 102) [] [.ptr 0 0]]]) ?_ (fun env H hle => ?_)
 ·refine TC.region (U 2 Z ?_)
  refine vH (OpH.lit (xs := [.tmp 7]) (es := List.map (encI .i64) [a1.Timing]) QK Z Z Z Z Z ⟨Z, trivial⟩ Z Z) ?_
  refine FE Z (Bd h9 fun r10 hr10 h9 => ?_)
  refine Qh (OpC.fn call100 rfl rfl rfl) (LookL.cons rfl (.inl ⟨rfl, rfl⟩) (LookL.cons rfl (.inl ⟨rfl, rfl⟩) (LookL.cons rfl (.inr ⟨_, _, _, _, _, rfl, rfl, List.length_map .., rfl⟩) LookL.nil))) (k_a _ _ _ _ _ hr10) (by rintro _ _ ⟨rfl, rfl⟩; rfl) ?_
  rintro _ _ ⟨rfl, rfl⟩
  refine FE Z (U 1 Z (If h9 (fun hg11 h9 => ?_) (fun hg11 h9 => ?_)))
  ·refine QO (gT hg11) isAgg3 Z (QG (gT hg11) QgN Z (QO (gT hg11) isAgg3 Z ?_))
   refine vH (OpH.lit (xs := [.tmp 13]) (es := List.map (encI .i64) [a1.Extra]) QK Z Z Z Z Z ⟨Z, trivial⟩ Z Z) ?_ (gT hg11)
   refine FE Z (Bd h9 fun r12 hr12 h9 => ?_)
   refine Qh (OpC.fn call100 rfl rfl rfl) (LookL.cons rfl (.inl ⟨rfl, rfl⟩) (LookL.cons rfl (.inl ⟨rfl, rfl⟩) (LookL.cons rfl (.inr ⟨_, _, _, _, _, rfl, rfl, List.length_map .., rfl⟩) LookL.nil))) (k_a _ _ _ _ _ hr12) (by rintro _ _ ⟨rfl, rfl⟩; rfl) ?_ (gT hg11)
   rintro _ _ ⟨rfl, rfl⟩
   refine FE Z (Pk hg11 Z (U 1 Z (If h9 (fun hg13 h9 => ?_) (fun hg13 h9 => ?_))))
   ·refine QG (gT hg13) QgO Z (QO (gT hg13) isAgg91 Z (QO (gT hg13) isAgg197 Z (Bd h9 fun r14 hr14 h9 => Pc [0, 1] Z (OpC.fn call101 Z Z Z) (k_f _ _ _ _ hr14) (hg := (gT hg13)) Z (Pk hg13 Z (U 1 Z (If h9 (fun hg15 h9 => ?_) (fun hg15 h9 => ?_)))))))
    ·refine QG (gT hg15) QeA Z (QO (gT hg15) isAgg92 Z (QO (gT hg15) isAgg200 Z (Bd h9 fun r16 hr16 h9 => Pc [0] Z (OpC.fn call104 Z Z Z) (k_at _ _ _ _ hr16) (hg := (gT hg15)) Z (Pk hg15 Z (U 1 Z (WO.nil ?_))))))
     obtain rfl := Oi h9
     exact cutN (Lr [0, 1, 2])
    ·refine KF hg15 Z (KF hg15 Z (KF hg15 Z (KF hg15 Z (Pk hg15 Z (U 1 Z (WO.nil ?_))))))
     obtain rfl := Oi h9
     exact cutN (Lr [0, 1, 2])
   ·refine KF hg13 Z (KF hg13 Z (KF hg13 Z (KF hg13 Z (Pk hg13 Z (U 7 Z (WO.nil ?_))))))
    obtain rfl := Oi h9
    exact cutN (Lr [0, 1, 2])
  ·refine KF hg11 Z (KF hg11 Z (KF hg11 Z (KF hg11 Z (KF hg11 Z (Pk hg11 Z (U 13 Z (WO.nil ?_)))))))
   obtain rfl := Oi h9
   exact cutN (Lr [0, 1, 2])
 refine Qf (TC.le hle (TC.ret ?_))
 obtain rfl := Oi h
 exact R1 5 Z (Lr [0, 1, 2])
def F_ct (n : Nat) (a1 : Distance) (a2 : Int) : Option Bool :=
  (F_ba n a1 a2).bind fun r1 => some (!r1)
theorem k_ct (n : Nat) (a1 : Distance) (a2 : Int) (r : Bool) (h : F_ct n a1 a2 = some r) :
    C prog 124 [.agg (Distance.c a1), .ptr 0 0] [.cells 139 [.fn (.func 103) [] [.ptr 1 0, .ptr 2 0, .ptr 3 0]], .cells 3 [I a2], .cells 197 [.fn (.func 99) [] [.ptr 1 0, .ptr 2 0]], .cells 200 [.fn (.func 102) [] [.ptr 1 0]]] (fun a H => a = .bool r ∧ H = [.cells 139 [.fn (.func 103) [] [.ptr 1 0, .ptr 2 0, .ptr 3 0]], .cells 3 [I a2], .cells 197 [.fn (.func 99) [] [.ptr 1 0, .ptr 2 0]], .cells 200 [.fn (.func 102) [] [.ptr 1 0]]]) := by
 refine Qd func124 Z Z Z ?_
 refine Rg (U 2 Z (Nx (Rg (U 2 Z (Bd h fun r1 hr1 h => Pc [1, 2, 3] Z (Qj call103 Z Z Z Z) (k_ba _ _ _ _ hr1) Z (U 2 Z (Nx (TC.ret ?_))))))))
 obtain rfl := Oi h
 exact R1 3 Z (Lr [0, 1, 2, 3])
def F_gu (n : Nat) (a1 : List Distance) (a2 : Int) (s13 : Int) : Option (Ctl Int (Ctl Unit Int)) :=
  (bif decide (s13 < (a1.length : Int)) then (idx a1 s13).bind fun x17 => (F_ct n x17 a2).bind fun r18 => (bif r18 then some (.done (.done s13)) else some (.cont (IntKind.i64.wrap (s13 + 1)))) else some (.done (.cont ())))
def F_cx (n : Nat) (a1 : List Distance) (a2 : Int) : Option Int :=
  (iter (F_gu n a1 a2) n 0 : Option (Ctl Unit Int)).bind fun b10 => match b10 with | .cont sb10 => (some (-1)) | .done sb10 => some sb10
theorem k_cx (n : Nat) (a1 : List Distance) (a2 : Int) (r : Int) (h : F_cx n a1 a2 = some r) :
    C prog 173 [.rsl 5 (List.map Distance.c a1), .fn (.func 124) [] [.ptr 0 0]] [.cells 139 [.fn (.func 103) [] [.ptr 1 0, .ptr 2 0, .ptr 3 0]], .cells 3 [I a2], .cells 197 [.fn (.func 99) [] [.ptr 1 0, .ptr 2 0]], .cells 200 [.fn (.func 102) [] [.ptr 1 0]]] (fun a H => a = I r ∧ H = [.cells 139 [.fn (.func 103) [] [.ptr 1 0, .ptr 2 0, .ptr 3 0]], .cells 3 [I a2], .cells 197 [.fn (.func 99) [] [.ptr 1 0, .ptr 2 0]], .cells 200 [.fn (.func 102) [] [.ptr 1 0]]]) :=
 QJ (el := fun x => .agg (Distance.c x)) (g := fun x => F_ct n x a2) func173 Z Z Z runUnderlying24 sizeOf94 (fun _ _ _ _ h1 h2 => Qi h1 isAgg94 sizeOf94 h2 Pts.rp Z Z) call124 (fun _ _ h => k_ct _ _ _ _ h) h
def F_dj (n : Nat) (a1 : List Distance) (a2 : Int) : Option Bool :=
  (F_cx n a1 a2).bind fun r1 => some (decide (0 ≤ r1))
theorem k_dj (n : Nat) (a1 : List Distance) (a2 : Int) (r : Bool) (h : F_dj n a1 a2 = some r) :
    C prog 123 [.rsl 5 (List.map Distance.c a1), .fn (.func 124) [] [.ptr 0 0]] [.cells 139 [.fn (.func 103) [] [.ptr 1 0, .ptr 2 0, .ptr 3 0]], .cells 3 [I a2], .cells 197 [.fn (.func 99) [] [.ptr 1 0, .ptr 2 0]], .cells 200 [.fn (.func 102) [] [.ptr 1 0]]] (fun a H => a = .bool r ∧ H = [.cells 139 [.fn (.func 103) [] [.ptr 1 0, .ptr 2 0, .ptr 3 0]], .cells 3 [I a2], .cells 197 [.fn (.func 99) [] [.ptr 1 0, .ptr 2 0]], .cells 200 [.fn (.func 102) [] [.ptr 1 0]]]) := by
 refine Qd func123 Z Z Z ?_
 refine Rg (U 1 Z (Nx (Rg (U 2 Z (Bd h fun r1 hr1 h => Pc [0, 1, 2, 3] Z (OpC.fn call173 Z Z Z) (k_cx _ _ _ _ hr1) Z (U 2 Z (Nx (TC.ret ?_))))))))
 obtain rfl := Oi h
 exact R1 4 Z (Lr [0, 1, 2, 3])
def F_bo (n : Nat) (a1 : List Distance) (a2 : Int) : Option Bool :=
  (F_dj n a1 a2).bind fun r1 => some (!r1)
theorem k_bo (n : Nat) (a1 : List Distance) (a2 : Int) (r : Bool) (h : F_bo n a1 a2 = some r) :
    C prog 57 [.rsl 5 (List.map Distance.c a1), .fn (.func 103) [] [.ptr 0 0, .ptr 1 0, .ptr 2 0]] [.cells 3 [I a2], .cells 197 [.fn (.func 99) [] [.ptr 0 0, .ptr 1 0]], .cells 200 [.fn (.func 102) [] [.ptr 0 0]]] (fun a H => a = .bool r ∧ H = [.cells 3 [I a2], .cells 197 [.fn (.func 99) [] [.ptr 0 0, .ptr 1 0]], .cells 200 [.fn (.func 102) [] [.ptr 0 0]]]) := by
 refine Qd func57 Z Z Z ?_
 refine Rg (U 2 Z (Nx (Rg (U 2 Z (Bd h fun r1 hr1 h => Pc [3, 0, 1, 2] Z (OpC.fn call123 Z Z Z) (k_dj _ _ _ _ hr1) Z (U 2 Z (Nx (TC.ret ?_))))))))
 obtain rfl := Oi h
 exact R1 4 Z (Lr [0, 1, 2])
def F_cb (n : Nat) (a1 : Wave) : Option Bool :=
  (F_a n 0 1099511627776 [a1.Gun]).bind fun r1 => some r1
theorem k_cb (n : Nat) (a1 : Wave) (r : Bool) (h : F_cb n a1 = some r) :
    C prog 114 [.agg (Wave.c a1)] [] (fun a H => a = .bool r ∧ H = []) := by
 refine Qd func114 Z Z Z ?_
 refine Rg (U 2 Z (Nx (Rg (U 2 Z ?_))))
 refine vH (OpH.lit (xs := [.tmp 4]) (es := List.map (encI .i64) [a1.Gun]) QK Z Z Z Z Z ⟨Z, trivial⟩ Z Z) ?_
 refine FE Z (Bd h fun r1 hr1 h => ?_)
 refine Qh (OpC.fn call100 rfl rfl rfl) (LookL.cons rfl (.inl ⟨rfl, rfl⟩) (LookL.cons rfl (.inl ⟨rfl, rfl⟩) (LookL.cons rfl (.inr ⟨_, _, _, _, _, rfl, rfl, List.length_map .., rfl⟩) LookL.nil))) (k_a _ _ _ _ _ hr1) (by rintro _ _ ⟨rfl, rfl⟩; rfl) ?_
 rintro _ _ ⟨rfl, rfl⟩
 refine FE Z (U 1 Z (Nx (TC.ret ?_)))
 obtain rfl := Oi h
 exact R1 2 Z (Lr [])
def F_dn (n : Nat) (a1 : Wave) : Option Bool :=
  (F_cb n a1).bind fun r1 => some (!r1)
theorem k_dn (n : Nat) (a1 : Wave) (r : Bool) (h : F_dn n a1 = some r) :
    C prog 163 [.agg (Wave.c a1), .ptr 0 0] [.cells 211 [.fn (.func 114) [] []]] (fun a H => a = .bool r ∧ H = [.cells 211 [.fn (.func 114) [] []]]) := by
 refine Qd func163 Z Z Z ?_
 refine Rg (U 2 Z (Nx (Rg (U 2 Z (Bd h fun r1 hr1 h => Pc [] Z (Qj call114 Z Z Z Z) (k_cb _ _ _ hr1) Z (U 2 Z (Nx (TC.ret ?_))))))))
 obtain rfl := Oi h
 exact R1 3 Z (Lr [0])
def F_gv (n : Nat) (a1 : List Wave) (s13 : Int) : Option (Ctl Int (Ctl Unit Int)) :=
  (bif decide (s13 < (a1.length : Int)) then (idx a1 s13).bind fun x17 => (F_dn n x17).bind fun r18 => (bif r18 then some (.done (.done s13)) else some (.cont (IntKind.i64.wrap (s13 + 1)))) else some (.done (.cont ())))
def F_ew (n : Nat) (a1 : List Wave) : Option Int :=
  (iter (F_gv n a1) n 0 : Option (Ctl Unit Int)).bind fun b10 => match b10 with | .cont sb10 => (some (-1)) | .done sb10 => some sb10
theorem k_ew (n : Nat) (a1 : List Wave) (r : Int) (h : F_ew n a1 = some r) :
    C prog 213 [.rsl 2 (List.map Wave.c a1), .fn (.func 163) [] [.ptr 0 0]] [.cells 211 [.fn (.func 114) [] []]] (fun a H => a = I r ∧ H = [.cells 211 [.fn (.func 114) [] []]]) :=
 QJ (el := fun x => .agg (Wave.c x)) (g := fun x => F_dn n x) func213 Z Z Z runUnderlying25 sizeOf127 (fun _ _ _ _ h1 h2 => Qi h1 isAgg127 sizeOf127 h2 Pts.rp Z Z) call163 (fun _ _ h => k_dn _ _ _ h) h
def F_dq (n : Nat) (a1 : List Wave) : Option Bool :=
  (F_ew n a1).bind fun r1 => some (decide (0 ≤ r1))
theorem k_dq (n : Nat) (a1 : List Wave) (r : Bool) (h : F_dq n a1 = some r) :
    C prog 162 [.rsl 2 (List.map Wave.c a1), .fn (.func 163) [] [.ptr 0 0]] [.cells 211 [.fn (.func 114) [] []]] (fun a H => a = .bool r ∧ H = [.cells 211 [.fn (.func 114) [] []]]) := by
 refine Qd func162 Z Z Z ?_
 refine Rg (U 1 Z (Nx (Rg (U 2 Z (Bd h fun r1 hr1 h => Pc [0] Z (OpC.fn call213 Z Z Z) (k_ew _ _ _ hr1) Z (U 2 Z (Nx (TC.ret ?_))))))))
 obtain rfl := Oi h
 exact R1 4 Z (Lr [0])
def F_bf (n : Nat) (a1 : List Wave) : Option Bool :=
  (F_dq n a1).bind fun r1 => some (!r1)
theorem k_bf (n : Nat) (a1 : List Wave) (r : Bool) (h : F_bf n a1 = some r) :
    C prog 113 [.rsl 2 (List.map Wave.c a1), .fn (.func 114) [] []] [] (fun a H => a = .bool r ∧ H = []) := by
 refine Qd func113 Z Z Z ?_
 refine Rg (U 2 Z (Nx (Rg (U 2 Z (Bd h fun r1 hr1 h => Pc [0] Z (OpC.fn call162 Z Z Z) (k_dq _ _ _ hr1) Z (U 2 Z (Nx (TC.ret ?_))))))))
 obtain rfl := Oi h
 exact R1 4 Z (Lr [])
def F_cc (n : Nat) (a1 : Offence) : Option Bool :=
  (bif a1.Out then ((bif (a1.Time == 0) then some (a1.Laps == 0) else some false) : Option Bool).bind fun b3 => some b3 else (bif (a1.Laps != 0) then ((bif (a1.Time == 0) then (F_a n 1 64 [a1.Laps]).bind fun r12 => some r12 else some false) : Option Bool).bind fun b9 => some b9 else (F_a n 0 68719476736 [a1.Time]).bind fun r13 => some r13))
theorem k_cc (n : Nat) (a1 : Offence) (r : Bool) (h : F_cc n a1 = some r) :
    C prog 106 [.agg (Offence.c a1)] [] (fun a H => a = .bool r ∧ H = []) := by
 refine Qd func106 Z Z Z ?_
 refine Rg (U 2 Z (Nx (TC.seq (TC.block (Rg (U 3 Z (Nx (Cn Z h (fun hc1 h => ?_) (fun hc1 h => ?_)))))))))
 ·refine TC.seq (Bd h fun b3 h4 h => ?_)
  refine TC.cut ([(2, .bool b3)]) ([]) ?_ (fun env H hle => ?_)
  ·refine TC.region (U 4 Z (If h4 (fun hg5 h4 => ?_) (fun hg5 h4 => ?_)))
   ·refine QG (gT hg5) Qdr Z (QO (gT hg5) isAgg3 Z (Sg (gT hg5) Z (Pk hg5 Z (U 1 Z (WO.nil ?_)))))
    obtain rfl := Oi h4
    exact cutN (Lr [])
   ·refine KF hg5 Z (KF hg5 Z (KF hg5 Z (Pk hg5 Z (U 1 Z (WO.nil ?_)))))
    obtain rfl := Oi h4
    exact cutN (Lr [])
  refine Qf (TC.le hle (TC.ret (Qm (Ql ?_))))
  obtain rfl := Oi h
  exact R1 2 Z (Lr [])
 refine Rg (U 4 Z (Nx (Cn Z h (fun hc6 h => ?_) (fun hc6 h => ?_))))
 ·refine TC.seq (Bd h fun b9 h10 h => ?_)
  refine TC.cut ([(2, .bool b9)]) ([]) ?_ (fun env H hle => ?_)
  ·refine TC.region (U 4 Z (If h10 (fun hg11 h10 => ?_) (fun hg11 h10 => ?_)))
   ·refine QG (gT hg11) Qdr Z (QO (gT hg11) isAgg3 Z ?_)
    refine vH (OpH.lit (xs := [.tmp 23]) (es := List.map (encI .i64) [a1.Laps]) QK Z Z Z Z Z ⟨Z, trivial⟩ Z Z) ?_ (gT hg11)
    refine FE Z (Bd h10 fun r12 hr12 h10 => ?_)
    refine Qh (OpC.fn call100 rfl rfl rfl) (LookL.cons rfl (.inl ⟨rfl, rfl⟩) (LookL.cons rfl (.inl ⟨rfl, rfl⟩) (LookL.cons rfl (.inr ⟨_, _, _, _, _, rfl, rfl, List.length_map .., rfl⟩) LookL.nil))) (k_a _ _ _ _ _ hr12) (by rintro _ _ ⟨rfl, rfl⟩; rfl) ?_ (gT hg11)
    rintro _ _ ⟨rfl, rfl⟩
    refine FE Z (Pk hg11 Z (U 1 Z (WO.nil ?_)))
    obtain rfl := Oi h10
    exact cutN (Lr [])
   ·refine KF hg11 Z (KF hg11 Z (KF hg11 Z (KF hg11 Z (Pk hg11 Z (U 1 Z (WO.nil ?_))))))
    obtain rfl := Oi h10
    exact cutN (Lr [])
  refine Qf (TC.le hle (TC.ret (Qm (Ql ?_))))
  obtain rfl := Oi h
  exact R1 2 Z (Lr [])
 refine TC.skip (QD (Qf (Rg (U 2 Z ?_))))
 refine vH (OpH.lit (xs := [.tmp 28]) (es := List.map (encI .i64) [a1.Time]) QK Z Z Z Z Z ⟨Z, trivial⟩ Z Z) ?_
 refine FE Z (Bd h fun r13 hr13 h => ?_)
 refine Qh (OpC.fn call100 rfl rfl rfl) (LookL.cons rfl (.inl ⟨rfl, rfl⟩) (LookL.cons rfl (.inl ⟨rfl, rfl⟩) (LookL.cons rfl (.inr ⟨_, _, _, _, _, rfl, rfl, List.length_map .., rfl⟩) LookL.nil))) (k_a _ _ _ _ _ hr13) (by rintro _ _ ⟨rfl, rfl⟩; rfl) ?_
 rintro _ _ ⟨rfl, rfl⟩
 refine FE Z (U 1 Z (Nx (TC.ret ?_)))
 obtain rfl := Oi h
 exact R1 2 Z (Lr [])
def F_en (n : Nat) (a1 : Offence) : Option Bool :=
  (F_cc n a1).bind fun r1 => some (!r1)
theorem k_en (n : Nat) (a1 : Offence) (r : Bool) (h : F_en n a1 = some r) :
    C prog 165 [.agg (Offence.c a1), .ptr 0 0] [.cells 203 [.fn (.func 106) [] []]] (fun a H => a = .bool r ∧ H = [.cells 203 [.fn (.func 106) [] []]]) := by
 refine Qd func165 Z Z Z ?_
 refine Rg (U 2 Z (Nx (Rg (U 2 Z (Bd h fun r1 hr1 h => Pc [] Z (Qj call106 Z Z Z Z) (k_cc _ _ _ hr1) Z (U 2 Z (Nx (TC.ret ?_))))))))
 obtain rfl := Oi h
 exact R1 3 Z (Lr [0])
def F_gj (n : Nat) (a1 : List Offence) (s13 : Int) : Option (Ctl Int (Ctl Unit Int)) :=
  (bif decide (s13 < (a1.length : Int)) then (idx a1 s13).bind fun x17 => (F_en n x17).bind fun r18 => (bif r18 then some (.done (.done s13)) else some (.cont (IntKind.i64.wrap (s13 + 1)))) else some (.done (.cont ())))
def F_ep (n : Nat) (a1 : List Offence) : Option Int :=
  (iter (F_gj n a1) n 0 : Option (Ctl Unit Int)).bind fun b10 => match b10 with | .cont sb10 => (some (-1)) | .done sb10 => some sb10
theorem k_ep (n : Nat) (a1 : List Offence) (r : Int) (h : F_ep n a1 = some r) :
    C prog 214 [.rsl 4 (List.map Offence.c a1), .fn (.func 165) [] [.ptr 0 0]] [.cells 203 [.fn (.func 106) [] []]] (fun a H => a = I r ∧ H = [.cells 203 [.fn (.func 106) [] []]]) :=
 QJ (el := fun x => .agg (Offence.c x)) (g := fun x => F_en n x) func214 Z Z Z runUnderlying26 sizeOf152 (fun _ _ _ _ h1 h2 => Qi h1 isAgg152 sizeOf152 h2 Pts.rp Z Z) call165 (fun _ _ h => k_en _ _ _ h) h
def F_cp (n : Nat) (a1 : List Offence) : Option Bool :=
  (F_ep n a1).bind fun r1 => some (decide (0 ≤ r1))
theorem k_cp (n : Nat) (a1 : List Offence) (r : Bool) (h : F_cp n a1 = some r) :
    C prog 164 [.rsl 4 (List.map Offence.c a1), .fn (.func 165) [] [.ptr 0 0]] [.cells 203 [.fn (.func 106) [] []]] (fun a H => a = .bool r ∧ H = [.cells 203 [.fn (.func 106) [] []]]) := by
 refine Qd func164 Z Z Z ?_
 refine Rg (U 1 Z (Nx (Rg (U 2 Z (Bd h fun r1 hr1 h => Pc [0] Z (OpC.fn call214 Z Z Z) (k_ep _ _ _ hr1) Z (U 2 Z (Nx (TC.ret ?_))))))))
 obtain rfl := Oi h
 exact R1 4 Z (Lr [0])
def F_ce (n : Nat) (a1 : List Offence) : Option Bool :=
  (F_cp n a1).bind fun r1 => some (!r1)
theorem k_ce (n : Nat) (a1 : List Offence) (r : Bool) (h : F_ce n a1 = some r) :
    C prog 115 [.rsl 4 (List.map Offence.c a1), .fn (.func 106) [] []] [] (fun a H => a = .bool r ∧ H = []) := by
 refine Qd func115 Z Z Z ?_
 refine Rg (U 2 Z (Nx (Rg (U 2 Z (Bd h fun r1 hr1 h => Pc [0] Z (OpC.fn call164 Z Z Z) (k_cp _ _ _ hr1) Z (U 2 Z (Nx (TC.ret ?_))))))))
 obtain rfl := Oi h
 exact R1 4 Z (Lr [])
def F_bv (n : Nat) (a1 : Category) : Option Bool :=
  ((F_a n 0 120 [a1.From, a1.To]).bind fun r5 => (bif r5 then some (decide (a1.From ≤ a1.To)) else some false) : Option Bool).bind fun b3 => some b3
theorem k_bv (n : Nat) (a1 : Category) (r : Bool) (h : F_bv n a1 = some r) :
    C prog 117 [.agg (Category.c a1)] [] (fun a H => a = .bool r ∧ H = []) := by
 refine Qd func117 Z Z Z ?_
 refine Rg (U 2 Z (Nx (TC.seq (Bd h fun b3 h4 h => ?_))))
 refine TC.cut ([(2, .bool b3)]) ([]) ?_ (fun env H hle => ?_)
 ·refine TC.region (U 4 Z ?_)
  refine vH (OpH.lit (xs := [.tmp 4, .tmp 6]) (es := List.map (encI .i64) [a1.From, a1.To]) QK Z Z Z Z Z ⟨Z, Z, trivial⟩ Z Z) ?_
  refine FE Z (Bd h4 fun r5 hr5 h4 => ?_)
  refine Qh (OpC.fn call100 rfl rfl rfl) (LookL.cons rfl (.inl ⟨rfl, rfl⟩) (LookL.cons rfl (.inl ⟨rfl, rfl⟩) (LookL.cons rfl (.inr ⟨_, _, _, _, _, rfl, rfl, List.length_map .., rfl⟩) LookL.nil))) (k_a _ _ _ _ _ hr5) (by rintro _ _ ⟨rfl, rfl⟩; rfl) ?_
  rintro _ _ ⟨rfl, rfl⟩
  refine FE Z (U 1 Z (If h4 (fun hg6 h4 => ?_) (fun hg6 h4 => ?_)))
  ·refine QG (gT hg6) Qfm Z (QO (gT hg6) isAgg3 Z (QG (gT hg6) Qfl Z (QO (gT hg6) isAgg3 Z (Sg (gT hg6) Z (Pk hg6 Z (U 1 Z (WO.nil ?_)))))))
   obtain rfl := Oi h4
   exact cutN (Lr [])
  ·refine KF hg6 Z (KF hg6 Z (KF hg6 Z (KF hg6 Z (KF hg6 Z (Pk hg6 Z (U 1 Z (WO.nil ?_)))))))
   obtain rfl := Oi h4
   exact cutN (Lr [])
 refine Qf (TC.le hle (TC.ret ?_))
 obtain rfl := Oi h
 exact R1 2 Z (Lr [])
def F_ev (n : Nat) (a1 : Category) : Option Bool :=
  (F_bv n a1).bind fun r1 => some (!r1)
theorem k_ev (n : Nat) (a1 : Category) (r : Bool) (h : F_ev n a1 = some r) :
    C prog 167 [.agg (Category.c a1), .ptr 0 0] [.cells 214 [.fn (.func 117) [] []]] (fun a H => a = .bool r ∧ H = [.cells 214 [.fn (.func 117) [] []]]) := by
 refine Qd func167 Z Z Z ?_
 refine Rg (U 2 Z (Nx (Rg (U 2 Z (Bd h fun r1 hr1 h => Pc [] Z (Qj call117 Z Z Z Z) (k_bv _ _ _ hr1) Z (U 2 Z (Nx (TC.ret ?_))))))))
 obtain rfl := Oi h
 exact R1 3 Z (Lr [0])
def F_go (n : Nat) (a1 : List Category) (s13 : Int) : Option (Ctl Int (Ctl Unit Int)) :=
  (bif decide (s13 < (a1.length : Int)) then (idx a1 s13).bind fun x17 => (F_ev n x17).bind fun r18 => (bif r18 then some (.done (.done s13)) else some (.cont (IntKind.i64.wrap (s13 + 1)))) else some (.done (.cont ())))
def F_dm (n : Nat) (a1 : List Category) : Option Int :=
  (iter (F_go n a1) n 0 : Option (Ctl Unit Int)).bind fun b10 => match b10 with | .cont sb10 => (some (-1)) | .done sb10 => some sb10
theorem k_dm (n : Nat) (a1 : List Category) (r : Int) (h : F_dm n a1 = some r) :
    C prog 215 [.rsl 3 (List.map Category.c a1), .fn (.func 167) [] [.ptr 0 0]] [.cells 214 [.fn (.func 117) [] []]] (fun a H => a = I r ∧ H = [.cells 214 [.fn (.func 117) [] []]]) :=
 QJ (el := fun x => .agg (Category.c x)) (g := fun x => F_ev n x) func215 Z Z Z runUnderlying27 sizeOf154 (fun _ _ _ _ h1 h2 => Qi h1 isAgg154 sizeOf154 h2 Pts.rp Z Z) call167 (fun _ _ h => k_ev _ _ _ h) h
def F_dk (n : Nat) (a1 : List Category) : Option Bool :=
  (F_dm n a1).bind fun r1 => some (decide (0 ≤ r1))
theorem k_dk (n : Nat) (a1 : List Category) (r : Bool) (h : F_dk n a1 = some r) :
    C prog 166 [.rsl 3 (List.map Category.c a1), .fn (.func 167) [] [.ptr 0 0]] [.cells 214 [.fn (.func 117) [] []]] (fun a H => a = .bool r ∧ H = [.cells 214 [.fn (.func 117) [] []]]) := by
 refine Qd func166 Z Z Z ?_
 refine Rg (U 1 Z (Nx (Rg (U 2 Z (Bd h fun r1 hr1 h => Pc [0] Z (OpC.fn call215 Z Z Z) (k_dm _ _ _ hr1) Z (U 2 Z (Nx (TC.ret ?_))))))))
 obtain rfl := Oi h
 exact R1 4 Z (Lr [0])
def F_bn (n : Nat) (a1 : List Category) : Option Bool :=
  (F_dk n a1).bind fun r1 => some (!r1)
theorem k_bn (n : Nat) (a1 : List Category) (r : Bool) (h : F_bn n a1 = some r) :
    C prog 116 [.rsl 3 (List.map Category.c a1), .fn (.func 117) [] []] [] (fun a H => a = .bool r ∧ H = []) := by
 refine Qd func116 Z Z Z ?_
 refine Rg (U 2 Z (Nx (Rg (U 2 Z (Bd h fun r1 hr1 h => Pc [0] Z (OpC.fn call166 Z Z Z) (k_dk _ _ _ hr1) Z (U 2 Z (Nx (TC.ret ?_))))))))
 obtain rfl := Oi h
 exact R1 4 Z (Lr [])
def F_cl (n : Nat) (a1 : Prize) (a2 : Course) : Option Bool :=
  ((F_a n 0 (IntKind.i64.wrap ((a2.Distances.length : Int) - 1)) [a1.Distance]).bind fun r10 => (bif r10 then (F_a n (-1) (IntKind.i64.wrap ((a2.Categories.length : Int) - 1)) [a1.Category]).bind fun r12 => (bif r12 then (F_a n 1 4000 [a1.Rank]).bind fun r14 => (bif r14 then (F_a n 1 1125899906842624 [a1.Amount]).bind fun r16 => some r16 else some false) else some false) else some false) : Option Bool).bind fun b8 => some b8
theorem k_cl (n : Nat) (a1 : Prize) (a2 : Course) (r : Bool) (h : F_cl n a1 a2 = some r) :
    C prog 107 [.agg (Prize.c a1), .ptr 0 0] [.cells 33 (Course.c a2)] (fun a H => a = .bool r ∧ H = [.cells 33 (Course.c a2)]) := by
 refine Qd func107 Z Z Z ?_
 refine Rg (U 2 Z (Nx (TC.seq (Bd h fun b8 h9 h => ?_))))
 refine TC.cut ([(3, .bool b8)]) ([.cells 33 (Course.c a2)]) ?_ (fun env H hle => ?_)
 ·refine TC.region (U 2 Z (LnM runUnderlying24 Z (U 3 Z ?_)))
  refine vH (OpH.lit (xs := [.tmp 9]) (es := List.map (encI .i64) [a1.Distance]) QK Z Z Z Z Z ⟨Z, trivial⟩ Z Z) ?_
  refine FE Z (Bd h9 fun r10 hr10 h9 => ?_)
  refine Qh (OpC.fn call100 rfl rfl rfl) (LookL.cons rfl (.inl ⟨rfl, rfl⟩) (LookL.cons rfl (.inl ⟨rfl, rfl⟩) (LookL.cons rfl (.inr ⟨_, _, _, _, _, rfl, rfl, List.length_map .., rfl⟩) LookL.nil))) (k_a _ _ _ _ _ hr10) (by rintro _ _ ⟨rfl, rfl⟩; rfl) ?_
  rintro _ _ ⟨rfl, rfl⟩
  refine FE Z (U 1 Z (If h9 (fun hg11 h9 => ?_) (fun hg11 h9 => ?_)))
  ·refine QG (gT hg11) QbV Z (QO (gT hg11) isAgg27 Z ?_)
   refine vX (I (a2.Categories.length : Int)) (Qk (e := Category.c) (l := a2.Categories) runUnderlying27) ?_ (gT hg11)
   refine Sg (gT hg11) Z (QG (gT hg11) Qfk Z (QO (gT hg11) isAgg3 Z ?_))
   refine vH (OpH.lit (xs := [.tmp 18]) (es := List.map (encI .i64) [a1.Category]) QK Z Z Z Z Z ⟨Z, trivial⟩ Z Z) ?_ (gT hg11)
   refine FE Z (Bd h9 fun r12 hr12 h9 => ?_)
   refine Qh (OpC.fn call100 rfl rfl rfl) (LookL.cons rfl (.inl ⟨rfl, rfl⟩) (LookL.cons rfl (.inl ⟨rfl, rfl⟩) (LookL.cons rfl (.inr ⟨_, _, _, _, _, rfl, rfl, List.length_map .., rfl⟩) LookL.nil))) (k_a _ _ _ _ _ hr12) (by rintro _ _ ⟨rfl, rfl⟩; rfl) ?_ (gT hg11)
   rintro _ _ ⟨rfl, rfl⟩
   refine FE Z (Pk hg11 Z (U 1 Z (If h9 (fun hg13 h9 => ?_) (fun hg13 h9 => ?_))))
   ·refine QG (gT hg13) Qfj Z (QO (gT hg13) isAgg3 Z ?_)
    refine vH (OpH.lit (xs := [.tmp 24]) (es := List.map (encI .i64) [a1.Rank]) QK Z Z Z Z Z ⟨Z, trivial⟩ Z Z) ?_ (gT hg13)
    refine FE Z (Bd h9 fun r14 hr14 h9 => ?_)
    refine Qh (OpC.fn call100 rfl rfl rfl) (LookL.cons rfl (.inl ⟨rfl, rfl⟩) (LookL.cons rfl (.inl ⟨rfl, rfl⟩) (LookL.cons rfl (.inr ⟨_, _, _, _, _, rfl, rfl, List.length_map .., rfl⟩) LookL.nil))) (k_a _ _ _ _ _ hr14) (by rintro _ _ ⟨rfl, rfl⟩; rfl) ?_ (gT hg13)
    rintro _ _ ⟨rfl, rfl⟩
    refine FE Z (Pk hg13 Z (U 1 Z (If h9 (fun hg15 h9 => ?_) (fun hg15 h9 => ?_))))
    ·refine QG (gT hg15) QiJ Z (QO (gT hg15) isAgg3 Z ?_)
     refine vH (OpH.lit (xs := [.tmp 30]) (es := List.map (encI .i64) [a1.Amount]) QK Z Z Z Z Z ⟨Z, trivial⟩ Z Z) ?_ (gT hg15)
     refine FE Z (Bd h9 fun r16 hr16 h9 => ?_)
     refine Qh (OpC.fn call100 rfl rfl rfl) (LookL.cons rfl (.inl ⟨rfl, rfl⟩) (LookL.cons rfl (.inl ⟨rfl, rfl⟩) (LookL.cons rfl (.inr ⟨_, _, _, _, _, rfl, rfl, List.length_map .., rfl⟩) LookL.nil))) (k_a _ _ _ _ _ hr16) (by rintro _ _ ⟨rfl, rfl⟩; rfl) ?_ (gT hg15)
     rintro _ _ ⟨rfl, rfl⟩
     refine FE Z (Pk hg15 Z (U 1 Z (WO.nil ?_)))
     obtain rfl := Oi h9
     exact cutN (Lr [0])
    ·refine KF hg15 Z (KF hg15 Z (KF hg15 Z (KF hg15 Z (Pk hg15 Z (U 1 Z (WO.nil ?_))))))
     obtain rfl := Oi h9
     exact cutN (Lr [0])
   ·refine KF hg13 Z (KF hg13 Z (KF hg13 Z (KF hg13 Z (Pk hg13 Z (U 7 Z (WO.nil ?_))))))
    obtain rfl := Oi h9
    exact cutN (Lr [0])
  ·refine KF hg11 Z (KF hg11 Z (KF hg11 Z (KF hg11 Z (KF hg11 Z (KF hg11 Z (KF hg11 Z (KF hg11 Z (Pk hg11 Z (U 13 Z (WO.nil ?_))))))))))
   obtain rfl := Oi h9
   exact cutN (Lr [0])
 refine Qf (TC.le hle (TC.ret ?_))
 obtain rfl := Oi h
 exact R1 3 Z (Lr [0])
def F_db (n : Nat) (a1 : Prize) (a2 : Course) : Option Bool :=
  (F_cl n a1 a2).bind fun r1 => some (!r1)
theorem k_db (n : Nat) (a1 : Prize) (a2 : Course) (r : Bool) (h : F_db n a1 a2 = some r) :
    C prog 169 [.agg (Prize.c a1), .ptr 0 0] [.cells 204 [.fn (.func 107) [] [.ptr 1 0]], .cells 33 (Course.c a2)] (fun a H => a = .bool r ∧ H = [.cells 204 [.fn (.func 107) [] [.ptr 1 0]], .cells 33 (Course.c a2)]) := by
 refine Qd func169 Z Z Z ?_
 refine Rg (U 2 Z (Nx (Rg (U 2 Z (Bd h fun r1 hr1 h => Pc [1] Z (Qj call107 Z Z Z Z) (k_cl _ _ _ _ hr1) Z (U 2 Z (Nx (TC.ret ?_))))))))
 obtain rfl := Oi h
 exact R1 3 Z (Lr [0, 1])
def F_gg (n : Nat) (a1 : List Prize) (a2 : Course) (s13 : Int) : Option (Ctl Int (Ctl Unit Int)) :=
  (bif decide (s13 < (a1.length : Int)) then (idx a1 s13).bind fun x17 => (F_db n x17 a2).bind fun r18 => (bif r18 then some (.done (.done s13)) else some (.cont (IntKind.i64.wrap (s13 + 1)))) else some (.done (.cont ())))
def F_el (n : Nat) (a1 : List Prize) (a2 : Course) : Option Int :=
  (iter (F_gg n a1 a2) n 0 : Option (Ctl Unit Int)).bind fun b10 => match b10 with | .cont sb10 => (some (-1)) | .done sb10 => some sb10
theorem k_el (n : Nat) (a1 : List Prize) (a2 : Course) (r : Int) (h : F_el n a1 a2 = some r) :
    C prog 216 [.rsl 4 (List.map Prize.c a1), .fn (.func 169) [] [.ptr 0 0]] [.cells 204 [.fn (.func 107) [] [.ptr 1 0]], .cells 33 (Course.c a2)] (fun a H => a = I r ∧ H = [.cells 204 [.fn (.func 107) [] [.ptr 1 0]], .cells 33 (Course.c a2)]) :=
 QJ (el := fun x => .agg (Prize.c x)) (g := fun x => F_db n x a2) func216 Z Z Z runUnderlying28 sizeOf160 (fun _ _ _ _ h1 h2 => Qi h1 isAgg160 sizeOf160 h2 Pts.rp Z Z) call169 (fun _ _ h => k_db _ _ _ _ h) h
def F_dh (n : Nat) (a1 : List Prize) (a2 : Course) : Option Bool :=
  (F_el n a1 a2).bind fun r1 => some (decide (0 ≤ r1))
theorem k_dh (n : Nat) (a1 : List Prize) (a2 : Course) (r : Bool) (h : F_dh n a1 a2 = some r) :
    C prog 168 [.rsl 4 (List.map Prize.c a1), .fn (.func 169) [] [.ptr 0 0]] [.cells 204 [.fn (.func 107) [] [.ptr 1 0]], .cells 33 (Course.c a2)] (fun a H => a = .bool r ∧ H = [.cells 204 [.fn (.func 107) [] [.ptr 1 0]], .cells 33 (Course.c a2)]) := by
 refine Qd func168 Z Z Z ?_
 refine Rg (U 1 Z (Nx (Rg (U 2 Z (Bd h fun r1 hr1 h => Pc [0, 1] Z (OpC.fn call216 Z Z Z) (k_el _ _ _ _ hr1) Z (U 2 Z (Nx (TC.ret ?_))))))))
 obtain rfl := Oi h
 exact R1 4 Z (Lr [0, 1])
def F_bx (n : Nat) (a1 : List Prize) (a2 : Course) : Option Bool :=
  (F_dh n a1 a2).bind fun r1 => some (!r1)
theorem k_bx (n : Nat) (a1 : List Prize) (a2 : Course) (r : Bool) (h : F_bx n a1 a2 = some r) :
    C prog 118 [.rsl 4 (List.map Prize.c a1), .fn (.func 107) [] [.ptr 0 0]] [.cells 33 (Course.c a2)] (fun a H => a = .bool r ∧ H = [.cells 33 (Course.c a2)]) := by
 refine Qd func118 Z Z Z ?_
 refine Rg (U 2 Z (Nx (Rg (U 2 Z (Bd h fun r1 hr1 h => Pc [1, 0] Z (OpC.fn call168 Z Z Z) (k_dh _ _ _ _ hr1) Z (U 2 Z (Nx (TC.ret ?_))))))))
 obtain rfl := Oi h
 exact R1 4 Z (Lr [0])
def F_dv (n : Nat) (a1 : Prize) : Option Unit :=
  some ()
theorem k_dv (n : Nat) (a1 : Prize) (r : Unit) (h : F_dv n a1 = some r) :
    C prog 120 [.agg (Prize.c a1)] [] (fun a H => a = .agg [I a1.Distance, I a1.Category, I a1.Rank] ∧ H = [.cells 218 [I a1.Distance, I a1.Category, I a1.Rank]]) := by
 refine Qd func120 Z Z Z ?_
 refine Rg (U 2 Z (Nx (Rg (U 8 Z (Nx (TC.ret ?_))))))
 obtain rfl := Oi h
 refine ⟨[(2, .ptr 0 0)], [.cells 218 [I a1.Distance, I a1.Category, I a1.Rank]], _, ?_, YK Z (Qn isAgg218 sizeOf218 Z Z Z), Z, Z⟩
 exact Lr [1]
def F_fu (n : Nat) (a1 : List Prize) (s13 : (List (typing_place × Bool)) × Int) : Option (Ctl ((List (typing_place × Bool)) × Int) (List (typing_place × Bool))) :=
  (bif decide (s13.2 < (a1.length : Int)) then (idx a1 s13.2).bind fun x17 => (F_dv n x17).bind fun r18 => (some (mset s13.1 ({ distance := x17.Distance, category := x17.Category, rank := x17.Rank : typing_place }) true)).bind fun m19 => some (.cont (m19, IntKind.i64.wrap (s13.2 + 1))) else some (.done s13.1))
def F_bq (n : Nat) (a1 : List Prize) : Option Bool :=
  (iter (F_fu n a1) n ([], 0) : Option (List (typing_place × Bool))).bind fun b10 => some ((b10.length : Int) == (a1.length : Int))
theorem k_bq (n : Nat) (a1 : List Prize) (r : Bool) (h : F_bq n a1 = some r) :
    C prog 119 [.rsl 4 (List.map Prize.c a1), .fn (.func 120) [] []] [] (fun a H => a = .bool r ∧ H = []) := by
 refine Qd func119 Z Z Z ?_
 refine Rg (U 1 Z (Nx (Rg ?_)))
 refine vH QT ?_
 refine FE Z (U 1 Z (Nx (TC.seq (Rg (U 1 Z (LnM runUnderlying28 Z (U 1 Z (Nx (Bd h fun b10 h11 h => ?_)))))))))
 refine TC.cut ([(0, .rsl 4 (List.map Prize.c a1)), (5, .map 0)]) ([.map (menc (fun x => A.agg (typing_place.c x)) A.bool b10)]) ?_ (fun env H hle => ?_)
 ·refine TC.block ?_
  refine TC.loop (E := fun s13 => [(0, .rsl 4 (List.map Prize.c a1)), (1, .fn (.func 120) [] []), (5, .map 0), (9, .rsl 4 (List.map Prize.c a1)), (10, I (a1.length : Int)), (11, I s13.2)]) (Hp := fun s13 => [.map (menc (fun x => A.agg (typing_place.c x)) A.bool s13.1)]) h11 ?_ ?_
  ·exact Lr [0]
  intro s13 d14 h15 hb12
  refine Rg (U 1 Z (Nx (TC.seq (CnS Z h15 (fun hc16 h15 => ?_) (fun hc16 h15 => ?_)))))
  ·refine ExX (Qz h15 ?_)
   obtain rfl := hb12 _ (Oi h15).symm
   exact QQ (cutN (Lr [0]))
  refine QU (TC.seq (TC.block (Rg (Bd h15 fun x17 hx17 h15 => Ix hx17 runUnderlying28 sizeOf160 Z (U 3 Z (Nx (TC.region (U 3 Z (Bd h15 fun r18 hr18 h15 => ?_)))))))))
  refine Qe [] (Qj call120 Z Z Z Z) (k_dv _ _ _ hr18) ?_
  rintro _ _ ⟨rfl, rfl⟩
  refine FE Z (Bd h15 fun m19 hm19 h15 => ?_)
  refine vU (Q8 (ev := A.bool) (k := ({ distance := x17.Distance, category := x17.Category, rank := x17.Rank : typing_place })) (v := true) (l := s13.1) QjE hm19 Z underlying253) ?_
  exact FE Z (WO.nil (QD (Qf (TC.region (U 2 Z (WO.nil (Qu h15 (Lr [0]))))))))
 refine Qf (TC.le hle (Rg (U 1 Z ?_)))
 refine vX (I (b10.length : Int)) (Qa4 (l := b10) underlying253 Z) ?_
 refine U 1 Z (LnM runUnderlying28 Z (U 2 Z (Nx (TC.ret ?_))))
 obtain rfl := Oi h
 exact R1 4 Z (Lr [])
def F_bz (n : Nat) (a1 : Course) : Option Bool :=
  ((F_bi n a1.Mats).bind fun r30 => (bif r30 then (F_av n a1.Legs (IntKind.i64.wrap ((a1.Mats.length : Int) - 1))).bind fun r32 => (bif r32 then (F_bd n a1.Legs).bind fun r34 => (bif r34 then (F_bo n a1.Distances (IntKind.i64.wrap ((a1.Mats.length : Int) - 1))).bind fun r36 => (bif r36 then (F_bf n a1.Waves).bind fun r38 => (bif r38 then (F_ce n a1.Offences).bind fun r40 => (bif r40 then (F_bn n a1.Categories).bind fun r42 => (bif r42 then (F_bx n a1.Prizes a1).bind fun r44 => (bif r44 then (F_bq n a1.Prizes).bind fun r46 => (bif r46 then (F_a n 0 16 [a1.Faults.Misses, a1.Faults.Strays]).bind fun r48 => (bif r48 then (F_a n 0 4294967296 [a1.Faults.Window, a1.Faults.Residual]).bind fun r50 => (bif r50 then (F_a n 0 100000 [a1.Faults.Drift]).bind fun r52 => (bif r52 then (F_a n 0 1125899906842624 [a1.Fee]).bind fun r54 => (bif r54 then (F_a n 0 1099511627776 [a1.Deadline]).bind fun r56 => some r56 else some false) else some false) else some false) else some false) else some false) else some false) else some false) else some false) else some false) else some false) else some false) else some false) else some false) : Option Bool).bind fun b28 => some b28
theorem k_bz (n : Nat) (a1 : Course) (r : Bool) (h : F_bz n a1 = some r) :
    C prog 55 [.agg (Course.c a1)] [] (fun a H => a = .bool r ∧ H = []) := by
 refine Qd func55 Z Z Z ?_
 refine Rg (U 2 Z (Nx (Rg (U 2 Z (LnM runUnderlying22 Z (U 3 Z (Nx (Rg (U 1 Z (Nx (Rg (U 2 Z (Nx (Rg (U 3 Z (Nx (Rg (U 2 Z (Nx (Rg (U 2 Z (Nx (Rg (U 1 Z ?_))))))))))))))))))))))))
 refine Nx (Rg (U 2 Z (Nx (Rg (U 4 Z (Nx (TC.seq (Bd h fun b28 h29 h => ?_))))))))
 refine TC.cut ([(2, .bool b28)]) ([]) ?_ (fun env H hle => ?_)
 ·refine TC.region (U 2 Z (Bd h29 fun r30 hr30 h29 => Pc [] Z (OpC.fn call108 Z Z Z) (k_bi _ _ _ hr30) Z (U 1 Z (If h29 (fun hg31 h29 => ?_) (fun hg31 h29 => ?_)))))
  ·refine QG (gT hg31) QbX Z (QO (gT hg31) isAgg23 Z (Sg (gT hg31) Z (Bd h29 fun r32 hr32 h29 => ?_)))
   refine Qe [1] (OpC.fn call110 Z Z Z) (k_av _ _ _ _ hr32) ?_ (hg := (gT hg31))
   rintro _ _ ⟨rfl, rfl⟩
   refine FE Z (Pk hg31 Z (U 1 Z (If h29 (fun hg33 h29 => ?_) (fun hg33 h29 => ?_))))
   ·refine QG (gT hg33) QbX Z (QO (gT hg33) isAgg23 Z (Bd h29 fun r34 hr34 h29 => Pc [] Z (OpC.fn call111 Z Z Z) (k_bd _ _ _ hr34) (hg := (gT hg33)) Z (Pk hg33 Z (U 1 Z (If h29 (fun hg35 h29 => ?_) (fun hg35 h29 => ?_))))))
    ·refine QG (gT hg35) QaF Z (QO (gT hg35) isAgg24 Z (Sg (gT hg35) Z (Bd h29 fun r36 hr36 h29 => Pc [1, 2, 3] Z (OpC.fn call57 Z Z Z) (k_bo _ _ _ _ hr36) (hg := (gT hg35)) Z (Pk hg35 Z (U 1 Z (If h29 (fun hg37 h29 => ?_) (fun hg37 h29 => ?_)))))))
     ·refine QG (gT hg37) QbW Z (QO (gT hg37) isAgg25 Z (Bd h29 fun r38 hr38 h29 => Pc [] Z (OpC.fn call113 Z Z Z) (k_bf _ _ _ hr38) (hg := (gT hg37)) Z (Pk hg37 Z (U 1 Z (If h29 (fun hg39 h29 => ?_) (fun hg39 h29 => ?_))))))
      ·refine QG (gT hg39) QcW Z (QO (gT hg39) isAgg26 Z (Sg (gT hg39) Z (Bd h29 fun r40 hr40 h29 => Pc [] Z (OpC.fn call115 Z Z Z) (k_ce _ _ _ hr40) (hg := (gT hg39)) Z (Pk hg39 Z (U 1 Z (If h29 (fun hg41 h29 => ?_) (fun hg41 h29 => ?_)))))))
       ·refine QG (gT hg41) QbV Z (QO (gT hg41) isAgg27 Z (Bd h29 fun r42 hr42 h29 => Pc [] Z (OpC.fn call116 Z Z Z) (k_bn _ _ _ hr42) (hg := (gT hg41)) Z (Pk hg41 Z (U 1 Z (If h29 (fun hg43 h29 => ?_) (fun hg43 h29 => ?_))))))
        ·refine QG (gT hg43) QcV Z (QO (gT hg43) isAgg28 Z (Sg (gT hg43) Z (Bd h29 fun r44 hr44 h29 => Pc [0] Z (OpC.fn call118 Z Z Z) (k_bx _ _ _ _ hr44) (hg := (gT hg43)) Z (Pk hg43 Z (U 1 Z (If h29 (fun hg45 h29 => ?_) (fun hg45 h29 => ?_)))))))
         ·refine QG (gT hg45) QcV Z (QO (gT hg45) isAgg28 Z (Bd h29 fun r46 hr46 h29 => Pc [] Z (OpC.fn call119 Z Z Z) (k_bq _ _ _ hr46) (hg := (gT hg45)) Z (Pk hg45 Z (U 1 Z (If h29 (fun hg47 h29 => ?_) (fun hg47 h29 => ?_))))))
          ·refine QG (gT hg47) QkJ Z (QO (gT hg47) isAgg3 Z (QG (gT hg47) QkI Z (QO (gT hg47) isAgg3 Z ?_)))
           refine vH (OpH.lit (xs := [.tmp 71, .tmp 73]) (es := List.map (encI .i64) [a1.Faults.Misses, a1.Faults.Strays]) QK Z Z Z Z Z ⟨Z, Z, trivial⟩ Z Z) ?_ (gT hg47)
           refine FE Z (Bd h29 fun r48 hr48 h29 => ?_)
           refine Qh (OpC.fn call100 rfl rfl rfl) (LookL.cons rfl (.inl ⟨rfl, rfl⟩) (LookL.cons rfl (.inl ⟨rfl, rfl⟩) (LookL.cons rfl (.inr ⟨_, _, _, _, _, rfl, rfl, List.length_map .., rfl⟩) LookL.nil))) (k_a _ _ _ _ _ hr48) (by rintro _ _ ⟨rfl, rfl⟩; rfl) ?_ (gT hg47)
           rintro _ _ ⟨rfl, rfl⟩
           refine FE Z (Pk hg47 Z (U 1 Z (If h29 (fun hg49 h29 => ?_) (fun hg49 h29 => ?_))))
           ·refine QG (gT hg49) QkH Z (QO (gT hg49) isAgg3 Z (QG (gT hg49) QkG Z (QO (gT hg49) isAgg3 Z ?_)))
            refine vH (OpH.lit (xs := [.tmp 79, .tmp 81]) (es := List.map (encI .i64) [a1.Faults.Window, a1.Faults.Residual]) QK Z Z Z Z Z ⟨Z, Z, trivial⟩ Z Z) ?_ (gT hg49)
            refine FE Z (Bd h29 fun r50 hr50 h29 => ?_)
            refine Qh (OpC.fn call100 rfl rfl rfl) (LookL.cons rfl (.inl ⟨rfl, rfl⟩) (LookL.cons rfl (.inl ⟨rfl, rfl⟩) (LookL.cons rfl (.inr ⟨_, _, _, _, _, rfl, rfl, List.length_map .., rfl⟩) LookL.nil))) (k_a _ _ _ _ _ hr50) (by rintro _ _ ⟨rfl, rfl⟩; rfl) ?_ (gT hg49)
            rintro _ _ ⟨rfl, rfl⟩
            refine FE Z (Pk hg49 Z (U 1 Z (If h29 (fun hg51 h29 => ?_) (fun hg51 h29 => ?_))))
            ·refine QG (gT hg51) QkF Z (QO (gT hg51) isAgg3 Z ?_)
             refine vH (OpH.lit (xs := [.tmp 87]) (es := List.map (encI .i64) [a1.Faults.Drift]) QK Z Z Z Z Z ⟨Z, trivial⟩ Z Z) ?_ (gT hg51)
             refine FE Z (Bd h29 fun r52 hr52 h29 => ?_)
             refine Qh (OpC.fn call100 rfl rfl rfl) (LookL.cons rfl (.inl ⟨rfl, rfl⟩) (LookL.cons rfl (.inl ⟨rfl, rfl⟩) (LookL.cons rfl (.inr ⟨_, _, _, _, _, rfl, rfl, List.length_map .., rfl⟩) LookL.nil))) (k_a _ _ _ _ _ hr52) (by rintro _ _ ⟨rfl, rfl⟩; rfl) ?_ (gT hg51)
             rintro _ _ ⟨rfl, rfl⟩
             refine FE Z (Pk hg51 Z (U 1 Z (If h29 (fun hg53 h29 => ?_) (fun hg53 h29 => ?_))))
             ·refine QG (gT hg53) Qiz Z (QO (gT hg53) isAgg3 Z ?_)
              refine vH (OpH.lit (xs := [.tmp 93]) (es := List.map (encI .i64) [a1.Fee]) QK Z Z Z Z Z ⟨Z, trivial⟩ Z Z) ?_ (gT hg53)
              refine FE Z (Bd h29 fun r54 hr54 h29 => ?_)
              refine Qh (OpC.fn call100 rfl rfl rfl) (LookL.cons rfl (.inl ⟨rfl, rfl⟩) (LookL.cons rfl (.inl ⟨rfl, rfl⟩) (LookL.cons rfl (.inr ⟨_, _, _, _, _, rfl, rfl, List.length_map .., rfl⟩) LookL.nil))) (k_a _ _ _ _ _ hr54) (by rintro _ _ ⟨rfl, rfl⟩; rfl) ?_ (gT hg53)
              rintro _ _ ⟨rfl, rfl⟩
              refine FE Z (Pk hg53 Z (U 1 Z (If h29 (fun hg55 h29 => ?_) (fun hg55 h29 => ?_))))
              ·refine QG (gT hg55) Qiy Z (QO (gT hg55) isAgg3 Z ?_)
               refine vH (OpH.lit (xs := [.tmp 99]) (es := List.map (encI .i64) [a1.Deadline]) QK Z Z Z Z Z ⟨Z, trivial⟩ Z Z) ?_ (gT hg55)
               refine FE Z (Bd h29 fun r56 hr56 h29 => ?_)
               refine Qh (OpC.fn call100 rfl rfl rfl) (LookL.cons rfl (.inl ⟨rfl, rfl⟩) (LookL.cons rfl (.inl ⟨rfl, rfl⟩) (LookL.cons rfl (.inr ⟨_, _, _, _, _, rfl, rfl, List.length_map .., rfl⟩) LookL.nil))) (k_a _ _ _ _ _ hr56) (by rintro _ _ ⟨rfl, rfl⟩; rfl) ?_ (gT hg55)
               rintro _ _ ⟨rfl, rfl⟩
               refine FE Z (Pk hg55 Z (U 1 Z (WO.nil ?_)))
               obtain rfl := Oi h29
               exact cutN (Lr [])
              ·refine KF hg55 Z (KF hg55 Z (KF hg55 Z (KF hg55 Z (Pk hg55 Z (U 1 Z (WO.nil ?_))))))
               obtain rfl := Oi h29
               exact cutN (Lr [])
             ·refine KF hg53 Z (KF hg53 Z (KF hg53 Z (KF hg53 Z (Pk hg53 Z (U 7 Z (WO.nil ?_))))))
              obtain rfl := Oi h29
              exact cutN (Lr [])
            ·refine KF hg51 Z (KF hg51 Z (KF hg51 Z (KF hg51 Z (Pk hg51 Z (U 13 Z (WO.nil ?_))))))
             obtain rfl := Oi h29
             exact cutN (Lr [])
           ·refine KF hg49 Z (KF hg49 Z (KF hg49 Z (KF hg49 Z (KF hg49 Z (KF hg49 Z (Pk hg49 Z (U 19 Z (WO.nil ?_))))))))
            obtain rfl := Oi h29
            exact cutN (Lr [])
          ·refine KF hg47 Z (KF hg47 Z (KF hg47 Z (KF hg47 Z (KF hg47 Z (KF hg47 Z (Pk hg47 Z (U 27 Z (WO.nil ?_))))))))
           obtain rfl := Oi h29
           exact cutN (Lr [])
         ·refine KF hg45 Z (KF hg45 Z (KF hg45 Z (Pk hg45 Z (U 35 Z (WO.nil ?_)))))
          obtain rfl := Oi h29
          exact cutN (Lr [])
        ·refine KF hg43 Z (KF hg43 Z (KF hg43 Z (KF hg43 Z (Pk hg43 Z (U 40 Z (WO.nil ?_))))))
         obtain rfl := Oi h29
         exact cutN (Lr [])
       ·refine KF hg41 Z (KF hg41 Z (KF hg41 Z (Pk hg41 Z (U 46 Z (WO.nil ?_)))))
        obtain rfl := Oi h29
        exact cutN (Lr [])
      ·refine KF hg39 Z (KF hg39 Z (KF hg39 Z (KF hg39 Z (Pk hg39 Z (U 51 Z (WO.nil ?_))))))
       obtain rfl := Oi h29
       exact cutN (Lr [])
     ·refine KF hg37 Z (KF hg37 Z (KF hg37 Z (Pk hg37 Z (U 57 Z (WO.nil ?_)))))
      obtain rfl := Oi h29
      exact cutN (Lr [])
    ·refine KF hg35 Z (KF hg35 Z (KF hg35 Z (KF hg35 Z (Pk hg35 Z (U 62 Z (WO.nil ?_))))))
     obtain rfl := Oi h29
     exact cutN (Lr [])
   ·refine KF hg33 Z (KF hg33 Z (KF hg33 Z (Pk hg33 Z (U 68 Z (WO.nil ?_)))))
    obtain rfl := Oi h29
    exact cutN (Lr [])
  ·refine KF hg31 Z (KF hg31 Z (KF hg31 Z (KF hg31 Z (Pk hg31 Z (U 73 Z (WO.nil ?_))))))
   obtain rfl := Oi h29
   exact cutN (Lr [])
 refine Qf (TC.le hle (TC.ret ?_))
 obtain rfl := Oi h
 exact R1 2 Z (Lr [])
def F_gd (n : Nat) (a1 : List Step) (s11 : (List typing_form) × Int) : Option (Ctl ((List typing_form) × Int) (List typing_form)) :=
  (bif decide (s11.2 < (a1.length : Int)) then (idx a1 s11.2).bind fun x15 => (app s11.1 [typing_form.ctyping_step ({ Step := x15 : typing_step })]).bind fun l16 => some (.cont (l16, IntKind.i64.wrap (s11.2 + 1))) else some (.done s11.1))
def F_s (n : Nat) (a1 : List Step) : Option (List typing_form) :=
  (iter (F_gd n a1) n ([], 0) : Option (List typing_form)).bind fun b8 => some b8
theorem k_s (n : Nat) (a1 : List Step) (r : List typing_form) (h : F_s n a1 = some r) :
    C prog 122 [.rsl 8 (List.map Step.enc a1)] [] (fun a H => a = .osl 0 0 r.length 1 ∧ H = [.row 260 1 (List.map typing_form.enc r)]) := by
 refine Qd func122 Z Z Z ?_
 refine Rg (U 1 Z (Nx (TC.seq (Rg (U 1 Z (LnM runUnderlying29 Z (U 1 Z (Nx (Bd h fun b8 h9 h => ?_)))))))))
 refine TC.cut ([(2, .osl 0 0 b8.length 1)]) ([.row 260 1 (List.map typing_form.enc b8)]) ?_ (fun env H hle => ?_)
 ·refine TC.block ?_
  refine TC.loop (E := fun s11 => [(2, .osl 0 0 s11.1.length 1), (5, .rsl 8 (List.map Step.enc a1)), (6, I (a1.length : Int)), (7, I s11.2)]) (Hp := fun s11 => [.row 260 1 (List.map typing_form.enc s11.1)]) h9 ?_ ?_
  ·refine Le.trans (Le.phantom (s := 2) (k := 1) (t := 260) (Nat.le_of_ble_eq_true Z) Z) ?_
   exact Lr [0]
  intro s11 d12 h13 hb10
  refine Rg (U 1 Z (Nx (TC.seq (CnS Z h13 (fun hc14 h13 => ?_) (fun hc14 h13 => ?_)))))
  ·refine ExX (Qz h13 ?_)
   obtain rfl := hb10 _ (Oi h13).symm
   exact QQ (cutN (Lr [0]))
  refine QU (TC.seq (TC.block (Rg (Bd h13 fun x15 hx15 h13 => ?_))))
  refine vX (.rp [I x15.Kind, I x15.By, I x15.Cond.Kind, I x15.Cond.Var, I x15.Cond.N, .rsl 4 (List.map Cond.enc x15.Cond.Parts), .rsl 8 (List.map Step.enc x15.Then), .rsl 8 (List.map Step.enc x15.Else)]) (Q7 (e := Step.enc) hx15 (Ym x15) runUnderlying29 sizeOf132) ?_
  refine U 3 Z (Nx (TC.region (U 3 Z ?_)))
  refine vX (.iface 263 (.agg (typing_step.c ({ Step := x15 : typing_step })))) (Qai Z runUnderlying263 (by intro m; nofun) Z) ?_
  refine vH (OpH.lit (xs := [.tmp 14]) (es := List.map typing_form.enc [typing_form.ctyping_step ({ Step := x15 : typing_step })]) QbF Z Z Z Z Z ⟨Z, trivial⟩ Z Z) ?_
  refine FE Z (Bd h13 fun l16 hl16 h13 => ?_)
  refine vH (QN (e := typing_form.enc) hl16 QbF runUnderlying221 (Qay (i := 2))) ?_
  exact FE Z (U 1 Z (WO.nil (QD (Qf (TC.region (U 2 Z (WO.nil (Qu h13 (Lr [3])))))))))
 refine Qf (TC.le hle (Rg (U 2 Z (Nx (TC.ret ?_)))))
 obtain rfl := Oi h
 exact R1 2 Z (Lr [0])
def F_r (n : Nat) (a1 : typing_cond) : Option Bool :=
  ((bif (a1.Cond.Kind == 0) then (bif (a1.Cond.Var == 0) then (bif (a1.Cond.N == 0) then some ((a1.Cond.Parts.length : Int) == 0) else some false) else some false) else some false) : Option Bool).bind fun b4 => some b4
theorem k_r (n : Nat) (a1 : typing_cond) (r : Bool) (h : F_r n a1 = some r) :
    C prog 217 [.agg (typing_cond.c ({ Cond := a1.Cond : typing_cond }))] [] (fun a H => a = .bool r ∧ H = []) := by
 refine Qd func217 Z Z Z ?_
 refine Rg (U 2 Z (Nx (TC.seq (Bd h fun b4 h5 h => ?_))))
 refine TC.cut ([(2, .bool b4)]) ([]) ?_ (fun env H hle => ?_)
 ·refine TC.region (U 5 Z (If h5 (fun hg6 h5 => ?_) (fun hg6 h5 => ?_)))
  ·refine QG (gT hg6) QM Z (QG (gT hg6) Qfo Z (QO (gT hg6) isAgg3 Z (Sg (gT hg6) Z (Pk hg6 Z (U 1 Z (If h5 (fun hg7 h5 => ?_) (fun hg7 h5 => ?_)))))))
   ·refine QG (gT hg7) QM Z (QG (gT hg7) Qbc Z (QO (gT hg7) isAgg3 Z (Sg (gT hg7) Z (Pk hg7 Z (U 1 Z (If h5 (fun hg8 h5 => ?_) (fun hg8 h5 => ?_)))))))
    ·refine QG (gT hg8) QM Z (QG (gT hg8) Yr Z (QO (gT hg8) isAgg128 Z ?_))
     refine vX (I (a1.Cond.Parts.length : Int)) (Qk (e := Cond.enc) (l := a1.Cond.Parts) runUnderlying128) ?_ (gT hg8)
     refine Sg (gT hg8) Z (Pk hg8 Z (U 1 Z (WO.nil ?_)))
     obtain rfl := Oi h5
     exact cutN (Lr [])
    ·refine KF hg8 Z (KF hg8 Z (KF hg8 Z (KF hg8 Z (KF hg8 Z (Pk hg8 Z (U 1 Z (WO.nil ?_)))))))
     obtain rfl := Oi h5
     exact cutN (Lr [])
   ·refine KF hg7 Z (KF hg7 Z (KF hg7 Z (KF hg7 Z (Pk hg7 Z (U 8 Z (WO.nil ?_))))))
    obtain rfl := Oi h5
    exact cutN (Lr [])
  ·refine KF hg6 Z (KF hg6 Z (KF hg6 Z (KF hg6 Z (Pk hg6 Z (U 14 Z (WO.nil ?_))))))
   obtain rfl := Oi h5
   exact cutN (Lr [])
 refine Qf (TC.le hle (TC.ret ?_))
 obtain rfl := Oi h
 exact R1 2 Z (Lr [])
def F_q (n : Nat) (a1 : typing_step) : Option (List typing_form) :=
  (F_s n a1.Step.Then).bind fun r1 => (F_s n a1.Step.Else).bind fun r2 => (app r1 r2).bind fun l3 => some l3
theorem k_q (n : Nat) (a1 : typing_step) (r : List typing_form) (h : F_q n a1 = some r) :
    C prog 240 [.agg (typing_step.c a1)] [] (fun a H => a = .osl 0 0 r.length 1 ∧ H = [.row 260 1 (List.map typing_form.enc r)]) := by
 refine Qd func240 Z Z Z ?_
 refine Rg (U 2 Z (Nx (TC.seq ?_)))
 obtain ⟨r1, hr1, h⟩ := bnd h
 refine QW 7 0 [3, 4, 5, 6, 7, 8, 9] [false, false, false, true, false, false, false] [[], [], [], [], [], [], []] [[], [3]] [[(0, 0), (1, 1)], [(0, 0), (1, 1)], [(0, 0), (1, 1)], [(0, 1)], [(0, 0), (1, 1)], [(0, 0), (1, 1)], [(0, 0), (1, 1)]] [.ptr 0 0, .ptr 0 6, .rsl 8 (List.map Step.enc a1.Step.Then), .osl 1 0 r1.length 1, .ptr 0 0, .ptr 0 7, .rsl 8 (List.map Step.enc a1.Step.Else)] [[.cells 263 (typing_step.c a1)], [.cells 263 (typing_step.c a1), .row 260 1 (List.map typing_form.enc r1)]] ([.cells 263 (typing_step.c a1), .row 260 1 (List.map typing_form.enc r1)]) draws Z Z Z Z Z Z Z ?_ Z ?_
 ·refine OblM.cons (Qa (v0 Z Z) (Qa (v0 Z Z) (Qc))) (OblM.cons (Qa (v0 Z Z) (Qa (v0 Z Z) (Qc))) (OblM.cons (Qa (v0 Z Z) (Qa (v0 Z Z) (Qc))) (OblM.cons ?_ (OblM.cons (Qa (v0 Z Z) (Qa (v0 Z Z) (Qc))) (OblM.cons (Qa (v0 Z Z) (Qa (v0 Z Z) (Qc))) (OblM.cons (Qa (v0 Z Z) (Qa (v0 Z Z) (Qc))) (OblM.nil)))))))
  ·refine Qa ?_ (Qc)
   ·refine Om1 Z (sD 2 sN) ?_
    refine Qe [] (OpC.fn call122 Z Z Z) (k_s _ _ _ hr1) ?_
    rintro _ _ ⟨rfl, rfl⟩
    exact FE Z Wp
 refine Bd h fun r2 hr2 h => ?_
 refine Qe [] (OpC.fn call122 Z Z Z) (k_s _ _ _ hr2) ?_
 rintro _ _ ⟨rfl, rfl⟩
 refine FE Z (Bd h fun l3 hl3 h => ?_)
 refine vH (QN (e := typing_form.enc) hl3 QbF runUnderlying221 (Qay (i := 2))) ?_
 refine FE Z (U 1 Z (Nx (TC.ret ?_)))
 obtain rfl := Oi h
 exact R1 2 Z (Lr [3])
def F_gk (n : Nat) (a1 : List Cond) (s11 : (List typing_form) × Int) : Option (Ctl ((List typing_form) × Int) (List typing_form)) :=
  (bif decide (s11.2 < (a1.length : Int)) then (idx a1 s11.2).bind fun x15 => (app s11.1 [typing_form.ctyping_cond ({ Cond := x15 : typing_cond })]).bind fun l16 => some (.cont (l16, IntKind.i64.wrap (s11.2 + 1))) else some (.done s11.1))
def F_cg (n : Nat) (a1 : List Cond) : Option (List typing_form) :=
  (iter (F_gk n a1) n ([], 0) : Option (List typing_form)).bind fun b8 => some b8
theorem k_cg (n : Nat) (a1 : List Cond) (r : List typing_form) (h : F_cg n a1 = some r) :
    C prog 250 [.rsl 4 (List.map Cond.enc a1)] [] (fun a H => a = .osl 0 0 r.length 1 ∧ H = [.row 260 1 (List.map typing_form.enc r)]) := by
 refine Qd func250 Z Z Z ?_
 refine Rg (U 1 Z (Nx (TC.seq (Rg (U 1 Z (LnM runUnderlying128 Z (U 1 Z (Nx (Bd h fun b8 h9 h => ?_)))))))))
 refine TC.cut ([(2, .osl 0 0 b8.length 1)]) ([.row 260 1 (List.map typing_form.enc b8)]) ?_ (fun env H hle => ?_)
 ·refine TC.block ?_
  refine TC.loop (E := fun s11 => [(2, .osl 0 0 s11.1.length 1), (5, .rsl 4 (List.map Cond.enc a1)), (6, I (a1.length : Int)), (7, I s11.2)]) (Hp := fun s11 => [.row 260 1 (List.map typing_form.enc s11.1)]) h9 ?_ ?_
  ·refine Le.trans (Le.phantom (s := 2) (k := 1) (t := 260) (Nat.le_of_ble_eq_true Z) Z) ?_
   exact Lr [0]
  intro s11 d12 h13 hb10
  refine Rg (U 1 Z (Nx (TC.seq (CnS Z h13 (fun hc14 h13 => ?_) (fun hc14 h13 => ?_)))))
  ·refine ExX (Qz h13 ?_)
   obtain rfl := hb10 _ (Oi h13).symm
   exact QQ (cutN (Lr [0]))
  refine QU (TC.seq (TC.block (Rg (Bd h13 fun x15 hx15 h13 => ?_))))
  refine vX (.rp [I x15.Kind, I x15.Var, I x15.N, .rsl 4 (List.map Cond.enc x15.Parts)]) (Q7 (e := Cond.enc) hx15 (Qam x15) runUnderlying128 sizeOf130) ?_
  refine U 3 Z (Nx (TC.region (U 3 Z ?_)))
  refine vX (.iface 298 (.agg (typing_cond.c ({ Cond := x15 : typing_cond })))) (Qai Z runUnderlying298 (by intro m; nofun) Z) ?_
  refine vH (OpH.lit (xs := [.tmp 14]) (es := List.map typing_form.enc [typing_form.ctyping_cond ({ Cond := x15 : typing_cond })]) QbF Z Z Z Z Z ⟨Z, trivial⟩ Z Z) ?_
  refine FE Z (Bd h13 fun l16 hl16 h13 => ?_)
  refine vH (QN (e := typing_form.enc) hl16 QbF runUnderlying221 (Qay (i := 2))) ?_
  exact FE Z (U 1 Z (WO.nil (QD (Qf (TC.region (U 2 Z (WO.nil (Qu h13 (Lr [3])))))))))
 refine Qf (TC.le hle (Rg (U 2 Z (Nx (TC.ret ?_)))))
 obtain rfl := Oi h
 exact R1 2 Z (Lr [0])
def F_n (n : Nat) (a1 : typing_cond) : Option (List typing_form) :=
  (F_cg n a1.Cond.Parts).bind fun r1 => some r1
theorem k_n (n : Nat) (a1 : typing_cond) (r : List typing_form) (h : F_n n a1 = some r) :
    C prog 239 [.agg (typing_cond.c ({ Cond := a1.Cond : typing_cond }))] [] (fun a H => a = .osl 0 0 r.length 1 ∧ H = [.row 260 1 (List.map typing_form.enc r)]) := by
 refine Qd func239 Z Z Z ?_
 refine Rg (U 2 Z (Nx (Rg (U 3 Z (Bd h fun r1 hr1 h => ?_)))))
 refine Qe [] (OpC.fn call250 Z Z Z) (k_cg _ _ _ hr1) ?_
 rintro _ _ ⟨rfl, rfl⟩
 refine FE Z (U 1 Z (Nx (TC.ret ?_)))
 obtain rfl := Oi h
 exact R1 2 Z (Lr [1])
def F_ez (n : Nat) (a1 : List typing_form) (a2 : Int) (rec91 : (List typing_form) → Int → typing_count → Option (typing_count × Bool)) (s84 : typing_count × Int) : Option (Ctl (typing_count × Int) (Ctl typing_count (typing_count × Bool))) :=
  (bif decide (s84.2 < (a1.length : Int)) then (idx a1 s84.2).bind fun x88 => typing_form.elim x88 (fun x89 => ((F_r n ({ Cond := x89.Step.Cond : typing_cond })).bind fun r98 => (bif (!r98) then (rec91 [typing_form.ctyping_cond ({ Cond := x89.Step.Cond : typing_cond })] 0 ({ steps := IntKind.i64.wrap (s84.1.steps + 1), conds := s84.1.conds : typing_count })).bind fun r100 => some (r100.1, (!r100.2)) else some ({ steps := IntKind.i64.wrap (s84.1.steps + 1), conds := s84.1.conds : typing_count }, false)) : Option (typing_count × Bool)).bind fun b96 => (bif b96.2 then some (.done (.done (b96.1, false))) else ((bif decide (64 < b96.1.steps) then some (b96.1, true) else (bif decide (256 < b96.1.conds) then some (b96.1, true) else (F_q n x89).bind fun r110 => (rec91 r110 (IntKind.i64.wrap (a2 + 1)) b96.1).bind fun r111 => some (r111.1, (!r111.2)))) : Option (typing_count × Bool)).bind fun b106 => (bif b106.2 then some (.done (.done (b106.1, false))) else some (.cont (b106.1, IntKind.i64.wrap (s84.2 + 1)))))) (fun x91 => ((bif decide (64 < s84.1.steps) then some ({ steps := s84.1.steps, conds := IntKind.i64.wrap (s84.1.conds + 1) : typing_count }, true) else (bif decide (256 < (IntKind.i64.wrap (s84.1.conds + 1))) then some ({ steps := s84.1.steps, conds := IntKind.i64.wrap (s84.1.conds + 1) : typing_count }, true) else (F_n n ({ Cond := x91.Cond : typing_cond })).bind fun r121 => (rec91 r121 (IntKind.i64.wrap (a2 + 1)) ({ steps := s84.1.steps, conds := IntKind.i64.wrap (s84.1.conds + 1) : typing_count })).bind fun r122 => some (r122.1, (!r122.2)))) : Option (typing_count × Bool)).bind fun b117 => (bif b117.2 then some (.done (.done (b117.1, false))) else some (.cont (b117.1, IntKind.i64.wrap (s84.2 + 1))))) else some (.done (.cont s84.1)))
def B_e (rec91 : (List typing_form) → Int → typing_count → Option (typing_count × Bool)) (n : Nat) (a1 : List typing_form) (a2 : Int) (a3 : typing_count) : Option (typing_count × Bool) :=
  ((bif decide (0 < (a1.length : Int)) then some (decide (16 < a2)) else some false) : Option Bool).bind fun b2 => (bif b2 then some (a3, false) else (iter (F_ez n a1 a2 rec91) n (a3, 0) : Option (Ctl typing_count (typing_count × Bool))).bind fun b81 => match b81 with | .cont sb81 => (some (sb81, true)) | .done sb81 => some sb81)
theorem Qap (rec91 : (List typing_form) → Int → typing_count → Option (typing_count × Bool)) (hrec91 : ∀ (a1 : List typing_form) (a2 : Int) (a3 : typing_count) (r : typing_count × Bool), rec91 a1 a2 a3 = some r → C prog 170 [.ptr 0 0, .osl 1 0 a1.length 1, I a2] [.cells 256 (typing_count.c a3), .row 260 1 (List.map typing_form.enc a1)] (fun a H => a = .bool r.2 ∧ H = [.cells 256 (typing_count.c r.1), .row 260 1 (List.map typing_form.enc a1)])) (n : Nat) (a1 : List typing_form) (a2 : Int) (a3 : typing_count) (r : typing_count × Bool) (h : B_e rec91 n a1 a2 a3 = some r) :
    C prog 170 [.ptr 0 0, .osl 1 0 a1.length 1, I a2] [.cells 256 (typing_count.c a3), .row 260 1 (List.map typing_form.enc a1)] (fun a H => a = .bool r.2 ∧ H = [.cells 256 (typing_count.c r.1), .row 260 1 (List.map typing_form.enc a1)]) := by
 refine Qd func170 Z Z Z ?_
 refine Rg (U 1 Z (Nx (TC.seq (TC.seq (Bd h fun b2 h3 h => ?_)))))
 refine TC.cut ([(0, .ptr 0 0), (1, .osl 1 0 a1.length 1), (2, I a2), (18, .bool b2)]) ([.cells 256 (typing_count.c a3), .row 260 1 (List.map typing_form.enc a1)]) ?_ (fun env H hle => ?_)
 ·refine TC.region (U 4 Z (If h3 (fun hg4 h3 => ?_) (fun hg4 h3 => ?_)))
  ·refine Sg (gT hg4) Z (Sg (gT hg4) Z (Pk hg4 Z (WO.nil ?_)))
   obtain rfl := Oi h3
   exact cutN (Lr [0, 1])
  ·refine KF hg4 Z (KF hg4 Z (Pk hg4 Z (WO.nil ?_)))
   obtain rfl := Oi h3
   exact cutN (Lr [0, 1])
 refine Qf (TC.le hle (Cn Z h (fun hc5 h => ?_) (fun hc5 h => ?_)))
 ·refine Rg (U 1 Z (Nx (RtR ?_)))
  obtain rfl := Oi h
  exact R1 6 Z (Lr [0, 1])
 refine QU (TC.seq (Rg (U 3 Z (Nx (Bd h fun b81 h82 h => ?_)))))
 refine Qy (b := b81) (fun sb81 => []) (fun sb81 => [.cells 256 (typing_count.c sb81), .row 260 1 (List.map typing_form.enc a1)]) ?_ (fun sb81 env H hbe hle => ?_)
 ·refine TC.block ?_
  refine TC.loop (E := fun s84 => [(0, .ptr 0 0), (2, I a2), (19, .osl 1 0 a1.length 1), (20, I (a1.length : Int)), (21, I s84.2)]) (Hp := fun s84 => [.cells 256 (typing_count.c s84.1), .row 260 1 (List.map typing_form.enc a1)]) h82 ?_ ?_
  ·exact Lr [0, 1]
  intro s84 d85 h86 hb83
  refine Rg (U 1 Z (Nx (TC.seq (CnS Z h86 (fun hc87 h86 => ?_) (fun hc87 h86 => ?_)))))
  ·refine ExX (Qz h86 ?_)
   obtain rfl := hb83 _ (Oi h86).symm
   exact QQ (Qx Z (Lr [0, 1]))
  refine QU (TC.seq (TC.block (Rg (Bd h86 fun x88 hx88 h86 => ?_))))
  refine vX (.ptr 1 (Int.toNat s84.2 * 1)) (Yo hx88 Z runUnderlying221 sizeOf260) ?_
  refine vX (typing_form.val x88) (OpV.load Z isAgg260 Z (QL hx88)) ?_
  refine U 1 Z (Nx (TC.seq (Rg (U 1 Z (Nx (TC.block (Rg ?_)))))))
  rcases YF x88 with ⟨x89, hE90⟩ | ⟨x91, hE92⟩
  ·have h86 := Yw hE90 h86
   refine WO.le (QY (s := 8) (a' := .iface 263 (.agg (typing_step.c x89))) Z (congrArg typing_form.val hE90)) ?_
   refine WO.le (QY (s := 24) (a' := .iface 263 (.agg (typing_step.c x89))) Z (congrArg typing_form.val hE90)) ?_
   refine WO.le (QY (s := 25) (a' := .iface 263 (.agg (typing_step.c x89))) Z (congrArg typing_form.val hE90)) ?_
   refine vX (.tup [.agg [I 0, I 0, I 0, .rsl 4 (List.map Cond.enc [])], .bool false]) (QeJ (z := (.agg [I 0, I 0, I 0, .rsl 4 (List.map Cond.enc [])])) runUnderlying298 (by intro m; nofun) Z zeroValue298 (zrC Z)) ?_
   refine U 2 Z (Nx (CnF Z Z (Rg ?_)))
   refine vX (.tup [.agg (typing_step.c x89), .bool true]) (Qa3 runUnderlying263 (by intro m; nofun)) ?_
   refine U 2 Z (Nx (CnT Z Z (Rg (U 2 Z (Nx (Rg (U 8 Z (Nx (Rg (U 6 Z (Nx (TC.seq (Bd h86 fun b96 h97 h86 => ?_)))))))))))))
   refine TC.cut ([(0, .ptr 0 0), (2, I a2), (8, .iface 263 (.agg (typing_step.c x89))), (19, .osl 1 0 a1.length 1), (20, I (a1.length : Int)), (21, I s84.2), (60, .bool b96.2)]) ([.cells 256 (typing_count.c b96.1), .row 260 1 (List.map typing_form.enc a1)]) ?_ (fun env H hle => ?_)
   ·refine TC.region (U 1 Z (Bd h97 fun r98 hr98 h97 => Pc [] Z (OpC.fn call217 Z Z Z) (k_r _ _ _ hr98) Z (U 2 Z (If h97 (fun hg99 h97 => ?_) (fun hg99 h97 => ?_)))))
    ·refine Sg (gT hg99) Z ?_
     refine vX (.agg (typing_cond.c ({ Cond := x89.Step.Cond : typing_cond }))) (Qi Z isAgg298 sizeOf298 Z (Pts.cells Z Z) Z Z) ?_ (gT hg99)
     refine vX (.iface 298 (.agg (typing_cond.c ({ Cond := x89.Step.Cond : typing_cond })))) (Qai Z runUnderlying298 (by intro m; nofun) Z) ?_ (gT hg99)
     refine vH (OpH.lit (xs := [.tmp 56]) (es := List.map typing_form.enc [typing_form.ctyping_cond ({ Cond := x89.Step.Cond : typing_cond })]) QbF Z Z Z Z Z ⟨Z, trivial⟩ Z Z) ?_ (gT hg99)
     refine FE Z (Bd h97 fun r100 hr100 h97 => ?_)
     refine Qe [0, 4] (OpC.fn call170 Z Z Z) (hrec91 _ _ _ _ hr100) ?_ (hg := (gT hg99))
     rintro _ _ ⟨rfl, rfl⟩
     refine FE Z (Sg (gT hg99) Z (Pk hg99 Z (WO.nil ?_)))
     obtain rfl := Oi h97
     exact cutN (Lr [0, 1])
    ·refine KF hg99 Z (KF hg99 Z (KF hg99 Z (KF hg99 Z (KF hg99 Z (KF hg99 Z (Pk hg99 Z (WO.nil ?_)))))))
     obtain rfl := Oi h97
     exact cutN (Lr [0, 1])
   refine Qf (TC.le hle (Cn Z h86 (fun hc101 h86 => ?_) (fun hc101 h86 => ?_)))
   ·refine Rg (U 1 Z (Nx (TC.ret (Qm (Ql (Qm (Ql (QV h86 ?_))))))))
    obtain rfl := hb83 _ (Oi h86).symm
    refine Qm (QF (Ql ?_))
    obtain rfl := Oi h
    exact R1 6 Z (Lr [0, 1])
   refine TC.skip (QD (Qf (TC.seq (Bd h86 fun b106 h107 h86 => ?_))))
   refine TC.cut ([(0, .ptr 0 0), (2, I a2), (19, .osl 1 0 a1.length 1), (20, I (a1.length : Int)), (21, I s84.2), (81, .bool b106.2)]) ([.cells 256 (typing_count.c b106.1), .row 260 1 (List.map typing_form.enc a1)]) ?_ (fun env H hle => ?_)
   ·refine TC.region (U 6 Z (If h107 (fun hg108 h107 => ?_) (fun hg108 h107 => ?_)))
    ·refine KF hg108 Z (KF hg108 Z (KF hg108 Z (KF hg108 Z (KF hg108 Z (Pk hg108 Z (U 9 Z (WO.nil ?_)))))))
     obtain rfl := Oi h107
     exact cutN (Lr [0, 1])
    ·refine Sg (gT hg108) Z (Sg (gT hg108) Z (QG (gT hg108) Qbb Z (QO (gT hg108) isAgg3 Z (Sg (gT hg108) Z (Pk hg108 Z (U 1 Z (If h107 (fun hg109 h107 => ?_) (fun hg109 h107 => ?_))))))))
     ·refine KF hg109 Z (KF hg109 Z (KF hg109 Z (KF hg109 Z (KF hg109 Z (KF hg109 Z (KF hg109 Z (Pk hg109 Z (WO.nil ?_))))))))
      obtain rfl := Oi h107
      exact cutN (Lr [0, 1])
     ·refine Sg (gT hg109) Z (Sg (gT hg109) Z (Bd h107 fun r110 hr110 h107 => ?_))
      refine Qe [] (QcY call240 Z Z Z Z (fun _ _ => by kernel_rfl)) (k_q _ _ _ hr110) ?_ (hg := (gT hg109))
      rintro _ _ ⟨rfl, rfl⟩
      refine FE Z (Sg (gT hg109) Z (Sg (gT hg109) Z (Bd h107 fun r111 hr111 h107 => ?_)))
      refine Qe [0, 2] (OpC.fn call170 Z Z Z) (hrec91 _ _ _ _ hr111) ?_ (hg := (gT hg109))
      rintro _ _ ⟨rfl, rfl⟩
      refine FE Z (Sg (gT hg109) Z (Pk hg109 Z (WO.nil ?_)))
      obtain rfl := Oi h107
      exact cutN (Lr [0, 1])
   refine Qf (TC.le hle (Cn Z h86 (fun hc112 h86 => ?_) (fun hc112 h86 => ?_)))
   ·refine Rg (U 1 Z (Nx (TC.ret (Qm (Ql (QV h86 ?_))))))
    obtain rfl := hb83 _ (Oi h86).symm
    refine Qm (QF (Ql ?_))
    obtain rfl := Oi h
    exact R1 6 Z (Lr [0, 1])
   exact TC.skip (QD (Qf (TC.region (U 2 Z (WO.nil (Qu h86 (Lr [0, 1])))))))
  ·have h86 := Yv hE92 h86
   refine WO.le (QY (s := 8) (a' := .iface 298 (.agg (typing_cond.c ({ Cond := x91.Cond : typing_cond })))) Z (congrArg typing_form.val hE92)) ?_
   refine WO.le (QY (s := 24) (a' := .iface 298 (.agg (typing_cond.c ({ Cond := x91.Cond : typing_cond })))) Z (congrArg typing_form.val hE92)) ?_
   refine WO.le (QY (s := 25) (a' := .iface 298 (.agg (typing_cond.c ({ Cond := x91.Cond : typing_cond })))) Z (congrArg typing_form.val hE92)) ?_
   refine vX (.tup [.agg (typing_cond.c ({ Cond := x91.Cond : typing_cond })), .bool true]) (Qa3 runUnderlying298 (by intro m; nofun)) ?_
   refine U 2 Z (Nx (CnT Z Z (Rg (U 2 Z (Nx (TC.region (U 8 Z (WO.nil (QD (Qf (TC.seq (Bd h86 fun b117 h118 h86 => ?_))))))))))))
   refine TC.cut ([(0, .ptr 0 0), (2, I a2), (19, .osl 1 0 a1.length 1), (20, I (a1.length : Int)), (21, I s84.2), (81, .bool b117.2)]) ([.cells 256 (typing_count.c b117.1), .row 260 1 (List.map typing_form.enc a1)]) ?_ (fun env H hle => ?_)
   ·refine TC.region (U 6 Z (If h118 (fun hg119 h118 => ?_) (fun hg119 h118 => ?_)))
    ·refine KF hg119 Z (KF hg119 Z (KF hg119 Z (KF hg119 Z (KF hg119 Z (Pk hg119 Z (U 9 Z (WO.nil ?_)))))))
     obtain rfl := Oi h118
     exact cutN (Lr [0, 1])
    ·refine Sg (gT hg119) Z (Sg (gT hg119) Z (QG (gT hg119) Qbb Z (QO (gT hg119) isAgg3 Z (Sg (gT hg119) Z (Pk hg119 Z (U 1 Z (If h118 (fun hg120 h118 => ?_) (fun hg120 h118 => ?_))))))))
     ·refine KF hg120 Z (KF hg120 Z (KF hg120 Z (KF hg120 Z (KF hg120 Z (KF hg120 Z (KF hg120 Z (Pk hg120 Z (WO.nil ?_))))))))
      obtain rfl := Oi h118
      exact cutN (Lr [0, 1])
     ·refine Sg (gT hg120) Z (Sg (gT hg120) Z (Bd h118 fun r121 hr121 h118 => ?_))
      refine Qe [] (QcY call239 Z Z Z Z (fun _ _ => by kernel_rfl)) (k_n _ _ _ hr121) ?_ (hg := (gT hg120))
      rintro _ _ ⟨rfl, rfl⟩
      refine FE Z (Sg (gT hg120) Z (Sg (gT hg120) Z (Bd h118 fun r122 hr122 h118 => ?_)))
      refine Qe [0, 3] (OpC.fn call170 Z Z Z) (hrec91 _ _ _ _ hr122) ?_ (hg := (gT hg120))
      rintro _ _ ⟨rfl, rfl⟩
      refine FE Z (Sg (gT hg120) Z (Pk hg120 Z (WO.nil ?_)))
      obtain rfl := Oi h118
      exact cutN (Lr [0, 1])
   refine Qf (TC.le hle (Cn Z h86 (fun hc123 h86 => ?_) (fun hc123 h86 => ?_)))
   ·refine Rg (U 1 Z (Nx (TC.ret (Qm (Ql (QV h86 ?_))))))
    obtain rfl := hb83 _ (Oi h86).symm
    refine Qm (QF (Ql ?_))
    obtain rfl := Oi h
    exact R1 6 Z (Lr [0, 1])
   exact TC.skip (QD (Qf (TC.region (U 2 Z (WO.nil (Qu h86 (Lr [0, 1])))))))
 subst hbe
 refine Qf (TC.le hle (Rg (U 1 Z (Nx (TC.ret ?_)))))
 obtain rfl := Oi h
 exact R1 6 Z (Lr [0, 1])
def F_e : Nat → (List typing_form) → Int → typing_count → Option (typing_count × Bool)
  | 0 => fun _ _ _ => none
  | n + 1 => B_e (F_e n) n
theorem k_e (n : Nat) : ∀ (a1 : List typing_form) (a2 : Int) (a3 : typing_count) (r : typing_count × Bool), F_e n a1 a2 a3 = some r → C prog 170 [.ptr 0 0, .osl 1 0 a1.length 1, I a2] [.cells 256 (typing_count.c a3), .row 260 1 (List.map typing_form.enc a1)] (fun a H => a = .bool r.2 ∧ H = [.cells 256 (typing_count.c r.1), .row 260 1 (List.map typing_form.enc a1)]) := by
  induction n with
  | zero => intro a1 a2 a3 r h; cases h
  | succ n ih => intro a1 a2 a3 r h; exact Qap _ ih n a1 a2 a3 r h
def F_gs (n : Nat) (a1 : List typing_form) (a2 : Int) (s84 : typing_count × Int) : Option (Ctl (typing_count × Int) (Ctl typing_count (typing_count × Bool))) :=
  (bif decide (s84.2 < (a1.length : Int)) then (idx a1 s84.2).bind fun x88 => typing_form.elim x88 (fun x89 => ((F_r n ({ Cond := x89.Step.Cond : typing_cond })).bind fun r98 => (bif (!r98) then (F_e n [typing_form.ctyping_cond ({ Cond := x89.Step.Cond : typing_cond })] 0 ({ steps := IntKind.i64.wrap (s84.1.steps + 1), conds := s84.1.conds : typing_count })).bind fun r100 => some (r100.1, (!r100.2)) else some ({ steps := IntKind.i64.wrap (s84.1.steps + 1), conds := s84.1.conds : typing_count }, false)) : Option (typing_count × Bool)).bind fun b96 => (bif b96.2 then some (.done (.done (b96.1, false))) else ((bif decide (64 < b96.1.steps) then some (b96.1, true) else (bif decide (256 < b96.1.conds) then some (b96.1, true) else (F_q n x89).bind fun r110 => (F_e n r110 (IntKind.i64.wrap (a2 + 1)) b96.1).bind fun r111 => some (r111.1, (!r111.2)))) : Option (typing_count × Bool)).bind fun b106 => (bif b106.2 then some (.done (.done (b106.1, false))) else some (.cont (b106.1, IntKind.i64.wrap (s84.2 + 1)))))) (fun x91 => ((bif decide (64 < s84.1.steps) then some ({ steps := s84.1.steps, conds := IntKind.i64.wrap (s84.1.conds + 1) : typing_count }, true) else (bif decide (256 < (IntKind.i64.wrap (s84.1.conds + 1))) then some ({ steps := s84.1.steps, conds := IntKind.i64.wrap (s84.1.conds + 1) : typing_count }, true) else (F_n n ({ Cond := x91.Cond : typing_cond })).bind fun r121 => (F_e n r121 (IntKind.i64.wrap (a2 + 1)) ({ steps := s84.1.steps, conds := IntKind.i64.wrap (s84.1.conds + 1) : typing_count })).bind fun r122 => some (r122.1, (!r122.2)))) : Option (typing_count × Bool)).bind fun b117 => (bif b117.2 then some (.done (.done (b117.1, false))) else some (.cont (b117.1, IntKind.i64.wrap (s84.2 + 1))))) else some (.done (.cont s84.1)))
def F_ed (n : Nat) (a1 : List typing_form) (a2 : Int) (a3 : typing_count) : Option (typing_count × Bool) :=
  ((bif decide (0 < (a1.length : Int)) then some (decide (16 < a2)) else some false) : Option Bool).bind fun b2 => (bif b2 then some (a3, false) else (iter (F_gs n a1 a2) n (a3, 0) : Option (Ctl typing_count (typing_count × Bool))).bind fun b81 => match b81 with | .cont sb81 => (some (sb81, true)) | .done sb81 => some sb81)
theorem k_ed (n : Nat) (a1 : List typing_form) (a2 : Int) (a3 : typing_count) (r : typing_count × Bool) (h : F_ed n a1 a2 a3 = some r) :
    C prog 170 [.ptr 0 0, .rsl 1 (List.map typing_form.enc a1), I a2] [.cells 256 (typing_count.c a3)] (fun a H => a = .bool r.2 ∧ H = [.cells 256 (typing_count.c r.1)]) := by
 refine Qd func170 Z Z Z ?_
 refine Rg (U 1 Z (Nx (TC.seq (TC.seq (Bd h fun b2 h3 h => ?_)))))
 refine TC.cut ([(0, .ptr 0 0), (1, .rsl 1 (List.map typing_form.enc a1)), (2, I a2), (18, .bool b2)]) ([.cells 256 (typing_count.c a3)]) ?_ (fun env H hle => ?_)
 ·refine TC.region (U 1 Z (LnM runUnderlying221 Z (U 2 Z (If h3 (fun hg4 h3 => ?_) (fun hg4 h3 => ?_)))))
  ·refine Sg (gT hg4) Z (Sg (gT hg4) Z (Pk hg4 Z (WO.nil ?_)))
   obtain rfl := Oi h3
   exact cutN (Lr [0])
  ·refine KF hg4 Z (KF hg4 Z (Pk hg4 Z (WO.nil ?_)))
   obtain rfl := Oi h3
   exact cutN (Lr [0])
 refine Qf (TC.le hle (Cn Z h (fun hc5 h => ?_) (fun hc5 h => ?_)))
 ·refine Rg (U 1 Z (Nx (RtR ?_)))
  obtain rfl := Oi h
  exact R1 6 Z (Lr [0])
 refine QU (TC.seq (Rg (U 1 Z (LnM runUnderlying221 Z (U 1 Z (Nx (Bd h fun b81 h82 h => ?_)))))))
 refine Qy (b := b81) (fun sb81 => []) (fun sb81 => [.cells 256 (typing_count.c sb81)]) ?_ (fun sb81 env H hbe hle => ?_)
 ·refine TC.block ?_
  refine TC.loop (E := fun s84 => [(0, .ptr 0 0), (2, I a2), (19, .rsl 1 (List.map typing_form.enc a1)), (20, I (a1.length : Int)), (21, I s84.2)]) (Hp := fun s84 => [.cells 256 (typing_count.c s84.1)]) h82 ?_ ?_
  ·exact Lr [0]
  intro s84 d85 h86 hb83
  refine Rg (U 1 Z (Nx (TC.seq (CnS Z h86 (fun hc87 h86 => ?_) (fun hc87 h86 => ?_)))))
  ·refine ExX (Qz h86 ?_)
   obtain rfl := hb83 _ (Oi h86).symm
   exact QQ (Qx Z (Lr [0]))
  refine QU (TC.seq (TC.block (Rg (Bd h86 fun x88 hx88 h86 => Ix hx88 runUnderlying221 sizeOf260 Z (U 2 Z (Nx (TC.seq (Rg (U 1 Z (Nx (TC.block (Rg ?_))))))))))))
  rcases YF x88 with ⟨x89, hE90⟩ | ⟨x91, hE92⟩
  ·have h86 := Yw hE90 h86
   refine WO.le (QY (s := 8) (a' := .iface 263 (.agg (typing_step.c x89))) Z (congrArg typing_form.val hE90)) ?_
   refine WO.le (QY (s := 24) (a' := .iface 263 (.agg (typing_step.c x89))) Z (congrArg typing_form.val hE90)) ?_
   refine WO.le (QY (s := 25) (a' := .iface 263 (.agg (typing_step.c x89))) Z (congrArg typing_form.val hE90)) ?_
   refine vX (.tup [.agg [I 0, I 0, I 0, .rsl 4 (List.map Cond.enc [])], .bool false]) (QeJ (z := (.agg [I 0, I 0, I 0, .rsl 4 (List.map Cond.enc [])])) runUnderlying298 (by intro m; nofun) Z zeroValue298 (zrC Z)) ?_
   refine U 2 Z (Nx (CnF Z Z (Rg ?_)))
   refine vX (.tup [.agg (typing_step.c x89), .bool true]) (Qa3 runUnderlying263 (by intro m; nofun)) ?_
   refine U 2 Z (Nx (CnT Z Z (Rg (U 2 Z (Nx (Rg (U 8 Z (Nx (Rg (U 6 Z (Nx (TC.seq (Bd h86 fun b96 h97 h86 => ?_)))))))))))))
   refine TC.cut ([(0, .ptr 0 0), (2, I a2), (8, .iface 263 (.agg (typing_step.c x89))), (19, .rsl 1 (List.map typing_form.enc a1)), (20, I (a1.length : Int)), (21, I s84.2), (60, .bool b96.2)]) ([.cells 256 (typing_count.c b96.1)]) ?_ (fun env H hle => ?_)
   ·refine TC.region (U 1 Z (Bd h97 fun r98 hr98 h97 => Pc [] Z (OpC.fn call217 Z Z Z) (k_r _ _ _ hr98) Z (U 2 Z (If h97 (fun hg99 h97 => ?_) (fun hg99 h97 => ?_)))))
    ·refine Sg (gT hg99) Z ?_
     refine vX (.agg (typing_cond.c ({ Cond := x89.Step.Cond : typing_cond }))) (Qi Z isAgg298 sizeOf298 Z (Pts.cells Z Z) Z Z) ?_ (gT hg99)
     refine vX (.iface 298 (.agg (typing_cond.c ({ Cond := x89.Step.Cond : typing_cond })))) (Qai Z runUnderlying298 (by intro m; nofun) Z) ?_ (gT hg99)
     refine vH (OpH.lit (xs := [.tmp 56]) (es := List.map typing_form.enc [typing_form.ctyping_cond ({ Cond := x89.Step.Cond : typing_cond })]) QbF Z Z Z Z Z ⟨Z, trivial⟩ Z Z) ?_ (gT hg99)
     refine FE Z (Bd h97 fun r100 hr100 h97 => ?_)
     refine Qe [0, 3] (OpC.fn call170 Z Z Z) (k_e _ _ _ _ _ hr100) ?_ (hg := (gT hg99))
     rintro _ _ ⟨rfl, rfl⟩
     refine FE Z (Sg (gT hg99) Z (Pk hg99 Z (WO.nil ?_)))
     obtain rfl := Oi h97
     exact cutN (Lr [0])
    ·refine KF hg99 Z (KF hg99 Z (KF hg99 Z (KF hg99 Z (KF hg99 Z (KF hg99 Z (Pk hg99 Z (WO.nil ?_)))))))
     obtain rfl := Oi h97
     exact cutN (Lr [0])
   refine Qf (TC.le hle (Cn Z h86 (fun hc101 h86 => ?_) (fun hc101 h86 => ?_)))
   ·refine Rg (U 1 Z (Nx (TC.ret (Qm (Ql (Qm (Ql (QV h86 ?_))))))))
    obtain rfl := hb83 _ (Oi h86).symm
    refine Qm (QF (Ql ?_))
    obtain rfl := Oi h
    exact R1 6 Z (Lr [0])
   refine TC.skip (QD (Qf (TC.seq (Bd h86 fun b106 h107 h86 => ?_))))
   refine TC.cut ([(0, .ptr 0 0), (2, I a2), (19, .rsl 1 (List.map typing_form.enc a1)), (20, I (a1.length : Int)), (21, I s84.2), (81, .bool b106.2)]) ([.cells 256 (typing_count.c b106.1)]) ?_ (fun env H hle => ?_)
   ·refine TC.region (U 6 Z (If h107 (fun hg108 h107 => ?_) (fun hg108 h107 => ?_)))
    ·refine KF hg108 Z (KF hg108 Z (KF hg108 Z (KF hg108 Z (KF hg108 Z (Pk hg108 Z (U 9 Z (WO.nil ?_)))))))
     obtain rfl := Oi h107
     exact cutN (Lr [0])
    ·refine Sg (gT hg108) Z (Sg (gT hg108) Z (QG (gT hg108) Qbb Z (QO (gT hg108) isAgg3 Z (Sg (gT hg108) Z (Pk hg108 Z (U 1 Z (If h107 (fun hg109 h107 => ?_) (fun hg109 h107 => ?_))))))))
     ·refine KF hg109 Z (KF hg109 Z (KF hg109 Z (KF hg109 Z (KF hg109 Z (KF hg109 Z (KF hg109 Z (Pk hg109 Z (WO.nil ?_))))))))
      obtain rfl := Oi h107
      exact cutN (Lr [0])
     ·refine Sg (gT hg109) Z (Sg (gT hg109) Z (Bd h107 fun r110 hr110 h107 => ?_))
      refine Qe [] (QcY call240 Z Z Z Z (fun _ _ => by kernel_rfl)) (k_q _ _ _ hr110) ?_ (hg := (gT hg109))
      rintro _ _ ⟨rfl, rfl⟩
      refine FE Z (Sg (gT hg109) Z (Sg (gT hg109) Z (Bd h107 fun r111 hr111 h107 => ?_)))
      refine Qe [0, 1] (OpC.fn call170 Z Z Z) (k_e _ _ _ _ _ hr111) ?_ (hg := (gT hg109))
      rintro _ _ ⟨rfl, rfl⟩
      refine FE Z (Sg (gT hg109) Z (Pk hg109 Z (WO.nil ?_)))
      obtain rfl := Oi h107
      exact cutN (Lr [0])
   refine Qf (TC.le hle (Cn Z h86 (fun hc112 h86 => ?_) (fun hc112 h86 => ?_)))
   ·refine Rg (U 1 Z (Nx (TC.ret (Qm (Ql (QV h86 ?_))))))
    obtain rfl := hb83 _ (Oi h86).symm
    refine Qm (QF (Ql ?_))
    obtain rfl := Oi h
    exact R1 6 Z (Lr [0])
   exact TC.skip (QD (Qf (TC.region (U 2 Z (WO.nil (Qu h86 (Lr [0])))))))
  ·have h86 := Yv hE92 h86
   refine WO.le (QY (s := 8) (a' := .iface 298 (.agg (typing_cond.c ({ Cond := x91.Cond : typing_cond })))) Z (congrArg typing_form.val hE92)) ?_
   refine WO.le (QY (s := 24) (a' := .iface 298 (.agg (typing_cond.c ({ Cond := x91.Cond : typing_cond })))) Z (congrArg typing_form.val hE92)) ?_
   refine WO.le (QY (s := 25) (a' := .iface 298 (.agg (typing_cond.c ({ Cond := x91.Cond : typing_cond })))) Z (congrArg typing_form.val hE92)) ?_
   refine vX (.tup [.agg (typing_cond.c ({ Cond := x91.Cond : typing_cond })), .bool true]) (Qa3 runUnderlying298 (by intro m; nofun)) ?_
   refine U 2 Z (Nx (CnT Z Z (Rg (U 2 Z (Nx (TC.region (U 8 Z (WO.nil (QD (Qf (TC.seq (Bd h86 fun b117 h118 h86 => ?_))))))))))))
   refine TC.cut ([(0, .ptr 0 0), (2, I a2), (19, .rsl 1 (List.map typing_form.enc a1)), (20, I (a1.length : Int)), (21, I s84.2), (81, .bool b117.2)]) ([.cells 256 (typing_count.c b117.1)]) ?_ (fun env H hle => ?_)
   ·refine TC.region (U 6 Z (If h118 (fun hg119 h118 => ?_) (fun hg119 h118 => ?_)))
    ·refine KF hg119 Z (KF hg119 Z (KF hg119 Z (KF hg119 Z (KF hg119 Z (Pk hg119 Z (U 9 Z (WO.nil ?_)))))))
     obtain rfl := Oi h118
     exact cutN (Lr [0])
    ·refine Sg (gT hg119) Z (Sg (gT hg119) Z (QG (gT hg119) Qbb Z (QO (gT hg119) isAgg3 Z (Sg (gT hg119) Z (Pk hg119 Z (U 1 Z (If h118 (fun hg120 h118 => ?_) (fun hg120 h118 => ?_))))))))
     ·refine KF hg120 Z (KF hg120 Z (KF hg120 Z (KF hg120 Z (KF hg120 Z (KF hg120 Z (KF hg120 Z (Pk hg120 Z (WO.nil ?_))))))))
      obtain rfl := Oi h118
      exact cutN (Lr [0])
     ·refine Sg (gT hg120) Z (Sg (gT hg120) Z (Bd h118 fun r121 hr121 h118 => ?_))
      refine Qe [] (QcY call239 Z Z Z Z (fun _ _ => by kernel_rfl)) (k_n _ _ _ hr121) ?_ (hg := (gT hg120))
      rintro _ _ ⟨rfl, rfl⟩
      refine FE Z (Sg (gT hg120) Z (Sg (gT hg120) Z (Bd h118 fun r122 hr122 h118 => ?_)))
      refine Qe [0, 2] (OpC.fn call170 Z Z Z) (k_e _ _ _ _ _ hr122) ?_ (hg := (gT hg120))
      rintro _ _ ⟨rfl, rfl⟩
      refine FE Z (Sg (gT hg120) Z (Pk hg120 Z (WO.nil ?_)))
      obtain rfl := Oi h118
      exact cutN (Lr [0])
   refine Qf (TC.le hle (Cn Z h86 (fun hc123 h86 => ?_) (fun hc123 h86 => ?_)))
   ·refine Rg (U 1 Z (Nx (TC.ret (Qm (Ql (QV h86 ?_))))))
    obtain rfl := hb83 _ (Oi h86).symm
    refine Qm (QF (Ql ?_))
    obtain rfl := Oi h
    exact R1 6 Z (Lr [0])
   exact TC.skip (QD (Qf (TC.region (U 2 Z (WO.nil (Qu h86 (Lr [0])))))))
 subst hbe
 refine Qf (TC.le hle (Rg (U 1 Z (Nx (TC.ret ?_)))))
 obtain rfl := Oi h
 exact R1 6 Z (Lr [0])
end Go.Sw
