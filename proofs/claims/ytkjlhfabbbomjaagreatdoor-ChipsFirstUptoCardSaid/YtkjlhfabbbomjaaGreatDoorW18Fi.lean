/- What the functions compute that ChipsFirst reaches, and that their calls refine it (part 3 of 3). -/
import Derived.Test.YtkjlhfabbbomjaaGreatDoorW18Fi2
set_option linter.unusedVariables false
set_option linter.unusedSimpArgs false
set_option maxRecDepth 100000
set_option maxHeartbeats 4000000
namespace Go.Sw
open Go.Proofs Tryz
def F_hz (n : Nat) (a1 : Course) (s11 : (List (List UInt8)) × Int) : Option (Ctl ((List (List UInt8)) × Int) (List (List UInt8))) :=
  (bif decide (s11.2 < (a1.Mats.length : Int)) then (idx a1.Mats s11.2).bind fun x15 => (app s11.1 [x15.Name]).bind fun l16 => some (.cont (l16, IntKind.i64.wrap (s11.2 + 1))) else some (.done s11.1))
def F_iy (n : Nat) (a1 : Course) (s27 : (List (List UInt8)) × Int) : Option (Ctl ((List (List UInt8)) × Int) (List (List UInt8))) :=
  (bif decide (s27.2 < (a1.Distances.length : Int)) then (idx a1.Distances s27.2).bind fun x31 => (app s27.1 [x31.Name]).bind fun l32 => some (.cont (l32, IntKind.i64.wrap (s27.2 + 1))) else some (.done s27.1))
def F_id (n : Nat) (a1 : Course) (s43 : (List (List UInt8)) × Int) : Option (Ctl ((List (List UInt8)) × Int) (List (List UInt8))) :=
  (bif decide (s43.2 < (a1.Waves.length : Int)) then (idx a1.Waves s43.2).bind fun x47 => (app s43.1 [x47.Name]).bind fun l48 => some (.cont (l48, IntKind.i64.wrap (s43.2 + 1))) else some (.done s43.1))
def F_iu (n : Nat) (a1 : Course) (s59 : (List (List UInt8)) × Int) : Option (Ctl ((List (List UInt8)) × Int) (List (List UInt8))) :=
  (bif decide (s59.2 < (a1.Offences.length : Int)) then (idx a1.Offences s59.2).bind fun x63 => (app s59.1 [x63.Name]).bind fun l64 => some (.cont (l64, IntKind.i64.wrap (s59.2 + 1))) else some (.done s59.1))
def F_jd (n : Nat) (a1 : Course) (s75 : (List (List UInt8)) × Int) : Option (Ctl ((List (List UInt8)) × Int) (List (List UInt8))) :=
  (bif decide (s75.2 < (a1.Categories.length : Int)) then (idx a1.Categories s75.2).bind fun x79 => (app s75.1 [x79.Name]).bind fun l80 => some (.cont (l80, IntKind.i64.wrap (s75.2 + 1))) else some (.done s75.1))
def F_cb (n : Nat) (a1 : Course) : Option Bool :=
  (iter (F_hz n a1) n (([] : List (List UInt8)), 0) : Option (List (List UInt8))).bind fun b8 => (iter (F_iy n a1) n (([] : List (List UInt8)), 0) : Option (List (List UInt8))).bind fun b24 => (iter (F_id n a1) n (([] : List (List UInt8)), 0) : Option (List (List UInt8))).bind fun b40 => (iter (F_iu n a1) n (([] : List (List UInt8)), 0) : Option (List (List UInt8))).bind fun b56 => (iter (F_jd n a1) n (([] : List (List UInt8)), 0) : Option (List (List UInt8))).bind fun b72 => ((F_at n a1.Name).bind fun r94 => (bif r94 then (F_q n b8).bind fun r96 => (bif r96 then (F_q n b24).bind fun r98 => (bif r98 then (F_q n b40).bind fun r100 => (bif r100 then (F_q n b56).bind fun r102 => (bif r102 then (F_q n b72).bind fun r104 => some r104 else some false) else some false) else some false) else some false) else some false) : Option Bool).bind fun b92 => some b92
theorem k_cb (n : Nat) (a1 : Course) (r : Bool) (h : F_cb n a1 = some r) :
    Csm prog 45 [.agg (Course.c a1)] [] (fun r => .bool r) r := by
 refine Qb func45 Z Z Z ?_
 refine G0 8 Z ?_
 refine vH (OpH.lit (xs := []) (es := List.map encS []) Yy Z Z Z Z Z trivial Z Z) ?_
 refine FE Z (Go 9 Z (Bd h fun b8 h9 h => ?_))
 refine Ct b8 [0,1] [1] (fun b8 => [(3, .osl 1 0 b8.length 1)]) (fun b8 => [(1, .row 9 1 (List.map encS b8))]) (fun _ => rfl) ?_ (fun env H hle => ?_)
 ·refine G0 1 Z ?_
  refine Lp [0,1] [1] (fun s11 => [(3, .osl 1 0 s11.1.length 1), (4, I s11.2)]) (fun s11 => [(1, .row 9 1 (List.map encS s11.1))]) h9 (fun _ => rfl) (Lr [0, 1]) fun s11 d12 h13 hb10 => ?_
  refine G0 6 Z (Lm Z (Go 3 Z (Q1 Z h13 (fun hc14 h13 => ?_) (fun hc14 h13 => ?_))))
  ·refine Gc 2 Z (Qg h13 ?_)
   obtain rfl := Oj hb10 h13
   exact Gx 1 Z (Qt (Lr [0, 1]))
  refine Gc 9 Z (Bd h13 fun x15 hx15 h13 => Iz hx15 Z (Go 2 Z ?_))
  refine vH (OpH.lit (xs := [.tmp 27]) (es := List.map encS [x15.Name]) Yy Z Z Z Z Z ⟨Z, trivial⟩ Z Z) ?_
  refine FE Z (Bd h13 fun l16 hl16 h13 => ?_)
  refine vH (QF (e := encS) hl16 Yy runUnderlying150 (Yg (i := 2))) ?_
  exact FE Z (Go 9 Z (Qf h13 (Lr [0, 3])))
 refine Gx 1 Z (TC.le hle (Gc 2 Z ?_))
 refine vH (OpH.lit (xs := []) (es := List.map encS []) Yy Z Z Z Z Z trivial Z Z) ?_
 refine FE Z (Go 9 Z (Bd h fun b24 h25 h => ?_))
 refine Ct b24 [0,1,2] [1,3] (fun b24 => [(5, .osl 2 0 b24.length 1)]) (fun b24 => [(2, .row 9 1 (List.map encS b24))]) (fun _ => rfl) ?_ (fun env H hle => ?_)
 ·refine G0 1 Z ?_
  refine Lp [0,1,2] [1,3] (fun s27 => [(5, .osl 2 0 s27.1.length 1), (6, I s27.2)]) (fun s27 => [(2, .row 9 1 (List.map encS s27.1))]) h25 (fun _ => rfl) (Lr [0, 1, 2]) fun s27 d28 h29 hb26 => ?_
  refine G0 6 Z (Lm Z (Go 3 Z (Q1 Z h29 (fun hc30 h29 => ?_) (fun hc30 h29 => ?_))))
  ·refine Gc 2 Z (Qg h29 ?_)
   obtain rfl := Oj hb26 h29
   exact Gx 1 Z (Qt (Lr [0, 1, 2]))
  refine Gc 9 Z (Bd h29 fun x31 hx31 h29 => Iz hx31 Z (Go 2 Z ?_))
  refine vH (OpH.lit (xs := [.tmp 44]) (es := List.map encS [x31.Name]) Yy Z Z Z Z Z ⟨Z, trivial⟩ Z Z) ?_
  refine FE Z (Bd h29 fun l32 hl32 h29 => ?_)
  refine vH (QF (e := encS) hl32 Yy runUnderlying150 (Yg (i := 3))) ?_
  exact FE Z (Go 9 Z (Qf h29 (Lr [0, 1, 4])))
 refine Gx 1 Z (TC.le hle (Gc 2 Z ?_))
 refine vH (OpH.lit (xs := []) (es := List.map encS []) Yy Z Z Z Z Z trivial Z Z) ?_
 refine FE Z (Go 9 Z (Bd h fun b40 h41 h => ?_))
 refine Ct b40 [0,1,2,3] [1,3,5] (fun b40 => [(7, .osl 3 0 b40.length 1)]) (fun b40 => [(3, .row 9 1 (List.map encS b40))]) (fun _ => rfl) ?_ (fun env H hle => ?_)
 ·refine G0 1 Z ?_
  refine Lp [0,1,2,3] [1,3,5] (fun s43 => [(7, .osl 3 0 s43.1.length 1), (8, I s43.2)]) (fun s43 => [(3, .row 9 1 (List.map encS s43.1))]) h41 (fun _ => rfl) (Lr [0, 1, 2, 3]) fun s43 d44 h45 hb42 => ?_
  refine G0 6 Z (Lm Z (Go 3 Z (Q1 Z h45 (fun hc46 h45 => ?_) (fun hc46 h45 => ?_))))
  ·refine Gc 2 Z (Qg h45 ?_)
   obtain rfl := Oj hb42 h45
   exact Gx 1 Z (Qt (Lr [0, 1, 2, 3]))
  refine Gc 9 Z (Bd h45 fun x47 hx47 h45 => Iz hx47 Z (Go 2 Z ?_))
  refine vH (OpH.lit (xs := [.tmp 61]) (es := List.map encS [x47.Name]) Yy Z Z Z Z Z ⟨Z, trivial⟩ Z Z) ?_
  refine FE Z (Bd h45 fun l48 hl48 h45 => ?_)
  refine vH (QF (e := encS) hl48 Yy runUnderlying150 (Yg (i := 4))) ?_
  exact FE Z (Go 9 Z (Qf h45 (Lr [0, 1, 2, 5])))
 refine Gx 1 Z (TC.le hle (Gc 2 Z ?_))
 refine vH (OpH.lit (xs := []) (es := List.map encS []) Yy Z Z Z Z Z trivial Z Z) ?_
 refine FE Z (Go 9 Z (Bd h fun b56 h57 h => ?_))
 refine Ct b56 [0,1,2,3,4] [1,3,5,7] (fun b56 => [(9, .osl 4 0 b56.length 1)]) (fun b56 => [(4, .row 9 1 (List.map encS b56))]) (fun _ => rfl) ?_ (fun env H hle => ?_)
 ·refine G0 1 Z ?_
  refine Lp [0,1,2,3,4] [1,3,5,7] (fun s59 => [(9, .osl 4 0 s59.1.length 1), (10, I s59.2)]) (fun s59 => [(4, .row 9 1 (List.map encS s59.1))]) h57 (fun _ => rfl) (Lr [0, 1, 2, 3, 4]) fun s59 d60 h61 hb58 => ?_
  refine G0 6 Z (Lm Z (Go 3 Z (Q1 Z h61 (fun hc62 h61 => ?_) (fun hc62 h61 => ?_))))
  ·refine Gc 2 Z (Qg h61 ?_)
   obtain rfl := Oj hb58 h61
   exact Gx 1 Z (Qt (Lr [0, 1, 2, 3, 4]))
  refine Gc 9 Z (Bd h61 fun x63 hx63 h61 => Iz hx63 Z (Go 2 Z ?_))
  refine vH (OpH.lit (xs := [.tmp 78]) (es := List.map encS [x63.Name]) Yy Z Z Z Z Z ⟨Z, trivial⟩ Z Z) ?_
  refine FE Z (Bd h61 fun l64 hl64 h61 => ?_)
  refine vH (QF (e := encS) hl64 Yy runUnderlying150 (Yg (i := 5))) ?_
  exact FE Z (Go 9 Z (Qf h61 (Lr [0, 1, 2, 3, 6])))
 refine Gx 1 Z (TC.le hle (Gc 2 Z ?_))
 refine vH (OpH.lit (xs := []) (es := List.map encS []) Yy Z Z Z Z Z trivial Z Z) ?_
 refine FE Z (Go 9 Z (Bd h fun b72 h73 h => ?_))
 refine Ct b72 [0,1,2,3,4,5] [1,3,5,7,9] (fun b72 => [(11, .osl 5 0 b72.length 1)]) (fun b72 => [(5, .row 9 1 (List.map encS b72))]) (fun _ => rfl) ?_ (fun env H hle => ?_)
 ·refine G0 1 Z ?_
  refine Lp [0,1,2,3,4,5] [1,3,5,7,9] (fun s75 => [(11, .osl 5 0 s75.1.length 1), (12, I s75.2)]) (fun s75 => [(5, .row 9 1 (List.map encS s75.1))]) h73 (fun _ => rfl) (Lr [0, 1, 2, 3, 4, 5]) fun s75 d76 h77 hb74 => ?_
  refine G0 6 Z (Lm Z (Go 3 Z (Q1 Z h77 (fun hc78 h77 => ?_) (fun hc78 h77 => ?_))))
  ·refine Gc 2 Z (Qg h77 ?_)
   obtain rfl := Oj hb74 h77
   exact Gx 1 Z (Qt (Lr [0, 1, 2, 3, 4, 5]))
  refine Gc 9 Z (Bd h77 fun x79 hx79 h77 => Iz hx79 Z (Go 2 Z ?_))
  refine vH (OpH.lit (xs := [.tmp 95]) (es := List.map encS [x79.Name]) Yy Z Z Z Z Z ⟨Z, trivial⟩ Z Z) ?_
  refine FE Z (Bd h77 fun l80 hl80 h77 => ?_)
  refine vH (QF (e := encS) hl80 Yy runUnderlying150 (Yg (i := 6))) ?_
  exact FE Z (Go 9 Z (Qf h77 (Lr [0, 1, 2, 3, 4, 7])))
 refine Gx 1 Z (TC.le hle (Gc 1 Z (Bd h fun b92 h93 h => ?_)))
 refine Ct b92 [] [] (fun b92 => [(2, .bool b92)]) (fun _ => []) (fun _ => rfl) ?_ (fun env H hle => ?_)
 ·refine G0 3 Z (Cz [] h93 (k_at _ _) Z fun r94 hr94 h93 => Go 1 Z (Is 101 h93 Z (fun hg95 h93 => ?_) (fun hg95 h93 => ?_)))
  ·refine Go 1 Z (Cb h93 (k_q _ _) Z (lo ln) fun r96 hr96 h93 => Go 2 Z (Is 105 h93 Z (fun hg97 h93 => ?_) (fun hg97 h93 => ?_)))
   ·refine Go 1 Z (Cb h93 (k_q _ _) Z (lo ln) fun r98 hr98 h93 => Go 2 Z (Is 109 h93 Z (fun hg99 h93 => ?_) (fun hg99 h93 => ?_)))
    ·refine Go 1 Z (Cb h93 (k_q _ _) Z (lo ln) fun r100 hr100 h93 => Go 2 Z (Is 113 h93 Z (fun hg101 h93 => ?_) (fun hg101 h93 => ?_)))
     ·refine Go 1 Z (Cb h93 (k_q _ _) Z (lo ln) fun r102 hr102 h93 => Go 2 Z (Is 117 h93 Z (fun hg103 h93 => ?_) (fun hg103 h93 => ?_)))
      ·exact Go 1 Z (Cb h93 (k_q _ _) Z (lo ln) fun r104 hr104 h93 => Go 3 Z (Cl h93 []))
      ·exact Go 5 Z (Cl h93 [])
     ·exact Go 9 Z (Cl h93 [])
    ·exact Go 13 Z (Cl h93 [])
   ·exact Go 17 Z (Cl h93 [])
  ·exact Go 21 Z (Cl h93 [])
 exact Gx 1 Z (TC.le hle (Gc 1 Z (Rt h 2 [])))
def F_b (n : Nat) (a1 : Int) (a2 : Int) (a3 : Int) : Option Bool :=
  ((bif decide (a2 <= a1) then some (decide (a1 <= a3)) else some false) : Option Bool).bind fun b2 => some b2
theorem k_b (n : Nat) (a1 : Int) (a2 : Int) (a3 : Int) (r : Bool) (h : F_b n a1 a2 a3 = some r) :
    Csm prog 74 [I a1, I a2, I a3] [] (fun r => .bool r) r := by
 refine Qb func74 Z Z Z ?_
 refine G0 6 Z (Bd h fun b2 h3 h => ?_)
 refine Ct b2 [] [] (fun b2 => [(6, .bool b2)]) (fun _ => []) (fun _ => rfl) ?_ (fun env H hle => ?_)
 ·refine G0 5 Z (Is 10 h3 Z (fun hg4 h3 => ?_) (fun hg4 h3 => ?_))
  ·exact Go 6 Z (Cl h3 [])
  ·exact Go 6 Z (Cl h3 [])
 exact Gx 1 Z (TC.le hle (Gc 1 Z (Rt h 6 [])))
def F_i (n : Nat) (a1 : Course) (a2 : Int) : Option Bool :=
  (F_b n a2 0 (IntKind.i64.wrap ((a1.Mats.length : Int) - 1))).bind fun r1 => some r1
theorem k_i (n : Nat) (a1 : Course) (a2 : Int) (r : Bool) (h : F_i n a1 a2 = some r) :
    Csm prog 75 [.agg (Course.c a1), I a2] [] (fun r => .bool r) r := by
 refine Qb func75 Z Z Z ?_
 exact G0 11 Z (Lm Z (Go 1 Z (Cz [] h (k_b _ _ _ _) Z fun r1 hr1 h => Go 4 Z (Rt h 4 []))))
def F_gl (n : Nat) (a1 : Course) (a2 : List Part) (rec193 : Course -> (List Part) -> Option Bool) (s59 : Int) : Option (Ctl Int (Ctl Unit Bool)) :=
  (bif decide (s59 < (a2.length : Int)) then (idx a2 s59).bind fun x63 => ((bif (x63.Laps == 0) then (F_i n a1 x63.Mat).bind fun r70 => (bif r70 then some ((x63.Parts.length : Int) == 0) else some false) else some false) : Option Bool).bind fun b67 => ((F_b n x63.Laps 1 64).bind fun r79 => (bif r79 then (bif (x63.Mat == 0) then (bif decide (0 < (x63.Parts.length : Int)) then (rec193 a1 x63.Parts).bind fun r83 => some r83 else some false) else some false) else some false) : Option Bool).bind fun b77 => ((bif (!b67) then some (!b77) else some false) : Option Bool).bind fun b85 => (bif b85 then some (.done (.done false)) else some (.cont (IntKind.i64.wrap (s59 + 1)))) else some (.done (.cont ())))
def B_l (rec193 : Course -> (List Part) -> Option Bool) (n : Nat) (a1 : Course) (a2 : List Part) : Option Bool :=
  (iter (F_gl n a1 a2 rec193) n 0 : Option (Ctl Unit Bool)).bind fun b56 => match b56 with | .cont sb56 => (some true) | .done sb56 => some sb56
theorem Qaz (rec193 : Course -> (List Part) -> Option Bool) (hrec193 : ∀ (a1 : Course) (a2 : List Part) (r : Bool), rec193 a1 a2 = some r -> Csm prog 140 [.agg (Course.c a1), .rsl 3 (List.map Part.enc a2)] [] (fun r => .bool r) r) (n : Nat) (a1 : Course) (a2 : List Part) (r : Bool) (h : B_l rec193 n a1 a2 = some r) :
    Csm prog 140 [.agg (Course.c a1), .rsl 3 (List.map Part.enc a2)] [] (fun r => .bool r) r := by
 refine Qb func140 Z Z Z ?_
 refine G0 12 Z (Bd h fun b56 h57 h => ?_)
 refine CtE (b := b56) [] [] (fun _ => []) (fun _ => []) (fun _ => rfl) ?_ (fun sb56 env H hbe hle => ?_)
 ·refine G0 1 Z ?_
  refine Lp [0] [1,2] (fun s59 => [(5, I s59)]) (fun _ => []) h57 (fun _ => rfl) (Lr [0]) fun s59 d60 h61 hb58 => ?_
  refine G0 5 Z (Lm Z (Go 3 Z (Q1 Z h61 (fun hc62 h61 => ?_) (fun hc62 h61 => ?_))))
  ·refine Gc 2 Z (Qg h61 ?_)
   obtain rfl := Oj hb58 h61
   exact Gx 1 Z (Qh Z (Lr []))
  refine Gc 8 Z (Bd h61 fun x63 hx63 h61 => IzE hx63 (QB x63) Z (Go 6 Z (Bd h61 fun b67 h68 h61 => ?_)))
  refine Ct b67 [0,1] [1,2,5,6] (fun b67 => [(7, .bool b67)]) (fun _ => []) (fun _ => rfl) ?_ (fun env H hle => ?_)
  ·refine G0 5 Z (Is 22 h68 Z (fun hg69 h68 => ?_) (fun hg69 h68 => ?_))
   ·refine Go 3 Z (Cz [] h68 (k_i _ _ _) Z fun r70 hr70 h68 => Go 2 Z (Is 28 h68 Z (fun hg71 h68 => ?_) (fun hg71 h68 => ?_)))
    ·exact Go 2 Z (Lm Z (Go 4 Z (Cl h68 [0,1])))
    ·exact Go 7 Z (Cl h68 [0,1])
   ·exact Go 13 Z (Cl h68 [0,1])
  refine Gx 1 Z (TC.le hle (Gc 1 Z (Bd h61 fun b77 h78 h61 => ?_)))
  refine Ct b77 [0] [1,2,5,7] (fun b77 => [(8, .bool b77)]) (fun _ => []) (fun _ => rfl) ?_ (fun env H hle => ?_)
  ·refine G0 3 Z (Cz [] h78 (k_b _ _ _ _) Z fun r79 hr79 h78 => Go 1 Z (Is 37 h78 Z (fun hg80 h78 => ?_) (fun hg80 h78 => ?_)))
   ·refine Go 5 Z (Is 42 h78 Z (fun hg81 h78 => ?_) (fun hg81 h78 => ?_))
    ·refine Go 2 Z (Lm Z (Go 3 Z (Is 48 h78 Z (fun hg82 h78 => ?_) (fun hg82 h78 => ?_))))
     ·exact Go 3 Z (Cz [] h78 (hrec193 _ _) Z fun r83 hr83 h78 => Go 3 Z (Cl h78 [0]))
     ·exact Go 7 Z (Cl h78 [0])
    ·exact Go 13 Z (Cl h78 [0])
   ·exact Go 18 Z (Cl h78 [0])
  refine Gx 1 Z (TC.le hle (Gc 1 Z (Bd h61 fun b85 h86 h61 => ?_)))
  refine Ct b85 [0] [1,2,5] (fun b85 => [(59, .bool b85)]) (fun _ => []) (fun _ => rfl) ?_ (fun env H hle => ?_)
  ·refine G0 4 Z (Is 56 h86 Z (fun hg87 h86 => ?_) (fun hg87 h86 => ?_))
   ·exact Go 4 Z (Cl h86 [0])
   ·exact Go 4 Z (Cl h86 [0])
  refine Gx 1 Z (TC.le hle (Cn Z h61 (fun hc88 h61 => ?_) (fun hc88 h61 => ?_)))
  ·refine Gc 8 Z (Qk h61 ?_)
   obtain rfl := Oj hb58 h61
   exact Gx 1 Z (Qi (Gx 1 Z (Rt h 4 [])))
  exact Gc 8 Z (Qf h61 (Lr [0]))
 subst hbe
 exact Gx 1 Z (TC.le hle (Gc 6 Z (Rt h 4 [])))
def F_l : Nat -> Course -> (List Part) -> Option Bool
  | 0 => fun _ _ => none
  | n + 1 => B_l (F_l n) n
theorem k_l (n : Nat) : ∀ (a1 : Course) (a2 : List Part) (r : Bool), F_l n a1 a2 = some r -> Csm prog 140 [.agg (Course.c a1), .rsl 3 (List.map Part.enc a2)] [] (fun r => .bool r) r := by
  induction n with
  | zero => intro a1 a2 r h; cases h
  | succ n ih => intro a1 a2 r h; exact Qaz _ ih n a1 a2 r h
def F_gv (n : Nat) (a1 : Course) (a2 : Distance) (s31 : Int) : Option (Ctl Int (Ctl Unit Bool)) :=
  (bif decide (s31 < (a2.Cutoffs.length : Int)) then (idx a2.Cutoffs s31).bind fun x35 => ((F_i n a1 x35.Mat).bind fun r42 => (bif (!r42) then some true else (bif decide (x35.Lap < 1) then some true else (F_b n x35.Limit 0 1099511627776).bind fun r45 => some (!r45))) : Option Bool).bind fun b40 => (bif b40 then some (.done (.done false)) else some (.cont (IntKind.i64.wrap (s31 + 1)))) else some (.done (.cont ())))
def F_cx (n : Nat) (a1 : Course) (a2 : Distance) : Option Bool :=
  (iter (F_gv n a1 a2) n 0 : Option (Ctl Unit Bool)).bind fun b28 => match b28 with | .cont sb28 => (((F_b n a2.Timing 1 3).bind fun r55 => (bif r55 then (F_l n a1 a2.Route).bind fun r57 => (bif r57 then (bif (a2.Extra == (-1)) then some true else (F_i n a1 a2.Extra).bind fun r60 => some r60) else some false) else some false) : Option Bool).bind fun b53 => some b53) | .done sb28 => some sb28
theorem k_cx (n : Nat) (a1 : Course) (a2 : Distance) (r : Bool) (h : F_cx n a1 a2 = some r) :
    Csm prog 76 [.agg (Course.c a1), .agg (Distance.c a2)] [] (fun r => .bool r) r := by
 refine Qb func76 Z Z Z ?_
 refine G0 13 Z (Bd h fun b28 h29 h => ?_)
 refine CtE (b := b28) [0,1] [2,3] (fun _ => []) (fun _ => []) (fun _ => rfl) ?_ (fun sb28 env H hbe hle => ?_)
 ·refine G0 1 Z ?_
  refine Lp [0,1] [2,3] (fun s31 => [(5, I s31)]) (fun _ => []) h29 (fun _ => rfl) (Lr [0, 1]) fun s31 d32 h33 hb30 => ?_
  refine G0 6 Z (Lm Z (Go 3 Z (Q1 Z h33 (fun hc34 h33 => ?_) (fun hc34 h33 => ?_))))
  ·refine Gc 2 Z (Qg h33 ?_)
   obtain rfl := Oj hb30 h33
   exact Gx 1 Z (Qh Z (Lr [0, 1]))
  refine Gc 9 Z (Bd h33 fun x35 hx35 h33 => Iz hx35 Z (Go 6 Z (Bd h33 fun b40 h41 h33 => ?_)))
  refine Ct b40 [0,1] [2,3,5] (fun b40 => [(34, .bool b40)]) (fun _ => []) (fun _ => rfl) ?_ (fun env H hle => ?_)
  ·refine G0 4 Z (Cz [] h41 (k_i _ _ _) Z fun r42 hr42 h41 => Go 2 Z (Is 24 h41 Z (fun hg43 h41 => ?_) (fun hg43 h41 => ?_)))
   ·exact Go 11 Z (Cl h41 [0,1])
   ·refine Go 5 Z (Is 29 h41 Z (fun hg44 h41 => ?_) (fun hg44 h41 => ?_))
    ·exact Go 6 Z (Cl h41 [0,1])
    ·exact Go 2 Z (Cz [] h41 (k_b _ _ _ _) Z fun r45 hr45 h41 => Go 3 Z (Cl h41 [0,1]))
  refine Gx 1 Z (TC.le hle (Cn Z h33 (fun hc46 h33 => ?_) (fun hc46 h33 => ?_)))
  ·refine Gc 8 Z (Qk h33 ?_)
   obtain rfl := Oj hb30 h33
   exact Gx 1 Z (Qi (Gx 1 Z (Rt h 4 [])))
  exact Gc 8 Z (Qf h33 (Lr [0, 1]))
 subst hbe
 refine Gx 1 Z (TC.le hle (Gc 1 Z (Bd h fun b53 h54 h => ?_)))
 refine Ct b53 [] [] (fun b53 => [(4, .bool b53)]) (fun _ => []) (fun _ => rfl) ?_ (fun env H hle => ?_)
 ·refine G0 3 Z (Cz [] h54 (k_b _ _ _ _) Z fun r55 hr55 h54 => Go 1 Z (Is 38 h54 Z (fun hg56 h54 => ?_) (fun hg56 h54 => ?_)))
  ·refine Go 3 Z (Cz [] h54 (k_l _ _ _) Z fun r57 hr57 h54 => Go 2 Z (Is 44 h54 Z (fun hg58 h54 => ?_) (fun hg58 h54 => ?_)))
   ·refine Go 4 Z (Is 48 h54 Z (fun hg59 h54 => ?_) (fun hg59 h54 => ?_))
    ·exact Go 8 Z (Cl h54 [])
    ·exact Go 3 Z (Cz [] h54 (k_i _ _ _) Z fun r60 hr60 h54 => Go 4 Z (Cl h54 []))
   ·exact Go 12 Z (Cl h54 [])
  ·exact Go 18 Z (Cl h54 [])
 exact Gx 1 Z (TC.le hle (Gc 1 Z (Rt h 4 [])))
def F_ha (n : Nat) (a1 : Course) (s13 : Int) : Option (Ctl Int (Ctl Unit Bool)) :=
  (bif decide (s13 < (a1.Mats.length : Int)) then (idx a1.Mats s13).bind fun x17 => (F_b n x17.Kind 1 3).bind fun r18 => (bif (!r18) then some (.done (.done false)) else some (.cont (IntKind.i64.wrap (s13 + 1)))) else some (.done (.cont ())))
def F_fx (n : Nat) (a1 : Course) (s102 : Int) (x106 : Leg) (s146 : Int) : Option (Ctl Int (Ctl Unit (Ctl Int (Ctl Unit Bool)))) :=
  (bif decide (s146 < s102) then ((idx a1.Legs s146).bind fun x155 => (bif (x155.From == x106.From) then (idx a1.Legs s146).bind fun x157 => some (x157.To == x106.To) else some false) : Option Bool).bind fun b153 => (bif b153 then some (.done (.done (.done (.done false)))) else some (.cont (IntKind.i64.wrap (s146 + 1)))) else some (.done (.cont ())))
def F_ct (n : Nat) (a1 : Course) (s102 : Int) : Option (Ctl Int (Ctl Unit Bool)) :=
  (bif decide (s102 < (a1.Legs.length : Int)) then (idx a1.Legs s102).bind fun x106 => ((F_i n a1 x106.From).bind fun r115 => (bif (!r115) then some true else (F_i n a1 x106.To).bind fun r117 => (bif (!r117) then some true else (bif decide (x106.Min < 0) then some true else (bif decide (x106.Max < x106.Min) then some true else some (decide (68719476736 < x106.Max)))))) : Option Bool).bind fun b113 => (bif b113 then some (.done (.done false)) else (iter (F_fx n a1 s102 x106) n 0 : Option (Ctl Unit (Ctl Int (Ctl Unit Bool)))).bind fun b143 => match b143 with | .cont sb143 => (some (.cont (IntKind.i64.wrap (s102 + 1)))) | .done sb143 => some sb143) else some (.done (.cont ())))
def F_gw (n : Nat) (a1 : Course) (s171 : Int) : Option (Ctl Int (Ctl Unit Bool)) :=
  (bif decide (s171 < (a1.Distances.length : Int)) then (idx a1.Distances s171).bind fun x175 => (F_cx n a1 x175).bind fun r176 => (bif (!r176) then some (.done (.done false)) else some (.cont (IntKind.i64.wrap (s171 + 1)))) else some (.done (.cont ())))
def F_he (n : Nat) (a1 : Course) (s190 : Int) : Option (Ctl Int (Ctl Unit Bool)) :=
  (bif decide (s190 < (a1.Waves.length : Int)) then (idx a1.Waves s190).bind fun x194 => (F_b n x194.Gun 0 1099511627776).bind fun r195 => (bif (!r195) then some (.done (.done false)) else some (.cont (IntKind.i64.wrap (s190 + 1)))) else some (.done (.cont ())))
def F_gr (n : Nat) (a1 : Course) (s263 : Int) : Option (Ctl Int (Ctl Unit Bool)) :=
  (bif decide (s263 < (a1.Offences.length : Int)) then (idx a1.Offences s263).bind fun x267 => ((F_b n x267.Time 0 68719476736).bind fun r273 => (bif r273 then (bif (x267.Laps == 0) then some (!x267.Out) else some false) else some false) : Option Bool).bind fun b271 => ((bif (x267.Time == 0) then (F_b n x267.Laps 1 64).bind fun r282 => (bif r282 then some (!x267.Out) else some false) else some false) : Option Bool).bind fun b279 => ((bif (x267.Time == 0) then (bif (x267.Laps == 0) then some x267.Out else some false) else some false) : Option Bool).bind fun b286 => ((bif (!b271) then (bif (!b279) then some (!b286) else some false) else some false) : Option Bool).bind fun b292 => (bif b292 then some (.done (.done false)) else some (.cont (IntKind.i64.wrap (s263 + 1)))) else some (.done (.cont ())))
def F_hb (n : Nat) (a1 : Course) (s319 : Int) : Option (Ctl Int (Ctl Unit Bool)) :=
  (bif decide (s319 < (a1.Categories.length : Int)) then (idx a1.Categories s319).bind fun x323 => ((bif decide (x323.From < 0) then some true else (bif decide (x323.To < x323.From) then some true else some (decide (120 < x323.To)))) : Option Bool).bind fun b326 => (bif b326 then some (.done (.done false)) else some (.cont (IntKind.i64.wrap (s319 + 1)))) else some (.done (.cont ())))
def F_ek (n : Nat) (a1 : Course) (s414 : Int) (x418 : Prize) (s458 : Int) : Option (Ctl Int (Ctl Unit (Ctl Int (Ctl Unit Bool)))) :=
  (bif decide (s458 < s414) then (idx a1.Prizes s458).bind fun x462 => ((bif (x462.Distance == x418.Distance) then (bif (x462.Category == x418.Category) then some (x462.Rank == x418.Rank) else some false) else some false) : Option Bool).bind fun b465 => (bif b465 then some (.done (.done (.done (.done false)))) else some (.cont (IntKind.i64.wrap (s458 + 1)))) else some (.done (.cont ())))
def F_bu (n : Nat) (a1 : Course) (s414 : Int) : Option (Ctl Int (Ctl Unit Bool)) :=
  (bif decide (s414 < (a1.Prizes.length : Int)) then (idx a1.Prizes s414).bind fun x418 => ((F_b n x418.Distance 0 (IntKind.i64.wrap ((a1.Distances.length : Int) - 1))).bind fun r428 => (bif (!r428) then some true else (F_b n x418.Category (-1) (IntKind.i64.wrap ((a1.Categories.length : Int) - 1))).bind fun r430 => (bif (!r430) then some true else (F_b n x418.Rank 1 4000).bind fun r432 => (bif (!r432) then some true else (F_b n x418.Amount 1 1125899906842624).bind fun r434 => some (!r434)))) : Option Bool).bind fun b426 => (bif b426 then some (.done (.done false)) else (iter (F_ek n a1 s414 x418) n 0 : Option (Ctl Unit (Ctl Int (Ctl Unit Bool)))).bind fun b455 => match b455 with | .cont sb455 => (some (.cont (IntKind.i64.wrap (s414 + 1)))) | .done sb455 => some sb455) else some (.done (.cont ())))
def F_co (n : Nat) (a1 : Course) : Option Bool :=
  (iter (F_ha n a1) n 0 : Option (Ctl Unit Bool)).bind fun b10 => match b10 with | .cont sb10 => ((iter (F_ct n a1) n 0 : Option (Ctl Unit Bool)).bind fun b99 => match b99 with | .cont sb99 => ((iter (F_gw n a1) n 0 : Option (Ctl Unit Bool)).bind fun b168 => match b168 with | .cont sb168 => ((iter (F_he n a1) n 0 : Option (Ctl Unit Bool)).bind fun b187 => match b187 with | .cont sb187 => ((iter (F_gr n a1) n 0 : Option (Ctl Unit Bool)).bind fun b260 => match b260 with | .cont sb260 => ((iter (F_hb n a1) n 0 : Option (Ctl Unit Bool)).bind fun b316 => match b316 with | .cont sb316 => ((iter (F_bu n a1) n 0 : Option (Ctl Unit Bool)).bind fun b411 => match b411 with | .cont sb411 => (((F_b n a1.Faults.Misses 0 16).bind fun r485 => (bif r485 then (F_b n a1.Faults.Strays 0 16).bind fun r487 => (bif r487 then (F_b n a1.Faults.Window 0 4294967296).bind fun r489 => (bif r489 then (F_b n a1.Faults.Residual 0 4294967296).bind fun r491 => (bif r491 then (F_b n a1.Faults.Drift 0 100000).bind fun r493 => (bif r493 then (F_b n a1.Fee 0 1125899906842624).bind fun r495 => (bif r495 then (F_b n a1.Deadline 0 1099511627776).bind fun r497 => some r497 else some false) else some false) else some false) else some false) else some false) else some false) : Option Bool).bind fun b483 => some b483) | .done sb411 => some sb411) | .done sb316 => some sb316) | .done sb260 => some sb260) | .done sb187 => some sb187) | .done sb168 => some sb168) | .done sb99 => some sb99) | .done sb10 => some sb10
theorem k_co (n : Nat) (a1 : Course) (r : Bool) (h : F_co n a1 = some r) :
    Csm prog 46 [.agg (Course.c a1)] [] (fun r => .bool r) r := by
 refine Qb func46 Z Z Z ?_
 refine G0 12 Z (Bd h fun b10 h11 h => ?_)
 refine CtE (b := b10) [0] [1] (fun _ => []) (fun _ => []) (fun _ => rfl) ?_ (fun sb10 env H hbe hle => ?_)
 ·refine G0 1 Z ?_
  refine Lp [0] [1] (fun s13 => [(3, I s13)]) (fun _ => []) h11 (fun _ => rfl) (Lr [0]) fun s13 d14 h15 hb12 => ?_
  refine G0 6 Z (Lm Z (Go 3 Z (Q1 Z h15 (fun hc16 h15 => ?_) (fun hc16 h15 => ?_))))
  ·refine Gc 2 Z (Qg h15 ?_)
   obtain rfl := Oj hb12 h15
   exact Gx 1 Z (Qh Z (Lr [0]))
  refine Gc 9 Z (Bd h15 fun x17 hx17 h15 => Iz hx17 Z (Go 2 Z (Cz [] h15 (k_b _ _ _ _) Z fun r18 hr18 h15 => Go 3 Z (Cn Z h15 (fun hc19 h15 => ?_) (fun hc19 h15 => ?_)))))
  ·refine Gc 8 Z (Qk h15 ?_)
   obtain rfl := Oj hb12 h15
   exact Gx 1 Z (Qi (Gx 1 Z (Rt h 2 [])))
  exact Gc 8 Z (Qf h15 (Lr [0]))
 subst hbe
 refine Gx 1 Z (TC.le hle (Gc 6 Z (Bd h fun b99 h100 h => ?_)))
 refine CtE (b := b99) [0] [1] (fun _ => []) (fun _ => []) (fun _ => rfl) ?_ (fun sb99 env H hbe hle => ?_)
 ·refine G0 1 Z ?_
  refine Lp [0] [1] (fun s102 => [(4, I s102)]) (fun _ => []) h100 (fun _ => rfl) (Lr [0]) fun s102 d103 h104 hb101 => ?_
  refine G0 6 Z (Lm Z (Go 3 Z (Q1 Z h104 (fun hc105 h104 => ?_) (fun hc105 h104 => ?_))))
  ·refine Gc 2 Z (Qg h104 ?_)
   obtain rfl := Oj hb101 h104
   exact Gx 1 Z (Qh Z (Lr [0]))
  refine Gc 9 Z (Bd h104 fun x106 hx106 h104 => Iz hx106 Z (Go 7 Z (Bd h104 fun b113 h114 h104 => ?_)))
  refine Ct b113 [0,1] [1,4,5] (fun b113 => [(76, .bool b113)]) (fun _ => []) (fun _ => rfl) ?_ (fun env H hle => ?_)
  ·refine G0 4 Z (Cz [] h114 (k_i _ _ _) Z fun r115 hr115 h114 => Go 2 Z (Is 53 h114 Z (fun hg116 h114 => ?_) (fun hg116 h114 => ?_)))
   ·exact Go 24 Z (Cl h114 [0,1])
   ·refine Go 3 Z (Cz [] h114 (k_i _ _ _) Z fun r117 hr117 h114 => Go 3 Z (Is 60 h114 Z (fun hg118 h114 => ?_) (fun hg118 h114 => ?_)))
    ·exact Go 17 Z (Cl h114 [0,1])
    ·refine Go 5 Z (Is 65 h114 Z (fun hg119 h114 => ?_) (fun hg119 h114 => ?_))
     ·exact Go 12 Z (Cl h114 [0,1])
     ·refine Go 7 Z (Is 72 h114 Z (fun hg120 h114 => ?_) (fun hg120 h114 => ?_))
      ·exact Go 5 Z (Cl h114 [0,1])
      ·exact Go 5 Z (Cl h114 [0,1])
  refine Gx 1 Z (TC.le hle (Cn Z h104 (fun hc121 h104 => ?_) (fun hc121 h104 => ?_)))
  ·refine Gc 9 Z (Qk h104 ?_)
   obtain rfl := Oj hb101 h104
   exact Gx 1 Z (Qi (Gx 1 Z (Rt h 2 [])))
  refine Gc 7 Z (Bd h104 fun b143 h144 h104 => ?_)
  refine CtE (b := b143) [0] [1,4] (fun _ => []) (fun _ => []) (fun _ => rfl) ?_ (fun sb143 env H hbe hle => ?_)
  ·refine G0 1 Z ?_
   refine Lp [0,1] [1,4,5] (fun s146 => [(6, I s146)]) (fun _ => []) h144 (fun _ => rfl) (Lr [0, 1]) fun s146 d147 h148 hb145 => ?_
   refine G0 8 Z (Q1 Z h148 (fun hc149 h148 => ?_) (fun hc149 h148 => ?_))
   ·refine Gc 2 Z (Qg h148 ?_)
    obtain rfl := Oj hb145 h148
    exact Gx 1 Z (Qh Z (Lr [0]))
   refine Gc 5 Z (Bd h148 fun b153 h154 h148 => ?_)
   refine Ct b153 [0,1] [1,4,5,6] (fun b153 => [(101, .bool b153)]) (fun _ => []) (fun _ => rfl) ?_ (fun env H hle => ?_)
   ·refine G0 0 Z (DSs 18 Z (D 3 Z ?_))
    obtain ⟨x155, hx155, h154⟩ := bnd h154
    refine DS.wo (x := .rp [I x155.From, I x155.To, I x155.Min, I x155.Max]) ?_ ?_
    ·exact Ix hx155 runUnderlying23 sizeOf123 Z Wp
    refine D 6 Z (QfY 9 h154 Z Z Z (fun hg156 h154 => ?_) (fun hg156 h154 => ?_))
    ·refine D 3 Z ?_
     obtain ⟨x157, hx157, h154⟩ := bnd h154
     refine DS.v (x := (.rp [I x157.From, I x157.To, I x157.Min, I x157.Max])) (QeX (e := Leg.c) (l := a1.Legs) (v := x157) hx157 runUnderlying23 sizeOf123) ?_ (hg := (gT Z))
     exact D 4 Z (DS.done Z (Go 3 Z (Cl h154 [0,1])))
    ·exact D 8 Z (DS.done Z (Go 3 Z (Cl h154 [0,1])))
   refine Gx 1 Z (TC.le hle (Cn Z h148 (fun hc158 h148 => ?_) (fun hc158 h148 => ?_)))
   ·refine Gc 8 Z (Qk h148 ?_)
    obtain rfl := Oj hb145 h148
    refine Gx 1 Z (Qi (Gx 2 Z (Qk h104 ?_)))
    obtain rfl := Oj hb101 h104
    exact Gx 1 Z (Qi (Gx 1 Z (Rt h 2 [])))
   exact Gc 8 Z (Qf h148 (Lr [0, 1]))
  subst hbe
  exact Gx 2 Z (TC.le hle (Gc 5 Z (Qf h104 (Lr [0]))))
 subst hbe
 refine Gx 1 Z (TC.le hle (Gc 6 Z (Bd h fun b168 h169 h => ?_)))
 refine CtE (b := b168) [0] [1] (fun _ => []) (fun _ => []) (fun _ => rfl) ?_ (fun sb168 env H hbe hle => ?_)
 ·refine G0 1 Z ?_
  refine Lp [0] [1] (fun s171 => [(7, I s171)]) (fun _ => []) h169 (fun _ => rfl) (Lr [0]) fun s171 d172 h173 hb170 => ?_
  refine G0 6 Z (Lm Z (Go 3 Z (Q1 Z h173 (fun hc174 h173 => ?_) (fun hc174 h173 => ?_))))
  ·refine Gc 2 Z (Qg h173 ?_)
   obtain rfl := Oj hb170 h173
   exact Gx 1 Z (Qh Z (Lr [0]))
  refine Gc 5 Z (DSs 6 Z (D 4 Z ?_))
  obtain ⟨x175, hx175, h173⟩ := bnd h173
  refine DS.wo (x := .rp [.str x175.Name, .rsl 3 (List.map Part.enc x175.Route), I x175.Timing, .rsl 3 (List.map Cutoff.c x175.Cutoffs), I x175.Extra]) ?_ ?_
  ·exact Ix hx175 runUnderlying24 sizeOf94 Z Wp
  refine D 1 Z (DS.done Z (Cz [] h173 (k_cx _ _ _) Z fun r176 hr176 h173 => Go 3 Z (Cn Z h173 (fun hc177 h173 => ?_) (fun hc177 h173 => ?_))))
  ·refine Gc 8 Z (Qk h173 ?_)
   obtain rfl := Oj hb170 h173
   exact Gx 1 Z (Qi (Gx 1 Z (Rt h 2 [])))
  exact Gc 8 Z (Qf h173 (Lr [0]))
 subst hbe
 refine Gx 1 Z (TC.le hle (Gc 6 Z (Bd h fun b187 h188 h => ?_)))
 refine CtE (b := b187) [0] [1] (fun _ => []) (fun _ => []) (fun _ => rfl) ?_ (fun sb187 env H hbe hle => ?_)
 ·refine G0 1 Z ?_
  refine Lp [0] [1] (fun s190 => [(8, I s190)]) (fun _ => []) h188 (fun _ => rfl) (Lr [0]) fun s190 d191 h192 hb189 => ?_
  refine G0 6 Z (Lm Z (Go 3 Z (Q1 Z h192 (fun hc193 h192 => ?_) (fun hc193 h192 => ?_))))
  ·refine Gc 2 Z (Qg h192 ?_)
   obtain rfl := Oj hb189 h192
   exact Gx 1 Z (Qh Z (Lr [0]))
  refine Gc 9 Z (Bd h192 fun x194 hx194 h192 => Iz hx194 Z (Go 2 Z (Cz [] h192 (k_b _ _ _ _) Z fun r195 hr195 h192 => Go 3 Z (Cn Z h192 (fun hc196 h192 => ?_) (fun hc196 h192 => ?_)))))
  ·refine Gc 8 Z (Qk h192 ?_)
   obtain rfl := Oj hb189 h192
   exact Gx 1 Z (Qi (Gx 1 Z (Rt h 2 [])))
  exact Gc 8 Z (Qf h192 (Lr [0]))
 subst hbe
 refine Gx 1 Z (TC.le hle (Gc 6 Z (Bd h fun b260 h261 h => ?_)))
 refine CtE (b := b260) [0] [1] (fun _ => []) (fun _ => []) (fun _ => rfl) ?_ (fun sb260 env H hbe hle => ?_)
 ·refine G0 1 Z ?_
  refine Lp [0] [1] (fun s263 => [(9, I s263)]) (fun _ => []) h261 (fun _ => rfl) (Lr [0]) fun s263 d264 h265 hb262 => ?_
  refine G0 6 Z (Lm Z (Go 3 Z (Q1 Z h265 (fun hc266 h265 => ?_) (fun hc266 h265 => ?_))))
  ·refine Gc 2 Z (Qg h265 ?_)
   obtain rfl := Oj hb262 h265
   exact Gx 1 Z (Qh Z (Lr [0]))
  refine Gc 9 Z (Bd h265 fun x267 hx267 h265 => Iz hx267 Z (Go 6 Z (Bd h265 fun b271 h272 h265 => ?_)))
  refine Ct b271 [0,1] [1,9,10] (fun b271 => [(11, .bool b271)]) (fun _ => []) (fun _ => rfl) ?_ (fun env H hle => ?_)
  ·refine G0 3 Z (Cz [] h272 (k_b _ _ _ _) Z fun r273 hr273 h272 => Go 1 Z (Is 147 h272 Z (fun hg274 h272 => ?_) (fun hg274 h272 => ?_)))
   ·refine Go 5 Z (Is 152 h272 Z (fun hg275 h272 => ?_) (fun hg275 h272 => ?_))
    ·exact Go 6 Z (Cl h272 [0,1])
    ·exact Go 6 Z (Cl h272 [0,1])
   ·exact Go 11 Z (Cl h272 [0,1])
  refine Gx 1 Z (TC.le hle (Gc 1 Z (Bd h265 fun b279 h280 h265 => ?_)))
  refine Ct b279 [0,1] [1,9,10,11] (fun b279 => [(12, .bool b279)]) (fun _ => []) (fun _ => rfl) ?_ (fun env H hle => ?_)
  ·refine G0 5 Z (Is 160 h280 Z (fun hg281 h280 => ?_) (fun hg281 h280 => ?_))
   ·refine Go 2 Z (Cz [] h280 (k_b _ _ _ _) Z fun r282 hr282 h280 => Go 2 Z (Is 165 h280 Z (fun hg283 h280 => ?_) (fun hg283 h280 => ?_)))
    ·exact Go 6 Z (Cl h280 [0,1])
    ·exact Go 6 Z (Cl h280 [0,1])
   ·exact Go 11 Z (Cl h280 [0,1])
  refine Gx 1 Z (TC.le hle (Gc 1 Z (Bd h265 fun b286 h287 h265 => ?_)))
  refine Ct b286 [0] [1,9,11,12] (fun b286 => [(13, .bool b286)]) (fun _ => []) (fun _ => rfl) ?_ (fun env H hle => ?_)
  ·refine G0 5 Z (Is 173 h287 Z (fun hg288 h287 => ?_) (fun hg288 h287 => ?_))
   ·refine Go 5 Z (Is 178 h287 Z (fun hg289 h287 => ?_) (fun hg289 h287 => ?_))
    ·exact Go 5 Z (Cl h287 [0])
    ·exact Go 5 Z (Cl h287 [0])
   ·exact Go 10 Z (Cl h287 [0])
  refine Gx 1 Z (TC.le hle (Gc 1 Z (Bd h265 fun b292 h293 h265 => ?_)))
  refine Ct b292 [0] [1,9] (fun b292 => [(191, .bool b292)]) (fun _ => []) (fun _ => rfl) ?_ (fun env H hle => ?_)
  ·refine G0 4 Z (Is 184 h293 Z (fun hg294 h293 => ?_) (fun hg294 h293 => ?_))
   ·refine Go 4 Z (Is 188 h293 Z (fun hg295 h293 => ?_) (fun hg295 h293 => ?_))
    ·exact Go 4 Z (Cl h293 [0])
    ·exact Go 4 Z (Cl h293 [0])
   ·exact Go 8 Z (Cl h293 [0])
  refine Gx 1 Z (TC.le hle (Cn Z h265 (fun hc296 h265 => ?_) (fun hc296 h265 => ?_)))
  ·refine Gc 8 Z (Qk h265 ?_)
   obtain rfl := Oj hb262 h265
   exact Gx 1 Z (Qi (Gx 1 Z (Rt h 2 [])))
  exact Gc 8 Z (Qf h265 (Lr [0]))
 subst hbe
 refine Gx 1 Z (TC.le hle (Gc 6 Z (Bd h fun b316 h317 h => ?_)))
 refine CtE (b := b316) [0] [1] (fun _ => []) (fun _ => []) (fun _ => rfl) ?_ (fun sb316 env H hbe hle => ?_)
 ·refine G0 1 Z ?_
  refine Lp [0] [1] (fun s319 => [(14, I s319)]) (fun _ => []) h317 (fun _ => rfl) (Lr [0]) fun s319 d320 h321 hb318 => ?_
  refine G0 6 Z (Lm Z (Go 3 Z (Q1 Z h321 (fun hc322 h321 => ?_) (fun hc322 h321 => ?_))))
  ·refine Gc 2 Z (Qg h321 ?_)
   obtain rfl := Oj hb318 h321
   exact Gx 1 Z (Qh Z (Lr [0]))
  refine Gc 9 Z (Bd h321 fun x323 hx323 h321 => Iz hx323 Z (Go 6 Z (Bd h321 fun b326 h327 h321 => ?_)))
  refine Ct b326 [0] [1,14] (fun b326 => [(218, .bool b326)]) (fun _ => []) (fun _ => rfl) ?_ (fun env H hle => ?_)
  ·refine G0 5 Z (Is 207 h327 Z (fun hg328 h327 => ?_) (fun hg328 h327 => ?_))
   ·exact Go 12 Z (Cl h327 [0])
   ·refine Go 7 Z (Is 214 h327 Z (fun hg329 h327 => ?_) (fun hg329 h327 => ?_))
    ·exact Go 5 Z (Cl h327 [0])
    ·exact Go 5 Z (Cl h327 [0])
  refine Gx 1 Z (TC.le hle (Cn Z h321 (fun hc330 h321 => ?_) (fun hc330 h321 => ?_)))
  ·refine Gc 8 Z (Qk h321 ?_)
   obtain rfl := Oj hb318 h321
   exact Gx 1 Z (Qi (Gx 1 Z (Rt h 2 [])))
  exact Gc 8 Z (Qf h321 (Lr [0]))
 subst hbe
 refine Gx 1 Z (TC.le hle (Gc 6 Z (Bd h fun b411 h412 h => ?_)))
 refine CtE (b := b411) [0] [1] (fun _ => []) (fun _ => []) (fun _ => rfl) ?_ (fun sb411 env H hbe hle => ?_)
 ·refine G0 1 Z ?_
  refine Lp [0] [1] (fun s414 => [(16, I s414)]) (fun _ => []) h412 (fun _ => rfl) (Lr [0]) fun s414 d415 h416 hb413 => ?_
  refine G0 6 Z (Lm Z (Go 3 Z (Q1 Z h416 (fun hc417 h416 => ?_) (fun hc417 h416 => ?_))))
  ·refine Gc 2 Z (Qg h416 ?_)
   obtain rfl := Oj hb413 h416
   exact Gx 1 Z (Qh Z (Lr [0]))
  refine Gc 9 Z (Bd h416 fun x418 hx418 h416 => Iz hx418 Z (Go 7 Z (Bd h416 fun b426 h427 h416 => ?_)))
  refine Ct b426 [0,1] [1,16,17] (fun b426 => [(260, .bool b426)]) (fun _ => []) (fun _ => rfl) ?_ (fun env H hle => ?_)
  ·refine G0 5 Z (Lm Z (Go 1 Z (Cz [] h427 (k_b _ _ _ _) Z fun r428 hr428 h427 => Go 2 Z (Is 239 h427 Z (fun hg429 h427 => ?_) (fun hg429 h427 => ?_)))))
   ·exact Go 22 Z (Cl h427 [0,1])
   ·refine Go 4 Z (Lm Z (Go 1 Z (Cz [] h427 (k_b _ _ _ _) Z fun r430 hr430 h427 => Go 3 Z (Is 249 h427 Z (fun hg431 h427 => ?_) (fun hg431 h427 => ?_)))))
    ·exact Go 12 Z (Cl h427 [0,1])
    ·refine Go 2 Z (Cz [] h427 (k_b _ _ _ _) Z fun r432 hr432 h427 => Go 3 Z (Is 255 h427 Z (fun hg433 h427 => ?_) (fun hg433 h427 => ?_)))
     ·exact Go 6 Z (Cl h427 [0,1])
     ·exact Go 2 Z (Cz [] h427 (k_b _ _ _ _) Z fun r434 hr434 h427 => Go 3 Z (Cl h427 [0,1]))
  refine Gx 1 Z (TC.le hle (Cn Z h416 (fun hc435 h416 => ?_) (fun hc435 h416 => ?_)))
  ·refine Gc 9 Z (Qk h416 ?_)
   obtain rfl := Oj hb413 h416
   exact Gx 1 Z (Qi (Gx 1 Z (Rt h 2 [])))
  refine Gc 7 Z (Bd h416 fun b455 h456 h416 => ?_)
  refine CtE (b := b455) [0] [1,16] (fun _ => []) (fun _ => []) (fun _ => rfl) ?_ (fun sb455 env H hbe hle => ?_)
  ·refine G0 1 Z ?_
   refine Lp [0,1] [1,16,17] (fun s458 => [(18, I s458)]) (fun _ => []) h456 (fun _ => rfl) (Lr [0, 1]) fun s458 d459 h460 hb457 => ?_
   refine G0 8 Z (Q1 Z h460 (fun hc461 h460 => ?_) (fun hc461 h460 => ?_))
   ·refine Gc 2 Z (Qg h460 ?_)
    obtain rfl := Oj hb457 h460
    exact Gx 1 Z (Qh Z (Lr [0]))
   refine Gc 9 Z (Bd h460 fun x462 hx462 h460 => Iz hx462 Z (Go 6 Z (Bd h460 fun b465 h466 h460 => ?_)))
   refine Ct b465 [0,1] [1,16,17,18] (fun b465 => [(289, .bool b465)]) (fun _ => []) (fun _ => rfl) ?_ (fun env H hle => ?_)
   ·refine G0 7 Z (Is 276 h466 Z (fun hg467 h466 => ?_) (fun hg467 h466 => ?_))
    ·refine Go 7 Z (Is 283 h466 Z (fun hg468 h466 => ?_) (fun hg468 h466 => ?_))
     ·exact Go 7 Z (Cl h466 [0,1])
     ·exact Go 7 Z (Cl h466 [0,1])
    ·exact Go 14 Z (Cl h466 [0,1])
   refine Gx 1 Z (TC.le hle (Cn Z h460 (fun hc469 h460 => ?_) (fun hc469 h460 => ?_)))
   ·refine Gc 8 Z (Qk h460 ?_)
    obtain rfl := Oj hb457 h460
    refine Gx 1 Z (Qi (Gx 2 Z (Qk h416 ?_)))
    obtain rfl := Oj hb413 h416
    exact Gx 1 Z (Qi (Gx 1 Z (Rt h 2 [])))
   exact Gc 8 Z (Qf h460 (Lr [0, 1]))
  subst hbe
  exact Gx 2 Z (TC.le hle (Gc 5 Z (Qf h416 (Lr [0]))))
 subst hbe
 refine Gx 1 Z (TC.le hle (Gc 9 Z (Bd h fun b483 h484 h => ?_)))
 refine Ct b483 [] [] (fun b483 => [(2, .bool b483)]) (fun _ => []) (fun _ => rfl) ?_ (fun env H hle => ?_)
 ·refine G0 3 Z (Cz [] h484 (k_b _ _ _ _) Z fun r485 hr485 h484 => Go 1 Z (Is 295 h484 Z (fun hg486 h484 => ?_) (fun hg486 h484 => ?_)))
  ·refine Go 2 Z (Cz [] h484 (k_b _ _ _ _) Z fun r487 hr487 h484 => Go 2 Z (Is 300 h484 Z (fun hg488 h484 => ?_) (fun hg488 h484 => ?_)))
   ·refine Go 2 Z (Cz [] h484 (k_b _ _ _ _) Z fun r489 hr489 h484 => Go 2 Z (Is 305 h484 Z (fun hg490 h484 => ?_) (fun hg490 h484 => ?_)))
    ·refine Go 2 Z (Cz [] h484 (k_b _ _ _ _) Z fun r491 hr491 h484 => Go 2 Z (Is 310 h484 Z (fun hg492 h484 => ?_) (fun hg492 h484 => ?_)))
     ·refine Go 2 Z (Cz [] h484 (k_b _ _ _ _) Z fun r493 hr493 h484 => Go 2 Z (Is 315 h484 Z (fun hg494 h484 => ?_) (fun hg494 h484 => ?_)))
      ·refine Go 2 Z (Cz [] h484 (k_b _ _ _ _) Z fun r495 hr495 h484 => Go 2 Z (Is 320 h484 Z (fun hg496 h484 => ?_) (fun hg496 h484 => ?_)))
       ·exact Go 2 Z (Cz [] h484 (k_b _ _ _ _) Z fun r497 hr497 h484 => Go 3 Z (Cl h484 []))
       ·exact Go 6 Z (Cl h484 [])
      ·exact Go 11 Z (Cl h484 [])
     ·exact Go 16 Z (Cl h484 [])
    ·exact Go 21 Z (Cl h484 [])
   ·exact Go 26 Z (Cl h484 [])
  ·exact Go 31 Z (Cl h484 [])
 exact Gx 1 Z (TC.le hle (Gc 1 Z (Rt h 2 [])))
def F_ao (n : Nat) (a1 : Cond) : Option Bool :=
  ((bif (a1.Kind == 0) then (bif (a1.Var == 0) then (bif (a1.N == 0) then some ((a1.Parts.length : Int) == 0) else some false) else some false) else some false) : Option Bool).bind fun b4 => some b4
theorem k_ao (n : Nat) (a1 : Cond) (r : Bool) (h : F_ao n a1 = some r) :
    Csm prog 141 [.agg (Cond.c a1)] [] (fun r => .bool r) r := by
 refine Qb func141 Z Z Z ?_
 refine G0 7 Z (Bd h fun b4 h5 h => ?_)
 refine Ct b4 [] [] (fun b4 => [(2, .bool b4)]) (fun _ => []) (fun _ => rfl) ?_ (fun env H hle => ?_)
 ·refine G0 5 Z (Is 6 h5 Z (fun hg6 h5 => ?_) (fun hg6 h5 => ?_))
  ·refine Go 5 Z (Is 11 h5 Z (fun hg7 h5 => ?_) (fun hg7 h5 => ?_))
   ·refine Go 5 Z (Is 16 h5 Z (fun hg8 h5 => ?_) (fun hg8 h5 => ?_))
    ·exact Go 2 Z (Lm Z (Go 4 Z (Cl h5 [])))
    ·exact Go 7 Z (Cl h5 [])
   ·exact Go 12 Z (Cl h5 [])
  ·exact Go 17 Z (Cl h5 [])
 exact Gx 1 Z (TC.le hle (Gc 1 Z (Rt h 2 [])))
def F_et (n : Nat) (a1 : Cond) (a2 : Int) (rec197 : Cond -> Int -> Option Int) (s20 : Int × Int) : Option (Ctl (Int × Int) Int) :=
  ((bif decide (s20.2 < (a1.Parts.length : Int)) then some (decide (s20.1 <= 256)) else some false) : Option Bool).bind fun b24 => (bif b24 then (idx a1.Parts s20.2).bind fun x28 => (rec197 x28 (IntKind.i64.wrap (a2 + 1))).bind fun r29 => some (.cont (IntKind.i64.wrap (s20.1 + r29), IntKind.i64.wrap (s20.2 + 1))) else some (.done s20.1))
def B_h (rec197 : Cond -> Int -> Option Int) (n : Nat) (a1 : Cond) (a2 : Int) : Option Int :=
  (bif decide (16 < a2) then some 1000 else (iter (F_et n a1 a2 rec197) n (1, 0) : Option Int).bind fun b17 => some b17)
theorem Qaf (rec197 : Cond -> Int -> Option Int) (hrec197 : ∀ (a1 : Cond) (a2 : Int) (r : Int), rec197 a1 a2 = some r -> Csm prog 142 [.agg (Cond.c a1), I a2] [] (fun r => I r) r) (n : Nat) (a1 : Cond) (a2 : Int) (r : Int) (h : B_h rec197 n a1 a2 = some r) :
    Csm prog 142 [.agg (Cond.c a1), I a2] [] (fun r => I r) r := by
 refine Qb func142 Z Z Z ?_
 refine G0 13 Z (Cn Z h (fun hc1 h => ?_) (fun hc1 h => ?_))
 ·exact Gc 7 Z (Rt h 4 [])
 refine Gc 13 Z (Bd h fun b17 h18 h => ?_)
 refine Ct b17 [] [] (fun b17 => [(5, I b17)]) (fun _ => []) (fun _ => rfl) ?_ (fun env H hle => ?_)
 ·refine G0 1 Z ?_
  refine Lp [0] [1,2] (fun s20 => [(5, I s20.1), (6, I s20.2)]) (fun _ => []) h18 (fun _ => rfl) (Lr [0]) fun s20 d21 h22 hb19 => ?_
  refine G0 2 Z (Bd h22 fun b24 h25 h22 => ?_)
  refine Ct b24 [0] [1,2,5,6] (fun b24 => [(17, .bool b24)]) (fun _ => []) (fun _ => rfl) ?_ (fun env H hle => ?_)
  ·refine G0 4 Z (Lm Z (Go 2 Z (Is 14 h25 Z (fun hg26 h25 => ?_) (fun hg26 h25 => ?_))))
   ·exact Go 4 Z (Cl h25 [0])
   ·exact Go 4 Z (Cl h25 [0])
  refine Gx 1 Z (TC.le hle (Q1 Z h22 (fun hc27 h22 => ?_) (fun hc27 h22 => ?_)))
  ·refine Gc 2 Z (Qg h22 ?_)
   obtain rfl := Oj hb19 h22
   exact Gx 1 Z (Qt (Lr []))
  exact Gc 9 Z (Bd h22 fun x28 hx28 h22 => IzE hx28 (Ym x28) Z (Go 3 Z (Cz [] h22 (hrec197 _ _) Z fun r29 hr29 h22 => Go 10 Z (Qf h22 (Lr [0])))))
 exact Gx 1 Z (TC.le hle (Gc 7 Z (Rt h 4 [])))
def F_h : Nat -> Cond -> Int -> Option Int
  | 0 => fun _ _ => none
  | n + 1 => B_h (F_h n) n
theorem k_h (n : Nat) : ∀ (a1 : Cond) (a2 : Int) (r : Int), F_h n a1 a2 = some r -> Csm prog 142 [.agg (Cond.c a1), I a2] [] (fun r => I r) r := by
  induction n with
  | zero => intro a1 a2 r h; cases h
  | succ n ih => intro a1 a2 r h; exact Qaf _ ih n a1 a2 r h
def F_fa (n : Nat) (a1 : List Step) (a2 : Int) (rec195 : (List Step) -> Int -> Option (Int × Int)) (s50 : Int × Int × Int) : Option (Ctl (Int × Int × Int) (Int × Int)) :=
  ((bif decide (s50.2.2 < (a1.length : Int)) then (bif decide (s50.1 <= 64) then some (decide (s50.2.1 <= 256)) else some false) else some false) : Option Bool).bind fun b55 => (bif b55 then (idx a1 s50.2.2).bind fun x60 => (rec195 x60.Then (IntKind.i64.wrap (a2 + 1))).bind fun r61 => (idx a1 s50.2.2).bind fun x62 => (rec195 x62.Else (IntKind.i64.wrap (a2 + 1))).bind fun r63 => (idx a1 s50.2.2).bind fun x64 => (F_ao n x64.Cond).bind fun r65 => ((bif (!r65) then (idx a1 s50.2.2).bind fun x72 => (F_h n x72.Cond 0).bind fun r73 => some (IntKind.i64.wrap ((IntKind.i64.wrap ((IntKind.i64.wrap (s50.2.1 + r61.2)) + r63.2)) + r73)) else some (IntKind.i64.wrap ((IntKind.i64.wrap (s50.2.1 + r61.2)) + r63.2))) : Option Int).bind fun b69 => some (.cont (IntKind.i64.wrap ((IntKind.i64.wrap ((IntKind.i64.wrap (s50.1 + 1)) + r61.1)) + r63.1), b69, IntKind.i64.wrap (s50.2.2 + 1))) else some (.done (s50.1, s50.2.1)))
def B_r (rec195 : (List Step) -> Int -> Option (Int × Int)) (n : Nat) (a1 : List Step) (a2 : Int) : Option (Int × Int) :=
  ((bif decide (0 < (a1.length : Int)) then some (decide (16 < a2)) else some false) : Option Bool).bind fun b2 => (bif b2 then some (1000, 1000) else (iter (F_fa n a1 a2 rec195) n (0, 0, 0) : Option (Int × Int)).bind fun b47 => some (b47.1, b47.2))
theorem QaR (rec195 : (List Step) -> Int -> Option (Int × Int)) (hrec195 : ∀ (a1 : List Step) (a2 : Int) (r : Int × Int), rec195 a1 a2 = some r -> Csm prog 77 [.rsl 8 (List.map Step.enc a1), I a2] [] (fun r => .tup [I r.1, I r.2]) r) (n : Nat) (a1 : List Step) (a2 : Int) (r : Int × Int) (h : B_r rec195 n a1 a2 = some r) :
    Csm prog 77 [.rsl 8 (List.map Step.enc a1), I a2] [] (fun r => .tup [I r.1, I r.2]) r := by
 refine Qb func77 Z Z Z ?_
 refine G0 8 Z (Bd h fun b2 h3 h => ?_)
 refine Ct b2 [] [0,1] (fun b2 => [(19, .bool b2)]) (fun _ => []) (fun _ => rfl) ?_ (fun env H hle => ?_)
 ·refine G0 2 Z (Lm Z (Go 2 Z (Is 16 h3 Z (fun hg4 h3 => ?_) (fun hg4 h3 => ?_))))
  ·exact Go 4 Z (Cl h3 [])
  ·exact Go 4 Z (Cl h3 [])
 refine Gx 1 Z (TC.le hle (Cn Z h (fun hc5 h => ?_) (fun hc5 h => ?_)))
 ·refine Gc 8 Z ?_
  obtain rfl := Oi h
  exact R2 4 5 Z Z (Lr [])
 refine Gc 18 Z (Bd h fun b47 h48 h => ?_)
 refine Ct b47 [] [] (fun b47 => [(6, I b47.1), (7, I b47.2)]) (fun _ => []) (fun _ => rfl) ?_ (fun env H hle => ?_)
 ·refine G0 1 Z ?_
  refine Lp [] [0,1] (fun s50 => [(6, I s50.1), (7, I s50.2.1), (8, I s50.2.2)]) (fun _ => []) h48 (fun _ => rfl) (Lr []) fun s50 d51 h52 hb49 => ?_
  refine G0 2 Z (Bd h52 fun b55 h56 h52 => ?_)
  refine Ct b55 [] [0,1,6,7,8] (fun b55 => [(31, .bool b55)]) (fun _ => []) (fun _ => rfl) ?_ (fun env H hle => ?_)
  ·refine G0 3 Z (Lm Z (Go 2 Z (Is 24 h56 Z (fun hg57 h56 => ?_) (fun hg57 h56 => ?_))))
   ·refine Go 4 Z (Is 28 h56 Z (fun hg58 h56 => ?_) (fun hg58 h56 => ?_))
    ·exact Go 4 Z (Cl h56 [])
    ·exact Go 4 Z (Cl h56 [])
   ·exact Go 8 Z (Cl h56 [])
  refine Gx 1 Z (TC.le hle (Q1 Z h52 (fun hc59 h52 => ?_) (fun hc59 h52 => ?_)))
  ·refine Gc 2 Z (Qg h52 ?_)
   obtain rfl := Oj hb49 h52
   exact Gx 1 Z (Qt (Lr []))
  refine Gc 8 Z (Bd h52 fun x60 hx60 h52 => IzE hx60 (QK x60) Z (Go 4 Z (Cd [] h52 (hrec195 _ _) Z fun r61 hr61 h52 => FE Z (Go 11 Z (Bd h52 fun x62 hx62 h52 => IzE hx62 (QK x62) Z (Go 4 Z (Cd [] h52 (hrec195 _ _) Z fun r63 hr63 h52 => FE Z (Go 32 Z (Bd h52 fun x64 hx64 h52 => IzE hx64 (QK x64) Z (Go 2 Z (Cz [] h52 (k_ao _ _) Z fun r65 hr65 h52 => Go 3 Z (Bd h52 fun b69 h70 h52 => ?_))))))))))))
  refine Ct b69 [] [0,1,6,8] (fun b69 => [(7, I b69)]) (fun _ => []) (fun _ => rfl) ?_ (fun env H hle => ?_)
  ·refine G0 0 Z (Cn Z h70 (fun hc71 h70 => ?_) (fun hc71 h70 => ?_))
   ·exact Gc 4 Z (Bd h70 fun x72 hx72 h70 => IzE hx72 (QK x72) Z (Go 2 Z (Cz [] h70 (k_h _ _ _) Z fun r73 hr73 h70 => Go 3 Z (Cl h70 []))))
   exact Gc 1 Z (Cl h70 [])
  exact Gx 2 Z (TC.le hle (Gc 5 Z (Qf h52 (Lr []))))
 refine Gx 1 Z (TC.le hle (Gc 9 Z ?_))
 obtain rfl := Oi h
 exact R2 4 5 Z Z (Lr [])
def F_r : Nat -> (List Step) -> Int -> Option (Int × Int)
  | 0 => fun _ _ => none
  | n + 1 => B_r (F_r n) n
theorem k_r (n : Nat) : ∀ (a1 : List Step) (a2 : Int) (r : Int × Int), F_r n a1 a2 = some r -> Csm prog 77 [.rsl 8 (List.map Step.enc a1), I a2] [] (fun r => .tup [I r.1, I r.2]) r := by
  induction n with
  | zero => intro a1 a2 r h; cases h
  | succ n ih => intro a1 a2 r h; exact QaR _ ih n a1 a2 r h
def F_dn (n : Nat) (a1 : Cond) (rec200 : Cond -> Option Bool) (s51 : Int) : Option (Ctl Int (Ctl Unit Bool)) :=
  (bif decide (s51 < (a1.Parts.length : Int)) then (idx a1.Parts s51).bind fun x55 => (rec200 x55).bind fun r56 => (bif (!r56) then some (.done (.done false)) else some (.cont (IntKind.i64.wrap (s51 + 1)))) else some (.done (.cont ())))
def B_t (rec200 : Cond -> Option Bool) (n : Nat) (a1 : Cond) : Option Bool :=
  (bif (a1.Kind == 1) then ((bif decide (1 <= a1.Var) then (bif decide (a1.Var <= 3) then (bif decide (0 <= a1.N) then (bif decide (a1.N <= 10000) then some ((a1.Parts.length : Int) == 0) else some false) else some false) else some false) else some false) : Option Bool).bind fun b6 => some b6 else ((bif (a1.Kind == 2) then some (a1.Kind == 2) else some (a1.Kind == 3)) : Option Bool).bind fun b13 => ((bif b13 then ((bif decide ((a1.Parts.length : Int) < 1) then some true else some (decide (16 < (a1.Parts.length : Int)))) : Option Bool).bind fun b28 => (bif b28 then some (.done false) else some (.cont ())) else (bif (a1.Kind == 4) then (bif ((a1.Parts.length : Int) != 1) then some (.done false) else some (.cont ())) else some (.done false))) : Option (Ctl Unit Bool)).bind fun b24 => match b24 with | .cont sb24 => (((bif (a1.Var != 0) then some true else some (a1.N != 0)) : Option Bool).bind fun b35 => (bif b35 then some false else (iter (F_dn n a1 rec200) n 0 : Option (Ctl Unit Bool)).bind fun b48 => match b48 with | .cont sb48 => (some true) | .done sb48 => some sb48)) | .done sb24 => some sb24)
theorem QaI (rec200 : Cond -> Option Bool) (hrec200 : ∀ (a1 : Cond) (r : Bool), rec200 a1 = some r -> Csm prog 199 [.agg (Cond.c a1)] [] (fun r => .bool r) r) (n : Nat) (a1 : Cond) (r : Bool) (h : B_t rec200 n a1 = some r) :
    Csm prog 199 [.agg (Cond.c a1)] [] (fun r => .bool r) r := by
 refine Qb func199 Z Z Z ?_
 refine G0 20 Z (Cn Z h (fun hc1 h => ?_) (fun hc1 h => ?_))
 ·refine Gc 1 Z (Bd h fun b6 h7 h => ?_)
  refine Ct b6 [] [] (fun b6 => [(2, .bool b6)]) (fun _ => []) (fun _ => rfl) ?_ (fun env H hle => ?_)
  ·refine G0 5 Z (Is 11 h7 Z (fun hg8 h7 => ?_) (fun hg8 h7 => ?_))
   ·refine Go 5 Z (Is 16 h7 Z (fun hg9 h7 => ?_) (fun hg9 h7 => ?_))
    ·refine Go 5 Z (Is 21 h7 Z (fun hg10 h7 => ?_) (fun hg10 h7 => ?_))
     ·refine Go 5 Z (Is 26 h7 Z (fun hg11 h7 => ?_) (fun hg11 h7 => ?_))
      ·exact Go 2 Z (Lm Z (Go 4 Z (Cl h7 [])))
      ·exact Go 7 Z (Cl h7 [])
     ·exact Go 12 Z (Cl h7 [])
    ·exact Go 17 Z (Cl h7 [])
   ·exact Go 22 Z (Cl h7 [])
  exact Gx 1 Z (TC.le hle (Gc 3 Z (Rt h 2 [])))
 refine Gc 7 Z (Bd h fun b13 h14 h => ?_)
 refine Ct b13 [0] [1,5] (fun b13 => [(32, .bool b13)]) (fun _ => []) (fun _ => rfl) ?_ (fun env H hle => ?_)
 ·refine G0 0 Z (Cn Z h14 (fun hc15 h14 => ?_) (fun hc15 h14 => ?_))
  ·exact Gc 1 Z (Cl h14 [0])
  exact Gc 4 Z (Cl h14 [0])
 refine Gx 1 Z (TC.le hle (Bd h fun b24 h25 h => ?_))
 refine CtE (b := b24) [0] [1] (fun _ => []) (fun _ => []) (fun _ => rfl) ?_ (fun sb24 env H hb hle => ?_)
 ·refine G0 0 Z (Cn Z h25 (fun hc26 h25 => ?_) (fun hc26 h25 => ?_))
  ·refine Gc 1 Z (Bd h25 fun b28 h29 h25 => ?_)
   refine Ct b28 [0] [1] (fun b28 => [(44, .bool b28)]) (fun _ => []) (fun _ => rfl) ?_ (fun env H hle => ?_)
   ·refine G0 3 Z (Lm Z (Go 2 Z (Is 39 h29 Z (fun hg30 h29 => ?_) (fun hg30 h29 => ?_))))
    ·exact Go 6 Z (Cl h29 [0])
    ·exact Go 2 Z (Lm Z (Go 3 Z (Cl h29 [0])))
   refine Gx 1 Z (TC.le hle (Cn Z h25 (fun hc31 h25 => ?_) (fun hc31 h25 => ?_)))
   ·refine Gc 6 Z ?_
    cases h25
    exact Qi (Gx 2 Z (Rt h 2 []))
   refine Gc 1 Z ?_
   cases h25
   exact Qh Z (Lr [0])
  refine Gc 6 Z (Q1 Z h25 (fun hc32 h25 => ?_) (fun hc32 h25 => ?_))
  ·refine Gc 6 Z ?_
   cases h25
   exact Qi (Gx 2 Z (Rt h 2 []))
  refine Gc 4 Z (Lm Z (Go 3 Z (Cn Z h25 (fun hc33 h25 => ?_) (fun hc33 h25 => ?_))))
  ·refine Gc 6 Z ?_
   cases h25
   exact Qi (Gx 2 Z (Rt h 2 []))
  refine Gc 1 Z ?_
  cases h25
  exact Qh Z (Lr [0])
 subst hb
 refine Gx 2 Z (TC.le hle (Gc 2 Z (Bd h fun b35 h36 h => ?_)))
 refine Ct b35 [0] [1] (fun b35 => [(58, .bool b35)]) (fun _ => []) (fun _ => rfl) ?_ (fun env H hle => ?_)
 ·refine G0 5 Z (Is 54 h36 Z (fun hg37 h36 => ?_) (fun hg37 h36 => ?_))
  ·exact Go 5 Z (Cl h36 [0])
  ·exact Go 5 Z (Cl h36 [0])
 refine Gx 1 Z (TC.le hle (Cn Z h (fun hc38 h => ?_) (fun hc38 h => ?_)))
 ·exact Gc 7 Z (Rt h 2 [])
 refine Gc 8 Z (Bd h fun b48 h49 h => ?_)
 refine CtE (b := b48) [] [] (fun _ => []) (fun _ => []) (fun _ => rfl) ?_ (fun sb48 env H hbe hle => ?_)
 ·refine G0 1 Z ?_
  refine Lp [0] [1] (fun s51 => [(3, I s51)]) (fun _ => []) h49 (fun _ => rfl) (Lr [0]) fun s51 d52 h53 hb50 => ?_
  refine G0 6 Z (Lm Z (Go 3 Z (Q1 Z h53 (fun hc54 h53 => ?_) (fun hc54 h53 => ?_))))
  ·refine Gc 2 Z (Qg h53 ?_)
   obtain rfl := Oj hb50 h53
   exact Gx 1 Z (Qh Z (Lr []))
  refine Gc 9 Z (Bd h53 fun x55 hx55 h53 => IzE hx55 (Ym x55) Z (Go 1 Z (Cz [] h53 (hrec200 _) Z fun r56 hr56 h53 => Go 3 Z (Cn Z h53 (fun hc57 h53 => ?_) (fun hc57 h53 => ?_)))))
  ·refine Gc 8 Z (Qk h53 ?_)
   obtain rfl := Oj hb50 h53
   exact Gx 1 Z (Qi (Gx 1 Z (Rt h 2 [])))
  exact Gc 8 Z (Qf h53 (Lr [0]))
 subst hbe
 exact Gx 1 Z (TC.le hle (Gc 6 Z (Rt h 2 [])))
def F_t : Nat -> Cond -> Option Bool
  | 0 => fun _ => none
  | n + 1 => B_t (F_t n) n
theorem k_t (n : Nat) : ∀ (a1 : Cond) (r : Bool), F_t n a1 = some r -> Csm prog 199 [.agg (Cond.c a1)] [] (fun r => .bool r) r := by
  induction n with
  | zero => intro a1 r h; cases h
  | succ n ih => intro a1 r h; exact QaI _ ih n a1 r h
def F_bd (n : Nat) (a1 : Cond) : Option Int :=
  (F_h n a1 0).bind fun r1 => (bif decide (256 < r1) then some 2 else (F_t n a1).bind fun r3 => (bif (!r3) then some 71 else some 0))
theorem k_bd (n : Nat) (a1 : Cond) (r : Int) (h : F_bd n a1 = some r) :
    Csm prog 143 [.agg (Cond.c a1)] [] (fun r => I r) r := by
 refine Qb func143 Z Z Z ?_
 refine G0 10 Z (Cz [] h (k_h _ _ _) Z fun r1 hr1 h => Go 3 Z (Cn Z h (fun hc2 h => ?_) (fun hc2 h => ?_)))
 ·exact Gc 7 Z (Rt h 2 [])
 refine Gc 6 Z (Cz [] h (k_t _ _) Z fun r3 hr3 h => Go 3 Z (Cn Z h (fun hc4 h => ?_) (fun hc4 h => ?_)))
 ·exact Gc 7 Z (Rt h 2 [])
 exact Gc 8 Z (Rt h 2 [])
def F_gp (n : Nat) (a1 : List Step) (rec198 : (List Step) -> Option Bool) (s141 : Int) : Option (Ctl Int (Ctl Unit Bool)) :=
  (bif decide (s141 < (a1.length : Int)) then (idx a1 s141).bind fun x145 => ((bif (x145.Kind == 1) then ((bif decide (x145.By < 1) then some true else (bif decide (5 < x145.By) then some true else (F_ao n x145.Cond).bind fun r190 => (bif (!r190) then some true else (bif ((x145.Then.length : Int) != 0) then some true else some ((x145.Else.length : Int) != 0))))) : Option Bool).bind fun b186 => (bif b186 then some (.done (.done (.done false))) else some (.cont ())) else (bif (x145.Kind == 2) then ((bif (x145.By != 0) then some true else (F_bd n x145.Cond).bind fun r205 => (bif (r205 != 0) then some true else (bif ((x145.Then.length : Int) == 0) then some true else (rec198 x145.Then).bind fun r208 => (bif (!r208) then some true else (rec198 x145.Else).bind fun r210 => some (!r210))))) : Option Bool).bind fun b202 => (bif b202 then some (.done (.done (.done false))) else some (.cont ())) else some (.done (.done (.done false))))) : Option (Ctl Unit (Ctl Int (Ctl Unit Bool)))).bind fun b178 => match b178 with | .cont sb178 => (some (.cont (IntKind.i64.wrap (s141 + 1)))) | .done sb178 => some sb178 else some (.done (.cont ())))
def B_g (rec198 : (List Step) -> Option Bool) (n : Nat) (a1 : List Step) : Option Bool :=
  (iter (F_gp n a1 rec198) n 0 : Option (Ctl Unit Bool)).bind fun b138 => match b138 with | .cont sb138 => (some true) | .done sb138 => some sb138
theorem QaH (rec198 : (List Step) -> Option Bool) (hrec198 : ∀ (a1 : List Step) (r : Bool), rec198 a1 = some r -> Csm prog 78 [.rsl 8 (List.map Step.enc a1)] [] (fun r => .bool r) r) (n : Nat) (a1 : List Step) (r : Bool) (h : B_g rec198 n a1 = some r) :
    Csm prog 78 [.rsl 8 (List.map Step.enc a1)] [] (fun r => .bool r) r := by
 refine Qb func78 Z Z Z ?_
 refine G0 11 Z (Bd h fun b138 h139 h => ?_)
 refine CtE (b := b138) [] [] (fun _ => []) (fun _ => []) (fun _ => rfl) ?_ (fun sb138 env H hbe hle => ?_)
 ·refine G0 1 Z ?_
  refine Lp [] [0] (fun s141 => [(3, I s141)]) (fun _ => []) h139 (fun _ => rfl) (Lr []) fun s141 d142 h143 hb140 => ?_
  refine G0 5 Z (Lm Z (Go 3 Z (Q1 Z h143 (fun hc144 h143 => ?_) (fun hc144 h143 => ?_))))
  ·refine Gc 2 Z (Qg h143 ?_)
   obtain rfl := Oj hb140 h143
   exact Gx 1 Z (Qh Z (Lr []))
  refine Gc 8 Z (Bd h143 fun x145 hx145 h143 => IzE hx145 (QK x145) Z (Go 18 Z (Bd h143 fun b178 h179 h143 => ?_)))
  refine CtE (b := b178) [] [0,3] (fun _ => []) (fun _ => []) (fun _ => rfl) ?_ (fun sb178 env H hb hle => ?_)
  ·refine G0 0 Z (Cn Z h179 (fun hc180 h179 => ?_) (fun hc180 h179 => ?_))
   ·refine Gc 1 Z (Bd h179 fun b186 h187 h179 => ?_)
    refine Ct b186 [] [0,3] (fun b186 => [(44, .bool b186)]) (fun _ => []) (fun _ => rfl) ?_ (fun env H hle => ?_)
    ·refine G0 5 Z (Is 22 h187 Z (fun hg188 h187 => ?_) (fun hg188 h187 => ?_))
     ·exact Go 23 Z (Cl h187 [])
     ·refine Go 5 Z (Is 27 h187 Z (fun hg189 h187 => ?_) (fun hg189 h187 => ?_))
      ·exact Go 18 Z (Cl h187 [])
      ·refine Go 2 Z (Cz [] h187 (k_ao _ _) Z fun r190 hr190 h187 => Go 3 Z (Is 33 h187 Z (fun hg191 h187 => ?_) (fun hg191 h187 => ?_)))
       ·exact Go 12 Z (Cl h187 [])
       ·refine Go 2 Z (Lm Z (Go 3 Z (Is 39 h187 Z (fun hg192 h187 => ?_) (fun hg192 h187 => ?_))))
        ·exact Go 6 Z (Cl h187 [])
        ·exact Go 2 Z (Lm Z (Go 3 Z (Cl h187 [])))
    refine Gx 1 Z (TC.le hle (Cn Z h179 (fun hc193 h179 => ?_) (fun hc193 h179 => ?_)))
    ·refine Gc 6 Z ?_
     cases h179
     refine Qi (Gx 3 Z (Qk h143 ?_))
     obtain rfl := Oj hb140 h143
     exact Gx 1 Z (Qi (Gx 1 Z (Rt h 2 [])))
    refine Gc 1 Z ?_
    cases h179
    exact Qh Z (Lr [])
   refine Gc 6 Z (Q1 Z h179 (fun hc194 h179 => ?_) (fun hc194 h179 => ?_))
   ·refine Gc 6 Z ?_
    cases h179
    refine Qi (Gx 3 Z (Qk h143 ?_))
    obtain rfl := Oj hb140 h143
    exact Gx 1 Z (Qi (Gx 1 Z (Rt h 2 [])))
   refine Gc 1 Z (Bd h179 fun b202 h203 h179 => ?_)
   refine Ct b202 [] [0,3] (fun b202 => [(73, .bool b202)]) (fun _ => []) (fun _ => rfl) ?_ (fun env H hle => ?_)
   ·refine G0 5 Z (Is 50 h203 Z (fun hg204 h203 => ?_) (fun hg204 h203 => ?_))
    ·exact Go 24 Z (Cl h203 [])
    ·refine Go 2 Z (Cz [] h203 (k_bd _ _) Z fun r205 hr205 h203 => Go 3 Z (Is 56 h203 Z (fun hg206 h203 => ?_) (fun hg206 h203 => ?_)))
     ·exact Go 18 Z (Cl h203 [])
     ·refine Go 2 Z (Lm Z (Go 3 Z (Is 62 h203 Z (fun hg207 h203 => ?_) (fun hg207 h203 => ?_))))
      ·exact Go 12 Z (Cl h203 [])
      ·refine Go 2 Z (Cz [] h203 (hrec198 _) Z fun r208 hr208 h203 => Go 3 Z (Is 68 h203 Z (fun hg209 h203 => ?_) (fun hg209 h203 => ?_)))
       ·exact Go 6 Z (Cl h203 [])
       ·exact Go 2 Z (Cz [] h203 (hrec198 _) Z fun r210 hr210 h203 => Go 3 Z (Cl h203 []))
   refine Gx 1 Z (TC.le hle (Cn Z h179 (fun hc211 h179 => ?_) (fun hc211 h179 => ?_)))
   ·refine Gc 6 Z ?_
    cases h179
    refine Qi (Gx 3 Z (Qk h143 ?_))
    obtain rfl := Oj hb140 h143
    exact Gx 1 Z (Qi (Gx 1 Z (Rt h 2 [])))
   refine Gc 1 Z ?_
   cases h179
   exact Qh Z (Lr [])
  subst hb
  exact Gx 3 Z (TC.le hle (Gc 5 Z (Qf h143 (Lr []))))
 subst hbe
 exact Gx 1 Z (TC.le hle (Gc 6 Z (Rt h 2 [])))
def F_g : Nat -> (List Step) -> Option Bool
  | 0 => fun _ => none
  | n + 1 => B_g (F_g n) n
theorem k_g (n : Nat) : ∀ (a1 : List Step) (r : Bool), F_g n a1 = some r -> Csm prog 78 [.rsl 8 (List.map Step.enc a1)] [] (fun r => .bool r) r := by
  induction n with
  | zero => intro a1 r h; cases h
  | succ n ih => intro a1 r h; exact QaH _ ih n a1 r h
def F_bq (n : Nat) (a1 : List Step) : Option Int :=
  (F_r n a1 0).bind fun r1 => ((bif decide (64 < r1.1) then some true else some (decide (256 < r1.2))) : Option Bool).bind fun b3 => (bif b3 then some 2 else ((bif ((a1.length : Int) == 0) then some true else (F_g n a1).bind fun r12 => some (!r12)) : Option Bool).bind fun b9 => (bif b9 then some 71 else some 0))
theorem k_bq (n : Nat) (a1 : List Step) (r : Int) (h : F_bq n a1 = some r) :
    Csm prog 47 [.rsl 8 (List.map Step.enc a1)] [] (fun r => I r) r := by
 refine Qb func47 Z Z Z ?_
 refine G0 8 Z (Cd [] h (k_r _ _ _) Z fun r1 hr1 h => FE Z (Go 9 Z (Bd h fun b3 h4 h => ?_)))
 refine Ct b3 [] [0] (fun b3 => [(15, .bool b3)]) (fun _ => []) (fun _ => rfl) ?_ (fun env H hle => ?_)
 ·refine G0 4 Z (Is 12 h4 Z (fun hg5 h4 => ?_) (fun hg5 h4 => ?_))
  ·exact Go 4 Z (Cl h4 [])
  ·exact Go 4 Z (Cl h4 [])
 refine Gx 1 Z (TC.le hle (Cn Z h (fun hc6 h => ?_) (fun hc6 h => ?_)))
 ·exact Gc 7 Z (Rt h 2 [])
 refine Gc 4 Z (Bd h fun b9 h10 h => ?_)
 refine Ct b9 [] [] (fun b9 => [(23, .bool b9)]) (fun _ => []) (fun _ => rfl) ?_ (fun env H hle => ?_)
 ·refine G0 2 Z (Lm Z (Go 2 Z (Is 19 h10 Z (fun hg11 h10 => ?_) (fun hg11 h10 => ?_))))
  ·exact Go 5 Z (Cl h10 [])
  ·exact Go 1 Z (Cz [] h10 (k_g _ _) Z fun r12 hr12 h10 => Go 3 Z (Cl h10 []))
 refine Gx 1 Z (TC.le hle (Cn Z h (fun hc13 h => ?_) (fun hc13 h => ?_)))
 ·exact Gc 7 Z (Rt h 2 [])
 exact Gc 8 Z (Rt h 2 [])
def F_ec (n : Nat) (a1 : List Part) (s167 : (List Int) × Int) (r219 : List Int) (s240 : (List Int) × Int) : Option (Ctl ((List Int) × Int) (List Int)) :=
  ((idx a1 s167.2).bind fun x247 => (bif decide (s240.2 < x247.Laps) then some (decide ((s240.1.length : Int) <= 256)) else some false) : Option Bool).bind fun b245 => (bif b245 then (app s240.1 r219).bind fun l250 => some (.cont (l250, IntKind.i64.wrap (s240.2 + 1))) else some (.done s240.1))
def F_gf (n : Nat) (a1 : List Part) (rec202 : (List Part) -> Option (List Int)) (s167 : (List Int) × Int) : Option (Ctl ((List Int) × Int) (List Int)) :=
  ((bif decide (s167.2 < (a1.length : Int)) then some (decide ((s167.1.length : Int) <= 256)) else some false) : Option Bool).bind fun b171 => (bif b171 then ((idx a1 s167.2).bind fun x214 => (bif (x214.Laps == 0) then (idx a1 s167.2).bind fun x216 => (app s167.1 [x216.Mat]).bind fun l217 => some l217 else (idx a1 s167.2).bind fun x218 => (rec202 x218.Parts).bind fun r219 => (iter (F_ec n a1 s167 r219) n (s167.1, 0) : Option (List Int)).bind fun b237 => some b237) : Option (List Int)).bind fun b212 => some (.cont (b212, IntKind.i64.wrap (s167.2 + 1))) else some (.done s167.1))
def B_x (rec202 : (List Part) -> Option (List Int)) (n : Nat) (a1 : List Part) : Option (List Int) :=
  (iter (F_gf n a1 rec202) n (([] : List Int), 0) : Option (List Int)).bind fun b164 => some b164
theorem QaA (rec202 : (List Part) -> Option (List Int)) (hrec202 : ∀ (a1 : List Part) (r : List Int), rec202 a1 = some r -> C prog 79 [.rsl 3 (List.map Part.enc a1)] [] (RQ (fun r => .osl 0 0 r.length 1) (fun r => [.row 3 1 (List.map (encI .i64) r)]) r)) (n : Nat) (a1 : List Part) (r : List Int) (h : B_x rec202 n a1 = some r) :
    C prog 79 [.rsl 3 (List.map Part.enc a1)] [] (RQ (fun r => .osl 0 0 r.length 1) (fun r => [.row 3 1 (List.map (encI .i64) r)]) r) := by
 refine Qb func79 Z Z Z ?_
 refine G0 7 Z ?_
 refine vH (OpH.lit (xs := []) (es := List.map (encI .i64) []) QJ Z Z Z Z Z trivial Z Z) ?_
 refine FE Z (Go 9 Z (Bd h fun b164 h165 h => ?_))
 refine Ct b164 [0] [] (fun b164 => [(3, .osl 0 0 b164.length 1)]) (fun b164 => [(0, .row 3 1 (List.map (encI .i64) b164))]) (fun _ => rfl) ?_ (fun env H hle => ?_)
 ·refine G0 1 Z ?_
  refine Lp [0] [0] (fun s167 => [(3, .osl 0 0 s167.1.length 1), (4, I s167.2)]) (fun s167 => [(0, .row 3 1 (List.map (encI .i64) s167.1))]) h165 (fun _ => rfl) (Lr [0]) fun s167 d168 h169 hb166 => ?_
  refine G0 2 Z (Bd h169 fun b171 h172 h169 => ?_)
  refine Ct b171 [0] [0,3,4] (fun b171 => [(16, .bool b171)]) (fun _ => []) (fun _ => rfl) ?_ (fun env H hle => ?_)
  ·refine G0 3 Z (Lm Z (Go 2 Z (Is 12 h172 Z (fun hg173 h172 => ?_) (fun hg173 h172 => ?_))))
   ·exact Go 5 Z (Cl h172 [0])
   ·exact Go 5 Z (Cl h172 [0])
  refine Gx 1 Z (TC.le hle (Q1 Z h169 (fun hc174 h169 => ?_) (fun hc174 h169 => ?_)))
  ·refine Gc 2 Z (Qg h169 ?_)
   obtain rfl := Oj hb166 h169
   exact Gx 1 Z (Qt (Lr [0]))
  refine Gc 3 Z (Bd h169 fun b212 h213 h169 => ?_)
  refine Ct b212 [0] [0,4] (fun b212 => [(3, .osl 0 0 b212.length 1)]) (fun b212 => [(0, .row 3 1 (List.map (encI .i64) b212))]) (fun _ => rfl) ?_ (fun env H hle => ?_)
  ·refine G0 6 Z (Bd h213 fun x214 hx214 h213 => IzE hx214 (QB x214) Z (Go 5 Z (Cn Z h213 (fun hc215 h213 => ?_) (fun hc215 h213 => ?_))))
   ·refine Gc 5 Z (Bd h213 fun x216 hx216 h213 => IzE hx216 (QB x216) Z (Go 2 Z ?_))
    refine vH (OpH.lit (xs := [.tmp 30]) (es := List.map (encI .i64) [x216.Mat]) QJ Z Z Z Z Z ⟨Z, trivial⟩ Z Z) ?_
    refine FE Z (Bd h213 fun l217 hl217 h213 => ?_)
    refine vH (QF (e := (encI .i64)) hl217 QJ runUnderlying48 (Yg (i := 1))) ?_
    exact FE Z (Go 6 Z (Cl h213 [2]))
   refine Gc 6 Z (Bd h213 fun x218 hx218 h213 => IzE hx218 (QB x218) Z (Go 2 Z (Cd [] h213 (hrec202 _) Z fun r219 hr219 h213 => FE Z (Go 8 Z (Bd h213 fun b237 h238 h213 => ?_)))))
   refine Ct b237 [0] [0,4] (fun b237 => [(3, .osl 0 0 b237.length 1)]) (fun b237 => [(0, .row 3 1 (List.map (encI .i64) b237))]) (fun _ => rfl) ?_ (fun env H hle => ?_)
   ·refine G0 1 Z ?_
    refine Lp [0,1] [0,4,5] (fun s240 => [(3, .osl 0 0 s240.1.length 1), (6, I s240.2)]) (fun s240 => [(0, .row 3 1 (List.map (encI .i64) s240.1))]) h238 (fun _ => rfl) (Lr [0, 1]) fun s240 d241 h242 hb239 => ?_
    refine G0 2 Z (Bd h242 fun b245 h246 h242 => ?_)
    refine Ct b245 [0,1] [0,3,4,5,6] (fun b245 => [(50, .bool b245)]) (fun _ => []) (fun _ => rfl) ?_ (fun env H hle => ?_)
    ·refine G0 4 Z (Bd h246 fun x247 hx247 h246 => IzE hx247 (QB x247) Z (Go 4 Z (Is 46 h246 Z (fun hg248 h246 => ?_) (fun hg248 h246 => ?_))))
     ·exact Go 5 Z (Cl h246 [0,1])
     ·exact Go 5 Z (Cl h246 [0,1])
    refine Gx 1 Z (TC.le hle (Q1 Z h242 (fun hc249 h242 => ?_) (fun hc249 h242 => ?_)))
    ·refine Gc 2 Z (Qg h242 ?_)
     obtain rfl := Oj hb239 h242
     exact Gx 1 Z (Qt (Lr [0]))
    refine Gc 7 Z (Bd h242 fun l250 hl250 h242 => ?_)
    refine vH (QF (e := (encI .i64)) hl250 QJ runUnderlying48 (Yg (i := 1))) ?_
    exact FE Z (Go 9 Z (Qf h242 (Lr [2, 1])))
   refine Gx 1 Z ?_
   cases h213
   exact Qt (Le.trans hle (Lr [0]))
  exact Gx 1 Z (TC.le hle (Gc 5 Z (Qf h169 (Lr [0]))))
 exact Gx 1 Z (TC.le hle (Gc 7 Z (Rt h 2 [0])))
def F_x : Nat -> (List Part) -> Option (List Int)
  | 0 => fun _ => none
  | n + 1 => B_x (F_x n) n
theorem k_x (n : Nat) : ∀ (a1 : List Part) (r : List Int), F_x n a1 = some r -> C prog 79 [.rsl 3 (List.map Part.enc a1)] [] (RQ (fun r => .osl 0 0 r.length 1) (fun r => [.row 3 1 (List.map (encI .i64) r)]) r) := by
  induction n with
  | zero => intro a1 r h; cases h
  | succ n ih => intro a1 r h; exact QaA _ ih n a1 r h
def F_gi (n : Nat) (a1 : Course) (a2 : Int) (a3 : Int) (s25 : Int) : Option (Ctl Int (Ctl Unit Int)) :=
  (bif decide (s25 < (a1.Legs.length : Int)) then ((idx a1.Legs s25).bind fun x34 => (bif (x34.From == a2) then (idx a1.Legs s25).bind fun x36 => some (x36.To == a3) else some false) : Option Bool).bind fun b32 => (bif b32 then some (.done (.done s25)) else some (.cont (IntKind.i64.wrap (s25 + 1)))) else some (.done (.cont ())))
def F_af (n : Nat) (a1 : Course) (a2 : Int) (a3 : Int) : Option Int :=
  (iter (F_gi n a1 a2 a3) n 0 : Option (Ctl Unit Int)).bind fun b22 => match b22 with | .cont sb22 => (some (-1)) | .done sb22 => some sb22
theorem k_af (n : Nat) (a1 : Course) (a2 : Int) (a3 : Int) (r : Int) (h : F_af n a1 a2 a3 = some r) :
    Csm prog 80 [.agg (Course.c a1), I a2, I a3] [] (fun r => I r) r := by
 refine Qb func80 Z Z Z ?_
 refine G0 12 Z (Bd h fun b22 h23 h => ?_)
 refine CtE (b := b22) [] [] (fun _ => []) (fun _ => []) (fun _ => rfl) ?_ (fun sb22 env H hbe hle => ?_)
 ·refine G0 1 Z ?_
  refine Lp [0] [1,2,3] (fun s25 => [(7, I s25)]) (fun _ => []) h23 (fun _ => rfl) (Lr [0]) fun s25 d26 h27 hb24 => ?_
  refine G0 6 Z (Lm Z (Go 3 Z (Q1 Z h27 (fun hc28 h27 => ?_) (fun hc28 h27 => ?_))))
  ·refine Gc 2 Z (Qg h27 ?_)
   obtain rfl := Oj hb24 h27
   exact Gx 1 Z (Qh Z (Lr []))
  refine Gc 5 Z (Bd h27 fun b32 h33 h27 => ?_)
  refine Ct b32 [0] [1,2,3,7] (fun b32 => [(32, .bool b32)]) (fun _ => []) (fun _ => rfl) ?_ (fun env H hle => ?_)
  ·refine G0 4 Z (Bd h33 fun x34 hx34 h33 => Iz hx34 Z (Go 5 Z (Is 23 h33 Z (fun hg35 h33 => ?_) (fun hg35 h33 => ?_))))
   ·exact Go 3 Z (Bd h33 fun x36 hx36 h33 => Iz hx36 Z (Go 6 Z (Cl h33 [0])))
   ·exact Go 10 Z (Cl h33 [0])
  refine Gx 1 Z (TC.le hle (Cn Z h27 (fun hc37 h27 => ?_) (fun hc37 h27 => ?_)))
  ·refine Gc 9 Z (Qk h27 ?_)
   obtain rfl := Oj hb24 h27
   exact Gx 1 Z (Qi (Gx 1 Z (Rt h 6 [])))
  exact Gc 8 Z (Qf h27 (Lr [0]))
 subst hbe
 exact Gx 1 Z (TC.le hle (Gc 6 Z (Rt h 6 [])))
def F_fh (n : Nat) (a1 : List Int) (a2 : Int) (s17 : Int × Int) : Option (Ctl (Int × Int) Int) :=
  (bif decide (s17.2 < (a1.length : Int)) then (idx a1 s17.2).bind fun x21 => ((bif (x21 == a2) then some (IntKind.i64.wrap (s17.1 + 1)) else some s17.1) : Option Int).bind fun b23 => some (.cont (b23, IntKind.i64.wrap (s17.2 + 1))) else some (.done s17.1))
def F_aj (n : Nat) (a1 : List Int) (a2 : Int) : Option Int :=
  (iter (F_fh n a1 a2) n (0, 0) : Option Int).bind fun b14 => some b14
theorem k_aj (n : Nat) (a1 : List Int) (a2 : Int) (r : Int) (h : F_aj n a1 a2 = some r) :
    Csm prog 81 [.rsl 1 (List.map (encI .i64) a1), I a2] [] (fun r => I r) r := by
 refine Qb func81 Z Z Z ?_
 refine G0 16 Z (Bd h fun b14 h15 h => ?_)
 refine Ct b14 [] [] (fun b14 => [(5, I b14)]) (fun _ => []) (fun _ => rfl) ?_ (fun env H hle => ?_)
 ·refine G0 1 Z ?_
  refine Lp [] [0,1] (fun s17 => [(5, I s17.1), (6, I s17.2)]) (fun _ => []) h15 (fun _ => rfl) (Lr []) fun s17 d18 h19 hb16 => ?_
  refine G0 5 Z (Lm Z (Go 3 Z (Q1 Z h19 (fun hc20 h19 => ?_) (fun hc20 h19 => ?_))))
  ·refine Gc 2 Z (Qg h19 ?_)
   obtain rfl := Oj hb16 h19
   exact Gx 1 Z (Qt (Lr []))
  refine Gc 8 Z (Bd h19 fun x21 hx21 h19 => Iz hx21 Z (Go 5 Z (Bd h19 fun b23 h24 h19 => ?_)))
  refine Ct b23 [] [0,1,6] (fun b23 => [(5, I b23)]) (fun _ => []) (fun _ => rfl) ?_ (fun env H hle => ?_)
  ·refine G0 0 Z (Cn Z h24 (fun hc25 h24 => ?_) (fun hc25 h24 => ?_))
   ·exact Gc 5 Z (Cl h24 [])
   exact Gc 1 Z (Cl h24 [])
  exact Gx 2 Z (TC.le hle (Gc 5 Z (Qf h19 (Lr []))))
 exact Gx 1 Z (TC.le hle (Gc 7 Z (Rt h 4 [])))
def F_cn (n : Nat) (a1 : Course) (r1 : List Int) (s45 : Int) : Option (Ctl Int (Ctl Unit Bool)) :=
  (bif decide (s45 < (r1.length : Int)) then ((bif (s45 == 0) then some 1 else (bif (s45 == (IntKind.i64.wrap ((r1.length : Int) - 1))) then some 3 else some 2)) : Option Int).bind fun b51 => ((idx r1 s45).bind fun x64 => (idx a1.Mats x64).bind fun x65 => (bif (x65.Kind != b51) then some true else (bif decide (0 < s45) then (idx r1 (IntKind.i64.wrap (s45 - 1))).bind fun x68 => (idx r1 s45).bind fun x69 => (F_af n a1 x68 x69).bind fun r70 => some (decide (r70 < 0)) else some false)) : Option Bool).bind fun b62 => (bif b62 then some (.done (.done false)) else some (.cont (IntKind.i64.wrap (s45 + 1)))) else some (.done (.cont ())))
def F_hq (n : Nat) (a2 : Distance) (r1 : List Int) (s101 : Int) : Option (Ctl Int (Ctl Unit Bool)) :=
  (bif decide (s101 < (a2.Cutoffs.length : Int)) then (idx a2.Cutoffs s101).bind fun x105 => (F_aj n r1 x105.Mat).bind fun r106 => (idx a2.Cutoffs s101).bind fun x107 => (bif decide (r106 < x107.Lap) then some (.done (.done false)) else some (.cont (IntKind.i64.wrap (s101 + 1)))) else some (.done (.cont ())))
def F_ca (n : Nat) (a1 : Course) (a2 : Distance) : Option Bool :=
  (F_x n a2.Route).bind fun r1 => ((bif decide ((r1.length : Int) < 2) then some true else some (decide (256 < (r1.length : Int)))) : Option Bool).bind fun b3 => (bif b3 then some false else (iter (F_cn n a1 r1) n 0 : Option (Ctl Unit Bool)).bind fun b42 => match b42 with | .cont sb42 => (((bif (a2.Extra != (-1)) then (idx a1.Mats a2.Extra).bind fun x81 => (bif (x81.Kind != 2) then some true else (F_aj n r1 a2.Extra).bind fun r83 => (bif (r83 == 0) then some true else (F_af n a1 a2.Extra a2.Extra).bind fun r85 => some (decide (r85 < 0)))) else some false) : Option Bool).bind fun b78 => (bif b78 then some false else (iter (F_hq n a2 r1) n 0 : Option (Ctl Unit Bool)).bind fun b98 => match b98 with | .cont sb98 => (some true) | .done sb98 => some sb98)) | .done sb42 => some sb42)
theorem k_ca (n : Nat) (a1 : Course) (a2 : Distance) (r : Bool) (h : F_ca n a1 a2 = some r) :
    Csm prog 48 [.agg (Course.c a1), .agg (Distance.c a2)] [] (fun r => .bool r) r := by
 refine Qb func48 Z Z Z ?_
 refine G0 11 Z (Cd [] h (k_x _ _) Z fun r1 hr1 h => FE Z (Go 12 Z (Bd h fun b3 h4 h => ?_)))
 refine Ct b3 [0,1,2] [2,3,5,6] (fun b3 => [(20, .bool b3)]) (fun _ => []) (fun _ => rfl) ?_ (fun env H hle => ?_)
 ·refine G0 4 Z (Is 17 h4 Z (fun hg5 h4 => ?_) (fun hg5 h4 => ?_))
  ·exact Go 4 Z (Cl h4 [0,1,2])
  ·exact Go 4 Z (Cl h4 [0,1,2])
 refine Gx 1 Z (TC.le hle (Cn Z h (fun hc6 h => ?_) (fun hc6 h => ?_)))
 ·exact Gc 7 Z (Rt h 4 [])
 refine Gc 8 Z (Bd h fun b42 h43 h => ?_)
 refine CtE (b := b42) [0,1,2] [2,3,5] (fun _ => []) (fun _ => []) (fun _ => rfl) ?_ (fun sb42 env H hbe hle => ?_)
 ·refine G0 1 Z ?_
  refine Lp [0,1,2] [2,3,5,6] (fun s45 => [(7, I s45)]) (fun _ => []) h43 (fun _ => rfl) (Lr [0, 1, 2]) fun s45 d46 h47 hb44 => ?_
  refine G0 8 Z (Q1 Z h47 (fun hc48 h47 => ?_) (fun hc48 h47 => ?_))
  ·refine Gc 2 Z (Qg h47 ?_)
   obtain rfl := Oj hb44 h47
   exact Gx 1 Z (Qh Z (Lr [0, 1, 2]))
  refine Gc 22 Z (Bd h47 fun b51 h52 h47 => ?_)
  refine Ct b51 [0,1,2] [2,3,5,6,7] (fun b51 => [(8, I b51)]) (fun _ => []) (fun _ => rfl) ?_ (fun env H hle => ?_)
  ·refine G0 0 Z (Cn Z h52 (fun hc53 h52 => ?_) (fun hc53 h52 => ?_))
   ·exact Gc 3 Z (Cl h52 [0,1,2])
   refine Gc 8 Z (Cn Z h52 (fun hc54 h52 => ?_) (fun hc54 h52 => ?_))
   ·exact Gc 3 Z (Cl h52 [0,1,2])
   exact Gc 1 Z (Cl h52 [0,1,2])
  refine Gx 2 Z (TC.le hle (Gc 1 Z (Bd h47 fun b62 h63 h47 => ?_)))
  refine Ct b62 [0,1,2] [2,3,5,6,7] (fun b62 => [(61, .bool b62)]) (fun _ => []) (fun _ => rfl) ?_ (fun env H hle => ?_)
  ·refine G0 0 Z (DSs 25 Z (D 4 Z ?_))
   obtain ⟨x64, hx64, h63⟩ := bnd h63
   refine DS.v (x := (.ptr 2 (Int.toNat s45 * 1))) (QS hx64 Z runUnderlying48 sizeOf3) ?_
   refine DS.v (x := (I x64)) (OpV.load Z isAgg3 Z (Qu hx64)) ?_
   obtain ⟨x65, hx65, h63⟩ := bnd h63
   refine DS.wo (x := .rp [.str x65.Name, I x65.Kind]) ?_ ?_
   ·exact Ix hx65 runUnderlying22 sizeOf96 Z Wp
   refine D 5 Z (QfY 11 h63 Z Z Z (fun hg66 h63 => ?_) (fun hg66 h63 => ?_))
   ·exact D 13 Z (DS.done Z (Go 5 Z (Cl h63 [0,1,2])))
   ·refine D 3 Z (QfY 14 h63 Z Z Z (fun hg67 h63 => ?_) (fun hg67 h63 => ?_))
    ·refine D 4 Z ?_
     obtain ⟨x68, hx68, h63⟩ := bnd h63
     refine DS.v (x := (.ptr 2 (Int.toNat (IntKind.i64.wrap (s45 - 1)) * 1))) (QS hx68 Z runUnderlying48 sizeOf3) ?_ (hg := (gT Z))
     refine DS.v (x := (I x68)) (OpV.load Z isAgg3 Z (Qu hx68)) ?_ (hg := (gT Z))
     refine D 2 Z ?_
     obtain ⟨x69, hx69, h63⟩ := bnd h63
     refine DS.v (x := (.ptr 2 (Int.toNat s45 * 1))) (QS hx69 Z runUnderlying48 sizeOf3) ?_ (hg := (gT Z))
     refine DS.v (x := (I x69)) (OpV.load Z isAgg3 Z (Qu hx69)) ?_ (hg := (gT Z))
     exact DS.done Z (Cz [] h63 (k_af _ _ _ _) Z fun r70 hr70 h63 => Go 4 Z (Cl h63 [0,1,2]))
    ·exact D 10 Z (DS.done Z (Go 5 Z (Cl h63 [0,1,2])))
  refine Gx 1 Z (TC.le hle (Cn Z h47 (fun hc71 h47 => ?_) (fun hc71 h47 => ?_)))
  ·refine Gc 8 Z (Qk h47 ?_)
   obtain rfl := Oj hb44 h47
   exact Gx 1 Z (Qi (Gx 1 Z (Rt h 4 [])))
  exact Gc 8 Z (Qf h47 (Lr [0, 1, 2]))
 subst hbe
 refine Gx 1 Z (TC.le hle (Gc 2 Z (Bd h fun b78 h79 h => ?_)))
 refine Ct b78 [1,2] [3,5] (fun b78 => [(90, .bool b78)]) (fun _ => []) (fun _ => rfl) ?_ (fun env H hle => ?_)
 ·refine G0 5 Z (Is 65 h79 Z (fun hg80 h79 => ?_) (fun hg80 h79 => ?_))
  ·refine Go 4 Z (Bd h79 fun x81 hx81 h79 => Iz hx81 Z (Go 4 Z (Is 74 h79 Z (fun hg82 h79 => ?_) (fun hg82 h79 => ?_))))
   ·exact Go 17 Z (Cl h79 [1,2])
   ·refine Go 3 Z (Cb h79 (k_aj _ _ _) Z (lo (ls ln)) fun r83 hr83 h79 => Go 3 Z (Is 81 h79 Z (fun hg84 h79 => ?_) (fun hg84 h79 => ?_)))
    ·exact Go 10 Z (Cl h79 [1,2])
    ·exact Go 5 Z (Cz [] h79 (k_af _ _ _ _) Z fun r85 hr85 h79 => Go 4 Z (Cl h79 [1,2]))
  ·exact Go 26 Z (Cl h79 [1,2])
 refine Gx 1 Z (TC.le hle (Cn Z h (fun hc86 h => ?_) (fun hc86 h => ?_)))
 ·exact Gc 7 Z (Rt h 4 [])
 refine Gc 8 Z (Bd h fun b98 h99 h => ?_)
 refine CtE (b := b98) [] [] (fun _ => []) (fun _ => []) (fun _ => rfl) ?_ (fun sb98 env H hbe hle => ?_)
 ·refine G0 1 Z ?_
  refine Lp [0,1] [3,5] (fun s101 => [(9, I s101)]) (fun _ => []) h99 (fun _ => rfl) (Lr [0, 1]) fun s101 d102 h103 hb100 => ?_
  refine G0 6 Z (Lm Z (Go 3 Z (Q1 Z h103 (fun hc104 h103 => ?_) (fun hc104 h103 => ?_))))
  ·refine Gc 2 Z (Qg h103 ?_)
   obtain rfl := Oj hb100 h103
   exact Gx 1 Z (Qh Z (Lr []))
  refine Gc 5 Z (DSs 14 Z (D 4 Z ?_))
  obtain ⟨x105, hx105, h103⟩ := bnd h103
  refine DS.wo (x := .rp [I x105.Mat, I x105.Lap, I x105.Limit]) ?_ ?_
  ·exact Ix hx105 runUnderlying92 sizeOf168 Z Wp
  refine D 2 Z ?_
  obtain ⟨r106, hr106, h103⟩ := bnd h103
  refine DS.wo (x := I r106) ?_ ?_
  ·refine Qbo (OpC.fn call81 rfl rfl rfl) (LookL.cons rfl (.inr ⟨_, _, _, _, _, rfl, rfl, List.length_map .., rfl⟩) (LookL.cons rfl (.inl ⟨rfl, rfl⟩) LookL.nil)) (k_aj _ _ _ _ hr106) (by rintro _ _ ⟨rfl, rfl⟩; rfl) ?_
   rintro _ _ ⟨rfl, rfl⟩
   exact FE Z Wp
  refine D 3 Z ?_
  obtain ⟨x107, hx107, h103⟩ := bnd h103
  refine DS.wo (x := .rp [I x107.Mat, I x107.Lap, I x107.Limit]) ?_ ?_
  ·exact Ix hx107 runUnderlying92 sizeOf168 Z Wp
  refine D 2 Z (DS.done Z (Go 3 Z (Cn Z h103 (fun hc108 h103 => ?_) (fun hc108 h103 => ?_))))
  ·refine Gc 8 Z (Qk h103 ?_)
   obtain rfl := Oj hb100 h103
   exact Gx 1 Z (Qi (Gx 1 Z (Rt h 4 [])))
  exact Gc 8 Z (Qf h103 (Lr [0, 1]))
 subst hbe
 exact Gx 1 Z (TC.le hle (Gc 6 Z (Rt h 4 [])))
def F_hk (n : Nat) (a1 : Course) (s21 : Int) : Option (Ctl Int (Ctl Unit Int)) :=
  (bif decide (s21 < (a1.Distances.length : Int)) then (idx a1.Distances s21).bind fun x25 => (F_ca n a1 x25).bind fun r26 => (bif (!r26) then some (.done (.done 72)) else some (.cont (IntKind.i64.wrap (s21 + 1)))) else some (.done (.cont ())))
def F_am (n : Nat) (a1 : Course) : Option Int :=
  (F_an n a1).bind fun r1 => (bif (!r1) then some 2 else (F_cb n a1).bind fun r3 => (bif (!r3) then some 70 else (F_co n a1).bind fun r5 => (bif (!r5) then some 71 else (F_bq n a1.Ties).bind fun r7 => (bif (r7 != 0) then some r7 else (iter (F_hk n a1) n 0 : Option (Ctl Unit Int)).bind fun b18 => match b18 with | .cont sb18 => (some 0) | .done sb18 => some sb18))))
theorem k_am (n : Nat) (a1 : Course) (r : Int) (h : F_am n a1 = some r) :
    Csm prog 25 [.agg (Course.c a1)] [] (fun r => I r) r := by
 refine Qb func25 Z Z Z ?_
 refine G0 10 Z (Cz [] h (k_an _ _) Z fun r1 hr1 h => Go 3 Z (Cn Z h (fun hc2 h => ?_) (fun hc2 h => ?_)))
 ·exact Gc 7 Z (Rt h 2 [])
 refine Gc 6 Z (Cz [] h (k_cb _ _) Z fun r3 hr3 h => Go 3 Z (Cn Z h (fun hc4 h => ?_) (fun hc4 h => ?_)))
 ·exact Gc 7 Z (Rt h 2 [])
 refine Gc 6 Z (Cz [] h (k_co _ _) Z fun r5 hr5 h => Go 3 Z (Cn Z h (fun hc6 h => ?_) (fun hc6 h => ?_)))
 ·exact Gc 7 Z (Rt h 2 [])
 refine Gc 6 Z (Cz [] h (k_bq _ _) Z fun r7 hr7 h => Go 10 Z (Cn Z h (fun hc8 h => ?_) (fun hc8 h => ?_)))
 ·exact Gc 8 Z (Rt h 2 [])
 refine Gc 8 Z (Bd h fun b18 h19 h => ?_)
 refine CtE (b := b18) [] [] (fun _ => []) (fun _ => []) (fun _ => rfl) ?_ (fun sb18 env H hbe hle => ?_)
 ·refine G0 1 Z ?_
  refine Lp [0] [1] (fun s21 => [(4, I s21)]) (fun _ => []) h19 (fun _ => rfl) (Lr [0]) fun s21 d22 h23 hb20 => ?_
  refine G0 6 Z (Lm Z (Go 3 Z (Q1 Z h23 (fun hc24 h23 => ?_) (fun hc24 h23 => ?_))))
  ·refine Gc 2 Z (Qg h23 ?_)
   obtain rfl := Oj hb20 h23
   exact Gx 1 Z (Qh Z (Lr []))
  refine Gc 5 Z (DSs 6 Z (D 4 Z ?_))
  obtain ⟨x25, hx25, h23⟩ := bnd h23
  refine DS.wo (x := .rp [.str x25.Name, .rsl 3 (List.map Part.enc x25.Route), I x25.Timing, .rsl 3 (List.map Cutoff.c x25.Cutoffs), I x25.Extra]) ?_ ?_
  ·exact Ix hx25 runUnderlying24 sizeOf94 Z Wp
  refine D 1 Z (DS.done Z (Cz [] h23 (k_ca _ _ _) Z fun r26 hr26 h23 => Go 3 Z (Cn Z h23 (fun hc27 h23 => ?_) (fun hc27 h23 => ?_))))
  ·refine Gc 8 Z (Qk h23 ?_)
   obtain rfl := Oj hb20 h23
   exact Gx 1 Z (Qi (Gx 1 Z (Rt h 2 [])))
  exact Gc 8 Z (Qf h23 (Lr [0]))
 subst hbe
 exact Gx 1 Z (TC.le hle (Gc 6 Z (Rt h 2 [])))
def F_hm (n : Nat) (r16 : (List Starter) × Int) (x218 : Fact) (s244 : Bool × Int) : Option (Ctl (Bool × Int) Bool) :=
  (bif decide (s244.2 < (r16.1.length : Int)) then (idx r16.1 s244.2).bind fun x248 => ((bif s244.1 then some true else some (x248.Bib == x218.Starter.Bib)) : Option Bool).bind fun b250 => some (.cont (b250, IntKind.i64.wrap (s244.2 + 1))) else some (.done s244.1))
def F_hn (n : Nat) (a1 : Course) (a2 : List Fact) (r16 : (List Starter) × Int) (s176 : Int) : Option (Ctl Int (Ctl Unit Bool)) :=
  (bif decide (s176 < (a2.length : Int)) then ((idx a2 s176).bind fun x218 => ((bif (x218.Kind != 1) then some true else (F_w n x218).bind fun r226 => (bif (r226 != 0) then some true else (bif decide ((a1.Distances.length : Int) <= x218.Starter.Distance) then some true else some (decide ((a1.Waves.length : Int) <= x218.Starter.Wave))))) : Option Bool).bind fun b223 => (bif b223 then some (.cont ()) else (iter (F_hm n r16 x218) n (false, 0) : Option Bool).bind fun b241 => (bif (!b241) then some (.done (.done (.done false))) else some (.cont ()))) : Option (Ctl Unit (Ctl Int (Ctl Unit Bool)))).bind fun b216 => match b216 with | .cont sb216 => (some (.cont (IntKind.i64.wrap (s176 + 1)))) | .done sb216 => some sb216 else some (.done (.cont ())))
def F_hr (n : Nat) (a2 : List Fact) (x531 : Starter) (s579 : Fact × Int) : Option (Ctl (Fact × Int) Fact) :=
  (bif decide (s579.2 < (a2.length : Int)) then (idx a2 s579.2).bind fun x583 => ((bif (x583.Kind == 1) then (bif (x583.Starter == x531) then (F_w n x583).bind fun r594 => (bif (r594 == 0) then (bif (s579.1.Kind == 0) then some true else (F_ah n x583 s579.1).bind fun r597 => some (decide (r597 < 0))) else some false) else some false) else some false) : Option Bool).bind fun b590 => ((bif b590 then some x583 else some s579.1) : Option Fact).bind fun b599 => some (.cont (b599, IntKind.i64.wrap (s579.2 + 1))) else some (.done s579.1))
def F_hw (n : Nat) (a1 : Course) (a2 : List Fact) (x531 : Starter) (b576 : Fact) (s645 : Int) : Option (Ctl Int (Ctl Unit (Ctl Int (Ctl Unit Bool)))) :=
  (bif decide (s645 < (a2.length : Int)) then (idx a2 s645).bind fun x649 => ((bif (x649.Kind == 1) then (bif (x649.Starter.Bib == x531.Bib) then (F_w n x649).bind fun r661 => (bif (r661 == 0) then (bif decide (x649.Starter.Distance < (a1.Distances.length : Int)) then (bif decide (x649.Starter.Wave < (a1.Waves.length : Int)) then (F_ah n x649 b576).bind fun r665 => some (decide (r665 < 0)) else some false) else some false) else some false) else some false) else some false) : Option Bool).bind fun b657 => (bif b657 then some (.done (.done (.done (.done false)))) else some (.cont (IntKind.i64.wrap (s645 + 1)))) else some (.done (.cont ())))
def F_hj (n : Nat) (a1 : Course) (a2 : List Fact) (r16 : (List Starter) × Int) (s527 : Int) : Option (Ctl Int (Ctl Unit Bool)) :=
  (bif decide (s527 < (r16.1.length : Int)) then (idx r16.1 s527).bind fun x531 => ((bif decide (0 < s527) then (idx r16.1 (IntKind.i64.wrap (s527 - 1))).bind fun x537 => some (decide (x531.Bib <= x537.Bib)) else some false) : Option Bool).bind fun b534 => (bif b534 then some (.done (.done false)) else (iter (F_hr n a2 x531) n (z_Fact, 0) : Option Fact).bind fun b576 => (bif (b576.Kind == 0) then some (.done (.done false)) else (iter (F_hw n a1 a2 x531 b576) n 0 : Option (Ctl Unit (Ctl Int (Ctl Unit Bool)))).bind fun b642 => match b642 with | .cont sb642 => (some (.cont (IntKind.i64.wrap (s527 + 1)))) | .done sb642 => some sb642)) else some (.done (.cont ())))
def F_ey (n : Nat) (a1 : Course) (a2 : List Fact) : Option Bool :=
  (F_es 300).bind fun r1 => (bif (!r1) then some false else ((F_ai n a1).bind fun r10 => (bif (!r10) then some true else (F_gm n a2 14).bind fun r12 => (bif (!(decide ((a2.length : Int) <= 14))) then some true else (F_am n a1).bind fun r14 => some (r14 != 0))) : Option Bool).bind fun b8 => (bif b8 then some true else (F_ad n a1 a2).bind fun r16 => (bif (r16.2 != 0) then ((bif ((r16.1.length : Int) == 0) then some (r16.2 == 180) else some false) : Option Bool).bind fun b19 => some b19 else (iter (F_hn n a1 a2 r16) n 0 : Option (Ctl Unit Bool)).bind fun b173 => match b173 with | .cont sb173 => ((iter (F_hj n a1 a2 r16) n 0 : Option (Ctl Unit Bool)).bind fun b524 => match b524 with | .cont sb524 => (some true) | .done sb524 => some sb524) | .done sb173 => some sb173)))
theorem k_ey (n : Nat) (a1 : Course) (a2 : List Fact) (r : Bool) (h : F_ey n a1 a2 = some r) :
    Csm prog 7 [.agg (Course.c a1), .rsl 57 (List.map Fact.c a2)] [] (fun r => .bool r) r := by
 refine Qb func7 Z Z Z ?_
 refine G0 9 Z (Cz [] h (k_es _) Z fun r1 hr1 h => Go 3 Z (Cn Z h (fun hc2 h => ?_) (fun hc2 h => ?_)))
 ·exact Gc 7 Z (Rt h 4 [])
 refine Gc 4 Z (Bd h fun b8 h9 h => ?_)
 refine Ct b8 [0] [1,2] (fun b8 => [(35, .bool b8)]) (fun _ => []) (fun _ => rfl) ?_ (fun env H hle => ?_)
 ·refine G0 2 Z (Cz [] h9 (k_ai _ _) Z fun r10 hr10 h9 => Go 2 Z (Is 26 h9 Z (fun hg11 h9 => ?_) (fun hg11 h9 => ?_)))
  ·exact Go 10 Z (Cl h9 [0])
  ·refine Go 1 Z (Cz [] h9 (k_gm _ _ _) Z fun r12 hr12 h9 => Go 3 Z (Is 31 h9 Z (fun hg13 h9 => ?_) (fun hg13 h9 => ?_)))
   ·exact Go 5 Z (Cl h9 [0])
   ·exact Go 1 Z (Cz [] h9 (k_am _ _) Z fun r14 hr14 h9 => Go 3 Z (Cl h9 [0]))
 refine Gx 1 Z (TC.le hle (Cn Z h (fun hc15 h => ?_) (fun hc15 h => ?_)))
 ·exact Gc 7 Z (Rt h 4 [])
 refine Gc 6 Z (Cd [] h (k_ad _ _ _) Z fun r16 hr16 h => FE Z (Go 14 Z (Cn Z h (fun hc17 h => ?_) (fun hc17 h => ?_))))
 ·refine Gc 1 Z (Bd h fun b19 h20 h => ?_)
  refine Ct b19 [] [] (fun b19 => [(4, .bool b19)]) (fun _ => []) (fun _ => rfl) ?_ (fun env H hle => ?_)
  ·refine G0 5 Z (Is 47 h20 Z (fun hg21 h20 => ?_) (fun hg21 h20 => ?_))
   ·exact Go 5 Z (Cl h20 [])
   ·exact Go 5 Z (Cl h20 [])
  exact Gx 1 Z (TC.le hle (Gc 2 Z (Rt h 4 [])))
 refine Gc 6 Z (Lm Z (Go 3 Z (Bd h fun b173 h174 h => ?_)))
 refine CtE (b := b173) [0,1] [1,2,5] (fun _ => []) (fun _ => []) (fun _ => rfl) ?_ (fun sb173 env H hbe hle => ?_)
 ·refine G0 1 Z ?_
  refine Lp [0,1] [1,2,5,51,52] (fun s176 => [(53, I s176)]) (fun _ => []) h174 (fun _ => rfl) (Lr [0, 1]) fun s176 d177 h178 hb175 => ?_
  refine G0 6 Z (Q1 Z h178 (fun hc179 h178 => ?_) (fun hc179 h178 => ?_))
  ·refine Gc 2 Z (Qg h178 ?_)
   obtain rfl := Oj hb175 h178
   exact Gx 1 Z (Qh Z (Lr [0, 1]))
  refine Gc 3 Z (Bd h178 fun b216 h217 h178 => ?_)
  refine CtE (b := b216) [0,1] [1,2,5,51,52,53] (fun _ => []) (fun _ => []) (fun _ => rfl) ?_ (fun sb216 env H hb hle => ?_)
  ·refine G0 3 Z (Bd h217 fun x218 hx218 h217 => Iz hx218 Z (Go 15 Z (Bd h217 fun b223 h224 h217 => ?_)))
   refine Ct b223 [0,1,3] [1,2,5,9,51,52,53] (fun b223 => [(82, .bool b223)]) (fun _ => []) (fun _ => rfl) ?_ (fun env H hle => ?_)
   ·refine G0 5 Z (Is 62 h224 Z (fun hg225 h224 => ?_) (fun hg225 h224 => ?_))
    ·exact Go 21 Z (Cl h224 [0,1,3])
    ·refine Go 1 Z (Cz [] h224 (k_w _ _) Z fun r226 hr226 h224 => Go 3 Z (Is 67 h224 Z (fun hg227 h224 => ?_) (fun hg227 h224 => ?_)))
     ·exact Go 16 Z (Cl h224 [0,1,3])
     ·refine Go 4 Z (Lm Z (Go 3 Z (Is 75 h224 Z (fun hg228 h224 => ?_) (fun hg228 h224 => ?_))))
      ·exact Go 8 Z (Cl h224 [0,1,3])
      ·exact Go 4 Z (Lm Z (Go 3 Z (Cl h224 [0,1,3])))
   refine Gx 1 Z (TC.le hle (Cn Z h217 (fun hc229 h217 => ?_) (fun hc229 h217 => ?_)))
   ·refine Gc 3 Z ?_
    cases h217
    exact Qh Z (Lr [0, 1])
   refine Gc 15 Z (Bd h217 fun b241 h242 h217 => ?_)
   refine Ct b241 [0,1] [1,2,5,51,52,53] (fun b241 => [(10, .bool b241)]) (fun _ => []) (fun _ => rfl) ?_ (fun env H hle => ?_)
   ·refine G0 1 Z ?_
    refine Lp [0,1,2] [1,2,5,9,51,52,53,83,84] (fun s244 => [(10, .bool s244.1), (85, I s244.2)]) (fun _ => []) h242 (fun _ => rfl) (Lr [0, 1, 2]) fun s244 d245 h246 hb243 => ?_
    refine G0 6 Z (Q1 Z h246 (fun hc247 h246 => ?_) (fun hc247 h246 => ?_))
    ·refine Gc 2 Z (Qg h246 ?_)
     obtain rfl := Oj hb243 h246
     exact Gx 1 Z (Qt (Lr [0, 1]))
    refine Gc 6 Z (Bd h246 fun x248 hx248 h246 => ?_)
    refine vX (.ptr 1 (Int.toNat s244.2 * 8)) (QS hx248 Z runUnderlying38 sizeOf50) ?_
    refine vX (.agg (Starter.c x248)) (Ql Z isAgg50 sizeOf50 Z (Qu hx248) Z Z) ?_
    refine Go 4 Z (Bd h246 fun b250 h251 h246 => ?_)
    refine Ct b250 [0,1,2] [1,2,5,9,51,52,53,83,84,85] (fun b250 => [(10, .bool b250)]) (fun _ => []) (fun _ => rfl) ?_ (fun env H hle => ?_)
    ·refine G0 3 Z (Is 90 h251 Z (fun hg252 h251 => ?_) (fun hg252 h251 => ?_))
     ·exact Go 8 Z (Cl h251 [0,1,2])
     ·exact Go 8 Z (Cl h251 [0,1,2])
    exact Gx 2 Z (TC.le hle (Gc 4 Z (Qf h246 (Lr [0, 1, 2]))))
   refine Gx 1 Z (TC.le hle (Gc 6 Z (Cn Z h217 (fun hc253 h217 => ?_) (fun hc253 h217 => ?_))))
   ·refine Gc 7 Z ?_
    cases h217
    refine Qi (Gx 1 Z (Qk h178 ?_))
    obtain rfl := Oj hb175 h178
    exact Gx 1 Z (Qi (Gx 1 Z (Rt h 4 [])))
   refine Gc 2 Z ?_
   cases h217
   exact Qh Z (Lr [0, 1])
  subst hb
  exact Gx 1 Z (TC.le hle (Gc 4 Z (Qf h178 (Lr [0, 1]))))
 subst hbe
 refine Gx 1 Z (TC.le hle (Gc 8 Z (Bd h fun b524 h525 h => ?_)))
 refine CtE (b := b524) [] [] (fun _ => []) (fun _ => []) (fun _ => rfl) ?_ (fun sb524 env H hbe hle => ?_)
 ·refine G0 1 Z ?_
  refine Lp [0,1] [1,2,5,101,102] (fun s527 => [(103, I s527)]) (fun _ => []) h525 (fun _ => rfl) (Lr [0, 1]) fun s527 d528 h529 hb526 => ?_
  refine G0 6 Z (Q1 Z h529 (fun hc530 h529 => ?_) (fun hc530 h529 => ?_))
  ·refine Gc 2 Z (Qg h529 ?_)
   obtain rfl := Oj hb526 h529
   exact Gx 1 Z (Qh Z (Lr []))
  refine Gc 7 Z (Bd h529 fun x531 hx531 h529 => ?_)
  refine vX (.ptr 1 (Int.toNat s527 * 8)) (QS hx531 Z runUnderlying38 sizeOf50) ?_
  refine vX (.agg (Starter.c x531)) (Ql Z isAgg50 sizeOf50 Z (Qu hx531) Z Z) ?_
  refine Go 7 Z (Bd h529 fun b534 h535 h529 => ?_)
  refine Ct b534 [0,1,2] [1,2,5,14,101,102,103] (fun b534 => [(120, .bool b534)]) (fun _ => []) (fun _ => rfl) ?_ (fun env H hle => ?_)
  ·refine G0 0 Z (DSs 11 Z (D 3 Z (QfY 2 h535 Z Z Z (fun hg536 h535 => ?_) (fun hg536 h535 => ?_))))
   ·refine D 3 Z ?_
    obtain ⟨x537, hx537, h535⟩ := bnd h535
    refine DS.v (x := (.ptr 1 (Int.toNat (IntKind.i64.wrap (s527 - 1)) * 8))) (QS hx537 Z runUnderlying38 sizeOf50) ?_ (hg := (gT Z))
    refine DS.wo (x := .ptr 1 (Int.toNat (IntKind.i64.wrap (s527 - 1)) * 8)) ?_ ?_
    ·exact Fpg (gT Z) QgQ Z Wp
    refine DS.v (x := (I x537.Bib)) (OpV.load Z isAgg3 Z (Qu hx537)) ?_ (hg := (gT Z))
    exact D 2 Z (DS.done Z (Go 3 Z (Cl h535 [0,1,2])))
   ·exact D 8 Z (DS.done Z (Go 3 Z (Cl h535 [0,1,2])))
  refine Gx 1 Z (TC.le hle (Cn Z h529 (fun hc538 h529 => ?_) (fun hc538 h529 => ?_)))
  ·refine Gc 9 Z (Qk h529 ?_)
   obtain rfl := Oj hb526 h529
   exact Gx 1 Z (Qi (Gx 1 Z (Rt h 4 [])))
  refine Gc 13 Z (Lm Z (Go 3 Z (Bd h529 fun b576 h577 h529 => ?_)))
  refine Ct b576 [0,1,2,3] [1,2,5,14,15,101,102,103] (fun _ => []) (fun b576 => [(3, .cells 81 (Fact.c b576))]) (fun _ => rfl) ?_ (fun env H hle => ?_)
  ·refine G0 1 Z ?_
   refine Lp [0,1,2,3] [1,2,5,14,15,101,102,103,122,123] (fun s579 => [(124, I s579.2)]) (fun s579 => [(3, .cells 81 (Fact.c s579.1))]) h577 (fun _ => rfl) (Lr [0, 1, 2, 3]) fun s579 d580 h581 hb578 => ?_
   refine G0 6 Z (Q1 Z h581 (fun hc582 h581 => ?_) (fun hc582 h581 => ?_))
   ·refine Gc 2 Z (Qg h581 ?_)
    obtain rfl := Oj hb578 h581
    exact Gx 1 Z (Qt (Lr [0, 1, 2, 3]))
   refine Gc 6 Z (Bd h581 fun x583 hx583 h581 => Iz hx583 Z (Go 6 Z (Bd h581 fun b590 h591 h581 => ?_)))
   refine Ct b590 [0,1,2,3,4] [1,2,5,14,15,17,101,102,103,122,123,124] (fun b590 => [(152, .bool b590)]) (fun _ => []) (fun _ => rfl) ?_ (fun env H hle => ?_)
   ·refine G0 5 Z (Is 131 h591 Z (fun hg592 h591 => ?_) (fun hg592 h591 => ?_))
    ·refine Go 3 Z ?_
     refine vX (.bool (x583.Starter == x531)) (Qcx (p := x583.Starter) (q := x531) Qke Z Z) ?_ (gT Z)
     refine Go 2 Z (Is 137 h591 Z (fun hg593 h591 => ?_) (fun hg593 h591 => ?_))
     ·refine Go 1 Z (Cz [] h591 (k_w _ _) Z fun r594 hr594 h591 => Go 3 Z (Is 142 h591 Z (fun hg595 h591 => ?_) (fun hg595 h591 => ?_)))
      ·refine Go 4 Z (Is 146 h591 Z (fun hg596 h591 => ?_) (fun hg596 h591 => ?_))
       ·exact Go 7 Z (Cl h591 [0,1,2,3,4])
       ·exact Go 2 Z (Cz [] h591 (k_ah _ _ _) Z fun r597 hr597 h591 => Go 4 Z (Cl h591 [0,1,2,3,4]))
      ·exact Go 11 Z (Cl h591 [0,1,2,3,4])
     ·exact Go 16 Z (Cl h591 [0,1,2,3,4])
    ·exact Go 22 Z (Cl h591 [0,1,2,3,4])
   refine Gx 1 Z (TC.le hle (Bd h581 fun b599 h600 h581 => ?_))
   refine Ct b599 [0,1,2,3] [1,2,5,14,15,101,102,103,122,123,124] (fun _ => []) (fun b599 => [(3, .cells 81 (Fact.c b599))]) (fun _ => rfl) ?_ (fun env H hle => ?_)
   ·refine G0 0 Z (Cn Z h600 (fun hc601 h600 => ?_) (fun hc601 h600 => ?_))
    ·exact Gc 4 Z (Cl h600 [0,1,2,3])
    exact Gc 1 Z (Cl h600 [0,1,2,3])
   exact Gx 2 Z (TC.le hle (Gc 4 Z (Qf h581 (Lr [0, 1, 2, 3]))))
  refine Gx 1 Z (TC.le hle (Gc 8 Z (Cn Z h529 (fun hc602 h529 => ?_) (fun hc602 h529 => ?_))))
  ·refine Gc 9 Z (Qk h529 ?_)
   obtain rfl := Oj hb526 h529
   exact Gx 1 Z (Qi (Gx 1 Z (Rt h 4 [])))
  refine Gc 5 Z (Lm Z (Go 3 Z (Bd h529 fun b642 h643 h529 => ?_)))
  refine CtE (b := b642) [0,1] [1,2,5,101,102,103] (fun _ => []) (fun _ => []) (fun _ => rfl) ?_ (fun sb642 env H hbe hle => ?_)
  ·refine G0 1 Z ?_
   refine Lp [0,1,2,3] [1,2,5,14,15,101,102,103,158,159] (fun s645 => [(160, I s645)]) (fun _ => []) h643 (fun _ => rfl) (Lr [0, 1, 2, 3]) fun s645 d646 h647 hb644 => ?_
   refine G0 6 Z (Q1 Z h647 (fun hc648 h647 => ?_) (fun hc648 h647 => ?_))
   ·refine Gc 2 Z (Qg h647 ?_)
    obtain rfl := Oj hb644 h647
    exact Gx 1 Z (Qh Z (Lr [0, 1]))
   refine Gc 6 Z (Bd h647 fun x649 hx649 h647 => Iz hx649 Z (Go 14 Z (Bd h647 fun b657 h658 h647 => ?_)))
   refine Ct b657 [0,1,2,3] [1,2,5,14,15,101,102,103,158,159,160] (fun b657 => [(202, .bool b657)]) (fun _ => []) (fun _ => rfl) ?_ (fun env H hle => ?_)
   ·refine G0 5 Z (Is 169 h658 Z (fun hg659 h658 => ?_) (fun hg659 h658 => ?_))
    ·refine Go 7 Z (Is 176 h658 Z (fun hg660 h658 => ?_) (fun hg660 h658 => ?_))
     ·refine Go 1 Z (Cz [] h658 (k_w _ _) Z fun r661 hr661 h658 => Go 3 Z (Is 181 h658 Z (fun hg662 h658 => ?_) (fun hg662 h658 => ?_)))
      ·refine Go 4 Z (Lm Z (Go 3 Z (Is 189 h658 Z (fun hg663 h658 => ?_) (fun hg663 h658 => ?_))))
       ·refine Go 4 Z (Lm Z (Go 3 Z (Is 197 h658 Z (fun hg664 h658 => ?_) (fun hg664 h658 => ?_))))
        ·exact Go 2 Z (Cz [] h658 (k_ah _ _ _) Z fun r665 hr665 h658 => Go 3 Z (Cl h658 [0,1,2,3]))
        ·exact Go 6 Z (Cl h658 [0,1,2,3])
       ·exact Go 14 Z (Cl h658 [0,1,2,3])
      ·exact Go 22 Z (Cl h658 [0,1,2,3])
     ·exact Go 27 Z (Cl h658 [0,1,2,3])
    ·exact Go 34 Z (Cl h658 [0,1,2,3])
   refine Gx 1 Z (TC.le hle (Cn Z h647 (fun hc666 h647 => ?_) (fun hc666 h647 => ?_)))
   ·refine Gc 8 Z (Qk h647 ?_)
    obtain rfl := Oj hb644 h647
    refine Gx 1 Z (Qi (Gx 2 Z (Qk h529 ?_)))
    obtain rfl := Oj hb526 h529
    exact Gx 1 Z (Qi (Gx 1 Z (Rt h 4 [])))
   exact Gc 7 Z (Qf h647 (Lr [0, 1, 2, 3]))
  subst hbe
  exact Gx 2 Z (TC.le hle (Gc 4 Z (Qf h529 (Lr [0, 1]))))
 subst hbe
 exact Gx 1 Z (TC.le hle (Gc 6 Z (Rt h 4 [])))
end Go.Sw
